/- Lemmas for the last file. -/
import Derived.Test.YtbflaciihaijgaaGreatUEO
set_option linter.all false
set_option maxHeartbeats 32000000
namespace Go.Ab
set_option maxRecDepth 20000
open Go
variable{qn:Prop}
def oB(h:qn:=by (try simp only[aS,bK]);omega):=h
def ri(h:qn:=by first|rfl|((try simp only[aS,bK]);omega)):=h
def Jm(h:qn:=by rw[<- Y,Hp.get_set,if_neg J]):=h
def BH(h:qn:=by simp[xZ]):=h
def Og(h:qn:=by have:=h.nS k z;omega):=h
def Oh(h:qn:=by have:=h.sS k z;omega):=h
def Xq(h:qn:=by simp only[List.all_cons,List.all_nil,hone];rfl):=h
def Jn(h:qn:=by rw[List.length_map,show ej=70368744177664 from rfl];omega):=h
def Xr(h:qn:=by rw[j _ ac,O _ ac,C _ ac ac,oHc _ ac,oH7 _ ac ac,oHb _ ac,oH6 _ ac ac,oHa _ ac]):=h
def Xs(h:qn:=by rw[j _ ac,O _ ac,C _ ac ac,oHc _ ac,oH7 _ ac ac,oHb _ ac]):=h
def Xt(h:qn:=by rw[j _ ac,O _ ac,C _ ac ac,oHc _ ac]):=h
end Go.Ab
namespace Go.Proofs.YtbflaciihaijgaaGreat
set_option maxRecDepth 20000
open Go Go.Ab Proofs.Tryz
variable{lo r q k i z:Nat}{H H' Z:Hp}{x y f:Int}{S J:Nat->Prop}{c:Sc}{s:Bd}{v O:AV}{l:qA}{tb:qH}
section
def tyG6.tyF:=ad @dm (ad @cG (ad @eG (ad @ij (ad @l8 (ad @jU (ad @ey (ad @jx (ad @i7 (ad @jh (ad @iC (ad @tG (ad @nZ (ad @kg (ad @AE (ad @sw (ad @DV (ad @Nat.zero_mul (@Gg))))))))))))))))))
open tyG6
noncomputable def Xu:=qd (M:=61) f12.eq_1
def Xv(J:qH):Prop:=∀(f:Int) (k Y:Nat),4<=Y+k->Y<=3->sT J k f Y
def zl8{J:qH}(C:zf3 J):Xv J:=Xp C
def jD(L:qA):qJ×cO:=mp 0 4 0 5 ((bO L).2,0)
def lN(L:qA):Ex×qA:=bC 0 4 1 (jD L).2.1
def nM(L:qA):qJ×cO:=mp 1 3 1 3 ((lN L).2,(jD L).2.2)
def wF(L:qA):Ex×qA:=bC 1 4 1 (nM L).2.1
def iK(L:qA):Fu:=⟨[102],[[120],[121]],[[105],[106]],(jD L).1,(lN L).1⟩
def iT(L:qA):Fu:=⟨[103],[[110]],[[105]],(nM L).1,(wF L).1⟩
def rj(L:qA):qT:=[⟨[97],1+cK (bO L).1 4⟩,⟨[98],1+cK (cy ((bO L).1.tdiv 4)) 4⟩]
def bQ(l:qA):Pr:=⟨rj (l.take 60),[iK (l.take 60),iT (l.take 60)]⟩
structure znP (lo n:Nat) (H:Hp) (p:Pr) (ra rf:Nat) (x y:Int) (f g:Fu) (cf cg:qB):Prop where
 ep:p=⟨[⟨[97],x⟩,⟨[98],y⟩],[f,g]⟩
 ga:H.get ra=some (.cells [.ay [97],.int .i64 x,.ay [98],.int .i64 y] 0 true)
 gf:H.get rf=some (.cells (cf++cg) 0 true)
 la:lo<=ra/\ra<H.next
 lf:lo<=rf/\rf<H.next
 ne:ra≠rf
 lcf:cf.length=9
 lcg:cg.length=9
 wf:cY (fun q=>lo<=q/\q≠ra/\q≠rf) n H cf f.cells
 wg:cY (fun q=>lo<=q/\q≠ra/\q≠rf) n H cg g.cells
def znP.cells{n:Nat}{p:Pr}{Y V:Nat}{f g:Fu}{L Z:qB}(h:znP lo (n+1) H p Y V x y f g L Z):cY (fun q=>lo<=q) (n+2) H [.sl Y 0 2 2,.sl V 0 2 9] p.cells:=by
 rw[h.ep];refine .cons ?_ (.cons ?_ .nil)
 .refine xX (n:=n+1) (a:=[[.ay [97],.int .i64 x],[.ay [98],.int .i64 y]]) (imm:=0) (tip:=true) h.la.1 h.la.2 h.ga aB ⟨⟨rfl,.cons (.ay _) (.cons (.int _ _) .nil)⟩,⟨rfl,.cons (.ay _) (.cons (.int _ _) .nil)⟩,trivial⟩
 .refine xX (n:=n+1) (a:=[L,Z]) (imm:=0) (tip:=true) h.lf.1 h.lf.2 (by rw[h.gf];simp) aB ⟨⟨h.lcf,h.wf.keep (fun q J=>J.1) (aG _) fun _ _ _=>rfl⟩,⟨h.lcg,h.wg.keep (fun q J=>J.1) (aG _) fun _ _ _=>rfl⟩,trivial⟩
def Xw{n:Nat}(nm:qD){p l b:AV}{v:qB}{f:Fu}(J:f.name=nm)(j:jm S (n+1) H p (gV f.params))(m:jm S (n+1) H l (gV f.aK))(C:jm S (n+1) H b (.aE (f.body.map St.cells)))(Z:cY S (n+1) H v f.value.cells):cY S (n+1) H ([.ay nm,p,l,b]++v) f.cells:=by
 have e:f.cells=[.ay f.name,gV f.params,gV f.aK,.aE (f.body.map St.cells)]++f.value.cells:=xc;rw[e,J];exact(cY.cons (.ay _) (.cons j (.cons m (.cons C .nil)))).append Z
def Jo{n:Nat}{imm:Nat}{tip:Bool}(l:qC)(hS:S r)(hr:r<H.next)(hg:H.get r=some (.cells (l.map .ay) imm tip))(O:imm<=l.length):jm S (n+2) H (.sl r 0 l.length 1) (gV l):=by
 have:=xX (n:=n+1) (a:=l.map fun s=>[AV.ay s]) (z:=1) hS hr (by rw[Ho];exact hg) (by rw[Ho];simpa using O) (fZ.ek l);rw[dk]at this;exact this
def zl9(H:Hp):eW prog H 26 0 []=some (.sl H.next 0 0 1,H.alloc qo):=ax
def zma(v:Nat)(n:Nat):eg prog 82 [(0,.sl v 0 n 1)]=some (.agg [.sl v 0 n 1,.int .i64 0]):=ax
def zmb(s:qD)(n:Int):eg prog 75 [(0,.ay s),(1,.int .i64 n)]=some (.agg [.ay s,.int .i64 n]):=ax
def zmc(H:Hp)(a b:qD)(x y:Int):eW prog H 22 2 [(0,.agg [.ay a,.int .i64 x]),(1,.agg [.ay b,.int .i64 y])]=some (.sl H.next 0 2 2,H.alloc (.cells [.ay a,.int .i64 x,.ay b,.int .i64 y] 0 true)):=ax
def zmd(r n:Nat):eg prog 25 [(0,.sl r 0 n 2)]=some (.agg [.sl r 0 n 2,.ao]):=ax
def zme(s:qD)(r n q m:Nat):eg prog 72 [(0,.ay s),(1,.sl r 0 n 1),(2,.sl q 0 m 1)]=some (.agg [.ay s,.sl r 0 n 1,.sl q 0 m 1,.ao,.int .i64 0,.int .i64 0,.ay [],.int .i64 0,.ao]):=ax
def zmf(H:Hp)(fD aI a6 cp dO cI eO nN sZ j Z z Y V m O I J:AV):eW prog H 23 2 [(0,.agg [fD,aI,a6,cp,dO,cI,eO,nN,sZ]),(1,.agg [j,Z,z,Y,V,m,O,I,J])]=some (.sl H.next 0 2 9,H.alloc (.cells [fD,aI,a6,cp,dO,cI,eO,nN,sZ,j,Z,z,Y,V,m,O,I,J] 0 true)):=ax
def Xx(H:Hp)(s:qD):eW prog H 66 1 [(0,.ay s)]=some (.sl H.next 0 1 1,H.alloc (.cells [.ay s] 0 true)):=ax
theorem Xy(a b:AV):cr 2 [a,b]=some (.agg [a,b]):=rfl
theorem zmg(l:qA):(l.map fun n=>[AV.int .i64 n]).flatten=l.map fun n=>AV.int .i64 n:=by
 induction l with
 |nil=>rfl
 |cons a l ih=>simp only[eC,pF,ih];rfl
theorem zmh(l:qA)(hg:H.get q=some qo)(J:q<H.next)(z:l.length<=60):
 ∃v H',dr prog false H 26 26 (.sl q 0 0 1) (.aE (l.map fun n=>[AV.int .i64 n]))=some (v,H')/\(∃b V,v=.sl b 0 l.length 1/\H'.get b=some (.cells (l.map fun n=>.int .i64 n) V true)/\b<H'.next/\(b=q\/b=H.next))/\H.next<=H'.next/\∀k,k<H.next->k≠q->H'.get k=H.get k:=by
 have m:ej=70368744177664:=rfl;have O:(l.map fun n=>[AV.int .i64 n]).flatten=l.map fun n=>AV.int .i64 n:=zmg l;have L:gg H 1 (.aE (l.map fun n=>[AV.int .i64 n]))=some (l.length,l.map fun n=>AV.int .i64 n):=by
  have e:gg H 1 (.aE (l.map fun n=>[AV.int .i64 n]))=if ((l.map fun n=>[AV.int .i64 n]).all fun Z=>Z.length == 1)then some ((l.map fun n=>[AV.int .i64 n]).length,(l.map fun n=>[AV.int .i64 n]).flatten)else none:=rfl
  rw[e,ai aB,O,dk]
 have I:(l.map fun n=>AV.int .i64 n).all AV.one=true:=by simp[AV.one]
 cases l with
 |nil=> 
  refine⟨.sl q 0 0 1,H,?_,⟨q,0,rfl,hg,J,.inl rfl⟩,aG _,fun _ _ _=>rfl⟩
  .simp only[dr,underlying26,jI,rM,rN,show jF prog 26=true by kernel_rfl,L,jQ]
 |cons a l=>
  simp only[fc]at L z;have C:iM false H 1 (.sl q 0 0 1)=H:=by
   unfold iM;simp only[hg];rfl
  refine⟨.sl H.next 0 (0+(l.length+1)) 1,(H.bh q).alloc (.cells ([]++(a::l).map fun n=>.int .i64 n) (0-0) true),?_,⟨H.next,0,aB,?_,cn _,.inr rfl⟩,dg _,fun k j Y=>?_⟩
  .simp only[dr,underlying26,jI,rM,rN,show jF prog 26=true by kernel_rfl,L,I,C,sC,dG,pD,oD,hg,bR,lW,List.drop_nil,dV,fK];rw[ai ⟨by rw[m];omega,by rw[m];omega,aB⟩]
  .show((H.bh q).alloc _).get (H.bh q).next=_
   rw[aL,ai rfl];simp
  .rw[aL,ah rT,jH,ah Y]
theorem zmi(l:qA):jZ prog 26 (.aE (l.map fun n=>[AV.int .i64 n])) none (some (.int .i64 (min (l.length:Int) 60)))=some (.aE ((l.take 60).map fun n=>[AV.int .i64 n])):=by
 have e:min (l.length:Int) 60=((min l.length 60:Nat):Int):=ac;rw[e];simp only[jZ,underlying26,jI];show(if 0<=min l.length 60/\min l.length 60<=(l.map fun n=>[AV.int .i64 n]).length then _ else none)=_;rw[ai ⟨eR _,cZ⟩];have V:((l.map fun n=>[AV.int .i64 n]).drop 0).take (min l.length 60-0)=(l.take 60).map fun n=>[AV.int .i64 n]:=by
  rw[gm,FW,<-JY,List.take_eq_take_iff.2];omega
 rw[V];cases l.take 60 with
 |nil=>rfl
 |cons a l=>rfl
abbrev qp:HB:=.cells [.ao,.ao] 0 true
structure AtP (n0 M:Nat) (x y:Int) (H:Hp):Prop where
 lt:n0<M/\M+8<=H.next
 rs:H.get n0=some qp
 ra:H.get (M+1)=some (.cells [.ay [97],.int .i64 x,.ay [98],.int .i64 y] 0 true)
 t5:H.get (M+2)=some (.cells [.sl (M+1) 0 2 2,.sl (M+7) 0 2 9] 0 true)
 p1:H.get (M+3)=some (.cells [.ay [120],.ay [121]] 0 true)
 l1:H.get (M+4)=some (.cells [.ay [105],.ay [106]] 0 true)
 p2:H.get (M+5)=some (.cells [.ay [110]] 0 true)
 l2:H.get (M+6)=some (.cells [.ay [105]] 0 true)
def AtP.keep{Z M:Nat}(h:AtP Z M x y H)(C:H.next<=H'.next)(hg:∀q,(q=Z\/M+1<=q/\q<M+7)->H'.get q=H.get q):AtP Z M x y H':=by
 obtain⟨⟨L,O⟩,rs,Y,V,J,l1,I,l2⟩:=h;exact⟨⟨L,ac⟩,by rw[hg _ (.inl rfl)];exact rs,by rw[hg _ ac];exact Y,by rw[hg _ ac];exact V,by rw[hg _ ac];exact J,by rw[hg _ ac];exact l1,by rw[hg _ ac];exact I,by rw[hg _ ac];exact l2⟩
set_option maxRecDepth 100000 in
theorem zmj{lG:qH}(hG:zf3 lG)(hst:Xv lG)(l:qA)(hl:l.length<2^63)(H:Hp):
 aR prog (aA pls lG) 12 [.aE (l.map fun n=>[AV.int .i64 n])] H fun v H'=>∃ra rf x y cf cg,v=.agg [.sl ra 0 2 2,.sl rf 0 2 9]/\znP H.next 14 H' (bQ l) ra rf x y (iK (l.take 60)) (iT (l.take 60)) cf cg/\H.next<=H'.next/\(∀q,q<H.next->H'.get q=H.get q)/\H.next<ra/\∃pt pf lf bf vf pg lg bg vg,cf=Ip [102] pf lf bf vf/\cg=Ip [103] pg lg bg vg/\ProgL pt 14 H' ra rf x y (iK (l.take 60)) (iT (l.take 60)) pf lf bf vf pg lg bg vg/\rj (l.take 60)=[⟨[97],x⟩,⟨[98],y⟩]/\∀q,q<H.next->pt q=0:=by
 have hw:zd0 (aA pls lG) 12:=hG.plain cN;have hkeep:(aA pls lG).keep 12=false:=rfl;have hnx:zd0 (aA pls lG) 32:=hG.plain cN;have hs:=zmi l;have hL60:(l.take 60).length<=60:=FT;have hq4:(4:Int)≠0:=aF;have hgP:bQ l=⟨rj (l.take 60),[iK (l.take 60),iT (l.take 60)]⟩:=rfl;generalize bQ l=P0 at *;refine qe hw func12 Xu ?_;dsimp only[Xu,qd,a1,Nat.reduceAdd];have gh0:=@zl9;refine fT fun K hK=>?_;generalize l.take 60=L at *;have gq:((H.alloc qp).alloc qo).get (H.next+1)=some qo:=by rw[aL,ai cN]
 obtain⟨v,Z,a6,⟨b,imm,rfl,gb,hb,hb2⟩,n2,o2⟩:=zmh L gq (cn _) hL60;simp only[aS]at n2 o2 hb2;refine mG cS cS (by rw[hkeep];exact a6) ?_;have gh0:=@zma;refine fT fun K hK=>?_;have hrd3:jL (Z.next+1) (Z.alloc (.cells [.sl b 0 L.length 1,.int .i64 0] 0 true)) Z.next L 0:=⟨cn _,aG _,_,fw,.inr ⟨b,0,_,imm,rfl,by rw[aL,ah ac];exact gb,rfl,ac,ac⟩⟩
 have g3:(Z.alloc (.cells [.sl b 0 L.length 1,.int .i64 0] 0 true)).get H.next=some qp:=by rw[aL,ah ac,o2 _ ac ac,aL,ah iF,aL,ai rfl]
 have o3:∀q,q<H.next->(Z.alloc (.cells [.sl b 0 L.length 1,.int .i64 0] 0 true)).get q=H.get q:=fun q J=>by rw[aL,ah ac,o2 _ ac ac,aL,ah iF,aL,ah ac]
 generalize hH3:Z.alloc (.cells [.sl b 0 L.length 1,.int .i64 0] 0 true)=H3 at *;have n3:H3.next=Z.next+1:=by rw[<-hH3];rfl
 clear hH3 gb hb hb2 a6 gq o2;refine qj ?_;refine a8 ?_ (In hnx hrd3 ac);rintro v H4 ⟨rfl,hr4,n4,o4⟩;have g4:H4.get H.next=some qp:=by rw[o4 _ ac];exact g3
 have o4':∀q,q<H.next->H4.get q=H.get q:=fun q J=>by rw[o4 _ ac];exact o3 q J
 clear o4 o3 g3 hrd3;have hL1:=ou L;have hA:rj L=[⟨[97],1+cK (bO L).1 4⟩,⟨[98],1+cK (cy ((bO L).1.tdiv 4)) 4⟩]:=rfl;have hp1:=mO (n:=(bO L).1) (m:=4) ac ac;have hp2:=mO (n:=cy ((bO L).1.tdiv 4)) (m:=4) ac ac;have hB1:jD L=mp 0 4 0 5 ((bO L).2,0):=rfl;have hV1:lN L=bC 0 4 1 (jD L).2.1:=rfl;have hB2:nM L=mp 1 3 1 3 ((lN L).2,(jD L).2.2):=rfl;have hV2:wF L=bC 1 4 1 (nM L).2.1:=rfl;have hF1:iK L=⟨[102],[[120],[121]],[[105],[106]],(jD L).1,(lN L).1⟩:=rfl;have hF2:iT L=⟨[103],[[110]],[[105]],(nM L).1,(wF L).1⟩:=rfl;have hl1:(jD L).2.1.length<=(bO L).2.length:=by rw[hB1];exact dt (D6 (D7 0 4 0) _ _) (ou _)
 have hl2:(lN L).2.length<=(jD L).2.1.length:=ft 0 4 1 _;have hl3:(nM L).2.1.length<=(lN L).2.length:=by rw[hB2];exact dt (D6 (D7 1 3 1) _ _) (ou _)
 generalize jD L=B1 at *;generalize lN L=V1 at *;generalize nM L=B2 at *;generalize wF L=V2 at *;generalize iK L=Ff at *;generalize iT L=Fg at *;generalize rj L=Aa at *;generalize (bO L).1=n at *;generalize (bO L).2=L1 at *;have hw1:IntKind.wrap .i64 (1+cK n 4)=1+cK n 4:=fN ac ac;have hw2:IntKind.wrap .i64 (1+cK (cy (n.tdiv 4)) 4)=1+cK (cy (n.tdiv 4)) 4:=fN ac ac;have hw3:IntKind.wrap .i64 (n.tdiv 4)=cy (n.tdiv 4):=rfl;dsimp only[a0];have gh0:=@zmb;have gh1:=@zmc;have gh2:=@zmd;have gh3:=@Xx;have gh4:=@zme;have gh5:=@zmf;repeat' (first
  |(apply ay ?_;clear hK K)|apply a9 ?_|(apply fq ?_;first|refine Rx.k (xV hG.pick _ _ aF _) ?_)|(apply az fun K hK=>?_)|(apply bV 5 [(1,3),(1,6)] fun K hK=>?_)|(apply bB ?_;try intro _)|fail)
 generalize hx:1+cK n 4=x at *;generalize hy:1+cK (cy (n.tdiv 4)) 4=y at *;rename_i H4 _;have hne:∀i,(H.next == Z.next+i)=false:=fun i=>aZ ac;have hmn:H.next<Z.next:=ac
 generalize hHs:Hp.set (Hp.alloc _ _) _ _=Hs;have hat:AtP H.next Z.next x y Hs:=by
  rw[<-hHs];refine⟨⟨hmn,mL⟩,?_,?_,?_,?_,?_,?_,?_⟩
  .repeat (first|rw[aQ,ah oB]|rw[aL,ah oB])
   exact g4
  ·(repeat (first|rw[aQ,ah oB]|rw[aL,ah oB]));(first|rw[aQ,ai ri]|rw[aL,ai ri])
  ·(repeat (first|rw[aQ,ah (by(try simp only[]);omega)]|rw[aL,ah oB]));(first|rw[aQ,ai ri]|rw[aL,ai ri])
  ·(repeat (first|rw[aQ,ah oB]|rw[aL,ah oB]));(first|rw[aQ,ai ri]|rw[aL,ai ri])
  ·(repeat (first|rw[aQ,ah oB]|rw[aL,ah oB]));(first|rw[aQ,ai ri]|rw[aL,ai ri])
  ·(repeat (first|rw[aQ,ah oB]|rw[aL,ah oB]));(first|rw[aQ,ai ri]|rw[aL,ai ri])
  ·(repeat (first|rw[aQ,ah oB]|rw[aL,ah oB]));(first|rw[aQ,ai ri]|rw[aL,ai ri])
 have gf:Hs.get (Z.next+7)=some (.cells [.ay [102],.sl (Z.next+3) 0 2 1,.sl (Z.next+4) 0 2 1,.ao,.int .i64 0,.int .i64 0,.ay [],.int .i64 0,.ao,.ay [103],.sl (Z.next+5) 0 1 1,.sl (Z.next+6) 0 1 1,.ao,.int .i64 0,.int .i64 0,.ay [],.int .i64 0,.ao] 0 true):=by
  rw[<-hHs];(repeat (first|rw[aQ,ah oB]|rw[aL,ah oB]));(first|rw[aQ,ai ri]|rw[aL,ai ri])
 have olds:∀q,q<Z.next+1->Hs.get q=H4.get q:=fun q J=>by
  rw[<-hHs];repeat (first|rw[aQ,ah ac]|rw[aL,ah oB])
 have hns:Hs.next=Z.next+8:=by rw[<-hHs];simp only[bK,aS];omega
 have hrs:jL (Z.next+1) Hs Z.next L1 0:=hr4.keep ac olds
 have os:∀q,q<H.next->Hs.get q=H.get q:=fun q J=>by rw[olds q ac];exact o4' q J
 clear olds hHs hr4 g4 o4';have h02:(0:Nat)<2:=aF;have h12:(1:Nat)<2:=aF;refine qk ?_;refine a8 ?_ (D8 hG (hst 0 4 0 ac ac) 5 ac ac (Z.next+1) Hs Z.next (L1,0) hrs xN);rintro v1 H5 ⟨z,hr5,n5,o5⟩;rw[<-hB1]at z hr5;obtain⟨t1,t2⟩:=z.one;have hat5:=hat.keep n5 fun q J=>o5 q ac ac;have g5t:=hat5.t5;have g5f:H5.get (Z.next+7)=some (.cells [.ay [102],.sl (Z.next+3) 0 2 1,.sl (Z.next+4) 0 2 1,.ao,.int .i64 0,.int .i64 0,.ay [],.int .i64 0,.ao,.ay [103],.sl (Z.next+5) 0 1 1,.sl (Z.next+6) 0 1 1,.ao,.int .i64 0,.int .i64 0,.ay [],.int .i64 0,.ao] 0 true):=by rw[o5 _ ac ac];exact gf
 have gst:=hat.t5;dsimp only[a0];repeat' (first
  |apply aT ?_|(apply bV 6 [(1,3),(1,6)] fun K hK=>?_)|(apply bB ?_;try intro _)|(apply bY ?_ ?_<;>clear hK K)|fail)
 .exact bM
 have n5':=n5;generalize Y:Hp.set H5 (Z.next+7) _=Ha;have nHa:Ha.next=H5.next:=BD
 have oHa:∀q,q≠Z.next+7->Ha.get q=H5.get q:=fun q J=>Jm
 have gfHa:Ha.get (Z.next+7)=some (.cells [.ay [102],.sl (Z.next+3) 0 2 1,.sl (Z.next+4) 0 2 1,v1,.int .i64 0,.int .i64 0,.ay [],.int .i64 0,.ao,.ay [103],.sl (Z.next+5) 0 1 1,.sl (Z.next+6) 0 1 1,.ao,.int .i64 0,.int .i64 0,.ay [],.int .i64 0,.ao] 0 true):=BE;clear Y;have hatHa:=hat5.keep (kX nHa.symm) fun q J=>oHa q ac;have gtHa:=hatHa.t5;have hrHa:=hr5.keep (kX nHa.symm) fun q J=>oHa q ac;have hMl:=hat.lt;refine BV ?_;refine qk ?_;refine a8 ?_ (ow hG 4 0 1 ac ac (Z.next+1) Ha Z.next _ _ hrHa ac);rintro _ H6 ⟨⟨cs,rfl,hc1,hc2,hc3⟩,hrH6,nH6,oH6⟩;rw[<-hV1]at hc3 hrH6;obtain⟨p0,p1,p2,p3,p4,rfl⟩:=mo hc1;obtain⟨u0,u1,u2,u3,u4⟩:=x7 hc2;have hatH6:=hatHa.keep nH6 fun q J=>oH6 q ac ac;have gtH6:=hatH6.t5;have gfH6:H6.get (Z.next+7)=some (.cells [.ay [102],.sl (Z.next+3) 0 2 1,.sl (Z.next+4) 0 2 1,v1,.int .i64 0,.int .i64 0,.ay [],.int .i64 0,.ao,.ay [103],.sl (Z.next+5) 0 1 1,.sl (Z.next+6) 0 1 1,.ao,.int .i64 0,.int .i64 0,.ay [],.int .i64 0,.ao] 0 true):=by rw[oH6 _ ac ac];exact gfHa
 dsimp only[a0];repeat' (first
  |apply aT ?_|(apply bV 7 [(1,3),(1,6)] fun K hK=>?_)|(apply bB ?_;try intro _)|(apply bY ?_ ?_<;>clear hK K)|fail)
 .exact bM
 generalize Y:Hp.set H6 (Z.next+7) _=Hb;have nHb:Hb.next=H6.next:=BD
 have oHb:∀q,q≠Z.next+7->Hb.get q=H6.get q:=fun q J=>Jm
 have gfHb:Hb.get (Z.next+7)=some (.cells [.ay [102],.sl (Z.next+3) 0 2 1,.sl (Z.next+4) 0 2 1,v1,p0,p1,p2,p3,p4,.ay [103],.sl (Z.next+5) 0 1 1,.sl (Z.next+6) 0 1 1,.ao,.int .i64 0,.int .i64 0,.ay [],.int .i64 0,.ao] 0 true):=BE;clear Y;have hatHb:=hatH6.keep (kX nHb.symm) fun q J=>oHb q ac;have gtHb:=hatHb.t5;have hrHb:=hrH6.keep (kX nHb.symm) fun q J=>oHb q ac;refine BV ?_;refine qk ?_;refine a8 ?_ (D8 hG (hst 1 3 1 ac ac) 3 ac ac (Z.next+1) Hb Z.next (V1.2,B1.2.2) hrHb xN);rintro v2 H7 ⟨I,hrH7,nH7,oH7⟩;rw[<-hB2]at I hrH7;obtain⟨s1,s2⟩:=I.one;have hatH7:=hatHb.keep nH7 fun q J=>oH7 q ac ac;have gtH7:=hatH7.t5;have gfH7:H7.get (Z.next+7)=some (.cells [.ay [102],.sl (Z.next+3) 0 2 1,.sl (Z.next+4) 0 2 1,v1,p0,p1,p2,p3,p4,.ay [103],.sl (Z.next+5) 0 1 1,.sl (Z.next+6) 0 1 1,.ao,.int .i64 0,.int .i64 0,.ay [],.int .i64 0,.ao] 0 true):=by rw[oH7 _ ac ac];exact gfHb
 dsimp only[a0];repeat' (first
  |apply aT ?_|(apply bV 8 [(1,3),(1,6)] fun K hK=>?_)|(apply bB ?_;try intro _)|(apply bY ?_ ?_<;>clear hK K)|fail)
 .exact bM
 generalize Y:Hp.set H7 (Z.next+7) _=Hc;have nHc:Hc.next=H7.next:=BD
 have oHc:∀q,q≠Z.next+7->Hc.get q=H7.get q:=fun q J=>Jm
 have gfHc:Hc.get (Z.next+7)=some (.cells [.ay [102],.sl (Z.next+3) 0 2 1,.sl (Z.next+4) 0 2 1,v1,p0,p1,p2,p3,p4,.ay [103],.sl (Z.next+5) 0 1 1,.sl (Z.next+6) 0 1 1,v2,.int .i64 0,.int .i64 0,.ay [],.int .i64 0,.ao] 0 true):=BE;clear Y;have hatHc:=hatH7.keep (kX nHc.symm) fun q J=>oHc q ac;have gtHc:=hatHc.t5;have hrHc:=hrH7.keep (kX nHc.symm) fun q J=>oHc q ac;refine BV ?_;refine qk ?_;refine a8 ?_ (ow hG 4 1 1 ac ac (Z.next+1) Hc Z.next _ _ hrHc ac);rintro _ H8 ⟨⟨ds,rfl,hd1,hd2,hd3⟩,hrH8,nH8,C⟩;rw[<-hV2]at hd3 hrH8;obtain⟨w0,dI,w2,w3,w4,rfl⟩:=mo hd1;obtain⟨z0,z1,z2,z3,z4⟩:=x7 hd2;have hatH8:=hatHc.keep nH8 fun q J=>C q ac ac;have gtH8:=hatH8.t5;have gfH8:H8.get (Z.next+7)=some (.cells [.ay [102],.sl (Z.next+3) 0 2 1,.sl (Z.next+4) 0 2 1,v1,p0,p1,p2,p3,p4,.ay [103],.sl (Z.next+5) 0 1 1,.sl (Z.next+6) 0 1 1,v2,.int .i64 0,.int .i64 0,.ay [],.int .i64 0,.ao] 0 true):=by rw[C _ ac ac];exact gfHc
 dsimp only[a0];repeat' (first
  |apply aT ?_|(apply az fun K hK=>?_)|(apply bB ?_;try intro _)|(apply bY ?_ ?_<;>clear hK K)|fail)
 .exact bM
 generalize Y:Hp.set H8 (Z.next+7) _=Hd;have nHd:Hd.next=H8.next:=BD
 have O:∀q,q≠Z.next+7->Hd.get q=H8.get q:=fun q J=>Jm
 have gfHd:Hd.get (Z.next+7)=some (.cells [.ay [102],.sl (Z.next+3) 0 2 1,.sl (Z.next+4) 0 2 1,v1,p0,p1,p2,p3,p4,.ay [103],.sl (Z.next+5) 0 1 1,.sl (Z.next+6) 0 1 1,v2,w0,dI,w2,w3,w4] 0 true):=BE;clear Y;have V:=hatH8.keep (kX nHd.symm) fun q J=>O q ac;have gtHd:=V.t5;have hrHd:=hrH8.keep (kX nHd.symm) fun q J=>O q ac;have gr:=V.rs;have e1:(Z.next+2 == H.next)=false:=aZ ac;have gh0:=@Xy;refine JH ?_;refine⟨aE,_,(by(try simp only[aK,bb,Nat.reduceBEq,Nat.reduceAdd,tyF,dR,eh, *]);first|done|with_reducible rfl),?_⟩;try simp only[aD]
 have old:∀q,q<H.next->((Hd.set H.next (.cells [.sl (Z.next+1) 0 2 2,.sl (Z.next+7) 0 2 9] 0 true)).get q=H.get q):=fun q J=>by
  rw[aQ,ah ac,O _ ac,C _ ac ac,oHc _ ac,oH7 _ ac ac,oHb _ ac,oH6 _ ac ac,oHa _ ac,o5 _ ac ac];exact os q J
 have hz:=V.keep (H':=Hd.set H.next (.cells [.sl (Z.next+1) 0 2 2,.sl (Z.next+7) 0 2 9] 0 true)) (aG _);refine⟨Z.next+1,Z.next+7,x,y,[.ay [102],.sl (Z.next+3) 0 2 1,.sl (Z.next+4) 0 2 1,v1,p0,p1,p2,p3,p4],[.ay [103],.sl (Z.next+5) 0 1 1,.sl (Z.next+6) 0 1 1,v2,w0,dI,w2,w3,w4],rfl,?_,eZ,old,ac,xZ Z.next H5.next H6.next H7.next,.sl (Z.next+3) 0 2 1,.sl (Z.next+4) 0 2 1,v1,[p0,p1,p2,p3,p4],.sl (Z.next+5) 0 1 1,.sl (Z.next+6) 0 1 1,v2,[w0,dI,w2,w3,w4],rfl,rfl,?_,hA,fun q J=>by unfold xZ;rw[ai ac]⟩;all_goals
  have j:∀q,q≠H.next->(Hd.set H.next (.cells [.sl (Z.next+1) 0 2 2,.sl (Z.next+7) 0 2 9] 0 true)).get q=Hd.get q:=fun q J=>by rw[aQ,ah J]
  have nz:(Hd.set H.next (.cells [.sl (Z.next+1) 0 2 2,.sl (Z.next+7) 0 2 9] 0 true)).next=Hd.next:=rfl
  generalize (Hd.set H.next (.cells [.sl (Z.next+1) 0 2 2,.sl (Z.next+7) 0 2 9] 0 true))=Hz at *;have hl:=V.lt
 .refine⟨by rw[hgP,hA],by rw[j _ ac];exact V.ra,by rw[j _ ac];exact gfHd,⟨ac,ac⟩,⟨ac,ac⟩,ac,rfl,rfl,?_,?_⟩
  .rw[hF1];refine Xw (n:=13) [102] rfl (Jo (n:=12) (imm:=0) (tip:=true) [[120],[121]] ⟨ac,ac,ac⟩ ac (by rw[j _ ac];exact V.p1) aB) (Jo (n:=12) (imm:=0) (tip:=true) [[105],[106]] ⟨ac,ac,ac⟩ ac (by rw[j _ ac];exact V.l1) aB) ?_ ?_
   .exact(z.keep (fun q _ J=>⟨ac,ac,ac⟩) ac fun q h1 h2=>Xr).rd.up ac
   .exact(hc3.up ac).bC (fun q _ J=>⟨ac,ac,ac⟩) ac fun q h1 h2=>Xs
  .rw[hF2];refine Xw (n:=13) [103] rfl (Jo (n:=12) (imm:=0) (tip:=true) [[110]] ⟨ac,ac,ac⟩ ac (by rw[j _ ac];exact V.p2) aB) (Jo (n:=12) (imm:=0) (tip:=true) [[105]] ⟨ac,ac,ac⟩ ac (by rw[j _ ac];exact V.l2) aB) ?_ ?_
   .exact(I.keep (fun q _ J=>⟨ac,ac,ac⟩) ac fun q h1 h2=>Xt).rd.up ac
   .exact(hd3.up ac).bC (fun q _ J=>⟨ac,ac,ac⟩) ac fun q h1 h2=>by rw[j _ ac,O _ ac]
 .have ls:=hat.lt;refine⟨by rw[j _ ac];exact V.ra,by rw[j _ ac,gfHd,hF1,hF2];rfl,ac,ac,BH,BH,⟨hc1,hc2,?_,?_,?_,?_⟩,⟨hd1,hd2,?_,?_,?_,?_⟩⟩
  .rw[hF1];exact Io (n:=13) [[120],[121]] BH ac (by rw[j _ ac];exact V.p1)
  .rw[hF1];exact Io (n:=13) [[105],[106]] BH ac (by rw[j _ ac];exact V.l1)
  .rw[hF1];exact(z.keep (fun q h1 h2=>ziH ac h1) ac fun q h1 h2=>Xr).up ac
  .rw[hF1];exact(hc3.up ac).bC (fun q h1 h2=>ziI ac ac h1) ac fun q h1 h2=>Xs
  .rw[hF2];exact Io (n:=13) [[110]] BH ac (by rw[j _ ac];exact V.p2)
  .rw[hF2];exact Io (n:=13) [[105]] BH ac (by rw[j _ ac];exact V.l2)
  .rw[hF2];exact(I.keep (fun q h1 h2=>ziJ ac ac ac h1) ac fun q h1 h2=>Xt).up ac
  .rw[hF2];exact(hd3.up ac).bC (fun q h1 h2=>ziK ac ac ac ac) ac fun q h1 h2=>by rw[j _ ac,O _ ac]
end
variable(ρ:Nat->Int)
section
def EJ:qC:=[[97],[98]]
theorem Xz(f:Int){m:Int}(h:0<=m):(cB f).getD (m.tmod (cB f).length).toNat []∈cB f:=by
 have L:((cB f).length:Int)≠0:=by unfold cB;split<;>simp
 have:=(uY (cB f) L h []).2
 grind
def XA(f:Int){s:qD}(h:s∈cB f):io s=true/\bL (cB f) s=true:=by
 unfold cB at h⊢;split at h<;>simp only[od]at h
 .rename_i e;rw[ai e];rcases h with rfl|rfl|rfl|rfl<;>exact⟨ax,ax⟩
 .rename_i e;rw[ah e];rcases h with rfl|rfl<;>exact⟨ax,ax⟩
def XB(m:Int):io (wu m)=true/\bL EJ (wu m)=true:=by
 unfold wu;split<;>exact⟨ax,ax⟩
def zmk(m:Int):io (mP m)=true:=by
 unfold mP;split<;>kernel_rfl
structure ExOk (f:Int) (k:Nat) (x:Ex):Prop where
 wf:fB x=true
 df:fC (cB f) EJ x=true
 dp:dn x<=k
theorem yc(f:Int):∀(k Y:Nat) (L:qA),5<=Y+k->Y<=4->ExOk f k (bC f k Y L).1
 |0,Y,L,h1,h2=>by omega
 |k+1,Y,L,h1,h2=>by
  have ih:Y<=3->∀L,ExOk f k (bC f k (Y+1) L).1:=fun hd L=>yc f k (Y+1) L ac ac;have z:=mO (n:=(bO L).1) (m:=16) ac ac;have V:=mO (n:=cy ((bO L).1.tdiv 16)) (m:=1000) ac ac;simp only[bC];generalize cK (bO L).1 16=q at z⊢;generalize cK (cy ((bO L).1.tdiv 16)) 1000=m at V⊢;split
  .split
   .obtain⟨dd,C⟩:=XA f (Xz f V.1);generalize (cB f).getD (m.tmod (cB f).length).toNat []=nm at dd C⊢;refine⟨?_,?_,by simp[dn,md]⟩
    .simp[fB,fO,ph,Ex.az,Ex.ak,Ex.n,Ex.op,Ex.name,dd]
    .simp[fC,fW,pj,Ex.az,Ex.name,C]
   .exact⟨by simp[fB,fO,ph,Ex.az,Ex.ak,Ex.op,Ex.name],by simp[fC,fW,pj,Ex.az,Ex.name],by simp[dn,md]⟩
  .rename_i j;have hd:Y<=3:=ac;have ih:=ih hd;obtain⟨aI,a6⟩:=XB m;split
   .have Z:=ih (bO L).2;refine⟨?_,?_,?_⟩
    .simp[fB,fO,ph,Ex.az,Ex.ak,Ex.n,Ex.op,Ex.name,aI,Z.wf]
    .simp[fC,fW,pj,Ex.az,Ex.name,a6,Z.df]
    .have:=Z.dp;simp only[dn,md];omega
   .split
    .have Z:=ih (bO L).2;have O:=ih (bC f k (Y+1) (bO L).2).2;have J:=ih (bC f k (Y+1) (bC f k (Y+1) (bO L).2).2).2;refine⟨?_,?_,?_⟩
     .simp[fB,fO,ph,Ex.az,Ex.ak,Ex.n,Ex.op,Ex.name,Z.wf,O.wf,J.wf]
     .simp[fC,fW,pj,Ex.az,Ex.name,Z.df,O.df,J.df]
     .have:=Z.dp;have:=O.dp;have:=J.dp;simp only[dn,md];omega
    .split
     .have Z:=ih (bO L).2;have I:Bh m=20\/Bh m=21:=by unfold Bh;split<;>simp
      refine⟨?_,?_,?_⟩
      .rcases I with I|I<;>simp[fB,fO,ph,Ex.az,Ex.ak,Ex.n,Ex.op,Ex.name,Z.wf,I]
      .simp[fC,fW,pj,Ex.az,Ex.name,Z.df]
      .have:=Z.dp;simp only[dn,md];omega
     .have Z:=ih (bO L).2;have O:=ih (bC f k (Y+1) (bO L).2).2;have t1:=Is 15 V.1;have t2:=zC m (show(0:Int)<15 by omega);have I:sM (cy (4+m.tmod 15))=true:=by
       unfold cy;rw[fN ac ac];simp only[sM,lX];omega
      refine⟨?_,?_,?_⟩
      .simp[fB,fO,ph,Ex.az,Ex.ak,Ex.n,Ex.op,Ex.name,Z.wf,O.wf,I]
      .simp[fC,fW,pj,Ex.az,Ex.name,Z.df,O.df]
      .have:=Z.dp;have:=O.dp;simp only[dn,md];omega
theorem XC(f:Int):∀(n:Nat) (L:qA),fO (iI f n L).1=true/\fW (cB f) EJ (iI f n L).1=true/\((iI f n L).1.any fun e=>decide ((20:Int)<dn e))=false/\(iI f n L).1.length=n
 |0,_=>⟨rfl,rfl,rfl,rfl⟩
 |n+1,L=>by
  obtain⟨j,m,C,Z⟩:=XC f n (bC f 3 2 L).2;have h:=yc f 3 2 L ac ac;have hd:¬(20:Int)<dn (bC f 3 2 L).1:=by have:=h.dp;omega
  refine⟨?_,?_,?_,?_⟩
  .rw[iI,fO,h.wf,j];rfl
  .rw[iI,fW,h.df,m];rfl
  .rw[iI,uA,C,kS hd];rfl
  .rw[iI,fc,Z]
structure ScG (f:Int) (c:Sc):Prop where
 vars:c.vars=cB f
 an:c.an=EJ
 to:∀m:Int,0<=m->0<=bW c.p.funcs (mP m) 0/\((2-m.tmod 2).toNat=tQ c.p (mP m))
structure StOk (c:Sc) (k:Nat) (s:cO) (x:St) (t:cO):Prop where
 wf:pV x=true
 df:i8 c false x=true
 ar:i8 c true x=true
 dp:rW x=false
 n:dd x+t.1.length<=s.1.length
 w:(dI x:Int)+s.2=t.2
 wb:t.2<=10
 m:∀d,bt x d<=d+k
structure zf0 (c:Sc) (k:Nat) (s:cO) (l:qJ) (t:cO):Prop where
 wf:gN l=true
 df:dJ c false l=true
 ar:dJ c true l=true
 dp:ip l=false
 n:nS l+t.1.length<=s.1.length
 w:(eV l:Int)+s.2=t.2
 wb:t.2<=10
 m:∀d,iQ l d<=d+k
theorem Oi{c:Sc}{k:Nat}{step:cO->St×cO}(h:∀s:cO,s.1≠[]->0<=s.2->s.2<=10->StOk c k s (step s).1 (step s).2):∀(n:Nat) (s:cO),0<=s.2->s.2<=10->zf0 c k s (iq step n s).1 (iq step n s).2
 |0,s,h0,h1=>⟨rfl,rfl,rfl,rfl,by simp[iq,nS],by simp[iq,eV],h1,fun d=>by simp[iq,iQ]⟩
 |n+1,s,h0,h1=>by
  rw[iq];by_cases V:s.1=[]
  .rw[ai V];exact⟨rfl,rfl,rfl,rfl,by simp[nS],by simp[eV],h1,fun d=>by simp[iQ]⟩
  .rw[ah V];have a:=h s V h0 h1;have Z:=a.w;have b:=Oi h n (step s).2 ac a.wb;have j:=b.w;have an:=a.n;have bn:=b.n;refine⟨?_,?_,?_,?_,?_,?_,b.wb,fun d=>?_⟩
   .simp only[gN,a.wf,b.wf];rfl
   .simp only[dJ,a.df,b.df];rfl
   .simp only[dJ,a.ar,b.ar];rfl
   .simp only[ip,a.dp,b.dp];rfl
   .simp only[nS];omega
   .simp only[eV];omega
   .have:=a.m d;have:=b.m d;simp only[iQ];omega
def zml(f:Int):zeroE k5=true/\fC (cB f) EJ k5=true/\dn k5=0:=⟨by simp[zeroE,k5,Ex.az,Ex.n,Ex.op,Ex.name,Ex.ak],by simp[k5,fC,fW,pj,Ex.az],by simp[k5,dn,md]⟩
theorem zmm(hc:ScG f c){V:Int->cO->qJ×cO}{s:cO}{j:qA}{q m:Int}(hL:j.length<s.1.length)(hm:0<=m)(hm1:m<1000)(h0:0<=s.2)(h1:s.2<=10)(hq:10<=q->s.2<10)(hq0:0<=q)
 (hs:8<=q->q<12->1<=k/\∀(O:Int) (s:cO),0<=s.2->s.2<=10->zf0 c (k-1) s (V O s).1 (V O s).2):StOk c k s (ir V f j s.2 q m).1 (ir V f j s.2 q m).2:=by
 obtain⟨z1,z2,z3⟩:=zml f;obtain⟨L,J⟩:=XA f (Xz f hm);obtain⟨aI,a6⟩:=XB m;have g1:=zmk m;obtain⟨g2,g3⟩:=hc.to m hm;have z:=yc f 5 0 j ac ac;have e32:=yc f 3 2 j ac ac;have Z:=yc f 4 1 j ac ac;have e43:=yc f 4 1 (bC f 3 2 j).2 ac ac;have l50:=ft f 5 0 j;have l32:=ft f 3 2 j;have l41:=ft f 4 1 j;have l43:=ft f 4 1 (bC f 3 2 j).2;obtain⟨aq,r2,r8,wI⟩:=XC f (2-m.tmod 2).toNat j;have lar:=Nh f (2-m.tmod 2).toNat j;have d50:¬(20:Int)<dn (bC f 5 0 j).1:=by have:=z.dp;omega
 have d32:¬(20:Int)<dn (bC f 3 2 j).1:=by have:=e32.dp;omega
 have d41:¬(20:Int)<dn (bC f 4 1 j).1:=by have:=Z.dp;omega
 have d43:¬(20:Int)<dn (bC f 4 1 (bC f 3 2 j).2).1:=by have:=e43.dp;omega
 rw[ir];generalize (cB f).getD (m.tmod (cB f).length).toNat []=nm at L J⊢;have hv:=hc.vars;have ha:=hc.an;by_cases c1:q<6
 .rw[ai c1];refine⟨?_,?_,?_,?_,?_,?_,h1,fun d=>?_⟩
  .simp[pV,gN,kh,fO,pi,tM,St.az,St.bm,St.bO,St.name,St.to,St.n,St.bz,St.value,St.args,L,z1,z.wf]
  .simp[i8,dJ,k4,fW,mN,St.az,St.name,St.bz,St.value,St.args,hv,ha,J,z2,z.df]
  .simp[i8,dJ,pn,St.az]
  .simp[rW,ip,z3,d50]
  .simp only[dd,nS];omega
  .simp[dI,eV]
  .simp[bt,iQ]
 rw[ah c1];by_cases c2:q<8
 .rw[ai c2];refine⟨?_,?_,?_,?_,?_,?_,h1,fun d=>?_⟩
  .simp[pV,gN,kh,fO,pi,tM,St.az,St.bm,St.bO,St.name,St.to,St.n,St.bz,St.value,St.args,aI,e32.wf,e43.wf]
  .simp[i8,dJ,k4,fW,mN,St.az,St.name,St.bz,St.value,St.args,hv,ha,a6,e32.df,e43.df]
  .simp[i8,dJ,pn,St.az]
  .simp[rW,ip,d32,d43]
  .simp only[dd,nS];omega
  .simp[dI,eV]
  .simp[bt,iQ]
 rw[ah c2];by_cases c3:q<10
 .rw[ai c3];obtain⟨hk,Y⟩:=hs ac ac;have C:=Y 3 ((bC f 4 1 j).2,s.2) h0 h1;have saw:=C.w;have san:=C.n;have I:=Y 2 (V 3 ((bC f 4 1 j).2,s.2)).2 ac C.wb;have sbw:=I.w;have sbn:=I.n;refine⟨?_,?_,?_,?_,?_,?_,I.wb,fun d=>?_⟩
  .simp[pV,kh,fO,pi,tL,St.az,St.name,St.to,St.n,St.bz,St.value,St.args,z1,Z.wf,C.wf,I.wf]
  .simp[i8,k4,fW,mN,St.az,St.bz,St.value,St.args,hv,ha,z2,Z.df,C.df,I.df]
  .simp[i8,pn,St.az,C.ar,I.ar]
  .simp[rW,z3,d41,C.dp,I.dp]
  .simp only[dd];grind
  .simp only[dI];grind
  .have:=C.m (d+1);have:=I.m (d+1);simp only[bt];omega
 rw[ah c3];by_cases c4:q<12
 .rw[ai c4];obtain⟨hk,Y⟩:=hs ac ac;have hlt:=hq ac;have hw:cy (s.2+1)=s.2+1:=by unfold cy;rw[fN ac ac]
  rw[hw];have C:=Y 3 ((bC f 4 1 j).2,s.2+1) Bg Bg;have saw:=C.w;have san:=C.n;refine⟨?_,?_,?_,?_,?_,?_,C.wb,fun d=>?_⟩
  .simp[pV,gN,kh,fO,pi,tL,St.az,St.bO,St.name,St.to,St.n,St.bz,St.value,St.args,z1,Z.wf,C.wf]
  .simp[i8,dJ,k4,fW,mN,St.az,St.bz,St.value,St.args,hv,ha,z2,Z.df,C.df]
  .simp[i8,dJ,pn,St.az,C.ar]
  .simp[rW,ip,z3,d41,C.dp]
  .simp only[dd,nS];grind
  .simp only[dI,eV];grind
  .have:=C.m (d+1);simp only[bt,iQ];omega
 rw[ah c4];by_cases c5:q<14
 .rw[ai c5];refine⟨?_,?_,?_,?_,?_,?_,h1,fun d=>?_⟩
  .simp[pV,gN,kh,fO,pi,tM,tL,St.az,St.bm,St.bO,St.name,St.to,St.n,St.bz,St.value,St.args,z1,Z.wf]
  .simp[i8,dJ,k4,fW,mN,St.az,St.bz,St.value,St.args,hv,ha,z2,Z.df]
  .simp[i8,dJ,pn,St.az]
  .simp[rW,ip,z3,d41]
  .simp only[dd,nS];omega
  .simp[dI,eV]
  .simp[bt,iQ]
 rw[ah c5];by_cases c6:q<15
 .rw[ai c6];refine⟨?_,?_,?_,?_,?_,?_,h1,fun d=>?_⟩
  .simp[pV,gN,kh,pi,tM,St.az,St.bm,St.bO,St.name,St.to,St.n,St.bz,St.value,St.args,L,z1,g1,aq]
  .simp[i8,dJ,k4,mN,St.az,St.name,St.to,St.bz,St.value,St.args,hv,ha,z2,J,g2,r2]
  .have:(((iI f (2-m.tmod 2).toNat j).1.length:Nat):Int)=tQ c.p (mP m):=by rw[wI,g3]
   simp[i8,dJ,pn,St.az,St.args,St.to,this]
  .simp only[rW,ip,z3,r8];decide
  .simp only[dd,nS];omega
  .simp[dI,eV]
  .simp[bt,iQ]
 rw[ah c6];refine⟨?_,?_,?_,?_,?_,?_,h1,fun d=>?_⟩
 .have e:m<=1000000:=by omega
  simp[pV,gN,kh,fO,pi,tM,St.az,St.bm,St.bO,St.name,St.to,St.n,St.bz,St.value,St.args,z1,hm,e]
 .simp[i8,dJ,k4,fW,mN,St.az,St.bz,St.value,St.args,hv,ha,z2]
 .simp[i8,dJ,pn,St.az]
 .simp[rW,ip,z3]
 .simp only[dd,nS];omega
 .simp[dI,eV]
 .simp[bt,iQ]
theorem zmn{L:qA}(h:L≠[]):(bO L).2.length<L.length:=by
 cases L with
 |nil=>simp_all
 |cons a l=>simp[bO]
def zf0.more{s I:cO}{l:qJ}{t:cO}(h:zf0 c k I l t)(j:I.1.length<=s.1.length)(m:I.2=s.2):zf0 c k s l t:=⟨h.wf,h.df,h.ar,h.dp,dt h.n j,m▸h.w,h.wb,h.m⟩
theorem XD{f:Int}{c:Sc}(Z:ScG f c):∀(k Y:Nat),4<=Y+k->Y<=3->∀s:cO,s.1≠[]->0<=s.2->s.2<=10->StOk c (k-1) s (gZ f k Y s).1 (gZ f k Y s).2
 |0,Y,j,h2=>by omega
 |k+1,Y,j,h2=>fun s V L C=>by
  have J:=mO (n:=cy ((bO s.1).1.tdiv 16)) (m:=1000) ac ac;have hq:=mO (n:=(bO s.1).1) (m:=16) ac ac;rw[gZ,x4];refine zmm Z (zmn V) J.1 J.2 L C ?_ ?_ ?_
  .unfold zH;split<;>omega
  .unfold zH;split<;>omega
  .intro a b;have hd:Y<=2:=by
    unfold zH at a b;omega
   have e:k+1-1-1=k-1:=ac;rw[e];refine⟨ac,fun O s I z=>zf0.more (Oi (fun s V L j=>?_) _ ((bO s.1).2,s.2) I z) (ou _) rfl⟩;exact XD Z k (Y+1) ac ac s V L j
theorem XE(L:ScG f c){deep:Nat}(j:4<=deep+k)(m:deep<=3)(V:Int){s:cO}(C:0<=s.2)(Z:s.2<=10):zf0 c (k-1) s (mp f k deep V s).1 (mp f k deep V s).2:=
 zf0.more (Oi (fun s Y O I=>XD L k deep j m s Y O I) _ ((bO s.1).2,s.2) C Z) (ou _) rfl
def XF(L:qA):bW [iK L,iT L] [102] 0=0/\bW [iK L,iT L] [103] 0=1:=⟨rfl,rfl⟩
def XG(f:Int)(l:qA){F:Fu}(h:F.params++F.aK=cB f):ScG f (ki (bQ l) F):=by
 refine⟨h,rfl,fun m Y=>?_⟩;have j:=Is 2 Y;have Z:=zC m (show(0:Int)<2 by omega);show 0<=bW [iK (l.take 60),iT (l.take 60)] (mP m) 0/\_;unfold mP;by_cases e:m.tmod 2=0
 .rw[ai e,e];exact⟨by rw[(XF _).1];omega,rfl⟩
 .rw[ah e,show m.tmod 2=1 by omega];exact⟨by rw[(XF _).2];omega,rfl⟩
theorem EK(l:qA):fP (bQ l)=0:=by
 have hl:(l.take 60).length<=60:=cZ;have c0:ScG 0 (ki (bQ l) (iK (l.take 60))):=XG 0 l rfl;have c1:ScG 1 (ki (bQ l) (iT (l.take 60))):=XG 1 l rfl;obtain⟨L,hL⟩:∃L,l.take 60=L:=⟨_,rfl⟩;rw[hL]at hl c0 c1;have j:zf0 (ki (bQ l) (iK L)) 3 ((bO L).2,0) (jD L).1 (jD L).2:=XE c0 (k:=4) (deep:=0) ac ac 5 (s:=((bO L).2,0)) aB aB;have Z:ExOk 0 4 (lN L).1:=yc 0 4 1 _ ac ac;have I:=j.w;have z:zf0 (ki (bQ l) (iT L)) 2 ((lN L).2,(jD L).2.2) (nM L).1 (nM L).2:=XE c1 (k:=3) (deep:=1) ac ac 3 (s:=((lN L).2,(jD L).2.2)) ac j.wb;have Y:ExOk 1 4 (wF L).1:=yc 1 4 1 _ ac ac;have J:=j.n;have V:=z.n;have O:=z.w;have b1b:=j.wb;have b2b:=z.wb;simp only at J V I O;have n0:=ou L;have dd:(lN L).2.length<=(jD L).2.1.length:=ft 0 4 1 _;have p1:=mO (n:=(bO L).1) (m:=4) ac ac;have p2:=mO (n:=cy ((bO L).1.tdiv 4)) (m:=4) ac ac;have hp:bQ l=⟨rj L,[iK L,iT L]⟩:=by rw[bQ,hL]
 have bt:=j.m 0;have m2:=z.m 0;have d1:=Z.dp;have d2:=Y.dp;have C:k3 (bQ l)=false:=by
  rw[hp];simp only[k3,rj,uA,xC,wi,rX,iK,iT,pD,j.dp,z.dp,oY,jG,oP]
  grind
 have hwf:mM (bQ l)=true:=by
  rw[hp];have q:∀s∈([[102],[103],[120],[121],[105],[106],[110],[97],[98]]:qC),io s=true:=by
   intro s hs;simp only[od]at hs;rcases hs with rfl|rfl|rfl|rfl|rfl|rfl|rfl|rfl|rfl<;>kernel_rfl
  simp only[mM,rj,oX,pO,rY,fnNames,iK,iT,Lr,j.wf,z.wf,Z.wf,Y.wf,fV,bT];simp[q]
 have hdu:nK (bQ l)=false:=by rw[hp];kernel_rfl
 have hun:(bQ l).funcs.any (kq (bQ l))=false:=by
  have e:(bQ l).funcs=[iK L,iT L]:=by rw[hp]
  rw[e];have dI:fC (ki (bQ l) (iK L)).vars (ki (bQ l) (iK L)).an (iK L).value=true:=by rw[c0.vars,c0.an];exact Z.df
  have w2:fC (ki (bQ l) (iT L)).vars (ki (bQ l) (iT L)).an (iT L).value=true:=by rw[c1.vars,c1.an];exact Y.df
  have x1:dJ (ki (bQ l) (iK L)) false (iK L).body=true:=j.df;have x2:dJ (ki (bQ l) (iT L)) false (iT L).body=true:=z.df;simp only[uA,xC,kq,dI,w2,x1,x2];rfl
 have hba:(bQ l).funcs.any (mg (bQ l))=false:=by
  have e:(bQ l).funcs=[iK L,iT L]:=by rw[hp]
  rw[e];have x1:dJ (ki (bQ l) (iK L)) true (iK L).body=true:=j.ar;have x2:dJ (ki (bQ l) (iT L)) true (iT L).body=true:=z.ar;simp only[uA,xC,mg,x1,x2];rfl
 rw[fP,C,hwf,hdu,hun,hba];rfl
def XH(l:qA):zd7 (bQ l):=zin (EK l)
def zmo(l:qA)(Y:l.length<2^63):bA prog ρ 12 [hY l] (.agg (bQ l).cells):=by
 refine M8 (n:=60) (cfg:=aA pls It) fit (rG ρ) (fun g m r hg=>gX.cu (l:=It) (ziW ρ) g m r hg) (.cons (Es l) .nil) ?_;refine a8 (fun v H' h=>?_) (zmj Ve (zl8 Ve) l Y bZ);obtain⟨V,O,x,y,z,cg,rfl,hP,_,_⟩:=h;obtain⟨Z,j,J⟩:=hP.cells;have C:dc (fun q=>bZ.next<=q) 100 H' (.agg [.sl V 0 2 2,.sl O 0 2 9]) (.agg Z):=dc.up (n:=16) ⟨Z,j,rfl⟩ ac;obtain⟨L,I⟩:=dc.iceV C;refine⟨L,.agg Z,I L (aG _),?_⟩;show AV.agg (Z.map (cW 59))=_;rw[J 59 ac]
noncomputable def XI:En:=⟨12,false,co (fun l=>l.length<2^63) (fun l=>[hY l]) fun l=>.agg (bQ l).cells⟩
def zmp:de prog ρ XI:=dA fun x I=>zmo ρ x I
def tySameO.tyF:=ad @dm (ad @cG (ad @kJ (@GW)))
open tySameO
noncomputable def XJ:=qd (M:=52) f21.eq_1
def XK(o:Oc):gD (ky o):=.agg (.cons (.int _ _) (.cons (.int _ _) (.cons (Es _) (.cons (.int _ _) .nil))))
set_option maxRecDepth 100000 in
def zmq(o:Oc)(V:o.out.length<2^60):bA prog ρ 21 [ky o,ky o] (.bool true):=fF fit (pls:=pls) (l:=[]) trivial (.cons (XK o) (.cons (XK o) .nil)) (.bool _) (by
 have hw:=lH 21;obtain⟨k,c,C,val⟩:=o;rw[ky,hY];simp only at V⊢;have Y:(C.map fun n=>[AV.int .i64 n]).length=C.length:=aB;refine qe hw func21 XJ ?_;dsimp only[XJ,qd,a1,Nat.reduceAdd];repeat' (first
  |(apply ay ?_;clear hK K)|apply a9 ?_|(apply gL ?_ ?_<;>(intro hg hgp;try(cases hg;done)))|(apply bU ?_ ?_<;>(intro hb hbp;try(cases hb;done)))|(apply az fun K hK=>?_)|fail)
 refine cP [2,3] [0,1] 5 C.length (fun i E H=>True) eE trivial ?_;rintro i E m j I J L O hJ;(try simp only[bz,a7,aV,aK,bb,Nat.reduceBEq, *]at I);(try simp only[bz,a7,aV,aK,bb,Nat.reduceBEq, *]at J);(try simp only[aS,cL,bR,Nat.reduceAdd]at L);repeat' (first
  |(apply ay ?_;clear hK K)|apply a9 ?_|(apply bU ?_ ?_<;>(intro hb hbp;try(cases hb;done)))|(apply az fun K hK=>?_)|(apply bV 6 [(1,11),(4,11),(6,11),(9,11)] fun K hK=>?_)|(apply bB ?_;try intro _)|fail)
 .have Z:i<C.length:=by simpa using hb
  have z:(C.map fun n=>[AV.int .i64 n])[i]?=some [.int .i64 C[i]]:=by rw[fd,aX Z];rfl
  obtain⟨g0,g1⟩:=J;repeat' (first
   |(apply ay ?_;clear hK K)|apply a9 ?_|(apply bU ?_ ?_<;>(intro hb hbp;try(cases hb;done)))|(apply az fun K hK=>?_)|(apply bB ?_;try intro _)|(apply bY ?_ ?_<;>clear hK K)|fail)
  .exact bM
  .refine⟨ac,aW,aW,b8,S0,?_⟩;trivial
 .all_goals refine qi ?_
  all_goals trivial)
end
variable{n:Nat}
section
def tyGX.tyF:=ad @dm (@kJ)
open tyGX
noncomputable def XL:=qd (M:=14) f9.eq_1
noncomputable def XM:=qd (M:=5) f13.eq_1
structure zf8 where
 a:Int
 b:Int
 w:Int
def zR(x:zf8):qB:=[.int .i64 x.a,.int .i64 x.b,.int .i64 x.w]
theorem zmr(x y:zf8)(h:zR x=zR y):x=y:=by
 obtain⟨a,b,c⟩:=x;obtain⟨C,J,Z⟩:=y;simp only[zR,eX,AV.int.injEq,aV,j6]at h;obtain⟨rfl,rfl,rfl⟩:=h;rfl
def Oj(x:zf8):qA:=[jW x.a x.w,jW x.b x.w]
def zms(H:Hp)(a b:Int):eW prog H 27 2 [(0,.int .i64 a),(1,.int .i64 b)]=some (.sl H.next 0 2 1,H.alloc (.cells [.int .i64 a,.int .i64 b] 0 true)):=ax
theorem zmt(x:zf8):bA prog ρ 9 (zR x) (hY (Oj x)):=xu (m:=3) (cfg:=aA pls [zD]) fit (rG ρ) (fun g Z r hg=>gX.cu (l:=[zD]) ⟨UV ρ,trivial⟩ g Z r hg) (.cons (.int _ _) (.cons (.int _ _) (.cons (.int _ _) .nil))) (by
 have hw:zd0 (aA pls [zD]) 9:=gY (fun _=>rfl) rfl;obtain⟨a,b,w⟩:=x;rw[zR];simp only[];refine qe hw func9 XL ?_;dsimp only[XL,qd,a1,Nat.reduceAdd];have O:=@zms;repeat' (first
  |(apply ay ?_;clear hK K)|apply a9 ?_|(apply fq ?_;first|refine Rx.k (UW (fun _=>rfl) _ _ _) ?_)|(apply az fun K hK=>?_)|fail)
 all_goals refine qi ?_
 rfl)
noncomputable def XN:En:=⟨9,false,co (fun _=>True) zR fun x=>hY (Oj x)⟩
def zmu:de prog ρ XN:=dA fun x I=>zmt ρ x
def zmv(n:Int):bA prog ρ 13 [.int .i64 n] (.int .i64 (cK n 12)):=fF fit (pls:=pls) (l:=[wo]) ⟨Il ρ,trivial⟩ (.cons (.int _ _) .nil) (.int _ _) (by
 have hw:zd0 (aA pls [wo]) 13:=gY (fun _=>rfl) rfl;refine qe hw func13 XM ?_;dsimp only[XM,qd,a1,Nat.reduceAdd];repeat' (first
  |(apply ay ?_;clear hK K)|apply a9 ?_|(apply fq ?_;first|refine Rx.k (xV (fun _=>rfl) _ _ aF _) ?_)|(apply az fun K hK=>?_)|fail)
 all_goals refine qi ?_
 all_goals trivial)
noncomputable def XO:En:=⟨13,false,co (fun _=>True) (fun n:Int=>[.int .i64 n]) fun n=>.int .i64 (cK n 12)⟩
def zmw:de prog ρ XO:=dA fun x I=>zmv ρ x
end
section
def XP(f:Int)(i:Nat):((cB f).getD i []).length<=1:=by
 have h:∀s∈cB f,s.length<=1:=by
  intro s V;unfold cB at V;split at V<;>simp only[od]at V
  .rcases V with rfl|rfl|rfl|rfl<;>simp
  .rcases V with rfl|rfl<;>simp
 rw[dC];cases e:(cB f)[i]? with
 |none=>simp
 |some s=>exact h s (cV e)
theorem XQ(m:Int):(wu m).length=1:=by unfold wu;split<;>rfl
theorem zmx(m:Int):(mP m).length=1:=by unfold mP;split<;>rfl
def tW:Nat->Nat
 |0=>2
 |k+1=>5+3*tW k
theorem yd(f:Int):∀(k Y:Nat) (L:qA),(bC f k Y L).1.sz<=tW k
 |0,Y,L=>by simp[bC,Ex.sz,fg,tW]
 |k+1,Y,L=>by
  have ih:=yd f k (Y+1);simp only[bC,tW];generalize cK (bO L).1 16=q;generalize cK (cy ((bO L).1.tdiv 16)) 1000=m;split
  .split
   .have:=XP f (m.tmod (cB f).length).toNat;simp only[Ex.sz,fg];omega
   .simp only[Ex.sz,fg,jQ];omega
  .split
   .have:=XQ m;have:=ih (bO L).2;simp only[Ex.sz,fg];omega
   .split
    .have:=ih (bO L).2;have:=ih (bC f k (Y+1) (bO L).2).2;have:=ih (bC f k (Y+1) (bC f k (Y+1) (bO L).2).2).2;simp only[Ex.sz,fg,jQ];omega
    .split
     .have:=ih (bO L).2;simp only[Ex.sz,fg,jQ];omega
     .have:=ih (bO L).2;have:=ih (bC f k (Y+1) (bO L).2).2;simp only[Ex.sz,fg,jQ];omega
theorem XS(f:Int):∀(n:Nat) (L:qA),fg (iI f n L).1<=200*n
 |0,_=>by simp[iI,fg]
 |n+1,L=>by
  have:=XS f n (bC f 3 2 L).2;have:=yd f 3 2 L;have:tW 3<=150:=aF;rw[iI,fg];omega
theorem zmy{j:Int->cO->qJ×cO}(Y:∀V s,bF (j V s).1<=10000*nS (j V s).1)(f:Int)(Z:qA)(c q m:Int):(ir j f Z c q m).1.sz+1<=10000*dd (ir j f Z c q m).1:=by
 have e5:tW 5<=1200:=aF;have e4:tW 4<=1200:=aF;have e3:tW 3<=1200:=aF;have O:=yd f 5 0 Z;have L:=yd f 3 2 Z;have J:=yd f 4 1 Z;have I:=yd f 4 1 (bC f 3 2 Z).2;have z:k5.sz=1:=rfl;have C:=XP f (m.tmod (cB f).length).toNat;have aI:=XQ m;have g1:=zmx m;have r:=XS f (2-m.tmod 2).toNat Z;have r2:(2-m.tmod 2).toNat<=4:=by
  have:-2<m.tmod 2:=by
   have:=zC (-m) (show(0:Int)<2 by omega);rw[Int.neg_tmod]at this;omega
  omega
 rw[ir];split
 .simp only[St.sz,dd,nS,fg,bF,jQ];omega
 split
 .simp only[St.sz,dd,nS,fg,bF,jQ];omega
 split
 .have s1:=Y 3 ((bC f 4 1 Z).2,c);have s2:=Y 2 (j 3 ((bC f 4 1 Z).2,c)).2;simp only[St.sz,dd,fg,jQ];omega
 split
 .have s1:=Y 3 ((bC f 4 1 Z).2,cy (c+1));simp only[St.sz,dd,nS,fg,bF,jQ];omega
 split
 .simp only[St.sz,dd,nS,fg,bF,jQ];omega
 split
 .simp only[St.sz,dd,nS,bF];omega
 .simp only[St.sz,dd,nS,fg,bF,jQ];omega
theorem Ol{step:cO->St×cO}(h:∀s,(step s).1.sz+1<=10000*dd (step s).1):∀(n:Nat) (s:cO),bF (iq step n s).1<=10000*nS (iq step n s).1
 |0,s=>by simp[iq,bF,nS]
 |n+1,s=>by
  rw[iq];split
  .simp[bF,nS]
  .have:=h s;have:=Ol h n (step s).2;simp only[bF,nS];omega
theorem XT(f:Int):∀(k Y:Nat) (s:cO),(gZ f k Y s).1.sz+1<=10000*dd (gZ f k Y s).1
 |0,Y,s=>by
  have z:k5.sz=1:=rfl;simp only[gZ,St.sz,dd,nS,fg,bF,jQ];omega
 |k+1,Y,s=>by
  rw[gZ,x4];exact zmy (fun V s=>Ol (XT f k (Y+1)) _ _) f _ _ _ _
def XU(f:Int)(k deep:Nat)(V:Int)(s:cO):bF (mp f k deep V s).1<=10000*nS (mp f k deep V s).1:=Ol (XT f k deep) _ _
theorem XV(l:qA):(bQ l).sz<2^24:=by
 have Y:k3 (bQ l)=false:=by
  have h:=EK l;rw[fP]at h;cases e:k3 (bQ l)with
  |false=>rfl
  |true=>rw[ai e]at h;omega
 have Z:=XU 0 4 0 5 ((bO (l.take 60)).2,0);have z:=XU 1 3 1 3 ((lN (l.take 60)).2,(jD (l.take 60)).2.2);have V:(lN (l.take 60)).1.sz<=tW 4:=yd 0 4 1 _;have O:(wF (l.take 60)).1.sz<=tW 4:=yd 1 4 1 _;have J:tW 4<=1200:=aF;rw[bQ]at Y⊢;generalize l.take 60=L at *;change bF (jD L).1<=10000*nS (jD L).1 at Z;change bF (nM L).1<=10000*nS (nM L).1 at z;simp only[k3,uA,xC,oY,jG,rX,iK,iT,oP]at Y;obtain⟨_,j,m⟩:=Y;have dd:¬(200:Int)<nS (jD L).1:=j.1.1.1.1.2;have I:¬(200:Int)<nS (nM L).1:=m.1.1.1.1.2;simp only[Pr.sz,jt,iA,rj,iK,iT,Fu.sz,gl,pD];omega
def zmz(l:qA):(bQ l).sz<2^36:=Nat.lt_trans (XV l) aF
theorem Jp(l:qA):pr (bQ l)=[([102],0),([103],1)]:=rfl
def XW(l:qA)(a b fuel:Int)(L:0<=fuel)(j:fuel<=1000):zf7.ok ⟨bQ l,[102],[a,b],fuel⟩ where
 v:=XH l
 sz:=zmz l
 f0:=L
 f1:=j
 has:=by show KZ (pr (bQ l)) _=true;rw[Jp];rfl
 k0:=by show 0<=di (pr (bQ l)) _;rw[Jp];show(0:Int)<=di [([102],0),([103],1)] [102];decide
 fn:=by
  refine⟨iK (l.take 60),?_,rfl⟩;show(bQ l).funcs[(di (pr (bQ l)) _).toNat]?=_;rw[Jp];rfl
 al:=aB
def Om{x:zf7}(h:x.ok){r:Int×MS}(L:fM x.p (pr x.p) n (di (pr x.p) x.nm) x.al (pI x.p x.a2)=some r):nL x=mH r:=by
 have V:=h.eA;unfold nL;rw[dif_pos V];obtain⟨m,j,_⟩:=IE V;rw[zkH L j]
def On{x:zf7}(h:x.ok):(nL x).out.length<=300000:=by
 have V:=h.eA;unfold nL;rw[dif_pos V];obtain⟨m,_,Z⟩:=IE V;unfold mH;split
 .exact Z
 .split<;>exact Z
structure Qx where
 p:Pr
 b:Nat
 nv:AV
 ns:List aY
def br(X:Qx)(s:Bd)(lv vv:AV):qB:=[.aE (X.p.ab.map Ar.cells),.aE (X.p.funcs.map Fu.cells),lv,X.nv,vv,.int .i64 s.aa,.int .i64 s.loops]
structure zd1 (X:Qx) (H:Hp) (S:Nat->Prop) (s:Bd) (lv vv:AV):Prop where
 m:H.get X.b=some (.cells (br X s lv vv) 0 true)
 nm:eU H X.nv X.ns 0
 af:eN S 2 H 3 lv (s.l.map Nd.cells)
 vars:jy H vv s.vars 0
 o5:X.b<H.next
 nS:∀k,a3 X.nv k->X.b<k/\k<H.next/\¬S k/\¬a3 vv k
 sS:∀k,S k->X.b<k/\k<H.next/\¬a3 vv k
 vS:∀k,a3 vv k->X.b<k/\k<H.next
structure FrQ (X:Qx) (S:Nat->Prop) (vv:AV) (H:Hp) (S':Nat->Prop) (vv':AV) (H':Hp):Prop where
 next:H.next<=H'.next
 get:∀k,k<H.next->k≠X.b->¬S k->¬a3 vv k->H'.get k=H.get k
 sub:∀k,S' k->S k\/H.next<=k
 own:∀k,a3 vv' k->a3 vv k\/H.next<=k
def FrQ.refl(X:Qx)(S:Nat->Prop)(vv:AV)(H:Hp):FrQ X S vv H S vv H:=⟨aG _,fun _ _ _ _ _=>rfl,fun _ h=>.inl h,fun _ h=>.inl h⟩
def fS:=@FrQ.refl
def FrQ.trans{X:Qx}{S' m:Nat->Prop}{v' z:AV}{j:Hp}(h:FrQ X S v H S' v' H')(k:FrQ X S' v' H' m z j):FrQ X S v H m z j where
 next:=dt h.next k.next
 get r h1 h2 h4 h5:=by
  rw[k.get r (iy h1 h.next) h2 (fun e=>?_) (fun e=>?_)]
  .exact h.get r h1 h2 h4 h5
  .rcases h.sub r e with e|e
   .exact h4 e
   .omega
  .rcases h.own r e with e|e
   .exact h5 e
   .omega
 sub r e:=by
  rcases k.sub r e with e|e
  .exact h.sub r e
  .exact .inr (dt h.next e)
 own r e:=by
  rcases k.own r e with e|e
  .exact h.own r e
  .exact .inr (dt h.next e)
section
variable {X:Qx} {H H':Hp} {S:Nat -> Prop} {s:Bd} {lv vv:AV}
def zd1.keep(h:zd1 X H S s lv vv)(J:H.next<=H'.next)(hg:∀k,k<H.next->(k<=X.b\/S k\/a3 vv k\/a3 X.nv k)->H'.get k=H.get k):zd1 X H' S s lv vv:=by
 have j:=h.o5;refine⟨by rw[hg _ j (.inl (aG _))];exact h.m,h.nm.keep J fun k z=>hg k (h.nS k z).2.1 (.inr (.inr (.inr z))),h.af.keep (fun _ _ h=>h) J fun k z O=>hg k O (.inr (.inl z)),h.vars.keep J fun k z=>hg k (h.vS k z).2 (.inr (.inr (.inl z))),ac,fun k z=>?_,fun k z=>?_,fun k z=>?_⟩
 .have:=h.nS k z;exact⟨this.1,ac,this.2.2⟩
 .have:=h.sS k z;exact⟨this.1,ac,this.2.2⟩
 .have:=h.vS k z;omega
def zd1.alloc(h:zd1 X H S s lv vv)(b:HB):zd1 X (H.alloc b) S s lv vv:=h.keep (dg _) fun k z _=>dT
def FrQ.alloc{bZ:Hp}(h:FrQ X J O bZ S vv H)(b:HB):FrQ X J O bZ S vv (H.alloc b):=h.trans ⟨dg _,fun k z _ _ _=>dT,fun _ h=>.inl h,fun _ h=>.inl h⟩
def zd1.setS(h:zd1 X H S s lv vv)(x:Int):zd1 X (H.set X.b (.cells (br X {s with aa:=x} lv vv) 0 true)) S {s with aa:=x} lv vv/\FrQ X S vv H S vv (H.set X.b (.cells (br X {s with aa:=x} lv vv) 0 true)):=by
 have j:=h.o5;have hg:∀k,k≠X.b->(H.set X.b (.cells (br X {s with aa:=x} lv vv) 0 true)).get k=H.get k:=fun k z=>uh;refine⟨⟨iW,h.nm.keep (aG _) fun k z=>hg k Og,h.af.keep (fun _ _ h=>h) (aG _) fun k z O=>hg k Oh,h.vars.keep (aG _) fun k z=>hg k (by have:=h.vS k z;omega),j,h.nS,h.sS,h.vS⟩,⟨aG _,fun k _ m _ _=>hg k m,fun _ h=>.inl h,fun _ h=>.inl h⟩⟩
def zd1.dX(h:zd1 X H S s lv vv)(x:Nat):zd1 X (H.set X.b (.cells (br X {s with loops:=x} lv vv) 0 true)) S {s with loops:=x} lv vv/\FrQ X S vv H S vv (H.set X.b (.cells (br X {s with loops:=x} lv vv) 0 true)):=by
 have j:=h.o5;have hg:∀k,k≠X.b->(H.set X.b (.cells (br X {s with loops:=x} lv vv) 0 true)).get k=H.get k:=fun k z=>uh;refine⟨⟨iW,h.nm.keep (aG _) fun k z=>hg k Og,h.af.keep (fun _ _ h=>h) (aG _) fun k z O=>hg k Oh,h.vars.keep (aG _) fun k z=>hg k (by have:=h.vS k z;omega),j,h.nS,h.sS,h.vS⟩,⟨aG _,fun k _ m _ _=>hg k m,fun _ h=>.inl h,fun _ h=>.inl h⟩⟩
def zd1.setV(h:zd1 X H S s lv vv)(O:i<s.vars.length)(x:Int):∃r,dK prog 26 vv (.int .i64 (i:Int))=some (.ptr r i)/\eP prog H 3 (.ptr r i)=some (.int .i64 (s.vars.getD i 0)) /\
 ∃H',jY prog H 3 (.ptr r i) (.int .i64 x)=some H'/\X.b<r/\r<H.next/\a3 vv r/\zd1 X H' S {s with vars:=s.vars.set i x} lv vv/\FrQ X S vv H S vv H'/\(∀k,k≠r->H'.get k=H.get k)/\H'.next=H.next:=by
 rcases h.vars with⟨_,m⟩|⟨r,j,hg,L,hr⟩
 .rw[m]at O;simp at O
 .have V:a3 vv r:=⟨_,j⟩;have C:=(h.vS r V).1;refine⟨r,?_,?_,H.set r (.cells ((s.vars.set i x).map (.int .i64)) 0 true),?_,C,hr,V,?_,⟨aG _,fun k _ _ _ Z=>?_,fun _ h=>.inl h,fun _ h=>.inl h⟩,fun k z=>uh,rfl⟩
  .rw[j,pG underlying26 jI O];simp
  .rw[yI underlying3 rfl hg,fd,dC,aX O];rfl
  .rw[Dw hg (by rw[dk];exact O),xD]
  .have J:=h.o5;have z:∀k,k≠r->(H.set r (.cells ((s.vars.set i x).map (.int .i64)) 0 true)).get k=H.get k:=fun k z=>uh;refine⟨by rw[z _ ac];exact h.m,h.nm.keep (aG _) fun k Y=>z k fun e=>(h.nS k Y).2.2.2 (by rw[e];exact V),h.af.keep (fun _ _ h=>h) (aG _) fun k hS _=>z k fun e=>(h.sS k hS).2.2 (by rw[e];exact V),.inr ⟨r,by rw[j,iB],iW,L,hr⟩,J,h.nS,h.sS,h.vS⟩
  .rw[aQ,ah (fun e=>Z (by rw[e];exact V))]
def zd1.swapV(h:zd1 X H S s lv vv){vw:AV}(Z:jy H vw l 0)(j:∀k,a3 vw k->X.b<k/\k<H.next/\¬S k/\¬a3 X.nv k):zd1 X (H.set X.b (.cells (br X {s with vars:=l} lv vw) 0 true)) S {s with vars:=l} lv vw:=by
 have Y:=h.o5;have hg:∀k,k≠X.b->(H.set X.b (.cells (br X {s with vars:=l} lv vw) 0 true)).get k=H.get k:=fun k z=>uh;exact⟨iW,h.nm.keep (aG _) fun k z=>hg k Og,h.af.keep (fun _ _ h=>h) (aG _) fun k z O=>hg k Oh,Z.keep (aG _) fun k z=>hg k (by have:=j k z;omega),Y,fun k z=>⟨(h.nS k z).1,(h.nS k z).2.1,(h.nS k z).2.2.1,fun e=>(j k e).2.2.2 z⟩,fun k z=>⟨(h.sS k z).1,(h.sS k z).2.1,fun e=>(j k e).2.2.1 z⟩,fun k z=>⟨(j k z).1,(j k z).2.1⟩⟩
end
def tX(X:Qx)(S:Nat->Prop)(vv:AV)(H:Hp)(r:Int×Bd)(v:AV)(H':Hp):Prop:=v=.int .i64 r.1/\∃Y Z,zd1 X H' Y r.2 Z vv/\FrQ X S vv H Y vv H'
def r6(X:Qx)(S:Nat->Prop)(vv:AV)(H:Hp)(r:Bd)(v:AV)(H':Hp):Prop:=∃Y Z j,zd1 X H' Y r Z j/\FrQ X S vv H Y j H'
def zmA(X:Qx)(S:Nat->Prop)(vv:AV)(H:Hp)(r:Bd)(v:AV)(H':Hp):Prop:=∃Y Z,zd1 X H' Y r Z vv/\FrQ X S vv H Y vv H'
def zd1.new{X:Qx}{lv vv:AV}(h:zd1 X H S s lv vv)(hr:H.next<=r):¬S r/\¬a3 vv r/\X.b<r:=⟨fun e=>by have:=(h.sS r e).2.1;omega,fun e=>by have:=(h.vS r e).2;omega,by have:=h.o5;omega⟩
def tX.ef{X:Qx}{vv:AV}{bZ:Hp}{r:Int×Bd}(h:tX X S vv H r v H')(z:FrQ X J vv bZ S vv H):tX X J vv bZ r v H':=by
 obtain⟨j,Y,Z,m,C⟩:=h;exact⟨j,Y,Z,m,z.trans C⟩
def r6.ef{X:Qx}{vv:AV}{bZ:Hp}{r:Bd}(h:r6 X S vv H r v H')(z:FrQ X J O bZ S vv H):r6 X J O bZ r v H':=by
 obtain⟨Y,Z,j,m,C⟩:=h;exact⟨Y,Z,j,m,z.trans C⟩
def FrQ.box{X:Qx}{Y:Hp}{j:Nat->Prop}{lv vv I:AV}(C:zd1 X Z S s lv vv){b:HB}(h:FrQ X S vv (Z.alloc b) j I Y):Y.get Z.next=some b:=by
 have n:=C.new (aG _);rw[h.get _ (cn _) (by have:=n.2.2;omega) n.1 n.2.1,aL,ai rfl]
def gQ:=@FrQ.box
theorem zd1.atV{X:Qx}{lv vv:AV}(h:zd1 X H S s lv vv)(O:s.vars[i]?=some x):∃r,dK prog 26 vv (.int .i64 (i:Int))=some (.ptr r i)/\eP prog H 3 (.ptr r i)=some (.int .i64 x):=by
 have C:i<s.vars.length:=by
  by_cases c:i<s.vars.length
  .exact c
  .rw[ng ac]at O;cases O
 obtain⟨r,j,m,_⟩:=h.setV C 0;refine⟨r,j,?_⟩;rw[m,dC,O];rfl
def tyQaB.tyF:=ad @dm (ad @cG (ad @jU (ad @ey (ad @gC (ad @ik (ad @jx (ad @vW (ad @eG (ad @ij (ad @l8 (ad @nZ (@ziN))))))))))))
open tyQaB
noncomputable def XX:=qd (M:=52) f67.eq_1
noncomputable def XY:=qd (M:=25) f109.eq_1
noncomputable def XZ:=qd (M:=28) f110.eq_1
def Oo(H:Hp):eW prog H 26 0 []=some (.sl H.next 0 0 1,H.alloc qo):=ax
theorem X0{z:Nat}:∀{rows:List qB}{i:Nat}{r:qB},(∀x∈rows,x.length=z)->rows[i]?=some r->rows.flatten.drop (i*z)=r++(rows.drop (i+1)).flatten
 |[],i,r,_,e=>by simp at e
 |a::rows,0,r,h,e=>by
  simp only[nH]at e;subst e;simp
 |a::rows,i+1,r,h,e=>by
  have m:=h a dM;have ih:=X0 (rows:=rows) (i:=i) (r:=r) (fun x I=>h x (dh _ I)) yY;have C:(i+1)*z=a.length+i*z:=by rw[Ai,m];omega
  rw[pF,C,IV,ih];rfl
def zmB{rows:List qB}{r:qB}(h:∀x∈rows,x.length=z)(e:rows[i]?=some r):cr z (rows.flatten.drop (i*z))=some (.agg r):=by
 have hr:=h r (cV e);rw[X0 h e];unfold cr;rw[FE ac,je ac,ai hr]
def Oq(f:FuncId):Bool:=Nat.beq f 67||Nat.beq f 109||Nat.beq f 110||Nat.beq f 112||Nat.beq f 111||Nat.beq f 69||Nat.beq f 193||Nat.beq f 68||Nat.beq f 108||Nat.beq f 160
noncomputable def Jq:En:=⟨53,true,co Jl wD fun x=>.bool (decide (x.1=x.2))⟩
def zmC:de prog ρ Jq:=dA fun x I=>zlR ρ x I
structure zd8 (tb:qH):Prop where
 pl:∀f,Oq f=true->(∀ar,dU tb f ar=none)/\mc tb f=false
 sn:∀ar,dU tb 53 ar=(xF Jq).sp ar
 sni:mc tb 53=true
 ff:∀ar,dU tb 55 ar=AY.sp ar
def zd8.plain(h:zd8 tb){f:FuncId}(z:Oq f=true):zd0 (aA pls tb) f:=gY (h.pl f z).1 (h.pl f z).2
theorem zmD(y:Nd×Nd):(wD y).any (rU 90)=false:=by obtain⟨⟨a,b,c⟩,⟨d,e,f⟩⟩:=y;rfl
def zmE(C:zd8 tb){cs J:qB}{x y:Nd}(Z:n<57)(L:cY S n H cs x.cells)(hd:cY S n H J y.cells)(z:x.ak.length<2^60):
 aR prog (aA pls tb) 53 [.agg cs,.agg J] H fun w H'=>w=.bool (decide (x=y))/\Icy S H H':=by
 obtain⟨V,j,m⟩:cY S (n+1) H [.agg cs,.agg J] (wD (x,y)):=.cons (.agg L) (.cons (.agg hd) .nil);exact Mo (x:=((x,y):Nd×Nd)) (enc:=wD) (ok:=Jl) (out:=fun x=>.bool (decide (x.1=x.2))) zlP (fun Y=>by rw[C.sn];rfl) C.sni zmD z ac j (m 60 ac)
def eN.get{ws:List qB}(h:eN S n H z v ws){w:qB}(O:ws[i]?=some w):∃(q Y:Nat) (rows:List qB) (Z:qB),v=.sl q 0 ws.length z/\S q/\q<H.next/\H.get q=some (.cells rows.flatten Y true)/\rows[i]?=some Z/\Z.length=z/\(∀x∈rows,x.length=z)/\cY (fun k=>S k/\k≠q) n H Z w:=by
 rcases h with⟨_,m⟩|⟨q,Y,rows,e,j,m,C,I,V⟩
 .subst m;simp at O
 .have L:=bN.len V;have J:i<ws.length:=by
   by_cases c:i<ws.length
   .exact c
   .rw[ng ac]at O;cases O
  have hr:rows[i]?=some rows[i]:=aX ac;obtain⟨k1,k2⟩:=bN.get V hr O;exact⟨q,Y,rows,_,by rw[e,L],j,m,C,hr,k1,fZ.len V,k2⟩
def zmF(h:i<n):dK prog 42 (.sl q 0 n 3) (.int .i64 (i:Int))=some (.ptr q (i*3)):=by rw[pG underlying42 GX h];simp
def zd1.dB{X:Qx}{Z:Nat->Prop}{lv vv:AV}(h:zd1 X H S s lv vv)(O:Icy Z H H')(hd:∀k,Z k->k<H.next->X.b<k/\¬a3 vv k/\¬a3 X.nv k):zd1 X H' S s lv vv:=by
 have hg:∀k,k<H.next->(k<=X.b\/a3 vv k\/a3 X.nv k)->H'.get k=H.get k:=fun k z hc=>O.out k fun e=>by
  have:=hd k e z;rcases hc with hc|hc|hc
  .omega
  .exact this.2.1 hc
  .exact this.2.2 hc
 have J:=O.next
 refine⟨by rw[hg _ h.o5 (.inl (aG _))];exact h.m,h.nm.keep ac fun k z=>hg k (h.nS k z).2.1 (.inr (.inr z)),h.af.fv ac fun k _ _=>O.same k,h.vars.keep ac fun k z=>hg k (h.vS k z).2 (.inr (.inl z)),by rw[J];exact h.o5,fun k z=>?_,fun k z=>?_,fun k z=>?_⟩
 .rw[J];exact h.nS k z
 .rw[J];exact h.sS k z
 .rw[J];exact h.vS k z
def Ot(j:gM H v l lo)(hl:l.length<2^38):∃C H',dr prog false (H.alloc qo) 26 26 (.sl H.next 0 0 1) v=some (C,H')/\jy H' C l H.next/\H.next+1<=H'.next/\(∀k,k<H.next->H'.get k=H.get k):=by
 have z:∀k,k<H.next->(H.alloc qo).get k=H.get k:=fun k z=>dT
 have O:v8 (H.alloc qo) (.sl H.next 0 0 1) [] H.next:=⟨H.next,rfl,iE,aG _,cn _⟩
 have Y:gM (H.alloc qo) v l lo:=j.keep (dg _) fun k h=>z k (j.lt h).2;by_cases V:l=[]
 .subst V;refine⟨_,_,?_,.inr O,aG _,z⟩;rcases Y with⟨rfl,_⟩|⟨r,Z,rfl,m,_⟩
  .simp only[dr,underlying26,jI,rM,rN,show jF prog 26=true by kernel_rfl,gg]
  .have L:=xG m;simp only[jQ]at L;simp only[dr,underlying26,jI,rM,rN,show jF prog 26=true by kernel_rfl,jQ,L]
 .have hx:gg (H.alloc qo) 1 v=some (l.length,l.map (.int .i64)):=by
   rcases Y with⟨_,h⟩|⟨r,Z,rfl,m,_⟩
   .exact(V h).elim
   .exact xG m
  obtain⟨C,H',J,m,I,h4,_⟩:=L8 (v:=.sl H.next 0 0 1) (l:=[]) (lo:=H.next) (.inr O) iF hx V cZ;rw[tg]at m;simp only[aS]at I;exact⟨C,H',J,.inr m,ac,fun k h=>by rw[h4 k h,z k h]⟩
def r7(i:Nat)(l:List aY)(s:aY):Nat:=if bL l s=true then i+bS l s else 0
def X1(l:List aY)(s:aY):bS l s=r7 0 l s:=by
 unfold r7;split
 .omega
 .rename_i h;exact zji l s lV
theorem X2(i:Nat)(l:List aY)(s:aY):r7 i (s::l) s=i:=by
 have h:bL (s::l) s=true:=by simp[bL]
 rw[r7,ai h,bS,ai rfl];rfl
def X3{a:aY}{l:List aY}{s:aY}(h:a≠s):r7 i (a::l) s=r7 (i+1) l s:=by
 have e:bL (a::l) s=bL l s:=by simp[bL,h]
 unfold r7;rw[e,bS,ah h];split
 .omega
 .rfl
def zmG(hG:zd8 tb){X:Qx}{lv vv:AV}(Y:zd1 X H S s lv vv)(nm:aY)(hl:X.ns.length<2^40):
 aR prog (aA pls tb) 109 [.ptr X.b 0,.ay nm] H fun v H'=>v=.int .i64 ((bS X.ns nm:Nat):Int)/\H'=H:=by
 have hw:zd0 (aA pls tb) 109:=hG.plain cN;have bt:=Y.m;unfold br at bt;have m:∀H',jP prog H' 66 X.nv=some (.int .i64 X.ns.length):=fun H'=>by
  rcases Y.nm with⟨e,h⟩|h
  .rw[e,h];exact Gv underlying66
  .exact h.len
 rw[X1];refine qe hw func109 XY ?_;dsimp only[XY,qd,a1,Nat.reduceAdd];refine mA ?_;refine cP [0,1] [] 5 X.ns.length (fun i E V=>V=H/\r7 0 X.ns nm=r7 i (X.ns.drop i) nm) eE ⟨rfl,aB⟩ ?_;rintro i E V hi O J L hsI ⟨z,I⟩;(try simp only[bz,a7,aV,aK,bb,Nat.reduceBEq, *]at O);(try simp only[a7, *]at J);(try simp only[aS,bK,cL,bR,Nat.reduceAdd]at L);subst z;by_cases C:i<X.ns.length
 .have Z:(i:Int)<X.ns.length:=by omega
  have hB:dW V X.nv X.ns 0:=by
   rcases Y.nm with⟨e,h⟩|h
   .rw[h]at C;simp at C
   .exact h
  obtain⟨r,hix,hld⟩:=hB.at C;rw[i4 C]at I;generalize X.ns[i]=a at *;by_cases j:a=nm
  .subst j;rw[X2]at I;refine EV (fun hb hbp=>?_);all_goals refine qi ?_
   refine⟨?_,trivial⟩;rw[I]
  .rw[X3 j]at I;refine EV (fun hb hbp=>?_);refine⟨ac,aW,aW,b8,(by simp only[aK,Nat.reduceBEq, *];exact il (n:=X.ns.length) ac ac),?_⟩;exact⟨rfl,I⟩
 .have Z:¬(i:Int)<X.ns.length:=by omega
  have hd:X.ns.drop i=[]:=oc ac;rw[hd]at I;refine JE (fun hb hbp=>?_);all_goals refine qi ?_
  refine⟨?_,trivial⟩;rw[I];simp[r7,bL]
def zmH(m:zd8 tb){X:Qx}{lv vv:AV}(j:zd1 X H S s lv vv)(nm:aY)(hl:X.p.ab.length<2^40):
 aR prog (aA pls tb) 110 [.ptr X.b 0,.ay nm] H fun v H'=>v=.int .i64 ((bS (X.p.ab.map (·.name)) nm:Nat):Int)/\H'=H:=by
 have hw:zd0 (aA pls tb) 110:=m.plain cN;have bt:=j.m;unfold br at bt;rw[X1];refine qe hw func110 XZ ?_;dsimp only[XZ,qd,a1,Nat.reduceAdd];refine mA ?_;refine cP [0,1] [] 5 X.p.ab.length (fun i E z=>z=H/\r7 0 (X.p.ab.map (·.name)) nm=r7 i ((X.p.ab.drop i).map (·.name)) nm) eE ⟨rfl,aB⟩ ?_;rintro i E z hi Y J L hsI ⟨O,I⟩;(try simp only[bz,a7,aV,aK,bb,Nat.reduceBEq, *]at Y);(try simp only[a7, *]at J);(try simp only[aS,bK,cL,bR,Nat.reduceAdd]at L);subst O;by_cases C:i<X.p.ab.length
 .have Z:(i:Int)<X.p.ab.length:=by omega
  have hgx:X.p.ab[i]?=some X.p.ab[i]:=aX C;rw[i4 C,eC]at I;generalize X.p.ab[i]=a at *;by_cases V:a.name=nm
  .rw[<-V]at I;rw[X2]at I;refine EV (fun hb hbp=>?_);all_goals refine qi ?_
   refine⟨?_,trivial⟩;rw[<-V,I]
  .rw[X3 V]at I;refine EV (fun hb hbp=>?_);refine⟨ac,aW,aW,b8,(by simp only[aK,Nat.reduceBEq, *];exact il (n:=X.p.ab.length) ac ac),?_⟩;exact⟨rfl,I⟩
 .have Z:¬(i:Int)<X.p.ab.length:=by omega
  have hd:X.p.ab.drop i=[]:=oc ac;rw[hd]at I;refine JE (fun hb hbp=>?_);all_goals refine qi ?_
  refine⟨?_,trivial⟩;rw[I];simp[r7,bL]
set_option maxRecDepth 100000 in
theorem Jr(hG:zd8 tb){X:Qx}{lv vv kv:AV}(C:zd1 X H S s lv vv)(n:Nd)(z:gM H kv n.ak lo)(hF:Fin (aj n s).2):
 aR prog (aA pls tb) 67 [.ptr X.b 0,.int .i64 n.op,.int .i64 n.aP,kv] H (tX X S vv H (aj n s)):=by
 have hw:zd0 (aA pls tb) 67:=hG.plain cN;have hkeep:(aA pls tb).keep 67=false:=rfl;have hr:=hF.r;have hn:NdR n:=hr n (uS.2 (.inr rfl));have hnl:=hn.len;have hlen:s.l.length<2^36:=xR (wn s.l n).length_le hF.l;have o5:=C.o5;obtain⟨O,I,cI,s5,n5,f5⟩:=Ot z ac;have hb3:=ziP s5.n n.op n.aP;have hone0:=s5.n.one;refine qe hw func67 XX ?_;dsimp only[XX,qd,a1,Nat.reduceAdd];have gh0:=@Oo;refine dX ?_;generalize hHb:Hp.set (Hp.alloc I _) _ _=Hb;have nb:Hb.next=I.next+1:=by rw[<-hHb];rfl
 have gb:Hb.get I.next=some (.cells [.int .i64 n.op,.int .i64 n.aP,O] 0 true):=DA
 have ob:∀k,k<I.next->Hb.get k=I.get k:=fun k z=>SZ
 have oo:∀k,k<H.next->Hb.get k=H.get k:=fun k z=>by rw[ob k ac,f5 k z]
 clear hHb;have R1:zd1 X Hb S s lv vv:=C.keep ac fun k z _=>oo k z;have hv5:gM Hb O n.ak H.next:=s5.n.keep ac fun k z=>ob k (s5.n.lt z).2
 have hone:=hv5.one;have Z:∀k,a3 O k->H.next<=k/\k<I.next:=fun k z=>⟨(s5.n.lt z).1,(s5.n.lt z).2⟩
 clear cI s5 f5 ob;refine cP [0,9] [] 10 s.l.length (fun i E V=>zd1 X V S s lv vv/\V.get I.next=some (.cells [.int .i64 n.op,.int .i64 n.aP,O] 0 true)/\gM V O n.ak H.next/\(∀k,k<H.next->¬S k->V.get k=H.get k)/\fG s.l n=i+fG (s.l.drop i) n) eE ⟨R1,gb,hv5,fun k j _=>oo k j,aB⟩ ?_;clear gb hv5 R1;rintro i E V hi hcE hrH hnH hsI ⟨Y,gi,vi,oi,J⟩;(try simp only[bz,a7,aV,aK,bb,Nat.reduceBEq, *]at hcE);(try simp only[a7, *]at hrH);(try simp only[aS,bK,cL,bR,Nat.reduceAdd]at hnH);have ni:Hb.next<=V.next:=hnH
 have mi:=Y.m;have hll:∀H',jP prog H' 42 lv=some (.int .i64 s.l.length):=fun H'=>by
  have:=Y.af.len (P:=prog) (t:=42) (H':=H') underlying42
  rwa [dk]at this
 unfold br at mi;by_cases hlt:i<s.l.length
 .have hlt':(i:Int)<s.l.length:=by omega
  have hgx:s.l[i]?=some s.l[i]:=aX hlt;have hxr:NdR s.l[i]:=hr _ (uS.2 (.inl (dE hlt)));rw[i4 hlt,ziq]at J;generalize s.l[i]=x at *;have hxl:=hxr.len;obtain⟨q,imm,rows,row,hlv,hq1,hq2,hq3,hr1,hr2,hr3,hr4⟩:=Y.af.get (i:=i) (w:=x.cells) (by rw[fd,hgx];rfl);rw[dk]at hlv;subst hlv;have hixa:=zmF (q:=q) hlt;have hag:=zmB hr3 hr1;have hld:eP prog V 58 (.ptr q (i*3))=some (.agg row):=by
   rw[nr,hq3];exact hag
  have hnd:=U1 (S:=fun k=>S k\/a3 O k) n.op n.aP vi fun k z=>.inr z;have hcx:cY (fun k=>S k\/a3 O k) 2 V row x.cells:=hr4.keep (fun k z=>.inl z.1) (aG _) fun _ _ _=>rfl;repeat' (first
   |(apply ay ?_;clear hK K)|apply aT ?_|(apply a2 ?_ ?_<;>(intro hb hbp;try(cases hb;done)))|(apply az fun K hK=>?_)|(apply bV 5 [(3,8),(6,8),(7,8)] fun K hK=>?_)|(apply bB ?_;try intro _)|fail)
  refine qk ?_;refine a8 ?_ (zmE hG (n:=2) ac hcx hnd ac);rintro _ Hj ⟨rfl,hI⟩;have Rj:=Y.dB hI fun k j h2=>by
   rcases j with j|j
   .exact⟨(Y.sS k j).1,(Y.sS k j).2.2,fun e=>(Y.nS k e).2.2.1 j⟩
   .have:=Z k j;exact⟨ac,fun e=>by have:=(C.vS k e).2;omega,fun e=>by have:=(C.nS k e).2.1;omega⟩
  have mj:=Rj.m;have vj:=vi.dB hI;have gj:Hj.get I.next=some (.cells [.int .i64 n.op,.int .i64 n.aP,O] 0 true):=by
   rw[hI.out _ (fun e=>by
    rcases e with e|e
    .have:=(C.sS _ e).2.1;omega
    .have:=(Z _ e).2;omega)]
   exact gi
  have oj:∀k,k<H.next->¬S k->Hj.get k=H.get k:=fun k j h2=>by
   rw[hI.out _ (fun e=>by
    rcases e with e|e
    .exact h2 e
    .have:=(Z _ e).1;omega)]
   exact oi k j h2
  have hldj:eP prog Hj 58 (.ptr q (i*3))=some (.agg row):=by
   rcases hI.same q with e|⟨cs,a,b,tip,e1,e2,_⟩
   .rw[nr,<-e,hq3];exact hag
   .rw[hq3]at e1;simp only[am,HB.cells.injEq]at e1;obtain⟨rfl,rfl,rfl⟩:=e1;rw[nr,e2];exact hag
  have nj:=hI.next
  unfold br at mj;dsimp only[a0];by_cases he:x=n
  .rw[ai he]at J;refine OO ?_ ?_
   .exact bM
   all_goals refine qi ?_
   have e1:aj n s=(((fG s.l n:Nat):Int),s):=by rw[aj,ku,ai ac]
   rw[tX,e1,J];exact⟨aB,S,_,Rj,⟨ac,fun k j _ h3 _=>oj k j h3,fun k h=>.inl h,fun k h=>.inl h⟩⟩
  .rw[ah he]at J;refine OO ?_ ?_
   .exact bM
   refine⟨ac,aW,aW,b8,(by simp only[aK,Nat.reduceBEq, *];exact il (n:=s.l.length) ac ac),?_⟩;exact⟨Rj,gj,vj,oj,ac⟩
 .have hlt':¬(i:Int)<s.l.length:=by omega
  have hd:s.l.drop i=[]:=oc ac;rw[hd]at J;have hi0:fG [] n=0:=rfl;have hixl:fG s.l n=s.l.length:=ac;have hadd:ku s.l n=s.l++[n]:=by rw[ku,ah ac]
  have hpo:aj n s=(((fG s.l n:Nat):Int),{s with l:=s.l++[n] }):=by rw[aj,hadd]
  have hSk:∀k,S k->X.b<k/\k<H.next:=fun k h=>⟨(C.sS k h).1,(C.sS k h).2.1⟩
  have hlS:∀k o m z',lv=.sl k o m z'->S k:=fun k o m z' e=>by
   rcases Y.af with⟨j,_⟩|⟨q,im,rows,j,h2,_⟩
   .rw[j]at e;cases e
   .rw[j]at e;simp only[AV.sl.injEq]at e;rw[<-e.1];exact h2
  have hbs:∀H,eW prog H 42 1 [(0,.agg [.int .i64 n.op,.int .i64 n.aP,O])]=some (.sl H.next 0 1 3,H.alloc (.cells [.int .i64 n.op,.int .i64 n.aP,O] 0 true)):=fun H=>ziM H rfl Xq;have g4:∀k,k<V.next->(V.alloc (.cells [.int .i64 n.op,.int .i64 n.aP,O] 0 true)).get k=V.get k:=fun k z=>dT
  obtain⟨H6,eO,s6,n6,q6⟩:=M9 (P:=prog) (t:=42) underlying42 GX Rf Rg rfl ax (S':=fun k=>S k\/a3 O k\/k=V.next+1)
   (Y.af.keep (S':=S) (H':=V.alloc (.cells [.int .i64 n.op,.int .i64 n.aP,O] 0 true)) (fun _ _ h=>h) (dg _) fun k z h6=>g4 k h6)
   (fun k _ h=>.inl h) (.inr (.inr rfl)) (r:=V.next) (imm:=0) (row:=[.int .i64 n.op,.int .i64 n.aP,O]) (w:=n.cells) fw rfl Xq
   (U1 n.op n.aP (lo:=H.next) (vi.keep (dg _) fun k z=>g4 k (vi.lt z).2) fun k hk2=>⟨.inr (.inl hk2),fun o m z' e=>by have:=hSk k (hlS k o m z' e);have:=Z k hk2;omega⟩)
   Jn Jn
  rw[dk]at eO s6;simp only[aS]at eO s6 n6 q6;have hno:∀k,¬S k->∀o m z',lv≠.sl k o m z':=fun k z o m z' e=>z (hlS k o m z' e);have m4:(V.alloc (.cells [.int .i64 n.op,.int .i64 n.aP,O] 0 true)).get X.b=some (.cells (br X s lv vv) 0 true):=by rw[g4 _ Y.o5];exact Y.m
  have ge4:(V.alloc (.cells [.int .i64 n.op,.int .i64 n.aP,O] 0 true)).get I.next=some (.cells [.int .i64 n.op,.int .i64 n.aP,O] 0 true):=by rw[g4 _ ac];exact gi
  have L:∀k,k<V.next->¬S k->H6.get k=V.get k:=fun k j h2=>by rw[q6 k ac (hno k h2),g4 k j]
  have m6:H6.get X.b=some (.cells (br X s lv vv) 0 true):=by rw[L _ Y.o5 fun e=>by have:=hSk _ e;omega];exact Y.m
  have ge6:H6.get I.next=some (.cells [.int .i64 n.op,.int .i64 n.aP,O] 0 true):=by rw[L _ ac fun e=>by have:=hSk _ e;omega];exact gi
  have ew:IntKind.wrap .i64 (((s.l.length+1:Nat):Int)-1)=s.l.length:=Hn;have fin:tX X S vv H (aj n s) (.int .i64 s.l.length) (H6.set X.b (.cells (br X {s with l:=s.l++[n] } (.sl (V.next+1) 0 (s.l.length+1) 3) vv) 0 true)):=by
   rw[tX,hpo,hixl];have g6:∀k,k≠X.b->(H6.set X.b (.cells (br X {s with l:=s.l++[n] } (.sl (V.next+1) 0 (s.l.length+1) 3) vv) 0 true)).get k=H6.get k:=fun k z=>uh;refine⟨rfl,fun k=>S k\/a3 O k\/k=V.next+1,_,⟨iW,Y.nm.keep eZ fun k z=>?_,?_,Y.vars.keep eZ fun k z=>?_,eZ,fun k z=>?_,?_,fun k z=>?_⟩,⟨eZ,fun k j h2 h3 h4=>?_,?_,fun k h=>.inl h⟩⟩
   .have:=Y.nS k z;rw[g6 k ac,L k this.2.1 this.2.2.1]
   .have e:(s.l++[n]).map Nd.cells=s.l.map Nd.cells++[n.cells]:=by simp
    rw[e];refine s6.keep (fun _ _ h=>h) (aG _) fun k z _=>g6 k ?_;rcases z with z|z|z
    .have:=hSk k z;omega
    .have:=Z k z;omega
    .have:=Y.o5;omega
   .have h9:=Y.vS k z;rw[g6 k ac,L k h9.2 fun e=>(Y.sS k e).2.2 z]
   .have h9:=Y.nS k z;have h8:=C.nS k z;refine⟨h9.1,eZ,?_,h9.2.2.2⟩;rintro(e|e|e)
    .exact h9.2.2.1 e
    .have:=Z k e;omega
    .omega
   .rintro k (z|z|z)
    .have h9:=Y.sS k z;exact⟨h9.1,eZ,h9.2.2⟩
    .have h8:=Z k z;exact⟨ac,eZ,fun e=>by have:=(C.vS k e).2;omega⟩
    .refine⟨by have:=Y.o5;omega,eZ,fun e=>?_⟩;have:=(Y.vS k e).2;omega
   .have:=Y.vS k z;simp only[bK];omega
   .rw[g6 k h2,L k ac h3];exact oi k j h3
   .rintro k (z|z|z)
    .exact .inl z
    .exact .inr (Z k z).1
    .exact .inr ac
  unfold br at m4 m6 fin;clear s6 L g4 q6 hno hlS;repeat' (first
   |(apply ay ?_;clear hK K)|apply aT ?_|(apply a2 ?_ ?_<;>(intro hb hbp;try(cases hb;done)))|(apply az fun K hK=>?_)|(apply bV 7 [(4,7),(5,7),(6,7)] fun K hK=>?_)|(apply bB ?_;try intro _)|(apply bY ?_ ?_<;>clear hK K)|fail)
  all_goals first
   |exact bM
   |skip
  all_goals refine qi ?_
  exact fin
def mS(C:zd8 tb){X:Qx}{lv vv:AV}(Z:zd1 X H S s lv vv)(n:Nd){m:Nat}(Y:n.ak.length=m)(hg:H.get r=some (.cells (n.ak.map (.int .i64)) 0 true))(O:r<H.next)(L:Fin (aj n s).2){op imm:Int}(J:n.op=op)(V:n.aP=imm):
 aR prog (aA pls tb) 67 [.ptr X.b 0,.int .i64 op,.int .i64 imm,.sl r 0 m 1] H (tX X S vv H (aj n s)):=by
 subst Y;subst J;subst V;exact Jr (lo:=0) C Z n (.inr ⟨r,0,rfl,hg,eR _,eR _,O⟩) L
def vm(C:zd8 tb){X:Qx}{lv vv:AV}(Z:zd1 X H S s lv vv)(op imm:Int)(Y:Fin (aj ⟨op,imm,[]⟩ s).2):
 aR prog (aA pls tb) 67 [.ptr X.b 0,.int .i64 op,.int .i64 imm,.ao] H (tX X S vv H (aj ⟨op,imm,[]⟩ s)):=
 Jr (lo:=0) C Z ⟨op,imm,[]⟩ (.inl ⟨rfl,rfl⟩) Y
end
variable{X:Qx}
section
def tyQaC.tyF:=ad @cG (ad @eG (ad @ij (ad @l8 (ad @jU (ad @ey (ad @gC (ad @jx (ad @nZ (ad @vW (ad @U2 (@DX)))))))))))
open tyQaC
noncomputable def Js:=qd (M:=19) f112.eq_1
noncomputable def X4:=qd (M:=35) f111.eq_1
def BI(C:zd8 tb){lv vv:AV}(Z:zd1 X H S s lv vv)(c a b:Int)(Y:Fin (a5 c a b s).2):
 aR prog (aA pls tb) 112 [.ptr X.b 0,.int .i64 c,.int .i64 a,.int .i64 b] H (tX X S vv H (a5 c a b s)):=by
 have hw:zd0 (aA pls tb) 112:=C.plain cN;by_cases h:a=b
 .subst h;have e:a5 c a a s=(a,s):=by rw[a5,ai rfl]
  rw[e];refine qe hw func112 Js ?_;dsimp only[Js,qd,a1,Nat.reduceAdd];refine OR ?_;all_goals refine qi ?_
  exact⟨rfl,S,lv,Z,fS _ _ _ _⟩
 .have e:a5 c a b s=aj ⟨22,0,[c,a,b]⟩ s:=by rw[a5,ah h]
  rw[e]at Y⊢;refine qe hw func112 Js ?_;dsimp only[Js,qd,a1,Nat.reduceAdd];refine Zd fun K hK=>?_;refine qj ?_;refine a8 ?_ (mS C (Z.alloc _) ⟨22,0,[c,a,b]⟩ rfl iE (cn _) Y rfl rfl);intro w O m;have V:=m.ef ((fS X S vv H).alloc _);obtain⟨rfl,L⟩:=m;dsimp only[a0];refine vx ?_;all_goals refine qi ?_
  exact V
def X5(C:zd8 tb){lv vv:AV}(V:zd1 X H S s lv vv)(k:Nat)(i:Int){a:Ar}(ha:X.p.ab[k]?=some a)(O:Fin (dS a.len i s)):
 aR prog (aA pls tb) 111 [.ptr X.b 0,.int .i64 (k:Int),.int .i64 i] H (zmA X S vv H (dS a.len i s)):=by
 have hw:zd0 (aA pls tb) 111:=C.plain cN;have bt:=V.m;unfold br at bt;have L:Fin (aj ⟨19,0,[i,(aj ⟨1,a.len,[]⟩ s).1]⟩ (aj ⟨1,a.len,[]⟩ s).2).2:=O.le (r1 _ _ _).le;have z:Fin (aj ⟨1,a.len,[]⟩ s).2:=L.le (b9 _ _).le;refine qe hw func111 X4 ?_;dsimp only[X4,qd,a1,Nat.reduceAdd];refine fT fun K hK=>?_;refine qj ?_;refine a8 ?_ (vm C V 1 a.len z);rintro w m ⟨rfl,S2,lv2,R2,F2⟩;dsimp only[a0];refine fT fun K hK=>?_;refine qj ?_;refine a8 ?_ (mS C (R2.alloc _) ⟨19,0,[i,(aj ⟨1,a.len,[]⟩ s).1]⟩ rfl iE (cn _) L rfl rfl);rintro w H3 ⟨rfl,S3,lv3,J,ea⟩;have Y:=F2.trans (((fS X S2 vv m).alloc _).trans ea);have m3:=J.m;unfold br at m3;dsimp only[a0];refine fT fun K hK=>?_;refine qj ?_;refine a8 ?_ (mS C (J.alloc _) ⟨27,2,[(aj ⟨19,0,[i,(aj ⟨1,a.len,[]⟩ s).1]⟩ (aj ⟨1,a.len,[]⟩ s).2).2.aa,(aj ⟨19,0,[i,(aj ⟨1,a.len,[]⟩ s).1]⟩ (aj ⟨1,a.len,[]⟩ s).2).1]⟩ rfl iE (cn _) (O.le ⟨tO _,aG _⟩) rfl rfl);rintro w H4 ⟨rfl,S4,Z,I,F4⟩;have j:=Y.trans (((fS X S3 vv H3).alloc _).trans F4);have m4:=I.m;unfold br at m4;dsimp only[a0];refine Zh ?_;all_goals first
  |exact bM
  |skip
 all_goals refine qi ?_
 obtain⟨aI,b1⟩:=I.setS (aj ⟨27,2,[(aj ⟨19,0,[i,(aj ⟨1,a.len,[]⟩ s).1]⟩ (aj ⟨1,a.len,[]⟩ s).2).2.aa,(aj ⟨19,0,[i,(aj ⟨1,a.len,[]⟩ s).1]⟩ (aj ⟨1,a.len,[]⟩ s).2).1]⟩ (aj ⟨19,0,[i,(aj ⟨1,a.len,[]⟩ s).1]⟩ (aj ⟨1,a.len,[]⟩ s).2).2).1;exact⟨S4,Z,aI,j.trans b1⟩
end
section
def tyQaD.tyF:=ad @dm (ad @cG (ad @eG (ad @jU (ad @ey (ad @gC (ad @jx (ad @jh (ad @iC (ad @vW (ad @DX (@DY)))))))))))
open tyQaD
noncomputable def sY:=qd (M:=166) f69.eq_1
structure CxQ (X:Qx) (c:Cx):Prop where
 ar:X.p.ab=c.ab
 ns:X.ns=c.aO
 fs:X.p.funcs=c.funcs
 l1:c.ab.length<2^40
 l2:c.aO.length<2^40
 l3:c.funcs.length<2^40
def CxQ.ix(C:zd8 tb){c:Cx}(j:CxQ X c){lv vv:AV}(Z:zd1 X H S s lv vv)(nm:aY):
 aR prog (aA pls tb) 109 [.ptr X.b 0,.ay nm] H fun v H'=>v=.int .i64 ((bS c.aO nm:Nat):Int)/\H'=H:=by
 rw[<-j.ns];exact zmG C Z nm (by rw[j.ns];exact j.l2)
def X6(C:zd8 tb){c:Cx}(j:CxQ X c){lv vv:AV}(Z:zd1 X H S s lv vv)(nm:aY):
 aR prog (aA pls tb) 110 [.ptr X.b 0,.ay nm] H fun v H'=>v=.int .i64 ((bS (c.ab.map (·.name)) nm:Nat):Int)/\H'=H:=by
 rw[<-j.ar];exact zmH C Z nm (by rw[j.ar];exact j.l1)
set_option maxRecDepth 100000 in
theorem vn{tb:qH}(C:zd8 tb){X:Qx}{c:Cx}(hX:CxQ X c):∀(n:Nat) (x:Ex) (s:Bd) (r:Int×Bd),ei c n x s=some r->Fin r.2->∀{H:Hp}{S:Nat->Prop}{lv vv:AV},zd1 X H S s lv vv ->
 aR prog (aA pls tb) 69 [.ptr X.b 0,.agg x.cells] H (tX X S vv H r)
 |0,x,s,r,h,_,_,_,_,_,_=>by simp[ei]at h
 |n+1,x,s,r,h,hF,H,S,lv,vv,hR=>by
  have IH:=vn C hX n;have hw:zd0 (aA pls tb) 69:=C.plain cN;have R1:=hR.alloc (.cells x.cells 0 true);have F1:=(fS X S vv H).alloc (.cells x.cells 0 true);have bt:=R1.m;unfold br at bt;have gx:(H.alloc (.cells x.cells 0 true)).get H.next=some (.cells x.cells 0 true):=fw
  unfold ei at h;by_cases h1:x.az=1
  .rw[ai h1,am]at h;subst h;refine qe hw func69 sY ?_;dsimp only[sY,qd,a1,Nat.reduceAdd];repeat' (first
    |(apply ay ?_;clear hK K)|apply aT ?_|(apply a2 ?_ ?_<;>(intro hb hbp;try(cases hb;done)))|(apply az fun K hK=>?_)|fail)
   refine qj ?_;refine a8 ?_ (vm C R1 1 x.n hF);intro w H2 h2;have h4:=h2.ef F1;obtain⟨rfl,h3⟩:=h2;dsimp only[a0];refine ru ?_;all_goals refine qi ?_
   exact h4
  rw[ah h1]at h;by_cases h2:x.az=2
  .rw[ai h2]at h;obtain⟨v,hv,rfl⟩:=uj.1 h;have kix:=CxQ.ix C hX R1 x.name;obtain⟨q,hix,hld⟩:=R1.atV hv;refine qe hw func69 sY ?_;dsimp only[sY,qd,a1,Nat.reduceAdd];repeat' (first
    |(apply ay ?_;clear hK K)|apply aT ?_|(apply eA ?_;first|refine Rx.k (kix) ?_)|(apply a2 ?_ ?_<;>(intro hb hbp;try(cases hb;done)))|(apply az fun K hK=>?_)|(apply bV 5 [(3,7),(3,11),(6,7),(9,11)] fun K hK=>?_)|(apply bB ?_;try intro _)|(apply bY ?_ ?_<;>clear hK K)|fail)
   .exact bM
   all_goals refine qi ?_
   exact⟨rfl,S,lv,R1,F1⟩
  rw[ah h2]at h;by_cases h3:x.az=3
  .rw[ai h3]at h;simp only[iG]at h;obtain⟨k,hk,aq,he,a,ha,rfl⟩:=h;have ha':X.p.ab[bS (c.ab.map (·.name)) x.name]?=some a:=by rw[hX.ar];exact ha
   have hFc:Fin (dS a.len aq.1 aq.2):=hF.le (b9 _ _).le;refine qe hw func69 sY ?_;dsimp only[sY,qd,a1,Nat.reduceAdd];repeat' (first
    |(apply ay ?_;clear hK K)|apply aT ?_|(apply a2 ?_ ?_<;>(intro hb hbp;try(cases hb;done)))|(apply az fun K hK=>?_)|fail)
   refine qj ?_;refine a8 ?_ (IH k s aq he (hFc.le (pX _ _ _).le) R1);rintro v H2 ⟨rfl,S2,lv2,R2,Y⟩;have g2:=gQ hR Y;have kax:=X6 C hX R2 x.name;dsimp only[a0];repeat' (first
    |(apply ay ?_;clear hK K)|apply a9 ?_|(apply fq ?_;first|refine Rx.k (kax) ?_)|(apply az fun K hK=>?_)|fail)
   refine qj ?_;refine a8 ?_ (X5 C R2 (bS (c.ab.map (·.name)) x.name) aq.1 ha' hFc);rintro w H3 ⟨S3,lv3,R3,ea⟩;have m3:=R3.m;unfold br at m3;dsimp only[a0];refine fT fun K hK=>?_;refine qj ?_;refine a8 ?_ (mS C (R3.alloc _) ⟨23,bS (c.ab.map (·.name)) x.name,[(dS a.len aq.1 aq.2).aa,aq.1]⟩ rfl iE (cn _) hF rfl rfl);intro w H4 h4;have h5:=h4.ef (F1.trans (Y.trans (ea.trans ((fS X S3 vv H3).alloc _))));obtain⟨rfl,h6⟩:=h4;dsimp only[a0];refine ru ?_;all_goals refine qi ?_
   exact h5
  rw[ah h3]at h;by_cases h5:x.az=5
  .rw[ai h5]at h;simp only[iG]at h;obtain⟨k0,hk0,au,e0,k1,hk1,aq,e1,k2,hk2,r2,e2,rfl⟩:=h;have hFt:Fin (a5 au.1 aq.2.aa (a5 au.1 aq.1 r2.1 r2.2).2.aa (a5 au.1 aq.1 r2.1 r2.2).2).2:=hF.le ⟨tO _,aG _⟩;have hFv:Fin (a5 au.1 aq.1 r2.1 r2.2).2:=hFt.le (eB _ _ _ _).le;have hF2:Fin r2.2:=hFv.le (eB _ _ _ _).le;have O:Fin aq.2:=(hF2.le (cD c n _ _ _ e2).le).le ⟨tO _,aG _⟩;have L:Fin au.2:=O.le (cD c n _ _ _ e1).le;refine qe hw func69 sY ?_;dsimp only[sY,qd,a1,Nat.reduceAdd];repeat' (first
    |(apply ay ?_;clear hK K)|apply aT ?_|(apply a2 ?_ ?_<;>(intro hb hbp;try(cases hb;done)))|(apply az fun K hK=>?_)|fail)
   refine qj ?_;refine a8 ?_ (IH k0 s au e0 L R1);rintro v H2 ⟨rfl,S2,lv2,R2,Y⟩;have g2:=gQ hR Y;have m2:=R2.m;unfold br at m2;dsimp only[a0];refine EW fun K hK=>?_;refine qj ?_;refine a8 ?_ (IH k1 _ aq e1 O R2);rintro v H3 ⟨rfl,S3,lv3,R3,ea⟩;have g3:=gQ hR (Y.trans ea);have m3:=R3.m;obtain⟨R3s,F3s⟩:=R3.setS au.2.aa;have g3s:=gQ hR (Y.trans (ea.trans F3s));unfold br at m3;dsimp only[br]at R3s F3s g3s;dsimp only[a0];refine Zg fun K hK=>?_;refine qj ?_;refine a8 ?_ (IH k2 _ r2 e2 hF2 R3s);rintro v H4 ⟨rfl,S4,lv4,R4,F4⟩;dsimp only[a0];refine fT fun K hK=>?_;refine qj ?_;refine a8 ?_ (BI C R4 au.1 aq.1 r2.1 hFv);rintro v H5 ⟨rfl,S5,lv5,R5,F5⟩;have m5:=R5.m;unfold br at m5;dsimp only[a0];refine fT fun K hK=>?_;refine qj ?_;refine a8 ?_ (BI C R5 au.1 aq.2.aa _ hFt);rintro v H6 ⟨rfl,S6,z,R6,F6⟩;have m6:=R6.m;unfold br at m6;dsimp only[a0];refine ru ?_;all_goals refine qi ?_
   obtain⟨R7,F7⟩:=R6.setS (a5 au.1 aq.2.aa (a5 au.1 aq.1 r2.1 r2.2).2.aa (a5 au.1 aq.1 r2.1 r2.2).2).1;exact⟨rfl,S6,z,R7,F1.trans (Y.trans (ea.trans (F3s.trans (F4.trans (F5.trans (F6.trans F7))))))⟩
  rw[ah h5]at h;simp only[aC]at h;obtain⟨k0,hk0,au,e0,h⟩:=h;by_cases hz:x.ak.length=1
  .rw[ai hz,am]at h;subst h;have L:Fin au.2:=hF.le (b9 _ _).le;have hz':((x.ak.length:Nat):Int)=1:=ac;refine qe hw func69 sY ?_;dsimp only[sY,qd,a1,Nat.reduceAdd];repeat' (first
    |(apply ay ?_;clear hK K)|apply aT ?_|(apply a2 ?_ ?_<;>(intro hb hbp;try(cases hb;done)))|(apply az fun K hK=>?_)|fail)
   refine qj ?_;refine a8 ?_ (IH k0 s au e0 L R1);rintro v H2 ⟨rfl,S2,lv2,R2,Y⟩;have g2:=gQ hR Y;dsimp only[a0];repeat' (first
    |(apply ay ?_;clear hK K)|apply aT ?_|(apply a2 ?_ ?_<;>(intro hb hbp;try(cases hb;done)))|(apply az fun K hK=>?_)|fail)
   refine qj ?_;refine a8 ?_ (mS C (R2.alloc _) ⟨x.op,0,[au.1]⟩ rfl iE (cn _) hF rfl rfl);intro w H4 h4;have h5:=h4.ef (F1.trans (Y.trans ((fS X S2 vv H2).alloc _)));obtain⟨rfl,h6⟩:=h4;dsimp only[a0];refine ru ?_;all_goals refine qi ?_
   exact h5
  rw[ah hz]at h;simp only[iG]at h;obtain⟨k1,hk1,aq,e1,rfl⟩:=h;have hz':¬((x.ak.length:Nat):Int)=1:=ac;have Z:Fin (if x.op=7\/x.op=8 then lJ aq.1 aq.2 else aq.2):=hF.le (b9 _ _).le;have O:Fin aq.2:=by
   split at Z
   .exact Z.le (Bb _ _).le
   .exact Z
  have L:Fin au.2:=O.le (cD c n _ _ _ e1).le;generalize hq:(if x.op=7\/x.op=8 then lJ aq.1 aq.2 else aq.2)=q at *;refine qe hw func69 sY ?_;dsimp only[sY,qd,a1,Nat.reduceAdd];repeat' (first
   |(apply ay ?_;clear hK K)|apply aT ?_|(apply a2 ?_ ?_<;>(intro hb hbp;try(cases hb;done)))|(apply az fun K hK=>?_)|fail)
  refine qj ?_;refine a8 ?_ (IH k0 s au e0 L R1);rintro v H2 ⟨rfl,S2,lv2,R2,Y⟩;have g2:=gQ hR Y;dsimp only[a0];repeat' (first
   |(apply ay ?_;clear hK K)|apply aT ?_|(apply a2 ?_ ?_<;>(intro hb hbp;try(cases hb;done)))|(apply az fun K hK=>?_)|fail)
  refine qj ?_;refine a8 ?_ (IH k1 _ aq e1 O R2);rintro v H3 ⟨rfl,S3,lv3,R3,ea⟩;have g3:=gQ hR (Y.trans ea);have I:=F1.trans (Y.trans ea);dsimp only[a0];by_cases hd:x.op=7\/x.op=8
  .rw[ai hd]at hq;subst hq;have J:Fin (aj ⟨16,0,[aq.1,(aj ⟨1,0,[]⟩ aq.2).1]⟩ (aj ⟨1,0,[]⟩ aq.2).2).2:=Z.le (r1 _ _ _).le;have hFz:Fin (aj ⟨1,0,[]⟩ aq.2).2:=J.le (b9 _ _).le;have hdiv:lJ aq.1 aq.2=kM 1 (aj ⟨16,0,[aq.1,(aj ⟨1,0,[]⟩ aq.2).1]⟩ (aj ⟨1,0,[]⟩ aq.2).2).1 (aj ⟨16,0,[aq.1,(aj ⟨1,0,[]⟩ aq.2).1]⟩ (aj ⟨1,0,[]⟩ aq.2).2).2:=rfl;have hor:x.op=7\/(¬x.op=7/\x.op=8):=ac;rcases hor with h7|⟨h7,h8⟩
   .refine EW fun K hK=>?_;refine qj ?_;refine a8 ?_ (vm C R3 1 0 hFz);rintro v H4 ⟨rfl,S4,lv4,R4,F4⟩;dsimp only[a0];refine fT fun K hK=>?_;refine qj ?_;refine a8 ?_ (mS C (R4.alloc _) ⟨16,0,[aq.1,(aj ⟨1,0,[]⟩ aq.2).1]⟩ rfl iE (cn _) J rfl rfl);rintro v H5 ⟨rfl,S5,lv5,R5,F5⟩;have F35:=I.trans (F4.trans (((fS X S4 vv H4).alloc _).trans F5));have F25:=Y.trans (ea.trans (F4.trans (((fS X S4 vv H4).alloc _).trans F5)));clear F4 F5;obtain⟨w,m⟩:∃w,aj ⟨16,0,[aq.1,(aj ⟨1,0,[]⟩ aq.2).1]⟩ (aj ⟨1,0,[]⟩ aq.2).2=w:=⟨_,rfl⟩;rw[m]at R5 J;have hdw:lJ aq.1 aq.2=kM 1 w.1 w.2:=by rw[<-m];rfl
    rw[hdw]at Z hF;simp only[m];have m5:=R5.m;unfold br at m5;dsimp only[a0];refine fT fun K hK=>?_;refine qj ?_;refine a8 ?_ (mS C (R5.alloc _) ⟨27,1,[w.2.aa,w.1]⟩ rfl iE (cn _) (Z.le ⟨tO _,aG _⟩) rfl rfl);rintro v H6 ⟨rfl,S6,z,R6,F6⟩;have F26:=F25.trans (((fS X S5 vv H5).alloc _).trans F6);have F36:=F35.trans (((fS X S5 vv H5).alloc _).trans F6);have m6:=R6.m;obtain⟨R7,F7⟩:=R6.setS (aj ⟨27,1,[w.2.aa,w.1]⟩ w.2).1;have g7:=gQ hR (F26.trans F7);have R7':zd1 X (H6.set X.b (.cells (br X { (aj ⟨27,1,[w.2.aa,w.1]⟩ w.2).2 with aa:=(aj ⟨27,1,[w.2.aa,w.1]⟩ w.2).1} z vv) 0 true)) S6 (kM 1 w.1 w.2) z vv:=R7;have j:=mS C (R7'.alloc (.cells [.int .i64 au.1,.int .i64 aq.1] 0 true)) ⟨x.op,0,[au.1,aq.1]⟩ rfl iE (cn _) hF h7 rfl;unfold br at m6;dsimp only[br]at g7 j F7;simp only[bK]at j;dsimp only[a0];refine fT fun K hK=>?_;refine qj ?_;refine a8 ?_ j;intro v H8 V;have h9q:=V.ef (F36.trans (F7.trans ((fS X S6 vv _).alloc _)));obtain⟨rfl,h6q⟩:=V;dsimp only[a0];refine ru ?_;all_goals refine qi ?_
    rw[hdw];rw[h7]at h9q⊢;exact h9q
   .refine EW fun K hK=>?_;refine qj ?_;refine a8 ?_ (vm C R3 1 0 hFz);rintro v H4 ⟨rfl,S4,lv4,R4,F4⟩;dsimp only[a0];refine fT fun K hK=>?_;refine qj ?_;refine a8 ?_ (mS C (R4.alloc _) ⟨16,0,[aq.1,(aj ⟨1,0,[]⟩ aq.2).1]⟩ rfl iE (cn _) J rfl rfl);rintro v H5 ⟨rfl,S5,lv5,R5,F5⟩;have F35:=I.trans (F4.trans (((fS X S4 vv H4).alloc _).trans F5));have F25:=Y.trans (ea.trans (F4.trans (((fS X S4 vv H4).alloc _).trans F5)));clear F4 F5;obtain⟨w,m⟩:∃w,aj ⟨16,0,[aq.1,(aj ⟨1,0,[]⟩ aq.2).1]⟩ (aj ⟨1,0,[]⟩ aq.2).2=w:=⟨_,rfl⟩;rw[m]at R5 J;have hdw:lJ aq.1 aq.2=kM 1 w.1 w.2:=by rw[<-m];rfl
    rw[hdw]at Z hF;simp only[m];have m5:=R5.m;unfold br at m5;dsimp only[a0];refine fT fun K hK=>?_;refine qj ?_;refine a8 ?_ (mS C (R5.alloc _) ⟨27,1,[w.2.aa,w.1]⟩ rfl iE (cn _) (Z.le ⟨tO _,aG _⟩) rfl rfl);rintro v H6 ⟨rfl,S6,z,R6,F6⟩;have F26:=F25.trans (((fS X S5 vv H5).alloc _).trans F6);have F36:=F35.trans (((fS X S5 vv H5).alloc _).trans F6);have m6:=R6.m;obtain⟨R7,F7⟩:=R6.setS (aj ⟨27,1,[w.2.aa,w.1]⟩ w.2).1;have g7:=gQ hR (F26.trans F7);have R7':zd1 X (H6.set X.b (.cells (br X { (aj ⟨27,1,[w.2.aa,w.1]⟩ w.2).2 with aa:=(aj ⟨27,1,[w.2.aa,w.1]⟩ w.2).1} z vv) 0 true)) S6 (kM 1 w.1 w.2) z vv:=R7;have j:=mS C (R7'.alloc (.cells [.int .i64 au.1,.int .i64 aq.1] 0 true)) ⟨x.op,0,[au.1,aq.1]⟩ rfl iE (cn _) hF h8 rfl;unfold br at m6;dsimp only[br]at g7 j F7;simp only[bK]at j;dsimp only[a0];refine fT fun K hK=>?_;refine qj ?_;refine a8 ?_ j;intro v H8 V;have h9q:=V.ef (F36.trans (F7.trans ((fS X S6 vv _).alloc _)));obtain⟨rfl,h6q⟩:=V;dsimp only[a0];refine ru ?_;all_goals refine qi ?_
    rw[hdw];rw[h8]at h9q⊢;exact h9q
  .rw[ah hd]at hq;subst hq;have h7:¬x.op=7:=fun e=>hd (.inl e);have h8:¬x.op=8:=fun e=>hd (.inr e);refine EW fun K hK=>?_;refine qj ?_;refine a8 ?_ (mS C (R3.alloc _) ⟨x.op,0,[au.1,aq.1]⟩ rfl iE (cn _) hF rfl rfl);intro w H4 h4;have h5:=h4.ef (I.trans ((fS X S3 vv H3).alloc _));obtain⟨rfl,h6⟩:=h4;dsimp only[a0];refine ru ?_;all_goals refine qi ?_
   exact h5
end
section
def tyQaE.tyF:=ad @cG (ad @l7 (ad @eG (ad @i7 (ad @jh (ad @iC (ad @kg (@C3)))))))
open tyQaE
noncomputable def X7:=qd (M:=52) f193.eq_1
def zd1.f6{lv vv:AV}(C:zd1 X H S s lv vv)(V:H.next<=Z.next)(Y:∀k,k<H.next->k≠q->Z.get k=H.get k)(O:X.b<q)(L:¬S q)(J:¬a3 vv q)(z:¬a3 X.nv q):zd1 X Z S s lv vv:=C.keep V fun k j m=>Y k j fun e=>by
 subst e;rcases m with m|m|m|m
 .omega
 .exact L m
 .exact J m
 .exact z m
set_option maxRecDepth 100000 in
theorem Ou{tb:qH}(hG:zd8 tb){X:Qx}{c:Cx}(hX:CxQ X c):∀(N n:Nat),n<N->∀(l:qJ) (b b':qR),jK c.aO n l b=some b'->bF l<2^40->∀{H:Hp}{S:Nat->Prop}{s:Bd}{lv vv:AV}{q:Nat},zd1 X H S s lv vv->H.get q=some (.cells (b.map .bool) 0 true)->X.b<q->q<H.next->¬S q->¬a3 vv q->¬a3 X.nv q ->
 aR prog (aA pls tb) 193 [.ptr X.b 0,.sl q 0 b.length 1,.aE (l.map St.cells)] H (ziQ q H b')
 |0,n,hn,_,_,_,_,_,_,_,_,_,_,_,_,_,_,_,_,_,_=>by omega
 |N+1,n,hn,l,b,b',h,hz,H,S,s,lv,vv,q,hR,hg,hq1,hq2,hq3,hq4,hq5=>by
  have hw:zd0 (aA pls tb) 193:=hG.plain cN;have hll:=yL l;refine qe hw func193 X7 ?_;dsimp only[X7,qd,a1,Nat.reduceAdd];refine mT ?_;refine cP [0,1,2] [] 6 l.length (fun i E H2=>∃m z,m<=n/\z.length=b.length/\jK c.aO m (l.drop i) z=some b'/\H2.get q=some (.cells (z.map .bool) 0 true)/\Smq H.next q H H2) eE ⟨n,b,aG _,rfl,h,hg,⟨fun _ _ _=>rfl⟩⟩ ?_;rintro i E H2 hi hcE hrH L hsI ⟨m,z,hm,hbl,I,V,Y⟩;(try simp only[bz,a7,aV,aK,bb,Nat.reduceBEq, *]at hcE);(try simp only[a7, *]at hrH);(try simp only[aS,bK,cL,bR,Nat.reduceAdd]at L);have R2:zd1 X H2 S s lv vv:=hR.f6 L Y.get hq1 hq3 hq4 hq5;by_cases C:i<l.length
  .have hlt':(i:Int)<l.length:=by omega
   have hgx:l[i]?=some l[i]:=aX C;have hmem:=tz (dE C);have hsz:=(l[i]).a9;cases m with
   |zero=>simp[jK]at I
   |succ m=>
   rw[i4 C]at I;unfold jK at I;simp only[]at I;generalize l[i]=x at *;split at I
   .cases I
   rename_i hno;simp only[aC]at I;obtain⟨b2,j2,b3,j3,j4⟩:=I;refine BV ?_;(apply bU (fun hb hbp=>?_) (fun hb hbp=>?_)<;>try(cases hb;done));apply LN ?_;apply Ap ?_;apply bX.block ?_;apply Ap ?_;have O:=CxQ.ix hG hX R2 x.name;have J:(if x.az=1\/x.az=6 then z.set (bS c.aO x.name) true else z).length=b.length:=by split<;>simp[hbl]
   refine Mp (fun E' H'=>E'.at 0=.ptr X.b 0/\E'.at 1=.sl q 0 b.length 1/\E'.at 2=.aE (l.map St.cells)/\E'.at 6=.int .i64 i/\H'.get q=some (.cells ((if x.az=1\/x.az=6 then z.set (bS c.aO x.name) true else z).map .bool) 0 true)/\H'.next=H2.next/\Smq H.next q H H') ?_ ?_
   .by_cases hk:x.az=1\/x.az=6
    .have hixl:bS c.aO x.name<z.length:=by
      by_cases c2:bS c.aO x.name<z.length
      .exact c2
      .exact absurd ⟨hk,ac⟩ hno
     have hixa:=U3 (q:=q) (n:=b.length) (m:=bS c.aO x.name) ac;have hst:=ziR V hixl true;rcases hk with j|h6
     .repeat' (first
       |(apply ay ?_;clear hK K)|apply aT ?_|(apply eA ?_;first|refine Rx.k (O) ?_)|(apply cR ?_ ?_<;>(intro hg hgp;try(cases hg;done)))|(apply a2 ?_ ?_<;>(intro hb hbp;try(cases hb;done)))|(apply az fun K hK=>?_)|fail)
      exact⟨rfl,eE,eE,eE,eE,by rw[aQ,ai rfl,ai (.inl j)],rfl,⟨fun k j Z=>by rw[aQ,ah Z];exact Y.get k j Z⟩⟩
     .have j:¬x.az=1:=by omega
      repeat' (first
       |(apply ay ?_;clear hK K)|apply aT ?_|(apply eA ?_;first|refine Rx.k (O) ?_)|(apply cR ?_ ?_<;>(intro hg hgp;try(cases hg;done)))|(apply a2 ?_ ?_<;>(intro hb hbp;try(cases hb;done)))|(apply az fun K hK=>?_)|fail)
      exact⟨rfl,eE,eE,eE,eE,by rw[aQ,ai rfl,ai (.inr h6)],rfl,⟨fun k j Z=>by rw[aQ,ah Z];exact Y.get k j Z⟩⟩
    .have j:¬x.az=1:=fun e=>hk (.inl e);have h6:¬x.az=6:=fun e=>hk (.inr e);rw[ah hk];repeat' (first
      |(apply ay ?_;clear hK K)|apply aT ?_|(apply cR ?_ ?_<;>(intro hg hgp;try(cases hg;done)))|(apply a2 ?_ ?_<;>(intro hb hbp;try(cases hb;done)))|(apply az fun K hK=>?_)|fail)
     exact⟨rfl,eE,eE,eE,eE,V,rfl,Y⟩
   generalize (if x.az=1\/x.az=6 then z.set (bS c.aO x.name) true else z)=b1 at *;clear O;rintro E3 H3 ⟨k0,k1,k2,k6,g3,n3,s3⟩;dsimp only[oJ];have R3:zd1 X H3 S s lv vv:=hR.f6 ac s3.get hq1 hq3 hq4 hq5;have n3':H2.next<=H3.next:=ac
   clear n3;refine fT fun K hK=>?_;refine qj ?_;refine a8 ?_ (by rw[<-J];exact Ou hG hX N m ac x.bm b1 b2 j2 ac R3 g3 hq1 ac hq3 hq4 hq5);rintro v H4 ⟨g4,n4,s4⟩;have hbl2:=wt _ _ _ _ _ j2;have s4':Smq H.next q H H4:=⟨fun k j Z=>by rw[s4 k ac Z];exact s3.get k j Z⟩
   have R4:zd1 X H4 S s lv vv:=hR.f6 ac s4'.get hq1 hq3 hq4 hq5;clear s4;dsimp only[a0];refine fT fun K hK=>?_;refine qj ?_;refine a8 ?_ (by rw[<-J,<-hbl2];exact Ou hG hX N m ac x.bO b2 b3 j3 ac R4 g4 hq1 ac hq3 hq4 hq5);rintro v H5 ⟨g5,n5,s5⟩;have hbl3:=wt _ _ _ _ _ j3;have s5':Smq H.next q H H5:=⟨fun k j Z=>by rw[s5 k ac Z];exact s4'.get k j Z⟩
   clear s5;dsimp only[a0];refine mT ?_;refine⟨ac,aW,aW,b8,sJ,?_⟩;exact⟨m,b3,ac,ac,j4,g5,s5'⟩
  .have hlt':¬(i:Int)<l.length:=by omega
   refine uc (fun hb hbp=>?_);all_goals refine qi ?_
   have hd:l.drop i=[]:=oc ac;rw[hd]at I;cases m with
   |zero=>simp[jK]at I
   |succ m=>
    cases I;exact⟨V,L,Y.get⟩
end
end Go.Proofs.YtbflaciihaijgaaGreat
