/- Lemmas for the last file. -/
import Derived.Test.YtbflaciihaijgaaGreatJEN
set_option linter.all false
set_option maxHeartbeats 32000000
namespace Go.Ab
set_option maxRecDepth 20000
open Go
variable{qf:Prop}
def nJ(h:qf:=by (try simp only[aZ,br]);omega):=h
def o7(h:qf:=by first|rfl|((try simp only[aZ,br]);omega)):=h
def Gt(h:qf:=by rw[<- Y,Hp.get_set,if_neg U]):=h
def Gu(h:qf:=by rw[<- Y,Hp.get_set,if_pos rfl]):=h
def zH(h:qf:=by simp[wa]):=h
def Tc(h:qf:=by unfold jE;rw[e1];simp only[Option.bind_some];rw[e2];rfl):=h
def Td(h:qf:=by rw[<- J];exact((ey.refl _).setV _).trans (x5 _ _ _).1):=h
def Gv(h:qf:=by have:=Ni.dE _ e;omega):=h
def Gw(h:qf:=by rw[List.length_append,hpv];rfl):=h
def Te(h:qf:=by rw[List.take_zero,List.append_nil];exact Ri):=h
def Tf(h:qf:=by rw[List.take_add_one,hgx2,List.append_assoc];rfl):=h
def Tg(h:qf:=by rw[List.length_append,List.length_take];omega):=h
def Th(h:qf:=by rw[hst,<- J];exact((ey.refl _).setV _).trans (x6 _ _).1):=h
def Gx(h:qf:=by have:=Nj.dE _ e;omega):=h
def Ti(h:qf:=by simp only[List.all_cons,List.all_nil,hl1];rfl):=h
def Gy(h:qf:=by rw[hm];omega):=h
def Gz(h:qf:=by rw[List.getElem?_eq_getElem hj,e]):=h
def Tj(h:qf:=by rw[J _ ac,O _ ac,z _ ac ac,j _ ac,g _ ac ac,oHb _ ac,oH6 _ ac ac,oHa _ ac]):=h
def Tl(h:qf:=by rw[J _ ac,O _ ac,z _ ac ac,j _ ac,g _ ac ac,oHb _ ac]):=h
def Tm(h:qf:=by rw[J _ ac,O _ ac,z _ ac ac,j _ ac]):=h
def Tn(h:qf:=by rw[Hp.get_set,if_neg ac,aD,if_neg ac];exact g0):=h
def To(h:qf:=by rw[<- hHb,aD,if_neg FE,Hp.get_set,if_neg ac,aD,if_neg ac]):=h
def Tp(h:qf:=by rw[<- hHb,aD,if_neg FE,Hp.get_set,if_pos rfl]):=h
def Tq(h:qf:=by simp only[aG,Nat.reduceBEq, *];exact gX (n:=f.params.length) ac ac):=h
def Tr(h:qf:=by simp only[aG,Nat.reduceBEq, *];exact gX (n:=f.ao.length) ac ac):=h
def Ts(h:qf:=by rw[old9 _ ac (hlow _ (Nat.le_refl _))];exact g7):=h
def Tt(h:qf:=by rw[hs9 _ _ ac,old9' _ ac];exact g0):=h
def Tu(h:qf:=by rw[hs9 _ _ ac,old9' _ ac];exact g1):=h
def tO(h:qf:=by simp only[aG,Nat.reduceBEq, *];exact gX (n:=g.ag.length) ac ac):=h
def zhS:=@List.not_mem_nil
def zhT:=@or_false
def KQ:=@List.all_eq_false
def zhU:=And.intro @gE.{0} @zhS.{0}
def j5:=And.intro zhU @zhT
end Go.Ab
namespace Go.Proofs.YtbflaciihaijgaaGreat
set_option maxRecDepth 20000
open Go Go.Ab Proofs.Tryz
variable{n i:Nat}{H H':Hp}{p:Pr}{x y e:Int}{f:Fu}{S:Nat->Prop}{tb:qB}{U:Nat->Nat}{V:AV}{M:qt}{l:qy}
section
def tyG6.tyF:=ad @ec (ad @cA (ad @dw (ad @gQ (ad @jA (ad @iL (ad @eZ (ad @fU (ad @fL (ad @fM (ad @fb (ad @nf (ad @lJ (ad @gF (ad @yR (ad @oH (ad @BQ (ad @te (@AL))))))))))))))))))
open tyG6
noncomputable def Tv:{c:SC // aC 61 (f12.body.getD .skip)=c}:=by
 refine⟨?_,?_⟩;rotate_left
 .simp only[f12,bz,aC,bw,bt,bA,bB,Nat.blt,Nat.ble];rfl
def Tw(Y:qB):Prop:=∀(f:Int) (k g:Nat),4<=g+k->g<=3->rY Y k f g
def zhV{Y:qB}(i:zf2 Y):Tw Y:=Tb i
def jb(L:qu):qE×cW:=lO 0 4 0 5 ((ca L).2,0)
def ll(L:qu):Ex×qu:=bL 0 4 1 (jb L).2.1
def mI(L:qu):qE×cW:=lO 1 3 1 3 ((ll L).2,(jb L).2.2)
def uQ(L:qu):Ex×qu:=bL 1 4 1 (mI L).2.1
def iP(L:qu):Fu:=⟨[102],[[120],[121]],[[105],[106]],(jb L).1,(ll L).1⟩
def iQ(L:qu):Fu:=⟨[103],[[110]],[[105]],(mI L).1,(uQ L).1⟩
def pd(L:qu):qR:=[⟨[97],1+bO (ca L).1 4⟩,⟨[98],1+bO (bS ((ca L).1.tdiv 4)) 4⟩]
def cH(l:qu):Pr:=⟨pd (l.take 60),[iP (l.take 60),iQ (l.take 60)]⟩
structure zlg (lo n:Nat) (H:Hp) (p:Pr) (ra rf:Nat) (x y:Int) (f g:Fu) (cf cg:qt):Prop where
 ep:p=⟨[⟨[97],x⟩,⟨[98],y⟩],[f,g]⟩
 ga:H.get ra=some (.cells [.aq [97],.int .i64 x,.aq [98],.int .i64 y] 0 true)
 gf:H.get rf=some (.cells (cf++cg) 0 true)
 la:lo<=ra/\ra<H.next
 lf:lo<=rf/\rf<H.next
 ne:ra≠rf
 lcf:cf.length=9
 lcg:cg.length=9
 wf:cn (fun q=>lo<=q/\q≠ra/\q≠rf) n H cf f.cells
 wg:cn (fun q=>lo<=q/\q≠ra/\q≠rf) n H cg g.cells
def zlg.cells{lo:Nat}{Z Y:Nat}{g:Fu}{j V:qt}(h:zlg lo (n+1) H p Z Y x y f g j V):cn (fun q=>lo<=q) (n+2) H [.sl Z 0 2 2,.sl Y 0 2 9] p.cells:=by
 rw[h.ep];refine .cons ?_ (.cons ?_ .nil)
 .refine ou (n:=n+1) (a:=[[.aq [97],.int .i64 x],[.aq [98],.int .i64 y]]) (imm:=0) (tip:=true) h.la.1 h.la.2 h.ga au ⟨⟨rfl,.cons (.aq _) (.cons (.int _ _) .nil)⟩,⟨rfl,.cons (.aq _) (.cons (.int _ _) .nil)⟩,trivial⟩
 .refine ou (n:=n+1) (a:=[j,V]) (imm:=0) (tip:=true) h.lf.1 h.lf.2 (by rw[h.gf];simp) au ⟨⟨h.lcf,h.wf.keep (fun q L=>L.1) (aH _) fun _ _ _=>rfl⟩,⟨h.lcg,h.wg.keep (fun q L=>L.1) (aH _) fun _ _ _=>rfl⟩,trivial⟩
def Tx(nm:qx){p l b:AV}{v:qt}(I:f.name=nm)(h1:dy S (n+1) H p (cZ f.params))(h2:dy S (n+1) H l (cZ f.ao))(m:dy S (n+1) H b (.aE (f.body.map St.cells)))(U:cn S (n+1) H v f.value.cells):cn S (n+1) H ([.aq nm,p,l,b]++v) f.cells:=by
 have e:f.cells=[.aq f.name,cZ f.params,cZ f.ao,.aE (f.body.map St.cells)]++f.value.cells:=vo;rw[e,I];exact(cn.cons (.aq _) (.cons h1 (.cons h2 (.cons m .nil)))).append U
def GA{r imm:Nat}{tip:Bool}(l:qw)(hS:S r)(hr:r<H.next)(hg:H.get r=some (.cells (l.map .aq) imm tip))(C:imm<=l.length):dy S (n+2) H (.sl r 0 l.length 1) (cZ l):=by
 have:=ou (n:=n+1) (a:=l.map fun s=>[AV.aq s]) (z:=1) hS hr (by rw[Ev];exact hg) (by rw[Ev];simpa using C) (fR.cY l);rw[cN]at this;exact this
def zhW(H:Hp):et prog H 26 0 []=some (.sl H.next 0 0 1,H.alloc qh):=aB
def zhX(v:Nat)(n:Nat):dU prog 82 [(0,.sl v 0 n 1)]=some (.agg [.sl v 0 n 1,.int .i64 0]):=aB
def zhY(s:qx)(n:Int):dU prog 75 [(0,.aq s),(1,.int .i64 n)]=some (.agg [.aq s,.int .i64 n]):=aB
def zhZ(H:Hp)(a b:qx)(x y:Int):et prog H 22 2 [(0,.agg [.aq a,.int .i64 x]),(1,.agg [.aq b,.int .i64 y])]=some (.sl H.next 0 2 2,H.alloc (.cells [.aq a,.int .i64 x,.aq b,.int .i64 y] 0 true)):=aB
def zh0(r n:Nat):dU prog 25 [(0,.sl r 0 n 2)]=some (.agg [.sl r 0 n 2,.ak]):=aB
def zh1(s:qx)(r n q m:Nat):dU prog 72 [(0,.aq s),(1,.sl r 0 n 1),(2,.sl q 0 m 1)]=some (.agg [.aq s,.sl r 0 n 1,.sl q 0 m 1,.ak,.int .i64 0,.int .i64 0,.aq [],.int .i64 0,.ak]):=aB
def zh2(H:Hp)(jI U Y j J i C Z V O z M L I b5 b6 m g:AV):et prog H 23 2 [(0,.agg [jI,U,Y,j,J,i,C,Z,V]),(1,.agg [O,z,M,L,I,b5,b6,m,g])]=some (.sl H.next 0 2 9,H.alloc (.cells [jI,U,Y,j,J,i,C,Z,V,O,z,M,L,I,b5,b6,m,g] 0 true)):=aB
def KR(H:Hp)(s:qx):et prog H 66 1 [(0,.aq s)]=some (.sl H.next 0 1 1,H.alloc (.cells [.aq s] 0 true)):=aB
theorem KS(a b:AV):cI 2 [a,b]=some (.agg [a,b]):=rfl
theorem zh3(l:qu):(l.map fun n=>[AV.int .i64 n]).flatten=l.map fun n=>AV.int .i64 n:=by
 induction l with
 |nil=>rfl
 |cons a l ih=>simp only[dZ,jL,ih];rfl
theorem zh4{q:Nat}(l:qu)(hg:H.get q=some qh)(O:q<H.next)(J:l.length<=60):
 ∃v H',cX prog false H 26 26 (.sl q 0 0 1) (.aE (l.map fun n=>[AV.int .i64 n]))=some (v,H')/\(∃b Y,v=.sl b 0 l.length 1/\H'.get b=some (.cells (l.map fun n=>.int .i64 n) Y true)/\b<H'.next/\(b=q\/b=H.next))/\H.next<=H'.next/\∀k,k<H.next->k≠q->H'.get k=H.get k:=by
 have L:dL=70368744177664:=rfl;have U:(l.map fun n=>[AV.int .i64 n]).flatten=l.map fun n=>AV.int .i64 n:=zh3 l;have z:eQ H 1 (.aE (l.map fun n=>[AV.int .i64 n]))=some (l.length,l.map fun n=>AV.int .i64 n):=by
  have e:eQ H 1 (.aE (l.map fun n=>[AV.int .i64 n]))=if ((l.map fun n=>[AV.int .i64 n]).all fun Z=>Z.length == 1)then some ((l.map fun n=>[AV.int .i64 n]).length,(l.map fun n=>[AV.int .i64 n]).flatten)else none:=rfl
  rw[e,ah au,U,cN]
 have g:(l.map fun n=>AV.int .i64 n).all AV.one=true:=by simp[AV.one]
 cases l with
 |nil=> 
  refine⟨.sl q 0 0 1,H,?_,⟨q,0,rfl,hg,O,.inl rfl⟩,aH _,fun _ _ _=>rfl⟩
  .simp only[cX,underlying26,jg,pw,px,show iR prog 26=true by kernel_rfl,z,ik]
 |cons a l=>
  simp only[eF]at z J;have C:ii false H 1 (.sl q 0 0 1)=H:=by
   unfold ii;simp only[hg];rfl
  refine⟨.sl H.next 0 (0+(l.length+1)) 1,(H.aR q).alloc (.cells ([]++(a::l).map fun n=>.int .i64 n) (0-0) true),?_,⟨H.next,0,au,?_,cC _,.inr rfl⟩,dA _,fun k j V=>?_⟩
  .simp only[cX,underlying26,jg,pw,px,show iR prog 26=true by kernel_rfl,z,g,C,po,dh,oF,mK,hg,bK,lE,List.drop_nil,dI,dD];rw[ah ⟨jT,jT,au⟩]
  .show((H.aR q).alloc _).get (H.aR q).next=_
   rw[aD,ah rfl];simp
  .rw[aD,af nh,gN,af V]
theorem zh5(l:qu):gU prog 26 (.aE (l.map fun n=>[AV.int .i64 n])) none (some (.int .i64 (min (l.length:Int) 60)))=some (.aE ((l.take 60).map fun n=>[AV.int .i64 n])):=by
 have e:min (l.length:Int) 60=((min l.length 60:Nat):Int):=ac;rw[e];simp only[gU,underlying26,jg];show(if 0<=min l.length 60/\min l.length 60<=(l.map fun n=>[AV.int .i64 n]).length then _ else none)=_;rw[ah ⟨de _,bW⟩];have m:((l.map fun n=>[AV.int .i64 n]).drop 0).take (min l.length 60-0)=(l.take 60).map fun n=>[AV.int .i64 n]:=by
  rw[eS,Az,<-Dh,List.take_eq_take_iff.2];omega
 rw[m];cases l.take 60 with
 |nil=>rfl
 |cons a l=>rfl
abbrev qi:HB:=.cells [.ak,.ak] 0 true
structure AtP (n0 M:Nat) (x y:Int) (H:Hp):Prop where
 lt:n0<M/\M+8<=H.next
 rs:H.get n0=some qi
 ra:H.get (M+1)=some (.cells [.aq [97],.int .i64 x,.aq [98],.int .i64 y] 0 true)
 t5:H.get (M+2)=some (.cells [.sl (M+1) 0 2 2,.sl (M+7) 0 2 9] 0 true)
 p1:H.get (M+3)=some (.cells [.aq [120],.aq [121]] 0 true)
 l1:H.get (M+4)=some (.cells [.aq [105],.aq [106]] 0 true)
 p2:H.get (M+5)=some (.cells [.aq [110]] 0 true)
 l2:H.get (M+6)=some (.cells [.aq [105]] 0 true)
def AtP.keep{g M:Nat}(h:AtP g M x y H)(I:H.next<=H'.next)(hg:∀q,(q=g\/M+1<=q/\q<M+7)->H'.get q=H.get q):AtP g M x y H':=by
 obtain⟨⟨Z,O⟩,rs,Y,V,J,j,U,L⟩:=h;exact⟨⟨Z,ac⟩,by rw[hg _ (.inl rfl)];exact rs,by rw[hg _ ac];exact Y,by rw[hg _ ac];exact V,by rw[hg _ ac];exact J,by rw[hg _ ac];exact j,by rw[hg _ ac];exact U,by rw[hg _ ac];exact L⟩
set_option maxRecDepth 100000 in
theorem zh6{lG:qB}(hG:zf2 lG)(hst:Tw lG)(l:qu)(hl:l.length<2^63)(H:Hp):
 aM prog (ay pls lG) 12 [.aE (l.map fun n=>[AV.int .i64 n])] H fun v H'=>∃ra rf x y cf cg,v=.agg [.sl ra 0 2 2,.sl rf 0 2 9]/\zlg H.next 14 H' (cH l) ra rf x y (iP (l.take 60)) (iQ (l.take 60)) cf cg/\H.next<=H'.next/\(∀q,q<H.next->H'.get q=H.get q)/\H.next<ra/\∃pt pf lf bf vf pg lg bg vg,cf=FQ [102] pf lf bf vf/\cg=FQ [103] pg lg bg vg/\ProgL pt 14 H' ra rf x y (iP (l.take 60)) (iQ (l.take 60)) pf lf bf vf pg lg bg vg/\pd (l.take 60)=[⟨[97],x⟩,⟨[98],y⟩]/\∀q,q<H.next->pt q=0:=by
 have hw:zd0 (ay pls lG) 12:=hG.plain eN;have hkeep:(ay pls lG).keep 12=false:=rfl;have hnx:zd0 (ay pls lG) 32:=hG.plain eN;have hs:=zh5 l;have hL60:(l.take 60).length<=60:=td;have hq4:(4:Int)≠0:=aE;have hgP:cH l=⟨pd (l.take 60),[iP (l.take 60),iQ (l.take 60)]⟩:=rfl;generalize cH l=P0 at *;refine a0 (M:=61) (rs:=[.cell 2 25]) (hw.call _) hw.aG hw.az func12 rfl rfl Tv.2 rfl ?_;dsimp only[Tv,aW,Nat.reduceAdd];have gh0:=@zhW;refine dY fun K hK=>?_;generalize l.take 60=L at *;have gq:((H.alloc qi).alloc qh).get (H.next+1)=some qh:=FF;obtain⟨v,Z,a2,⟨b,imm,rfl,gb,hb,hb2⟩,n2,o2⟩:=zh4 L gq (cC _) hL60;simp only[aZ]at n2 o2 hb2;refine jP cV cV (by rw[hkeep];exact a2) ?_;have gh0:=@zhX;refine dY fun K hK=>?_;have hrd3:jo (Z.next+1) (Z.alloc (.cells [.sl b 0 L.length 1,.int .i64 0] 0 true)) Z.next L 0:=⟨cC _,aH _,_,fG,.inr ⟨b,0,_,imm,rfl,by rw[aD,af ac];exact gb,rfl,ac,ac⟩⟩
 have g3:(Z.alloc (.cells [.sl b 0 L.length 1,.int .i64 0] 0 true)).get H.next=some qi:=by rw[aD,af ac,o2 _ ac ac,aD,af dG,aD,ah rfl]
 have o3:∀q,q<H.next->(Z.alloc (.cells [.sl b 0 L.length 1,.int .i64 0] 0 true)).get q=H.get q:=fun q U=>by rw[aD,af ac,o2 _ ac ac,aD,af dG,aD,af ac]
 generalize hH3:Z.alloc (.cells [.sl b 0 L.length 1,.int .i64 0] 0 true)=H3 at *;have n3:H3.next=Z.next+1:=by rw[<-hH3];rfl
 clear hH3 gb hb hb2 a2 gq o2;refine qd ?_;refine aY ?_ (FL hnx hrd3 ac);rintro v H4 ⟨rfl,hr4,n4,o4⟩;have g4:H4.get H.next=some qi:=by rw[o4 _ ac];exact g3
 have o4':∀q,q<H.next->H4.get q=H.get q:=fun q U=>by rw[o4 _ ac];exact o3 q U
 clear o4 o3 g3 hrd3;have hL1:=nG L;have hA:pd L=[⟨[97],1+bO (ca L).1 4⟩,⟨[98],1+bO (bS ((ca L).1.tdiv 4)) 4⟩]:=rfl;have hp1:=iW (n:=(ca L).1) (m:=4) ac ac;have hp2:=iW (n:=bS ((ca L).1.tdiv 4)) (m:=4) ac ac;have hB1:jb L=lO 0 4 0 5 ((ca L).2,0):=rfl;have hV1:ll L=bL 0 4 1 (jb L).2.1:=rfl;have hB2:mI L=lO 1 3 1 3 ((ll L).2,(jb L).2.2):=rfl;have hV2:uQ L=bL 1 4 1 (mI L).2.1:=rfl;have hF1:iP L=⟨[102],[[120],[121]],[[105],[106]],(jb L).1,(ll L).1⟩:=rfl;have hF2:iQ L=⟨[103],[[110]],[[105]],(mI L).1,(uQ L).1⟩:=rfl;have hl1:(jb L).2.1.length<=(ca L).2.length:=by rw[hB1];exact dz (B6 (B7 0 4 0) _ _) (nG _)
 have hl2:(ll L).2.length<=(jb L).2.1.length:=fz 0 4 1 _;have hl3:(mI L).2.1.length<=(ll L).2.length:=by rw[hB2];exact dz (B6 (B7 1 3 1) _ _) (nG _)
 generalize jb L=B1 at *;generalize ll L=V1 at *;generalize mI L=B2 at *;generalize uQ L=V2 at *;generalize iP L=Ff at *;generalize iQ L=Fg at *;generalize pd L=Aa at *;generalize (ca L).1=n at *;generalize (ca L).2=L1 at *;have hw1:IntKind.wrap .i64 (1+bO n 4)=1+bO n 4:=eX ac ac;have hw2:IntKind.wrap .i64 (1+bO (bS (n.tdiv 4)) 4)=1+bO (bS (n.tdiv 4)) 4:=eX ac ac;have hw3:IntKind.wrap .i64 (n.tdiv 4)=bS (n.tdiv 4):=rfl;dsimp only[aU];have gh0:=@zhY;have gh1:=@zhZ;have gh2:=@zh0;have gh3:=@KR;have gh4:=@zh1;have gh5:=@zh2;repeat' (first
  |(apply aj ?_;clear hK K)|apply aO ?_|(apply ez ?_;first|refine Rx.k (oq hG.pick _ _ aE _) ?_)|(apply ak fun K hK=>?_)|(apply da 5 [(1,3),(1,6)] fun K hK=>?_)|(apply ce ?_;try intro _)|fail)
 generalize hx:1+bO n 4=x at *;generalize hy:1+bO (bS (n.tdiv 4)) 4=y at *;rename_i H4 _;have hne:∀i,(H.next == Z.next+i)=false:=fun i=>aX ac;have hmn:H.next<Z.next:=ac
 generalize hHs:Hp.set (Hp.alloc _ _) _ _=Hs;have hat:AtP H.next Z.next x y Hs:=by
  rw[<-hHs];refine⟨⟨hmn,iU⟩,?_,?_,?_,?_,?_,?_,?_⟩
  .repeat (first|rw[aA,af nJ]|rw[aD,af nJ])
   exact g4
  ·(repeat (first|rw[aA,af nJ]|rw[aD,af nJ]));(first|rw[aA,ah o7]|rw[aD,ah o7])
  ·(repeat (first|rw[aA,af (by(try simp only[]);omega)]|rw[aD,af nJ]));(first|rw[aA,ah o7]|rw[aD,ah o7])
  ·(repeat (first|rw[aA,af nJ]|rw[aD,af nJ]));(first|rw[aA,ah o7]|rw[aD,ah o7])
  ·(repeat (first|rw[aA,af nJ]|rw[aD,af nJ]));(first|rw[aA,ah o7]|rw[aD,ah o7])
  ·(repeat (first|rw[aA,af nJ]|rw[aD,af nJ]));(first|rw[aA,ah o7]|rw[aD,ah o7])
  ·(repeat (first|rw[aA,af nJ]|rw[aD,af nJ]));(first|rw[aA,ah o7]|rw[aD,ah o7])
 have gf:Hs.get (Z.next+7)=some (.cells [.aq [102],.sl (Z.next+3) 0 2 1,.sl (Z.next+4) 0 2 1,.ak,.int .i64 0,.int .i64 0,.aq [],.int .i64 0,.ak,.aq [103],.sl (Z.next+5) 0 1 1,.sl (Z.next+6) 0 1 1,.ak,.int .i64 0,.int .i64 0,.aq [],.int .i64 0,.ak] 0 true):=by
  rw[<-hHs];(repeat (first|rw[aA,af nJ]|rw[aD,af nJ]));(first|rw[aA,ah o7]|rw[aD,ah o7])
 have olds:∀q,q<Z.next+1->Hs.get q=H4.get q:=fun q U=>by
  rw[<-hHs];repeat (first|rw[aA,af ac]|rw[aD,af nJ])
 have hns:Hs.next=Z.next+8:=by rw[<-hHs];simp only[br,aZ];omega
 have hrs:jo (Z.next+1) Hs Z.next L1 0:=hr4.keep ac olds
 have os:∀q,q<H.next->Hs.get q=H.get q:=fun q U=>by rw[olds q ac];exact o4' q U
 clear olds hHs hr4 g4 o4';have h02:(0:Nat)<2:=aE;have h12:(1:Nat)<2:=aE;refine qe ?_;refine aY ?_ (B8 hG (hst 0 4 0 ac ac) 5 ac ac (Z.next+1) Hs Z.next (L1,0) hrs uF);rintro v1 H5 ⟨I,hr5,n5,o5⟩;rw[<-hB1]at I hr5;obtain⟨t1,t2⟩:=I.one;have hat5:=hat.keep n5 fun q U=>o5 q ac ac;have g5t:=hat5.t5;have g5f:H5.get (Z.next+7)=some (.cells [.aq [102],.sl (Z.next+3) 0 2 1,.sl (Z.next+4) 0 2 1,.ak,.int .i64 0,.int .i64 0,.aq [],.int .i64 0,.ak,.aq [103],.sl (Z.next+5) 0 1 1,.sl (Z.next+6) 0 1 1,.ak,.int .i64 0,.int .i64 0,.aq [],.int .i64 0,.ak] 0 true):=by rw[o5 _ ac ac];exact gf
 have gst:=hat.t5;dsimp only[aU];repeat' (first
  |apply aQ ?_|(apply da 6 [(1,3),(1,6)] fun K hK=>?_)|(apply ce ?_;try intro _)|(apply di ?_ ?_<;>clear hK K)|fail)
 .exact bN
 have n5':=n5;generalize Y:Hp.set H5 (Z.next+7) _=Ha;have nHa:Ha.next=H5.next:=zp
 have oHa:∀q,q≠Z.next+7->Ha.get q=H5.get q:=fun q U=>Gt
 have gfHa:Ha.get (Z.next+7)=some (.cells [.aq [102],.sl (Z.next+3) 0 2 1,.sl (Z.next+4) 0 2 1,v1,.int .i64 0,.int .i64 0,.aq [],.int .i64 0,.ak,.aq [103],.sl (Z.next+5) 0 1 1,.sl (Z.next+6) 0 1 1,.ak,.int .i64 0,.int .i64 0,.aq [],.int .i64 0,.ak] 0 true):=Gu;clear Y;have hatHa:=hat5.keep (kC nHa.symm) fun q U=>oHa q ac;have gtHa:=hatHa.t5;have hrHa:=hr5.keep (kC nHa.symm) fun q U=>oHa q ac;have hMl:=hat.lt;refine yl ?_;refine qe ?_;refine aY ?_ (nH hG 4 0 1 ac ac (Z.next+1) Ha Z.next _ _ hrHa ac);rintro _ H6 ⟨⟨cs,rfl,hc1,hc2,hc3⟩,hrH6,nH6,oH6⟩;rw[<-hV1]at hc3 hrH6;obtain⟨p0,p1,p2,p3,p4,rfl⟩:=lN hc1;obtain⟨u0,u1,u2,u3,u4⟩:=wq hc2;have hatH6:=hatHa.keep nH6 fun q U=>oH6 q ac ac;have gtH6:=hatH6.t5;have gfH6:H6.get (Z.next+7)=some (.cells [.aq [102],.sl (Z.next+3) 0 2 1,.sl (Z.next+4) 0 2 1,v1,.int .i64 0,.int .i64 0,.aq [],.int .i64 0,.ak,.aq [103],.sl (Z.next+5) 0 1 1,.sl (Z.next+6) 0 1 1,.ak,.int .i64 0,.int .i64 0,.aq [],.int .i64 0,.ak] 0 true):=by rw[oH6 _ ac ac];exact gfHa
 dsimp only[aU];repeat' (first
  |apply aQ ?_|(apply da 7 [(1,3),(1,6)] fun K hK=>?_)|(apply ce ?_;try intro _)|(apply di ?_ ?_<;>clear hK K)|fail)
 .exact bN
 generalize Y:Hp.set H6 (Z.next+7) _=Hb;have nHb:Hb.next=H6.next:=zp
 have oHb:∀q,q≠Z.next+7->Hb.get q=H6.get q:=fun q U=>Gt
 have gfHb:Hb.get (Z.next+7)=some (.cells [.aq [102],.sl (Z.next+3) 0 2 1,.sl (Z.next+4) 0 2 1,v1,p0,p1,p2,p3,p4,.aq [103],.sl (Z.next+5) 0 1 1,.sl (Z.next+6) 0 1 1,.ak,.int .i64 0,.int .i64 0,.aq [],.int .i64 0,.ak] 0 true):=Gu;clear Y;have hatHb:=hatH6.keep (kC nHb.symm) fun q U=>oHb q ac;have gtHb:=hatHb.t5;have hrHb:=hrH6.keep (kC nHb.symm) fun q U=>oHb q ac;refine yl ?_;refine qe ?_;refine aY ?_ (B8 hG (hst 1 3 1 ac ac) 3 ac ac (Z.next+1) Hb Z.next (V1.2,B1.2.2) hrHb uF);rintro v2 H7 ⟨C,hrH7,nH7,g⟩;rw[<-hB2]at C hrH7;obtain⟨s1,s2⟩:=C.one;have hatH7:=hatHb.keep nH7 fun q U=>g q ac ac;have gtH7:=hatH7.t5;have gfH7:H7.get (Z.next+7)=some (.cells [.aq [102],.sl (Z.next+3) 0 2 1,.sl (Z.next+4) 0 2 1,v1,p0,p1,p2,p3,p4,.aq [103],.sl (Z.next+5) 0 1 1,.sl (Z.next+6) 0 1 1,.ak,.int .i64 0,.int .i64 0,.aq [],.int .i64 0,.ak] 0 true):=by rw[g _ ac ac];exact gfHb
 dsimp only[aU];repeat' (first
  |apply aQ ?_|(apply da 8 [(1,3),(1,6)] fun K hK=>?_)|(apply ce ?_;try intro _)|(apply di ?_ ?_<;>clear hK K)|fail)
 .exact bN
 generalize Y:Hp.set H7 (Z.next+7) _=Hc;have nHc:Hc.next=H7.next:=zp
 have j:∀q,q≠Z.next+7->Hc.get q=H7.get q:=fun q U=>Gt
 have gfHc:Hc.get (Z.next+7)=some (.cells [.aq [102],.sl (Z.next+3) 0 2 1,.sl (Z.next+4) 0 2 1,v1,p0,p1,p2,p3,p4,.aq [103],.sl (Z.next+5) 0 1 1,.sl (Z.next+6) 0 1 1,v2,.int .i64 0,.int .i64 0,.aq [],.int .i64 0,.ak] 0 true):=Gu;clear Y;have hatHc:=hatH7.keep (kC nHc.symm) fun q U=>j q ac;have gtHc:=hatHc.t5;have hrHc:=hrH7.keep (kC nHc.symm) fun q U=>j q ac;refine yl ?_;refine qe ?_;refine aY ?_ (nH hG 4 1 1 ac ac (Z.next+1) Hc Z.next _ _ hrHc ac);rintro _ H8 ⟨⟨ds,rfl,hd1,hd2,hd3⟩,hrH8,nH8,z⟩;rw[<-hV2]at hd3 hrH8;obtain⟨w0,dC,w2,w3,w4,rfl⟩:=lN hd1;obtain⟨z0,z1,z2,z3,z4⟩:=wq hd2;have hatH8:=hatHc.keep nH8 fun q U=>z q ac ac;have gtH8:=hatH8.t5;have gfH8:H8.get (Z.next+7)=some (.cells [.aq [102],.sl (Z.next+3) 0 2 1,.sl (Z.next+4) 0 2 1,v1,p0,p1,p2,p3,p4,.aq [103],.sl (Z.next+5) 0 1 1,.sl (Z.next+6) 0 1 1,v2,.int .i64 0,.int .i64 0,.aq [],.int .i64 0,.ak] 0 true):=by rw[z _ ac ac];exact gfHc
 dsimp only[aU];repeat' (first
  |apply aQ ?_|(apply ak fun K hK=>?_)|(apply ce ?_;try intro _)|(apply di ?_ ?_<;>clear hK K)|fail)
 .exact bN
 generalize Y:Hp.set H8 (Z.next+7) _=Hd;have nHd:Hd.next=H8.next:=zp
 have O:∀q,q≠Z.next+7->Hd.get q=H8.get q:=fun q U=>Gt
 have gfHd:Hd.get (Z.next+7)=some (.cells [.aq [102],.sl (Z.next+3) 0 2 1,.sl (Z.next+4) 0 2 1,v1,p0,p1,p2,p3,p4,.aq [103],.sl (Z.next+5) 0 1 1,.sl (Z.next+6) 0 1 1,v2,w0,dC,w2,w3,w4] 0 true):=Gu;clear Y;have V:=hatH8.keep (kC nHd.symm) fun q U=>O q ac;have gtHd:=V.t5;have hrHd:=hrH8.keep (kC nHd.symm) fun q U=>O q ac;have gr:=V.rs;have e1:(Z.next+2 == H.next)=false:=aX ac;have gh0:=@KS;refine pZ ?_;refine⟨aq,_,(by(try simp only[aG,aR,Nat.reduceBEq,Nat.reduceAdd,tyF,cL,cY, *]);first|done|with_reducible rfl),?_⟩;try simp only[am]
 have old:∀q,q<H.next->((Hd.set H.next (.cells [.sl (Z.next+1) 0 2 2,.sl (Z.next+7) 0 2 9] 0 true)).get q=H.get q):=fun q U=>by
  rw[aA,af ac,O _ ac,z _ ac ac,j _ ac,g _ ac ac,oHb _ ac,oH6 _ ac ac,oHa _ ac,o5 _ ac ac];exact os q U
 have hz:=V.keep (H':=Hd.set H.next (.cells [.sl (Z.next+1) 0 2 2,.sl (Z.next+7) 0 2 9] 0 true)) (aH _);refine⟨Z.next+1,Z.next+7,x,y,[.aq [102],.sl (Z.next+3) 0 2 1,.sl (Z.next+4) 0 2 1,v1,p0,p1,p2,p3,p4],[.aq [103],.sl (Z.next+5) 0 1 1,.sl (Z.next+6) 0 1 1,v2,w0,dC,w2,w3,w4],rfl,?_,eg,old,ac,wa Z.next H5.next H6.next H7.next,.sl (Z.next+3) 0 2 1,.sl (Z.next+4) 0 2 1,v1,[p0,p1,p2,p3,p4],.sl (Z.next+5) 0 1 1,.sl (Z.next+6) 0 1 1,v2,[w0,dC,w2,w3,w4],rfl,rfl,?_,hA,fun q U=>by unfold wa;rw[ah ac]⟩;all_goals
  have J:∀q,q≠H.next->(Hd.set H.next (.cells [.sl (Z.next+1) 0 2 2,.sl (Z.next+7) 0 2 9] 0 true)).get q=Hd.get q:=fun q U=>by rw[aA,af U]
  have nz:(Hd.set H.next (.cells [.sl (Z.next+1) 0 2 2,.sl (Z.next+7) 0 2 9] 0 true)).next=Hd.next:=rfl
  generalize (Hd.set H.next (.cells [.sl (Z.next+1) 0 2 2,.sl (Z.next+7) 0 2 9] 0 true))=Hz at *;have hl:=V.lt
 .refine⟨by rw[hgP,hA],by rw[J _ ac];exact V.ra,by rw[J _ ac];exact gfHd,⟨ac,ac⟩,⟨ac,ac⟩,ac,rfl,rfl,?_,?_⟩
  .rw[hF1];refine Tx (n:=13) [102] rfl (GA (n:=12) (imm:=0) (tip:=true) [[120],[121]] ⟨ac,ac,ac⟩ ac (by rw[J _ ac];exact V.p1) au) (GA (n:=12) (imm:=0) (tip:=true) [[105],[106]] ⟨ac,ac,ac⟩ ac (by rw[J _ ac];exact V.l1) au) ?_ ?_
   .exact(I.keep (fun q _ U=>⟨ac,ac,ac⟩) ac fun q h1 h2=>Tj).rd.up ac
   .exact(hc3.up ac).a0 (fun q _ U=>⟨ac,ac,ac⟩) ac fun q h1 h2=>Tl
  .rw[hF2];refine Tx (n:=13) [103] rfl (GA (n:=12) (imm:=0) (tip:=true) [[110]] ⟨ac,ac,ac⟩ ac (by rw[J _ ac];exact V.p2) au) (GA (n:=12) (imm:=0) (tip:=true) [[105]] ⟨ac,ac,ac⟩ ac (by rw[J _ ac];exact V.l2) au) ?_ ?_
   .exact(C.keep (fun q _ U=>⟨ac,ac,ac⟩) ac fun q h1 h2=>Tm).rd.up ac
   .exact(hd3.up ac).a0 (fun q _ U=>⟨ac,ac,ac⟩) ac fun q h1 h2=>by rw[J _ ac,O _ ac]
 .have ls:=hat.lt;refine⟨by rw[J _ ac];exact V.ra,by rw[J _ ac,gfHd,hF1,hF2];rfl,ac,ac,zH,zH,⟨hc1,hc2,?_,?_,?_,?_⟩,⟨hd1,hd2,?_,?_,?_,?_⟩⟩
  .rw[hF1];exact FP (n:=13) [[120],[121]] zH ac (by rw[J _ ac];exact V.p1)
  .rw[hF1];exact FP (n:=13) [[105],[106]] zH ac (by rw[J _ ac];exact V.l1)
  .rw[hF1];exact(I.keep (fun q h1 h2=>zfy ac h1) ac fun q h1 h2=>Tj).up ac
  .rw[hF1];exact(hc3.up ac).a0 (fun q h1 h2=>zfz ac ac h1) ac fun q h1 h2=>Tl
  .rw[hF2];exact FP (n:=13) [[110]] zH ac (by rw[J _ ac];exact V.p2)
  .rw[hF2];exact FP (n:=13) [[105]] zH ac (by rw[J _ ac];exact V.l2)
  .rw[hF2];exact(C.keep (fun q h1 h2=>zfA ac ac ac h1) ac fun q h1 h2=>Tm).up ac
  .rw[hF2];exact(hd3.up ac).a0 (fun q h1 h2=>zfB ac ac ac ac) ac fun q h1 h2=>by rw[J _ ac,O _ ac]
end
variable(ρ:Nat->Int)
section
def tyQaL.tyF:=ad @ec (ad @cA (ad @dw (ad @gQ (ad @jA (ad @iL (ad @eZ (ad @rB (ad @rC (ad @fX (ad @tk (ad @vu (ad @jB (ad @fU (ad @fL (ad @fM (ad @fb (ad @nf (ad @lJ (ad @gF (ad @tl (ad @KR (@zr))))))))))))))))))))))
open tyQaL
noncomputable def wr:{c:SC // aC 144 (f36.body.getD .skip)=c}:=by
 refine⟨?_,?_⟩;rotate_left
 .simp only[f36,bz,aC,bw,bt,bA,bB,Nat.blt,Nat.ble];rfl
theorem Ty(Y:p.sz<2^34)(C:f∈p.funcs)(b:Nat)(nv:AV):CxQ (Qx.mk p b nv (f.params++f.ao)) (nF p f) where
 ar:=rfl
 ns:=rfl
 fs:=rfl
 l1:=by
  have i:=mC p.aa;have g:p.sz=1+eV p.aa+fg p.funcs:=rfl;show p.aa.length<2^40;omega
 l2:=by
  have i:=nY C;have g:p.sz=1+eV p.aa+fg p.funcs:=rfl;have Z:f.sz=1+f.name.length+dB f.params+dB f.ao+bH f.body+f.value.sz:=rfl;have I:=jR f.params;have z:=jR f.ao;show(f.params++f.ao).length<2^40;rw[fB];omega
 l3:=by
  have i:=nX p.funcs;have g:p.sz=1+eV p.aa+fg p.funcs:=rfl;show p.funcs.length<2^40;omega
def Tz(p:Pr):dU prog 140 [(0,.agg p.cells)]=some (.agg [.aE (p.aa.map Ar.cells),.aE (p.funcs.map Fu.cells),.ak,.ak,.ak,.int .i64 0,.int .i64 0]):=aB
noncomputable def zI:En:=⟨54,true,bQ (fun p=>p.sz<2^36) fD fun p=>.int .i64 (fx p)⟩
def TA:co prog ρ zI:=cz fun p hp=>zeU ρ p hp
structure Smw (n:Nat) (H H':Hp):Prop where
 get:∀k,2<=k->k<n->H'.get k=H.get k
set_option maxRecDepth 100000 in
theorem zh7(hG:zd7 tb)(hC:∀ar,cM tb 54 ar=zI.sp ar)(hL:zd0 (ay pls tb) 36)(p:Pr)(hz:p.sz<2^34)(hok:fx p=0->Gj p n){u:Un}(h:rX p n=some (u,e)):
 aM prog (ay pls tb) 36 [.agg p.cells] bM (fun v H'=>Gk H' u e v):=by
 have hw:=hL;have hkeep:(ay pls tb).keep 36=false:=rfl;have hchk:∀H,aM prog (ay pls tb) 54 [.agg p.cells] H fun v H'=>v=.int .i64 (fx p)/\H'=H:=fun H=>bZ (enc:=fD) (ok:=fun p=>p.sz<2^36) (out:=fun p=>.int .i64 (fx p)) pH (x:=p) (hC _) ac;have hpz:p.sz=1+eV p.aa+fg p.funcs:=rfl;have hla:=mC p.aa;have hlf:=nX p.funcs;have bUn0:dU prog 37 []=some (.agg [.ak,.ak]):=aB;unfold rX at h;by_cases hc:fx p=0
 .rw[ah hc]at h;have hok:=hok hc;obtain⟨av,O,aa,ra,na,qa⟩:=Ta ((bM.alloc (.cells p.cells 0 true)).alloc qi) p.aa ac;obtain⟨ha1,ha2⟩:=ra.one;have bUn:dU prog 37 [(0,av)]=some (.agg [av,.ak]):=by
   rcases ra with⟨rfl,_⟩|⟨q,im,rows,rfl,_⟩<;>kernel_rfl
  have na3:3<=O.next:=na
  have q0:O.get 0=some (.cells p.cells 0 true):=by rw[qa 0 (by simp only[aZ,bX];omega)];simp[aD,aZ,bX]
  have q1:O.get 1=some qi:=by rw[qa 1 (by simp only[aZ,bX];omega)];simp[aD,aZ,bX]
  have ra':eC (fun k=>2<=k/\k<O.next) 1 O 2 av (p.aa.map Ar.cells):=ra.keep (fun k h1 g=>⟨g,h1⟩) (aH _) fun _ _ _=>rfl;have bA0:et prog ((bM.alloc (.cells p.cells 0 true)).alloc qi) 22 0 []=some (.sl 2 0 0 2,((bM.alloc (.cells p.cells 0 true)).alloc qi).alloc qh):=aB;refine a0 (M:=144) (rs:=[.cell 2 37,.tmp 3]) (hw.call _) hw.aG hw.az func36 rfl rfl wr.2 rfl ?_;dsimp only[wr,aW,Nat.reduceAdd];have aa':cX prog false (((bM.alloc (.cells p.cells 0 true)).alloc qi).alloc qh) 22 22 (.sl 2 0 0 2) (.aE (p.aa.map Ar.cells))=some (av,O):=aa;repeat' (first
   |(apply aj ?_;clear hK K)|apply aQ ?_|(apply ch ?_;first|refine Rx.k (hchk _) ?_)|(apply aV ?_ ?_<;>(intro hb hbp;try(cases hb;done)))|(apply ak fun K hK=>?_)|fail)
  clear aa aa' qa ra na bA0;have gs:∀k,k<O.next->((O.alloc qi).set O.next (.cells [av,.ak] 0 true)).get k=O.get k:=fun k Y=>sD
  have hfl:lj p n (p.funcs.drop 0) []=some (u,e):=h;refine bY [1,2,5] [] 6 p.funcs.length (fun i E C=>∃gs fv,lj p n (p.funcs.drop i) gs=some (u,e)/\C.get 0=some (.cells p.cells 0 true)/\C.get 1=some qi/\C.get O.next=some (.cells [av,fv] 0 true)/\eC (fun k=>O.next<k) 3 C 5 fv (gs.map Gr.cells)/\Smw O.next O C/\gs.length=i) eE ⟨[],.ak,hfl,by rw[gs _ ac];exact q0,by rw[gs _ ac];exact q1,gC,.inl ⟨rfl,rfl⟩,⟨fun k _ Y=>gs k Y⟩,rfl⟩ ?_;clear gs hfl h q0 q1;rintro i5 E5 C hk5 hcE hrH hnH hsI ⟨gs,fv,hJ,g0,g1,g7,rf,hsm,hgl⟩;(try simp only[bq,aT,aN,aG,aR,Nat.reduceBEq, *]at hcE);(try simp only[aT,aR, *]at hrH);(try simp only[aZ,br,]at hnH);have nk:O.next+1<=C.next:=ac
  obtain⟨hf1,hf2⟩:=rf.one;by_cases hlt:i5<p.funcs.length
  .have hlt':(i5:Int)<p.funcs.length:=by omega
   have hgx:p.funcs[i5]?=some p.funcs[i5]:=aL hlt;have hmem:=cB hlt;have hfsz:=nY hmem;have hcx:=fun b nv=>Ty hz hmem b nv;rw[ft hlt]at hJ;unfold lj at hJ;obtain⟨s,v,e1,e2,hF⟩:=hok _ hmem;generalize p.funcs[i5]=f at *;have hfn:jE p n f=some ⟨f.name,f.params.length,v.2.l,v.1,v.2.ab⟩:=Tc;rw[hfn]at hJ;simp only[cy]at hJ;have hsz:f.sz=1+f.name.length+dB f.params+dB f.ao+bH f.body+f.value.sz:=rfl;have hpl:=jR f.params;have hll:=jR f.ao;have hFs:Fin s:=hF.le (eO _ n _ _ _ e2).le;have hFst:Fin (ja f):=hFs.le ((mH _ n).2.1 _ _ _ e1).1;have hst:ja f=jn f.ao.length (gg f.params.length 0 { (ai ⟨26,0,[]⟩ ⟨[],[],0,0⟩).2 with ab:=(ai ⟨26,0,[]⟩ ⟨[],[],0,0⟩).1}):=rfl;generalize hs0:({ (ai ⟨26,0,[]⟩ ⟨[],[],0,0⟩).2 with ab:=(ai ⟨26,0,[]⟩ ⟨[],[],0,0⟩).1}:Bd)=s0 at *;have hv0:s0.vars.length=0:=by rw[<-hs0];rfl
   have hF1:Fin (gg f.params.length 0 s0):=by rw[hst]at hFst;exact hFst.le (x6 _ _).1
   have hv1:(gg f.params.length 0 s0).vars.length=f.params.length:=by rw[(x5 _ _ _).2,hv0];omega
   have hF0:Fin s0:=hF1.le (x5 _ _ _).1;have hFe:Fin (ai ⟨26,0,[]⟩ ⟨[],[],0,0⟩).2:=by rw[<-hs0]at hF0;exact⟨hF0.r,hF0.l,hF0.n⟩
   have hvst:(ja f).vars.length<2^36:=by rw[hst,(x6 _ _).2,hv1];omega
   have nB:=Tz p;have g0m:∀b0 c0,((C.alloc b0).set C.next c0).get 0=some (.cells p.cells 0 true):=fun b0 c0=>Tn;repeat' (first
    |(apply aj ?_;clear hK K)|apply aQ ?_|(apply aV ?_ ?_<;>(intro hb hbp;try(cases hb;done)))|(apply ak fun K hK=>?_)|fail)
   refine qd ?_;generalize hHb:Hp.alloc (Hp.set (C.alloc _) _ (.cells f.cells 0 true)) _=U;have nb:U.next=C.next+2:=by rw[<-hHb];rfl
   have old:∀k,k<C.next->U.get k=C.get k:=fun k Y=>To
   have gfb:U.get C.next=some (.cells f.cells 0 true):=Tp
   have gbb:U.get (C.next+1)=some (.cells [.aE (p.aa.map Ar.cells),.aE (p.funcs.map Fu.cells),.ak,.ak,.ak,.int .i64 0,.int .i64 0] 0 true):=Kx;clear hHb g0m nB;have R1:zd1 (Qx.mk p (C.next+1) .ak []) U (fun _=>False) ⟨[],[],0,0⟩ .ak .ak:=
    ⟨gbb,.inl ⟨rfl,rfl⟩,.inl ⟨rfl,rfl⟩,.inl ⟨rfl,rfl⟩,by show C.next+1<U.next;omega,fun _ h=>(sJ h).elim,fun _ h=>h.elim,fun _ h=>(sJ h).elim⟩
   have N1:FrM (C.next+1) U (fun _=>False) .ak .ak U:=⟨aH _,fun _ _ _=>rfl,fun _ h=>h.elim,fun _ h=>(sJ h).elim,fun _ h=>(sJ h).elim⟩;have gA:∀{S:Nat->Prop}{vv nv:AV}{H':Hp},FrM (C.next+1) U S vv nv H'->H'.get C.next=some (.cells f.cells 0 true):=fun h=>by
    rw[h.get _ ac ac];exact gfb
   refine aY ?_ (pT hG R1 26 0 hFe);rintro w H2 ⟨rfl,S2,lv2,R2,F2⟩;have m2:=R2.m;obtain⟨R3,F3⟩:=R2.setS (ai ⟨26,0,[]⟩ ⟨[],[],0,0⟩).1;have N3:FrM (C.next+1) U S2 .ak .ak _:=o0 (X:=Qx.mk p (C.next+1) .ak []) N1 (F2.trans F3);have n2:U.next<=H2.next:=F2.next
   clear R1 R2 F2 F3 N1 gbb;have g3:=gA N3;dsimp only[bI]at m2 R3 N3 g3;dsimp only[aU];refine eh ?_;refine bY [1,2,5,6,7,8] [] 9 f.params.length (fun i E Hi=>∃si Si lvi vvi nvi,gg (f.params.length-i) i si=gg f.params.length 0 s0/\si.vars.length=i/\zd1 (Qx.mk p (C.next+1) nvi (f.params.take i)) Hi Si si lvi vvi/\FrM (C.next+1) U Si vvi nvi Hi) eE ⟨s0,S2,lv2,.ak,.ak,rfl,hv0,by rw[vM,<-hs0];exact R3,N3⟩ ?_;clear R3 N3 m2 g3;rintro i E Hi hi hcE hrH hnH hsI ⟨si,Si,lvi,vvi,nvi,J,hvi,Ri,Ni⟩;(try simp only[bq,aT,aN,aG,aR,Nat.reduceBEq, *]at hcE);(try simp only[aT,aR, *]at hrH);(try simp only[br,]at hnH);have ni:U.next<=Hi.next:=Ni.next
   have gi:=gA Ni;by_cases hlt2:i<f.params.length
   .have hlt2':(i:Int)<f.params.length:=by omega
    have hgx2:f.params[i]?=some f.params[i]:=aL hlt2;obtain⟨k,Y⟩:∃k,f.params.length-i=k+1:=⟨f.params.length-i-1,ac⟩;have hk2:f.params.length-(i+1)=k:=ac;have hne:f.params.take (i+1)=f.params.take i++[f.params[i]]:=by rw[sd,hgx2];rfl
    have htl:(f.params.take i).length<2^36:=td;rw[Y]at J;rw[hk2,hne];have J:gg k (i+1) { (ai ⟨2,i,[]⟩ si).2 with vars:=(ai ⟨2,i,[]⟩ si).2.vars++[(ai ⟨2,i,[]⟩ si).1] }=gg f.params.length 0 s0:=J;have hFx:Fin (ai ⟨2,i,[]⟩ si).2:=hF1.le Td;generalize f.params[i]=nm at *;obtain⟨v4,H4,a4,ho1,ho2,m4,n4,q4,gn4,R5,own4⟩:=Ri.ce nm htl;have mi:=Ri.m;have mia:=(Ri.alloc (.cells [.aq nm] 0 true)).m;have m5:=R5.m;have gia:(Hi.alloc (.cells [.aq nm] 0 true)).get C.next=some (.cells f.cells 0 true):=by rw[aD,af ac];exact gi
    have g4:H4.get C.next=some (.cells f.cells 0 true):=by
     rw[q4 _ ac fun e=>Gv];exact gi
    have N5:FrM (C.next+1) U Si vvi v4 (H4.set (C.next+1) (.cells (bI (Qx.nx (Qx.mk p (C.next+1) nvi (f.params.take i)) v4 (f.params.take i++[nm])) si lvi vvi) 0 true)):=⟨eg,fun k h1 g=>by
     rw[aA,af g,q4 k ac fun e=>Gv];exact Ni.get k h1 g,Ni.sub,Ni.own,fun k Y=>by
     rcases own4 k Y with e|e
     .exact Ni.dE k e
     .omega⟩
    have g5:=gA N5;dsimp only[bI,Qx.nx]at mi mia m4 m5 R5 N5 g5 a4;clear Ri Ni own4 q4;repeat' (first
     |(apply aj ?_;clear hK K)|apply aQ ?_|(apply aV ?_ ?_<;>(intro hb hbp;try(cases hb;done)))|(apply ak fun K hK=>?_)|(apply da 14 [(4,11),(6,11),(9,11),(10,11)] fun K hK=>?_)|(apply da 15 [(4,7),(4,9),(8,9)] fun K hK=>?_)|(apply ce ?_;try intro _)|(apply di ?_ ?_<;>clear hK K)|fail)
    .exact bN
    .refine qe ?_;refine aY ?_ (pT (X:=Qx.mk p (C.next+1) v4 (f.params.take i++[nm])) hG R5 2 i hFx);generalize hpu:ai ⟨2,i,[]⟩ si=pu at *;have hpv:pu.2.vars.length=i:=by rw[<-hpu];exact hvi
     rintro w H6 ⟨rfl,S6,lv6,R6,F6⟩;have m6:=R6.m;have n6:=F6.next
     obtain⟨v7,z,a7,hv71,hv72,m7,n7,q7,R7,F7⟩:=R6.cu pu.1 ac;have N6:FrM (C.next+1) U S6 vvi v4 H6:=o0 (X:=Qx.mk p (C.next+1) v4 (f.params.take i++[nm])) N5 F6;have N7:FrM (C.next+1) U S6 v7 v4 _:=o0 (X:=Qx.mk p (C.next+1) v4 (f.params.take i++[nm])) N6 F7;have m6a:=(R6.alloc (.cells [.int .i64 pu.1] 0 true)).m;simp only[br]at n6;have n67:Hi.next<=z.next:=ac
     have I:(pu.2.vars++[pu.1]).length=i+1:=Gw;clear hpv hvi R6 F6 F7 hpu N6;dsimp only[bI]at m6 m7 m6a R7 N7;dsimp only[aU];repeat' (first
      |(apply aj ?_;clear hK K)|apply aO ?_|(apply ak fun K hK=>?_)|(apply ce ?_;try intro _)|(apply di ?_ ?_<;>clear hK K)|fail)
     .exact bN
     .refine⟨ac,aK,aK,bG,Tq,?_⟩;exact⟨_,S6,lv6,v7,v4,J,I,R7,N7⟩
   .have hlt2':¬(i:Int)<f.params.length:=by omega
    have Y:f.params.length-i=0:=ac;have hti:f.params.take i=f.params:=fI ac;rw[Y]at J;rw[hti]at Ri;have J:si=gg f.params.length 0 s0:=J;rw[J]at Ri;rw[<-J]at hst;rw[J]at hst;clear Y hti J hvi;refine fy (fun hb hbp=>?_);generalize hs1:gg f.params.length 0 s0=s1 at *;refine bY [1,2,5,6,7,8] [] 10 f.ao.length (fun j E Hj=>∃sj Sj lvj vvj L,jn (f.ao.length-j) sj=jn f.ao.length s1/\sj.vars.length=f.params.length+j/\zd1 (Qx.mk p (C.next+1) L (f.params++f.ao.take j)) Hj Sj sj lvj vvj/\FrM (C.next+1) U Sj vvj L Hj) eE ⟨s1,Si,lvi,vvi,nvi,rfl,hv1,Te,Ni⟩ ?_;clear Ri Ni gi;rintro j E3 Hj hj hcE hrH hnH hsI ⟨sj,Sj,lvj,vvj,L,J,hvj,Rj,Nj⟩;(try simp only[bq,aT,aN,aG,Nat.reduceBEq, *]at hcE);(try simp only[aT, *]at hrH);(try simp only[aZ,br,bX,bK,Nat.reduceAdd]at hnH);have nj:U.next<=Hj.next:=Nj.next
    have gj:=gA Nj;by_cases hlt3:j<f.ao.length
    .have hlt3':(j:Int)<f.ao.length:=by omega
     have hgx2:f.ao[j]?=some f.ao[j]:=aL hlt3;obtain⟨k,Y⟩:∃k,f.ao.length-j=k+1:=⟨f.ao.length-j-1,ac⟩;have hk2:f.ao.length-(j+1)=k:=ac;have hne:f.params++f.ao.take (j+1)=(f.params++f.ao.take j)++[f.ao[j]]:=Tf;have htl:(f.params++f.ao.take j).length<2^36:=Tg;rw[Y]at J;rw[hk2,hne];have J:jn k { (ai ⟨1,0,[]⟩ sj).2 with vars:=(ai ⟨1,0,[]⟩ sj).2.vars++[(ai ⟨1,0,[]⟩ sj).1] }=jn f.ao.length s1:=J;have hFx:Fin (ai ⟨1,0,[]⟩ sj).2:=hFst.le Th;generalize f.ao[j]=nm at *;generalize hNs:f.params++f.ao.take j=Ns at *;obtain⟨v4,H4,a4,ho1,ho2,m4,n4,q4,gn4,R5,own4⟩:=Rj.ce nm htl;have mi:=Rj.m;have mia:=(Rj.alloc (.cells [.aq nm] 0 true)).m;have m5:=R5.m;have gia:(Hj.alloc (.cells [.aq nm] 0 true)).get C.next=some (.cells f.cells 0 true):=by rw[aD,af ac];exact gj
     have g4:H4.get C.next=some (.cells f.cells 0 true):=by
      rw[q4 _ ac fun e=>Gx];exact gj
     have N5:FrM (C.next+1) U Sj vvj v4 (H4.set (C.next+1) (.cells (bI (Qx.nx (Qx.mk p (C.next+1) L Ns) v4 (Ns++[nm])) sj lvj vvj) 0 true)):=⟨eg,fun k h1 g=>by
      rw[aA,af g,q4 k ac fun e=>Gx];exact Nj.get k h1 g,Nj.sub,Nj.own,fun k Y=>by
      rcases own4 k Y with e|e
      .exact Nj.dE k e
      .omega⟩
     have g5:=gA N5;dsimp only[bI,Qx.nx]at mi mia m4 m5 R5 N5 g5 a4;clear Rj Nj own4 q4 hNs hne;repeat' (first
      |(apply aj ?_;clear hK K)|apply aQ ?_|(apply aV ?_ ?_<;>(intro hb hbp;try(cases hb;done)))|(apply ak fun K hK=>?_)|(apply da 19 [(4,11),(6,11),(9,11),(10,11)] fun K hK=>?_)|(apply da 20 [(4,6),(4,8),(7,8)] fun K hK=>?_)|(apply ce ?_;try intro _)|(apply di ?_ ?_<;>clear hK K)|fail)
     .exact bN
     .refine qe ?_;refine aY ?_ (pT (X:=Qx.mk p (C.next+1) v4 (Ns++[nm])) hG R5 1 0 hFx);generalize hpu:ai ⟨1,0,[]⟩ sj=pu at *;have hpv:pu.2.vars.length=f.params.length+j:=by rw[<-hpu];exact hvj
      rintro w H6 ⟨rfl,S6,lv6,R6,F6⟩;have m6:=R6.m;have n6:=F6.next
      obtain⟨v7,z,a7,hv71,hv72,m7,n7,q7,R7,F7⟩:=R6.cu pu.1 ac;have N6:FrM (C.next+1) U S6 vvj v4 H6:=o0 (X:=Qx.mk p (C.next+1) v4 (Ns++[nm])) N5 F6;have N7:FrM (C.next+1) U S6 v7 v4 _:=o0 (X:=Qx.mk p (C.next+1) v4 (Ns++[nm])) N6 F7;have m6a:=(R6.alloc (.cells [.int .i64 pu.1] 0 true)).m;simp only[br]at n6;have n67:Hj.next<=z.next:=ac
      have I:(pu.2.vars++[pu.1]).length=f.params.length+(j+1):=Gw;clear hpv hvj R6 F6 F7 hpu N6;dsimp only[bI]at m6 m7 m6a R7 N7;dsimp only[aU];repeat' (first
       |(apply aj ?_;clear hK K)|apply aO ?_|(apply ak fun K hK=>?_)|(apply ce ?_;try intro _)|(apply di ?_ ?_<;>clear hK K)|fail)
      .exact bN
      .refine⟨ac,aK,aK,bG,Tr,?_⟩;exact⟨_,S6,lv6,v7,v4,J,I,R7,N7⟩
    .have hlt3':¬(j:Int)<f.ao.length:=by omega
     have Y:f.ao.length-j=0:=ac;have htj:f.ao.take j=f.ao:=fI ac;rw[Y]at J;rw[htj]at Rj;have J:sj=jn f.ao.length s1:=J;rw[J,<-hst]at Rj;clear Y htj J hvj;have hX:=hcx (C.next+1) L;repeat' (first
      |(apply aj ?_;clear hK K)|apply aQ ?_|(apply aV ?_ ?_<;>(intro hb hbp;try(cases hb;done)))|(apply ak fun K hK=>?_)|fail)
     refine qd ?_;refine aY ?_ (KP (X:=Qx.mk p (C.next+1) L (f.params++f.ao)) hG hX (n+1) n (cC n) f.body (ja f) s e1 hFs ac hvst Rj);rintro w H6 ⟨S6,lv6,vv6,R6,F6⟩;have N6:FrM (C.next+1) U S6 vv6 L H6:=o0 (X:=Qx.mk p (C.next+1) L (f.params++f.ao)) Nj F6;have g6:=gA N6;clear Rj Nj F6 gj;dsimp only[aU];refine dY fun K hK=>?_;refine qd ?_;refine aY ?_ (sO (X:=Qx.mk p (C.next+1) L (f.params++f.ao)) hG hX n f.value s v e2 hF R6);rintro w z ⟨rfl,S7,V,R7,F7⟩;have N7:FrM (C.next+1) U S7 vv6 L z:=o0 (X:=Qx.mk p (C.next+1) L (f.params++f.ao)) N6 F7;have gg7:=gA N7;have m7:=R7.m;have nd7:=R7.ag;obtain⟨hl1,hl2⟩:=nd7.one;have n7:U.next<=z.next:=N7.next
     have old7:∀k,k<C.next->z.get k=C.get k:=fun k Y=>by rw[N7.get k ac ac,old k Y]
     have s7:=N7.sub;have I:∀H',ij prog H' 42 V=some (.int .i64 v.2.l.length):=fun H'=>by
      have:=nd7.len (P:=prog) (t:=42) (H':=H') underlying42
      rwa [cN]at this
     dsimp only[bI]at m7;clear R6 R7 N6 N7 F7 g6 gA;dsimp only[aU];by_cases hbig:(2000:Int)<v.2.l.length
     .rw[ah hbig]at hJ;simp only[cT]at hJ;obtain⟨rfl,rfl⟩:=hJ;have g1a:z.get 1=some qi:=by rw[old7 1 ac];exact g1
      have ag0:cI 2 [.ak,.ak]=some (.agg [.ak,.ak]):=rfl;refine fy (fun hb hbp=>?_);refine⟨aq,_,(by(try simp only[aG,aR,Nat.reduceBEq,tyF,cL,cY, *]);first|done|with_reducible rfl),?_⟩;try simp only[am]
      exact⟨_,fun _=>True,rfl,.cons .ak (.cons .ak .nil)⟩
     .rw[af hbig]at hJ;have hone:([.aq f.name,.int .i64 f.params.length,V,.int .i64 v.1,.int .i64 v.2.ab]:qt).all AV.one=true:=Ti;have bGr:dU prog 44 [(0,.aq f.name),(1,.int .i64 f.params.length),(2,V),(3,.int .i64 v.1),(4,.int .i64 v.2.ab)]=some (.agg [.aq f.name,.int .i64 f.params.length,V,.int .i64 v.1,.int .i64 v.2.ab]):=by
       rcases nd7 with⟨rfl,_⟩|⟨q,im,rows,rfl,_⟩<;>kernel_rfl
      have hbs:=fun H=>SH H (cs:=[.aq f.name,.int .i64 f.params.length,V,.int .i64 v.1,.int .i64 v.2.ab]) rfl hone;have g77:z.get O.next=some (.cells [av,fv] 0 true):=by rw[old7 _ ac];exact g7
      have hfq:∀k o m z',fv=.sl k o m z'->k<C.next/\O.next<k:=fun k o m z' e=>by
       rcases rf with⟨h1,_⟩|⟨q,im,rows,h1,g,h3,_⟩
       .rw[h1]at e;cases e
       .rw[h1]at e;simp only[AV.sl.injEq]at e;rw[<-e.1];exact⟨h3,g⟩
      have Z:∀k,k<z.next->(z.alloc (.cells [.aq f.name,.int .i64 f.params.length,V,.int .i64 v.1,.int .i64 v.2.ab] 0 true)).get k=z.get k:=fun k Y=>fq
      obtain⟨H9,a9,r9,n9,q9⟩:=Ks (P:=prog) (t:=35) underlying35 yQ A4 A5 rfl aB (S':=fun k=>O.next<k)
       (rf.keep (S':=fun k=>O.next<k) (H':=z.alloc (.cells [.aq f.name,.int .i64 f.params.length,V,.int .i64 v.1,.int .i64 v.2.ab] 0 true)) (fun _ _ h=>h) dG fun k _ Y=>by rw[Z k ac,old7 k Y])
       (fun _ _ h=>h) dG (r:=z.next) (imm:=0) (row:=[.aq f.name,.int .i64 f.params.length,V,.int .i64 v.1,.int .i64 v.2.ab]) (w:=(Gr.mk f.name f.params.length v.2.l v.1 v.2.ab).cells) fG rfl hone
       (zhq f.name f.params.length v.1 v.2.ab (nd7.keep (S':=fun k=>O.next<k/\∀o m z',fv≠.sl k o m z') (fun k h1 g=>⟨by have:=s7 k g;omega,fun o m z' e=>by have:=(hfq k o m z' e).1;have:=s7 k g;omega⟩) dG fun k Y g=>Z k g))
       Gc Gc
      rw[cN]at a9 r9;simp only[aZ]at a9 r9 n9 q9;have old9:∀k,k<C.next->(∀o m z',fv≠.sl k o m z')->H9.get k=C.get k:=fun k h1 g=>by rw[q9 k ac g,Z k ac,old7 k h1]
      have hlow:∀k,k<=O.next->∀o m z',fv≠.sl k o m z':=fun k Y o m z' e=>by have:=(hfq k o m z' e).2;omega
      have hhigh:∀k,C.next<=k->∀o m z',fv≠.sl k o m z':=fun k Y o m z' e=>by have:=(hfq k o m z' e).1;omega
      have g79:H9.get O.next=some (.cells [av,fv] 0 true):=Ts
      have gf9:H9.get C.next=some (.cells f.cells 0 true):=by rw[q9 _ ac (hhigh _ (aH _)),Z _ ac];exact gg7
      have m9:H9.get (C.next+1)=some (.cells [.aE (p.aa.map Ar.cells),.aE (p.funcs.map Fu.cells),V,L,vv6,.int .i64 v.2.ab,.int .i64 v.2.loops] 0 true):=by rw[q9 _ ac (hhigh _ ac),Z _ ac];exact m7
      have gf8:(z.alloc (.cells [.aq f.name,.int .i64 f.params.length,V,.int .i64 v.1,.int .i64 v.2.ab] 0 true)).get C.next=some (.cells f.cells 0 true):=by rw[Z _ ac];exact gg7
      have m8:(z.alloc (.cells [.aq f.name,.int .i64 f.params.length,V,.int .i64 v.1,.int .i64 v.2.ab] 0 true)).get (C.next+1)=some (.cells [.aE (p.aa.map Ar.cells),.aE (p.funcs.map Fu.cells),V,L,vv6,.int .i64 v.2.ab,.int .i64 v.2.loops] 0 true):=by rw[Z _ ac];exact m7
      have g78:(z.alloc (.cells [.aq f.name,.int .i64 f.params.length,V,.int .i64 v.1,.int .i64 v.2.ab] 0 true)).get O.next=some (.cells [av,fv] 0 true):=by rw[Z _ ac];exact g77
      have hJ':lj p n (p.funcs.drop (i5+1)) (gs++[Gr.mk f.name f.params.length v.2.l v.1 v.2.ab])=some (u,e):=hJ;have hmapg:(gs++[Gr.mk f.name f.params.length v.2.l v.1 v.2.ab]).map Gr.cells=gs.map Gr.cells++[(Gr.mk f.name f.params.length v.2.l v.1 v.2.ab).cells]:=au;have old9':∀k,k<O.next->H9.get k=C.get k:=fun k Y=>old9 k ac (hlow k ac)
      clear Z old9 hlow hhigh hfq old7 q9 hJ nd7 old;repeat' (first
       |(apply aj ?_;clear hK K)|apply aQ ?_|(apply aV ?_ ?_<;>(intro hb hbp;try(cases hb;done)))|(apply ak fun K hK=>?_)|(apply da 25 [(1,18),(3,18),(5,18),(6,18),(10,18),(15,18),(17,18)] fun K hK=>?_)|(apply ce ?_;try intro _)|(apply di ?_ ?_<;>clear hK K)|fail)
      .exact bN
      .refine⟨ac,aK,aK,bG,pA,?_⟩;have hs9:∀m k,k≠O.next->(H9.set O.next m).get k=H9.get k:=fun m k Y=>by rw[aA,af Y]
       refine⟨gs++[Gr.mk f.name f.params.length v.2.l v.1 v.2.ab],.sl (z.next+1) 0 (gs.length+1) 5,hJ',Tt,Tu,by rw[aA,ah rfl,hgl],?_,⟨fun k h1 g=>by rw[hs9 _ _ ac,old9' _ ac];exact hsm.get k h1 g⟩,by rw[fB,hgl];rfl⟩;rw[hmapg];exact r9.keep (fun _ _ h=>h) (aH _) fun k Y _=>hs9 _ k ac
  .have hlt':¬(i5:Int)<p.funcs.length:=by omega
   have hd:p.funcs.drop i5=[]:=ny ac;rw[hd]at hJ;simp only[lj,cT]at hJ;obtain⟨rfl,rfl⟩:=hJ;have ag:cI 2 [av,fv]=some (.agg [av,fv]):=rfl;have rd1:=ra'.keep (S':=fun _=>True) (H':=C.set 1 (.cells [av,fv] 0 true)) (fun _ _ _=>trivial) eg fun k Y _=>by rw[aA,af ac];exact hsm.get k Y.1 Y.2
   have rd2:=rf.keep (S':=fun _=>True) (H':=C.set 1 (.cells [av,fv] 0 true)) (fun _ _ _=>trivial) eg fun k Y _=>jU;have fin:Gk (C.set 1 (.cells [av,fv] 0 true)) ⟨p.aa,gs⟩ 0 (.aX [.agg [av,fv],.int .i64 0]):=⟨_,fun _=>True,rfl,.cons (rd1.rd.up ac) (.cons (rd2.rd.up ac) .nil)⟩;clear rd1 rd2;refine fy (fun hb hbp=>?_);refine⟨aq,_,(by(try simp only[aG,aR,Nat.reduceBEq,tyF,cL,cY, *]);first|done|with_reducible rfl),?_⟩;try simp only[am]
   exact fin
 .rw[af hc,aI,iJ]at h;obtain⟨rfl,rfl⟩:=h;refine a0 (M:=144) (rs:=[.cell 2 37,.tmp 3]) (hw.call _) hw.aG hw.az func36 rfl rfl wr.2 rfl ?_;dsimp only[wr,aW,Nat.reduceAdd];repeat' (first
   |(apply aj ?_;clear hK K)|apply aQ ?_|(apply ch ?_;first|refine Rx.k (hchk _) ?_)|(apply aV ?_ ?_<;>(intro hb hbp;try(cases hb;done)))|(apply ak fun K hK=>?_)|fail)
  have ag0:cI 2 [.ak,.ak]=some (.agg [.ak,.ak]):=rfl;refine⟨aq,_,(by(try simp only[aG,aR,Nat.reduceBEq,tyF,cL,cY, *]);first|done|with_reducible rfl),?_⟩;try simp only[am]
  exact⟨_,fun _=>True,rfl,.cons .ak (.cons .ak .nil)⟩
theorem TB{f:FuncId}:∀{tb:qB},(∀e∈tb,Nat.beq e.f f=false)->(∀i,cM tb f i=none)/\jt tb f=false
 |[],_=>⟨fun _=>rfl,rfl⟩
 |e::l,hne=>by
  obtain⟨I,C⟩:=TB (tb:=l) fun x z=>hne x (ev _ z)
  have J:=hne e ei;exact⟨fun i=>by simp only[cM,J];exact I i,by simp only[jt]at C⊢;simp only[J,];exact C⟩
theorem zd7.of(h:∀e∈tb,KM e.f=false)(M:∀i,cM tb 53 i=(pE B9).sp i)(C:jt tb 53=true)(Z:∀i,cM tb 55 i=xR.sp i):zd7 tb where
 pl f hf2:=TB fun e J=>by
  cases hb:Nat.beq e.f f with
  |false=>rfl
  |true=>rw[<-kh hb,h e J]at hf2;cases hf2
 sn:=M
 sni:=C
 ff:=Z
noncomputable def Ca:qB:=[zI,pE B9,xR]
def zh8:eU prog ρ Ca:=⟨TA ρ,y4 (SO ρ),Fs ρ,trivial⟩
theorem zh9:zd7 Ca:=zd7.of (fun e J=>by
 simp only[Ca,j5]at J;rcases J with rfl|rfl|rfl<;>rfl) (fun _=>rfl) rfl (fun _=>rfl)
def zia(p:Pr)(I:p.sz<2^34)(Z:fx p=0->Gj p n){u:Un}(h:rX p n=some (u,e)):bF prog ρ 36 (fD p) (.aX [.agg u.cells,.int .i64 e]):=
 FO (n:=60) (cfg:=ay pls Ca) fit (nU ρ) (fun g i r hg=>eU.bR (l:=Ca) (zh8 ρ) g i r hg) (.cons (.agg p.pure) .nil) (aY (fun v H' h=>h.wk) (zh7 zh9 (fun _=>rfl) (db (fun _=>rfl) rfl) p I Z h))
end
section
def tyQaM.tyF:=ad @ec (ad @cA (ad @dw (ad @gQ (ad @jA (ad @iL (ad @eZ (ad @rB (ad @rC (ad @fX (ad @tk (ad @vu (ad @jB (ad @fU (ad @fL (ad @fM (ad @fb (ad @nf (ad @lJ (ad @gF (ad @tl (ad @KR (@zr))))))))))))))))))))))
open tyQaM
def lw(g:Gr)(Y:AV):qt:=[.aq g.name,.int .i64 g.params,Y,.int .i64 g.value,.int .i64 g.ab]
structure FsM (lo:Nat) (H:Hp) (fv:AV) (gs:qT) (pt:Nat->Nat) (lvs:qt):Prop where
 len:lvs.length=gs.length
 own:(fv=.ak/\gs=[])\/∃q,fv=.sl q 0 gs.length 5/\lo<=q/\q<H.next/\pt q=0/\H.get q=some (.cells (List.zipWith lw gs lvs).flatten 0 true)
 nd:∀(i:Nat) (g:Gr) (lv:AV),gs[i]?=some g->lvs[i]?=some lv->eC (fun k=>lo<=k/\pt k=i+1) 2 H 3 lv (g.ag.map Nd.cells)
def FsM.nil{lo:Nat}:FsM lo H .ak [] U []:=⟨rfl,.inl ⟨rfl,rfl⟩,fun i g lv h=>mS⟩
def FsM.one{lo:Nat}{H:Hp}{V:AV}{z:qT}{U:Nat->Nat}{M:qt}(h:FsM lo H V z U M):AV.one V=true/\V.cells=[V]:=by
 rcases h.own with⟨rfl,_⟩|⟨q,rfl,_⟩<;>exact⟨rfl,rfl⟩
theorem TC:∀(z:qT) (M:qt),M.length=z.length->(List.zipWith lw z M).flatten.length=z.length*5
 |[],[],_=>rfl
 |g::z,lv::M,h=>by
  have:=TC z M jf;rw[List.zipWith_cons_cons,jL,fB,this,eF];show 5+_=_;omega
def FsM.keep{lo lo':Nat}{z:qT}(h:FsM lo H V z U M)(L:lo'<=lo)(I:H.next<=H'.next)(hg:∀k,lo<=k->k<H.next->H'.get k=H.get k):FsM lo' H' V z U M where
 len:=h.len
 own:=by
  rcases h.own with Z|⟨q,Z,Y,m,O,C⟩
  .exact .inl Z
  .exact .inr ⟨q,Z,ac,ac,O,by rw[hg q Y m];exact C⟩
 nd i g lv Z Y:=(h.nd i g lv Z Y).keep (fun k _ j=>⟨ac,j.2⟩) I fun k j J=>hg k j.1 J
theorem FsM.push{lo:Nat}{H7:Hp}{fv:AV}{Y:qT}{pt:Nat->Nat}(h:FsM lo H fv Y pt M)(hn:H.next<=H7.next)(j:∀k,lo<=k->k<H.next->H7.get k=H.get k)(g:Gr)(hnd:eC S 2 H7 3 V (g.ag.map Nd.cells))(hS:∀k,S k->H.next<=k)(hlo:lo<=H.next)(hl:Y.length<2^34):
 ∃J,cX prog false (H7.alloc (.cells (lw g V) 0 true)) 35 35 fv (.sl H7.next 0 1 5)=some (.sl (H7.next+1) 0 (Y.length+1) 5,J)/\J.next=H7.next+2/\(∀k,k<H7.next+1->(∀o m U,fv≠.sl k o m U)->J.get k=(H7.alloc (.cells (lw g V) 0 true)).get k)/\∃pt',FsM lo J (.sl (H7.next+1) 0 (Y.length+1) 5) (Y++[g]) pt' (M++[V]):=by
 have hm:dL=70368744177664:=rfl;have hln:=h.len;obtain⟨hl1,hl2⟩:=hnd.one;have O:(lw g V).all AV.one=true:=by simp only[lw,oO,oK,hl1];rfl
 have L:eQ (H7.alloc (.cells (lw g V) 0 true)) 5 (.sl H7.next 0 1 5)=some (0+1,lw g V):=by
  have:=pq (H:=H7.alloc (.cells (lw g V) 0 true)) (r:=H7.next) (o:=0) (n:=1) (z:=5) (s:=5) fG rfl;rw[this];rfl
 have hfl:=TC Y M h.len;have hz:(List.zipWith lw (Y++[g]) (M++[V])).flatten=(List.zipWith lw Y M).flatten++lw g V:=by
  rw[List.zipWith_append h.len.symm];simp
 have C:∀(J:Hp),J.next=H7.next+2->(∀k,k<H7.next->(∀o m U,fv≠.sl k o m U)->J.get k=H7.get k)->J.get (H7.next+1)=some (.cells ((List.zipWith lw Y M).flatten++lw g V) 0 true)->FsM lo J (.sl (H7.next+1) 0 (Y.length+1) 5) (Y++[g]) (fun k=>if k<H.next then pt k else if k=H7.next+1 then 0 else Y.length+1) (M++[V]):=fun J n9 k9 g9=>by
  refine⟨by simp[h.len],.inr ⟨H7.next+1,au,ac,ac,by show(if H7.next+1<H.next then pt (H7.next+1)else if H7.next+1=H7.next+1 then 0 else Y.length+1)=0;rw[af ac,ah rfl],by rw[hz];exact g9⟩,fun i g' lv' h1 h2=>?_⟩;have hfq:∀k,pt k≠0\/H.next<=k->∀o m U,fv≠.sl k o m U:=fun k Z o m U e=>by
   rcases h.own with⟨e1,_⟩|⟨q,e1,_,e3,e4,_⟩
   .rw[e1]at e;cases e
   .rw[e1]at e;simp only[AV.sl.injEq]at e;rw[<-e.1]at Z;omega
  by_cases c:i<Y.length
  .rw[je c]at h1;rw[je (by rw[h.len];exact c)]at h2;refine(h.nd i g' lv' h1 h2).keep (fun k I Z=>⟨Z.1,by rw[ah I];exact Z.2⟩) ac fun k Z I=>?_;rw[k9 k ac (hfq k (.inl ac)),j k Z.1 I]
  .have hi:i=Y.length:=by
    have:=(fH.1 h1).1;simp only[fB,oF]at this;omega
   subst hi;rw[lT (aH _),nP,nV,aI]at h1;rw[lT ac,h.len,nP,nV,aI]at h2;subst h1;subst h2;refine hnd.keep (fun k I Z=>⟨by have:=hS k Z;omega,by have:=hS k Z;rw[af ac,af ac]⟩) ac fun k Z I=>k9 k I (hfq k (.inr (hS k Z)))
 have h8:∀k,k<H7.next->(H7.alloc (.cells (lw g V) 0 true)).get k=H7.get k:=fun k j=>fq
 rcases h.own with⟨rfl,rfl⟩|⟨q,rfl,h2,h3,h4,h5⟩
 .refine⟨_,append_nil underlying35 yQ A4 A5 aB L O rfl Gy Gy,rfl,fun k j _=>by rw[aD,af dG],_,C _ rfl (fun k j _=>by rw[aD,af dG,h8 k j]) ?_⟩;have:M=[]:=Mp.1 h.len;rw[aD,ah eN];rfl
 .have hq8:(H7.alloc (.cells (lw g V) 0 true)).get q=some (.cells (List.zipWith lw Y M).flatten 0 true):=by rw[h8 q ac,j q h2 h3];exact h5
  have hne:∀k,(∀o m U,AV.sl q 0 Y.length 5≠.sl k o m U)->k≠q:=fun k j e=>j 0 Y.length 5 nQ;refine⟨_,xf underlying35 yQ A4 A5 aB L O rfl hq8 hfl Gy Gy,rfl,fun k j hno=>by rw[aD,af zG,gN,af (hne k hno)],_,C _ rfl (fun k j hno=>by rw[aD,af zG,gN,af (hne k hno),h8 k j]) ?_⟩;show(((H7.alloc (.cells (lw g V) 0 true)).aR q).alloc _).get ((H7.alloc (.cells (lw g V) 0 true)).aR q).next=_
  rw[aD,ah rfl]
theorem zib(H:Hp)(l:qR)(J:l.length<2^36)(c:l≠[]):∃H',cX prog false (H.alloc qh) 22 22 (.sl H.next 0 0 2) (.aE (l.map Ar.cells))=some (.sl (H.next+1) 0 l.length 2,H')/\H'.next=H.next+2/\H'.get (H.next+1)=some (.cells (l.map Ar.cells).flatten 0 true):=by
 have I:∀x∈l.map Ar.cells,x.length=2:=fun x z=>SX;have z:=FM (H:=H.alloc qh) I;rw[cN]at z;have hg:(H.alloc qh).get H.next=some qh:=fG
 obtain⟨m,O⟩:∃m,l.length=m+1:=⟨l.length-1,by have:=tq.2 c;omega⟩;rw[O]at z;have g:dL=70368744177664:=rfl;refine⟨_,by rw[O];exact(xf underlying22 vx xi xj aB z (Kp l) rfl hg rfl (by rw[g];omega) (by rw[g];omega)).trans (by rw[bK];rfl),rfl,?_⟩;show((Hp.aR _ H.next).alloc _).get (H.next+1)=_;rw[aD,ah eN];rfl
structure SmM (n:Nat) (H H':Hp):Prop where
 get:∀k,k<n->H'.get k=H.get k
structure UnM (H H':Hp) (u:Un) (av fv:AV) (m:Nat) (pt:Nat->Nat) (lvs:qt):Prop where
 ar:eC (fun k=>H.next<=k/\k<m) 1 H' 2 av (u.aa.map Ar.cells)
 fs:FsM m H' fv u.funcs pt lvs
 arx:u.aa≠[]->∃q,av=.sl q 0 u.aa.length 2/\H.next<=q/\q<m/\q<H'.next/\H'.get q=some (.cells (u.aa.map Ar.cells).flatten 0 true)
 lo:H.next<=m
 next:H.next<=H'.next
 get:∀k,k<H.next->H'.get k=H.get k
def UnM.nil(I:H.next<=H'.next)(hg:∀k,k<H.next->H'.get k=H.get k):UnM H H' ⟨[],[]⟩ .ak .ak H.next (fun _=>0) []:=⟨.inl ⟨rfl,rfl⟩,.nil,fun h=>absurd rfl h,aH _,I,hg⟩
def TD(H H':Hp)(u:Un)(e:Int)(v:AV):Prop:=∃L V m U M,v=.aX [.agg [L,V],.int .i64 e]/\UnM H H' u L V m U M
set_option maxRecDepth 100000 in
theorem zic(hG:zd7 tb)(hC:∀ar,cM tb 54 ar=zI.sp ar)(hL:zd0 (ay pls tb) 36)(p:Pr)(hz:p.sz<2^34)(hok:fx p=0->Gj p n){u:Un}(h:rX p n=some (u,e))(H:Hp):
 aM prog (ay pls tb) 36 [.agg p.cells] H (fun v H'=>TD H H' u e v):=by
 have hw:=hL;have hkeep:(ay pls tb).keep 36=false:=rfl;have hchk:∀H,aM prog (ay pls tb) 54 [.agg p.cells] H fun v H'=>v=.int .i64 (fx p)/\H'=H:=fun H=>bZ (enc:=fD) (ok:=fun p=>p.sz<2^36) (out:=fun p=>.int .i64 (fx p)) pH (x:=p) (hC _) ac;have hpz:p.sz=1+eV p.aa+fg p.funcs:=rfl;have hla:=mC p.aa;have hlf:=nX p.funcs;have bUn0:dU prog 37 []=some (.agg [.ak,.ak]):=aB;unfold rX at h;by_cases hc:fx p=0
 .rw[ah hc]at h;have hok:=hok hc;obtain⟨I,O,aa,ra,na,qa⟩:=Ta ((H.alloc (.cells p.cells 0 true)).alloc qi) p.aa ac;obtain⟨ha1,ha2⟩:=ra.one;have bUn:dU prog 37 [(0,I)]=some (.agg [I,.ak]):=by
   rcases ra with⟨rfl,_⟩|⟨q,im,rows,rfl,_⟩<;>kernel_rfl
  have na3:H.next+3<=O.next:=na
  have hax:p.aa≠[]->∃q,I=.sl q 0 p.aa.length 2/\H.next+2<=q/\q<O.next/\O.get q=some (.cells (p.aa.map Ar.cells).flatten 0 true):=fun hne=>by
   obtain⟨U,b1,b2,b3⟩:=zib ((H.alloc (.cells p.cells 0 true)).alloc qi) p.aa ac hne;rw[aa,aI,iJ]at b1;obtain⟨rfl,rfl⟩:=b1;simp only[aZ]at b2 b3⊢;exact⟨_,rfl,ac,ac,b3⟩
  have q0:O.get H.next=some (.cells p.cells 0 true):=by rw[qa _ dG,aD,af dG,aD,ah rfl]
  have qo:∀k,k<H.next->O.get k=H.get k:=fun k Z=>by rw[qa _ dG,aD,af dG,aD,af ac]
  have q1:O.get (H.next+1)=some qi:=by rw[qa _ dG,aD,ah eN]
  have ra':eC (fun k=>H.next+2<=k/\k<O.next) 1 O 2 I (p.aa.map Ar.cells):=ra.keep (fun k h1 h2=>⟨h2,h1⟩) (aH _) fun _ _ _=>rfl;have bA0:et prog ((H.alloc (.cells p.cells 0 true)).alloc qi) 22 0 []=some (.sl (H.next+2) 0 0 2,((H.alloc (.cells p.cells 0 true)).alloc qi).alloc qh):=aB;refine a0 (M:=144) (rs:=[.cell 2 37,.tmp 3]) (hw.call _) hw.aG hw.az func36 rfl rfl wr.2 rfl ?_;dsimp only[wr,aW,Nat.reduceAdd];have aa':cX prog false (((H.alloc (.cells p.cells 0 true)).alloc qi).alloc qh) 22 22 (.sl (H.next+2) 0 0 2) (.aE (p.aa.map Ar.cells))=some (I,O):=aa;repeat' (first
   |(apply aj ?_;clear hK K)|apply aQ ?_|(apply ch ?_;first|refine Rx.k (hchk _) ?_)|(apply aV ?_ ?_<;>(intro hb hbp;try(cases hb;done)))|(apply ak fun K hK=>?_)|fail)
  clear aa aa' qa ra na bA0;have gs:∀k,k<O.next->((O.alloc qi).set O.next (.cells [I,.ak] 0 true)).get k=O.get k:=fun k Z=>sD
  have hfl:lj p n (p.funcs.drop 0) []=some (u,e):=h;refine bY [1,2,5] [] 6 p.funcs.length (fun i E C=>∃gs fv pt lvs,lj p n (p.funcs.drop i) gs=some (u,e)/\C.get H.next=some (.cells p.cells 0 true)/\C.get (H.next+1)=some qi/\C.get O.next=some (.cells [I,fv] 0 true)/\FsM (O.next+1) C fv gs pt lvs/\SmM O.next O C/\gs.length=i) eE ⟨[],.ak,fun _=>0,[],hfl,by rw[gs _ ac];exact q0,by rw[gs _ ac];exact q1,gC,.nil,⟨fun k Z=>gs k Z⟩,rfl⟩ ?_;clear gs hfl h q0 q1;rintro i5 E5 C hk5 hcE hrH hnH hsI ⟨gs,fv,pt,lvs,hJ,g0,g1,g7,rf,hsm,hgl⟩;(try simp only[bq,aT,aN,aG,aR,Nat.reduceBEq, *]at hcE);(try simp only[aT,aR, *]at hrH);(try simp only[aZ,br,]at hnH);have nk:O.next+1<=C.next:=ac
  obtain⟨hf1,hf2⟩:=rf.one;by_cases hlt:i5<p.funcs.length
  .have hlt':(i5:Int)<p.funcs.length:=by omega
   have hgx:p.funcs[i5]?=some p.funcs[i5]:=aL hlt;have hmem:=cB hlt;have hfsz:=nY hmem;have hcx:=fun b nv=>Ty hz hmem b nv;rw[ft hlt]at hJ;unfold lj at hJ;obtain⟨s,v,e1,e2,hF⟩:=hok _ hmem;generalize p.funcs[i5]=f at *;have hfn:jE p n f=some ⟨f.name,f.params.length,v.2.l,v.1,v.2.ab⟩:=Tc;rw[hfn]at hJ;simp only[cy]at hJ;have hsz:f.sz=1+f.name.length+dB f.params+dB f.ao+bH f.body+f.value.sz:=rfl;have hpl:=jR f.params;have hll:=jR f.ao;have hFs:Fin s:=hF.le (eO _ n _ _ _ e2).le;have hFst:Fin (ja f):=hFs.le ((mH _ n).2.1 _ _ _ e1).1;have hst:ja f=jn f.ao.length (gg f.params.length 0 { (ai ⟨26,0,[]⟩ ⟨[],[],0,0⟩).2 with ab:=(ai ⟨26,0,[]⟩ ⟨[],[],0,0⟩).1}):=rfl;generalize hs0:({ (ai ⟨26,0,[]⟩ ⟨[],[],0,0⟩).2 with ab:=(ai ⟨26,0,[]⟩ ⟨[],[],0,0⟩).1}:Bd)=s0 at *;have hv0:s0.vars.length=0:=by rw[<-hs0];rfl
   have hF1:Fin (gg f.params.length 0 s0):=by rw[hst]at hFst;exact hFst.le (x6 _ _).1
   have hv1:(gg f.params.length 0 s0).vars.length=f.params.length:=by rw[(x5 _ _ _).2,hv0];omega
   have hF0:Fin s0:=hF1.le (x5 _ _ _).1;have hFe:Fin (ai ⟨26,0,[]⟩ ⟨[],[],0,0⟩).2:=by rw[<-hs0]at hF0;exact⟨hF0.r,hF0.l,hF0.n⟩
   have hvst:(ja f).vars.length<2^36:=by rw[hst,(x6 _ _).2,hv1];omega
   have nB:=Tz p;have g0m:∀b0 c0,((C.alloc b0).set C.next c0).get H.next=some (.cells p.cells 0 true):=fun b0 c0=>Tn
   repeat' (first
    |(apply aj ?_;clear hK K)|apply aQ ?_|(apply aV ?_ ?_<;>(intro hb hbp;try(cases hb;done)))|(apply ak fun K hK=>?_)|fail)
   refine qd ?_;generalize hHb:Hp.alloc (Hp.set (C.alloc _) _ (.cells f.cells 0 true)) _=U;have nb:U.next=C.next+2:=by rw[<-hHb];rfl
   have old:∀k,k<C.next->U.get k=C.get k:=fun k Z=>To
   have gfb:U.get C.next=some (.cells f.cells 0 true):=Tp
   have gbb:U.get (C.next+1)=some (.cells [.aE (p.aa.map Ar.cells),.aE (p.funcs.map Fu.cells),.ak,.ak,.ak,.int .i64 0,.int .i64 0] 0 true):=Kx;clear hHb g0m nB;have R1:zd1 (Qx.mk p (C.next+1) .ak []) U (fun _=>False) ⟨[],[],0,0⟩ .ak .ak:=
    ⟨gbb,.inl ⟨rfl,rfl⟩,.inl ⟨rfl,rfl⟩,.inl ⟨rfl,rfl⟩,by show C.next+1<U.next;omega,fun _ h=>(sJ h).elim,fun _ h=>h.elim,fun _ h=>(sJ h).elim⟩
   have N1:FrM (C.next+1) U (fun _=>False) .ak .ak U:=⟨aH _,fun _ _ _=>rfl,fun _ h=>h.elim,fun _ h=>(sJ h).elim,fun _ h=>(sJ h).elim⟩;have gA:∀{S:Nat->Prop}{vv nv:AV}{H':Hp},FrM (C.next+1) U S vv nv H'->H'.get C.next=some (.cells f.cells 0 true):=fun h=>by
    rw[h.get _ ac ac];exact gfb
   refine aY ?_ (pT hG R1 26 0 hFe);rintro w H2 ⟨rfl,S2,lv2,R2,F2⟩;have m2:=R2.m;obtain⟨R3,F3⟩:=R2.setS (ai ⟨26,0,[]⟩ ⟨[],[],0,0⟩).1;have N3:FrM (C.next+1) U S2 .ak .ak _:=o0 (X:=Qx.mk p (C.next+1) .ak []) N1 (F2.trans F3);have n2:U.next<=H2.next:=F2.next
   clear R1 R2 F2 F3 N1 gbb;have g3:=gA N3;dsimp only[bI]at m2 R3 N3 g3;dsimp only[aU];refine eh ?_;refine bY [1,2,5,6,7,8] [] 9 f.params.length (fun i E Hi=>∃si Si lvi vvi nvi,gg (f.params.length-i) i si=gg f.params.length 0 s0/\si.vars.length=i/\zd1 (Qx.mk p (C.next+1) nvi (f.params.take i)) Hi Si si lvi vvi/\FrM (C.next+1) U Si vvi nvi Hi) eE ⟨s0,S2,lv2,.ak,.ak,rfl,hv0,by rw[vM,<-hs0];exact R3,N3⟩ ?_;clear R3 N3 m2 g3;rintro i E Hi hi hcE hrH hnH hsI ⟨si,Si,lvi,vvi,nvi,J,hvi,Ri,Ni⟩;(try simp only[bq,aT,aN,aG,aR,Nat.reduceBEq, *]at hcE);(try simp only[aT,aR, *]at hrH);(try simp only[br,]at hnH);have ni:U.next<=Hi.next:=Ni.next
   have gi:=gA Ni;by_cases hlt2:i<f.params.length
   .have hlt2':(i:Int)<f.params.length:=by omega
    have hgx2:f.params[i]?=some f.params[i]:=aL hlt2;obtain⟨k,Z⟩:∃k,f.params.length-i=k+1:=⟨f.params.length-i-1,ac⟩;have hk2:f.params.length-(i+1)=k:=ac;have hne:f.params.take (i+1)=f.params.take i++[f.params[i]]:=by rw[sd,hgx2];rfl
    have htl:(f.params.take i).length<2^36:=td;rw[Z]at J;rw[hk2,hne];have J:gg k (i+1) { (ai ⟨2,i,[]⟩ si).2 with vars:=(ai ⟨2,i,[]⟩ si).2.vars++[(ai ⟨2,i,[]⟩ si).1] }=gg f.params.length 0 s0:=J;have hFx:Fin (ai ⟨2,i,[]⟩ si).2:=hF1.le Td;generalize f.params[i]=nm at *;obtain⟨v4,H4,a4,ho1,ho2,m4,n4,q4,gn4,R5,own4⟩:=Ri.ce nm htl;have mi:=Ri.m;have mia:=(Ri.alloc (.cells [.aq nm] 0 true)).m;have m5:=R5.m;have gia:(Hi.alloc (.cells [.aq nm] 0 true)).get C.next=some (.cells f.cells 0 true):=by rw[aD,af ac];exact gi
    have g4:H4.get C.next=some (.cells f.cells 0 true):=by
     rw[q4 _ ac fun e=>Gv];exact gi
    have N5:FrM (C.next+1) U Si vvi v4 (H4.set (C.next+1) (.cells (bI (Qx.nx (Qx.mk p (C.next+1) nvi (f.params.take i)) v4 (f.params.take i++[nm])) si lvi vvi) 0 true)):=⟨eg,fun k h1 h2=>by
     rw[aA,af h2,q4 k ac fun e=>Gv];exact Ni.get k h1 h2,Ni.sub,Ni.own,fun k Z=>by
     rcases own4 k Z with e|e
     .exact Ni.dE k e
     .omega⟩
    have g5:=gA N5;dsimp only[bI,Qx.nx]at mi mia m4 m5 R5 N5 g5 a4;clear Ri Ni own4 q4;repeat' (first
     |(apply aj ?_;clear hK K)|apply aQ ?_|(apply aV ?_ ?_<;>(intro hb hbp;try(cases hb;done)))|(apply ak fun K hK=>?_)|(apply da 14 [(4,11),(6,11),(9,11),(10,11)] fun K hK=>?_)|(apply da 15 [(4,7),(4,9),(8,9)] fun K hK=>?_)|(apply ce ?_;try intro _)|(apply di ?_ ?_<;>clear hK K)|fail)
    .exact bN
    .refine qe ?_;refine aY ?_ (pT (X:=Qx.mk p (C.next+1) v4 (f.params.take i++[nm])) hG R5 2 i hFx);generalize hpu:ai ⟨2,i,[]⟩ si=pu at *;have hpv:pu.2.vars.length=i:=by rw[<-hpu];exact hvi
     rintro w H6 ⟨rfl,S6,lv6,R6,F6⟩;have m6:=R6.m;have n6:=F6.next
     obtain⟨v7,H7,a7,hv71,hv72,m7,n7,q7,R7,F7⟩:=R6.cu pu.1 ac;have N6:FrM (C.next+1) U S6 vvi v4 H6:=o0 (X:=Qx.mk p (C.next+1) v4 (f.params.take i++[nm])) N5 F6;have N7:FrM (C.next+1) U S6 v7 v4 _:=o0 (X:=Qx.mk p (C.next+1) v4 (f.params.take i++[nm])) N6 F7;have m6a:=(R6.alloc (.cells [.int .i64 pu.1] 0 true)).m;simp only[br]at n6;have n67:Hi.next<=H7.next:=ac
     have z:(pu.2.vars++[pu.1]).length=i+1:=Gw;clear hpv hvi R6 F6 F7 hpu N6;dsimp only[bI]at m6 m7 m6a R7 N7;dsimp only[aU];repeat' (first
      |(apply aj ?_;clear hK K)|apply aO ?_|(apply ak fun K hK=>?_)|(apply ce ?_;try intro _)|(apply di ?_ ?_<;>clear hK K)|fail)
     .exact bN
     .refine⟨ac,aK,aK,bG,Tq,?_⟩;exact⟨_,S6,lv6,v7,v4,J,z,R7,N7⟩
   .have hlt2':¬(i:Int)<f.params.length:=by omega
    have Z:f.params.length-i=0:=ac;have hti:f.params.take i=f.params:=fI ac;rw[Z]at J;rw[hti]at Ri;have J:si=gg f.params.length 0 s0:=J;rw[J]at Ri;rw[<-J]at hst;rw[J]at hst;clear Z hti J hvi;refine fy (fun hb hbp=>?_);generalize hs1:gg f.params.length 0 s0=s1 at *;refine bY [1,2,5,6,7,8] [] 10 f.ao.length (fun j E Hj=>∃sj Sj lvj vvj L,jn (f.ao.length-j) sj=jn f.ao.length s1/\sj.vars.length=f.params.length+j/\zd1 (Qx.mk p (C.next+1) L (f.params++f.ao.take j)) Hj Sj sj lvj vvj/\FrM (C.next+1) U Sj vvj L Hj) eE ⟨s1,Si,lvi,vvi,nvi,rfl,hv1,Te,Ni⟩ ?_;clear Ri Ni gi;rintro j E3 Hj hj hcE hrH hnH hsI ⟨sj,Sj,lvj,vvj,L,J,hvj,Rj,Nj⟩;(try simp only[bq,aT,aN,aG,Nat.reduceBEq, *]at hcE);(try simp only[aT, *]at hrH);(try simp only[aZ,br,bX,bK,Nat.reduceAdd]at hnH);have nj:U.next<=Hj.next:=Nj.next
    have gj:=gA Nj;by_cases hlt3:j<f.ao.length
    .have hlt3':(j:Int)<f.ao.length:=by omega
     have hgx2:f.ao[j]?=some f.ao[j]:=aL hlt3;obtain⟨k,Z⟩:∃k,f.ao.length-j=k+1:=⟨f.ao.length-j-1,ac⟩;have hk2:f.ao.length-(j+1)=k:=ac;have hne:f.params++f.ao.take (j+1)=(f.params++f.ao.take j)++[f.ao[j]]:=Tf;have htl:(f.params++f.ao.take j).length<2^36:=Tg;rw[Z]at J;rw[hk2,hne];have J:jn k { (ai ⟨1,0,[]⟩ sj).2 with vars:=(ai ⟨1,0,[]⟩ sj).2.vars++[(ai ⟨1,0,[]⟩ sj).1] }=jn f.ao.length s1:=J;have hFx:Fin (ai ⟨1,0,[]⟩ sj).2:=hFst.le Th;generalize f.ao[j]=nm at *;generalize hNs:f.params++f.ao.take j=Ns at *;obtain⟨v4,H4,a4,ho1,ho2,m4,n4,q4,gn4,R5,own4⟩:=Rj.ce nm htl;have mi:=Rj.m;have mia:=(Rj.alloc (.cells [.aq nm] 0 true)).m;have m5:=R5.m;have gia:(Hj.alloc (.cells [.aq nm] 0 true)).get C.next=some (.cells f.cells 0 true):=by rw[aD,af ac];exact gj
     have g4:H4.get C.next=some (.cells f.cells 0 true):=by
      rw[q4 _ ac fun e=>Gx];exact gj
     have N5:FrM (C.next+1) U Sj vvj v4 (H4.set (C.next+1) (.cells (bI (Qx.nx (Qx.mk p (C.next+1) L Ns) v4 (Ns++[nm])) sj lvj vvj) 0 true)):=⟨eg,fun k h1 h2=>by
      rw[aA,af h2,q4 k ac fun e=>Gx];exact Nj.get k h1 h2,Nj.sub,Nj.own,fun k Z=>by
      rcases own4 k Z with e|e
      .exact Nj.dE k e
      .omega⟩
     have g5:=gA N5;dsimp only[bI,Qx.nx]at mi mia m4 m5 R5 N5 g5 a4;clear Rj Nj own4 q4 hNs hne;repeat' (first
      |(apply aj ?_;clear hK K)|apply aQ ?_|(apply aV ?_ ?_<;>(intro hb hbp;try(cases hb;done)))|(apply ak fun K hK=>?_)|(apply da 19 [(4,11),(6,11),(9,11),(10,11)] fun K hK=>?_)|(apply da 20 [(4,6),(4,8),(7,8)] fun K hK=>?_)|(apply ce ?_;try intro _)|(apply di ?_ ?_<;>clear hK K)|fail)
     .exact bN
     .refine qe ?_;refine aY ?_ (pT (X:=Qx.mk p (C.next+1) v4 (Ns++[nm])) hG R5 1 0 hFx);generalize hpu:ai ⟨1,0,[]⟩ sj=pu at *;have hpv:pu.2.vars.length=f.params.length+j:=by rw[<-hpu];exact hvj
      rintro w H6 ⟨rfl,S6,lv6,R6,F6⟩;have m6:=R6.m;have n6:=F6.next
      obtain⟨v7,H7,a7,hv71,hv72,m7,n7,q7,R7,F7⟩:=R6.cu pu.1 ac;have N6:FrM (C.next+1) U S6 vvj v4 H6:=o0 (X:=Qx.mk p (C.next+1) v4 (Ns++[nm])) N5 F6;have N7:FrM (C.next+1) U S6 v7 v4 _:=o0 (X:=Qx.mk p (C.next+1) v4 (Ns++[nm])) N6 F7;have m6a:=(R6.alloc (.cells [.int .i64 pu.1] 0 true)).m;simp only[br]at n6;have n67:Hj.next<=H7.next:=ac
      have z:(pu.2.vars++[pu.1]).length=f.params.length+(j+1):=Gw;clear hpv hvj R6 F6 F7 hpu N6;dsimp only[bI]at m6 m7 m6a R7 N7;dsimp only[aU];repeat' (first
       |(apply aj ?_;clear hK K)|apply aO ?_|(apply ak fun K hK=>?_)|(apply ce ?_;try intro _)|(apply di ?_ ?_<;>clear hK K)|fail)
      .exact bN
      .refine⟨ac,aK,aK,bG,Tr,?_⟩;exact⟨_,S6,lv6,v7,v4,J,z,R7,N7⟩
    .have hlt3':¬(j:Int)<f.ao.length:=by omega
     have Z:f.ao.length-j=0:=ac;have htj:f.ao.take j=f.ao:=fI ac;rw[Z]at J;rw[htj]at Rj;have J:sj=jn f.ao.length s1:=J;rw[J,<-hst]at Rj;clear Z htj J hvj;have hX:=hcx (C.next+1) L;repeat' (first
      |(apply aj ?_;clear hK K)|apply aQ ?_|(apply aV ?_ ?_<;>(intro hb hbp;try(cases hb;done)))|(apply ak fun K hK=>?_)|fail)
     refine qd ?_;refine aY ?_ (KP (X:=Qx.mk p (C.next+1) L (f.params++f.ao)) hG hX (n+1) n (cC n) f.body (ja f) s e1 hFs ac hvst Rj);rintro w H6 ⟨S6,lv6,vv6,R6,F6⟩;have N6:FrM (C.next+1) U S6 vv6 L H6:=o0 (X:=Qx.mk p (C.next+1) L (f.params++f.ao)) Nj F6;have g6:=gA N6;clear Rj Nj F6 gj;dsimp only[aU];refine dY fun K hK=>?_;refine qd ?_;refine aY ?_ (sO (X:=Qx.mk p (C.next+1) L (f.params++f.ao)) hG hX n f.value s v e2 hF R6);rintro w H7 ⟨rfl,S7,V,R7,F7⟩;have N7:FrM (C.next+1) U S7 vv6 L H7:=o0 (X:=Qx.mk p (C.next+1) L (f.params++f.ao)) N6 F7;have gg7:=gA N7;have m7:=R7.m;have nd7:=R7.ag;obtain⟨hl1,hl2⟩:=nd7.one;have n7:U.next<=H7.next:=N7.next
     have g:∀k,k<C.next->H7.get k=C.get k:=fun k Z=>by rw[N7.get k ac ac,old k Z]
     have s7:=N7.sub;have z:∀H',ij prog H' 42 V=some (.int .i64 v.2.l.length):=fun H'=>by
      have:=nd7.len (P:=prog) (t:=42) (H':=H') underlying42
      rwa [cN]at this
     dsimp only[bI]at m7;clear R6 R7 N6 N7 F7 g6 gA;dsimp only[aU];by_cases hbig:(2000:Int)<v.2.l.length
     .rw[ah hbig]at hJ;simp only[cT]at hJ;obtain⟨rfl,rfl⟩:=hJ;have g1a:H7.get (H.next+1)=some qi:=by rw[g _ ac];exact g1
      have ag0:cI 2 [.ak,.ak]=some (.agg [.ak,.ak]):=rfl;refine fy (fun hb hbp=>?_);refine⟨aq,_,(by(try simp only[aG,aR,Nat.reduceBEq,tyF,cL,cY, *]);first|done|with_reducible rfl),?_⟩;try simp only[am]
      exact⟨_,_,_,_,_,rfl,.nil eg fun k Z=>by rw[aA,af ac,g _ ac,hsm.get k ac];exact qo k Z⟩
     .rw[af hbig]at hJ;have hone:([.aq f.name,.int .i64 f.params.length,V,.int .i64 v.1,.int .i64 v.2.ab]:qt).all AV.one=true:=Ti;have bGr:dU prog 44 [(0,.aq f.name),(1,.int .i64 f.params.length),(2,V),(3,.int .i64 v.1),(4,.int .i64 v.2.ab)]=some (.agg [.aq f.name,.int .i64 f.params.length,V,.int .i64 v.1,.int .i64 v.2.ab]):=by
       rcases nd7 with⟨rfl,_⟩|⟨q,im,rows,rfl,_⟩<;>kernel_rfl
      have hbs:=fun H=>SH H (cs:=[.aq f.name,.int .i64 f.params.length,V,.int .i64 v.1,.int .i64 v.2.ab]) rfl hone;have g77:H7.get O.next=some (.cells [I,fv] 0 true):=by rw[g _ ac];exact g7
      have hfq:∀k o m z',fv=.sl k o m z'->k<C.next/\O.next<k:=fun k o m z' e=>by
       rcases rf.own with⟨h1,_⟩|⟨q,h1,h2,h3,_⟩
       .rw[h1]at e;cases e
       .rw[h1]at e;simp only[AV.sl.injEq]at e;rw[<-e.1];exact⟨h3,h2⟩
      have Y:∀k,k<H7.next->(H7.alloc (.cells [.aq f.name,.int .i64 f.params.length,V,.int .i64 v.1,.int .i64 v.2.ab] 0 true)).get k=H7.get k:=fun k Z=>fq
      obtain⟨H9,a9,n9,q9,IV,r9⟩:=rf.push (H7:=H7) ac (fun k h1 h2=>g k h2) (Gr.mk f.name f.params.length v.2.l v.1 v.2.ab) nd7 (fun k Z=>by have:=s7 k Z;omega) ac ac;dsimp only[lw]at a9 q9;have old9:∀k,k<C.next->(∀o m z',fv≠.sl k o m z')->H9.get k=C.get k:=fun k h1 h2=>by rw[q9 k ac h2,Y k ac,g k h1]
      have hlow:∀k,k<=O.next->∀o m z',fv≠.sl k o m z':=fun k Z o m z' e=>by have:=(hfq k o m z' e).2;omega
      have hhigh:∀k,C.next<=k->∀o m z',fv≠.sl k o m z':=fun k Z o m z' e=>by have:=(hfq k o m z' e).1;omega
      have g79:H9.get O.next=some (.cells [I,fv] 0 true):=Ts
      have gf9:H9.get C.next=some (.cells f.cells 0 true):=by rw[q9 _ ac (hhigh _ (aH _)),Y _ ac];exact gg7
      have m9:H9.get (C.next+1)=some (.cells [.aE (p.aa.map Ar.cells),.aE (p.funcs.map Fu.cells),V,L,vv6,.int .i64 v.2.ab,.int .i64 v.2.loops] 0 true):=by rw[q9 _ ac (hhigh _ ac),Y _ ac];exact m7
      have gf8:(H7.alloc (.cells [.aq f.name,.int .i64 f.params.length,V,.int .i64 v.1,.int .i64 v.2.ab] 0 true)).get C.next=some (.cells f.cells 0 true):=by rw[Y _ ac];exact gg7
      have m8:(H7.alloc (.cells [.aq f.name,.int .i64 f.params.length,V,.int .i64 v.1,.int .i64 v.2.ab] 0 true)).get (C.next+1)=some (.cells [.aE (p.aa.map Ar.cells),.aE (p.funcs.map Fu.cells),V,L,vv6,.int .i64 v.2.ab,.int .i64 v.2.loops] 0 true):=by rw[Y _ ac];exact m7
      have g78:(H7.alloc (.cells [.aq f.name,.int .i64 f.params.length,V,.int .i64 v.1,.int .i64 v.2.ab] 0 true)).get O.next=some (.cells [I,fv] 0 true):=by rw[Y _ ac];exact g77
      have hJ':lj p n (p.funcs.drop (i5+1)) (gs++[Gr.mk f.name f.params.length v.2.l v.1 v.2.ab])=some (u,e):=hJ;have old9':∀k,k<O.next->H9.get k=C.get k:=fun k Z=>old9 k ac (hlow k ac)
      clear Y old9 hlow hhigh hfq g q9 hJ nd7 old;repeat' (first
       |(apply aj ?_;clear hK K)|apply aQ ?_|(apply aV ?_ ?_<;>(intro hb hbp;try(cases hb;done)))|(apply ak fun K hK=>?_)|(apply da 25 [(1,18),(3,18),(5,18),(6,18),(10,18),(15,18),(17,18)] fun K hK=>?_)|(apply ce ?_;try intro _)|(apply di ?_ ?_<;>clear hK K)|fail)
      .exact bN
      .refine⟨ac,aK,aK,bG,pA,?_⟩;have hs9:∀m k,k≠O.next->(H9.set O.next m).get k=H9.get k:=fun m k Z=>by rw[aA,af Z]
       refine⟨gs++[Gr.mk f.name f.params.length v.2.l v.1 v.2.ab],.sl (H7.next+1) 0 (gs.length+1) 5,IV,lvs++[V],hJ',Tt,Tu,by rw[aA,ah rfl,hgl],?_,⟨fun k h2=>by rw[hs9 _ _ ac,old9' _ ac];exact hsm.get k h2⟩,by rw[fB,hgl];rfl⟩;exact r9.keep (aH _) (aH _) fun k Z _=>hs9 _ k ac
  .have hlt':¬(i5:Int)<p.funcs.length:=by omega
   have hd:p.funcs.drop i5=[]:=ny ac;rw[hd]at hJ;simp only[lj,cT]at hJ;obtain⟨rfl,rfl⟩:=hJ;have ag:cI 2 [I,fv]=some (.agg [I,fv]):=rfl;have rd1:=ra'.keep (S':=fun k=>H.next<=k/\k<O.next+1) (H':=C.set (H.next+1) (.cells [I,fv] 0 true)) (fun _ _ h=>⟨ac,ac⟩) eg fun k Z _=>by rw[aA,af ac];exact hsm.get k Z.2
   have rd2:=rf.keep (lo':=O.next+1) (H':=C.set (H.next+1) (.cells [I,fv] 0 true)) (aH _) eg fun k Z _=>jU;have hax2:p.aa≠[]->∃q,I=.sl q 0 p.aa.length 2/\H.next<=q/\q<O.next+1/\q<(C.set (H.next+1) (.cells [I,fv] 0 true)).next/\(C.set (H.next+1) (.cells [I,fv] 0 true)).get q=some (.cells (p.aa.map Ar.cells).flatten 0 true):=fun hne=>by
    obtain⟨q,b1,b2,b3,b4⟩:=hax hne;have b5:q≠H.next+1:=ac
    exact⟨q,b1,ac,ac,eg,by rw[aA,af b5,hsm.get q b3];exact b4⟩
   have fin:TD H (C.set (H.next+1) (.cells [I,fv] 0 true)) ⟨p.aa,gs⟩ 0 (.aX [.agg [I,fv],.int .i64 0]):=⟨_,_,O.next+1,pt,lvs,rfl,rd1,rd2,hax2,ac,eg,fun k Z=>by rw[aA,af ac,hsm.get k ac];exact qo k Z⟩;clear rd1 rd2;refine fy (fun hb hbp=>?_);refine⟨aq,_,(by(try simp only[aG,aR,Nat.reduceBEq,tyF,cL,cY, *]);first|done|with_reducible rfl),?_⟩;try simp only[am]
   exact fin
 .rw[af hc,aI,iJ]at h;obtain⟨rfl,rfl⟩:=h;refine a0 (M:=144) (rs:=[.cell 2 37,.tmp 3]) (hw.call _) hw.aG hw.az func36 rfl rfl wr.2 rfl ?_;dsimp only[wr,aW,Nat.reduceAdd];repeat' (first
   |(apply aj ?_;clear hK K)|apply aQ ?_|(apply ch ?_;first|refine Rx.k (hchk _) ?_)|(apply aV ?_ ?_<;>(intro hb hbp;try(cases hb;done)))|(apply ak fun K hK=>?_)|fail)
  have ag0:cI 2 [.ak,.ak]=some (.agg [.ak,.ak]):=rfl;refine⟨aq,_,(by(try simp only[aG,aR,Nat.reduceBEq,tyF,cL,cY, *]);first|done|with_reducible rfl),?_⟩;try simp only[am]
  exact⟨_,_,_,_,_,rfl,.nil iU fun k Z=>by simp only[aA,aD,aZ];repeat' rw[af ac]⟩
end
section
def tyV6.tyF:=ad @ec (ad @cA (ad @dw (ad @gQ (ad @eZ (ad @rB (ad @rC (ad @fX (ad @tk (ad @jB (ad @NQ (@NU)))))))))))
open tyV6
noncomputable def GB:{c:SC // aC 114 (f39.body.getD .skip)=c}:=by
 refine⟨?_,?_⟩;rotate_left
 .simp only[f39,bz,aC,bw,bt,bA,bB,Nat.blt,Nat.ble];rfl
def zJ{n:Nd}(I:l[i]?=some n)(h:cR l i≠0):zli n i/\(n.op=30->0<=n.aF/\n.aF<=7)/\By n:=by
 have C:i<l.length:=by
  by_cases c:i<l.length
  .exact c
  .rw[gV ac]at I;cases I
 have U:=h;rw[xD C]at h;obtain⟨s,Y,g,Z⟩:=EC I h;have O:=uB Y;have V:=tw Y;have J:n.op=3->0<=n.aF/\n.aF<=255:=fun e=>by
  rw[cq,af ac,af ac,dV,af ac,ah e,cj,kA,kA]at Z;exact Z
 have j:n.op=30->0<=n.aF/\n.aF<=7:=fun e=>by
  rw[cq,af ac,af ac,dV,af ac,af ac,af ac,ah e,cj,kA,kA]at Z;exact Z
 have m:n.op=31->0<=n.aF/\n.aF<=15:=fun e=>by
  rw[cq,af ac,af ac,dV,af ac,af ac,af ac,af ac,ah e,cj,kA,kA]at Z;exact Z
 refine⟨⟨fun k z=>⟨(V k z).1,(V k z).2.1⟩,J,fun e=>?_⟩,j,m,J⟩;have a:bC 31=(-1,true):=aE;rw[e,bR,a]at g;simp only[nO,dD]at g;rw[af ac,ah trivial]at g;simp only[jN]at g;exact⟨(m e).1,(m e).2,ac,ac⟩
def GC(h:i<l.length):(cm l l.length)[i]?=some (cR l i):=by
 have:=ED (l:=l) h (aH _);rw[cQ]at this;have J:i<(cm l l.length).length:=by rw[sw];exact h
 rw[aL J]at this⊢;exact kV some this
def ow(u:Un)(g:Gr)(i:Nat):Bool:=match g.ag[i]? with
 |some n=>decide (cR g.ag i≠0)&&iu u g n
 |none=>true
def eY(l:qy)(i:Int):Nat:=(fO l l.length).getD i.toNat 0
def gh(u:Un)(g:Gr):Bool:=
 (decide (0<=g.params)&&decide (g.params<=6)&&decide ((g.ag.length:Int)<=2000))&&((List.range g.ag.length).all (ow u g)) &&
 (nD g.ag&&jW g.ag&&decide (0<=g.value)&&decide (g.value<g.ag.length)&&decide (0<=g.ab)&&decide (g.ab<g.ag.length)) &&
 (decide (cR g.ag g.value=1)&&decide (cR g.ag g.ab=2)&&decide (eY g.ag g.value=0)&&decide (eY g.ag g.ab=0))
noncomputable def TE:En:=⟨75,false,bQ JW xM fun x=>.bool (iu x.u x.g x.n)⟩
def zid:co prog ρ TE:=cz fun x z=>zdS ρ x z
noncomputable def TF:En:=⟨76,false,bQ gZ og fun l=>.bool (nD l)⟩
def zie:co prog ρ TF:=cz fun l J=>zfh ρ l J
noncomputable def TG:En:=⟨77,false,bQ (fun l=>gZ l/\∀n∈l,By n) og fun l=>.bool (jW l)⟩
def zif:co prog ρ TG:=cz fun l J=>zdQ ρ l J.1 J.2
noncomputable def TH:En:=⟨78,false,bQ xN og fun l=>E8 (fO l l.length)⟩
def zig:co prog ρ TH:=cz fun l J=>zdZ ρ l J
noncomputable def ye:qB:=[JV,TE,TF,TG,TH]
def zih:eU prog ρ ye:=⟨zdL ρ,zid ρ,zie ρ,zif ρ,zig ρ,trivial⟩
structure VgX where
 u:Un
 g:Gr
def sP(x:VgX):qt:=[.agg x.u.cells,.agg x.g.cells]
def TI(x y:VgX)(h:sP x=sP y):x=y:=by
 obtain⟨a,b⟩:=x;obtain⟨Z,U⟩:=y;simp only[sP,dN,AV.agg.injEq,aN]at h;rw[Un.inj h.1,Gr.inj h.2]
def GD(x:VgX):Prop:=gZ x.g.ag/\x.u.aa.length<2^30/\x.u.funcs.length<2^30
theorem TJ(h:i<l.length):((fO l l.length).map fun(m:Nat)=>[AV.int .u32 (m:Int)])[i]?=some [.int .u32 ((eY l i:Nat):Int)]:=by
 have J:i<(fO l l.length).length:=by rw[vP];exact h
 rw[eu,eY,fK,cQ,aL J];rfl
set_option maxRecDepth 100000 in
theorem zii(x:VgX)(hx:GD x):bF prog ρ 39 (sP x) (.bool (gh x.u x.g)):=dE fit (pls:=pls) (zih ρ) (.cons (.agg (xu _)) (.cons (.agg (Gr.pure _)) .nil)) (.bool _) (by
 obtain⟨u,g⟩:=x;obtain⟨Y,hua,huf⟩:=hx;have hw:zd0 (ay pls ye) 39:=db (fun _=>rfl) rfl;rw[sP];simp only[]at Y hua huf⊢;have hnl:=Y.1;have ks:∀H,aM prog (ay pls ye) 74 [dR g.ag] H fun v H'=>v=dJ (cm g.ag g.ag.length)/\H'=H:=fun H=>zdM (fun _=>rfl) _ Y H;by_cases c1:0<=g.params/\g.params<=6/\(g.ag.length:Int)<=2000
 .obtain⟨c11,c12,c13⟩:=c1;have d1:¬g.params<0:=ac;have d2:¬(6:Int)<g.params:=ac;have d3:¬(2000:Int)<g.ag.length:=ac;refine a0 (M:=114) (rs:=[.tmp 4]) (hw.call _) hw.aG hw.az func39 rfl rfl GB.2 rfl ?_;dsimp only[GB,aW,Nat.reduceAdd];repeat' (first
   |(apply aj ?_;clear hK K)|apply aQ ?_|(apply ch ?_;first|refine Rx.k (ks _) ?_)|(apply bT ?_ ?_<;>(intro hg hgp;try(cases hg;done)))|(apply aV ?_ ?_<;>(intro hb hbp;try(cases hb;done)))|(apply ak fun K hK=>?_)|fail)
  have J:∀i,i<g.ag.length->ow u g i=false->gh u g=false:=fun i hi h=>by
   have:((List.range g.ag.length).all (ow u g))=false:=by
    rw[KQ];exact⟨i,lF.2 hi,by rw[h];simp⟩
   rw[gh,this];simp
  refine bY [2,3,5,27,28] [0,1] 29 g.ag.length (fun i E H=>∀j,j<i->ow u g j=true) eE (fun j hj=>ac) ?_;rintro i E Hi hi hcE hrH hnH hsI hJ;(try simp only[bq,aT,aN,aG,aR,Nat.reduceBEq, *]at hcE);(try simp only[bq,aT,aN,aG,aR,Nat.reduceBEq, *]at hrH);(try simp only[aZ,bX,bK,Nat.reduceAdd]at hnH);have hB0:(0 == Hi.next)=false:=aX ac;have hC0:(Hi.next == 0)=false:=aX ac;have hB1:(1 == Hi.next)=false:=aX ac;have hC1:(Hi.next == 1)=false:=aX ac;have ni:2<=Hi.next:=hnH
  by_cases C:i<g.ag.length
  .have hlt':(i:Int)<g.ag.length:=by omega
   have hgx:g.ag[i]?=some g.ag[i]:=aL C;have hnk:=Y.2 _ (cB C);have hsg:=GC C;have hsf:=fun h=>zJ hgx (l:=g.ag) (i:=i) h;have z:ow u g i=(decide (cR g.ag i≠0)&&iu u g g.ag[i]):=by rw[ow,hgx]
   have vf:=J i C;clear J;generalize g.ag[i]=n at *;by_cases hs0:cR g.ag i=0
   .have vf2:=vf (by rw[z,hs0];rfl);clear z vf hJ hsf;rw[hs0]at hsg;repeat' (first
     |(apply aj ?_;clear hK K)|apply aQ ?_|(apply bT ?_ ?_<;>(intro hg hgp;try(cases hg;done)))|(apply aV ?_ ?_<;>(intro hb hbp;try(cases hb;done)))|(apply ak fun K hK=>?_)|fail)
    all_goals (refine⟨aq,_,aF,?_⟩;try simp only[am])
    rw[vf2]
   .have V:ow u g i=iu u g n:=by rw[z,dx hs0,el]
    obtain⟨f1,f2,f3⟩:=hsf hs0;have kr:∀H,aM prog (ay pls ye) 75 [.agg u.cells,.agg g.cells,.agg n.cells] H fun v H'=>v=.bool (iu u g n)/\H'=H:=fun H=>bZ (enc:=xM) (ok:=JW) (out:=fun x=>.bool (iu x.u x.g x.n)) zdR (x:=⟨u,g,n⟩) rfl ⟨fun h=>(f2 h).1,hnk,hua,huf⟩;clear z hsf f1 f2 f3;by_cases hr:iu u g n=true
    .repeat' (first
      |(apply aj ?_;clear hK K)|apply aQ ?_|(apply ch ?_;first|refine Rx.k (kr _) ?_)|(apply bT ?_ ?_<;>(intro hg hgp;try(cases hg;done)))|(apply aV ?_ ?_<;>(intro hb hbp;try(cases hb;done)))|(apply ak fun K hK=>?_)|fail)
     refine⟨ac,aK,aK,bG,tO,?_⟩;intro j hj;by_cases e:j=i
     .rw[e,V,hr]
     .exact hJ j ac
    .have hr':iu u g n=false:=by simpa using hr
     have vf2:=vf (by rw[V,hr']);clear vf hJ V;repeat' (first
      |(apply aj ?_;clear hK K)|apply aQ ?_|(apply ch ?_;first|refine Rx.k (kr _) ?_)|(apply bT ?_ ?_<;>(intro hg hgp;try(cases hg;done)))|(apply aV ?_ ?_<;>(intro hb hbp;try(cases hb;done)))|(apply ak fun K hK=>?_)|fail)
     all_goals (refine⟨aq,_,aF,?_⟩;try simp only[am])
     rw[vf2]
  .have hlt':¬(i:Int)<g.ag.length:=by omega
   have U:∀j,j<g.ag.length->ow u g j=true:=fun j hj=>hJ j ac;have L:∀(j:Nat) (n:Nd),g.ag[j]?=some n->cR g.ag j≠0:=fun j n h=>by
    have hj:j<g.ag.length:=by
     by_cases c:j<g.ag.length
     .exact c
     .rw[gV ac]at h;cases h
    have:=U j hj;rw[ow,h,cj,kA]at this;exact this.1
   have hlp:∀n∈g.ag,By n:=fun n hn=>by
    obtain⟨j,hj,e⟩:=ta hn;have h:g.ag[j]?=some n:=Gz;exact(zJ h (L j n h)).2.2
   have hld:xN g.ag:=⟨Y,fun j n h=>(zJ h (L j n h)).1⟩;have O:((List.range g.ag.length).all (ow u g))=true:=gM.2 fun j hj=>U j (lF.1 hj);have hvg:gh u g=((nD g.ag&&jW g.ag&&decide (0<=g.value)&&decide (g.value<g.ag.length)&&decide (0<=g.ab)&&decide (g.ab<g.ag.length)) &&
    (decide (cR g.ag g.value=1)&&decide (cR g.ag g.ab=2)&&decide (eY g.ag g.value=0)&&decide (eY g.ag g.ab=0))):=by
    rw[gh,O,dx c11,dx c12,dx c13];simp
   rw[hvg];clear hvg O U L J hJ;have ka:∀H,aM prog (ay pls ye) 76 [dR g.ag] H fun v H'=>v=.bool (nD g.ag)/\H'=H:=fun H=>bZ (enc:=og) (ok:=gZ) (out:=fun l=>.bool (nD l)) zi (x:=g.ag) rfl Y;have kl:∀H,aM prog (ay pls ye) 77 [dR g.ag] H fun v H'=>v=.bool (jW g.ag)/\H'=H:=fun H=>bZ (enc:=og) (ok:=fun l=>gZ l/\∀n∈l,By n) (out:=fun l=>.bool (jW l)) zi (x:=g.ag) rfl ⟨Y,hlp⟩;have kd:∀H,aM prog (ay pls ye) 78 [dR g.ag] H fun v H'=>v=.aE ((fO g.ag g.ag.length).map fun(m:Nat)=>[AV.int .u32 (m:Int)])/\H'=H:=fun H=>bZ (enc:=og) (ok:=xN) (out:=fun l=>E8 (fO l l.length)) zi (x:=g.ag) rfl hld;have hsl:=sw g.ag g.ag.length;clear hlp hld;generalize hdv:nD g.ag=dv at *;generalize hvv:jW g.ag=vl at *;by_cases cg:dv=true/\vl=true/\0<=g.value/\g.value<g.ag.length/\0<=g.ab/\g.ab<g.ag.length
   .obtain⟨rfl,rfl,v0,v1,s0,s1⟩:=cg;obtain⟨a,ha⟩:=gO v0;obtain⟨b,hb0⟩:=gO s0;have hal:a<g.ag.length:=ac;have hbl:b<g.ag.length:=ac;have q1:=GC hal;have q2:=GC hbl;have q3:=TJ hal;have q4:=TJ hbl;have e1:¬((a:Int)<0):=ac;have e2:¬((g.ag.length:Int)<=a):=ac;have e3:¬((b:Int)<0):=ac;have e4:¬((g.ag.length:Int)<=b):=ac;rw[dx v0,dx v1,dx s0,dx s1];simp only[vn,el];rw[ha,hb0];clear v0 v1 s0 s1;repeat' (first
     |(apply aj ?_;clear hK K)|apply aQ ?_|(apply ch ?_;first|refine Rx.k (ka _) ?_|refine Rx.k (kl _) ?_|refine Rx.k (kd _) ?_)|(apply bT ?_ ?_<;>(intro hg hgp;try(cases hg;done)))|(apply aV ?_ ?_<;>(intro hb hbp;try(cases hb;done)))|(apply ak fun K hK=>?_)|fail)
    all_goals first
     |exact bN
     |skip
    all_goals
     refine⟨aq,_,fN,?_⟩;simp only[am]
    all_goals
     first
     |(congr 1;simp_all[Int.natCast_eq_zero];done)
     |trace_state
   .have Z:∀(b:Bool),¬b=false->b=true:=fun b h=>by simpa using h
    by_cases a1:dv=false
    .have I:((dv&&vl&&decide (0<=g.value)&&decide (g.value<g.ag.length)&&decide (0<=g.ab)&&decide (g.ab<g.ag.length)) &&
     (decide (cR g.ag g.value=1)&&decide (cR g.ag g.ab=2)&&decide (eY g.ag g.value=0)&&decide (eY g.ag g.ab=0)))=false:=by rw[a1];rfl
     rw[I];clear I Z cg;repeat' (first
      |(apply aj ?_;clear hK K)|apply aQ ?_|(apply ch ?_;first|refine Rx.k (ka _) ?_|refine Rx.k (kl _) ?_|refine Rx.k (kd _) ?_)|(apply bT ?_ ?_<;>(intro hg hgp;try(cases hg;done)))|(apply aV ?_ ?_<;>(intro hb hbp;try(cases hb;done)))|(apply ak fun K hK=>?_)|fail)
     all_goals first
      |exact bN
      |skip
     all_goals (refine⟨aq,_,aF,?_⟩;try simp only[am])
    have b1:=Z _ a1;by_cases a2:vl=false
    .have I:((dv&&vl&&decide (0<=g.value)&&decide (g.value<g.ag.length)&&decide (0<=g.ab)&&decide (g.ab<g.ag.length)) &&
     (decide (cR g.ag g.value=1)&&decide (cR g.ag g.ab=2)&&decide (eY g.ag g.value=0)&&decide (eY g.ag g.ab=0)))=false:=by rw[a2];simp
     rw[I];clear I Z cg;repeat' (first
      |(apply aj ?_;clear hK K)|apply aQ ?_|(apply ch ?_;first|refine Rx.k (ka _) ?_|refine Rx.k (kl _) ?_|refine Rx.k (kd _) ?_)|(apply bT ?_ ?_<;>(intro hg hgp;try(cases hg;done)))|(apply aV ?_ ?_<;>(intro hb hbp;try(cases hb;done)))|(apply ak fun K hK=>?_)|fail)
     all_goals first
      |exact bN
      |skip
     all_goals (refine⟨aq,_,aF,?_⟩;try simp only[am])
    have b2:=Z _ a2;by_cases a3:g.value<0
    .have I:((dv&&vl&&decide (0<=g.value)&&decide (g.value<g.ag.length)&&decide (0<=g.ab)&&decide (g.ab<g.ag.length)) &&
     (decide (cR g.ag g.value=1)&&decide (cR g.ag g.ab=2)&&decide (eY g.ag g.value=0)&&decide (eY g.ag g.ab=0)))=false:=by rw[eA (by omega:¬0<=g.value)];simp
     rw[I];clear I Z cg;repeat' (first
      |(apply aj ?_;clear hK K)|apply aQ ?_|(apply ch ?_;first|refine Rx.k (ka _) ?_|refine Rx.k (kl _) ?_|refine Rx.k (kd _) ?_)|(apply bT ?_ ?_<;>(intro hg hgp;try(cases hg;done)))|(apply aV ?_ ?_<;>(intro hb hbp;try(cases hb;done)))|(apply ak fun K hK=>?_)|fail)
     all_goals first
      |exact bN
      |skip
     all_goals (refine⟨aq,_,aF,?_⟩;try simp only[am])
    by_cases a4:(g.ag.length:Int)<=g.value
    .have I:((dv&&vl&&decide (0<=g.value)&&decide (g.value<g.ag.length)&&decide (0<=g.ab)&&decide (g.ab<g.ag.length)) &&
     (decide (cR g.ag g.value=1)&&decide (cR g.ag g.ab=2)&&decide (eY g.ag g.value=0)&&decide (eY g.ag g.ab=0)))=false:=by rw[eA (by omega:¬g.value<g.ag.length)];simp
     rw[I];clear I Z cg;repeat' (first
      |(apply aj ?_;clear hK K)|apply aQ ?_|(apply ch ?_;first|refine Rx.k (ka _) ?_|refine Rx.k (kl _) ?_|refine Rx.k (kd _) ?_)|(apply bT ?_ ?_<;>(intro hg hgp;try(cases hg;done)))|(apply aV ?_ ?_<;>(intro hb hbp;try(cases hb;done)))|(apply ak fun K hK=>?_)|fail)
     all_goals first
      |exact bN
      |skip
     all_goals (refine⟨aq,_,aF,?_⟩;try simp only[am])
    by_cases a5:g.ab<0
    .have I:((dv&&vl&&decide (0<=g.value)&&decide (g.value<g.ag.length)&&decide (0<=g.ab)&&decide (g.ab<g.ag.length)) &&
     (decide (cR g.ag g.value=1)&&decide (cR g.ag g.ab=2)&&decide (eY g.ag g.value=0)&&decide (eY g.ag g.ab=0)))=false:=by rw[eA (by omega:¬0<=g.ab)];simp
     rw[I];clear I Z cg;repeat' (first
      |(apply aj ?_;clear hK K)|apply aQ ?_|(apply ch ?_;first|refine Rx.k (ka _) ?_|refine Rx.k (kl _) ?_|refine Rx.k (kd _) ?_)|(apply bT ?_ ?_<;>(intro hg hgp;try(cases hg;done)))|(apply aV ?_ ?_<;>(intro hb hbp;try(cases hb;done)))|(apply ak fun K hK=>?_)|fail)
     all_goals first
      |exact bN
      |skip
     all_goals (refine⟨aq,_,aF,?_⟩;try simp only[am])
    have a6:(g.ag.length:Int)<=g.ab:=by
     by_cases c:(g.ag.length:Int)<=g.ab
     .exact c
     .exact absurd ⟨b1,b2,ac,ac,ac,ac⟩ cg
    have I:((dv&&vl&&decide (0<=g.value)&&decide (g.value<g.ag.length)&&decide (0<=g.ab)&&decide (g.ab<g.ag.length)) &&
     (decide (cR g.ag g.value=1)&&decide (cR g.ag g.ab=2)&&decide (eY g.ag g.value=0)&&decide (eY g.ag g.ab=0)))=false:=by rw[eA (by omega:¬g.ab<g.ag.length)];simp
    rw[I];clear I Z cg;repeat' (first
     |(apply aj ?_;clear hK K)|apply aQ ?_|(apply ch ?_;first|refine Rx.k (ka _) ?_|refine Rx.k (kl _) ?_|refine Rx.k (kd _) ?_)|(apply bT ?_ ?_<;>(intro hg hgp;try(cases hg;done)))|(apply aV ?_ ?_<;>(intro hb hbp;try(cases hb;done)))|(apply ak fun K hK=>?_)|fail)
    all_goals first
     |exact bN
     |skip
    all_goals (refine⟨aq,_,aF,?_⟩;try simp only[am])
 .have hv:gh u g=false:=by
   rw[gh];cases h:(decide (0<=g.params)&&decide (g.params<=6)&&decide ((g.ag.length:Int)<=2000))with
   |false=>simp
   |true=>
    simp only[jN]at h;exact absurd ⟨h.1.1,h.1.2,h.2⟩ c1
  rw[hv];refine a0 (M:=114) (rs:=[.tmp 4]) (hw.call _) hw.aG hw.az func39 rfl rfl GB.2 rfl ?_;dsimp only[GB,aW,Nat.reduceAdd];by_cases d1:g.params<0
  .repeat' (first
    |(apply aj ?_;clear hK K)|apply aQ ?_|(apply bT ?_ ?_<;>(intro hg hgp;try(cases hg;done)))|(apply aV ?_ ?_<;>(intro hb hbp;try(cases hb;done)))|(apply ak fun K hK=>?_)|fail)
   all_goals (refine⟨aq,_,aF,?_⟩;try simp only[am])
  .by_cases d2:(6:Int)<g.params
   .repeat' (first
     |(apply aj ?_;clear hK K)|apply aQ ?_|(apply bT ?_ ?_<;>(intro hg hgp;try(cases hg;done)))|(apply aV ?_ ?_<;>(intro hb hbp;try(cases hb;done)))|(apply ak fun K hK=>?_)|fail)
    all_goals (refine⟨aq,_,aF,?_⟩;try simp only[am])
   .have d3:(2000:Int)<g.ag.length:=by omega
    refine Wt ?_;all_goals (refine⟨aq,_,aF,?_⟩;try simp only[am]))
end
end Go.Proofs.YtbflaciihaijgaaGreat
