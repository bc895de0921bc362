/- Parts: G5, G6, GOk, GRg, GSz, SpecC, AbArg, Seeds, Std, GX. -/
import Derived.Deep.Slices
import Derived.Test.YtpbcimfiofmoeaaGreatPCR
import Derived.WideKeyArgs
import Derived.WideShapes
set_option linter.unusedSimpArgs false
set_option linter.unusedVariables false
set_option linter.unusedSectionVars false
set_option linter.defProp false
set_option maxHeartbeats 32000000
namespace Go.Ab
set_option maxRecDepth 20000
open Go
theorem lZ{P:Prop}(h:P:=by (try simp only[zfw,zfI]);omega):P:=h
theorem m1{P:Prop}(h:P:=by first|rfl|((try simp only[zfw,zfI]);omega)):P:=h
theorem Cc{P:Prop}(h:P:=by rw[<- Y,Hp.get_set,if_neg V]):P:=h
theorem v9{P:Prop}(h:P:=by simp[sQ]):P:=h
theorem Oi{P:Prop}(h:P:=by simp only[mV,g8,jb,and_true];exact⟨rM,a.1⟩):P:=h
theorem Oj{P:Prop}(h:P:=by rw[O _ ac,U _ ac,z _ ac ac,o _ ac,j _ ac ac,g _ ac,oH6 _ ac ac,oHa _ ac]):P:=h
theorem Ok{P:Prop}(h:P:=by rw[O _ ac,U _ ac,z _ ac ac,o _ ac,j _ ac ac,g _ ac]):P:=h
theorem Ol{P:Prop}(h:P:=by rw[O _ ac,U _ ac,z _ ac ac,o _ ac]):P:=h
end Go.Ab
namespace Go.Proofs.YtpbcimfiofmoeaaGreat
set_option maxRecDepth 20000
open Go Go.Ab
section
def tyG5.tyF:=ad @cN (ad @dH (ad @eQ (ad @iO (ad @fO (ad @fP (ad @eR (ad @u6 (ad @gJ (ad @MK (@pS))))))))))
open tyG5
set_option maxRecDepth 100000 in
theorem zpA{j:List En}(I:GenL j){k:Nat}{f:Int}{deep:Nat}(hd:deep<=3)(g:deep<=2->oQ j k f (deep+1)):oQ j (k+1) f deep:=by
 intro lo H r s C hL;have hw:Plain (zfn pls j) 84:=I.plain dR;have hnx:Plain (zfn pls j) 40:=I.plain dR;have hkeep:(zfn pls j).keep 84=false:=rfl;have hrl:=C.1;have hlo:=C.2.1;have hq16:(16:Int)≠0:=aD;have hq2:(2:Int)≠0:=aD;have J:((zf1 f).length:Int)≠0:=by rcases rB f with h|h<;>rw[h]<;>decide
 rw[zg4,sV];refine zfz (M:=156) (rs:=[.cell 6 96]) (hw.call _) hw.ice hw.froz Tryz.func84 rfl rfl qx.2 rfl ?_;dsimp only[qx,zft,Nat.reduceAdd];repeat' (first
  |(apply ah ?_;clear hK K)|apply Rx.o ?_|apply ak ?_|(apply zff fun K hK=>?_)|fail)
 refine aU rfl aV aW ?_;simp only[bi];refine aS ?_ (Bk hnx (C.keep (eh _) fun q hq=>hY) hL);rintro v H2 ⟨rfl,hr2,n2,o2⟩;simp only[zfw]at n2;have g2:H2.get H.next=some (.cells [.int .i64 0,.str [],.str [],.int .i64 0,.int .i64 0,.int .i64 0,.str [],.int .i64 0,.nilS,.int .i64 0,.int .i64 0,.str [],.int .i64 0,.nilS,.nilS,.nilS,.nilS] 0 true):=by rw[o2 _ ac,zfk,aq rfl]
 have o2':∀q,q<H.next->q≠r->H2.get q=H.get q:=fun q h1 h2=>by rw[o2 q h2,zfk,af ac]
 have hL1:=zhN s.1;generalize (zfP s.1).1=n at *;generalize (zfP s.1).2=L1 at *;obtain⟨sL,c⟩:=s;simp only[]at *;have hq:=zhS (n:=n) (m:=16) ac ac;have hm:=zhS (n:=cu (n.tdiv 16)) (m:=1000) ac ac;obtain⟨hi0,hix⟩:=qu (zf1 f) J hm.1 [];have hxs:=rG hm.1;have hxa:=rH hm.1;have hxf:=sX hm.1;clear o2;dsimp only[zfp];repeat' (first
  |(apply ah ?_;clear hK K)|apply Rx.o ?_|(apply kF ?_;first|refine Rx.k (KV I.nms _ _) ?_|refine Rx.k (vy I.pick _ 1000 aD _) ?_)|apply ak ?_|(apply zff fun K hK=>?_)|fail)
 refine aU rfl aV aW ?_;simp only[bi];refine aS ?_ (vy I.pick n 16 aD _);rintro _ _ ⟨rfl,rfl⟩;dsimp only[zfp];refine Rx.o ?_;refine xg (hK _ _ ?_);clear hK K;dsimp only[nE,sc];generalize zgv n 16=U at *;generalize zgv (cu (n.tdiv 16)) 1000=m at *;obtain⟨lv,hgr,hlen⟩:=hr2.len;rename_i H2;simp only[qZ,pm,b8];refine ak ?_;refine ak ?_;refine zff fun K Y=>?_;have hK:∀L H3,(L.at 0=.ptr r 0/\L.at 1=.int .i64 f/\L.at 2=.int .i64 deep/\L.at 6=.ptr H.next 0/\L.at 8=jp (zf1 f)/\L.at 9=.int .i64 m/\L.at 10=.int .i64 U/\(∃b,L.at 44=.bool b/\(b=true↔(((2:Int)<deep/\8<=U/\U<12)\/(10<=c/\10<=U))))/\H3=H2)->K L H3:=by
  rintro L H3 ⟨k0,k1,k2,k6,k8,k9,O,⟨b,k44,o⟩,rfl⟩;apply Y;clear Y K;dsimp only[nE,sc];have Z:ur deep c U=if ((2:Int)<deep/\8<=U/\U<12)\/(10<=c/\10<=U)then 0 else U:=rfl
  generalize ur deep c U=q at *;have hqr:0<=q/\q<16:=by rw[Z];split<;>omega
  have hqd:8<=q->q<12->deep<=2:=by rw[Z];split<;>omega
  refine zyr (fun E' H'=>E'.at 0=.ptr r 0/\E'.at 1=.int .i64 f/\E'.at 2=.int .i64 deep/\E'.at 6=.ptr H.next 0/\E'.at 8=jp (zf1 f)/\E'.at 9=.int .i64 m/\E'.at 10=.int .i64 q/\H'=H3) ?_ ?_
  .cases b with
   |true=>
    rw[aq (o.1 rfl)]at Z;repeat' (first
     |(apply ah ?_;clear hK K)|apply Rx.o ?_|(apply bt (fun o V=>?_) (fun o V=>?_)<;>try(cases o;done))|(apply zff fun K hK=>?_)|fail)
    exact⟨rfl,eE,eE,eE,eE,eE,eE,DQ,rfl⟩
   |false=>
    rw[af (fun h=>by have:=o.2 h;cases this)]at Z;repeat' (first
     |(apply bt (fun o V=>?_) (fun o V=>?_)<;>try(cases o;done))|apply zfh ?_|fail)
    exact⟨rfl,eE,eE,eE,eE,eE,eE,(by first|(simp only[*];done)|rfl),rfl⟩
  clear k0 k1 k2 k6 k8 k9 O k44 o Z hq;rintro E3 H' ⟨k0,k1,k2,k6,k8,k9,O,rfl⟩;have z:AtT f deep lo H H' r L1 c q m E3:=⟨hd,hrl,hlo,n2,g2,o2',hr2,ac,hm,hqd,k0,k1,k2,k6,k8,k9,O⟩;by_cases c1:q<6
  .exact znW I g z c1
  by_cases i:q<8
  .exact zpy I g z c1 i
  by_cases c3:q<10
  .exact zy1 I g z c1 i c3
  by_cases c4:q<12
  .exact zpz I g z c1 i c3 c4
  by_cases c5:q<14
  .exact zuS I g z c1 i c3 c4 c5
  by_cases c6:q<15
  .exact zrW I g z c1 i c3 c4 c5 c6
  exact zrV I g z c1 i c3 c4 c5 c6
 clear Y;repeat' (first
  |(apply ah ?_;clear hK K)|apply Rx.o ?_|apply re ?_|(apply dr (fun hg hgp=>?_) (fun hg hgp=>?_)<;>try(cases hg;done))|fail)
 all_goals
  refine⟨eE,eE,eE,eE,eE,eE,eE,⟨_,eE,?_⟩,rfl⟩;first
  |exact⟨fun _=>ac,fun _=>rfl⟩
  |exact⟨fun h=>(by cases h),fun h=>(by omega:False).elim⟩
  |exact⟨fun h=>by(have h:=qe h;omega),fun h=>dt ac⟩
theorem Om{Y:List En}(Z:GenL Y)(f:Int):∀(k I:Nat),4<=I+k->I<=3->oQ Y k f I
 |0,I,h1,h2=>by omega
 |k+1,I,h1,h2=>zpA Z h2 fun h=>Om Z f k (I+1) ac ac
end
section
def tyG6.tyF:=ad @ej (ad @cN (ad @dH (ad @eQ (ad @lP (ad @nF (ad @iZ (ad @iO (ad @fO (ad @fP (ad @eR (ad @mM (ad @u6 (ad @pV (ad @gJ (ad @pS (ad @xX (ad @wO (@wY))))))))))))))))))
open tyG6
noncomputable def On:{c:SC // aH 61 (Tryz.f25.body.getD .skip)=c}:=by
 refine⟨?_,?_⟩;rotate_left
 .simp only[Tryz.f25,bS,aH,zfO,zfL,zfR,zfS,Nat.blt,Nat.ble];rfl
def Oo(Y:List En):Prop:=∀(f:Int) (k I:Nat),4<=I+k->I<=3->oQ Y k f I
theorem zeq{Y:List En}(I:GenL Y):Oo Y:=Om I
def hO(L:List Int):List St×zf8:=j9 0 4 0 5 ((zfP L).2,0)
def jL(L:List Int):Ex×List Int:=zfC 0 4 1 (hO L).2.1
def lB(L:List Int):List St×zf8:=j9 1 3 1 3 ((jL L).2,(hO L).2.2)
def rL(L:List Int):Ex×List Int:=zfC 1 4 1 (lB L).2.1
def gw(L:List Int):Fu:=⟨[102],[[120],[121]],[[105],[106]],(hO L).1,(jL L).1⟩
def gy(L:List Int):Fu:=⟨[103],[[110]],[[105]],(lB L).1,(rL L).1⟩
def mG(L:List Int):List Ar:=[⟨[97],1+zgv (zfP L).1 4⟩,⟨[98],1+zgv (cu ((zfP L).1.tdiv 4)) 4⟩]
def zfZ(l:List Int):Pr:=⟨mG (l.take 60),[gw (l.take 60),gy (l.take 60)]⟩
structure ProgM (lo n:Nat) (H:Hp) (p:Pr) (ra rf:Nat) (x y:Int) (f g:Fu) (cf cg:List AV):Prop where
 ep:p=⟨[⟨[97],x⟩,⟨[98],y⟩],[f,g]⟩
 ga:H.get ra=some (.cells [.str [97],.int .i64 x,.str [98],.int .i64 y] 0 true)
 gf:H.get rf=some (.cells (cf++cg) 0 true)
 la:lo<=ra/\ra<H.next
 lf:lo<=rf/\rf<H.next
 ne:ra≠rf
 lcf:cf.length=9
 lcg:cg.length=9
 wf:zgq (fun q=>lo<=q/\q≠ra/\q≠rf) n H cf f.cells
 wg:zgq (fun q=>lo<=q/\q≠ra/\q≠rf) n H cg g.cells
theorem ProgM.cells{lo n:Nat}{H:Hp}{p:Pr}{K m:Nat}{x y:Int}{f g:Fu}{Z o:List AV}(h:ProgM lo (n+1) H p K m x y f g Z o):zgq (fun q=>lo<=q) (n+2) H [.sl K 0 2 2,.sl m 0 2 9] p.cells:=by
 rw[h.ep];refine .cons ?_ (.cons ?_ .nil)
 .refine sO (n:=n+1) (a:=[[.str [97],.int .i64 x],[.str [98],.int .i64 y]]) (imm:=0) (tip:=true) h.la.1 h.la.2 h.ga au ⟨⟨rfl,.cons (.str _) (.cons (.int _ _) .nil)⟩,⟨rfl,.cons (.str _) (.cons (.int _ _) .nil)⟩,trivial⟩
 .refine sO (n:=n+1) (a:=[Z,o]) (imm:=0) (tip:=true) h.lf.1 h.lf.2 (by rw[h.gf];simp) au ⟨⟨h.lcf,h.wf.keep (fun q L=>L.1) (aE _) fun _ _ _=>rfl⟩,⟨h.lcg,h.wg.keep (fun q L=>L.1) (aE _) fun _ _ _=>rfl⟩,trivial⟩
theorem Oq{S:Nat->Prop}{n:Nat}{H:Hp}(nm:List UInt8){p l b:AV}{v:List AV}{f:Fu}(z:f.name=nm)(h1:iq S (n+1) H p (jp f.params))(h2:iq S (n+1) H l (jp f.locals))(m:iq S (n+1) H b (.lst (f.body.map St.cells)))(O:zgq S (n+1) H v f.value.cells):zgq S (n+1) H ([.str nm,p,l,b]++v) f.cells:=by
 have e:f.cells=[.str f.name,jp f.params,jp f.locals,.lst (f.body.map St.cells)]++f.value.cells:=sa;rw[e,z];exact(zgq.cons (.str _) (.cons h1 (.cons h2 (.cons m .nil)))).append O
theorem Cd{S:Nat->Prop}{n:Nat}{H:Hp}{r imm:Nat}{tip:Bool}(l:List (List UInt8))(hS:S r)(hr:r<H.next)(J:H.get r=some (.cells (l.map .str) imm tip))(I:imm<=l.length):iq S (n+2) H (.sl r 0 l.length 1) (jp l):=by
 have:=sO (n:=n+1) (a:=l.map fun s=>[AV.str s]) (z:=1) hS hr (by rw[D4];exact J) (by rw[D4];simpa using I) (gp.strs l);rw[cO]at this;exact this
theorem zer(H:Hp):zgW Tryz.prog H 23 0 []=some (.sl H.next 0 0 1,H.alloc (.cells [] 0 true)):=aj
theorem zes(v:Nat)(n:Nat):zgB Tryz.prog 78 [(0,.sl v 0 n 1)]=some (.agg [.sl v 0 n 1,.int .i64 0]):=aj
theorem zet(s:List UInt8)(n:Int):zgB Tryz.prog 86 [(0,.str s),(1,.int .i64 n)]=some (.agg [.str s,.int .i64 n]):=aj
theorem zeu(H:Hp)(a b:List UInt8)(x y:Int):zgW Tryz.prog H 24 2 [(0,.agg [.str a,.int .i64 x]),(1,.agg [.str b,.int .i64 y])]=some (.sl H.next 0 2 2,H.alloc (.cells [.str a,.int .i64 x,.str b,.int .i64 y] 0 true)):=aj
theorem zev(r n:Nat):zgB Tryz.prog 49 [(0,.sl r 0 n 2)]=some (.agg [.sl r 0 n 2,.nilS]):=aj
theorem zew(s:List UInt8)(r n q m:Nat):zgB Tryz.prog 65 [(0,.str s),(1,.sl r 0 n 1),(2,.sl q 0 m 1)]=some (.agg [.str s,.sl r 0 n 1,.sl q 0 m 1,.nilS,.int .i64 0,.int .i64 0,.str [],.int .i64 0,.nilS]):=aj
theorem zex(H:Hp)(zhI C K M Z I g Y V J U O L z b5 b6 o m:AV):zgW Tryz.prog H 47 2 [(0,.agg [zhI,C,K,M,Z,I,g,Y,V]),(1,.agg [J,U,O,L,z,b5,b6,o,m])]=some (.sl H.next 0 2 9,H.alloc (.cells [zhI,C,K,M,Z,I,g,Y,V,J,U,O,L,z,b5,b6,o,m] 0 true)):=aj
theorem zey(H:Hp)(s:List UInt8):zgW Tryz.prog H 59 1 [(0,.str s)]=some (.sl H.next 0 1 1,H.alloc (.cells [.str s] 0 true)):=aj
theorem zez(a b:AV):jo 2 [a,b]=some (.agg [a,b]):=rfl
theorem zuT(l:List Int):(l.map fun n=>[AV.int .i64 n]).flatten=l.map fun n=>AV.int .i64 n:=by
 induction l with
 |nil=>rfl
 |cons a l ih=>simp only[dE,qU,ih];rfl
theorem zrX{H:Hp}{q:Nat}(l:List Int)(J:H.get q=some (.cells [] 0 true))(L:q<H.next)(O:l.length<=60):
 ∃v H',zgH Tryz.prog false H 23 23 (.sl q 0 0 1) (.lst (l.map fun n=>[AV.int .i64 n]))=some (v,H')/\(∃b V,v=.sl b 0 l.length 1/\H'.get b=some (.cells (l.map fun n=>.int .i64 n) V true)/\b<H'.next/\(b=q\/b=H.next))/\H.next<=H'.next/\∀k,k<H.next->k≠q->H'.get k=H.get k:=by
 have g:zg1=70368744177664:=rfl;have U:(l.map fun n=>[AV.int .i64 n]).flatten=l.map fun n=>AV.int .i64 n:=zuT l;have C:zhd H 1 (.lst (l.map fun n=>[AV.int .i64 n]))=some (l.length,l.map fun n=>AV.int .i64 n):=by
  have e:zhd H 1 (.lst (l.map fun n=>[AV.int .i64 n]))=if ((l.map fun n=>[AV.int .i64 n]).all fun Z=>Z.length == 1)then some ((l.map fun n=>[AV.int .i64 n]).length,(l.map fun n=>[AV.int .i64 n]).flatten)else none:=rfl
  rw[e,aq au,U,cO]
 have o:(l.map fun n=>AV.int .i64 n).all AV.one=true:=by simp[AV.one]
 cases l with
 |nil=> 
  refine⟨.sl q 0 0 1,H,?_,⟨q,0,rfl,J,L,.inl rfl⟩,aE _,fun _ _ _=>rfl⟩
  .simp only[zgH,Tryz.underlying23,jy,pe,ph,show zhz Tryz.prog 23=true by kernel_rfl,C,eM]
 |cons a l=>
  simp only[dg]at C O;have Y:iV false H 1 (.sl q 0 0 1)=H:=by
   unfold iV;simp only[J];rfl
  refine⟨.sl H.next 0 (0+(l.length+1)) 1,(H.kill q).alloc (.cells ([]++(a::l).map fun n=>.int .i64 n) (0-0) true),?_,⟨H.next,0,au,?_,cI _,.inr rfl⟩,eh _,fun k j M=>?_⟩
  .simp only[zgH,Tryz.underlying23,jy,pe,ph,show zhz Tryz.prog 23=true by kernel_rfl,C,o,Y,pR,cV,dg,eM,jM,J,b9,kX,List.drop_nil,dm,cS];rw[aq ⟨kI,kI,au⟩]
  .show((H.kill q).alloc _).get (H.kill q).next=_
   rw[zfk,aq rfl];simp
  .rw[zfk,af mn,zhm,af M]
theorem znY(l:List Int):zhg Tryz.prog 23 (.lst (l.map fun n=>[AV.int .i64 n])) none (some (.int .i64 (min (l.length:Int) 60)))=some (.lst ((l.take 60).map fun n=>[AV.int .i64 n])):=by
 have e:min (l.length:Int) 60=((min l.length 60:Nat):Int):=ac;rw[e];simp only[zhg,Tryz.underlying23,jy];show(if 0<=min l.length 60/\min l.length 60<=(l.map fun n=>[AV.int .i64 n]).length then _ else none)=_;rw[aq ⟨dZ _,cC⟩];have m:((l.map fun n=>[AV.int .i64 n]).drop 0).take (min l.length 60-0)=(l.take 60).map fun n=>[AV.int .i64 n]:=by
  rw[fo,wP,<-zn,List.take_eq_take_iff.2];omega
 rw[m];cases l.take 60 with
 |nil=>rfl
 |cons a l=>rfl
structure AtP (n0 M:Nat) (x y:Int) (H:Hp):Prop where
 lt:n0<M/\M+8<=H.next
 rs:H.get n0=some (.cells [.nilS,.nilS] 0 true)
 ra:H.get (M+1)=some (.cells [.str [97],.int .i64 x,.str [98],.int .i64 y] 0 true)
 t5:H.get (M+2)=some (.cells [.sl (M+1) 0 2 2,.sl (M+7) 0 2 9] 0 true)
 p1:H.get (M+3)=some (.cells [.str [120],.str [121]] 0 true)
 l1:H.get (M+4)=some (.cells [.str [105],.str [106]] 0 true)
 p2:H.get (M+5)=some (.cells [.str [110]] 0 true)
 l2:H.get (M+6)=some (.cells [.str [105]] 0 true)
theorem AtP.keep{K M:Nat}{x y:Int}{H H':Hp}(h:AtP K M x y H)(z:H.next<=H'.next)(J:∀q,(q=K\/M+1<=q/\q<M+7)->H'.get q=H.get q):AtP K M x y H':=by
 obtain⟨⟨L,Z⟩,rs,Y,U,V,l1,m,O⟩:=h;exact⟨⟨L,ac⟩,by rw[J _ (.inl rfl)];exact rs,by rw[J _ ac];exact Y,by rw[J _ ac];exact U,by rw[J _ ac];exact V,by rw[J _ ac];exact l1,by rw[J _ ac];exact m,by rw[J _ ac];exact O⟩
set_option maxRecDepth 100000 in
theorem zpB{lG:List En}(hG:GenL lG)(hst:Oo lG)(l:List Int)(hl:l.length<2^63)(H:Hp):
 zfs Tryz.prog (zfn pls lG) 25 [.lst (l.map fun n=>[AV.int .i64 n])] H fun v H'=>∃ra rf x y cf cg,v=.agg [.sl ra 0 2 2,.sl rf 0 2 9]/\ProgM H.next 14 H' (zfZ l) ra rf x y (gw (l.take 60)) (gy (l.take 60)) cf cg/\H.next<=H'.next/\(∀q,q<H.next->H'.get q=H.get q)/\H.next<ra/\∃pt pf lf bf vf pg lg bg vg,cf=Bm [102] pf lf bf vf/\cg=Bm [103] pg lg bg vg/\ProgL pt 14 H' ra rf x y (gw (l.take 60)) (gy (l.take 60)) pf lf bf vf pg lg bg vg/\mG (l.take 60)=[⟨[97],x⟩,⟨[98],y⟩]/\∀q,q<H.next->pt q=0:=by
 have hw:Plain (zfn pls lG) 25:=hG.plain dR;have hkeep:(zfn pls lG).keep 25=false:=rfl;have hnx:Plain (zfn pls lG) 40:=hG.plain dR;have hs:=znY l;have hL60:(l.take 60).length<=60:=rY;have hq4:(4:Int)≠0:=aD;have hgP:zfZ l=⟨mG (l.take 60),[gw (l.take 60),gy (l.take 60)]⟩:=rfl;generalize zfZ l=P0 at *;refine zfz (M:=61) (rs:=[.cell 2 49]) (hw.call _) hw.ice hw.froz Tryz.func25 rfl rfl On.2 rfl ?_;dsimp only[On,zft,Nat.reduceAdd];have gh0:=@zer;repeat' (first
  |(apply ah ?_;clear hK K)|apply Rx.o ?_|apply ak ?_|(apply zff fun K hK=>?_)|fail)
 generalize l.take 60=L at *;have gq:((H.alloc (.cells [.nilS,.nilS] 0 true)).alloc (.cells [] 0 true)).get (H.next+1)=some (.cells [] 0 true):=xV;obtain⟨v,J,a2,⟨b,imm,rfl,gb,hb,hb2⟩,n2,o2⟩:=zrX L gq (cI _) hL60;simp only[zfw]at n2 o2 hb2;refine sd zhx zhx (by rw[hkeep];exact a2) ?_;have gh0:=@zes;repeat' (first
  |(apply ah ?_;clear hK K)|apply Rx.o ?_|apply ak ?_|(apply zff fun K hK=>?_)|fail)
 have hrd3:ir (J.next+1) (J.alloc (.cells [.sl b 0 L.length 1,.int .i64 0] 0 true)) J.next L 0:=⟨cI _,aE _,_,kV,.inr ⟨b,0,_,imm,rfl,by rw[zfk,af ac];exact gb,rfl,ac,ac⟩⟩
 have g3:(J.alloc (.cells [.sl b 0 L.length 1,.int .i64 0] 0 true)).get H.next=some (.cells [.nilS,.nilS] 0 true):=by rw[zfk,af ac,o2 _ ac ac,zfk,af fx,zfk,aq rfl]
 have o3:∀q,q<H.next->(J.alloc (.cells [.sl b 0 L.length 1,.int .i64 0] 0 true)).get q=H.get q:=fun q V=>by rw[zfk,af ac,o2 _ ac ac,zfk,af fx,zfk,af ac]
 generalize hH3:J.alloc (.cells [.sl b 0 L.length 1,.int .i64 0] 0 true)=H3 at *;have n3:H3.next=J.next+1:=by rw[<-hH3];rfl
 clear hH3 gb hb hb2 a2 gq o2;refine aU rfl aV aW ?_;simp only[bi];refine aS ?_ (Bk hnx hrd3 ac);rintro v H4 ⟨rfl,hr4,n4,o4⟩;have g4:H4.get H.next=some (.cells [.nilS,.nilS] 0 true):=by rw[o4 _ ac];exact g3
 have o4':∀q,q<H.next->H4.get q=H.get q:=fun q V=>by rw[o4 _ ac];exact o3 q V
 clear o4 o3 g3 hrd3;have hL1:=zhN L;have hA:mG L=[⟨[97],1+zgv (zfP L).1 4⟩,⟨[98],1+zgv (cu ((zfP L).1.tdiv 4)) 4⟩]:=rfl;have hp1:=zhS (n:=(zfP L).1) (m:=4) ac ac;have hp2:=zhS (n:=cu ((zfP L).1.tdiv 4)) (m:=4) ac ac;have hB1:hO L=j9 0 4 0 5 ((zfP L).2,0):=rfl;have hV1:jL L=zfC 0 4 1 (hO L).2.1:=rfl;have hB2:lB L=j9 1 3 1 3 ((jL L).2,(hO L).2.2):=rfl;have hV2:rL L=zfC 1 4 1 (lB L).2.1:=rfl;have hF1:gw L=⟨[102],[[120],[121]],[[105],[106]],(hO L).1,(jL L).1⟩:=rfl;have hF2:gy L=⟨[103],[[110]],[[105]],(lB L).1,(rL L).1⟩:=rfl;have hl1:(hO L).2.1.length<=(zfP L).2.length:=by rw[hB1];exact cJ (yn (yo 0 4 0) _ _) (zhN _)
 have hl2:(jL L).2.length<=(hO L).2.1.length:=zgP 0 4 1 _;have hl3:(lB L).2.1.length<=(jL L).2.length:=by rw[hB2];exact cJ (yn (yo 1 3 1) _ _) (zhN _)
 generalize hO L=B1 at *;generalize jL L=V1 at *;generalize lB L=B2 at *;generalize rL L=V2 at *;generalize gw L=Ff at *;generalize gy L=Fg at *;generalize mG L=Aa at *;generalize (zfP L).1=n at *;generalize (zfP L).2=L1 at *;have hw1:IntKind.wrap .i64 (1+zgv n 4)=1+zgv n 4:=zhb ac ac;have hw2:IntKind.wrap .i64 (1+zgv (cu (n.tdiv 4)) 4)=1+zgv (cu (n.tdiv 4)) 4:=zhb ac ac;have hw3:IntKind.wrap .i64 (n.tdiv 4)=cu (n.tdiv 4):=rfl;dsimp only[zfp];have gh0:=@zet;have gh1:=@zeu;have gh2:=@zev;have gh3:=@zey;have gh4:=@zew;have gh5:=@zex;repeat' (first
  |(apply ah ?_;clear hK K)|apply Rx.o ?_|apply ct ?_|(apply kF ?_;first|refine Rx.k (vy hG.pick _ _ aD _) ?_)|apply ak ?_|(apply zff fun K hK=>?_)|(apply zfm 5 [(1,3),(1,6)] fun K hK=>?_)|(apply zfx ?_;try intro _)|apply br ?_|fail)
 generalize hx:1+zgv n 4=x at *;generalize hy:1+zgv (cu (n.tdiv 4)) 4=y at *;rename_i H4;have hne:∀i,(H.next == J.next+i)=false:=fun i=>zfN ac;have hmn:H.next<J.next:=ac
 generalize hHs:Hp.set (Hp.alloc _ _) _ _=Hs;have hat:AtP H.next J.next x y Hs:=by
  rw[<-hHs];refine⟨⟨hmn,iP⟩,?_,?_,?_,?_,?_,?_,?_⟩
  .repeat (first|rw[aQ,af lZ]|rw[zfk,af lZ])
   exact g4
  ·(repeat (first|rw[aQ,af lZ]|rw[zfk,af lZ]));(first|rw[aQ,aq m1]|rw[zfk,aq m1])
  ·(repeat (first|rw[aQ,af (by(try simp only[]);omega)]|rw[zfk,af lZ]));(first|rw[aQ,aq m1]|rw[zfk,aq m1])
  ·(repeat (first|rw[aQ,af lZ]|rw[zfk,af lZ]));(first|rw[aQ,aq m1]|rw[zfk,aq m1])
  ·(repeat (first|rw[aQ,af lZ]|rw[zfk,af lZ]));(first|rw[aQ,aq m1]|rw[zfk,aq m1])
  ·(repeat (first|rw[aQ,af lZ]|rw[zfk,af lZ]));(first|rw[aQ,aq m1]|rw[zfk,aq m1])
  ·(repeat (first|rw[aQ,af lZ]|rw[zfk,af lZ]));(first|rw[aQ,aq m1]|rw[zfk,aq m1])
 have gf:Hs.get (J.next+7)=some (.cells [.str [102],.sl (J.next+3) 0 2 1,.sl (J.next+4) 0 2 1,.nilS,.int .i64 0,.int .i64 0,.str [],.int .i64 0,.nilS,.str [103],.sl (J.next+5) 0 1 1,.sl (J.next+6) 0 1 1,.nilS,.int .i64 0,.int .i64 0,.str [],.int .i64 0,.nilS] 0 true):=by
  rw[<-hHs];(repeat (first|rw[aQ,af lZ]|rw[zfk,af lZ]));(first|rw[aQ,aq m1]|rw[zfk,aq m1])
 have olds:∀q,q<J.next+1->Hs.get q=H4.get q:=fun q V=>by
  rw[<-hHs];repeat (first|rw[aQ,af ac]|rw[zfk,af lZ])
 have hns:Hs.next=J.next+8:=by rw[<-hHs];simp only[zfI,zfw];omega
 have hrs:ir (J.next+1) Hs J.next L1 0:=hr4.keep ac olds
 have os:∀q,q<H.next->Hs.get q=H.get q:=fun q V=>by rw[olds q ac];exact o4' q V
 clear olds hHs hr4 g4 o4';have h02:(0:Nat)<2:=aD;have h12:(1:Nat)<2:=aD;refine aU rfl aV aW ?_;simp only[gL];refine aS ?_ (yp hG (hst 0 4 0 ac ac) 5 ac ac (J.next+1) Hs J.next (L1,0) hrs vM);rintro v1 H5 ⟨I,hr5,n5,o5⟩;rw[<-hB1]at I hr5;obtain⟨t1,t2⟩:=I.one;have hat5:=hat.keep n5 fun q V=>o5 q ac ac;have g5t:=hat5.t5;have g5f:H5.get (J.next+7)=some (.cells [.str [102],.sl (J.next+3) 0 2 1,.sl (J.next+4) 0 2 1,.nilS,.int .i64 0,.int .i64 0,.str [],.int .i64 0,.nilS,.str [103],.sl (J.next+5) 0 1 1,.sl (J.next+6) 0 1 1,.nilS,.int .i64 0,.int .i64 0,.str [],.int .i64 0,.nilS] 0 true):=by rw[o5 _ ac ac];exact gf
 have gst:=hat.t5;dsimp only[zfp];repeat' (first
  |apply Ry.o ?_|apply bM ?_|apply ak ?_|(apply zfm 6 [(1,3),(1,6)] fun K hK=>?_)|(apply zfx ?_;try intro _)|(apply zfG ?_ ?_<;>clear hK K)|apply br ?_|apply zhC rfl ?_|fail)
 .exact zf6
 have n5':=n5;generalize Y:Hp.set H5 (J.next+7) _=Ha;have nHa:Ha.next=H5.next:=by rw[<-Y];rfl
 have oHa:∀q,q≠J.next+7->Ha.get q=H5.get q:=fun q V=>Cc
 have gfHa:Ha.get (J.next+7)=some (.cells [.str [102],.sl (J.next+3) 0 2 1,.sl (J.next+4) 0 2 1,v1,.int .i64 0,.int .i64 0,.str [],.int .i64 0,.nilS,.str [103],.sl (J.next+5) 0 1 1,.sl (J.next+6) 0 1 1,.nilS,.int .i64 0,.int .i64 0,.str [],.int .i64 0,.nilS] 0 true):=yf;clear Y;have hatHa:=hat5.keep (jF nHa.symm) fun q V=>oHa q ac;have gtHa:=hatHa.t5;have hrHa:=hr5.keep (jF nHa.symm) fun q V=>oHa q ac;have hMl:=hat.lt;repeat' (first
  |(apply ah ?_;clear hK K)|fail)
 refine aU rfl aV aW ?_;simp only[gL];refine aS ?_ (zhO hG 4 0 1 ac ac (J.next+1) Ha J.next _ _ hrHa ac);rintro _ H6 ⟨⟨cs,rfl,hc1,hc2,hc3⟩,hrH6,nH6,oH6⟩;rw[<-hV1]at hc3 hrH6;obtain⟨p0,p1,p2,p3,p4,rfl⟩:=j8 hc1;obtain⟨u0,u1,u2,u3,u4⟩:=sY hc2;have hatH6:=hatHa.keep nH6 fun q V=>oH6 q ac ac;have gtH6:=hatH6.t5;have gfH6:H6.get (J.next+7)=some (.cells [.str [102],.sl (J.next+3) 0 2 1,.sl (J.next+4) 0 2 1,v1,.int .i64 0,.int .i64 0,.str [],.int .i64 0,.nilS,.str [103],.sl (J.next+5) 0 1 1,.sl (J.next+6) 0 1 1,.nilS,.int .i64 0,.int .i64 0,.str [],.int .i64 0,.nilS] 0 true):=by rw[oH6 _ ac ac];exact gfHa
 dsimp only[zfp];repeat' (first
  |apply Ry.o ?_|apply bM ?_|apply ak ?_|(apply zfm 7 [(1,3),(1,6)] fun K hK=>?_)|(apply zfx ?_;try intro _)|(apply zfG ?_ ?_<;>clear hK K)|apply br ?_|apply zhC rfl ?_|fail)
 .exact zf6
 generalize Y:Hp.set H6 (J.next+7) _=Hb;have nHb:Hb.next=H6.next:=by rw[<-Y];rfl
 have g:∀q,q≠J.next+7->Hb.get q=H6.get q:=fun q V=>Cc
 have gfHb:Hb.get (J.next+7)=some (.cells [.str [102],.sl (J.next+3) 0 2 1,.sl (J.next+4) 0 2 1,v1,p0,p1,p2,p3,p4,.str [103],.sl (J.next+5) 0 1 1,.sl (J.next+6) 0 1 1,.nilS,.int .i64 0,.int .i64 0,.str [],.int .i64 0,.nilS] 0 true):=yf;clear Y;have hatHb:=hatH6.keep (jF nHb.symm) fun q V=>g q ac;have gtHb:=hatHb.t5;have hrHb:=hrH6.keep (jF nHb.symm) fun q V=>g q ac;repeat' (first
  |(apply ah ?_;clear hK K)|fail)
 refine aU rfl aV aW ?_;simp only[gL];refine aS ?_ (yp hG (hst 1 3 1 ac ac) 3 ac ac (J.next+1) Hb J.next (V1.2,B1.2.2) hrHb vM);rintro v2 H7 ⟨C,hrH7,nH7,j⟩;rw[<-hB2]at C hrH7;obtain⟨s1,s2⟩:=C.one;have hatH7:=hatHb.keep nH7 fun q V=>j q ac ac;have gtH7:=hatH7.t5;have gfH7:H7.get (J.next+7)=some (.cells [.str [102],.sl (J.next+3) 0 2 1,.sl (J.next+4) 0 2 1,v1,p0,p1,p2,p3,p4,.str [103],.sl (J.next+5) 0 1 1,.sl (J.next+6) 0 1 1,.nilS,.int .i64 0,.int .i64 0,.str [],.int .i64 0,.nilS] 0 true):=by rw[j _ ac ac];exact gfHb
 dsimp only[zfp];repeat' (first
  |apply Ry.o ?_|apply bM ?_|apply ak ?_|(apply zfm 8 [(1,3),(1,6)] fun K hK=>?_)|(apply zfx ?_;try intro _)|(apply zfG ?_ ?_<;>clear hK K)|apply br ?_|apply zhC rfl ?_|fail)
 .exact zf6
 generalize Y:Hp.set H7 (J.next+7) _=Hc;have nHc:Hc.next=H7.next:=by rw[<-Y];rfl
 have o:∀q,q≠J.next+7->Hc.get q=H7.get q:=fun q V=>Cc
 have gfHc:Hc.get (J.next+7)=some (.cells [.str [102],.sl (J.next+3) 0 2 1,.sl (J.next+4) 0 2 1,v1,p0,p1,p2,p3,p4,.str [103],.sl (J.next+5) 0 1 1,.sl (J.next+6) 0 1 1,v2,.int .i64 0,.int .i64 0,.str [],.int .i64 0,.nilS] 0 true):=yf;clear Y;have hatHc:=hatH7.keep (jF nHc.symm) fun q V=>o q ac;have gtHc:=hatHc.t5;have hrHc:=hrH7.keep (jF nHc.symm) fun q V=>o q ac;repeat' (first
  |(apply ah ?_;clear hK K)|fail)
 refine aU rfl aV aW ?_;simp only[gL];refine aS ?_ (zhO hG 4 1 1 ac ac (J.next+1) Hc J.next _ _ hrHc ac);rintro _ H8 ⟨⟨ds,rfl,hd1,hd2,hd3⟩,hrH8,nH8,z⟩;rw[<-hV2]at hd3 hrH8;obtain⟨w0,zgc,w2,w3,w4,rfl⟩:=j8 hd1;obtain⟨z0,z1,z2,z3,z4⟩:=sY hd2;have hatH8:=hatHc.keep nH8 fun q V=>z q ac ac;have gtH8:=hatH8.t5;have gfH8:H8.get (J.next+7)=some (.cells [.str [102],.sl (J.next+3) 0 2 1,.sl (J.next+4) 0 2 1,v1,p0,p1,p2,p3,p4,.str [103],.sl (J.next+5) 0 1 1,.sl (J.next+6) 0 1 1,v2,.int .i64 0,.int .i64 0,.str [],.int .i64 0,.nilS] 0 true):=by rw[z _ ac ac];exact gfHc
 dsimp only[zfp];repeat' (first
  |apply Ry.o ?_|apply bM ?_|apply ak ?_|(apply zff fun K hK=>?_)|(apply zfx ?_;try intro _)|(apply zfG ?_ ?_<;>clear hK K)|apply br ?_|apply zhC rfl ?_|fail)
 .exact zf6
 generalize Y:Hp.set H8 (J.next+7) _=Hd;have nHd:Hd.next=H8.next:=by rw[<-Y];rfl
 have U:∀q,q≠J.next+7->Hd.get q=H8.get q:=fun q V=>Cc
 have gfHd:Hd.get (J.next+7)=some (.cells [.str [102],.sl (J.next+3) 0 2 1,.sl (J.next+4) 0 2 1,v1,p0,p1,p2,p3,p4,.str [103],.sl (J.next+5) 0 1 1,.sl (J.next+6) 0 1 1,v2,w0,zgc,w2,w3,w4] 0 true):=yf;clear Y;have Z:=hatH8.keep (jF nHd.symm) fun q V=>U q ac;have gtHd:=Z.t5;have hrHd:=hrH8.keep (jF nHd.symm) fun q V=>U q ac;have gr:=Z.rs;have e1:(J.next+2 == H.next)=false:=zfN ac;have gh0:=@zez;repeat' (first
  |(apply ah ?_;clear hK K)|apply Rx.o ?_|apply ct ?_|apply ax ?_)
 refine⟨zfj,_,(by(try simp only[zfo,zfv,Nat.reduceBEq,Nat.reduceAdd,tyF,zgD,zgN, *]);first|done|with_reducible rfl),?_⟩;try simp only[zfi]
 have old:∀q,q<H.next->((Hd.set H.next (.cells [.sl (J.next+1) 0 2 2,.sl (J.next+7) 0 2 9] 0 true)).get q=H.get q):=fun q V=>by
  rw[aQ,af ac,U _ ac,z _ ac ac,o _ ac,j _ ac ac,g _ ac,oH6 _ ac ac,oHa _ ac,o5 _ ac ac];exact os q V
 have hz:=Z.keep (H':=Hd.set H.next (.cells [.sl (J.next+1) 0 2 2,.sl (J.next+7) 0 2 9] 0 true)) (aE _);refine⟨J.next+1,J.next+7,x,y,[.str [102],.sl (J.next+3) 0 2 1,.sl (J.next+4) 0 2 1,v1,p0,p1,p2,p3,p4],[.str [103],.sl (J.next+5) 0 1 1,.sl (J.next+6) 0 1 1,v2,w0,zgc,w2,w3,w4],rfl,?_,fC,old,ac,sQ J.next H5.next H6.next H7.next,.sl (J.next+3) 0 2 1,.sl (J.next+4) 0 2 1,v1,[p0,p1,p2,p3,p4],.sl (J.next+5) 0 1 1,.sl (J.next+6) 0 1 1,v2,[w0,zgc,w2,w3,w4],rfl,rfl,?_,hA,fun q V=>by unfold sQ;rw[aq ac]⟩;all_goals
  have O:∀q,q≠H.next->(Hd.set H.next (.cells [.sl (J.next+1) 0 2 2,.sl (J.next+7) 0 2 9] 0 true)).get q=Hd.get q:=fun q V=>Cz
  have nz:(Hd.set H.next (.cells [.sl (J.next+1) 0 2 2,.sl (J.next+7) 0 2 9] 0 true)).next=Hd.next:=rfl
  generalize (Hd.set H.next (.cells [.sl (J.next+1) 0 2 2,.sl (J.next+7) 0 2 9] 0 true))=Hz at *;have hl:=Z.lt
 .refine⟨by rw[hgP,hA],by rw[O _ ac];exact Z.ra,by rw[O _ ac];exact gfHd,⟨ac,ac⟩,⟨ac,ac⟩,ac,rfl,rfl,?_,?_⟩
  .rw[hF1];refine Oq (n:=13) [102] rfl (Cd (n:=12) (imm:=0) (tip:=true) [[120],[121]] ⟨ac,ac,ac⟩ ac (by rw[O _ ac];exact Z.p1) au) (Cd (n:=12) (imm:=0) (tip:=true) [[105],[106]] ⟨ac,ac,ac⟩ ac (by rw[O _ ac];exact Z.l1) au) ?_ ?_
   .exact(I.keep (fun q _ V=>⟨ac,ac,ac⟩) ac fun q h1 h2=>Oj).rd.up ac
   .exact(hc3.up ac).keep2 (fun q _ V=>⟨ac,ac,ac⟩) ac fun q h1 h2=>Ok
  .rw[hF2];refine Oq (n:=13) [103] rfl (Cd (n:=12) (imm:=0) (tip:=true) [[110]] ⟨ac,ac,ac⟩ ac (by rw[O _ ac];exact Z.p2) au) (Cd (n:=12) (imm:=0) (tip:=true) [[105]] ⟨ac,ac,ac⟩ ac (by rw[O _ ac];exact Z.l2) au) ?_ ?_
   .exact(C.keep (fun q _ V=>⟨ac,ac,ac⟩) ac fun q h1 h2=>Ol).rd.up ac
   .exact(hd3.up ac).keep2 (fun q _ V=>⟨ac,ac,ac⟩) ac fun q h1 h2=>by rw[O _ ac,U _ ac]
 .have ls:=hat.lt;refine⟨by rw[O _ ac];exact Z.ra,by rw[O _ ac,gfHd,hF1,hF2];rfl,ac,ac,v9,v9,⟨hc1,hc2,?_,?_,?_,?_⟩,⟨hd1,hd2,?_,?_,?_,?_⟩⟩
  .rw[hF1];exact Bl (n:=13) [[120],[121]] v9 ac (by rw[O _ ac];exact Z.p1)
  .rw[hF1];exact Bl (n:=13) [[105],[106]] v9 ac (by rw[O _ ac];exact Z.l1)
  .rw[hF1];exact(I.keep (fun q h1 h2=>zaz ac h1) ac fun q h1 h2=>Oj).up ac
  .rw[hF1];exact(hc3.up ac).keep2 (fun q h1 h2=>zaA ac ac h1) ac fun q h1 h2=>Ok
  .rw[hF2];exact Bl (n:=13) [[110]] v9 ac (by rw[O _ ac];exact Z.p2)
  .rw[hF2];exact Bl (n:=13) [[105]] v9 ac (by rw[O _ ac];exact Z.l2)
  .rw[hF2];exact(C.keep (fun q h1 h2=>zaB ac ac ac h1) ac fun q h1 h2=>Ol).up ac
  .rw[hF2];exact(hd3.up ac).keep2 (fun q h1 h2=>zaC ac ac ac ac) ac fun q h1 h2=>by rw[O _ ac,U _ ac]
end
def yH:List (List UInt8):=[[97],[98]]
theorem Ot(f:Int){m:Int}(h:0<=m):(zf1 f).getD (m.tmod (zf1 f).length).toNat []∈zf1 f:=by
 have L:((zf1 f).length:Int)≠0:=by unfold zf1;split<;>simp
 have:=(qu (zf1 f) L h []).2;exact lJ this
theorem Ou(f:Int){s:List UInt8}(h:s∈zf1 f):zf7 s=true/\zfE (zf1 f) s=true:=by
 unfold zf1 at h⊢;split at h<;>simp only[ly]at h
 .rename_i e;rw[aq e];rcases h with rfl|rfl|rfl|rfl<;>exact⟨aj,aj⟩
 .rename_i e;rw[af e];rcases h with rfl|rfl<;>exact⟨aj,aj⟩
theorem Ov(m:Int):zf7 (rF m)=true/\zfE yH (rF m)=true:=by
 unfold rF;split<;>exact⟨aj,aj⟩
theorem zeE(m:Int):zf7 (kT m)=true:=by
 unfold kT;split<;>kernel_rfl
structure ExOk (f:Int) (k:Nat) (x:Ex):Prop where
 wf:gk x=true
 df:eW (zf1 f) yH x=true
 dp:eU x<=k
theorem ta(f:Int):∀(k I:Nat) (L:List Int),5<=I+k->I<=4->ExOk f k (zfC f k I L).1
 |0,I,L,h1,h2=>by omega
 |k+1,I,L,h1,h2=>by
  have ih:I<=3->∀L,ExOk f k (zfC f k (I+1) L).1:=fun hd L=>ta f k (I+1) L ac ac;have U:=zhS (n:=(zfP L).1) (m:=16) ac ac;have V:=zhS (n:=cu ((zfP L).1.tdiv 16)) (m:=1000) ac ac;simp only[zfC];generalize zgv (zfP L).1 16=q at U⊢;generalize zgv (cu ((zfP L).1.tdiv 16)) 1000=m at V⊢;split
  .split
   .obtain⟨zgn,Y⟩:=Ou f (Ot f V.1);generalize (zf1 f).getD (m.tmod (zf1 f).length).toNat []=i at zgn Y⊢;refine⟨?_,?_,by simp[eU,mr]⟩
    .simp[gk,eV,lS,Ex.kind,Ex.kids,Ex.n,Ex.op,Ex.name,zgn]
    .simp[eW,zg5,ii,Ex.kind,Ex.name,Y]
   .exact⟨by simp[gk,eV,lS,Ex.kind,Ex.kids,Ex.op,Ex.name],by simp[eW,zg5,ii,Ex.kind,Ex.name],by simp[eU,mr]⟩
  .rename_i O;have hd:I<=3:=ac;have ih:=ih hd;obtain⟨C,K⟩:=Ov m;split
   .have z:=ih (zfP L).2;refine⟨?_,?_,?_⟩
    .simp[gk,eV,lS,Ex.kind,Ex.kids,Ex.n,Ex.op,Ex.name,C,z.wf]
    .simp[eW,zg5,ii,Ex.kind,Ex.name,K,z.df]
    .have:=z.dp;simp only[eU,mr];omega
   .split
    .have z:=ih (zfP L).2;have Z:=ih (zfC f k (I+1) (zfP L).2).2;have M:=ih (zfC f k (I+1) (zfC f k (I+1) (zfP L).2).2).2;refine⟨?_,?_,?_⟩
     .simp[gk,eV,lS,Ex.kind,Ex.kids,Ex.n,Ex.op,Ex.name,z.wf,Z.wf,M.wf]
     .simp[eW,zg5,ii,Ex.kind,Ex.name,z.df,Z.df,M.df]
     .have:=z.dp;have:=Z.dp;have:=M.dp;simp only[eU,mr];omega
    .split
     .have z:=ih (zfP L).2;have j:vO m=20\/vO m=21:=by unfold vO;split<;>simp
      refine⟨?_,?_,?_⟩
      .rcases j with j|j<;>simp[gk,eV,lS,Ex.kind,Ex.kids,Ex.n,Ex.op,Ex.name,z.wf,j]
      .simp[eW,zg5,ii,Ex.kind,Ex.name,z.df]
      .have:=z.dp;simp only[eU,mr];omega
     .have z:=ih (zfP L).2;have Z:=ih (zfC f k (I+1) (zfP L).2).2;have J:=BI 15 V.1;have o:=uj m (show(0:Int)<15 by omega);have j:tX (cu (4+m.tmod 15))=true:=by
       unfold cu;rw[zhb ac ac];simp only[tX,iX];omega
      refine⟨?_,?_,?_⟩
      .simp[gk,eV,lS,Ex.kind,Ex.kids,Ex.n,Ex.op,Ex.name,z.wf,Z.wf,j]
      .simp[eW,zg5,ii,Ex.kind,Ex.name,z.df,Z.df]
      .have:=z.dp;have:=Z.dp;simp only[eU,mr];omega
theorem Ow(f:Int):∀(n:Nat) (L:List Int),eV (zg8 f n L).1=true/\zg5 (zf1 f) yH (zg8 f n L).1=true/\((zg8 f n L).1.any fun e=>decide ((20:Int)<eU e))=false/\(zg8 f n L).1.length=n
 |0,_=>⟨rfl,rfl,rfl,rfl⟩
 |n+1,L=>by
  obtain⟨i,g,m,O⟩:=Ow f n (zfC f 3 2 L).2;have h:=ta f 3 2 L ac ac;have hd:¬(20:Int)<eU (zfC f 3 2 L).1:=by have:=h.dp;omega
  refine⟨?_,?_,?_,?_⟩
  .rw[zg8,eV,h.wf,i];rfl
  .rw[zg8,zg5,h.df,g];rfl
  .rw[zg8,oG,m,d6 hd];rfl
  .rw[zg8,dg,O]
structure ScG (f:Int) (c:Sc):Prop where
 vars:c.vars=zf1 f
 an:c.an=yH
 to:∀m:Int,0<=m->0<=zgz c.p.funcs (kT m) 0/\((2-m.tmod 2).toNat=py c.p (kT m))
structure StOk (c:Sc) (k:Nat) (s:zf8) (x:St) (t:zf8):Prop where
 wf:j0 x=true
 df:gR c false x=true
 ar:gR c true x=true
 dp:oI x=false
 n:zgn x+t.1.length<=s.1.length
 w:(zgc x:Int)+s.2=t.2
 wb:t.2<=10
 m:∀d,zfJ x d<=d+k
structure StsOk (c:Sc) (k:Nat) (s:zf8) (l:List St) (t:zf8):Prop where
 wf:gO l=true
 df:zgF c false l=true
 ar:zgF c true l=true
 dp:kM l=false
 n:zgl l+t.1.length<=s.1.length
 w:(zfQ l:Int)+s.2=t.2
 wb:t.2<=10
 m:∀d,zhi l d<=d+k
theorem Ge{c:Sc}{k:Nat}{step:zf8->St×zf8}(h:∀s:zf8,s.1≠[]->0<=s.2->s.2<=10->StOk c k s (step s).1 (step s).2):∀(n:Nat) (s:zf8),0<=s.2->s.2<=10->StsOk c k s (fK step n s).1 (fK step n s).2
 |0,s,h0,h1=>⟨rfl,rfl,rfl,rfl,by simp[fK,zgl],by simp[fK,zfQ],h1,fun d=>by simp[fK,zhi]⟩
 |n+1,s,h0,h1=>by
  rw[fK];by_cases K:s.1=[]
  .rw[aq K];exact⟨rfl,rfl,rfl,rfl,by simp[zgl],by simp[zfQ],h1,fun d=>by simp[zhi]⟩
  .rw[af K];have a:=h s K h0 h1;have J:=a.w;have b:=Ge h n (step s).2 ac a.wb;have Z:=b.w;have an:=a.n;have bn:=b.n;refine⟨?_,?_,?_,?_,?_,?_,b.wb,fun d=>?_⟩
   .simp only[gO,a.wf,b.wf];rfl
   .simp only[zgF,a.df,b.df];rfl
   .simp only[zgF,a.ar,b.ar];rfl
   .simp only[kM,a.dp,b.dp];rfl
   .simp only[zgl];omega
   .simp only[zfQ];omega
   .have:=a.m d;have:=b.m d;simp only[zhi];omega
theorem zeF(f:Int):zeroE zhu=true/\eW (zf1 f) yH zhu=true/\eU zhu=0:=⟨by simp[zeroE,zhu,Ex.kind,Ex.n,Ex.op,Ex.name,Ex.kids],by simp[zhu,eW,zg5,ii,Ex.kind],by simp[zhu,eU,mr]⟩
theorem zuX{f:Int}{c:Sc}(hc:ScG f c){k:Nat}{Z:Int->zf8->List St×zf8}{s:zf8}{L:List Int}{q m:Int}(hL:L.length<s.1.length)(hm:0<=m)(hm1:m<1000)(h0:0<=s.2)(h1:s.2<=10)(hq:10<=q->s.2<10)(hq0:0<=q)
 (hs:8<=q->q<12->1<=k/\∀(J:Int) (s:zf8),0<=s.2->s.2<=10->StsOk c (k-1) s (Z J s).1 (Z J s).2):StOk c k s (zg7 Z f L s.2 q m).1 (zg7 Z f L s.2 q m).2:=by
 obtain⟨z1,z2,z3⟩:=zeF f;obtain⟨V,U⟩:=Ou f (Ot f hm);obtain⟨a1,a2⟩:=Ov m;have g1:=zeE m;obtain⟨g2,g3⟩:=hc.to m hm;have I:=ta f 5 0 L ac ac;have O:=ta f 3 2 L ac ac;have C:=ta f 4 1 L ac ac;have z:=ta f 4 1 (zfC f 3 2 L).2 ac ac;have l50:=zgP f 5 0 L;have l32:=zgP f 3 2 L;have l41:=zgP f 4 1 L;have l43:=zgP f 4 1 (zfC f 3 2 L).2;obtain⟨r1,r2,r3,r4⟩:=Ow f (2-m.tmod 2).toNat L;have lar:=Ft f (2-m.tmod 2).toNat L;have d50:¬(20:Int)<eU (zfC f 5 0 L).1:=by have:=I.dp;omega
 have d32:¬(20:Int)<eU (zfC f 3 2 L).1:=by have:=O.dp;omega
 have i:¬(20:Int)<eU (zfC f 4 1 L).1:=by have:=C.dp;omega
 have d43:¬(20:Int)<eU (zfC f 4 1 (zfC f 3 2 L).2).1:=by have:=z.dp;omega
 rw[zg7];generalize (zf1 f).getD (m.tmod (zf1 f).length).toNat []=nm at V U⊢;have o:=hc.vars;have j:=hc.an;by_cases c1:q<6
 .rw[aq c1];refine⟨?_,?_,?_,?_,?_,?_,h1,fun d=>?_⟩
  .simp[j0,gO,jZ,eV,jl,mQ,St.kind,St.thn,St.els,St.name,St.to,St.n,St.at_,St.value,St.args,V,z1,I.wf]
  .simp[gR,zgF,px,zg5,kN,St.kind,St.name,St.at_,St.value,St.args,o,j,U,z2,I.df]
  .simp[gR,zgF,mw,St.kind]
  .simp[oI,kM,z3,d50]
  .simp only[zgn,zgl];omega
  .simp[zgc,zfQ]
  .simp[zfJ,zhi]
 rw[af c1];by_cases c2:q<8
 .rw[aq c2];refine⟨?_,?_,?_,?_,?_,?_,h1,fun d=>?_⟩
  .simp[j0,gO,jZ,eV,jl,mQ,St.kind,St.thn,St.els,St.name,St.to,St.n,St.at_,St.value,St.args,a1,O.wf,z.wf]
  .simp[gR,zgF,px,zg5,kN,St.kind,St.name,St.at_,St.value,St.args,o,j,a2,O.df,z.df]
  .simp[gR,zgF,mw,St.kind]
  .simp[oI,kM,d32,d43]
  .simp only[zgn,zgl];omega
  .simp[zgc,zfQ]
  .simp[zfJ,zhi]
 rw[af c2];by_cases c3:q<10
 .rw[aq c3];obtain⟨hk,g⟩:=hs ac ac;have K:=g 3 ((zfC f 4 1 L).2,s.2) h0 h1;have Y:=K.w;have san:=K.n;have M:=g 2 (Z 3 ((zfC f 4 1 L).2,s.2)).2 (by simp only at Y;omega) K.wb;have sbw:=M.w;have sbn:=M.n;refine⟨?_,?_,?_,?_,?_,?_,M.wb,fun d=>?_⟩
  .simp[j0,jZ,eV,jl,ud,St.kind,St.name,St.to,St.n,St.at_,St.value,St.args,z1,C.wf,K.wf,M.wf]
  .simp[gR,px,zg5,kN,St.kind,St.at_,St.value,St.args,o,j,z2,C.df,K.df,M.df]
  .simp[gR,mw,St.kind,K.ar,M.ar]
  .simp[oI,z3,i,K.dp,M.dp]
  .simp only[zgn];simp only at san;omega
  .simp only[zgc];simp only at Y;rw[af ac];omega
  .have:=K.m (d+1);have:=M.m (d+1);simp only[zfJ];omega
 rw[af c3];by_cases c4:q<12
 .rw[aq c4];obtain⟨hk,g⟩:=hs ac ac;have hlt:=hq ac;have hw:cu (s.2+1)=s.2+1:=by unfold cu;rw[zhb ac ac]
  rw[hw];have K:=g 3 ((zfC f 4 1 L).2,s.2+1) vN vN;have Y:=K.w;have san:=K.n;refine⟨?_,?_,?_,?_,?_,?_,K.wb,fun d=>?_⟩
  .simp[j0,gO,jZ,eV,jl,ud,St.kind,St.els,St.name,St.to,St.n,St.at_,St.value,St.args,z1,C.wf,K.wf]
  .simp[gR,zgF,px,zg5,kN,St.kind,St.at_,St.value,St.args,o,j,z2,C.df,K.df]
  .simp[gR,zgF,mw,St.kind,K.ar]
  .simp[oI,kM,z3,i,K.dp]
  .simp only[zgn,zgl];simp only at san;omega
  .simp only[zgc,zfQ];simp only at Y;simp only[cV];omega
  .have:=K.m (d+1);simp only[zfJ,zhi];omega
 rw[af c4];by_cases c5:q<14
 .rw[aq c5];refine⟨?_,?_,?_,?_,?_,?_,h1,fun d=>?_⟩
  .simp[j0,gO,jZ,eV,jl,mQ,ud,St.kind,St.thn,St.els,St.name,St.to,St.n,St.at_,St.value,St.args,z1,C.wf]
  .simp[gR,zgF,px,zg5,kN,St.kind,St.at_,St.value,St.args,o,j,z2,C.df]
  .simp[gR,zgF,mw,St.kind]
  .simp[oI,kM,z3,i]
  .simp only[zgn,zgl];omega
  .simp[zgc,zfQ]
  .simp[zfJ,zhi]
 rw[af c5];by_cases c6:q<15
 .rw[aq c6];refine⟨?_,?_,?_,?_,?_,?_,h1,fun d=>?_⟩
  .simp[j0,gO,jZ,jl,mQ,St.kind,St.thn,St.els,St.name,St.to,St.n,St.at_,St.value,St.args,V,z1,g1,r1]
  .simp[gR,zgF,px,kN,St.kind,St.name,St.to,St.at_,St.value,St.args,o,j,z2,U,g2,r2]
  .have:(((zg8 f (2-m.tmod 2).toNat L).1.length:Nat):Int)=py c.p (kT m):=by rw[r4,g3]
   simp[gR,zgF,mw,St.kind,St.args,St.to,this]
  .simp only[oI,kM,z3,r3];decide
  .simp only[zgn,zgl];omega
  .simp[zgc,zfQ]
  .simp[zfJ,zhi]
 rw[af c6];refine⟨?_,?_,?_,?_,?_,?_,h1,fun d=>?_⟩
 .have e:m<=1000000:=by omega
  simp[j0,gO,jZ,eV,jl,mQ,St.kind,St.thn,St.els,St.name,St.to,St.n,St.at_,St.value,St.args,z1,hm,e]
 .simp[gR,zgF,px,zg5,kN,St.kind,St.at_,St.value,St.args,o,j,z2]
 .simp[gR,zgF,mw,St.kind]
 .simp[oI,kM,z3]
 .simp only[zgn,zgl];omega
 .simp[zgc,zfQ]
 .simp[zfJ,zhi]
theorem zuY{L:List Int}(h:L≠[]):(zfP L).2.length<L.length:=by
 cases L with
 |nil=>exact absurd rfl h
 |cons a l=>simp[zfP]
theorem StsOk.more{c:Sc}{k:Nat}{s U:zf8}{l:List St}{t:zf8}(h:StsOk c k U l t)(h1:U.1.length<=s.1.length)(h2:U.2=s.2):StsOk c k s l t:=⟨h.wf,h.df,h.ar,h.dp,cJ h.n h1,h2▸h.w,h.wb,h.m⟩
theorem Oz{f:Int}{c:Sc}(Y:ScG f c):∀(k I:Nat),4<=I+k->I<=3->∀s:zf8,s.1≠[]->0<=s.2->s.2<=10->StOk c (k-1) s (zg4 f k I s).1 (zg4 f k I s).2
 |0,I,Z,h2=>by omega
 |k+1,I,Z,h2=>fun s K M i=>by
  have V:=zhS (n:=cu ((zfP s.1).1.tdiv 16)) (m:=1000) ac ac;have L:=zhS (n:=(zfP s.1).1) (m:=16) ac ac;rw[zg4,sV];refine zuX Y (zuY K) V.1 V.2 M i ?_ ?_ ?_
  .unfold ur;split<;>omega
  .unfold ur;split<;>omega
  .intro a b;have hd:I<=2:=by
    unfold ur at a b;split at a<;>omega
   have e:k+1-1-1=k-1:=ac;rw[e];refine⟨ac,fun J s j U=>StsOk.more (Ge (fun s K M Z=>?_) _ ((zfP s.1).2,s.2) j U) (zhN _) rfl⟩;exact Oz Y k (I+1) ac ac s K M Z
theorem OA{f:Int}{c:Sc}(Z:ScG f c){k deep:Nat}(h1:4<=deep+k)(h2:deep<=3)(J:Int){s:zf8}(m:0<=s.2)(O:s.2<=10):StsOk c (k-1) s (j9 f k deep J s).1 (j9 f k deep J s).2:=
 StsOk.more (Ge (fun s K M L=>Oz Z k deep h1 h2 s K M L) _ ((zfP s.1).2,s.2) m O) (zhN _) rfl
theorem OB(L:List Int):zgz [gw L,gy L] [102] 0=0/\zgz [gw L,gy L] [103] 0=1:=⟨rfl,rfl⟩
theorem OC(f:Int)(l:List Int){F:Fu}(h:F.params++F.locals=zf1 f):ScG f (gY (zfZ l) F):=by
 refine⟨h,rfl,fun m V=>?_⟩;have i:=BI 2 V;have g:=uj m (show(0:Int)<2 by omega);show 0<=zgz [gw (l.take 60),gy (l.take 60)] (kT m) 0/\_;unfold kT;by_cases e:m.tmod 2=0
 .rw[aq e,e];exact⟨by rw[(OB _).1];omega,rfl⟩
 .rw[af e,show m.tmod 2=1 by omega];exact⟨by rw[(OB _).2];omega,rfl⟩
theorem Ce(l:List Int):zhj (zfZ l)=0:=by
 have hl:(l.take 60).length<=60:=cC;have c0:ScG 0 (gY (zfZ l) (gw (l.take 60))):=OC 0 l rfl;have c1:ScG 1 (gY (zfZ l) (gy (l.take 60))):=OC 1 l rfl;obtain⟨L,hL⟩:∃L,l.take 60=L:=⟨_,rfl⟩;rw[hL]at hl c0 c1;have J:StsOk (gY (zfZ l) (gw L)) 3 ((zfP L).2,0) (hO L).1 (hO L).2:=OA c0 (k:=4) (deep:=0) ac ac 5 (s:=((zfP L).2,0)) au au;have g:ExOk 0 4 (jL L).1:=ta 0 4 1 _ ac ac;have Z:=J.w;have I:StsOk (gY (zfZ l) (gy L)) 2 ((jL L).2,(hO L).2.2) (lB L).1 (lB L).2:=OA c1 (k:=3) (deep:=1) ac ac 3 (s:=((jL L).2,(hO L).2.2)) (by simp only at Z⊢;omega) J.wb;have Y:ExOk 1 4 (rL L).1:=ta 1 4 1 _ ac ac;have V:=J.n;have K:=I.n;have U:=I.w;have b1b:=J.wb;have b2b:=I.wb;simp only at V K Z U;have n0:=zhN L;have zgn:(jL L).2.length<=(hO L).2.1.length:=zgP 0 4 1 _;have p1:=zhS (n:=(zfP L).1) (m:=4) ac ac;have p2:=zhS (n:=cu ((zfP L).1.tdiv 4)) (m:=4) ac ac;have hp:zfZ l=⟨mG L,[gw L,gy L]⟩:=by rw[zfZ,hL]
 have zfJ:=J.m 0;have m2:=I.m 0;have d1:=g.dp;have d2:=Y.dp;have i:lx (zfZ l)=false:=by
  rw[hp];simp only[lx,mG,List.any_cons,List.any_nil,t8,oJ,gw,gy,List.length_cons,List.length_nil,J.dp,I.dp,Bool.or_false,Bool.or_eq_false_iff,decide_eq_false_iff_not];refine⟨⟨⟨decide_eq_false ac,?_⟩,?_⟩,?_⟩<;>omega
 have O:ja (zfZ l)=true:=by
  rw[hp];have q:∀s∈([[102],[103],[120],[121],[105],[106],[110],[97],[98]]:List (List UInt8)),zf7 s=true:=by
   intro s hs;simp only[List.mem_cons,List.not_mem_nil,or_false]at hs;rcases hs with rfl|rfl|rfl|rfl|rfl|rfl|rfl|rfl|rfl<;>kernel_rfl
  simp only[ja,mG,List.all_cons,List.all_nil,lT,fnNames,gw,gy,List.cons_append,List.nil_append,J.wf,I.wf,g.wf,Y.wf,Bool.and_true,Bool.and_eq_true];simp[q]
 have M:mR (zfZ l)=false:=by rw[hp];kernel_rfl
 have j:(zfZ l).funcs.any (mS (zfZ l))=false:=by
  have e:(zfZ l).funcs=[gw L,gy L]:=by rw[hp]
  rw[e];have zgc:eW (gY (zfZ l) (gw L)).vars (gY (zfZ l) (gw L)).an (gw L).value=true:=by rw[c0.vars,c0.an];exact g.df
  have w2:eW (gY (zfZ l) (gy L)).vars (gY (zfZ l) (gy L)).an (gy L).value=true:=by rw[c1.vars,c1.an];exact Y.df
  have C:zgF (gY (zfZ l) (gw L)) false (gw L).body=true:=J.df;have z:zgF (gY (zfZ l) (gy L)) false (gy L).body=true:=I.df;simp only[List.any_cons,List.any_nil,mS,zgc,w2,C,z];rfl
 have o:(zfZ l).funcs.any (nM (zfZ l))=false:=by
  have e:(zfZ l).funcs=[gw L,gy L]:=by rw[hp]
  rw[e];have C:zgF (gY (zfZ l) (gw L)) true (gw L).body=true:=J.ar;have z:zgF (gY (zfZ l) (gy L)) true (gy L).body=true:=I.ar;simp only[List.any_cons,List.any_nil,nM,C,z];rfl
 rw[zhj,i,O,M,j,o];rfl
def hU(L:List Int):Prop:=∀n∈L,zho n
theorem yI{L:List Int}(h:hU L):zho (zfP L).1/\hU (zfP L).2:=by
 cases L with
 |nil=>exact⟨by show zho 0;unfold zho;omega,h⟩
 |cons a l=>exact⟨h a dJ,fun n z=>h n (dO _ z)⟩
theorem zeI(n:Int):zho (cu n):=by
 unfold cu zho;rw[IntKind.wrap_i64];omega
theorem zuZ{n J:Int}(h:zho J):zho (qo n J):=by
 unfold qo;split
 .have e:∀k,zho (sN.getD k 0):=fun k=>by
   by_cases c:k<10
   .have:∀k:_root_.Fin 10,zho (sN.getD k.1 0):=by unfold zho;decide
    exact this ⟨k,c⟩
   .rw[dd,gI (by simp[sN];omega)];show zho 0;unfold zho;omega
  exact e _
 split
 .exact zeI _
 .exact h
theorem uC:zho 0:=ff
theorem qH(f:Int):∀(k I:Nat) (L:List Int),hU L->iR (zfC f k I L).1/\hU (zfC f k I L).2
 |0,I,L,h=>⟨by simp[zfC,iR,g8,uC],h⟩
 |k+1,I,L,h=>by
  have ih:=qH f k (I+1);obtain⟨i,g⟩:=yI h;simp only[zfC];generalize zgv (zfP L).1 16=q;generalize zgv (cu ((zfP L).1.tdiv 16)) 1000=m;split
  .split
   .exact⟨by simp[iR,g8,uC],g⟩
   .exact⟨by simp only[iR,g8,a0];exact zuZ i,g⟩
  .have a:=ih _ g;have b:=ih _ a.2;have c:=ih _ b.2;split
   .exact⟨by simp only[iR,g8,a0];exact⟨uC,a.1⟩,a.2⟩
   .split
    .exact⟨by simp only[iR,g8,a0];exact⟨uC,a.1,b.1,c.1⟩,c.2⟩
    .split
     .exact⟨by simp only[iR,g8,a0];exact⟨uC,a.1⟩,a.2⟩
     .exact⟨by simp only[iR,g8,a0];exact⟨uC,a.1,b.1⟩,b.2⟩
theorem OD(f:Int):∀(n:Nat) (L:List Int),hU L->g8 (zg8 f n L).1/\hU (zg8 f n L).2
 |0,L,h=>⟨by simp[zg8,g8],h⟩
 |n+1,L,h=>by
  have a:=qH f 3 2 L h;have b:=OD f n _ a.2;rw[zg8];exact⟨by rw[g8];exact⟨a.1,b.1⟩,b.2⟩
theorem rM:iR zhu:=by simp[zhu,iR,g8,uC]
theorem zu0{Z:Int->zf8->List St×zf8}(K:∀J s,hU s.1->jb (Z J s).1/\hU (Z J s).2.1)(f:Int)(L:List Int)(c q m:Int)(h:hU L):mV (zg7 Z f L c q m).1/\hU (zg7 Z f L c q m).2.1:=by
 unfold zg7;split
 .have a:=qH f 5 0 L h;exact⟨Oi,a.2⟩
 split
 .have a:=qH f 3 2 L h;have b:=qH f 4 1 _ a.2;exact⟨by simp only[mV,g8,jb,a0];exact⟨a.1,b.1⟩,b.2⟩
 split
 .have a:=qH f 4 1 L h;have b:=K 3 ((zfC f 4 1 L).2,c) a.2;have d:=K 2 (Z 3 ((zfC f 4 1 L).2,c)).2 b.2;exact⟨by simp only[mV,g8,kA];exact⟨rM,a.1,b.1,d.1⟩,d.2⟩
 split
 .have a:=qH f 4 1 L h;have b:=K 3 ((zfC f 4 1 L).2,cu (c+1)) a.2;exact⟨by simp only[mV,g8,jb,a0,kA];exact⟨rM,a.1,b.1⟩,b.2⟩
 split
 .have a:=qH f 4 1 L h;exact⟨Oi,a.2⟩
 split
 .have a:=OD f (2-m.tmod 2).toNat L h;exact⟨by simp only[mV,jb,a0];exact⟨rM,rM,a.1⟩,a.2⟩
 .exact⟨by simp only[mV,g8,jb,a0];exact⟨rM,rM⟩,h⟩
theorem Gf{step:zf8->St×zf8}(K:∀s,hU s.1->mV (step s).1/\hU (step s).2.1):∀(n:Nat) (s:zf8),hU s.1->jb (fK step n s).1/\hU (fK step n s).2.1
 |0,s,h=>⟨by simp[fK,jb],h⟩
 |n+1,s,h=>by
  have a:=K s h;have b:=Gf K n _ a.2;rw[fK];split
  .exact⟨by simp[jb],h⟩
  .exact⟨by rw[jb];exact⟨a.1,b.1⟩,b.2⟩
theorem OE(f:Int):∀(k I:Nat) (s:zf8),hU s.1->mV (zg4 f k I s).1/\hU (zg4 f k I s).2.1
 |0,I,s,h=>⟨by simp only[zg4,mV,g8,jb,a0];exact⟨rM,rM⟩,h⟩
 |k+1,I,s,h=>by
  have ih:=OE f k (I+1);rw[zg4,sV];exact zu0 (fun J s K=>Gf ih _ ((zfP s.1).2,s.2) (yI K).2) f _ _ _ _ (yI h).2
theorem OF(f:Int)(k deep:Nat)(J:Int)(s:zf8)(h:hU s.1):jb (j9 f k deep J s).1/\hU (j9 f k deep J s).2.1:=
 Gf (OE f k deep) _ ((zfP s.1).2,s.2) (yI h).2
theorem OG{l:List Int}(h:hU l):∀f∈(zfZ l).funcs,jb f.body/\iR f.value:=by
 have Y:hU (l.take 60):=fun n z=>h n (List.mem_of_mem_take z);have J:=OF 0 4 0 5 ((zfP (l.take 60)).2,0) (yI Y).2;have g:=qH 0 4 1 (hO (l.take 60)).2.1 J.2;have I:=OF 1 3 1 3 ((jL (l.take 60)).2,(hO (l.take 60)).2.2) g.2;have Z:=qH 1 4 1 (lB (l.take 60)).2.1 I.2;intro f i;simp only[zfZ,ly]at i;rcases i with rfl|rfl
 .exact⟨J.1,g.1⟩
 .exact⟨I.1,Z.1⟩
theorem OH(f:Int)(i:Nat):((zf1 f).getD i []).length<=1:=by
 have h:∀s∈zf1 f,s.length<=1:=by
  intro s K;unfold zf1 at K;split at K<;>simp only[ly]at K
  .rcases K with rfl|rfl|rfl|rfl<;>simp
  .rcases K with rfl|rfl<;>simp
 rw[dd];cases e:(zf1 f)[i]? with
 |none=>simp
 |some s=>exact h s (lJ e)
theorem OI(m:Int):(rF m).length=1:=by unfold rF;split<;>rfl
theorem zeL(m:Int):(kT m).length=1:=by unfold kT;split<;>rfl
def bE:Nat->Nat
 |0=>2
 |k+1=>5+3*bE k
theorem tc(f:Int):∀(k I:Nat) (L:List Int),(zfC f k I L).1.sz<=bE k
 |0,I,L=>by simp[zfC,Ex.sz,zgR,bE]
 |k+1,I,L=>by
  have ih:=tc f k (I+1);simp only[zfC,bE];generalize zgv (zfP L).1 16=q;generalize zgv (cu ((zfP L).1.tdiv 16)) 1000=m;split
  .split
   .have:=OH f (m.tmod (zf1 f).length).toNat;simp only[Ex.sz,zgR];omega
   .simp only[Ex.sz,zgR,eM];omega
  .split
   .have:=OI m;have:=ih (zfP L).2;simp only[Ex.sz,zgR];omega
   .split
    .have:=ih (zfP L).2;have:=ih (zfC f k (I+1) (zfP L).2).2;have:=ih (zfC f k (I+1) (zfC f k (I+1) (zfP L).2).2).2;simp only[Ex.sz,zgR,eM];omega
    .split
     .have:=ih (zfP L).2;simp only[Ex.sz,zgR,eM];omega
     .have:=ih (zfP L).2;have:=ih (zfC f k (I+1) (zfP L).2).2;simp only[Ex.sz,zgR,eM];omega
theorem OJ(f:Int):∀(n:Nat) (L:List Int),zgR (zg8 f n L).1<=200*n
 |0,_=>by simp[zg8,zgR]
 |n+1,L=>by
  have:=OJ f n (zfC f 3 2 L).2;have:=tc f 3 2 L;have:bE 3<=150:=aD;rw[zg8,zgR];omega
theorem zu2{Z:Int->zf8->List St×zf8}(K:∀J s,zf0 (Z J s).1<=10000*zgl (Z J s).1)(f:Int)(L:List Int)(c q m:Int):(zg7 Z f L c q m).1.sz+1<=10000*zgn (zg7 Z f L c q m).1:=by
 have O:bE 5<=1200:=aD;have M:bE 4<=1200:=aD;have o:bE 3<=1200:=aD;have I:=tc f 5 0 L;have Y:=tc f 3 2 L;have C:=tc f 4 1 L;have g:=tc f 4 1 (zfC f 3 2 L).2;have z:zhu.sz=1:=rfl;have V:=OH f (m.tmod (zf1 f).length).toNat;have j:=OI m;have i:=zeL m;have r:=OJ f (2-m.tmod 2).toNat L;have r2:(2-m.tmod 2).toNat<=4:=by
  have:-2<m.tmod 2:=by
   have:=uj (-m) (show(0:Int)<2 by omega);rw[Int.neg_tmod]at this;omega
  omega
 rw[zg7];split
 .simp only[St.sz,zgn,zgl,zgR,zf0,eM];omega
 split
 .simp only[St.sz,zgn,zgl,zgR,zf0,eM];omega
 split
 .have U:=K 3 ((zfC f 4 1 L).2,c);have s2:=K 2 (Z 3 ((zfC f 4 1 L).2,c)).2;simp only[St.sz,zgn,zgR,eM];omega
 split
 .have U:=K 3 ((zfC f 4 1 L).2,cu (c+1));simp only[St.sz,zgn,zgl,zgR,zf0,eM];omega
 split
 .simp only[St.sz,zgn,zgl,zgR,zf0,eM];omega
 split
 .simp only[St.sz,zgn,zgl,zf0];omega
 .simp only[St.sz,zgn,zgl,zgR,zf0,eM];omega
theorem Gg{step:zf8->St×zf8}(h:∀s,(step s).1.sz+1<=10000*zgn (step s).1):∀(n:Nat) (s:zf8),zf0 (fK step n s).1<=10000*zgl (fK step n s).1
 |0,s=>by simp[fK,zf0,zgl]
 |n+1,s=>by
  rw[fK];split
  .simp[zf0,zgl]
  .have:=h s;have:=Gg h n (step s).2;simp only[zf0,zgl];omega
theorem OK(f:Int):∀(k I:Nat) (s:zf8),(zg4 f k I s).1.sz+1<=10000*zgn (zg4 f k I s).1
 |0,I,s=>by
  have z:zhu.sz=1:=rfl;simp only[zg4,St.sz,zgn,zgl,zgR,zf0,eM];omega
 |k+1,I,s=>by
  rw[zg4,sV];exact zu2 (fun J s=>Gg (OK f k (I+1)) _ _) f _ _ _ _
theorem OL(f:Int)(k deep:Nat)(J:Int)(s:zf8):zf0 (j9 f k deep J s).1<=10000*zgl (j9 f k deep J s).1:=Gg (OK f k deep) _ _
theorem zu3(l:List Int):(zfZ l).sz<2^24:=by
 have i:lx (zfZ l)=false:=by
  have h:=Ce l;rw[zhj]at h;cases e:lx (zfZ l)with
  |false=>rfl
  |true=>rw[aq e]at h;omega
 have J:=OL 0 4 0 5 ((zfP (l.take 60)).2,0);have I:=OL 1 3 1 3 ((jL (l.take 60)).2,(hO (l.take 60)).2.2);have Y:(jL (l.take 60)).1.sz<=bE 4:=tc 0 4 1 _;have V:(rL (l.take 60)).1.sz<=bE 4:=tc 1 4 1 _;have K:bE 4<=1200:=aD;rw[zfZ]at i⊢;generalize l.take 60=L at *;change zf0 (hO L).1<=10000*zgl (hO L).1 at J;change zf0 (lB L).1<=10000*zgl (lB L).1 at I;simp only[lx,oG,List.any_nil,gK,gG,oJ,gw,gy,i4]at i;obtain⟨_,Z,g⟩:=i;have zgn:¬(200:Int)<zgl (hO L).1:=Z.1.1.1.1.2;have j:¬(200:Int)<zgl (lB L).1:=g.1.1.1.1.2;simp only[Pr.sz,jC,ig,mG,gw,gy,Fu.sz,zgU,dg,eM];omega
mutual
def cE:Ex->Nat
 | .mk k _ _ _ V=>if k=1 then 1 else if k=2 then 0 else 4+cEs V
def cEs:List Ex->Nat
 |[]=>0
 |e::es=>cE e+cEs es
end
theorem zeO(x:Ex):cE x=if x.kind=1 then 1 else if x.kind=2 then 0 else 4+cEs x.kids:=by cases x;rw[cE];rfl
mutual
def c1:St->Nat
 | .mk k _ _ _ a v j C I=>if k=1 then cE v else if k=2 then cE a+cE v+4 else if k=3 then cE v+iS C+iS I+5 else if k=4 then 2*cE v+iS C+16 else if k=5 then cE v+1 else if k=6 then cEs j+2 else if k=7 then 2 else 0
def iS:List St->Nat
 |[]=>0
 |x::l=>c1 x+iS l
end
theorem zeP(x:St):c1 x=if x.kind=1 then cE x.value else if x.kind=2 then cE x.at_+cE x.value+4 else if x.kind=3 then cE x.value+iS x.thn+iS x.els+5 else if x.kind=4 then 2*cE x.value+iS x.thn+16 else if x.kind=5 then cE x.value+1 else if x.kind=6 then cEs x.args+2 else if x.kind=7 then 2 else 0:=by cases x;rw[c1];rfl
theorem Gi{V:List Ex}{a:Ex}(h:V[0]?=some a):cE a<=cEs V:=by
 match V,h with
 |x::l,h=>
  simp only[pm,az]at h;subst h;rw[cEs];omega
theorem OM{V:List Ex}{a b:Ex}(h:V[0]?=some a)(k:V[1]?=some b):cE a+cE b<=cEs V:=by
 match V,h,k with
 |x::l,h,k=>
  simp only[pm,qZ,az]at h k;subst h;rw[cEs];have:=Gi k;omega
theorem zeQ{V:List Ex}{a b c:Ex}(h:V[0]?=some a)(k:V[1]?=some b)(m:V[2]?=some c):cE a+cE b+cE c<=cEs V:=by
 match V,h,k,m with
 |x::l,h,k,m=>
  simp only[pm,qZ,az]at h k m;subst h;rw[cEs];have:=OM k m;omega
theorem zhr(n:Nd)(s:Bd):(zfg n s).2.l.length<=s.l.length+1:=MP _ _
theorem wa(c a b:Int)(s:Bd):(zfA c a b s).2.l.length<=s.l.length+1:=by
 unfold zfA;split
 .exact eh _
 .exact zhr _ _
theorem Gj(t v:Int)(s:Bd):(my t v s).l.length<=s.l.length+1:=zhr _ _
theorem ON(n i:Int)(s:Bd):(eK n i s).l.length<=s.l.length+3:=by
 have a:=zhr ⟨1,n,[]⟩ s;have b:=zhr ⟨19,0,[i,(zfg ⟨1,n,[]⟩ s).1]⟩ (zfg ⟨1,n,[]⟩ s).2;have c:=Gj 2 (zfg ⟨19,0,[i,(zfg ⟨1,n,[]⟩ s).1]⟩ (zfg ⟨1,n,[]⟩ s).2).1 (zfg ⟨19,0,[i,(zfg ⟨1,n,[]⟩ s).1]⟩ (zfg ⟨1,n,[]⟩ s).2).2;have e:(eK n i s).l.length<=_:=c;omega
theorem zeR(v:Int)(s:Bd):(mz v s).l.length<=s.l.length+3:=by
 have a:=zhr ⟨1,0,[]⟩ s;have b:=zhr ⟨16,0,[v,(zfg ⟨1,0,[]⟩ s).1]⟩ (zfg ⟨1,0,[]⟩ s).2;have c:=Gj 1 (zfg ⟨16,0,[v,(zfg ⟨1,0,[]⟩ s).1]⟩ (zfg ⟨1,0,[]⟩ s).2).1 (zfg ⟨16,0,[v,(zfg ⟨1,0,[]⟩ s).1]⟩ (zfg ⟨1,0,[]⟩ s).2).2;have e:(mz v s).l.length<=_:=c;omega
theorem qI(c:Cx):∀(n:Nat) (x:Ex) (s:Bd) (r:Int×Bd),ed c n x s=some r->r.2.l.length<=s.l.length+cE x
 |0,_,_,_,h=>by simp[ed]at h
 |n+1,x,s,r,h=>by
  have z:=qI c n;rw[zeO];unfold ed at h;by_cases i:x.kind=1
  .rw[aq i]at h⊢;cases h;exact zhr _ s
  rw[af i]at h⊢;by_cases g:x.kind=2
  .rw[aq g]at h⊢;obtain⟨v,_,rfl⟩:=oq.1 h;exact aE _
  rw[af g]at h⊢;split at h
  .simp only[fw]at h;obtain⟨k,V,C,i,a,_,rfl⟩:=h;have Y:=z _ _ _ i;have m:=ON a.len C.1 C.2;have o:=zhr ⟨23,cp (c.arrays.map (·.name)) x.name,[(eK a.len C.1 C.2).state,C.1]⟩ (eK a.len C.1 C.2);have K:=Gi V;show(zfg _ _).2.l.length<=_;omega
  split at h
  .simp only[fw]at h;obtain⟨k0,U,zfK,M,k1,O,C,i,L,J,j,g,rfl⟩:=h;have e0:=z _ _ _ M;have Y:=z _ _ _ i;have Z:=z _ _ _ g;have m:j.2.l.length<=C.2.l.length+cE L:=Z;have o:=wa zfK.1 C.1 j.1 j.2;have K:=wa zfK.1 C.2.state (zfA zfK.1 C.1 j.1 j.2).2.state (zfA zfK.1 C.1 j.1 j.2).2;have I:=zeQ U O J;show(zfA _ _ _ _).2.l.length<=_;omega
  .simp only[fH]at h;obtain⟨k0,U,zfK,M,h⟩:=h;have a:=z _ _ _ M;split at h
   .cases h;have Y:=zhr ⟨x.op,0,[zfK.1]⟩ zfK.2;have K:=Gi U;show(zfg _ _).2.l.length<=_;omega
   .simp only[fw]at h;obtain⟨k1,O,C,i,rfl⟩:=h;have b:=z _ _ _ i;have K:=OM U O;have I:(if x.op=7\/x.op=8 then mz C.1 C.2 else C.2).l.length<=C.2.l.length+3:=by
     split
     .exact zeR _ _
     .omega
    have e6:=zhr ⟨x.op,0,[zfK.1,C.1]⟩ (if x.op=7\/x.op=8 then mz C.1 C.2 else C.2);show(zfg _ _).2.l.length<=_;omega
theorem OO(c:Cx)(n:Nat):∀(l:List Ex) (s:Bd) (r:List Int×Bd),nO c n l s=some r->r.2.l.length<=s.l.length+cEs l
 |[],s,r,h=>by cases h;exact aE _
 |x::l,s,r,h=>by
  unfold nO at h;simp only[fw]at h;obtain⟨C,i,j,g,rfl⟩:=h;have a:=qI c n _ _ _ i;have b:=OO c n l _ _ g;rw[cEs];show j.2.l.length<=_;omega
theorem OP(c:Int)(a:List Int):∀(k i:Nat) (s r:Bd),lU c a k i s=some r->r.l.length<=s.l.length+k
 |0,i,s,r,h=>by cases h;exact aE _
 |k+1,i,s,r,h=>by
  unfold lU at h;simp only[fH]at h;obtain⟨x,_,y,_,h⟩:=h;have Z:=OP c a k (i+1) _ r h;have e:r.l.length<=(zfA c x y s).2.l.length+k:=Z;have:=wa c x y s;omega
theorem OQ(base:Int):∀(U:List Nat) (j:Nat) (s:Bd),(ik base U j s).l.length<=s.l.length+U.length
 |[],j,s=>aE _
 |w::U,j,s=>by
  rw[Ln];have a:=OQ base U (j+1) { (zfg ⟨3,base+j,[]⟩ s).2 with vars:=(zfg ⟨3,base+j,[]⟩ s).2.vars.set w (zfg ⟨3,base+j,[]⟩ s).1};have b:=zhr ⟨3,base+j,[]⟩ s;rw[dg];have e:({ (zfg ⟨3,base+j,[]⟩ s).2 with vars:=(zfg ⟨3,base+j,[]⟩ s).2.vars.set w (zfg ⟨3,base+j,[]⟩ s).1}:Bd).l.length=(zfg ⟨3,base+j,[]⟩ s).2.l.length:=rfl;omega
theorem OR(lp c:Int)(old:List Int):∀(U:List Nat) (j:Nat) (s:Bd),(fB lp c old U j s).l.length<=s.l.length+2*U.length
 |[],j,s=>aE _
 |w::U,j,s=>by
  rw[Bu];have a:=OR lp c old U (j+1) { (zfA c (zfg ⟨25,j,[lp]⟩ s).1 (old.getD w 0) (zfg ⟨25,j,[lp]⟩ s).2).2 with vars:=(zfA c (zfg ⟨25,j,[lp]⟩ s).1 (old.getD w 0) (zfg ⟨25,j,[lp]⟩ s).2).2.vars.set w (zfA c (zfg ⟨25,j,[lp]⟩ s).1 (old.getD w 0) (zfg ⟨25,j,[lp]⟩ s).2).1};have b:=zhr ⟨25,j,[lp]⟩ s;have d:=wa c (zfg ⟨25,j,[lp]⟩ s).1 (old.getD w 0) (zfg ⟨25,j,[lp]⟩ s).2;rw[dg];have e:({ (zfA c (zfg ⟨25,j,[lp]⟩ s).1 (old.getD w 0) (zfg ⟨25,j,[lp]⟩ s).2).2 with vars:=(zfA c (zfg ⟨25,j,[lp]⟩ s).1 (old.getD w 0) (zfg ⟨25,j,[lp]⟩ s).2).2.vars.set w (zfA c (zfg ⟨25,j,[lp]⟩ s).1 (old.getD w 0) (zfg ⟨25,j,[lp]⟩ s).2).1}:Bd).l.length=(zfA c (zfg ⟨25,j,[lp]⟩ s).1 (old.getD w 0) (zfg ⟨25,j,[lp]⟩ s).2).2.l.length:=rfl;omega
theorem OS(c:Cx):∀n:Nat,(∀x s r,jH c n x s=some r->s.vars.length<=4->r.l.length<=s.l.length+c1 x)/\(∀l s r,eC c n l s=some r->s.vars.length<=4->r.l.length<=s.l.length+iS l)/\(∀x s r,j6 c n x s=some r->s.vars.length<=4->r.l.length<=s.l.length+(2*cE x.value+iS x.thn+16))
 |0=>⟨fun _ _ _ h=>by simp[jH]at h,fun _ _ _ h=>by simp[eC]at h,fun _ _ _ h=>by simp[j6]at h⟩
 |n+1=>by
  obtain⟨I1,K,I3⟩:=OS c n;refine⟨fun x s r h U=>?_,fun l s r h U=>?_,fun x s r h U=>?_⟩
  .rw[zeP];unfold jH at h;by_cases k1:x.kind=1
   .rw[aq k1]at h⊢;simp only[fH]at h;obtain⟨r1,Z,h⟩:=h;split at h
    .cases h;exact qI c n _ _ _ Z
    .cases h
   rw[af k1]at h⊢;by_cases k2:x.kind=2
   .rw[aq k2]at h⊢;simp only[fw]at h;obtain⟨i,Z,v,V,a,_,rfl⟩:=h;have L:=qI c n _ _ _ Z;have M:=qI c n _ _ _ V;have o:=ON a.len i.1 v.2;have e4:=zhr ⟨28,cp (c.arrays.map (·.name)) x.name,[(eK a.len i.1 v.2).state,i.1,v.1]⟩ (eK a.len i.1 v.2);show(zfg _ _).2.l.length<=_;omega
   rw[af k2]at h⊢;by_cases k3:x.kind=3
   .rw[aq k3]at h⊢;simp only[fw]at h;obtain⟨v,Z,a,V,b,J,m,z,rfl⟩:=h;have L:=qI c n _ _ _ Z;have g:=(zgg c n _ _ _ Z).v;have M:=K _ _ _ V (by rw[g];exact U);have j:=K _ _ _ J (by show v.2.vars.length<=4;rw[g];exact U);have o:b.l.length<=a.l.length+iS x.els:=j;have v3':=((kR c n).2.1 _ _ _ J).2;have I:b.vars.length=v.2.vars.length:=v3';have e4:=OP _ _ _ _ _ _ z;have e5:=wa v.1 a.state m.state m;rw[g]at I;show(zfA _ _ _ _).2.l.length<=_;omega
   rw[af k3]at h⊢;by_cases k4:x.kind=4
   .rw[aq k4]at h⊢;exact I3 _ _ _ h U
   rw[af k4]at h⊢;by_cases k5:x.kind=5
   .rw[aq k5]at h⊢;simp only[fw]at h;obtain⟨v,Z,rfl⟩:=h;have L:=qI c n _ _ _ Z;have M:=zhr ⟨29,0,[v.2.state,v.1]⟩ v.2;show(zfg _ _).2.l.length<=_;omega
   rw[af k5]at h⊢;by_cases k6:x.kind=6
   .rw[aq k6]at h⊢;simp only[fH]at h;obtain⟨O,Z,h⟩:=h;split at h
    .cases h;have L:=OO c n _ _ _ Z;have M:=zhr ⟨30,zgz c.funcs x.to 0,O.2.state::O.1⟩ O.2;generalize zfg ⟨30,zgz c.funcs x.to 0,O.2.state::O.1⟩ O.2=q at *;have o:=zhr ⟨24,0,[q.1]⟩ ⟨q.2.l,q.2.vars,q.1,q.2.loops⟩;simp only at o⊢;omega
    .cases h
   rw[af k6]at h⊢;by_cases k7:x.kind=7
   .rw[aq k7]at h⊢;cases h;have M:=zhr ⟨1,0,[]⟩ s;have o:=Gj (cu (16+x.n)) (zfg ⟨1,0,[]⟩ s).1 (zfg ⟨1,0,[]⟩ s).2;show(my _ _ _).l.length<=_;omega
   rw[af k7]at h⊢;cases h;exact aE _
  .unfold eC at h;cases l with
   |nil=>cases h;exact aE _
   |cons x l=>
    simp only[fH]at h;obtain⟨a,Z,V⟩:=h;have L:=I1 _ _ _ Z U;have g:=((kR c n).1 _ _ _ Z).2;have M:=K _ _ _ V (by rw[g];exact U);rw[iS];omega
  .unfold j6 at h;simp only[fw]at h;obtain⟨v,Z,b,V,t,J,d,z,rfl⟩:=h;have C:=qI c n _ _ _ Z;have L:v.2.l.length<=s.l.length+cE x.value:=C;clear C;have v1':=(zgg c n _ _ _ Z).v;have g:v.2.vars=s.vars:=v1';have hb:b.length=v.2.vars.length:=by rw[uk _ _ _ _ _ V,pZ]
   have hw:=Fz b;rw[hb,g]at hw;have M:=zhr ⟨3,16*(s.loops:Int),[]⟩ v.2;have v2:(zfg ⟨3,16*(s.loops:Int),[]⟩ v.2).2.vars=v.2.vars:=rfl;generalize zfg ⟨3,16*(s.loops:Int),[]⟩ v.2=Y at *;have o:=OQ (16*(s.loops:Int)+1) (zgG b) 0 ⟨Y.2.l,Y.2.vars,Y.1,Y.2.loops⟩;have I:=(pA (16*(s.loops:Int)+1) (zgG b) 0 ⟨Y.2.l,Y.2.vars,Y.1,Y.2.loops⟩).2.2.1;simp only at o I;have e4:=K _ _ _ J (by rw[I,v2,g];exact U);have e5:=qI c n _ _ _ z;generalize hk:zfg ⟨31,s.loops,v.2.state::((zgG b).map fun i=>v.2.vars.getD i 0)++[d.1,d.2.state]++((zgG b).map fun i=>d.2.vars.getD i 0)⟩ d.2=k;have e6:k.2.l.length<=d.2.l.length+1:=by rw[<-hk];exact zhr _ _
   have e7:=zhr ⟨25,0,[k.1]⟩ ⟨k.2.l,v.2.vars,k.2.state,k.2.loops⟩;simp only at e7;generalize zfg ⟨25,0,[k.1]⟩ ⟨k.2.l,v.2.vars,k.2.state,k.2.loops⟩=q at *;have e8:=wa v.1 q.1 v.2.state q.2;generalize zfA v.1 q.1 v.2.state q.2=m at *;have e9:=OR k.1 v.1 v.2.vars (zgG b) 1 ⟨m.2.l,m.2.vars,m.1,m.2.loops⟩;simp only at e9;omega
theorem OT{L:List Int}(h:L≠[]):(zfP L).2.length+1=L.length:=by
 cases L with
 |nil=>exact absurd rfl h
 |cons a l=>simp[zfP]
theorem qJ(f:Int):∀(k I:Nat) (L:List Int),k+I=5->I<=4->cE (zfC f k I L).1+4*(zfC f k I L).2.length<=4*L.length
 |0,I,L,h,hd=>by omega
 |k+1,I,L,h,hd=>by
  have z:=fun L (hd:¬(3:Int)<I)=>qJ f k (I+1) L ac ac;by_cases o:L=[]
  .subst o;have e:zgv (zfP []).1 16=0:=aD;simp only[zfC];rw[e,aq (.inl aD),aq (.inl aD)];simp[cE,zfP]
  .have Y:=OT o;simp only[zfC];generalize zgv (zfP L).1 16=q;generalize zgv (cu ((zfP L).1.tdiv 16)) 1000=m;generalize (zfP L).2=Z at *;by_cases hc:q<4\/(3:Int)<I
   .rw[aq hc];split
    .simp only[cE,Int.reduceEq,reduceIte];omega
    .simp only[cE,Int.reduceEq,reduceIte];omega
   have g:¬(3:Int)<I:=fun e=>hc (.inr e);rw[af hc];split
   .have a:=z Z g;simp only[cE,cEs,Int.reduceEq,reduceIte];omega
   split
   .have a:=z Z g;have b:=z (zfC f k (I+1) Z).2 g;have c:=z (zfC f k (I+1) (zfC f k (I+1) Z).2).2 g;simp only[cE,cEs,Int.reduceEq,reduceIte];omega
   split
   .have a:=z Z g;simp only[cE,cEs,Int.reduceEq,reduceIte];omega
   .have a:=z Z g;have b:=z (zfC f k (I+1) Z).2 g;simp only[cE,cEs,Int.reduceEq,reduceIte];omega
theorem OU(f:Int):∀(n:Nat) (L:List Int),cEs (zg8 f n L).1+4*(zg8 f n L).2.length<=4*L.length
 |0,L=>by simp[zg8,cEs]
 |n+1,L=>by
  have a:=qJ f 3 2 L ac ac;have b:=OU f n (zfC f 3 2 L).2;simp only[zg8,cEs];omega
theorem zy2{Z:Int->zf8->List St×zf8}(K:∀J s,iS (Z J s).1+16*(Z J s).2.1.length<=16*s.1.length)(f:Int)(L:List Int)(c q m:Int):c1 (zg7 Z f L c q m).1+16*(zg7 Z f L c q m).2.1.length<=16*(L.length+1):=by
 unfold zg7;split
 .have a:=qJ f 5 0 L ac ac;simp only[c1,Int.reduceEq,reduceIte];omega
 split
 .have a:=qJ f 3 2 L ac ac;have b:=qJ f 4 1 (zfC f 3 2 L).2 ac ac;simp only[c1,Int.reduceEq,reduceIte];omega
 split
 .have a:=qJ f 4 1 L ac ac;have b:=K 3 ((zfC f 4 1 L).2,c);have d:=K 2 (Z 3 ((zfC f 4 1 L).2,c)).2;simp only at b;simp only[c1,Int.reduceEq,reduceIte];omega
 split
 .have a:=qJ f 4 1 L ac ac;have b:=K 3 ((zfC f 4 1 L).2,cu (c+1));simp only at b;simp only[c1,Int.reduceEq,reduceIte];omega
 split
 .have a:=qJ f 4 1 L ac ac;simp only[c1,Int.reduceEq,reduceIte];omega
 split
 .have a:=OU f (2-m.tmod 2).toNat L;simp only[c1,Int.reduceEq,reduceIte];omega
 .simp only[c1,Int.reduceEq,reduceIte];omega
theorem Gk{step:zf8->St×zf8}(K:∀s,s.1≠[]->c1 (step s).1+16*(step s).2.1.length<=16*s.1.length):∀(n:Nat) (s:zf8),iS (fK step n s).1+16*(fK step n s).2.1.length<=16*s.1.length
 |0,s=>by simp[fK,iS]
 |n+1,s=>by
  rw[fK];split
  .simp[iS]
  .rename_i h;have a:=K s h;have b:=Gk K n (step s).2;simp only[iS];omega
theorem OV(f:Int):∀(k I:Nat) (s:zf8),s.1≠[]->c1 (zg4 f k I s).1+16*(zg4 f k I s).2.1.length<=16*s.1.length
 |0,I,s,h=>by simp[zg4,c1]
 |k+1,I,s,h=>by
  rw[zg4,sV];have e:=OT h;rw[<-e];exact zy2 (fun J s=>by
   have a:=Gk (OV f k (I+1)) (zgv (zfP s.1).1 (J+1)).toNat ((zfP s.1).2,s.2);have b:=zhN s.1;simp only at a;omega) _ _ _ _ _
theorem OW(f:Int)(k deep:Nat)(J:Int)(s:zf8):iS (j9 f k deep J s).1+16*(j9 f k deep J s).2.1.length<=16*s.1.length:=by
 have a:=Gk (OV f k deep) (zgv (zfP s.1).1 (J+1)).toNat ((zfP s.1).2,s.2);have b:=zhN s.1;simp only at a;unfold j9;omega
theorem zeT(l:List Int):∀f∈(zfZ l).funcs,iS f.body+cE f.value<=960/\f.params.length+f.locals.length<=4:=by
 have M:(l.take 60).length<=60:=rY;have Z:=zhN (l.take 60);have J:iS (hO (l.take 60)).1+16*(hO (l.take 60)).2.1.length<=16*(zfP (l.take 60)).2.length:=OW 0 4 0 5 ((zfP (l.take 60)).2,0);have g:cE (jL (l.take 60)).1+4*(jL (l.take 60)).2.length<=4*(hO (l.take 60)).2.1.length:=qJ 0 4 1 _ ac ac;have I:iS (lB (l.take 60)).1+16*(lB (l.take 60)).2.1.length<=16*(jL (l.take 60)).2.length:=OW 1 3 1 3 ((jL (l.take 60)).2,(hO (l.take 60)).2.2);have Y:cE (rL (l.take 60)).1+4*(rL (l.take 60)).2.length<=4*(lB (l.take 60)).2.1.length:=qJ 1 4 1 _ ac ac;intro f i;simp only[zfZ,ly]at i;rcases i with rfl|rfl
 .exact⟨by show iS (hO (l.take 60)).1+cE (jL (l.take 60)).1<=960;omega,by show 2+2<=4;omega⟩
 .exact⟨by show iS (lB (l.take 60)).1+cE (rL (l.take 60)).1<=960;omega,by show 1+1<=4;omega⟩
theorem OX:∀(m k:Nat) (s:Bd),(il m k s).l.length<=s.l.length+m
 |0,k,s=>aE _
 |m+1,k,s=>by
  have a:(il (m+1) k s).l.length<=(zfg ⟨2,k,[]⟩ s).2.l.length+m:=OX m (k+1) _;have b:=zhr ⟨2,k,[]⟩ s;omega
theorem OY:∀(m:Nat) (s:Bd),(j7 m s).l.length<=s.l.length+m
 |0,s=>aE _
 |m+1,s=>by
  have a:(j7 (m+1) s).l.length<=(zfg ⟨1,0,[]⟩ s).2.l.length+m:=OY m _;have b:=zhr ⟨1,0,[]⟩ s;omega
theorem zu7(f:Fu):(zhn f).l.length<=1+f.params.length+f.locals.length/\(zhn f).vars.length=f.params.length+f.locals.length:=by
 have z:(zfg ⟨26,0,[]⟩ ⟨[],[],0,0⟩).2.l.length<=1:=zhr _ _;have Z:(il f.params.length 0 { (zfg ⟨26,0,[]⟩ ⟨[],[],0,0⟩).2 with state:=(zfg ⟨26,0,[]⟩ ⟨[],[],0,0⟩).1}).l.length<=(zfg ⟨26,0,[]⟩ ⟨[],[],0,0⟩).2.l.length+f.params.length:=OX _ _ _;have m:(zhn f).l.length<=_:=OY f.locals.length _;have g:=(x8 f.params.length 0 { (zfg ⟨26,0,[]⟩ ⟨[],[],0,0⟩).2 with state:=(zfg ⟨26,0,[]⟩ ⟨[],[],0,0⟩).1}).2;have I:(zhn f).vars.length=_:=(x9 f.locals.length _).2;have Y:({ (zfg ⟨26,0,[]⟩ ⟨[],[],0,0⟩).2 with state:=(zfg ⟨26,0,[]⟩ ⟨[],[],0,0⟩).1}:Bd).vars.length=0:=rfl;exact⟨ac,ac⟩
theorem zeV{p:Pr}{n:Nat}{f:Fu}{g:Gr}(h:iL p n f=some g)(U:f.params.length+f.locals.length<=4):g.nodes.length<=5+iS f.body+cE f.value:=by
 unfold iL at h;simp only[fw]at h;obtain⟨s,i,v,Z,rfl⟩:=h;obtain⟨a,b⟩:=zu7 f;have Y:=(OS _ n).2.1 _ _ _ i ac;have m:=qI _ n _ _ _ Z;show v.2.l.length<=_;omega
theorem OZ{p:Pr}{n:Nat}:∀(l:List Fu) (o:List Gr),(∀f∈l,∃g,iL p n f=some g/\g.nodes.length<=2000)->∃K,mA p n l o=some (⟨p.arrays,o++K⟩,0)/\cR (fun f g=>iL p n f=some g/\g.nodes.length<=2000) l K
 |[],o,_=>⟨[],by rw[mA,bi],trivial⟩
 |f::l,o,h=>by
  obtain⟨g,i,Z⟩:=h f dJ;obtain⟨K,m,O⟩:=OZ l (o++[g]) fun x C=>h x (dO _ C)
  refine⟨g::K,?_,⟨i,Z⟩,O⟩;rw[mA,i,b8,af ac,m,nu];rfl
theorem O0{l:List Int}(hr:hU l):PrIn (zfZ l):=⟨Ce l,OG hr⟩
theorem O1{l:List Int}(hr:hU l):LwOk (zfZ l):=⟨by have:=zu3 l;omega,fun _=>OG hr⟩
theorem zy3{l:List Int}(hr:hU l):∃f g,jK (zfZ l)=(⟨mG (l.take 60),[f,g]⟩,0)/\iL (zfZ l) (2*(zfZ l).sz+1) (gw (l.take 60))=some f/\iL (zfZ l) (2*(zfZ l).sz+1) (gy (l.take 60))=some g/\f.nodes.length<=965/\g.nodes.length<=965/\(∀n∈f.nodes,n.kids.length<=40)/\∀n∈g.nodes,n.kids.length<=40:=by
 have hp:=O0 hr;have U:∀f∈(zfZ l).funcs,∃g,iL (zfZ l) (2*(zfZ l).sz+1) f=some g/\g.nodes.length<=2000/\g.nodes.length<=965/\∀n∈g.nodes,n.kids.length<=40:=fun f i=>by
  obtain⟨s,v,M,m,I,_⟩:=FJ hp (cI _) i;obtain⟨c1,L⟩:=zeT l f i;have e:iL (zfZ l) (2*(zfZ l).sz+1) f=some ⟨f.name,f.params.length,v.2.l,v.1,v.2.state⟩:=by rw[iL,M,b8,m,b8]
  have:=zeV e L;exact⟨_,e,ac,ac,fun n z=>(I.p n z).len⟩
 obtain⟨K,o,Y⟩:=OZ (p:=zfZ l) (n:=2*(zfZ l).sz+1) (zfZ l).funcs [] fun f i=>by obtain⟨g,a,b,_⟩:=U f i;exact⟨g,a,b⟩
 have Z:jK (zfZ l)=(⟨mG (l.take 60),K⟩,0):=by
  rw[jK,qi,aq (Ce l),o];rfl
 have i:(zfZ l).funcs=[gw (l.take 60),gy (l.take 60)]:=rfl;rw[i]at Y U
 match K,Y,Z with
 |[f,g],Y,Z=>
  obtain⟨⟨C,_⟩,⟨V,_⟩,_⟩:=Y;obtain⟨f',J,_,j,b5⟩:=U _ dJ;obtain⟨g',O,_,b4,b6⟩:=U _ (dO _ dJ);rw[C]at J;rw[V]at O;cases J;cases O;exact⟨f,g,Z,C,V,j,b4,b5,b6⟩
end Go.Proofs.YtpbcimfiofmoeaaGreat
namespace Go.Ab
set_option maxRecDepth 20000
open Go Go.WideShapes Go.Deep Go.RowKit Go.ChangeShapes
def yJ(W:World):Nat->Nat->Option Value:=fun b o=>W.cell? ⟨b,o,none⟩
theorem zy4(W:World):∀b o v,yJ W b o=some v->W.cell? ⟨b,o,none⟩=some v:=fun _ _ _ h=>h
section
variable {H:Type} {enc:TypeId × Value -> H} {P:Program} {W:World}
theorem zrY{r:Reach}{b0:Nat}{t e:TypeId}{k:IntKind}{v:Value}{d:DataW H}{ps:List MemPlace}{sp:Nat->Bool}{C:Bool}(ht:P.underlying t=some (.slice e))(he:P.underlying e=some (.int k))(hc:P.cellsOf e=1)(J:Value.okWide P W r b0 t v)(hd:DataW.Trod enc P W 0 sp C t v d ps)(β:Nat->Option (Nat×Nat×Nat))(ρ:Nat->Int):
 ∃l:List Int,VR ⟨β,yJ W,ρ⟩ (.lst (l.map fun n=>[AV.int k n])) v/\l.length<=maxLen/\∀n∈l,(Lit.int k n).wf=true:=by
 obtain⟨zhI,nR,Z,rfl⟩:=okWide_slice ht J;obtain⟨fuel,hf⟩:=hd;rcases open_slice1 ht hc hf with⟨h,_⟩|⟨a,len,cap,m,n,V,D,Pl,h,hb,hl,hm,hmm,hx,hV⟩
 .simp[Value.cells]at h;obtain⟨rfl,rfl,rfl⟩:=h;exact⟨[],.lst0 _ _,dZ _,fun _ h=>absurd h au⟩
 .simp[Value.cells]at h;obtain⟨rfl,rfl,rfl⟩:=h;have hlm:nR<=m:=by rw[hmm];split<;>omega
  have K:∀i,∃n:Int,i<nR->V i=.int k n/\(Lit.int k n).wf=true:=fun i=>by
   by_cases I:i<nR
   .obtain⟨n',h1,_,h2⟩:=DataW.trod_int he (hV i ac).2;simp at h1;exact⟨n',fun _=>⟨h1,h2⟩⟩
   .exact⟨0,fun h=>absurd h I⟩
  obtain⟨N,U⟩:=Classical.axiomOfChoice K;have hN:∀i,i<nR->V i=.int k (N i):=fun i h=>(U i h).1;refine⟨(List.range nR).map N,?_,cC,fun n hn=>by
   obtain⟨i,I,rfl⟩:=lc.1 hn;exact(U i (kZ.1 I)).2⟩
  by_cases h0:nR=0
  .subst h0;exact .lst0 _ _
  obtain⟨ab,ao,O⟩:=a;have M:O=none:=by
   have:=(hV 0 ac).1;simp only[Addr.add,cV,World.cell?]at this;split at this
   .split at this
    .cases this
    .rename_i hn;cases O with
     |none=>rfl
     |some s=>simp at hn
   .cases this
  subst M;have L:(((List.range nR).map N).map fun n=>[AV.int k n]).length=nR:=au;have g:=VR.lst (G:=⟨β,yJ W,ρ⟩) (xs:=((List.range nR).map N).map fun n=>[AV.int k n]) (b:=ab) (o:=ao) (cap:=Z) (z:=1) (fun i _=>V i) ?_ ?_ ?_ (by rw[L];omega)
  .rw[L]at g;exact g
  .intro i row hr;rw[fT]at hr;cases hq:((List.range nR).map N)[i]? with
   |none=>rw[hq]at hr;simp at hr
   |some q=>rw[hq]at hr;simp only[jh,az]at hr;rw[<-hr];rfl
  .intro i j I hj;rw[L]at I;have h2:=(hV i ac).1;show W.cell? ⟨ab,ao+i*1+j,none⟩=some (V i);have hj0:j=0:=ac;subst hj0;rw[<-h2]
   congr 1
   unfold Addr.add;split
   .rename_i h;subst h;rfl
   .simp
  .intro i j row c hr Y;rw[fT,fT]at hr;by_cases I:i<nR
   .rw[zm I]at hr;simp only[jh,az]at hr;subst hr;cases j with
    |zero=>
     simp only[pm,az]at Y;subst Y;show VR _ _ (V i);rw[hN i I];exact .int k _
    |succ j=>simp at Y
   .rw[gI cC]at hr;simp at hr
theorem zrZ{t:TypeId}(V:laidOutB P=true)(hr:P.readableRec t=true)(Z:t<P.types.size){z:World}{v:Value}{d:DataW H}{ps o:List MemPlace}
 (h:DataW.Trod enc P W 0 (fun _=>true) true t v d ps) (U:Below W.heap.size W z) (O:∀p∈o,p.block<W.heap.size) (L:∀p∈ps,p∈o) {Y:Nat->Bool} (M:∀p∈o,Y p.block=true) :
 DataW.Trod enc P z 0 Y true t v d ps:=
 WideElems.Trod_stays V hr Z h (fun x C=>U.same (O x (L x C))) fun x C=>M x (L x C)
end
end Go.Ab
namespace Go.Proofs.YtpbcimfiofmoeaaGreat
set_option maxRecDepth 20000
open Go Go.Ab
def pG(l:List Int):AV:=.lst (l.map fun n=>[.int .i64 n])
theorem O2:∀{a b:List Int},(a.map fun n=>[AV.int .i64 n])=(b.map fun n=>[AV.int .i64 n])->a=b
 |[],[],_=>rfl
 |[],_::_,h=>by simp at h
 |_::_,[],h=>by simp at h
 |x::a,y::b,h=>by
  simp only[dE,eB,AV.int.injEq,a0,kA]at h;rw[h.1,O2 h.2]
theorem zn8{a b:List Int}(h:pG a=pG b):a=b:=O2 (by simpa only[pG,AV.lst.injEq]using h)
theorem O3(l:List Int):fq (pG l):=.map fun n _=>.cons (.int _ _) .nil
theorem zr0{n:Nat}(h:n<=maxLen):n<2^63:=uc h aD
theorem cells_int:Tryz.prog.cellsOf 3=1:=aj
set_option maxRecDepth 100000 in
theorem zpD{H:Type}{enc:TypeId×Value->H}{W:World}{z:Value}{r:Reach}{J:Nat}(k0:Value.okWide Tryz.prog W r J 23 z){d:DataW H}{ps:List MemPlace}{Z:Nat->Bool}{C:Bool}(M:DataW.Trod enc Tryz.prog W 0 Z C 23 z d ps):∃l:List Int,VR ⟨fun _=>none,yJ W,fun _=>0⟩ (pG l) z/\l.length<2^63/\∀n∈l,-9223372036854775808<=n/\n<9223372036854775808:=by
 obtain⟨l,U,L,hr⟩:=zrY Tryz.underlying23 Tryz.underlying3 cells_int k0 M (fun _=>none) (fun _=>0);refine⟨l,U,zr0 L,fun n Y=>?_⟩;have h:=hr n Y;have V:IntKind.min .i64=-9223372036854775808:=aD;have m:IntKind.max .i64=9223372036854775807:=aD;simp only[Lit.wf,iX,V,m]at h;omega
def zgM(f:FuncId):Bool:=f == 57||f == 36||f == 99999999||f == 44
structure Std (cfg:Cfg):Prop where
 plain:∀f,zgM f=false->Plain cfg f
 keep:∀f,cfg.keep f=false
 plan:cfg.plan=w8 pls
namespace tyGX
end tyGX
open tyGX
theorem zn9(ρ:Nat->Int)(l:List Int)(L:l.length<2^63):ce Tryz.prog ρ 25 [pG l] (.agg (zfZ l).cells):=by
 refine KZ (n:=60) (cfg:=zfn pls BK) fit (pO ρ) (fun g C r J=>iF.look (l:=BK) (zyq ρ) g C r J) (.cons (O3 l) .nil) ?_;refine aS (fun v H' h=>?_) (zpB MD (zeq MD) l L zfM);obtain⟨K,m,x,y,I,o,rfl,V,_,_⟩:=h;obtain⟨Z,i,U⟩:=V.cells;have M:zgf (fun q=>zfM.next<=q) 100 H' (.agg [.sl K 0 2 2,.sl m 0 2 9]) (.agg Z):=zgf.up (n:=16) ⟨Z,i,rfl⟩ ac;obtain⟨Y,O⟩:=zgf.iceV M;refine⟨Y,.agg Z,O Y (aE _),?_⟩;show AV.agg (Z.map (cF 59))=_;rw[U 59 ac]
noncomputable def O4:En:=⟨25,false,dc (fun l=>l.length<2^63) (fun l=>[pG l]) fun l=>.agg (zfZ l).cells⟩
theorem zr1(ρ:Nat->Int):zgE Tryz.prog ρ O4:=zgO fun x C=>zn9 ρ x C
end Go.Proofs.YtpbcimfiofmoeaaGreat
