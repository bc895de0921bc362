/- Lemmas for the last file. -/
import Derived.Test.YtbflaciihaijgaaGreatJEM
set_option linter.all false
set_option maxHeartbeats 32000000
namespace Go.Ab
set_option maxRecDepth 20000
open Go
variable{qf:Prop}
def Gp(h:qf:=by rw[List.getD_eq_getElem?_getD,List.getElem?_eq_getElem Z];exact List.getElem_mem Z):=h
def SX(h:qf:=by obtain⟨a,_,rfl⟩:=List.mem_map.1 z;exact a.bh):=h
def zG(h:qf:=by simp only[tc,aZ];omega):=h
def SY(h:qf:=by simp only[List.all_cons,List.all_nil,w0,dC,w2,w3,w4,Bool.and_true];rfl):=h
def SZ(h:qf:=by simp only[aG,Nat.reduceBEq, *];exact gX (n:=r.2.vars.length) ac ac):=h
def S0(h:qf:=by rw[<- i,Hp.get_set,if_neg ac,aD,if_neg ac]):=h
def Gq(h:qf:=by rw[Hp.get_set,if_neg ac,Hp.get_set,if_neg ac]):=h
def cy:=@Option.bind_some
end Go.Ab
namespace Go.Proofs.YtbflaciihaijgaaGreat
set_option maxRecDepth 20000
open Go Go.Ab Proofs.Tryz
variable{X:Qx}{S S' O:Nat->Prop}{Z l:qu}{lo i k:Nat}{H H' H2:Hp}{L C Y:AV}{x f c q m:Int}{s:Bd}{V:qB}{E2:ax}
section
def tyQaH.tyF:=ad @ec (ad @cA (ad @dw (ad @gQ (ad @jA (ad @iL (ad @eZ (ad @fX (ad @fU (ad @fL (ad @fM (ad @fb (ad @gF (ad @tl (@KL))))))))))))))
open tyQaH
structure zf1 (X:Qx) (S:Nat->Prop) (vv:AV) (lo:Nat) (H:Hp) (av:AV) (l:qu):Prop where
 r:i7 H av l lo
 n:∀k,bc av k->¬S k/\¬bc vv k/\¬bc X.nv k
def zf1.fr{vv Z:AV}(h:zf1 X S vv lo H L l)(hb:X.b<lo)(f:FrQ X S vv H S' Z H'):zf1 X S' Z lo H' L l:=by
 refine⟨h.r.keep f.next fun k j=>?_,fun k j=>?_⟩
 .have a:=h.r.lt j;have b:=h.n k j;exact f.get k a.2 ac b.1 b.2.1
 .have a:=h.r.lt j;have b:=h.n k j;refine⟨fun e=>?_,fun e=>?_,b.2.2⟩
  .rcases f.sub k e with e|e
   .exact b.1 e
   .omega
  .rcases f.own k e with e|e
   .exact b.2.1 e
   .omega
def zf1.at{vv:AV}(h:zf1 X S vv lo H L l)(C:l[i]?=some x):∃r,ej prog 26 L (.int .i64 (i:Int))=some (.ptr r i)/\gL prog H 3 (.ptr r i)=some (.int .i64 x)/\bc L r:=
 RowZ.at (S:=fun _=>False) (vv:=.ak) (lo:=lo) ⟨h.r,fun k _=>⟨fun e=>e,fun e=>sJ e⟩⟩ C
def Gs(tb:qB)(X:Qx)(c:Cx)(n:Nat):Prop:=∀(l:qE) (s r:Bd),iH c n l s=some r->Fin r->bH l<2^36->s.vars.length<2^36->∀{H:Hp}{S:Nat->Prop}{lv vv:AV},zd1 X H S s lv vv->aM prog (ay pls tb) 68 [.ptr X.b 0,.aE (l.map St.cells)] H (pP X S vv H r)
section
variable {tb:qB} (hG:zd7 tb) {X:Qx} {c:Cx} (hX:CxQ X c) {x:St} {s:Bd} {H:Hp} {S:Nat -> Prop} {lv vv:AV}
set_option maxRecDepth 100000 in
include hG hX in
theorem zhH{n:Nat}(j:x.aw=3)(IH:Gs tb X c n){r:Int×Bd}{a b m:Bd}(h1:fE c n x.value s=some r)(h2:iH c n x.a9 r.2=some a)(h3:iH c n x.bl {a with ab:=r.2.ab,vars:=r.2.vars}=some b)(h4:oV r.1 a.vars b.vars.length 0 b=some m)
 (hF:Fin (b9 r.1 a.ab m.ab m).2) (hz:x.sz<2^36) (hvl:s.vars.length<2^36) (hR:zd1 X H S s lv vv) :
 aM prog (ay pls tb) 108 [.ptr X.b 0,.agg x.cells] H (pP X S vv H { (b9 r.1 a.ab m.ab m).2 with ab:=(b9 r.1 a.ab m.ab m).1}):=by
 have hw:zd0 (ay pls tb) 108:=hG.plain eN;have hkeep:(ay pls tb).keep 108=false:=rfl;have R1:=hR.alloc (.cells x.cells 0 true);have F1:=(fS X S vv H).alloc (.cells x.cells 0 true);have hFm:Fin m:=hF.le (iO _ _ _ _).le;have hml:=xY _ _ _ _ _ _ h4;have hFb:Fin b:=hFm.le hml.1;have e3:=(mH c n).2.1 _ _ _ h3;have e2:=(mH c n).2.1 _ _ _ h2;have hFa:Fin a:=hFb.le ⟨e3.1.l,e3.1.n⟩;have hFr:Fin r.2:=hFa.le e2.1;have hsz:=x.aT;have o5:=hR.o5;have hlv:=eO c n _ _ _ h1;have hrl:r.2.vars.length<2^36:=by rw[hlv.v];exact hvl
 have hbl:b.vars.length<2^36:=by rw[e3.2];exact hrl
 clear e3 e2 hml hlv;refine a0 (M:=241) (rs:=[]) (hw.call _) hw.aG hw.az func108 rfl rfl nI.2 rfl ?_;dsimp only[nI,aW,Nat.reduceAdd];repeat' (first
  |(apply aj ?_;clear hK K)|apply aQ ?_|(apply aV ?_ ?_<;>(intro hb hbp;try(cases hb;done)))|(apply ak fun K hK=>?_)|fail)
 refine qd ?_;refine aY ?_ (sO hG hX n x.value s r h1 hFr R1);rintro w H2 ⟨rfl,S2,lv2,R2,F2⟩;have g2:=gJ hR F2;have m2:=R2.m;have n2:H.next+1<=H2.next:=F2.next
 obtain⟨cv,H3,a3,c3,n3,q3⟩:=KN (H:=H2) R2.vars.n ac;have R3:zd1 X H3 S2 r.2 lv2 vv:=R2.keep ac fun k h _=>q3 k h;have F3:FrQ X S2 vv H2 S2 vv H3:=⟨ac,fun k h _ _ _=>q3 k h,fun _ h=>.inl h,fun _ h=>.inl h⟩;have m2a:=(R2.alloc qh).m;have m3:=R3.m;have g3:H3.get H.next=some (.cells x.cells 0 true):=by rw[q3 _ ac];exact g2
 have z3:zf1 X S2 vv (H.next+1) H3 cv r.2.vars:=⟨c3.lo fun k j=>by have:=c3.lt j;omega,fun k j=>by
  have:=R2.new (c3.lt j).1;exact⟨this.1,this.2.1,fun e=>by have:=(R2.nS k e).2.1;have:=(c3.lt j).1;omega⟩⟩
 obtain⟨hc1,hc2⟩:=c3.one;dsimp only[bI]at m2 m2a m3;dsimp only[aU];refine dY fun K hK=>?_;refine qd ?_;refine aY ?_ (IH x.a9 r.2 a h2 hFa ac hrl R3);rintro w H4 ⟨S4,g,O,C,F4⟩;have L:=F2.trans (F3.trans F4);have g4:=gJ hR L;have z4:=z3.fr ac F4;have m4:=C.m;obtain⟨R4s,F4s⟩:=C.setS r.2.ab;have m4s:=R4s.m;have zs:=z4.fr (X:=X) ac F4s;have R5:=R4s.swapV (vw:=cv) (l:=r.2.vars) (zs.r.lo fun k _=>de _) (fun k j=>⟨by have:=zs.r.lt j;omega,(zs.r.lt j).2,(zs.n k j).1,(zs.n k j).2.2⟩);have m5:=R5.m;have hk5:∀k,k≠X.b->((H4.set X.b (.cells (bI X {a with ab:=r.2.ab} g O) 0 true)).set X.b (.cells (bI X {a with ab:=r.2.ab,vars:=r.2.vars} g cv) 0 true)).get k=H4.get k:=fun k j=>by rw[aA,af j,aA,af j]
 have I:FrQ X S vv (H.alloc (.cells x.cells 0 true)) S4 cv ((H4.set X.b (.cells (bI X {a with ab:=r.2.ab} g O) 0 true)).set X.b (.cells (bI X {a with ab:=r.2.ab,vars:=r.2.vars} g cv) 0 true)):=⟨L.next,fun k h1 h2 h4 h5=>by rw[hk5 k h2];exact L.get k h1 h2 h4 h5,L.sub,fun k j=>.inr (z4.r.lt j).1⟩;have g5:=gJ hR I;have v5:i7 ((H4.set X.b (.cells (bI X {a with ab:=r.2.ab} g O) 0 true)).set X.b (.cells (bI X {a with ab:=r.2.ab,vars:=r.2.vars} g cv) 0 true)) O a.vars 0:=C.vars.keep (aH _) fun k j=>hk5 k (by have:=(C.vS k j).1;omega);have y5':zf1 X S4 cv (X.b+1) ((H4.set X.b (.cells (bI X {a with ab:=r.2.ab} g O) 0 true)).set X.b (.cells (bI X {a with ab:=r.2.ab,vars:=r.2.vars} g cv) 0 true)) O a.vars:=⟨v5.lo fun k j=>(C.vS k j).1,fun k j=>⟨fun e=>(C.sS k e).2.2 j,fun e=>(z4.n k e).2.1 j,fun e=>(C.nS k e).2.2.2 j⟩⟩;clear v5;clear hk5 F4s zs z4 z3 F3 L;dsimp only[bI]at m4 m4s m5 R5 I y5' g5;dsimp only[aU];refine dY fun K hK=>?_;refine qd ?_;refine aY ?_ (IH x.bl _ b h3 hFb ac hrl R5);rintro w H6 ⟨S6,lv6,J,R6,F6⟩;have F06:=I.trans F6;have y6:=y5'.fr ac F6;have n6:H.next+1<=H6.next:=F06.next
 clear F6 I R5 R4s C y5' m5 m4s m4 g5 g4;dsimp only[aU];refine eh ?_;refine bY [0,3,12,15,16] [] 17 b.vars.length (fun i E Hi=>∃Y Si lvi,oV r.1 a.vars (b.vars.length-i) i Y=some m/\zd1 X Hi Si Y lvi J/\FrQ X S vv (H.alloc (.cells x.cells 0 true)) Si J Hi/\zf1 X Si J (X.b+1) Hi O a.vars/\Y.vars.length=b.vars.length) eE ⟨b,S6,lv6,h4,R6,F06,y6,rfl⟩ ?_;clear R6 F06 y6;rintro i E Hi hi hcE hrH hnH hsI ⟨Y,Si,lvi,V,Ri,Fi,yi,hil⟩;(try simp only[bq,aT,aN,aG,aR,Nat.reduceBEq, *]at hcE);(try simp only[aT, *]at hrH);(try simp only[aZ,br,bX,bK,Nat.reduceAdd]at hnH);have mi:=Ri.m;have hlen6:=Ri.vars.n.len';rw[hil]at hlen6;dsimp only[bI]at mi;have ni:H.next+1<=Hi.next:=Fi.next
 by_cases hlt:i<b.vars.length
 .have hlt':(i:Int)<b.vars.length:=by omega
  obtain⟨k,j⟩:∃k,b.vars.length-i=k+1:=⟨b.vars.length-i-1,ac⟩;have hk2:b.vars.length-(i+1)=k:=ac;rw[j]at V;rw[hk2];unfold oV at V;simp only[js]at V;obtain⟨xa,hxa,xb,hxb,V⟩:=V;obtain⟨qa,hixa,hlda,hqa⟩:=yi.at hxa;obtain⟨qb,z,hldb⟩:=Ri.atV hxb;have hFx:Fin (b9 r.1 xa xb Y).2:=hFm.le ⟨(xY _ _ _ _ _ _ V).1.l,(xY _ _ _ _ _ _ V).1.n⟩;have hx2:(b9 r.1 xa xb Y).2.vars=Y.vars:=(iO _ _ _ _).v;have hvx:i<(b9 r.1 xa xb Y).2.vars.length:=by rw[hx2];omega
  repeat' (first
   |(apply aj ?_;clear hK K)|apply aQ ?_|(apply aV ?_ ?_<;>(intro hb hbp;try(cases hb;done)))|(apply ak fun K hK=>?_)|(apply da 38 [(3,18),(3,20),(10,18),(14,18),(17,18)] fun K hK=>?_)|(apply ce ?_;try intro _)|fail)
  refine qe ?_;refine aY ?_ (zF hG Ri r.1 xa xb hFx);rintro w H7 ⟨rfl,S7,lv7,R7,F7⟩;obtain⟨q',Z,hld',H8,hst,hq1,hq2,hq3,R8,F8,o8,n8⟩:=R7.setV hvx (b9 r.1 xa xb Y).1;have hqq:q'=qb:=by
   rw[z]at Z;simp only[aI,AV.ptr.injEq]at Z;exact Z.1.symm
  subst hqq;have y7:=yi.fr ac F7;have y8:=y7.fr ac F8;obtain⟨qa7,ix7,ld7,_⟩:=y7.at hxa;obtain⟨qa8,ix8,ld8,_⟩:=y8.at hxa;rw[hixa]at ix7 ix8;simp only[aI,AV.ptr.injEq,aN]at ix7 ix8;subst ix7 ix8;have m7:=R7.m;have m8:=R8.m;have n7:=F7.next
  obtain⟨qb7,U,ldb7⟩:=R7.atV (i:=i) (x:=xb) (by rw[hx2];exact hxb);rw[z]at U;simp only[aI,AV.ptr.injEq,aN]at U;subst U;dsimp only[bI]at m7 m8;clear Z hx2;dsimp only[aU];repeat' (first
   |(apply aj ?_;clear hK K)|apply aO ?_|(apply ak fun K hK=>?_)|(apply ce ?_;try intro _)|(apply di ?_ ?_<;>clear hK K)|fail)
  .exact bN
  .refine⟨ac,aK,aK,bG,(by simp only[aG,Nat.reduceBEq, *];exact gX (n:=b.vars.length) ac ac),?_⟩;exact⟨_,S7,lv7,V,R8,Fi.trans (F7.trans F8),y8,by rw[jv,(iO _ _ _ _).v];exact hil⟩
 .have hlt':¬(i:Int)<b.vars.length:=by omega
  have j:b.vars.length-i=0:=ac;rw[j]at V;simp only[oV,aI]at V;subst V;refine CK fun K hK=>?_;refine qd ?_;refine aY ?_ (zF hG Ri r.1 a.ab Y.ab hF);rintro w H7 ⟨rfl,S7,lv7,R7,F7⟩;have m7:=R7.m;dsimp only[bI]at m7;dsimp only[aU];refine eh ?_;all_goals refine qq ?_
  obtain⟨R8,F8⟩:=R7.setS (b9 r.1 a.ab Y.ab Y).1;exact⟨S7,lv7,J,R8,F1.trans (Fi.trans (F7.trans F8))⟩
end
end
variable{n r:Nat}
section
def tyQaI.tyF:=ad @ec (ad @cA (ad @tj (ad @dw (ad @iL (ad @eZ (ad @fX (ad @fU (ad @fL (ad @fM (ad @fb (ad @gF (ad @tl (ad @xl (ad @zr (ad @KL (@BS))))))))))))))))
open tyQaI
noncomputable def S1:{c:SC // aC 197 (f160.body.getD .skip)=c}:=by
 refine⟨?_,?_⟩;rotate_left
 .simp only[f160,bz,aC,bw,bt,bA,bB,Nat.blt,Nat.ble];rfl
def zd5.other{vv:AV}(h:zd5 X S vv lo H L l)(I:H.next<=H'.next)(Z:∀k,k<H.next->¬bc C k->H'.get k=H.get k)(hd:∀k,bc L k->¬bc C k):zd5 X S vv lo H' L l:=⟨h.r.keep I fun k j=>Z k (h.r.lt j).2 (hd k j),h.n⟩
def zf1.other{vv:AV}(h:zf1 X S vv lo H L l)(I:H.next<=H'.next)(Z:∀k,k<H.next->¬bc C k->H'.get k=H.get k)(hd:∀k,bc L k->¬bc C k):zf1 X S vv lo H' L l:=⟨h.r.keep I fun k j=>Z k (h.r.lt j).2 (hd k j),h.n⟩
def zd5.same{vv:AV}(h:zd5 X S vv lo H L l)(I:H.next<=H'.next)(Z:∀k,k<H.next->H'.get k=H.get k):zd5 X S vv lo H' L l:=⟨h.r.keep I fun k j=>Z k (h.r.lt j).2,h.n⟩
def zf1.same{vv:AV}(h:zf1 X S vv lo H L l)(I:H.next<=H'.next)(Z:∀k,k<H.next->H'.get k=H.get k):zf1 X S vv lo H' L l:=⟨h.r.keep I fun k j=>Z k (h.r.lt j).2,h.n⟩
def FrQ.other{vv:AV}{bM:Hp}(h:FrQ X O L bM S vv H)(I:H.next<=H'.next)(Z:∀k,k<H.next->¬bc C k->H'.get k=H.get k)(Y:∀k,bc C k->bM.next<=k):FrQ X O L bM S vv H':=
 ⟨dz h.next I,fun k i g U M=>by rw[Z k (oD i h.next) fun e=>by have:=Y k e;omega];exact h.get k i g U M,h.sub,h.own⟩
def FrQ.same{vv:AV}{bM:Hp}(h:FrQ X O L bM S vv H)(I:H.next<=H'.next)(Z:∀k,k<H.next->H'.get k=H.get k):FrQ X O L bM S vv H':=
 ⟨dz h.next I,fun k i g U M=>by rw[Z k (oD i h.next)];exact h.get k i g U M,h.sub,h.own⟩
def zd5.eb{vv:AV}(h:zd5 X S vv lo H C l)(I:zd1 X H S s Y vv)(L:lo<=H.next)(x:Int)(hb:X.b<lo)(J:l.length<2^39):
 ∃O H',cX prog false (H.alloc (.cells [.int .i64 x] 0 true)) 26 26 C (.sl H.next 0 1 1)=some (O,H')/\zd5 X S vv lo H' O (l++[x])/\zd1 X H' S s Y vv/\H.next<=H'.next/\(∀k,k<H.next->¬bc C k->H'.get k=H.get k)/\(∀k,bc O k->bc C k\/H.next<=k)/\H'.get H.next=some (.cells [.int .i64 x] 0 true)/\H.next+1<=H'.next:=by
 obtain⟨O,H',U,M,z,i,Z,V,_⟩:=h.app (I.alloc (.cells [.int .i64 x] 0 true)) dG (dA _) (fun k j=>fq) x (r:=H.next) (imm:=0) fG hb J;simp only[aZ]at i Z V;exact⟨O,H',U,M,z,ac,fun k m g=>by rw[Z k ac g,aD,af ac],fun k j=>by
  rcases V k j with e|e
  .exact .inl e
  .exact .inr ac,by rw[Z _ ac fun e=>by have:=(h.r.lt e).2;omega,aD,ah rfl],i⟩
def zd5.eM{vv:AV}{m:qu}(h:zd5 X S vv lo H C l)(I:zd1 X H S s Y vv)(L:lo<=H.next)(M:m≠[])(hb:X.b<lo)(J:l.length+m.length<2^40):
 ∃O H',cX prog false (H.alloc (.cells (m.map (.int .i64)) 0 true)) 26 26 C (.sl H.next 0 m.length 1)=some (O,H')/\zd5 X S vv lo H' O (l++m)/\zd1 X H' S s Y vv/\H.next<=H'.next/\(∀k,k<H.next->¬bc C k->H'.get k=H.get k)/\(∀k,bc O k->bc C k\/H.next<=k):=by
 have j:∀k,k<H.next->(H.alloc (.cells (m.map (.int .i64)) 0 true)).get k=H.get k:=fun k j=>fq
 have hr:eL (H.alloc (.cells (m.map (.int .i64)) 0 true)) C l lo:=h.r.keep (dA _) fun k g=>j k (h.r.lt g).2;obtain⟨O,H',a1,a2,a3,a4,U,Z⟩:=Ju hr dG (vI (H:=H.alloc (.cells (m.map (.int .i64)) 0 true)) (r:=H.next) (imm:=0) (m:=m) fG) M J;simp only[aZ]at a3 U Z;have V:∀k,k<H.next->¬bc C k->H'.get k=H.get k:=fun k i g=>by rw[U k ac g,j k i]
 refine⟨O,H',a1,⟨.inr a2,fun k g=>?_⟩,I.keep ac fun k i g=>V k i fun e=>?_,ac,V,fun k g=>?_⟩
 .rcases Z k g with e|e
  .exact h.n k e
  .have:=I.new (r:=k) ac;exact⟨this.1,this.2.1,fun z=>by have:=(I.nS k z).2.1;omega⟩
 .have b:=h.n k e;have c:=h.r.lt e;rcases g with g|g|g|g
  .omega
  .exact b.1 g
  .exact b.2.1 g
  .exact b.2.2 g
 .rcases Z k g with e|e
  .exact .inl e
  .exact .inr ac
def zd5.at{vv:AV}(h:zd5 X S vv lo H L l)(C:l[i]?=some x):∃r,ej prog 26 L (.int .i64 (i:Int))=some (.ptr r i)/\gL prog H 3 (.ptr r i)=some (.int .i64 x):=
 RowL.at (S:=fun _=>False) (vv:=.ak) (lo:=lo) ⟨h.r,fun k _=>⟨fun e=>e,fun e=>sJ e⟩⟩ C
section
variable {tb:qB} (hG:zd7 tb) {X:Qx} {c:Cx} (hX:CxQ X c) {x:St} {s:Bd} {H:Hp} {S:Nat -> Prop} {lv vv:AV}
set_option maxRecDepth 100000 in
include hG hX in
theorem zhI(IH:Gs tb X c n){r:Int×Bd}{b:qL}{t:Bd}{d:Int×Bd}(h1:fE c n x.value {s with loops:=s.loops+1}=some r)(h2:ol c.aK n x.a9 (List.replicate r.2.vars.length false)=some b)
 (h3:iH c n x.a9 (j0 (16*(s.loops:Int)+1) (iG b) 0 { (ai ⟨3,16*(s.loops:Int),[]⟩ r.2).2 with ab:=(ai ⟨3,16*(s.loops:Int),[]⟩ r.2).1})=some t) (h4:fE c n x.value t=some d)
 {k:Int×Bd} (Y:ai ⟨31,s.loops,r.2.ab::((iG b).map fun i=>r.2.vars.getD i 0)++[d.1,d.2.ab]++((iG b).map fun i=>d.2.vars.getD i 0)⟩ d.2=k)
 {m:Int×Bd} (hm:b9 r.1 (ai ⟨25,0,[k.1]⟩ {k.2 with vars:=r.2.vars}).1 r.2.ab (ai ⟨25,0,[k.1]⟩ {k.2 with vars:=r.2.vars}).2=m)
 (hF:Fin (jm k.1 r.1 r.2.vars (iG b) 1 {m.2 with ab:=m.1})) (hz:x.sz<2^36) (hvl:s.vars.length<2^36) (hR:zd1 X H S s lv vv) :
 aM prog (ay pls tb) 160 [.ptr X.b 0,.agg x.cells] H (pP X S vv H (jm k.1 r.1 r.2.vars (iG b) 1 {m.2 with ab:=m.1})):=by
 have hw:zd0 (ay pls tb) 160:=hG.plain eN;have hkeep:(ay pls tb).keep 160=false:=rfl;have R1:=hR.alloc (.cells x.cells 0 true);have F1:=(fS X S vv H).alloc (.cells x.cells 0 true);have hdl0:d.2.vars.length=r.2.vars.length:=by
  rw[(eO c n _ _ _ h4).v,((mH c n).2.1 _ _ _ h3).2,(uL _ _ _ _).2.2.1];rfl
 have hmv:m.2.vars=r.2.vars:=by rw[<-hm,(iO _ _ _ _).v];rfl
 have hFm:Fin m.2:=hF.le ⟨(wi _ _ _ _ _ {m.2 with ab:=m.1}).1.l,(wi _ _ _ _ _ {m.2 with ab:=m.1}).1.n⟩;have hFf:Fin (ai ⟨25,0,[k.1]⟩ {k.2 with vars:=r.2.vars}).2:=by rw[<-hm]at hFm;exact hFm.le (iO _ _ _ _).le
 have hFk:Fin k.2:=hFf.le ⟨(dS ⟨25,0,[k.1]⟩ {k.2 with vars:=r.2.vars}).le.l,(dS ⟨25,0,[k.1]⟩ {k.2 with vars:=r.2.vars}).le.n⟩;have hFd:Fin d.2:=by rw[<-Y]at hFk;exact hFk.le (dS _ _).le
 have hFt:Fin t:=hFd.le (eO c n _ _ _ h4).le;have e3:=(mH c n).2.1 _ _ _ h3;have hFl:=hFt.le e3.1;have hFp:Fin (ai ⟨3,16*(s.loops:Int),[]⟩ r.2).2:=hFl.le ⟨(uL _ _ _ { (ai ⟨3,16*(s.loops:Int),[]⟩ r.2).2 with ab:=(ai ⟨3,16*(s.loops:Int),[]⟩ r.2).1}).1.l,(uL _ _ _ { (ai ⟨3,16*(s.loops:Int),[]⟩ r.2).2 with ab:=(ai ⟨3,16*(s.loops:Int),[]⟩ r.2).1}).1.n⟩;have hFr:Fin r.2:=hFp.le (dS _ _).le;have hlv:=eO c n _ _ _ h1;have hrl:r.2.vars.length<2^36:=by rw[hlv.v];exact hvl
 have hln:s.loops<2^36:=BP (dA _) (by have:=hFr.n;rw[hlv.n]at this;exact this);have hbl:b.length=r.2.vars.length:=by rw[xZ _ _ _ _ _ h2,rJ]
 have hdl:d.2.vars.length=r.2.vars.length:=hdl0;have hsz:=x.aT;have o5:=hR.o5;clear hlv e3;have ct:=R1.m;have gx1:(H.alloc (.cells x.cells 0 true)).get H.next=some (.cells x.cells 0 true):=fG
 obtain⟨R1s,F1s⟩:=R1.cH (s.loops+1);have m1s:=R1s.m;have g1s:=gJ hR F1s;have eL1:IntKind.wrap .i64 ((s.loops:Int)+1)=((s.loops+1:Nat):Int):=iT ac;dsimp only[bI]at ct m1s R1s F1s g1s;refine a0 (M:=197) (rs:=[]) (hw.call _) hw.aG hw.az func160 rfl rfl S1.2 rfl ?_;dsimp only[S1,aW,Nat.reduceAdd];refine dY fun K hK=>?_;refine qd ?_;refine aY ?_ (sO hG hX n x.value _ r h1 hFr R1s);rintro w U ⟨rfl,S2,lv2,R2,F2⟩;have F02:=F1s.trans F2;have g2:=gJ hR F02;have m2:=R2.m;have n2:H.next+1<=U.next:=F02.next
 have hl2:=R2.vars.n.len';have hmk:∀H:Hp,j9 prog H 149 (.int .i64 r.2.vars.length) (.int .i64 r.2.vars.length)=some (.sl H.next 0 r.2.vars.length 1,H.alloc (.cells ((List.replicate r.2.vars.length false).map .bool) 0 true)):=fun H=>Jv _ ac;have nw2:=R2.new (aH _);have nv2:¬bc X.nv U.next:=fun e=>by have:=(R2.nS _ e).2.1;omega
 have R3:=R2.alloc (.cells ((List.replicate r.2.vars.length false).map .bool) 0 true);have g3:(U.alloc (.cells ((List.replicate r.2.vars.length false).map .bool) 0 true)).get H.next=some (.cells x.cells 0 true):=by rw[aD,af ac];exact g2
 clear R1 R1s ct m1s g1s;dsimp only[bI]at m2;dsimp only[aU];refine dY fun K hK=>?_;refine qd ?_;have hrep:(List.replicate r.2.vars.length false).length=r.2.vars.length:=rJ;have hasg:=KO hG hX (n+1) n (cC _) x.a9 _ b h2 ac R3 (q:=U.next) fG nw2.2.2 (cC _) nw2.1 nw2.2.1 nv2;rw[hrep]at hasg;refine aY ?_ hasg;clear hasg;rintro w H3 ⟨gb3,n3,q3⟩;simp only[aZ]at n3 q3;have hq3:∀k,k<U.next->H3.get k=U.get k:=fun k Y=>by rw[q3 k ac ac,aD,af ac]
 have R4:zd1 X H3 S2 r.2 lv2 vv:=R2.keep ac fun k Y _=>hq3 k Y;clear q3 R3 g3;dsimp only[aU];refine eh ?_;refine bY [0,3,4,5,6] [] 8 r.2.vars.length (fun i E Hi=>∃a,E.at 7=a/\eL Hi a (x3 (x4 b i)) (U.next+1)/\Sm (U.next+1) H3 Hi) eE ⟨.ak,eE,.inl ⟨rfl,rfl⟩,⟨fun _ _=>rfl⟩⟩ ?_;rintro i E Hi hi hcE hrH hnH hsI ⟨a,k7,ha,hsm⟩;(try simp only[bq,aT,aN,aG,aR,Nat.reduceBEq, *]at hcE);(try simp only[aT, *]at hrH);(try simp only[aZ,br,bX,bK,Nat.reduceAdd]at hnH);by_cases Z:i<r.2.vars.length
 .have hlt':(i:Int)<r.2.vars.length:=by omega
  have gbi:Hi.get U.next=some (.cells (b.map .bool) 0 true):=by rw[hsm.get _ ac];exact gb3
  have hix:=zt (q:=U.next) Z;have hld:=Ku gbi (m:=i) ac;have hws:=zfI b i;have hwl:=Rk b i;cases hbi:b.getD i false with
  |true=>
   rw[hbi]at hld;rw[hbi,ah rfl]at hws;obtain⟨v5,H5,a5,s5,n5,f5,o5'⟩:=xC (H:=Hi.alloc (.cells [.int .i64 (i:Int)] 0 true)) (i:Int) (ha.keep (H':=Hi.alloc (.cells [.int .i64 (i:Int)] 0 true)) (dA _) fun k Y=>by rw[aD,af (by have:=(ha.lt Y).2;omega)]) dG (r:=Hi.next) (imm:=0) fG (by simp only[cN];omega);have n5':Hi.next<=H5.next:=vL
   refine CI (fun hb hbp=>?_);refine⟨ac,aK,aK,bG,SZ,?_⟩;exact⟨v5,eE,.inr (by rw[hws];simpa using s5),⟨fun k Y=>by rw[f5 k Y,aD,af ac];exact hsm.get k Y⟩⟩
  |false=>
   rw[hbi]at hld;rw[hbi,af au,bm]at hws;refine CI (fun hb hbp=>?_);refine⟨ac,aK,aK,bG,SZ,?_⟩;exact⟨a,eE,by rw[hws];exact ha,hsm⟩
 .have hlt':¬(i:Int)<r.2.vars.length:=by omega
  have hie:x4 b i=iG b:=by rw[iG,hbl,show i=r.2.vars.length by omega];rfl
  rw[hie]at ha;have hwm:∀j∈iG b,j<r.2.vars.length:=fun j hj=>by have:=Kv hj;omega
  have hwl:(iG b).length<2^36:=by have:=Rk b b.length;have e:x4 b b.length=iG b:=rfl;rw[e]at this;omega
  have hnd:=zfJ b;generalize iG b=C at *;clear hie gb3 h2 hbl;have hi3:∀k,k<U.next+1->Hi.get k=H3.get k:=hsm.get
  have hi2:∀k,k<U.next->Hi.get k=U.get k:=fun k Y=>by rw[hi3 k ac,hq3 k Y]
  have Ri:zd1 X Hi S2 r.2 lv2 vv:=R2.keep ac fun k Y _=>hi2 k Y;have W:zd5 X S2 vv (U.next+1) Hi a (x3 C):=⟨ha,fun k Y=>by
   have:=R2.new (r:=k) (by have:=(ha.lt Y).1;omega);exact⟨this.1,this.2.1,fun e=>by have:=(R2.nS k e).2.1;have:=(ha.lt Y).1;omega⟩⟩
  have Fi:FrQ X S vv (H.alloc (.cells x.cells 0 true)) S2 vv Hi:=F02.same ac hi2;have gi:=gJ hR Fi;have mi:=Ri.m;have ni:H.next+1<=Hi.next:=Fi.next
  clear hsm R4 F02 hi3 ha hq3 hi2 R2 m2 g2;obtain⟨cv,H4,a4,c4,n4,q4⟩:=KN (H:=Hi) Ri.vars.n ac;have R4:zd1 X H4 S2 r.2 lv2 vv:=Ri.keep ac fun k h _=>q4 k h;have W4:=W.same ac q4;have F4:=Fi.same ac q4;have C4:zf1 X S2 vv (U.next+1) H4 cv r.2.vars:=⟨c4.lo fun k Y=>by have:=(c4.lt Y).1;omega,fun k Y=>by
   have:=Ri.new (c4.lt Y).1;exact⟨this.1,this.2.1,fun e=>by have:=(Ri.nS k e).2.1;have:=(c4.lt Y).1;omega⟩⟩
  have dAC:∀k,bc a k->¬bc cv k:=fun k h1 h2=>by have:=(W.r.lt h1).2;have:=(c4.lt h2).1;omega
  have m4:=R4.m;have g4:=gJ hR F4;have mia:=(Ri.alloc qh).m;have ew:=(Rl hln (j:=0) ac).1;have Rb:=R4.alloc (.cells [.int .i64 r.2.ab] 0 true);have Fb:=F4.alloc (.cells [.int .i64 r.2.ab] 0 true);have gb:=gJ hR Fb;have mb:=Rb.m;obtain⟨hc1,hc2⟩:=c4.one;clear W c4;dsimp only[bI]at mi mia m4 mb;repeat' (first
   |(apply aj ?_;clear hK K)|apply aQ ?_|(apply aV ?_ ?_<;>(intro hb hbp;try(cases hb;done)))|(apply ak fun K hK=>?_)|fail)
  refine qd ?_;refine aY ?_ (pT hG Rb 3 (16*(s.loops:Int)) hFp);generalize hp:ai ⟨3,16*(s.loops:Int),[]⟩ r.2=p at *;have hpv:p.2.vars=r.2.vars:=by rw[<-hp];rfl
  rintro w H5 ⟨rfl,S5,lv5,R5,F5⟩;have kb:∀k,k<H4.next->(H4.alloc (.cells [.int .i64 r.2.ab] 0 true)).get k=H4.get k:=fun k Y=>fq
  have W5:=(W4.same (dA _) kb).fr ac F5;have C5:=(C4.same (dA _) kb).fr ac F5;have V5:zd5 X S5 vv (U.next+1) H5 (.sl H4.next 0 1 1) [r.2.ab]:=zd5.fr (X:=X) (H:=H4.alloc (.cells [.int .i64 r.2.ab] 0 true)) (S:=S2) (vv:=vv) ⟨.inr ⟨H4.next,0,rfl,iq,de _,ac,cC _⟩,fun k Y=>by
   have e:=Kt Y;have:=R4.new (r:=k) (by rw[e];exact aH _);exact⟨this.1,this.2.1,fun e2=>by have:=(R4.nS k e2).2.1;omega⟩⟩ ac F5
  have d5:∀k,bc a k->¬bc (.sl H4.next 0 1 1) k:=fun k h1 h2=>by
   have:=(W4.r.lt h1).2;rw[Kt h2]at this;omega
  have dC5:∀k,bc cv k->¬bc (.sl H4.next 0 1 1) k:=fun k h1 h2=>by
   have:=(C4.r.lt h1).2;rw[Kt h2]at this;omega
  have m5:=R5.m;obtain⟨R6,F6⟩:=R5.setS p.1;have F06:=Fb.trans (F5.trans F6);have W6:=W5.fr (X:=X) ac F6;have V6:=V5.fr (X:=X) ac F6;have C6:=C5.fr (X:=X) ac F6;have l6:=fun H'=>W5.r.len' (H':=H');have g6:=gJ hR F06;have n6:U.next+1<=H5.next:=by have:=F5.next;simp only[aZ]at this;omega
  clear R5 F5 Rb gb W5 V5 C5 Ri W4 C4 F4 R4 m4 mb gi mi mia Fi Fb kb g4;dsimp only[bI]at m5 R6 F06 W6 V6 C6 g6;rw[cN]at l6;dsimp only[aU];refine eh ?_;have hdl1:∀j,j<C.length->r.2.vars[C.getD j 0]?=some (r.2.vars.getD (C.getD j 0) 0):=fun j hj=>by
   have:C.getD j 0<r.2.vars.length:=hwm _ (by rw[cQ,aL hj];exact cB hj);generalize C.getD j 0=q at *;rw[cQ,aL this];rfl
  have haw:∀j,j<C.length->(x3 C)[j]?=some ((C.getD j 0:Nat):Int):=fun j hj=>by
   rw[eu,cQ,aL hj];rfl
  have hdr:∀j,j<C.length->C.drop j=C.getD j 0::C.drop (j+1):=fun j hj=>by rw[ft hj,cQ,aL hj];rfl
  have htk:∀j,j<C.length->C.take (j+1)=C.take j++[C.getD j 0]:=fun j hj=>by rw[sd,cQ,aL hj];rfl
  have hnt:∀j,j<C.length->C.getD j 0∉C.take j:=fun j hj hm=>by
   have h:=hnd;rw[<-Dg j C,hdr j hj,List.nodup_append]at h;exact h.2.2 _ hm _ ei rfl
  refine bY [0,3,4,5,7,9,10] [] 12 C.length (fun j E I=>∃wv z Sj lvj,E.at 11=wv/\j0 (16*(s.loops:Int)+1) (C.drop j) j z=j0 (16*(s.loops:Int)+1) C 0 {p.2 with ab:=p.1} /\ z.vars.length=r.2.vars.length/\zd1 X I Sj z lvj vv/\FrQ X S vv (H.alloc (.cells x.cells 0 true)) Sj vv I/\zd5 X Sj vv (U.next+1) I a (x3 C)/\zf1 X Sj vv (U.next+1) I cv r.2.vars/\zd5 X Sj vv (U.next+1) I wv (r.2.ab::(C.take j).map fun i=>r.2.vars.getD i 0)/\(∀k,bc a k->¬bc wv k)/\∀k,bc cv k->¬bc wv k) eE ⟨_,_,S5,lv5,eE,by rw[eS],by rw[<-hp];rfl,R6,F06,W6,C6,V6,d5,dC5⟩ ?_;clear R6 F06 W6 V6 C6 d5 dC5 m5 g6;rintro j E I hj hcE hrH hnH hsI ⟨wv,z,Sj,lvj,k11,hJ,hjv,Rj,Fj,Aj,Cj,Wj,dj,dCj⟩;(try simp only[bq,aT,aN,aG,aR,Nat.reduceBEq, *]at hcE);(try simp only[aT,aR, *]at hrH);(try simp only[br,]at hnH);have mj:=Rj.m;dsimp only[bI]at mj;have nj:U.next+1<=I.next:=dz n6 hnH
  by_cases Z:j<C.length
  .have hlt':(j:Int)<C.length:=by omega
   have L:=haw j Z;have hvj:=hdl1 j Z;have htj:=htk j Z;have hwl1:C.getD j 0<z.vars.length:=by rw[hjv];exact hwm _ Gp
   rw[hdr j Z]at hJ;rw[Rm]at hJ;rw[htj];generalize C.getD j 0=w at *;generalize hy:r.2.vars.getD w 0=y at *;obtain⟨qa,ixa,lda⟩:=Aj.at L;obtain⟨qc',ixc,ldc,_⟩:=Cj.at hvj;obtain⟨qv,ixv,ldv,_⟩:=Rj.setV hwl1 0;obtain⟨e1,e2,e3⟩:=Rl hln (j:=j) ac;have e4:IntKind.wrap .i64 (16*(s.loops:Int)+1)=16*(s.loops:Int)+1:=eX ac ac;have e5:IntKind.wrap .i64 (16*(s.loops:Int)+1+j)=16*(s.loops:Int)+1+j:=eX ac ac;obtain⟨v',H',a1,W',R',n',q',own',_,_⟩:=Wj.eb Rj nj y ac (by simp only[eF,cN,mP];omega);have A':=Aj.other n' q' dj;have C':=Cj.other n' q' dCj;have F':=Fj.other n' q' (fun k Y=>by have:=(Wj.r.lt Y).1;simp only[aZ];omega);have d':∀k,bc a k->¬bc v' k:=fun k h1 h2=>by
    rcases own' k h2 with e|e
    .exact dj k h1 e
    .have:=(Aj.r.lt h1).2;omega
   have dC':∀k,bc cv k->¬bc v' k:=fun k h1 h2=>by
    rcases own' k h2 with e|e
    .exact dCj k h1 e
    .have:=(Cj.r.lt h1).2;omega
   have m':=R'.m;have hFx:Fin (ai ⟨3,16*(s.loops:Int)+1+j,[]⟩ z).2:=hFl.le (by rw[<-hJ];exact((tI _).setV _).trans (uL _ _ _ _).1);have V:=pT hG R' 3 (16*(s.loops:Int)+1+j) hFx;obtain⟨qa',ixa',lda'⟩:=A'.at L;rw[ixa]at ixa';simp only[aI,AV.ptr.injEq,aN]at ixa';subst ixa';dsimp only[bI]at m';clear dj dCj Aj Cj Wj q' own' Rj hvj;repeat' (first
    |(apply aj ?_;clear hK K)|apply aQ ?_|(apply aV ?_ ?_<;>(intro hb hbp;try(cases hb;done)))|(apply ak fun K hK=>?_)|(apply da 20 [(3,14),(3,16),(7,14),(7,16)] fun K hK=>?_)|(apply ce ?_;try intro _)|fail)
   refine qe ?_;refine aY ?_ V;generalize hpu:ai ⟨3,16*(s.loops:Int)+1+j,[]⟩ z=pu at *;have hpuv:pu.2.vars=z.vars:=by rw[<-hpu];rfl
   have hwl2:w<pu.2.vars.length:=by rw[hpuv];exact hwl1
   rintro u H7 ⟨rfl,S7,lv7,R7,F7⟩;obtain⟨q',O,hld',H8,hst,hq1,hq2,hq3,R8,F8,o8,n8⟩:=R7.setV hwl2 pu.1;have hqq:q'=qv:=by
    rw[ixv]at O;simp only[aI,AV.ptr.injEq]at O;exact O.1.symm
   subst hqq;have A7:=A'.fr (X:=X) ac F7;have A8:=A7.fr (X:=X) ac F8;have C8:=(C'.fr (X:=X) ac F7).fr (X:=X) ac F8;have W8:=(W'.fr (X:=X) ac F7).fr (X:=X) ac F8;have F08:=F'.trans (F7.trans F8);obtain⟨qa7,ixa7,lda7⟩:=A7.at L;obtain⟨qa8,ixa8,lda8⟩:=A8.at L;rw[ixa]at ixa7 ixa8;simp only[aI,AV.ptr.injEq,aN]at ixa7 ixa8;subst ixa7 ixa8;have m7:=R7.m;have m8:=R8.m;have n7:=F7.next
   have nj8:I.next<=H8.next:=ac
   have hjv':(pu.2.vars.set w pu.1).length=r.2.vars.length:=by rw[jv,hpuv];exact hjv
   have hmap:(r.2.ab::(C.take j).map fun i=>r.2.vars.getD i 0)++[y]=r.2.ab::(C.take j++[w]).map fun i=>r.2.vars.getD i 0:=by rw[tg,dZ,y0,hy];rfl
   rw[hmap]at W8;clear hpuv hmap hjv O A' W' C' F' hpu hld' A7;dsimp only[bI]at m7 m8;dsimp only[aU];repeat' (first
    |(apply aj ?_;clear hK K)|apply aO ?_|(apply ak fun K hK=>?_)|(apply ce ?_;try intro _)|(apply di ?_ ?_<;>clear hK K)|fail)
   .exact bN
   .refine⟨ac,aK,aK,bG,Fk,?_⟩;exact⟨v',_,S7,lv7,eE,hJ,hjv',R8,F08,A8,C8,W8,d',dC'⟩
  .have hlt':¬(j:Int)<C.length:=by omega
   have hd:C.drop j=[]:=ny ac;have ht:C.take j=C:=fI ac;rw[hd]at hJ;rw[ht]at Wj;have hJ:z=j0 (16*(s.loops:Int)+1) C 0 {p.2 with ab:=p.1}:=hJ;rw[<-hJ]at hFl h3;have gj:=gJ hR Fj;have nj2:H.next+1<=I.next:=Fj.next
   clear hJ hd ht;repeat' (first
    |(apply aj ?_;clear hK K)|apply aQ ?_|(apply aV ?_ ?_<;>(intro hb hbp;try(cases hb;done)))|(apply ak fun K hK=>?_)|fail)
   refine qd ?_;refine aY ?_ (IH x.a9 z t h3 hFt ac ac Rj);rintro u H6 ⟨S6,lv6,vv6,R6,F6⟩;have A6:=Aj.fr (X:=X) ac F6;have W6:=Wj.fr (X:=X) ac F6;have C6:=Cj.fr (X:=X) ac F6;have F06:=Fj.trans F6;have nj6:U.next+1<=H6.next:=dz nj F6.next
   have g6:=gJ hR F06;clear Rj Fj Aj Wj Cj F6 gj mj;dsimp only[aU];refine dY fun K hK=>?_;refine qd ?_;refine aY ?_ (sO hG hX n x.value t d h4 hFd R6);rintro u H7 ⟨rfl,S7,lv7,R7,F7⟩;have A7:=A6.fr (X:=X) ac F7;have W7:=W6.fr (X:=X) ac F7;have C7:=C6.fr (X:=X) ac F7;have F07:=F06.trans F7;have m7:=R7.m;have n7:H.next+1<=H7.next:=F07.next
   have nj7:U.next+1<=H7.next:=dz nj6 F7.next
   clear R6 F06 A6 W6 C6 F7 g6;dsimp only[bI]at m7;dsimp only[aU];have hwlen:(r.2.ab::C.map fun i=>r.2.vars.getD i 0).length<2^37:=by simp only[eF,cN];omega
   obtain⟨kv,H9,a9,K9,R9,n9,q9,own9⟩:=W7.eM (m:=[d.1,d.2.ab]) R7 nj7 au ac (by simp only[oF]at hwlen⊢;omega);have A9:=A7.other n9 q9 dj;have C9:=C7.other n9 q9 dCj;have F9:=F07.other n9 q9 (fun k Y=>by have:=(W7.r.lt Y).1;simp only[aZ];omega);have dA9:∀k,bc a k->¬bc kv k:=fun k h1 h2=>by
    rcases own9 k h2 with e|e
    .exact dj k h1 e
    .have:=(A7.r.lt h1).2;omega
   have dC9:∀k,bc cv k->¬bc kv k:=fun k h1 h2=>by
    rcases own9 k h2 with e|e
    .exact dCj k h1 e
    .have:=(C7.r.lt h1).2;omega
   have l9a:=fun H'=>A9.r.len' (H':=H');rw[cN]at l9a;simp only[lL,oF,bK,Nat.reduceAdd]at a9;clear R7 F07 A7 W7 C7 dj dCj own9 q9;refine eh ?_;have hdv:∀w,w<r.2.vars.length->d.2.vars[w]?=some (d.2.vars.getD w 0):=fun w hw=>by
    rw[cQ,aL ac];rfl
   have hwj0:∀j,j<C.length->C.getD j 0<r.2.vars.length:=fun j Z=>hwm _ Gp;refine bY [0,3,4,5,7,9,10] [] 14 C.length (fun j E I=>∃kj,E.at 11=kj/\zd1 X I S7 d.2 lv7 vv6/\FrQ X S vv (H.alloc (.cells x.cells 0 true)) S7 vv6 I/\zd5 X S7 vv6 (U.next+1) I a (x3 C)/\zf1 X S7 vv6 (U.next+1) I cv r.2.vars/\zd5 X S7 vv6 (U.next+1) I kj (r.2.ab::(C.map fun i=>r.2.vars.getD i 0)++[d.1,d.2.ab]++((C.take j).map fun i=>d.2.vars.getD i 0))/\(∀k,bc a k->¬bc kj k)/\∀k,bc cv k->¬bc kj k) eE ⟨kv,eE,R9,F9,A9,C9,by rw[vM,y0,bm];exact K9,dA9,dC9⟩ ?_;clear R9 F9 A9 C9 K9 dA9 dC9 m7 a9;rintro j E I hj hcE hrH hnH hsI ⟨kj,k11,Rj,Fj,Aj,Cj,Kj,dAj,dCj⟩;(try simp only[bq,aT,aN,aG,Nat.reduceBEq, *]at hcE);(try simp only[aT, *]at hrH);(try simp only[aZ,br,bX,bK,Nat.reduceAdd]at hnH);have mj:=Rj.m;dsimp only[bI]at mj;have nj:U.next+1<=I.next:=ac
   by_cases Z:j<C.length
   .have hlt':(j:Int)<C.length:=by omega
    have L:=haw j Z;have hvj:=hdv _ (hwj0 j Z);have htj:=htk j Z;rw[htj];generalize C.getD j 0=w at *;generalize hy:d.2.vars.getD w 0=y at *;obtain⟨qa,ixa,lda⟩:=Aj.at L;obtain⟨qv,ixv,ldv⟩:=Rj.atV hvj;obtain⟨v',H',a1,K',R',n',q',own',gk,n''⟩:=Kj.eb Rj nj y ac (by simp only[fB,eF,cN,mP,ik];omega);have A':=Aj.other n' q' dAj;have C':=Cj.other n' q' dCj;have F':=Fj.other n' q' (fun k Y=>by have:=(Kj.r.lt Y).1;simp only[aZ];omega);have dA':∀k,bc a k->¬bc v' k:=fun k h1 h2=>by
     rcases own' k h2 with e|e
     .exact dAj k h1 e
     .have:=(Aj.r.lt h1).2;omega
    have dC':∀k,bc cv k->¬bc v' k:=fun k h1 h2=>by
     rcases own' k h2 with e|e
     .exact dCj k h1 e
     .have:=(Cj.r.lt h1).2;omega
    have hmap:(r.2.ab::(C.map fun i=>r.2.vars.getD i 0)++[d.1,d.2.ab]++((C.take j).map fun i=>d.2.vars.getD i 0))++[y]=r.2.ab::(C.map fun i=>r.2.vars.getD i 0)++[d.1,d.2.ab]++((C.take j++[w]).map fun i=>d.2.vars.getD i 0):=by rw[tg,dZ,y0,hy];simp
    rw[hmap]at K';have Rja:=Rj.alloc (.cells [.int .i64 y] 0 true);have Aja:=Aj.same (dA _) (H':=I.alloc (.cells [.int .i64 y] 0 true)) fun k Y=>fq;obtain⟨qa',ixa',lda'⟩:=A'.at L;obtain⟨qa2,ixa2,ldaa⟩:=Aja.at L;obtain⟨qv',ixv',ldv'⟩:=R'.atV hvj;obtain⟨qv2,ixv2,ldva⟩:=Rja.atV hvj;rw[ixa]at ixa' ixa2;rw[ixv]at ixv' ixv2;simp only[aI,AV.ptr.injEq,aN]at ixa' ixa2 ixv' ixv2;subst ixa' ixa2 ixv' ixv2;have m':=R'.m;have mja:=Rja.m;dsimp only[bI]at m' mja;clear hmap dAj dCj Aj Cj Kj q' own' Rj Rja Aja hvj;repeat' (first
     |(apply aj ?_;clear hK K)|apply aQ ?_|(apply aV ?_ ?_<;>(intro hb hbp;try(cases hb;done)))|(apply ak fun K hK=>?_)|(apply da 27 [(4,12),(8,12),(10,12),(11,12)] fun K hK=>?_)|(apply ce ?_;try intro _)|(apply di ?_ ?_<;>clear hK K)|fail)
    .exact bN
    .refine⟨ac,aK,aK,bG,Fk,?_⟩;exact⟨v',eE,R',F',A',C',K',dA',dC'⟩
   .have hlt':¬(j:Int)<C.length:=by omega
    have ht:C.take j=C:=fI ac;rw[ht]at Kj;clear ht;have V:=Gm (lo:=U.next+1) hG Rj ⟨31,s.loops,r.2.ab::(C.map fun i=>r.2.vars.getD i 0)++[d.1,d.2.ab]++(C.map fun i=>d.2.vars.getD i 0)⟩ Kj.r (by rw[Y];exact hFk);rw[Y]at V;repeat' (first
     |(apply aj ?_;clear hK K)|apply aQ ?_|(apply aV ?_ ?_<;>(intro hb hbp;try(cases hb;done)))|(apply ak fun K hK=>?_)|fail)
    refine qd ?_;refine aY ?_ V;rintro u J ⟨rfl,S10,lv10,R10,F10⟩;have A10:=Aj.fr (X:=X) ac F10;have C10:=Cj.fr (X:=X) ac F10;have F010:=Fj.trans F10;have n10:I.next<=J.next:=F10.next
    clear Rj Fj Aj Cj Kj dAj dCj V mj F10;have m10:=R10.m;have hkv:k.2.vars=d.2.vars:=zp;have R11:=R10.swapV (vw:=cv) (l:=r.2.vars) (C10.r.lo fun k _=>de _) (fun k Y=>⟨by have:=(C10.r.lt Y).1;omega,(C10.r.lt Y).2,(C10.n k Y).1,(C10.n k Y).2.2⟩);have hk11:∀q,q≠X.b->(J.set X.b (.cells (bI X {k.2 with vars:=r.2.vars} lv10 cv) 0 true)).get q=J.get q:=fun q hq=>by rw[aA,af hq]
    have F11:FrQ X S vv (H.alloc (.cells x.cells 0 true)) S10 cv (J.set X.b (.cells (bI X {k.2 with vars:=r.2.vars} lv10 cv) 0 true)):=⟨F010.next,fun k h1 h2 h4 h5=>by rw[hk11 k h2];exact F010.get k h1 h2 h4 h5,F010.sub,fun k Y=>.inr (by have:=(C10.r.lt Y).1;simp only[aZ];omega)⟩;have hAC:∀q,bc a q->¬bc cv q:=dAC;have A11:zd5 X S10 cv (U.next+1) (J.set X.b (.cells (bI X {k.2 with vars:=r.2.vars} lv10 cv) 0 true)) a (x3 C):=⟨A10.r.keep (aH _) fun q hq=>hk11 q (by have:=(A10.r.lt hq).1;omega),fun q hq=>⟨(A10.n q hq).1,hAC q hq,(A10.n q hq).2.2⟩⟩;clear A10 C10 F010 hk11;have R11a:=R11.alloc (.cells [.int .i64 k.1] 0 true);have F11a:=(fS X S10 cv (J.set X.b (.cells (bI X {k.2 with vars:=r.2.vars} lv10 cv) 0 true))).alloc (.cells [.int .i64 k.1] 0 true);have V:=mo hG R11a ⟨25,0,[k.1]⟩ rfl iq (cC _) hFf rfl rfl;have n11:(J.set X.b (.cells (bI X {k.2 with vars:=r.2.vars} lv10 cv) 0 true)).next=J.next:=rfl
    dsimp only[bI]at m10 R11 F11 F11a A11 V n11;rw[n11]at V;dsimp only[aU];refine dY fun K hK=>?_;refine qd ?_;refine aY ?_ V;generalize hf:ai ⟨25,0,[k.1]⟩ {k.2 with vars:=r.2.vars}=f at *;rintro u H12 ⟨rfl,S12,lv12,R12,F12⟩;have F012:=F11.trans (F11a.trans F12);have kb:∀q,q<J.next->(Hp.alloc (Hp.set J X.b (.cells [.aE (X.p.aa.map Ar.cells),.aE (X.p.funcs.map Fu.cells),lv10,X.nv,cv,.int .i64 k.2.ab,.int .i64 k.2.loops] 0 true)) (.cells [.int .i64 k.1] 0 true)).get q=(Hp.set J X.b (.cells [.aE (X.p.aa.map Ar.cells),.aE (X.p.funcs.map Fu.cells),lv10,X.nv,cv,.int .i64 k.2.ab,.int .i64 k.2.loops] 0 true)).get q:=fun q hq=>by rw[aD,af eg]
    have A12:=(A11.same (dA _) kb).fr (X:=X) ac F12;have n12:J.next+1<=H12.next:=F12.next
    clear R11 R11a F11 F11a A11 kb F12 V;dsimp only[aU];refine dY fun K hK=>?_;refine qd ?_;refine aY ?_ (zF hG R12 r.1 f.1 r.2.ab (by rw[hm];exact hFm));rw[hm];rintro u H13 ⟨rfl,S13,lv13,R13,F13⟩;have m13:=R13.m;obtain⟨R14,F14⟩:=R13.setS m.1;have F014:=F012.trans (F13.trans F14);have A14:=(A12.fr (X:=X) ac F13).fr (X:=X) ac F14;have n13:H12.next<=H13.next:=F13.next
    have l14:=fun H'=>A14.r.len' (H':=H');rw[cN]at l14;dsimp only[bI]at m13 R14 F014 A14;dsimp only[aU];refine eh ?_;refine bY [0,3,5,7,9,15] [] 17 C.length (fun j E I=>∃z Sj lvj,jm k.1 r.1 r.2.vars (C.drop j) (j+1) z=jm k.1 r.1 r.2.vars C 1 {m.2 with ab:=m.1} /\ z.vars.length=r.2.vars.length/\(∀i,i∉C.take j->z.vars[i]?=r.2.vars[i]?)/\zd1 X I Sj z lvj cv/\FrQ X S vv (H.alloc (.cells x.cells 0 true)) Sj cv I/\zd5 X Sj cv (U.next+1) I a (x3 C)) eE ⟨{m.2 with ab:=m.1},S13,lv13,by rw[eS],by rw[<-hmv],fun i _=>by rw[<-hmv],R14,F014,A14⟩ ?_;clear R14 F014 A14 m13 R12 R13 F13 F14 F012 A12;rintro i3 E3 Hi3 hi3 hcE hrH hnH hsI ⟨z,Sj,lvj,hJ,hjv,hjo,Rj,Fj,Aj⟩;(try simp only[bq,aT,aN,aG,aR,Nat.reduceBEq, *]at hcE);(try simp only[aT,aR, *]at hrH);(try simp only[br,]at hnH);have mj:=Rj.m;dsimp only[bI]at mj;have nj:U.next+1<=Hi3.next:=ac
    by_cases Z:i3<C.length
    .have hlt':(i3:Int)<C.length:=by omega
     have L:=haw i3 Z;have hvj:=hdl1 i3 Z;have hnj:=hnt i3 Z;have htj:=htk i3 Z;have hwl1:C.getD i3 0<z.vars.length:=by rw[hjv];exact hwj0 i3 Z
     rw[hdr i3 Z,Rn]at hJ;rw[<-hjo _ hnj]at hvj;rw[htj];generalize C.getD i3 0=w at *;generalize r.2.vars.getD w 0=y at *;have hsx:IntKind.wrap .i64 (1+(i3:Int))=((i3+1:Nat):Int):=EN;have hFq:Fin (b9 r.1 (ai ⟨25,((i3+1:Nat):Int),[k.1]⟩ z).1 y (ai ⟨25,((i3+1:Nat):Int),[k.1]⟩ z).2).2:=hF.le (by rw[<-hJ];exact((tI _).setV _).trans (wi _ _ _ _ _ _).1);have hFq0:Fin (ai ⟨25,((i3+1:Nat):Int),[k.1]⟩ z).2:=hFq.le (iO _ _ _ _).le;have Rja:=Rj.alloc (.cells [.int .i64 k.1] 0 true);have V:=mo hG Rja ⟨25,((i3+1:Nat):Int),[k.1]⟩ rfl iq (cC _) hFq0 rfl rfl;repeat' (first
      |(apply aj ?_;clear hK K)|apply aQ ?_|(apply aV ?_ ?_<;>(intro hb hbp;try(cases hb;done)))|(apply ak fun K hK=>?_)|fail)
     refine qd ?_;refine aY ?_ V;generalize hg:ai ⟨25,((i3+1:Nat):Int),[k.1]⟩ z=g at *;have hgv:g.2.vars=z.vars:=by rw[<-hg];rfl
     rintro u H14 ⟨rfl,S14,lv14,R14,F14'⟩;have F14:=((fS X Sj cv Hi3).alloc (.cells [.int .i64 k.1] 0 true)).trans F14';have A14:=Aj.fr (X:=X) ac F14;have F014:=Fj.trans F14;have n14:Hi3.next<=H14.next:=F14.next
     have m14:=R14.m;obtain⟨qa,ixa,lda⟩:=A14.at L;obtain⟨qv,ixv,ldv⟩:=R14.atV (i:=w) (x:=y) (by rw[hgv];exact hvj);clear Rja V F14 F14' Fj Aj;dsimp only[bI]at m14;dsimp only[aU];repeat' (first
      |(apply aj ?_;clear hK K)|apply aO ?_|(apply da 36 [(3,18),(3,20),(7,18),(7,20),(15,18),(17,18)] fun K hK=>?_)|(apply ce ?_;try intro _)|fail)
     refine qe ?_;refine aY ?_ (zF hG R14 r.1 g.1 y hFq);generalize hmq:b9 r.1 g.1 y g.2=mq at *;have hmqv:mq.2.vars=z.vars:=by rw[<-hmq,(iO _ _ _ _).v];exact hgv
     have hwl2:w<mq.2.vars.length:=by rw[hmqv];exact hwl1
     rintro u H15 ⟨rfl,S15,lv15,R15,F15⟩;obtain⟨q',O,hld',H16,hst,hq1,hq2,hq3,R16,F16,o16,n16⟩:=R15.setV hwl2 mq.1;have hqq:q'=qv:=by
      rw[ixv]at O;simp only[aI,AV.ptr.injEq]at O;exact O.1.symm
     subst hqq;have A15:=A14.fr (X:=X) ac F15;have A16:=A15.fr (X:=X) ac F16;have F016:=F014.trans (F15.trans F16);obtain⟨qa5,ixa5,lda5⟩:=A15.at L;obtain⟨qa6,ixa6,lda6⟩:=A16.at L;rw[ixa]at ixa5 ixa6;simp only[aI,AV.ptr.injEq,aN]at ixa5 ixa6;subst ixa5 ixa6;obtain⟨qv5,ixv5,ldv5⟩:=R15.atV (i:=w) (x:=y) (by rw[hmqv];exact hvj);rw[ixv]at ixv5;simp only[aI,AV.ptr.injEq,aN]at ixv5;subst ixv5;have m15:=R15.m;have m16:=R16.m;have n15:H14.next<=H15.next:=F15.next
     have nj16:Hi3.next<=H16.next:=ac
     have hjv':(mq.2.vars.set w mq.1).length=r.2.vars.length:=by rw[jv,hmqv];exact hjv
     have hjo':∀i,i∉C.take i3++[w]->(mq.2.vars.set w mq.1)[i]?=r.2.vars[i]?:=fun i hi=>by
      rw[nR,not_or,BG]at hi;rw[yG,af (fun e=>hi.2 e.symm),hmqv];exact hjo i hi.1
     clear hmqv hjv hjo O hld' hmq A14 A15 Rj R14 hgv hg;dsimp only[bI]at m15 m16;dsimp only[aU];repeat' (first
      |(apply aj ?_;clear hK K)|apply aO ?_|(apply ak fun K hK=>?_)|(apply ce ?_;try intro _)|(apply di ?_ ?_<;>clear hK K)|fail)
     .exact bN
     .refine⟨ac,aK,aK,bG,Fk,?_⟩;exact⟨_,S15,lv15,hJ,hjv',hjo',R16,F016,A16⟩
    .have hlt':¬(i3:Int)<C.length:=by omega
     have hd:C.drop i3=[]:=ny ac;rw[hd]at hJ;have hJ:z=jm k.1 r.1 r.2.vars C 1 {m.2 with ab:=m.1}:=hJ;refine Hr ?_;all_goals refine qq ?_
     rw[<-hJ];exact⟨Sj,lvj,cv,Rj,F1.trans Fj⟩
end
end
section
def tyQaJ.tyF:=ad @cA (ad @dw (ad @fL (ad @fM (ad @fb (ad @gF (ad @ec (ad @gQ (ad @jA (ad @iL (ad @eZ (ad @fX (ad @fU (@tl)))))))))))))
open tyQaJ
noncomputable def S8:{c:SC // aC 17 (f68.body.getD .skip)=c}:=by
 refine⟨?_,?_⟩;rotate_left
 .simp only[f68,bz,aC,bw,bt,bA,bB,Nat.blt,Nat.ble];rfl
section
variable {tb:qB} (hG:zd7 tb) {X:Qx} {c:Cx} (hX:CxQ X c)
set_option maxRecDepth 100000 in
include hG hX in
def zhJ(IH:∀m,m<n->Gs tb X c m){x:St}{r:Bd}(h:oW c n x s=some r)(Z:Fin r)(hz:x.sz<2^36)(V:s.vars.length<2^36){lv vv:AV}(I:zd1 X H S s lv vv):
 aM prog (ay pls tb) 108 [.ptr X.b 0,.agg x.cells] H (pP X S vv H r):=by
 cases n with
 |zero=>simp[oW]at h
 |succ n=>
 have hw:zd0 (ay pls tb) 108:=hG.plain eN;have R1:=I.alloc (.cells x.cells 0 true);have F1:=(fS X S vv H).alloc (.cells x.cells 0 true);unfold oW at h;by_cases L:x.aw=1
 .rw[ah L]at h;simp only[js]at h;obtain⟨v,Y,h⟩:=h;split at h
  .rename_i hl;cases h;exact zhA hG hX L Y hl ⟨Z.r,Z.l,Z.n⟩ I
  .cases h
 rw[af L]at h;by_cases J:x.aw=2
 .rw[ah J]at h;simp only[jk]at h;obtain⟨i,Y,v,g,a,ha,rfl⟩:=h;exact zhB hG hX J Y g ha ⟨Z.r,Z.l,Z.n⟩ I
 rw[af J]at h;by_cases C:x.aw=3
 .rw[ah C]at h;simp only[jk]at h;obtain⟨q,Y,a,g,b,U,m,h4,rfl⟩:=h;exact zhH hG hX C (IH n (cC n)) Y g U h4 ⟨Z.r,Z.l,Z.n⟩ hz V I
 rw[af C]at h;by_cases k4:x.aw=4
 .rw[ah k4]at h;cases n with
  |zero=>simp[pO]at h
  |succ n=>
  unfold pO at h;simp only[jk]at h;obtain⟨q,Y,b,hb,t,g,d,U,rfl⟩:=h;have O:=zhI hG hX (IH n ac) Y hb g U rfl rfl Z hz V R1;refine a0 (M:=241) (rs:=[]) (hw.call _) hw.aG hw.az func108 rfl rfl nI.2 rfl ?_;dsimp only[nI,aW,Nat.reduceAdd];repeat' (first
   |(apply aj ?_;clear hK K)|apply aQ ?_|(apply aV ?_ ?_<;>(intro hb hbp;try(cases hb;done)))|(apply ak fun K hK=>?_)|fail)
  refine qd ?_;refine aY ?_ O;intro w H2 g;have U:=g.cP F1;clear g O;dsimp only[aU];refine eh ?_;all_goals refine qq ?_
  exact U
 rw[af k4]at h;by_cases z:x.aw=5
 .rw[ah z]at h;simp only[jk]at h;obtain⟨v,Y,rfl⟩:=h;exact zhC hG hX z Y ⟨Z.r,Z.l,Z.n⟩ I
 rw[af z]at h;by_cases j:x.aw=6
 .rw[ah j]at h;simp only[js]at h;obtain⟨av,Y,h⟩:=h;split at h
  .rename_i hc;cases h;exact zhG hG hX j Y hc.2 hz ⟨Z.r,Z.l,Z.n⟩ I
  .cases h
 rw[af j]at h;by_cases k7:x.aw=7
 .rw[ah k7]at h;cases h;exact zhD hG hX k7 Z I
 rw[af k7]at h;cases h;exact zhE hG L J C k4 z j k7 I
set_option maxRecDepth 100000 in
include hG hX in
theorem KP:∀(N n:Nat),n<N->Gs tb X c n
 |0,n,hn=>by omega
 |N+1,n,hn=>fun l s r h hF hz hvl H S lv vv hR=>by
  have hw:zd0 (ay pls tb) 68:=hG.plain eN;have hll:=vA l;refine a0 (M:=17) (rs:=[]) (hw.call _) hw.aG hw.az func68 rfl rfl S8.2 rfl ?_;dsimp only[S8,aW,Nat.reduceAdd];refine iX ?_;refine bY [0,1] [] 4 l.length (fun i E I=>∃m Z C U Y,m<=n/\iH c m (l.drop i) Z=some r/\Z.vars.length=s.vars.length/\zd1 X I C Z U Y/\FrQ X S vv H C Y I) eE ⟨n,s,S,lv,vv,aH _,h,rfl,hR,fS _ _ _ _⟩ ?_;rintro i E I hi z g hnH hsI ⟨m,Z,C,U,Y,hm,V,O,Ri,Fi⟩;(try simp only[bq,aT,aN,aG,aR,Nat.reduceBEq, *]at z);(try simp only[aT, *]at g);(try simp only[aZ,br,bX,bK,Nat.reduceAdd]at hnH);by_cases j:i<l.length
  .have L:(i:Int)<l.length:=by omega
   have hgx:l[i]?=some l[i]:=aL j;have hmem:=rF (cB j);cases m with
   |zero=>simp[iH]at V
   |succ m=>
   rw[ft j]at V;unfold iH at V;simp only[js]at V;obtain⟨q,h1,h2⟩:=V;generalize l[i]=x at *;have hFq:Fin q:=hF.le ((mH c m).2.1 _ _ _ h2).1;have hql:=((mH c m).1 _ _ _ h1).2;repeat' (first
    |(apply aj ?_;clear hK K)|apply aQ ?_|(apply aV ?_ ?_<;>(intro hb hbp;try(cases hb;done)))|(apply ak fun K hK=>?_)|fail)
   refine qd ?_;refine aY ?_ (zhJ hG hX (fun k hk=>KP N k ac) h1 hFq ac ac Ri);rintro w H3 ⟨S3,lv3,vv3,R3,F3⟩;have F03:=Fi.trans F3;have n3:I.next<=H3.next:=F3.next
   have J:q.vars.length=s.vars.length:=ac;clear hql O;dsimp only[aU];refine iX ?_;refine⟨ac,aK,aK,bG,mF,?_⟩;exact⟨m,q,S3,lv3,vv3,ac,h2,J,R3,F03⟩
  .have L:¬(i:Int)<l.length:=by omega
   have hd:l.drop i=[]:=ny ac;rw[hd]at V;cases m with
   |zero=>simp[iH]at V
   |succ m=>
   have V:Z=r:=by unfold iH at V;simpa using V
   subst V;clear O;refine Hr ?_;all_goals refine qq ?_
   exact⟨C,U,Y,Ri,Fi⟩
end
end
section
abbrev Qx.nx(X:Qx)(nv:AV)(ns:List b8):Qx:={X with nv:=nv,ns:=ns}
structure FrM (b:Nat) (bM:Hp) (S:Nat->Prop) (vv nv:AV) (H:Hp):Prop where
 next:bM.next<=H.next
 get:∀k,k<bM.next->k≠b->H.get k=bM.get k
 sub:∀k,S k->bM.next<=k
 own:∀k,bc vv k->bM.next<=k
 dE:∀k,bc nv k->bM.next<=k
def FrM.fr{bM:Hp}{vv Z:AV}(h:FrM X.b bM S vv X.nv H)(f:FrQ X S vv H S' Z H'):FrM X.b bM S' Z X.nv H' where
 next:=dz h.next f.next
 get k h1 h2:=by
  rw[f.get k (oD h1 h.next) h2 (fun e=>by have:=h.sub k e;omega) (fun e=>by have:=h.own k e;omega)];exact h.get k h1 h2
 sub k e:=by
  rcases f.sub k e with e|e
  .exact h.sub k e
  .exact dz h.next e
 own k e:=by
  rcases f.own k e with e|e
  .exact h.own k e
  .exact dz h.next e
 dE:=h.dE
def o0:=@FrM.fr
def zd1.ce{vv:AV}(h:zd1 X H S s Y vv)(nm:b8)(hl:X.ns.length<2^36):
 ∃O H',cX prog false (H.alloc (.cells [.aq nm] 0 true)) 66 66 X.nv (.sl H.next 0 1 1)=some (O,H')/\AV.one O=true/\O.cells=[O]/\H'.get X.b=some (.cells (bI X s Y vv) 0 true)/\H.next+1<=H'.next/\(∀k,k<H.next->¬bc X.nv k->H'.get k=H.get k)/\H'.get H.next=some (.cells [.aq nm] 0 true) /\
  zd1 (X.nx O (X.ns++[nm])) (H'.set X.b (.cells (bI (X.nx O (X.ns++[nm])) s Y vv) 0 true)) S s Y vv/\(∀k,bc O k->bc X.nv k\/H.next<=k):=by
 have o5:=h.o5;have hb:∀k,k<H.next->(H.alloc (.cells [.aq nm] 0 true)).get k=H.get k:=fun k j=>fq
 have hv:eI (H.alloc (.cells [.aq nm] 0 true)) X.nv X.ns 0:=h.nm.keep (dA _) fun k j=>hb k (h.nS k j).2.1;obtain⟨O,H',a1,U,a3,a4,M⟩:=xB (r:=H.next) (imm:=0) nm hv (de _) fG ac;simp only[aZ]at a3;have V:∀k,k<H.next->¬bc X.nv k->H'.get k=H.get k:=fun k i g=>by rw[M.1 k dG g,hb k i]
 have J:∀k,bc O k->bc X.nv k\/H.next<=k:=fun k j=>by
  rcases M.2 k j with e|e
  .exact .inl e
  .exact .inr (by simp only[aZ]at e;omega)
 have C:¬bc X.nv X.b:=fun e=>by have:=(h.nS _ e).1;omega
 have Z:H'.get H.next=some (.cells [.aq nm] 0 true):=by rw[M.1 _ dG fun e=>by have:=(h.nS _ e).2.1;omega,aD,ah rfl]
 have hg:∀k,k≠X.b->(H'.set X.b (.cells (bI (X.nx O (X.ns++[nm])) s Y vv) 0 true)).get k=H'.get k:=fun k j=>tF;obtain⟨L,I⟩:=U.one;have z:∀k,bc O k->k<H'.next:=fun k j=>(U.lt j).2
 have hn:H.next+1<=H'.next:=ac
 refine⟨O,H',a1,L,I,by rw[V _ o5 C];exact h.m,hn,V,Z,⟨gC,?_,h.ag.keep (fun _ _ h=>h) eg fun k j h6=>by rw[hg k (by have:=(h.sS k j).1;omega),V k h6 fun e=>(h.nS k e).2.2.1 j],h.vars.keep eg fun k j=>by rw[hg k (by have:=(h.vS k j).1;omega),V k (h.vS k j).2 fun e=>(h.nS k e).2.2.2 j],by simp only[br];show X.b<H'.next;omega,fun k j=>?_,fun k j=>?_,fun k j=>?_⟩,J⟩
 .have m:eI H' O (X.ns++[nm]) 0:=.inr U;refine m.keep (aH _) fun k j=>hg k fun e=>?_;rcases J k j with q|q
  .have:=(h.nS k q).1;omega
  .omega
 .have i:=z k j;rcases J k j with q|q
  .have:=h.nS k q;exact⟨this.1,by simp only[br];exact i,this.2.2⟩
  .have:=h.new q;exact⟨this.2.2,by simp only[br];exact i,this.1,this.2.1⟩
 .have:=h.sS k j;exact⟨this.1,eg,this.2.2⟩
 .have:=h.vS k j;exact⟨this.1,eg⟩
def zd1.cu{vv:AV}(h:zd1 X H S s Y vv)(x:Int)(hl:s.vars.length<2^36):
 ∃O H',cX prog false (H.alloc (.cells [.int .i64 x] 0 true)) 26 26 vv (.sl H.next 0 1 1)=some (O,H')/\AV.one O=true/\O.cells=[O]/\H'.get X.b=some (.cells (bI X s Y vv) 0 true)/\H'.next=H.next+2/\(∀k,k<H.next->¬bc vv k->H'.get k=H.get k) /\
  zd1 X (H'.set X.b (.cells (bI X {s with vars:=s.vars++[x] } Y O) 0 true)) S {s with vars:=s.vars++[x] } Y O /\
  FrQ X S vv H S O (H'.set X.b (.cells (bI X {s with vars:=s.vars++[x] } Y O) 0 true)):=by
 have o5:=h.o5;have hv:i7 (H.alloc (.cells [.int .i64 x] 0 true)) vv s.vars 0:=h.vars.keep (dA _) fun k j=>by rw[aD,af (by have:=(h.vS k j).2;omega)]
 have hx:eQ (H.alloc (.cells [.int .i64 x] 0 true)) 1 (.sl H.next 0 1 1)=some ([x].length,[x].map (.int .i64)):=vI (m:=[x]) (imm:=0) iq;obtain⟨O,H',a1,M,a3,a4,I,C⟩:=EB hv (de _) hx au bW;simp only[aZ]at a3 I C;have V:∀k,k<H.next->¬bc vv k->H'.get k=H.get k:=fun k i U=>by rw[I k ac U,aD,af ac]
 have L:¬bc vv X.b:=fun e=>by have:=(h.vS _ e).1;omega
 have g:=i7.one (.inr M);have hg:∀k,k≠X.b->(H'.set X.b (.cells (bI X {s with vars:=s.vars++[x] } Y O) 0 true)).get k=H'.get k:=fun k j=>tF;refine⟨O,H',a1,g.1,g.2,by rw[V _ o5 L];exact h.m,ac,V,⟨gC,h.nm.keep eg fun k j=>by rw[hg k (by have:=(h.nS k j).1;omega),V k (h.nS k j).2.1 (h.nS k j).2.2.2],h.ag.keep (fun _ _ h=>h) eg fun k j z=>by rw[hg k (by have:=(h.sS k j).1;omega),V k z (h.sS k j).2.2],?_,eg,fun k j=>⟨(h.nS k j).1,by have:=(h.nS k j).2.1;simp only[br];omega,(h.nS k j).2.2.1,fun e=>?_⟩,fun k j=>⟨(h.sS k j).1,by have:=(h.sS k j).2.1;simp only[br];omega,fun e=>?_⟩,fun k j=>?_⟩,⟨eg,fun k i U _ h5=>by rw[hg k U,V k i h5],fun _ h=>.inl h,fun k j=>?_⟩⟩
 .have J:i7 H' O (s.vars++[x]) 0:=.inr M;exact J.keep (aH _) fun k j=>hg k fun e=>by
   rcases C k j with q|q
   .have:=(h.vS k q).1;omega
   .omega
 .rcases C k e with q|q
  .exact(h.nS k j).2.2.2 q
  .have:=(h.nS k j).2.1;omega
 .rcases C k e with q|q
  .exact(h.sS k j).2.2 q
  .have:=(h.sS k j).2.1;omega
 .have Z:k<H'.next:=(i7.lt (.inr M) j).2
  rcases C k j with q|q
  .exact⟨(h.vS k q).1,Z⟩
  .exact⟨ac,Z⟩
 .rcases C k j with q|q
  .exact .inl q
  .exact .inr ac
def Ta(H:Hp)(l:qR)(J:l.length<2^36):∃L H',cX prog false (H.alloc qh) 22 22 (.sl H.next 0 0 2) (.aE (l.map Ar.cells))=some (L,H')/\eC (fun k=>H.next<=k) 1 H' 2 L (l.map Ar.cells)/\H.next+1<=H'.next/\(∀k,k<H.next->H'.get k=H.get k):=by
 have I:∀x∈l.map Ar.cells,x.length=2:=fun x z=>SX;have z:=FM (H:=H.alloc qh) I;rw[cN]at z;have hb:∀k,k<H.next->(H.alloc qh).get k=H.get k:=fun k j=>fq
 have hg:(H.alloc qh).get H.next=some qh:=fG
 by_cases c:l=[]
 .subst c;refine⟨.sl H.next 0 0 2,_,?_,.inr ⟨H.next,0,[],rfl,aH _,cC _,hg,aH _,trivial⟩,aH _,hb⟩;simp only[cX,underlying22,vx,xi,xj,show iR prog 22=true by kernel_rfl,ik,z]
 .obtain⟨m,O⟩:∃m,l.length=m+1:=⟨l.length-1,by have:=tq.2 c;omega⟩;rw[O]at z;have C:ii false (H.alloc qh) 2 (.sl H.next 0 0 2)=H.alloc qh:=by
   unfold ii;simp[hg];rfl
  refine⟨.sl (H.next+1) 0 (m+1) 2,((H.alloc qh).aR H.next).alloc (.cells (l.map Ar.cells).flatten 0 true),?_,.inr ⟨H.next+1,0,l.map Ar.cells,by rw[cN,O],dA _,cC _,?_,de _,Q9 l⟩,dA _,fun k j=>?_⟩
  .have Z:=Kp l;simp only[cX,underlying22,vx,xi,xj,show iR prog 22=true by kernel_rfl,z,Z,C,po,dh,oF,mK,hg,bK,eS,te];rw[ah ⟨by rw[show dL=70368744177664 from rfl];omega,by rw[show dL=70368744177664 from rfl];omega,by trivial,by trivial,ac⟩];simp
  .show((Hp.aR _ H.next).alloc _).get (H.next+1)=_;rw[aD,ah eN]
  .rw[aD,af zG,gN,af ac,hb k j]
def tyG5a.tyF:=ad @cA (ad @dw (ad @eZ (ad @fU (ad @fL (ad @fM (ad @fb (ad @gF (ad @yR (ad @th (ad @SE (ad @SF (ad @BQ (ad @zhl (ad @zhm (@SD)))))))))))))))
open tyG5a
set_option maxRecDepth 100000 in
theorem zhK(hG:zf2 V){deep:Nat}(hst:deep<=2->rY V k f (deep+1))(U:AtT f deep lo H H2 r Z c q m E2) (hp0:q<6):cb prog (ay pls V) 58 156 oY E2 H2 (oZ k f deep lo H r Z c q m):=by
 obtain⟨hd,hrl,hlo,n2,g2,L,J,hL1,O,hqd,k0,k1,k2,k6,k8,k9,k10⟩:=U;have j:(ay pls V).keep 58=false:=rfl;have hq2:(2:Int)≠0:=aE;have Y:((cG f).length:Int)≠0:=by rcases uK f with h|h<;>rw[h]<;>decide
 obtain⟨hi0,hix⟩:=tL (cG f) Y O.1 [];have hxs:=uN O.1;have hxa:=uO O.1;have hxf:=wo O.1;have er:(H.next == r)=false:=aX ac;have e41:=fz f 4 1 Z;have e50:=fz f 5 0 Z;have e32:=fz f 3 2 Z;have hwd:IntKind.wrap .i64 ((deep:Int)+1)=((deep+1:Nat):Int):=iT ac;unfold oZ;generalize I:ib (tN f k deep) f Z c q m=R;rw[ib]at I;dsimp only[oY,pR,tM];repeat' (first
  |(apply aj ?_;clear hK K)|apply aQ ?_|(apply aV ?_ ?_<;>(intro hb hbp;try(cases hb;done)))|(apply ak fun K hK=>?_)|(apply da 8 [(3,9),(3,11),(6,9),(6,11)] fun K hK=>?_)|(apply ce ?_;try intro _)|fail)
 refine qe ?_;refine aY ?_ (nH hG 5 f 0 ac ac lo _ r Z c J ac);rintro v H4 ⟨⟨cs,rfl,z,C,M⟩,i,n4,o4⟩;obtain⟨v0,v1,v2,v3,v4,rfl⟩:=lN z;obtain⟨w0,dC,w2,w3,w4⟩:=wq C;have g4:H4.get H.next=some qj:=by rw[o4 _ ac ac];exact g2
 dsimp only[aU];repeat' (first
  |apply aO ?_|(apply ce ?_;try intro _)|(apply di ?_ ?_<;>clear hK K)|fail)
 .exact bN
 .refine⟨aq,_,(by(try simp only[aG,aR,Nat.reduceBEq,tyF,cL,cY, *]);first|done|with_reducible rfl),?_⟩;try simp only[am]
  rw[ah ac]at I;subst I;refine yd rfl SY (yb (n:=8+k) 1 _ [] 0 wn ((M.up ac).a0 (fun q _ hq=>ac) eg fun q h1 g=>jU) .ak .ak .ak) ?_ ?_ ?_
  .exact i.keep eg fun q hq=>jU
  .simp only[br];omega
  .intro q h1 g;rw[aA,af ac,o4 _ ac g];exact L q h1 g
set_option maxRecDepth 100000 in
theorem zhL{U:qB}(hG:zf2 U){deep:Nat}(hst:deep<=2->rY U k f (deep+1))(L:AtT f deep lo H H2 r Z c q m E2)(hn0:¬q<6)(hp0:q<8):cb prog (ay pls U) 58 156 oY E2 H2 (oZ k f deep lo H r Z c q m):=by
 obtain⟨hd,hrl,hlo,n2,g2,o2',hr2,hL1,M,hqd,k0,k1,k2,k6,k8,k9,k10⟩:=L;have hkeep:(ay pls U).keep 58=false:=rfl;have hq2:(2:Int)≠0:=aE;have Y:((cG f).length:Int)≠0:=by rcases uK f with h|h<;>rw[h]<;>decide
 obtain⟨hi0,hix⟩:=tL (cG f) Y M.1 [];have hxs:=uN M.1;have hxa:=uO M.1;have hxf:=wo M.1;have er:(H.next == r)=false:=aX ac;have e41:=fz f 4 1 Z;have e50:=fz f 5 0 Z;have e32:=fz f 3 2 Z;have hwd:IntKind.wrap .i64 ((deep:Int)+1)=((deep+1:Nat):Int):=iT ac;unfold oZ;generalize hR:ib (tN f k deep) f Z c q m=R;rw[ib]at hR;dsimp only[oY,pR,tM];repeat' (first
  |(apply aj ?_;clear hK K)|apply aQ ?_|(apply aV ?_ ?_<;>(intro hb hbp;try(cases hb;done)))|(apply ak fun K hK=>?_)|(apply da 10 [(0,7),(0,10),(0,12),(4,7),(4,10),(4,12)] fun K hK=>?_)|(apply ce ?_;try intro _)|fail)
 refine qe ?_;refine aY ?_ (nH hG 3 f 2 ac ac lo _ r Z c (hr2.keep (dA _) fun q J=>fq) ac);rintro v H4 ⟨⟨al,rfl,z,I,V⟩,j,n4,O⟩;simp only[aZ]at n4 O V;obtain⟨jI,a1,a2,a3,a4,rfl⟩:=lN z;obtain⟨u0,u1,u2,u3,u4⟩:=wq I;have g4s:H4.get (H.next+1)=some qs:=by rw[O _ ac ac,aD,ah ac]
 dsimp only[aU];refine wH ?_;refine qe ?_;refine aY ?_ (nH hG 4 f 1 ac ac lo H4 r _ c j ac);rintro v H5 ⟨⟨cs,rfl,hc1,hc2,hc3⟩,hr5,n5,C⟩;obtain⟨v0,v1,v2,v3,v4,rfl⟩:=lN hc1;obtain⟨w0,dC,w2,w3,w4⟩:=wq hc2;have g5s:H5.get (H.next+1)=some qs:=by rw[C _ ac ac];exact g4s
 have g5:H5.get H.next=some qj:=by rw[C _ ac ac,O _ ac ac,aD,af ac];exact g2
 dsimp only[aU];repeat' (first
  |apply aO ?_|(apply ce ?_;try intro _)|(apply di ?_ ?_<;>clear hK K)|fail)
 .exact bN
 .refine⟨aq,_,(by(try simp only[aG,aR,Nat.reduceBEq,tyF,cL,cY, *]);first|done|with_reducible rfl),?_⟩;try simp only[am]
  rw[af ac,ah ac]at hR;subst hR;refine yd rfl (by simp only[oO,oK,u0,u1,u2,u3,u4,w0,dC,w2,w3,w4,gW];rfl) (yb (n:=8+k) 2 _ [] 0 ((V.up ac).a0 (fun q _ J=>ac) eg fun q i g=>by rw[aA,af ac,C _ ac ac]) ((hc3.up ac).a0 (fun q _ J=>ac) eg fun q i g=>jU) .ak .ak .ak) ?_ ?_ ?_
  .exact hr5.keep eg fun q J=>jU
  .simp only[br];omega
  .intro q i g;rw[aA,af ac,C _ ac g,O _ ac g,aD,af ac];exact o2' q i g
set_option maxRecDepth 100000 in
theorem zhM(hG:zf2 V){deep:Nat}(hst:deep<=2->rY V k f (deep+1))(U:AtT f deep lo H H2 r Z c q m E2)(hn0:¬q<6)(hn1:¬q<8)(hn2:¬q<10)(hn3:¬q<12)(hp0:q<14):cb prog (ay pls V) 58 156 oY E2 H2 (oZ k f deep lo H r Z c q m):=by
 obtain⟨hd,hrl,hlo,n2,g2,L,J,hL1,O,hqd,k0,k1,k2,k6,k8,k9,k10⟩:=U;have j:(ay pls V).keep 58=false:=rfl;have hq2:(2:Int)≠0:=aE;have Y:((cG f).length:Int)≠0:=by rcases uK f with h|h<;>rw[h]<;>decide
 obtain⟨hi0,hix⟩:=tL (cG f) Y O.1 [];have hxs:=uN O.1;have hxa:=uO O.1;have hxf:=wo O.1;have er:(H.next == r)=false:=aX ac;have e41:=fz f 4 1 Z;have e50:=fz f 5 0 Z;have e32:=fz f 3 2 Z;have hwd:IntKind.wrap .i64 ((deep:Int)+1)=((deep+1:Nat):Int):=iT ac;unfold oZ;generalize I:ib (tN f k deep) f Z c q m=R;rw[ib]at I;dsimp only[oY,pR,tM];repeat' (first
  |(apply aj ?_;clear hK K)|apply aQ ?_|(apply aV ?_ ?_<;>(intro hb hbp;try(cases hb;done)))|(apply ak fun K hK=>?_)|fail)
 refine qd ?_;refine aY ?_ (nH hG 4 f 1 ac ac lo _ r Z c J ac);rintro v H4 ⟨⟨cs,rfl,z,C,M⟩,i,n4,o4⟩;obtain⟨v0,v1,v2,v3,v4,rfl⟩:=lN z;obtain⟨w0,dC,w2,w3,w4⟩:=wq C;have g4:H4.get H.next=some qj:=by rw[o4 _ ac ac];exact g2
 dsimp only[aU];refine eP ?_;refine⟨aq,_,(by(try simp only[aG,aR,Nat.reduceBEq,tyF,cL,cY, *]);first|done|with_reducible rfl),?_⟩;try simp only[am]
 rw[af ac,af ac,af ac,af ac,ah ac]at I;subst I;refine yd rfl SY (yb (n:=8+k) 5 [] [] 0 wn ((M.up ac).a0 (fun q _ hq=>ac) eg fun q h1 g=>jU) .ak .ak .ak) ?_ ?_ ?_
 .exact i.keep eg fun q hq=>jU
 .simp only[br];omega
 .intro q h1 g;rw[aA,af ac,o4 _ ac g];exact L q h1 g
set_option maxRecDepth 100000 in
theorem zhN(hG:zf2 V){deep:Nat}{i:Hp}{Y:qu}{J:ax}(C:deep<=2->rY V k f (deep+1))(U:AtT f deep lo H i r Y c q m J)(z:¬q<6)(g:¬q<8)(hn2:¬q<10)(hn3:¬q<12)(hn4:¬q<14)(hn5:¬q<15) : cb prog (ay pls V) 58 156 oY J i (oZ k f deep lo H r Y c q m):=by
 obtain⟨hd,hrl,hlo,n2,g2,M,L,hL1,O,hqd,k0,k1,k2,k6,k8,k9,k10⟩:=U;have j:(ay pls V).keep 58=false:=rfl;have hq2:(2:Int)≠0:=aE;have Z:((cG f).length:Int)≠0:=by rcases uK f with h|h<;>rw[h]<;>decide
 obtain⟨hi0,hix⟩:=tL (cG f) Z O.1 [];have hxs:=uN O.1;have hxa:=uO O.1;have hxf:=wo O.1;have er:(H.next == r)=false:=aX ac;have e41:=fz f 4 1 Y;have e50:=fz f 5 0 Y;have e32:=fz f 3 2 Y;have hwd:IntKind.wrap .i64 ((deep:Int)+1)=((deep+1:Nat):Int):=iT ac;unfold oZ;generalize I:ib (tN f k deep) f Y c q m=R;rw[ib]at I;dsimp only[oY,pR,tM];refine fy (fun hb hbp=>?_)
 refine⟨aq,_,(by(try simp only[aG,aR,Nat.reduceBEq,tyF,cL,cY, *]);first|done|with_reducible rfl),?_⟩;try simp only[am]
 rw[af ac,af ac,af ac,af ac,af ac,af ac]at I;subst I;refine yd rfl rfl (yb (n:=8+k) 7 [] [] _ wn wn .ak .ak .ak) ?_ ?_ ?_
 .exact L.keep eg fun q hq=>jU
 .simp only[br];omega
 .intro q h1 h2;rw[aA,af ac];exact M q h1 h2
end
section
def tyG5b.tyF:=ad @cA (ad @dw (ad @eZ (ad @fU (ad @fL (ad @fM (ad @fb (ad @gF (ad @yR (ad @th (ad @SE (ad @SF (ad @BQ (ad @SD (ad @SG (@zhn)))))))))))))))
open tyG5b
set_option maxRecDepth 100000 in
theorem zhO{lG:qB}(hG:zf2 lG){deep:Nat}{Y:qu}(hst:deep<=2->rY lG k f (deep+1))(hat:AtT f deep lo H H2 r Y c q m E2)(hn0:¬q<6)(hn1:¬q<8)(hp0:q<10):cb prog (ay pls lG) 58 156 oY E2 H2 (oZ k f deep lo H r Y c q m):=by
 obtain⟨hd,hrl,hlo,n2,g2,o2',hr2,hL1,hm,hqd,k0,k1,k2,k6,k8,k9,k10⟩:=hat;have hkeep:(ay pls lG).keep 58=false:=rfl;have hq2:(2:Int)≠0:=aE;have hlen0:((cG f).length:Int)≠0:=by rcases uK f with h|h<;>rw[h]<;>decide
 obtain⟨hi0,hix⟩:=tL (cG f) hlen0 hm.1 [];have hxs:=uN hm.1;have hxa:=uO hm.1;have hxf:=wo hm.1;have er:(H.next == r)=false:=aX ac;have e41:=fz f 4 1 Y;have e50:=fz f 5 0 Y;have e32:=fz f 3 2 Y;have hwd:IntKind.wrap .i64 ((deep:Int)+1)=((deep+1:Nat):Int):=iT ac;unfold oZ;generalize hR:ib (tN f k deep) f Y c q m=R;rw[ib]at hR;dsimp only[oY,pR,tM];repeat' (first
  |(apply aj ?_;clear hK K)|apply aQ ?_|(apply aV ?_ ?_<;>(intro hb hbp;try(cases hb;done)))|(apply ak fun K hK=>?_)|fail)
 refine qd ?_;refine aY ?_ (nH hG 4 f 1 ac ac lo _ r Y c hr2 ac);rintro v Z ⟨⟨cs,rfl,hc1,hc2,hc3⟩,hr4,n4,o4⟩;obtain⟨M,J,I,C,z,rfl⟩:=lN hc1;obtain⟨w0,dC,w2,w3,w4⟩:=wq hc2;dsimp only[aU];refine dY fun K hK=>?_;generalize i:Hp.set (Hp.alloc Z _) Z.next _=Ha
 have na:Ha.next=Z.next+1:=by rw[<-i];rfl
 have oa:∀q,q<Z.next->Ha.get q=Z.get q:=fun q L=>S0
 have ga:Ha.get Z.next=some (.cells [.int .i64 3,.aq [],.aq [],.int .i64 0,.int .i64 0,.int .i64 0,.aq [],.int .i64 0,.ak,M,J,I,C,z,.ak,.ak,.ak] 0 true):=by rw[<-i,aA,ah rfl]
 clear i;refine qd ?_;refine aY ?_ (B8 hG (hst ac) 3 ac ac lo Ha r ((bL f 4 1 Y).2,c) (hr4.keep ac fun q L=>oa q ac) uF);rintro tv H5 ⟨U,hr5,n5,o5⟩;have hl5:(lO f k (deep+1) 3 ((bL f 4 1 Y).2,c)).2.1.length<=(bL f 4 1 Y).2.length:=dz (B6 (B7 f k (deep+1)) _ _) (nG _);obtain⟨t1,t2⟩:=U.one;have g5:H5.get Z.next=some (.cells [.int .i64 3,.aq [],.aq [],.int .i64 0,.int .i64 0,.int .i64 0,.aq [],.int .i64 0,.ak,M,J,I,C,z,.ak,.ak,.ak] 0 true):=by rw[o5 _ ac ac];exact ga
 dsimp only[aU];refine dY fun K hK=>?_;generalize O:Hp.set H5 Z.next _=Hb
 have nb:Hb.next=H5.next:=by rw[<-O];rfl
 have ob:∀q,q≠Z.next->Hb.get q=H5.get q:=fun q L=>by rw[<-O,aA,af L]
 have gb:Hb.get Z.next=some (.cells [.int .i64 3,.aq [],.aq [],.int .i64 0,.int .i64 0,.int .i64 0,.aq [],.int .i64 0,.ak,M,J,I,C,z,.ak,tv,.ak] 0 true):=KC
 clear O;refine qd ?_;refine aY ?_ (B8 hG (hst ac) 2 ac ac lo Hb r (lO f k (deep+1) 3 ((bL f 4 1 Y).2,c)).2 (hr5.keep ac fun q L=>ob q ac) ac);rintro uv H6 ⟨j,hr6,n6,o6⟩;obtain⟨p1,p2⟩:=j.one;have g6t:H6.get Z.next=some (.cells [.int .i64 3,.aq [],.aq [],.int .i64 0,.int .i64 0,.int .i64 0,.aq [],.int .i64 0,.ak,M,J,I,C,z,.ak,tv,.ak] 0 true):=by rw[o6 _ ac ac];exact gb
 have g6:H6.get H.next=some qj:=by rw[o6 _ ac ac,ob _ ac,o5 _ ac ac,oa _ ac,o4 _ ac ac];exact g2
 have e46:(H.next == Z.next)=false:=aX ac;have e64:(Z.next == H.next)=false:=aX ac;dsimp only[aU];refine eP ?_;refine⟨aq,_,(by(try simp only[aG,aR,Nat.reduceBEq,tyF,cL,cY, *]);first|done|with_reducible rfl),?_⟩;try simp only[am]
 rw[af ac,af ac,ah ac]at hR;subst hR;have hk6:∀q,Hb.next<=q->q<H6.next->((H6.set Z.next (.cells [.int .i64 3,.aq [],.aq [],.int .i64 0,.int .i64 0,.int .i64 0,.aq [],.int .i64 0,.ak,M,J,I,C,z,.ak,tv,uv] 0 true)).set H.next (.cells [.int .i64 3,.aq [],.aq [],.int .i64 0,.int .i64 0,.int .i64 0,.aq [],.int .i64 0,.ak,M,J,I,C,z,.ak,tv,uv] 0 true)).get q=H6.get q:=fun q V g=>Gq
 have hk5:∀q,Ha.next<=q->q<H5.next->((H6.set Z.next (.cells [.int .i64 3,.aq [],.aq [],.int .i64 0,.int .i64 0,.int .i64 0,.aq [],.int .i64 0,.ak,M,J,I,C,z,.ak,tv,uv] 0 true)).set H.next (.cells [.int .i64 3,.aq [],.aq [],.int .i64 0,.int .i64 0,.int .i64 0,.aq [],.int .i64 0,.ak,M,J,I,C,z,.ak,tv,uv] 0 true)).get q=H5.get q:=fun q V g=>by rw[aA,af ac,aA,af ac,o6 _ ac ac,ob _ ac]
 refine yd rfl (by simp only[oO,oK,w0,dC,w2,w3,w4,t1,p1,gW];rfl) (yb (n:=8+k) 3 [] [] 0 wn ((hc3.up ac).a0 (fun q _ L=>ac) eg fun q V g=>by rw[aA,af ac,aA,af ac,o6 _ ac ac,ob _ ac,o5 _ ac ac,oa _ ac]) .ak (U.keep (fun q _ L=>ac) eg fun q V g=>hk5 q V g).rd (j.keep (fun q _ L=>ac) eg fun q V g=>hk6 q V g).rd) ?_ ?_ ?_
 .exact hr6.keep eg fun q L=>Gq
 .simp only[br];omega
 .intro q V g;rw[aA,af ac,aA,af ac,o6 _ ac g,ob _ ac,o5 _ ac g,oa _ ac,o4 _ ac g];exact o2' q V g
set_option maxRecDepth 100000 in
theorem zhP{j:qB}(hG:zf2 j){deep:Nat}{Y:qu}(hst:deep<=2->rY j k f (deep+1))(hat:AtT f deep lo H H2 r Y c q m E2)(hn0:¬q<6)(hn1:¬q<8)(hn2:¬q<10)(hp0:q<12):cb prog (ay pls j) 58 156 oY E2 H2 (oZ k f deep lo H r Y c q m):=by
 obtain⟨hd,hrl,hlo,n2,g2,o2',hr2,hL1,hm,hqd,k0,k1,k2,k6,k8,k9,k10⟩:=hat;have hkeep:(ay pls j).keep 58=false:=rfl;have hq2:(2:Int)≠0:=aE;have V:((cG f).length:Int)≠0:=by rcases uK f with h|h<;>rw[h]<;>decide
 obtain⟨hi0,hix⟩:=tL (cG f) V hm.1 [];have hxs:=uN hm.1;have hxa:=uO hm.1;have hxf:=wo hm.1;have er:(H.next == r)=false:=aX ac;have e41:=fz f 4 1 Y;have e50:=fz f 5 0 Y;have e32:=fz f 3 2 Y;have hwd:IntKind.wrap .i64 ((deep:Int)+1)=((deep+1:Nat):Int):=iT ac;unfold oZ;generalize hR:ib (tN f k deep) f Y c q m=R;rw[ib]at hR;dsimp only[oY,pR,tM];repeat' (first
  |(apply aj ?_;clear hK K)|apply aQ ?_|(apply aV ?_ ?_<;>(intro hb hbp;try(cases hb;done)))|(apply ak fun K hK=>?_)|fail)
 obtain⟨lv,hg,z⟩:=hr2.ew;have hcw:IntKind.wrap .i64 (c+1)=bS (c+1):=rfl;refine dY fun K hK=>?_;generalize C:Hp.set _ r _=J;have nt:J.next=H.next+1:=by rw[<-C];simpa using n2
 have ot:∀q,q≠r->J.get q=_:=fun q L=>by rw[<-C,aA,af L]
 have hrt:jo lo J r Y (bS (c+1)):=by rw[<-C];exact z _
 have gt:J.get H.next=some qj:=by rw[ot _ ac];exact g2
 clear C;refine qd ?_;refine aY ?_ (nH hG 4 f 1 ac ac lo J r Y _ hrt ac);rintro v Z ⟨⟨cs,rfl,hc1,hc2,hc3⟩,hr4,n4,o4⟩;obtain⟨v0,v1,v2,v3,v4,rfl⟩:=lN hc1;obtain⟨w0,dC,w2,w3,w4⟩:=wq hc2;dsimp only[aU];refine dY fun K hK=>?_;generalize i:Hp.set (Hp.alloc Z _) Z.next _=I
 have na:I.next=Z.next+1:=by rw[<-i];rfl
 have oa:∀q,q<Z.next->I.get q=Z.get q:=fun q L=>S0
 have ga:I.get Z.next=some (.cells [.int .i64 4,.aq [],.aq [],.int .i64 0,.int .i64 0,.int .i64 0,.aq [],.int .i64 0,.ak,v0,v1,v2,v3,v4,.ak,.ak,.ak] 0 true):=by rw[<-i,aA,ah rfl]
 clear i;refine qd ?_;refine aY ?_ (B8 hG (hst ac) 3 ac ac lo I r ((bL f 4 1 Y).2,bS (c+1)) (hr4.keep ac fun q L=>oa q ac) uF);rintro tv M ⟨U,hr5,n5,o5⟩;obtain⟨t1,t2⟩:=U.one;have g5:M.get Z.next=some (.cells [.int .i64 4,.aq [],.aq [],.int .i64 0,.int .i64 0,.int .i64 0,.aq [],.int .i64 0,.ak,v0,v1,v2,v3,v4,.ak,.ak,.ak] 0 true):=by rw[o5 _ ac ac];exact ga
 have g6:M.get H.next=some qj:=by rw[o5 _ ac ac,oa _ ac,o4 _ ac ac];exact gt
 have e46:(H.next == Z.next)=false:=aX ac;have e64:(Z.next == H.next)=false:=aX ac;dsimp only[aU];refine eP ?_;refine⟨aq,_,(by(try simp only[aG,aR,Nat.reduceBEq,tyF,cL,cY, *]);first|done|with_reducible rfl),?_⟩;try simp only[am]
 rw[af ac,af ac,af ac,ah ac]at hR;subst hR;have hk5:∀q,I.next<=q->q<M.next->((M.set Z.next (.cells [.int .i64 4,.aq [],.aq [],.int .i64 0,.int .i64 0,.int .i64 0,.aq [],.int .i64 0,.ak,v0,v1,v2,v3,v4,.ak,tv,.ak] 0 true)).set H.next (.cells [.int .i64 4,.aq [],.aq [],.int .i64 0,.int .i64 0,.int .i64 0,.aq [],.int .i64 0,.ak,v0,v1,v2,v3,v4,.ak,tv,.ak] 0 true)).get q=M.get q:=fun q O g=>Gq
 refine yd rfl (by simp only[oO,oK,w0,dC,w2,w3,w4,t1,gW];rfl) (yb (n:=8+k) 4 [] [] 0 wn ((hc3.up ac).a0 (fun q _ L=>ac) eg fun q O g=>by rw[aA,af ac,aA,af ac,o5 _ ac ac,oa _ ac]) .ak (U.keep (fun q _ L=>ac) eg fun q O g=>hk5 q O g).rd .ak) ?_ ?_ ?_
 .exact hr5.keep eg fun q L=>Gq
 .simp only[br];omega
 .intro q O g;rw[aA,af ac,aA,af ac,o5 _ ac g,oa _ ac,o4 _ ac g,ot _ g];exact o2' q O g
set_option maxRecDepth 100000 in
theorem zhQ{lG:qB}(hG:zf2 lG){deep:Nat}{M:qu}(hst:deep<=2->rY lG k f (deep+1))(hat:AtT f deep lo H H2 r M c q m E2)(hn0:¬q<6)(hn1:¬q<8)(hn2:¬q<10)(hn3:¬q<12)(hn4:¬q<14)(hp0:q<15):cb prog (ay pls lG) 58 156 oY E2 H2 (oZ k f deep lo H r M c q m):=by
 obtain⟨hd,hrl,hlo,n2,g2,o2',hr2,hL1,hm,hqd,k0,k1,k2,k6,k8,k9,k10⟩:=hat;have hkeep:(ay pls lG).keep 58=false:=rfl;have hq2:(2:Int)≠0:=aE;have I:((cG f).length:Int)≠0:=by rcases uK f with h|h<;>rw[h]<;>decide
 obtain⟨hi0,hix⟩:=tL (cG f) I hm.1 [];have hxs:=uN hm.1;have hxa:=uO hm.1;have hxf:=wo hm.1;have er:(H.next == r)=false:=aX ac;have e41:=fz f 4 1 M;have e50:=fz f 5 0 M;have e32:=fz f 3 2 M;have hwd:IntKind.wrap .i64 ((deep:Int)+1)=((deep+1:Nat):Int):=iT ac;unfold oZ;generalize hR:ib (tN f k deep) f M c q m=R;rw[ib]at hR;dsimp only[oY,pR,tM];repeat' (first
  |(apply aj ?_;clear hK K)|apply aQ ?_|(apply aV ?_ ?_<;>(intro hb hbp;try(cases hb;done)))|(apply ak fun K hK=>?_)|(apply da 24 [(3,14),(6,14),(7,14),(11,14),(13,14)] fun K hK=>?_)|(apply ce ?_;try intro _)|(apply di ?_ ?_<;>clear hK K)|fail)
 repeat' (first
   |(apply aj ?_;clear hK K)|apply aO ?_|(apply ak fun K hK=>?_)|(apply ce ?_;try intro _)|(apply di ?_ ?_<;>clear hK K)|fail)
 .exact bN
 generalize i:Hp.set (Hp.alloc (Hp.alloc _ _) _) _ _=Ha;have na:Ha.next=H.next+3:=by rw[<-i];simp only[br,aZ];omega
 have oa:∀q,q<H.next->q≠r->Ha.get q=H.get q:=fun q U g=>by
  rw[<-i,aA,af ac,aD,af dG,aD,af ac];exact o2' q U g
 have gz:Ha.get H.next=some qj:=by
  rw[<-i,aA,af ac,aD,af dG,aD,af ac];exact g2
 have hra:jo lo Ha r M c:=by
  rw[<-i];exact hr2.keep iU fun q C=>by rw[aA,af ac,aD,af dG,aD,af ac]
 have ga:Ha.get (H.next+2)=some (.cells [.int .i64 6,.aq ((cG f).getD (m.tmod (cG f).length).toNat []),.aq (mn m),.int .i64 0,.int .i64 0,.int .i64 0,.aq [],.int .i64 0,.ak,.int .i64 0,.int .i64 0,.aq [],.int .i64 0,.ak,.ak,.ak,.ak] 0 true):=by rw[<-i,aA,ah ac]
 clear i;have htm:0<=m.tmod 2/\m.tmod 2<2:=Gi hm.1;have hw2:IntKind.wrap .i64 (2-m.tmod 2)=2-m.tmod 2:=eX ac ac;generalize hcnt:(2-m.tmod 2).toNat=Z at *;have hcn:2-m.tmod 2=(Z:Int):=ac;rw[hcn]at hw2;refine bY [0,1,6,9,13] [H.next] 14 Z (fun j E H'=>∃v es L,H'.get (H.next+2)=some (.cells [.int .i64 6,.aq ((cG f).getD (m.tmod (cG f).length).toNat []),.aq (mn m),.int .i64 0,.int .i64 0,.int .i64 0,.aq [],.int .i64 0,.ak,.int .i64 0,.int .i64 0,.aq [],.int .i64 0,.ak,v,.ak,.ak] 0 true)/\eC (fun q=>H.next+3<=q) 4 H' 5 v (es.map Ex.cells)/\jo lo H' r L c/\(∀q,q<H.next->q≠r->H'.get q=H.get q)/\es.length=j/\L.length<=M.length/\iz f Z M=(es++(iz f (Z-j) L).1,(iz f (Z-j) L).2)) eE ⟨.ak,[],M,ga,.inl ⟨rfl,rfl⟩,hra,oa,rfl,aH _,au⟩ ?_;clear ga hra oa g2 hr2 o2';rintro j E3 H3 hj hcE hrH hnH hsI ⟨v,es,L,g3,Y,J,o3,hel,hLj,hJ⟩;(try simp only[bq,aT,aN,aG,aR,Nat.reduceBEq,Nat.reduceAdd, *]at hcE);(try simp only[bq,aT,aN, *]at hrH);(try simp only[aZ,br,bX,bK,Nat.reduceAdd]at hnH);have hB0:(H.next == H3.next)=false:=aX ac;have hC0:(H3.next == H.next)=false:=aX ac;have hle:H.next+3<=H3.next:=ac
 have e02:(H.next == H.next+2)=false:=aX ac;have e20:(H.next+2 == H.next)=false:=aX ac;obtain⟨v1,v2⟩:=Y.one;repeat' (first
  |(apply aj ?_;clear hK K)|apply aO ?_|(apply bp ?_ ?_<;>(intro hb hbp;try(cases hb;done)))|(apply ak fun K hK=>?_)|(apply da 28 [(1,4),(1,6),(5,6)] fun K hK=>?_)|(apply ce ?_;try intro _)|fail)
 .have hlt:j<Z:=by omega
  refine qe ?_;refine aY ?_ (nH hG 3 f 2 ac ac lo H3 r L c J ac);rintro v' V ⟨⟨cs,rfl,hc1,hc2,hc3⟩,hr4,n4,o4⟩;have hl4:=fz f 3 2 L;have g4:V.get (H.next+2)=some (.cells [.int .i64 6,.aq ((cG f).getD (m.tmod (cG f).length).toNat []),.aq (mn m),.int .i64 0,.int .i64 0,.int .i64 0,.aq [],.int .i64 0,.ak,.int .i64 0,.int .i64 0,.aq [],.int .i64 0,.ak,v,.ak,.ak] 0 true):=by rw[o4 _ ac ac];exact g3
  have g40:V.get H.next=some qj:=by rw[o4 _ ac ac];exact hrH
  have kb:=fun H=>KH H hc1 hc2;have hvq:∀q o m z,v=.sl q o m z->H.next+3<=q/\q<H3.next:=fun q o m z e=>by
   rcases Y with⟨rfl,_⟩|⟨q',imm,rows,rfl,e1,e2,_⟩
   .cases e
   .simp only[AV.sl.injEq]at e;rw[<-e.1];exact⟨e1,e2⟩
  have ob:∀q,q<V.next->(V.alloc (.cells cs 0 true)).get q=V.get q:=fun q C=>fq
  have O:eC (fun q=>H.next+3<=q) 4 (V.alloc (.cells cs 0 true)) 5 v (es.map Ex.cells):=Y.keep (fun q _ h=>h) dG fun q U g=>by rw[ob _ ac,o4 q g ac]
  have gcs:(V.alloc (.cells cs 0 true)).get V.next=some (.cells cs 0 true):=fG
  have g4b:(V.alloc (.cells cs 0 true)).get (H.next+2)=some (.cells [.int .i64 6,.aq ((cG f).getD (m.tmod (cG f).length).toNat []),.aq (mn m),.int .i64 0,.int .i64 0,.int .i64 0,.aq [],.int .i64 0,.ak,.int .i64 0,.int .i64 0,.aq [],.int .i64 0,.ak,v,.ak,.ak] 0 true):=by rw[ob _ ac];exact g4
  obtain⟨v5,H5,a5,s5,n5,f5,q5⟩:=eC.push (P:=prog) (t:=68) underlying68 IY NH NI rfl aB O dG (r:=V.next) (imm:=0) (row:=cs) (w:=(bL f 3 2 L).1.cells) gcs hc1 hc2 (hc3.a0 (fun q U g=>⟨ac,fun o m z e=>by have:=(hvq q o m z e).2;omega⟩) (dA _) fun q U g=>ob q g) Gb Gb;simp only[aZ]at n5 f5;have o5:∀q,q<V.next->q<H.next+3->H5.get q=V.get q:=fun q U g=>by rw[f5 q ac (fun o m z e=>by have:=(hvq q o m z e).1;omega),ob q U]
  have g5:H5.get (H.next+2)=some (.cells [.int .i64 6,.aq ((cG f).getD (m.tmod (cG f).length).toNat []),.aq (mn m),.int .i64 0,.int .i64 0,.int .i64 0,.aq [],.int .i64 0,.ak,.int .i64 0,.int .i64 0,.aq [],.int .i64 0,.ak,v,.ak,.ak] 0 true):=by rw[o5 _ ac ac];exact g4
  have n5':V.next+2<=H5.next:=ac
  obtain⟨p1,p2⟩:=s5.one;clear f5 q5 Y O J;dsimp only[aU];repeat' (first
   |(apply aj ?_;clear hK K)|apply aO ?_|(apply ak fun K hK=>?_)|(apply ce ?_;try intro _)|(apply di ?_ ?_<;>clear hK K)|fail)
  .exact bN
  .have o6:∀q,q≠H.next+2->(H5.set (H.next+2) (.cells [.int .i64 6,.aq ((cG f).getD (m.tmod (cG f).length).toNat []),.aq (mn m),.int .i64 0,.int .i64 0,.int .i64 0,.aq [],.int .i64 0,.ak,.int .i64 0,.int .i64 0,.aq [],.int .i64 0,.ak,v5,.ak,.ak] 0 true)).get q=H5.get q:=fun q C=>by rw[aA,af C]
   have g60:H5.get H.next=some qj:=by rw[o5 _ ac ac];exact g40
   refine⟨ac,(by simp only[bq,aT,aN,aG,aR,Nat.reduceBEq,Nat.reduceAdd, *]),(by simp only[bq,aT,aN,aG,aR, *]),bG,(by simp only[aG,Nat.reduceBEq, *];exact gX (n:=Z) ac ac),?_⟩;refine⟨v5,es++[(bL f 3 2 L).1],(bL f 3 2 L).2,gC,by rw[tg];exact s5.keep (fun q _ h=>h) eg fun q U g=>o6 q ac,hr4.keep eg fun q C=>by rw[o6 q ac,o5 q ac ac],fun q U g=>by rw[o6 q ac,o5 q ac ac,o4 q ac g,o3 q U g],by simp[hel],ac,?_⟩;rw[hJ,show Z-j=(Z-(j+1))+1 by omega,iz];simp
 .have hje:j=Z:=by omega
  subst hje;refine eP ?_;refine⟨aq,_,(by(try simp only[aG,aR,Nat.reduceBEq,tyF,cL,cY, *]);first|done|with_reducible rfl),?_⟩;try simp only[am]
  rw[af ac,af ac,af ac,af ac,af ac,ah ac,hJ,nP]at hR;subst hR;simp only[iz,bm];refine yd rfl (by simp only[oO,oK,v1,gW];rfl) (yb (n:=8+k) 6 _ _ 0 wn wn ((Y.keep (fun q _ C=>ac) eg fun q U g=>jU).rd.up ac) .ak .ak) ?_ ?_ ?_
  .exact J.keep eg fun q C=>jU
  .simp only[br];omega
  .intro q U g;rw[aA,af ac];exact o3 q U g
end
section
def tyG5.tyF:=ad @cA (ad @dw (ad @eZ (ad @fU (ad @fL (ad @fM (ad @fb (ad @gF (ad @yR (ad @SG (@oH))))))))))
open tyG5
set_option maxRecDepth 100000 in
theorem zhR{J:qB}(i:zf2 J){deep:Nat}(hd:deep<=3)(Z:deep<=2->rY J k f (deep+1)):rY J (k+1) f deep:=by
 intro lo H r s V hL;have hw:zd0 (ay pls J) 58:=i.plain eN;have hnx:zd0 (ay pls J) 32:=i.plain eN;have hkeep:(ay pls J).keep 58=false:=rfl;have hrl:=V.1;have hlo:=V.2.1;have hq16:(16:Int)≠0:=aE;have hq2:(2:Int)≠0:=aE;have L:((cG f).length:Int)≠0:=by rcases uK f with h|h<;>rw[h]<;>decide
 rw[gT,wm];refine a0 (M:=156) (rs:=[.cell 6 78]) (hw.call _) hw.aG hw.az func58 rfl rfl tM.2 rfl ?_;dsimp only[tM,aW,Nat.reduceAdd];refine dY fun K hK=>?_;refine qd ?_;refine aY ?_ (FL hnx (V.keep (dA _) fun q hq=>fq) hL);rintro v H2 ⟨rfl,z,n2,o2⟩;simp only[aZ]at n2;have g2:H2.get H.next=some qj:=by rw[o2 _ ac,aD,ah rfl]
 have o2':∀q,q<H.next->q≠r->H2.get q=H.get q:=fun q h1 h2=>by rw[o2 q h2,aD,af ac]
 have hL1:=nG s.1;generalize (ca s.1).1=n at *;generalize (ca s.1).2=L1 at *;obtain⟨sL,c⟩:=s;simp only[]at *;have hq:=iW (n:=n) (m:=16) ac ac;have g:=iW (n:=bS (n.tdiv 16)) (m:=1000) ac ac;obtain⟨hi0,hix⟩:=tL (cG f) L g.1 [];have hxs:=uN g.1;have hxa:=uO g.1;have hxf:=wo g.1;clear o2;dsimp only[aU];repeat' (first
  |(apply aj ?_;clear hK K)|apply aO ?_|(apply ez ?_;first|refine Rx.k (Q7 i.nms _ _) ?_|refine Rx.k (oq i.pick _ 1000 aE _) ?_)|(apply ak fun K hK=>?_)|fail)
 refine qd ?_;refine aY ?_ (oq i.pick n 16 aE _);rintro _ _ ⟨rfl,rfl⟩;dsimp only[aU];refine Rx.o ?_;refine AZ (hK _ _ ?_);clear hK K;dsimp only[mX,ul];generalize bO n 16=q0 at *;generalize bO (bS (n.tdiv 16)) 1000=m at *;obtain⟨lv,hgr,hlen⟩:=z.len;rename_i H2;simp only[xm,nV,cy];refine vp ?_;refine vp ?_;refine ak fun K Y=>?_;have hK:∀j H3,(j.at 0=.ptr r 0/\j.at 1=.int .i64 f/\j.at 2=.int .i64 deep/\j.at 6=.ptr H.next 0/\j.at 8=cZ (cG f)/\j.at 9=.int .i64 m/\j.at 10=.int .i64 q0/\(∃b,j.at 44=.bool b/\(b=true↔(((2:Int)<deep/\8<=q0/\q0<12)\/(10<=c/\10<=q0))))/\H3=H2)->K j H3:=by
  rintro j H3 ⟨k0,k1,k2,k6,k8,k9,O,⟨b,k44,hb⟩,rfl⟩;apply Y;clear Y K;dsimp only[mX,ul];have I:ya deep c q0=if ((2:Int)<deep/\8<=q0/\q0<12)\/(10<=c/\10<=q0)then 0 else q0:=rfl
  generalize ya deep c q0=q at *;have hqr:0<=q/\q<16:=by rw[I];split<;>omega
  have hqd:8<=q->q<12->deep<=2:=by rw[I];split<;>omega
  refine zhk (fun E' H'=>E'.at 0=.ptr r 0/\E'.at 1=.int .i64 f/\E'.at 2=.int .i64 deep/\E'.at 6=.ptr H.next 0/\E'.at 8=cZ (cG f)/\E'.at 9=.int .i64 m/\E'.at 10=.int .i64 q/\H'=H3) ?_ ?_
  .cases b with
   |true=>
    rw[ah (hb.1 rfl)]at I;refine CJ (fun hb hbp=>?_);exact⟨rfl,eE,eE,eE,eE,eE,eE,Jb,rfl⟩
   |false=>
    rw[af (fun h=>by have:=hb.2 h;cases this)]at I;refine CJ (fun hb hbp=>?_);exact⟨rfl,eE,eE,eE,eE,eE,eE,(by first|(simp only[*];done)|rfl),rfl⟩
  clear k0 k1 k2 k6 k8 k9 O k44 hb I hq;rintro E3 H' ⟨k0,k1,k2,k6,k8,k9,O,rfl⟩;have U:AtT f deep lo H H' r L1 c q m E3:=⟨hd,hrl,hlo,n2,g2,o2',z,ac,g,hqd,k0,k1,k2,k6,k8,k9,O⟩;by_cases c1:q<6
  .exact zhK i Z U c1
  by_cases C:q<8
  .exact zhL i Z U c1 C
  by_cases c3:q<10
  .exact zhO i Z U c1 C c3
  by_cases c4:q<12
  .exact zhP i Z U c1 C c3 c4
  by_cases c5:q<14
  .exact zhM i Z U c1 C c3 c4 c5
  by_cases c6:q<15
  .exact zhQ i Z U c1 C c3 c4 c5 c6
  exact zhN i Z U c1 C c3 c4 c5 c6
 clear Y;repeat' (first
  |(apply aj ?_;clear hK K)|apply aO ?_|(apply cD ?_ ?_<;>(intro hg hgp;try(cases hg;done)))|fail)
 all_goals
  refine⟨eE,eE,eE,eE,eE,eE,eE,⟨_,eE,?_⟩,rfl⟩;first
  |exact⟨fun _=>ac,fun _=>rfl⟩
  |exact⟨fun h=>(by cases h),fun h=>(by omega:False).elim⟩
  |exact⟨fun h=>by(have h:=sE h;omega),fun h=>dx ac⟩
theorem Tb{Y:qB}(i:zf2 Y)(f:Int):∀(k g:Nat),4<=g+k->g<=3->rY Y k f g
 |0,g,h1,h2=>by omega
 |k+1,g,h1,h2=>zhR i h2 fun h=>Tb i f k (g+1) ac ac
end
end Go.Proofs.YtbflaciihaijgaaGreat
