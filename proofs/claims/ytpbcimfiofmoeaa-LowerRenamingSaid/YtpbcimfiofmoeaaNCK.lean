/- Parts: LoG, LoH, LoI, LoJ, W4a, W4b, W4c. -/
import Derived.Test.YtpbcimfiofmoeaaNCJ
set_option linter.unusedSimpArgs false
set_option linter.unusedVariables false
set_option linter.unusedSectionVars false
set_option linter.defProp false
set_option maxHeartbeats 32000000
namespace Go.Ab
set_option maxRecDepth 20000
open Go
theorem IM{P:Prop}(h:P:=by rw[List.getD_eq_getElem?_getD,List.getElem?_eq_getElem Y];exact List.getElem_mem Y):P:=h
theorem IN{P:Prop}(h:P:=by have:=R4.o5;dsimp only[Lx.nx]at this;omega):P:=h
theorem IP{P:Prop}(h:P:=by have:=N7.sub k V;simp only[zbb]at this;omega):P:=h
theorem IQ{P:Prop}(h:P:=by simp only[za4,Nat.reduceBEq, *];exact zc7 (n:=r.2.vars.length) ac ac):P:=h
theorem IR{P:Prop}(h:P:=by simp only[za4,Nat.reduceBEq, *];exact zc7 (n:=O.length) ac ac):P:=h
def zB:=@beq_self_eq_true
def zC:=@List.take_zero
end Go.Ab
namespace Go.Proofs.Ytpbcimfiofmoeaa
set_option maxRecDepth 20000
open Go Go.Ab
section
def tyLoG.tyF:=ad @eJ (ad @cQ (ad @cW (ad @gU (ad @lx (ad @gI (ad @eK (ad @eA (ad @dX (ad @fj (ad @ml (@nW)))))))))))
open tyLoG
noncomputable def IT:{c:SC // aD 87 (Try.f128.body.getD .skip)=c}:=by
 refine⟨?_,?_⟩;rotate_left
 .simp only[Try.f128,bP,aD,zby,zbt,zbA,zbB,Nat.blt,Nat.ble];rfl
structure RowZ (S:Nat->Prop) (vv:AV) (lo:Nat) (H:Hp) (av:AV) (l:List Int):Prop where
 r:hZ H av l lo
 n:∀k,zbv av k->¬S k/\¬zbv vv k
theorem hZ.lt{H:Hp}{v:AV}{l:List Int}{lo:Nat}(h:hZ H v l lo){k:Nat}(j:zbv v k):lo<=k/\k<H.next:=h.n.lt j
theorem hZ.lo{H:Hp}{v:AV}{l:List Int}{lo lo':Nat}(h:hZ H v l lo)(K:∀k,zbv v k->lo'<=k):hZ H v l lo':=by
 rcases h with h|⟨r,i,g,m,L⟩
 .exact .inl h
 .exact .inr ⟨r,i,g,K r ⟨_,i⟩,L⟩
theorem hZ.one{H:Hp}{v:AV}{l:List Int}{lo:Nat}(h:hZ H v l lo):AV.one v=true/\v.cells=[v]:=by
 rcases h with⟨rfl,_⟩|⟨r,rfl,_⟩<;>exact⟨rfl,rfl⟩
theorem RowZ.fr{X:Lx}{S S':Nat->Prop}{vv C:AV}{lo:Nat}{H H':Hp}{U:AV}{l:List Int}(h:RowZ S vv lo H U l)(o:X.b<lo)(K:X.rt<lo)(f:FrL X S vv H S' C H'):RowZ S' C lo H' U l:=by
 refine⟨h.r.keep f.next fun k j=>?_,fun k j=>?_⟩
 .have a:=h.r.lt j;have b:=h.n k j;exact f.get k a.2 ac ac b.1 b.2
 .have a:=h.r.lt j;have b:=h.n k j;refine⟨fun e=>?_,fun e=>?_⟩
  .rcases f.sub k e with e|e
   .exact b.1 e
   .omega
  .rcases f.own k e with e|e
   .exact b.2 e
   .omega
theorem RowZ.at{S:Nat->Prop}{vv:AV}{lo:Nat}{H:Hp}{U:AV}{l:List Int}(h:RowZ S vv lo H U l){i:Nat}{x:Int}(z:l[i]?=some x):∃r,zb1 Try.prog 23 U (.int .i64 (i:Int))=some (.ptr r i)/\ip Try.prog H 3 (.ptr r i)=some (.int .i64 x)/\zbv U r:=by
 have K:i<l.length:=by
  by_cases c:i<l.length
  .exact c
  .rw[md ac]at z;cases z
 rcases h.r with⟨_,rfl⟩|g
 .simp at K
 .obtain⟨r,m,L⟩:=g.b.at K;rw[aY K]at z;simp only[az]at z;rw[z]at L;refine⟨r,m,L,?_⟩;obtain⟨q,e,_⟩:=g;subst e;rw[x4 Try.underlying23 jK K]at m;simp only[az,AV.ptr.injEq]at m;exact⟨_,by rw[m.1]⟩
theorem IU{H:Hp}{v:AV}{l:List Int}{lo:Nat}(M:iM H v l lo)(K:l.length<2^38):∃z H',zcg Try.prog false H 23 23 .nilS v=some (z,H')/\hZ H' z l H.next/\H.next<=H'.next/\(∀k,k<H.next->H'.get k=H.get k):=by
 by_cases V:l=[]
 .subst V;refine⟨.nilS,H,?_,.inl ⟨rfl,rfl⟩,aA _,fun _ _=>rfl⟩;rcases M with⟨rfl,_⟩|⟨r,L,rfl,g,_⟩
  .simp only[zcg,Try.underlying23,jK,nU,nV,show jp Try.prog 23=true by kernel_rfl,zcM]
  .have Y:=tL g;simp only[ed]at Y;simp only[zcg,Try.underlying23,jK,nU,nV,show jp Try.prog 23=true by kernel_rfl,ed,Y]
 .have I:zcM H 1 v=some (l.length,l.map (.int .i64)):=by
   rcases M with⟨_,h⟩|⟨r,L,rfl,g,_⟩
   .exact(V h).elim
   .exact tL g
  obtain⟨z,H',i,g,m,Z,_⟩:=GQ (v:=.nilS) (l:=[]) (lo:=H.next) (.inl ⟨rfl,rfl⟩) (aA _) I V cc;rw[oD]at g;exact⟨z,H',i,.inr g,ac,Z⟩
def zD(g:List En)(X:Lx)(c:Cx)(n:Nat):Prop:=∀(l:List St) (s r:Bd),dR c n l s=some r->Fin r->zbC l<2^36->s.vars.length<2^36->∀{H:Hp}{S:Nat->Prop}{lv vv:AV},RepL X H S s lv vv->za9 Try.prog (za3 pls g) 60 [.ptr X.b 0,.lst (l.map St.cells)] H (mF X S vv H r)
section
variable {tb:List En} (hG:LowT tb) {X:Lx} {c:Cx} (hX:CxOk X c) {x:St} {s:Bd} {H:Hp} {S:Nat -> Prop} {lv vv:AV}
set_option maxRecDepth 100000 in
set_option maxHeartbeats 8000000 in
include hG hX in
theorem Xe{n:Nat}(IH:zD tb X c n){r:Int×Bd}{a b m:Bd}(h1:di c n x.value s=some r)(h2:dR c n x.thn r.2=some a)(h3:dR c n x.els {a with state:=r.2.state,vars:=r.2.vars}=some b)(h4:lK r.1 a.vars b.vars.length 0 b=some m)
 (hF:Fin (zbi r.1 a.state m.state m).2) (hz:x.sz<2^36) (hvl:s.vars.length<2^36) (C:RepL X H S s lv vv) :
 za9 Try.prog (za3 pls tb) 128 [.ptr X.b 0,.agg x.cells] H (mF X S vv H { (zbi r.1 a.state m.state m).2 with state:=(zbi r.1 a.state m.state m).1}):=by
 have hw:Plain (za3 pls tb) 128:=hG.plain cN;have hkeep:(za3 pls tb).keep 128=false:=rfl;have R1:=C.alloc (.cells x.cells 0 true);have F1:=(cb X S vv H).alloc (.cells x.cells 0 true);have hFm:Fin m:=hF.le (zcR _ _ _ _).le;have hml:=tR _ _ _ _ _ _ h4;have hFb:Fin b:=hFm.le hml.1;have e3:=(lL c n).2.1 _ _ _ h3;have e2:=(lL c n).2.1 _ _ _ h2;have hFa:Fin a:=hFb.le ⟨e3.1.l,e3.1.n⟩;have hFr:Fin r.2:=hFa.le e2.1;have hsz:=x.sz_eq;have o3:=C.o3;have o4:=C.o4;have o5:=C.o5;have hlv:=zci c n _ _ _ h1;have hrl:r.2.vars.length<2^36:=by rw[hlv.v];exact hvl
 have hbl:b.vars.length<2^36:=by rw[e3.2];exact hrl
 clear e3 e2 hml hlv;refine zbs (M:=87) (rs:=[]) (hw.call _) hw.ice hw.froz Try.func128 rfl rfl IT.2 rfl ?_;dsimp only[IT,zbj,Nat.reduceAdd];repeat' (first
  |(apply ai ?_;clear hK K)|apply Rx.o ?_|apply aq ?_|(apply zaW fun K hK=>?_)|fail)
 refine aK rfl aL aM ?_;simp only[aR];refine aI ?_ (pi hG hX n x.value s r h1 hFr R1 (cb _ _ _ _));rintro w H2 ⟨rfl,S2,lv2,R2,F2⟩;have g2:=eC C F2;have m2:=R2.m;have n2:H.next+1<=H2.next:=F2.next
 obtain⟨cv,H3,a3,c3,n3,q3⟩:=IU (H:=H2) R2.vars.n ac;have R3:RepL X H3 S2 r.2 lv2 vv:=R2.keep n3 fun k h _=>q3 k h;have F3:FrL X S2 vv H2 S2 vv H3:=⟨n3,fun k h _ _ _ _=>q3 k h,fun _ h=>.inl h,fun _ h=>.inl h⟩;have m3:=R3.m;have g3:H3.get H.next=some (.cells x.cells 0 true):=by rw[q3 _ ac];exact g2
 have z3:RowZ S2 vv (H.next+1) H3 cv r.2.vars:=⟨c3.lo fun k j=>by have:=c3.lt j;omega,fun k j=>by
  have:=R2.new (c3.lt j).1;exact⟨this.1,this.2.1⟩⟩
 obtain⟨hc1,hc2⟩:=c3.one;dsimp only[zbm]at m2 m3;dsimp only[za1];repeat' (first
  |(apply ai ?_;clear hK K)|apply Rx.o ?_|apply aq ?_|(apply zaW fun K hK=>?_)|(apply zcy 2 [(3,8),(3,11),(7,8)] fun K hK=>?_)|(apply zbK ?_;try intro _)|(apply zcr ?_ ?_<;>clear hK K)|apply cr ?_|fail)
 .exact zck
 .refine aK rfl aL aM ?_;simp only[aR];refine aI ?_ (IH x.thn r.2 a h2 hFa ac hrl R3);rintro w H4 ⟨S4,L,Y,g,F4⟩;have U:=F2.trans (F3.trans F4);have g4:=eC C U;have z4:=z3.fr ac ac F4;have m4:=g.m;obtain⟨R4s,F4s⟩:=g.setS r.2.state;have m4s:=R4s.m;have zs:=z4.fr (X:=X) ac ac F4s;have R5:=R4s.swapV (vw:=cv) (l:=r.2.vars) (zs.r.lo fun k _=>dg _) (fun k j=>⟨by have:=zs.r.lt j;omega,(zs.r.lt j).2,(zs.n k j).1⟩);have m5:=R5.m;have hk5:∀k,k≠X.b->((H4.set X.b (.cells (zbm X {a with state:=r.2.state} L Y) 0 true)).set X.b (.cells (zbm X {a with state:=r.2.state,vars:=r.2.vars} L cv) 0 true)).get k=H4.get k:=fun k j=>by rw[aC,af j,aC,af j]
  have O:FrL X S vv (H.alloc (.cells x.cells 0 true)) S4 cv ((H4.set X.b (.cells (zbm X {a with state:=r.2.state} L Y) 0 true)).set X.b (.cells (zbm X {a with state:=r.2.state,vars:=r.2.vars} L cv) 0 true)):=⟨U.next,fun k h1 h2 h3 h4 h5=>by rw[hk5 k h2];exact U.get k h1 h2 h3 h4 h5,U.sub,fun k j=>.inr (z4.r.lt j).1⟩;have g5:=eC C O;have y5:RowZ S4 cv 0 ((H4.set X.b (.cells (zbm X {a with state:=r.2.state} L Y) 0 true)).set X.b (.cells (zbm X {a with state:=r.2.state,vars:=r.2.vars} L cv) 0 true)) Y a.vars:=⟨g.vars.keep (aA _) fun k j=>hk5 k (by have:=(g.vS k j).1;omega),fun k j=>⟨fun e=>(g.sS k e).2.2 j,fun e=>(z4.n k e).2 j⟩⟩;have y5':RowZ S4 cv (X.b+1) ((H4.set X.b (.cells (zbm X {a with state:=r.2.state} L Y) 0 true)).set X.b (.cells (zbm X {a with state:=r.2.state,vars:=r.2.vars} L cv) 0 true)) Y a.vars:=⟨y5.r.lo fun k j=>(g.vS k j).1,y5.n⟩;clear y5 hk5 F4s zs z4 z3 F3 U;dsimp only[zbm]at m4 m4s m5 R5 O y5' g5;dsimp only[za1];repeat' (first
   |(apply ai ?_;clear hK K)|apply Rx.o ?_|apply bN ?_|apply aq ?_|(apply zaW fun K hK=>?_)|(apply zcy 4 [(3,10),(7,10)] fun K hK=>?_)|(apply zbK ?_;try intro _)|(apply zcr ?_ ?_<;>clear hK K)|apply cr ?_|fail)
  .exact zck
  .refine aK rfl aL aM ?_;simp only[aR];refine aI ?_ (IH x.els _ b h3 hFb ac hrl R5);rintro w H6 ⟨S6,lv6,J,R6,F6⟩;have I:=O.trans F6;have g6:=eC C I;have y6:=y5'.fr ac ac F6;have m6:=R6.m;have hlen6:=R6.vars.n.len';have n6:H.next+1<=H6.next:=I.next
   clear F6 O R5 R4s g y5' m5 m4s m4 g5 g4;dsimp only[zbm]at m6;dsimp only[za1];repeat' (first
    |(apply ai ?_;clear hK K)|apply Rx.o ?_|apply aq ?_|(apply zaW fun K hK=>?_)|apply aO ?_|fail)
   refine zcj [0,4,7,8,51] [] 52 b.vars.length (fun i E Hi=>∃Z Si lvi,lK r.1 a.vars (b.vars.length-i) i Z=some m/\RepL X Hi Si Z lvi J/\FrL X S vv (H.alloc (.cells x.cells 0 true)) Si J Hi/\RowZ Si J (X.b+1) Hi Y a.vars/\Z.vars.length=b.vars.length) eE ⟨b,S6,lv6,h4,R6,I,y6,rfl⟩ ?_;clear m6 g6 R6 I y6 hlen6;rintro i E Hi hi hcE hrH hnH hsI ⟨Z,Si,lvi,V,Ri,Fi,yi,hil⟩;(try simp only[zbR,zbq,br,za4,zbg,Nat.reduceBEq, *]at hcE);(try simp only[zbq, *]at hrH);(try simp only[zbb,zbl,zb4,b4,Nat.reduceAdd]at hnH);have mi:=Ri.m;dsimp only[zbm]at mi;have ni:H.next+1<=Hi.next:=Fi.next
   by_cases hlt:i<b.vars.length
   .have hlt':(i:Int)<b.vars.length:=by omega
    obtain⟨k,j⟩:∃k,b.vars.length-i=k+1:=⟨b.vars.length-i-1,ac⟩;have hk2:b.vars.length-(i+1)=k:=ac;rw[j]at V;rw[hk2];unfold lK at V;simp only[dx]at V;obtain⟨xa,hxa,xb,hxb,V⟩:=V;obtain⟨qa,hixa,hlda,hqa⟩:=yi.at hxa;obtain⟨qb,hixb,hldb⟩:=Ri.atV hxb;have hFx:Fin (zbi r.1 xa xb Z).2:=hFm.le ⟨(tR _ _ _ _ _ _ V).1.l,(tR _ _ _ _ _ _ V).1.n⟩;have hx2:(zbi r.1 xa xb Z).2.vars=Z.vars:=(zcR _ _ _ _).v;have hvx:i<(zbi r.1 xa xb Z).2.vars.length:=by rw[hx2];omega
    repeat' (first
     |(apply ai ?_;clear hK K)|apply Ry.o ?_|(apply bi (fun hb o=>?_) (fun hb o=>?_)<;>try(cases hb;done))|apply aq ?_|(apply zaW fun K hK=>?_)|(apply zcy 10 [(3,18),(3,20),(10,18),(14,18),(17,18)] fun K hK=>?_)|(apply zbK ?_;try intro _)|apply cr ?_|apply aO ?_|apply za8 ?_|fail)
    refine aK rfl aL aM ?_;simp only[fJ];refine aI ?_ (tZ hG Ri (cb _ _ _ _) r.1 xa xb hFx);rintro w H7 ⟨rfl,S7,lv7,R7,F7⟩;obtain⟨q',z,hld',H8,hst,hq1,hq2,hq3,R8,F8,o8,n8⟩:=R7.setV hvx (zbi r.1 xa xb Z).1;have hqq:q'=qb:=by
     rw[hixb]at z;simp only[az,AV.ptr.injEq]at z;exact z.1.symm
    subst hqq;have y7:=yi.fr ac ac F7;have y8:=y7.fr ac ac F8;obtain⟨qa7,ix7,ld7,_⟩:=y7.at hxa;obtain⟨qa8,ix8,ld8,_⟩:=y8.at hxa;rw[hixa]at ix7 ix8;simp only[az,AV.ptr.injEq,br]at ix7 ix8;subst ix7 ix8;have m7:=R7.m;have m8:=R8.m;have n7:=F7.next
    dsimp only[zbm]at m7 m8;have fin:∀R:Prop,R->R:=fun _ h=>h;clear fin z hx2;dsimp only[za1];repeat' (first
     |(apply ai ?_;clear hK K)|apply Rx.o ?_|apply bN ?_|(apply zaW fun K hK=>?_)|(apply zbK ?_;try intro _)|(apply zcr ?_ ?_<;>clear hK K)|apply cr ?_|apply zcX rfl ?_|fail)
    .exact zck
    .refine⟨ac,zbw,zbw,eN,(by simp only[za4,Nat.reduceBEq, *];exact zc7 (n:=b.vars.length) ac ac),?_⟩;exact⟨_,S7,lv7,V,R8,Fi.trans (F7.trans F8),y8,by rw[kz,(zcR _ _ _ _).v];exact hil⟩
   .have hlt':¬(i:Int)<b.vars.length:=by omega
    have j:b.vars.length-i=0:=ac;rw[j]at V;simp only[lK,az]at V;subst V;repeat' (first
     |(apply ai ?_;clear hK K)|apply Ry.o ?_|(apply bi (fun hb o=>?_) (fun hb o=>?_)<;>try(cases hb;done))|apply aq ?_|(apply zaW fun K hK=>?_)|apply zbW ?_)
    refine aK rfl aL aM ?_;simp only[aR];refine aI ?_ (tZ hG Ri (cb _ _ _ _) r.1 a.state Z.state hF);rintro w H7 ⟨rfl,S7,lv7,R7,F7⟩;have m7:=R7.m;dsimp only[zbm]at m7;dsimp only[za1];repeat' (first
     |(apply ai ?_;clear hK K)|apply Rx.o ?_|apply bN ?_|fail)
    all_goals (refine⟨za2,_,za7,?_⟩;try simp only[za0])
    obtain⟨R8,F8⟩:=R7.setS (zbi r.1 a.state Z.state Z).1;exact⟨S7,lv7,J,R8,F1.trans (Fi.trans (F7.trans F8))⟩
end
end
section
def tyLoH.tyF:=ad @eJ (ad @cQ (ad @yd (ad @cW (ad @gU (ad @lx (ad @gI (ad @eK (ad @eA (ad @dX (ad @fj (ad @ml (ad @nW (ad @FW (ad @zy (@wm)))))))))))))))
open tyLoH
noncomputable def IV:{c:SC // aD 181 (Try.f129.body.getD .skip)=c}:=by
 refine⟨?_,?_⟩;rotate_left
 .simp only[Try.f129,bP,aD,zby,zbt,zbA,zbB,Nat.blt,Nat.ble];rfl
abbrev qj(l:List Nat):List Int:=l.map fun(i:Nat)=>(i:Int)
theorem Xf{H:Hp}{r imm m:Nat}{b:List Bool}(C:H.get r=some (.cells (b.map .bool) imm true))(V:m<b.length):ip Try.prog H 4 (.ptr r m)=some (.bool (b.getD m false)):=by
 rw[BK Try.underlying4 rfl C,gl,eR,aY V];rfl
def sN(b:List Bool)(i:Nat):List Nat:=(List.range i).filter fun i=>b.getD i false
theorem Xg(b:List Bool)(i:Nat):sN b (i+1)=sN b i++(if b.getD i false=true then [i]else []):=by
 unfold sN;rw[List.range_succ,List.filter_append]
 congr 1
 by_cases h:b.getD i false=true
 .rw[aj h];simp only[List.filter_cons,h,cZ,List.filter_nil]
 .rw[af h];simp only[List.filter_cons,h,List.filter_nil];rfl
theorem IX{b:List Bool}{i:Nat}(h:i∈zct b):i<b.length:=by
 unfold zct at h;exact nP.1 (qK.1 h).1
theorem IY(b:List Bool)(i:Nat):(sN b i).length<=i:=by
 have:=List.length_filter_le (fun i=>b.getD i false) (List.range i);rw[List.length_range]at this;exact this
theorem RowL.other{S:Nat->Prop}{vv:AV}{lo:Nat}{H H':Hp}{U g:AV}{l:List Int}(h:RowL S vv lo H U l)(Z:H.next<=H'.next)(I:∀k,k<H.next->¬zbv g k->H'.get k=H.get k)(hd:∀k,zbv U k->¬zbv g k):RowL S vv lo H' U l:=⟨h.r.keep Z fun k j=>I k (h.r.lt j).2 (hd k j),h.n⟩
theorem FrL.other{X:Lx}{i S:Nat->Prop}{J vv g:AV}{zbk H H':Hp}(h:FrL X i J zbk S vv H)(U:H.next<=H'.next)(I:∀k,k<H.next->¬zbv g k->H'.get k=H.get k)(O:∀k,zbv g k->zbk.next<=k):FrL X i J zbk S vv H':=
 ⟨cm h.next U,fun k Z Y m L o=>by rw[I k (l0 Z h.next) fun e=>by have:=O k e;omega];exact h.get k Z Y m L o,h.sub,h.own⟩
theorem RowL.app1{X:Lx}{S:Nat->Prop}{s:Bd}{V vv:AV}{lo:Nat}{H:Hp}{g:AV}{l:List Int}(h:RowL S vv lo H g l)(I:RepL X H S s V vv)(Z:lo<=H.next)(x:Int)(Y:X.b<lo)(K:l.length<2^39):
 ∃z H',zcg Try.prog false (H.alloc (.cells [.int .i64 x] 0 true)) 23 23 g (.sl H.next 0 1 1)=some (z,H')/\RowL S vv lo H' z (l++[x])/\RepL X H' S s V vv/\H.next<=H'.next/\(∀k,k<H.next->¬zbv g k->H'.get k=H.get k)/\(∀k,zbv z k->zbv g k\/H.next<=k):=by
 obtain⟨z,H',C,M,L,_,J,O,o,_⟩:=h.app (I.alloc (.cells [.int .i64 x] 0 true)) eU (dV _) (fun k j=>fS) x (r:=H.next) (imm:=0) lY Y K;simp only[zbb]at J O o;exact⟨z,H',C,M,L,ac,fun k i U=>by rw[O k ac U,zaY,af ac],fun k j=>by
  rcases o k j with e|e
  .exact .inl e
  .exact .inr ac⟩
theorem RowL.at{S:Nat->Prop}{vv:AV}{lo:Nat}{H:Hp}{U:AV}{l:List Int}(h:RowL S vv lo H U l){i:Nat}{x:Int}(z:l[i]?=some x):∃r,zb1 Try.prog 23 U (.int .i64 (i:Int))=some (.ptr r i)/\ip Try.prog H 3 (.ptr r i)=some (.int .i64 x):=by
 have K:i<l.length:=by
  by_cases c:i<l.length
  .exact c
  .rw[md ac]at z;cases z
 rcases h.r with⟨_,rfl⟩|g
 .simp at K
 .obtain⟨r,m,L⟩:=g.at K;rw[aY K]at z;simp only[az]at z;rw[z]at L;exact⟨r,m,L⟩
theorem IZ{L j:Nat}(g:L<2^36)(Z:j<2^36):IntKind.wrap .i64 (16*(L:Int))=16*(L:Int)/\IntKind.wrap .i64 (16*(L:Int)+j)=16*(L:Int)+j/\IntKind.wrap .i64 (16*(L:Int)+j+1)=16*(L:Int)+1+j:=by
 refine⟨mr ac ac,mr ac ac,?_⟩;rw[mr ac ac];omega
theorem I0(base:Int)(w:Nat)(O:List Nat)(j:Nat)(s:Bd):ii base (w::O) j s=ii base O (j+1) { (zaX ⟨3,base+j,[]⟩ s).2 with vars:=(zaX ⟨3,base+j,[]⟩ s).2.vars.set w (zaX ⟨3,base+j,[]⟩ s).1}:=rfl
theorem zE(lp c:Int)(old:List Int)(w:Nat)(O:List Nat)(j:Nat)(s:Bd):gC lp c old (w::O) j s=gC lp c old O (j+1) { (zbi c (zaX ⟨25,j,[lp]⟩ s).1 (old.getD w 0) (zaX ⟨25,j,[lp]⟩ s).2).2 with vars:=(zbi c (zaX ⟨25,j,[lp]⟩ s).1 (old.getD w 0) (zaX ⟨25,j,[lp]⟩ s).2).2.vars.set w (zbi c (zaX ⟨25,j,[lp]⟩ s).1 (old.getD w 0) (zaX ⟨25,j,[lp]⟩ s).2).1}:=rfl
theorem C9(c a b:Int)(s:Bd)(v:List Int):zbi c a b {s with vars:=v}=((zbi c a b s).1,{ (zbi c a b s).2 with vars:=v}):=by
 unfold zbi;split<;>rfl
theorem I2(lp c:Int)(old:List Int):∀(O:List Nat) (j:Nat) (s:Bd) (v w:List Int),v.length=w.length->(∀i,i∉O->v[i]?=w[i]?)->gC lp c old O j {s with vars:=v}=gC lp c old O j {s with vars:=w}
 |[],j,s,v,w,hl,h=>by
  have:v=w:=List.ext_getElem? fun i=>h i HA;rw[this]
 |a::O,j,s,v,w,hl,h=>by
  rw[zE,zE];have p:∀v,zaX ⟨25,j,[lp]⟩ {s with vars:=v}=((zaX ⟨25,j,[lp]⟩ s).1,{ (zaX ⟨25,j,[lp]⟩ s).2 with vars:=v}):=fun v=>rfl;rw[p v,p w];simp only[];rw[C9 c _ _ (zaX ⟨25,j,[lp]⟩ s).2 v,C9 c _ _ (zaX ⟨25,j,[lp]⟩ s).2 w];refine I2 lp c old O (j+1) (zbi c (zaX ⟨25,j,[lp]⟩ s).1 (old.getD a 0) (zaX ⟨25,j,[lp]⟩ s).2).2 (v.set a (zbi c (zaX ⟨25,j,[lp]⟩ s).1 (old.getD a 0) (zaX ⟨25,j,[lp]⟩ s).2).1) (w.set a (zbi c (zaX ⟨25,j,[lp]⟩ s).1 (old.getD a 0) (zaX ⟨25,j,[lp]⟩ s).2).1) (by rw[kz,kz,hl]) fun i z=>?_;rw[nM,nM,hl];by_cases e:a=i
  .rw[aj e,aj e]
  .rw[af e,af e];exact h i (by rw[fz,not_or];exact⟨fun q=>e q.symm,z⟩)
theorem Xh(b:List Bool):(zct b).Nodup:=List.nodup_range.filter _
section
variable {tb:List En} (hG:LowT tb) {X:Lx} {c:Cx} (hX:CxOk X c) {x:St} {s:Bd} {H:Hp} {S:Nat -> Prop} {lv vv:AV}
set_option maxRecDepth 100000 in
set_option maxHeartbeats 8000000 in
include hG hX in
theorem Xi{n:Nat}(IH:zD tb X c n){r:Int×Bd}{b:List Bool}{t:Bd}{d:Int×Bd}(h1:di c n x.value {s with loops:=s.loops+1}=some r)(h2:d6 c.names n x.thn (List.replicate r.2.vars.length false)=some b)
 (h3:dR c n x.thn (ii (16*(s.loops:Int)+1) (zct b) 0 { (zaX ⟨3,16*(s.loops:Int),[]⟩ r.2).2 with state:=(zaX ⟨3,16*(s.loops:Int),[]⟩ r.2).1})=some t) (h4:di c n x.value t=some d)
 {k:Int×Bd} (Z:zaX ⟨31,s.loops,r.2.state::((zct b).map fun i=>r.2.vars.getD i 0)++[d.1,d.2.state]++((zct b).map fun i=>d.2.vars.getD i 0)⟩ d.2=k)
 {m:Int×Bd} (hm:zbi r.1 (zaX ⟨25,0,[k.1]⟩ {k.2 with vars:=r.2.vars}).1 r.2.state (zaX ⟨25,0,[k.1]⟩ {k.2 with vars:=r.2.vars}).2=m)
 (hF:Fin (gC k.1 r.1 r.2.vars (zct b) 1 {m.2 with state:=m.1})) (hz:x.sz<2^36) (hvl:s.vars.length<2^36) (hout:∀i,i∉zct b->d.2.vars[i]?=r.2.vars[i]?) (hR:RepL X H S s lv vv) :
 za9 Try.prog (za3 pls tb) 129 [.ptr X.b 0,.agg x.cells] H (mF X S vv H (gC k.1 r.1 r.2.vars (zct b) 1 {m.2 with state:=m.1})):=by
 have hw:Plain (za3 pls tb) 129:=hG.plain cN;have hkeep:(za3 pls tb).keep 129=false:=rfl;have R1:=hR.alloc (.cells x.cells 0 true);have F1:=(cb X S vv H).alloc (.cells x.cells 0 true);have hmm:m=((zbi r.1 (zaX ⟨25,0,[k.1]⟩ k.2).1 r.2.state (zaX ⟨25,0,[k.1]⟩ k.2).2).1,{ (zbi r.1 (zaX ⟨25,0,[k.1]⟩ k.2).1 r.2.state (zaX ⟨25,0,[k.1]⟩ k.2).2).2 with vars:=r.2.vars}):=by
  rw[<-hm];exact C9 _ _ _ (zaX ⟨25,0,[k.1]⟩ k.2).2 r.2.vars
 have hdl0:d.2.vars.length=r.2.vars.length:=by
  rw[(zci c n _ _ _ h4).v,((lL c n).2.1 _ _ _ h3).2,(qe _ _ _ _).2.2.1];rfl
 generalize hm':zbi r.1 (zaX ⟨25,0,[k.1]⟩ k.2).1 r.2.state (zaX ⟨25,0,[k.1]⟩ k.2).2=m' at hmm;have hm'v:m'.2.vars=d.2.vars:=by rw[<-hm',(zcR _ _ _ _).v,<-Z];rfl
 have hspec:gC k.1 r.1 r.2.vars (zct b) 1 {m.2 with state:=m.1}=gC k.1 r.1 r.2.vars (zct b) 1 {m'.2 with state:=m'.1}:=by
  have h:=I2 k.1 r.1 r.2.vars (zct b) 1 {m'.2 with state:=m'.1} r.2.vars d.2.vars hdl0.symm (fun i hi=>(hout i hi).symm);rw[hmm];rw[<-hm'v]at h;exact h
 rw[hspec]at hF⊢;clear hspec hmm hm m hout;have hFm':Fin m'.2:=hF.le ⟨(sI _ _ _ _ _ {m'.2 with state:=m'.1}).1.l,(sI _ _ _ _ _ {m'.2 with state:=m'.1}).1.n⟩;have hFf':Fin (zaX ⟨25,0,[k.1]⟩ k.2).2:=by rw[<-hm']at hFm';exact hFm'.le (zcR _ _ _ _).le
 have hFk:Fin k.2:=hFf'.le (zb8 _ _).le;have hFd:Fin d.2:=by rw[<-Z]at hFk;exact hFk.le (zb8 _ _).le
 have hFt:Fin t:=hFd.le (zci c n _ _ _ h4).le;have e3:=(lL c n).2.1 _ _ _ h3;have hFl:=hFt.le e3.1;have hFp:Fin (zaX ⟨3,16*(s.loops:Int),[]⟩ r.2).2:=hFl.le ⟨(qe _ _ _ { (zaX ⟨3,16*(s.loops:Int),[]⟩ r.2).2 with state:=(zaX ⟨3,16*(s.loops:Int),[]⟩ r.2).1}).1.l,(qe _ _ _ { (zaX ⟨3,16*(s.loops:Int),[]⟩ r.2).2 with state:=(zaX ⟨3,16*(s.loops:Int),[]⟩ r.2).1}).1.n⟩;have hFr:Fin r.2:=hFp.le (zb8 _ _).le;have hlv:=zci c n _ _ _ h1;have hrl:r.2.vars.length<2^36:=by rw[hlv.v];exact hvl
 have hln:s.loops<2^36:=sD (dV _) (by have:=hFr.n;rw[hlv.n]at this;exact this);have hbl:b.length=r.2.vars.length:=by rw[sM _ _ _ _ _ h2,pX]
 have hdl:d.2.vars.length=r.2.vars.length:=by
  rw[(zci c n _ _ _ h4).v,e3.2,(qe _ _ _ _).2.2.1];rfl
 have hsz:=x.sz_eq;have o3:=hR.o3;have o4:=hR.o4;have o5:=hR.o5;clear hlv e3;have zbL:=R1.m;obtain⟨R1s,F1s⟩:=R1.setN (s.loops+1);have m1s:=R1s.m;have g1s:=eC hR F1s;have eL1:IntKind.wrap .i64 ((s.loops:Int)+1)=((s.loops+1:Nat):Int):=zcL ac;have F01:=F1.trans F1s;dsimp only[zbm]at zbL m1s R1s F1s g1s F01;refine zbs (M:=181) (rs:=[]) (hw.call _) hw.ice hw.froz Try.func129 rfl rfl IV.2 rfl ?_;dsimp only[IV,zbj,Nat.reduceAdd];repeat' (first
  |(apply ai ?_;clear hK K)|apply Rx.o ?_|apply bN ?_|apply aq ?_|(apply zaW fun K hK=>?_)|fail)
 refine aK rfl aL aM ?_;simp only[aR];refine aI ?_ (pi hG hX n x.value _ r h1 hFr R1s (cb _ _ _ _));rintro w V ⟨rfl,S2,lv2,R2,F2⟩;have F02:=F1s.trans F2;have g2:=eC hR F02;have m2:=R2.m;have n2:H.next+1<=V.next:=F02.next
 have hl2:=R2.vars.n.len';have hmk:∀H:Hp,zdC Try.prog H 107 (.int .i64 r.2.vars.length) (.int .i64 r.2.vars.length)=some (.sl H.next 0 r.2.vars.length 1,H.alloc (.cells ((List.replicate r.2.vars.length false).map .bool) 0 true)):=fun H=>Vj _ ac;have nw2:=R2.new (aA _);have R3:=R2.alloc (.cells ((List.replicate r.2.vars.length false).map .bool) 0 true);have g3:(V.alloc (.cells ((List.replicate r.2.vars.length false).map .bool) 0 true)).get H.next=some (.cells x.cells 0 true):=by rw[zaY,af ac];exact g2
 clear R1 R1s zbL m1s g1s;dsimp only[zbm]at m2;dsimp only[za1];repeat' (first
  |(apply ai ?_;clear hK K)|apply Rx.o ?_|apply aq ?_|(apply zaW fun K hK=>?_)|fail)
 refine aK rfl aL aM ?_;simp only[aR];have hrep:(List.replicate r.2.vars.length false).length=r.2.vars.length:=pX;have hasg:=C7 hG hX (n+1) n (cJ _) x.thn _ b h2 ac R3 (q:=V.next) lY nw2.2.2 (cJ _) nw2.1 nw2.2.1;rw[hrep]at hasg;refine aI ?_ hasg;clear hasg;rintro w H3 ⟨gb3,n3,q3⟩;simp only[zbb]at n3 q3;have hq3:∀k,k<V.next->H3.get k=V.get k:=fun k Z=>by rw[q3 k ac ac,zaY,af ac]
 have R4:RepL X H3 S2 r.2 lv2 vv:=R2.keep ac fun k Z _=>hq3 k Z;have F03:FrL X S vv (H.alloc (.cells x.cells 0 true)) S2 vv H3:=F02.trans ⟨ac,fun k Z _ _ _ _=>hq3 k Z,fun _ h=>.inl h,fun _ h=>.inl h⟩;clear q3 R3 g3;dsimp only[za1];repeat' (first
  |(apply ai ?_;clear hK K)|apply Rx.o ?_|apply aq ?_|(apply zaW fun K hK=>?_)|apply aO ?_|fail)
 refine zcj [0,3,4,5,6,46] [] 47 r.2.vars.length (fun i E Hi=>∃a,E.at 7=a/\iM Hi a (qj (sN b i)) (V.next+1)/\Sm (V.next+1) H3 Hi) eE ⟨.nilS,eE,.inl ⟨rfl,rfl⟩,⟨fun _ _=>rfl⟩⟩ ?_;rintro i E Hi hi hcE hrH hnH hsI ⟨a,k7,ha,hsm⟩;(try simp only[zbR,zbq,br,za4,zbg,Nat.reduceBEq, *]at hcE);(try simp only[zbq, *]at hrH);(try simp only[zbb,zbl,zb4,b4,Nat.reduceAdd]at hnH);by_cases Y:i<r.2.vars.length
 .have hlt':(i:Int)<r.2.vars.length:=by omega
  have gbi:Hi.get V.next=some (.cells (b.map .bool) 0 true):=by rw[hsm.get _ ac];exact gb3
  have hix:=IL (q:=V.next) Y;have hld:=Xf gbi (m:=i) ac;have hws:=Xg b i;have hwl:=IY b i;cases hbi:b.getD i false with
  |true=>
   rw[hbi]at hld;rw[hbi,aj rfl]at hws;obtain⟨v5,H5,a5,s5,n5,f5,o5'⟩:=GO (H:=Hi.alloc (.cells [.int .i64 (i:Int)] 0 true)) (i:Int) (ha.keep (H':=Hi.alloc (.cells [.int .i64 (i:Int)] 0 true)) (dV _) fun k Z=>by rw[zaY,af (by have:=(ha.lt Z).2;omega)]) eU (r:=Hi.next) (imm:=0) lY (by simp only[cD];omega);have n5':Hi.next<=H5.next:=CY
   repeat' (first
    |(apply ai ?_;clear hK K)|apply Ry.o ?_|(apply bi (fun o z=>?_) (fun o z=>?_)<;>try(cases o;done))|apply aq ?_|(apply zaW fun K hK=>?_)|apply aO ?_|apply za8 ?_|fail)
   refine⟨ac,zbw,zbw,eN,IQ,?_⟩;exact⟨v5,eE,.inr (by rw[hws];simpa using s5),⟨fun k Z=>by rw[f5 k Z,zaY,af ac];exact hsm.get k Z⟩⟩
  |false=>
   rw[hbi]at hld;rw[hbi,af aw,aR]at hws;repeat' (first
    |(apply ai ?_;clear hK K)|apply Ry.o ?_|(apply bi (fun o z=>?_) (fun o z=>?_)<;>try(cases o;done))|apply aq ?_|(apply zaW fun K hK=>?_)|apply aO ?_|apply za8 ?_|fail)
   refine⟨ac,zbw,zbw,eN,IQ,?_⟩;exact⟨a,eE,by rw[hws];exact ha,hsm⟩
 .have hlt':¬(i:Int)<r.2.vars.length:=by omega
  have hie:sN b i=zct b:=by rw[zct,hbl,show i=r.2.vars.length by omega];rfl
  rw[hie]at ha;have hwm:∀j∈zct b,j<r.2.vars.length:=fun j hj=>by have:=IX hj;omega
  have hwl:(zct b).length<2^36:=by have:=IY b b.length;have e:sN b b.length=zct b:=rfl;rw[e]at this;omega
  have hnd:=Xh b;generalize zct b=O at *;clear hie gb3 h2 hbl;have hi3:∀k,k<V.next+1->Hi.get k=H3.get k:=hsm.get
  have Ri:RepL X Hi S2 r.2 lv2 vv:=R4.keep hnH fun k Z h=>by
   refine hi3 k ?_;rcases h with h|h|h
   .have:=nw2.2.2;omega
   .have:=(R2.sS k h).2.1;omega
   .have:=(R2.vS k h).2;omega
  have W:RowL S2 vv (V.next+1) Hi a (qj O):=⟨ha,fun k Z=>by
   have:=R2.new (r:=k) (by have:=(ha.lt Z).1;omega);exact⟨this.1,this.2.1⟩⟩
  have Fi:FrL X S vv (H.alloc (.cells x.cells 0 true)) S2 vv Hi:=F02.trans ⟨ac,fun k Z _ _ _ _=>by rw[hi3 k ac];exact hq3 k Z,fun _ h=>.inl h,fun _ h=>.inl h⟩;have gi:=eC hR Fi;have mi:=Ri.m;have ni:H.next+1<=Hi.next:=Fi.next
  clear hsm R4 F03 F02 hi3 ha nw2 hq3 R2 m2 g2;have ew:=(IZ hln (j:=0) ac).1;have Rb:=Ri.alloc (.cells [.int .i64 r.2.state] 0 true);have Fb:=Fi.alloc (.cells [.int .i64 r.2.state] 0 true);have gb:=eC hR Fb;dsimp only[zbm]at mi;repeat' (first
   |(apply ai ?_;clear hK K)|apply Ry.o ?_|(apply bi (fun o z=>?_) (fun o z=>?_)<;>try(cases o;done))|apply aq ?_|(apply zaW fun K hK=>?_)|apply zbW ?_)
  refine aK rfl aL aM ?_;simp only[aR];refine aI ?_ (wl hG Rb (cb _ _ _ _) 3 (16*(s.loops:Int)) hFp);generalize hp:zaX ⟨3,16*(s.loops:Int),[]⟩ r.2=p at *;have hpv:p.2.vars=r.2.vars:=by rw[<-hp];rfl
  rintro w H5 ⟨rfl,S5,lv5,R5,F5⟩;have W5:RowL S5 vv (V.next+1) H5 a (qj O):=RowL.fr (X:=X) (H:=Hi.alloc (.cells [.int .i64 r.2.state] 0 true)) ⟨W.r.keep (dV _) fun k Z=>by rw[zaY,af (by have:=(W.r.lt Z).2;omega)],W.n⟩ ac ac F5;have V5:RowL S5 vv (V.next+1) H5 (.sl Hi.next 0 1 1) [r.2.state]:=RowL.fr (X:=X) (H:=Hi.alloc (.cells [.int .i64 r.2.state] 0 true)) (S:=S2) (vv:=vv) ⟨.inr ⟨Hi.next,0,rfl,gK,dg _,ac,cJ _⟩,fun k Z=>by
   have:=Ri.new (r:=k) (by rw[tX Z];exact aA _);exact⟨this.1,this.2.1⟩⟩ ac ac F5
  have d5:∀k,zbv a k->¬zbv (.sl Hi.next 0 1 1) k:=fun k h1 h2=>by
   have:=(W.r.lt h1).2;rw[tX h2]at this;omega
  have m5:=R5.m;obtain⟨R6,F6⟩:=R5.setS p.1;have F06:=Fb.trans (F5.trans F6);have W6:=W5.fr (X:=X) ac ac F6;have V6:=V5.fr (X:=X) ac ac F6;have l6:=fun H'=>W5.r.len' (H':=H');have g6:=eC hR F06;have n6:V.next+1<=H5.next:=by have:=F5.next;simp only[zbb]at this;omega
  clear R5 F5 Rb gb W5 V5 Ri W gi mi Fi Fb;dsimp only[zbm]at m5 R6 F06 W6 V6 g6;rw[cD]at l6;dsimp only[za1];repeat' (first
   |(apply ai ?_;clear hK K)|apply Rx.o ?_|apply bN ?_|apply aq ?_|(apply zaW fun K hK=>?_)|apply aO ?_|fail)
  have hdl1:∀j,j<O.length->r.2.vars[O.getD j 0]?=some (r.2.vars.getD (O.getD j 0) 0):=fun j hj=>by
   have:O.getD j 0<r.2.vars.length:=hwm _ (by rw[eR,aY hj];exact dW hj);generalize O.getD j 0=q at *;rw[eR,aY this];rfl
  have haw:∀j,j<O.length->(qj O)[j]?=some ((O.getD j 0:Nat):Int):=fun j hj=>by
   rw[gl,eR,aY hj];rfl
  have hdr:∀j,j<O.length->O.drop j=O.getD j 0::O.drop (j+1):=fun j hj=>by rw[hP hj,eR,aY hj];rfl
  have htk:∀j,j<O.length->O.take (j+1)=O.take j++[O.getD j 0]:=fun j hj=>by rw[kI,eR,aY hj];rfl
  have hnt:∀j,j<O.length->O.getD j 0∉O.take j:=fun j hj hm=>by
   have h:=hnd;rw[<-AR j O,hdr j hj,List.nodup_append]at h;exact h.2.2 _ hm _ eQ rfl
  refine zcj [0,3,4,5,7,71,72] [] 73 O.length (fun j E Hj=>∃wv I Sj lvj,E.at 9=wv/\ii (16*(s.loops:Int)+1) (O.drop j) j I=ii (16*(s.loops:Int)+1) O 0 {p.2 with state:=p.1} /\ I.loops=r.2.loops/\I.vars.length=r.2.vars.length/\(∀i,i∉O.take j->I.vars[i]?=r.2.vars[i]?)/\RepL X Hj Sj I lvj vv/\FrL X S vv (H.alloc (.cells x.cells 0 true)) Sj vv Hj/\RowL Sj vv (V.next+1) Hj a (qj O)/\RowL Sj vv (V.next+1) Hj wv (r.2.state::(O.take j).map fun i=>r.2.vars.getD i 0)/\∀k,zbv a k->¬zbv wv k) eE ⟨_,_,S5,lv5,eE,by rw[fT],by rw[<-hp];rfl,by rw[<-hp];rfl,fun i _=>by rw[<-hp];rfl,R6,F06,W6,V6,d5⟩ ?_;clear R6 F06 W6 V6 d5 m5 g6;rintro j E Hj hj hcE hrH hnH hsI ⟨wv,I,Sj,lvj,k9,hJ,hjl,hjv,hjo,Rj,Fj,g,C,dj⟩;(try simp only[zbR,zbq,br,za4,zbg,Nat.reduceBEq, *]at hcE);(try simp only[zbq,zbg, *]at hrH);(try simp only[zbl,]at hnH);have mj:=Rj.m;dsimp only[zbm]at mj;have nj:V.next+1<=Hj.next:=cm n6 hnH
  by_cases Y:j<O.length
  .have hlt':(j:Int)<O.length:=by omega
   have hwj:=haw j Y;have hvj:=hdl1 j Y;have hnj:=hnt j Y;have htj:=htk j Y;have hwl1:O.getD j 0<I.vars.length:=by rw[hjv];exact hwm _ IM
   rw[hdr j Y]at hJ;rw[I0]at hJ;rw[<-hjo _ hnj]at hvj;rw[htj];generalize O.getD j 0=w at *;generalize hy:r.2.vars.getD w 0=y at *;obtain⟨qa,ixa,lda⟩:=g.at hwj;obtain⟨qv,ixv,ldv⟩:=Rj.atV hvj;obtain⟨e1,e2,e3⟩:=IZ hln (j:=j) ac;obtain⟨v',H',a1,W',R',n',q',own'⟩:=C.app1 Rj nj y ac (by simp only[cS,cD,jr];omega);have A':=g.other n' q' dj;have F':=Fj.other n' q' (fun k Z=>by have:=(C.r.lt Z).1;simp only[zbb];omega);have d':∀k,zbv a k->¬zbv v' k:=fun k h1 h2=>by
    rcases own' k h2 with e|e
    .exact dj k h1 e
    .have:=(g.r.lt h1).2;omega
   have m':=R'.m;have hFx:Fin (zaX ⟨3,16*(s.loops:Int)+1+j,[]⟩ I).2:=hFl.le (by rw[<-hJ];exact((ny _).setV _).trans (qe _ _ _ _).1);have L:=wl hG R' (cb _ _ _ _) 3 (16*(s.loops:Int)+1+j) hFx;dsimp only[zbm]at m';clear dj g C q' own' Rj hvj;repeat' (first
    |(apply ai ?_;clear hK K)|apply Ry.o ?_|(apply bi (fun o z=>?_) (fun o z=>?_)<;>try(cases o;done))|apply aq ?_|(apply zaW fun K hK=>?_)|(apply zcy 19 [(3,11),(3,13)] fun K hK=>?_)|(apply zbK ?_;try intro _)|apply cr ?_|apply aO ?_|apply za8 ?_|fail)
   refine aK rfl aL aM ?_;simp only[fJ];refine aI ?_ L;generalize hpu:zaX ⟨3,16*(s.loops:Int)+1+j,[]⟩ I=pu at *;have hpuv:pu.2.vars=I.vars:=by rw[<-hpu];rfl
   have hpul:pu.2.loops=I.loops:=by rw[<-hpu];rfl
   have hwl2:w<pu.2.vars.length:=by rw[hpuv];exact hwl1
   rintro u H7 ⟨rfl,S7,lv7,R7,F7⟩;obtain⟨q',U,hld',H8,hst,hq1,hq2,hq3,R8,F8,o8,n8⟩:=R7.setV hwl2 pu.1;have hqq:q'=qv:=by
    rw[ixv]at U;simp only[az,AV.ptr.injEq]at U;exact U.1.symm
   subst hqq;have A8:=(A'.fr (X:=X) ac ac F7).fr (X:=X) ac ac F8;have W8:=(W'.fr (X:=X) ac ac F7).fr (X:=X) ac ac F8;have F08:=F'.trans (F7.trans F8);have m7:=R7.m;have m8:=R8.m;have n7:=F7.next
   have nj8:Hj.next<=H8.next:=ac
   have hjv':(pu.2.vars.set w pu.1).length=r.2.vars.length:=by rw[kz,hpuv];exact hjv
   have hjo':∀i,i∉O.take j++[w]->(pu.2.vars.set w pu.1)[i]?=r.2.vars[i]?:=fun i hi=>by
    rw[pJ,not_or,sC]at hi;rw[nM,af (fun e=>hi.2 e.symm),hpuv];exact hjo i hi.1
   have hjl':pu.2.loops=r.2.loops:=by rw[hpul];exact hjl
   have hmap:(r.2.state::(O.take j).map fun i=>r.2.vars.getD i 0)++[y]=r.2.state::(O.take j++[w]).map fun i=>r.2.vars.getD i 0:=by rw[jJ,dN,o0,hy];rfl
   rw[hmap]at W8;clear hpuv hpul hmap hjo hjv hjl U A' W' F' hpu hld';dsimp only[zbm]at m7 m8;dsimp only[za1];repeat' (first
    |(apply ai ?_;clear hK K)|apply Rx.o ?_|apply bN ?_|(apply zaW fun K hK=>?_)|(apply zbK ?_;try intro _)|(apply zcr ?_ ?_<;>clear hK K)|apply cr ?_|apply zcX rfl ?_|fail)
   .exact zck
   .refine⟨ac,zbw,zbw,eN,IR,?_⟩;exact⟨v',_,S7,lv7,eE,hJ,hjl',hjv',hjo',R8,F08,A8,W8,d'⟩
  .have hlt':¬(j:Int)<O.length:=by omega
   have hd:O.drop j=[]:=tV ac;have ht:O.take j=O:=eI ac;rw[hd]at hJ;rw[ht]at C;have hJ:I=ii (16*(s.loops:Int)+1) O 0 {p.2 with state:=p.1}:=hJ;rw[<-hJ]at hFl h3;have gj:=eC hR Fj;have nj2:H.next+1<=Hj.next:=Fj.next
   clear hJ hd ht hjo;repeat' (first
    |(apply ai ?_;clear hK K)|apply Ry.o ?_|(apply bi (fun o z=>?_) (fun o z=>?_)<;>try(cases o;done))|apply aq ?_|(apply zaW fun K hK=>?_)|apply zbW ?_)
   refine aK rfl aL aM ?_;simp only[aR];refine aI ?_ (IH x.thn I t h3 hFt ac ac Rj);rintro u H6 ⟨S6,lv6,J,R6,F6⟩;have A6:=g.fr (X:=X) ac ac F6;have W6:=C.fr (X:=X) ac ac F6;have F06:=Fj.trans F6;have nj6:V.next+1<=H6.next:=cm nj F6.next
   have g6:=eC hR F06;clear Rj Fj g C F6 gj mj;dsimp only[za1];repeat' (first
    |(apply ai ?_;clear hK K)|apply Rx.o ?_|apply aq ?_|(apply zaW fun K hK=>?_)|fail)
   refine aK rfl aL aM ?_;simp only[aR];refine aI ?_ (pi hG hX n x.value t d h4 hFd R6 (cb _ _ _ _));rintro u H7 ⟨rfl,S7,lv7,R7,F7⟩;have A7:=A6.fr (X:=X) ac ac F7;have W7:=W6.fr (X:=X) ac ac F7;have F07:=F06.trans F7;have m7:=R7.m;have n7:H.next+1<=H7.next:=F07.next
   have nj7:V.next+1<=H7.next:=cm nj6 F7.next
   clear R6 F06 A6 W6 F7 g6;dsimp only[zbm]at m7;dsimp only[za1];have Rs:=R7.alloc (.cells [.int .i64 d.1,.int .i64 d.2.state] 0 true);have Ws:RowL S7 J (V.next+1) (H7.alloc (.cells [.int .i64 d.1,.int .i64 d.2.state] 0 true)) wv (r.2.state::O.map fun i=>r.2.vars.getD i 0):=⟨W7.r.keep (dV _) fun k Z=>by rw[zaY,af (by have:=(W7.r.lt Z).2;omega)],W7.n⟩;have hwlen:(r.2.state::O.map fun i=>r.2.vars.getD i 0).length<2^37:=by simp only[cS,cD];omega
   obtain⟨cv,H8,a8,c8,n8,q8⟩:=IU Ws.r ac;simp only[zbb]at c8 n8 q8;have c8b:hY H8 cv (r.2.state::O.map fun i=>r.2.vars.getD i 0) (H7.next+1):=by
    rcases c8 with⟨_,h⟩|h
    .simp at h
    .exact h.b
   have g8s:H8.get H7.next=some (.cells [.int .i64 d.1,.int .i64 d.2.state] 0 true):=by rw[q8 _ ac,zaY,aj rfl]
   obtain⟨kv,H9,a9,c9,n9,l9,f9,o9⟩:=GP (m:=[d.1,d.2.state]) (w:=.sl H7.next 0 2 1) (lo':=0) c8b n8 (.inr ⟨H7.next,0,rfl,g8s,aw,dg _,ac⟩) (by simp only[cS,ed]at hwlen⊢;omega);have hq9:∀k,k<H7.next->H9.get k=H7.get k:=fun k Z=>by rw[l9 k ac,q8 k ac,zaY,af ac]
   have n79:H7.next<=H9.next:=ac
   have R9:RepL X H9 S7 d.2 lv7 J:=R7.keep n79 fun k h _=>hq9 k h;have F9:FrL X S7 J H7 S7 J H9:=⟨n79,fun k h _ _ _ _=>hq9 k h,fun _ h=>.inl h,fun _ h=>.inl h⟩;have A9:=A7.fr (X:=X) ac ac F9;have W9:=W7.fr (X:=X) ac ac F9;have K9:RowL S7 J (V.next+1) H9 kv (r.2.state::(O.map fun i=>r.2.vars.getD i 0)++[d.1,d.2.state]):=⟨.inr (by obtain⟨zbf,i0,z1,z2,z3,z4,z5⟩:=c9;exact⟨zbf,i0,z1,z2,z3,ac,z5⟩),fun k Z=>by
    have:=R7.new (r:=k) (by have:=(c9.lt Z).1;omega);exact⟨this.1,this.2.1⟩⟩
   have dA9:∀k,zbv a k->¬zbv kv k:=fun k h1 h2=>by have:=(A7.r.lt h1).2;have:=(c9.lt h2).1;omega
   have dW9:∀k,zbv wv k->¬zbv kv k:=fun k h1 h2=>by have:=(W7.r.lt h1).2;have:=(c9.lt h2).1;omega
   have F09:=F07.trans F9;have m9:=R9.m;have l9a:=fun H'=>A9.r.len' (H':=H');rw[cD]at l9a;dsimp only[zbm]at m9;have ms:=Rs.m;have m8x:=ms;rw[<-q8 _ (by have:=R7.o5;omega)]at m8x;dsimp only[zbm]at ms m8x;clear R7 F07 A7 W7 F9 Rs Ws hq9;repeat' (first
    |(apply ai ?_;clear hK K)|apply Rx.o ?_|apply aq ?_|(apply zaW fun K hK=>?_)|(apply Ce 23 [0,2,3,4,5,6,7,1,8,9] [(5,7),(5,8),(6,7),(6,8)] fun K hK=>?_)|(apply zbK ?_;try intro _)|(apply zcr ?_ ?_<;>clear hK K)|apply cr ?_|apply aO ?_|fail)
   .exact zck
   .clear a8 a9 c8 c8b g8s l9 f9 o9 q8 hwlen c9;have hdv:∀w,w<r.2.vars.length->d.2.vars[w]?=some (d.2.vars.getD w 0):=fun w hw=>by
     rw[eR,aY ac];rfl
    have hwj0:∀j,j<O.length->O.getD j 0<r.2.vars.length:=fun j Y=>hwm _ IM;refine zcj [0,4,5,7,9,119,120] [] 121 O.length (fun j E Hj=>∃kj,E.at 13=kj/\RepL X Hj S7 d.2 lv7 J/\FrL X S vv (H.alloc (.cells x.cells 0 true)) S7 J Hj/\RowL S7 J (V.next+1) Hj a (qj O)/\RowL S7 J (V.next+1) Hj wv (r.2.state::O.map fun i=>r.2.vars.getD i 0)/\RowL S7 J (V.next+1) Hj kj (r.2.state::(O.map fun i=>r.2.vars.getD i 0)++[d.1,d.2.state]++((O.take j).map fun i=>d.2.vars.getD i 0))/\(∀k,zbv a k->¬zbv kj k)/\∀k,zbv wv k->¬zbv kj k) eE ⟨kv,eE,R9,F09,A9,W9,by rw[zC,o0,aR];exact K9,dA9,dW9⟩ ?_;clear R9 F09 A9 W9 K9 dA9 dW9 m9;rintro j E Hj hj hcE hrH hnH hsI ⟨kj,k13,Rj,Fj,g,C,Kj,dAj,dWj⟩;(try simp only[zbR,zbq,br,za4,zbg,Nat.reduceBEq, *]at hcE);(try simp only[zbq, *]at hrH);(try simp only[zbb,zbl,zb4,b4,Nat.reduceAdd]at hnH);have mj:=Rj.m;dsimp only[zbm]at mj;have nj:V.next+1<=Hj.next:=ac
    by_cases Y:j<O.length
    .have hlt':(j:Int)<O.length:=by omega
     have hwj:=haw j Y;have hvj:=hdv _ (hwj0 j Y);have htj:=htk j Y;rw[htj];generalize O.getD j 0=w at *;generalize hy:d.2.vars.getD w 0=y at *;obtain⟨qa,ixa,lda⟩:=g.at hwj;obtain⟨qv,ixv,ldv⟩:=Rj.atV hvj;obtain⟨v',H',a1,K',R',n',q',own'⟩:=Kj.app1 Rj nj y ac (by simp only[fy,cS,cD,jr,ed];omega);have A':=g.other n' q' dAj;have W':=C.other n' q' dWj;have F':=Fj.other n' q' (fun k Z=>by have:=(Kj.r.lt Z).1;simp only[zbb];omega);have dA':∀k,zbv a k->¬zbv v' k:=fun k h1 h2=>by
      rcases own' k h2 with e|e
      .exact dAj k h1 e
      .have:=(g.r.lt h1).2;omega
     have dW':∀k,zbv wv k->¬zbv v' k:=fun k h1 h2=>by
      rcases own' k h2 with e|e
      .exact dWj k h1 e
      .have:=(C.r.lt h1).2;omega
     have hmap:(r.2.state::(O.map fun i=>r.2.vars.getD i 0)++[d.1,d.2.state]++((O.take j).map fun i=>d.2.vars.getD i 0))++[y]=r.2.state::(O.map fun i=>r.2.vars.getD i 0)++[d.1,d.2.state]++((O.take j++[w]).map fun i=>d.2.vars.getD i 0):=by rw[jJ,dN,o0,hy];simp
     rw[hmap]at K';clear hmap dAj dWj g C Kj q' own' Rj hvj;repeat' (first
      |(apply ai ?_;clear hK K)|apply Ry.o ?_|(apply bi (fun o z=>?_) (fun o z=>?_)<;>try(cases o;done))|apply aq ?_|(apply zaW fun K hK=>?_)|apply aO ?_|apply za8 ?_|fail)
     refine⟨ac,zbw,zbw,eN,IR,?_⟩;exact⟨v',eE,R',F',A',W',K',dA',dW'⟩
    .have hlt':¬(j:Int)<O.length:=by omega
     have ht:O.take j=O:=eI ac;rw[ht]at Kj;clear ht;have L:=wi hG Rj ⟨31,s.loops,r.2.state::(O.map fun i=>r.2.vars.getD i 0)++[d.1,d.2.state]++(O.map fun i=>d.2.vars.getD i 0)⟩ (by rcases Kj.r with h|⟨zbf,i0,z1,z2,z3,z4,z5⟩;exact .inl h;exact .inr ⟨zbf,i0,z1,z2,z3,dg _,z5⟩) (fun k Z=>⟨by have:=(Kj.r.lt Z).1;omega,Kj.n k Z⟩) (by rw[<-Z]at hFk;exact hFk.r) hFd.l;repeat' (first
      |(apply ai ?_;clear hK K)|apply Ry.o ?_|(apply bi (fun o z=>?_) (fun o z=>?_)<;>try(cases o;done))|apply aq ?_|(apply zaW fun K hK=>?_)|apply zbW ?_)
     refine aK rfl aL aM ?_;simp only[aR];refine aI ?_ L;rintro u H10 ⟨rfl,S10,lv10,R10,n10,q10,s10⟩;rw[Z]at R10⊢;have F10:FrL X S vv (H.alloc (.cells x.cells 0 true)) S10 J H10:=⟨cm Fj.next n10,fun k h1 h2 h3 h4 h5=>by
      rw[q10 k (l0 h1 Fj.next) h2 h3 fun e=>by
       rcases Fj.sub k e with e|e
       .exact h4 e
       .omega]
      exact Fj.get k h1 h2 h3 h4 h5,fun k e=>by
      rcases s10 k e with e|e|e
      .exact Fj.sub k e
      .exact .inr (by have:=(Kj.r.lt e).1;simp only[zbb];omega)
      .exact .inr (cm Fj.next e),Fj.own⟩
     have A10:RowL S10 J (V.next+1) H10 a (qj O):=⟨g.r.keep n10 fun k Z=>q10 k (g.r.lt Z).2 (by have:=(g.r.lt Z).1;omega) (by have:=(g.r.lt Z).1;omega) (g.n k Z).1,fun k Z=>⟨fun e=>by
      rcases s10 k e with e|e|e
      .exact(g.n k Z).1 e
      .exact dAj k Z e
      .have:=(g.r.lt Z).2;omega,(g.n k Z).2⟩⟩
     have W10:RowL S10 J (V.next+1) H10 wv (r.2.state::O.map fun i=>r.2.vars.getD i 0):=⟨C.r.keep n10 fun k Z=>q10 k (C.r.lt Z).2 (by have:=(C.r.lt Z).1;omega) (by have:=(C.r.lt Z).1;omega) (C.n k Z).1,fun k Z=>⟨fun e=>by
      rcases s10 k e with e|e|e
      .exact(C.n k Z).1 e
      .exact dWj k Z e
      .have:=(C.r.lt Z).2;omega,(C.n k Z).2⟩⟩
     clear Rj Fj g C Kj dAj dWj q10 s10 L mj;dsimp only[za1];have nw10:=R10.new (aA _);have R10a:=R10.alloc (.cells [.int .i64 k.1] 0 true);have L:=C8 hG R10a ((cb _ _ _ _).alloc _) ⟨25,0,[k.1]⟩ rfl gK (aA _) (cJ _) nw10.2.2 nw10.1 nw10.2.1 hFf' rfl rfl;have hW0:(r.2.state::O.map fun i=>r.2.vars.getD i 0)[0]?=some r.2.state:=rfl;have W10a:RowL S10 J (V.next+1) (H10.alloc (.cells [.int .i64 k.1] 0 true)) wv (r.2.state::O.map fun i=>r.2.vars.getD i 0):=⟨W10.r.keep (dV _) fun k Z=>by rw[zaY,af (by have:=(W10.r.lt Z).2;omega)],W10.n⟩;have A10a:RowL S10 J (V.next+1) (H10.alloc (.cells [.int .i64 k.1] 0 true)) a (qj O):=⟨A10.r.keep (dV _) fun k Z=>by rw[zaY,af (by have:=(A10.r.lt Z).2;omega)],A10.n⟩;obtain⟨q0,ix0,ld0⟩:=W10a.at hW0;rw[show((0:Nat):Int)=0 from rfl]at ix0;repeat' (first
      |(apply ai ?_;clear hK K)|apply Rx.o ?_|apply aq ?_|(apply zcy 30 [(5,6),(9,6),(9,10)] fun K hK=>?_)|(apply zbK ?_;try intro _)|apply cr ?_|fail)
     refine aK rfl aL aM ?_;simp only[fJ];refine aI ?_ L;rintro u H11 ⟨⟨rfl,S11,lv11,R11,F11⟩,n11⟩;simp only[zbb]at n11;have W11:=W10.fr (X:=X) ac ac F11;have A11:=A10.fr (X:=X) ac ac F11;obtain⟨q0',ix0',ld0'⟩:=W11.at hW0;rw[show((0:Nat):Int)=0 from rfl,ix0]at ix0';simp only[az,AV.ptr.injEq,br]at ix0';subst ix0';have hFm2:Fin (zbi r.1 (zaX ⟨25,0,[k.1]⟩ k.2).1 r.2.state (zaX ⟨25,0,[k.1]⟩ k.2).2).2:=by rw[hm'];exact hFm'
     dsimp only[za1];repeat' (first
      |apply Rx.o ?_|(apply zbK ?_;try intro _)|apply cr ?_|fail)
     refine aK rfl aL aM ?_;simp only[fJ];refine aI ?_ (tZ hG R11 (cb _ _ _ _) r.1 _ r.2.state hFm2);rw[hm'];rintro u H12 ⟨rfl,S12,lv12,R12,F12⟩;have m12:=R12.m;obtain⟨R13,F13⟩:=R12.setS m'.1;have F0:=F10.trans (F11.trans (F12.trans F13));have A13:=(A11.fr (X:=X) ac ac F12).fr (X:=X) ac ac F13;have W13:=(W11.fr (X:=X) ac ac F12).fr (X:=X) ac ac F13;have n12:=F12.next
     have l13:=fun H'=>A13.r.len' (H':=H');rw[cD]at l13;dsimp only[zbm]at m12 R13 F0 A13 W13;dsimp only[za1];have m13:=R13.m;dsimp only[zbm]at m13;repeat' (first
      |(apply ai ?_;clear hK K)|apply Rx.o ?_|apply bN ?_|apply aq ?_|(apply zaW fun K hK=>?_)|(apply zbK ?_;try intro _)|(apply zcr ?_ ?_<;>clear hK K)|apply cr ?_|apply zcX rfl ?_|apply aO ?_|fail)
     .exact zck
     .have hw13:m'.2.vars.length=r.2.vars.length:=by rw[hm'v,hdl]
      refine zcj [0,5,9,16,153,154] [] 155 O.length (fun j E Hj=>∃I Sj lvj,gC k.1 r.1 r.2.vars (O.drop j) (j+1) I=gC k.1 r.1 r.2.vars O 1 {m'.2 with state:=m'.1} /\ I.vars.length=r.2.vars.length/\RepL X Hj Sj I lvj J/\FrL X S vv (H.alloc (.cells x.cells 0 true)) Sj J Hj/\RowL Sj J (V.next+1) Hj a (qj O)/\RowL Sj J (V.next+1) Hj wv (r.2.state::O.map fun i=>r.2.vars.getD i 0)) eE ⟨{m'.2 with state:=m'.1},S12,lv12,by rw[fT],hw13,R13,F0,A13,W13⟩ ?_;clear R13 F0 A13 W13 m13 m12 hw13 R12 F12 F13 hdl hdl0 hm'v hdv;rintro i3 E3 Hi3 hi3 hcE hrH hnH hsI ⟨I,Sj,lvj,hJ,hjv,Rj,Fj,g,C⟩;(try simp only[zbR,zbq,br,za4,zbg,Nat.reduceBEq, *]at hcE);(try simp only[zbq,zbg, *]at hrH);(try simp only[zbl,]at hnH);have mj:=Rj.m;dsimp only[zbm]at mj;have nj:V.next+1<=Hi3.next:=ac
      by_cases Y:i3<O.length
      .have hlt':(i3:Int)<O.length:=by omega
       have hwj:=haw i3 Y;have hwl1:O.getD i3 0<I.vars.length:=by rw[hjv];exact hwj0 i3 Y
       have hold:(r.2.state::O.map fun i=>r.2.vars.getD i 0)[i3+1]?=some (r.2.vars.getD (O.getD i3 0) 0):=by
        rw[pR,gl,eR (l:=O),aY Y];rfl
       rw[hdr i3 Y,zE]at hJ;generalize O.getD i3 0=w at *;generalize r.2.vars.getD w 0=y at *;have hsx:IntKind.wrap .i64 ((i3:Int)+1)=((i3+1:Nat):Int):=zcL ac;have hFq:Fin (zbi r.1 (zaX ⟨25,((i3+1:Nat):Int),[k.1]⟩ I).1 y (zaX ⟨25,((i3+1:Nat):Int),[k.1]⟩ I).2).2:=hF.le (by rw[<-hJ];exact((ny _).setV _).trans (sI _ _ _ _ _ _).1);have hFq0:Fin (zaX ⟨25,((i3+1:Nat):Int),[k.1]⟩ I).2:=hFq.le (zcR _ _ _ _).le;have nwj:=Rj.new (aA _);have Rja:=Rj.alloc (.cells [.int .i64 k.1] 0 true);have L:=C8 hG Rja ((cb _ _ _ _).alloc _) ⟨25,((i3+1:Nat):Int),[k.1]⟩ rfl gK (aA _) (cJ _) nwj.2.2 nwj.1 nwj.2.1 hFq0 rfl rfl;obtain⟨qa,ixa,lda⟩:=g.at hwj;have Wja:RowL Sj J (V.next+1) (Hi3.alloc (.cells [.int .i64 k.1] 0 true)) wv (r.2.state::O.map fun i=>r.2.vars.getD i 0):=⟨C.r.keep (dV _) fun k Z=>by rw[zaY,af (by have:=(C.r.lt Z).2;omega)],C.n⟩;obtain⟨qw,ixw,ldw⟩:=Wja.at hold;have hxv:∀v2,I.vars[w]?=some v2->True:=fun _ _=>trivial;clear hxv;obtain⟨qv,ixv,ldv,_⟩:=Rj.setV hwl1 0;have mja:=Rja.m;dsimp only[zbm]at mja;repeat' (first
        |(apply ai ?_;clear hK K)|apply Ry.o ?_|(apply bi (fun o z=>?_) (fun o z=>?_)<;>try(cases o;done))|apply aq ?_|(apply zaW fun K hK=>?_)|(apply zcy 34 [(3,12),(3,18),(3,20),(11,12),(17,12),(17,18)] fun K hK=>?_)|(apply zbK ?_;try intro _)|apply cr ?_|apply aO ?_|apply za8 ?_|fail)
       refine aK rfl aL aM ?_;simp only[fJ];refine aI ?_ L;rintro u H14 ⟨⟨rfl,S14,lv14,R14,F14⟩,n14⟩;simp only[zbb]at n14;have W14:=C.fr (X:=X) ac ac F14;have A14:=g.fr (X:=X) ac ac F14;obtain⟨qw',ixw',ldw'⟩:=W14.at hold;rw[ixw]at ixw';simp only[az,AV.ptr.injEq,br]at ixw';subst ixw';have m14:=R14.m;dsimp only[zbm]at m14;dsimp only[za1];repeat' (first
        |apply Rx.o ?_|(apply zbK ?_;try intro _)|apply cr ?_|fail)
       refine aK rfl aL aM ?_;simp only[fJ];refine aI ?_ (tZ hG R14 (cb _ _ _ _) r.1 _ y hFq);generalize hmq:zbi r.1 (zaX ⟨25,((i3+1:Nat):Int),[k.1]⟩ I).1 y (zaX ⟨25,((i3+1:Nat):Int),[k.1]⟩ I).2=mq at *;have hmqv:mq.2.vars=I.vars:=by rw[<-hmq,(zcR _ _ _ _).v];rfl
       have hwl2:w<mq.2.vars.length:=by rw[hmqv];exact hwl1
       rintro u H15 ⟨rfl,S15,lv15,R15,F15⟩;obtain⟨q',U,hld',H16,hst,hq1,hq2,hq3,R16,F16,o16,n16⟩:=R15.setV hwl2 mq.1;have hqq:q'=qv:=by
        rw[ixv]at U;simp only[az,AV.ptr.injEq]at U;exact U.1.symm
       subst hqq;have W16:=(W14.fr (X:=X) ac ac F15).fr (X:=X) ac ac F16;have A16:=(A14.fr (X:=X) ac ac F15).fr (X:=X) ac ac F16;have F016:=Fj.trans (F14.trans (F15.trans F16));have m15:=R15.m;have m16:=R16.m;have n15:=F15.next
       have nj16:Hi3.next<=H16.next:=ac
       have hjv':(mq.2.vars.set w mq.1).length=r.2.vars.length:=by rw[kz,hmqv];exact hjv
       clear hmqv hjv U hld' hmq A14 W14 g C Fj Rj L R14;dsimp only[zbm]at m15 m16;dsimp only[za1];repeat' (first
        |(apply ai ?_;clear hK K)|apply Rx.o ?_|apply bN ?_|(apply zaW fun K hK=>?_)|(apply zbK ?_;try intro _)|(apply zcr ?_ ?_<;>clear hK K)|apply cr ?_|apply zcX rfl ?_|fail)
       .exact zck
       .refine⟨ac,zbw,zbw,eN,(by simp only[za4,Nat.reduceBEq, *]),?_⟩;exact⟨_,S15,lv15,hJ,hjv',R16,F016,A16,W16⟩
      .have hlt':¬(i3:Int)<O.length:=by omega
       have hd:O.drop i3=[]:=tV ac;rw[hd]at hJ;have hJ:I=gC k.1 r.1 r.2.vars O 1 {m'.2 with state:=m'.1}:=hJ;repeat' (first
        |(apply ai ?_;clear hK K)|apply Ry.o ?_|(apply bi (fun o z=>?_) (fun o z=>?_)<;>try(cases o;done))|apply aq ?_|(apply zaW fun K hK=>?_)|apply zbW ?_)
       all_goals (refine⟨za2,_,za7,?_⟩;try simp only[za0])
       rw[<-hJ];exact⟨Sj,lvj,J,Rj,F1.trans Fj⟩
end
end
section
def tyLoI.tyF:=ad @cQ (ad @cW (ad @eK (ad @eA (ad @dX (ad @fj (ad @eJ (ad @gU (ad @lx (ad @gI (ad @ml (@nW)))))))))))
open tyLoI
noncomputable def I4:{c:SC // aD 16 (Try.f60.body.getD .skip)=c}:=by
 refine⟨?_,?_⟩;rotate_left
 .simp only[Try.f60,bP,aD,zby,zbt,zbA,zbB,Nat.blt,Nat.ble];rfl
theorem mF.pre{X:Lx}{S i:Nat->Prop}{J vv:AV}{H zbk:Hp}{r:Bd}{v:AV}{H':Hp}(h:mF X S vv H r v H')(Z:FrL X i J zbk S vv H):mF X i J zbk r v H':=by
 obtain⟨O,U,C,g,m⟩:=h;exact⟨O,U,C,g,Z.trans m⟩
section
variable {tb:List En} (hG:LowT tb) {X:Lx} {c:Cx} (hX:CxOk X c)
set_option maxRecDepth 100000 in
set_option maxHeartbeats 4000000 in
include hG hX in
theorem Xj{n:Nat}(IH:∀m,m<n->zD tb X c m){x:St}{s r:Bd}(h:hB c n x s=some r)(V:Fin r)(hz:x.sz<2^36)(L:s.vars.length<2^36){H:Hp}{S:Nat->Prop}{lv vv:AV}(I:RepL X H S s lv vv):
 za9 Try.prog (za3 pls tb) 99 [.ptr X.b 0,.agg x.cells] H (mF X S vv H r):=by
 cases n with
 |zero=>simp[hB]at h
 |succ n=>
 have O:Plain (za3 pls tb) 99:=hG.plain cN;have R1:=I.alloc (.cells x.cells 0 true);have F1:=(cb X S vv H).alloc (.cells x.cells 0 true);unfold hB at h;by_cases k1:x.kind=1
 .rw[aj k1]at h;simp only[dx]at h;obtain⟨v,Z,h⟩:=h;split at h
  .rename_i hl;cases h;exact W4 hG hX k1 Z hl ⟨V.r,V.l,V.n⟩ I
  .cases h
 rw[af k1]at h;by_cases J:x.kind=2
 .rw[aj J]at h;simp only[fq]at h;obtain⟨i,Z,v,g,a,ha,rfl⟩:=h;exact Xa hG hX J Z g ha ⟨V.r,V.l,V.n⟩ I
 rw[af J]at h;by_cases k3:x.kind=3
 .rw[aj k3]at h;simp only[fq]at h;obtain⟨q,Z,a,g,b,Y,m,h4,rfl⟩:=h;have U:=Xe hG hX (IH n (cJ n)) Z g Y h4 ⟨V.r,V.l,V.n⟩ hz L R1;refine zbs (M:=155) (rs:=[]) (O.call _) O.ice O.froz Try.func99 rfl rfl kB.2 rfl ?_;dsimp only[kB,zbj,Nat.reduceAdd];repeat' (first
   |(apply ai ?_;clear hK K)|apply Ry.o ?_|(apply bi (fun o z=>?_) (fun o z=>?_)<;>try(cases o;done))|apply aq ?_|(apply zaW fun K hK=>?_)|apply aO ?_|fail)
  refine aK rfl aL aM ?_;simp only[aR];refine aI ?_ U;intro w H2 g;have Y:=g.pre F1;clear g U;dsimp only[za1];repeat' (first
   |(apply ai ?_;clear hK K)|fail)
  all_goals (refine⟨za2,_,za7,?_⟩;try simp only[za0])
  exact Y
 rw[af k3]at h;by_cases k4:x.kind=4
 .rw[aj k4]at h;cases n with
  |zero=>simp[ij]at h
  |succ n=>
  unfold ij at h;simp only[fq]at h;obtain⟨q,Z,b,o,t,g,d,Y,rfl⟩:=h;have U:=Xi hG hX (IH n ac) Z o g Y rfl rfl V hz L (Wn (s:={ (zaX ⟨3,16*(s.loops:Int),[]⟩ q.2).2 with state:=(zaX ⟨3,16*(s.loops:Int),[]⟩ q.2).1}) (v:=q.2.vars) rfl o g Y) R1;refine zbs (M:=155) (rs:=[]) (O.call _) O.ice O.froz Try.func99 rfl rfl kB.2 rfl ?_;dsimp only[kB,zbj,Nat.reduceAdd];repeat' (first
   |(apply ai ?_;clear hK K)|apply Ry.o ?_|(apply bi (fun o z=>?_) (fun o z=>?_)<;>try(cases o;done))|apply aq ?_|(apply zaW fun K hK=>?_)|apply aO ?_|fail)
  refine aK rfl aL aM ?_;simp only[aR];refine aI ?_ U;intro w H2 g;have Y:=g.pre F1;clear g U;dsimp only[za1];repeat' (first
   |(apply ai ?_;clear hK K)|fail)
  all_goals (refine⟨za2,_,za7,?_⟩;try simp only[za0])
  exact Y
 rw[af k4]at h;by_cases C:x.kind=5
 .rw[aj C]at h;simp only[fq]at h;obtain⟨v,Z,rfl⟩:=h;exact Xb hG hX C Z ⟨V.r,V.l,V.n⟩ I
 rw[af C]at h;by_cases j:x.kind=6
 .rw[aj j]at h;simp only[dx]at h;obtain⟨av,Z,h⟩:=h;split at h
  .rename_i hc;cases h;exact Xd hG hX j Z hc.1 hc.2 hz ⟨V.r,V.l,V.n⟩ I
  .cases h
 rw[af j]at h;by_cases k7:x.kind=7
 .rw[aj k7]at h;cases h;exact Xc hG k7 V I
 rw[af k7]at h;cases h;exact lst0 hG k1 J k3 k4 C j k7 I
set_option maxRecDepth 100000 in
set_option maxHeartbeats 4000000 in
include hG hX in
theorem I5:∀(N n:Nat),n<N->zD tb X c n
 |0,n,hn=>by omega
 |N+1,n,hn=>fun l s r h hF hz hvl H S lv vv hR=>by
  have hw:Plain (za3 pls tb) 60:=hG.plain cN;have hll:=vE l;refine zbs (M:=16) (rs:=[]) (hw.call _) hw.ice hw.froz Try.func60 rfl rfl I4.2 rfl ?_;dsimp only[I4,zbj,Nat.reduceAdd];repeat' (first
   |(apply ai ?_;clear hK K)|apply Rx.o ?_|apply aq ?_|(apply zaW fun K hK=>?_)|apply aO ?_|fail)
  refine zcj [0,6,7] [] 8 l.length (fun i E J=>∃m V C I g,m<=n/\dR c m (l.drop i) V=some r/\V.vars.length=s.vars.length/\RepL X J C V I g/\FrL X S vv H C g J) eE ⟨n,s,S,lv,vv,aA _,h,rfl,hR,cb _ _ _ _⟩ ?_;rintro i E J hi j hrH hnH hsI ⟨m,V,C,I,g,hm,Z,U,Ri,Fi⟩;(try simp only[zbR,zbq,br,za4,zbg,Nat.reduceBEq, *]at j);(try simp only[zbq, *]at hrH);(try simp only[zbb,zbl,zb4,b4,Nat.reduceAdd]at hnH);by_cases Y:i<l.length
  .have O:(i:Int)<l.length:=by omega
   have hgx:l[i]?=some l[i]:=aY Y;have hmem:=zdM (dW Y);cases m with
   |zero=>simp[dR]at Z
   |succ m=>
   rw[hP Y]at Z;unfold dR at Z;simp only[dx]at Z;obtain⟨q,h1,h2⟩:=Z;generalize l[i]=x at *;have hFq:Fin q:=hF.le ((lL c m).2.1 _ _ _ h2).1;have hql:=((lL c m).1 _ _ _ h1).2;repeat' (first
    |(apply ai ?_;clear hK K)|apply Ry.o ?_|apply dD ?_|(apply bi (fun o z=>?_) (fun o z=>?_)<;>try(cases o;done))|apply aq ?_|(apply zaW fun K hK=>?_)|apply aO ?_|apply za8 ?_|fail)
   refine aK rfl aL aM ?_;simp only[aR];refine aI ?_ (Xj hG hX (fun k hk=>I5 N k ac) h1 hFq ac ac (Ri.alloc2 _ _));rintro w H3 ⟨S3,lv3,vv3,R3,F3⟩;have F03:=((Fi.alloc2 (.cells [AV.int .i64 0,.str [],.str [],.int .i64 0,.int .i64 0,.int .i64 0,.str [],.int .i64 0,.nilS,.int .i64 0,.int .i64 0,.str [],.int .i64 0,.nilS,.nilS,.nilS,.nilS] 0 true) (.cells x.cells 0 true))).trans F3;have n3:J.next+1<=H3.next:=F3.next
   have L:q.vars.length=s.vars.length:=ac;clear hql U;dsimp only[za1];repeat' (first
    |(apply ai ?_;clear hK K)|apply Rx.o ?_|(apply zaW fun K hK=>?_)|fail)
   refine⟨ac,zbw,zbw,eN,C4,?_⟩;exact⟨m,q,S3,lv3,vv3,ac,h2,L,R3,F03⟩
  .have O:¬(i:Int)<l.length:=by omega
   have hd:l.drop i=[]:=tV ac;rw[hd]at Z;cases m with
   |zero=>simp[dR]at Z
   |succ m=>
   have Z:V=r:=by unfold dR at Z;simpa using Z
   subst Z;clear U;repeat' (first
    |(apply ai ?_;clear hK K)|apply Ry.o ?_|(apply bi (fun o z=>?_) (fun o z=>?_)<;>try(cases o;done))|apply aq ?_|(apply zaW fun K hK=>?_)|apply zbW ?_)
   all_goals (refine⟨za2,_,za7,?_⟩;try simp only[za0])
   exact⟨C,I,g,Ri,Fi⟩
end
end
section
def tyLoJ.tyF:=ad @eJ (ad @cQ (ad @cW (ad @gU (ad @qN (ad @lx (ad @ye (ad @gI (ad @gJ (ad @eK (ad @eA (ad @dX (ad @lA (ad @fj (ad @ml (ad @nW (@zy))))))))))))))))
open tyLoJ
noncomputable def I6:{c:SC // aD 94 (Try.f30.body.getD .skip)=c}:=by
 refine⟨?_,?_⟩;rotate_left
 .simp only[Try.f30,bP,aD,zby,zbt,zbA,zbB,Nat.blt,Nat.ble];rfl
def dS:List za5->Nat->List (za5×Int)->List (za5×Int)
 |[],_,m=>m
 |a::l,i,m=>dS l (i+1) (setV m a i)
theorem zF:∀(l:List za5) (a:za5) (i:Nat) (m:List (za5×Int)),dS (l++[a]) i m=setV (dS l i m) a ((i+l.length:Nat):Int)
 |[],a,i,m=>rfl
 |b::l,a,i,m=>by
  rw[nX,dS,zF l a (i+1),dS,cS,show i+1+l.length=i+(l.length+1) by omega]
theorem wn:∀(n k:Nat) (s:Bd),zcc s (gL n k s)/\(gL n k s).vars.length=s.vars.length+n
 |0,k,s=>⟨ny s,rfl⟩
 |n+1,k,s=>by
  have e:=wn n (k+1) { (zaX ⟨2,k,[]⟩ s).2 with vars:=(zaX ⟨2,k,[]⟩ s).2.vars++[(zaX ⟨2,k,[]⟩ s).1] };refine⟨(((zb8 ⟨2,k,[]⟩ s).le.setV _)).trans e.1,?_⟩;show(gL n (k+1) _).vars.length=_;rw[e.2,fy];show s.vars.length+1+n=_;omega
theorem wo:∀(n:Nat) (s:Bd),zcc s (jR n s)/\(jR n s).vars.length=s.vars.length+n
 |0,s=>⟨ny s,rfl⟩
 |n+1,s=>by
  have e:=wo n { (zaX ⟨1,0,[]⟩ s).2 with vars:=(zaX ⟨1,0,[]⟩ s).2.vars++[(zaX ⟨1,0,[]⟩ s).1] };refine⟨(((zb8 ⟨1,0,[]⟩ s).le.setV _)).trans e.1,?_⟩;show(jR n _).vars.length=_;rw[e.2,fy];show s.vars.length+1+n=_;omega
abbrev Lx.nx(X:Lx)(ne:List (za5×Int)):Lx:={X with ne:=ne}
theorem RepL.setNe{X:Lx}{H:Hp}{S:Nat->Prop}{s:Bd}{V vv:AV}(h:RepL X H S s V vv)(ne:List (za5×Int)):RepL (X.nx ne) (H.set X.rn (.map (cE ne))) S s V vv:=by
 have K:=h.o1;have L:=h.o2;have Z:=h.o3;have o:=h.o4;have Y:=h.o5;have C:∀k,k≠X.rn->(H.set X.rn (.map (cE ne))).get k=H.get k:=fun k j=>p9;exact⟨by rw[C _ (by show X.b≠_;omega)];exact h.m,by rw[C _ (by show X.ra≠_;omega)];exact h.a,by rw[C _ (by show X.rf≠_;omega)];exact h.f,by rw[C _ (by show X.rt≠_;omega)];exact h.t,gE,h.nodes.keep (fun _ _ h=>h) (aA _) fun k j _=>C k (by have:=(h.sS k j).1;omega),h.vars.keep (aA _) fun k j=>C k (by have:=(h.vS k j).1;omega),K,L,Z,o,Y,h.sS,h.vS⟩
theorem RepL.pushV{X:Lx}{H:Hp}{S:Nat->Prop}{s:Bd}{V vv:AV}(h:RepL X H S s V vv)(x:Int)(hl:s.vars.length<2^36):
 ∃z H',zcg Try.prog false (H.alloc (.cells [.int .i64 x] 0 true)) 23 23 vv (.sl H.next 0 1 1)=some (z,H')/\AV.one z=true/\z.cells=[z]/\H'.get X.b=some (.cells (zbm X s V vv) 0 true)/\H'.next=H.next+2/\(∀k,k<H.next->¬zbv vv k->H'.get k=H.get k) /\
  RepL X (H'.set X.b (.cells (zbm X {s with vars:=s.vars++[x] } V z) 0 true)) S {s with vars:=s.vars++[x] } V z /\
  FrL X S vv H S z (H'.set X.b (.cells (zbm X {s with vars:=s.vars++[x] } V z) 0 true)):=by
 have o1:=h.o1;have o2:=h.o2;have o3:=h.o3;have o4:=h.o4;have o5:=h.o5;have hv:hZ (H.alloc (.cells [.int .i64 x] 0 true)) vv s.vars 0:=h.vars.keep (dV _) fun k j=>by rw[zaY,af (by have:=(h.vS k j).2;omega)]
 have hx:zcM (H.alloc (.cells [.int .i64 x] 0 true)) 1 (.sl H.next 0 1 1)=some ([x].length,[x].map (.int .i64)):=tL (m:=[x]) (imm:=0) gK;obtain⟨z,H',a1,Y,a3,a4,L,O⟩:=GQ hv (dg _) hx aw cc;simp only[zbb]at a3 L O;have o:∀k,k<H.next->¬zbv vv k->H'.get k=H.get k:=fun k U g=>by rw[L k ac g,zaY,af ac]
 have i:∀k,k<=X.b->¬zbv vv k:=fun k j e=>by have:=(h.vS k e).1;omega
 have Z:=hZ.one (.inr Y);have C:∀k,k≠X.b->(H'.set X.b (.cells (zbm X {s with vars:=s.vars++[x] } V z) 0 true)).get k=H'.get k:=fun k j=>p9;refine⟨z,H',a1,Z.1,Z.2,by rw[o _ o5 (i _ (aA _))];exact h.m,ac,o,⟨gE,by rw[C _ ac,o _ ac (i _ ac)];exact h.a,by rw[C _ ac,o _ ac (i _ ac)];exact h.f,by rw[C _ ac,o _ ac (i _ ac)];exact h.t,by rw[C _ ac,o _ ac (i _ ac)];exact h.n,h.nodes.keep (fun _ _ h=>h) eg fun k j J=>by rw[C k (by have:=(h.sS k j).1;omega),o k J (h.sS k j).2.2],?_,o1,o2,o3,o4,eg,fun k j=>⟨(h.sS k j).1,by have:=(h.sS k j).2.1;simp only[zbl];omega,fun e=>?_⟩,fun k j=>?_⟩,⟨eg,fun k U g _ _ I=>by rw[C k g,o k U I],fun _ h=>.inl h,fun k j=>?_⟩⟩
 .have M:hZ H' z (s.vars++[x]) 0:=.inr Y;exact M.keep (aA _) fun k j=>C k fun e=>by
   rcases O k j with q|q
   .have:=(h.vS k q).1;omega
   .omega
 .rcases O k e with q|q
  .exact(h.sS k j).2.2 q
  .have:=(h.sS k j).2.1;omega
 .have K:k<H'.next:=(hZ.lt (.inr Y) j).2
  rcases O k j with q|q
  .exact⟨(h.vS k q).1,K⟩
  .exact⟨ac,K⟩
 .rcases O k j with q|q
  .exact .inl q
  .exact .inr ac
structure FrN (X:Lx) (zbk:Hp) (S:Nat->Prop) (vv:AV) (H:Hp):Prop where
 next:zbk.next<=H.next
 get:∀k,k<zbk.next->k≠X.b->k≠X.rt->k≠X.rn->H.get k=zbk.get k
 sub:∀k,S k->zbk.next<=k
 own:∀k,zbv vv k->zbk.next<=k
theorem FrN.fr{X:Lx}{ne:List (za5×Int)}{zbk H H':Hp}{S S':Nat->Prop}{vv C:AV}(h:FrN X zbk S vv H)(f:FrL (X.nx ne) S vv H S' C H'):FrN X zbk S' C H' where
 next:=cm h.next f.next
 get k h1 h2 h3 h4:=by
  rw[f.get k (l0 h1 h.next) h2 h3 (fun e=>by have:=h.sub k e;omega) (fun e=>by have:=h.own k e;omega)];exact h.get k h1 h2 h3 h4
 sub k e:=by
  rcases f.sub k e with e|e
  .exact h.sub k e
  .exact cm h.next e
 own k e:=by
  rcases f.own k e with e|e
  .exact h.own k e
  .exact cm h.next e
theorem FrN.setNe{X:Lx}{zbk H:Hp}{S:Nat->Prop}{vv:AV}(h:FrN X zbk S vv H)(b:HB):FrN X zbk S vv (H.set X.rn b):=⟨h.next,fun k i g m L=>by rw[aC,af L];exact h.get k i g m L,h.sub,h.own⟩
def I7(X:Lx)(H:Hp)(g:Gr)(v:AV)(H':Hp):Prop:=∃S lv,v=.agg [.str g.name,.int .i64 g.params,lv,.int .i64 g.value,.int .i64 g.state]/\zbN S 2 H' 3 lv (g.nodes.map Nd.cells)/\H.next<=H'.next/\(∀k,S k->H.next<=k)/\∀k,k<H.next->k≠X.b->k≠X.rt->k≠X.rn->H'.get k=H.get k
set_option maxRecDepth 100000 in
theorem Xk{tb:List En}(hG:LowT tb){X:Lx}{p:Pr}{f:Fu}(hX:CxOk (X.nx (dS (f.params++f.locals) 0 [])) (ik p f))(hX0:X.ne=[]){n:Nat}{s:Bd}{v:Int×Bd}(h1:dR (ik p f) n f.body (zc3 f)=some s)(h2:di (ik p f) n f.value s=some v)(hF:Fin v.2)(hz:f.sz<2^34){H:Hp}(hR:RepL X H (fun _=>False) ⟨[],[],0,0⟩ .nilS .nilS):
 za9 Try.prog (za3 pls tb) 30 [.ptr X.b 0,.agg f.cells] H (I7 X H ⟨f.name,f.params.length,v.2.l,v.1,v.2.state⟩):=by
 have hw:Plain (za3 pls tb) 30:=hG.plain cN;have hkeep:(za3 pls tb).keep 30=false:=rfl;have hsz:f.sz=1+f.name.length+zco f.params+zco f.locals+zbC f.body+f.value.sz:=rfl;have hpl:=zdI f.params;have hll:=zdI f.locals;have o1:=hR.o1;have o2:=hR.o2;have o3:=hR.o3;have o4:=hR.o4;have o5:=hR.o5;have hFs:Fin s:=hF.le (zci _ n _ _ _ h2).le;have m:Fin (zc3 f):=hFs.le ((lL _ n).2.1 _ _ _ h1).1;have hsv:s.vars.length=(zc3 f).vars.length:=((lL _ n).2.1 _ _ _ h1).2;have o:zc3 f=jR f.locals.length (gL f.params.length 0 { (zaX ⟨26,0,[]⟩ ⟨[],[],0,0⟩).2 with state:=(zaX ⟨26,0,[]⟩ ⟨[],[],0,0⟩).1}):=rfl;generalize hs0:({ (zaX ⟨26,0,[]⟩ ⟨[],[],0,0⟩).2 with state:=(zaX ⟨26,0,[]⟩ ⟨[],[],0,0⟩).1}:Bd)=s0 at *;have hv0:s0.vars.length=0:=by rw[<-hs0];rfl
 have hF1:Fin (gL f.params.length 0 s0):=by rw[o]at m;exact m.le (wo _ _).1
 have hv1:(gL f.params.length 0 s0).vars.length=f.params.length:=by rw[(wn _ _ _).2,hv0];omega
 have hF0:Fin s0:=hF1.le (wn _ _ _).1;have hFe:Fin (zaX ⟨26,0,[]⟩ ⟨[],[],0,0⟩).2:=by rw[<-hs0]at hF0;exact⟨hF0.r,hF0.l,hF0.n⟩
 have hvst:(zc3 f).vars.length<2^36:=by rw[o,(wo _ _).2,hv1];omega
 have R1:=(hR.alloc (.cells f.cells 0 true)).alloc (.cells [.str [],.int .i64 0,.nilS,.int .i64 0,.int .i64 0] 0 true);have N1:FrN X ((H.alloc (.cells f.cells 0 true)).alloc (.cells [.str [],.int .i64 0,.nilS,.int .i64 0,.int .i64 0] 0 true)) (fun _=>False) .nilS ((H.alloc (.cells f.cells 0 true)).alloc (.cells [.str [],.int .i64 0,.nilS,.int .i64 0,.int .i64 0] 0 true)):=⟨aA _,fun _ _ _ _ _=>rfl,fun _ h=>h.elim,fun _ h=>(wj h).elim⟩;have eX:X.nx []=X:=by rw[<-hX0]
 have gA:∀{S:Nat->Prop}{vv:AV}{H':Hp},FrN X ((H.alloc (.cells f.cells 0 true)).alloc (.cells [.str [],.int .i64 0,.nilS,.int .i64 0,.int .i64 0] 0 true)) S vv H'->H'.get H.next=some (.cells f.cells 0 true)/\H'.get (H.next+1)=some (.cells [.str [],.int .i64 0,.nilS,.int .i64 0,.int .i64 0] 0 true):=fun h=>by
  refine⟨?_,?_⟩
  .rw[h.get _ eU ac ac ac,zaY,af eU,zaY,aj rfl]
  .rw[h.get _ eU ac ac ac,zaY,aj cN]
 refine zbs (M:=94) (rs:=[.cell 4 28]) (hw.call _) hw.ice hw.froz Try.func30 rfl rfl I6.2 rfl ?_;dsimp only[I6,zbj,Nat.reduceAdd];repeat' (first
  |(apply ai ?_;clear hK K)|apply Rx.o ?_|apply aq ?_|(apply zaW fun K hK=>?_)|fail)
 refine aK rfl aL aM ?_;simp only[aR];refine aI ?_ (wl hG R1 (cb _ _ _ _) 26 0 hFe);rintro w H2 ⟨rfl,S2,lv2,R2,F2⟩;have m2:=R2.m;obtain⟨R3,F3⟩:=R2.setS (zaX ⟨26,0,[]⟩ ⟨[],[],0,0⟩).1;have N3:=N1.fr (ne:=X.ne) (F2.trans F3);have n2:=F2.next
 simp only[zbb]at n2;clear R1 R2 F2 F3 hR;have g3:=(gA N3).1;dsimp only[zbm]at m2 R3 N3 g3;dsimp only[za1];repeat' (first
  |(apply ai ?_;clear hK K)|apply Rx.o ?_|apply bN ?_|apply aq ?_|(apply zaW fun K hK=>?_)|apply aO ?_|fail)
 refine zcj [0,3,4,16,17] [] 18 f.params.length (fun i E Hi=>∃si Si lvi g,gL (f.params.length-i) i si=gL f.params.length 0 s0/\si.vars.length=i/\RepL (X.nx (dS (f.params.take i) 0 [])) Hi Si si lvi g/\FrN X ((H.alloc (.cells f.cells 0 true)).alloc (.cells [.str [],.int .i64 0,.nilS,.int .i64 0,.int .i64 0] 0 true)) Si g Hi) eE ⟨s0,S2,lv2,.nilS,rfl,hv0,by rw[zC];show RepL (X.nx []) _ _ _ _ _;rw[eX,<-hs0];exact R3,N3⟩ ?_;clear R3 N3 m2 g3;rintro i E Hi hi hcE hrH hnH hsI ⟨si,Si,lvi,g,Z,hvi,Ri,Ni⟩;(try simp only[zbR,zbq,br,za4,zbg,Nat.reduceBEq, *]at hcE);(try simp only[zbq,zbg, *]at hrH);(try simp only[zbl,]at hnH);have ni:H.next+2<=Hi.next:=Ni.next
 by_cases hlt:i<f.params.length
 .have I:(i:Int)<f.params.length:=by omega
  have hgx:f.params[i]?=some f.params[i]:=aY hlt;obtain⟨k,V⟩:∃k,f.params.length-i=k+1:=⟨f.params.length-i-1,ac⟩;have hk2:f.params.length-(i+1)=k:=ac;have hne:dS (f.params.take (i+1)) 0 []=setV (dS (f.params.take i) 0 []) f.params[i] (i:Int):=by
   rw[kI,hgx];show dS (f.params.take i++[f.params[i]]) 0 []=_;rw[zF,jr,tu ac,b4]
  rw[V]at Z;rw[hk2,hne];have Z:gL k (i+1) { (zaX ⟨2,i,[]⟩ si).2 with vars:=(zaX ⟨2,i,[]⟩ si).2.vars++[(zaX ⟨2,i,[]⟩ si).1] }=gL f.params.length 0 s0:=Z;have hFx:Fin (zaX ⟨2,i,[]⟩ si).2:=hF1.le (by rw[<-Z];exact((ny _).setV _).trans (wn _ _ _).1);generalize f.params[i]=nm at *;have hup:=vN (P:=Try.prog) (t:=81) Try.underlying81 zdz Ri.n nm (i:Int);have mi:=Ri.m;have R':=Ri.setNe (setV (dS (f.params.take i) 0 []) nm (i:Int));have N':=Ni.setNe (.map (cE (setV (dS (f.params.take i) 0 []) nm (i:Int))));have m':=R'.m;dsimp only[zbm,Lx.nx]at mi hup m';repeat' (first
   |(apply ai ?_;clear hK K)|apply Ry.o ?_|apply dD ?_|(apply bi (fun O z=>?_) (fun O z=>?_)<;>try(cases O;done))|apply aq ?_|(apply zaW fun K hK=>?_)|(apply zcy 6 [(4,7),(4,9),(8,9)] fun K hK=>?_)|(apply zbK ?_;try intro _)|apply cr ?_|apply aO ?_|apply za8 ?_|fail)
  refine aK rfl aL aM ?_;simp only[fJ];refine aI ?_ (wl (X:=X.nx (setV (dS (f.params.take i) 0 []) nm (i:Int))) hG R' (cb _ _ _ _) 2 i hFx);generalize C:zaX ⟨2,i,[]⟩ si=U at *;have hpv:U.2.vars.length=i:=by rw[<-C];exact hvi
  rintro w H4 ⟨rfl,S4,J,R4,F4⟩;have m4:=R4.m;have n4:=F4.next
  obtain⟨v5,H5,a5,hv51,hv52,m5,n5,q5,R5,F5⟩:=R4.pushV U.1 ac;have N5:=(N'.fr F4).fr F5;have m4a:(H4.alloc (.cells [.int .i64 U.1] 0 true)).get X.b=some (.cells (zbm X U.2 J g) 0 true):=by rw[zaY,af IN];exact m4
  have n5':Hi.next<=H5.next:=by simp only[zbl]at n4;omega
  have L:(U.2.vars++[U.1]).length=i+1:=by rw[fy,hpv];rfl
  simp only[zbl]at n4;clear hpv hvi R' N' R4 F4 C mi;dsimp only[zbm,Lx.nx]at m4 m5 m4a R5 N5;dsimp only[za1];repeat' (first
   |(apply ai ?_;clear hK K)|apply Rx.o ?_|apply bN ?_|(apply zaW fun K hK=>?_)|(apply zbK ?_;try intro _)|(apply zcr ?_ ?_<;>clear hK K)|apply cr ?_|apply zcX rfl ?_|fail)
  .exact zck
  .refine⟨ac,zbw,zbw,eN,(by simp only[za4,Nat.reduceBEq, *];exact zc7 (n:=f.params.length) ac ac),?_⟩;exact⟨_,S4,J,v5,Z,L,R5,N5⟩
 .have I:¬(i:Int)<f.params.length:=by omega
  have V:f.params.length-i=0:=ac;have hti:f.params.take i=f.params:=eI ac;rw[V]at Z;rw[hti]at Ri;have Z:si=gL f.params.length 0 s0:=Z;rw[Z]at Ri;have hii:i=f.params.length:=ac;rw[<-Z]at o;rw[Z]at o;have gi:=(gA Ni).1;clear V hti Z hvi hii;repeat' (first
   |(apply ai ?_;clear hK K)|apply Ry.o ?_|(apply bi (fun O z=>?_) (fun O z=>?_)<;>try(cases O;done))|apply aq ?_|(apply zaW fun K hK=>?_)|apply aO ?_|apply zbW ?_)
  generalize hs1:gL f.params.length 0 s0=s1 at *;refine zcj [0,3,4,43,44] [] 45 f.locals.length (fun j E Hj=>∃sj Sj lvj vvj,jR (f.locals.length-j) sj=jR f.locals.length s1/\sj.vars.length=f.params.length+j/\RepL (X.nx (dS (f.params++f.locals.take j) 0 [])) Hj Sj sj lvj vvj/\FrN X ((H.alloc (.cells f.cells 0 true)).alloc (.cells [.str [],.int .i64 0,.nilS,.int .i64 0,.int .i64 0] 0 true)) Sj vvj Hj) eE ⟨s1,Si,lvi,g,rfl,hv1,by rw[zC,aR];exact Ri,Ni⟩ ?_;clear Ri Ni gi;rintro j E3 Hj hj hcE hrH hnH hsI ⟨sj,Sj,lvj,vvj,Z,hvj,Rj,Nj⟩;(try simp only[zbR,zbq,br,za4,zbg,Nat.reduceBEq, *]at hcE);(try simp only[zbq, *]at hrH);(try simp only[zbb,zbl,zb4,b4,Nat.reduceAdd]at hnH);have nj:H.next+2<=Hj.next:=Nj.next
  by_cases hlt:j<f.locals.length
  .have I:(j:Int)<f.locals.length:=by omega
   have hgx:f.locals[j]?=some f.locals[j]:=aY hlt;obtain⟨k,V⟩:∃k,f.locals.length-j=k+1:=⟨f.locals.length-j-1,ac⟩;have hk2:f.locals.length-(j+1)=k:=ac;have hne:dS (f.params++f.locals.take (j+1)) 0 []=setV (dS (f.params++f.locals.take j) 0 []) f.locals[j] ((f.params.length+j:Nat):Int):=by
    rw[kI,hgx];show dS (f.params++(f.locals.take j++[f.locals[j]])) 0 []=_;rw[<-mU,zF,fy,jr,tu ac,b4]
   rw[V]at Z;rw[hk2,hne];have Z:jR k { (zaX ⟨1,0,[]⟩ sj).2 with vars:=(zaX ⟨1,0,[]⟩ sj).2.vars++[(zaX ⟨1,0,[]⟩ sj).1] }=jR f.locals.length s1:=Z;have hFx:Fin (zaX ⟨1,0,[]⟩ sj).2:=m.le (by rw[o,<-Z];exact((ny _).setV _).trans (wo _ _).1);generalize f.locals[j]=nm at *;have hup:=vN (P:=Try.prog) (t:=81) Try.underlying81 zdz Rj.n nm ((f.params.length+j:Nat):Int);have hlen:=Rj.vars.n.len';rw[hvj]at hlen;have mj:=Rj.m;have R':=Rj.setNe (setV (dS (f.params++f.locals.take j) 0 []) nm ((f.params.length+j:Nat):Int));have N':=Nj.setNe (.map (cE (setV (dS (f.params++f.locals.take j) 0 []) nm ((f.params.length+j:Nat):Int))));have m':=R'.m;dsimp only[zbm,Lx.nx]at mj hup m';repeat' (first
    |(apply ai ?_;clear hK K)|apply Ry.o ?_|apply dD ?_|(apply bi (fun O z=>?_) (fun O z=>?_)<;>try(cases O;done))|apply aq ?_|(apply zaW fun K hK=>?_)|(apply sq 11 fun K hK=>?_)|(apply zcy 12 [(4,6),(4,8),(7,8)] fun K hK=>?_)|(apply zbK ?_;try intro _)|apply cr ?_|apply aO ?_|apply za8 ?_|fail)
   .refine aK rfl aL aM ?_;simp only[fJ];refine aI ?_ (tY (X:=X.nx (setV (dS (f.params++f.locals.take j) 0 []) nm ((f.params.length+j:Nat):Int))) hG R' (cb _ _ _ _) 0 hFx);generalize C:zaX ⟨1,0,[]⟩ sj=U at *;have hpv:U.2.vars.length=f.params.length+j:=by rw[<-C];exact hvj
    rintro w H4 ⟨rfl,S4,J,R4,F4⟩;have m4:=R4.m;have n4:=F4.next
    obtain⟨v5,H5,a5,hv51,hv52,m5,n5,q5,R5,F5⟩:=R4.pushV U.1 ac;have N5:=(N'.fr F4).fr F5;have m4a:(H4.alloc (.cells [.int .i64 U.1] 0 true)).get X.b=some (.cells (zbm X U.2 J vvj) 0 true):=by rw[zaY,af IN];exact m4
    have n5':Hj.next<=H5.next:=by simp only[zbl]at n4;omega
    have L:(U.2.vars++[U.1]).length=f.params.length+(j+1):=by rw[fy,hpv];rfl
    simp only[zbl]at n4;clear hpv hvj R' N' R4 F4 C mj hlen;dsimp only[zbm,Lx.nx]at m4 m5 m4a R5 N5;dsimp only[za1];repeat' (first
     |(apply ai ?_;clear hK K)|apply Rx.o ?_|apply bN ?_|(apply zaW fun K hK=>?_)|(apply zbK ?_;try intro _)|(apply zcr ?_ ?_<;>clear hK K)|apply cr ?_|apply zcX rfl ?_|fail)
    .exact zck
    .refine⟨ac,zbw,zbw,eN,(by simp only[za4,Nat.reduceBEq, *];exact zc7 (n:=f.locals.length) ac ac),?_⟩;exact⟨_,S4,J,v5,Z,L,R5,N5⟩
  .have I:¬(j:Int)<f.locals.length:=by omega
   have V:f.locals.length-j=0:=ac;have htj:f.locals.take j=f.locals:=eI ac;rw[V]at Z;rw[htj]at Rj;have Z:sj=jR f.locals.length s1:=Z;rw[Z,<-o]at Rj;have gj:=(gA Nj).1;clear V htj Z hvj;repeat' (first
    |(apply ai ?_;clear hK K)|apply Ry.o ?_|(apply bi (fun O z=>?_) (fun O z=>?_)<;>try(cases O;done))|apply aq ?_|(apply zaW fun K hK=>?_)|apply zbW ?_)
   refine aK rfl aL aM ?_;simp only[aR];refine aI ?_ (I5 (X:=X.nx (dS (f.params++f.locals) 0 [])) hG hX (n+1) n (cJ n) f.body (zc3 f) s h1 hFs ac hvst Rj);rintro w H6 ⟨S6,lv6,vv6,R6,F6⟩;have N6:=Nj.fr F6;have g6:=(gA N6).1;clear Rj Nj F6 gj;dsimp only[za1];repeat' (first
    |(apply ai ?_;clear hK K)|apply Rx.o ?_|apply aq ?_|(apply zaW fun K hK=>?_)|fail)
   refine aK rfl aL aM ?_;simp only[aR];refine aI ?_ (pi (X:=X.nx (dS (f.params++f.locals) 0 [])) hG hX n f.value s v h2 hF R6 (cb _ _ _ _));rintro w H7 ⟨rfl,S7,Y,R7,F7⟩;have N7:=N6.fr F7;obtain⟨g7,g7r⟩:=gA N7;have m7:=R7.m;have nd7:=R7.nodes;obtain⟨ho1,ho2⟩:=nd7.one;have n7:H.next+2<=H7.next:=N7.next
   have bGr:zb5 Try.prog 28 [(0,.str f.name),(1,.int .i64 f.params.length),(2,Y),(3,.int .i64 v.1),(4,.int .i64 v.2.state)]=some (.agg [.str f.name,.int .i64 f.params.length,Y,.int .i64 v.1,.int .i64 v.2.state]):=by
    rcases nd7 with⟨rfl,_⟩|⟨q,im,rows,rfl,_⟩<;>kernel_rfl
   have key:∀k,k<H.next->k≠X.b->k≠X.rt->k≠X.rn->(H7.set (H.next+1) (.cells [.str f.name,.int .i64 f.params.length,Y,.int .i64 v.1,.int .i64 v.2.state] 0 true)).get k=H.get k:=fun k a b c d=>by
    rw[aC,af ac,N7.get k eU b c d,zaY,af eU,zaY,af ac]
   have fin:I7 X H ⟨f.name,f.params.length,v.2.l,v.1,v.2.state⟩ (.agg [.str f.name,.int .i64 f.params.length,Y,.int .i64 v.1,.int .i64 v.2.state]) (H7.set (H.next+1) (.cells [.str f.name,.int .i64 f.params.length,Y,.int .i64 v.1,.int .i64 v.2.state] 0 true)):=
    ⟨S7,Y,rfl,nd7.keep (fun _ _ h=>h) (aA _) fun k V _=>by rw[aC,af IP],eg,fun k V=>IP,key⟩
   dsimp only[zbm,Lx.nx]at m7;clear key nd7 R6 R7 N6 N7 F7 g6;dsimp only[za1];repeat' (first
    |(apply ai ?_;clear hK K)|apply Rx.o ?_|apply bN ?_|apply aq ?_|(apply sq 16 fun K hK=>?_)|apply aN ?_|fail)
   have ag:zbJ 5 [.str f.name,.int .i64 f.params.length,Y,.int .i64 v.1,.int .i64 v.2.state]=some (.agg [.str f.name,.int .i64 f.params.length,Y,.int .i64 v.1,.int .i64 v.2.state]):=rfl;refine⟨za2,_,(by(try simp only[za4,zbg,Nat.reduceBEq,tyF,zb9,zch, *]);first|done|with_reducible rfl),?_⟩;try simp only[za0]
   exact fin
end
section
def tyW4a.tyF:=ad @cQ (ad @cW (ad @eK (ad @eA (ad @dX (ad @fj (@eJ))))))
open tyW4a
noncomputable def I8:{c:SC // aD 28 (Try.f78.body.getD .skip)=c}:=by
 refine⟨?_,?_⟩;rotate_left
 .simp only[Try.f78,bP,aD,zby,zbt,zbA,zbB,Nat.blt,Nat.ble];rfl
noncomputable def I9:{c:SC // aD 39 (Try.f72.body.getD .skip)=c}:=by
 refine⟨?_,?_⟩;rotate_left
 .simp only[Try.f72,bP,aD,zby,zbt,zbA,zbB,Nat.blt,Nat.ble];rfl
def t4(cfg:Cfg)(base:Nat)(I:Hp->Prop)(g:FuncId)(cap:List AV)(q:Ex->Int->Bool):Prop:=
 ∀(x:Ex) (d:Int) (H:Hp),x.sz<2^60->base<=H.next->I H->za9 Try.prog cfg g (.agg x.cells::.int .i64 d::cap) H fun v H'=>v=.bool (q x d)/\FrB base H H'/\I H'
def rp(base:Nat)(I:Hp->Prop):Prop:=∀H H',I H->gw base H H'->I H'
theorem t6{cfg:Cfg}(hw:Plain cfg 78){base:Nat}{I:Hp->Prop}(hI:rp base I){g:FuncId}{cap:List AV}{q:Ex->Int->Bool}(hq:t4 cfg base I g cap q):
 ∀(n:Nat) (x:Ex),x.sz<n->∀(d:Int) (H:Hp),x.sz<2^60->base<=H.next->I H->za9 Try.prog cfg 78 [.agg x.cells,.int .i64 d,.clo g cap] H fun v H'=>v=.bool (kU q x d)/\FrB base H H'/\I H'
 |0,x,hx,_,_,_,_,_=>by omega
 |n+1,x,hx,d,H,hz,hbase,hi=>by
  refine zbs (M:=28) (rs:=[.tmp 6]) (hw.call _) hw.ice hw.froz Try.func78 rfl rfl I8.2 rfl ?_;dsimp only[I8,zbj,Nat.reduceAdd];repeat' (first
   |(apply ai ?_;clear hK K)|apply Rx.o ?_|apply aq ?_|(apply zaW fun K hK=>?_)|fail)
  refine aK rfl aL aM ?_;simp only[yo];have J:FrB base H (H.alloc (.cells x.cells 0 true)):=(gW _ _).alloc _;refine aI ?_ (hq x d (H.alloc (.cells x.cells 0 true)) hz eU (hI _ _ hi ((nY _ _).alloc hbase _)));rintro v H1 ⟨rfl,Y,V⟩;have hg1:H1.get H.next=some (.cells x.cells 0 true):=by
   rw[Y.get _ hbase (by simp[zbb]),zaY,aj rfl]
  have hn1:H.next<H1.next:=by have:=Y.next;simp only[zbb]at this;omega
  dsimp only[za1];repeat' (first
   |(apply ai ?_;clear hK K)|apply Rx.o ?_|(apply bu (fun o z=>?_) (fun o z=>?_)<;>try(cases o;done))|apply aq ?_|(apply zaW fun K hK=>?_)|apply aO ?_|apply za8 ?_|apply aN ?_|fail)
  .all_goals (refine⟨za2,_,za7,?_⟩;try simp only[za0])
   refine⟨?_,J.trans Y,V⟩;rw[Cg];simp_all
  have hl:x.kids.length<2^60:=by have:=zdH x.kids;have:=x.sz_eq;omega
  refine nT (fun i E m=>zc0 q x.kids (b9 (d+1))=zc0 q (x.kids.drop i) (b9 (d+1))/\E.at 1=.int .i64 d/\E.at 2=.clo g cap/\E.at 15=.lst (x.kids.map Ex.cells)/\E.at 16=.int .i64 x.kids.length/\E.at 17=.int .i64 i/\FrB base H m/\I m) x.kids.length ?_ ?_
  .rintro i E m hi2 ⟨hc,h1,h2,h15,h16,h17,O,U⟩;repeat' (first
    |(apply ai ?_;clear hK K)|apply Rx.o ?_|(apply bu (fun o z=>?_) (fun o z=>?_)<;>try(cases o;done))|apply aq ?_|(apply zaW fun K hK=>?_)|apply aO ?_|apply za8 ?_|apply aN ?_|apply zbW ?_)
   .have Z:i<x.kids.length:=by simpa using o
    have hgx:x.kids[i]?=some x.kids[i]:=aY Z;repeat' (first
     |(apply ai ?_;clear hK K)|apply Rx.o ?_|apply bN ?_|apply aq ?_|(apply zaW fun K hK=>?_)|fail)
    have hxm:x.kids[i]∈x.kids:=dW Z;have hsm:=zdJ hxm;have hsx:=x.sz_eq;have j:FrB base m ((m.alloc (.cells [.int .i64 0,.int .i64 0,.str [],.int .i64 0,.nilS] 0 true)).set m.next (.cells x.kids[i].cells 0 true)):=((gW _ _).alloc _).set (.inl (aA _)) _;have hb2:base<=m.next:=cm hbase (O.next)
    have hlow:gw base m ((m.alloc (.cells [.int .i64 0,.int .i64 0,.str [],.int .i64 0,.nilS] 0 true)).set m.next (.cells x.kids[i].cells 0 true)):=((nY _ _).alloc hb2 _).set hb2 _;refine aK rfl aL aM ?_;simp only[aR];refine aI ?_ (t6 hw hI hq n x.kids[i] ac _ _ ac kZ (hI _ _ U hlow));rintro v H3 ⟨rfl,L,C⟩;dsimp only[za1];repeat' (first
     |(apply ai ?_;clear hK K)|apply Rx.o ?_|(apply bu (fun o z=>?_) (fun o z=>?_)<;>try(cases o;done))|apply aq ?_|(apply zaW fun K hK=>?_)|apply za8 ?_|apply aN ?_|fail)
    .all_goals (refine⟨za2,_,za7,?_⟩;try simp only[za0])
     refine⟨?_,(O.trans j).trans L,C⟩;rw[Cg,hc,yq q Z];simp_all
    .refine⟨Z,?_,eE,eE,eE,eE,?_,(O.trans j).trans L,C⟩
     .rw[hc,yq q Z];simp_all
     .simp only[iF,Nat.reduceBEq,gy,zcL (show i<2^62 by omega)]
   .have hi3:i=x.kids.length:=by simp at o;omega
    all_goals (refine⟨za2,_,za7,?_⟩;try simp only[za0])
    refine⟨?_,O,U⟩;rw[Cg,hc,hi3];simp_all[zc0]
  .exact⟨rfl,eE,eE,eE,eE,eE,J.trans Y,V⟩
end
section
def tyW4b.tyF:=ad @cQ (ad @cW (ad @eK (ad @eA (ad @dX (@fj)))))
open tyW4b
def wq{Z:Type}(cfg:Cfg)(base:Nat)(I:Z->Hp->Prop)(g:FuncId)(cap:List AV)(q:St->Int->Z->Bool×Z):Prop:=
 ∀(x:St) (d:Int) (s:Z) (H:Hp),x.sz<2^60->base<=H.next->I s H->za9 Try.prog cfg g (.agg x.cells::.int .i64 d::cap) H fun v H'=>v=.bool (q x d s).1/\FrB base H H'/\I (q x d s).2 H'
theorem t7{cfg:Cfg}(hw:Plain cfg 72){σ:Type}{base:Nat}{I:σ->Hp->Prop}(hI:∀s,rp base (I s)){g:FuncId}{cap:List AV}{q:St->Int->σ->Bool×σ}(hq:wq cfg base I g cap q):
 ∀(n:Nat) (l:List St),zbC l<n->∀(d:Int) (s:σ) (H:Hp),zbC l<2^60->base<=H.next->I s H->za9 Try.prog cfg 72 [.lst (l.map St.cells),.int .i64 d,.clo g cap] H fun v H'=>v=.bool (zcn q l d s).1/\FrB base H H'/\I (zcn q l d s).2 H'
 |0,l,hx,_,_,_,_,_,_=>by omega
 |n+1,l,hx,d,s,H,hz,hbase,hi=>by
  refine zbs (M:=39) (rs:=[.tmp 6]) (hw.call _) hw.ice hw.froz Try.func72 rfl rfl I9.2 rfl ?_;dsimp only[I9,zbj,Nat.reduceAdd];repeat' (first
   |(apply ai ?_;clear hK K)|apply Rx.o ?_|apply aq ?_|(apply zaW fun K hK=>?_)|apply aO ?_|fail)
  have hl:l.length<2^60:=by have:=vE l;omega
  refine nT (fun i E m=>∃s2,zcn q l d s=zcn q (l.drop i) d s2/\E.at 1=.int .i64 d/\E.at 2=.clo g cap/\E.at 9=.lst (l.map St.cells)/\E.at 10=.int .i64 l.length/\E.at 11=.int .i64 i/\FrB base H m/\I s2 m) l.length ?_ ?_
  .rintro i E m hi2 ⟨s2,hc,h1,h2,h9,h10,h11,O,hI2⟩;repeat' (first
    |(apply ai ?_;clear hK K)|apply Rx.o ?_|(apply bu (fun Z z=>?_) (fun Z z=>?_)<;>try(cases Z;done))|apply aq ?_|(apply zaW fun K hK=>?_)|apply aO ?_|apply za8 ?_|apply aN ?_|apply zbW ?_)
   .have U:i<l.length:=by simpa using Z
    have hgx:l[i]?=some l[i]:=aY U;repeat' (first
     |(apply ai ?_;clear hK K)|apply Rx.o ?_|apply bN ?_|apply aq ?_|(apply zaW fun K hK=>?_)|fail)
    have hxm:l[i]∈l:=dW U;have hsm:=zdM hxm;have hsx:=l[i].sz_eq;generalize hx0:l[i]=x at *;have L:base<=m.next:=cm hbase O.next
    generalize J:(m.alloc _).set m.next _=H3
    have j:FrB base m H3:=by rw[<-J];exact((gW _ _).alloc _).set (.inl (aA _)) _
    have hlow:gw base m H3:=by rw[<-J];exact((nY _ _).alloc L _).set L _
    have hn3:m.next<H3.next:=by rw[<-J];simp only[zbb,zbl];omega
    have hg3:H3.get m.next=some (.cells x.cells 0 true):=by rw[<-J,aC,aj rfl]
    have hI3:=hI _ _ _ hI2 hlow;have hwd:=U9 q U d s2;rw[hx0,U8]at hwd;rw[hwd]at hc;refine aK rfl aL aM ?_;simp only[yo];refine aI ?_ (hq x d s2 H3 ac ac hI3);rintro v H4 ⟨rfl,Y,hI4⟩;generalize hq1:q x d s2=r1 at *;obtain⟨ok1,s3⟩:=r1;have hg4:H4.get m.next=some (.cells x.cells 0 true):=by rw[Y.get _ L hn3];exact hg3
    have hn4:m.next<H4.next:=l0 hn3 Y.next
    dsimp only[za1];cases ok1 with
    |false=>
     repeat' (first
      |(apply ai ?_;clear hK K)|apply Rx.o ?_|(apply da (fun C o=>?_) (fun C o=>?_)<;>try(cases C;done))|(apply bu (fun Z z=>?_) (fun Z z=>?_)<;>try(cases Z;done))|apply aq ?_|(apply zaW fun K hK=>?_)|apply aN ?_|fail)
     all_goals (refine⟨za2,_,za7,?_⟩;try simp only[za0])
     dsimp only at hc;rw[hc];exact⟨rfl,(O.trans j).trans Y,hI4⟩
    |true=>
     repeat' (first
      |apply Rx.o ?_|(apply da (fun C o=>?_) (fun C o=>?_)<;>try(cases C;done))|fail)
     refine aK rfl aL aM ?_;simp only[aR];have hrec:=t7 hw hI hq n x.thn ac (b9 (d+1)) s3 H4 ac ac hI4;refine aI ?_ hrec;rintro v H5 ⟨rfl,V,hI5⟩;generalize hq2:zcn q x.thn (b9 (d+1)) s3=r2 at *;obtain⟨ok2,s4⟩:=r2;have hg5:H5.get m.next=some (.cells x.cells 0 true):=by rw[V.get _ L hn4];exact hg4
     have hn5:m.next<H5.next:=l0 hn4 V.next
     dsimp only[za1];cases ok2 with
     |false=>
      repeat' (first
       |(apply ai ?_;clear hK K)|apply Rx.o ?_|(apply da (fun C o=>?_) (fun C o=>?_)<;>try(cases C;done))|(apply bu (fun Z z=>?_) (fun Z z=>?_)<;>try(cases Z;done))|apply aq ?_|(apply zaW fun K hK=>?_)|apply aN ?_|fail)
      all_goals (refine⟨za2,_,za7,?_⟩;try simp only[za0])
      simp only[hq2]at hc;rw[hc];exact⟨rfl,((O.trans j).trans Y).trans V,hI5⟩
     |true=>
      repeat' (first
       |apply Rx.o ?_|(apply da (fun C o=>?_) (fun C o=>?_)<;>try(cases C;done))|fail)
      refine aK rfl aL aM ?_;simp only[aR];have hrec2:=t7 hw hI hq n x.els ac (b9 (d+1)) s4 H5 ac ac hI5;refine aI ?_ hrec2;rintro v H6 ⟨rfl,hf6,hI6⟩;generalize hq3:zcn q x.els (b9 (d+1)) s4=r3 at *;obtain⟨ok3,s5⟩:=r3;dsimp only[za1];have hf7:FrB base H H6:=(((O.trans j).trans Y).trans V).trans hf6;cases ok3 with
      |false=>
       repeat' (first
        |(apply ai ?_;clear hK K)|apply Rx.o ?_|(apply da (fun C o=>?_) (fun C o=>?_)<;>try(cases C;done))|(apply bu (fun Z z=>?_) (fun Z z=>?_)<;>try(cases Z;done))|apply aq ?_|(apply zaW fun K hK=>?_)|apply aN ?_|fail)
       all_goals (refine⟨za2,_,za7,?_⟩;try simp only[za0])
       simp only[hq2,hq3]at hc;rw[hc];exact⟨rfl,hf7,hI6⟩
      |true=>
       repeat' (first
        |(apply ai ?_;clear hK K)|apply Rx.o ?_|(apply da (fun C o=>?_) (fun C o=>?_)<;>try(cases C;done))|(apply bu (fun Z z=>?_) (fun Z z=>?_)<;>try(cases Z;done))|(apply zaW fun K hK=>?_)|apply za8 ?_|fail)
       refine⟨U,s5,?_,eE,eE,eE,eE,?_,hf7,hI6⟩
       .simp only[hq2,hq3]at hc;exact hc
       .simp only[iF,Nat.reduceBEq,gy,zcL (show i<2^62 by omega)]
   .have hi3:i=l.length:=by simp at Z;omega
    all_goals (refine⟨za2,_,za7,?_⟩;try simp only[za0])
    rw[hc,hi3];simp only[og,zcn];exact⟨trivial,O,hI2⟩
  .exact⟨s,rfl,eE,eE,eE,eE,eE,gW _ _,hi⟩
end
section
def tyW4c.tyF:=ad @cQ (ad @cW (ad @eK (ad @eA (ad @dX (ad @fj (ad @eJ (ad @gJ (ad @lA (@FY)))))))))
open tyW4c
noncomputable def Ja:{c:SC // aD 24 (Try.f73.body.getD .skip)=c}:=by
 refine⟨?_,?_⟩;rotate_left
 .simp only[Try.f73,bP,aD,zby,zbt,zbA,zbB,Nat.blt,Nat.ble];rfl
noncomputable def Jb:{c:SC // aD 7 (Try.f75.body.getD .skip)=c}:=by
 refine⟨?_,?_⟩;rotate_left
 .simp only[Try.f75,bP,aD,zby,zbt,zbA,zbB,Nat.blt,Nat.ble];rfl
noncomputable def Jc:{c:SC // aD 32 (Try.f111.body.getD .skip)=c}:=by
 refine⟨?_,?_⟩;rotate_left
 .simp only[Try.f111,bP,aD,zby,zbt,zbA,zbB,Nat.blt,Nat.ble];rfl
noncomputable def Jd:{c:SC // aD 15 (Try.f74.body.getD .skip)=c}:=by
 refine⟨?_,?_⟩;rotate_left
 .simp only[Try.f74,bP,aD,zby,zbt,zbA,zbB,Nat.blt,Nat.ble];rfl
theorem Xl{cfg:Cfg}(O:Plain cfg 73){base rn rl:Nat}(Y:rn<base)(J:rl<base)(I:rn≠rl)(m:Hp):
 wq cfg base (fun(s:Int×Int) H=>H.get rn=some (.cells [.int .i64 s.1] 0 true)/\H.get rl=some (.cells [.int .i64 s.2] 0 true)/\∀r,r<base->r≠rn->r≠rl->H.get r=m.get r) 73 [.ptr rn 0,.ptr rl 0] mo:=by
 intro x d s H hz Z ⟨i,g,U⟩;have e1:(rn == H.next)=false:=cc;have e2:(rl == H.next)=false:=cc;have e3:(rl == rn)=false:=cc;have e4:(rn == rl)=false:=cc;have e5:(H.next == rn)=false:=cc;have e6:(H.next == rl)=false:=cc;refine zbs (M:=24) (rs:=[.tmp 6]) (O.call _) O.ice O.froz Try.func73 rfl rfl Ja.2 rfl ?_;dsimp only[Ja,zbj,Nat.reduceAdd];repeat' (first
  |(apply ai ?_;clear hK K)|apply Rx.o ?_|apply bN ?_|(apply da (fun C o=>?_) (fun C o=>?_)<;>try(cases C;done))|(apply bu (fun V z=>?_) (fun V z=>?_)<;>try(cases V;done))|apply aq ?_|(apply zaW fun K hK=>?_)|apply za8 ?_|apply aN ?_)
 all_goals (refine⟨za2,_,za7,?_⟩;try simp only[za0])
 all_goals (refine⟨?_,?_,?_,?_,?_⟩)
 all_goals first
  |(intro r q1 j L;simp only[aC,zaY,j,L,show ¬r=H.next by omega,de];exact U r q1 j L)
  |exact(((gW _ _).alloc _).set (.inr Y) _).set (.inr J) _
  |exact((gW _ _).alloc _).set (.inr Y) _
  |(simp only[get_set,sd,mo, *,gy,nS,zB,gX,oS,fI,gm,cZ,de];done)
  |(simp_all[mo,get_set,sd];done)
  |skip
theorem Xm{cfg:Cfg}(O:Plain cfg 75){base:Nat}{I:Hp->Prop}(Z:rp base I):t4 cfg base I 75 [] pU:=by
 intro x d H j o z;refine zbs (M:=7) (rs:=[.tmp 4]) (O.call _) O.ice O.froz Try.func75 rfl rfl Jb.2 rfl ?_;dsimp only[Jb,zbj,Nat.reduceAdd];repeat' (first
  |(apply ai ?_;clear hK K)|apply Rx.o ?_|apply aq ?_|(apply zaW fun K hK=>?_)|apply aN ?_)
 all_goals (refine⟨za2,_,za7,?_⟩;try simp only[za0])
 exact⟨rfl,(gW _ _).alloc _,Z _ _ z ((nY _ _).alloc o _)⟩
theorem Xn{cfg:Cfg}(hw:Plain cfg 111)(hwe:Plain cfg 78){base L:Nat}(U:base<=L){I:Hp->Prop}(hI:rp base I){g:FuncId}{cap:List AV}{q:Ex->Int->Bool}(hq:t4 cfg base I g cap q)
 {Z:Nat} (hr1:base<=Z) (hr2:Z<L) (H1:Hp) :
 wq cfg L (fun(_:Unit) H=>I H/\H.get Z=some (.cells [.clo g cap] 0 true)/\∀r,base<=r->r<L->H.get r=H1.get r) 111 [.ptr Z 0] (nf q):=by
 intro x d s H hz hbase ⟨hi,hi3,hi1⟩;have hsz:=x.sz_eq;have e1:(Z == H.next)=false:=cc;have e2:(H.next == Z)=false:=cc;refine zbs (M:=32) (rs:=[.tmp 5]) (hw.call _) hw.ice hw.froz Try.func111 rfl rfl Jc.2 rfl ?_;dsimp only[Jc,zbj,Nat.reduceAdd];repeat' (first
  |(apply ai ?_;clear hK K)|apply Rx.o ?_|apply aq ?_|(apply zaW fun K hK=>?_)|fail)
 have hIa:=hI _ _ hi ((nY base H).alloc (cm U hbase) (.cells x.cells 0 true));refine aK rfl aL aM ?_;simp only[aR];refine aI ?_ (t6 hwe hI hq (x.at_.sz+1) x.at_ ac 0 _ ac eU hIa);rintro v J ⟨rfl,hf2,hi2⟩;have hn2:H.next<J.next:=by have:=hf2.next;simp only[zbb]at this;omega
 have hg2:J.get H.next=some (.cells x.cells 0 true):=by rw[hf2.get _ ac (by simp[zbb]),zaY,aj rfl]
 have hr3:J.get Z=some (.cells [.clo g cap] 0 true):=by rw[hf2.get _ hr1 eU,zaY,af ac];exact hi3
 have hF2:FrB base H J:=((gW _ _).alloc _).trans hf2;have V:∀r,base<=r->r<L->J.get r=H1.get r:=fun r h1 h2=>by rw[hF2.get r h1 ac];exact hi1 r h1 h2
 dsimp only[za1];repeat' (first
  |(apply ai ?_;clear hK K)|apply Rx.o ?_|(apply da (fun hg hgp=>?_) (fun hg hgp=>?_)<;>try(cases hg;done))|(apply bu (fun o z=>?_) (fun o z=>?_)<;>try(cases o;done))|apply aq ?_|(apply zaW fun K hK=>?_)|apply aN ?_|fail)
 .refine aK rfl aL aM ?_;simp only[aR];refine aI ?_ (t6 hwe hI hq (x.value.sz+1) x.value ac 0 _ ac ac hi2);rintro v H3 ⟨rfl,m,hi3'⟩;have hn3:H.next<H3.next:=l0 hn2 m.next
  have hg3:H3.get H.next=some (.cells x.cells 0 true):=by rw[m.get _ ac hn2];exact hg2
  have hr3b:H3.get Z=some (.cells [.clo g cap] 0 true):=by rw[m.get _ hr1 ac];exact hr3
  have hF3:FrB base H H3:=hF2.trans m;have j:∀r,base<=r->r<L->H3.get r=H1.get r:=fun r h1 h2=>by rw[m.get r h1 ac];exact V r h1 h2
  dsimp only[za1];repeat' (first
   |(apply ai ?_;clear hK K)|apply Rx.o ?_|(apply da (fun hg hgp=>?_) (fun hg hgp=>?_)<;>try(cases hg;done))|(apply bu (fun o z=>?_) (fun o z=>?_)<;>try(cases o;done))|apply aq ?_|(apply zaW fun K hK=>?_)|apply aO ?_|apply za8 ?_|apply aN ?_|fail)
  .all_goals (refine⟨za2,_,za7,?_⟩;try simp only[za0])
   exact⟨by simp_all[nf],hF3.weak U,hi3',hr3b,j⟩
  have hl:x.args.length<2^60:=by have:=zdH x.args;omega
  refine nT (fun i E J=>zc0 q x.args 0=zc0 q (x.args.drop i) 0/\E.at 2=.ptr Z 0/\E.at 21=.lst (x.args.map Ex.cells)/\E.at 22=.int .i64 x.args.length/\E.at 23=.int .i64 i/\FrB base H J/\I J/\J.get Z=some (.cells [.clo g cap] 0 true)/\(∀r,base<=r->r<L->J.get r=H1.get r)) x.args.length ?_ ?_
  .rintro i E H4 hi2 ⟨hc,h2,h21,h22,h23,hf4,hI4,hr4,Y⟩;have hn4:=hf4.next
   have e3:(Z == H4.next)=false:=cc;repeat' (first
    |(apply ai ?_;clear hK K)|apply Rx.o ?_|(apply bu (fun o z=>?_) (fun o z=>?_)<;>try(cases o;done))|apply aq ?_|(apply zaW fun K hK=>?_)|apply aO ?_|apply za8 ?_|apply aN ?_|apply zbW ?_)
   .have O:i<x.args.length:=by simpa using o
    have hgx:x.args[i]?=some x.args[i]:=aY O;repeat' (first
     |(apply ai ?_;clear hK K)|apply Rx.o ?_|apply bN ?_|apply aq ?_|(apply zaW fun K hK=>?_)|fail)
    have hxm:x.args[i]∈x.args:=dW O;have hsm:=zdJ hxm;have hb4:base<=H4.next:=ac
    generalize hH5:(H4.alloc _).set H4.next _=H5
    have hf5:FrB base H4 H5:=by rw[<-hH5];exact((gW _ _).alloc _).set (.inl (aA _)) _
    have hlow5:gw base H4 H5:=by rw[<-hH5];exact((nY _ _).alloc hb4 _).set hb4 _
    have hn5:H4.next<H5.next:=by rw[<-hH5];simp only[zbb,zbl];omega
    refine aK rfl aL aM ?_;simp only[aR];refine aI ?_ (t6 hwe hI hq (x.args[i].sz+1) x.args[i] ac 0 _ ac ac (hI _ _ hI4 hlow5));rintro v H6 ⟨rfl,hf6,hi6⟩;have hF6:FrB base H4 H6:=hf5.trans hf6;have hr6:H6.get Z=some (.cells [.clo g cap] 0 true):=by rw[hF6.get _ hr1 ac];exact hr4
    have C:∀r,base<=r->r<L->H6.get r=H1.get r:=fun r h1 h2=>by rw[hF6.get r h1 ac];exact Y r h1 h2
    dsimp only[za1];repeat' (first
     |(apply ai ?_;clear hK K)|apply Rx.o ?_|(apply bu (fun o z=>?_) (fun o z=>?_)<;>try(cases o;done))|apply aq ?_|(apply zaW fun K hK=>?_)|apply za8 ?_|apply aN ?_|fail)
    .all_goals (refine⟨za2,_,za7,?_⟩;try simp only[za0])
     refine⟨?_,(hf4.trans hF6).weak U,hi6,hr6,C⟩;have:=yq q O 0;simp_all[nf]
    .refine⟨O,?_,eE,eE,eE,?_,hf4.trans hF6,hi6,hr6,C⟩
     .rw[hc,yq q O];simp_all
     .simp only[iF,Nat.reduceBEq,gy,zcL (show i<2^62 by omega)]
   .have hi3:i=x.args.length:=by simp at o;omega
    all_goals (refine⟨za2,_,za7,?_⟩;try simp only[za0])
    refine⟨?_,hf4.weak U,hI4,hr4,Y⟩;rw[hi3]at hc;simp_all[nf,zc0]
  .exact⟨rfl,eE,eE,eE,eE,hF3,hi3',hr3b,j⟩
 .all_goals (refine⟨za2,_,za7,?_⟩;try simp only[za0])
  exact⟨by simp_all[nf],hF2.weak U,hi2,hr3,V⟩
end
end Go.Proofs.Ytpbcimfiofmoeaa
