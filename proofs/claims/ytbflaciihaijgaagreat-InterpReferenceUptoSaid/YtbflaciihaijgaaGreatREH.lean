/- Lemmas for the last file. -/
import Derived.Test.YtbflaciihaijgaaGreatREG
set_option linter.all false
set_option maxHeartbeats 32000000
namespace Go.Ab
set_option maxRecDepth 20000
open Go
variable{qb:Prop}
def KJ(h:qb:=by rw[List.drop_eq_getElem_cons U,List.all_cons]):=h
def gA(h:qb:=by simp only[bG,br];omega):=h
def tE(h:qb:=by simp[a7]):=h
def bY(h:qb:=by simp only[br];omega):=h
def BT(h:qb:=by rw[O];exact dt):=h
def KK(h:qb:=by rw[hJ,hdr];(try simp only[Bool.not_eq_true',Bool.not_eq_false']at *);simp only[*,decide_true,decide_false,Bool.false_or,Bool.or_false,Bool.true_or,Bool.or_true,Bool.false_and,Bool.and_false,Bool.true_and,Bool.and_true,Bool.not_true,Bool.not_false,if_true,if_false,Int.reduceEq]):=h
def tF(h:qb:=by simp only[];omega):=h
def KL(h:qb:=by show((mZ a (a7 p)).getD []).length < _;rw[FH Z];omega):=h
def Fz(h:qb:=by simp only[AV.sl.injEq]at e;exact e.1.symm):=h
def KM(h:qb:=by rw[List.drop_eq_getElem_cons hlt,List.any_cons]):=h
def KN(h:qb:=by rw[hU hr0,hdU,iB];(try simp only[Bool.not_eq_true',Bool.not_eq_false']at *);simp only[*,decide_true,decide_false,Bool.false_or,Bool.or_false,Bool.true_or,Bool.or_true,Bool.false_and,Bool.and_false,Bool.true_and,Bool.and_true,Bool.not_true,Bool.not_false,if_true,if_false,Int.reduceEq]):=h
def KO(h:qb:=by rw[oy,rh,decide_eq_true e.symm,Bool.or_true]):=h
def KP(h:qb:=by simp only[aK,Nat.reduceBEq, *];exact jV (n:=ns.length) aa aa):=h
def KQ(h:qb:=by rw[o5 _ (nw _ aa) (na _ aa)];exact g4s):=h
def KR(h:qb:=by rw[o5 _ (nw _ aa) (na _ aa)];exact g4b):=h
def KS(h:qb:=by rw[o5 _ (nw _ aa) (na _ aa)];exact g40):=h
def fF:=@cond_true
def wJ:=@decide_eq_false
end Go.Ab
namespace Go.Proofs.YtbflaciihaijgaaGreat
set_option maxRecDepth 20000
open Go Go.Ab Proofs.Tryz
variable(ρ:Nat->Int)
variable{H:Hp}{v w a:AV}{lo V:Nat}{f:Fu}
section
def tyR3f.tyF:=ac @dF (ac @cI (ac @cY (ac @fg (ac @fh (ac @eL (ac @dW (ac @dR (ac @dX (ac @dy (ac @ge (ac @iW (@eD))))))))))))
open tyR3f
noncomputable def KT:{c:SC // aG 34 (f146.body.getD .skip)=c}:=by
 refine⟨?_,?_⟩;rotate_left
 .simp only[f146,bE,aG,bz,bq,bF,bB,Nat.blt,Nat.ble];rfl
noncomputable def KU:{c:SC // aG 66 (f94.body.getD .skip)=c}:=by
 refine⟨?_,?_⟩;rotate_left
 .simp only[f94,bE,aG,bz,bq,bF,bB,Nat.blt,Nat.ble];rfl
mutual
def k5:St->Bool
 | .mk k C S n a v j U V=>iN (.mk k C S n a v j U V)&&eW U&&eW V
def eW:qt->Bool
 |[]=>true
 |x::l=>k5 x&&eW l
end
theorem yY(x:St):k5 x=(iN x&&eW x.a1&&eW x.bh):=by cases x;rw[k5];rfl
noncomputable def BU:En:=⟨186,false,bS (fun x=>x.sz<2^60) vl fun x=>.bool (iN x)⟩
def WM:cS prog ρ BU:=cZ fun x hx=>WL ρ x hx
def WN:∀x:qt,a6 x<2^60->bJ prog ρ 146 (lP x) (.bool (eW x)):=
 u7 fit (pls:=pls) (l:=[BU]) ⟨WM ρ,trivial⟩ (fun x=>a6 x) (ok:=fun x=>a6 x<2^60) (enc:=lP) (out:=fun x=>.bool (eW x)) (fun x _=>.cons (wy _) .nil) (fun x _=>.bool _) (fun x hx=>by
 have J:=sa (sz:=fun x:qt=>a6 x) (ok:=fun x=>a6 x<2^60) (out:=fun x=>.bool (eW x)) wH (f:=146) (l:=[BU]) x;generalize F:(⟨146,false,bS (fun y=>a6 y<2^60/\a6 y<a6 x) lP fun x=>.bool (eW x)⟩:En)::[BU]=l at J⊢;have kr:∀(y:qt),a6 y<a6 x->∀H,aU prog (aF pls l) 146 [.ai (y.map St.cells)] H fun v H'=>v=.bool (eW y)/\H'=H:=fun y m H=>by
  subst F;exact cp (enc:=lP) (out:=fun x=>.bool (eW x)) wH (x:=y) rfl ⟨aa,m⟩
 have kd:∀y:St,y.sz<2^60->∀H,aU prog (aF pls l) 186 [.agg y.cells] H fun v H'=>v=.bool (iN y)/\H'=H:=fun y o H=>by
  subst F;exact cp (enc:=vl) (out:=fun x=>.bool (iN x)) KG (x:=y) rfl o
 have A:=mS x;change aU _ _ _ [.ai (x.map St.cells)] _ _;refine a5 (M:=34) (rs:=[.tmp 2]) J.call J.ao J.am func146 rfl rfl KT.2 rfl ?_;dsimp only[KT,a3,Nat.reduceAdd];repeat' (first
  |(apply ai ?_;clear hK K)|apply Rx.o ?_|(apply aX (fun C Y=>?_) (fun C Y=>?_)<;>try(cases C;done))|(apply aE (fun z V=>?_) (fun z V=>?_)<;>try(cases z;done))|apply ae ?_|(apply ah fun K hK=>?_)|apply aj ?_|apply ak ?_|apply am ?_|apply ax ?_)
 refine dG [0] [] 3 x.length (fun i E H=>eW x=eW (x.drop i)) eE aI ?_;rintro i E H2 hi U S O hsI I;(try simp only[bL,bK,bb,aK,aW,Nat.reduceBEq,Nat.reduceAdd,Nat.reduceLeDiff,tyF, *]at U);(try simp only[bL,bK,bb,aK,aW,Nat.reduceBEq,Nat.reduceAdd,Nat.reduceLeDiff,tyF, *]at S);(try simp only[br,bG,cR,bR,Nat.reduceAdd]at O);repeat' (first
  |(apply ai ?_;clear hK K)|apply Rx.o ?_|(apply aX (fun C Y=>?_) (fun C Y=>?_)<;>try(cases C;done))|(apply aE (fun z V=>?_) (fun z V=>?_)<;>try(cases z;done))|apply ae ?_|(apply ah fun K hK=>?_)|apply aj ?_|apply ak ?_|apply am ?_|apply ax ?_)
 .have Z:i<x.length:=by simpa using z
  have hgx:x[i]?=some x[i]:=bt Z;have hsm:=l9 (ek Z);have hsz:=x[i].aJ;have j:eW (x.drop i)=(k5 x[i]&&eW (x.drop (i+1))):=pX;rw[yY]at j;repeat' (first
   |(apply ai ?_;clear hK K)|apply Rx.o ?_|(apply dJ ?_;first|refine aY (kd _ aa _) ?_|refine aY (kr _ aa _) ?_)|(apply aX (fun C Y=>?_) (fun C Y=>?_)<;>try(cases C;done))|(apply aE (fun z V=>?_) (fun z V=>?_)<;>try(cases z;done))|apply ae ?_|(apply ah fun K hK=>?_)|apply aj ?_|apply ak ?_|apply am ?_|apply ax ?_)
  all_goals (first|(refine⟨aC,_,aJ,?_⟩;(try simp only[aB]);rw[I,j];(try simp only[cq]at *);simp only[ *,cr,bw,bH,Int.reduceEq];done)|skip)
  refine⟨aa,bM,bM,dr,tw,?_⟩;rw[I,j];(try simp only[cq]at *);simp only[ *,cr,bw,bH,Int.reduceEq]
 .all_goals refine qq ?_
  rw[I,show i=x.length by simp at z;omega];simp[eW])
noncomputable def KV:En:=⟨146,false,bS (fun x=>a6 x<2^60) lP fun x=>.bool (eW x)⟩
def WO:cS prog ρ KV:=cZ fun x hx=>WN ρ x hx
noncomputable def wK:qu:=[BS,Fy,KV]
def WP:eU prog ρ wK:=⟨Fv ρ,KI ρ,WO ρ,trivial⟩
theorem FA:∀{l:List Ar}{a:Ar},a∈l->a.name.length<ez l
 |[],_,h=>by simp at h
 |e::es,x,h=>by
  rcases fY.1 h with rfl|h
  .simp only[ez];omega
  .have:=FA h;simp only[ez];omega
def sh(f:Fu):qo:=[f.name]++f.params++f.ah
def kD(f:Fu):Bool:=(sh f).all cX&&eW f.body&&eB f.value
def gY(p:Pr):Bool:=p.af.all (fun a=>cX a.name)&&p.funcs.all kD
def BV(H:Hp)(s:qr):dc prog H 66 1 [(0,.ae s)]=some (.sl H.next 0 1 1,H.alloc (.cells [.ae s] 0 true)):=aA
abbrev qc:HB:=.cells [] 0 true
def KW(H:Hp):dc prog H 66 0 []=some (.sl H.next 0 0 1,H.alloc qc):=aA
theorem WQ(p:Pr)(hz:p.sz<2^36):bJ prog ρ 94 [.agg p.cells] (.bool (gY p)):=eG fit (pls:=pls) (WP ρ) (.cons (.agg p.pure) .nil) (.bool _) (by
 have hw:zc7 (aF pls wK) 94:=dZ (fun _=>rfl) rfl;have m:(aF pls wK).aj 94=false:=rfl;have kv:∀s:qr,s.length<2^60->∀H,aU prog (aF pls wK) 40 [.ae s] H fun v H'=>v=.bool (cX s)/\H'=H:=fun s h1 H=>cp (enc:=md) (out:=fun x=>.bool (cX x)) vh (x:=s) rfl h1;have kw:∀y:Ex,y.sz<2^60->∀H,aU prog (aF pls wK) 147 [.agg y.cells] H fun v H'=>v=.bool (eB y)/\H'=H:=fun y h1 H=>cp (enc:=i4) (out:=fun x=>.bool (eB x)) ph (x:=y) rfl h1;have ks:∀y:qt,a6 y<2^60->∀H,aU prog (aF pls wK) 146 [.ai (y.map St.cells)] H fun v H'=>v=.bool (eW y)/\H'=H:=fun y h1 H=>cp (enc:=lP) (out:=fun x=>.bool (eW x)) wH (x:=y) rfl h1;have hpz:p.sz=1+ez p.af+dY p.funcs:=rfl;have hla:=lJ p.af;have hlf:=lI p.funcs;refine a5 (M:=66) (rs:=[.tmp 2]) (hw.call _) hw.ao hw.am func94 rfl rfl KU.2 rfl ?_;dsimp only[KU,a3,Nat.reduceAdd];repeat' (first
  |(apply ai ?_;clear hK K)|apply Rx.o ?_|apply aN ?_|(apply aX (fun C Y=>?_) (fun C Y=>?_)<;>try(cases C;done))|(apply aE (fun z V=>?_) (fun z V=>?_)<;>try(cases z;done))|apply ae ?_|(apply ah fun K hK=>?_)|(apply aq 10 [(1,5),(2,5),(4,5),(7,5),(7,8)] fun K hK=>?_)|(apply aM ?_;try intro _)|(apply aR ?_ ?_<;>clear hK K)|apply aL ?_|apply aj ?_|apply ak ?_|apply am ?_|apply ax ?_)
 refine dG [1] [0] 3 p.af.length (fun i E H=>p.af.all (fun a=>cX a.name)=(p.af.drop i).all (fun a=>cX a.name)) eE aI ?_;rintro i E Z hi J O F hsI hJ;(try simp only[bL,bK,bb,aK,aW,Nat.reduceBEq,Nat.reduceAdd,Nat.reduceLeDiff,tyF, *]at J);(try simp only[bL,bK,bb,aK,aW,Nat.reduceBEq,Nat.reduceAdd,Nat.reduceLeDiff,tyF, *]at O);(try simp only[br,bG,cR,bR,Nat.reduceAdd]at F);have hB0:(0 == Z.next)=false:=ay aa;have hC0:(Z.next == 0)=false:=ay aa;repeat' (first
  |(apply ai ?_;clear hK K)|apply Rx.o ?_|apply aN ?_|(apply aX (fun C Y=>?_) (fun C Y=>?_)<;>try(cases C;done))|(apply aE (fun z V=>?_) (fun z V=>?_)<;>try(cases z;done))|apply ae ?_|(apply ah fun K hK=>?_)|(apply aq 10 [(1,5),(2,5),(4,5),(7,5),(7,8)] fun K hK=>?_)|(apply aM ?_;try intro _)|(apply aR ?_ ?_<;>clear hK K)|apply aL ?_|apply aj ?_|apply ak ?_|apply am ?_|apply ax ?_)
 .have U:i<p.af.length:=by simpa using z
  have hgx:p.af[i]?=some p.af[i]:=bt U;have S:(p.af.drop i).all (fun a=>cX a.name)=(cX p.af[i].name&&(p.af.drop (i+1)).all (fun a=>cX a.name)):=KJ;have hsm:p.af[i].name.length<ez p.af:=FA (ek U);repeat' (first
   |(apply ai ?_;clear hK K)|apply Rx.o ?_|apply aN ?_|(apply dJ ?_;first|refine aY (kv _ aa _) ?_)|(apply aX (fun C Y=>?_) (fun C Y=>?_)<;>try(cases C;done))|(apply aE (fun z V=>?_) (fun z V=>?_)<;>try(cases z;done))|apply ae ?_|(apply ah fun K hK=>?_)|(apply aq 10 [(1,5),(2,5),(4,5),(7,5),(7,8)] fun K hK=>?_)|(apply aM ?_;try intro _)|(apply aR ?_ ?_<;>clear hK K)|apply aL ?_|apply aj ?_|apply ak ?_|apply am ?_|apply ax ?_)
  all_goals (first|(refine⟨aC,_,aJ,?_⟩;(try simp only[aB]);rw[gY,hJ,S];(try simp only[cq]at *);simp only[ *,cr,bw,bH,Int.reduceEq];done)|skip)
  refine⟨aa,bM,bM,dr,vd,?_⟩;rw[hJ,S];(try simp only[cq]at *);simp only[ *,cr,bw,bH,Int.reduceEq]
 .have hie:i=p.af.length:=by simp at z;omega
  rw[hie,gy,pY]at hJ;clear z hie hsI hi;refine dG [1] [0] 4 p.funcs.length (fun i E H=>p.funcs.all kD=(p.funcs.drop i).all kD) eE aI ?_;rintro i E Z hi J O F hsI A;(try simp only[bL,bK,bb,aK,aW,Nat.reduceBEq,Nat.reduceAdd,Nat.reduceLeDiff,tyF, *]at J);(try simp only[bL,bK,bb,aK,aW,Nat.reduceBEq,Nat.reduceAdd,Nat.reduceLeDiff,tyF, *]at O);(try simp only[br,bG,cR,bR,Nat.reduceAdd]at F);have hB0:(0 == Z.next)=false:=ay aa;have hC0:(Z.next == 0)=false:=ay aa;repeat' (first
   |(apply ai ?_;clear hK K)|apply Rx.o ?_|apply aN ?_|(apply aX (fun C Y=>?_) (fun C Y=>?_)<;>try(cases C;done))|(apply aE (fun z V=>?_) (fun z V=>?_)<;>try(cases z;done))|apply ae ?_|(apply ah fun K hK=>?_)|(apply aq 10 [(1,5),(2,5),(4,5),(7,5),(7,8)] fun K hK=>?_)|(apply aM ?_;try intro _)|(apply aR ?_ ?_<;>clear hK K)|apply aL ?_|apply aj ?_|apply ak ?_|apply am ?_|apply ax ?_)
  .have U:i<p.funcs.length:=by simpa using z
   have hgx:p.funcs[i]?=some p.funcs[i]:=bt U;have S:(p.funcs.drop i).all kD=(kD p.funcs[i]&&(p.funcs.drop (i+1)).all kD):=KJ;rw[kD]at S;have hsm:=nX (ek U);have hsz:p.funcs[i].sz=1+p.funcs[i].name.length+db p.funcs[i].params+db p.funcs[i].ah+a6 p.funcs[i].body+p.funcs[i].value.sz:=rfl;have gh0:=@BV;repeat' (first
    |(apply ai ?_;clear hK K)|apply Rx.o ?_|apply aN ?_|(apply aX (fun C Y=>?_) (fun C Y=>?_)<;>try(cases C;done))|(apply aE (fun z V=>?_) (fun z V=>?_)<;>try(cases z;done))|apply ae ?_|(apply ah fun K hK=>?_)|(apply aq 10 [(1,5),(2,5),(4,5),(7,5),(7,8)] fun K hK=>?_)|(apply aM ?_;try intro _)|(apply aR ?_ ?_<;>clear hK K)|apply aL ?_|apply aj ?_|apply ak ?_|apply am ?_|apply ax ?_)
   generalize I:Hp.alloc _ (HB.cells [AV.ae p.funcs[i].name] 0 true)=H4;have n4:H4.next=Z.next+2:=by rw[<-I];rfl
   have g4:H4.get Z.next=some (.cells p.funcs[i].cells 0 true):=by rw[<-I];clear I;exact yL
   have g40:H4.get 0=some (.cells p.cells 0 true):=by
    rw[<-I,aP,ad gA,aO,ad aa,aP,ad aa];exact O
   have g41:H4.get (Z.next+1)=some (.cells [.ae p.funcs[i].name] 0 true):=by rw[<-I];clear I;exact yL
   have s4:dH H4 (.sl (Z.next+1) 0 1 1) [p.funcs[i].name] (Z.next+1):=⟨Z.next+1,0,rfl,g41,aI,aT _,aa⟩;have hpl:=ig p.funcs[i].params;have hll:=ig p.funcs[i].ah;obtain⟨v5,H5,dt,s5,n5,f5,_⟩:=tB p.funcs[i].params s4 aa ce;have g5:H5.get Z.next=some (.cells p.funcs[i].cells 0 true):=by rw[f5 _ (dq _)];exact g4
   have g50:H5.get 0=some (.cells p.cells 0 true):=by rw[f5 _ aa];exact g40
   refine jF dK dK (by rw[m];exact dt) ?_;repeat' (first
    |(apply ai ?_;clear hK K)|apply Rx.o ?_|apply aN ?_|(apply aX (fun C Y=>?_) (fun C Y=>?_)<;>try(cases C;done))|(apply aE (fun z V=>?_) (fun z V=>?_)<;>try(cases z;done))|apply ae ?_|(apply ah fun K hK=>?_)|(apply aq 10 [(1,5),(2,5),(4,5),(7,5),(7,8)] fun K hK=>?_)|(apply aM ?_;try intro _)|(apply aR ?_ ?_<;>clear hK K)|apply aL ?_|apply aj ?_|apply ak ?_|apply am ?_|apply ax ?_)
   obtain⟨v6,H6,fD,s6,n6,f6,_⟩:=tB p.funcs[i].ah s5 aa ce;have g6:H6.get Z.next=some (.cells p.funcs[i].cells 0 true):=by rw[f6 _ (dq _)];exact g5
   have g60:H6.get 0=some (.cells p.cells 0 true):=by rw[f6 _ aa];exact g50
   refine jF dK dK (by rw[m];exact fD) ?_;repeat' (first
    |(apply ai ?_;clear hK K)|apply Rx.o ?_|apply aN ?_|(apply aX (fun C Y=>?_) (fun C Y=>?_)<;>try(cases C;done))|(apply aE (fun z V=>?_) (fun z V=>?_)<;>try(cases z;done))|apply ae ?_|(apply ah fun K hK=>?_)|(apply aq 10 [(1,5),(2,5),(4,5),(7,5),(7,8)] fun K hK=>?_)|(apply aM ?_;try intro _)|(apply aR ?_ ?_<;>clear hK K)|apply aL ?_|apply aj ?_|apply ak ?_|apply am ?_|apply ax ?_)
   .exact di
   .have s6':dH H6 v6 (sh p.funcs[i]) (Z.next+1):=s6;have hfl:(sh p.funcs[i]).length<2^61:=by simp[sh];omega
    have hfm:∀s∈sh p.funcs[i],s.length<2^60:=fun s hs=>by
     rcases nN.1 hs with hs|hs
     .rcases nN.1 hs with hs|hs
      .simp at hs;subst hs;omega
      .have:=Bw hs;omega
     .have:=Bw hs;omega
    clear s6 fD f6 dt f5 s5 s4;generalize sh p.funcs[i]=ns at *;have hln:=fun H'=>s6'.len (H':=H');refine dG [1,4,5,6] [0,Z.next] 7 ns.length (fun j E H=>ns.all cX=(ns.drop j).all cX/\dH H v6 ns (Z.next+1)) eE ⟨aI,s6'⟩ ?_;rintro j E3 H3 hj J O F hsI ⟨o,s7⟩;(try simp only[bL,bK,bb,aK,aW,Nat.reduceBEq,Nat.reduceAdd,Nat.reduceLeDiff,tyF,g6,g60, *]at J);(try simp only[bL,bK,bb,aK,aW,Nat.reduceBEq,Nat.reduceAdd,Nat.reduceLeDiff,tyF,g6,g60, *]at O);(try simp only[br,bG,cR,bR,Nat.reduceAdd]at F);have hB0:(0 == H3.next)=false:=ay aa;have hC0:(H3.next == 0)=false:=ay aa;have hB1:(Z.next == H3.next)=false:=ay aa;have hC1:(H3.next == Z.next)=false:=ay aa;repeat' (first
     |(apply ai ?_;clear hK K)|apply Rx.o ?_|apply aN ?_|(apply dJ ?_;first|refine aY (kw _ aa _) ?_|refine aY (ks _ aa _) ?_)|(apply aX (fun C Y=>?_) (fun C Y=>?_)<;>try(cases C;done))|(apply aE (fun z V=>?_) (fun z V=>?_)<;>try(cases z;done))|apply ae ?_|(apply ah fun K hK=>?_)|(apply aq 10 [(1,5),(2,5),(4,5),(7,5),(7,8)] fun K hK=>?_)|(apply aM ?_;try intro _)|(apply aR ?_ ?_<;>clear hK K)|apply aL ?_|apply aj ?_|apply ak ?_|apply am ?_|apply ax ?_)
    .have hlt2:j<ns.length:=by simpa using z
     obtain⟨q,ia,ld⟩:=s7.at hlt2;have hdr2:(ns.drop j).all cX=(cX ns[j]&&(ns.drop (j+1)).all cX):=by rw[fR hlt2,r4]
     have hq:=hfm _ (ek hlt2);repeat' (first
      |(apply ai ?_;clear hK K)|apply Rx.o ?_|apply aN ?_|(apply dJ ?_;first|refine aY (kv _ hq _) ?_)|(apply aX (fun C Y=>?_) (fun C Y=>?_)<;>try(cases C;done))|(apply aE (fun z V=>?_) (fun z V=>?_)<;>try(cases z;done))|apply ae ?_|(apply ah fun K hK=>?_)|(apply aq 10 [(1,5),(2,5),(4,5),(7,5),(7,8)] fun K hK=>?_)|(apply aM ?_;try intro _)|(apply aR ?_ ?_<;>clear hK K)|apply aL ?_|apply aj ?_|apply ak ?_|apply am ?_|apply ax ?_)
     all_goals (first|(refine⟨aC,_,aJ,?_⟩;(try simp only[aB]);rw[gY,hJ,A,S,o,hdr2];(try simp only[cq]at *);simp only[ *,cr,bw,bH,Int.reduceEq];done)|skip)
     refine⟨aa,bM,bM,dr,KP,?_⟩;exact⟨by rw[o,hdr2];(try simp only[cq]at *);simp only[ *,cr,bw,bH,Int.reduceEq],s7⟩
    all_goals
     have hje:j=ns.length:=aa;rw[hje,gy,pY]at o
    all_goals (first|(refine⟨aC,_,aJ,?_⟩;(try simp only[aB]);rw[gY,hJ,A,S,o];(try simp only[cq]at *);simp only[ *,cr,bw,bH,Int.reduceEq];done)|skip)
    refine⟨aa,bM,bM,dr,o0,?_⟩;rw[A,S,o];(try simp only[cq]at *);simp only[ *,cr,bw,bH,Int.reduceEq]
  .all_goals refine qq ?_
   have hie:i=p.funcs.length:=r3;rw[hie,gy,pY]at A;rw[gY,hJ,A];(try simp only[cq]at *);simp only[ *,cr,bw,bH,Int.reduceEq])
end
section
def tyR3g.tyF:=ac @cI (ac @cY (ac @fg (ac @fh (ac @eL (ac @dW (ac @dR (ac @dy (ac @ge (ac @iW (ac @BV (@KW)))))))))))
open tyR3g
noncomputable def KX:{c:SC // aG 85 (f95.body.getD .skip)=c}:=by
 refine⟨?_,?_⟩;rotate_left
 .simp only[f95,bE,aG,bz,bq,bF,bB,Nat.blt,Nat.ble];rfl
def cT:qo->qo->Bool
 |_,[]=>false
 |seen,s::l=>bC seen s||cT (seen++[s]) l
def si(S:qo):qo->qG->Bool
 |_,[]=>false
 |seen,f::fs=>bC seen f.name||cT S (f.params++f.ah)||si S (seen++[f.name]) fs
def a7(p:Pr):qo:=p.af.map (·.name)
def kE(p:Pr):Bool:=cT [] (a7 p)||si (a7 p) [] p.funcs
def sj{A:Type}(l seen:List A)(i:Nat):Prop:=l=seen++l.drop i
def KY{A:Type}{l seen:List A}{i:Nat}(h:i<l.length)(e:sj l seen i):sj l (seen++[l[i]]) (i+1):=by
 unfold sj at *;rw[kP,DZ,<-fR h];exact e
theorem WR(p:Pr)(hz:p.sz<2^36):bJ prog ρ 95 [.agg p.cells] (.bool (kE p)):=eG fit (pls:=pls) (l:=[rb]) ⟨Fi ρ,trivial⟩ (.cons (.agg p.pure) .nil) (.bool _) (by
 have hw:zc7 (aF pls [rb]) 95:=dZ (fun _=>rfl) rfl;have O:(aF pls [rb]).aj 95=false:=rfl;have hpz:p.sz=1+ez p.af+dY p.funcs:=rfl;have hla:=lJ p.af;have hlf:=lI p.funcs;have hal:(a7 p).length=p.af.length:=tE;refine a5 (M:=85) (rs:=[.tmp 2]) (hw.call _) hw.ao hw.am func95 rfl rfl KX.2 rfl ?_;dsimp only[KX,a3,Nat.reduceAdd];repeat' (first
  |(apply ai ?_;clear hK K)|apply Rx.o ?_|apply aN ?_|(apply aE (fun z V=>?_) (fun z V=>?_)<;>try(cases z;done))|apply ae ?_|(apply ah fun K hK=>?_)|(apply aq 16 [(0,3),(2,3),(5,3),(5,6)] fun K hK=>?_)|(apply aM ?_;try intro _)|(apply aR ?_ ?_<;>clear hK K)|apply aL ?_|apply aj ?_|apply ak ?_|apply am ?_|apply ax ?_)
 refine dG [1] [0] 5 p.af.length (fun i E H=>E.at 4=.ab/\∃v seen,E.at 3=v/\em H v seen 1/\cT [] (a7 p)=cT seen ((a7 p).drop i)/\sj (a7 p) seen i) eE ⟨eE,.ab,[],eE,.inl ⟨rfl,rfl⟩,aI,by simp[sj]⟩ ?_;rintro i E H2 hi hcE I hnH hsI ⟨kK,v,seen,lT,s2,hJ,hsn⟩;(try simp only[bL,bK,bb,aK,aW,Nat.reduceBEq,Nat.reduceAdd,Nat.reduceLeDiff,tyF, *]at hcE);(try simp only[bL,bK,bb,aK,aW,Nat.reduceBEq,Nat.reduceAdd,Nat.reduceLeDiff,tyF, *]at I);(try simp only[br,bG,cR,bR,Nat.reduceAdd]at hnH);have hB0:(0 == H2.next)=false:=ay aa;have hC0:(H2.next == 0)=false:=ay aa;have hsl:seen.length<=p.af.length:=by have:a7 p=seen++(a7 p).drop i:=hsn;have:=lB List.length this;rw[lA]at this;omega
 repeat' (first
  |(apply ai ?_;clear hK K)|apply Rx.o ?_|apply aN ?_|(apply aE (fun z V=>?_) (fun z V=>?_)<;>try(cases z;done))|apply ae ?_|(apply ah fun K hK=>?_)|(apply aq 16 [(0,3),(2,3),(5,3),(5,6)] fun K hK=>?_)|(apply aM ?_;try intro _)|(apply aR ?_ ?_<;>clear hK K)|apply aL ?_|apply aj ?_|apply ak ?_|apply am ?_|apply ax ?_)
 .have hlt:i<p.af.length:=by simpa using z
  have hgx:p.af[i]?=some p.af[i]:=bt hlt;have hgn:(a7 p)[i]' aa=p.af[i].name:=tE;have hdr:cT seen ((a7 p).drop i)=(bC seen p.af[i].name||cT (seen++[p.af[i].name]) ((a7 p).drop (i+1))):=by rw[fR aa,hgn];rfl
  have hsn2:=KY aa hsn;rw[hgn]at hsn2;repeat' (first
   |(apply ai ?_;clear hK K)|apply Rx.o ?_|apply aN ?_|(apply aE (fun z V=>?_) (fun z V=>?_)<;>try(cases z;done))|apply ae ?_|(apply ah fun K hK=>?_)|(apply aq 16 [(0,3),(2,3),(5,3),(5,6)] fun K hK=>?_)|(apply aM ?_;try intro _)|(apply aR ?_ ?_<;>clear hK K)|apply aL ?_|apply aj ?_|apply ak ?_|apply am ?_|apply ax ?_)
  refine qa ?_;refine a4 ?_ (Fj (fun _=>rfl) rfl s2 aa p.af[i].name);rintro w H3 ⟨rfl,s3,n3,f3,o3⟩;have m3:H2.next<=H3.next:=aa
  clear n3;dsimp only[a0];have g30:H3.get 0=some (.cells p.cells 0 true):=by rw[f3 0 aa];exact I
  have e1:(0 == H3.next)=false:=ce;have s4:em (H3.alloc (.cells [.ae p.af[i].name] 0 true)) v seen 1:=s3.aj (eT _) fun k o=>by rw[aP,ad (by have:=s3.lt o;omega)]
  repeat' (first
   |(apply ai ?_;clear hK K)|apply Rx.o ?_|apply aN ?_|(apply aE (fun z V=>?_) (fun z V=>?_)<;>try(cases z;done))|apply ae ?_|(apply ah fun K hK=>?_)|(apply aq 16 [(0,3),(2,3),(5,3),(5,6)] fun K hK=>?_)|(apply aM ?_;try intro _)|(apply aR ?_ ?_<;>clear hK K)|apply aL ?_|apply aj ?_|apply ak ?_|apply am ?_|apply ax ?_)
  .all_goals refine qq ?_
   rw[kE,hJ,hdr];(try simp only[cq]at *);simp only[ *,cr,bw,bH,Int.reduceEq]
  .obtain⟨v5,H5,dt,s5,n5,f5,o5⟩:=wG (r:=H3.next) (imm:=0) p.af[i].name s4 bY fN aa;have g50:H5.get 0=some (.cells p.cells 0 true):=by rw[f5 0 aa,aP,ad aa];exact g30
   simp only[br]at n5;have m5:H3.next+1<=H5.next:=aa
   clear n5;refine jF dK dK BT ?_;repeat' (first
    |(apply ai ?_;clear hK K)|apply Rx.o ?_|apply aN ?_|(apply aE (fun z V=>?_) (fun z V=>?_)<;>try(cases z;done))|apply ae ?_|(apply ah fun K hK=>?_)|(apply aq 16 [(0,3),(2,3),(5,3),(5,6)] fun K hK=>?_)|(apply aM ?_;try intro _)|(apply aR ?_ ?_<;>clear hK K)|apply aL ?_|apply aj ?_|apply ak ?_|apply am ?_|apply ax ?_)
   refine⟨aa,bM,bM,dr,vd,?_⟩;exact⟨eE,v5,seen++[p.af[i].name],eE,.inr s5,KK,hsn2⟩
 .have hie:i=(a7 p).length:=by simp at z;omega
  unfold sj at hsn;rw[hie,gy]at hJ hsn;rw[iS]at hsn;have hJ':cT [] (a7 p)=false:=hJ;rw[<-hsn]at s2;clear hJ hie hsI hi hsl hsn;clear seen;have c3:∀k,dk v k->k<H2.next:=fun k o=>(s2.lt o).2
  refine dG [1,3] [0] 6 p.funcs.length (fun i E H=>∃u seen,E.at 4=u/\em H u seen H2.next/\em H v (a7 p) 1/\si (a7 p) [] p.funcs=si (a7 p) seen (p.funcs.drop i)/\seen.length=i) eE ⟨.ab,[],eE,.inl ⟨rfl,rfl⟩,s2,aI,rfl⟩ ?_;rintro i E F hi hcE I hnH hsI ⟨u,seen,k4',s4,t4,hJ2,hsl⟩;(try simp only[bL,bK,bb,aK,aW,Nat.reduceBEq,Nat.reduceAdd,Nat.reduceLeDiff,tyF, *]at hcE);(try simp only[bL,bK,bb,aK,aW,Nat.reduceBEq,Nat.reduceAdd,Nat.reduceLeDiff,tyF, *]at I);(try simp only[br,bG,cR,bR,Nat.reduceAdd]at hnH);have hB0:(0 == F.next)=false:=ay aa;have hC0:(F.next == 0)=false:=ay aa;repeat' (first
   |(apply ai ?_;clear hK K)|apply Rx.o ?_|apply aN ?_|(apply aE (fun z V=>?_) (fun z V=>?_)<;>try(cases z;done))|apply ae ?_|(apply ah fun K hK=>?_)|(apply aq 16 [(0,3),(2,3),(5,3),(5,6)] fun K hK=>?_)|(apply aM ?_;try intro _)|(apply aR ?_ ?_<;>clear hK K)|apply aL ?_|apply aj ?_|apply ak ?_|apply am ?_|apply ax ?_)
  .have hlt:i<p.funcs.length:=by simpa using z
   have hgx:p.funcs[i]?=some p.funcs[i]:=bt hlt;have hsm:=nX (ek hlt);have hsz:p.funcs[i].sz=1+p.funcs[i].name.length+db p.funcs[i].params+db p.funcs[i].ah+a6 p.funcs[i].body+p.funcs[i].value.sz:=rfl;have hdr:si (a7 p) seen (p.funcs.drop i)=(bC seen p.funcs[i].name||cT (a7 p) (p.funcs[i].params++p.funcs[i].ah)||si (a7 p) (seen++[p.funcs[i].name]) (p.funcs.drop (i+1))):=by rw[fR hlt];rfl
   repeat' (first
    |(apply ai ?_;clear hK K)|apply Rx.o ?_|apply aN ?_|(apply aE (fun z V=>?_) (fun z V=>?_)<;>try(cases z;done))|apply ae ?_|(apply ah fun K hK=>?_)|(apply aq 16 [(0,3),(2,3),(5,3),(5,6)] fun K hK=>?_)|(apply aM ?_;try intro _)|(apply aR ?_ ?_<;>clear hK K)|apply aL ?_|apply aj ?_|apply ak ?_|apply am ?_|apply ax ?_)
   generalize hHb:Hp.set (Hp.alloc F _) F.next _=Hb
   have nb:F.next<Hb.next:=by rw[<-hHb];exact dq _
   have oldb:∀k,k<F.next->Hb.get k=F.get k:=fun k o=>by rw[<-hHb,aO,ad aa,aP,ad aa]
   have gb:Hb.get F.next=some (.cells p.funcs[i].cells 0 true):=by rw[<-hHb,aO,au rfl]
   have gb0:Hb.get 0=some (.cells p.cells 0 true):=by rw[oldb 0 aa];exact I
   have s4b:em Hb u seen H2.next:=s4.aj aa fun k o=>oldb k (s4.lt o).2
   have t4b:em Hb v (a7 p) 1:=t4.aj aa fun k o=>oldb k (t4.lt o).2;have nou:¬dk u F.next:=fun h=>by have:=(s4.lt h).2;omega
   clear hHb;refine qa ?_;refine a4 ?_ (Fj (fun _=>rfl) rfl s4b aa p.funcs[i].name);rintro w H5 ⟨rfl,s5,n5,f5,o5⟩;have m5:Hb.next<=H5.next:=aa
   clear n5;dsimp only[a0];have g5:H5.get F.next=some (.cells p.funcs[i].cells 0 true):=by rw[o5 _ nou];exact gb
   have g50:H5.get 0=some (.cells p.cells 0 true):=by rw[f5 0 aa];exact gb0
   have t5:em H5 v (a7 p) 1:=t4b.aj aa fun k o=>f5 k (c3 k o);have e5:(F.next == H5.next)=false:=ce;repeat' (first
    |(apply ai ?_;clear hK K)|apply Rx.o ?_|apply aN ?_|(apply aE (fun z V=>?_) (fun z V=>?_)<;>try(cases z;done))|apply ae ?_|(apply ah fun K hK=>?_)|(apply aq 16 [(0,3),(2,3),(5,3),(5,6)] fun K hK=>?_)|(apply aM ?_;try intro _)|(apply aR ?_ ?_<;>clear hK K)|apply aL ?_|apply aj ?_|apply ak ?_|apply am ?_|apply ax ?_)
   .all_goals refine qq ?_
    rw[kE,hJ',hJ2,hdr];(try simp only[cq]at *);simp only[ *,cr,bw,bH,Int.reduceEq]
   have old5:∀k,k<H5.next->(H5.alloc (.cells [.ae p.funcs[i].name] 0 true)).get k=H5.get k:=fun k o=>fX
   have s5b:em (H5.alloc (.cells [.ae p.funcs[i].name] 0 true)) u seen H2.next:=s5.aj (eT _) fun k o=>old5 k (s5.lt o).2
   obtain⟨u6,A,fD,s6,n6,f6,o6⟩:=wG (r:=H5.next) (imm:=0) p.funcs[i].name s5b bY fN aa;simp only[br]at n6;have m6:H5.next+2<=A.next:=aa
   clear n6;have g6:A.get F.next=some (.cells p.funcs[i].cells 0 true):=by rw[o6.1 _ bY nou,old5 _ aa];exact g5
   have g60:A.get 0=some (.cells p.cells 0 true):=by rw[f6 0 aa,old5 _ aa];exact g50
   have t6:em A v (a7 p) 1:=t5.aj aa fun k o=>by rw[f6 k (c3 k o),old5 _ (t5.lt o).2]
   refine jF dK dK (by rw[O];exact fD) ?_;repeat' (first
    |(apply ai ?_;clear hK K)|apply Rx.o ?_|apply aN ?_|(apply aE (fun z V=>?_) (fun z V=>?_)<;>try(cases z;done))|apply ae ?_|(apply ah fun K hK=>?_)|(apply aq 16 [(0,3),(2,3),(5,3),(5,6)] fun K hK=>?_)|(apply aM ?_;try intro _)|(apply aR ?_ ?_<;>clear hK K)|apply aL ?_|apply aj ?_|apply ak ?_|apply am ?_|apply ax ?_)
   have S:∀k,k<A.next->(A.alloc qc).get k=A.get k:=fun k o=>fX
   have s7:dH (A.alloc qc) (.sl A.next 0 0 1) [] A.next:=⟨A.next,0,rfl,wB,aI,aT _,dq _⟩
   have t7:em (A.alloc qc) v (a7 p) 1:=t6.aj (eT _) fun k o=>S k (t6.lt o).2;obtain⟨w8,U,a8,s8,n8,f8,o8⟩:=Wg s7 (eT _) t7 ce;simp only[br]at n8;have g8:U.get F.next=some (.cells p.funcs[i].cells 0 true):=by rw[f8 _ aa,S _ aa];exact g6
   have g80:U.get 0=some (.cells p.cells 0 true):=by rw[f8 0 aa,S _ aa];exact g60
   have t8:em U v (a7 p) 1:=t6.aj aa fun k o=>by rw[f8 k (by have:=(t6.lt o).2;omega),S _ (t6.lt o).2]
   have u8:dH U u6 (seen++[p.funcs[i].name]) H2.next:=s6.aj aa fun k o=>by rw[f8 k (s6.lt o).2,S _ (s6.lt o).2]
   refine jF dK dK (by rw[O];exact a8) ?_;have e8:(F.next == U.next)=false:=ce;repeat' (first
    |(apply ai ?_;clear hK K)|apply Rx.o ?_|apply aN ?_|(apply aE (fun z V=>?_) (fun z V=>?_)<;>try(cases z;done))|apply ae ?_|(apply ah fun K hK=>?_)|(apply aq 16 [(0,3),(2,3),(5,3),(5,6)] fun K hK=>?_)|(apply aM ?_;try intro _)|(apply aR ?_ ?_<;>clear hK K)|apply aL ?_|apply aj ?_|apply ak ?_|apply am ?_|apply ax ?_)
   have old8:∀k,k<U.next->(U.alloc qc).get k=U.get k:=fun k o=>fX
   have s9:dH (U.alloc qc) (.sl U.next 0 0 1) [] U.next:=⟨U.next,0,rfl,wB,aI,aT _,dq _⟩
   have g9a:(U.alloc qc).get F.next=some (.cells p.funcs[i].cells 0 true):=by rw[old8 _ aa];exact g8
   have g9b:(U.alloc qc).get U.next=some qc:=fN
   have hpl:=ig p.funcs[i].params;have hll:=ig p.funcs[i].ah;obtain⟨w9,H9,a9,s10,n9,f9,_⟩:=tB p.funcs[i].params s9 (eT _) ce;simp only[br]at n9;have g9:H9.get F.next=some (.cells p.funcs[i].cells 0 true):=by rw[f9 _ aa];exact g9a
   refine jF dK dK (by rw[O];exact a9) ?_;repeat' (first
    |(apply ai ?_;clear hK K)|apply Rx.o ?_|apply aN ?_|(apply aE (fun z V=>?_) (fun z V=>?_)<;>try(cases z;done))|apply ae ?_|(apply ah fun K hK=>?_)|(apply aq 16 [(0,3),(2,3),(5,3),(5,6)] fun K hK=>?_)|(apply aM ?_;try intro _)|(apply aR ?_ ?_<;>clear hK K)|apply aL ?_|apply aj ?_|apply ak ?_|apply am ?_|apply ax ?_)
   obtain⟨w11,m,a11,s11,n11,f11,_⟩:=tB p.funcs[i].ah s10 aa ce;have g11:m.get F.next=some (.cells p.funcs[i].cells 0 true):=by rw[f11 _ aa];exact g9
   refine jF dK dK (by rw[O];exact a11) ?_;repeat' (first
    |(apply ai ?_;clear hK K)|apply Rx.o ?_|apply aN ?_|(apply aE (fun z V=>?_) (fun z V=>?_)<;>try(cases z;done))|apply ae ?_|(apply ah fun K hK=>?_)|(apply aq 16 [(0,3),(2,3),(5,3),(5,6)] fun K hK=>?_)|(apply aM ?_;try intro _)|(apply aR ?_ ?_<;>clear hK K)|apply aL ?_|apply aj ?_|apply ak ?_|apply am ?_|apply ax ?_)
   .exact di
   .have J:∀k,k<U.next->m.get k=U.get k:=fun k o=>by rw[f11 k o,f9 k o,old8 k o]
    have g110:m.get 0=some (.cells p.cells 0 true):=by rw[J 0 aa];exact g80
    have u11:dH m u6 (seen++[p.funcs[i].name]) H2.next:=u8.aj aa fun k o=>J k (u8.lt o).2
    have v11:em m v (a7 p) 1:=t8.aj aa fun k o=>J k (t8.lt o).2;have q11:dH m w8 (a7 p) A.next:=s8.aj aa fun k o=>J k (s8.lt o).2
    have c8:∀k,dk w8 k->k<U.next:=fun k o=>(s8.lt o).2
    have cu:∀k,dk u6 k->k<A.next:=fun k o=>(s6.lt o).2
    have s11':dH m w11 (p.funcs[i].params++p.funcs[i].ah) U.next:=s11
    have hfl:(p.funcs[i].params++p.funcs[i].ah).length<2^38:=ce;have m11:U.next+1<=m.next:=aa
    have m8:A.next+1<=U.next:=aa
    clear s11 a11 f11 a9 f9 s10 s9 a8 f8 s8 fD f6 s6 n9 n11 o8 o6 s7 t7 old8 S old5 s5b t8 u8 t6 t5 g9 g9a g9b g8 g6 g5 e8 e5;generalize p.funcs[i].params++p.funcs[i].ah=ns at *;have hln:=fun H'=>s11'.len (H':=H');refine dG [1,3,4,6,7,9] [0] 10 ns.length (fun j E H=>∃w Z,E.at 8=w/\dH H w Z A.next/\(∀k,dk w k->¬dk w11 k)/\dH H w11 ns U.next/\em H v (a7 p) 1/\dH H u6 (seen++[p.funcs[i].name]) H2.next/\cT (a7 p) ns=cT Z (ns.drop j)/\Z.length=(a7 p).length+j) eE ⟨w8,a7 p,eE,q11,fun k h1 h2=>by have:=c8 k h1;have:=(s11'.lt h2).1;omega,s11',v11,u11,aI,rfl⟩ ?_;rintro j E3 H12 hj hcE I hnH hsI ⟨w,Z,k8,q12,hno,r12,v12,u12,hJ3,hsl2⟩;(try simp only[bL,bK,bb,aK,aW,Nat.reduceBEq,Nat.reduceAdd,Nat.reduceLeDiff,tyF,g110, *]at hcE);(try simp only[bL,bK,bb,aK,aW,Nat.reduceBEq,Nat.reduceAdd,Nat.reduceLeDiff,tyF,g110, *]at I);(try simp only[br,bG,cR,bR,Nat.reduceAdd]at hnH);have hB0:(0 == H12.next)=false:=ay aa;have hC0:(H12.next == 0)=false:=ay aa;repeat' (first
     |(apply ai ?_;clear hK K)|apply Rx.o ?_|apply aN ?_|(apply aE (fun z V=>?_) (fun z V=>?_)<;>try(cases z;done))|apply ae ?_|(apply ah fun K hK=>?_)|(apply aq 16 [(0,3),(2,3),(5,3),(5,6)] fun K hK=>?_)|(apply aM ?_;try intro _)|(apply aR ?_ ?_<;>clear hK K)|apply aL ?_|apply aj ?_|apply ak ?_|apply am ?_|apply ax ?_)
    .have hlt2:j<ns.length:=by simpa using z
     obtain⟨q,ia,ld⟩:=r12.at hlt2;have hdr2:cT Z (ns.drop j)=(bC Z ns[j]||cT (Z++[ns[j]]) (ns.drop (j+1))):=by rw[fR hlt2];rfl
     repeat' (first
      |(apply ai ?_;clear hK K)|apply Rx.o ?_|apply aN ?_|(apply aE (fun z V=>?_) (fun z V=>?_)<;>try(cases z;done))|apply ae ?_|(apply ah fun K hK=>?_)|(apply aq 16 [(0,3),(2,3),(5,3),(5,6)] fun K hK=>?_)|(apply aM ?_;try intro _)|(apply aR ?_ ?_<;>clear hK K)|apply aL ?_|apply aj ?_|apply ak ?_|apply am ?_|apply ax ?_)
     refine qa ?_;refine a4 ?_ (Fj (fun _=>rfl) rfl (.inr q12) aa ns[j]);rintro w0 Y ⟨rfl,s13,n13,f13,o13⟩;have m13:H12.next<=Y.next:=aa
     clear n13;dsimp only[a0];have g130:Y.get 0=some (.cells p.cells 0 true):=by rw[f13 0 aa];exact I
     have r13:dH Y w11 ns U.next:=r12.aj m13 fun k o=>o13 k fun h=>hno k h o
     have v13:em Y v (a7 p) 1:=v12.aj m13 fun k o=>f13 k (by have:=c3 k o;omega);have u13:dH Y u6 (seen++[p.funcs[i].name]) H2.next:=u12.aj m13 fun k o=>f13 k (cu k o)
     clear ia ld;obtain⟨q2,ia2,ld2⟩:=r13.at hlt2;repeat' (first
      |(apply ai ?_;clear hK K)|apply Rx.o ?_|apply aN ?_|(apply aE (fun z V=>?_) (fun z V=>?_)<;>try(cases z;done))|apply ae ?_|(apply ah fun K hK=>?_)|(apply aq 16 [(0,3),(2,3),(5,3),(5,6)] fun K hK=>?_)|(apply aM ?_;try intro _)|(apply aR ?_ ?_<;>clear hK K)|apply aL ?_|apply aj ?_|apply ak ?_|apply am ?_|apply ax ?_)
     .all_goals refine qq ?_
      rw[kE,hJ',hJ2,hdr,hJ3,hdr2];(try simp only[cq]at *);simp only[ *,cr,bw,bH,Int.reduceEq]
     have C:∀k,k<Y.next->(Y.alloc (.cells [.ae ns[j]] 0 true)).get k=Y.get k:=fun k o=>fX
     have s13b:em (Y.alloc (.cells [.ae ns[j]] 0 true)) w Z A.next:=s13.aj (eT _) fun k o=>C k (s13.lt o).2
     obtain⟨w14,H14,a14,s14,n14,f14,o14⟩:=wG (r:=Y.next) (imm:=0) ns[j] s13b bY fN aa;simp only[br]at n14;have m14:Y.next+2<=H14.next:=aa
     clear n14;have g140:H14.get 0=some (.cells p.cells 0 true):=by rw[f14 0 aa,C _ aa];exact g130
     refine jF dK dK (by rw[O];exact a14) ?_;repeat' (first
      |(apply ai ?_;clear hK K)|apply Rx.o ?_|apply aN ?_|(apply aE (fun z V=>?_) (fun z V=>?_)<;>try(cases z;done))|apply ae ?_|(apply ah fun K hK=>?_)|(apply aq 16 [(0,3),(2,3),(5,3),(5,6)] fun K hK=>?_)|(apply aM ?_;try intro _)|(apply aR ?_ ?_<;>clear hK K)|apply aL ?_|apply aj ?_|apply ak ?_|apply am ?_|apply ax ?_)
     refine⟨aa,bM,bM,dr,KP,?_⟩;refine⟨w14,Z++[ns[j]],eE,s14,fun k h1 h2=>?_,?_,?_,?_,by rw[hJ3,hdr2];(try simp only[cq]at *);simp only[ *,cr,bw,bH,Int.reduceEq],by simp[hsl2];omega⟩
     .have o:=(r13.lt h2).2;rcases o14.2 k h1 with h3|h3
      .exact hno k h3 h2
      .simp only[br]at h3;omega
     .refine r13.aj aa fun k o=>?_;have hl:=(r13.lt o).2;rw[o14.1 k bY (fun h=>hno k h o),C k hl]
     .exact v13.aj aa fun k o=>by rw[f14 k (by have:=c3 k o;omega),C k (v13.lt o).2]
     .exact u13.aj aa fun k o=>by rw[f14 k (cu k o),C k (u13.lt o).2]
    .have hje:j=ns.length:=by simp at z;omega
     rw[hje,gy]at hJ3;have hJ3':cT (a7 p) ns=false:=hJ3;refine⟨aa,bM,bM,dr,o0,?_⟩;exact⟨u6,seen++[p.funcs[i].name],eE,.inr u12,v12,by rw[hJ2,hdr,hJ3'];(try simp only[cq]at *);simp only[ *,cr,bw,bH,Int.reduceEq],by simp[hsl]⟩
  .all_goals refine qq ?_
   have hie:i=p.funcs.length:=r3;rw[hie,gy]at hJ2;have hJ2':si (a7 p) [] p.funcs=false:=hJ2;rw[kE,hJ',hJ2'];rfl)
end
section
def tyR3h.tyF:=ac @dF (ac @cI (ac @cY (ac @eL (ac @dW (ac @dX (ac @dy (ac @EH (ac @fg (ac @fh (ac @dR (@eD)))))))))))
open tyR3h
noncomputable def KZ:{c:SC // aG 43 (f97.body.getD .skip)=c}:=by
 refine⟨?_,?_⟩;rotate_left
 .simp only[f97,bE,aG,bz,bq,bF,bB,Nat.blt,Nat.ble];rfl
noncomputable def K0:{c:SC // aG 64 (f149.body.getD .skip)=c}:=by
 refine⟨?_,?_⟩;rotate_left
 .simp only[f149,bE,aG,bz,bq,bF,bB,Nat.blt,Nat.ble];rfl
structure Sc where
 vars:qo
 af:Option qo
 p:Pr
def Sc.an(x:Sc):qo:=x.af.getD []
def re:Option qo->AV
 |none=>.ab
 |some l=>cD l
def Sc.cells(x:Sc):qm:=[cD x.vars,re x.af,.ai (x.p.af.map Ar.cells),.ai (x.p.funcs.map Fu.cells)]
def Sc.ok(x:Sc):Prop:=x.vars.length<2^60/\x.an.length<2^60/\x.p.sz<2^60
theorem Sc.c0(x:Sc):x.cells[0]?=some (cD x.vars):=rfl
theorem Sc.c1(x:Sc):x.cells[1]?=some (re x.af):=rfl
theorem Sc.aX(x:Sc):cH 4 x.cells=some (.agg x.cells):=rfl
def yZ:=@Sc.aX
theorem K1(x:Sc):cH 2 (x.cells.drop 2)=some (.agg x.p.cells):=rfl
def WS(a:Option qo):fj (re a):=by
 cases a with
 |none=>exact .ab
 |some l=>exact tq l
def Sc.pure(x:Sc):gg x.cells:=.cons (tq _) (.cons (WS _) x.p.pure)
def WT{a b:Option qo}(h:re a=re b):a=b:=by
 cases a<;>cases b<;>simp only[re,reduceCtorEq,AV.ai.injEq]at h
 .rfl
 .rw[u9 h]
def Sc.inj{x y:Sc}(h:x.cells=y.cells):x=y:=by
 obtain⟨v,a,p⟩:=x;obtain⟨J,Z,z⟩:=y;simp only[Sc.cells,ew,AV.ai.injEq,bb]at h;obtain⟨j,m,A,O⟩:=h;rw[u9 j,WT m,Pr.inj (x:=p) (y:=z) (by simp[Pr.cells,A,O])]
section
variable (vs an:qo)
def iA(x:Ex):Bool:=(!decide (x.ag=2)||bC vs x.name)&&(!decide (x.ag=3)||bC an x.name)
mutual
def dN:Ex->Bool
 | .mk k n s o M=>eM M&&iA vs an (.mk k n s o M)
def eM:qz->Bool
 |[]=>true
 |e::es=>dN e&&eM es
end
theorem FB(x:Ex):dN vs an x=(eM vs an x.ak&&iA vs an x):=by cases x;rw[dN];rfl
end
def ow(x:Sc×Ex):qm:=[.agg x.1.cells,.agg x.2.cells]
def BW(x y:Sc×Ex)(h:ow x=ow y):x=y:=by
 simp only[ow,ew,AV.agg.injEq,bb]at h;exact pc (Sc.inj h.1) (Ex.inj h.2)
def BX{l:qu}(K:∀I,dD l 148 I=rb.sp I)(a:Option qo)(V:(a.getD []).length<2^60)(s:qr)(H:Hp):
 aU prog (aF pls l) 148 [re a,.ae s] H fun v H'=>v=.bool (bC (a.getD []) s)/\H'=H:=by
 have:=cp (P:=prog) (pls:=pls) (l:=l) (enc:=sc) (ok:=fun x=>(x.1.getD []).length<2^60) (out:=fun x=>.bool (bC (x.1.getD []) x.2)) Fh (g:=148) (x:=(a,s)) (K _) V (H:=H);cases a<;>exact this
def WU:∀x:Sc×Ex,(x.1.ok/\x.2.sz<2^60)->bJ prog ρ 97 (ow x) (.bool (dN x.1.vars x.1.an x.2)):=
 u7 fit (pls:=pls) (l:=[rb]) ⟨Fi ρ,trivial⟩ (fun x=>x.2.sz) (ok:=fun x=>x.1.ok/\x.2.sz<2^60) (enc:=ow) (out:=fun x=>.bool (dN x.1.vars x.1.an x.2)) (fun x _=>.cons (.agg x.1.pure) (.cons (.agg x.2.pure) .nil)) (fun x _=>.bool _) (fun x hx=>by
 have S:=sa (sz:=fun x:Sc×Ex=>x.2.sz) (ok:=fun x=>x.1.ok/\x.2.sz<2^60) (out:=fun x=>.bool (dN x.1.vars x.1.an x.2)) BW (f:=97) (l:=[rb]) x;generalize A:(⟨97,false,bS (fun y=>(y.1.ok/\y.2.sz<2^60)/\y.2.sz<x.2.sz) ow fun x=>.bool (dN x.1.vars x.1.an x.2)⟩:En)::[rb]=l at S⊢;obtain⟨c,x⟩:=x;obtain⟨hc,hx⟩:=hx;simp only[]at hx hc;have kr:∀y:Ex,y.sz<x.sz->∀H,aU prog (aF pls l) 97 [.agg c.cells,.agg y.cells] H fun v H'=>v=.bool (dN c.vars c.an y)/\H'=H:=fun y h2 H=>by
  subst A;exact cp (enc:=ow) (out:=fun x=>.bool (dN x.1.vars x.1.an x.2)) BW (x:=(c,y)) rfl ⟨⟨hc,tF⟩,h2⟩
 have kv:∀s H,aU prog (aF pls l) 148 [cD c.vars,.ae s] H fun v H'=>v=.bool (bC c.vars s)/\H'=H:=fun s H=>by
  subst A;exact BX (fun _=>rfl) (some c.vars) hc.1 s H
 have ka:∀s H,aU prog (aF pls l) 148 [re c.af,.ae s] H fun v H'=>v=.bool (bC c.an s)/\H'=H:=fun s H=>by
  subst A;exact BX (fun _=>rfl) c.af hc.2.1 s H
 have hsz:=x.aJ;have hlen:=lH x.ak;change aU _ _ _ [.agg c.cells,.agg x.cells] _ _;refine a5 (M:=43) (rs:=[.tmp 4]) S.call S.ao S.am func97 rfl rfl KZ.2 rfl ?_;dsimp only[KZ,a3,Nat.reduceAdd];repeat' (first
  |(apply ai ?_;clear hK K)|apply Rx.o ?_|apply cW ?_|(apply aX (fun C Y=>?_) (fun C Y=>?_)<;>try(cases C;done))|(apply aE (fun z V=>?_) (fun z V=>?_)<;>try(cases z;done))|apply ae ?_|(apply ah fun K hK=>?_)|(apply aq 4 [(0,6),(2,6),(5,6)] fun K hK=>?_)|(apply aM ?_;try intro _)|(apply aR ?_ ?_<;>clear hK K)|apply aL ?_|apply aj ?_|apply ak ?_|apply am ?_|apply ax ?_)
 refine dG [2,3] [0,1] 5 x.ak.length (fun i E H=>eM c.vars c.an x.ak=eM c.vars c.an (x.ak.drop i)) eE aI ?_;rintro i E U hi O I F hsI J;(try simp only[bL,bK,bb,aK,aW,Nat.reduceBEq,Nat.reduceAdd,Nat.reduceLeDiff,tyF, *]at O);(try simp only[bL,bK,bb,aK,aW,Nat.reduceBEq,Nat.reduceAdd,Nat.reduceLeDiff,tyF, *]at I);(try simp only[br,bG,cR,bR,Nat.reduceAdd]at F);have hB0:(0 == U.next)=false:=ay aa;have hC0:(U.next == 0)=false:=ay aa;have hB1:(1 == U.next)=false:=ay aa;have hC1:(U.next == 1)=false:=ay aa;have o:=@Sc.c0;have gh1:=@Sc.c1;have gh2:=@yZ;repeat' (first
  |(apply ai ?_;clear hK K)|apply Rx.o ?_|(apply dJ ?_;first|refine aY (kv _ _) ?_|refine aY (ka _ _) ?_)|apply cW ?_|(apply aX (fun C Y=>?_) (fun C Y=>?_)<;>try(cases C;done))|(apply aE (fun z V=>?_) (fun z V=>?_)<;>try(cases z;done))|apply ae ?_|(apply ah fun K hK=>?_)|(apply aq 4 [(0,6),(2,6),(5,6)] fun K hK=>?_)|(apply aM ?_;try intro _)|(apply aR ?_ ?_<;>clear hK K)|apply aL ?_|apply aj ?_|apply ak ?_|apply am ?_|apply ax ?_)
 .have Z:i<x.ak.length:=by simpa using z
  have hgx:x.ak[i]?=some x.ak[i]:=bt Z;have hm:=lK (ek Z);have j:eM c.vars c.an (x.ak.drop i)=(dN c.vars c.an x.ak[i]&&eM c.vars c.an (x.ak.drop (i+1))):=pX;have o:=@yZ;repeat' (first
   |(apply ai ?_;clear hK K)|apply Rx.o ?_|(apply dJ ?_;first|refine aY (kr _ aa _) ?_)|apply cW ?_|(apply aX (fun C Y=>?_) (fun C Y=>?_)<;>try(cases C;done))|(apply aE (fun z V=>?_) (fun z V=>?_)<;>try(cases z;done))|apply ae ?_|(apply ah fun K hK=>?_)|(apply aq 4 [(0,6),(2,6),(5,6)] fun K hK=>?_)|(apply aM ?_;try intro _)|(apply aR ?_ ?_<;>clear hK K)|apply aL ?_|apply aj ?_|apply ak ?_|apply am ?_|apply ax ?_)
  .exact di
  all_goals (first|(refine⟨aC,_,aJ,?_⟩;(try simp only[aB]);rw[FB,J,j];(try simp only[cq]at *);simp only[ *,cr,bw,bH,Int.reduceEq];done)|skip)
  refine⟨aa,bM,bM,dr,E7,?_⟩;rw[J,j];(try simp only[cq]at *);simp only[ *,cr,bw,bH,Int.reduceEq]
 all_goals
  have m:i=x.ak.length:=aa;rw[m,gy]at J;have hJ':eM c.vars c.an x.ak=true:=J;clear J;all_goals refine qq ?_
  rw[FB,hJ',iA];(try simp only[cq]at *);simp only[ *,cr,bw,bH,Int.reduceEq])
def i7(c:Sc)(x:St):Bool:=
 if x.ag=1 then bC c.vars x.name
 else if x.ag=6 then bC c.vars x.name&&decide (0<=cm c.p.funcs x.to 0)
 else if x.ag=2 then bC c.an x.name
 else true
def iO(c:Sc)(x:St):Bool:=eM c.vars c.an x.args&&dN c.vars c.an x.aL&&dN c.vars c.an x.value&&i7 c x
def y5(x:Sc×St):qm:=[.agg x.1.cells,.agg x.2.cells]
def WV(x y:Sc×St)(h:y5 x=y5 y):x=y:=by
 simp only[y5,ew,AV.agg.injEq,bb]at h;exact pc (Sc.inj h.1) (St.inj h.2)
noncomputable def FC:En:=⟨97,true,bS (fun x=>x.1.ok/\x.2.sz<2^60) ow fun x=>.bool (dN x.1.vars x.1.an x.2)⟩
def K2:cS prog ρ FC:=cZ fun x hx=>WU ρ x hx
def vm(x:Pr×qr):qm:=[.agg x.1.cells,.ae x.2]
def FD(x y:Pr×qr)(h:vm x=vm y):x=y:=by
 simp only[vm,ew,AV.agg.injEq,AV.ae.injEq,bb]at h;exact pc (Pr.inj h.1) h.2
noncomputable def y6:En:=⟨55,false,bS (fun x=>x.1.funcs.length<2^60) vm fun x=>.int .i64 (cm x.1.funcs x.2 0)⟩
def FE:cS prog ρ y6:=cZ fun x hx=>V9 ρ x.1 x.2 hx
noncomputable def wL:qu:=[rb,y6,FC]
def WW:eU prog ρ wL:=⟨Fi ρ,FE ρ,K2 ρ,trivial⟩
theorem WX(c:Sc)(x:St)(U:c.ok)(hx:x.sz<2^60):bJ prog ρ 149 [.agg c.cells,.agg x.cells] (.bool (iO c x)):=eG fit (pls:=pls) (WW ρ) (.cons (.agg c.pure) (.cons (.agg x.pure) .nil)) (.bool _) (by
 have A:zc7 (aF pls wL) 149:=dZ (fun _=>rfl) rfl;have kr:∀y:Ex,y.sz<2^60->∀H,aU prog (aF pls wL) 97 [.agg c.cells,.agg y.cells] H fun v H'=>v=.bool (dN c.vars c.an y)/\H'=H:=fun y h2 H=>cp (enc:=ow) (out:=fun x=>.bool (dN x.1.vars x.1.an x.2)) BW (x:=(c,y)) rfl ⟨U,h2⟩;have kv:∀s H,aU prog (aF pls wL) 148 [cD c.vars,.ae s] H fun v H'=>v=.bool (bC c.vars s)/\H'=H:=fun s H=>BX (fun _=>rfl) (some c.vars) U.1 s H;have ka:∀s H,aU prog (aF pls wL) 148 [re c.af,.ae s] H fun v H'=>v=.bool (bC c.an s)/\H'=H:=fun s H=>BX (fun _=>rfl) c.af U.2.1 s H;have o:c.p.funcs.length<2^60:=by have h:=U.2.2;have h2:c.p.sz=1+ez c.p.af+dY c.p.funcs:=rfl;have:=lI c.p.funcs;omega
 have kf:∀s H,aU prog (aF pls wL) 55 [.agg c.p.cells,.ae s] H fun v H'=>v=.int .i64 (cm c.p.funcs s 0)/\H'=H:=fun s H=>cp (enc:=vm) (out:=fun x=>.int .i64 (cm x.1.funcs x.2 0)) FD (x:=(c.p,s)) rfl o;have hsz:=x.aJ;have hlen:=lH x.args;refine a5 (M:=64) (rs:=[.tmp 4]) (A.call _) A.ao A.am func149 rfl rfl K0.2 rfl ?_;dsimp only[K0,a3,Nat.reduceAdd];repeat' (first
  |(apply ai ?_;clear hK K)|apply Rx.o ?_|(apply aX (fun C Y=>?_) (fun C Y=>?_)<;>try(cases C;done))|(apply aE (fun z V=>?_) (fun z V=>?_)<;>try(cases z;done))|apply ae ?_|(apply ah fun K hK=>?_)|(apply aq 4 [(0,6),(2,6),(5,6)] fun K hK=>?_)|(apply aM ?_;try intro _)|(apply aR ?_ ?_<;>clear hK K)|apply aL ?_|apply aj ?_|apply ak ?_|apply am ?_|apply ax ?_)
 refine dG [2,3] [0,1] 5 x.args.length (fun i E H=>eM c.vars c.an x.args=eM c.vars c.an (x.args.drop i)) eE aI ?_;rintro i E S hi O I F hsI J;(try simp only[bL,bK,bb,aK,aW,Nat.reduceBEq,Nat.reduceAdd,Nat.reduceLeDiff,tyF, *]at O);(try simp only[bL,bK,bb,aK,aW,Nat.reduceBEq,Nat.reduceAdd,Nat.reduceLeDiff,tyF, *]at I);(try simp only[br,bG,cR,bR,Nat.reduceAdd]at F);have hB0:(0 == S.next)=false:=ay aa;have hC0:(S.next == 0)=false:=ay aa;have hB1:(1 == S.next)=false:=ay aa;have hC1:(S.next == 1)=false:=ay aa;have m:=@Sc.c0;have gh1:=@Sc.c1;have gh2:=@yZ;have gh3:=@K1;repeat' (first
  |(apply ai ?_;clear hK K)|apply Rx.o ?_|(apply dJ ?_;first|refine aY (kr _ aa _) ?_|refine aY (kf _ _) ?_|refine aY (kv _ _) ?_|refine aY (ka _ _) ?_)|(apply aX (fun C Y=>?_) (fun C Y=>?_)<;>try(cases C;done))|(apply aE (fun z V=>?_) (fun z V=>?_)<;>try(cases z;done))|apply ae ?_|(apply ah fun K hK=>?_)|(apply aq 4 [(0,6),(2,6),(5,6)] fun K hK=>?_)|(apply aM ?_;try intro _)|(apply aR ?_ ?_<;>clear hK K)|apply aL ?_|apply aj ?_|apply ak ?_|apply am ?_|apply ax ?_)
 .have Z:i<x.args.length:=by simpa using z
  have hgx:x.args[i]?=some x.args[i]:=bt Z;have hm:=lK (ek Z);have j:eM c.vars c.an (x.args.drop i)=(dN c.vars c.an x.args[i]&&eM c.vars c.an (x.args.drop (i+1))):=pX;have m:=@yZ;repeat' (first
   |(apply ai ?_;clear hK K)|apply Rx.o ?_|(apply dJ ?_;first|refine aY (kr _ aa _) ?_)|(apply aX (fun C Y=>?_) (fun C Y=>?_)<;>try(cases C;done))|(apply aE (fun z V=>?_) (fun z V=>?_)<;>try(cases z;done))|apply ae ?_|(apply ah fun K hK=>?_)|(apply aq 4 [(0,6),(2,6),(5,6)] fun K hK=>?_)|(apply aM ?_;try intro _)|(apply aR ?_ ?_<;>clear hK K)|apply aL ?_|apply aj ?_|apply ak ?_|apply am ?_|apply ax ?_)
  .exact di
  all_goals (first|(refine⟨aC,_,aJ,?_⟩;(try simp only[aB]);rw[iO,J,j];(try simp only[cq]at *);simp only[ *,cr,bw,bH,Int.reduceEq];done)|skip)
  refine⟨aa,bM,bM,dr,E8,?_⟩;rw[J,j];(try simp only[cq]at *);simp only[ *,cr,bw,bH,Int.reduceEq]
 all_goals
  have hie:i=x.args.length:=aa;rw[hie,gy]at J;have hJ':eM c.vars c.an x.args=true:=J;clear J;all_goals refine qq ?_
  rw[iO,hJ',i7];(try simp only[cq]at *);simp only[ *,cr,bw,bH,Int.reduceEq])
end
variable{p:Pr}
section
def tyR3i.tyF:=ac @cI (ac @cY (ac @fg (ac @fh (ac @eL (ac @dW (ac @dR (ac @dX (ac @dy (ac @ge (ac @eD (ac @EH (ac @K1 (@yZ)))))))))))))
open tyR3i
noncomputable def K3:{c:SC // aG 59 (f96.body.getD .skip)=c}:=by
 refine⟨?_,?_⟩;rotate_left
 .simp only[f96,bE,aG,bz,bq,bF,bB,Nat.blt,Nat.ble];rfl
def j3(p:Pr)(s:qr):Nat:=((p.funcs[(cm p.funcs s 0).toNat]?).map fun f=>f.params.length).getD 0
def jt(p:Pr)(x:St):Bool:=!(decide (x.ag=6) && !decide ((x.args.length:Int)=j3 p x.to))
section
variable (c:Sc)
mutual
def fl(b:Bool):St->Bool
 | .mk k C S n a v j U V=>(bif b then jt c.p (.mk k C S n a v j U V)else iO c (.mk k C S n a v j U V))&&cO b U&&cO b V
def cO(b:Bool):qt->Bool
 |[]=>true
 |x::l=>fl b x&&cO b l
end
theorem y7(b:Bool)(x:St):fl c b x=((bif b then jt c.p x else iO c x)&&cO c b x.a1&&cO c b x.bh):=by cases x;rw[fl];rfl
end
section
variable (p:Pr)
mutual
def wM:St->Bool
 | .mk k C S n a v j U V=>(!decide (k=6)||decide (0<=cm p.funcs S 0))&&mY U&&mY V
def mY:qt->Bool
 |[]=>true
 |x::l=>wM x&&mY l
end
theorem K4(x:St):wM p x=((!decide (x.ag=6)||decide (0<=cm p.funcs x.to 0))&&mY p x.a1&&mY p x.bh):=by cases x;rw[wM];rfl
end
theorem K5{p:Pr}:∀{l:qt}{x:St},mY p l=true->x∈l->wM p x=true
 |[],_,_,h=>by simp at h
 |e::es,x,hc,h=>by
  simp only[mY,cN]at hc;rcases fY.1 h with rfl|h
  .exact hc.1
  .exact K5 hc.2 h
theorem BY:∀(l:qG) (s:qr) (i:Nat),0<=cm l s i->∃k,k<l.length/\cm l s i=((i+k:Nat):Int)
 |[],s,i,h=>by simp[cm]at h
 |f::l,s,i,h=>by
  simp only[cm]at h⊢;split
  .exact⟨0,aI,aI⟩
  .rename_i I;rw[ad I]at h;obtain⟨k,j,m⟩:=BY l s (i+1) (by exact h);exact⟨k+1,by simpa using j,by rw[show((i:Int)+1)=((i+1:Nat):Int) by omega,m];omega⟩
theorem WY{s:qr}(h:0<=cm p.funcs s 0):∃g,p.funcs[(cm p.funcs s 0).toNat]?=some g/\j3 p s=g.params.length:=by
 obtain⟨k,j,m⟩:=BY p.funcs s 0 h;have e:(cm p.funcs s 0).toNat=k:=by
  have:cm p.funcs s ((0:Nat):Int)=cm p.funcs s 0:=rfl;rw[this]at m;omega
 refine⟨p.funcs[k],?_,?_⟩
 .rw[e];exact bt j
 .unfold j3;rw[e,bt j];rfl
theorem Sc.c3(x:Sc):x.cells[3]?=some (.ai (x.p.funcs.map Fu.cells)):=rfl
noncomputable def K6:En:=⟨149,false,bS (fun x=>x.1.ok/\x.2.sz<2^60) y5 fun x=>.bool (iO x.1 x.2)⟩
def WZ:cS prog ρ K6:=cZ fun x hx=>WX ρ x.1 x.2 hx.1 hx.2
structure Cs where
 c:Sc
 l:qt
 b:Bool
def pm(x:Cs):qm:=[.agg x.c.cells,.ai (x.l.map St.cells),.bool x.b]
def FF(x y:Cs)(h:pm x=pm y):x=y:=by
 obtain⟨a,b,c⟩:=x;obtain⟨z,b',j⟩:=y;simp only[pm,ew,AV.agg.injEq,AV.ai.injEq,AV.bool.injEq,bb]at h;rw[Sc.inj h.1,By h.2.1,h.2.2]
def Cs.ok(x:Cs):Prop:=x.c.ok/\a6 x.l<2^60/\(x.b=true->mY x.c.p x.l=true)
noncomputable def FG:qu:=[y6,K6]
def W0:eU prog ρ FG:=⟨FE ρ,WZ ρ,trivial⟩
def tG(x:Cs):AV:=.bool (cO x.c x.b x.l)
set_option maxRecDepth 100000 in
theorem W1:∀x:Cs,x.ok->bJ prog ρ 96 (pm x) (tG x):=
 u7 fit (pls:=pls) (W0 ρ) (fun x=>a6 x.l) (ok:=Cs.ok) (enc:=pm) (out:=tG) (fun x _=>.cons (.agg x.c.pure) (.cons (wy _) (.cons (.bool _) .nil))) (fun x _=>.bool _) (fun x hx=>by
 have o:=sa (sz:=fun x:Cs=>a6 x.l) (ok:=Cs.ok) (out:=tG) FF (f:=96) (l:=FG) x;generalize hl:(⟨96,false,bS (fun y=>Cs.ok y/\a6 y.l<a6 x.l) pm tG⟩:En)::FG=l at o⊢;obtain⟨c,x,b⟩:=x;obtain⟨hc,hx,m⟩:=hx;simp only[]at hc hx m;have F:∀y:qt,a6 y<a6 x->(b=true->mY c.p y=true)->∀H,aU prog (aF pls l) 96 [.agg c.cells,.ai (y.map St.cells),.bool b] H fun v H'=>v=.bool (cO c b y)/\H'=H:=fun y A h3 H=>by
  subst hl;exact cp (enc:=pm) (out:=tG) FF (x:=⟨c,y,b⟩) rfl ⟨⟨hc,tF,h3⟩,A⟩
 have kd:∀y:St,y.sz<2^60->∀H,aU prog (aF pls l) 149 [.agg c.cells,.agg y.cells] H fun v H'=>v=.bool (iO c y)/\H'=H:=fun y A H=>by
  subst hl;exact cp (enc:=y5) (out:=fun x=>.bool (iO x.1 x.2)) WV (x:=(c,y)) rfl ⟨hc,A⟩
 have hpf:c.p.funcs.length<2^60:=by have h:=hc.2.2;have A:c.p.sz=1+ez c.p.af+dY c.p.funcs:=rfl;have:=lI c.p.funcs;omega
 have kf:∀s H,aU prog (aF pls l) 55 [.agg c.p.cells,.ae s] H fun v H'=>v=.int .i64 (cm c.p.funcs s 0)/\H'=H:=fun s H=>by
  subst hl;exact cp (enc:=vm) (out:=fun x=>.int .i64 (cm x.1.funcs x.2 0)) FD (x:=(c.p,s)) rfl hpf
 have hlen:=mS x;have hplan:∀id,(aF pls l).bI 96 id=.text:=fun _=>by first|rfl|(simp[aF,wj,pls])
 change aU _ _ _ [.agg c.cells,.ai (x.map St.cells),.bool b] _ _;refine a5 (M:=59) (rs:=[.tmp 6]) o.call o.ao o.am func96 rfl rfl K3.2 rfl ?_;dsimp only[K3,a3,Nat.reduceAdd];repeat' (first
  |(apply ai ?_;clear hK K)|apply Rx.o ?_|apply aN ?_|(apply aX (fun C Y=>?_) (fun C Y=>?_)<;>try(cases C;done))|(apply aE (fun z V=>?_) (fun z V=>?_)<;>try(cases z;done))|apply ae ?_|(apply ah fun K hK=>?_)|(apply aq 6 [(1,14),(5,14),(5,21),(6,14),(6,21),(9,14),(9,21),(11,14),(13,14),(17,21),(18,21)] fun K hK=>?_)|(apply aM ?_;try intro _)|(apply aR ?_ ?_<;>clear hK K)|apply aL ?_|apply aj ?_|apply ak ?_|apply am ?_|apply ax ?_)
 refine dG [1,2,3] [0] 7 x.length (fun i E H=>cO c b x=cO c b (x.drop i)) eE aI ?_;rintro i E H2 hi hcE hrH hnH hsI J;(try simp only[bL,bK,bb,aK,aW,Nat.reduceBEq,Nat.reduceAdd,Nat.reduceLeDiff,tyF, *]at hcE);(try simp only[bL,bK,bb,aK,aW,Nat.reduceBEq,Nat.reduceAdd,Nat.reduceLeDiff,tyF, *]at hrH);(try simp only[br,bG,cR,bR,Nat.reduceAdd]at hnH);have hB0:(0 == H2.next)=false:=ay aa;have hC0:(H2.next == 0)=false:=ay aa;repeat' (first
  |(apply ai ?_;clear hK K)|apply Rx.o ?_|apply aN ?_|(apply aX (fun C Y=>?_) (fun C Y=>?_)<;>try(cases C;done))|(apply aE (fun z V=>?_) (fun z V=>?_)<;>try(cases z;done))|apply ae ?_|(apply ah fun K hK=>?_)|(apply aq 6 [(1,14),(5,14),(5,21),(6,14),(6,21),(9,14),(9,21),(11,14),(13,14),(17,21),(18,21)] fun K hK=>?_)|(apply aM ?_;try intro _)|(apply aR ?_ ?_<;>clear hK K)|apply aL ?_|apply aj ?_|apply ak ?_|apply am ?_|apply ax ?_)
 .have Z:i<x.length:=by simpa using z
  have hgx:x[i]?=some x[i]:=bt Z;have hsm:=l9 (ek Z);have hsz:=x[i].aJ;have hcl:b=true->wM c.p x[i]=true:=fun h=>K5 (m h) (ek Z);have j:cO c b (x.drop i)=(fl c b x[i]&&cO c b (x.drop (i+1))):=pX;rw[y7]at j;cases b with
  |false=>
   rw[nS]at j;repeat' (first
    |(apply ai ?_;clear hK K)|apply Rx.o ?_|apply aN ?_|(apply dJ ?_;first|refine aY (kd _ aa _) ?_|refine aY (F _ aa (fun h=>lC) _) ?_)|(apply aX (fun C Y=>?_) (fun C Y=>?_)<;>try(cases C;done))|(apply aE (fun z V=>?_) (fun z V=>?_)<;>try(cases z;done))|apply ae ?_|(apply ah fun K hK=>?_)|(apply aq 6 [(1,14),(5,14),(5,21),(6,14),(6,21),(9,14),(9,21),(11,14),(13,14),(17,21),(18,21)] fun K hK=>?_)|(apply aM ?_;try intro _)|(apply aR ?_ ?_<;>clear hK K)|apply aL ?_|apply aj ?_|apply ak ?_|apply am ?_|apply ax ?_)
   all_goals (first|(refine⟨aC,_,aJ,?_⟩;(try simp only[aB]);change _=AV.bool (cO c _ x);rw[J,j];(try simp only[cq]at *);simp only[ *,cr,bw,bH,Int.reduceEq];done)|skip)
   refine⟨aa,bM,bM,dr,tw,?_⟩;rw[J,j];(try simp only[cq]at *);simp only[ *,cr,bw,bH,Int.reduceEq]
  |true=>
   rw[fF]at j;have U:=hcl rfl;rw[K4,cN,cN]at U;obtain⟨⟨hk6,O⟩,S⟩:=U;by_cases h6:x[i].ag=6
   .have hf0:0<=cm c.p.funcs x[i].to 0:=by simpa [h6]using hk6
    obtain⟨g,hg6,I⟩:=WY hf0;have gh0:=@Sc.c3;repeat' (first
     |(apply ai ?_;clear hK K)|apply Ry.o ?_|apply bP ?_|(apply cU ?_;first|refine aY (kf _ _) ?_|refine aY (F _ aa (fun _=>O) _) ?_|refine aY (F _ aa (fun _=>S) _) ?_)|(apply cE (fun C Y=>?_) (fun C Y=>?_)<;>try(cases C;done))|(apply a2 (fun z V=>?_) (fun z V=>?_)<;>try(cases z;done))|apply ae ?_|(apply ah fun K hK=>?_)|(apply aq 6 [(1,14),(5,14),(5,21),(6,14),(6,21),(9,14),(9,21),(11,14),(13,14),(17,21),(18,21)] fun K hK=>?_)|(apply aM ?_;try intro _)|(apply aR ?_ ?_<;>clear hK K)|apply aL ?_|(apply ER (fun C Y=>?_) (fun C Y=>?_)<;>try(cases C;done))|apply aj ?_|apply ak ?_|apply am ?_|apply ax ?_)
    .exact di
    all_goals (first|(refine⟨aC,_,aJ,?_⟩;(try simp only[aB]);change _=AV.bool (cO c _ x);rw[J,j,jt,I];(try simp only[cq]at *);simp only[ *,cr,bw,bH,Int.reduceEq];done)|skip)
    refine⟨aa,bM,bM,dr,tw,?_⟩;rw[J,j,jt,I];(try simp only[cq]at *);simp only[ *,cr,bw,bH,Int.reduceEq]
   .have gh0:=@Sc.c3;repeat' (first
     |(apply ai ?_;clear hK K)|apply Ry.o ?_|apply bP ?_|(apply cU ?_;first|refine aY (F _ aa (fun _=>O) _) ?_|refine aY (F _ aa (fun _=>S) _) ?_)|(apply cE (fun C Y=>?_) (fun C Y=>?_)<;>try(cases C;done))|(apply a2 (fun z V=>?_) (fun z V=>?_)<;>try(cases z;done))|apply ae ?_|(apply ah fun K hK=>?_)|(apply aq 6 [(1,14),(5,14),(5,21),(6,14),(6,21),(9,14),(9,21),(11,14),(13,14),(17,21),(18,21)] fun K hK=>?_)|(apply aM ?_;try intro _)|(apply aR ?_ ?_<;>clear hK K)|apply aL ?_|(apply ER (fun C Y=>?_) (fun C Y=>?_)<;>try(cases C;done))|apply aj ?_|apply ak ?_|apply am ?_|apply ax ?_)
    .exact di
    all_goals (first|(refine⟨aC,_,aJ,?_⟩;(try simp only[aB]);change _=AV.bool (cO c _ x);rw[J,j,jt];(try simp only[cq]at *);simp only[ *,cr,bw,bH,Int.reduceEq];done)|skip)
    refine⟨aa,bM,bM,dr,tw,?_⟩;rw[J,j,jt];(try simp only[cq]at *);simp only[ *,cr,bw,bH,Int.reduceEq]
 .all_goals refine qq ?_
  rw[tG,J,show i=x.length by simp at z;omega];simp[cO])
end
variable{l:qo}
section
def tyR3j.tyF:=ac @dF (ac @cI (ac @cY (ac @fg (ac @fh (ac @eL (ac @dW (ac @dR (ac @dX (ac @dy (ac @ge (ac @iW (ac @eD (ac @EH (ac @KW (@BV)))))))))))))))
open tyR3j
noncomputable def K7:{c:SC // aG 86 (f54.body.getD .skip)=c}:=by
 refine⟨?_,?_⟩;rotate_left
 .simp only[f54,bE,aG,bz,bq,bF,bB,Nat.blt,Nat.ble];rfl
def W2{c c':Sc}(h1:c.vars=c'.vars)(h2:c.an=c'.an)(A:c.p=c'.p)(x:St):iO c x=iO c' x:=by
 unfold iO i7;rw[h1,h2,A]
mutual
theorem W3{c c':Sc}(h1:c.vars=c'.vars)(h2:c.an=c'.an)(A:c.p=c'.p)(b:Bool):∀x:St,fl c b x=fl c' b x
 | .mk k C S n a v j U V=>by
   simp only[fl,BZ h1 h2 A b U,BZ h1 h2 A b V,W2 h1 h2 A,A]
theorem BZ{c c':Sc}(h1:c.vars=c'.vars)(h2:c.an=c'.an)(A:c.p=c'.p)(b:Bool):∀l:qt,cO c b l=cO c' b l
 |[]=>rfl
 |x::l=>by simp only[cO,W3 h1 h2 A b x,BZ h1 h2 A b l]
end
def mZ(v:AV)(l:qo):Option qo:=match v with
 | .ab=>none
 |_=>some l
theorem FH(h:em H v l lo):(mZ v l).getD []=l:=by
 rcases h with⟨rfl,rfl⟩|⟨r,S,rfl,_⟩<;>rfl
theorem em.gl(h:em H v l lo)(n:Nat):
 ∃H',eP (n+2) v H=some (re (mZ v l),H')/\em H' v l lo/\H'.next=H.next/\∀k,¬dk v k->H'.get k=H.get k:=by
 rcases h with⟨rfl,rfl⟩|h
 .exact⟨H,rfl,.inl ⟨rfl,rfl⟩,rfl,fun _ _=>rfl⟩
 .obtain⟨H',j,m,A,_,J⟩:=h.ao n;refine⟨H',?_,.inr m,A,J⟩;rw[j];obtain⟨r,S,rfl,_⟩:=h;rfl
theorem K8{vs S:qo}(U:dH H w vs lo)(O:em H a S V)(hd:∀k,dk a k->¬dk w k)(p:Pr)(n:Nat):
 ∃H',eP (n+3) (.agg [w,a,.ai (p.af.map Ar.cells),.ai (p.funcs.map Fu.cells)]) H=some (.agg (Sc.cells ⟨vs,mZ a S,p⟩),H')/\dH H' w vs lo/\em H' a S V/\H'.next=H.next/\∀k,¬dk w k->¬dk a k->H'.get k=H.get k:=by
 obtain⟨H1,j,m,A,_,J⟩:=U.ao n;have Z:em H1 a S V:=O.aj aa fun k o=>J k (hd k o);obtain⟨K,I,F,z,Y⟩:=Z.gl n;refine⟨K,?_,m.aj aa fun k o=>Y k fun h=>hd k h o,F,aa,fun k h M=>by rw[Y k M,J k h]⟩;have e:eP (n+3) (.agg [w,a,.ai (p.af.map Ar.cells),.ai (p.funcs.map Fu.cells)]) H=match fW (eP (n+2)) [w,a,.ai (p.af.map Ar.cells),.ai (p.funcs.map Fu.cells)] H with
  |some (C,H)=>some (.agg C,H)
  |none=>none:=rfl
 rw[e];simp only[fW,j,I];rfl
noncomputable def K9:En:=⟨96,true,bS Cs.ok pm tG⟩
def W4:cS prog ρ K9:=cZ fun x hx=>W1 ρ x hx
noncomputable def La:En:=⟨93,false,bS (fun p=>p.sz<2^36) fB fun p=>.bool (i6 p)⟩
def W5:cS prog ρ La:=cZ fun p hp=>Wy ρ p aa
noncomputable def Lb:En:=⟨94,false,bS (fun p=>p.sz<2^36) fB fun p=>.bool (gY p)⟩
def W6:cS prog ρ Lb:=cZ fun p hp=>WQ ρ p hp
noncomputable def Lc:En:=⟨95,false,bS (fun p=>p.sz<2^36) fB fun p=>.bool (kE p)⟩
def W7:cS prog ρ Lc:=cZ fun p hp=>WR ρ p hp
noncomputable def tH:qu:=[La,Lb,Lc,K9,FC]
def W8:eU prog ρ tH:=⟨W5 ρ,W6 ρ,W7 ρ,W4 ρ,K2 ρ,trivial⟩
def fK(p:Pr)(f:Fu):Sc:=⟨f.params++f.ah,some (a7 p),p⟩
def iB(p:Pr)(f:Fu):Bool:=!(cO (fK p f) false f.body&&dN (fK p f).vars (fK p f).an f.value)
def j4(p:Pr)(f:Fu):Bool:=!cO (fK p f) true f.body
def gK(p:Pr):Int:=if i6 p=true then 6 else if gY p=false then 2 else if kE p=true then 4 else if p.funcs.any (iB p)=true then 3 else if p.funcs.any (j4 p)=true then 5 else 0
theorem Ld(J:dH H w (f.params++f.ah) lo)(Z:em H a (a7 p) V)(hd:∀k,dk a k->¬dk w k)(U:p.sz<2^60)(hf:f.sz<2^60)(b:Bool)(z:b=true->mY p f.body=true):
 aU prog (aF pls tH) 96 [.agg [w,a,.ai (p.af.map Ar.cells),.ai (p.funcs.map Fu.cells)],.ai (f.body.map St.cells),.bool b] H fun v H'=>v=.bool (cO (fK p f) b f.body)/\dH H' w (f.params++f.ah) lo/\em H' a (a7 p) V/\H.next<=H'.next/\∀k,¬dk w k->¬dk a k->H'.get k=H.get k:=by
 obtain⟨H',j,m,A,h4,S⟩:=K8 J Z hd p 97;have M:f.sz=1+f.name.length+db f.params+db f.ah+a6 f.body+f.value.sz:=rfl;have K:=ig f.params;have I:=ig f.ah;have F:p.sz=1+ez p.af+dY p.funcs:=rfl;have C:=lJ p.af;have o:(a7 p).length=p.af.length:=tE;have Y:Cs.ok ⟨⟨f.params++f.ah,mZ a (a7 p),p⟩,f.body,b⟩:=⟨⟨ce,KL,U⟩,tF,z⟩;refine a4 ?_ (Bu (enc:=pm) (out:=tG) FF (x:=⟨⟨f.params++f.ah,mZ a (a7 p),p⟩,f.body,b⟩) (fun _=>rfl) rfl Y (H':=H') (fun y _ e=>?_) ?_)
 .rintro v _ ⟨rfl,rfl⟩;refine⟨?_,m,A,aa,S⟩;show AV.bool (cO ⟨f.params++f.ah,mZ a (a7 p),p⟩ b f.body)=_;rw[BZ (c:=⟨f.params++f.ah,mZ a (a7 p),p⟩) (c':=fK p f) rfl (FH Z) rfl]
 .obtain⟨r,O,rfl,_⟩:=J;simp[pm,Sc.cells]at e
 .show fW (eP 100) [.agg [w,a,.ai (p.af.map Ar.cells),.ai (p.funcs.map Fu.cells)],.ai (f.body.map St.cells),.bool b] H=some (pm ⟨⟨f.params++f.ah,mZ a (a7 p),p⟩,f.body,b⟩,H');simp only[fW,j];rfl
theorem W9(J:dH H w (f.params++f.ah) lo)(Z:em H a (a7 p) V)(hd:∀k,dk a k->¬dk w k)(U:p.sz<2^60)(hf:f.sz<2^60):
 aU prog (aF pls tH) 97 [.agg [w,a,.ai (p.af.map Ar.cells),.ai (p.funcs.map Fu.cells)],.agg f.value.cells] H fun v H'=>v=.bool (dN (fK p f).vars (fK p f).an f.value)/\dH H' w (f.params++f.ah) lo/\em H' a (a7 p) V/\H.next<=H'.next/\∀k,¬dk w k->¬dk a k->H'.get k=H.get k:=by
 obtain⟨H',j,m,A,h4,S⟩:=K8 J Z hd p 97;have M:f.sz=1+f.name.length+db f.params+db f.ah+a6 f.body+f.value.sz:=rfl;have K:=ig f.params;have I:=ig f.ah;have F:p.sz=1+ez p.af+dY p.funcs:=rfl;have C:=lJ p.af;have z:(a7 p).length=p.af.length:=tE;have Y:Sc.ok ⟨f.params++f.ah,mZ a (a7 p),p⟩/\f.value.sz<2^60:=⟨⟨ce,KL,U⟩,aa⟩;refine a4 ?_ (Bu (enc:=ow) (ok:=fun x=>x.1.ok/\x.2.sz<2^60) (out:=fun x=>.bool (dN x.1.vars x.1.an x.2)) BW (x:=(⟨f.params++f.ah,mZ a (a7 p),p⟩,f.value)) (fun _=>rfl) rfl Y (H':=H') (fun y _ e=>?_) ?_)
 .rintro v _ ⟨rfl,rfl⟩;refine⟨?_,m,A,aa,S⟩;show AV.bool (dN (f.params++f.ah) ((mZ a (a7 p)).getD []) f.value)=_;rw[FH Z];rfl
 .obtain⟨r,O,rfl,_⟩:=J;simp[ow,Sc.cells]at e
 .show fW (eP 100) [.agg [w,a,.ai (p.af.map Ar.cells),.ai (p.funcs.map Fu.cells)],.agg f.value.cells] H=some (ow (⟨f.params++f.ah,mZ a (a7 p),p⟩,f.value),H');have o:eP 100 (.agg f.value.cells) H'=some (.agg f.value.cells,H'):=by
   rw[jm];rfl
  simp only[fW,j,o];rfl
def Xa(p:Pr)(r n:Nat):cQ prog 169 [(0,.sl r 0 n 1),(2,.agg p.cells)]=some (.agg [.sl r 0 n 1,.ab,.ai (p.af.map Ar.cells),.ai (p.funcs.map Fu.cells)]):=aA
theorem B0(a b c d:AV):cH 4 [a,b,c,d]=some (.agg [a,b,c,d]):=rfl
mutual
theorem Xb{c:Sc}:∀x:St,fl c false x=true->wM c.p x=true
 | .mk k Y S n a v j U V,h=>by
   rw[y7,nS,cN,cN]at h;obtain⟨⟨Z,m⟩,A⟩:=h;rw[K4,B3 _ m,B3 _ A];simp only[iO,cN]at Z;have O:=Z.2;unfold i7 at O;by_cases C:(St.mk k Y S n a v j U V).ag=6
   .rw[ad (by rw[C];decide),au C,cN]at O;simp only[O.2,Fa,jl]
   .simp only[C,jC,l4,wd,jl]
theorem B3{c:Sc}:∀l:qt,cO c false l=true->mY c.p l=true
 |[],_=>rfl
 |x::l,h=>by
  simp only[cO,cN]at h;simp only[mY,Xb x h.1,B3 l h.2,jl]
end
abbrev qi:HB:=.cells [.ab,.ab,.ab,.ab] 0 true
set_option maxRecDepth 100000 in
theorem Xc(p:Pr)(hz:p.sz<2^36):bJ prog ρ 54 [.agg p.cells] (.int .i64 (gK p)):=eG fit (pls:=pls) (W8 ρ) (.cons (.agg p.pure) .nil) (.int _ _) (by
 have hw:zc7 (aF pls tH) 54:=dZ (fun _=>rfl) rfl;have hkeep:(aF pls tH).aj 54=false:=rfl;have ke:∀H,aU prog (aF pls tH) 93 [.agg p.cells] H fun v H'=>v=.bool (i6 p)/\H'=H:=fun H=>cp (enc:=fB) (out:=fun p=>.bool (i6 p)) pi (x:=p) rfl hz;have kw:∀H,aU prog (aF pls tH) 94 [.agg p.cells] H fun v H'=>v=.bool (gY p)/\H'=H:=fun H=>cp (enc:=fB) (out:=fun p=>.bool (gY p)) pi (x:=p) rfl hz;have kd:∀H,aU prog (aF pls tH) 95 [.agg p.cells] H fun v H'=>v=.bool (kE p)/\H'=H:=fun H=>cp (enc:=fB) (out:=fun p=>.bool (kE p)) pi (x:=p) rfl hz;have hpz:p.sz=1+ez p.af+dY p.funcs:=rfl;have hla:=lJ p.af;have hlf:=lI p.funcs;have hal:(a7 p).length=p.af.length:=tE;refine a5 (M:=86) (rs:=[.tmp 2]) (hw.call _) hw.ao hw.am func54 rfl rfl K7.2 rfl ?_;dsimp only[K7,a3,Nat.reduceAdd];repeat' (first
  |(apply ai ?_;clear hK K)|apply Rx.o ?_|apply aN ?_|(apply dJ ?_;first|refine aY (ke _) ?_|refine aY (kw _) ?_|refine aY (kd _) ?_)|apply cW ?_|(apply aX (fun C Y=>?_) (fun C Y=>?_)<;>try(cases C;done))|(apply aE (fun z V=>?_) (fun z V=>?_)<;>try(cases z;done))|apply ae ?_|(apply ah fun K hK=>?_)|(apply aq 18 [(1,9),(3,9),(7,9),(8,9)] fun K hK=>?_)|(apply aM ?_;try intro _)|(apply aR ?_ ?_<;>clear hK K)|apply aL ?_|apply bu rfl ?_|apply aj ?_|apply ak ?_|apply am ?_|apply ax ?_)
 .all_goals refine qq ?_
  simp_all[gK]
 .all_goals refine qq ?_
  simp_all[gK]
 .all_goals refine qq ?_
  simp_all[gK]
 .refine dG [1] [0] 3 2 (fun r E H=>(1<=r->p.funcs.any (iB p)=false)/\(2<=r->p.funcs.any (j4 p)=false)) eE ⟨aa,aa⟩ ?_;rintro r E H2 hr2 hcE O hnH hsI ⟨hJ1,hJ2⟩;(try simp only[bL,bK,bb,aK,aW,Nat.reduceBEq,Nat.reduceAdd,Nat.reduceLeDiff,tyF, *]at hcE);(try simp only[bL,bK,bb,aK,aW,Nat.reduceBEq,Nat.reduceAdd,Nat.reduceLeDiff,tyF, *]at O);(try simp only[br,bG,cR,bR,Nat.reduceAdd]at hnH);have hB0:(0 == H2.next)=false:=ay aa;have hC0:(H2.next == 0)=false:=ay aa;repeat' (first
   |(apply ai ?_;clear hK K)|apply Rx.o ?_|apply aN ?_|apply cW ?_|(apply aX (fun C Y=>?_) (fun C Y=>?_)<;>try(cases C;done))|(apply aE (fun z V=>?_) (fun z V=>?_)<;>try(cases z;done))|apply ae ?_|(apply ah fun K hK=>?_)|(apply aq 18 [(1,9),(3,9),(7,9),(8,9)] fun K hK=>?_)|(apply aM ?_;try intro _)|(apply aR ?_ ?_<;>clear hK K)|apply aL ?_|apply bu rfl ?_|apply aj ?_|apply ak ?_|apply am ?_|apply ax ?_)
  .have hrlt:r<2:=by omega
   refine dG [1,3] [0] 4 p.funcs.length (fun i E H=>(r=0->p.funcs.any (iB p)=(p.funcs.drop i).any (iB p))/\(r=1->p.funcs.any (j4 p)=(p.funcs.drop i).any (j4 p))) eE ⟨aI,aI⟩ ?_;rintro i E3 J hi hcE O hnH hsI ⟨hU,hB⟩;(try simp only[bL,bK,bb,aK,aW,Nat.reduceBEq,Nat.reduceAdd,Nat.reduceLeDiff,tyF, *]at hcE);(try simp only[bL,bK,bb,aK,aW,Nat.reduceBEq,Nat.reduceAdd,Nat.reduceLeDiff,tyF, *]at O);(try simp only[br,bG,cR,bR,Nat.reduceAdd]at hnH);have hB0:(0 == J.next)=false:=ay aa;have hC0:(J.next == 0)=false:=ay aa;repeat' (first
    |(apply ai ?_;clear hK K)|apply Rx.o ?_|apply aN ?_|apply cW ?_|(apply aX (fun C Y=>?_) (fun C Y=>?_)<;>try(cases C;done))|(apply aE (fun z V=>?_) (fun z V=>?_)<;>try(cases z;done))|apply ae ?_|(apply ah fun K hK=>?_)|(apply aq 18 [(1,9),(3,9),(7,9),(8,9)] fun K hK=>?_)|(apply aM ?_;try intro _)|(apply aR ?_ ?_<;>clear hK K)|apply aL ?_|apply bu rfl ?_|apply aj ?_|apply ak ?_|apply am ?_|apply ax ?_)
   .have hlt:i<p.funcs.length:=by simpa using z
    have hgx:p.funcs[i]?=some p.funcs[i]:=bt hlt;have hsm:=nX (ek hlt);have hsz:p.funcs[i].sz=1+p.funcs[i].name.length+db p.funcs[i].params+db p.funcs[i].ah+a6 p.funcs[i].body+p.funcs[i].value.sz:=rfl;have hpl:=ig p.funcs[i].params;have hll:=ig p.funcs[i].ah;repeat' (first
     |(apply ai ?_;clear hK K)|apply Rx.o ?_|apply aN ?_|apply cW ?_|(apply aX (fun C Y=>?_) (fun C Y=>?_)<;>try(cases C;done))|(apply aE (fun z V=>?_) (fun z V=>?_)<;>try(cases z;done))|apply ae ?_|(apply ah fun K hK=>?_)|(apply aq 18 [(1,9),(3,9),(7,9),(8,9)] fun K hK=>?_)|(apply aM ?_;try intro _)|(apply aR ?_ ?_<;>clear hK K)|apply aL ?_|apply bu rfl ?_|apply aj ?_|apply ak ?_|apply am ?_|apply ax ?_)
    generalize hHb:Hp.set (Hp.alloc J _) J.next _=o
    have nb:J.next+1<=o.next:=by rw[<-hHb];exact aT _
    have gb:o.get J.next=some (.cells p.funcs[i].cells 0 true):=by rw[<-hHb,aO,au rfl]
    have gb0:o.get 0=some (.cells p.cells 0 true):=by rw[<-hHb,aO,ad aa,aP,ad aa];exact O
    clear hHb;refine IV (id:=14) (ord:=[0,1,2,4,5,7,9,3,6,8,10]) (need:=[(0,7),(2,7),(4,7),(4,8),(5,7),(5,8),(5,10),(6,7),(6,8),(6,10)]) aA aA aA EP aA fun K hK=>?_;have ebB:(J.next == o.next)=false:=ce;have eb0:(0 == o.next)=false:=ce;have eb1:(0 == o.next+1)=false:=aI;have eb2:(J.next == o.next+1)=false:=ce;repeat' (first
     |(apply ai ?_;clear hK K)|apply Rx.o ?_|apply aN ?_|apply cW ?_|(apply aX (fun C Y=>?_) (fun C Y=>?_)<;>try(cases C;done))|(apply aE (fun z V=>?_) (fun z V=>?_)<;>try(cases z;done))|apply ae ?_|(apply ah fun K hK=>?_)|(apply aq 18 [(1,9),(3,9),(7,9),(8,9)] fun K hK=>?_)|(apply aM ?_;try intro _)|(apply aR ?_ ?_<;>clear hK K)|apply aL ?_|apply bu rfl ?_|apply aj ?_|apply ak ?_|apply am ?_|apply ax ?_)
    generalize hHd:(o.alloc qc).alloc qi=Hd;have nd:o.next+2<=Hd.next:=by rw[<-hHd];exact aT _
    have ndx:Hd.next<=o.next+2:=by rw[<-hHd];exact aT _
    have oldd:∀k,k<o.next->Hd.get k=o.get k:=fun k U=>by rw[<-hHd,aP,ad bY,aP,ad aa]
    have gd1:Hd.get o.next=some qc:=by rw[<-hHd,aP,ad bY,aP,au rfl]
    have gds:Hd.get (o.next+1)=some qi:=by rw[<-hHd,aP,au (show o.next+1=(o.alloc _).next from rfl)]
    have gdb:Hd.get J.next=some (.cells p.funcs[i].cells 0 true):=by rw[oldd _ aa];exact gb
    have gd0:Hd.get 0=some (.cells p.cells 0 true):=by rw[oldd _ aa];exact gb0
    clear hHd;have s8:dH Hd (.sl o.next 0 0 1) [] o.next:=⟨o.next,0,rfl,gd1,aI,aT _,aa⟩
    have ow8:∀k,dk (.sl o.next 0 0 1) k->k=o.next:=fun k ⟨n,e⟩=>Fz
    obtain⟨w9,H9,a9,s9,n9,f9,o9⟩:=tB p.funcs[i].params s8 aa ce;have ow9:∀k,dk w9 k->k=o.next\/o.next+2<=k:=fun k U=>(o9.2 k U).elim (fun h=>.inl (ow8 k h)) (fun h=>.inr aa)
    have g9s:H9.get (o.next+1)=some qi:=by rw[o9.1 _ aa (fun h=>by have:=ow8 _ h;omega)];exact gds
    have g9b:H9.get J.next=some (.cells p.funcs[i].cells 0 true):=by rw[o9.1 _ aa (fun h=>by have:=ow8 _ h;omega)];exact gdb
    have g90:H9.get 0=some (.cells p.cells 0 true):=by rw[o9.1 _ aa (fun h=>by have:=ow8 _ h;omega)];exact gd0
    refine jF dK dK (by rw[hkeep];exact a9) ?_;repeat' (first
     |(apply ai ?_;clear hK K)|apply Rx.o ?_|apply aN ?_|apply cW ?_|(apply aX (fun C Y=>?_) (fun C Y=>?_)<;>try(cases C;done))|(apply aE (fun z V=>?_) (fun z V=>?_)<;>try(cases z;done))|apply ae ?_|(apply ah fun K hK=>?_)|(apply aq 18 [(1,9),(3,9),(7,9),(8,9)] fun K hK=>?_)|(apply aM ?_;try intro _)|(apply aR ?_ ?_<;>clear hK K)|apply aL ?_|apply bu rfl ?_|apply aj ?_|apply ak ?_|apply am ?_|apply ax ?_)
    obtain⟨Z,H11,a11,s11,n11,f11,o11⟩:=tB p.funcs[i].ah s9 aa ce;have ow11:∀k,dk Z k->k=o.next\/o.next+2<=k:=fun k U=>(o11.2 k U).elim (fun h=>ow9 k h) (fun h=>.inr aa)
    have g11s:H11.get (o.next+1)=some qi:=by rw[o11.1 _ aa (fun h=>by have:=ow9 _ h;omega)];exact g9s
    have g11b:H11.get J.next=some (.cells p.funcs[i].cells 0 true):=by rw[o11.1 _ aa (fun h=>by have:=ow9 _ h;omega)];exact g9b
    have g110:H11.get 0=some (.cells p.cells 0 true):=by rw[o11.1 _ aa (fun h=>by have:=ow9 _ h;omega)];exact g90
    refine jF dK dK (by rw[hkeep];exact a11) ?_;have hbs:cQ prog 169 [(0,Z),(2,.agg p.cells)]=some (.agg [Z,.ab,.ai (p.af.map Ar.cells),.ai (p.funcs.map Fu.cells)]):=by
     obtain⟨q,imm,hq,_⟩:=s11;rw[hq];exact Xa p _ _
    have hone:=s11.one;have h1o:=hone.1;repeat' (first
     |(apply ai ?_;clear hK K)|apply Rx.o ?_|apply aN ?_|apply cW ?_|(apply aX (fun C Y=>?_) (fun C Y=>?_)<;>try(cases C;done))|(apply aE (fun z V=>?_) (fun z V=>?_)<;>try(cases z;done))|apply ae ?_|(apply ah fun K hK=>?_)|(apply aq 18 [(1,9),(3,9),(7,9),(8,9)] fun K hK=>?_)|(apply aM ?_;try intro _)|(apply aR ?_ ?_<;>clear hK K)|apply aL ?_|apply bu rfl ?_|apply aj ?_|apply ak ?_|apply am ?_|apply ax ?_)
    .exact di
    generalize hH12:Hp.set H11 (o.next+1) _=S;have n12:H11.next<=S.next:=by rw[<-hH12];exact aT _
    have F:∀k,k≠o.next+1->S.get k=H11.get k:=fun k U=>by rw[<-hH12,aO,ad U]
    have g12s:S.get (o.next+1)=some (.cells [Z,.ab,.ai (p.af.map Ar.cells),.ai (p.funcs.map Fu.cells)] 0 true):=by rw[<-hH12,aO,au rfl]
    have g12b:S.get J.next=some (.cells p.funcs[i].cells 0 true):=by rw[F _ aa];exact g11b
    have g120:S.get 0=some (.cells p.cells 0 true):=by rw[F _ aa];exact g110
    have s12:dH S Z (p.funcs[i].params++p.funcs[i].ah) o.next:=s11.aj n12 fun k U=>F k fun e=>by have:=ow11 k U;omega
    have cw:∀k,dk Z k->k<S.next:=fun k U=>(s12.lt U).2
    have m12:o.next+2<=S.next:=aa
    have hfl:(p.funcs[i].params++p.funcs[i].ah).length<2^38:=ce;clear hH12 F s11 a11 o11 f11 a9 o9 f9 s9 s8 gds gdb gd1 gd0 g9s g9b g90 g11s g11b g110 hbs n9 n11 oldd ow9 ow8 gb gb0 hone;have hnoS:∀k,dk Z k->k≠o.next+1/\J.next<k:=fun k U=>by have:=ow11 k U;omega
    clear ow11;refine dG [1,3,4,5,6] [0,J.next] 7 p.af.length (fun j E H=>∃a seen,H.get (o.next+1)=some (.cells [Z,a,.ai (p.af.map Ar.cells),.ai (p.funcs.map Fu.cells)] 0 true)/\em H a seen S.next/\dH H Z (p.funcs[i].params++p.funcs[i].ah) o.next/\sj (a7 p) seen j/\AV.one a=true) eE ⟨.ab,[],g12s,.inl ⟨rfl,rfl⟩,s12,by simp[sj],rfl⟩ ?_;rintro j E4 I hj hcE O hnH hsI ⟨a,seen,g4s,s4,t4,hsn,hoa⟩;(try simp only[bL,bK,bb,aK,aW,Nat.reduceBEq,Nat.reduceAdd,Nat.reduceLeDiff,tyF,g120,g12b, *]at hcE);(try simp only[bL,bK,bb,aK,aW,Nat.reduceBEq,Nat.reduceAdd,Nat.reduceLeDiff,tyF,g120,g12b, *]at O);(try simp only[br,bG,cR,bR,Nat.reduceAdd]at hnH);have hB0:(0 == I.next)=false:=ay aa;have hC0:(I.next == 0)=false:=ay aa;have hB1:(J.next == I.next)=false:=ay aa;have hC1:(I.next == J.next)=false:=ay aa;have hsl:seen.length<=p.af.length:=by have:a7 p=seen++(a7 p).drop j:=hsn;have:=lB List.length this;rw[lA]at this;omega
    have hdU:(p.funcs.drop i).any (iB p)=(iB p p.funcs[i]||(p.funcs.drop (i+1)).any (iB p)):=KM;have hdB:(p.funcs.drop i).any (j4 p)=(j4 p p.funcs[i]||(p.funcs.drop (i+1)).any (j4 p)):=KM;have hend:j=(a7 p).length->em I a (a7 p) S.next:=fun hje=>by
     unfold sj at hsn;rw[hje,gy,iS]at hsn;rw[<-hsn]at s4;exact s4
    have hd:∀k,dk a k->¬dk Z k:=fun k h1 h2=>by have:=(s4.lt h1).1;have:=cw k h2;omega
    have hz60:p.sz<2^60:=aa;have hf60:p.funcs[i].sz<2^60:=aa;have nw:∀k,k<=J.next\/k=o.next+1->¬dk Z k:=fun k U h=>by have:=hnoS k h;omega
    have na:∀k,k<=J.next\/k=o.next+1->¬dk a k:=fun k U h=>by have:=(s4.lt h).1;omega
    have g4b:I.get J.next=some (.cells p.funcs[i].cells 0 true):=O.2
    have g40:I.get 0=some (.cells p.cells 0 true):=O.1;have gh0:=@B0;repeat' (first
     |(apply ai ?_;clear hK K)|apply Rx.o ?_|apply aN ?_|apply cW ?_|(apply aX (fun C Y=>?_) (fun C Y=>?_)<;>try(cases C;done))|(apply aE (fun z V=>?_) (fun z V=>?_)<;>try(cases z;done))|apply ae ?_|(apply ah fun K hK=>?_)|(apply aq 18 [(1,9),(3,9),(7,9),(8,9)] fun K hK=>?_)|(apply aM ?_;try intro _)|(apply aR ?_ ?_<;>clear hK K)|apply aL ?_|apply bu rfl ?_|apply aj ?_|apply ak ?_|apply am ?_|apply ax ?_)
    .have hlt2:j<p.af.length:=by simpa using z
     have hgx2:p.af[j]?=some p.af[j]:=bt hlt2;have hgn:(a7 p)[j]' aa=p.af[j].name:=tE;have hsn2:=KY aa hsn;rw[hgn]at hsn2;repeat' (first
      |(apply ai ?_;clear hK K)|apply Rx.o ?_|apply aN ?_|apply cW ?_|(apply aX (fun C Y=>?_) (fun C Y=>?_)<;>try(cases C;done))|(apply aE (fun z V=>?_) (fun z V=>?_)<;>try(cases z;done))|apply ae ?_|(apply ah fun K hK=>?_)|(apply aq 18 [(1,9),(3,9),(7,9),(8,9)] fun K hK=>?_)|(apply aM ?_;try intro _)|(apply aR ?_ ?_<;>clear hK K)|apply aL ?_|apply bu rfl ?_|apply aj ?_|apply ak ?_|apply am ?_|apply ax ?_)
     have m:∀k,k<I.next->(I.alloc (.cells [.ae p.af[j].name] 0 true)).get k=I.get k:=fun k U=>fX
     have g4e:(I.alloc (.cells [.ae p.af[j].name] 0 true)).get (o.next+1)=some (.cells [Z,a,.ai (p.af.map Ar.cells),.ai (p.funcs.map Fu.cells)] 0 true):=by rw[m _ aa];exact g4s
     have g40e:(I.alloc (.cells [.ae p.af[j].name] 0 true)).get 0=some (.cells p.cells 0 true):=by rw[m _ aa];exact O.1
     have g4n:(I.alloc (.cells [.ae p.af[j].name] 0 true)).get I.next=some (.cells [.ae p.af[j].name] 0 true):=fN
     have s4b:em (I.alloc (.cells [.ae p.af[j].name] 0 true)) a seen S.next:=s4.aj (eT _) fun k U=>m k (s4.lt U).2
     obtain⟨dt,A,q5,s5,n5,f5,o5⟩:=wG (r:=I.next) (imm:=0) p.af[j].name s4b bY g4n aa;simp only[br]at n5;have m5:I.next+2<=A.next:=aa
     clear n5;have g5s:A.get (o.next+1)=some (.cells [Z,a,.ai (p.af.map Ar.cells),.ai (p.funcs.map Fu.cells)] 0 true):=by rw[f5 _ aa];exact g4e
     have g5b:A.get J.next=some (.cells p.funcs[i].cells 0 true):=by rw[f5 _ aa,m _ aa];exact g4b
     have g50:A.get 0=some (.cells p.cells 0 true):=by rw[f5 _ aa];exact g40e
     have t5:dH A Z (p.funcs[i].params++p.funcs[i].ah) o.next:=t4.aj aa fun k U=>by rw[f5 k (cw k U),m k (t4.lt U).2]
     have h5:=s5.one;have h5o:=h5.1;have h5c:=h5.2;refine jF dK dK (by rw[hkeep];exact q5) ?_;repeat' (first
      |(apply ai ?_;clear hK K)|apply Rx.o ?_|apply aN ?_|apply cW ?_|(apply aX (fun C Y=>?_) (fun C Y=>?_)<;>try(cases C;done))|(apply aE (fun z V=>?_) (fun z V=>?_)<;>try(cases z;done))|apply ae ?_|(apply ah fun K hK=>?_)|(apply aq 18 [(1,9),(3,9),(7,9),(8,9)] fun K hK=>?_)|(apply aM ?_;try intro _)|(apply aR ?_ ?_<;>clear hK K)|apply aL ?_|apply bu rfl ?_|apply aj ?_|apply ak ?_|apply am ?_|apply ax ?_)
     .exact di
     generalize hH6:Hp.set A (o.next+1) _=H6;have n6:A.next<=H6.next:=by rw[<-hH6];exact aT _
     have old6:∀k,k≠o.next+1->H6.get k=A.get k:=fun k U=>by rw[<-hH6,aO,ad U]
     have g6s:H6.get (o.next+1)=some (.cells [Z,dt,.ai (p.af.map Ar.cells),.ai (p.funcs.map Fu.cells)] 0 true):=by rw[<-hH6,aO,au rfl]
     have g60:H6.get 0=some (.cells p.cells 0 true):=by rw[old6 _ aa];exact g50
     have g6b:H6.get J.next=some (.cells p.funcs[i].cells 0 true):=by rw[old6 _ aa];exact g5b
     clear hH6;refine⟨aa,bM,bM,dr,vd,?_⟩;exact⟨dt,seen++[p.af[j].name],g6s,.inr (s5.aj n6 fun k U=>old6 k (by have:=(s5.lt U).1;omega)),t5.aj n6 (fun k U=>old6 k (hnoS k U).1),hsn2,h5o⟩
    .have hr0:r=0:=by omega
     have s4':=hend aa;refine qa ?_;refine a4 ?_ (Ld t4 s4' hd hz60 hf60 false aI);rintro v0 A ⟨rfl,t5,s5,m5,o5⟩;dsimp only[a0];have g5s:A.get (o.next+1)=some (.cells [Z,a,.ai (p.af.map Ar.cells),.ai (p.funcs.map Fu.cells)] 0 true):=KQ;have g5b:A.get J.next=some (.cells p.funcs[i].cells 0 true):=KR
     have g50:A.get 0=some (.cells p.cells 0 true):=KS;have hd5:∀k,dk a k->¬dk Z k:=hd;have gh0:=@B0;repeat' (first
      |(apply ai ?_;clear hK K)|apply Rx.o ?_|apply aN ?_|apply cW ?_|(apply aX (fun C Y=>?_) (fun C Y=>?_)<;>try(cases C;done))|(apply aE (fun z V=>?_) (fun z V=>?_)<;>try(cases z;done))|apply ae ?_|(apply ah fun K hK=>?_)|(apply aq 18 [(1,9),(3,9),(7,9),(8,9)] fun K hK=>?_)|(apply aM ?_;try intro _)|(apply aR ?_ ?_<;>clear hK K)|apply aL ?_|apply bu rfl ?_|apply aj ?_|apply ak ?_|apply am ?_|apply ax ?_)
     .refine qa ?_;refine a4 ?_ (W9 t5 s5 hd5 hz60 hf60);rintro v0 H6 ⟨rfl,t6,s6,m6,o6⟩;dsimp only[a0];have g6s:H6.get (o.next+1)=some (.cells [Z,a,.ai (p.af.map Ar.cells),.ai (p.funcs.map Fu.cells)] 0 true):=by rw[o6 _ (nw _ aa) (na _ aa)];exact g5s
      have g6b:H6.get J.next=some (.cells p.funcs[i].cells 0 true):=by rw[o6 _ (nw _ aa) (na _ aa)];exact g5b
      have g60:H6.get 0=some (.cells p.cells 0 true):=by rw[o6 _ (nw _ aa) (na _ aa)];exact g50
      have gh0:=@B0;repeat' (first
       |(apply ai ?_;clear hK K)|apply Rx.o ?_|apply aN ?_|apply cW ?_|(apply aX (fun C Y=>?_) (fun C Y=>?_)<;>try(cases C;done))|(apply aE (fun z V=>?_) (fun z V=>?_)<;>try(cases z;done))|apply ae ?_|(apply ah fun K hK=>?_)|(apply aq 18 [(1,9),(3,9),(7,9),(8,9)] fun K hK=>?_)|(apply aM ?_;try intro _)|(apply aR ?_ ?_<;>clear hK K)|apply aL ?_|apply bu rfl ?_|apply aj ?_|apply ak ?_|apply am ?_|apply ax ?_)
      .all_goals refine qq ?_
       have hu:p.funcs.any (iB p)=true:=KN;rw[gK,hu];(try simp only[cq]at *);simp only[reduceCtorEq,eq_self, *,cr,bw,bH,Int.reduceEq]
      .refine⟨aa,bM,bM,dr,o0,?_⟩;refine⟨fun _=>?_,fun h=>aa⟩;rw[hU hr0,hdU,iB];(try simp only[cq]at *);simp only[ *,cr,bw,bH,Int.reduceEq]
     .all_goals refine qq ?_
      have hu:p.funcs.any (iB p)=true:=KN;rw[gK,hu];(try simp only[cq]at *);simp only[reduceCtorEq,eq_self, *,cr,bw,bH,Int.reduceEq]
    .have hr1:r=1:=by omega
     have s4':=hend aa;have hJ1':=hJ1 aa;have hcal:mY p p.funcs[i].body=true:=by
      have hu:iB p p.funcs[i]=false:=by
       have:=oR.1 hJ1' _ (ek hlt);simpa using this
      unfold iB at hu;rw[tz,cN]at hu;exact B3 _ hu.1
     refine qa ?_;refine a4 ?_ (Ld t4 s4' hd hz60 hf60 true (fun _=>hcal));rintro v0 A ⟨rfl,t5,s5,m5,o5⟩;dsimp only[a0];have g5s:A.get (o.next+1)=some (.cells [Z,a,.ai (p.af.map Ar.cells),.ai (p.funcs.map Fu.cells)] 0 true):=KQ;have g5b:A.get J.next=some (.cells p.funcs[i].cells 0 true):=KR
     have g50:A.get 0=some (.cells p.cells 0 true):=KS;have gh0:=@B0;repeat' (first
      |(apply ai ?_;clear hK K)|apply Rx.o ?_|apply aN ?_|apply cW ?_|(apply aX (fun C Y=>?_) (fun C Y=>?_)<;>try(cases C;done))|(apply aE (fun z V=>?_) (fun z V=>?_)<;>try(cases z;done))|apply ae ?_|(apply ah fun K hK=>?_)|(apply aq 18 [(1,9),(3,9),(7,9),(8,9)] fun K hK=>?_)|(apply aM ?_;try intro _)|(apply aR ?_ ?_<;>clear hK K)|apply aL ?_|apply bu rfl ?_|apply aj ?_|apply ak ?_|apply am ?_|apply ax ?_)
     .all_goals refine qq ?_
      have hu:p.funcs.any (j4 p)=true:=by rw[hB hr1,hdB,j4];(try simp only[cq]at *);simp only[ *,cr,bw,bH,Int.reduceEq]
      rw[gK,hJ1',hu];(try simp only[cq]at *);simp only[reduceCtorEq,eq_self, *,cr,bw,bH,Int.reduceEq]
     .refine⟨aa,bM,bM,dr,o0,?_⟩;refine⟨fun h=>aa,fun _=>?_⟩;rw[hB hr1,hdB,j4];(try simp only[cq]at *);simp only[ *,cr,bw,bH,Int.reduceEq]
    .omega
   .have hie:i=p.funcs.length:=by simp at z;omega
    rw[hie,gy]at hU hB;refine⟨aa,bM,bM,dr,(by simp only[aK,Nat.reduceBEq, *];exact jV (n:=2) aa aa),?_⟩;refine⟨fun h=>?_,fun h=>?_⟩
    .by_cases h0:r=0
     .rw[hU h0];rfl
     .exact hJ1 aa
    .rw[hB aa];rfl
  .all_goals refine qq ?_
   have hr:r=2:=aa;subst hr;have h1:=hJ1 aa;have h2:=hJ2 aa;rw[gK];(try simp only[cq]at *);simp only[reduceCtorEq,eq_self, *,cr,bw,bH,Int.reduceEq])
end
section
def fG(p:Pr):qo:=p.funcs.map (·.name)
def ox(p:Pr):Bool:=cT [] (a7 p)||cT [] (fG p)||p.funcs.any fun f=>cT [] (a7 p++(f.params++f.ah))
theorem Le:∀(a b seen:qo),cT seen (a++b)=(cT seen a||cT (seen++a) b)
 |[],b,seen=>by simp[cT]
 |x::a,b,seen=>by rw[jW,cT,cT,Le a b,kP,DZ,Bool.or_assoc]
theorem B4(S:qo):∀(U:qG) (seen:qo),si S seen U=(cT seen (U.map (·.name))||U.any fun f=>cT S (f.params++f.ah))
 |[],seen=>rfl
 |f::U,seen=>by
  rw[si,el,cT,oc,B4 S U];cases bC seen f.name<;>cases cT S (f.params++f.ah)<;>cases cT (seen++[f.name]) (U.map (·.name))<;>rfl
def Lf(p:Pr):ox p=kE p:=by
 rw[ox,kE,B4];cases h:cT [] (a7 p)
 .have e:(fun f:Fu=>cT [] (a7 p++(f.params++f.ah)))=fun f=>cT (a7 p) (f.params++f.ah):=by
   funext f;rw[Le,h];rfl
  rw[e];rfl
 .rfl
def fL:qG->List (aS×Int)->List (aS×Int)
 |[],m=>m
 |f::l,m=>fL l (setV m f.name f.params.length)
theorem tI(s a:aS)(x:Int):∀m:List (aS×Int),de (setV m a x) s=if s=a then x else de m s
 |[]=>by simp[setV,de]
 |q::l=>by
  by_cases h:a=q.1
  .simp only[setV,h,bw,de];split<;>rfl
  .simp only[setV,h,bH,de,tI s a x l];by_cases Z:s=q.1
   .rw[au Z,au Z,ad (fun e=>h (by rw[<-e,Z]))]
   .rw[ad Z,ad Z]
theorem FI(s a:aS)(x:Int):∀m:List (aS×Int),fJ (setV m a x) s=(decide (s=a)||fJ m s)
 |[]=>by
  by_cases h:s=a<;>simp[setV,fJ,h]
 |q::l=>by
  by_cases h:a=q.1
  .by_cases Z:s=q.1<;>simp[setV,fJ,h,Z]
  .have e:=FI s a x l;by_cases Z:s=q.1
   .simp[setV,fJ,h,Z]
   .simp[setV,fJ,h,Z,e]
def oy(a b:qo)(s:qr):bC (a++b) s=(bC a s||bC b s):=by unfold bC;rw[List.any_append]
def rh(a s:qr):bC [a] s=decide (s=a):=by
 unfold bC;simp only[oc,wD,nW];by_cases h:s=a
 .simp[h]
 .have:¬a=s:=fun e=>h e.symm;simp[h,this]
theorem Lg(s:aS):∀(l:qG) (m:List (aS×Int)),fJ (fL l m) s=(fJ m s||bC (l.map (·.name)) s)
 |[],m=>by simp[fL,bC]
 |f::l,m=>by
  rw[fL,Lg s l,FI,el,show f.name::l.map (·.name)=[f.name]++l.map (·.name)from rfl,oy,rh];cases decide (s=f.name)<;>cases fJ m s<;>simp
theorem Lh(s:aS):∀(l:qG) (m:List (aS×Int)),bC (l.map (·.name)) s=false->de (fL l m) s=de m s
 |[],m,_=>rfl
 |f::l,m,h=>by
  rw[el,show f.name::l.map (·.name)=[f.name]++l.map (·.name)from rfl,oy,rh,fP,iX]at h;rw[fL,Lh s l _ h.2,tI,ad h.1]
theorem B5:∀(l seen:qo),cT seen l=false->∀s,bC seen s=true->bC l s=false
 |[],_,_,_,_=>rfl
 |a::l,seen,h,s,hs=>by
  rw[cT,fP]at h;rw[show a::l=[a]++l from rfl,oy,rh,B5 l _ h.2 s (by rw[oy,hs];rfl),nW,iX];intro e;rw[<-e]at h;rw[hs]at h;simp at h
theorem Li:∀(l:qG) (s:qr) (i:Int),0<=i->(bC (l.map (·.name)) s=decide (0<=cm l s i))
 |[],s,i,_=>by simp[bC,cm]
 |f::l,s,i,hi=>by
  rw[el,show f.name::l.map (·.name)=[f.name]++l.map (·.name)from rfl,oy,rh,cm];by_cases h:f.name=s
  .rw[au h,mU h.symm,wd];simpa using hi
  .rw[ad h,wJ (fun e=>h e.symm),nP,Li l s (i+1) aa]
theorem Lj(p:Pr)(s:aS):∀(l:qG) (seen:qo) (m:List (aS×Int)) (i:Nat),p.funcs.drop i=l->cT seen (l.map (·.name))=false->0<=cm l s i ->
 ∃f,p.funcs[(cm l s i).toNat]?=some f/\de (fL l m) s=f.params.length
 |[],_,_,i,_,_,h=>by simp[cm]at h
 |f::l,seen,m,i,hd,hn,h=>by
  have z:i<p.funcs.length:=by
   have:=lB List.length hd;simp at this;omega
  rw[fR z,ew]at hd;rw[el,cT,fP]at hn;rw[cm]at h⊢;by_cases e:f.name=s
  .rw[au e];refine⟨f,?_,?_⟩
   .rw[yD,bt z,hd.1]
   .have A:bC (l.map (·.name)) s=false:=B5 _ _ hn.2 s KO;rw[fL,Lh s l _ A,tI,au e.symm]
  .rw[ad e]at h⊢;exact Lj p s l (seen++[f.name]) _ (i+1) hd.2 hn.2 h
theorem Xd(p:Pr)(s:aS):fJ (fL p.funcs []) s=decide (0<=cm p.funcs s 0):=by
 rw[Lg,Li _ _ 0 aa];rfl
theorem Xe(hd:cT [] (fG p)=false){s:aS}(h:0<=cm p.funcs s 0):de (fL p.funcs []) s=j3 p s:=by
 obtain⟨f,j,m⟩:=Lj p s p.funcs [] [] 0 rfl hd h;have S:p.funcs[(cm p.funcs s 0).toNat]?=some f:=j;rw[m,j3,S];rfl
def mo(V:List (aS×Int))(vs S:qo)(x:St)(_:Int)(w:Bool):Bool×Bool:=
 if x.ag=1 then (bC vs x.name,w)
 else if x.ag=2 then (bC S x.name,w)
 else if x.ag=6 then (fJ V x.to&&bC vs x.name,w||(fJ V x.to && !decide (de V x.to=(x.args.length:Int))))
 else (true,w)
def sk(V:List (aS×Int))(S:qo):qG->Bool->Int
 |[],w=>if w=true then 5 else 0
 |f::fs,w=>if nZ (fun x _=>iA (f.params++f.ah) S x) f=true/\(eO (mo V (f.params++f.ah) S) f.body 0 w).1=true then sk V S fs (eO (mo V (f.params++f.ah) S) f.body 0 w).2 else 3
def vo(p:Pr):Int:=sk (fL p.funcs []) (a7 p) p.funcs false
def FJ(p:Pr):Int:=if kA p=false then 6 else if gY p=false then 2 else if ox p=true then 4 else vo p
mutual
theorem FK(vs S:qo):∀(x:Ex) (d:Int),lF (fun x _=>iA vs S x) x d=dN vs S x
 | .mk k n s o M,d=>by rw[lF,dN,FL vs S M,Bool.and_comm]
theorem FL(vs S:qo):∀(l:qz) (d:Int),iK (fun x _=>iA vs S x) l d=eM vs S l
 |[],_=>rfl
 |x::l,d=>by rw[iK,eM,FK vs S x,FL vs S l]
end
section
variable (c:Sc)
mutual
def vp:St->Bool
 | .mk _ _ _ _ a v j U V=>dN c.vars c.an a&&dN c.vars c.an v&&eM c.vars c.an j&&m0 U&&m0 V
def m0:qt->Bool
 |[]=>true
 |x::l=>vp x&&m0 l
end
mutual
def tJ:St->Bool
 | .mk k C S n a v j U V=>i7 c (.mk k C S n a v j U V)&&j5 U&&j5 V
def j5:qt->Bool
 |[]=>true
 |x::l=>tJ x&&j5 l
end
mutual
theorem Xf:∀(x:St) (d:Int),jX (nY fun x _=>iA c.vars c.an x) x d ()=(vp c x,())
 | .mk k C S n a v j U V,d=>by
   rw[jX,nY,vp];simp only[St.aL,St.value,St.args,FK,FL];cases h:dN c.vars c.an a&&dN c.vars c.an v&&eM c.vars c.an j
   .simp
   .simp only[B6 U,iV];cases m:m0 c U
    .simp
    .simp only[B6 V,iV]
theorem B6:∀(l:qt) (d:Int),eO (nY fun x _=>iA c.vars c.an x) l d ()=(m0 c l,())
 |[],_=>rfl
 |x::l,d=>by
  rw[eO,Xf x,m0];cases h:vp c x
  .simp
  .simp only[B6 l,iV]
end
mutual
theorem Xg:∀x:St,fl c false x=(vp c x&&tJ c x)
 | .mk k C S n a v j U V=>by
   rw[fl,vp,tJ,B7 U,B7 V,nS,iO];simp only[St.aL,St.value,St.args];cases dN c.vars c.an a<;>cases dN c.vars c.an v<;>cases eM c.vars c.an j<;>cases i7 c (.mk k C S n a v j U V)<;>cases m0 c U<;>cases j5 c U<;>cases m0 c V<;>cases j5 c V<;>rfl
theorem B7:∀l:qt,cO c false l=(m0 c l&&j5 c l)
 |[]=>rfl
 |x::l=>by
  rw[cO,m0,j5,Xg x,B7 l];cases vp c x<;>cases tJ c x<;>cases m0 c l<;>cases j5 c l<;>rfl
end
end
def Xh(hd:cT [] (fG p)=false)(c:Sc)(K:c.p=p)(x:St)(d:Int)(w:Bool):
 (i7 c x=true->mo (fL p.funcs []) c.vars c.an x d w=(true,w || !jt p x))/\(i7 c x=false->(mo (fL p.funcs []) c.vars c.an x d w).1=false):=by
 unfold mo i7 jt;rw[K];by_cases j:x.ag=1
 .have C:¬x.ag=6:=by omega
  simp only[j,bw,Int.reduceEq,jC,mc,l4,pL,nW];exact⟨fun h=>by rw[h],fun h=>h⟩
 .by_cases C:x.ag=6
  .simp only[C,Int.reduceEq,bH,bw,oM,iV,Bool.not_not,Xd];cases h:decide (0<=cm p.funcs x.to 0)
   .simp
   .rw[Xe hd (pZ h),jl,iV,iV];refine⟨fun h=>?_,fun h=>h⟩;rw[h];have e:decide ((j3 p x.to:Int)=(x.args.length:Int))=decide ((x.args.length:Int)=(j3 p x.to:Int)):=by
     by_cases q:(j3 p x.to:Int)=(x.args.length:Int)
     .rw[mU q,mU q.symm]
     .rw[wJ q,wJ (fun e=>q e.symm)]
    rw[e]
  .by_cases m:x.ag=2
   .simp only[m,Int.reduceEq,bH,bw,jC,mc,l4,pL,nW];exact⟨fun h=>by rw[h],fun h=>h⟩
   .simp only[j,m,C,bH,jC,mc,l4,pL,nW];exact⟨fun _=>aI,fun h=>lC⟩
section
variable {p:Pr} (hd:cT [] (fG p)=false) (c:Sc) (hc:c.p=p)
include hd hc
mutual
theorem Xi:∀(x:St) (d:Int) (w:Bool),(tJ c x=true->jX (mo (fL p.funcs []) c.vars c.an) x d w=(true,w || !fl c true x))/\(tJ c x=false->(jX (mo (fL p.funcs []) c.vars c.an) x d w).1=false)
 | .mk k C S n a v j U V,d,w=>by
   have I:=Xh hd c hc (.mk k C S n a v j U V) d w;rw[jX,tJ,fl,fF,hc];cases F:i7 c (.mk k C S n a v j U V)
   .have:=I.2 F;generalize mo _ _ _ _ _ _=r at this⊢;obtain⟨b,s⟩:=r;simp only at this;subst this;simp
   .rw[I.1 F];simp only[iV];have Z:=B8 U (bA (d+1)) (w || !jt p (.mk k C S n a v j U V));cases o:j5 c U
    .have:=Z.2 o;generalize eO _ U _ _=r at this⊢;obtain⟨b,s⟩:=r;simp only at this;subst this;simp
    .rw[Z.1 o];simp only[iV];have m:=B8 V (bA (d+1)) ((w || !jt p (.mk k C S n a v j U V)) || !cO c true U);cases K:j5 c V
     .exact⟨fun h=>lC,fun _=>m.2 K⟩
     .refine⟨fun _=>?_,fun h=>lC⟩;rw[m.1 K]
      congr 1
      cases w<;>cases jt p (.mk k C S n a v j U V)<;>cases cO c true U<;>cases cO c true V<;>rfl
theorem B8:∀(l:qt) (d:Int) (w:Bool),(j5 c l=true->eO (mo (fL p.funcs []) c.vars c.an) l d w=(true,w || !cO c true l))/\(j5 c l=false->(eO (mo (fL p.funcs []) c.vars c.an) l d w).1=false)
 |[],d,w=>by
  rw[eO,j5,cO];exact⟨fun _=>aI,fun h=>lC⟩
 |x::l,d,w=>by
  have I:=Xi x d w;rw[eO,j5,cO];cases F:tJ c x
  .have:=I.2 F;generalize jX _ x _ _=r at this⊢;obtain⟨b,s⟩:=r;simp only at this;subst this;simp
  .rw[I.1 F];simp only[iV];have m:=B8 l d (w || !fl c true x);cases K:j5 c l
   .exact⟨fun h=>lC,fun _=>m.2 K⟩
   .refine⟨fun _=>?_,fun h=>lC⟩;rw[m.1 K]
    congr 1
    cases w<;>cases fl c true x<;>cases cO c true l<;>rfl
end
end
theorem Lk{p:Pr}(hd:cT [] (fG p)=false):∀(l:qG) (w:Bool),sk (fL p.funcs []) (a7 p) l w=if l.any (iB p)=true then 3 else if (w||l.any (j4 p))=true then 5 else 0
 |[],w=>by simp[sk]
 |f::fs,w=>by
  have o:=B8 hd (fK p f) rfl f.body 0 w;have U:(fK p f).vars=f.params++f.ah:=rfl;have V:(fK p f).an=a7 p:=rfl;rw[U,V]at o;have C:nZ (fun x _=>iA (f.params++f.ah) (a7 p) x) f=(dN (f.params++f.ah) (a7 p) f.value&&m0 (fK p f) f.body):=by
   rw[nZ,FK];have:=B6 (fK p f) f.body 0;rw[U,V]at this;rw[this]
  have j:iB p f=!(nZ (fun x _=>iA (f.params++f.ah) (a7 p) x) f&&j5 (fK p f) f.body):=by
   rw[iB,C,B7,U,V];cases dN (f.params++f.ah) (a7 p) f.value<;>cases m0 (fK p f) f.body<;>cases j5 (fK p f) f.body<;>rfl
  rw[sk,oc,oc,j];cases Z:nZ (fun x _=>iA (f.params++f.ah) (a7 p) x) f
  .simp
  .cases m:j5 (fK p f) f.body
   .simp[o.2 m]
   .rw[o.1 m];simp only[nT,bw,yp,pL,nP];rw[Lk hd fs]
    congr 2
    rw[j4];cases w<;>simp
def Xj(p:Pr):FJ p=gK p:=by
 unfold FJ gK;rw[WE,Lf];cases j:i6 p
 .simp only[l4,x8,dg,bH];cases m:gY p
  .rfl
  .simp only[x8,bH];cases A:kE p
   .simp only[dg,bH];have hd:cT [] (fG p)=false:=by
     rw[<-Lf,ox,fP,fP]at A;exact A.1.2
    rw[vo,Lk hd];simp
   .rfl
 .rfl
end
end Go.Proofs.YtbflaciihaijgaaGreat
