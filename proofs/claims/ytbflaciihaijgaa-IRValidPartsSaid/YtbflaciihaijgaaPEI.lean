/- Lemmas for the last file. -/
import Derived.Test.YtbflaciihaijgaaPEH
set_option linter.all false
set_option maxHeartbeats 32000000
namespace Go.Ab
set_option maxRecDepth 20000
open Go
variable{qd:Prop}
def vZ(h:qd:=by rw[List.drop_eq_getElem_cons z,List.all_cons]):=h
def ip(h:qd:=by simp only[bE,bj];omega):=h
def uj(h:qd:=by simp[bG]):=h
def M2(h:qd:=by rw[hJ,hdr];(try simp only[Bool.not_eq_true',Bool.not_eq_false']at *);simp only[*,decide_true,decide_false,Bool.false_or,Bool.or_false,Bool.true_or,Bool.or_true,Bool.false_and,Bool.and_false,Bool.true_and,Bool.and_true,Bool.not_true,Bool.not_false,if_true,if_false,Int.reduceEq]):=h
def uk(h:qd:=by simp only[];omega):=h
def M3(h:qd:=by show((ml a (bG p)).getD []).length < _;rw[zW j];omega):=h
def M4(h:qd:=by rw[List.drop_eq_getElem_cons hlt,List.any_cons]):=h
def M5(h:qd:=by rw[hU hr0,hdU,jh];(try simp only[Bool.not_eq_true',Bool.not_eq_false']at *);simp only[*,decide_true,decide_false,Bool.false_or,Bool.or_false,Bool.true_or,Bool.or_true,Bool.false_and,Bool.and_false,Bool.true_and,Bool.and_true,Bool.not_true,Bool.not_false,if_true,if_false,Int.reduceEq]):=h
def M6(h:qd:=by rw[<- hHb,Hp.get_set,if_neg ac,aQ,if_neg ac]):=h
def M7(h:qd:=by rw[o5 _ (nw _ ac) (na _ ac)];exact g4s):=h
def M8(h:qd:=by rw[o5 _ (nw _ ac) (na _ ac)];exact g4b):=h
def M9(h:qd:=by rw[o5 _ (nw _ ac) (na _ ac)];exact g40):=h
def jg:=@cond_true
end Go.Ab
namespace Go.Proofs.Ytbflaciihaijgaa
set_option maxRecDepth 20000
open Go Go.Ab Proofs.Try
variable(ρ:Nat->Int)
variable{H:Hp}{v w a:AV}{lo:Nat}{f:Fu}
section
def tyR3f.tyF:=ad @ez (ad @cR (ad @dt (ad @gH (ad @iV (ad @gO (ad @fb (ad @eA (ad @ft (ad @fc (ad @l8 (ad @l9 (@fG))))))))))))
open tyR3f
noncomputable def Na:{c:SC // aI 34 (f115.body.getD .skip)=c}:=by
 refine⟨?_,?_⟩;rotate_left
 .simp only[f115,bS,aI,bM,bI,bT,bU,Nat.blt,Nat.ble];rfl
noncomputable def Nb:{c:SC // aI 66 (f69.body.getD .skip)=c}:=by
 refine⟨?_,?_⟩;rotate_left
 .simp only[f69,bS,aI,bM,bI,bT,bU,Nat.blt,Nat.ble];rfl
mutual
def mg:St->Bool
 | .mk k o z n a v C L M=>iO (.mk k o z n a v C L M)&&fk L&&fk M
def fk:qD->Bool
 |[]=>true
 |x::l=>mg x&&fk l
end
theorem v8(x:St):mg x=(iO x&&fk x.a5&&fk x.a6):=by cases x;rw[mg];rfl
noncomputable def Dh:En:=⟨138,false,ch (fun x=>x.sz<2^60) vY fun x=>.bool (iO x)⟩
def zay:cT prog ρ Dh:=dg fun x I=>zax ρ x I
def zaz:∀x:qD,bN x<2^60->bX prog ρ 115 (mM x) (.bool (fk x)):=
 vG fit (pls:=pls) (l:=[Dh]) ⟨zay ρ,trivial⟩ (fun x=>bN x) (ok:=fun x=>bN x<2^60) (enc:=mM) (out:=fun x=>.bool (fk x)) (fun x _=>.cons (zi _) .nil) (fun x _=>.bool _) (fun x hx=>by
 have L:=vJ (sz:=fun x:qD=>bN x) (ok:=fun x=>bN x<2^60) (out:=fun x=>.bool (fk x)) xE (f:=115) (l:=[Dh]) x;generalize I:(⟨115,false,ch (fun y=>bN y<2^60/\bN y<bN x) mM fun x=>.bool (fk x)⟩:En)::[Dh]=l at L⊢;have kr:∀(y:qD),bN y<bN x->∀H,aY prog (aH pls l) 115 [.ao (y.map St.cells)] H fun v H'=>v=.bool (fk y)/\H'=H:=fun y j H=>by
  subst I;exact cF (enc:=mM) (out:=fun x=>.bool (fk x)) xE (x:=y) rfl ⟨ac,j⟩
 have kd:∀y:St,y.sz<2^60->∀H,aY prog (aH pls l) 138 [.agg y.cells] H fun v H'=>v=.bool (iO y)/\H'=H:=fun y h1 H=>by
  subst I;exact cF (enc:=vY) (out:=fun x=>.bool (iO x)) MZ (x:=y) rfl h1
 have C:=tR x;change aY _ _ _ [.ao (x.map St.cells)] _ _;refine bF (M:=34) (rs:=[.tmp 2]) L.call L.aD L.aq func115 rfl rfl Na.2 rfl ?_;dsimp only[Na,bA,Nat.reduceAdd];repeat' (first
  |(apply aj ?_;clear hK K)|apply Rx.o ?_|(apply aX (fun J g=>?_) (fun J g=>?_)<;>try(cases J;done))|(apply aA (fun o Z=>?_) (fun o Z=>?_)<;>try(cases o;done))|apply ah ?_|(apply ai fun K hK=>?_)|apply ak ?_|apply am ?_|apply aq ?_|apply aw ?_)
 refine cA [0] [] 3 x.length (fun i E H=>fk x=fk (x.drop i)) eE az ?_;rintro i E H2 hi m V U hsI O;(try simp only[bp,bm,aU,aF,aW,Nat.reduceBEq,Nat.reduceAdd,Nat.reduceLeDiff,tyF, *]at m);(try simp only[bp,bm,aU,aF,aW,Nat.reduceBEq,Nat.reduceAdd,Nat.reduceLeDiff,tyF, *]at V);(try simp only[bj,bE,cm,bO,Nat.reduceAdd]at U);repeat' (first
  |(apply aj ?_;clear hK K)|apply Rx.o ?_|(apply aX (fun J g=>?_) (fun J g=>?_)<;>try(cases J;done))|(apply aA (fun o Z=>?_) (fun o Z=>?_)<;>try(cases o;done))|apply ah ?_|(apply ai fun K hK=>?_)|apply ak ?_|apply am ?_|apply aq ?_|apply aw ?_)
 .have z:i<x.length:=by simpa using o
  have hgx:x[i]?=some x[i]:=a0 z;have hsm:=pi (cL z);have hsz:=x[i].aM;have Y:fk (x.drop i)=(mg x[i]&&fk (x.drop (i+1))):=nH;rw[v8]at Y;repeat' (first
   |(apply aj ?_;clear hK K)|apply Rx.o ?_|(apply eC ?_;first|refine bi (kd _ ac _) ?_|refine bi (kr _ ac _) ?_)|(apply aX (fun J g=>?_) (fun J g=>?_)<;>try(cases J;done))|(apply aA (fun o Z=>?_) (fun o Z=>?_)<;>try(cases o;done))|apply ah ?_|(apply ai fun K hK=>?_)|apply ak ?_|apply am ?_|apply aq ?_|apply aw ?_)
  all_goals (first|(refine⟨aD,_,aN,?_⟩;(try simp only[aC]);rw[O,Y];(try simp only[ci]at *);simp only[ *,cj,bC,bH,Int.reduceEq];done)|skip)
  refine⟨ac,a2,a2,ce,tX,?_⟩;rw[O,Y];(try simp only[ci]at *);simp only[ *,cj,bC,bH,Int.reduceEq]
 .all_goals refine qq ?_
  rw[O,show i=x.length by simp at o;omega];simp[fk])
noncomputable def Nc:En:=⟨115,false,ch (fun x=>bN x<2^60) mM fun x=>.bool (fk x)⟩
def zaA:cT prog ρ Nc:=dg fun x I=>zaz ρ x I
noncomputable def xL:qA:=[Dg,Ho,Nc]
def zaB:gm prog ρ xL:=⟨Hl ρ,M1 ρ,zaA ρ,trivial⟩
theorem Hr:∀{l:qP}{a:Ar},a∈l->a.name.length<gp l
 |[],_,h=>by simp at h
 |e::es,x,h=>by
  rcases gE.1 h with rfl|h
  .simp only[gp];omega
  .have:=Hr h;simp only[gp];omega
def rh(f:Fu):qt:=[f.name]++f.params++f.aj
def jV(f:Fu):Bool:=(rh f).all cZ&&fk f.body&&eK f.value
def iq(p:Pr):Bool:=p.aa.all (fun a=>cZ a.name)&&p.funcs.all jV
def Di(H:Hp)(s:qw):dW prog H 60 1 [(0,.ai s)]=some (.sl H.next 0 1 1,H.alloc (.cells [.ai s] 0 true)):=aG
abbrev qe:HB:=.cells [] 0 true
def Nf(H:Hp):dW prog H 60 0 []=some (.sl H.next 0 0 1,H.alloc qe):=aG
theorem zaC(p:Pr)(hz:p.sz<2^36):bX prog ρ 69 [.agg p.cells] (.bool (iq p)):=eg fit (pls:=pls) (zaB ρ) (.cons (.agg p.pure) .nil) (.bool _) (by
 have hw:zd0 (aH pls xL) 69:=dG (fun _=>rfl) rfl;have hkeep:(aH pls xL).keep 69=false:=rfl;have kv:∀s:qw,s.length<2^60->∀H,aY prog (aH pls xL) 114 [.ai s] H fun v H'=>v=.bool (cZ s)/\H'=H:=fun s h1 H=>cF (enc:=nJ) (out:=fun x=>.bool (cZ x)) vL (x:=s) rfl h1;have kw:∀y:Ex,y.sz<2^60->∀H,aY prog (aH pls xL) 116 [.agg y.cells] H fun v H'=>v=.bool (eK y)/\H'=H:=fun y h1 H=>cF (enc:=ju) (out:=fun x=>.bool (eK x)) pZ (x:=y) rfl h1;have ks:∀y:qD,bN y<2^60->∀H,aY prog (aH pls xL) 115 [.ao (y.map St.cells)] H fun v H'=>v=.bool (fk y)/\H'=H:=fun y h1 H=>cF (enc:=mM) (out:=fun x=>.bool (fk x)) xE (x:=y) rfl h1;have hpz:p.sz=1+gp p.aa+fw p.funcs:=rfl;have hla:=nF p.aa;have hlf:=nE p.funcs;refine bF (M:=66) (rs:=[.tmp 2]) (hw.call _) hw.aD hw.aq func69 rfl rfl Nb.2 rfl ?_;dsimp only[Nb,bA,Nat.reduceAdd];repeat' (first
  |(apply aj ?_;clear hK K)|apply Rx.o ?_|apply aE ?_|(apply aX (fun J g=>?_) (fun J g=>?_)<;>try(cases J;done))|(apply aA (fun o Z=>?_) (fun o Z=>?_)<;>try(cases o;done))|apply ah ?_|(apply ai fun K hK=>?_)|(apply au 10 [(1,5),(2,5),(4,5),(7,5),(7,8)] fun K hK=>?_)|(apply aS ?_;try intro _)|(apply aT ?_ ?_<;>clear hK K)|apply aR ?_|apply ak ?_|apply am ?_|apply aq ?_|apply aw ?_)
 refine cA [1] [0] 3 p.aa.length (fun i E H=>p.aa.all (fun a=>cZ a.name)=(p.aa.drop i).all (fun a=>cZ a.name)) eE az ?_;rintro i E Y hi m U L hsI hJ;(try simp only[bp,bm,aU,aF,aW,Nat.reduceBEq,Nat.reduceAdd,Nat.reduceLeDiff,tyF, *]at m);(try simp only[bp,bm,aU,aF,aW,Nat.reduceBEq,Nat.reduceAdd,Nat.reduceLeDiff,tyF, *]at U);(try simp only[bj,bE,cm,bO,Nat.reduceAdd]at L);have hB0:(0 == Y.next)=false:=bz ac;have hC0:(Y.next == 0)=false:=bz ac;repeat' (first
  |(apply aj ?_;clear hK K)|apply Rx.o ?_|apply aE ?_|(apply aX (fun J g=>?_) (fun J g=>?_)<;>try(cases J;done))|(apply aA (fun o Z=>?_) (fun o Z=>?_)<;>try(cases o;done))|apply ah ?_|(apply ai fun K hK=>?_)|(apply au 10 [(1,5),(2,5),(4,5),(7,5),(7,8)] fun K hK=>?_)|(apply aS ?_;try intro _)|(apply aT ?_ ?_<;>clear hK K)|apply aR ?_|apply ak ?_|apply am ?_|apply aq ?_|apply aw ?_)
 .have z:i<p.aa.length:=by simpa using o
  have hgx:p.aa[i]?=some p.aa[i]:=a0 z;have V:(p.aa.drop i).all (fun a=>cZ a.name)=(cZ p.aa[i].name&&(p.aa.drop (i+1)).all (fun a=>cZ a.name)):=vZ;have hsm:p.aa[i].name.length<gp p.aa:=Hr (cL z);repeat' (first
   |(apply aj ?_;clear hK K)|apply Rx.o ?_|apply aE ?_|(apply eC ?_;first|refine bi (kv _ ac _) ?_)|(apply aX (fun J g=>?_) (fun J g=>?_)<;>try(cases J;done))|(apply aA (fun o Z=>?_) (fun o Z=>?_)<;>try(cases o;done))|apply ah ?_|(apply ai fun K hK=>?_)|(apply au 10 [(1,5),(2,5),(4,5),(7,5),(7,8)] fun K hK=>?_)|(apply aS ?_;try intro _)|(apply aT ?_ ?_<;>clear hK K)|apply aR ?_|apply ak ?_|apply am ?_|apply aq ?_|apply aw ?_)
  all_goals (first|(refine⟨aD,_,aN,?_⟩;(try simp only[aC]);rw[iq,hJ,V];(try simp only[ci]at *);simp only[ *,cj,bC,bH,Int.reduceEq];done)|skip)
  refine⟨ac,a2,a2,ce,xH,?_⟩;rw[hJ,V];(try simp only[ci]at *);simp only[ *,cj,bC,bH,Int.reduceEq]
 .have hie:i=p.aa.length:=by simp at o;omega
  rw[hie,fU,oz]at hJ;clear o hie hsI hi;refine cA [1] [0] 4 p.funcs.length (fun i E H=>p.funcs.all jV=(p.funcs.drop i).all jV) eE az ?_;rintro i E Y hi m U L hsI I;(try simp only[bp,bm,aU,aF,aW,Nat.reduceBEq,Nat.reduceAdd,Nat.reduceLeDiff,tyF, *]at m);(try simp only[bp,bm,aU,aF,aW,Nat.reduceBEq,Nat.reduceAdd,Nat.reduceLeDiff,tyF, *]at U);(try simp only[bj,bE,cm,bO,Nat.reduceAdd]at L);have hB0:(0 == Y.next)=false:=bz ac;have hC0:(Y.next == 0)=false:=bz ac;repeat' (first
   |(apply aj ?_;clear hK K)|apply Rx.o ?_|apply aE ?_|(apply aX (fun J g=>?_) (fun J g=>?_)<;>try(cases J;done))|(apply aA (fun o Z=>?_) (fun o Z=>?_)<;>try(cases o;done))|apply ah ?_|(apply ai fun K hK=>?_)|(apply au 10 [(1,5),(2,5),(4,5),(7,5),(7,8)] fun K hK=>?_)|(apply aS ?_;try intro _)|(apply aT ?_ ?_<;>clear hK K)|apply aR ?_|apply ak ?_|apply am ?_|apply aq ?_|apply aw ?_)
  .have z:i<p.funcs.length:=by simpa using o
   have hgx:p.funcs[i]?=some p.funcs[i]:=a0 z;have V:(p.funcs.drop i).all jV=(jV p.funcs[i]&&(p.funcs.drop (i+1)).all jV):=vZ;rw[jV]at V;have hsm:=ow (cL z);have hsz:p.funcs[i].sz=1+p.funcs[i].name.length+dU p.funcs[i].params+dU p.funcs[i].aj+bN p.funcs[i].body+p.funcs[i].value.sz:=rfl;have gh0:=@Di;repeat' (first
    |(apply aj ?_;clear hK K)|apply Rx.o ?_|apply aE ?_|(apply aX (fun J g=>?_) (fun J g=>?_)<;>try(cases J;done))|(apply aA (fun o Z=>?_) (fun o Z=>?_)<;>try(cases o;done))|apply ah ?_|(apply ai fun K hK=>?_)|(apply au 10 [(1,5),(2,5),(4,5),(7,5),(7,8)] fun K hK=>?_)|(apply aS ?_;try intro _)|(apply aT ?_ ?_<;>clear hK K)|apply aR ?_|apply ak ?_|apply am ?_|apply aq ?_|apply aw ?_)
   generalize O:Hp.alloc _ (HB.cells [AV.ai p.funcs[i].name] 0 true)=H4;have n4:H4.next=Y.next+2:=by rw[<-O];rfl
   have g4:H4.get Y.next=some (.cells p.funcs[i].cells 0 true):=by rw[<-O];clear O;exact zh
   have g40:H4.get 0=some (.cells p.cells 0 true):=by
    rw[<-O,aQ,af ip,a1,af ac,aQ,af ac];exact U
   have g41:H4.get (Y.next+1)=some (.cells [.ai p.funcs[i].name] 0 true):=by rw[<-O];clear O;exact zh
   have s4:dI H4 (.sl (Y.next+1) 0 1 1) [p.funcs[i].name] (Y.next+1):=⟨Y.next+1,0,rfl,g41,az,aO _,ac⟩;have hpl:=jO p.funcs[i].params;have hll:=jO p.funcs[i].aj;obtain⟨v5,H5,a5,s5,n5,f5,_⟩:=xC p.funcs[i].params s4 ac ca;have g5:H5.get Y.next=some (.cells p.funcs[i].cells 0 true):=by rw[f5 _ (cI _)];exact g4
   have g50:H5.get 0=some (.cells p.cells 0 true):=by rw[f5 _ ac];exact g40
   refine jr cS cS GU ?_;repeat' (first
    |(apply aj ?_;clear hK K)|apply Rx.o ?_|apply aE ?_|(apply aX (fun J g=>?_) (fun J g=>?_)<;>try(cases J;done))|(apply aA (fun o Z=>?_) (fun o Z=>?_)<;>try(cases o;done))|apply ah ?_|(apply ai fun K hK=>?_)|(apply au 10 [(1,5),(2,5),(4,5),(7,5),(7,8)] fun K hK=>?_)|(apply aS ?_;try intro _)|(apply aT ?_ ?_<;>clear hK K)|apply aR ?_|apply ak ?_|apply am ?_|apply aq ?_|apply aw ?_)
   obtain⟨v6,H6,a6,s6,n6,f6,_⟩:=xC p.funcs[i].aj s5 ac ca;have g6:H6.get Y.next=some (.cells p.funcs[i].cells 0 true):=by rw[f6 _ (cI _)];exact g5
   have g60:H6.get 0=some (.cells p.cells 0 true):=by rw[f6 _ ac];exact g50
   refine jr cS cS (by rw[hkeep];exact a6) ?_;repeat' (first
    |(apply aj ?_;clear hK K)|apply Rx.o ?_|apply aE ?_|(apply aX (fun J g=>?_) (fun J g=>?_)<;>try(cases J;done))|(apply aA (fun o Z=>?_) (fun o Z=>?_)<;>try(cases o;done))|apply ah ?_|(apply ai fun K hK=>?_)|(apply au 10 [(1,5),(2,5),(4,5),(7,5),(7,8)] fun K hK=>?_)|(apply aS ?_;try intro _)|(apply aT ?_ ?_<;>clear hK K)|apply aR ?_|apply ak ?_|apply am ?_|apply aq ?_|apply aw ?_)
   .exact di
   .have s6':dI H6 v6 (rh p.funcs[i]) (Y.next+1):=s6;have hfl:(rh p.funcs[i]).length<2^61:=by simp[rh];omega
    have hfm:∀s∈rh p.funcs[i],s.length<2^60:=fun s hs=>by
     rcases kU.1 hs with hs|hs
     .rcases kU.1 hs with hs|hs
      .simp at hs;subst hs;omega
      .have:=Cw hs;omega
     .have:=Cw hs;omega
    clear s6 a6 f6 a5 f5 s5 s4;generalize rh p.funcs[i]=ns at *;have hln:=fun H'=>s6'.len (H':=H');refine cA [1,4,5,6] [0,Y.next] 7 ns.length (fun j E H=>ns.all cZ=(ns.drop j).all cZ/\dI H v6 ns (Y.next+1)) eE ⟨az,s6'⟩ ?_;rintro j E3 H3 hj m U L hsI ⟨C,s7⟩;(try simp only[bp,bm,aU,aF,aW,Nat.reduceBEq,Nat.reduceAdd,Nat.reduceLeDiff,tyF,g6,g60, *]at m);(try simp only[bp,bm,aU,aF,aW,Nat.reduceBEq,Nat.reduceAdd,Nat.reduceLeDiff,tyF,g6,g60, *]at U);(try simp only[bj,bE,cm,bO,Nat.reduceAdd]at L);have hB0:(0 == H3.next)=false:=bz ac;have hC0:(H3.next == 0)=false:=bz ac;have hB1:(Y.next == H3.next)=false:=bz ac;have hC1:(H3.next == Y.next)=false:=bz ac;repeat' (first
     |(apply aj ?_;clear hK K)|apply Rx.o ?_|apply aE ?_|(apply eC ?_;first|refine bi (kw _ ac _) ?_|refine bi (ks _ ac _) ?_)|(apply aX (fun J g=>?_) (fun J g=>?_)<;>try(cases J;done))|(apply aA (fun o Z=>?_) (fun o Z=>?_)<;>try(cases o;done))|apply ah ?_|(apply ai fun K hK=>?_)|(apply au 10 [(1,5),(2,5),(4,5),(7,5),(7,8)] fun K hK=>?_)|(apply aS ?_;try intro _)|(apply aT ?_ ?_<;>clear hK K)|apply aR ?_|apply ak ?_|apply am ?_|apply aq ?_|apply aw ?_)
    .have hlt2:j<ns.length:=by simpa using o
     obtain⟨q,ia,ld⟩:=s7.at hlt2;have hdr2:(ns.drop j).all cZ=(cZ ns[j]&&(ns.drop (j+1)).all cZ):=by rw[eU hlt2,oy]
     have hq:=hfm _ (cL hlt2);repeat' (first
      |(apply aj ?_;clear hK K)|apply Rx.o ?_|apply aE ?_|(apply eC ?_;first|refine bi (kv _ hq _) ?_)|(apply aX (fun J g=>?_) (fun J g=>?_)<;>try(cases J;done))|(apply aA (fun o Z=>?_) (fun o Z=>?_)<;>try(cases o;done))|apply ah ?_|(apply ai fun K hK=>?_)|(apply au 10 [(1,5),(2,5),(4,5),(7,5),(7,8)] fun K hK=>?_)|(apply aS ?_;try intro _)|(apply aT ?_ ?_<;>clear hK K)|apply aR ?_|apply ak ?_|apply am ?_|apply aq ?_|apply aw ?_)
     all_goals (first|(refine⟨aD,_,aN,?_⟩;(try simp only[aC]);rw[iq,hJ,I,V,C,hdr2];(try simp only[ci]at *);simp only[ *,cj,bC,bH,Int.reduceEq];done)|skip)
     refine⟨ac,a2,a2,ce,(by simp only[aF,Nat.reduceBEq, *];exact gQ (n:=ns.length) ac ac),?_⟩;exact⟨by rw[C,hdr2];(try simp only[ci]at *);simp only[ *,cj,bC,bH,Int.reduceEq],s7⟩
    all_goals
     have hje:j=ns.length:=ac;rw[hje,fU,oz]at C
    all_goals (first|(refine⟨aD,_,aN,?_⟩;(try simp only[aC]);rw[iq,hJ,I,V,C];(try simp only[ci]at *);simp only[ *,cj,bC,bH,Int.reduceEq];done)|skip)
    refine⟨ac,a2,a2,ce,po,?_⟩;rw[I,V,C];(try simp only[ci]at *);simp only[ *,cj,bC,bH,Int.reduceEq]
  .all_goals refine qq ?_
   have hie:i=p.funcs.length:=p9;rw[hie,fU,oz]at I;rw[iq,hJ,I];(try simp only[ci]at *);simp only[ *,cj,bC,bH,Int.reduceEq])
end
section
def tyR3g.tyF:=ad @cR (ad @dt (ad @gH (ad @iV (ad @gO (ad @eA (ad @ft (ad @fc (ad @l8 (ad @l9 (ad @Di (@Nf)))))))))))
open tyR3g
noncomputable def Ng:{c:SC // aI 85 (f70.body.getD .skip)=c}:=by
 refine⟨?_,?_⟩;rotate_left
 .simp only[f70,bS,aI,bM,bI,bT,bU,Nat.blt,Nat.ble];rfl
def cG:qt->qt->Bool
 |_,[]=>false
 |seen,s::l=>bJ seen s||cG (seen++[s]) l
def nN(U:qt):qt->qN->Bool
 |_,[]=>false
 |seen,f::fs=>bJ seen f.name||cG U (f.params++f.aj)||nN U (seen++[f.name]) fs
def bG(p:Pr):qt:=p.aa.map (·.name)
def mh(p:Pr):Bool:=cG [] (bG p)||nN (bG p) [] p.funcs
def sT{J:Type}(l seen:List J)(i:Nat):Prop:=l=seen++l.drop i
def Nh{J:Type}{l seen:List J}{i:Nat}(h:i<l.length)(e:sT l seen i):sT l (seen++[l[i]]) (i+1):=by
 unfold sT at *;rw[lT,Fh,<-eU h];exact e
theorem zaD(p:Pr)(hz:p.sz<2^36):bX prog ρ 70 [.agg p.cells] (.bool (mh p)):=eg fit (pls:=pls) (l:=[rK]) ⟨Gx ρ,trivial⟩ (.cons (.agg p.pure) .nil) (.bool _) (by
 have hw:zd0 (aH pls [rK]) 70:=dG (fun _=>rfl) rfl;have Y:(aH pls [rK]).keep 70=false:=rfl;have hpz:p.sz=1+gp p.aa+fw p.funcs:=rfl;have hla:=nF p.aa;have hlf:=nE p.funcs;have hal:(bG p).length=p.aa.length:=uj;refine bF (M:=85) (rs:=[.tmp 2]) (hw.call _) hw.aD hw.aq func70 rfl rfl Ng.2 rfl ?_;dsimp only[Ng,bA,Nat.reduceAdd];repeat' (first
  |(apply aj ?_;clear hK K)|apply Rx.o ?_|apply aE ?_|(apply aA (fun o g=>?_) (fun o g=>?_)<;>try(cases o;done))|apply ah ?_|(apply ai fun K hK=>?_)|(apply au 16 [(0,3),(2,3),(5,3),(5,6)] fun K hK=>?_)|(apply aS ?_;try intro _)|(apply aT ?_ ?_<;>clear hK K)|apply aR ?_|apply ak ?_|apply am ?_|apply aq ?_|apply aw ?_)
 refine cA [1] [0] 5 p.aa.length (fun i E H=>E.at 4=.ah/\∃v seen,E.at 3=v/\dZ H v seen 1/\cG [] (bG p)=cG seen ((bG p).drop i)/\sT (bG p) seen i) eE ⟨eE,.ah,[],eE,.inl ⟨rfl,rfl⟩,az,by simp[sT]⟩ ?_;rintro i E H2 hi hcE I hnH hsI ⟨k4,v,seen,k3,s2,hJ,hsn⟩;(try simp only[bp,bm,aU,aF,aW,Nat.reduceBEq,Nat.reduceAdd,Nat.reduceLeDiff,tyF, *]at hcE);(try simp only[bp,bm,aU,aF,aW,Nat.reduceBEq,Nat.reduceAdd,Nat.reduceLeDiff,tyF, *]at I);(try simp only[bj,bE,cm,bO,Nat.reduceAdd]at hnH);have hB0:(0 == H2.next)=false:=bz ac;have hC0:(H2.next == 0)=false:=bz ac;have hsl:seen.length<=p.aa.length:=by have:bG p=seen++(bG p).drop i:=hsn;have:=jH List.length this;rw[fg]at this;omega
 repeat' (first
  |(apply aj ?_;clear hK K)|apply Rx.o ?_|apply aE ?_|(apply aA (fun o g=>?_) (fun o g=>?_)<;>try(cases o;done))|apply ah ?_|(apply ai fun K hK=>?_)|(apply au 16 [(0,3),(2,3),(5,3),(5,6)] fun K hK=>?_)|(apply aS ?_;try intro _)|(apply aT ?_ ?_<;>clear hK K)|apply aR ?_|apply ak ?_|apply am ?_|apply aq ?_|apply aw ?_)
 .have hlt:i<p.aa.length:=by simpa using o
  have hgx:p.aa[i]?=some p.aa[i]:=a0 hlt;have hgn:(bG p)[i]' ac=p.aa[i].name:=uj;have hdr:cG seen ((bG p).drop i)=(bJ seen p.aa[i].name||cG (seen++[p.aa[i].name]) ((bG p).drop (i+1))):=by rw[eU ac,hgn];rfl
  have hsn2:=Nh ac hsn;rw[hgn]at hsn2;repeat' (first
   |(apply aj ?_;clear hK K)|apply Rx.o ?_|apply aE ?_|(apply aA (fun o g=>?_) (fun o g=>?_)<;>try(cases o;done))|apply ah ?_|(apply ai fun K hK=>?_)|(apply au 16 [(0,3),(2,3),(5,3),(5,6)] fun K hK=>?_)|(apply aS ?_;try intro _)|(apply aT ?_ ?_<;>clear hK K)|apply aR ?_|apply ak ?_|apply am ?_|apply aq ?_|apply aw ?_)
  refine qc ?_;refine bb ?_ (Gy (fun _=>rfl) rfl s2 ac p.aa[i].name);rintro w H3 ⟨rfl,s3,n3,f3,o3⟩;have m3:H2.next<=H3.next:=ac
  clear n3;dsimp only[aZ];have g30:H3.get 0=some (.cells p.cells 0 true):=by rw[f3 0 ac];exact I
  have e1:(0 == H3.next)=false:=ca;have s4:dZ (H3.alloc (.cells [.ai p.aa[i].name] 0 true)) v seen 1:=s3.keep (dH _) fun k Z=>by rw[aQ,af (by have:=s3.lt Z;omega)]
  repeat' (first
   |(apply aj ?_;clear hK K)|apply Rx.o ?_|apply aE ?_|(apply aA (fun o g=>?_) (fun o g=>?_)<;>try(cases o;done))|apply ah ?_|(apply ai fun K hK=>?_)|(apply au 16 [(0,3),(2,3),(5,3),(5,6)] fun K hK=>?_)|(apply aS ?_;try intro _)|(apply aT ?_ ?_<;>clear hK K)|apply aR ?_|apply ak ?_|apply am ?_|apply aq ?_|apply aw ?_)
  .all_goals refine qq ?_
   rw[mh,hJ,hdr];(try simp only[ci]at *);simp only[ *,cj,bC,bH,Int.reduceEq]
  .obtain⟨v5,H5,a5,s5,n5,f5,o5⟩:=vM (r:=H3.next) (imm:=0) p.aa[i].name s4 dL gD ac;have g50:H5.get 0=some (.cells p.cells 0 true):=by rw[f5 0 ac,aQ,af ac];exact g30
   simp only[bj]at n5;have m5:H3.next+1<=H5.next:=ac
   clear n5;refine jr cS cS (by rw[Y];exact a5) ?_;repeat' (first
    |(apply aj ?_;clear hK K)|apply Rx.o ?_|apply aE ?_|(apply aA (fun o g=>?_) (fun o g=>?_)<;>try(cases o;done))|apply ah ?_|(apply ai fun K hK=>?_)|(apply au 16 [(0,3),(2,3),(5,3),(5,6)] fun K hK=>?_)|(apply aS ?_;try intro _)|(apply aT ?_ ?_<;>clear hK K)|apply aR ?_|apply ak ?_|apply am ?_|apply aq ?_|apply aw ?_)
   refine⟨ac,a2,a2,ce,xH,?_⟩;exact⟨eE,v5,seen++[p.aa[i].name],eE,.inr s5,M2,hsn2⟩
 .have hie:i=(bG p).length:=by simp at o;omega
  unfold sT at hsn;rw[hie,fU]at hJ hsn;rw[jI]at hsn;have hJ':cG [] (bG p)=false:=hJ;rw[<-hsn]at s2;clear hJ hie hsI hi hsl hsn;clear seen;have c3:∀k,bc v k->k<H2.next:=fun k Z=>(s2.lt Z).2
  refine cA [1,3] [0] 6 p.funcs.length (fun i E H=>∃u seen,E.at 4=u/\dZ H u seen H2.next/\dZ H v (bG p) 1/\nN (bG p) [] p.funcs=nN (bG p) seen (p.funcs.drop i)/\seen.length=i) eE ⟨.ah,[],eE,.inl ⟨rfl,rfl⟩,s2,az,rfl⟩ ?_;rintro i E m hi hcE I hnH hsI ⟨u,seen,k4',s4,t4,hJ2,hsl⟩;(try simp only[bp,bm,aU,aF,aW,Nat.reduceBEq,Nat.reduceAdd,Nat.reduceLeDiff,tyF, *]at hcE);(try simp only[bp,bm,aU,aF,aW,Nat.reduceBEq,Nat.reduceAdd,Nat.reduceLeDiff,tyF, *]at I);(try simp only[bj,bE,cm,bO,Nat.reduceAdd]at hnH);have hB0:(0 == m.next)=false:=bz ac;have hC0:(m.next == 0)=false:=bz ac;repeat' (first
   |(apply aj ?_;clear hK K)|apply Rx.o ?_|apply aE ?_|(apply aA (fun o g=>?_) (fun o g=>?_)<;>try(cases o;done))|apply ah ?_|(apply ai fun K hK=>?_)|(apply au 16 [(0,3),(2,3),(5,3),(5,6)] fun K hK=>?_)|(apply aS ?_;try intro _)|(apply aT ?_ ?_<;>clear hK K)|apply aR ?_|apply ak ?_|apply am ?_|apply aq ?_|apply aw ?_)
  .have hlt:i<p.funcs.length:=by simpa using o
   have hgx:p.funcs[i]?=some p.funcs[i]:=a0 hlt;have hsm:=ow (cL hlt);have hsz:p.funcs[i].sz=1+p.funcs[i].name.length+dU p.funcs[i].params+dU p.funcs[i].aj+bN p.funcs[i].body+p.funcs[i].value.sz:=rfl;have hdr:nN (bG p) seen (p.funcs.drop i)=(bJ seen p.funcs[i].name||cG (bG p) (p.funcs[i].params++p.funcs[i].aj)||nN (bG p) (seen++[p.funcs[i].name]) (p.funcs.drop (i+1))):=by rw[eU hlt];rfl
   repeat' (first
    |(apply aj ?_;clear hK K)|apply Rx.o ?_|apply aE ?_|(apply aA (fun o g=>?_) (fun o g=>?_)<;>try(cases o;done))|apply ah ?_|(apply ai fun K hK=>?_)|(apply au 16 [(0,3),(2,3),(5,3),(5,6)] fun K hK=>?_)|(apply aS ?_;try intro _)|(apply aT ?_ ?_<;>clear hK K)|apply aR ?_|apply ak ?_|apply am ?_|apply aq ?_|apply aw ?_)
   generalize hHb:Hp.set (Hp.alloc m _) m.next _=Hb
   have nb:m.next<Hb.next:=by rw[<-hHb];exact cI _
   have oldb:∀k,k<m.next->Hb.get k=m.get k:=fun k Z=>M6
   have gb:Hb.get m.next=some (.cells p.funcs[i].cells 0 true):=CW
   have gb0:Hb.get 0=some (.cells p.cells 0 true):=by rw[oldb 0 ac];exact I
   have s4b:dZ Hb u seen H2.next:=s4.keep ac fun k Z=>oldb k (s4.lt Z).2
   have t4b:dZ Hb v (bG p) 1:=t4.keep ac fun k Z=>oldb k (t4.lt Z).2;have nou:¬bc u m.next:=fun h=>by have:=(s4.lt h).2;omega
   clear hHb;refine qc ?_;refine bb ?_ (Gy (fun _=>rfl) rfl s4b ac p.funcs[i].name);rintro w H5 ⟨rfl,s5,n5,f5,o5⟩;have m5:Hb.next<=H5.next:=ac
   clear n5;dsimp only[aZ];have g5:H5.get m.next=some (.cells p.funcs[i].cells 0 true):=by rw[o5 _ nou];exact gb
   have g50:H5.get 0=some (.cells p.cells 0 true):=by rw[f5 0 ac];exact gb0
   have t5:dZ H5 v (bG p) 1:=t4b.keep ac fun k Z=>f5 k (c3 k Z);have e5:(m.next == H5.next)=false:=ca;repeat' (first
    |(apply aj ?_;clear hK K)|apply Rx.o ?_|apply aE ?_|(apply aA (fun o g=>?_) (fun o g=>?_)<;>try(cases o;done))|apply ah ?_|(apply ai fun K hK=>?_)|(apply au 16 [(0,3),(2,3),(5,3),(5,6)] fun K hK=>?_)|(apply aS ?_;try intro _)|(apply aT ?_ ?_<;>clear hK K)|apply aR ?_|apply ak ?_|apply am ?_|apply aq ?_|apply aw ?_)
   .all_goals refine qq ?_
    rw[mh,hJ',hJ2,hdr];(try simp only[ci]at *);simp only[ *,cj,bC,bH,Int.reduceEq]
   have old5:∀k,k<H5.next->(H5.alloc (.cells [.ai p.funcs[i].name] 0 true)).get k=H5.get k:=fun k Z=>eG
   have s5b:dZ (H5.alloc (.cells [.ai p.funcs[i].name] 0 true)) u seen H2.next:=s5.keep (dH _) fun k Z=>old5 k (s5.lt Z).2
   obtain⟨u6,H6,a6,s6,n6,f6,o6⟩:=vM (r:=H5.next) (imm:=0) p.funcs[i].name s5b dL gD ac;simp only[bj]at n6;have m6:H5.next+2<=H6.next:=ac
   clear n6;have g6:H6.get m.next=some (.cells p.funcs[i].cells 0 true):=by rw[o6.1 _ dL nou,old5 _ ac];exact g5
   have g60:H6.get 0=some (.cells p.cells 0 true):=by rw[f6 0 ac,old5 _ ac];exact g50
   have t6:dZ H6 v (bG p) 1:=t5.keep ac fun k Z=>by rw[f6 k (c3 k Z),old5 _ (t5.lt Z).2]
   refine jr cS cS (by rw[Y];exact a6) ?_;repeat' (first
    |(apply aj ?_;clear hK K)|apply Rx.o ?_|apply aE ?_|(apply aA (fun o g=>?_) (fun o g=>?_)<;>try(cases o;done))|apply ah ?_|(apply ai fun K hK=>?_)|(apply au 16 [(0,3),(2,3),(5,3),(5,6)] fun K hK=>?_)|(apply aS ?_;try intro _)|(apply aT ?_ ?_<;>clear hK K)|apply aR ?_|apply ak ?_|apply am ?_|apply aq ?_|apply aw ?_)
   have z:∀k,k<H6.next->(H6.alloc qe).get k=H6.get k:=fun k Z=>eG
   have s7:dI (H6.alloc qe) (.sl H6.next 0 0 1) [] H6.next:=⟨H6.next,0,rfl,gR,az,aO _,cI _⟩
   have t7:dZ (H6.alloc qe) v (bG p) 1:=t6.keep (dH _) fun k Z=>z k (t6.lt Z).2;obtain⟨w8,O,a8,s8,n8,f8,o8⟩:=YQ s7 (dH _) t7 ca;simp only[bj]at n8;have g8:O.get m.next=some (.cells p.funcs[i].cells 0 true):=by rw[f8 _ ac,z _ ac];exact g6
   have g80:O.get 0=some (.cells p.cells 0 true):=by rw[f8 0 ac,z _ ac];exact g60
   have t8:dZ O v (bG p) 1:=t6.keep ac fun k Z=>by rw[f8 k (by have:=(t6.lt Z).2;omega),z _ (t6.lt Z).2]
   have u8:dI O u6 (seen++[p.funcs[i].name]) H2.next:=s6.keep ac fun k Z=>by rw[f8 k (s6.lt Z).2,z _ (s6.lt Z).2]
   refine jr cS cS (by rw[Y];exact a8) ?_;have e8:(m.next == O.next)=false:=ca;repeat' (first
    |(apply aj ?_;clear hK K)|apply Rx.o ?_|apply aE ?_|(apply aA (fun o g=>?_) (fun o g=>?_)<;>try(cases o;done))|apply ah ?_|(apply ai fun K hK=>?_)|(apply au 16 [(0,3),(2,3),(5,3),(5,6)] fun K hK=>?_)|(apply aS ?_;try intro _)|(apply aT ?_ ?_<;>clear hK K)|apply aR ?_|apply ak ?_|apply am ?_|apply aq ?_|apply aw ?_)
   have old8:∀k,k<O.next->(O.alloc qe).get k=O.get k:=fun k Z=>eG
   have s9:dI (O.alloc qe) (.sl O.next 0 0 1) [] O.next:=⟨O.next,0,rfl,gR,az,aO _,cI _⟩
   have g9a:(O.alloc qe).get m.next=some (.cells p.funcs[i].cells 0 true):=by rw[old8 _ ac];exact g8
   have g9b:(O.alloc qe).get O.next=some qe:=gD
   have hpl:=jO p.funcs[i].params;have hll:=jO p.funcs[i].aj;obtain⟨w9,H9,a9,s10,n9,f9,_⟩:=xC p.funcs[i].params s9 (dH _) ca;simp only[bj]at n9;have g9:H9.get m.next=some (.cells p.funcs[i].cells 0 true):=by rw[f9 _ ac];exact g9a
   refine jr cS cS (by rw[Y];exact a9) ?_;repeat' (first
    |(apply aj ?_;clear hK K)|apply Rx.o ?_|apply aE ?_|(apply aA (fun o g=>?_) (fun o g=>?_)<;>try(cases o;done))|apply ah ?_|(apply ai fun K hK=>?_)|(apply au 16 [(0,3),(2,3),(5,3),(5,6)] fun K hK=>?_)|(apply aS ?_;try intro _)|(apply aT ?_ ?_<;>clear hK K)|apply aR ?_|apply ak ?_|apply am ?_|apply aq ?_|apply aw ?_)
   obtain⟨w11,H11,a11,s11,n11,f11,_⟩:=xC p.funcs[i].aj s10 ac ca;have g11:H11.get m.next=some (.cells p.funcs[i].cells 0 true):=by rw[f11 _ ac];exact g9
   refine jr cS cS (by rw[Y];exact a11) ?_;repeat' (first
    |(apply aj ?_;clear hK K)|apply Rx.o ?_|apply aE ?_|(apply aA (fun o g=>?_) (fun o g=>?_)<;>try(cases o;done))|apply ah ?_|(apply ai fun K hK=>?_)|(apply au 16 [(0,3),(2,3),(5,3),(5,6)] fun K hK=>?_)|(apply aS ?_;try intro _)|(apply aT ?_ ?_<;>clear hK K)|apply aR ?_|apply ak ?_|apply am ?_|apply aq ?_|apply aw ?_)
   .exact di
   .have U:∀k,k<O.next->H11.get k=O.get k:=fun k Z=>by rw[f11 k Z,f9 k Z,old8 k Z]
    have g110:H11.get 0=some (.cells p.cells 0 true):=by rw[U 0 ac];exact g80
    have u11:dI H11 u6 (seen++[p.funcs[i].name]) H2.next:=u8.keep ac fun k Z=>U k (u8.lt Z).2
    have v11:dZ H11 v (bG p) 1:=t8.keep ac fun k Z=>U k (t8.lt Z).2;have q11:dI H11 w8 (bG p) H6.next:=s8.keep ac fun k Z=>U k (s8.lt Z).2
    have c8:∀k,bc w8 k->k<O.next:=fun k Z=>(s8.lt Z).2
    have cu:∀k,bc u6 k->k<H6.next:=fun k Z=>(s6.lt Z).2
    have s11':dI H11 w11 (p.funcs[i].params++p.funcs[i].aj) O.next:=s11
    have hfl:(p.funcs[i].params++p.funcs[i].aj).length<2^38:=ca;have m11:O.next+1<=H11.next:=ac
    have m8:H6.next+1<=O.next:=ac
    clear s11 a11 f11 a9 f9 s10 s9 a8 f8 s8 a6 f6 s6 n9 n11 o8 o6 s7 t7 old8 z old5 s5b t8 u8 t6 t5 g9 g9a g9b g8 g6 g5 e8 e5;generalize p.funcs[i].params++p.funcs[i].aj=L at *;have hln:=fun H'=>s11'.len (H':=H');refine cA [1,3,4,6,7,9] [0] 10 L.length (fun j E H=>∃w J,E.at 8=w/\dI H w J H6.next/\(∀k,bc w k->¬bc w11 k)/\dI H w11 L O.next/\dZ H v (bG p) 1/\dI H u6 (seen++[p.funcs[i].name]) H2.next/\cG (bG p) L=cG J (L.drop j)/\J.length=(bG p).length+j) eE ⟨w8,bG p,eE,q11,fun k h1 h2=>by have:=c8 k h1;have:=(s11'.lt h2).1;omega,s11',v11,u11,az,rfl⟩ ?_;rintro j E3 H12 hj hcE I hnH hsI ⟨w,J,k8,q12,hno,r12,v12,u12,hJ3,hsl2⟩;(try simp only[bp,bm,aU,aF,aW,Nat.reduceBEq,Nat.reduceAdd,Nat.reduceLeDiff,tyF,g110, *]at hcE);(try simp only[bp,bm,aU,aF,aW,Nat.reduceBEq,Nat.reduceAdd,Nat.reduceLeDiff,tyF,g110, *]at I);(try simp only[bj,bE,cm,bO,Nat.reduceAdd]at hnH);have hB0:(0 == H12.next)=false:=bz ac;have hC0:(H12.next == 0)=false:=bz ac;repeat' (first
     |(apply aj ?_;clear hK K)|apply Rx.o ?_|apply aE ?_|(apply aA (fun o g=>?_) (fun o g=>?_)<;>try(cases o;done))|apply ah ?_|(apply ai fun K hK=>?_)|(apply au 16 [(0,3),(2,3),(5,3),(5,6)] fun K hK=>?_)|(apply aS ?_;try intro _)|(apply aT ?_ ?_<;>clear hK K)|apply aR ?_|apply ak ?_|apply am ?_|apply aq ?_|apply aw ?_)
    .have hlt2:j<L.length:=by simpa using o
     obtain⟨q,ia,ld⟩:=r12.at hlt2;have hdr2:cG J (L.drop j)=(bJ J L[j]||cG (J++[L[j]]) (L.drop (j+1))):=by rw[eU hlt2];rfl
     repeat' (first
      |(apply aj ?_;clear hK K)|apply Rx.o ?_|apply aE ?_|(apply aA (fun o g=>?_) (fun o g=>?_)<;>try(cases o;done))|apply ah ?_|(apply ai fun K hK=>?_)|(apply au 16 [(0,3),(2,3),(5,3),(5,6)] fun K hK=>?_)|(apply aS ?_;try intro _)|(apply aT ?_ ?_<;>clear hK K)|apply aR ?_|apply ak ?_|apply am ?_|apply aq ?_|apply aw ?_)
     refine qc ?_;refine bb ?_ (Gy (fun _=>rfl) rfl (.inr q12) ac L[j]);rintro w0 C ⟨rfl,s13,n13,f13,o13⟩;have m13:H12.next<=C.next:=ac
     clear n13;dsimp only[aZ];have g130:C.get 0=some (.cells p.cells 0 true):=by rw[f13 0 ac];exact I
     have r13:dI C w11 L O.next:=r12.keep m13 fun k Z=>o13 k fun h=>hno k h Z
     have v13:dZ C v (bG p) 1:=v12.keep m13 fun k Z=>f13 k (by have:=c3 k Z;omega);have u13:dI C u6 (seen++[p.funcs[i].name]) H2.next:=u12.keep m13 fun k Z=>f13 k (cu k Z)
     clear ia ld;obtain⟨q2,ia2,ld2⟩:=r13.at hlt2;repeat' (first
      |(apply aj ?_;clear hK K)|apply Rx.o ?_|apply aE ?_|(apply aA (fun o g=>?_) (fun o g=>?_)<;>try(cases o;done))|apply ah ?_|(apply ai fun K hK=>?_)|(apply au 16 [(0,3),(2,3),(5,3),(5,6)] fun K hK=>?_)|(apply aS ?_;try intro _)|(apply aT ?_ ?_<;>clear hK K)|apply aR ?_|apply ak ?_|apply am ?_|apply aq ?_|apply aw ?_)
     .all_goals refine qq ?_
      rw[mh,hJ',hJ2,hdr,hJ3,hdr2];(try simp only[ci]at *);simp only[ *,cj,bC,bH,Int.reduceEq]
     have V:∀k,k<C.next->(C.alloc (.cells [.ai L[j]] 0 true)).get k=C.get k:=fun k Z=>eG
     have s13b:dZ (C.alloc (.cells [.ai L[j]] 0 true)) w J H6.next:=s13.keep (dH _) fun k Z=>V k (s13.lt Z).2
     obtain⟨w14,H14,a14,s14,n14,f14,o14⟩:=vM (r:=C.next) (imm:=0) L[j] s13b dL gD ac;simp only[bj]at n14;have m14:C.next+2<=H14.next:=ac
     clear n14;have g140:H14.get 0=some (.cells p.cells 0 true):=by rw[f14 0 ac,V _ ac];exact g130
     refine jr cS cS (by rw[Y];exact a14) ?_;repeat' (first
      |(apply aj ?_;clear hK K)|apply Rx.o ?_|apply aE ?_|(apply aA (fun o g=>?_) (fun o g=>?_)<;>try(cases o;done))|apply ah ?_|(apply ai fun K hK=>?_)|(apply au 16 [(0,3),(2,3),(5,3),(5,6)] fun K hK=>?_)|(apply aS ?_;try intro _)|(apply aT ?_ ?_<;>clear hK K)|apply aR ?_|apply ak ?_|apply am ?_|apply aq ?_|apply aw ?_)
     refine⟨ac,a2,a2,ce,(by simp only[aF,Nat.reduceBEq, *];exact gQ (n:=L.length) ac ac),?_⟩;refine⟨w14,J++[L[j]],eE,s14,fun k h1 h2=>?_,?_,?_,?_,by rw[hJ3,hdr2];(try simp only[ci]at *);simp only[ *,cj,bC,bH,Int.reduceEq],by simp[hsl2];omega⟩
     .have Z:=(r13.lt h2).2;rcases o14.2 k h1 with h3|h3
      .exact hno k h3 h2
      .simp only[bj]at h3;omega
     .refine r13.keep ac fun k Z=>?_;have hl:=(r13.lt Z).2;rw[o14.1 k dL (fun h=>hno k h Z),V k hl]
     .exact v13.keep ac fun k Z=>by rw[f14 k (by have:=c3 k Z;omega),V k (v13.lt Z).2]
     .exact u13.keep ac fun k Z=>by rw[f14 k (cu k Z),V k (u13.lt Z).2]
    .have hje:j=L.length:=by simp at o;omega
     rw[hje,fU]at hJ3;have hJ3':cG (bG p) L=false:=hJ3;refine⟨ac,a2,a2,ce,po,?_⟩;exact⟨u6,seen++[p.funcs[i].name],eE,.inr u12,v12,by rw[hJ2,hdr,hJ3'];(try simp only[ci]at *);simp only[ *,cj,bC,bH,Int.reduceEq],by simp[hsl]⟩
  .all_goals refine qq ?_
   have hie:i=p.funcs.length:=p9;rw[hie,fU]at hJ2;have hJ2':nN (bG p) [] p.funcs=false:=hJ2;rw[mh,hJ',hJ2'];rfl)
end
section
def tyR3h.tyF:=ad @ez (ad @cR (ad @dt (ad @gO (ad @fb (ad @eA (ad @ft (ad @Gd (ad @gH (ad @iV (ad @fc (@fG)))))))))))
open tyR3h
noncomputable def Nk:{c:SC // aI 43 (f72.body.getD .skip)=c}:=by
 refine⟨?_,?_⟩;rotate_left
 .simp only[f72,bS,aI,bM,bI,bT,bU,Nat.blt,Nat.ble];rfl
noncomputable def Nl:{c:SC // aI 64 (f119.body.getD .skip)=c}:=by
 refine⟨?_,?_⟩;rotate_left
 .simp only[f119,bS,aI,bM,bI,bT,bU,Nat.blt,Nat.ble];rfl
structure Sc where
 vars:qt
 aa:Option qt
 p:Pr
def Sc.an(x:Sc):qt:=x.aa.getD []
def rQ:Option qt->AV
 |none=>.ah
 |some l=>cM l
def Sc.cells(x:Sc):qs:=[cM x.vars,rQ x.aa,.ao (x.p.aa.map Ar.cells),.ao (x.p.funcs.map Fu.cells)]
def Sc.ok(x:Sc):Prop:=x.vars.length<2^60/\x.an.length<2^60/\x.p.sz<2^60
theorem Sc.c0(x:Sc):x.cells[0]?=some (cM x.vars):=rfl
theorem Sc.c1(x:Sc):x.cells[1]?=some (rQ x.aa):=rfl
theorem Sc.a2(x:Sc):cQ 4 x.cells=some (.agg x.cells):=rfl
def zR:=@Sc.a2
theorem Nm(x:Sc):cQ 2 (x.cells.drop 2)=some (.agg x.p.cells):=rfl
def zaE(a:Option qt):fu (rQ a):=by
 cases a with
 |none=>exact .ah
 |some l=>exact tS l
def Sc.pure(x:Sc):gl x.cells:=.cons (tS _) (.cons (zaE _) x.p.pure)
def zaF{a b:Option qt}(h:rQ a=rQ b):a=b:=by
 cases a<;>cases b<;>simp only[rQ,reduceCtorEq,AV.ao.injEq]at h
 .rfl
 .rw[vH h]
def Sc.inj{x y:Sc}(h:x.cells=y.cells):x=y:=by
 obtain⟨v,a,p⟩:=x;obtain⟨z,O,j⟩:=y;simp only[Sc.cells,dR,AV.ao.injEq,aU]at h;obtain⟨i,g,m,U⟩:=h;rw[vH i,zaF g,Pr.inj (x:=p) (y:=j) (by simp[Pr.cells,m,U])]
section
variable (vs an:qt)
def iz(x:Ex):Bool:=(!decide (x.am=2)||bJ vs x.name)&&(!decide (x.am=3)||bJ an x.name)
mutual
def dO:Ex->Bool
 | .mk k n s o L=>eL L&&iz vs an (.mk k n s o L)
def eL:qG->Bool
 |[]=>true
 |e::es=>dO e&&eL es
end
theorem zS(x:Ex):dO vs an x=(eL vs an x.ak&&iz vs an x):=by cases x;rw[dO];rfl
end
def pC(x:Sc×Ex):qs:=[.agg x.1.cells,.agg x.2.cells]
def Dj(x y:Sc×Ex)(h:pC x=pC y):x=y:=by
 simp only[pC,dR,AV.agg.injEq,aU]at h;exact pw (Sc.inj h.1) (Ex.inj h.2)
def Dk{l:qA}(K:∀o,cV l 117 o=rK.sp o)(a:Option qt)(j:(a.getD []).length<2^60)(s:qw)(H:Hp):
 aY prog (aH pls l) 117 [rQ a,.ai s] H fun v H'=>v=.bool (bJ (a.getD []) s)/\H'=H:=by
 have:=cF (P:=prog) (pls:=pls) (l:=l) (enc:=sH) (ok:=fun x=>(x.1.getD []).length<2^60) (out:=fun x=>.bool (bJ (x.1.getD []) x.2)) Gw (g:=117) (x:=(a,s)) (K _) j (H:=H);cases a<;>exact this
def zaG:∀x:Sc×Ex,(x.1.ok/\x.2.sz<2^60)->bX prog ρ 72 (pC x) (.bool (dO x.1.vars x.1.an x.2)):=
 vG fit (pls:=pls) (l:=[rK]) ⟨Gx ρ,trivial⟩ (fun x=>x.2.sz) (ok:=fun x=>x.1.ok/\x.2.sz<2^60) (enc:=pC) (out:=fun x=>.bool (dO x.1.vars x.1.an x.2)) (fun x _=>.cons (.agg x.1.pure) (.cons (.agg x.2.pure) .nil)) (fun x _=>.bool _) (fun x I=>by
 have L:=vJ (sz:=fun x:Sc×Ex=>x.2.sz) (ok:=fun x=>x.1.ok/\x.2.sz<2^60) (out:=fun x=>.bool (dO x.1.vars x.1.an x.2)) Dj (f:=72) (l:=[rK]) x;generalize j:(⟨72,false,ch (fun y=>(y.1.ok/\y.2.sz<2^60)/\y.2.sz<x.2.sz) pC fun x=>.bool (dO x.1.vars x.1.an x.2)⟩:En)::[rK]=l at L⊢;obtain⟨c,x⟩:=x;obtain⟨hc,I⟩:=I;simp only[]at I hc;have kr:∀y:Ex,y.sz<x.sz->∀H,aY prog (aH pls l) 72 [.agg c.cells,.agg y.cells] H fun v H'=>v=.bool (dO c.vars c.an y)/\H'=H:=fun y h2 H=>by
  subst j;exact cF (enc:=pC) (out:=fun x=>.bool (dO x.1.vars x.1.an x.2)) Dj (x:=(c,y)) rfl ⟨⟨hc,uk⟩,h2⟩
 have kv:∀s H,aY prog (aH pls l) 117 [cM c.vars,.ai s] H fun v H'=>v=.bool (bJ c.vars s)/\H'=H:=fun s H=>by
  subst j;exact Dk (fun _=>rfl) (some c.vars) hc.1 s H
 have ka:∀s H,aY prog (aH pls l) 117 [rQ c.aa,.ai s] H fun v H'=>v=.bool (bJ c.an s)/\H'=H:=fun s H=>by
  subst j;exact Dk (fun _=>rfl) c.aa hc.2.1 s H
 have hsz:=x.aM;have hlen:=ph x.ak;change aY _ _ _ [.agg c.cells,.agg x.cells] _ _;refine bF (M:=43) (rs:=[.tmp 4]) L.call L.aD L.aq func72 rfl rfl Nk.2 rfl ?_;dsimp only[Nk,bA,Nat.reduceAdd];repeat' (first
  |(apply aj ?_;clear hK K)|apply Rx.o ?_|apply dE ?_|(apply aX (fun J g=>?_) (fun J g=>?_)<;>try(cases J;done))|(apply aA (fun o Z=>?_) (fun o Z=>?_)<;>try(cases o;done))|apply ah ?_|(apply ai fun K hK=>?_)|(apply au 4 [(0,6),(2,6),(5,6)] fun K hK=>?_)|(apply aS ?_;try intro _)|(apply aT ?_ ?_<;>clear hK K)|apply aR ?_|apply ak ?_|apply am ?_|apply aq ?_|apply aw ?_)
 refine cA [2,3] [0,1] 5 x.ak.length (fun i E H=>eL c.vars c.an x.ak=eL c.vars c.an (x.ak.drop i)) eE az ?_;rintro i E U hi m O C hsI Y;(try simp only[bp,bm,aU,aF,aW,Nat.reduceBEq,Nat.reduceAdd,Nat.reduceLeDiff,tyF, *]at m);(try simp only[bp,bm,aU,aF,aW,Nat.reduceBEq,Nat.reduceAdd,Nat.reduceLeDiff,tyF, *]at O);(try simp only[bj,bE,cm,bO,Nat.reduceAdd]at C);have hB0:(0 == U.next)=false:=bz ac;have hC0:(U.next == 0)=false:=bz ac;have hB1:(1 == U.next)=false:=bz ac;have hC1:(U.next == 1)=false:=bz ac;have gh0:=@Sc.c0;have gh1:=@Sc.c1;have gh2:=@zR;repeat' (first
  |(apply aj ?_;clear hK K)|apply Rx.o ?_|(apply eC ?_;first|refine bi (kv _ _) ?_|refine bi (ka _ _) ?_)|apply dE ?_|(apply aX (fun J g=>?_) (fun J g=>?_)<;>try(cases J;done))|(apply aA (fun o Z=>?_) (fun o Z=>?_)<;>try(cases o;done))|apply ah ?_|(apply ai fun K hK=>?_)|(apply au 4 [(0,6),(2,6),(5,6)] fun K hK=>?_)|(apply aS ?_;try intro _)|(apply aT ?_ ?_<;>clear hK K)|apply aR ?_|apply ak ?_|apply am ?_|apply aq ?_|apply aw ?_)
 .have z:i<x.ak.length:=by simpa using o
  have hgx:x.ak[i]?=some x.ak[i]:=a0 z;have hm:=ou (cL z);have V:eL c.vars c.an (x.ak.drop i)=(dO c.vars c.an x.ak[i]&&eL c.vars c.an (x.ak.drop (i+1))):=nH;have gh0:=@zR;repeat' (first
   |(apply aj ?_;clear hK K)|apply Rx.o ?_|(apply eC ?_;first|refine bi (kr _ ac _) ?_)|apply dE ?_|(apply aX (fun J g=>?_) (fun J g=>?_)<;>try(cases J;done))|(apply aA (fun o Z=>?_) (fun o Z=>?_)<;>try(cases o;done))|apply ah ?_|(apply ai fun K hK=>?_)|(apply au 4 [(0,6),(2,6),(5,6)] fun K hK=>?_)|(apply aS ?_;try intro _)|(apply aT ?_ ?_<;>clear hK K)|apply aR ?_|apply ak ?_|apply am ?_|apply aq ?_|apply aw ?_)
  .exact di
  all_goals (first|(refine⟨aD,_,aN,?_⟩;(try simp only[aC]);rw[zS,Y,V];(try simp only[ci]at *);simp only[ *,cj,bC,bH,Int.reduceEq];done)|skip)
  refine⟨ac,a2,a2,ce,Gl,?_⟩;rw[Y,V];(try simp only[ci]at *);simp only[ *,cj,bC,bH,Int.reduceEq]
 all_goals
  have hie:i=x.ak.length:=ac;rw[hie,fU]at Y;have hJ':eL c.vars c.an x.ak=true:=Y;clear Y;all_goals refine qq ?_
  rw[zS,hJ',iz];(try simp only[ci]at *);simp only[ *,cj,bC,bH,Int.reduceEq])
def jw(c:Sc)(x:St):Bool:=
 if x.am=1 then bJ c.vars x.name
 else if x.am=6 then bJ c.vars x.name&&decide (0<=dc c.p.funcs x.to 0)
 else if x.am=2 then bJ c.an x.name
 else true
def jx(c:Sc)(x:St):Bool:=eL c.vars c.an x.args&&dO c.vars c.an x.aW&&dO c.vars c.an x.value&&jw c x
def zT(x:Sc×St):qs:=[.agg x.1.cells,.agg x.2.cells]
def zaH(x y:Sc×St)(h:zT x=zT y):x=y:=by
 simp only[zT,dR,AV.agg.injEq,aU]at h;exact pw (Sc.inj h.1) (St.inj h.2)
noncomputable def Ht:En:=⟨72,true,ch (fun x=>x.1.ok/\x.2.sz<2^60) pC fun x=>.bool (dO x.1.vars x.1.an x.2)⟩
def Nn:cT prog ρ Ht:=dg fun x I=>zaG ρ x I
def v9(x:Pr×qw):qs:=[.agg x.1.cells,.ai x.2]
def Hu(x y:Pr×qw)(h:v9 x=v9 y):x=y:=by
 simp only[v9,dR,AV.agg.injEq,AV.ai.injEq,aU]at h;exact pw (Pr.inj h.1) h.2
noncomputable def xM:En:=⟨118,false,ch (fun x=>x.1.funcs.length<2^60) v9 fun x=>.int .i64 (dc x.1.funcs x.2 0)⟩
def Hv:cT prog ρ xM:=dg fun x I=>YJ ρ x.1 x.2 I
noncomputable def xN:qA:=[rK,xM,Ht]
def zaI:gm prog ρ xN:=⟨Gx ρ,Hv ρ,Nn ρ,trivial⟩
theorem zaJ(c:Sc)(x:St)(U:c.ok)(hx:x.sz<2^60):bX prog ρ 119 [.agg c.cells,.agg x.cells] (.bool (jx c x)):=eg fit (pls:=pls) (zaI ρ) (.cons (.agg c.pure) (.cons (.agg x.pure) .nil)) (.bool _) (by
 have C:zd0 (aH pls xN) 119:=dG (fun _=>rfl) rfl;have kr:∀y:Ex,y.sz<2^60->∀H,aY prog (aH pls xN) 72 [.agg c.cells,.agg y.cells] H fun v H'=>v=.bool (dO c.vars c.an y)/\H'=H:=fun y h2 H=>cF (enc:=pC) (out:=fun x=>.bool (dO x.1.vars x.1.an x.2)) Dj (x:=(c,y)) rfl ⟨U,h2⟩;have kv:∀s H,aY prog (aH pls xN) 117 [cM c.vars,.ai s] H fun v H'=>v=.bool (bJ c.vars s)/\H'=H:=fun s H=>Dk (fun _=>rfl) (some c.vars) U.1 s H;have ka:∀s H,aY prog (aH pls xN) 117 [rQ c.aa,.ai s] H fun v H'=>v=.bool (bJ c.an s)/\H'=H:=fun s H=>Dk (fun _=>rfl) c.aa U.2.1 s H;have j:c.p.funcs.length<2^60:=by have h:=U.2.2;have h2:c.p.sz=1+gp c.p.aa+fw c.p.funcs:=rfl;have:=nE c.p.funcs;omega
 have kf:∀s H,aY prog (aH pls xN) 118 [.agg c.p.cells,.ai s] H fun v H'=>v=.int .i64 (dc c.p.funcs s 0)/\H'=H:=fun s H=>cF (enc:=v9) (out:=fun x=>.int .i64 (dc x.1.funcs x.2 0)) Hu (x:=(c.p,s)) rfl j;have hsz:=x.aM;have hlen:=ph x.args;refine bF (M:=64) (rs:=[.tmp 4]) (C.call _) C.aD C.aq func119 rfl rfl Nl.2 rfl ?_;dsimp only[Nl,bA,Nat.reduceAdd];repeat' (first
  |(apply aj ?_;clear hK K)|apply Rx.o ?_|(apply aX (fun J g=>?_) (fun J g=>?_)<;>try(cases J;done))|(apply aA (fun o Z=>?_) (fun o Z=>?_)<;>try(cases o;done))|apply ah ?_|(apply ai fun K hK=>?_)|(apply au 4 [(0,6),(2,6),(5,6)] fun K hK=>?_)|(apply aS ?_;try intro _)|(apply aT ?_ ?_<;>clear hK K)|apply aR ?_|apply ak ?_|apply am ?_|apply aq ?_|apply aw ?_)
 refine cA [2,3] [0,1] 5 x.args.length (fun i E H=>eL c.vars c.an x.args=eL c.vars c.an (x.args.drop i)) eE az ?_;rintro i E O hi m L I hsI Y;(try simp only[bp,bm,aU,aF,aW,Nat.reduceBEq,Nat.reduceAdd,Nat.reduceLeDiff,tyF, *]at m);(try simp only[bp,bm,aU,aF,aW,Nat.reduceBEq,Nat.reduceAdd,Nat.reduceLeDiff,tyF, *]at L);(try simp only[bj,bE,cm,bO,Nat.reduceAdd]at I);have hB0:(0 == O.next)=false:=bz ac;have hC0:(O.next == 0)=false:=bz ac;have hB1:(1 == O.next)=false:=bz ac;have hC1:(O.next == 1)=false:=bz ac;have gh0:=@Sc.c0;have gh1:=@Sc.c1;have gh2:=@zR;have gh3:=@Nm;repeat' (first
  |(apply aj ?_;clear hK K)|apply Rx.o ?_|(apply eC ?_;first|refine bi (kr _ ac _) ?_|refine bi (kf _ _) ?_|refine bi (kv _ _) ?_|refine bi (ka _ _) ?_)|(apply aX (fun J g=>?_) (fun J g=>?_)<;>try(cases J;done))|(apply aA (fun o Z=>?_) (fun o Z=>?_)<;>try(cases o;done))|apply ah ?_|(apply ai fun K hK=>?_)|(apply au 4 [(0,6),(2,6),(5,6)] fun K hK=>?_)|(apply aS ?_;try intro _)|(apply aT ?_ ?_<;>clear hK K)|apply aR ?_|apply ak ?_|apply am ?_|apply aq ?_|apply aw ?_)
 .have z:i<x.args.length:=by simpa using o
  have hgx:x.args[i]?=some x.args[i]:=a0 z;have hm:=ou (cL z);have V:eL c.vars c.an (x.args.drop i)=(dO c.vars c.an x.args[i]&&eL c.vars c.an (x.args.drop (i+1))):=nH;have gh0:=@zR;repeat' (first
   |(apply aj ?_;clear hK K)|apply Rx.o ?_|(apply eC ?_;first|refine bi (kr _ ac _) ?_)|(apply aX (fun J g=>?_) (fun J g=>?_)<;>try(cases J;done))|(apply aA (fun o Z=>?_) (fun o Z=>?_)<;>try(cases o;done))|apply ah ?_|(apply ai fun K hK=>?_)|(apply au 4 [(0,6),(2,6),(5,6)] fun K hK=>?_)|(apply aS ?_;try intro _)|(apply aT ?_ ?_<;>clear hK K)|apply aR ?_|apply ak ?_|apply am ?_|apply aq ?_|apply aw ?_)
  .exact di
  all_goals (first|(refine⟨aD,_,aN,?_⟩;(try simp only[aC]);rw[jx,Y,V];(try simp only[ci]at *);simp only[ *,cj,bC,bH,Int.reduceEq];done)|skip)
  refine⟨ac,a2,a2,ce,CY,?_⟩;rw[Y,V];(try simp only[ci]at *);simp only[ *,cj,bC,bH,Int.reduceEq]
 all_goals
  have hie:i=x.args.length:=ac;rw[hie,fU]at Y;have hJ':eL c.vars c.an x.args=true:=Y;clear Y;all_goals refine qq ?_
  rw[jx,hJ',jw];(try simp only[ci]at *);simp only[ *,cj,bC,bH,Int.reduceEq])
end
variable{p:Pr}
section
def tyR3i.tyF:=ad @cR (ad @dt (ad @gH (ad @iV (ad @gO (ad @fb (ad @eA (ad @ft (ad @fc (ad @l8 (ad @fG (ad @Gd (ad @Nm (@zR)))))))))))))
open tyR3i
noncomputable def No:{c:SC // aI 59 (f71.body.getD .skip)=c}:=by
 refine⟨?_,?_⟩;rotate_left
 .simp only[f71,bS,aI,bM,bI,bT,bU,Nat.blt,Nat.ble];rfl
def oD(p:Pr)(s:qw):Nat:=((p.funcs[(dc p.funcs s 0).toNat]?).map fun f=>f.params.length).getD 0
def kE(p:Pr)(x:St):Bool:=!(decide (x.am=6) && !decide ((x.args.length:Int)=oD p x.to))
section
variable (c:Sc)
mutual
def fQ(b:Bool):St->Bool
 | .mk k o z n a v C L M=>(bif b then kE c.p (.mk k o z n a v C L M)else jx c (.mk k o z n a v C L M))&&de b L&&de b M
def de(b:Bool):qD->Bool
 |[]=>true
 |x::l=>fQ b x&&de b l
end
theorem zU(b:Bool)(x:St):fQ c b x=((bif b then kE c.p x else jx c x)&&de c b x.a5&&de c b x.a6):=by cases x;rw[fQ];rfl
end
section
variable (p:Pr)
mutual
def xO:St->Bool
 | .mk k o z n a v C L M=>(!decide (k=6)||decide (0<=dc p.funcs z 0))&&oE L&&oE M
def oE:qD->Bool
 |[]=>true
 |x::l=>xO x&&oE l
end
theorem Np(x:St):xO p x=((!decide (x.am=6)||decide (0<=dc p.funcs x.to 0))&&oE p x.a5&&oE p x.a6):=by cases x;rw[xO];rfl
end
theorem Nq{p:Pr}:∀{l:qD}{x:St},oE p l=true->x∈l->xO p x=true
 |[],_,_,h=>by simp at h
 |e::es,x,hc,h=>by
  simp only[oE,co]at hc;rcases gE.1 h with rfl|h
  .exact hc.1
  .exact Nq hc.2 h
theorem Dm:∀(l:qN) (s:qw) (i:Nat),0<=dc l s i->∃k,k<l.length/\dc l s i=((i+k:Nat):Int)
 |[],s,i,h=>by simp[dc]at h
 |f::l,s,i,h=>by
  simp only[dc]at h⊢;split
  .exact⟨0,az,az⟩
  .rename_i C;rw[af C]at h;obtain⟨k,Z,g⟩:=Dm l s (i+1) (by exact h);exact⟨k+1,wV,by rw[show((i:Int)+1)=((i+1:Nat):Int) by omega,g];omega⟩
theorem zaK{s:qw}(h:0<=dc p.funcs s 0):∃g,p.funcs[(dc p.funcs s 0).toNat]?=some g/\oD p s=g.params.length:=by
 obtain⟨k,i,Z⟩:=Dm p.funcs s 0 h;have e:(dc p.funcs s 0).toNat=k:=by
  have:dc p.funcs s ((0:Nat):Int)=dc p.funcs s 0:=rfl;rw[this]at Z;omega
 refine⟨p.funcs[k],?_,?_⟩
 .rw[e];exact a0 i
 .unfold oD;rw[e,a0 i];rfl
theorem Sc.c3(x:Sc):x.cells[3]?=some (.ao (x.p.funcs.map Fu.cells)):=rfl
noncomputable def Nr:En:=⟨119,false,ch (fun x=>x.1.ok/\x.2.sz<2^60) zT fun x=>.bool (jx x.1 x.2)⟩
def zaL:cT prog ρ Nr:=dg fun x I=>zaJ ρ x.1 x.2 I.1 I.2
structure Cs where
 c:Sc
 l:qD
 b:Bool
def ri(x:Cs):qs:=[.agg x.c.cells,.ao (x.l.map St.cells),.bool x.b]
def Hw(x y:Cs)(h:ri x=ri y):x=y:=by
 obtain⟨a,b,c⟩:=x;obtain⟨O,I,m⟩:=y;simp only[ri,dR,AV.agg.injEq,AV.ao.injEq,AV.bool.injEq,aU]at h;rw[Sc.inj h.1,CA h.2.1,h.2.2]
def Cs.ok(x:Cs):Prop:=x.c.ok/\bN x.l<2^60/\(x.b=true->oE x.c.p x.l=true)
noncomputable def Hx:qA:=[xM,Nr]
def zaM:gm prog ρ Hx:=⟨Hv ρ,zaL ρ,trivial⟩
def ul(x:Cs):AV:=.bool (de x.c x.b x.l)
set_option maxRecDepth 100000 in
theorem zaN:∀x:Cs,x.ok->bX prog ρ 71 (ri x) (ul x):=
 vG fit (pls:=pls) (zaM ρ) (fun x=>bN x.l) (ok:=Cs.ok) (enc:=ri) (out:=ul) (fun x _=>.cons (.agg x.c.pure) (.cons (zi _) (.cons (.bool _) .nil))) (fun x _=>.bool _) (fun x hx=>by
 have hw:=vJ (sz:=fun x:Cs=>bN x.l) (ok:=Cs.ok) (out:=ul) Hw (f:=71) (l:=Hx) x;generalize hl:(⟨71,false,ch (fun y=>Cs.ok y/\bN y.l<bN x.l) ri ul⟩:En)::Hx=l at hw⊢;obtain⟨c,x,b⟩:=x;obtain⟨hc,hx,O⟩:=hx;simp only[]at hc hx O;have j:∀y:qD,bN y<bN x->(b=true->oE c.p y=true)->∀H,aY prog (aH pls l) 71 [.agg c.cells,.ao (y.map St.cells),.bool b] H fun v H'=>v=.bool (de c b y)/\H'=H:=fun y h2 h3 H=>by
  subst hl;exact cF (enc:=ri) (out:=ul) Hw (x:=⟨c,y,b⟩) rfl ⟨⟨hc,uk,h3⟩,h2⟩
 have kd:∀y:St,y.sz<2^60->∀H,aY prog (aH pls l) 119 [.agg c.cells,.agg y.cells] H fun v H'=>v=.bool (jx c y)/\H'=H:=fun y h2 H=>by
  subst hl;exact cF (enc:=zT) (out:=fun x=>.bool (jx x.1 x.2)) zaH (x:=(c,y)) rfl ⟨hc,h2⟩
 have hpf:c.p.funcs.length<2^60:=by have h:=hc.2.2;have h2:c.p.sz=1+gp c.p.aa+fw c.p.funcs:=rfl;have:=nE c.p.funcs;omega
 have kf:∀s H,aY prog (aH pls l) 118 [.agg c.p.cells,.ai s] H fun v H'=>v=.int .i64 (dc c.p.funcs s 0)/\H'=H:=fun s H=>by
  subst hl;exact cF (enc:=v9) (out:=fun x=>.int .i64 (dc x.1.funcs x.2 0)) Hu (x:=(c.p,s)) rfl hpf
 have hlen:=tR x;have hplan:∀id,(aH pls l).bF 71 id=.text:=fun _=>by first|rfl|(simp[aH,yU,pls])
 change aY _ _ _ [.agg c.cells,.ao (x.map St.cells),.bool b] _ _;refine bF (M:=59) (rs:=[.tmp 6]) hw.call hw.aD hw.aq func71 rfl rfl No.2 rfl ?_;dsimp only[No,bA,Nat.reduceAdd];repeat' (first
  |(apply aj ?_;clear hK K)|apply Rx.o ?_|apply aE ?_|(apply aX (fun J Z=>?_) (fun J Z=>?_)<;>try(cases J;done))|(apply aA (fun o Y=>?_) (fun o Y=>?_)<;>try(cases o;done))|apply ah ?_|(apply ai fun K hK=>?_)|(apply au 6 [(1,14),(5,14),(5,21),(6,14),(6,21),(9,14),(9,21),(11,14),(13,14),(17,21),(18,21)] fun K hK=>?_)|(apply aS ?_;try intro _)|(apply aT ?_ ?_<;>clear hK K)|apply aR ?_|apply ak ?_|apply am ?_|apply aq ?_|apply aw ?_)
 refine cA [1,2,3] [0] 7 x.length (fun i E H=>de c b x=de c b (x.drop i)) eE az ?_;rintro i E H2 hi hcE hrH hnH hsI U;(try simp only[bp,bm,aU,aF,aW,Nat.reduceBEq,Nat.reduceAdd,Nat.reduceLeDiff,tyF, *]at hcE);(try simp only[bp,bm,aU,aF,aW,Nat.reduceBEq,Nat.reduceAdd,Nat.reduceLeDiff,tyF, *]at hrH);(try simp only[bj,bE,cm,bO,Nat.reduceAdd]at hnH);have hB0:(0 == H2.next)=false:=bz ac;have hC0:(H2.next == 0)=false:=bz ac;repeat' (first
  |(apply aj ?_;clear hK K)|apply Rx.o ?_|apply aE ?_|(apply aX (fun J Z=>?_) (fun J Z=>?_)<;>try(cases J;done))|(apply aA (fun o Y=>?_) (fun o Y=>?_)<;>try(cases o;done))|apply ah ?_|(apply ai fun K hK=>?_)|(apply au 6 [(1,14),(5,14),(5,21),(6,14),(6,21),(9,14),(9,21),(11,14),(13,14),(17,21),(18,21)] fun K hK=>?_)|(apply aS ?_;try intro _)|(apply aT ?_ ?_<;>clear hK K)|apply aR ?_|apply ak ?_|apply am ?_|apply aq ?_|apply aw ?_)
 .have z:i<x.length:=by simpa using o
  have hgx:x[i]?=some x[i]:=a0 z;have hsm:=pi (cL z);have hsz:=x[i].aM;have hcl:b=true->xO c.p x[i]=true:=fun h=>Nq (O h) (cL z);have V:de c b (x.drop i)=(fQ c b x[i]&&de c b (x.drop (i+1))):=nH;rw[zU]at V;cases b with
  |false=>
   rw[sy]at V;repeat' (first
    |(apply aj ?_;clear hK K)|apply Rx.o ?_|apply aE ?_|(apply eC ?_;first|refine bi (kd _ ac _) ?_|refine bi (j _ ac (fun h=>lY) _) ?_)|(apply aX (fun J Z=>?_) (fun J Z=>?_)<;>try(cases J;done))|(apply aA (fun o Y=>?_) (fun o Y=>?_)<;>try(cases o;done))|apply ah ?_|(apply ai fun K hK=>?_)|(apply au 6 [(1,14),(5,14),(5,21),(6,14),(6,21),(9,14),(9,21),(11,14),(13,14),(17,21),(18,21)] fun K hK=>?_)|(apply aS ?_;try intro _)|(apply aT ?_ ?_<;>clear hK K)|apply aR ?_|apply ak ?_|apply am ?_|apply aq ?_|apply aw ?_)
   all_goals (first|(refine⟨aD,_,aN,?_⟩;(try simp only[aC]);change _=AV.bool (de c _ x);rw[U,V];(try simp only[ci]at *);simp only[ *,cj,bC,bH,Int.reduceEq];done)|skip)
   refine⟨ac,a2,a2,ce,tX,?_⟩;rw[U,V];(try simp only[ci]at *);simp only[ *,cj,bC,bH,Int.reduceEq]
  |true=>
   rw[jg]at V;have I:=hcl rfl;rw[Np,co,co]at I;obtain⟨⟨hk6,L⟩,C⟩:=I;by_cases h6:x[i].am=6
   .have hf0:0<=dc c.p.funcs x[i].to 0:=by simpa [h6]using hk6
    obtain⟨g,hg6,m⟩:=zaK hf0;have gh0:=@Sc.c3;repeat' (first
     |(apply aj ?_;clear hK K)|apply Ry.o ?_|apply b8 ?_|(apply ee ?_;first|refine bi (kf _ _) ?_|refine bi (j _ ac (fun _=>L) _) ?_|refine bi (j _ ac (fun _=>C) _) ?_)|(apply ct (fun J Z=>?_) (fun J Z=>?_)<;>try(cases J;done))|(apply bq (fun o Y=>?_) (fun o Y=>?_)<;>try(cases o;done))|apply ah ?_|(apply ai fun K hK=>?_)|(apply au 6 [(1,14),(5,14),(5,21),(6,14),(6,21),(9,14),(9,21),(11,14),(13,14),(17,21),(18,21)] fun K hK=>?_)|(apply aS ?_;try intro _)|(apply aT ?_ ?_<;>clear hK K)|apply aR ?_|(apply pU (fun J Z=>?_) (fun J Z=>?_)<;>try(cases J;done))|apply ak ?_|apply am ?_|apply aq ?_|apply aw ?_)
    .exact di
    all_goals (first|(refine⟨aD,_,aN,?_⟩;(try simp only[aC]);change _=AV.bool (de c _ x);rw[U,V,kE,m];(try simp only[ci]at *);simp only[ *,cj,bC,bH,Int.reduceEq];done)|skip)
    refine⟨ac,a2,a2,ce,tX,?_⟩;rw[U,V,kE,m];(try simp only[ci]at *);simp only[ *,cj,bC,bH,Int.reduceEq]
   .have gh0:=@Sc.c3;repeat' (first
     |(apply aj ?_;clear hK K)|apply Ry.o ?_|apply b8 ?_|(apply ee ?_;first|refine bi (j _ ac (fun _=>L) _) ?_|refine bi (j _ ac (fun _=>C) _) ?_)|(apply ct (fun J Z=>?_) (fun J Z=>?_)<;>try(cases J;done))|(apply bq (fun o Y=>?_) (fun o Y=>?_)<;>try(cases o;done))|apply ah ?_|(apply ai fun K hK=>?_)|(apply au 6 [(1,14),(5,14),(5,21),(6,14),(6,21),(9,14),(9,21),(11,14),(13,14),(17,21),(18,21)] fun K hK=>?_)|(apply aS ?_;try intro _)|(apply aT ?_ ?_<;>clear hK K)|apply aR ?_|(apply pU (fun J Z=>?_) (fun J Z=>?_)<;>try(cases J;done))|apply ak ?_|apply am ?_|apply aq ?_|apply aw ?_)
    .exact di
    all_goals (first|(refine⟨aD,_,aN,?_⟩;(try simp only[aC]);change _=AV.bool (de c _ x);rw[U,V,kE];(try simp only[ci]at *);simp only[ *,cj,bC,bH,Int.reduceEq];done)|skip)
    refine⟨ac,a2,a2,ce,tX,?_⟩;rw[U,V,kE];(try simp only[ci]at *);simp only[ *,cj,bC,bH,Int.reduceEq]
 .all_goals refine qq ?_
  rw[ul,U,show i=x.length by simp at o;omega];simp[de])
end
variable{l:qt}
section
def tyR3j.tyF:=ad @ez (ad @cR (ad @dt (ad @gH (ad @iV (ad @gO (ad @fb (ad @eA (ad @ft (ad @fc (ad @l8 (ad @l9 (ad @fG (ad @Gd (ad @Nf (@Di)))))))))))))))
open tyR3j
noncomputable def Nt:{c:SC // aI 86 (f36.body.getD .skip)=c}:=by
 refine⟨?_,?_⟩;rotate_left
 .simp only[f36,bS,aI,bM,bI,bT,bU,Nat.blt,Nat.ble];rfl
def zaO{c c':Sc}(h1:c.vars=c'.vars)(h2:c.an=c'.an)(m:c.p=c'.p)(x:St):jx c x=jx c' x:=by
 unfold jx jw;rw[h1,h2,m]
mutual
theorem zaP{c c':Sc}(h1:c.vars=c'.vars)(h2:c.an=c'.an)(m:c.p=c'.p)(b:Bool):∀x:St,fQ c b x=fQ c' b x
 | .mk k o z n a v C L M=>by
   simp only[fQ,zV h1 h2 m b L,zV h1 h2 m b M,zaO h1 h2 m,m]
theorem zV{c c':Sc}(h1:c.vars=c'.vars)(h2:c.an=c'.an)(m:c.p=c'.p)(b:Bool):∀l:qD,de c b l=de c' b l
 |[]=>rfl
 |x::l=>by simp only[de,zaP h1 h2 m b x,zV h1 h2 m b l]
end
def ml(v:AV)(l:qt):Option qt:=match v with
 | .ah=>none
 |_=>some l
theorem zW(h:dZ H v l lo):(ml v l).getD []=l:=by
 rcases h with⟨rfl,rfl⟩|⟨r,L,rfl,_⟩<;>rfl
theorem dZ.eb(h:dZ H v l lo)(n:Nat):
 ∃H',eR (n+2) v H=some (rQ (ml v l),H')/\dZ H' v l lo/\H'.next=H.next/\∀k,¬bc v k->H'.get k=H.get k:=by
 rcases h with⟨rfl,rfl⟩|h
 .exact⟨H,rfl,.inl ⟨rfl,rfl⟩,rfl,fun _ _=>rfl⟩
 .obtain⟨H',i,g,m,_,M⟩:=h.aD n;refine⟨H',?_,.inr g,m,M⟩;rw[i];obtain⟨r,L,rfl,_⟩:=h;rfl
theorem Nu{vs U:qt}{lo':Nat}(L:dI H w vs lo)(Y:dZ H a U lo')(hd:∀k,bc a k->¬bc w k)(p:Pr)(n:Nat):
 ∃H',eR (n+3) (.agg [w,a,.ao (p.aa.map Ar.cells),.ao (p.funcs.map Fu.cells)]) H=some (.agg (Sc.cells ⟨vs,ml a U,p⟩),H')/\dI H' w vs lo/\dZ H' a U lo'/\H'.next=H.next/\∀k,¬bc w k->¬bc a k->H'.get k=H.get k:=by
 obtain⟨H1,i,g,m,_,M⟩:=L.aD n;have V:dZ H1 a U lo':=Y.keep ac fun k j=>M k (hd k j);obtain⟨O,K,J,C,Z⟩:=V.eb n;refine⟨O,?_,g.keep ac fun k j=>Z k fun h=>hd k h j,J,ac,fun k h o=>by rw[Z k o,M k h]⟩;have e:eR (n+3) (.agg [w,a,.ao (p.aa.map Ar.cells),.ao (p.funcs.map Fu.cells)]) H=match gg (eR (n+2)) [w,a,.ao (p.aa.map Ar.cells),.ao (p.funcs.map Fu.cells)] H with
  |some (I,H)=>some (.agg I,H)
  |none=>none:=rfl
 rw[e];simp only[gg,i,K];rfl
noncomputable def Nv:En:=⟨71,true,ch Cs.ok ri ul⟩
def zaQ:cT prog ρ Nv:=dg fun x I=>zaN ρ x I
noncomputable def Nw:En:=⟨68,false,ch (fun p=>p.sz<2^36) fA fun p=>.bool (jv p)⟩
def zaR:cT prog ρ Nw:=dg fun p hp=>zak ρ p ac
noncomputable def Nx:En:=⟨69,false,ch (fun p=>p.sz<2^36) fA fun p=>.bool (iq p)⟩
def zaS:cT prog ρ Nx:=dg fun p hp=>zaC ρ p hp
noncomputable def Ny:En:=⟨70,false,ch (fun p=>p.sz<2^36) fA fun p=>.bool (mh p)⟩
def zaT:cT prog ρ Ny:=dg fun p hp=>zaD ρ p hp
noncomputable def um:qA:=[Nw,Nx,Ny,Nv,Ht]
def zaU:gm prog ρ um:=⟨zaR ρ,zaS ρ,zaT ρ,zaQ ρ,Nn ρ,trivial⟩
def fV(p:Pr)(f:Fu):Sc:=⟨f.params++f.aj,some (bG p),p⟩
def jh(p:Pr)(f:Fu):Bool:=!(de (fV p f) false f.body&&dO (fV p f).vars (fV p f).an f.value)
def lh(p:Pr)(f:Fu):Bool:=!de (fV p f) true f.body
def fK(p:Pr):Int:=if jv p=true then 6 else if iq p=false then 2 else if mh p=true then 4 else if p.funcs.any (jh p)=true then 3 else if p.funcs.any (lh p)=true then 5 else 0
theorem Nz{lo':Nat}(L:dI H w (f.params++f.aj) lo)(j:dZ H a (bG p) lo')(hd:∀k,bc a k->¬bc w k)(Z:p.sz<2^60)(z:f.sz<2^60)(b:Bool)(o:b=true->oE p f.body=true):
 aY prog (aH pls um) 71 [.agg [w,a,.ao (p.aa.map Ar.cells),.ao (p.funcs.map Fu.cells)],.ao (f.body.map St.cells),.bool b] H fun v H'=>v=.bool (de (fV p f) b f.body)/\dI H' w (f.params++f.aj) lo/\dZ H' a (bG p) lo'/\H.next<=H'.next/\∀k,¬bc w k->¬bc a k->H'.get k=H.get k:=by
 obtain⟨H',i,g,m,h4,M⟩:=Nu L j hd p 97;have O:f.sz=1+f.name.length+dU f.params+dU f.aj+bN f.body+f.value.sz:=rfl;have V:=jO f.params;have K:=jO f.aj;have U:p.sz=1+gp p.aa+fw p.funcs:=rfl;have J:=nF p.aa;have C:(bG p).length=p.aa.length:=uj;have I:Cs.ok ⟨⟨f.params++f.aj,ml a (bG p),p⟩,f.body,b⟩:=⟨⟨ca,M3,Z⟩,uk,o⟩;refine bb ?_ (Cu (enc:=ri) (out:=ul) Hw (x:=⟨⟨f.params++f.aj,ml a (bG p),p⟩,f.body,b⟩) (fun _=>rfl) rfl I (H':=H') (fun y _ e=>?_) ?_)
 .rintro v _ ⟨rfl,rfl|rfl⟩
  .refine⟨?_,g,m,ac,M⟩;show AV.bool (de ⟨f.params++f.aj,ml a (bG p),p⟩ b f.body)=_;rw[zV (c:=⟨f.params++f.aj,ml a (bG p),p⟩) (c':=fV p f) rfl (zW j) rfl]
  .refine⟨?_,L,j,aO _,fun _ _ _=>rfl⟩;show AV.bool (de ⟨f.params++f.aj,ml a (bG p),p⟩ b f.body)=_;rw[zV (c:=⟨f.params++f.aj,ml a (bG p),p⟩) (c':=fV p f) rfl (zW j) rfl]
 .obtain⟨r,Y,rfl,_⟩:=L;simp[ri,Sc.cells]at e
 .show gg (eR 100) [.agg [w,a,.ao (p.aa.map Ar.cells),.ao (p.funcs.map Fu.cells)],.ao (f.body.map St.cells),.bool b] H=some (ri ⟨⟨f.params++f.aj,ml a (bG p),p⟩,f.body,b⟩,H');simp only[gg,i];rfl
theorem zaV{lo':Nat}(L:dI H w (f.params++f.aj) lo)(j:dZ H a (bG p) lo')(hd:∀k,bc a k->¬bc w k)(Z:p.sz<2^60)(o:f.sz<2^60):
 aY prog (aH pls um) 72 [.agg [w,a,.ao (p.aa.map Ar.cells),.ao (p.funcs.map Fu.cells)],.agg f.value.cells] H fun v H'=>v=.bool (dO (fV p f).vars (fV p f).an f.value)/\dI H' w (f.params++f.aj) lo/\dZ H' a (bG p) lo'/\H.next<=H'.next/\∀k,¬bc w k->¬bc a k->H'.get k=H.get k:=by
 obtain⟨H',i,g,m,h4,M⟩:=Nu L j hd p 97;have O:f.sz=1+f.name.length+dU f.params+dU f.aj+bN f.body+f.value.sz:=rfl;have V:=jO f.params;have K:=jO f.aj;have U:p.sz=1+gp p.aa+fw p.funcs:=rfl;have J:=nF p.aa;have C:(bG p).length=p.aa.length:=uj;have I:Sc.ok ⟨f.params++f.aj,ml a (bG p),p⟩/\f.value.sz<2^60:=⟨⟨ca,M3,Z⟩,ac⟩;refine bb ?_ (Cu (enc:=pC) (ok:=fun x=>x.1.ok/\x.2.sz<2^60) (out:=fun x=>.bool (dO x.1.vars x.1.an x.2)) Dj (x:=(⟨f.params++f.aj,ml a (bG p),p⟩,f.value)) (fun _=>rfl) rfl I (H':=H') (fun y _ e=>?_) ?_)
 .rintro v _ ⟨rfl,rfl|rfl⟩
  .refine⟨?_,g,m,ac,M⟩;show AV.bool (dO (f.params++f.aj) ((ml a (bG p)).getD []) f.value)=_;rw[zW j];rfl
  .refine⟨?_,L,j,aO _,fun _ _ _=>rfl⟩;show AV.bool (dO (f.params++f.aj) ((ml a (bG p)).getD []) f.value)=_;rw[zW j];rfl
 .obtain⟨r,Y,rfl,_⟩:=L;simp[pC,Sc.cells]at e
 .show gg (eR 100) [.agg [w,a,.ao (p.aa.map Ar.cells),.ao (p.funcs.map Fu.cells)],.agg f.value.cells] H=some (pC (⟨f.params++f.aj,ml a (bG p),p⟩,f.value),H');have z:eR 100 (.agg f.value.cells) H'=some (.agg f.value.cells,H'):=by
   rw[pT];rfl
  simp only[gg,i,z];rfl
def zaW(p:Pr)(r n:Nat):dK prog 135 [(0,.sl r 0 n 1),(2,.agg p.cells)]=some (.agg [.sl r 0 n 1,.ah,.ao (p.aa.map Ar.cells),.ao (p.funcs.map Fu.cells)]):=aG
theorem Dn(a b c d:AV):cQ 4 [a,b,c,d]=some (.agg [a,b,c,d]):=rfl
mutual
theorem zaX{c:Sc}:∀x:St,fQ c false x=true->xO c.p x=true
 | .mk k o z n a v C L M,h=>by
   rw[zU,sy,co,co]at h;obtain⟨⟨i,g⟩,m⟩:=h;rw[Np,Do _ g,Do _ m];simp only[jx,co]at i;have U:=i.2;unfold jw at U;by_cases K:(St.mk k o z n a v C L M).am=6
   .rw[af (by rw[K];decide),ay K,co]at U;simp only[U.2,Gs,kW]
   .simp only[K,j7,oh,xi,kW]
theorem Do{c:Sc}:∀l:qD,de c false l=true->oE c.p l=true
 |[],_=>rfl
 |x::l,h=>by
  simp only[de,co]at h;simp only[oE,zaX x h.1,Do l h.2,kW]
end
abbrev qk:HB:=.cells [.ah,.ah,.ah,.ah] 0 true
set_option maxRecDepth 100000 in
theorem zaY(p:Pr)(hz:p.sz<2^36):bX prog ρ 36 [.agg p.cells] (.int .i64 (fK p)):=eg fit (pls:=pls) (zaU ρ) (.cons (.agg p.pure) .nil) (.int _ _) (by
 have hw:zd0 (aH pls um) 36:=dG (fun _=>rfl) rfl;have hkeep:(aH pls um).keep 36=false:=rfl;have ke:∀H,aY prog (aH pls um) 68 [.agg p.cells] H fun v H'=>v=.bool (jv p)/\H'=H:=fun H=>cF (enc:=fA) (out:=fun p=>.bool (jv p)) rc (x:=p) rfl hz;have kw:∀H,aY prog (aH pls um) 69 [.agg p.cells] H fun v H'=>v=.bool (iq p)/\H'=H:=fun H=>cF (enc:=fA) (out:=fun p=>.bool (iq p)) rc (x:=p) rfl hz;have kd:∀H,aY prog (aH pls um) 70 [.agg p.cells] H fun v H'=>v=.bool (mh p)/\H'=H:=fun H=>cF (enc:=fA) (out:=fun p=>.bool (mh p)) rc (x:=p) rfl hz;have hpz:p.sz=1+gp p.aa+fw p.funcs:=rfl;have hla:=nF p.aa;have hlf:=nE p.funcs;have hal:(bG p).length=p.aa.length:=uj;refine bF (M:=86) (rs:=[.tmp 2]) (hw.call _) hw.aD hw.aq func36 rfl rfl Nt.2 rfl ?_;dsimp only[Nt,bA,Nat.reduceAdd];repeat' (first
  |(apply aj ?_;clear hK K)|apply Rx.o ?_|apply aE ?_|(apply eC ?_;first|refine bi (ke _) ?_|refine bi (kw _) ?_|refine bi (kd _) ?_)|apply dE ?_|(apply aX (fun J g=>?_) (fun J g=>?_)<;>try(cases J;done))|(apply aA (fun o Z=>?_) (fun o Z=>?_)<;>try(cases o;done))|apply ah ?_|(apply ai fun K hK=>?_)|(apply au 18 [(1,9),(3,9),(7,9),(8,9)] fun K hK=>?_)|(apply aS ?_;try intro _)|(apply aT ?_ ?_<;>clear hK K)|apply aR ?_|apply bD rfl ?_|apply ak ?_|apply am ?_|apply aq ?_|apply aw ?_)
 .all_goals refine qq ?_
  simp_all[fK]
 .all_goals refine qq ?_
  simp_all[fK]
 .all_goals refine qq ?_
  simp_all[fK]
 .refine cA [1] [0] 3 2 (fun r E H=>(1<=r->p.funcs.any (jh p)=false)/\(2<=r->p.funcs.any (lh p)=false)) eE ⟨ac,ac⟩ ?_;rintro r E H2 hr2 hcE L hnH hsI ⟨hJ1,hJ2⟩;(try simp only[bp,bm,aU,aF,aW,Nat.reduceBEq,Nat.reduceAdd,Nat.reduceLeDiff,tyF, *]at hcE);(try simp only[bp,bm,aU,aF,aW,Nat.reduceBEq,Nat.reduceAdd,Nat.reduceLeDiff,tyF, *]at L);(try simp only[bj,bE,cm,bO,Nat.reduceAdd]at hnH);have hB0:(0 == H2.next)=false:=bz ac;have hC0:(H2.next == 0)=false:=bz ac;repeat' (first
   |(apply aj ?_;clear hK K)|apply Rx.o ?_|apply aE ?_|apply dE ?_|(apply aX (fun J g=>?_) (fun J g=>?_)<;>try(cases J;done))|(apply aA (fun o Z=>?_) (fun o Z=>?_)<;>try(cases o;done))|apply ah ?_|(apply ai fun K hK=>?_)|(apply au 18 [(1,9),(3,9),(7,9),(8,9)] fun K hK=>?_)|(apply aS ?_;try intro _)|(apply aT ?_ ?_<;>clear hK K)|apply aR ?_|apply bD rfl ?_|apply ak ?_|apply am ?_|apply aq ?_|apply aw ?_)
  .have hrlt:r<2:=by omega
   refine cA [1,3] [0] 4 p.funcs.length (fun i E H=>(r=0->p.funcs.any (jh p)=(p.funcs.drop i).any (jh p))/\(r=1->p.funcs.any (lh p)=(p.funcs.drop i).any (lh p))) eE ⟨az,az⟩ ?_;rintro i E3 U hi hcE L hnH hsI ⟨hU,hB⟩;(try simp only[bp,bm,aU,aF,aW,Nat.reduceBEq,Nat.reduceAdd,Nat.reduceLeDiff,tyF, *]at hcE);(try simp only[bp,bm,aU,aF,aW,Nat.reduceBEq,Nat.reduceAdd,Nat.reduceLeDiff,tyF, *]at L);(try simp only[bj,bE,cm,bO,Nat.reduceAdd]at hnH);have hB0:(0 == U.next)=false:=bz ac;have hC0:(U.next == 0)=false:=bz ac;repeat' (first
    |(apply aj ?_;clear hK K)|apply Rx.o ?_|apply aE ?_|apply dE ?_|(apply aX (fun J g=>?_) (fun J g=>?_)<;>try(cases J;done))|(apply aA (fun o Z=>?_) (fun o Z=>?_)<;>try(cases o;done))|apply ah ?_|(apply ai fun K hK=>?_)|(apply au 18 [(1,9),(3,9),(7,9),(8,9)] fun K hK=>?_)|(apply aS ?_;try intro _)|(apply aT ?_ ?_<;>clear hK K)|apply aR ?_|apply bD rfl ?_|apply ak ?_|apply am ?_|apply aq ?_|apply aw ?_)
   .have hlt:i<p.funcs.length:=by simpa using o
    have hgx:p.funcs[i]?=some p.funcs[i]:=a0 hlt;have hsm:=ow (cL hlt);have hsz:p.funcs[i].sz=1+p.funcs[i].name.length+dU p.funcs[i].params+dU p.funcs[i].aj+bN p.funcs[i].body+p.funcs[i].value.sz:=rfl;have hpl:=jO p.funcs[i].params;have hll:=jO p.funcs[i].aj;repeat' (first
     |(apply aj ?_;clear hK K)|apply Rx.o ?_|apply aE ?_|apply dE ?_|(apply aX (fun J g=>?_) (fun J g=>?_)<;>try(cases J;done))|(apply aA (fun o Z=>?_) (fun o Z=>?_)<;>try(cases o;done))|apply ah ?_|(apply ai fun K hK=>?_)|(apply au 18 [(1,9),(3,9),(7,9),(8,9)] fun K hK=>?_)|(apply aS ?_;try intro _)|(apply aT ?_ ?_<;>clear hK K)|apply aR ?_|apply bD rfl ?_|apply ak ?_|apply am ?_|apply aq ?_|apply aw ?_)
    generalize hHb:Hp.set (Hp.alloc U _) U.next _=C
    have nb:U.next+1<=C.next:=by rw[<-hHb];exact aO _
    have gb:C.get U.next=some (.cells p.funcs[i].cells 0 true):=CW
    have gb0:C.get 0=some (.cells p.cells 0 true):=by rw[<-hHb,a1,af ac,aQ,af ac];exact L
    clear hHb;refine KC (id:=14) (ord:=[0,1,2,4,5,7,9,3,6,8,10]) (need:=[(0,7),(2,7),(4,7),(4,8),(5,7),(5,8),(5,10),(6,7),(6,8),(6,10)]) aG aG aG Ld aG fun K hK=>?_;have ebB:(U.next == C.next)=false:=ca;have eb0:(0 == C.next)=false:=ca;have eb1:(0 == C.next+1)=false:=az;have eb2:(U.next == C.next+1)=false:=ca;repeat' (first
     |(apply aj ?_;clear hK K)|apply Rx.o ?_|apply aE ?_|apply dE ?_|(apply aX (fun J g=>?_) (fun J g=>?_)<;>try(cases J;done))|(apply aA (fun o Z=>?_) (fun o Z=>?_)<;>try(cases o;done))|apply ah ?_|(apply ai fun K hK=>?_)|(apply au 18 [(1,9),(3,9),(7,9),(8,9)] fun K hK=>?_)|(apply aS ?_;try intro _)|(apply aT ?_ ?_<;>clear hK K)|apply aR ?_|apply bD rfl ?_|apply ak ?_|apply am ?_|apply aq ?_|apply aw ?_)
    generalize hHd:(C.alloc qe).alloc qk=Hd;have nd:C.next+2<=Hd.next:=by rw[<-hHd];exact aO _
    have ndx:Hd.next<=C.next+2:=by rw[<-hHd];exact aO _
    have oldd:∀k,k<C.next->Hd.get k=C.get k:=fun k V=>by rw[<-hHd,aQ,af dL,aQ,af ac]
    have gd1:Hd.get C.next=some qe:=by rw[<-hHd,aQ,af dL,aQ,ay rfl]
    have gds:Hd.get (C.next+1)=some qk:=by rw[<-hHd,aQ,ay (show C.next+1=(C.alloc _).next from rfl)]
    have gdb:Hd.get U.next=some (.cells p.funcs[i].cells 0 true):=by rw[oldd _ ac];exact gb
    have gd0:Hd.get 0=some (.cells p.cells 0 true):=by rw[oldd _ ac];exact gb0
    clear hHd;have s8:dI Hd (.sl C.next 0 0 1) [] C.next:=⟨C.next,0,rfl,gd1,az,aO _,ac⟩
    have ow8:∀k,bc (.sl C.next 0 0 1) k->k=C.next:=fun k ⟨n,e⟩=>by simp only[AV.sl.injEq]at e;exact e.1.symm
    obtain⟨w9,H9,a9,s9,n9,f9,o9⟩:=xC p.funcs[i].params s8 ac ca;have ow9:∀k,bc w9 k->k=C.next\/C.next+2<=k:=fun k V=>(o9.2 k V).elim (fun h=>.inl (ow8 k h)) (fun h=>.inr ac)
    have g9s:H9.get (C.next+1)=some qk:=by rw[o9.1 _ ac (fun h=>by have:=ow8 _ h;omega)];exact gds
    have g9b:H9.get U.next=some (.cells p.funcs[i].cells 0 true):=by rw[o9.1 _ ac (fun h=>by have:=ow8 _ h;omega)];exact gdb
    have g90:H9.get 0=some (.cells p.cells 0 true):=by rw[o9.1 _ ac (fun h=>by have:=ow8 _ h;omega)];exact gd0
    refine jr cS cS (by rw[hkeep];exact a9) ?_;repeat' (first
     |(apply aj ?_;clear hK K)|apply Rx.o ?_|apply aE ?_|apply dE ?_|(apply aX (fun J g=>?_) (fun J g=>?_)<;>try(cases J;done))|(apply aA (fun o Z=>?_) (fun o Z=>?_)<;>try(cases o;done))|apply ah ?_|(apply ai fun K hK=>?_)|(apply au 18 [(1,9),(3,9),(7,9),(8,9)] fun K hK=>?_)|(apply aS ?_;try intro _)|(apply aT ?_ ?_<;>clear hK K)|apply aR ?_|apply bD rfl ?_|apply ak ?_|apply am ?_|apply aq ?_|apply aw ?_)
    obtain⟨Y,H11,a11,s11,n11,f11,o11⟩:=xC p.funcs[i].aj s9 ac ca;have ow11:∀k,bc Y k->k=C.next\/C.next+2<=k:=fun k V=>(o11.2 k V).elim (fun h=>ow9 k h) (fun h=>.inr ac)
    have g11s:H11.get (C.next+1)=some qk:=by rw[o11.1 _ ac (fun h=>by have:=ow9 _ h;omega)];exact g9s
    have g11b:H11.get U.next=some (.cells p.funcs[i].cells 0 true):=by rw[o11.1 _ ac (fun h=>by have:=ow9 _ h;omega)];exact g9b
    have g110:H11.get 0=some (.cells p.cells 0 true):=by rw[o11.1 _ ac (fun h=>by have:=ow9 _ h;omega)];exact g90
    refine jr cS cS (by rw[hkeep];exact a11) ?_;have hbs:dK prog 135 [(0,Y),(2,.agg p.cells)]=some (.agg [Y,.ah,.ao (p.aa.map Ar.cells),.ao (p.funcs.map Fu.cells)]):=by
     obtain⟨q,imm,hq,_⟩:=s11;rw[hq];exact zaW p _ _
    have hone:=s11.one;have h1o:=hone.1;repeat' (first
     |(apply aj ?_;clear hK K)|apply Rx.o ?_|apply aE ?_|apply dE ?_|(apply aX (fun J g=>?_) (fun J g=>?_)<;>try(cases J;done))|(apply aA (fun o Z=>?_) (fun o Z=>?_)<;>try(cases o;done))|apply ah ?_|(apply ai fun K hK=>?_)|(apply au 18 [(1,9),(3,9),(7,9),(8,9)] fun K hK=>?_)|(apply aS ?_;try intro _)|(apply aT ?_ ?_<;>clear hK K)|apply aR ?_|apply bD rfl ?_|apply ak ?_|apply am ?_|apply aq ?_|apply aw ?_)
    .exact di
    generalize hH12:Hp.set H11 (C.next+1) _=O;have n12:H11.next<=O.next:=by rw[<-hH12];exact aO _
    have I:∀k,k≠C.next+1->O.get k=H11.get k:=fun k V=>by rw[<-hH12,a1,af V]
    have g12s:O.get (C.next+1)=some (.cells [Y,.ah,.ao (p.aa.map Ar.cells),.ao (p.funcs.map Fu.cells)] 0 true):=by rw[<-hH12,a1,ay rfl]
    have g12b:O.get U.next=some (.cells p.funcs[i].cells 0 true):=by rw[I _ ac];exact g11b
    have g120:O.get 0=some (.cells p.cells 0 true):=by rw[I _ ac];exact g110
    have s12:dI O Y (p.funcs[i].params++p.funcs[i].aj) C.next:=s11.keep n12 fun k V=>I k fun e=>by have:=ow11 k V;omega
    have cw:∀k,bc Y k->k<O.next:=fun k V=>(s12.lt V).2
    have m12:C.next+2<=O.next:=ac
    have hfl:(p.funcs[i].params++p.funcs[i].aj).length<2^38:=ca;clear hH12 I s11 a11 o11 f11 a9 o9 f9 s9 s8 gds gdb gd1 gd0 g9s g9b g90 g11s g11b g110 hbs n9 n11 oldd ow9 ow8 gb gb0 hone;have hnoS:∀k,bc Y k->k≠C.next+1/\U.next<k:=fun k V=>by have:=ow11 k V;omega
    clear ow11;refine cA [1,3,4,5,6] [0,U.next] 7 p.aa.length (fun j E H=>∃a seen,H.get (C.next+1)=some (.cells [Y,a,.ao (p.aa.map Ar.cells),.ao (p.funcs.map Fu.cells)] 0 true)/\dZ H a seen O.next/\dI H Y (p.funcs[i].params++p.funcs[i].aj) C.next/\sT (bG p) seen j/\AV.one a=true) eE ⟨.ah,[],g12s,.inl ⟨rfl,rfl⟩,s12,by simp[sT],rfl⟩ ?_;rintro j E4 z hj hcE L hnH hsI ⟨a,seen,g4s,s4,t4,hsn,hoa⟩;(try simp only[bp,bm,aU,aF,aW,Nat.reduceBEq,Nat.reduceAdd,Nat.reduceLeDiff,tyF,g120,g12b, *]at hcE);(try simp only[bp,bm,aU,aF,aW,Nat.reduceBEq,Nat.reduceAdd,Nat.reduceLeDiff,tyF,g120,g12b, *]at L);(try simp only[bj,bE,cm,bO,Nat.reduceAdd]at hnH);have hB0:(0 == z.next)=false:=bz ac;have hC0:(z.next == 0)=false:=bz ac;have hB1:(U.next == z.next)=false:=bz ac;have hC1:(z.next == U.next)=false:=bz ac;have hsl:seen.length<=p.aa.length:=by have:bG p=seen++(bG p).drop j:=hsn;have:=jH List.length this;rw[fg]at this;omega
    have hdU:(p.funcs.drop i).any (jh p)=(jh p p.funcs[i]||(p.funcs.drop (i+1)).any (jh p)):=M4;have hdB:(p.funcs.drop i).any (lh p)=(lh p p.funcs[i]||(p.funcs.drop (i+1)).any (lh p)):=M4;have hend:j=(bG p).length->dZ z a (bG p) O.next:=fun hje=>by
     unfold sT at hsn;rw[hje,fU,jI]at hsn;rw[<-hsn]at s4;exact s4
    have hd:∀k,bc a k->¬bc Y k:=fun k h1 h2=>by have:=(s4.lt h1).1;have:=cw k h2;omega
    have hz60:p.sz<2^60:=ac;have hf60:p.funcs[i].sz<2^60:=ac;have nw:∀k,k<=U.next\/k=C.next+1->¬bc Y k:=fun k V h=>by have:=hnoS k h;omega
    have na:∀k,k<=U.next\/k=C.next+1->¬bc a k:=fun k V h=>by have:=(s4.lt h).1;omega
    have g4b:z.get U.next=some (.cells p.funcs[i].cells 0 true):=L.2
    have g40:z.get 0=some (.cells p.cells 0 true):=L.1;have gh0:=@Dn;repeat' (first
     |(apply aj ?_;clear hK K)|apply Rx.o ?_|apply aE ?_|apply dE ?_|(apply aX (fun J g=>?_) (fun J g=>?_)<;>try(cases J;done))|(apply aA (fun o Z=>?_) (fun o Z=>?_)<;>try(cases o;done))|apply ah ?_|(apply ai fun K hK=>?_)|(apply au 18 [(1,9),(3,9),(7,9),(8,9)] fun K hK=>?_)|(apply aS ?_;try intro _)|(apply aT ?_ ?_<;>clear hK K)|apply aR ?_|apply bD rfl ?_|apply ak ?_|apply am ?_|apply aq ?_|apply aw ?_)
    .have hlt2:j<p.aa.length:=by simpa using o
     have hgx2:p.aa[j]?=some p.aa[j]:=a0 hlt2;have hgn:(bG p)[j]' ac=p.aa[j].name:=uj;have hsn2:=Nh ac hsn;rw[hgn]at hsn2;repeat' (first
      |(apply aj ?_;clear hK K)|apply Rx.o ?_|apply aE ?_|apply dE ?_|(apply aX (fun J g=>?_) (fun J g=>?_)<;>try(cases J;done))|(apply aA (fun o Z=>?_) (fun o Z=>?_)<;>try(cases o;done))|apply ah ?_|(apply ai fun K hK=>?_)|(apply au 18 [(1,9),(3,9),(7,9),(8,9)] fun K hK=>?_)|(apply aS ?_;try intro _)|(apply aT ?_ ?_<;>clear hK K)|apply aR ?_|apply bD rfl ?_|apply ak ?_|apply am ?_|apply aq ?_|apply aw ?_)
     have m:∀k,k<z.next->(z.alloc (.cells [.ai p.aa[j].name] 0 true)).get k=z.get k:=fun k V=>eG
     have g4e:(z.alloc (.cells [.ai p.aa[j].name] 0 true)).get (C.next+1)=some (.cells [Y,a,.ao (p.aa.map Ar.cells),.ao (p.funcs.map Fu.cells)] 0 true):=by rw[m _ ac];exact g4s
     have g40e:(z.alloc (.cells [.ai p.aa[j].name] 0 true)).get 0=some (.cells p.cells 0 true):=by rw[m _ ac];exact L.1
     have g4n:(z.alloc (.cells [.ai p.aa[j].name] 0 true)).get z.next=some (.cells [.ai p.aa[j].name] 0 true):=gD
     have s4b:dZ (z.alloc (.cells [.ai p.aa[j].name] 0 true)) a seen O.next:=s4.keep (dH _) fun k V=>m k (s4.lt V).2
     obtain⟨a5,H5,q5,s5,n5,f5,o5⟩:=vM (r:=z.next) (imm:=0) p.aa[j].name s4b dL g4n ac;simp only[bj]at n5;have m5:z.next+2<=H5.next:=ac
     clear n5;have g5s:H5.get (C.next+1)=some (.cells [Y,a,.ao (p.aa.map Ar.cells),.ao (p.funcs.map Fu.cells)] 0 true):=by rw[f5 _ ac];exact g4e
     have g5b:H5.get U.next=some (.cells p.funcs[i].cells 0 true):=by rw[f5 _ ac,m _ ac];exact g4b
     have g50:H5.get 0=some (.cells p.cells 0 true):=by rw[f5 _ ac];exact g40e
     have t5:dI H5 Y (p.funcs[i].params++p.funcs[i].aj) C.next:=t4.keep ac fun k V=>by rw[f5 k (cw k V),m k (t4.lt V).2]
     have h5:=s5.one;have h5o:=h5.1;have h5c:=h5.2;refine jr cS cS (by rw[hkeep];exact q5) ?_;repeat' (first
      |(apply aj ?_;clear hK K)|apply Rx.o ?_|apply aE ?_|apply dE ?_|(apply aX (fun J g=>?_) (fun J g=>?_)<;>try(cases J;done))|(apply aA (fun o Z=>?_) (fun o Z=>?_)<;>try(cases o;done))|apply ah ?_|(apply ai fun K hK=>?_)|(apply au 18 [(1,9),(3,9),(7,9),(8,9)] fun K hK=>?_)|(apply aS ?_;try intro _)|(apply aT ?_ ?_<;>clear hK K)|apply aR ?_|apply bD rfl ?_|apply ak ?_|apply am ?_|apply aq ?_|apply aw ?_)
     .exact di
     generalize hH6:Hp.set H5 (C.next+1) _=H6;have n6:H5.next<=H6.next:=by rw[<-hH6];exact aO _
     have old6:∀k,k≠C.next+1->H6.get k=H5.get k:=fun k V=>by rw[<-hH6,a1,af V]
     have g6s:H6.get (C.next+1)=some (.cells [Y,a5,.ao (p.aa.map Ar.cells),.ao (p.funcs.map Fu.cells)] 0 true):=by rw[<-hH6,a1,ay rfl]
     have g60:H6.get 0=some (.cells p.cells 0 true):=by rw[old6 _ ac];exact g50
     have g6b:H6.get U.next=some (.cells p.funcs[i].cells 0 true):=by rw[old6 _ ac];exact g5b
     clear hH6;refine⟨ac,a2,a2,ce,xH,?_⟩;exact⟨a5,seen++[p.aa[j].name],g6s,.inr (s5.keep n6 fun k V=>old6 k (by have:=(s5.lt V).1;omega)),t5.keep n6 (fun k V=>old6 k (hnoS k V).1),hsn2,h5o⟩
    .have hr0:r=0:=by omega
     have s4':=hend ac;refine qc ?_;refine bb ?_ (Nz t4 s4' hd hz60 hf60 false az);rintro v0 H5 ⟨rfl,t5,s5,m5,o5⟩;dsimp only[aZ];have g5s:H5.get (C.next+1)=some (.cells [Y,a,.ao (p.aa.map Ar.cells),.ao (p.funcs.map Fu.cells)] 0 true):=M7;have g5b:H5.get U.next=some (.cells p.funcs[i].cells 0 true):=M8
     have g50:H5.get 0=some (.cells p.cells 0 true):=M9;have hd5:∀k,bc a k->¬bc Y k:=hd;have gh0:=@Dn;repeat' (first
      |(apply aj ?_;clear hK K)|apply Rx.o ?_|apply aE ?_|apply dE ?_|(apply aX (fun J g=>?_) (fun J g=>?_)<;>try(cases J;done))|(apply aA (fun o Z=>?_) (fun o Z=>?_)<;>try(cases o;done))|apply ah ?_|(apply ai fun K hK=>?_)|(apply au 18 [(1,9),(3,9),(7,9),(8,9)] fun K hK=>?_)|(apply aS ?_;try intro _)|(apply aT ?_ ?_<;>clear hK K)|apply aR ?_|apply bD rfl ?_|apply ak ?_|apply am ?_|apply aq ?_|apply aw ?_)
     .refine qc ?_;refine bb ?_ (zaV t5 s5 hd5 hz60 hf60);rintro v0 H6 ⟨rfl,t6,s6,m6,o6⟩;dsimp only[aZ];have g6s:H6.get (C.next+1)=some (.cells [Y,a,.ao (p.aa.map Ar.cells),.ao (p.funcs.map Fu.cells)] 0 true):=by rw[o6 _ (nw _ ac) (na _ ac)];exact g5s
      have g6b:H6.get U.next=some (.cells p.funcs[i].cells 0 true):=by rw[o6 _ (nw _ ac) (na _ ac)];exact g5b
      have g60:H6.get 0=some (.cells p.cells 0 true):=by rw[o6 _ (nw _ ac) (na _ ac)];exact g50
      have gh0:=@Dn;repeat' (first
       |(apply aj ?_;clear hK K)|apply Rx.o ?_|apply aE ?_|apply dE ?_|(apply aX (fun J g=>?_) (fun J g=>?_)<;>try(cases J;done))|(apply aA (fun o Z=>?_) (fun o Z=>?_)<;>try(cases o;done))|apply ah ?_|(apply ai fun K hK=>?_)|(apply au 18 [(1,9),(3,9),(7,9),(8,9)] fun K hK=>?_)|(apply aS ?_;try intro _)|(apply aT ?_ ?_<;>clear hK K)|apply aR ?_|apply bD rfl ?_|apply ak ?_|apply am ?_|apply aq ?_|apply aw ?_)
      .all_goals refine qq ?_
       have hu:p.funcs.any (jh p)=true:=M5;rw[fK,hu];(try simp only[ci]at *);simp only[reduceCtorEq,eq_self, *,cj,bC,bH,Int.reduceEq]
      .refine⟨ac,a2,a2,ce,po,?_⟩;refine⟨fun _=>?_,fun h=>ac⟩;rw[hU hr0,hdU,jh];(try simp only[ci]at *);simp only[ *,cj,bC,bH,Int.reduceEq]
     .all_goals refine qq ?_
      have hu:p.funcs.any (jh p)=true:=M5;rw[fK,hu];(try simp only[ci]at *);simp only[reduceCtorEq,eq_self, *,cj,bC,bH,Int.reduceEq]
    .have hr1:r=1:=by omega
     have s4':=hend ac;have hJ1':=hJ1 ac;have hcal:oE p p.funcs[i].body=true:=by
      have hu:jh p p.funcs[i]=false:=by
       have:=xh.1 hJ1' _ (cL hlt);simpa using this
      unfold jh at hu;rw[Gq,co]at hu;exact Do _ hu.1
     refine qc ?_;refine bb ?_ (Nz t4 s4' hd hz60 hf60 true (fun _=>hcal));rintro v0 H5 ⟨rfl,t5,s5,m5,o5⟩;dsimp only[aZ];have g5s:H5.get (C.next+1)=some (.cells [Y,a,.ao (p.aa.map Ar.cells),.ao (p.funcs.map Fu.cells)] 0 true):=M7;have g5b:H5.get U.next=some (.cells p.funcs[i].cells 0 true):=M8
     have g50:H5.get 0=some (.cells p.cells 0 true):=M9;have gh0:=@Dn;repeat' (first
      |(apply aj ?_;clear hK K)|apply Rx.o ?_|apply aE ?_|apply dE ?_|(apply aX (fun J g=>?_) (fun J g=>?_)<;>try(cases J;done))|(apply aA (fun o Z=>?_) (fun o Z=>?_)<;>try(cases o;done))|apply ah ?_|(apply ai fun K hK=>?_)|(apply au 18 [(1,9),(3,9),(7,9),(8,9)] fun K hK=>?_)|(apply aS ?_;try intro _)|(apply aT ?_ ?_<;>clear hK K)|apply aR ?_|apply bD rfl ?_|apply ak ?_|apply am ?_|apply aq ?_|apply aw ?_)
     .all_goals refine qq ?_
      have hu:p.funcs.any (lh p)=true:=by rw[hB hr1,hdB,lh];(try simp only[ci]at *);simp only[ *,cj,bC,bH,Int.reduceEq]
      rw[fK,hJ1',hu];(try simp only[ci]at *);simp only[reduceCtorEq,eq_self, *,cj,bC,bH,Int.reduceEq]
     .refine⟨ac,a2,a2,ce,po,?_⟩;refine⟨fun h=>ac,fun _=>?_⟩;rw[hB hr1,hdB,lh];(try simp only[ci]at *);simp only[ *,cj,bC,bH,Int.reduceEq]
    .omega
   .have hie:i=p.funcs.length:=by simp at o;omega
    rw[hie,fU]at hU hB;refine⟨ac,a2,a2,ce,(by simp only[aF,Nat.reduceBEq, *];exact gQ (n:=2) ac ac),?_⟩;refine⟨fun h=>?_,fun h=>?_⟩
    .by_cases h0:r=0
     .rw[hU h0];rfl
     .exact hJ1 ac
    .rw[hB ac];rfl
  .all_goals refine qq ?_
   have hr:r=2:=ac;subst hr;have h1:=hJ1 ac;have h2:=hJ2 ac;rw[fK];(try simp only[ci]at *);simp only[reduceCtorEq,eq_self, *,cj,bC,bH,Int.reduceEq])
end
end Go.Proofs.Ytbflaciihaijgaa
namespace Go.Ab
set_option maxRecDepth 20000
open Go
variable{P:Program}{H:Hp}{t m e r:Nat}{g:qL}
def NA(k:IntKind)(a b:Int):Int:=a.fdiv (2^ min b.toNat k.bits)
def bin_shr{D:BinOp->Sx->Sx->qF}{t:TypeId}{k V:IntKind}{a b:Int}(o:0<=b):em P D .shr t (.int k a) (.int V b)=some (.int k (NA k a b)):=by
 obtain⟨m,rfl⟩:=kq o;simp only[em,tq];show wN .shr k a (Int.ofNat m)=_;simp[wN,NA]
abbrev cc:=qw
variable{vs:List (cc×Int)}
def hY:List (cc×Int)->cc->Int
 |[],_=>0
 |p::l,nm=>if nm=p.1 then p.2 else hY l nm
def setV:List (cc×Int)->cc->Int->List (cc×Int)
 |[],nm,x=>[(nm,x)]
 |p::l,nm,x=>if nm=p.1 then (nm,x)::l else p::setV l nm x
section
variable (p:Pr) (fi:List (cc × Int))
end
def fW(vs:List (cc×Int)):qL:=vs.map fun p=>(.ai p.1,.int .i64 p.2)
def cEs:List (cc×qu)->qC->qL
 |p::l,r::rs=>(.ai p.1,.sl r 0 p.2.length 1)::cEs l rs
 |_,_=>[]
theorem NB(nm:cc):∀(vs:List (cc×Int)) (i:Nat),(fD .string (.ai nm) (fW vs) i=some none/\hY vs nm=0/\∀x,fW (setV vs nm x)=fW vs++[(.ai nm,.int .i64 x)]) \/
 ∃j,j<vs.length/\fD .string (.ai nm) (fW vs) i=some (some (i+j,.int .i64 (hY vs nm)))/\∀x,fW (setV vs nm x)=(fW vs).set j (.ai nm,.int .i64 x)
 |[],i=>.inl ⟨rfl,rfl,fun _=>rfl⟩
 |p::l,i=>by
  by_cases h:nm=p.1
  .refine .inr ⟨0,az,?_,fun x=>?_⟩
   .simp[fW,fD,oN,hY,h]
   .simp[fW,setV,h]
  .have Y:fD .string (.ai nm) (fW (p::l)) i=fD .string (.ai nm) (fW l) (i+1):=by
    show fD .string (.ai nm) ((.ai p.1,.int .i64 p.2)::fW l) i=_;have:(nm == p.1)=false:=i9;simp[fD,oN,this]
   have K:hY (p::l) nm=hY l nm:=by simp[hY,h]
   have M:∀x,fW (setV (p::l) nm x)=(.ai p.1,.int .i64 p.2)::fW (setV l nm x):=fun x=>by simp[setV,h,fW]
   rw[Y,K];rcases NB nm l (i+1)with⟨Z,g,m⟩|⟨j,V,Z,m⟩
   .refine .inl ⟨Z,g,fun x=>?_⟩;rw[M,m];simp[fW]
   .refine .inr ⟨j+1,ca,?_,fun x=>?_⟩
    .rw[Z,show i+1+j=i+(j+1) by omega]
    .rw[M,m];simp[fW]
def zaZ{nm:cc}{z:AV}(U:P.underlying t=some (.map m e))(j:oO P m=some .string)(I:uQ P e=some z)(J:H.get r=some (.map g)):
 (fD .string (.ai nm) g 0=some none->lO P H t (.map r) (.ai nm) false=some z)/\∀i v,fD .string (.ai nm) g 0=some (some (i,v))->lO P H t (.map r) (.ai nm) false=some v:=by
 refine⟨fun h=>?_,fun i v h=>?_⟩<;>simp only[lO,U,j,I,uS,J,h,ya]
def NC{nm:cc}{x:AV}(U:P.underlying t=some (.map m e))(j:oO P m=some .string)(J:H.get r=some (.map g)):
 (fD .string (.ai nm) g 0=some none->oP P H t (.map r) (.ai nm) x=some (H.set r (.map (g++[(.ai nm,x)]))))/\∀i v,fD .string (.ai nm) g 0=some (some (i,v))->oP P H t (.map r) (.ai nm) x=some (H.set r (.map (g.set i (.ai nm,x)))):=by
 refine⟨fun h=>?_,fun i v h=>?_⟩<;>simp only[oP,U,j,J,h]
def za0{Z:Nat}(U:P.underlying t=some (.map Z e))(Y:oO P Z=some .string)(J:H.get r=some (.map (fW vs)))(nm:cc)(x:Int):
 oP P H t (.map r) (.ai nm) (.int .i64 x)=some (H.set r (.map (fW (setV vs nm x)))):=by
 obtain⟨l1,l2⟩:=NC (nm:=nm) (x:=.int .i64 x) U Y J;rcases NB nm vs 0 with⟨i,g,m⟩|⟨j,V,i,m⟩
 .rw[l1 i,m]
 .rw[l2 _ _ i,m,bO]
def ji:List (cc×Int)->cc->Bool
 |[],_=>false
 |p::l,nm=>if nm=p.1 then true else ji l nm
theorem ND(nm:cc):∀(vs:List (cc×Int)) (i:Nat),(ji vs nm=false->fD .string (.ai nm) (fW vs) i=some none/\hY vs nm=0)/\(ji vs nm=true->∃j,fD .string (.ai nm) (fW vs) i=some (some (j,.int .i64 (hY vs nm))))
 |[],i=>⟨fun _=>⟨rfl,rfl⟩,fun h=>by simp[ji]at h⟩
 |p::l,i=>by
  by_cases h:nm=p.1
  .refine⟨fun g=>by simp[ji,h]at g,fun _=>⟨i,?_⟩⟩;simp[fW,fD,oN,hY,h]
  .have Z:fD .string (.ai nm) (fW (p::l)) i=fD .string (.ai nm) (fW l) (i+1):=by
    show fD .string (.ai nm) ((.ai p.1,.int .i64 p.2)::fW l) i=_;have:(nm == p.1)=false:=i9;simp[fD,oN,this]
   have K:hY (p::l) nm=hY l nm:=by simp[hY,h]
   have Y:ji (p::l) nm=ji l nm:=by simp[ji,h]
   rw[Z,K,Y];exact ND nm l (i+1)
def za1(U:P.underlying t=some (.map m e))(Z:oO P m=some .string)(I:uQ P e=some (.int .i64 0))(J:H.get r=some (.map (fW vs)))(nm:cc):
 lO P H t (.map r) (.ai nm) true=some (.aS [.int .i64 (hY vs nm),.bool (ji vs nm)]):=by
 obtain⟨Y,g⟩:=ND nm vs 0;cases i:ji vs nm with
 |false=>
  obtain⟨K,V⟩:=Y i;simp only[lO,U,Z,I,uS,J,K,ya,V]
 |true=>
  obtain⟨j,K⟩:=g i;simp only[lO,U,Z,uS,J,K,ya]
end Go.Ab
