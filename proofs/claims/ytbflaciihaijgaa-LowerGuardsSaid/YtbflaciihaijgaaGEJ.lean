/- Lemmas for the last file. -/
import Derived.Test.YtbflaciihaijgaaGEI
set_option linter.all false
set_option maxHeartbeats 32000000
namespace Go.Ab
set_option maxRecDepth 20000
open Go
abbrev qF:=List Bool
variable{qd:Prop}
def uc(h:qd:=by simp only[bJ,bj];omega):=h
def zb(h:qd:=by simp at Z;omega):=h
def Cq(h:qd:=by have:=h.sS k z;omega):=h
def Cr(h:qd:=by simp only[bj]at n5;omega):=h
def HR(h:qd:=by simp only[List.all_cons,List.all_nil,hone];rfl):=h
def jO(h:qd:=by simp only[bj,bJ];omega):=h
def vX(h:qd:=by have:=(U.sS _ e).1;omega):=h
def ud(h:qd:=by rw[aJ,if_pos cC];rfl):=h
def HS(h:qd:=by simp only[aM,Nat.reduceBEq, *];exact gp (n:=I.length) ac ac):=h
def HT(h:qd:=by simp only[aM,Nat.reduceBEq, *];exact gp (n:=x.length) ac ac):=h
def HU(h:qd:=by rw[<- z,aJ,if_neg uc,Hp.get_set,if_neg ac,aJ,if_neg ac]):=h
def Cs(h:qd:=by simp only[aM,Nat.reduceBEq, *];exact gp (n:=p.af.length) ac ac):=h
def sO(h:qd:=by simp only[aM,Nat.reduceBEq, *];exact gp (n:=p.funcs.length) ac ac):=h
def vY(h:qd:=by rw[Hp.get_set,if_neg ac,aJ,if_neg ac]):=h
def Ct(h:qd:=by rw[L _ ac];exact h.a):=h
def Cu(h:qd:=by rw[L _ ac];exact h.f):=h
def Cv(h:qd:=by rw[L _ ac];exact h.t):=h
def Cw(h:qd:=by rw[L _ ac];exact h.n):=h
def Cy(h:qd:=by rw[aJ,if_pos cC]):=h
def HV:=@Bool.not_eq_false'
def oQ:=@List.drop_length
def HW:=@Int.fdiv_eq_ediv_of_nonneg
def vZ:=@List.prefix_refl
def jv:=@List.length_set
def HX:=@List.flatMap_nil
def ue:=@Nat.lt_of_le_of_lt
def Tc:=And.intro @jI Hk
def HY:=And.intro Tc @kJ
def ge:=And.intro @pD @HV
def Td:=And.intro Hl @jC
def Te:=And.intro Td @lL
def Tf:=And.intro Te @tt
def Tg:=And.intro Tf @tN
def Th:=And.intro Tg HY
def Ti:=And.intro Th @nh
def gg:=And.intro Ti @lM
def iy:=And.intro @bT.{0,0} @aC.{0}
end Go.Ab
namespace Go.Proofs.Ytbflaciihaijgaa
set_option maxRecDepth 20000
open Go Go.Ab Proofs.Try
variable(ρ:Nat->Int)
variable{H H' Y:Hp}{lo i k:Nat}{x:List qm}{S Z C:Nat->Prop}{I O:AV}{tb:qs}
section
def tyP4e.tyF:=ad @cJ (ad @cM (ad @kQ (ad @kR (ad @fW (ad @dJ (ad @io (ad @eC (ad @kc (ad @BB (ad @pJ (ad @BA (@Rg))))))))))))
open tyP4e
noncomputable def HZ:{c:SC // aG 28 (f91.body.getD .skip)=c}:=by
 refine⟨?_,?_⟩;rotate_left
 .simp only[f91,bK,aG,bF,bw,bH,bI,Nat.blt,Nat.ble];rfl
noncomputable def H0:{c:SC // aG 38 (f90.body.getD .skip)=c}:=by
 refine⟨?_,?_⟩;rotate_left
 .simp only[f90,bK,aG,bF,bw,bH,bI,Nat.blt,Nat.ble];rfl
noncomputable def Ia:{c:SC // aG 35 (f45.body.getD .skip)=c}:=by
 refine⟨?_,?_⟩;rotate_left
 .simp only[f45,bK,aG,bF,bw,bH,bI,Nat.blt,Nat.ble];rfl
def ez(l:qm):qJ:=l.map fun s=>(.ag s,.bool true)
def ri(l:qm)(s:qn):qm:=if bR l s=true then l else l++[s]
theorem v9(s:qn):∀(l:qm) (i:Nat),(bR l s=false->dG .string (.ag s) (ez l) i=some none)/\(bR l s=true->∃j,dG .string (.ag s) (ez l) i=some (some (i+j,.bool true))/\(ez l).set j (.ag s,.bool true)=ez l)
 |[],i=>⟨fun _=>rfl,fun h=>by simp[bR]at h⟩
 |a::l,i=>by
  have Z:bR (a::l) s=(decide (s=a)||bR l s):=by rw[show a::l=[a]++l from rfl,mQ,oO]
  by_cases h:s=a
  .subst h;rw[Z,p7 rfl,tt];refine⟨fun h=>jk,fun _=>⟨0,?_,?_⟩⟩
   .simp[ez,dG,li]
   .simp[ez]
  .have o:dG .string (.ag s) (ez (a::l)) i=dG .string (.ag s) (ez l) (i+1):=by
    show dG .string (.ag s) ((.ag a,.bool true)::ez l) i=_;have:(s == a)=false:=fQ;simp[dG,li,this]
   rw[Z,p9 h,jC,o];obtain⟨U,M⟩:=v9 s l (i+1);refine⟨U,fun q=>?_⟩;obtain⟨j,I,Y⟩:=M q;exact⟨j+1,by rw[I,show i+1+j=i+(j+1) by omega],by show(AV.ag a,AV.bool true)::(ez l).set j _=_;rw[Y];rfl⟩
def uf{r:Nat}{l:qm}(L:H.get r=some (.map (ez l)))(s:qn):gG prog H 155 (.map r) (.ag s) false=some (.bool (bR l s)):=by
 obtain⟨Z,m⟩:=HH (P:=prog) (H:=H) (t:=155) (nm:=s) (z:=.bool false) underlying155 aF aF L;cases h:bR l s with
 |false=>rw[Z ((v9 s l 0).1 h)]
 |true=>obtain⟨j,o,Y⟩:=(v9 s l 0).2 h;rw[m _ _ o]
def Ib{r:Nat}{l:qm}(L:H.get r=some (.map (ez l)))(s:qn):kz prog H 155 (.map r) (.ag s) (.bool true)=some (H.set r (.map (ez (ri l s)))):=by
 obtain⟨z,m⟩:=Ck (P:=prog) (H:=H) (t:=155) (nm:=s) (x:=.bool true) underlying155 aF L;cases h:bR l s with
 |false=>rw[z ((v9 s l 0).1 h),ri,h];simp[ez]
 |true=>obtain⟨j,o,Z⟩:=(v9 s l 0).2 h;rw[m _ _ o,bX,Z,ri,aB h]
def nQ(x:List qm):ql:=[.aq (x.map fun l=>[cW l])]
def Tj(x y:List qm)(h:nQ x=nQ y):x=y:=by
 simp only[nQ,eU,AV.aq.injEq,bu]at h;exact nE (fun a _ b e=>by simp only[eU,AV.aq.injEq,bu]at e;exact yn e) h
def zd(x:List qm):Prop:=x.length<2^60/\∀l∈x,l.length<2^60
def Tl(x:List qm):et (.aq (x.map fun l=>[cW l])):=.map fun l _=>.cons (vG l) .nil
theorem Tm(x:List qm)(hx:zd x):cp prog ρ 91 (nQ x) (.bool (cF [] x.flatten)):=fI fit (pls:=pls) (l:=[]) trivial (.cons (Tl x) .nil) (.bool _) (by
 have hw:=fy 91;obtain⟨hx1,o⟩:=hx;rw[nQ];refine bA (M:=28) (rs:=[.tmp 2]) (hw.call _) hw.aF hw.ak func91 rfl rfl HZ.2 rfl ?_;dsimp only[HZ,bt,Nat.reduceAdd];repeat' (first
  |(apply aj ?_;clear hK K)|apply Rx.o ?_|apply aD ?_|(apply aO (fun C L=>?_) (fun C L=>?_)<;>try(cases C;done))|apply ai ?_|(apply ah fun K hK=>?_)|apply aq ?_|apply am ?_|apply au ?_|apply aw ?_)
 refine dz [3,9,10] [] 11 x.length (fun i E H=>∃seen,H.get 0=some (.map (ez seen))/\cF [] x.flatten=cF seen (x.drop i).flatten) eE ⟨[],ud,rfl⟩ ?_;rintro i E H2 hi V U O z ⟨seen,m,W⟩;(try simp only[bN,bO,bu,aM,a0,Nat.reduceBEq,Nat.reduceAdd,Nat.reduceLeDiff,tyF, *]at V);(try simp only[bN,bO,bu,aM,a0,Nat.reduceBEq,Nat.reduceAdd,Nat.reduceLeDiff,tyF, *]at U);(try simp only[bj,bJ,cL,bX,Nat.reduceAdd]at O);repeat' (first
  |(apply aj ?_;clear hK K)|apply Rx.o ?_|apply aD ?_|(apply aO (fun C L=>?_) (fun C L=>?_)<;>try(cases C;done))|apply ai ?_|(apply ah fun K hK=>?_)|apply aq ?_|apply am ?_|apply au ?_|apply aw ?_)
 .have J:i<x.length:=by simpa using C
  have hgx:x[i]?=some x[i]:=bc J;have hsm:=o _ (dU J);have Y:(x.drop i).flatten=x[i]++(x.drop (i+1)).flatten:=by rw[eM J,ot]
  rw[Y]at W;clear Y;generalize x[i]=I at *;repeat' (first
   |(apply aj ?_;clear hK K)|apply Rx.o ?_|apply aD ?_|(apply aO (fun C L=>?_) (fun C L=>?_)<;>try(cases C;done))|apply ai ?_|(apply ah fun K hK=>?_)|apply aq ?_|apply am ?_|apply au ?_|apply aw ?_)
  refine dz [3,9,10,11,15,16] [] 17 I.length (fun j E H=>∃seen,H.get 0=some (.map (ez seen))/\cF [] x.flatten=cF seen (I.drop j++(x.drop (i+1)).flatten)) eE ⟨seen,m,W⟩ ?_;clear m W seen;rintro j E3 H3 hj V U O z ⟨seen,m,W⟩;(try simp only[bN,bO,bu,aM,a0,Nat.reduceBEq,Nat.reduceAdd,Nat.reduceLeDiff,tyF, *]at V);(try simp only[bN,bO,bu,aM,a0,Nat.reduceBEq,Nat.reduceAdd,Nat.reduceLeDiff,tyF, *]at U);(try simp only[bj,bJ,cL,bX,Nat.reduceAdd]at O);repeat' (first
   |(apply aj ?_;clear hK K)|apply Rx.o ?_|apply aD ?_|(apply aO (fun C L=>?_) (fun C L=>?_)<;>try(cases C;done))|apply ai ?_|(apply ah fun K hK=>?_)|apply aq ?_|apply am ?_|apply au ?_|apply aw ?_)
  .have Z:j<I.length:=by simpa using C
   have hgx2:I[j]?=some I[j]:=bc Z;have Y:cF seen (I.drop j++(x.drop (i+1)).flatten)=(bR seen I[j]||cF (seen++[I[j]]) (I.drop (j+1)++(x.drop (i+1)).flatten)):=by rw[eM Z];rfl
   have hlk:=uf m I[j];have hup:=Ib m I[j];repeat' (first
    |(apply aj ?_;clear hK K)|apply Rx.o ?_|apply aD ?_|(apply aO (fun C L=>?_) (fun C L=>?_)<;>try(cases C;done))|apply ai ?_|(apply ah fun K hK=>?_)|apply aq ?_|apply am ?_|apply au ?_|apply aw ?_)
   .all_goals refine qq ?_
    rw[W,Y];(try simp only[ge]at *);simp only[ *,gg,cg,cm,Int.reduceEq]
   .refine⟨ac,bm,bm,cN,HS,?_⟩;refine⟨ri seen I[j],by rw[bi,aB cC],?_⟩;rw[W,Y,ri];(try simp only[ge]at *);simp only[ *,gg,cg,cm,Int.reduceEq];rfl
  .have hje:j=I.length:=by simp at C;omega
   repeat' (first
    |(apply aj ?_;clear hK K)|apply Rx.o ?_|apply aD ?_|(apply aO (fun C L=>?_) (fun C L=>?_)<;>try(cases C;done))|apply ai ?_|(apply ah fun K hK=>?_)|apply aq ?_|apply am ?_|apply au ?_|apply aw ?_)
   refine⟨ac,bm,bm,cN,HT,?_⟩;exact⟨seen,m,by rw[W,hje,oQ,mZ]⟩
 .all_goals refine qq ?_
  have hie:i=x.length:=by simp at C;omega
  rw[W,hie,oQ];rfl)
def rj(l:qm):AV:=if l=[]then .aa else cW l
def nR(H:Hp)(v:AV)(l:qm)(lo:Nat):Prop:=(v=.aa/\l=[])\/(l≠[]/\lX H v l lo)
def nR.n{v:AV}{l:qm}(h:nR H v l lo):nH H v l lo:=h.imp id fun h=>h.2
def nR.keep{v:AV}{l:qm}(h:nR H v l lo)(M:H.next<=H'.next)(L:∀k,bL v k->H'.get k=H.get k):nR H' v l lo:=h.imp id fun h=>⟨h.1,h.2.keep M L⟩
theorem Ic(H:Hp)(n:Nat):∀l:qm,iceL (iceV H (n+1)) (l.map .ag)=some (l.map .ag)
 |[]=>rfl
 |a::l=>by
  have:=Ic H n l;have e:iceV H (n+1) (.ag a)=some (.ag a):=rfl;simp only[eJ,iceL,e,this]
theorem nR.iceV{H:Hp}{v:AV}{l:qm}{lo:Nat}(h:nR H v l lo)(n:Nat):iceV H (n+2) v=some (rj l):=by
 rcases h with⟨rfl,rfl⟩|⟨Z,r,m,rfl,Y,_⟩
 .rfl
 .have e:Ab.iceV H (n+2) (.sl r 0 l.length 1)=match H.get r with
   |some (.cells cs _ _)=>match iceL (Ab.iceV H (n+1)) ((cs.drop 0).take (l.length*1))with
    |some O=>if O.length=l.length*1 then some (.aq (gL 1 l.length O))else none
    |none=>none
   |_=>none:=rfl
  rw[e,Y];simp only[ft,m1];rw[fk aE,Ic];simp only[dh,cg,Rf];rw[rj,ao Z]
theorem Ie(n:Nat)(l:qm):eP (n+2) (rj l)=cW l:=by
 unfold rj;split
 .rename_i h;subst h;rfl
 .show AV.aq ((l.map fun s=>[AV.ag s]).map fun I=>I.map (eP (n+1)))=_;rw[List.map_map];rfl
set_option maxRecDepth 100000 in
theorem Tn(p:Pr)(hz:p.sz<2^36):cp prog ρ 90 (ey p) (.aO [cW (cc p),cW (dO p)]):=Gj (n:=3) (FJ (r:=.aO [rj (cc p),rj (dO p)]) (m:=3) (cfg:=aK pls []) fit (tz ρ) (fun f args r h=>by simp[aK,dR]at h) (.cons (.agg p.pure) .nil) (by
 have hw:=fy 90;have O:(aK pls []).keep 90=false:=rfl;have hpz:p.sz=1+j6 p.af+j5 p.funcs:=rfl;have hla:=r8 p.af;have hlf:=r0 p.funcs;rw[ey];refine bA (M:=38) (rs:=[.tmp 2,.tmp 3]) (hw.call _) hw.aF hw.ak func90 rfl rfl H0.2 rfl ?_;dsimp only[H0,bt,Nat.reduceAdd];repeat' (first
  |(apply aj ?_;clear hK K)|apply Rx.o ?_|apply aD ?_|(apply aO (fun C L=>?_) (fun C L=>?_)<;>try(cases C;done))|apply ai ?_|(apply ah fun K hK=>?_)|apply aq ?_|apply am ?_|apply au ?_|apply aw ?_)
 refine dz [1,2,3,5,11,12] [0] 13 p.af.length (fun i E H=>∃v,E.at 4=v/\nR H v ((cc p).take i) 1) eE ⟨.aa,eE,.inl ⟨rfl,rfl⟩⟩ ?_;rintro i E J hi hcE Z hnH hsI ⟨v,k4,hv⟩;(try simp only[bN,bO,bu,aM,a0,Nat.reduceBEq,Nat.reduceAdd,Nat.reduceLeDiff,tyF, *]at hcE);(try simp only[bN,bO,bu,aM,a0,Nat.reduceBEq,Nat.reduceAdd,Nat.reduceLeDiff,tyF, *]at Z);(try simp only[bj,bJ,cL,bX,Nat.reduceAdd]at hnH);have hB0:(0 == J.next)=false:=bQ ac;have hC0:(J.next == 0)=false:=bQ ac;repeat' (first
  |(apply aj ?_;clear hK K)|apply Rx.o ?_|apply aD ?_|(apply aO (fun C L=>?_) (fun C L=>?_)<;>try(cases C;done))|apply ai ?_|(apply ah fun K hK=>?_)|apply aq ?_|apply am ?_|apply au ?_|apply aw ?_)
 .have hlt:i<p.af.length:=by simpa using C
  have hgx:p.af[i]?=some p.af[i]:=bc hlt;have W:(cc p).take (i+1)=(cc p).take i++[p.af[i].name]:=by rw[cc,kD,ii,hgx];rfl
  repeat' (first
   |(apply aj ?_;clear hK K)|apply Rx.o ?_|apply aD ?_|(apply aO (fun C L=>?_) (fun C L=>?_)<;>try(cases C;done))|apply ai ?_|(apply ah fun K hK=>?_)|apply aq ?_|apply am ?_|apply au ?_|apply aw ?_)
  generalize z:Hp.alloc (Hp.set _ _ _) _=V;have nb:V.next=J.next+2:=by rw[<-z];rfl
  have Y:∀k,k<J.next->V.get k=J.get k:=fun k U=>HU
  have gb:V.get (J.next+1)=some (.cells [.ag p.af[i].name] 0 true):=by rw[<-z,aJ,aB cC]
  clear z;have hvb:nH V v ((cc p).take i) 1:=hv.n.keep ac fun k U=>Y k (hv.n.lt U).2;obtain⟨v5,H5,a5,s5,n5,f5,o5⟩:=Ge (r:=J.next+1) (imm:=0) p.af[i].name hvb ac gb co;have n5':V.next<=H5.next:=ac
  clear n5;have g50:H5.get 0=some (.cells p.cells 0 true):=by rw[f5 0 ac,Y 0 ac];exact Z
  refine rY iM iM (by rw[O];exact a5) ?_;repeat' (first
   |(apply aj ?_;clear hK K)|apply Rx.o ?_|apply aD ?_|(apply aO (fun C L=>?_) (fun C L=>?_)<;>try(cases C;done))|apply ai ?_|(apply ah fun K hK=>?_)|apply aq ?_|apply am ?_|apply au ?_|apply aw ?_)
  refine⟨ac,bm,bm,cN,Cs,?_⟩;exact⟨v5,eE,.inr ⟨by rw[W];simp,by rw[W];exact s5⟩⟩
 .have hie:i=p.af.length:=by simp at C;omega
  have I:(cc p).take i=cc p:=fk (by simp[cc];omega);rw[I]at hv;clear I hie hsI hi;repeat' (first
   |(apply aj ?_;clear hK K)|apply Rx.o ?_|apply aD ?_|(apply aO (fun C L=>?_) (fun C L=>?_)<;>try(cases C;done))|apply ai ?_|(apply ah fun K hK=>?_)|apply aq ?_|apply am ?_|apply au ?_|apply aw ?_)
  have c3:∀k,bL v k->k<J.next:=fun k U=>(hv.n.lt U).2
  refine dz [2,3,4,24,25] [0] 26 p.funcs.length (fun i E H=>∃u,E.at 5=u/\nR H u ((dO p).take i) J.next/\nR H v (cc p) 1) eE ⟨.aa,eE,.inl ⟨rfl,rfl⟩,hv⟩ ?_;rintro i E o hi hcE Z hnH hsI ⟨u,k5,hu,hv3⟩;(try simp only[bN,bO,bu,aM,a0,Nat.reduceBEq,Nat.reduceAdd,Nat.reduceLeDiff,tyF, *]at hcE);(try simp only[bN,bO,bu,aM,a0,Nat.reduceBEq,Nat.reduceAdd,Nat.reduceLeDiff,tyF, *]at Z);(try simp only[bj,bJ,cL,bX,Nat.reduceAdd]at hnH);have hB0:(0 == o.next)=false:=bQ ac;have hC0:(o.next == 0)=false:=bQ ac;repeat' (first
   |(apply aj ?_;clear hK K)|apply Rx.o ?_|apply aD ?_|(apply aO (fun C L=>?_) (fun C L=>?_)<;>try(cases C;done))|apply ai ?_|(apply ah fun K hK=>?_)|apply aq ?_|apply am ?_|apply au ?_|apply aw ?_)
  .have hlt:i<p.funcs.length:=by simpa using C
   have hgx:p.funcs[i]?=some p.funcs[i]:=bc hlt;have W:(dO p).take (i+1)=(dO p).take i++[p.funcs[i].name]:=by rw[dO,kD,ii,hgx];rfl
   repeat' (first
    |(apply aj ?_;clear hK K)|apply Rx.o ?_|apply aD ?_|(apply aO (fun C L=>?_) (fun C L=>?_)<;>try(cases C;done))|apply ai ?_|(apply ah fun K hK=>?_)|apply aq ?_|apply am ?_|apply au ?_|apply aw ?_)
   generalize z:Hp.alloc (Hp.set _ _ _) _=V;have nb:V.next=o.next+2:=by rw[<-z];rfl
   have Y:∀k,k<o.next->V.get k=o.get k:=fun k U=>HU
   have gb:V.get (o.next+1)=some (.cells [.ag p.funcs[i].name] 0 true):=by rw[<-z,aJ,aB cC]
   clear z;have hub:nH V u ((dO p).take i) J.next:=hu.n.keep ac fun k U=>Y k (hu.n.lt U).2
   obtain⟨v5,H5,a5,s5,n5,f5,o5⟩:=Ge (r:=o.next+1) (imm:=0) p.funcs[i].name hub ac gb co;have n5':V.next<=H5.next:=ac
   clear n5;have g50:H5.get 0=some (.cells p.cells 0 true):=by rw[f5 0 ac,Y 0 ac];exact Z
   refine rY iM iM (by rw[O];exact a5) ?_;repeat' (first
    |(apply aj ?_;clear hK K)|apply Rx.o ?_|apply aD ?_|(apply aO (fun C L=>?_) (fun C L=>?_)<;>try(cases C;done))|apply ai ?_|(apply ah fun K hK=>?_)|apply aq ?_|apply am ?_|apply au ?_|apply aw ?_)
   refine⟨ac,bm,bm,cN,sO,?_⟩;exact⟨v5,eE,.inr ⟨by rw[W];simp,by rw[W];exact s5⟩,hv3.keep ac fun k U=>by rw[f5 k (c3 k U),Y k (by have:=c3 k U;omega)]⟩
  .have hie:i=p.funcs.length:=by simp at C;omega
   have I:(dO p).take i=dO p:=fk (by simp[dO];omega);rw[I]at hu;repeat' (first
    |(apply aj ?_;clear hK K)|apply Rx.o ?_|apply aD ?_|(apply aO (fun C L=>?_) (fun C L=>?_)<;>try(cases C;done))|apply ai ?_|(apply ah fun K hK=>?_)|apply aq ?_|apply am ?_|apply au ?_|apply aw ?_)
   all_goals refine qq ?_
   have e1:=hv3.iceV (n:=0);have e2:=hu.iceV (n:=0);show(match iceL (iceV o 2) [v,u]with|some ds=>some (AV.aO ds)|none=>none)=_;simp only[iceL,e1,e2])) (by
 show AV.aO [eP 2 (rj (cc p)),eP 2 (rj (dO p))]=_;rw[Ie,Ie])
noncomputable def Cz:En:=⟨90,false,dA (fun p=>p.sz<2^36) ey fun p=>.aO [cW (cc p),cW (dO p)]⟩
def If:eu prog ρ Cz:=eY fun p hp=>Tn ρ p hp
noncomputable def CA:En:=⟨91,true,dA zd nQ fun x=>.bool (cF [] x.flatten)⟩
def To:eu prog ρ CA:=eY fun x O=>Tm ρ x O
theorem Ig(x:List qm):(x.map fun l=>[cW l]).flatten=x.map cW:=by
 induction x with
 |nil=>rfl
 |cons a l ih=>simp[ih]
def Tp{r imm:Nat}(L:H.get r=some (.cells (x.map cW) imm true))(hr:r<H.next)(J:imm<=x.length):
 ∃H',jA (hY 100) [.sl r 0 x.length 1] H=some (nQ x,H')/\Icy (fun k=>k=r) H H':=by
 refine cH.iceL (S:=fun k=>k=r) (n:=100) (m:=nQ x) ⟨?_,trivial⟩;have h:=cH.rows (S:=fun k=>k=r) (n:=99) (H:=H) (r:=r) (z:=1) (imm:=imm) (tip:=true) (a:=x.map fun l=>[cW l]) (b:=x.map fun l=>[cW l]) rfl hr (by rw[Ig];exact L) (by rw[Ig];simpa using J) aE (cP.refl fun a Z=>cP.refl fun c hc=>by
  obtain⟨l,_,rfl⟩:=lJ.1 Z;rw[tM]at hc;subst hc;exact tT ⟨vG l,trivial⟩)
 rw[dh]at h;exact h
def CB{l:qs}(W:∀m,dR l 91 m=CA.sp m)(J:lW l 91=true){r imm:Nat}(L:H.get r=some (.cells (x.map cW) imm true))(hr:r<H.next)(Z:imm<=x.length)(O:zd x):
 aX prog (aK pls l) 91 [.sl r 0 x.length 1] H fun v H'=>v=.bool (cF [] x.flatten)/\Icy (fun k=>k=r) H H':=by
 obtain⟨H',o,Y⟩:=Tp L hr Z;refine aL ?_ (QO (enc:=nQ) (out:=fun x=>.bool (cF [] x.flatten)) Tj (x:=x) W J O (H':=H') (fun y _ e=>by simp[nQ]at e) o);rintro v _ ⟨rfl,rfl|rfl⟩
 .exact⟨rfl,Y⟩
 .exact⟨rfl,Icy.refl _ _⟩
def CC(H:Hp)(a:List ql):ec prog H 179 1 [(0,.aq a)]=some (.sl H.next 0 1 1,H.alloc (.cells [.aq a] 0 true)):=aF
def Tq(H:Hp)(a b:List ql):ec prog H 179 2 [(0,.aq a),(1,.aq b)]=some (.sl H.next 0 2 1,H.alloc (.cells [.aq a,.aq b] 0 true)):=aF
def Tr(H:Hp)(a b c:List ql):ec prog H 179 3 [(0,.aq a),(1,.aq b),(2,.aq c)]=some (.sl H.next 0 3 1,H.alloc (.cells [.aq a,.aq b,.aq c] 0 true)):=aF
noncomputable def CD:qs:=[Cz,CA]
def Ts:iN prog ρ CD:=⟨If ρ,To ρ,trivial⟩
set_option maxRecDepth 100000 in
theorem Tt(p:Pr)(hz:p.sz<2^36):cp prog ρ 45 (ey p) (.bool (l4 p)):=fI fit (pls:=pls) (Ts ρ) (.cons (.agg p.pure) .nil) (.bool _) (by
 have hw:zaa (aK pls CD) 45:=dK (fun _=>rfl) rfl;have kd:∀H,aX prog (aK pls CD) 90 [.agg p.cells] H fun v H'=>v=.aO [cW (cc p),cW (dO p)]/\H'=H:=fun H=>ev (enc:=ey) (out:=fun p=>.aO [cW (cc p),cW (dO p)]) pO (x:=p) rfl hz;have hpz:p.sz=1+j6 p.af+j5 p.funcs:=rfl;have hla:=r8 p.af;have hlf:=r0 p.funcs;have hal:(cc p).length=p.af.length:=by simp[cc]
 have hfl:(dO p).length=p.funcs.length:=by simp[dO]
 have hx0:∀a b,Ab.extract (.aO [a,b]) 0=some a:=fun _ _=>rfl;have hx1:∀a b,Ab.extract (.aO [a,b]) 1=some b:=fun _ _=>rfl;rw[ey];refine bA (M:=35) (rs:=[.tmp 2]) (hw.call _) hw.aF hw.ak func45 rfl rfl Ia.2 rfl ?_;dsimp only[Ia,bt,Nat.reduceAdd];have U:=@CC;repeat' (first
  |(apply aj ?_;clear hK K)|apply Rx.o ?_|apply aD ?_|(apply mK ?_;first|refine Rx.k (kd _) ?_)|(apply bz (fun Y C=>?_) (fun Y C=>?_)<;>try(cases Y;done))|(apply aO (fun Z L=>?_) (fun Z L=>?_)<;>try(cases Z;done))|apply ai ?_|(apply ah fun K hK=>?_)|apply aq ?_|apply am ?_|apply au ?_|apply aw ?_)
 refine qc ?_;refine aL ?_ (CB (x:=[cc p]) (imm:=0) (fun _=>rfl) rfl ud (ct _) aE ⟨aE,co⟩);rintro v H2 ⟨rfl,W⟩;have n2:=W.next
 simp only[bj,cL]at n2;have g20:H2.get 0=some (.cells p.cells 0 true):=by rw[W.out 0 aE,aJ,ao aE,aJ,aB cC]
 have n2':2<=H2.next:=ac
 clear W n2;rw[show([cc p]:List qm).flatten=cc p by simp];dsimp only[aI];have U:=@CC;repeat' (first
  |(apply aj ?_;clear hK K)|apply Rx.o ?_|apply aD ?_|(apply bz (fun Y C=>?_) (fun Y C=>?_)<;>try(cases Y;done))|(apply aO (fun Z L=>?_) (fun Z L=>?_)<;>try(cases Z;done))|apply ai ?_|(apply ah fun K hK=>?_)|apply aq ?_|apply am ?_|apply au ?_|apply aw ?_)
 .refine qc ?_;refine aL ?_ (CB (x:=[dO p]) (imm:=0) (fun _=>rfl) rfl ud (ct _) aE ⟨aE,co⟩);rintro v H3 ⟨rfl,W⟩;have n3:=W.next
  simp only[bj]at n3;have g30:H3.get 0=some (.cells p.cells 0 true):=by rw[W.out 0 ac,aJ,ao ac];exact g20
  have n3':2<=H3.next:=ac
  clear W n3;rw[show([dO p]:List qm).flatten=dO p by simp];dsimp only[aI];repeat' (first
   |(apply aj ?_;clear hK K)|apply Rx.o ?_|apply aD ?_|(apply bz (fun Y C=>?_) (fun Y C=>?_)<;>try(cases Y;done))|(apply aO (fun Z L=>?_) (fun Z L=>?_)<;>try(cases Z;done))|apply ai ?_|(apply ah fun K hK=>?_)|apply aq ?_|apply am ?_|apply au ?_|apply aw ?_)
  .all_goals refine qq ?_
   rw[l4];(try simp only[ge]at *);simp only[ *,gg,cg,cm,Int.reduceEq]
  .refine dz [3,21,22] [0] 23 p.funcs.length (fun i E H=>(p.funcs.any fun f=>cF [] (cc p++(f.params++f.ai)))=((p.funcs.drop i).any fun f=>cF [] (cc p++(f.params++f.ai)))) eE aE ?_;rintro i E z hi o V m hsI I;(try simp only[bN,bO,bu,aM,a0,Nat.reduceBEq,Nat.reduceAdd,Nat.reduceLeDiff,tyF, *]at o);(try simp only[bN,bO,bu,aM,a0,Nat.reduceBEq,Nat.reduceAdd,Nat.reduceLeDiff,tyF, *]at V);(try simp only[bj,bJ,cL,bX,Nat.reduceAdd]at m);have hB0:(0 == z.next)=false:=bQ ac;have hC0:(z.next == 0)=false:=bQ ac;repeat' (first
    |(apply aj ?_;clear hK K)|apply Rx.o ?_|apply aD ?_|(apply bz (fun Y C=>?_) (fun Y C=>?_)<;>try(cases Y;done))|(apply aO (fun Z L=>?_) (fun Z L=>?_)<;>try(cases Z;done))|apply ai ?_|(apply ah fun K hK=>?_)|apply aq ?_|apply am ?_|apply au ?_|apply aw ?_)
   .have O:i<p.funcs.length:=by simpa using Z
    have hgx:p.funcs[i]?=some p.funcs[i]:=bc O;have hsm:=se (dU O);have hsz:p.funcs[i].sz=1+p.funcs[i].name.length+eN p.funcs[i].params+eN p.funcs[i].ai+dQ p.funcs[i].body+p.funcs[i].value.sz:=rfl;have hpl:=pF p.funcs[i].params;have hll:=pF p.funcs[i].ai;have J:((p.funcs.drop i).any fun f=>cF [] (cc p++(f.params++f.ai)))=(cF [] (cc p++(p.funcs[i].params++p.funcs[i].ai))||((p.funcs.drop (i+1)).any fun f=>cF [] (cc p++(f.params++f.ai)))):=by rw[eM O,nF]
    have U:=@Tr;repeat' (first
     |(apply aj ?_;clear hK K)|apply Rx.o ?_|apply aD ?_|(apply bz (fun Y C=>?_) (fun Y C=>?_)<;>try(cases Y;done))|(apply aO (fun Z L=>?_) (fun Z L=>?_)<;>try(cases Z;done))|apply ai ?_|(apply ah fun K hK=>?_)|apply aq ?_|apply am ?_|apply au ?_|apply aw ?_)
    refine qc ?_;refine aL ?_ (CB (x:=[cc p,p.funcs[i].params,p.funcs[i].ai]) (imm:=0) (fun _=>rfl) rfl ud (ct _) aE ⟨aE,co⟩);rintro v H5 ⟨rfl,W⟩;have n5:=W.next
    simp only[bj,bJ]at n5;have g50:H5.get 0=some (.cells p.cells 0 true):=by rw[W.out 0 (by intro e;change (0:Nat)=_ at e;(try simp only[bJ,bj]at e);omega),aJ,ao (by(try simp only[bJ,bj]);omega),bi,ao ac,aJ,ao ac];exact V
    have n5':z.next<=H5.next:=ac
    clear W n5;rw[show([cc p,p.funcs[i].params,p.funcs[i].ai]:List qm).flatten=cc p++(p.funcs[i].params++p.funcs[i].ai) by simp];dsimp only[aI];repeat' (first
     |(apply aj ?_;clear hK K)|apply Rx.o ?_|apply aD ?_|(apply bz (fun Y C=>?_) (fun Y C=>?_)<;>try(cases Y;done))|(apply aO (fun Z L=>?_) (fun Z L=>?_)<;>try(cases Z;done))|apply ai ?_|(apply ah fun K hK=>?_)|apply aq ?_|apply am ?_|apply au ?_|apply aw ?_)
    .all_goals refine qq ?_
     rw[l4,I,J];(try simp only[ge]at *);simp only[ *,gg,cg,cm,Int.reduceEq]
    .refine⟨ac,bm,bm,cN,sO,?_⟩;rw[I,J];(try simp only[ge]at *);simp only[ *,gg,cg,cm,Int.reduceEq]
   .all_goals refine qq ?_
    have hie:i=p.funcs.length:=zb;rw[hie,oQ]at I;have hJ2:(p.funcs.any fun f=>cF [] (cc p++(f.params++f.ai)))=false:=I;rw[l4,hJ2];(try simp only[ge]at *);simp only[ *,gg,cg,cm,Int.reduceEq]
 .repeat' (first
   |(apply aj ?_;clear hK K)|apply Rx.o ?_|apply aD ?_|(apply bz (fun Y C=>?_) (fun Y C=>?_)<;>try(cases Y;done))|(apply aO (fun Z L=>?_) (fun Z L=>?_)<;>try(cases Z;done))|apply ai ?_|(apply ah fun K hK=>?_)|apply aq ?_|apply am ?_|apply au ?_|apply aw ?_)
  all_goals refine qq ?_
  rw[l4];(try simp only[ge]at *);simp only[ *,gg,cg,cm,Int.reduceEq])
end
section
namespace tyV5
end tyV5
open tyV5
def jw(n:Nd):qn:=rc (sK n)
end
section
def Tu{l:qC}{k:Ex}(V:iO l=true)(h:l[i]?=some k):iq k=true:=by
 induction l generalizing i with
 |nil=>simp at h
 |cons e z ih=>
  rw[iO,ca]at V;cases i with
  |zero=>simp at h;subst h;exact V.1
  |succ i=>exact ih V.2 fQ
def sP{o:Type}(l:List o)(h:i<l.length):∃k,l[i]?=some k:=⟨l[i],bc h⟩
section
variable (p:Pr) (fi:List (bB × Int))
end
theorem Ih(s:bB):∀(l:qH) (i:Nat) (m:List (bB×Int)),bR (l.map (·.name)) s=false->di (iw l i m) s=di m s
 |[],_,m,_=>rfl
 |f::l,i,m,h=>by
  rw[eJ,show f.name::l.map (·.name)=[f.name]++l.map (·.name)from rfl,mQ,oO,ig,iL]at h;rw[iw,Ih s l _ _ h.2,sL,ao h.1]
theorem Ii(s:bB):∀(l:qH) (seen:qm) (i:Nat) (m:List (bB×Int)),cF seen (l.map (·.name))=false->0<=dl l s i->di (iw l i m) s=dl l s i
 |[],_,i,m,_,h=>by simp[dl]at h
 |f::l,seen,i,m,hn,h=>by
  rw[eJ,cF,ig]at hn;rw[dl]at h⊢;by_cases e:f.name=s
  .have I:bR (l.map (·.name)) s=false:=yY _ _ hn.2 s Hg;rw[aB e,iw,Ih s l _ _ I,sL,aB e.symm]
  .rw[ao e]at h⊢;rw[iw];exact Ii s l (seen++[f.name]) (i+1) _ hn.2 h
structure zah (p:Pr):Prop where
 ex:pP p=false
 wf:js p=true
 du:oI p=false
 un:p.funcs.any (pU p)=false
 ba:p.funcs.any (sA p)=false
def Tv{p:Pr}(h:jc p=0):zah p:=by
 rw[jc]at h;by_cases o:pP p=true
 .rw[aB o]at h;omega
 rw[ao o]at h;by_cases m:js p=false
 .rw[aB m]at h;omega
 rw[ao m]at h;by_cases I:oI p=true
 .rw[aB I]at h;omega
 rw[ao I]at h;by_cases Z:p.funcs.any (pU p)=true
 .rw[aB Z]at h;omega
 rw[ao Z]at h;by_cases W:p.funcs.any (sA p)=true
 .rw[aB W]at h;omega
 exact⟨by simpa using o,uT,pw,kB,by simpa using W⟩
def zah.am{p:Pr}(h:zah p):cF [] (cc p)=false/\cF [] (dO p)=false:=by
 have hd:=h.du;rw[oI,yX,ig,ig]at hd;exact⟨hd.1,hd.2.1⟩
theorem CE:∀(l seen:qm),cF seen l=false->l.Nodup
 |[],_,_=>List.nodup_nil
 |s::l,seen,h=>by
  rw[cF,ig]at h;refine List.nodup_cons.2 ⟨fun m=>?_,CE l _ h.2⟩;have:=yY _ _ h.2 s (by rw[mQ,oO,p7 rfl,tN]);rw[bR,xm]at this;exact this s m aE
def zah.dL{p:Pr}(h:zah p):(p.af.map (·.name)).Nodup:=CE _ _ h.am.1
structure Bd where
 l:qz
 vars:qp
 ab:Int
 loops:Nat
structure Cx where
 af:List Ar
 funcs:qH
 am:List bB
def fg(l:qz)(n:Nd):Nat:=l.findIdx fun x=>decide (x=n)
def iz(l:qz)(n:Nd):qz:=if fg l n<l.length then l else l++[n]
def ay(n:Nd)(s:Bd):Int×Bd:=(fg s.l n,{s with l:=iz s.l n})
def ce:List bB->bB->Nat
 |[],_=>0
 |a::l,s=>if a=s then 0 else if bR l s=true then ce l s+1 else 0
def bM(c a b:Int)(s:Bd):Int×Bd:=if a=b then (a,s)else ay ⟨22,0,[c,a,b]⟩ s
def nS(U v:Int)(s:Bd):Bd:=let r:=ay ⟨27,U,[s.ab,v]⟩ s;{r.2 with ab:=r.1}
def fK(len i:Int)(s:Bd):Bd:=
 let W:=ay ⟨1,len,[]⟩ s
 let Y:=ay ⟨19,0,[i,W.1]⟩ W.2
 nS 2 Y.1 Y.2
def oR(v:Int)(s:Bd):Bd:=
 let z:=ay ⟨1,0,[]⟩ s
 let c:=ay ⟨16,0,[v,z.1]⟩ z.2
 nS 1 c.1 c.2
def dE(c:Cx):Nat->Ex->Bd->Option (Int×Bd)
 |0,_,_=>none
 |n+1,x,s=>
  if x.ah=1 then some (ay ⟨1,x.n,[]⟩ s)
  else if x.ah=2 then (s.vars[ce c.am x.name]?).map fun v=>(v,s)
  else if x.ah=3 then
   (x.aj[0]?).bind fun k=>(dE c n k s).bind fun r=>(c.af[ce (c.af.map (·.name)) x.name]?).bind fun a=>
     let o:=fK a.len r.1 r.2
     some (ay ⟨23,ce (c.af.map (·.name)) x.name,[o.ab,r.1]⟩ o)
  else if x.ah=5 then
   (x.aj[0]?).bind fun dL=>(dE c n dL s).bind fun bG=>
   (x.aj[1]?).bind fun M=>(dE c n M bG.2).bind fun W=>
   (x.aj[2]?).bind fun Z=>(dE c n Z {W.2 with ab:=bG.2.ab}).bind fun Y=>
     let v:=bM bG.1 W.1 Y.1 Y.2
     let t:=bM bG.1 W.2.ab v.2.ab v.2
     some (v.1,{t.2 with ab:=t.1})
  else
   (x.aj[0]?).bind fun dL=>(dE c n dL s).bind fun bG=>
     if x.aj.length=1 then some (ay ⟨x.op,0,[bG.1]⟩ bG.2)
     else (x.aj[1]?).bind fun M=>(dE c n M bG.2).bind fun W=>
      some (ay ⟨x.op,0,[bG.1,W.1]⟩ (if x.op=7\/x.op=8 then oR W.1 W.2 else W.2))
def nT(c:Cx)(n:Nat):qC->Bd->Option (qp×Bd)
 |[],s=>some ([],s)
 |x::l,s=>(dE c n x s).bind fun r=>(nT c n l r.2).bind fun Y=>some (r.1::Y.1,Y.2)
def el(O:List bB):Nat->qy->qF->Option qF
 |0,_,_=>none
 |n+1,l,b=>match l with
  |[]=>some b
  |x::l=>
   if (x.ah=1\/x.ah=6)/\b.length<=ce O x.name then none
   else (el O n x.a8 (if x.ah=1\/x.ah=6 then b.set (ce O x.name) true else b)).bind fun V=>(el O n x.bA V).bind fun Y=>el O n l Y
def dT(b:qF):qu:=(List.range b.length).filter fun i=>b.getD i false
def l7(c:Int)(a:qp):Nat->Nat->Bd->Option Bd
 |0,_,s=>some s
 |k+1,i,s=>(a[i]?).bind fun x=>(s.vars[i]?).bind fun y=>
  let r:=bM c x y s
  l7 c a k (i+1) {r.2 with vars:=r.2.vars.set i r.1}
def gY(base:Int):qu->Nat->Bd->Bd
 |[],_,s=>s
 |w::ws,j,s=>let r:=ay ⟨3,base+j,[]⟩ s;gY base ws (j+1) {r.2 with vars:=r.2.vars.set w r.1}
def fL(loop c:Int)(old:qp):qu->Nat->Bd->Bd
 |[],_,s=>s
 |w::ws,j,s=>
  let f:=ay ⟨25,j,[loop]⟩ s
  let m:=bM c f.1 (old.getD w 0) f.2
  fL loop c old ws (j+1) {m.2 with vars:=m.2.vars.set w m.1}
section
variable (c:Cx)
mutual
def l8:Nat->St->Bd->Option Bd
 |0,_,_=>none
 |n+1,x,s=>
  if x.ah=1 then (dE c n x.value s).bind fun r=>if ce c.am x.name<r.2.vars.length then some {r.2 with vars:=r.2.vars.set (ce c.am x.name) r.1}else none
  else if x.ah=2 then (dE c n x.aW s).bind fun i=>(dE c n x.value i.2).bind fun v=>(c.af[ce (c.af.map (·.name)) x.name]?).bind fun a=>
   let o:=fK a.len i.1 v.2
   let r:=ay ⟨28,ce (c.af.map (·.name)) x.name,[o.ab,i.1,v.1]⟩ o
   some {r.2 with ab:=r.1}
  else if x.ah=3 then (dE c n x.value s).bind fun r=>(eD n x.a8 r.2).bind fun a=>(eD n x.bA {a with ab:=r.2.ab,vars:=r.2.vars}).bind fun b=>
   (l7 r.1 a.vars b.vars.length 0 b).bind fun m=>
     let t:=bM r.1 a.ab m.ab m
     some {t.2 with ab:=t.1}
  else if x.ah=4 then mR n x s
  else if x.ah=5 then (dE c n x.value s).bind fun v=>
   let r:=ay ⟨29,0,[v.2.ab,v.1]⟩ v.2
   some {r.2 with ab:=r.1}
  else if x.ah=6 then (nT c n x.args s).bind fun M=>
   if 0<=dl c.funcs x.to 0/\ce c.am x.name<M.2.vars.length then
    let r:=ay ⟨30,dl c.funcs x.to 0,M.2.ab::M.1⟩ M.2
    let q:=ay ⟨24,0,[r.1]⟩ {r.2 with ab:=r.1}
    some {q.2 with vars:=q.2.vars.set (ce c.am x.name) q.1}
   else none
  else if x.ah=7 then let z:=ay ⟨1,0,[]⟩ s;some (nS (er (16+x.n)) z.1 z.2)
  else some s
def eD:Nat->qy->Bd->Option Bd
 |0,_,_=>none
 |n+1,l,s=>match l with
  |[]=>some s
  |x::l=>(l8 n x s).bind fun r=>eD n l r
def mR:Nat->St->Bd->Option Bd
 |0,_,_=>none
 |n+1,x,s=>(dE c n x.value {s with loops:=s.loops+1}).bind fun r=>(el c.am n x.a8 (List.replicate r.2.vars.length false)).bind fun b=>
  let p:=ay ⟨3,16*(s.loops:Int),[]⟩ r.2
  (eD n x.a8 (gY (16*(s.loops:Int)+1) (dT b) 0 {p.2 with ab:=p.1})).bind fun t=>(dE c n x.value t).bind fun d=>
    let k:=ay ⟨31,s.loops,r.2.ab::((dT b).map fun i=>r.2.vars.getD i 0)++[d.1,d.2.ab]++((dT b).map fun i=>d.2.vars.getD i 0)⟩ d.2
    let f:=ay ⟨25,0,[k.1]⟩ {k.2 with vars:=r.2.vars}
    let m:=bM r.1 f.1 r.2.ab f.2
    some (fL k.1 r.1 r.2.vars (dT b) 1 {m.2 with ab:=m.1})
end
end
def gZ:Nat->Nat->Bd->Bd
 |0,_,s=>s
 |n+1,k,s=>let r:=ay ⟨2,k,[]⟩ s;gZ n (k+1) {r.2 with vars:=r.2.vars++[r.1] }
def jP:Nat->Bd->Bd
 |0,s=>s
 |n+1,s=>let r:=ay ⟨1,0,[]⟩ s;jP n {r.2 with vars:=r.2.vars++[r.1] }
def ki(f:Fu):Bd:=let e:=ay ⟨26,0,[]⟩ ⟨[],[],0,0⟩;jP f.ai.length (gZ f.params.length 0 {e.2 with ab:=e.1})
def jQ(p:Pr)(f:Fu):Cx:=⟨p.af,p.funcs,f.params++f.ai⟩
def ze(p:Pr)(n:Nat)(f:Fu):Option Gr:=(eD (jQ p f) n f.body (ki f)).bind fun s=>(dE (jQ p f) n f.value s).bind fun v=>some ⟨f.name,f.params.length,v.2.l,v.1,v.2.ab⟩
def oS(p:Pr)(n:Nat):qH->List Gr->Option (Un×Int)
 |[],gs=>some (⟨p.af,gs⟩,0)
 |f::l,gs=>(ze p n f).bind fun g=>if (2000:Int)<g.aP.length then some (⟨[],[]⟩,6)else oS p n l (gs++[g])
def sQ(p:Pr)(n:Nat):Option (Un×Int):=if jc p=0 then oS p n p.funcs []else some (⟨[],[]⟩,jc p)
structure NdR (n:Nd):Prop where
 op:0<=n.op/\n.op<256
 aY:-9223372036854775808<=n.aY/\n.aY<9223372036854775808
 aj:∀k∈n.aj,0<=k/\k<2^60
 len:n.aj.length<2^30
def Ij(n:Int):jN n 0=n%256:=by
 rw[jN,tL];simp[Int.fdiv_one]
def Ik(n:Int)(i:Nat):jN n (i+1)=jN (n/256) i:=by
 rw[jN,jN];have e:(2:Int)^ (8*(i+1))=256*2^ (8*i):=by
  rw[Nat.mul_add,Int.pow_add];omega
 have p:(0:Int)<=2^ (8*i):=Int.le_of_lt (Int.pow_pos aZ);rw[e,HW _ ac,HW _ p,Int.ediv_ediv_of_nonneg aZ]
def Tw(n:Int)(i:Nat):0<=jN n i/\jN n i<256:=by
 rw[jN,tL];omega
theorem Il:∀(k:Nat) (n m:Int),0<=n->n<256^ k->0<=m->m<256^ k->(∀i,i<k->jN n i=jN m i)->n=m
 |0,n,m,h1,h2,h3,h4,_=>by simp at h2 h4;omega
 |k+1,n,m,h1,h2,h3,h4,h=>by
  have e:(256:Int)^ (k+1)=256*256^ k:=by rw[Int.pow_succ];omega
  rw[e]at h2 h4;have Z:=h 0 ac;rw[Ij,Ij]at Z;have ih:=Il k (n/256) (m/256) ac (by generalize (256:Int)^ k=P at *;omega) ac (by generalize (256:Int)^ k=P at *;omega) (fun i J=>by rw[<-Ik,<-Ik];exact h (i+1) ac);omega
theorem Im:∀{l m:qp},(∀x∈l,0<=x/\x<256)->(∀x∈m,0<=x/\x<256)->rc l=rc m->l=m
 |[],[],_,_,_=>rfl
 |[],_::_,_,_,h=>by simp[rc]at h
 |_::_,[],_,_,h=>by simp[rc]at h
 |a::l,b::m,hl,hm,h=>by
  simp only[rc,eJ,eU]at h;have o:=hl a eL;have Z:=hm b eL;have e:a=b:=by
   have:=jY UInt8.toNat h.1;rw[UInt8.toNat_ofNat',UInt8.toNat_ofNat']at this;omega
  rw[e,Im (fun x O=>hl x (fR _ O)) (fun x O=>hm x (fR _ O)) h.2]
def In(n:Int)(k:Nat):∀x∈gE n k,0<=x/\x<256:=fun x O=>by
 obtain⟨i,_,rfl⟩:=lJ.1 O;exact Tw n i
def Io(n:Nd):∀x∈sK n,0<=x/\x<256:=fun x O=>by
 rw[sK,eK,ow,AI]at O;rcases O with rfl|O|⟨k,_,O⟩
 .rw[tL];omega
 .exact In _ _ x O
 .exact In _ _ x O
def Ip{n m:Int}(h1:0<=n)(h2:n<18446744073709551616)(I:0<=m)(Z:m<18446744073709551616)(h:gE n 8=gE m 8):n=m:=
 Il 8 n m h1 ac I ac fun i J=>List.map_inj_left.1 h i (lI.2 J)
def rk(n:Int):0<=IntKind.wrap .u64 n/\IntKind.wrap .u64 n<18446744073709551616:=by rw[tK];omega
theorem Iq:∀{C ms:qp},(∀k∈C,0<=k/\k<2^60)->(∀k∈ms,0<=k/\k<2^60)->(C.flatMap fun k=>gE (IntKind.wrap .u64 k) 8)=(ms.flatMap fun k=>gE (IntKind.wrap .u64 k) 8)->C=ms
 |[],[],_,_,_=>rfl
 |[],m::ms,_,_,h=>by
  have:=jY List.length h;rw[rX,em,oN]at this;simp at this;omega
 |k::C,[],_,_,h=>by
  have:=jY List.length h;rw[rX,em,oN]at this;simp at this
 |k::C,m::ms,hk,hm,h=>by
  rw[rX,rX]at h;obtain⟨o,Z⟩:=List.append_inj h (by rw[oN,oN]);have e:=Ip (rk k).1 (rk k).2 (rk m).1 (rk m).2 o;have J:=hk k eL;have z:=hm m eL;rw[tK,tK]at e;have Y:k=m:=ac;rw[Y,Iq (fun x O=>hk x (fR _ O)) (fun x O=>hm x (fR _ O)) Z]
def Tx{a b:Nd}(J:NdR a)(C:NdR b)(h:jw a=jw b):a=b:=by
 have h:=Im (Io a) (Io b) h;rw[sK,sK,eU]at h;obtain⟨o,m⟩:=h;obtain⟨I,Z⟩:=List.append_inj m (by rw[oN,oN]);have O:=Ip (rk _).1 (rk _).2 (rk _).1 (rk _).2 I;have M:=Iq J.aj C.aj Z;have o1:=J.op;have o2:=C.op;have i1:=J.aY;have i2:=C.aY;rw[tL,tL]at o;rw[tK,tK]at O;obtain⟨V,W,L⟩:=a;obtain⟨Y,U,z⟩:=b;simp only at *;rw[show V=Y by omega,show W=U by omega,M]
def Ty(x:Nd)(l:qz)(n:Nd):fg (x::l) n=if x=n then 0 else fg l n+1:=by
 unfold fg;rw[List.findIdx_cons];by_cases h:x=n<;>simp[h]
def CF(l:qz)(n:Nd):fg l n<=l.length:=by unfold fg;exact List.findIdx_le_length
def Ir{l:qz}{n:Nd}:fg l n<l.length↔n∈l:=by
 unfold fg;rw[List.findIdx_lt_length];simp
def Is{l:qz}{n:Nd}(h:fg l n<l.length):l[fg l n]?=some n:=by
 rw[bc h];have:=List.findIdx_getElem (p:=fun x=>decide (x=n)) (xs:=l) (w:=h);simp only[ji]at this;exact jY some this
def Tz(l:qz)(n:Nd):(iz l n).length=if fg l n<l.length then l.length else l.length+1:=by
 unfold iz;split<;>simp[*]
def ug(l:qz)(n:Nd):l<+:iz l n:=by
 unfold iz;split
 .exact vZ l
 .exact List.prefix_append l [n]
theorem TA(l:qz)(n:Nd):(iz l n)[fg l n]?=some n:=by
 unfold iz;split
 .rename_i h;exact Is h
 .rename_i h;have:=CF l n;have e:fg l n=l.length:=ac;rw[e,lC (az _),rJ];rfl
def zf{l:qz}{n x:Nd}:x∈iz l n↔x∈l\/x=n:=by
 unfold iz;split
 .rename_i h;have:=Ir.1 h;constructor
  .exact .inl
  .rintro(h|rfl)
   .exact h
   .exact this
 .simp
def atV(l:qz)(i:Nat):List (bB×Int):=(l.zipIdx i).map fun p=>(jw p.1,(p.2:Int))
theorem TB(x:Nd)(l:qz)(i:Nat):atV (x::l) i=(jw x,(i:Int))::atV l (i+1):=by rw[atV,List.zipIdx_cons];rfl
theorem It{n:Nd}(M:NdR n):∀(l:qz) (i:Nat),(∀x∈l,NdR x)->fd (atV l i) (jw n)=decide (fg l n<l.length)/\(fg l n<l.length->di (atV l i) (jw n)=((i+fg l n:Nat):Int))/\(¬fg l n<l.length->∀x,setV (atV l i) (jw n) x=atV l i++[(jw n,x)])
 |[],i,_=>⟨rfl,fun h=>by simp[fg]at h,fun _ x=>rfl⟩
 |x::l,i,hl=>by
  obtain⟨o,m,I⟩:=It M l (i+1) fun y W=>hl y (fR _ W)
  rw[Ty,TB,cy];by_cases e:x=n
  .subst e;refine⟨by simp[fd],fun _=>by simp[di],fun h=>jk⟩
  .have J:¬jw n=jw x:=fun h=>e (Tx M (hl x eL) h).symm;rw[ao e];refine⟨?_,fun h=>?_,fun h y=>?_⟩
   .simp only[fd,J];rw[o];simp
   .have:=m ac;simp only[di,J,cm];rw[this];congr 1;omega
   .have:=I ac y;simp only[setV,J,cm,this,mJ]
def TC(l:qz)(n:Nd):atV l 0++[(jw n,(l.length:Int))]=atV (l++[n]) 0:=by
 simp[atV,List.zipIdx_append]
def TD{o:Type}{s:List o}(h:s.length=3):∃a b c,s=[a,b,c]:=by
 match s,h with
 |[a,b,c],_=>exact⟨a,b,c,rfl⟩
def TE(H:Hp){cs:ql}(W:cs.length=3)(I:cs.all AV.one=true):ec prog H 30 1 [(0,.agg cs)]=some (.sl H.next 0 1 3,H.alloc (.cells cs 0 true)):=by
 obtain⟨a,b,c,rfl⟩:=TD W;kernel_rfl
structure Lx where
 p:Pr
 b:Nat
 ra:Nat
 rf:Nat
 rt:Nat
 rn:Nat
 ae:List (bB×Int)
 fe:List (bB×Int)
 ne:List (bB×Int)
def bC(X:Lx)(s:Bd)(O vv:AV):ql:=[.aq (X.p.af.map Ar.cells),.aq (X.p.funcs.map Fu.cells),.map X.ra,.map X.rf,O,.map X.rt,.map X.rn,vv,.int .i64 s.ab,.int .i64 s.loops]
structure zab (X:Lx) (H:Hp) (S:Nat->Prop) (s:Bd) (lv vv:AV):Prop where
 m:H.get X.b=some (.cells (bC X s lv vv) 0 true)
 a:H.get X.ra=some (.map (cu X.ae))
 f:H.get X.rf=some (.map (cu X.fe))
 t:H.get X.rt=some (.map (cu (atV s.l 0)))
 n:H.get X.rn=some (.map (cu X.ne))
 aP:b7 S 2 H 3 lv (s.l.map Nd.cells)
 vars:gD H vv s.vars 0
 o1:X.ra<X.rf
 o2:X.rf<X.rt
 o3:X.rt<X.rn
 o4:X.rn<X.b
 o5:X.b<H.next
 sS:∀k,S k->X.b<k/\k<H.next/\¬bL vv k
 vS:∀k,bL vv k->X.b<k/\k<H.next
structure Sm (n:Nat) (H H':Hp):Prop where
 get:∀k,k<n->H'.get k=H.get k
structure FrL (X:Lx) (S:Nat->Prop) (vv:AV) (H:Hp) (S':Nat->Prop) (vv':AV) (H':Hp):Prop where
 next:H.next<=H'.next
 get:∀k,k<H.next->k≠X.b->k≠X.rt->¬S k->¬bL vv k->H'.get k=H.get k
 sub:∀k,S' k->S k\/H.next<=k
 own:∀k,bL vv' k->bL vv k\/H.next<=k
def FrL.refl(X:Lx)(S:Nat->Prop)(vv:AV)(H:Hp):FrL X S vv H S vv H:=⟨az _,fun _ _ _ _ _ _=>rfl,fun _ h=>.inl h,fun _ h=>.inl h⟩
def cf:=@FrL.refl
def FrL.trans{X:Lx}{S':Nat->Prop}{v W:AV}(h:FrL X S v H S' W H')(k:FrL X S' W H' Z I Y):FrL X S v H Z I Y where
 next:=dq h.next k.next
 get r h1 h2 h3 h4 h5:=by
  rw[k.get r (jW h1 h.next) h2 h3 (fun e=>?_) (fun e=>?_)]
  .exact h.get r h1 h2 h3 h4 h5
  .rcases h.sub r e with e|e
   .exact h4 e
   .omega
  .rcases h.own r e with e|e
   .exact h5 e
   .omega
 sub r e:=by
  rcases k.sub r e with e|e
  .exact h.sub r e
  .exact .inr (dq h.next e)
 own r e:=by
  rcases k.own r e with e|e
  .exact h.own r e
  .exact .inr (dq h.next e)
section
variable {X:Lx} {H H':Hp} {S:Nat -> Prop} {s:Bd} {lv vv:AV}
def zab.keep(h:zab X H S s lv vv)(M:H.next<=H'.next)(L:∀k,k<H.next->(k<=X.b\/S k\/bL vv k)->H'.get k=H.get k):zab X H' S s lv vv:=by
 have Z:=h.o1;have J:=h.o2;have I:=h.o3;have m:=h.o4;have Y:=h.o5;refine⟨by rw[L _ Y (.inl (az _))];exact h.m,by rw[L _ ac (.inl ac)];exact h.a,by rw[L _ ac (.inl ac)];exact h.f,by rw[L _ ac (.inl ac)];exact h.t,by rw[L _ ac (.inl ac)];exact h.n,h.aP.keep (fun _ _ h=>h) M fun k z C=>L k C (.inr (.inl z)),h.vars.keep M fun k z=>L k (h.vS k z).2 (.inr (.inr z)),Z,J,I,m,ac,fun k z=>?_,fun k z=>?_⟩
 .have:=h.sS k z;exact⟨this.1,ac,this.2.2⟩
 .have:=h.vS k z;omega
def zab.alloc(h:zab X H S s lv vv)(b:HB):zab X (H.alloc b) S s lv vv:=h.keep (dB _) fun k z _=>fC
def zab.bH(h:zab X H S s lv vv)(b c:HB):zab X ((H.alloc b).set H.next c) S s lv vv:=h.keep (dB _) fun k z _=>vY
def FrL.alloc{Z:AV}{bE:Hp}(h:FrL X C Z bE S vv H)(b:HB):FrL X C Z bE S vv (H.alloc b):=h.trans ⟨dB _,fun k z _ _ _ _=>fC,fun _ h=>.inl h,fun _ h=>.inl h⟩
def FrL.bH{Z:AV}{bE:Hp}(h:FrL X C Z bE S vv H)(b c:HB):FrL X C Z bE S vv ((H.alloc b).set H.next c):=h.trans ⟨dB _,fun k z _ _ _ _=>vY,fun _ h=>.inl h,fun _ h=>.inl h⟩
def zab.setS(h:zab X H S s lv vv)(x:Int):zab X (H.set X.b (.cells (bC X {s with ab:=x} lv vv) 0 true)) S {s with ab:=x} lv vv/\FrL X S vv H S vv (H.set X.b (.cells (bC X {s with ab:=x} lv vv) 0 true)):=by
 have Z:=h.o1;have J:=h.o2;have I:=h.o3;have Y:=h.o4;have W:=h.o5;have L:∀k,k≠X.b->(H.set X.b (.cells (bC X {s with ab:=x} lv vv) 0 true)).get k=H.get k:=fun k z=>jV;refine⟨⟨eT,Ct,Cu,Cv,Cw,h.aP.keep (fun _ _ h=>h) (az _) fun k z C=>L k Cq,h.vars.keep (az _) fun k z=>L k (by have:=h.vS k z;omega),Z,J,I,Y,W,h.sS,h.vS⟩,⟨az _,fun k _ m _ _ _=>L k m,fun _ h=>.inl h,fun _ h=>.inl h⟩⟩
def zab.dv(h:zab X H S s lv vv)(x:Nat):zab X (H.set X.b (.cells (bC X {s with loops:=x} lv vv) 0 true)) S {s with loops:=x} lv vv/\FrL X S vv H S vv (H.set X.b (.cells (bC X {s with loops:=x} lv vv) 0 true)):=by
 have Z:=h.o1;have J:=h.o2;have I:=h.o3;have Y:=h.o4;have W:=h.o5;have L:∀k,k≠X.b->(H.set X.b (.cells (bC X {s with loops:=x} lv vv) 0 true)).get k=H.get k:=fun k z=>jV;refine⟨⟨eT,Ct,Cu,Cv,Cw,h.aP.keep (fun _ _ h=>h) (az _) fun k z C=>L k Cq,h.vars.keep (az _) fun k z=>L k (by have:=h.vS k z;omega),Z,J,I,Y,W,h.sS,h.vS⟩,⟨az _,fun k _ m _ _ _=>L k m,fun _ h=>.inl h,fun _ h=>.inl h⟩⟩
def zab.setV(h:zab X H S s lv vv)(J:i<s.vars.length)(x:Int):∃r,dZ prog 22 vv (.int .i64 (i:Int))=some (.ptr r i)/\eR prog H 3 (.ptr r i)=some (.int .i64 (s.vars.getD i 0)) /\
 ∃H',ky prog H 3 (.ptr r i) (.int .i64 x)=some H'/\X.b<r/\r<H.next/\bL vv r/\zab X H' S {s with vars:=s.vars.set i x} lv vv/\FrL X S vv H S vv H'/\(∀k,k≠r->H'.get k=H.get k)/\H'.next=H.next:=by
 rcases h.vars with⟨_,V⟩|⟨r,Y,L,o,hr⟩
 .rw[V]at J;simp at J
 .have m:bL vv r:=⟨_,Y⟩;have Z:=(h.vS r m).1;refine⟨r,?_,?_,H.set r (.cells ((s.vars.set i x).map (.int .i64)) 0 true),?_,Z,hr,m,?_,⟨az _,fun k _ _ _ _ W=>?_,fun _ h=>.inl h,fun _ h=>.inl h⟩,fun k z=>jV,rfl⟩
  .rw[Y,vu underlying22 kP J];simp
  .rw[Bh underlying3 rfl L,ii,fY,bc J];rfl
  .rw[SA L (by rw[dh];exact J),List.map_set]
  .have U:=h.o1;have O:=h.o2;have I:=h.o3;have M:=h.o4;have C:=h.o5;have z:∀k,k≠r->(H.set r (.cells ((s.vars.set i x).map (.int .i64)) 0 true)).get k=H.get k:=fun k z=>jV;refine⟨by rw[z _ ac];exact h.m,by rw[z _ ac];exact h.a,by rw[z _ ac];exact h.f,by rw[z _ ac];exact h.t,by rw[z _ ac];exact h.n,h.aP.keep (fun _ _ h=>h) (az _) fun k hS _=>z k fun e=>(h.sS k hS).2.2 (by rw[e];exact m),.inr ⟨r,by rw[Y,jv],eT,o,hr⟩,U,O,I,M,C,h.sS,h.vS⟩
  .rw[bi,ao (fun e=>W (by rw[e];exact m))]
def zab.swapV(h:zab X H S s lv vv){vw:AV}{l:qp}(V:gD H vw l 0)(h1:∀k,bL vw k->X.b<k/\k<H.next/\¬S k):zab X (H.set X.b (.cells (bC X {s with vars:=l} lv vw) 0 true)) S {s with vars:=l} lv vw:=by
 have Z:=h.o1;have J:=h.o2;have I:=h.o3;have m:=h.o4;have Y:=h.o5;have L:∀k,k≠X.b->(H.set X.b (.cells (bC X {s with vars:=l} lv vw) 0 true)).get k=H.get k:=fun k z=>jV;exact⟨eT,Ct,Cu,Cv,Cw,h.aP.keep (fun _ _ h=>h) (az _) fun k z C=>L k Cq,V.keep (az _) fun k z=>L k (by have:=h1 k z;omega),Z,J,I,m,Y,fun k z=>⟨(h.sS k z).1,(h.sS k z).2.1,fun e=>(h1 k e).2.2 z⟩,fun k z=>⟨(h1 k z).1,(h1 k z).2.1⟩⟩
end
def tyLoB.tyF:=ad @ef (ad @cJ (ad @oG (ad @cM (ad @jH (ad @lT (ad @vD (ad @Bw (ad @fW (ad @kT (ad @mH (ad @vF (ad @Ft (ad @BC (ad @Fv (ad @Fl (ad @Fw (ad @Fy (ad @Hw (ad @SM (@SN))))))))))))))))))))
open tyLoB
noncomputable def Iu:{c:SC // aG 20 (f103.body.getD .skip)=c}:=by
 refine⟨?_,?_⟩;rotate_left
 .simp only[f103,bK,aG,bF,bw,bH,bI,Nat.blt,Nat.ble];rfl
noncomputable def Iv:{c:SC // aG 69 (f60.body.getD .skip)=c}:=by
 refine⟨?_,?_⟩;rotate_left
 .simp only[f60,bK,aG,bF,bw,bH,bI,Nat.blt,Nat.ble];rfl
def CG(f:FuncId):Bool:=Nat.beq f 103||Nat.beq f 60||Nat.beq f 61||Nat.beq f 62||Nat.beq f 63||Nat.beq f 104||Nat.beq f 105||Nat.beq f 106||Nat.beq f 107||Nat.beq f 132||Nat.beq f 133||Nat.beq f 134||Nat.beq f 150||Nat.beq f 30
structure zaf (tb:qs):Prop where
 pl:∀f,CG f=true->(∀ar,dR tb f ar=none)/\lW tb f=false
def zaf.plain(h:zaf tb){f:FuncId}(o:CG f=true):zaa (aK pls tb) f:=dK (h.pl f o).1 (h.pl f o).2
def Iw{cfg:Cfg}(V:zaa cfg 103)(O:cfg.keep 103=false){v:AV}{b:qp}(hv:ju H v b lo)(C:b.length<2^38)(n:Int):
 aX prog cfg 103 [v,.int .u64 n] H fun w H'=>ju H' w (b++gE n 8) lo/\H.next<=H'.next/\∀k,k<lo->H'.get k=H.get k:=by
 obtain⟨bG,i0,o,_⟩:=id hv;have hone:AV.one v=true:=by rw[o];rfl
 clear o;refine bA (M:=20) (rs:=[.tmp 4]) (V.call _) V.aF V.ak func103 rfl rfl Iu.2 rfl ?_;dsimp only[Iu,bt,Nat.reduceAdd];repeat' (first
  |(apply aj ?_;clear hK K)|apply Rx.o ?_|apply ai ?_|(apply ah fun K hK=>?_)|apply aq ?_|apply am ?_|apply au ?_|apply aw ?_)
 refine dz [1] [] 5 8 (fun i E U=>∃w,E.at 0=w/\ju U w (b++gE n i) lo/\∀k,k<lo->U.get k=H.get k) eE ⟨v,eE,by simpa [gE]using hv,fun _ _=>rfl⟩ ?_;rintro i E U hi W J m hsI ⟨w,dL,I,z⟩;(try simp only[bN,bO,bu,aM,a0,Nat.reduceBEq,Nat.reduceAdd,Nat.reduceLeDiff,tyF, *]at W);(try simp only[bN,bO,bu,aM,a0,Nat.reduceBEq,Nat.reduceAdd,Nat.reduceLeDiff,tyF, *]at J);(try simp only[bj,bJ,cL,bX,Nat.reduceAdd]at m);by_cases hlt:i<8
 .have Z:(i:Int)<8:=by omega
  have e1:IntKind.wrap .i64 (8*(i:Int))=((8*i:Nat):Int):=ei;have e2:IntKind.wrap .u64 ((8*i:Nat):Int)=((8*i:Nat):Int):=(by decide:∀i:_root_.Fin 8,IntKind.wrap .u64 ((8*i.val:Nat):Int)=((8*i.val:Nat):Int)) ⟨i,hlt⟩;have e4:∀(D:BinOp->Sx->Sx->qA) (t:TypeId),dw prog D .shr t (.int .u64 n) (.int .u64 ((8*i:Nat):Int))=some (.int .u64 (n.fdiv (2^ (8*i)))):=fun D t=>bin_shr ac rfl;repeat' (first
   |(apply aj ?_;clear hK K)|apply Ry.o ?_|(apply aY (fun C L=>?_) (fun C L=>?_)<;>try(cases C;done))|apply ai ?_|(apply ah fun K hK=>?_)|apply aq ?_|apply am ?_|apply au ?_|apply aw ?_)
  have hwb:Cc (U.alloc (.cells [.int .u8 (jN n i)] 0 true)) w (b++gE n i) lo:=.inr (I.keep (dB _) fun k Y=>by rw[aJ,ao (by have:=(I.lt Y).2;omega)]);have hlo2:lo<=U.next:=by obtain⟨r,im,_,_,_,h1,h2⟩:=I;omega
  obtain⟨v5,H5,a5,s5,n5,f5,o5⟩:=SF (r:=U.next) (imm:=0) (jN n i) hwb eh jB (by rw[em,oN];omega);have n5':U.next<=H5.next:=Cr
  have o5':∀k,k<lo->H5.get k=H.get k:=fun k Y=>by rw[f5 k Y,aJ,ao ac,z k Y]
  clear n5 f5 o5;refine rY iM iM (by rw[O];exact a5) ?_;repeat' (first
   |(apply aj ?_;clear hK K)|apply Rx.o ?_|apply ai ?_|(apply ah fun K hK=>?_)|apply aq ?_|apply am ?_|apply au ?_|apply aw ?_)
  refine⟨ac,bm,bm,cN,(by simp only[aM,Nat.reduceBEq, *];exact gp (n:=8) ac ac),?_⟩;exact⟨v5,eE,by rw[SG,<-lD];exact s5,o5'⟩
 .have Z:¬(i:Int)<8:=by omega
  repeat' (first
   |(apply aj ?_;clear hK K)|apply Ry.o ?_|(apply aY (fun C L=>?_) (fun C L=>?_)<;>try(cases C;done))|apply ai ?_|(apply ah fun K hK=>?_)|apply aq ?_|apply am ?_|apply au ?_|apply aw ?_)
  all_goals refine qq ?_
  have hie:i=8:=ac;rw[hie]at I;exact⟨I,ac,z⟩
def gX.len'{v:AV}{l:qp}(h:gX H v l lo)(H':Hp):gh prog H' 22 v=some (.int .i64 l.length):=by
 rcases h with⟨rfl,rfl⟩|h
 .exact Bg underlying22
 .exact h.len
def TF{kv:AV}{o:qp}(op imm:Int)(z:gX H kv o lo)(hS:∀k,bL kv k->S k):bW S 2 H [.int .i64 op,.int .i64 imm,kv] (Nd.mk op imm o).cells:=by
 refine .cons (.int _ _) (.cons (.int _ _) (.cons ?_ .nil));rcases z with⟨rfl,rfl⟩|⟨r,i,rfl,m,I,Z,W⟩
 .exact .aa
 .exact Ru o (hS r ⟨_,rfl⟩) W m I
def TG{kv:AV}{l:qp}(h:gX H kv l lo)(a b:Int):dF prog 35 [(0,.int .i64 a),(1,.int .i64 b),(2,kv)]=some (.agg [.int .i64 a,.int .i64 b,kv]):=by
 rcases h with⟨rfl,rfl⟩|⟨r,i,rfl,_⟩<;>kernel_rfl
theorem gX.one{H:Hp}{kv:AV}{l:qp}{lo:Nat}(h:gX H kv l lo):AV.one kv=true:=by
 rcases h with⟨rfl,rfl⟩|⟨r,i,rfl,_⟩<;>rfl
def zg:n1 prog 3=some (.int .i64 0):=aF
def oT:jS prog 9=some .string:=aF
def uh(X:Lx)(S:Nat->Prop)(vv kv:AV)(H:Hp)(n:Nd)(s:Bd)(v:AV)(H':Hp):Prop:=v=.int .i64 (ay n s).1/\∃U V,zab X H' U (ay n s).2 V vv/\H.next<=H'.next/\(∀k,k<H.next->k≠X.b->k≠X.rt->¬S k->H'.get k=H.get k)/\∀k,U k->S k\/bL kv k\/H.next<=k
set_option maxRecDepth 100000 in
theorem wa(hG:zaf tb){X:Lx}{s:Bd}{lv vv kv:AV}(hR:zab X H S s lv vv)(n:Nd)(z:gX H kv n.aj 0)(C:∀k,bL kv k->X.b<k/\¬S k/\¬bL vv k)(hr:∀x∈iz s.l n,NdR x)(hlen:s.l.length<2^36):
 aX prog (aK pls tb) 60 [.ptr X.b 0,.int .i64 n.op,.int .i64 n.aY,kv] H (uh X S vv kv H n s):=by
 have hw:zaa (aK pls tb) 60:=hG.plain cC;have hap:zaa (aK pls tb) 103:=hG.plain cC;have hkeep:(aK pls tb).keep 60=false:=rfl;have hn:NdR n:=hr n (zf.2 (.inr rfl));have hnl:=hn.len;have o1:=hR.o1;have o2:=hR.o2;have o3:=hR.o3;have o4:=hR.o4;have o5:=hR.o5;have hkn:=z.len';refine bA (M:=69) (rs:=[.tmp 8]) (hw.call _) hw.aF hw.ak func60 rfl rfl Iv.2 rfl ?_;dsimp only[Iv,bt,Nat.reduceAdd];repeat' (first
  |(apply aj ?_;clear hK K)|apply Rx.o ?_|apply ai ?_|(apply ah fun K hK=>?_)|(apply ak 7 [(3,12),(5,12),(6,12)] fun K hK=>?_)|(apply ci 10 fun K hK=>?_)|(apply aV ?_;try intro _)|(apply aW ?_ ?_<;>clear hK K)|apply aU ?_|apply aq ?_|apply am ?_|apply au ?_|apply aw ?_)
 refine qc ?_;refine aL ?_ (Iw hap rfl (b:=[IntKind.wrap .u8 n.op]) (lo:=H.next) ⟨H.next,0,rfl,fx,db _,az _,by simp[bj]⟩ aE _);rintro w H1 ⟨hw1,dW,q1⟩;have n1':H.next<=H1.next:=by simp only[bj]at dW;omega
 have q1':∀k,k<H.next->H1.get k=H.get k:=fun k z=>by rw[q1 k z,aJ,ao ac]
 clear dW q1;dsimp only[aI];repeat' (first
  |(apply aj ?_;clear hK K)|apply Rx.o ?_|apply ai ?_|(apply ah fun K hK=>?_)|(apply ak 7 [(3,12),(5,12),(6,12)] fun K hK=>?_)|(apply ci 10 fun K hK=>?_)|(apply aV ?_;try intro _)|(apply aW ?_ ?_<;>clear hK K)|apply aU ?_|apply aq ?_|apply am ?_|apply au ?_|apply aw ?_)
 refine dz [0,1,2,3,8,20,21] [] 22 n.aj.length (fun j E Z=>∃w,E.at 9=w/\ju Z w ([IntKind.wrap .u8 n.op]++gE (IntKind.wrap .u64 n.aY) 8++(n.aj.take j).flatMap fun k=>gE (IntKind.wrap .u64 k) 8) H.next/\Sm H.next H Z) eE ⟨w,eE,by simpa using hw1,⟨q1'⟩⟩ ?_;rintro j E Z hj hcE hrH hnH hsI ⟨w2,k9,hw2,Y⟩;(try simp only[bN,bO,bu,aM,a0,Nat.reduceBEq,Nat.reduceAdd,Nat.reduceLeDiff,tyF, *]at hcE);(try simp only[bN,bO,bu,aM,a0,Nat.reduceBEq,Nat.reduceAdd,Nat.reduceLeDiff,tyF, *]at hrH);(try simp only[bj,bJ,cL,bX,Nat.reduceAdd]at hnH);have n2':H.next<=Z.next:=ac
 by_cases hlt:j<n.aj.length
 .have hlt':(j:Int)<n.aj.length:=by omega
  have htk:n.aj.take (j+1)=n.aj.take j++[n.aj[j]]:=by rw[kD,bc hlt];rfl
  have hfl:((n.aj.take j).flatMap fun k=>gE (IntKind.wrap .u64 k) 8).length<=8*j:=by
   rw[List.length_flatMap];simp only[oN];have:((n.aj.take j).map fun _=>8).sum=8*(n.aj.take j).length:=by
    generalize n.aj.take j=q;induction q with
    |nil=>rfl
    |cons a q ih=>simp[ih];omega
   rw[this,iD];omega
  have hkb:gC Z kv n.aj 0:=by
   rcases z with⟨_,O⟩|O
   .rw[O]at hlt;simp at hlt
   .exact O.keep ac fun k z=>Y.get k (O.lt z).2
  obtain⟨r,hix,hld⟩:=hkb.at hlt;generalize n.aj[j]=kd at *;repeat' (first
   |(apply aj ?_;clear hK K)|apply Ry.o ?_|apply bq ?_|(apply aY (fun hb I=>?_) (fun hb I=>?_)<;>try(cases hb;done))|apply ai ?_|(apply ah fun K hK=>?_)|(apply ak 7 [(3,12),(5,12),(6,12)] fun K hK=>?_)|(apply ci 10 fun K hK=>?_)|(apply aV ?_;try intro _)|(apply aW ?_ ?_<;>clear hK K)|apply aU ?_|apply aq ?_|apply am ?_|apply au ?_|apply aw ?_)
  refine qc ?_;refine aL ?_ (Iw hap rfl hw2 (by rw[em,em,oN,List.length_singleton];omega) _);rintro w3 H3 ⟨hw3,n3,q3⟩;dsimp only[aI];repeat' (first
   |(apply aj ?_;clear hK K)|apply Rx.o ?_|apply ai ?_|(apply ah fun K hK=>?_)|(apply ak 7 [(3,12),(5,12),(6,12)] fun K hK=>?_)|(apply ci 10 fun K hK=>?_)|(apply aV ?_;try intro _)|(apply aW ?_ ?_<;>clear hK K)|apply aU ?_|apply aq ?_|apply am ?_|apply au ?_|apply aw ?_)
  refine⟨ac,bm,bm,cN,(by simp only[aM,Nat.reduceBEq, *];exact gp (n:=n.aj.length) ac ac),?_⟩;exact⟨w3,eE,by rw[htk,List.flatMap_append,rX,HX,ij,<-lD];exact hw3,⟨fun k z=>by rw[q3 k z];exact Y.get k z⟩⟩
 .have hlt':¬(j:Int)<n.aj.length:=by omega
  have hje:n.aj.take j=n.aj:=fk ac;rw[hje,<-SO]at hw2;have hcv:=SP hw2;have U:zab X Z S s lv vv:=hR.keep n2' fun k z _=>Y.get k z;have m2:=U.m;unfold bC at m2;have hlk:=HI (P:=prog) (t:=83) underlying83 oT zg U.t (jw n);obtain⟨f1,f2,f3⟩:=It hn s.l 0 (fun x hx=>hr x (zf.2 (.inl hx)));clear hje hw1 q1';have hcv':fB prog Z 38 9 w2=some (.ag (jw n)):=hcv;clear hcv;by_cases L:fg s.l n<s.l.length
  .rw[p7 L]at f1;have f2:=f2 L;rw[f1,f2]at hlk;repeat' (first
    |(apply aj ?_;clear hK K)|apply Ry.o ?_|apply bq ?_|(apply aY (fun hb I=>?_) (fun hb I=>?_)<;>try(cases hb;done))|apply ai ?_|(apply ah fun K hK=>?_)|(apply ak 7 [(3,12),(5,12),(6,12)] fun K hK=>?_)|(apply ci 10 fun K hK=>?_)|(apply aV ?_;try intro _)|(apply aW ?_ ?_<;>clear hK K)|apply aU ?_|apply aq ?_|apply am ?_|apply au ?_|apply aw ?_)
   all_goals first
    |exact cG
    |skip
   all_goals refine qq ?_
   have e1:ay n s=(((fg s.l n:Nat):Int),s):=by rw[ay,iz,aB L]
   rw[uh,e1];exact⟨aE,S,lv,U,n2',fun k V _ _ _=>Y.get k V,fun k z=>.inl z⟩
  .rw[p9 L]at f1;have f3:=f3 L;have hix:fg s.l n=s.l.length:=by have:=CF s.l n;omega
   have hadd:iz s.l n=s.l++[n]:=by rw[iz,ao L]
   rw[f1]at hlk;have hll:∀H',gh prog H' 30 lv=some (.int .i64 s.l.length):=fun H'=>by
    have:=U.aP.len (P:=prog) (t:=30) (H':=H') underlying30
    rwa [dh]at this
   have hup:kz prog Z 83 (.map X.rt) (.ag (jw n)) (.int .i64 s.l.length)=some (Z.set X.rt (.map (cu (atV (s.l++[n]) 0)))):=by
    rw[(Ck (P:=prog) (t:=83) (nm:=jw n) underlying83 oT U.t).1 ((Cm (jw n) (atV s.l 0) 0).1 f1).1,<-TC];simp[cu]
   have hbn:=TG z n.op n.aY;have hone:=z.one;have hbs:∀H,ec prog H 30 1 [(0,.agg [.int .i64 n.op,.int .i64 n.aY,kv])]=some (.sl H.next 0 1 3,H.alloc (.cells [.int .i64 n.op,.int .i64 n.aY,kv] 0 true)):=fun H=>TE H rfl HR;have g3:∀k,k≠X.rt->(Z.set X.rt (.map (cu (atV (s.l++[n]) 0)))).get k=Z.get k:=fun k z=>jV;have g4:∀k,k≠X.rt->k<Z.next->((Z.set X.rt (.map (cu (atV (s.l++[n]) 0)))).alloc (.cells [.int .i64 n.op,.int .i64 n.aY,kv] 0 true)).get k=Z.get k:=fun k z hl=>by rw[aJ,ao jt,g3 k z]
   have m3:(Z.set X.rt (.map (cu (atV (s.l++[n]) 0)))).get X.b=some (.cells (bC X s lv vv) 0 true):=by rw[g3 _ ac];exact U.m
   have m4:((Z.set X.rt (.map (cu (atV (s.l++[n]) 0)))).alloc (.cells [.int .i64 n.op,.int .i64 n.aY,kv] 0 true)).get X.b=some (.cells (bC X s lv vv) 0 true):=by rw[g4 _ ac ac];exact U.m
   have g4n:((Z.set X.rt (.map (cu (atV (s.l++[n]) 0)))).alloc (.cells [.int .i64 n.op,.int .i64 n.aY,kv] 0 true)).get Z.next=some (.cells [.int .i64 n.op,.int .i64 n.aY,kv] 0 true):=Cy
   have hkS:∀k,bL kv k->k<H.next:=fun k W=>(z.lt W).2
   obtain⟨H5,a5,s5,n5,q5⟩:=BU (P:=prog) (t:=30) underlying30 Bv EW EX rfl aF (S':=fun k=>S k\/bL kv k\/k=Z.next+1)
    (U.aP.keep (S':=S) (H':=(Z.set X.rt (.map (cu (atV (s.l++[n]) 0)))).alloc (.cells [.int .i64 n.op,.int .i64 n.aY,kv] 0 true)) (fun _ _ h=>h) (dB _) fun k z h6=>g4 k (by have:=(U.sS k z).1;omega) h6)
    (fun k _ h=>.inl h) (.inr (.inr rfl)) (r:=Z.next) (imm:=0) (row:=[.int .i64 n.op,.int .i64 n.aY,kv]) (w:=n.cells) g4n rfl HR
    (TF n.op n.aY (lo:=0) (z.keep jO fun k W=>by rw[g4 k (by have:=(C k W).1;omega) (by have:=hkS k W;omega)];exact Y.get k (hkS k W)) fun k W=>⟨.inr (.inl W),fun o m z' e=>(C k W).2.1 (by
      rcases U.aP with⟨V,_⟩|⟨q,im,rows,V,O,_⟩
      .rw[V]at e;cases e
      .rw[V]at e;simp only[AV.sl.injEq]at e;rw[<-e.1];exact O)⟩)
    tJ tJ
   rw[dh]at a5 s5;simp only[bj,bJ]at a5 s5 n5 q5;have hno:∀k,(¬S k)->∀o m z',lv≠.sl k o m z':=fun k z o m z' e=>z (by
    rcases U.aP with⟨V,_⟩|⟨q,im,rows,V,O,_⟩
    .rw[V]at e;cases e
    .rw[V]at e;simp only[AV.sl.injEq]at e;rw[<-e.1];exact O)
   have m5:H5.get X.b=some (.cells (bC X s lv vv) 0 true):=by rw[q5 _ ac (hno _ fun e=>vX)];exact m4
   have J:∀k,k<Z.next->k≠X.rt->¬S k->H5.get k=Z.get k:=fun k V O h3=>by rw[q5 _ ac (hno _ h3)];exact g4 k O V
   have t5:H5.get X.rt=some (.map (cu (atV (s.l++[n]) 0))):=by rw[q5 _ ac (hno _ fun e=>vX),aJ,ao jt,bi,aB rfl]
   have hpo:ay n s=(((fg s.l n:Nat):Int),{s with l:=s.l++[n] }):=by rw[ay,hadd]
   have fin:uh X S vv kv H n s (.int .i64 s.l.length) (H5.set X.b (.cells (bC X {s with l:=s.l++[n] } (.sl (Z.next+1) 0 (s.l.length+1) 3) vv) 0 true)):=by
    rw[uh,hpo,hix];have g6:∀k,k≠X.b->(H5.set X.b (.cells (bC X {s with l:=s.l++[n] } (.sl (Z.next+1) 0 (s.l.length+1) 3) vv) 0 true)).get k=H5.get k:=fun k z=>jV;refine⟨rfl,fun k=>S k\/bL kv k\/k=Z.next+1,_,⟨eT,?_,?_,?_,?_,?_,?_,o1,o2,o3,o4,?_,?_,?_⟩,?_,?_,?_⟩
    .rw[g6 _ ac,J _ ac ac fun e=>vX];exact U.a
    .rw[g6 _ ac,J _ ac ac fun e=>vX];exact U.f
    .rw[g6 _ ac];exact t5
    .rw[g6 _ ac,J _ ac ac fun e=>vX];exact U.n
    .have e:(s.l++[n]).map Nd.cells=s.l.map Nd.cells++[n.cells]:=by simp
     rw[e];refine s5.keep (fun _ _ h=>h) (az _) fun k z _=>g6 k ?_;rcases z with z|z|z
     .have:=(U.sS _ z).1;omega
     .have:=(C _ z).1;omega
     .omega
    .exact U.vars.keep jt fun k z=>by rw[g6 k (by have:=(U.vS k z).1;omega),J k (U.vS k z).2 (by have:=(U.vS k z).1;omega) fun e=>(U.sS k e).2.2 z]
    .simp only[bJ];omega
    .rintro k (z|z|z)
     .have:=U.sS k z;exact⟨this.1,jt,this.2.2⟩
     .have:=C k z;have O:=hkS k z;exact⟨this.1,jt,this.2.2⟩
     .refine⟨ac,jt,fun e=>?_⟩;have:=(U.vS k e).2;omega
    .intro k z;have:=U.vS k z;simp only[bJ];omega
    .simp only[bJ];omega
    .intro k V O h3 h4;rw[g6 k O,J k ac h3 h4];exact Y.get k V
    .rintro k (z|z|z)
     .exact .inl z
     .exact .inr (.inl z)
     .exact .inr (.inr ac)
   unfold bC at m3 m4 m5 fin;clear s5 J t5 g3 g4 q5 hkS;repeat' (first
    |(apply aj ?_;clear hK K)|apply Ry.o ?_|apply bq ?_|(apply aY (fun hb I=>?_) (fun hb I=>?_)<;>try(cases hb;done))|apply ai ?_|(apply ah fun K hK=>?_)|(apply ak 7 [(3,12),(5,12),(6,12)] fun K hK=>?_)|(apply ci 10 fun K hK=>?_)|(apply aV ?_;try intro _)|(apply aW ?_ ?_<;>clear hK K)|apply aU ?_|apply aq ?_|apply am ?_|apply au ?_|apply aw ?_)
   all_goals first
    |exact cG
    |skip
   all_goals refine qq ?_
   exact fin
end
variable{X:Lx}{s a b:Bd}{c:Cx}
section
structure cV (a b:Bd):Prop where
 l:a.l<+:b.l
 n:a.loops<=b.loops
def cV.refl(a:Bd):cV a a:=⟨vZ _,az _⟩
def mc:=@cV.refl
def cV.trans{c:Bd}(h:cV a b)(k:cV b c):cV a c:=⟨h.l.trans k.l,dq h.n k.n⟩
def zh:=@cV.trans
structure Fin (s:Bd):Prop where
 r:∀x∈s.l,NdR x
 l:s.l.length<2^36
 n:s.loops<2^36
def Fin.le(h:Fin b)(k:cV a b):Fin a:=⟨fun x O=>h.r x (k.l.subset O),ue k.l.length_le h.l,ue k.n h.n⟩
structure Lv (a b:Bd):Prop where
 le:cV a b
 v:b.vars=a.vars
 n:b.loops=a.loops
def Lv.refl(a:Bd):Lv a a:=⟨mc a,rfl,rfl⟩
def Lv.trans{c:Bd}(h:Lv a b)(k:Lv b c):Lv a c:=⟨h.le.trans k.le,k.v.trans h.v,k.n.trans h.n⟩
def Lv.setS(h:Lv a b)(x:Int):Lv a {b with ab:=x}:=⟨⟨h.le.l,h.le.n⟩,h.v,h.n⟩
def cV.setS(h:cV a b)(x:Int):cV a {b with ab:=x}:=⟨h.l,h.n⟩
def cV.setV(h:cV a b)(x:qp):cV a {b with vars:=x}:=⟨h.l,h.n⟩
def cR(n:Nd)(s:Bd):Lv s (ay n s).2:=⟨⟨ug s.l n,az _⟩,rfl,rfl⟩
def eQ(c a b:Int)(s:Bd):Lv s (bM c a b s).2:=by
 unfold bM;split
 .exact Lv.refl s
 .exact cR _ s
def rm(t v:Int)(s:Bd):Lv s (nS t v s):=(cR _ s).setS _
def sR(t v:Int)(s:Bd):Lv s (fK t v s):=(cR _ s).trans ((cR _ _).trans (rm _ _ _))
def CH(v:Int)(s:Bd):Lv s (oR v s):=(cR _ s).trans ((cR _ _).trans (rm _ _ _))
theorem dm(c:Cx):∀(n:Nat) (x:Ex) (s:Bd) (r:Int×Bd),dE c n x s=some r->Lv s r.2
 |0,_,_,_,h=>by simp[dE]at h
 |n+1,x,s,r,h=>by
  have z:=dm c n;unfold dE at h;split at h
  .cases h;exact cR _ s
  split at h
  .obtain⟨v,_,rfl⟩:=eI.1 h;exact Lv.refl s
  split at h
  .simp only[iy]at h;obtain⟨k,_,W,o,a,_,rfl⟩:=h;exact(z _ _ _ o).trans ((sR _ _ _).trans (cR _ _))
  split at h
  .simp only[iy]at h;obtain⟨dL,_,bG,Z,M,_,W,o,Y,_,V,m,rfl⟩:=h;have a:=(z _ _ _ Z).trans (z _ _ _ o);have b:=(a.setS bG.2.ab).trans (z _ _ _ m);exact(b.trans ((eQ _ _ _ _).trans (eQ _ _ _ _))).setS _
  .simp only[bT]at h;obtain⟨dL,_,bG,Z,h⟩:=h;have a:=z _ _ _ Z;split at h
   .cases h;exact a.trans (cR _ _)
   .simp only[iy]at h;obtain⟨M,_,W,o,rfl⟩:=h;have b:=a.trans (z _ _ _ o);refine Lv.trans ?_ (cR _ _);split
    .exact b.trans (CH _ _)
    .exact b
theorem sT(c:Cx)(n:Nat):∀(l:qC) (s:Bd) (r:qp×Bd),nT c n l s=some r->Lv s r.2/\r.1.length=l.length
 |[],s,r,h=>by cases h;exact⟨Lv.refl s,rfl⟩
 |x::l,s,r,h=>by
  unfold nT at h;simp only[iy]at h;obtain⟨W,o,Y,m,rfl⟩:=h;obtain⟨a,b⟩:=sT c n l _ _ m;exact⟨(dm c n _ _ _ o).trans a,by simp[b]⟩
theorem ui(c:Int)(a:qp):∀(k i:Nat) (s r:Bd),l7 c a k i s=some r->cV s r/\r.ab=s.ab/\r.vars.length=s.vars.length/\r.loops=s.loops
 |0,i,s,r,h=>by cases h;exact⟨mc s,rfl,rfl,rfl⟩
 |k+1,i,s,r,h=>by
  unfold l7 at h;simp only[bT]at h;obtain⟨x,_,y,_,h⟩:=h;have e:=ui c a k (i+1) _ _ h;have m:=eQ c x y s;have U:(bM c x y s).2.ab=s.ab:=by unfold bM;split<;>rfl
  refine⟨(m.le.setV _).trans e.1,e.2.1.trans U,?_,e.2.2.2.trans m.n⟩;rw[e.2.2.1,jv,m.v]
theorem ro(base:Int):∀(m:qu) (j:Nat) (s:Bd),cV s (gY base m j s)/\(gY base m j s).ab=s.ab/\(gY base m j s).vars.length=s.vars.length/\(gY base m j s).loops=s.loops
 |[],j,s=>⟨mc s,rfl,rfl,rfl⟩
 |w::m,j,s=>by
  unfold gY;have e:=ro base m (j+1) { (ay ⟨3,base+j,[]⟩ s).2 with vars:=(ay ⟨3,base+j,[]⟩ s).2.vars.set w (ay ⟨3,base+j,[]⟩ s).1};refine⟨((cR _ s).le.setV _).trans e.1,e.2.1,?_,e.2.2.2⟩;rw[e.2.2.1,jv];rfl
theorem sU(lp c:Int)(old:qp):∀(Z:qu) (j:Nat) (s:Bd),cV s (fL lp c old Z j s)/\(fL lp c old Z j s).ab=s.ab/\(fL lp c old Z j s).vars.length=s.vars.length/\(fL lp c old Z j s).loops=s.loops
 |[],j,s=>⟨mc s,rfl,rfl,rfl⟩
 |w::Z,j,s=>by
  unfold fL;simp only[];have m:=(cR ⟨25,j,[lp]⟩ s).trans (eQ c (ay ⟨25,j,[lp]⟩ s).1 (old.getD w 0) (ay ⟨25,j,[lp]⟩ s).2);have U:(bM c (ay ⟨25,j,[lp]⟩ s).1 (old.getD w 0) (ay ⟨25,j,[lp]⟩ s).2).2.ab=s.ab:=by unfold bM;split<;>rfl
  generalize bM c (ay ⟨25,j,[lp]⟩ s).1 (old.getD w 0) (ay ⟨25,j,[lp]⟩ s).2=q at *;have e:=sU lp c old Z (j+1) {q.2 with vars:=q.2.vars.set w q.1};refine⟨(m.le.setV _).trans e.1,e.2.1.trans U,?_,e.2.2.2.trans m.n⟩;rw[e.2.2.1,jv,m.v]
theorem md(c:Cx):∀n:Nat,(∀x s r,l8 c n x s=some r->cV s r/\r.vars.length=s.vars.length)/\(∀l s r,eD c n l s=some r->cV s r/\r.vars.length=s.vars.length)/\(∀x s r,mR c n x s=some r->cV s r/\r.vars.length=s.vars.length)
 |0=>⟨fun _ _ _ h=>by simp[l8]at h,fun _ _ _ h=>by simp[eD]at h,fun _ _ _ h=>by simp[mR]at h⟩
 |n+1=>by
  obtain⟨L,I,J⟩:=md c n;refine⟨fun x s r h=>?_,fun l s r h=>?_,fun x s r h=>?_⟩
  .unfold l8 at h;split at h
   .simp only[bT]at h;obtain⟨v,o,h⟩:=h;split at h
    .cases h;have a:=dm c n _ _ _ o;exact⟨a.le.setV _,by rw[jv,a.v]⟩
    .cases h
   split at h
   .simp only[iy]at h;obtain⟨i,o,v,Z,a,_,rfl⟩:=h;have a:=(dm c n _ _ _ o).trans ((dm c n _ _ _ Z).trans ((sR a.len i.1 v.2).trans (cR ⟨28,ce (c.af.map (·.name)) x.name,[(fK a.len i.1 v.2).ab,i.1,v.1]⟩ _)));exact⟨a.le.setS _,by show List.length (Bd.vars _)=_;rw[a.v]⟩
   split at h
   .simp only[iy]at h;obtain⟨q,o,a,Z,b,W,m,h4,rfl⟩:=h;have M:=dm c n _ _ _ o;have U:=I _ _ _ Z;have Y:=I _ _ _ W;have C:=ui _ _ _ _ _ _ h4;have z:=eQ q.1 a.ab m.ab m;have k:cV a b:=⟨Y.1.l,Y.1.n⟩;refine⟨(M.le.trans (U.1.trans (k.trans (C.1.trans z.le)))).setS _,?_⟩;show(bM q.1 a.ab m.ab m).2.vars.length=_;rw[z.v,C.2.2.1,Y.2];show q.2.vars.length=_;rw[M.v]
   split at h
   .exact J _ _ _ h
   split at h
   .simp only[iy]at h;obtain⟨v,o,rfl⟩:=h;have a:=(dm c n _ _ _ o).trans (cR ⟨29,0,[v.2.ab,v.1]⟩ v.2);exact⟨a.le.setS _,by show List.length (Bd.vars _)=_;rw[a.v]⟩
   split at h
   .simp only[bT]at h;obtain⟨V,o,h⟩:=h;split at h
    .cases h;have a:=(sT c n _ _ _ o).1;have b:=a.le.trans (cR ⟨30,dl c.funcs x.to 0,V.2.ab::V.1⟩ V.2).le;refine⟨cV.setV (zh (b.setS _) (cR _ _).le) _,?_⟩;rw[jv];exact jY List.length a.v
    .cases h
   split at h
   .cases h;have a:=(cR ⟨1,0,[]⟩ s).trans (rm (er (16+x.n)) (ay ⟨1,0,[]⟩ s).1 _);exact⟨a.le,by rw[a.v]⟩
   .cases h;exact⟨mc s,rfl⟩
  .unfold eD at h;cases l with
   |nil=>cases h;exact⟨mc s,rfl⟩
   |cons x l=>
    simp only[bT]at h;obtain⟨q,o,Z⟩:=h;have a:=L _ _ _ o;have b:=I _ _ _ Z;exact⟨a.1.trans b.1,b.2.trans a.2⟩
  .unfold mR at h;simp only[iy]at h;obtain⟨q,o,b,_,t,Z,d,W,rfl⟩:=h;have M:=dm c n _ _ _ o;have O:cV s q.2:=⟨M.le.l,dq (dB _) M.le.n⟩;have p:=cR ⟨3,16*(s.loops:Int),[]⟩ q.2;have U:=ro (16*(s.loops:Int)+1) (dT b) 0 { (ay ⟨3,16*(s.loops:Int),[]⟩ q.2).2 with ab:=(ay ⟨3,16*(s.loops:Int),[]⟩ q.2).1};have Y:=I _ _ _ Z;have C:=dm c n _ _ _ W;have a1:cV s d.2:=O.trans ((p.le.setS _).trans (U.1.trans (Y.1.trans C.le)));refine⟨?_,?_⟩
   .refine zh ?_ (sU _ _ _ _ _ _).1;refine cV.setS ?_ _;refine zh (zh ?_ (cR _ _).le) (eQ _ _ _ _).le;refine cV.setV ?_ _;exact a1.trans (cR _ _).le
   .rw[(sU _ _ _ _ _ _).2.2.1];show(bM _ _ _ _).2.vars.length=_;rw[(eQ _ _ _ _).v];show q.2.vars.length=_;rw[M.v]
def tyLoC.tyF:=ad @cJ (ad @cM (ad @jH (ad @kQ (ad @lT (ad @kR (ad @fW (ad @pJ (ad @kT (@mH)))))))))
open tyLoC
noncomputable def Ix:{c:SC // aG 8 (f61.body.getD .skip)=c}:=by
 refine⟨?_,?_⟩;rotate_left
 .simp only[f61,bK,aG,bF,bw,bH,bI,Nat.blt,Nat.ble];rfl
noncomputable def Iy:{c:SC // aG 18 (f107.body.getD .skip)=c}:=by
 refine⟨?_,?_⟩;rotate_left
 .simp only[f107,bK,aG,bF,bw,bH,bI,Nat.blt,Nat.ble];rfl
noncomputable def zi:{c:SC // aG 19 (f134.body.getD .skip)=c}:=by
 refine⟨?_,?_⟩;rotate_left
 .simp only[f134,bK,aG,bF,bw,bH,bI,Nat.blt,Nat.ble];rfl
noncomputable def Iz:{c:SC // aG 25 (f105.body.getD .skip)=c}:=by
 refine⟨?_,?_⟩;rotate_left
 .simp only[f105,bK,aG,bF,bw,bH,bI,Nat.blt,Nat.ble];rfl
def mS(X:Lx)(S:Nat->Prop)(vv:AV)(H:Hp)(r:Int×Bd)(v:AV)(H':Hp):Prop:=v=.int .i64 r.1/\∃U V,zab X H' U r.2 V vv/\FrL X S vv H U vv H'
def kZ(X:Lx)(S:Nat->Prop)(vv:AV)(H:Hp)(r:Bd)(v:AV)(H':Hp):Prop:=∃U V I,zab X H' U r V I/\FrL X S vv H U I H'
def IA(X:Lx)(S:Nat->Prop)(vv:AV)(H:Hp)(r:Bd)(v:AV)(H':Hp):Prop:=∃U V,zab X H' U r V vv/\FrL X S vv H U vv H'
def uh.val{vv kv:AV}{n:Nd}{v:AV}(h:uh X S vv kv Y n s v H')(o:FrL X S vv H S vv Y)(z:∀k,bL kv k->H.next<=k):mS X S vv H (ay n s) v H':=by
 obtain⟨Z,U,V,m,I,W,O⟩:=h;refine⟨Z,U,V,m,dq o.next I,fun k a b c d e=>?_,fun k a=>?_,fun k a=>.inl a⟩
 .rw[W k (jW a o.next) b c d];exact o.get k a b c d e
 .rcases O k a with a|a|a
  .exact .inl a
  .exact .inr (z k a)
  .exact .inr (dq o.next a)
def uj{r o n z:Nat}(h:bL (.sl r o n z) k):k=r:=by
 obtain⟨m,e⟩:=h;simp only[AV.sl.injEq]at e;exact e.1.symm
def wb(h:bL .aa k):False:=by
 obtain⟨m,e⟩:=h;cases e
def me(U:zaf tb){vv:AV}(C:zab X Y S s O vv)(M:FrL X S vv H S vv Y)(n:Nd){r m:Nat}(L:n.aj.length=m)(J:Y.get r=some (.cells (n.aj.map (.int .i64)) 0 true))(hr:H.next<=r)(o:r<Y.next)(I:X.b<r)(hS:¬S r)(hv:¬bL vv r)(W:Fin (ay n s).2){op imm:Int}(V:n.op=op)(Z:n.aY=imm):
 aX prog (aK pls tb) 60 [.ptr X.b 0,.int .i64 op,.int .i64 imm,.sl r 0 m 1] Y (mS X S vv H (ay n s)):=by
 subst L;subst V;subst Z;refine aL ?_ (wa U C n (.inr ⟨r,0,rfl,J,db _,db _,o⟩) (fun k z=>?_) W.r (ue (ug s.l n).length_le W.l))
 .intro v H' h;exact h.val M fun k z=>by rw[uj z];exact hr
 .rw[uj z];exact⟨I,hS,hv⟩
def wc(U:zaf tb){vv:AV}(C:zab X Y S s O vv)(o:FrL X S vv H S vv Y)(op imm:Int)(V:Fin (ay ⟨op,imm,[]⟩ s).2):
 aX prog (aK pls tb) 60 [.ptr X.b 0,.int .i64 op,.int .i64 imm,.aa] Y (mS X S vv H (ay ⟨op,imm,[]⟩ s)):=by
 refine aL ?_ (wa U C ⟨op,imm,[]⟩ (.inl ⟨rfl,rfl⟩) (fun k z=>(wb z).elim) V.r (ue (ug s.l _).length_le V.l));intro v H' h;exact h.val o fun k z=>(wb z).elim
def zab.new{vv:AV}(h:zab X H S s O vv){r:Nat}(hr:H.next<=r):¬S r/\¬bL vv r/\X.b<r:=⟨fun e=>by have:=(h.sS r e).2.1;omega,fun e=>by have:=(h.vS r e).2;omega,by have:=h.o5;omega⟩
def mS.da{vv:AV}{bE:Hp}{r:Int×Bd}{v:AV}(h:mS X S vv H r v H')(o:FrL X C vv bE S vv H):mS X C vv bE r v H':=by
 obtain⟨Z,U,V,m,I⟩:=h;exact⟨Z,U,V,m,o.trans I⟩
def uk(U:zaf tb){vv:AV}(C:zab X Y S s O vv)(o:FrL X S vv H S vv Y)(n:Int)(Z:Fin (ay ⟨1,n,[]⟩ s).2):
 aX prog (aK pls tb) 61 [.ptr X.b 0,.int .i64 n] Y (mS X S vv H (ay ⟨1,n,[]⟩ s)):=by
 have V:zaa (aK pls tb) 61:=U.plain cC;refine bA (M:=8) (rs:=[.tmp 4]) (V.call _) V.aF V.ak func61 rfl rfl Ix.2 rfl ?_;dsimp only[Ix,bt,Nat.reduceAdd];repeat' (first
  |(apply aj ?_;clear hK K)|apply Rx.o ?_|apply ai ?_|(apply ah fun K hK=>?_)|apply au ?_)
 refine qc ?_;refine aL ?_ (wc U C o 1 n Z);rintro v W m;obtain⟨rfl,I⟩:=id m;dsimp only[aI];repeat' (first
  |(apply aj ?_;clear hK K)|apply Rx.o ?_|apply ai ?_|(apply ah fun K hK=>?_)|apply au ?_)
 all_goals refine qq ?_
 exact m
def wd(H:Hp)(a b:Int):ec prog H 22 2 [(0,.int .i64 a),(1,.int .i64 b)]=some (.sl H.next 0 2 1,H.alloc (.cells [.int .i64 a,.int .i64 b] 0 true)):=aF
def IB(H:Hp)(a b c:Int):ec prog H 22 3 [(0,.int .i64 a),(1,.int .i64 b),(2,.int .i64 c)]=some (.sl H.next 0 3 1,H.alloc (.cells [.int .i64 a,.int .i64 b,.int .i64 c] 0 true)):=aF
def zj(H:Hp)(a:Int):ec prog H 22 1 [(0,.int .i64 a)]=some (.sl H.next 0 1 1,H.alloc (.cells [.int .i64 a] 0 true)):=aF
def zk(U:zaf tb){vv:AV}(C:zab X Y S s O vv)(o:FrL X S vv H S vv Y)(t v:Int)(W:Fin (nS t v s)):
 aX prog (aK pls tb) 107 [.ptr X.b 0,.int .i64 t,.int .i64 v] Y (IA X S vv H (nS t v s)):=by
 have V:zaa (aK pls tb) 107:=U.plain cC;have cz:=C.m;unfold bC at cz;refine bA (M:=18) (rs:=[]) (V.call _) V.aF V.ak func107 rfl rfl Iy.2 rfl ?_;dsimp only[Iy,bt,Nat.reduceAdd];have m:=@wd;repeat' (first
  |(apply aj ?_;clear hK K)|apply Rx.o ?_|apply aD ?_|(apply ah fun K hK=>?_))
 refine qc ?_;have z:=C.new (az _);refine aL ?_ (me U (C.alloc _) (o.alloc _) ⟨27,t,[s.ab,v]⟩ rfl fx o.next (ct _) z.2.2 z.1 z.2.1 (W.le ⟨vZ _,az _⟩) rfl rfl);rintro w H2 ⟨rfl,L,I,Z,J⟩;have m2:=Z.m;unfold bC at m2;dsimp only[aI];repeat' (first
  |(apply aj ?_;clear hK K)|apply Rx.o ?_|apply aD ?_|(apply ah fun K hK=>?_))
 all_goals refine qq ?_
 obtain⟨a,b⟩:=Z.setS (ay ⟨27,t,[s.ab,v]⟩ s).1;exact⟨L,I,a,J.trans b⟩
def ul(U:zaf tb){vv:AV}(Z:zab X Y S s O vv)(o:FrL X S vv H S vv Y)(c a b:Int)(W:Fin (bM c a b s).2):
 aX prog (aK pls tb) 134 [.ptr X.b 0,.int .i64 c,.int .i64 a,.int .i64 b] Y (mS X S vv H (bM c a b s)):=by
 have V:zaa (aK pls tb) 134:=U.plain cC;by_cases h:a=b
 .subst h;have e:bM c a a s=(a,s):=by rw[bM,aB rfl]
  rw[e];refine bA (M:=19) (rs:=[.tmp 8]) (V.call _) V.aF V.ak func134 rfl rfl zi.2 rfl ?_;dsimp only[zi,bt,Nat.reduceAdd];repeat' (first
   |(apply aj ?_;clear hK K)|apply Ry.o ?_|(apply aY (fun C L=>?_) (fun C L=>?_)<;>try(cases C;done))|apply ai ?_|(apply ah fun K hK=>?_)|apply am ?_|apply au ?_)
  all_goals refine qq ?_
  exact⟨rfl,S,O,Z,o⟩
 .have e:bM c a b s=ay ⟨22,0,[c,a,b]⟩ s:=by rw[bM,ao h]
  rw[e]at W⊢;have z:=Z.new (az _);refine bA (M:=19) (rs:=[.tmp 8]) (V.call _) V.aF V.ak func134 rfl rfl zi.2 rfl ?_;dsimp only[zi,bt,Nat.reduceAdd];have J:=@IB;repeat' (first
   |(apply aj ?_;clear hK K)|apply Ry.o ?_|(apply aY (fun C L=>?_) (fun C L=>?_)<;>try(cases C;done))|apply ai ?_|(apply ah fun K hK=>?_)|apply am ?_|apply au ?_)
  refine qc ?_;refine aL ?_ (me U (Z.alloc _) (o.alloc _) ⟨22,0,[c,a,b]⟩ rfl fx o.next (ct _) z.2.2 z.1 z.2.1 W rfl rfl);intro w I m;obtain⟨rfl,h3⟩:=id m;dsimp only[aI];repeat' (first
   |(apply aj ?_;clear hK K)|apply Rx.o ?_|apply ai ?_|(apply ah fun K hK=>?_)|apply am ?_|apply au ?_)
  all_goals refine qq ?_
  exact m
def IC(U:zaf tb){vv:AV}(C:zab X Y S s I vv)(o:FrL X S vv H S vv Y)(k:Nat)(i:Int){a:Ar}(ha:X.p.af[k]?=some a)(L:Fin (fK a.len i s)):
 aX prog (aK pls tb) 105 [.ptr X.b 0,.int .i64 (k:Int),.int .i64 i] Y (IA X S vv H (fK a.len i s)):=by
 have V:zaa (aK pls tb) 105:=U.plain cC;have cz:=C.m;unfold bC at cz;have Z:Fin (ay ⟨19,0,[i,(ay ⟨1,a.len,[]⟩ s).1]⟩ (ay ⟨1,a.len,[]⟩ s).2).2:=L.le (rm _ _ _).le;have O:Fin (ay ⟨1,a.len,[]⟩ s).2:=Z.le (cR _ _).le;refine bA (M:=25) (rs:=[]) (V.call _) V.aF V.ak func105 rfl rfl Iz.2 rfl ?_;dsimp only[Iz,bt,Nat.reduceAdd];repeat' (first
  |(apply aj ?_;clear hK K)|apply Rx.o ?_|apply ai ?_|(apply ah fun K hK=>?_))
 refine qc ?_;refine aL ?_ (uk U C o a.len O);rintro w H2 ⟨rfl,S2,m,J,F2⟩;dsimp only[aI];have z:=J.new (az _);have gh0:=@wd;repeat' (first
  |(apply aj ?_;clear hK K)|apply Rx.o ?_|apply ai ?_|(apply ah fun K hK=>?_))
 refine qc ?_;refine aL ?_ (me U (J.alloc _) ((cf _ _ _ _).alloc _) ⟨19,0,[i,(ay ⟨1,a.len,[]⟩ s).1]⟩ rfl fx (az _) (ct _) z.2.2 z.1 z.2.1 Z rfl rfl);rintro w H3 ⟨rfl,S3,lv3,R3,F3⟩;dsimp only[aI];repeat' (first
  |(apply aj ?_;clear hK K)|apply Rx.o ?_|apply ai ?_|(apply ah fun K hK=>?_))
 refine qc ?_;refine aL ?_ (zk U R3 (cf _ _ _ _) 2 _ L);rintro w H4 ⟨S4,W,R4,F4⟩;dsimp only[aI];repeat' (first
  |(apply aj ?_;clear hK K)|apply Rx.o ?_|apply ai ?_|(apply ah fun K hK=>?_))
 all_goals refine qq ?_
 exact⟨S4,W,R4,F2.trans (F3.trans F4)⟩
end
section
def tyLoD.tyF:=ad @ef (ad @cJ (ad @cM (ad @jH (ad @lT (ad @fW (ad @eg (ad @dJ (ad @kT (ad @mH (ad @wd (@zj)))))))))))
open tyLoD
noncomputable def mg:{c:SC // aG 110 (f63.body.getD .skip)=c}:=by
 refine⟨?_,?_⟩;rotate_left
 .simp only[f63,bK,aG,bF,bw,bH,bI,Nat.blt,Nat.ble];rfl
noncomputable def ID:{c:SC // aG 58 (f106.body.getD .skip)=c}:=by
 refine⟨?_,?_⟩;rotate_left
 .simp only[f106,bK,aG,bF,bw,bH,bI,Nat.blt,Nat.ble];rfl
structure zak (X:Lx) (c:Cx):Prop where
 ar:c.af=X.p.af
 ae:∀nm,di X.ae nm=ce (c.af.map (·.name)) nm
 ne:∀nm,di X.ne nm=ce c.am nm
 fe:∀nm,0<=dl c.funcs nm 0->di X.fe nm=dl c.funcs nm 0
def FrL.box{H2:Hp}{vv z:AV}(C:zab X Y S s O vv){b:HB}(h:FrL X S vv (Y.alloc b) Z z H2):H2.get Y.next=some b:=by
 have n:=C.new (az _);have I:=C.o3;have m:=C.o4;rw[h.get _ (ct _) (by have:=n.2.2;omega) (by have:=n.2.2;omega) n.1 n.2.1,aJ,aB rfl]
def dP:=@FrL.box
def zab.lkN(I:zak X c){vv:AV}(C:zab X H S s O vv)(nm:bB):gG prog H 83 (.map X.rn) (.ag nm) false=some (.int .i64 (ce c.am nm)):=by
 rw[<-I.ne];exact Cl (P:=prog) underlying83 oT zg C.n nm
def zab.d7(I:zak X c){vv:AV}(C:zab X H S s O vv)(nm:bB):gG prog H 83 (.map X.ra) (.ag nm) false=some (.int .i64 (ce (c.af.map (·.name)) nm)):=by
 rw[<-I.ae];exact Cl (P:=prog) underlying83 oT zg C.a nm
def zab.dP(I:zak X c){vv:AV}(C:zab X H S s O vv)(nm:bB)(h:0<=dl c.funcs nm 0):gG prog H 83 (.map X.rf) (.ag nm) false=some (.int .i64 (dl c.funcs nm 0)):=by
 rw[<-I.fe nm h];exact Cl (P:=prog) underlying83 oT zg C.f nm
theorem zab.atV{Z vv:AV}(h:zab X H S s Z vv){x:Int}(J:s.vars[i]?=some x):∃r,dZ prog 22 vv (.int .i64 (i:Int))=some (.ptr r i)/\eR prog H 3 (.ptr r i)=some (.int .i64 x):=by
 have O:i<s.vars.length:=by
  by_cases c:i<s.vars.length
  .exact c
  .rw[jm ac]at J;cases J
 obtain⟨r,o,m,_⟩:=h.setV O 0;refine⟨r,o,?_⟩;rw[m,fY,J];rfl
set_option maxRecDepth 100000 in
theorem nU{tb:qs}(U:zaf tb){X:Lx}{c:Cx}(hX:zak X c):∀(n:Nat) (x:Ex) (s:Bd) (r:Int×Bd),dE c n x s=some r->Fin r.2->∀{H H1:Hp}{S:Nat->Prop}{lv vv:AV},zab X H1 S s lv vv->FrL X S vv H S vv H1 ->
 aX prog (aK pls tb) 63 [.ptr X.b 0,.agg x.cells] H1 (mS X S vv H r)
 |0,x,s,r,h,_,_,_,_,_,_,_,_=>by simp[dE]at h
 |n+1,x,s,r,h,hF,H,H1,S,lv,vv,hR,hf=>by
  have IH:=nU U hX n;have O:zaa (aK pls tb) 63:=U.plain cC;have hwc:zaa (aK pls tb) 106:=U.plain cC;have m:=hR.alloc (.cells x.cells 0 true);have F1:=hf.alloc (.cells x.cells 0 true);have cz:=m.m;unfold bC at cz;have nw:=hR.new (az _);unfold dE at h;by_cases h1:x.ah=1
  .rw[aB h1,aC]at h;subst h;refine bA (M:=110) (rs:=[.tmp 4]) (O.call _) O.aF O.ak func63 rfl rfl mg.2 rfl ?_;dsimp only[mg,bt,Nat.reduceAdd];repeat' (first
    |(apply aj ?_;clear hK K)|apply Ry.o ?_|(apply bS (fun Z C=>?_) (fun Z C=>?_)<;>try(cases Z;done))|(apply aY (fun Y L=>?_) (fun Y L=>?_)<;>try(cases Y;done))|apply ai ?_|(apply ah fun K hK=>?_)|(apply ak 5 [(3,14),(7,14),(9,14),(10,14),(12,14)] fun K hK=>?_)|(apply ak 7 [(2,5),(4,5),(9,5),(9,15),(11,5),(11,15),(12,5),(12,15)] fun K hK=>?_)|(apply aV ?_;try intro _)|(apply aW ?_ ?_<;>clear hK K)|apply aU ?_|apply aq ?_|apply am ?_|apply au ?_)
   refine qc ?_;refine aL ?_ (uk U m F1 x.n hF);intro w H2 h2;obtain⟨rfl,h3⟩:=id h2;dsimp only[aI];repeat' (first
    |(apply aj ?_;clear hK K)|apply Rx.o ?_|apply ai ?_|(apply ah fun K hK=>?_)|(apply ak 5 [(3,14),(7,14),(9,14),(10,14),(12,14)] fun K hK=>?_)|(apply ak 7 [(2,5),(4,5),(9,5),(9,15),(11,5),(11,15),(12,5),(12,15)] fun K hK=>?_)|(apply aV ?_;try intro _)|(apply aW ?_ ?_<;>clear hK K)|apply aU ?_|apply aq ?_|apply am ?_|apply au ?_)
   all_goals refine qq ?_
   exact h2
  rw[ao h1]at h;by_cases h2:x.ah=2
  .rw[aB h2]at h;obtain⟨v,hv,rfl⟩:=eI.1 h;have hlk:=m.lkN hX x.name;obtain⟨q,hix,hld⟩:=m.atV hv;refine bA (M:=110) (rs:=[.tmp 4]) (O.call _) O.aF O.ak func63 rfl rfl mg.2 rfl ?_;dsimp only[mg,bt,Nat.reduceAdd];repeat' (first
    |(apply aj ?_;clear hK K)|apply Ry.o ?_|(apply bS (fun Z C=>?_) (fun Z C=>?_)<;>try(cases Z;done))|(apply aY (fun Y L=>?_) (fun Y L=>?_)<;>try(cases Y;done))|apply ai ?_|(apply ah fun K hK=>?_)|(apply ak 5 [(3,14),(7,14),(9,14),(10,14),(12,14)] fun K hK=>?_)|(apply ak 7 [(2,5),(4,5),(9,5),(9,15),(11,5),(11,15),(12,5),(12,15)] fun K hK=>?_)|(apply aV ?_;try intro _)|(apply aW ?_ ?_<;>clear hK K)|apply aU ?_|apply aq ?_|apply am ?_|apply au ?_)
   all_goals first
    |exact cG
    |skip
   all_goals refine qq ?_
   exact⟨rfl,S,lv,m,F1⟩
  rw[ao h2]at h;by_cases h3:x.ah=3
  .rw[aB h3]at h;simp only[iy]at h;obtain⟨k,hk,W,he,a,ha,rfl⟩:=h;have ha':X.p.af[ce (c.af.map (·.name)) x.name]?=some a:=by rw[<-hX.ar];exact ha
   have hFc:Fin (fK a.len W.1 W.2):=hF.le (cR _ _).le;have hlk1:=m.d7 hX x.name;refine bA (M:=110) (rs:=[.tmp 4]) (O.call _) O.aF O.ak func63 rfl rfl mg.2 rfl ?_;dsimp only[mg,bt,Nat.reduceAdd];repeat' (first
    |(apply aj ?_;clear hK K)|apply Ry.o ?_|(apply bS (fun Z C=>?_) (fun Z C=>?_)<;>try(cases Z;done))|(apply aY (fun Y L=>?_) (fun Y L=>?_)<;>try(cases Y;done))|apply ai ?_|(apply ah fun K hK=>?_)|(apply ak 5 [(3,14),(7,14),(9,14),(10,14),(12,14)] fun K hK=>?_)|(apply ak 7 [(2,5),(4,5),(9,5),(9,15),(11,5),(11,15),(12,5),(12,15)] fun K hK=>?_)|(apply aV ?_;try intro _)|(apply aW ?_ ?_<;>clear hK K)|apply aU ?_|apply aq ?_|apply am ?_|apply au ?_)
   refine qc ?_;refine aL ?_ (IH k s W he (hFc.le (sR _ _ _).le) m (cf _ _ _ _));rintro v H2 ⟨rfl,S2,lv2,R2,J⟩;have g2:=dP hR J;have m2:=R2.m;unfold bC at m2;have hlk:=R2.d7 hX x.name;have n2:H1.next+1<=H2.next:=J.next
   dsimp only[aI];repeat' (first
    |(apply aj ?_;clear hK K)|apply Rx.o ?_|apply ai ?_|(apply ah fun K hK=>?_)|(apply ak 5 [(3,14),(7,14),(9,14),(10,14),(12,14)] fun K hK=>?_)|(apply ak 7 [(2,5),(4,5),(9,5),(9,15),(11,5),(11,15),(12,5),(12,15)] fun K hK=>?_)|(apply aV ?_;try intro _)|(apply aW ?_ ?_<;>clear hK K)|apply aU ?_|apply aq ?_|apply am ?_|apply au ?_)
   .exact cG
   .refine qc ?_;refine aL ?_ (IC U R2 (cf _ _ _ _) (ce (c.af.map (·.name)) x.name) W.1 ha' hFc);rintro w H3 ⟨S3,lv3,R3,F3⟩;have m3:=R3.m;unfold bC at m3;have I:=R3.new (az _);dsimp only[aI];repeat' (first
     |(apply aj ?_;clear hK K)|apply Rx.o ?_|apply ai ?_|(apply ah fun K hK=>?_)|(apply ak 5 [(3,14),(7,14),(9,14),(10,14),(12,14)] fun K hK=>?_)|(apply ak 7 [(2,5),(4,5),(9,5),(9,15),(11,5),(11,15),(12,5),(12,15)] fun K hK=>?_)|(apply aV ?_;try intro _)|(apply aW ?_ ?_<;>clear hK K)|apply aU ?_|apply aq ?_|apply am ?_|apply au ?_)
    refine qc ?_;refine aL ?_ (me U (R3.alloc _) ((cf _ _ _ _).alloc _) ⟨23,ce (c.af.map (·.name)) x.name,[(fK a.len W.1 W.2).ab,W.1]⟩ rfl fx (az _) (ct _) I.2.2 I.1 I.2.1 hF rfl rfl);intro w H4 h4;have h5:=h4.da (F1.trans (J.trans F3));obtain⟨rfl,h6⟩:=h4;dsimp only[aI];repeat' (first
     |(apply aj ?_;clear hK K)|apply Rx.o ?_|apply ai ?_|(apply ah fun K hK=>?_)|(apply ak 5 [(3,14),(7,14),(9,14),(10,14),(12,14)] fun K hK=>?_)|(apply ak 7 [(2,5),(4,5),(9,5),(9,15),(11,5),(11,15),(12,5),(12,15)] fun K hK=>?_)|(apply aV ?_;try intro _)|(apply aW ?_ ?_<;>clear hK K)|apply aU ?_|apply aq ?_|apply am ?_|apply au ?_)
    all_goals refine qq ?_
    exact h5
  rw[ao h3]at h;by_cases h5:x.ah=5
  .rw[aB h5]at h;simp only[iy]at h;obtain⟨dL,hk0,bG,e0,k1,hk1,W,e1,k2,hk2,V,e2,rfl⟩:=h;have hFt:Fin (bM bG.1 W.2.ab (bM bG.1 W.1 V.1 V.2).2.ab (bM bG.1 W.1 V.1 V.2).2).2:=hF.le ⟨vZ _,az _⟩;have hFv:Fin (bM bG.1 W.1 V.1 V.2).2:=hFt.le (eQ _ _ _ _).le;have hF2:Fin V.2:=hFv.le (eQ _ _ _ _).le;have hF1:Fin W.2:=(hF2.le (dm c n _ _ _ e2).le).le ⟨vZ _,az _⟩;have hF0:Fin bG.2:=hF1.le (dm c n _ _ _ e1).le;refine bA (M:=110) (rs:=[.tmp 4]) (O.call _) O.aF O.ak func63 rfl rfl mg.2 rfl ?_;dsimp only[mg,bt,Nat.reduceAdd];repeat' (first
    |(apply aj ?_;clear hK K)|apply Ry.o ?_|(apply bS (fun Z C=>?_) (fun Z C=>?_)<;>try(cases Z;done))|(apply aY (fun Y L=>?_) (fun Y L=>?_)<;>try(cases Y;done))|apply ai ?_|(apply ah fun K hK=>?_)|(apply ak 5 [(3,14),(7,14),(9,14),(10,14),(12,14)] fun K hK=>?_)|(apply ak 7 [(2,5),(4,5),(9,5),(9,15),(11,5),(11,15),(12,5),(12,15)] fun K hK=>?_)|(apply aV ?_;try intro _)|(apply aW ?_ ?_<;>clear hK K)|apply aU ?_|apply aq ?_|apply am ?_|apply au ?_)
   refine qc ?_;have R1c:=m.alloc (.cells x.cells 0 true);have F1c:=F1.alloc (.cells x.cells 0 true);have main:aX prog (aK pls tb) 106 [.ptr X.b 0,.agg x.cells] (H1.alloc (.cells x.cells 0 true)) (mS X S vv H ((bM bG.1 W.1 V.1 V.2).1,{ (bM bG.1 W.2.ab (bM bG.1 W.1 V.1 V.2).2.ab (bM bG.1 W.1 V.1 V.2).2).2 with ab:=(bM bG.1 W.2.ab (bM bG.1 W.1 V.1 V.2).2.ab (bM bG.1 W.1 V.1 V.2).2).1})):=by
    clear cz nw;refine bA (M:=58) (rs:=[.tmp 4]) (hwc.call _) hwc.aF hwc.ak func106 rfl rfl ID.2 rfl ?_;dsimp only[ID,bt,Nat.reduceAdd];repeat' (first
     |(apply aj ?_;clear hK K)|apply Ry.o ?_|apply bq ?_|apply ai ?_|(apply ah fun K hK=>?_)|apply am ?_|apply au ?_)
    refine qc ?_;refine aL ?_ (IH dL s bG e0 hF0 R1c (cf _ _ _ _));rintro v H2 ⟨rfl,S2,lv2,R2,J⟩;have g2:=dP m J;simp only[bj]at g2;have m2:=R2.m;unfold bC at m2;dsimp only[aI];repeat' (first
     |(apply aj ?_;clear hK K)|apply Ry.o ?_|apply bq ?_|apply ai ?_|(apply ah fun K hK=>?_)|apply am ?_|apply au ?_)
    refine qc ?_;refine aL ?_ (IH k1 _ W e1 hF1 R2 (cf _ _ _ _));rintro v H3 ⟨rfl,S3,lv3,R3,F3⟩;have g3:=dP m (J.trans F3);have m3:=R3.m;obtain⟨R3s,F3s⟩:=R3.setS bG.2.ab;have g3s:=dP m (J.trans (F3.trans F3s));simp only[bj]at g3 g3s;unfold bC at m3;dsimp only[bC]at R3s F3s g3s;dsimp only[aI];repeat' (first
     |(apply aj ?_;clear hK K)|apply Ry.o ?_|apply bq ?_|apply ai ?_|(apply ah fun K hK=>?_)|apply am ?_|apply au ?_)
    refine qc ?_;refine aL ?_ (IH k2 _ V e2 hF2 R3s (cf _ _ _ _));rintro v H4 ⟨rfl,S4,lv4,R4,F4⟩;dsimp only[aI];repeat' (first
     |(apply aj ?_;clear hK K)|apply Rx.o ?_|apply aD ?_|apply ai ?_|(apply ah fun K hK=>?_)|apply am ?_|apply au ?_)
    refine qc ?_;refine aL ?_ (ul U R4 (cf _ _ _ _) bG.1 W.1 V.1 hFv);rintro v H5 ⟨rfl,S5,lv5,R5,F5⟩;have m5:=R5.m;unfold bC at m5;dsimp only[aI];repeat' (first
     |(apply aj ?_;clear hK K)|apply Rx.o ?_|apply aD ?_|apply ai ?_|(apply ah fun K hK=>?_)|apply am ?_|apply au ?_)
    refine qc ?_;refine aL ?_ (ul U R5 (cf _ _ _ _) bG.1 W.2.ab _ hFt);rintro v H6 ⟨rfl,S6,lv6,R6,F6⟩;have m6:=R6.m;unfold bC at m6;dsimp only[aI];repeat' (first
     |(apply aj ?_;clear hK K)|apply Rx.o ?_|apply aD ?_|apply ai ?_|(apply ah fun K hK=>?_)|apply am ?_|apply au ?_)
    all_goals refine qq ?_
    obtain⟨R7,F7⟩:=R6.setS (bM bG.1 W.2.ab (bM bG.1 W.1 V.1 V.2).2.ab (bM bG.1 W.1 V.1 V.2).2).1;exact⟨rfl,S6,lv6,R7,F1c.trans (J.trans (F3.trans (F3s.trans (F4.trans (F5.trans (F6.trans F7))))))⟩
   refine aL ?_ main;intro w H2 h2;obtain⟨rfl,h3⟩:=id h2;dsimp only[aI];repeat' (first
    |(apply aj ?_;clear hK K)|apply Rx.o ?_|apply aD ?_|apply ai ?_|(apply ah fun K hK=>?_)|apply am ?_|apply au ?_)
   all_goals refine qq ?_
   exact h2
  rw[ao h5]at h;simp only[bT]at h;obtain⟨dL,hk0,bG,e0,h⟩:=h;by_cases hz:x.aj.length=1
  .rw[aB hz,aC]at h;subst h;have hF0:Fin bG.2:=hF.le (cR _ _).le;have hz':((x.aj.length:Nat):Int)=1:=ac;refine bA (M:=110) (rs:=[.tmp 4]) (O.call _) O.aF O.ak func63 rfl rfl mg.2 rfl ?_;dsimp only[mg,bt,Nat.reduceAdd];repeat' (first
    |(apply aj ?_;clear hK K)|apply Ry.o ?_|(apply bS (fun Z C=>?_) (fun Z C=>?_)<;>try(cases Z;done))|(apply aY (fun Y L=>?_) (fun Y L=>?_)<;>try(cases Y;done))|apply ai ?_|(apply ah fun K hK=>?_)|(apply ak 5 [(3,14),(7,14),(9,14),(10,14),(12,14)] fun K hK=>?_)|(apply ak 7 [(2,5),(4,5),(9,5),(9,15),(11,5),(11,15),(12,5),(12,15)] fun K hK=>?_)|(apply aV ?_;try intro _)|(apply aW ?_ ?_<;>clear hK K)|apply aU ?_|apply aq ?_|apply am ?_|apply au ?_)
   refine qc ?_;refine aL ?_ (IH dL s bG e0 hF0 m (cf _ _ _ _));rintro v H2 ⟨rfl,S2,lv2,R2,J⟩;have g2:=dP hR J;have nw2:=R2.new (az _);dsimp only[aI];repeat' (first
    |(apply aj ?_;clear hK K)|apply Ry.o ?_|(apply bS (fun Z C=>?_) (fun Z C=>?_)<;>try(cases Z;done))|(apply aY (fun Y L=>?_) (fun Y L=>?_)<;>try(cases Y;done))|apply ai ?_|(apply ah fun K hK=>?_)|(apply ak 5 [(3,14),(7,14),(9,14),(10,14),(12,14)] fun K hK=>?_)|(apply ak 7 [(2,5),(4,5),(9,5),(9,15),(11,5),(11,15),(12,5),(12,15)] fun K hK=>?_)|(apply aV ?_;try intro _)|(apply aW ?_ ?_<;>clear hK K)|apply aU ?_|apply aq ?_|apply am ?_|apply au ?_)
   refine qc ?_;refine aL ?_ (me U (R2.alloc _) ((cf _ _ _ _).alloc _) ⟨x.op,0,[bG.1]⟩ rfl fx (az _) (ct _) nw2.2.2 nw2.1 nw2.2.1 hF rfl rfl);intro w H4 h4;have h5:=h4.da (F1.trans J);obtain⟨rfl,h6⟩:=h4;dsimp only[aI];repeat' (first
    |(apply aj ?_;clear hK K)|apply Rx.o ?_|apply ai ?_|(apply ah fun K hK=>?_)|(apply ak 5 [(3,14),(7,14),(9,14),(10,14),(12,14)] fun K hK=>?_)|(apply ak 7 [(2,5),(4,5),(9,5),(9,15),(11,5),(11,15),(12,5),(12,15)] fun K hK=>?_)|(apply aV ?_;try intro _)|(apply aW ?_ ?_<;>clear hK K)|apply aU ?_|apply aq ?_|apply am ?_|apply au ?_)
   all_goals refine qq ?_
   exact h5
  rw[ao hz]at h;simp only[iy]at h;obtain⟨k1,hk1,W,e1,rfl⟩:=h;have hz':¬((x.aj.length:Nat):Int)=1:=ac;have hFd:Fin (if x.op=7\/x.op=8 then oR W.1 W.2 else W.2):=hF.le (cR _ _).le;have hF1:Fin W.2:=by
   split at hFd
   .exact hFd.le (CH _ _).le
   .exact hFd
  have hF0:Fin bG.2:=hF1.le (dm c n _ _ _ e1).le;generalize hq:(if x.op=7\/x.op=8 then oR W.1 W.2 else W.2)=q at *;refine bA (M:=110) (rs:=[.tmp 4]) (O.call _) O.aF O.ak func63 rfl rfl mg.2 rfl ?_;dsimp only[mg,bt,Nat.reduceAdd];repeat' (first
   |(apply aj ?_;clear hK K)|apply Ry.o ?_|(apply bS (fun Z C=>?_) (fun Z C=>?_)<;>try(cases Z;done))|(apply aY (fun Y L=>?_) (fun Y L=>?_)<;>try(cases Y;done))|apply ai ?_|(apply ah fun K hK=>?_)|(apply ak 5 [(3,14),(7,14),(9,14),(10,14),(12,14)] fun K hK=>?_)|(apply ak 7 [(2,5),(4,5),(9,5),(9,15),(11,5),(11,15),(12,5),(12,15)] fun K hK=>?_)|(apply aV ?_;try intro _)|(apply aW ?_ ?_<;>clear hK K)|apply aU ?_|apply aq ?_|apply am ?_|apply au ?_)
  refine qc ?_;refine aL ?_ (IH dL s bG e0 hF0 m (cf _ _ _ _));rintro v H2 ⟨rfl,S2,lv2,R2,J⟩;have g2:=dP hR J;dsimp only[aI];repeat' (first
   |(apply aj ?_;clear hK K)|apply Ry.o ?_|(apply bS (fun Z C=>?_) (fun Z C=>?_)<;>try(cases Z;done))|(apply aY (fun Y L=>?_) (fun Y L=>?_)<;>try(cases Y;done))|apply ai ?_|(apply ah fun K hK=>?_)|(apply ak 5 [(3,14),(7,14),(9,14),(10,14),(12,14)] fun K hK=>?_)|(apply ak 7 [(2,5),(4,5),(9,5),(9,15),(11,5),(11,15),(12,5),(12,15)] fun K hK=>?_)|(apply aV ?_;try intro _)|(apply aW ?_ ?_<;>clear hK K)|apply aU ?_|apply aq ?_|apply am ?_|apply au ?_)
  refine qc ?_;refine aL ?_ (IH k1 _ W e1 hF1 R2 (cf _ _ _ _));rintro v H3 ⟨rfl,S3,lv3,R3,F3⟩;have g3:=dP hR (J.trans F3);have F123:=F1.trans (J.trans F3);dsimp only[aI];by_cases hd:x.op=7\/x.op=8
  .rw[aB hd]at hq;subst hq;have hFq:Fin (ay ⟨16,0,[W.1,(ay ⟨1,0,[]⟩ W.2).1]⟩ (ay ⟨1,0,[]⟩ W.2).2).2:=hFd.le (rm _ _ _).le;have hFz:Fin (ay ⟨1,0,[]⟩ W.2).2:=hFq.le (cR _ _).le;rcases hd with h7|h8
   .repeat' (first
     |(apply aj ?_;clear hK K)|apply Ry.o ?_|(apply bS (fun Z C=>?_) (fun Z C=>?_)<;>try(cases Z;done))|(apply aY (fun Y L=>?_) (fun Y L=>?_)<;>try(cases Y;done))|apply ai ?_|(apply ah fun K hK=>?_)|(apply ak 5 [(3,14),(7,14),(9,14),(10,14),(12,14)] fun K hK=>?_)|(apply ak 7 [(2,5),(4,5),(9,5),(9,15),(11,5),(11,15),(12,5),(12,15)] fun K hK=>?_)|(apply aV ?_;try intro _)|(apply aW ?_ ?_<;>clear hK K)|apply aU ?_|apply aq ?_|apply am ?_|apply au ?_)
    refine qc ?_;refine aL ?_ (uk U R3 (cf _ _ _ _) 0 hFz);rintro v H4 ⟨rfl,S4,lv4,R4,F4⟩;have z:=R4.new (az _);dsimp only[aI];repeat' (first
     |(apply aj ?_;clear hK K)|apply Rx.o ?_|apply ai ?_|(apply ah fun K hK=>?_)|(apply ak 5 [(3,14),(7,14),(9,14),(10,14),(12,14)] fun K hK=>?_)|(apply ak 7 [(2,5),(4,5),(9,5),(9,15),(11,5),(11,15),(12,5),(12,15)] fun K hK=>?_)|(apply aV ?_;try intro _)|(apply aW ?_ ?_<;>clear hK K)|apply aU ?_|apply aq ?_|apply am ?_|apply au ?_)
    refine qc ?_;refine aL ?_ (me U (R4.alloc _) ((cf _ _ _ _).alloc _) ⟨16,0,[W.1,(ay ⟨1,0,[]⟩ W.2).1]⟩ rfl fx (az _) (ct _) z.2.2 z.1 z.2.1 hFq rfl rfl);rintro v H5 ⟨rfl,S5,lv5,R5,F5⟩;dsimp only[aI];repeat' (first
     |(apply aj ?_;clear hK K)|apply Rx.o ?_|apply ai ?_|(apply ah fun K hK=>?_)|(apply ak 5 [(3,14),(7,14),(9,14),(10,14),(12,14)] fun K hK=>?_)|(apply ak 7 [(2,5),(4,5),(9,5),(9,15),(11,5),(11,15),(12,5),(12,15)] fun K hK=>?_)|(apply aV ?_;try intro _)|(apply aW ?_ ?_<;>clear hK K)|apply aU ?_|apply aq ?_|apply am ?_|apply au ?_)
    refine qc ?_;refine aL ?_ (zk U R5 (cf _ _ _ _) 1 _ hFd);rintro v H6 ⟨S6,lv6,R6,F6⟩;have F36:=F4.trans (F5.trans F6);have g6:=dP hR (J.trans (F3.trans F36));have o:=R6.new (az _);have R6':zab X H6 S6 (oR W.1 W.2) lv6 vv:=R6;dsimp only[aI];repeat' (first
     |(apply aj ?_;clear hK K)|apply Rx.o ?_|apply ai ?_|(apply ah fun K hK=>?_)|(apply ak 5 [(3,14),(7,14),(9,14),(10,14),(12,14)] fun K hK=>?_)|(apply ak 7 [(2,5),(4,5),(9,5),(9,15),(11,5),(11,15),(12,5),(12,15)] fun K hK=>?_)|(apply aV ?_;try intro _)|(apply aW ?_ ?_<;>clear hK K)|apply aU ?_|apply aq ?_|apply am ?_|apply au ?_)
    refine qc ?_;refine aL ?_ (me U (R6'.alloc _) ((cf _ _ _ _).alloc _) ⟨x.op,0,[bG.1,W.1]⟩ rfl fx (az _) (ct _) o.2.2 o.1 o.2.1 hF h7 rfl);intro w H7 h7q;have h5q:=h7q.da (F123.trans F36);obtain⟨rfl,h6q⟩:=h7q;dsimp only[aI];repeat' (first
     |(apply aj ?_;clear hK K)|apply Rx.o ?_|apply ai ?_|(apply ah fun K hK=>?_)|(apply ak 5 [(3,14),(7,14),(9,14),(10,14),(12,14)] fun K hK=>?_)|(apply ak 7 [(2,5),(4,5),(9,5),(9,15),(11,5),(11,15),(12,5),(12,15)] fun K hK=>?_)|(apply aV ?_;try intro _)|(apply aW ?_ ?_<;>clear hK K)|apply aU ?_|apply aq ?_|apply am ?_|apply au ?_)
    all_goals refine qq ?_
    rw[h7]at h5q⊢;exact h5q
   .have h7:¬x.op=7:=by omega
    repeat' (first
     |(apply aj ?_;clear hK K)|apply Ry.o ?_|(apply bS (fun Z C=>?_) (fun Z C=>?_)<;>try(cases Z;done))|(apply aY (fun Y L=>?_) (fun Y L=>?_)<;>try(cases Y;done))|apply ai ?_|(apply ah fun K hK=>?_)|(apply ak 5 [(3,14),(7,14),(9,14),(10,14),(12,14)] fun K hK=>?_)|(apply ak 7 [(2,5),(4,5),(9,5),(9,15),(11,5),(11,15),(12,5),(12,15)] fun K hK=>?_)|(apply aV ?_;try intro _)|(apply aW ?_ ?_<;>clear hK K)|apply aU ?_|apply aq ?_|apply am ?_|apply au ?_)
    refine qc ?_;refine aL ?_ (uk U R3 (cf _ _ _ _) 0 hFz);rintro v H4 ⟨rfl,S4,lv4,R4,F4⟩;have z:=R4.new (az _);dsimp only[aI];repeat' (first
     |(apply aj ?_;clear hK K)|apply Rx.o ?_|apply ai ?_|(apply ah fun K hK=>?_)|(apply ak 5 [(3,14),(7,14),(9,14),(10,14),(12,14)] fun K hK=>?_)|(apply ak 7 [(2,5),(4,5),(9,5),(9,15),(11,5),(11,15),(12,5),(12,15)] fun K hK=>?_)|(apply aV ?_;try intro _)|(apply aW ?_ ?_<;>clear hK K)|apply aU ?_|apply aq ?_|apply am ?_|apply au ?_)
    refine qc ?_;refine aL ?_ (me U (R4.alloc _) ((cf _ _ _ _).alloc _) ⟨16,0,[W.1,(ay ⟨1,0,[]⟩ W.2).1]⟩ rfl fx (az _) (ct _) z.2.2 z.1 z.2.1 hFq rfl rfl);rintro v H5 ⟨rfl,S5,lv5,R5,F5⟩;dsimp only[aI];repeat' (first
     |(apply aj ?_;clear hK K)|apply Rx.o ?_|apply ai ?_|(apply ah fun K hK=>?_)|(apply ak 5 [(3,14),(7,14),(9,14),(10,14),(12,14)] fun K hK=>?_)|(apply ak 7 [(2,5),(4,5),(9,5),(9,15),(11,5),(11,15),(12,5),(12,15)] fun K hK=>?_)|(apply aV ?_;try intro _)|(apply aW ?_ ?_<;>clear hK K)|apply aU ?_|apply aq ?_|apply am ?_|apply au ?_)
    refine qc ?_;refine aL ?_ (zk U R5 (cf _ _ _ _) 1 _ hFd);rintro v H6 ⟨S6,lv6,R6,F6⟩;have F36:=F4.trans (F5.trans F6);have g6:=dP hR (J.trans (F3.trans F36));have o:=R6.new (az _);have R6':zab X H6 S6 (oR W.1 W.2) lv6 vv:=R6;dsimp only[aI];repeat' (first
     |(apply aj ?_;clear hK K)|apply Rx.o ?_|apply ai ?_|(apply ah fun K hK=>?_)|(apply ak 5 [(3,14),(7,14),(9,14),(10,14),(12,14)] fun K hK=>?_)|(apply ak 7 [(2,5),(4,5),(9,5),(9,15),(11,5),(11,15),(12,5),(12,15)] fun K hK=>?_)|(apply aV ?_;try intro _)|(apply aW ?_ ?_<;>clear hK K)|apply aU ?_|apply aq ?_|apply am ?_|apply au ?_)
    refine qc ?_;refine aL ?_ (me U (R6'.alloc _) ((cf _ _ _ _).alloc _) ⟨x.op,0,[bG.1,W.1]⟩ rfl fx (az _) (ct _) o.2.2 o.1 o.2.1 hF h8 rfl);intro w H7 h7q;have h5q:=h7q.da (F123.trans F36);obtain⟨rfl,h6q⟩:=h7q;dsimp only[aI];repeat' (first
     |(apply aj ?_;clear hK K)|apply Rx.o ?_|apply ai ?_|(apply ah fun K hK=>?_)|(apply ak 5 [(3,14),(7,14),(9,14),(10,14),(12,14)] fun K hK=>?_)|(apply ak 7 [(2,5),(4,5),(9,5),(9,15),(11,5),(11,15),(12,5),(12,15)] fun K hK=>?_)|(apply aV ?_;try intro _)|(apply aW ?_ ?_<;>clear hK K)|apply aU ?_|apply aq ?_|apply am ?_|apply au ?_)
    all_goals refine qq ?_
    rw[h8]at h5q⊢;exact h5q
  .rw[ao hd]at hq;subst hq;have h7:¬x.op=7:=fun e=>hd (.inl e);have h8:¬x.op=8:=fun e=>hd (.inr e);have I:=R3.new (az _);repeat' (first
    |(apply aj ?_;clear hK K)|apply Ry.o ?_|(apply bS (fun Z C=>?_) (fun Z C=>?_)<;>try(cases Z;done))|(apply aY (fun Y L=>?_) (fun Y L=>?_)<;>try(cases Y;done))|apply ai ?_|(apply ah fun K hK=>?_)|(apply ak 5 [(3,14),(7,14),(9,14),(10,14),(12,14)] fun K hK=>?_)|(apply ak 7 [(2,5),(4,5),(9,5),(9,15),(11,5),(11,15),(12,5),(12,15)] fun K hK=>?_)|(apply aV ?_;try intro _)|(apply aW ?_ ?_<;>clear hK K)|apply aU ?_|apply aq ?_|apply am ?_|apply au ?_)
   refine qc ?_;refine aL ?_ (me U (R3.alloc _) ((cf _ _ _ _).alloc _) ⟨x.op,0,[bG.1,W.1]⟩ rfl fx (az _) (ct _) I.2.2 I.1 I.2.1 hF rfl rfl);intro w H4 h4;have h5:=h4.da F123;obtain⟨rfl,h6⟩:=h4;dsimp only[aI];repeat' (first
    |(apply aj ?_;clear hK K)|apply Rx.o ?_|apply ai ?_|(apply ah fun K hK=>?_)|(apply ak 5 [(3,14),(7,14),(9,14),(10,14),(12,14)] fun K hK=>?_)|(apply ak 7 [(2,5),(4,5),(9,5),(9,15),(11,5),(11,15),(12,5),(12,15)] fun K hK=>?_)|(apply aV ?_;try intro _)|(apply aW ?_ ?_<;>clear hK K)|apply aU ?_|apply aq ?_|apply am ?_|apply au ?_)
   all_goals refine qq ?_
   exact h5
end
end Go.Proofs.Ytbflaciihaijgaa
