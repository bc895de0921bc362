/- Lemmas for the last file. -/
import Derived.Test.YtbflaciihaijgaaGreatREO
set_option linter.all false
set_option maxHeartbeats 32000000
namespace Go.Ab
set_option maxRecDepth 20000
open Go
variable{qb:Prop}
def Gw(h:qb:=by have:=O _ hr;simp only[]at this;omega):=h
def N9(h:qb:=by rw[gi,if_pos I];unfold Gu;rw[dif_pos C]):=h
def oD(h:qb:=by rw[e]at m;omega):=h
def CV(h:qb:=by rw[hS k j aa aa];exact m):=h
def Oa(h:qb:=by show(if _ then _ else _)=2;rw[if_neg aa];exact lf):=h
def Gx(h:qb:=by show(if _ then _ else _)=b+1;rw[if_neg aa];exact m):=h
def Gy(h:qb:=by show(if _ then _ else _)=b+2;rw[if_neg aa];exact m):=h
def Gz(h:qb:=by show(if _ then _ else _)=b+3;rw[if_neg aa];exact m):=h
def GA(h:qb:=by show(if _ then _ else _)=b;rw[if_neg aa];exact m):=h
end Go.Ab
namespace Go.Proofs.YtbflaciihaijgaaGreat
set_option maxRecDepth 20000
open Go Go.Ab Proofs.Tryz
variable(ρ:Nat->Int)
variable{x:zdh}{f:Int}{c:Sc}{k z b q L n':Nat}{s:da}{P:Program}{t e:TypeId}{H H':Hp}{v p l V K:AV}{S:Nat->Prop}{Z j:Nat->Nat}
section
def tyN6i.tyF:=ac @dF (ac @cI (ac @cY (ac @fg (ac @fh (ac @eL (ac @jH (ac @rZ (ac @pR (ac @dW (ac @dR (ac @dy (ac @ge (ac @iW (ac @pS (ac @tn (ac @tp (ac @zaP (ac @zaQ (ac @zaR (ac @zaS (ac @zaT (ac @zaU (ac @zaV (@N2))))))))))))))))))))))))
open tyN6i
def Ob(p:Pr)(nm:aS)(al:qp)(fuel:Int)(o:Oc):Prop:=
 (∃f r n,fJ (fI p.funcs 0 []) nm=true/\0<=de (fI p.funcs 0 []) nm/\p.funcs[(de (fI p.funcs 0 []) nm).toNat]?=some f/\f.params.length=al.length/\i3 p (fI p.funcs 0 []) n (de (fI p.funcs 0 []) nm) al (ol p fuel)=some r/\r.2.out.length<2^40/\o=j0 r) \/
 (o=⟨0,0,[],0⟩/\(fJ (fI p.funcs 0 []) nm=false\/∃f,fJ (fI p.funcs 0 []) nm=true/\0<=de (fI p.funcs 0 []) nm/\p.funcs[(de (fI p.funcs 0 []) nm).toNat]?=some f/\¬f.params.length=al.length))
set_option maxRecDepth 100000 in
theorem zbc{cfg:Cfg}(hS:Std cfg)(p:Pr)(hz:p.sz<2^40)(hnd:(p.af.map (·.name)).Nodup)(har:∀a∈p.af,0<=a.len/\a.len<=16)
 (hchk:∀H,aU prog cfg 38 [.agg p.cells] H fun v H'=>v=.int .i64 0/\FrB 0 H H') (nm:aS) (al:qp) (fuel:Int) (hf0:0<=fuel) (hf1:fuel<=1000)
 {o:Oc} (hq:Ob p nm al fuel o) (hal:al.length<2^40) (av:AV) (H:Hp) (hav:mj H av al) (halt:∀b,pe av b->b<H.next) :
 aU prog cfg 23 [.agg p.cells,.ae nm,av,.int .i64 fuel] H fun v H'=>vj H' v o:=by
 have hla:=lJ p.af;have hlf:=lI p.funcs;have hpsz:p.sz=1+ez p.af+dY p.funcs:=rfl;refine a5 (M:=124) (rs:=[.cell 8 51]) ((hS.plain _ rfl).call _) (hS.plain _ rfl).ao (hS.plain _ rfl).am func23 rfl rfl ub.2 rfl ?_;dsimp only[ub,a3,Nat.reduceAdd];repeat' (first
  |(apply ai ?_;clear hK K)|apply Rx.o ?_|apply aN ?_|(apply aE (fun Z V=>?_) (fun Z V=>?_)<;>try(cases Z;done))|apply ae ?_|(apply ah fun K hK=>?_)|(apply aq 7 [(3,9),(5,9),(7,9),(8,9)] fun K hK=>?_)|(apply dj 12 fun K hK=>?_)|(apply dj 20 fun K hK=>?_)|(apply aM ?_;try intro _)|(apply aR ?_ ?_<;>clear hK K)|apply aL ?_|apply bu rfl ?_|apply aj ?_|apply ak ?_|apply am ?_|apply ax ?_)
 refine qa ?_;refine a4 ?_ (hchk _);rintro v Y ⟨rfl,hf2⟩;have hn2:=hf2.next
 simp only[br]at hn2;have hb0:Y.get H.next=some (.cells p.cells 0 true):=by
  rw[hf2.get _ (dx _) bY,aP,ad bY,aP,au rfl]
 have hb1:Y.get (H.next+1)=some qg:=by
  rw[hf2.get _ (dx _) bY,aP,au gB]
 have hg2:∀r,r<H.next->Y.get r=H.get r:=fun r hr=>by
  rw[hf2.get _ (dx _) bY,aP,ad bY,aP,ad aa]
 have hf0':¬fuel<0:=aa;have hf1':¬1000<fuel:=aa;have e1:(H.next == Y.next)=false:=lO aa;have e2:(H.next == Y.next+1)=false:=lO aa;have e3:(H.next == Y.next+2)=false:=lO aa;dsimp only[a0];repeat' (first
  |(apply ai ?_;clear hK K)|apply Ry.o ?_|apply bP ?_|(apply cE (fun C U=>?_) (fun C U=>?_)<;>try(cases C;done))|(apply a2 (fun Z V=>?_) (fun Z V=>?_)<;>try(cases Z;done))|apply ae ?_|(apply ah fun K hK=>?_)|(apply aq 7 [(3,9),(5,9),(7,9),(8,9)] fun K hK=>?_)|(apply dj 12 fun K hK=>?_)|(apply dj 20 fun K hK=>?_)|(apply aM ?_;try intro _)|(apply aR ?_ ?_<;>clear hK K)|apply aL ?_|apply bu rfl ?_|apply aj ?_|apply ak ?_|apply am ?_|apply ax ?_)
 generalize hH3:Hp.alloc _ (HB.cells [_,_,_,_,_,_,_,_] 0 true)=H3;have hn3:H3.next=Y.next+3:=by rw[<-hH3];rfl
 have hg3:∀r,r<Y.next->H3.get r=Y.get r:=fun r hr=>by
  rw[<-hH3,aP,ad bY,aP,ad bY,aP,ad aa]
 have hc3:H3.get Y.next=some (.map (js [] [])):=by
  rw[<-hH3,aP,ad bY,aP,ad bY,aP,au rfl];rfl
 have hF3:H3.get (Y.next+1)=some (.map (dL [])):=by
  rw[<-hH3,aP,ad bY,aP,au gB];rfl
 have hm3:H3.get (Y.next+2)=some (.cells [.ai (p.af.map Ar.cells),.ai (p.funcs.map Fu.cells),.map Y.next,.map (Y.next+1),.int .i64 fuel,.int .i64 0,.int .i64 0,.ab] 0 true):=by
  rw[<-hH3,aP,au gB]
 have hb03:H3.get H.next=some (.cells p.cells 0 true):=by rw[hg3 _ aa];exact hb0
 have hb13:H3.get (H.next+1)=some qg:=by rw[hg3 _ aa];exact hb1
 clear hH3;refine jU (fun i E H4=>∃rs:qx,rs.length=i/\rs.Nodup/\(∀r∈rs,H3.next<=r/\r<H4.next)/\H4.get Y.next=some (.map (js (fA (p.af.take i)) rs)) /\
  (∀(j r:Nat) (nm:aS) (l:qp),rs[j]?=some r->(fA (p.af.take i))[j]?=some (nm,l)->H4.get r=some (.cells (ints l) 0 true))/\H3.next<=H4.next/\(∀r,r<H3.next->r≠Y.next->H4.get r=H3.get r) /\
  E.at 1=.ae nm/\E.at 2=av/\E.at 4=.ptr H.next 0/\E.at 8=.ptr (H.next+1) 0/\E.at 9=.ptr (Y.next+2) 0/\E.at 36=.ai (p.af.map Ar.cells)/\E.at 37=.int .i64 p.af.length/\E.at 38=.int .i64 i) p.af.length ?_ ?_
 .rintro i E H4 hi ⟨rs,hrl,hrn,hrb,hrc,hrg,hn4,hg4,k1,k2,kK,k8,k9,k36,k37,k38⟩;repeat' (first
   |(apply ai ?_;clear hK K)|apply Rx.o ?_|apply aN ?_|(apply aE (fun Z V=>?_) (fun Z V=>?_)<;>try(cases Z;done))|apply ae ?_|(apply ah fun K hK=>?_)|(apply aq 7 [(3,9),(5,9),(7,9),(8,9)] fun K hK=>?_)|(apply dj 12 fun K hK=>?_)|(apply dj 20 fun K hK=>?_)|(apply aM ?_;try intro _)|(apply aR ?_ ?_<;>clear hK K)|apply aL ?_|apply bu rfl ?_|apply aj ?_|apply ak ?_|apply am ?_|apply ax ?_)
  .have hlt:i<p.af.length:=by simpa using Z
   have hgx:p.af[i]?=some p.af[i]:=bt hlt;obtain⟨ha0,ha1⟩:=har p.af[i] (ek hlt);repeat' (first
    |(apply ai ?_;clear hK K)|apply Rx.o ?_|apply aN ?_|(apply aE (fun Z V=>?_) (fun Z V=>?_)<;>try(cases Z;done))|apply ae ?_|(apply ah fun K hK=>?_)|(apply aq 7 [(3,9),(5,9),(7,9),(8,9)] fun K hK=>?_)|(apply dj 12 fun K hK=>?_)|(apply dj 20 fun K hK=>?_)|(apply aM ?_;try intro _)|(apply aR ?_ ?_<;>clear hK K)|apply aL ?_|apply bu rfl ?_|apply aj ?_|apply ak ?_|apply am ?_|apply ax ?_)
   generalize hH5:Hp.set _ H4.next _=S
   have hn5:S.next=H4.next+1:=by rw[<-hH5];rfl
   have I:∀r,r<H4.next->S.get r=H4.get r:=fun r hr=>by rw[<-hH5,aO,ad aa,aP,ad aa]
   have hb5:S.get H4.next=some (.cells p.af[i].cells 0 true):=by rw[<-hH5,aO,au rfl]
   have hm5:S.get (Y.next+2)=some (.cells [.ai (p.af.map Ar.cells),.ai (p.funcs.map Fu.cells),.map Y.next,.map (Y.next+1),.int .i64 fuel,.int .i64 0,.int .i64 0,.ab] 0 true):=by
    rw[I _ aa,hg4 _ aa aa];exact hm3
   clear hH5;have hn5':H4.next+1<=S.next:=aa
   clear hn5;have hms:=Kj (P:=prog) (H:=S) (t:=27) underlying27 oW rW rX ha0 (n:=p.af[i].len) aa;have hc6:(S.alloc (.cells (ints (List.replicate p.af[i].len.toNat 0)) 0 true)).get Y.next=some (.map (js (fA (p.af.take i)) rs)):=by
    rw[aP,ad aa,I _ aa];exact hrc
   have hnew:p.af[i].name∉(fA (p.af.take i)).map (·.1):=by
    have J:(fA (p.af.take i)).map (·.1)=(p.af.map (·.name)).take i:=by simp[fA,Dx];rfl
    rw[J];have A:=fR (l:=p.af.map (·.name)) (i:=i) (by simpa using hlt);have h3:((p.af.map (·.name)).take i++(p.af.map (·.name)).drop i).Nodup:=by rw[Dw];exact hnd
    rw[A,List.getElem_map]at h3;intro h4;exact(CQ.1 h3).2.2 _ h4 _ gW rfl
   have hu:=(Fo (P:=prog) (nm:=p.af[i].name) (x:=.sl S.next 0 p.af[i].len.toNat 1) underlying117 pw hc6).1 (Kh _ _ _ _ hnew);have e5:(Y.next+2 == S.next)=false:=lO aa;have e6:(H4.next == Y.next)=false:=lO aa;have e7:(H4.next == S.next)=false:=lO aa;have e8:(S.next == Y.next)=false:=lO aa;repeat' (first
    |(apply ai ?_;clear hK K)|apply Rx.o ?_|apply aN ?_|(apply aE (fun Z V=>?_) (fun Z V=>?_)<;>try(cases Z;done))|apply ae ?_|(apply ah fun K hK=>?_)|(apply aq 7 [(3,9),(5,9),(7,9),(8,9)] fun K hK=>?_)|(apply dj 12 fun K hK=>?_)|(apply dj 20 fun K hK=>?_)|(apply aM ?_;try intro _)|(apply aR ?_ ?_<;>clear hK K)|apply aL ?_|apply bu rfl ?_|apply aj ?_|apply ak ?_|apply am ?_|apply ax ?_)
   .exact di
   .refine⟨hlt,rs++[S.next],by simp[hrl],?_,?_,?_,?_,gA,?_,eE,eE,eE,eE,eE,eE,eE,?_⟩
    .rw[CQ];refine⟨hrn,aI,fun a ha b Z=>?_⟩;simp only[wW]at Z;have:=(hrb a ha).2;omega
    .intro r hr;simp only[bG,br];rcases nN.1 hr with hr|hr
     .have:=hrb r hr;omega
     .simp only[wW]at hr;omega
    .rw[aO,au rfl];have J:fA (p.af.take (i+1))=fA (p.af.take i)++[(p.af[i].name,List.replicate p.af[i].len.toNat 0)]:=by
      unfold fA;rw[pJ,hgx,kT];rfl
     rw[J,Ki _ _ _ _ (by simp[fA,hrl];omega)];simp
    .intro j r nm' l J A;have h3:fA (p.af.take (i+1))=fA (p.af.take i)++[(p.af[i].name,List.replicate p.af[i].len.toNat 0)]:=by
      unfold fA;rw[pJ,hgx,kT];rfl
     have hzl:(fA (p.af.take i)).length=i:=by simp[fA];omega
     rw[h3]at A;by_cases hj:j<i
     .rw[lY aa]at J A;have hrm:=hrb r (fq J);rw[aO,ad aa,aP,ad aa,I _ aa];exact hrg j r nm' l J A
     .rw[nJ aa]at J A;have hj0:j=i:=by
       have:=(eu.1 J).1;simp at this;omega
      subst hj0;simp only[hrl,hzl,uA,kW,cC]at J A;rw[<-J,aO,ad aa,aP,au rfl,A.2]
    .intro r J A;rw[aO,ad A,aP,ad aa,I _ aa];exact hg4 r J A
    .simp only[gc,Nat.reduceBEq,fF,ft (show i<2^62 by omega)]
  .have hia:p.af.length<=i:=by simp at Z;omega
   rw[iR hia]at hrc hrg;have hrl2:rs.length=p.af.length:=aa;clear Z V hia hi k38 hrl k36 k37;have hm4:H4.get (Y.next+2)=some (.cells [.ai (p.af.map Ar.cells),.ai (p.funcs.map Fu.cells),.map Y.next,.map (Y.next+1),.int .i64 fuel,.int .i64 0,.int .i64 0,.ab] 0 true):=by
    rw[hg4 _ aa aa];exact hm3
   have hb04:H4.get H.next=some (.cells p.cells 0 true):=by rw[hg4 _ aa aa];exact hb03
   repeat' (first
    |(apply ai ?_;clear hK K)|apply Rx.o ?_|apply aN ?_|(apply aE (fun Z V=>?_) (fun Z V=>?_)<;>try(cases Z;done))|apply ae ?_|(apply ah fun K hK=>?_)|(apply aq 7 [(3,9),(5,9),(7,9),(8,9)] fun K hK=>?_)|(apply dj 12 fun K hK=>?_)|(apply dj 20 fun K hK=>?_)|(apply aM ?_;try intro _)|(apply aR ?_ ?_<;>clear hK K)|apply aL ?_|apply bu rfl ?_|apply aj ?_|apply ak ?_|apply am ?_|apply ax ?_)
   have hF4:H4.get (Y.next+1)=some (.map (dL [])):=by rw[hg4 _ aa aa];exact hF3
   have hb14:H4.get (H.next+1)=some qg:=by rw[hg4 _ aa aa];exact hb13
   refine jU (fun i E S=>∃m5,fI (p.funcs.drop i) i m5=fI p.funcs 0 []/\S.get (Y.next+1)=some (.map (dL m5))/\H4.next<=S.next/\(∀r,r<H4.next->r≠Y.next+1->S.get r=H4.get r) /\
    E.at 1=.ae nm/\E.at 2=av/\E.at 4=.ptr H.next 0/\E.at 8=.ptr (H.next+1) 0/\E.at 9=.ptr (Y.next+2) 0/\E.at 53=.ai (p.funcs.map Fu.cells)/\E.at 54=.int .i64 p.funcs.length/\E.at 55=.int .i64 i) p.funcs.length ?_ ?_
   .rintro i E S hi ⟨m5,hm5,hF5,hn5,I,k1,k2,kK,k8,k9,k53,k54,k55⟩;repeat' (first
     |(apply ai ?_;clear hK K)|apply Rx.o ?_|apply aN ?_|(apply aE (fun Z V=>?_) (fun Z V=>?_)<;>try(cases Z;done))|apply ae ?_|(apply ah fun K hK=>?_)|(apply aq 7 [(3,9),(5,9),(7,9),(8,9)] fun K hK=>?_)|(apply dj 12 fun K hK=>?_)|(apply dj 20 fun K hK=>?_)|(apply aM ?_;try intro _)|(apply aR ?_ ?_<;>clear hK K)|apply aL ?_|apply bu rfl ?_|apply aj ?_|apply ak ?_|apply am ?_|apply ax ?_)
    .have hlt:i<p.funcs.length:=by simpa using Z
     have hgx:p.funcs[i]?=some p.funcs[i]:=bt hlt;rw[fR hlt]at hm5;simp only[fI]at hm5;repeat' (first
      |(apply ai ?_;clear hK K)|apply Rx.o ?_|apply aN ?_|(apply aE (fun Z V=>?_) (fun Z V=>?_)<;>try(cases Z;done))|apply ae ?_|(apply ah fun K hK=>?_)|(apply aq 7 [(3,9),(5,9),(7,9),(8,9)] fun K hK=>?_)|(apply dj 12 fun K hK=>?_)|(apply dj 20 fun K hK=>?_)|(apply aM ?_;try intro _)|(apply aR ?_ ?_<;>clear hK K)|apply aL ?_|apply bu rfl ?_|apply aj ?_|apply ak ?_|apply am ?_|apply ax ?_)
     generalize hH6:Hp.set _ S.next _=H6
     have hn6:H6.next=S.next+1:=by rw[<-hH6];rfl
     have hg6:∀r,r<S.next->H6.get r=S.get r:=fun r hr=>by rw[<-hH6,aO,ad aa,aP,ad aa]
     have hb6:H6.get S.next=some (.cells p.funcs[i].cells 0 true):=by rw[<-hH6,aO,au rfl]
     have hF6:H6.get (Y.next+1)=some (.map (dL m5)):=by rw[hg6 _ aa];exact hF5
     have hm6:H6.get (Y.next+2)=some (.cells [.ai (p.af.map Ar.cells),.ai (p.funcs.map Fu.cells),.map Y.next,.map (Y.next+1),.int .i64 fuel,.int .i64 0,.int .i64 0,.ab] 0 true):=by
      rw[hg6 _ aa,I _ aa aa];exact hm4
     clear hH6;have hu:=yS (P:=prog) underlying98 pw hF6 p.funcs[i].name i;repeat' (first
      |(apply ai ?_;clear hK K)|apply Rx.o ?_|apply aN ?_|(apply aE (fun Z V=>?_) (fun Z V=>?_)<;>try(cases Z;done))|apply ae ?_|(apply ah fun K hK=>?_)|(apply aq 7 [(3,9),(5,9),(7,9),(8,9)] fun K hK=>?_)|(apply dj 12 fun K hK=>?_)|(apply dj 20 fun K hK=>?_)|(apply aM ?_;try intro _)|(apply aR ?_ ?_<;>clear hK K)|apply aL ?_|apply bu rfl ?_|apply aj ?_|apply ak ?_|apply am ?_|apply ax ?_)
     refine⟨hlt,_,hm5,iG,iE,fun r J A=>?_,eE,eE,eE,eE,eE,eE,eE,?_⟩
     .rw[aO,ad A,hg6 _ aa];exact I r J A
     .simp only[gc,Nat.reduceBEq,fF,ft (show i<2^62 by omega)]
    .have hia:p.funcs.length<=i:=by simp at Z;omega
     rw[oN hia]at hm5;simp only[fI]at hm5;subst hm5;clear Z V hia hi k55 k53 k54;have hm5:S.get (Y.next+2)=some (.cells [.ai (p.af.map Ar.cells),.ai (p.funcs.map Fu.cells),.map Y.next,.map (Y.next+1),.int .i64 fuel,.int .i64 0,.int .i64 0,.ab] 0 true):=by
      rw[I _ aa aa];exact hm4
     have hb05:S.get H.next=some (.cells p.cells 0 true):=by rw[I _ aa aa];exact hb04
     have hb15:S.get (H.next+1)=some qg:=by rw[I _ aa aa];exact hb14
     have O:∀r∈rs,H3.next<=r/\r<H4.next:=hrb
     have hR5:zc9 ⟨p,Y.next+2,Y.next,Y.next+1,rs,fI p.funcs 0 []⟩ S (ol p fuel) .ab:={
      m:=hm5
      c:=by show S.get Y.next=_;rw[I _ aa aa];exact hrc
      f:=hF5
      len:=by simp[ol,fA,hrl2]
      cell:=fun j r nm l J A=>by
       have hrm:=O r (fq J);rw[I _ aa aa];exact hrg j r nm l J A
      out:=.inl ⟨rfl,rfl⟩
      lm:=by show Y.next+2<S.next;omega
      lc:=by show Y.next<S.next;omega
      lf:=by show Y.next+1<S.next;omega
      ls:=fun r hr=>by have:=O r hr;omega
      dQ:=by show Y.next+2≠Y.next;omega
      mf:=by show Y.next+2≠Y.next+1;omega
      ms:=fun hr=>Gw
      cf:=by show Y.next≠Y.next+1;omega
      cs:=fun hr=>Gw
      fs:=fun hr=>Gw
      nd:=hrn}
     have hlk:=Kg (P:=prog) underlying98 pw (show lU prog 3=some (.int .i64 0) by kernel_rfl) hF5 nm;have hx0:∀b,Ab.extract (.aW [.int .i64 (de (fI p.funcs 0 []) nm),.bool b]) 0=some (.int .i64 (de (fI p.funcs 0 []) nm)):=fun _=>rfl;have hx1:∀b,Ab.extract (.aW [.int .i64 (de (fI p.funcs 0 []) nm),.bool b]) 1=some (.bool b):=fun _=>rfl;have hlen:∀H',gj prog H' 27 av=_:=fun H'=>hav.len underlying27;have hold:∀r,r<H.next->S.get r=H.get r:=fun r hr=>by
      rw[I _ aa aa,hg4 _ aa aa,hg3 _ aa,hg2 _ hr]
     rcases hq with⟨f,r,n,hhas,hk0,hk,hpl,hc,ho,rfl⟩|⟨rfl,hno⟩
     .rw[hhas]at hlk;repeat' (first
       |(apply ai ?_;clear hK K)|apply Ry.o ?_|apply bP ?_|(apply cE (fun C U=>?_) (fun C U=>?_)<;>try(cases C;done))|(apply a2 (fun Z V=>?_) (fun Z V=>?_)<;>try(cases Z;done))|apply ae ?_|(apply ah fun K hK=>?_)|(apply aq 7 [(3,9),(5,9),(7,9),(8,9)] fun K hK=>?_)|(apply dj 12 fun K hK=>?_)|(apply dj 20 fun K hK=>?_)|(apply aM ?_;try intro _)|(apply aR ?_ ?_<;>clear hK K)|apply aL ?_|apply bu rfl ?_|apply aj ?_|apply ak ?_|apply am ?_|apply ax ?_)
      refine qa ?_;have hav5:mj S av al:=hav.mono fun r hr=>hold r (halt r hr);refine a4 ?_ ((zaO hS ⟨p,Y.next+2,Y.next,Y.next+1,rs,fI p.funcs 0 []⟩ hz n).2.2 _ al _ r hc ho hal av .ab S hR5 hav5 (fun b Z=>by have:=halt b Z;omega));rintro v H6 ⟨rfl,ov6,hR6,hf6⟩;have hn6:=hf6.next
      have nown:∀r,r<Y.next->¬Mx.own ⟨p,Y.next+2,Y.next,Y.next+1,rs,fI p.funcs 0 []⟩ r:=fun r hr e=>by
       rcases e with e|e
       .simp only[]at e;omega
       .have:=O r e;omega
      have nout:∀r,¬iL .ab r:=fun r ⟨k,e⟩=>by simp at e
      have hg6:∀r,r<Y.next->H6.get r=S.get r:=fun r hr=>hf6.get r aa (nown r hr) (nout r) (fun e=>e)
      have hb16:H6.get (H.next+1)=some qg:=by rw[hg6 _ aa];exact hb15
      have m6:=hR6.m;unfold fy at m6;simp only[]at m6;have F:∀(b:HB),oh (H6.set (H.next+1) b) ov6 r.2.out:=fun b=>by
       rcases hR6.out with⟨J,A⟩|⟨ro,J,A,h3,h4,h5,h6⟩
       .exact .inl ⟨J,A⟩
       .refine .inr ⟨ro,J,?_⟩;rcases hf6.out ro ⟨_,J⟩with e|e
        .exact(nout _ e).elim
        .rw[aO,ad aa];exact A
      have hblt:∀k,pe ov6 k->k<H6.next:=fun k ⟨o,n,z,e⟩=>by
       rcases hR6.out with⟨J,_⟩|⟨ro,J,A,h3,_⟩
       .rw[J]at e;simp at e
       .rw[J]at e;simp only[AV.sl.injEq]at e;omega
      have hov:ov6=.ab\/∃r o n z,ov6=.sl r o n z:=by
       rcases hR6.out with⟨J,A⟩|⟨ro,J,_⟩
       .exact .inl J
       .exact .inr ⟨_,_,_,_,J⟩
      dsimp only[a0];by_cases h2f:r.2.aK=2
      .have he:j0 r=⟨2,r.2.aw,r.2.out,0⟩:=by simp only[j0,h2f,bw]
       rcases hov with rfl|⟨ro,oo,no,zo,rfl⟩
       .repeat' (first
         |(apply ai ?_;clear hK K)|apply Ry.o ?_|apply bP ?_|(apply cE (fun C U=>?_) (fun C U=>?_)<;>try(cases C;done))|(apply a2 (fun Z V=>?_) (fun Z V=>?_)<;>try(cases Z;done))|apply ae ?_|(apply ah fun K hK=>?_)|(apply aq 7 [(3,9),(5,9),(7,9),(8,9)] fun K hK=>?_)|(apply dj 12 fun K hK=>?_)|(apply dj 20 fun K hK=>?_)|(apply aM ?_;try intro _)|(apply aR ?_ ?_<;>clear hK K)|apply aL ?_|apply bu rfl ?_|apply aj ?_|apply ak ?_|apply am ?_|apply ax ?_)
        refine⟨aC,_,(by(try simp only[aK,aW,Nat.reduceBEq,Nat.reduceAdd,Nat.reduceLeDiff,tyF,bU,cc,jJ, *]);first|done|with_reducible rfl),?_⟩;try simp only[aB]
        exact by rw[he];exact⟨_,rfl,F _,hblt⟩
       .repeat' (first
         |(apply ai ?_;clear hK K)|apply Ry.o ?_|apply bP ?_|(apply cE (fun C U=>?_) (fun C U=>?_)<;>try(cases C;done))|(apply a2 (fun Z V=>?_) (fun Z V=>?_)<;>try(cases Z;done))|apply ae ?_|(apply ah fun K hK=>?_)|(apply aq 7 [(3,9),(5,9),(7,9),(8,9)] fun K hK=>?_)|(apply dj 12 fun K hK=>?_)|(apply dj 20 fun K hK=>?_)|(apply aM ?_;try intro _)|(apply aR ?_ ?_<;>clear hK K)|apply aL ?_|apply bu rfl ?_|apply aj ?_|apply ak ?_|apply am ?_|apply ax ?_)
        refine⟨aC,_,(by(try simp only[aK,aW,Nat.reduceBEq,Nat.reduceAdd,Nat.reduceLeDiff,tyF,bU,cc,jJ, *]);first|done|with_reducible rfl),?_⟩;try simp only[aB]
        exact by rw[he];exact⟨_,rfl,F _,hblt⟩
      .by_cases h3f:r.2.aK=3
       .have he:j0 r=⟨3,0,r.2.out,0⟩:=by simp only[j0,h3f];rfl
        rcases hov with rfl|⟨ro,oo,no,zo,rfl⟩
        .repeat' (first
          |(apply ai ?_;clear hK K)|apply Ry.o ?_|apply bP ?_|(apply cE (fun C U=>?_) (fun C U=>?_)<;>try(cases C;done))|(apply a2 (fun Z V=>?_) (fun Z V=>?_)<;>try(cases Z;done))|apply ae ?_|(apply ah fun K hK=>?_)|(apply aq 7 [(3,9),(5,9),(7,9),(8,9)] fun K hK=>?_)|(apply dj 12 fun K hK=>?_)|(apply dj 20 fun K hK=>?_)|(apply aM ?_;try intro _)|(apply aR ?_ ?_<;>clear hK K)|apply aL ?_|apply bu rfl ?_|apply aj ?_|apply ak ?_|apply am ?_|apply ax ?_)
         refine⟨aC,_,(by(try simp only[aK,aW,Nat.reduceBEq,Nat.reduceAdd,Nat.reduceLeDiff,tyF,bU,cc,jJ, *]);first|done|with_reducible rfl),?_⟩;try simp only[aB]
         exact by rw[he];exact⟨_,rfl,F _,hblt⟩
        .repeat' (first
          |(apply ai ?_;clear hK K)|apply Ry.o ?_|apply bP ?_|(apply cE (fun C U=>?_) (fun C U=>?_)<;>try(cases C;done))|(apply a2 (fun Z V=>?_) (fun Z V=>?_)<;>try(cases Z;done))|apply ae ?_|(apply ah fun K hK=>?_)|(apply aq 7 [(3,9),(5,9),(7,9),(8,9)] fun K hK=>?_)|(apply dj 12 fun K hK=>?_)|(apply dj 20 fun K hK=>?_)|(apply aM ?_;try intro _)|(apply aR ?_ ?_<;>clear hK K)|apply aL ?_|apply bu rfl ?_|apply aj ?_|apply ak ?_|apply am ?_|apply ax ?_)
         refine⟨aC,_,(by(try simp only[aK,aW,Nat.reduceBEq,Nat.reduceAdd,Nat.reduceLeDiff,tyF,bU,cc,jJ, *]);first|done|with_reducible rfl),?_⟩;try simp only[aB]
         exact by rw[he];exact⟨_,rfl,F _,hblt⟩
       .have he:j0 r=⟨1,0,r.2.out,r.1⟩:=by simp only[j0,h2f,h3f,bH]
        rcases hov with rfl|⟨ro,oo,no,zo,rfl⟩
        .repeat' (first
          |(apply ai ?_;clear hK K)|apply Ry.o ?_|apply bP ?_|(apply cE (fun C U=>?_) (fun C U=>?_)<;>try(cases C;done))|(apply a2 (fun Z V=>?_) (fun Z V=>?_)<;>try(cases Z;done))|apply ae ?_|(apply ah fun K hK=>?_)|(apply aq 7 [(3,9),(5,9),(7,9),(8,9)] fun K hK=>?_)|(apply dj 12 fun K hK=>?_)|(apply dj 20 fun K hK=>?_)|(apply aM ?_;try intro _)|(apply aR ?_ ?_<;>clear hK K)|apply aL ?_|apply bu rfl ?_|apply aj ?_|apply ak ?_|apply am ?_|apply ax ?_)
         refine⟨aC,_,(by(try simp only[aK,aW,Nat.reduceBEq,Nat.reduceAdd,Nat.reduceLeDiff,tyF,bU,cc,jJ, *]);first|done|with_reducible rfl),?_⟩;try simp only[aB]
         exact by rw[he];exact⟨_,rfl,F _,hblt⟩
        .repeat' (first
          |(apply ai ?_;clear hK K)|apply Ry.o ?_|apply bP ?_|(apply cE (fun C U=>?_) (fun C U=>?_)<;>try(cases C;done))|(apply a2 (fun Z V=>?_) (fun Z V=>?_)<;>try(cases Z;done))|apply ae ?_|(apply ah fun K hK=>?_)|(apply aq 7 [(3,9),(5,9),(7,9),(8,9)] fun K hK=>?_)|(apply dj 12 fun K hK=>?_)|(apply dj 20 fun K hK=>?_)|(apply aM ?_;try intro _)|(apply aR ?_ ?_<;>clear hK K)|apply aL ?_|apply bu rfl ?_|apply aj ?_|apply ak ?_|apply am ?_|apply ax ?_)
         refine⟨aC,_,(by(try simp only[aK,aW,Nat.reduceBEq,Nat.reduceAdd,Nat.reduceLeDiff,tyF,bU,cc,jJ, *]);first|done|with_reducible rfl),?_⟩;try simp only[aB]
         exact by rw[he];exact⟨_,rfl,F _,hblt⟩
     .have hb15':=hb15;have hzo:∀H:Hp,vj H (.agg [.int .i64 0,.int .i64 0,.ab,.int .i64 0]) ⟨0,0,[],0⟩:=fun H=>⟨.ab,rfl,.inl ⟨rfl,rfl⟩,fun k ⟨_,_,_,e⟩=>by cases e⟩;rcases hno with hhas|⟨f,hhas,hk0,hk,hpl⟩
      .rw[hhas]at hlk;repeat' (first
        |(apply ai ?_;clear hK K)|apply Ry.o ?_|apply bP ?_|(apply cE (fun C U=>?_) (fun C U=>?_)<;>try(cases C;done))|(apply a2 (fun Z V=>?_) (fun Z V=>?_)<;>try(cases Z;done))|apply ae ?_|(apply ah fun K hK=>?_)|(apply aq 7 [(3,9),(5,9),(7,9),(8,9)] fun K hK=>?_)|(apply dj 12 fun K hK=>?_)|(apply dj 20 fun K hK=>?_)|(apply aM ?_;try intro _)|(apply aR ?_ ?_<;>clear hK K)|apply aL ?_|apply bu rfl ?_|apply aj ?_|apply ak ?_|apply am ?_|apply ax ?_)
       refine⟨aC,_,(by(try simp only[aK,aW,Nat.reduceBEq,Nat.reduceAdd,Nat.reduceLeDiff,tyF,bU,cc,jJ, *]);first|done|with_reducible rfl),?_⟩;try simp only[aB]
       exact hzo _
      .rw[hhas]at hlk;have hpl':¬(f.params.length:Int)=al.length:=aa;repeat' (first
        |(apply ai ?_;clear hK K)|apply Ry.o ?_|apply bP ?_|(apply cE (fun C U=>?_) (fun C U=>?_)<;>try(cases C;done))|(apply a2 (fun Z V=>?_) (fun Z V=>?_)<;>try(cases Z;done))|apply ae ?_|(apply ah fun K hK=>?_)|(apply aq 7 [(3,9),(5,9),(7,9),(8,9)] fun K hK=>?_)|(apply dj 12 fun K hK=>?_)|(apply dj 20 fun K hK=>?_)|(apply aM ?_;try intro _)|(apply aR ?_ ?_<;>clear hK K)|apply aL ?_|apply bu rfl ?_|apply aj ?_|apply ak ?_|apply am ?_|apply ax ?_)
       refine⟨aC,_,(by(try simp only[aK,aW,Nat.reduceBEq,Nat.reduceAdd,Nat.reduceLeDiff,tyF,bU,cc,jJ, *]);first|done|with_reducible rfl),?_⟩;try simp only[aB]
       exact hzo _
   .exact⟨[],rfl,hF4,aT _,fun _ _ _=>rfl,eE,eE,eE,eE,eE,eE,eE,eE⟩
 .refine⟨[],rfl,FW,fun r hr=>by simp at hr,hc3,fun j r nm l J A=>by simp at J,aT _,fun _ _ _=>rfl,eE,eE,eE,eE,eE,eE,eE,eE⟩
theorem zbd(U:zdd x.p)(J:0<=x.aC)(K:x.aC<=1000)(V:x.p.sz<2^34)(Y:x.al.length<2^34):Ob x.p x.nm x.al x.aC (gi x):=by
 have S:fJ (kH x.p) x.nm=bC (x.p.funcs.map (·.name)) x.nm:=N6 _;by_cases I:kI x=true
 .have hx:=kI.ok I V Y;have C:=hx.fw;have hr:gi x=j0 (Classical.choose C):=N9;obtain⟨n,hc,o⟩:=uY C;obtain⟨f,j,O⟩:=hx.fn;exact .inl ⟨f,_,n,hx.has,hx.k0,j,O,hc,aa,hr⟩
 .refine .inr ⟨by rw[gi,ad I],?_⟩;by_cases Z:0<=cm x.p.funcs x.nm 0
  .have M:=(CU x.p.funcs x.nm 0).1 Z;have A:de (kH x.p) x.nm=cm x.p.funcs x.nm 0:=U.ok.fn _ Z;obtain⟨f,F,f2⟩:=zd (p:=x.p) (nm:=x.nm) (m:=j3 x.p x.nm) Z rfl;refine .inr ⟨f,S.trans M,by show 0<=de (kH x.p) x.nm;rw[A];exact Z,by show x.p.funcs[(de (kH x.p) x.nm).toNat]?=_;rw[A];exact F,fun e=>I ?_⟩;simp only[kI,jj];exact⟨⟨⟨⟨U.check,J⟩,K⟩,Z⟩,aa⟩
  .refine .inl (S.trans ?_);cases z:bC (x.p.funcs.map (·.name)) x.nm with
   |false=>rfl
   |true=>exact(Z ((CU x.p.funcs x.nm 0).2 z)).elim
set_option maxRecDepth 100000 in
def zbe(x:zdh)(F:x.p.sz<2^34)(S:x.al.length<2^34):aU prog (aF pls [uc]) 23 (j9 x) bV fun v H'=>vj H' v (gi x):=by
 have Y:∀H,aU prog (aF pls [uc]) 38 [.agg x.p.cells] H fun v H'=>v=.int .i64 (gK x.p)/\H'=H:=fun H=>cp (enc:=fB) (ok:=fun p=>p.sz<2^36) (out:=fun p=>.int .i64 (gK p)) pi (x:=x.p) rfl aa;have U:∀H:Hp,vj H (.agg [.int .i64 0,.int .i64 0,.ab,.int .i64 0]) ⟨0,0,[],0⟩:=fun H=>⟨.ab,rfl,.inl ⟨rfl,rfl⟩,fun k ⟨_,_,_,e⟩=>by cases e⟩;by_cases hc:gK x.p=0
 .by_cases m:0<=x.aC/\x.aC<=1000
  .have O:=L2 hc;exact zbc Gv x.p aa O.fR O.arr (fun H=>a4 (fun v H' h=>⟨by rw[h.1,hc],by rw[h.2];exact iu _ _⟩) (Y H)) x.nm x.al x.aC m.1 m.2 (zbd O m.1 m.2 F S) aa (gG x.al) bV (.inr (.inl rfl)) (fun b z=>by simp[gG,pe]at z)
  .have J:gi x=⟨0,0,[],0⟩:=by
    rw[gi,ad];simp only[kI,jj];omega
   rw[J,j9];have hS:=Gv;have o:¬x.aC<0->1000<x.aC:=fun h=>aa;by_cases I:x.aC<0
   .refine a5 (M:=124) (rs:=[.cell 8 51]) ((hS.plain _ rfl).call _) (hS.plain _ rfl).ao (hS.plain _ rfl).am func23 rfl rfl ub.2 rfl ?_;dsimp only[ub,a3,Nat.reduceAdd];repeat' (first
     |(apply ai ?_;clear hK K)|apply Ry.o ?_|apply bP ?_|(apply cU ?_;first|refine aY (Y _) ?_)|(apply cE (fun C Z=>?_) (fun C Z=>?_)<;>try(cases C;done))|(apply a2 (fun z V=>?_) (fun z V=>?_)<;>try(cases z;done))|apply ae ?_|(apply ah fun K hK=>?_)|apply am ?_)
    refine⟨aC,_,(by(try simp only[aK,aW,Nat.reduceBEq,Nat.reduceAdd,Nat.reduceLeDiff,tyF,bU,cc,jJ, *]);first|done|with_reducible rfl),?_⟩;try simp only[aB]
    exact U _
   .have A:=o I;refine a5 (M:=124) (rs:=[.cell 8 51]) ((hS.plain _ rfl).call _) (hS.plain _ rfl).ao (hS.plain _ rfl).am func23 rfl rfl ub.2 rfl ?_;dsimp only[ub,a3,Nat.reduceAdd];repeat' (first
     |(apply ai ?_;clear hK K)|apply Ry.o ?_|apply bP ?_|(apply cU ?_;first|refine aY (Y _) ?_)|(apply cE (fun C Z=>?_) (fun C Z=>?_)<;>try(cases C;done))|(apply a2 (fun z V=>?_) (fun z V=>?_)<;>try(cases z;done))|apply ae ?_|(apply ah fun K hK=>?_)|apply am ?_)
    refine⟨aC,_,(by(try simp only[aK,aW,Nat.reduceBEq,Nat.reduceAdd,Nat.reduceLeDiff,tyF,bU,cc,jJ, *]);first|done|with_reducible rfl),?_⟩;try simp only[aB]
    exact U _
 .have J:gi x=⟨0,0,[],0⟩:=by
   rw[gi,ad];simp only[kI,jj];omega
  rw[J,j9];have hS:=Gv;refine a5 (M:=124) (rs:=[.cell 8 51]) ((hS.plain _ rfl).call _) (hS.plain _ rfl).ao (hS.plain _ rfl).am func23 rfl rfl ub.2 rfl ?_;dsimp only[ub,a3,Nat.reduceAdd];repeat' (first
   |(apply ai ?_;clear hK K)|apply Ry.o ?_|apply bP ?_|(apply cU ?_;first|refine aY (Y _) ?_)|(apply cE (fun C Z=>?_) (fun C Z=>?_)<;>try(cases C;done))|(apply a2 (fun z V=>?_) (fun z V=>?_)<;>try(cases z;done))|apply ae ?_|(apply ah fun K hK=>?_)|apply am ?_)
  refine⟨aC,_,(by(try simp only[aK,aW,Nat.reduceBEq,Nat.reduceAdd,Nat.reduceLeDiff,tyF,bU,cc,jJ, *]);first|done|with_reducible rfl),?_⟩;try simp only[aB]
  exact U _
def zbf(x:zdh)(O:zdm x):bJ prog ρ 23 (j9 x) (ik (gi x)):=
 N4 (m:=4) (n:=4) (cfg:=aF pls [uc]) fit (mL ρ) (fun g I r C=>eU.bS (l:=[uc]) ⟨za2 ρ,trivial⟩ g I r C) (.cons (.agg x.p.pure) (.cons (.ae _) (.cons (.map fun n _=>.cons (.int _ _) .nil) (.cons (.int _ _) .nil))))
  (a4 (fun v H' h=>N7 h) (zbe x O.sz O.al))
noncomputable def Od:En:=⟨23,true,bS zdm j9 fun x=>ik (gi x)⟩
def zbg:cS prog ρ Od:=cZ fun x hx=>zbf ρ x hx
end
section
def tySameO.tyF:=ac @dF (ac @cI (ac @jH (@pR)))
open tySameO
noncomputable def Oe:{c:SC // aG 52 (f21.body.getD .skip)=c}:=by
 refine⟨?_,?_⟩;rotate_left
 .simp only[f21,bE,aG,bz,bq,bF,bB,Nat.blt,Nat.ble];rfl
def Of(o:Oc):fj (ik o):=.agg (.cons (.int _ _) (.cons (.int _ _) (.cons (zC _) (.cons (.int _ _) .nil))))
set_option maxRecDepth 100000 in
def zbh(o:Oc)(A:o.out.length<2^60):bJ prog ρ 21 [ik o,ik o] (.bool true):=eG fit (pls:=pls) (l:=[]) trivial (.cons (Of o) (.cons (Of o) .nil)) (.bool _) (by
 have J:=eZ 21;obtain⟨k,c,C,val⟩:=o;rw[ik,gG];simp only at A⊢;have F:(C.map fun n=>[AV.int .i64 n]).length=C.length:=aI;refine a5 (M:=52) (rs:=[.tmp 4]) (J.call _) J.ao J.am func21 rfl rfl Oe.2 rfl ?_;dsimp only[Oe,a3,Nat.reduceAdd];repeat' (first
  |(apply ai ?_;clear hK K)|apply Rx.o ?_|(apply aX (fun Z Y=>?_) (fun Z Y=>?_)<;>try(cases Z;done))|(apply aE (fun z V=>?_) (fun z V=>?_)<;>try(cases z;done))|apply ae ?_|(apply ah fun K hK=>?_)|(apply aq 6 [(1,11),(4,11),(6,11),(9,11)] fun K hK=>?_)|(apply aM ?_;try intro _)|(apply aR ?_ ?_<;>clear hK K)|apply aL ?_|apply aj ?_|apply ak ?_|apply am ?_|apply ax ?_)
 refine dG [2,3] [0,1] 5 C.length (fun i E H=>True) eE trivial ?_;rintro i E H2 hi S U O j hJ;(try simp only[bL,bK,bb,aK,aW,Nat.reduceBEq,Nat.reduceAdd,Nat.reduceLeDiff,tyF, *]at S);(try simp only[bL,bK,bb,aK,aW,Nat.reduceBEq,Nat.reduceAdd,Nat.reduceLeDiff,tyF, *]at U);(try simp only[br,bG,cR,bR,Nat.reduceAdd]at O);repeat' (first
  |(apply ai ?_;clear hK K)|apply Rx.o ?_|(apply aX (fun Z Y=>?_) (fun Z Y=>?_)<;>try(cases Z;done))|(apply aE (fun z V=>?_) (fun z V=>?_)<;>try(cases z;done))|apply ae ?_|(apply ah fun K hK=>?_)|(apply aq 6 [(1,11),(4,11),(6,11),(9,11)] fun K hK=>?_)|(apply aM ?_;try intro _)|(apply aR ?_ ?_<;>clear hK K)|apply aL ?_|apply aj ?_|apply ak ?_|apply am ?_|apply ax ?_)
 .have I:i<C.length:=by simpa using z
  have m:(C.map fun n=>[AV.int .i64 n])[i]?=some [.int .i64 C[i]]:=by rw[ev,bt I];rfl
  obtain⟨g0,g1⟩:=U;repeat' (first
   |(apply ai ?_;clear hK K)|apply Rx.o ?_|(apply aX (fun Z Y=>?_) (fun Z Y=>?_)<;>try(cases Z;done))|(apply aE (fun z V=>?_) (fun z V=>?_)<;>try(cases z;done))|apply ae ?_|(apply ah fun K hK=>?_)|(apply aq 6 [(1,11),(4,11),(6,11),(9,11)] fun K hK=>?_)|(apply aM ?_;try intro _)|(apply aR ?_ ?_<;>clear hK K)|apply aL ?_|apply aj ?_|apply ak ?_|apply am ?_|apply ax ?_)
  .exact di
  .refine⟨aa,bM,bM,dr,(by simp only[aK,Nat.reduceBEq, *];exact jV (n:=C.length) aa aa),?_⟩;trivial
 .all_goals refine qq ?_
  all_goals trivial)
end
section
def tyN6j.tyF:=ac @cI (ac @fg (ac @fh (@eL)))
open tyN6j
noncomputable def CW:{c:SC // aG 22 (f11.body.getD .skip)=c}:=by
 refine⟨?_,?_⟩;rotate_left
 .simp only[f11,bE,aG,bz,bq,bF,bB,Nat.blt,Nat.ble];rfl
def Og(h:zdm x):(gi x).out.length<2^60:=by
 by_cases I:kI x=true
 .have C:=(kI.ok I h.sz h.al).fw;have hr:gi x=j0 (Classical.choose C):=N9;obtain⟨n,hc,M⟩:=uY C;rw[hr,Wl];omega
 .rw[gi,ad I];decide
noncomputable def Oh:En:=⟨21,false,bS (fun o=>o.out.length<2^60) (fun o=>[ik o,ik o]) fun _=>.bool true⟩
def zbi:cS prog ρ Oh:=cZ fun o M=>zbh ρ o M
noncomputable def zE:qu:=[Od,N8,Oh]
def zbj:eU prog ρ zE:=⟨zbg ρ,zbb ρ,zbi ρ,trivial⟩
def zbk(x y:Oc)(h:([ik x,ik x]:qm)=[ik y,ik y]):x=y:=by
 simp only[ik,ew,AV.agg.injEq,AV.int.injEq,iw]at h;obtain⟨⟨j,m,A,O⟩,_⟩:=h;obtain⟨a,b,c,d⟩:=x;obtain⟨z,b',Z,Y⟩:=y;simp only[]at j m A O;rw[j,m,O,CT A]
set_option maxRecDepth 100000 in
def zbl(x:zdh)(O:zdm x):bJ prog ρ 11 (j9 x) (.bool true):=eG fit (pls:=pls) (zbj ρ) (.cons (.agg x.p.pure) (.cons (.ae _) (.cons (zC _) (.cons (.int _ _) .nil)))) (.bool _) (by
 have J:zc7 (aF pls zE) 11:=dZ (fun _=>rfl) rfl;have Y:∀y:zdh,zdm y->∀H,aU prog (aF pls zE) 23 [.agg y.p.cells,.ae y.nm,gG y.al,.int .i64 y.aC] H fun v H'=>v=ik (gi y)/\H'=H:=fun y hy H=>cp (enc:=j9) (ok:=zdm) (out:=fun x=>ik (gi x)) Gt (x:=y) rfl hy;have U:∀y:zdh,zdm y->∀H,aU prog (aF pls zE) 31 [.agg y.p.cells,.ae y.nm,gG y.al,.int .i64 y.aC] H fun v H'=>v=ik (gi y)/\H'=H:=fun y hy H=>cp (enc:=j9) (ok:=zdm) (out:=fun x=>ik (gi x)) Gt (x:=y) rfl hy;have S:∀o:Oc,o.out.length<2^60->∀H,aU prog (aF pls zE) 21 [ik o,ik o] H fun v H'=>v=.bool true/\H'=H:=fun o I H=>cp (enc:=fun o=>[ik o,ik o]) (ok:=fun o:Oc=>o.out.length<2^60) (out:=fun _=>.bool true) zbk (x:=o) rfl I;obtain⟨p,C,al,Z⟩:=x;have A:(bV.alloc (.cells p.cells 0 true)).get 0=some (.cells p.cells 0 true):=by simp[aP,cR]
 rw[j9];simp only[];by_cases F:50<Z
 .have z:zdm ⟨p,C,al,1001⟩:=⟨O.sz,O.al⟩;have k1:=fun H=>Y _ z H;have k2:=fun H=>U _ z H;have lT:=fun H=>S _ (Og z) H;simp only[]at k1 k2;refine a5 (M:=22) (rs:=[.tmp 8]) (J.call _) J.ao J.am func11 rfl rfl CW.2 rfl ?_;dsimp only[CW,a3,Nat.reduceAdd];repeat' (first
   |(apply ai ?_;clear hK K)|apply Ry.o ?_|(apply cU ?_;first|refine aY (k1 _) ?_|refine aY (k2 _) ?_|refine aY (lT _) ?_)|(apply a2 (fun z V=>?_) (fun z V=>?_)<;>try(cases z;done))|apply ae ?_|(apply ah fun K hK=>?_)|(apply aq 3 [(0,4),(5,4),(5,9)] fun K hK=>?_)|(apply aM ?_;try intro _)|(apply aR ?_ ?_<;>clear hK K)|apply aL ?_|apply ak ?_|apply am ?_)
  .exact di
  all_goals refine qq ?_
  all_goals trivial
 .have k1:=fun H=>Y _ O H;have k2:=fun H=>U _ O H;have lT:=fun H=>S _ (Og O) H;simp only[]at k1 k2;refine a5 (M:=22) (rs:=[.tmp 8]) (J.call _) J.ao J.am func11 rfl rfl CW.2 rfl ?_;dsimp only[CW,a3,Nat.reduceAdd];repeat' (first
   |(apply ai ?_;clear hK K)|apply Ry.o ?_|(apply cU ?_;first|refine aY (k1 _) ?_|refine aY (k2 _) ?_|refine aY (lT _) ?_)|(apply a2 (fun z V=>?_) (fun z V=>?_)<;>try(cases z;done))|apply ae ?_|(apply ah fun K hK=>?_)|(apply aq 3 [(0,4),(5,4),(5,9)] fun K hK=>?_)|(apply aM ?_;try intro _)|(apply aR ?_ ?_<;>clear hK K)|apply aL ?_|apply ak ?_|apply am ?_)
  .exact di
  all_goals refine qq ?_
  all_goals trivial)
noncomputable def Oi:En:=⟨11,true,bS zdm j9 fun _=>.bool true⟩
def zbm:cS prog ρ Oi:=cZ fun x hx=>zbl ρ x hx
end
section
def i9(n:Int):Prop:=-9223372036854775808<=n/\n<9223372036854775808
mutual
def dO:Ex->Prop
 | .mk _ n _ _ M=>i9 n/\dE M
def dE:qz->Prop
 |[]=>True
 |e::es=>dO e/\dE es
end
mutual
def eJ:St->Prop
 | .mk _ _ _ _ a v j U V=>dO a/\dO v/\dE j/\cK U/\cK V
def cK:qt->Prop
 |[]=>True
 |x::l=>eJ x/\cK l
end
def zF:qo:=[[97],[98]]
def Oj(f:Int){m:Int}(h:0<=m):(co f).getD (m.tmod (co f).length).toNat []∈co f:=by
 have K:((co f).length:Int)≠0:=by unfold co;split<;>simp
 have:=(ry (co f) K h []).2;exact fq this
def Ok(f:Int){s:qr}(h:s∈co f):cX s=true/\bC (co f) s=true:=by
 unfold co at h⊢;split at h<;>simp only[fY,nj,pu]at h
 .rename_i e;rw[au e];rcases h with rfl|rfl|rfl|rfl<;>exact⟨aA,aA⟩
 .rename_i e;rw[ad e];rcases h with rfl|rfl<;>exact⟨aA,aA⟩
def Ol(m:Int):cX (sw m)=true/\bC zF (sw m)=true:=by
 unfold sw;split<;>exact⟨aA,aA⟩
def zbn(m:Int):cX (j8 m)=true:=by
 unfold j8;split<;>kernel_rfl
structure zdC (f:Int) (k:Nat) (x:Ex):Prop where
 wf:eB x=true
 df:dN (co f) zF x=true
 dp:cG x<=k
theorem ue(f:Int):∀(k F:Nat) (L:qp),5<=F+k->F<=4->zdC f k (bO f k F L).1
 |0,F,L,h1,h2=>by omega
 |k+1,F,L,h1,h2=>by
  have ih:F<=3->∀L,zdC f k (bO f k (F+1) L).1:=fun hd L=>ue f k (F+1) L aa aa;have U:=fb (n:=(bZ L).1) (m:=16) aa aa;have Y:=fb (n:=bA ((bZ L).1.tdiv 16)) (m:=1000) aa aa;simp only[bO];generalize aZ (bZ L).1 16=q at U⊢;generalize aZ (bA ((bZ L).1.tdiv 16)) 1000=m at Y⊢;split
  .split
   .obtain⟨dl,o⟩:=Ok f (Oj f Y.1);generalize (co f).getD (m.tmod (co f).length).toNat []=C at dl o⊢;refine⟨?_,?_,by simp[cG,iM]⟩
    .simp[eB,eh,ml,Ex.ag,Ex.ak,Ex.n,Ex.op,Ex.name,dl]
    .simp[dN,eM,iA,Ex.ag,Ex.name,o]
   .exact⟨by simp[eB,eh,ml,Ex.ag,Ex.ak,Ex.n,Ex.op,Ex.name],by simp[dN,eM,iA,Ex.ag,Ex.name],by simp[cG,iM]⟩
  .rename_i S;have hd:F<=3:=aa;have ih:=ih hd;obtain⟨b7,ci⟩:=Ol m;split
   .have Z:=ih (bZ L).2;refine⟨?_,?_,?_⟩
    .simp[eB,eh,ml,Ex.ag,Ex.ak,Ex.n,Ex.op,Ex.name,b7,Z.wf]
    .simp[dN,eM,iA,Ex.ag,Ex.name,ci,Z.df]
    .have:=Z.dp;simp only[cG,iM];omega
   .split
    .have Z:=ih (bZ L).2;have I:=ih (bO f k (F+1) (bZ L).2).2;have V:=ih (bO f k (F+1) (bO f k (F+1) (bZ L).2).2).2;refine⟨?_,?_,?_⟩
     .simp[eB,eh,ml,Ex.ag,Ex.ak,Ex.n,Ex.op,Ex.name,Z.wf,I.wf,V.wf]
     .simp[dN,eM,iA,Ex.ag,Ex.name,Z.df,I.df,V.df]
     .have:=Z.dp;have:=I.dp;have:=V.dp;simp only[cG,iM];omega
    .split
     .have Z:=ih (bZ L).2;have M:xl m=20\/xl m=21:=by unfold xl;split<;>simp
      refine⟨?_,?_,?_⟩
      .rcases M with M|M<;>simp[eB,eh,ml,Ex.ag,Ex.ak,Ex.n,Ex.op,Ex.name,Z.wf,M]
      .simp[dN,eM,iA,Ex.ag,Ex.name,Z.df]
      .have:=Z.dp;simp only[cG,iM];omega
     .have Z:=ih (bZ L).2;have I:=ih (bO f k (F+1) (bZ L).2).2;have O:=CI 15 Y.1;have K:=vx m (show(0:Int)<15 by omega);have M:p9 (bA (4+m.tmod 15))=true:=by
       unfold bA;rw[k3 aa aa];simp only[p9,jj];omega
      refine⟨?_,?_,?_⟩
      .simp[eB,eh,ml,Ex.ag,Ex.ak,Ex.n,Ex.op,Ex.name,Z.wf,I.wf,M]
      .simp[dN,eM,iA,Ex.ag,Ex.name,Z.df,I.df]
      .have:=Z.dp;have:=I.dp;simp only[cG,iM];omega
theorem Om(f:Int):∀(n:Nat) (L:qp),eh (gP f n L).1=true/\eM (co f) zF (gP f n L).1=true/\((gP f n L).1.any fun e=>decide ((20:Int)<cG e))=false/\(gP f n L).1.length=n
 |0,_=>⟨rfl,rfl,rfl,rfl⟩
 |n+1,L=>by
  obtain⟨j,m,A,O⟩:=Om f n (bO f 3 2 L).2;have h:=ue f 3 2 L aa aa;have hd:¬(20:Int)<cG (bO f 3 2 L).1:=by have:=h.dp;omega
  refine⟨?_,?_,?_,?_⟩
  .rw[gP,eh,h.wf,j];rfl
  .rw[gP,eM,h.df,m];rfl
  .rw[gP,oc,A,wJ hd];rfl
  .rw[gP,gN,O]
structure ScG (f:Int) (c:Sc):Prop where
 vars:c.vars=co f
 an:c.an=zF
 to:∀m:Int,0<=m->0<=cm c.p.funcs (j8 m) 0/\((2-m.tmod 2).toNat=j3 c.p (j8 m))
structure StOk (c:Sc) (k:Nat) (s:da) (x:St) (t:da):Prop where
 wf:k5 x=true
 df:fl c false x=true
 ar:fl c true x=true
 dp:k4 x=false
 n:dl x+t.1.length<=s.1.length
 w:(ct x:Int)+s.2=t.2
 wb:t.2<=10
 m:∀d,i5 x d<=d+k
structure zdg (c:Sc) (k:Nat) (s:da) (l:qt) (t:da):Prop where
 wf:eW l=true
 df:cO c false l=true
 ar:cO c true l=true
 dp:eV l=false
 n:b9 l+t.1.length<=s.1.length
 w:(dB l:Int)+s.2=t.2
 wb:t.2<=10
 m:∀d,eA l d<=d+k
theorem GB{c:Sc}{k:Nat}{step:da->St×da}(h:∀s:da,s.1≠[]->0<=s.2->s.2<=10->StOk c k s (step s).1 (step s).2):∀(n:Nat) (s:da),0<=s.2->s.2<=10->zdg c k s (gL step n s).1 (gL step n s).2
 |0,s,h0,h1=>⟨rfl,rfl,rfl,rfl,by simp[gL,b9],by simp[gL,dB],h1,fun d=>by simp[gL,eA]⟩
 |n+1,s,h0,h1=>by
  rw[gL];by_cases S:s.1=[]
  .rw[au S];exact⟨rfl,rfl,rfl,rfl,by simp[b9],by simp[dB],h1,fun d=>by simp[eA]⟩
  .rw[ad S];have a:=h s S h0 h1;have o:=a.w;have b:=GB h n (step s).2 aa a.wb;have z:=b.w;have an:=a.n;have bn:=b.n;refine⟨?_,?_,?_,?_,?_,?_,b.wb,fun d=>?_⟩
   .simp only[eW,a.wf,b.wf];rfl
   .simp only[cO,a.df,b.df];rfl
   .simp only[cO,a.ar,b.ar];rfl
   .simp only[eV,a.dp,b.dp];rfl
   .simp only[b9];omega
   .simp only[dB];omega
   .have:=a.m d;have:=b.m d;simp only[eA];omega
def zbo(f:Int):zeroE eI=true/\dN (co f) zF eI=true/\cG eI=0:=⟨by simp[zeroE,eI,Ex.ag,Ex.n,Ex.op,Ex.name,Ex.ak],by simp[eI,dN,eM,iA,Ex.ag],by simp[eI,cG,iM]⟩
def zbp(hc:ScG f c){Y:Int->da->qt×da}{j:qp}{q m:Int}(hL:j.length<s.1.length)(hm:0<=m)(hm1:m<1000)(h0:0<=s.2)(h1:s.2<=10)(hq:10<=q->s.2<10)(hq0:0<=q)
 (hs:8<=q->q<12->1<=k/\∀(U:Int) (s:da),0<=s.2->s.2<=10->zdg c (k-1) s (Y U s).1 (Y U s).2):StOk c k s (gD Y f j s.2 q m).1 (gD Y f j s.2 q m).2:=by
 obtain⟨z1,z2,z3⟩:=zbo f;obtain⟨z,A⟩:=Ok f (Oj f hm);obtain⟨b7,ci⟩:=Ol m;have g1:=zbn m;obtain⟨g2,g3⟩:=hc.to m hm;have O:=ue f 5 0 j aa aa;have K:=ue f 3 2 j aa aa;have S:=ue f 4 1 j aa aa;have o:=ue f 4 1 (bO f 3 2 j).2 aa aa;have l50:=eN f 5 0 j;have l32:=eN f 3 2 j;have l41:=eN f 4 1 j;have l43:=eN f 4 1 (bO f 3 2 j).2;obtain⟨aw,a1,im,pD⟩:=Om f (2-m.tmod 2).toNat j;have lar:=Gk f (2-m.tmod 2).toNat j;have d50:¬(20:Int)<cG (bO f 5 0 j).1:=by have:=O.dp;omega
 have d32:¬(20:Int)<cG (bO f 3 2 j).1:=by have:=K.dp;omega
 have I:¬(20:Int)<cG (bO f 4 1 j).1:=by have:=S.dp;omega
 have d43:¬(20:Int)<cG (bO f 4 1 (bO f 3 2 j).2).1:=by have:=o.dp;omega
 rw[gD];generalize (co f).getD (m.tmod (co f).length).toNat []=nm at z A⊢;have F:=hc.vars;have C:=hc.an;by_cases c1:q<6
 .rw[au c1];refine⟨?_,?_,?_,?_,?_,?_,h1,fun d=>?_⟩
  .simp[k5,eW,iN,eh,mn,ou,St.ag,St.a1,St.bh,St.name,St.to,St.n,St.aL,St.value,St.args,z,z1,O.wf]
  .simp[fl,cO,iO,eM,i7,St.ag,St.name,St.aL,St.value,St.args,F,C,A,z2,O.df]
  .simp[fl,cO,jt,St.ag]
  .simp[k4,eV,z3,d50]
  .simp only[dl,b9];omega
  .simp[ct,dB]
  .simp[i5,eA]
 rw[ad c1];by_cases c2:q<8
 .rw[au c2];refine⟨?_,?_,?_,?_,?_,?_,h1,fun d=>?_⟩
  .simp[k5,eW,iN,eh,mn,ou,St.ag,St.a1,St.bh,St.name,St.to,St.n,St.aL,St.value,St.args,b7,K.wf,o.wf]
  .simp[fl,cO,iO,eM,i7,St.ag,St.name,St.aL,St.value,St.args,F,C,ci,K.df,o.df]
  .simp[fl,cO,jt,St.ag]
  .simp[k4,eV,d32,d43]
  .simp only[dl,b9];omega
  .simp[ct,dB]
  .simp[i5,eA]
 rw[ad c2];by_cases c3:q<10
 .rw[au c3];obtain⟨hk,Z⟩:=hs aa aa;have M:=Z 3 ((bO f 4 1 j).2,s.2) h0 h1;have V:=M.w;have san:=M.n;have J:=Z 2 (Y 3 ((bO f 4 1 j).2,s.2)).2 (by simp only at V;omega) M.wb;have sbw:=J.w;have sbn:=J.n;refine⟨?_,?_,?_,?_,?_,?_,J.wb,fun d=>?_⟩
  .simp[k5,iN,eh,mn,oq,St.ag,St.a1,St.bh,St.name,St.to,St.n,St.aL,St.value,St.args,z1,S.wf,M.wf,J.wf]
  .simp[fl,iO,eM,i7,St.ag,St.name,St.aL,St.value,St.args,F,C,z2,S.df,M.df,J.df]
  .simp[fl,jt,St.ag,M.ar,J.ar]
  .simp[k4,z3,I,M.dp,J.dp]
  .simp only[dl];simp only at san;omega
  .simp only[ct];simp only at V;rw[ad aa];omega
  .have:=M.m (d+1);have:=J.m (d+1);simp only[i5];omega
 rw[ad c3];by_cases c4:q<12
 .rw[au c4];obtain⟨hk,Z⟩:=hs aa aa;have hlt:=hq aa;have hw:bA (s.2+1)=s.2+1:=by unfold bA;rw[k3 aa aa]
  rw[hw];have M:=Z 3 ((bO f 4 1 j).2,s.2+1) (by simp only;omega) (by simp only;omega);have V:=M.w;have san:=M.n;refine⟨?_,?_,?_,?_,?_,?_,M.wb,fun d=>?_⟩
  .simp[k5,eW,iN,eh,mn,oq,St.ag,St.a1,St.bh,St.name,St.to,St.n,St.aL,St.value,St.args,z1,S.wf,M.wf]
  .simp[fl,cO,iO,eM,i7,St.ag,St.name,St.aL,St.value,St.args,F,C,z2,S.df,M.df]
  .simp[fl,cO,jt,St.ag,M.ar]
  .simp[k4,eV,z3,I,M.dp]
  .simp only[dl,b9];simp only at san;omega
  .simp only[ct,dB];simp only at V;simp only[bw];omega
  .have:=M.m (d+1);simp only[i5,eA];omega
 rw[ad c4];by_cases c5:q<14
 .rw[au c5];refine⟨?_,?_,?_,?_,?_,?_,h1,fun d=>?_⟩
  .simp[k5,eW,iN,eh,mn,ou,oq,St.ag,St.a1,St.bh,St.name,St.to,St.n,St.aL,St.value,St.args,z1,S.wf]
  .simp[fl,cO,iO,eM,i7,St.ag,St.name,St.aL,St.value,St.args,F,C,z2,S.df]
  .simp[fl,cO,jt,St.ag]
  .simp[k4,eV,z3,I]
  .simp only[dl,b9];omega
  .simp[ct,dB]
  .simp[i5,eA]
 rw[ad c5];by_cases c6:q<15
 .rw[au c6];refine⟨?_,?_,?_,?_,?_,?_,h1,fun d=>?_⟩
  .simp[k5,eW,iN,mn,ou,St.ag,St.a1,St.bh,St.name,St.to,St.n,St.aL,St.value,St.args,z,z1,g1,aw]
  .simp[fl,cO,iO,i7,St.ag,St.name,St.to,St.aL,St.value,St.args,F,C,z2,A,g2,a1]
  .have:(((gP f (2-m.tmod 2).toNat j).1.length:Nat):Int)=j3 c.p (j8 m):=by rw[pD,g3]
   simp[fl,cO,jt,St.ag,St.args,St.to,this]
  .simp only[k4,eV,z3,im];decide
  .simp only[dl,b9];omega
  .simp[ct,dB]
  .simp[i5,eA]
 rw[ad c6];refine⟨?_,?_,?_,?_,?_,?_,h1,fun d=>?_⟩
 .have e:m<=1000000:=by omega
  simp[k5,eW,iN,eh,mn,ou,St.ag,St.a1,St.bh,St.name,St.to,St.n,St.aL,St.value,St.args,z1,hm,e]
 .simp[fl,cO,iO,eM,i7,St.ag,St.name,St.aL,St.value,St.args,F,C,z2]
 .simp[fl,cO,jt,St.ag]
 .simp[k4,eV,z3]
 .simp only[dl,b9];omega
 .simp[ct,dB]
 .simp[i5,eA]
def zbq{L:qp}(h:L≠[]):(bZ L).2.length<L.length:=by
 cases L with
 |nil=>exact absurd rfl h
 |cons a l=>simp[bZ]
def zdg.more{Y:da}{l:qt}{t:da}(h:zdg c k Y l t)(h1:Y.1.length<=s.1.length)(h2:Y.2=s.2):zdg c k s l t:=⟨h.wf,h.df,h.ar,h.dp,dC h.n h1,h2▸h.w,h.wb,h.m⟩
theorem On{f:Int}{c:Sc}(K:ScG f c):∀(k F:Nat),4<=F+k->F<=3->∀s:da,s.1≠[]->0<=s.2->s.2<=10->StOk c (k-1) s (gE f k F s).1 (gE f k F s).2
 |0,F,j,h2=>by omega
 |k+1,F,j,h2=>fun s S I A=>by
  have M:=fb (n:=bA ((bZ s.1).1.tdiv 16)) (m:=1000) aa aa;have Y:=fb (n:=(bZ s.1).1) (m:=16) aa aa;rw[gE,vG];refine zbp K (zbq S) M.1 M.2 I A ?_ ?_ ?_
  .unfold vF;split<;>omega
  .unfold vF;split<;>omega
  .intro a b;have hd:F<=2:=by
    unfold vF at a b;split at a<;>omega
   have e:k+1-1-1=k-1:=aa;rw[e];refine⟨aa,fun U s Z o=>zdg.more (GB (fun s S I j=>?_) _ ((bZ s.1).2,s.2) Z o) (nh _) rfl⟩;exact On K k (F+1) aa aa s S I j
theorem Oo(K:ScG f c){deep:Nat}(h1:4<=deep+k)(h2:deep<=3)(U:Int)(A:0<=s.2)(O:s.2<=10):zdg c (k-1) s (lj f k deep U s).1 (lj f k deep U s).2:=
 zdg.more (GB (fun s Z I S=>On K k deep h1 h2 s Z I S) _ ((bZ s.1).2,s.2) A O) (nh _) rfl
def Oq(L:qp):cm [gQ L,gR L] [102] 0=0/\cm [gQ L,gR L] [103] 0=1:=⟨rfl,rfl⟩
def Ot(f:Int)(l:qp){F:Fu}(h:F.params++F.ah=co f):ScG f (fK (ei l) F):=by
 refine⟨h,rfl,fun m M=>?_⟩;have j:=CI 2 M;have Z:=vx m (show(0:Int)<2 by omega);show 0<=cm [gQ (l.take 60),gR (l.take 60)] (j8 m) 0/\_;unfold j8;by_cases e:m.tmod 2=0
 .rw[au e,e];exact⟨by rw[(Oq _).1];omega,rfl⟩
 .rw[ad e,show m.tmod 2=1 by omega];exact⟨by rw[(Oq _).2];omega,rfl⟩
theorem zbr(l:qp):gK (ei l)=0:=by
 have j:(l.take 60).length<=60:=ce;have c0:ScG 0 (fK (ei l) (gQ (l.take 60))):=Ot 0 l rfl;have c1:ScG 1 (fK (ei l) (gR (l.take 60))):=Ot 1 l rfl;obtain⟨L,K⟩:∃L,l.take 60=L:=⟨_,rfl⟩;rw[K]at j c0 c1;have F:zdg (fK (ei l) (gQ L)) 3 ((bZ L).2,0) (gF L).1 (gF L).2:=Oo c0 (k:=4) (deep:=0) aa aa 5 (s:=((bZ L).2,0)) aI aI;have v1:zdC 0 4 (lk L).1:=ue 0 4 1 _ aa aa;have Z:=F.w;have z:zdg (fK (ei l) (gR L)) 2 ((lk L).2,(gF L).2.2) (jv L).1 (jv L).2:=Oo c1 (k:=3) (deep:=1) aa aa 3 (s:=((lk L).2,(gF L).2.2)) (by simp only at Z⊢;omega) F.wb;have v2:zdC 1 4 (vK L).1:=ue 1 4 1 _ aa aa;have o:=F.n;have Y:=z.n;have A:=z.w;have b1b:=F.wb;have b2b:=z.wb;simp only at o Y Z A;have n0:=nh L;have dl:(lk L).2.length<=(gF L).2.1.length:=eN 0 4 1 _;have p1:=fb (n:=(bZ L).1) (m:=4) aa aa;have p2:=fb (n:=bA ((bZ L).1.tdiv 4)) (m:=4) aa aa;have hp:ei l=⟨sD L,[gQ L,gR L]⟩:=by rw[ei,K]
 have i5:=F.m 0;have m2:=z.m 0;have d1:=v1.dp;have d2:=v2.dp;have V:i6 (ei l)=false:=by
  rw[hp];simp only[i6,sD,List.any_cons,List.any_nil,pj,mX,gQ,gR,List.length_cons,List.length_nil,F.dp,z.dp,Bool.or_false,Bool.or_eq_false_iff,decide_eq_false_iff_not];refine⟨⟨⟨decide_eq_false aa,?_⟩,?_⟩,?_⟩<;>omega
 have U:gY (ei l)=true:=by
  rw[hp];have q:∀s∈([[102],[103],[120],[121],[105],[106],[110],[97],[98]]:qo),cX s=true:=by
   intro s M;simp only[List.mem_cons,List.not_mem_nil,or_false]at M;rcases M with rfl|rfl|rfl|rfl|rfl|rfl|rfl|rfl|rfl<;>kernel_rfl
  simp only[gY,sD,List.all_cons,List.all_nil,kD,sh,gQ,gR,List.cons_append,List.nil_append,F.wf,z.wf,v1.wf,v2.wf,Bool.and_true,Bool.and_eq_true];simp[q]
 have I:kE (ei l)=false:=by rw[hp];kernel_rfl
 have S:(ei l).funcs.any (iB (ei l))=false:=by
  have e:(ei l).funcs=[gQ L,gR L]:=by rw[hp]
  rw[e];have ct:dN (fK (ei l) (gQ L)).vars (fK (ei l) (gQ L)).an (gQ L).value=true:=by rw[c0.vars,c0.an];exact v1.df
  have w2:dN (fK (ei l) (gR L)).vars (fK (ei l) (gR L)).an (gR L).value=true:=by rw[c1.vars,c1.an];exact v2.df
  have C:cO (fK (ei l) (gQ L)) false (gQ L).body=true:=F.df;have O:cO (fK (ei l) (gR L)) false (gR L).body=true:=z.df;simp only[List.any_cons,List.any_nil,iB,ct,w2,C,O];rfl
 have J:(ei l).funcs.any (j4 (ei l))=false:=by
  have e:(ei l).funcs=[gQ L,gR L]:=by rw[hp]
  rw[e];have C:cO (fK (ei l) (gQ L)) true (gQ L).body=true:=F.ar;have O:cO (fK (ei l) (gR L)) true (gR L).body=true:=z.ar;simp only[List.any_cons,List.any_nil,j4,C,O];rfl
 rw[gK,V,U,I,S,J];rfl
structure GenF (L:qp):Prop where
 len:L.length<=60
 b1:∀c,ScG 0 c->eW (gF L).1=true/\cO c false (gF L).1=true/\cO c true (gF L).1=true/\eV (gF L).1=false/\b9 (gF L).1<=60/\dB (gF L).1<=10/\eA (gF L).1 0<=3
 v1:zdC 0 4 (lk L).1
 b2:∀c,ScG 1 c->eW (jv L).1=true/\cO c false (jv L).1=true/\cO c true (jv L).1=true/\eV (jv L).1=false/\b9 (jv L).1<=60/\dB (jv L).1<=10/\eA (jv L).1 0<=3
 v2:zdC 1 4 (vK L).1
 x1:1<=1+aZ (bZ L).1 4/\1+aZ (bZ L).1 4<=4
 x2:1<=1+aZ (bA ((bZ L).1.tdiv 4)) 4/\1+aZ (bA ((bZ L).1.tdiv 4)) 4<=4
def zG(x y:Int):List Ar:=[⟨[97],x⟩,⟨[98],y⟩]
def rD(x y:Int)(F G:Fu):Pr:=⟨zG x y,[F,G]⟩
section
variable {L:qp} (h:GenF L)
include h
end
section
variable {L:qp} (h:GenF L) {x y:Int} (hx:1 <= x /\ x <= 4) (hy:1 <= y /\ y <= 4)
include h hx hy
end
def Ou(f:Int)(i:Nat):((co f).getD i []).length<=1:=by
 have h:∀s∈co f,s.length<=1:=by
  intro s S;unfold co at S;split at S<;>simp only[fY,nj,pu]at S
  .rcases S with rfl|rfl|rfl|rfl<;>simp
  .rcases S with rfl|rfl<;>simp
 rw[iY];cases e:(co f)[i]? with
 |none=>simp
 |some s=>exact h s (fq e)
theorem Ov(m:Int):(sw m).length=1:=by unfold sw;split<;>rfl
theorem zbs(m:Int):(j8 m).length=1:=by unfold j8;split<;>rfl
def px:Nat->Nat
 |0=>2
 |k+1=>5+3*px k
theorem uf(f:Int):∀(k F:Nat) (L:qp),(bO f k F L).1.sz<=px k
 |0,F,L=>by simp[bO,Ex.sz,cF,px]
 |k+1,F,L=>by
  have ih:=uf f k (F+1);simp only[bO,px];generalize aZ (bZ L).1 16=q;generalize aZ (bA ((bZ L).1.tdiv 16)) 1000=m;split
  .split
   .have:=Ou f (m.tmod (co f).length).toNat;simp only[Ex.sz,cF];omega
   .simp only[Ex.sz,cF,eg];omega
  .split
   .have:=Ov m;have:=ih (bZ L).2;simp only[Ex.sz,cF];omega
   .split
    .have:=ih (bZ L).2;have:=ih (bO f k (F+1) (bZ L).2).2;have:=ih (bO f k (F+1) (bO f k (F+1) (bZ L).2).2).2;simp only[Ex.sz,cF,eg];omega
    .split
     .have:=ih (bZ L).2;simp only[Ex.sz,cF,eg];omega
     .have:=ih (bZ L).2;have:=ih (bO f k (F+1) (bZ L).2).2;simp only[Ex.sz,cF,eg];omega
theorem Ow(f:Int):∀(n:Nat) (L:qp),cF (gP f n L).1<=200*n
 |0,_=>by simp[gP,cF]
 |n+1,L=>by
  have:=Ow f n (bO f 3 2 L).2;have:=uf f 3 2 L;have:px 3<=150:=cy;rw[gP,cF];omega
theorem zbt{M:Int->da->qt×da}(S:∀U s,a6 (M U s).1<=10000*b9 (M U s).1)(f:Int)(j:qp)(c q m:Int):(gD M f j c q m).1.sz+1<=10000*dl (gD M f j c q m).1:=by
 have K:px 5<=1200:=cy;have J:px 4<=1200:=cy;have I:px 3<=1200:=cy;have Z:=uf f 5 0 j;have V:=uf f 3 2 j;have Y:=uf f 4 1 j;have o:=uf f 4 1 (bO f 3 2 j).2;have z:eI.sz=1:=rfl;have O:=Ou f (m.tmod (co f).length).toNat;have b7:=Ov m;have F:=zbs m;have r:=Ow f (2-m.tmod 2).toNat j;have a1:(2-m.tmod 2).toNat<=4:=by
  have:-2<m.tmod 2:=by
   have:=vx (-m) (show(0:Int)<2 by omega);rw[Int.neg_tmod]at this;omega
  omega
 rw[gD];split
 .simp only[St.sz,dl,b9,cF,a6,eg];omega
 split
 .simp only[St.sz,dl,b9,cF,a6,eg];omega
 split
 .have A:=S 3 ((bO f 4 1 j).2,c);have C:=S 2 (M 3 ((bO f 4 1 j).2,c)).2;simp only[St.sz,dl,b9,cF,a6,eg];omega
 split
 .have A:=S 3 ((bO f 4 1 j).2,bA (c+1));simp only[St.sz,dl,b9,cF,a6,eg];omega
 split
 .simp only[St.sz,dl,b9,cF,a6,eg];omega
 split
 .simp only[St.sz,dl,b9,cF,a6,eg];omega
 .simp only[St.sz,dl,b9,cF,a6,eg];omega
theorem GC{step:da->St×da}(h:∀s,(step s).1.sz+1<=10000*dl (step s).1):∀(n:Nat) (s:da),a6 (gL step n s).1<=10000*b9 (gL step n s).1
 |0,s=>by simp[gL,a6,b9]
 |n+1,s=>by
  rw[gL];split
  .simp[a6,b9]
  .have:=h s;have:=GC h n (step s).2;simp only[a6,b9];omega
theorem Oz(f:Int):∀(k F:Nat) (s:da),(gE f k F s).1.sz+1<=10000*dl (gE f k F s).1
 |0,F,s=>by
  have z:eI.sz=1:=rfl;simp only[gE,St.sz,dl,b9,cF,a6,eg];omega
 |k+1,F,s=>by
  rw[gE,vG];exact zbt (fun U s=>GC (Oz f k (F+1)) _ _) f _ _ _ _
def OA(f:Int)(k deep:Nat)(U:Int)(s:da):a6 (lj f k deep U s).1<=10000*b9 (lj f k deep U s).1:=GC (Oz f k deep) _ _
theorem OB(l:qp):(ei l).sz<2^24:=by
 have A:i6 (ei l)=false:=by
  have h:=zbr l;rw[gK]at h;cases e:i6 (ei l)with
  |false=>rfl
  |true=>rw[au e]at h;omega
 have F:=OA 0 4 0 5 ((bZ (l.take 60)).2,0);have z:=OA 1 3 1 3 ((lk (l.take 60)).2,(gF (l.take 60)).2.2);have v1:(lk (l.take 60)).1.sz<=px 4:=uf 0 4 1 _;have v2:(vK (l.take 60)).1.sz<=px 4:=uf 1 4 1 _;have O:px 4<=1200:=cy;rw[ei]at A⊢;generalize l.take 60=L at *;change a6 (gF L).1<=10000*b9 (gF L).1 at F;change a6 (jv L).1<=10000*b9 (jv L).1 at z;simp only[i6,oc,wD,nW,fP,mX,gQ,gR,iX]at A;obtain⟨_,j,m⟩:=A;have dl:¬(200:Int)<b9 (gF L).1:=j.1.1.1.1.2;have o:¬(200:Int)<b9 (jv L).1:=m.1.1.1.1.2;simp only[Pr.sz,ez,dY,sD,gQ,gR,Fu.sz,db,nL];omega
theorem FnL.aN{j:Nat->Nat}{b n:Nat}{H:Hp}{f:Fu}{p l V:AV}{v:qm}(h:FnL j b n H f p l V v)(nm:qr):(fU nm p l V v).length=9:=by
 show([_,_,_,_]++v).length=9;rw[lA,h.len];rfl
theorem zbu{U:qm}(M:P.underlying t=some (.slice e))(J:bD P e=some z)(Z:cL P e=some b)(I:cn P e=some U)(F:U.length=z)(C:ip P t=true)
 {m:Nat}{cs row:qm} (S:H.get q=some (.cells cs 0 true)) (o:cs.length=m*z) (A:fc H z v=some (k+1,row)) (K:row.all AV.one=true) (O:(m+(k+1))*b<=dd) (Y:m+(k+1)<=dd) :
 dh P false H t t (.sl q 0 m z) v=some (.sl H.next 0 (m+(k+1)) z,(H.az q).alloc (.cells (cs++row) 0 true)):=by
 have V:fV false H z (.sl q 0 m z)=H:=by
  unfold fV;simp only[S,bR];have:Nat.blt (m*z) cs.length=false:=by
   cases Z:Nat.blt (m*z) cs.length with
   |false=>rfl
   |true=>rw[iH]at Z;omega
  simp only[l4,iV,this,mc]
 simp only[dh,M,J,Z,I,C,A,K,V,F,nT,bw,kL,S,bR,gV,dg,bH];rw[au ⟨O,Y,aa,trivial,aa⟩]
theorem lp:∀a b:qt,a6 (a++b)=a6 a+a6 b
 |[],b=>by rw[jO,a6];omega
 |x::a,b=>by rw[jW,a6,a6,lp a b];omega
def dU.at{n:Nat}{ws:List qm}(h:dU S n H z v ws){o m Z:Nat}(e:v=.sl k o m Z):S k/\k<H.next:=by
 rcases h with⟨rfl,_⟩|⟨q,Y,rows,rfl,j,V,_⟩
 .cases e
 .simp only[AV.sl.injEq]at e;obtain⟨rfl,_⟩:=e;exact⟨j,V⟩
def zH{zz:qm}(ht:P.underlying t=some (.slice e))(hs:bD P e=some z)(hb:cL P e=some b)(hz:cn P e=some zz)(hzz:zz.length=z)(C:ip P t=true)
 {n:Nat}{Hb:Hp}{ws:List qm} (h:dU (fun q=>j q=L) n H z v ws) (hn:H.next<=Hb.next) (hk:∀q,q<H.next->j q=L->Hb.get q=H.get q) {r imm:Nat}{row:qm} (hg:Hb.get r=some (.cells row imm true)) (I:row.length=z) (F:row.all AV.one=true)
 (hb1:(ws.length+1)*b<=dd) (hb2:ws.length+1<=dd) :
 ∃H' V M,dh P false Hb t t v (.sl r 0 1 z)=some (.sl Hb.next 0 (ws.length+1) z,H')/\V.length=ws.length*z/\M<=ws.length*z/\H'.get Hb.next=some (.cells (V++row) M true)/\H'.next=Hb.next+1/\(∀q,q<Hb.next->(H.next<=q\/j q≠L)->H'.get q=Hb.get q) /\
  ∀(U:Hp) (rf:Nat) (Y w:qm),Hb.next<U.next->(∀q,q≠rf->q<Hb.next->U.get q=H'.get q)->j rf≠L->rf<H.next->U.get Hb.next=some (.cells (V++Y) M true)->Y.length=z->cJ (fun q=>H.next<=q/\q<Hb.next) n Hb Y w ->
   dU (fun q=>(if H.next<=q then L else j q)=L) n U z (.sl Hb.next 0 (ws.length+1) z) (ws++[w]):=by
 have h':dU (fun q=>q<H.next/\j q=L) n Hb z v ws:=h.aj (fun k K Z=>⟨K,Z⟩) hn fun k K Z=>hk k Z K;obtain⟨H',rows,M,b7,ci,bX,bQ,dt,fD,hY,a8⟩:=YK ht hs hb hz hzz C (S':=fun q=>(if H.next<=q then L else j q)=L) h' (fun k _ hS=>by show(if _ then _ else _)=L;rw[ad aa];exact hS.2) (by show(if _ then _ else _)=L;rw[au hn]) hg I F hb1 hb2;have fr:∀q,q<Hb.next->(H.next<=q\/j q≠L)->H'.get q=Hb.get q:=fun q K Z=>hY q K fun o m z' e=>by
  have h3:=(h'.at e).1;rcases Z with Z|Z
  .omega
  .exact Z h3.2
 have A:rows.flatten.length=ws.length*z:=by rw[vz bX,ci]
 refine⟨H',rows.flatten,M,b7,A,by rw[<-A];exact dt,bQ,fD,fr,fun U rf Y w K Z h3 h4 h5 h6 hw=>?_⟩;have ne:∀k,(if H.next<=k then L else j k)=L->k≠rf:=fun k O e=>by
  subst e;rw[ad aa]at O;exact h3 O
 refine dU.of (S:=fun q=>(if H.next<=q then L else j q)=L) (au hn) K bX h6 h5 dt (a8.ax (fun k _ J=>J) aa fun k O J=>Z k (ne k O.1) (by have:=O.2;omega)) ?_;exact hw.ax (fun k O J=>⟨au J.1,aa⟩) aa fun k O J=>by rw[Z k aa J,fr k J (.inl O.1)]
def oE(i:Nat)(a b:qm):qm:=match i with
 |0=>a++b
 |_+1=>b++a
def gH(i:Nat)(x y:Int)(f g:Fu):Pr:=match i with
 |0=>rD x y f g
 |_+1=>rD x y g f
def FnL.mv{pt':Nat->Nat}{n:Nat}{f:Fu}{U:AV}{v:qm}(h:FnL Z b n H f p l U v)(I:n<=n')(hS:∀q,q<H.next->b<=Z q->Z q<b+4->pt' q=Z q)(Y:H.next<=H'.next)(V:∀q,q<H.next->b<=Z q->Z q<b+4->H'.get q=H.get q):FnL pt' b n' H' f p l U v:=
 ⟨h.len,h.one,(h.ps.aj (fun k j m=>CV) Y fun k j m=>V k m aa aa).up I,
  (h.ls.aj (fun k j m=>CV) Y fun k j m=>V k m aa aa).up I,
  (h.bo.aj (fun k j m=>CV) Y fun k j m=>V k m aa aa).up I,
  (h.vw.ax (fun k j m=>CV) Y fun k j m=>V k m aa aa).up I⟩
structure zc8 (i:Nat) (pt:Nat->Nat) (lo b b' n:Nat) (H:Hp) (ra rf:Nat) (x y:Int) (f g:Fu) (pf lf bf:AV) (vf:qm) (pg lg bg:AV) (vg:qm):Prop where
 hb:3<=b/\3<=b'/\(b+4<=b'\/b'+4<=b)
 cU:lo<=H.next
 f3:∀q,q<lo->pt q=0
 ga:H.get ra=some (.cells [.ae [97],.int .i64 x,.ae [98],.int .i64 y] 0 true)
 gf:H.get rf=some (.cells (oE i (fU f.name pf lf bf vf) (fU g.name pg lg bg vg)) 0 true)
 cS:ra<H.next
 ca:rf<H.next
 cr:pt ra=1
 bF:pt rf=2
 F:FnL pt b n H f pf lf bf vf
 G:FnL pt b' n H g pg lg bg vg
def zdx.toX{lo n:Nat}{Z rf:Nat}{x y:Int}{f g:Fu}{Y lf bf:AV}{m:qm}{o A:AV}{C:qm}(h:zdx j n H Z rf x y f g Y lf bf m o V A C)(z:lo<=H.next)(K:∀q,q<lo->j q=0):
 zc8 0 j lo 3 7 n H Z rf x y f g Y lf bf m o V A C/\zc8 1 j lo 7 3 n H Z rf x y g f o V A C Y lf bf m:=
 ⟨⟨aa,z,K,h.ga,h.gf,h.cS,h.ca,h.cr,h.bF,h.F,h.G⟩,⟨aa,z,K,h.ga,h.gf,h.cS,h.ca,h.cr,h.bF,h.G,h.F⟩⟩
section
variable {i:Nat} {pt:Nat -> Nat} {lo b b' n:Nat} {H:Hp} {ra rf:Nat} {x y:Int} {f g:Fu} {pf lf bf:AV} {vf:qm} {pg lg bg:AV} {vg:qm} (h:zc8 i pt lo b b' n H ra rf x y f g pf lf bf vf pg lg bg vg)
include h
def zc8.av(h1:pt q≠0):lo<=q:=by
 by_cases m:q<lo
 .exact absurd (h.f3 q m) h1
 .omega
def zc8.ne:ra≠rf:=fun e=>by
 have j:=h.cr;have m:=h.bF;rw[e]at j;omega
def zc8.dG{f':Fu}{m bf':AV}{vf':qm}(S:b<=L/\L<b+4)(Z:H.next<=H'.next)(I:n<=n')(o:∀q,lo<=q->q<H.next->q≠rf->pt q≠L->H'.get q=H.get q)(Y:H'.get rf=some (.cells (oE i (fU f'.name m K bf' vf') (fU g.name pg lg bg vg)) 0 true))
 (F:FnL (fun q=>if H.next<=q then L else pt q) b n' H' f' m K bf' vf'):zc8 i (fun q=>if H.next<=q then L else pt q) lo b b' n' H' ra rf x y f' g m K bf' vf' pg lg bg vg:=by
 obtain⟨M,z,A⟩:=h.hb;have j:=h.cS;have h2:=h.ca;have h3:=h.cU;have U:=h.cr;have lf:=h.bF;refine⟨h.hb,aa,fun q V=>by show(if _ then _ else _)=0;rw[ad aa];exact h.f3 q V,?_,Y,aa,aa,by show(if _ then _ else _)=1;rw[ad aa];exact U,Oa,F,?_⟩
 .rw[o ra (h.av aa) j h.ne aa];exact h.ga
 .exact h.G.mv I (fun q O _ _=>ad aa) Z fun q O J C=>o q (h.av aa) O (fun e=>by rw[e]at J C;omega) aa
def zc8.gb{Z:AV}(ps:qo)(Y:H.next<=H'.next)(I:n<=n')(o:∀q,lo<=q->q<H.next->q≠rf->pt q≠b->H'.get q=H.get q)(U:H'.get rf=some (.cells (oE i (fU f.name Z lf bf vf) (fU g.name pg lg bg vg)) 0 true))
 (hr:dU (fun q=>(if H.next<=q then b else pt q)=b) n' H' 1 Z (ps.map fun s=>[AV.ae s])):zc8 i (fun q=>if H.next<=q then b else pt q) lo b b' n' H' ra rf x y {f with params:=ps} g Z lf bf vf pg lg bg vg:=by
 have z:=h.hb;have S:=h.bF;have V:∀q,q<H.next->b<=pt q->pt q≠b->H'.get q=H.get q:=fun q j m A=>o q (h.av aa) j (fun e=>oD) A
 refine h.dG ⟨aa,aa⟩ Y I o U ⟨h.F.len,h.F.one,hr,(h.F.ls.aj (fun k j m=>Gx) Y fun k j m=>V k m aa aa).up I,(h.F.bo.aj (fun k j m=>Gy) Y fun k j m=>V k m aa aa).up I,(h.F.vw.ax (fun k j m=>Gz) Y fun k j m=>V k m aa aa).up I⟩
def zc8.gi(ls:qo)(Z:H.next<=H'.next)(I:n<=n')(o:∀q,lo<=q->q<H.next->q≠rf->pt q≠b+1->H'.get q=H.get q)(Y:H'.get rf=some (.cells (oE i (fU f.name pf K bf vf) (fU g.name pg lg bg vg)) 0 true))
 (hr:dU (fun q=>(if H.next<=q then b+1 else pt q)=b+1) n' H' 1 K (ls.map fun s=>[AV.ae s])):zc8 i (fun q=>if H.next<=q then b+1 else pt q) lo b b' n' H' ra rf x y {f with ah:=ls} g pf K bf vf pg lg bg vg:=by
 have z:=h.hb;have U:=h.bF;have V:∀q,q<H.next->b<=pt q->pt q≠b+1->H'.get q=H.get q:=fun q j m A=>o q (h.av aa) j (fun e=>oD) A
 refine h.dG ⟨aa,aa⟩ Z I o Y ⟨h.F.len,h.F.one,(h.F.ps.aj (fun k j m=>GA) Z fun k j m=>V k m aa aa).up I,hr,(h.F.bo.aj (fun k j m=>Gy) Z fun k j m=>V k m aa aa).up I,(h.F.vw.ax (fun k j m=>Gz) Z fun k j m=>V k m aa aa).up I⟩
def zc8.fk{bf':AV}(bs:qt)(Z:H.next<=H'.next)(I:n<=n')(o:∀q,lo<=q->q<H.next->q≠rf->pt q≠b+2->H'.get q=H.get q)(Y:H'.get rf=some (.cells (oE i (fU f.name pf lf bf' vf) (fU g.name pg lg bg vg)) 0 true))
 (hr:dU (fun q=>(if H.next<=q then b+2 else pt q)=b+2) n' H' 17 bf' (bs.map St.cells)):zc8 i (fun q=>if H.next<=q then b+2 else pt q) lo b b' n' H' ra rf x y {f with body:=bs} g pf lf bf' vf pg lg bg vg:=by
 have z:=h.hb;have U:=h.bF;have V:∀q,q<H.next->b<=pt q->pt q≠b+2->H'.get q=H.get q:=fun q j m A=>o q (h.av aa) j (fun e=>oD) A
 refine h.dG ⟨aa,aa⟩ Z I o Y ⟨h.F.len,h.F.one,(h.F.ps.aj (fun k j m=>GA) Z fun k j m=>V k m aa aa).up I,(h.F.ls.aj (fun k j m=>Gx) Z fun k j m=>V k m aa aa).up I,hr,(h.F.vw.ax (fun k j m=>Gz) Z fun k j m=>V k m aa aa).up I⟩
def zc8.ft{x' y':Int}{nf:qr}(I:H.next<=H'.next)(o:∀q,lo<=q->q<H.next->q≠ra->q≠rf->H'.get q=H.get q)(Z:H'.get ra=some (.cells [.ae [97],.int .i64 x',.ae [98],.int .i64 y'] 0 true))(Y:H'.get rf=some (.cells (oE i (fU nf pf lf bf vf) (fU g.name pg lg bg vg)) 0 true)):
 zc8 i pt lo b b' n H' ra rf x' y' {f with name:=nf} g pf lf bf vf pg lg bg vg:=by
 have O:=h.cr;have V:=h.bF;have z:=h.hb;have j:=h.cS;have m:=h.ca;have A:=h.cU;have hF:=h.F.mv (pt':=pt) (H':=H') (aT n) (fun _ _ _ _=>rfl) I fun q j m A=>o q (h.av aa) j (fun e=>oD) (fun e=>oD);have K:=h.G.mv (pt':=pt) (H':=H') (aT n) (fun _ _ _ _=>rfl) I fun q j m A=>o q (h.av aa) j (fun e=>oD) (fun e=>oD);exact⟨h.hb,aa,h.f3,Z,Y,aa,aa,O,V,⟨hF.len,hF.one,hF.ps,hF.ls,hF.bo,hF.vw⟩,K⟩
omit h in
theorem FnL.row{b n:Nat}{H:Hp}{f:Fu}{v:qm}(h:FnL Z b n H f p l V v)(hS:∀q,q<H.next->b<=Z q->Z q<b+4->S q):cJ S (n+1) H (fU f.name p l V v) f.cells:=
 CM f.name rfl (h.ps.rd.ax (fun k j m=>hS k j aa aa) (aT _) fun _ _ _=>rfl) (h.ls.rd.ax (fun k j m=>hS k j aa aa) (aT _) fun _ _ _=>rfl) (h.bo.rd.ax (fun k j m=>hS k j aa aa) (aT _) fun _ _ _=>rfl) ((h.vw.up (eT _)).ax (fun k j m=>hS k j aa aa) (aT _) fun _ _ _=>rfl)
end
def OC(E:aD):aV E (.const (.agg #[.int .i64 0,.string ⟨#[]⟩,.string ⟨#[]⟩,.int .i64 0,.int .i64 0,.int .i64 0,.string ⟨#[]⟩,.int .i64 0,.slice none 0 0,.int .i64 0,.int .i64 0,.string ⟨#[]⟩,.int .i64 0,.slice none 0 0,.slice none 0 0,.slice none 0 0,.slice none 0 0]))=some (.agg [.int .i64 0,.ae [],.ae [],.int .i64 0,.int .i64 0,.int .i64 0,.ae [],.int .i64 0,.ab,.int .i64 0,.int .i64 0,.ae [],.int .i64 0,.ab,.ab,.ab,.ab]):=aA
def zbv(H:Hp)(a b c d e:AV):dc prog H 68 1 [(0,.agg [a,b,c,d,e])]=some (.sl H.next 0 1 5,H.alloc (.cells [a,b,c,d,e] 0 true)):=aA
def zbw(q:Nat)(o:Int):cQ prog 70 [(0,.int .i64 4),(3,.int .i64 o),(4,.sl q 0 1 5)]=some (.agg [.int .i64 4,.int .i64 0,.ae [],.int .i64 o,.sl q 0 1 5]):=aA
def eX{b:HB}(h:q<H.next):(H.alloc b).get q=H.get q:=fX
end
end Go.Proofs.YtbflaciihaijgaaGreat
