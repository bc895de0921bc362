/- Lemmas for the last file. -/
import Derived.Test.YtbflaciihaijgaaGreatJEQ
set_option linter.all false
set_option maxHeartbeats 32000000
namespace Go.Ab
set_option maxRecDepth 20000
open Go
variable{qf:Prop}
def G5(h:qf:=by rw[O];exact s5):=h
def G6(h:qf:=by simp[dL];omega):=h
def VC(h:qf:=by rw[Hp.get_set,if_neg (by have:=(s4.b.lt hk).1;omega)]):=h
def LC(h:qf:=by rw[V];exact yM Tryz.underlying26 _ _ _ _):=h
def G7(h:qf:=by rw[Hp.get_set,if_neg ac];exact g):=h
def VD(h:qf:=by simp only[aG,Nat.reduceBEq, *];exact gX (n:=C) ac ac):=h
def LD(h:qf:=by rw[hr,decide_eq_false ac]):=h
def LF(h:qf:=by rw[hr,decide_eq_true ac]):=h
def G8:=@List.pairwise_iff_getElem
end Go.Ab
namespace Go.Proofs.YtbflaciihaijgaaGreat
set_option maxRecDepth 20000
open Go Go.Ab Proofs.Tryz
variable(ρ:Nat->Int)
variable{tb:qB}{H:Hp}{v:AV}{s:qu}{i m j z b q:Nat}{n:Nd}{t e:TypeId}{u:Un}{g:Gr}{rows:List qt}{P:Program}{S:Nat->Prop}{I:Type}
section
def tyK2.tyF:=ad @ec (ad @cA (ad @eZ (ad @fX (ad @jB (ad @rO (ad @rQ (@th)))))))
open tyK2
theorem zj1(x:NsX)(hx:Ct x):bF prog ρ 130 (wy x) (.int .i64 (cr x.l x.n x.k)):=dE fit (pls:=pls) (zjR ρ) (.cons (rN _) (.cons (.agg (yV _)) (.cons (uu _) .nil))) (.int _ _) (by
 obtain⟨l,⟨V,O,Y⟩,k⟩:=x;obtain⟨I,z,m⟩:=hx;have L:zd0 (ay pls wz) 130:=db (fun _=>rfl) rfl;rw[wy];simp only[Nd.cells]at I z m⊢;have hq:(16:Int)≠0:=aE;have hq2:(2:Int)≠0:=aE;cases g:(bC V).2 with
 |false=>
  have hv:gY V=.aX [.int .i64 (bC V).1,.bool false]:=by rw[gY,g]
  refine a0 (M:=221) (rs:=[.tmp 6]) (L.call _) L.aG L.az func130 rfl rfl gw.2 rfl ?_;dsimp only[gw,aW,Nat.reduceAdd];repeat' (first
   |(apply aj ?_;clear hK K)|apply aQ ?_|(apply ch ?_;first|refine Rx.k (mJ (fun _=>rfl) _ _) ?_)|(apply bT ?_ ?_<;>(intro hg hgp;try(cases hg;done)))|(apply aV ?_ ?_<;>(intro hb hbp;try(cases hb;done)))|(apply ak fun K hK=>?_)|fail)
  all_goals
   refine qc ?_
   rw[zjS g]
 |true=>
 by_cases C:0<=(bC V).1/\(Y.length:Int)≠(bC V).1
 .have hv:gY V=.aX [.int .i64 (bC V).1,.bool true]:=by rw[gY,g]
  obtain⟨h1,h2⟩:=C;refine a0 (M:=221) (rs:=[.tmp 6]) (L.call _) L.aG L.az func130 rfl rfl gw.2 rfl ?_;dsimp only[gw,aW,Nat.reduceAdd];repeat' (first
   |(apply aj ?_;clear hK K)|apply aQ ?_|(apply ch ?_;first|refine Rx.k (mJ (fun _=>rfl) _ _) ?_)|(apply bT ?_ ?_<;>(intro hg hgp;try(cases hg;done)))|(apply aV ?_ ?_<;>(intro hb hbp;try(cases hb;done)))|(apply ak fun K hK=>?_)|fail)
  all_goals
   refine qc ?_
   rw[zjT g h1 h2]
 cases J:dX V O with
 |false=>
  have hv:gY V=.aX [.int .i64 (bC V).1,.bool true]:=by rw[gY,g]
  refine a0 (M:=221) (rs:=[.tmp 6]) (L.call _) L.aG L.az func130 rfl rfl gw.2 rfl ?_;dsimp only[gw,aW,Nat.reduceAdd];repeat' (first
   |(apply aj ?_;clear hK K)|apply aQ ?_|(apply ch ?_;first|refine Rx.k (mJ (fun _=>rfl) _ _) ?_|refine Rx.k (oy (fun _=>rfl) _ _ _) ?_)|(apply bT ?_ ?_<;>(intro hg hgp;try(cases hg;done)))|(apply aV ?_ ?_<;>(intro hb hbp;try(cases hb;done)))|(apply ak fun K hK=>?_)|fail)
  all_goals
   refine qc ?_
   rw[zjU J]
 |true=>
 have Z:=zjV (l:=l) (n:=⟨V,O,Y⟩) (k:=k) g C J;simp only[]at Z;by_cases j:V=31
 .subst j;exact zj0 z J r8
 by_cases i:V=30
 .subst i;exact zjW I z J r8
 by_cases c25:V=25
 .subst c25;exact zjX I z (m rfl) (by have e:(bC 25).1=1:=rfl;omega) J r8
 have hnn:=Pj j i;have hkn:(Y.length:Int)=(bC V).1:=ac;have hv:gY V=.aX [.int .i64 Y.length,.bool true]:=by rw[gY,g,hkn]
 by_cases c22:V=22
 .subst c22;obtain⟨a,b,c,rfl⟩:=uC (s:=k) (by have e:(bC 22).1=3:=rfl;omega);have U:cr l ⟨22,O,Y⟩ [a,b,c]=if a≠1\/b≠c\/b=3 then 0 else b:=r8
  refine a0 (M:=221) (rs:=[.tmp 6]) (L.call _) L.aG L.az func130 rfl rfl gw.2 rfl ?_;dsimp only[gw,aW,Nat.reduceAdd];repeat' (first
   |(apply aj ?_;clear hK K)|apply aQ ?_|(apply ch ?_;first|refine Rx.k (mJ (fun _=>rfl) _ _) ?_|refine Rx.k (oy (fun _=>rfl) _ _ _) ?_)|(apply bT ?_ ?_<;>(intro hg hgp;try(cases hg;done)))|(apply aV ?_ ?_<;>(intro hb hbp;try(cases hb;done)))|(apply ak fun K hK=>?_)|(apply da 12 [(2,19),(7,19),(10,19),(16,19)] fun K hK=>?_)|(apply ce ?_;try intro _)|(apply di ?_ ?_<;>clear hK K)|(apply rD ?_ ?_<;>(intro hg hgp;try(cases hg;done)))|fail)
  all_goals first
   |exact bN
   |((refine qc ?_);rw[U];clear U Z m hv hkn C g J I;(try simp only[lH,kB]at *);first|(rw[ah GQ];done)|(rw[af GQ];done)|(rw[ah ac];done)|(rw[af ac];done))
 by_cases c23:V=23
 .subst c23;obtain⟨a,b,rfl⟩:=sy (s:=k) (by have e:(bC 23).1=2:=rfl;omega);have U:cr l ⟨23,O,Y⟩ [a,b]=dF (decide (a=2)&&decide (b=1)) 1:=r8;refine a0 (M:=221) (rs:=[.tmp 6]) (L.call _) L.aG L.az func130 rfl rfl gw.2 rfl ?_;dsimp only[gw,aW,Nat.reduceAdd];repeat' (first
   |(apply aj ?_;clear hK K)|apply aQ ?_|(apply ch ?_;first|refine Rx.k (mJ (fun _=>rfl) _ _) ?_|refine Rx.k (oy (fun _=>rfl) _ _ _) ?_|refine Rx.k (pX (fun _=>rfl) _ _ _) ?_)|(apply bT ?_ ?_<;>(intro hg hgp;try(cases hg;done)))|(apply aV ?_ ?_<;>(intro hb hbp;try(cases hb;done)))|(apply ak fun K hK=>?_)|fail)
  all_goals first
   |exact bN
   |((refine qc ?_);rw[U];(try simp only[]at *);simp only[*,i4,gD,em,el,];done)
   |((refine qc ?_);rw[U];clear U Z m hv hkn;simp_all;done)
 by_cases c24:V=24
 .subst c24;obtain⟨a,rfl⟩:=rL (s:=k) (by have e:(bC 24).1=1:=rfl;omega);have U:cr l ⟨24,O,Y⟩ [a]=dF (decide (a=2)) 1:=r8;refine a0 (M:=221) (rs:=[.tmp 6]) (L.call _) L.aG L.az func130 rfl rfl gw.2 rfl ?_;dsimp only[gw,aW,Nat.reduceAdd];repeat' (first
   |(apply aj ?_;clear hK K)|apply aQ ?_|(apply ch ?_;first|refine Rx.k (mJ (fun _=>rfl) _ _) ?_|refine Rx.k (oy (fun _=>rfl) _ _ _) ?_|refine Rx.k (pX (fun _=>rfl) _ _ _) ?_)|(apply bT ?_ ?_<;>(intro hg hgp;try(cases hg;done)))|(apply aV ?_ ?_<;>(intro hb hbp;try(cases hb;done)))|(apply ak fun K hK=>?_)|fail)
  all_goals first
   |exact bN
   |((refine qc ?_);rw[U];done)
 by_cases c27:V=27
 .subst c27;obtain⟨a,b,rfl⟩:=sy (s:=k) (by have e:(bC 27).1=2:=rfl;omega);have U:cr l ⟨27,O,Y⟩ [a,b]=dF (decide (a=2)&&decide (b=1)) 2:=r8;refine a0 (M:=221) (rs:=[.tmp 6]) (L.call _) L.aG L.az func130 rfl rfl gw.2 rfl ?_;dsimp only[gw,aW,Nat.reduceAdd];repeat' (first
   |(apply aj ?_;clear hK K)|apply aQ ?_|(apply ch ?_;first|refine Rx.k (mJ (fun _=>rfl) _ _) ?_|refine Rx.k (oy (fun _=>rfl) _ _ _) ?_|refine Rx.k (pX (fun _=>rfl) _ _ _) ?_)|(apply bT ?_ ?_<;>(intro hg hgp;try(cases hg;done)))|(apply aV ?_ ?_<;>(intro hb hbp;try(cases hb;done)))|(apply ak fun K hK=>?_)|fail)
  all_goals first
   |exact bN
   |((refine qc ?_);rw[U];(try simp only[]at *);simp only[*,i4,gD,em,el,];done)
 by_cases c29:V=29
 .subst c29;obtain⟨a,b,rfl⟩:=sy (s:=k) (by have e:(bC 29).1=2:=rfl;omega);have U:cr l ⟨29,O,Y⟩ [a,b]=dF (decide (a=2)&&decide (b=1)) 2:=r8;refine a0 (M:=221) (rs:=[.tmp 6]) (L.call _) L.aG L.az func130 rfl rfl gw.2 rfl ?_;dsimp only[gw,aW,Nat.reduceAdd];repeat' (first
   |(apply aj ?_;clear hK K)|apply aQ ?_|(apply ch ?_;first|refine Rx.k (mJ (fun _=>rfl) _ _) ?_|refine Rx.k (oy (fun _=>rfl) _ _ _) ?_|refine Rx.k (pX (fun _=>rfl) _ _ _) ?_)|(apply bT ?_ ?_<;>(intro hg hgp;try(cases hg;done)))|(apply aV ?_ ?_<;>(intro hb hbp;try(cases hb;done)))|(apply ak fun K hK=>?_)|fail)
  all_goals first
   |exact bN
   |((refine qc ?_);rw[U];(try simp only[]at *);simp only[*,i4,gD,em,el,];done)
 by_cases c28:V=28
 .subst c28;obtain⟨a,b,c,rfl⟩:=uC (s:=k) (by have e:(bC 28).1=3:=rfl;omega);have U:cr l ⟨28,O,Y⟩ [a,b,c]=dF (decide (a=2)&&decide (b=1)&&decide (c=1)) 2:=r8;refine a0 (M:=221) (rs:=[.tmp 6]) (L.call _) L.aG L.az func130 rfl rfl gw.2 rfl ?_;dsimp only[gw,aW,Nat.reduceAdd];repeat' (first
   |(apply aj ?_;clear hK K)|apply aQ ?_|(apply ch ?_;first|refine Rx.k (mJ (fun _=>rfl) _ _) ?_|refine Rx.k (oy (fun _=>rfl) _ _ _) ?_|refine Rx.k (pX (fun _=>rfl) _ _ _) ?_)|(apply bT ?_ ?_<;>(intro hg hgp;try(cases hg;done)))|(apply aV ?_ ?_<;>(intro hb hbp;try(cases hb;done)))|(apply ak fun K hK=>?_)|fail)
  all_goals first
   |exact bN
   |((refine qc ?_);rw[U];(try simp only[]at *);simp only[ *,i4,gD,pG,];done)
 by_cases c26:V=26
 .subst c26;have U:cr l ⟨26,O,Y⟩ k=2:=r8;refine a0 (M:=221) (rs:=[.tmp 6]) (L.call _) L.aG L.az func130 rfl rfl gw.2 rfl ?_;dsimp only[gw,aW,Nat.reduceAdd];repeat' (first
   |(apply aj ?_;clear hK K)|apply aQ ?_|(apply ch ?_;first|refine Rx.k (mJ (fun _=>rfl) _ _) ?_|refine Rx.k (oy (fun _=>rfl) _ _ _) ?_|refine Rx.k (pX (fun _=>rfl) _ _ _) ?_)|(apply bT ?_ ?_<;>(intro hg hgp;try(cases hg;done)))|(apply aV ?_ ?_<;>(intro hb hbp;try(cases hb;done)))|(apply ak fun K hK=>?_)|fail)
  all_goals first
   |exact bN
   |((refine qc ?_);rw[U];done)
 by_cases c3:V=3
 .subst c3;have U:cr l ⟨3,O,Y⟩ k=if O.tmod 16=0 then 2 else 1:=r8
  refine a0 (M:=221) (rs:=[.tmp 6]) (L.call _) L.aG L.az func130 rfl rfl gw.2 rfl ?_;dsimp only[gw,aW,Nat.reduceAdd];repeat' (first
   |(apply aj ?_;clear hK K)|apply aQ ?_|(apply ch ?_;first|refine Rx.k (mJ (fun _=>rfl) _ _) ?_|refine Rx.k (oy (fun _=>rfl) _ _ _) ?_|refine Rx.k (pX (fun _=>rfl) _ _ _) ?_)|(apply bT ?_ ?_<;>(intro hg hgp;try(cases hg;done)))|(apply aV ?_ ?_<;>(intro hb hbp;try(cases hb;done)))|(apply ak fun K hK=>?_)|fail)
  all_goals first
   |exact bN
   |((refine qc ?_);rw[U,ah iZ];done)
   |((refine qc ?_);rw[U,af iZ];done)
 have U:cr l ⟨V,O,Y⟩ k=dF (eB k) 1:=by
  rw[Z,af c3,af c26,af c22,af c23,af c24,af c25,af ac,af c28,af i,af j]
 have hkb':k.length<2^60:=ac;have hk0:(0:Int)<=Y.length:=ac;refine a0 (M:=221) (rs:=[.tmp 6]) (L.call _) L.aG L.az func130 rfl rfl gw.2 rfl ?_;dsimp only[gw,aW,Nat.reduceAdd];repeat' (first
  |(apply aj ?_;clear hK K)|apply aQ ?_|(apply ch ?_;first|refine Rx.k (mJ (fun _=>rfl) _ _) ?_|refine Rx.k (oy (fun _=>rfl) _ _ _) ?_|refine Rx.k (G4 (fun _=>rfl) _ hkb' _) ?_|refine Rx.k (pX (fun _=>rfl) _ _ _) ?_)|(apply bT ?_ ?_<;>(intro hg hgp;try(cases hg;done)))|(apply aV ?_ ?_<;>(intro hb hbp;try(cases hb;done)))|(apply ak fun K hK=>?_)|fail)
 all_goals first
  |exact bN
  |((refine qc ?_);rw[U];done))
end
section
def tyK3.tyF:=ad @ec (ad @cA (ad @eZ (ad @fX (ad @jB (@zb)))))
open tyK3
noncomputable def VE:{c:SC // aC 69 (f81.body.getD .skip)=c}:=by
 refine⟨?_,?_⟩;rotate_left
 .simp only[f81,bz,aC,bw,bt,bA,bB,Nat.blt,Nat.ble];rfl
noncomputable def LH:En:=⟨130,true,bQ Ct wy fun x=>.int .i64 (cr x.l x.n x.k)⟩
def zj2:co prog ρ LH:=cz fun x z=>zj1 ρ x z
noncomputable def G9:qB:=[pE LH]
def zj3:eU prog ρ G9:=⟨y4 (zj2 ρ),trivial⟩
def zj4(l:qy):cp 60 (dR l)=dR l:=by
 show AV.aE ((l.map Nd.cells).map fun L=>L.map (cp 59))=_;rw[vm];have e:(fun L=>L.map (cp 59)) ∘ Nd.cells=Nd.cells:=by
  funext x
  show(x.cells).map (cp 59)=x.cells;rw[Nd.cells];simp only[lL,EV 57];rfl
 rw[e]
theorem zj5(y:NsX):(wy y).any (oQ 90)=false:=by
 obtain⟨l,⟨Z,V,Y⟩,s⟩:=y;rfl
def zj6(S:Nat->Prop)(H:Hp)(n:Nd):dc S 3 H (.agg n.cells) (.agg n.cells):=by
 refine⟨n.cells,?_,rfl⟩;rw[Nd.cells];exact⟨pD ⟨.int _ _,trivial⟩,pD ⟨.int _ _,trivial⟩,pD ⟨uu _,trivial⟩,trivial⟩
theorem zj7(J:∀i,cM tb 130 i=(pE LH).sp i)(C:jt tb 130=true){lo:Nat}(V:eL H v s lo)(l:qy)(n:Nd)(g:Ct ⟨l,n,s⟩):
 aM prog (ay pls tb) 130 [dR l,.agg n.cells,v] H fun w H'=>w=.int .i64 (cr l n s)/\Icy (fun k=>lo<=k) H H':=by
 obtain⟨u,Z,Y⟩:=V.ic;refine Bu (x:=(⟨l,n,s⟩:NsX)) (enc:=wy) (ok:=Ct) (out:=fun x=>.int .i64 (cr x.l x.n x.k)) (us:=[dR l,.agg n.cells,u]) (n:=3) zjQ (fun i=>by rw[J];rfl) C zj5 g ac ⟨pD ⟨rN _,trivial⟩,zj6 _ _ _,Z,trivial⟩ ?_;show [cp 60 (dR l),cp 60 (.agg n.cells),cp 60 u]=_;rw[Y,Ps 56,zj4];rfl
def zj8{l:qy}(C:i<l.length)(I:l[i]?=some n)(j:fw i (cm l i) n.aj=some s):iE l i (cm l i)=cr l n s:=by
 rw[<-zcZ ac,Jy,I];simp only[j]
def zj9{l:qy}{kn:qu}(C:i<l.length)(J:gZ l)(I:l[i]?=some n)(j:fw i kn n.aj=some s):Ct ⟨l,n,s⟩:=by
 have hb:=J.2 n (jM I);have e:=uB j;refine⟨e,uF,fun _ Z=>?_⟩;obtain⟨k,U⟩:=rL Z;simp only[]at U⊢;obtain⟨Y,V,_⟩:=tw j k (by rw[U];exact Pa _);obtain⟨m,rfl⟩:=gO Y;have O:m<l.length:=ac;exact⟨m,l[m],U,aL O,J.2 _ (cB O)⟩
def eL.at{l:qu}{lo:Nat}(h:eL H v l lo)(C:i<l.length):
 ∃r,ej prog 26 v (.int .i64 (i:Int))=some (.ptr r i)/\gL prog H 3 (.ptr r i)=some (.int .i64 l[i]):=by
 rcases h with⟨_,rfl⟩|h
 .simp at C
 .exact h.at C
set_option maxRecDepth 100000 in
theorem zka(l:qy)(hl:gZ l):bF prog ρ 81 [dR l] (dJ (cm l l.length)):=Jt (n:=3) (ur (r:=Bj (cm l l.length)) (m:=3) (cfg:=ay pls G9) fit (nU ρ) (eU.bR (zj3 ρ)) (.cons (rN _) .nil) (by
 have hl0:=hl;obtain⟨hl1,hl2⟩:=hl;have hw:zd0 (ay pls G9) 81:=db (fun _=>rfl) rfl;have hkeep:(ay pls G9).keep 81=false:=rfl;refine a0 (M:=69) (rs:=[.tmp 2]) (hw.call _) hw.aG hw.az func81 rfl rfl VE.2 rfl ?_;dsimp only[VE,aW,Nat.reduceAdd];refine iX ?_;refine bY [0,2] [] 4 l.length (fun i E H=>∃v,E.at 3=v/\su H v (cm l i) 0) eE ⟨.ak,eE,.inl ⟨rfl,rfl⟩⟩ ?_;rintro i E I hi hcE hrH hnH hsI ⟨v,k3,hv⟩;(try simp only[bq,aT,aN,aG,aR,Nat.reduceBEq, *]at hcE);(try simp only[aT, *]at hrH);(try simp only[bX,]at hnH);refine nM (fun hb hbp=>?_) (fun hb hbp=>?_)
 .have z:i<l.length:=by simpa using hb
  have hgi:l[i]?=some l[i]:=aL z;have hnk:=hl2 _ (cB z);generalize l[i]=n at *;refine lQ ?_;refine bY [0,2,3,4] [] 7 n.aj.length (fun j E H=>∃w s,E.at 5=w/\eL H w s I.next/\uE i (cm l i) n.aj j s/\E.at 6=.bool true/\∀k,k<I.next->H.get k=I.get k) eE ⟨.ak,[],eE,.inl ⟨rfl,rfl⟩,⟨rfl,au⟩,eE,fun _ _=>rfl⟩ ?_;rintro j E3 H3 hj hcE hrH hnH hsI ⟨w,s,k5,C,hJ,k6,V⟩;(try simp only[bq,aT,aN,aG,Nat.reduceBEq, *]at hcE);(try simp only[aT, *]at hrH);(try simp only[aZ,br,bX,bK,Nat.reduceAdd]at hnH);repeat' (first
   |(apply aj ?_;clear hK K)|apply aO ?_|(apply bp ?_ ?_<;>(intro hb hbp;try(cases hb;done)))|(apply ak fun K hK=>?_)|fail)
  .have hlt2:j<n.aj.length:=by simpa using hb
   have hgx:n.aj[j]?=some n.aj[j]:=aL hlt2;generalize n.aj[j]=L at *;have J:su H3 v (cm l i) 0:=hv.keep ac fun k Z=>V k (hv.n.lt Z).2;have Y:∀(x:Int),eL (H3.alloc (.cells [.int .i64 x] 0 true)) v (cm l i) 0:=fun x=>J.n.keep (dA _) fun k Z=>by rw[aD,af (by have:=(hv.n.lt Z).2;omega)]
   by_cases g:L<0\/(i:Int)<=L\/(cm l i).getD L.toNat 0=0
   .have hs0:iE l i (cm l i)=0:=EW hgi (hJ.dH hgx g);have O:cm l (i+1)=cm l i++[0]:=by rw[cm,hs0]
    obtain⟨v5,H5,a5,s5,n5,f5,o5⟩:=xC (r:=H3.next) (imm:=0) 0 (Y 0) (de _) fG vF;have n5':I.next<=H5.next:=vL
    clear n5 f5 o5 Y;by_cases c1:L<0
    .repeat' (first
      |(apply aj ?_;clear hK K)|apply aQ ?_|(apply bT ?_ ?_<;>(intro hg hgp;try(cases hg;done)))|(apply aV ?_ ?_<;>(intro hb hbp;try(cases hb;done)))|(apply ak fun K hK=>?_)|fail)
     refine⟨ac,aK,aK,bG,mF,?_⟩;exact⟨v5,eE,.inr ⟨w7,G5⟩⟩
    by_cases c2:(i:Int)<=L
    .have c1':¬L<0:=c1;repeat' (first
      |(apply aj ?_;clear hK K)|apply aQ ?_|(apply bT ?_ ?_<;>(intro hg hgp;try(cases hg;done)))|(apply aV ?_ ?_<;>(intro hb hbp;try(cases hb;done)))|(apply ak fun K hK=>?_)|fail)
     refine⟨ac,aK,aK,bG,mF,?_⟩;exact⟨v5,eE,.inr ⟨w7,G5⟩⟩
    have hb0:(cm l i).getD L.toNat 0=0:=by
     rcases g with h|h|h
     .exact absurd h c1
     .exact absurd h c2
     .exact h
    clear g;obtain⟨m,rfl⟩:=gO (EP.1 c1);have U:m<(cm l i).length:=vF;obtain⟨q,hix,hlo⟩:=J.n.at U;have hgk:(cm l i)[m]=0:=by
     rw[fK,cQ,aL U]at hb0;exact hb0
    rw[hgk]at hlo;repeat' (first
     |(apply aj ?_;clear hK K)|apply aQ ?_|(apply bT ?_ ?_<;>(intro hg hgp;try(cases hg;done)))|(apply aV ?_ ?_<;>(intro hb hbp;try(cases hb;done)))|(apply ak fun K hK=>?_)|fail)
    refine⟨ac,aK,aK,bG,mF,?_⟩;exact⟨v5,eE,.inr ⟨w7,G5⟩⟩
   .have hJn:=hJ.next hgx g
    have c1:¬L<0:=fun h=>g (.inl h);have c2:¬(i:Int)<=L:=fun h=>g (.inr (.inl h));have c3:¬(cm l i).getD L.toNat 0=0:=fun h=>g (.inr (.inr h));clear g Y;obtain⟨m,rfl⟩:=gO (EP.1 c1);have U:m<(cm l i).length:=vF;obtain⟨q,hix,hlo⟩:=J.n.at U;have hgk:(cm l i).getD (m:Int).toNat 0=(cm l i)[m]:=by
     rw[fK,cQ,aL U];rfl
    rw[hgk]at c3 hJn;generalize (cm l i)[m]=x at *;have hwb:eL (H3.alloc (.cells [.int .i64 x] 0 true)) w s I.next:=C.keep (dA _) fun k Z=>by rw[aD,af (by have:=(C.lt Z).2;omega)]
    obtain⟨v5,H5,a5,s5,n5,f5,o5⟩:=xC (r:=H3.next) (imm:=0) x hwb dG fG (by rw[hJ.1];omega);have n5':H3.next<=H5.next:=vL
    have o5':∀k,k<I.next->H5.get k=I.get k:=fun k Z=>by rw[f5 k Z,aD,af ac,V k Z]
    clear n5 f5 o5 hJ V J;repeat' (first
     |(apply aj ?_;clear hK K)|apply aQ ?_|(apply bT ?_ ?_<;>(intro hg hgp;try(cases hg;done)))|(apply aV ?_ ?_<;>(intro hb hbp;try(cases hb;done)))|(apply ak fun K hK=>?_)|fail)
    refine⟨ac,aK,aK,bG,xG,?_⟩;exact⟨v5,s++[x],eE,.inr s5,hJn,eE,o5'⟩
  .have hje:j=n.aj.length:=by omega
   rw[hje]at hJ;have J:su H3 v (cm l i) 0:=hv.keep ac fun k Z=>V k (hv.n.lt Z).2;have hs1:=zj8 z hgi hJ.done;have hok:=zj9 z hl0 hgi hJ.done;have O:cm l (i+1)=cm l i++[cr l n s]:=by rw[cm,hs1]
   refine lQ ?_;refine qd ?_;refine aY ?_ (zj7 (fun _=>rfl) rfl C l n hok);rintro x H4 ⟨rfl,hy⟩;have n4:=hy.next
   have n4':I.next<=H4.next:=ac
   have hv4:su H4 v (cm l i) 0:=J.keep ac fun k Z=>hy.out k (by have:=(hv.n.lt Z).2;omega);clear hy n4 C hJ V J hs1 hok;dsimp only[aU];generalize cr l n s=x at *;have Y:eL (H4.alloc (.cells [.int .i64 x] 0 true)) v (cm l i) 0:=hv4.n.keep (dA _) fun k Z=>by rw[aD,af (by have:=(hv4.n.lt Z).2;omega)]
   obtain⟨v5,H5,a5,s5,n5,f5,o5⟩:=xC (r:=H4.next) (imm:=0) x Y (de _) fG vF;have n5':I.next<=H5.next:=vL
   clear n5 f5 o5 Y;refine lQ ?_;refine⟨ac,aK,aK,bG,mF,?_⟩;exact⟨v5,eE,.inr ⟨w7,G5⟩⟩
 .have hie:i=l.length:=by simp at hb;omega
  rw[hie]at hv;refine lQ ?_;all_goals refine qq ?_
  exact hv.iceV 1)) (zcN 1 _)
end
section
noncomputable def Cu:En:=⟨81,true,bQ gZ og fun l=>dJ (cm l l.length)⟩
def VF:co prog ρ Cu:=cz fun l J=>zka ρ l J
def VG(J:∀i,cM tb 81 i=Cu.sp i)(l:qy)(Z:gZ l)(H:Hp):aM prog (ay pls tb) 81 [dR l] H fun v H'=>v=dJ (cm l l.length)/\H'=H:=
 bZ (enc:=og) (ok:=gZ) (out:=fun l=>dJ (cm l l.length)) zi (x:=l) (J _) Z
def tyK9.tyF:=ad @ec (ad @cA (ad @tj (ad @eZ (ad @fX (ad @jB (ad @xl (@zb)))))))
open tyK9
noncomputable def zT:{c:SC // aC 21 (f83.body.getD .skip)=c}:=by
 refine⟨?_,?_⟩;rotate_left
 .simp only[f83,bz,aC,bw,bt,bA,bB,Nat.blt,Nat.ble];rfl
def zkb(x:qy×Int)(z:gZ x.1):bF prog ρ 83 (sF x) (.int .i64 (cR x.1 x.2)):=dE fit (pls:=pls) (l:=[Cu]) ⟨VF ρ,trivial⟩ (.cons (rN _) (.cons (.int _ _) .nil)) (.int _ _) (by
 obtain⟨l,i⟩:=x;simp only[]at z;have C:=z.1;have L:zd0 (ay pls [Cu]) 83:=db (fun _=>rfl) rfl;rw[sF];simp only[];by_cases c1:i<0
 .refine a0 (M:=21) (rs:=[.tmp 4]) (L.call _) L.aG L.az func83 rfl rfl zT.2 rfl ?_;dsimp only[zT,aW,Nat.reduceAdd];repeat' (first
   |(apply aj ?_;clear hK K)|apply aQ ?_|(apply bT ?_ ?_<;>(intro hg hgp;try(cases hg;done)))|(apply aV ?_ ?_<;>(intro hb hbp;try(cases hb;done)))|(apply ak fun K hK=>?_)|fail)
  all_goals refine qq ?_
  rw[cR,ah (.inl c1)]
 by_cases I:(l.length:Int)<=i
 .refine a0 (M:=21) (rs:=[.tmp 4]) (L.call _) L.aG L.az func83 rfl rfl zT.2 rfl ?_;dsimp only[zT,aW,Nat.reduceAdd];repeat' (first
   |(apply aj ?_;clear hK K)|apply aQ ?_|(apply bT ?_ ?_<;>(intro hg hgp;try(cases hg;done)))|(apply aV ?_ ?_<;>(intro hb hbp;try(cases hb;done)))|(apply ak fun K hK=>?_)|fail)
  all_goals refine qq ?_
  rw[cR,ah (.inr I)]
 obtain⟨m,rfl⟩:=gO (EP.1 c1);have O:m<l.length:=ac;have Y:IntKind.wrap .i64 ((m:Int)+1)=((m+1:Nat):Int):=eX ac ac;have J:=zdN l (m+1) ac;have V:(l.take (m+1)).length=m+1:=td;have Z:(cm (l.take (m+1)) (m+1))[m]?=some (cR l m):=by
  rw[cR,af ac,fK,cQ,aL vF];rfl
 refine a0 (M:=21) (rs:=[.tmp 4]) (L.call _) L.aG L.az func83 rfl rfl zT.2 rfl ?_;dsimp only[zT,aW,Nat.reduceAdd];repeat' (first
  |(apply aj ?_;clear hK K)|apply aQ ?_|(apply ch ?_;first|refine Rx.k (VG (fun _=>rfl) _ (z.take _) _) ?_)|(apply bT ?_ ?_<;>(intro hg hgp;try(cases hg;done)))|(apply aV ?_ ?_<;>(intro hb hbp;try(cases hb;done)))|(apply ak fun K hK=>?_)|fail)
 all_goals refine qq ?_
 all_goals trivial)
noncomputable def LJ:En:=⟨83,true,bQ (fun x=>gZ x.1) sF fun x=>.int .i64 (cR x.1 x.2)⟩
def zkc:co prog ρ LJ:=cz fun x z=>zkb ρ x z
def zkd(J:∀Z,cM tb 83 Z=LJ.sp Z)(l:qy)(i:Int)(Y:gZ l)(H:Hp):aM prog (ay pls tb) 83 [dR l,.int .i64 i] H fun v H'=>v=.int .i64 (cR l i)/\H'=H:=
 bZ (enc:=sF) (ok:=fun x=>gZ x.1) (out:=fun x=>.int .i64 (cR x.1 x.2)) Pv (x:=(l,i)) (J _) Y
end
section
def tyVdC.tyF:=ad @ec (ad @cA (ad @eZ (ad @fX (ad @jB (@oH)))))
open tyVdC
noncomputable def VH:{c:SC // aC 34 (f82.body.getD .skip)=c}:=by
 refine⟨?_,?_⟩;rotate_left
 .simp only[f82,bz,aC,bw,bt,bA,bB,Nat.blt,Nat.ble];rfl
theorem zke(x:qy×Int)(J:gZ x.1):bF prog ρ 82 (sF x) (.int .i64 (kL x.1 x.2)):=dE fit (pls:=pls) (l:=[]) trivial (.cons (rN _) (.cons (.int _ _) .nil)) (.int _ _) (by
 obtain⟨l,m⟩:=x;simp only[]at J;obtain⟨hl1,g⟩:=J;have L:=fh 82;have q2:(2:Int)≠0:=aE;rw[sF];simp only[];refine a0 (M:=34) (rs:=[.tmp 4]) (L.call _) L.aG L.az func82 rfl rfl VH.2 rfl ?_;dsimp only[VH,aW,Nat.reduceAdd];refine iX ?_;refine bY [0,1] [] 5 l.length (fun i E H=>kL (l.drop i) m=kL l m) eE rfl ?_;rintro i E Hi hi U O z C V;(try simp only[bq,aT,aN,aG,aR,Nat.reduceBEq, *]at U);(try simp only[aT, *]at O);(try simp only[bX,]at z);by_cases j:i<l.length
 .have Z:(i:Int)<l.length:=by omega
  have hgx:l[i]?=some l[i]:=aL j;have hnk:=g _ (cB j);have hd:kL (l.drop i) m=if l[i].op=31/\l[i].aF=m then (l[i].aj.length:Int).tdiv 2 else kL (l.drop (i+1)) m:=by rw[ft j,kL]
  rw[V]at hd;clear V;generalize l[i]=n at *;have e1:IntKind.wrap .i64 ((n.aj.length:Int).tdiv 2)=(n.aj.length:Int).tdiv 2:=by
   rw[l9 ac];exact eX ac ac
  by_cases Y:n.op=31
  .by_cases I:n.aF=m
   .rw[ah ⟨Y,I⟩]at hd;repeat' (first
     |(apply aj ?_;clear hK K)|apply aQ ?_|(apply bT ?_ ?_<;>(intro hg hgp;try(cases hg;done)))|(apply aV ?_ ?_<;>(intro hb hbp;try(cases hb;done)))|(apply ak fun K hK=>?_)|fail)
    all_goals refine qq ?_
    rw[hd]
   .rw[af (fun c=>I c.2)]at hd;repeat' (first
     |(apply aj ?_;clear hK K)|apply aQ ?_|(apply bT ?_ ?_<;>(intro hg hgp;try(cases hg;done)))|(apply aV ?_ ?_<;>(intro hb hbp;try(cases hb;done)))|(apply ak fun K hK=>?_)|fail)
    refine⟨ac,aK,aK,bG,mF,?_⟩;exact hd.symm
  .rw[af (fun c=>Y c.1)]at hd;repeat' (first
    |(apply aj ?_;clear hK K)|apply aQ ?_|(apply bT ?_ ?_<;>(intro hg hgp;try(cases hg;done)))|(apply aV ?_ ?_<;>(intro hb hbp;try(cases hb;done)))|(apply ak fun K hK=>?_)|fail)
   refine⟨ac,aK,aK,bG,mF,?_⟩;exact hd.symm
 .have Z:¬(i:Int)<l.length:=by omega
  rw[ny ac]at V;refine wG ?_;all_goals refine qq ?_
  rw[<-V];rfl)
noncomputable def VI:En:=⟨82,false,bQ (fun x=>gZ x.1) sF fun x=>.int .i64 (kL x.1 x.2)⟩
def zkf:co prog ρ VI:=cz fun x z=>zke ρ x z
noncomputable def VJ:En:=⟨84,false,bQ Lu og fun l=>GY (iF l l.length)⟩
def zkg:co prog ρ VJ:=cz fun l J=>zjx ρ l J
noncomputable def wA:qB:=[zk,Cu,KK,VI,LJ,VJ]
def zkh:eU prog ρ wA:=⟨BC ρ,VF ρ,zhs ρ,zkf ρ,zkc ρ,zkg ρ,trivial⟩
def LK(x:VgX):Prop:=GD x/\x.g.name.length<2^60/\∀n∈x.g.ag,-9223372036854775808<=n.aF/\n.aF<9223372036854775808
def oz(u:Un)(g:Gr):Bool:=ci g.name&&gh u g
def pY(t:qu):qL:=t.map fun x=>decide (0<x)
theorem zki{t:qu}(h:t.length=16)(O:m<16):(pY t).getD m false=decide (0<t.getD m 0):=by
 rw[pY,cQ,eu,cQ,aL ac];rfl
def zkj{t:qu}{v:Int}(V:0<v):(pY t).set m true=pY (t.set m v):=by
 rw[pY,pY,tt,dx V]
def zkk:j7 (fun _=>false)=pY (List.replicate 16 0):=aE
def LL(h:gh u g=true):(0<=g.params/\g.params<=6)/\(g.ag.length:Int)<=2000:=by
 unfold gh at h;simp only[jN]at h;exact h.1.1.1
def LM(h:gh u g=true)(I:g.ag[i]?=some n):cR g.ag i≠0/\iu u g n=true:=by
 unfold gh at h;simp only[cj]at h;have C:i<g.ag.length:=by
  by_cases c:i<g.ag.length
  .exact c
  .rw[gV ac]at I;cases I
 have:=gM.1 h.1.1.2 i (lF.2 C);rw[ow,I,cj,kA]at this;exact this
def zU(h:gh u g=true):nD g.ag=true/\jW g.ag=true/\cR g.ag g.value=1/\cR g.ag g.ab=2/\eY g.ag g.value=0/\eY g.ag g.ab=0:=by
 unfold gh at h;simp only[jN]at h;obtain⟨⟨_,⟨⟨⟨⟨⟨U,Y⟩,_⟩,_⟩,_⟩,_⟩⟩,⟨⟨j,J⟩,i⟩,C⟩:=h;exact⟨U,Y,j,J,i,C⟩
def Cv{l:qy}{i:Int}(h:cR l i≠0):0<=i/\i<l.length:=by
 by_cases c:i<0\/(l.length:Int)<=i
 .exact absurd (by rw[cR,ah c]) h
 .omega
theorem zkl(V:0<=g.params)(h1:g.params<=6)(h2:(g.ag.length:Int)<=2000)(m:∀(i:Nat) (n:Nd),g.ag[i]?=some n->cR g.ag i≠0/\iu u g n=true)(O:nD g.ag=true)(M:jW g.ag=true)
 (U:cR g.ag g.value=1) (Y:cR g.ag g.ab=2) (L:eY g.ag g.value=0) (J:eY g.ag g.ab=0):gh u g=true:=by
 obtain⟨I,C⟩:=Cv (l:=g.ag) (i:=g.value) (by rw[U];decide);obtain⟨z,s1⟩:=Cv (l:=g.ag) (i:=g.ab) (by rw[Y];decide);have hr:((List.range g.ag.length).all (ow u g))=true:=gM.2 fun j Z=>by
  have Z:=lF.1 Z;obtain⟨a,b⟩:=m j _ (aL Z);rw[ow,aL Z];simp only[dx a,b,vn]
 unfold gh;rw[hr,O,M,U,Y,L,J,dx V,dx h1,dx h2,dx I,dx C,dx z,dx s1];rfl
theorem zkm(h:¬(ci g.name=true/\gh u g=true)):oz u g=false:=by
 unfold oz;cases a:ci g.name<;>cases b:gh u g<;>simp_all
def zkn{l:qy}(h:∀(i:Nat) (n:Nd),l[i]?=some n->cR l i≠0):(∀(i:Nat) (n:Nd),l[i]?=some n->zli n i)/\∀n∈l,(n.op=31->zd6 n)/\(n.op=3->0<=n.aF/\n.aF<=255)/\(n.op=30->0<=n.aF):=by
 refine⟨fun i n I=>(zJ I (h i n I)).1,fun n I=>?_⟩;obtain⟨j,Z,e⟩:=ta I;have hg:l[j]?=some n:=by rw[aL Z,e]
 obtain⟨a,b,c⟩:=zJ hg (h j n hg);refine⟨fun e=>?_,a.lv,fun e=>(b e).1⟩;obtain⟨z,C,Y,V⟩:=a.lp e;exact⟨z,C,Y,V⟩
def zko{l:qy}(h:∀(j:Nat) (n:Nd),l[j]?=some n->∀(k:Nat) (m:Nd),k<j->l[k]?=some m->m≠n):l.Nodup:=by
 refine G8.2 fun i j C Z g e=>?_;exact h j _ (aL Z) i _ g (aL C) e
def zkp{l:qy}(h:l.Nodup){m:Nd}(g:i<j)(Y:l[i]?=some m)(Z:l[j]?=some n):m≠n:=by
 have J:j<l.length:=by
  by_cases c:j<l.length
  .exact c
  .rw[gV ac]at Z;cases Z
 have C:i<l.length:=ac;rw[aL C,aI]at Y;rw[aL J,aI]at Z;rw[<-Y,<-Z];exact G8.1 h i j C J g
def VK{l:qy}(h:∀(i:Nat) (n:Nd),l[i]?=some n->cR l i≠0)(C:∀n∈l,-9223372036854775808<=n.aF/\n.aF<9223372036854775808)(J:gZ l):∀n∈l,NdR n:=fun n I=>by
 obtain⟨j,Y,e⟩:=ta I;have hg:l[j]?=some n:=by rw[aL Y,e]
 have M:=h j n hg;have V:=(zJ hg M).1.aj;rw[xD Y]at M;obtain⟨s,O,U,L⟩:=EC hg M;have z:=J.1;refine⟨?_,C n I,fun k Z=>?_,J.2 n I⟩
 .unfold bR at U;by_cases c:0<=n.op/\n.op<256
  .exact c
  .have:(bC n.op).2=false:=by unfold bC;repeat' (rw[af ac])
   rw[ah this]at U;cases U
 .have:=V k Z;omega
end
section
def tyKuM.tyF:=ad @gQ (ad @rB (ad @rC (ad @rO (@rQ))))
open tyKuM
def UnM.eA{bM Y i g:Hp}{L V:AV}{U:Nat->Nat}{M:qt}(h:UnM Y i u L V m U M)(h0:bM.next<=Y.next)(I:i.next<=g.next)(j:∀k,Y.next<=k->k<i.next->g.get k=i.get k)(hg:∀k,k<bM.next->g.get k=bM.get k):UnM bM g u L V m U M where
 ar:=h.ar.keep (fun k _ j=>⟨ac,j.2⟩) I fun k z J=>j k z.1 J
 fs:=h.fs.keep (aH _) I fun k h1 Z=>j k (by have:=h.lo;omega) Z
 arx hne:=by
  obtain⟨q,O,C,e3,e4,e5⟩:=h.arx hne;exact⟨q,O,ac,e3,ac,by rw[j q C e4];exact e5⟩
 lo:=by have:=h.lo;omega
 next:=by have:=h.next;omega
 get:=hg
structure KuT (tb:qB):Prop extends zd7 tb where
 ck:∀ar,cM tb 54 ar=zI.sp ar
 lo:zd0 (ay pls tb) 36
 un:zd0 (ay pls tb) 15
 pr:∀ar,cM tb 12 ar=GV.sp ar
set_option maxRecDepth 100000 in
theorem zkq(U:KuT tb)(l:qu)(I:l.length<2^63)(hr:gp l)(H:Hp):
 aM prog (ay pls tb) 15 [kK l] H fun v H'=>∃L V m O Z,v=.agg [L,V]/\UnM H H' (lP l) L V m O Z:=by
 have J:=U.un;have hp:=Lt hr;have kp:∀H,aM prog (ay pls tb) 12 [kK l] H fun v H'=>v=.agg (cH l).cells/\H'=H:=fun H=>bZ (enc:=fun l=>[kK l]) (ok:=fun l=>l.length<2^63) (out:=fun l=>.agg (cH l).cells) (fun x y h=>GT jf) (x:=l) (U.pr _) I;refine a0 (M:=12) (rs:=[.cell 2 37]) (J.call _) J.aG J.az func15 rfl rfl GW.2 rfl ?_;dsimp only[GW,aW,Nat.reduceAdd];repeat' (first
  |(apply aj ?_;clear hK K)|apply aO ?_|(apply ez ?_;first|refine Rx.k (kp _) ?_)|(apply ak fun K hK=>?_)|fail)
 refine qd ?_;refine aY ?_ (zic U.tozd7 U.ck U.lo (cH l) (n:=2*(cH l).sz+1) (by have:=hp.sz;omega) (fun hc=>Ld ⟨hc,hp.rg hc⟩ hp.sz (cC _)) hp.bY _);rintro v i ⟨L,V,m,O,Z,rfl,Y⟩;have n2:=Y.next
 simp only[aZ]at n2;have g2:i.get H.next=some qi:=by rw[Y.get _ dG,aD,ah rfl]
 have ag:cI 2 [L,V]=some (.agg [L,V]):=rfl;have e2:(H.next == i.next)=false:=aX ac;obtain⟨z,j⟩:=Y.ar.one;obtain⟨g,hf2⟩:=Y.fs.one;have hlo:=Y.lo;dsimp only[aU];refine pZ ?_;refine⟨aq,_,(by(try simp only[aG,aR,Nat.reduceBEq,tyF,cL,cY, *]);first|done|with_reducible rfl),?_⟩;try simp only[am]
 refine⟨L,V,m,O,Z,rfl,Y.eA dG iU (fun k C h2=>?_) fun k hk=>?_⟩
 .simp only[aZ]at C;rw[aA,af ac,aA,af ac,aD,af ac]
 .rw[aA,af ac,aA,af ac,aD,af ac,Y.get k dG,aD,af ac]
def VL{l:qu}(hr:gp l):∃f g,lP l=⟨pd (l.take 60),[f,g]⟩/\f.ag.length<=965/\g.ag.length<=965/\(∀n∈f.ag,NdR n)/\(∀n∈g.ag,NdR n)/\(∀n∈f.ag,n.aj.length<=40)/\(∀n∈g.ag,n.aj.length<=40)/\f.ag≠[]/\g.ag≠[]/\iI (lP l)=true/\zlf (lP l)/\f.name.length<=8/\g.name.length<=8:=by
 obtain⟨f,g,i,J,I,j,h5,h6,h7⟩:=zjh hr;have hp:=Vf hr;have L:=Lt hr;have V:iP (l.take 60)∈(cH l).funcs:=ei;have U:iQ (l.take 60)∈(cH l).funcs:=ev _ ei;have Y:∀F∈(cH l).funcs,∀G,jE (cH l) (2*(cH l).sz+1) F=some G->∀n∈G.ag,NdR n:=fun F C G hG=>by
  obtain⟨s,v,Z,m,e3⟩:=Ld hp L.sz (cC _) F C;unfold jE at hG;rw[Z,cy,m,cy,aI]at hG;rw[<-hG];exact e3.r
 have z:lP l=⟨pd (l.take 60),[f,g]⟩:=by rw[lP,i]
 have O:iI (lP l)=true/\zlf (lP l):=by
  rcases ziY hp L.sz (cC _) L.bY with⟨e,_⟩|⟨_,Z,_,_,m⟩
  .rw[i]at e;cases e
  .exact⟨Z,m⟩
 have ne:∀G∈(lP l).funcs,G.ag≠[]:=fun G hG e=>by
  have M:=O.1;unfold iI at M;rw[cj,gM]at M;have h9:=(zU (M.2 G hG)).2.2.1;have:=Cv (by rw[h9];decide:cR G.ag G.value≠0);rw[e]at this;simp at this;omega
 refine⟨f,g,z,j,h5,Y _ V f J,Y _ U g I,h6,h7,ne f (by rw[z];simp),ne g (by rw[z];simp),O.1,O.2,?_,?_⟩
 .rw[(GS J).1];show [102].length<=8;decide
 .rw[(GS I).1];show [103].length<=8;decide
end
section
def zkr(l:qy)(x:Nd):Bool:=l.any fun y=>decide (y=x)
def VM(out:qy)(x:Nd):qy:=if zkr out x=true then out else out++[x]
def zld(out:qy)(x:Nd):(VM out x).length<=out.length+1:=by
 unfold VM;split
 .omega
 .rw[fB];exact aH _
def VN(c:Nat)(l:qy):Prop:=∀n∈l,n.aj.length<=c
def wB(l:qy)(n:Nd)(i V:Int):Nd:=
 if bO i 10=0 then ⟨bO (bS (i.tdiv 10)) 36-1,n.aF,n.aj⟩
 else if bO i 10=1 then ⟨n.op,bO (bS (i.tdiv 10)) 300-3,n.aj⟩
 else if bO i 10=2 then ⟨n.op,n.aF,n.aj++[bO (bS (i.tdiv 10)) (l.length+2)-1]⟩
 else if bO i 10=3 then (if n.aj=[]then n else ⟨n.op,n.aF,n.aj.set (bO (bS (i.tdiv 10)) n.aj.length).toNat (bO (bS (V.tdiv 3)) (l.length+2)-1)⟩)
 else if bO i 10=4 then ⟨n.op,n.aF,n.aj.drop 1⟩
 else if bO i 10=6 then ⟨3,bO (bS (i.tdiv 10)) 40,[]⟩
 else n
def j8(l:qy)(i V:Int):qy:=
 if l=[]then []else
  (if bO i 10=5 then l++[l.getD (bO V l.length).toNat ⟨0,0,[]⟩]else l).set (bO V l.length).toNat (wB l (l.getD (bO V l.length).toNat ⟨0,0,[]⟩) i V)
def zks(l:qy)(n:Nd)(i V:Int):(wB l n i V).aj.length<=n.aj.length+1:=by
 unfold wB;repeat' split
 all_goals (first|(simp;done)|(simp;omega))
def VO(l:qy)(i V:Int):(j8 l i V).length<=l.length+1:=by
 unfold j8;split
 .exact de _
 .rw[jv];split
  .rw[fB];exact aH _
  .omega
def VP{l:qy}{c:Nat}(h:VN c l)(i V:Int):VN (c+1) (j8 l i V):=by
 intro n I;unfold j8 at I;split at I
 .simp at I
 .rename_i m;have hg:(l.getD (bO V l.length).toNat ⟨0,0,[]⟩).aj.length<=c:=by
   rw[cQ];cases e:l[(bO V l.length).toNat]? with
   |none=>exact de _
   |some x=>exact h x (jM e)
  rcases r0 I with I|rfl
  .split at I
   .rcases nR.1 I with I|I
    .have:=h n I;omega
    .rw[BG]at I;subst I;omega
   .have:=h n I;omega
  .have:=zks l (l.getD (bO V l.length).toNat ⟨0,0,[]⟩) i V;omega
theorem VQ{z:Nat}:∀{rows:List qt}{i:Nat}{r:qt},(∀x∈rows,x.length=z)->rows[i]?=some r->rows.flatten.drop (i*z)=r++(rows.drop (i+1)).flatten
 |[],i,r,_,e=>by simp at e
 |a::rows,0,r,h,e=>by
  simp only[nV,aI]at e;subst e;simp
 |a::rows,i+1,r,h,e=>by
  have Y:=h a ei;have ih:=VQ (rows:=rows) (i:=i) (r:=r) (fun x Z=>h x (ev _ Z)) yU;have V:(i+1)*z=a.length+i*z:=by rw[ud,Y];omega
  rw[jL,V,KF,ih];rfl
theorem VS{z:Nat}{w:qt}(L:w.length=z):∀{rows:List qt}{i:Nat},(∀x∈rows,x.length=z)->i<rows.length->splice rows.flatten (i*z) w=(rows.set i w).flatten
 |[],i,_,e=>by simp at e
 |a::rows,0,h,e=>by
  have Z:=h a ei;simp only[splice,te,vM,nN,bK,jL,Jn];rw[Dt ac,De ac,nN]
 |a::rows,i+1,h,e=>by
  have Z:=h a ei;have ih:=VS L (rows:=rows) (i:=i) (fun x Y=>h x (ev _ Y)) yU;simp only[splice,jL,List.set_cons_succ]at ih⊢;have V:(i+1)*z=a.length+i*z:=by rw[ud,Z];omega
  rw[V,List.take_length_add_append,ki,KF,lU,lU];rw[lU]at ih;rw[ih]
def zkt{r:qt}(h:∀x∈rows,x.length=z)(e:rows[i]?=some r):cI z (rows.flatten.drop (i*z))=some (.agg r):=by
 have hr:=h r (jM e);rw[VQ h e];unfold cI;rw[Aq ac,fI ac,ah hr]
theorem zku{L:qt}(I:P.underlying t=some (.slice e))(j:bE P e=some z)(hb:dt P e=some b)(i:cS P e=some L)(J:L.length=z)(V:iR P t=true)
  (hg:H.get q=some qh) (hq:q<H.next)  (hr:∀x∈rows,x.length=z) (g:rows.flatten.all AV.one=true) (Z:rows.length*b<=dL) (C:rows.length<=dL) :
 ∃U H',cX P false H t t (.sl q 0 0 z) (.aE rows)=some (.sl U 0 rows.length z,H')/\H'.get U=some (.cells rows.flatten 0 true)/\(U=q\/U=H.next)/\U<H'.next/\H.next<=H'.next/\H'.next<=H.next+1/\∀k,k<H.next->k≠q->H'.get k=H.get k:=by
 have Y:eQ H z (.aE rows)=some (rows.length,rows.flatten):=FM hr;by_cases h0:rows=[]
 .subst h0;refine⟨q,H,?_,hg,.inl rfl,hq,aH _,dA _,fun _ _ _=>rfl⟩;simp only[ik]at Y;simp only[cX,I,j,hb,i,V,Y,ik]
 .obtain⟨m,hm⟩:∃m,rows.length=m+1:=⟨rows.length-1,by have:=tq.2 h0;omega⟩;have M:ii false H z (.sl q 0 0 z)=H:=by
   unfold ii;simp only[hg];have:Nat.blt (0+0*z) ([]:qt).length=false:=by
    cases hb:Nat.blt (0+0*z) ([]:qt).length with
    |false=>rfl
    |true=>rw[jK]at hb;simp at hb
   simp only[this,pC,em]
  refine⟨H.next,(H.aR q).alloc (.cells rows.flatten 0 true),?_,?_,.inr rfl,cC _,dA _,aH _,fun k hk O=>?_⟩
  .rw[hm]at Y Z C;simp only[cX,I,j,hb,i,V,Y,g,M,J,po,dh,mK,hg,bK,te,List.drop_nil,dI,dD];rw[ah ⟨ub,Ap,au,trivial,au⟩,hm];simp
  .show((H.aR q).alloc _).get (H.aR q).next=_
   rw[aD,ah rfl]
  .rw[aD,af nh,gN,af O]
def zkv{t:Nat}{tip:Bool}{w:qt}(M:bE P t=some z)(hg:H.get q=some (.cells rows.flatten 0 tip))(I:∀x∈rows,x.length=z)(C:i<rows.length)(L:w.length=z)(h1:w.all AV.one=true):mr P H t (.ptr q (i*z)) (.agg w)=some (H.set q (.cells (rows.set i w).flatten 0 tip)):=by
 have J:=y3 I;have hb:i*z+z<=rows.flatten.length:=by
  rw[J];have:(i+1)*z<=rows.length*z:=yz z C;rw[ud]at this;exact this
 simp only[mr,hg,M];show(if w.length=z/\0<=i*z/\i*z+z<=rows.flatten.length/\w.all AV.one=true then some (H.set q (.cells (splice rows.flatten (i*z) w) 0 tip))else none)=_;rw[ah ⟨L,de _,hb,h1⟩,VS L I C]
def tyK7.tyF:=ad @ec (ad @cA (ad @eZ (ad @fX (ad @jB (ad @oH (ad @zb (@Rf)))))))
open tyK7
noncomputable def VT:{c:SC // aC 111 (f37.body.getD .skip)=c}:=by
 refine⟨?_,?_⟩;rotate_left
 .simp only[f37,bz,aC,bw,bt,bA,bB,Nat.blt,Nat.ble];rfl
def zkw(H:Hp):et prog H 42 0 []=some (.sl H.next 0 0 3,H.alloc qh):=aB
def zkx(H:Hp):et prog H 26 0 []=some (.sl H.next 0 0 1,H.alloc qh):=aB
def Cw(l:qy):∀x∈l.map Nd.cells,x.length=3:=fun r hr=>by
 obtain⟨a,_,rfl⟩:=mT.1 hr;exact a.bh
theorem VU:∀l:qy,(l.map Nd.cells).flatten.all AV.one=true
 |[]=>rfl
 |a::l=>by rw[dZ,jL,yF,a.one,VU l];rfl
def cn.nd{n:Nat}(x:Nd):cn S (n+1) H x.cells x.cells:=by
 refine .cons (.int _ _) (.cons (.int _ _) (.cons ?_ .nil));exact .bN ⟨uu _,trivial⟩ (Ra _)
theorem LN{S:Nat->Prop}{n:Nat}{H:Hp}:∀l:qy,fR S (n+1) H 3 (l.map Nd.cells) (l.map Nd.cells)
 |[]=>trivial
 |a::l=>⟨⟨a.bh,cn.nd a⟩,LN l⟩
def zky{l:qu}{lo:Nat}(m:qu)(V:pF H v l lo)(L:lo<=H.next)(hb:l.length+m.length<2^40):
 ∃O H',cX prog false H 26 26 v (dJ m)=some (O,H')/\pF H' O (l++m) lo/\H.next<=H'.next/\(∀k,k<lo->H'.get k=H.get k):=by
 by_cases Z:m=[]
 .subst Z;refine⟨v,H,?_,Ep,aH _,fun _ _=>rfl⟩;obtain⟨r,rfl,g,_⟩:=V;simp only[cX,underlying26,jg,pw,px,show iR prog 26=true by kernel_rfl,y0,eQ,oK,dh,ik]
 .obtain⟨O,H',i,g,Y,U,_⟩:=EB (.inr V) L (zcG H m) Z hb;exact⟨O,H',i,g,ac,U⟩
theorem zkz{U:qt}(M:P.underlying t=some (.slice e))(I:bE P e=some z)(hb:dt P e=some b)(m:cS P e=some U)(J:U.length=z)(V:iR P t=true)
 {r imm:Nat}{row:qt} (L:H.get q=some (.cells rows.flatten 0 true)) (O:∀x∈rows,x.length=z) (hg:H.get r=some (.cells row imm true)) (j:row.length=z) (g:row.all AV.one=true) (Z:(rows.length+1)*b<=dL) (C:rows.length+1<=dL) :
 cX P false H t t (.sl q 0 rows.length z) (.sl r 0 1 z)=some (.sl H.next 0 (rows.length+1) z,(H.aR q).alloc (.cells (rows.flatten++row) 0 true)):=by
 have i:eQ H z (.sl r 0 1 z)=some (1,row):=by
  have:=pq (H:=H) (r:=r) (o:=0) (n:=1) (z:=z) (s:=z) hg FC;rw[this,eS,fI ac]
 have hrl:=y3 O;have Y:ii false H z (.sl q 0 rows.length z)=H:=by
  unfold ii;simp only[L,bK];have:Nat.blt (rows.length*z) rows.flatten.length=false:=by
   cases hb:Nat.blt (rows.length*z) rows.flatten.length with
   |false=>rfl
   |true=>rw[jK]at hb;omega
  simp only[iC,el,this,em]
 simp only[cX,M,I,hb,m,V,i,g,Y,J,po,dh,mK,L,bK,eS,dI,dD];rw[ah ⟨Z,C,ac,trivial,de _⟩]
theorem zkA{r:Nat}{kids:qu}(U:kids.length≠0)(hg:H.get r=some (.cells (kids.map (.int .i64)) 0 true))(hr:r<H.next)(hS:S r):
 ∃O,gU prog 26 (.sl r 0 kids.length 1) (some (.int .i64 1)) none=some O/\AV.one O=true/\O.cells=[O]/\∀H',H.next<=H'.next->H'.get r=H.get r->dy S 2 H' O (dJ (kids.drop 1)):=by
 have V:(1:Int)=Int.ofNat 1:=rfl;have M:gU prog 26 (.sl r 0 kids.length 1) (some (.int .i64 1)) none=some (if 1=kids.length then .aE []else .sl r (0+1*1) (kids.length-1) 1):=by
  simp only[gU,underlying26,jg,ig];rw[ah ⟨ac,aH _,trivial⟩];split<;>rfl
 rw[M];by_cases c:1=kids.length
 .rw[ah c];refine⟨_,rfl,rfl,rfl,fun H' _ _=>?_⟩;have:kids.drop 1=[]:=AC AH;rw[this];exact dy.bQ
 .rw[af c];refine⟨_,rfl,rfl,rfl,fun H' I z=>?_⟩;have Z:(kids.drop 1).length=kids.length-1:=kT;refine⟨.aE (fP 1 (kids.length-1) ((kids.drop 1).map (.int .i64))),⟨hS,ac,_,0,true,(kids.drop 1).map (.int .i64),by rw[z];exact hg,de _,KW,?_,rfl⟩,fun m Y=>?_⟩
  .rw[<-Ll,fI (by rw[cN,kT];omega)];exact JT _ _ _ _
  .rw[<-Z,EA];obtain⟨k,rfl⟩:∃k,m=k+2:=⟨m-2,ac⟩;exact EV k _
structure MutF (ws:List qt) (w:qt) (k:Nat) (E:ax) (H:Hp) (q:Nat) (rows:List qt) (row:qt):Prop where
 k7:E.at 7=.sl q 0 rows.length 3
 k8:E.at 8=.int .i64 k
 k9:∃r,E.at 9=.ptr r 0/\H.get r=some (.cells row 0 true)/\r≠q
 gq:H.get q=some (.cells rows.flatten 0 true)
 r3:∀x∈rows,x.length=3
 w3:row.length=3
 one:row.all AV.one=true
 rw_:fR (fun j=>j≠q) 2 H 3 rows ws
 cw:cn (fun j=>j≠q) 2 H row w
 lt:q<H.next
structure MuX where
 l:qy
 how:Int
 a:Int
def wC(x:MuX):qt:=[dR x.l,.int .i64 x.how,.int .i64 x.a]
def zkB(x y:MuX)(h:wC x=wC y):x=y:=by
 obtain⟨a,b,c⟩:=x;obtain⟨Z,U,Y⟩:=y;simp only[wC,dN,AV.int.injEq,aN,jy]at h;rw[Bq h.1,h.2.1,h.2.2]
def LO(x:MuX):Prop:=gZ x.l/\x.l≠[]
set_option maxRecDepth 100000 in
theorem zkC(x:MuX)(hx:LO x):bF prog ρ 37 (wC x) (dR (j8 x.l x.how x.a)):=FO (n:=60) (cfg:=ay pls [tG]) fit (nU ρ) (eU.bR ⟨FI ρ,trivial⟩) (.cons (rN _) (.cons (.int _ _) (.cons (.int _ _) .nil))) (by
 obtain⟨l,Y,a⟩:=x;obtain⟨hl,hne⟩:=hx;simp only[]at hl hne;have hl1:=hl.1;have hw:zd0 (ay pls [tG]) 37:=db (fun _=>rfl) rfl;have hkeep:(ay pls [tG]).keep 37=false:=rfl;have hlp:0<l.length:=tq.2 hne;have hr:=iW (n:=a) (m:=l.length) ac ac;obtain⟨k,hk⟩:=gO hr.1;rw[hk]at hr;have hkl:k<l.length:=ac;have hgk:l[k]?=some (l.getD k ⟨0,0,[]⟩):=by rw[cQ,aL hkl];rfl
 have hnk:(l.getD k ⟨0,0,[]⟩).aj.length<2^30:=by
  have:=jM hgk;exact hl.2 _ this
 have hmut:j8 l Y a=(if bO Y 10=5 then l++[l.getD k ⟨0,0,[]⟩]else l).set k (wB l (l.getD k ⟨0,0,[]⟩) Y a):=by
  rw[j8,af hne,hk,fK]
 generalize hn:l.getD k ⟨0,0,[]⟩=n at *;rw[wC];simp only[];have hlne:(l.length:Int)≠0:=ac;refine a0 (M:=111) (rs:=[.tmp 6]) (hw.call _) hw.aG hw.az func37 rfl rfl VT.2 rfl ?_;dsimp only[VT,aW,Nat.reduceAdd];have gh0:=@zkw;refine dY fun K hK=>?_;obtain⟨q,H1,a1,gq,hq1,hq2,cF,n1',o1⟩:=zku (P:=prog) (t:=42) (H:=bM.alloc qh) (q:=0) underlying42 uq D2 D3 rfl aB FF (by rw[aZ];omega) (rows:=l.map Nd.cells) (Cw l) (VU l) G6 G6;refine jP cV cV (by rw[hkeep];exact a1) ?_;have hrow:(l.map Nd.cells)[k]?=some n.cells:=by rw[eu,hgk];rfl
 have hagg:=zkt (Cw l) hrow;repeat' (first
  |(apply aj ?_;clear hK K)|apply aQ ?_|(apply ch ?_;first|refine Rx.k (oq (fun _=>rfl) _ _ hlne _) ?_)|(apply aV ?_ ?_<;>(intro hb hbp;try(cases hb;done)))|(apply ak fun K hK=>?_)|fail)
 generalize I:Hp.set (Hp.alloc H1 _) _ _=H2;have n2:H1.next+1<=H2.next:=by rw[<-I];exact aH _
 have g9:H2.get H1.next=some (.cells [.int .i64 n.op,.int .i64 n.aF,dJ n.aj] 0 true):=by rw[<-I,aA,ah rfl];rfl
 have gq2:H2.get q=some (.cells (l.map Nd.cells).flatten 0 true):=by rw[<-I,aA,af ac,aD,af ac];exact gq
 have hq9:q<H1.next:=hq2
 clear I a1 o1 cF n1' hq1 hq2 gq hagg hrow;obtain⟨O,H3,a3,s3,n3,o3⟩:=zky (H:=H2.alloc qh) (v:=.sl H2.next 0 0 1) (l:=[]) (lo:=H2.next) n.aj ⟨H2.next,rfl,iq,aH _,cC _⟩ (dA _) bW;rw[nN]at s3;have n3':H2.next+1<=H3.next:=n3
 have g93:H3.get H1.next=some (.cells [.int .i64 n.op,.int .i64 n.aF,dJ n.aj] 0 true):=by rw[o3 _ ac,aD,af ac];exact g9
 have gq3:H3.get q=some (.cells (l.map Nd.cells).flatten 0 true):=by rw[o3 _ ac,aD,af ac];exact gq2
 have C:AV.one O=true/\O.cells=[O]:=by obtain⟨r,rfl,_⟩:=s3;exact⟨rfl,rfl⟩
 obtain⟨C,hkv2⟩:=C;have e1:(H1.next == H2.next)=false:=aX ac;clear n3 o3 gq2;have gh0:=@zkx;repeat' (first
  |(apply aj ?_;clear hK K)|apply aO ?_|(apply ez ?_;first|refine Rx.k (oq (fun _=>rfl) _ _ aE _) ?_)|(apply ak fun K hK=>?_)|fail)
 generalize I:Hp.set H3 _ _=U;have n4:U.next=H3.next:=by rw[<-I];rfl
 have g94:U.get H1.next=some (.cells [.int .i64 n.op,.int .i64 n.aF,O] 0 true):=by rw[<-I,aA,ah rfl]
 have g:U.get q=some (.cells (l.map Nd.cells).flatten 0 true):=by rw[<-I,aA,af ac];exact gq3
 have s4:pF U O n.aj H2.next:=s3.keep ac fun k hk=>by rw[<-I,aA,af (by have:=(s3.b.lt hk).1;omega)]
 have n4':H1.next+1<=U.next:=ac
 have nq4:q<U.next:=ac
 have nq2:H1.next<H2.next:=ac
 clear I a3 s3 g93 gq3 g9 n2 n3' n4 e1;obtain⟨m,hm⟩:∃m,bO Y 10=m:=⟨_,rfl⟩;have hmr:=iW (n:=Y) (m:=10) ac ac;rw[hm]at hmr hmut;have Z:wB l n Y a=if m=0 then ⟨bO (bS (Y.tdiv 10)) 36-1,n.aF,n.aj⟩
  else if m=1 then ⟨n.op,bO (bS (Y.tdiv 10)) 300-3,n.aj⟩
  else if m=2 then ⟨n.op,n.aF,n.aj++[bO (bS (Y.tdiv 10)) (l.length+2)-1]⟩
  else if m=3 then (if n.aj=[]then n else ⟨n.op,n.aF,n.aj.set (bO (bS (Y.tdiv 10)) n.aj.length).toNat (bO (bS (a.tdiv 3)) (l.length+2)-1)⟩)
  else if m=4 then ⟨n.op,n.aF,n.aj.drop 1⟩
  else if m=6 then ⟨3,bO (bS (Y.tdiv 10)) 40,[]⟩
  else n:=by rw[wB,hm]
 generalize wB l n Y a=w at *;have q10:(10:Int)≠0:=aE;have q3:(3:Int)≠0:=aE;have hml:∀S,fR (fun j=>j≠q) 2 S 3 (l.map Nd.cells) (l.map Nd.cells):=fun S=>LN l;have hlm:(l.map Nd.cells).length=l.length:=cN _;refine Bv (fun E' H'=>∃q' rows row,MutF ((if m=5 then l++[n]else l).map Nd.cells) w.cells k E' H' q' rows row) ?_ ?_
 .have hS:∀(L:AV) (kids:qu) (o i:Int) (H:Hp),eL H L kids H2.next->cn (fun j=>j≠q) 2 H [.int .i64 o,.int .i64 i,L] (Nd.mk o i kids).cells:=fun L kids o i H h=>zfD o i h fun k hk=>by omega
  have ho3:∀(o i:Int) (L:AV),AV.one L=true->([.int .i64 o,.int .i64 i,L]:qt).all AV.one=true:=fun o i L h=>by
   show(true&&(true&&(AV.one L&&true)))=true;rw[h];rfl
  have J:∀(E:ax) (o i:Int) (L:AV) (kids:qu) (Hx:Hp),E.at 7=.sl q 0 l.length 3->E.at 8=.int .i64 k->E.at 9=.ptr H1.next 0->Hx.get H1.next=some (.cells [.int .i64 o,.int .i64 i,L] 0 true)->Hx.get q=some (.cells (l.map Nd.cells).flatten 0 true)->AV.one L=true->cn (fun j=>j≠q) 2 Hx [.int .i64 o,.int .i64 i,L] (Nd.mk o i kids).cells->q<Hx.next->m≠5->w=⟨o,i,kids⟩->∃q' rows row,MutF ((if m=5 then l++[n]else l).map Nd.cells) w.cells k E Hx q' rows row:=fun E o i L kids Hx h7 h8 h9 hg hq h1 hc hlt h5 hw=>by
   subst hw;exact⟨q,l.map Nd.cells,[.int .i64 o,.int .i64 i,L],⟨by rw[hlm];exact h7,h8,⟨H1.next,h9,hg,ac⟩,hq,Cw l,rfl,ho3 _ _ _ h1,by rw[af h5];exact hml _,hc,hlt⟩⟩
  by_cases c0:m=0
  .have hr0:=iW (n:=bS (Y.tdiv 10)) (m:=36) ac ac;obtain⟨p,hp⟩:∃p,bO (bS (Y.tdiv 10)) 36=p:=⟨_,rfl⟩;have hp':bO (IntKind.wrap .i64 (Y.tdiv 10)) 36=p:=hp;rw[ah c0,hp]at Z;rw[hp]at hr0;have ew:IntKind.wrap .i64 (p-1)=p-1:=eX ac ac;clear hp;repeat' (first
    |(apply aj ?_;clear hK K)|apply aQ ?_|(apply ch ?_;first|refine Rx.k (oq (fun _=>rfl) _ _ aE _) ?_)|(apply aV ?_ ?_<;>(intro hb hbp;try(cases hb;done)))|(apply ak fun K hK=>?_)|fail)
   exact⟨rfl,J _ (p-1) n.aF O n.aj _ eE eE eE gC G7 C (hS _ _ _ _ _ (.inr (s4.b.keep (aH _) fun k hk=>VC))) nq4 ac Z⟩
  rw[af c0]at Z;by_cases c1:m=1
  .have hr0:=iW (n:=bS (Y.tdiv 10)) (m:=300) ac ac;obtain⟨p,hp⟩:∃p,bO (bS (Y.tdiv 10)) 300=p:=⟨_,rfl⟩;have hp':bO (IntKind.wrap .i64 (Y.tdiv 10)) 300=p:=hp;rw[ah c1,hp]at Z;rw[hp]at hr0;have ew:IntKind.wrap .i64 (p-3)=p-3:=eX ac ac;clear hp;repeat' (first
    |(apply aj ?_;clear hK K)|apply aQ ?_|(apply ch ?_;first|refine Rx.k (oq (fun _=>rfl) _ _ aE _) ?_)|(apply aV ?_ ?_<;>(intro hb hbp;try(cases hb;done)))|(apply ak fun K hK=>?_)|fail)
   exact⟨rfl,J _ n.op (p-3) O n.aj _ eE eE eE gC G7 C (hS _ _ _ _ _ (.inr (s4.b.keep (aH _) fun k hk=>VC))) nq4 ac Z⟩
  rw[af c1]at Z;have hl2:(l.length:Int)+2≠0:=ac;have ew2:IntKind.wrap .i64 ((l.length:Int)+2)=(l.length:Int)+2:=eX ac ac;by_cases c2:m=2
  .have hr0:=iW (n:=bS (Y.tdiv 10)) (m:=(l.length:Int)+2) ac ac;obtain⟨p,hp⟩:∃p,bO (bS (Y.tdiv 10)) ((l.length:Int)+2)=p:=⟨_,rfl⟩;have hp':bO (IntKind.wrap .i64 (Y.tdiv 10)) ((l.length:Int)+2)=p:=hp;rw[ah c2,hp]at Z;rw[hp]at hr0;have ew:IntKind.wrap .i64 (p-1)=p-1:=eX ac ac;clear hp;have hvb:eL (U.alloc (.cells [.int .i64 (p-1)] 0 true)) O n.aj H2.next:=.inr (s4.b.keep (dA _) fun k hk=>by rw[aD,af (by have:=(s4.b.lt hk).2;omega)])
   have hH24:H2.next<=U.next:=by obtain⟨r,_,_,h1,h2⟩:=s4;omega
   obtain⟨v5,H5,a5,s5,n5,f5,o5⟩:=xC (r:=U.next) (imm:=0) (p-1) hvb dG fG ac;have n5':U.next+1<=H5.next:=vL
   have g95:H5.get H1.next=some (.cells [.int .i64 n.op,.int .i64 n.aF,O] 0 true):=by rw[f5 _ ac,aD,af ac];exact g94
   have gq5:H5.get q=some (.cells (l.map Nd.cells).flatten 0 true):=by rw[f5 _ ac,aD,af ac];exact g
   have h1v5:AV.one v5=true/\v5.cells=[v5]:=by obtain⟨r,imm,rfl,_⟩:=s5;exact⟨rfl,rfl⟩
   obtain⟨hv51,hv52⟩:=h1v5;have e1:(H1.next == U.next)=false:=aX ac;clear n5 f5 o5 hvb;repeat' (first
    |(apply aj ?_;clear hK K)|apply aQ ?_|(apply ch ?_;first|refine Rx.k (oq (fun _=>rfl) _ _ hl2 _) ?_)|(apply aV ?_ ?_<;>(intro hb hbp;try(cases hb;done)))|(apply ak fun K hK=>?_)|(apply da 13 [(1,7),(1,10),(5,7),(9,10)] fun K hK=>?_)|(apply ce ?_;try intro _)|(apply di ?_ ?_<;>clear hK K)|fail)
   .exact bN
   .exact⟨rfl,J _ n.op n.aF v5 (n.aj++[p-1]) _ eE eE eE gC (by rw[aA,af ac];exact gq5) hv51 (hS _ _ _ _ _ (.inr (s5.keep (aH _) fun k hk=>by rw[aA,af (by have:=(s5.lt hk).1;omega)]))) eg ac Z⟩
  rw[af c2]at Z;have hd0:∀(Hx:Hp),pF Hx O n.aj H2.next->cn (fun j=>j≠q) 2 Hx [.int .i64 n.op,.int .i64 n.aF,O] (Nd.mk n.op n.aF n.aj).cells:=fun Hx h=>hS _ _ _ _ _ (.inr h.b)
  by_cases c3:m=3
  .rw[ah c3]at Z;by_cases hke:n.aj=[]
   .rw[ah hke]at Z;obtain⟨r,V,gr,lr,rl⟩:=s4;have hlen0:n.aj.length=0:=by rw[hke];rfl
    have hz:=hd0 U ⟨r,V,gr,lr,rl⟩;rw[hlen0]at V;have hlk:ij prog U 26 O=some (.int .i64 0):=LC;clear V;refine wF (fun hb hbp=>?_);exact⟨rfl,J _ n.op n.aF O n.aj _ eE eE eE g94 g C hz nq4 ac Z⟩
   .rw[af hke]at Z;have hlp2:0<n.aj.length:=tq.2 hke;have hkne:(n.aj.length:Int)≠0:=ac;have hr1:=iW (n:=bS (Y.tdiv 10)) (m:=n.aj.length) ac ac;obtain⟨p1,hp1⟩:=gO hr1.1;have hp1':bO (IntKind.wrap .i64 (Y.tdiv 10)) n.aj.length=p1:=hp1;have hr2:=iW (n:=bS (a.tdiv 3)) (m:=(l.length:Int)+2) ac ac;obtain⟨p2,hp2⟩:∃p,bO (bS (a.tdiv 3)) ((l.length:Int)+2)=p:=⟨_,rfl⟩;have hp2':bO (IntKind.wrap .i64 (a.tdiv 3)) ((l.length:Int)+2)=p2:=hp2;rw[hp1,hp2,fK]at Z;rw[hp1]at hr1;rw[hp2]at hr2;have ew:IntKind.wrap .i64 (p2-1)=p2-1:=eX ac ac;have hp1l:p1<n.aj.length:=ac;clear hp1 hp2;obtain⟨r,V,gr,lr,rl⟩:=s4;have hlk:∀H:Hp,ij prog H 26 O=some (.int .i64 n.aj.length):=fun H=>LC;have hix:ej prog 26 O (.int .i64 (p1:Int))=some (.ptr r p1):=by rw[V,pp underlying26 jg hp1l];simp
    have hgt:(0:Int)<n.aj.length:=ac;have er:(H1.next == r)=false:=aX ac;repeat' (first
     |(apply aj ?_;clear hK K)|apply aQ ?_|(apply ch ?_;first|refine Rx.k (oq (fun _=>rfl) _ _ hkne _) ?_|refine Rx.k (oq (fun _=>rfl) _ _ hl2 _) ?_)|(apply aV ?_ ?_<;>(intro hb hbp;try(cases hb;done)))|(apply ak fun K hK=>?_)|(apply da 16 [(1,7),(1,13),(1,16),(5,7),(6,7),(11,7),(11,13)] fun K hK=>?_)|(apply ce ?_;try intro _)|fail)
    refine rA cV cV (y5 gr (by rw[cN];exact hp1l) _) ?_;repeat' (first
     |(apply ce ?_;try intro _)|(apply di ?_ ?_<;>clear hK K)|fail)
    .exact bN
    .refine⟨rfl,J _ n.op n.aF O (n.aj.set p1 (p2-1)) _ eE eE eE (by rw[aA,af ac];exact g94) G7 C (hS _ _ _ _ _ (.inr ⟨r,0,by rw[jv];exact V,by rw[aA,ah rfl,tt],de _,lr,rl⟩)) nq4 ac Z⟩
  rw[af c3]at Z;by_cases c4:m=4
  .rw[ah c4]at Z;obtain⟨r,V,gr,lr,rl⟩:=s4;have hz:=hd0 U ⟨r,V,gr,lr,rl⟩;have hlk:∀H:Hp,ij prog H 26 O=some (.int .i64 n.aj.length):=fun H=>LC;by_cases hke:n.aj.length=0
   .have hgt:¬(0:Int)<n.aj.length:=by omega
    have hke2:n.aj.drop 1=n.aj:=by rw[AC hke];rfl
    rw[hke2]at Z;clear hke;refine wF (fun hb hbp=>?_);exact⟨rfl,J _ n.op n.aF O n.aj _ eE eE eE g94 g C hz nq4 ac Z⟩
   .have hgt:(0:Int)<n.aj.length:=by omega
    obtain⟨kv5,hsl,h51,h52,hc5⟩:=zkA (S:=fun j=>j≠q) (r:=r) (H:=U) (kids:=n.aj) ac gr rl ac;have hslH:∀H:Hp,ph prog H 26 O (some (.int .i64 1)) none=some kv5:=fun H=>by rw[V];exact hsl
    clear hsl V;refine wF (fun hb hbp=>?_);exact⟨rfl,J _ n.op n.aF kv5 (n.aj.drop 1) _ eE eE eE gC G7 h51 (.cons (.int _ _) (.cons (.int _ _) (.cons (hc5 _ eg jU) .nil))) nq4 ac Z⟩
  rw[af c4]at Z;by_cases c5:m=5
  .rw[af ac]at Z;have hcw:∀Hx:Hp,U.next<=Hx.next->(∀k,H2.next<=k->k<U.next->Hx.get k=U.get k)->cn (fun j=>j≠q) 2 Hx [.int .i64 n.op,.int .i64 n.aF,O] n.cells:=fun Hx h1 h2=>hS O n.aj n.op n.aF Hx (.inr (s4.b.keep h1 fun k hk=>h2 k (s4.b.lt hk).1 (s4.b.lt hk).2))
   have z:=ho3 n.op n.aF O C;have kbs:=fun H=>Re H (cs:=[.int .i64 n.op,.int .i64 n.aF,O]) rfl z;have hH24:H2.next<=U.next:=by obtain⟨r,_,_,h1,h2⟩:=s4;omega
   have a5:=zkz (P:=prog) (t:=42) (H:=U.alloc (.cells [.int .i64 n.op,.int .i64 n.aF,O] 0 true)) (q:=q) (r:=U.next) (imm:=0) (rows:=l.map Nd.cells) (row:=[.int .i64 n.op,.int .i64 n.aF,O]) underlying42 uq D2 D3 rfl aB (by rw[aD,af ac];exact g) (Cw l) fG rfl z G6 G6;rw[hlm]at a5;generalize hHc:Hp.alloc (Hp.aR (U.alloc _) _) _=H5 at a5;have n5:U.next+2<=H5.next:=by rw[<-hHc];exact aH _
   have g5:H5.get (U.next+1)=some (.cells ((l.map Nd.cells).flatten++[.int .i64 n.op,.int .i64 n.aF,O]) 0 true):=by rw[<-hHc,aD,ah (by simp only[tc,aZ])]
   have o5:∀j,j<U.next->j≠q->H5.get j=U.get j:=fun j hj hjq=>by rw[<-hHc,aD,af zG,gN,af hjq,aD,af ac]
   clear hHc;have g95:H5.get H1.next=some (.cells [.int .i64 n.op,.int .i64 n.aF,O] 0 true):=by rw[o5 _ ac ac];exact g94
   rw[aZ]at a5;obtain⟨rk,V,grk,lrk,rrk⟩:=s4;have hrd5:dy (fun j=>j≠U.next+1) 2 H5 O (dJ n.aj):=by
    rw[V];exact Kr n.aj ac ac (by rw[o5 rk rrk ac];exact grk) (de _)
   have hcw5:cn (fun j=>j≠U.next+1) 2 H5 [.int .i64 n.op,.int .i64 n.aF,O] n.cells:=.cons (.int _ _) (.cons (.int _ _) (.cons hrd5 .nil));have hrl5:(l.map Nd.cells++[[.int .i64 n.op,.int .i64 n.aF,O]]).length=l.length+1:=au;clear V grk hrd5 o5;refine wF (fun hb hbp=>?_);refine⟨rfl,U.next+1,l.map Nd.cells++[[.int .i64 n.op,.int .i64 n.aF,O]],[.int .i64 n.op,.int .i64 n.aF,O],⟨?_,eE,⟨H1.next,eE,g95,ac⟩,by rw[g5];simp,?_,rfl,z,?_,by rw[Z];exact hcw5,ac⟩⟩
   .rw[hrl5];exact eE
   .intro x hx;rcases nR.1 hx with h|h
    .exact Cw l x h
    .rw[BG]at h;subst h;rfl
   .rw[ah c5,tg];exact cE.append (LN l) ⟨⟨rfl,hcw5⟩,trivial⟩
  by_cases c6:m=6
  .rw[ah c6]at Z;obtain⟨p,hp⟩:∃p,bO (bS (Y.tdiv 10)) 40=p:=⟨_,rfl⟩;have hp':bO (IntKind.wrap .i64 (Y.tdiv 10)) 40=p:=hp;rw[hp]at Z;clear hp;repeat' (first
    |(apply aj ?_;clear hK K)|apply aQ ?_|(apply ch ?_;first|refine Rx.k (oq (fun _=>rfl) _ _ aE _) ?_)|(apply aV ?_ ?_<;>(intro hb hbp;try(cases hb;done)))|(apply ak fun K hK=>?_)|fail)
   exact⟨rfl,J _ 3 p .ak [] _ eE eE eE gC (by rw[aA,af ac,aA,af ac,aA,af ac];exact g) rfl (zfC 3 p) nq4 ac Z⟩
  rw[af c6]at Z;refine wF (fun hb hbp=>?_);exact⟨rfl,J _ n.op n.aF O n.aj _ eE eE eE g94 g C (hd0 U s4) nq4 ac Z⟩
 .rintro E5 H5 ⟨q',rows,row,hF⟩;obtain⟨k7,k8,⟨r,k9,gr,hrq⟩,gq',hr3,hw3,z,hrw,hcw,hlt⟩:=hF;have hrl:rows.length=((if m=5 then l++[n]else l).map Nd.cells).length:=cE.len hrw;have hkr:k<rows.length:=by
   rw[hrl,cN];split
   .rw[fB];omega
   .exact hkl
  have hst:=zkv (P:=prog) (t:=58) uq gq' hr3 hkr hw3 z;dsimp only[mX,ul];obtain⟨x0,x1,x2,rfl⟩:=Rd hw3;have hix:ej prog 42 (.sl q' 0 rows.length 3) (.int .i64 (k:Int))=some (.ptr q' (k*3)):=by
   rw[pp underlying42 uq hkr,bK]
  clear hrl;refine pZ ?_;all_goals refine qq ?_
  have hsl:(rows.set k [x0,x1,x2]).length=rows.length:=jv;have hrd:dy (fun _=>True) 3 (H5.set q' (.cells (rows.set k [x0,x1,x2]).flatten 0 true)) (.sl q' 0 (rows.set k [x0,x1,x2]).length 3) (.aE (((if m=5 then l++[n]else l).map Nd.cells).set k w.cells)):=by
   refine ou (imm:=0) (tip:=true) trivial hlt gC (de _) ?_;have hk2:∀j,j≠q'->(H5.set q' (.cells (rows.set k [x0,x1,x2]).flatten 0 true)).get j=H5.get j:=fun j hj=>by rw[aA,af hj]
   exact cE.set (fR.a0 (H':=H5.set q' (.cells (rows.set k [x0,x1,x2]).flatten 0 true)) hrw (fun _ _ _=>trivial) (aH _) fun j hj _=>hk2 j hj) ⟨rfl,cn.a0 (H':=H5.set q' (.cells (rows.set k [x0,x1,x2]).flatten 0 true)) hcw (fun _ _ _=>trivial) (aH _) fun j hj _=>hk2 j hj⟩
  obtain⟨u,h1,h2⟩:=hrd;obtain⟨m0,hm0⟩:=dc.iceV h1;rw[hsl]at hm0;refine⟨m0,u,hm0 m0 (aH _),?_⟩;rw[h2 60 ac,hmut,dR,tt])
end
variable{l:qy}
section
noncomputable def LQ:En:=⟨37,true,bQ LO wC fun x=>dR (j8 x.l x.how x.a)⟩
def zkD:co prog ρ LQ:=cz fun x z=>zkC ρ x z
def tyVdD.tyF:=ad @ec (ad @cA (ad @tj (ad @dw (ad @gQ (ad @eZ (ad @rB (ad @rC (ad @fX (ad @tk (ad @jB (ad @lJ (ad @xl (ad @NV (ad @oH (@th)))))))))))))))
open tyVdD
noncomputable def tW:{c:SC // aC 179 (f41.body.getD .skip)=c}:=by
 refine⟨?_,?_⟩;rotate_left
 .simp only[f41,bz,aC,bw,bt,bA,bB,Nat.blt,Nat.ble];rfl
theorem VV(h:i<l.length):((iF l l.length).map fun b=>[AV.aE (b.map fun x=>[AV.bool x])])[i]?=some [.aE (((iF l l.length).getD i []).map fun x=>[AV.bool x])]:=by
 have J:i<(iF l l.length).length:=by rw[vQ];exact h
 rw[eu,cQ,aL J];rfl
def VW(h:i<l.length):((iF l l.length).getD i []).length=16:=by
 have:∀n,i<n->n<=l.length->((iF l n).getD i []).length=16:=by
  intro n;induction n with
  |zero=>intro h;omega
  |succ n ih=>
   intro Z g;rw[iF];by_cases e:i<n
   .rw[EY (by rw[vQ];exact e)];exact ih e ac
   .rw[EZ (by rw[vQ];omega)];simp
 exact this _ h (aH _)
theorem VX{b:qL}(h:j<b.length):(b.map fun x=>[AV.bool x])[j]?=some [.bool (b.getD j false)]:=by
 rw[eu,cQ,aL h];rfl
set_option maxRecDepth 100000 in
def zkE(x:VgX)(hx:LK x):bF prog ρ 41 (sP x) (.bool (oz x.u x.g)):=dE fit (pls:=pls) (zkh ρ) (.cons (.agg (xu _)) (.cons (.agg (Gr.pure _)) .nil)) (.bool _) (by
 obtain⟨u,g⟩:=x;obtain⟨⟨V,hua,huf⟩,hnm,hndr⟩:=hx;have hw:zd0 (ay pls wA) 41:=db (fun _=>rfl) rfl;rw[sP];simp only[]at V hua huf hnm hndr⊢;have hnl:=V.1;have q16:(16:Int)≠0:=aE;have kv:∀H,aM prog (ay pls wA) 40 [.aq g.name] H fun v H'=>v=.bool (ci g.name)/\H'=H:=fun H=>bZ (enc:=nn) (out:=fun x=>.bool (ci x)) ux (x:=g.name) rfl hnm;have ks:∀H,aM prog (ay pls wA) 81 [dR g.ag] H fun v H'=>v=dJ (cm g.ag g.ag.length)/\H'=H:=fun H=>VG (fun _=>rfl) _ V H;obtain⟨R,I⟩:∃R,oz u g=R:=⟨_,rfl⟩;have hF:¬(ci g.name=true/\gh u g=true)->R=false:=fun h=>by rw[<-I];exact zkm h
 have hT:ci g.name=true->gh u g=true->R=true:=fun h1 Y=>by rw[<-I,oz,h1,Y];rfl
 rw[I];clear I;by_cases c0':ci g.name=false
 .have I:=hF (fun h=>by rw[c0']at h;exact absurd h.1 aE);refine a0 (M:=179) (rs:=[.tmp 4]) (hw.call _) hw.aG hw.az func41 rfl rfl tW.2 rfl ?_;dsimp only[tW,aW,Nat.reduceAdd];repeat' (first
   |(apply aj ?_;clear hK K)|apply aQ ?_|(apply ch ?_;first|refine Rx.k (kv _) ?_)|(apply bT ?_ ?_<;>(intro hg hgp;try(cases hg;done)))|(apply aV ?_ ?_<;>(intro hb hbp;try(cases hb;done)))|(apply ak fun K hK=>?_)|fail)
  all_goals refine qq ?_
  rw[I]
 have c0:ci g.name=true:=by simpa using c0'
 clear c0';by_cases c1:g.params<0
 .have I:=hF (fun h=>by have:=(LL h.2).1.1;omega);refine a0 (M:=179) (rs:=[.tmp 4]) (hw.call _) hw.aG hw.az func41 rfl rfl tW.2 rfl ?_;dsimp only[tW,aW,Nat.reduceAdd];repeat' (first
   |(apply aj ?_;clear hK K)|apply aQ ?_|(apply ch ?_;first|refine Rx.k (kv _) ?_)|(apply bT ?_ ?_<;>(intro hg hgp;try(cases hg;done)))|(apply aV ?_ ?_<;>(intro hb hbp;try(cases hb;done)))|(apply ak fun K hK=>?_)|fail)
  all_goals refine qq ?_
  rw[I]
 by_cases c2:6<g.params
 .have I:=hF (fun h=>by have:=(LL h.2).1.2;omega);refine a0 (M:=179) (rs:=[.tmp 4]) (hw.call _) hw.aG hw.az func41 rfl rfl tW.2 rfl ?_;dsimp only[tW,aW,Nat.reduceAdd];repeat' (first
   |(apply aj ?_;clear hK K)|apply aQ ?_|(apply ch ?_;first|refine Rx.k (kv _) ?_)|(apply bT ?_ ?_<;>(intro hg hgp;try(cases hg;done)))|(apply aV ?_ ?_<;>(intro hb hbp;try(cases hb;done)))|(apply ak fun K hK=>?_)|fail)
  all_goals refine qq ?_
  rw[I]
 by_cases c3:(2000:Int)<g.ag.length
 .have I:=hF (fun h=>by have:=(LL h.2).2;omega);refine a0 (M:=179) (rs:=[.tmp 4]) (hw.call _) hw.aG hw.az func41 rfl rfl tW.2 rfl ?_;dsimp only[tW,aW,Nat.reduceAdd];repeat' (first
   |(apply aj ?_;clear hK K)|apply aQ ?_|(apply ch ?_;first|refine Rx.k (kv _) ?_)|(apply bT ?_ ?_<;>(intro hg hgp;try(cases hg;done)))|(apply aV ?_ ?_<;>(intro hb hbp;try(cases hb;done)))|(apply ak fun K hK=>?_)|fail)
  all_goals refine qq ?_
  rw[I]
 have hsl:=sw g.ag g.ag.length;refine a0 (M:=179) (rs:=[.tmp 4]) (hw.call _) hw.aG hw.az func41 rfl rfl tW.2 rfl ?_;dsimp only[tW,aW,Nat.reduceAdd];repeat' (first
  |(apply aj ?_;clear hK K)|apply aQ ?_|(apply ch ?_;first|refine Rx.k (kv _) ?_|refine Rx.k (ks _) ?_)|(apply bT ?_ ?_<;>(intro hg hgp;try(cases hg;done)))|(apply aV ?_ ?_<;>(intro hb hbp;try(cases hb;done)))|(apply ak fun K hK=>?_)|fail)
 refine bY [2,3,5] [0,1] 6 g.ag.length (fun i E H=>∀j,j<i->cR g.ag j≠0) eE (fun j hj=>ac) ?_;rintro i E Hi hi hcE hrH z hsI hJ;(try simp only[bq,aT,aN,aG,aR,Nat.reduceBEq, *]at hcE);(try simp only[bq,aT,aN,aG,aR,Nat.reduceBEq, *]at hrH);(try simp only[aZ,bX,bK,Nat.reduceAdd]at z);have hB0:(0 == Hi.next)=false:=aX ac;have hC0:(Hi.next == 0)=false:=aX ac;have hB1:(1 == Hi.next)=false:=aX ac;have hC1:(Hi.next == 1)=false:=aX ac;have ni:2<=Hi.next:=z
 by_cases hlt:i<g.ag.length
 .have O:(i:Int)<g.ag.length:=by omega
  have hsg:=GC hlt;by_cases hs0:cR g.ag i=0
  .have I:=hF (fun h=>(LM h.2 (aL hlt)).1 hs0);rw[hs0]at hsg;refine fy (fun hb hbp=>?_);all_goals refine qq ?_
   rw[I]
  .refine fy (fun hb hbp=>?_);refine⟨ac,aK,aK,bG,tO,?_⟩;intro j hj;by_cases e:j=i
   .rw[e];exact hs0
   .exact hJ j ac
 have O:¬(i:Int)<g.ag.length:=ac;have hsort:∀(j:Nat) (n:Nd),g.ag[j]?=some n->cR g.ag j≠0:=fun j n h=>by
  have hj:j<g.ag.length:=by
   by_cases c:j<g.ag.length
   .exact c
   .rw[gV ac]at h;cases h
  exact hJ j ac
 obtain⟨hnok,hlok⟩:=zkn hsort;clear hJ;have hmk:∀H:Hp,j9 prog H 149 (.int .i64 16) (.int .i64 16)=some (.sl H.next 0 16 1,H.alloc (.cells ((pY (List.replicate 16 0)).map .bool) 0 true)):=fun H=>by rw[<-zkk,<-Vs];exact Jv 16 ac
 have hks:∀(a b:Nd) (H:Hp),a.aj.length<2^60->aM prog (ay pls wA) 53 [.agg a.cells,.agg b.cells] H fun v H'=>v=.bool (decide (a=b))/\H'=H:=fun a b H h=>zht (fun _=>rfl) a b h H;have hlv:∀(m:Int) (H:Hp),aM prog (ay pls wA) 82 [dR g.ag,.int .i64 m] H fun v H'=>v=.int .i64 (kL g.ag m)/\H'=H:=fun m H=>bZ (enc:=sF) (ok:=fun x=>gZ x.1) (out:=fun x=>.int .i64 (kL x.1 x.2)) Pv (x:=(g.ag,m)) rfl V;have hro:∀(m:Int) (H:Hp),aM prog (ay pls wA) 83 [dR g.ag,.int .i64 m] H fun v H'=>v=.int .i64 (cR g.ag m)/\H'=H:=fun m H=>zkd (fun _=>rfl) _ _ V H;have hlk:∀n∈g.ag,n.op=31->zd6 n:=fun n hn=>(hlok n hn).1;refine fy (fun hb hbp=>?_);refine bY [2,3,5,7] [0,1] 8 g.ag.length (fun i E H=>∃t:qu,t.length=16/\H.get Hi.next=some (.cells ((pY t).map .bool) 0 true)/\jh g.ag (List.replicate 16 0)=jh (g.ag.drop i) t/\∀(j:Nat) (n:Nd),j<i->g.ag[j]?=some n->iu u g n=true/\pW g.ag n=false/\∀(k:Nat) (m:Nd),k<j->g.ag[k]?=some m->m≠n) eE ⟨List.replicate 16 0,au,FF,rfl,fun j n h=>ac⟩ ?_;clear O hlt;rintro C E2 H2 hi2 hcE hrH z hsI ⟨t,ht,hg,hJ1,hJ2⟩;(try simp only[bq,aT,aN,aG,aR,Nat.reduceBEq, *]at hcE);(try simp only[bq,aT,aN,aG,aR, *]at hrH);(try simp only[aZ,]at z);have hB0:(0 == H2.next)=false:=aX ac;have hC0:(H2.next == 0)=false:=aX ac;have hB1:(1 == H2.next)=false:=aX ac;have hC1:(H2.next == 1)=false:=aX ac;have n2:Hi.next+1<=H2.next:=z
 by_cases hlt:C<g.ag.length
 .have O:(C:Int)<g.ag.length:=by omega
  have hgx:g.ag[C]?=some g.ag[C]:=aL hlt;have hmem:=cB hlt;have hnk:=V.2 _ hmem;obtain⟨k31,k3,k30⟩:=hlok _ hmem;have hdr:jh (g.ag.drop C) t=if g.ag[C].op=31 then (if 0<t.getD g.ag[C].aF.toNat 0 then none else jh (g.ag.drop (C+1)) (t.set g.ag[C].aF.toNat (ee g.ag[C].aj.length)))else jh (g.ag.drop (C+1)) t:=by rw[ft hlt,jh]
  generalize g.ag[C]=n at *;refine fy (fun hb hbp=>?_);generalize hHb:Hp.set (Hp.alloc _ _) _ _=Hb;have nb:H2.next+1<=Hb.next:=EL
  have gb:Hb.get Hi.next=some (.cells ((pY t).map .bool) 0 true):=by rw[<-hHb,aA,af ac,aD,af ac];exact hg
  have g5:Hb.get H2.next=some (.cells n.cells 0 true):=Bn
  have g0:Hb.get 0=H2.get 0:=Fh;have g1:Hb.get 1=H2.get 1:=Fh;clear hHb hg;refine bY [2,3,5,7,8,9] [0,1] 10 C (fun k E H=>H.get Hi.next=some (.cells ((pY t).map .bool) 0 true)/\H.get H2.next=some (.cells n.cells 0 true)/\∀(k':Nat) (m:Nd),k'<k->g.ag[k']?=some m->m≠n) eE ⟨gb,g5,fun k' m h=>ac⟩ ?_;clear gb g5;rintro k E3 H3 hk hcE hrH z hsI ⟨gb,g5,hne⟩;(try simp only[bq,aT,aN,aG,aR,Nat.reduceBEq, *]at hcE);(try simp only[bq,aT,aN, *]at hrH);(try simp only[aZ,br,bX,bK,Nat.reduceAdd]at z);have hB0:(0 == H3.next)=false:=aX ac;have hC0:(H3.next == 0)=false:=aX ac;have hB1:(1 == H3.next)=false:=aX ac;have hC1:(H3.next == 1)=false:=aX ac;have n3:H2.next+1<=H3.next:=ac
  by_cases hkt:k<C
  .have hkt':(k:Int)<C:=by omega
   have hgk:g.ag[k]?=some g.ag[k]:=aL ac;have hmk':=V.2 _ (cB (show k<g.ag.length by omega));have hmn:=fun h:g.ag[k]=n=>hF (fun hv=>zkp (zjB (VK (fun _ _ h=>(LM hv.2 h).1) hndr V) (zU hv.2).1) hkt (by rw[hgk,h]) hgx rfl);generalize g.ag[k]=m at *;by_cases he:m=n
   .have I:=hmn he;have hd:decide (m=n)=true:=dx he;clear hmn he;repeat' (first
     |(apply aj ?_;clear hK K)|apply aO ?_|(apply ez ?_;first|refine Rx.k (hks _ _ _ ac) ?_)|(apply bp ?_ ?_<;>(intro hb hbp;try(cases hb;done)))|(apply ak fun K hK=>?_)|(apply da 17 [(1,6),(4,6),(5,6)] fun K hK=>?_)|(apply ce ?_;try intro _)|(apply di ?_ ?_<;>clear hK K)|fail)
    all_goals first|exact bN|skip
    all_goals refine qq ?_
    rw[I]
   .have hd:decide (m=n)=false:=eA he;clear hmn;repeat' (first
     |(apply aj ?_;clear hK K)|apply aO ?_|(apply ez ?_;first|refine Rx.k (hks _ _ _ ac) ?_)|(apply bp ?_ ?_<;>(intro hb hbp;try(cases hb;done)))|(apply ak fun K hK=>?_)|(apply da 17 [(1,6),(4,6),(5,6)] fun K hK=>?_)|(apply ce ?_;try intro _)|(apply di ?_ ?_<;>clear hK K)|fail)
    all_goals first|exact bN|skip
    refine⟨ac,aK,aK,bG,VD,?_⟩;refine⟨gb,g5,fun k' m' h1 Y=>?_⟩;by_cases e:k'=k
    .rw[e,hgk,aI]at Y;rw[<-Y];exact he
    .exact hne k' m' ac Y
  clear g0 g1;have hkt':¬(k:Int)<C:=ac;have hall:∀(k':Nat) (m:Nd),k'<C->g.ag[k']?=some m->m≠n:=fun k' m h1 Y=>hne k' m ac Y;have Z:iu u g n=true->pW g.ag n=false->∀(j:Nat) (x:Nd),j<C+1->g.ag[j]?=some x->iu u g x=true/\pW g.ag x=false/\∀(k:Nat) (m:Nd),k<j->g.ag[k]?=some m->m≠x:=fun h1 Y j x hj hx=>by
   by_cases e:j=C
   .subst e;rw[hgx,aI]at hx;subst hx;exact⟨h1,Y,hall⟩
   .exact hJ2 j x ac hx
  have J:iu u g n=false->R=false:=fun h=>hF fun hv=>by have:=(LM hv.2 hgx).2;rw[h]at this;cases this
  have hbad2:jW g.ag=false->R=false:=fun h=>hF fun hv=>by have:=(zU hv.2).2.1;rw[h]at this;cases this
  have U:n.op≠3->pW g.ag n=false:=fun h=>by unfold pW;rw[eA h,em,em]
  have L:n.op≠31->jh g.ag (List.replicate 16 0)=jh (g.ag.drop (C+1)) t:=fun h=>by rw[hJ1,hdr,af h]
  clear hall hne hJ2 hF hT;by_cases Y:n.op=2
  .have hr:iu u g n=decide (n.aF<g.params):=by rw[iu,ah Y]
   by_cases hp:g.params<=n.aF
   .have I:=J LD;refine fy (fun hb hbp=>?_);all_goals refine qq ?_
    rw[I]
   .refine fy (fun hb hbp=>?_);refine⟨ac,aK,aK,bG,tO,?_⟩;exact⟨t,ht,gb,L ac,Z LF (U ac)⟩
  by_cases h23:n.op=23
  .have hr:iu u g n=decide (n.aF<u.aa.length):=by rw[iu,af Y,ah (.inl h23)]
   by_cases hp:(u.aa.length:Int)<=n.aF
   .have I:=J LD;clear Y;refine fy (fun hb hbp=>?_);all_goals refine qq ?_
    rw[I]
   .clear Y;refine fy (fun hb hbp=>?_);refine⟨ac,aK,aK,bG,tO,?_⟩;exact⟨t,ht,gb,L ac,Z LF (U ac)⟩
  by_cases h28:n.op=28
  .have hr:iu u g n=decide (n.aF<u.aa.length):=by rw[iu,af Y,ah (.inr h28)]
   by_cases hp:(u.aa.length:Int)<=n.aF
   .have I:=J LD;clear Y h23;refine fy (fun hb hbp=>?_);all_goals refine qq ?_
    rw[I]
   .clear Y h23;refine fy (fun hb hbp=>?_);refine⟨ac,aK,aK,bG,tO,?_⟩;exact⟨t,ht,gb,L ac,Z LF (U ac)⟩
  by_cases h30:n.op=30
  .obtain⟨m,hm⟩:=gO (k30 h30);have e1:IntKind.wrap .i64 ((n.aj.length:Int)-1)=(n.aj.length:Int)-1:=eX ac ac;have hr:iu u g n=(decide ((m:Int)<u.funcs.length)&&decide ((n.aj.length:Int)-1=(u.funcs.map Gr.params).getD m 0)):=by
    rw[iu,af ac,af ac,ah h30,hm,fK]
   clear Y h23 h28;by_cases hp:(u.funcs.length:Int)<=m
   .have I:=J (by rw[hr,eA ac];rfl);repeat' (first
     |(apply aj ?_;clear hK K)|apply aQ ?_|(apply aV ?_ ?_<;>(intro hb hbp;try(cases hb;done)))|(apply ak fun K hK=>?_)|(apply da 28 [(1,20),(3,20),(4,20),(8,20),(9,20),(12,20),(14,20),(17,20)] fun K hK=>?_)|(apply ce ?_;try intro _)|(apply di ?_ ?_<;>clear hK K)|(apply rD ?_ ?_<;>(intro hg hgp;try(cases hg;done)))|fail)
    all_goals first|exact bN|skip
    all_goals refine qq ?_
    rw[I]
   .have hgf:u.funcs[m]?=some u.funcs[m]:=aL ac;have hgp2:(u.funcs.map Gr.params).getD m 0=u.funcs[m].params:=by rw[cQ,eu,hgf];rfl
    rw[hgp2]at hr;clear hgp2;generalize u.funcs[m]=q at *;by_cases hq:q.params=(n.aj.length:Int)-1
    .repeat' (first
      |(apply aj ?_;clear hK K)|apply aQ ?_|(apply aV ?_ ?_<;>(intro hb hbp;try(cases hb;done)))|(apply ak fun K hK=>?_)|(apply da 28 [(1,20),(3,20),(4,20),(8,20),(9,20),(12,20),(14,20),(17,20)] fun K hK=>?_)|(apply ce ?_;try intro _)|(apply di ?_ ?_<;>clear hK K)|(apply rD ?_ ?_<;>(intro hg hgp;try(cases hg;done)))|fail)
     all_goals first|exact bN|skip
     refine⟨ac,aK,aK,bG,tO,?_⟩;exact⟨t,ht,gb,L ac,Z (by rw[hr,dx ac,dx hq.symm];rfl) (U ac)⟩
    .have hq':¬(n.aj.length:Int)-1=q.params:=fun e=>hq e.symm;have I:=J (by rw[hr,eA hq',pC]);clear hq;repeat' (first
      |(apply aj ?_;clear hK K)|apply aQ ?_|(apply aV ?_ ?_<;>(intro hb hbp;try(cases hb;done)))|(apply ak fun K hK=>?_)|(apply da 28 [(1,20),(3,20),(4,20),(8,20),(9,20),(12,20),(14,20),(17,20)] fun K hK=>?_)|(apply ce ?_;try intro _)|(apply di ?_ ?_<;>clear hK K)|(apply rD ?_ ?_<;>(intro hg hgp;try(cases hg;done)))|fail)
     all_goals first|exact bN|skip
     all_goals refine qq ?_
     rw[I]
  have hrt:iu u g n=true:=by rw[iu,af Y,af ac,af h30]
  by_cases h31:n.op=31
  .have ho:=k31 h31;obtain⟨m,hm⟩:=gO ho.i0;have hm16:m<16:=by have:=ho.i1;omega
   have hixq:=zt (q:=Hi.next) hm16;have hld:=Ku gb (m:=m) (by rw[pY,cN];omega);rw[zki ht hm16]at hld;rw[ah h31,hm,fK]at hdr;have hst:=FU gb (m:=m) (by rw[pY,cN];omega) true;clear Y h23 h28 h30;by_cases hp:0<t.getD m 0
   .have I:=hbad2 (zjA (by rw[hJ1,hdr,ah hp]));rw[dx hp]at hld;refine fy (fun hb hbp=>?_);all_goals refine qq ?_
    rw[I]
   .rw[eA hp]at hld;rw[af hp]at hdr;refine fy (fun hb hbp=>?_);refine⟨ac,aK,aK,bG,tO,?_⟩;exact⟨t.set m (ee n.aj.length),by rw[jv];exact ht,by rw[aA,ah rfl,zkj ho.lv.2],by rw[hJ1,hdr],Z hrt (U ac)⟩
  by_cases h3:n.op=3
  .obtain⟨m0,ct⟩:=k3 h3;have hd1:IntKind.wrap .i64 (n.aF.tdiv 16)=n.aF.tdiv 16:=by rw[l9 m0];exact eX ac ac
   have hd2:IntKind.wrap .i64 (n.aF.tmod 16)=n.aF.tmod 16:=by rw[GG m0];exact eX ac ac
   have hlr:pW g.ag n=(decide (0<kL g.ag (n.aF.tdiv 16))&&decide (kL g.ag (n.aF.tdiv 16)<=n.aF.tmod 16)):=by unfold pW;rw[dx h3,el]
   have hbl:pW g.ag n=true->R=false:=fun h=>hbad2 (zjy hlk hmem (fun _=>⟨m0,ct⟩) h);have hkl:=hlv (n.aF.tdiv 16);clear Y h23 h28 h30 h31;generalize kL g.ag (n.aF.tdiv 16)=v at *;by_cases hv0:0<v
   .by_cases hv1:v<=n.aF.tmod 16
    .have I:=hbl (by rw[hlr,dx hv0,dx hv1];rfl);repeat' (first
      |(apply aj ?_;clear hK K)|apply aQ ?_|(apply ch ?_;first|refine Rx.k (hkl _) ?_)|(apply bT ?_ ?_<;>(intro hg hgp;try(cases hg;done)))|(apply aV ?_ ?_<;>(intro hb hbp;try(cases hb;done)))|(apply ak fun K hK=>?_)|fail)
     all_goals refine qq ?_
     rw[I]
    .repeat' (first
      |(apply aj ?_;clear hK K)|apply aQ ?_|(apply ch ?_;first|refine Rx.k (hkl _) ?_)|(apply bT ?_ ?_<;>(intro hg hgp;try(cases hg;done)))|(apply aV ?_ ?_<;>(intro hb hbp;try(cases hb;done)))|(apply ak fun K hK=>?_)|fail)
     refine⟨ac,aK,aK,bG,tO,?_⟩;exact⟨t,ht,gb,L ac,Z hrt (by rw[hlr,eA hv1,pC])⟩
   .repeat' (first
     |(apply aj ?_;clear hK K)|apply aQ ?_|(apply ch ?_;first|refine Rx.k (hkl _) ?_)|(apply bT ?_ ?_<;>(intro hg hgp;try(cases hg;done)))|(apply aV ?_ ?_<;>(intro hb hbp;try(cases hb;done)))|(apply ak fun K hK=>?_)|fail)
    refine⟨ac,aK,aK,bG,tO,?_⟩;exact⟨t,ht,gb,L ac,Z hrt (by rw[hlr,eA hv0,em])⟩
  .refine fy (fun hb hbp=>?_);refine⟨ac,aK,aK,bG,tO,?_⟩;exact⟨t,ht,gb,L h31,Z hrt (U h3)⟩
 have O:¬(C:Int)<g.ag.length:=ac;have hie:C=g.ag.length:=ac;have hdist:g.ag.Nodup:=zko fun j n hn k m h1 Y=>(hJ2 j n (by
  by_cases c:j<g.ag.length
  .omega
  .rw[gV ac]at hn;cases hn) hn).2.2 k m h1 Y
 have hg1:∀(j:Nat) (n:Nd),g.ag[j]?=some n->iu u g n=true/\pW g.ag n=false:=fun j n hn=>by
  have hj:j<g.ag.length:=by
   by_cases c:j<g.ag.length
   .exact c
   .rw[gV ac]at hn;cases hn
  obtain⟨a,b,_⟩:=hJ2 j n ac hn;exact⟨a,b⟩
 have hdv:nD g.ag=true:=UD hdist (VK hsort hndr V);have hvl:jW g.ag=true:=by
  rw[hie,ny (aH _)]at hJ1;refine zjz hlk hJ1 fun n hn=>?_;obtain⟨j,hj,e⟩:=ta hn;have hgj:g.ag[j]?=some n:=Gz;exact⟨(hlok n hn).2.1,(hg1 j n hgj).2⟩
 have hvg:cR g.ag g.value=1->cR g.ag g.ab=2->eY g.ag g.value=0->eY g.ag g.ab=0->gh u g=true:=fun h6 h7 h8 h9=>zkl ac ac ac (fun j n hn=>⟨hsort j n hn,(hg1 j n hn).1⟩) hdv hvl h6 h7 h8 h9;clear hg1 hdist hdv hvl hJ1 hJ2 hie hg ht;by_cases v1:cR g.ag g.value=1
 .by_cases s2:cR g.ag g.ab=2
  .obtain⟨v0,vl⟩:=Cv (l:=g.ag) (i:=g.value) (by rw[v1];decide);obtain⟨s0,sl⟩:=Cv (l:=g.ag) (i:=g.ab) (by rw[s2];decide);obtain⟨a,ha⟩:=gO v0;obtain⟨b,hb0⟩:=gO s0;have hal:a<g.ag.length:=ac;have hbl:b<g.ag.length:=ac;have hld:xN g.ag:=⟨V,hnok⟩;have khd:∀H,aM prog (ay pls wA) 84 [dR g.ag] H fun v H'=>v=.aE ((iF g.ag g.ag.length).map fun b=>[AV.aE (b.map fun x=>[AV.bool x])])/\H'=H:=fun H=>bZ (enc:=og) (ok:=Lu) (out:=fun l=>GY (iF l l.length)) zi (x:=g.ag) rfl ⟨hld,ac⟩;have q1:=VV hal;have q2:=VV hbl;have l1:=VW hal;have l2:=VW hbl;have z1:eY g.ag (a:Int)=0↔∀t,t<16->((iF g.ag g.ag.length).getD a []).getD t false=false:=mask_zero hnok (fun j hj=>JZ hld (aH _) hj) hal;have z2:eY g.ag (b:Int)=0↔∀t,t<16->((iF g.ag g.ag.length).getD b []).getD t false=false:=mask_zero hnok (fun j hj=>JZ hld (aH _) hj) hbl;rw[ha,hb0]at hvg;rw[ha]at v1;rw[hb0]at s2;have hFm:¬(eY g.ag a=0/\eY g.ag b=0)->R=false:=fun h=>hF fun hv=>by
    have:=zU hv.2;rw[ha,hb0]at this;exact h ⟨this.2.2.2.2.1,this.2.2.2.2.2⟩
   rw[z1,z2]at hFm;have hTm:eY g.ag a=0->eY g.ag b=0->R=true:=fun h1 Y=>hT c0 (hvg v1 s2 h1 Y);rw[z1,z2]at hTm;clear z1 z2 hF hT hvg hnok hlok hlk v0 vl s0 sl hld;generalize (iF g.ag g.ag.length).getD a []=ra at *;generalize (iF g.ag g.ag.length).getD b []=rb at *;have kv1:=hro (a:Int);have ks2:=hro (b:Int);rw[v1]at kv1;rw[s2]at ks2;repeat' (first
    |(apply aj ?_;clear hK K)|apply aQ ?_|(apply ch ?_;first|refine Rx.k (kv1 _) ?_|refine Rx.k (ks2 _) ?_|refine Rx.k (khd _) ?_)|(apply bT ?_ ?_<;>(intro hg hgp;try(cases hg;done)))|(apply aV ?_ ?_<;>(intro hb hbp;try(cases hb;done)))|(apply ak fun K hK=>?_)|fail)
   all_goals first|exact bN|skip
   refine bY [3,12] [1] 13 16 (fun j E H=>∀t,t<j->ra.getD t false=false/\rb.getD t false=false) eE (fun t h=>ac) ?_;clear O;rintro j E4 H4 hj hcE hrH z hsI hJ;(try simp only[bq,aT,aN,aG,aR,Nat.reduceBEq, *]at hcE);(try simp only[bq,aT,aN, *]at hrH);(try simp only[aZ,br,bX,bK,Nat.reduceAdd]at z);have hB0:(1 == H4.next)=false:=aX ac;have hC0:(H4.next == 1)=false:=aX ac;by_cases hjt:j<16
   .have hjt':(j:Int)<16:=by omega
    have g1:=VX (b:=ra) (j:=j) ac;have g2:=VX (b:=rb) (j:=j) ac;by_cases x1:ra.getD j false=true
    .have I:=hFm (fun h=>by have:=h.1 j hjt;rw[x1]at this;cases this);rw[x1]at g1;repeat' (first
      |(apply aj ?_;clear hK K)|apply aQ ?_|(apply bT ?_ ?_<;>(intro hg hgp;try(cases hg;done)))|(apply aV ?_ ?_<;>(intro hb hbp;try(cases hb;done)))|(apply ak fun K hK=>?_)|fail)
     all_goals refine qq ?_
     rw[I]
    have x1':ra.getD j false=false:=by simpa using x1
    rw[x1']at g1;by_cases x2:rb.getD j false=true
    .have I:=hFm (fun h=>by have:=h.2 j hjt;rw[x2]at this;cases this);rw[x2]at g2;repeat' (first
      |(apply aj ?_;clear hK K)|apply aQ ?_|(apply bT ?_ ?_<;>(intro hg hgp;try(cases hg;done)))|(apply aV ?_ ?_<;>(intro hb hbp;try(cases hb;done)))|(apply ak fun K hK=>?_)|fail)
     all_goals refine qq ?_
     rw[I]
    have x2':rb.getD j false=false:=by simpa using x2
    rw[x2']at g2;clear x1 x2 hFm hTm;repeat' (first
     |(apply aj ?_;clear hK K)|apply aQ ?_|(apply bT ?_ ?_<;>(intro hg hgp;try(cases hg;done)))|(apply aV ?_ ?_<;>(intro hb hbp;try(cases hb;done)))|(apply ak fun K hK=>?_)|fail)
    refine⟨ac,aK,aK,bG,zO,?_⟩;intro t ht;by_cases e:t=j
    .subst e;exact⟨x1',x2'⟩
    .exact hJ t ac
   .have hjt':¬(j:Int)<16:=by omega
    have I:=hTm (fun t ht=>(hJ t ac).1) (fun t ht=>(hJ t ac).2);refine wG ?_;all_goals refine qq ?_
    rw[I]
  .have I:=hF (fun h=>s2 (zU h.2).2.2.2.1);have kv1:=hro g.value;have ks2:=hro g.ab;rw[v1]at kv1;repeat' (first
    |(apply aj ?_;clear hK K)|apply aQ ?_|(apply ch ?_;first|refine Rx.k (kv1 _) ?_|refine Rx.k (ks2 _) ?_)|(apply bT ?_ ?_<;>(intro hg hgp;try(cases hg;done)))|(apply aV ?_ ?_<;>(intro hb hbp;try(cases hb;done)))|(apply ak fun K hK=>?_)|fail)
   all_goals first|exact bN|skip
   all_goals refine qq ?_
   rw[I]
 .have I:=hF (fun h=>v1 (zU h.2).2.2.1);have kv1:=hro g.value;repeat' (first
   |(apply aj ?_;clear hK K)|apply aQ ?_|(apply ch ?_;first|refine Rx.k (kv1 _) ?_)|(apply bT ?_ ?_<;>(intro hg hgp;try(cases hg;done)))|(apply aV ?_ ?_<;>(intro hb hbp;try(cases hb;done)))|(apply ak fun K hK=>?_)|fail)
  all_goals first|exact bN|skip
  all_goals refine qq ?_
  rw[I])
end
section
def tyVdE.tyF:=ad @cA (ad @dw (ad @gQ (ad @rB (ad @rC (ad @fX (ad @tk (@lJ)))))))
open tyVdE
noncomputable def zV:{c:SC // aC 91 (f18.body.getD .skip)=c}:=by
 refine⟨?_,?_⟩;rotate_left
 .simp only[f18,bz,aC,bw,bt,bA,bB,Nat.blt,Nat.ble];rfl
theorem VY:∀(l seen:List b8),bU seen l=false->l.Nodup/\∀x∈l,bu seen x=false
 |[],seen,_=>⟨KY,fun x z=>by simp at z⟩
 |a::l,seen,h=>by
  rw[bU]at h;have j:bu seen a=false/\bU (seen++[a]) l=false:=by
   cases U:bu seen a<;>simp_all
  obtain⟨i,g⟩:=VY l _ j.2;refine⟨Cc.2 ⟨fun O=>?_,i⟩,fun x z=>?_⟩
  .have:=g a O;simp[bu]at this
  .rcases gE.1 z with rfl|z
   .exact j.1
   .have:=g x z;simp only[bu,BF,kU]at this⊢;exact this.1
theorem VZ:∀(l seen:List b8),l.Nodup->(∀x∈l,bu seen x=false)->bU seen l=false
 |[],_,_,_=>rfl
 |a::l,seen,h,hs=>by
  obtain⟨i,g⟩:=Cc.1 h;rw[bU,hs a ei];have:=VZ l (seen++[a]) g fun x z=>by
   have m:=hs x (ev _ z);have U:x≠a:=fun e=>i (e▸z);simp only[bu,BF,kU]at m⊢;refine⟨m,?_⟩;have M:¬a=x:=fun e=>U e.symm;simp[M]
  rw[this];rfl
def V0(l:List b8):bU [] l=false↔l.Nodup:=⟨fun h=>(VY l [] h).1,fun h=>VZ l [] h fun x _=>by simp[bu]⟩
def V3(f:I->b8){l:List I}(h:∀(j:Nat) (a:I),l[j]?=some a->∀(k:Nat) (b:I),k<j->l[k]?=some b->f b≠f a):bU [] (l.map f)=false:=by
 rw[V0];refine G8.2 fun i j C Z g e=>?_;simp only[cN]at C Z;simp only[List.getElem_map]at e;exact h j _ (aL Z) i _ g (aL C) e
def V4(f:I->b8){l:List I}(h:bU [] (l.map f)=false){a b:I}(g:i<j)(Y:l[i]?=some a)(Z:l[j]?=some b):f a≠f b:=by
 rw[V0]at h;have J:j<l.length:=by
  by_cases c:j<l.length
  .exact c
  .rw[gV ac]at Z;cases Z
 have C:i<l.length:=ac;rw[aL C,aI]at Y;rw[aL J,aI]at Z;have:=G8.1 h i j (by rw[cN];exact C) Jj g;simp only[List.getElem_map]at this;rw[<-Y,<-Z];exact this
structure zd2 (u:Un):Prop where
 ok:zlf u
 r:∀g∈u.funcs,∀n∈g.ag,-9223372036854775808<=n.aF/\n.aF<9223372036854775808
def zW(h:iI u=true):((u.aa.length:Int)<=4/\(u.funcs.length:Int)<=8)/\(∀a∈u.aa,pV a=true)/\bU [] (u.aa.map Ar.name)=false/\bU [] (u.funcs.map Gr.name)=false/\∀g∈u.funcs,oz u g=true:=by
 rw[iI,Vu]at h;unfold GZ at h;simp only[jN,lH,gM]at h;obtain⟨⟨⟨i,Z,m⟩,U,M⟩,Y⟩:=h;exact⟨i,Z,m,M,fun g hg=>by rw[oz,U g hg,Y g hg];rfl⟩
def zkF(h1:(u.aa.length:Int)<=4)(h2:(u.funcs.length:Int)<=8)(m:∀a∈u.aa,pV a=true)(U:bU [] (u.aa.map Ar.name)=false)(M:bU [] (u.funcs.map Gr.name)=false)(Z:∀g∈u.funcs,oz u g=true):iI u=true:=by
 rw[iI,Vu];unfold GZ;have i:∀g∈u.funcs,ci g.name=true/\gh u g=true:=fun g hg=>by
  have:=Z g hg;rw[oz,cj]at this;exact this
 simp only[jN,lH,gM];exact⟨⟨⟨⟨h1,h2⟩,m,U⟩,fun g hg=>(i g hg).1,M⟩,fun g hg=>(i g hg).2⟩
noncomputable def V7:En:=⟨41,false,bQ LK sP fun x=>.bool (oz x.u x.g)⟩
def zkG:co prog ρ V7:=cz fun x z=>zkE ρ x z
noncomputable def He:qB:=[zk,V7]
def zkH:eU prog ρ He:=⟨BC ρ,zkG ρ,trivial⟩
def V8{I:Type}{l:List I}{a:I}(h:l[j]?=some a):j<l.length:=by
 by_cases c:j<l.length
 .exact c
 .rw[gV ac]at h;cases h
set_option maxRecDepth 100000 in
theorem zkI(u:Un)(hu:zd2 u):bF prog ρ 18 [.agg u.cells] (.bool (iI u)):=dE fit (pls:=pls) (zkH ρ) (.cons (.agg (xu _)) .nil) (.bool _) (by
 obtain⟨⟨ha,hf,hg,hz⟩,hr⟩:=hu;have hw:zd0 (ay pls He) 18:=db (fun _=>rfl) rfl;have hpz:(gK u).sz=1+eV u.aa+fg (u.funcs.map eD):=rfl;have hna:∀a∈u.aa,a.name.length<2^60:=fun a J=>by have:=Fm J;omega
 have hnf:∀g∈u.funcs,g.name.length<2^60:=fun g J=>by
  have h1:=nY (List.mem_map_of_mem (f:=eD) J);have Y:(eD g).sz=1+g.name.length+dB []+dB []+bH []+(eD g).value.sz:=rfl;omega
 have kv:∀s:b8,s.length<2^60->∀H,aM prog (ay pls He) 40 [.aq s] H fun v H'=>v=.bool (ci s)/\H'=H:=fun s hs H=>bZ (enc:=nn) (out:=fun x=>.bool (ci x)) ux (x:=s) rfl hs;have kg:∀g,g∈u.funcs->∀H,aM prog (ay pls He) 41 [.agg u.cells,.agg g.cells] H fun v H'=>v=.bool (oz u g)/\H'=H:=fun g J H=>bZ (enc:=sP) (ok:=LK) (out:=fun x=>.bool (oz x.u x.g)) TI (x:=⟨u,g⟩) rfl ⟨⟨hg g J,ha,hf⟩,hnf g J,hr g J⟩;obtain⟨R,I⟩:∃R,iI u=R:=⟨_,rfl⟩;have hF:¬iI u=true->R=false:=fun h=>by rw[<-I];simpa using h
 have hT:iI u=true->R=true:=fun h=>by rw[<-I];exact h
 rw[I];clear I hpz hz;by_cases c1:(4:Int)<u.aa.length
 .have I:=hF (fun h=>by have:=(zW h).1.1;omega);refine a0 (M:=91) (rs:=[.tmp 2]) (hw.call _) hw.aG hw.az func18 rfl rfl zV.2 rfl ?_;dsimp only[zV,aW,Nat.reduceAdd];repeat' (first
   |(apply aj ?_;clear hK K)|apply aQ ?_|(apply bT ?_ ?_<;>(intro hg hgp;try(cases hg;done)))|(apply aV ?_ ?_<;>(intro hb hbp;try(cases hb;done)))|(apply ak fun K hK=>?_)|fail)
  all_goals refine qq ?_
  rw[I]
 by_cases c2:(8:Int)<u.funcs.length
 .have I:=hF (fun h=>by have:=(zW h).1.2;omega);refine a0 (M:=91) (rs:=[.tmp 2]) (hw.call _) hw.aG hw.az func18 rfl rfl zV.2 rfl ?_;dsimp only[zV,aW,Nat.reduceAdd];repeat' (first
   |(apply aj ?_;clear hK K)|apply aQ ?_|(apply bT ?_ ?_<;>(intro hg hgp;try(cases hg;done)))|(apply aV ?_ ?_<;>(intro hb hbp;try(cases hb;done)))|(apply ak fun K hK=>?_)|fail)
  all_goals refine qq ?_
  rw[I]
 refine a0 (M:=91) (rs:=[.tmp 2]) (hw.call _) hw.aG hw.az func18 rfl rfl zV.2 rfl ?_;dsimp only[zV,aW,Nat.reduceAdd];repeat' (first
  |(apply aj ?_;clear hK K)|apply aQ ?_|(apply bT ?_ ?_<;>(intro hg hgp;try(cases hg;done)))|(apply aV ?_ ?_<;>(intro hb hbp;try(cases hb;done)))|(apply ak fun K hK=>?_)|fail)
 refine bY [1] [0] 3 u.aa.length (fun i E H=>∀(j:Nat) (a:Ar),j<i->u.aa[j]?=some a->pV a=true/\∀(k:Nat) (b:Ar),k<j->u.aa[k]?=some b->b.name≠a.name) eE (fun j a h=>ac) ?_;rintro i E Hi hi V m z hsI hJ;(try simp only[bq,aT,aN,aG,aR,Nat.reduceBEq, *]at V);(try simp only[bq,aT,aN,aG,aR, *]at m);(try simp only[aZ,bX,bK]at z);have hB0:(0 == Hi.next)=false:=aX ac;have hC0:(Hi.next == 0)=false:=aX ac;have ni:1<=Hi.next:=z
 by_cases L:i<u.aa.length
 .have O:(i:Int)<u.aa.length:=by omega
  have hgx:u.aa[i]?=some u.aa[i]:=aL L;have Z:=cB L;have hnm:=hna _ Z;generalize u.aa[i]=a at *;have hbad:pV a=false->R=false:=fun h=>hF fun hv=>by have:=(zW hv).2.1 a Z;rw[h]at this;cases this
  by_cases d0':ci a.name=false
  .have I:=hbad (by rw[pV,d0'];rfl);repeat' (first
    |(apply aj ?_;clear hK K)|apply aQ ?_|(apply ch ?_;first|refine Rx.k (kv _ hnm _) ?_)|(apply bT ?_ ?_<;>(intro hg hgp;try(cases hg;done)))|(apply aV ?_ ?_<;>(intro hb hbp;try(cases hb;done)))|(apply ak fun K hK=>?_)|fail)
   all_goals first|exact bN|skip
   all_goals refine qq ?_
   rw[I]
  have d0:ci a.name=true:=by simpa using d0'
  clear d0';by_cases d1:a.len<1
  .have I:=hbad (by rw[pV,eA (show ¬1<=a.len by omega)];simp);repeat' (first
    |(apply aj ?_;clear hK K)|apply aQ ?_|(apply ch ?_;first|refine Rx.k (kv _ hnm _) ?_)|(apply bT ?_ ?_<;>(intro hg hgp;try(cases hg;done)))|(apply aV ?_ ?_<;>(intro hb hbp;try(cases hb;done)))|(apply ak fun K hK=>?_)|fail)
   all_goals first|exact bN|skip
   all_goals refine qq ?_
   rw[I]
  by_cases d2:16<a.len
  .have I:=hbad (by rw[pV,eA (show ¬a.len<=16 by omega)];simp);repeat' (first
    |(apply aj ?_;clear hK K)|apply aQ ?_|(apply ch ?_;first|refine Rx.k (kv _ hnm _) ?_)|(apply bT ?_ ?_<;>(intro hg hgp;try(cases hg;done)))|(apply aV ?_ ?_<;>(intro hb hbp;try(cases hb;done)))|(apply ak fun K hK=>?_)|fail)
   all_goals first|exact bN|skip
   all_goals refine qq ?_
   rw[I]
  have hda:pV a=true:=by rw[pV,d0,dx (show 1<=a.len by omega),dx (show a.len<=16 by omega)];rfl
  repeat' (first
   |(apply aj ?_;clear hK K)|apply aQ ?_|(apply ch ?_;first|refine Rx.k (kv _ hnm _) ?_)|(apply bT ?_ ?_<;>(intro hg hgp;try(cases hg;done)))|(apply aV ?_ ?_<;>(intro hb hbp;try(cases hb;done)))|(apply ak fun K hK=>?_)|fail)
  all_goals first|exact bN|skip
  generalize hHb:Hp.set (Hp.alloc _ _) _ _=Hb;have nb:Hi.next+1<=Hb.next:=EL
  have g5:Hb.get Hi.next=some (.cells a.cells 0 true):=Bn
  have g0:Hb.get 0=Hi.get 0:=Fh;clear hHb;refine bY [1,3,4] [0] 5 i (fun k E H=>H.get Hi.next=some (.cells a.cells 0 true)/\∀(k':Nat) (b:Ar),k'<k->u.aa[k']?=some b->b.name≠a.name) eE ⟨g5,fun k' b h=>ac⟩ ?_;clear g5;rintro k E3 H3 hk V m z hsI ⟨g5,hne⟩;(try simp only[bq,aT,aN,aG,aR,Nat.reduceBEq, *]at V);(try simp only[bq,aT,aN, *]at m);(try simp only[aZ,br,bX,bK,Nat.reduceAdd]at z);have hB0:(0 == H3.next)=false:=aX ac;have hC0:(H3.next == 0)=false:=aX ac;have n3:Hi.next+1<=H3.next:=ac
  by_cases hkt:k<i
  .have hkt':(k:Int)<i:=by omega
   have hgk:u.aa[k]?=some u.aa[k]:=aL ac;have U:=fun h:u.aa[k].name=a.name=>hF (fun hv=>V4 Ar.name (zW hv).2.2.1 hkt hgk hgx h);generalize u.aa[k]=b at *;by_cases he:b.name=a.name
   .have I:=U he;clear U;refine CF (fun hb hbp=>?_) (fun hb hbp=>?_);all_goals first|exact bN|skip
    all_goals refine qq ?_
    rw[I]
   .clear U;refine CF (fun hb hbp=>?_) (fun hb hbp=>?_);all_goals first|exact bN|skip
    refine⟨ac,aK,aK,bG,(by simp only[aG,Nat.reduceBEq, *];exact gX (n:=i) ac ac),?_⟩;refine⟨g5,fun k' b' h1 Y=>?_⟩;by_cases e:k'=k
    .rw[e,hgk,aI]at Y;rw[<-Y];exact he
    .exact hne k' b' ac Y
  clear g0;have hkt':¬(k:Int)<i:=ac;refine fy (fun hb hbp=>?_);refine⟨ac,aK,aK,bG,(by simp only[aG,Nat.reduceBEq, *];exact gX (n:=u.aa.length) ac ac),?_⟩;intro j x hj hx;by_cases e:j=i
  .subst e;rw[hgx,aI]at hx;subst hx;exact⟨hda,fun k' b h1 Y=>hne k' b ac Y⟩
  .exact hJ j x ac hx
 have O:¬(i:Int)<u.aa.length:=ac;have ha1:∀a∈u.aa,pV a=true:=fun a J=>by
  obtain⟨j,hj,e⟩:=ta J;exact(hJ j a ac Gz).1
 have ha2:bU [] (u.aa.map Ar.name)=false:=V3 Ar.name fun j a h k b h1 Y=>(hJ j a (by have:=V8 h;omega) h).2 k b h1 Y;clear hJ;refine fy (fun hb hbp=>?_);refine bY [1] [0] 6 u.funcs.length (fun i E H=>∀(j:Nat) (a:Gr),j<i->u.funcs[j]?=some a->oz u a=true/\∀(k:Nat) (b:Gr),k<j->u.funcs[k]?=some b->b.name≠a.name) eE (fun j a h=>ac) ?_;clear L O;rintro C E2 H2 hi2 V m z hsI hJ;(try simp only[bq,aT,aN,aG,Nat.reduceBEq, *]at V);(try simp only[bq,aT,aN, *]at m);(try simp only[aZ,br,bX,bK,Nat.reduceAdd]at z);have hB0:(0 == H2.next)=false:=aX ac;have hC0:(H2.next == 0)=false:=aX ac;have n2:1<=H2.next:=ac
 by_cases L:C<u.funcs.length
 .have O:(C:Int)<u.funcs.length:=by omega
  have hgx:u.funcs[C]?=some u.funcs[C]:=aL L;have Z:=cB L;have kga:=kg _ Z;generalize u.funcs[C]=a at *;refine fy (fun hb hbp=>?_);refine bY [1,6] [0] 7 C (fun k E H=>∀(k':Nat) (b:Gr),k'<k->u.funcs[k']?=some b->b.name≠a.name) eE (fun k' b h=>ac) ?_;rintro k E3 H3 hk V m z hsI hne;(try simp only[bq,aT,aN,aG,Nat.reduceBEq, *]at V);(try simp only[bq,aT,aN, *]at m);(try simp only[aZ,br,bX,bK,Nat.reduceAdd]at z);have hB0:(0 == H3.next)=false:=aX ac;have hC0:(H3.next == 0)=false:=aX ac;have n3:1<=H3.next:=ac
  by_cases hkt:k<C
  .have hkt':(k:Int)<C:=by omega
   have hgk:u.funcs[k]?=some u.funcs[k]:=aL ac;have U:=fun h:u.funcs[k].name=a.name=>hF (fun hv=>V4 Gr.name (zW hv).2.2.2.1 hkt hgk hgx h);generalize u.funcs[k]=b at *;by_cases he:b.name=a.name
   .have I:=U he;clear U;refine CF (fun hb hbp=>?_) (fun hb hbp=>?_);all_goals first|exact bN|skip
    all_goals refine qq ?_
    rw[I]
   .clear U;refine CF (fun hb hbp=>?_) (fun hb hbp=>?_);all_goals first|exact bN|skip
    refine⟨ac,aK,aK,bG,VD,?_⟩;intro k' b' h1 Y;by_cases e:k'=k
    .rw[e,hgk,aI]at Y;rw[<-Y];exact he
    .exact hne k' b' ac Y
  have hkt':¬(k:Int)<C:=ac;by_cases hv:oz u a=true
  .repeat' (first
    |(apply aj ?_;clear hK K)|apply aQ ?_|(apply ch ?_;first|refine Rx.k (kga _) ?_)|(apply aV ?_ ?_<;>(intro hb hbp;try(cases hb;done)))|(apply ak fun K hK=>?_)|(apply da 22 [(0,6),(2,6),(5,6)] fun K hK=>?_)|(apply ce ?_;try intro _)|(apply di ?_ ?_<;>clear hK K)|fail)
   all_goals first|exact bN|skip
   refine⟨ac,aK,aK,bG,KX,?_⟩;intro j x hj hx;by_cases e:j=C
   .subst e;rw[hgx,aI]at hx;subst hx;exact⟨hv,fun k' b h1 Y=>hne k' b ac Y⟩
   .exact hJ j x ac hx
  .have hv':oz u a=false:=by simpa using hv
   have I:=hF (fun h=>hv ((zW h).2.2.2.2 a Z));clear hv;repeat' (first
    |(apply aj ?_;clear hK K)|apply aQ ?_|(apply ch ?_;first|refine Rx.k (kga _) ?_)|(apply aV ?_ ?_<;>(intro hb hbp;try(cases hb;done)))|(apply ak fun K hK=>?_)|(apply da 22 [(0,6),(2,6),(5,6)] fun K hK=>?_)|(apply ce ?_;try intro _)|(apply di ?_ ?_<;>clear hK K)|fail)
   all_goals first|exact bN|skip
   all_goals refine qq ?_
   rw[I]
 have O:¬(C:Int)<u.funcs.length:=ac;have I:=hT (zkF ac ac ha1 ha2 (V3 Gr.name fun j a h k b h1 Y=>(hJ j a (by have:=V8 h;omega) h).2 k b h1 Y) fun g J=>by
  obtain⟨j,hj,e⟩:=ta J;exact(hJ j g ac Gz).1)
 refine wG ?_;all_goals refine qq ?_
 rw[I])
noncomputable def V9:En:=⟨18,true,bQ zd2 (fun u=>[.agg u.cells]) fun u=>.bool (iI u)⟩
def zkJ:co prog ρ V9:=cz fun u z=>zkI ρ u z
end
end Go.Proofs.YtbflaciihaijgaaGreat
