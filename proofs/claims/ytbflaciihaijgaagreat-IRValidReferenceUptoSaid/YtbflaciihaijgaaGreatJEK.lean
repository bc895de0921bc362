/- Lemmas for the last file. -/
import Derived.Test.YtbflaciihaijgaaGreatJEJ
set_option linter.all false
set_option maxHeartbeats 32000000
namespace Go.Ab
set_option maxRecDepth 20000
open Go
variable{qf:Prop}
def BU(h:qf:=by rw[List.drop_eq_getElem_cons j,List.all_cons]):=h
def RD(h:qf:=by rw[<- Z];simp only[get_set,xd,aZ,br,IJ,Nr,Nat.add_assoc,Nat.reduceAdd,beq_self_eq_true,cond_true,cond_false,Nat.reduceBEq]):=h
def RE(h:qf:=by have:=h.2.1;have:=h.2.2.1;simp only[List.drop_zero];omega):=h
def Kw(h:qf:=by simp only[ci,j,Bool.false_and]):=h
def Kx(h:qf:=by rw[<- hHb,aD,if_pos eN]):=h
end Go.Ab
namespace Go.Proofs.YtbflaciihaijgaaGreat
set_option maxRecDepth 20000
open Go Go.Ab Proofs.Tryz
variable(ρ:Nat->Int)
variable{cfg:Cfg}{l:qB}
section
def tyP4g.tyF:=ad @cA (ad @dw (ad @gQ (ad @jA (ad @iL (ad @vu (ad @fU (ad @fL (ad @fb (ad @nf (ad @gF (ad @yS (ad @D9 (ad @Ja (ad @Ki (@zfb)))))))))))))))
open tyP4g
noncomputable def RF:{c:SC // aC 67 (f73.body.getD .skip)=c}:=by
 refine⟨?_,?_⟩;rotate_left
 .simp only[f73,bz,aC,bw,bt,bA,bB,Nat.blt,Nat.ble];rfl
noncomputable def FV:qB:=[Kf]
def zfQ:eU prog ρ FV:=⟨QM ρ,trivial⟩
set_option maxRecDepth 100000 in
theorem zfR(p:Pr)(hz:p.sz<2^36):bF prog ρ 73 (fD p) (.int .i64 (xT p)):=dE fit (pls:=pls) (zfQ ρ) (.cons (.agg p.pure) .nil) (.int _ _) (by
 have hw:zd0 (ay pls FV) 73:=db (fun _=>rfl) rfl;have kd:∀H,aM prog (ay pls FV) 122 [.agg p.cells] H fun v H'=>v=.aX [cZ (bD p),cZ (hO p)]/\H'=H:=fun H=>bZ (enc:=fD) (out:=fun p=>.aX [cZ (bD p),cZ (hO p)]) pH (x:=p) rfl hz;have hps:zf6 (ay pls FV):=⟨db (fun _=>rfl) rfl,db (fun _=>rfl) rfl,db (fun _=>rfl) rfl,db (fun _=>rfl) rfl⟩;have hpz:p.sz=1+eV p.aa+fg p.funcs:=rfl;have hla:=mC p.aa;have hlf:=nX p.funcs;have hal:(bD p).length=p.aa.length:=vT;have hfl:(hO p).length=p.funcs.length:=by simp[hO]
 have hx0:∀a b,Ab.extract (.aX [a,b]) 0=some a:=fun _ _=>rfl;have hx1:∀a b,Ab.extract (.aX [a,b]) 1=some b:=fun _ _=>rfl;have hnm:=Nv;rw[fD];refine a0 (M:=67) (rs:=[.tmp 2]) (hw.call _) hw.aG hw.az func73 rfl rfl RF.2 rfl ?_;dsimp only[RF,aW,Nat.reduceAdd];repeat' (first
  |(apply aj ?_;clear hK K)|apply aO ?_|(apply ez ?_;first|refine Rx.k (kd _) ?_)|(apply ak fun K hK=>?_)|fail)
 refine qd ?_;refine aY ?_ (RB (x:=[bD p]) (imm:=0) (db (fun _=>rfl) rfl) sC (cC _) ⟨au,bW⟩);rintro v Z ⟨rfl,⟨la,hma,hla2⟩,hold,hlt2⟩;simp only[aZ,bX]at hma hold hlt2;rw[show([bD p]:List qw).flatten=bD p by simp]at hla2;have g20:Z.get 0=some (.cells p.cells 0 true):=by rw[hold 0 ac,aD,af au,aD,ah eN]
 clear hold;dsimp only[aU];refine eP ?_;generalize L:Hp.set (Hp.set _ _ _) _ _=Hs;have ns:Z.next+3<=Hs.next:=by rw[<-L];exact aH _
 have gs0:Hs.get 0=some (.cells p.cells 0 true):=by rw[<-L,aA,af ac,aA,af ac,aD,af dG,aD,af dG,aD,af ac];exact g20
 have gsa:Hs.get 2=some (.map (iy la)):=by rw[<-L,aA,af ac,aA,af ac,aD,af dG,aD,af dG,aD,af ac];exact hma
 have gs5:Hs.get (Z.next+1)=some (.cells [.map 2] 0 true):=by rw[<-L,aA,af ac,aA,ah eN]
 have gs6:Hs.get (Z.next+2)=some (.cells [.map Z.next] 0 true):=by rw[<-L,aA,ah eN]
 have gsf:Hs.get Z.next=some (.map (hM [])):=by rw[<-L,aA,af ac,aA,af ac,aD,af dG,aD,af dG,aD,ah eN];rfl
 clear L hma;have hlt2':3<=Z.next:=ac
 clear hlt2;have hE0:(0 == Z.next)=false:=aX ac;have hE2:(2 == Z.next)=false:=aX ac;refine bY [1,2,5,6,23,24] [0,2,Z.next+1,Z.next+2] 25 p.funcs.length (fun i E H=>∃m,hY (p.funcs.drop i) m=hY p.funcs []/\H.get Z.next=some (.map (hM m))) eE ⟨[],au,gsf⟩ ?_;rintro i E Y hi hcE hrH hnH hsI ⟨m,hJ,hm⟩;(try simp only[bq,aT,aN,aG,aR,Nat.reduceBEq,Nat.reduceAdd, *]at hcE);(try simp only[bq,aT,aN, *]at hrH);(try simp only[aZ,br,bX,bK,Nat.reduceAdd]at hnH);have hB0:(0 == Y.next)=false:=aX ac;have hC0:(Y.next == 0)=false:=aX ac;have hB1:(2 == Y.next)=false:=aX ac;have hC1:(Y.next == 2)=false:=aX ac;have hB2:(Z.next+1 == Y.next)=false:=aX ac;have hC2:(Y.next == Z.next+1)=false:=aX ac;have hB3:(Z.next+2 == Y.next)=false:=aX ac;have hC3:(Y.next == Z.next+2)=false:=aX ac;obtain⟨h30,h3a,h35,h36⟩:=hrH;repeat' (first
  |(apply aj ?_;clear hK K)|apply aO ?_|(apply bp ?_ ?_<;>(intro hb hbp;try(cases hb;done)))|(apply ak fun K hK=>?_)|fail)
 .have j:i<p.funcs.length:=by simpa using hb
  have hgx:p.funcs[i]?=some p.funcs[i]:=aL j;have hgn:(hO p)[i]?=some p.funcs[i].name:=by rw[hO,eu,hgx];rfl
  have hu:=zeW (P:=prog) (t:=98) underlying98 RC hm p.funcs[i].name p.funcs[i].params.length;rw[ft j,hY]at hJ;repeat' (first
   |(apply aj ?_;clear hK K)|apply aO ?_|(apply ak fun K hK=>?_)|(apply Bb 6 fun K hK=>?_)|fail)
  refine⟨ac,aK,aK,bG,pA,?_⟩;exact⟨_,hJ,gC⟩
 .have hie:i=p.funcs.length:=by simp at hb;omega
  rw[hie,gH,hY]at hJ;subst hJ;clear hie hsI hi hb hbp;refine eP ?_;generalize hHq:Hp.set (Hp.alloc Y _) _ _=Hq;have nq:Y.next+1<=Hq.next:=by rw[<-hHq];exact aH _
  have J:∀k,k<Y.next->Hq.get k=Y.get k:=fun k hk=>by rw[<-hHq,aA,af ac,aD,af ac]
  have q9:Hq.get Y.next=some (.cells [.int .i64 (sK false)] 0 true):=by rw[<-hHq,aA,ah rfl];rfl
  clear hHq;refine bY [5,6,9,41,42] [] 43 p.funcs.length (fun i E H=>∃w,H.get Y.next=some (.cells [.int .i64 (sK w)] 0 true)/\xT p=uI (hY p.funcs []) (bD p) (p.funcs.drop i) w/\H.get (Z.next+1)=some (.cells [.map 2] 0 true)/\(∃l,H.get 2=some (.map (iy l))/\∀s,bu l s=bu (bD p) s)/\H.get (Z.next+2)=some (.cells [.map Z.next] 0 true)/\H.get Z.next=some (.map (hM (hY p.funcs [])))) eE ⟨false,q9,rfl,by rw[J _ ac];exact h35,⟨la,by rw[J _ ac];exact h3a,hla2⟩,by rw[J _ ac];exact h36,by rw[J _ ac];exact hm⟩ ?_;clear hm hla2 la h30 h3a h35 h36 gs0 gsa gs5 gs6 gsf q9 J;rintro i E H4 hi hcE hrH hnH hsI ⟨w,g9,hJ,g5,⟨la,ga,hla⟩,g6,gf⟩;(try simp only[bq,aT,aN,aG,aR,Nat.reduceBEq, *]at hcE);(try simp only[aT, *]at hrH);(try simp only[aZ,br,bX,bK,Nat.reduceAdd]at hnH);repeat' (first
   |(apply aj ?_;clear hK K)|apply aO ?_|(apply bp ?_ ?_<;>(intro hb hbp;try(cases hb;done)))|(apply ak fun K hK=>?_)|fail)
  .have j:i<p.funcs.length:=by simpa using hb
   have hgx:p.funcs[i]?=some p.funcs[i]:=aL j;have hsm:=nY (cB j);have hsz:p.funcs[i].sz=1+p.funcs[i].name.length+dB p.funcs[i].params+dB p.funcs[i].ao+bH p.funcs[i].body+p.funcs[i].value.sz:=rfl;have hpl:=jR p.funcs[i].params;have hll:=jR p.funcs[i].ao;have hdr:uI (hY p.funcs []) (bD p) (p.funcs.drop i) w=if rH (fun x _=>i9 (p.funcs[i].params++p.funcs[i].ao) (bD p) x) p.funcs[i]=true/\(fC (oT (hY p.funcs []) (p.funcs[i].params++p.funcs[i].ao) (bD p)) p.funcs[i].body 0 w).1=true then uI (hY p.funcs []) (bD p) (p.funcs.drop (i+1)) (fC (oT (hY p.funcs []) (p.funcs[i].params++p.funcs[i].ao) (bD p)) p.funcs[i].body 0 w).2 else 3:=ng
   rw[hdr]at hJ;clear hdr;have hfz:p.funcs[i].sz<2^60:=ac;generalize p.funcs[i]=g at *;refine dY fun K hK=>?_;generalize hHb:Hp.alloc (Hp.set _ _ _) _=Hb;have nb:Hb.next=H4.next+2:=by rw[<-hHb];rfl
   have oldb:∀k,k<H4.next->Hb.get k=H4.get k:=fun k hk=>by rw[<-hHb,aD,af iU,aA,af ac,aD,af ac]
   have gbr:Hb.get (H4.next+1)=some (.cells [cZ g.params,cZ g.ao] 0 true):=Kx;have gb11:Hb.get H4.next=some (.cells g.cells 0 true):=by rw[<-hHb,aD,af iU,aA,ah rfl]
   clear hHb;refine qd ?_;refine aY ?_ (RB (x:=[g.params,g.ao]) (imm:=0) (db (fun _=>rfl) rfl) gbr ac ⟨au,bW⟩);rintro v O ⟨rfl,⟨lv,hmv,hlv⟩,old5,n5⟩;rw[show([g.params,g.ao]:List qw).flatten=g.params++g.ao by simp]at hlv;have o5:∀k,k<H4.next->O.get k=H4.get k:=fun k hk=>by rw[old5 k ac,oldb k hk]
   have g511:O.get H4.next=some (.cells g.cells 0 true):=by rw[old5 _ ac];exact gb11
   have g59:O.get Y.next=some (.cells [.int .i64 (sK w)] 0 true):=by rw[o5 _ ac];exact g9
   have g55:O.get (Z.next+1)=some (.cells [.map 2] 0 true):=by rw[o5 _ ac];exact g5
   have g5a:O.get 2=some (.map (iy la)):=by rw[o5 _ ac];exact ga
   have g56:O.get (Z.next+2)=some (.cells [.map Z.next] 0 true):=by rw[o5 _ ac];exact g6
   have g5f:O.get Z.next=some (.map (hM (hY p.funcs []))):=by rw[o5 _ ac];exact gf
   clear o5 old5 gbr gb11 oldb g9 g5 ga g6 gf;have e1:(H4.next == O.next)=false:=aX ac;dsimp only[aU];refine dY fun K hK=>?_;generalize hHd:Hp.set (Hp.alloc O _) _ _=C;have nd:C.next=O.next+1:=by rw[<-hHd];rfl
   have V:∀k,k<O.next->C.get k=O.get k:=fun k hk=>by rw[<-hHd,aA,af ac,aD,af ac]
   have d12:C.get O.next=some (.cells [.map Hb.next] 0 true):=by rw[<-hHd,aA,ah rfl,nb]
   clear hHd;have hok:zf5 ⟨O.next,Hb.next,Z.next+1,2,Z.next+2,Z.next,Y.next⟩ (g.params++g.ao) (bD p) (hY p.funcs []) C:={
    b12:=d12
    bv:=⟨lv,by show C.get Hb.next=_;rw[V _ n5];exact hmv,hlv⟩
    b5:=by show C.get (Z.next+1)=_;rw[V _ ac];exact g55
    ba:=⟨la,by show C.get 2=_;rw[V _ ac];exact g5a,hla⟩
    b6:=by show C.get (Z.next+2)=_;rw[V _ ac];exact g56
    bf:=by show C.get Z.next=_;rw[V _ ac];exact g5f}
   have hd9:C.get Y.next=some (.cells [.int .i64 (sK w)] 0 true):=by rw[V _ ac];exact g59
   have hd11:C.get H4.next=some (.cells g.cells 0 true):=by rw[V _ ac];exact g511
   have hlX:∀n,C.next<=n->RsLt ⟨O.next,Hb.next,Z.next+1,2,Z.next+2,Z.next,Y.next⟩ n:=fun n hn=>⟨by show O.next<n;omega,by show Hb.next<n;omega,by show Z.next+1<n;omega,by show 2<n;omega,by show Z.next+2<n;omega,by show Z.next<n;omega⟩
   have hnX:RsNe ⟨O.next,Hb.next,Z.next+1,2,Z.next+2,Z.next,Y.next⟩:=⟨by show O.next≠Y.next;omega,by show Hb.next≠Y.next;omega,by show Z.next+1≠Y.next;omega,by show 2≠Y.next;omega,by show Z.next+2≠Y.next;omega,by show Z.next≠Y.next;omega⟩;clear g59 g55 g5a g56 g5f d12 V hmv hlv hla g511;refine qd ?_;refine aY ?_ (Rv hps (I:=fun H'=>ju C.next C H') (fun a b h1 h2=>h1.trans h2) (zfO (db (fun _=>rfl) rfl) (hlX _ (aH _)) (fun a b h1 h2=>h1.trans h2) fun H' h=>hok.bY (hlX _ (aH _)) h) g C hfz (aH _) (sq _ _));rintro v H6 ⟨rfl,hf6,U⟩;have n6:=hf6.next
   have hok6:=hok.bY (hlX _ (aH _)) U;have h69:H6.get Y.next=some (.cells [.int .i64 (sK w)] 0 true):=by rw[U _ ac];exact hd9
   have h611:H6.get H4.next=some (.cells g.cells 0 true):=by rw[U _ ac];exact hd11
   clear U hf6 hok hd9 hd11;dsimp only[aU];cases hwf:rH (fun x _=>i9 (g.params++g.ao) (bD p) x) g with
   |false=>
    repeat' (first
     |(apply aj ?_;clear hK K)|apply aO ?_|(apply cD ?_ ?_<;>(intro hg hgp;try(cases hg;done)))|(apply bp ?_ ?_<;>(intro hb hbp;try(cases hb;done)))|(apply ak fun K hK=>?_)|fail)
    all_goals refine qq ?_
    rw[hJ,hwf];simp
   |true=>
    rw[hwf]at hJ;repeat' (first
     |(apply aj ?_;clear hK K)|apply aO ?_|(apply cD ?_ ?_<;>(intro hg hgp;try(cases hg;done)))|(apply ak fun K hK=>?_)|fail)
    refine qd ?_;refine aY ?_ (zx (db (fun _=>rfl) rfl) (base:=H6.next) (I:=fun(w:Bool) H=>zf5 ⟨O.next,Hb.next,Z.next+1,2,Z.next+2,Z.next,Y.next⟩ (g.params++g.ao) (bD p) (hY p.funcs []) H/\H.get Y.next=some (.cells [.int .i64 (sK w)] 0 true)) (fun s a b h1 h2=>⟨h1.1.bY (hlX _ n6) h2,by rw[h2 _ ac];exact h1.2⟩) (zfP (db (fun _=>rfl) rfl) (hlX _ n6) (by show Y.next<_;omega) hnX) (bH g.body+1) g.body ac 0 w H6 ac (aH _) ⟨hok6,h69⟩);rintro v H7 ⟨rfl,hf7,z,h79⟩;have n7:=hf7.next
    dsimp only[aU];refine nM (fun hb hbp=>?_) (fun hb hbp=>?_)
    .all_goals refine qq ?_
     rw[hJ];simp_all
    .refine⟨ac,aK,aK,bG,pA,?_⟩;refine⟨_,h79,?_,z.b5,z.ba,z.b6,z.bf⟩;rw[hJ,ah ⟨rfl,by simp_all⟩]
  .refine eP ?_;all_goals refine qq ?_
   have hie:i=p.funcs.length:=sB;rw[hJ,hie,gH,uI,sK])
end
section
def tyW4e.tyF:=ad @cA (ad @dw (ad @gQ (ad @jA (ad @iL (ad @fU (ad @fL (ad @fb (ad @nf (ad @lJ (@gF))))))))))
open tyW4e
noncomputable def RG:{c:SC // aC 68 (f70.body.getD .skip)=c}:=by
 refine⟨?_,?_⟩;rotate_left
 .simp only[f70,bz,aC,bw,bt,bA,bB,Nat.blt,Nat.ble];rfl
theorem zfS(hp:zf6 cfg)(m:zd0 cfg 70)(g:zd0 cfg 114)(h2w:zd0 cfg 116)(p:Pr)(hz:p.sz<2^60):
 aM prog cfg 70 [.agg p.cells] bM fun v _=>v=.bool (mD p):=by
 have hpz:p.sz=1+eV p.aa+fg p.funcs:=rfl;have hla:=mC p.aa;have hlf:=nX p.funcs;have hla2:p.aa.length<2^60:=ac;have hlf2:p.funcs.length<2^60:=ac;refine a0 (M:=68) (rs:=[.tmp 2]) (m.call _) m.aG m.az func70 rfl rfl RG.2 rfl ?_;dsimp only[RG,aW,Nat.reduceAdd];repeat' (first
  |(apply aj ?_;clear hK K)|apply aO ?_|(apply cD ?_ ?_<;>(intro hg hgp;try(cases hg;done)))|(apply bp ?_ ?_<;>(intro hb hbp;try(cases hb;done)))|(apply ak fun K hK=>?_)|fail)
 .all_goals refine qq ?_
  simp_all[mD];try(intros;omega)
 .refine sm (fun i E H=>p.aa.all (fun a=>!decide (a.len<1) && !decide (16<a.len))=(p.aa.drop i).all (fun a=>!decide (a.len<1) && !decide (16<a.len))/\E.at 1=.ptr 0 0/\E.at 21=.aE (p.aa.map Ar.cells)/\E.at 22=.int .i64 p.aa.length/\E.at 23=.int .i64 i/\0<H.next/\H.get 0=some (.cells p.cells 0 true)) p.aa.length ?_ ?_
  .rintro i E H hi ⟨hc,h1,h21,h22,h23,hn,hg0⟩;have e0:(0 == H.next)=false:=bW;repeat' (first
    |(apply aj ?_;clear hK K)|apply aO ?_|(apply bp ?_ ?_<;>(intro hb hbp;try(cases hb;done)))|(apply ak fun K hK=>?_)|fail)
   .have j:i<p.aa.length:=by simpa using hb
    have hgx:p.aa[i]?=some p.aa[i]:=aL j;have hd:(p.aa.drop i).all (fun a=>!decide (a.len<1) && !decide (16<a.len))=((!decide (p.aa[i].len<1) && !decide (16<p.aa[i].len))&&(p.aa.drop (i+1)).all (fun a=>!decide (a.len<1) && !decide (16<a.len))):=BU;repeat' (first
     |(apply aj ?_;clear hK K)|apply aO ?_|(apply cD ?_ ?_<;>(intro hg hgp;try(cases hg;done)))|(apply bp ?_ ?_<;>(intro hb hbp;try(cases hb;done)))|(apply ak fun K hK=>?_)|fail)
    .all_goals refine qq ?_
     have Y:p.aa.all (fun a=>!decide (a.len<1) && !decide (16<a.len))=false:=by rw[hc,hd];simp_all
     simp only[mD,Y];simp
    .refine⟨j,?_,eE,eE,eE,?_,iU,Ba⟩
     .rw[hc,hd];simp_all
     .simp only[kW,Nat.reduceBEq,ji,iT (show i<2^62 by omega)]
    .all_goals refine qq ?_
     have Y:p.aa.all (fun a=>!decide (a.len<1) && !decide (16<a.len))=false:=by rw[hc,hd];simp_all
     simp only[mD,Y];simp
   .have hia:i=p.aa.length:=by simp at hb;omega
    have hca:p.aa.all (fun a=>!decide (a.len<1) && !decide (16<a.len))=true:=by rw[hc,hia];simp
    clear hc;refine eP ?_;refine sm (fun i E H=>p.funcs.all kZ=(p.funcs.drop i).all kZ/\E.at 37=.aE (p.funcs.map Fu.cells)/\E.at 38=.int .i64 p.funcs.length/\E.at 39=.int .i64 i/\0<H.next) p.funcs.length ?_ ?_
    .rintro i E H hi ⟨hc,h37,h38,h39,hn⟩;repeat' (first
      |(apply aj ?_;clear hK K)|apply aO ?_|(apply bp ?_ ?_<;>(intro hb hbp;try(cases hb;done)))|(apply ak fun K hK=>?_)|fail)
     .have j:i<p.funcs.length:=by simpa using hb
      have hgx:p.funcs[i]?=some p.funcs[i]:=aL j;have hd:(p.funcs.drop i).all kZ=(kZ p.funcs[i]&&(p.funcs.drop (i+1)).all kZ):=BU;have hxm:=nY (cB j);generalize hx0:p.funcs[i]=x at *;have hsx:x.sz=1+x.name.length+dB x.params+dB x.ao+bH x.body+x.value.sz:=rfl;repeat' (first
       |(apply aj ?_;clear hK K)|apply aO ?_|(apply cD ?_ ?_<;>(intro hg hgp;try(cases hg;done)))|(apply bp ?_ ?_<;>(intro hb hbp;try(cases hb;done)))|(apply ak fun K hK=>?_)|fail)
      .generalize Z:Hp.set _ (H.next+2) _=O;have hn5:O.next=H.next+3:=by rw[<-Z];rfl
       have V:O.get H.next=some (.cells x.cells 0 true):=by rw[<-Z];simp only[get_set,xd,aZ,br,II,ki,Nat.reduceAdd,FG,ji,rz]
       have L:O.get (H.next+1)=some (.cells [.int .i64 0] 0 true):=RD;have J:O.get (H.next+2)=some (.cells [.int .i64 0] 0 true):=RD;refine qd ?_;refine aY ?_ (zx hp.ws (base:=H.next+3) (fun s Ha Hb h U=>⟨by rw[U _ ac];exact h.1,by rw[U _ ac];exact h.2.1,fun r q1 q2 q3=>by rw[U r q1];exact h.2.2 r q1 q2 q3⟩) (zfK g (base:=H.next+3) (rn:=H.next+1) (rl:=H.next+2) ac ac ac O) (bH x.body+1) x.body ac 0 (0,0) O ac ac ⟨L,J,fun _ _ _ _=>rfl⟩);rintro v H6 ⟨rfl,hf6,hi6⟩;have hn6:=hf6.next
       have hg6:H6.get H.next=some (.cells x.cells 0 true):=by rw[hi6.2.2 _ ac ac ac];exact V
       dsimp only[aU];repeat' (first
        |(apply aj ?_;clear hK K)|apply aO ?_|(apply cD ?_ ?_<;>(intro hg hgp;try(cases hg;done)))|(apply bp ?_ ?_<;>(intro hb hbp;try(cases hb;done)))|(apply ak fun K hK=>?_)|fail)
       .refine qd ?_;refine aY ?_ (Rv hp (base:=0) (I:=fun _=>True) (fun _ _ _ _=>trivial) (zfL h2w (fun _ _ _ _=>trivial)) x H6 ac ac trivial);rintro v H7 ⟨rfl,hf7,_⟩;have hn7:=hf7.next
        dsimp only[aU];repeat' (first
         |(apply aj ?_;clear hK K)|apply aO ?_|(apply cD ?_ ?_<;>(intro hg hgp;try(cases hg;done)))|(apply bp ?_ ?_<;>(intro hb hbp;try(cases hb;done)))|(apply ak fun K hK=>?_)|fail)
        .all_goals refine qq ?_
         have z:p.funcs.all kZ=false:=by rw[hc,hd];simp_all[kZ]
         simp only[mD,z];simp
        .refine⟨j,?_,eE,eE,?_,ac⟩
         .rw[hc,hd];simp_all[kZ]
         .simp only[kW,Nat.reduceBEq,ji,iT (show i<2^62 by omega)]
       .all_goals refine qq ?_
        have z:p.funcs.all kZ=false:=by rw[hc,hd];simp_all[kZ]
        simp only[mD,z];simp
      .all_goals refine qq ?_
       have C:kZ x=false:=by
        simp only[kZ,vH,kB];first|exact .inl (.inl (.inl iZ))|exact .inl (.inl (.inr iZ))
       have z:p.funcs.all kZ=false:=by rw[hc,hd,C,em]
       simp only[mD,z];simp
      .all_goals refine qq ?_
       have C:kZ x=false:=by
        simp only[kZ,vH,kB];first|exact .inl (.inl (.inl iZ))|exact .inl (.inl (.inr iZ))
       have z:p.funcs.all kZ=false:=by rw[hc,hd,C,em]
       simp only[mD,z];simp
     .all_goals refine qq ?_
      have:i=p.funcs.length:=sB;simp_all[mD];try(intros;omega)
    .exact⟨rfl,eE,eE,eE,ac⟩
  .exact⟨rfl,eE,eE,eE,eE,by simp[aZ,bX],Ba⟩
 .all_goals refine qq ?_
  simp_all[mD];try(intros;omega)
end
section
def tyW4f.tyF:=ad @cA (ad @D1 (@dw))
open tyW4f
noncomputable def RH:{c:SC // aC 21 (f217.body.getD .skip)=c}:=by
 refine⟨?_,?_⟩;rotate_left
 .simp only[f217,bz,aC,bw,bt,bA,bB,Nat.blt,Nat.ble];rfl
noncomputable def RI:{c:SC // aC 9 (f214.body.getD .skip)=c}:=by
 refine⟨?_,?_⟩;rotate_left
 .simp only[f214,bz,aC,bw,bt,bA,bB,Nat.blt,Nat.ble];rfl
noncomputable def RJ:{c:SC // aC 23 (f212.body.getD .skip)=c}:=by
 refine⟨?_,?_⟩;rotate_left
 .simp only[f212,bz,aC,bw,bt,bA,bB,Nat.blt,Nat.ble];rfl
noncomputable def RK:{c:SC // aC 34 (f194.body.getD .skip)=c}:=by
 refine⟨?_,?_⟩;rotate_left
 .simp only[f194,bz,aC,bw,bt,bA,bB,Nat.blt,Nat.ble];rfl
noncomputable def RL:{c:SC // aC 37 (f215.body.getD .skip)=c}:=by
 refine⟨?_,?_⟩;rotate_left
 .simp only[f215,bz,aC,bw,bt,bA,bB,Nat.blt,Nat.ble];rfl
theorem zfT(L:zd0 cfg 217)(n:Int)(H:Hp):aM prog cfg 217 [.int .u8 n] H fun v H'=>v=.bool (rI n)/\H'=H:=by
 refine a0 (M:=21) (rs:=[.tmp 2]) (L.call _) L.aG L.az func217 rfl rfl RH.2 rfl ?_;dsimp only[RH,aW,Nat.reduceAdd];repeat' (first
  |(apply aj ?_;clear hK K)|apply aO ?_|(apply cD ?_ ?_<;>(intro hg hgp;try(cases hg;done)))|(apply ak fun K hK=>?_)|fail)
 all_goals refine qq ?_
 all_goals (refine⟨?_,iN⟩;simp_all[rI]<;>omega)
theorem Ky(L:zd0 cfg 214)(n:Int)(H:Hp):aM prog cfg 214 [.int .u8 n] H fun v H'=>v=.bool (oI n)/\H'=H:=by
 refine a0 (M:=9) (rs:=[.tmp 2]) (L.call _) L.aG L.az func214 rfl rfl RI.2 rfl ?_;dsimp only[RI,aW,Nat.reduceAdd];repeat' (first
  |(apply aj ?_;clear hK K)|apply aO ?_|(apply cD ?_ ?_<;>(intro hg hgp;try(cases hg;done)))|(apply ak fun K hK=>?_)|fail)
 all_goals refine qq ?_
 all_goals (refine⟨?_,iN⟩;simp_all[oI]<;>omega)
theorem zfU(L:zd0 cfg 212)(Y:zd0 cfg 217)(hd:zd0 cfg 214)(s:qx)(U:s.length<2^60)(H:Hp):
 aM prog cfg 212 [.aq s] H fun v H'=>v=.int .i64 (fZ s)/\H'=H:=by
 refine a0 (M:=23) (rs:=[.tmp 2]) (L.call _) L.aG L.az func212 rfl rfl RJ.2 rfl ?_;dsimp only[RJ,aW,Nat.reduceAdd];refine iX ?_;refine sm (fun i E H'=>fZ s=i+fZ (s.drop i)/\E.at 0=.aq s/\E.at 3=.int .i64 i/\H'=H) s.length ?_ ?_
 .rintro i E H' C ⟨hc,I,m,rfl⟩;repeat' (first
   |(apply aj ?_;clear hK K)|apply aO ?_|(apply cD ?_ ?_<;>(intro hg hgp;try(cases hg;done)))|(apply bp ?_ ?_<;>(intro hb hbp;try(cases hb;done)))|(apply ak fun K hK=>?_)|fail)
  .have j:i<s.length:=by omega
   have V:s[i]?=some s[i]:=aL j;have Z:fZ (s.drop i)=if l0 s[i]then fZ (s.drop (i+1))+1 else 0:=by rw[ft j,fZ]
   repeat' (first
    |apply Rx.o ?_|(apply cD ?_ ?_<;>(intro hg hgp;try(cases hg;done)))|fail)
   refine qd ?_;refine aY ?_ (zfT Y s[i].toNat H');rintro v _ ⟨rfl,rfl⟩;dsimp only[aU];repeat' (first
    |(apply aj ?_;clear hK K)|apply aO ?_|(apply cD ?_ ?_<;>(intro hg hgp;try(cases hg;done)))|(apply bp ?_ ?_<;>(intro hb hbp;try(cases hb;done)))|(apply ak fun K hK=>?_)|fail)
   .refine qd ?_;refine aY ?_ (Ky hd s[i].toNat _);rintro v _ ⟨rfl,rfl⟩;dsimp only[aU];repeat' (first
     |(apply aj ?_;clear hK K)|apply aO ?_|(apply cD ?_ ?_<;>(intro hg hgp;try(cases hg;done)))|(apply bp ?_ ?_<;>(intro hb hbp;try(cases hb;done)))|(apply ak fun K hK=>?_)|fail)
    .have J:l0 s[i]=true:=by simp_all[l0]
     refine⟨j,?_,eE,?_,rfl⟩
     .rw[hc,Z,J];simp;omega
     .simp only[kW,Nat.reduceBEq,ji,iT (show i<2^62 by omega)]
    .have J:l0 s[i]=false:=by simp_all[l0]
     all_goals refine qq ?_
     exact⟨by rw[hc,Z,J];simp,iN⟩
   .have J:l0 s[i]=true:=by simp_all[l0]
    refine⟨j,?_,eE,?_,rfl⟩
    .rw[hc,Z,J];simp;omega
    .simp only[kW,Nat.reduceBEq,ji,iT (show i<2^62 by omega)]
  .all_goals refine qq ?_
   have O:i=s.length:=ac;refine⟨?_,iN⟩;rw[hc,O];simp[fZ]
 .exact⟨au,eE,eE,rfl⟩
theorem RM(L:zd0 cfg 194)(s:qx)(hs:s.length<2^60)(H:Hp):
 aM prog cfg 194 [.aq s] H fun v H'=>v=.int .i64 (gG false s)/\H'=H:=by
 refine a0 (M:=34) (rs:=[.tmp 2]) (L.call _) L.aG L.az func194 rfl rfl RK.2 rfl ?_;dsimp only[RK,aW,Nat.reduceAdd];refine iX ?_;refine AY (fun n E H'=>∃i:Nat,n=s.length-i/\i<=s.length/\gG false s=i+gG false (s.drop i)/\E.at 0=.aq s/\E.at 3=.int .i64 i/\H'=H) ?_ (n:=s.length) ?_
 .rintro n E H' ⟨i,rfl,hi,hc,h0,h3,rfl⟩;repeat' (first
   |(apply aj ?_;clear hK K)|apply aO ?_|(apply bp ?_ ?_<;>(intro hb hbp;try(cases hb;done)))|(apply ak fun K hK=>?_)|fail)
  .have U:i<s.length:=by omega
   have hgx:s[i]?=some s[i]:=aL U;have Y:gG false (s.drop i)=if lK s[i]then gG false (s.drop (i+1))+1 else if s[i].toNat=35 then gG true (s.drop (i+1))+1 else 0:=by rw[ft U,gG]
   repeat' (first
    |(apply aj ?_;clear hK K)|apply aO ?_|(apply bp ?_ ?_<;>(intro hb hbp;try(cases hb;done)))|(apply ak fun K hK=>?_)|fail)
   .have Z:lK s[i]=true:=by unfold lK;simp;omega
    refine⟨s.length-(i+1),ac,i+1,rfl,ac,?_,eE,?_,rfl⟩
    .rw[hc,Y,ah Z];omega
    .simp only[kW,Nat.reduceBEq,ji,iT (show i<2^62 by omega)]
   .have Z:lK s[i]=true:=by unfold lK;simp;omega
    refine⟨s.length-(i+1),ac,i+1,rfl,ac,?_,eE,?_,rfl⟩
    .rw[hc,Y,ah Z];omega
    .simp only[kW,Nat.reduceBEq,ji,iT (show i<2^62 by omega)]
   .have Z:lK s[i]=true:=by unfold lK;simp;omega
    refine⟨s.length-(i+1),ac,i+1,rfl,ac,?_,eE,?_,rfl⟩
    .rw[hc,Y,ah Z];omega
    .simp only[kW,Nat.reduceBEq,ji,iT (show i<2^62 by omega)]
   .have Z:lK s[i]=true:=by unfold lK;simp;omega
    refine⟨s.length-(i+1),ac,i+1,rfl,ac,?_,eE,?_,rfl⟩
    .rw[hc,Y,ah Z];omega
    .simp only[kW,Nat.reduceBEq,ji,iT (show i<2^62 by omega)]
   .have I:s[i].toNat=35:=by omega
    have Z:lK s[i]=false:=by unfold lK;simp;omega
    have m:lh (s.drop i)=lh (s.drop (i+1))+1:=by rw[ft U,lh,af ac]
    have O:gG false s=i+lh (s.drop i)+gG false (s.drop (i+lh (s.drop i))):=by
     rw[hc,Y,Z,af au,ah I,Om,Df,m,show i+1+lh (s.drop (i+1))=i+(lh (s.drop (i+1))+1) by omega];omega
    have g:=Ol (s.drop i);rw[kT]at g;refine AY (fun n E z=>∃j:Nat,n=s.length-j/\i<=j/\j<=s.length/\i+lh (s.drop i)=j+lh (s.drop j)/\E.at 0=.aq s/\E.at 3=.int .i64 j/\z=H') ?_ (n:=s.length-i) ?_
    .rintro n E2 H2 ⟨j,rfl,hij,hj,C,k0,k3,rfl⟩;repeat' (first
      |(apply aj ?_;clear hK K)|apply aO ?_|(apply cD ?_ ?_<;>(intro hg hgp;try(cases hg;done)))|(apply bp ?_ ?_<;>(intro hb hbp;try(cases hb;done)))|(apply ak fun K hK=>?_)|fail)
     .have V:j<s.length:=by omega
      have hgx2:s[j]?=some s[j]:=aL V;have J:lh (s.drop j)=if s[j].toNat=10 then 0 else lh (s.drop (j+1))+1:=by rw[ft V,lh]
      repeat' (first
       |(apply aj ?_;clear hK K)|apply aO ?_|(apply cD ?_ ?_<;>(intro hg hgp;try(cases hg;done)))|(apply bp ?_ ?_<;>(intro hb hbp;try(cases hb;done)))|(apply ak fun K hK=>?_)|fail)
      .refine⟨s.length-(j+1),ac,j+1,rfl,ac,ac,?_,eE,?_,rfl⟩
       .rw[C,J,af (by simp_all;omega)];omega
       .simp only[kW,Nat.reduceBEq,ji,iT (show j<2^62 by omega)]
      .have h10:s[j].toNat=10:=by simp_all;omega
       rw[J,ah h10,ve]at C;refine⟨s.length-j,ac,j,rfl,ac,?_,eE,eE,iN⟩;rw[O,C]
     .have hje:j=s.length:=by omega
      have h0j:lh (s.drop j)=0:=by rw[hje];simp[lh]
      rw[h0j,ve]at C;refine⟨s.length-j,ac,j,rfl,ac,?_,eE,eE,iN⟩;rw[O,C]
    .exact⟨i,rfl,ac,ac,rfl,eE,eE,rfl⟩
   .have Z:lK s[i]=false:=by unfold lK;simp;omega
    all_goals refine qq ?_
    refine⟨?_,iN⟩;rw[hc,Y,Z,af au,af ac];simp
  .all_goals refine qq ?_
   have hie:i=s.length:=ac;refine⟨?_,iN⟩;rw[hc,hie];simp[gG]
 .exact⟨0,au,ac,au,eE,eE,rfl⟩
end
section
def tyW4g.tyF:=ad @cA (ad @dw (ad @vu (ad @I2 (ad @I4 (ad @D8 (ad @D1 (ad @zcc (ad @Y5 (ad @IM (@underlying9))))))))))
open tyW4g
noncomputable def RN:{c:SC // aC 35 (f213.body.getD .skip)=c}:=by
 refine⟨?_,?_⟩;rotate_left
 .simp only[f213,bz,aC,bw,bt,bA,bB,Nat.blt,Nat.ble];rfl
noncomputable def RO:{c:SC // aC 41 (f195.body.getD .skip)=c}:=by
 refine⟨?_,?_⟩;rotate_left
 .simp only[f195,bz,aC,bw,bt,bA,bB,Nat.blt,Nat.ble];rfl
noncomputable def RP:{c:SC // aC 49 (f162.body.getD .skip)=c}:=by
 refine⟨?_,?_⟩;rotate_left
 .simp only[f162,bz,aC,bw,bt,bA,bB,Nat.blt,Nat.ble];rfl
def zfV(L:zd0 cfg 215)(hd:zd0 cfg 214)(s:qx)(U:s≠[])(V:s.length<2^60)(H:Hp):
 aM prog cfg 215 [.aq s] H fun v H'=>(∃b,v=.bool b)/\H'=H:=by
 have C:0<s.length:=tq.2 U;have Z:s[0]?=some s[0]:=aL C;refine a0 (M:=37) (rs:=[.tmp 2]) (L.call _) L.aG L.az func215 rfl rfl RL.2 rfl ?_;dsimp only[RL,aW,Nat.reduceAdd];refine iX ?_;refine sm (fun i E H'=>E.at 0=.aq s/\E.at 3=.int .i64 i/\H'=H) s.length ?_ ?_
 .rintro i E H' O ⟨k0,J,rfl⟩;repeat' (first
   |(apply aj ?_;clear hK K)|apply aO ?_|(apply bp ?_ ?_<;>(intro hb hbp;try(cases hb;done)))|(apply ak fun K hK=>?_)|fail)
  .have j:i<s.length:=by omega
   have Y:s[i]?=some s[i]:=aL j;refine lQ ?_;refine qd ?_;refine aY ?_ (Ky hd s[i].toNat H');rintro v _ ⟨rfl,rfl⟩;dsimp only[aU];refine nM (fun hb hbp=>?_) (fun hb hbp=>?_)
   .all_goals refine qq ?_
    exact⟨⟨_,rfl⟩,iN⟩
   .refine⟨j,eE,?_,iN⟩;simp only[kW,Nat.reduceBEq,ji,iT (show i<2^62 by omega)]
  .repeat' (first
    |(apply aj ?_;clear hK K)|apply aQ ?_|(apply bT ?_ ?_<;>(intro hg hgp;try(cases hg;done)))|fail)
   all_goals refine qq ?_
   all_goals exact⟨⟨_,rfl⟩,iN⟩
 .exact⟨eE,eE,rfl⟩
def zfW:qw:=[[62,62,62],[60,60],[62,62],[60,61],[62,61],[61,61],[33,61]]
def zfX(L:zd0 cfg 213)(hplan:∀id,cfg.bU 213 id=.text)(s:qx)(O:s≠[])(g:s.length<2^60)(H:Hp):
 aM prog cfg 213 [.aq s] H fun v H'=>(∃n:Nat,v=.int .i64 n/\n<=s.length)/\H'=H:=by
 have C:0<s.length:=tq.2 O;have z:s[0]?=some s[0]:=aL C;have U:dU prog 255 [(0,.aq [62,62,62]),(1,.aq [60,60]),(2,.aq [62,62]),(3,.aq [60,61]),(4,.aq [62,61]),(5,.aq [61,61]),(6,.aq [33,61])]=some (.agg [.aq [62,62,62],.aq [60,60],.aq [62,62],.aq [60,61],.aq [62,61],.aq [61,61],.aq [33,61]]):=aB;refine a0 (M:=35) (rs:=[.tmp 2]) (L.call _) L.aG L.az func213 rfl rfl RN.2 rfl ?_;dsimp only[RN,aW,Nat.reduceAdd];refine iX ?_;refine sm (fun i E H'=>E.at 0=.aq s/\E.at 6=.agg [.aq [62,62,62],.aq [60,60],.aq [62,62],.aq [60,61],.aq [62,61],.aq [61,61],.aq [33,61]]/\E.at 7=.int .i64 i/\H'=H) 7 ?_ ?_
 .rintro i E H' hi ⟨k0,k6,k7,rfl⟩;repeat' (first
   |(apply aj ?_;clear hK K)|apply aO ?_|(apply bp ?_ ?_<;>(intro hb hbp;try(cases hb;done)))|(apply ak fun K hK=>?_)|fail)
  .have Z:i<7:=by omega
   have Y:∃w:qx,sc prog 255 (.agg [.aq [62,62,62],.aq [60,60],.aq [62,62],.aq [60,61],.aq [62,61],.aq [61,61],.aq [33,61]]) (.int .i64 i)=some (.aq w):=by
    refine⟨zfW.getD i [],?_⟩;rcases(show i=0\/i=1\/i=2\/i=3\/i=4\/i=5\/i=6 by omega)with rfl|rfl|rfl|rfl|rfl|rfl|rfl<;>kernel_rfl
   obtain⟨w,J⟩:=Y;repeat' (first
    |(apply aj ?_;clear hK K)|apply aO ?_|(apply cD ?_ ?_<;>(intro hg hgp;try(cases hg;done)))|(apply bp ?_ ?_<;>(intro hb hbp;try(cases hb;done)))|(apply ak fun K hK=>?_)|fail)
   .have V:w.length<=s.length:=by omega
    repeat' (first
     |(apply aj ?_;clear hK K)|apply aO ?_|(apply cD ?_ ?_<;>(intro hg hgp;try(cases hg;done)))|(apply bp ?_ ?_<;>(intro hb hbp;try(cases hb;done)))|(apply ak fun K hK=>?_)|fail)
    .all_goals refine qq ?_
     exact⟨⟨w.length,rfl,V⟩,iN⟩
    .refine⟨Z,eE,eE,?_,iN⟩;simp only[kW,Nat.reduceBEq,ji,iT (show i<2^62 by omega)]
   .refine⟨Z,eE,eE,?_,iN⟩;simp only[kW,Nat.reduceBEq,ji,iT (show i<2^62 by omega)]
  .refine lQ ?_;refine sm (fun i E I=>E.at 0=.aq s/\E.at 5=.int .i64 i/\I=H') 23 ?_ ?_
   .rintro j E I hj ⟨k0,k5,rfl⟩;repeat' (first
     |(apply aj ?_;clear hK K)|apply aO ?_|(apply bp ?_ ?_<;>(intro hb hbp;try(cases hb;done)))|(apply ak fun K hK=>?_)|(apply Bb 10 fun K hK=>?_)|fail)
    .have Z:j<23:=by omega
     have m:∃b,([43,45,42,47,37,38,124,94,126,33,60,62,61,63,58,59,44,40,41,123,125,91,93]:qx)[j]?=some b:=by
      rw[aL ub];exact⟨_,rfl⟩
     obtain⟨b,m⟩:=m;refine LW (fun hb hbp=>?_) (fun hb hbp=>?_)
     .all_goals refine qq ?_
      exact⟨⟨1,rfl,C⟩,iN⟩
     .refine⟨Z,eE,?_,iN⟩;simp only[kW,Nat.reduceBEq,ji,iT (show j<2^62 by omega)]
    .all_goals refine qq ?_
     exact⟨⟨0,rfl,de _⟩,iN⟩
   .exact⟨eE,eE,rfl⟩
 .exact⟨eE,eE,eE,rfl⟩
end
section
def tyW4h.tyF:=ad @cA (ad @dw (ad @D8 (ad @IM (@underlying9))))
open tyW4h
structure zd8 (cfg:Cfg):Prop where
 let_:zd0 cfg 217
 dig:zd0 cfg 214
 eh:zd0 cfg 212
 dV:zd0 cfg 194
 num:zd0 cfg 215
 cr:zd0 cfg 213
 dn:zd0 cfg 195
 scan:zd0 cfg 162
 bU:∀id,cfg.bU 213 id=.text
 keep:cfg.keep 162=false
def FW(a:Int)(x:qx):dU prog 178 [(0,.int .i64 a),(1,.aq x)]=some (.agg [.int .i64 a,.aq x,.int .i64 0]):=aB
def FX:dU prog 178 []=some (.agg [.int .i64 0,.aq [],.int .i64 0]):=aB
theorem zy(a b c:AV):cI 3 [a,b,c]=some (.agg [a,b,c]):=rfl
def x7(H:Hp)(a b:HB):FrB 0 H ((H.alloc a).set H.next b):=((jS _ _).alloc _).set (.inl (aH _)) _
theorem zfY(z:zd8 cfg)(s:qx)(J:s≠[])(I:s.length<2^60)(H:Hp):
 aM prog cfg 195 [.aq s] H fun v H'=>(∃k e,v=.aX [.agg k.cells,.int .i64 e]/\On s k e)/\FrB 0 H H':=by
 have L:=z.dn
 have C:0<s.length:=tq.2 J;have U:s[0]?=some s[0]:=aL C;have i:=Ok s;refine a0 (M:=41) (rs:=[.cell 2 178,.tmp 3]) (L.call _) L.aG L.az func195 rfl rfl RO.2 rfl ?_;dsimp only[RO,aW,Nat.reduceAdd];refine dY fun K hK=>?_;refine qd ?_;refine aY ?_ (zfU z.eh z.let_ z.dig s I _);rintro v _ ⟨rfl,rfl⟩;dsimp only[aU];have Z:=@FW;have O:=@FX;repeat' (first
  |(apply aj ?_;clear hK K)|apply aQ ?_|(apply aV ?_ ?_<;>(intro hb hbp;try(cases hb;done)))|(apply ak fun K hK=>?_)|fail)
 .refine qd ?_;refine aY ?_ (zfX z.cr z.bU s J I _);rintro v _ ⟨⟨n,rfl,j⟩,rfl⟩;dsimp only[aU];have Z:=@FW;have O:=@FX;refine Hm (fun hb hbp=>?_) (fun hb hbp=>?_)
  .refine⟨aq,_,(by(try simp only[aG,aR,Nat.reduceBEq,tyF,cL,cY,zy, *]);first|done|with_reducible rfl),?_⟩;try simp only[am]
   exact⟨⟨⟨0,[],0⟩,2,rfl,rfl,au,fun Y=>ac⟩,x7 _ _ _⟩
  .refine⟨aq,_,(by(try simp only[aG,aR,Nat.reduceBEq,tyF,cL,cY,zy, *]);first|done|with_reducible rfl),?_⟩;try simp only[am]
   refine⟨⟨⟨3,s.take n,0⟩,0,rfl,rfl,fun _=>⟨n,ac,j,rfl,au⟩,fun Y=>ac⟩,x7 _ _ _⟩
 .refine qd ?_;refine aY ?_ (Ky z.dig s[0].toNat _);rintro v _ ⟨rfl,rfl⟩;dsimp only[aU];have hsl:=IM (P:=prog) (k:=.i64) (s:=s) underlying9 i;have Z:=@FW;have O:=@FX;repeat' (first
   |(apply aj ?_;clear hK K)|apply aO ?_|(apply bp ?_ ?_<;>(intro hb hbp;try(cases hb;done)))|(apply ak fun K hK=>?_)|fail)
  .have V:s.take (fZ s)≠[]:=by
    intro h;have:=kV List.length h;rw[mP,Nat.min_eq_left i,ik]at this;omega
   refine qd ?_;refine aY ?_ (zfV z.num z.dig (s.take (fZ s)) V td _);rintro v _ ⟨⟨ok,rfl⟩,rfl⟩;dsimp only[aU];have Z:=@FW;have O:=@FX;refine Hm (fun hb hbp=>?_) (fun hb hbp=>?_)
   .refine⟨aq,_,(by(try simp only[aG,aR,Nat.reduceBEq,tyF,cL,cY,zy, *]);first|done|with_reducible rfl),?_⟩;try simp only[am]
    refine⟨⟨⟨0,[],0⟩,2,rfl,rfl,au,fun Y g m=>?_⟩,x7 _ _ _⟩;have:=m _ U;simp_all
   .refine⟨aq,_,(by(try simp only[aG,aR,Nat.reduceBEq,tyF,cL,cY,zy, *]);first|done|with_reducible rfl),?_⟩;try simp only[am]
    refine⟨⟨⟨2,s.take (fZ s),0⟩,0,rfl,rfl,fun _=>⟨fZ s,ac,i,rfl,au⟩,fun Y g m=>?_⟩,x7 _ _ _⟩;have:=m _ U;simp_all
  .refine⟨aq,_,(by(try simp only[aG,aR,Nat.reduceBEq,tyF,cL,cY,zy, *]);first|done|with_reducible rfl),?_⟩;try simp only[am]
   exact⟨⟨⟨0,[],0⟩,6,rfl,rfl,au,fun Y g=>ac⟩,x7 _ _ _⟩
  .refine⟨aq,_,(by(try simp only[aG,aR,Nat.reduceBEq,tyF,cL,cY,zy, *]);first|done|with_reducible rfl),?_⟩;try simp only[am]
   refine⟨⟨⟨1,s.take (fZ s),0⟩,0,rfl,rfl,fun _=>⟨fZ s,ac,i,rfl,fun _=>⟨rfl,ac,fun b hb=>?_⟩⟩,fun _ _ _=>⟨rfl,rfl⟩⟩,x7 _ _ _⟩;rw[U]at hb;simp only[aI]at hb;subst hb;assumption
end
section
def tyW4i.tyF:=ad @cA (ad @dw (ad @vu (ad @I2 (ad @I4 (@D8)))))
open tyW4i
def RQ(a b:Int):dU prog 87 [(0,.int .i64 a),(1,.int .i64 b)]=some (.agg [.int .i64 a,.int .i64 b]):=aB
def RR:dU prog 87 []=some (.agg [.int .i64 0,.int .i64 0]):=aB
theorem Kz(a b:AV):cI 2 [a,b]=some (.agg [a,b]):=rfl
theorem zfZ(k:Tk)(x:Int):List.take 2 k.cells++[.int .i64 x]++List.drop 3 k.cells=(Tk.mk k.aw k.text x).cells:=rfl
def zga(H:Hp)(k:Tk):et prog H 128 1 [(0,.agg k.cells)]=some (.sl H.next 0 1 3,H.alloc (.cells k.cells 0 true)):=aB
theorem zgb{bM H:Hp}{U:AV}{I:List Tk}(Z:yX bM.next H U I)(C:FrB 0 bM H)(L:bM.next<H.next)(k:Tk){Y:Nat}(hg:H.get Y=some (.cells k.cells 0 true))(hb:I.length<2^40):
 ∃m,cX prog false H 128 128 U (.sl Y 0 1 3)=some (.sl H.next 0 (I.length+1) 3,m)/\m.next=H.next+1/\yX bM.next m (.sl H.next 0 (I.length+1) 3) (I++[k])/\FrB 0 bM m/\∀j,j<H.next->U≠.sl j 0 I.length 3->m.get j=H.get j:=by
 have V:eQ H 3 (.sl Y 0 1 3)=some (0+1,k.cells):=by
  have:=pq (H:=H) (r:=Y) (o:=0) (n:=1) (z:=3) (s:=3) hg (by rw[eS,mP,Tk.bh];rfl);rw[this,eS,fI (by rw[Tk.bh];omega)]
 have O:dL=70368744177664:=rfl;rcases Z with⟨rfl,rfl⟩|⟨r,rfl,q2,g,q4,q5⟩
 .refine⟨H.alloc (.cells k.cells 0 true),?_,rfl,.inr ⟨H.next,au,?_,L,cC _,au⟩,C.alloc _,fun j i _=>?_⟩
  .exact append_nil underlying128 D7 I8 I9 aB V k.one rfl oC oC
  .rw[aD,ah rfl];simp
  .rw[aD,af ac]
 .refine⟨(H.aR r).alloc (.cells (I.flatMap Tk.cells++k.cells) 0 true),?_,rfl,.inr ⟨H.next,au,?_,L,cC _,au⟩,(C.aR ac).alloc _,fun j i M=>?_⟩
  .exact xf underlying128 D7 I8 I9 aB V k.one rfl q2 (Oo I) oC oC
  .show((H.aR r).alloc _).get (H.aR r).next=_
   rw[aD,ah rfl];simp
  .have J:¬j=r:=fun e=>M nQ;rw[aD,af nh,gN,af J]
def zgc(s:qx)(H:Hp)(v:AV)(H':Hp):Prop:=
 ∃(I m:Int) (lv:AV),v=.aX [lv,.agg [.int .i64 I,.int .i64 m]]/\FrB 0 H H'/\((I≠0/\¬vC s)\/(I=0/\∃ts,yX H.next H' lv ts/\El s ts/\(vC s->ts=[⟨1,s,0⟩])))
abbrev qr:HB:=.cells [.int .i64 0,.int .i64 0] 0 true
theorem zgd(hx:zd8 cfg)(s:qx)(hs:s.length<2^60)(H:Hp):aM prog cfg 162 [.aq s] H (zgc s H):=by
 have hw:=hx.scan;refine a0 (M:=49) (rs:=[.tmp 2,.cell 3 87]) (hw.call _) hw.aG hw.az func162 rfl rfl RP.2 rfl ?_;dsimp only[RP,aW,Nat.reduceAdd];have gh0:=@RQ;have gh1:=@RR;repeat' (first
  |(apply aj ?_;clear hK K)|apply aO ?_|(apply bp ?_ ?_<;>(intro hb hbp;try(cases hb;done)))|(apply ak fun K hK=>?_)|fail)
 .refine⟨aq,_,(by(try simp only[aG,aR,Nat.reduceBEq,tyF,cL,cY,Kz, *]);first|done|with_reducible rfl),?_⟩;try simp only[am]
  refine⟨6,20000,.ak,rfl,x7 _ _ _,.inl ⟨au,fun h=>?_⟩⟩;have:=h.2.2.1;omega
 .refine qd ?_;refine aY ?_ (RM hx.dV s hs _);rintro v _ ⟨rfl,rfl⟩;dsimp only[aU];refine eh ?_;have hsp:=yW false s;refine AY (fun n E L=>∃(Z:Nat) (ts:List Tk) (lv:AV),n=s.length-Z/\Z<=s.length/\E.at 0=.aq s/\E.at 3=.ptr H.next 0/\E.at 4=lv/\E.at 5=.int .i64 Z/\FrB 0 H L/\H.next<L.next /\
   L.get H.next=some qr/\yX H.next L lv ts/\ts.length<=Z/\El s ts/\(ts=[]->Z=gG false s)/\(vC s->(ts=[]/\Z=0)\/(ts=[⟨1,s,0⟩]/\Z=s.length))) ?_ (n:=s.length-gG false s) ?_
  .rintro n E L ⟨Z,ts,lv,rfl,ha,h0,h3,h4,h5,C,hn2,hg2,U,htl,J,V,j⟩;have e1:(H.next == L.next)=false:=bW;repeat' (first
    |(apply aj ?_;clear hK K)|apply aO ?_|(apply bp ?_ ?_<;>(intro hb hbp;try(cases hb;done)))|(apply ak fun K hK=>?_)|fail)
   .have hlt:Z<s.length:=by omega
    have hslo:=Nu (P:=prog) (k:=.i64) (s:=s) (m:=Z) underlying9 ha;refine eh ?_;have hne:s.drop Z≠[]:=by
     intro h;have:=kV List.length h;rw[kT,ik]at this;omega
    refine qd ?_;refine aY ?_ (zfY hx (s.drop Z) hne AH L);rintro v O ⟨⟨k,e,rfl,hk⟩,Y⟩;have hn3:=Y.next
    have hg3:O.get H.next=some qr:=by rw[Y.get _ (de _) hn2];exact hg2
    have g:yX H.next O lv ts:=by
     rcases U with h|⟨r,q1,q2,q3,q4,q5⟩
     .exact .inl h
     .exact .inr ⟨r,q1,by rw[Y.get _ (de _) q4];exact q2,q3,ac,q5⟩
    have e2:(H.next == O.next)=false:=bW;dsimp only[aU];have hx1:Ab.extract (.aX [.agg k.cells,.int .i64 e]) 0=some (.agg k.cells):=rfl;have hx2:Ab.extract (.aX [.agg k.cells,.int .i64 e]) 1=some (.int .i64 e):=rfl;have gh0:=@RQ;repeat' (first
     |(apply aj ?_;clear hK K)|apply aO ?_|(apply bp ?_ ?_<;>(intro hb hbp;try(cases hb;done)))|(apply ak fun K hK=>?_)|fail)
    .have he:e≠0:=by simpa using hb
     refine⟨aq,_,(by(try simp only[aG,aR,Nat.reduceBEq,tyF,cL,cY,Kz, *]);first|done|with_reducible rfl),?_⟩;try simp only[am]
     refine⟨e,Z,.ak,rfl,?_,.inl ⟨he,fun h=>?_⟩⟩
     .exact((((C.trans Y).alloc _).set (.inl ac) _).set (.inl (aH _)) _)
     .rcases j h with⟨_,q⟩|⟨_,q⟩
      .subst q;exact he (hk.2.2 h.1 RE h.2.2.2).1
      .omega
    .have he:e=0:=by simpa using hb
     have gh0:=@zfZ;have gh1:=@zga;refine eh ?_;generalize z:Tk.mk k.aw k.text (Z:Int)=k';generalize I:Hp.alloc _ (HB.cells (Tk.cells k') 0 true)=H5;have hn5:H5.next=O.next+2:=by rw[<-I];rfl
     have hg5:H5.get (O.next+1)=some (.cells k'.cells 0 true):=by rw[<-I];simp only[get_set,xd,aZ,br,IJ,FG,ji,rz]
     have hg5a:H5.get O.next=some (.cells k'.cells 0 true):=by rw[<-I];simp only[get_set,xd,aZ,br,II,FG,ji,rz]
     have hf5:FrB 0 O H5:=by rw[<-I];exact(((jS _ _).alloc _).set (.inl (aH _)) _).set (.inl (aH _)) _ |>.alloc _
     have hF5:FrB 0 H H5:=(C.trans Y).trans hf5;have hrep5:yX H.next H5 lv ts:=by
      rcases g with h|⟨r,q1,q2,q3,q4,q5⟩
      .exact .inl h
      .exact .inr ⟨r,q1,by rw[hf5.get _ (de _) q4];exact q2,q3,ac,q5⟩
     obtain⟨H6,p1,p2,p3,p4,p5⟩:=zgb hrep5 hF5 ac k' hg5 ac;have hkeep:=hx.keep;have hg6:H6.get H.next=some qr:=by
      rw[p5 _ ac (fun e=>by rcases g with⟨_,q⟩|⟨r,q1,_,q3,_⟩<;>simp_all),hf5.get _ (de _) ac];exact hg3
     have hg6a:H6.get O.next=some (.cells k'.cells 0 true):=by
      rw[p5 _ ac (fun e=>by rcases g with⟨_,q⟩|⟨r,q1,_,q3,q4,_⟩<;>simp_all)];exact hg5a
     obtain⟨n,hn1,hn2',hkt,hkk⟩:=hk.2.1 he;rw[kT]at hn2';have hktl:k'.text.length=n:=by rw[<-z];show k.text.length=n;rw[hkt,mP,kT];omega
     have hwr:IntKind.wrap .i64 ((Z:Int)+(n:Int))=((Z+n:Nat):Int):=Et;have hslo2:=Nu (P:=prog) (k:=.i64) (s:=s) (m:=Z+n) underlying9 ac;refine jP cV cV (by rw[hkeep];exact p1) ?_;refine dY fun K hK=>?_;refine qd ?_;refine aY ?_ (RM hx.dV (s.drop (Z+n)) AH _);rintro v _ ⟨rfl,rfl⟩;dsimp only[aU];have hsp2:=yW false (s.drop (Z+n));rw[kT]at hsp2;have hwr2:IntKind.wrap .i64 (((Z+n:Nat):Int)+(gG false (s.drop (Z+n)):Int))=((Z+n+gG false (s.drop (Z+n)):Nat):Int):=Et;refine eh ?_;refine⟨s.length-(Z+n+gG false (s.drop (Z+n))),ac,Z+n+gG false (s.drop (Z+n)),ts++[k'],.sl H5.next 0 (ts.length+1) 3,rfl,ac,eE,eE,eE,(by first|(simp only[aG,Nat.reduceBEq,ki, *];done)|rfl),p4,ac,hg6,p3,bW,fun t rest hr=>?_,au,fun h=>.inr ?_⟩
     .cases ts with
      |nil=>
       simp only[nN,dN]at hr;obtain⟨rfl,_⟩:=hr;rw[<-V rfl];exact⟨k,by rw[<-he];exact hk,by rw[<-z],by rw[<-z]⟩
      |cons t0 ts=>
       simp only[vz,dN]at hr;obtain⟨rfl,_⟩:=hr;exact J _ _ rfl
     .rcases j h with⟨rfl,q⟩|⟨_,q⟩
      .subst q;have i:=(hk.2.2 h.1 RE h.2.2.2).2;simp only[eS]at i hkt;have hwn:fZ s=s.length:=h.2.1;rw[hwn,AA]at i;have hns:n=s.length:=by
        have:=kV List.length hkt;rw[i,mP]at this;have h3:s.length=min n s.length:=this;omega
       have hkk2:k'=⟨1,s,0⟩:=by rw[<-z,i];rfl
       refine⟨by rw[hkk2];rfl,?_⟩;rw[hns];simp[gG]
      .omega
   .have hat:Z=s.length:=by omega
    have gh0:=@RR;refine eh ?_;refine⟨aq,_,(by(try simp only[aG,aR,Nat.reduceBEq,tyF,cL,cY,Kz, *]);first|done|with_reducible rfl),?_⟩;try simp only[am]
    refine⟨0,0,lv,rfl,C.set (.inl (aH _)) _,.inr ⟨rfl,ts,?_,J,fun h=>?_⟩⟩
    .rcases U with h|⟨r,q1,q2,q3,q4,q5⟩
     .exact .inl h
     .exact .inr ⟨r,q1,by rw[aA,af ac];exact q2,q3,q4,q5⟩
    .rcases j h with⟨_,q⟩|⟨q,_⟩
     .have:=h.1;have:=h.2.1;omega
     .exact q
  .refine⟨gG false s,[],.ak,rfl,hsp,eE,eE,eE,eE,(jS _ _).alloc _,dG,Ba,.inl ⟨rfl,rfl⟩,au,by simp[El],fun _=>rfl,fun h=>.inl ⟨rfl,zcm h⟩⟩
end
section
def tyW4j.tyF:=ad @cA (ad @dw (ad @vu (ad @I2 (ad @I4 (ad @D8 (ad @fU (ad @List.flatMap_cons.{0,0} (ad @List.flatMap_nil.{0,0} (@te)))))))))
open tyW4j
noncomputable def RS:{c:SC // aC 44 (f117.body.getD .skip)=c}:=by
 refine⟨?_,?_⟩;rotate_left
 .simp only[f117,bz,aC,bw,bt,bA,bB,Nat.blt,Nat.ble];rfl
noncomputable def RT:{c:SC // aC 15 (f118.body.getD .skip)=c}:=by
 refine⟨?_,?_⟩;rotate_left
 .simp only[f118,bz,aC,bw,bt,bA,bB,Nat.blt,Nat.ble];rfl
theorem KA(hx:zd8 cfg)(C:zd0 cfg 117)(s:qx)(hs:s.length<2^60)(H:Hp):
 aM prog cfg 117 [.aq s] H fun v H'=>v=.bool (ci s)/\FrB 0 H H':=by
 refine a0 (M:=44) (rs:=[.tmp 2]) (C.call _) C.aG C.az func117 rfl rfl RS.2 rfl ?_;dsimp only[RS,aW,Nat.reduceAdd];refine dY fun K hK=>?_;refine qd ?_;refine aY ?_ (zgd hx s hs H);rintro v i ⟨I,m,lv,rfl,V,Y⟩;have z:Ab.extract (.aX [lv,.agg [.int .i64 I,.int .i64 m]]) 0=some lv:=rfl;have g:Ab.extract (.aX [lv,.agg [.int .i64 I,.int .i64 m]]) 1=some (.agg [.int .i64 I,.int .i64 m]):=rfl;dsimp only[aU];have Z:FrB 0 H ((i.alloc qr).set i.next (.cells [.int .i64 I,.int .i64 m] 0 true)):=(V.alloc _).set (.inl V.next) _;rcases Y with⟨h1,h2⟩|⟨rfl,ts,L,J,O⟩
 .have j:mE s=false:=by
   cases hb:mE s with
   |false=>rfl
   |true=>exact(h2 ((Em s).1 hb)).elim
  repeat' (first
   |(apply aj ?_;clear hK K)|apply aO ?_|(apply cD ?_ ?_<;>(intro hg hgp;try(cases hg;done)))|(apply bp ?_ ?_<;>(intro hb hbp;try(cases hb;done)))|(apply ak fun K hK=>?_)|fail)
  all_goals refine qq ?_
  exact⟨Kw,Z⟩
 .rcases L with⟨rfl,rfl⟩|⟨r,rfl,q2,q3,q4,q5⟩
  .have j:mE s=false:=by
    cases hb:mE s with
    |false=>rfl
    |true=>have:=O ((Em s).1 hb);simp at this
   repeat' (first
    |(apply aj ?_;clear hK K)|apply aO ?_|(apply cD ?_ ?_<;>(intro hg hgp;try(cases hg;done)))|(apply bp ?_ ?_<;>(intro hb hbp;try(cases hb;done)))|(apply ak fun K hK=>?_)|fail)
   all_goals refine qq ?_
   exact⟨Kw,Z⟩
  .have e1:(r == i.next)=false:=by simp;omega
   by_cases hl:ts.length=1
   .obtain⟨k,rfl⟩:=List.length_eq_one_iff.1 hl;simp only[xo,O9,bm]at q2;simp only[oF,bK]at z g⊢;have U:vC s↔(k.aw=1/\k.text=s):=⟨fun h=>by have:=O h;simp only[dN,aN]at this;rw[this];exact⟨rfl,rfl⟩,fun h=>zcn J h.1 h.2⟩;have j:mE s=(decide (k.aw=1)&&decide (k.text=s)):=by
     rw[As,Em,U];simp
    clear U O J;have hidx:ej prog 128 (.sl r 0 1 3) (.int .i64 0)=some (.ptr r 0):=aB;repeat' (first
     |(apply aj ?_;clear hK K)|apply aQ ?_|(apply bT ?_ ?_<;>(intro hg hgp;try(cases hg;done)))|(apply aV ?_ ?_<;>(intro hb hbp;try(cases hb;done)))|(apply ak fun K hK=>?_)|fail)
    all_goals refine qq ?_
    all_goals (refine⟨?_,Z⟩;simp only[ci,j,vD];simp_all)
   .have j:mE s=false:=by
     cases hb:mE s with
     |false=>rfl
     |true=>have:=O ((Em s).1 hb);rw[this]at hl;simp at hl
    have hl2:decide ((ts.length:Int)=1)=false:=bW;refine eP ?_;all_goals refine qq ?_
    exact⟨Kw,Z⟩
end
section
def tyW4k.tyF:=ad @cA (ad @dw (ad @fU (ad @ec (ad @fM (@fb)))))
open tyW4k
noncomputable def RU:{c:SC // aC 23 (f163.body.getD .skip)=c}:=by
 refine⟨?_,?_⟩;rotate_left
 .simp only[f163,bz,aC,bw,bt,bA,bB,Nat.blt,Nat.ble];rfl
noncomputable def RV:{c:SC // aC 27 (f196.body.getD .skip)=c}:=by
 refine⟨?_,?_⟩;rotate_left
 .simp only[f196,bz,aC,bw,bt,bA,bB,Nat.blt,Nat.ble];rfl
noncomputable def FY:{c:SC // aC 10 (f165.body.getD .skip)=c}:=by
 refine⟨?_,?_⟩;rotate_left
 .simp only[f165,bz,aC,bw,bt,bA,bB,Nat.blt,Nat.ble];rfl
def wl(k kids:Int):Bool:=if k=20\/k=21 then decide (kids=1)else decide (4<=k)&&decide (k<=18)&&decide (kids=2)
theorem zge(L:zd0 cfg 163)(k kids:Int)(H:Hp):
 aM prog cfg 163 [.int .i64 k,.int .i64 kids] H fun v H'=>v=.bool (wl k kids)/\H'=H:=by
 refine a0 (M:=23) (rs:=[.tmp 4]) (L.call _) L.aG L.az func163 rfl rfl RU.2 rfl ?_;dsimp only[RU,aW,Nat.reduceAdd];repeat' (first
  |(apply aj ?_;clear hK K)|apply aO ?_|(apply cD ?_ ?_<;>(intro hg hgp;try(cases hg;done)))|(apply bp ?_ ?_<;>(intro hb hbp;try(cases hb;done)))|(apply ak fun K hK=>?_)|fail)
 all_goals
  all_goals refine qq ?_
 all_goals (refine⟨?_,iN⟩;simp_all[wl]<;>omega)
theorem zgf(L:zd0 cfg 196)(x:Ex)(H:Hp):
 aM prog cfg 196 [.agg x.cells] H fun v H'=>v=.bool (zeroE x)/\FrB 0 H H':=by
 refine a0 (M:=27) (rs:=[.tmp 2]) (L.call _) L.aG L.az func196 rfl rfl RV.2 rfl ?_;dsimp only[RV,aW,Nat.reduceAdd];repeat' (first
  |(apply aj ?_;clear hK K)|apply aO ?_|(apply cD ?_ ?_<;>(intro hg hgp;try(cases hg;done)))|(apply ak fun K hK=>?_)|fail)
 all_goals
  all_goals refine qq ?_
 all_goals (refine⟨?_,(jS _ _).alloc _⟩;simp_all[zeroE])
def oX(s:qx)(Y:Bool):Bool:=if Y then ci s else decide (s=[])
def zgg(z:zd8 cfg)(Z:zd0 cfg 117)(L:zd0 cfg 165)(s:qx)(Y:Bool)(U:s.length<2^60)(H:Hp):
 aM prog cfg 165 [.aq s,.bool Y] H fun v H'=>v=.bool (oX s Y)/\FrB 0 H H':=by
 cases Y
 .refine a0 (M:=10) (rs:=[.tmp 4]) (L.call _) L.aG L.az func165 rfl rfl FY.2 rfl ?_;dsimp only[FY,aW,Nat.reduceAdd];refine lQ ?_;all_goals refine qq ?_
  exact⟨by simp[oX],jS _ _⟩
 .refine a0 (M:=10) (rs:=[.tmp 4]) (L.call _) L.aG L.az func165 rfl rfl FY.2 rfl ?_;dsimp only[FY,aW,Nat.reduceAdd];refine zY fun K hK=>?_;refine qd ?_;refine aY ?_ (KA z Z s U H);rintro v i ⟨rfl,V⟩;dsimp only[aU];refine lQ ?_;all_goals refine qq ?_
  exact⟨by simp[oX],V⟩
theorem zgh(z:zd8 cfg)(U:zd0 cfg 117)(L:zd0 cfg 118)(l:qw)(g:dB l<2^60)(H:Hp):
 aM prog cfg 118 [cZ l] H fun v H'=>v=.bool (l.all ci)/\FrB 0 H H':=by
 have hl:l.length<2^60:=by have:=jR l;omega
 refine a0 (M:=15) (rs:=[.tmp 2]) (L.call _) L.aG L.az func118 rfl rfl RT.2 rfl ?_;dsimp only[RT,aW,Nat.reduceAdd];refine iX ?_;refine sm (fun i E Y=>l.all ci=(l.drop i).all ci/\E.at 5=.aE (l.map fun s=>[.aq s])/\E.at 6=.int .i64 l.length/\E.at 7=.int .i64 i/\FrB 0 H Y) l.length ?_ ?_
 .rintro i E Y I ⟨hc,h5,h6,h7,V⟩;repeat' (first
   |(apply aj ?_;clear hK K)|apply aO ?_|(apply bp ?_ ?_<;>(intro hb hbp;try(cases hb;done)))|(apply ak fun K hK=>?_)|fail)
  .have j:i<l.length:=by simpa using hb
   have C:l[i]?=some l[i]:=aL j;have m:=Eh (cB j);have Z:(l.drop i).all ci=(ci l[i]&&(l.drop (i+1)).all ci):=BU;refine zY fun K hK=>?_;refine qd ?_;refine aY ?_ (KA z U l[i] ac Y);rintro v H3 ⟨rfl,J⟩;dsimp only[aU];refine nM (fun hb hbp=>?_) (fun hb hbp=>?_)
   .all_goals refine qq ?_
    exact⟨by rw[hc,Z];simp_all,V.trans J⟩
   .refine⟨j,by rw[hc,Z];simp_all,eE,eE,?_,V.trans J⟩;simp only[kW,Nat.reduceBEq,ji,iT (show i<2^62 by omega)]
  .all_goals refine qq ?_
   have O:i=l.length:=sB;exact⟨by rw[hc,O];simp,V⟩
 .exact⟨au,eE,eE,eE,jS _ _⟩
end
section
def tyP4a.tyF:=ad @ec (ad @cA (ad @dw (ad @fM (ad @fb (ad @tj (@N2))))))
open tyP4a
noncomputable def RW:{c:SC // aC 27 (f164.body.getD .skip)=c}:=by
 refine⟨?_,?_⟩;rotate_left
 .simp only[f164,bz,aC,bw,bt,bA,bB,Nat.blt,Nat.ble];rfl
noncomputable def RX:{c:SC // aC 87 (f120.body.getD .skip)=c}:=by
 refine⟨?_,?_⟩;rotate_left
 .simp only[f120,bz,aC,bw,bt,bA,bB,Nat.blt,Nat.ble];rfl
noncomputable def FZ:{c:SC // aC 10 (f166.body.getD .skip)=c}:=by
 refine⟨?_,?_⟩;rotate_left
 .simp only[f166,bz,aC,bw,bt,bA,bB,Nat.blt,Nat.ble];rfl
theorem zgi(h:∀f,f∈[217,214,212,194,215,213,195,162]->(∀O,cM l f O=none)/\jt l f=false):zd8 (ay pls l) where
 let_:=db (h _ au).1 (h _ au).2
 dig:=db (h _ au).1 (h _ au).2
 eh:=db (h _ au).1 (h _ au).2
 dV:=db (h _ au).1 (h _ au).2
 num:=db (h _ au).1 (h _ au).2
 cr:=db (h _ au).1 (h _ au).2
 dn:=db (h _ au).1 (h _ au).2
 scan:=db (h _ au).1 (h _ au).2
 bU _:=by first|rfl|kernel_rfl
 keep:=rfl
def KB:zd8 (ay pls []):=zgi fun f _=>⟨fun _=>rfl,rfl⟩
def zgj(s:qx)(M:s.length<2^60):bF prog ρ 117 [.aq s] (.bool (ci s)):=
 dE fit (pls:=pls) (l:=[]) trivial (.cons (.aq _) .nil) (.bool _) (aY (fun v H h=>h.1) (KA KB (fh _) s M bM))
def zgk(x:Int×Nat):bF prog ρ 163 [.int .i64 x.1,.int .i64 x.2] (.bool (wl x.1 x.2)):=
 dE fit (pls:=pls) (l:=[]) trivial (.cons (.int _ _) (.cons (.int _ _) .nil)) (.bool _) (aY (fun v H h=>h.1) (zge (fh _) x.1 x.2 bM))
def zgl(x:Ex):bF prog ρ 196 [.agg x.cells] (.bool (zeroE x)):=
 dE fit (pls:=pls) (l:=[]) trivial (.cons (.agg x.pure) .nil) (.bool _) (aY (fun v H h=>h.1) (zgf (fh _) x bM))
def zgm(l:qw)(J:dB l<2^60):bF prog ρ 118 [cZ l] (.bool (l.all ci)):=
 dE fit (pls:=pls) (l:=[]) trivial (.cons (vB _) .nil) (.bool _) (aY (fun v H h=>h.1) (zgh KB (fh _) (fh _) l J bM))
def zgn(s:qx)(w:Bool)(M:s.length<2^60):bF prog ρ 165 [.aq s,.bool w] (.bool (oX s w)):=
 dE fit (pls:=pls) (l:=[]) trivial (.cons (.aq _) (.cons (.bool _) .nil)) (.bool _) (aY (fun v H h=>h.1) (zgg KB (fh _) (fh _) s w M bM))
def x8(k:Int):qL:=
 if k=1 then [true,false,false,false,true,false,false,false]
 else if k=2 then [true,false,false,true,true,false,false,false]
 else if k=3 then [false,false,false,false,true,false,true,true]
 else if k=4 then [false,false,false,false,true,false,true,false]
 else if k=5 then [false,false,false,false,true,false,false,false]
 else if k=6 then [true,true,false,false,false,true,false,false]
 else if k=7 then [false,false,true,false,false,false,false,false]
 else [false,false,false,false,false,false,false,false]
def ml(k:Int):Bool:=decide (1<=k)&&decide (k<=7)
def zA(k:Int):AV:=.aX [.agg ((x8 k).map .bool),.bool (ml k)]
theorem zgo(a b c d e f g h:AV):cI 8 [a,b,c,d,e,f,g,h]=some (.agg [a,b,c,d,e,f,g,h]):=rfl
theorem zgp(k:Int):bF prog ρ 164 [.int .i64 k] (zA k):=dE fit (pls:=pls) (l:=[]) trivial (.cons (.int _ _) .nil) (.aX (.cons (.agg fun v V=>by
 obtain⟨b,_,rfl⟩:=mT.1 V;exact .bool b) (.cons (.bool _) .nil))) (by
 have L:=fh 164;have z:dU prog 223 [(0,.bool true),(4,.bool true)]=some (.agg [.bool true,.bool false,.bool false,.bool false,.bool true,.bool false,.bool false,.bool false]):=aB;have C:dU prog 223 [(0,.bool true),(3,.bool true),(4,.bool true)]=some (.agg [.bool true,.bool false,.bool false,.bool true,.bool true,.bool false,.bool false,.bool false]):=aB;have Z:dU prog 223 [(4,.bool true),(6,.bool true),(7,.bool true)]=some (.agg [.bool false,.bool false,.bool false,.bool false,.bool true,.bool false,.bool true,.bool true]):=aB;have Y:dU prog 223 [(4,.bool true),(6,.bool true)]=some (.agg [.bool false,.bool false,.bool false,.bool false,.bool true,.bool false,.bool true,.bool false]):=aB;have U:dU prog 223 [(4,.bool true)]=some (.agg [.bool false,.bool false,.bool false,.bool false,.bool true,.bool false,.bool false,.bool false]):=aB;have O:dU prog 223 [(0,.bool true),(1,.bool true),(5,.bool true)]=some (.agg [.bool true,.bool true,.bool false,.bool false,.bool false,.bool true,.bool false,.bool false]):=aB;have J:dU prog 223 [(2,.bool true)]=some (.agg [.bool false,.bool false,.bool true,.bool false,.bool false,.bool false,.bool false,.bool false]):=aB;have I:dU prog 223 []=some (.agg [.bool false,.bool false,.bool false,.bool false,.bool false,.bool false,.bool false,.bool false]):=aB;refine a0 (M:=27) (rs:=[.cell 2 223,.tmp 3]) (L.call _) L.aG L.az func164 rfl rfl RW.2 rfl ?_;dsimp only[RW,aW,Nat.reduceAdd];repeat' (first
  |(apply aj ?_;clear hK K)|apply aO ?_|(apply bp ?_ ?_<;>(intro hb hbp;try(cases hb;done)))|(apply ak fun K hK=>?_)|fail)
 all_goals
  refine⟨aq,_,(by(try simp only[aG,aR,Nat.reduceBEq,tyF,cL,cY,zgo, *]);first|done|with_reducible rfl),?_⟩;try simp only[am]
 all_goals
  first
  |(simp_all[zA,x8,ml];done)
  |(have m:ml k=false:=by
     simp only[ml,vH,kB];omega
    simp_all[zA,x8];done))
theorem zgq(k:Int)(n:Nat):wl k n=((decide ((n:Int)=2)&&rK k)||(decide ((n:Int)=1)&&(decide (k=20)||decide (k=21)))):=by
 unfold wl rK;by_cases h:k=20\/k=21
 .rw[ah h];rcases h with rfl|rfl<;>simp
 .rw[af h];have i:¬k=20:=fun e=>h (.inl e);have g:¬k=21:=fun e=>h (.inr e);simp only[i,g,gD,io,pC];cases decide (4<=k)<;>cases decide (k<=18)<;>cases decide ((n:Int)=2)<;>rfl
noncomputable def BV:En:=⟨117,false,bQ (fun s=>s.length<2^60) nn fun s=>.bool (ci s)⟩
def RY:co prog ρ BV:=cz fun x z=>zgj ρ x z
def BW(x:Int×Nat):qt:=[.int .i64 x.1,.int .i64 x.2]
def zgr(x y:Int×Nat)(h:BW x=BW y):x=y:=by
 simp only[BW,dN,AV.int.injEq,aN,jy]at h;exact n1 h.1 ac
noncomputable def BX:En:=⟨163,false,bQ (fun _=>True) BW fun x=>.bool (wl x.1 x.2)⟩
def RZ:co prog ρ BX:=cz fun x _=>zgk ρ x
noncomputable def R0:En:=⟨196,false,bQ (fun _=>True) kF fun x=>.bool (zeroE x)⟩
def zgs:co prog ρ R0:=cz fun x _=>zgl ρ x
def zgt(V:∀i,cM l 117 i=BV.sp i)(O:∀i,cM l 163 i=BX.sp i)(Y:(∀i,cM l 120 i=none)/\jt l 120=false){base:Nat}{I:Hp->Prop}(U:wj base I):
 zu (ay pls l) base I 120 [] fun x _=>mG x:=by
 intro x d H g Z C;have L:zd0 (ay pls l) 120:=db Y.1 Y.2;have z:∀s:qx,s.length<2^60->∀H,aM prog (ay pls l) 117 [.aq s] H fun v H'=>v=.bool (ci s)/\H'=H:=fun s J H=>bZ (enc:=nn) (out:=fun x=>.bool (ci x)) ux (x:=s) (V _) J;have j:∀(k:Int) (n:Nat),∀H,aM prog (ay pls l) 163 [.int .i64 k,.int .i64 n] H fun v H'=>v=.bool (wl k n)/\H'=H:=fun k n H=>bZ (enc:=BW) (out:=fun x=>.bool (wl x.1 x.2)) zgr (x:=(k,n)) (O _) trivial;have m:=x.aT;refine a0 (M:=87) (rs:=[.tmp 4]) (L.call _) L.aG L.az func120 rfl rfl RX.2 rfl ?_;dsimp only[RX,aW,Nat.reduceAdd];repeat' (first
  |(apply aj ?_;clear hK K)|apply aO ?_|(apply ez ?_;first|refine Rx.k (z _ ac _) ?_|refine Rx.k (j _ _ _) ?_)|(apply cD ?_ ?_<;>(intro hg hgp;try(cases hg;done)))|(apply bp ?_ ?_<;>(intro hb hbp;try(cases hb;done)))|(apply ak fun K hK=>?_)|fail)
 all_goals
  all_goals refine qq ?_
  refine⟨?_,(jS _ _).alloc _,U _ _ C ((sq _ _).alloc Z _)⟩;rw[mG];(try rw[zgq]);(try simp only[dH]at *);simp only[ *,gD,io,pG,dh,dD,Int.reduceEq]
end
end Go.Proofs.YtbflaciihaijgaaGreat
