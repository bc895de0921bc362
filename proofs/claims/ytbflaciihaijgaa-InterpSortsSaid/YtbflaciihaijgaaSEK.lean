/- Lemmas for the last file. -/
import Derived.Test.YtbflaciihaijgaaSEJ
set_option linter.all false
set_option maxHeartbeats 32000000
namespace Go.Ab
set_option maxRecDepth 20000
open Go
variable{qb:Prop}
def uY(h:qb:=by have:=Y _ hr;simp only[]at this;omega):=h
def mZ(h:qb:=by rw[he];exact⟨_,rfl,L _,hblt⟩):=h
end Go.Ab
namespace Go.Proofs.Ytbflaciihaijgaa
set_option maxRecDepth 20000
open Go Go.Ab Proofs.Try
def tyW6h.tyF:=ac @fE (ac @dF (ac @eV (ac @my (ac @mz (ac @iS (ac @lq (ac @kf (ac @xi (ac @gy (ac @lr (ac @jC (ac @mA (ac @xp (ac @lx (ac @ly (@lz))))))))))))))))
open tyW6h
noncomputable def zT:{c:SC // aI 124 (f13.body.getD .skip)=c}:=by
 refine⟨?_,?_⟩;rotate_left
 .simp only[f13,bQ,aI,bL,bB,bV,bW,Nat.blt,Nat.ble];rfl
def Hh(p:Pr)(f:Int)(C F:Nat):dA prog 92 [(0,.agg p.cells),(3,.int .i64 f),(1,.map C),(2,.map F)]=some (.agg [.af (p.ag.map Ar.cells),.af (p.funcs.map Fu.cells),.map C,.map F,.int .i64 f,.int .i64 0,.int .i64 0,.ab]):=by
 rw[Pr.ah];kernel_rfl
def Hi(c:Int):dA prog 52 [(0,.int .i64 2),(1,.int .i64 c),(2,.ab)]=some (.agg [.int .i64 2,.int .i64 c,.ab,.int .i64 0]):=az
def Hj(c:Int)(r o n z:Nat):dA prog 52 [(0,.int .i64 2),(1,.int .i64 c),(2,.sl r o n z)]=some (.agg [.int .i64 2,.int .i64 c,.sl r o n z,.int .i64 0]):=az
def Hk:dA prog 52 [(0,.int .i64 3),(2,.ab)]=some (.agg [.int .i64 3,.int .i64 0,.ab,.int .i64 0]):=az
def Hl(r o n z:Nat):dA prog 52 [(0,.int .i64 3),(2,.sl r o n z)]=some (.agg [.int .i64 3,.int .i64 0,.sl r o n z,.int .i64 0]):=az
def Hm(v:Int):dA prog 52 [(0,.int .i64 1),(3,.int .i64 v),(2,.ab)]=some (.agg [.int .i64 1,.int .i64 0,.ab,.int .i64 v]):=az
def Hn(v:Int)(r o n z:Nat):dA prog 52 [(0,.int .i64 1),(3,.int .i64 v),(2,.sl r o n z)]=some (.agg [.int .i64 1,.int .i64 0,.sl r o n z,.int .i64 v]):=az
theorem m0(a b c d:AV):b8 4 [a,b,c,d]=some (.agg [a,b,c,d]):=rfl
abbrev qe:HB:=.cells [.int .i64 0,.int .i64 0,.ab,.int .i64 0] 0 true
set_option maxRecDepth 100000 in
theorem Ho{cfg:Cfg}(ax:Std cfg)(p:Pr)(hz:p.sz<2^40)(hnd:(p.ag.map (·.name)).Nodup)(har:∀a∈p.ag,0<=a.len/\a.len<=16)
 (hchk:∀H,aL prog cfg 18 [.agg p.cells] H fun v H'=>v=.int .i64 0/\FrB 0 H H') (nm:aQ) (al:qm) (fuel:Int) (hf0:0<=fuel) (hf1:fuel<=1000)
 (hhas:iw (eJ p.funcs 0 []) nm=true) {f:Fu} (hk0:0<=bJ (eJ p.funcs 0 []) nm) (hk:p.funcs[(bJ (eJ p.funcs 0 []) nm).toNat]?=some f) (hpl:f.params.length=al.length) {n:Nat}{r:Int×MS}
 (hc:ir p (eJ p.funcs 0 []) n (bJ (eJ p.funcs 0 []) nm) al (oZ p fuel)=some r) (ho:r.2.out.length<2^40) (hal:al.length<2^40) (av:AV) (H:Hp) (hav:iu H av al) (halt:∀b,lN av b->b<H.next) :
 aL prog cfg 13 [.agg p.cells,.ad nm,av,.int .i64 fuel] H fun v H'=>Gl H' v (kx r)/\FrB 0 H H':=by
 have hla:=wZ p.ag;have hlf:=wY p.funcs;have hpsz:p.sz=1+mr p.ag+jA p.funcs:=rfl;refine bz (M:=124) (rs:=[.cell 8 52]) ((ax.plain _ rfl).call _) (ax.plain _ rfl).aB (ax.plain _ rfl).an func13 rfl rfl zT.2 rfl ?_;dsimp only[zT,ba,Nat.reduceAdd];repeat' (first
  |(apply ai ?_;clear hK K)|apply Rx.o ?_|apply aU ?_|(apply bt (fun C Z=>?_) (fun C Z=>?_)<;>try(cases C;done))|apply ag ?_|(apply ah fun K hK=>?_)|(apply ad 7 [(3,9),(5,9),(7,9),(8,9)] fun K hK=>?_)|(apply ck 12 fun K hK=>?_)|(apply ck 20 fun K hK=>?_)|(apply aG ?_;try intro _)|(apply aH ?_ ?_<;>clear hK K)|apply aF ?_|apply a9 rfl ?_|apply au ?_|apply aj ?_|apply aq ?_|apply aB ?_)
 refine qa ?_;refine aR ?_ (hchk _);rintro v V ⟨rfl,hf2⟩;have hn2:=hf2.next
 simp only[cb]at hn2;have hb0:V.get H.next=some (.cells p.cells 0 true):=by
  rw[hf2.get _ (eC _) dW,aP,aw dW,aP,aD rfl]
 have hb1:V.get (H.next+1)=some qe:=by
  rw[hf2.get _ (eC _) dW,aP,aD dH]
 have hg2:∀r,r<H.next->V.get r=H.get r:=fun r hr=>by
  rw[hf2.get _ (eC _) dW,aP,aw dW,aP,aw aa]
 have hf0':¬fuel<0:=aa;have hf1':¬1000<fuel:=aa;have e1:(H.next == V.next)=false:=gh aa;have e2:(H.next == V.next+1)=false:=gh aa;have e3:(H.next == V.next+2)=false:=gh aa;dsimp only[aJ];have gh0:=@Hh;repeat' (first
  |(apply ai ?_;clear hK K)|apply Ry.o ?_|apply aY ?_|(apply a6 (fun J S=>?_) (fun J S=>?_)<;>try(cases J;done))|(apply aE (fun C Z=>?_) (fun C Z=>?_)<;>try(cases C;done))|apply ag ?_|(apply ah fun K hK=>?_)|(apply ad 7 [(3,9),(5,9),(7,9),(8,9)] fun K hK=>?_)|(apply ck 12 fun K hK=>?_)|(apply ck 20 fun K hK=>?_)|(apply aG ?_;try intro _)|(apply aH ?_ ?_<;>clear hK K)|apply aF ?_|apply a9 rfl ?_|apply au ?_|apply aj ?_|apply aq ?_|apply aB ?_)
 generalize hH3:Hp.alloc _ (HB.cells [_,_,_,_,_,_,_,_] 0 true)=H3;have hn3:H3.next=V.next+3:=by rw[<-hH3];rfl
 have hg3:∀r,r<V.next->H3.get r=V.get r:=fun r hr=>by
  rw[<-hH3,aP,aw dW,aP,aw dW,aP,aw aa]
 have hc3:H3.get V.next=some (.map (ed [] [])):=by
  rw[<-hH3,aP,aw dW,aP,aw dW,aP,aD rfl];rfl
 have hF3:H3.get (V.next+1)=some (.map (b9 [])):=by
  rw[<-hH3,aP,aw dW,aP,aD dH];rfl
 have hm3:H3.get (V.next+2)=some (.cells [.af (p.ag.map Ar.cells),.af (p.funcs.map Fu.cells),.map V.next,.map (V.next+1),.int .i64 fuel,.int .i64 0,.int .i64 0,.ab] 0 true):=by
  rw[<-hH3,aP,aD dH]
 have hb03:H3.get H.next=some (.cells p.cells 0 true):=by rw[hg3 _ aa];exact hb0
 have hb13:H3.get (H.next+1)=some qe:=by rw[hg3 _ aa];exact hb1
 clear hH3;refine j7 (fun i E F=>∃rs:qp,rs.length=i/\rs.Nodup/\(∀r∈rs,H3.next<=r/\r<F.next)/\F.get V.next=some (.map (ed (eX (p.ag.take i)) rs)) /\
  (∀(j r:Nat) (nm:aQ) (l:qm),rs[j]?=some r->(eX (p.ag.take i))[j]?=some (nm,l)->F.get r=some (.cells (ints l) 0 true))/\H3.next<=F.next/\(∀r,r<H3.next->r≠V.next->F.get r=H3.get r) /\
  E.at 1=.ad nm/\E.at 2=av/\E.at 4=.ptr H.next 0/\E.at 8=.ptr (H.next+1) 0/\E.at 9=.ptr (V.next+2) 0/\E.at 36=.af (p.ag.map Ar.cells)/\E.at 37=.int .i64 p.ag.length/\E.at 38=.int .i64 i) p.ag.length ?_ ?_
 .rintro i E F hi ⟨rs,hrl,hrn,hrb,hrc,hrg,hn4,hg4,bD,a4,iA,k8,k9,k36,k37,k38⟩;repeat' (first
   |(apply ai ?_;clear hK K)|apply Rx.o ?_|apply aU ?_|(apply bt (fun C Z=>?_) (fun C Z=>?_)<;>try(cases C;done))|apply ag ?_|(apply ah fun K hK=>?_)|(apply ad 7 [(3,9),(5,9),(7,9),(8,9)] fun K hK=>?_)|(apply ck 12 fun K hK=>?_)|(apply ck 20 fun K hK=>?_)|(apply aG ?_;try intro _)|(apply aH ?_ ?_<;>clear hK K)|apply aF ?_|apply a9 rfl ?_|apply au ?_|apply aj ?_|apply aq ?_|apply aB ?_)
  .have hlt:i<p.ag.length:=by simpa using C
   have hgx:p.ag[i]?=some p.ag[i]:=bq hlt;obtain⟨ha0,ha1⟩:=har p.ag[i] (jn hlt);repeat' (first
    |(apply ai ?_;clear hK K)|apply Rx.o ?_|apply aU ?_|(apply bt (fun C Z=>?_) (fun C Z=>?_)<;>try(cases C;done))|apply ag ?_|(apply ah fun K hK=>?_)|(apply ad 7 [(3,9),(5,9),(7,9),(8,9)] fun K hK=>?_)|(apply ck 12 fun K hK=>?_)|(apply ck 20 fun K hK=>?_)|(apply aG ?_;try intro _)|(apply aH ?_ ?_<;>clear hK K)|apply aF ?_|apply a9 rfl ?_|apply au ?_|apply aj ?_|apply aq ?_|apply aB ?_)
   generalize hH5:Hp.set _ F.next _=W
   have hn5:W.next=F.next+1:=by rw[<-hH5];rfl
   have O:∀r,r<F.next->W.get r=F.get r:=fun r hr=>by rw[<-hH5,a0,aw aa,aP,aw aa]
   have hb5:W.get F.next=some (.cells p.ag[i].cells 0 true):=by rw[<-hH5,a0,aD rfl]
   have hm5:W.get (V.next+2)=some (.cells [.af (p.ag.map Ar.cells),.af (p.funcs.map Fu.cells),.map V.next,.map (V.next+1),.int .i64 fuel,.int .i64 0,.int .i64 0,.ab] 0 true):=by
    rw[O _ aa,hg4 _ aa aa];exact hm3
   clear hH5;have hn5':F.next+1<=W.next:=aa
   clear hn5;have hms:=Gp (P:=prog) (H:=W) (t:=50) underlying50 oD rL rM ha0 (n:=p.ag[i].len) aa;have hc6:(W.alloc (.cells (ints (List.replicate p.ag[i].len.toNat 0)) 0 true)).get V.next=some (.map (ed (eX (p.ag.take i)) rs)):=by
    rw[aP,aw aa,O _ aa];exact hrc
   have hnew:p.ag[i].name∉(eX (p.ag.take i)).map (·.1):=by
    have U:(eX (p.ag.take i)).map (·.1)=(p.ag.map (·.name)).take i:=by simp[eX,List.map_take];rfl
    rw[U];have I:=il (l:=p.ag.map (·.name)) (i:=i) (by simpa using hlt);have h3:((p.ag.map (·.name)).take i++(p.ag.map (·.name)).drop i).Nodup:=by rw[List.take_append_drop];exact hnd
    rw[I,List.getElem_map]at h3;intro h4;exact(List.nodup_append.1 h3).2.2 _ h4 _ gN rfl
   have hu:=(za (P:=prog) (nm:=p.ag[i].name) (x:=.sl W.next 0 p.ag[i].len.toNat 1) underlying90 iz hc6).1 (zg _ _ _ _ hnew);have e5:(V.next+2 == W.next)=false:=gh aa;have e6:(F.next == V.next)=false:=gh aa;have e7:(F.next == W.next)=false:=gh aa;have e8:(W.next == V.next)=false:=gh aa;repeat' (first
    |(apply ai ?_;clear hK K)|apply Rx.o ?_|apply aU ?_|(apply bt (fun C Z=>?_) (fun C Z=>?_)<;>try(cases C;done))|apply ag ?_|(apply ah fun K hK=>?_)|(apply ad 7 [(3,9),(5,9),(7,9),(8,9)] fun K hK=>?_)|(apply ck 12 fun K hK=>?_)|(apply ck 20 fun K hK=>?_)|(apply aG ?_;try intro _)|(apply aH ?_ ?_<;>clear hK K)|apply aF ?_|apply a9 rfl ?_|apply au ?_|apply aj ?_|apply aq ?_|apply aB ?_)
   .exact cC
   .refine⟨hlt,rs++[W.next],by simp[hrl],?_,?_,?_,?_,uP,?_,eE,eE,eE,eE,eE,eE,eE,?_⟩
    .rw[List.nodup_append];refine⟨hrn,aK,fun a ha b C=>?_⟩;simp only[oN]at C;have:=(hrb a ha).2;omega
    .intro r hr;simp only[cH,cb];rcases me.1 hr with hr|hr
     .have:=hrb r hr;omega
     .simp only[oN]at hr;omega
    .rw[a0,aD rfl];have U:eX (p.ag.take (i+1))=eX (p.ag.take i)++[(p.ag[i].name,List.replicate p.ag[i].len.toNat 0)]:=by
      unfold eX;rw[l1,hgx,iO];rfl
     rw[U,zh _ _ _ _ (by simp[eX,hrl];omega)];simp
    .intro j r nm' l U I;have h3:eX (p.ag.take (i+1))=eX (p.ag.take i)++[(p.ag[i].name,List.replicate p.ag[i].len.toNat 0)]:=by
      unfold eX;rw[l1,hgx,iO];rfl
     have hzl:(eX (p.ag.take i)).length=i:=by simp[eX];omega
     rw[h3]at I;by_cases hj:j<i
     .rw[h8 aa]at U I;have hrm:=hrb r (fY U);rw[a0,aw aa,aP,aw aa,O _ aa];exact hrg j r nm' l U I
     .rw[jk aa]at U I;have hj0:j=i:=by
       have:=(ci.1 U).1;simp at this;omega
      subst hj0;simp only[hrl,hzl,nG,mD,bm]at U I;rw[<-U,a0,aw aa,aP,aD rfl,I.2]
    .intro r U I;rw[a0,aw I,aP,aw aa,O _ aa];exact hg4 r U I
    .simp only[jw,Nat.reduceBEq,mR,mp (show i<2^62 by omega)]
  .have hia:p.ag.length<=i:=by simp at C;omega
   rw[iI hia]at hrc hrg;have hrl2:rs.length=p.ag.length:=aa;clear C Z hia hi k38 hrl k36 k37;have hm4:F.get (V.next+2)=some (.cells [.af (p.ag.map Ar.cells),.af (p.funcs.map Fu.cells),.map V.next,.map (V.next+1),.int .i64 fuel,.int .i64 0,.int .i64 0,.ab] 0 true):=by
    rw[hg4 _ aa aa];exact hm3
   have hb04:F.get H.next=some (.cells p.cells 0 true):=by rw[hg4 _ aa aa];exact hb03
   repeat' (first
    |(apply ai ?_;clear hK K)|apply Rx.o ?_|apply aU ?_|(apply bt (fun C Z=>?_) (fun C Z=>?_)<;>try(cases C;done))|apply ag ?_|(apply ah fun K hK=>?_)|(apply ad 7 [(3,9),(5,9),(7,9),(8,9)] fun K hK=>?_)|(apply ck 12 fun K hK=>?_)|(apply ck 20 fun K hK=>?_)|(apply aG ?_;try intro _)|(apply aH ?_ ?_<;>clear hK K)|apply aF ?_|apply a9 rfl ?_|apply au ?_|apply aj ?_|apply aq ?_|apply aB ?_)
   have hF4:F.get (V.next+1)=some (.map (b9 [])):=by rw[hg4 _ aa aa];exact hF3
   have hb14:F.get (H.next+1)=some qe:=by rw[hg4 _ aa aa];exact hb13
   refine j7 (fun i E W=>∃m5,eJ (p.funcs.drop i) i m5=eJ p.funcs 0 []/\W.get (V.next+1)=some (.map (b9 m5))/\F.next<=W.next/\(∀r,r<F.next->r≠V.next+1->W.get r=F.get r) /\
    E.at 1=.ad nm/\E.at 2=av/\E.at 4=.ptr H.next 0/\E.at 8=.ptr (H.next+1) 0/\E.at 9=.ptr (V.next+2) 0/\E.at 53=.af (p.funcs.map Fu.cells)/\E.at 54=.int .i64 p.funcs.length/\E.at 55=.int .i64 i) p.funcs.length ?_ ?_
   .rintro i E W hi ⟨m5,hm5,hF5,hn5,O,bD,a4,iA,k8,k9,k53,k54,k55⟩;repeat' (first
     |(apply ai ?_;clear hK K)|apply Rx.o ?_|apply aU ?_|(apply bt (fun C Z=>?_) (fun C Z=>?_)<;>try(cases C;done))|apply ag ?_|(apply ah fun K hK=>?_)|(apply ad 7 [(3,9),(5,9),(7,9),(8,9)] fun K hK=>?_)|(apply ck 12 fun K hK=>?_)|(apply ck 20 fun K hK=>?_)|(apply aG ?_;try intro _)|(apply aH ?_ ?_<;>clear hK K)|apply aF ?_|apply a9 rfl ?_|apply au ?_|apply aj ?_|apply aq ?_|apply aB ?_)
    .have hlt:i<p.funcs.length:=by simpa using C
     have hgx:p.funcs[i]?=some p.funcs[i]:=bq hlt;rw[il hlt]at hm5;simp only[eJ]at hm5;repeat' (first
      |(apply ai ?_;clear hK K)|apply Rx.o ?_|apply aU ?_|(apply bt (fun C Z=>?_) (fun C Z=>?_)<;>try(cases C;done))|apply ag ?_|(apply ah fun K hK=>?_)|(apply ad 7 [(3,9),(5,9),(7,9),(8,9)] fun K hK=>?_)|(apply ck 12 fun K hK=>?_)|(apply ck 20 fun K hK=>?_)|(apply aG ?_;try intro _)|(apply aH ?_ ?_<;>clear hK K)|apply aF ?_|apply a9 rfl ?_|apply au ?_|apply aj ?_|apply aq ?_|apply aB ?_)
     generalize hH6:Hp.set _ W.next _=H6
     have hn6:H6.next=W.next+1:=by rw[<-hH6];rfl
     have hg6:∀r,r<W.next->H6.get r=W.get r:=fun r hr=>by rw[<-hH6,a0,aw aa,aP,aw aa]
     have hb6:H6.get W.next=some (.cells p.funcs[i].cells 0 true):=by rw[<-hH6,a0,aD rfl]
     have hF6:H6.get (V.next+1)=some (.map (b9 m5)):=by rw[hg6 _ aa];exact hF5
     have hm6:H6.get (V.next+2)=some (.cells [.af (p.ag.map Ar.cells),.af (p.funcs.map Fu.cells),.map V.next,.map (V.next+1),.int .i64 fuel,.int .i64 0,.int .i64 0,.ab] 0 true):=by
      rw[hg6 _ aa,O _ aa aa];exact hm4
     clear hH6;have hu:=sa (P:=prog) underlying83 iz hF6 p.funcs[i].name i;repeat' (first
      |(apply ai ?_;clear hK K)|apply Rx.o ?_|apply aU ?_|(apply bt (fun C Z=>?_) (fun C Z=>?_)<;>try(cases C;done))|apply ag ?_|(apply ah fun K hK=>?_)|(apply ad 7 [(3,9),(5,9),(7,9),(8,9)] fun K hK=>?_)|(apply ck 12 fun K hK=>?_)|(apply ck 20 fun K hK=>?_)|(apply aG ?_;try intro _)|(apply aH ?_ ?_<;>clear hK K)|apply aF ?_|apply a9 rfl ?_|apply au ?_|apply aj ?_|apply aq ?_|apply aB ?_)
     refine⟨hlt,_,hm5,eN,oW,fun r U I=>?_,eE,eE,eE,eE,eE,eE,eE,?_⟩
     .rw[a0,aw I,hg6 _ aa];exact O r U I
     .simp only[jw,Nat.reduceBEq,mR,mp (show i<2^62 by omega)]
    .have hia:p.funcs.length<=i:=by simp at C;omega
     rw[kP hia]at hm5;simp only[eJ]at hm5;subst hm5;clear C Z hia hi k55 k53 k54;have hm5:W.get (V.next+2)=some (.cells [.af (p.ag.map Ar.cells),.af (p.funcs.map Fu.cells),.map V.next,.map (V.next+1),.int .i64 fuel,.int .i64 0,.int .i64 0,.ab] 0 true):=by
      rw[O _ aa aa];exact hm4
     have hb05:W.get H.next=some (.cells p.cells 0 true):=by rw[O _ aa aa];exact hb04
     have hb15:W.get (H.next+1)=some qe:=by rw[O _ aa aa];exact hb14
     have Y:∀r∈rs,H3.next<=r/\r<F.next:=hrb
     have hR5:zaa ⟨p,V.next+2,V.next,V.next+1,rs,eJ p.funcs 0 []⟩ W (oZ p fuel) .ab:={
      m:=hm5
      c:=by show W.get V.next=_;rw[O _ aa aa];exact hrc
      f:=hF5
      len:=by simp[oZ,eX,hrl2]
      cell:=fun j r nm l U I=>by
       have hrm:=Y r (fY U);rw[O _ aa aa];exact hrg j r nm l U I
      out:=.inl ⟨rfl,rfl⟩
      lm:=by show V.next+2<W.next;omega
      lc:=by show V.next<W.next;omega
      lf:=by show V.next+1<W.next;omega
      ls:=fun r hr=>by have:=Y r hr;omega
      cD:=by show V.next+2≠V.next;omega
      mf:=by show V.next+2≠V.next+1;omega
      ms:=fun hr=>uY
      cf:=by show V.next≠V.next+1;omega
      cs:=fun hr=>uY
      fs:=fun hr=>uY
      nd:=hrn}
     have hlk:=Gm (P:=prog) underlying83 iz (show fN prog 3=some (.int .i64 0) by kernel_rfl) hF5 nm;rw[hhas]at hlk;have hx0:Ab.extract (.aC [.int .i64 (bJ (eJ p.funcs 0 []) nm),.bool true]) 0=some (.int .i64 (bJ (eJ p.funcs 0 []) nm)):=rfl;have hx1:Ab.extract (.aC [.int .i64 (bJ (eJ p.funcs 0 []) nm),.bool true]) 1=some (.bool true):=rfl;have hlen:∀H',dr prog H' 50 av=_:=fun H'=>hav.len underlying50;have hold:∀r,r<H.next->W.get r=H.get r:=fun r hr=>by
      rw[O _ aa aa,hg4 _ aa aa,hg3 _ aa,hg2 _ hr]
     repeat' (first
      |(apply ai ?_;clear hK K)|apply Ry.o ?_|apply aY ?_|(apply a6 (fun J S=>?_) (fun J S=>?_)<;>try(cases J;done))|(apply aE (fun C Z=>?_) (fun C Z=>?_)<;>try(cases C;done))|apply ag ?_|(apply ah fun K hK=>?_)|(apply ad 7 [(3,9),(5,9),(7,9),(8,9)] fun K hK=>?_)|(apply ck 12 fun K hK=>?_)|(apply ck 20 fun K hK=>?_)|(apply aG ?_;try intro _)|(apply aH ?_ ?_<;>clear hK K)|apply aF ?_|apply a9 rfl ?_|apply au ?_|apply aj ?_|apply aq ?_|apply aB ?_)
     refine qa ?_;have hav5:iu W av al:=hav.mono fun r hr=>hold r (halt r hr);refine aR ?_ ((Hg ax ⟨p,V.next+2,V.next,V.next+1,rs,eJ p.funcs 0 []⟩ hz n).2.2 _ al _ r hc ho hal av .ab W hR5 hav5 (fun b C=>by have:=halt b C;omega));rintro v H6 ⟨rfl,ov6,hR6,hf6⟩;have hn6:=hf6.next
     have nown:∀r,r<V.next->¬Mx.own ⟨p,V.next+2,V.next,V.next+1,rs,eJ p.funcs 0 []⟩ r:=fun r hr e=>by
      rcases e with e|e
      .simp only[]at e;omega
      .have:=Y r e;omega
     have nout:∀r,¬gB .ab r:=fun r ⟨k,e⟩=>by simp at e
     have hg6:∀r,r<V.next->H6.get r=W.get r:=fun r hr=>hf6.get r aa (nown r hr) (nout r) (fun e=>e)
     have hb16:H6.get (H.next+1)=some qe:=by rw[hg6 _ aa];exact hb15
     have m6:=hR6.m;unfold cJ at m6;simp only[]at m6;have A:∀(b:HB),FrB 0 H (H6.set (H.next+1) b):=fun b=>⟨by show H.next<=H6.next;omega,fun r _ hr=>by
      rw[a0,aw aa,hg6 _ aa];exact hold r hr⟩
     have L:∀(b:HB),kw (H6.set (H.next+1) b) ov6 r.2.out:=fun b=>by
      rcases hR6.out with⟨U,I⟩|⟨ro,U,I,h3,h4,h5,h6⟩
      .exact .inl ⟨U,I⟩
      .refine .inr ⟨ro,U,?_⟩;rcases hf6.out ro ⟨_,U⟩with e|e
       .exact(nout _ e).elim
       .rw[a0,aw aa];exact I
     have hblt:∀k,lN ov6 k->k<H6.next:=fun k ⟨o,n,z,e⟩=>by
      rcases hR6.out with⟨U,_⟩|⟨ro,U,I,h3,_⟩
      .rw[U]at e;simp at e
      .rw[U]at e;simp only[AV.sl.injEq]at e;omega
     have hov:ov6=.ab\/∃r o n z,ov6=.sl r o n z:=by
      rcases hR6.out with⟨U,I⟩|⟨ro,U,_⟩
      .exact .inl U
      .exact .inr ⟨_,_,_,_,U⟩
     dsimp only[aJ];by_cases h2f:r.2.fin=2
     .have he:kx r=⟨2,r.2.aj,r.2.out,0⟩:=by simp only[kx,h2f,cy]
      rcases hov with rfl|⟨ro,oo,no,zo,rfl⟩
      .have gh0:=@Hi;repeat' (first
        |(apply ai ?_;clear hK K)|apply Ry.o ?_|apply aY ?_|(apply a6 (fun J S=>?_) (fun J S=>?_)<;>try(cases J;done))|(apply aE (fun C Z=>?_) (fun C Z=>?_)<;>try(cases C;done))|apply ag ?_|(apply ah fun K hK=>?_)|(apply ad 7 [(3,9),(5,9),(7,9),(8,9)] fun K hK=>?_)|(apply ck 12 fun K hK=>?_)|(apply ck 20 fun K hK=>?_)|(apply aG ?_;try intro _)|(apply aH ?_ ?_<;>clear hK K)|apply aF ?_|apply a9 rfl ?_|apply au ?_|apply aj ?_|apply aq ?_|apply aB ?_)
       refine⟨aN,_,(by(try simp only[a2,bG,Nat.reduceBEq,Nat.reduceAdd,Nat.reduceLeDiff,tyF,cu,cG,m0, *]);first|done|with_reducible rfl),?_⟩;try simp only[aM]
       exact⟨mZ,A _⟩
      .have gh0:=@Hj;repeat' (first
        |(apply ai ?_;clear hK K)|apply Ry.o ?_|apply aY ?_|(apply a6 (fun J S=>?_) (fun J S=>?_)<;>try(cases J;done))|(apply aE (fun C Z=>?_) (fun C Z=>?_)<;>try(cases C;done))|apply ag ?_|(apply ah fun K hK=>?_)|(apply ad 7 [(3,9),(5,9),(7,9),(8,9)] fun K hK=>?_)|(apply ck 12 fun K hK=>?_)|(apply ck 20 fun K hK=>?_)|(apply aG ?_;try intro _)|(apply aH ?_ ?_<;>clear hK K)|apply aF ?_|apply a9 rfl ?_|apply au ?_|apply aj ?_|apply aq ?_|apply aB ?_)
       refine⟨aN,_,(by(try simp only[a2,bG,Nat.reduceBEq,Nat.reduceAdd,Nat.reduceLeDiff,tyF,cu,cG,m0, *]);first|done|with_reducible rfl),?_⟩;try simp only[aM]
       exact⟨mZ,A _⟩
     .by_cases h3f:r.2.fin=3
      .have he:kx r=⟨3,0,r.2.out,0⟩:=by simp only[kx,h3f];rfl
       rcases hov with rfl|⟨ro,oo,no,zo,rfl⟩
       .have gh0:=@Hk;repeat' (first
         |(apply ai ?_;clear hK K)|apply Ry.o ?_|apply aY ?_|(apply a6 (fun J S=>?_) (fun J S=>?_)<;>try(cases J;done))|(apply aE (fun C Z=>?_) (fun C Z=>?_)<;>try(cases C;done))|apply ag ?_|(apply ah fun K hK=>?_)|(apply ad 7 [(3,9),(5,9),(7,9),(8,9)] fun K hK=>?_)|(apply ck 12 fun K hK=>?_)|(apply ck 20 fun K hK=>?_)|(apply aG ?_;try intro _)|(apply aH ?_ ?_<;>clear hK K)|apply aF ?_|apply a9 rfl ?_|apply au ?_|apply aj ?_|apply aq ?_|apply aB ?_)
        refine⟨aN,_,(by(try simp only[a2,bG,Nat.reduceBEq,Nat.reduceAdd,Nat.reduceLeDiff,tyF,cu,cG,m0, *]);first|done|with_reducible rfl),?_⟩;try simp only[aM]
        exact⟨mZ,A _⟩
       .have gh0:=@Hl;repeat' (first
         |(apply ai ?_;clear hK K)|apply Ry.o ?_|apply aY ?_|(apply a6 (fun J S=>?_) (fun J S=>?_)<;>try(cases J;done))|(apply aE (fun C Z=>?_) (fun C Z=>?_)<;>try(cases C;done))|apply ag ?_|(apply ah fun K hK=>?_)|(apply ad 7 [(3,9),(5,9),(7,9),(8,9)] fun K hK=>?_)|(apply ck 12 fun K hK=>?_)|(apply ck 20 fun K hK=>?_)|(apply aG ?_;try intro _)|(apply aH ?_ ?_<;>clear hK K)|apply aF ?_|apply a9 rfl ?_|apply au ?_|apply aj ?_|apply aq ?_|apply aB ?_)
        refine⟨aN,_,(by(try simp only[a2,bG,Nat.reduceBEq,Nat.reduceAdd,Nat.reduceLeDiff,tyF,cu,cG,m0, *]);first|done|with_reducible rfl),?_⟩;try simp only[aM]
        exact⟨mZ,A _⟩
      .have he:kx r=⟨1,0,r.2.out,r.1⟩:=by simp only[kx,h2f,h3f,cT]
       rcases hov with rfl|⟨ro,oo,no,zo,rfl⟩
       .have gh0:=@Hm;repeat' (first
         |(apply ai ?_;clear hK K)|apply Ry.o ?_|apply aY ?_|(apply a6 (fun J S=>?_) (fun J S=>?_)<;>try(cases J;done))|(apply aE (fun C Z=>?_) (fun C Z=>?_)<;>try(cases C;done))|apply ag ?_|(apply ah fun K hK=>?_)|(apply ad 7 [(3,9),(5,9),(7,9),(8,9)] fun K hK=>?_)|(apply ck 12 fun K hK=>?_)|(apply ck 20 fun K hK=>?_)|(apply aG ?_;try intro _)|(apply aH ?_ ?_<;>clear hK K)|apply aF ?_|apply a9 rfl ?_|apply au ?_|apply aj ?_|apply aq ?_|apply aB ?_)
        refine⟨aN,_,(by(try simp only[a2,bG,Nat.reduceBEq,Nat.reduceAdd,Nat.reduceLeDiff,tyF,cu,cG,m0, *]);first|done|with_reducible rfl),?_⟩;try simp only[aM]
        exact⟨mZ,A _⟩
       .have gh0:=@Hn;repeat' (first
         |(apply ai ?_;clear hK K)|apply Ry.o ?_|apply aY ?_|(apply a6 (fun J S=>?_) (fun J S=>?_)<;>try(cases J;done))|(apply aE (fun C Z=>?_) (fun C Z=>?_)<;>try(cases C;done))|apply ag ?_|(apply ah fun K hK=>?_)|(apply ad 7 [(3,9),(5,9),(7,9),(8,9)] fun K hK=>?_)|(apply ck 12 fun K hK=>?_)|(apply ck 20 fun K hK=>?_)|(apply aG ?_;try intro _)|(apply aH ?_ ?_<;>clear hK K)|apply aF ?_|apply a9 rfl ?_|apply au ?_|apply aj ?_|apply aq ?_|apply aB ?_)
        refine⟨aN,_,(by(try simp only[a2,bG,Nat.reduceBEq,Nat.reduceAdd,Nat.reduceLeDiff,tyF,cu,cG,m0, *]);first|done|with_reducible rfl),?_⟩;try simp only[aM]
        exact⟨mZ,A _⟩
   .exact⟨[],rfl,hF4,aA _,fun _ _ _=>rfl,eE,eE,eE,eE,eE,eE,eE,eE⟩
 .refine⟨[],rfl,List.nodup_nil,fun r hr=>by simp at hr,hc3,fun j r nm l U I=>by simp at U,aA _,fun _ _ _=>rfl,eE,eE,eE,eE,eE,eE,eE,eE⟩
end Go.Proofs.Ytbflaciihaijgaa
