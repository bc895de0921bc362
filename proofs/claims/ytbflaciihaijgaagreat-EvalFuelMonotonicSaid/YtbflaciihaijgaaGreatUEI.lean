/- Lemmas for the last file. -/
import Derived.Test.YtbflaciihaijgaaGreatUEH
set_option linter.all false
set_option maxHeartbeats 32000000
namespace Go.Ab
set_option maxRecDepth 20000
open Go
variable{qn:Prop}
def TP(h:qn:=by show((og a (cJ p)).getD []).length < _;rw[DN m];omega):=h
def MK(h:qn:=by rw[<- hHd];exact Nat.le_refl _):=h
def TQ(h:qn:=by rw[List.drop_eq_getElem_cons hlt,List.any_cons]):=h
def A0(h:qn:=by simp[jS]at h):=h
def A1(h:qn:=by simp[fL]at h):=h
def A2(h:qn:=by simp[fE]at h):=h
def DJ(h:qn:=by simp[fM]at h):=h
def HT(h:qn:=by rw[V.s];decide):=h
def TS(h:qn:=by rw[o5 _ (nw _ ac) (na _ ac)];exact g4s):=h
def TT(h:qn:=by rw[o5 _ (nw _ ac) (na _ ac)];exact g4b):=h
def TU(h:qn:=by rw[o5 _ (nw _ ac) (na _ ac)];exact g40):=h
def ML(h:qn:=by rw[Hp.get_set,if_pos cN]):=h
def MM:=@cond_true
def HU:=@cond_false
def MN:=@Bool.not_eq_true
def zw:=@List.nodup_cons
def DK:=@Go.IntKind.wrap_u8
def HV:=@Int.fdiv_eq_ediv_of_nonneg
def DL:=@Go.IntKind.wrap_u64
def tO:=@List.prefix_refl
def xR:=@Nat.lt_of_le_of_lt
def zhO:=@List.not_mem_nil
def zhP:=@or_false
def iG:=And.intro @aC.{0,0} @am.{0}
def zhQ:=And.intro @eJ.{0} @zhO.{0}
def od:=And.intro zhQ @zhP
end Go.Ab
namespace Go.Proofs.YtbflaciihaijgaaGreat
set_option maxRecDepth 20000
open Go Go.Ab Proofs.Tryz
variable(ρ:Nat->Int)
variable{p:Pr}{H:Hp}{v w a:AV}{lo L r i:Nat}{f:Fu}
section
def tyR3i.tyF:=ad @cG (ad @eG (ad @ij (ad @l8 (ad @jU (ad @jx (ad @i7 (ad @jh (ad @iC (ad @tG (ad @kg (ad @LL (ad @TN (@DH)))))))))))))
open tyR3i
noncomputable def TV:=qd (M:=59) f96.eq_1
def tQ(p:Pr)(s:qD):Nat:=((p.funcs[(bW p.funcs s 0).toNat]?).map fun f=>f.params.length).getD 0
def pn(p:Pr)(x:St):Bool:=!(decide (x.az=6) && !decide ((x.args.length:Int)=tQ p x.to))
section
variable (c:Sc)
mutual
def i8(b:Bool):St->Bool
 | .mk k L Z n a v I O V=>(bif b then pn c.p (.mk k L Z n a v I O V)else k4 c (.mk k L Z n a v I O V))&&dJ b O&&dJ b V
def dJ(b:Bool):qJ->Bool
 |[]=>true
 |x::l=>i8 b x&&dJ b l
end
theorem zx(b:Bool)(x:St):i8 c b x=((bif b then pn c.p x else k4 c x)&&dJ c b x.bm&&dJ c b x.bO):=by cases x;rw[i8];rfl
end
section
variable (p:Pr)
mutual
def A3:St->Bool
 | .mk k L O n a v I Z V=>(!decide (k=6)||decide (0<=bW p.funcs O 0))&&rZ Z&&rZ V
def rZ:qJ->Bool
 |[]=>true
 |x::l=>A3 x&&rZ l
end
theorem TW(x:St):A3 p x=((!decide (x.az=6)||decide (0<=bW p.funcs x.to 0))&&rZ p x.bm&&rZ p x.bO):=by cases x;rw[A3];rfl
end
theorem TX{p:Pr}:∀{l:qJ}{x:St},rZ p l=true->x∈l->A3 p x=true
 |[],_,_,h=>by simp at h
 |e::es,x,hc,h=>by
  simp only[rZ,bT]at hc;rcases eJ.1 h with rfl|h
  .exact hc.1
  .exact TX hc.2 h
theorem A4:∀(l:qV) (s:qD) (i:Nat),0<=bW l s i->∃k,k<l.length/\bW l s i=((i+k:Nat):Int)
 |[],s,i,h=>by simp[bW]at h
 |f::l,s,i,h=>by
  simp only[bW]at h⊢;split
  .exact⟨0,aB,aB⟩
  .rename_i J;rw[ah J]at h;obtain⟨k,j,m⟩:=A4 l s (i+1) (by exact h);exact⟨k+1,z7,by rw[show((i:Int)+1)=((i+1:Nat):Int) by omega,m];omega⟩
theorem zhR{s:qD}(h:0<=bW p.funcs s 0):∃g,p.funcs[(bW p.funcs s 0).toNat]?=some g/\tQ p s=g.params.length:=by
 obtain⟨k,j,m⟩:=A4 p.funcs s 0 h;have e:(bW p.funcs s 0).toNat=k:=by
  have:bW p.funcs s ((0:Nat):Int)=bW p.funcs s 0:=rfl;rw[this]at m;omega
 refine⟨p.funcs[k],?_,?_⟩
 .rw[e];exact aX j
 .unfold tQ;rw[e,aX j];rfl
theorem Sc.c3(x:Sc):x.cells[3]?=some (.aE (x.p.funcs.map Fu.cells)):=rfl
noncomputable def TY:En:=⟨149,false,co (fun x=>x.1.ok/\x.2.sz<2^60) DI fun x=>.bool (k4 x.1 x.2)⟩
def zhS:de prog ρ TY:=dA fun x I=>zhN ρ x.1 x.2 I.1 I.2
structure Cs where
 c:Sc
 l:qJ
 b:Bool
def tR(x:Cs):qB:=[.agg x.c.cells,.aE (x.l.map St.cells),.bool x.b]
def MO(x y:Cs)(h:tR x=tR y):x=y:=by
 obtain⟨a,b,c⟩:=x;obtain⟨C,J,Z⟩:=y;simp only[tR,eX,AV.agg.injEq,AV.aE.injEq,AV.bool.injEq,aV]at h;rw[Sc.inj h.1,G9 h.2.1,h.2.2]
def Cs.ok(x:Cs):Prop:=x.c.ok/\bF x.l<2^60/\(x.b=true->rZ x.c.p x.l=true)
noncomputable def MP:qH:=[AY,TY]
def zhT:gX prog ρ MP:=⟨MJ ρ,zhS ρ,trivial⟩
def xS(x:Cs):AV:=.bool (dJ x.c x.b x.l)
set_option maxRecDepth 100000 in
theorem zhU:∀x:Cs,x.ok->bA prog ρ 96 (tR x) (xS x):=
 zd fit (pls:=pls) (zhT ρ) (fun x=>bF x.l) (ok:=Cs.ok) (enc:=tR) (out:=xS) (fun x _=>.cons (.agg x.c.pure) (.cons (Dd _) (.cons (.bool _) .nil))) (fun x _=>.bool _) (fun x j=>by
 have hw:=zh (sz:=fun x:Cs=>bF x.l) (ok:=Cs.ok) (out:=xS) MO (f:=96) (l:=MP) x;generalize hl:(⟨96,false,co (fun y=>Cs.ok y/\bF y.l<bF x.l) tR xS⟩:En)::MP=l at hw⊢;obtain⟨c,x,b⟩:=x;obtain⟨hc,j,L⟩:=j;simp only[]at hc j L;have O:∀y:qJ,bF y<bF x->(b=true->rZ c.p y=true)->∀H,aR prog (aA pls l) 96 [.agg c.cells,.aE (y.map St.cells),.bool b] H fun v H'=>v=.bool (dJ c b y)/\H'=H:=fun y m h3 H=>by
  subst hl;exact cQ (enc:=tR) (out:=xS) MO (x:=⟨c,y,b⟩) rfl ⟨⟨hc,xN,h3⟩,m⟩
 have kd:∀y:St,y.sz<2^60->∀H,aR prog (aA pls l) 149 [.agg c.cells,.agg y.cells] H fun v H'=>v=.bool (k4 c y)/\H'=H:=fun y m H=>by
  subst hl;exact cQ (enc:=DI) (out:=fun x=>.bool (k4 x.1 x.2)) zhL (x:=(c,y)) rfl ⟨hc,m⟩
 have hpf:c.p.funcs.length<2^60:=by have h:=hc.2.2;have m:c.p.sz=1+jt c.p.ab+iA c.p.funcs:=rfl;have:=vJ c.p.funcs;omega
 have kf:∀s H,aR prog (aA pls l) 55 [.agg c.p.cells,.ay s] H fun v H'=>v=.int .i64 (bW c.p.funcs s 0)/\H'=H:=fun s H=>by
  subst hl;exact cQ (enc:=zu) (out:=fun x=>.int .i64 (bW x.1.funcs x.2 0)) MI (x:=(c.p,s)) rfl hpf
 have hlen:=yL x;have hplan:∀id,(aA pls l).cD 96 id=.text:=fun _=>by first|rfl|(simp[aA,yH,pls])
 change aR _ _ _ [.agg c.cells,.aE (x.map St.cells),.bool b] _ _;refine a4 (M:=59) (rs:=[.tmp 6]) hw.call hw.bU hw.cm func96 rfl rfl TV.2.1 rfl ?_;dsimp only[TV,qd,a1,Nat.reduceAdd];refine dX ?_;refine cP [1,2,3] [0] 7 x.length (fun i E H=>dJ c b x=dJ c b (x.drop i)) eE aB ?_;rintro i E H2 hi hcE hrH hnH hsI I;(try simp only[bz,a7,aV,aK,bb,Nat.reduceBEq, *]at hcE);(try simp only[bz,a7,aV,aK,bb, *]at hrH);(try simp only[aS,cL,bR]at hnH);have hB0:(0 == H2.next)=false:=aZ ac;have hC0:(H2.next == 0)=false:=aZ ac;repeat' (first
  |(apply ay ?_;clear hK K)|apply a9 ?_|(apply bU ?_ ?_<;>(intro hb hbp;try(cases hb;done)))|(apply az fun K hK=>?_)|fail)
 .have C:i<x.length:=by simpa using hb
  have hgx:x[i]?=some x[i]:=aX C;have hsm:=tz (dE C);have hsz:=x[i].a9;have hcl:b=true->A3 c.p x[i]=true:=fun h=>TX (L h) (dE C);have z:dJ c b (x.drop i)=(i8 c b x[i]&&dJ c b (x.drop (i+1))):=oW;rw[zx]at z;cases b with
  |false=>
   rw[HU]at z;repeat' (first
    |(apply ay ?_;clear hK K)|apply a9 ?_|(apply fq ?_;first|refine Rx.k (kd _ ac _) ?_|refine Rx.k (O _ ac (fun h=>rD) _) ?_)|(apply gL ?_ ?_<;>(intro hg hgp;try(cases hg;done)))|(apply bU ?_ ?_<;>(intro hb hbp;try(cases hb;done)))|(apply az fun K hK=>?_)|fail)
   all_goals (first|(refine⟨aE,_,aO,?_⟩;(try simp only[aD]);change _=AV.bool (dJ c _ x);rw[I,z];(try simp only[fA]at *);simp only[ *,pP,fV,];done)|skip)
   refine⟨ac,aW,aW,b8,AH,?_⟩;rw[I,z];(try simp only[kY]at *);simp only[*,gW,fV,]
  |true=>
   rw[MM]at z;have Z:=hcl rfl;rw[TW,bT,bT]at Z;obtain⟨⟨hk6,Y⟩,V⟩:=Z;by_cases h6:x[i].az=6
   .have hf0:0<=bW c.p.funcs x[i].to 0:=by simpa [h6]using hk6
    obtain⟨g,hg6,J⟩:=zhR hf0;have gh0:=@Sc.c3;repeat' (first
     |(apply ay ?_;clear hK K)|apply aT ?_|(apply eA ?_;first|refine Rx.k (kf _ _) ?_|refine Rx.k (O _ ac (fun _=>Y) _) ?_|refine Rx.k (O _ ac (fun _=>V) _) ?_)|(apply cR ?_ ?_<;>(intro hg hgp;try(cases hg;done)))|(apply a2 ?_ ?_<;>(intro hb hbp;try(cases hb;done)))|(apply az fun K hK=>?_)|(apply bV 6 [(1,14),(5,14),(5,21),(6,14),(6,21),(9,14),(9,21),(11,14),(13,14),(17,21),(18,21)] fun K hK=>?_)|(apply bB ?_;try intro _)|(apply bY ?_ ?_<;>clear hK K)|(apply xr ?_ ?_<;>(intro hg hgp;try(cases hg;done)))|fail)
    .exact bM
    all_goals (first|(refine⟨aE,_,aO,?_⟩;(try simp only[aD]);change _=AV.bool (dJ c _ x);rw[I,z,pn,J];(try simp only[fA]at *);simp only[ *,nR,pP,fV,uz,mJ,];done)|skip)
    refine⟨ac,aW,aW,b8,AH,?_⟩;rw[I,z,pn,J];(try simp only[kY]at *);simp only[*,nR,AI,gW,fV,uz,mJ,]
   .have gh0:=@Sc.c3;repeat' (first
     |(apply ay ?_;clear hK K)|apply aT ?_|(apply eA ?_;first|refine Rx.k (O _ ac (fun _=>Y) _) ?_|refine Rx.k (O _ ac (fun _=>V) _) ?_)|(apply cR ?_ ?_<;>(intro hg hgp;try(cases hg;done)))|(apply a2 ?_ ?_<;>(intro hb hbp;try(cases hb;done)))|(apply az fun K hK=>?_)|(apply bV 6 [(1,14),(5,14),(5,21),(6,14),(6,21),(9,14),(9,21),(11,14),(13,14),(17,21),(18,21)] fun K hK=>?_)|(apply bB ?_;try intro _)|(apply bY ?_ ?_<;>clear hK K)|(apply xr ?_ ?_<;>(intro hg hgp;try(cases hg;done)))|fail)
    .exact bM
    all_goals (first|(refine⟨aE,_,aO,?_⟩;(try simp only[aD]);change _=AV.bool (dJ c _ x);rw[I,z,pn];(try simp only[fA]at *);simp only[ *,lA,pP,fV,mJ,];done)|skip)
    refine⟨ac,aW,aW,b8,AH,?_⟩;rw[I,z,pn];(try simp only[kY]at *);simp only[*,lA,nh,gW,fV,mJ,]
 .all_goals refine qi ?_
  rw[xS,I,show i=x.length by simp at hb;omega];simp[dJ])
end
variable{l:qC}
section
def tyR3j.tyF:=ad @dm (ad @cG (ad @eG (ad @ij (ad @l8 (ad @jU (ad @jx (ad @i7 (ad @jh (ad @iC (ad @tG (ad @nZ (ad @kg (ad @LL (ad @TI (@HQ)))))))))))))))
open tyR3j
noncomputable def TZ:=qd (M:=86) f54.eq_1
def zhV{c c':Sc}(j:c.vars=c'.vars)(m:c.an=c'.an)(C:c.p=c'.p)(x:St):k4 c x=k4 c' x:=by
 unfold k4 mN;rw[j,m,C]
mutual
theorem zhW{c c':Sc}(j:c.vars=c'.vars)(m:c.an=c'.an)(C:c.p=c'.p)(b:Bool):∀x:St,i8 c b x=i8 c' b x
 | .mk k L Z n a v I O V=>by
   simp only[i8,DM j m C b O,DM j m C b V,zhV j m C,C]
theorem DM{c c':Sc}(j:c.vars=c'.vars)(m:c.an=c'.an)(C:c.p=c'.p)(b:Bool):∀l:qJ,dJ c b l=dJ c' b l
 |[]=>rfl
 |x::l=>by simp only[dJ,zhW j m C b x,DM j m C b l]
end
def og(v:AV)(l:qC):Option qC:=match v with
 | .ao=>none
 |_=>some l
theorem DN(h:eU H v l lo):(og v l).getD []=l:=by
 rcases h with⟨rfl,rfl⟩|⟨r,Y,rfl,_⟩<;>rfl
theorem eU.f7(h:eU H v l lo)(n:Nat):
 ∃H',fJ (n+2) v H=some (uQ (og v l),H')/\eU H' v l lo/\H'.next=H.next/\∀k,¬a3 v k->H'.get k=H.get k:=by
 rcases h with⟨rfl,rfl⟩|h
 .exact⟨H,rfl,.inl ⟨rfl,rfl⟩,rfl,fun _ _=>rfl⟩
 .obtain⟨H',j,m,C,_,z⟩:=h.bU n;refine⟨H',?_,.inr m,C,z⟩;rw[j];obtain⟨r,Y,rfl,_⟩:=h;rfl
theorem T0{vs Y:qC}(j:dW H w vs lo)(m:eU H a Y L)(hd:∀k,a3 a k->¬a3 w k)(p:Pr)(n:Nat):
 ∃H',fJ (n+3) (.agg [w,a,.aE (p.ab.map Ar.cells),.aE (p.funcs.map Fu.cells)]) H=some (.agg (Sc.cells ⟨vs,og a Y,p⟩),H')/\dW H' w vs lo/\eU H' a Y L/\H'.next=H.next/\∀k,¬a3 w k->¬a3 a k->H'.get k=H.get k:=by
 obtain⟨H1,J,I,h3,_,V⟩:=j.bU n;have Z:eU H1 a Y L:=m.keep ac fun k z=>V k (hd k z);obtain⟨H2,g1,g2,g3,O⟩:=Z.f7 n;refine⟨H2,?_,I.keep ac fun k z=>O k fun h=>hd k h z,g2,ac,fun k h C=>by rw[O k C,V k h]⟩;have e:fJ (n+3) (.agg [w,a,.aE (p.ab.map Ar.cells),.aE (p.funcs.map Fu.cells)]) H=match iV (fJ (n+2)) [w,a,.aE (p.ab.map Ar.cells),.aE (p.funcs.map Fu.cells)] H with
  |some (ds,H)=>some (.agg ds,H)
  |none=>none:=rfl
 rw[e];simp only[iV,J,g1];rfl
noncomputable def T1:En:=⟨96,true,co Cs.ok tR xS⟩
def zhX:de prog ρ T1:=dA fun x I=>zhU ρ x I
noncomputable def T2:En:=⟨93,false,co (fun p=>p.sz<2^36) nJ fun p=>.bool (k3 p)⟩
def zhY:de prog ρ T2:=dA fun p hp=>zhu ρ p ac
noncomputable def T3:En:=⟨94,false,co (fun p=>p.sz<2^36) nJ fun p=>.bool (mM p)⟩
def zhZ:de prog ρ T3:=dA fun p hp=>zhG ρ p hp
noncomputable def T4:En:=⟨95,false,co (fun p=>p.sz<2^36) nJ fun p=>.bool (nK p)⟩
def zh0:de prog ρ T4:=dA fun p hp=>zhH ρ p hp
noncomputable def xT:qH:=[T2,T3,T4,T1,MH]
def zh1:gX prog ρ xT:=⟨zhY ρ,zhZ ρ,zh0 ρ,zhX ρ,TO ρ,trivial⟩
def ki(p:Pr)(f:Fu):Sc:=⟨f.params++f.aK,some (cJ p),p⟩
def kq(p:Pr)(f:Fu):Bool:=!(dJ (ki p f) false f.body&&fC (ki p f).vars (ki p f).an f.value)
def mg(p:Pr)(f:Fu):Bool:=!dJ (ki p f) true f.body
def fP(p:Pr):Int:=if k3 p=true then 6 else if mM p=false then 2 else if nK p=true then 4 else if p.funcs.any (kq p)=true then 3 else if p.funcs.any (mg p)=true then 5 else 0
theorem T5(j:dW H w (f.params++f.aK) lo)(m:eU H a (cJ p) L)(hd:∀k,a3 a k->¬a3 w k)(Z:p.sz<2^60)(hf:f.sz<2^60)(b:Bool)(hb:b=true->rZ p f.body=true):
 aR prog (aA pls xT) 96 [.agg [w,a,.aE (p.ab.map Ar.cells),.aE (p.funcs.map Fu.cells)],.aE (f.body.map St.cells),.bool b] H fun v H'=>v=.bool (dJ (ki p f) b f.body)/\dW H' w (f.params++f.aK) lo/\eU H' a (cJ p) L/\H.next<=H'.next/\∀k,¬a3 w k->¬a3 a k->H'.get k=H.get k:=by
 obtain⟨H',Y,V,C,h4,O⟩:=T0 j m hd p 97;have I:f.sz=1+f.name.length+gl f.params+gl f.aK+bF f.body+f.value.sz:=rfl;have hpl:=oL f.params;have hll:=oL f.aK;have hpz:p.sz=1+jt p.ab+iA p.funcs:=rfl;have hla:=vK p.ab;have hal:(cJ p).length=p.ab.length:=by simp[cJ]
 have z:Cs.ok ⟨⟨f.params++f.aK,og a (cJ p),p⟩,f.body,b⟩:=⟨⟨cZ,TP,Z⟩,xN,hb⟩;refine a8 ?_ (LR (enc:=tR) (out:=xS) MO (x:=⟨⟨f.params++f.aK,og a (cJ p),p⟩,f.body,b⟩) (fun _=>rfl) rfl z (H':=H') (fun y _ e=>?_) ?_)
 .rintro v _ ⟨rfl,rfl|rfl⟩
  .refine⟨?_,V,C,ac,O⟩;show AV.bool (dJ ⟨f.params++f.aK,og a (cJ p),p⟩ b f.body)=_;rw[DM (c:=⟨f.params++f.aK,og a (cJ p),p⟩) (c':=ki p f) rfl (DN m) rfl]
  .refine⟨?_,j,m,aG _,fun _ _ _=>rfl⟩;show AV.bool (dJ ⟨f.params++f.aK,og a (cJ p),p⟩ b f.body)=_;rw[DM (c:=⟨f.params++f.aK,og a (cJ p),p⟩) (c':=ki p f) rfl (DN m) rfl]
 .obtain⟨r,J,rfl,_⟩:=j;simp[tR,Sc.cells]at e
 .show iV (fJ 100) [.agg [w,a,.aE (p.ab.map Ar.cells),.aE (p.funcs.map Fu.cells)],.aE (f.body.map St.cells),.bool b] H=some (tR ⟨⟨f.params++f.aK,og a (cJ p),p⟩,f.body,b⟩,H');simp only[iV,Y];rfl
theorem zh2(j:dW H w (f.params++f.aK) lo)(m:eU H a (cJ p) L)(hd:∀k,a3 a k->¬a3 w k)(Z:p.sz<2^60)(hf:f.sz<2^60):
 aR prog (aA pls xT) 97 [.agg [w,a,.aE (p.ab.map Ar.cells),.aE (p.funcs.map Fu.cells)],.agg f.value.cells] H fun v H'=>v=.bool (fC (ki p f).vars (ki p f).an f.value)/\dW H' w (f.params++f.aK) lo/\eU H' a (cJ p) L/\H.next<=H'.next/\∀k,¬a3 w k->¬a3 a k->H'.get k=H.get k:=by
 obtain⟨H',Y,V,C,h4,O⟩:=T0 j m hd p 97;have I:f.sz=1+f.name.length+gl f.params+gl f.aK+bF f.body+f.value.sz:=rfl;have hpl:=oL f.params;have hll:=oL f.aK;have hpz:p.sz=1+jt p.ab+iA p.funcs:=rfl;have hla:=vK p.ab;have hal:(cJ p).length=p.ab.length:=by simp[cJ]
 have z:Sc.ok ⟨f.params++f.aK,og a (cJ p),p⟩/\f.value.sz<2^60:=⟨⟨cZ,TP,Z⟩,ac⟩;refine a8 ?_ (LR (enc:=sP) (ok:=fun x=>x.1.ok/\x.2.sz<2^60) (out:=fun x=>.bool (fC x.1.vars x.1.an x.2)) HR (x:=(⟨f.params++f.aK,og a (cJ p),p⟩,f.value)) (fun _=>rfl) rfl z (H':=H') (fun y _ e=>?_) ?_)
 .rintro v _ ⟨rfl,rfl|rfl⟩
  .refine⟨?_,V,C,ac,O⟩;show AV.bool (fC (f.params++f.aK) ((og a (cJ p)).getD []) f.value)=_;rw[DN m];rfl
  .refine⟨?_,j,m,aG _,fun _ _ _=>rfl⟩;show AV.bool (fC (f.params++f.aK) ((og a (cJ p)).getD []) f.value)=_;rw[DN m];rfl
 .obtain⟨r,J,rfl,_⟩:=j;simp[sP,Sc.cells]at e
 .show iV (fJ 100) [.agg [w,a,.aE (p.ab.map Ar.cells),.aE (p.funcs.map Fu.cells)],.agg f.value.cells] H=some (sP (⟨f.params++f.aK,og a (cJ p),p⟩,f.value),H');have he:fJ 100 (.agg f.value.cells) H'=some (.agg f.value.cells,H'):=by
   rw[tx];rfl
  simp only[iV,Y,he];rfl
def zh3(p:Pr)(r n:Nat):eg prog 169 [(0,.sl r 0 n 1),(2,.agg p.cells)]=some (.agg [.sl r 0 n 1,.ao,.aE (p.ab.map Ar.cells),.aE (p.funcs.map Fu.cells)]):=ax
theorem HW(a b c d:AV):cr 4 [a,b,c,d]=some (.agg [a,b,c,d]):=rfl
mutual
theorem zh4{c:Sc}:∀x:St,i8 c false x=true->A3 c.p x=true
 | .mk k L Y n a v I V J,h=>by
   rw[zx,HU,bT,bT]at h;obtain⟨⟨j,m⟩,C⟩:=h;rw[TW,HY _ m,HY _ C];simp only[k4,bT]at j;have Z:=j.2;unfold mN at Z;by_cases O:(St.mk k L Y n a v I V J).az=6
   .rw[ah (by rw[O];decide),ai O,bT]at Z;simp only[Z.2,sN,fV]
   .simp only[O,lA,mJ,nX,fV]
theorem HY{c:Sc}:∀l:qJ,dJ c false l=true->rZ c.p l=true
 |[],_=>rfl
 |x::l,h=>by
  simp only[dJ,bT]at h;simp only[rZ,zh4 x h.1,HY l h.2,fV]
end
abbrev qu:HB:=.cells [.ao,.ao,.ao,.ao] 0 true
set_option maxRecDepth 100000 in
theorem zh5(p:Pr)(hz:p.sz<2^36):bA prog ρ 54 [.agg p.cells] (.int .i64 (fP p)):=fF fit (pls:=pls) (zh1 ρ) (.cons (.agg p.pure) .nil) (.int _ _) (by
 have hw:zd0 (aA pls xT) 54:=gY (fun _=>rfl) rfl;have hkeep:(aA pls xT).keep 54=false:=rfl;have ke:∀H,aR prog (aA pls xT) 93 [.agg p.cells] H fun v H'=>v=.bool (k3 p)/\H'=H:=fun H=>cQ (enc:=nJ) (out:=fun p=>.bool (k3 p)) AT (x:=p) rfl hz;have kw:∀H,aR prog (aA pls xT) 94 [.agg p.cells] H fun v H'=>v=.bool (mM p)/\H'=H:=fun H=>cQ (enc:=nJ) (out:=fun p=>.bool (mM p)) AT (x:=p) rfl hz;have kd:∀H,aR prog (aA pls xT) 95 [.agg p.cells] H fun v H'=>v=.bool (nK p)/\H'=H:=fun H=>cQ (enc:=nJ) (out:=fun p=>.bool (nK p)) AT (x:=p) rfl hz;have hpz:p.sz=1+jt p.ab+iA p.funcs:=rfl;have hla:=vK p.ab;have hlf:=vJ p.funcs;have hal:(cJ p).length=p.ab.length:=by simp[cJ]
 refine qe hw func54 TZ ?_;dsimp only[TZ,qd,a1,Nat.reduceAdd];repeat' (first
  |(apply ay ?_;clear hK K)|apply a9 ?_|(apply fq ?_;first|refine Rx.k (ke _) ?_|refine Rx.k (kw _) ?_|refine Rx.k (kd _) ?_)|(apply bU ?_ ?_<;>(intro hb hbp;try(cases hb;done)))|(apply az fun K hK=>?_)|fail)
 .all_goals refine qi ?_
  simp_all[fP]
 .all_goals refine qi ?_
  simp_all[fP]
 .all_goals refine qi ?_
  simp_all[fP]
 .refine cP [1] [0] 3 2 (fun r E H=>(1<=r->p.funcs.any (kq p)=false)/\(2<=r->p.funcs.any (mg p)=false)) eE ⟨ac,ac⟩ ?_;rintro r E H2 hr2 hcE J hnH hsI ⟨hJ1,hJ2⟩;(try simp only[bz,a7,aV,aK,bb,Nat.reduceBEq, *]at hcE);(try simp only[bz,a7,aV,aK,bb, *]at J);(try simp only[aS,cL,bR]at hnH);have hB0:(0 == H2.next)=false:=aZ ac;have hC0:(H2.next == 0)=false:=aZ ac;refine ET (fun hb hbp=>?_) (fun hb hbp=>?_)
  .have hrlt:r<2:=by omega
   refine cP [1,3] [0] 4 p.funcs.length (fun i E H=>(r=0->p.funcs.any (kq p)=(p.funcs.drop i).any (kq p))/\(r=1->p.funcs.any (mg p)=(p.funcs.drop i).any (mg p))) eE ⟨aB,aB⟩ ?_;rintro i E3 Y hi hcE J hnH hsI ⟨hU,hB⟩;(try simp only[bz,a7,aV,aK,Nat.reduceBEq, *]at hcE);(try simp only[bz,a7,aV, *]at J);(try simp only[aS,bK,cL,bR,Nat.reduceAdd]at hnH);have hB0:(0 == Y.next)=false:=aZ ac;have hC0:(Y.next == 0)=false:=aZ ac;repeat' (first
    |(apply ay ?_;clear hK K)|apply a9 ?_|(apply bU ?_ ?_<;>(intro hb hbp;try(cases hb;done)))|(apply az fun K hK=>?_)|fail)
   .have hlt:i<p.funcs.length:=by simpa using hb
    have hgx:p.funcs[i]?=some p.funcs[i]:=aX hlt;have hsm:=uy (dE hlt);have hsz:p.funcs[i].sz=1+p.funcs[i].name.length+gl p.funcs[i].params+gl p.funcs[i].aK+bF p.funcs[i].body+p.funcs[i].value.sz:=rfl;have hpl:=oL p.funcs[i].params;have hll:=oL p.funcs[i].aK;refine dX ?_;generalize hHb:Hp.set (Hp.alloc Y _) Y.next _=I
    have nb:Y.next+1<=I.next:=Dz
    have gb:I.get Y.next=some (.cells p.funcs[i].cells 0 true):=DA
    have gb0:I.get 0=some (.cells p.cells 0 true):=by rw[<-hHb,aQ,ah ac,aL,ah ac];exact J
    clear hHb;refine QR (id:=14) (ord:=[0,1,2,4,5,7,9,3,6,8,10]) (need:=[(0,7),(2,7),(4,7),(4,8),(5,7),(5,8),(5,10),(6,7),(6,8),(6,10)]) ax ax ax QZ ax fun K hK=>?_;have ebB:(Y.next == I.next)=false:=cZ;have eb0:(0 == I.next)=false:=cZ;have eb1:(0 == I.next+1)=false:=aB;have eb2:(Y.next == I.next+1)=false:=cZ;refine yh ?_;generalize hHd:(I.alloc qo).alloc qu=Hd;have nd:I.next+2<=Hd.next:=MK
    have ndx:Hd.next<=I.next+2:=MK
    have oldd:∀k,k<I.next->Hd.get k=I.get k:=fun k z=>by rw[<-hHd,aL,ah iF,aL,ah ac]
    have gd1:Hd.get I.next=some qo:=by rw[<-hHd,aL,ah iF,aL,ai rfl]
    have gds:Hd.get (I.next+1)=some qu:=by rw[<-hHd,aL,ai (show I.next+1=(I.alloc _).next from rfl)]
    have gdb:Hd.get Y.next=some (.cells p.funcs[i].cells 0 true):=by rw[oldd _ ac];exact gb
    have gd0:Hd.get 0=some (.cells p.cells 0 true):=by rw[oldd _ ac];exact gb0
    clear hHd;have s8:dW Hd (.sl I.next 0 0 1) [] I.next:=⟨I.next,0,rfl,gd1,aB,aG _,ac⟩
    have ow8:∀k,a3 (.sl I.next 0 0 1) k->k=I.next:=fun k ⟨n,e⟩=>by simp only[AV.sl.injEq]at e;exact e.1.symm
    obtain⟨w9,H9,ro,s9,n9,f9,o9⟩:=AJ p.funcs[i].params s8 ac cZ;have ow9:∀k,a3 w9 k->k=I.next\/I.next+2<=k:=fun k z=>(o9.2 k z).elim (fun h=>.inl (ow8 k h)) (fun h=>.inr ac)
    have g9s:H9.get (I.next+1)=some qu:=by rw[o9.1 _ ac (fun h=>by have:=ow8 _ h;omega)];exact gds
    have g9b:H9.get Y.next=some (.cells p.funcs[i].cells 0 true):=by rw[o9.1 _ ac (fun h=>by have:=ow8 _ h;omega)];exact gdb
    have g90:H9.get 0=some (.cells p.cells 0 true):=by rw[o9.1 _ ac (fun h=>by have:=ow8 _ h;omega)];exact gd0
    refine mG cS cS (by rw[hkeep];exact ro) ?_;refine yh ?_;obtain⟨Z,H11,a11,s11,n11,f11,o11⟩:=AJ p.funcs[i].aK s9 ac cZ;have ow11:∀k,a3 Z k->k=I.next\/I.next+2<=k:=fun k z=>(o11.2 k z).elim (fun h=>ow9 k h) (fun h=>.inr ac)
    have g11s:H11.get (I.next+1)=some qu:=by rw[o11.1 _ ac (fun h=>by have:=ow9 _ h;omega)];exact g9s
    have g11b:H11.get Y.next=some (.cells p.funcs[i].cells 0 true):=by rw[o11.1 _ ac (fun h=>by have:=ow9 _ h;omega)];exact g9b
    have g110:H11.get 0=some (.cells p.cells 0 true):=by rw[o11.1 _ ac (fun h=>by have:=ow9 _ h;omega)];exact g90
    refine mG cS cS (by rw[hkeep];exact a11) ?_;have hbs:eg prog 169 [(0,Z),(2,.agg p.cells)]=some (.agg [Z,.ao,.aE (p.ab.map Ar.cells),.aE (p.funcs.map Fu.cells)]):=by
     obtain⟨q,imm,hq,_⟩:=s11;rw[hq];exact zh3 p _ _
    have hone:=s11.one;have h1o:=hone.1;repeat' (first
     |(apply ay ?_;clear hK K)|apply a9 ?_|(apply az fun K hK=>?_)|(apply bB ?_;try intro _)|(apply bY ?_ ?_<;>clear hK K)|fail)
    .exact bM
    generalize hH12:Hp.set H11 (I.next+1) _=V;have n12:H11.next<=V.next:=by rw[<-hH12];exact aG _
    have O:∀k,k≠I.next+1->V.get k=H11.get k:=fun k z=>by rw[<-hH12,aQ,ah z]
    have g12s:V.get (I.next+1)=some (.cells [Z,.ao,.aE (p.ab.map Ar.cells),.aE (p.funcs.map Fu.cells)] 0 true):=by rw[<-hH12,aQ,ai rfl]
    have g12b:V.get Y.next=some (.cells p.funcs[i].cells 0 true):=by rw[O _ ac];exact g11b
    have g120:V.get 0=some (.cells p.cells 0 true):=by rw[O _ ac];exact g110
    have s12:dW V Z (p.funcs[i].params++p.funcs[i].aK) I.next:=s11.keep n12 fun k z=>O k fun e=>by have:=ow11 k z;omega
    have cw:∀k,a3 Z k->k<V.next:=fun k z=>(s12.lt z).2
    have m12:I.next+2<=V.next:=ac
    have hfl:(p.funcs[i].params++p.funcs[i].aK).length<2^38:=cZ;clear hH12 O s11 a11 o11 f11 ro o9 f9 s9 s8 gds gdb gd1 gd0 g9s g9b g90 g11s g11b g110 hbs n9 n11 oldd ow9 ow8 gb gb0 hone;have hnoS:∀k,a3 Z k->k≠I.next+1/\Y.next<k:=fun k z=>by have:=ow11 k z;omega
    clear ow11;refine cP [1,3,4,5,6] [0,Y.next] 7 p.ab.length (fun j E H=>∃a seen,H.get (I.next+1)=some (.cells [Z,a,.aE (p.ab.map Ar.cells),.aE (p.funcs.map Fu.cells)] 0 true)/\eU H a seen V.next/\dW H Z (p.funcs[i].params++p.funcs[i].aK) I.next/\wj (cJ p) seen j/\AV.one a=true) eE ⟨.ao,[],g12s,.inl ⟨rfl,rfl⟩,s12,by simp[wj],rfl⟩ ?_;rintro j E4 L hj hcE J hnH hsI ⟨a,seen,g4s,s4,t4,hsn,hoa⟩;(try simp only[bz,a7,aV,aK,bb,Nat.reduceBEq, *]at hcE);(try simp only[bz,a7,aV, *]at J);(try simp only[aS,bK,cL,bR,Nat.reduceAdd]at hnH);have hB0:(0 == L.next)=false:=aZ ac;have hC0:(L.next == 0)=false:=aZ ac;have hB1:(Y.next == L.next)=false:=aZ ac;have hC1:(L.next == Y.next)=false:=aZ ac;have hsl:seen.length<=p.ab.length:=by have:cJ p=seen++(cJ p).drop j:=hsn;have:=pC List.length this;rw[fx]at this;omega
    have hdU:(p.funcs.drop i).any (kq p)=(kq p p.funcs[i]||(p.funcs.drop (i+1)).any (kq p)):=TQ;have hdB:(p.funcs.drop i).any (mg p)=(mg p p.funcs[i]||(p.funcs.drop (i+1)).any (mg p)):=TQ;have hend:j=(cJ p).length->eU L a (cJ p) V.next:=fun hje=>by
     unfold wj at hsn;rw[hje,kL,bq]at hsn;rw[<-hsn]at s4;exact s4
    have hd:∀k,a3 a k->¬a3 Z k:=fun k h1 h2=>by have:=(s4.lt h1).1;have:=cw k h2;omega
    have hz60:p.sz<2^60:=ac;have hf60:p.funcs[i].sz<2^60:=ac;have nw:∀k,k<=Y.next\/k=I.next+1->¬a3 Z k:=fun k z h=>by have:=hnoS k h;omega
    have na:∀k,k<=Y.next\/k=I.next+1->¬a3 a k:=fun k z h=>by have:=(s4.lt h).1;omega
    have g4b:L.get Y.next=some (.cells p.funcs[i].cells 0 true):=J.2
    have g40:L.get 0=some (.cells p.cells 0 true):=J.1;have gh0:=@HW;repeat' (first
     |(apply ay ?_;clear hK K)|apply a9 ?_|(apply gL ?_ ?_<;>(intro hg hgp;try(cases hg;done)))|(apply bU ?_ ?_<;>(intro hb hbp;try(cases hb;done)))|(apply az fun K hK=>?_)|(apply bV 18 [(1,9),(3,9),(7,9),(8,9)] fun K hK=>?_)|(apply bB ?_;try intro _)|fail)
    .have hlt2:j<p.ab.length:=by simpa using hb
     have hgx2:p.ab[j]?=some p.ab[j]:=aX hlt2;have hgn:(cJ p)[j]' ac=p.ab[j].name:=by simp[cJ]
     have hsn2:=TK ac hsn;rw[hgn]at hsn2;refine yh ?_;have m:∀k,k<L.next->(L.alloc (.cells [.ay p.ab[j].name] 0 true)).get k=L.get k:=fun k z=>dT
     have g4e:(L.alloc (.cells [.ay p.ab[j].name] 0 true)).get (I.next+1)=some (.cells [Z,a,.aE (p.ab.map Ar.cells),.aE (p.funcs.map Fu.cells)] 0 true):=by rw[m _ ac];exact g4s
     have g40e:(L.alloc (.cells [.ay p.ab[j].name] 0 true)).get 0=some (.cells p.cells 0 true):=by rw[m _ ac];exact J.1
     have g4n:(L.alloc (.cells [.ay p.ab[j].name] 0 true)).get L.next=some (.cells [.ay p.ab[j].name] 0 true):=fw
     have s4b:eU (L.alloc (.cells [.ay p.ab[j].name] 0 true)) a seen V.next:=s4.keep (dg _) fun k z=>m k (s4.lt z).2
     obtain⟨cI,C,q5,s5,n5,f5,o5⟩:=Du (r:=L.next) (imm:=0) p.ab[j].name s4b iF g4n ac;simp only[aS]at n5;have m5:L.next+2<=C.next:=ac
     clear n5;have g5s:C.get (I.next+1)=some (.cells [Z,a,.aE (p.ab.map Ar.cells),.aE (p.funcs.map Fu.cells)] 0 true):=by rw[f5 _ ac];exact g4e
     have g5b:C.get Y.next=some (.cells p.funcs[i].cells 0 true):=by rw[f5 _ ac,m _ ac];exact g4b
     have g50:C.get 0=some (.cells p.cells 0 true):=by rw[f5 _ ac];exact g40e
     have t5:dW C Z (p.funcs[i].params++p.funcs[i].aK) I.next:=t4.keep ac fun k z=>by rw[f5 k (cw k z),m k (t4.lt z).2]
     have h5:=s5.one;have h5o:=h5.1;have h5c:=h5.2;refine mG cS cS (by rw[hkeep];exact q5) ?_;repeat' (first
      |(apply ay ?_;clear hK K)|apply a9 ?_|(apply az fun K hK=>?_)|(apply bB ?_;try intro _)|(apply bY ?_ ?_<;>clear hK K)|fail)
     .exact bM
     generalize hH6:Hp.set C (I.next+1) _=H6;have n6:C.next<=H6.next:=by rw[<-hH6];exact aG _
     have old6:∀k,k≠I.next+1->H6.get k=C.get k:=fun k z=>by rw[<-hH6,aQ,ah z]
     have g6s:H6.get (I.next+1)=some (.cells [Z,cI,.aE (p.ab.map Ar.cells),.aE (p.funcs.map Fu.cells)] 0 true):=by rw[<-hH6,aQ,ai rfl]
     have g60:H6.get 0=some (.cells p.cells 0 true):=by rw[old6 _ ac];exact g50
     have g6b:H6.get Y.next=some (.cells p.funcs[i].cells 0 true):=by rw[old6 _ ac];exact g5b
     clear hH6;refine⟨ac,aW,aW,b8,HG,?_⟩;exact⟨cI,seen++[p.ab[j].name],g6s,.inr (s5.keep n6 fun k z=>old6 k (by have:=(s5.lt z).1;omega)),t5.keep n6 (fun k z=>old6 k (hnoS k z).1),hsn2,h5o⟩
    .have hr0:r=0:=by omega
     have s4':=hend ac;refine qj ?_;refine a8 ?_ (T5 t4 s4' hd hz60 hf60 false aB);rintro v0 C ⟨rfl,t5,s5,m5,o5⟩;dsimp only[a0];have g5s:C.get (I.next+1)=some (.cells [Z,a,.aE (p.ab.map Ar.cells),.aE (p.funcs.map Fu.cells)] 0 true):=TS;have g5b:C.get Y.next=some (.cells p.funcs[i].cells 0 true):=TT
     have g50:C.get 0=some (.cells p.cells 0 true):=TU;have hd5:∀k,a3 a k->¬a3 Z k:=hd;have gh0:=@HW;repeat' (first
      |(apply ay ?_;clear hK K)|apply a9 ?_|(apply gL ?_ ?_<;>(intro hg hgp;try(cases hg;done)))|(apply bU ?_ ?_<;>(intro hb hbp;try(cases hb;done)))|(apply az fun K hK=>?_)|fail)
     .refine qj ?_;refine a8 ?_ (zh2 t5 s5 hd5 hz60 hf60);rintro v0 H6 ⟨rfl,t6,s6,m6,o6⟩;dsimp only[a0];have g6s:H6.get (I.next+1)=some (.cells [Z,a,.aE (p.ab.map Ar.cells),.aE (p.funcs.map Fu.cells)] 0 true):=by rw[o6 _ (nw _ ac) (na _ ac)];exact g5s
      have g6b:H6.get Y.next=some (.cells p.funcs[i].cells 0 true):=by rw[o6 _ (nw _ ac) (na _ ac)];exact g5b
      have g60:H6.get 0=some (.cells p.cells 0 true):=by rw[o6 _ (nw _ ac) (na _ ac)];exact g50
      have gh0:=@HW;repeat' (first
       |(apply ay ?_;clear hK K)|apply a9 ?_|(apply gL ?_ ?_<;>(intro hg hgp;try(cases hg;done)))|(apply bU ?_ ?_<;>(intro hb hbp;try(cases hb;done)))|(apply az fun K hK=>?_)|fail)
      .all_goals refine qi ?_
       have hu:p.funcs.any (kq p)=true:=by rw[hU hr0,hdU,kq];(try simp only[fA]at *);simp only[*,nX,AI,mJ,]
       rw[fP,hu];(try simp only[fA]at *);simp only[reduceCtorEq,eq_self, *,dG,fK]
      .refine⟨ac,aW,aW,b8,zf,?_⟩;refine⟨fun _=>?_,fun h=>ac⟩;rw[hU hr0,hdU,kq];(try simp only[kY]at *);simp only[*,l5,fV,uz,]
     .all_goals refine qi ?_
      have hu:p.funcs.any (kq p)=true:=by rw[hU hr0,hdU,kq];(try simp only[fA]at *);simp only[*,nX,nh,mJ,]
      rw[fP,hu];(try simp only[fA]at *);simp only[reduceCtorEq,eq_self, *,dG,fK]
    .have hr1:r=1:=by omega
     have s4':=hend ac;have hJ1':=hJ1 ac;have hcal:rZ p p.funcs[i].body=true:=by
      have hu:kq p p.funcs[i]=false:=by
       have:=uB.1 hJ1' _ (dE hlt);simpa using this
      unfold kq at hu;rw[kY,bT]at hu;exact HY _ hu.1
     refine qj ?_;refine a8 ?_ (T5 t4 s4' hd hz60 hf60 true (fun _=>hcal));rintro v0 C ⟨rfl,t5,s5,m5,o5⟩;dsimp only[a0];have g5s:C.get (I.next+1)=some (.cells [Z,a,.aE (p.ab.map Ar.cells),.aE (p.funcs.map Fu.cells)] 0 true):=TS;have g5b:C.get Y.next=some (.cells p.funcs[i].cells 0 true):=TT
     have g50:C.get 0=some (.cells p.cells 0 true):=TU;have gh0:=@HW;repeat' (first
      |(apply ay ?_;clear hK K)|apply a9 ?_|(apply gL ?_ ?_<;>(intro hg hgp;try(cases hg;done)))|(apply bU ?_ ?_<;>(intro hb hbp;try(cases hb;done)))|(apply az fun K hK=>?_)|fail)
     .all_goals refine qi ?_
      have hu:p.funcs.any (mg p)=true:=by rw[hB hr1,hdB,mg];(try simp only[fA]at *);simp only[*,nX,mJ,]
      rw[fP,hJ1',hu];(try simp only[fA]at *);simp only[reduceCtorEq,eq_self, *,dG,fK]
     .refine⟨ac,aW,aW,b8,zf,?_⟩;refine⟨fun h=>ac,fun _=>?_⟩;rw[hB hr1,hdB,mg];(try simp only[kY]at *);simp only[*,l5,uz,]
    .omega
   .have hie:i=p.funcs.length:=by simp at hb;omega
    rw[hie,kL]at hU hB;refine⟨ac,aW,aW,b8,(by simp only[aK,Nat.reduceBEq, *];exact il (n:=2) ac ac),?_⟩;refine⟨fun h=>?_,fun h=>?_⟩
    .by_cases h0:r=0
     .rw[hU h0];rfl
     .exact hJ1 ac
    .rw[hB ac];rfl
  .all_goals refine qi ?_
   have hr:r=2:=ac;subst hr;have h1:=hJ1 ac;have h2:=hJ2 ac;rw[fP];(try simp only[kY]at *);simp only[reduceCtorEq,eq_self, *,fK])
end
section
def T6(p:Pr):qC:=p.funcs.map (·.name)
theorem MQ(Y:qC):∀(m:qV) (seen:qC),pW Y seen m=(gE seen (m.map (·.name))||m.any fun f=>gE Y (f.params++f.aK))
 |[],seen=>rfl
 |f::m,seen=>by
  rw[pW,eC,gE,uA,MQ Y m]
  grind
theorem MR(s a:aY)(x:Int):∀m:List (aY×Int),di (setV m a x) s=if s=a then x else di m s
 |[]=>by simp[setV,di]
 |q::l=>by
  by_cases h:a=q.1
  .simp only[setV,h,dG,di];split<;>rfl
  .simp only[setV,h,fK,di,MR s a x l]
   grind
theorem A5(a b:qC)(s:qD):bL (a++b) s=(bL a s||bL b s):=by unfold bL;simp_all
theorem DO(a s:qD):bL [a] s=decide (s=a):=by
 unfold bL;grind
theorem MT:∀(l seen:qC),gE seen l=false->∀s,bL seen s=true->bL l s=false
 |[],_,_,_,_=>rfl
 |a::l,seen,h,s,hs=>by
  rw[gE,jG]at h;rw[show a::l=[a]++l from rfl,A5,DO,MT l _ h.2 s (by rw[A5,hs];rfl),oY,oP]
  grind
section
variable (c:Sc)
end
section
variable {p:Pr} (hd:gE [] (T6 p)=false) (c:Sc) (hc:c.p=p)
include hd hc
end
def tyP4e.tyF:=ad @cG (ad @eG (ad @ij (ad @l8 (ad @jU (ad @jx (ad @i7 (ad @iC (ad @tG (ad @zfB (ad @nZ (ad @RH (@HQ))))))))))))
open tyP4e
def oh(l:qC):qU:=l.map fun s=>(.ay s,.bool true)
def DP(l:qC)(s:qD):qC:=if bL l s=true then l else l++[s]
theorem DQ(s:qD):∀(l:qC) (i:Nat),(bL l s=false->lP .string (.ay s) (oh l) i=some none)/\(bL l s=true->∃j,lP .string (.ay s) (oh l) i=some (some (i+j,.bool true))/\(oh l).set j (.ay s,.bool true)=oh l)
 |[],i=>⟨fun _=>rfl,fun h=>by simp[bL]at h⟩
 |a::l,i=>by
  have Z:bL (a::l) s=(decide (s=a)||bL l s):=by rw[show a::l=[a]++l from rfl,A5,DO]
  by_cases h:s=a
  .subst h;rw[Z,jT rfl,nX];refine⟨fun h=>rD,fun _=>⟨0,?_,?_⟩⟩
   .simp[oh,lP,wM]
   .simp[oh]
  .have z:lP .string (.ay s) (oh (a::l)) i=lP .string (.ay s) (oh l) (i+1):=by
    show lP .string (.ay s) ((.ay a,.bool true)::oh l) i=_;have:(s == a)=false:=lV;simp[lP,wM,this]
   rw[Z,kS h,l5,z];obtain⟨C,Y⟩:=DQ s l (i+1);refine⟨C,fun q=>?_⟩;obtain⟨j,O,V⟩:=Y q;exact⟨j+1,by rw[O,show i+1+j=i+(j+1) by omega],by show(AV.ay a,AV.bool true)::(oh l).set j _=_;rw[V];rfl⟩
def zh6(hg:H.get r=some (.map (oh l)))(s:qD):sd prog H 200 (.map r) (.ay s) false=some (.bool (bL l s)):=by
 obtain⟨l1,l2⟩:=zbK (P:=prog) (H:=H) (t:=200) (nm:=s) (z:=.bool false) underlying200 ax ax hg;cases h:bL l s with
 |false=>rw[l1 ((DQ s l 0).1 h)]
 |true=>obtain⟨j,Z,m⟩:=(DQ s l 0).2 h;rw[l2 _ _ Z]
def zh7(hg:H.get r=some (.map (oh l)))(s:qD):te prog H 200 (.map r) (.ay s) (.bool true)=some (H.set r (.map (oh (DP l s)))):=by
 obtain⟨l1,l2⟩:=zbL (P:=prog) (H:=H) (t:=200) (nm:=s) (x:=.bool true) underlying200 ax hg;cases h:bL l s with
 |false=>rw[l1 ((DQ s l 0).1 h),DP,h];simp[oh]
 |true=>obtain⟨j,Z,m⟩:=(DQ s l 0).2 h;rw[l2 _ _ Z,bR,m,DP,ai h]
end
section
def tyV5.tyF:=ad @dm (ad @cG (ad @ey (ad @gC (ad @ik (@RH)))))
open tyV5
noncomputable def T7:=qd (M:=22) f76.eq_1
def jz(n:Nd):qD:=wd (xM n)
noncomputable def HZ:En:=⟨128,false,co (fun n=>n.ak.length<2^30) Dy fun n=>.ay (jz n)⟩
def zh8:de prog ρ HZ:=dA fun n J=>zg3 ρ n J
def zh9{tb:qH}(Z:∀m,dU tb 128 m=HZ.sp m)(n:Nd)(J:n.ak.length<2^30)(H:Hp):aR prog (aA pls tb) 128 [.agg n.cells] H fun v H'=>v=.ay (jz n)/\H'=H:=
 cQ (enc:=Dy) (ok:=fun n=>n.ak.length<2^30) (out:=fun n=>.ay (jz n)) zg2 (x:=n) (Z _) J
def sQ(l:qF):Bool:=!gE [] (l.map jz)
theorem zia(l:qF)(hl:pS l):bA prog ρ 76 [jV l] (.bool (sQ l)):=fF fit (pls:=pls) (l:=[HZ]) ⟨zh8 ρ,trivial⟩ (.cons (AN _) .nil) (.bool _) (by
 obtain⟨hl1,O⟩:=hl;have hw:zd0 (aA pls [HZ]) 76:=gY (fun _=>rfl) rfl;refine qe hw func76 T7 ?_;dsimp only[T7,qd,a1,Nat.reduceAdd];refine dX ?_;refine cP [3,8,9] [] 10 l.length (fun i E H=>∃seen,H.get 0=some (.map (oh seen))/\gE [] (l.map jz)=gE seen ((l.drop i).map jz)) eE ⟨[],LW,rfl⟩ ?_;rintro i E H2 hi V J L hsI ⟨seen,hm,Y⟩;(try simp only[bz,a7,aV,aK,bb,Nat.reduceBEq, *]at V);(try simp only[a7,bb, *]at J);(try simp only[aS,cL,bR]at L);by_cases C:i<l.length
 .have I:(i:Int)<l.length:=by omega
  have hgx:l[i]?=some l[i]:=aX C;have m:=O _ (dE C);have z:gE seen ((l.drop i).map jz)=(bL seen (jz l[i])||gE (seen++[jz l[i]]) ((l.drop (i+1)).map jz)):=oW;generalize l[i]=n at *;have Z:∀b c,((H2.alloc b).set H2.next c).get 0=some (.map (oh seen)):=fun b c=>by rw[aQ,ah ac,aL,ah ac];exact hm
  have hlk:=fun b c=>zh6 (Z b c) (jz n);have hup:=fun b c=>zh7 (Z b c) (jz n);repeat' (first
   |(apply ay ?_;clear hK K)|apply aT ?_|(apply eA ?_;first|refine Rx.k (zh9 (fun _=>rfl) _ m _) ?_)|(apply a2 ?_ ?_<;>(intro hb hbp;try(cases hb;done)))|(apply az fun K hK=>?_)|fail)
  .all_goals refine qi ?_
   rw[sQ,Y,z];(try simp only[fA]at *);simp only[*,nX,uz,]
  .refine⟨ac,aW,aW,b8,sJ,?_⟩;refine⟨DP seen (jz n),ML,?_⟩;rw[Y,z,DP];(try simp only[fA]at *);simp only[*,l5,];rfl
 .have I:¬(i:Int)<l.length:=by omega
  have j:l.drop i=[]:=oc ac;rw[j]at Y;refine yg ?_;all_goals refine qi ?_
  rw[sQ,Y];rfl)
end
section
def tyV6.tyF:=ad @dm (ad @cG (ad @eG (ad @ij (ad @ey (ad @oQ (ad @jJ (ad @gC (ad @rO (ad @ik (ad @xq (@C2)))))))))))
open tyV6
noncomputable def H0:=qd (M:=114) f39.eq_1
def DR{l:qF}{n:Nd}(J:l[i]?=some n)(h:em l i≠0):znR n i/\(n.op=30->0<=n.aP/\n.aP<=7)/\DC n:=by
 have L:i<l.length:=by
  by_cases c:i<l.length
  .exact c
  .rw[ng ac]at J;cases J
 have I:=h;rw[yS L]at h;obtain⟨s,j,m,C⟩:=GH J h;have hl:=Aw j;have V:=xh j;have O:n.op=3->0<=n.aP/\n.aP<=255:=fun e=>by
  rw[fh,ah ac,ah ac,kH,ah ac,ai e,bT,kE,kE]at C;exact C
 have Y:n.op=30->0<=n.aP/\n.aP<=7:=fun e=>by
  rw[fh,ah ac,ah ac,kH,ah ac,ah ac,ah ac,ai e,bT,kE,kE]at C;exact C
 have z:n.op=31->0<=n.aP/\n.aP<=15:=fun e=>by
  rw[fh,ah ac,ah ac,kH,ah ac,ah ac,ah ac,ah ac,ai e,bT,kE,kE]at C;exact C
 refine⟨⟨fun k Z=>⟨(V k Z).1,(V k Z).2.1⟩,O,fun e=>?_⟩,Y,z,O⟩;have a:eK 31=(-1,true):=aF;rw[e,dY,a]at m;simp only[FG,fK]at m;rw[ah ac,ai trivial]at m;simp only[lX]at m;exact⟨(z e).1,(z e).2,ac,ac⟩
def MU{l:qF}(h:i<l.length):(eY l l.length)[i]?=some (em l i):=by
 have:=GI (l:=l) h (aG _);rw[dC]at this;have L:i<(eY l l.length).length:=by rw[tA];exact h
 rw[aX L]at this⊢;exact pC some this
def r0(u:Un)(g:Gr)(i:Nat):Bool:=match g.af[i]? with
 |some n=>decide (em g.af i≠0)&&pU u g n
 |none=>true
def iR(l:qF)(i:Int):Nat:=(cA l l.length).getD i.toNat 0
def jj(u:Un)(g:Gr):Bool:=
 (decide (0<=g.params)&&decide (g.params<=6)&&decide ((g.af.length:Int)<=2000))&&((List.range g.af.length).all (r0 u g)) &&
 (sQ g.af&&pT g.af&&decide (0<=g.value)&&decide (g.value<g.af.length)&&decide (0<=g.aa)&&decide (g.aa<g.af.length)) &&
 (decide (em g.af g.value=1)&&decide (em g.af g.aa=2)&&decide (iR g.af g.value=0)&&decide (iR g.af g.aa=0))
noncomputable def T8:En:=⟨75,false,co MB zq fun x=>.bool (pU x.u x.g x.n)⟩
def zib:de prog ρ T8:=dA fun x I=>zhm ρ x I
noncomputable def Ua:En:=⟨76,false,co pS rV fun l=>.bool (sQ l)⟩
def zic:de prog ρ Ua:=dA fun l L=>zia ρ l L
noncomputable def Ub:En:=⟨77,false,co (fun l=>pS l/\∀n∈l,DC n) rV fun l=>.bool (pT l)⟩
def zid:de prog ρ Ub:=dA fun l L=>zhk ρ l L.1 L.2
noncomputable def Uc:En:=⟨78,false,co AS rV fun l=>tK (cA l l.length)⟩
def zie:de prog ρ Uc:=dA fun l L=>zhp ρ l L
noncomputable def zy:qH:=[MA,T8,Ua,Ub,Uc]
def zif:gX prog ρ zy:=⟨zhg ρ,zib ρ,zic ρ,zid ρ,zie ρ,trivial⟩
structure VgX where
 u:Un
 g:Gr
def zA(x:VgX):qB:=[.agg x.u.cells,.agg x.g.cells]
def zig(x y:VgX)(h:zA x=zA y):x=y:=by
 obtain⟨a,b⟩:=x;obtain⟨C,J⟩:=y;simp only[zA,eX,AV.agg.injEq,aV]at h;rw[Un.inj h.1,Gr.inj h.2]
def MV(x:VgX):Prop:=pS x.g.af/\x.u.ab.length<2^30/\x.u.funcs.length<2^30
theorem Ud{l:qF}(h:i<l.length):((cA l l.length).map fun(m:Nat)=>[AV.int .u32 (m:Int)])[i]?=some [.int .u32 ((iR l i:Nat):Int)]:=by
 have L:i<(cA l l.length).length:=by rw[rI];exact h
 rw[fd,iR,eM,dC,aX L];rfl
set_option maxRecDepth 100000 in
theorem zih(x:VgX)(hx:MV x):bA prog ρ 39 (zA x) (.bool (jj x.u x.g)):=fF fit (pls:=pls) (zif ρ) (.cons (.agg (Di _)) (.cons (.agg (Gr.pure _)) .nil)) (.bool _) (by
 obtain⟨u,g⟩:=x;obtain⟨Y,hua,huf⟩:=hx;have hw:zd0 (aA pls zy) 39:=gY (fun _=>rfl) rfl;rw[zA];simp only[]at Y hua huf⊢;have hnl:=Y.1;have ks:∀H,aR prog (aA pls zy) 74 [jV g.af] H fun v H'=>v=iz (eY g.af g.af.length)/\H'=H:=fun H=>zhh (fun _=>rfl) _ Y H;by_cases c1:0<=g.params/\g.params<=6/\(g.af.length:Int)<=2000
 .obtain⟨c11,c12,c13⟩:=c1;have d1:¬g.params<0:=ac;have d2:¬(6:Int)<g.params:=ac;have d3:¬(2000:Int)<g.af.length:=ac;refine qe hw func39 H0 ?_;dsimp only[H0,qd,a1,Nat.reduceAdd];repeat' (first
   |(apply ay ?_;clear hK K)|apply aT ?_|(apply eA ?_;first|refine Rx.k (ks _) ?_)|(apply cR ?_ ?_<;>(intro hg hgp;try(cases hg;done)))|(apply a2 ?_ ?_<;>(intro hb hbp;try(cases hb;done)))|(apply az fun K hK=>?_)|fail)
  have O:∀i,i<g.af.length->r0 u g i=false->jj u g=false:=fun i hi h=>by
   have:((List.range g.af.length).all (r0 u g))=false:=by
    rw[List.all_eq_false];exact⟨i,tq.2 hi,by rw[h];simp⟩
   rw[jj,this];simp
  refine cP [2,3,5,27,28] [0,1] 29 g.af.length (fun i E H=>∀j,j<i->r0 u g j=true) eE (fun j hj=>ac) ?_;rintro i E Hi hi hcE hrH hnH hsI hJ;(try simp only[bz,a7,aV,aK,bb,Nat.reduceBEq, *]at hcE);(try simp only[bz,a7,aV,aK,bb,Nat.reduceBEq, *]at hrH);(try simp only[aS,cL,bR,Nat.reduceAdd]at hnH);have hB0:(0 == Hi.next)=false:=aZ ac;have hC0:(Hi.next == 0)=false:=aZ ac;have hB1:(1 == Hi.next)=false:=aZ ac;have hC1:(Hi.next == 1)=false:=aZ ac;have ni:2<=Hi.next:=hnH
  by_cases L:i<g.af.length
  .have hlt':(i:Int)<g.af.length:=by omega
   have hgx:g.af[i]?=some g.af[i]:=aX L;have hnk:=Y.2 _ (dE L);have hsg:=MU L;have hsf:=fun h=>DR hgx (l:=g.af) (i:=i) h;have hok:r0 u g i=(decide (em g.af i≠0)&&pU u g g.af[i]):=by rw[r0,hgx]
   have vf:=O i L;clear O;generalize g.af[i]=n at *;by_cases hs0:em g.af i=0
   .have vf2:=vf (by rw[hok,hs0];rfl);clear hok vf hJ hsf;rw[hs0]at hsg;repeat' (first
     |(apply ay ?_;clear hK K)|apply aT ?_|(apply cR ?_ ?_<;>(intro hg hgp;try(cases hg;done)))|(apply a2 ?_ ?_<;>(intro hb hbp;try(cases hb;done)))|(apply az fun K hK=>?_)|fail)
    all_goals (refine⟨aE,_,aO,?_⟩;try simp only[aD])
    rw[vf2]
   .have z:r0 u g i=pU u g n:=by rw[hok,jT hs0,gW]
    obtain⟨f1,f2,f3⟩:=hsf hs0;have kr:∀H,aR prog (aA pls zy) 75 [.agg u.cells,.agg g.cells,.agg n.cells] H fun v H'=>v=.bool (pU u g n)/\H'=H:=fun H=>cQ (enc:=zq) (ok:=MB) (out:=fun x=>.bool (pU x.u x.g x.n)) zhl (x:=⟨u,g,n⟩) rfl ⟨fun h=>(f2 h).1,hnk,hua,huf⟩;clear hok hsf f1 f2 f3;by_cases hr:pU u g n=true
    .repeat' (first
      |(apply ay ?_;clear hK K)|apply aT ?_|(apply eA ?_;first|refine Rx.k (kr _) ?_)|(apply cR ?_ ?_<;>(intro hg hgp;try(cases hg;done)))|(apply a2 ?_ ?_<;>(intro hb hbp;try(cases hb;done)))|(apply az fun K hK=>?_)|fail)
     refine⟨ac,aW,aW,b8,(by simp only[aK,Nat.reduceBEq, *];exact il (n:=g.af.length) ac ac),?_⟩;intro j hj;by_cases e:j=i
     .rw[e,z,hr]
     .exact hJ j ac
    .have hr':pU u g n=false:=by simpa using hr
     have vf2:=vf (by rw[z,hr']);clear vf hJ z;repeat' (first
      |(apply ay ?_;clear hK K)|apply aT ?_|(apply eA ?_;first|refine Rx.k (kr _) ?_)|(apply cR ?_ ?_<;>(intro hg hgp;try(cases hg;done)))|(apply a2 ?_ ?_<;>(intro hb hbp;try(cases hb;done)))|(apply az fun K hK=>?_)|fail)
     all_goals (refine⟨aE,_,aO,?_⟩;try simp only[aD])
     rw[vf2]
  .have hlt':¬(i:Int)<g.af.length:=by omega
   have J:∀j,j<g.af.length->r0 u g j=true:=fun j hj=>hJ j ac;have V:∀(j:Nat) (n:Nd),g.af[j]?=some n->em g.af j≠0:=fun j n h=>by
    have hj:j<g.af.length:=by
     by_cases c:j<g.af.length
     .exact c
     .rw[ng ac]at h;cases h
    have:=J j hj;rw[r0,h,bT,kE]at this;exact this.1
   have hlp:∀n∈g.af,DC n:=fun n hn=>by
    obtain⟨j,hj,e⟩:=z9 hn;have h:g.af[j]?=some n:=by rw[aX hj,e]
    exact(DR h (V j n h)).2.2
   have hld:AS g.af:=⟨Y,fun j n h=>(DR h (V j n h)).1⟩;have Z:((List.range g.af.length).all (r0 u g))=true:=js.2 fun j hj=>J j (tq.1 hj);have hvg:jj u g=((sQ g.af&&pT g.af&&decide (0<=g.value)&&decide (g.value<g.af.length)&&decide (0<=g.aa)&&decide (g.aa<g.af.length)) &&
    (decide (em g.af g.value=1)&&decide (em g.af g.aa=2)&&decide (iR g.af g.value=0)&&decide (iR g.af g.aa=0))):=by
    rw[jj,Z,jT c11,jT c12,jT c13];simp
   rw[hvg];clear hvg Z J V O hJ;have ka:∀H,aR prog (aA pls zy) 76 [jV g.af] H fun v H'=>v=.bool (sQ g.af)/\H'=H:=fun H=>cQ (enc:=rV) (ok:=pS) (out:=fun l=>.bool (sQ l)) DB (x:=g.af) rfl Y;have kl:∀H,aR prog (aA pls zy) 77 [jV g.af] H fun v H'=>v=.bool (pT g.af)/\H'=H:=fun H=>cQ (enc:=rV) (ok:=fun l=>pS l/\∀n∈l,DC n) (out:=fun l=>.bool (pT l)) DB (x:=g.af) rfl ⟨Y,hlp⟩;have kd:∀H,aR prog (aA pls zy) 78 [jV g.af] H fun v H'=>v=.aE ((cA g.af g.af.length).map fun(m:Nat)=>[AV.int .u32 (m:Int)])/\H'=H:=fun H=>cQ (enc:=rV) (ok:=AS) (out:=fun l=>tK (cA l l.length)) DB (x:=g.af) rfl hld;have hsl:=tA g.af g.af.length;clear hlp hld;generalize hdv:sQ g.af=dv at *;generalize hvv:pT g.af=vl at *;by_cases cg:dv=true/\vl=true/\0<=g.value/\g.value<g.af.length/\0<=g.aa/\g.aa<g.af.length
   .obtain⟨rfl,rfl,v0,v1,s0,s1⟩:=cg;obtain⟨a,ha⟩:=jR v0;obtain⟨b,hb0⟩:=jR s0;have hal:a<g.af.length:=ac;have hbl:b<g.af.length:=ac;have q1:=MU hal;have q2:=MU hbl;have q3:=Ud hal;have q4:=Ud hbl;have e1:¬((a:Int)<0):=ac;have e2:¬((g.af.length:Int)<=a):=ac;have e3:¬((b:Int)<0):=ac;have e4:¬((g.af.length:Int)<=b):=ac;rw[jT v0,jT v1,jT s0,jT s1];simp only[Dm,gW];rw[ha,hb0];clear v0 v1 s0 s1;repeat' (first
     |(apply ay ?_;clear hK K)|apply aT ?_|(apply eA ?_;first|refine Rx.k (ka _) ?_|refine Rx.k (kl _) ?_|refine Rx.k (kd _) ?_)|(apply cR ?_ ?_<;>(intro hg hgp;try(cases hg;done)))|(apply a2 ?_ ?_<;>(intro hb hbp;try(cases hb;done)))|(apply az fun K hK=>?_)|fail)
    all_goals first
     |exact bM
     |skip
    all_goals
     refine⟨aE,_,rS,?_⟩;simp only[aD]
    all_goals
     first
     |(congr 1;simp_all[Int.natCast_eq_zero];done)
     |trace_state
   .have I:∀(b:Bool),¬b=false->b=true:=fun b h=>by simpa using h
    by_cases aI:dv=false
    .have C:((dv&&vl&&decide (0<=g.value)&&decide (g.value<g.af.length)&&decide (0<=g.aa)&&decide (g.aa<g.af.length)) &&
     (decide (em g.af g.value=1)&&decide (em g.af g.aa=2)&&decide (iR g.af g.value=0)&&decide (iR g.af g.aa=0)))=false:=by rw[aI];rfl
     rw[C];clear C I cg;repeat' (first
      |(apply ay ?_;clear hK K)|apply aT ?_|(apply eA ?_;first|refine Rx.k (ka _) ?_|refine Rx.k (kl _) ?_|refine Rx.k (kd _) ?_)|(apply cR ?_ ?_<;>(intro hg hgp;try(cases hg;done)))|(apply a2 ?_ ?_<;>(intro hb hbp;try(cases hb;done)))|(apply az fun K hK=>?_)|fail)
     all_goals first
      |exact bM
      |skip
     all_goals (refine⟨aE,_,aO,?_⟩;try simp only[aD])
    have b1:=I _ aI;by_cases a6:vl=false
    .have C:((dv&&vl&&decide (0<=g.value)&&decide (g.value<g.af.length)&&decide (0<=g.aa)&&decide (g.aa<g.af.length)) &&
     (decide (em g.af g.value=1)&&decide (em g.af g.aa=2)&&decide (iR g.af g.value=0)&&decide (iR g.af g.aa=0)))=false:=by rw[a6];simp
     rw[C];clear C I cg;repeat' (first
      |(apply ay ?_;clear hK K)|apply aT ?_|(apply eA ?_;first|refine Rx.k (ka _) ?_|refine Rx.k (kl _) ?_|refine Rx.k (kd _) ?_)|(apply cR ?_ ?_<;>(intro hg hgp;try(cases hg;done)))|(apply a2 ?_ ?_<;>(intro hb hbp;try(cases hb;done)))|(apply az fun K hK=>?_)|fail)
     all_goals first
      |exact bM
      |skip
     all_goals (refine⟨aE,_,aO,?_⟩;try simp only[aD])
    have b2:=I _ a6;by_cases cp:g.value<0
    .have C:((dv&&vl&&decide (0<=g.value)&&decide (g.value<g.af.length)&&decide (0<=g.aa)&&decide (g.aa<g.af.length)) &&
     (decide (em g.af g.value=1)&&decide (em g.af g.aa=2)&&decide (iR g.af g.value=0)&&decide (iR g.af g.aa=0)))=false:=by rw[kS (by omega:¬0<=g.value)];simp
     rw[C];clear C I cg;repeat' (first
      |(apply ay ?_;clear hK K)|apply aT ?_|(apply eA ?_;first|refine Rx.k (ka _) ?_|refine Rx.k (kl _) ?_|refine Rx.k (kd _) ?_)|(apply cR ?_ ?_<;>(intro hg hgp;try(cases hg;done)))|(apply a2 ?_ ?_<;>(intro hb hbp;try(cases hb;done)))|(apply az fun K hK=>?_)|fail)
     all_goals first
      |exact bM
      |skip
     all_goals (refine⟨aE,_,aO,?_⟩;try simp only[aD])
    by_cases dO:(g.af.length:Int)<=g.value
    .have C:((dv&&vl&&decide (0<=g.value)&&decide (g.value<g.af.length)&&decide (0<=g.aa)&&decide (g.aa<g.af.length)) &&
     (decide (em g.af g.value=1)&&decide (em g.af g.aa=2)&&decide (iR g.af g.value=0)&&decide (iR g.af g.aa=0)))=false:=by rw[kS (by omega:¬g.value<g.af.length)];simp
     rw[C];clear C I cg;repeat' (first
      |(apply ay ?_;clear hK K)|apply aT ?_|(apply eA ?_;first|refine Rx.k (ka _) ?_|refine Rx.k (kl _) ?_|refine Rx.k (kd _) ?_)|(apply cR ?_ ?_<;>(intro hg hgp;try(cases hg;done)))|(apply a2 ?_ ?_<;>(intro hb hbp;try(cases hb;done)))|(apply az fun K hK=>?_)|fail)
     all_goals first
      |exact bM
      |skip
     all_goals (refine⟨aE,_,aO,?_⟩;try simp only[aD])
    by_cases cI:g.aa<0
    .have C:((dv&&vl&&decide (0<=g.value)&&decide (g.value<g.af.length)&&decide (0<=g.aa)&&decide (g.aa<g.af.length)) &&
     (decide (em g.af g.value=1)&&decide (em g.af g.aa=2)&&decide (iR g.af g.value=0)&&decide (iR g.af g.aa=0)))=false:=by rw[kS (by omega:¬0<=g.aa)];simp
     rw[C];clear C I cg;repeat' (first
      |(apply ay ?_;clear hK K)|apply aT ?_|(apply eA ?_;first|refine Rx.k (ka _) ?_|refine Rx.k (kl _) ?_|refine Rx.k (kd _) ?_)|(apply cR ?_ ?_<;>(intro hg hgp;try(cases hg;done)))|(apply a2 ?_ ?_<;>(intro hb hbp;try(cases hb;done)))|(apply az fun K hK=>?_)|fail)
     all_goals first
      |exact bM
      |skip
     all_goals (refine⟨aE,_,aO,?_⟩;try simp only[aD])
    have eO:(g.af.length:Int)<=g.aa:=by
     by_cases c:(g.af.length:Int)<=g.aa
     .exact c
     .exact absurd ⟨b1,b2,ac,ac,ac,ac⟩ cg
    have C:((dv&&vl&&decide (0<=g.value)&&decide (g.value<g.af.length)&&decide (0<=g.aa)&&decide (g.aa<g.af.length)) &&
     (decide (em g.af g.value=1)&&decide (em g.af g.aa=2)&&decide (iR g.af g.value=0)&&decide (iR g.af g.aa=0)))=false:=by rw[kS (by omega:¬g.aa<g.af.length)];simp
    rw[C];clear C I cg;repeat' (first
     |(apply ay ?_;clear hK K)|apply aT ?_|(apply eA ?_;first|refine Rx.k (ka _) ?_|refine Rx.k (kl _) ?_|refine Rx.k (kd _) ?_)|(apply cR ?_ ?_<;>(intro hg hgp;try(cases hg;done)))|(apply a2 ?_ ?_<;>(intro hb hbp;try(cases hb;done)))|(apply az fun K hK=>?_)|fail)
    all_goals first
     |exact bM
     |skip
    all_goals (refine⟨aE,_,aO,?_⟩;try simp only[aD])
 .have hv:jj u g=false:=by
   rw[jj];cases h:(decide (0<=g.params)&&decide (g.params<=6)&&decide ((g.af.length:Int)<=2000))with
   |false=>simp
   |true=>
    simp only[lX]at h;exact absurd ⟨h.1.1,h.1.2,h.2⟩ c1
  rw[hv];refine qe hw func39 H0 ?_;dsimp only[H0,qd,a1,Nat.reduceAdd];by_cases d1:g.params<0
  .repeat' (first
    |(apply ay ?_;clear hK K)|apply aT ?_|(apply cR ?_ ?_<;>(intro hg hgp;try(cases hg;done)))|(apply a2 ?_ ?_<;>(intro hb hbp;try(cases hb;done)))|(apply az fun K hK=>?_)|fail)
   all_goals (refine⟨aE,_,aO,?_⟩;try simp only[aD])
  .by_cases d2:(6:Int)<g.params
   .repeat' (first
     |(apply ay ?_;clear hK K)|apply aT ?_|(apply cR ?_ ?_<;>(intro hg hgp;try(cases hg;done)))|(apply a2 ?_ ?_<;>(intro hb hbp;try(cases hb;done)))|(apply az fun K hK=>?_)|fail)
    all_goals (refine⟨aE,_,aO,?_⟩;try simp only[aD])
   .have d3:(2000:Int)<g.af.length:=by omega
    refine Zc ?_;all_goals (refine⟨aE,_,aO,?_⟩;try simp only[aD]))
end
end Go.Proofs.YtbflaciihaijgaaGreat
namespace Go.Ab
set_option maxRecDepth 20000
open Go
def Ba(c:Int)(s:MS):(fo c s).out=s.out/\(fo c s).cells=s.cells/\(fo c s).a2=s.a2:=by unfold fo;split<;>simp
theorem MW(s:MS):(dw s).out=s.out:=by unfold dw;grind
def zii(nm:aY)(a v:Int)(s:MS):(kG nm a v s).out=s.out:=by
 unfold kG;simp only[];split<;>split<;>simp[Ba]
theorem MX:∀(n:Nat) (x:Ex) (vs:List (aY×Int)) (s:MS) (r:Int×MS),eL n x vs s=some r->r.2.out=s.out/\r.2.cells=s.cells/\r.2.a2=s.a2
 |0,x,vs,s,r,h=>by simp[eL]at h
 |n+1,x,vs,s,r,h=>by
  have Y:=MX n;unfold eL at h;split at h
  .grind
  split at h
  .grind
  split at h
  .grind
  split at h
  .simp only[aC]at h;obtain⟨k,z,aq,V,h⟩:=h;have j:=Y _ _ _ _ V;split at h<;>simp only[am]at h<;>subst h
   .have:=Ba 2 aq.2;simp_all
   .exact j
  split at h
  .simp only[aC]at h
   grind
  .simp only[aC]at h;obtain⟨k,z,aq,V,h⟩:=h;have j:=Y _ _ _ _ V;split at h
   .grind
   .simp only[aC]at h;obtain⟨k2,I,r2,Z,h⟩:=h;have m:=Y _ _ _ _ Z;split at h<;>simp only[am]at h<;>subst h
    .have:=Ba 1 r2.2;simp only[];rw[this.1,this.2.1,this.2.2];exact⟨m.1.trans j.1,m.2.1.trans j.2.1,m.2.2.trans j.2.2⟩
    simp_all
theorem MY{n:Nat}:∀(l:qM) (vs:List (aY×Int)) (s:MS) (r:qA×MS),j8 n l vs s=some r->r.2.out=s.out/\r.2.cells=s.cells/\r.2.a2=s.a2/\r.1.length=l.length
 |[],vs,s,r,h=>by simp only[j8,am]at h;grind
 |x::l,vs,s,r,h=>by
  simp only[j8,iG]at h;obtain⟨aq,V,r2,m,rfl⟩:=h;have j:=MX _ _ _ _ _ V;have Z:=MY l vs _ _ m;simp_all
end Go.Ab
namespace Go.Proofs.YtbflaciihaijgaaGreat
set_option maxRecDepth 20000
open Go Go.Ab
variable{c d i:Nat}{t u:MS}{vs:List (aY×Int)}{k a:Int}{p:Pr}{x:St}{I:List aY}
def lI(s:MS):Prop:=0<=s.a2/\s.a2<=1000
def iH(c:Nat)(s t:MS):Prop:=0<=t.a2/\t.a2<=s.a2/\(t.out.length:Int)<=s.out.length+c+200*(s.a2-t.a2)
def iH.fz{s:MS}(h:iH c s t)(V:lI s):lI t:=⟨h.1,Int.le_trans h.2.1 V.2⟩
def iH.trans{s:MS}(h:iH c s t)(m:iH d t u):iH (c+d) s u:=by
 unfold iH at *;omega
def iH.mono{s:MS}(h:iH c s t)(L:c<=d):iH d s t:=by
 unfold iH at *;omega
theorem iH.dZ{s:MS}(h:iH c s t)(j:u.out=t.out)(m:u.a2=t.a2):iH c s u:=by
 unfold iH at *;simp_all
def zB{s:MS}(h:lI s):iH c s s:=by unfold iH lI at *;omega
theorem DS{s:MS}(h:lI s):((dw s).a4=0/\s.a4=0/\0<s.a2/\(dw s).a2=s.a2-1)\/((dw s).a4≠0/\(dw s).a2=s.a2):=by
 obtain⟨j,m⟩:=h;unfold dw;by_cases e:s.a4≠0
 .simp_all
 rw[ah e];by_cases Z:s.a2=0
 .simp_all
 rw[ah Z];have V:s.a4=0:=yY;exact .inl ⟨V,V,ac,by show cy (s.a2-1)=_;unfold cy;rw[fN ac ac]⟩
def Ia{s:MS}(h:lI s):iH 0 s (dw s):=by
 have I:=MW s;unfold iH lI at *;rw[I];rcases DS h with⟨_,_,a,b⟩|⟨_,b⟩<;>rw[b]<;>omega
def zij(nm:aY)(a v:Int)(s:MS):(kG nm a v s).a2=s.a2:=by
 unfold kG;simp only[];split<;>split<;>simp[Ba]
def zik(v:Int){s:MS}(h:lI s):iH 1 s (nu v s):=by
 unfold nu;split
 .unfold iH lI at *;simp;omega
 .exact zB h
def wl{n:Nat}{x:Ex}{s:MS}{r:Int×MS}(V:eL n x vs s=some r)(h:lI s):iH 0 s r.2:=by
 have k:=MX _ _ _ _ _ V;exact(zB h).dZ k.1 k.2.2
def Ue{n:Nat}{l:qM}{s:MS}{r:qA×MS}(V:j8 n l vs s=some r)(h:lI s):iH 0 s r.2:=by
 have k:=MY _ _ _ _ V;exact(zB h).dZ k.1 k.2.2.1
theorem Ib(p:Pr)(fi:List (aY×Int))(C:∀f∈p.funcs,nS f.body<=200):∀n:Nat,
 (∀x vs s r,jS p fi n x vs s=some r->dd x<=200->lI s->iH (dd x) s r.2)/\(∀l vs s r,fL p fi n l vs s=some r->nS l<=200->lI s->iH (nS l) s r.2) /\
 (∀x vs s r,fE p fi n x vs s=some r->dd x<=200->lI s->iH 0 s r.2)/\(∀k al s r,fM p fi n k al s=some r->lI s->iH 200 s r.2)
 |0=>⟨fun x vs s r h=>A0,fun l vs s r h=>A1,fun x vs s r h=>A2,fun k al s r h=>DJ⟩
 |n+1=>by
  obtain⟨I1,Z,L,I4⟩:=Ib p fi C n;refine⟨fun x vs s r h J j=>?_,fun l vs s r h J j=>?_,fun x vs s r h J j=>?_,fun k al s r h j=>?_⟩
  .have hx:=zj x;unfold jS at h;split at h
   .simp only[iG]at h;obtain⟨aq,V,rfl⟩:=h;exact(wl V j).mono ac
   split at h
   .simp only[iG]at h;obtain⟨aq,V,r2,Y,rfl⟩:=h;have a:=wl V j;have b:=wl Y (a.fz j);exact((a.trans b).dZ (zii _ _ _ _) (zij _ _ _ _)).mono ac
   split at h
   .simp only[aC]at h;obtain⟨aq,V,h⟩:=h;have a:=wl V j;split at h
    .exact(a.trans (Z _ _ _ _ h ac (a.fz j))).mono ac
    .exact(a.trans (Z _ _ _ _ h ac (a.fz j))).mono ac
   split at h
   .exact(L _ _ _ _ h J j).mono ac
   split at h
   .simp only[iG]at h;obtain⟨aq,V,rfl⟩:=h;have a:=wl V j;exact(a.trans (zik _ (a.fz j))).mono ac
   split at h
   .simp only[aC]at h;obtain⟨aq,V,h⟩:=h;have a:=Ue V j;have b:=Ia (a.fz j);split at h
    .rename_i z;simp only[iG]at h;obtain⟨r2,hc,rfl⟩:=h;have c:=I4 _ _ _ _ hc (b.fz (a.fz j));have I:=MW aq.2;rcases DS (a.fz j)with⟨_,_,m,O⟩|⟨m,_⟩
     .unfold iH at a c⊢;rw[I,O]at c;simp only;omega
     omega
    .simp only[am]at h;subst h;exact(a.trans b).mono ac
   split at h
   .simp only[am]at h;subst h;exact((zB j).dZ (Ba _ _).1 (Ba _ _).2.2)
   .simp only[am]at h;subst h;exact zB j
  .unfold fL at h;split at h
   .simp only[am]at h;subst h;exact zB j
   .rename_i x l;rw[nS]at J⊢;split at h
    .simp only[am]at h;subst h;exact zB j
    .simp only[aC]at h;obtain⟨aq,V,h⟩:=h;have a:=I1 _ _ _ _ V ac j;exact a.trans (Z _ _ _ _ h ac (a.fz j))
  .have hx:=zj x;unfold fE at h;simp only[aC]at h;obtain⟨aq,V,h⟩:=h;have a:=wl V j;split at h
   .have b:=Ia (a.fz j);have I:=MW aq.2;split at h
    .rename_i z;simp only[aC]at h;obtain⟨r2,hc,h⟩:=h;have c:=Z _ _ _ _ hc ac (b.fz (a.fz j));have d:=L _ _ _ _ h J (c.fz (b.fz (a.fz j)));rcases DS (a.fz j)with⟨_,_,m,O⟩|⟨m,_⟩
     .unfold iH at a c d⊢;rw[I,O]at c;omega
     .exact absurd z m
    .exact(a.trans (b.trans (L _ _ _ _ h J (b.fz (a.fz j))))).mono ac
   grind
  .unfold fM at h;split at h
   .simp at h
   .simp only[aC]at h;obtain⟨f,z,vs,hv,aq,hs,V⟩:=h;have hb:=C f (cV z);have a:=Z _ _ _ _ hs hb j;exact((a.mono hb).trans (wl V (a.fz j))).mono ac
theorem zil{l:qM}{k:Ex}(h:l[i]?=some k):1+dn k<=md l:=by
 induction l generalizing i with
 |nil=>simp at h
 |cons e V ih=>
  rw[md]
  grind
theorem Uf{l:qM}{k:Ex}(j:fO l=true)(h:l[i]?=some k):fB k=true:=by
 induction l generalizing i with
 |nil=>simp at h
 |cons e V ih=>
  rw[fO,bT]at j
  grind
def oq{J:Type}(l:List J)(h:i<l.length):∃k,l[i]?=some k:=⟨l[i],aX h⟩
theorem wm:∀(n:Nat) (x:Ex) (vs:List (aY×Int)) (s:MS),fB x=true->dn x<n->∃r,eL n x vs s=some r
 |0,x,vs,s,hw,hd=>by omega
 |n+1,x,vs,s,hw,hd=>by
  rw[xQ,bT]at hw;rw[Su]at hd;have m:∀i,i<x.ak.length->∃k,x.ak[i]?=some k/\∀s,∃r,eL n k vs s=some r:=fun i hi=>by
   obtain⟨k,z⟩:=oq x.ak hi;have:=zil z;exact⟨k,z,fun s=>wm n k vs s (Uf hw.1 z) ac⟩
  have I:=hw.2;rw[ph]at I;unfold eL;by_cases J:s.a4≠0
  .rw[ai J];exact⟨_,rfl⟩
  rw[ah J];by_cases C:x.az=1
  .rw[ai C];exact⟨_,rfl⟩
  rw[ah C]at I⊢;by_cases e2:x.az=2
  .rw[ai e2];exact⟨_,rfl⟩
  rw[ah e2]at I⊢;by_cases e3:x.az=3
  .rw[ai e3]at I⊢;simp only[lX]at I;obtain⟨k,z,hr⟩:=m 0 ac;obtain⟨r,hr⟩:=hr s;rw[z,aN,hr,aN];split<;>exact⟨_,rfl⟩
  rw[ah e3]at I⊢;by_cases V:x.az=5
  .have L:¬x.az=4:=by omega
   rw[ah L,ai V]at I;rw[ai V];simp only[lX]at I;obtain⟨k,z,hr⟩:=m 0 ac;obtain⟨k1,O,j⟩:=m 1 ac;obtain⟨k2,Z,Y⟩:=m 2 ac;obtain⟨r,hr⟩:=hr s;rw[z,aN,hr,aN];split
   .rw[O,aN];exact j _
   .rw[Z,aN];exact Y _
  rw[ah V]at I⊢;by_cases L:x.az=4
  .rw[ai L]at I;simp only[bT,nU,kE]at I;have hl:x.ak.length=2\/x.ak.length=1:=by rcases I.2 with h|h<;>omega
   obtain⟨k,z,hr⟩:=m 0 ac;obtain⟨r,hr⟩:=hr s;rw[z,aN,hr,aN];by_cases e6:x.ak.length=1
   .rw[ai e6];exact⟨_,rfl⟩
   .rw[ah e6];obtain⟨k1,O,j⟩:=m 1 ac;obtain⟨aq,j⟩:=j r.2;rw[O,aN,j,aN];split<;>exact⟨_,rfl⟩
  simp_all
theorem Ug{n:Nat}(J:22<=n):∀(l:qM) (vs:List (aY×Int)) (s:MS),fO l=true->(l.any fun e=>decide ((20:Int)<dn e))=false->∃r,j8 n l vs s=some r
 |[],vs,s,_,_=>⟨_,rfl⟩
 |x::l,vs,s,hw,hd=>by
  rw[fO,bT]at hw;rw[uA,jG,oP]at hd;obtain⟨r,hr⟩:=wm n x vs s hw.1 ac;obtain⟨r2,O⟩:=Ug J l vs r.2 hw.2 hd.2;rw[j8,hr,aN,O,aN];exact⟨_,rfl⟩
theorem Uh:∀(l:List aY) (al:qA) (vs:List (aY×Int)),l.length=al.length->∃r,yM l al vs=some r
 |[],_,vs,_=>⟨_,rfl⟩
 |nm::l,[],vs,h=>by simp at h
 |nm::l,a::al,vs,h=>Uh l al _ lV
structure znM (p:Pr) (l:qJ):Prop where
 wf:gN l=true
 dp:ip l=false
 ch:∃c:Sc,c.p=p/\dJ c false l=true/\dJ c true l=true
structure EOk (p:Pr) (x:St):Prop where
 wf:pV x=true
 dp:rW x=false
 ch:∃c:Sc,c.p=p/\i8 c false x=true/\i8 c true x=true
def znM.cons{l:qJ}(h:znM p (x::l)):EOk p x/\znM p l:=by
 obtain⟨j,m,c,hc,C,Z⟩:=h;rw[gN,bT]at j;rw[ip,jG]at m;rw[dJ,bT]at C Z;exact⟨⟨j.1,m.1,c,hc,C.1,Z.1⟩,⟨j.2,m.2,c,hc,C.2,Z.2⟩⟩
def EOk.bD(h:EOk p x):znM p x.bm/\znM p x.bO:=by
 obtain⟨j,m,c,hc,C,Z⟩:=h;rw[tN]at j;rw[DD]at m;rw[zx]at C Z;simp only[bT,jG]at j m C Z;exact⟨⟨j.1.2,m.1.1.2,c,hc,C.1.2,Z.1.2⟩,⟨j.2,m.1.2,c,hc,C.2,Z.2⟩⟩
theorem EOk.args(h:EOk p x):fO x.args=true/\(x.args.any fun e=>decide ((20:Int)<dn e))=false:=by
 have j:=h.wf;have m:=h.dp;rw[tN,kh]at j;rw[DD]at m;simp_all
theorem EOk.value(h:EOk p x)(z:x.az=1\/x.az=2\/x.az=3\/x.az=4\/x.az=5):fB x.value=true/\dn x.value<22:=by
 have j:=h.wf;have m:=h.dp;rw[tN,kh,pi]at j;rw[DD]at m;simp only[bT,jG,oP]at j m
 grind
theorem EOk.bz(h:EOk p x)(z:x.az=2):fB x.bz=true/\dn x.bz<22:=by
 have j:=h.wf;have m:=h.dp;rw[tN,kh,pi]at j;rw[DD]at m;simp only[bT,jG,oP]at j m
 grind
theorem EOk.call{p:Pr}{x:St}(h:EOk p x)(z:x.az=6):0<=bW p.funcs x.to 0/\x.args.length=tQ p x.to:=by
 obtain⟨c,hc,C,Z⟩:=h.ch;rw[zx]at C Z;simp only[bT,MM,HU,k4,mN,pn,z,hc]at C Z
 grind
section
variable (p:Pr) (fi:List (aY × Int))
def MZ(g m N:Nat):Prop:=∀n,N<=n->∀l vs s,znM p l->nS l<=m->lI s->s.a2<=g->∃r,fL p fi n l vs s=some r
def Ic(g N:Nat):Prop:=∀n,N<=n->∀f k al s,0<=k->p.funcs[k.toNat]?=some f->f.params.length=al.length->lI s->s.a2+1<=g->∃r,fM p fi n k al s=some r
end
structure znO (p:Pr) (fi:List (aY×Int)):Prop where
 body:∀f∈p.funcs,znM p f.body/\nS f.body<=200/\fB f.value=true/\dn f.value<22
 fn:∀s,0<=bW p.funcs s 0->di fi s=bW p.funcs s 0
def znO.fy{fi:List (aY×Int)}(h:znO p fi):∀f∈p.funcs,nS f.body<=200:=fun f z=>(h.body f z).2.1
theorem Ui{p:Pr}{fi:List (aY×Int)}(V:znO p fi){g m N:Nat}(hm:m<=200)(hN:22<=N)(hS:MZ p fi g m N):∀(j:Nat),j<=g->∀n,N+j+3<=n->∀x vs s,EOk p x->x.az=4->dd x<=m+1->dd x<=200->lI s->s.a2<=j->∃r,fE p fi n x vs s=some r
 |j,hj,0,hn=>by omega
 |j,hj,n+1,hn=>fun x vs s I hk h1 h2 O z=>by
  have e1:=zj x;obtain⟨hv,hd⟩:=I.value ac;obtain⟨aq,L⟩:=wm n x.value vs s hv ac;have a:=wl L O;have Y:=a.fz O;unfold fE;rw[L,aN];split
  .split
   .rename_i Z;rcases DS Y with⟨_,_,t1,t2⟩|⟨t1,_⟩
    .have b:=Ia Y;have C:=b.fz Y;have af:=a.2.1;obtain⟨r2,hc⟩:=hS n ac x.bm vs (dw aq.2) I.bD.1 ac C ac;have c:=(Ib p fi V.fy n).2.1 _ _ _ _ hc ac C;have cf:=c.2.1;rw[hc,aN]
     match j,hj,z with
     |0,_,z=>omega
     |j+1,hj,z=>exact Ui V hm hN hS j ac n ac x _ _ I hk h1 h2 (c.fz C) ac
    .exact absurd Z t1
   .rename_i Z
    match n,hn with
    |0,hn=>omega
    |n+1,hn=>
     unfold fE;have J:eL n x.value vs (dw aq.2)=some (0,dw aq.2):=by
      match n,hn with
      |0,hn=>omega
      |n+1,hn=>unfold eL;rw[ai Z]
     rw[J,aN,ah aB];exact⟨_,rfl⟩
  simp_all
theorem zim{fi:List (aY×Int)}(hp:znO p fi){g m N:Nat}(hm:m+1<=200)(hN:22<=N)(hS:MZ p fi g m N)(hC:Ic p fi g N):∀n,N+g+4<=n->∀x vs s,EOk p x->dd x<=m+1->lI s->s.a2<=g->∃r,jS p fi n x vs s=some r
 |0,hn=>by omega
 |n+1,hn=>fun x vs s I h1 Y hf=>by
  have e1:=zj x;unfold jS;by_cases k1:x.az=1
  .rw[ai k1];obtain⟨j,hd⟩:=I.value ac;obtain⟨aq,V⟩:=wm n x.value vs s j ac;simp_all
  rw[ah k1];by_cases k2:x.az=2
  .rw[ai k2];obtain⟨ha,hda⟩:=I.bz k2
   obtain⟨j,hd⟩:=I.value ac;obtain⟨aq,V⟩:=wm n x.bz vs s ha ac
   obtain⟨r2,he2⟩:=wm n x.value vs aq.2 j ac;simp_all
  rw[ah k2];by_cases ee:x.az=3
  .rw[ai ee];obtain⟨j,hd⟩:=I.value ac;obtain⟨aq,V⟩:=wm n x.value vs s j ac;have a:=wl V Y;have Z:=a.fz Y;have af:=a.2.1;rw[V,aN];split
   .exact hS n ac _ _ _ I.bD.1 ac Z ac
   .exact hS n ac _ _ _ I.bD.2 ac Z ac
  rw[ah ee];by_cases fm:x.az=4
  .rw[ai fm];exact Ui hp ac hN hS g (aG _) n ac x vs s I fm h1 ac Y hf
  rw[ah fm];by_cases dF:x.az=5
  .rw[ai dF];obtain⟨j,hd⟩:=I.value ac;obtain⟨aq,V⟩:=wm n x.value vs s j ac;simp_all
  rw[ah dF];by_cases k6:x.az=6
  .rw[ai k6];obtain⟨hw,hd⟩:=I.args;obtain⟨aq,V⟩:=Ug (show 22<=n by omega) x.args vs s hw hd;have a:=Ue V Y;have Z:=a.fz Y;have af:=a.2.1;have hl:=(MY _ _ _ _ V).2.2.2;rw[V,aN];split
   .rename_i ht;rcases DS Z with⟨_,_,t1,t2⟩|⟨t1,_⟩
    .obtain⟨c1,c2⟩:=I.call k6;obtain⟨i,hi,C⟩:=A4 p.funcs x.to 0 c1;have z:=hp.fn x.to c1;obtain⟨f,O⟩:=oq p.funcs hi;have L:bW p.funcs x.to 0=(i:Int):=by simpa using C
     have J:f.params.length=aq.1.length:=by
      rw[hl,c2,tQ,L,eM,O];rfl
     obtain⟨r2,hc⟩:=hC n ac f (di fi x.to) aq.1 (dw aq.2) ac (by rw[z,L,eM];exact O) J ((Ia Z).fz Z) ac;rw[hc];exact⟨_,rfl⟩
    .exact absurd ht t1
   simp_all
  rw[ah k6];split<;>exact⟨_,rfl⟩
theorem Uj{p:Pr}{fi:List (aY×Int)}(Z:znO p fi){g N:Nat}(C:22<=N)(O:Ic p fi g N):∀m,m<=200->∃M,N<=M/\MZ p fi g m M
 |0,_=>⟨N,aG _,fun n V l vs s L Y j z=>by
  cases l with
  |nil=>
   cases n with
   |zero=>omega
   |succ n=>exact⟨_,by unfold fL;rfl⟩
  |cons x l=>have:=zj x;rw[nS]at Y;omega⟩
 |m+1,hm=>by
  obtain⟨M,hM,hS⟩:=Uj Z C O m ac;refine⟨M+g+6,ac,fun n V l vs s L Y j z=>?_⟩;cases n with
  |zero=>omega
  |succ n=>
   cases l with
   |nil=>exact⟨_,by unfold fL;rfl⟩
   |cons x l=>
    obtain⟨hx,L⟩:=L.cons;have e1:=zj x;rw[nS]at Y;unfold fL;simp only;split
    .exact⟨_,rfl⟩
    .have J:Ic p fi g M:=fun n V=>O n ac;obtain⟨aq,I⟩:=zim Z hm ac hS J n ac x vs s hx ac j z;have a:=(Ib p fi Z.fy n).1 _ _ _ _ I ac j;have af:=a.2.1;rw[I,aN];exact hS n ac l _ _ L ac (a.fz j) ac
theorem Uk{p:Pr}{fi:List (aY×Int)}(m:znO p fi):∀g,∃N,22<=N/\Ic p fi g N
 |0=>⟨22,aG _,fun n J f k al s Z z L j hg=>by have:=j.1;omega⟩
 |g+1=>by
  obtain⟨N,V,O⟩:=Uk m g;obtain⟨M,hM,hS⟩:=Uj m V O 200 (aG _);refine⟨M+1,ac,fun n J f k al s Z z L j hg=>?_⟩;cases n with
  |zero=>omega
  |succ n=>
   obtain⟨Y,I,C,b4⟩:=m.body f (cV z);obtain⟨vs,hv⟩:=Uh f.params al [] L;obtain⟨r,hr⟩:=hS n ac f.body vs s Y I j ac;obtain⟨r2,hr2⟩:=wm n f.value r.1 r.2 C ac;unfold fM;simp_all
theorem Ul(s:aY):∀(l:qV) (i:Nat) (m:List (aY×Int)),bL (l.map (·.name)) s=false->di (ny l i m) s=di m s
 |[],_,m,_=>rfl
 |f::l,i,m,h=>by
  rw[eC,show f.name::l.map (·.name)=[f.name]++l.map (·.name)from rfl,A5,DO,jG,oP]at h;rw[ny,Ul s l _ _ h.2,MR,ah h.1]
theorem Um(s:aY):∀(l:qV) (seen:qC) (i:Nat) (m:List (aY×Int)),gE seen (l.map (·.name))=false->0<=bW l s i->di (ny l i m) s=bW l s i
 |[],_,i,m,_,h=>by simp[bW]at h
 |f::l,seen,i,m,hn,h=>by
  rw[eC,gE,jG]at hn;rw[bW]at h⊢;by_cases e:f.name=s
  .have C:bL (l.map (·.name)) s=false:=MT _ _ hn.2 s (by rw[A5,DO,jT e.symm,sN]);rw[ai e,ny,Ul s l _ _ C,MR,ai e.symm]
  .rw[ah e]at h⊢;rw[ny];exact Um s l (seen++[f.name]) (i+1) _ hn.2 h
structure zd7 (p:Pr):Prop where
 ex:k3 p=false
 wf:mM p=true
 du:nK p=false
 un:p.funcs.any (kq p)=false
 ba:p.funcs.any (mg p)=false
theorem zin(h:fP p=0):zd7 p:=by
 rw[fP]at h;by_cases j:k3 p=true
 .simp_all
 rw[ah j]at h;by_cases m:mM p=false
 .simp_all
 rw[ah m]at h;by_cases C:nK p=true
 .simp_all
 rw[ah C]at h;by_cases Z:p.funcs.any (kq p)=true
 .simp_all
 rw[ah Z]at h;by_cases z:p.funcs.any (mg p)=true
 .simp_all
 exact⟨z7,by simpa using m,by simpa using C,by simpa using Z,by simpa using z⟩
def zd7.aO(h:zd7 p):gE [] (cJ p)=false/\gE [] (T6 p)=false:=by
 have hd:=h.du;rw[nK,MQ,jG,jG]at hd;exact⟨hd.1,hd.2.1⟩
def zd7.ok(h:zd7 p):znO p (ny p.funcs 0 []):=by
 refine⟨fun f z=>?_,fun s V=>Um s p.funcs [] 0 [] h.aO.2 V⟩;have j:=h.ex;rw[k3,jG]at j;have j:=uB.1 j.2 f z;have m:=h.wf;rw[mM,bT]at m;have m:=js.1 m.2 f z;have Z:=uB.1 h.un f z;have Y:=uB.1 h.ba f z;simp only[rX,MN,jG,oP]at j;simp only[rY,bT]at m;simp only[kq,MN,kY,bT]at Z;simp only[mg,MN,kY]at Y;exact⟨⟨m.1.2,j.1.2,ki p f,rfl,Z.1,Y⟩,ac,m.2,ac⟩
theorem M0:∀(l seen:qC),gE seen l=false->l.Nodup
 |[],_,_=>List.nodup_nil
 |s::l,seen,h=>by
  rw[gE,jG]at h;refine zw.2 ⟨fun Y=>?_,M0 l _ h.2⟩;have:=MT _ _ h.2 s (by rw[A5,DO,jT rfl,sN]);rw[bL,uB]at this
  grind
def zd7.fq(h:zd7 p):(p.ab.map (·.name)).Nodup:=M0 _ _ h.aO.1
theorem zd7.run(h:zd7 p){f:Fu}{al:qA}{fuel:Int}(L:0<=k)(z:p.funcs[k.toNat]?=some f)(Z:f.params.length=al.length)(V:0<=fuel)(m:fuel<=1000):
 ∃n r,fM p (ny p.funcs 0 []) n k al (pI p fuel)=some r/\r.2.out.length<=300000:=by
 obtain⟨N,Y,O⟩:=Uk h.ok 1001;have j:lI (pI p fuel):=⟨V,m⟩;obtain⟨r,hr⟩:=O N (aG _) f k al (pI p fuel) L z Z j (by show fuel+1<=_;omega);refine⟨N,r,hr,?_⟩;have c:=(Ib p _ h.ok.fy N).2.2.2 _ _ _ _ hr j;have C:(pI p fuel).out.length=0:=rfl;have J:(pI p fuel).a2=fuel:=rfl;unfold iH at c;omega
structure Bd where
 l:qF
 vars:qA
 aa:Int
 loops:Nat
structure Cx where
 ab:qT
 funcs:qV
 aO:List aY
variable{b:Bd}
def fG(l:qF)(n:Nd):Nat:=l.findIdx fun x=>decide (x=n)
def ku(l:qF)(n:Nd):qF:=if fG l n<l.length then l else l++[n]
def aj(n:Nd)(s:Bd):Int×Bd:=(fG s.l n,{s with l:=ku s.l n})
def bS:List aY->aY->Nat
 |[],_=>0
 |a::l,s=>if a=s then 0 else if bL l s=true then bS l s+1 else 0
def a5(c a b:Int)(s:Bd):Int×Bd:=if a=b then (a,s)else aj ⟨22,0,[c,a,b]⟩ s
def kM(L v:Int)(s:Bd):Bd:=let r:=aj ⟨27,L,[s.aa,v]⟩ s;{r.2 with aa:=r.1}
def dS(len i:Int)(s:Bd):Bd:=
 let aq:=aj ⟨1,len,[]⟩ s
 let r2:=aj ⟨19,0,[i,aq.1]⟩ aq.2
 kM 2 r2.1 r2.2
def lJ(v:Int)(s:Bd):Bd:=
 let z:=aj ⟨1,0,[]⟩ s
 let c:=aj ⟨16,0,[v,z.1]⟩ z.2
 kM 1 c.1 c.2
def ei(c:Cx):Nat->Ex->Bd->Option (Int×Bd)
 |0,_,_=>none
 |n+1,x,s=>
  if x.az=1 then some (aj ⟨1,x.n,[]⟩ s)
  else if x.az=2 then (s.vars[bS c.aO x.name]?).map fun v=>(v,s)
  else if x.az=3 then
   (x.ak[0]?).bind fun k=>(ei c n k s).bind fun r=>(c.ab[bS (c.ab.map (·.name)) x.name]?).bind fun a=>
     let L:=dS a.len r.1 r.2
     some (aj ⟨23,bS (c.ab.map (·.name)) x.name,[L.aa,r.1]⟩ L)
  else if x.az=5 then
   (x.ak[0]?).bind fun k0=>(ei c n k0 s).bind fun au=>
   (x.ak[1]?).bind fun k1=>(ei c n k1 au.2).bind fun aq=>
   (x.ak[2]?).bind fun k2=>(ei c n k2 {aq.2 with aa:=au.2.aa}).bind fun r2=>
     let v:=a5 au.1 aq.1 r2.1 r2.2
     let t:=a5 au.1 aq.2.aa v.2.aa v.2
     some (v.1,{t.2 with aa:=t.1})
  else
   (x.ak[0]?).bind fun k0=>(ei c n k0 s).bind fun au=>
     if x.ak.length=1 then some (aj ⟨x.op,0,[au.1]⟩ au.2)
     else (x.ak[1]?).bind fun k1=>(ei c n k1 au.2).bind fun aq=>
      some (aj ⟨x.op,0,[au.1,aq.1]⟩ (if x.op=7\/x.op=8 then lJ aq.1 aq.2 else aq.2))
def mh(c:Cx)(n:Nat):qM->Bd->Option (qA×Bd)
 |[],s=>some ([],s)
 |x::l,s=>(ei c n x s).bind fun r=>(mh c n l r.2).bind fun r2=>some (r.1::r2.1,r2.2)
def jK(I:List aY):Nat->qJ->qR->Option qR
 |0,_,_=>none
 |n+1,l,b=>match l with
  |[]=>some b
  |x::l=>
   if (x.az=1\/x.az=6)/\b.length<=bS I x.name then none
   else (jK I n x.bm (if x.az=1\/x.az=6 then b.set (bS I x.name) true else b)).bind fun z=>(jK I n x.bO z).bind fun Y=>jK I n l Y
def bD(b:qR):qG:=(List.range b.length).filter fun i=>b.getD i false
def lK(c:Int)(a:qA):Nat->Nat->Bd->Option Bd
 |0,_,s=>some s
 |k+1,i,s=>(a[i]?).bind fun x=>(s.vars[i]?).bind fun y=>
  let r:=a5 c x y s
  lK c a k (i+1) {r.2 with vars:=r.2.vars.set i r.1}
def fX(base:Int):qG->Nat->Bd->Bd
 |[],_,s=>s
 |w::ws,j,s=>let r:=aj ⟨3,base+j,[]⟩ s;fX base ws (j+1) {r.2 with vars:=r.2.vars.set w r.1}
def fj(loop c:Int)(old:qA):qG->Nat->Bd->Bd
 |[],_,s=>s
 |w::ws,j,s=>
  let f:=aj ⟨25,j,[loop]⟩ s
  let m:=a5 c f.1 (old.getD w 0) f.2
  fj loop c old ws (j+1) {m.2 with vars:=m.2.vars.set w m.1}
section
variable (c:Cx)
mutual
def lL:Nat->St->Bd->Option Bd
 |0,_,_=>none
 |n+1,x,s=>
  if x.az=1 then (ei c n x.value s).bind fun r=>if bS c.aO x.name<r.2.vars.length then some {r.2 with vars:=r.2.vars.set (bS c.aO x.name) r.1}else none
  else if x.az=2 then (ei c n x.bz s).bind fun i=>(ei c n x.value i.2).bind fun v=>(c.ab[bS (c.ab.map (·.name)) x.name]?).bind fun a=>
   let L:=dS a.len i.1 v.2
   let r:=aj ⟨28,bS (c.ab.map (·.name)) x.name,[L.aa,i.1,v.1]⟩ L
   some {r.2 with aa:=r.1}
  else if x.az=3 then (ei c n x.value s).bind fun r=>(fH n x.bm r.2).bind fun a=>(fH n x.bO {a with aa:=r.2.aa,vars:=r.2.vars}).bind fun b=>
   (lK r.1 a.vars b.vars.length 0 b).bind fun m=>
     let t:=a5 r.1 a.aa m.aa m
     some {t.2 with aa:=t.1}
  else if x.az=4 then mn n x s
  else if x.az=5 then (ei c n x.value s).bind fun v=>
   let r:=aj ⟨29,0,[v.2.aa,v.1]⟩ v.2
   some {r.2 with aa:=r.1}
  else if x.az=6 then (mh c n x.args s).bind fun Z=>
   if 0<=bW c.funcs x.to 0/\bS c.aO x.name<Z.2.vars.length then
    let r:=aj ⟨30,bW c.funcs x.to 0,Z.2.aa::Z.1⟩ Z.2
    let q:=aj ⟨24,0,[r.1]⟩ {r.2 with aa:=r.1}
    some {q.2 with vars:=q.2.vars.set (bS c.aO x.name) q.1}
   else none
  else if x.az=7 then let z:=aj ⟨1,0,[]⟩ s;some (kM (cy (16+x.n)) z.1 z.2)
  else some s
def fH:Nat->qJ->Bd->Option Bd
 |0,_,_=>none
 |n+1,l,s=>match l with
  |[]=>some s
  |x::l=>(lL n x s).bind fun r=>fH n l r
def mn:Nat->St->Bd->Option Bd
 |0,_,_=>none
 |n+1,x,s=>(ei c n x.value {s with loops:=s.loops+1}).bind fun r=>(jK c.aO n x.bm (List.replicate r.2.vars.length false)).bind fun b=>
  let p:=aj ⟨3,16*(s.loops:Int),[]⟩ r.2
  (fH n x.bm (fX (16*(s.loops:Int)+1) (bD b) 0 {p.2 with aa:=p.1})).bind fun t=>(ei c n x.value t).bind fun d=>
    let k:=aj ⟨31,s.loops,r.2.aa::((bD b).map fun i=>r.2.vars.getD i 0)++[d.1,d.2.aa]++((bD b).map fun i=>d.2.vars.getD i 0)⟩ d.2
    let f:=aj ⟨25,0,[k.1]⟩ {k.2 with vars:=r.2.vars}
    let m:=a5 r.1 f.1 r.2.aa f.2
    some (fj k.1 r.1 r.2.vars (bD b) 1 {m.2 with aa:=m.1})
end
end
def gH:Nat->Nat->Bd->Bd
 |0,_,s=>s
 |n+1,k,s=>let r:=aj ⟨2,k,[]⟩ s;gH n (k+1) {r.2 with vars:=r.2.vars++[r.1] }
def iS:Nat->Bd->Bd
 |0,s=>s
 |n+1,s=>let r:=aj ⟨1,0,[]⟩ s;iS n {r.2 with vars:=r.2.vars++[r.1] }
def i9(f:Fu):Bd:=let e:=aj ⟨26,0,[]⟩ ⟨[],[],0,0⟩;iS f.aK.length (gH f.params.length 0 {e.2 with aa:=e.1})
def bu(p:Pr)(f:Fu):Cx:=⟨p.ab,p.funcs,f.params++f.aK⟩
def jk(p:Pr)(n:Nat)(f:Fu):Option Gr:=(fH (bu p f) n f.body (i9 f)).bind fun s=>(ei (bu p f) n f.value s).bind fun v=>some ⟨f.name,f.params.length,v.2.l,v.1,v.2.aa⟩
def po(p:Pr)(n:Nat):qV->List Gr->Option (Un×Int)
 |[],gs=>some (⟨p.ab,gs⟩,0)
 |f::l,gs=>(jk p n f).bind fun g=>if (2000:Int)<g.af.length then some (⟨[],[]⟩,6)else po p n l (gs++[g])
def uR(p:Pr)(n:Nat):Option (Un×Int):=if fP p=0 then po p n p.funcs []else some (⟨[],[]⟩,fP p)
structure NdR (n:Nd):Prop where
 op:0<=n.op/\n.op<256
 aP:-9223372036854775808<=n.aP/\n.aP<9223372036854775808
 ak:∀k∈n.ak,0<=k/\k<2^60
 len:n.ak.length<2^30
def Uo(n:Int):o0 n 0=n%256:=by
 rw[o0,DK];simp[Int.fdiv_one]
def Up(n:Int)(i:Nat):o0 n (i+1)=o0 (n/256) i:=by
 rw[o0,o0];have e:(2:Int)^ (8*(i+1))=256*2^ (8*i):=by
  rw[Nat.mul_add,Int.pow_add];omega
 have p:(0:Int)<=2^ (8*i):=Int.le_of_lt (Int.pow_pos aF);rw[e,HV _ ac,HV _ p,Int.ediv_ediv_of_nonneg aF]
def zio(n:Int)(i:Nat):0<=o0 n i/\o0 n i<256:=by
 rw[o0,DK];omega
theorem Uq:∀(k:Nat) (n m:Int),0<=n->n<256^ k->0<=m->m<256^ k->(∀i,i<k->o0 n i=o0 m i)->n=m
 |0,n,m,h1,h2,h3,h4,_=>by simp at h2 h4;omega
 |k+1,n,m,h1,h2,h3,h4,h=>by
  have e:(256:Int)^ (k+1)=256*256^ k:=by rw[Int.pow_succ];omega
  rw[e]at h2 h4;have L:=h 0 ac;rw[Uo,Uo]at L;have ih:=Uq k (n/256) (m/256) ac (by generalize (256:Int)^ k=P at *;omega) ac (by generalize (256:Int)^ k=P at *;omega) (fun i O=>by rw[<-Up,<-Up];exact h (i+1) ac);omega
theorem Ur:∀{l m:qA},(∀x∈l,0<=x/\x<256)->(∀x∈m,0<=x/\x<256)->wd l=wd m->l=m
 |[],[],_,_,_=>rfl
 |[],_::_,_,_,h=>by simp[wd]at h
 |_::_,[],_,_,h=>by simp[wd]at h
 |a::l,b::m,hl,hm,h=>by
  simp only[wd,eC,eX]at h;have j:=hl a dM;have Z:=hm b dM;have e:a=b:=by
   have:=pC UInt8.toNat h.1;rw[UInt8.toNat_ofNat',UInt8.toNat_ofNat']at this;omega
  rw[e,Ur (fun x I=>hl x (dh _ I)) (fun x I=>hm x (dh _ I)) h.2]
def Us(n:Int)(k:Nat):∀x∈kZ n k,0<=x/\x<256:=fun x I=>by
 obtain⟨i,_,rfl⟩:=so.1 I;exact zio n i
def Ut(n:Nd):∀x∈xM n,0<=x/\x<256:=fun x I=>by
 rw[xM,eJ,uk,List.mem_flatMap]at I;rcases I with rfl|I|⟨k,_,I⟩
 .rw[DK];omega
 .exact Us _ _ x I
 .exact Us _ _ x I
def Uu{n m:Int}(j:0<=n)(Z:n<18446744073709551616)(C:0<=m)(Y:m<18446744073709551616)(h:kZ n 8=kZ m 8):n=m:=
 Uq 8 n m j ac C ac fun i O=>List.map_inj_left.1 h i (tq.2 O)
def xU(n:Int):0<=IntKind.wrap .u64 n/\IntKind.wrap .u64 n<18446744073709551616:=by rw[DL];omega
theorem Uv:∀{L ms:qA},(∀k∈L,0<=k/\k<2^60)->(∀k∈ms,0<=k/\k<2^60)->(L.flatMap fun k=>kZ (IntKind.wrap .u64 k) 8)=(ms.flatMap fun k=>kZ (IntKind.wrap .u64 k) 8)->L=ms
 |[],[],_,_,_=>rfl
 |[],m::ms,_,_,h=>by
  have:=pC List.length h;rw[Do,fx,wc]at this;simp at this;omega
 |k::L,[],_,_,h=>by
  have:=pC List.length h;rw[Do,fx,wc]at this;simp at this
 |k::L,m::ms,hk,hm,h=>by
  rw[Do,Do]at h;obtain⟨j,Z⟩:=List.append_inj h (by rw[wc,wc]);have e:=Uu (xU k).1 (xU k).2 (xU m).1 (xU m).2 j;have aI:=hk k dM;have a6:=hm m dM;rw[DL,DL]at e;have V:k=m:=ac;rw[V,Uv (fun x I=>hk x (dh _ I)) (fun x I=>hm x (dh _ I)) Z]
def zip{a b:Nd}(m:NdR a)(hb:NdR b)(h:jz a=jz b):a=b:=by
 have h:=Ur (Ut a) (Ut b) h;rw[xM,xM,eX]at h;obtain⟨j,Z⟩:=h;obtain⟨C,Y⟩:=List.append_inj Z (by rw[wc,wc]);have J:=Uu (xU _).1 (xU _).2 (xU _).1 (xU _).2 C;have I:=Uv m.ak hb.ak Y;have o1:=m.op;have o2:=hb.op;have i1:=m.aP;have i2:=hb.aP;rw[DK,DK]at j;rw[DL,DL]at J;obtain⟨V,O,ak⟩:=a;obtain⟨L,z,bk⟩:=b;simp only at *;rw[show V=L by omega,show O=z by omega,I]
def ziq(x:Nd)(l:qF)(n:Nd):fG (x::l) n=if x=n then 0 else fG l n+1:=by
 unfold fG;rw[List.findIdx_cons];by_cases h:x=n<;>simp[h]
def M1(l:qF)(n:Nd):fG l n<=l.length:=by unfold fG;exact List.findIdx_le_length
def Uw{l:qF}{n:Nd}:fG l n<l.length↔n∈l:=by
 unfold fG;rw[List.findIdx_lt_length];simp
def Ux{l:qF}{n:Nd}(h:fG l n<l.length):l[fG l n]?=some n:=by
 rw[aX h];have:=List.findIdx_getElem (p:=fun x=>decide (x=n)) (xs:=l) (w:=h);simp only[kE]at this;exact pC some this
def Uy(l:qF)(n:Nd):(ku l n).length=if fG l n<l.length then l.length else l.length+1:=by
 unfold ku;split<;>simp[*]
def wn(l:qF)(n:Nd):l<+:ku l n:=by
 unfold ku;split
 .exact tO l
 .exact List.prefix_append l [n]
theorem Ie(l:qF)(n:Nd):(ku l n)[fG l n]?=some n:=by
 unfold ku;split
 .rename_i h;exact Ux h
 .rename_i h;have:=M1 l n;have e:fG l n=l.length:=ac;rw[e,tf (aG _),rz];rfl
def uS{l:qF}{n x:Nd}:x∈ku l n↔x∈l\/x=n:=by
 unfold ku;split
 .rename_i h;have:=Uw.1 h;constructor
  .exact .inl
  .rintro(h|rfl)
   .exact h
   .exact this
 .simp
def zir(l:qF)(n:Nd):fG l n<(ku l n).length:=by
 have:=M1 l n;rw[Uy];split<;>omega
structure eD (a b:Bd):Prop where
 l:a.l<+:b.l
 n:a.loops<=b.loops
def eD.refl(a:Bd):eD a a:=⟨tO _,aG _⟩
def sR:=@eD.refl
def eD.trans{a c:Bd}(h:eD a b)(k:eD b c):eD a c:=⟨h.l.trans k.l,dt h.n k.n⟩
def If:=@eD.trans
structure Fin (s:Bd):Prop where
 r:∀x∈s.l,NdR x
 l:s.l.length<2^36
 n:s.loops<2^36
variable{l:qF}
def Fin.le{a:Bd}(h:Fin b)(k:eD a b):Fin a:=⟨fun x I=>h.r x (k.l.subset I),xR k.l.length_le h.l,xR k.n h.n⟩
structure Lv (a b:Bd):Prop where
 le:eD a b
 v:b.vars=a.vars
 n:b.loops=a.loops
variable{n:Int}
def Lv.refl(a:Bd):Lv a a:=⟨sR a,rfl,rfl⟩
def Lv.trans{a c:Bd}(h:Lv a b)(k:Lv b c):Lv a c:=⟨h.le.trans k.le,k.v.trans h.v,k.n.trans h.n⟩
def Lv.setS{a:Bd}(h:Lv a b)(x:Int):Lv a {b with aa:=x}:=⟨⟨h.le.l,h.le.n⟩,h.v,h.n⟩
def eD.setS{a:Bd}(h:eD a b)(x:Int):eD a {b with aa:=x}:=⟨h.l,h.n⟩
def eD.setV{a:Bd}(h:eD a b)(x:qA):eD a {b with vars:=x}:=⟨h.l,h.n⟩
def b9(n:Nd)(s:Bd):Lv s (aj n s).2:=⟨⟨wn s.l n,aG _⟩,rfl,rfl⟩
def eB(c a b:Int)(s:Bd):Lv s (a5 c a b s).2:=by
 unfold a5;split
 .exact Lv.refl s
 .exact b9 _ s
def r1(t v:Int)(s:Bd):Lv s (kM t v s):=(b9 _ s).setS _
def pX(t v:Int)(s:Bd):Lv s (dS t v s):=(b9 _ s).trans ((b9 _ _).trans (r1 _ _ _))
def Bb(v:Int)(s:Bd):Lv s (lJ v s):=(b9 _ s).trans ((b9 _ _).trans (r1 _ _ _))
theorem cD(c:Cx):∀(n:Nat) (x:Ex) (s:Bd) (r:Int×Bd),ei c n x s=some r->Lv s r.2
 |0,_,_,_,h=>by simp[ei]at h
 |n+1,x,s,r,h=>by
  have Z:=cD c n;unfold ei at h;split at h
  .cases h;exact b9 _ s
  split at h
  .obtain⟨v,_,rfl⟩:=uj.1 h;exact Lv.refl s
  split at h
  .simp only[iG]at h;obtain⟨k,_,aq,j,a,_,rfl⟩:=h;exact(Z _ _ _ j).trans ((pX _ _ _).trans (b9 _ _))
  split at h
  .simp only[iG]at h;obtain⟨k0,_,au,L,k1,_,aq,j,k2,_,r2,m,rfl⟩:=h;have a:=(Z _ _ _ L).trans (Z _ _ _ j);have b:=(a.setS au.2.aa).trans (Z _ _ _ m);exact(b.trans ((eB _ _ _ _).trans (eB _ _ _ _))).setS _
  .simp only[aC]at h;obtain⟨k0,_,au,L,h⟩:=h;have a:=Z _ _ _ L;split at h
   .cases h;exact a.trans (b9 _ _)
   .simp only[iG]at h;obtain⟨k1,_,aq,j,rfl⟩:=h;have b:=a.trans (Z _ _ _ j);refine Lv.trans ?_ (b9 _ _);split
    .exact b.trans (Bb _ _)
    .exact b
theorem r3(c:Cx)(n:Nat):∀(l:qM) (s:Bd) (r:qA×Bd),mh c n l s=some r->Lv s r.2/\r.1.length=l.length
 |[],s,r,h=>by cases h;exact⟨Lv.refl s,rfl⟩
 |x::l,s,r,h=>by
  unfold mh at h;simp only[iG]at h;obtain⟨aq,j,r2,m,rfl⟩:=h;obtain⟨a,b⟩:=r3 c n l _ _ m;exact⟨(cD c n _ _ _ j).trans a,by simp[b]⟩
theorem uT(c:Int)(a:qA):∀(k i:Nat) (s r:Bd),lK c a k i s=some r->eD s r/\r.aa=s.aa/\r.vars.length=s.vars.length/\r.loops=s.loops
 |0,i,s,r,h=>by cases h;exact⟨sR s,rfl,rfl,rfl⟩
 |k+1,i,s,r,h=>by
  unfold lK at h;simp only[aC]at h;obtain⟨x,_,y,_,h⟩:=h;have e:=uT c a k (i+1) _ _ h;have m:=eB c x y s;have V:(a5 c x y s).2.aa=s.aa:=by unfold a5;split<;>rfl
  refine⟨(m.le.setV _).trans e.1,e.2.1.trans V,?_,e.2.2.2.trans m.n⟩;rw[e.2.2.1,iB,m.v]
theorem r4(base:Int):∀(O:qG) (j:Nat) (s:Bd),eD s (fX base O j s)/\(fX base O j s).aa=s.aa/\(fX base O j s).vars.length=s.vars.length/\(fX base O j s).loops=s.loops
 |[],j,s=>⟨sR s,rfl,rfl,rfl⟩
 |w::O,j,s=>by
  unfold fX;have e:=r4 base O (j+1) { (aj ⟨3,base+j,[]⟩ s).2 with vars:=(aj ⟨3,base+j,[]⟩ s).2.vars.set w (aj ⟨3,base+j,[]⟩ s).1};refine⟨((b9 _ s).le.setV _).trans e.1,e.2.1,?_,e.2.2.2⟩;rw[e.2.2.1,iB];rfl
theorem uU(lp c:Int)(old:qA):∀(O:qG) (j:Nat) (s:Bd),eD s (fj lp c old O j s)/\(fj lp c old O j s).aa=s.aa/\(fj lp c old O j s).vars.length=s.vars.length/\(fj lp c old O j s).loops=s.loops
 |[],j,s=>⟨sR s,rfl,rfl,rfl⟩
 |w::O,j,s=>by
  unfold fj;simp only[];have m:=(b9 ⟨25,j,[lp]⟩ s).trans (eB c (aj ⟨25,j,[lp]⟩ s).1 (old.getD w 0) (aj ⟨25,j,[lp]⟩ s).2);have V:(a5 c (aj ⟨25,j,[lp]⟩ s).1 (old.getD w 0) (aj ⟨25,j,[lp]⟩ s).2).2.aa=s.aa:=by unfold a5;split<;>rfl
  generalize a5 c (aj ⟨25,j,[lp]⟩ s).1 (old.getD w 0) (aj ⟨25,j,[lp]⟩ s).2=q at *;have e:=uU lp c old O (j+1) {q.2 with vars:=q.2.vars.set w q.1};refine⟨(m.le.setV _).trans e.1,e.2.1.trans V,?_,e.2.2.2.trans m.n⟩;rw[e.2.2.1,iB,m.v]
theorem jl(c:Cx):∀n:Nat,(∀x s r,lL c n x s=some r->eD s r/\r.vars.length=s.vars.length)/\(∀l s r,fH c n l s=some r->eD s r/\r.vars.length=s.vars.length)/\(∀x s r,mn c n x s=some r->eD s r/\r.vars.length=s.vars.length)
 |0=>⟨fun _ _ _ h=>by simp[lL]at h,fun _ _ _ h=>by simp[fH]at h,fun _ _ _ h=>by simp[mn]at h⟩
 |n+1=>by
  obtain⟨I1,V,I3⟩:=jl c n;refine⟨fun x s r h=>?_,fun l s r h=>?_,fun x s r h=>?_⟩
  .unfold lL at h;split at h
   .simp only[aC]at h;obtain⟨v,j,h⟩:=h;split at h
    .cases h;have a:=cD c n _ _ _ j;exact⟨a.le.setV _,by rw[iB,a.v]⟩
    .cases h
   split at h
   .simp only[iG]at h;obtain⟨i,j,v,Z,a,_,rfl⟩:=h;have a:=(cD c n _ _ _ j).trans ((cD c n _ _ _ Z).trans ((pX a.len i.1 v.2).trans (b9 ⟨28,bS (c.ab.map (·.name)) x.name,[(dS a.len i.1 v.2).aa,i.1,v.1]⟩ _)));exact⟨a.le.setS _,by show List.length (Bd.vars _)=_;rw[a.v]⟩
   split at h
   .simp only[iG]at h;obtain⟨q,j,a,Z,b,L,m,h4,rfl⟩:=h;have C:=cD c n _ _ _ j;have I:=V _ _ _ Z;have O:=V _ _ _ L;have Y:=uT _ _ _ _ _ _ h4;have e5:=eB q.1 a.aa m.aa m;have k:eD a b:=⟨O.1.l,O.1.n⟩;refine⟨(C.le.trans (I.1.trans (k.trans (Y.1.trans e5.le)))).setS _,?_⟩;show(a5 q.1 a.aa m.aa m).2.vars.length=_;rw[e5.v,Y.2.2.1,O.2];show q.2.vars.length=_;rw[C.v]
   split at h
   .exact I3 _ _ _ h
   split at h
   .simp only[iG]at h;obtain⟨v,j,rfl⟩:=h;have a:=(cD c n _ _ _ j).trans (b9 ⟨29,0,[v.2.aa,v.1]⟩ v.2);exact⟨a.le.setS _,by show List.length (Bd.vars _)=_;rw[a.v]⟩
   split at h
   .simp only[aC]at h;obtain⟨J,j,h⟩:=h;split at h
    .cases h;have a:=(r3 c n _ _ _ j).1;have b:=a.le.trans (b9 ⟨30,bW c.funcs x.to 0,J.2.aa::J.1⟩ J.2).le;refine⟨eD.setV (If (b.setS _) (b9 _ _).le) _,?_⟩;rw[iB];exact pC List.length a.v
    .cases h
   split at h
   .cases h;have a:=(b9 ⟨1,0,[]⟩ s).trans (r1 (cy (16+x.n)) (aj ⟨1,0,[]⟩ s).1 _);exact⟨a.le,by rw[a.v]⟩
   .cases h;exact⟨sR s,rfl⟩
  .unfold fH at h;cases l with
   |nil=>cases h;exact⟨sR s,rfl⟩
   |cons x l=>
    simp only[aC]at h;obtain⟨q,j,Z⟩:=h;have a:=I1 _ _ _ j;have b:=V _ _ _ Z;exact⟨a.1.trans b.1,b.2.trans a.2⟩
  .unfold mn at h;simp only[iG]at h;obtain⟨q,j,b,_,t,Z,d,L,rfl⟩:=h;have C:=cD c n _ _ _ j;have z:eD s q.2:=⟨C.le.l,dt (dg _) C.le.n⟩;have p:=b9 ⟨3,16*(s.loops:Int),[]⟩ q.2;have I:=r4 (16*(s.loops:Int)+1) (bD b) 0 { (aj ⟨3,16*(s.loops:Int),[]⟩ q.2).2 with aa:=(aj ⟨3,16*(s.loops:Int),[]⟩ q.2).1};have O:=V _ _ _ Z;have Y:=cD c n _ _ _ L;have aI:eD s d.2:=z.trans ((p.le.setS _).trans (I.1.trans (O.1.trans Y.le)));refine⟨?_,?_⟩
   .refine If ?_ (uU _ _ _ _ _ _).1;refine eD.setS ?_ _;refine If (If ?_ (b9 _ _).le) (eB _ _ _ _).le;refine eD.setV ?_ _;exact aI.trans (b9 _ _).le
   .rw[(uU _ _ _ _ _ _).2.2.1];show(a5 _ _ _ _).2.vars.length=_;rw[(eB _ _ _ _).v];show q.2.vars.length=_;rw[C.v]
theorem znG(b:qR)(k i:Nat):(b.set k true).getD i false=if k=i/\k<b.length then true else b.getD i false:=by
 grind
theorem Uz{n:Nat}{l:qJ}{b J:qR}(h:jK I (n+1) (x::l) b=some J):
 ∃j z Y,j=(if x.az=1\/x.az=6 then b.set (bS I x.name) true else b)/\(x.az=1\/x.az=6->bS I x.name<b.length)/\jK I n x.bm j=some z/\jK I n x.bO z=some Y/\jK I n l Y=some J:=by
 unfold jK at h;simp only[]at h;split at h
 .cases h
 .rename_i Z;simp only[aC]at h;simp_all
theorem Bc(I:List aY):∀(n:Nat) (l:qJ) (b J:qR),jK I n l b=some J->∀i,J.getD i false=false->b.getD i false=false
 |0,_,_,_,h,_,_=>by simp[jK]at h
 |n+1,[],b,J,h,i,hi=>by cases h;exact hi
 |n+1,x::l,b,J,h,i,hi=>by
  obtain⟨j,z,Y,e,V,m,C,Z⟩:=Uz h;have:=Bc I n _ _ _ m i (Bc I n _ _ _ C i (Bc I n _ _ _ Z i hi))
  grind
def uV(I:List aY)(l:qJ)(i:Nat):Prop:=∃m b J,jK I m l b=some J/\J.getD i false=false
theorem uV.cons{l:qJ}(h:uV I (x::l) i):(x.az=1\/x.az=6->i≠bS I x.name)/\uV I x.bm i/\uV I x.bO i/\uV I l i:=by
 obtain⟨m,b,J,h,O⟩:=h;cases m with
 |zero=>simp[jK]at h
 |succ m=>
  obtain⟨z,b2,b3,e,hk,Z,C,Y⟩:=Uz h;have j:=Bc I m _ _ _ Y i O;have q2:=Bc I m _ _ _ C i j;have q1:=Bc I m _ _ _ Z i q2;refine⟨fun V L=>?_,⟨m,_,_,Z,q2⟩,⟨m,_,_,C,j⟩,⟨m,_,_,Y,O⟩⟩;simp_all
theorem M2(base:Int):∀(O:qG) (j:Nat) (s:Bd) (i:Nat),i∉O->(fX base O j s).vars[i]?=s.vars[i]?
 |[],j,s,i,_=>rfl
 |w::O,j,s,i,h=>by
  rw[eJ,not_or]at h;show(fX base O (j+1) { (aj ⟨3,base+j,[]⟩ s).2 with vars:=(aj ⟨3,base+j,[]⟩ s).2.vars.set w (aj ⟨3,base+j,[]⟩ s).1}).vars[i]?=_;rw[M2 base O (j+1) _ i h.2,oG,ah (fun e=>h.1 e.symm)];rfl
theorem M3(lp c:Int)(old:qA):∀(O:qG) (j:Nat) (s:Bd) (i:Nat),i∉O->(fj lp c old O j s).vars[i]?=s.vars[i]?
 |[],j,s,i,_=>rfl
 |w::O,j,s,i,h=>by
  rw[eJ,not_or]at h;show(fj lp c old O (j+1) { (a5 c (aj ⟨25,j,[lp]⟩ s).1 (old.getD w 0) (aj ⟨25,j,[lp]⟩ s).2).2 with vars:=(a5 c (aj ⟨25,j,[lp]⟩ s).1 (old.getD w 0) (aj ⟨25,j,[lp]⟩ s).2).2.vars.set w (a5 c (aj ⟨25,j,[lp]⟩ s).1 (old.getD w 0) (aj ⟨25,j,[lp]⟩ s).2).1}).vars[i]?=_;rw[M3 lp c old O (j+1) _ i h.2,oG,ah (fun e=>h.1 e.symm),(eB _ _ _ _).v];rfl
theorem zis{b:qR}(h:i∉bD b):b.getD i false=false:=by
 by_cases c:i<b.length
 .cases hb:b.getD i false with
  |false=>rfl
  |true=>exact absurd (FX.2 ⟨tq.2 c,hb⟩) h
 simp_all
def fY(l:qF)(n:Nd):Int:=match gJ l.length (eY l l.length) n.ak with
 |none=>0
 |some s=>if dY n.op s&&fh l n then kU n s else 0
theorem zit{op:Int}{s:qA}(h:dY op s=true)(e:op=25):s.length=1:=by
 subst e;unfold dY at h;have:eK 25=(1,true):=aF
 grind
theorem UA(l:qF)(n:Nd):em (l++[n]) l.length=fY l n:=by
 rw[yS aB];have Y:(l++[n]).take l.length=l:=List.take_left;have V:eY (l++[n]) l.length=eY l l.length:=by
  have:=La (l:=l++[n]) (m:=l.length) (i:=l.length) (aG _);simp_all
 have O:(l++[n])[l.length]?=some n:=aU;unfold l6 fY;rw[V,O];simp only;cases z:gJ l.length (eY l l.length) n.ak with
 |none=>rfl
 |some s=>
  simp only;by_cases c:dY n.op s=true
  .have e:fh l n=fh (l++[n]) n:=by
    have:=Qt (l:=l++[n]) (m:=l.length) (n:=n) fun J=>by
     have L:=Aw z;have j:=zit c J;cases Z:n.ak with
     |nil=>rw[Z,j]at L;simp at L
     |cons k I=>
      refine⟨k,I,rfl,?_⟩;have:=xh z k (by rw[Z];exact dM);omega
    rw[Y]at this;exact this
   rw[e]
  simp_all
theorem UB{l:qF}:∀{L:qA},(∀k∈L,0<=k/\k<l.length/\em l k≠0)->gJ l.length (eY l l.length) L=some (L.map (em l))
 |[],_=>rfl
 |k::L,h=>by
  obtain⟨Z,m,C⟩:=h k dM;obtain⟨k,rfl⟩:=jR Z;have e:=GI (l:=l) (i:=l.length) (j:=k) ac (aG _);rw[gJ,eM,e,ah ac,UB fun q J=>h q (dh _ J)];rfl
def pp{n:Nd}(h:∀k∈n.ak,0<=k/\k<l.length/\em l k≠0):fY l n=if dY n.op (n.ak.map (em l))&&fh l n then kU n (n.ak.map (em l))else 0:=by
 unfold fY;rw[UB h]
structure IsT (l:qF) (t:Int) (k:Int):Prop where
 lo:0<=k
 hi:k<l.length
 s:em l k=t
variable{s:Int}
def IsT.le{C:qF}{t:Int}(h:IsT l t k)(L:l<+:C):IsT C t k:=by
 obtain⟨m,rfl⟩:=L;obtain⟨j,Y,Z⟩:=h;obtain⟨k,rfl⟩:=jR j;exact⟨j,cU,by rw[Qu ac];exact Z⟩
section
variable {l:qF}
def UC(n:Int):fY l ⟨1,n,[]⟩=1:=by
 rw[pp aB];simp[dY,eK,ju,fy,fh,kU]
def UD(L:0<=n)(j:n<=5):fY l ⟨2,n,[]⟩=1:=by
 rw[pp aB];simp[dY,eK,ju,fy,fh,kH,kU,L,j]
def DT(L:0<=n)(j:n<=255):fY l ⟨3,n,[]⟩=if n.tmod 16=0 then 2 else 1:=by
 rw[pp aB];simp[dY,eK,ju,fy,fh,kH,kU,L,j]
def UE:fY l ⟨26,0,[]⟩=2:=by
 rw[pp aB];simp[dY,eK,ju,fy,fh,kH,kU]
theorem UF{op b:Int}(m:IsT l 1 a)(hb:IsT l 1 b)(L:4<=op)(j:op<=19):fY l ⟨op,0,[a,b]⟩=1:=by
 have q:∀k:Int,(k<4\/19<k)->¬op=k:=fun k z e=>ac;have C:eK op=(2,true):=by
  unfold eK;rw[ah ac,ah ac,ah ac,ah ac,ah ac,ai ⟨L,j⟩]
 rw[pp (fun k z=>by
  simp only[od]at z;rcases z with rfl|rfl
  .exact⟨m.lo,m.hi,by rw[m.s];decide⟩
  .exact⟨hb.lo,hb.hi,by rw[hb.s];decide⟩)]
 simp only[eC,oZ,m.s,hb.s];have v:dY op [1,1]=true:=by
  unfold dY;rw[C,ah aB,ah aB,ah (q 31 ac),ah (q 30 ac),ah (fun h=>q 22 ac h.1)];unfold ju;rw[ah (q 22 ac),ah (by have:=q 23 ac;have:=q 27 ac;have:=q 29 ac;omega),ah (q 28 ac),ah (q 24 ac),ah (q 25 ac)];rfl
 have i:fh l ⟨op,0,[a,b]⟩=true:=by
  unfold fh kH;simp only[];rw[ah (q 1 ac),ah (q 27 ac),ah (q 2 ac),ah (q 3 ac),ah (by have:=q 23 ac;have:=q 28 ac;omega),ah (q 30 ac),ah (q 31 ac),ah (q 25 ac)];rfl
 rw[v,i];simp only[Dm,dG];unfold kU;simp_all
def UG{op:Int}(m:IsT l 1 a)(L:op=20\/op=21):fY l ⟨op,0,[a]⟩=1:=by
 rw[pp (fun k z=>by
  simp only[od]at z;subst z;exact⟨m.lo,m.hi,by rw[m.s];decide⟩)]
 simp only[eC,oZ,m.s];rcases L with rfl|rfl<;>simp[dY,eK,ju,fy,fh,kH,kU]
def UH{t c b:Int}(L:IsT l 1 c)(m:IsT l t a)(hb:IsT l t b)(Z:t=1\/t=2):fY l ⟨22,0,[c,a,b]⟩=t:=by
 rw[pp (fun k z=>by
  simp only[od]at z;rcases z with rfl|rfl|rfl
  .exact⟨L.lo,L.hi,by rw[L.s];decide⟩
  .exact⟨m.lo,m.hi,by rw[m.s];omega⟩
  .exact⟨hb.lo,hb.hi,by rw[hb.s];omega⟩)]
 simp only[eC,oZ,m.s,hb.s,L.s];rcases Z with rfl|rfl<;>simp[dY,eK,ju,fy,fh,kH,kU]
def M4{x y b:Int}(I:x≠0)(O:y≠0)(m:IsT l x a)(hb:IsT l y b):∀k∈[a,b],0<=k/\k<l.length/\em l k≠0:=fun k z=>by
 simp only[od]at z;rcases z with rfl|rfl
 .exact⟨m.lo,m.hi,by rw[m.s];exact I⟩
 .exact⟨hb.lo,hb.hi,by rw[hb.s];exact O⟩
def UI(V:IsT l 2 s)(m:IsT l 1 a)(L:0<=n)(j:n<=3):fY l ⟨23,n,[s,a]⟩=1:=by
 rw[pp (M4 aF aF V m)];simp[V.s,m.s,dY,eK,ju,fy,fh,kH,kU,L,j]
def UJ(V:IsT l 2 s)(m:IsT l 1 a)(L:1<=n)(j:n<=1000016):fY l ⟨27,n,[s,a]⟩=2:=by
 rw[pp (M4 aF aF V m)];simp[V.s,m.s,dY,eK,ju,fy,fh,kU,L,j]
def UK(V:IsT l 2 s)(m:IsT l 1 a):fY l ⟨29,0,[s,a]⟩=2:=by
 rw[pp (M4 aF aF V m)];simp[V.s,m.s,dY,eK,ju,fy,fh,kH,kU]
def UL{b:Int}(V:IsT l 2 s)(m:IsT l 1 a)(hb:IsT l 1 b)(L:0<=n)(j:n<=3):fY l ⟨28,n,[s,a,b]⟩=2:=by
 rw[pp (fun k z=>by
  simp only[od]at z;rcases z with rfl|rfl|rfl
  .exact⟨V.lo,V.hi,HT⟩
  .exact⟨m.lo,m.hi,by rw[m.s];decide⟩
  .exact⟨hb.lo,hb.hi,by rw[hb.s];decide⟩)]
 simp[V.s,m.s,hb.s,dY,eK,ju,fy,fh,kH,kU,L,j]
def UM(V:IsT l 2 s):fY l ⟨24,0,[s]⟩=1:=by
 rw[pp (fun k z=>by
  simp only[od]at z;subst z;exact⟨V.lo,V.hi,HT⟩)]
 simp[V.s,dY,eK,ju,fy,fh,kH,kU]
theorem Ig:∀{m:qA},(∀a∈m,IsT l 1 a)->m.map (em l)=List.replicate m.length 1
 |[],_=>rfl
 |a::m,h=>by
  rw[eC,(h a dM).s,Ig fun x I=>h x (dh _ I)];rfl
theorem UN{m:qA}(V:IsT l 2 s)(Z:∀a∈m,IsT l 1 a)(Y:m.length<=6)(L:0<=n)(j:n<=7):fY l ⟨30,n,s::m⟩=2:=by
 rw[pp (fun k z=>by
  rcases eJ.1 z with rfl|z
  .exact⟨V.lo,V.hi,HT⟩
  .exact⟨(Z k z).lo,(Z k z).hi,by rw[(Z k z).s];decide⟩)]
 simp only[eC,V.s,Ig Z];have v:dY 30 (2::List.replicate m.length 1)=true:=by
  have a:eK 30=(-1,true):=aF;unfold dY;simp_all
 have i:fh l ⟨30,n,s::m⟩=true:=by simp[fh,kH,L,j]
 rw[v,i];simp[kU]
theorem UO{d st:Int}{Z bs:qA}(J:IsT l 2 s)(I:∀a∈Z,IsT l 1 a)(hd:IsT l 1 d)(V:IsT l 2 st)(hb:∀a∈bs,IsT l 1 a)(C:Z.length=bs.length)(hl2:Z.length<=15)(h0:0<=n)(j:n<=15):fY l ⟨31,n,s::Z++[d,st]++bs⟩=3:=by
 rw[pp (fun k z=>by
  simp only[uk,od]at z;rcases z with((rfl|z)|rfl|rfl)|z
  .exact⟨J.lo,J.hi,by rw[J.s];decide⟩
  .exact⟨(I k z).lo,(I k z).hi,by rw[(I k z).s];decide⟩
  .exact⟨hd.lo,hd.hi,by rw[hd.s];decide⟩
  .exact⟨V.lo,V.hi,HT⟩
  .exact⟨(hb k z).lo,(hb k z).hi,by rw[(hb k z).s];decide⟩)]
 have hm:(s::Z++[d,st]++bs).map (em l)=2::(List.replicate Z.length 1++1::2::List.replicate Z.length 1):=by
  simp only[rF,eC,oZ,J.s,hd.s,V.s,Ig I,Ig hb,C];simp
 simp only[];rw[hm];generalize hn:Z.length=m at *;have L:(2::(List.replicate m (1:Int)++1::2::List.replicate m 1)).length=2*m+3:=cZ;have v:dY 31 (2::(List.replicate m 1++1::2::List.replicate m 1))=true:=by
  have a:eK 31=(-1,true):=aF;unfold dY;rw[a];simp only[FG,fK];rw[ah ac,ai trivial];have O:=zbT (2::(List.replicate m (1:Int)++1::2::List.replicate m 1)) ac ac;have e1:(2*m+3)/2=m+1:=ac;rw[L]at O⊢;rw[O,e1];have Y:∀k,yT (List.replicate k (1:Int))=true:=fun k=>by
   rw[yT,js];intro x hx;rw[KW hx];rfl
  have j:((2::(List.replicate m (1:Int)++1::2::List.replicate m 1)).drop 1).take (m+1)=List.replicate (m+1) 1:=by
   rw[Aq,gm,List.take_append,j9,je aB,show m+1-m=1 by omega];rw[LX];rfl
  have h2:(2::(List.replicate m (1:Int)++1::2::List.replicate m 1)).getD (m+1+1) 0=2:=by
   rw[List.getD_cons_succ,dC,tf aB,j9,show m+1-m=1 by omega];rfl
  have h3:(2::(List.replicate m (1:Int)++1::2::List.replicate m 1)).drop (m+1+2)=List.replicate m 1:=by
   rw[Aq,List.drop_append,j9,FF aB,tg,show m+1+1-m=2 by omega];rfl
  rw[j,h2,h3,Y,Y];have e4:dy (((2*m+3:Nat):Nat):Int)<=16:=CO;simp_all
 have i:fh l ⟨31,n,s::Z++[d,st]++bs⟩=true:=by simp[fh,kH,h0,j]
 rw[v,i];simp[kU]
def Ih{q:Nd}(z:IsT l 3 k)(J:l[k.toNat]?=some q)(L:0<=n)(Z:n<dy q.ak.length):fY l ⟨25,n,[k]⟩=if n=0 then 2 else 1:=by
 rw[pp (fun j I=>by
  simp only[od]at I;subst I;exact⟨z.lo,z.hi,by rw[z.s];decide⟩)]
 have i:fh l ⟨25,n,[k]⟩=true:=by
  have:Av l k=q.ak.length:=by rw[Av,J]
  simp[fh,kH,this,L];omega
 simp only[eC,oZ,z.s];rw[i];by_cases c:n=0<;>simp[dY,eK,ju,fy,kU,c]
end
def DU(l:qF):Prop:=∀i:Nat,i<l.length->em l i≠0
theorem UP{l:qF}{i:Nat}(O:i<=l.length):∀{L s:qA},gJ i (eY l i) L=some s->gJ l.length (eY l l.length) L=some s
 |[],s,h=>by cases h;rfl
 |k::L,s,h=>by
  rw[gJ]at h;split at h
  .cases h
  .rename_i c;obtain⟨t,m,rfl⟩:=uj.1 h;obtain⟨k,rfl⟩:=jR (by omega:0<=k);rw[eM]at c;have C:=GI (l:=l) (i:=i) (j:=k) ac O;have V:=GI (l:=l) (i:=l.length) (j:=k) ac (aG _);rw[gJ,eM,V,ah (by rw[C]at c;omega),UP O m];simp_all
theorem ziu{n:Nd}(J:l[i]?=some n)(h:em l i≠0):em l i=fY l n:=by
 have O:i<l.length:=by
  grind
 rw[yS O]at h⊢;unfold l6 at h⊢;unfold fY;rw[J]at h⊢;simp only at h⊢;cases z:gJ i (eY l i) n.ak with
 |none=>simp_all
 |some s=>rw[UP ac z]
def M5{n:Nd}{t:Int}(j:DU l)(h:fY l n=t)(m:t≠0):IsT (ku l n) t (fG l n)/\DU (ku l n):=by
 unfold ku;split
 .rename_i c;have hg:=Ux c;refine⟨⟨ac,ac,?_⟩,j⟩;rw[ziu hg (j _ c)];exact h
 .rename_i c;have:=M1 l n;have e:fG l n=l.length:=ac;rw[e];refine⟨⟨ac,cU,?_⟩,fun i O=>?_⟩
  .rw[UA];exact h
  .rw[fx,zg]at O;by_cases q:i<l.length
   .rw[Qu q];exact j i q
   .obtain rfl:i=l.length:=by omega
    rw[UA,h];exact m
end Go.Proofs.YtbflaciihaijgaaGreat
