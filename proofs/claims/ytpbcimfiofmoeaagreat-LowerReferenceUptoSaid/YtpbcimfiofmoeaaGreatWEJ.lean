/- Lemmas for the last file. -/
import Derived.Test.YtpbcimfiofmoeaaGreatWEI
set_option linter.all false
set_option maxHeartbeats 32000000
namespace Go.Ab
set_option maxRecDepth 20000
open Go
abbrev qM:=List Bool
variable{qe:Prop}
def OS(h:qe:=by show((pi a (bF p)).getD []).length < _;rw[Ji O];omega):=h
def OT(h:qe:=by rw[List.drop_eq_getElem_cons hlt,List.any_cons]):=h
def OU(h:qe:=by rw[rX,um,decide_eq_true e.symm,Bool.or_true]):=h
def cM(h:qe:=by rfl):=h
def vC(h:qe:=by rw[<- Y];rfl):=h
def yz(h:qe:=by rw[aD,if_pos cM];rfl):=h
def OV(h:qe:=by simp only[aG,Nat.reduceBEq, *];exact hZ (n:=I.length) ac ac):=h
def OW(h:qe:=by rw[<- Y,aD,if_neg iX,Hp.get_set,if_neg ac,aD,if_neg ac]):=h
def rV:=@decide_eq_false
def yA:=@of_decide_eq_true
def Ep:=@List.mem_singleton
def Er:=@List.nodup_cons
def yB:=@List.any_eq_false
def Bb:=@Go.IntKind.wrap_u8
def OX:=@Int.fdiv_eq_ediv_of_nonneg
def Bc:=@Go.IntKind.wrap_u64
def rW:=@List.prefix_refl
end Go.Ab
namespace Go.Proofs.YtpbcimfiofmoeaaGreat
set_option maxRecDepth 20000
open Go Go.Ab Proofs.Tryz
variable{H:Hp}{v w a:AV}{l:qx}{lo:Nat}{p:Pr}{f:Fu}
def tyR3j.tyF:=ad @dQ (ad @cr (ad @cK (ad @fW (ad @gh (ad @eL (ad @et (ad @dV (ad @dR (ad @dD (ad @jb (ad @jx (ad @eh (ad @Ii (ad @OH (@Ek)))))))))))))))
open tyR3j
noncomputable def OY:{c:SC // aE 86 (f32.body.getD .skip)=c}:=by
 refine⟨?_,?_⟩;rotate_left
 .simp only[f32,bN,aE,bH,bw,bM,bJ,Nat.blt,Nat.ble];rfl
def zcb{c c':Sc}(h1:c.vars=c'.vars)(h2:c.an=c'.an)(C:c.p=c'.p)(x:St):jP c x=jP c' x:=by
 unfold jP kA;rw[h1,h2,C]
mutual
theorem zcc{c c':Sc}(h1:c.vars=c'.vars)(h2:c.an=c'.an)(C:c.p=c'.p)(b:Bool):∀x:St,gm c b x=gm c' b x
 | .mk k Z J n a v V M O=>by
   simp only[gm,Es h1 h2 C b M,Es h1 h2 C b O,zcb h1 h2 C,C]
theorem Es{c c':Sc}(h1:c.vars=c'.vars)(h2:c.an=c'.an)(C:c.p=c'.p)(b:Bool):∀l:qD,dh c b l=dh c' b l
 |[]=>rfl
 |x::l=>by simp only[dh,zcc h1 h2 C b x,Es h1 h2 C b l]
end
def pi(v:AV)(l:qx):Option qx:=match v with
 | .ag=>none
 |_=>some l
theorem Ji(h:ej H v l lo):(pi v l).getD []=l:=by
 rcases h with⟨rfl,rfl⟩|⟨r,z,rfl,_⟩<;>rfl
theorem ej.gi(h:ej H v l lo)(n:Nat):
 ∃H',fT (n+2) v H=some (sW (pi v l),H')/\ej H' v l lo/\H'.next=H.next/\∀k,¬aN v k->H'.get k=H.get k:=by
 rcases h with⟨rfl,rfl⟩|h
 .exact⟨H,rfl,.inl ⟨rfl,rfl⟩,rfl,fun _ _=>rfl⟩
 .obtain⟨H',m,j,C,_,Z⟩:=h.aG n;refine⟨H',?_,.inr j,C,Z⟩;rw[m];obtain⟨r,z,rfl,_⟩:=h;rfl
theorem OZ{vs I:qx}{lo':Nat}(M:dU H w vs lo)(O:ej H a I lo')(hd:∀k,aN a k->¬aN w k)(p:Pr)(n:Nat):
 ∃H',fT (n+3) (.agg [w,a,.az (p.aa.map Ar.cells),.az (p.funcs.map Fu.cells)]) H=some (.agg (Sc.cells ⟨vs,pi a I,p⟩),H')/\dU H' w vs lo/\ej H' a I lo'/\H'.next=H.next/\∀k,¬aN w k->¬aN a k->H'.get k=H.get k:=by
 obtain⟨H1,m,j,h3,_,Z⟩:=M.aG n;have V:ej H1 a I lo':=O.keep ac fun k z=>Z k (hd k z);obtain⟨J,C,g2,g3,Y⟩:=V.gi n;refine⟨J,?_,j.keep ac fun k z=>Y k fun h=>hd k h z,g2,ac,fun k h U=>by rw[Y k U,Z k h]⟩;have e:fT (n+3) (.agg [w,a,.az (p.aa.map Ar.cells),.az (p.funcs.map Fu.cells)]) H=match iG (fT (n+2)) [w,a,.az (p.aa.map Ar.cells),.az (p.funcs.map Fu.cells)] H with
  |some (ds,H)=>some (.agg ds,H)
  |none=>none:=rfl
 rw[e];simp only[iG,m,C];rfl
noncomputable def O0:En:=⟨61,true,co Cs.ok rU vB⟩
variable(ρ:Nat->Int)
def zcd:dI prog ρ O0:=dT fun x hx=>zca ρ x hx
noncomputable def O1:En:=⟨58,false,co (fun p=>p.sz<2^36) eV fun p=>.bool (jp p)⟩
def zce:dI prog ρ O1:=dT fun p hp=>zbI ρ p ac
noncomputable def O2:En:=⟨59,false,co (fun p=>p.sz<2^36) eV fun p=>.bool (ib p)⟩
def zcf:dI prog ρ O2:=dT fun p hp=>zbZ ρ p hp
noncomputable def O3:En:=⟨60,false,co (fun p=>p.sz<2^36) eV fun p=>.bool (ky p)⟩
def zcg:dI prog ρ O3:=dT fun p hp=>zb0 ρ p hp
noncomputable def vD:qC:=[O1,O2,O3,O0,Jd]
def zch:gT prog ρ vD:=⟨zce ρ,zcf ρ,zcg ρ,zcd ρ,ON ρ,trivial⟩
def ig(p:Pr)(f:Fu):Sc:=⟨f.params++f.ak,some (bF p),p⟩
def i4(p:Pr)(f:Fu):Bool:=!(dh (ig p f) false f.body&&ev (ig p f).vars (ig p f).an f.value)
def kB(p:Pr)(f:Fu):Bool:=!dh (ig p f) true f.body
def eN(p:Pr):Int:=if jp p=true then 6 else if ib p=false then 2 else if ky p=true then 4 else if p.funcs.any (i4 p)=true then 3 else if p.funcs.any (kB p)=true then 5 else 0
theorem O4{lo':Nat}(M:dU H w (f.params++f.ak) lo)(O:ej H a (bF p) lo')(hd:∀k,aN a k->¬aN w k)(C:p.sz<2^60)(hf:f.sz<2^60)(b:Bool)(hb:b=true->ph p f.body=true):
 aR prog (au pls vD) 61 [.agg [w,a,.az (p.aa.map Ar.cells),.az (p.funcs.map Fu.cells)],.az (f.body.map St.cells),.bool b] H fun v H'=>v=.bool (dh (ig p f) b f.body)/\dU H' w (f.params++f.ak) lo/\ej H' a (bF p) lo'/\H.next<=H'.next/\∀k,¬aN w k->¬aN a k->H'.get k=H.get k:=by
 obtain⟨H',Z,j,Y,h4,V⟩:=OZ M O hd p 97;have U:f.sz=1+f.name.length+cP f.params+cP f.ak+bi f.body+f.value.sz:=rfl;have J:=iU f.params;have I:=iU f.ak;have hpz:p.sz=1+eA p.aa+dO p.funcs:=rfl;have hla:=m1 p.aa;have hal:(bF p).length=p.aa.length:=vy;have m:Cs.ok ⟨⟨f.params++f.ak,pi a (bF p),p⟩,f.body,b⟩:=⟨⟨cb,OS,C⟩,vz,hb⟩;refine aF ?_ (DO (enc:=rU) (out:=vB) Jg (x:=⟨⟨f.params++f.ak,pi a (bF p),p⟩,f.body,b⟩) (fun _=>rfl) rfl m (H':=H') (fun y _ e=>?_) ?_)
 .rintro v _ ⟨rfl,rfl⟩;refine⟨?_,j,Y,ac,V⟩;show AV.bool (dh ⟨f.params++f.ak,pi a (bF p),p⟩ b f.body)=_;rw[Es (c:=⟨f.params++f.ak,pi a (bF p),p⟩) (c':=ig p f) rfl (Ji O) rfl]
 .obtain⟨r,z,rfl,_⟩:=M;simp[rU,Sc.cells]at e
 .show iG (fT 100) [.agg [w,a,.az (p.aa.map Ar.cells),.az (p.funcs.map Fu.cells)],.az (f.body.map St.cells),.bool b] H=some (rU ⟨⟨f.params++f.ak,pi a (bF p),p⟩,f.body,b⟩,H');simp only[iG,Z];rfl
theorem zci{lo':Nat}(M:dU H w (f.params++f.ak) lo)(O:ej H a (bF p) lo')(hd:∀k,aN a k->¬aN w k)(C:p.sz<2^60)(hf:f.sz<2^60):
 aR prog (au pls vD) 62 [.agg [w,a,.az (p.aa.map Ar.cells),.az (p.funcs.map Fu.cells)],.agg f.value.cells] H fun v H'=>v=.bool (ev (ig p f).vars (ig p f).an f.value)/\dU H' w (f.params++f.ak) lo/\ej H' a (bF p) lo'/\H.next<=H'.next/\∀k,¬aN w k->¬aN a k->H'.get k=H.get k:=by
 obtain⟨H',Z,j,Y,h4,V⟩:=OZ M O hd p 97;have U:f.sz=1+f.name.length+cP f.params+cP f.ak+bi f.body+f.value.sz:=rfl;have J:=iU f.params;have I:=iU f.ak;have hpz:p.sz=1+eA p.aa+dO p.funcs:=rfl;have hla:=m1 p.aa;have hal:(bF p).length=p.aa.length:=vy;have m:Sc.ok ⟨f.params++f.ak,pi a (bF p),p⟩/\f.value.sz<2^60:=⟨⟨cb,OS,C⟩,ac⟩;refine aF ?_ (DO (enc:=re) (ok:=fun x=>x.1.ok/\x.2.sz<2^60) (out:=fun x=>.bool (ev x.1.vars x.1.an x.2)) El (x:=(⟨f.params++f.ak,pi a (bF p),p⟩,f.value)) (fun _=>rfl) rfl m (H':=H') (fun y _ e=>?_) ?_)
 .rintro v _ ⟨rfl,rfl⟩;refine⟨?_,j,Y,ac,V⟩;show AV.bool (ev (f.params++f.ak) ((pi a (bF p)).getD []) f.value)=_;rw[Ji O];rfl
 .obtain⟨r,z,rfl,_⟩:=M;simp[re,Sc.cells]at e
 .show iG (fT 100) [.agg [w,a,.az (p.aa.map Ar.cells),.az (p.funcs.map Fu.cells)],.agg f.value.cells] H=some (re (⟨f.params++f.ak,pi a (bF p),p⟩,f.value),H');have he:fT 100 (.agg f.value.cells) H'=some (.agg f.value.cells,H'):=by
   rw[j0];rfl
  simp only[iG,Z,he];rfl
def zcj(p:Pr)(r n:Nat):dd prog 116 [(0,.sl r 0 n 1),(2,.agg p.cells)]=some (.agg [.sl r 0 n 1,.ag,.az (p.aa.map Ar.cells),.az (p.funcs.map Fu.cells)]):=ax
theorem Et(a b c d:AV):cq 4 [a,b,c,d]=some (.agg [a,b,c,d]):=rfl
mutual
theorem zck{c:Sc}:∀x:St,gm c false x=true->yy c.p x=true
 | .mk k M J n a v V Y O,h=>by
   rw[Ba,ui,da,da]at h;obtain⟨⟨m,j⟩,C⟩:=h;rw[OP,Eu _ j,Eu _ C];simp only[jP,da]at m;have Z:=m.2;unfold kA at Z
   grind
theorem Eu{c:Sc}:∀l:qD,dh c false l=true->ph c.p l=true
 |[],_=>rfl
 |x::l,h=>by
  simp only[dh,da]at h;simp only[ph,zck x h.1,Eu l h.2,hT]
end
abbrev qp:HB:=.cells [.ag,.ag,.ag,.ag] 0 true
set_option maxRecDepth 100000 in
theorem zcl(p:Pr)(hz:p.sz<2^36):bX prog ρ 32 [.agg p.cells] (.int .i64 (eN p)):=fB fit (pls:=pls) (zch ρ) (.cons (.agg p.pure) .nil) (.int _ _) (by
 have hw:zd0 (au pls vD) 32:=ei (fun _=>rfl) rfl;have C:(au pls vD).keep 32=false:=rfl;have ke:∀H,aR prog (au pls vD) 58 [.agg p.cells] H fun v H'=>v=.bool (jp p)/\H'=H:=fun H=>cV (enc:=eV) (out:=fun p=>.bool (jp p)) pd (x:=p) rfl hz;have kw:∀H,aR prog (au pls vD) 59 [.agg p.cells] H fun v H'=>v=.bool (ib p)/\H'=H:=fun H=>cV (enc:=eV) (out:=fun p=>.bool (ib p)) pd (x:=p) rfl hz;have kd:∀H,aR prog (au pls vD) 60 [.agg p.cells] H fun v H'=>v=.bool (ky p)/\H'=H:=fun H=>cV (enc:=eV) (out:=fun p=>.bool (ky p)) pd (x:=p) rfl hz;have hpz:p.sz=1+eA p.aa+dO p.funcs:=rfl;have hla:=m1 p.aa;have hlf:=m0 p.funcs;have hal:(bF p).length=p.aa.length:=vy;refine bp (M:=86) (rs:=[.tmp 2]) (hw.call _) hw.aG hw.aB func32 rfl rfl OY.2 rfl ?_;dsimp only[OY,bm,Nat.reduceAdd];repeat' (first
  |(apply aj ?_;clear hK K)|apply aV ?_|(apply eu ?_;first|refine bK (ke _) ?_|refine bK (kw _) ?_|refine bK (kd _) ?_)|(apply bz ?_ ?_<;>(intro hb hbp;try(cases hb;done)))|(apply am fun K hK=>?_)|fail)
 .all_goals refine qq ?_
  simp_all[eN]
 .all_goals refine qq ?_
  simp_all[eN]
 .all_goals refine qq ?_
  simp_all[eN]
 .refine cl [1] [0] 3 2 (fun r E H=>(1<=r->p.funcs.any (i4 p)=false)/\(2<=r->p.funcs.any (kB p)=false)) eE ⟨ac,ac⟩ ?_;rintro r E H2 hr2 hcE Y hnH hsI ⟨hJ1,hJ2⟩;(try simp only[bC,aZ,aW,aG,aY,Nat.reduceBEq, *]at hcE);(try simp only[bC,aZ,aW,aG,aY, *]at Y);(try simp only[aU,ce,bR]at hnH);have hB0:(0 == H2.next)=false:=ak ac;have hC0:(H2.next == 0)=false:=ak ac;refine tz (fun hb hbp=>?_) (fun hb hbp=>?_)
  .have hrlt:r<2:=by omega
   refine cl [1,3] [0] 4 p.funcs.length (fun i E H=>(r=0->p.funcs.any (i4 p)=(p.funcs.drop i).any (i4 p))/\(r=1->p.funcs.any (kB p)=(p.funcs.drop i).any (kB p))) eE ⟨aw,aw⟩ ?_;rintro i E3 V hi hcE Y hnH hsI ⟨hU,hB⟩;(try simp only[bC,aZ,aW,aG,Nat.reduceBEq, *]at hcE);(try simp only[bC,aZ,aW, *]at Y);(try simp only[aU,bq,ce,bR,Nat.reduceAdd]at hnH);have hB0:(0 == V.next)=false:=ak ac;have hC0:(V.next == 0)=false:=ak ac;repeat' (first
    |(apply aj ?_;clear hK K)|apply aV ?_|(apply bz ?_ ?_<;>(intro hb hbp;try(cases hb;done)))|(apply am fun K hK=>?_)|fail)
   .have hlt:i<p.funcs.length:=by simpa using hb
    have hgx:p.funcs[i]?=some p.funcs[i]:=bj hlt;have hsm:=oc (dm hlt);have hsz:p.funcs[i].sz=1+p.funcs[i].name.length+cP p.funcs[i].params+cP p.funcs[i].ak+bi p.funcs[i].body+p.funcs[i].value.sz:=rfl;have hpl:=iU p.funcs[i].params;have hll:=iU p.funcs[i].ak;refine gW ?_;generalize hHb:Hp.set (Hp.alloc V _) V.next _=J
    have nb:V.next+1<=J.next:=by rw[<-hHb];exact ay _
    have gb:J.get V.next=some (.cells p.funcs[i].cells 0 true):=by rw[<-hHb,aM,ai rfl]
    have gb0:J.get 0=some (.cells p.cells 0 true):=by rw[<-hHb,aM,af ac,aD,af ac];exact Y
    clear hHb;refine MH (id:=14) (ord:=[0,1,2,4,5,7,9,3,6,8,10]) (need:=[(0,7),(2,7),(4,7),(4,8),(5,7),(5,8),(5,10),(6,7),(6,8),(6,10)]) ax ax ax Is ax fun K hK=>?_;have ebB:(V.next == J.next)=false:=cb;have eb0:(0 == J.next)=false:=cb;have eb1:(0 == J.next+1)=false:=aw;have eb2:(V.next == J.next+1)=false:=cb;refine rB ?_;generalize hHd:(J.alloc qf).alloc qp=Hd;have nd:J.next+2<=Hd.next:=by rw[<-hHd];exact ay _
    have ndx:Hd.next<=J.next+2:=by rw[<-hHd];exact ay _
    have oldd:∀k,k<J.next->Hd.get k=J.get k:=fun k z=>by rw[<-hHd,aD,af cB,aD,af ac]
    have gd1:Hd.get J.next=some qf:=by rw[<-hHd,aD,af cB,aD,ai rfl]
    have gds:Hd.get (J.next+1)=some qp:=by rw[<-hHd,aD,ai (show J.next+1=(J.alloc _).next from rfl)]
    have gdb:Hd.get V.next=some (.cells p.funcs[i].cells 0 true):=by rw[oldd _ ac];exact gb
    have gd0:Hd.get 0=some (.cells p.cells 0 true):=by rw[oldd _ ac];exact gb0
    clear hHd;have s8:dU Hd (.sl J.next 0 0 1) [] J.next:=⟨J.next,0,rfl,gd1,aw,ay _,ac⟩
    have ow8:∀k,aN (.sl J.next 0 0 1) k->k=J.next:=fun k ⟨n,e⟩=>by simp only[AV.sl.injEq]at e;exact e.1.symm
    obtain⟨w9,H9,a9,s9,n9,f9,o9⟩:=yn p.funcs[i].params s8 ac cb;have ow9:∀k,aN w9 k->k=J.next\/J.next+2<=k:=fun k z=>(o9.2 k z).elim (fun h=>.inl (ow8 k h)) (fun h=>.inr ac)
    have g9s:H9.get (J.next+1)=some qp:=by rw[o9.1 _ ac (fun h=>by have:=ow8 _ h;omega)];exact gds
    have g9b:H9.get V.next=some (.cells p.funcs[i].cells 0 true):=by rw[o9.1 _ ac (fun h=>by have:=ow8 _ h;omega)];exact gdb
    have g90:H9.get 0=some (.cells p.cells 0 true):=by rw[o9.1 _ ac (fun h=>by have:=ow8 _ h;omega)];exact gd0
    refine kO dY dY (by rw[C];exact a9) ?_;refine rB ?_;obtain⟨Z,H11,a11,s11,n11,f11,o11⟩:=yn p.funcs[i].ak s9 ac cb;have ow11:∀k,aN Z k->k=J.next\/J.next+2<=k:=fun k z=>(o11.2 k z).elim (fun h=>ow9 k h) (fun h=>.inr ac)
    have g11s:H11.get (J.next+1)=some qp:=by rw[o11.1 _ ac (fun h=>by have:=ow9 _ h;omega)];exact g9s
    have g11b:H11.get V.next=some (.cells p.funcs[i].cells 0 true):=by rw[o11.1 _ ac (fun h=>by have:=ow9 _ h;omega)];exact g9b
    have g110:H11.get 0=some (.cells p.cells 0 true):=by rw[o11.1 _ ac (fun h=>by have:=ow9 _ h;omega)];exact g90
    refine kO dY dY (by rw[C];exact a11) ?_;have hbs:dd prog 116 [(0,Z),(2,.agg p.cells)]=some (.agg [Z,.ag,.az (p.aa.map Ar.cells),.az (p.funcs.map Fu.cells)]):=by
     obtain⟨q,imm,hq,_⟩:=s11;rw[hq];exact zcj p _ _
    have hone:=s11.one;have h1o:=hone.1;repeat' (first
     |(apply aj ?_;clear hK K)|apply aV ?_|(apply am fun K hK=>?_)|(apply bD ?_;try intro _)|(apply ch ?_ ?_<;>clear hK K)|fail)
    .exact cn
    generalize hH12:Hp.set H11 (J.next+1) _=I;have n12:H11.next<=I.next:=by rw[<-hH12];exact ay _
    have old12:∀k,k≠J.next+1->I.get k=H11.get k:=fun k z=>by rw[<-hH12,aM,af z]
    have g12s:I.get (J.next+1)=some (.cells [Z,.ag,.az (p.aa.map Ar.cells),.az (p.funcs.map Fu.cells)] 0 true):=by rw[<-hH12,aM,ai rfl]
    have g12b:I.get V.next=some (.cells p.funcs[i].cells 0 true):=aX
    have g120:I.get 0=some (.cells p.cells 0 true):=aX;have s12:dU I Z (p.funcs[i].params++p.funcs[i].ak) J.next:=s11.keep n12 fun k z=>old12 k fun e=>aX
    have cw:∀k,aN Z k->k<I.next:=fun k z=>(s12.lt z).2
    have m12:J.next+2<=I.next:=ac
    have hfl:(p.funcs[i].params++p.funcs[i].ak).length<2^38:=cb;clear hH12 old12 s11 a11 o11 f11 a9 o9 f9 s9 s8 gds gdb gd1 gd0 g9s g9b g90 g11s g11b g110 hbs n9 n11 oldd ow9 ow8 gb gb0 hone;have hnoS:∀k,aN Z k->k≠J.next+1/\V.next<k:=fun k z=>aX
    clear ow11;refine cl [1,3,4,5,6] [0,V.next] 7 p.aa.length (fun j E H=>∃a seen,H.get (J.next+1)=some (.cells [Z,a,.az (p.aa.map Ar.cells),.az (p.funcs.map Fu.cells)] 0 true)/\ej H a seen I.next/\dU H Z (p.funcs[i].params++p.funcs[i].ak) J.next/\ul (bF p) seen j/\AV.one a=true) eE ⟨.ag,[],g12s,.inl ⟨rfl,rfl⟩,s12,by simp[ul],rfl⟩ ?_;rintro j E4 m hj hcE Y hnH hsI ⟨a,seen,g4s,s4,t4,hsn,hoa⟩;(try simp only[bC,aZ,aW,aG,aY,Nat.reduceBEq, *]at hcE);(try simp only[bC,aZ,aW, *]at Y);(try simp only[aU,bq,ce,bR,Nat.reduceAdd]at hnH);have hB0:(0 == m.next)=false:=ak ac;have hC0:(m.next == 0)=false:=ak ac;have hB1:(V.next == m.next)=false:=ak ac;have hC1:(m.next == V.next)=false:=ak ac;have hsl:seen.length<=p.aa.length:=by have:bF p=seen++(bF p).drop j:=hsn;grind
    have hdU:(p.funcs.drop i).any (i4 p)=(i4 p p.funcs[i]||(p.funcs.drop (i+1)).any (i4 p)):=OT;have hdB:(p.funcs.drop i).any (kB p)=(kB p p.funcs[i]||(p.funcs.drop (i+1)).any (kB p)):=OT;have hend:j=(bF p).length->ej m a (bF p) I.next:=fun hje=>by
     unfold ul at hsn
     grind
    have hd:∀k,aN a k->¬aN Z k:=fun k h1 h2=>by have:=(s4.lt h1).1;grind
    have hz60:p.sz<2^60:=ac;have hf60:p.funcs[i].sz<2^60:=ac;have nw:∀k,k<=V.next\/k=J.next+1->¬aN Z k:=fun k z h=>by have:=hnoS k h;omega
    have na:∀k,k<=V.next\/k=J.next+1->¬aN a k:=fun k z h=>by have:=(s4.lt h).1;omega
    have g4b:m.get V.next=some (.cells p.funcs[i].cells 0 true):=Y.2
    have g40:m.get 0=some (.cells p.cells 0 true):=Y.1;have gh0:=@Et;repeat' (first
     |(apply aj ?_;clear hK K)|apply aV ?_|(apply cL ?_ ?_<;>(intro hg hgp;try(cases hg;done)))|(apply bz ?_ ?_<;>(intro hb hbp;try(cases hb;done)))|(apply am fun K hK=>?_)|(apply ci 18 [(1,9),(3,9),(7,9),(8,9)] fun K hK=>?_)|(apply bD ?_;try intro _)|fail)
    .have hlt2:j<p.aa.length:=by simpa using hb
     have hgx2:p.aa[j]?=some p.aa[j]:=bj hlt2;have hgn:(bF p)[j]' ac=p.aa[j].name:=vy;have hsn2:=OJ ac hsn;rw[hgn]at hsn2;refine rB ?_;have O:∀k,k<m.next->(m.alloc (.cells [.aj p.aa[j].name] 0 true)).get k=m.get k:=fun k z=>em
     have g4e:(m.alloc (.cells [.aj p.aa[j].name] 0 true)).get (J.next+1)=some (.cells [Z,a,.az (p.aa.map Ar.cells),.az (p.funcs.map Fu.cells)] 0 true):=by rw[O _ ac];exact g4s
     have g40e:(m.alloc (.cells [.aj p.aa[j].name] 0 true)).get 0=some (.cells p.cells 0 true):=by rw[O _ ac];exact Y.1
     have g4n:(m.alloc (.cells [.aj p.aa[j].name] 0 true)).get m.next=some (.cells [.aj p.aa[j].name] 0 true):=fc
     have s4b:ej (m.alloc (.cells [.aj p.aa[j].name] 0 true)) a seen I.next:=s4.keep (cG _) fun k z=>O k (s4.lt z).2
     obtain⟨a5,U,q5,s5,n5,f5,o5⟩:=w1 (r:=m.next) (imm:=0) p.aa[j].name s4b cB g4n ac;simp only[aU]at n5;have m5:m.next+2<=U.next:=ac
     clear n5;have g5s:U.get (J.next+1)=some (.cells [Z,a,.az (p.aa.map Ar.cells),.az (p.funcs.map Fu.cells)] 0 true):=by rw[f5 _ ac];exact g4e
     have g5b:U.get V.next=some (.cells p.funcs[i].cells 0 true):=by rw[f5 _ ac,O _ ac];exact g4b
     have g50:U.get 0=some (.cells p.cells 0 true):=by rw[f5 _ ac];exact g40e
     have t5:dU U Z (p.funcs[i].params++p.funcs[i].ak) J.next:=t4.keep ac fun k z=>by rw[f5 k (cw k z),O k (t4.lt z).2]
     have h5:=s5.one;have h5o:=h5.1;have h5c:=h5.2;refine kO dY dY (by rw[C];exact q5) ?_;repeat' (first
      |(apply aj ?_;clear hK K)|apply aV ?_|(apply am fun K hK=>?_)|(apply bD ?_;try intro _)|(apply ch ?_ ?_<;>clear hK K)|fail)
     .exact cn
     generalize hH6:Hp.set U (J.next+1) _=H6;have n6:U.next<=H6.next:=by rw[<-hH6];exact ay _
     have old6:∀k,k≠J.next+1->H6.get k=U.get k:=fun k z=>by rw[<-hH6,aM,af z]
     have g6s:H6.get (J.next+1)=some (.cells [Z,a5,.az (p.aa.map Ar.cells),.az (p.funcs.map Fu.cells)] 0 true):=by rw[<-hH6,aM,ai rfl]
     have g60:H6.get 0=some (.cells p.cells 0 true):=aX;have g6b:H6.get V.next=some (.cells p.funcs[i].cells 0 true):=aX
     clear hH6;refine⟨ac,a0,a0,ca,xd,?_⟩;exact⟨a5,seen++[p.aa[j].name],g6s,.inr (s5.keep n6 fun k z=>old6 k (by have:=(s5.lt z).1;omega)),t5.keep n6 (fun k z=>old6 k (hnoS k z).1),hsn2,h5o⟩
    .have hr0:r=0:=by omega
     have s4':=hend ac;refine qc ?_;refine aF ?_ (O4 t4 s4' hd hz60 hf60 false aw);rintro v0 U ⟨rfl,t5,s5,m5,o5⟩;dsimp only[aC];have g5s:U.get (J.next+1)=some (.cells [Z,a,.az (p.aa.map Ar.cells),.az (p.funcs.map Fu.cells)] 0 true):=by rw[o5 _ (nw _ ac) (na _ ac)];exact g4s
     have g5b:U.get V.next=some (.cells p.funcs[i].cells 0 true):=by rw[o5 _ (nw _ ac) (na _ ac)];exact g4b
     have g50:U.get 0=some (.cells p.cells 0 true):=by rw[o5 _ (nw _ ac) (na _ ac)];exact g40
     have hd5:∀k,aN a k->¬aN Z k:=hd;have gh0:=@Et;repeat' (first
      |(apply aj ?_;clear hK K)|apply aV ?_|(apply cL ?_ ?_<;>(intro hg hgp;try(cases hg;done)))|(apply bz ?_ ?_<;>(intro hb hbp;try(cases hb;done)))|(apply am fun K hK=>?_)|fail)
     .refine qc ?_;refine aF ?_ (zci t5 s5 hd5 hz60 hf60);rintro v0 H6 ⟨rfl,t6,s6,m6,o6⟩;dsimp only[aC];have g6s:H6.get (J.next+1)=some (.cells [Z,a,.az (p.aa.map Ar.cells),.az (p.funcs.map Fu.cells)] 0 true):=by rw[o6 _ (nw _ ac) (na _ ac)];exact g5s
      have g6b:H6.get V.next=some (.cells p.funcs[i].cells 0 true):=by rw[o6 _ (nw _ ac) (na _ ac)];exact g5b
      have g60:H6.get 0=some (.cells p.cells 0 true):=by rw[o6 _ (nw _ ac) (na _ ac)];exact g50
      have gh0:=@Et;repeat' (first
       |(apply aj ?_;clear hK K)|apply aV ?_|(apply cL ?_ ?_<;>(intro hg hgp;try(cases hg;done)))|(apply bz ?_ ?_<;>(intro hb hbp;try(cases hb;done)))|(apply am fun K hK=>?_)|fail)
      .all_goals refine qq ?_
       have hu:p.funcs.any (i4 p)=true:=by rw[hU hr0,hdU,i4];(try simp only[iK]at *);simp only[*,nU,xe,ll,]
       rw[eN,hu];grind
      .refine⟨ac,a0,a0,ca,oh,?_⟩;refine⟨fun _=>?_,fun h=>ac⟩;rw[hU hr0,hdU,i4];grind
     .all_goals refine qq ?_
      have hu:p.funcs.any (i4 p)=true:=by rw[hU hr0,hdU,i4];(try simp only[iK]at *);simp only[*,nU,mB,ll,]
      rw[eN,hu];grind
    .have hr1:r=1:=by omega
     have s4':=hend ac;have hJ1':=hJ1 ac;have hcal:ph p p.funcs[i].body=true:=by
      have hu:i4 p p.funcs[i]=false:=by
       grind
      unfold i4 at hu;rw[uj,da]at hu;exact Eu _ hu.1
     refine qc ?_;refine aF ?_ (O4 t4 s4' hd hz60 hf60 true (fun _=>hcal));rintro v0 U ⟨rfl,t5,s5,m5,o5⟩;dsimp only[aC];have g5s:U.get (J.next+1)=some (.cells [Z,a,.az (p.aa.map Ar.cells),.az (p.funcs.map Fu.cells)] 0 true):=aX;have g5b:U.get V.next=some (.cells p.funcs[i].cells 0 true):=aX
     have g50:U.get 0=some (.cells p.cells 0 true):=aX;have gh0:=@Et;repeat' (first
      |(apply aj ?_;clear hK K)|apply aV ?_|(apply cL ?_ ?_<;>(intro hg hgp;try(cases hg;done)))|(apply bz ?_ ?_<;>(intro hb hbp;try(cases hb;done)))|(apply am fun K hK=>?_)|fail)
     .all_goals refine qq ?_
      have hu:p.funcs.any (kB p)=true:=by rw[hB hr1,hdB,kB];(try simp only[iK]at *);simp only[*,nU,ll,]
      rw[eN,hJ1',hu];grind
     .refine⟨ac,a0,a0,ca,oh,?_⟩;refine⟨fun h=>ac,fun _=>?_⟩;rw[hB hr1,hdB,kB];grind
    .omega
   .have hie:i=p.funcs.length:=by simp at hb;omega
    rw[hie,iJ]at hU hB;refine⟨ac,a0,a0,ca,(by simp only[aG,Nat.reduceBEq, *];exact hZ (n:=2) ac ac),?_⟩
    grind
  .all_goals refine qq ?_
   have hr:r=2:=ac;subst hr;have h1:=hJ1 ac;have h2:=hJ2 ac;rw[eN];grind)
end Go.Proofs.YtpbcimfiofmoeaaGreat
namespace Go.Ab
set_option maxRecDepth 20000
open Go
variable{P:Program}{H:Hp}{t M e r:Nat}{I:qR}
def O5(k:IntKind)(a b:Int):Int:=a.fdiv (2^ min b.toNat k.bits)
def bin_shr{D:BinOp->Sx->Sx->qJ}{t:TypeId}{k Z:IntKind}{a b:Int}(hb:0<=b):eD P D .shr t (.int k a) (.int Z b)=some (.int k (O5 k a b)):=by
 obtain⟨m,rfl⟩:=wG hb;simp only[eD,uM];show xN .shr k a (Int.ofNat m)=_;simp[xN,O5]
abbrev bG:=qA
variable{vs:List (bG×Int)}
def fh:List (bG×Int)->bG->Int
 |[],_=>0
 |p::l,nm=>if nm=p.1 then p.2 else fh l nm
def setV:List (bG×Int)->bG->Int->List (bG×Int)
 |[],nm,x=>[(nm,x)]
 |p::l,nm,x=>if nm=p.1 then (nm,x)::l else p::setV l nm x
section
variable (p:Pr) (fi:List (bG × Int))
end
def dz(vs:List (bG×Int)):qR:=vs.map fun p=>(.aj p.1,.int .i64 p.2)
theorem Jj(nm:bG):∀(vs:List (bG×Int)) (i:Nat),(fM .string (.aj nm) (dz vs) i=some none/\fh vs nm=0/\∀x,dz (setV vs nm x)=dz vs++[(.aj nm,.int .i64 x)]) \/
 ∃j,j<vs.length/\fM .string (.aj nm) (dz vs) i=some (some (i+j,.int .i64 (fh vs nm)))/\∀x,dz (setV vs nm x)=(dz vs).set j (.aj nm,.int .i64 x)
 |[],i=>.inl ⟨rfl,rfl,fun _=>rfl⟩
 |p::l,i=>by
  by_cases h:nm=p.1
  .refine .inr ⟨0,aw,?_,fun x=>?_⟩
   .simp[dz,fM,pH,fh,h]
   .simp[dz,setV,h]
  .have Y:fM .string (.aj nm) (dz (p::l)) i=fM .string (.aj nm) (dz l) (i+1):=by
    show fM .string (.aj nm) ((.aj p.1,.int .i64 p.2)::dz l) i=_;have:(nm == p.1)=false:=mR;simp[fM,pH,this]
   have O:fh (p::l) nm=fh l nm:=by simp[fh,h]
   have U:∀x,dz (setV (p::l) nm x)=(.aj p.1,.int .i64 p.2)::dz (setV l nm x):=fun x=>by simp[setV,h,dz]
   rw[Y,O];rcases Jj nm l (i+1)with⟨m,Z,C⟩|⟨j,V,m,C⟩
   .refine .inl ⟨m,Z,fun x=>?_⟩;rw[U,C];simp[dz]
   .refine .inr ⟨j+1,cb,?_,fun x=>?_⟩
    .grind
    .rw[U,C];simp[dz]
def O6{nm:bG}{z:AV}(j:P.underlying t=some (.map M e))(Z:nM P M=some .string)(C:tB P e=some z)(hg:H.get r=some (.map I)):
 (fM .string (.aj nm) I 0=some none->jS P H t (.map r) (.aj nm) false=some z)/\∀i v,fM .string (.aj nm) I 0=some (some (i,v))->jS P H t (.map r) (.aj nm) false=some v:=by
 refine⟨fun h=>?_,fun i v h=>?_⟩<;>simp only[jS,j,Z,C,wj,hg,h,zu]
def Jk{nm:bG}{x:AV}(j:P.underlying t=some (.map M e))(z:nM P M=some .string)(hg:H.get r=some (.map I)):
 (fM .string (.aj nm) I 0=some none->oJ P H t (.map r) (.aj nm) x=some (H.set r (.map (I++[(.aj nm,x)]))))/\∀i v,fM .string (.aj nm) I 0=some (some (i,v))->oJ P H t (.map r) (.aj nm) x=some (H.set r (.map (I.set i (.aj nm,x)))):=by
 refine⟨fun h=>?_,fun i v h=>?_⟩<;>simp only[oJ,j,z,hg,h]
def Jl(Z:P.underlying t=some (.map M e))(z:nM P M=some .string)(C:tB P e=some (.int .i64 0))(hg:H.get r=some (.map (dz vs)))(nm:bG):
 jS P H t (.map r) (.aj nm) false=some (.int .i64 (fh vs nm)):=by
 obtain⟨J,Y⟩:=O6 (nm:=nm) Z z C hg;rcases Jj nm vs 0 with⟨m,V,U⟩|⟨j,O,m,U⟩
 .rw[J m,V]
 .rw[Y _ _ m]
def Be(Z:P.underlying t=some (.map M e))(z:nM P M=some .string)(hg:H.get r=some (.map (dz vs)))(nm:bG)(x:Int):
 oJ P H t (.map r) (.aj nm) (.int .i64 x)=some (H.set r (.map (dz (setV vs nm x)))):=by
 obtain⟨J,Y⟩:=Jk (nm:=nm) (x:=.int .i64 x) Z z hg;rcases Jj nm vs 0 with⟨m,V,C⟩|⟨j,U,m,C⟩
 .rw[J m,C]
 simp_all
def kU:qN->Nat->List (bG×Int)->List (bG×Int)
 |[],_,m=>m
 |f::l,i,m=>kU l (i+1) (setV m f.name i)
def jf:List (bG×Int)->bG->Bool
 |[],_=>false
 |p::l,nm=>if nm=p.1 then true else jf l nm
theorem Jm(nm:bG):∀(vs:List (bG×Int)) (i:Nat),(jf vs nm=false->fM .string (.aj nm) (dz vs) i=some none/\fh vs nm=0)/\(jf vs nm=true->∃j,fM .string (.aj nm) (dz vs) i=some (some (j,.int .i64 (fh vs nm))))
 |[],i=>⟨fun _=>⟨rfl,rfl⟩,fun h=>by simp[jf]at h⟩
 |p::l,i=>by
  by_cases h:nm=p.1
  .refine⟨fun Z=>by simp[jf,h]at Z,fun _=>⟨i,?_⟩⟩;simp[dz,fM,pH,fh,h]
  .have Y:fM .string (.aj nm) (dz (p::l)) i=fM .string (.aj nm) (dz l) (i+1):=by
    show fM .string (.aj nm) ((.aj p.1,.int .i64 p.2)::dz l) i=_;have:(nm == p.1)=false:=mR;simp[fM,pH,this]
   have O:fh (p::l) nm=fh l nm:=by simp[fh,h]
   have z:jf (p::l) nm=jf l nm:=by simp[jf,h]
   rw[Y,O,z];exact Jm nm l (i+1)
def O7(Z:P.underlying t=some (.map M e))(Y:nM P M=some .string)(C:tB P e=some (.int .i64 0))(hg:H.get r=some (.map (dz vs)))(nm:bG):
 jS P H t (.map r) (.aj nm) true=some (.a6 [.int .i64 (fh vs nm),.bool (jf vs nm)]):=by
 obtain⟨m,U⟩:=Jm nm vs 0;cases V:jf vs nm with
 |false=>
  obtain⟨z,J⟩:=m V;simp only[jS,Z,Y,C,wj,hg,z,zu,J]
 |true=>
  obtain⟨j,z⟩:=U V;simp only[jS,Z,Y,wj,hg,z,zu]
end Go.Ab
namespace Go.Proofs.YtpbcimfiofmoeaaGreat
set_option maxRecDepth 20000
open Go Go.Ab Proofs.Tryz
variable(ρ:Nat->Int)
variable{p:Pr}{H:Hp}{r lo i:Nat}{v:AV}{x:List qx}
section
def fZ(p:Pr):qx:=p.funcs.map (·.name)
def rh(p:Pr):Bool:=cT [] (bF p)||cT [] (fZ p)||p.funcs.any fun f=>cT [] (bF p++(f.params++f.ak))
theorem O8:∀(a b seen:qx),cT seen (a++b)=(cT seen a||cT (seen++a) b)
 |[],b,seen=>by simp[cT]
 |x::a,b,seen=>by rw[lw,cT,cT,O8 a b,mV,Hf,IC]
theorem Ev(I:qx):∀(M:qN) (seen:qx),ow I seen M=(cT seen (M.map (·.name))||M.any fun f=>cT I (f.params++f.ak))
 |[],seen=>rfl
 |f::M,seen=>by
  rw[ow,eK,cT,pX,Ev I M]
  grind
def O9(p:Pr):rh p=ky p:=by
 rw[rh,ky,Ev];cases h:cT [] (bF p)
 .have e:(fun f:Fu=>cT [] (bF p++(f.params++f.ak)))=fun f=>cT (bF p) (f.params++f.ak):=by
   funext f;rw[O8,h];rfl
  rw[e];rfl
 .rfl
def gw:qN->List (bG×Int)->List (bG×Int)
 |[],m=>m
 |f::l,m=>gw l (setV m f.name f.params.length)
theorem xi(s a:bG)(x:Int):∀m:List (bG×Int),fh (setV m a x) s=if s=a then x else fh m s
 |[]=>by simp[setV,fh]
 |q::l=>by
  by_cases h:a=q.1
  .simp only[setV,h,ft,fh];split<;>rfl
  .simp only[setV,h,fG,fh,xi s a x l]
   grind
theorem Pa(s a:bG)(x:Int):∀m:List (bG×Int),jf (setV m a x) s=(decide (s=a)||jf m s)
 |[]=>by
  by_cases h:s=a<;>simp[setV,jf,h]
 |q::l=>by
  by_cases h:a=q.1
  .by_cases j:s=q.1<;>simp[setV,jf,h,j]
  .have e:=Pa s a x l;by_cases j:s=q.1
   .simp[setV,jf,h,j]
   .simp[setV,jf,h,j,e]
def rX(a b:qx)(s:qA):bE (a++b) s=(bE a s||bE b s):=by unfold bE;simp_all
def um(a s:qA):bE [a] s=decide (s=a):=by
 unfold bE;grind
theorem Pb(s:bG):∀(l:qN) (m:List (bG×Int)),jf (gw l m) s=(jf m s||bE (l.map (·.name)) s)
 |[],m=>by simp[gw,bE]
 |f::l,m=>by
  rw[gw,Pb s l,Pa,eK,show f.name::l.map (·.name)=[f.name]++l.map (·.name)from rfl,rX,um]
  grind
theorem Pc(s:bG):∀(l:qN) (m:List (bG×Int)),bE (l.map (·.name)) s=false->fh (gw l m) s=fh m s
 |[],m,_=>rfl
 |f::l,m,h=>by
  rw[eK,show f.name::l.map (·.name)=[f.name]++l.map (·.name)from rfl,rX,um,jv,mU]at h;rw[gw,Pc s l _ h.2,xi,af h.1]
theorem Ew:∀(l seen:qx),cT seen l=false->∀s,bE seen s=true->bE l s=false
 |[],_,_,_,_=>rfl
 |a::l,seen,h,s,hs=>by
  rw[cT,jv]at h;rw[show a::l=[a]++l from rfl,rX,um,Ew l _ h.2 s (by rw[rX,hs];rfl),mW,mU]
  grind
theorem Pd:∀(l:qN) (s:qA) (i:Int),0<=i->(bE (l.map (·.name)) s=decide (0<=cJ l s i))
 |[],s,i,_=>by simp[bE,cJ]
 |f::l,s,i,hi=>by
  rw[eK,show f.name::l.map (·.name)=[f.name]++l.map (·.name)from rfl,rX,um,cJ];by_cases h:f.name=s
  .simp_all
  .rw[af h,rV (fun e=>h e.symm),mp,Pd l s (i+1) ac]
theorem Pe(p:Pr)(s:bG):∀(l:qN) (seen:qx) (m:List (bG×Int)) (i:Nat),p.funcs.drop i=l->cT seen (l.map (·.name))=false->0<=cJ l s i ->
 ∃f,p.funcs[(cJ l s i).toNat]?=some f/\fh (gw l m) s=f.params.length
 |[],_,_,i,_,_,h=>by simp[cJ]at h
 |f::l,seen,m,i,hd,hn,h=>by
  have J:i<p.funcs.length:=by
   have:=lN List.length hd;grind
  rw[gI J,eJ]at hd;rw[eK,cT,jv]at hn;rw[cJ]at h⊢;by_cases e:f.name=s
  .rw[ai e];refine⟨f,?_,?_⟩
   .simp_all
   .have C:bE (l.map (·.name)) s=false:=Ew _ _ hn.2 s OU;rw[gw,Pc s l _ C,xi,ai e.symm]
  .rw[af e]at h⊢;exact Pe p s l (seen++[f.name]) _ (i+1) hd.2 hn.2 h
theorem zcm(p:Pr)(s:bG):jf (gw p.funcs []) s=decide (0<=cJ p.funcs s 0):=by
 rw[Pb,Pd _ _ 0 ac];rfl
theorem zcn(hd:cT [] (fZ p)=false){s:bG}(h:0<=cJ p.funcs s 0):fh (gw p.funcs []) s=pe p s:=by
 obtain⟨f,m,Z⟩:=Pe p s p.funcs [] [] 0 rfl hd h;have j:p.funcs[(cJ p.funcs s 0).toNat]?=some f:=m;rw[Z,pe,j];rfl
def pj(V:List (bG×Int))(vs I:qx)(x:St)(_:Int)(w:Bool):Bool×Bool:=
 if x.am=1 then (bE vs x.name,w)
 else if x.am=2 then (bE I x.name,w)
 else if x.am=6 then (jf V x.to&&bE vs x.name,w||(jf V x.to && !decide (fh V x.to=(x.args.length:Int))))
 else (true,w)
def uo(V:List (bG×Int))(I:qx):qN->Bool->Int
 |[],w=>if w=true then 5 else 0
 |f::fs,w=>if pV (fun x _=>iZ (f.params++f.ak) I x) f=true/\(fw (pj V (f.params++f.ak) I) f.body 0 w).1=true then uo V I fs (fw (pj V (f.params++f.ak) I) f.body 0 w).2 else 3
def xj(p:Pr):Int:=uo (gw p.funcs []) (bF p) p.funcs false
def Jn(p:Pr):Int:=if lQ p=false then 6 else if ib p=false then 2 else if rh p=true then 4 else xj p
mutual
theorem Jo(vs I:qx):∀(x:Ex) (d:Int),mX (fun x _=>iZ vs I x) x d=ev vs I x
 | .mk k n s o C,d=>by rw[mX,ev,Jp vs I C,Bool.and_comm]
theorem Jp(vs I:qx):∀(l:qI) (d:Int),jz (fun x _=>iZ vs I x) l d=fg vs I l
 |[],_=>rfl
 |x::l,d=>by rw[jz,fg,Jo vs I x,Jp vs I l]
end
section
variable (c:Sc)
mutual
def yC:St->Bool
 | .mk _ _ _ _ a v V M O=>ev c.vars c.an a&&ev c.vars c.an v&&fg c.vars c.an V&&uq M&&uq O
def uq:qD->Bool
 |[]=>true
 |x::l=>yC x&&uq l
end
mutual
def xl:St->Bool
 | .mk k Z J n a v V M O=>kA c (.mk k Z J n a v V M O)&&oz M&&oz O
def oz:qD->Bool
 |[]=>true
 |x::l=>xl x&&oz l
end
mutual
theorem zco:∀(x:St) (d:Int),mw (pU fun x _=>iZ c.vars c.an x) x d ()=(yC c x,())
 | .mk k Z J n a v V M O,d=>by
   rw[mw,pU,yC];simp only[St.a8,St.value,St.args,Jo,Jp];cases h:ev c.vars c.an a&&ev c.vars c.an v&&fg c.vars c.an V
   .simp
   .simp only[Ey M,ja];cases j:uq c M
    .simp
    .simp only[Ey O,ja]
theorem Ey:∀(l:qD) (d:Int),fw (pU fun x _=>iZ c.vars c.an x) l d ()=(uq c l,())
 |[],_=>rfl
 |x::l,d=>by
  rw[fw,zco x,uq];cases h:yC c x
  .simp
  .simp only[Ey l,ja]
end
mutual
theorem zcp:∀x:St,gm c false x=(yC c x&&xl c x)
 | .mk k Z J n a v V M O=>by
   rw[gm,yC,xl,Ez M,Ez O,ui,jP];simp only[St.a8,St.value,St.args]
   grind
theorem Ez:∀l:qD,dh c false l=(uq c l&&oz c l)
 |[]=>rfl
 |x::l=>by
  rw[dh,uq,oz,zcp x,Ez l]
  grind
end
end
def zcq(hd:cT [] (fZ p)=false)(c:Sc)(M:c.p=p)(x:St)(d:Int)(w:Bool):
 (kA c x=true->pj (gw p.funcs []) c.vars c.an x d w=(true,w || !lB p x))/\(kA c x=false->(pj (gw p.funcs []) c.vars c.an x d w).1=false):=by
 unfold pj kA lB;rw[M];by_cases m:x.am=1
 .simp_all
 .by_cases Z:x.am=6
  .simp only[Z,Int.reduceEq,fG,ft,nP,ja,Bool.not_not,zcm];cases h:decide (0<=cJ p.funcs x.to 0)
   .simp
   .rw[zcn hd (yA h),hT,ja,ja];refine⟨fun h=>?_,fun h=>h⟩;rw[h];have e:decide ((pe p x.to:Int)=(x.args.length:Int))=decide ((x.args.length:Int)=(pe p x.to:Int)):=by
     by_cases q:(pe p x.to:Int)=(x.args.length:Int)
     .rw[kS q,kS q.symm]
     .rw[rV q,rV (fun e=>q e.symm)]
    rw[e]
  grind
section
variable {p:Pr} (hd:cT [] (fZ p)=false) (c:Sc) (hc:c.p=p)
include hd hc
mutual
theorem zcr:∀(x:St) (d:Int) (w:Bool),(xl c x=true->mw (pj (gw p.funcs []) c.vars c.an) x d w=(true,w || !gm c true x))/\(xl c x=false->(mw (pj (gw p.funcs []) c.vars c.an) x d w).1=false)
 | .mk k Z J n a v V M O,d,w=>by
   have m:=zcq hd c hc (.mk k Z J n a v V M O) d w;rw[mw,xl,gm,iY,hc];cases j:kA c (.mk k Z J n a v V M O)
   .grind
   .rw[m.1 j];simp only[ja];have Y:=EA M (bB (d+1)) (w || !lB p (.mk k Z J n a v V M O));cases U:oz c M
    .grind
    .rw[Y.1 U];simp only[ja];have I:=EA O (bB (d+1)) ((w || !lB p (.mk k Z J n a v V M O)) || !dh c true M);cases C:oz c O
     .simp_all
     .refine⟨fun _=>?_,fun h=>pP⟩;rw[I.1 C]
      congr 1
      grind
theorem EA:∀(l:qD) (d:Int) (w:Bool),(oz c l=true->fw (pj (gw p.funcs []) c.vars c.an) l d w=(true,w || !dh c true l))/\(oz c l=false->(fw (pj (gw p.funcs []) c.vars c.an) l d w).1=false)
 |[],d,w=>by
  rw[fw,oz,dh];simp_all
 |x::l,d,w=>by
  have m:=zcr x d w;rw[fw,oz,dh];cases j:xl c x
  .grind
  .rw[m.1 j];simp only[ja];have Z:=EA l d (w || !gm c true x);cases M:oz c l
   .simp_all
   .refine⟨fun _=>?_,fun h=>pP⟩;rw[Z.1 M]
    congr 1
    grind
end
end
theorem Pf{p:Pr}(hd:cT [] (fZ p)=false):∀(l:qN) (w:Bool),uo (gw p.funcs []) (bF p) l w=if l.any (i4 p)=true then 3 else if (w||l.any (kB p))=true then 5 else 0
 |[],w=>by simp[uo]
 |f::fs,w=>by
  have z:=EA hd (ig p f) rfl f.body 0 w;have Z:(ig p f).vars=f.params++f.ak:=rfl;have O:(ig p f).an=bF p:=rfl;rw[Z,O]at z;have J:pV (fun x _=>iZ (f.params++f.ak) (bF p) x) f=(ev (f.params++f.ak) (bF p) f.value&&uq (ig p f) f.body):=by
   rw[pV,Jo];have:=Ey (ig p f) f.body 0;simp_all
  have U:i4 p f=!(pV (fun x _=>iZ (f.params++f.ak) (bF p) x) f&&oz (ig p f) f.body):=by
   rw[i4,J,Ez,Z,O]
   grind
  rw[uo,pX,pX,U];cases m:pV (fun x _=>iZ (f.params++f.ak) (bF p) x) f
  .simp
  .cases j:oz (ig p f) f.body
   .simp[z.2 j]
   .rw[z.1 j];simp only[nV,ft,ID,wH,mp];rw[Pf hd fs]
    congr 2
    rw[kB];cases w<;>simp
def zcs(p:Pr):Jn p=eN p:=by
 unfold Jn eN;rw[zbO,O9];cases m:jp p
 .simp only[ll,zP,dM,fG];cases j:ib p
  .rfl
  .simp only[zP,fG];cases C:ky p
   .simp only[dM,fG];have hd:cT [] (fZ p)=false:=by
     rw[<-O9,rh,jv,jv]at C;exact C.1.2
    rw[xj,Pf hd];simp
   .rfl
 .rfl
def tyP4e.tyF:=ad @cr (ad @cK (ad @fW (ad @gh (ad @eL (ad @et (ad @dV (ad @dD (ad @jb (ad @In (ad @jx (ad @Ik (@Ek))))))))))))
open tyP4e
noncomputable def Pg:{c:SC // aE 28 (f126.body.getD .skip)=c}:=by
 refine⟨?_,?_⟩;rotate_left
 .simp only[f126,bN,aE,bH,bw,bM,bJ,Nat.blt,Nat.ble];rfl
noncomputable def Ph:{c:SC // aE 38 (f125.body.getD .skip)=c}:=by
 refine⟨?_,?_⟩;rotate_left
 .simp only[f125,bN,aE,bH,bw,bM,bJ,Nat.blt,Nat.ble];rfl
noncomputable def Pi:{c:SC // aE 35 (f74.body.getD .skip)=c}:=by
 refine⟨?_,?_⟩;rotate_left
 .simp only[f74,bN,aE,bH,bw,bM,bJ,Nat.blt,Nat.ble];rfl
def ii(l:qx):qR:=l.map fun s=>(.aj s,.bool true)
def vE(l:qx)(s:qA):qx:=if bE l s=true then l else l++[s]
theorem Bf(s:qA):∀(l:qx) (i:Nat),(bE l s=false->fM .string (.aj s) (ii l) i=some none)/\(bE l s=true->∃j,fM .string (.aj s) (ii l) i=some (some (i+j,.bool true))/\(ii l).set j (.aj s,.bool true)=ii l)
 |[],i=>⟨fun _=>rfl,fun h=>by simp[bE]at h⟩
 |a::l,i=>by
  have z:bE (a::l) s=(decide (s=a)||bE l s):=by rw[show a::l=[a]++l from rfl,rX,um]
  by_cases h:s=a
  .subst h;rw[z,kS rfl,nU];refine⟨fun h=>pP,fun _=>⟨0,?_,?_⟩⟩
   .simp[ii,fM,pH]
   .simp[ii]
  .have V:fM .string (.aj s) (ii (a::l)) i=fM .string (.aj s) (ii l) (i+1):=by
    show fM .string (.aj s) ((.aj a,.bool true)::ii l) i=_;have:(s == a)=false:=mR;simp[fM,pH,this]
   rw[z,rV h,mp,V];obtain⟨Z,J⟩:=Bf s l (i+1);refine⟨Z,fun q=>?_⟩;obtain⟨j,U,Y⟩:=J q;exact⟨j+1,aX,by show(AV.aj a,AV.bool true)::(ii l).set j _=_;rw[Y];rfl⟩
def yD{l:qx}(hg:H.get r=some (.map (ii l)))(s:qA):jS prog H 178 (.map r) (.aj s) false=some (.bool (bE l s)):=by
 obtain⟨J,Z⟩:=O6 (P:=prog) (H:=H) (t:=178) (nm:=s) (z:=.bool false) underlying178 ax ax hg;cases h:bE l s with
 |false=>rw[J ((Bf s l 0).1 h)]
 |true=>obtain⟨j,m,Y⟩:=(Bf s l 0).2 h;rw[Z _ _ m]
def Pj{l:qx}(hg:H.get r=some (.map (ii l)))(s:qA):oJ prog H 178 (.map r) (.aj s) (.bool true)=some (H.set r (.map (ii (vE l s)))):=by
 obtain⟨J,Z⟩:=Jk (P:=prog) (H:=H) (t:=178) (nm:=s) (x:=.bool true) underlying178 ax hg;cases h:bE l s with
 |false=>rw[J ((Bf s l 0).1 h),vE,h];simp[ii]
 |true=>obtain⟨j,m,Y⟩:=(Bf s l 0).2 h;rw[Z _ _ m,bR,Y,vE,ai h]
def sX(x:List qx):qu:=[.az (x.map fun l=>[cH l])]
def zct(x y:List qx)(h:sX x=sX y):x=y:=by
 simp only[sX,eJ,AV.az.injEq,aW]at h;exact ng (fun a _ b e=>by simp only[eJ,AV.az.injEq,aW]at e;exact wW e) h
def EB(x:List qx):Prop:=x.length<2^60/\∀l∈x,l.length<2^60
def zcu(x:List qx):fQ (.az (x.map fun l=>[cH l])):=.map fun l _=>.cons (vh l) .nil
theorem zcv(x:List qx)(hx:EB x):bX prog ρ 126 (sX x) (.bool (cT [] x.flatten)):=fB fit (pls:=pls) (l:=[]) trivial (.cons (zcu x) .nil) (.bool _) (by
 have hw:=iB 126;obtain⟨hx1,hx2⟩:=hx;rw[sX];refine bp (M:=28) (rs:=[.tmp 2]) (hw.call _) hw.aG hw.aB func126 rfl rfl Pg.2 rfl ?_;dsimp only[Pg,bm,Nat.reduceAdd];refine dJ ?_;refine cl [3,9,10] [] 11 x.length (fun i E H=>∃seen,H.get 0=some (.map (ii seen))/\cT [] x.flatten=cT seen (x.drop i).flatten) eE ⟨[],yz,rfl⟩ ?_;rintro i E H2 hi Y V m z ⟨seen,C,O⟩;(try simp only[bC,aZ,aW,aG,aY,Nat.reduceBEq, *]at Y);(try simp only[aZ,aY, *]at V);(try simp only[aU,ce,bR]at m);repeat' (first
  |(apply aj ?_;clear hK K)|apply aV ?_|(apply bz ?_ ?_<;>(intro hb hbp;try(cases hb;done)))|(apply am fun K hK=>?_)|fail)
 .have U:i<x.length:=by simpa using hb
  have hgx:x[i]?=some x[i]:=bj U;have hsm:=hx2 _ (dm U);have J:(x.drop i).flatten=x[i]++(x.drop (i+1)).flatten:=by rw[gI U,jl]
  rw[J]at O;clear J;generalize x[i]=I at *;refine dJ ?_;refine cl [3,9,10,11,15,16] [] 17 I.length (fun j E H=>∃seen,H.get 0=some (.map (ii seen))/\cT [] x.flatten=cT seen (I.drop j++(x.drop (i+1)).flatten)) eE ⟨seen,C,O⟩ ?_;clear C O seen;rintro j E3 H3 hj Y V m z ⟨seen,C,O⟩;(try simp only[bC,aZ,aW,aG,aY,Nat.reduceBEq, *]at Y);(try simp only[aZ, *]at V);(try simp only[aU,bq,ce,bR,Nat.reduceAdd]at m);repeat' (first
   |(apply aj ?_;clear hK K)|apply aV ?_|(apply bz ?_ ?_<;>(intro hb hbp;try(cases hb;done)))|(apply am fun K hK=>?_)|fail)
  .have Z:j<I.length:=by simpa using hb
   have hgx2:I[j]?=some I[j]:=bj Z;have J:cT seen (I.drop j++(x.drop (i+1)).flatten)=(bE seen I[j]||cT (seen++[I[j]]) (I.drop (j+1)++(x.drop (i+1)).flatten)):=I5;have hlk:=yD C I[j];have hup:=Pj C I[j];refine tz (fun hb hbp=>?_) (fun hb hbp=>?_)
   .all_goals refine qq ?_
    simp_all
   .refine⟨ac,a0,a0,ca,OV,?_⟩;refine⟨vE seen I[j],by rw[aM,ai cM],?_⟩;rw[O,J,vE];simp_all
  .have hje:j=I.length:=by simp at hb;omega
   refine dJ ?_;refine⟨ac,a0,a0,ca,vn,?_⟩
   grind
 .all_goals refine qq ?_
  have hie:i=x.length:=uh;rw[O,hie,iJ];rfl)
def vF(l:qx):AV:=if l=[]then .ag else cH l
def sY(H:Hp)(v:AV)(l:qx)(lo:Nat):Prop:=(v=.ag/\l=[])\/(l≠[]/\dU H v l lo)
def sY.n{l:qx}(h:sY H v l lo):ej H v l lo:=h.imp id fun h=>h.2
def sY.keep{H':Hp}{l:qx}(h:sY H v l lo)(J:H.next<=H'.next)(hg:∀k,aN v k->H'.get k=H.get k):sY H' v l lo:=h.imp id fun h=>⟨h.1,h.2.keep J hg⟩
theorem Pk(H:Hp)(n:Nat):∀l:qx,iceL (iceV H (n+1)) (l.map .aj)=some (l.map .aj)
 |[]=>rfl
 |a::l=>by
  have:=Pk H n l;have e:iceV H (n+1) (.aj a)=some (.aj a):=rfl;simp only[eK,iceL,e,this]
theorem sY.iceV{H:Hp}{v:AV}{l:qx}{lo:Nat}(h:sY H v l lo)(n:Nat):iceV H (n+2) v=some (vF l):=by
 rcases h with⟨rfl,rfl⟩|⟨m,r,z,rfl,j,_⟩
 .rfl
 .have e:Ab.iceV H (n+2) (.sl r 0 l.length 1)=match H.get r with
   |some (.cells I _ _)=>match iceL (Ab.iceV H (n+1)) ((I.drop 0).take (l.length*1))with
    |some O=>if O.length=l.length*1 then some (.az (jI 1 l.length O))else none
    |none=>none
   |_=>none:=rfl
  rw[e,j];simp only[hY,oN];rw[gQ aw,Pk];simp only[dx,ft,NK];rw[vF,af m]
theorem Pm(n:Nat)(l:qx):bY (n+2) (vF l)=cH l:=by
 unfold vF;split
 .rename_i h;subst h;rfl
 .show AV.az ((l.map fun s=>[AV.aj s]).map fun I=>I.map (bY (n+1)))=_;rw[uZ];rfl
set_option maxRecDepth 100000 in
theorem zcw(p:Pr)(hz:p.sz<2^36):bX prog ρ 125 (eV p) (.a6 [cH (bF p),cH (fZ p)]):=NM (n:=3) (Iv (r:=.a6 [vF (bF p),vF (fZ p)]) (m:=3) (cfg:=au pls []) fit (u5 ρ) (fun f args r h=>by simp[au,dE]at h) (.cons (.agg p.pure) .nil) (by
 have hw:=iB 125;have Z:(au pls []).keep 125=false:=rfl;have hpz:p.sz=1+eA p.aa+dO p.funcs:=rfl;have hla:=m1 p.aa;have hlf:=m0 p.funcs;rw[eV];refine bp (M:=38) (rs:=[.tmp 2,.tmp 3]) (hw.call _) hw.aG hw.aB func125 rfl rfl Ph.2 rfl ?_;dsimp only[Ph,bm,Nat.reduceAdd];refine dJ ?_;refine cl [1,2,3,5,11,12] [0] 13 p.aa.length (fun i E H=>∃v,E.at 4=v/\sY H v ((bF p).take i) 1) eE ⟨.ag,eE,.inl ⟨rfl,rfl⟩⟩ ?_;rintro i E V hi j hrH hnH hsI ⟨v,k4,hv⟩;(try simp only[bC,aZ,aW,aG,aY,Nat.reduceBEq, *]at j);(try simp only[bC,aZ,aW,aG,aY, *]at hrH);(try simp only[aU,ce,bR]at hnH);have hB0:(0 == V.next)=false:=ak ac;have hC0:(V.next == 0)=false:=ak ac;repeat' (first
  |(apply aj ?_;clear hK K)|apply aV ?_|(apply bz ?_ ?_<;>(intro hb hbp;try(cases hb;done)))|(apply am fun K hK=>?_)|fail)
 .have hlt:i<p.aa.length:=by simpa using hb
  have hgx:p.aa[i]?=some p.aa[i]:=bj hlt;have I:(bF p).take (i+1)=(bF p).take i++[p.aa[i].name]:=by rw[bF,tK,eI,hgx];rfl
  refine cY fun K hK=>?_;generalize Y:Hp.alloc (Hp.set _ _ _) _=J;have nb:J.next=V.next+2:=vC
  have z:∀k,k<V.next->J.get k=V.get k:=fun k O=>OW
  have gb:J.get (V.next+1)=some (.cells [.aj p.aa[i].name] 0 true):=by rw[<-Y,aD,ai cM]
  clear Y;have hvb:ej J v ((bF p).take i) 1:=hv.n.keep ac fun k O=>z k (hv.n.lt O).2;obtain⟨v5,H5,a5,s5,n5,f5,o5⟩:=w1 (r:=V.next+1) (imm:=0) p.aa[i].name hvb ac gb cb;have n5':J.next<=H5.next:=ac
  clear n5;have g50:H5.get 0=some (.cells p.cells 0 true):=aX;refine kO dY dY (by rw[Z];exact a5) ?_;refine dJ ?_;refine⟨ac,a0,a0,ca,xd,?_⟩;exact⟨v5,eE,.inr ⟨Ak,by rw[I];exact s5⟩⟩
 .have hie:i=p.aa.length:=by simp at hb;omega
  have U:(bF p).take i=bF p:=gQ (by simp[bF];omega);rw[U]at hv;clear U hie hsI hi;refine dJ ?_;have c3:∀k,aN v k->k<V.next:=fun k O=>(hv.n.lt O).2
  refine cl [2,3,4,24,25] [0] 26 p.funcs.length (fun i E H=>∃u,E.at 5=u/\sY H u ((fZ p).take i) V.next/\sY H v (bF p) 1) eE ⟨.ag,eE,.inl ⟨rfl,rfl⟩,hv⟩ ?_;rintro i E C hi j hrH hnH hsI ⟨u,k5,hu,hv3⟩;(try simp only[bC,aZ,aW,aG,aY,Nat.reduceBEq, *]at j);(try simp only[bC,aZ,aW, *]at hrH);(try simp only[aU,bq,ce,bR,Nat.reduceAdd]at hnH);have hB0:(0 == C.next)=false:=ak ac;have hC0:(C.next == 0)=false:=ak ac;repeat' (first
   |(apply aj ?_;clear hK K)|apply aV ?_|(apply bz ?_ ?_<;>(intro hb hbp;try(cases hb;done)))|(apply am fun K hK=>?_)|fail)
  .have hlt:i<p.funcs.length:=by simpa using hb
   have hgx:p.funcs[i]?=some p.funcs[i]:=bj hlt;have I:(fZ p).take (i+1)=(fZ p).take i++[p.funcs[i].name]:=by rw[fZ,tK,eI,hgx];rfl
   refine cY fun K hK=>?_;generalize Y:Hp.alloc (Hp.set _ _ _) _=J;have nb:J.next=C.next+2:=vC
   have z:∀k,k<C.next->J.get k=C.get k:=fun k O=>OW
   have gb:J.get (C.next+1)=some (.cells [.aj p.funcs[i].name] 0 true):=by rw[<-Y,aD,ai cM]
   clear Y;have hub:ej J u ((fZ p).take i) V.next:=hu.n.keep ac fun k O=>z k (hu.n.lt O).2
   obtain⟨v5,H5,a5,s5,n5,f5,o5⟩:=w1 (r:=C.next+1) (imm:=0) p.funcs[i].name hub ac gb cb;have n5':J.next<=H5.next:=ac
   clear n5;have g50:H5.get 0=some (.cells p.cells 0 true):=aX;refine kO dY dY (by rw[Z];exact a5) ?_;refine dJ ?_;refine⟨ac,a0,a0,ca,oh,?_⟩;exact⟨v5,eE,.inr ⟨Ak,by rw[I];exact s5⟩,hv3.keep ac fun k O=>aX⟩
  .have hie:i=p.funcs.length:=by simp at hb;omega
   have U:(fZ p).take i=fZ p:=gQ (by simp[fZ];omega);rw[U]at hu;refine dJ ?_;all_goals refine qq ?_
   have e1:=hv3.iceV (n:=0);have e2:=hu.iceV (n:=0);show(match iceL (iceV C 2) [v,u]with|some ds=>some (AV.a6 ds)|none=>none)=_;simp only[iceL,e1,e2])) (by
 show AV.a6 [bY 2 (vF (bF p)),bY 2 (vF (fZ p))]=_;rw[Pm,Pm])
noncomputable def Jq:En:=⟨125,false,co (fun p=>p.sz<2^36) eV fun p=>.a6 [cH (bF p),cH (fZ p)]⟩
def Pn:dI prog ρ Jq:=dT fun p hp=>zcw ρ p hp
noncomputable def Jr:En:=⟨126,true,co EB sX fun x=>.bool (cT [] x.flatten)⟩
def zcx:dI prog ρ Jr:=dT fun x hx=>zcv ρ x hx
theorem Po(x:List qx):(x.map fun l=>[cH l]).flatten=x.map cH:=by
 induction x with
 |nil=>rfl
 |cons a l ih=>simp[ih]
def zcy{imm:Nat}(hg:H.get r=some (.cells (x.map cH) imm true))(hr:r<H.next)(I:imm<=x.length):
 ∃H',iG (fT 100) [.sl r 0 x.length 1] H=some (sX x,H')/\Icy (fun k=>k=r) H H':=by
 refine dq.iceL (S:=fun k=>k=r) (n:=100) (m:=sX x) ⟨?_,trivial⟩;have h:=dq.rows (S:=fun k=>k=r) (n:=99) (H:=H) (r:=r) (z:=1) (imm:=imm) (tip:=true) (a:=x.map fun l=>[cH l]) (b:=x.map fun l=>[cH l]) rfl hr (by rw[Po];exact hg) (by rw[Po];simpa using I) aw (cp.refl fun a O=>cp.refl fun c hc=>by
  obtain⟨l,_,rfl⟩:=mh.1 O;rw[Ep]at hc;subst hc;exact vp ⟨vh l,trivial⟩)
 simp_all
def Js{l:qC}(O:∀Z,dE l 126 Z=Jr.sp Z)(I:iA l 126=true){imm:Nat}(hg:H.get r=some (.cells (x.map cH) imm true))(hr:r<H.next)(J:imm<=x.length)(C:EB x):
 aR prog (au pls l) 126 [.sl r 0 x.length 1] H fun v H'=>v=.bool (cT [] x.flatten)/\Icy (fun k=>k=r) H H':=by
 obtain⟨H',m,j⟩:=zcy hg hr J;refine aF ?_ (DO (enc:=sX) (out:=fun x=>.bool (cT [] x.flatten)) zct (x:=x) O I C (H':=H') (fun y _ e=>by simp[sX]at e) m);simp_all
def Jt(H:Hp)(a:List qu):de prog H 211 1 [(0,.az a)]=some (.sl H.next 0 1 1,H.alloc (.cells [.az a] 0 true)):=ax
def zcz(H:Hp)(a b:List qu):de prog H 211 2 [(0,.az a),(1,.az b)]=some (.sl H.next 0 2 1,H.alloc (.cells [.az a,.az b] 0 true)):=ax
def zcA(H:Hp)(a b c:List qu):de prog H 211 3 [(0,.az a),(1,.az b),(2,.az c)]=some (.sl H.next 0 3 1,H.alloc (.cells [.az a,.az b,.az c] 0 true)):=ax
noncomputable def Ju:qC:=[Jq,Jr]
def zcB:gT prog ρ Ju:=⟨Pn ρ,zcx ρ,trivial⟩
set_option maxRecDepth 100000 in
theorem zcC(p:Pr)(hz:p.sz<2^36):bX prog ρ 74 (eV p) (.bool (rh p)):=fB fit (pls:=pls) (zcB ρ) (.cons (.agg p.pure) .nil) (.bool _) (by
 have V:zd0 (au pls Ju) 74:=ei (fun _=>rfl) rfl;have kd:∀H,aR prog (au pls Ju) 125 [.agg p.cells] H fun v H'=>v=.a6 [cH (bF p),cH (fZ p)]/\H'=H:=fun H=>cV (enc:=eV) (out:=fun p=>.a6 [cH (bF p),cH (fZ p)]) pd (x:=p) rfl hz;have hpz:p.sz=1+eA p.aa+dO p.funcs:=rfl;have hla:=m1 p.aa;have hlf:=m0 p.funcs;have hal:(bF p).length=p.aa.length:=vy;have hfl:(fZ p).length=p.funcs.length:=by simp[fZ]
 have hx0:∀a b,Ab.extract (.a6 [a,b]) 0=some a:=fun _ _=>rfl;have hx1:∀a b,Ab.extract (.a6 [a,b]) 1=some b:=fun _ _=>rfl;rw[eV];refine bp (M:=35) (rs:=[.tmp 2]) (V.call _) V.aG V.aB func74 rfl rfl Pi.2 rfl ?_;dsimp only[Pi,bm,Nat.reduceAdd];have O:=@Jt;repeat' (first
  |(apply aj ?_;clear hK K)|apply aV ?_|(apply eu ?_;first|refine bK (kd _) ?_)|(apply am fun K hK=>?_)|fail)
 refine qc ?_;refine aF ?_ (Js (x:=[bF p]) (imm:=0) (fun _=>rfl) rfl yz (bT _) aw ⟨aw,cb⟩);rintro v H2 ⟨rfl,hy⟩;have n2:=hy.next
 simp only[aU,ce]at n2;have I:H2.get 0=some (.cells p.cells 0 true):=by rw[hy.out 0 aw,aD,af aw,aD,ai cM]
 have n2':2<=H2.next:=ac
 clear hy n2;rw[show([bF p]:List qx).flatten=bF p by simp];dsimp only[aC];have O:=@Jt;repeat' (first
  |(apply aj ?_;clear hK K)|apply aV ?_|(apply cL ?_ ?_<;>(intro hg hgp;try(cases hg;done)))|(apply bz ?_ ?_<;>(intro hb hbp;try(cases hb;done)))|(apply am fun K hK=>?_)|fail)
 .refine qc ?_;refine aF ?_ (Js (x:=[fZ p]) (imm:=0) (fun _=>rfl) rfl yz (bT _) aw ⟨aw,cb⟩);rintro v H3 ⟨rfl,hy⟩;have n3:=hy.next
  simp only[aU]at n3;have g30:H3.get 0=some (.cells p.cells 0 true):=by rw[hy.out 0 ac,aD,af ac];exact I
  have n3':2<=H3.next:=ac
  clear hy n3;rw[show([fZ p]:List qx).flatten=fZ p by simp];dsimp only[aC];repeat' (first
   |(apply aj ?_;clear hK K)|apply aV ?_|(apply bz ?_ ?_<;>(intro hb hbp;try(cases hb;done)))|(apply am fun K hK=>?_)|fail)
  .all_goals refine qq ?_
   rw[rh];simp_all
  .refine cl [3,21,22] [0] 23 p.funcs.length (fun i E H=>(p.funcs.any fun f=>cT [] (bF p++(f.params++f.ak)))=((p.funcs.drop i).any fun f=>cT [] (bF p++(f.params++f.ak)))) eE aw ?_;rintro i E m hi Z j Y hsI U;(try simp only[bC,aZ,aW,aG,aY,Nat.reduceBEq, *]at Z);(try simp only[bC,aZ,aW, *]at j);(try simp only[aU,bq,ce,bR,Nat.reduceAdd]at Y);have hB0:(0 == m.next)=false:=ak ac;have hC0:(m.next == 0)=false:=ak ac;repeat' (first
    |(apply aj ?_;clear hK K)|apply aV ?_|(apply bz ?_ ?_<;>(intro hb hbp;try(cases hb;done)))|(apply am fun K hK=>?_)|fail)
   .have J:i<p.funcs.length:=by simpa using hb
    have hgx:p.funcs[i]?=some p.funcs[i]:=bj J;have hsm:=oc (dm J);have hsz:p.funcs[i].sz=1+p.funcs[i].name.length+cP p.funcs[i].params+cP p.funcs[i].ak+bi p.funcs[i].body+p.funcs[i].value.sz:=rfl;have hpl:=iU p.funcs[i].params;have hll:=iU p.funcs[i].ak;have C:((p.funcs.drop i).any fun f=>cT [] (bF p++(f.params++f.ak)))=(cT [] (bF p++(p.funcs[i].params++p.funcs[i].ak))||((p.funcs.drop (i+1)).any fun f=>cT [] (bF p++(f.params++f.ak)))):=I6;have O:=@zcA;refine cY fun K hK=>?_;refine qc ?_;refine aF ?_ (Js (x:=[bF p,p.funcs[i].params,p.funcs[i].ak]) (imm:=0) (fun _=>rfl) rfl yz (bT _) aw ⟨aw,cb⟩);rintro v H5 ⟨rfl,hy⟩;have n5:=hy.next
    simp only[aU,bq]at n5;have g50:H5.get 0=some (.cells p.cells 0 true):=by rw[hy.out 0 ac,aD,af (by(try simp only[bq,aU]);omega),aM,af ac,aD,af ac];exact j
    have n5':m.next<=H5.next:=ac
    clear hy n5;rw[show([bF p,p.funcs[i].params,p.funcs[i].ak]:List qx).flatten=bF p++(p.funcs[i].params++p.funcs[i].ak) by simp];dsimp only[aC];refine tz (fun hb hbp=>?_) (fun hb hbp=>?_)
    .all_goals refine qq ?_
     rw[rh,U,C];simp_all
    .refine⟨ac,a0,a0,ca,oh,?_⟩;simp_all
   .all_goals refine qq ?_
    have z:i=p.funcs.length:=uh;rw[z,iJ]at U;have hJ2:(p.funcs.any fun f=>cT [] (bF p++(f.params++f.ak)))=false:=U;rw[rh,hJ2];simp_all
 .refine gW ?_;all_goals refine qq ?_
  rw[rh];simp_all)
end
variable{n:Nd}
section
namespace tyV5
end tyV5
open tyV5
def ij(n:Nd):qA:=vt (w7 n)
def Jv(l:qF):Bool:=!cT [] (l.map ij)
end
section
namespace tyV6
end tyV6
open tyV6
def Jw(u:Un)(g:Gr)(i:Nat):Bool:=match g.aL[i]? with
 |some n=>decide (jC g.aL i≠0)&&Oh u g n
 |none=>true
def rY(l:qF)(i:Int):Nat:=(o0 l l.length).getD i.toNat 0
def Jx(u:Un)(g:Gr):Bool:=
 (decide (0<=g.params)&&decide (g.params<=6)&&decide ((g.aL.length:Int)<=2000))&&((List.range g.aL.length).all (Jw u g)) &&
 (Jv g.aL&&I4 g.aL&&decide (0<=g.value)&&decide (g.value<g.aL.length)&&decide (0<=g.ab)&&decide (g.ab<g.aL.length)) &&
 (decide (jC g.aL g.value=1)&&decide (jC g.aL g.ab=2)&&decide (rY g.aL g.value=0)&&decide (rY g.aL g.ab=0))
end
section
def zcD{l:qI}{k:Ex}(M:eB l=true)(h:l[i]?=some k):eW k=true:=by
 induction l generalizing i with
 |nil=>simp at h
 |cons e I ih=>
  rw[eB,da]at M
  grind
def oA{I:Type}(l:List I)(h:i<l.length):∃k,l[i]?=some k:=⟨l[i],bj h⟩
section
variable (p:Pr) (fi:List (bG × Int))
end
theorem Pp(s:bG):∀(l:qN) (i:Nat) (m:List (bG×Int)),bE (l.map (·.name)) s=false->fh (kU l i m) s=fh m s
 |[],_,m,_=>rfl
 |f::l,i,m,h=>by
  rw[eK,show f.name::l.map (·.name)=[f.name]++l.map (·.name)from rfl,rX,um,jv,mU]at h;rw[kU,Pp s l _ _ h.2,xi,af h.1]
theorem Pq(s:bG):∀(l:qN) (seen:qx) (i:Nat) (m:List (bG×Int)),cT seen (l.map (·.name))=false->0<=cJ l s i->fh (kU l i m) s=cJ l s i
 |[],_,i,m,_,h=>by simp[cJ]at h
 |f::l,seen,i,m,hn,h=>by
  rw[eK,cT,jv]at hn;rw[cJ]at h⊢;by_cases e:f.name=s
  .have C:bE (l.map (·.name)) s=false:=Ew _ _ hn.2 s OU;rw[ai e,kU,Pp s l _ _ C,xi,ai e.symm]
  .rw[af e]at h⊢;rw[kU];exact Pq s l (seen++[f.name]) (i+1) _ hn.2 h
structure zf5 (p:Pr):Prop where
 ex:jp p=false
 wf:ib p=true
 du:ky p=false
 un:p.funcs.any (i4 p)=false
 ba:p.funcs.any (kB p)=false
def zcE(h:eN p=0):zf5 p:=by
 rw[eN]at h;by_cases m:jp p=true
 .simp_all
 rw[af m]at h;by_cases j:ib p=false
 .simp_all
 rw[af j]at h;by_cases C:ky p=true
 .simp_all
 rw[af C]at h;by_cases V:p.funcs.any (i4 p)=true
 .simp_all
 rw[af V]at h;by_cases Z:p.funcs.any (kB p)=true
 .simp_all
 exact⟨by simpa using m,by simpa using j,by simpa using C,by simpa using V,xR⟩
def zf5.aF(h:zf5 p):cT [] (bF p)=false/\cT [] (fZ p)=false:=by
 have hd:=h.du;rw[ky,Ev,jv,jv]at hd;exact⟨hd.1,hd.2.1⟩
theorem Jy:∀(l seen:qx),cT seen l=false->l.Nodup
 |[],_,_=>List.nodup_nil
 |s::l,seen,h=>by
  rw[cT,jv]at h;refine Er.2 ⟨fun Y=>?_,Jy l _ h.2⟩;have:=Ew _ _ h.2 s (by rw[rX,um,kS rfl,uk]);rw[bE,yB]at this
  grind
def zf5.fR(h:zf5 p):(p.aa.map (·.name)).Nodup:=Jy _ _ h.aF.1
structure Bd where
 l:qF
 vars:qy
 ab:Int
 loops:Nat
structure Cx where
 aa:List Ar
 funcs:qN
 aF:List bG
def fK(l:qF)(n:Nd):Nat:=l.findIdx fun x=>decide (x=n)
def i7(l:qF)(n:Nd):qF:=if fK l n<l.length then l else l++[n]
def ah(n:Nd)(s:Bd):Int×Bd:=(fK s.l n,{s with l:=i7 s.l n})
def bV:List bG->bG->Nat
 |[],_=>0
 |a::l,s=>if a=s then 0 else if bE l s=true then bV l s+1 else 0
def bA(c a b:Int)(s:Bd):Int×Bd:=if a=b then (a,s)else ah ⟨22,0,[c,a,b]⟩ s
def kC(j v:Int)(s:Bd):Bd:=let r:=ah ⟨27,j,[s.ab,v]⟩ s;{r.2 with ab:=r.1}
def eO(len i:Int)(s:Bd):Bd:=
 let I:=ah ⟨1,len,[]⟩ s
 let M:=ah ⟨19,0,[i,I.1]⟩ I.2
 kC 2 M.1 M.2
def mF(v:Int)(s:Bd):Bd:=
 let z:=ah ⟨1,0,[]⟩ s
 let c:=ah ⟨16,0,[v,z.1]⟩ z.2
 kC 1 c.1 c.2
def ec(c:Cx):Nat->Ex->Bd->Option (Int×Bd)
 |0,_,_=>none
 |n+1,x,s=>
  if x.am=1 then some (ah ⟨1,x.n,[]⟩ s)
  else if x.am=2 then (s.vars[bV c.aF x.name]?).map fun v=>(v,s)
  else if x.am=3 then
   (x.ao[0]?).bind fun k=>(ec c n k s).bind fun r=>(c.aa[bV (c.aa.map (·.name)) x.name]?).bind fun a=>
     let j:=eO a.len r.1 r.2
     some (ah ⟨23,bV (c.aa.map (·.name)) x.name,[j.ab,r.1]⟩ j)
  else if x.am=5 then
   (x.ao[0]?).bind fun k0=>(ec c n k0 s).bind fun br=>
   (x.ao[1]?).bind fun O=>(ec c n O br.2).bind fun I=>
   (x.ao[2]?).bind fun C=>(ec c n C {I.2 with ab:=br.2.ab}).bind fun M=>
     let v:=bA br.1 I.1 M.1 M.2
     let t:=bA br.1 I.2.ab v.2.ab v.2
     some (v.1,{t.2 with ab:=t.1})
  else
   (x.ao[0]?).bind fun k0=>(ec c n k0 s).bind fun br=>
     if x.ao.length=1 then some (ah ⟨x.op,0,[br.1]⟩ br.2)
     else (x.ao[1]?).bind fun O=>(ec c n O br.2).bind fun I=>
      some (ah ⟨x.op,0,[br.1,I.1]⟩ (if x.op=7\/x.op=8 then mF I.1 I.2 else I.2))
def nC(c:Cx)(n:Nat):qI->Bd->Option (qy×Bd)
 |[],s=>some ([],s)
 |x::l,s=>(ec c n x s).bind fun r=>(nC c n l r.2).bind fun M=>some (r.1::M.1,M.2)
def fC(C:List bG):Nat->qD->qM->Option qM
 |0,_,_=>none
 |n+1,l,b=>match l with
  |[]=>some b
  |x::l=>
   if (x.am=1\/x.am=6)/\b.length<=bV C x.name then none
   else (fC C n x.bl (if x.am=1\/x.am=6 then b.set (bV C x.name) true else b)).bind fun m=>(fC C n x.bA m).bind fun O=>fC C n l O
def eS(b:qM):qG:=(List.range b.length).filter fun i=>b.getD i false
def lC(c:Int)(a:qy):Nat->Nat->Bd->Option Bd
 |0,_,s=>some s
 |k+1,i,s=>(a[i]?).bind fun x=>(s.vars[i]?).bind fun y=>
  let r:=bA c x y s
  lC c a k (i+1) {r.2 with vars:=r.2.vars.set i r.1}
def ik(base:Int):qG->Nat->Bd->Bd
 |[],_,s=>s
 |w::ws,j,s=>let r:=ah ⟨3,base+j,[]⟩ s;ik base ws (j+1) {r.2 with vars:=r.2.vars.set w r.1}
def fD(loop c:Int)(old:qy):qG->Nat->Bd->Bd
 |[],_,s=>s
 |w::ws,j,s=>
  let f:=ah ⟨25,j,[loop]⟩ s
  let m:=bA c f.1 (old.getD w 0) f.2
  fD loop c old ws (j+1) {m.2 with vars:=m.2.vars.set w m.1}
section
variable (c:Cx)
mutual
def lU:Nat->St->Bd->Option Bd
 |0,_,_=>none
 |n+1,x,s=>
  if x.am=1 then (ec c n x.value s).bind fun r=>if bV c.aF x.name<r.2.vars.length then some {r.2 with vars:=r.2.vars.set (bV c.aF x.name) r.1}else none
  else if x.am=2 then (ec c n x.a8 s).bind fun i=>(ec c n x.value i.2).bind fun v=>(c.aa[bV (c.aa.map (·.name)) x.name]?).bind fun a=>
   let j:=eO a.len i.1 v.2
   let r:=ah ⟨28,bV (c.aa.map (·.name)) x.name,[j.ab,i.1,v.1]⟩ j
   some {r.2 with ab:=r.1}
  else if x.am=3 then (ec c n x.value s).bind fun r=>(eY n x.bl r.2).bind fun a=>(eY n x.bA {a with ab:=r.2.ab,vars:=r.2.vars}).bind fun b=>
   (lC r.1 a.vars b.vars.length 0 b).bind fun m=>
     let t:=bA r.1 a.ab m.ab m
     some {t.2 with ab:=t.1}
  else if x.am=4 then nD n x s
  else if x.am=5 then (ec c n x.value s).bind fun v=>
   let r:=ah ⟨29,0,[v.2.ab,v.1]⟩ v.2
   some {r.2 with ab:=r.1}
  else if x.am=6 then (nC c n x.args s).bind fun Z=>
   if 0<=cJ c.funcs x.to 0/\bV c.aF x.name<Z.2.vars.length then
    let r:=ah ⟨30,cJ c.funcs x.to 0,Z.2.ab::Z.1⟩ Z.2
    let q:=ah ⟨24,0,[r.1]⟩ {r.2 with ab:=r.1}
    some {q.2 with vars:=q.2.vars.set (bV c.aF x.name) q.1}
   else none
  else if x.am=7 then let z:=ah ⟨1,0,[]⟩ s;some (kC (bB (16+x.n)) z.1 z.2)
  else some s
def eY:Nat->qD->Bd->Option Bd
 |0,_,_=>none
 |n+1,l,s=>match l with
  |[]=>some s
  |x::l=>(lU n x s).bind fun r=>eY n l r
def nD:Nat->St->Bd->Option Bd
 |0,_,_=>none
 |n+1,x,s=>(ec c n x.value {s with loops:=s.loops+1}).bind fun r=>(fC c.aF n x.bl (List.replicate r.2.vars.length false)).bind fun b=>
  let p:=ah ⟨3,16*(s.loops:Int),[]⟩ r.2
  (eY n x.bl (ik (16*(s.loops:Int)+1) (eS b) 0 {p.2 with ab:=p.1})).bind fun t=>(ec c n x.value t).bind fun d=>
    let k:=ah ⟨31,s.loops,r.2.ab::((eS b).map fun i=>r.2.vars.getD i 0)++[d.1,d.2.ab]++((eS b).map fun i=>d.2.vars.getD i 0)⟩ d.2
    let f:=ah ⟨25,0,[k.1]⟩ {k.2 with vars:=r.2.vars}
    let m:=bA r.1 f.1 r.2.ab f.2
    some (fD k.1 r.1 r.2.vars (eS b) 1 {m.2 with ab:=m.1})
end
end
def gC:Nat->Nat->Bd->Bd
 |0,_,s=>s
 |n+1,k,s=>let r:=ah ⟨2,k,[]⟩ s;gC n (k+1) {r.2 with vars:=r.2.vars++[r.1] }
def jq:Nat->Bd->Bd
 |0,s=>s
 |n+1,s=>let r:=ah ⟨1,0,[]⟩ s;jq n {r.2 with vars:=r.2.vars++[r.1] }
def jg(f:Fu):Bd:=let e:=ah ⟨26,0,[]⟩ ⟨[],[],0,0⟩;jq f.ak.length (gC f.params.length 0 {e.2 with ab:=e.1})
def kE(p:Pr)(f:Fu):Cx:=⟨p.aa,p.funcs,f.params++f.ak⟩
def pm(p:Pr)(n:Nat)(f:Fu):Option Gr:=(eY (kE p f) n f.body (jg f)).bind fun s=>(ec (kE p f) n f.value s).bind fun v=>some ⟨f.name,f.params.length,v.2.l,v.1,v.2.ab⟩
def lV(p:Pr)(n:Nat):qN->List Gr->Option (Un×Int)
 |[],gs=>some (⟨p.aa,gs⟩,0)
 |f::l,gs=>(pm p n f).bind fun g=>if (2000:Int)<g.aL.length then some (⟨[],[]⟩,6)else lV p n l (gs++[g])
def pn(p:Pr)(n:Nat):Option (Un×Int):=if eN p=0 then lV p n p.funcs []else some (⟨[],[]⟩,eN p)
structure NdR (n:Nd):Prop where
 op:0<=n.op/\n.op<256
 aP:-9223372036854775808<=n.aP/\n.aP<9223372036854775808
 ao:∀k∈n.ao,0<=k/\k<2^60
 len:n.ao.length<2^30
def Ps(n:Int):nn n 0=n%256:=by
 rw[nn,Bb];simp[Int.fdiv_one]
def Pt(n:Int)(i:Nat):nn n (i+1)=nn (n/256) i:=by
 rw[nn,nn];have e:(2:Int)^ (8*(i+1))=256*2^ (8*i):=by
  rw[Nat.mul_add,Int.pow_add];omega
 have p:(0:Int)<=2^ (8*i):=Int.le_of_lt (Int.pow_pos aH);rw[e,OX _ ac,OX _ p,Int.ediv_ediv_of_nonneg aH]
def zcF(n:Int)(i:Nat):0<=nn n i/\nn n i<256:=by
 rw[nn,Bb];omega
theorem Pu:∀(k:Nat) (n m:Int),0<=n->n<256^ k->0<=m->m<256^ k->(∀i,i<k->nn n i=nn m i)->n=m
 |0,n,m,h1,h2,h3,h4,_=>by simp at h2 h4;omega
 |k+1,n,m,h1,h2,h3,h4,h=>by
  have e:(256:Int)^ (k+1)=256*256^ k:=by rw[Int.pow_succ];omega
  rw[e]at h2 h4;have Z:=h 0 ac;rw[Ps,Ps]at Z;have ih:=Pu k (n/256) (m/256) ac (by generalize (256:Int)^ k=P at *;omega) ac (by generalize (256:Int)^ k=P at *;omega) (fun i I=>by rw[<-Pt,<-Pt];exact h (i+1) ac);omega
theorem Pv:∀{l m:qy},(∀x∈l,0<=x/\x<256)->(∀x∈m,0<=x/\x<256)->vt l=vt m->l=m
 |[],[],_,_,_=>rfl
 |[],_::_,_,_,h=>by simp[vt]at h
 |_::_,[],_,_,h=>by simp[vt]at h
 |a::l,b::m,hl,hm,h=>by
  simp only[vt,eK,eJ]at h;have Z:=hl a eg;have j:=hm b eg;have e:a=b:=by
   have:=lN UInt8.toNat h.1;rw[UInt8.toNat_ofNat',UInt8.toNat_ofNat']at this;omega
  rw[e,Pv (fun x hx=>hl x (en _ hx)) (fun x hx=>hm x (en _ hx)) h.2]
def Pw(n:Int)(k:Nat):∀x∈jM n k,0<=x/\x<256:=fun x hx=>by
 obtain⟨i,_,rfl⟩:=mh.1 hx;exact zcF n i
def Px(n:Nd):∀x∈w7 n,0<=x/\x<256:=fun x hx=>by
 rw[w7,gH,nT,List.mem_flatMap]at hx;rcases hx with rfl|hx|⟨k,_,hx⟩
 .rw[Bb];omega
 .exact Pw _ _ x hx
 .exact Pw _ _ x hx
def Py{n m:Int}(h1:0<=n)(h2:n<18446744073709551616)(C:0<=m)(V:m<18446744073709551616)(h:jM n 8=jM m 8):n=m:=
 Pu 8 n m h1 ac C ac fun i I=>List.map_inj_left.1 h i (rI.2 I)
def vG(n:Int):0<=IntKind.wrap .u64 n/\IntKind.wrap .u64 n<18446744073709551616:=by rw[Bc];omega
theorem Pz:∀{C ms:qy},(∀k∈C,0<=k/\k<2^60)->(∀k∈ms,0<=k/\k<2^60)->(C.flatMap fun k=>jM (IntKind.wrap .u64 k) 8)=(ms.flatMap fun k=>jM (IntKind.wrap .u64 k) 8)->C=ms
 |[],[],_,_,_=>rfl
 |[],m::ms,_,_,h=>by
  have:=lN List.length h;rw[yg,iR,ue]at this;simp at this;omega
 |k::C,[],_,_,h=>by
  have:=lN List.length h;rw[yg,iR,ue]at this;simp at this
 |k::C,m::ms,hk,hm,h=>by
  rw[yg,yg]at h;obtain⟨Z,j⟩:=List.append_inj h (by rw[ue,ue]);have e:=Py (vG k).1 (vG k).2 (vG m).1 (vG m).2 Z;have O:=hk k eg;have Y:=hm m eg;rw[Bc,Bc]at e;have M:k=m:=ac;rw[M,Pz (fun x hx=>hk x (en _ hx)) (fun x hx=>hm x (en _ hx)) j]
def PA{a b:Nd}(O:NdR a)(hb:NdR b)(h:ij a=ij b):a=b:=by
 have h:=Pv (Px a) (Px b) h;rw[w7,w7,eJ]at h;obtain⟨m,j⟩:=h;obtain⟨C,V⟩:=List.append_inj j (by rw[ue,ue]);have U:=Py (vG _).1 (vG _).2 (vG _).1 (vG _).2 C;have J:=Pz O.ao hb.ao V;have o1:=O.op;have o2:=hb.op;have i1:=O.aP;have i2:=hb.aP;rw[Bb,Bb]at m;rw[Bc,Bc]at U;obtain⟨z,Z,I⟩:=a;obtain⟨M,Y,bk⟩:=b;simp only at *;rw[show z=M by omega,show Z=Y by omega,J]
def PB(x:Nd)(l:qF)(n:Nd):fK (x::l) n=if x=n then 0 else fK l n+1:=by
 unfold fK;rw[List.findIdx_cons];by_cases h:x=n<;>simp[h]
def EC(l:qF)(n:Nd):fK l n<=l.length:=by unfold fK;exact List.findIdx_le_length
def PC{l:qF}:fK l n<l.length↔n∈l:=by
 unfold fK;rw[List.findIdx_lt_length];simp
def PD{l:qF}(h:fK l n<l.length):l[fK l n]?=some n:=by
 rw[bj h];have:=List.findIdx_getElem (p:=fun x=>decide (x=n)) (xs:=l) (w:=h);simp only[rG]at this;exact lN some this
def PE(l:qF)(n:Nd):(i7 l n).length=if fK l n<l.length then l.length else l.length+1:=by
 unfold i7;split<;>simp[*]
def sZ(l:qF)(n:Nd):l<+:i7 l n:=by
 unfold i7;split
 .exact rW l
 .exact List.prefix_append l [n]
theorem Jz(l:qF)(n:Nd):(i7 l n)[fK l n]?=some n:=by
 unfold i7;split
 .rename_i h;exact PD h
 .rename_i h;have:=EC l n;have e:fK l n=l.length:=ac;rw[e,uW (ay _),xY];rfl
def rZ{l:qF}{x:Nd}:x∈i7 l n↔x∈l\/x=n:=by
 unfold i7;split
 .rename_i h;have:=PC.1 h;constructor
  .exact .inl
  .rintro(h|rfl)
   .exact h
   .exact this
 .simp
def zcG(l:qF)(n:Nd):fK l n<(i7 l n).length:=by
 have:=EC l n;rw[PE];split<;>omega
def atV(l:qF)(i:Nat):List (bG×Int):=(l.zipIdx i).map fun p=>(ij p.1,(p.2:Int))
theorem zcH(x:Nd)(l:qF)(i:Nat):atV (x::l) i=(ij x,(i:Int))::atV l (i+1):=by rw[atV,GU];rfl
theorem PF{n:Nd}(J:NdR n):∀(l:qF) (i:Nat),(∀x∈l,NdR x)->jf (atV l i) (ij n)=decide (fK l n<l.length)/\(fK l n<l.length->fh (atV l i) (ij n)=((i+fK l n:Nat):Int))/\(¬fK l n<l.length->∀x,setV (atV l i) (ij n) x=atV l i++[(ij n,x)])
 |[],i,_=>⟨rfl,fun h=>by simp[fK]at h,fun _ x=>rfl⟩
 |x::l,i,hl=>by
  obtain⟨m,j,C⟩:=PF J l (i+1) fun y hy=>hl y (en _ hy)
  rw[PB,zcH,gF];by_cases e:x=n
  .subst e;refine⟨by simp[jf],fun _=>by simp[fh],fun h=>pP⟩
  .have O:¬ij n=ij x:=fun h=>e (PA J (hl x eg) h).symm;rw[af e];refine⟨?_,fun h=>?_,fun h y=>?_⟩
   .simp only[jf,O];rw[m];simp
   .have:=j ac;simp only[fh,O,fG];rw[this];congr 1;omega
   .have:=C ac y;simp only[setV,O,fG,this,lw]
def zcI(l:qF)(n:Nd):atV l 0++[(ij n,(l.length:Int))]=atV (l++[n]) 0:=by
 simp[atV,List.zipIdx_append]
end
end Go.Proofs.YtpbcimfiofmoeaaGreat
