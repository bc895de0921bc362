/- Parts: R3j, Spec6, Sem6, Rep6, Rep6c, L4b, P4e, V5, V6, SemT, SemV, SpecL. -/
import Derived.Test.YtpbcimfiofmoeaaGreatMCJ
set_option linter.unusedSimpArgs false
set_option linter.unusedVariables false
set_option linter.unusedSectionVars false
set_option linter.defProp false
set_option maxHeartbeats 32000000
namespace Go.Ab
set_option maxRecDepth 20000
open Go
theorem OA{P:Prop}(h:P:=by show((pi a (zlj p)).getD []).length < _;rw[Iv O];omega):P:=h
theorem OB{P:Prop}(h:P:=by rw[List.drop_eq_getElem_cons hlt,List.any_cons]):P:=h
theorem OC{P:Prop}(h:P:=by rw[znU,tj,decide_eq_true e.symm,Bool.or_true]):P:=h
theorem ti{P:Prop}(h:P:=by rw[<- Z];rfl):P:=h
theorem OD{P:Prop}(h:P:=by rw[o5 _ (nw _ ac) (na _ ac)];exact g4s):P:=h
theorem OE{P:Prop}(h:P:=by rw[o5 _ (nw _ ac) (na _ ac)];exact g4b):P:=h
theorem OF{P:Prop}(h:P:=by rw[o5 _ (nw _ ac) (na _ ac)];exact g40):P:=h
theorem OG{P:Prop}(h:P:=by simp only[zk1,Nat.reduceBEq, *];exact zni (n:=V.length) ac ac):P:=h
theorem Ai{P:Prop}(h:P:=by rw[Hp.get_set,if_pos dT]):P:=h
theorem OH{P:Prop}(h:P:=by rw[<- Z,zkZ,if_neg iI,Hp.get_set,if_neg ac,zkZ,if_neg ac]):P:=h
def Iu:=@List.mem_singleton
def Dv:=@List.nodup_cons
end Go.Ab
namespace Go.Proofs.YtpbcimfiofmoeaaGreat
set_option maxRecDepth 20000
open Go Go.Ab
def tyR3j.tyF:=ad @ec (ad @cJ (ad @dd (ad @gY (ad @iQ (ad @fI (ad @fx (ad @em (ad @en (ad @zms (ad @iR (ad @jw (ad @eY (ad @GO (ad @Oi (@Dr)))))))))))))))
open tyR3j
noncomputable def OI:{c:SC // aC 86 (Tryz.f32.body.getD .skip)=c}:=by
 refine⟨?_,?_⟩;rotate_left
 .simp only[Tryz.f32,bI,aC,zll,zle,zlp,zln,Nat.blt,Nat.ble];rfl
theorem ztx{c c':Sc}(h1:c.vars=c'.vars)(h2:c.an=c'.an)(z:c.p=c'.p)(x:St):jQ c x=jQ c' x:=by
 unfold jQ jP;rw[h1,h2,z]
mutual
theorem zAv{c c':Sc}(h1:c.vars=c'.vars)(h2:c.an=c'.an)(z:c.p=c'.p)(b:Bool):∀x:St,fZ c b x=fZ c' b x
 | .mk k Z Y n a v M j m=>by
   simp only[fZ,Dw h1 h2 z b j,Dw h1 h2 z b m,ztx h1 h2 z,z]
theorem Dw{c c':Sc}(h1:c.vars=c'.vars)(h2:c.an=c'.an)(z:c.p=c'.p)(b:Bool):∀l:List St,zl4 c b l=zl4 c' b l
 |[]=>rfl
 |x::l=>by simp only[zl4,zAv h1 h2 z b x,Dw h1 h2 z b l]
end
def pi(v:AV)(l:List (List UInt8)):Option (List (List UInt8)):=match v with
 | .nilS=>none
 |_=>some l
theorem Iv{H:Hp}{v:AV}{l:List (List UInt8)}{lo:Nat}(h:eB H v l lo):(pi v l).getD []=l:=by
 rcases h with⟨rfl,rfl⟩|⟨r,m,rfl,_⟩<;>rfl
theorem eB.iceO{H:Hp}{v:AV}{l:List (List UInt8)}{lo:Nat}(h:eB H v l lo)(n:Nat):
 ∃H',fh (n+2) v H=some (rR (pi v l),H')/\eB H' v l lo/\H'.next=H.next/\∀k,¬zlk v k->H'.get k=H.get k:=by
 rcases h with⟨rfl,rfl⟩|h
 .exact⟨H,rfl,.inl ⟨rfl,rfl⟩,rfl,fun _ _=>rfl⟩
 .obtain⟨H',m,j,z,_,Y⟩:=h.ice n;refine⟨H',?_,.inr j,z,Y⟩;rw[m];obtain⟨r,Z,rfl,_⟩:=h;rfl
theorem OJ{H:Hp}{w a:AV}{vs K:List (List UInt8)}{lo lo':Nat}(V:dV H w vs lo)(U:eB H a K lo')(hd:∀k,zlk a k->¬zlk w k)(p:Pr)(n:Nat):
 ∃H',fh (n+3) (.agg [w,a,.lst (p.arrays.map Ar.cells),.lst (p.funcs.map Fu.cells)]) H=some (.agg (Sc.cells ⟨vs,pi a K,p⟩),H')/\dV H' w vs lo/\eB H' a K lo'/\H'.next=H.next/\∀k,¬zlk w k->¬zlk a k->H'.get k=H.get k:=by
 obtain⟨H1,m,j,h3,_,Y⟩:=V.ice n;have O:eB H1 a K lo':=U.keep ac fun k o=>Y k (hd k o);obtain⟨I,J,C,g3,Z⟩:=O.iceO n;refine⟨I,?_,j.keep ac fun k o=>Z k fun h=>hd k h o,C,ac,fun k h M=>by rw[Z k M,Y k h]⟩;have e:fh (n+3) (.agg [w,a,.lst (p.arrays.map Ar.cells),.lst (p.funcs.map Fu.cells)]) H=match gO (fh (n+2)) [w,a,.lst (p.arrays.map Ar.cells),.lst (p.funcs.map Fu.cells)] H with
  |some (z,H)=>some (.agg z,H)
  |none=>none:=rfl
 rw[e];simp only[gO,m,J];rfl
noncomputable def OK:En:=⟨61,true,b7 Cs.ok ri uz⟩
theorem zvZ(ρ:Nat->Int):zl0 Tryz.prog ρ OK:=zl7 fun x hx=>zAu ρ x hx
noncomputable def OL:En:=⟨58,false,b7 (fun p=>p.sz<2^36) fc fun p=>.bool (jo p)⟩
theorem zv0(ρ:Nat->Int):zl0 Tryz.prog ρ OL:=zl7 fun p hp=>zoY ρ p ac
noncomputable def OM:En:=⟨59,false,b7 (fun p=>p.sz<2^36) fc fun p=>.bool (hT p)⟩
theorem zAw(ρ:Nat->Int):zl0 Tryz.prog ρ OM:=zl7 fun p hp=>ze9 ρ p hp
noncomputable def ON:En:=⟨60,false,b7 (fun p=>p.sz<2^36) fc fun p=>.bool (kI p)⟩
theorem zv1(ρ:Nat->Int):zl0 Tryz.prog ρ ON:=zl7 fun p hp=>zAo ρ p hp
noncomputable def uA:List En:=[OL,OM,ON,OK,Iq]
theorem zAx(ρ:Nat->Int):fK Tryz.prog ρ uA:=⟨zv0 ρ,zAw ρ,zv1 ρ,zvZ ρ,Oo ρ,trivial⟩
def gJ(p:Pr)(f:Fu):Sc:=⟨f.params++f.locals,some (zlj p),p⟩
def iX(p:Pr)(f:Fu):Bool:=!(zl4 (gJ p f) false f.body&&d8 (gJ p f).vars (gJ p f).an f.value)
def kJ(p:Pr)(f:Fu):Bool:=!zl4 (gJ p f) true f.body
def zmw(p:Pr):Int:=if jo p=true then 6 else if hT p=false then 2 else if kI p=true then 4 else if p.funcs.any (iX p)=true then 3 else if p.funcs.any (kJ p)=true then 5 else 0
theorem OO{H:Hp}{w a:AV}{p:Pr}{f:Fu}{lo lo':Nat}(Z:dV H w (f.params++f.locals) lo)(O:eB H a (zlj p) lo')(hd:∀k,zlk a k->¬zlk w k)(J:p.sz<2^60)(hf:f.sz<2^60)(b:Bool)(C:b=true->ph p f.body=true):
 zk5 Tryz.prog (zkY pls uA) 61 [.agg [w,a,.lst (p.arrays.map Ar.cells),.lst (p.funcs.map Fu.cells)],.lst (f.body.map St.cells),.bool b] H fun v H'=>v=.bool (zl4 (gJ p f) b f.body)/\dV H' w (f.params++f.locals) lo/\eB H' a (zlj p) lo'/\H.next<=H'.next/\∀k,¬zlk w k->¬zlk a k->H'.get k=H.get k:=by
 obtain⟨H',m,j,Y,h4,V⟩:=OJ Z O hd p 97;have M:f.sz=1+f.name.length+zmd f.params+zmd f.locals+zld f.body+f.value.sz:=rfl;have K:=zno f.params;have I:=zno f.locals;have o:p.sz=1+zmL p.arrays+zmv p.funcs:=rfl;have hla:=znR p.arrays;have hal:(zlj p).length=p.arrays.length:=uw;have z:Cs.ok ⟨⟨f.params++f.locals,pi a (zlj p),p⟩,f.body,b⟩:=⟨⟨b9,OA,J⟩,ux,C⟩;refine aS ?_ (CK (enc:=ri) (out:=uz) Is (x:=⟨⟨f.params++f.locals,pi a (zlj p),p⟩,f.body,b⟩) (fun _=>rfl) rfl z (H':=H') (fun y _ e=>?_) ?_)
 .rintro v _ ⟨rfl,rfl⟩;refine⟨?_,j,Y,ac,V⟩;show AV.bool (zl4 ⟨f.params++f.locals,pi a (zlj p),p⟩ b f.body)=_;rw[Dw (c:=⟨f.params++f.locals,pi a (zlj p),p⟩) (c':=gJ p f) rfl (Iv O) rfl]
 .obtain⟨r,U,rfl,_⟩:=Z;simp[ri,Sc.cells]at e
 .show gO (fh 100) [.agg [w,a,.lst (p.arrays.map Ar.cells),.lst (p.funcs.map Fu.cells)],.lst (f.body.map St.cells),.bool b] H=some (ri ⟨⟨f.params++f.locals,pi a (zlj p),p⟩,f.body,b⟩,H');simp only[gO,m];rfl
theorem zAy{H:Hp}{w a:AV}{p:Pr}{f:Fu}{lo lo':Nat}(Z:dV H w (f.params++f.locals) lo)(O:eB H a (zlj p) lo')(hd:∀k,zlk a k->¬zlk w k)(J:p.sz<2^60)(hf:f.sz<2^60):
 zk5 Tryz.prog (zkY pls uA) 62 [.agg [w,a,.lst (p.arrays.map Ar.cells),.lst (p.funcs.map Fu.cells)],.agg f.value.cells] H fun v H'=>v=.bool (d8 (gJ p f).vars (gJ p f).an f.value)/\dV H' w (f.params++f.locals) lo/\eB H' a (zlj p) lo'/\H.next<=H'.next/\∀k,¬zlk w k->¬zlk a k->H'.get k=H.get k:=by
 obtain⟨H',m,j,Y,h4,V⟩:=OJ Z O hd p 97;have M:f.sz=1+f.name.length+zmd f.params+zmd f.locals+zld f.body+f.value.sz:=rfl;have K:=zno f.params;have I:=zno f.locals;have C:p.sz=1+zmL p.arrays+zmv p.funcs:=rfl;have o:=znR p.arrays;have hal:(zlj p).length=p.arrays.length:=uw;have z:Sc.ok ⟨f.params++f.locals,pi a (zlj p),p⟩/\f.value.sz<2^60:=⟨⟨b9,OA,J⟩,ac⟩;refine aS ?_ (CK (enc:=qi) (ok:=fun x=>x.1.ok/\x.2.sz<2^60) (out:=fun x=>.bool (d8 x.1.vars x.1.an x.2)) Ds (x:=(⟨f.params++f.locals,pi a (zlj p),p⟩,f.value)) (fun _=>rfl) rfl z (H':=H') (fun y _ e=>?_) ?_)
 .rintro v _ ⟨rfl,rfl⟩;refine⟨?_,j,Y,ac,V⟩;show AV.bool (d8 (f.params++f.locals) ((pi a (zlj p)).getD []) f.value)=_;rw[Iv O];rfl
 .obtain⟨r,U,rfl,_⟩:=Z;simp[qi,Sc.cells]at e
 .show gO (fh 100) [.agg [w,a,.lst (p.arrays.map Ar.cells),.lst (p.funcs.map Fu.cells)],.agg f.value.cells] H=some (qi (⟨f.params++f.locals,pi a (zlj p),p⟩,f.value),H');have he:fh 100 (.agg f.value.cells) H'=some (.agg f.value.cells,H'):=by
   rw[mc];rfl
  simp only[gO,m,he];rfl
theorem zft(p:Pr)(r n:Nat):zma Tryz.prog 116 [(0,.sl r 0 n 1),(2,.agg p.cells)]=some (.agg [.sl r 0 n 1,.nilS,.lst (p.arrays.map Ar.cells),.lst (p.funcs.map Fu.cells)]):=aj
theorem Dx(a b c d:AV):zlT 4 [a,b,c,d]=some (.agg [a,b,c,d]):=rfl
mutual
theorem zv2{c:Sc}:∀x:St,fZ c false x=true->xN c.p x=true
 | .mk k Z U n a v M O K,h=>by
   rw[Ah,pQ,co,co]at h;obtain⟨⟨m,j⟩,z⟩:=h;rw[Ov,Dy _ j,Dy _ z];simp only[jQ,co]at m;have Y:=m.2;unfold jP at Y;by_cases V:(St.mk k Z U n a v M O K).kind=6
   .rw[af (by rw[V];decide),am V,co]at Y;simp only[Y.2,Dc,fR]
   .simp only[V,ip,ir,nN,fR]
theorem Dy{c:Sc}:∀l:List St,zl4 c false l=true->ph c.p l=true
 |[],_=>rfl
 |x::l,h=>by
  simp only[zl4,co]at h;simp only[ph,zv2 x h.1,Dy l h.2,fR]
end
set_option maxRecDepth 100000 in
theorem zty(ρ:Nat->Int)(p:Pr)(hz:p.sz<2^36):bM Tryz.prog ρ 32 [.agg p.cells] (.int .i64 (zmw p)):=zmy fit (pls:=pls) (zAx ρ) (.cons (.agg p.pure) .nil) (.int _ _) (by
 have hw:Plain (zkY pls uA) 32:=zml (fun _=>rfl) rfl;have hkeep:(zkY pls uA).keep 32=false:=rfl;have ke:∀H,zk5 Tryz.prog (zkY pls uA) 58 [.agg p.cells] H fun v H'=>v=.bool (jo p)/\H'=H:=fun H=>zlM (enc:=fc) (out:=fun p=>.bool (jo p)) pd (x:=p) rfl hz;have kw:∀H,zk5 Tryz.prog (zkY pls uA) 59 [.agg p.cells] H fun v H'=>v=.bool (hT p)/\H'=H:=fun H=>zlM (enc:=fc) (out:=fun p=>.bool (hT p)) pd (x:=p) rfl hz;have kd:∀H,zk5 Tryz.prog (zkY pls uA) 60 [.agg p.cells] H fun v H'=>v=.bool (kI p)/\H'=H:=fun H=>zlM (enc:=fc) (out:=fun p=>.bool (kI p)) pd (x:=p) rfl hz;have hpz:p.sz=1+zmL p.arrays+zmv p.funcs:=rfl;have hla:=znR p.arrays;have hlf:=znQ p.funcs;have hal:(zlj p).length=p.arrays.length:=uw;refine zlf (M:=86) (rs:=[.tmp 2]) (hw.call _) hw.ice hw.froz Tryz.func32 rfl rfl OI.2 rfl ?_;dsimp only[OI,zD,Nat.reduceAdd];repeat' (first
  |(apply ah ?_;clear hK K)|apply Rx.o ?_|(apply eM ?_;first|refine zlc (ke _) ?_|refine zlc (kw _) ?_|refine zlc (kd _) ?_)|(apply a0 (fun C Z=>?_) (fun C Z=>?_)<;>try(cases C;done))|apply ak ?_|(apply zkU fun K hK=>?_)|apply aG ?_|apply zk3 ?_|apply aF ?_|fail)
 .all_goals (refine⟨eI,_,eR,?_⟩;try simp only[zkX])
  simp_all[zmw]
 .all_goals (refine⟨eI,_,eR,?_⟩;try simp only[zkX])
  simp_all[zmw]
 .all_goals (refine⟨eI,_,eR,?_⟩;try simp only[zkX])
  simp_all[zmw]
 .refine zlL [1] [0] 3 2 (fun r E H=>(1<=r->p.funcs.any (iX p)=false)/\(2<=r->p.funcs.any (kJ p)=false)) eE ⟨ac,ac⟩ ?_;rintro r E H2 hr2 hcE O hnH hsI ⟨hJ1,hJ2⟩;(try simp only[zlm,zlb,aR,zk1,zk7,Nat.reduceBEq, *]at hcE);(try simp only[zlm,zlb,aR,zk1,zk7, *]at O);(try simp only[zk9,zlI,bL]at hnH);have hB0:(0 == H2.next)=false:=zkV ac;have hC0:(H2.next == 0)=false:=zkV ac;repeat' (first
   |(apply ah ?_;clear hK K)|apply Rx.o ?_|(apply a0 (fun C Z=>?_) (fun C Z=>?_)<;>try(cases C;done))|apply ak ?_|(apply zkU fun K hK=>?_)|apply aG ?_|apply zk3 ?_|apply aF ?_|apply zlu ?_)
  .have hrlt:r<2:=by omega
   refine zlL [1,3] [0] 4 p.funcs.length (fun i E H=>(r=0->p.funcs.any (iX p)=(p.funcs.drop i).any (iX p))/\(r=1->p.funcs.any (kJ p)=(p.funcs.drop i).any (kJ p))) eE ⟨ax,ax⟩ ?_;rintro i E3 Y hi hcE O hnH hsI ⟨hU,hB⟩;(try simp only[zlm,zlb,aR,zk1,Nat.reduceBEq, *]at hcE);(try simp only[zlm,zlb,aR, *]at O);(try simp only[zk9,zli,zlI,bL,Nat.reduceAdd]at hnH);have hB0:(0 == Y.next)=false:=zkV ac;have hC0:(Y.next == 0)=false:=zkV ac;repeat' (first
    |(apply ah ?_;clear hK K)|apply Rx.o ?_|(apply a0 (fun C Z=>?_) (fun C Z=>?_)<;>try(cases C;done))|apply ak ?_|(apply zkU fun K hK=>?_)|apply aG ?_|apply zk3 ?_|apply zlu ?_)
   .have hlt:i<p.funcs.length:=by simpa using C
    have hgx:p.funcs[i]?=some p.funcs[i]:=aT hlt;have hsm:=pV (cR hlt);have hsz:p.funcs[i].sz=1+p.funcs[i].name.length+zmd p.funcs[i].params+zmd p.funcs[i].locals+zld p.funcs[i].body+p.funcs[i].value.sz:=rfl;have hpl:=zno p.funcs[i].params;have hll:=zno p.funcs[i].locals;repeat' (first
     |(apply ah ?_;clear hK K)|apply Rx.o ?_|apply bS ?_|apply ak ?_|fail)
    generalize hHb:Hp.set (Hp.alloc Y _) Y.next _=V
    have nb:Y.next+1<=V.next:=by rw[<-hHb];exact aB _
    have gb:V.get Y.next=some (.cells p.funcs[i].cells 0 true):=HM
    have gb0:V.get 0=some (.cells p.cells 0 true):=by rw[<-hHb,aJ,af ac,zkZ,af ac];exact O
    clear hHb;refine LB (id:=14) (ord:=[0,1,2,4,5,7,9,3,6,8,10]) (need:=[(0,7),(2,7),(4,7),(4,8),(5,7),(5,8),(5,10),(6,7),(6,8),(6,10)]) aj aj aj GY aj fun K hK=>?_;have ebB:(Y.next == V.next)=false:=b9;have eb0:(0 == V.next)=false:=b9;have eb1:(0 == V.next+1)=false:=ax;have eb2:(Y.next == V.next+1)=false:=b9;repeat' (first
     |apply Rx.o ?_|(apply zlC ?_;try intro _)|apply bZ ?_|fail)
    generalize hHd:(V.alloc (.cells [] 0 true)).alloc (.cells [.nilS,.nilS,.nilS,.nilS] 0 true)=Hd;have nd:V.next+2<=Hd.next:=by rw[<-hHd];exact aB _
    have ndx:Hd.next<=V.next+2:=by rw[<-hHd];exact aB _
    have oldd:∀k,k<V.next->Hd.get k=V.get k:=fun k o=>by rw[<-hHd,zkZ,af cL,zkZ,af ac]
    have gd1:Hd.get V.next=some (.cells [] 0 true):=by rw[<-hHd,zkZ,af cL,zkZ,am rfl]
    have gds:Hd.get (V.next+1)=some (.cells [.nilS,.nilS,.nilS,.nilS] 0 true):=by rw[<-hHd,zkZ,am (show V.next+1=(V.alloc _).next from rfl)]
    have gdb:Hd.get Y.next=some (.cells p.funcs[i].cells 0 true):=by rw[oldd _ ac];exact gb
    have gd0:Hd.get 0=some (.cells p.cells 0 true):=by rw[oldd _ ac];exact gb0
    clear hHd;have s8:dV Hd (.sl V.next 0 0 1) [] V.next:=⟨V.next,0,rfl,gd1,ax,aB _,ac⟩
    have ow8:∀k,zlk (.sl V.next 0 0 1) k->k=V.next:=fun k ⟨n,e⟩=>by simp only[AV.sl.injEq]at e;exact e.1.symm
    obtain⟨w9,H9,a9,s9,n9,f9,o9⟩:=xt p.funcs[i].params s8 ac b9;have ow9:∀k,zlk w9 k->k=V.next\/V.next+2<=k:=fun k o=>(o9.2 k o).elim (fun h=>.inl (ow8 k h)) (fun h=>.inr ac)
    have g9s:H9.get (V.next+1)=some (.cells [.nilS,.nilS,.nilS,.nilS] 0 true):=by rw[o9.1 _ ac (fun h=>by have:=ow8 _ h;omega)];exact gds
    have g9b:H9.get Y.next=some (.cells p.funcs[i].cells 0 true):=by rw[o9.1 _ ac (fun h=>by have:=ow8 _ h;omega)];exact gdb
    have g90:H9.get 0=some (.cells p.cells 0 true):=by rw[o9.1 _ ac (fun h=>by have:=ow8 _ h;omega)];exact gd0
    refine jv eV eV (by rw[hkeep];exact a9) ?_;repeat' (first
     |(apply zlC ?_;try intro _)|apply bZ ?_|fail)
    obtain⟨I,H11,a11,s11,n11,f11,o11⟩:=xt p.funcs[i].locals s9 ac b9;have ow11:∀k,zlk I k->k=V.next\/V.next+2<=k:=fun k o=>(o11.2 k o).elim (fun h=>ow9 k h) (fun h=>.inr ac)
    have g11s:H11.get (V.next+1)=some (.cells [.nilS,.nilS,.nilS,.nilS] 0 true):=by rw[o11.1 _ ac (fun h=>by have:=ow9 _ h;omega)];exact g9s
    have g11b:H11.get Y.next=some (.cells p.funcs[i].cells 0 true):=by rw[o11.1 _ ac (fun h=>by have:=ow9 _ h;omega)];exact g9b
    have g110:H11.get 0=some (.cells p.cells 0 true):=by rw[o11.1 _ ac (fun h=>by have:=ow9 _ h;omega)];exact g90
    refine jv eV eV (by rw[hkeep];exact a11) ?_;have hbs:zma Tryz.prog 116 [(0,I),(2,.agg p.cells)]=some (.agg [I,.nilS,.lst (p.arrays.map Ar.cells),.lst (p.funcs.map Fu.cells)]):=by
     obtain⟨q,imm,hq,_⟩:=s11;rw[hq];exact zft p _ _
    have hone:=s11.one;have h1o:=hone.1;repeat' (first
     |(apply ah ?_;clear hK K)|apply Rx.o ?_|apply bS ?_|apply ak ?_|(apply zkU fun K hK=>?_)|(apply zlC ?_;try intro _)|(apply zmk ?_ ?_<;>clear hK K)|apply bZ ?_|apply zmK rfl ?_|apply aG ?_|fail)
    .exact zlU
    generalize hH12:Hp.set H11 (V.next+1) _=U;have n12:H11.next<=U.next:=by rw[<-hH12];exact aB _
    have J:∀k,k≠V.next+1->U.get k=H11.get k:=fun k o=>by rw[<-hH12,aJ,af o]
    have g12s:U.get (V.next+1)=some (.cells [I,.nilS,.lst (p.arrays.map Ar.cells),.lst (p.funcs.map Fu.cells)] 0 true):=by rw[<-hH12,aJ,am rfl]
    have g12b:U.get Y.next=some (.cells p.funcs[i].cells 0 true):=by rw[J _ ac];exact g11b
    have g120:U.get 0=some (.cells p.cells 0 true):=by rw[J _ ac];exact g110
    have s12:dV U I (p.funcs[i].params++p.funcs[i].locals) V.next:=s11.keep n12 fun k o=>J k fun e=>by have:=ow11 k o;omega
    have cw:∀k,zlk I k->k<U.next:=fun k o=>(s12.lt o).2
    have m12:V.next+2<=U.next:=ac
    have hfl:(p.funcs[i].params++p.funcs[i].locals).length<2^38:=b9;clear hH12 J s11 a11 o11 f11 a9 o9 f9 s9 s8 gds gdb gd1 gd0 g9s g9b g90 g11s g11b g110 hbs n9 n11 oldd ow9 ow8 gb gb0 hone;have hnoS:∀k,zlk I k->k≠V.next+1/\Y.next<k:=fun k o=>by have:=ow11 k o;omega
    clear ow11;refine zlL [1,3,4,5,6] [0,Y.next] 7 p.arrays.length (fun j E H=>∃a seen,H.get (V.next+1)=some (.cells [I,a,.lst (p.arrays.map Ar.cells),.lst (p.funcs.map Fu.cells)] 0 true)/\eB H a seen U.next/\dV H I (p.funcs[i].params++p.funcs[i].locals) V.next/\th (zlj p) seen j/\AV.one a=true) eE ⟨.nilS,[],g12s,.inl ⟨rfl,rfl⟩,s12,by simp[th],rfl⟩ ?_;rintro j E4 m hj hcE O hnH hsI ⟨a,seen,g4s,s4,t4,hsn,hoa⟩;(try simp only[zlm,zlb,aR,zk1,zk7,Nat.reduceBEq, *]at hcE);(try simp only[zlm,zlb,aR, *]at O);(try simp only[zk9,zli,zlI,bL,Nat.reduceAdd]at hnH);have hB0:(0 == m.next)=false:=zkV ac;have hC0:(m.next == 0)=false:=zkV ac;have hB1:(Y.next == m.next)=false:=zkV ac;have hC1:(m.next == Y.next)=false:=zkV ac;have hsl:seen.length<=p.arrays.length:=by have:zlj p=seen++(zlj p).drop j:=hsn;have:=jm List.length this;rw[fj]at this;omega
    have hdU:(p.funcs.drop i).any (iX p)=(iX p p.funcs[i]||(p.funcs.drop (i+1)).any (iX p)):=OB;have hdB:(p.funcs.drop i).any (kJ p)=(kJ p p.funcs[i]||(p.funcs.drop (i+1)).any (kJ p)):=OB;have hend:j=(zlj p).length->eB m a (zlj p) U.next:=fun hje=>by
     unfold th at hsn;rw[hje,gT,bj]at hsn;rw[<-hsn]at s4;exact s4
    have hd:∀k,zlk a k->¬zlk I k:=fun k h1 h2=>by have:=(s4.lt h1).1;have:=cw k h2;omega
    have hz60:p.sz<2^60:=ac;have hf60:p.funcs[i].sz<2^60:=ac;have nw:∀k,k<=Y.next\/k=V.next+1->¬zlk I k:=fun k o h=>by have:=hnoS k h;omega
    have na:∀k,k<=Y.next\/k=V.next+1->¬zlk a k:=fun k o h=>by have:=(s4.lt h).1;omega
    have g4b:m.get Y.next=some (.cells p.funcs[i].cells 0 true):=O.2
    have g40:m.get 0=some (.cells p.cells 0 true):=O.1;have gh0:=@Dx;repeat' (first
     |(apply ah ?_;clear hK K)|apply Rx.o ?_|apply qP ?_|(apply cz (fun hg hgp=>?_) (fun hg hgp=>?_)<;>try(cases hg;done))|(apply a0 (fun C Z=>?_) (fun C Z=>?_)<;>try(cases C;done))|apply ak ?_|(apply zkU fun K hK=>?_)|(apply zmm 18 [(1,9),(3,9),(7,9),(8,9)] fun K hK=>?_)|(apply zlC ?_;try intro _)|apply bZ ?_|apply aG ?_|apply zk3 ?_|apply zlu ?_)
    .have hlt2:j<p.arrays.length:=by simpa using C
     have hgx2:p.arrays[j]?=some p.arrays[j]:=aT hlt2;have hgn:(zlj p)[j]' ac=p.arrays[j].name:=uw;have hsn2:=Ok ac hsn;rw[hgn]at hsn2;repeat' (first
      |apply Rx.o ?_|(apply zlC ?_;try intro _)|apply bZ ?_|fail)
     have z:∀k,k<m.next->(m.alloc (.cells [.str p.arrays[j].name] 0 true)).get k=m.get k:=fun k o=>gk
     have g4e:(m.alloc (.cells [.str p.arrays[j].name] 0 true)).get (V.next+1)=some (.cells [I,a,.lst (p.arrays.map Ar.cells),.lst (p.funcs.map Fu.cells)] 0 true):=by rw[z _ ac];exact g4s
     have g40e:(m.alloc (.cells [.str p.arrays[j].name] 0 true)).get 0=some (.cells p.cells 0 true):=by rw[z _ ac];exact O.1
     have g4n:(m.alloc (.cells [.str p.arrays[j].name] 0 true)).get m.next=some (.cells [.str p.arrays[j].name] 0 true):=gH
     have s4b:eB (m.alloc (.cells [.str p.arrays[j].name] 0 true)) a seen U.next:=s4.keep (dQ _) fun k o=>z k (s4.lt o).2
     obtain⟨a5,H5,q5,s5,n5,f5,o5⟩:=xu (r:=m.next) (imm:=0) p.arrays[j].name s4b cL g4n ac;simp only[zk9]at n5;have m5:m.next+2<=H5.next:=ac
     clear n5;have g5s:H5.get (V.next+1)=some (.cells [I,a,.lst (p.arrays.map Ar.cells),.lst (p.funcs.map Fu.cells)] 0 true):=by rw[f5 _ ac];exact g4e
     have g5b:H5.get Y.next=some (.cells p.funcs[i].cells 0 true):=by rw[f5 _ ac,z _ ac];exact g4b
     have g50:H5.get 0=some (.cells p.cells 0 true):=by rw[f5 _ ac];exact g40e
     have t5:dV H5 I (p.funcs[i].params++p.funcs[i].locals) V.next:=t4.keep ac fun k o=>by rw[f5 k (cw k o),z k (t4.lt o).2]
     have h5:=s5.one;have h5o:=h5.1;have h5c:=h5.2;refine jv eV eV (by rw[hkeep];exact q5) ?_;repeat' (first
      |(apply ah ?_;clear hK K)|apply Rx.o ?_|apply bS ?_|(apply zkU fun K hK=>?_)|(apply zlC ?_;try intro _)|(apply zmk ?_ ?_<;>clear hK K)|apply bZ ?_|apply zmK rfl ?_|fail)
     .exact zlU
     generalize hH6:Hp.set H5 (V.next+1) _=H6;have n6:H5.next<=H6.next:=by rw[<-hH6];exact aB _
     have old6:∀k,k≠V.next+1->H6.get k=H5.get k:=fun k o=>by rw[<-hH6,aJ,af o]
     have g6s:H6.get (V.next+1)=some (.cells [I,a5,.lst (p.arrays.map Ar.cells),.lst (p.funcs.map Fu.cells)] 0 true):=by rw[<-hH6,aJ,am rfl]
     have g60:H6.get 0=some (.cells p.cells 0 true):=by rw[old6 _ ac];exact g50
     have g6b:H6.get Y.next=some (.cells p.funcs[i].cells 0 true):=by rw[old6 _ ac];exact g5b
     clear hH6;refine⟨ac,zk8,zk8,zlF,vT,?_⟩;exact⟨a5,seen++[p.arrays[j].name],g6s,.inr (s5.keep n6 fun k o=>old6 k (by have:=(s5.lt o).1;omega)),t5.keep n6 (fun k o=>old6 k (hnoS k o).1),hsn2,h5o⟩
    .have hr0:r=0:=by omega
     have s4':=hend ac;refine aZ rfl bc bi ?_;simp only[bj];refine aS ?_ (OO t4 s4' hd hz60 hf60 false ax);rintro v0 H5 ⟨rfl,t5,s5,m5,o5⟩;dsimp only[zk6];have g5s:H5.get (V.next+1)=some (.cells [I,a,.lst (p.arrays.map Ar.cells),.lst (p.funcs.map Fu.cells)] 0 true):=OD;have g5b:H5.get Y.next=some (.cells p.funcs[i].cells 0 true):=OE
     have g50:H5.get 0=some (.cells p.cells 0 true):=OF;have hd5:∀k,zlk a k->¬zlk I k:=hd;have gh0:=@Dx;repeat' (first
      |(apply ah ?_;clear hK K)|apply Rx.o ?_|(apply cz (fun hg hgp=>?_) (fun hg hgp=>?_)<;>try(cases hg;done))|(apply a0 (fun C Z=>?_) (fun C Z=>?_)<;>try(cases C;done))|apply ak ?_|(apply zkU fun K hK=>?_)|apply aF ?_|fail)
     .refine aZ rfl bc bi ?_;simp only[bj];refine aS ?_ (zAy t5 s5 hd5 hz60 hf60);rintro v0 H6 ⟨rfl,t6,s6,m6,o6⟩;dsimp only[zk6];have g6s:H6.get (V.next+1)=some (.cells [I,a,.lst (p.arrays.map Ar.cells),.lst (p.funcs.map Fu.cells)] 0 true):=by rw[o6 _ (nw _ ac) (na _ ac)];exact g5s
      have g6b:H6.get Y.next=some (.cells p.funcs[i].cells 0 true):=by rw[o6 _ (nw _ ac) (na _ ac)];exact g5b
      have g60:H6.get 0=some (.cells p.cells 0 true):=by rw[o6 _ (nw _ ac) (na _ ac)];exact g50
      have gh0:=@Dx;repeat' (first
       |(apply ah ?_;clear hK K)|apply Rx.o ?_|(apply cz (fun hg hgp=>?_) (fun hg hgp=>?_)<;>try(cases hg;done))|(apply a0 (fun C Z=>?_) (fun C Z=>?_)<;>try(cases C;done))|apply ak ?_|(apply zkU fun K hK=>?_)|apply zk3 ?_|apply aF ?_|fail)
      .all_goals (refine⟨eI,_,eR,?_⟩;try simp only[zkX])
       have hu:p.funcs.any (iX p)=true:=by rw[hU hr0,hdU,iX];(try simp only[dI]at *);simp only[*,nN,uo,ir,]
       rw[zmw,hu];(try simp only[dI]at *);simp only[reduceCtorEq,eq_self, *,dB,dL]
      .refine⟨ac,zk8,zk8,zlF,oX,?_⟩;refine⟨fun _=>?_,fun h=>ac⟩;rw[hU hr0,hdU,iX];(try simp only[iU]at *);simp only[*,gm,fR,lC,]
     .all_goals (refine⟨eI,_,eR,?_⟩;try simp only[zkX])
      have hu:p.funcs.any (iX p)=true:=by rw[hU hr0,hdU,iX];(try simp only[dI]at *);simp only[*,nN,gy,ir,]
      rw[zmw,hu];(try simp only[dI]at *);simp only[reduceCtorEq,eq_self, *,dB,dL]
    .have hr1:r=1:=by omega
     have s4':=hend ac;have hJ1':=hJ1 ac;have hcal:ph p p.funcs[i].body=true:=by
      have hu:iX p p.funcs[i]=false:=by
       have:=sI.1 hJ1' _ (cR hlt);simpa using this
      unfold iX at hu;rw[iU,co]at hu;exact Dy _ hu.1
     refine aZ rfl bc bi ?_;simp only[bj];refine aS ?_ (OO t4 s4' hd hz60 hf60 true (fun _=>hcal));rintro v0 H5 ⟨rfl,t5,s5,m5,o5⟩;dsimp only[zk6];have g5s:H5.get (V.next+1)=some (.cells [I,a,.lst (p.arrays.map Ar.cells),.lst (p.funcs.map Fu.cells)] 0 true):=OD;have g5b:H5.get Y.next=some (.cells p.funcs[i].cells 0 true):=OE
     have g50:H5.get 0=some (.cells p.cells 0 true):=OF;have gh0:=@Dx;repeat' (first
      |(apply ah ?_;clear hK K)|apply Rx.o ?_|(apply cz (fun hg hgp=>?_) (fun hg hgp=>?_)<;>try(cases hg;done))|(apply a0 (fun C Z=>?_) (fun C Z=>?_)<;>try(cases C;done))|apply ak ?_|(apply zkU fun K hK=>?_)|apply zk3 ?_|apply aF ?_|fail)
     .all_goals (refine⟨eI,_,eR,?_⟩;try simp only[zkX])
      have hu:p.funcs.any (kJ p)=true:=by rw[hB hr1,hdB,kJ];(try simp only[dI]at *);simp only[*,nN,ir,]
      rw[zmw,hJ1',hu];(try simp only[dI]at *);simp only[reduceCtorEq,eq_self, *,dB,dL]
     .refine⟨ac,zk8,zk8,zlF,oX,?_⟩;refine⟨fun h=>ac,fun _=>?_⟩;rw[hB hr1,hdB,kJ];(try simp only[iU]at *);simp only[*,gm,lC,]
    .omega
   .have hie:i=p.funcs.length:=by simp at C;omega
    rw[hie,gT]at hU hB;refine⟨ac,zk8,zk8,zlF,(by simp only[zk1,Nat.reduceBEq, *];exact zni (n:=2) ac ac),?_⟩;refine⟨fun h=>?_,fun h=>?_⟩
    .by_cases h0:r=0
     .rw[hU h0];rfl
     .exact hJ1 ac
    .rw[hB ac];rfl
  .all_goals (refine⟨eI,_,eR,?_⟩;try simp only[zkX])
   have hr:r=2:=ac;subst hr;have h1:=hJ1 ac;have h2:=hJ2 ac;rw[zmw];(try simp only[iU]at *);simp only[reduceCtorEq,eq_self, *,dL])
end Go.Proofs.YtpbcimfiofmoeaaGreat
namespace Go.Ab
set_option maxRecDepth 20000
open Go
def OP(k:IntKind)(a b:Int):Int:=a.fdiv (2^ min b.toNat k.bits)
theorem bin_shr{P:Program}{D:BinOp->Sx->Sx->Option Bool}{t:TypeId}{k C:IntKind}{a b:Int}(Z:0<=b):zmt P D .shr t (.int k a) (.int C b)=some (.int k (OP k a b)):=by
 obtain⟨m,rfl⟩:=l7 Z;simp only[zmt,tO];show wI .shr k a (Int.ofNat m)=_;simp[wI,OP]
abbrev zly:=List UInt8
def eT:List (zly×Int)->zly->Int
 |[],_=>0
 |p::l,nm=>if nm=p.1 then p.2 else eT l nm
def setV:List (zly×Int)->zly->Int->List (zly×Int)
 |[],nm,x=>[(nm,x)]
 |p::l,nm,x=>if nm=p.1 then (nm,x)::l else p::setV l nm x
section
variable (p:Pr) (fi:List (zly × Int))
end
def dy(vs:List (zly×Int)):List (AV×AV):=vs.map fun p=>(.str p.1,.int .i64 p.2)
theorem Iw(nm:zly):∀(vs:List (zly×Int)) (i:Nat),(zmS .string (.str nm) (dy vs) i=some none/\eT vs nm=0/\∀x,dy (setV vs nm x)=dy vs++[(.str nm,.int .i64 x)]) \/
 ∃j,j<vs.length/\zmS .string (.str nm) (dy vs) i=some (some (i+j,.int .i64 (eT vs nm)))/\∀x,dy (setV vs nm x)=(dy vs).set j (.str nm,.int .i64 x)
 |[],i=>.inl ⟨rfl,rfl,fun _=>rfl⟩
 |p::l,i=>by
  by_cases h:nm=p.1
  .refine .inr ⟨0,ax,?_,fun x=>?_⟩
   .simp[dy,zmS,pD,eT,h]
   .simp[dy,setV,h]
  .have K:zmS .string (.str nm) (dy (p::l)) i=zmS .string (.str nm) (dy l) (i+1):=by
    show zmS .string (.str nm) ((.str p.1,.int .i64 p.2)::dy l) i=_;have:(nm == p.1)=false:=j8;simp[zmS,pD,this]
   have M:eT (p::l) nm=eT l nm:=by simp[eT,h]
   have U:∀x,dy (setV (p::l) nm x)=(.str p.1,.int .i64 p.2)::dy (setV l nm x):=fun x=>by simp[setV,h,dy]
   rw[K,M];rcases Iw nm l (i+1)with⟨m,Z,z⟩|⟨j,o,m,z⟩
   .refine .inl ⟨m,Z,fun x=>?_⟩;rw[U,z];simp[dy]
   .refine .inr ⟨j+1,b9,?_,fun x=>?_⟩
    .rw[m,show i+1+j=i+(j+1) by omega]
    .rw[U,z];simp[dy]
theorem OQ{P:Program}{H:Hp}{t J e r:Nat}{I:List (AV×AV)}{nm:zly}{z:AV}(j:P.underlying t=some (.map J e))(o:nH P J=some .string)(Z:sq P e=some z)(K:H.get r=some (.map I)):
 (zmS .string (.str nm) I 0=some none->jK P H t (.map r) (.str nm) false=some z)/\∀i v,zmS .string (.str nm) I 0=some (some (i,v))->jK P H t (.map r) (.str nm) false=some v:=by
 refine⟨fun h=>?_,fun i v h=>?_⟩<;>simp only[jK,j,o,Z,uY,K,h,yr]
theorem Ix{P:Program}{H:Hp}{t J e r:Nat}{I:List (AV×AV)}{nm:zly}{x:AV}(j:P.underlying t=some (.map J e))(o:nH P J=some .string)(K:H.get r=some (.map I)):
 (zmS .string (.str nm) I 0=some none->znN P H t (.map r) (.str nm) x=some (H.set r (.map (I++[(.str nm,x)]))))/\∀i v,zmS .string (.str nm) I 0=some (some (i,v))->znN P H t (.map r) (.str nm) x=some (H.set r (.map (I.set i (.str nm,x)))):=by
 refine⟨fun h=>?_,fun i v h=>?_⟩<;>simp only[znN,j,o,K,h]
theorem Iy{P:Program}{H:Hp}{t J e r:Nat}(Z:P.underlying t=some (.map J e))(o:nH P J=some .string)(Y:sq P e=some (.int .i64 0)){vs:List (zly×Int)}(K:H.get r=some (.map (dy vs)))(nm:zly):
 jK P H t (.map r) (.str nm) false=some (.int .i64 (eT vs nm)):=by
 obtain⟨l1,V⟩:=OQ (nm:=nm) Z o Y K;rcases Iw nm vs 0 with⟨m,U,z⟩|⟨j,O,m,z⟩
 .rw[l1 m,U]
 .rw[V _ _ m]
theorem Ak{P:Program}{H:Hp}{t J e r:Nat}(Z:P.underlying t=some (.map J e))(o:nH P J=some .string){vs:List (zly×Int)}(K:H.get r=some (.map (dy vs)))(nm:zly)(x:Int):
 znN P H t (.map r) (.str nm) (.int .i64 x)=some (H.set r (.map (dy (setV vs nm x)))):=by
 obtain⟨l1,Y⟩:=Ix (nm:=nm) (x:=.int .i64 x) Z o K;rcases Iw nm vs 0 with⟨m,V,z⟩|⟨j,U,m,z⟩
 .rw[l1 m,z]
 .rw[Y _ _ m,z,bL]
def li:List Fu->Nat->List (zly×Int)->List (zly×Int)
 |[],_,m=>m
 |f::l,i,m=>li l (i+1) (setV m f.name i)
def iY:List (zly×Int)->zly->Bool
 |[],_=>false
 |p::l,nm=>if nm=p.1 then true else iY l nm
theorem Iz(nm:zly):∀(vs:List (zly×Int)) (i:Nat),(iY vs nm=false->zmS .string (.str nm) (dy vs) i=some none/\eT vs nm=0)/\(iY vs nm=true->∃j,zmS .string (.str nm) (dy vs) i=some (some (j,.int .i64 (eT vs nm))))
 |[],i=>⟨fun _=>⟨rfl,rfl⟩,fun h=>by simp[iY]at h⟩
 |p::l,i=>by
  by_cases h:nm=p.1
  .refine⟨fun Z=>by simp[iY,h]at Z,fun _=>⟨i,?_⟩⟩;simp[dy,zmS,pD,eT,h]
  .have K:zmS .string (.str nm) (dy (p::l)) i=zmS .string (.str nm) (dy l) (i+1):=by
    show zmS .string (.str nm) ((.str p.1,.int .i64 p.2)::dy l) i=_;have:(nm == p.1)=false:=j8;simp[zmS,pD,this]
   have M:eT (p::l) nm=eT l nm:=by simp[eT,h]
   have Y:iY (p::l) nm=iY l nm:=by simp[iY,h]
   rw[K,M,Y];exact Iz nm l (i+1)
theorem OR{P:Program}{H:Hp}{t J e r:Nat}(Y:P.underlying t=some (.map J e))(o:nH P J=some .string)(U:sq P e=some (.int .i64 0)){vs:List (zly×Int)}(K:H.get r=some (.map (dy vs)))(nm:zly):
 jK P H t (.map r) (.str nm) true=some (.tup [.int .i64 (eT vs nm),.bool (iY vs nm)]):=by
 obtain⟨m,O⟩:=Iz nm vs 0;cases V:iY vs nm with
 |false=>
  obtain⟨Z,I⟩:=m V;simp only[jK,Y,o,U,uY,K,Z,yr,I]
 |true=>
  obtain⟨j,Z⟩:=O V;simp only[jK,Y,o,uY,K,Z,yr]
end Go.Ab
namespace Go.Proofs.YtpbcimfiofmoeaaGreat
set_option maxRecDepth 20000
open Go Go.Ab
section
def zmX(p:Pr):List (List UInt8):=p.funcs.map (·.name)
def qj(p:Pr):Bool:=zlP [] (zlj p)||zlP [] (zmX p)||p.funcs.any fun f=>zlP [] (zlj p++(f.params++f.locals))
theorem OS:∀(a b seen:List (List UInt8)),zlP seen (a++b)=(zlP seen a||zlP (seen++a) b)
 |[],b,seen=>by simp[zlP]
 |x::a,b,seen=>by rw[lI,zlP,zlP,OS a b,i8,FU,Hg]
theorem Dz(K:List (List UInt8)):∀(V:List Fu) (seen:List (List UInt8)),oc K seen V=(zlP seen (V.map (·.name))||V.any fun f=>zlP K (f.params++f.locals))
 |[],seen=>rfl
 |f::V,seen=>by
  rw[oc,dM,zlP,qT,Dz K V];cases zlo seen f.name<;>cases zlP K (f.params++f.locals)<;>cases zlP (seen++[f.name]) (V.map (·.name))<;>rfl
theorem OT(p:Pr):qj p=kI p:=by
 rw[qj,kI,Dz];cases h:zlP [] (zlj p)
 .have e:(fun f:Fu=>zlP [] (zlj p++(f.params++f.locals)))=fun f=>zlP (zlj p) (f.params++f.locals):=by
   funext f;rw[OS,h];rfl
  rw[e];rfl
 .rfl
def gD:List Fu->List (zly×Int)->List (zly×Int)
 |[],m=>m
 |f::l,m=>gD l (setV m f.name f.params.length)
theorem v9(s a:zly)(x:Int):∀m:List (zly×Int),eT (setV m a x) s=if s=a then x else eT m s
 |[]=>by simp[setV,eT]
 |q::l=>by
  by_cases h:a=q.1
  .simp only[setV,h,dB,eT];split<;>rfl
  .simp only[setV,h,dL,eT,v9 s a x l];by_cases j:s=q.1
   .rw[am j,am j,af (fun e=>h (by rw[<-e,j]))]
   .rw[af j,af j]
theorem OU(s a:zly)(x:Int):∀m:List (zly×Int),iY (setV m a x) s=(decide (s=a)||iY m s)
 |[]=>by
  by_cases h:s=a<;>simp[setV,iY,h]
 |q::l=>by
  by_cases h:a=q.1
  .by_cases j:s=q.1<;>simp[setV,iY,h,j]
  .have e:=OU s a x l;by_cases j:s=q.1
   .simp[setV,iY,h,j]
   .simp[setV,iY,h,j,e]
theorem znU(a b:List (List UInt8))(s:List UInt8):zlo (a++b) s=(zlo a s||zlo b s):=by unfold zlo;rw[List.any_append]
theorem tj(a s:List UInt8):zlo [a] s=decide (s=a):=by
 unfold zlo;simp only[qT,xq,iu];by_cases h:s=a
 .simp[h]
 .have:¬a=s:=fun e=>h e.symm;simp[h,this]
theorem OV(s:zly):∀(l:List Fu) (m:List (zly×Int)),iY (gD l m) s=(iY m s||zlo (l.map (·.name)) s)
 |[],m=>by simp[gD,zlo]
 |f::l,m=>by
  rw[gD,OV s l,OU,dM,show f.name::l.map (·.name)=[f.name]++l.map (·.name)from rfl,znU,tj];cases decide (s=f.name)<;>cases iY m s<;>simp
theorem OW(s:zly):∀(l:List Fu) (m:List (zly×Int)),zlo (l.map (·.name)) s=false->eT (gD l m) s=eT m s
 |[],m,_=>rfl
 |f::l,m,h=>by
  rw[dM,show f.name::l.map (·.name)=[f.name]++l.map (·.name)from rfl,znU,tj,i9,lJ]at h;rw[gD,OW s l _ h.2,v9,af h.1]
theorem DA:∀(l seen:List (List UInt8)),zlP seen l=false->∀s,zlo seen s=true->zlo l s=false
 |[],_,_,_,_=>rfl
 |a::l,seen,h,s,hs=>by
  rw[zlP,i9]at h;rw[show a::l=[a]++l from rfl,znU,tj,DA l _ h.2 s (by rw[znU,hs];rfl),iu,lJ];intro e;rw[<-e]at h;rw[hs]at h;simp at h
theorem OX:∀(l:List Fu) (s:List UInt8) (i:Int),0<=i->(zlo (l.map (·.name)) s=decide (0<=zl2 l s i))
 |[],s,i,_=>by simp[zlo,zl2]
 |f::l,s,i,hi=>by
  rw[dM,show f.name::l.map (·.name)=[f.name]++l.map (·.name)from rfl,znU,tj,zl2];by_cases h:f.name=s
  .rw[am h,fY h.symm,nN];simpa using hi
  .rw[af h,iH (fun e=>h e.symm),gm,OX l s (i+1) ac]
theorem OY(p:Pr)(s:zly):∀(l:List Fu) (seen:List (List UInt8)) (m:List (zly×Int)) (i:Nat),p.funcs.drop i=l->zlP seen (l.map (·.name))=false->0<=zl2 l s i ->
 ∃f,p.funcs[(zl2 l s i).toNat]?=some f/\eT (gD l m) s=f.params.length
 |[],_,_,i,_,_,h=>by simp[zl2]at h
 |f::l,seen,m,i,hd,hn,h=>by
  have C:i<p.funcs.length:=by
   have:=jm List.length hd;simp at this;omega
  rw[fS C,ea]at hd;rw[dM,zlP,i9]at hn;rw[zl2]at h⊢;by_cases e:f.name=s
  .rw[am e];refine⟨f,?_,?_⟩
   .rw[ja,aT C,hd.1]
   .have z:zlo (l.map (·.name)) s=false:=DA _ _ hn.2 s OC;rw[gD,OW s l _ z,v9,am e.symm]
  .rw[af e]at h⊢;exact OY p s l (seen++[f.name]) _ (i+1) hd.2 hn.2 h
theorem zAz(p:Pr)(s:zly):iY (gD p.funcs []) s=decide (0<=zl2 p.funcs s 0):=by
 rw[OV,OX _ _ 0 ac];rfl
theorem zfx{p:Pr}(hd:zlP [] (zmX p)=false){s:zly}(h:0<=zl2 p.funcs s 0):eT (gD p.funcs []) s=pe p s:=by
 obtain⟨f,Z,j⟩:=OY p s p.funcs [] [] 0 rfl hd h;have m:p.funcs[(zl2 p.funcs s 0).toNat]?=some f:=Z;rw[j,pe,m];rfl
def od(m:List (zly×Int))(vs K:List (List UInt8))(x:St)(_:Int)(w:Bool):Bool×Bool:=
 if x.kind=1 then (zlo vs x.name,w)
 else if x.kind=2 then (zlo K x.name,w)
 else if x.kind=6 then (iY m x.to&&zlo vs x.name,w||(iY m x.to && !decide (eT m x.to=(x.args.length:Int))))
 else (true,w)
def tk(m:List (zly×Int))(K:List (List UInt8)):List Fu->Bool->Int
 |[],w=>if w=true then 5 else 0
 |f::fs,w=>if pX (fun x _=>iW (f.params++f.locals) K x) f=true/\(zmG (od m (f.params++f.locals) K) f.body 0 w).1=true then tk m K fs (zmG (od m (f.params++f.locals) K) f.body 0 w).2 else 3
def wa(p:Pr):Int:=tk (gD p.funcs []) (zlj p) p.funcs false
def IA(p:Pr):Int:=if md p=false then 6 else if hT p=false then 2 else if qj p=true then 4 else wa p
mutual
theorem IB(vs K:List (List UInt8)):∀(x:Ex) (d:Int),m1 (fun x _=>iW vs K x) x d=d8 vs K x
 | .mk k n s o M,d=>by rw[m1,d8,IC vs K M,Bool.and_comm]
theorem IC(vs K:List (List UInt8)):∀(l:List Ex) (d:Int),jx (fun x _=>iW vs K x) l d=zmD vs K l
 |[],_=>rfl
 |x::l,d=>by rw[jx,zmD,IB vs K x,IC vs K l]
end
section
variable (c:Sc)
mutual
def wc:St->Bool
 | .mk _ _ _ _ a v M j m=>d8 c.vars c.an a&&d8 c.vars c.an v&&zmD c.vars c.an M&&pj j&&pj m
def pj:List St->Bool
 |[]=>true
 |x::l=>wc x&&pj l
end
mutual
def uB:St->Bool
 | .mk k Z Y n a v M j m=>jP c (.mk k Z Y n a v M j m)&&lN j&&lN m
def lN:List St->Bool
 |[]=>true
 |x::l=>uB x&&lN l
end
mutual
theorem zAA:∀(x:St) (d:Int),lK (pW fun x _=>iW c.vars c.an x) x d ()=(wc c x,())
 | .mk k Y V n a v M j m,d=>by
   rw[lK,pW,wc];simp only[St.at_,St.value,St.args,IB,IC];cases h:d8 c.vars c.an a&&d8 c.vars c.an v&&zmD c.vars c.an M
   .simp
   .simp only[DB j,fq];cases Z:pj c j
    .simp
    .simp only[DB m,fq]
theorem DB:∀(l:List St) (d:Int),zmG (pW fun x _=>iW c.vars c.an x) l d ()=(pj c l,())
 |[],_=>rfl
 |x::l,d=>by
  rw[zmG,zAA x,pj];cases h:wc c x
  .simp
  .simp only[DB l,fq]
end
mutual
theorem zAB:∀x:St,fZ c false x=(wc c x&&uB c x)
 | .mk k Z Y n a v M j m=>by
   rw[fZ,wc,uB,DC j,DC m,pQ,jQ];simp only[St.at_,St.value,St.args];cases d8 c.vars c.an a<;>cases d8 c.vars c.an v<;>cases zmD c.vars c.an M<;>cases jP c (.mk k Z Y n a v M j m)<;>cases pj c j<;>cases lN c j<;>cases pj c m<;>cases lN c m<;>rfl
theorem DC:∀l:List St,zl4 c false l=(pj c l&&lN c l)
 |[]=>rfl
 |x::l=>by
  rw[zl4,pj,lN,zAB x,DC l];cases wc c x<;>cases uB c x<;>cases pj c l<;>cases lN c l<;>rfl
end
end
theorem zfA{p:Pr}(hd:zlP [] (zmX p)=false)(c:Sc)(z:c.p=p)(x:St)(d:Int)(w:Bool):
 (jP c x=true->od (gD p.funcs []) c.vars c.an x d w=(true,w || !lh p x))/\(jP c x=false->(od (gD p.funcs []) c.vars c.an x d w).1=false):=by
 unfold od jP lh;rw[z];by_cases m:x.kind=1
 .have V:¬x.kind=6:=by omega
  simp only[m,dB,Int.reduceEq,ip,gy,ir,lC,iu];exact⟨fun h=>by rw[h],fun h=>h⟩
 .by_cases V:x.kind=6
  .simp only[V,Int.reduceEq,dL,dB,j0,fq,Bool.not_not,zAz];cases h:decide (0<=zl2 p.funcs x.to 0)
   .simp
   .rw[zfx hd (rQ h),fR,fq,fq];refine⟨fun h=>?_,fun h=>h⟩;rw[h];have e:decide ((pe p x.to:Int)=(x.args.length:Int))=decide ((x.args.length:Int)=(pe p x.to:Int)):=by
     by_cases q:(pe p x.to:Int)=(x.args.length:Int)
     .rw[fY q,fY q.symm]
     .rw[iH q,iH (fun e=>q e.symm)]
    rw[e]
  .by_cases j:x.kind=2
   .simp only[j,Int.reduceEq,dL,dB,ip,gy,ir,lC,iu];exact⟨fun h=>by rw[h],fun h=>h⟩
   .simp only[m,j,V,dL,ip,gy,ir,lC,iu];exact⟨fun _=>ax,fun h=>lY⟩
section
variable {p:Pr} (hd:zlP [] (zmX p)=false) (c:Sc) (hc:c.p=p)
include hd hc
mutual
theorem zAC:∀(x:St) (d:Int) (w:Bool),(uB c x=true->lK (od (gD p.funcs []) c.vars c.an) x d w=(true,w || !fZ c true x))/\(uB c x=false->(lK (od (gD p.funcs []) c.vars c.an) x d w).1=false)
 | .mk k Z Y n a v M j m,d,w=>by
   have V:=zfA hd c hc (.mk k Z Y n a v M j m) d w;rw[lK,uB,fZ,iV,hc];cases z:jP c (.mk k Z Y n a v M j m)
   .have:=V.2 z;generalize od _ _ _ _ _ _=r at this⊢;obtain⟨b,s⟩:=r;simp only at this;subst this;simp
   .rw[V.1 z];simp only[fq];have U:=DD j (bE (d+1)) (w || !lh p (.mk k Z Y n a v M j m));cases O:lN c j
    .have:=U.2 O;generalize zmG _ j _ _=r at this⊢;obtain⟨b,s⟩:=r;simp only at this;subst this;simp
    .rw[U.1 O];simp only[fq];have K:=DD m (bE (d+1)) ((w || !lh p (.mk k Z Y n a v M j m)) || !zl4 c true j);cases J:lN c m
     .exact⟨fun h=>lY,fun _=>K.2 J⟩
     .refine⟨fun _=>?_,fun h=>lY⟩;rw[K.1 J]
      congr 1
      cases w<;>cases lh p (.mk k Z Y n a v M j m)<;>cases zl4 c true j<;>cases zl4 c true m<;>rfl
theorem DD:∀(l:List St) (d:Int) (w:Bool),(lN c l=true->zmG (od (gD p.funcs []) c.vars c.an) l d w=(true,w || !zl4 c true l))/\(lN c l=false->(zmG (od (gD p.funcs []) c.vars c.an) l d w).1=false)
 |[],d,w=>by
  rw[zmG,lN,zl4];exact⟨fun _=>ax,fun h=>lY⟩
 |x::l,d,w=>by
  have Z:=zAC x d w;rw[zmG,lN,zl4];cases z:uB c x
  .have:=Z.2 z;generalize lK _ x _ _=r at this⊢;obtain⟨b,s⟩:=r;simp only at this;subst this;simp
  .rw[Z.1 z];simp only[fq];have j:=DD l d (w || !fZ c true x);cases U:lN c l
   .exact⟨fun h=>lY,fun _=>j.2 U⟩
   .refine⟨fun _=>?_,fun h=>lY⟩;rw[j.1 U]
    congr 1
    cases w<;>cases fZ c true x<;>cases zl4 c true l<;>rfl
end
end
theorem OZ{p:Pr}(hd:zlP [] (zmX p)=false):∀(l:List Fu) (w:Bool),tk (gD p.funcs []) (zlj p) l w=if l.any (iX p)=true then 3 else if (w||l.any (kJ p))=true then 5 else 0
 |[],w=>by simp[tk]
 |f::fs,w=>by
  have o:=DD hd (gJ p f) rfl f.body 0 w;have Z:(gJ p f).vars=f.params++f.locals:=rfl;have O:(gJ p f).an=zlj p:=rfl;rw[Z,O]at o;have Y:pX (fun x _=>iW (f.params++f.locals) (zlj p) x) f=(d8 (f.params++f.locals) (zlj p) f.value&&pj (gJ p f) f.body):=by
   rw[pX,IB];have:=DB (gJ p f) f.body 0;rw[Z,O]at this;rw[this]
  have J:iX p f=!(pX (fun x _=>iW (f.params++f.locals) (zlj p) x) f&&lN (gJ p f) f.body):=by
   rw[iX,Y,DC,Z,O];cases d8 (f.params++f.locals) (zlj p) f.value<;>cases pj (gJ p f) f.body<;>cases lN (gJ p f) f.body<;>rfl
  rw[tk,qT,qT,J];cases m:pX (fun x _=>iW (f.params++f.locals) (zlj p) x) f
  .simp
  .cases j:lN (gJ p f) f.body
   .simp[o.2 j]
   .rw[o.1 j];simp only[oM,dB,vt,lC,gm];rw[OZ hd fs]
    congr 2
    rw[kJ];cases w<;>simp
theorem zo3(p:Pr):IA p=zmw p:=by
 unfold IA zmw;rw[zAg,OT];cases m:jo p
 .simp only[ir,sB,dE,dL];cases j:hT p
  .rfl
  .simp only[sB,dL];cases z:kI p
   .simp only[dE,dL];have hd:zlP [] (zmX p)=false:=by
     rw[<-OT,qj,i9,i9]at z;exact z.1.2
    rw[wa,OZ hd];simp
   .rfl
 .rfl
def tyP4e.tyF:=ad @cJ (ad @dd (ad @gY (ad @iQ (ad @fI (ad @fx (ad @em (ad @zms (ad @iR (ad @GT (ad @jw (ad @CB (@Dr))))))))))))
open tyP4e
noncomputable def O0:{c:SC // aC 28 (Tryz.f126.body.getD .skip)=c}:=by
 refine⟨?_,?_⟩;rotate_left
 .simp only[Tryz.f126,bI,aC,zll,zle,zlp,zln,Nat.blt,Nat.ble];rfl
noncomputable def O1:{c:SC // aC 38 (Tryz.f125.body.getD .skip)=c}:=by
 refine⟨?_,?_⟩;rotate_left
 .simp only[Tryz.f125,bI,aC,zll,zle,zlp,zln,Nat.blt,Nat.ble];rfl
noncomputable def O2:{c:SC // aC 35 (Tryz.f74.body.getD .skip)=c}:=by
 refine⟨?_,?_⟩;rotate_left
 .simp only[Tryz.f74,bI,aC,zll,zle,zlp,zln,Nat.blt,Nat.ble];rfl
def gK(l:List (List UInt8)):List (AV×AV):=l.map fun s=>(.str s,.bool true)
def rS(l:List (List UInt8))(s:List UInt8):List (List UInt8):=if zlo l s=true then l else l++[s]
theorem Al(s:List UInt8):∀(l:List (List UInt8)) (i:Nat),(zlo l s=false->zmS .string (.str s) (gK l) i=some none)/\(zlo l s=true->∃j,zmS .string (.str s) (gK l) i=some (some (i+j,.bool true))/\(gK l).set j (.str s,.bool true)=gK l)
 |[],i=>⟨fun _=>rfl,fun h=>by simp[zlo]at h⟩
 |a::l,i=>by
  have Z:zlo (a::l) s=(decide (s=a)||zlo l s):=by rw[show a::l=[a]++l from rfl,znU,tj]
  by_cases h:s=a
  .subst h;rw[Z,fY rfl,nN];refine⟨fun h=>lY,fun _=>⟨0,?_,?_⟩⟩
   .simp[gK,zmS,pD]
   .simp[gK]
  .have K:zmS .string (.str s) (gK (a::l)) i=zmS .string (.str s) (gK l) (i+1):=by
    show zmS .string (.str s) ((.str a,.bool true)::gK l) i=_;have:(s == a)=false:=j8;simp[zmS,pD,this]
   rw[Z,iH h,gm,K];obtain⟨Y,I⟩:=Al s l (i+1);refine⟨Y,fun q=>?_⟩;obtain⟨j,m,V⟩:=I q;exact⟨j+1,by rw[m,show i+1+j=i+(j+1) by omega],by show(AV.str a,AV.bool true)::(gK l).set j _=_;rw[V];rfl⟩
theorem wd{H:Hp}{r:Nat}{l:List (List UInt8)}(K:H.get r=some (.map (gK l)))(s:List UInt8):jK Tryz.prog H 178 (.map r) (.str s) false=some (.bool (zlo l s)):=by
 obtain⟨l1,J⟩:=OQ (P:=Tryz.prog) (H:=H) (t:=178) (nm:=s) (z:=.bool false) Tryz.underlying178 aj aj K;cases h:zlo l s with
 |false=>rw[l1 ((Al s l 0).1 h)]
 |true=>obtain⟨j,m,Z⟩:=(Al s l 0).2 h;rw[J _ _ m]
theorem ID{H:Hp}{r:Nat}{l:List (List UInt8)}(K:H.get r=some (.map (gK l)))(s:List UInt8):znN Tryz.prog H 178 (.map r) (.str s) (.bool true)=some (H.set r (.map (gK (rS l s)))):=by
 obtain⟨l1,J⟩:=Ix (P:=Tryz.prog) (H:=H) (t:=178) (nm:=s) (x:=.bool true) Tryz.underlying178 aj K;cases h:zlo l s with
 |false=>rw[l1 ((Al s l 0).1 h),rS,h];simp[gK]
 |true=>obtain⟨j,m,Z⟩:=(Al s l 0).2 h;rw[J _ _ m,bL,Z,rS,am h]
def rT(x:List (List (List UInt8))):List AV:=[.lst (x.map fun l=>[zlY l])]
theorem zAF(x y:List (List (List UInt8)))(h:rT x=rT y):x=y:=by
 simp only[rT,ea,AV.lst.injEq,aR]at h;exact ng (fun a _ b e=>by simp only[ea,AV.lst.injEq,aR]at e;exact vJ e) h
def DE(x:List (List (List UInt8))):Prop:=x.length<2^60/\∀l∈x,l.length<2^60
theorem zAG(x:List (List (List UInt8))):fJ (.lst (x.map fun l=>[zlY l])):=.map fun l _=>.cons (ug l) .nil
theorem zqS(ρ:Nat->Int)(x:List (List (List UInt8)))(hx:DE x):bM Tryz.prog ρ 126 (rT x) (.bool (zlP [] x.flatten)):=zmy fit (pls:=pls) (l:=[]) trivial (.cons (zAG x) .nil) (.bool _) (by
 have hw:=zmQ 126;obtain⟨hx1,hx2⟩:=hx;rw[rT];refine zlf (M:=28) (rs:=[.tmp 2]) (hw.call _) hw.ice hw.froz Tryz.func126 rfl rfl O0.2 rfl ?_;dsimp only[O0,zD,Nat.reduceAdd];repeat' (first
  |(apply ah ?_;clear hK K)|apply Rx.o ?_|apply ak ?_|(apply zkU fun K hK=>?_)|apply aG ?_|fail)
 refine zlL [3,9,10] [] 11 x.length (fun i E H=>∃seen,H.get 0=some (.map (gK seen))/\zlP [] x.flatten=zlP seen (x.drop i).flatten) eE ⟨[],td,rfl⟩ ?_;rintro i E H2 hi U J I hsI ⟨seen,m,z⟩;(try simp only[zlm,zlb,aR,zk1,zk7,Nat.reduceBEq, *]at U);(try simp only[zlb,zk7, *]at J);(try simp only[zk9,zlI,bL]at I);repeat' (first
  |(apply ah ?_;clear hK K)|apply Rx.o ?_|(apply a0 (fun C Z=>?_) (fun C Z=>?_)<;>try(cases C;done))|apply ak ?_|(apply zkU fun K hK=>?_)|apply aG ?_|apply zk3 ?_|apply aF ?_|apply zlu ?_)
 .have o:i<x.length:=by simpa using C
  have hgx:x[i]?=some x[i]:=aT o;have hsm:=hx2 _ (cR o);have O:(x.drop i).flatten=x[i]++(x.drop (i+1)).flatten:=by rw[fS o,mW]
  rw[O]at z;clear O;generalize x[i]=V at *;repeat' (first
   |(apply ah ?_;clear hK K)|apply Rx.o ?_|apply ak ?_|(apply zkU fun K hK=>?_)|apply aG ?_|fail)
  refine zlL [3,9,10,11,15,16] [] 17 V.length (fun j E H=>∃seen,H.get 0=some (.map (gK seen))/\zlP [] x.flatten=zlP seen (V.drop j++(x.drop (i+1)).flatten)) eE ⟨seen,m,z⟩ ?_;clear m z seen;rintro j E3 H3 hj U J I hsI ⟨seen,m,z⟩;(try simp only[zlm,zlb,aR,zk1,zk7,Nat.reduceBEq, *]at U);(try simp only[zlb, *]at J);(try simp only[zk9,zli,zlI,bL,Nat.reduceAdd]at I);repeat' (first
   |(apply ah ?_;clear hK K)|apply Rx.o ?_|(apply a0 (fun C Z=>?_) (fun C Z=>?_)<;>try(cases C;done))|apply ak ?_|(apply zkU fun K hK=>?_)|apply aG ?_|apply zk3 ?_|apply zlu ?_)
  .have Y:j<V.length:=by simpa using C
   have hgx2:V[j]?=some V[j]:=aT Y;have O:zlP seen (V.drop j++(x.drop (i+1)).flatten)=(zlo seen V[j]||zlP (seen++[V[j]]) (V.drop (j+1)++(x.drop (i+1)).flatten)):=G8;have hlk:=wd m V[j];have hup:=ID m V[j];repeat' (first
    |(apply ah ?_;clear hK K)|apply Rx.o ?_|apply bS ?_|(apply a0 (fun C Z=>?_) (fun C Z=>?_)<;>try(cases C;done))|apply ak ?_|(apply zkU fun K hK=>?_)|apply zk3 ?_|apply aF ?_|fail)
   .all_goals (refine⟨eI,_,eR,?_⟩;try simp only[zkX])
    rw[z,O];(try simp only[dI]at *);simp only[*,nN,]
   .refine⟨ac,zk8,zk8,zlF,OG,?_⟩;refine⟨rS seen V[j],Ai,?_⟩;rw[z,O,rS];(try simp only[dI]at *);simp only[*,gm,];rfl
  .have hje:j=V.length:=by simp at C;omega
   repeat' (first
    |(apply ah ?_;clear hK K)|fail)
   refine⟨ac,zk8,zk8,zlF,uj,?_⟩;exact⟨seen,m,by rw[z,hje,gT,ly]⟩
 .all_goals (refine⟨eI,_,eR,?_⟩;try simp only[zkX])
  have hie:i=x.length:=tc;rw[z,hie,gT];rfl)
def uC(l:List (List UInt8)):AV:=if l=[]then .nilS else zlY l
def rU(H:Hp)(v:AV)(l:List (List UInt8))(lo:Nat):Prop:=(v=.nilS/\l=[])\/(l≠[]/\dV H v l lo)
theorem rU.n{H:Hp}{v:AV}{l:List (List UInt8)}{lo:Nat}(h:rU H v l lo):eB H v l lo:=h.imp id fun h=>h.2
theorem rU.keep{H H':Hp}{v:AV}{l:List (List UInt8)}{lo:Nat}(h:rU H v l lo)(J:H.next<=H'.next)(K:∀k,zlk v k->H'.get k=H.get k):rU H' v l lo:=h.imp id fun h=>⟨h.1,h.2.keep J K⟩
theorem O3(H:Hp)(n:Nat):∀l:List (List UInt8),iceL (iceV H (n+1)) (l.map .str)=some (l.map .str)
 |[]=>rfl
 |a::l=>by
  have:=O3 H n l;have e:iceV H (n+1) (.str a)=some (.str a):=rfl;simp only[dM,iceL,e,this]
theorem rU.iceV{H:Hp}{v:AV}{l:List (List UInt8)}{lo:Nat}(h:rU H v l lo)(n:Nat):iceV H (n+2) v=some (uC l):=by
 rcases h with⟨rfl,rfl⟩|⟨Z,r,m,rfl,j,_⟩
 .rfl
 .have e:Ab.iceV H (n+2) (.sl r 0 l.length 1)=match H.get r with
   |some (.cells z _ _)=>match iceL (Ab.iceV H (n+1)) ((z.drop 0).take (l.length*1))with
    |some J=>if J.length=l.length*1 then some (.lst (gN 1 l.length J))else none
    |none=>none
   |_=>none:=rfl
  rw[e,j];simp only[fH,lV];rw[gl ax,O3];simp only[cp,dB,MJ];rw[uC,af Z]
theorem O4(n:Nat)(l:List (List UInt8)):bX (n+2) (uC l)=zlY l:=by
 unfold uC;split
 .rename_i h;subst h;rfl
 .show AV.lst ((l.map fun s=>[AV.str s]).map fun V=>V.map (bX (n+1)))=_;rw[sJ];rfl
set_option maxRecDepth 100000 in
theorem zne(ρ:Nat->Int)(p:Pr)(hz:p.sz<2^36):bM Tryz.prog ρ 125 (fc p) (.tup [zlY (zlj p),zlY (zmX p)]):=ML (n:=3) (vH (r:=.tup [uC (zlj p),uC (zmX p)]) (m:=3) (cfg:=zkY pls []) fit (pP ρ) (fun f args r h=>by simp[zkY,zme]at h) (.cons (.agg p.pure) .nil) (by
 have hw:=zmQ 125;have I:(zkY pls []).keep 125=false:=rfl;have hpz:p.sz=1+zmL p.arrays+zmv p.funcs:=rfl;have hla:=znR p.arrays;have hlf:=znQ p.funcs;rw[fc];refine zlf (M:=38) (rs:=[.tmp 2,.tmp 3]) (hw.call _) hw.ice hw.froz Tryz.func125 rfl rfl O1.2 rfl ?_;dsimp only[O1,zD,Nat.reduceAdd];repeat' (first
  |(apply ah ?_;clear hK K)|apply Rx.o ?_|apply ak ?_|(apply zkU fun K hK=>?_)|apply aG ?_|fail)
 refine zlL [1,2,3,5,11,12] [0] 13 p.arrays.length (fun i E H=>∃v,E.at 4=v/\rU H v ((zlj p).take i) 1) eE ⟨.nilS,eE,.inl ⟨rfl,rfl⟩⟩ ?_;rintro i E J hi hcE Y hnH hsI ⟨v,k4,hv⟩;(try simp only[zlm,zlb,aR,zk1,zk7,Nat.reduceBEq, *]at hcE);(try simp only[zlm,zlb,aR,zk1,zk7, *]at Y);(try simp only[zk9,zlI,bL]at hnH);have hB0:(0 == J.next)=false:=zkV ac;have hC0:(J.next == 0)=false:=zkV ac;repeat' (first
  |(apply ah ?_;clear hK K)|apply Rx.o ?_|(apply a0 (fun C hbp=>?_) (fun C hbp=>?_)<;>try(cases C;done))|apply ak ?_|(apply zkU fun K hK=>?_)|apply aG ?_|apply zk3 ?_|apply zlu ?_)
 .have hlt:i<p.arrays.length:=by simpa using C
  have hgx:p.arrays[i]?=some p.arrays[i]:=aT hlt;have U:(zlj p).take (i+1)=(zlj p).take i++[p.arrays[i].name]:=by rw[zlj,oI,eS,hgx];rfl
  repeat' (first
   |(apply ah ?_;clear hK K)|apply Rx.o ?_|apply bS ?_|(apply zkU fun K hK=>?_)|fail)
  generalize Z:Hp.alloc (Hp.set _ _ _) _=O;have nb:O.next=J.next+2:=ti
  have V:∀k,k<J.next->O.get k=J.get k:=fun k o=>OH
  have gb:O.get (J.next+1)=some (.cells [.str p.arrays[i].name] 0 true):=by rw[<-Z,zkZ,am dT]
  clear Z;have hvb:eB O v ((zlj p).take i) 1:=hv.n.keep ac fun k o=>V k (hv.n.lt o).2;obtain⟨v5,H5,a5,s5,n5,f5,o5⟩:=xu (r:=J.next+1) (imm:=0) p.arrays[i].name hvb ac gb b9;have n5':O.next<=H5.next:=ac
  clear n5;have g50:H5.get 0=some (.cells p.cells 0 true):=by rw[f5 0 ac,V 0 ac];exact Y
  refine jv eV eV CT ?_;repeat' (first
   |(apply ah ?_;clear hK K)|apply Rx.o ?_|(apply zkU fun K hK=>?_)|fail)
  refine⟨ac,zk8,zk8,zlF,vT,?_⟩;exact⟨v5,eE,.inr ⟨by rw[U];simp,by rw[U];exact s5⟩⟩
 .have hie:i=p.arrays.length:=by simp at C;omega
  have z:(zlj p).take i=zlj p:=gl (by simp[zlj];omega);rw[z]at hv;clear z hie hsI hi;repeat' (first
   |(apply ah ?_;clear hK K)|fail)
  have c3:∀k,zlk v k->k<J.next:=fun k o=>(hv.n.lt o).2
  refine zlL [2,3,4,24,25] [0] 26 p.funcs.length (fun i E H=>∃u,E.at 5=u/\rU H u ((zmX p).take i) J.next/\rU H v (zlj p) 1) eE ⟨.nilS,eE,.inl ⟨rfl,rfl⟩,hv⟩ ?_;rintro i E j hi hcE Y hnH hsI ⟨u,k5,hu,hv3⟩;(try simp only[zlm,zlb,aR,zk1,zk7,Nat.reduceBEq, *]at hcE);(try simp only[zlm,zlb,aR, *]at Y);(try simp only[zk9,zli,zlI,bL,Nat.reduceAdd]at hnH);have hB0:(0 == j.next)=false:=zkV ac;have hC0:(j.next == 0)=false:=zkV ac;repeat' (first
   |(apply ah ?_;clear hK K)|apply Rx.o ?_|(apply a0 (fun C hbp=>?_) (fun C hbp=>?_)<;>try(cases C;done))|apply ak ?_|(apply zkU fun K hK=>?_)|apply aG ?_|apply zk3 ?_|apply aF ?_|apply zlu ?_)
  .have hlt:i<p.funcs.length:=by simpa using C
   have hgx:p.funcs[i]?=some p.funcs[i]:=aT hlt;have U:(zmX p).take (i+1)=(zmX p).take i++[p.funcs[i].name]:=by rw[zmX,oI,eS,hgx];rfl
   repeat' (first
    |(apply ah ?_;clear hK K)|apply Rx.o ?_|apply bS ?_|(apply zkU fun K hK=>?_)|fail)
   generalize Z:Hp.alloc (Hp.set _ _ _) _=O;have nb:O.next=j.next+2:=ti
   have V:∀k,k<j.next->O.get k=j.get k:=fun k o=>OH
   have gb:O.get (j.next+1)=some (.cells [.str p.funcs[i].name] 0 true):=by rw[<-Z,zkZ,am dT]
   clear Z;have hub:eB O u ((zmX p).take i) J.next:=hu.n.keep ac fun k o=>V k (hu.n.lt o).2
   obtain⟨v5,H5,a5,s5,n5,f5,o5⟩:=xu (r:=j.next+1) (imm:=0) p.funcs[i].name hub ac gb b9;have n5':O.next<=H5.next:=ac
   clear n5;have g50:H5.get 0=some (.cells p.cells 0 true):=by rw[f5 0 ac,V 0 ac];exact Y
   refine jv eV eV CT ?_;repeat' (first
    |(apply ah ?_;clear hK K)|apply Rx.o ?_|(apply zkU fun K hK=>?_)|fail)
   refine⟨ac,zk8,zk8,zlF,oX,?_⟩;exact⟨v5,eE,.inr ⟨by rw[U];simp,by rw[U];exact s5⟩,hv3.keep ac fun k o=>by rw[f5 k (c3 k o),V k Ij]⟩
  .have hie:i=p.funcs.length:=by simp at C;omega
   have z:(zmX p).take i=zmX p:=gl (by simp[zmX];omega);rw[z]at hu;repeat' (first
    |(apply ah ?_;clear hK K)|fail)
   all_goals (refine⟨eI,_,eR,?_⟩;try simp only[zkX])
   have e1:=hv3.iceV (n:=0);have e2:=hu.iceV (n:=0);show(match iceL (iceV j 2) [v,u]with|some ds=>some (AV.tup ds)|none=>none)=_;simp only[iceL,e1,e2])) (by
 show AV.tup [bX 2 (uC (zlj p)),bX 2 (uC (zmX p))]=_;rw[O4,O4])
noncomputable def IE:En:=⟨125,false,b7 (fun p=>p.sz<2^36) fc fun p=>.tup [zlY (zlj p),zlY (zmX p)]⟩
theorem O5(ρ:Nat->Int):zl0 Tryz.prog ρ IE:=zl7 fun p hp=>zne ρ p hp
noncomputable def IF:En:=⟨126,true,b7 DE rT fun x=>.bool (zlP [] x.flatten)⟩
theorem ztz(ρ:Nat->Int):zl0 Tryz.prog ρ IF:=zl7 fun x hx=>zqS ρ x hx
theorem O6(x:List (List (List UInt8))):(x.map fun l=>[zlY l]).flatten=x.map zlY:=by
 induction x with
 |nil=>rfl
 |cons a l ih=>simp[ih]
theorem zv5{H:Hp}{r imm:Nat}{x:List (List (List UInt8))}(K:H.get r=some (.cells (x.map zlY) imm true))(hr:r<H.next)(I:imm<=x.length):
 ∃H',gO (fh 100) [.sl r 0 x.length 1] H=some (rT x,H')/\Icy (fun k=>k=r) H H':=by
 refine zl5.iceL (S:=fun k=>k=r) (n:=100) (m:=rT x) ⟨?_,trivial⟩;have h:=zl5.rows (S:=fun k=>k=r) (n:=99) (H:=H) (r:=r) (z:=1) (imm:=imm) (tip:=true) (a:=x.map fun l=>[zlY l]) (b:=x.map fun l=>[zlY l]) rfl hr (by rw[O6];exact K) (by rw[O6];simpa using I) ax (cr.refl fun a O=>cr.refl fun c hc=>by
  obtain⟨l,_,rfl⟩:=kV.1 O;rw[Iu]at hc;subst hc;exact oY ⟨ug l,trivial⟩)
 rw[cp]at h;exact h
theorem IG{l:List En}(Z:∀M,zme l 126 M=IF.sp M)(I:jb l 126=true){H:Hp}{r imm:Nat}{x:List (List (List UInt8))}(K:H.get r=some (.cells (x.map zlY) imm true))(hr:r<H.next)(m:imm<=x.length)(o:DE x):
 zk5 Tryz.prog (zkY pls l) 126 [.sl r 0 x.length 1] H fun v H'=>v=.bool (zlP [] x.flatten)/\Icy (fun k=>k=r) H H':=by
 obtain⟨H',Y,j⟩:=zv5 K hr m;refine aS ?_ (CK (enc:=rT) (out:=fun x=>.bool (zlP [] x.flatten)) zAF (x:=x) Z I o (H':=H') (fun y _ e=>by simp[rT]at e) Y);rintro v _ ⟨rfl,rfl⟩;exact⟨rfl,j⟩
theorem II(H:Hp)(a:List (List AV)):zmb Tryz.prog H 211 1 [(0,.lst a)]=some (.sl H.next 0 1 1,H.alloc (.cells [.lst a] 0 true)):=aj
theorem zfJ(H:Hp)(a b:List (List AV)):zmb Tryz.prog H 211 2 [(0,.lst a),(1,.lst b)]=some (.sl H.next 0 2 1,H.alloc (.cells [.lst a,.lst b] 0 true)):=aj
theorem zfK(H:Hp)(a b c:List (List AV)):zmb Tryz.prog H 211 3 [(0,.lst a),(1,.lst b),(2,.lst c)]=some (.sl H.next 0 3 1,H.alloc (.cells [.lst a,.lst b,.lst c] 0 true)):=aj
noncomputable def IJ:List En:=[IE,IF]
theorem ztA(ρ:Nat->Int):fK Tryz.prog ρ IJ:=⟨O5 ρ,ztz ρ,trivial⟩
set_option maxRecDepth 100000 in
theorem zkK(ρ:Nat->Int)(p:Pr)(hz:p.sz<2^36):bM Tryz.prog ρ 74 (fc p) (.bool (qj p)):=zmy fit (pls:=pls) (ztA ρ) (.cons (.agg p.pure) .nil) (.bool _) (by
 have o:Plain (zkY pls IJ) 74:=zml (fun _=>rfl) rfl;have kd:∀H,zk5 Tryz.prog (zkY pls IJ) 125 [.agg p.cells] H fun v H'=>v=.tup [zlY (zlj p),zlY (zmX p)]/\H'=H:=fun H=>zlM (enc:=fc) (out:=fun p=>.tup [zlY (zlj p),zlY (zmX p)]) pd (x:=p) rfl hz;have hpz:p.sz=1+zmL p.arrays+zmv p.funcs:=rfl;have hla:=znR p.arrays;have hlf:=znQ p.funcs;have hal:(zlj p).length=p.arrays.length:=uw;have hfl:(zmX p).length=p.funcs.length:=by simp[zmX]
 have hx0:∀a b,Ab.extract (.tup [a,b]) 0=some a:=fun _ _=>rfl;have hx1:∀a b,Ab.extract (.tup [a,b]) 1=some b:=fun _ _=>rfl;rw[fc];refine zlf (M:=35) (rs:=[.tmp 2]) (o.call _) o.ice o.froz Tryz.func74 rfl rfl O2.2 rfl ?_;dsimp only[O2,zD,Nat.reduceAdd];have V:=@II;repeat' (first
  |(apply ah ?_;clear hK K)|apply Rx.o ?_|(apply eM ?_;first|refine zlc (kd _) ?_)|apply ak ?_|(apply zkU fun K hK=>?_)|fail)
 refine aZ rfl bc bi ?_;simp only[bj];refine aS ?_ (IG (x:=[zlj p]) (imm:=0) (fun _=>rfl) rfl td (cE _) ax ⟨ax,b9⟩);rintro v H2 ⟨rfl,hy⟩;have n2:=hy.next
 simp only[zk9,zlI]at n2;have g20:H2.get 0=some (.cells p.cells 0 true):=by rw[hy.out 0 ax,zkZ,af ax,zkZ,am dT]
 have n2':2<=H2.next:=ac
 clear hy n2;rw[show([zlj p]:List (List (List UInt8))).flatten=zlj p by simp];dsimp only[zk6];have V:=@II;repeat' (first
  |(apply ah ?_;clear hK K)|apply Rx.o ?_|(apply cz (fun hg U=>?_) (fun hg U=>?_)<;>try(cases hg;done))|(apply a0 (fun C j=>?_) (fun C j=>?_)<;>try(cases C;done))|apply ak ?_|(apply zkU fun K hK=>?_)|apply aF ?_|fail)
 .refine aZ rfl bc bi ?_;simp only[bj];refine aS ?_ (IG (x:=[zmX p]) (imm:=0) (fun _=>rfl) rfl td (cE _) ax ⟨ax,b9⟩);rintro v H3 ⟨rfl,hy⟩;have n3:=hy.next
  simp only[zk9]at n3;have g30:H3.get 0=some (.cells p.cells 0 true):=by rw[hy.out 0 ac,zkZ,af ac];exact g20
  have n3':2<=H3.next:=ac
  clear hy n3;rw[show([zmX p]:List (List (List UInt8))).flatten=zmX p by simp];dsimp only[zk6];repeat' (first
   |(apply ah ?_;clear hK K)|apply Rx.o ?_|(apply a0 (fun C j=>?_) (fun C j=>?_)<;>try(cases C;done))|apply ak ?_|(apply zkU fun K hK=>?_)|apply aG ?_|apply zk3 ?_|apply aF ?_|fail)
  .all_goals (refine⟨eI,_,eR,?_⟩;try simp only[zkX])
   rw[qj];(try simp only[dI]at *);simp only[ *,p7,]
  .refine zlL [3,21,22] [0] 23 p.funcs.length (fun i E H=>(p.funcs.any fun f=>zlP [] (zlj p++(f.params++f.locals)))=((p.funcs.drop i).any fun f=>zlP [] (zlj p++(f.params++f.locals)))) eE ax ?_;rintro i E m hi J Y I hsI z;(try simp only[zlm,zlb,aR,zk1,zk7,Nat.reduceBEq, *]at J);(try simp only[zlm,zlb,aR, *]at Y);(try simp only[zk9,zli,zlI,bL,Nat.reduceAdd]at I);have hB0:(0 == m.next)=false:=zkV ac;have hC0:(m.next == 0)=false:=zkV ac;repeat' (first
    |(apply ah ?_;clear hK K)|apply Rx.o ?_|(apply a0 (fun C j=>?_) (fun C j=>?_)<;>try(cases C;done))|apply ak ?_|(apply zkU fun K hK=>?_)|apply aG ?_|apply zk3 ?_|apply aF ?_|apply zlu ?_)
   .have Z:i<p.funcs.length:=by simpa using C
    have hgx:p.funcs[i]?=some p.funcs[i]:=aT Z;have hsm:=pV (cR Z);have hsz:p.funcs[i].sz=1+p.funcs[i].name.length+zmd p.funcs[i].params+zmd p.funcs[i].locals+zld p.funcs[i].body+p.funcs[i].value.sz:=rfl;have hpl:=zno p.funcs[i].params;have hll:=zno p.funcs[i].locals;have O:((p.funcs.drop i).any fun f=>zlP [] (zlj p++(f.params++f.locals)))=(zlP [] (zlj p++(p.funcs[i].params++p.funcs[i].locals))||((p.funcs.drop (i+1)).any fun f=>zlP [] (zlj p++(f.params++f.locals)))):=HO;have V:=@zfK;repeat' (first
     |(apply ah ?_;clear hK K)|apply Rx.o ?_|apply bS ?_|apply ak ?_|(apply zkU fun K hK=>?_)|fail)
    refine aZ rfl bc bi ?_;simp only[bj];refine aS ?_ (IG (x:=[zlj p,p.funcs[i].params,p.funcs[i].locals]) (imm:=0) (fun _=>rfl) rfl td (cE _) ax ⟨ax,b9⟩);rintro v H5 ⟨rfl,hy⟩;have n5:=hy.next
    simp only[zk9,zli]at n5;have g50:H5.get 0=some (.cells p.cells 0 true):=by rw[hy.out 0 (by intro e;change (0:Nat)=_ at e;(try simp only[zli,zk9]at e);omega),zkZ,af (by(try simp only[zli,zk9]);omega),aJ,af ac,zkZ,af ac];exact Y
    have n5':m.next<=H5.next:=ac
    clear hy n5;rw[show([zlj p,p.funcs[i].params,p.funcs[i].locals]:List (List (List UInt8))).flatten=zlj p++(p.funcs[i].params++p.funcs[i].locals) by simp];dsimp only[zk6];repeat' (first
     |(apply ah ?_;clear hK K)|apply Rx.o ?_|(apply a0 (fun C j=>?_) (fun C j=>?_)<;>try(cases C;done))|apply ak ?_|(apply zkU fun K hK=>?_)|apply zk3 ?_|apply aF ?_|fail)
    .all_goals (refine⟨eI,_,eR,?_⟩;try simp only[zkX])
     rw[qj,z,O];(try simp only[dI]at *);simp only[ *,iu,p7,]
    .refine⟨ac,zk8,zk8,zlF,oX,?_⟩;rw[z,O];(try simp only[dI]at *);simp only[*,gm,]
   .all_goals (refine⟨eI,_,eR,?_⟩;try simp only[zkX])
    have hie:i=p.funcs.length:=tc;rw[hie,gT]at z;have hJ2:(p.funcs.any fun f=>zlP [] (zlj p++(f.params++f.locals)))=false:=z;rw[qj,hJ2];(try simp only[dI]at *);simp only[*,iu,]
 .repeat' (first
   |(apply ah ?_;clear hK K)|fail)
  all_goals (refine⟨eI,_,eR,?_⟩;try simp only[zkX])
  rw[qj];(try simp only[dI]at *);simp only[*,nN,])
end
section
def tyV5.tyF:=ad @ec (ad @cJ (ad @kW (ad @gX (ad @qM (@CB)))))
open tyV5
noncomputable def O7:{c:SC // aC 22 (Tryz.f77.body.getD .skip)=c}:=by
 refine⟨?_,?_⟩;rotate_left
 .simp only[Tryz.f77,bI,aC,zll,zle,zlp,zln,Nat.blt,Nat.ble];rfl
def jj(n:Nd):List UInt8:=sZ (ur n)
noncomputable def DF:En:=⟨130,false,b7 (fun n=>n.kids.length<2^30) zX fun n=>.str (jj n)⟩
theorem zv7(ρ:Nat->Int):zl0 Tryz.prog ρ DF:=zl7 fun n J=>zz7 ρ n J
theorem zfO{j:List En}(Z:∀M,zme j 130 M=DF.sp M)(n:Nd)(J:n.kids.length<2^30)(H:Hp):zk5 Tryz.prog (zkY pls j) 130 [.agg n.cells] H fun v H'=>v=.str (jj n)/\H'=H:=
 zlM (enc:=zX) (ok:=fun n=>n.kids.length<2^30) (out:=fun n=>.str (jj n)) zvI (x:=n) (Z _) J
def rk(l:List Nd):Bool:=!zlP [] (l.map jj)
theorem zo4(ρ:Nat->Int)(l:List Nd)(hl:oZ l):bM Tryz.prog ρ 77 [lc l] (.bool (rk l)):=zmy fit (pls:=pls) (l:=[DF]) ⟨zv7 ρ,trivial⟩ (.cons (zV _) .nil) (.bool _) (by
 obtain⟨hl1,o⟩:=hl;have m:Plain (zkY pls [DF]) 77:=zml (fun _=>rfl) rfl;refine zlf (M:=22) (rs:=[.tmp 2]) (m.call _) m.ice m.froz Tryz.func77 rfl rfl O7.2 rfl ?_;dsimp only[O7,zD,Nat.reduceAdd];repeat' (first
  |(apply ah ?_;clear hK K)|apply Rx.o ?_|apply ak ?_|(apply zkU fun K hK=>?_)|apply aG ?_|fail)
 refine zlL [3,8,9] [] 10 l.length (fun i E H=>∃seen,H.get 0=some (.map (gK seen))/\zlP [] (l.map jj)=zlP seen ((l.drop i).map jj)) eE ⟨[],td,rfl⟩ ?_;rintro i E H2 hi V J I hsI ⟨seen,hm,z⟩;(try simp only[zlm,zlb,aR,zk1,zk7,Nat.reduceBEq, *]at V);(try simp only[zlb,zk7, *]at J);(try simp only[zk9,zlI,bL]at I);by_cases C:i<l.length
 .have O:(i:Int)<l.length:=by omega
  have hgx:l[i]?=some l[i]:=aT C;have hnk:=o _ (cR C);have Y:zlP seen ((l.drop i).map jj)=(zlo seen (jj l[i])||zlP (seen++[jj l[i]]) ((l.drop (i+1)).map jj)):=sV;generalize l[i]=n at *;have U:∀b c,((H2.alloc b).set H2.next c).get 0=some (.map (gK seen)):=fun b c=>by rw[aJ,af ac,zkZ,af ac];exact hm
  have hlk:=fun b c=>wd (U b c) (jj n);have hup:=fun b c=>ID (U b c) (jj n);repeat' (first
   |(apply ah ?_;clear hK K)|apply Ry.o ?_|apply dG ?_|(apply d7 ?_;first|refine zlc (zfO (fun _=>rfl) _ hnk _) ?_)|(apply bb (fun Z j=>?_) (fun Z j=>?_)<;>try(cases Z;done))|apply ak ?_|(apply zkU fun K hK=>?_)|apply aG ?_|apply zk3 ?_|apply aF ?_|fail)
  .all_goals (refine⟨eI,_,eR,?_⟩;try simp only[zkX])
   rw[rk,z,Y];(try simp only[dI]at *);simp only[*,nN,lC,]
  .refine⟨ac,zk8,zk8,zlF,rL,?_⟩;refine⟨rS seen (jj n),Ai,?_⟩;rw[z,Y,rS];(try simp only[dI]at *);simp only[*,gm,];rfl
 .have O:¬(i:Int)<l.length:=by omega
  have hie:l.drop i=[]:=rb ac;rw[hie]at z;repeat' (first
   |(apply ah ?_;clear hK K)|apply Ry.o ?_|(apply bb (fun Z j=>?_) (fun Z j=>?_)<;>try(cases Z;done))|apply ak ?_|(apply zkU fun K hK=>?_)|apply aF ?_|apply zlu ?_)
  all_goals (refine⟨eI,_,eR,?_⟩;try simp only[zkX])
  rw[rk,z];rfl)
end
section
def tyV6.tyF:=ad @ec (ad @cJ (ad @dd (ad @kW (ad @gX (ad @gY (ad @xd (ad @xe (ad @vC (ad @qM (ad @LY (@L2)))))))))))
open tyV6
noncomputable def DG:{c:SC // aC 114 (Tryz.f45.body.getD .skip)=c}:=by
 refine⟨?_,?_⟩;rotate_left
 .simp only[Tryz.f45,bI,aC,zll,zle,zlp,zln,Nat.blt,Nat.ble];rfl
theorem IK{l:List Nd}{i:Nat}{n:Nd}(Z:l[i]?=some n)(h:jf l i≠0):NdOk n i/\(n.op=30->0<=n.imm/\n.imm<=7)/\z6 n:=by
 have I:i<l.length:=by
  by_cases c:i<l.length
  .exact c
  .rw[lD ac]at Z;cases Z
 have O:=h;rw[xz I]at h;obtain⟨s,m,j,z⟩:=Hy Z h;have M:=zP m;have o:=ul m;have U:n.op=3->0<=n.imm/\n.imm<=255:=fun e=>by
  rw[eN,af ac,af ac,jz,af ac,am e,co,jJ,jJ]at z;exact z
 have V:n.op=30->0<=n.imm/\n.imm<=7:=fun e=>by
  rw[eN,af ac,af ac,jz,af ac,af ac,af ac,am e,co,jJ,jJ]at z;exact z
 have Y:n.op=31->0<=n.imm/\n.imm<=15:=fun e=>by
  rw[eN,af ac,af ac,jz,af ac,af ac,af ac,af ac,am e,co,jJ,jJ]at z;exact z
 refine⟨⟨fun k J=>⟨(o k J).1,(o k J).2.1⟩,U,fun e=>?_⟩,V,Y,U⟩;have a:eu 31=(-1,true):=aE;rw[e,zmo,a]at j;simp only[sB,dL]at j;rw[af ac,am trivial]at j;simp only[lW]at j;exact⟨(Y e).1,(Y e).2,ac,ac⟩
theorem IL{l:List Nd}{i:Nat}(h:i<l.length):(zmC l l.length)[i]?=some (jf l i):=by
 have:=C3 (l:=l) h (aB _);rw[dx]at this;have M:i<(zmC l l.length).length:=by rw[qY];exact h
 rw[aT M]at this⊢;exact jm some this
def qk(u:Un)(g:Gr)(i:Nat):Bool:=match g.nodes[i]? with
 |some n=>decide (jf g.nodes i≠0)&&o0 u g n
 |none=>true
def zna(l:List Nd)(i:Int):Nat:=(zmR l l.length).getD i.toNat 0
def lj(u:Un)(g:Gr):Bool:=
 (decide (0<=g.params)&&decide (g.params<=6)&&decide ((g.nodes.length:Int)<=2000))&&((List.range g.nodes.length).all (qk u g)) &&
 (rk g.nodes&&znS g.nodes&&decide (0<=g.value)&&decide (g.value<g.nodes.length)&&decide (0<=g.state)&&decide (g.state<g.nodes.length)) &&
 (decide (jf g.nodes g.value=1)&&decide (jf g.nodes g.state=2)&&decide (zna g.nodes g.value=0)&&decide (zna g.nodes g.state=0))
noncomputable def O8:En:=⟨76,false,b7 Ig vZ fun x=>.bool (o0 x.u x.g x.n)⟩
theorem zAH(ρ:Nat->Int):zl0 Tryz.prog ρ O8:=zl7 fun x hx=>zm8 ρ x hx
noncomputable def O9:En:=⟨77,false,b7 oZ re fun l=>.bool (rk l)⟩
theorem zAI(ρ:Nat->Int):zl0 Tryz.prog ρ O9:=zl7 fun l M=>zo4 ρ l M
noncomputable def Pa:En:=⟨78,false,b7 (fun l=>oZ l/\∀n∈l,z6 n) re fun l=>.bool (znS l)⟩
theorem zAJ(ρ:Nat->Int):zl0 Tryz.prog ρ Pa:=zl7 fun l M=>zn5 ρ l M.1 M.2
noncomputable def Pb:En:=⟨79,false,b7 z7 re fun l=>Di (zmR l l.length)⟩
theorem zAK(ρ:Nat->Int):zl0 Tryz.prog ρ Pb:=zl7 fun l M=>znb ρ l M
noncomputable def wh:List En:=[Ib,O8,O9,Pa,Pb]
theorem zAL(ρ:Nat->Int):fK Tryz.prog ρ wh:=⟨zAb ρ,zAH ρ,zAI ρ,zAJ ρ,zAK ρ,trivial⟩
structure VgX where
 u:Un
 g:Gr
def wi(x:VgX):List AV:=[.agg x.u.cells,.agg x.g.cells]
theorem zAM(x y:VgX)(h:wi x=wi y):x=y:=by
 obtain⟨a,b⟩:=x;obtain⟨Z,b'⟩:=y;simp only[wi,ea,AV.agg.injEq,aR]at h;rw[Un.inj h.1,Gr.inj h.2]
def IM(x:VgX):Prop:=oZ x.g.nodes/\x.u.arrays.length<2^30/\x.u.funcs.length<2^30
theorem Pc{l:List Nd}{i:Nat}(h:i<l.length):((zmR l l.length).map fun(m:Nat)=>[AV.int .u32 (m:Int)])[i]?=some [.int .u32 ((zna l i:Nat):Int)]:=by
 have M:i<(zmR l l.length).length:=by rw[uu];exact h
 rw[eS,zna,ja,dx,aT M];rfl
set_option maxRecDepth 100000 in
theorem zkL(ρ:Nat->Int)(x:VgX)(hx:IM x):bM Tryz.prog ρ 45 (wi x) (.bool (lj x.u x.g)):=zmy fit (pls:=pls) (zAL ρ) (.cons (.agg (Un.pure _)) (.cons (.agg (Gr.pure _)) .nil)) (.bool _) (by
 obtain⟨u,g⟩:=x;obtain⟨I,hua,huf⟩:=hx;have hw:Plain (zkY pls wh) 45:=zml (fun _=>rfl) rfl;rw[wi];simp only[]at I hua huf⊢;have hnl:=I.1;have ks:∀H,zk5 Tryz.prog (zkY pls wh) 43 [lc g.nodes] H fun v H'=>v=gI (zmC g.nodes g.nodes.length)/\H'=H:=fun H=>zey (fun _=>rfl) _ I H;by_cases c1:0<=g.params/\g.params<=6/\(g.nodes.length:Int)<=2000
 .obtain⟨c11,c12,c13⟩:=c1;have d1:¬g.params<0:=ac;have d2:¬(6:Int)<g.params:=ac;have d3:¬(2000:Int)<g.nodes.length:=ac;refine zlf (M:=114) (rs:=[.tmp 4]) (hw.call _) hw.ice hw.froz Tryz.func45 rfl rfl DG.2 rfl ?_;dsimp only[DG,zD,Nat.reduceAdd];repeat' (first
   |(apply ah ?_;clear hK K)|apply Ry.o ?_|(apply d7 ?_;first|refine zlc (ks _) ?_)|(apply eA (fun V Y=>?_) (fun V Y=>?_)<;>try(cases V;done))|(apply bb (fun C Z=>?_) (fun C Z=>?_)<;>try(cases C;done))|apply ak ?_|(apply zkU fun K hK=>?_)|apply aG ?_|apply zk3 ?_|fail)
  have O:∀i,i<g.nodes.length->qk u g i=false->lj u g=false:=fun i hi h=>by
   have:((List.range g.nodes.length).all (qk u g))=false:=by
    rw[List.all_eq_false];exact⟨i,lZ.2 hi,by rw[h];simp⟩
   rw[lj,this];simp
  refine zlL [2,3,5,27,28] [0,1] 29 g.nodes.length (fun i E H=>∀j,j<i->qk u g j=true) eE (fun j hj=>ac) ?_;rintro i E Hi hi hcE hrH hnH hsI hJ;(try simp only[zlm,zlb,aR,zk1,zk7,Nat.reduceBEq, *]at hcE);(try simp only[zlm,zlb,aR,zk1,zk7,Nat.reduceBEq, *]at hrH);(try simp only[zk9,zlI,bL,Nat.reduceAdd]at hnH);have hB0:(0 == Hi.next)=false:=zkV ac;have hC0:(Hi.next == 0)=false:=zkV ac;have hB1:(1 == Hi.next)=false:=zkV ac;have hC1:(Hi.next == 1)=false:=zkV ac;have ni:2<=Hi.next:=hnH
  by_cases hlt:i<g.nodes.length
  .have hlt':(i:Int)<g.nodes.length:=by omega
   have hgx:g.nodes[i]?=some g.nodes[i]:=aT hlt;have hnk:=I.2 _ (cR hlt);have hsg:=IL hlt;have hsf:=fun h=>IK hgx (l:=g.nodes) (i:=i) h;have hok:qk u g i=(decide (jf g.nodes i≠0)&&o0 u g g.nodes[i]):=by rw[qk,hgx]
   have vf:=O i hlt;clear O;generalize g.nodes[i]=n at *;by_cases hs0:jf g.nodes i=0
   .have vf2:=vf (by rw[hok,hs0];rfl);clear hok vf hJ hsf;rw[hs0]at hsg;repeat' (first
     |(apply ah ?_;clear hK K)|apply Ry.o ?_|apply dG ?_|(apply eA (fun V Y=>?_) (fun V Y=>?_)<;>try(cases V;done))|(apply bb (fun C Z=>?_) (fun C Z=>?_)<;>try(cases C;done))|apply ak ?_|(apply zkU fun K hK=>?_)|apply aG ?_|apply zk3 ?_|apply aF ?_|fail)
    all_goals (refine⟨eI,_,eR,?_⟩;try simp only[zkX])
    rw[vf2]
   .have o:qk u g i=o0 u g n:=by rw[hok,fY hs0,fq]
    obtain⟨f1,f2,f3⟩:=hsf hs0;have kr:∀H,zk5 Tryz.prog (zkY pls wh) 76 [.agg u.cells,.agg g.cells,.agg n.cells] H fun v H'=>v=.bool (o0 u g n)/\H'=H:=fun H=>zlM (enc:=vZ) (ok:=Ig) (out:=fun x=>.bool (o0 x.u x.g x.n)) zAc (x:=⟨u,g,n⟩) rfl ⟨fun h=>(f2 h).1,hnk,hua,huf⟩;clear hok hsf f1 f2 f3;by_cases hr:o0 u g n=true
    .repeat' (first
      |(apply ah ?_;clear hK K)|apply Ry.o ?_|apply dG ?_|(apply d7 ?_;first|refine zlc (kr _) ?_)|(apply eA (fun V Y=>?_) (fun V Y=>?_)<;>try(cases V;done))|(apply bb (fun C Z=>?_) (fun C Z=>?_)<;>try(cases C;done))|apply ak ?_|(apply zkU fun K hK=>?_)|apply aG ?_|apply zk3 ?_|fail)
     refine⟨ac,zk8,zk8,zlF,(by simp only[zk1,Nat.reduceBEq, *];exact zni (n:=g.nodes.length) ac ac),?_⟩;intro j hj;by_cases e:j=i
     .rw[e,o,hr]
     .exact hJ j ac
    .have hr':o0 u g n=false:=by simpa using hr
     have vf2:=vf (by rw[o,hr']);clear vf hJ o;repeat' (first
      |(apply ah ?_;clear hK K)|apply Ry.o ?_|apply dG ?_|(apply d7 ?_;first|refine zlc (kr _) ?_)|(apply eA (fun V Y=>?_) (fun V Y=>?_)<;>try(cases V;done))|(apply bb (fun C Z=>?_) (fun C Z=>?_)<;>try(cases C;done))|apply ak ?_|(apply zkU fun K hK=>?_)|apply aG ?_|apply zk3 ?_|apply aF ?_|fail)
     all_goals (refine⟨eI,_,eR,?_⟩;try simp only[zkX])
     rw[vf2]
  .have hlt':¬(i:Int)<g.nodes.length:=by omega
   have hall:∀j,j<g.nodes.length->qk u g j=true:=fun j hj=>hJ j ac;have hfac:∀(j:Nat) (n:Nd),g.nodes[j]?=some n->jf g.nodes j≠0:=fun j n h=>by
    have hj:j<g.nodes.length:=by
     by_cases c:j<g.nodes.length
     .exact c
     .rw[lD ac]at h;cases h
    have:=hall j hj;rw[qk,h,co,jJ]at this;exact this.1
   have hlp:∀n∈g.nodes,z6 n:=fun n hn=>by
    obtain⟨j,hj,e⟩:=yM hn;have h:g.nodes[j]?=some n:=by rw[aT hj,e]
    exact(IK h (hfac j n h)).2.2
   have hld:z7 g.nodes:=⟨I,fun j n h=>(IK h (hfac j n h)).1⟩;have z:((List.range g.nodes.length).all (qk u g))=true:=iP.2 fun j hj=>hall j (lZ.1 hj);have hvg:lj u g=((rk g.nodes&&znS g.nodes&&decide (0<=g.value)&&decide (g.value<g.nodes.length)&&decide (0<=g.state)&&decide (g.state<g.nodes.length)) &&
    (decide (jf g.nodes g.value=1)&&decide (jf g.nodes g.state=2)&&decide (zna g.nodes g.value=0)&&decide (zna g.nodes g.state=0))):=by
    rw[lj,z,fY c11,fY c12,fY c13];simp
   rw[hvg];clear hvg z hall hfac O hJ;have ka:∀H,zk5 Tryz.prog (zkY pls wh) 77 [lc g.nodes] H fun v H'=>v=.bool (rk g.nodes)/\H'=H:=fun H=>zlM (enc:=re) (ok:=oZ) (out:=fun l=>.bool (rk l)) Df (x:=g.nodes) rfl I;have kl:∀H,zk5 Tryz.prog (zkY pls wh) 78 [lc g.nodes] H fun v H'=>v=.bool (znS g.nodes)/\H'=H:=fun H=>zlM (enc:=re) (ok:=fun l=>oZ l/\∀n∈l,z6 n) (out:=fun l=>.bool (znS l)) Df (x:=g.nodes) rfl ⟨I,hlp⟩;have kd:∀H,zk5 Tryz.prog (zkY pls wh) 79 [lc g.nodes] H fun v H'=>v=.lst ((zmR g.nodes g.nodes.length).map fun(m:Nat)=>[AV.int .u32 (m:Int)])/\H'=H:=fun H=>zlM (enc:=re) (ok:=z7) (out:=fun l=>Di (zmR l l.length)) Df (x:=g.nodes) rfl hld;have hsl:=qY g.nodes g.nodes.length;clear hlp hld;generalize hdv:rk g.nodes=dv at *;generalize hvv:znS g.nodes=vl at *;by_cases cg:dv=true/\vl=true/\0<=g.value/\g.value<g.nodes.length/\0<=g.state/\g.state<g.nodes.length
   .obtain⟨rfl,rfl,v0,v1,s0,s1⟩:=cg;obtain⟨a,ha⟩:=l7 v0;obtain⟨b,hb0⟩:=l7 s0;have hal:a<g.nodes.length:=ac;have hbl:b<g.nodes.length:=ac;have q1:=IL hal;have q2:=IL hbl;have q3:=Pc hal;have q4:=Pc hbl;have e1:¬((a:Int)<0):=ac;have e2:¬((g.nodes.length:Int)<=a):=ac;have e3:¬((b:Int)<0):=ac;have e4:¬((g.nodes.length:Int)<=b):=ac;rw[fY v0,fY v1,fY s0,fY s1];simp only[vt,fq];rw[ha,hb0];clear v0 v1 s0 s1;repeat' (first
     |(apply ah ?_;clear hK K)|apply Ry.o ?_|(apply d7 ?_;first|refine zlc (ka _) ?_|refine zlc (kl _) ?_|refine zlc (kd _) ?_)|(apply eA (fun V Y=>?_) (fun V Y=>?_)<;>try(cases V;done))|(apply bb (fun C Z=>?_) (fun C Z=>?_)<;>try(cases C;done))|apply ak ?_|(apply zkU fun K hK=>?_)|apply zk3 ?_|apply aF ?_|apply zlu ?_)
    all_goals first
     |exact zlU
     |skip
    all_goals
     refine⟨eI,_,qQ,?_⟩;simp only[zkX]
    all_goals
     first
     |(congr 1;simp_all[Int.natCast_eq_zero];done)
     |trace_state
   .have U:∀(b:Bool),¬b=false->b=true:=fun b h=>by simpa using h
    by_cases a1:dv=false
    .have J:((dv&&vl&&decide (0<=g.value)&&decide (g.value<g.nodes.length)&&decide (0<=g.state)&&decide (g.state<g.nodes.length)) &&
     (decide (jf g.nodes g.value=1)&&decide (jf g.nodes g.state=2)&&decide (zna g.nodes g.value=0)&&decide (zna g.nodes g.state=0)))=false:=by rw[a1];rfl
     rw[J];clear J U cg;repeat' (first
      |(apply ah ?_;clear hK K)|apply Ry.o ?_|(apply d7 ?_;first|refine zlc (ka _) ?_|refine zlc (kl _) ?_|refine zlc (kd _) ?_)|(apply eA (fun V Y=>?_) (fun V Y=>?_)<;>try(cases V;done))|(apply bb (fun C Z=>?_) (fun C Z=>?_)<;>try(cases C;done))|apply ak ?_|(apply zkU fun K hK=>?_)|apply aF ?_|apply zlu ?_)
     all_goals first
      |exact zlU
      |skip
     all_goals (refine⟨eI,_,eR,?_⟩;try simp only[zkX])
    have b1:=U _ a1;by_cases a2:vl=false
    .have J:((dv&&vl&&decide (0<=g.value)&&decide (g.value<g.nodes.length)&&decide (0<=g.state)&&decide (g.state<g.nodes.length)) &&
     (decide (jf g.nodes g.value=1)&&decide (jf g.nodes g.state=2)&&decide (zna g.nodes g.value=0)&&decide (zna g.nodes g.state=0)))=false:=by rw[a2];simp
     rw[J];clear J U cg;repeat' (first
      |(apply ah ?_;clear hK K)|apply Ry.o ?_|(apply d7 ?_;first|refine zlc (ka _) ?_|refine zlc (kl _) ?_|refine zlc (kd _) ?_)|(apply eA (fun V Y=>?_) (fun V Y=>?_)<;>try(cases V;done))|(apply bb (fun C Z=>?_) (fun C Z=>?_)<;>try(cases C;done))|apply ak ?_|(apply zkU fun K hK=>?_)|apply aF ?_|apply zlu ?_)
     all_goals first
      |exact zlU
      |skip
     all_goals (refine⟨eI,_,eR,?_⟩;try simp only[zkX])
    have b2:=U _ a2;by_cases a3:g.value<0
    .have J:((dv&&vl&&decide (0<=g.value)&&decide (g.value<g.nodes.length)&&decide (0<=g.state)&&decide (g.state<g.nodes.length)) &&
     (decide (jf g.nodes g.value=1)&&decide (jf g.nodes g.state=2)&&decide (zna g.nodes g.value=0)&&decide (zna g.nodes g.state=0)))=false:=by rw[iH (by omega:¬0<=g.value)];simp
     rw[J];clear J U cg;repeat' (first
      |(apply ah ?_;clear hK K)|apply Ry.o ?_|(apply d7 ?_;first|refine zlc (ka _) ?_|refine zlc (kl _) ?_|refine zlc (kd _) ?_)|(apply eA (fun V Y=>?_) (fun V Y=>?_)<;>try(cases V;done))|(apply bb (fun C Z=>?_) (fun C Z=>?_)<;>try(cases C;done))|apply ak ?_|(apply zkU fun K hK=>?_)|apply aF ?_|apply zlu ?_)
     all_goals first
      |exact zlU
      |skip
     all_goals (refine⟨eI,_,eR,?_⟩;try simp only[zkX])
    by_cases a4:(g.nodes.length:Int)<=g.value
    .have J:((dv&&vl&&decide (0<=g.value)&&decide (g.value<g.nodes.length)&&decide (0<=g.state)&&decide (g.state<g.nodes.length)) &&
     (decide (jf g.nodes g.value=1)&&decide (jf g.nodes g.state=2)&&decide (zna g.nodes g.value=0)&&decide (zna g.nodes g.state=0)))=false:=by rw[iH (by omega:¬g.value<g.nodes.length)];simp
     rw[J];clear J U cg;repeat' (first
      |(apply ah ?_;clear hK K)|apply Ry.o ?_|(apply d7 ?_;first|refine zlc (ka _) ?_|refine zlc (kl _) ?_|refine zlc (kd _) ?_)|(apply eA (fun V Y=>?_) (fun V Y=>?_)<;>try(cases V;done))|(apply bb (fun C Z=>?_) (fun C Z=>?_)<;>try(cases C;done))|apply ak ?_|(apply zkU fun K hK=>?_)|apply aF ?_|apply zlu ?_)
     all_goals first
      |exact zlU
      |skip
     all_goals (refine⟨eI,_,eR,?_⟩;try simp only[zkX])
    by_cases a5:g.state<0
    .have J:((dv&&vl&&decide (0<=g.value)&&decide (g.value<g.nodes.length)&&decide (0<=g.state)&&decide (g.state<g.nodes.length)) &&
     (decide (jf g.nodes g.value=1)&&decide (jf g.nodes g.state=2)&&decide (zna g.nodes g.value=0)&&decide (zna g.nodes g.state=0)))=false:=by rw[iH (by omega:¬0<=g.state)];simp
     rw[J];clear J U cg;repeat' (first
      |(apply ah ?_;clear hK K)|apply Ry.o ?_|(apply d7 ?_;first|refine zlc (ka _) ?_|refine zlc (kl _) ?_|refine zlc (kd _) ?_)|(apply eA (fun V Y=>?_) (fun V Y=>?_)<;>try(cases V;done))|(apply bb (fun C Z=>?_) (fun C Z=>?_)<;>try(cases C;done))|apply ak ?_|(apply zkU fun K hK=>?_)|apply aF ?_|apply zlu ?_)
     all_goals first
      |exact zlU
      |skip
     all_goals (refine⟨eI,_,eR,?_⟩;try simp only[zkX])
    have a6:(g.nodes.length:Int)<=g.state:=by
     by_cases c:(g.nodes.length:Int)<=g.state
     .exact c
     .exact absurd ⟨b1,b2,ac,ac,ac,ac⟩ cg
    have J:((dv&&vl&&decide (0<=g.value)&&decide (g.value<g.nodes.length)&&decide (0<=g.state)&&decide (g.state<g.nodes.length)) &&
     (decide (jf g.nodes g.value=1)&&decide (jf g.nodes g.state=2)&&decide (zna g.nodes g.value=0)&&decide (zna g.nodes g.state=0)))=false:=by rw[iH (by omega:¬g.state<g.nodes.length)];simp
    rw[J];clear J U cg;repeat' (first
     |(apply ah ?_;clear hK K)|apply Ry.o ?_|(apply d7 ?_;first|refine zlc (ka _) ?_|refine zlc (kl _) ?_|refine zlc (kd _) ?_)|(apply eA (fun V Y=>?_) (fun V Y=>?_)<;>try(cases V;done))|(apply bb (fun C Z=>?_) (fun C Z=>?_)<;>try(cases C;done))|apply ak ?_|(apply zkU fun K hK=>?_)|apply aF ?_|apply zlu ?_)
    all_goals first
     |exact zlU
     |skip
    all_goals (refine⟨eI,_,eR,?_⟩;try simp only[zkX])
 .have hv:lj u g=false:=by
   rw[lj];cases h:(decide (0<=g.params)&&decide (g.params<=6)&&decide ((g.nodes.length:Int)<=2000))with
   |false=>simp
   |true=>
    simp only[lW]at h;exact absurd ⟨h.1.1,h.1.2,h.2⟩ c1
  rw[hv];refine zlf (M:=114) (rs:=[.tmp 4]) (hw.call _) hw.ice hw.froz Tryz.func45 rfl rfl DG.2 rfl ?_;dsimp only[DG,zD,Nat.reduceAdd];by_cases d1:g.params<0
  .repeat' (first
    |(apply ah ?_;clear hK K)|apply Ry.o ?_|(apply eA (fun V Y=>?_) (fun V Y=>?_)<;>try(cases V;done))|(apply bb (fun C Z=>?_) (fun C Z=>?_)<;>try(cases C;done))|apply ak ?_|(apply zkU fun K hK=>?_)|apply aF ?_|fail)
   all_goals (refine⟨eI,_,eR,?_⟩;try simp only[zkX])
  .by_cases d2:(6:Int)<g.params
   .repeat' (first
     |(apply ah ?_;clear hK K)|apply Ry.o ?_|(apply eA (fun V Y=>?_) (fun V Y=>?_)<;>try(cases V;done))|(apply bb (fun C Z=>?_) (fun C Z=>?_)<;>try(cases C;done))|apply ak ?_|(apply zkU fun K hK=>?_)|apply aF ?_|fail)
    all_goals (refine⟨eI,_,eR,?_⟩;try simp only[zkX])
   .have d3:(2000:Int)<g.nodes.length:=by omega
    repeat' (first
     |(apply ah ?_;clear hK K)|apply Ry.o ?_|(apply eA (fun V Y=>?_) (fun V Y=>?_)<;>try(cases V;done))|(apply bb (fun C Z=>?_) (fun C Z=>?_)<;>try(cases C;done))|apply ak ?_|(apply zkU fun K hK=>?_)|apply aF ?_|fail)
    all_goals (refine⟨eI,_,eR,?_⟩;try simp only[zkX]))
end
section
theorem zv9{l:List Ex}{i:Nat}{k:Ex}(O:ev l=true)(h:l[i]?=some k):eO k=true:=by
 induction l generalizing i with
 |nil=>simp at h
 |cons e I ih=>
  rw[ev,co]at O;cases i with
  |zero=>simp at h;subst h;exact O.1
  |succ i=>exact ih O.2 j8
theorem og{Z:Type}(l:List Z){i:Nat}(h:i<l.length):∃k,l[i]?=some k:=⟨l[i],aT h⟩
section
variable (p:Pr) (fi:List (zly × Int))
end
theorem Pd(s:zly):∀(l:List Fu) (i:Nat) (m:List (zly×Int)),zlo (l.map (·.name)) s=false->eT (li l i m) s=eT m s
 |[],_,m,_=>rfl
 |f::l,i,m,h=>by
  rw[dM,show f.name::l.map (·.name)=[f.name]++l.map (·.name)from rfl,znU,tj,i9,lJ]at h;rw[li,Pd s l _ _ h.2,v9,af h.1]
theorem Pe(s:zly):∀(l:List Fu) (seen:List (List UInt8)) (i:Nat) (m:List (zly×Int)),zlP seen (l.map (·.name))=false->0<=zl2 l s i->eT (li l i m) s=zl2 l s i
 |[],_,i,m,_,h=>by simp[zl2]at h
 |f::l,seen,i,m,hn,h=>by
  rw[dM,zlP,i9]at hn;rw[zl2]at h⊢;by_cases e:f.name=s
  .have z:zlo (l.map (·.name)) s=false:=DA _ _ hn.2 s OC;rw[am e,li,Pd s l _ _ z,v9,am e.symm]
  .rw[af e]at h⊢;rw[li];exact Pe s l (seen++[f.name]) (i+1) _ hn.2 h
structure Valid (p:Pr):Prop where
 ex:jo p=false
 wf:hT p=true
 du:kI p=false
 un:p.funcs.any (iX p)=false
 ba:p.funcs.any (kJ p)=false
theorem zwa{p:Pr}(h:zmw p=0):Valid p:=by
 rw[zmw]at h;by_cases m:jo p=true
 .rw[am m]at h;omega
 rw[af m]at h;by_cases j:hT p=false
 .rw[am j]at h;omega
 rw[af j]at h;by_cases z:kI p=true
 .rw[am z]at h;omega
 rw[af z]at h;by_cases Y:p.funcs.any (iX p)=true
 .rw[am Y]at h;omega
 rw[af Y]at h;by_cases Z:p.funcs.any (kJ p)=true
 .rw[am Z]at h;omega
 exact⟨yS,by simpa using j,by simpa using z,sw,su⟩
theorem Valid.names{p:Pr}(h:Valid p):zlP [] (zlj p)=false/\zlP [] (zmX p)=false:=by
 have hd:=h.du;rw[kI,Dz,i9,i9]at hd;exact⟨hd.1,hd.2.1⟩
theorem IN:∀(l seen:List (List UInt8)),zlP seen l=false->l.Nodup
 |[],_,_=>List.nodup_nil
 |s::l,seen,h=>by
  rw[zlP,i9]at h;refine Dv.2 ⟨fun V=>?_,IN l _ h.2⟩;have:=DA _ _ h.2 s (by rw[znU,tj,fY rfl,Dc]);rw[zlo,sI]at this;exact this s V ax
theorem Valid.nodup{p:Pr}(h:Valid p):(p.arrays.map (·.name)).Nodup:=IN _ _ h.names.1
structure Bd where
 l:List Nd
 vars:List Int
 state:Int
 loops:Nat
structure Cx where
 arrays:List Ar
 funcs:List Fu
 names:List zly
def hY(l:List Nd)(n:Nd):Nat:=l.findIdx fun x=>decide (x=n)
def jB(l:List Nd)(n:Nd):List Nd:=if hY l n<l.length then l else l++[n]
def zkW(n:Nd)(s:Bd):Int×Bd:=(hY s.l n,{s with l:=jB s.l n})
def cP:List zly->zly->Nat
 |[],_=>0
 |a::l,s=>if a=s then 0 else if zlo l s=true then cP l s+1 else 0
def zlr(c a b:Int)(s:Bd):Int×Bd:=if a=b then (a,s)else zkW ⟨22,0,[c,a,b]⟩ s
def pm(V v:Int)(s:Bd):Bd:=let r:=zkW ⟨27,V,[s.state,v]⟩ s;{r.2 with state:=r.1}
def hZ(len i:Int)(s:Bd):Bd:=
 let M:=zkW ⟨1,len,[]⟩ s
 let j:=zkW ⟨19,0,[i,M.1]⟩ M.2
 pm 2 j.1 j.2
def rm(v:Int)(s:Bd):Bd:=
 let z:=zkW ⟨1,0,[]⟩ s
 let c:=zkW ⟨16,0,[v,z.1]⟩ z.2
 pm 1 c.1 c.2
def fu(c:Cx):Nat->Ex->Bd->Option (Int×Bd)
 |0,_,_=>none
 |n+1,x,s=>
  if x.kind=1 then some (zkW ⟨1,x.n,[]⟩ s)
  else if x.kind=2 then (s.vars[cP c.names x.name]?).map fun v=>(v,s)
  else if x.kind=3 then
   (x.kids[0]?).bind fun k=>(fu c n k s).bind fun r=>(c.arrays[cP (c.arrays.map (·.name)) x.name]?).bind fun a=>
     let Y:=hZ a.len r.1 r.2
     some (zkW ⟨23,cP (c.arrays.map (·.name)) x.name,[Y.state,r.1]⟩ Y)
  else if x.kind=5 then
   (x.kids[0]?).bind fun k0=>(fu c n k0 s).bind fun zlE=>
   (x.kids[1]?).bind fun k1=>(fu c n k1 zlE.2).bind fun M=>
   (x.kids[2]?).bind fun m=>(fu c n m {M.2 with state:=zlE.2.state}).bind fun j=>
     let v:=zlr zlE.1 M.1 j.1 j.2
     let t:=zlr zlE.1 M.2.state v.2.state v.2
     some (v.1,{t.2 with state:=t.1})
  else
   (x.kids[0]?).bind fun k0=>(fu c n k0 s).bind fun zlE=>
     if x.kids.length=1 then some (zkW ⟨x.op,0,[zlE.1]⟩ zlE.2)
     else (x.kids[1]?).bind fun k1=>(fu c n k1 zlE.2).bind fun M=>
      some (zkW ⟨x.op,0,[zlE.1,M.1]⟩ (if x.op=7\/x.op=8 then rm M.1 M.2 else M.2))
def ro(c:Cx)(n:Nat):List Ex->Bd->Option (List Int×Bd)
 |[],s=>some ([],s)
 |x::l,s=>(fu c n x s).bind fun r=>(ro c n l r.2).bind fun j=>some (r.1::j.1,j.2)
def gU(j:List zly):Nat->List St->List Bool->Option (List Bool)
 |0,_,_=>none
 |n+1,l,b=>match l with
  |[]=>some b
  |x::l=>
   if (x.kind=1\/x.kind=6)/\b.length<=cP j x.name then none
   else (gU j n x.thn (if x.kind=1\/x.kind=6 then b.set (cP j x.name) true else b)).bind fun C=>(gU j n x.els C).bind fun J=>gU j n l J
def zmV(b:List Bool):List Nat:=(List.range b.length).filter fun i=>b.getD i false
def oh(c:Int)(a:List Int):Nat->Nat->Bd->Option Bd
 |0,_,s=>some s
 |k+1,i,s=>(a[i]?).bind fun x=>(s.vars[i]?).bind fun y=>
  let r:=zlr c x y s
  oh c a k (i+1) {r.2 with vars:=r.2.vars.set i r.1}
def jh(base:Int):List Nat->Nat->Bd->Bd
 |[],_,s=>s
 |w::ws,j,s=>let r:=zkW ⟨3,base+j,[]⟩ s;jh base ws (j+1) {r.2 with vars:=r.2.vars.set w r.1}
def gL(loop c:Int)(old:List Int):List Nat->Nat->Bd->Bd
 |[],_,s=>s
 |w::ws,j,s=>
  let f:=zkW ⟨25,j,[loop]⟩ s
  let m:=zlr c f.1 (old.getD w 0) f.2
  gL loop c old ws (j+1) {m.2 with vars:=m.2.vars.set w m.1}
section
variable (c:Cx)
mutual
def ol:Nat->St->Bd->Option Bd
 |0,_,_=>none
 |n+1,x,s=>
  if x.kind=1 then (fu c n x.value s).bind fun r=>if cP c.names x.name<r.2.vars.length then some {r.2 with vars:=r.2.vars.set (cP c.names x.name) r.1}else none
  else if x.kind=2 then (fu c n x.at_ s).bind fun i=>(fu c n x.value i.2).bind fun v=>(c.arrays[cP (c.arrays.map (·.name)) x.name]?).bind fun a=>
   let Y:=hZ a.len i.1 v.2
   let r:=zkW ⟨28,cP (c.arrays.map (·.name)) x.name,[Y.state,i.1,v.1]⟩ Y
   some {r.2 with state:=r.1}
  else if x.kind=3 then (fu c n x.value s).bind fun r=>(gE n x.thn r.2).bind fun a=>(gE n x.els {a with state:=r.2.state,vars:=r.2.vars}).bind fun b=>
   (oh r.1 a.vars b.vars.length 0 b).bind fun m=>
     let t:=zlr r.1 a.state m.state m
     some {t.2 with state:=t.1}
  else if x.kind=4 then pn n x s
  else if x.kind=5 then (fu c n x.value s).bind fun v=>
   let r:=zkW ⟨29,0,[v.2.state,v.1]⟩ v.2
   some {r.2 with state:=r.1}
  else if x.kind=6 then (ro c n x.args s).bind fun j=>
   if 0<=zl2 c.funcs x.to 0/\cP c.names x.name<j.2.vars.length then
    let r:=zkW ⟨30,zl2 c.funcs x.to 0,j.2.state::j.1⟩ j.2
    let q:=zkW ⟨24,0,[r.1]⟩ {r.2 with state:=r.1}
    some {q.2 with vars:=q.2.vars.set (cP c.names x.name) q.1}
   else none
  else if x.kind=7 then let z:=zkW ⟨1,0,[]⟩ s;some (pm (bE (16+x.n)) z.1 z.2)
  else some s
def gE:Nat->List St->Bd->Option Bd
 |0,_,_=>none
 |n+1,l,s=>match l with
  |[]=>some s
  |x::l=>(ol n x s).bind fun r=>gE n l r
def pn:Nat->St->Bd->Option Bd
 |0,_,_=>none
 |n+1,x,s=>(fu c n x.value {s with loops:=s.loops+1}).bind fun r=>(gU c.names n x.thn (List.replicate r.2.vars.length false)).bind fun b=>
  let p:=zkW ⟨3,16*(s.loops:Int),[]⟩ r.2
  (gE n x.thn (jh (16*(s.loops:Int)+1) (zmV b) 0 {p.2 with state:=p.1})).bind fun t=>(fu c n x.value t).bind fun d=>
    let k:=zkW ⟨31,s.loops,r.2.state::((zmV b).map fun i=>r.2.vars.getD i 0)++[d.1,d.2.state]++((zmV b).map fun i=>d.2.vars.getD i 0)⟩ d.2
    let f:=zkW ⟨25,0,[k.1]⟩ {k.2 with vars:=r.2.vars}
    let m:=zlr r.1 f.1 r.2.state f.2
    some (gL k.1 r.1 r.2.vars (zmV b) 1 {m.2 with state:=m.1})
end
end
def jC:Nat->Nat->Bd->Bd
 |0,_,s=>s
 |n+1,k,s=>let r:=zkW ⟨2,k,[]⟩ s;jC n (k+1) {r.2 with vars:=r.2.vars++[r.1] }
def mo:Nat->Bd->Bd
 |0,s=>s
 |n+1,s=>let r:=zkW ⟨1,0,[]⟩ s;mo n {r.2 with vars:=r.2.vars++[r.1] }
def kK(f:Fu):Bd:=let e:=zkW ⟨26,0,[]⟩ ⟨[],[],0,0⟩;mo f.locals.length (jC f.params.length 0 {e.2 with state:=e.1})
def ll(p:Pr)(f:Fu):Cx:=⟨p.arrays,p.funcs,f.params++f.locals⟩
def rp(p:Pr)(n:Nat)(f:Fu):Option Gr:=(gE (ll p f) n f.body (kK f)).bind fun s=>(fu (ll p f) n f.value s).bind fun v=>some ⟨f.name,f.params.length,v.2.l,v.1,v.2.state⟩
def qo(p:Pr)(n:Nat):List Fu->List Gr->Option (Un×Int)
 |[],gs=>some (⟨p.arrays,gs⟩,0)
 |f::l,gs=>(rp p n f).bind fun g=>if (2000:Int)<g.nodes.length then some (⟨[],[]⟩,6)else qo p n l (gs++[g])
def rV(p:Pr)(n:Nat):Option (Un×Int):=if zmw p=0 then qo p n p.funcs []else some (⟨[],[]⟩,zmw p)
end
end Go.Proofs.YtpbcimfiofmoeaaGreat
