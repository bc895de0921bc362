/- Lemmas for the last file. -/
import Derived.Test.YtpbcimfiofmoeaaGreatWEM
set_option linter.all false
set_option maxHeartbeats 32000000
namespace Go.Ab
set_option maxRecDepth 20000
open Go
variable{qe:Prop}
def Bt(h:qe:=by rw[<- Z];rfl):=h
def Rl(h:qe:=by rw[<- Z];simp only[get_set,wJ,aU,bq,HR,MB,Nat.add_assoc,Nat.reduceAdd,beq_self_eq_true,cond_true,cond_false,Nat.reduceBEq]):=h
def JR(h:qe:=by simp only[db,O,Bool.false_and]):=h
def Bu:=@Bool.and_eq_false_iff
def yO:=@Nat.zero_mul
end Go.Ab
namespace Go.Proofs.YtpbcimfiofmoeaaGreat
set_option maxRecDepth 20000
open Go Go.Ab Proofs.Tryz
variable{cfg:Cfg}{H H':Hp}{vs:qx}{I:Hp->Prop}{V:List (bG×Int)}{l:qC}
section
def tyP4f.tyF:=ad @cr (ad @cK (ad @et (ad @Ik (ad @In (ad @dQ (ad @dR (ad @dD (ad @vd (ad @dV (ad @eh (@oW)))))))))))
open tyP4f
noncomputable def Rm:{c:SC // aE 26 (f127.body.getD .skip)=c}:=by
 refine⟨?_,?_⟩;rotate_left
 .simp only[f127,bN,aE,bH,bw,bM,bJ,Nat.blt,Nat.ble];rfl
noncomputable def Rn:{c:SC // aE 27 (f128.body.getD .skip)=c}:=by
 refine⟨?_,?_⟩;rotate_left
 .simp only[f128,bN,aE,bH,bw,bM,bJ,Nat.blt,Nat.ble];rfl
noncomputable def Ro:{c:SC // aE 49 (f129.body.getD .skip)=c}:=by
 refine⟨?_,?_⟩;rotate_left
 .simp only[f129,bN,aE,bH,bw,bM,bJ,Nat.blt,Nat.ble];rfl
def zdk(l:qx)(a s:qA):bE (vE l a) s=(bE l s||bE [a] s):=by
 unfold vE;split
 .rename_i h;rw[um];simp_all
 .rw[rX]
def Rp(hw:zd0 cfg 127){r imm:Nat}{x:List qx}(hg:H.get r=some (.cells (x.map cH) imm true))(hr:r<H.next)(hx:EB x):
 aR prog cfg 127 [.sl r 0 x.length 1] H fun v H'=>v=.map H.next/\(∃l,H'.get H.next=some (.map (ii l))/\∀s,bE l s=bE x.flatten s)/\(∀k,k<H.next->H'.get k=H.get k)/\H.next<H'.next:=by
 obtain⟨hx1,hx2⟩:=hx;have hnm:=MF;refine bp (M:=26) (rs:=[.tmp 2]) (hw.call _) hw.aG hw.aB func127 rfl rfl Rm.2 rfl ?_;dsimp only[Rm,bm,Nat.reduceAdd];refine dJ ?_;refine cl [2,3,9,10] [] 11 x.length (fun i E z=>(∃l,z.get H.next=some (.map (ii l))/\∀s,bE l s=bE (x.take i).flatten s)/\∀k,k<H.next->z.get k=H.get k) eE ⟨⟨[],yz,fun s=>rfl⟩,fun k hk=>em⟩ ?_;rintro i E z hi Y V m hsI ⟨⟨l,hm,hl⟩,Z⟩;(try simp only[bC,aZ,aW,aG,aY,Nat.reduceBEq, *]at Y);(try simp only[aZ,aY, *]at V);(try simp only[aU,]at m);repeat' (first
  |(apply aj ?_;clear hK K)|apply aV ?_|(apply bz ?_ ?_<;>(intro hb hbp;try(cases hb;done)))|(apply am fun K hK=>?_)|fail)
 .have J:i<x.length:=by simpa using hb
  have hgx:x[i]?=some x[i]:=bj J;have hsm:=hx2 _ (dm J);have hg2:z.get r=some (.cells (x.map cH) imm true):=aX;have htk:(x.take (i+1)).flatten=(x.take i).flatten++x[i]:=by rw[tK,hgx,List.flatten_append];simp
  generalize x[i]=I at *;refine Vk ?_;refine cl [2,3,9,10,11,15,16] [] 17 I.length (fun j E H3=>(∃l,H3.get H.next=some (.map (ii l))/\∀s,bE l s=bE ((x.take i).flatten++I.take j) s)/\∀k,k<H.next->H3.get k=H.get k) eE ⟨⟨l,hm,fun s=>bb⟩,Z⟩ ?_;clear hm hl l Z hg2;rintro j E3 H3 hj Y V m hsI ⟨⟨l,hm,hl⟩,Z⟩;(try simp only[bC,aZ,aW,aG,aY,Nat.reduceBEq, *]at Y);(try simp only[aZ, *]at V);(try simp only[aU,bq,ce,bR,Nat.reduceAdd]at m);repeat' (first
   |(apply aj ?_;clear hK K)|apply aV ?_|(apply bz ?_ ?_<;>(intro hb hbp;try(cases hb;done)))|(apply am fun K hK=>?_)|fail)
  .have U:j<I.length:=by simpa using hb
   have O:I[j]?=some I[j]:=bj U;have hup:=Pj hm I[j];have C:I.take (j+1)=I.take j++[I[j]]:=by rw[tK,O];rfl
   refine dJ ?_;refine⟨ac,a0,a0,ca,OV,?_⟩;refine⟨⟨vE l I[j],by rw[aM,ai cM],fun s=>?_⟩,fun k hk=>by rw[aM,af ac];exact Z k hk⟩;rw[zdk,hl,C,<-mV,rX ((x.take i).flatten++I.take j)]
  .have hje:j=I.length:=by simp at hb;omega
   refine dJ ?_;refine⟨ac,a0,a0,ca,vn,?_⟩
   grind
 .refine dJ ?_;all_goals refine qq ?_
  grind
structure Rs where
 ek:Nat
 mv:Nat
 r5:Nat
 ma:Nat
 r6:Nat
 mf:Nat
 r9:Nat
structure zif (X:Rs) (vs an:qx) (fm:List (bG×Int)) (H:Hp):Prop where
 b12:H.get X.ek=some (.cells [.map X.mv] 0 true)
 bv:∃l,H.get X.mv=some (.map (ii l))/\∀s,bE l s=bE vs s
 b5:H.get X.r5=some (.cells [.map X.ma] 0 true)
 ba:∃l,H.get X.ma=some (.map (ii l))/\∀s,bE l s=bE an s
 b6:H.get X.r6=some (.cells [.map X.mf] 0 true)
 bf:H.get X.mf=some (.map (dz fm))
structure RsLt (X:Rs) (n:Nat):Prop where
 f3:X.ek<n
 lv:X.mv<n
 l5:X.r5<n
 la:X.ma<n
 l6:X.r6<n
 lf:X.mf<n
structure RsNe (X:Rs):Prop where
 f3:X.ek≠X.r9
 lv:X.mv≠X.r9
 l5:X.r5≠X.r9
 la:X.ma≠X.r9
 l6:X.r6≠X.r9
 lf:X.mf≠X.r9
def zif.keep{X:Rs}{I:qx}(h:zif X vs I V H)(m:H'.get X.ek=H.get X.ek)(Z:H'.get X.mv=H.get X.mv)(Y:H'.get X.r5=H.get X.r5)(O:H'.get X.ma=H.get X.ma)(U:H'.get X.r6=H.get X.r6)(j:H'.get X.mf=H.get X.mf):zif X vs I V H' where
 b12:=by rw[m];exact h.b12
 bv:=by rw[Z];exact h.bv
 b5:=by rw[Y];exact h.b5
 ba:=by rw[O];exact h.ba
 b6:=by rw[U];exact h.b6
 bf:=by rw[j];exact h.bf
def zif.cL{X:Rs}{I:qx}{n:Nat}(h:zif X vs I V H)(O:RsLt X n)(k:jd n H H'):zif X vs I V H':=
 h.keep (k _ O.f3) (k _ O.lv) (k _ O.l5) (k _ O.la) (k _ O.l6) (k _ O.lf)
def zdl(C:zd0 cfg 128){X:Rs}{z:qx}{fm:List (bG×Int)}{base:Nat}(J:RsLt X base)(hI:vO base I)(hR:∀H,I H->zif X vs z fm H):
 yL cfg base I 128 [.ptr X.ek 0,.ptr X.r5 0] fun x _=>iZ vs z x:=by
 intro x d H hz Z j;obtain⟨m,⟨lv,O,Y⟩,h5,⟨la,V,U⟩,h6,hf⟩:=hR H j;have l12:=J.f3;have llv:=J.lv;have l5:=J.l5;have lla:=J.la;have g12:(H.alloc (.cells x.cells 0 true)).get X.ek=some (.cells [.map X.mv] 0 true):=by rw[aD,af ac];exact m
 have g5:(H.alloc (.cells x.cells 0 true)).get X.r5=some (.cells [.map X.ma] 0 true):=by rw[aD,af ac];exact h5
 have gv:(H.alloc (.cells x.cells 0 true)).get X.mv=some (.map (ii lv)):=by rw[aD,af ac];exact O
 have ga:(H.alloc (.cells x.cells 0 true)).get X.ma=some (.map (ii la)):=by rw[aD,af ac];exact V
 have kv:=yD gv x.name;have ka:=yD ga x.name;rw[Y]at kv;rw[U]at ka;clear m h5 O V gv ga Y U hf h6;have e12:(X.ek == H.next)=false:=ak ac;have e5:(X.r5 == H.next)=false:=ak ac;simp only[];refine bp (M:=27) (rs:=[.tmp 6]) (C.call _) C.aG C.aB func128 rfl rfl Rn.2 rfl ?_;dsimp only[Rn,bm,Nat.reduceAdd];repeat' (first
  |(apply aj ?_;clear hK K)|apply aV ?_|(apply cL ?_ ?_<;>(intro hg hgp;try(cases hg;done)))|(apply am fun K hK=>?_)|fail)
 all_goals
  all_goals refine qq ?_
  refine⟨?_,(jA _ _).alloc _,hI _ _ j ((rO _ _).alloc Z _)⟩;rw[iZ];(try simp only[iK]at *);simp only[ *,mp,mW,nU,uk,mB,p9,wH,ll,]
def Rq:nM prog 9=some .string:=ax
def sg(w:Bool):Int:=if w=true then 5 else 0
abbrev qo:HB:=.cells [.int .i64 5] 0 true
def zdm(hw:zd0 cfg 129){X:Rs}{an:qx}{J:List (bG×Int)}{base:Nat}(Z:RsLt X base)(h9:X.r9<base)(C:RsNe X):
 Br cfg base (fun(w:Bool) H=>zif X vs an J H/\H.get X.r9=some (.cells [.int .i64 (sg w)] 0 true)) 129 [.ptr X.ek 0,.ptr X.r5 0,.ptr X.r6 0,.ptr X.r9 0] (pj J vs an):=by
 intro x d w H hz V hi;obtain⟨m,hw9⟩:=hi;have j:=m;obtain⟨h12,⟨lv,hv1,hv2⟩,h5,⟨la,ha1,ha2⟩,h6,hf⟩:=m;have l12:=Z.f3;have llv:=Z.lv;have l5:=Z.l5;have lla:=Z.la;have l6:=Z.l6;have llf:=Z.lf;have O:jd base H (H.alloc (.cells x.cells 0 true)):=(rO _ _).alloc V _;have g12:(H.alloc (.cells x.cells 0 true)).get X.ek=some (.cells [.map X.mv] 0 true):=by rw[O _ l12];exact h12
 have g5:(H.alloc (.cells x.cells 0 true)).get X.r5=some (.cells [.map X.ma] 0 true):=by rw[O _ l5];exact h5
 have g6:(H.alloc (.cells x.cells 0 true)).get X.r6=some (.cells [.map X.mf] 0 true):=by rw[O _ l6];exact h6
 have g9:(H.alloc (.cells x.cells 0 true)).get X.r9=some (.cells [.int .i64 (sg w)] 0 true):=by rw[O _ h9];exact hw9
 have gv:(H.alloc (.cells x.cells 0 true)).get X.mv=some (.map (ii lv)):=by rw[O _ llv];exact hv1
 have ga:(H.alloc (.cells x.cells 0 true)).get X.ma=some (.map (ii la)):=by rw[O _ lla];exact ha1
 have gf:(H.alloc (.cells x.cells 0 true)).get X.mf=some (.map (dz J)):=by rw[O _ llf];exact hf
 have gb:(H.alloc (.cells x.cells 0 true)).get H.next=some (.cells x.cells 0 true):=te
 have kv:=yD gv x.name;have ka:=yD ga x.name;have kf:=O7 (P:=prog) (t:=98) underlying98 Rq ax gf x.to;rw[hv2]at kv;rw[ha2]at ka;have hlen:=mY x.args;have hsz:=x.aV;have z:zif X vs an J (H.alloc (.cells x.cells 0 true)):=j.cL Z O;have hx0:∀a b,Ab.extract (.a6 [a,b]) 0=some a:=fun _ _=>rfl;have hx1:∀a b,Ab.extract (.a6 [a,b]) 1=some b:=fun _ _=>rfl;have U:FrB base H (H.alloc (.cells x.cells 0 true)):=(jA _ _).alloc _;have Y:FrB base H ((H.alloc (.cells x.cells 0 true)).set X.r9 qo):=U.set (.inr h9) _;have I:zif X vs an J ((H.alloc (.cells x.cells 0 true)).set X.r9 qo):=z.keep (by rw[aM,af C.f3]) (by rw[aM,af C.lv]) (by rw[aM,af C.l5]) (by rw[aM,af C.la]) (by rw[aM,af C.l6]) (by rw[aM,af C.lf]);have hw2:((H.alloc (.cells x.cells 0 true)).set X.r9 qo).get X.r9=some (.cells [.int .i64 (sg true)] 0 true):=Bh;have s12:((H.alloc (.cells x.cells 0 true)).set X.r9 qo).get X.ek=some (.cells [.map X.mv] 0 true):=I.b12;have sb:((H.alloc (.cells x.cells 0 true)).set X.r9 qo).get H.next=some (.cells x.cells 0 true):=by rw[aM,af ac];exact gb
 have sv:jS prog ((H.alloc (.cells x.cells 0 true)).set X.r9 qo) 178 (.map X.mv) (.aj x.name) false=some (.bool (bE vs x.name)):=by
  obtain⟨l,q1,q2⟩:=I.bv;rw[yD q1,q2]
 clear h12 hv1 hv2 h5 ha1 ha2 h6 hf gv ga gf j hw9 O;have e12:(X.ek == H.next)=false:=ak ac;have e5:(X.r5 == H.next)=false:=ak ac;have e6:(X.r6 == H.next)=false:=ak ac;have e9:(X.r9 == H.next)=false:=ak ac;have d12:(X.ek == X.r9)=false:=ak C.f3;have dn:(H.next == X.r9)=false:=ak ac;simp only[];refine bp (M:=49) (rs:=[.tmp 8]) (hw.call _) hw.aG hw.aB func129 rfl rfl Ro.2 rfl ?_;dsimp only[Ro,bm,Nat.reduceAdd];repeat' (first
  |(apply aj ?_;clear hK K)|apply aV ?_|(apply cL ?_ ?_<;>(intro hg hgp;try(cases hg;done)))|(apply bz ?_ ?_<;>(intro hb hbp;try(cases hb;done)))|(apply am fun K hK=>?_)|fail)
 all_goals
  all_goals refine qq ?_
  first
  |refine⟨?_,U,z,?_⟩
  |refine⟨?_,Y,I,?_⟩
  all_goals
   (try rw[g9]);(try rw[hw2]);clear g12 g5 g6 g9 kv ka kf hx0 hx1 gb s12 sb sv z I U Y hw2 e12 e5 e6 e9 d12 dn Z C hlen hsz;simp_all[pj,sg]
end
variable(ρ:Nat->Int)
section
def tyP4g.tyF:=ad @cr (ad @cK (ad @fW (ad @gh (ad @eL (ad @vd (ad @et (ad @dV (ad @dD (ad @jb (ad @eh (ad @oW (ad @Ik (ad @In (ad @Jt (@zcz)))))))))))))))
open tyP4g
noncomputable def Rr:{c:SC // aE 67 (f75.body.getD .skip)=c}:=by
 refine⟨?_,?_⟩;rotate_left
 .simp only[f75,bN,aE,bH,bw,bM,bJ,Nat.blt,Nat.ble];rfl
noncomputable def Fs:qC:=[Jq]
def zdn:gT prog ρ Fs:=⟨Pn ρ,trivial⟩
set_option maxRecDepth 100000 in
theorem zdo(p:Pr)(hz:p.sz<2^36):bX prog ρ 75 (eV p) (.int .i64 (xj p)):=fB fit (pls:=pls) (zdn ρ) (.cons (.agg p.pure) .nil) (.int _ _) (by
 have hw:zd0 (au pls Fs) 75:=ei (fun _=>rfl) rfl;have kd:∀H,aR prog (au pls Fs) 125 [.agg p.cells] H fun v H'=>v=.a6 [cH (bF p),cH (fZ p)]/\H'=H:=fun H=>cV (enc:=eV) (out:=fun p=>.a6 [cH (bF p),cH (fZ p)]) pd (x:=p) rfl hz;have hps:zih (au pls Fs):=⟨ei (fun _=>rfl) rfl,ei (fun _=>rfl) rfl,ei (fun _=>rfl) rfl,ei (fun _=>rfl) rfl⟩;have hpz:p.sz=1+eA p.aa+dO p.funcs:=rfl;have hla:=m1 p.aa;have hlf:=m0 p.funcs;have hal:(bF p).length=p.aa.length:=vy;have hfl:(fZ p).length=p.funcs.length:=by simp[fZ]
 have hx0:∀a b,Ab.extract (.a6 [a,b]) 0=some a:=fun _ _=>rfl;have hx1:∀a b,Ab.extract (.a6 [a,b]) 1=some b:=fun _ _=>rfl;have hnm:=MF;rw[eV];refine bp (M:=67) (rs:=[.tmp 2]) (hw.call _) hw.aG hw.aB func75 rfl rfl Rr.2 rfl ?_;dsimp only[Rr,bm,Nat.reduceAdd];repeat' (first
  |(apply aj ?_;clear hK K)|apply aV ?_|(apply eu ?_;first|refine bK (kd _) ?_)|(apply am fun K hK=>?_)|fail)
 refine qc ?_;refine aF ?_ (Rp (x:=[bF p]) (imm:=0) (ei (fun _=>rfl) rfl) yz (bT _) ⟨aw,cb⟩);rintro v z ⟨rfl,⟨la,hma,hla2⟩,hold,hlt2⟩;simp only[aU,ce]at hma hold hlt2;rw[show([bF p]:List qx).flatten=bF p by simp]at hla2;have g20:z.get 0=some (.cells p.cells 0 true):=by rw[hold 0 ac,aD,af aw,aD,ai cM]
 clear hold;dsimp only[aC];refine gW ?_;generalize Y:Hp.set (Hp.set _ _ _) _ _=Hs;have ns:z.next+3<=Hs.next:=by rw[<-Y];exact ay _
 have gs0:Hs.get 0=some (.cells p.cells 0 true):=by rw[<-Y,aM,af ac,aM,af ac,aD,af bb,aD,af bb,aD,af ac];exact g20
 have gsa:Hs.get 2=some (.map (ii la)):=by rw[<-Y,aM,af ac,aM,af ac,aD,af cB,aD,af cB,aD,af ac];exact hma
 have gs5:Hs.get (z.next+1)=some (.cells [.map 2] 0 true):=by rw[<-Y,aM,af ac,aM,ai cM]
 have gs6:Hs.get (z.next+2)=some (.cells [.map z.next] 0 true):=by rw[<-Y,aM,ai cM]
 have gsf:Hs.get z.next=some (.map (dz [])):=by rw[<-Y,aM,af ac,aM,af ac,aD,af cB,aD,af bb,aD,ai cM];rfl
 clear Y hma;have hlt2':3<=z.next:=ac
 clear hlt2;have hE0:(0 == z.next)=false:=ak ac;have hE2:(2 == z.next)=false:=ak ac;refine cl [1,2,5,6,23,24] [0,2,z.next+1,z.next+2] 25 p.funcs.length (fun i E H=>∃m,gw (p.funcs.drop i) m=gw p.funcs []/\H.get z.next=some (.map (dz m))) eE ⟨[],aw,gsf⟩ ?_;rintro i E V hi hcE hrH hnH hsI ⟨m,hJ,hm⟩;(try simp only[bC,aZ,aW,aG,aY,Nat.reduceBEq,Nat.reduceAdd, *]at hcE);(try simp only[bC,aZ,aW, *]at hrH);(try simp only[aU,bq,ce,bR,Nat.reduceAdd]at hnH);have hB0:(0 == V.next)=false:=ak ac;have hC0:(V.next == 0)=false:=ak ac;have hB1:(2 == V.next)=false:=ak ac;have hC1:(V.next == 2)=false:=ak ac;have hB2:(z.next+1 == V.next)=false:=ak ac;have hC2:(V.next == z.next+1)=false:=ak ac;have hB3:(z.next+2 == V.next)=false:=ak ac;have hC3:(V.next == z.next+2)=false:=ak ac;obtain⟨h30,h3a,h35,h36⟩:=hrH;repeat' (first
  |(apply aj ?_;clear hK K)|apply aV ?_|(apply bz ?_ ?_<;>(intro hb hbp;try(cases hb;done)))|(apply am fun K hK=>?_)|fail)
 .have j:i<p.funcs.length:=by simpa using hb
  have hgx:p.funcs[i]?=some p.funcs[i]:=bj j;have hgn:(fZ p)[i]?=some p.funcs[i].name:=by rw[fZ,eI,hgx];rfl
  have hu:=Be (P:=prog) (t:=98) underlying98 Rq hm p.funcs[i].name p.funcs[i].params.length;rw[gI j,gw]at hJ;repeat' (first
   |(apply aj ?_;clear hK K)|apply aV ?_|(apply am fun K hK=>?_)|(apply wU 6 fun K hK=>?_)|fail)
  refine⟨ac,a0,a0,ca,oh,?_⟩;exact⟨_,hJ,fO⟩
 .have hie:i=p.funcs.length:=by simp at hb;omega
  rw[hie,iJ,gw]at hJ;subst hJ;clear hie hsI hi hb hbp;refine gW ?_;generalize hHq:Hp.set (Hp.alloc V _) _ _=Hq;have nq:V.next+1<=Hq.next:=by rw[<-hHq];exact ay _
  have oldq:∀k,k<V.next->Hq.get k=V.get k:=fun k hk=>by rw[<-hHq,aM,af ac,aD,af ac]
  have q9:Hq.get V.next=some (.cells [.int .i64 (sg false)] 0 true):=by rw[<-hHq,aM,ai rfl];rfl
  clear hHq;refine cl [5,6,9,41,42] [] 43 p.funcs.length (fun i E H=>∃w,H.get V.next=some (.cells [.int .i64 (sg w)] 0 true)/\xj p=uo (gw p.funcs []) (bF p) (p.funcs.drop i) w/\H.get (z.next+1)=some (.cells [.map 2] 0 true)/\(∃l,H.get 2=some (.map (ii l))/\∀s,bE l s=bE (bF p) s)/\H.get (z.next+2)=some (.cells [.map z.next] 0 true)/\H.get z.next=some (.map (dz (gw p.funcs [])))) eE ⟨false,q9,rfl,aX,⟨la,aX,hla2⟩,aX,aX⟩ ?_;clear hm hla2 la h30 h3a h35 h36 gs0 gsa gs5 gs6 gsf q9 oldq;rintro i E H4 hi hcE hrH hnH hsI ⟨w,g9,hJ,g5,⟨la,ga,hla⟩,g6,gf⟩;(try simp only[bC,aZ,aW,aG,aY,Nat.reduceBEq, *]at hcE);(try simp only[aZ, *]at hrH);(try simp only[aU,bq,ce,bR,Nat.reduceAdd]at hnH);repeat' (first
   |(apply aj ?_;clear hK K)|apply aV ?_|(apply bz ?_ ?_<;>(intro hb hbp;try(cases hb;done)))|(apply am fun K hK=>?_)|fail)
  .have j:i<p.funcs.length:=by simpa using hb
   have hgx:p.funcs[i]?=some p.funcs[i]:=bj j;have hsm:=oc (dm j);have hsz:p.funcs[i].sz=1+p.funcs[i].name.length+cP p.funcs[i].params+cP p.funcs[i].ak+bi p.funcs[i].body+p.funcs[i].value.sz:=rfl;have hpl:=iU p.funcs[i].params;have hll:=iU p.funcs[i].ak;have hdr:uo (gw p.funcs []) (bF p) (p.funcs.drop i) w=if pV (fun x _=>iZ (p.funcs[i].params++p.funcs[i].ak) (bF p) x) p.funcs[i]=true/\(fw (pj (gw p.funcs []) (p.funcs[i].params++p.funcs[i].ak) (bF p)) p.funcs[i].body 0 w).1=true then uo (gw p.funcs []) (bF p) (p.funcs.drop (i+1)) (fw (pj (gw p.funcs []) (p.funcs[i].params++p.funcs[i].ak) (bF p)) p.funcs[i].body 0 w).2 else 3:=by rw[gI j];rfl
   rw[hdr]at hJ;clear hdr;have hfz:p.funcs[i].sz<2^60:=ac;generalize p.funcs[i]=g at *;refine cY fun K hK=>?_;generalize hHb:Hp.alloc (Hp.set _ _ _) _=Hb;have nb:Hb.next=H4.next+2:=by rw[<-hHb];rfl
   have oldb:∀k,k<H4.next->Hb.get k=H4.get k:=fun k hk=>by rw[<-hHb,aD,af iX,aM,af ac,aD,af ac]
   have gbr:Hb.get (H4.next+1)=some (.cells [cH g.params,cH g.ak] 0 true):=by rw[<-hHb,aD,ai cM]
   have gb11:Hb.get H4.next=some (.cells g.cells 0 true):=by rw[<-hHb,aD,af iX,aM,ai rfl]
   clear hHb;refine qc ?_;refine aF ?_ (Rp (x:=[g.params,g.ak]) (imm:=0) (ei (fun _=>rfl) rfl) gbr ac ⟨aw,cb⟩);rintro v O ⟨rfl,⟨lv,hmv,hlv⟩,old5,n5⟩;rw[show([g.params,g.ak]:List qx).flatten=g.params++g.ak by simp]at hlv;have o5:∀k,k<H4.next->O.get k=H4.get k:=fun k hk=>by rw[old5 k ac,oldb k hk]
   have g511:O.get H4.next=some (.cells g.cells 0 true):=by rw[old5 _ ac];exact gb11
   have g59:O.get V.next=some (.cells [.int .i64 (sg w)] 0 true):=by rw[o5 _ ac];exact g9
   have g55:O.get (z.next+1)=some (.cells [.map 2] 0 true):=by rw[o5 _ ac];exact g5
   have g5a:O.get 2=some (.map (ii la)):=by rw[o5 _ ac];exact ga
   have g56:O.get (z.next+2)=some (.cells [.map z.next] 0 true):=by rw[o5 _ ac];exact g6
   have g5f:O.get z.next=some (.map (dz (gw p.funcs []))):=by rw[o5 _ ac];exact gf
   clear o5 old5 gbr gb11 oldb g9 g5 ga g6 gf;have e1:(H4.next == O.next)=false:=ak ac;dsimp only[aC];refine cY fun K hK=>?_;generalize hHd:Hp.set (Hp.alloc O _) _ _=U;have nd:U.next=O.next+1:=by rw[<-hHd];rfl
   have C:∀k,k<O.next->U.get k=O.get k:=fun k hk=>by rw[<-hHd,aM,af ac,aD,af ac]
   have d12:U.get O.next=some (.cells [.map Hb.next] 0 true):=by rw[<-hHd,aM,ai rfl,nb]
   clear hHd;have hok:zif ⟨O.next,Hb.next,z.next+1,2,z.next+2,z.next,V.next⟩ (g.params++g.ak) (bF p) (gw p.funcs []) U:={
    b12:=d12
    bv:=⟨lv,by show U.get Hb.next=_;rw[C _ n5];exact hmv,hlv⟩
    b5:=by show U.get (z.next+1)=_;rw[C _ ac];exact g55
    ba:=⟨la,by show U.get 2=_;rw[C _ ac];exact g5a,hla⟩
    b6:=by show U.get (z.next+2)=_;rw[C _ ac];exact g56
    bf:=by show U.get z.next=_;rw[C _ ac];exact g5f}
   have hd9:U.get V.next=some (.cells [.int .i64 (sg w)] 0 true):=by rw[C _ ac];exact g59
   have hd11:U.get H4.next=some (.cells g.cells 0 true):=by rw[C _ ac];exact g511
   have hlX:∀n,U.next<=n->RsLt ⟨O.next,Hb.next,z.next+1,2,z.next+2,z.next,V.next⟩ n:=fun n hn=>⟨by show O.next<n;omega,by show Hb.next<n;omega,by show z.next+1<n;omega,by show 2<n;omega,by show z.next+2<n;omega,by show z.next<n;omega⟩
   have hnX:RsNe ⟨O.next,Hb.next,z.next+1,2,z.next+2,z.next,V.next⟩:=⟨by show O.next≠V.next;omega,by show Hb.next≠V.next;omega,by show z.next+1≠V.next;omega,by show 2≠V.next;omega,by show z.next+2≠V.next;omega,by show z.next≠V.next;omega⟩;clear g59 g55 g5a g56 g5f d12 C hmv hlv hla g511;refine qc ?_;refine aF ?_ (Rk hps (I:=fun H'=>jd U.next U H') (fun a b h1 h2=>h1.trans h2) (zdl (ei (fun _=>rfl) rfl) (hlX _ (ay _)) (fun a b h1 h2=>h1.trans h2) fun H' h=>hok.cL (hlX _ (ay _)) h) g U hfz (ay _) (rO _ _));rintro v H6 ⟨rfl,hf6,Z⟩;have n6:=hf6.next
   have hok6:=hok.cL (hlX _ (ay _)) Z;have h69:H6.get V.next=some (.cells [.int .i64 (sg w)] 0 true):=by rw[Z _ ac];exact hd9
   have h611:H6.get H4.next=some (.cells g.cells 0 true):=by rw[Z _ ac];exact hd11
   clear Z hf6 hok hd9 hd11;dsimp only[aC];cases hwf:pV (fun x _=>iZ (g.params++g.ak) (bF p) x) g with
   |false=>
    repeat' (first
     |(apply aj ?_;clear hK K)|apply aV ?_|(apply cL ?_ ?_<;>(intro hg hgp;try(cases hg;done)))|(apply bz ?_ ?_<;>(intro hb hbp;try(cases hb;done)))|(apply am fun K hK=>?_)|fail)
    all_goals refine qq ?_
    rw[hJ,hwf];simp
   |true=>
    rw[hwf]at hJ;repeat' (first
     |(apply aj ?_;clear hK K)|apply aV ?_|(apply cL ?_ ?_<;>(intro hg hgp;try(cases hg;done)))|(apply am fun K hK=>?_)|fail)
    refine qc ?_;refine aF ?_ (yN (ei (fun _=>rfl) rfl) (base:=H6.next) (I:=fun(w:Bool) H=>zif ⟨O.next,Hb.next,z.next+1,2,z.next+2,z.next,V.next⟩ (g.params++g.ak) (bF p) (gw p.funcs []) H/\H.get V.next=some (.cells [.int .i64 (sg w)] 0 true)) (fun s a b h1 h2=>⟨h1.1.cL (hlX _ n6) h2,by rw[h2 _ ac];exact h1.2⟩) (zdm (ei (fun _=>rfl) rfl) (hlX _ n6) (by show V.next<_;omega) hnX) (bi g.body+1) g.body ac 0 w H6 ac (ay _) ⟨hok6,h69⟩);rintro v H7 ⟨rfl,hf7,J,h79⟩;have n7:=hf7.next
    dsimp only[aC];refine tz (fun hb hbp=>?_) (fun hb hbp=>?_)
    .all_goals refine qq ?_
     rw[hJ];simp_all
    .refine⟨ac,a0,a0,ca,oh,?_⟩;refine⟨_,h79,?_,J.b5,J.ba,J.b6,J.bf⟩;simp_all
  .refine gW ?_;all_goals refine qq ?_
   have hie:i=p.funcs.length:=uh;rw[hJ,hie,iJ,uo,sg])
end
section
def tyW4e.tyF:=ad @cr (ad @cK (ad @fW (ad @gh (ad @eL (ad @et (ad @dV (ad @dD (ad @jb (ad @jx (@eh))))))))))
open tyW4e
noncomputable def Rt:{c:SC // aE 68 (f72.body.getD .skip)=c}:=by
 refine⟨?_,?_⟩;rotate_left
 .simp only[f72,bN,aE,bH,bw,bM,bJ,Nat.blt,Nat.ble];rfl
theorem zdp(hp:zih cfg)(hw:zd0 cfg 72)(h1w:zd0 cfg 117)(h2w:zd0 cfg 119)(p:Pr)(hz:p.sz<2^60):
 aR prog cfg 72 [.agg p.cells] bt fun v _=>v=.bool (lQ p):=by
 have hpz:p.sz=1+eA p.aa+dO p.funcs:=rfl;have hla:=m1 p.aa;have hlf:=m0 p.funcs;have hla2:p.aa.length<2^60:=ac;have hlf2:p.funcs.length<2^60:=ac;refine bp (M:=68) (rs:=[.tmp 2]) (hw.call _) hw.aG hw.aB func72 rfl rfl Rt.2 rfl ?_;dsimp only[Rt,bm,Nat.reduceAdd];repeat' (first
  |(apply aj ?_;clear hK K)|apply aV ?_|(apply cL ?_ ?_<;>(intro hg hgp;try(cases hg;done)))|(apply bz ?_ ?_<;>(intro hb hbp;try(cases hb;done)))|(apply am fun K hK=>?_)|fail)
 .all_goals refine qq ?_
  simp_all[lQ];try(intros;omega)
 .refine rK (fun i E H=>p.aa.all (fun a=>!decide (a.len<1) && !decide (16<a.len))=(p.aa.drop i).all (fun a=>!decide (a.len<1) && !decide (16<a.len))/\E.at 1=.ptr 0 0/\E.at 21=.az (p.aa.map Ar.cells)/\E.at 22=.int .i64 p.aa.length/\E.at 23=.int .i64 i/\0<H.next/\H.get 0=some (.cells p.cells 0 true)) p.aa.length ?_ ?_
  .rintro i E H hi ⟨hc,h1,h21,h22,h23,hn,hg0⟩;have e0:(0 == H.next)=false:=cb;repeat' (first
    |(apply aj ?_;clear hK K)|apply aV ?_|(apply bz ?_ ?_<;>(intro hb hbp;try(cases hb;done)))|(apply am fun K hK=>?_)|fail)
   .have J:i<p.aa.length:=by simpa using hb
    have hgx:p.aa[i]?=some p.aa[i]:=bj J;have hd:(p.aa.drop i).all (fun a=>!decide (a.len<1) && !decide (16<a.len))=((!decide (p.aa[i].len<1) && !decide (16<p.aa[i].len))&&(p.aa.drop (i+1)).all (fun a=>!decide (a.len<1) && !decide (16<a.len))):=xc;repeat' (first
     |(apply aj ?_;clear hK K)|apply aV ?_|(apply cL ?_ ?_<;>(intro hg hgp;try(cases hg;done)))|(apply bz ?_ ?_<;>(intro hb hbp;try(cases hb;done)))|(apply am fun K hK=>?_)|fail)
    .all_goals refine qq ?_
     have U:p.aa.all (fun a=>!decide (a.len<1) && !decide (16<a.len))=false:=by rw[hc,hd];simp_all
     simp only[lQ,U];simp
    .refine⟨J,?_,eE,eE,eE,?_,iX,AH⟩
     .rw[hc,hd];simp_all
     .simp only[jY,Nat.reduceBEq,iY,gS (show i<2^62 by omega)]
    .all_goals refine qq ?_
     have U:p.aa.all (fun a=>!decide (a.len<1) && !decide (16<a.len))=false:=by rw[hc,hd];simp_all
     simp only[lQ,U];simp
   .have hia:i=p.aa.length:=by simp at hb;omega
    have hca:p.aa.all (fun a=>!decide (a.len<1) && !decide (16<a.len))=true:=by rw[hc,hia];simp
    clear hc;refine gW ?_;refine rK (fun i E H=>p.funcs.all j9=(p.funcs.drop i).all j9/\E.at 37=.az (p.funcs.map Fu.cells)/\E.at 38=.int .i64 p.funcs.length/\E.at 39=.int .i64 i/\0<H.next) p.funcs.length ?_ ?_
    .rintro i E H hi ⟨hc,h37,h38,h39,hn⟩;repeat' (first
      |(apply aj ?_;clear hK K)|apply aV ?_|(apply bz ?_ ?_<;>(intro hb hbp;try(cases hb;done)))|(apply am fun K hK=>?_)|fail)
     .have J:i<p.funcs.length:=by simpa using hb
      have hgx:p.funcs[i]?=some p.funcs[i]:=bj J;have hd:(p.funcs.drop i).all j9=(j9 p.funcs[i]&&(p.funcs.drop (i+1)).all j9):=xc;have hxm:=oc (dm J);generalize hx0:p.funcs[i]=x at *;have hsx:x.sz=1+x.name.length+cP x.params+cP x.ak+bi x.body+x.value.sz:=rfl;repeat' (first
       |(apply aj ?_;clear hK K)|apply aV ?_|(apply cL ?_ ?_<;>(intro hg hgp;try(cases hg;done)))|(apply bz ?_ ?_<;>(intro hb hbp;try(cases hb;done)))|(apply am fun K hK=>?_)|fail)
      .generalize Z:Hp.set _ (H.next+2) _=Y;have hn5:Y.next=H.next+3:=Bt
       have V:Y.get H.next=some (.cells x.cells 0 true):=by rw[<-Z];simp only[get_set,wJ,aU,bq,HQ,iH,Nat.reduceAdd,Fk,iY,ui]
       have m:Y.get (H.next+1)=some (.cells [.int .i64 0] 0 true):=Rl;have j:Y.get (H.next+2)=some (.cells [.int .i64 0] 0 true):=Rl;refine qc ?_;refine aF ?_ (yN hp.ws (base:=H.next+3) (fun s Ha Hb h O=>⟨by rw[O _ ac];exact h.1,by rw[O _ ac];exact h.2.1,fun r q1 q2 q3=>by rw[O r q1];exact h.2.2 r q1 q2 q3⟩) (zdh h1w (base:=H.next+3) (rn:=H.next+1) (rl:=H.next+2) ac ac ac Y) (bi x.body+1) x.body ac 0 (0,0) Y ac ac ⟨m,j,fun _ _ _ _=>rfl⟩);rintro v H6 ⟨rfl,hf6,hi6⟩;have hn6:=hf6.next
       have hg6:H6.get H.next=some (.cells x.cells 0 true):=by rw[hi6.2.2 _ ac ac ac];exact V
       dsimp only[aC];repeat' (first
        |(apply aj ?_;clear hK K)|apply aV ?_|(apply cL ?_ ?_<;>(intro hg hgp;try(cases hg;done)))|(apply bz ?_ ?_<;>(intro hb hbp;try(cases hb;done)))|(apply am fun K hK=>?_)|fail)
       .refine qc ?_;refine aF ?_ (Rk hp (base:=0) (I:=fun _=>True) (fun _ _ _ _=>trivial) (zdi h2w (fun _ _ _ _=>trivial)) x H6 ac ac trivial);rintro v H7 ⟨rfl,hf7,_⟩;have hn7:=hf7.next
        dsimp only[aC];repeat' (first
         |(apply aj ?_;clear hK K)|apply aV ?_|(apply cL ?_ ?_<;>(intro hg hgp;try(cases hg;done)))|(apply bz ?_ ?_<;>(intro hb hbp;try(cases hb;done)))|(apply am fun K hK=>?_)|fail)
        .all_goals refine qq ?_
         have z:p.funcs.all j9=false:=by rw[hc,hd];simp_all[j9]
         simp only[lQ,z];simp
        .refine⟨J,?_,eE,eE,?_,ac⟩
         .rw[hc,hd];simp_all[j9]
         .simp only[jY,Nat.reduceBEq,iY,gS (show i<2^62 by omega)]
       .all_goals refine qq ?_
        have z:p.funcs.all j9=false:=by rw[hc,hd];simp_all[j9]
        simp only[lQ,z];simp
      .all_goals refine qq ?_
       have C:j9 x=false:=by
        simp only[j9,Bu,mU];first|exact .inl (.inl (.inl lZ))|exact .inl (.inl (.inr lZ))
       have z:p.funcs.all j9=false:=by rw[hc,hd,C,mB]
       simp only[lQ,z];simp
      .all_goals refine qq ?_
       have C:j9 x=false:=by
        simp only[j9,Bu,mU];first|exact .inl (.inl (.inl lZ))|exact .inl (.inl (.inr lZ))
       have z:p.funcs.all j9=false:=by rw[hc,hd,C,mB]
       simp only[lQ,z];simp
     .all_goals refine qq ?_
      have:i=p.funcs.length:=uh;simp_all[lQ];try(intros;omega)
    .exact⟨rfl,eE,eE,eE,ac⟩
  .exact⟨rfl,eE,eE,eE,eE,by simp[aU,ce],AH⟩
 .all_goals refine qq ?_
  simp_all[lQ];try(intros;omega)
end
section
def tyW4f.tyF:=ad @cr (ad @oV (@cK))
open tyW4f
noncomputable def Ru:{c:SC // aE 21 (f203.body.getD .skip)=c}:=by
 refine⟨?_,?_⟩;rotate_left
 .simp only[f203,bN,aE,bH,bw,bM,bJ,Nat.blt,Nat.ble];rfl
noncomputable def Rv:{c:SC // aE 9 (f197.body.getD .skip)=c}:=by
 refine⟨?_,?_⟩;rotate_left
 .simp only[f197,bN,aE,bH,bw,bM,bJ,Nat.blt,Nat.ble];rfl
noncomputable def Rw:{c:SC // aE 23 (f195.body.getD .skip)=c}:=by
 refine⟨?_,?_⟩;rotate_left
 .simp only[f195,bN,aE,bH,bw,bM,bJ,Nat.blt,Nat.ble];rfl
noncomputable def Rz:{c:SC // aE 34 (f182.body.getD .skip)=c}:=by
 refine⟨?_,?_⟩;rotate_left
 .simp only[f182,bN,aE,bH,bw,bM,bJ,Nat.blt,Nat.ble];rfl
noncomputable def RA:{c:SC // aE 37 (f198.body.getD .skip)=c}:=by
 refine⟨?_,?_⟩;rotate_left
 .simp only[f198,bN,aE,bH,bw,bM,bJ,Nat.blt,Nat.ble];rfl
def zdq(Z:zd0 cfg 203)(n:Int)(H:Hp):aR prog cfg 203 [.int .u8 n] H fun v H'=>v=.bool (pW n)/\H'=H:=by
 refine bp (M:=21) (rs:=[.tmp 2]) (Z.call _) Z.aG Z.aB func203 rfl rfl Ru.2 rfl ?_;dsimp only[Ru,bm,Nat.reduceAdd];repeat' (first
  |(apply aj ?_;clear hK K)|apply aV ?_|(apply cL ?_ ?_<;>(intro hg hgp;try(cases hg;done)))|(apply am fun K hK=>?_)|fail)
 all_goals refine qq ?_
 all_goals (refine⟨?_,il⟩;simp_all[pW]<;>omega)
def JS(Z:zd0 cfg 197)(n:Int)(H:Hp):aR prog cfg 197 [.int .u8 n] H fun v H'=>v=.bool (od n)/\H'=H:=by
 refine bp (M:=9) (rs:=[.tmp 2]) (Z.call _) Z.aG Z.aB func197 rfl rfl Rv.2 rfl ?_;dsimp only[Rv,bm,Nat.reduceAdd];repeat' (first
  |(apply aj ?_;clear hK K)|apply aV ?_|(apply cL ?_ ?_<;>(intro hg hgp;try(cases hg;done)))|(apply am fun K hK=>?_)|fail)
 all_goals refine qq ?_
 all_goals (refine⟨?_,il⟩;simp_all[od]<;>omega)
def zdr(Y:zd0 cfg 195)(V:zd0 cfg 203)(hd:zd0 cfg 197)(s:qA)(U:s.length<2^60)(H:Hp):
 aR prog cfg 195 [.aj s] H fun v H'=>v=.int .i64 (fI s)/\H'=H:=by
 refine bp (M:=23) (rs:=[.tmp 2]) (Y.call _) Y.aG Y.aB func195 rfl rfl Rw.2 rfl ?_;dsimp only[Rw,bm,Nat.reduceAdd];refine jH ?_;refine rK (fun i E H'=>fI s=i+fI (s.drop i)/\E.at 0=.aj s/\E.at 3=.int .i64 i/\H'=H) s.length ?_ ?_
 .rintro i E H' I ⟨hc,m,z,rfl⟩;repeat' (first
   |(apply aj ?_;clear hK K)|apply aV ?_|(apply cL ?_ ?_<;>(intro hg hgp;try(cases hg;done)))|(apply bz ?_ ?_<;>(intro hb hbp;try(cases hb;done)))|(apply am fun K hK=>?_)|fail)
  .have J:i<s.length:=by omega
   have C:s[i]?=some s[i]:=bj J;have Z:fI (s.drop i)=if lx s[i]then fI (s.drop (i+1))+1 else 0:=by rw[gI J,fI]
   repeat' (first
    |apply Rx.o ?_|(apply cL ?_ ?_<;>(intro hg hgp;try(cases hg;done)))|fail)
   refine qc ?_;refine aF ?_ (zdq V s[i].toNat H');rintro v _ ⟨rfl,rfl⟩;dsimp only[aC];repeat' (first
    |(apply aj ?_;clear hK K)|apply aV ?_|(apply cL ?_ ?_<;>(intro hg hgp;try(cases hg;done)))|(apply bz ?_ ?_<;>(intro hb hbp;try(cases hb;done)))|(apply am fun K hK=>?_)|fail)
   .refine qc ?_;refine aF ?_ (JS hd s[i].toNat _);rintro v _ ⟨rfl,rfl⟩;dsimp only[aC];repeat' (first
     |(apply aj ?_;clear hK K)|apply aV ?_|(apply cL ?_ ?_<;>(intro hg hgp;try(cases hg;done)))|(apply bz ?_ ?_<;>(intro hb hbp;try(cases hb;done)))|(apply am fun K hK=>?_)|fail)
    .have j:lx s[i]=true:=by simp_all[lx]
     refine⟨J,?_,eE,?_,rfl⟩
     .rw[hc,Z,j];simp;omega
     .simp only[jY,Nat.reduceBEq,iY,gS (show i<2^62 by omega)]
    .have j:lx s[i]=false:=by simp_all[lx]
     all_goals refine qq ?_
     exact⟨by rw[hc,Z,j];simp,il⟩
   .have j:lx s[i]=true:=by simp_all[lx]
    refine⟨J,?_,eE,?_,rfl⟩
    .rw[hc,Z,j];simp;omega
    .simp only[jY,Nat.reduceBEq,iY,gS (show i<2^62 by omega)]
  .all_goals refine qq ?_
   have O:i=s.length:=ac;refine⟨?_,il⟩;rw[hc,O];simp[fI]
 .exact⟨aw,eE,eE,rfl⟩
def RB(z:zd0 cfg 182)(s:qA)(hs:s.length<2^60)(H:Hp):
 aR prog cfg 182 [.aj s] H fun v H'=>v=.int .i64 (fX false s)/\H'=H:=by
 refine bp (M:=34) (rs:=[.tmp 2]) (z.call _) z.aG z.aB func182 rfl rfl Rz.2 rfl ?_;dsimp only[Rz,bm,Nat.reduceAdd];refine jH ?_;refine Aq (fun n E H'=>∃i:Nat,n=s.length-i/\i<=s.length/\fX false s=i+fX false (s.drop i)/\E.at 0=.aj s/\E.at 3=.int .i64 i/\H'=H) ?_ (n:=s.length) ?_
 .rintro n E H' ⟨i,rfl,hi,hc,h0,h3,rfl⟩;repeat' (first
   |(apply aj ?_;clear hK K)|apply aV ?_|(apply bz ?_ ?_<;>(intro hb hbp;try(cases hb;done)))|(apply am fun K hK=>?_)|fail)
  .have Y:i<s.length:=by omega
   have hgx:s[i]?=some s[i]:=bj Y;have J:fX false (s.drop i)=if kQ s[i]then fX false (s.drop (i+1))+1 else if s[i].toNat=35 then fX true (s.drop (i+1))+1 else 0:=by rw[gI Y,fX]
   repeat' (first
    |(apply aj ?_;clear hK K)|apply aV ?_|(apply bz ?_ ?_<;>(intro hb hbp;try(cases hb;done)))|(apply am fun K hK=>?_)|fail)
   .have O:kQ s[i]=true:=by unfold kQ;simp;omega
    refine⟨s.length-(i+1),ac,i+1,rfl,ac,?_,eE,?_,rfl⟩
    .rw[hc,J,ai O];omega
    .simp only[jY,Nat.reduceBEq,iY,gS (show i<2^62 by omega)]
   .have O:kQ s[i]=true:=by unfold kQ;simp;omega
    refine⟨s.length-(i+1),ac,i+1,rfl,ac,?_,eE,?_,rfl⟩
    .rw[hc,J,ai O];omega
    .simp only[jY,Nat.reduceBEq,iY,gS (show i<2^62 by omega)]
   .have O:kQ s[i]=true:=by unfold kQ;simp;omega
    refine⟨s.length-(i+1),ac,i+1,rfl,ac,?_,eE,?_,rfl⟩
    .rw[hc,J,ai O];omega
    .simp only[jY,Nat.reduceBEq,iY,gS (show i<2^62 by omega)]
   .have O:kQ s[i]=true:=by unfold kQ;simp;omega
    refine⟨s.length-(i+1),ac,i+1,rfl,ac,?_,eE,?_,rfl⟩
    .rw[hc,J,ai O];omega
    .simp only[jY,Nat.reduceBEq,iY,gS (show i<2^62 by omega)]
   .have V:s[i].toNat=35:=by omega
    have O:kQ s[i]=false:=by unfold kQ;simp;omega
    have hln:kg (s.drop i)=kg (s.drop (i+1))+1:=by rw[gI Y,kg,af ac]
    have U:fX false s=i+kg (s.drop i)+fX false (s.drop (i+kg (s.drop i))):=by
     rw[hc,J,O,af aw,ai V,Nu,CI,hln,show i+1+kg (s.drop (i+1))=i+(kg (s.drop (i+1))+1) by omega];omega
    have hle:=Nt (s.drop i);rw[nQ]at hle;refine Aq (fun n E m=>∃j:Nat,n=s.length-j/\i<=j/\j<=s.length/\i+kg (s.drop i)=j+kg (s.drop j)/\E.at 0=.aj s/\E.at 3=.int .i64 j/\m=H') ?_ (n:=s.length-i) ?_
    .rintro n E2 H2 ⟨j,rfl,hij,hj,I,k0,k3,rfl⟩;repeat' (first
      |(apply aj ?_;clear hK K)|apply aV ?_|(apply cL ?_ ?_<;>(intro hg hgp;try(cases hg;done)))|(apply bz ?_ ?_<;>(intro hb hbp;try(cases hb;done)))|(apply am fun K hK=>?_)|fail)
     .have Z:j<s.length:=by omega
      have hgx2:s[j]?=some s[j]:=bj Z;have C:kg (s.drop j)=if s[j].toNat=10 then 0 else kg (s.drop (j+1))+1:=by rw[gI Z,kg]
      repeat' (first
       |(apply aj ?_;clear hK K)|apply aV ?_|(apply cL ?_ ?_<;>(intro hg hgp;try(cases hg;done)))|(apply bz ?_ ?_<;>(intro hb hbp;try(cases hb;done)))|(apply am fun K hK=>?_)|fail)
      .refine⟨s.length-(j+1),ac,j+1,rfl,ac,ac,?_,eE,?_,rfl⟩
       .rw[I,C,af (by simp_all;omega)];omega
       .simp only[jY,Nat.reduceBEq,iY,gS (show j<2^62 by omega)]
      .have h10:s[j].toNat=10:=by simp_all;omega
       rw[C,ai h10,tL]at I;refine⟨s.length-j,ac,j,rfl,ac,?_,eE,eE,il⟩;rw[U,I]
     .have hje:j=s.length:=by omega
      have h0j:kg (s.drop j)=0:=by rw[hje];simp[kg]
      rw[h0j,tL]at I;refine⟨s.length-j,ac,j,rfl,ac,?_,eE,eE,il⟩;rw[U,I]
    .exact⟨i,rfl,ac,ac,rfl,eE,eE,rfl⟩
   .have O:kQ s[i]=false:=by unfold kQ;simp;omega
    all_goals refine qq ?_
    refine⟨?_,il⟩;rw[hc,J,O,af aw,af ac];simp
  .all_goals refine qq ?_
   have hie:i=s.length:=ac;refine⟨?_,il⟩;rw[hc,hie];simp[fX]
 .exact⟨0,aw,ac,aw,eE,eE,rfl⟩
end
section
def tyW4g.tyF:=ad @cr (ad @cK (ad @vd (ad @Ih (ad @Ij (ad @DH (ad @oV (ad @zaM (ad @XU (ad @HT (@underlying9))))))))))
open tyW4g
noncomputable def RC:{c:SC // aE 35 (f196.body.getD .skip)=c}:=by
 refine⟨?_,?_⟩;rotate_left
 .simp only[f196,bN,aE,bH,bw,bM,bJ,Nat.blt,Nat.ble];rfl
noncomputable def RD:{c:SC // aE 41 (f183.body.getD .skip)=c}:=by
 refine⟨?_,?_⟩;rotate_left
 .simp only[f183,bN,aE,bH,bw,bM,bJ,Nat.blt,Nat.ble];rfl
noncomputable def RE:{c:SC // aE 49 (f156.body.getD .skip)=c}:=by
 refine⟨?_,?_⟩;rotate_left
 .simp only[f156,bN,aE,bH,bw,bM,bJ,Nat.blt,Nat.ble];rfl
def zds(Z:zd0 cfg 198)(hd:zd0 cfg 197)(s:qA)(m:s≠[])(U:s.length<2^60)(H:Hp):
 aR prog cfg 198 [.aj s] H fun v H'=>(∃b,v=.bool b)/\H'=H:=by
 have I:0<s.length:=vo.2 m;have Y:s[0]?=some s[0]:=bj I;refine bp (M:=37) (rs:=[.tmp 2]) (Z.call _) Z.aG Z.aB func198 rfl rfl RA.2 rfl ?_;dsimp only[RA,bm,Nat.reduceAdd];refine jH ?_;refine rK (fun i E H'=>E.at 0=.aj s/\E.at 3=.int .i64 i/\H'=H) s.length ?_ ?_
 .rintro i E H' V ⟨k0,O,rfl⟩;repeat' (first
   |(apply aj ?_;clear hK K)|apply aV ?_|(apply bz ?_ ?_<;>(intro hb hbp;try(cases hb;done)))|(apply am fun K hK=>?_)|fail)
  .have J:i<s.length:=by omega
   have C:s[i]?=some s[i]:=bj J;refine jG ?_;refine qc ?_;refine aF ?_ (JS hd s[i].toNat H');rintro v _ ⟨rfl,rfl⟩;dsimp only[aC];refine xH (fun hb hbp=>?_) (fun hb hbp=>?_)
   .all_goals refine qq ?_
    exact⟨⟨_,rfl⟩,il⟩
   .refine⟨J,eE,?_,il⟩;simp only[jY,Nat.reduceBEq,iY,gS (show i<2^62 by omega)]
  .repeat' (first
    |(apply aj ?_;clear hK K)|apply bQ ?_|(apply jy ?_ ?_<;>(intro hg hgp;try(cases hg;done)))|fail)
   all_goals refine qq ?_
   all_goals exact⟨⟨_,rfl⟩,il⟩
 .exact⟨eE,eE,rfl⟩
def zdt:qx:=[[62,62,62],[60,60],[62,62],[60,61],[62,61],[61,61],[33,61]]
def zdu(Y:zd0 cfg 196)(hplan:∀id,cfg.ca 196 id=.text)(s:qA)(C:s≠[])(hs:s.length<2^60)(H:Hp):
 aR prog cfg 196 [.aj s] H fun v H'=>(∃n:Nat,v=.int .i64 n/\n<=s.length)/\H'=H:=by
 have I:0<s.length:=vo.2 C;have hg0:s[0]?=some s[0]:=bj I;have O:dd prog 227 [(0,.aj [62,62,62]),(1,.aj [60,60]),(2,.aj [62,62]),(3,.aj [60,61]),(4,.aj [62,61]),(5,.aj [61,61]),(6,.aj [33,61])]=some (.agg [.aj [62,62,62],.aj [60,60],.aj [62,62],.aj [60,61],.aj [62,61],.aj [61,61],.aj [33,61]]):=ax;refine bp (M:=35) (rs:=[.tmp 2]) (Y.call _) Y.aG Y.aB func196 rfl rfl RC.2 rfl ?_;dsimp only[RC,bm,Nat.reduceAdd];refine jH ?_;refine rK (fun i E H'=>E.at 0=.aj s/\E.at 6=.agg [.aj [62,62,62],.aj [60,60],.aj [62,62],.aj [60,61],.aj [62,61],.aj [61,61],.aj [33,61]]/\E.at 7=.int .i64 i/\H'=H) 7 ?_ ?_
 .rintro i E H' hi ⟨k0,k6,k7,rfl⟩;repeat' (first
   |(apply aj ?_;clear hK K)|apply aV ?_|(apply bz ?_ ?_<;>(intro hb hbp;try(cases hb;done)))|(apply am fun K hK=>?_)|fail)
  .have J:i<7:=by omega
   have V:∃w:qA,rC prog 227 (.agg [.aj [62,62,62],.aj [60,60],.aj [62,62],.aj [60,61],.aj [62,61],.aj [61,61],.aj [33,61]]) (.int .i64 i)=some (.aj w):=by
    refine⟨zdt.getD i [],?_⟩;rcases(show i=0\/i=1\/i=2\/i=3\/i=4\/i=5\/i=6 by omega)with rfl|rfl|rfl|rfl|rfl|rfl|rfl<;>kernel_rfl
   obtain⟨w,z⟩:=V;repeat' (first
    |(apply aj ?_;clear hK K)|apply aV ?_|(apply cL ?_ ?_<;>(intro hg hgp;try(cases hg;done)))|(apply bz ?_ ?_<;>(intro hb hbp;try(cases hb;done)))|(apply am fun K hK=>?_)|fail)
   .have U:w.length<=s.length:=by omega
    repeat' (first
     |(apply aj ?_;clear hK K)|apply aV ?_|(apply cL ?_ ?_<;>(intro hg hgp;try(cases hg;done)))|(apply bz ?_ ?_<;>(intro hb hbp;try(cases hb;done)))|(apply am fun K hK=>?_)|fail)
    .all_goals refine qq ?_
     exact⟨⟨w.length,rfl,U⟩,il⟩
    .refine⟨J,eE,eE,?_,il⟩;simp only[jY,Nat.reduceBEq,iY,gS (show i<2^62 by omega)]
   .refine⟨J,eE,eE,?_,il⟩;simp only[jY,Nat.reduceBEq,iY,gS (show i<2^62 by omega)]
  .refine jG ?_;refine rK (fun i E m=>E.at 0=.aj s/\E.at 5=.int .i64 i/\m=H') 23 ?_ ?_
   .rintro j E m hj ⟨k0,k5,rfl⟩;repeat' (first
     |(apply aj ?_;clear hK K)|apply aV ?_|(apply bz ?_ ?_<;>(intro hb hbp;try(cases hb;done)))|(apply am fun K hK=>?_)|(apply wU 10 fun K hK=>?_)|fail)
    .have J:j<23:=by omega
     have Z:∃b,([43,45,42,47,37,38,124,94,126,33,60,62,61,63,58,59,44,40,41,123,125,91,93]:qA)[j]?=some b:=by
      rw[bj CF];exact⟨_,rfl⟩
     obtain⟨b,Z⟩:=Z;refine K3 (fun hb hbp=>?_) (fun hb hbp=>?_)
     .all_goals refine qq ?_
      exact⟨⟨1,rfl,I⟩,il⟩
     .refine⟨J,eE,?_,il⟩;simp only[jY,Nat.reduceBEq,iY,gS (show j<2^62 by omega)]
    .all_goals refine qq ?_
     exact⟨⟨0,rfl,cZ _⟩,il⟩
   .exact⟨eE,eE,rfl⟩
 .exact⟨eE,eE,eE,rfl⟩
end
section
def tyW4h.tyF:=ad @cr (ad @cK (ad @DH (ad @HT (@underlying9))))
open tyW4h
structure zf0 (cfg:Cfg):Prop where
 let_:zd0 cfg 203
 dig:zd0 cfg 197
 f4:zd0 cfg 195
 fK:zd0 cfg 182
 num:zd0 cfg 198
 ec:zd0 cfg 196
 e9:zd0 cfg 183
 scan:zd0 cfg 156
 ca:∀id,cfg.ca 196 id=.text
 keep:cfg.keep 156=false
def Ft(a:Int)(x:qA):dd prog 188 [(0,.int .i64 a),(1,.aj x)]=some (.agg [.int .i64 a,.aj x,.int .i64 0]):=ax
def Fv:dd prog 188 []=some (.agg [.int .i64 0,.aj [],.int .i64 0]):=ax
theorem yP(a b c:AV):cq 3 [a,b,c]=some (.agg [a,b,c]):=rfl
def xr(H:Hp)(a b:HB):FrB 0 H ((H.alloc a).set H.next b):=((jA _ _).alloc _).set (.inl (ay _)) _
def zdv(C:zf0 cfg)(s:qA)(j:s≠[])(hs:s.length<2^60)(H:Hp):
 aR prog cfg 183 [.aj s] H fun v H'=>(∃k e,v=.a6 [.agg k.cells,.int .i64 e]/\Nv s k e)/\FrB 0 H H':=by
 have V:=C.e9
 have Z:0<s.length:=vo.2 j;have I:s[0]?=some s[0]:=bj Z;have J:=Nr s;refine bp (M:=41) (rs:=[.cell 2 188,.tmp 3]) (V.call _) V.aG V.aB func183 rfl rfl RD.2 rfl ?_;dsimp only[RD,bm,Nat.reduceAdd];refine cY fun K hK=>?_;refine qc ?_;refine aF ?_ (zdr C.f4 C.let_ C.dig s hs _);rintro v _ ⟨rfl,rfl⟩;dsimp only[aC];have O:=@Ft;have z:=@Fv;repeat' (first
  |(apply aj ?_;clear hK K)|apply bQ ?_|(apply bu ?_ ?_<;>(intro hb hbp;try(cases hb;done)))|(apply am fun K hK=>?_)|fail)
 .refine qc ?_;refine aF ?_ (zdu C.ec C.ca s j hs _);rintro v _ ⟨⟨n,rfl,hn⟩,rfl⟩;dsimp only[aC];have O:=@Ft;have z:=@Fv;refine K1 (fun hb hbp=>?_) (fun hb hbp=>?_)
  .refine⟨aB,_,(by(try simp only[aG,aY,Nat.reduceBEq,tyF,cF,cR,yP, *]);first|done|with_reducible rfl),?_⟩;try simp only[aA]
   exact⟨⟨⟨0,[],0⟩,2,rfl,rfl,aw,fun m=>ac⟩,xr _ _ _⟩
  .refine⟨aB,_,(by(try simp only[aG,aY,Nat.reduceBEq,tyF,cF,cR,yP, *]);first|done|with_reducible rfl),?_⟩;try simp only[aA]
   refine⟨⟨⟨3,s.take n,0⟩,0,rfl,rfl,fun _=>⟨n,ac,hn,rfl,aw⟩,fun m=>ac⟩,xr _ _ _⟩
 .refine qc ?_;refine aF ?_ (JS C.dig s[0].toNat _);rintro v _ ⟨rfl,rfl⟩;dsimp only[aC];have hsl:=HT (P:=prog) (k:=.i64) (s:=s) underlying9 J;have O:=@Ft;have z:=@Fv;repeat' (first
   |(apply aj ?_;clear hK K)|apply aV ?_|(apply bz ?_ ?_<;>(intro hb hbp;try(cases hb;done)))|(apply am fun K hK=>?_)|fail)
  .have U:s.take (fI s)≠[]:=by
    intro h;have:=lN List.length h;rw[oL,xZ J,fq]at this;omega
   refine qc ?_;refine aF ?_ (zds C.num C.dig (s.take (fI s)) U (by rw[oL];omega) _);rintro v _ ⟨⟨ok,rfl⟩,rfl⟩;dsimp only[aC];have O:=@Ft;have z:=@Fv;refine K1 (fun hb hbp=>?_) (fun hb hbp=>?_)
   .refine⟨aB,_,(by(try simp only[aG,aY,Nat.reduceBEq,tyF,cF,cR,yP, *]);first|done|with_reducible rfl),?_⟩;try simp only[aA]
    refine⟨⟨⟨0,[],0⟩,2,rfl,rfl,aw,fun m h2 Y=>?_⟩,xr _ _ _⟩;have:=Y _ I;simp_all
   .refine⟨aB,_,(by(try simp only[aG,aY,Nat.reduceBEq,tyF,cF,cR,yP, *]);first|done|with_reducible rfl),?_⟩;try simp only[aA]
    refine⟨⟨⟨2,s.take (fI s),0⟩,0,rfl,rfl,fun _=>⟨fI s,ac,J,rfl,aw⟩,fun m h2 Y=>?_⟩,xr _ _ _⟩;have:=Y _ I;simp_all
  .refine⟨aB,_,(by(try simp only[aG,aY,Nat.reduceBEq,tyF,cF,cR,yP, *]);first|done|with_reducible rfl),?_⟩;try simp only[aA]
   exact⟨⟨⟨0,[],0⟩,6,rfl,rfl,aw,fun m h2=>ac⟩,xr _ _ _⟩
  .refine⟨aB,_,(by(try simp only[aG,aY,Nat.reduceBEq,tyF,cF,cR,yP, *]);first|done|with_reducible rfl),?_⟩;try simp only[aA]
   refine⟨⟨⟨1,s.take (fI s),0⟩,0,rfl,rfl,fun _=>⟨fI s,ac,J,rfl,fun _=>⟨rfl,ac,fun b hb=>?_⟩⟩,fun _ _ _=>⟨rfl,rfl⟩⟩,xr _ _ _⟩;rw[I]at hb;simp only[aQ]at hb;subst hb;assumption
end
section
def tyW4i.tyF:=ad @cr (ad @cK (ad @vd (ad @Ih (ad @Ij (@DH)))))
open tyW4i
def RF(a b:Int):dd prog 111 [(0,.int .i64 a),(1,.int .i64 b)]=some (.agg [.int .i64 a,.int .i64 b]):=ax
def RG:dd prog 111 []=some (.agg [.int .i64 0,.int .i64 0]):=ax
theorem JT(a b:AV):cq 2 [a,b]=some (.agg [a,b]):=rfl
theorem zdw(k:Tk)(x:Int):List.take 2 k.cells++[.int .i64 x]++List.drop 3 k.cells=(Tk.mk k.am k.text x).cells:=rfl
def zdx(H:Hp)(k:Tk):de prog H 142 1 [(0,.agg k.cells)]=some (.sl H.next 0 1 3,H.alloc (.cells k.cells 0 true)):=ax
theorem zdy{bt:Hp}{M:AV}{J:List Tk}(Z:yk bt.next H M J)(hf:FrB 0 bt H)(I:bt.next<H.next)(k:Tk){U:Nat}(hg:H.get U=some (.cells k.cells 0 true))(hb:J.length<2^40):
 ∃Y,cD prog false H 142 142 M (.sl U 0 1 3)=some (.sl H.next 0 (J.length+1) 3,Y)/\Y.next=H.next+1/\yk bt.next Y (.sl H.next 0 (J.length+1) 3) (J++[k])/\FrB 0 bt Y/\∀j,j<H.next->M≠.sl j 0 J.length 3->Y.get j=H.get j:=by
 have V:fk H 3 (.sl U 0 1 3)=some (0+1,k.cells):=by
  have:=tR (H:=H) (r:=U) (o:=0) (n:=1) (z:=3) (s:=3) hg (by rw[hY,oL,Tk.a9];rfl);rw[this,hY,gQ (by rw[Tk.a9];omega)]
 have O:ee=70368744177664:=rfl;rcases Z with⟨rfl,rfl⟩|⟨r,rfl,q2,q3,q4,q5⟩
 .refine⟨H.alloc (.cells k.cells 0 true),?_,rfl,.inr ⟨H.next,aw,?_,I,bT _,aw⟩,hf.alloc _,fun j hj _=>?_⟩
  .exact append_nil underlying142 DG Il Im ax V k.one rfl (by rw[O];omega) (by rw[O];omega)
  .rw[aD,ai rfl];simp
  .rw[aD,af ac]
 .refine⟨(H.a0 r).alloc (.cells (J.flatMap Tk.cells++k.cells) 0 true),?_,rfl,.inr ⟨H.next,aw,?_,I,bT _,aw⟩,(hf.a0 ac).alloc _,fun j hj C=>?_⟩
  .exact XV underlying142 DG Il Im ax V k.one rfl q2 (Nw J) (by rw[O];omega) (by rw[O];omega)
  .show((H.a0 r).alloc _).get (H.a0 r).next=_
   rw[aD,ai rfl];simp
  .have m:¬j=r:=fun e=>C oO;rw[aD,af nh,iy,af m]
def zdz(s:qA)(H:Hp)(v:AV)(H':Hp):Prop:=
 ∃(I C:Int) (lv:AV),v=.a6 [lv,.agg [.int .i64 I,.int .i64 C]]/\FrB 0 H H'/\((I≠0/\¬vk s)\/(I=0/\∃ts,yk H.next H' lv ts/\DT s ts/\(vk s->ts=[⟨1,s,0⟩])))
abbrev qr:HB:=.cells [.int .i64 0,.int .i64 0] 0 true
theorem zdA(hx:zf0 cfg)(s:qA)(hs:s.length<2^60)(H:Hp):aR prog cfg 156 [.aj s] H (zdz s H):=by
 have hw:=hx.scan;refine bp (M:=49) (rs:=[.tmp 2,.cell 3 111]) (hw.call _) hw.aG hw.aB func156 rfl rfl RE.2 rfl ?_;dsimp only[RE,bm,Nat.reduceAdd];have gh0:=@RF;have gh1:=@RG;repeat' (first
  |(apply aj ?_;clear hK K)|apply aV ?_|(apply bz ?_ ?_<;>(intro hb hbp;try(cases hb;done)))|(apply am fun K hK=>?_)|fail)
 .refine⟨aB,_,(by(try simp only[aG,aY,Nat.reduceBEq,tyF,cF,cR,JT, *]);first|done|with_reducible rfl),?_⟩;try simp only[aA]
  refine⟨6,20000,.ag,rfl,xr _ _ _,.inl ⟨aw,fun h=>?_⟩⟩;have:=h.2.2.1;omega
 .refine qc ?_;refine aF ?_ (RB hx.fK s hs _);rintro v _ ⟨rfl,rfl⟩;dsimp only[aC];refine dJ ?_;have hsp:=yj false s;refine Aq (fun n E z=>∃(C:Nat) (ts:List Tk) (lv:AV),n=s.length-C/\C<=s.length/\E.at 0=.aj s/\E.at 3=.ptr H.next 0/\E.at 4=lv/\E.at 5=.int .i64 C/\FrB 0 H z/\H.next<z.next /\
   z.get H.next=some qr/\yk H.next z lv ts/\ts.length<=C/\DT s ts/\(ts=[]->C=fX false s)/\(vk s->(ts=[]/\C=0)\/(ts=[⟨1,s,0⟩]/\C=s.length))) ?_ (n:=s.length-fX false s) ?_
  .rintro n E z ⟨C,ts,lv,rfl,ha,h0,h3,h4,h5,I,hn2,hg2,U,htl,Y,hfirst,j⟩;have e1:(H.next == z.next)=false:=cb;repeat' (first
    |(apply aj ?_;clear hK K)|apply aV ?_|(apply bz ?_ ?_<;>(intro hb hbp;try(cases hb;done)))|(apply am fun K hK=>?_)|fail)
   .have hlt:C<s.length:=by omega
    have hslo:=ME (P:=prog) (k:=.i64) (s:=s) (m:=C) underlying9 ha;refine dJ ?_;have hne:s.drop C≠[]:=by
     intro h;have:=lN List.length h
     grind
    refine qc ?_;refine aF ?_ (zdv hx (s.drop C) hne aX z);rintro v J ⟨⟨k,e,rfl,hk⟩,O⟩;have hn3:=O.next
    have hg3:J.get H.next=some qr:=by rw[O.get _ (cZ _) hn2];exact hg2
    have Z:yk H.next J lv ts:=by
     rcases U with h|⟨r,q1,q2,q3,q4,q5⟩
     .exact .inl h
     .exact .inr ⟨r,q1,by rw[O.get _ (cZ _) q4];exact q2,q3,ac,q5⟩
    have e2:(H.next == J.next)=false:=cb;dsimp only[aC];have hx1:Ab.extract (.a6 [.agg k.cells,.int .i64 e]) 0=some (.agg k.cells):=rfl;have hx2:Ab.extract (.a6 [.agg k.cells,.int .i64 e]) 1=some (.int .i64 e):=rfl;have gh0:=@RF;repeat' (first
     |(apply aj ?_;clear hK K)|apply aV ?_|(apply bz ?_ ?_<;>(intro hb hbp;try(cases hb;done)))|(apply am fun K hK=>?_)|fail)
    .have he:e≠0:=by simpa using hb
     refine⟨aB,_,(by(try simp only[aG,aY,Nat.reduceBEq,tyF,cF,cR,JT, *]);first|done|with_reducible rfl),?_⟩;try simp only[aA]
     refine⟨e,C,.ag,rfl,?_,.inl ⟨he,fun h=>?_⟩⟩
     .exact((((I.trans O).alloc _).set (.inl ac) _).set (.inl (ay _)) _)
     .rcases j h with⟨_,q⟩|⟨_,q⟩
      .subst q;exact he (hk.2.2 h.1 (by have:=h.2.1;have:=h.2.2.1;grind) h.2.2.2).1
      .omega
    .have he:e=0:=by simpa using hb
     have gh0:=@zdw;have gh1:=@zdx;refine dJ ?_;generalize hk':Tk.mk k.am k.text (C:Int)=k';generalize V:Hp.alloc _ (HB.cells (Tk.cells k') 0 true)=H5;have hn5:H5.next=J.next+2:=by rw[<-V];rfl
     have hg5:H5.get (J.next+1)=some (.cells k'.cells 0 true):=by rw[<-V];simp only[get_set,wJ,aU,bq,HR,Fk,iY,ui]
     have hg5a:H5.get J.next=some (.cells k'.cells 0 true):=by rw[<-V];simp only[get_set,wJ,aU,bq,HQ,Fk,iY,ui]
     have hf5:FrB 0 J H5:=by rw[<-V];exact(((jA _ _).alloc _).set (.inl (ay _)) _).set (.inl (ay _)) _ |>.alloc _
     have hF5:FrB 0 H H5:=(I.trans O).trans hf5;have hrep5:yk H.next H5 lv ts:=by
      rcases Z with h|⟨r,q1,q2,q3,q4,q5⟩
      .exact .inl h
      .exact .inr ⟨r,q1,by rw[hf5.get _ (cZ _) q4];exact q2,q3,ac,q5⟩
     obtain⟨H6,p1,p2,p3,p4,p5⟩:=zdy hrep5 hF5 ac k' hg5 ac;have hkeep:=hx.keep;have hg6:H6.get H.next=some qr:=by
      rw[p5 _ ac (fun e=>by rcases Z with⟨_,q⟩|⟨r,q1,_,q3,_⟩<;>simp_all),hf5.get _ (cZ _) ac];exact hg3
     have hg6a:H6.get J.next=some (.cells k'.cells 0 true):=by
      rw[p5 _ ac (fun e=>by rcases Z with⟨_,q⟩|⟨r,q1,_,q3,q4,_⟩<;>simp_all)];exact hg5a
     obtain⟨n,hn1,hn2',hkt,hkk⟩:=hk.2.1 he;rw[nQ]at hn2';have hktl:k'.text.length=n:=aX;have hwr:IntKind.wrap .i64 ((C:Int)+(n:Int))=((C+n:Nat):Int):=DX;have hslo2:=ME (P:=prog) (k:=.i64) (s:=s) (m:=C+n) underlying9 ac;refine kO dY dY (by rw[hkeep];exact p1) ?_;refine cY fun K hK=>?_;refine qc ?_;refine aF ?_ (RB hx.fK (s.drop (C+n)) aX _);rintro v _ ⟨rfl,rfl⟩;dsimp only[aC];have hsp2:=yj false (s.drop (C+n));rw[nQ]at hsp2;have hwr2:IntKind.wrap .i64 (((C+n:Nat):Int)+(fX false (s.drop (C+n)):Int))=((C+n+fX false (s.drop (C+n)):Nat):Int):=DX;refine dJ ?_;refine⟨s.length-(C+n+fX false (s.drop (C+n))),ac,C+n+fX false (s.drop (C+n)),ts++[k'],.sl H5.next 0 (ts.length+1) 3,rfl,ac,eE,eE,eE,(by first|(simp only[aG,Nat.reduceBEq,iH, *];done)|rfl),p4,ac,hg6,p3,cb,fun t rest hr=>?_,aw,fun h=>.inr ?_⟩
     .cases ts with
      |nil=>
       grind
      |cons t0 ts=>
       simp only[lw,eJ]at hr;obtain⟨rfl,_⟩:=hr;exact Y _ _ rfl
     .rcases j h with⟨rfl,q⟩|⟨_,q⟩
      .subst q;have hk2:=(hk.2.2 h.1 (by have:=h.2.1;have:=h.2.2.1;simp only[hY];omega) h.2.2.2).2;simp only[hY]at hk2 hkt;have hwn:fI s=s.length:=h.2.1
       grind
      .omega
   .have hat:C=s.length:=by omega
    have gh0:=@RG;refine dJ ?_;refine⟨aB,_,(by(try simp only[aG,aY,Nat.reduceBEq,tyF,cF,cR,JT, *]);first|done|with_reducible rfl),?_⟩;try simp only[aA]
    refine⟨0,0,lv,rfl,I.set (.inl (ay _)) _,.inr ⟨rfl,ts,?_,Y,fun h=>?_⟩⟩
    .rcases U with h|⟨r,q1,q2,q3,q4,q5⟩
     .exact .inl h
     .exact .inr ⟨r,q1,by rw[aM,af ac];exact q2,q3,q4,q5⟩
    .rcases j h with⟨_,q⟩|⟨q,_⟩
     .have:=h.1;have:=h.2.1;omega
     .exact q
  .refine⟨fX false s,[],.ag,rfl,hsp,eE,eE,eE,eE,(jA _ _).alloc _,bb,AH,.inl ⟨rfl,rfl⟩,aw,by simp[DT],fun _=>rfl,fun h=>.inl ⟨rfl,zaV h⟩⟩
end
section
def tyW4j.tyF:=ad @cr (ad @cK (ad @vd (ad @Ih (ad @Ij (ad @DH (ad @et (ad @List.flatMap_cons.{0,0} (ad @List.flatMap_nil.{0,0} (@yO)))))))))
open tyW4j
noncomputable def RH:{c:SC // aE 44 (f120.body.getD .skip)=c}:=by
 refine⟨?_,?_⟩;rotate_left
 .simp only[f120,bN,aE,bH,bw,bM,bJ,Nat.blt,Nat.ble];rfl
noncomputable def RI:{c:SC // aE 15 (f121.body.getD .skip)=c}:=by
 refine⟨?_,?_⟩;rotate_left
 .simp only[f121,bN,aE,bH,bw,bM,bJ,Nat.blt,Nat.ble];rfl
theorem JU(hx:zf0 cfg)(j:zd0 cfg 120)(s:qA)(hs:s.length<2^60)(H:Hp):
 aR prog cfg 120 [.aj s] H fun v H'=>v=.bool (db s)/\FrB 0 H H':=by
 refine bp (M:=44) (rs:=[.tmp 2]) (j.call _) j.aG j.aB func120 rfl rfl RH.2 rfl ?_;dsimp only[RH,bm,Nat.reduceAdd];refine cY fun K hK=>?_;refine qc ?_;refine aF ?_ (zdA hx s hs H);rintro v H2 ⟨I,C,lv,rfl,J,V⟩;have hx1:Ab.extract (.a6 [lv,.agg [.int .i64 I,.int .i64 C]]) 0=some lv:=rfl;have hx2:Ab.extract (.a6 [lv,.agg [.int .i64 I,.int .i64 C]]) 1=some (.agg [.int .i64 I,.int .i64 C]):=rfl;dsimp only[aC];have Y:FrB 0 H ((H2.alloc qr).set H2.next (.cells [.int .i64 I,.int .i64 C] 0 true)):=(J.alloc _).set (.inl J.next) _;rcases V with⟨h1,h2⟩|⟨rfl,ts,z,Z,U⟩
 .have O:lR s=false:=by
   cases hb:lR s with
   |false=>rfl
   |true=>exact(h2 ((DU s).1 hb)).elim
  repeat' (first
   |(apply aj ?_;clear hK K)|apply aV ?_|(apply cL ?_ ?_<;>(intro hg hgp;try(cases hg;done)))|(apply bz ?_ ?_<;>(intro hb hbp;try(cases hb;done)))|(apply am fun K hK=>?_)|fail)
  all_goals refine qq ?_
  exact⟨JR,Y⟩
 .rcases z with⟨rfl,rfl⟩|⟨r,rfl,q2,q3,q4,q5⟩
  .have O:lR s=false:=by
    cases hb:lR s with
    |false=>rfl
    |true=>have:=U ((DU s).1 hb);simp at this
   repeat' (first
    |(apply aj ?_;clear hK K)|apply aV ?_|(apply cL ?_ ?_<;>(intro hg hgp;try(cases hg;done)))|(apply bz ?_ ?_<;>(intro hb hbp;try(cases hb;done)))|(apply am fun K hK=>?_)|fail)
   all_goals refine qq ?_
   exact⟨JR,Y⟩
  .have e1:(r == H2.next)=false:=by simp;omega
   by_cases hl:ts.length=1
   .obtain⟨k,rfl⟩:=List.length_eq_one_iff.1 hl;simp only[yg,List.flatMap_nil,aS]at q2;simp only[l8,bR]at hx1 hx2⊢;have m:vk s↔(k.am=1/\k.text=s):=⟨fun h=>by have:=U h;simp only[eJ,aW]at this;rw[this];exact⟨rfl,rfl⟩,fun h=>zaW Z h.1 h.2⟩;have O:lR s=(decide (k.am=1)&&decide (k.text=s)):=by
     rw[Bool.eq_iff_iff,DU,m];simp
    clear m U Z;have hidx:el prog 142 (.sl r 0 1 3) (.int .i64 0)=some (.ptr r 0):=ax;repeat' (first
     |(apply aj ?_;clear hK K)|apply bQ ?_|(apply jy ?_ ?_<;>(intro hg hgp;try(cases hg;done)))|(apply bu ?_ ?_<;>(intro hb hbp;try(cases hb;done)))|(apply am fun K hK=>?_)|fail)
    all_goals refine qq ?_
    all_goals (refine⟨?_,Y⟩;simp only[db,O,vm];simp_all)
   .have O:lR s=false:=by
     cases hb:lR s with
     |false=>rfl
     |true=>have:=U ((DU s).1 hb);rw[this]at hl;simp at hl
    have hl2:decide ((ts.length:Int)=1)=false:=cb;refine gW ?_;all_goals refine qq ?_
    exact⟨JR,Y⟩
end
section
def tyW4k.tyF:=ad @cr (ad @cK (ad @et (ad @dQ (ad @dR (@dD)))))
open tyW4k
noncomputable def RJ:{c:SC // aE 23 (f157.body.getD .skip)=c}:=by
 refine⟨?_,?_⟩;rotate_left
 .simp only[f157,bN,aE,bH,bw,bM,bJ,Nat.blt,Nat.ble];rfl
noncomputable def RK:{c:SC // aE 27 (f184.body.getD .skip)=c}:=by
 refine⟨?_,?_⟩;rotate_left
 .simp only[f184,bN,aE,bH,bw,bM,bJ,Nat.blt,Nat.ble];rfl
noncomputable def Fw:{c:SC // aE 10 (f159.body.getD .skip)=c}:=by
 refine⟨?_,?_⟩;rotate_left
 .simp only[f159,bN,aE,bH,bw,bM,bJ,Nat.blt,Nat.ble];rfl
def vP(k kids:Int):Bool:=if k=20\/k=21 then decide (kids=1)else decide (4<=k)&&decide (k<=18)&&decide (kids=2)
def zdB(Z:zd0 cfg 157)(k kids:Int)(H:Hp):
 aR prog cfg 157 [.int .i64 k,.int .i64 kids] H fun v H'=>v=.bool (vP k kids)/\H'=H:=by
 refine bp (M:=23) (rs:=[.tmp 4]) (Z.call _) Z.aG Z.aB func157 rfl rfl RJ.2 rfl ?_;dsimp only[RJ,bm,Nat.reduceAdd];repeat' (first
  |(apply aj ?_;clear hK K)|apply aV ?_|(apply cL ?_ ?_<;>(intro hg hgp;try(cases hg;done)))|(apply bz ?_ ?_<;>(intro hb hbp;try(cases hb;done)))|(apply am fun K hK=>?_)|fail)
 all_goals
  all_goals refine qq ?_
 all_goals (refine⟨?_,il⟩;simp_all[vP]<;>omega)
def zdC(Z:zd0 cfg 184)(x:Ex)(H:Hp):
 aR prog cfg 184 [.agg x.cells] H fun v H'=>v=.bool (zeroE x)/\FrB 0 H H':=by
 refine bp (M:=27) (rs:=[.tmp 2]) (Z.call _) Z.aG Z.aB func184 rfl rfl RK.2 rfl ?_;dsimp only[RK,bm,Nat.reduceAdd];repeat' (first
  |(apply aj ?_;clear hK K)|apply aV ?_|(apply cL ?_ ?_<;>(intro hg hgp;try(cases hg;done)))|(apply am fun K hK=>?_)|fail)
 all_goals
  all_goals refine qq ?_
 all_goals (refine⟨?_,(jA _ _).alloc _⟩;simp_all[zeroE])
def oD(s:qA)(M:Bool):Bool:=if M then db s else decide (s=[])
def zdD(C:zf0 cfg)(V:zd0 cfg 120)(Y:zd0 cfg 159)(s:qA)(Z:Bool)(O:s.length<2^60)(H:Hp):
 aR prog cfg 159 [.aj s,.bool Z] H fun v H'=>v=.bool (oD s Z)/\FrB 0 H H':=by
 cases Z
 .refine bp (M:=10) (rs:=[.tmp 4]) (Y.call _) Y.aG Y.aB func159 rfl rfl Fw.2 rfl ?_;dsimp only[Fw,bm,Nat.reduceAdd];refine jG ?_;all_goals refine qq ?_
  exact⟨by simp[oD],jA _ _⟩
 .refine bp (M:=10) (rs:=[.tmp 4]) (Y.call _) Y.aG Y.aB func159 rfl rfl Fw.2 rfl ?_;dsimp only[Fw,bm,Nat.reduceAdd];refine wh fun K hK=>?_;refine qc ?_;refine aF ?_ (JU C V s O H);rintro v z ⟨rfl,U⟩;dsimp only[aC];refine jG ?_;all_goals refine qq ?_
  exact⟨by simp[oD],U⟩
def zdE(C:zf0 cfg)(I:zd0 cfg 120)(Y:zd0 cfg 121)(l:qx)(hz:cP l<2^60)(H:Hp):
 aR prog cfg 121 [cH l] H fun v H'=>v=.bool (l.all db)/\FrB 0 H H':=by
 have hl:l.length<2^60:=by have:=iU l;omega
 refine bp (M:=15) (rs:=[.tmp 2]) (Y.call _) Y.aG Y.aB func121 rfl rfl RI.2 rfl ?_;dsimp only[RI,bm,Nat.reduceAdd];refine jH ?_;refine rK (fun i E z=>l.all db=(l.drop i).all db/\E.at 5=.az (l.map fun s=>[.aj s])/\E.at 6=.int .i64 l.length/\E.at 7=.int .i64 i/\FrB 0 H z) l.length ?_ ?_
 .rintro i E z m ⟨hc,h5,h6,h7,U⟩;repeat' (first
   |(apply aj ?_;clear hK K)|apply aV ?_|(apply bz ?_ ?_<;>(intro hb hbp;try(cases hb;done)))|(apply am fun K hK=>?_)|fail)
  .have J:i<l.length:=by simpa using hb
   have j:l[i]?=some l[i]:=bj J;have hsm:=DQ (dm J);have Z:(l.drop i).all db=(db l[i]&&(l.drop (i+1)).all db):=xc;refine wh fun K hK=>?_;refine qc ?_;refine aF ?_ (JU C I l[i] ac z);rintro v H3 ⟨rfl,O⟩;dsimp only[aC];refine xH (fun hb hbp=>?_) (fun hb hbp=>?_)
   .all_goals refine qq ?_
    exact⟨by rw[hc,Z];simp_all,U.trans O⟩
   .refine⟨J,by rw[hc,Z];simp_all,eE,eE,?_,U.trans O⟩;simp only[jY,Nat.reduceBEq,iY,gS (show i<2^62 by omega)]
  .all_goals refine qq ?_
   have V:i=l.length:=uh;exact⟨by rw[hc,V];simp,U⟩
 .exact⟨aw,eE,eE,eE,jA _ _⟩
end
section
def tyP4a.tyF:=ad @dQ (ad @cr (ad @cK (ad @dR (ad @dD (ad @yb (@M3))))))
open tyP4a
noncomputable def RL:{c:SC // aE 27 (f158.body.getD .skip)=c}:=by
 refine⟨?_,?_⟩;rotate_left
 .simp only[f158,bN,aE,bH,bw,bM,bJ,Nat.blt,Nat.ble];rfl
noncomputable def RM:{c:SC // aE 87 (f123.body.getD .skip)=c}:=by
 refine⟨?_,?_⟩;rotate_left
 .simp only[f123,bN,aE,bH,bw,bM,bJ,Nat.blt,Nat.ble];rfl
noncomputable def Fx:{c:SC // aE 10 (f160.body.getD .skip)=c}:=by
 refine⟨?_,?_⟩;rotate_left
 .simp only[f160,bN,aE,bH,bw,bM,bJ,Nat.blt,Nat.ble];rfl
theorem zdF(h:∀f,f∈[203,197,195,182,198,196,183,156]->(∀V,dE l f V=none)/\iA l f=false):zf0 (au pls l) where
 let_:=ei (h _ aw).1 (h _ aw).2
 dig:=ei (h _ aw).1 (h _ aw).2
 f4:=ei (h _ aw).1 (h _ aw).2
 fK:=ei (h _ aw).1 (h _ aw).2
 num:=ei (h _ aw).1 (h _ aw).2
 ec:=ei (h _ aw).1 (h _ aw).2
 e9:=ei (h _ aw).1 (h _ aw).2
 scan:=ei (h _ aw).1 (h _ aw).2
 ca _:=by first|rfl|kernel_rfl
 keep:=rfl
def JV:zf0 (au pls []):=zdF fun f _=>⟨fun _=>rfl,rfl⟩
def zdG(s:qA)(U:s.length<2^60):bX prog ρ 120 [.aj s] (.bool (db s)):=
 fB fit (pls:=pls) (l:=[]) trivial (.cons (.aj _) .nil) (.bool _) (aF (fun v H h=>h.1) (JU JV (iB _) s U bt))
def zdH(x:Int×Nat):bX prog ρ 157 [.int .i64 x.1,.int .i64 x.2] (.bool (vP x.1 x.2)):=
 fB fit (pls:=pls) (l:=[]) trivial (.cons (.int _ _) (.cons (.int _ _) .nil)) (.bool _) (aF (fun v H h=>h.1) (zdB (iB _) x.1 x.2 bt))
def zdI(x:Ex):bX prog ρ 184 [.agg x.cells] (.bool (zeroE x)):=
 fB fit (pls:=pls) (l:=[]) trivial (.cons (.agg x.pure) .nil) (.bool _) (aF (fun v H h=>h.1) (zdC (iB _) x bt))
def zdJ(l:qx)(O:cP l<2^60):bX prog ρ 121 [cH l] (.bool (l.all db)):=
 fB fit (pls:=pls) (l:=[]) trivial (.cons (vh _) .nil) (.bool _) (aF (fun v H h=>h.1) (zdE JV (iB _) (iB _) l O bt))
def zdK(s:qA)(w:Bool)(U:s.length<2^60):bX prog ρ 159 [.aj s,.bool w] (.bool (oD s w)):=
 fB fit (pls:=pls) (l:=[]) trivial (.cons (.aj _) (.cons (.bool _) .nil)) (.bool _) (aF (fun v H h=>h.1) (zdD JV (iB _) (iB _) s w U bt))
def xt(k:Int):qM:=
 if k=1 then [true,false,false,false,true,false,false,false]
 else if k=2 then [true,false,false,true,true,false,false,false]
 else if k=3 then [false,false,false,false,true,false,true,true]
 else if k=4 then [false,false,false,false,true,false,true,false]
 else if k=5 then [false,false,false,false,true,false,false,false]
 else if k=6 then [true,true,false,false,false,true,false,false]
 else if k=7 then [false,false,true,false,false,false,false,false]
 else [false,false,false,false,false,false,false,false]
def lE(k:Int):Bool:=decide (1<=k)&&decide (k<=7)
def yQ(k:Int):AV:=.a6 [.agg ((xt k).map .bool),.bool (lE k)]
theorem zdL(a b c d e f g h:AV):cq 8 [a,b,c,d,e,f,g,h]=some (.agg [a,b,c,d,e,f,g,h]):=rfl
def zdM(k:Int):bX prog ρ 158 [.int .i64 k] (yQ k):=fB fit (pls:=pls) (l:=[]) trivial (.cons (.int _ _) .nil) (.a6 (.cons (.agg fun v Y=>by
 obtain⟨b,_,rfl⟩:=mh.1 Y;exact .bool b) (.cons (.bool _) .nil))) (by
 have Z:=iB 158;have j:dd prog 206 [(0,.bool true),(4,.bool true)]=some (.agg [.bool true,.bool false,.bool false,.bool false,.bool true,.bool false,.bool false,.bool false]):=ax;have m:dd prog 206 [(0,.bool true),(3,.bool true),(4,.bool true)]=some (.agg [.bool true,.bool false,.bool false,.bool true,.bool true,.bool false,.bool false,.bool false]):=ax;have O:dd prog 206 [(4,.bool true),(6,.bool true),(7,.bool true)]=some (.agg [.bool false,.bool false,.bool false,.bool false,.bool true,.bool false,.bool true,.bool true]):=ax;have V:dd prog 206 [(4,.bool true),(6,.bool true)]=some (.agg [.bool false,.bool false,.bool false,.bool false,.bool true,.bool false,.bool true,.bool false]):=ax;have C:dd prog 206 [(4,.bool true)]=some (.agg [.bool false,.bool false,.bool false,.bool false,.bool true,.bool false,.bool false,.bool false]):=ax;have I:dd prog 206 [(0,.bool true),(1,.bool true),(5,.bool true)]=some (.agg [.bool true,.bool true,.bool false,.bool false,.bool false,.bool true,.bool false,.bool false]):=ax;have U:dd prog 206 [(2,.bool true)]=some (.agg [.bool false,.bool false,.bool true,.bool false,.bool false,.bool false,.bool false,.bool false]):=ax;have J:dd prog 206 []=some (.agg [.bool false,.bool false,.bool false,.bool false,.bool false,.bool false,.bool false,.bool false]):=ax;refine bp (M:=27) (rs:=[.cell 2 206,.tmp 3]) (Z.call _) Z.aG Z.aB func158 rfl rfl RL.2 rfl ?_;dsimp only[RL,bm,Nat.reduceAdd];repeat' (first
  |(apply aj ?_;clear hK K)|apply aV ?_|(apply bz ?_ ?_<;>(intro hb hbp;try(cases hb;done)))|(apply am fun K hK=>?_)|fail)
 all_goals
  refine⟨aB,_,(by(try simp only[aG,aY,Nat.reduceBEq,tyF,cF,cR,zdL, *]);first|done|with_reducible rfl),?_⟩;try simp only[aA]
 all_goals
  first
  |(simp_all[yQ,xt,lE];done)
  |(have z:lE k=false:=by
     simp only[lE,Bu,mU];omega
    simp_all[yQ,xt];done))
theorem zdN(k:Int)(n:Nat):vP k n=((decide ((n:Int)=2)&&pY k)||(decide ((n:Int)=1)&&(decide (k=20)||decide (k=21)))):=by
 unfold vP pY;by_cases h:k=20\/k=21
 .rw[ai h];rcases h with rfl|rfl<;>simp
 .rw[af h];have m:¬k=20:=fun e=>h (.inl e);have j:¬k=21:=fun e=>h (.inr e);simp only[m,j,l0,mW,xe];cases decide (4<=k)<;>cases decide (k<=18)<;>cases decide ((n:Int)=2)<;>rfl
noncomputable def Bv:En:=⟨120,false,co (fun s=>s.length<2^60) oq fun s=>.bool (db s)⟩
def RN:dI prog ρ Bv:=dT fun x hx=>zdG ρ x hx
def Bw(x:Int×Nat):qu:=[.int .i64 x.1,.int .i64 x.2]
def zdO(x y:Int×Nat)(h:Bw x=Bw y):x=y:=by
 simp only[Bw,eJ,AV.int.injEq,aW,kN]at h;exact ub h.1 ac
noncomputable def Bx:En:=⟨157,false,co (fun _=>True) Bw fun x=>.bool (vP x.1 x.2)⟩
def RO:dI prog ρ Bx:=dT fun x _=>zdH ρ x
noncomputable def RP:En:=⟨184,false,co (fun _=>True) jO fun x=>.bool (zeroE x)⟩
def zdP:dI prog ρ RP:=dT fun x _=>zdI ρ x
def zdQ(U:∀J,dE l 120 J=Bv.sp J)(O:∀J,dE l 157 J=Bx.sp J)(V:(∀J,dE l 123 J=none)/\iA l 123=false){base:Nat}(j:vO base I):
 yL (au pls l) base I 123 [] fun x _=>mC x:=by
 intro x d H hz Z C;have Y:zd0 (au pls l) 123:=ei V.1 V.2;have z:∀s:qA,s.length<2^60->∀H,aR prog (au pls l) 120 [.aj s] H fun v H'=>v=.bool (db s)/\H'=H:=fun s m H=>cV (enc:=oq) (out:=fun x=>.bool (db x)) wZ (x:=s) (U _) m;have ko:∀(k:Int) (n:Nat),∀H,aR prog (au pls l) 157 [.int .i64 k,.int .i64 n] H fun v H'=>v=.bool (vP k n)/\H'=H:=fun k n H=>cV (enc:=Bw) (out:=fun x=>.bool (vP x.1 x.2)) zdO (x:=(k,n)) (O _) trivial;have hsz:=x.aV;refine bp (M:=87) (rs:=[.tmp 4]) (Y.call _) Y.aG Y.aB func123 rfl rfl RM.2 rfl ?_;dsimp only[RM,bm,Nat.reduceAdd];repeat' (first
  |(apply aj ?_;clear hK K)|apply aV ?_|(apply eu ?_;first|refine bK (z _ ac _) ?_|refine bK (ko _ _ _) ?_)|(apply cL ?_ ?_<;>(intro hg hgp;try(cases hg;done)))|(apply bz ?_ ?_<;>(intro hb hbp;try(cases hb;done)))|(apply am fun K hK=>?_)|fail)
 all_goals
  all_goals refine qq ?_
  refine⟨?_,(jA _ _).alloc _,j _ _ C ((rO _ _).alloc Z _)⟩;rw[mC];(try rw[zdN]);(try simp only[iK]at *);simp only[ *,l0,mW,kT,p9,ft,fG,Int.reduceEq]
end
end Go.Proofs.YtpbcimfiofmoeaaGreat
