/- Parts: P4f, P4g, W4e, W4f, W4g, W4h, W4i, W4j, W4k, P4a. -/
import Derived.Test.YtpbcimfiofmoeaaGreatMCN
set_option linter.unusedSimpArgs false
set_option linter.unusedVariables false
set_option linter.unusedSectionVars false
set_option linter.defProp false
set_option maxHeartbeats 32000000
namespace Go.Ab
set_option maxRecDepth 20000
open Go
theorem D9{P:Prop}(h:P:=by rw[List.drop_eq_getElem_cons Z,List.all_cons]):P:=h
theorem QC{P:Prop}(h:P:=by rw[<- O];simp only[get_set,vz,zk9,zli,Gy,Lu,Nat.add_assoc,Nat.reduceAdd,beq_self_eq_true,cond_true,cond_false,Nat.reduceBEq]):P:=h
theorem QD{P:Prop}(h:P:=by have:=h.2.1;have:=h.2.2.1;simp only[List.drop_zero];omega):P:=h
theorem I7{P:Prop}(h:P:=by simp only[zl8,O,Bool.false_and]):P:=h
end Go.Ab
namespace Go.Proofs.YtpbcimfiofmoeaaGreat
set_option maxRecDepth 20000
open Go Go.Ab
section
def tyP4f.tyF:=ad @cJ (ad @dd (ad @fx (ad @CB (ad @GT (ad @ec (ad @en (ad @zms (ad @ue (ad @em (ad @eY (@oR)))))))))))
open tyP4f
noncomputable def QE:{c:SC // aC 26 (Tryz.f127.body.getD .skip)=c}:=by
 refine⟨?_,?_⟩;rotate_left
 .simp only[Tryz.f127,bI,aC,zll,zle,zlp,zln,Nat.blt,Nat.ble];rfl
noncomputable def QF:{c:SC // aC 27 (Tryz.f128.body.getD .skip)=c}:=by
 refine⟨?_,?_⟩;rotate_left
 .simp only[Tryz.f128,bI,aC,zll,zle,zlp,zln,Nat.blt,Nat.ble];rfl
noncomputable def QG:{c:SC // aC 49 (Tryz.f129.body.getD .skip)=c}:=by
 refine⟨?_,?_⟩;rotate_left
 .simp only[Tryz.f129,bI,aC,zll,zle,zlp,zln,Nat.blt,Nat.ble];rfl
theorem ztI(l:List (List UInt8))(a s:List UInt8):zlo (rS l a) s=(zlo l s||zlo [a] s):=by
 unfold rS;split
 .rename_i h;rw[tj];by_cases e:s=a
  .rw[e,h];rfl
  .rw[iH e,iu]
 .rw[znU]
theorem QH{cfg:Cfg}(hw:Plain cfg 127){H:Hp}{r imm:Nat}{x:List (List (List UInt8))}(hg:H.get r=some (.cells (x.map zlY) imm true))(hr:r<H.next)(hx:DE x):
 zk5 Tryz.prog cfg 127 [.sl r 0 x.length 1] H fun v H'=>v=.map H.next/\(∃l,H'.get H.next=some (.map (gK l))/\∀s,zlo l s=zlo x.flatten s)/\(∀k,k<H.next->H'.get k=H.get k)/\H.next<H'.next:=by
 obtain⟨hx1,hx2⟩:=hx;have hnm:=Lz;refine zlf (M:=26) (rs:=[.tmp 2]) (hw.call _) hw.ice hw.froz Tryz.func127 rfl rfl QE.2 rfl ?_;dsimp only[QE,zD,Nat.reduceAdd];repeat' (first
  |(apply ah ?_;clear hK K)|apply Rx.o ?_|apply ak ?_|(apply zkU fun K hK=>?_)|apply aG ?_|fail)
 refine zlL [2,3,9,10] [] 11 x.length (fun i E H2=>(∃l,H2.get H.next=some (.map (gK l))/\∀s,zlo l s=zlo (x.take i).flatten s)/\∀k,k<H.next->H2.get k=H.get k) eE ⟨⟨[],td,fun s=>rfl⟩,fun k hk=>gk⟩ ?_;rintro i E H2 hi Y U O hsI ⟨⟨l,J,z⟩,I⟩;(try simp only[zlm,zlb,aR,zk1,zk7,Nat.reduceBEq, *]at Y);(try simp only[zlb,zk7, *]at U);(try simp only[zk9,]at O);repeat' (first
  |(apply ah ?_;clear hK K)|apply Rx.o ?_|(apply a0 (fun C Z=>?_) (fun C Z=>?_)<;>try(cases C;done))|apply ak ?_|(apply zkU fun K hK=>?_)|apply aG ?_|apply zk3 ?_|apply aF ?_|apply zlu ?_)
 .have o:i<x.length:=by simpa using C
  have hgx:x[i]?=some x[i]:=aT o;have hsm:=hx2 _ (cR o);have hg2:H2.get r=some (.cells (x.map zlY) imm true):=by rw[I r hr];exact hg
  have htk:(x.take (i+1)).flatten=(x.take i).flatten++x[i]:=by rw[oI,hgx,List.flatten_append];simp
  generalize x[i]=V at *;repeat' (first
   |(apply ah ?_;clear hK K)|apply Ry.o ?_|apply ak ?_|(apply zkU fun K hK=>?_)|apply aG ?_|fail)
  refine zlL [2,3,9,10,11,15,16] [] 17 V.length (fun j E H3=>(∃l,H3.get H.next=some (.map (gK l))/\∀s,zlo l s=zlo ((x.take i).flatten++V.take j) s)/\∀k,k<H.next->H3.get k=H.get k) eE ⟨⟨l,J,fun s=>by rw[z,xF,bj]⟩,I⟩ ?_;clear J z l I hg2;rintro j E3 H3 hj Y U O hsI ⟨⟨l,J,z⟩,I⟩;(try simp only[zlm,zlb,aR,zk1,zk7,Nat.reduceBEq, *]at Y);(try simp only[zlb, *]at U);(try simp only[zk9,zli,zlI,bL,Nat.reduceAdd]at O);repeat' (first
   |(apply ah ?_;clear hK K)|apply Rx.o ?_|(apply a0 (fun C Z=>?_) (fun C Z=>?_)<;>try(cases C;done))|apply ak ?_|(apply zkU fun K hK=>?_)|apply aG ?_|apply zk3 ?_|apply zlu ?_)
  .have m:j<V.length:=by simpa using C
   have hgx2:V[j]?=some V[j]:=aT m;have hup:=ID J V[j];have htk2:V.take (j+1)=V.take j++[V[j]]:=by rw[oI,hgx2];rfl
   repeat' (first
    |(apply ah ?_;clear hK K)|apply Rx.o ?_|apply bS ?_|(apply zkU fun K hK=>?_)|fail)
   refine⟨ac,zk8,zk8,zlF,OG,?_⟩;refine⟨⟨rS l V[j],Ai,fun s=>?_⟩,fun k hk=>by rw[aJ,af ac];exact I k hk⟩;rw[ztI,z,htk2,<-i8,znU ((x.take i).flatten++V.take j)]
  .have hje:j=V.length:=by simp at C;omega
   repeat' (first
    |(apply ah ?_;clear hK K)|fail)
   refine⟨ac,zk8,zk8,zlF,uj,?_⟩;exact⟨⟨l,J,fun s=>by rw[z,htk,hje,yW]⟩,I⟩
 .repeat' (first
   |(apply ah ?_;clear hK K)|fail)
  all_goals (refine⟨eI,_,eR,?_⟩;try simp only[zkX])
  have hie:i=x.length:=tc;refine⟨trivial,⟨l,J,fun s=>by rw[z,hie,yW]⟩,I,ac⟩
structure Rs where
 r12:Nat
 mv:Nat
 r5:Nat
 ma:Nat
 r6:Nat
 mf:Nat
 r9:Nat
structure RsOk (X:Rs) (vs an:List (List UInt8)) (fm:List (zly×Int)) (H:Hp):Prop where
 b12:H.get X.r12=some (.cells [.map X.mv] 0 true)
 bv:∃l,H.get X.mv=some (.map (gK l))/\∀s,zlo l s=zlo vs s
 b5:H.get X.r5=some (.cells [.map X.ma] 0 true)
 ba:∃l,H.get X.ma=some (.map (gK l))/\∀s,zlo l s=zlo an s
 b6:H.get X.r6=some (.cells [.map X.mf] 0 true)
 bf:H.get X.mf=some (.map (dy fm))
structure RsLt (X:Rs) (n:Nat):Prop where
 l12:X.r12<n
 lv:X.mv<n
 l5:X.r5<n
 la:X.ma<n
 l6:X.r6<n
 lf:X.mf<n
structure RsNe (X:Rs):Prop where
 l12:X.r12≠X.r9
 lv:X.mv≠X.r9
 l5:X.r5≠X.r9
 la:X.ma≠X.r9
 l6:X.r6≠X.r9
 lf:X.mf≠X.r9
theorem RsOk.keep{X:Rs}{vs K:List (List UInt8)}{m:List (zly×Int)}{H H':Hp}(h:RsOk X vs K m H)(U:H'.get X.r12=H.get X.r12)(Z:H'.get X.mv=H.get X.mv)(Y:H'.get X.r5=H.get X.r5)(O:H'.get X.ma=H.get X.ma)(V:H'.get X.r6=H.get X.r6)(M:H'.get X.mf=H.get X.mf):RsOk X vs K m H' where
 b12:=by rw[U];exact h.b12
 bv:=by rw[Z];exact h.bv
 b5:=by rw[Y];exact h.b5
 ba:=by rw[O];exact h.ba
 b6:=by rw[V];exact h.b6
 bf:=by rw[M];exact h.bf
theorem RsOk.low{X:Rs}{vs K:List (List UInt8)}{m:List (zly×Int)}{H H':Hp}{n:Nat}(h:RsOk X vs K m H)(M:RsLt X n)(k:jc n H H'):RsOk X vs K m H':=
 h.keep (k _ M.l12) (k _ M.lv) (k _ M.l5) (k _ M.la) (k _ M.l6) (k _ M.lf)
theorem zA9{cfg:Cfg}(C:Plain cfg 128){X:Rs}{vs o:List (List UInt8)}{fm:List (zly×Int)}{base:Nat}(J:RsLt X base){I:Hp->Prop}(hI:uJ base I)(hR:∀H,I H->RsOk X vs o fm H):
 xV cfg base I 128 [.ptr X.r12 0,.ptr X.r5 0] fun x _=>iW vs o x:=by
 intro x d H hz O hi;obtain⟨U,⟨lv,Z,Y⟩,h5,⟨la,V,m⟩,h6,hf⟩:=hR H hi;have l12:=J.l12;have llv:=J.lv;have l5:=J.l5;have lla:=J.la;have g12:(H.alloc (.cells x.cells 0 true)).get X.r12=some (.cells [.map X.mv] 0 true):=by rw[zkZ,af ac];exact U
 have g5:(H.alloc (.cells x.cells 0 true)).get X.r5=some (.cells [.map X.ma] 0 true):=by rw[zkZ,af ac];exact h5
 have gv:(H.alloc (.cells x.cells 0 true)).get X.mv=some (.map (gK lv)):=by rw[zkZ,af ac];exact Z
 have ga:(H.alloc (.cells x.cells 0 true)).get X.ma=some (.map (gK la)):=by rw[zkZ,af ac];exact V
 have kv:=wd gv x.name;have ka:=wd ga x.name;rw[Y]at kv;rw[m]at ka;clear U h5 Z V gv ga Y m hf h6;have e12:(X.r12 == H.next)=false:=zkV ac;have e5:(X.r5 == H.next)=false:=zkV ac;simp only[];refine zlf (M:=27) (rs:=[.tmp 6]) (C.call _) C.ice C.froz Tryz.func128 rfl rfl QF.2 rfl ?_;dsimp only[QF,zD,Nat.reduceAdd];repeat' (first
  |(apply ah ?_;clear hK K)|apply Rx.o ?_|apply qP ?_|(apply cz (fun j z=>?_) (fun j z=>?_)<;>try(cases j;done))|apply ak ?_|(apply zkU fun K hK=>?_)|apply aF ?_)
 all_goals
  all_goals (refine⟨eI,_,eR,?_⟩;try simp only[zkX])
  refine⟨?_,(jy _ _).alloc _,hI _ _ hi ((qR _ _).alloc O _)⟩;rw[iW];(try simp only[dI]at *);simp only[ *,gm,iu,p7,gy,kZ,lC,ir,]
theorem QI:nH Tryz.prog 9=some .string:=aj
def znV(w:Bool):Int:=if w=true then 5 else 0
theorem zBa{cfg:Cfg}(hw:Plain cfg 129){X:Rs}{vs an:List (List UInt8)}{I:List (zly×Int)}{base:Nat}(Y:RsLt X base)(h9:X.r9<base)(z:RsNe X):
 Az cfg base (fun(w:Bool) H=>RsOk X vs an I H/\H.get X.r9=some (.cells [.int .i64 (znV w)] 0 true)) 129 [.ptr X.r12 0,.ptr X.r5 0,.ptr X.r6 0,.ptr X.r9 0] (od I vs an):=by
 intro x d w H hz O hi;obtain⟨C,j⟩:=hi;have V:=C;obtain⟨h12,⟨lv,hv1,hv2⟩,h5,⟨la,ha1,ha2⟩,h6,hf⟩:=C;have l12:=Y.l12;have llv:=Y.lv;have l5:=Y.l5;have lla:=Y.la;have l6:=Y.l6;have llf:=Y.lf;have J:jc base H (H.alloc (.cells x.cells 0 true)):=(qR _ _).alloc O _;have g12:(H.alloc (.cells x.cells 0 true)).get X.r12=some (.cells [.map X.mv] 0 true):=by rw[J _ l12];exact h12
 have g5:(H.alloc (.cells x.cells 0 true)).get X.r5=some (.cells [.map X.ma] 0 true):=by rw[J _ l5];exact h5
 have g6:(H.alloc (.cells x.cells 0 true)).get X.r6=some (.cells [.map X.mf] 0 true):=by rw[J _ l6];exact h6
 have g9:(H.alloc (.cells x.cells 0 true)).get X.r9=some (.cells [.int .i64 (znV w)] 0 true):=by rw[J _ h9];exact j
 have gv:(H.alloc (.cells x.cells 0 true)).get X.mv=some (.map (gK lv)):=by rw[J _ llv];exact hv1
 have ga:(H.alloc (.cells x.cells 0 true)).get X.ma=some (.map (gK la)):=by rw[J _ lla];exact ha1
 have gf:(H.alloc (.cells x.cells 0 true)).get X.mf=some (.map (dy I)):=by rw[J _ llf];exact hf
 have gb:(H.alloc (.cells x.cells 0 true)).get H.next=some (.cells x.cells 0 true):=rX
 have kv:=wd gv x.name;have ka:=wd ga x.name;have kf:=OR (P:=Tryz.prog) (t:=98) Tryz.underlying98 QI aj gf x.to;rw[hv2]at kv;rw[ha2]at ka;have hlen:=znJ x.args;have hsz:=x.sz_eq;have m:RsOk X vs an I (H.alloc (.cells x.cells 0 true)):=V.low Y J;have hx0:∀a b,Ab.extract (.tup [a,b]) 0=some a:=fun _ _=>rfl;have hx1:∀a b,Ab.extract (.tup [a,b]) 1=some b:=fun _ _=>rfl;have U:FrB base H (H.alloc (.cells x.cells 0 true)):=(jy _ _).alloc _;have o:FrB base H ((H.alloc (.cells x.cells 0 true)).set X.r9 (.cells [.int .i64 5] 0 true)):=U.set (.inr h9) _;have Z:RsOk X vs an I ((H.alloc (.cells x.cells 0 true)).set X.r9 (.cells [.int .i64 5] 0 true)):=m.keep (by rw[aJ,af z.l12]) (by rw[aJ,af z.lv]) (by rw[aJ,af z.l5]) (by rw[aJ,af z.la]) (by rw[aJ,af z.l6]) (by rw[aJ,af z.lf]);have hw2:((H.alloc (.cells x.cells 0 true)).set X.r9 (.cells [.int .i64 5] 0 true)).get X.r9=some (.cells [.int .i64 (znV true)] 0 true):=Am;have s12:((H.alloc (.cells x.cells 0 true)).set X.r9 (.cells [.int .i64 5] 0 true)).get X.r12=some (.cells [.map X.mv] 0 true):=Z.b12;have sb:((H.alloc (.cells x.cells 0 true)).set X.r9 (.cells [.int .i64 5] 0 true)).get H.next=some (.cells x.cells 0 true):=by rw[aJ,af ac];exact gb
 have sv:jK Tryz.prog ((H.alloc (.cells x.cells 0 true)).set X.r9 (.cells [.int .i64 5] 0 true)) 178 (.map X.mv) (.str x.name) false=some (.bool (zlo vs x.name)):=by
  obtain⟨l,q1,q2⟩:=Z.bv;rw[wd q1,q2]
 clear h12 hv1 hv2 h5 ha1 ha2 h6 hf gv ga gf V j J;have e12:(X.r12 == H.next)=false:=zkV ac;have e5:(X.r5 == H.next)=false:=zkV ac;have e6:(X.r6 == H.next)=false:=zkV ac;have e9:(X.r9 == H.next)=false:=zkV ac;have d12:(X.r12 == X.r9)=false:=zkV z.l12;have dn:(H.next == X.r9)=false:=zkV ac;simp only[];refine zlf (M:=49) (rs:=[.tmp 8]) (hw.call _) hw.ice hw.froz Tryz.func129 rfl rfl QG.2 rfl ?_;dsimp only[QG,zD,Nat.reduceAdd];repeat' (first
  |(apply ah ?_;clear hK K)|apply Rx.o ?_|apply bS ?_|(apply cz (fun hg hgp=>?_) (fun hg hgp=>?_)<;>try(cases hg;done))|(apply a0 (fun hb hbp=>?_) (fun hb hbp=>?_)<;>try(cases hb;done))|apply ak ?_|(apply zkU fun K hK=>?_)|apply aG ?_|apply zk3 ?_|apply aF ?_)
 all_goals
  all_goals (refine⟨eI,_,eR,?_⟩;try simp only[zkX])
  first
  |refine⟨?_,U,m,?_⟩
  |refine⟨?_,o,Z,?_⟩
  all_goals
   (try rw[g9]);(try rw[hw2]);clear g12 g5 g6 g9 kv ka kf hx0 hx1 gb s12 sb sv m Z U o hw2 e12 e5 e6 e9 d12 dn Y z hlen hsz;simp_all[od,znV]
end
section
def tyP4g.tyF:=ad @cJ (ad @dd (ad @gY (ad @iQ (ad @fI (ad @ue (ad @fx (ad @em (ad @zms (ad @iR (ad @eY (ad @oR (ad @CB (ad @GT (ad @II (@zfJ)))))))))))))))
open tyP4g
noncomputable def QJ:{c:SC // aC 67 (Tryz.f75.body.getD .skip)=c}:=by
 refine⟨?_,?_⟩;rotate_left
 .simp only[Tryz.f75,bI,aC,zll,zle,zlp,zln,Nat.blt,Nat.ble];rfl
noncomputable def Ea:List En:=[IE]
theorem ztJ(ρ:Nat->Int):fK Tryz.prog ρ Ea:=⟨O5 ρ,trivial⟩
set_option maxRecDepth 100000 in
theorem zpi(ρ:Nat->Int)(p:Pr)(hz:p.sz<2^36):bM Tryz.prog ρ 75 (fc p) (.int .i64 (wa p)):=zmy fit (pls:=pls) (ztJ ρ) (.cons (.agg p.pure) .nil) (.int _ _) (by
 have hw:Plain (zkY pls Ea) 75:=zml (fun _=>rfl) rfl;have kd:∀H,zk5 Tryz.prog (zkY pls Ea) 125 [.agg p.cells] H fun v H'=>v=.tup [zlY (zlj p),zlY (zmX p)]/\H'=H:=fun H=>zlM (enc:=fc) (out:=fun p=>.tup [zlY (zlj p),zlY (zmX p)]) pd (x:=p) rfl hz;have hps:Plains (zkY pls Ea):=⟨zml (fun _=>rfl) rfl,zml (fun _=>rfl) rfl,zml (fun _=>rfl) rfl,zml (fun _=>rfl) rfl⟩;have hpz:p.sz=1+zmL p.arrays+zmv p.funcs:=rfl;have hla:=znR p.arrays;have hlf:=znQ p.funcs;have hal:(zlj p).length=p.arrays.length:=uw;have hfl:(zmX p).length=p.funcs.length:=by simp[zmX]
 have hx0:∀a b,Ab.extract (.tup [a,b]) 0=some a:=fun _ _=>rfl;have hx1:∀a b,Ab.extract (.tup [a,b]) 1=some b:=fun _ _=>rfl;have hnm:=Lz;rw[fc];refine zlf (M:=67) (rs:=[.tmp 2]) (hw.call _) hw.ice hw.froz Tryz.func75 rfl rfl QJ.2 rfl ?_;dsimp only[QJ,zD,Nat.reduceAdd];repeat' (first
  |(apply ah ?_;clear hK K)|apply Rx.o ?_|(apply eM ?_;first|refine zlc (kd _) ?_)|apply ak ?_|(apply zkU fun K hK=>?_)|fail)
 refine aZ rfl bc bi ?_;simp only[bj];refine aS ?_ (QH (x:=[zlj p]) (imm:=0) (zml (fun _=>rfl) rfl) td (cE _) ⟨ax,b9⟩);rintro v Z ⟨rfl,⟨la,hma,hla2⟩,hold,hlt2⟩;simp only[zk9,zlI]at hma hold hlt2;rw[show([zlj p]:List (List (List UInt8))).flatten=zlj p by simp]at hla2;have g20:Z.get 0=some (.cells p.cells 0 true):=by rw[hold 0 ac,zkZ,af ax,zkZ,am dT]
 clear hold;dsimp only[zk6];repeat' (first
  |(apply ah ?_;clear hK K)|apply Rx.o ?_|apply bS ?_|apply ak ?_|(apply zkU fun K hK=>?_)|apply aG ?_|fail)
 generalize z:Hp.set (Hp.set _ _ _) _ _=Hs;have ns:Z.next+3<=Hs.next:=by rw[<-z];exact aB _
 have gs0:Hs.get 0=some (.cells p.cells 0 true):=by rw[<-z,aJ,af ac,aJ,af ac,zkZ,af cL,zkZ,af cL,zkZ,af ac];exact g20
 have gsa:Hs.get 2=some (.map (gK la)):=by rw[<-z,aJ,af ac,aJ,af ac,zkZ,af cL,zkZ,af cL,zkZ,af ac];exact hma
 have gs5:Hs.get (Z.next+1)=some (.cells [.map 2] 0 true):=by rw[<-z,aJ,af ac,aJ,am dT]
 have gs6:Hs.get (Z.next+2)=some (.cells [.map Z.next] 0 true):=by rw[<-z,aJ,am dT]
 have gsf:Hs.get Z.next=some (.map (dy [])):=by rw[<-z,aJ,af ac,aJ,af ac,zkZ,af cL,zkZ,af cL,zkZ,am dT];rfl
 clear z hma;have hlt2':3<=Z.next:=ac
 clear hlt2;have hE0:(0 == Z.next)=false:=zkV ac;have hE2:(2 == Z.next)=false:=zkV ac;refine zlL [1,2,5,6,23,24] [0,2,Z.next+1,Z.next+2] 25 p.funcs.length (fun i E H=>∃m,gD (p.funcs.drop i) m=gD p.funcs []/\H.get Z.next=some (.map (dy m))) eE ⟨[],ax,gsf⟩ ?_;rintro i E Y hi hcE hrH hnH hsI ⟨m,hJ,hm⟩;(try simp only[zlm,zlb,aR,zk1,zk7,Nat.reduceBEq,Nat.reduceAdd, *]at hcE);(try simp only[zlm,zlb,aR, *]at hrH);(try simp only[zk9,zli,zlI,bL,Nat.reduceAdd]at hnH);have hB0:(0 == Y.next)=false:=zkV ac;have hC0:(Y.next == 0)=false:=zkV ac;have hB1:(2 == Y.next)=false:=zkV ac;have hC1:(Y.next == 2)=false:=zkV ac;have hB2:(Z.next+1 == Y.next)=false:=zkV ac;have hC2:(Y.next == Z.next+1)=false:=zkV ac;have hB3:(Z.next+2 == Y.next)=false:=zkV ac;have hC3:(Y.next == Z.next+2)=false:=zkV ac;obtain⟨h30,h3a,h35,h36⟩:=hrH;repeat' (first
  |(apply ah ?_;clear hK K)|apply Rx.o ?_|apply bS ?_|(apply a0 (fun O j=>?_) (fun O j=>?_)<;>try(cases O;done))|apply ak ?_|(apply zkU fun K hK=>?_)|apply aG ?_|apply zk3 ?_|apply zlu ?_)
 .have hlt:i<p.funcs.length:=by simpa using O
  have hgx:p.funcs[i]?=some p.funcs[i]:=aT hlt;have hgn:(zmX p)[i]?=some p.funcs[i].name:=by rw[zmX,eS,hgx];rfl
  have hu:=Ak (P:=Tryz.prog) (t:=98) Tryz.underlying98 QI hm p.funcs[i].name p.funcs[i].params.length;rw[fS hlt,gD]at hJ;repeat' (first
   |(apply ah ?_;clear hK K)|apply Rx.o ?_|apply bS ?_|(apply zkU fun K hK=>?_)|(apply rK 6 fun K hK=>?_)|fail)
  refine⟨ac,zk8,zk8,zlF,oX,?_⟩;exact⟨_,hJ,gQ⟩
 .have hie:i=p.funcs.length:=by simp at O;omega
  rw[hie,gT,gD]at hJ;subst hJ;clear hie hsI hi O j;repeat' (first
   |(apply ah ?_;clear hK K)|fail)
  generalize hHq:Hp.set (Hp.alloc Y _) _ _=Hq;have nq:Y.next+1<=Hq.next:=by rw[<-hHq];exact aB _
  have U:∀k,k<Y.next->Hq.get k=Y.get k:=fun k hk=>by rw[<-hHq,aJ,af ac,zkZ,af ac]
  have q9:Hq.get Y.next=some (.cells [.int .i64 (znV false)] 0 true):=by rw[<-hHq,aJ,am rfl];rfl
  clear hHq;refine zlL [5,6,9,41,42] [] 43 p.funcs.length (fun i E H=>∃w,H.get Y.next=some (.cells [.int .i64 (znV w)] 0 true)/\wa p=tk (gD p.funcs []) (zlj p) (p.funcs.drop i) w/\H.get (Z.next+1)=some (.cells [.map 2] 0 true)/\(∃l,H.get 2=some (.map (gK l))/\∀s,zlo l s=zlo (zlj p) s)/\H.get (Z.next+2)=some (.cells [.map Z.next] 0 true)/\H.get Z.next=some (.map (dy (gD p.funcs [])))) eE ⟨false,q9,rfl,by rw[U _ ac];exact h35,⟨la,by rw[U _ ac];exact h3a,hla2⟩,by rw[U _ ac];exact h36,by rw[U _ ac];exact hm⟩ ?_;clear hm hla2 la h30 h3a h35 h36 gs0 gsa gs5 gs6 gsf q9 U;rintro i E H4 hi hcE hrH hnH hsI ⟨w,g9,hJ,g5,⟨la,ga,hla⟩,g6,gf⟩;(try simp only[zlm,zlb,aR,zk1,zk7,Nat.reduceBEq, *]at hcE);(try simp only[zlb, *]at hrH);(try simp only[zk9,zli,zlI,bL,Nat.reduceAdd]at hnH);repeat' (first
   |(apply ah ?_;clear hK K)|apply Rx.o ?_|(apply a0 (fun O j=>?_) (fun O j=>?_)<;>try(cases O;done))|apply ak ?_|(apply zkU fun K hK=>?_)|apply aG ?_|apply zk3 ?_|apply aF ?_|apply zlu ?_)
  .have hlt:i<p.funcs.length:=by simpa using O
   have hgx:p.funcs[i]?=some p.funcs[i]:=aT hlt;have hsm:=pV (cR hlt);have hsz:p.funcs[i].sz=1+p.funcs[i].name.length+zmd p.funcs[i].params+zmd p.funcs[i].locals+zld p.funcs[i].body+p.funcs[i].value.sz:=rfl;have hpl:=zno p.funcs[i].params;have hll:=zno p.funcs[i].locals;have hdr:tk (gD p.funcs []) (zlj p) (p.funcs.drop i) w=if pX (fun x _=>iW (p.funcs[i].params++p.funcs[i].locals) (zlj p) x) p.funcs[i]=true/\(zmG (od (gD p.funcs []) (p.funcs[i].params++p.funcs[i].locals) (zlj p)) p.funcs[i].body 0 w).1=true then tk (gD p.funcs []) (zlj p) (p.funcs.drop (i+1)) (zmG (od (gD p.funcs []) (p.funcs[i].params++p.funcs[i].locals) (zlj p)) p.funcs[i].body 0 w).2 else 3:=by rw[fS hlt];rfl
   rw[hdr]at hJ;clear hdr;have hfz:p.funcs[i].sz<2^60:=ac;generalize p.funcs[i]=g at *;repeat' (first
    |(apply ah ?_;clear hK K)|apply Rx.o ?_|apply bS ?_|apply ak ?_|(apply zkU fun K hK=>?_)|fail)
   generalize hHb:Hp.alloc (Hp.set _ _ _) _=Hb;have nb:Hb.next=H4.next+2:=by rw[<-hHb];rfl
   have oldb:∀k,k<H4.next->Hb.get k=H4.get k:=fun k hk=>by rw[<-hHb,zkZ,af iI,aJ,af ac,zkZ,af ac]
   have gbr:Hb.get (H4.next+1)=some (.cells [zlY g.params,zlY g.locals] 0 true):=by rw[<-hHb,zkZ,am dT]
   have gb11:Hb.get H4.next=some (.cells g.cells 0 true):=by rw[<-hHb,zkZ,af iI,aJ,am rfl]
   clear hHb;refine aZ rfl bc bi ?_;simp only[bj];refine aS ?_ (QH (x:=[g.params,g.locals]) (imm:=0) (zml (fun _=>rfl) rfl) gbr ac ⟨ax,b9⟩);rintro v V ⟨rfl,⟨lv,hmv,hlv⟩,old5,n5⟩;rw[show([g.params,g.locals]:List (List (List UInt8))).flatten=g.params++g.locals by simp]at hlv;have o5:∀k,k<H4.next->V.get k=H4.get k:=fun k hk=>by rw[old5 k ac,oldb k hk]
   have g511:V.get H4.next=some (.cells g.cells 0 true):=by rw[old5 _ ac];exact gb11
   have g59:V.get Y.next=some (.cells [.int .i64 (znV w)] 0 true):=by rw[o5 _ ac];exact g9
   have g55:V.get (Z.next+1)=some (.cells [.map 2] 0 true):=by rw[o5 _ ac];exact g5
   have g5a:V.get 2=some (.map (gK la)):=by rw[o5 _ ac];exact ga
   have g56:V.get (Z.next+2)=some (.cells [.map Z.next] 0 true):=by rw[o5 _ ac];exact g6
   have g5f:V.get Z.next=some (.map (dy (gD p.funcs []))):=by rw[o5 _ ac];exact gf
   clear o5 old5 gbr gb11 oldb g9 g5 ga g6 gf;have e1:(H4.next == V.next)=false:=zkV ac;dsimp only[zk6];repeat' (first
    |(apply ah ?_;clear hK K)|apply Rx.o ?_|apply bS ?_|apply ak ?_|(apply zkU fun K hK=>?_)|fail)
   generalize hHd:Hp.set (Hp.alloc V _) _ _=o;have nd:o.next=V.next+1:=by rw[<-hHd];rfl
   have C:∀k,k<V.next->o.get k=V.get k:=fun k hk=>by rw[<-hHd,aJ,af ac,zkZ,af ac]
   have d12:o.get V.next=some (.cells [.map Hb.next] 0 true):=by rw[<-hHd,aJ,am rfl,nb]
   clear hHd;have hok:RsOk ⟨V.next,Hb.next,Z.next+1,2,Z.next+2,Z.next,Y.next⟩ (g.params++g.locals) (zlj p) (gD p.funcs []) o:={
    b12:=d12
    bv:=⟨lv,by show o.get Hb.next=_;rw[C _ n5];exact hmv,hlv⟩
    b5:=by show o.get (Z.next+1)=_;rw[C _ ac];exact g55
    ba:=⟨la,by show o.get 2=_;rw[C _ ac];exact g5a,hla⟩
    b6:=by show o.get (Z.next+2)=_;rw[C _ ac];exact g56
    bf:=by show o.get Z.next=_;rw[C _ ac];exact g5f}
   have hd9:o.get Y.next=some (.cells [.int .i64 (znV w)] 0 true):=by rw[C _ ac];exact g59
   have hd11:o.get H4.next=some (.cells g.cells 0 true):=by rw[C _ ac];exact g511
   have hlX:∀n,o.next<=n->RsLt ⟨V.next,Hb.next,Z.next+1,2,Z.next+2,Z.next,Y.next⟩ n:=fun n hn=>⟨by show V.next<n;omega,by show Hb.next<n;omega,by show Z.next+1<n;omega,by show 2<n;omega,by show Z.next+2<n;omega,by show Z.next<n;omega⟩
   have hnX:RsNe ⟨V.next,Hb.next,Z.next+1,2,Z.next+2,Z.next,Y.next⟩:=⟨by show V.next≠Y.next;omega,by show Hb.next≠Y.next;omega,by show Z.next+1≠Y.next;omega,by show 2≠Y.next;omega,by show Z.next+2≠Y.next;omega,by show Z.next≠Y.next;omega⟩;clear g59 g55 g5a g56 g5f d12 C hmv hlv hla g511;refine aZ rfl bc bi ?_;simp only[bj];refine aS ?_ (QB hps (I:=fun H'=>jc o.next o H') (fun a b h1 h2=>h1.trans h2) (zA9 (zml (fun _=>rfl) rfl) (hlX _ (aB _)) (fun a b h1 h2=>h1.trans h2) fun H' h=>hok.low (hlX _ (aB _)) h) g o hfz (aB _) (qR _ _));rintro v H6 ⟨rfl,hf6,J⟩;have n6:=hf6.next
   have hok6:=hok.low (hlX _ (aB _)) J;have h69:H6.get Y.next=some (.cells [.int .i64 (znV w)] 0 true):=by rw[J _ ac];exact hd9
   have h611:H6.get H4.next=some (.cells g.cells 0 true):=by rw[J _ ac];exact hd11
   clear J hf6 hok hd9 hd11;dsimp only[zk6];cases hwf:pX (fun x _=>iW (g.params++g.locals) (zlj p) x) g with
   |false=>
    repeat' (first
     |(apply ah ?_;clear hK K)|apply Rx.o ?_|(apply cz (fun hg hgp=>?_) (fun hg hgp=>?_)<;>try(cases hg;done))|(apply a0 (fun O j=>?_) (fun O j=>?_)<;>try(cases O;done))|apply ak ?_|(apply zkU fun K hK=>?_)|apply aF ?_|fail)
    all_goals (refine⟨eI,_,eR,?_⟩;try simp only[zkX])
    rw[hJ,hwf];simp
   |true=>
    rw[hwf]at hJ;repeat' (first
     |(apply ah ?_;clear hK K)|apply Rx.o ?_|(apply cz (fun hg hgp=>?_) (fun hg hgp=>?_)<;>try(cases hg;done))|apply ak ?_|(apply zkU fun K hK=>?_)|fail)
    refine aZ rfl bc bi ?_;simp only[bj];refine aS ?_ (xX (zml (fun _=>rfl) rfl) (base:=H6.next) (I:=fun(w:Bool) H=>RsOk ⟨V.next,Hb.next,Z.next+1,2,Z.next+2,Z.next,Y.next⟩ (g.params++g.locals) (zlj p) (gD p.funcs []) H/\H.get Y.next=some (.cells [.int .i64 (znV w)] 0 true)) (fun s a b h1 h2=>⟨h1.1.low (hlX _ n6) h2,by rw[h2 _ ac];exact h1.2⟩) (zBa (zml (fun _=>rfl) rfl) (hlX _ n6) (by show Y.next<_;omega) hnX) (zld g.body+1) g.body ac 0 w H6 ac (aB _) ⟨hok6,h69⟩);rintro v H7 ⟨rfl,hf7,hok7,h79⟩;have n7:=hf7.next
    dsimp only[zk6];repeat' (first
     |(apply ah ?_;clear hK K)|apply Rx.o ?_|(apply a0 (fun O j=>?_) (fun O j=>?_)<;>try(cases O;done))|apply ak ?_|(apply zkU fun K hK=>?_)|apply zk3 ?_|apply aF ?_|fail)
    .all_goals (refine⟨eI,_,eR,?_⟩;try simp only[zkX])
     rw[hJ];simp_all
    .refine⟨ac,zk8,zk8,zlF,oX,?_⟩;refine⟨_,h79,?_,hok7.b5,hok7.ba,hok7.b6,hok7.bf⟩;rw[hJ,am ⟨rfl,by simp_all⟩]
  .repeat' (first
    |(apply ah ?_;clear hK K)|fail)
   all_goals (refine⟨eI,_,eR,?_⟩;try simp only[zkX])
   have hie:i=p.funcs.length:=by simp at O;omega
   rw[hJ,hie,gT,tk,znV])
end
section
def tyW4e.tyF:=ad @cJ (ad @dd (ad @gY (ad @iQ (ad @fI (ad @fx (ad @em (ad @zms (ad @iR (ad @jw (@eY))))))))))
open tyW4e
noncomputable def QK:{c:SC // aC 68 (Tryz.f72.body.getD .skip)=c}:=by
 refine⟨?_,?_⟩;rotate_left
 .simp only[Tryz.f72,bI,aC,zll,zle,zlp,zln,Nat.blt,Nat.ble];rfl
theorem ztK{cfg:Cfg}(hp:Plains cfg)(hw:Plain cfg 72)(h1w:Plain cfg 117)(h2w:Plain cfg 119)(p:Pr)(hz:p.sz<2^60):
 zk5 Tryz.prog cfg 72 [.agg p.cells] zlv fun v _=>v=.bool (md p):=by
 have hpz:p.sz=1+zmL p.arrays+zmv p.funcs:=rfl;have hla:=znR p.arrays;have hlf:=znQ p.funcs;have hla2:p.arrays.length<2^60:=ac;have hlf2:p.funcs.length<2^60:=ac;refine zlf (M:=68) (rs:=[.tmp 2]) (hw.call _) hw.ice hw.froz Tryz.func72 rfl rfl QK.2 rfl ?_;dsimp only[QK,zD,Nat.reduceAdd];repeat' (first
  |(apply ah ?_;clear hK K)|apply Rx.o ?_|(apply cz (fun U Y=>?_) (fun U Y=>?_)<;>try(cases U;done))|(apply a0 (fun C j=>?_) (fun C j=>?_)<;>try(cases C;done))|apply ak ?_|(apply zkU fun K hK=>?_)|apply aG ?_|apply zk3 ?_|apply aF ?_|fail)
 .all_goals (refine⟨eI,_,eR,?_⟩;try simp only[zkX])
  simp_all[md];try(intros;omega)
 .refine qJ (fun i E H=>p.arrays.all (fun a=>!decide (a.len<1) && !decide (16<a.len))=(p.arrays.drop i).all (fun a=>!decide (a.len<1) && !decide (16<a.len))/\E.at 1=.ptr 0 0/\E.at 21=.lst (p.arrays.map Ar.cells)/\E.at 22=.int .i64 p.arrays.length/\E.at 23=.int .i64 i/\0<H.next/\H.get 0=some (.cells p.cells 0 true)) p.arrays.length ?_ ?_
  .rintro i E H hi ⟨hc,h1,h21,h22,h23,hn,hg0⟩;have e0:(0 == H.next)=false:=b9;repeat' (first
    |(apply ah ?_;clear hK K)|apply Rx.o ?_|(apply a0 (fun C j=>?_) (fun C j=>?_)<;>try(cases C;done))|apply ak ?_|(apply zkU fun K hK=>?_)|apply aG ?_|apply zk3 ?_|apply zlu ?_)
   .have Z:i<p.arrays.length:=by simpa using C
    have hgx:p.arrays[i]?=some p.arrays[i]:=aT Z;have hd:(p.arrays.drop i).all (fun a=>!decide (a.len<1) && !decide (16<a.len))=((!decide (p.arrays[i].len<1) && !decide (16<p.arrays[i].len))&&(p.arrays.drop (i+1)).all (fun a=>!decide (a.len<1) && !decide (16<a.len))):=D9;repeat' (first
     |(apply ah ?_;clear hK K)|apply Rx.o ?_|apply bS ?_|(apply cz (fun U Y=>?_) (fun U Y=>?_)<;>try(cases U;done))|(apply a0 (fun C j=>?_) (fun C j=>?_)<;>try(cases C;done))|apply ak ?_|(apply zkU fun K hK=>?_)|apply zk3 ?_|apply aF ?_|fail)
    .all_goals (refine⟨eI,_,eR,?_⟩;try simp only[zkX])
     have z:p.arrays.all (fun a=>!decide (a.len<1) && !decide (16<a.len))=false:=by rw[hc,hd];simp_all
     simp only[md,z];simp
    .refine⟨Z,?_,eE,eE,eE,?_,iI,zn2⟩
     .rw[hc,hd];simp_all
     .simp only[kh,Nat.reduceBEq,iV,zm3 (show i<2^62 by omega)]
    .all_goals (refine⟨eI,_,eR,?_⟩;try simp only[zkX])
     have z:p.arrays.all (fun a=>!decide (a.len<1) && !decide (16<a.len))=false:=by rw[hc,hd];simp_all
     simp only[md,z];simp
   .have hia:i=p.arrays.length:=by simp at C;omega
    have hca:p.arrays.all (fun a=>!decide (a.len<1) && !decide (16<a.len))=true:=by rw[hc,hia];simp
    clear hc;repeat' (first
     |(apply ah ?_;clear hK K)|fail)
    refine qJ (fun i E H=>p.funcs.all kB=(p.funcs.drop i).all kB/\E.at 37=.lst (p.funcs.map Fu.cells)/\E.at 38=.int .i64 p.funcs.length/\E.at 39=.int .i64 i/\0<H.next) p.funcs.length ?_ ?_
    .rintro i E H hi ⟨hc,h37,h38,h39,hn⟩;repeat' (first
      |(apply ah ?_;clear hK K)|apply Rx.o ?_|(apply a0 (fun C j=>?_) (fun C j=>?_)<;>try(cases C;done))|apply ak ?_|(apply zkU fun K hK=>?_)|apply aG ?_|apply zk3 ?_|apply aF ?_|apply zlu ?_)
     .have Z:i<p.funcs.length:=by simpa using C
      have hgx:p.funcs[i]?=some p.funcs[i]:=aT Z;have hd:(p.funcs.drop i).all kB=(kB p.funcs[i]&&(p.funcs.drop (i+1)).all kB):=D9;have hxm:=pV (cR Z);generalize hx0:p.funcs[i]=x at *;have hsx:x.sz=1+x.name.length+zmd x.params+zmd x.locals+zld x.body+x.value.sz:=rfl;repeat' (first
       |(apply ah ?_;clear hK K)|apply Rx.o ?_|apply bS ?_|(apply cz (fun U Y=>?_) (fun U Y=>?_)<;>try(cases U;done))|(apply a0 (fun C j=>?_) (fun C j=>?_)<;>try(cases C;done))|apply ak ?_|(apply zkU fun K hK=>?_)|apply aF ?_|fail)
      .generalize O:Hp.set _ (H.next+2) _=m;have hn5:m.next=H.next+3:=by rw[<-O];rfl
       have hg5a:m.get H.next=some (.cells x.cells 0 true):=by rw[<-O];simp only[get_set,vz,zk9,zli,Gx,iE,Nat.reduceAdd,D5,iV,pQ]
       have hg5b:m.get (H.next+1)=some (.cells [.int .i64 0] 0 true):=QC;have hg5c:m.get (H.next+2)=some (.cells [.int .i64 0] 0 true):=QC;refine aZ rfl bc bi ?_;simp only[bj];refine aS ?_ (xX hp.ws (base:=H.next+3) (fun s Ha Hb h J=>⟨by rw[J _ ac];exact h.1,by rw[J _ ac];exact h.2.1,fun r q1 q2 q3=>by rw[J r q1];exact h.2.2 r q1 q2 q3⟩) (zA3 h1w (base:=H.next+3) (rn:=H.next+1) (rl:=H.next+2) ac ac ac m) (zld x.body+1) x.body ac 0 (0,0) m ac ac ⟨hg5b,hg5c,fun _ _ _ _=>rfl⟩);rintro v H6 ⟨rfl,hf6,hi6⟩;have hn6:=hf6.next
       have hg6:H6.get H.next=some (.cells x.cells 0 true):=by rw[hi6.2.2 _ ac ac ac];exact hg5a
       dsimp only[zk6];repeat' (first
        |(apply ah ?_;clear hK K)|apply Rx.o ?_|(apply cz (fun U Y=>?_) (fun U Y=>?_)<;>try(cases U;done))|(apply a0 (fun C j=>?_) (fun C j=>?_)<;>try(cases C;done))|apply ak ?_|(apply zkU fun K hK=>?_)|apply aF ?_|fail)
       .refine aZ rfl bc bi ?_;simp only[bj];refine aS ?_ (QB hp (base:=0) (I:=fun _=>True) (fun _ _ _ _=>trivial) (zA4 h2w (fun _ _ _ _=>trivial)) x H6 ac ac trivial);rintro v H7 ⟨rfl,hf7,_⟩;have hn7:=hf7.next
        dsimp only[zk6];repeat' (first
         |(apply ah ?_;clear hK K)|apply Rx.o ?_|(apply cz (fun U Y=>?_) (fun U Y=>?_)<;>try(cases U;done))|(apply a0 (fun C j=>?_) (fun C j=>?_)<;>try(cases C;done))|apply ak ?_|(apply zkU fun K hK=>?_)|apply zk3 ?_|apply aF ?_|fail)
        .all_goals (refine⟨eI,_,eR,?_⟩;try simp only[zkX])
         have V:p.funcs.all kB=false:=by rw[hc,hd];simp_all[kB]
         simp only[md,V];simp
        .refine⟨Z,?_,eE,eE,?_,ac⟩
         .rw[hc,hd];simp_all[kB]
         .simp only[kh,Nat.reduceBEq,iV,zm3 (show i<2^62 by omega)]
       .all_goals (refine⟨eI,_,eR,?_⟩;try simp only[zkX])
        have V:p.funcs.all kB=false:=by rw[hc,hd];simp_all[kB]
        simp only[md,V];simp
      .all_goals (refine⟨eI,_,eR,?_⟩;try simp only[zkX])
       have o:kB x=false:=by
        simp only[kB,xp,lJ];first|exact .inl (.inl (.inl jF))|exact .inl (.inl (.inr jF))
       have V:p.funcs.all kB=false:=by rw[hc,hd,o,gy]
       simp only[md,V];simp
      .all_goals (refine⟨eI,_,eR,?_⟩;try simp only[zkX])
       have o:kB x=false:=by
        simp only[kB,xp,lJ];first|exact .inl (.inl (.inl jF))|exact .inl (.inl (.inr jF))
       have V:p.funcs.all kB=false:=by rw[hc,hd,o,gy]
       simp only[md,V];simp
     .all_goals (refine⟨eI,_,eR,?_⟩;try simp only[zkX])
      have:i=p.funcs.length:=tc;simp_all[md];try(intros;omega)
    .exact⟨rfl,eE,eE,eE,ac⟩
  .exact⟨rfl,eE,eE,eE,eE,by simp[zk9,zlI],zn2⟩
 .all_goals (refine⟨eI,_,eR,?_⟩;try simp only[zkX])
  simp_all[md];try(intros;omega)
end
section
def tyW4f.tyF:=ad @cJ (ad @oQ (@dd))
open tyW4f
noncomputable def QL:{c:SC // aC 21 (Tryz.f203.body.getD .skip)=c}:=by
 refine⟨?_,?_⟩;rotate_left
 .simp only[Tryz.f203,bI,aC,zll,zle,zlp,zln,Nat.blt,Nat.ble];rfl
noncomputable def QM:{c:SC // aC 9 (Tryz.f197.body.getD .skip)=c}:=by
 refine⟨?_,?_⟩;rotate_left
 .simp only[Tryz.f197,bI,aC,zll,zle,zlp,zln,Nat.blt,Nat.ble];rfl
noncomputable def QN:{c:SC // aC 23 (Tryz.f195.body.getD .skip)=c}:=by
 refine⟨?_,?_⟩;rotate_left
 .simp only[Tryz.f195,bI,aC,zll,zle,zlp,zln,Nat.blt,Nat.ble];rfl
noncomputable def QO:{c:SC // aC 34 (Tryz.f182.body.getD .skip)=c}:=by
 refine⟨?_,?_⟩;rotate_left
 .simp only[Tryz.f182,bI,aC,zll,zle,zlp,zln,Nat.blt,Nat.ble];rfl
noncomputable def QP:{c:SC // aC 37 (Tryz.f198.body.getD .skip)=c}:=by
 refine⟨?_,?_⟩;rotate_left
 .simp only[Tryz.f198,bI,aC,zll,zle,zlp,zln,Nat.blt,Nat.ble];rfl
theorem zpj{cfg:Cfg}(O:Plain cfg 203)(n:Int)(H:Hp):zk5 Tryz.prog cfg 203 [.int .u8 n] H fun v H'=>v=.bool (pY n)/\H'=H:=by
 refine zlf (M:=21) (rs:=[.tmp 2]) (O.call _) O.ice O.froz Tryz.func203 rfl rfl QL.2 rfl ?_;dsimp only[QL,zD,Nat.reduceAdd];repeat' (first
  |(apply ah ?_;clear hK K)|apply Rx.o ?_|apply qP ?_|(apply cz (fun Z Y=>?_) (fun Z Y=>?_)<;>try(cases Z;done))|apply ak ?_|(apply zkU fun K hK=>?_)|apply aF ?_)
 all_goals (refine⟨eI,_,eR,?_⟩;try simp only[zkX])
 all_goals (refine⟨?_,ib⟩;simp_all[pY]<;>omega)
theorem I8{cfg:Cfg}(O:Plain cfg 197)(n:Int)(H:Hp):zk5 Tryz.prog cfg 197 [.int .u8 n] H fun v H'=>v=.bool (nT n)/\H'=H:=by
 refine zlf (M:=9) (rs:=[.tmp 2]) (O.call _) O.ice O.froz Tryz.func197 rfl rfl QM.2 rfl ?_;dsimp only[QM,zD,Nat.reduceAdd];repeat' (first
  |(apply ah ?_;clear hK K)|apply Rx.o ?_|(apply cz (fun Z Y=>?_) (fun Z Y=>?_)<;>try(cases Z;done))|apply ak ?_|(apply zkU fun K hK=>?_)|apply aF ?_)
 all_goals (refine⟨eI,_,eR,?_⟩;try simp only[zkX])
 all_goals (refine⟨?_,ib⟩;simp_all[nT]<;>omega)
theorem zq1{cfg:Cfg}(J:Plain cfg 195)(z:Plain cfg 203)(hd:Plain cfg 197)(s:List UInt8)(m:s.length<2^60)(H:Hp):
 zk5 Tryz.prog cfg 195 [.str s] H fun v H'=>v=.int .i64 (zmP s)/\H'=H:=by
 refine zlf (M:=23) (rs:=[.tmp 2]) (J.call _) J.ice J.froz Tryz.func195 rfl rfl QN.2 rfl ?_;dsimp only[QN,zD,Nat.reduceAdd];repeat' (first
  |(apply ah ?_;clear hK K)|apply Rx.o ?_|apply ak ?_|(apply zkU fun K hK=>?_)|apply aG ?_|fail)
 refine qJ (fun i E H'=>zmP s=i+zmP (s.drop i)/\E.at 0=.str s/\E.at 3=.int .i64 i/\H'=H) s.length ?_ ?_
 .rintro i E H' hi ⟨hc,h0,h3,rfl⟩;repeat' (first
   |(apply ah ?_;clear hK K)|apply Rx.o ?_|apply qP ?_|(apply cz (fun Z Y=>?_) (fun Z Y=>?_)<;>try(cases Z;done))|(apply a0 (fun U j=>?_) (fun U j=>?_)<;>try(cases U;done))|apply ak ?_|(apply zkU fun K hK=>?_)|apply aF ?_|apply zlu ?_)
  .have C:i<s.length:=by omega
   have o:s[i]?=some s[i]:=aT C;have O:zmP (s.drop i)=if lL s[i]then zmP (s.drop (i+1))+1 else 0:=by rw[fS C,zmP]
   repeat' (first
    |apply Rx.o ?_|(apply cz (fun Z Y=>?_) (fun Z Y=>?_)<;>try(cases Z;done))|fail)
   refine aZ rfl bc bi ?_;simp only[bj];refine aS ?_ (zpj z s[i].toNat H');rintro v _ ⟨rfl,rfl⟩;dsimp only[zk6];repeat' (first
    |(apply ah ?_;clear hK K)|apply Rx.o ?_|(apply cz (fun Z Y=>?_) (fun Z Y=>?_)<;>try(cases Z;done))|(apply a0 (fun U j=>?_) (fun U j=>?_)<;>try(cases U;done))|(apply zkU fun K hK=>?_)|apply aG ?_|apply zk3 ?_|fail)
   .refine aZ rfl bc bi ?_;simp only[bj];refine aS ?_ (I8 hd s[i].toNat _);rintro v _ ⟨rfl,rfl⟩;dsimp only[zk6];repeat' (first
     |(apply ah ?_;clear hK K)|apply Rx.o ?_|(apply cz (fun Z Y=>?_) (fun Z Y=>?_)<;>try(cases Z;done))|(apply a0 (fun U j=>?_) (fun U j=>?_)<;>try(cases U;done))|apply ak ?_|(apply zkU fun K hK=>?_)|apply aG ?_|apply zk3 ?_|apply aF ?_|apply zlu ?_)
    .have V:lL s[i]=true:=by simp_all[lL]
     refine⟨C,?_,eE,?_,rfl⟩
     .rw[hc,O,V];simp;omega
     .simp only[kh,Nat.reduceBEq,iV,zm3 (show i<2^62 by omega)]
    .have V:lL s[i]=false:=by simp_all[lL]
     all_goals (refine⟨eI,_,eR,?_⟩;try simp only[zkX])
     exact⟨by rw[hc,O,V];simp,ib⟩
   .have V:lL s[i]=true:=by simp_all[lL]
    refine⟨C,?_,eE,?_,rfl⟩
    .rw[hc,O,V];simp;omega
    .simp only[kh,Nat.reduceBEq,iV,zm3 (show i<2^62 by omega)]
  .all_goals (refine⟨eI,_,eR,?_⟩;try simp only[zkX])
   have I:i=s.length:=ac;refine⟨?_,ib⟩;rw[hc,I];simp[zmP]
 .exact⟨ax,eE,eE,rfl⟩
theorem QQ{cfg:Cfg}(hw:Plain cfg 182)(s:List UInt8)(hs:s.length<2^60)(H:Hp):
 zk5 Tryz.prog cfg 182 [.str s] H fun v H'=>v=.int .i64 (zmT false s)/\H'=H:=by
 refine zlf (M:=34) (rs:=[.tmp 2]) (hw.call _) hw.ice hw.froz Tryz.func182 rfl rfl QO.2 rfl ?_;dsimp only[QO,zD,Nat.reduceAdd];repeat' (first
  |(apply ah ?_;clear hK K)|apply Rx.o ?_|apply ak ?_|(apply zkU fun K hK=>?_)|apply aG ?_|fail)
 refine zr (fun n E H'=>∃i:Nat,n=s.length-i/\i<=s.length/\zmT false s=i+zmT false (s.drop i)/\E.at 0=.str s/\E.at 3=.int .i64 i/\H'=H) ?_ (n:=s.length) ?_
 .rintro n E H' ⟨i,rfl,hi,hc,h0,h3,rfl⟩;repeat' (first
   |(apply ah ?_;clear hK K)|apply Rx.o ?_|(apply a0 (fun Y Z=>?_) (fun Y Z=>?_)<;>try(cases Y;done))|apply ak ?_|(apply zkU fun K hK=>?_)|apply aG ?_|apply zk3 ?_|apply aF ?_|apply zlu ?_)
  .have I:i<s.length:=by omega
   have hgx:s[i]?=some s[i]:=aT I;have O:zmT false (s.drop i)=if kX s[i]then zmT false (s.drop (i+1))+1 else if s[i].toNat=35 then zmT true (s.drop (i+1))+1 else 0:=by rw[fS I,zmT]
   repeat' (first
    |(apply ah ?_;clear hK K)|apply Rx.o ?_|(apply a0 (fun Y Z=>?_) (fun Y Z=>?_)<;>try(cases Y;done))|apply ak ?_|(apply zkU fun K hK=>?_)|apply aG ?_|apply zk3 ?_|apply aF ?_|fail)
   .have C:kX s[i]=true:=by unfold kX;simp;omega
    refine⟨s.length-(i+1),ac,i+1,rfl,ac,?_,eE,?_,rfl⟩
    .rw[hc,O,am C];omega
    .simp only[kh,Nat.reduceBEq,iV,zm3 (show i<2^62 by omega)]
   .have C:kX s[i]=true:=by unfold kX;simp;omega
    refine⟨s.length-(i+1),ac,i+1,rfl,ac,?_,eE,?_,rfl⟩
    .rw[hc,O,am C];omega
    .simp only[kh,Nat.reduceBEq,iV,zm3 (show i<2^62 by omega)]
   .have C:kX s[i]=true:=by unfold kX;simp;omega
    refine⟨s.length-(i+1),ac,i+1,rfl,ac,?_,eE,?_,rfl⟩
    .rw[hc,O,am C];omega
    .simp only[kh,Nat.reduceBEq,iV,zm3 (show i<2^62 by omega)]
   .have C:kX s[i]=true:=by unfold kX;simp;omega
    refine⟨s.length-(i+1),ac,i+1,rfl,ac,?_,eE,?_,rfl⟩
    .rw[hc,O,am C];omega
    .simp only[kh,Nat.reduceBEq,iV,zm3 (show i<2^62 by omega)]
   .have o:s[i].toNat=35:=by omega
    have C:kX s[i]=false:=by unfold kX;simp;omega
    have hln:kC (s.drop i)=kC (s.drop (i+1))+1:=by rw[fS I,kC,af ac]
    have m:zmT false s=i+kC (s.drop i)+zmT false (s.drop (i+kC (s.drop i))):=by
     rw[hc,O,C,af ax,am o,Mt,Fh,hln,show i+1+kC (s.drop (i+1))=i+(kC (s.drop (i+1))+1) by omega];omega
    have hle:=Ms (s.drop i);rw[lA]at hle;refine zr (fun n E H''=>∃j:Nat,n=s.length-j/\i<=j/\j<=s.length/\i+kC (s.drop i)=j+kC (s.drop j)/\E.at 0=.str s/\E.at 3=.int .i64 j/\H''=H') ?_ (n:=s.length-i) ?_
    .rintro n E2 H2 ⟨j,rfl,hij,hj,V,k0,k3,rfl⟩;repeat' (first
      |(apply ah ?_;clear hK K)|apply Rx.o ?_|(apply cz (fun z J=>?_) (fun z J=>?_)<;>try(cases z;done))|(apply a0 (fun Y Z=>?_) (fun Y Z=>?_)<;>try(cases Y;done))|apply ak ?_|(apply zkU fun K hK=>?_)|apply zlu ?_)
     .have U:j<s.length:=by omega
      have hgx2:s[j]?=some s[j]:=aT U;have hdj:kC (s.drop j)=if s[j].toNat=10 then 0 else kC (s.drop (j+1))+1:=by rw[fS U,kC]
      repeat' (first
       |(apply ah ?_;clear hK K)|apply Rx.o ?_|(apply cz (fun z J=>?_) (fun z J=>?_)<;>try(cases z;done))|(apply a0 (fun Y Z=>?_) (fun Y Z=>?_)<;>try(cases Y;done))|(apply zkU fun K hK=>?_)|apply aG ?_|apply zk3 ?_|apply zlu ?_)
      .refine⟨s.length-(j+1),ac,j+1,rfl,ac,ac,?_,eE,?_,rfl⟩
       .rw[V,hdj,af (by simp_all;omega)];omega
       .simp only[kh,Nat.reduceBEq,iV,zm3 (show j<2^62 by omega)]
      .have h10:s[j].toNat=10:=by simp_all;omega
       rw[hdj,am h10,sG]at V;refine⟨s.length-j,ac,j,rfl,ac,?_,eE,eE,ib⟩;rw[m,V]
     .have hje:j=s.length:=by omega
      have h0j:kC (s.drop j)=0:=by rw[hje];simp[kC]
      rw[h0j,sG]at V;refine⟨s.length-j,ac,j,rfl,ac,?_,eE,eE,ib⟩;rw[m,V]
    .exact⟨i,rfl,ac,ac,rfl,eE,eE,rfl⟩
   .have C:kX s[i]=false:=by unfold kX;simp;omega
    all_goals (refine⟨eI,_,eR,?_⟩;try simp only[zkX])
    refine⟨?_,ib⟩;rw[hc,O,C,af ax,af ac];simp
  .all_goals (refine⟨eI,_,eR,?_⟩;try simp only[zkX])
   have hie:i=s.length:=ac;refine⟨?_,ib⟩;rw[hc,hie];simp[zmT]
 .exact⟨0,ax,ac,ax,eE,eE,rfl⟩
end
section
def tyW4g.tyF:=ad @cJ (ad @dd (ad @ue (ad @GN (ad @GP (ad @CD (ad @oQ (ad @zc5 (ad @WI (ad @GB (@Tryz.underlying9))))))))))
open tyW4g
noncomputable def QR:{c:SC // aC 35 (Tryz.f196.body.getD .skip)=c}:=by
 refine⟨?_,?_⟩;rotate_left
 .simp only[Tryz.f196,bI,aC,zll,zle,zlp,zln,Nat.blt,Nat.ble];rfl
noncomputable def QS:{c:SC // aC 41 (Tryz.f183.body.getD .skip)=c}:=by
 refine⟨?_,?_⟩;rotate_left
 .simp only[Tryz.f183,bI,aC,zll,zle,zlp,zln,Nat.blt,Nat.ble];rfl
noncomputable def QT:{c:SC // aC 49 (Tryz.f156.body.getD .skip)=c}:=by
 refine⟨?_,?_⟩;rotate_left
 .simp only[Tryz.f156,bI,aC,zll,zle,zlp,zln,Nat.blt,Nat.ble];rfl
theorem zk0{cfg:Cfg}(O:Plain cfg 198)(hd:Plain cfg 197)(s:List UInt8)(U:s≠[])(I:s.length<2^60)(H:Hp):
 zk5 Tryz.prog cfg 198 [.str s] H fun v H'=>(∃b,v=.bool b)/\H'=H:=by
 have m:0<s.length:=vK.2 U;have J:s[0]?=some s[0]:=aT m;refine zlf (M:=37) (rs:=[.tmp 2]) (O.call _) O.ice O.froz Tryz.func198 rfl rfl QP.2 rfl ?_;dsimp only[QP,zD,Nat.reduceAdd];repeat' (first
  |(apply ah ?_;clear hK K)|apply Rx.o ?_|apply ak ?_|(apply zkU fun K hK=>?_)|apply aG ?_|fail)
 refine qJ (fun i E H'=>E.at 0=.str s/\E.at 3=.int .i64 i/\H'=H) s.length ?_ ?_
 .rintro i E H' o ⟨k0,k3,rfl⟩;repeat' (first
   |(apply ah ?_;clear hK K)|apply Rx.o ?_|(apply a0 (fun C j=>?_) (fun C j=>?_)<;>try(cases C;done))|apply ak ?_|(apply zkU fun K hK=>?_)|apply aG ?_|apply zk3 ?_|apply zlu ?_)
  .have Z:i<s.length:=by omega
   have z:s[i]?=some s[i]:=aT Z;repeat' (first
    |apply Rx.o ?_|fail)
   refine aZ rfl bc bi ?_;simp only[bj];refine aS ?_ (I8 hd s[i].toNat H');rintro v _ ⟨rfl,rfl⟩;dsimp only[zk6];repeat' (first
    |(apply ah ?_;clear hK K)|apply Rx.o ?_|(apply a0 (fun C j=>?_) (fun C j=>?_)<;>try(cases C;done))|apply ak ?_|(apply zkU fun K hK=>?_)|apply zk3 ?_|apply aF ?_|fail)
   .all_goals (refine⟨eI,_,eR,?_⟩;try simp only[zkX])
    exact⟨⟨_,rfl⟩,ib⟩
   .refine⟨Z,eE,?_,ib⟩;simp only[kh,Nat.reduceBEq,iV,zm3 (show i<2^62 by omega)]
  .repeat' (first
    |(apply ah ?_;clear hK K)|apply Ry.o ?_|apply Ry.gu ?_|(apply eA (fun V Y=>?_) (fun V Y=>?_)<;>try(cases V;done))|apply aF ?_|fail)
   all_goals (refine⟨eI,_,eR,?_⟩;try simp only[zkX])
   all_goals exact⟨⟨_,rfl⟩,ib⟩
 .exact⟨eE,eE,rfl⟩
def zgZ:List (List UInt8):=[[62,62,62],[60,60],[62,62],[60,61],[62,61],[61,61],[33,61]]
theorem znq{cfg:Cfg}(I:Plain cfg 196)(hplan:∀id,cfg.plan 196 id=.text)(s:List UInt8)(h0:s≠[])(hs:s.length<2^60)(H:Hp):
 zk5 Tryz.prog cfg 196 [.str s] H fun v H'=>(∃n:Nat,v=.int .i64 n/\n<=s.length)/\H'=H:=by
 have m:0<s.length:=vK.2 h0;have hg0:s[0]?=some s[0]:=aT m;have hbld:zma Tryz.prog 227 [(0,.str [62,62,62]),(1,.str [60,60]),(2,.str [62,62]),(3,.str [60,61]),(4,.str [62,61]),(5,.str [61,61]),(6,.str [33,61])]=some (.agg [.str [62,62,62],.str [60,60],.str [62,62],.str [60,61],.str [62,61],.str [61,61],.str [33,61]]):=aj;refine zlf (M:=35) (rs:=[.tmp 2]) (I.call _) I.ice I.froz Tryz.func196 rfl rfl QR.2 rfl ?_;dsimp only[QR,zD,Nat.reduceAdd];repeat' (first
  |(apply ah ?_;clear hK K)|apply Rx.o ?_|apply ak ?_|(apply zkU fun K hK=>?_)|apply aG ?_|fail)
 refine qJ (fun i E H'=>E.at 0=.str s/\E.at 6=.agg [.str [62,62,62],.str [60,60],.str [62,62],.str [60,61],.str [62,61],.str [61,61],.str [33,61]]/\E.at 7=.int .i64 i/\H'=H) 7 ?_ ?_
 .rintro i E H' hi ⟨k0,k6,k7,rfl⟩;repeat' (first
   |(apply ah ?_;clear hK K)|apply Rx.o ?_|(apply a0 (fun C Z=>?_) (fun C Z=>?_)<;>try(cases C;done))|apply ak ?_|(apply zkU fun K hK=>?_)|apply aG ?_|apply zk3 ?_|apply zlu ?_)
  .have Y:i<7:=by omega
   have o:∃w:List UInt8,qC Tryz.prog 227 (.agg [.str [62,62,62],.str [60,60],.str [62,62],.str [60,61],.str [62,61],.str [61,61],.str [33,61]]) (.int .i64 i)=some (.str w):=by
    refine⟨zgZ.getD i [],?_⟩;rcases(show i=0\/i=1\/i=2\/i=3\/i=4\/i=5\/i=6 by omega)with rfl|rfl|rfl|rfl|rfl|rfl|rfl<;>kernel_rfl
   obtain⟨w,hw1⟩:=o;repeat' (first
    |(apply ah ?_;clear hK K)|apply Rx.o ?_|(apply cz (fun U V=>?_) (fun U V=>?_)<;>try(cases U;done))|(apply a0 (fun C Z=>?_) (fun C Z=>?_)<;>try(cases C;done))|apply ak ?_|(apply zkU fun K hK=>?_)|apply zk3 ?_|fail)
   .have z:w.length<=s.length:=by omega
    repeat' (first
     |(apply ah ?_;clear hK K)|apply Rx.o ?_|(apply cz (fun U V=>?_) (fun U V=>?_)<;>try(cases U;done))|(apply a0 (fun C Z=>?_) (fun C Z=>?_)<;>try(cases C;done))|apply ak ?_|(apply zkU fun K hK=>?_)|apply zk3 ?_|apply aF ?_|fail)
    .all_goals (refine⟨eI,_,eR,?_⟩;try simp only[zkX])
     exact⟨⟨w.length,rfl,z⟩,ib⟩
    .refine⟨Y,eE,eE,?_,ib⟩;simp only[kh,Nat.reduceBEq,iV,zm3 (show i<2^62 by omega)]
   .refine⟨Y,eE,eE,?_,ib⟩;simp only[kh,Nat.reduceBEq,iV,zm3 (show i<2^62 by omega)]
  .repeat' (first
    |(apply ah ?_;clear hK K)|fail)
   refine qJ (fun i E O=>E.at 0=.str s/\E.at 5=.int .i64 i/\O=H') 23 ?_ ?_
   .rintro j E O hj ⟨k0,k5,rfl⟩;repeat' (first
     |(apply ah ?_;clear hK K)|apply Rx.o ?_|(apply a0 (fun C Z=>?_) (fun C Z=>?_)<;>try(cases C;done))|apply ak ?_|(apply zkU fun K hK=>?_)|(apply rK 10 fun K hK=>?_)|apply aG ?_|apply zk3 ?_|apply aF ?_|apply zlu ?_)
    .have Y:j<23:=by omega
     have J:∃b,([43,45,42,47,37,38,124,94,126,33,60,62,61,63,58,59,44,40,41,123,125,91,93]:List UInt8)[j]?=some b:=by
      rw[aT sw];exact⟨_,rfl⟩
     obtain⟨b,J⟩:=J;repeat' (first
      |(apply ah ?_;clear hK K)|apply Ry.o ?_|(apply bb (fun C Z=>?_) (fun C Z=>?_)<;>try(cases C;done))|apply ak ?_|(apply zkU fun K hK=>?_)|apply zk3 ?_|apply aF ?_|fail)
     .all_goals (refine⟨eI,_,eR,?_⟩;try simp only[zkX])
      exact⟨⟨1,rfl,m⟩,ib⟩
     .refine⟨Y,eE,?_,ib⟩;simp only[kh,Nat.reduceBEq,iV,zm3 (show j<2^62 by omega)]
    .all_goals (refine⟨eI,_,eR,?_⟩;try simp only[zkX])
     exact⟨⟨0,rfl,dm _⟩,ib⟩
   .exact⟨eE,eE,rfl⟩
 .exact⟨eE,eE,eE,rfl⟩
end
section
def tyW4h.tyF:=ad @cJ (ad @dd (ad @CD (ad @GB (@Tryz.underlying9))))
open tyW4h
structure Lexers (cfg:Cfg):Prop where
 let_:Plain cfg 203
 dig:Plain cfg 197
 word:Plain cfg 195
 space:Plain cfg 182
 num:Plain cfg 198
 sym:Plain cfg 196
 first:Plain cfg 183
 scan:Plain cfg 156
 plan:∀id,cfg.plan 196 id=.text
 keep:cfg.keep 156=false
theorem Eb(a:Int)(x:List UInt8):zma Tryz.prog 188 [(0,.int .i64 a),(1,.str x)]=some (.agg [.int .i64 a,.str x,.int .i64 0]):=aj
theorem Ec:zma Tryz.prog 188 []=some (.agg [.int .i64 0,.str [],.int .i64 0]):=aj
theorem xY(a b c:AV):zlT 3 [a,b,c]=some (.agg [a,b,c]):=rfl
theorem wt(H:Hp)(a b:HB):FrB 0 H ((H.alloc a).set H.next b):=((jy _ _).alloc _).set (.inl (aB _)) _
theorem zwr{cfg:Cfg}(o:Lexers cfg)(s:List UInt8)(h0:s≠[])(hs:s.length<2^60)(H:Hp):
 zk5 Tryz.prog cfg 183 [.str s] H fun v H'=>(∃k e,v=.tup [.agg k.cells,.int .i64 e]/\Mu s k e)/\FrB 0 H H':=by
 have J:=o.first
 have m:0<s.length:=vK.2 h0;have Y:s[0]?=some s[0]:=aT m;have Z:=Mr s;refine zlf (M:=41) (rs:=[.cell 2 188,.tmp 3]) (J.call _) J.ice J.froz Tryz.func183 rfl rfl QS.2 rfl ?_;dsimp only[QS,zD,Nat.reduceAdd];repeat' (first
  |(apply ah ?_;clear hK K)|apply Rx.o ?_|apply ak ?_|(apply zkU fun K hK=>?_)|fail)
 refine aZ rfl bc bi ?_;simp only[bj];refine aS ?_ (zq1 o.word o.let_ o.dig s hs _);rintro v _ ⟨rfl,rfl⟩;dsimp only[zk6];have V:=@Eb;have U:=@Ec;repeat' (first
  |(apply ah ?_;clear hK K)|apply Ry.o ?_|(apply bb (fun C j=>?_) (fun C j=>?_)<;>try(cases C;done))|apply ak ?_|(apply zkU fun K hK=>?_)|apply aG ?_|fail)
 .refine aZ rfl bc bi ?_;simp only[bj];refine aS ?_ (znq o.sym o.plan s h0 hs _);rintro v _ ⟨⟨n,rfl,hn⟩,rfl⟩;dsimp only[zk6];have V:=@Eb;have U:=@Ec;repeat' (first
   |(apply ah ?_;clear hK K)|apply Rx.o ?_|apply bS ?_|(apply a0 (fun C j=>?_) (fun C j=>?_)<;>try(cases C;done))|apply ak ?_|(apply zkU fun K hK=>?_)|apply zk3 ?_|apply aF ?_)
  .refine⟨eI,_,(by(try simp only[zk1,zk7,Nat.reduceBEq,tyF,zlX,zl1,xY, *]);first|done|with_reducible rfl),?_⟩;try simp only[zkX]
   exact⟨⟨⟨0,[],0⟩,2,rfl,rfl,ax,fun O=>ac⟩,wt _ _ _⟩
  .refine⟨eI,_,(by(try simp only[zk1,zk7,Nat.reduceBEq,tyF,zlX,zl1,xY, *]);first|done|with_reducible rfl),?_⟩;try simp only[zkX]
   refine⟨⟨⟨3,s.take n,0⟩,0,rfl,rfl,fun _=>⟨n,ac,hn,rfl,ax⟩,fun O=>ac⟩,wt _ _ _⟩
 .refine aZ rfl bc bi ?_;simp only[bj];refine aS ?_ (I8 o.dig s[0].toNat _);rintro v _ ⟨rfl,rfl⟩;dsimp only[zk6];have hsl:=GB (P:=Tryz.prog) (k:=.i64) (s:=s) Tryz.underlying9 Z;have V:=@Eb;have U:=@Ec;repeat' (first
   |(apply ah ?_;clear hK K)|apply Rx.o ?_|apply bS ?_|(apply a0 (fun C j=>?_) (fun C j=>?_)<;>try(cases C;done))|apply ak ?_|(apply zkU fun K hK=>?_)|apply zk3 ?_|apply aF ?_)
  .have I:s.take (zmP s)≠[]:=by
    intro h;have:=jm List.length h;rw[j6,wX Z,eW]at this;omega
   refine aZ rfl bc bi ?_;simp only[bj];refine aS ?_ (zk0 o.num o.dig (s.take (zmP s)) I yT _);rintro v _ ⟨⟨ok,rfl⟩,rfl⟩;dsimp only[zk6];have V:=@Eb;have U:=@Ec;repeat' (first
    |(apply ah ?_;clear hK K)|apply Rx.o ?_|apply bS ?_|(apply a0 (fun C j=>?_) (fun C j=>?_)<;>try(cases C;done))|apply ak ?_|(apply zkU fun K hK=>?_)|apply zk3 ?_|apply aF ?_)
   .refine⟨eI,_,(by(try simp only[zk1,zk7,Nat.reduceBEq,tyF,zlX,zl1,xY, *]);first|done|with_reducible rfl),?_⟩;try simp only[zkX]
    refine⟨⟨⟨0,[],0⟩,2,rfl,rfl,ax,fun O h2 z=>?_⟩,wt _ _ _⟩;have:=z _ Y;simp_all
   .refine⟨eI,_,(by(try simp only[zk1,zk7,Nat.reduceBEq,tyF,zlX,zl1,xY, *]);first|done|with_reducible rfl),?_⟩;try simp only[zkX]
    refine⟨⟨⟨2,s.take (zmP s),0⟩,0,rfl,rfl,fun _=>⟨zmP s,ac,Z,rfl,ax⟩,fun O h2 z=>?_⟩,wt _ _ _⟩;have:=z _ Y;simp_all
  .refine⟨eI,_,(by(try simp only[zk1,zk7,Nat.reduceBEq,tyF,zlX,zl1,xY, *]);first|done|with_reducible rfl),?_⟩;try simp only[zkX]
   exact⟨⟨⟨0,[],0⟩,6,rfl,rfl,ax,fun O h2=>ac⟩,wt _ _ _⟩
  .refine⟨eI,_,(by(try simp only[zk1,zk7,Nat.reduceBEq,tyF,zlX,zl1,xY, *]);first|done|with_reducible rfl),?_⟩;try simp only[zkX]
   refine⟨⟨⟨1,s.take (zmP s),0⟩,0,rfl,rfl,fun _=>⟨zmP s,ac,Z,rfl,fun _=>⟨rfl,ac,fun b C=>?_⟩⟩,fun _ _ _=>⟨rfl,rfl⟩⟩,wt _ _ _⟩;rw[Y]at C;simp only[aL]at C;subst C;assumption
end
section
def tyW4i.tyF:=ad @cJ (ad @dd (ad @ue (ad @GN (ad @GP (@CD)))))
open tyW4i
theorem QU(a b:Int):zma Tryz.prog 111 [(0,.int .i64 a),(1,.int .i64 b)]=some (.agg [.int .i64 a,.int .i64 b]):=aj
theorem QV:zma Tryz.prog 111 []=some (.agg [.int .i64 0,.int .i64 0]):=aj
theorem I9(a b:AV):zlT 2 [a,b]=some (.agg [a,b]):=rfl
theorem zg2(k:Tk)(x:Int):List.take 2 k.cells++[.int .i64 x]++List.drop 3 k.cells=(Tk.mk k.kind k.text x).cells:=rfl
theorem zg3(H:Hp)(k:Tk):zmb Tryz.prog H 142 1 [(0,.agg k.cells)]=some (.sl H.next 0 1 3,H.alloc (.cells k.cells 0 true)):=aj
theorem zq3{zlv H:Hp}{m:AV}{I:List Tk}(Z:xo zlv.next H m I)(J:FrB 0 zlv H)(K:zlv.next<H.next)(k:Tk){C:Nat}(hg:H.get C=some (.cells k.cells 0 true))(hb:I.length<2^40):
 ∃Y,zmc Tryz.prog false H 142 142 m (.sl C 0 1 3)=some (.sl H.next 0 (I.length+1) 3,Y)/\Y.next=H.next+1/\xo zlv.next Y (.sl H.next 0 (I.length+1) 3) (I++[k])/\FrB 0 zlv Y/\∀j,j<H.next->m≠.sl j 0 I.length 3->Y.get j=H.get j:=by
 have M:zmM H 3 (.sl C 0 1 3)=some (0+1,k.cells):=by
  have:=sN (H:=H) (r:=C) (o:=0) (n:=1) (z:=3) (s:=3) hg (by rw[fH,j6,Tk.clen];rfl);rw[this,fH,gl (by rw[Tk.clen];omega)]
 have V:zmr=70368744177664:=rfl;rcases Z with⟨rfl,rfl⟩|⟨r,rfl,q2,q3,q4,q5⟩
 .refine⟨H.alloc (.cells k.cells 0 true),?_,rfl,.inr ⟨H.next,ax,?_,K,cE _,ax⟩,J.alloc _,fun j hj _=>?_⟩
  .exact append_nil Tryz.underlying142 CC GR GS aj M k.one rfl qS qS
  .rw[zkZ,am rfl];simp
  .rw[zkZ,af ac]
 .refine⟨(H.kill r).alloc (.cells (I.flatMap Tk.cells++k.cells) 0 true),?_,rfl,.inr ⟨H.next,ax,?_,K,cE _,ax⟩,(J.kill ac).alloc _,fun j hj U=>?_⟩
  .exact WJ Tryz.underlying142 CC GR GS aj M k.one rfl q2 (Mv I) qS qS
  .show((H.kill r).alloc _).get (H.kill r).next=_
   rw[zkZ,am rfl];simp
  .have O:¬j=r:=fun e=>U oL;rw[zkZ,af nh,znf,af O]
def zws(s:List UInt8)(H:Hp)(v:AV)(H':Hp):Prop:=
 ∃(z M:Int) (lv:AV),v=.tup [lv,.agg [.int .i64 z,.int .i64 M]]/\FrB 0 H H'/\((z≠0/\¬uh s)\/(z=0/\∃ts,xo H.next H' lv ts/\CP s ts/\(uh s->ts=[⟨1,s,0⟩])))
theorem zBj{cfg:Cfg}(hx:Lexers cfg)(s:List UInt8)(hs:s.length<2^60)(H:Hp):zk5 Tryz.prog cfg 156 [.str s] H (zws s H):=by
 have hw:=hx.scan;refine zlf (M:=49) (rs:=[.tmp 2,.cell 3 111]) (hw.call _) hw.ice hw.froz Tryz.func156 rfl rfl QT.2 rfl ?_;dsimp only[QT,zD,Nat.reduceAdd];have gh0:=@QU;have gh1:=@QV;repeat' (first
  |(apply ah ?_;clear hK K)|apply Rx.o ?_|apply bS ?_|(apply a0 (fun U j=>?_) (fun U j=>?_)<;>try(cases U;done))|apply ak ?_|(apply zkU fun K hK=>?_)|apply zk3 ?_|apply aF ?_|fail)
 .refine⟨eI,_,(by(try simp only[zk1,zk7,Nat.reduceBEq,tyF,zlX,zl1,I9, *]);first|done|with_reducible rfl),?_⟩;try simp only[zkX]
  refine⟨6,20000,.nilS,rfl,wt _ _ _,.inl ⟨ax,fun h=>?_⟩⟩;have:=h.2.2.1;omega
 .refine aZ rfl bc bi ?_;simp only[bj];refine aS ?_ (QQ hx.space s hs _);rintro v _ ⟨rfl,rfl⟩;dsimp only[zk6];repeat' (first
   |(apply ah ?_;clear hK K)|apply Rx.o ?_|apply aG ?_|fail)
  have hsp:=xn false s;refine zr (fun n E H2=>∃(Z:Nat) (ts:List Tk) (lv:AV),n=s.length-Z/\Z<=s.length/\E.at 0=.str s/\E.at 3=.ptr H.next 0/\E.at 4=lv/\E.at 5=.int .i64 Z/\FrB 0 H H2/\H.next<H2.next /\
   H2.get H.next=some (.cells [.int .i64 0,.int .i64 0] 0 true)/\xo H.next H2 lv ts/\ts.length<=Z/\CP s ts/\(ts=[]->Z=zmT false s)/\(uh s->(ts=[]/\Z=0)\/(ts=[⟨1,s,0⟩]/\Z=s.length))) ?_ (n:=s.length-zmT false s) ?_
  .rintro n E H2 ⟨Z,ts,lv,rfl,ha,h0,h3,h4,h5,hf2,hn2,hg2,o,htl,C,O,hnm⟩;have e1:(H.next == H2.next)=false:=b9;repeat' (first
    |(apply ah ?_;clear hK K)|apply Rx.o ?_|apply bS ?_|(apply a0 (fun U j=>?_) (fun U j=>?_)<;>try(cases U;done))|apply ak ?_|(apply zkU fun K hK=>?_)|apply aG ?_|apply zk3 ?_|apply aF ?_|apply zlu ?_)
   .have hlt:Z<s.length:=by omega
    have hslo:=Ly (P:=Tryz.prog) (k:=.i64) (s:=s) (m:=Z) Tryz.underlying9 ha;repeat' (first
     |apply Rx.o ?_|fail)
    have hne:s.drop Z≠[]:=by
     intro h;have:=jm List.length h;rw[lA,eW]at this;omega
    refine aZ rfl bc bi ?_;simp only[bj];refine aS ?_ (zwr hx (s.drop Z) hne FQ H2);rintro v H3 ⟨⟨k,e,rfl,hk⟩,V⟩;have hn3:=V.next
    have hg3:H3.get H.next=some (.cells [.int .i64 0,.int .i64 0] 0 true):=by rw[V.get _ (dm _) hn2];exact hg2
    have Y:xo H.next H3 lv ts:=by
     rcases o with h|⟨r,q1,q2,q3,q4,q5⟩
     .exact .inl h
     .exact .inr ⟨r,q1,by rw[V.get _ (dm _) q4];exact q2,q3,ac,q5⟩
    have e2:(H.next == H3.next)=false:=b9;dsimp only[zk6];have hx1:Ab.extract (.tup [.agg k.cells,.int .i64 e]) 0=some (.agg k.cells):=rfl;have hx2:Ab.extract (.tup [.agg k.cells,.int .i64 e]) 1=some (.int .i64 e):=rfl;have gh0:=@QU;repeat' (first
     |(apply ah ?_;clear hK K)|apply Rx.o ?_|apply bS ?_|(apply a0 (fun U j=>?_) (fun U j=>?_)<;>try(cases U;done))|apply ak ?_|(apply zkU fun K hK=>?_)|apply zk3 ?_|apply aF ?_|fail)
    .have he:e≠0:=by simpa using U
     refine⟨eI,_,(by(try simp only[zk1,zk7,Nat.reduceBEq,tyF,zlX,zl1,I9, *]);first|done|with_reducible rfl),?_⟩;try simp only[zkX]
     refine⟨e,Z,.nilS,rfl,?_,.inl ⟨he,fun h=>?_⟩⟩
     .exact((((hf2.trans V).alloc _).set (.inl ac) _).set (.inl (aB _)) _)
     .rcases hnm h with⟨_,q⟩|⟨_,q⟩
      .subst q;exact he (hk.2.2 h.1 QD h.2.2.2).1
      .omega
    .have he:e=0:=by simpa using U
     have gh0:=@zg2;have gh1:=@zg3;repeat' (first
      |apply Rx.o ?_|fail)
     generalize J:Tk.mk k.kind k.text (Z:Int)=k';generalize I:Hp.alloc _ (HB.cells (Tk.cells k') 0 true)=H5;have hn5:H5.next=H3.next+2:=by rw[<-I];rfl
     have hg5:H5.get (H3.next+1)=some (.cells k'.cells 0 true):=by rw[<-I];simp only[get_set,vz,zk9,zli,Gy,D5,iV,pQ]
     have hg5a:H5.get H3.next=some (.cells k'.cells 0 true):=by rw[<-I];simp only[get_set,vz,zk9,zli,Gx,D5,iV,pQ]
     have hf5:FrB 0 H3 H5:=by rw[<-I];exact(((jy _ _).alloc _).set (.inl (aB _)) _).set (.inl (aB _)) _ |>.alloc _
     have hF5:FrB 0 H H5:=(hf2.trans V).trans hf5;have hrep5:xo H.next H5 lv ts:=by
      rcases Y with h|⟨r,q1,q2,q3,q4,q5⟩
      .exact .inl h
      .exact .inr ⟨r,q1,by rw[hf5.get _ (dm _) q4];exact q2,q3,ac,q5⟩
     obtain⟨H6,p1,p2,p3,p4,p5⟩:=zq3 hrep5 hF5 ac k' hg5 ac;have hkeep:=hx.keep;have hg6:H6.get H.next=some (.cells [.int .i64 0,.int .i64 0] 0 true):=by
      rw[p5 _ ac (fun e=>by rcases Y with⟨_,q⟩|⟨r,q1,_,q3,_⟩<;>simp_all),hf5.get _ (dm _) ac];exact hg3
     have hg6a:H6.get H3.next=some (.cells k'.cells 0 true):=by
      rw[p5 _ ac (fun e=>by rcases Y with⟨_,q⟩|⟨r,q1,_,q3,q4,_⟩<;>simp_all)];exact hg5a
     obtain⟨n,hn1,hn2',hkt,hkk⟩:=hk.2.1 he;rw[lA]at hn2';have hktl:k'.text.length=n:=by rw[<-J];show k.text.length=n;rw[hkt,j6,lA];omega
     have hwr:IntKind.wrap .i64 ((Z:Int)+(n:Int))=((Z+n:Nat):Int):=CV;have hslo2:=Ly (P:=Tryz.prog) (k:=.i64) (s:=s) (m:=Z+n) Tryz.underlying9 ac;refine jv eV eV (by rw[hkeep];exact p1) ?_;repeat' (first
      |(apply ah ?_;clear hK K)|apply Rx.o ?_|(apply zkU fun K hK=>?_)|fail)
     refine aZ rfl bc bi ?_;simp only[bj];refine aS ?_ (QQ hx.space (s.drop (Z+n)) FQ _);rintro v _ ⟨rfl,rfl⟩;dsimp only[zk6];have hsp2:=xn false (s.drop (Z+n));rw[lA]at hsp2;have hwr2:IntKind.wrap .i64 (((Z+n:Nat):Int)+(zmT false (s.drop (Z+n)):Int))=((Z+n+zmT false (s.drop (Z+n)):Nat):Int):=CV;repeat' (first
      |(apply ah ?_;clear hK K)|apply Rx.o ?_|fail)
     refine⟨s.length-(Z+n+zmT false (s.drop (Z+n))),ac,Z+n+zmT false (s.drop (Z+n)),ts++[k'],.sl H5.next 0 (ts.length+1) 3,rfl,ac,eE,eE,eE,(by first|(simp only[zk1,Nat.reduceBEq,iE, *];done)|rfl),p4,ac,hg6,p3,b9,fun t rest hr=>?_,ax,fun h=>.inr ?_⟩
     .cases ts with
      |nil=>
       simp only[ly,ea]at hr;obtain⟨rfl,_⟩:=hr;rw[<-O rfl];exact⟨k,by rw[<-he];exact hk,by rw[<-J],by rw[<-J]⟩
      |cons t0 ts=>
       simp only[lI,ea]at hr;obtain⟨rfl,_⟩:=hr;exact C _ _ rfl
     .rcases hnm h with⟨rfl,q⟩|⟨_,q⟩
      .subst q;have z:=(hk.2.2 h.1 QD h.2.2.2).2;simp only[fH]at z hkt;have hwn:zmP s=s.length:=h.2.1;rw[hwn,yW]at z;have hns:n=s.length:=by
        have:=jm List.length hkt;rw[z,j6]at this;have h3:s.length=min n s.length:=this;omega
       have hkk2:k'=⟨1,s,0⟩:=by rw[<-J,z];rfl
       refine⟨by rw[hkk2];rfl,?_⟩;rw[hns];simp[zmT]
      .omega
   .have hat:Z=s.length:=by omega
    have gh0:=@QV;repeat' (first
     |(apply ah ?_;clear hK K)|fail)
    refine⟨eI,_,(by(try simp only[zk1,zk7,Nat.reduceBEq,tyF,zlX,zl1,I9, *]);first|done|with_reducible rfl),?_⟩;try simp only[zkX]
    refine⟨0,0,lv,rfl,hf2.set (.inl (aB _)) _,.inr ⟨rfl,ts,?_,C,fun h=>?_⟩⟩
    .rcases o with h|⟨r,q1,q2,q3,q4,q5⟩
     .exact .inl h
     .exact .inr ⟨r,q1,by rw[aJ,af ac];exact q2,q3,q4,q5⟩
    .rcases hnm h with⟨_,q⟩|⟨q,_⟩
     .have:=h.1;have:=h.2.1;omega
     .exact q
  .refine⟨zmT false s,[],.nilS,rfl,hsp,eE,eE,eE,eE,(jy _ _).alloc _,cL,zn2,.inl ⟨rfl,rfl⟩,ax,by simp[CP],fun _=>rfl,fun h=>.inl ⟨rfl,zqv h⟩⟩
end
section
def tyW4j.tyF:=ad @cJ (ad @dd (ad @ue (ad @GN (ad @GP (ad @CD (ad @fx (ad @List.flatMap_cons.{0,0} (ad @List.flatMap_nil.{0,0} (@vm)))))))))
open tyW4j
noncomputable def QW:{c:SC // aC 44 (Tryz.f120.body.getD .skip)=c}:=by
 refine⟨?_,?_⟩;rotate_left
 .simp only[Tryz.f120,bI,aC,zll,zle,zlp,zln,Nat.blt,Nat.ble];rfl
noncomputable def QX:{c:SC // aC 15 (Tryz.f121.body.getD .skip)=c}:=by
 refine⟨?_,?_⟩;rotate_left
 .simp only[Tryz.f121,bI,aC,zll,zle,zlp,zln,Nat.blt,Nat.ble];rfl
theorem Ja{cfg:Cfg}(hx:Lexers cfg)(hw:Plain cfg 120)(s:List UInt8)(hs:s.length<2^60)(H:Hp):
 zk5 Tryz.prog cfg 120 [.str s] H fun v H'=>v=.bool (zl8 s)/\FrB 0 H H':=by
 refine zlf (M:=44) (rs:=[.tmp 2]) (hw.call _) hw.ice hw.froz Tryz.func120 rfl rfl QW.2 rfl ?_;dsimp only[QW,zD,Nat.reduceAdd];repeat' (first
  |(apply ah ?_;clear hK K)|apply Rx.o ?_|apply ak ?_|(apply zkU fun K hK=>?_)|fail)
 refine aZ rfl bc bi ?_;simp only[bj];refine aS ?_ (zBj hx s hs H);rintro v H2 ⟨z,U,lv,rfl,hf2,m⟩;have hx1:Ab.extract (.tup [lv,.agg [.int .i64 z,.int .i64 U]]) 0=some lv:=rfl;have hx2:Ab.extract (.tup [lv,.agg [.int .i64 z,.int .i64 U]]) 1=some (.agg [.int .i64 z,.int .i64 U]):=rfl;dsimp only[zk6];have I:FrB 0 H ((H2.alloc (.cells [.int .i64 0,.int .i64 0] 0 true)).set H2.next (.cells [.int .i64 z,.int .i64 U] 0 true)):=(hf2.alloc _).set (.inl hf2.next) _;rcases m with⟨h1,h2⟩|⟨rfl,ts,hrep,V,J⟩
 .have O:mg s=false:=by
   cases C:mg s with
   |false=>rfl
   |true=>exact(h2 ((CQ s).1 C)).elim
  repeat' (first
   |(apply ah ?_;clear hK K)|apply Rx.o ?_|apply bS ?_|(apply cz (fun Z Y=>?_) (fun Z Y=>?_)<;>try(cases Z;done))|(apply a0 (fun C j=>?_) (fun C j=>?_)<;>try(cases C;done))|apply ak ?_|(apply zkU fun K hK=>?_)|apply aF ?_)
  all_goals (refine⟨eI,_,eR,?_⟩;try simp only[zkX])
  exact⟨I7,I⟩
 .rcases hrep with⟨rfl,rfl⟩|⟨r,rfl,q2,q3,q4,q5⟩
  .have O:mg s=false:=by
    cases C:mg s with
    |false=>rfl
    |true=>have:=J ((CQ s).1 C);simp at this
   repeat' (first
    |(apply ah ?_;clear hK K)|apply Rx.o ?_|apply bS ?_|(apply cz (fun Z Y=>?_) (fun Z Y=>?_)<;>try(cases Z;done))|(apply a0 (fun C j=>?_) (fun C j=>?_)<;>try(cases C;done))|apply ak ?_|(apply zkU fun K hK=>?_)|apply aF ?_)
   all_goals (refine⟨eI,_,eR,?_⟩;try simp only[zkX])
   exact⟨I7,I⟩
  .have e1:(r == H2.next)=false:=by simp;omega
   by_cases hl:ts.length=1
   .obtain⟨k,rfl⟩:=List.length_eq_one_iff.1 hl;simp only[uf,HS,bj]at q2;simp only[mU,bL]at hx1 hx2⊢;have o:uh s↔(k.kind=1/\k.text=s):=⟨fun h=>by have:=J h;simp only[ea,aR]at this;rw[this];exact⟨rfl,rfl⟩,fun h=>zzE V h.1 h.2⟩;have O:mg s=(decide (k.kind=1)&&decide (k.text=s)):=by
     rw[BI,CQ,o];simp
    clear o J V;have hidx:zlO Tryz.prog 142 (.sl r 0 1 3) (.int .i64 0)=some (.ptr r 0):=aj;repeat' (first
     |(apply ah ?_;clear hK K)|apply Ry.o ?_|apply dG ?_|(apply eA (fun Z Y=>?_) (fun Z Y=>?_)<;>try(cases Z;done))|(apply bb (fun C j=>?_) (fun C j=>?_)<;>try(cases C;done))|apply ak ?_|(apply zkU fun K hK=>?_)|apply aG ?_|apply zk3 ?_|apply aF ?_)
    all_goals (refine⟨eI,_,eR,?_⟩;try simp only[zkX])
    all_goals (refine⟨?_,I⟩;simp only[zl8,O,ui];simp_all)
   .have O:mg s=false:=by
     cases C:mg s with
     |false=>rfl
     |true=>have:=J ((CQ s).1 C);rw[this]at hl;simp at hl
    have hl2:decide ((ts.length:Int)=1)=false:=b9;repeat' (first
     |(apply ah ?_;clear hK K)|apply Rx.o ?_|apply bS ?_|(apply cz (fun Z Y=>?_) (fun Z Y=>?_)<;>try(cases Z;done))|(apply a0 (fun C j=>?_) (fun C j=>?_)<;>try(cases C;done))|apply ak ?_|(apply zkU fun K hK=>?_)|apply aF ?_)
    all_goals (refine⟨eI,_,eR,?_⟩;try simp only[zkX])
    exact⟨I7,I⟩
end
section
def tyW4k.tyF:=ad @cJ (ad @dd (ad @fx (ad @ec (ad @en (@zms)))))
open tyW4k
noncomputable def QY:{c:SC // aC 23 (Tryz.f157.body.getD .skip)=c}:=by
 refine⟨?_,?_⟩;rotate_left
 .simp only[Tryz.f157,bI,aC,zll,zle,zlp,zln,Nat.blt,Nat.ble];rfl
noncomputable def QZ:{c:SC // aC 27 (Tryz.f184.body.getD .skip)=c}:=by
 refine⟨?_,?_⟩;rotate_left
 .simp only[Tryz.f184,bI,aC,zll,zle,zlp,zln,Nat.blt,Nat.ble];rfl
noncomputable def Ed:{c:SC // aC 10 (Tryz.f159.body.getD .skip)=c}:=by
 refine⟨?_,?_⟩;rotate_left
 .simp only[Tryz.f159,bI,aC,zll,zle,zlp,zln,Nat.blt,Nat.ble];rfl
def uK(k kids:Int):Bool:=if k=20\/k=21 then decide (kids=1)else decide (4<=k)&&decide (k<=18)&&decide (kids=2)
theorem zq4{cfg:Cfg}(O:Plain cfg 157)(k kids:Int)(H:Hp):
 zk5 Tryz.prog cfg 157 [.int .i64 k,.int .i64 kids] H fun v H'=>v=.bool (uK k kids)/\H'=H:=by
 refine zlf (M:=23) (rs:=[.tmp 4]) (O.call _) O.ice O.froz Tryz.func157 rfl rfl QY.2 rfl ?_;dsimp only[QY,zD,Nat.reduceAdd];repeat' (first
  |(apply ah ?_;clear hK K)|apply Rx.o ?_|(apply cz (fun Z Y=>?_) (fun Z Y=>?_)<;>try(cases Z;done))|(apply a0 (fun C j=>?_) (fun C j=>?_)<;>try(cases C;done))|apply ak ?_|(apply zkU fun K hK=>?_)|apply zk3 ?_|apply aF ?_)
 all_goals
  all_goals (refine⟨eI,_,eR,?_⟩;try simp only[zkX])
 all_goals (refine⟨?_,ib⟩;simp_all[uK]<;>omega)
theorem ztL{cfg:Cfg}(O:Plain cfg 184)(x:Ex)(H:Hp):
 zk5 Tryz.prog cfg 184 [.agg x.cells] H fun v H'=>v=.bool (zeroE x)/\FrB 0 H H':=by
 refine zlf (M:=27) (rs:=[.tmp 2]) (O.call _) O.ice O.froz Tryz.func184 rfl rfl QZ.2 rfl ?_;dsimp only[QZ,zD,Nat.reduceAdd];repeat' (first
  |(apply ah ?_;clear hK K)|apply Rx.o ?_|(apply cz (fun Z Y=>?_) (fun Z Y=>?_)<;>try(cases Z;done))|apply ak ?_|(apply zkU fun K hK=>?_)|apply aF ?_)
 all_goals
  all_goals (refine⟨eI,_,eR,?_⟩;try simp only[zkX])
 all_goals (refine⟨?_,(jy _ _).alloc _⟩;simp_all[zeroE])
def oq(s:List UInt8)(M:Bool):Bool:=if M then zl8 s else decide (s=[])
theorem znr{cfg:Cfg}(o:Lexers cfg)(V:Plain cfg 120)(O:Plain cfg 159)(s:List UInt8)(Z:Bool)(U:s.length<2^60)(H:Hp):
 zk5 Tryz.prog cfg 159 [.str s,.bool Z] H fun v H'=>v=.bool (oq s Z)/\FrB 0 H H':=by
 cases Z
 .refine zlf (M:=10) (rs:=[.tmp 4]) (O.call _) O.ice O.froz Tryz.func159 rfl rfl Ed.2 rfl ?_;dsimp only[Ed,zD,Nat.reduceAdd];repeat' (first
   |(apply ah ?_;clear hK K)|apply Rx.o ?_|(apply a0 (fun C j=>?_) (fun C j=>?_)<;>try(cases C;done))|apply ak ?_|(apply zkU fun K hK=>?_)|apply zk3 ?_|apply aF ?_)
  all_goals (refine⟨eI,_,eR,?_⟩;try simp only[zkX])
  exact⟨by simp[oq],jy _ _⟩
 .refine zlf (M:=10) (rs:=[.tmp 4]) (O.call _) O.ice O.froz Tryz.func159 rfl rfl Ed.2 rfl ?_;dsimp only[Ed,zD,Nat.reduceAdd];repeat' (first
   |(apply ah ?_;clear hK K)|apply Rx.o ?_|(apply a0 (fun C j=>?_) (fun C j=>?_)<;>try(cases C;done))|apply ak ?_|(apply zkU fun K hK=>?_)|fail)
  refine aZ rfl bc bi ?_;simp only[bj];refine aS ?_ (Ja o V s U H);rintro v I ⟨rfl,Y⟩;dsimp only[zk6];repeat' (first
   |(apply ah ?_;clear hK K)|apply Rx.o ?_|apply aF ?_)
  all_goals (refine⟨eI,_,eR,?_⟩;try simp only[zkX])
  exact⟨by simp[oq],Y⟩
theorem zlw{cfg:Cfg}(o:Lexers cfg)(z:Plain cfg 120)(U:Plain cfg 121)(l:List (List UInt8))(hz:zmd l<2^60)(H:Hp):
 zk5 Tryz.prog cfg 121 [zlY l] H fun v H'=>v=.bool (l.all zl8)/\FrB 0 H H':=by
 have hl:l.length<2^60:=by have:=zno l;omega
 refine zlf (M:=15) (rs:=[.tmp 2]) (U.call _) U.ice U.froz Tryz.func121 rfl rfl QX.2 rfl ?_;dsimp only[QX,zD,Nat.reduceAdd];repeat' (first
  |(apply ah ?_;clear hK K)|apply Rx.o ?_|apply ak ?_|(apply zkU fun K hK=>?_)|apply aG ?_|fail)
 refine qJ (fun i E I=>l.all zl8=(l.drop i).all zl8/\E.at 5=.lst (l.map fun s=>[.str s])/\E.at 6=.int .i64 l.length/\E.at 7=.int .i64 i/\FrB 0 H I) l.length ?_ ?_
 .rintro i E I m ⟨hc,h5,h6,h7,Y⟩;repeat' (first
   |(apply ah ?_;clear hK K)|apply Rx.o ?_|(apply a0 (fun Z j=>?_) (fun Z j=>?_)<;>try(cases Z;done))|apply ak ?_|(apply zkU fun K hK=>?_)|apply aG ?_|apply zk3 ?_|apply aF ?_|apply zlu ?_)
  .have C:i<l.length:=by simpa using Z
   have hgx:l[i]?=some l[i]:=aT C;have hsm:=CM (cR C);have O:(l.drop i).all zl8=(zl8 l[i]&&(l.drop (i+1)).all zl8):=by rw[fS C,nY]
   repeat' (first
    |(apply ah ?_;clear hK K)|apply Rx.o ?_|apply ak ?_|(apply zkU fun K hK=>?_)|fail)
   refine aZ rfl bc bi ?_;simp only[bj];refine aS ?_ (Ja o z l[i] ac I);rintro v H3 ⟨rfl,V⟩;dsimp only[zk6];repeat' (first
    |(apply ah ?_;clear hK K)|apply Rx.o ?_|(apply a0 (fun Z j=>?_) (fun Z j=>?_)<;>try(cases Z;done))|apply ak ?_|(apply zkU fun K hK=>?_)|apply zk3 ?_|apply aF ?_|fail)
   .all_goals (refine⟨eI,_,eR,?_⟩;try simp only[zkX])
    exact⟨by rw[hc,O];simp_all,Y.trans V⟩
   .refine⟨C,by rw[hc,O];simp_all,eE,eE,?_,Y.trans V⟩;simp only[kh,Nat.reduceBEq,iV,zm3 (show i<2^62 by omega)]
  .all_goals (refine⟨eI,_,eR,?_⟩;try simp only[zkX])
   have J:i=l.length:=by simp at Z;omega
   exact⟨by rw[hc,J];simp,Y⟩
 .exact⟨ax,eE,eE,eE,jy _ _⟩
end
section
def tyP4a.tyF:=ad @ec (ad @cJ (ad @dd (ad @en (ad @zms (ad @Cv (@L7))))))
open tyP4a
noncomputable def Q0:{c:SC // aC 27 (Tryz.f158.body.getD .skip)=c}:=by
 refine⟨?_,?_⟩;rotate_left
 .simp only[Tryz.f158,bI,aC,zll,zle,zlp,zln,Nat.blt,Nat.ble];rfl
noncomputable def Q1:{c:SC // aC 87 (Tryz.f123.body.getD .skip)=c}:=by
 refine⟨?_,?_⟩;rotate_left
 .simp only[Tryz.f123,bI,aC,zll,zle,zlp,zln,Nat.blt,Nat.ble];rfl
noncomputable def Ee:{c:SC // aC 10 (Tryz.f160.body.getD .skip)=c}:=by
 refine⟨?_,?_⟩;rotate_left
 .simp only[Tryz.f160,bI,aC,zll,zle,zlp,zln,Nat.blt,Nat.ble];rfl
theorem zBq{l:List En}(h:∀f,f∈[203,197,195,182,198,196,183,156]->(∀M,zme l f M=none)/\jb l f=false):Lexers (zkY pls l) where
 let_:=zml (h _ ax).1 (h _ ax).2
 dig:=zml (h _ ax).1 (h _ ax).2
 word:=zml (h _ ax).1 (h _ ax).2
 space:=zml (h _ ax).1 (h _ ax).2
 num:=zml (h _ ax).1 (h _ ax).2
 sym:=zml (h _ ax).1 (h _ ax).2
 first:=zml (h _ ax).1 (h _ ax).2
 scan:=zml (h _ ax).1 (h _ ax).2
 plan _:=by first|rfl|kernel_rfl
 keep:=rfl
theorem Jb:Lexers (zkY pls []):=zBq fun f _=>⟨fun _=>rfl,rfl⟩
theorem zq5(ρ:Nat->Int)(s:List UInt8)(U:s.length<2^60):bM Tryz.prog ρ 120 [.str s] (.bool (zl8 s)):=
 zmy fit (pls:=pls) (l:=[]) trivial (.cons (.str _) .nil) (.bool _) (aS (fun v H h=>h.1) (Ja Jb (zmQ _) s U zlv))
theorem zBr(ρ:Nat->Int)(x:Int×Nat):bM Tryz.prog ρ 157 [.int .i64 x.1,.int .i64 x.2] (.bool (uK x.1 x.2)):=
 zmy fit (pls:=pls) (l:=[]) trivial (.cons (.int _ _) (.cons (.int _ _) .nil)) (.bool _) (aS (fun v H h=>h.1) (zq4 (zmQ _) x.1 x.2 zlv))
theorem ztM(ρ:Nat->Int)(x:Ex):bM Tryz.prog ρ 184 [.agg x.cells] (.bool (zeroE x)):=
 zmy fit (pls:=pls) (l:=[]) trivial (.cons (.agg x.pure) .nil) (.bool _) (aS (fun v H h=>h.1) (ztL (zmQ _) x zlv))
theorem zq6(ρ:Nat->Int)(l:List (List UInt8))(M:zmd l<2^60):bM Tryz.prog ρ 121 [zlY l] (.bool (l.all zl8)):=
 zmy fit (pls:=pls) (l:=[]) trivial (.cons (ug _) .nil) (.bool _) (aS (fun v H h=>h.1) (zlw Jb (zmQ _) (zmQ _) l M zlv))
theorem zq7(ρ:Nat->Int)(s:List UInt8)(w:Bool)(U:s.length<2^60):bM Tryz.prog ρ 159 [.str s,.bool w] (.bool (oq s w)):=
 zmy fit (pls:=pls) (l:=[]) trivial (.cons (.str _) (.cons (.bool _) .nil)) (.bool _) (aS (fun v H h=>h.1) (znr Jb (zmQ _) (zmQ _) s w U zlv))
def wu(k:Int):List Bool:=
 if k=1 then [true,false,false,false,true,false,false,false]
 else if k=2 then [true,false,false,true,true,false,false,false]
 else if k=3 then [false,false,false,false,true,false,true,true]
 else if k=4 then [false,false,false,false,true,false,true,false]
 else if k=5 then [false,false,false,false,true,false,false,false]
 else if k=6 then [true,true,false,false,false,true,false,false]
 else if k=7 then [false,false,true,false,false,false,false,false]
 else [false,false,false,false,false,false,false,false]
def lP(k:Int):Bool:=decide (1<=k)&&decide (k<=7)
def xZ(k:Int):AV:=.tup [.agg ((wu k).map .bool),.bool (lP k)]
theorem zhh(a b c d e f g h:AV):zlT 8 [a,b,c,d,e,f,g,h]=some (.agg [a,b,c,d,e,f,g,h]):=rfl
theorem zq9(ρ:Nat->Int)(k:Int):bM Tryz.prog ρ 158 [.int .i64 k] (xZ k):=zmy fit (pls:=pls) (l:=[]) trivial (.cons (.int _ _) .nil) (.tup (.cons (.agg fun v Z=>by
 obtain⟨b,_,rfl⟩:=kV.1 Z;exact .bool b) (.cons (.bool _) .nil))) (by
 have O:=zmQ 158;have Y:zma Tryz.prog 206 [(0,.bool true),(4,.bool true)]=some (.agg [.bool true,.bool false,.bool false,.bool false,.bool true,.bool false,.bool false,.bool false]):=aj;have V:zma Tryz.prog 206 [(0,.bool true),(3,.bool true),(4,.bool true)]=some (.agg [.bool true,.bool false,.bool false,.bool true,.bool true,.bool false,.bool false,.bool false]):=aj;have J:zma Tryz.prog 206 [(4,.bool true),(6,.bool true),(7,.bool true)]=some (.agg [.bool false,.bool false,.bool false,.bool false,.bool true,.bool false,.bool true,.bool true]):=aj;have U:zma Tryz.prog 206 [(4,.bool true),(6,.bool true)]=some (.agg [.bool false,.bool false,.bool false,.bool false,.bool true,.bool false,.bool true,.bool false]):=aj;have I:zma Tryz.prog 206 [(4,.bool true)]=some (.agg [.bool false,.bool false,.bool false,.bool false,.bool true,.bool false,.bool false,.bool false]):=aj;have z:zma Tryz.prog 206 [(0,.bool true),(1,.bool true),(5,.bool true)]=some (.agg [.bool true,.bool true,.bool false,.bool false,.bool false,.bool true,.bool false,.bool false]):=aj;have o:zma Tryz.prog 206 [(2,.bool true)]=some (.agg [.bool false,.bool false,.bool true,.bool false,.bool false,.bool false,.bool false,.bool false]):=aj;have m:zma Tryz.prog 206 []=some (.agg [.bool false,.bool false,.bool false,.bool false,.bool false,.bool false,.bool false,.bool false]):=aj;refine zlf (M:=27) (rs:=[.cell 2 206,.tmp 3]) (O.call _) O.ice O.froz Tryz.func158 rfl rfl Q0.2 rfl ?_;dsimp only[Q0,zD,Nat.reduceAdd];repeat' (first
  |(apply ah ?_;clear hK K)|apply Rx.o ?_|apply bS ?_|(apply a0 (fun C j=>?_) (fun C j=>?_)<;>try(cases C;done))|apply ak ?_|(apply zkU fun K hK=>?_)|apply aG ?_|apply zk3 ?_|apply aF ?_)
 all_goals
  refine⟨eI,_,(by(try simp only[zk1,zk7,Nat.reduceBEq,tyF,zlX,zl1,zhh, *]);first|done|with_reducible rfl),?_⟩;try simp only[zkX]
 all_goals
  first
  |(simp_all[xZ,wu,lP];done)
  |(have h0:lP k=false:=by
     simp only[lP,xp,lJ];omega
    simp_all[xZ,wu];done))
theorem zhj(k:Int)(n:Nat):uK k n=((decide ((n:Int)=2)&&p6 k)||(decide ((n:Int)=1)&&(decide (k=20)||decide (k=21)))):=by
 unfold uK p6;by_cases h:k=20\/k=21
 .rw[am h];rcases h with rfl|rfl<;>simp
 .rw[af h];have m:¬k=20:=fun e=>h (.inl e);have j:¬k=21:=fun e=>h (.inr e);simp only[m,j,ip,iu,uo];cases decide (4<=k)<;>cases decide (k<=18)<;>cases decide ((n:Int)=2)<;>rfl
noncomputable def AA:En:=⟨120,false,b7 (fun s=>s.length<2^60) nV fun s=>.bool (zl8 s)⟩
theorem Q3(ρ:Nat->Int):zl0 Tryz.prog ρ AA:=zl7 fun x hx=>zq5 ρ x hx
def AB(x:Int×Nat):List AV:=[.int .i64 x.1,.int .i64 x.2]
theorem zBs(x y:Int×Nat)(h:AB x=AB y):x=y:=by
 simp only[AB,ea,AV.int.injEq,aR,j9]at h;exact qV h.1 ac
noncomputable def AC:En:=⟨157,false,b7 (fun _=>True) AB fun x=>.bool (uK x.1 x.2)⟩
theorem Q4(ρ:Nat->Int):zl0 Tryz.prog ρ AC:=zl7 fun x _=>zBr ρ x
noncomputable def Q5:En:=⟨184,false,b7 (fun _=>True) jN fun x=>.bool (zeroE x)⟩
theorem zBt(ρ:Nat->Int):zl0 Tryz.prog ρ Q5:=zl7 fun x _=>ztM ρ x
theorem zwt{l:List En}(z:∀Z,zme l 120 Z=AA.sp Z)(o:∀Z,zme l 157 Z=AC.sp Z)(C:(∀Z,zme l 123 Z=none)/\jb l 123=false){base:Nat}{I:Hp->Prop}(m:uJ base I):
 xV (zkY pls l) base I 123 [] fun x _=>mJ x:=by
 intro x d H hz O hi;have V:Plain (zkY pls l) 123:=zml C.1 C.2;have kv:∀s:List UInt8,s.length<2^60->∀H,zk5 Tryz.prog (zkY pls l) 120 [.str s] H fun v H'=>v=.bool (zl8 s)/\H'=H:=fun s h1 H=>zlM (enc:=nV) (out:=fun x=>.bool (zl8 x)) vM (x:=s) (z _) h1;have ko:∀(k:Int) (n:Nat),∀H,zk5 Tryz.prog (zkY pls l) 157 [.int .i64 k,.int .i64 n] H fun v H'=>v=.bool (uK k n)/\H'=H:=fun k n H=>zlM (enc:=AB) (out:=fun x=>.bool (uK x.1 x.2)) zBs (x:=(k,n)) (o _) trivial;have hsz:=x.sz_eq;refine zlf (M:=87) (rs:=[.tmp 4]) (V.call _) V.ice V.froz Tryz.func123 rfl rfl Q1.2 rfl ?_;dsimp only[Q1,zD,Nat.reduceAdd];repeat' (first
  |(apply ah ?_;clear hK K)|apply Rx.o ?_|(apply eM ?_;first|refine zlc (kv _ ac _) ?_|refine zlc (ko _ _ _) ?_)|(apply cz (fun U Y=>?_) (fun U Y=>?_)<;>try(cases U;done))|(apply a0 (fun J j=>?_) (fun J j=>?_)<;>try(cases J;done))|apply ak ?_|(apply zkU fun K hK=>?_)|apply aG ?_|apply zk3 ?_|apply aF ?_)
 all_goals
  all_goals (refine⟨eI,_,eR,?_⟩;try simp only[zkX])
  refine⟨?_,(jy _ _).alloc _,m _ _ hi ((qR _ _).alloc O _)⟩;rw[mJ];(try rw[zhj]);(try simp only[dI]at *);simp only[ *,ip,iu,jO,kZ,dB,dL,Int.reduceEq]
end
end Go.Proofs.YtpbcimfiofmoeaaGreat
