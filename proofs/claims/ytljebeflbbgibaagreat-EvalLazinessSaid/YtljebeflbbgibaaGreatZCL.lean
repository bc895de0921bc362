/- Parts: P4f, P4g, W4e, W4f, W4g, W4h, W4i, W4j, W4k, P4a. -/
import Derived.Test.YtljebeflbbgibaaGreatZCK
set_option linter.unusedSimpArgs false
set_option linter.unusedVariables false
set_option linter.unusedSectionVars false
set_option linter.defProp false
set_option maxHeartbeats 32000000
namespace Go.Ab
set_option maxRecDepth 20000
open Go
theorem xO{P:Prop}(h:P:=by rw[List.drop_eq_getElem_cons Y,List.all_cons]):P:=h
theorem If{P:Prop}(h:P:=by rw[<- F];simp only[get_set,pT,zcB,zcS,zO,DU,Nat.add_assoc,Nat.reduceAdd,beq_self_eq_true,cond_true,cond_false,Nat.reduceBEq]):P:=h
theorem iI{P:Prop}(h:P:=by first|rfl|trivial):P:=h
theorem Ig{P:Prop}(h:P:=by have:=h.2.1;have:=h.2.2.1;simp only[List.drop_zero];omega):P:=h
theorem BR{P:Prop}(h:P:=by simp only[zc9,F,Bool.false_and]):P:=h
def BS:=@List.length_pos_iff
end Go.Ab
namespace Go.Proofs.YtljebeflbbgibaaGreat
set_option maxRecDepth 20000
open Go Go.Ab
section
def tyP4f.tyF:=ad @bZ (ad @dl (ad @jQ (ad @wM (ad @Ay (ad @cI (ad @iB (ad @gk (ad @rU (ad @iA (ad @qb (@jv)))))))))))
open tyP4f
noncomputable def Ih:{c:SC // aA 26 (Tryz.f134.body.getD .skip)=c}:=by
 refine⟨?_,?_⟩;rotate_left
 .simp only[Tryz.f134,a3,aA,zcG,zcE,zcJ,zcK,Nat.blt,Nat.ble];rfl
noncomputable def Ii:{c:SC // aA 27 (Tryz.f135.body.getD .skip)=c}:=by
 refine⟨?_,?_⟩;rotate_left
 .simp only[Tryz.f135,a3,aA,zcG,zcE,zcJ,zcK,Nat.blt,Nat.ble];rfl
noncomputable def Ij:{c:SC // aA 49 (Tryz.f136.body.getD .skip)=c}:=by
 refine⟨?_,?_⟩;rotate_left
 .simp only[Tryz.f136,a3,aA,zcG,zcE,zcJ,zcK,Nat.blt,Nat.ble];rfl
theorem Y5(l:List (List UInt8))(a s:List UInt8):zcP (m8 l a) s=(zcP l s||zcP [a] s):=by
 unfold m8;split
 .rename_i h;rw[qE];by_cases e:s=a
  .rw[e,h];rfl
  .rw[cX e,jx]
 .rw[jF]
theorem Ik{cfg:Cfg}(A:Plain cfg 134){H:Hp}{r imm:Nat}{x:List (List (List UInt8))}(hg:H.get r=some (.cells (x.map zdE) imm true))(hr:r<H.next)(hx:xJ x):
 zcx Tryz.prog cfg 134 [.sl r 0 x.length 1] H fun v H'=>v=.map H.next/\(∃l,H'.get H.next=some (.map (ep l))/\∀s,zcP l s=zcP x.flatten s)/\(∀k,k<H.next->H'.get k=H.get k)/\H.next<H'.next:=by
 obtain⟨hx1,hx2⟩:=hx;have hnm:=D3;refine zcv (M:=26) (rs:=[.tmp 2]) (A.call _) A.ice A.froz Tryz.func134 rfl rfl Ih.2 rfl ?_;dsimp only[Ih,zcr,Nat.reduceAdd];repeat' (first
  |(apply zcl ?_;clear hK K)|apply Rx.o ?_|apply ak ?_|(apply zcm fun K hK=>?_)|apply ay ?_|fail)
 refine zdl [2,3,9,10] [] 11 x.length (fun i E C=>(∃l,C.get H.next=some (.map (ep l))/\∀s,zcP l s=zcP (x.take i).flatten s)/\∀k,k<H.next->C.get k=H.get k) eE ⟨⟨[],nX,fun s=>rfl⟩,fun k hk=>fF⟩ ?_;rintro i E C hi Y W U hsI ⟨⟨l,O,I⟩,m⟩;(try simp only[zcO,zcI,aY,zcz,zcL,Nat.reduceBEq, *]at Y);(try simp only[zcI,zcL, *]at W);(try simp only[zcB,]at U);repeat' (first
  |(apply zcl ?_;clear hK K)|apply Rx.o ?_|(apply aS (fun Z V=>?_) (fun Z V=>?_)<;>try(cases Z;done))|apply ak ?_|(apply zcm fun K hK=>?_)|apply ay ?_|apply zco ?_|apply am ?_|apply zcA ?_)
 .have L:i<x.length:=by simpa using Z
  have hgx:x[i]?=some x[i]:=aO L;have hsm:=hx2 _ (dj L);have hg2:C.get r=some (.cells (x.map zdE) imm true):=by rw[m r hr];exact hg
  have htk:(x.take (i+1)).flatten=(x.take i).flatten++x[i]:=by rw[mw,hgx,List.flatten_append];simp
  generalize x[i]=z at *;repeat' (first
   |(apply zcl ?_;clear hK K)|apply Ry.o ?_|apply ak ?_|(apply zcm fun K hK=>?_)|apply ay ?_|fail)
  refine zdl [2,3,9,10,11,15,16] [] 17 z.length (fun j E g=>(∃l,g.get H.next=some (.map (ep l))/\∀s,zcP l s=zcP ((x.take i).flatten++z.take j) s)/\∀k,k<H.next->g.get k=H.get k) eE ⟨⟨l,O,fun s=>by rw[I,uu,br]⟩,m⟩ ?_;clear O I l m hg2;rintro j E3 g hj Y W U hsI ⟨⟨l,O,I⟩,m⟩;(try simp only[zcO,zcI,aY,zcz,zcL,Nat.reduceBEq, *]at Y);(try simp only[zcI, *]at W);(try simp only[zcB,zcS,zdg,bw,Nat.reduceAdd]at U);repeat' (first
   |(apply zcl ?_;clear hK K)|apply Rx.o ?_|(apply aS (fun Z V=>?_) (fun Z V=>?_)<;>try(cases Z;done))|apply ak ?_|(apply zcm fun K hK=>?_)|apply ay ?_|apply zco ?_|apply zcA ?_)
  .have J:j<z.length:=by simpa using Z
   have F:z[j]?=some z[j]:=aO J;have hup:=BL O z[j];have o:z.take (j+1)=z.take j++[z[j]]:=by rw[mw,F];rfl
   repeat' (first
    |(apply zcl ?_;clear hK K)|apply Rx.o ?_|apply b8 ?_|(apply zcm fun K hK=>?_)|fail)
   refine⟨ac,zcy,zcy,zcT,Hk,?_⟩;refine⟨⟨m8 l z[j],uK,fun s=>?_⟩,fun k hk=>by rw[aU,ah ac];exact m k hk⟩;rw[Y5,I,o,<-f8,jF ((x.take i).flatten++z.take j)]
  .have hje:j=z.length:=by simp at Z;omega
   repeat' (first
    |(apply zcl ?_;clear hK K)|fail)
   refine⟨ac,zcy,zcy,zcT,Hl,?_⟩;exact⟨⟨l,O,fun s=>by rw[I,htk,hje,tC]⟩,m⟩
 .repeat' (first
   |(apply zcl ?_;clear hK K)|fail)
  all_goals (refine⟨eI,_,eR,?_⟩;try simp only[zcn])
  have hie:i=x.length:=by simp at Z;omega
  refine⟨trivial,⟨l,O,fun s=>by rw[I,hie,tC]⟩,m,ac⟩
structure Rs where
 r12:Nat
 mv:Nat
 r5:Nat
 ma:Nat
 r6:Nat
 mf:Nat
 r9:Nat
structure RsOk (X:Rs) (vs an:List (List UInt8)) (fm:List (zdb×Int)) (H:Hp):Prop where
 b12:H.get X.r12=some (.cells [.map X.mv] 0 true)
 bv:∃l,H.get X.mv=some (.map (ep l))/\∀s,zcP l s=zcP vs s
 b5:H.get X.r5=some (.cells [.map X.ma] 0 true)
 ba:∃l,H.get X.ma=some (.map (ep l))/\∀s,zcP l s=zcP an s
 b6:H.get X.r6=some (.cells [.map X.mf] 0 true)
 bf:H.get X.mf=some (.map (cP fm))
structure RsLt (X:Rs) (n:Nat):Prop where
 l12:X.r12<n
 lv:X.mv<n
 l5:X.r5<n
 la:X.ma<n
 l6:X.r6<n
 lf:X.mf<n
structure RsNe (X:Rs):Prop where
 l12:X.r12≠X.r9
 lv:X.mv≠X.r9
 l5:X.r5≠X.r9
 la:X.ma≠X.r9
 l6:X.r6≠X.r9
 lf:X.mf≠X.r9
theorem RsOk.keep{X:Rs}{vs M:List (List UInt8)}{Z:List (zdb×Int)}{H H':Hp}(h:RsOk X vs M Z H)(I:H'.get X.r12=H.get X.r12)(L:H'.get X.mv=H.get X.mv)(j:H'.get X.r5=H.get X.r5)(F:H'.get X.ma=H.get X.ma)(A:H'.get X.r6=H.get X.r6)(i:H'.get X.mf=H.get X.mf):RsOk X vs M Z H' where
 b12:=by rw[I];exact h.b12
 bv:=by rw[L];exact h.bv
 b5:=by rw[j];exact h.b5
 ba:=by rw[F];exact h.ba
 b6:=by rw[A];exact h.b6
 bf:=by rw[i];exact h.bf
theorem RsOk.low{X:Rs}{vs M:List (List UInt8)}{Z:List (zdb×Int)}{H H':Hp}{n:Nat}(h:RsOk X vs M Z H)(I:RsLt X n)(k:fz n H H'):RsOk X vs M Z H':=
 h.keep (k _ I.l12) (k _ I.lv) (k _ I.l5) (k _ I.la) (k _ I.l6) (k _ I.lf)
theorem Y6{cfg:Cfg}(J:Plain cfg 135){X:Rs}{vs L:List (List UInt8)}{i:List (zdb×Int)}{base:Nat}(W:RsLt X base){I:Hp->Prop}(g:pd base I)(hR:∀H,I H->RsOk X vs L i H):
 sF cfg base I 135 [.ptr X.r12 0,.ptr X.r5 0] fun x _=>j4 vs L x:=by
 intro x d H hz A C;obtain⟨Z,⟨lv,m,Y⟩,j,⟨la,U,V⟩,h6,hf⟩:=hR H C;have l12:=W.l12;have llv:=W.lv;have l5:=W.l5;have lla:=W.la;have g12:(H.alloc (.cells x.cells 0 true)).get X.r12=some (.cells [.map X.mv] 0 true):=by rw[zcu,ah ac];exact Z
 have g5:(H.alloc (.cells x.cells 0 true)).get X.r5=some (.cells [.map X.ma] 0 true):=by rw[zcu,ah ac];exact j
 have z:(H.alloc (.cells x.cells 0 true)).get X.mv=some (.map (ep lv)):=by rw[zcu,ah ac];exact m
 have o:(H.alloc (.cells x.cells 0 true)).get X.ma=some (.map (ep la)):=by rw[zcu,ah ac];exact U
 have kv:=qH z x.name;have ka:=qH o x.name;rw[Y]at kv;rw[V]at ka;clear Z j m U z o Y V hf h6;have e12:(X.r12 == H.next)=false:=zcD ac;have e5:(X.r5 == H.next)=false:=zcD ac;simp only[];refine zcv (M:=27) (rs:=[.tmp 6]) (J.call _) J.ice J.froz Tryz.func135 rfl rfl Ii.2 rfl ?_;dsimp only[Ii,zcr,Nat.reduceAdd];repeat' (first
  |(apply zcl ?_;clear hK K)|apply Rx.o ?_|apply qg ?_|(apply b0 (fun F O=>?_) (fun F O=>?_)<;>try(cases F;done))|apply ak ?_|(apply zcm fun K hK=>?_)|apply am ?_)
 all_goals
  all_goals (refine⟨eI,_,eR,?_⟩;try simp only[zcn])
  refine⟨?_,(fT _ _).alloc _,g _ _ C ((lS _ _).alloc A _)⟩;rw[j4];(try simp only[fo]at *);simp only[ *,Ht,dK,A2,Hv,]
theorem Il:zeZ Tryz.prog 9=some .string:=af
def zfd(w:Bool):Int:=if w=true then 5 else 0
theorem Y7{cfg:Cfg}(hw:Plain cfg 136){X:Rs}{vs an:List (List UInt8)}{W:List (zdb×Int)}{base:Nat}(Z:RsLt X base)(h9:X.r9<base)(I:RsNe X):
 uR cfg base (fun(w:Bool) H=>RsOk X vs an W H/\H.get X.r9=some (.cells [.int .i64 (zfd w)] 0 true)) 136 [.ptr X.r12 0,.ptr X.r5 0,.ptr X.r6 0,.ptr X.r9 0] (j5 W vs an):=by
 intro x d w H hz A hi;obtain⟨V,z⟩:=hi;have Y:=V;obtain⟨U,⟨lv,m,o⟩,h5,⟨la,j,i⟩,h6,hf⟩:=V;have l12:=Z.l12;have llv:=Z.lv;have l5:=Z.l5;have lla:=Z.la;have l6:=Z.l6;have llf:=Z.lf;have L:fz base H (H.alloc (.cells x.cells 0 true)):=(lS _ _).alloc A _;have g12:(H.alloc (.cells x.cells 0 true)).get X.r12=some (.cells [.map X.mv] 0 true):=by rw[L _ l12];exact U
 have g5:(H.alloc (.cells x.cells 0 true)).get X.r5=some (.cells [.map X.ma] 0 true):=by rw[L _ l5];exact h5
 have g6:(H.alloc (.cells x.cells 0 true)).get X.r6=some (.cells [.map X.mf] 0 true):=by rw[L _ l6];exact h6
 have g9:(H.alloc (.cells x.cells 0 true)).get X.r9=some (.cells [.int .i64 (zfd w)] 0 true):=by rw[L _ h9];exact z
 have gv:(H.alloc (.cells x.cells 0 true)).get X.mv=some (.map (ep lv)):=by rw[L _ llv];exact m
 have ga:(H.alloc (.cells x.cells 0 true)).get X.ma=some (.map (ep la)):=by rw[L _ lla];exact j
 have gf:(H.alloc (.cells x.cells 0 true)).get X.mf=some (.map (cP W)):=by rw[L _ llf];exact hf
 have gb:(H.alloc (.cells x.cells 0 true)).get H.next=some (.cells x.cells 0 true):=xc
 have kv:=qH gv x.name;have ka:=qH ga x.name;have kf:=D4 (P:=Tryz.prog) (t:=110) Tryz.underlying110 Il af gf x.to;rw[o]at kv;rw[i]at ka;have g:=t6 x.args;have hsz:=x.sz_eq;have C:RsOk X vs an W (H.alloc (.cells x.cells 0 true)):=Y.low Z L;have hx0:∀a b,Ab.extract (.tup [a,b]) 0=some a:=fun _ _=>rfl;have hx1:∀a b,Ab.extract (.tup [a,b]) 1=some b:=fun _ _=>rfl;have J:FrB base H (H.alloc (.cells x.cells 0 true)):=(fT _ _).alloc _;have F:FrB base H ((H.alloc (.cells x.cells 0 true)).set X.r9 (.cells [.int .i64 5] 0 true)):=J.set (.inr h9) _;have O:RsOk X vs an W ((H.alloc (.cells x.cells 0 true)).set X.r9 (.cells [.int .i64 5] 0 true)):=C.keep (by rw[aU,ah I.l12]) (by rw[aU,ah I.lv]) (by rw[aU,ah I.l5]) (by rw[aU,ah I.la]) (by rw[aU,ah I.l6]) (by rw[aU,ah I.lf]);have hw2:((H.alloc (.cells x.cells 0 true)).set X.r9 (.cells [.int .i64 5] 0 true)).get X.r9=some (.cells [.int .i64 (zfd true)] 0 true):=by rw[aU,ax rfl];rfl
 have s12:((H.alloc (.cells x.cells 0 true)).set X.r9 (.cells [.int .i64 5] 0 true)).get X.r12=some (.cells [.map X.mv] 0 true):=O.b12;have sb:((H.alloc (.cells x.cells 0 true)).set X.r9 (.cells [.int .i64 5] 0 true)).get H.next=some (.cells x.cells 0 true):=by rw[aU,ah ac];exact gb
 have sv:zeD Tryz.prog ((H.alloc (.cells x.cells 0 true)).set X.r9 (.cells [.int .i64 5] 0 true)) 198 (.map X.mv) (.str x.name) false=some (.bool (zcP vs x.name)):=by
  obtain⟨l,q1,q2⟩:=O.bv;rw[qH q1,q2]
 clear U m o h5 j i h6 hf gv ga gf Y z L;have e12:(X.r12 == H.next)=false:=zcD ac;have e5:(X.r5 == H.next)=false:=zcD ac;have e6:(X.r6 == H.next)=false:=zcD ac;have e9:(X.r9 == H.next)=false:=zcD ac;have d12:(X.r12 == X.r9)=false:=zcD I.l12;have dn:(H.next == X.r9)=false:=zcD ac;simp only[];refine zcv (M:=49) (rs:=[.tmp 8]) (hw.call _) hw.ice hw.froz Tryz.func136 rfl rfl Ij.2 rfl ?_;dsimp only[Ij,zcr,Nat.reduceAdd];repeat' (first
  |(apply zcl ?_;clear hK K)|apply Rx.o ?_|apply b8 ?_|(apply b0 (fun hg hgp=>?_) (fun hg hgp=>?_)<;>try(cases hg;done))|(apply aS (fun hb hbp=>?_) (fun hb hbp=>?_)<;>try(cases hb;done))|apply ak ?_|(apply zcm fun K hK=>?_)|apply ay ?_|apply zco ?_|apply am ?_)
 all_goals
  all_goals (refine⟨eI,_,eR,?_⟩;try simp only[zcn])
  first
  |refine⟨?_,J,C,?_⟩
  |refine⟨?_,F,O,?_⟩
  all_goals
   (try rw[g9]);(try rw[hw2]);clear g12 g5 g6 g9 kv ka kf hx0 hx1 gb s12 sb sv C O J F hw2 e12 e5 e6 e9 d12 dn Z I g hsz;simp_all[j5,zfd]
end
section
def tyP4g.tyF:=ad @bZ (ad @dl (ad @hM (ad @mM (ad @jP (ad @rU (ad @jQ (ad @iA (ad @gk (ad @mN (ad @qb (ad @jv (ad @wM (ad @Ay (ad @BP (@YP)))))))))))))))
open tyP4g
noncomputable def Im:{c:SC // aA 67 (Tryz.f88.body.getD .skip)=c}:=by
 refine⟨?_,?_⟩;rotate_left
 .simp only[Tryz.f88,a3,aA,zcG,zcE,zcJ,zcK,Nat.blt,Nat.ble];rfl
noncomputable def xP:List En:=[BM]
theorem Y8(ρ:Nat->Int):eX Tryz.prog ρ xP:=⟨HP ρ,trivial⟩
set_option maxRecDepth 100000 in
theorem Y9(ρ:Nat->Int)(p:Pr)(hz:p.sz<2^36):a9 Tryz.prog ρ 88 (fd p) (.int .i64 (qF p)):=zdv fit (pls:=pls) (Y8 ρ) (.cons (.agg p.pure) .nil) (.int _ _) (by
 have hw:Plain (zcq pls xP) 88:=zdm (fun _=>rfl) rfl;have kd:∀H,zcx Tryz.prog (zcq pls xP) 132 [.agg p.cells] H fun v H'=>v=.tup [zdE (zda p),zdE (zd0 p)]/\H'=H:=fun H=>zds (enc:=fd) (out:=fun p=>.tup [zdE (zda p),zdE (zd0 p)]) qA (x:=p) rfl hz;have hps:Plains (zcq pls xP):=⟨zdm (fun _=>rfl) rfl,zdm (fun _=>rfl) rfl,zdm (fun _=>rfl) rfl,zdm (fun _=>rfl) rfl⟩;have hpz:p.sz=1+kB p.arrays+kA p.funcs:=rfl;have hla:=rK p.arrays;have hlf:=rJ p.funcs;have hal:(zda p).length=p.arrays.length:=by simp[zda]
 have hfl:(zd0 p).length=p.funcs.length:=by simp[zd0]
 have hx0:∀a b,Ab.extract (.tup [a,b]) 0=some a:=fun _ _=>rfl;have hx1:∀a b,Ab.extract (.tup [a,b]) 1=some b:=fun _ _=>rfl;have hnm:=D3;rw[fd];refine zcv (M:=67) (rs:=[.tmp 2]) (hw.call _) hw.ice hw.froz Tryz.func88 rfl rfl Im.2 rfl ?_;dsimp only[Im,zcr,Nat.reduceAdd];repeat' (first
  |(apply zcl ?_;clear hK K)|apply Rx.o ?_|(apply iU ?_;first|refine Rx.k (kd _) ?_)|apply ak ?_|(apply zcm fun K hK=>?_)|fail)
 refine bg rfl bh bj ?_;simp only[br];refine a7 ?_ (Ik (x:=[zda p]) (imm:=0) (zdm (fun _=>rfl) rfl) nX (cL _) ⟨aD,co⟩);rintro v Z ⟨rfl,⟨la,hma,j⟩,hold,hlt2⟩;simp only[zcB,zdg]at hma hold hlt2;rw[show([zda p]:List (List (List UInt8))).flatten=zda p by simp]at j;have g20:Z.get 0=some (.cells p.cells 0 true):=by rw[hold 0 ac,zcu,ah aD,zcu,ax db]
 clear hold;dsimp only[zcF];repeat' (first
  |(apply zcl ?_;clear hK K)|apply Rx.o ?_|apply b8 ?_|apply ak ?_|(apply zcm fun K hK=>?_)|apply ay ?_|fail)
 generalize O:Hp.set (Hp.set _ _ _) _ _=Hs;have ns:Z.next+3<=Hs.next:=by rw[<-O];exact aM _
 have gs0:Hs.get 0=some (.cells p.cells 0 true):=by rw[<-O,aU,ah ac,aU,ah ac,zcu,ah gR,zcu,ah gR,zcu,ah ac];exact g20
 have gsa:Hs.get 2=some (.map (ep la)):=by rw[<-O,aU,ah ac,aU,ah ac,zcu,ah gR,zcu,ah gR,zcu,ah ac];exact hma
 have gs5:Hs.get (Z.next+1)=some (.cells [.map 2] 0 true):=by rw[<-O,aU,ah ac,aU,ax db]
 have gs6:Hs.get (Z.next+2)=some (.cells [.map Z.next] 0 true):=by rw[<-O,aU,ax db]
 have gsf:Hs.get Z.next=some (.map (cP [])):=by rw[<-O,aU,ah ac,aU,ah ac,zcu,ah gR,zcu,ah gR,zcu,ax db];rfl
 clear O hma;have hlt2':3<=Z.next:=ac
 clear hlt2;have hE0:(0 == Z.next)=false:=zcD ac;have hE2:(2 == Z.next)=false:=zcD ac;refine zdl [1,2,5,6,23,24] [0,2,Z.next+1,Z.next+2] 25 p.funcs.length (fun i E H=>∃m,zd1 (p.funcs.drop i) m=zd1 p.funcs []/\H.get Z.next=some (.map (cP m))) eE ⟨[],aD,gsf⟩ ?_;rintro i E C hi hcE hrH hnH hsI ⟨m,hJ,hm⟩;(try simp only[zcO,zcI,aY,zcz,zcL,Nat.reduceBEq,Nat.reduceAdd, *]at hcE);(try simp only[zcO,zcI,aY, *]at hrH);(try simp only[zcB,zcS,zdg,bw,Nat.reduceAdd]at hnH);have hB0:(0 == C.next)=false:=zcD ac;have hC0:(C.next == 0)=false:=zcD ac;have hB1:(2 == C.next)=false:=zcD ac;have hC1:(C.next == 2)=false:=zcD ac;have hB2:(Z.next+1 == C.next)=false:=zcD ac;have hC2:(C.next == Z.next+1)=false:=zcD ac;have hB3:(Z.next+2 == C.next)=false:=zcD ac;have hC3:(C.next == Z.next+2)=false:=zcD ac;obtain⟨h30,h3a,h35,h36⟩:=hrH;repeat' (first
  |(apply zcl ?_;clear hK K)|apply Rx.o ?_|apply b8 ?_|(apply aS (fun z V=>?_) (fun z V=>?_)<;>try(cases z;done))|apply ak ?_|(apply zcm fun K hK=>?_)|apply ay ?_|apply zco ?_|apply zcA ?_)
 .have F:i<p.funcs.length:=by simpa using z
  have hgx:p.funcs[i]?=some p.funcs[i]:=aO F;have hgn:(zd0 p)[i]?=some p.funcs[i].name:=by rw[zd0,dX,hgx];rfl
  have hu:=Ni (P:=Tryz.prog) (t:=110) Tryz.underlying110 Il hm p.funcs[i].name p.funcs[i].params.length;rw[d7 F,zd1]at hJ;repeat' (first
   |(apply zcl ?_;clear hK K)|apply Rx.o ?_|apply b8 ?_|(apply zcm fun K hK=>?_)|(apply nU 6 fun K hK=>?_)|fail)
  refine⟨ac,zcy,zcy,zcT,uL,?_⟩;exact⟨_,hJ,hB⟩
 .have hie:i=p.funcs.length:=by simp at z;omega
  rw[hie,jy,zd1]at hJ;subst hJ;clear hie hsI hi z V;repeat' (first
   |(apply zcl ?_;clear hK K)|fail)
  generalize hHq:Hp.set (Hp.alloc C _) _ _=Hq;have nq:C.next+1<=Hq.next:=by rw[<-hHq];exact aM _
  have U:∀k,k<C.next->Hq.get k=C.get k:=fun k hk=>by rw[<-hHq,aU,ah ac,zcu,ah ac]
  have q9:Hq.get C.next=some (.cells [.int .i64 (zfd false)] 0 true):=by rw[<-hHq,aU,ax rfl];rfl
  clear hHq;refine zdl [5,6,9,41,42] [] 43 p.funcs.length (fun i E H=>∃w,H.get C.next=some (.cells [.int .i64 (zfd w)] 0 true)/\qF p=ob (zd1 p.funcs []) (zda p) (p.funcs.drop i) w/\H.get (Z.next+1)=some (.cells [.map 2] 0 true)/\(∃l,H.get 2=some (.map (ep l))/\∀s,zcP l s=zcP (zda p) s)/\H.get (Z.next+2)=some (.cells [.map Z.next] 0 true)/\H.get Z.next=some (.map (cP (zd1 p.funcs [])))) eE ⟨false,q9,rfl,by rw[U _ ac];exact h35,⟨la,by rw[U _ ac];exact h3a,j⟩,by rw[U _ ac];exact h36,by rw[U _ ac];exact hm⟩ ?_;clear hm j la h30 h3a h35 h36 gs0 gsa gs5 gs6 gsf q9 U;rintro i E H4 hi hcE hrH hnH hsI ⟨w,g9,hJ,g5,⟨la,ga,hla⟩,g6,gf⟩;(try simp only[zcO,zcI,aY,zcz,zcL,Nat.reduceBEq, *]at hcE);(try simp only[zcI, *]at hrH);(try simp only[zcB,zcS,zdg,bw,Nat.reduceAdd]at hnH);repeat' (first
   |(apply zcl ?_;clear hK K)|apply Rx.o ?_|(apply aS (fun z V=>?_) (fun z V=>?_)<;>try(cases z;done))|apply ak ?_|(apply zcm fun K hK=>?_)|apply ay ?_|apply zco ?_|apply am ?_|apply zcA ?_)
  .have F:i<p.funcs.length:=by simpa using z
   have hgx:p.funcs[i]?=some p.funcs[i]:=aO F;have hsm:=rN (dj F);have hsz:p.funcs[i].sz=1+p.funcs[i].name.length+zen p.funcs[i].params+zen p.funcs[i].locals+zes p.funcs[i].body+p.funcs[i].value.sz:=rfl;have hpl:=rI p.funcs[i].params;have hll:=rI p.funcs[i].locals;have hdr:ob (zd1 p.funcs []) (zda p) (p.funcs.drop i) w=if lh (fun x _=>j4 (p.funcs[i].params++p.funcs[i].locals) (zda p) x) p.funcs[i]=true/\(zdG (j5 (zd1 p.funcs []) (p.funcs[i].params++p.funcs[i].locals) (zda p)) p.funcs[i].body 0 w).1=true then ob (zd1 p.funcs []) (zda p) (p.funcs.drop (i+1)) (zdG (j5 (zd1 p.funcs []) (p.funcs[i].params++p.funcs[i].locals) (zda p)) p.funcs[i].body 0 w).2 else 3:=by rw[d7 F];rfl
   rw[hdr]at hJ;clear hdr;have hfz:p.funcs[i].sz<2^60:=ac;generalize p.funcs[i]=g at *;repeat' (first
    |(apply zcl ?_;clear hK K)|apply Rx.o ?_|apply b8 ?_|apply ak ?_|(apply zcm fun K hK=>?_)|fail)
   generalize hHb:Hp.alloc (Hp.set _ _ _) _=o;have nb:o.next=H4.next+2:=by rw[<-hHb];rfl
   have oldb:∀k,k<H4.next->o.get k=H4.get k:=fun k hk=>by rw[<-hHb,zcu,ah sw,aU,ah ac,zcu,ah ac]
   have gbr:o.get (H4.next+1)=some (.cells [zdE g.params,zdE g.locals] 0 true):=by rw[<-hHb,zcu,ax db]
   have gb11:o.get H4.next=some (.cells g.cells 0 true):=by rw[<-hHb,zcu,ah sw,aU,ax rfl]
   clear hHb;refine bg rfl bh bj ?_;simp only[br];refine a7 ?_ (Ik (x:=[g.params,g.locals]) (imm:=0) (zdm (fun _=>rfl) rfl) gbr ac ⟨aD,co⟩);rintro v A ⟨rfl,⟨lv,hmv,hlv⟩,old5,n5⟩;rw[show([g.params,g.locals]:List (List (List UInt8))).flatten=g.params++g.locals by simp]at hlv;have o5:∀k,k<H4.next->A.get k=H4.get k:=fun k hk=>by rw[old5 k ac,oldb k hk]
   have g511:A.get H4.next=some (.cells g.cells 0 true):=by rw[old5 _ ac];exact gb11
   have g59:A.get C.next=some (.cells [.int .i64 (zfd w)] 0 true):=by rw[o5 _ ac];exact g9
   have g55:A.get (Z.next+1)=some (.cells [.map 2] 0 true):=by rw[o5 _ ac];exact g5
   have g5a:A.get 2=some (.map (ep la)):=by rw[o5 _ ac];exact ga
   have g56:A.get (Z.next+2)=some (.cells [.map Z.next] 0 true):=by rw[o5 _ ac];exact g6
   have g5f:A.get Z.next=some (.map (cP (zd1 p.funcs []))):=by rw[o5 _ ac];exact gf
   clear o5 old5 gbr gb11 oldb g9 g5 ga g6 gf;have e1:(H4.next == A.next)=false:=zcD ac;dsimp only[zcF];repeat' (first
    |(apply zcl ?_;clear hK K)|apply Rx.o ?_|apply b8 ?_|apply ak ?_|(apply zcm fun K hK=>?_)|fail)
   generalize hHd:Hp.set (Hp.alloc A _) _ _=L;have nd:L.next=A.next+1:=by rw[<-hHd];rfl
   have Y:∀k,k<A.next->L.get k=A.get k:=fun k hk=>by rw[<-hHd,aU,ah ac,zcu,ah ac]
   have d12:L.get A.next=some (.cells [.map o.next] 0 true):=by rw[<-hHd,aU,ax rfl,nb]
   clear hHd;have hok:RsOk ⟨A.next,o.next,Z.next+1,2,Z.next+2,Z.next,C.next⟩ (g.params++g.locals) (zda p) (zd1 p.funcs []) L:={
    b12:=d12
    bv:=⟨lv,by show L.get o.next=_;rw[Y _ n5];exact hmv,hlv⟩
    b5:=by show L.get (Z.next+1)=_;rw[Y _ ac];exact g55
    ba:=⟨la,by show L.get 2=_;rw[Y _ ac];exact g5a,hla⟩
    b6:=by show L.get (Z.next+2)=_;rw[Y _ ac];exact g56
    bf:=by show L.get Z.next=_;rw[Y _ ac];exact g5f}
   have hd9:L.get C.next=some (.cells [.int .i64 (zfd w)] 0 true):=by rw[Y _ ac];exact g59
   have hd11:L.get H4.next=some (.cells g.cells 0 true):=by rw[Y _ ac];exact g511
   have hlX:∀n,L.next<=n->RsLt ⟨A.next,o.next,Z.next+1,2,Z.next+2,Z.next,C.next⟩ n:=fun n hn=>⟨by show A.next<n;omega,by show o.next<n;omega,by show Z.next+1<n;omega,by show 2<n;omega,by show Z.next+2<n;omega,by show Z.next<n;omega⟩
   have hnX:RsNe ⟨A.next,o.next,Z.next+1,2,Z.next+2,Z.next,C.next⟩:=⟨by show A.next≠C.next;omega,by show o.next≠C.next;omega,by show Z.next+1≠C.next;omega,by show 2≠C.next;omega,by show Z.next+2≠C.next;omega,by show Z.next≠C.next;omega⟩;clear g59 g55 g5a g56 g5f d12 Y hmv hlv hla g511;refine bg rfl bh bj ?_;simp only[br];refine a7 ?_ (Ie hps (I:=fun H'=>fz L.next L H') (fun a b h1 h2=>h1.trans h2) (Y6 (zdm (fun _=>rfl) rfl) (hlX _ (aM _)) (fun a b h1 h2=>h1.trans h2) fun H' h=>hok.low (hlX _ (aM _)) h) g L hfz (aM _) (lS _ _));rintro v H6 ⟨rfl,hf6,W⟩;have n6:=hf6.next
   have hok6:=hok.low (hlX _ (aM _)) W;have h69:H6.get C.next=some (.cells [.int .i64 (zfd w)] 0 true):=by rw[W _ ac];exact hd9
   have h611:H6.get H4.next=some (.cells g.cells 0 true):=by rw[W _ ac];exact hd11
   clear W hf6 hok hd9 hd11;dsimp only[zcF];cases hwf:lh (fun x _=>j4 (g.params++g.locals) (zda p) x) g with
   |false=>
    repeat' (first
     |(apply zcl ?_;clear hK K)|apply Rx.o ?_|(apply b0 (fun hg hgp=>?_) (fun hg hgp=>?_)<;>try(cases hg;done))|(apply aS (fun z V=>?_) (fun z V=>?_)<;>try(cases z;done))|apply ak ?_|(apply zcm fun K hK=>?_)|apply am ?_|fail)
    all_goals (refine⟨eI,_,eR,?_⟩;try simp only[zcn])
    rw[hJ,hwf];simp
   |true=>
    rw[hwf]at hJ;repeat' (first
     |(apply zcl ?_;clear hK K)|apply Rx.o ?_|(apply b0 (fun hg hgp=>?_) (fun hg hgp=>?_)<;>try(cases hg;done))|apply ak ?_|(apply zcm fun K hK=>?_)|fail)
    refine bg rfl bh bj ?_;simp only[br];refine a7 ?_ (sH (zdm (fun _=>rfl) rfl) (base:=H6.next) (I:=fun(w:Bool) H=>RsOk ⟨A.next,o.next,Z.next+1,2,Z.next+2,Z.next,C.next⟩ (g.params++g.locals) (zda p) (zd1 p.funcs []) H/\H.get C.next=some (.cells [.int .i64 (zfd w)] 0 true)) (fun s a b h1 h2=>⟨h1.1.low (hlX _ n6) h2,by rw[h2 _ ac];exact h1.2⟩) (Y7 (zdm (fun _=>rfl) rfl) (hlX _ n6) (by show C.next<_;omega) hnX) (zes g.body+1) g.body ac 0 w H6 ac (aM _) ⟨hok6,h69⟩);rintro v H7 ⟨rfl,hf7,J,h79⟩;have n7:=hf7.next
    dsimp only[zcF];repeat' (first
     |(apply zcl ?_;clear hK K)|apply Rx.o ?_|(apply aS (fun z V=>?_) (fun z V=>?_)<;>try(cases z;done))|apply ak ?_|(apply zcm fun K hK=>?_)|apply zco ?_|apply am ?_|fail)
    .all_goals (refine⟨eI,_,eR,?_⟩;try simp only[zcn])
     rw[hJ];simp_all
    .refine⟨ac,zcy,zcy,zcT,uL,?_⟩;refine⟨_,h79,?_,J.b5,J.ba,J.b6,J.bf⟩;rw[hJ,ax ⟨rfl,by simp_all⟩]
  .repeat' (first
    |(apply zcl ?_;clear hK K)|fail)
   all_goals (refine⟨eI,_,eR,?_⟩;try simp only[zcn])
   have hie:i=p.funcs.length:=uJ;rw[hJ,hie,jy,ob,zfd])
end
section
def tyW4e.tyF:=ad @bZ (ad @dl (ad @hM (ad @lm (ad @mM (ad @jP (ad @jQ (ad @iA (ad @gk (ad @mN (@jv))))))))))
open tyW4e
noncomputable def In:{c:SC // aA 68 (Tryz.f85.body.getD .skip)=c}:=by
 refine⟨?_,?_⟩;rotate_left
 .simp only[Tryz.f85,a3,aA,zcG,zcE,zcJ,zcK,Nat.blt,Nat.ble];rfl
theorem Za{cfg:Cfg}(hp:Plains cfg)(C:Plain cfg 85)(j:Plain cfg 124)(h2w:Plain cfg 126)(p:Pr)(hz:p.sz<2^60):
 zcx Tryz.prog cfg 85 [.agg p.cells] zc2 fun v _=>v=.bool (iS p):=by
 have hpz:p.sz=1+kB p.arrays+kA p.funcs:=rfl;have hla:=rK p.arrays;have hlf:=rJ p.funcs;have hla2:p.arrays.length<2^60:=ac;have hlf2:p.funcs.length<2^60:=ac;refine zcv (M:=68) (rs:=[.tmp 2]) (C.call _) C.ice C.froz Tryz.func85 rfl rfl In.2 rfl ?_;dsimp only[In,zcr,Nat.reduceAdd];repeat' (first
  |(apply zcl ?_;clear hK K)|apply Rx.o ?_|(apply b0 (fun A Z=>?_) (fun A Z=>?_)<;>try(cases A;done))|(apply aS (fun z V=>?_) (fun z V=>?_)<;>try(cases z;done))|apply ak ?_|(apply zcm fun K hK=>?_)|apply ay ?_|apply zco ?_|apply am ?_|fail)
 .all_goals (refine⟨eI,_,eR,?_⟩;try simp only[zcn])
  simp_all[iS];try(intros;omega)
 .refine lR (fun i E H=>p.arrays.all (fun a=>!decide (a.len<1) && !decide (16<a.len))=(p.arrays.drop i).all (fun a=>!decide (a.len<1) && !decide (16<a.len))/\E.at 1=.ptr 0 0/\E.at 21=.lst (p.arrays.map Ar.cells)/\E.at 22=.int .i64 p.arrays.length/\E.at 23=.int .i64 i/\0<H.next/\H.get 0=some (.cells p.cells 0 true)) p.arrays.length ?_ ?_
  .rintro i E H hi ⟨hc,h1,h21,h22,h23,hn,hg0⟩;have e0:(0 == H.next)=false:=co;repeat' (first
    |(apply zcl ?_;clear hK K)|apply Rx.o ?_|(apply aS (fun z V=>?_) (fun z V=>?_)<;>try(cases z;done))|apply ak ?_|(apply zcm fun K hK=>?_)|apply ay ?_|apply zco ?_|apply zcA ?_)
   .have Y:i<p.arrays.length:=by simpa using z
    have hgx:p.arrays[i]?=some p.arrays[i]:=aO Y;have hd:(p.arrays.drop i).all (fun a=>!decide (a.len<1) && !decide (16<a.len))=((!decide (p.arrays[i].len<1) && !decide (16<p.arrays[i].len))&&(p.arrays.drop (i+1)).all (fun a=>!decide (a.len<1) && !decide (16<a.len))):=xO;repeat' (first
     |(apply zcl ?_;clear hK K)|apply Rx.o ?_|apply b8 ?_|(apply b0 (fun A Z=>?_) (fun A Z=>?_)<;>try(cases A;done))|(apply aS (fun z V=>?_) (fun z V=>?_)<;>try(cases z;done))|apply ak ?_|(apply zcm fun K hK=>?_)|apply zco ?_|apply am ?_|fail)
    .all_goals (refine⟨eI,_,eR,?_⟩;try simp only[zcn])
     have W:p.arrays.all (fun a=>!decide (a.len<1) && !decide (16<a.len))=false:=by rw[hc,hd];simp_all
     simp only[iS,W];simp
    .refine⟨Y,?_,eE,eE,eE,?_,sw,zfr⟩
     .rw[hc,hd];simp_all
     .simp only[gH,Nat.reduceBEq,fM,zeL (show i<2^62 by omega)]
    .all_goals (refine⟨eI,_,eR,?_⟩;try simp only[zcn])
     have W:p.arrays.all (fun a=>!decide (a.len<1) && !decide (16<a.len))=false:=by rw[hc,hd];simp_all
     simp only[iS,W];simp
   .have hia:i=p.arrays.length:=by simp at z;omega
    have hca:p.arrays.all (fun a=>!decide (a.len<1) && !decide (16<a.len))=true:=by rw[hc,hia];simp
    clear hc;repeat' (first
     |(apply zcl ?_;clear hK K)|fail)
    refine lR (fun i E H=>p.funcs.all gK=(p.funcs.drop i).all gK/\E.at 37=.lst (p.funcs.map Fu.cells)/\E.at 38=.int .i64 p.funcs.length/\E.at 39=.int .i64 i/\0<H.next) p.funcs.length ?_ ?_
    .rintro i E H hi ⟨hc,h37,h38,h39,hn⟩;repeat' (first
      |(apply zcl ?_;clear hK K)|apply Rx.o ?_|(apply aS (fun z V=>?_) (fun z V=>?_)<;>try(cases z;done))|apply ak ?_|(apply zcm fun K hK=>?_)|apply ay ?_|apply zco ?_|apply am ?_|apply zcA ?_)
     .have Y:i<p.funcs.length:=by simpa using z
      have hgx:p.funcs[i]?=some p.funcs[i]:=aO Y;have hd:(p.funcs.drop i).all gK=(gK p.funcs[i]&&(p.funcs.drop (i+1)).all gK):=xO;have hxm:=rN (dj Y);generalize hx0:p.funcs[i]=x at *;have hsx:x.sz=1+x.name.length+zen x.params+zen x.locals+zes x.body+x.value.sz:=rfl;repeat' (first
       |(apply zcl ?_;clear hK K)|apply Rx.o ?_|apply b8 ?_|(apply b0 (fun A Z=>?_) (fun A Z=>?_)<;>try(cases A;done))|(apply aS (fun z V=>?_) (fun z V=>?_)<;>try(cases z;done))|apply ak ?_|(apply zcm fun K hK=>?_)|apply am ?_|fail)
      .generalize F:Hp.set _ (H.next+2) _=O;have hn5:O.next=H.next+3:=by rw[<-F];rfl
       have J:O.get H.next=some (.cells x.cells 0 true):=by rw[<-F];simp only[get_set,pT,zcB,zcS,zN,gG,Nat.reduceAdd,xA,fM,nK]
       have m:O.get (H.next+1)=some (.cells [.int .i64 0] 0 true):=If;have o:O.get (H.next+2)=some (.cells [.int .i64 0] 0 true):=If;refine bg rfl bh bj ?_;simp only[br];refine a7 ?_ (sH hp.ws (base:=H.next+3) (fun s Ha Hb h L=>⟨by rw[L _ ac];exact h.1,by rw[L _ ac];exact h.2.1,fun r q1 q2 q3=>by rw[L r q1];exact h.2.2 r q1 q2 q3⟩) (Y2 j (base:=H.next+3) (rn:=H.next+1) (rl:=H.next+2) ac ac ac O) (zes x.body+1) x.body ac 0 (0,0) O ac ac ⟨m,o,fun _ _ _ _=>rfl⟩);rintro v H6 ⟨rfl,hf6,hi6⟩;have hn6:=hf6.next
       have hg6:H6.get H.next=some (.cells x.cells 0 true):=by rw[hi6.2.2 _ ac ac ac];exact J
       dsimp only[zcF];repeat' (first
        |(apply zcl ?_;clear hK K)|apply Rx.o ?_|(apply b0 (fun A Z=>?_) (fun A Z=>?_)<;>try(cases A;done))|(apply aS (fun z V=>?_) (fun z V=>?_)<;>try(cases z;done))|apply ak ?_|(apply zcm fun K hK=>?_)|apply am ?_|fail)
       .refine bg rfl bh bj ?_;simp only[br];refine a7 ?_ (Ie hp (base:=0) (I:=fun _=>True) (fun _ _ _ _=>trivial) (Y3 h2w (fun _ _ _ _=>trivial)) x H6 ac ac trivial);rintro v H7 ⟨rfl,hf7,_⟩;have hn7:=hf7.next
        dsimp only[zcF];repeat' (first
         |(apply zcl ?_;clear hK K)|apply Rx.o ?_|(apply b0 (fun A Z=>?_) (fun A Z=>?_)<;>try(cases A;done))|(apply aS (fun z V=>?_) (fun z V=>?_)<;>try(cases z;done))|apply ak ?_|(apply zcm fun K hK=>?_)|apply zco ?_|apply am ?_|fail)
        .all_goals (refine⟨eI,_,eR,?_⟩;try simp only[zcn])
         have g:p.funcs.all gK=false:=by rw[hc,hd];simp_all[gK]
         simp only[iS,g];simp
        .refine⟨Y,?_,eE,eE,?_,ac⟩
         .rw[hc,hd];simp_all[gK]
         .simp only[gH,Nat.reduceBEq,fM,zeL (show i<2^62 by omega)]
       .all_goals (refine⟨eI,_,eR,?_⟩;try simp only[zcn])
        have g:p.funcs.all gK=false:=by rw[hc,hd];simp_all[gK]
        simp only[iS,g];simp
      .all_goals (refine⟨eI,_,eR,?_⟩;try simp only[zcn])
       have U:gK x=false:=by
        simp only[gK,oL,jw];first|exact .inl (.inl (.inl hC))|exact .inl (.inl (.inr hC))
       have g:p.funcs.all gK=false:=by rw[hc,hd,U,dK]
       simp only[iS,g];simp
      .all_goals (refine⟨eI,_,eR,?_⟩;try simp only[zcn])
       have U:gK x=false:=by
        simp only[gK,oL,jw];first|exact .inl (.inl (.inl hC))|exact .inl (.inl (.inr hC))
       have g:p.funcs.all gK=false:=by rw[hc,hd,U,dK]
       simp only[iS,g];simp
     .all_goals (refine⟨eI,_,eR,?_⟩;try simp only[zcn])
      have:i=p.funcs.length:=uJ;simp_all[iS];try(intros;omega)
    .exact⟨rfl,eE,eE,eE,ac⟩
  .exact⟨rfl,eE,eE,eE,eE,by simp[zcB,zdg],zfr⟩
 .all_goals (refine⟨eI,_,eR,?_⟩;try simp only[zcn])
  simp_all[iS];try(intros;omega)
end
section
def tyW4f.tyF:=ad @bZ (ad @uc (@dl))
open tyW4f
noncomputable def Io:{c:SC // aA 21 (Tryz.f209.body.getD .skip)=c}:=by
 refine⟨?_,?_⟩;rotate_left
 .simp only[Tryz.f209,a3,aA,zcG,zcE,zcJ,zcK,Nat.blt,Nat.ble];rfl
noncomputable def Ip:{c:SC // aA 9 (Tryz.f206.body.getD .skip)=c}:=by
 refine⟨?_,?_⟩;rotate_left
 .simp only[Tryz.f206,a3,aA,zcG,zcE,zcJ,zcK,Nat.blt,Nat.ble];rfl
noncomputable def Iq:{c:SC // aA 23 (Tryz.f204.body.getD .skip)=c}:=by
 refine⟨?_,?_⟩;rotate_left
 .simp only[Tryz.f204,a3,aA,zcG,zcE,zcJ,zcK,Nat.blt,Nat.ble];rfl
noncomputable def Ir:{c:SC // aA 34 (Tryz.f195.body.getD .skip)=c}:=by
 refine⟨?_,?_⟩;rotate_left
 .simp only[Tryz.f195,a3,aA,zcG,zcE,zcJ,zcK,Nat.blt,Nat.ble];rfl
noncomputable def Is:{c:SC // aA 37 (Tryz.f207.body.getD .skip)=c}:=by
 refine⟨?_,?_⟩;rotate_left
 .simp only[Tryz.f207,a3,aA,zcG,zcE,zcJ,zcK,Nat.blt,Nat.ble];rfl
theorem Zb{cfg:Cfg}(J:Plain cfg 209)(n:Int)(H:Hp):zcx Tryz.prog cfg 209 [.int .u8 n] H fun v H'=>v=.bool (lq n)/\H'=H:=by
 refine zcv (M:=21) (rs:=[.tmp 2]) (J.call _) J.ice J.froz Tryz.func209 rfl rfl Io.2 rfl ?_;dsimp only[Io,zcr,Nat.reduceAdd];repeat' (first
  |(apply zcl ?_;clear hK K)|apply Rx.o ?_|apply qg ?_|(apply b0 (fun A I=>?_) (fun A I=>?_)<;>try(cases A;done))|apply ak ?_|(apply zcm fun K hK=>?_)|apply am ?_)
 all_goals (refine⟨eI,_,eR,?_⟩;try simp only[zcn])
 all_goals (refine⟨?_,iI⟩;simp_all[lq]<;>omega)
theorem BT{cfg:Cfg}(J:Plain cfg 206)(n:Int)(H:Hp):zcx Tryz.prog cfg 206 [.int .u8 n] H fun v H'=>v=.bool (jR n)/\H'=H:=by
 refine zcv (M:=9) (rs:=[.tmp 2]) (J.call _) J.ice J.froz Tryz.func206 rfl rfl Ip.2 rfl ?_;dsimp only[Ip,zcr,Nat.reduceAdd];repeat' (first
  |(apply zcl ?_;clear hK K)|apply Rx.o ?_|(apply b0 (fun A I=>?_) (fun A I=>?_)<;>try(cases A;done))|apply ak ?_|(apply zcm fun K hK=>?_)|apply am ?_)
 all_goals (refine⟨eI,_,eR,?_⟩;try simp only[zcn])
 all_goals (refine⟨?_,iI⟩;simp_all[jR]<;>omega)
theorem Zc{cfg:Cfg}(J:Plain cfg 204)(O:Plain cfg 209)(hd:Plain cfg 206)(s:List UInt8)(F:s.length<2^60)(H:Hp):
 zcx Tryz.prog cfg 204 [.str s] H fun v H'=>v=.int .i64 (zdR s)/\H'=H:=by
 refine zcv (M:=23) (rs:=[.tmp 2]) (J.call _) J.ice J.froz Tryz.func204 rfl rfl Iq.2 rfl ?_;dsimp only[Iq,zcr,Nat.reduceAdd];repeat' (first
  |(apply zcl ?_;clear hK K)|apply Rx.o ?_|apply ak ?_|(apply zcm fun K hK=>?_)|apply ay ?_|fail)
 refine lR (fun i E H'=>zdR s=i+zdR (s.drop i)/\E.at 0=.str s/\E.at 3=.int .i64 i/\H'=H) s.length ?_ ?_
 .rintro i E H' C ⟨hc,o,m,rfl⟩;repeat' (first
   |(apply zcl ?_;clear hK K)|apply Rx.o ?_|apply qg ?_|(apply b0 (fun A I=>?_) (fun A I=>?_)<;>try(cases A;done))|(apply aS (fun Y V=>?_) (fun Y V=>?_)<;>try(cases Y;done))|apply ak ?_|(apply zcm fun K hK=>?_)|apply am ?_|apply zcA ?_)
  .have Z:i<s.length:=by omega
   have L:s[i]?=some s[i]:=aO Z;have U:zdR (s.drop i)=if iD s[i]then zdR (s.drop (i+1))+1 else 0:=by rw[d7 Z,zdR]
   repeat' (first
    |apply Rx.o ?_|(apply b0 (fun A I=>?_) (fun A I=>?_)<;>try(cases A;done))|fail)
   refine bg rfl bh bj ?_;simp only[br];refine a7 ?_ (Zb O s[i].toNat H');rintro v _ ⟨rfl,rfl⟩;dsimp only[zcF];repeat' (first
    |(apply zcl ?_;clear hK K)|apply Rx.o ?_|(apply b0 (fun A I=>?_) (fun A I=>?_)<;>try(cases A;done))|(apply aS (fun Y V=>?_) (fun Y V=>?_)<;>try(cases Y;done))|(apply zcm fun K hK=>?_)|apply ay ?_|apply zco ?_|fail)
   .refine bg rfl bh bj ?_;simp only[br];refine a7 ?_ (BT hd s[i].toNat _);rintro v _ ⟨rfl,rfl⟩;dsimp only[zcF];repeat' (first
     |(apply zcl ?_;clear hK K)|apply Rx.o ?_|(apply b0 (fun A I=>?_) (fun A I=>?_)<;>try(cases A;done))|(apply aS (fun Y V=>?_) (fun Y V=>?_)<;>try(cases Y;done))|apply ak ?_|(apply zcm fun K hK=>?_)|apply ay ?_|apply zco ?_|apply am ?_|apply zcA ?_)
    .have z:iD s[i]=true:=by simp_all[iD]
     refine⟨Z,?_,eE,?_,rfl⟩
     .rw[hc,U,z];simp;omega
     .simp only[gH,Nat.reduceBEq,fM,zeL (show i<2^62 by omega)]
    .have z:iD s[i]=false:=by simp_all[iD]
     all_goals (refine⟨eI,_,eR,?_⟩;try simp only[zcn])
     exact⟨by rw[hc,U,z];simp,iI⟩
   .have z:iD s[i]=true:=by simp_all[iD]
    refine⟨Z,?_,eE,?_,rfl⟩
    .rw[hc,U,z];simp;omega
    .simp only[gH,Nat.reduceBEq,fM,zeL (show i<2^62 by omega)]
  .all_goals (refine⟨eI,_,eR,?_⟩;try simp only[zcn])
   have W:i=s.length:=ac;refine⟨?_,iI⟩;rw[hc,W];simp[zdR]
 .exact⟨aD,eE,eE,rfl⟩
theorem It{cfg:Cfg}(O:Plain cfg 195)(s:List UInt8)(hs:s.length<2^60)(H:Hp):
 zcx Tryz.prog cfg 195 [.str s] H fun v H'=>v=.int .i64 (zdV false s)/\H'=H:=by
 refine zcv (M:=34) (rs:=[.tmp 2]) (O.call _) O.ice O.froz Tryz.func195 rfl rfl Ir.2 rfl ?_;dsimp only[Ir,zcr,Nat.reduceAdd];repeat' (first
  |(apply zcl ?_;clear hK K)|apply Rx.o ?_|apply ak ?_|(apply zcm fun K hK=>?_)|apply ay ?_|fail)
 refine pQ (fun n E H'=>∃i:Nat,n=s.length-i/\i<=s.length/\zdV false s=i+zdV false (s.drop i)/\E.at 0=.str s/\E.at 3=.int .i64 i/\H'=H) ?_ (n:=s.length) ?_
 .rintro n E H' ⟨i,rfl,hi,hc,h0,h3,rfl⟩;repeat' (first
   |(apply zcl ?_;clear hK K)|apply Rx.o ?_|(apply aS (fun z V=>?_) (fun z V=>?_)<;>try(cases z;done))|apply ak ?_|(apply zcm fun K hK=>?_)|apply ay ?_|apply zco ?_|apply am ?_|apply zcA ?_)
  .have W:i<s.length:=by omega
   have hgx:s[i]?=some s[i]:=aO W;have U:zdV false (s.drop i)=if zeH s[i]then zdV false (s.drop (i+1))+1 else if s[i].toNat=35 then zdV true (s.drop (i+1))+1 else 0:=by rw[d7 W,zdV]
   repeat' (first
    |(apply zcl ?_;clear hK K)|apply Rx.o ?_|(apply aS (fun z V=>?_) (fun z V=>?_)<;>try(cases z;done))|apply ak ?_|(apply zcm fun K hK=>?_)|apply ay ?_|apply zco ?_|apply am ?_|fail)
   .have Z:zeH s[i]=true:=by unfold zeH;simp;omega
    refine⟨s.length-(i+1),ac,i+1,rfl,ac,?_,eE,?_,rfl⟩
    .rw[hc,U,ax Z];omega
    .simp only[gH,Nat.reduceBEq,fM,zeL (show i<2^62 by omega)]
   .have Z:zeH s[i]=true:=by unfold zeH;simp;omega
    refine⟨s.length-(i+1),ac,i+1,rfl,ac,?_,eE,?_,rfl⟩
    .rw[hc,U,ax Z];omega
    .simp only[gH,Nat.reduceBEq,fM,zeL (show i<2^62 by omega)]
   .have Z:zeH s[i]=true:=by unfold zeH;simp;omega
    refine⟨s.length-(i+1),ac,i+1,rfl,ac,?_,eE,?_,rfl⟩
    .rw[hc,U,ax Z];omega
    .simp only[gH,Nat.reduceBEq,fM,zeL (show i<2^62 by omega)]
   .have Z:zeH s[i]=true:=by unfold zeH;simp;omega
    refine⟨s.length-(i+1),ac,i+1,rfl,ac,?_,eE,?_,rfl⟩
    .rw[hc,U,ax Z];omega
    .simp only[gH,Nat.reduceBEq,fM,zeL (show i<2^62 by omega)]
   .have F:s[i].toNat=35:=by omega
    have Z:zeH s[i]=false:=by unfold zeH;simp;omega
    have m:gP (s.drop i)=gP (s.drop (i+1))+1:=by rw[d7 W,gP,ah ac]
    have L:zdV false s=i+gP (s.drop i)+zdV false (s.drop (i+gP (s.drop i))):=by
     rw[hc,U,Z,ah aD,ax F,Fe,vE,m,show i+1+gP (s.drop (i+1))=i+(gP (s.drop (i+1))+1) by omega];omega
    have g:=Fc (s.drop i);rw[ik]at g;refine pQ (fun n E o=>∃j:Nat,n=s.length-j/\i<=j/\j<=s.length/\i+gP (s.drop i)=j+gP (s.drop j)/\E.at 0=.str s/\E.at 3=.int .i64 j/\o=H') ?_ (n:=s.length-i) ?_
    .rintro n E2 H2 ⟨j,rfl,hij,hj,C,zdz,zeP,rfl⟩;repeat' (first
      |(apply zcl ?_;clear hK K)|apply Rx.o ?_|(apply b0 (fun A I=>?_) (fun A I=>?_)<;>try(cases A;done))|(apply aS (fun z V=>?_) (fun z V=>?_)<;>try(cases z;done))|apply ak ?_|(apply zcm fun K hK=>?_)|apply zcA ?_)
     .have Y:j<s.length:=by omega
      have hgx2:s[j]?=some s[j]:=aO Y;have J:gP (s.drop j)=if s[j].toNat=10 then 0 else gP (s.drop (j+1))+1:=by rw[d7 Y,gP]
      repeat' (first
       |(apply zcl ?_;clear hK K)|apply Rx.o ?_|(apply b0 (fun A I=>?_) (fun A I=>?_)<;>try(cases A;done))|(apply aS (fun z V=>?_) (fun z V=>?_)<;>try(cases z;done))|(apply zcm fun K hK=>?_)|apply ay ?_|apply zco ?_|apply zcA ?_)
      .refine⟨s.length-(j+1),ac,j+1,rfl,ac,ac,?_,eE,?_,rfl⟩
       .rw[C,J,ah (by simp_all;omega)];omega
       .simp only[gH,Nat.reduceBEq,fM,zeL (show j<2^62 by omega)]
      .have h10:s[j].toNat=10:=by simp_all;omega
       rw[J,ax h10,my]at C;refine⟨s.length-j,ac,j,rfl,ac,?_,eE,eE,iI⟩;rw[L,C]
     .have hje:j=s.length:=by omega
      have h0j:gP (s.drop j)=0:=by rw[hje];simp[gP]
      rw[h0j,my]at C;refine⟨s.length-j,ac,j,rfl,ac,?_,eE,eE,iI⟩;rw[L,C]
    .exact⟨i,rfl,ac,ac,rfl,eE,eE,rfl⟩
   .have Z:zeH s[i]=false:=by unfold zeH;simp;omega
    all_goals (refine⟨eI,_,eR,?_⟩;try simp only[zcn])
    refine⟨?_,iI⟩;rw[hc,U,Z,ah aD,ah ac];simp
  .all_goals (refine⟨eI,_,eR,?_⟩;try simp only[zcn])
   have hie:i=s.length:=ac;refine⟨?_,iI⟩;rw[hc,hie];simp[zdV]
 .exact⟨0,aD,ac,aD,eE,eE,rfl⟩
end
section
def tyW4g.tyF:=ad @bZ (ad @dl (ad @rU (ad @Ao (ad @Au (ad @wL (ad @uc (ad @Wj (ad @Nm (ad @zW (@Tryz.underlying9))))))))))
open tyW4g
noncomputable def Iu:{c:SC // aA 35 (Tryz.f205.body.getD .skip)=c}:=by
 refine⟨?_,?_⟩;rotate_left
 .simp only[Tryz.f205,a3,aA,zcG,zcE,zcJ,zcK,Nat.blt,Nat.ble];rfl
noncomputable def Iv:{c:SC // aA 41 (Tryz.f196.body.getD .skip)=c}:=by
 refine⟨?_,?_⟩;rotate_left
 .simp only[Tryz.f196,a3,aA,zcG,zcE,zcJ,zcK,Nat.blt,Nat.ble];rfl
noncomputable def Iw:{c:SC // aA 49 (Tryz.f170.body.getD .skip)=c}:=by
 refine⟨?_,?_⟩;rotate_left
 .simp only[Tryz.f170,a3,aA,zcG,zcE,zcJ,zcK,Nat.blt,Nat.ble];rfl
theorem Zd{cfg:Cfg}(J:Plain cfg 207)(hd:Plain cfg 206)(s:List UInt8)(o:s≠[])(U:s.length<2^60)(H:Hp):
 zcx Tryz.prog cfg 207 [.str s] H fun v H'=>(∃b,v=.bool b)/\H'=H:=by
 have j:0<s.length:=BS.2 o;have Y:s[0]?=some s[0]:=aO j;refine zcv (M:=37) (rs:=[.tmp 2]) (J.call _) J.ice J.froz Tryz.func207 rfl rfl Is.2 rfl ?_;dsimp only[Is,zcr,Nat.reduceAdd];repeat' (first
  |(apply zcl ?_;clear hK K)|apply Rx.o ?_|apply ak ?_|(apply zcm fun K hK=>?_)|apply ay ?_|fail)
 refine lR (fun i E H'=>E.at 0=.str s/\E.at 3=.int .i64 i/\H'=H) s.length ?_ ?_
 .rintro i E H' C ⟨zdz,zeP,rfl⟩;repeat' (first
   |(apply zcl ?_;clear hK K)|apply Rx.o ?_|(apply aS (fun z V=>?_) (fun z V=>?_)<;>try(cases z;done))|apply ak ?_|(apply zcm fun K hK=>?_)|apply ay ?_|apply zco ?_|apply zcA ?_)
  .have Z:i<s.length:=by omega
   have W:s[i]?=some s[i]:=aO Z;repeat' (first
    |apply Rx.o ?_|fail)
   refine bg rfl bh bj ?_;simp only[br];refine a7 ?_ (BT hd s[i].toNat H');rintro v _ ⟨rfl,rfl⟩;dsimp only[zcF];repeat' (first
    |(apply zcl ?_;clear hK K)|apply Rx.o ?_|(apply aS (fun z V=>?_) (fun z V=>?_)<;>try(cases z;done))|apply ak ?_|(apply zcm fun K hK=>?_)|apply zco ?_|apply am ?_|fail)
   .all_goals (refine⟨eI,_,eR,?_⟩;try simp only[zcn])
    exact⟨⟨_,rfl⟩,iI⟩
   .refine⟨Z,eE,?_,iI⟩;simp only[gH,Nat.reduceBEq,fM,zeL (show i<2^62 by omega)]
  .repeat' (first
    |(apply zcl ?_;clear hK K)|apply Ry.o ?_|apply Ry.gu ?_|(apply a8 (fun A I=>?_) (fun A I=>?_)<;>try(cases A;done))|apply am ?_|fail)
   all_goals (refine⟨eI,_,eR,?_⟩;try simp only[zcn])
   all_goals exact⟨⟨_,rfl⟩,iI⟩
 .exact⟨eE,eE,rfl⟩
def Ze:List (List UInt8):=[[62,62,62],[60,60],[62,62],[60,61],[62,61],[61,61],[33,61]]
theorem Zf{cfg:Cfg}(J:Plain cfg 205)(hplan:∀id,cfg.plan 205 id=.text)(s:List UInt8)(o:s≠[])(g:s.length<2^60)(H:Hp):
 zcx Tryz.prog cfg 205 [.str s] H fun v H'=>(∃n:Nat,v=.int .i64 n/\n<=s.length)/\H'=H:=by
 have Y:0<s.length:=BS.2 o;have m:s[0]?=some s[0]:=aO Y;have L:zdK Tryz.prog 245 [(0,.str [62,62,62]),(1,.str [60,60]),(2,.str [62,62]),(3,.str [60,61]),(4,.str [62,61]),(5,.str [61,61]),(6,.str [33,61])]=some (.agg [.str [62,62,62],.str [60,60],.str [62,62],.str [60,61],.str [62,61],.str [61,61],.str [33,61]]):=af;refine zcv (M:=35) (rs:=[.tmp 2]) (J.call _) J.ice J.froz Tryz.func205 rfl rfl Iu.2 rfl ?_;dsimp only[Iu,zcr,Nat.reduceAdd];repeat' (first
  |(apply zcl ?_;clear hK K)|apply Rx.o ?_|apply ak ?_|(apply zcm fun K hK=>?_)|apply ay ?_|fail)
 refine lR (fun i E H'=>E.at 0=.str s/\E.at 6=.agg [.str [62,62,62],.str [60,60],.str [62,62],.str [60,61],.str [62,61],.str [61,61],.str [33,61]]/\E.at 7=.int .i64 i/\H'=H) 7 ?_ ?_
 .rintro i E H' hi ⟨zdz,ze9,zfl,rfl⟩;repeat' (first
   |(apply zcl ?_;clear hK K)|apply Rx.o ?_|(apply aS (fun z V=>?_) (fun z V=>?_)<;>try(cases z;done))|apply ak ?_|(apply zcm fun K hK=>?_)|apply ay ?_|apply zco ?_|apply zcA ?_)
  .have Z:i<7:=by omega
   have F:∃w:List UInt8,lJ Tryz.prog 245 (.agg [.str [62,62,62],.str [60,60],.str [62,62],.str [60,61],.str [62,61],.str [61,61],.str [33,61]]) (.int .i64 i)=some (.str w):=by
    refine⟨Ze.getD i [],?_⟩;rcases(show i=0\/i=1\/i=2\/i=3\/i=4\/i=5\/i=6 by omega)with rfl|rfl|rfl|rfl|rfl|rfl|rfl<;>kernel_rfl
   obtain⟨w,C⟩:=F;repeat' (first
    |(apply zcl ?_;clear hK K)|apply Rx.o ?_|(apply b0 (fun A I=>?_) (fun A I=>?_)<;>try(cases A;done))|(apply aS (fun z V=>?_) (fun z V=>?_)<;>try(cases z;done))|apply ak ?_|(apply zcm fun K hK=>?_)|apply zco ?_|fail)
   .have U:w.length<=s.length:=by omega
    repeat' (first
     |(apply zcl ?_;clear hK K)|apply Rx.o ?_|(apply b0 (fun A I=>?_) (fun A I=>?_)<;>try(cases A;done))|(apply aS (fun z V=>?_) (fun z V=>?_)<;>try(cases z;done))|apply ak ?_|(apply zcm fun K hK=>?_)|apply zco ?_|apply am ?_|fail)
    .all_goals (refine⟨eI,_,eR,?_⟩;try simp only[zcn])
     exact⟨⟨w.length,rfl,U⟩,iI⟩
    .refine⟨Z,eE,eE,?_,iI⟩;simp only[gH,Nat.reduceBEq,fM,zeL (show i<2^62 by omega)]
   .refine⟨Z,eE,eE,?_,iI⟩;simp only[gH,Nat.reduceBEq,fM,zeL (show i<2^62 by omega)]
  .repeat' (first
    |(apply zcl ?_;clear hK K)|fail)
   refine lR (fun i E O=>E.at 0=.str s/\E.at 5=.int .i64 i/\O=H') 23 ?_ ?_
   .rintro j E O hj ⟨zdz,zep,rfl⟩;repeat' (first
     |(apply zcl ?_;clear hK K)|apply Rx.o ?_|(apply aS (fun z V=>?_) (fun z V=>?_)<;>try(cases z;done))|apply ak ?_|(apply zcm fun K hK=>?_)|(apply nU 10 fun K hK=>?_)|apply ay ?_|apply zco ?_|apply am ?_|apply zcA ?_)
    .have Z:j<23:=by omega
     have W:∃b,([43,45,42,47,37,38,124,94,126,33,60,62,61,63,58,59,44,40,41,123,125,91,93]:List UInt8)[j]?=some b:=by
      rw[aO rr];exact⟨_,rfl⟩
     obtain⟨b,W⟩:=W;repeat' (first
      |(apply zcl ?_;clear hK K)|apply Ry.o ?_|(apply aB (fun z V=>?_) (fun z V=>?_)<;>try(cases z;done))|apply ak ?_|(apply zcm fun K hK=>?_)|apply zco ?_|apply am ?_|fail)
     .all_goals (refine⟨eI,_,eR,?_⟩;try simp only[zcn])
      exact⟨⟨1,rfl,Y⟩,iI⟩
     .refine⟨Z,eE,?_,iI⟩;simp only[gH,Nat.reduceBEq,fM,zeL (show j<2^62 by omega)]
    .all_goals (refine⟨eI,_,eR,?_⟩;try simp only[zcn])
     exact⟨⟨0,rfl,cK _⟩,iI⟩
   .exact⟨eE,eE,rfl⟩
 .exact⟨eE,eE,eE,rfl⟩
end
section
def tyW4h.tyF:=ad @bZ (ad @dl (ad @wL (ad @zW (@Tryz.underlying9))))
open tyW4h
structure Lexers (cfg:Cfg):Prop where
 let_:Plain cfg 209
 dig:Plain cfg 206
 word:Plain cfg 204
 space:Plain cfg 195
 num:Plain cfg 207
 sym:Plain cfg 205
 first:Plain cfg 196
 scan:Plain cfg 170
 plan:∀id,cfg.plan 205 id=.text
 keep:cfg.keep 170=false
theorem xQ(a:Int)(x:List UInt8):zdK Tryz.prog 173 [(0,.int .i64 a),(1,.str x)]=some (.agg [.int .i64 a,.str x,.int .i64 0]):=af
theorem xR:zdK Tryz.prog 173 []=some (.agg [.int .i64 0,.str [],.int .i64 0]):=af
theorem sI(a b c:AV):zc6 3 [a,b,c]=some (.agg [a,b,c]):=rfl
theorem qJ(H:Hp)(a b:HB):FrB 0 H ((H.alloc a).set H.next b):=((fT _ _).alloc _).set (.inl (aM _)) _
theorem Zg{cfg:Cfg}(F:Lexers cfg)(s:List UInt8)(O:s≠[])(L:s.length<2^60)(H:Hp):
 zcx Tryz.prog cfg 196 [.str s] H fun v H'=>(∃k e,v=.tup [.agg k.cells,.int .i64 e]/\Ff s k e)/\FrB 0 H H':=by
 have J:=F.first
 have j:0<s.length:=BS.2 O;have Y:s[0]?=some s[0]:=aO j;have Z:=Fb s;refine zcv (M:=41) (rs:=[.cell 2 173,.tmp 3]) (J.call _) J.ice J.froz Tryz.func196 rfl rfl Iv.2 rfl ?_;dsimp only[Iv,zcr,Nat.reduceAdd];repeat' (first
  |(apply zcl ?_;clear hK K)|apply Rx.o ?_|apply b8 ?_|(apply aS (fun z V=>?_) (fun z V=>?_)<;>try(cases z;done))|apply ak ?_|(apply zcm fun K hK=>?_)|apply ay ?_|apply zco ?_|apply am ?_)
 refine bg rfl bh bj ?_;simp only[eM];refine a7 ?_ (Zc F.word F.let_ F.dig s L _);rintro v _ ⟨rfl,rfl⟩;dsimp only[zcF];have U:=@xQ;have o:=@xR;repeat' (first
  |(apply zcl ?_;clear hK K)|apply Ry.o ?_|(apply aB (fun z V=>?_) (fun z V=>?_)<;>try(cases z;done))|apply ak ?_|(apply zcm fun K hK=>?_)|apply ay ?_|apply zco ?_|apply am ?_)
 .refine bg rfl bh bj ?_;simp only[eM];refine a7 ?_ (Zf F.sym F.plan s O L _);rintro v _ ⟨⟨n,rfl,m⟩,rfl⟩;dsimp only[zcF];have U:=@xQ;have o:=@xR;repeat' (first
   |(apply zcl ?_;clear hK K)|apply Rx.o ?_|apply b8 ?_|(apply aS (fun z V=>?_) (fun z V=>?_)<;>try(cases z;done))|apply ak ?_|(apply zcm fun K hK=>?_)|apply ay ?_|apply zco ?_|apply am ?_)
  .refine⟨eI,_,(by(try simp only[zcz,zcL,Nat.reduceBEq,Nat.reduceAdd,Nat.reduceLeDiff,tyF,zd2,zee,sI, *]);first|done|with_reducible rfl),?_⟩;try simp only[zcn]
   exact⟨⟨⟨0,[],0⟩,2,rfl,rfl,aD,fun i=>ac⟩,qJ _ _ _⟩
  .refine⟨eI,_,(by(try simp only[zcz,zcL,Nat.reduceBEq,Nat.reduceAdd,Nat.reduceLeDiff,tyF,zd2,zee,sI, *]);first|done|with_reducible rfl),?_⟩;try simp only[zcn]
   refine⟨⟨⟨3,s.take n,0⟩,0,rfl,rfl,fun _=>⟨n,ac,m,rfl,aD⟩,fun i=>ac⟩,qJ _ _ _⟩
 .refine bg rfl bh bj ?_;simp only[eM];refine a7 ?_ (BT F.dig s[0].toNat _);rintro v _ ⟨rfl,rfl⟩;dsimp only[zcF];have C:=zW (P:=Tryz.prog) (k:=.i64) (s:=s) Tryz.underlying9 Z;have U:=@xQ;have o:=@xR;repeat' (first
   |(apply zcl ?_;clear hK K)|apply Rx.o ?_|apply b8 ?_|(apply aS (fun z V=>?_) (fun z V=>?_)<;>try(cases z;done))|apply ak ?_|(apply zcm fun K hK=>?_)|apply ay ?_|apply zco ?_|apply am ?_)
  .have I:s.take (zdR s)≠[]:=by
    intro h;have:=ku List.length h;rw[iN,Nat.min_eq_left Z,jo]at this;omega
   refine bg rfl bh bj ?_;simp only[eM];refine a7 ?_ (Zd F.num F.dig (s.take (zdR s)) I ru _);rintro v _ ⟨⟨ok,rfl⟩,rfl⟩;dsimp only[zcF];have U:=@xQ;have o:=@xR;repeat' (first
    |(apply zcl ?_;clear hK K)|apply Rx.o ?_|apply b8 ?_|(apply aS (fun z V=>?_) (fun z V=>?_)<;>try(cases z;done))|apply ak ?_|(apply zcm fun K hK=>?_)|apply ay ?_|apply zco ?_|apply am ?_)
   .refine⟨eI,_,(by(try simp only[zcz,zcL,Nat.reduceBEq,Nat.reduceAdd,Nat.reduceLeDiff,tyF,zd2,zee,sI, *]);first|done|with_reducible rfl),?_⟩;try simp only[zcn]
    refine⟨⟨⟨0,[],0⟩,2,rfl,rfl,aD,fun i g W=>?_⟩,qJ _ _ _⟩;have:=W _ Y;simp_all
   .refine⟨eI,_,(by(try simp only[zcz,zcL,Nat.reduceBEq,Nat.reduceAdd,Nat.reduceLeDiff,tyF,zd2,zee,sI, *]);first|done|with_reducible rfl),?_⟩;try simp only[zcn]
    refine⟨⟨⟨2,s.take (zdR s),0⟩,0,rfl,rfl,fun _=>⟨zdR s,ac,Z,rfl,aD⟩,fun i g W=>?_⟩,qJ _ _ _⟩;have:=W _ Y;simp_all
  .refine⟨eI,_,(by(try simp only[zcz,zcL,Nat.reduceBEq,Nat.reduceAdd,Nat.reduceLeDiff,tyF,zd2,zee,sI, *]);first|done|with_reducible rfl),?_⟩;try simp only[zcn]
   exact⟨⟨⟨0,[],0⟩,6,rfl,rfl,aD,fun i g=>ac⟩,qJ _ _ _⟩
  .refine⟨eI,_,(by(try simp only[zcz,zcL,Nat.reduceBEq,Nat.reduceAdd,Nat.reduceLeDiff,tyF,zd2,zee,sI, *]);first|done|with_reducible rfl),?_⟩;try simp only[zcn]
   refine⟨⟨⟨1,s.take (zdR s),0⟩,0,rfl,rfl,fun _=>⟨zdR s,ac,Z,rfl,fun _=>⟨rfl,ac,fun b z=>?_⟩⟩,fun _ _ _=>⟨rfl,rfl⟩⟩,qJ _ _ _⟩;rw[Y]at z;simp only[az]at z;subst z;assumption
end
section
def tyW4i.tyF:=ad @bZ (ad @dl (ad @rU (ad @Ao (ad @Au (@wL)))))
open tyW4i
theorem Ix(a b:Int):zdK Tryz.prog 86 [(0,.int .i64 a),(1,.int .i64 b)]=some (.agg [.int .i64 a,.int .i64 b]):=af
theorem Iy:zdK Tryz.prog 86 []=some (.agg [.int .i64 0,.int .i64 0]):=af
theorem BU(a b:AV):zc6 2 [a,b]=some (.agg [a,b]):=rfl
theorem Zh(k:Tk)(x:Int):List.take 2 k.cells++[.int .i64 x]++List.drop 3 k.cells=(Tk.mk k.kind k.text x).cells:=rfl
theorem Zi(H:Hp)(k:Tk):zdS Tryz.prog H 137 1 [(0,.agg k.cells)]=some (.sl H.next 0 1 3,H.alloc (.cells k.cells 0 true)):=af
theorem Zj{zc2 H:Hp}{W:AV}{O:List Tk}(Z:r0 zc2.next H W O)(i:FrB 0 zc2 H)(J:zc2.next<H.next)(k:Tk){m:Nat}(A:H.get m=some (.cells k.cells 0 true))(K:O.length<2^40):
 ∃M,zdX Tryz.prog false H 137 137 W (.sl m 0 1 3)=some (.sl H.next 0 (O.length+1) 3,M)/\M.next=H.next+1/\r0 zc2.next M (.sl H.next 0 (O.length+1) 3) (O++[k])/\FrB 0 zc2 M/\∀j,j<H.next->W≠.sl j 0 O.length 3->M.get j=H.get j:=by
 have C:zer H 3 (.sl m 0 1 3)=some (0+1,k.cells):=by
  have:=lT (H:=H) (r:=m) (o:=0) (n:=1) (z:=3) (s:=3) A (by rw[dQ,iN,Tk.clen];rfl);rw[this,dQ,ev (by rw[Tk.clen];omega)]
 have Y:zdO=70368744177664:=rfl;rcases Z with⟨rfl,rfl⟩|⟨r,rfl,L,F,g,q5⟩
 .refine⟨H.alloc (.cells k.cells 0 true),?_,rfl,.inr ⟨H.next,aD,?_,J,cL _,aD⟩,i.alloc _,fun j U _=>?_⟩
  .exact append_nil Tryz.underlying137 wK Aw Ax af C k.one rfl tn tn
  .rw[zcu,ax rfl];simp
  .rw[zcu,ah ac]
 .refine⟨(H.kill r).alloc (.cells (O.flatMap Tk.cells++k.cells) 0 true),?_,rfl,.inr ⟨H.next,aD,?_,J,cL _,aD⟩,(i.kill ac).alloc _,fun j U I=>?_⟩
  .exact zX Tryz.underlying137 wK Aw Ax af C k.one rfl L (Fg O) tn tn
  .show((H.kill r).alloc _).get (H.kill r).next=_
   rw[zcu,ax rfl];simp
  .have V:¬j=r:=fun e=>I k7;rw[zcu,ah ls,zem,ah V]
def Zk(s:List UInt8)(H:Hp)(v:AV)(H':Hp):Prop:=
 ∃(i O:Int) (lv:AV),v=.tup [lv,.agg [.int .i64 i,.int .i64 O]]/\FrB 0 H H'/\((i≠0/\¬oJ s)\/(i=0/\∃ts,r0 H.next H' lv ts/\wP s ts/\(oJ s->ts=[⟨1,s,0⟩])))
theorem Zl{cfg:Cfg}(hx:Lexers cfg)(s:List UInt8)(hs:s.length<2^60)(H:Hp):zcx Tryz.prog cfg 170 [.str s] H (Zk s H):=by
 have hw:=hx.scan;refine zcv (M:=49) (rs:=[.tmp 2,.cell 3 86]) (hw.call _) hw.ice hw.froz Tryz.func170 rfl rfl Iw.2 rfl ?_;dsimp only[Iw,zcr,Nat.reduceAdd];have gh0:=@Ix;have gh1:=@Iy;repeat' (first
  |(apply zcl ?_;clear hK K)|apply Rx.o ?_|apply b8 ?_|(apply aS (fun Y V=>?_) (fun Y V=>?_)<;>try(cases Y;done))|apply ak ?_|(apply zcm fun K hK=>?_)|apply zco ?_|apply am ?_|fail)
 .refine⟨eI,_,(by(try simp only[zcz,zcL,Nat.reduceBEq,tyF,zd2,zee,BU, *]);first|done|with_reducible rfl),?_⟩;try simp only[zcn]
  refine⟨6,20000,.nilS,rfl,qJ _ _ _,.inl ⟨aD,fun h=>?_⟩⟩;have:=h.2.2.1;omega
 .refine bg rfl bh bj ?_;simp only[br];refine a7 ?_ (It hx.space s hs _);rintro v _ ⟨rfl,rfl⟩;dsimp only[zcF];repeat' (first
   |(apply zcl ?_;clear hK K)|apply Rx.o ?_|apply ay ?_|fail)
  have hsp:=rZ false s;refine pQ (fun n E J=>∃(O:Nat) (ts:List Tk) (lv:AV),n=s.length-O/\O<=s.length/\E.at 0=.str s/\E.at 3=.ptr H.next 0/\E.at 4=lv/\E.at 5=.int .i64 O/\FrB 0 H J/\H.next<J.next /\
   J.get H.next=some (.cells [.int .i64 0,.int .i64 0] 0 true)/\r0 H.next J lv ts/\ts.length<=O/\wP s ts/\(ts=[]->O=zdV false s)/\(oJ s->(ts=[]/\O=0)\/(ts=[⟨1,s,0⟩]/\O=s.length))) ?_ (n:=s.length-zdV false s) ?_
  .rintro n E J ⟨O,ts,lv,rfl,ha,h0,h3,h4,h5,I,hn2,hg2,o,htl,Z,U,A⟩;have e1:(H.next == J.next)=false:=co;repeat' (first
    |(apply zcl ?_;clear hK K)|apply Rx.o ?_|apply b8 ?_|(apply aS (fun Y V=>?_) (fun Y V=>?_)<;>try(cases Y;done))|apply ak ?_|(apply zcm fun K hK=>?_)|apply ay ?_|apply zco ?_|apply am ?_|apply zcA ?_)
   .have hlt:O<s.length:=by omega
    have hslo:=D2 (P:=Tryz.prog) (k:=.i64) (s:=s) (m:=O) Tryz.underlying9 ha;repeat' (first
     |apply Rx.o ?_|fail)
    have hne:s.drop O≠[]:=by
     intro h;have:=ku List.length h;rw[ik,jo]at this;omega
    refine bg rfl bh bj ?_;simp only[br];refine a7 ?_ (Zg hx (s.drop O) hne vV J);rintro v C ⟨⟨k,e,rfl,hk⟩,z⟩;have hn3:=z.next
    have hg3:C.get H.next=some (.cells [.int .i64 0,.int .i64 0] 0 true):=by rw[z.get _ (cK _) hn2];exact hg2
    have W:r0 H.next C lv ts:=by
     rcases o with h|⟨r,g,q2,q3,q4,q5⟩
     .exact .inl h
     .exact .inr ⟨r,g,by rw[z.get _ (cK _) q4];exact q2,q3,ac,q5⟩
    have e2:(H.next == C.next)=false:=co;dsimp only[zcF];have hx1:Ab.extract (.tup [.agg k.cells,.int .i64 e]) 0=some (.agg k.cells):=rfl;have hx2:Ab.extract (.tup [.agg k.cells,.int .i64 e]) 1=some (.int .i64 e):=rfl;have gh0:=@Ix;repeat' (first
     |(apply zcl ?_;clear hK K)|apply Rx.o ?_|apply b8 ?_|(apply aS (fun Y V=>?_) (fun Y V=>?_)<;>try(cases Y;done))|apply ak ?_|(apply zcm fun K hK=>?_)|apply zco ?_|apply am ?_|fail)
    .have he:e≠0:=by simpa using Y
     refine⟨eI,_,(by(try simp only[zcz,zcL,Nat.reduceBEq,tyF,zd2,zee,BU, *]);first|done|with_reducible rfl),?_⟩;try simp only[zcn]
     refine⟨e,O,.nilS,rfl,?_,.inl ⟨he,fun h=>?_⟩⟩
     .exact((((I.trans z).alloc _).set (.inl ac) _).set (.inl (aM _)) _)
     .rcases A h with⟨_,q⟩|⟨_,q⟩
      .subst q;exact he (hk.2.2 h.1 Ig h.2.2.2).1
      .omega
    .have he:e=0:=by simpa using Y
     have gh0:=@Zh;have gh1:=@Zi;repeat' (first
      |apply Rx.o ?_|fail)
     generalize L:Tk.mk k.kind k.text (O:Int)=k';generalize F:Hp.alloc _ (HB.cells (Tk.cells k') 0 true)=H5;have hn5:H5.next=C.next+2:=by rw[<-F];rfl
     have hg5:H5.get (C.next+1)=some (.cells k'.cells 0 true):=by rw[<-F];simp only[get_set,pT,zcB,zcS,zO,xA,fM,nK]
     have hg5a:H5.get C.next=some (.cells k'.cells 0 true):=by rw[<-F];simp only[get_set,pT,zcB,zcS,zN,xA,fM,nK]
     have hf5:FrB 0 C H5:=by rw[<-F];exact(((fT _ _).alloc _).set (.inl (aM _)) _).set (.inl (aM _)) _ |>.alloc _
     have hF5:FrB 0 H H5:=(I.trans z).trans hf5;have hrep5:r0 H.next H5 lv ts:=by
      rcases W with h|⟨r,g,q2,q3,q4,q5⟩
      .exact .inl h
      .exact .inr ⟨r,g,by rw[hf5.get _ (cK _) q4];exact q2,q3,ac,q5⟩
     obtain⟨H6,p1,p2,p3,p4,p5⟩:=Zj hrep5 hF5 ac k' hg5 ac;have hkeep:=hx.keep;have hg6:H6.get H.next=some (.cells [.int .i64 0,.int .i64 0] 0 true):=by
      rw[p5 _ ac (fun e=>by rcases W with⟨_,q⟩|⟨r,g,_,q3,_⟩<;>simp_all),hf5.get _ (cK _) ac];exact hg3
     have hg6a:H6.get C.next=some (.cells k'.cells 0 true):=by
      rw[p5 _ ac (fun e=>by rcases W with⟨_,q⟩|⟨r,g,_,q3,q4,_⟩<;>simp_all)];exact hg5a
     obtain⟨n,hn1,hn2',j,hkk⟩:=hk.2.1 he;rw[ik]at hn2';have hktl:k'.text.length=n:=by rw[<-L];show k.text.length=n;rw[j,iN,ik];omega
     have hwr:IntKind.wrap .i64 ((O:Int)+(n:Int))=((O+n:Nat):Int):=by rw[pG _ ac];omega
     have hslo2:=D2 (P:=Tryz.prog) (k:=.i64) (s:=s) (m:=O+n) Tryz.underlying9 ac;refine nL eV eV (by rw[hkeep];exact p1) ?_;repeat' (first
      |(apply zcl ?_;clear hK K)|apply Rx.o ?_|(apply zcm fun K hK=>?_)|fail)
     refine bg rfl bh bj ?_;simp only[br];refine a7 ?_ (It hx.space (s.drop (O+n)) vV _);rintro v _ ⟨rfl,rfl⟩;dsimp only[zcF];have hsp2:=rZ false (s.drop (O+n));rw[ik]at hsp2;have hwr2:IntKind.wrap .i64 (((O+n:Nat):Int)+(zdV false (s.drop (O+n)):Int))=((O+n+zdV false (s.drop (O+n)):Nat):Int):=by rw[pG _ ac];omega
     repeat' (first
      |(apply zcl ?_;clear hK K)|apply Rx.o ?_|fail)
     refine⟨s.length-(O+n+zdV false (s.drop (O+n))),ac,O+n+zdV false (s.drop (O+n)),ts++[k'],.sl H5.next 0 (ts.length+1) 3,rfl,ac,eE,eE,eE,(by first|(simp only[zcz,Nat.reduceBEq,gG, *];done)|rfl),p4,ac,hg6,p3,co,fun t rest hr=>?_,aD,fun h=>.inr ?_⟩
     .cases ts with
      |nil=>
       simp only[lK,cM]at hr;obtain⟨rfl,_⟩:=hr;rw[<-U rfl];exact⟨k,by rw[<-he];exact hk,by rw[<-L],by rw[<-L]⟩
      |cons t0 ts=>
       simp only[nT,cM]at hr;obtain⟨rfl,_⟩:=hr;exact Z _ _ rfl
     .rcases A h with⟨rfl,q⟩|⟨_,q⟩
      .subst q;have i:=(hk.2.2 h.1 Ig h.2.2.2).2;simp only[dQ]at i j;have hwn:zdR s=s.length:=h.2.1;rw[hwn,tC]at i;have hns:n=s.length:=by
        have:=ku List.length j;rw[i,iN]at this;have h3:s.length=min n s.length:=this;omega
       have hkk2:k'=⟨1,s,0⟩:=by rw[<-L,i];rfl
       refine⟨by rw[hkk2];rfl,?_⟩;rw[hns];simp[zdV]
      .omega
   .have hat:O=s.length:=by omega
    have gh0:=@Iy;repeat' (first
     |(apply zcl ?_;clear hK K)|fail)
    refine⟨eI,_,(by(try simp only[zcz,zcL,Nat.reduceBEq,tyF,zd2,zee,BU, *]);first|done|with_reducible rfl),?_⟩;try simp only[zcn]
    refine⟨0,0,lv,rfl,I.set (.inl (aM _)) _,.inr ⟨rfl,ts,?_,Z,fun h=>?_⟩⟩
    .rcases o with h|⟨r,g,q2,q3,q4,q5⟩
     .exact .inl h
     .exact .inr ⟨r,g,by rw[aU,ah ac];exact q2,q3,q4,q5⟩
    .rcases A h with⟨_,q⟩|⟨q,_⟩
     .have:=h.1;have:=h.2.1;omega
     .exact q
  .refine⟨zdV false s,[],.nilS,rfl,hsp,eE,eE,eE,eE,(fT _ _).alloc _,gR,zfr,.inl ⟨rfl,rfl⟩,aD,by simp[wP],fun _=>rfl,fun h=>.inl ⟨rfl,Wl h⟩⟩
end
section
def tyW4j.tyF:=ad @bZ (ad @dl (ad @rU (ad @Ao (ad @Au (ad @wL (ad @jQ (ad @List.flatMap_cons.{0,0} (ad @List.flatMap_nil.{0,0} (@tB)))))))))
open tyW4j
noncomputable def Iz:{c:SC // aA 44 (Tryz.f127.body.getD .skip)=c}:=by
 refine⟨?_,?_⟩;rotate_left
 .simp only[Tryz.f127,a3,aA,zcG,zcE,zcJ,zcK,Nat.blt,Nat.ble];rfl
noncomputable def IA:{c:SC // aA 15 (Tryz.f128.body.getD .skip)=c}:=by
 refine⟨?_,?_⟩;rotate_left
 .simp only[Tryz.f128,a3,aA,zcG,zcE,zcJ,zcK,Nat.blt,Nat.ble];rfl
theorem BV{cfg:Cfg}(hx:Lexers cfg)(J:Plain cfg 127)(s:List UInt8)(hs:s.length<2^60)(H:Hp):
 zcx Tryz.prog cfg 127 [.str s] H fun v H'=>v=.bool (zc9 s)/\FrB 0 H H':=by
 refine zcv (M:=44) (rs:=[.tmp 2]) (J.call _) J.ice J.froz Tryz.func127 rfl rfl Iz.2 rfl ?_;dsimp only[Iz,zcr,Nat.reduceAdd];repeat' (first
  |(apply zcl ?_;clear hK K)|apply Rx.o ?_|apply b8 ?_|(apply b0 (fun A I=>?_) (fun A I=>?_)<;>try(cases A;done))|(apply aS (fun z V=>?_) (fun z V=>?_)<;>try(cases z;done))|apply ak ?_|(apply zcm fun K hK=>?_)|apply ay ?_|apply zco ?_|apply am ?_)
 refine bg rfl bh bj ?_;simp only[eM];refine a7 ?_ (Zl hx s hs H);rintro v C ⟨i,O,lv,rfl,L,U⟩;have j:Ab.extract (.tup [lv,.agg [.int .i64 i,.int .i64 O]]) 0=some lv:=rfl;have g:Ab.extract (.tup [lv,.agg [.int .i64 i,.int .i64 O]]) 1=some (.agg [.int .i64 i,.int .i64 O]):=rfl;dsimp only[zcF];have Y:FrB 0 H ((C.alloc (.cells [.int .i64 0,.int .i64 0] 0 true)).set C.next (.cells [.int .i64 i,.int .i64 O] 0 true)):=(L.alloc _).set (.inl L.next) _;rcases U with⟨h1,h2⟩|⟨rfl,ts,o,m,Z⟩
 .have F:iV s=false:=by
   cases z:iV s with
   |false=>rfl
   |true=>exact(h2 ((wQ s).1 z)).elim
  repeat' (first
   |(apply zcl ?_;clear hK K)|apply Rx.o ?_|apply b8 ?_|(apply b0 (fun A I=>?_) (fun A I=>?_)<;>try(cases A;done))|(apply aS (fun z V=>?_) (fun z V=>?_)<;>try(cases z;done))|apply ak ?_|(apply zcm fun K hK=>?_)|apply ay ?_|apply zco ?_|apply am ?_)
  all_goals (refine⟨eI,_,eR,?_⟩;try simp only[zcn])
  exact⟨BR,Y⟩
 .rcases o with⟨rfl,rfl⟩|⟨r,rfl,q2,q3,q4,q5⟩
  .have F:iV s=false:=by
    cases z:iV s with
    |false=>rfl
    |true=>have:=Z ((wQ s).1 z);simp at this
   repeat' (first
    |(apply zcl ?_;clear hK K)|apply Rx.o ?_|apply b8 ?_|(apply b0 (fun A I=>?_) (fun A I=>?_)<;>try(cases A;done))|(apply aS (fun z V=>?_) (fun z V=>?_)<;>try(cases z;done))|apply ak ?_|(apply zcm fun K hK=>?_)|apply ay ?_|apply zco ?_|apply am ?_)
   all_goals (refine⟨eI,_,eR,?_⟩;try simp only[zcn])
   exact⟨BR,Y⟩
  .have e1:(r == C.next)=false:=by simp;omega
   by_cases hl:ts.length=1
   .obtain⟨k,rfl⟩:=List.length_eq_one_iff.1 hl;simp only[oI,Bp,br]at q2;simp only[dg,jo,bw]at j g⊢;have W:oJ s↔(k.kind=1/\k.text=s):=⟨fun h=>by have:=Z h;simp only[cM,aY]at this;rw[this];exact⟨rfl,rfl⟩,fun h=>Wm m h.1 h.2⟩;have F:iV s=(decide (k.kind=1)&&decide (k.text=s)):=by
     rw[tt,wQ,W];simp
    clear W Z m;have hidx:zcU Tryz.prog 137 (.sl r 0 1 3) (.int .i64 0)=some (.ptr r 0):=af;repeat' (first
     |(apply zcl ?_;clear hK K)|apply Ry.o ?_|apply b7 ?_|(apply a8 (fun A I=>?_) (fun A I=>?_)<;>try(cases A;done))|(apply aB (fun z V=>?_) (fun z V=>?_)<;>try(cases z;done))|apply ak ?_|(apply zcm fun K hK=>?_)|apply ay ?_|apply zco ?_|apply am ?_)
    all_goals (refine⟨eI,_,eR,?_⟩;try simp only[zcn])
    all_goals (refine⟨?_,Y⟩;simp only[zc9,F,oK];simp_all)
   .have F:iV s=false:=by
     cases z:iV s with
     |false=>rfl
     |true=>have:=Z ((wQ s).1 z);rw[this]at hl;simp at hl
    have hl2:decide ((ts.length:Int)=1)=false:=co;repeat' (first
     |(apply zcl ?_;clear hK K)|apply Rx.o ?_|apply b8 ?_|(apply b0 (fun A I=>?_) (fun A I=>?_)<;>try(cases A;done))|(apply aS (fun z V=>?_) (fun z V=>?_)<;>try(cases z;done))|apply ak ?_|(apply zcm fun K hK=>?_)|apply ay ?_|apply zco ?_|apply am ?_)
    all_goals (refine⟨eI,_,eR,?_⟩;try simp only[zcn])
    exact⟨BR,Y⟩
end
section
def tyW4k.tyF:=ad @bZ (ad @dl (ad @jQ (ad @cI (ad @iB (@gk)))))
open tyW4k
noncomputable def IB:{c:SC // aA 23 (Tryz.f171.body.getD .skip)=c}:=by
 refine⟨?_,?_⟩;rotate_left
 .simp only[Tryz.f171,a3,aA,zcG,zcE,zcJ,zcK,Nat.blt,Nat.ble];rfl
noncomputable def IC:{c:SC // aA 27 (Tryz.f197.body.getD .skip)=c}:=by
 refine⟨?_,?_⟩;rotate_left
 .simp only[Tryz.f197,a3,aA,zcG,zcE,zcJ,zcK,Nat.blt,Nat.ble];rfl
noncomputable def xS:{c:SC // aA 10 (Tryz.f173.body.getD .skip)=c}:=by
 refine⟨?_,?_⟩;rotate_left
 .simp only[Tryz.f173,a3,aA,zcG,zcE,zcJ,zcK,Nat.blt,Nat.ble];rfl
def pe(k L:Int):Bool:=if k=20\/k=21 then decide (L=1)else decide (4<=k)&&decide (k<=18)&&decide (L=2)
theorem Zm{cfg:Cfg}(J:Plain cfg 171)(k L:Int)(H:Hp):
 zcx Tryz.prog cfg 171 [.int .i64 k,.int .i64 L] H fun v H'=>v=.bool (pe k L)/\H'=H:=by
 refine zcv (M:=23) (rs:=[.tmp 4]) (J.call _) J.ice J.froz Tryz.func171 rfl rfl IB.2 rfl ?_;dsimp only[IB,zcr,Nat.reduceAdd];repeat' (first
  |(apply zcl ?_;clear hK K)|apply Rx.o ?_|(apply b0 (fun A I=>?_) (fun A I=>?_)<;>try(cases A;done))|(apply aS (fun z V=>?_) (fun z V=>?_)<;>try(cases z;done))|apply ak ?_|(apply zcm fun K hK=>?_)|apply zco ?_|apply am ?_)
 all_goals
  all_goals (refine⟨eI,_,eR,?_⟩;try simp only[zcn])
 all_goals (refine⟨?_,iI⟩;simp_all[pe]<;>omega)
theorem Zn{cfg:Cfg}(J:Plain cfg 197)(x:Ex)(H:Hp):
 zcx Tryz.prog cfg 197 [.agg x.cells] H fun v H'=>v=.bool (zeroE x)/\FrB 0 H H':=by
 refine zcv (M:=27) (rs:=[.tmp 2]) (J.call _) J.ice J.froz Tryz.func197 rfl rfl IC.2 rfl ?_;dsimp only[IC,zcr,Nat.reduceAdd];repeat' (first
  |(apply zcl ?_;clear hK K)|apply Rx.o ?_|(apply b0 (fun A I=>?_) (fun A I=>?_)<;>try(cases A;done))|apply ak ?_|(apply zcm fun K hK=>?_)|apply am ?_)
 all_goals
  all_goals (refine⟨eI,_,eR,?_⟩;try simp only[zcn])
 all_goals (refine⟨?_,(fT _ _).alloc _⟩;simp_all[zeroE])
def j6(s:List UInt8)(L:Bool):Bool:=if L then zc9 s else decide (s=[])
theorem Zo{cfg:Cfg}(F:Lexers cfg)(Y:Plain cfg 127)(J:Plain cfg 173)(s:List UInt8)(L:Bool)(W:s.length<2^60)(H:Hp):
 zcx Tryz.prog cfg 173 [.str s,.bool L] H fun v H'=>v=.bool (j6 s L)/\FrB 0 H H':=by
 cases L
 .refine zcv (M:=10) (rs:=[.tmp 4]) (J.call _) J.ice J.froz Tryz.func173 rfl rfl xS.2 rfl ?_;dsimp only[xS,zcr,Nat.reduceAdd];repeat' (first
   |(apply zcl ?_;clear hK K)|apply Rx.o ?_|(apply aS (fun z V=>?_) (fun z V=>?_)<;>try(cases z;done))|apply ak ?_|(apply zcm fun K hK=>?_)|apply zco ?_|apply am ?_)
  all_goals (refine⟨eI,_,eR,?_⟩;try simp only[zcn])
  exact⟨by simp[j6],fT _ _⟩
 .refine zcv (M:=10) (rs:=[.tmp 4]) (J.call _) J.ice J.froz Tryz.func173 rfl rfl xS.2 rfl ?_;dsimp only[xS,zcr,Nat.reduceAdd];repeat' (first
   |(apply zcl ?_;clear hK K)|apply Rx.o ?_|(apply aS (fun z V=>?_) (fun z V=>?_)<;>try(cases z;done))|apply ak ?_|(apply zcm fun K hK=>?_)|apply zco ?_|apply am ?_)
  refine bg rfl bh bj ?_;simp only[eM];refine a7 ?_ (BV F Y s W H);rintro v U ⟨rfl,Z⟩;dsimp only[zcF];repeat' (first
   |(apply zcl ?_;clear hK K)|apply Rx.o ?_|(apply aS (fun z V=>?_) (fun z V=>?_)<;>try(cases z;done))|apply ak ?_|(apply zcm fun K hK=>?_)|apply zco ?_|apply am ?_)
  all_goals (refine⟨eI,_,eR,?_⟩;try simp only[zcn])
  exact⟨by simp[j6],Z⟩
theorem Zp{cfg:Cfg}(F:Lexers cfg)(I:Plain cfg 127)(J:Plain cfg 128)(l:List (List UInt8))(m:zen l<2^60)(H:Hp):
 zcx Tryz.prog cfg 128 [zdE l] H fun v H'=>v=.bool (l.all zc9)/\FrB 0 H H':=by
 have hl:l.length<2^60:=by have:=rI l;omega
 refine zcv (M:=15) (rs:=[.tmp 2]) (J.call _) J.ice J.froz Tryz.func128 rfl rfl IA.2 rfl ?_;dsimp only[IA,zcr,Nat.reduceAdd];repeat' (first
  |(apply zcl ?_;clear hK K)|apply Rx.o ?_|(apply aS (fun z V=>?_) (fun z V=>?_)<;>try(cases z;done))|apply ak ?_|(apply zcm fun K hK=>?_)|apply ay ?_|apply zco ?_|apply am ?_|apply zcA ?_)
 refine lR (fun i E O=>l.all zc9=(l.drop i).all zc9/\E.at 5=.lst (l.map fun s=>[.str s])/\E.at 6=.int .i64 l.length/\E.at 7=.int .i64 i/\FrB 0 H O) l.length ?_ ?_
 .rintro i E O C ⟨hc,j,g,h7,Y⟩;repeat' (first
   |(apply zcl ?_;clear hK K)|apply Rx.o ?_|(apply aS (fun z V=>?_) (fun z V=>?_)<;>try(cases z;done))|apply ak ?_|(apply zcm fun K hK=>?_)|apply ay ?_|apply zco ?_|apply am ?_|apply zcA ?_)
  .have Z:i<l.length:=by simpa using z
   have A:l[i]?=some l[i]:=aO Z;have o:=DY (dj Z);have U:(l.drop i).all zc9=(zc9 l[i]&&(l.drop (i+1)).all zc9):=by rw[d7 Z,mR]
   repeat' (first
    |(apply zcl ?_;clear hK K)|apply Rx.o ?_|(apply aS (fun z V=>?_) (fun z V=>?_)<;>try(cases z;done))|apply ak ?_|(apply zcm fun K hK=>?_)|apply ay ?_|apply zco ?_|apply am ?_|apply zcA ?_)
   refine bg rfl bh bj ?_;simp only[eM];refine a7 ?_ (BV F I l[i] ac O);rintro v H3 ⟨rfl,W⟩;dsimp only[zcF];repeat' (first
    |(apply zcl ?_;clear hK K)|apply Rx.o ?_|(apply aS (fun z V=>?_) (fun z V=>?_)<;>try(cases z;done))|apply ak ?_|(apply zcm fun K hK=>?_)|apply ay ?_|apply zco ?_|apply am ?_|apply zcA ?_)
   .all_goals (refine⟨eI,_,eR,?_⟩;try simp only[zcn])
    exact⟨by rw[hc,U];simp_all,Y.trans W⟩
   .refine⟨Z,by rw[hc,U];simp_all,eE,eE,?_,Y.trans W⟩;simp only[gH,Nat.reduceBEq,fM,zeL (show i<2^62 by omega)]
  .all_goals (refine⟨eI,_,eR,?_⟩;try simp only[zcn])
   have L:i=l.length:=uJ;exact⟨by rw[hc,L];simp,Y⟩
 .exact⟨aD,eE,eE,eE,fT _ _⟩
end
section
def tyP4a.tyF:=ad @cI (ad @bZ (ad @dl (ad @iB (ad @gk (ad @lk (@ER))))))
open tyP4a
noncomputable def ID:{c:SC // aA 27 (Tryz.f172.body.getD .skip)=c}:=by
 refine⟨?_,?_⟩;rotate_left
 .simp only[Tryz.f172,a3,aA,zcG,zcE,zcJ,zcK,Nat.blt,Nat.ble];rfl
noncomputable def IE:{c:SC // aA 87 (Tryz.f130.body.getD .skip)=c}:=by
 refine⟨?_,?_⟩;rotate_left
 .simp only[Tryz.f130,a3,aA,zcG,zcE,zcJ,zcK,Nat.blt,Nat.ble];rfl
noncomputable def xT:{c:SC // aA 10 (Tryz.f174.body.getD .skip)=c}:=by
 refine⟨?_,?_⟩;rotate_left
 .simp only[Tryz.f174,a3,aA,zcG,zcE,zcJ,zcK,Nat.blt,Nat.ble];rfl
theorem Zq{l:List En}(h:∀f,f∈[209,206,204,195,207,205,196,170]->(∀args,zdn l f args=none)/\iz l f=false):Lexers (zcq pls l) where
 let_:=zdm (h _ aD).1 (h _ aD).2
 dig:=zdm (h _ aD).1 (h _ aD).2
 word:=zdm (h _ aD).1 (h _ aD).2
 space:=zdm (h _ aD).1 (h _ aD).2
 num:=zdm (h _ aD).1 (h _ aD).2
 sym:=zdm (h _ aD).1 (h _ aD).2
 first:=zdm (h _ aD).1 (h _ aD).2
 scan:=zdm (h _ aD).1 (h _ aD).2
 plan _:=by first|rfl|kernel_rfl
 keep:=rfl
theorem BW:Lexers (zcq pls []):=Zq fun f _=>⟨fun _=>rfl,rfl⟩
theorem Zr(ρ:Nat->Int)(s:List UInt8)(K:s.length<2^60):a9 Tryz.prog ρ 127 [.str s] (.bool (zc9 s)):=
 zdv fit (pls:=pls) (l:=[]) trivial (.cons (.str _) .nil) (.bool _) (a7 (fun v H h=>h.1) (BV BW (zdM _) s K zc2))
theorem Zs(ρ:Nat->Int)(x:Int×Nat):a9 Tryz.prog ρ 171 [.int .i64 x.1,.int .i64 x.2] (.bool (pe x.1 x.2)):=
 zdv fit (pls:=pls) (l:=[]) trivial (.cons (.int _ _) (.cons (.int _ _) .nil)) (.bool _) (a7 (fun v H h=>h.1) (Zm (zdM _) x.1 x.2 zc2))
theorem Zt(ρ:Nat->Int)(x:Ex):a9 Tryz.prog ρ 197 [.agg x.cells] (.bool (zeroE x)):=
 zdv fit (pls:=pls) (l:=[]) trivial (.cons (.agg x.pure) .nil) (.bool _) (a7 (fun v H h=>h.1) (Zn (zdM _) x zc2))
theorem Zu(ρ:Nat->Int)(l:List (List UInt8))(I:zen l<2^60):a9 Tryz.prog ρ 128 [zdE l] (.bool (l.all zc9)):=
 zdv fit (pls:=pls) (l:=[]) trivial (.cons (ua _) .nil) (.bool _) (a7 (fun v H h=>h.1) (Zp BW (zdM _) (zdM _) l I zc2))
theorem Zv(ρ:Nat->Int)(s:List UInt8)(w:Bool)(K:s.length<2^60):a9 Tryz.prog ρ 173 [.str s,.bool w] (.bool (j6 s w)):=
 zdv fit (pls:=pls) (l:=[]) trivial (.cons (.str _) (.cons (.bool _) .nil)) (.bool _) (a7 (fun v H h=>h.1) (Zo BW (zdM _) (zdM _) s w K zc2))
def qK(k:Int):List Bool:=
 if k=1 then [true,false,false,false,true,false,false,false]
 else if k=2 then [true,false,false,true,true,false,false,false]
 else if k=3 then [false,false,false,false,true,false,true,true]
 else if k=4 then [false,false,false,false,true,false,true,false]
 else if k=5 then [false,false,false,false,true,false,false,false]
 else if k=6 then [true,true,false,false,false,true,false,false]
 else if k=7 then [false,false,true,false,false,false,false,false]
 else [false,false,false,false,false,false,false,false]
def iJ(k:Int):Bool:=decide (1<=k)&&decide (k<=7)
def sJ(k:Int):AV:=.tup [.agg ((qK k).map .bool),.bool (iJ k)]
theorem Zw(a b c d e f g h:AV):zc6 8 [a,b,c,d,e,f,g,h]=some (.agg [a,b,c,d,e,f,g,h]):=rfl
theorem Zx(ρ:Nat->Int)(k:Int):a9 Tryz.prog ρ 172 [.int .i64 k] (sJ k):=zdv fit (pls:=pls) (l:=[]) trivial (.cons (.int _ _) .nil) (.tup (.cons (.agg fun v L=>by
 obtain⟨b,_,rfl⟩:=mB.1 L;exact .bool b) (.cons (.bool _) .nil))) (by
 have J:=zdM 172;have Z:zdK Tryz.prog 225 [(0,.bool true),(4,.bool true)]=some (.agg [.bool true,.bool false,.bool false,.bool false,.bool true,.bool false,.bool false,.bool false]):=af;have A:zdK Tryz.prog 225 [(0,.bool true),(3,.bool true),(4,.bool true)]=some (.agg [.bool true,.bool false,.bool false,.bool true,.bool true,.bool false,.bool false,.bool false]):=af;have W:zdK Tryz.prog 225 [(4,.bool true),(6,.bool true),(7,.bool true)]=some (.agg [.bool false,.bool false,.bool false,.bool false,.bool true,.bool false,.bool true,.bool true]):=af;have i:zdK Tryz.prog 225 [(4,.bool true),(6,.bool true)]=some (.agg [.bool false,.bool false,.bool false,.bool false,.bool true,.bool false,.bool true,.bool false]):=af;have Y:zdK Tryz.prog 225 [(4,.bool true)]=some (.agg [.bool false,.bool false,.bool false,.bool false,.bool true,.bool false,.bool false,.bool false]):=af;have U:zdK Tryz.prog 225 [(0,.bool true),(1,.bool true),(5,.bool true)]=some (.agg [.bool true,.bool true,.bool false,.bool false,.bool false,.bool true,.bool false,.bool false]):=af;have C:zdK Tryz.prog 225 [(2,.bool true)]=some (.agg [.bool false,.bool false,.bool true,.bool false,.bool false,.bool false,.bool false,.bool false]):=af;have O:zdK Tryz.prog 225 []=some (.agg [.bool false,.bool false,.bool false,.bool false,.bool false,.bool false,.bool false,.bool false]):=af;refine zcv (M:=27) (rs:=[.cell 2 225,.tmp 3]) (J.call _) J.ice J.froz Tryz.func172 rfl rfl ID.2 rfl ?_;dsimp only[ID,zcr,Nat.reduceAdd];repeat' (first
  |(apply zcl ?_;clear hK K)|apply Rx.o ?_|apply b8 ?_|(apply aS (fun z V=>?_) (fun z V=>?_)<;>try(cases z;done))|apply ak ?_|(apply zcm fun K hK=>?_)|apply ay ?_|apply zco ?_|apply am ?_)
 all_goals
  refine⟨eI,_,(by(try simp only[zcz,zcL,Nat.reduceBEq,Nat.reduceAdd,Nat.reduceLeDiff,tyF,zd2,zee,Zw, *]);first|done|with_reducible rfl),?_⟩;try simp only[zcn]
 all_goals
  first
  |(simp_all[sJ,qK,iJ];done)
  |(have o:iJ k=false:=by
     simp only[iJ,oL,jw];omega
    simp_all[sJ,qK];done))
theorem Zy(k:Int)(n:Nat):pe k n=((decide ((n:Int)=2)&&AL k)||(decide ((n:Int)=1)&&(decide (k=20)||decide (k=21)))):=by
 unfold pe AL;by_cases h:k=20\/k=21
 .rw[ax h];rcases h with rfl|rfl<;>simp
 .rw[ah h];have i:¬k=20:=fun e=>h (.inl e);have g:¬k=21:=fun e=>h (.inr e);simp only[i,g,f4,jx,oR];cases decide (4<=k)<;>cases decide (k<=18)<;>cases decide ((n:Int)=2)<;>rfl
noncomputable def uS:En:=⟨127,false,bX (fun s=>s.length<2^60) kE fun s=>.bool (zc9 s)⟩
theorem IF(ρ:Nat->Int):zdd Tryz.prog ρ uS:=zdk fun x F=>Zr ρ x F
def uT(x:Int×Nat):List AV:=[.int .i64 x.1,.int .i64 x.2]
theorem Zz(x y:Int×Nat)(h:uT x=uT y):x=y:=by
 simp only[uT,cM,AV.int.injEq,aY,fH]at h;exact jT h.1 ac
noncomputable def uU:En:=⟨171,false,bX (fun _=>True) uT fun x=>.bool (pe x.1 x.2)⟩
theorem IG(ρ:Nat->Int):zdd Tryz.prog ρ uU:=zdk fun x _=>Zs ρ x
noncomputable def II:En:=⟨197,false,bX (fun _=>True) ux fun x=>.bool (zeroE x)⟩
theorem ZA(ρ:Nat->Int):zdd Tryz.prog ρ II:=zdk fun x _=>Zt ρ x
theorem ZB{l:List En}(L:∀z,zdn l 127 z=uS.sp z)(O:∀z,zdn l 171 z=uU.sp z)(Y:(∀z,zdn l 130 z=none)/\iz l 130=false){base:Nat}{I:Hp->Prop}(F:pd base I):
 sF (zcq pls l) base I 130 [] fun x _=>sy x:=by
 intro x d H g A C;have J:Plain (zcq pls l) 130:=zdm Y.1 Y.2;have o:∀s:List UInt8,s.length<2^60->∀H,zcx Tryz.prog (zcq pls l) 127 [.str s] H fun v H'=>v=.bool (zc9 s)/\H'=H:=fun s i H=>zds (enc:=kE) (out:=fun x=>.bool (zc9 x)) r4 (x:=s) (L _) i;have m:∀(k:Int) (n:Nat),∀H,zcx Tryz.prog (zcq pls l) 171 [.int .i64 k,.int .i64 n] H fun v H'=>v=.bool (pe k n)/\H'=H:=fun k n H=>zds (enc:=uT) (out:=fun x=>.bool (pe x.1 x.2)) Zz (x:=(k,n)) (O _) trivial;have j:=x.sz_eq;refine zcv (M:=87) (rs:=[.tmp 4]) (J.call _) J.ice J.froz Tryz.func130 rfl rfl IE.2 rfl ?_;dsimp only[IE,zcr,Nat.reduceAdd];repeat' (first
  |(apply zcl ?_;clear hK K)|apply Rx.o ?_|(apply iU ?_;first|refine Rx.k (o _ ac _) ?_|refine Rx.k (m _ _ _) ?_)|(apply b0 (fun W Z=>?_) (fun W Z=>?_)<;>try(cases W;done))|(apply aS (fun U V=>?_) (fun U V=>?_)<;>try(cases U;done))|apply ak ?_|(apply zcm fun K hK=>?_)|apply ay ?_|apply zco ?_|apply am ?_)
 all_goals
  all_goals (refine⟨eI,_,eR,?_⟩;try simp only[zcn])
  refine⟨?_,(fT _ _).alloc _,F _ _ C ((lS _ _).alloc A _)⟩;rw[sy];(try rw[Zy]);(try simp only[fo]at *);simp only[ *,lB,bT,ck,Int.reduceEq]
end
end Go.Proofs.YtljebeflbbgibaaGreat
