/- Parts: P4f, P4g, W4e, W4f, W4g, W4h, W4i, W4j, W4k, P4a. -/
import Derived.Test.YtljebeflbbgibaaGreatYCK
set_option linter.unusedSimpArgs false
set_option linter.unusedVariables false
set_option linter.unusedSectionVars false
set_option linter.defProp false
set_option maxHeartbeats 32000000
namespace Go.Ab
set_option maxRecDepth 20000
open Go
theorem yx{P:Prop}(h:P:=by rw[List.drop_eq_getElem_cons Y,List.all_cons]):P:=h
theorem Cu{P:Prop}(h:P:=by rw[<- U];simp only[get_set,sf,zc6,zdm,Aw,Ax,EE,Nat.add_assoc,Nat.reduceAdd,beq_self_eq_true,cond_true,cond_false,Nat.reduceBEq]):P:=h
theorem iO{P:Prop}(h:P:=by first|rfl|trivial):P:=h
theorem IV{P:Prop}(h:P:=by have:=h.2.1;have:=h.2.2.1;simp only[List.drop_zero];omega):P:=h
theorem Cv{P:Prop}(h:P:=by simp only[zdC,Z,Bool.false_and]):P:=h
def Cw:=@List.length_pos_iff
end Go.Ab
namespace Go.Proofs.YtljebeflbbgibaaGreat
set_option maxRecDepth 20000
open Go Go.Ab
section
def tyP4f.tyF:=ad @b7 (ad @dz (ad @jZ (ad @xu (ad @Be (ad @cP (ad @iH (ad @gC (ad @sC (ad @iG (ad @qB (@jF)))))))))))
open tyP4f
noncomputable def IW:{c:SC // aB 26 (Tryz.f134.body.getD .skip)=c}:=by
 refine⟨?_,?_⟩;rotate_left
 .simp only[Tryz.f134,a8,aB,zda,zc9,zdc,zdd,Nat.blt,Nat.ble];rfl
noncomputable def IX:{c:SC // aB 27 (Tryz.f135.body.getD .skip)=c}:=by
 refine⟨?_,?_⟩;rotate_left
 .simp only[Tryz.f135,a8,aB,zda,zc9,zdc,zdd,Nat.blt,Nat.ble];rfl
noncomputable def IY:{c:SC // aB 49 (Tryz.f136.body.getD .skip)=c}:=by
 refine⟨?_,?_⟩;rotate_left
 .simp only[Tryz.f136,a8,aB,zda,zc9,zdc,zdd,Nat.blt,Nat.ble];rfl
theorem Zv(l:List (List UInt8))(a s:List UInt8):zdi (nk l a) s=(zdi l s||zdi [a] s):=by
 unfold nk;split
 .rename_i h;rw[rr];by_cases e:s=a
  .rw[e,h];rfl
  .rw[dd e,jH]
 .rw[zfF]
theorem IZ{cfg:Cfg}(o:Plain cfg 134){H:Hp}{r imm:Nat}{x:List (List (List UInt8))}(hg:H.get r=some (.cells (x.map zd7) imm true))(hr:r<H.next)(hx:yp x):
 zc2 Tryz.prog cfg 134 [.sl r 0 x.length 1] H fun v H'=>v=.map H.next/\(∃l,H'.get H.next=some (.map (eB l))/\∀s,zdi l s=zdi x.flatten s)/\(∀k,k<H.next->H'.get k=H.get k)/\H.next<H'.next:=by
 obtain⟨hx1,hx2⟩:=hx;have hnm:=EN;refine zf (M:=26) (rs:=[.tmp 2]) (o.call _) o.ice o.froz Tryz.func134 rfl rfl IW.2 rfl ?_;dsimp only[IW,zcX,Nat.reduceAdd];repeat' (first
  |(apply zcP ?_;clear hK K)|apply Rx.o ?_|apply ak ?_|(apply zcQ fun K hK=>?_)|apply ax ?_|fail)
 refine zdN [2,3,9,10] [] 11 x.length (fun i E F=>(∃l,F.get H.next=some (.map (eB l))/\∀s,zdi l s=zdi (x.take i).flatten s)/\∀k,k<H.next->F.get k=H.get k) eE ⟨⟨[],n9,fun s=>rfl⟩,fun k hk=>fK⟩ ?_;rintro i E F hi Z Y m hsI ⟨⟨l,W,I⟩,C⟩;(try simp only[zdh,zdb,a1,zc3,zde,Nat.reduceBEq, *]at Z);(try simp only[zdb,zde, *]at Y);(try simp only[zc6,]at m);repeat' (first
  |(apply zcP ?_;clear hK K)|apply Rx.o ?_|(apply aU (fun z V=>?_) (fun z V=>?_)<;>try(cases z;done))|apply ak ?_|(apply zcQ fun K hK=>?_)|apply ax ?_|apply zcR ?_|apply am ?_|apply zc4 ?_)
 .have U:i<x.length:=by simpa using z
  have hgx:x[i]?=some x[i]:=aO U;have hsm:=hx2 _ (dx U);have hg2:F.get r=some (.cells (x.map zd7) imm true):=by rw[C r hr];exact hg
  have htk:(x.take (i+1)).flatten=(x.take i).flatten++x[i]:=by rw[mz,hgx,List.flatten_append];simp
  generalize x[i]=A at *;repeat' (first
   |(apply zcP ?_;clear hK K)|apply Ry.o ?_|apply ak ?_|(apply zcQ fun K hK=>?_)|apply ax ?_|fail)
  refine zdN [2,3,9,10,11,15,16] [] 17 A.length (fun j E g=>(∃l,g.get H.next=some (.map (eB l))/\∀s,zdi l s=zdi ((x.take i).flatten++A.take j) s)/\∀k,k<H.next->g.get k=H.get k) eE ⟨⟨l,W,fun s=>by rw[I,uX,bB]⟩,C⟩ ?_;clear W I l C hg2;rintro j E3 g hj Z Y m hsI ⟨⟨l,W,I⟩,C⟩;(try simp only[zdh,zdb,a1,zc3,zde,Nat.reduceBEq, *]at Z);(try simp only[zdb, *]at Y);(try simp only[zc6,zdm,zdK,bz,Nat.reduceAdd]at m);repeat' (first
   |(apply zcP ?_;clear hK K)|apply Rx.o ?_|(apply aU (fun z V=>?_) (fun z V=>?_)<;>try(cases z;done))|apply ak ?_|(apply zcQ fun K hK=>?_)|apply ax ?_|apply zcR ?_|apply zc4 ?_)
  .have O:j<A.length:=by simpa using z
   have L:A[j]?=some A[j]:=aO O;have hup:=Co W A[j];have J:A.take (j+1)=A.take j++[A[j]]:=by rw[mz,L];rfl
   repeat' (first
    |(apply zcP ?_;clear hK K)|apply Rx.o ?_|apply bE ?_|(apply zcQ fun K hK=>?_)|fail)
   refine⟨ac,eL,eL,eN,Ic,?_⟩;refine⟨⟨nk l A[j],vh,fun s=>?_⟩,fun k hk=>by rw[aX,ah ac];exact C k hk⟩;rw[Zv,I,J,<-gw,zfF ((x.take i).flatten++A.take j)]
  .have hje:j=A.length:=by simp at z;omega
   repeat' (first
    |(apply zcP ?_;clear hK K)|fail)
   refine⟨ac,eL,eL,eN,Ie,?_⟩;exact⟨⟨l,W,fun s=>by rw[I,htk,hje,ua]⟩,C⟩
 .repeat' (first
   |(apply zcP ?_;clear hK K)|fail)
  all_goals (refine⟨zcT,_,zcU,?_⟩;try simp only[zcS])
  have hie:i=x.length:=rj;refine⟨trivial,⟨l,W,fun s=>by rw[I,hie,ua]⟩,C,ac⟩
structure Rs where
 r12:Nat
 mv:Nat
 r5:Nat
 ma:Nat
 r6:Nat
 mf:Nat
 r9:Nat
structure RsOk (X:Rs) (vs an:List (List UInt8)) (fm:List (zdE×Int)) (H:Hp):Prop where
 b12:H.get X.r12=some (.cells [.map X.mv] 0 true)
 bv:∃l,H.get X.mv=some (.map (eB l))/\∀s,zdi l s=zdi vs s
 b5:H.get X.r5=some (.cells [.map X.ma] 0 true)
 ba:∃l,H.get X.ma=some (.map (eB l))/\∀s,zdi l s=zdi an s
 b6:H.get X.r6=some (.cells [.map X.mf] 0 true)
 bf:H.get X.mf=some (.map (cV fm))
structure RsLt (X:Rs) (n:Nat):Prop where
 l12:X.r12<n
 lv:X.mv<n
 l5:X.r5<n
 la:X.ma<n
 l6:X.r6<n
 lf:X.mf<n
structure RsNe (X:Rs):Prop where
 l12:X.r12≠X.r9
 lv:X.mv≠X.r9
 l5:X.r5≠X.r9
 la:X.ma≠X.r9
 l6:X.r6≠X.r9
 lf:X.mf≠X.r9
theorem RsOk.keep{X:Rs}{vs U:List (List UInt8)}{V:List (zdE×Int)}{H H':Hp}(h:RsOk X vs U V H)(L:H'.get X.r12=H.get X.r12)(Z:H'.get X.mv=H.get X.mv)(i:H'.get X.r5=H.get X.r5)(F:H'.get X.ma=H.get X.ma)(Y:H'.get X.r6=H.get X.r6)(j:H'.get X.mf=H.get X.mf):RsOk X vs U V H' where
 b12:=by rw[L];exact h.b12
 bv:=by rw[Z];exact h.bv
 b5:=by rw[i];exact h.b5
 ba:=by rw[F];exact h.ba
 b6:=by rw[Y];exact h.b6
 bf:=by rw[j];exact h.bf
theorem RsOk.low{X:Rs}{vs U:List (List UInt8)}{V:List (zdE×Int)}{H H':Hp}{n:Nat}(h:RsOk X vs U V H)(I:RsLt X n)(k:fE n H H'):RsOk X vs U V H':=
 h.keep (k _ I.l12) (k _ I.lv) (k _ I.l5) (k _ I.la) (k _ I.l6) (k _ I.lf)
theorem Zw{cfg:Cfg}(J:Plain cfg 135){X:Rs}{vs O:List (List UInt8)}{o:List (zdE×Int)}{base:Nat}(Y:RsLt X base){I:Hp->Prop}(j:po base I)(hR:∀H,I H->RsOk X vs O o H):
 ti cfg base I 135 [.ptr X.r12 0,.ptr X.r5 0] fun x _=>ki vs O x:=by
 intro x d H hz C F;obtain⟨L,⟨lv,m,Z⟩,i,⟨la,U,V⟩,h6,hf⟩:=hR H F;have l12:=Y.l12;have llv:=Y.lv;have l5:=Y.l5;have lla:=Y.la;have g12:(H.alloc (.cells x.cells 0 true)).get X.r12=some (.cells [.map X.mv] 0 true):=by rw[zcY,ah ac];exact L
 have g5:(H.alloc (.cells x.cells 0 true)).get X.r5=some (.cells [.map X.ma] 0 true):=by rw[zcY,ah ac];exact i
 have g:(H.alloc (.cells x.cells 0 true)).get X.mv=some (.map (eB lv)):=by rw[zcY,ah ac];exact m
 have z:(H.alloc (.cells x.cells 0 true)).get X.ma=some (.map (eB la)):=by rw[zcY,ah ac];exact U
 have kv:=ry g x.name;have ka:=ry z x.name;rw[Z]at kv;rw[V]at ka;clear L i m U g z Z V hf h6;have e12:(X.r12 == H.next)=false:=zc7 ac;have e5:(X.r5 == H.next)=false:=zc7 ac;simp only[];refine zf (M:=27) (rs:=[.tmp 6]) (J.call _) J.ice J.froz Tryz.func135 rfl rfl IX.2 rfl ?_;dsimp only[IX,zcX,Nat.reduceAdd];repeat' (first
  |(apply zcP ?_;clear hK K)|apply Rx.o ?_|apply qG ?_|(apply bW (fun A W=>?_) (fun A W=>?_)<;>try(cases A;done))|apply ak ?_|(apply zcQ fun K hK=>?_)|apply am ?_)
 all_goals
  all_goals (refine⟨zcT,_,zcU,?_⟩;try simp only[zcS])
  refine⟨?_,(fY _ _).alloc _,j _ _ F ((lW _ _).alloc C _)⟩;rw[ki];(try simp only[ff]at *);simp only[ *,Ij,dX,BF,Il,]
theorem I0:zfi Tryz.prog 9=some .string:=af
def zfy(w:Bool):Int:=if w=true then 5 else 0
theorem Zx{cfg:Cfg}(hw:Plain cfg 136){X:Rs}{vs an:List (List UInt8)}{J:List (zdE×Int)}{base:Nat}(I:RsLt X base)(h9:X.r9<base)(Z:RsNe X):
 vp cfg base (fun(w:Bool) H=>RsOk X vs an J H/\H.get X.r9=some (.cells [.int .i64 (zfy w)] 0 true)) 136 [.ptr X.r12 0,.ptr X.r5 0,.ptr X.r6 0,.ptr X.r9 0] (kj J vs an):=by
 intro x d w H hz C hi;obtain⟨F,A⟩:=hi;have V:=F;obtain⟨z,⟨lv,m,o⟩,h5,⟨la,j,i⟩,h6,hf⟩:=F;have l12:=I.l12;have llv:=I.lv;have l5:=I.l5;have lla:=I.la;have l6:=I.l6;have llf:=I.lf;have O:fE base H (H.alloc (.cells x.cells 0 true)):=(lW _ _).alloc C _;have g12:(H.alloc (.cells x.cells 0 true)).get X.r12=some (.cells [.map X.mv] 0 true):=by rw[O _ l12];exact z
 have g5:(H.alloc (.cells x.cells 0 true)).get X.r5=some (.cells [.map X.ma] 0 true):=by rw[O _ l5];exact h5
 have g6:(H.alloc (.cells x.cells 0 true)).get X.r6=some (.cells [.map X.mf] 0 true):=by rw[O _ l6];exact h6
 have g9:(H.alloc (.cells x.cells 0 true)).get X.r9=some (.cells [.int .i64 (zfy w)] 0 true):=by rw[O _ h9];exact A
 have gv:(H.alloc (.cells x.cells 0 true)).get X.mv=some (.map (eB lv)):=by rw[O _ llv];exact m
 have ga:(H.alloc (.cells x.cells 0 true)).get X.ma=some (.map (eB la)):=by rw[O _ lla];exact j
 have gf:(H.alloc (.cells x.cells 0 true)).get X.mf=some (.map (cV J)):=by rw[O _ llf];exact hf
 have gb:(H.alloc (.cells x.cells 0 true)).get H.next=some (.cells x.cells 0 true):=xU
 have kv:=ry gv x.name;have ka:=ry ga x.name;have kf:=EO (P:=Tryz.prog) (t:=110) Tryz.underlying110 I0 af gf x.to;rw[o]at kv;rw[i]at ka;have g:=uC x.args;have hsz:=x.sz_eq;have W:RsOk X vs an J (H.alloc (.cells x.cells 0 true)):=V.low I O;have hx0:∀a b,Ab.extract (.tup [a,b]) 0=some a:=fun _ _=>rfl;have hx1:∀a b,Ab.extract (.tup [a,b]) 1=some b:=fun _ _=>rfl;have L:FrB base H (H.alloc (.cells x.cells 0 true)):=(fY _ _).alloc _;have U:FrB base H ((H.alloc (.cells x.cells 0 true)).set X.r9 (.cells [.int .i64 5] 0 true)):=L.set (.inr h9) _;have Y:RsOk X vs an J ((H.alloc (.cells x.cells 0 true)).set X.r9 (.cells [.int .i64 5] 0 true)):=W.keep (by rw[aX,ah Z.l12]) (by rw[aX,ah Z.lv]) (by rw[aX,ah Z.l5]) (by rw[aX,ah Z.la]) (by rw[aX,ah Z.l6]) (by rw[aX,ah Z.lf]);have hw2:((H.alloc (.cells x.cells 0 true)).set X.r9 (.cells [.int .i64 5] 0 true)).get X.r9=some (.cells [.int .i64 (zfy true)] 0 true):=by rw[aX,ay rfl];rfl
 have s12:((H.alloc (.cells x.cells 0 true)).set X.r9 (.cells [.int .i64 5] 0 true)).get X.r12=some (.cells [.map X.mv] 0 true):=Y.b12;have sb:((H.alloc (.cells x.cells 0 true)).set X.r9 (.cells [.int .i64 5] 0 true)).get H.next=some (.cells x.cells 0 true):=by rw[aX,ah ac];exact gb
 have sv:zeY Tryz.prog ((H.alloc (.cells x.cells 0 true)).set X.r9 (.cells [.int .i64 5] 0 true)) 198 (.map X.mv) (.str x.name) false=some (.bool (zdi vs x.name)):=by
  obtain⟨l,q1,q2⟩:=Y.bv;rw[ry q1,q2]
 clear z m o h5 j i h6 hf gv ga gf V A O;have e12:(X.r12 == H.next)=false:=zc7 ac;have e5:(X.r5 == H.next)=false:=zc7 ac;have e6:(X.r6 == H.next)=false:=zc7 ac;have e9:(X.r9 == H.next)=false:=zc7 ac;have d12:(X.r12 == X.r9)=false:=zc7 Z.l12;have dn:(H.next == X.r9)=false:=zc7 ac;simp only[];refine zf (M:=49) (rs:=[.tmp 8]) (hw.call _) hw.ice hw.froz Tryz.func136 rfl rfl IY.2 rfl ?_;dsimp only[IY,zcX,Nat.reduceAdd];repeat' (first
  |(apply zcP ?_;clear hK K)|apply Rx.o ?_|apply bE ?_|(apply bW (fun hg hgp=>?_) (fun hg hgp=>?_)<;>try(cases hg;done))|(apply aU (fun hb hbp=>?_) (fun hb hbp=>?_)<;>try(cases hb;done))|apply ak ?_|(apply zcQ fun K hK=>?_)|apply ax ?_|apply zcR ?_|apply am ?_)
 all_goals
  all_goals (refine⟨zcT,_,zcU,?_⟩;try simp only[zcS])
  first
  |refine⟨?_,L,W,?_⟩
  |refine⟨?_,U,Y,?_⟩
  all_goals
   (try rw[g9]);(try rw[hw2]);clear g12 g5 g6 g9 kv ka kf hx0 hx1 gb s12 sb sv W Y L U hw2 e12 e5 e6 e9 d12 dn I Z g hsz;simp_all[kj,zfy]
end
section
def tyP4g.tyF:=ad @b7 (ad @dz (ad @ii (ad @mP (ad @jY (ad @sC (ad @jZ (ad @iG (ad @gC (ad @mQ (ad @qB (ad @jF (ad @xu (ad @Be (ad @Cs (@Zf)))))))))))))))
open tyP4g
noncomputable def I1:{c:SC // aB 67 (Tryz.f88.body.getD .skip)=c}:=by
 refine⟨?_,?_⟩;rotate_left
 .simp only[Tryz.f88,a8,aB,zda,zc9,zdc,zdd,Nat.blt,Nat.ble];rfl
noncomputable def yy:List En:=[Cp]
theorem Zy(ρ:Nat->Int):fb Tryz.prog ρ yy:=⟨ID ρ,trivial⟩
set_option maxRecDepth 100000 in
theorem Zz(ρ:Nat->Int)(p:Pr)(hz:p.sz<2^36):bh Tryz.prog ρ 88 (fp p) (.int .i64 (ru p)):=zdZ fit (pls:=pls) (Zy ρ) (.cons (.agg p.pure) .nil) (.int _ _) (by
 have hw:Plain (zcW pls yy) 88:=zdO (fun _=>rfl) rfl;have kd:∀H,zc2 Tryz.prog (zcW pls yy) 132 [.agg p.cells] H fun v H'=>v=.tup [zd7 (zdD p),zd7 (zer p)]/\H'=H:=fun H=>zdW (enc:=fp) (out:=fun p=>.tup [zd7 (zdD p),zd7 (zer p)]) rg (x:=p) rfl hz;have hps:Plains (zcW pls yy):=⟨zdO (fun _=>rfl) rfl,zdO (fun _=>rfl) rfl,zdO (fun _=>rfl) rfl,zdO (fun _=>rfl) rfl⟩;have hpz:p.sz=1+jC p.arrays+jX p.funcs:=rfl;have hla:=sk p.arrays;have hlf:=sj p.funcs;have hal:(zdD p).length=p.arrays.length:=by simp[zdD]
 have hfl:(zer p).length=p.funcs.length:=by simp[zer]
 have hx0:∀a b,Ab.extract (.tup [a,b]) 0=some a:=fun _ _=>rfl;have hx1:∀a b,Ab.extract (.tup [a,b]) 1=some b:=fun _ _=>rfl;have hnm:=EN;rw[fp];refine zf (M:=67) (rs:=[.tmp 2]) (hw.call _) hw.ice hw.froz Tryz.func88 rfl rfl I1.2 rfl ?_;dsimp only[I1,zcX,Nat.reduceAdd];repeat' (first
  |(apply zcP ?_;clear hK K)|apply Rx.o ?_|(apply i5 ?_;first|refine Rx.k (kd _) ?_)|apply ak ?_|(apply zcQ fun K hK=>?_)|fail)
 refine a4 rfl a6 a7 ?_;simp only[bB];refine aZ ?_ (IZ (x:=[zdD p]) (imm:=0) (zdO (fun _=>rfl) rfl) n9 (cQ _) ⟨aE,cp⟩);rintro v Z ⟨rfl,⟨la,hma,j⟩,hold,hlt2⟩;simp only[zc6,zdK]at hma hold hlt2;rw[show([zdD p]:List (List (List UInt8))).flatten=zdD p by simp]at j;have g20:Z.get 0=some (.cells p.cells 0 true):=by rw[hold 0 ac,zcY,ah aE,zcY,ay dt]
 clear hold;dsimp only[zc5];repeat' (first
  |(apply zcP ?_;clear hK K)|apply Rx.o ?_|apply bE ?_|apply ak ?_|(apply zcQ fun K hK=>?_)|apply ax ?_|fail)
 generalize o:Hp.set (Hp.set _ _ _) _ _=Hs;have ns:Z.next+3<=Hs.next:=sJ
 have gs0:Hs.get 0=some (.cells p.cells 0 true):=by rw[<-o,aX,ah ac,aX,ah ac,zcY,ah gX,zcY,ah gX,zcY,ah ac];exact g20
 have gsa:Hs.get 2=some (.map (eB la)):=by rw[<-o,aX,ah ac,aX,ah ac,zcY,ah gX,zcY,ah gX,zcY,ah ac];exact hma
 have gs5:Hs.get (Z.next+1)=some (.cells [.map 2] 0 true):=by rw[<-o,aX,ah ac,aX,ay dt]
 have gs6:Hs.get (Z.next+2)=some (.cells [.map Z.next] 0 true):=by rw[<-o,aX,ay dt]
 have gsf:Hs.get Z.next=some (.map (cV [])):=by rw[<-o,aX,ah ac,aX,ah ac,zcY,ah gX,zcY,ah gX,zcY,ay dt];rfl
 clear o hma;have hlt2':3<=Z.next:=ac
 clear hlt2;have hE0:(0 == Z.next)=false:=zc7 ac;have hE2:(2 == Z.next)=false:=zc7 ac;refine zdN [1,2,5,6,23,24] [0,2,Z.next+1,Z.next+2] 25 p.funcs.length (fun i E H=>∃m,zes (p.funcs.drop i) m=zes p.funcs []/\H.get Z.next=some (.map (cV m))) eE ⟨[],aE,gsf⟩ ?_;rintro i E Y hi hcE hrH hnH hsI ⟨m,hJ,hm⟩;(try simp only[zdh,zdb,a1,zc3,zde,Nat.reduceBEq,Nat.reduceAdd, *]at hcE);(try simp only[zdh,zdb,a1, *]at hrH);(try simp only[zc6,zdm,zdK,bz,Nat.reduceAdd]at hnH);have hB0:(0 == Y.next)=false:=zc7 ac;have hC0:(Y.next == 0)=false:=zc7 ac;have hB1:(2 == Y.next)=false:=zc7 ac;have hC1:(Y.next == 2)=false:=zc7 ac;have hB2:(Z.next+1 == Y.next)=false:=zc7 ac;have hC2:(Y.next == Z.next+1)=false:=zc7 ac;have hB3:(Z.next+2 == Y.next)=false:=zc7 ac;have hC3:(Y.next == Z.next+2)=false:=zc7 ac;obtain⟨h30,h3a,h35,h36⟩:=hrH;repeat' (first
  |(apply zcP ?_;clear hK K)|apply Rx.o ?_|apply bE ?_|(apply aU (fun z V=>?_) (fun z V=>?_)<;>try(cases z;done))|apply ak ?_|(apply zcQ fun K hK=>?_)|apply ax ?_|apply zcR ?_|apply zc4 ?_)
 .have J:i<p.funcs.length:=by simpa using z
  have hgx:p.funcs[i]?=some p.funcs[i]:=aO J;have hgn:(zer p)[i]?=some p.funcs[i].name:=by rw[zer,ea,hgx];rfl
  have hu:=NH (P:=Tryz.prog) (t:=110) Tryz.underlying110 I0 hm p.funcs[i].name p.funcs[i].params.length;rw[eJ J,zes]at hJ;repeat' (first
   |(apply zcP ?_;clear hK K)|apply Rx.o ?_|apply bE ?_|(apply zcQ fun K hK=>?_)|(apply nZ 6 fun K hK=>?_)|fail)
  refine⟨ac,eL,eL,eN,vi,?_⟩;exact⟨_,hJ,hW⟩
 .have hie:i=p.funcs.length:=by simp at z;omega
  rw[hie,jI,zes]at hJ;subst hJ;clear hie hsI hi z V;repeat' (first
   |(apply zcP ?_;clear hK K)|fail)
  generalize hHq:Hp.set (Hp.alloc Y _) _ _=Hq;have nq:Y.next+1<=Hq.next:=by rw[<-hHq];exact aM _
  have U:∀k,k<Y.next->Hq.get k=Y.get k:=fun k hk=>by rw[<-hHq,aX,ah ac,zcY,ah ac]
  have q9:Hq.get Y.next=some (.cells [.int .i64 (zfy false)] 0 true):=by rw[<-hHq,aX,ay rfl];rfl
  clear hHq;refine zdN [5,6,9,41,42] [] 43 p.funcs.length (fun i E H=>∃w,H.get Y.next=some (.cells [.int .i64 (zfy w)] 0 true)/\ru p=ol (zes p.funcs []) (zdD p) (p.funcs.drop i) w/\H.get (Z.next+1)=some (.cells [.map 2] 0 true)/\(∃l,H.get 2=some (.map (eB l))/\∀s,zdi l s=zdi (zdD p) s)/\H.get (Z.next+2)=some (.cells [.map Z.next] 0 true)/\H.get Z.next=some (.map (cV (zes p.funcs [])))) eE ⟨false,q9,rfl,by rw[U _ ac];exact h35,⟨la,by rw[U _ ac];exact h3a,j⟩,by rw[U _ ac];exact h36,by rw[U _ ac];exact hm⟩ ?_;clear hm j la h30 h3a h35 h36 gs0 gsa gs5 gs6 gsf q9 U;rintro i E H4 hi hcE hrH hnH hsI ⟨w,g9,hJ,g5,⟨la,ga,hla⟩,g6,gf⟩;(try simp only[zdh,zdb,a1,zc3,zde,Nat.reduceBEq, *]at hcE);(try simp only[zdb, *]at hrH);(try simp only[zc6,zdm,zdK,bz,Nat.reduceAdd]at hnH);repeat' (first
   |(apply zcP ?_;clear hK K)|apply Rx.o ?_|(apply aU (fun z V=>?_) (fun z V=>?_)<;>try(cases z;done))|apply ak ?_|(apply zcQ fun K hK=>?_)|apply ax ?_|apply zcR ?_|apply am ?_|apply zc4 ?_)
  .have J:i<p.funcs.length:=by simpa using z
   have hgx:p.funcs[i]?=some p.funcs[i]:=aO J;have hsm:=so (dx J);have hsz:p.funcs[i].sz=1+p.funcs[i].name.length+zeJ p.funcs[i].params+zeJ p.funcs[i].locals+zeO p.funcs[i].body+p.funcs[i].value.sz:=rfl;have hpl:=si p.funcs[i].params;have hll:=si p.funcs[i].locals;have hdr:ol (zes p.funcs []) (zdD p) (p.funcs.drop i) w=if lq (fun x _=>ki (p.funcs[i].params++p.funcs[i].locals) (zdD p) x) p.funcs[i]=true/\(zea (kj (zes p.funcs []) (p.funcs[i].params++p.funcs[i].locals) (zdD p)) p.funcs[i].body 0 w).1=true then ol (zes p.funcs []) (zdD p) (p.funcs.drop (i+1)) (zea (kj (zes p.funcs []) (p.funcs[i].params++p.funcs[i].locals) (zdD p)) p.funcs[i].body 0 w).2 else 3:=by rw[eJ J];rfl
   rw[hdr]at hJ;clear hdr;have hfz:p.funcs[i].sz<2^60:=ac;generalize p.funcs[i]=g at *;repeat' (first
    |(apply zcP ?_;clear hK K)|apply Rx.o ?_|apply bE ?_|apply ak ?_|(apply zcQ fun K hK=>?_)|fail)
   generalize hHb:Hp.alloc (Hp.set _ _ _) _=C;have nb:C.next=H4.next+2:=by rw[<-hHb];rfl
   have oldb:∀k,k<H4.next->C.get k=H4.get k:=fun k hk=>by rw[<-hHb,zcY,ah ta,aX,ah ac,zcY,ah ac]
   have gbr:C.get (H4.next+1)=some (.cells [zd7 g.params,zd7 g.locals] 0 true):=by rw[<-hHb,zcY,ay dt]
   have gb11:C.get H4.next=some (.cells g.cells 0 true):=by rw[<-hHb,zcY,ah ta,aX,ay rfl]
   clear hHb;refine a4 rfl a6 a7 ?_;simp only[bB];refine aZ ?_ (IZ (x:=[g.params,g.locals]) (imm:=0) (zdO (fun _=>rfl) rfl) gbr ac ⟨aE,cp⟩);rintro v A ⟨rfl,⟨lv,hmv,hlv⟩,old5,n5⟩;rw[show([g.params,g.locals]:List (List (List UInt8))).flatten=g.params++g.locals by simp]at hlv;have o5:∀k,k<H4.next->A.get k=H4.get k:=fun k hk=>by rw[old5 k ac,oldb k hk]
   have g511:A.get H4.next=some (.cells g.cells 0 true):=by rw[old5 _ ac];exact gb11
   have g59:A.get Y.next=some (.cells [.int .i64 (zfy w)] 0 true):=by rw[o5 _ ac];exact g9
   have g55:A.get (Z.next+1)=some (.cells [.map 2] 0 true):=by rw[o5 _ ac];exact g5
   have g5a:A.get 2=some (.map (eB la)):=by rw[o5 _ ac];exact ga
   have g56:A.get (Z.next+2)=some (.cells [.map Z.next] 0 true):=by rw[o5 _ ac];exact g6
   have g5f:A.get Z.next=some (.map (cV (zes p.funcs []))):=by rw[o5 _ ac];exact gf
   clear o5 old5 gbr gb11 oldb g9 g5 ga g6 gf;have e1:(H4.next == A.next)=false:=zc7 ac;dsimp only[zc5];repeat' (first
    |(apply zcP ?_;clear hK K)|apply Rx.o ?_|apply bE ?_|apply ak ?_|(apply zcQ fun K hK=>?_)|fail)
   generalize hHd:Hp.set (Hp.alloc A _) _ _=O;have nd:O.next=A.next+1:=by rw[<-hHd];rfl
   have F:∀k,k<A.next->O.get k=A.get k:=fun k hk=>by rw[<-hHd,aX,ah ac,zcY,ah ac]
   have d12:O.get A.next=some (.cells [.map C.next] 0 true):=by rw[<-hHd,aX,ay rfl,nb]
   clear hHd;have hok:RsOk ⟨A.next,C.next,Z.next+1,2,Z.next+2,Z.next,Y.next⟩ (g.params++g.locals) (zdD p) (zes p.funcs []) O:={
    b12:=d12
    bv:=⟨lv,by show O.get C.next=_;rw[F _ n5];exact hmv,hlv⟩
    b5:=by show O.get (Z.next+1)=_;rw[F _ ac];exact g55
    ba:=⟨la,by show O.get 2=_;rw[F _ ac];exact g5a,hla⟩
    b6:=by show O.get (Z.next+2)=_;rw[F _ ac];exact g56
    bf:=by show O.get Z.next=_;rw[F _ ac];exact g5f}
   have hd9:O.get Y.next=some (.cells [.int .i64 (zfy w)] 0 true):=by rw[F _ ac];exact g59
   have hd11:O.get H4.next=some (.cells g.cells 0 true):=by rw[F _ ac];exact g511
   have hlX:∀n,O.next<=n->RsLt ⟨A.next,C.next,Z.next+1,2,Z.next+2,Z.next,Y.next⟩ n:=fun n hn=>⟨by show A.next<n;omega,by show C.next<n;omega,by show Z.next+1<n;omega,by show 2<n;omega,by show Z.next+2<n;omega,by show Z.next<n;omega⟩
   have hnX:RsNe ⟨A.next,C.next,Z.next+1,2,Z.next+2,Z.next,Y.next⟩:=⟨by show A.next≠Y.next;omega,by show C.next≠Y.next;omega,by show Z.next+1≠Y.next;omega,by show 2≠Y.next;omega,by show Z.next+2≠Y.next;omega,by show Z.next≠Y.next;omega⟩;clear g59 g55 g5a g56 g5f d12 F hmv hlv hla g511;refine a4 rfl a6 a7 ?_;simp only[bB];refine aZ ?_ (IU hps (I:=fun H'=>fE O.next O H') (fun a b h1 h2=>h1.trans h2) (Zw (zdO (fun _=>rfl) rfl) (hlX _ (aM _)) (fun a b h1 h2=>h1.trans h2) fun H' h=>hok.low (hlX _ (aM _)) h) g O hfz (aM _) (lW _ _));rintro v H6 ⟨rfl,hf6,W⟩;have n6:=hf6.next
   have hok6:=hok.low (hlX _ (aM _)) W;have h69:H6.get Y.next=some (.cells [.int .i64 (zfy w)] 0 true):=by rw[W _ ac];exact hd9
   have h611:H6.get H4.next=some (.cells g.cells 0 true):=by rw[W _ ac];exact hd11
   clear W hf6 hok hd9 hd11;dsimp only[zc5];cases hwf:lq (fun x _=>ki (g.params++g.locals) (zdD p) x) g with
   |false=>
    repeat' (first
     |(apply zcP ?_;clear hK K)|apply Rx.o ?_|(apply bW (fun hg hgp=>?_) (fun hg hgp=>?_)<;>try(cases hg;done))|(apply aU (fun z V=>?_) (fun z V=>?_)<;>try(cases z;done))|apply ak ?_|(apply zcQ fun K hK=>?_)|apply am ?_|fail)
    all_goals (refine⟨zcT,_,zcU,?_⟩;try simp only[zcS])
    rw[hJ,hwf];simp
   |true=>
    rw[hwf]at hJ;repeat' (first
     |(apply zcP ?_;clear hK K)|apply Rx.o ?_|(apply bW (fun hg hgp=>?_) (fun hg hgp=>?_)<;>try(cases hg;done))|apply ak ?_|(apply zcQ fun K hK=>?_)|fail)
    refine a4 rfl a6 a7 ?_;simp only[bB];refine aZ ?_ (tk (zdO (fun _=>rfl) rfl) (base:=H6.next) (I:=fun(w:Bool) H=>RsOk ⟨A.next,C.next,Z.next+1,2,Z.next+2,Z.next,Y.next⟩ (g.params++g.locals) (zdD p) (zes p.funcs []) H/\H.get Y.next=some (.cells [.int .i64 (zfy w)] 0 true)) (fun s a b h1 h2=>⟨h1.1.low (hlX _ n6) h2,by rw[h2 _ ac];exact h1.2⟩) (Zx (zdO (fun _=>rfl) rfl) (hlX _ n6) (by show Y.next<_;omega) hnX) (zeO g.body+1) g.body ac 0 w H6 ac (aM _) ⟨hok6,h69⟩);rintro v H7 ⟨rfl,hf7,L,h79⟩;have n7:=hf7.next
    dsimp only[zc5];repeat' (first
     |(apply zcP ?_;clear hK K)|apply Rx.o ?_|(apply aU (fun z V=>?_) (fun z V=>?_)<;>try(cases z;done))|apply ak ?_|(apply zcQ fun K hK=>?_)|apply zcR ?_|apply am ?_|fail)
    .all_goals (refine⟨zcT,_,zcU,?_⟩;try simp only[zcS])
     rw[hJ];simp_all
    .refine⟨ac,eL,eL,eN,vi,?_⟩;refine⟨_,h79,?_,L.b5,L.ba,L.b6,L.bf⟩;rw[hJ,ay ⟨rfl,by simp_all⟩]
  .repeat' (first
    |(apply zcP ?_;clear hK K)|fail)
   all_goals (refine⟨zcT,_,zcU,?_⟩;try simp only[zcS])
   have hie:i=p.funcs.length:=rj;rw[hJ,hie,jI,ol,zfy])
end
section
def tyW4e.tyF:=ad @b7 (ad @dz (ad @ii (ad @kJ (ad @mP (ad @jY (ad @jZ (ad @iG (ad @gC (ad @mQ (@jF))))))))))
open tyW4e
noncomputable def I2:{c:SC // aB 68 (Tryz.f85.body.getD .skip)=c}:=by
 refine⟨?_,?_⟩;rotate_left
 .simp only[Tryz.f85,a8,aB,zda,zc9,zdc,zdd,Nat.blt,Nat.ble];rfl
theorem ZA{cfg:Cfg}(hp:Plains cfg)(m:Plain cfg 85)(j:Plain cfg 124)(h2w:Plain cfg 126)(p:Pr)(hz:p.sz<2^60):
 zc2 Tryz.prog cfg 85 [.agg p.cells] zdw fun v _=>v=.bool (iZ p):=by
 have hpz:p.sz=1+jC p.arrays+jX p.funcs:=rfl;have hla:=sk p.arrays;have hlf:=sj p.funcs;have hla2:p.arrays.length<2^60:=ac;have hlf2:p.funcs.length<2^60:=ac;refine zf (M:=68) (rs:=[.tmp 2]) (m.call _) m.ice m.froz Tryz.func85 rfl rfl I2.2 rfl ?_;dsimp only[I2,zcX,Nat.reduceAdd];repeat' (first
  |(apply zcP ?_;clear hK K)|apply Rx.o ?_|apply bE ?_|(apply bW (fun A Z=>?_) (fun A Z=>?_)<;>try(cases A;done))|(apply aU (fun z V=>?_) (fun z V=>?_)<;>try(cases z;done))|apply ak ?_|(apply zcQ fun K hK=>?_)|apply ax ?_|apply zcR ?_|apply am ?_|apply zc4 ?_)
 .all_goals (refine⟨zcT,_,zcU,?_⟩;try simp only[zcS])
  simp_all[iZ];try(intros;omega)
 .refine lV (fun i E H=>p.arrays.all (fun a=>!decide (a.len<1) && !decide (16<a.len))=(p.arrays.drop i).all (fun a=>!decide (a.len<1) && !decide (16<a.len))/\E.at 1=.ptr 0 0/\E.at 21=.lst (p.arrays.map Ar.cells)/\E.at 22=.int .i64 p.arrays.length/\E.at 23=.int .i64 i/\0<H.next/\H.get 0=some (.cells p.cells 0 true)) p.arrays.length ?_ ?_
  .rintro i E H hi ⟨hc,h1,h21,h22,h23,hn,hg0⟩;have e0:(0 == H.next)=false:=cp;repeat' (first
    |(apply zcP ?_;clear hK K)|apply Rx.o ?_|apply bE ?_|(apply bW (fun A Z=>?_) (fun A Z=>?_)<;>try(cases A;done))|(apply aU (fun z V=>?_) (fun z V=>?_)<;>try(cases z;done))|apply ak ?_|(apply zcQ fun K hK=>?_)|apply ax ?_|apply zcR ?_|apply am ?_|apply zc4 ?_)
   .have Y:i<p.arrays.length:=by simpa using z
    have hgx:p.arrays[i]?=some p.arrays[i]:=aO Y;have hd:(p.arrays.drop i).all (fun a=>!decide (a.len<1) && !decide (16<a.len))=((!decide (p.arrays[i].len<1) && !decide (16<p.arrays[i].len))&&(p.arrays.drop (i+1)).all (fun a=>!decide (a.len<1) && !decide (16<a.len))):=yx;repeat' (first
     |(apply zcP ?_;clear hK K)|apply Rx.o ?_|apply bE ?_|(apply bW (fun A Z=>?_) (fun A Z=>?_)<;>try(cases A;done))|(apply aU (fun z V=>?_) (fun z V=>?_)<;>try(cases z;done))|apply ak ?_|(apply zcQ fun K hK=>?_)|apply ax ?_|apply zcR ?_|apply am ?_|apply zc4 ?_)
    .all_goals (refine⟨zcT,_,zcU,?_⟩;try simp only[zcS])
     have L:p.arrays.all (fun a=>!decide (a.len<1) && !decide (16<a.len))=false:=by rw[hc,hd];simp_all
     simp only[iZ,L];simp
    .refine⟨Y,?_,eE,eE,eE,?_,ta,zfO⟩
     .rw[hc,hd];simp_all
     .simp only[gN,Nat.reduceBEq,f8,ze6 (show i<2^62 by omega)]
    .all_goals (refine⟨zcT,_,zcU,?_⟩;try simp only[zcS])
     have L:p.arrays.all (fun a=>!decide (a.len<1) && !decide (16<a.len))=false:=by rw[hc,hd];simp_all
     simp only[iZ,L];simp
   .have hia:i=p.arrays.length:=by simp at z;omega
    have hca:p.arrays.all (fun a=>!decide (a.len<1) && !decide (16<a.len))=true:=by rw[hc,hia];simp
    clear hc;repeat' (first
     |(apply zcP ?_;clear hK K)|apply Rx.o ?_|apply bE ?_|(apply bW (fun A Z=>?_) (fun A Z=>?_)<;>try(cases A;done))|(apply aU (fun z V=>?_) (fun z V=>?_)<;>try(cases z;done))|apply ak ?_|(apply zcQ fun K hK=>?_)|apply ax ?_|apply zcR ?_|apply am ?_|apply zc4 ?_)
    refine lV (fun i E H=>p.funcs.all gQ=(p.funcs.drop i).all gQ/\E.at 37=.lst (p.funcs.map Fu.cells)/\E.at 38=.int .i64 p.funcs.length/\E.at 39=.int .i64 i/\0<H.next) p.funcs.length ?_ ?_
    .rintro i E H hi ⟨hc,h37,h38,h39,hn⟩;repeat' (first
      |(apply zcP ?_;clear hK K)|apply Rx.o ?_|apply bE ?_|(apply bW (fun A Z=>?_) (fun A Z=>?_)<;>try(cases A;done))|(apply aU (fun z V=>?_) (fun z V=>?_)<;>try(cases z;done))|apply ak ?_|(apply zcQ fun K hK=>?_)|apply ax ?_|apply zcR ?_|apply am ?_|apply zc4 ?_)
     .have Y:i<p.funcs.length:=by simpa using z
      have hgx:p.funcs[i]?=some p.funcs[i]:=aO Y;have hd:(p.funcs.drop i).all gQ=(gQ p.funcs[i]&&(p.funcs.drop (i+1)).all gQ):=yx;have hxm:=so (dx Y);generalize hx0:p.funcs[i]=x at *;have hsx:x.sz=1+x.name.length+zeJ x.params+zeJ x.locals+zeO x.body+x.value.sz:=rfl;repeat' (first
       |(apply zcP ?_;clear hK K)|apply Rx.o ?_|apply bE ?_|(apply bW (fun A Z=>?_) (fun A Z=>?_)<;>try(cases A;done))|(apply aU (fun z V=>?_) (fun z V=>?_)<;>try(cases z;done))|apply ak ?_|(apply zcQ fun K hK=>?_)|apply ax ?_|apply zcR ?_|apply am ?_|apply zc4 ?_)
      .generalize U:Hp.set _ (H.next+2) _=F;have hn5:F.next=H.next+3:=by rw[<-U];rfl
       have g:F.get H.next=some (.cells x.cells 0 true):=Cu
       have C:F.get (H.next+1)=some (.cells [.int .i64 0] 0 true):=Cu;have o:F.get (H.next+2)=some (.cells [.int .i64 0] 0 true):=Cu;refine a4 rfl a6 a7 ?_;simp only[cG];refine aZ ?_ (tk hp.ws (base:=H.next+3) (fun s Ha Hb h O=>⟨by rw[O _ ac];exact h.1,by rw[O _ ac];exact h.2.1,fun r q1 q2 q3=>by rw[O r q1];exact h.2.2 r q1 q2 q3⟩) (Zs j (base:=H.next+3) (rn:=H.next+1) (rl:=H.next+2) ac ac ac F) (zeO x.body+1) x.body ac 0 (0,0) F ac ac ⟨C,o,fun _ _ _ _=>rfl⟩);rintro v H6 ⟨rfl,hf6,hi6⟩;have hn6:=hf6.next
       have hg6:H6.get H.next=some (.cells x.cells 0 true):=by rw[hi6.2.2 _ ac ac ac];exact g
       dsimp only[zc5];repeat' (first
        |(apply zcP ?_;clear hK K)|apply Rx.o ?_|apply bE ?_|(apply bW (fun A Z=>?_) (fun A Z=>?_)<;>try(cases A;done))|(apply aU (fun z V=>?_) (fun z V=>?_)<;>try(cases z;done))|apply ak ?_|(apply zcQ fun K hK=>?_)|apply ax ?_|apply zcR ?_|apply am ?_|apply zc4 ?_)
       .refine a4 rfl a6 a7 ?_;simp only[cG];refine aZ ?_ (IU hp (base:=0) (I:=fun _=>True) (fun _ _ _ _=>trivial) (Zt h2w (fun _ _ _ _=>trivial)) x H6 ac ac trivial);rintro v H7 ⟨rfl,hf7,_⟩;have hn7:=hf7.next
        dsimp only[zc5];repeat' (first
         |(apply zcP ?_;clear hK K)|apply Rx.o ?_|apply bE ?_|(apply bW (fun A Z=>?_) (fun A Z=>?_)<;>try(cases A;done))|(apply aU (fun z V=>?_) (fun z V=>?_)<;>try(cases z;done))|apply ak ?_|(apply zcQ fun K hK=>?_)|apply ax ?_|apply zcR ?_|apply am ?_|apply zc4 ?_)
        .all_goals (refine⟨zcT,_,zcU,?_⟩;try simp only[zcS])
         have W:p.funcs.all gQ=false:=by rw[hc,hd];simp_all[gQ]
         simp only[iZ,W];simp
        .refine⟨Y,?_,eE,eE,?_,ac⟩
         .rw[hc,hd];simp_all[gQ]
         .simp only[gN,Nat.reduceBEq,f8,ze6 (show i<2^62 by omega)]
       .all_goals (refine⟨zcT,_,zcU,?_⟩;try simp only[zcS])
        have W:p.funcs.all gQ=false:=by rw[hc,hd];simp_all[gQ]
        simp only[iZ,W];simp
      .all_goals (refine⟨zcT,_,zcU,?_⟩;try simp only[zcS])
       have J:gQ x=false:=by
        simp only[gQ,oW,jG];first|exact .inl (.inl (.inl hY))|exact .inl (.inl (.inr hY))
       have W:p.funcs.all gQ=false:=by rw[hc,hd,J,dX]
       simp only[iZ,W];simp
      .all_goals (refine⟨zcT,_,zcU,?_⟩;try simp only[zcS])
       have J:gQ x=false:=by
        simp only[gQ,oW,jG];first|exact .inl (.inl (.inl hY))|exact .inl (.inl (.inr hY))
       have W:p.funcs.all gQ=false:=by rw[hc,hd,J,dX]
       simp only[iZ,W];simp
     .all_goals (refine⟨zcT,_,zcU,?_⟩;try simp only[zcS])
      have:i=p.funcs.length:=rj;simp_all[iZ];try(intros;omega)
    .exact⟨rfl,eE,eE,eE,ac⟩
  .exact⟨rfl,eE,eE,eE,eE,by simp[zc6,zdK],zfO⟩
 .all_goals (refine⟨zcT,_,zcU,?_⟩;try simp only[zcS])
  simp_all[iZ];try(intros;omega)
end
section
def tyW4f.tyF:=ad @b7 (ad @uI (@dz))
open tyW4f
noncomputable def I3:{c:SC // aB 21 (Tryz.f209.body.getD .skip)=c}:=by
 refine⟨?_,?_⟩;rotate_left
 .simp only[Tryz.f209,a8,aB,zda,zc9,zdc,zdd,Nat.blt,Nat.ble];rfl
noncomputable def I4:{c:SC // aB 9 (Tryz.f206.body.getD .skip)=c}:=by
 refine⟨?_,?_⟩;rotate_left
 .simp only[Tryz.f206,a8,aB,zda,zc9,zdc,zdd,Nat.blt,Nat.ble];rfl
noncomputable def I5:{c:SC // aB 23 (Tryz.f204.body.getD .skip)=c}:=by
 refine⟨?_,?_⟩;rotate_left
 .simp only[Tryz.f204,a8,aB,zda,zc9,zdc,zdd,Nat.blt,Nat.ble];rfl
noncomputable def I6:{c:SC // aB 34 (Tryz.f195.body.getD .skip)=c}:=by
 refine⟨?_,?_⟩;rotate_left
 .simp only[Tryz.f195,a8,aB,zda,zc9,zdc,zdd,Nat.blt,Nat.ble];rfl
noncomputable def I7:{c:SC // aB 37 (Tryz.f207.body.getD .skip)=c}:=by
 refine⟨?_,?_⟩;rotate_left
 .simp only[Tryz.f207,a8,aB,zda,zc9,zdc,zdd,Nat.blt,Nat.ble];rfl
theorem ZB{cfg:Cfg}(J:Plain cfg 209)(n:Int)(H:Hp):zc2 Tryz.prog cfg 209 [.int .u8 n] H fun v H'=>v=.bool (lz n)/\H'=H:=by
 refine zf (M:=21) (rs:=[.tmp 2]) (J.call _) J.ice J.froz Tryz.func209 rfl rfl I3.2 rfl ?_;dsimp only[I3,zcX,Nat.reduceAdd];repeat' (first
  |(apply zcP ?_;clear hK K)|apply Rx.o ?_|apply qG ?_|(apply bW (fun A I=>?_) (fun A I=>?_)<;>try(cases A;done))|apply ak ?_|(apply zcQ fun K hK=>?_)|apply am ?_)
 all_goals (refine⟨zcT,_,zcU,?_⟩;try simp only[zcS])
 all_goals (refine⟨?_,iO⟩;simp_all[lz]<;>omega)
theorem Cy{cfg:Cfg}(J:Plain cfg 206)(n:Int)(H:Hp):zc2 Tryz.prog cfg 206 [.int .u8 n] H fun v H'=>v=.bool (j0 n)/\H'=H:=by
 refine zf (M:=9) (rs:=[.tmp 2]) (J.call _) J.ice J.froz Tryz.func206 rfl rfl I4.2 rfl ?_;dsimp only[I4,zcX,Nat.reduceAdd];repeat' (first
  |(apply zcP ?_;clear hK K)|apply Rx.o ?_|(apply bW (fun A I=>?_) (fun A I=>?_)<;>try(cases A;done))|apply ak ?_|(apply zcQ fun K hK=>?_)|apply am ?_)
 all_goals (refine⟨zcT,_,zcU,?_⟩;try simp only[zcS])
 all_goals (refine⟨?_,iO⟩;simp_all[j0]<;>omega)
theorem ZC{cfg:Cfg}(J:Plain cfg 204)(O:Plain cfg 209)(hd:Plain cfg 206)(s:List UInt8)(F:s.length<2^60)(H:Hp):
 zc2 Tryz.prog cfg 204 [.str s] H fun v H'=>v=.int .i64 (jh s)/\H'=H:=by
 refine zf (M:=23) (rs:=[.tmp 2]) (J.call _) J.ice J.froz Tryz.func204 rfl rfl I5.2 rfl ?_;dsimp only[I5,zcX,Nat.reduceAdd];repeat' (first
  |(apply zcP ?_;clear hK K)|apply Rx.o ?_|apply ak ?_|(apply zcQ fun K hK=>?_)|apply ax ?_|fail)
 refine lV (fun i E H'=>jh s=i+jh (s.drop i)/\E.at 0=.str s/\E.at 3=.int .i64 i/\H'=H) s.length ?_ ?_
 .rintro i E H' C ⟨hc,o,m,rfl⟩;repeat' (first
   |(apply zcP ?_;clear hK K)|apply Rx.o ?_|apply qG ?_|(apply bW (fun A I=>?_) (fun A I=>?_)<;>try(cases A;done))|(apply aU (fun Y V=>?_) (fun Y V=>?_)<;>try(cases Y;done))|apply ak ?_|(apply zcQ fun K hK=>?_)|apply am ?_|apply zc4 ?_)
  .have z:i<s.length:=by omega
   have L:s[i]?=some s[i]:=aO z;have U:jh (s.drop i)=if iI s[i]then jh (s.drop (i+1))+1 else 0:=by rw[eJ z,jh]
   repeat' (first
    |apply Rx.o ?_|(apply bW (fun A I=>?_) (fun A I=>?_)<;>try(cases A;done))|fail)
   refine a4 rfl a6 a7 ?_;simp only[bB];refine aZ ?_ (ZB O s[i].toNat H');rintro v _ ⟨rfl,rfl⟩;dsimp only[zc5];repeat' (first
    |(apply zcP ?_;clear hK K)|apply Rx.o ?_|(apply bW (fun A I=>?_) (fun A I=>?_)<;>try(cases A;done))|(apply aU (fun Y V=>?_) (fun Y V=>?_)<;>try(cases Y;done))|(apply zcQ fun K hK=>?_)|apply ax ?_|apply zcR ?_|fail)
   .refine a4 rfl a6 a7 ?_;simp only[bB];refine aZ ?_ (Cy hd s[i].toNat _);rintro v _ ⟨rfl,rfl⟩;dsimp only[zc5];repeat' (first
     |(apply zcP ?_;clear hK K)|apply Rx.o ?_|(apply bW (fun A I=>?_) (fun A I=>?_)<;>try(cases A;done))|(apply aU (fun Y V=>?_) (fun Y V=>?_)<;>try(cases Y;done))|apply ak ?_|(apply zcQ fun K hK=>?_)|apply ax ?_|apply zcR ?_|apply am ?_|apply zc4 ?_)
    .have Z:iI s[i]=true:=by simp_all[iI]
     refine⟨z,?_,eE,?_,rfl⟩
     .rw[hc,U,Z];simp;omega
     .simp only[gN,Nat.reduceBEq,f8,ze6 (show i<2^62 by omega)]
    .have Z:iI s[i]=false:=by simp_all[iI]
     all_goals (refine⟨zcT,_,zcU,?_⟩;try simp only[zcS])
     exact⟨by rw[hc,U,Z];simp,iO⟩
   .have Z:iI s[i]=true:=by simp_all[iI]
    refine⟨z,?_,eE,?_,rfl⟩
    .rw[hc,U,Z];simp;omega
    .simp only[gN,Nat.reduceBEq,f8,ze6 (show i<2^62 by omega)]
  .all_goals (refine⟨zcT,_,zcU,?_⟩;try simp only[zcS])
   have W:i=s.length:=ac;refine⟨?_,iO⟩;rw[hc,W];simp[jh]
 .exact⟨aE,eE,eE,rfl⟩
theorem I8{cfg:Cfg}(C:Plain cfg 195)(s:List UInt8)(hs:s.length<2^60)(H:Hp):
 zc2 Tryz.prog cfg 195 [.str s] H fun v H'=>v=.int .i64 (zel false s)/\H'=H:=by
 refine zf (M:=34) (rs:=[.tmp 2]) (C.call _) C.ice C.froz Tryz.func195 rfl rfl I6.2 rfl ?_;dsimp only[I6,zcX,Nat.reduceAdd];repeat' (first
  |(apply zcP ?_;clear hK K)|apply Rx.o ?_|apply ak ?_|(apply zcQ fun K hK=>?_)|apply ax ?_|fail)
 refine qn (fun n E H'=>∃i:Nat,n=s.length-i/\i<=s.length/\zel false s=i+zel false (s.drop i)/\E.at 0=.str s/\E.at 3=.int .i64 i/\H'=H) ?_ (n:=s.length) ?_
 .rintro n E H' ⟨i,rfl,hi,hc,h0,h3,rfl⟩;repeat' (first
   |(apply zcP ?_;clear hK K)|apply Rx.o ?_|(apply aU (fun z V=>?_) (fun z V=>?_)<;>try(cases z;done))|apply ak ?_|(apply zcQ fun K hK=>?_)|apply ax ?_|apply zcR ?_|apply am ?_|apply zc4 ?_)
  .have W:i<s.length:=by omega
   have hgx:s[i]?=some s[i]:=aO W;have U:zel false (s.drop i)=if ze2 s[i]then zel false (s.drop (i+1))+1 else if s[i].toNat=35 then zel true (s.drop (i+1))+1 else 0:=by rw[eJ W,zel]
   repeat' (first
    |(apply zcP ?_;clear hK K)|apply Rx.o ?_|(apply aU (fun z V=>?_) (fun z V=>?_)<;>try(cases z;done))|apply ak ?_|(apply zcQ fun K hK=>?_)|apply ax ?_|apply zcR ?_|apply am ?_|fail)
   .have A:ze2 s[i]=true:=by unfold ze2;simp;omega
    refine⟨s.length-(i+1),ac,i+1,rfl,ac,?_,eE,?_,rfl⟩
    .rw[hc,U,ay A];omega
    .simp only[gN,Nat.reduceBEq,f8,ze6 (show i<2^62 by omega)]
   .have A:ze2 s[i]=true:=by unfold ze2;simp;omega
    refine⟨s.length-(i+1),ac,i+1,rfl,ac,?_,eE,?_,rfl⟩
    .rw[hc,U,ay A];omega
    .simp only[gN,Nat.reduceBEq,f8,ze6 (show i<2^62 by omega)]
   .have A:ze2 s[i]=true:=by unfold ze2;simp;omega
    refine⟨s.length-(i+1),ac,i+1,rfl,ac,?_,eE,?_,rfl⟩
    .rw[hc,U,ay A];omega
    .simp only[gN,Nat.reduceBEq,f8,ze6 (show i<2^62 by omega)]
   .have A:ze2 s[i]=true:=by unfold ze2;simp;omega
    refine⟨s.length-(i+1),ac,i+1,rfl,ac,?_,eE,?_,rfl⟩
    .rw[hc,U,ay A];omega
    .simp only[gN,Nat.reduceBEq,f8,ze6 (show i<2^62 by omega)]
   .have L:s[i].toNat=35:=by omega
    have A:ze2 s[i]=false:=by unfold ze2;simp;omega
    have m:gV (s.drop i)=gV (s.drop (i+1))+1:=by rw[eJ W,gV,ah ac]
    have J:zel false s=i+gV (s.drop i)+zel false (s.drop (i+gV (s.drop i))):=by
     rw[hc,U,A,ah aE,ay L,FV,wl,m,show i+1+gV (s.drop (i+1))=i+(gV (s.drop (i+1))+1) by omega];omega
    have g:=FU (s.drop i);rw[iw]at g;refine qn (fun n E o=>∃j:Nat,n=s.length-j/\i<=j/\j<=s.length/\i+gV (s.drop i)=j+gV (s.drop j)/\E.at 0=.str s/\E.at 3=.int .i64 j/\o=H') ?_ (n:=s.length-i) ?_
    .rintro n E2 H2 ⟨j,rfl,hij,hj,Z,zd3,k3,rfl⟩;repeat' (first
      |(apply zcP ?_;clear hK K)|apply Rx.o ?_|(apply bW (fun O I=>?_) (fun O I=>?_)<;>try(cases O;done))|(apply aU (fun z V=>?_) (fun z V=>?_)<;>try(cases z;done))|apply ak ?_|(apply zcQ fun K hK=>?_)|apply zc4 ?_)
     .have Y:j<s.length:=by omega
      have hgx2:s[j]?=some s[j]:=aO Y;have F:gV (s.drop j)=if s[j].toNat=10 then 0 else gV (s.drop (j+1))+1:=by rw[eJ Y,gV]
      repeat' (first
       |(apply zcP ?_;clear hK K)|apply Rx.o ?_|(apply bW (fun O I=>?_) (fun O I=>?_)<;>try(cases O;done))|(apply aU (fun z V=>?_) (fun z V=>?_)<;>try(cases z;done))|(apply zcQ fun K hK=>?_)|apply ax ?_|apply zcR ?_|apply zc4 ?_)
      .refine⟨s.length-(j+1),ac,j+1,rfl,ac,ac,?_,eE,?_,rfl⟩
       .rw[Z,F,ah (by simp_all;omega)];omega
       .simp only[gN,Nat.reduceBEq,f8,ze6 (show j<2^62 by omega)]
      .have h10:s[j].toNat=10:=by simp_all;omega
       rw[F,ay h10,mA]at Z;refine⟨s.length-j,ac,j,rfl,ac,?_,eE,eE,iO⟩;rw[J,Z]
     .have hje:j=s.length:=by omega
      have h0j:gV (s.drop j)=0:=by rw[hje];simp[gV]
      rw[h0j,mA]at Z;refine⟨s.length-j,ac,j,rfl,ac,?_,eE,eE,iO⟩;rw[J,Z]
    .exact⟨i,rfl,ac,ac,rfl,eE,eE,rfl⟩
   .have A:ze2 s[i]=false:=by unfold ze2;simp;omega
    all_goals (refine⟨zcT,_,zcU,?_⟩;try simp only[zcS])
    refine⟨?_,iO⟩;rw[hc,U,A,ah aE,ah ac];simp
  .all_goals (refine⟨zcT,_,zcU,?_⟩;try simp only[zcS])
   have hie:i=s.length:=ac;refine⟨?_,iO⟩;rw[hc,hie];simp[zel]
 .exact⟨0,aE,ac,aE,eE,eE,rfl⟩
end
section
def tyW4g.tyF:=ad @b7 (ad @dz (ad @sC (ad @A4 (ad @A9 (ad @xt (ad @uI (ad @WI (ad @NL (ad @AF (@Tryz.underlying9))))))))))
open tyW4g
noncomputable def I9:{c:SC // aB 35 (Tryz.f205.body.getD .skip)=c}:=by
 refine⟨?_,?_⟩;rotate_left
 .simp only[Tryz.f205,a8,aB,zda,zc9,zdc,zdd,Nat.blt,Nat.ble];rfl
noncomputable def Ja:{c:SC // aB 41 (Tryz.f196.body.getD .skip)=c}:=by
 refine⟨?_,?_⟩;rotate_left
 .simp only[Tryz.f196,a8,aB,zda,zc9,zdc,zdd,Nat.blt,Nat.ble];rfl
noncomputable def Jb:{c:SC // aB 49 (Tryz.f170.body.getD .skip)=c}:=by
 refine⟨?_,?_⟩;rotate_left
 .simp only[Tryz.f170,a8,aB,zda,zc9,zdc,zdd,Nat.blt,Nat.ble];rfl
theorem ZD{cfg:Cfg}(J:Plain cfg 207)(hd:Plain cfg 206)(s:List UInt8)(o:s≠[])(W:s.length<2^60)(H:Hp):
 zc2 Tryz.prog cfg 207 [.str s] H fun v H'=>(∃b,v=.bool b)/\H'=H:=by
 have j:0<s.length:=Cw.2 o;have F:s[0]?=some s[0]:=aO j;refine zf (M:=37) (rs:=[.tmp 2]) (J.call _) J.ice J.froz Tryz.func207 rfl rfl I7.2 rfl ?_;dsimp only[I7,zcX,Nat.reduceAdd];repeat' (first
  |(apply zcP ?_;clear hK K)|apply Rx.o ?_|apply ak ?_|(apply zcQ fun K hK=>?_)|apply ax ?_|fail)
 refine lV (fun i E H'=>E.at 0=.str s/\E.at 3=.int .i64 i/\H'=H) s.length ?_ ?_
 .rintro i E H' C ⟨zd3,k3,rfl⟩;repeat' (first
   |(apply zcP ?_;clear hK K)|apply Rx.o ?_|(apply aU (fun z V=>?_) (fun z V=>?_)<;>try(cases z;done))|apply ak ?_|(apply zcQ fun K hK=>?_)|apply ax ?_|apply zcR ?_|apply zc4 ?_)
  .have Z:i<s.length:=by omega
   have Y:s[i]?=some s[i]:=aO Z;repeat' (first
    |apply Rx.o ?_|fail)
   refine a4 rfl a6 a7 ?_;simp only[bB];refine aZ ?_ (Cy hd s[i].toNat H');rintro v _ ⟨rfl,rfl⟩;dsimp only[zc5];repeat' (first
    |(apply zcP ?_;clear hK K)|apply Rx.o ?_|(apply aU (fun z V=>?_) (fun z V=>?_)<;>try(cases z;done))|apply ak ?_|(apply zcQ fun K hK=>?_)|apply zcR ?_|apply am ?_|fail)
   .all_goals (refine⟨zcT,_,zcU,?_⟩;try simp only[zcS])
    exact⟨⟨_,rfl⟩,iO⟩
   .refine⟨Z,eE,?_,iO⟩;simp only[gN,Nat.reduceBEq,f8,ze6 (show i<2^62 by omega)]
  .repeat' (first
    |(apply zcP ?_;clear hK K)|apply Ry.o ?_|apply Ry.gu ?_|(apply aT (fun A I=>?_) (fun A I=>?_)<;>try(cases A;done))|apply am ?_|fail)
   all_goals (refine⟨zcT,_,zcU,?_⟩;try simp only[zcS])
   all_goals exact⟨⟨_,rfl⟩,iO⟩
 .exact⟨eE,eE,rfl⟩
def ZE:List (List UInt8):=[[62,62,62],[60,60],[62,62],[60,61],[62,61],[61,61],[33,61]]
theorem ZF{cfg:Cfg}(J:Plain cfg 205)(hplan:∀id,cfg.plan 205 id=.text)(s:List UInt8)(o:s≠[])(g:s.length<2^60)(H:Hp):
 zc2 Tryz.prog cfg 205 [.str s] H fun v H'=>(∃n:Nat,v=.int .i64 n/\n<=s.length)/\H'=H:=by
 have Y:0<s.length:=Cw.2 o;have m:s[0]?=some s[0]:=aO Y;have O:zeb Tryz.prog 245 [(0,.str [62,62,62]),(1,.str [60,60]),(2,.str [62,62]),(3,.str [60,61]),(4,.str [62,61]),(5,.str [61,61]),(6,.str [33,61])]=some (.agg [.str [62,62,62],.str [60,60],.str [62,62],.str [60,61],.str [62,61],.str [61,61],.str [33,61]]):=af;refine zf (M:=35) (rs:=[.tmp 2]) (J.call _) J.ice J.froz Tryz.func205 rfl rfl I9.2 rfl ?_;dsimp only[I9,zcX,Nat.reduceAdd];repeat' (first
  |(apply zcP ?_;clear hK K)|apply Rx.o ?_|apply ak ?_|(apply zcQ fun K hK=>?_)|apply ax ?_|fail)
 refine lV (fun i E H'=>E.at 0=.str s/\E.at 6=.agg [.str [62,62,62],.str [60,60],.str [62,62],.str [60,61],.str [62,61],.str [61,61],.str [33,61]]/\E.at 7=.int .i64 i/\H'=H) 7 ?_ ?_
 .rintro i E H' hi ⟨zd3,zft,zfH,rfl⟩;repeat' (first
   |(apply zcP ?_;clear hK K)|apply Rx.o ?_|(apply aU (fun z V=>?_) (fun z V=>?_)<;>try(cases z;done))|apply ak ?_|(apply zcQ fun K hK=>?_)|apply ax ?_|apply zcR ?_|apply zc4 ?_)
  .have Z:i<7:=by omega
   have F:∃w:List UInt8,lM Tryz.prog 245 (.agg [.str [62,62,62],.str [60,60],.str [62,62],.str [60,61],.str [62,61],.str [61,61],.str [33,61]]) (.int .i64 i)=some (.str w):=by
    refine⟨ZE.getD i [],?_⟩;rcases(show i=0\/i=1\/i=2\/i=3\/i=4\/i=5\/i=6 by omega)with rfl|rfl|rfl|rfl|rfl|rfl|rfl<;>kernel_rfl
   obtain⟨w,L⟩:=F;repeat' (first
    |(apply zcP ?_;clear hK K)|apply Rx.o ?_|(apply bW (fun A I=>?_) (fun A I=>?_)<;>try(cases A;done))|(apply aU (fun z V=>?_) (fun z V=>?_)<;>try(cases z;done))|apply ak ?_|(apply zcQ fun K hK=>?_)|apply zcR ?_|fail)
   .have W:w.length<=s.length:=by omega
    repeat' (first
     |(apply zcP ?_;clear hK K)|apply Rx.o ?_|(apply bW (fun A I=>?_) (fun A I=>?_)<;>try(cases A;done))|(apply aU (fun z V=>?_) (fun z V=>?_)<;>try(cases z;done))|apply ak ?_|(apply zcQ fun K hK=>?_)|apply zcR ?_|apply am ?_|fail)
    .all_goals (refine⟨zcT,_,zcU,?_⟩;try simp only[zcS])
     exact⟨⟨w.length,rfl,W⟩,iO⟩
    .refine⟨Z,eE,eE,?_,iO⟩;simp only[gN,Nat.reduceBEq,f8,ze6 (show i<2^62 by omega)]
   .refine⟨Z,eE,eE,?_,iO⟩;simp only[gN,Nat.reduceBEq,f8,ze6 (show i<2^62 by omega)]
  .repeat' (first
    |(apply zcP ?_;clear hK K)|fail)
   refine lV (fun i E U=>E.at 0=.str s/\E.at 5=.int .i64 i/\U=H') 23 ?_ ?_
   .rintro j E U hj ⟨zd3,zeL,rfl⟩;repeat' (first
     |(apply zcP ?_;clear hK K)|apply Rx.o ?_|(apply aU (fun z V=>?_) (fun z V=>?_)<;>try(cases z;done))|apply ak ?_|(apply zcQ fun K hK=>?_)|(apply nZ 10 fun K hK=>?_)|apply ax ?_|apply zcR ?_|apply am ?_|apply zc4 ?_)
    .have Z:j<23:=by omega
     have C:∃b,([43,45,42,47,37,38,124,94,126,33,60,62,61,63,58,59,44,40,41,123,125,91,93]:List UInt8)[j]?=some b:=by
      rw[aO qb];exact⟨_,rfl⟩
     obtain⟨b,C⟩:=C;repeat' (first
      |(apply zcP ?_;clear hK K)|apply Ry.o ?_|(apply az (fun z V=>?_) (fun z V=>?_)<;>try(cases z;done))|apply ak ?_|(apply zcQ fun K hK=>?_)|apply zcR ?_|apply am ?_|fail)
     .all_goals (refine⟨zcT,_,zcU,?_⟩;try simp only[zcS])
      exact⟨⟨1,rfl,Y⟩,iO⟩
     .refine⟨Z,eE,?_,iO⟩;simp only[gN,Nat.reduceBEq,f8,ze6 (show j<2^62 by omega)]
    .all_goals (refine⟨zcT,_,zcU,?_⟩;try simp only[zcS])
     exact⟨⟨0,rfl,cN _⟩,iO⟩
   .exact⟨eE,eE,rfl⟩
 .exact⟨eE,eE,eE,rfl⟩
end
section
def tyW4h.tyF:=ad @b7 (ad @dz (ad @xt (ad @AF (@Tryz.underlying9))))
open tyW4h
structure Lexers (cfg:Cfg):Prop where
 let_:Plain cfg 209
 dig:Plain cfg 206
 word:Plain cfg 204
 space:Plain cfg 195
 num:Plain cfg 207
 sym:Plain cfg 205
 first:Plain cfg 196
 scan:Plain cfg 170
 plan:∀id,cfg.plan 205 id=.text
 keep:cfg.keep 170=false
theorem yz(a:Int)(x:List UInt8):zeb Tryz.prog 173 [(0,.int .i64 a),(1,.str x)]=some (.agg [.int .i64 a,.str x,.int .i64 0]):=af
theorem yA:zeb Tryz.prog 173 []=some (.agg [.int .i64 0,.str [],.int .i64 0]):=af
theorem tl(a b c:AV):zdA 3 [a,b,c]=some (.agg [a,b,c]):=rfl
theorem rA(H:Hp)(a b:HB):FrB 0 H ((H.alloc a).set H.next b):=((fY _ _).alloc _).set (.inl (aM _)) _
theorem ZG{cfg:Cfg}(F:Lexers cfg)(s:List UInt8)(o:s≠[])(L:s.length<2^60)(H:Hp):
 zc2 Tryz.prog cfg 196 [.str s] H fun v H'=>(∃k e,v=.tup [.agg k.cells,.int .i64 e]/\FW s k e)/\FrB 0 H H':=by
 have J:=F.first
 have j:0<s.length:=Cw.2 o;have Y:s[0]?=some s[0]:=aO j;have Z:=FT s;refine zf (M:=41) (rs:=[.cell 2 173,.tmp 3]) (J.call _) J.ice J.froz Tryz.func196 rfl rfl Ja.2 rfl ?_;dsimp only[Ja,zcX,Nat.reduceAdd];repeat' (first
  |(apply zcP ?_;clear hK K)|apply Rx.o ?_|apply bE ?_|(apply aU (fun z V=>?_) (fun z V=>?_)<;>try(cases z;done))|apply ak ?_|(apply zcQ fun K hK=>?_)|apply ax ?_|apply zcR ?_|apply am ?_)
 refine a4 rfl a6 a7 ?_;simp only[cG];refine aZ ?_ (ZC F.word F.let_ F.dig s L _);rintro v _ ⟨rfl,rfl⟩;dsimp only[zc5];have W:=@yz;have U:=@yA;repeat' (first
  |(apply zcP ?_;clear hK K)|apply Ry.o ?_|(apply az (fun z V=>?_) (fun z V=>?_)<;>try(cases z;done))|apply ak ?_|(apply zcQ fun K hK=>?_)|apply ax ?_|apply zcR ?_|apply am ?_)
 .refine a4 rfl a6 a7 ?_;simp only[cG];refine aZ ?_ (ZF F.sym F.plan s o L _);rintro v _ ⟨⟨n,rfl,I⟩,rfl⟩;dsimp only[zc5];have W:=@yz;have U:=@yA;repeat' (first
   |(apply zcP ?_;clear hK K)|apply Rx.o ?_|apply bE ?_|(apply aU (fun z V=>?_) (fun z V=>?_)<;>try(cases z;done))|apply ak ?_|(apply zcQ fun K hK=>?_)|apply ax ?_|apply zcR ?_|apply am ?_)
  .refine⟨zcT,_,(by(try simp only[zc3,zde,Nat.reduceBEq,Nat.reduceAdd,Nat.reduceLeDiff,tyF,zet,zeC,tl, *]);first|done|with_reducible rfl),?_⟩;try simp only[zcS]
   exact⟨⟨⟨0,[],0⟩,2,rfl,rfl,aE,fun i=>ac⟩,rA _ _ _⟩
  .refine⟨zcT,_,(by(try simp only[zc3,zde,Nat.reduceBEq,Nat.reduceAdd,Nat.reduceLeDiff,tyF,zet,zeC,tl, *]);first|done|with_reducible rfl),?_⟩;try simp only[zcS]
   refine⟨⟨⟨3,s.take n,0⟩,0,rfl,rfl,fun _=>⟨n,ac,I,rfl,aE⟩,fun i=>ac⟩,rA _ _ _⟩
 .refine a4 rfl a6 a7 ?_;simp only[cG];refine aZ ?_ (Cy F.dig s[0].toNat _);rintro v _ ⟨rfl,rfl⟩;dsimp only[zc5];have C:=AF (P:=Tryz.prog) (k:=.i64) (s:=s) Tryz.underlying9 Z;have W:=@yz;have U:=@yA;repeat' (first
   |(apply zcP ?_;clear hK K)|apply Rx.o ?_|apply bE ?_|(apply aU (fun z V=>?_) (fun z V=>?_)<;>try(cases z;done))|apply ak ?_|(apply zcQ fun K hK=>?_)|apply ax ?_|apply zcR ?_|apply am ?_)
  .have O:s.take (jh s)≠[]:=by
    intro h;have:=kD List.length h;rw[iS,Nat.min_eq_left Z,jx]at this;omega
   refine a4 rfl a6 a7 ?_;simp only[cG];refine aZ ?_ (ZD F.num F.dig (s.take (jh s)) O rZ _);rintro v _ ⟨⟨ok,rfl⟩,rfl⟩;dsimp only[zc5];have W:=@yz;have U:=@yA;repeat' (first
    |(apply zcP ?_;clear hK K)|apply Rx.o ?_|apply bE ?_|(apply aU (fun z V=>?_) (fun z V=>?_)<;>try(cases z;done))|apply ak ?_|(apply zcQ fun K hK=>?_)|apply ax ?_|apply zcR ?_|apply am ?_)
   .refine⟨zcT,_,(by(try simp only[zc3,zde,Nat.reduceBEq,Nat.reduceAdd,Nat.reduceLeDiff,tyF,zet,zeC,tl, *]);first|done|with_reducible rfl),?_⟩;try simp only[zcS]
    refine⟨⟨⟨0,[],0⟩,2,rfl,rfl,aE,fun i g m=>?_⟩,rA _ _ _⟩;have:=m _ Y;simp_all
   .refine⟨zcT,_,(by(try simp only[zc3,zde,Nat.reduceBEq,Nat.reduceAdd,Nat.reduceLeDiff,tyF,zet,zeC,tl, *]);first|done|with_reducible rfl),?_⟩;try simp only[zcS]
    refine⟨⟨⟨2,s.take (jh s),0⟩,0,rfl,rfl,fun _=>⟨jh s,ac,Z,rfl,aE⟩,fun i g m=>?_⟩,rA _ _ _⟩;have:=m _ Y;simp_all
  .refine⟨zcT,_,(by(try simp only[zc3,zde,Nat.reduceBEq,Nat.reduceAdd,Nat.reduceLeDiff,tyF,zet,zeC,tl, *]);first|done|with_reducible rfl),?_⟩;try simp only[zcS]
   exact⟨⟨⟨0,[],0⟩,6,rfl,rfl,aE,fun i g=>ac⟩,rA _ _ _⟩
  .refine⟨zcT,_,(by(try simp only[zc3,zde,Nat.reduceBEq,Nat.reduceAdd,Nat.reduceLeDiff,tyF,zet,zeC,tl, *]);first|done|with_reducible rfl),?_⟩;try simp only[zcS]
   refine⟨⟨⟨1,s.take (jh s),0⟩,0,rfl,rfl,fun _=>⟨jh s,ac,Z,rfl,fun _=>⟨rfl,ac,fun b z=>?_⟩⟩,fun _ _ _=>⟨rfl,rfl⟩⟩,rA _ _ _⟩;rw[Y]at z;simp only[aA]at z;subst z;assumption
end
section
def tyW4i.tyF:=ad @b7 (ad @dz (ad @sC (ad @A4 (ad @A9 (@xt)))))
open tyW4i
theorem Jc(a b:Int):zeb Tryz.prog 86 [(0,.int .i64 a),(1,.int .i64 b)]=some (.agg [.int .i64 a,.int .i64 b]):=af
theorem Jd:zeb Tryz.prog 86 []=some (.agg [.int .i64 0,.int .i64 0]):=af
theorem Cz(a b:AV):zdA 2 [a,b]=some (.agg [a,b]):=rfl
theorem ZH(k:Tk)(x:Int):List.take 2 k.cells++[.int .i64 x]++List.drop 3 k.cells=(Tk.mk k.kind k.text x).cells:=rfl
theorem ZI(H:Hp)(k:Tk):zej Tryz.prog H 137 1 [(0,.agg k.cells)]=some (.sl H.next 0 1 3,H.alloc (.cells k.cells 0 true)):=af
theorem ZJ{zdw H:Hp}{Y:AV}{O:List Tk}(Z:sI zdw.next H Y O)(L:FrB 0 zdw H)(K:zdw.next<H.next)(k:Tk){m:Nat}(A:H.get m=some (.cells k.cells 0 true))(F:O.length<2^40):
 ∃V,zen Tryz.prog false H 137 137 Y (.sl m 0 1 3)=some (.sl H.next 0 (O.length+1) 3,V)/\V.next=H.next+1/\sI zdw.next V (.sl H.next 0 (O.length+1) 3) (O++[k])/\FrB 0 zdw V/\∀j,j<H.next->Y≠.sl j 0 O.length 3->V.get j=H.get j:=by
 have C:zeN H 3 (.sl m 0 1 3)=some (0+1,k.cells):=by
  have:=lX (H:=H) (r:=m) (o:=0) (n:=1) (z:=3) (s:=3) A (by rw[dW,iS,Tk.clen];rfl);rw[this,dW,eF (by rw[Tk.clen];omega)]
 have M:zef=70368744177664:=rfl;rcases Z with⟨rfl,rfl⟩|⟨r,rfl,I,i,g,q5⟩
 .refine⟨H.alloc (.cells k.cells 0 true),?_,rfl,.inr ⟨H.next,aE,?_,K,cQ _,aE⟩,L.alloc _,fun j J _=>?_⟩
  .exact append_nil Tryz.underlying137 xr Bb Bc af C k.one rfl iJ iJ
  .rw[zcY,ay rfl];simp
  .rw[zcY,ah ac]
 .refine⟨(H.kill r).alloc (.cells (O.flatMap Tk.cells++k.cells) 0 true),?_,rfl,.inr ⟨H.next,aE,?_,K,cQ _,aE⟩,(L.kill ac).alloc _,fun j J W=>?_⟩
  .exact AG Tryz.underlying137 xr Bb Bc af C k.one rfl I (FX O) iJ iJ
  .show((H.kill r).alloc _).get (H.kill r).next=_
   rw[zcY,ay rfl];simp
  .have U:¬j=r:=fun e=>W li;rw[zcY,ah lA,zeI,ah U]
def ZK(s:List UInt8)(H:Hp)(v:AV)(H':Hp):Prop:=
 ∃(j W:Int) (lv:AV),v=.tup [lv,.agg [.int .i64 j,.int .i64 W]]/\FrB 0 H H'/\((j≠0/\¬oU s)\/(j=0/\∃ts,sI H.next H' lv ts/\xz s ts/\(oU s->ts=[⟨1,s,0⟩])))
theorem ZL{cfg:Cfg}(hx:Lexers cfg)(s:List UInt8)(hs:s.length<2^60)(H:Hp):zc2 Tryz.prog cfg 170 [.str s] H (ZK s H):=by
 have hw:=hx.scan;refine zf (M:=49) (rs:=[.tmp 2,.cell 3 86]) (hw.call _) hw.ice hw.froz Tryz.func170 rfl rfl Jb.2 rfl ?_;dsimp only[Jb,zcX,Nat.reduceAdd];have gh0:=@Jc;have gh1:=@Jd;repeat' (first
  |(apply zcP ?_;clear hK K)|apply Rx.o ?_|apply bE ?_|(apply aU (fun z V=>?_) (fun z V=>?_)<;>try(cases z;done))|apply ak ?_|(apply zcQ fun K hK=>?_)|apply zcR ?_|apply am ?_|fail)
 .refine⟨zcT,_,(by(try simp only[zc3,zde,Nat.reduceBEq,tyF,zet,zeC,Cz, *]);first|done|with_reducible rfl),?_⟩;try simp only[zcS]
  refine⟨6,20000,.nilS,rfl,rA _ _ _,.inl ⟨aE,fun h=>?_⟩⟩;have:=h.2.2.1;omega
 .refine a4 rfl a6 a7 ?_;simp only[bB];refine aZ ?_ (I8 hx.space s hs _);rintro v _ ⟨rfl,rfl⟩;dsimp only[zc5];repeat' (first
   |(apply zcP ?_;clear hK K)|apply Rx.o ?_|apply ax ?_|fail)
  have hsp:=sH false s;refine qn (fun n E O=>∃(W:Nat) (ts:List Tk) (lv:AV),n=s.length-W/\W<=s.length/\E.at 0=.str s/\E.at 3=.ptr H.next 0/\E.at 4=lv/\E.at 5=.int .i64 W/\FrB 0 H O/\H.next<O.next /\
   O.get H.next=some (.cells [.int .i64 0,.int .i64 0] 0 true)/\sI H.next O lv ts/\ts.length<=W/\xz s ts/\(ts=[]->W=zel false s)/\(oU s->(ts=[]/\W=0)\/(ts=[⟨1,s,0⟩]/\W=s.length))) ?_ (n:=s.length-zel false s) ?_
  .rintro n E O ⟨W,ts,lv,rfl,ha,h0,h3,h4,h5,L,hn2,hg2,Y,htl,o,F,J⟩;have e1:(H.next == O.next)=false:=cp;repeat' (first
    |(apply zcP ?_;clear hK K)|apply Rx.o ?_|apply bE ?_|(apply aU (fun z V=>?_) (fun z V=>?_)<;>try(cases z;done))|apply ak ?_|(apply zcQ fun K hK=>?_)|apply ax ?_|apply zcR ?_|apply am ?_|apply zc4 ?_)
   .have hlt:W<s.length:=by omega
    have hslo:=EM (P:=Tryz.prog) (k:=.i64) (s:=s) (m:=W) Tryz.underlying9 ha;repeat' (first
     |apply Rx.o ?_|fail)
    have hne:s.drop W≠[]:=by
     intro h;have:=kD List.length h;rw[iw,jx]at this;omega
    refine a4 rfl a6 a7 ?_;simp only[bB];refine aZ ?_ (ZG hx (s.drop W) hne wF O);rintro v U ⟨⟨k,e,rfl,hk⟩,A⟩;have hn3:=A.next
    have hg3:U.get H.next=some (.cells [.int .i64 0,.int .i64 0] 0 true):=by rw[A.get _ (cN _) hn2];exact hg2
    have g:sI H.next U lv ts:=by
     rcases Y with h|⟨r,j,q2,q3,q4,q5⟩
     .exact .inl h
     .exact .inr ⟨r,j,by rw[A.get _ (cN _) q4];exact q2,q3,ac,q5⟩
    have e2:(H.next == U.next)=false:=cp;dsimp only[zc5];have hx1:Ab.extract (.tup [.agg k.cells,.int .i64 e]) 0=some (.agg k.cells):=rfl;have hx2:Ab.extract (.tup [.agg k.cells,.int .i64 e]) 1=some (.int .i64 e):=rfl;have gh0:=@Jc;repeat' (first
     |(apply zcP ?_;clear hK K)|apply Rx.o ?_|apply bE ?_|(apply aU (fun z V=>?_) (fun z V=>?_)<;>try(cases z;done))|apply ak ?_|(apply zcQ fun K hK=>?_)|apply zcR ?_|apply am ?_|fail)
    .have he:e≠0:=by simpa using z
     refine⟨zcT,_,(by(try simp only[zc3,zde,Nat.reduceBEq,tyF,zet,zeC,Cz, *]);first|done|with_reducible rfl),?_⟩;try simp only[zcS]
     refine⟨e,W,.nilS,rfl,?_,.inl ⟨he,fun h=>?_⟩⟩
     .exact((((L.trans A).alloc _).set (.inl ac) _).set (.inl (aM _)) _)
     .rcases J h with⟨_,q⟩|⟨_,q⟩
      .subst q;exact he (hk.2.2 h.1 IV h.2.2.2).1
      .omega
    .have he:e=0:=by simpa using z
     have gh0:=@ZH;have gh1:=@ZI;repeat' (first
      |apply Rx.o ?_|fail)
     generalize I:Tk.mk k.kind k.text (W:Int)=k';generalize Z:Hp.alloc _ (HB.cells (Tk.cells k') 0 true)=H5;have hn5:H5.next=U.next+2:=by rw[<-Z];rfl
     have hg5:H5.get (U.next+1)=some (.cells k'.cells 0 true):=by rw[<-Z];simp only[get_set,sf,zc6,zdm,Ax,Cg,f8,oM]
     have hg5a:H5.get U.next=some (.cells k'.cells 0 true):=by rw[<-Z];simp only[get_set,sf,zc6,zdm,Aw,Cg,f8,oM]
     have hf5:FrB 0 U H5:=by rw[<-Z];exact(((fY _ _).alloc _).set (.inl (aM _)) _).set (.inl (aM _)) _ |>.alloc _
     have hF5:FrB 0 H H5:=(L.trans A).trans hf5;have hrep5:sI H.next H5 lv ts:=by
      rcases g with h|⟨r,j,q2,q3,q4,q5⟩
      .exact .inl h
      .exact .inr ⟨r,j,by rw[hf5.get _ (cN _) q4];exact q2,q3,ac,q5⟩
     obtain⟨H6,p1,p2,p3,p4,p5⟩:=ZJ hrep5 hF5 ac k' hg5 ac;have hkeep:=hx.keep;have hg6:H6.get H.next=some (.cells [.int .i64 0,.int .i64 0] 0 true):=by
      rw[p5 _ ac (fun e=>by rcases g with⟨_,q⟩|⟨r,j,_,q3,_⟩<;>simp_all),hf5.get _ (cN _) ac];exact hg3
     have hg6a:H6.get U.next=some (.cells k'.cells 0 true):=by
      rw[p5 _ ac (fun e=>by rcases g with⟨_,q⟩|⟨r,j,_,q3,q4,_⟩<;>simp_all)];exact hg5a
     obtain⟨n,hn1,hn2',C,hkk⟩:=hk.2.1 he;rw[iw]at hn2';have hktl:k'.text.length=n:=by rw[<-I];show k.text.length=n;rw[C,iS,iw];omega
     have hwr:IntKind.wrap .i64 ((W:Int)+(n:Int))=((W+n:Nat):Int):=by rw[qd _ ac];omega
     have hslo2:=EM (P:=Tryz.prog) (k:=.i64) (s:=s) (m:=W+n) Tryz.underlying9 ac;refine nQ eV eV (by rw[hkeep];exact p1) ?_;repeat' (first
      |(apply zcP ?_;clear hK K)|apply Rx.o ?_|(apply zcQ fun K hK=>?_)|fail)
     refine a4 rfl a6 a7 ?_;simp only[bB];refine aZ ?_ (I8 hx.space (s.drop (W+n)) wF _);rintro v _ ⟨rfl,rfl⟩;dsimp only[zc5];have hsp2:=sH false (s.drop (W+n));rw[iw]at hsp2;have hwr2:IntKind.wrap .i64 (((W+n:Nat):Int)+(zel false (s.drop (W+n)):Int))=((W+n+zel false (s.drop (W+n)):Nat):Int):=by rw[qd _ ac];omega
     repeat' (first
      |(apply zcP ?_;clear hK K)|apply Rx.o ?_|fail)
     refine⟨s.length-(W+n+zel false (s.drop (W+n))),ac,W+n+zel false (s.drop (W+n)),ts++[k'],.sl H5.next 0 (ts.length+1) 3,rfl,ac,eE,eE,eE,(by first|(simp only[zc3,Nat.reduceBEq,hZ, *];done)|rfl),p4,ac,hg6,p3,cp,fun t rest hr=>?_,aE,fun h=>.inr ?_⟩
     .cases ts with
      |nil=>
       simp only[lN,cS]at hr;obtain⟨rfl,_⟩:=hr;rw[<-F rfl];exact⟨k,by rw[<-he];exact hk,by rw[<-I],by rw[<-I]⟩
      |cons t0 ts=>
       simp only[nY,cS]at hr;obtain⟨rfl,_⟩:=hr;exact o _ _ rfl
     .rcases J h with⟨rfl,q⟩|⟨_,q⟩
      .subst q;have i:=(hk.2.2 h.1 IV h.2.2.2).2;simp only[dW]at i C;have hwn:jh s=s.length:=h.2.1;rw[hwn,ua]at i;have hns:n=s.length:=by
        have:=kD List.length C;rw[i,iS]at this;have h3:s.length=min n s.length:=this;omega
       have hkk2:k'=⟨1,s,0⟩:=by rw[<-I,i];rfl
       refine⟨by rw[hkk2];rfl,?_⟩;rw[hns];simp[zel]
      .omega
   .have hat:W=s.length:=by omega
    have gh0:=@Jd;repeat' (first
     |(apply zcP ?_;clear hK K)|fail)
    refine⟨zcT,_,(by(try simp only[zc3,zde,Nat.reduceBEq,tyF,zet,zeC,Cz, *]);first|done|with_reducible rfl),?_⟩;try simp only[zcS]
    refine⟨0,0,lv,rfl,L.set (.inl (aM _)) _,.inr ⟨rfl,ts,?_,o,fun h=>?_⟩⟩
    .rcases Y with h|⟨r,j,q2,q3,q4,q5⟩
     .exact .inl h
     .exact .inr ⟨r,j,by rw[aX,ah ac];exact q2,q3,q4,q5⟩
    .rcases J h with⟨_,q⟩|⟨q,_⟩
     .have:=h.1;have:=h.2.1;omega
     .exact q
  .refine⟨zel false s,[],.nilS,rfl,hsp,eE,eE,eE,eE,(fY _ _).alloc _,gX,zfO,.inl ⟨rfl,rfl⟩,aE,by simp[xz],fun _=>rfl,fun h=>.inl ⟨rfl,WK h⟩⟩
end
section
def tyW4j.tyF:=ad @b7 (ad @dz (ad @sC (ad @A4 (ad @A9 (ad @xt (ad @jZ (ad @List.flatMap_cons.{0,0} (ad @List.flatMap_nil.{0,0} (@t9)))))))))
open tyW4j
noncomputable def Je:{c:SC // aB 44 (Tryz.f127.body.getD .skip)=c}:=by
 refine⟨?_,?_⟩;rotate_left
 .simp only[Tryz.f127,a8,aB,zda,zc9,zdc,zdd,Nat.blt,Nat.ble];rfl
noncomputable def Jf:{c:SC // aB 15 (Tryz.f128.body.getD .skip)=c}:=by
 refine⟨?_,?_⟩;rotate_left
 .simp only[Tryz.f128,a8,aB,zda,zc9,zdc,zdd,Nat.blt,Nat.ble];rfl
theorem CA{cfg:Cfg}(hx:Lexers cfg)(C:Plain cfg 127)(s:List UInt8)(hs:s.length<2^60)(H:Hp):
 zc2 Tryz.prog cfg 127 [.str s] H fun v H'=>v=.bool (zdC s)/\FrB 0 H H':=by
 refine zf (M:=44) (rs:=[.tmp 2]) (C.call _) C.ice C.froz Tryz.func127 rfl rfl Je.2 rfl ?_;dsimp only[Je,zcX,Nat.reduceAdd];repeat' (first
  |(apply zcP ?_;clear hK K)|apply Rx.o ?_|apply bE ?_|(apply bW (fun A I=>?_) (fun A I=>?_)<;>try(cases A;done))|(apply aU (fun z V=>?_) (fun z V=>?_)<;>try(cases z;done))|apply ak ?_|(apply zcQ fun K hK=>?_)|apply ax ?_|apply zcR ?_|apply am ?_)
 refine a4 rfl a6 a7 ?_;simp only[cG];refine aZ ?_ (ZL hx s hs H);rintro v m ⟨j,W,lv,rfl,J,O⟩;have i:Ab.extract (.tup [lv,.agg [.int .i64 j,.int .i64 W]]) 0=some lv:=rfl;have g:Ab.extract (.tup [lv,.agg [.int .i64 j,.int .i64 W]]) 1=some (.agg [.int .i64 j,.int .i64 W]):=rfl;dsimp only[zc5];have U:FrB 0 H ((m.alloc (.cells [.int .i64 0,.int .i64 0] 0 true)).set m.next (.cells [.int .i64 j,.int .i64 W] 0 true)):=(J.alloc _).set (.inl J.next) _;rcases O with⟨h1,h2⟩|⟨rfl,ts,F,o,Y⟩
 .have Z:i6 s=false:=by
   cases z:i6 s with
   |false=>rfl
   |true=>exact(h2 ((xA s).1 z)).elim
  repeat' (first
   |(apply zcP ?_;clear hK K)|apply Rx.o ?_|apply bE ?_|(apply bW (fun A I=>?_) (fun A I=>?_)<;>try(cases A;done))|(apply aU (fun z V=>?_) (fun z V=>?_)<;>try(cases z;done))|apply ak ?_|(apply zcQ fun K hK=>?_)|apply ax ?_|apply zcR ?_|apply am ?_)
  all_goals (refine⟨zcT,_,zcU,?_⟩;try simp only[zcS])
  exact⟨Cv,U⟩
 .rcases F with⟨rfl,rfl⟩|⟨r,rfl,q2,q3,q4,q5⟩
  .have Z:i6 s=false:=by
    cases z:i6 s with
    |false=>rfl
    |true=>have:=Y ((xA s).1 z);simp at this
   repeat' (first
    |(apply zcP ?_;clear hK K)|apply Rx.o ?_|apply bE ?_|(apply bW (fun A I=>?_) (fun A I=>?_)<;>try(cases A;done))|(apply aU (fun z V=>?_) (fun z V=>?_)<;>try(cases z;done))|apply ak ?_|(apply zcQ fun K hK=>?_)|apply ax ?_|apply zcR ?_|apply am ?_)
   all_goals (refine⟨zcT,_,zcU,?_⟩;try simp only[zcS])
   exact⟨Cv,U⟩
  .have e1:(r == m.next)=false:=by simp;omega
   by_cases hl:ts.length=1
   .obtain⟨k,rfl⟩:=List.length_eq_one_iff.1 hl;simp only[oT,B1,bB]at q2;simp only[dl,jx,bz]at i g⊢;have L:oU s↔(k.kind=1/\k.text=s):=⟨fun h=>by have:=Y h;simp only[cS,a1]at this;rw[this];exact⟨rfl,rfl⟩,fun h=>WL o h.1 h.2⟩;have Z:i6 s=(decide (k.kind=1)&&decide (k.text=s)):=by
     rw[tX,xA,L];simp
    clear L Y o;have hidx:zdn Tryz.prog 137 (.sl r 0 1 3) (.int .i64 0)=some (.ptr r 0):=af;repeat' (first
     |(apply zcP ?_;clear hK K)|apply Ry.o ?_|apply bl ?_|(apply aT (fun A I=>?_) (fun A I=>?_)<;>try(cases A;done))|(apply az (fun z V=>?_) (fun z V=>?_)<;>try(cases z;done))|apply ak ?_|(apply zcQ fun K hK=>?_)|apply ax ?_|apply zcR ?_|apply am ?_)
    all_goals (refine⟨zcT,_,zcU,?_⟩;try simp only[zcS])
    all_goals (refine⟨?_,U⟩;simp only[zdC,Z,oV];simp_all)
   .have Z:i6 s=false:=by
     cases z:i6 s with
     |false=>rfl
     |true=>have:=Y ((xA s).1 z);rw[this]at hl;simp at hl
    have hl2:decide ((ts.length:Int)=1)=false:=cp;repeat' (first
     |(apply zcP ?_;clear hK K)|apply Rx.o ?_|apply bE ?_|(apply bW (fun A I=>?_) (fun A I=>?_)<;>try(cases A;done))|(apply aU (fun z V=>?_) (fun z V=>?_)<;>try(cases z;done))|apply ak ?_|(apply zcQ fun K hK=>?_)|apply ax ?_|apply zcR ?_|apply am ?_)
    all_goals (refine⟨zcT,_,zcU,?_⟩;try simp only[zcS])
    exact⟨Cv,U⟩
end
section
def tyW4k.tyF:=ad @b7 (ad @dz (ad @jZ (ad @cP (ad @iH (@gC)))))
open tyW4k
noncomputable def Jg:{c:SC // aB 23 (Tryz.f171.body.getD .skip)=c}:=by
 refine⟨?_,?_⟩;rotate_left
 .simp only[Tryz.f171,a8,aB,zda,zc9,zdc,zdd,Nat.blt,Nat.ble];rfl
noncomputable def Jh:{c:SC // aB 27 (Tryz.f197.body.getD .skip)=c}:=by
 refine⟨?_,?_⟩;rotate_left
 .simp only[Tryz.f197,a8,aB,zda,zc9,zdc,zdd,Nat.blt,Nat.ble];rfl
noncomputable def yB:{c:SC // aB 10 (Tryz.f173.body.getD .skip)=c}:=by
 refine⟨?_,?_⟩;rotate_left
 .simp only[Tryz.f173,a8,aB,zda,zc9,zdc,zdd,Nat.blt,Nat.ble];rfl
def pp(k L:Int):Bool:=if k=20\/k=21 then decide (L=1)else decide (4<=k)&&decide (k<=18)&&decide (L=2)
theorem ZM{cfg:Cfg}(J:Plain cfg 171)(k L:Int)(H:Hp):
 zc2 Tryz.prog cfg 171 [.int .i64 k,.int .i64 L] H fun v H'=>v=.bool (pp k L)/\H'=H:=by
 refine zf (M:=23) (rs:=[.tmp 4]) (J.call _) J.ice J.froz Tryz.func171 rfl rfl Jg.2 rfl ?_;dsimp only[Jg,zcX,Nat.reduceAdd];repeat' (first
  |(apply zcP ?_;clear hK K)|apply Rx.o ?_|(apply bW (fun A I=>?_) (fun A I=>?_)<;>try(cases A;done))|(apply aU (fun z V=>?_) (fun z V=>?_)<;>try(cases z;done))|apply ak ?_|(apply zcQ fun K hK=>?_)|apply zcR ?_|apply am ?_)
 all_goals
  all_goals (refine⟨zcT,_,zcU,?_⟩;try simp only[zcS])
 all_goals (refine⟨?_,iO⟩;simp_all[pp]<;>omega)
theorem ZN{cfg:Cfg}(J:Plain cfg 197)(x:Ex)(H:Hp):
 zc2 Tryz.prog cfg 197 [.agg x.cells] H fun v H'=>v=.bool (zeroE x)/\FrB 0 H H':=by
 refine zf (M:=27) (rs:=[.tmp 2]) (J.call _) J.ice J.froz Tryz.func197 rfl rfl Jh.2 rfl ?_;dsimp only[Jh,zcX,Nat.reduceAdd];repeat' (first
  |(apply zcP ?_;clear hK K)|apply Rx.o ?_|(apply bW (fun A I=>?_) (fun A I=>?_)<;>try(cases A;done))|apply ak ?_|(apply zcQ fun K hK=>?_)|apply am ?_)
 all_goals
  all_goals (refine⟨zcT,_,zcU,?_⟩;try simp only[zcS])
 all_goals (refine⟨?_,(fY _ _).alloc _⟩;simp_all[zeroE])
def ko(s:List UInt8)(U:Bool):Bool:=if U then zdC s else decide (s=[])
theorem ZO{cfg:Cfg}(F:Lexers cfg)(L:Plain cfg 127)(J:Plain cfg 173)(s:List UInt8)(U:Bool)(Y:s.length<2^60)(H:Hp):
 zc2 Tryz.prog cfg 173 [.str s,.bool U] H fun v H'=>v=.bool (ko s U)/\FrB 0 H H':=by
 cases U
 .refine zf (M:=10) (rs:=[.tmp 4]) (J.call _) J.ice J.froz Tryz.func173 rfl rfl yB.2 rfl ?_;dsimp only[yB,zcX,Nat.reduceAdd];repeat' (first
   |(apply zcP ?_;clear hK K)|apply Rx.o ?_|(apply aU (fun z V=>?_) (fun z V=>?_)<;>try(cases z;done))|apply ak ?_|(apply zcQ fun K hK=>?_)|apply zcR ?_|apply am ?_)
  all_goals (refine⟨zcT,_,zcU,?_⟩;try simp only[zcS])
  exact⟨by simp[ko],fY _ _⟩
 .refine zf (M:=10) (rs:=[.tmp 4]) (J.call _) J.ice J.froz Tryz.func173 rfl rfl yB.2 rfl ?_;dsimp only[yB,zcX,Nat.reduceAdd];repeat' (first
   |(apply zcP ?_;clear hK K)|apply Rx.o ?_|(apply aU (fun z V=>?_) (fun z V=>?_)<;>try(cases z;done))|apply ak ?_|(apply zcQ fun K hK=>?_)|apply zcR ?_|apply am ?_)
  refine a4 rfl a6 a7 ?_;simp only[cG];refine aZ ?_ (CA F L s Y H);rintro v W ⟨rfl,Z⟩;dsimp only[zc5];repeat' (first
   |(apply zcP ?_;clear hK K)|apply Rx.o ?_|(apply aU (fun z V=>?_) (fun z V=>?_)<;>try(cases z;done))|apply ak ?_|(apply zcQ fun K hK=>?_)|apply zcR ?_|apply am ?_)
  all_goals (refine⟨zcT,_,zcU,?_⟩;try simp only[zcS])
  exact⟨by simp[ko],Z⟩
theorem ZP{cfg:Cfg}(F:Lexers cfg)(L:Plain cfg 127)(J:Plain cfg 128)(l:List (List UInt8))(m:zeJ l<2^60)(H:Hp):
 zc2 Tryz.prog cfg 128 [zd7 l] H fun v H'=>v=.bool (l.all zdC)/\FrB 0 H H':=by
 have hl:l.length<2^60:=by have:=si l;omega
 refine zf (M:=15) (rs:=[.tmp 2]) (J.call _) J.ice J.froz Tryz.func128 rfl rfl Jf.2 rfl ?_;dsimp only[Jf,zcX,Nat.reduceAdd];repeat' (first
  |(apply zcP ?_;clear hK K)|apply Rx.o ?_|(apply aU (fun z V=>?_) (fun z V=>?_)<;>try(cases z;done))|apply ak ?_|(apply zcQ fun K hK=>?_)|apply ax ?_|apply zcR ?_|apply am ?_|apply zc4 ?_)
 refine lV (fun i E W=>l.all zdC=(l.drop i).all zdC/\E.at 5=.lst (l.map fun s=>[.str s])/\E.at 6=.int .i64 l.length/\E.at 7=.int .i64 i/\FrB 0 H W) l.length ?_ ?_
 .rintro i E W I ⟨hc,j,g,h7,Y⟩;repeat' (first
   |(apply zcP ?_;clear hK K)|apply Rx.o ?_|(apply aU (fun z V=>?_) (fun z V=>?_)<;>try(cases z;done))|apply ak ?_|(apply zcQ fun K hK=>?_)|apply ax ?_|apply zcR ?_|apply am ?_|apply zc4 ?_)
  .have Z:i<l.length:=by simpa using z
   have C:l[i]?=some l[i]:=aO Z;have o:=EI (dx Z);have U:(l.drop i).all zdC=(zdC l[i]&&(l.drop (i+1)).all zdC):=by rw[eJ Z,mV]
   repeat' (first
    |(apply zcP ?_;clear hK K)|apply Rx.o ?_|(apply aU (fun z V=>?_) (fun z V=>?_)<;>try(cases z;done))|apply ak ?_|(apply zcQ fun K hK=>?_)|apply ax ?_|apply zcR ?_|apply am ?_|apply zc4 ?_)
   refine a4 rfl a6 a7 ?_;simp only[cG];refine aZ ?_ (CA F L l[i] ac W);rintro v H3 ⟨rfl,A⟩;dsimp only[zc5];repeat' (first
    |(apply zcP ?_;clear hK K)|apply Rx.o ?_|(apply aU (fun z V=>?_) (fun z V=>?_)<;>try(cases z;done))|apply ak ?_|(apply zcQ fun K hK=>?_)|apply ax ?_|apply zcR ?_|apply am ?_|apply zc4 ?_)
   .all_goals (refine⟨zcT,_,zcU,?_⟩;try simp only[zcS])
    exact⟨by rw[hc,U];simp_all,Y.trans A⟩
   .refine⟨Z,by rw[hc,U];simp_all,eE,eE,?_,Y.trans A⟩;simp only[gN,Nat.reduceBEq,f8,ze6 (show i<2^62 by omega)]
  .all_goals (refine⟨zcT,_,zcU,?_⟩;try simp only[zcS])
   have O:i=l.length:=rj;exact⟨by rw[hc,O];simp,Y⟩
 .exact⟨aE,eE,eE,eE,fY _ _⟩
end
section
def tyP4a.tyF:=ad @cP (ad @b7 (ad @dz (ad @iH (ad @gC (ad @lw (@FF))))))
open tyP4a
noncomputable def Ji:{c:SC // aB 27 (Tryz.f172.body.getD .skip)=c}:=by
 refine⟨?_,?_⟩;rotate_left
 .simp only[Tryz.f172,a8,aB,zda,zc9,zdc,zdd,Nat.blt,Nat.ble];rfl
noncomputable def Jj:{c:SC // aB 87 (Tryz.f130.body.getD .skip)=c}:=by
 refine⟨?_,?_⟩;rotate_left
 .simp only[Tryz.f130,a8,aB,zda,zc9,zdc,zdd,Nat.blt,Nat.ble];rfl
noncomputable def yC:{c:SC // aB 10 (Tryz.f174.body.getD .skip)=c}:=by
 refine⟨?_,?_⟩;rotate_left
 .simp only[Tryz.f174,a8,aB,zda,zc9,zdc,zdd,Nat.blt,Nat.ble];rfl
theorem ZQ{l:List En}(h:∀f,f∈[209,206,204,195,207,205,196,170]->(∀args,zdS l f args=none)/\iF l f=false):Lexers (zcW pls l) where
 let_:=zdO (h _ aE).1 (h _ aE).2
 dig:=zdO (h _ aE).1 (h _ aE).2
 word:=zdO (h _ aE).1 (h _ aE).2
 space:=zdO (h _ aE).1 (h _ aE).2
 num:=zdO (h _ aE).1 (h _ aE).2
 sym:=zdO (h _ aE).1 (h _ aE).2
 first:=zdO (h _ aE).1 (h _ aE).2
 scan:=zdO (h _ aE).1 (h _ aE).2
 plan _:=by first|rfl|kernel_rfl
 keep:=rfl
theorem CB:Lexers (zcW pls []):=ZQ fun f _=>⟨fun _=>rfl,rfl⟩
theorem ZR(ρ:Nat->Int)(s:List UInt8)(K:s.length<2^60):bh Tryz.prog ρ 127 [.str s] (.bool (zdC s)):=
 zdZ fit (pls:=pls) (l:=[]) trivial (.cons (.str _) .nil) (.bool _) (aZ (fun v H h=>h.1) (CA CB (zed _) s K zdw))
theorem ZS(ρ:Nat->Int)(x:Int×Nat):bh Tryz.prog ρ 171 [.int .i64 x.1,.int .i64 x.2] (.bool (pp x.1 x.2)):=
 zdZ fit (pls:=pls) (l:=[]) trivial (.cons (.int _ _) (.cons (.int _ _) .nil)) (.bool _) (aZ (fun v H h=>h.1) (ZM (zed _) x.1 x.2 zdw))
theorem ZT(ρ:Nat->Int)(x:Ex):bh Tryz.prog ρ 197 [.agg x.cells] (.bool (zeroE x)):=
 zdZ fit (pls:=pls) (l:=[]) trivial (.cons (.agg x.pure) .nil) (.bool _) (aZ (fun v H h=>h.1) (ZN (zed _) x zdw))
theorem ZU(ρ:Nat->Int)(l:List (List UInt8))(I:zeJ l<2^60):bh Tryz.prog ρ 128 [zd7 l] (.bool (l.all zdC)):=
 zdZ fit (pls:=pls) (l:=[]) trivial (.cons (uG _) .nil) (.bool _) (aZ (fun v H h=>h.1) (ZP CB (zed _) (zed _) l I zdw))
theorem ZV(ρ:Nat->Int)(s:List UInt8)(w:Bool)(K:s.length<2^60):bh Tryz.prog ρ 173 [.str s,.bool w] (.bool (ko s w)):=
 zdZ fit (pls:=pls) (l:=[]) trivial (.cons (.str _) (.cons (.bool _) .nil)) (.bool _) (aZ (fun v H h=>h.1) (ZO CB (zed _) (zed _) s w K zdw))
def rB(k:Int):List Bool:=
 if k=1 then [true,false,false,false,true,false,false,false]
 else if k=2 then [true,false,false,true,true,false,false,false]
 else if k=3 then [false,false,false,false,true,false,true,true]
 else if k=4 then [false,false,false,false,true,false,true,false]
 else if k=5 then [false,false,false,false,true,false,false,false]
 else if k=6 then [true,true,false,false,false,true,false,false]
 else if k=7 then [false,false,true,false,false,false,false,false]
 else [false,false,false,false,false,false,false,false]
def iP(k:Int):Bool:=decide (1<=k)&&decide (k<=7)
def tm(k:Int):AV:=.tup [.agg ((rB k).map .bool),.bool (iP k)]
theorem ZW(a b c d e f g h:AV):zdA 8 [a,b,c,d,e,f,g,h]=some (.agg [a,b,c,d,e,f,g,h]):=rfl
theorem ZX(ρ:Nat->Int)(k:Int):bh Tryz.prog ρ 172 [.int .i64 k] (tm k):=zdZ fit (pls:=pls) (l:=[]) trivial (.cons (.int _ _) .nil) (.tup (.cons (.agg fun v L=>by
 obtain⟨b,_,rfl⟩:=mE.1 L;exact .bool b) (.cons (.bool _) .nil))) (by
 have J:=zed 172;have A:zeb Tryz.prog 225 [(0,.bool true),(4,.bool true)]=some (.agg [.bool true,.bool false,.bool false,.bool false,.bool true,.bool false,.bool false,.bool false]):=af;have C:zeb Tryz.prog 225 [(0,.bool true),(3,.bool true),(4,.bool true)]=some (.agg [.bool true,.bool false,.bool false,.bool true,.bool true,.bool false,.bool false,.bool false]):=af;have Z:zeb Tryz.prog 225 [(4,.bool true),(6,.bool true),(7,.bool true)]=some (.agg [.bool false,.bool false,.bool false,.bool false,.bool true,.bool false,.bool true,.bool true]):=af;have Y:zeb Tryz.prog 225 [(4,.bool true),(6,.bool true)]=some (.agg [.bool false,.bool false,.bool false,.bool false,.bool true,.bool false,.bool true,.bool false]):=af;have W:zeb Tryz.prog 225 [(4,.bool true)]=some (.agg [.bool false,.bool false,.bool false,.bool false,.bool true,.bool false,.bool false,.bool false]):=af;have F:zeb Tryz.prog 225 [(0,.bool true),(1,.bool true),(5,.bool true)]=some (.agg [.bool true,.bool true,.bool false,.bool false,.bool false,.bool true,.bool false,.bool false]):=af;have I:zeb Tryz.prog 225 [(2,.bool true)]=some (.agg [.bool false,.bool false,.bool true,.bool false,.bool false,.bool false,.bool false,.bool false]):=af;have U:zeb Tryz.prog 225 []=some (.agg [.bool false,.bool false,.bool false,.bool false,.bool false,.bool false,.bool false,.bool false]):=af;refine zf (M:=27) (rs:=[.cell 2 225,.tmp 3]) (J.call _) J.ice J.froz Tryz.func172 rfl rfl Ji.2 rfl ?_;dsimp only[Ji,zcX,Nat.reduceAdd];repeat' (first
  |(apply zcP ?_;clear hK K)|apply Rx.o ?_|apply bE ?_|(apply aU (fun z V=>?_) (fun z V=>?_)<;>try(cases z;done))|apply ak ?_|(apply zcQ fun K hK=>?_)|apply ax ?_|apply zcR ?_|apply am ?_)
 all_goals
  refine⟨zcT,_,(by(try simp only[zc3,zde,Nat.reduceBEq,Nat.reduceAdd,Nat.reduceLeDiff,tyF,zet,zeC,ZW, *]);first|done|with_reducible rfl),?_⟩;try simp only[zcS]
 all_goals
  first
  |(simp_all[tm,rB,iP];done)
  |(have o:iP k=false:=by
     simp only[iP,oW,jG];omega
    simp_all[tm,rB];done))
theorem ZY(k:Int)(n:Nat):pp k n=((decide ((n:Int)=2)&&Bp k)||(decide ((n:Int)=1)&&(decide (k=20)||decide (k=21)))):=by
 unfold pp Bp;by_cases h:k=20\/k=21
 .rw[ay h];rcases h with rfl|rfl<;>simp
 .rw[ah h];have i:¬k=20:=fun e=>h (.inl e);have g:¬k=21:=fun e=>h (.inr e);simp only[i,g,gl,jH,o7];cases decide (4<=k)<;>cases decide (k<=18)<;>cases decide ((n:Int)=2)<;>rfl
noncomputable def vq:En:=⟨127,false,b0 (fun s=>s.length<2^60) kL fun s=>.bool (zdC s)⟩
theorem Jk(ρ:Nat->Int):zdF Tryz.prog ρ vq:=zdM fun x F=>ZR ρ x F
def vr(x:Int×Nat):List AV:=[.int .i64 x.1,.int .i64 x.2]
theorem ZZ(x y:Int×Nat)(h:vr x=vr y):x=y:=by
 simp only[vr,cS,AV.int.injEq,a1,fM]at h;exact j3 h.1 ac
noncomputable def vt:En:=⟨171,false,b0 (fun _=>True) vr fun x=>.bool (pp x.1 x.2)⟩
theorem Jl(ρ:Nat->Int):zdF Tryz.prog ρ vt:=zdM fun x _=>ZS ρ x
noncomputable def Jm:En:=⟨197,false,b0 (fun _=>True) u0 fun x=>.bool (zeroE x)⟩
theorem Z0(ρ:Nat->Int):zdF Tryz.prog ρ Jm:=zdM fun x _=>ZT ρ x
theorem Z1{l:List En}(L:∀z,zdS l 127 z=vq.sp z)(U:∀z,zdS l 171 z=vt.sp z)(Y:(∀z,zdS l 130 z=none)/\iF l 130=false){base:Nat}{I:Hp->Prop}(O:po base I):
 ti (zcW pls l) base I 130 [] fun x _=>tc x:=by
 intro x d H g C F;have J:Plain (zcW pls l) 130:=zdO Y.1 Y.2;have o:∀s:List UInt8,s.length<2^60->∀H,zc2 Tryz.prog (zcW pls l) 127 [.str s] H fun v H'=>v=.bool (zdC s)/\H'=H:=fun s i H=>zdW (enc:=kL) (out:=fun x=>.bool (zdC x)) sL (x:=s) (L _) i;have m:∀(k:Int) (n:Nat),∀H,zc2 Tryz.prog (zcW pls l) 171 [.int .i64 k,.int .i64 n] H fun v H'=>v=.bool (pp k n)/\H'=H:=fun k n H=>zdW (enc:=vr) (out:=fun x=>.bool (pp x.1 x.2)) ZZ (x:=(k,n)) (U _) trivial;have j:=x.sz_eq;refine zf (M:=87) (rs:=[.tmp 4]) (J.call _) J.ice J.froz Tryz.func130 rfl rfl Jj.2 rfl ?_;dsimp only[Jj,zcX,Nat.reduceAdd];repeat' (first
  |(apply zcP ?_;clear hK K)|apply Rx.o ?_|(apply i5 ?_;first|refine Rx.k (o _ ac _) ?_|refine Rx.k (m _ _ _) ?_)|(apply bW (fun A Z=>?_) (fun A Z=>?_)<;>try(cases A;done))|(apply aU (fun W V=>?_) (fun W V=>?_)<;>try(cases W;done))|apply ak ?_|(apply zcQ fun K hK=>?_)|apply ax ?_|apply zcR ?_|apply am ?_)
 all_goals
  all_goals (refine⟨zcT,_,zcU,?_⟩;try simp only[zcS])
  refine⟨?_,(fY _ _).alloc _,O _ _ F ((lW _ _).alloc C _)⟩;rw[tc];(try rw[ZY]);(try simp only[ff]at *);simp only[ *,j9,bS,cb,Int.reduceEq]
end
end Go.Proofs.YtljebeflbbgibaaGreat
