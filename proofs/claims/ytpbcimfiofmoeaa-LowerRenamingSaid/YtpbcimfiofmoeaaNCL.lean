/- Parts: W4d, P4f, P4g, W4e, W4f, W4g, W4h, W4i, W4j, W4k, P4a. -/
import Derived.Test.YtpbcimfiofmoeaaNCK
set_option linter.unusedSimpArgs false
set_option linter.unusedVariables false
set_option linter.unusedSectionVars false
set_option linter.defProp false
set_option maxHeartbeats 32000000
namespace Go.Ab
set_option maxRecDepth 20000
open Go
theorem Je{P:Prop}(h:P:=by rw[List.drop_eq_getElem_cons Y,List.all_cons]):P:=h
theorem Jf{P:Prop}(h:P:=by rw[<- V];simp only[get_set,sd,zbb,zbl,BO,Fz,Nat.add_assoc,Nat.reduceAdd,beq_self_eq_true,cond_true,cond_false,Nat.reduceBEq]):P:=h
theorem Jg{P:Prop}(h:P:=by have:=h.2.1;have:=h.2.2.1;simp only[List.drop_zero];omega):P:=h
theorem Da{P:Prop}(h:P:=by simp only[zb6,i,Bool.false_and]):P:=h
theorem Db{P:Prop}(h:P:=by rw[List.drop_eq_getElem_cons Z,List.all_cons]):P:=h
def wr:=@Bool.and_eq_false_iff
end Go.Ab
namespace Go.Proofs.Ytpbcimfiofmoeaa
set_option maxRecDepth 20000
open Go Go.Ab
section
def tyW4d.tyF:=ad @eJ (ad @cQ (ad @cW (ad @gJ (ad @eK (ad @eA (ad @dX (ad @lA (ad @fj (@FY)))))))))
open tyW4d
structure Plains (cfg:Cfg):Prop where
 we:Plain cfg 78
 ws:Plain cfg 72
 wx:Plain cfg 74
 wx1:Plain cfg 111
theorem Jh{cfg:Cfg}(Y:Plains cfg){base:Nat}{I:Hp->Prop}(j:rp base I){g:FuncId}{cap:List AV}{q:Ex->Int->Bool}(hq:t4 cfg base I g cap q)(x:Fu)(H:Hp)(hz:x.sz<2^60)(o:base<=H.next)(hi:I H):
 za9 Try.prog cfg 74 [.agg x.cells,.clo g cap] H fun v H'=>v=.bool (ng q x)/\FrB base H H'/\I H':=by
 have hw:=Y.wx;have hsz:x.sz=1+x.name.length+zco x.params+zco x.locals+zbC x.body+x.value.sz:=rfl;refine zbs (M:=15) (rs:=[.tmp 4]) (hw.call _) hw.ice hw.froz Try.func74 rfl rfl Jd.2 rfl ?_;dsimp only[Jd,zbj,Nat.reduceAdd];repeat' (first
  |(apply ai ?_;clear hK K)|apply Rx.o ?_|apply aq ?_|(apply zaW fun K hK=>?_)|fail)
 generalize V:(H.alloc (.cells x.cells 0 true)).alloc (.cells [.clo g cap] 0 true)=H1;have C:FrB base H H1:=by rw[<-V];exact((gW _ _).alloc _).alloc _
 have hl1:gw base H H1:=by rw[<-V];exact((nY _ _).alloc o _).alloc eU _
 have hn1:H1.next=H.next+2:=by rw[<-V];rfl
 have hga:H1.get H.next=some (.cells x.cells 0 true):=by rw[<-V,zaY,af (by simp[zbb]),zaY,aj rfl]
 have hgb:H1.get (H.next+1)=some (.cells [.clo g cap] 0 true):=by rw[<-V,zaY,aj (by simp[zbb])]
 refine aK rfl aL aM ?_;simp only[aR];refine aI ?_ (t6 Y.we j hq (x.value.sz+1) x.value ac 0 H1 ac ac (j _ _ hi hl1));rintro v m ⟨rfl,O,U⟩;have hn2:=O.next
 have hga2:m.get H.next=some (.cells x.cells 0 true):=by rw[O.get _ o ac];exact hga
 have z:m.get (H.next+1)=some (.cells [.clo g cap] 0 true):=by rw[O.get _ ac ac];exact hgb
 dsimp only[za1];repeat' (first
  |(apply ai ?_;clear hK K)|apply Rx.o ?_|(apply da (fun hg i=>?_) (fun hg i=>?_)<;>try(cases hg;done))|apply aN ?_)
 .refine aK rfl aL aM ?_;simp only[aR];refine aI ?_ (t7 Y.ws (base:=H.next+2) (I:=fun(_:Unit) H'=>I H'/\H'.get (H.next+1)=some (.cells [.clo g cap] 0 true)/\∀r,base<=r->r<H.next+2->H'.get r=m.get r) ?_ (Xn Y.wx1 Y.we ac j hq ac ac m) (zbC x.body+1) x.body ac 0 () m ac ac ⟨U,z,fun _ _ _=>rfl⟩)
  .rintro v H3 ⟨rfl,L,hi3,hg3,J⟩;have hF3:FrB base m H3:=⟨L.next,fun r h1 h2=>by
    by_cases hr:r<H.next+2
    .exact J r h1 hr
    .exact L.get r ac h2⟩
   dsimp only[za1];repeat' (first
    |(apply ai ?_;clear hK K)|apply Rx.o ?_|apply aN ?_)
   all_goals (refine⟨za2,_,za7,?_⟩;try simp only[za0])
   exact⟨by simp_all[ng],(C.trans O).trans hF3,hi3⟩
  .intro _ Ha Hb ⟨h1,h2,h3⟩ Z;exact⟨j _ _ h1 (Z.weak ac),by rw[Z _ ac];exact h2,fun r q1 q2=>by rw[Z _ q2];exact h3 r q1 q2⟩
 .all_goals (refine⟨za2,_,za7,?_⟩;try simp only[za0])
  exact⟨by simp_all[ng],C.trans O,U⟩
end
section
def tyP4f.tyF:=ad @cQ (ad @cW (ad @gJ (ad @B6 (ad @B7 (ad @eJ (ad @eA (ad @dX (ad @sm (ad @eK (ad @fj (@ml)))))))))))
open tyP4f
noncomputable def Ji:{c:SC // aD 26 (Try.f83.body.getD .skip)=c}:=by
 refine⟨?_,?_⟩;rotate_left
 .simp only[Try.f83,bP,aD,zby,zbt,zbA,zbB,Nat.blt,Nat.ble];rfl
noncomputable def Jj:{c:SC // aD 27 (Try.f84.body.getD .skip)=c}:=by
 refine⟨?_,?_⟩;rotate_left
 .simp only[Try.f84,bP,aD,zby,zbt,zbA,zbB,Nat.blt,Nat.ble];rfl
noncomputable def Jk:{c:SC // aD 49 (Try.f85.body.getD .skip)=c}:=by
 refine⟨?_,?_⟩;rotate_left
 .simp only[Try.f85,bP,aD,zby,zbt,zbA,zbB,Nat.blt,Nat.ble];rfl
theorem Xo(l:List (List UInt8))(a s:List UInt8):zbx (rb l a) s=(zbx l s||zbx [a] s):=by
 unfold rb;split
 .rename_i h;rw[p7];by_cases e:s=a
  .rw[e,h];rfl
  .rw[mp e,kS]
 .rw[zdE]
theorem Jl{cfg:Cfg}(hw:Plain cfg 83){H:Hp}{r imm:Nat}{x:List (List (List UInt8))}(hg:H.get r=some (.cells (x.map zbP) imm true))(hr:r<H.next)(hx:yW x):
 za9 Try.prog cfg 83 [.sl r 0 x.length 1] H fun v H'=>v=.map H.next/\(∃l,H'.get H.next=some (.map (ft l))/\∀s,zbx l s=zbx x.flatten s)/\(∀k,k<H.next->H'.get k=H.get k)/\H.next<H'.next:=by
 obtain⟨hx1,hx2⟩:=hx;have hnm:=FC;refine zbs (M:=26) (rs:=[.tmp 2]) (hw.call _) hw.ice hw.froz Try.func83 rfl rfl Ji.2 rfl ?_;dsimp only[Ji,zbj,Nat.reduceAdd];repeat' (first
  |(apply ai ?_;clear hK K)|apply Rx.o ?_|apply aq ?_|(apply zaW fun K hK=>?_)|apply aO ?_|fail)
 refine zcj [2,3,9,10] [] 11 x.length (fun i E H2=>(∃l,H2.get H.next=some (.map (ft l))/\∀s,zbx l s=zbx (x.take i).flatten s)/\∀k,k<H.next->H2.get k=H.get k) eE ⟨⟨[],tN,fun s=>rfl⟩,fun k hk=>fS⟩ ?_;rintro i E H2 hi g V U hsI ⟨⟨l,O,L⟩,o⟩;(try simp only[zbR,zbq,br,za4,zbg,Nat.reduceBEq, *]at g);(try simp only[zbq,zbg, *]at V);(try simp only[zbb,]at U);repeat' (first
  |(apply ai ?_;clear hK K)|apply Rx.o ?_|(apply bu (fun Y z=>?_) (fun Y z=>?_)<;>try(cases Y;done))|apply aq ?_|(apply zaW fun K hK=>?_)|apply aO ?_|apply za8 ?_|apply aN ?_|apply zbW ?_)
 .have J:i<x.length:=by simpa using Y
  have hgx:x[i]?=some x[i]:=aY J;have hsm:=hx2 _ (dW J);have hg2:H2.get r=some (.cells (x.map zbP) imm true):=by rw[o r hr];exact hg
  have htk:(x.take (i+1)).flatten=(x.take i).flatten++x[i]:=by rw[kI,hgx,List.flatten_append];simp
  generalize x[i]=Z at *;repeat' (first
   |(apply ai ?_;clear hK K)|apply Ry.o ?_|apply aq ?_|(apply zaW fun K hK=>?_)|apply aO ?_|fail)
  refine zcj [2,3,9,10,11,15,16] [] 17 Z.length (fun j E H3=>(∃l,H3.get H.next=some (.map (ft l))/\∀s,zbx l s=zbx ((x.take i).flatten++Z.take j) s)/\∀k,k<H.next->H3.get k=H.get k) eE ⟨⟨l,O,fun s=>by rw[L,zC,aR]⟩,o⟩ ?_;clear O L l o hg2;rintro j E3 H3 hj g V U hsI ⟨⟨l,O,L⟩,o⟩;(try simp only[zbR,zbq,br,za4,zbg,Nat.reduceBEq, *]at g);(try simp only[zbq, *]at V);(try simp only[zbb,zbl,zb4,b4,Nat.reduceAdd]at U);repeat' (first
   |(apply ai ?_;clear hK K)|apply Rx.o ?_|(apply bu (fun Y z=>?_) (fun Y z=>?_)<;>try(cases Y;done))|apply aq ?_|(apply zaW fun K hK=>?_)|apply aO ?_|apply za8 ?_|apply zbW ?_)
  .have I:j<Z.length:=by simpa using Y
   have C:Z[j]?=some Z[j]:=aY I;have hup:=HF O Z[j];have m:Z.take (j+1)=Z.take j++[Z[j]]:=by rw[kI,C];rfl
   repeat' (first
    |(apply ai ?_;clear hK K)|apply Rx.o ?_|apply bN ?_|(apply zaW fun K hK=>?_)|fail)
   refine⟨ac,zbw,zbw,eN,CE,?_⟩;refine⟨⟨rb l Z[j],CF,fun s=>?_⟩,fun k hk=>by rw[aC,af ac];exact o k hk⟩;rw[Xo,L,m,<-mU,zdE ((x.take i).flatten++Z.take j)]
  .have hje:j=Z.length:=by simp at Y;omega
   repeat' (first
    |(apply ai ?_;clear hK K)|fail)
   refine⟨ac,zbw,zbw,eN,Hw,?_⟩;exact⟨⟨l,O,fun s=>by rw[L,htk,hje,xy]⟩,o⟩
 .repeat' (first
   |(apply ai ?_;clear hK K)|fail)
  all_goals (refine⟨za2,_,za7,?_⟩;try simp only[za0])
  have hie:i=x.length:=by simp at Y;omega
  refine⟨trivial,⟨l,O,fun s=>by rw[L,hie,xy]⟩,o,ac⟩
structure Rs where
 r12:Nat
 mv:Nat
 r5:Nat
 ma:Nat
 r6:Nat
 mf:Nat
 r9:Nat
structure RsOk (X:Rs) (vs an:List (List UInt8)) (fm:List (za5×Int)) (H:Hp):Prop where
 b12:H.get X.r12=some (.cells [.map X.mv] 0 true)
 bv:∃l,H.get X.mv=some (.map (ft l))/\∀s,zbx l s=zbx vs s
 b5:H.get X.r5=some (.cells [.map X.ma] 0 true)
 ba:∃l,H.get X.ma=some (.map (ft l))/\∀s,zbx l s=zbx an s
 b6:H.get X.r6=some (.cells [.map X.mf] 0 true)
 bf:H.get X.mf=some (.map (cE fm))
structure RsLt (X:Rs) (n:Nat):Prop where
 l12:X.r12<n
 lv:X.mv<n
 l5:X.r5<n
 la:X.ma<n
 l6:X.r6<n
 lf:X.mf<n
structure RsNe (X:Rs):Prop where
 l12:X.r12≠X.r9
 lv:X.mv≠X.r9
 l5:X.r5≠X.r9
 la:X.ma≠X.r9
 l6:X.r6≠X.r9
 lf:X.mf≠X.r9
theorem RsOk.keep{X:Rs}{vs an:List (List UInt8)}{I:List (za5×Int)}{H H':Hp}(h:RsOk X vs an I H)(J:H'.get X.r12=H.get X.r12)(M:H'.get X.mv=H.get X.mv)(o:H'.get X.r5=H.get X.r5)(O:H'.get X.ma=H.get X.ma)(U:H'.get X.r6=H.get X.r6)(Z:H'.get X.mf=H.get X.mf):RsOk X vs an I H' where
 b12:=by rw[J];exact h.b12
 bv:=by rw[M];exact h.bv
 b5:=by rw[o];exact h.b5
 ba:=by rw[O];exact h.ba
 b6:=by rw[U];exact h.b6
 bf:=by rw[Z];exact h.bf
theorem RsOk.low{X:Rs}{vs an:List (List UInt8)}{I:List (za5×Int)}{H H':Hp}{n:Nat}(h:RsOk X vs an I H)(K:RsLt X n)(k:gw n H H'):RsOk X vs an I H':=
 h.keep (k _ K.l12) (k _ K.lv) (k _ K.l5) (k _ K.la) (k _ K.l6) (k _ K.lf)
theorem Xp{cfg:Cfg}(O:Plain cfg 84){X:Rs}{vs an:List (List UInt8)}{fm:List (za5×Int)}{base:Nat}(U:RsLt X base){I:Hp->Prop}(hI:rp base I)(hR:∀H,I H->RsOk X vs an fm H):
 t4 cfg base I 84 [.ptr X.r12 0,.ptr X.r5 0] fun x _=>fD vs an x:=by
 intro x d H hz o m;obtain⟨J,⟨lv,z,Z⟩,j,⟨la,V,Y⟩,h6,hf⟩:=hR H m;have l12:=U.l12;have llv:=U.lv;have l5:=U.l5;have lla:=U.la;have g12:(H.alloc (.cells x.cells 0 true)).get X.r12=some (.cells [.map X.mv] 0 true):=by rw[zaY,af ac];exact J
 have g5:(H.alloc (.cells x.cells 0 true)).get X.r5=some (.cells [.map X.ma] 0 true):=by rw[zaY,af ac];exact j
 have i:(H.alloc (.cells x.cells 0 true)).get X.mv=some (.map (ft lv)):=by rw[zaY,af ac];exact z
 have g:(H.alloc (.cells x.cells 0 true)).get X.ma=some (.map (ft la)):=by rw[zaY,af ac];exact V
 have kv:=tP i x.name;have ka:=tP g x.name;rw[Z]at kv;rw[Y]at ka;clear J j z V i g Z Y hf h6;have e12:(X.r12 == H.next)=false:=zbn ac;have e5:(X.r5 == H.next)=false:=zbn ac;simp only[];refine zbs (M:=27) (rs:=[.tmp 6]) (O.call _) O.ice O.froz Try.func84 rfl rfl Jj.2 rfl ?_;dsimp only[Jj,zbj,Nat.reduceAdd];repeat' (first
  |(apply ai ?_;clear hK K)|apply Rx.o ?_|apply Rx.gu ?_|(apply da (fun C L=>?_) (fun C L=>?_)<;>try(cases C;done))|apply aq ?_|(apply zaW fun K hK=>?_)|apply aN ?_)
 all_goals
  all_goals (refine⟨za2,_,za7,?_⟩;try simp only[za0])
  refine⟨?_,(gW _ _).alloc _,hI _ _ m ((nY _ _).alloc o _)⟩;rw[fD];(try simp only[kW]at *);simp only[*,jv,kS,nQ,vQ,gX,fI,gm,mc,lw,]
theorem Jm:lc Try.prog 9=some .string:=ah
def zdF(w:Bool):Int:=if w=true then 5 else 0
theorem Xq{cfg:Cfg}(hw:Plain cfg 85){X:Rs}{vs an:List (List UInt8)}{I:List (za5×Int)}{base:Nat}(Y:RsLt X base)(h9:X.r9<base)(L:RsNe X):
 wq cfg base (fun(w:Bool) H=>RsOk X vs an I H/\H.get X.r9=some (.cells [.int .i64 (zdF w)] 0 true)) 85 [.ptr X.r12 0,.ptr X.r5 0,.ptr X.r6 0,.ptr X.r9 0] (lI I vs an):=by
 intro x d w H hz o hi;obtain⟨i,C⟩:=hi;have U:=i;obtain⟨z,⟨lv,j,g⟩,h5,⟨la,ha1,ha2⟩,h6,hf⟩:=i;have l12:=Y.l12;have llv:=Y.lv;have l5:=Y.l5;have lla:=Y.la;have l6:=Y.l6;have llf:=Y.lf;have O:gw base H (H.alloc (.cells x.cells 0 true)):=(nY _ _).alloc o _;have g12:(H.alloc (.cells x.cells 0 true)).get X.r12=some (.cells [.map X.mv] 0 true):=by rw[O _ l12];exact z
 have g5:(H.alloc (.cells x.cells 0 true)).get X.r5=some (.cells [.map X.ma] 0 true):=by rw[O _ l5];exact h5
 have g6:(H.alloc (.cells x.cells 0 true)).get X.r6=some (.cells [.map X.mf] 0 true):=by rw[O _ l6];exact h6
 have g9:(H.alloc (.cells x.cells 0 true)).get X.r9=some (.cells [.int .i64 (zdF w)] 0 true):=by rw[O _ h9];exact C
 have gv:(H.alloc (.cells x.cells 0 true)).get X.mv=some (.map (ft lv)):=by rw[O _ llv];exact j
 have ga:(H.alloc (.cells x.cells 0 true)).get X.ma=some (.map (ft la)):=by rw[O _ lla];exact ha1
 have gf:(H.alloc (.cells x.cells 0 true)).get X.mf=some (.map (cE I)):=by rw[O _ llf];exact hf
 have gb:(H.alloc (.cells x.cells 0 true)).get H.next=some (.cells x.cells 0 true):=zq
 have kv:=tP gv x.name;have ka:=tP ga x.name;have kf:=Hg (P:=Try.prog) (t:=81) Try.underlying81 Jm ah gf x.to;rw[g]at kv;rw[ha2]at ka;have hlen:=zdH x.args;have hsz:=x.sz_eq;have V:RsOk X vs an I (H.alloc (.cells x.cells 0 true)):=U.low Y O;have hx0:∀a b,Ab.extract (.tup [a,b]) 0=some a:=fun _ _=>rfl;have hx1:∀a b,Ab.extract (.tup [a,b]) 1=some b:=fun _ _=>rfl;have m:FrB base H (H.alloc (.cells x.cells 0 true)):=(gW _ _).alloc _;have J:FrB base H ((H.alloc (.cells x.cells 0 true)).set X.r9 (.cells [.int .i64 5] 0 true)):=m.set (.inr h9) _;have Z:RsOk X vs an I ((H.alloc (.cells x.cells 0 true)).set X.r9 (.cells [.int .i64 5] 0 true)):=V.keep (by rw[aC,af L.l12]) (by rw[aC,af L.lv]) (by rw[aC,af L.l5]) (by rw[aC,af L.la]) (by rw[aC,af L.l6]) (by rw[aC,af L.lf]);have hw2:((H.alloc (.cells x.cells 0 true)).set X.r9 (.cells [.int .i64 5] 0 true)).get X.r9=some (.cells [.int .i64 (zdF true)] 0 true):=CD;have s12:((H.alloc (.cells x.cells 0 true)).set X.r9 (.cells [.int .i64 5] 0 true)).get X.r12=some (.cells [.map X.mv] 0 true):=Z.b12;have sb:((H.alloc (.cells x.cells 0 true)).set X.r9 (.cells [.int .i64 5] 0 true)).get H.next=some (.cells x.cells 0 true):=by rw[aC,af ac];exact gb
 have sv:jd Try.prog ((H.alloc (.cells x.cells 0 true)).set X.r9 (.cells [.int .i64 5] 0 true)) 140 (.map X.mv) (.str x.name) false=some (.bool (zbx vs x.name)):=by
  obtain⟨l,q1,q2⟩:=Z.bv;rw[tP q1,q2]
 clear z j g h5 ha1 ha2 h6 hf gv ga gf U C O;have e12:(X.r12 == H.next)=false:=zbn ac;have e5:(X.r5 == H.next)=false:=zbn ac;have e6:(X.r6 == H.next)=false:=zbn ac;have e9:(X.r9 == H.next)=false:=zbn ac;have d12:(X.r12 == X.r9)=false:=zbn L.l12;have dn:(H.next == X.r9)=false:=zbn ac;simp only[];refine zbs (M:=49) (rs:=[.tmp 8]) (hw.call _) hw.ice hw.froz Try.func85 rfl rfl Jk.2 rfl ?_;dsimp only[Jk,zbj,Nat.reduceAdd];repeat' (first
  |(apply ai ?_;clear hK K)|apply Rx.o ?_|apply bN ?_|(apply da (fun hg hgp=>?_) (fun hg hgp=>?_)<;>try(cases hg;done))|(apply bu (fun hb hbp=>?_) (fun hb hbp=>?_)<;>try(cases hb;done))|apply aq ?_|(apply zaW fun K hK=>?_)|apply aO ?_|apply za8 ?_|apply aN ?_)
 all_goals
  all_goals (refine⟨za2,_,za7,?_⟩;try simp only[za0])
  first
  |refine⟨?_,m,V,?_⟩
  |refine⟨?_,J,Z,?_⟩
  all_goals
   (try rw[g9]);(try rw[hw2]);clear g12 g5 g6 g9 kv ka kf hx0 hx1 gb s12 sb sv V Z m J hw2 e12 e5 e6 e9 d12 dn Y L hlen hsz;simp_all[lI,zdF]
end
section
def tyP4g.tyF:=ad @cQ (ad @cW (ad @kQ (ad @ly (ad @gI (ad @sm (ad @gJ (ad @eK (ad @dX (ad @lA (ad @fj (ad @ml (ad @B6 (ad @B7 (ad @CJ (@V7)))))))))))))))
open tyP4g
noncomputable def Jn:{c:SC // aD 67 (Try.f46.body.getD .skip)=c}:=by
 refine⟨?_,?_⟩;rotate_left
 .simp only[Try.f46,bP,aD,zby,zbt,zbA,zbB,Nat.blt,Nat.ble];rfl
noncomputable def zG:List En:=[CG]
theorem Xr(ρ:Nat->Int):jc Try.prog ρ zG:=⟨HI ρ,trivial⟩
set_option maxRecDepth 100000 in
theorem Xs(ρ:Nat->Int)(p:Pr)(hz:p.sz<2^36):cn Try.prog ρ 46 (fc p) (.int .i64 (sA p)):=zda fit (pls:=pls) (Xr ρ) (.cons (.agg p.pure) .nil) (.int _ _) (by
 have hw:Plain (za3 pls zG) 46:=zcB (fun _=>rfl) rfl;have kd:∀H,za9 Try.prog (za3 pls zG) 81 [.agg p.cells] H fun v H'=>v=.tup [zbP (zbF p),zbP (zcC p)]/\H'=H:=fun H=>zcz (enc:=fc) (out:=fun p=>.tup [zbP (zbF p),zbP (zcC p)]) p6 (x:=p) rfl hz;have hps:Plains (za3 pls zG):=⟨zcB (fun _=>rfl) rfl,zcB (fun _=>rfl) rfl,zcB (fun _=>rfl) rfl,zcB (fun _=>rfl) rfl⟩;have hpz:p.sz=1+zcU p.arrays+fV p.funcs:=rfl;have hla:=qP p.arrays;have hlf:=qO p.funcs;have hal:(zbF p).length=p.arrays.length:=by simp[zbF]
 have hfl:(zcC p).length=p.funcs.length:=by simp[zcC]
 have hx0:∀a b,Ab.extract (.tup [a,b]) 0=some a:=fun _ _=>rfl;have hx1:∀a b,Ab.extract (.tup [a,b]) 1=some b:=fun _ _=>rfl;have hnm:=FC;rw[fc];refine zbs (M:=67) (rs:=[.tmp 2]) (hw.call _) hw.ice hw.froz Try.func46 rfl rfl Jn.2 rfl ?_;dsimp only[Jn,zbj,Nat.reduceAdd];repeat' (first
  |(apply ai ?_;clear hK K)|apply Rx.o ?_|(apply mn ?_;first|refine zbV (kd _) ?_)|apply aq ?_|(apply zaW fun K hK=>?_)|fail)
 refine aK rfl aL aM ?_;simp only[aR];refine aI ?_ (Jl (x:=[zbF p]) (imm:=0) (zcB (fun _=>rfl) rfl) tN (cJ _) ⟨aw,cc⟩);rintro v Z ⟨rfl,⟨la,hma,hla2⟩,hold,hlt2⟩;simp only[zbb,zb4]at hma hold hlt2;rw[show([zbF p]:List (List (List UInt8))).flatten=zbF p by simp]at hla2;have g20:Z.get 0=some (.cells p.cells 0 true):=by rw[hold 0 ac,zaY,af aw,zaY,aj cN]
 clear hold;dsimp only[za1];repeat' (first
  |(apply ai ?_;clear hK K)|apply Rx.o ?_|apply bN ?_|apply aq ?_|(apply zaW fun K hK=>?_)|apply aO ?_|fail)
 generalize J:Hp.set (Hp.set _ _ _) _ _=Hs;have ns:Z.next+3<=Hs.next:=by rw[<-J];exact aA _
 have gs0:Hs.get 0=some (.cells p.cells 0 true):=by rw[<-J,aC,af ac,aC,af ac,zaY,af eU,zaY,af eU,zaY,af ac];exact g20
 have gsa:Hs.get 2=some (.map (ft la)):=by rw[<-J,aC,af ac,aC,af ac,zaY,af eU,zaY,af eU,zaY,af ac];exact hma
 have gs5:Hs.get (Z.next+1)=some (.cells [.map 2] 0 true):=by rw[<-J,aC,af ac,aC,aj cN]
 have gs6:Hs.get (Z.next+2)=some (.cells [.map Z.next] 0 true):=by rw[<-J,aC,aj cN]
 have gsf:Hs.get Z.next=some (.map (cE [])):=by rw[<-J,aC,af ac,aC,af ac,zaY,af eU,zaY,af eU,zaY,aj cN];rfl
 clear J hma;have hlt2':3<=Z.next:=ac
 clear hlt2;have hE0:(0 == Z.next)=false:=zbn ac;have hE2:(2 == Z.next)=false:=zbn ac;refine zcj [1,2,5,6,23,24] [0,2,Z.next+1,Z.next+2] 25 p.funcs.length (fun i E H=>∃m,zcF (p.funcs.drop i) m=zcF p.funcs []/\H.get Z.next=some (.map (cE m))) eE ⟨[],aw,gsf⟩ ?_;rintro i E Y hi hcE hrH hnH hsI ⟨m,hJ,hm⟩;(try simp only[zbR,zbq,br,za4,zbg,Nat.reduceBEq,Nat.reduceAdd, *]at hcE);(try simp only[zbR,zbq,br, *]at hrH);(try simp only[zbb,zbl,zb4,b4,Nat.reduceAdd]at hnH);have hB0:(0 == Y.next)=false:=zbn ac;have hC0:(Y.next == 0)=false:=zbn ac;have hB1:(2 == Y.next)=false:=zbn ac;have hC1:(Y.next == 2)=false:=zbn ac;have hB2:(Z.next+1 == Y.next)=false:=zbn ac;have hC2:(Y.next == Z.next+1)=false:=zbn ac;have hB3:(Z.next+2 == Y.next)=false:=zbn ac;have hC3:(Y.next == Z.next+2)=false:=zbn ac;obtain⟨h30,h3a,h35,h36⟩:=hrH;repeat' (first
  |(apply ai ?_;clear hK K)|apply Rx.o ?_|apply bN ?_|(apply bu (fun L O=>?_) (fun L O=>?_)<;>try(cases L;done))|apply aq ?_|(apply zaW fun K hK=>?_)|apply aO ?_|apply za8 ?_|apply zbW ?_)
 .have hlt:i<p.funcs.length:=by simpa using L
  have hgx:p.funcs[i]?=some p.funcs[i]:=aY hlt;have hgn:(zcC p)[i]?=some p.funcs[i].name:=by rw[zcC,gl,hgx];rfl
  have hu:=vN (P:=Try.prog) (t:=81) Try.underlying81 Jm hm p.funcs[i].name p.funcs[i].params.length;rw[hP hlt,zcF]at hJ;repeat' (first
   |(apply ai ?_;clear hK K)|apply Rx.o ?_|apply bN ?_|(apply zaW fun K hK=>?_)|(apply sq 6 fun K hK=>?_)|fail)
  refine⟨ac,zbw,zbw,eN,qZ,?_⟩;exact⟨_,hJ,gE⟩
 .have hie:i=p.funcs.length:=by simp at L;omega
  rw[hie,og,zcF]at hJ;subst hJ;clear hie hsI hi L O;repeat' (first
   |(apply ai ?_;clear hK K)|fail)
  generalize hHq:Hp.set (Hp.alloc Y _) _ _=Hq;have nq:Y.next+1<=Hq.next:=by rw[<-hHq];exact aA _
  have o:∀k,k<Y.next->Hq.get k=Y.get k:=fun k hk=>by rw[<-hHq,aC,af ac,zaY,af ac]
  have q9:Hq.get Y.next=some (.cells [.int .i64 (zdF false)] 0 true):=by rw[<-hHq,aC,aj rfl];rfl
  clear hHq;refine zcj [5,6,9,41,42] [] 43 p.funcs.length (fun i E H=>∃w,H.get Y.next=some (.cells [.int .i64 (zdF w)] 0 true)/\sA p=p8 (zcF p.funcs []) (zbF p) (p.funcs.drop i) w/\H.get (Z.next+1)=some (.cells [.map 2] 0 true)/\(∃l,H.get 2=some (.map (ft l))/\∀s,zbx l s=zbx (zbF p) s)/\H.get (Z.next+2)=some (.cells [.map Z.next] 0 true)/\H.get Z.next=some (.map (cE (zcF p.funcs [])))) eE ⟨false,q9,rfl,by rw[o _ ac];exact h35,⟨la,by rw[o _ ac];exact h3a,hla2⟩,by rw[o _ ac];exact h36,by rw[o _ ac];exact hm⟩ ?_;clear hm hla2 la h30 h3a h35 h36 gs0 gsa gs5 gs6 gsf q9 o;rintro i E H4 hi hcE hrH hnH hsI ⟨w,g9,hJ,g5,⟨la,ga,hla⟩,g6,gf⟩;(try simp only[zbR,zbq,br,za4,zbg,Nat.reduceBEq, *]at hcE);(try simp only[zbq, *]at hrH);(try simp only[zbb,zbl,zb4,b4,Nat.reduceAdd]at hnH);repeat' (first
   |(apply ai ?_;clear hK K)|apply Rx.o ?_|(apply bu (fun L O=>?_) (fun L O=>?_)<;>try(cases L;done))|apply aq ?_|(apply zaW fun K hK=>?_)|apply aO ?_|apply za8 ?_|apply aN ?_|apply zbW ?_)
  .have hlt:i<p.funcs.length:=by simpa using L
   have hgx:p.funcs[i]?=some p.funcs[i]:=aY hlt;have hsm:=qQ (dW hlt);have hsz:p.funcs[i].sz=1+p.funcs[i].name.length+zco p.funcs[i].params+zco p.funcs[i].locals+zbC p.funcs[i].body+p.funcs[i].value.sz:=rfl;have hpl:=zdI p.funcs[i].params;have hll:=zdI p.funcs[i].locals;have hdr:p8 (zcF p.funcs []) (zbF p) (p.funcs.drop i) w=if ng (fun x _=>fD (p.funcs[i].params++p.funcs[i].locals) (zbF p) x) p.funcs[i]=true/\(zcn (lI (zcF p.funcs []) (p.funcs[i].params++p.funcs[i].locals) (zbF p)) p.funcs[i].body 0 w).1=true then p8 (zcF p.funcs []) (zbF p) (p.funcs.drop (i+1)) (zcn (lI (zcF p.funcs []) (p.funcs[i].params++p.funcs[i].locals) (zbF p)) p.funcs[i].body 0 w).2 else 3:=by rw[hP hlt];rfl
   rw[hdr]at hJ;clear hdr;have hfz:p.funcs[i].sz<2^60:=ac;generalize p.funcs[i]=g at *;repeat' (first
    |(apply ai ?_;clear hK K)|apply Rx.o ?_|apply bN ?_|apply aq ?_|(apply zaW fun K hK=>?_)|fail)
   generalize hHb:Hp.alloc (Hp.set _ _ _) _=Hb;have nb:Hb.next=H4.next+2:=by rw[<-hHb];rfl
   have oldb:∀k,k<H4.next->Hb.get k=H4.get k:=fun k hk=>by rw[<-hHb,zaY,af f0,aC,af ac,zaY,af ac]
   have gbr:Hb.get (H4.next+1)=some (.cells [zbP g.params,zbP g.locals] 0 true):=by rw[<-hHb,zaY,aj cN]
   have gb11:Hb.get H4.next=some (.cells g.cells 0 true):=by rw[<-hHb,zaY,af f0,aC,aj rfl]
   clear hHb;refine aK rfl aL aM ?_;simp only[aR];refine aI ?_ (Jl (x:=[g.params,g.locals]) (imm:=0) (zcB (fun _=>rfl) rfl) gbr ac ⟨aw,cc⟩);rintro v U ⟨rfl,⟨lv,hmv,hlv⟩,old5,n5⟩;rw[show([g.params,g.locals]:List (List (List UInt8))).flatten=g.params++g.locals by simp]at hlv;have o5:∀k,k<H4.next->U.get k=H4.get k:=fun k hk=>by rw[old5 k ac,oldb k hk]
   have g511:U.get H4.next=some (.cells g.cells 0 true):=by rw[old5 _ ac];exact gb11
   have g59:U.get Y.next=some (.cells [.int .i64 (zdF w)] 0 true):=by rw[o5 _ ac];exact g9
   have g55:U.get (Z.next+1)=some (.cells [.map 2] 0 true):=by rw[o5 _ ac];exact g5
   have g5a:U.get 2=some (.map (ft la)):=by rw[o5 _ ac];exact ga
   have g56:U.get (Z.next+2)=some (.cells [.map Z.next] 0 true):=by rw[o5 _ ac];exact g6
   have g5f:U.get Z.next=some (.map (cE (zcF p.funcs []))):=by rw[o5 _ ac];exact gf
   clear o5 old5 gbr gb11 oldb g9 g5 ga g6 gf;have e1:(H4.next == U.next)=false:=zbn ac;dsimp only[za1];repeat' (first
    |(apply ai ?_;clear hK K)|apply Rx.o ?_|apply bN ?_|apply aq ?_|(apply zaW fun K hK=>?_)|fail)
   generalize hHd:Hp.set (Hp.alloc U _) _ _=C;have nd:C.next=U.next+1:=by rw[<-hHd];rfl
   have V:∀k,k<U.next->C.get k=U.get k:=fun k hk=>by rw[<-hHd,aC,af ac,zaY,af ac]
   have d12:C.get U.next=some (.cells [.map Hb.next] 0 true):=by rw[<-hHd,aC,aj rfl,nb]
   clear hHd;have hok:RsOk ⟨U.next,Hb.next,Z.next+1,2,Z.next+2,Z.next,Y.next⟩ (g.params++g.locals) (zbF p) (zcF p.funcs []) C:={
    b12:=d12
    bv:=⟨lv,by show C.get Hb.next=_;rw[V _ n5];exact hmv,hlv⟩
    b5:=by show C.get (Z.next+1)=_;rw[V _ ac];exact g55
    ba:=⟨la,by show C.get 2=_;rw[V _ ac];exact g5a,hla⟩
    b6:=by show C.get (Z.next+2)=_;rw[V _ ac];exact g56
    bf:=by show C.get Z.next=_;rw[V _ ac];exact g5f}
   have hd9:C.get Y.next=some (.cells [.int .i64 (zdF w)] 0 true):=by rw[V _ ac];exact g59
   have hd11:C.get H4.next=some (.cells g.cells 0 true):=by rw[V _ ac];exact g511
   have hlX:∀n,C.next<=n->RsLt ⟨U.next,Hb.next,Z.next+1,2,Z.next+2,Z.next,Y.next⟩ n:=fun n hn=>⟨by show U.next<n;omega,by show Hb.next<n;omega,by show Z.next+1<n;omega,by show 2<n;omega,by show Z.next+2<n;omega,by show Z.next<n;omega⟩
   have hnX:RsNe ⟨U.next,Hb.next,Z.next+1,2,Z.next+2,Z.next,Y.next⟩:=⟨by show U.next≠Y.next;omega,by show Hb.next≠Y.next;omega,by show Z.next+1≠Y.next;omega,by show 2≠Y.next;omega,by show Z.next+2≠Y.next;omega,by show Z.next≠Y.next;omega⟩;clear g59 g55 g5a g56 g5f d12 V hmv hlv hla g511;refine aK rfl aL aM ?_;simp only[aR];refine aI ?_ (Jh hps (I:=fun H'=>gw C.next C H') (fun a b h1 h2=>h1.trans h2) (Xp (zcB (fun _=>rfl) rfl) (hlX _ (aA _)) (fun a b h1 h2=>h1.trans h2) fun H' h=>hok.low (hlX _ (aA _)) h) g C hfz (aA _) (nY _ _));rintro v H6 ⟨rfl,hf6,z⟩;have n6:=hf6.next
   have hok6:=hok.low (hlX _ (aA _)) z;have h69:H6.get Y.next=some (.cells [.int .i64 (zdF w)] 0 true):=by rw[z _ ac];exact hd9
   have h611:H6.get H4.next=some (.cells g.cells 0 true):=by rw[z _ ac];exact hd11
   clear z hf6 hok hd9 hd11;dsimp only[za1];cases hwf:ng (fun x _=>fD (g.params++g.locals) (zbF p) x) g with
   |false=>
    repeat' (first
     |(apply ai ?_;clear hK K)|apply Rx.o ?_|(apply da (fun hg hgp=>?_) (fun hg hgp=>?_)<;>try(cases hg;done))|(apply bu (fun L O=>?_) (fun L O=>?_)<;>try(cases L;done))|apply aq ?_|(apply zaW fun K hK=>?_)|apply aN ?_|fail)
    all_goals (refine⟨za2,_,za7,?_⟩;try simp only[za0])
    rw[hJ,hwf];simp
   |true=>
    rw[hwf]at hJ;repeat' (first
     |(apply ai ?_;clear hK K)|apply Rx.o ?_|(apply da (fun hg hgp=>?_) (fun hg hgp=>?_)<;>try(cases hg;done))|apply aq ?_|(apply zaW fun K hK=>?_)|fail)
    refine aK rfl aL aM ?_;simp only[aR];refine aI ?_ (t7 (zcB (fun _=>rfl) rfl) (base:=H6.next) (I:=fun(w:Bool) H=>RsOk ⟨U.next,Hb.next,Z.next+1,2,Z.next+2,Z.next,Y.next⟩ (g.params++g.locals) (zbF p) (zcF p.funcs []) H/\H.get Y.next=some (.cells [.int .i64 (zdF w)] 0 true)) (fun s a b h1 h2=>⟨h1.1.low (hlX _ n6) h2,by rw[h2 _ ac];exact h1.2⟩) (Xq (zcB (fun _=>rfl) rfl) (hlX _ n6) (by show Y.next<_;omega) hnX) (zbC g.body+1) g.body ac 0 w H6 ac (aA _) ⟨hok6,h69⟩);rintro v H7 ⟨rfl,hf7,j,h79⟩;have n7:=hf7.next
    dsimp only[za1];repeat' (first
     |(apply ai ?_;clear hK K)|apply Rx.o ?_|(apply bu (fun L O=>?_) (fun L O=>?_)<;>try(cases L;done))|apply aq ?_|(apply zaW fun K hK=>?_)|apply za8 ?_|apply aN ?_|fail)
    .all_goals (refine⟨za2,_,za7,?_⟩;try simp only[za0])
     rw[hJ];simp_all
    .refine⟨ac,zbw,zbw,eN,qZ,?_⟩;refine⟨_,h79,?_,j.b5,j.ba,j.b6,j.bf⟩;rw[hJ,aj ⟨rfl,by simp_all⟩]
  .repeat' (first
    |(apply ai ?_;clear hK K)|fail)
   all_goals (refine⟨za2,_,za7,?_⟩;try simp only[za0])
   have hie:i=p.funcs.length:=by simp at L;omega
   rw[hJ,hie,og,p8,zdF])
end
section
def tyW4e.tyF:=ad @cQ (ad @cW (ad @kQ (ad @ly (ad @gI (ad @gJ (ad @eK (ad @dX (ad @lA (ad @fj (@oM))))))))))
open tyW4e
noncomputable def Jo:{c:SC // aD 68 (Try.f43.body.getD .skip)=c}:=by
 refine⟨?_,?_⟩;rotate_left
 .simp only[Try.f43,bP,aD,zby,zbt,zbA,zbB,Nat.blt,Nat.ble];rfl
theorem Xt{cfg:Cfg}(hp:Plains cfg)(hw:Plain cfg 43)(h1w:Plain cfg 73)(h2w:Plain cfg 75)(p:Pr)(hz:p.sz<2^60):
 za9 Try.prog cfg 43 [.agg p.cells] zbk fun v _=>v=.bool (jL p):=by
 have hpz:p.sz=1+zcU p.arrays+fV p.funcs:=rfl;have hla:=qP p.arrays;have hlf:=qO p.funcs;have hla2:p.arrays.length<2^60:=ac;have hlf2:p.funcs.length<2^60:=ac;refine zbs (M:=68) (rs:=[.tmp 2]) (hw.call _) hw.ice hw.froz Try.func43 rfl rfl Jo.2 rfl ?_;dsimp only[Jo,zbj,Nat.reduceAdd];repeat' (first
  |(apply ai ?_;clear hK K)|apply Rx.o ?_|(apply da (fun C Z=>?_) (fun C Z=>?_)<;>try(cases C;done))|(apply bu (fun o z=>?_) (fun o z=>?_)<;>try(cases o;done))|apply aq ?_|(apply zaW fun K hK=>?_)|apply aO ?_|apply za8 ?_|apply aN ?_|fail)
 .all_goals (refine⟨za2,_,za7,?_⟩;try simp only[za0])
  simp_all[jL];try(intros;omega)
 .refine nT (fun i E H=>p.arrays.all (fun a=>!decide (a.len<1) && !decide (16<a.len))=(p.arrays.drop i).all (fun a=>!decide (a.len<1) && !decide (16<a.len))/\E.at 1=.ptr 0 0/\E.at 21=.lst (p.arrays.map Ar.cells)/\E.at 22=.int .i64 p.arrays.length/\E.at 23=.int .i64 i/\0<H.next/\H.get 0=some (.cells p.cells 0 true)) p.arrays.length ?_ ?_
  .rintro i E H hi ⟨hc,h1,h21,h22,h23,hn,hg0⟩;have e0:(0 == H.next)=false:=cc;repeat' (first
    |(apply ai ?_;clear hK K)|apply Rx.o ?_|(apply bu (fun o z=>?_) (fun o z=>?_)<;>try(cases o;done))|apply aq ?_|(apply zaW fun K hK=>?_)|apply aO ?_|apply za8 ?_|apply zbW ?_)
   .have Y:i<p.arrays.length:=by simpa using o
    have hgx:p.arrays[i]?=some p.arrays[i]:=aY Y;have hd:(p.arrays.drop i).all (fun a=>!decide (a.len<1) && !decide (16<a.len))=((!decide (p.arrays[i].len<1) && !decide (16<p.arrays[i].len))&&(p.arrays.drop (i+1)).all (fun a=>!decide (a.len<1) && !decide (16<a.len))):=Je;repeat' (first
     |(apply ai ?_;clear hK K)|apply Rx.o ?_|apply bN ?_|(apply da (fun C Z=>?_) (fun C Z=>?_)<;>try(cases C;done))|(apply bu (fun o z=>?_) (fun o z=>?_)<;>try(cases o;done))|apply aq ?_|(apply zaW fun K hK=>?_)|apply za8 ?_|apply aN ?_|fail)
    .all_goals (refine⟨za2,_,za7,?_⟩;try simp only[za0])
     have U:p.arrays.all (fun a=>!decide (a.len<1) && !decide (16<a.len))=false:=by rw[hc,hd];simp_all
     simp only[jL,U];simp
    .refine⟨Y,?_,eE,eE,eE,?_,f0,zdQ⟩
     .rw[hc,hd];simp_all
     .simp only[iF,Nat.reduceBEq,gy,zcL (show i<2^62 by omega)]
    .all_goals (refine⟨za2,_,za7,?_⟩;try simp only[za0])
     have U:p.arrays.all (fun a=>!decide (a.len<1) && !decide (16<a.len))=false:=by rw[hc,hd];simp_all
     simp only[jL,U];simp
   .have hia:i=p.arrays.length:=by simp at o;omega
    have hca:p.arrays.all (fun a=>!decide (a.len<1) && !decide (16<a.len))=true:=by rw[hc,hia];simp
    clear hc;repeat' (first
     |(apply ai ?_;clear hK K)|fail)
    refine nT (fun i E H=>p.funcs.all iK=(p.funcs.drop i).all iK/\E.at 37=.lst (p.funcs.map Fu.cells)/\E.at 38=.int .i64 p.funcs.length/\E.at 39=.int .i64 i/\0<H.next) p.funcs.length ?_ ?_
    .rintro i E H hi ⟨hc,h37,h38,h39,hn⟩;repeat' (first
      |(apply ai ?_;clear hK K)|apply Rx.o ?_|(apply bu (fun o z=>?_) (fun o z=>?_)<;>try(cases o;done))|apply aq ?_|(apply zaW fun K hK=>?_)|apply aO ?_|apply za8 ?_|apply aN ?_|apply zbW ?_)
     .have Y:i<p.funcs.length:=by simpa using o
      have hgx:p.funcs[i]?=some p.funcs[i]:=aY Y;have hd:(p.funcs.drop i).all iK=(iK p.funcs[i]&&(p.funcs.drop (i+1)).all iK):=Je;have hxm:=qQ (dW Y);generalize hx0:p.funcs[i]=x at *;have hsx:x.sz=1+x.name.length+zco x.params+zco x.locals+zbC x.body+x.value.sz:=rfl;repeat' (first
       |(apply ai ?_;clear hK K)|apply Rx.o ?_|apply bN ?_|(apply da (fun C Z=>?_) (fun C Z=>?_)<;>try(cases C;done))|(apply bu (fun o z=>?_) (fun o z=>?_)<;>try(cases o;done))|apply aq ?_|(apply zaW fun K hK=>?_)|apply aN ?_|fail)
      .generalize V:Hp.set _ (H.next+2) _=L;have hn5:L.next=H.next+3:=by rw[<-V];rfl
       have J:L.get H.next=some (.cells x.cells 0 true):=by rw[<-V];simp only[get_set,sd,zbb,zbl,BN,i7,Nat.reduceAdd,zB,gy,nS]
       have g:L.get (H.next+1)=some (.cells [.int .i64 0] 0 true):=Jf;have hg5c:L.get (H.next+2)=some (.cells [.int .i64 0] 0 true):=Jf;refine aK rfl aL aM ?_;simp only[aR];refine aI ?_ (t7 hp.ws (base:=H.next+3) (fun s Ha Hb h O=>⟨by rw[O _ ac];exact h.1,by rw[O _ ac];exact h.2.1,fun r q1 q2 q3=>by rw[O r q1];exact h.2.2 r q1 q2 q3⟩) (Xl h1w (base:=H.next+3) (rn:=H.next+1) (rl:=H.next+2) ac ac ac L) (zbC x.body+1) x.body ac 0 (0,0) L ac ac ⟨g,hg5c,fun _ _ _ _=>rfl⟩);rintro v H6 ⟨rfl,hf6,hi6⟩;have hn6:=hf6.next
       have hg6:H6.get H.next=some (.cells x.cells 0 true):=by rw[hi6.2.2 _ ac ac ac];exact J
       dsimp only[za1];repeat' (first
        |(apply ai ?_;clear hK K)|apply Rx.o ?_|(apply da (fun C Z=>?_) (fun C Z=>?_)<;>try(cases C;done))|(apply bu (fun o z=>?_) (fun o z=>?_)<;>try(cases o;done))|apply aq ?_|(apply zaW fun K hK=>?_)|apply aN ?_|fail)
       .refine aK rfl aL aM ?_;simp only[aR];refine aI ?_ (Jh hp (base:=0) (I:=fun _=>True) (fun _ _ _ _=>trivial) (Xm h2w (fun _ _ _ _=>trivial)) x H6 ac ac trivial);rintro v H7 ⟨rfl,hf7,_⟩;have hn7:=hf7.next
        dsimp only[za1];repeat' (first
         |(apply ai ?_;clear hK K)|apply Rx.o ?_|(apply da (fun C Z=>?_) (fun C Z=>?_)<;>try(cases C;done))|(apply bu (fun o z=>?_) (fun o z=>?_)<;>try(cases o;done))|apply aq ?_|(apply zaW fun K hK=>?_)|apply za8 ?_|apply aN ?_|fail)
        .all_goals (refine⟨za2,_,za7,?_⟩;try simp only[za0])
         have j:p.funcs.all iK=false:=by rw[hc,hd];simp_all[iK]
         simp only[jL,j];simp
        .refine⟨Y,?_,eE,eE,?_,ac⟩
         .rw[hc,hd];simp_all[iK]
         .simp only[iF,Nat.reduceBEq,gy,zcL (show i<2^62 by omega)]
       .all_goals (refine⟨za2,_,za7,?_⟩;try simp only[za0])
        have j:p.funcs.all iK=false:=by rw[hc,hd];simp_all[iK]
        simp only[jL,j];simp
      .all_goals (refine⟨za2,_,za7,?_⟩;try simp only[za0])
       have m:iK x=false:=by
        simp only[iK,wr,kR];first|exact .inl (.inl (.inl kH))|exact .inl (.inl (.inr kH))
       have j:p.funcs.all iK=false:=by rw[hc,hd,m,gX]
       simp only[jL,j];simp
      .all_goals (refine⟨za2,_,za7,?_⟩;try simp only[za0])
       have m:iK x=false:=by
        simp only[iK,wr,kR];first|exact .inl (.inl (.inl kH))|exact .inl (.inl (.inr kH))
       have j:p.funcs.all iK=false:=by rw[hc,hd,m,gX]
       simp only[jL,j];simp
     .all_goals (refine⟨za2,_,za7,?_⟩;try simp only[za0])
      have:i=p.funcs.length:=vO;simp_all[jL];try(intros;omega)
    .exact⟨rfl,eE,eE,eE,ac⟩
  .exact⟨rfl,eE,eE,eE,eE,by simp[zbb,zb4],zdQ⟩
 .all_goals (refine⟨za2,_,za7,?_⟩;try simp only[za0])
  simp_all[jL];try(intros;omega)
end
section
def tyW4f.tyF:=ad @cQ (ad @vu (@cW))
open tyW4f
noncomputable def Jp:{c:SC // aD 21 (Try.f151.body.getD .skip)=c}:=by
 refine⟨?_,?_⟩;rotate_left
 .simp only[Try.f151,bP,aD,zby,zbt,zbA,zbB,Nat.blt,Nat.ble];rfl
noncomputable def Jq:{c:SC // aD 9 (Try.f146.body.getD .skip)=c}:=by
 refine⟨?_,?_⟩;rotate_left
 .simp only[Try.f146,bP,aD,zby,zbt,zbA,zbB,Nat.blt,Nat.ble];rfl
noncomputable def Jr:{c:SC // aD 23 (Try.f144.body.getD .skip)=c}:=by
 refine⟨?_,?_⟩;rotate_left
 .simp only[Try.f144,bP,aD,zby,zbt,zbA,zbB,Nat.blt,Nat.ble];rfl
noncomputable def Js:{c:SC // aD 34 (Try.f133.body.getD .skip)=c}:=by
 refine⟨?_,?_⟩;rotate_left
 .simp only[Try.f133,bP,aD,zby,zbt,zbA,zbB,Nat.blt,Nat.ble];rfl
noncomputable def Jt:{c:SC // aD 37 (Try.f147.body.getD .skip)=c}:=by
 refine⟨?_,?_⟩;rotate_left
 .simp only[Try.f147,bP,aD,zby,zbt,zbA,zbB,Nat.blt,Nat.ble];rfl
theorem Xu{cfg:Cfg}(O:Plain cfg 151)(n:Int)(H:Hp):za9 Try.prog cfg 151 [.int .u8 n] H fun v H'=>v=.bool (vH n)/\H'=H:=by
 refine zbs (M:=21) (rs:=[.tmp 2]) (O.call _) O.ice O.froz Try.func151 rfl rfl Jp.2 rfl ?_;dsimp only[Jp,zbj,Nat.reduceAdd];repeat' (first
  |(apply ai ?_;clear hK K)|apply Rx.o ?_|apply Rx.gu ?_|(apply da (fun C o=>?_) (fun C o=>?_)<;>try(cases C;done))|apply aq ?_|(apply zaW fun K hK=>?_)|apply aN ?_)
 all_goals (refine⟨za2,_,za7,?_⟩;try simp only[za0])
 all_goals (refine⟨?_,fo⟩;simp_all[vH]<;>omega)
theorem Dc{cfg:Cfg}(O:Plain cfg 146)(n:Int)(H:Hp):za9 Try.prog cfg 146 [.int .u8 n] H fun v H'=>v=.bool (sr n)/\H'=H:=by
 refine zbs (M:=9) (rs:=[.tmp 2]) (O.call _) O.ice O.froz Try.func146 rfl rfl Jq.2 rfl ?_;dsimp only[Jq,zbj,Nat.reduceAdd];repeat' (first
  |(apply ai ?_;clear hK K)|apply Rx.o ?_|(apply da (fun C o=>?_) (fun C o=>?_)<;>try(cases C;done))|apply aq ?_|(apply zaW fun K hK=>?_)|apply aN ?_)
 all_goals (refine⟨za2,_,za7,?_⟩;try simp only[za0])
 all_goals (refine⟨?_,fo⟩;simp_all[sr]<;>omega)
theorem Xv{cfg:Cfg}(O:Plain cfg 144)(L:Plain cfg 151)(hd:Plain cfg 146)(s:List UInt8)(J:s.length<2^60)(H:Hp):
 za9 Try.prog cfg 144 [.str s] H fun v H'=>v=.int .i64 (zcO s)/\H'=H:=by
 refine zbs (M:=23) (rs:=[.tmp 2]) (O.call _) O.ice O.froz Try.func144 rfl rfl Jr.2 rfl ?_;dsimp only[Jr,zbj,Nat.reduceAdd];repeat' (first
  |(apply ai ?_;clear hK K)|apply Rx.o ?_|apply aq ?_|(apply zaW fun K hK=>?_)|apply aO ?_|fail)
 refine nT (fun i E H'=>zcO s=i+zcO (s.drop i)/\E.at 0=.str s/\E.at 3=.int .i64 i/\H'=H) s.length ?_ ?_
 .rintro i E H' m ⟨hc,g,h3,rfl⟩;repeat' (first
   |(apply ai ?_;clear hK K)|apply Rx.o ?_|apply Rx.gu ?_|(apply da (fun C o=>?_) (fun C o=>?_)<;>try(cases C;done))|(apply bu (fun V z=>?_) (fun V z=>?_)<;>try(cases V;done))|apply aq ?_|(apply zaW fun K hK=>?_)|apply aN ?_|apply zbW ?_)
  .have Y:i<s.length:=by omega
   have I:s[i]?=some s[i]:=aY Y;have U:zcO (s.drop i)=if nZ s[i]then zcO (s.drop (i+1))+1 else 0:=by rw[hP Y,zcO]
   repeat' (first
    |apply Rx.o ?_|(apply da (fun C o=>?_) (fun C o=>?_)<;>try(cases C;done))|fail)
   refine aK rfl aL aM ?_;simp only[aR];refine aI ?_ (Xu L s[i].toNat H');rintro v _ ⟨rfl,rfl⟩;dsimp only[za1];repeat' (first
    |(apply ai ?_;clear hK K)|apply Rx.o ?_|(apply da (fun C o=>?_) (fun C o=>?_)<;>try(cases C;done))|(apply bu (fun V z=>?_) (fun V z=>?_)<;>try(cases V;done))|(apply zaW fun K hK=>?_)|apply aO ?_|apply za8 ?_|fail)
   .refine aK rfl aL aM ?_;simp only[aR];refine aI ?_ (Dc hd s[i].toNat _);rintro v _ ⟨rfl,rfl⟩;dsimp only[za1];repeat' (first
     |(apply ai ?_;clear hK K)|apply Rx.o ?_|(apply da (fun C o=>?_) (fun C o=>?_)<;>try(cases C;done))|(apply bu (fun V z=>?_) (fun V z=>?_)<;>try(cases V;done))|apply aq ?_|(apply zaW fun K hK=>?_)|apply aO ?_|apply za8 ?_|apply aN ?_|apply zbW ?_)
    .have Z:nZ s[i]=true:=by simp_all[nZ]
     refine⟨Y,?_,eE,?_,rfl⟩
     .rw[hc,U,Z];simp;omega
     .simp only[iF,Nat.reduceBEq,gy,zcL (show i<2^62 by omega)]
    .have Z:nZ s[i]=false:=by simp_all[nZ]
     all_goals (refine⟨za2,_,za7,?_⟩;try simp only[za0])
     exact⟨by rw[hc,U,Z];simp,fo⟩
   .have Z:nZ s[i]=true:=by simp_all[nZ]
    refine⟨Y,?_,eE,?_,rfl⟩
    .rw[hc,U,Z];simp;omega
    .simp only[iF,Nat.reduceBEq,gy,zcL (show i<2^62 by omega)]
  .all_goals (refine⟨za2,_,za7,?_⟩;try simp only[za0])
   have j:i=s.length:=ac;refine⟨?_,fo⟩;rw[hc,j];simp[zcO]
 .exact⟨aw,eE,eE,rfl⟩
theorem Ju{cfg:Cfg}(g:Plain cfg 133)(s:List UInt8)(hs:s.length<2^60)(H:Hp):
 za9 Try.prog cfg 133 [.str s] H fun v H'=>v=.int .i64 (zcA false s)/\H'=H:=by
 refine zbs (M:=34) (rs:=[.tmp 2]) (g.call _) g.ice g.froz Try.func133 rfl rfl Js.2 rfl ?_;dsimp only[Js,zbj,Nat.reduceAdd];repeat' (first
  |(apply ai ?_;clear hK K)|apply Rx.o ?_|apply aq ?_|(apply zaW fun K hK=>?_)|apply aO ?_|fail)
 refine vj (fun n E H'=>∃i:Nat,n=s.length-i/\i<=s.length/\zcA false s=i+zcA false (s.drop i)/\E.at 0=.str s/\E.at 3=.int .i64 i/\H'=H) ?_ (n:=s.length) ?_
 .rintro n E H' ⟨i,rfl,hi,hc,h0,h3,rfl⟩;repeat' (first
   |(apply ai ?_;clear hK K)|apply Rx.o ?_|(apply bu (fun o z=>?_) (fun o z=>?_)<;>try(cases o;done))|apply aq ?_|(apply zaW fun K hK=>?_)|apply aO ?_|apply za8 ?_|apply aN ?_|apply zbW ?_)
  .have O:i<s.length:=by omega
   have hgx:s[i]?=some s[i]:=aY O;have Z:zcA false (s.drop i)=if je s[i]then zcA false (s.drop (i+1))+1 else if s[i].toNat=35 then zcA true (s.drop (i+1))+1 else 0:=by rw[hP O,zcA]
   repeat' (first
    |(apply ai ?_;clear hK K)|apply Rx.o ?_|(apply bu (fun o z=>?_) (fun o z=>?_)<;>try(cases o;done))|apply aq ?_|(apply zaW fun K hK=>?_)|apply aO ?_|apply za8 ?_|apply aN ?_|fail)
   .have C:je s[i]=true:=by unfold je;simp;omega
    refine⟨s.length-(i+1),ac,i+1,rfl,ac,?_,eE,?_,rfl⟩
    .rw[hc,Z,aj C];omega
    .simp only[iF,Nat.reduceBEq,gy,zcL (show i<2^62 by omega)]
   .have C:je s[i]=true:=by unfold je;simp;omega
    refine⟨s.length-(i+1),ac,i+1,rfl,ac,?_,eE,?_,rfl⟩
    .rw[hc,Z,aj C];omega
    .simp only[iF,Nat.reduceBEq,gy,zcL (show i<2^62 by omega)]
   .have C:je s[i]=true:=by unfold je;simp;omega
    refine⟨s.length-(i+1),ac,i+1,rfl,ac,?_,eE,?_,rfl⟩
    .rw[hc,Z,aj C];omega
    .simp only[iF,Nat.reduceBEq,gy,zcL (show i<2^62 by omega)]
   .have C:je s[i]=true:=by unfold je;simp;omega
    refine⟨s.length-(i+1),ac,i+1,rfl,ac,?_,eE,?_,rfl⟩
    .rw[hc,Z,aj C];omega
    .simp only[iF,Nat.reduceBEq,gy,zcL (show i<2^62 by omega)]
   .have J:s[i].toNat=35:=by omega
    have C:je s[i]=false:=by unfold je;simp;omega
    have hln:iL (s.drop i)=iL (s.drop (i+1))+1:=by rw[hP O,iL,af ac]
    have I:zcA false s=i+iL (s.drop i)+zcA false (s.drop (i+iL (s.drop i))):=by
     rw[hc,Z,C,af aw,aj J,GB,AD,hln,show i+1+iL (s.drop (i+1))=i+(iL (s.drop (i+1))+1) by omega];omega
    have hle:=GA (s.drop i);rw[js]at hle;refine vj (fun n E H''=>∃j:Nat,n=s.length-j/\i<=j/\j<=s.length/\i+iL (s.drop i)=j+iL (s.drop j)/\E.at 0=.str s/\E.at 3=.int .i64 j/\H''=H') ?_ (n:=s.length-i) ?_
    .rintro n E2 H2 ⟨j,rfl,hij,hj,Y,k0,k3,rfl⟩;repeat' (first
      |(apply ai ?_;clear hK K)|apply Rx.o ?_|(apply da (fun L U=>?_) (fun L U=>?_)<;>try(cases L;done))|(apply bu (fun o z=>?_) (fun o z=>?_)<;>try(cases o;done))|apply aq ?_|(apply zaW fun K hK=>?_)|apply zbW ?_)
     .have V:j<s.length:=by omega
      have hgx2:s[j]?=some s[j]:=aY V;have m:iL (s.drop j)=if s[j].toNat=10 then 0 else iL (s.drop (j+1))+1:=by rw[hP V,iL]
      repeat' (first
       |(apply ai ?_;clear hK K)|apply Rx.o ?_|(apply da (fun L U=>?_) (fun L U=>?_)<;>try(cases L;done))|(apply bu (fun o z=>?_) (fun o z=>?_)<;>try(cases o;done))|(apply zaW fun K hK=>?_)|apply aO ?_|apply za8 ?_|apply zbW ?_)
      .refine⟨s.length-(j+1),ac,j+1,rfl,ac,ac,?_,eE,?_,rfl⟩
       .rw[Y,m,af (by simp_all;omega)];omega
       .simp only[iF,Nat.reduceBEq,gy,zcL (show j<2^62 by omega)]
      .have h10:s[j].toNat=10:=by simp_all;omega
       rw[m,aj h10,pG]at Y;refine⟨s.length-j,ac,j,rfl,ac,?_,eE,eE,fo⟩;rw[I,Y]
     .have hje:j=s.length:=by omega
      have h0j:iL (s.drop j)=0:=by rw[hje];simp[iL]
      rw[h0j,pG]at Y;refine⟨s.length-j,ac,j,rfl,ac,?_,eE,eE,fo⟩;rw[I,Y]
    .exact⟨i,rfl,ac,ac,rfl,eE,eE,rfl⟩
   .have C:je s[i]=false:=by unfold je;simp;omega
    all_goals (refine⟨za2,_,za7,?_⟩;try simp only[za0])
    refine⟨?_,fo⟩;rw[hc,Z,C,af aw,af ac];simp
  .all_goals (refine⟨za2,_,za7,?_⟩;try simp only[za0])
   have hie:i=s.length:=ac;refine⟨?_,fo⟩;rw[hc,hie];simp[zcA]
 .exact⟨0,aw,ac,aw,eE,eE,rfl⟩
end
section
def tyW4g.tyF:=ad @cQ (ad @cW (ad @sm (ad @B0 (ad @B3 (ad @yl (ad @vu (ad @U4 (ad @Oj (ad @BR (@Try.underlying9))))))))))
open tyW4g
noncomputable def Jv:{c:SC // aD 35 (Try.f145.body.getD .skip)=c}:=by
 refine⟨?_,?_⟩;rotate_left
 .simp only[Try.f145,bP,aD,zby,zbt,zbA,zbB,Nat.blt,Nat.ble];rfl
noncomputable def Jw:{c:SC // aD 41 (Try.f134.body.getD .skip)=c}:=by
 refine⟨?_,?_⟩;rotate_left
 .simp only[Try.f134,bP,aD,zby,zbt,zbA,zbB,Nat.blt,Nat.ble];rfl
noncomputable def Jx:{c:SC // aD 49 (Try.f112.body.getD .skip)=c}:=by
 refine⟨?_,?_⟩;rotate_left
 .simp only[Try.f112,bP,aD,zby,zbt,zbA,zbB,Nat.blt,Nat.ble];rfl
theorem Xw{cfg:Cfg}(O:Plain cfg 147)(hd:Plain cfg 146)(s:List UInt8)(J:s≠[])(U:s.length<2^60)(H:Hp):
 za9 Try.prog cfg 147 [.str s] H fun v H'=>(∃b,v=.bool b)/\H'=H:=by
 have V:0<s.length:=tH.2 J;have L:s[0]?=some s[0]:=aY V;refine zbs (M:=37) (rs:=[.tmp 2]) (O.call _) O.ice O.froz Try.func147 rfl rfl Jt.2 rfl ?_;dsimp only[Jt,zbj,Nat.reduceAdd];repeat' (first
  |(apply ai ?_;clear hK K)|apply Rx.o ?_|apply aq ?_|(apply zaW fun K hK=>?_)|apply aO ?_|fail)
 refine nT (fun i E H'=>E.at 0=.str s/\E.at 3=.int .i64 i/\H'=H) s.length ?_ ?_
 .rintro i E H' m ⟨k0,j,rfl⟩;repeat' (first
   |(apply ai ?_;clear hK K)|apply Rx.o ?_|(apply bu (fun o z=>?_) (fun o z=>?_)<;>try(cases o;done))|apply aq ?_|(apply zaW fun K hK=>?_)|apply aO ?_|apply za8 ?_|apply zbW ?_)
  .have Z:i<s.length:=by omega
   have I:s[i]?=some s[i]:=aY Z;repeat' (first
    |apply Rx.o ?_|fail)
   refine aK rfl aL aM ?_;simp only[aR];refine aI ?_ (Dc hd s[i].toNat H');rintro v _ ⟨rfl,rfl⟩;dsimp only[za1];repeat' (first
    |(apply ai ?_;clear hK K)|apply Rx.o ?_|(apply bu (fun o z=>?_) (fun o z=>?_)<;>try(cases o;done))|apply aq ?_|(apply zaW fun K hK=>?_)|apply za8 ?_|apply aN ?_|fail)
   .all_goals (refine⟨za2,_,za7,?_⟩;try simp only[za0])
    exact⟨⟨_,rfl⟩,fo⟩
   .refine⟨Z,eE,?_,fo⟩;simp only[iF,Nat.reduceBEq,gy,zcL (show i<2^62 by omega)]
  .repeat' (first
    |(apply ai ?_;clear hK K)|apply Ry.o ?_|apply Ry.gu ?_|(apply kT (fun C Y=>?_) (fun C Y=>?_)<;>try(cases C;done))|apply aN ?_|fail)
   all_goals (refine⟨za2,_,za7,?_⟩;try simp only[za0])
   all_goals exact⟨⟨_,rfl⟩,fo⟩
 .exact⟨eE,eE,rfl⟩
def Xx:List (List UInt8):=[[62,62,62],[60,60],[62,62],[60,61],[62,61],[61,61],[33,61]]
theorem Xy{cfg:Cfg}(O:Plain cfg 145)(hplan:∀id,cfg.plan 145 id=.text)(s:List UInt8)(g:s≠[])(hs:s.length<2^60)(H:Hp):
 za9 Try.prog cfg 145 [.str s] H fun v H'=>(∃n:Nat,v=.int .i64 n/\n<=s.length)/\H'=H:=by
 have V:0<s.length:=tH.2 g;have hg0:s[0]?=some s[0]:=aY V;have m:zb5 Try.prog 182 [(0,.str [62,62,62]),(1,.str [60,60]),(2,.str [62,62]),(3,.str [60,61]),(4,.str [62,61]),(5,.str [61,61]),(6,.str [33,61])]=some (.agg [.str [62,62,62],.str [60,60],.str [62,62],.str [60,61],.str [62,61],.str [61,61],.str [33,61]]):=ah;refine zbs (M:=35) (rs:=[.tmp 2]) (O.call _) O.ice O.froz Try.func145 rfl rfl Jv.2 rfl ?_;dsimp only[Jv,zbj,Nat.reduceAdd];repeat' (first
  |(apply ai ?_;clear hK K)|apply Rx.o ?_|apply aq ?_|(apply zaW fun K hK=>?_)|apply aO ?_|fail)
 refine nT (fun i E H'=>E.at 0=.str s/\E.at 6=.agg [.str [62,62,62],.str [60,60],.str [62,62],.str [60,61],.str [62,61],.str [61,61],.str [33,61]]/\E.at 7=.int .i64 i/\H'=H) 7 ?_ ?_
 .rintro i E H' hi ⟨k0,k6,k7,rfl⟩;repeat' (first
   |(apply ai ?_;clear hK K)|apply Rx.o ?_|(apply bu (fun o z=>?_) (fun o z=>?_)<;>try(cases o;done))|apply aq ?_|(apply zaW fun K hK=>?_)|apply aO ?_|apply za8 ?_|apply zbW ?_)
  .have Z:i<7:=by omega
   have J:∃w:List UInt8,nH Try.prog 182 (.agg [.str [62,62,62],.str [60,60],.str [62,62],.str [60,61],.str [62,61],.str [61,61],.str [33,61]]) (.int .i64 i)=some (.str w):=by
    refine⟨Xx.getD i [],?_⟩;rcases(show i=0\/i=1\/i=2\/i=3\/i=4\/i=5\/i=6 by omega)with rfl|rfl|rfl|rfl|rfl|rfl|rfl<;>kernel_rfl
   obtain⟨w,hw1⟩:=J;repeat' (first
    |(apply ai ?_;clear hK K)|apply Rx.o ?_|(apply da (fun C Y=>?_) (fun C Y=>?_)<;>try(cases C;done))|(apply bu (fun o z=>?_) (fun o z=>?_)<;>try(cases o;done))|apply aq ?_|(apply zaW fun K hK=>?_)|apply za8 ?_|fail)
   .have I:w.length<=s.length:=by omega
    repeat' (first
     |(apply ai ?_;clear hK K)|apply Rx.o ?_|(apply da (fun C Y=>?_) (fun C Y=>?_)<;>try(cases C;done))|(apply bu (fun o z=>?_) (fun o z=>?_)<;>try(cases o;done))|apply aq ?_|(apply zaW fun K hK=>?_)|apply za8 ?_|apply aN ?_|fail)
    .all_goals (refine⟨za2,_,za7,?_⟩;try simp only[za0])
     exact⟨⟨w.length,rfl,I⟩,fo⟩
    .refine⟨Z,eE,eE,?_,fo⟩;simp only[iF,Nat.reduceBEq,gy,zcL (show i<2^62 by omega)]
   .refine⟨Z,eE,eE,?_,fo⟩;simp only[iF,Nat.reduceBEq,gy,zcL (show i<2^62 by omega)]
  .repeat' (first
    |(apply ai ?_;clear hK K)|fail)
   refine nT (fun i E L=>E.at 0=.str s/\E.at 5=.int .i64 i/\L=H') 23 ?_ ?_
   .rintro j E L hj ⟨k0,k5,rfl⟩;repeat' (first
     |(apply ai ?_;clear hK K)|apply Rx.o ?_|(apply bu (fun o z=>?_) (fun o z=>?_)<;>try(cases o;done))|apply aq ?_|(apply zaW fun K hK=>?_)|(apply sq 10 fun K hK=>?_)|apply aO ?_|apply za8 ?_|apply aN ?_|apply zbW ?_)
    .have Z:j<23:=by omega
     have U:∃b,([43,45,42,47,37,38,124,94,126,33,60,62,61,63,58,59,44,40,41,123,125,91,93]:List UInt8)[j]?=some b:=by
      rw[aY (by simpa using Z)];exact⟨_,rfl⟩
     obtain⟨b,U⟩:=U;repeat' (first
      |(apply ai ?_;clear hK K)|apply Ry.o ?_|(apply bi (fun o z=>?_) (fun o z=>?_)<;>try(cases o;done))|apply aq ?_|(apply zaW fun K hK=>?_)|apply za8 ?_|apply aN ?_|fail)
     .all_goals (refine⟨za2,_,za7,?_⟩;try simp only[za0])
      exact⟨⟨1,rfl,V⟩,fo⟩
     .refine⟨Z,eE,?_,fo⟩;simp only[iF,Nat.reduceBEq,gy,zcL (show j<2^62 by omega)]
    .all_goals (refine⟨za2,_,za7,?_⟩;try simp only[za0])
     exact⟨⟨0,rfl,dg _⟩,fo⟩
   .exact⟨eE,eE,rfl⟩
 .exact⟨eE,eE,eE,rfl⟩
end
section
def tyW4h.tyF:=ad @cQ (ad @cW (ad @yl (ad @BR (@Try.underlying9))))
open tyW4h
structure Lexers (cfg:Cfg):Prop where
 let_:Plain cfg 151
 dig:Plain cfg 146
 word:Plain cfg 144
 space:Plain cfg 133
 num:Plain cfg 147
 sym:Plain cfg 145
 first:Plain cfg 134
 scan:Plain cfg 112
 plan:∀id,cfg.plan 145 id=.text
 keep:cfg.keep 112=false
theorem zH(a:Int)(x:List UInt8):zb5 Try.prog 119 [(0,.int .i64 a),(1,.str x)]=some (.agg [.int .i64 a,.str x,.int .i64 0]):=ah
theorem zI:zb5 Try.prog 119 []=some (.agg [.int .i64 0,.str [],.int .i64 0]):=ah
theorem t8(a b c:AV):zbJ 3 [a,b,c]=some (.agg [a,b,c]):=rfl
theorem sO(H:Hp)(a b:HB):FrB 0 H ((H.alloc a).set H.next b):=((gW _ _).alloc _).set (.inl (aA _)) _
theorem Xz{cfg:Cfg}(I:Lexers cfg)(s:List UInt8)(C:s≠[])(j:s.length<2^60)(H:Hp):
 za9 Try.prog cfg 134 [.str s] H fun v H'=>(∃k e,v=.tup [.agg k.cells,.int .i64 e]/\GC s k e)/\FrB 0 H H':=by
 have O:=I.first
 have U:0<s.length:=tH.2 C;have L:s[0]?=some s[0]:=aY U;have Z:=Gz s;refine zbs (M:=41) (rs:=[.cell 2 119,.tmp 3]) (O.call _) O.ice O.froz Try.func134 rfl rfl Jw.2 rfl ?_;dsimp only[Jw,zbj,Nat.reduceAdd];repeat' (first
  |(apply ai ?_;clear hK K)|apply Rx.o ?_|apply aq ?_|(apply zaW fun K hK=>?_)|fail)
 refine aK rfl aL aM ?_;simp only[aR];refine aI ?_ (Xv I.word I.let_ I.dig s j _);rintro v _ ⟨rfl,rfl⟩;dsimp only[za1];have Y:=@zH;have V:=@zI;repeat' (first
  |(apply ai ?_;clear hK K)|apply Ry.o ?_|(apply bi (fun o z=>?_) (fun o z=>?_)<;>try(cases o;done))|apply aq ?_|(apply zaW fun K hK=>?_)|apply aO ?_|fail)
 .refine aK rfl aL aM ?_;simp only[aR];refine aI ?_ (Xy I.sym I.plan s C j _);rintro v _ ⟨⟨n,rfl,hn⟩,rfl⟩;dsimp only[za1];have Y:=@zH;have V:=@zI;repeat' (first
   |(apply ai ?_;clear hK K)|apply Rx.o ?_|apply bN ?_|(apply bu (fun o z=>?_) (fun o z=>?_)<;>try(cases o;done))|apply aq ?_|(apply zaW fun K hK=>?_)|apply za8 ?_|apply aN ?_)
  .refine⟨za2,_,(by(try simp only[za4,zbg,Nat.reduceBEq,tyF,zb9,zch,t8, *]);first|done|with_reducible rfl),?_⟩;try simp only[za0]
   exact⟨⟨⟨0,[],0⟩,2,rfl,rfl,aw,fun i=>ac⟩,sO _ _ _⟩
  .refine⟨za2,_,(by(try simp only[za4,zbg,Nat.reduceBEq,tyF,zb9,zch,t8, *]);first|done|with_reducible rfl),?_⟩;try simp only[za0]
   refine⟨⟨⟨3,s.take n,0⟩,0,rfl,rfl,fun _=>⟨n,ac,hn,rfl,aw⟩,fun i=>ac⟩,sO _ _ _⟩
 .refine aK rfl aL aM ?_;simp only[aR];refine aI ?_ (Dc I.dig s[0].toNat _);rintro v _ ⟨rfl,rfl⟩;dsimp only[za1];have hsl:=BR (P:=Try.prog) (k:=.i64) (s:=s) Try.underlying9 Z;have Y:=@zH;have V:=@zI;repeat' (first
   |(apply ai ?_;clear hK K)|apply Rx.o ?_|apply bN ?_|(apply bu (fun o z=>?_) (fun o z=>?_)<;>try(cases o;done))|apply aq ?_|(apply zaW fun K hK=>?_)|apply za8 ?_|apply aN ?_)
  .have J:s.take (zcO s)≠[]:=by
    intro h;have:=ju List.length h;rw[jr,tu Z,ed]at this;omega
   refine aK rfl aL aM ?_;simp only[aR];refine aI ?_ (Xw I.num I.dig (s.take (zcO s)) J tq _);rintro v _ ⟨⟨ok,rfl⟩,rfl⟩;dsimp only[za1];have Y:=@zH;have V:=@zI;repeat' (first
    |(apply ai ?_;clear hK K)|apply Rx.o ?_|apply bN ?_|(apply bu (fun o z=>?_) (fun o z=>?_)<;>try(cases o;done))|apply aq ?_|(apply zaW fun K hK=>?_)|apply za8 ?_|apply aN ?_)
   .refine⟨za2,_,(by(try simp only[za4,zbg,Nat.reduceBEq,tyF,zb9,zch,t8, *]);first|done|with_reducible rfl),?_⟩;try simp only[za0]
    refine⟨⟨⟨0,[],0⟩,2,rfl,rfl,aw,fun i g m=>?_⟩,sO _ _ _⟩;have:=m _ L;simp_all
   .refine⟨za2,_,(by(try simp only[za4,zbg,Nat.reduceBEq,tyF,zb9,zch,t8, *]);first|done|with_reducible rfl),?_⟩;try simp only[za0]
    refine⟨⟨⟨2,s.take (zcO s),0⟩,0,rfl,rfl,fun _=>⟨zcO s,ac,Z,rfl,aw⟩,fun i g m=>?_⟩,sO _ _ _⟩;have:=m _ L;simp_all
  .refine⟨za2,_,(by(try simp only[za4,zbg,Nat.reduceBEq,tyF,zb9,zch,t8, *]);first|done|with_reducible rfl),?_⟩;try simp only[za0]
   exact⟨⟨⟨0,[],0⟩,6,rfl,rfl,aw,fun i g=>ac⟩,sO _ _ _⟩
  .refine⟨za2,_,(by(try simp only[za4,zbg,Nat.reduceBEq,tyF,zb9,zch,t8, *]);first|done|with_reducible rfl),?_⟩;try simp only[za0]
   refine⟨⟨⟨1,s.take (zcO s),0⟩,0,rfl,rfl,fun _=>⟨zcO s,ac,Z,rfl,fun _=>⟨rfl,ac,fun b o=>?_⟩⟩,fun _ _ _=>⟨rfl,rfl⟩⟩,sO _ _ _⟩;rw[L]at o;simp only[az]at o;subst o;assumption
end
section
def tyW4i.tyF:=ad @cQ (ad @cW (ad @sm (ad @B0 (ad @B3 (@yl)))))
open tyW4i
theorem Jy(a b:Int):zb5 Try.prog 63 [(0,.int .i64 a),(1,.int .i64 b)]=some (.agg [.int .i64 a,.int .i64 b]):=ah
theorem Jz:zb5 Try.prog 63 []=some (.agg [.int .i64 0,.int .i64 0]):=ah
theorem Dd(a b:AV):zbJ 2 [a,b]=some (.agg [a,b]):=rfl
theorem XA(k:Tk)(x:Int):List.take 2 k.cells++[.int .i64 x]++List.drop 3 k.cells=(Tk.mk k.kind k.text x).cells:=rfl
theorem XB(H:Hp)(k:Tk):zcv Try.prog H 90 1 [(0,.agg k.cells)]=some (.sl H.next 0 1 3,H.alloc (.cells k.cells 0 true)):=ah
theorem XC{zbk H:Hp}{L:AV}{M:List Tk}(K:tG zbk.next H L M)(C:FrB 0 zbk H)(Y:zbk.next<H.next)(k:Tk){U:Nat}(m:H.get U=some (.cells k.cells 0 true))(hb:M.length<2^40):
 ∃V,zcg Try.prog false H 90 90 L (.sl U 0 1 3)=some (.sl H.next 0 (M.length+1) 3,V)/\V.next=H.next+1/\tG zbk.next V (.sl H.next 0 (M.length+1) 3) (M++[k])/\FrB 0 zbk V/\∀j,j<H.next->L≠.sl j 0 M.length 3->V.get j=H.get j:=by
 have Z:zcM H 3 (.sl U 0 1 3)=some (0+1,k.cells):=by
  have:=sf (H:=H) (r:=U) (o:=0) (n:=1) (z:=3) (s:=3) m (by rw[fT,jr,Tk.clen];rfl);rw[this,fT,eI (by rw[Tk.clen];omega)]
 have O:zcw=70368744177664:=rfl;rcases K with⟨rfl,rfl⟩|⟨r,rfl,i,q3,q4,q5⟩
 .refine⟨H.alloc (.cells k.cells 0 true),?_,rfl,.inr ⟨H.next,aw,?_,Y,cJ _,aw⟩,C.alloc _,fun j g _=>?_⟩
  .exact append_nil Try.underlying90 yk B4 B5 ah Z k.one rfl uF uF
  .rw[zaY,aj rfl];simp
  .rw[zaY,af ac]
 .refine⟨(H.kill r).alloc (.cells (M.flatMap Tk.cells++k.cells) 0 true),?_,rfl,.inr ⟨H.next,aw,?_,Y,cJ _,aw⟩,(C.kill ac).alloc _,fun j g J=>?_⟩
  .exact Ok Try.underlying90 yk B4 B5 ah Z k.one rfl i (GD M) uF uF
  .show((H.kill r).alloc _).get (H.kill r).next=_
   rw[zaY,aj rfl];simp
  .have I:¬j=r:=fun e=>J m0;rw[zaY,af lC,zcW,af I]
def XD(s:List UInt8)(H:Hp)(v:AV)(H':Hp):Prop:=
 ∃(i U:Int) (lv:AV),v=.tup [lv,.agg [.int .i64 i,.int .i64 U]]/\FrB 0 H H'/\((i≠0/\¬qR s)\/(i=0/\∃ts,tG H.next H' lv ts/\yx s ts/\(qR s->ts=[⟨1,s,0⟩])))
theorem XE{cfg:Cfg}(hx:Lexers cfg)(s:List UInt8)(hs:s.length<2^60)(H:Hp):za9 Try.prog cfg 112 [.str s] H (XD s H):=by
 have hw:=hx.scan;refine zbs (M:=49) (rs:=[.tmp 2,.cell 3 63]) (hw.call _) hw.ice hw.froz Try.func112 rfl rfl Jx.2 rfl ?_;dsimp only[Jx,zbj,Nat.reduceAdd];have gh0:=@Jy;have gh1:=@Jz;repeat' (first
  |(apply ai ?_;clear hK K)|apply Rx.o ?_|apply bN ?_|(apply bu (fun o z=>?_) (fun o z=>?_)<;>try(cases o;done))|apply aq ?_|(apply zaW fun K hK=>?_)|apply za8 ?_|apply aN ?_|fail)
 .refine⟨za2,_,(by(try simp only[za4,zbg,Nat.reduceBEq,tyF,zb9,zch,Dd, *]);first|done|with_reducible rfl),?_⟩;try simp only[za0]
  refine⟨6,20000,.nilS,rfl,sO _ _ _,.inl ⟨aw,fun h=>?_⟩⟩;have:=h.2.2.1;omega
 .refine aK rfl aL aM ?_;simp only[aR];refine aI ?_ (Ju hx.space s hs _);rintro v _ ⟨rfl,rfl⟩;dsimp only[za1];repeat' (first
   |(apply ai ?_;clear hK K)|apply Rx.o ?_|apply aO ?_|fail)
  have hsp:=tF false s;refine vj (fun n E I=>∃(U:Nat) (ts:List Tk) (lv:AV),n=s.length-U/\U<=s.length/\E.at 0=.str s/\E.at 3=.ptr H.next 0/\E.at 4=lv/\E.at 5=.int .i64 U/\FrB 0 H I/\H.next<I.next /\
   I.get H.next=some (.cells [.int .i64 0,.int .i64 0] 0 true)/\tG H.next I lv ts/\ts.length<=U/\yx s ts/\(ts=[]->U=zcA false s)/\(qR s->(ts=[]/\U=0)\/(ts=[⟨1,s,0⟩]/\U=s.length))) ?_ (n:=s.length-zcA false s) ?_
  .rintro n E I ⟨U,ts,lv,rfl,ha,h0,h3,h4,h5,g,hn2,hg2,O,htl,j,i,hnm⟩;have e1:(H.next == I.next)=false:=cc;repeat' (first
    |(apply ai ?_;clear hK K)|apply Rx.o ?_|apply bN ?_|(apply bu (fun o z=>?_) (fun o z=>?_)<;>try(cases o;done))|apply aq ?_|(apply zaW fun K hK=>?_)|apply aO ?_|apply za8 ?_|apply aN ?_|apply zbW ?_)
   .have hlt:U<s.length:=by omega
    have hslo:=FB (P:=Try.prog) (k:=.i64) (s:=s) (m:=U) Try.underlying9 ha;repeat' (first
     |apply Rx.o ?_|fail)
    have hne:s.drop U≠[]:=by
     intro h;have:=ju List.length h;rw[js,ed]at this;omega
    refine aK rfl aL aM ?_;simp only[aR];refine aI ?_ (Xz hx (s.drop U) hne Bf I);rintro v J ⟨⟨k,e,rfl,hk⟩,Z⟩;have hn3:=Z.next
    have hg3:J.get H.next=some (.cells [.int .i64 0,.int .i64 0] 0 true):=by rw[Z.get _ (dg _) hn2];exact hg2
    have Y:tG H.next J lv ts:=by
     rcases O with h|⟨r,q1,q2,q3,q4,q5⟩
     .exact .inl h
     .exact .inr ⟨r,q1,by rw[Z.get _ (dg _) q4];exact q2,q3,ac,q5⟩
    have e2:(H.next == J.next)=false:=cc;dsimp only[za1];have hx1:Ab.extract (.tup [.agg k.cells,.int .i64 e]) 0=some (.agg k.cells):=rfl;have hx2:Ab.extract (.tup [.agg k.cells,.int .i64 e]) 1=some (.int .i64 e):=rfl;have gh0:=@Jy;repeat' (first
     |(apply ai ?_;clear hK K)|apply Rx.o ?_|apply bN ?_|(apply bu (fun o z=>?_) (fun o z=>?_)<;>try(cases o;done))|apply aq ?_|(apply zaW fun K hK=>?_)|apply za8 ?_|apply aN ?_|fail)
    .have he:e≠0:=by simpa using o
     refine⟨za2,_,(by(try simp only[za4,zbg,Nat.reduceBEq,tyF,zb9,zch,Dd, *]);first|done|with_reducible rfl),?_⟩;try simp only[za0]
     refine⟨e,U,.nilS,rfl,?_,.inl ⟨he,fun h=>?_⟩⟩
     .exact((((g.trans Z).alloc _).set (.inl ac) _).set (.inl (aA _)) _)
     .rcases hnm h with⟨_,q⟩|⟨_,q⟩
      .subst q;exact he (hk.2.2 h.1 Jg h.2.2.2).1
      .omega
    .have he:e=0:=by simpa using o
     have gh0:=@XA;have gh1:=@XB;repeat' (first
      |apply Rx.o ?_|fail)
     generalize L:Tk.mk k.kind k.text (U:Int)=k';generalize C:Hp.alloc _ (HB.cells (Tk.cells k') 0 true)=H5;have hn5:H5.next=J.next+2:=vP
     have hg5:H5.get (J.next+1)=some (.cells k'.cells 0 true):=by rw[<-C];simp only[get_set,sd,zbb,zbl,BO,zB,gy,nS]
     have hg5a:H5.get J.next=some (.cells k'.cells 0 true):=by rw[<-C];simp only[get_set,sd,zbb,zbl,BN,zB,gy,nS]
     have hf5:FrB 0 J H5:=by rw[<-C];exact(((gW _ _).alloc _).set (.inl (aA _)) _).set (.inl (aA _)) _ |>.alloc _
     have hF5:FrB 0 H H5:=(g.trans Z).trans hf5;have hrep5:tG H.next H5 lv ts:=by
      rcases Y with h|⟨r,q1,q2,q3,q4,q5⟩
      .exact .inl h
      .exact .inr ⟨r,q1,by rw[hf5.get _ (dg _) q4];exact q2,q3,ac,q5⟩
     obtain⟨H6,p1,p2,p3,p4,p5⟩:=XC hrep5 hF5 ac k' hg5 ac;have hkeep:=hx.keep;have hg6:H6.get H.next=some (.cells [.int .i64 0,.int .i64 0] 0 true):=by
      rw[p5 _ ac (fun e=>by rcases Y with⟨_,q⟩|⟨r,q1,_,q3,_⟩<;>simp_all),hf5.get _ (dg _) ac];exact hg3
     have hg6a:H6.get J.next=some (.cells k'.cells 0 true):=by
      rw[p5 _ ac (fun e=>by rcases Y with⟨_,q⟩|⟨r,q1,_,q3,q4,_⟩<;>simp_all)];exact hg5a
     obtain⟨n,hn1,hn2',hkt,hkk⟩:=hk.2.1 he;rw[js]at hn2';have hktl:k'.text.length=n:=by rw[<-L];show k.text.length=n;rw[hkt,jr,js];omega
     have hwr:IntKind.wrap .i64 ((U:Int)+(n:Int))=((U+n:Nat):Int):=by rw[rW _ ac];omega
     have hslo2:=FB (P:=Try.prog) (k:=.i64) (s:=s) (m:=U+n) Try.underlying9 ac;refine qL eV eV (by rw[hkeep];exact p1) ?_;repeat' (first
      |(apply ai ?_;clear hK K)|apply Rx.o ?_|(apply zaW fun K hK=>?_)|fail)
     refine aK rfl aL aM ?_;simp only[aR];refine aI ?_ (Ju hx.space (s.drop (U+n)) Bf _);rintro v _ ⟨rfl,rfl⟩;dsimp only[za1];have hsp2:=tF false (s.drop (U+n));rw[js]at hsp2;have hwr2:IntKind.wrap .i64 (((U+n:Nat):Int)+(zcA false (s.drop (U+n)):Int))=((U+n+zcA false (s.drop (U+n)):Nat):Int):=by rw[rW _ ac];omega
     repeat' (first
      |(apply ai ?_;clear hK K)|apply Rx.o ?_|fail)
     refine⟨s.length-(U+n+zcA false (s.drop (U+n))),ac,U+n+zcA false (s.drop (U+n)),ts++[k'],.sl H5.next 0 (ts.length+1) 3,rfl,ac,eE,eE,eE,(by first|(simp only[za4,Nat.reduceBEq,i7, *];done)|rfl),p4,ac,hg6,p3,cc,fun t rest hr=>?_,aw,fun h=>.inr ?_⟩
     .cases ts with
      |nil=>
       simp only[oD,ez]at hr;obtain⟨rfl,_⟩:=hr;rw[<-i rfl];exact⟨k,by rw[<-he];exact hk,by rw[<-L],by rw[<-L]⟩
      |cons t0 ts=>
       simp only[nX,ez]at hr;obtain⟨rfl,_⟩:=hr;exact j _ _ rfl
     .rcases hnm h with⟨rfl,q⟩|⟨_,q⟩
      .subst q;have V:=(hk.2.2 h.1 Jg h.2.2.2).2;simp only[fT]at V hkt;have hwn:zcO s=s.length:=h.2.1;rw[hwn,xy]at V;have hns:n=s.length:=by
        have:=ju List.length hkt;rw[V,jr]at this;have h3:s.length=min n s.length:=this;omega
       have hkk2:k'=⟨1,s,0⟩:=by rw[<-L,V];rfl
       refine⟨by rw[hkk2];rfl,?_⟩;rw[hns];simp[zcA]
      .omega
   .have hat:U=s.length:=by omega
    have gh0:=@Jz;repeat' (first
     |(apply ai ?_;clear hK K)|fail)
    refine⟨za2,_,(by(try simp only[za4,zbg,Nat.reduceBEq,tyF,zb9,zch,Dd, *]);first|done|with_reducible rfl),?_⟩;try simp only[za0]
    refine⟨0,0,lv,rfl,g.set (.inl (aA _)) _,.inr ⟨rfl,ts,?_,j,fun h=>?_⟩⟩
    .rcases O with h|⟨r,q1,q2,q3,q4,q5⟩
     .exact .inl h
     .exact .inr ⟨r,q1,by rw[aC,af ac];exact q2,q3,q4,q5⟩
    .rcases hnm h with⟨_,q⟩|⟨q,_⟩
     .have:=h.1;have:=h.2.1;omega
     .exact q
  .refine⟨zcA false s,[],.nilS,rfl,hsp,eE,eE,eE,eE,(gW _ _).alloc _,eU,zdQ,.inl ⟨rfl,rfl⟩,aw,by simp[yx],fun _=>rfl,fun h=>.inl ⟨rfl,Vc h⟩⟩
end
section
def tyW4j.tyF:=ad @cQ (ad @cW (ad @sm (ad @B0 (ad @B3 (ad @yl (ad @gJ (ad @List.flatMap_cons.{0,0} (ad @List.flatMap_nil.{0,0} (@uP)))))))))
open tyW4j
noncomputable def JA:{c:SC // aD 44 (Try.f76.body.getD .skip)=c}:=by
 refine⟨?_,?_⟩;rotate_left
 .simp only[Try.f76,bP,aD,zby,zbt,zbA,zbB,Nat.blt,Nat.ble];rfl
noncomputable def JB:{c:SC // aD 15 (Try.f77.body.getD .skip)=c}:=by
 refine⟨?_,?_⟩;rotate_left
 .simp only[Try.f77,bP,aD,zby,zbt,zbA,zbB,Nat.blt,Nat.ble];rfl
theorem De{cfg:Cfg}(hx:Lexers cfg)(g:Plain cfg 76)(s:List UInt8)(hs:s.length<2^60)(H:Hp):
 za9 Try.prog cfg 76 [.str s] H fun v H'=>v=.bool (zb6 s)/\FrB 0 H H':=by
 refine zbs (M:=44) (rs:=[.tmp 2]) (g.call _) g.ice g.froz Try.func76 rfl rfl JA.2 rfl ?_;dsimp only[JA,zbj,Nat.reduceAdd];repeat' (first
  |(apply ai ?_;clear hK K)|apply Rx.o ?_|apply aq ?_|(apply zaW fun K hK=>?_)|fail)
 refine aK rfl aL aM ?_;simp only[aR];refine aI ?_ (XE hx s hs H);rintro v H2 ⟨Y,U,lv,rfl,O,V⟩;have hx1:Ab.extract (.tup [lv,.agg [.int .i64 Y,.int .i64 U]]) 0=some lv:=rfl;have hx2:Ab.extract (.tup [lv,.agg [.int .i64 Y,.int .i64 U]]) 1=some (.agg [.int .i64 Y,.int .i64 U]):=rfl;dsimp only[za1];have m:FrB 0 H ((H2.alloc (.cells [.int .i64 0,.int .i64 0] 0 true)).set H2.next (.cells [.int .i64 Y,.int .i64 U] 0 true)):=(O.alloc _).set (.inl O.next) _;rcases V with⟨h1,h2⟩|⟨rfl,ts,J,j,I⟩
 .have i:oR s=false:=by
   cases o:oR s with
   |false=>rfl
   |true=>exact(h2 ((yy s).1 o)).elim
  repeat' (first
   |(apply ai ?_;clear hK K)|apply Rx.o ?_|apply bN ?_|(apply da (fun C Z=>?_) (fun C Z=>?_)<;>try(cases C;done))|(apply bu (fun o z=>?_) (fun o z=>?_)<;>try(cases o;done))|apply aq ?_|(apply zaW fun K hK=>?_)|apply aN ?_)
  all_goals (refine⟨za2,_,za7,?_⟩;try simp only[za0])
  exact⟨Da,m⟩
 .rcases J with⟨rfl,rfl⟩|⟨r,rfl,q2,q3,q4,q5⟩
  .have i:oR s=false:=by
    cases o:oR s with
    |false=>rfl
    |true=>have:=I ((yy s).1 o);simp at this
   repeat' (first
    |(apply ai ?_;clear hK K)|apply Rx.o ?_|apply bN ?_|(apply da (fun C Z=>?_) (fun C Z=>?_)<;>try(cases C;done))|(apply bu (fun o z=>?_) (fun o z=>?_)<;>try(cases o;done))|apply aq ?_|(apply zaW fun K hK=>?_)|apply aN ?_)
   all_goals (refine⟨za2,_,za7,?_⟩;try simp only[za0])
   exact⟨Da,m⟩
  .have e1:(r == H2.next)=false:=by simp;omega
   by_cases hl:ts.length=1
   .obtain⟨k,rfl⟩:=List.length_eq_one_iff.1 hl;simp only[sn,Iv,aR]at q2;simp only[cS,ed,b4]at hx1 hx2⊢;have L:qR s↔(k.kind=1/\k.text=s):=⟨fun h=>by have:=I h;simp only[ez,br]at this;rw[this];exact⟨rfl,rfl⟩,fun h=>Vd j h.1 h.2⟩;have i:oR s=(decide (k.kind=1)&&decide (k.text=s)):=by
     rw[AF,yy,L];simp
    clear L I j;have hidx:zb1 Try.prog 90 (.sl r 0 1 3) (.int .i64 0)=some (.ptr r 0):=ah;repeat' (first
     |(apply ai ?_;clear hK K)|apply Ry.o ?_|apply dD ?_|(apply kT (fun C Z=>?_) (fun C Z=>?_)<;>try(cases C;done))|(apply bi (fun o z=>?_) (fun o z=>?_)<;>try(cases o;done))|apply aq ?_|(apply zaW fun K hK=>?_)|apply aO ?_|apply za8 ?_|apply aN ?_)
    all_goals (refine⟨za2,_,za7,?_⟩;try simp only[za0])
    all_goals (refine⟨?_,m⟩;simp only[zb6,i,GE];simp_all)
   .have i:oR s=false:=by
     cases o:oR s with
     |false=>rfl
     |true=>have:=I ((yy s).1 o);rw[this]at hl;simp at hl
    have hl2:decide ((ts.length:Int)=1)=false:=cc;repeat' (first
     |(apply ai ?_;clear hK K)|apply Rx.o ?_|apply bN ?_|(apply da (fun C Z=>?_) (fun C Z=>?_)<;>try(cases C;done))|(apply bu (fun o z=>?_) (fun o z=>?_)<;>try(cases o;done))|apply aq ?_|(apply zaW fun K hK=>?_)|apply aN ?_)
    all_goals (refine⟨za2,_,za7,?_⟩;try simp only[za0])
    exact⟨Da,m⟩
end
section
def tyW4k.tyF:=ad @cQ (ad @cW (ad @gJ (ad @eJ (ad @eA (@dX)))))
open tyW4k
noncomputable def JC:{c:SC // aD 23 (Try.f113.body.getD .skip)=c}:=by
 refine⟨?_,?_⟩;rotate_left
 .simp only[Try.f113,bP,aD,zby,zbt,zbA,zbB,Nat.blt,Nat.ble];rfl
noncomputable def JD:{c:SC // aD 27 (Try.f135.body.getD .skip)=c}:=by
 refine⟨?_,?_⟩;rotate_left
 .simp only[Try.f135,bP,aD,zby,zbt,zbA,zbB,Nat.blt,Nat.ble];rfl
noncomputable def zJ:{c:SC // aD 10 (Try.f115.body.getD .skip)=c}:=by
 refine⟨?_,?_⟩;rotate_left
 .simp only[Try.f115,bP,aD,zby,zbt,zbA,zbB,Nat.blt,Nat.ble];rfl
def rq(k z:Int):Bool:=if k=20\/k=21 then decide (z=1)else decide (4<=k)&&decide (k<=18)&&decide (z=2)
theorem XF{cfg:Cfg}(O:Plain cfg 113)(k z:Int)(H:Hp):
 za9 Try.prog cfg 113 [.int .i64 k,.int .i64 z] H fun v H'=>v=.bool (rq k z)/\H'=H:=by
 refine zbs (M:=23) (rs:=[.tmp 4]) (O.call _) O.ice O.froz Try.func113 rfl rfl JC.2 rfl ?_;dsimp only[JC,zbj,Nat.reduceAdd];repeat' (first
  |(apply ai ?_;clear hK K)|apply Rx.o ?_|(apply da (fun C o=>?_) (fun C o=>?_)<;>try(cases C;done))|(apply bu (fun Y Z=>?_) (fun Y Z=>?_)<;>try(cases Y;done))|apply aq ?_|(apply zaW fun K hK=>?_)|apply za8 ?_|apply aN ?_)
 all_goals
  all_goals (refine⟨za2,_,za7,?_⟩;try simp only[za0])
 all_goals (refine⟨?_,fo⟩;simp_all[rq]<;>omega)
theorem XG{cfg:Cfg}(O:Plain cfg 135)(x:Ex)(H:Hp):
 za9 Try.prog cfg 135 [.agg x.cells] H fun v H'=>v=.bool (zeroE x)/\FrB 0 H H':=by
 refine zbs (M:=27) (rs:=[.tmp 2]) (O.call _) O.ice O.froz Try.func135 rfl rfl JD.2 rfl ?_;dsimp only[JD,zbj,Nat.reduceAdd];repeat' (first
  |(apply ai ?_;clear hK K)|apply Rx.o ?_|(apply da (fun C o=>?_) (fun C o=>?_)<;>try(cases C;done))|apply aq ?_|(apply zaW fun K hK=>?_)|apply aN ?_)
 all_goals
  all_goals (refine⟨za2,_,za7,?_⟩;try simp only[za0])
 all_goals (refine⟨?_,(gW _ _).alloc _⟩;simp_all[zeroE])
def lN(s:List UInt8)(o:Bool):Bool:=if o then zb6 s else decide (s=[])
theorem XH{cfg:Cfg}(I:Lexers cfg)(V:Plain cfg 76)(O:Plain cfg 115)(s:List UInt8)(o:Bool)(J:s.length<2^60)(H:Hp):
 za9 Try.prog cfg 115 [.str s,.bool o] H fun v H'=>v=.bool (lN s o)/\FrB 0 H H':=by
 cases o
 .refine zbs (M:=10) (rs:=[.tmp 4]) (O.call _) O.ice O.froz Try.func115 rfl rfl zJ.2 rfl ?_;dsimp only[zJ,zbj,Nat.reduceAdd];repeat' (first
   |(apply ai ?_;clear hK K)|apply Rx.o ?_|(apply bu (fun Z z=>?_) (fun Z z=>?_)<;>try(cases Z;done))|apply aq ?_|(apply zaW fun K hK=>?_)|apply za8 ?_|apply aN ?_)
  all_goals (refine⟨za2,_,za7,?_⟩;try simp only[za0])
  exact⟨by simp[lN],gW _ _⟩
 .refine zbs (M:=10) (rs:=[.tmp 4]) (O.call _) O.ice O.froz Try.func115 rfl rfl zJ.2 rfl ?_;dsimp only[zJ,zbj,Nat.reduceAdd];repeat' (first
   |(apply ai ?_;clear hK K)|apply Rx.o ?_|(apply bu (fun Z z=>?_) (fun Z z=>?_)<;>try(cases Z;done))|apply aq ?_|(apply zaW fun K hK=>?_)|fail)
  refine aK rfl aL aM ?_;simp only[aR];refine aI ?_ (De I V s J H);rintro v m ⟨rfl,Y⟩;dsimp only[za1];repeat' (first
   |(apply ai ?_;clear hK K)|apply Rx.o ?_|apply aN ?_)
  all_goals (refine⟨za2,_,za7,?_⟩;try simp only[za0])
  exact⟨by simp[lN],Y⟩
theorem XI{cfg:Cfg}(I:Lexers cfg)(L:Plain cfg 76)(V:Plain cfg 77)(l:List (List UInt8))(hz:zco l<2^60)(H:Hp):
 za9 Try.prog cfg 77 [zbP l] H fun v H'=>v=.bool (l.all zb6)/\FrB 0 H H':=by
 have hl:l.length<2^60:=by have:=zdI l;omega
 refine zbs (M:=15) (rs:=[.tmp 2]) (V.call _) V.ice V.froz Try.func77 rfl rfl JB.2 rfl ?_;dsimp only[JB,zbj,Nat.reduceAdd];repeat' (first
  |(apply ai ?_;clear hK K)|apply Rx.o ?_|apply aq ?_|(apply zaW fun K hK=>?_)|apply aO ?_|fail)
 refine nT (fun i E U=>l.all zb6=(l.drop i).all zb6/\E.at 5=.lst (l.map fun s=>[.str s])/\E.at 6=.int .i64 l.length/\E.at 7=.int .i64 i/\FrB 0 H U) l.length ?_ ?_
 .rintro i E U J ⟨hc,h5,h6,h7,O⟩;repeat' (first
   |(apply ai ?_;clear hK K)|apply Rx.o ?_|(apply bu (fun o z=>?_) (fun o z=>?_)<;>try(cases o;done))|apply aq ?_|(apply zaW fun K hK=>?_)|apply aO ?_|apply za8 ?_|apply aN ?_|apply zbW ?_)
  .have Z:i<l.length:=by simpa using o
   have C:l[i]?=some l[i]:=aY Z;have g:=yr (dW Z);have Y:(l.drop i).all zb6=(zb6 l[i]&&(l.drop (i+1)).all zb6):=Db;repeat' (first
    |(apply ai ?_;clear hK K)|apply Rx.o ?_|apply aq ?_|(apply zaW fun K hK=>?_)|fail)
   refine aK rfl aL aM ?_;simp only[aR];refine aI ?_ (De I L l[i] ac U);rintro v H3 ⟨rfl,m⟩;dsimp only[za1];repeat' (first
    |(apply ai ?_;clear hK K)|apply Rx.o ?_|(apply bu (fun o z=>?_) (fun o z=>?_)<;>try(cases o;done))|apply aq ?_|(apply zaW fun K hK=>?_)|apply za8 ?_|apply aN ?_|fail)
   .all_goals (refine⟨za2,_,za7,?_⟩;try simp only[za0])
    exact⟨by rw[hc,Y];simp_all,O.trans m⟩
   .refine⟨Z,by rw[hc,Y];simp_all,eE,eE,?_,O.trans m⟩;simp only[iF,Nat.reduceBEq,gy,zcL (show i<2^62 by omega)]
  .all_goals (refine⟨za2,_,za7,?_⟩;try simp only[za0])
   have j:i=l.length:=vO;exact⟨by rw[hc,j];simp,O⟩
 .exact⟨aw,eE,eE,eE,gW _ _⟩
end
section
def tyP4a.tyF:=ad @eJ (ad @cQ (ad @cW (ad @eA (ad @dX (ad @yd (@Gc))))))
open tyP4a
noncomputable def JE:{c:SC // aD 27 (Try.f114.body.getD .skip)=c}:=by
 refine⟨?_,?_⟩;rotate_left
 .simp only[Try.f114,bP,aD,zby,zbt,zbA,zbB,Nat.blt,Nat.ble];rfl
noncomputable def JF:{c:SC // aD 87 (Try.f79.body.getD .skip)=c}:=by
 refine⟨?_,?_⟩;rotate_left
 .simp only[Try.f79,bP,aD,zby,zbt,zbA,zbB,Nat.blt,Nat.ble];rfl
noncomputable def zK:{c:SC // aD 10 (Try.f116.body.getD .skip)=c}:=by
 refine⟨?_,?_⟩;rotate_left
 .simp only[Try.f116,bP,aD,zby,zbt,zbA,zbB,Nat.blt,Nat.ble];rfl
theorem XJ{l:List En}(h:∀f,f∈[151,146,144,133,147,145,134,112]->(∀Y,zcu l f Y=none)/\lB l f=false):Lexers (za3 pls l) where
 let_:=zcB (h _ aw).1 (h _ aw).2
 dig:=zcB (h _ aw).1 (h _ aw).2
 word:=zcB (h _ aw).1 (h _ aw).2
 space:=zcB (h _ aw).1 (h _ aw).2
 num:=zcB (h _ aw).1 (h _ aw).2
 sym:=zcB (h _ aw).1 (h _ aw).2
 first:=zcB (h _ aw).1 (h _ aw).2
 scan:=zcB (h _ aw).1 (h _ aw).2
 plan _:=by first|rfl|kernel_rfl
 keep:=rfl
theorem Df:Lexers (za3 pls []):=XJ fun f _=>⟨fun _=>rfl,rfl⟩
theorem XK(ρ:Nat->Int)(s:List UInt8)(J:s.length<2^60):cn Try.prog ρ 76 [.str s] (.bool (zb6 s)):=
 zda fit (pls:=pls) (l:=[]) trivial (.cons (.str _) .nil) (.bool _) (aI (fun v H h=>h.1) (De Df (zc4 _) s J zbk))
theorem XL(ρ:Nat->Int)(x:Int×Nat):cn Try.prog ρ 113 [.int .i64 x.1,.int .i64 x.2] (.bool (rq x.1 x.2)):=
 zda fit (pls:=pls) (l:=[]) trivial (.cons (.int _ _) (.cons (.int _ _) .nil)) (.bool _) (aI (fun v H h=>h.1) (XF (zc4 _) x.1 x.2 zbk))
theorem XM(ρ:Nat->Int)(x:Ex):cn Try.prog ρ 135 [.agg x.cells] (.bool (zeroE x)):=
 zda fit (pls:=pls) (l:=[]) trivial (.cons (.agg x.pure) .nil) (.bool _) (aI (fun v H h=>h.1) (XG (zc4 _) x zbk))
theorem XN(ρ:Nat->Int)(l:List (List UInt8))(K:zco l<2^60):cn Try.prog ρ 77 [zbP l] (.bool (l.all zb6)):=
 zda fit (pls:=pls) (l:=[]) trivial (.cons (vG _) .nil) (.bool _) (aI (fun v H h=>h.1) (XI Df (zc4 _) (zc4 _) l K zbk))
theorem XO(ρ:Nat->Int)(s:List UInt8)(w:Bool)(J:s.length<2^60):cn Try.prog ρ 115 [.str s,.bool w] (.bool (lN s w)):=
 zda fit (pls:=pls) (l:=[]) trivial (.cons (.str _) (.cons (.bool _) .nil)) (.bool _) (aI (fun v H h=>h.1) (XH Df (zc4 _) (zc4 _) s w J zbk))
def sP(k:Int):List Bool:=
 if k=1 then [true,false,false,false,true,false,false,false]
 else if k=2 then [true,false,false,true,true,false,false,false]
 else if k=3 then [false,false,false,false,true,false,true,true]
 else if k=4 then [false,false,false,false,true,false,true,false]
 else if k=5 then [false,false,false,false,true,false,false,false]
 else if k=6 then [true,true,false,false,false,true,false,false]
 else if k=7 then [false,false,true,false,false,false,false,false]
 else [false,false,false,false,false,false,false,false]
def jD(k:Int):Bool:=decide (1<=k)&&decide (k<=7)
def t9(k:Int):AV:=.tup [.agg ((sP k).map .bool),.bool (jD k)]
theorem XP(a b c d e f g h:AV):zbJ 8 [a,b,c,d,e,f,g,h]=some (.agg [a,b,c,d,e,f,g,h]):=rfl
theorem XQ(ρ:Nat->Int)(k:Int):cn Try.prog ρ 114 [.int .i64 k] (t9 k):=zda fit (pls:=pls) (l:=[]) trivial (.cons (.int _ _) .nil) (.tup (.cons (.agg fun v Z=>by
 obtain⟨b,_,rfl⟩:=kJ.1 Z;exact .bool b) (.cons (.bool _) .nil))) (by
 have O:=zc4 114;have Y:zb5 Try.prog 162 [(0,.bool true),(4,.bool true)]=some (.agg [.bool true,.bool false,.bool false,.bool false,.bool true,.bool false,.bool false,.bool false]):=ah;have V:zb5 Try.prog 162 [(0,.bool true),(3,.bool true),(4,.bool true)]=some (.agg [.bool true,.bool false,.bool false,.bool true,.bool true,.bool false,.bool false,.bool false]):=ah;have U:zb5 Try.prog 162 [(4,.bool true),(6,.bool true),(7,.bool true)]=some (.agg [.bool false,.bool false,.bool false,.bool false,.bool true,.bool false,.bool true,.bool true]):=ah;have L:zb5 Try.prog 162 [(4,.bool true),(6,.bool true)]=some (.agg [.bool false,.bool false,.bool false,.bool false,.bool true,.bool false,.bool true,.bool false]):=ah;have J:zb5 Try.prog 162 [(4,.bool true)]=some (.agg [.bool false,.bool false,.bool false,.bool false,.bool true,.bool false,.bool false,.bool false]):=ah;have C:zb5 Try.prog 162 [(0,.bool true),(1,.bool true),(5,.bool true)]=some (.agg [.bool true,.bool true,.bool false,.bool false,.bool false,.bool true,.bool false,.bool false]):=ah;have I:zb5 Try.prog 162 [(2,.bool true)]=some (.agg [.bool false,.bool false,.bool true,.bool false,.bool false,.bool false,.bool false,.bool false]):=ah;have i:zb5 Try.prog 162 []=some (.agg [.bool false,.bool false,.bool false,.bool false,.bool false,.bool false,.bool false,.bool false]):=ah;refine zbs (M:=27) (rs:=[.cell 2 162,.tmp 3]) (O.call _) O.ice O.froz Try.func114 rfl rfl JE.2 rfl ?_;dsimp only[JE,zbj,Nat.reduceAdd];repeat' (first
  |(apply ai ?_;clear hK K)|apply Rx.o ?_|apply bN ?_|(apply bu (fun o z=>?_) (fun o z=>?_)<;>try(cases o;done))|apply aq ?_|(apply zaW fun K hK=>?_)|apply aO ?_|apply za8 ?_|apply aN ?_)
 all_goals
  refine⟨za2,_,(by(try simp only[za4,zbg,Nat.reduceBEq,tyF,zb9,zch,XP, *]);first|done|with_reducible rfl),?_⟩;try simp only[za0]
 all_goals
  first
  |(simp_all[t9,sP,jD];done)
  |(have m:jD k=false:=by
     simp only[jD,wr,kR];omega
    simp_all[t9,sP];done))
theorem XR(k:Int)(n:Nat):rq k n=((decide ((n:Int)=2)&&tJ k)||(decide ((n:Int)=1)&&(decide (k=20)||decide (k=21)))):=by
 unfold rq tJ;by_cases h:k=20\/k=21
 .rw[aj h];rcases h with rfl|rfl<;>simp
 .rw[af h];have i:¬k=20:=fun e=>h (.inl e);have g:¬k=21:=fun e=>h (.inr e);simp only[i,g,iZ,kS,oS];cases decide (4<=k)<;>cases decide (k<=18)<;>cases decide ((n:Int)=2)<;>rfl
noncomputable def wt:En:=⟨76,false,dA (fun s=>s.length<2^60) tK fun s=>.bool (zb6 s)⟩
theorem JG(ρ:Nat->Int):fk Try.prog ρ wt:=zcQ fun x I=>XK ρ x I
def wu(x:Int×Nat):List AV:=[.int .i64 x.1,.int .i64 x.2]
theorem XS(x y:Int×Nat)(h:wu x=wu y):x=y:=by
 simp only[wu,ez,AV.int.injEq,br,kK]at h;exact vV h.1 ac
noncomputable def ww:En:=⟨113,false,dA (fun _=>True) wu fun x=>.bool (rq x.1 x.2)⟩
theorem JH(ρ:Nat->Int):fk Try.prog ρ ww:=zcQ fun x _=>XL ρ x
noncomputable def JI:En:=⟨135,false,dA (fun _=>True) vL fun x=>.bool (zeroE x)⟩
theorem XT(ρ:Nat->Int):fk Try.prog ρ JI:=zcQ fun x _=>XM ρ x
theorem XU{l:List En}(U:∀L,zcu l 76 L=wt.sp L)(J:∀L,zcu l 113 L=ww.sp L)(Y:(∀L,zcu l 79 L=none)/\lB l 79=false){base:Nat}{I:Hp->Prop}(m:rp base I):
 t4 (za3 pls l) base I 79 [] fun x _=>kw x:=by
 intro x d H hz o j;have O:Plain (za3 pls l) 79:=zcB Y.1 Y.2;have g:∀s:List UInt8,s.length<2^60->∀H,za9 Try.prog (za3 pls l) 76 [.str s] H fun v H'=>v=.bool (zb6 s)/\H'=H:=fun s i H=>zcz (enc:=tK) (out:=fun x=>.bool (zb6 x)) GH (x:=s) (U _) i;have ko:∀(k:Int) (n:Nat),∀H,za9 Try.prog (za3 pls l) 113 [.int .i64 k,.int .i64 n] H fun v H'=>v=.bool (rq k n)/\H'=H:=fun k n H=>zcz (enc:=wu) (out:=fun x=>.bool (rq x.1 x.2)) XS (x:=(k,n)) (J _) trivial;have hsz:=x.sz_eq;refine zbs (M:=87) (rs:=[.tmp 4]) (O.call _) O.ice O.froz Try.func79 rfl rfl JF.2 rfl ?_;dsimp only[JF,zbj,Nat.reduceAdd];repeat' (first
  |(apply ai ?_;clear hK K)|apply Rx.o ?_|(apply mn ?_;first|refine zbV (g _ ac _) ?_|refine zbV (ko _ _ _) ?_)|(apply da (fun C Z=>?_) (fun C Z=>?_)<;>try(cases C;done))|(apply bu (fun V z=>?_) (fun V z=>?_)<;>try(cases V;done))|apply aq ?_|(apply zaW fun K hK=>?_)|apply aO ?_|apply za8 ?_|apply aN ?_)
 all_goals
  all_goals (refine⟨za2,_,za7,?_⟩;try simp only[za0])
  refine⟨?_,(gW _ _).alloc _,m _ _ j ((nY _ _).alloc o _)⟩;rw[kw];(try rw[XR]);(try simp only[kW]at *);simp only[*,iZ,kS,gX,oS,fI,gm,cZ,de,Int.reduceEq]
end
end Go.Proofs.Ytpbcimfiofmoeaa
