/-
  The Go function fullinglaw9.EvalFuelMonotonic returns true whatever its six arguments are, and leaves all memory that was there as it was. Conditions: none.
-/
import Derived.OpenShut
import Derived.ProofKit
import Derived.Test.YtbflaciihaijgaaGreatUET
import Derived.WalkKit
set_option linter.all false
set_option maxHeartbeats 32000000
namespace Go.Ab
set_option maxRecDepth 20000
open Go
def BQ:=@Go.ChangeShapes.trodAll_cons
def zV:=@Go.trodAll_cons_mk
end Go.Ab
namespace Go.Proofs.YtbflaciihaijgaaGreat.evalFuelMonotonic
set_option maxRecDepth 20000
open Go Go.Ab Proofs.Tryz
def tyEvalFuelMonotonic.tyF:=ad @dm (ad @cG (ad @ij (ad @kJ (ad @oQ (ad @jJ (@GW))))))
open tyEvalFuelMonotonic Go.ChangeShapes Go.WideShapes Go.ChangeAt Go.RowKit
def own:ownKnob prog.godebug=none:=ax
noncomputable def JB:=qd (M:=78) f6.eq_1
noncomputable def YX:En:=⟨21,false,co (fun o=>o.out.length<2^60) (fun o=>[ky o,ky o]) fun _=>.bool true⟩
def znx(ρ:Nat->Int):de prog ρ YX:=dA fun o I=>zmq ρ o I
noncomputable def tZ:qH:=[YD,XN,XO,wo,YI,YX,YO]
def zny(ρ:Nat->Int):gX prog ρ tZ:=⟨zne ρ,zmu ρ,zmw ρ,Il ρ,zno ρ,znx ρ,znr ρ,trivial⟩
theorem YY(a b c d:AV):cr 4 [a,b,c,d]=some (.agg [a,b,c,d]):=rfl
section
def kUn(l:qA)(L:l.length<2^63)(Z:iL l)(H:Hp):aR prog (aA pls tZ) 15 [hY l] H fun v H'=>v=.agg (jo l).cells/\H'=H:=
 cQ (x:=l) (enc:=fun l=>[hY l]) (ok:=fun l=>l.length<2^63/\iL l) (out:=fun l=>.agg (jo l).cells) (fun x y h=>Ws lV) rfl ⟨L,Z⟩
def YZ(a b w:Int)(H:Hp):aR prog (aA pls tZ) 9 [.int .i64 a,.int .i64 b,.int .i64 w] H fun v H'=>v=.aE [[.int .i64 (jW a w)],[.int .i64 (jW b w)]]/\H'=H:=
 cQ (x:=(⟨a,b,w⟩:zf8)) (enc:=zR) (out:=fun x=>hY (Oj x)) zmr rfl trivial
def znz(n:Int)(H:Hp):aR prog (aA pls tZ) 13 [.int .i64 n] H fun v H'=>v=.int .i64 (cK n 12)/\H'=H:=
 cQ (x:=n) (enc:=fun n:Int=>[.int .i64 n]) (out:=fun n=>.int .i64 (cK n 12)) (fun x y h=>lV) rfl trivial
def Y0{x:znI}{o:Oc}(I:zd3 x o)(H:Hp):aR prog (aA pls tZ) 22 (wB x) H fun v H'=>v=ky o/\H'=H:=by
 have:aR prog (aA pls tZ) 22 (wB x) H fun v H'=>v=ky (EN x)/\H'=H:=cQ (x:=x) (enc:=wB) (ok:=fun y=>∃o,zd3 y o) (out:=fun y=>ky (EN y)) znq rfl ⟨o,I⟩;rw[YH I]at this;exact this
def znA(o:Oc)(I:o.out.length<2^60)(H:Hp):aR prog (aA pls tZ) 21 [ky o,ky o] H fun v H'=>v=.bool true/\H'=H:=
 cQ (x:=o) (enc:=fun o=>[ky o,ky o]) (out:=fun _=>.bool true) zns rfl I
theorem OJ(H:Hp):aR prog (aA pls tZ) 24 [] H fun v H'=>v=.bool true/\H'=H:=aR.kn rfl
end
def znB{p:Pr}{nm:aY}{al:qA}{f d:Int}(hd:0<=d)(Y:f+d<=1000)(h:zf7.ok ⟨p,nm,al,f⟩)(C:zf7.ok ⟨p,nm,al,f+d⟩):
 ((nL ⟨p,nm,al,f⟩).az=3/\(nL ⟨p,nm,al,f⟩).aT=0/\(nL ⟨p,nm,al,f⟩).value=0/\(nL ⟨p,nm,al,f⟩).out<+:(nL ⟨p,nm,al,f+d⟩).out) \/
 (((nL ⟨p,nm,al,f⟩).az=1\/(nL ⟨p,nm,al,f⟩).az=2)/\nL ⟨p,nm,al,f+d⟩=nL ⟨p,nm,al,f⟩):=by
 obtain⟨r,n,hr,_⟩:=h.eA;obtain⟨z,Z,I,_⟩:=C.eA;rw[Om h hr,Om C I];exact znw hd h.f0 Y hr I
set_option maxRecDepth 100000 in
def law(l:qA)(a b w fuel Y:Int)(hl:l.length<2^63)(hL:iL l)(O:cX w):aR prog (aA pls tZ) 6 [hY l,.int .i64 a,.int .i64 b,.int .i64 w,.int .i64 fuel,.int .i64 Y] bZ fun v _=>v=.bool true:=by
 have hw:zd0 (aA pls tZ) 6:=gY (fun _=>rfl) rfl;have hf:=mO (n:=fuel) (m:=12) ac ac;have hd:=mO (n:=Y) (m:=6) ac ac;have hsum:IntKind.wrap .i64 (cK fuel 12+cK Y 6)=cK fuel 12+cK Y 6:=fN ac ac;have V:=XW l (jW a w) (jW b w) (cK fuel 12) hf.1 ac;have Z:=XW l (jW a w) (jW b w) (cK fuel 12+cK Y 6) ac ac;have hq:=znl hL;have L:∀v∈[jW a w,jW b w],cX v:=fun v hv=>by
  rcases eJ.1 hv with rfl|hv
  .exact Oz O
  .obtain rfl:=oM.1 hv;exact Oz O
 have I:=YG hq V (.inl ⟨rfl,rfl⟩) L;have j:=YG hq Z (.inl ⟨rfl,rfl⟩) L;have z:=On V;have hof2:=On Z;have hm:=znB hd.1 ac V Z;have kf:=Y0 I;have C:=Y0 j;have kp:=kUn l hl hL;have kk:=fun H=>xV (l:=tZ) (fun _=>rfl) Y 6 aF H;have kfu:=fun H=>znz fuel H;generalize nL ⟨bQ l,[102],[jW a w,jW b w],cK fuel 12⟩=o1 at *;generalize nL ⟨bQ l,[102],[jW a w,jW b w],cK fuel 12+cK Y 6⟩=o2 at *;have ks:=znA o1 (xR z aF);clear V Z hq I j L;generalize cK fuel 12=F at *;generalize cK Y 6=D at *;simp only[wB]at kf C;generalize jo l=u at *;rcases hm with⟨J,h2,h3,h4⟩|⟨J,rfl⟩
 .obtain⟨k1,c1,l1,v1⟩:=o1;obtain⟨k2,c2,l2,v2⟩:=o2;simp only at J h2 h3 h4 z hof2;subst J;subst h2;subst h3;obtain⟨t,ht⟩:=h4;have hle:l1.length<=l2.length:=by rw[<-ht];simp
  have hle2:¬(l2.length:Int)<l1.length:=ac;have hge:∀i (hi:i<l1.length),l2[i]?=some l1[i]:=fun i hi=>by rw[<-ht,nQ hi,aX hi]
  clear ht;have e1:(l1.map fun n=>[AV.int .i64 n]).length=l1.length:=aB;have e2:(l2.map fun n=>[AV.int .i64 n]).length=l2.length:=aB;simp only[ky,hY,eC,oZ]at kf C ks;refine qe hw func6 JB ?_;dsimp only[JB,qd,a1,Nat.reduceAdd];have gh0:=@YY;repeat' (first
   |(apply ay ?_;clear hK K)|apply aT ?_|(apply eA ?_;first|refine Rx.k (kp _) ?_|refine Rx.k (YZ a b w _) ?_|refine Rx.k (kfu _) ?_|refine Rx.k (kf _) ?_|refine Rx.k (C _) ?_|refine Rx.k (kk _) ?_|refine Rx.k (ks _) ?_|refine Rx.k (OJ _) ?_)|(apply a2 ?_ ?_<;>(intro hb hbp;try(cases hb;done)))|(apply az fun K hK=>?_)|(apply l9 4 [0,1,2,4,5,6,7,11,12,3,8,9,10,13,14] [(0,9),(3,9),(3,10),(3,12),(7,9),(7,10),(7,12),(7,13),(8,9),(8,10),(8,12),(8,13)] fun K hK=>?_)|(apply bB ?_;try intro _)|(apply bY ?_ ?_<;>clear hK K)|fail)
  .exact bM
  refine cP [16,17,61] [1,2] 62 l1.length (fun _ _ _=>True) eE trivial ?_;rintro i E H2 hi hcE hrH hnH hsI _;(try simp only[bz,a7,aV,aK,bb,Nat.reduceBEq, *]at hcE);(try simp only[bz,a7,aV,aK,bb,Nat.reduceBEq,Nat.reduceAdd, *]at hrH);(try simp only[aS,bK,cL,bR,Nat.reduceAdd]at hnH);repeat' (first
   |(apply ay ?_;clear hK K)|apply a9 ?_|(apply fq ?_;first|refine Rx.k (OJ _) ?_)|(apply bU ?_ ?_<;>(intro hb hbp;try(cases hb;done)))|(apply az fun K hK=>?_)|(apply bV 12 [(1,11),(4,11),(6,11),(9,11)] fun K hK=>?_)|(apply bB ?_;try intro _)|fail)
  .have hlt:i<l1.length:=by omega
   have hg1:l1[i]?=some l1[i]:=aX hlt;have hg2:=hge i hlt;repeat' (first
    |(apply ay ?_;clear hK K)|apply aT ?_|(apply a2 ?_ ?_<;>(intro hb hbp;try(cases hb;done)))|(apply az fun K hK=>?_)|(apply bB ?_;try intro _)|(apply bY ?_ ?_<;>clear hK K)|fail)
   .exact bM
   .refine⟨ac,aW,aW,b8,(by simp only[aK,Nat.reduceBEq, *];exact il (n:=l1.length) ac ac),?_⟩;exact trivial
  .all_goals refine qi ?_
   all_goals trivial
 .obtain⟨k1,c1,l1,v1⟩:=o2;simp only[ky,hY,eC,oZ]at kf C ks;simp only at J;rcases J with rfl|rfl;all_goals
   refine qe hw func6 JB ?_;dsimp only[JB,qd,a1,Nat.reduceAdd];have gh0:=@YY;repeat' (first
    |(apply ay ?_;clear hK K)|apply aT ?_|(apply eA ?_;first|refine Rx.k (kp _) ?_|refine Rx.k (YZ a b w _) ?_|refine Rx.k (kfu _) ?_|refine Rx.k (kf _) ?_|refine Rx.k (C _) ?_|refine Rx.k (kk _) ?_|refine Rx.k (ks _) ?_|refine Rx.k (OJ _) ?_)|(apply cR ?_ ?_<;>(intro hg hgp;try(cases hg;done)))|(apply a2 ?_ ?_<;>(intro hb hbp;try(cases hb;done)))|(apply az fun K hK=>?_)|(apply l9 4 [0,1,2,4,5,6,7,11,12,3,8,9,10,13,14] [(0,9),(3,9),(3,10),(3,12),(7,9),(7,10),(7,12),(7,13),(8,9),(8,10),(8,12),(8,13)] fun K hK=>?_)|(apply bB ?_;try intro _)|(apply bY ?_ ?_<;>clear hK K)|fail)
   .exact bM
   .all_goals refine qi ?_
    all_goals trivial
def znC(l:qA)(a b w fuel Y:Int)(L:l.length<2^63)(Z:iL l)(m:cX w):bA prog (fun _=>0) 6 [hY l,.int .i64 a,.int .i64 b,.int .i64 w,.int .i64 fuel,.int .i64 Y] (.bool true):=
 fF fit (pls:=pls) (zny _) (.cons (Es l) (.cons (.int _ _) (.cons (.int _ _) (.cons (.int _ _) (.cons (.int _ _) (.cons (.int _ _) .nil)))))) (.bool _) (law l a b w fuel Y L Z m)
set_option maxRecDepth 100000 in
def znD{H:Type}{enc:TypeId×Value->H}(W:World)(O:Value){r:Reach}{j:Nat}(k0:Value.okWide prog W r j 26 O){d:DataW H}{ps:List MemPlace}{J:Nat->Bool}{I:Bool}(L:DataW.Trod enc prog W 0 J I 26 O d ps)(aI a6 cp:Int)(z:(Lit.int .i64 cp).wf=true)(dO cI:Int):
 Calls prog 6 #[O,.int .i64 aI,.int .i64 a6,.int .i64 cp,.int .i64 dO,.int .i64 cI] W fun e Z=>e=.returned (.bool true)/\Below W.heap.size W Z:=by
 obtain⟨l,Y,V,hr⟩:=zky k0 L;have m:cX cp:=by
  have C:IntKind.min .i64=-9223372036854775808:=aF;have e2:IntKind.max .i64=9223372036854775807:=aF;simp only[Lit.wf,lX,C,e2]at z;unfold cX;omega
 exact zaD (ρ:=fun _=>0) (F:=Er W) (znC l aI a6 cp dO cI V hr m) (zkt W) (lT Y (lT (.int .i64 aI) (lT (.int .i64 a6) (lT (.int .i64 cp) (lT (.int .i64 dO) (lT (.int .i64 cI) (ti _)))))))
set_option maxRecDepth 100000 in
theorem znE(os:Os)(Z:os.Started)(H:Type)(enc:TypeId×Value->H):
 ReturnsInHanded {} checked os 6 .any (Rows.evalFuelMonotonicSpec.pre6 enc prog f6 Rows.evalFuelMonotonicRow.domain false) (Rows.evalFuelMonotonicSpec.post enc prog f6 false true false false):=by
 refine returnsInHanded_of_change (C:=checked) own Z ax func6
  (ChangeSpec.witness6 (enc:=enc) (C:=checked) false ⟨#[],#[.slice none 0 0,.int .i64 0,.int .i64 0,.int .i64 0,.int .i64 0,.int .i64 0],[]⟩ 8 ax ax ax ax) ?_
 intro W J I ds gs z L hW hcnd _;have Y:∀(j:Nat) t v,f6.params[j]?=some t->I[j]?=some v->Value.okWide prog W .any J t v:=L;have O:=hW;obtain⟨p,q,V,hV,rfl,hfz,hnd⟩:=hW;have hA:DataW.TrodAll enc prog W 0 (fun _=>true) true f6.params.toList I.toList ds p:=V;rw[params6]at hA Y;obtain⟨v0,vs0,d0,ds0,p0,q0,hargs,rfl,rfl,h0,au⟩:=BQ hA;obtain⟨v1,vs1,d1,ds1,p1,q1,rfl,rfl,rfl,h1,aq⟩:=BQ au;obtain⟨v2,vs2,d2,ds2,p2,q2,rfl,rfl,rfl,h2,r2⟩:=BQ aq;obtain⟨v3,vs3,d3,ds3,p3,q3,rfl,rfl,rfl,h3,r8⟩:=BQ r2;obtain⟨v4,vs4,d4,ds4,p4,q4,rfl,rfl,rfl,h4,wI⟩:=BQ r8;obtain⟨v5,vs5,d5,ds5,p5,q5,rfl,rfl,rfl,h5,Jy⟩:=BQ wI;obtain⟨rfl,rfl,rfl⟩:=trodAll_nil Jy;obtain rfl:I=#[v0,v1,v2,v3,v4,v5]:=by cases I;simp_all
 obtain⟨rfl,rfl⟩:=trodVars_none hV;have k0:=Y 0 26 v0 rfl rfl;obtain⟨aI,rfl,rfl,rfl,dI⟩:=open_int underlying3 (Y 1 3 v1 rfl rfl) h1;obtain⟨a6,rfl,rfl,rfl,w2⟩:=open_int underlying3 (Y 2 3 v2 rfl rfl) h2;obtain⟨cp,rfl,rfl,rfl,w3⟩:=open_int underlying2 (Y 3 2 v3 rfl rfl) h3;obtain⟨dO,rfl,rfl,rfl,w4⟩:=open_int underlying3 (Y 4 3 v4 rfl rfl) h4;obtain⟨cI,rfl,rfl,rfl,w5⟩:=open_int underlying3 (Y 5 3 v5 rfl rfl) h5;clear V L;refine(znD W v0 k0 h0 aI a6 cp w3 dO cI).mono fun e W' ⟨he,hg⟩=>?_;subst he;exact⟨_,rfl,zaF (pv:=[]) O (fun _ _ _=>(zV (shut_bool underlying4 _) trodAll_mk0)) (fun sp m=>(zV (zkv ax ax (Oa ax) h0 hg (fun p hp=>O.lt p hp) (fun x hx=>by simp[hx]) m) (zV (shut_int underlying3 dI) (zV (shut_int underlying3 w2) (zV (shut_int underlying2 w3) (zV (shut_int underlying3 w4) (zV (shut_int underlying3 w5) trodAll_mk0))))))) (fun _ _=>rfl) aB hg (ok_one ax rfl (okWide_bool_mk underlying4 _))⟩
def over:Rows.evalFuelMonotonicRow.holds Tryz.pinned (OpenSpec.ofChange Rows.evalFuelMonotonicSpec):=
 OpenClaim.holds_of_wide 6 f6 rfl rfl rfl rfl rfl rfl rfl ⟨rfl,rfl,rfl,rfl,rfl⟩ rfl rfl rfl rfl rfl ax func6 ax
  (Oa ax) (by unfold Func.isWrapper;first|(rw[ai (by decide +kernel)];kernel_rfl)|(rw[ah (by decide +kernel)];exact⟨rfl,rfl⟩))
  (fun O Z H enc _=>znE O Z H enc)
def proved:Rows.EvalFuelMonotonicSaid:=
 over
#print axioms proved
end Go.Proofs.YtbflaciihaijgaaGreat.evalFuelMonotonic
