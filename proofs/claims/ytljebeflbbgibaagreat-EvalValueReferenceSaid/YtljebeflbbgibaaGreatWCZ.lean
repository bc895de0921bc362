/-
  The Go function fullinglaw9.EvalValueReference returns true whatever its arguments are, and leaves all memory that was there as it was. Conditions: none.
-/
import Derived.OpenShut
import Derived.ProofKit
import Derived.Test.YtljebeflbbgibaaGreatWCN
import Derived.WalkKit
set_option linter.unusedSimpArgs false
set_option linter.unusedVariables false
set_option linter.unusedSectionVars false
set_option linter.defProp false
set_option maxHeartbeats 32000000
namespace Go.Ab
set_option maxRecDepth 20000
open Go
def mX:=@Go.ChangeShapes.trodAll_cons
def lN:=@Go.trodAll_cons_mk
end Go.Ab
namespace Go.Proofs.YtljebeflbbgibaaGreat.evalValueReference
set_option maxRecDepth 20000
open Go Go.Ab
def tyEvalValueReference.tyF:=ac @dr (ac @cZ (ac @pO (ac @ey (ac @ez (ac @pP (ac @GK (ac @yz (ac @gW (@gX)))))))))
open tyEvalValueReference Go.ChangeShapes Go.WideShapes Go.ChangeAt Go.RowKit
theorem own:ownKnob Tryz.prog.godebug=none:=ad
noncomputable def B4:{c:SC // aB 85 (Tryz.f9.body.getD .skip)=c}:=by
 refine⟨?_,?_⟩;rotate_left
 .simp only[Tryz.f9,bh,aB,Qh,Qe,Qm,Qn,Nat.blt,Nat.ble];rfl
noncomputable def B5:{c:SC // aB 14 (Tryz.f18.body.getD .skip)=c}:=by
 refine⟨?_,?_⟩;rotate_left
 .simp only[Tryz.f18,bh,aB,Qh,Qe,Qm,Qn,Nat.blt,Nat.ble];rfl
structure WordA where
 a:Int
 b:Int
 w:Int
def mY(x:WordA):List AV:=[.int .i64 x.a,.int .i64 x.b,.int .i64 x.w]
theorem Pu(x y:WordA)(h:mY x=mY y):x=y:=by
 obtain⟨a,b,c⟩:=x;obtain⟨m,K,j⟩:=y;simp only[mY,dz,AV.int.injEq,a7,fJ]at h;obtain⟨rfl,rfl,rfl⟩:=h;rfl
theorem Pv(H:Hp)(a b:Int):Rs Tryz.prog H 33 2 [(0,.int .i64 a),(1,.int .i64 b)]=some (.sl H.next 0 2 1,H.alloc (.cells [.int .i64 a,.int .i64 b] 0 true)):=ad
theorem Pw(ρ:Nat->Int)(x:WordA):aX Tryz.prog ρ 18 (mY x) (.lst [[.int .i64 (jM x.a x.w)],[.int .i64 (jM x.b x.w)]]):=SY (m:=3) (cfg:=PU pls [oh]) fit (gL ρ) (fun g C r A=>dG.look (l:=[oh]) ⟨AJ ρ,trivial⟩ g C r A) (.cons (.int _ _) (.cons (.int _ _) (.cons (.int _ _) .nil))) (by
 have L:Plain (PU pls [oh]) 18:=Ra (fun _=>rfl) rfl;obtain⟨a,b,w⟩:=x;rw[mY];simp only[];refine P4 (M:=14) (rs:=[.tmp 6]) (L.call _) L.ice L.froz Tryz.func18 rfl rfl B5.2 rfl ?_;dsimp only[B5,PZ,Nat.reduceAdd];have Z:=@Pv;repeat' (first
  |(apply PO ?_;clear hK K)|apply Rx.o ?_|(apply eR ?_;first|refine Rx.k (vI (fun _=>rfl) _ _ _) ?_)|apply aj ?_|(apply PP fun K hK=>?_)|apply aq ?_)
 all_goals (refine⟨eI,_,P0,?_⟩;try simp only[PT])
 rfl)
noncomputable def B6:En:=⟨18,false,bG (fun _=>True) mY fun x=>.lst [[.int .i64 (jM x.a x.w)],[.int .i64 (jM x.b x.w)]]⟩
theorem Px(ρ:Nat->Int):QM Tryz.prog ρ B6:=QP fun x C=>Pw ρ x
def qo(x:List Int×Bool):List AV:=[Qg x.1,.bool x.2]
theorem Py(x y:List Int×Bool)(h:qo x=qo y):x=y:=by
 simp only[qo,dz,AV.bool.injEq,a7]at h;exact iK (mG h.1) h.2
noncomputable def B7:En:=⟨22,false,bG (fun x=>x.1.length<2^63) qo fun x=>Qz (RP x.1 x.2)⟩
theorem Pz(ρ:Nat->Int):QM Tryz.prog ρ B7:=QP fun x C=>by
 obtain⟨l,b⟩:=x;cases b
 .exact OR ρ l C
 .exact OT ρ l C
noncomputable def levE:List En:=[B6,B7,wa,i9 Ak,i9 AY,B3]
theorem levE_ok(ρ:Nat->Int):dG Tryz.prog ρ levE:=⟨Px ρ,Pz ρ,O3 ρ,nF (Np ρ),nF (OE ρ),Pt ρ,trivial⟩
theorem wj(l:List Int)(v:Bool):QY (RP l v):=v6 l v (vZ _ _)
theorem PA(l:List Int)(v:Bool)(m a:Int):QY (iR (RP l v) m a):=by
 have i:=qf l v (min l.length 14);have g:=Ob (RP l v) m a;have o:(RP l v).length<=17:=by unfold RP;omega
 have U:=Oc (sK l v (min l.length 14)) m a;exact⟨aa,fun n Z=>by have:=U n Z;omega⟩
theorem B8(l:List Int)(v:Bool)(I:l.length<2^63)(H:Hp):P2 Tryz.prog (PU pls levE) 22 [Qg l,.bool v] H fun w H'=>w=Qz (RP l v)/\H'=H:=
 Q0 (enc:=qo) (ok:=fun x=>x.1.length<2^63) (out:=fun x=>Qz (RP x.1 x.2)) Py (x:=(l,v)) rfl I
theorem PB{x:List Nd}{i:Int}{kv:AV}{a:List Int}(C:QY x)(K:a.length<2^63)(j:bg 60 kv=Qg a)(H:Hp):P2 Tryz.prog (PU pls levE) 24 [Qz x,.int .i64 i,kv] H fun v H'=>v=je ⟨x,i,a⟩/\H'=H:=
 pN (by
  show bG oc jd je ([Qz x,.int .i64 i,kv].map (bg 60))=_;rw[dS,dS,dS,n0,vA,j];exact pM (x:=(⟨x,i,a⟩:VlX)) Aj ⟨C,K⟩)
theorem PC{x:List Nd}{i:Int}{kv:AV}{a:List Int}(C:QY x)(K:a.length<2^63)(j:bg 60 kv=Qg a)(H:Hp):P2 Tryz.prog (PU pls levE) 25 [Qz x,.int .i64 i,kv] H fun v H'=>v=je ⟨x,i,a⟩/\H'=H:=
 pN (by
  show bG oc jd je ([Qz x,.int .i64 i,kv].map (bg 60))=_;rw[dS,dS,dS,n0,vA,j];exact pM (x:=(⟨x,i,a⟩:VlX)) Aj ⟨C,K⟩)
theorem PD(D:BinOp->Sx->Sx->Option Bool):QR Tryz.prog D .neq 4 (.bool true) (.bool true)=some (.bool false):=ad
theorem PE(D:BinOp->Sx->Sx->Option Bool):QR Tryz.prog D .neq 4 (.bool false) (.bool false)=some (.bool false):=ad
theorem PF(x y:Int):RD Tryz.prog 33 (.lst [[.int .i64 x],[.int .i64 y]]) none (some (.int .i64 1))=some (.lst [[.int .i64 x]]):=ad
theorem PG(H:Hp)(a b c:List (List AV)):Rs Tryz.prog H 57 3 [(0,.lst a),(1,.lst b),(2,.lst c)]=some (.sl H.next 0 3 1,H.alloc (.cells [.lst a,.lst b,.lst c] 0 true)):=ad
theorem PH(H:Hp)(a b c:List (List AV)):Rs Tryz.prog H 58 4 [(0,.lst a),(1,.lst b),(2,.nilS),(3,.lst c)]=some (.sl H.next 0 4 1,H.alloc (.cells [.lst a,.lst b,.nilS,.lst c] 0 true)):=ad
set_option maxRecDepth 100000 in
theorem law(l:List Int)(O F a b w:Int)(m:List Int)(hl:l.length<2^63)(hr:m.length<2^63):P2 Tryz.prog (PU pls levE) 9 [nJ l,.int .i64 O,.int .i64 F,.int .i64 a,.int .i64 b,.int .i64 w,nJ m] Qv fun v _=>v=.bool true:=by
 have hw:Plain (PU pls levE) 9:=Ra (fun _=>rfl) rfl;have ka:∀H,P2 Tryz.prog (PU pls levE) 18 [.int .i64 a,.int .i64 b,.int .i64 w] H fun v H'=>v=.lst [[.int .i64 (jM a w)],[.int .i64 (jM b w)]]/\H'=H:=fun H=>Q0 (enc:=mY) (ok:=fun _=>True) (out:=fun x=>.lst [[.int .i64 (jM x.a x.w)],[.int .i64 (jM x.b x.w)]]) Pu (x:=⟨a,b,w⟩) rfl trivial;have kn1:=B8 l true hl;have kn2:=B8 l false hl;have km:=fun H=>O4 (tb:=levE) (fun _=>rfl) (RP l true) O F ⟨wj l true,Od l true⟩ H;have hx1:=wj l true;have hx2:=wj l false;have hx3:=PA l true O F;have kex:∀H,P2 Tryz.prog (PU pls levE) 15 [] H fun v H'=>v=.bool true/\H'=H:=fun H=>pN rfl;change P2 _ _ _ [Qg l,_,_,_,_,_,Qg m] _ _;generalize iR (RP l true) O F=x3 at *;generalize RP l true=x1 at *;generalize RP l false=x2 at *;generalize jM a w=g at *;generalize jM b w=wb at *;refine P4 (M:=85) (rs:=[.tmp 14]) (hw.call _) hw.ice hw.froz Tryz.func9 rfl rfl B4.2 rfl ?_;dsimp only[B4,PZ,Nat.reduceAdd];have gh0:=@PG;repeat' (first
  |(apply PO ?_;clear hK K)|apply Rx.o ?_|(apply eR ?_;first|refine Rx.k (ka _) ?_|refine Rx.k (kn1 _) ?_|refine Rx.k (kn2 _) ?_|refine Rx.k (km _) ?_)|apply aj ?_|(apply PP fun K hK=>?_)|apply ay ?_|apply PR ?_|apply aq ?_|apply PX ?_)
 have hxj:∀j,j<3->∃x,([Qz x1,Qz x2,Qz x3]:List AV)[j]?=some (Qz x)/\QY x:=fun j hj=>by
  match j,hj with
  |0,_=>exact⟨x1,rfl,hx1⟩
  |1,_=>exact⟨x2,rfl,hx2⟩
  |2,_=>exact⟨x3,rfl,hx3⟩
 have hkj:∀j,j<4->∃L a,([.lst [[.int .i64 g],[.int .i64 wb]],.lst [[.int .i64 g]],.nilS,Qg m]:List AV)[j]?=some L/\bg 60 L=Qg a/\a.length<2^63/\AV.one L=true:=fun j hj=>by
  match j,hj with
  |0,_=>exact⟨_,[g,wb],rfl,rfl,aA,rfl⟩
  |1,_=>exact⟨_,[g],rfl,rfl,aA,rfl⟩
  |2,_=>exact⟨_,[],rfl,rfl,aA,rfl⟩
  |3,_=>exact⟨_,m,rfl,A1 m 60,hr,rfl⟩
 refine Rk [6,15,38,39] [0] 40 3 (fun i E H=>True) eE trivial ?_;rintro j E H2 hj J I V hsI hJ;(try simp only[QK,Qs,a7,P7,Qy,Nat.reduceBEq,Nat.reduceAdd,Nat.reduceLeDiff,tyF, *]at J);(try simp only[QK,Qs,a7,P7,Qy,Nat.reduceBEq,Nat.reduceAdd,Nat.reduceLeDiff,tyF, *]at I);(try simp only[QA,QZ,Re,bZ,Nat.reduceAdd]at V);have hB0:(0 == H2.next)=false:=Rw aa;have hC0:(H2.next == 0)=false:=Rw aa;by_cases hlt:j<3
 .have hlt':(j:Int)<((3:Nat):Int):=by omega
  obtain⟨x,hgx,hx⟩:=hxj j hlt;have hxl:=hx.1;have hpos:1<=H2.next:=V
  clear V;repeat' (first
   |(apply PO ?_;clear hK K)|apply Ry.o ?_|(apply aU (fun A Z=>?_) (fun A Z=>?_)<;>try(cases A;done))|(apply aH (fun z Y=>?_) (fun z Y=>?_)<;>try(cases z;done))|apply aj ?_|(apply PP fun K hK=>?_)|apply ay ?_|apply PR ?_|apply aq ?_|apply PX ?_)
  refine uK [6,15,17,38,39,40] [0] (fun k E H=>k<=x.length+2/\E.at 18=.int .i64 ((x.length:Int)+1-k)) (x.length+2) ⟨aC _,(by rw[show(x.length:Int)+1-((x.length+2:Nat):Int)=-1 by omega];exact eE)⟩ ?_;rintro k E3 H3 hcE3 hrH3 hnH3 ⟨hk,k18⟩;(try simp only[QK,Qs,a7,P7,Qy,Nat.reduceBEq,Nat.reduceAdd,Nat.reduceLeDiff,tyF, *]at hcE3);(try simp only[QK,Qs,a7,P7,Qy,Nat.reduceBEq,Nat.reduceAdd,Nat.reduceLeDiff,tyF, *]at hrH3);have hn3:1<=H3.next:=aa
  have e03:(0 == H3.next)=false:=Rw aa;obtain⟨U,hii⟩:∃U,U=(x.length:Int)+1-(k:Int):=⟨_,rfl⟩;rw[<-hii]at k18;have hia:U+k<=(x.length:Int)+1:=aa;have hib:(x.length:Int)+1<=U+k:=aa;clear hii;cases k with
  |zero=>
   have hc:¬U<=x.length:=aa;repeat' (first
    |(apply PO ?_;clear hK K)|apply Ry.o ?_|(apply aU (fun A Z=>?_) (fun A Z=>?_)<;>try(cases A;done))|(apply aH (fun z Y=>?_) (fun z Y=>?_)<;>try(cases z;done))|apply aj ?_|(apply PP fun K hK=>?_)|apply ay ?_|apply PR ?_|apply aq ?_|apply PX ?_)
   refine⟨aa,P1,P1,QN,(by simp only[P7,Nat.reduceBEq, *];exact Su (n:=3) aa aa),?_⟩;trivial
  |succ k=>
   have hc:U<=x.length:=aa;have gh0:=@PF;have gh1:=@PH;repeat' (first
    |(apply PO ?_;clear hK K)|apply Ry.o ?_|(apply aU (fun A Z=>?_) (fun A Z=>?_)<;>try(cases A;done))|(apply aH (fun z Y=>?_) (fun z Y=>?_)<;>try(cases z;done))|apply aj ?_|(apply PP fun K hK=>?_)|apply ay ?_|apply PR ?_|apply aq ?_|apply PX ?_)
   refine Rk [6,15,17,18,38,39,40,54,55] [0,H3.next] 56 4 (fun i E H=>True) eE trivial ?_;rintro q E4 H4 hq J I V hsI hJ4;(try simp only[QK,Qs,a7,P7,Qy,Nat.reduceBEq,Nat.reduceAdd,Nat.reduceLeDiff,tyF, *]at J);(try simp only[QK,Qs,a7,P7,Qy,Nat.reduceBEq,Nat.reduceAdd,Nat.reduceLeDiff,tyF, *]at I);(try simp only[QA,QZ,Re,bZ,Nat.reduceAdd]at V);have hn4:H3.next<H4.next:=aa
   have hn40:1<=H4.next:=aa
   clear V;by_cases hqt:q<4
   .have hqt':(q:Int)<((4:Nat):Int):=by omega
    obtain⟨L,a,hga,C,o,hone⟩:=hkj q hqt;obtain⟨y,ok,hv⟩:∃y ok,je ⟨x,U,a⟩=.tup [.int .i64 y,.bool ok]:=⟨_,_,rfl⟩;have k1:∀H,P2 Tryz.prog (PU pls levE) 24 [Qz x,.int .i64 U,L] H fun v H'=>v=.tup [.int .i64 y,.bool ok]/\H'=H:=fun H=>by
     have:=PB (i:=U) hx o C H;rw[hv]at this;exact this
    have k2:∀H,P2 Tryz.prog (PU pls levE) 25 [Qz x,.int .i64 U,L] H fun v H'=>v=.tup [.int .i64 y,.bool ok]/\H'=H:=fun H=>by
     have:=PC (i:=U) hx o C H;rw[hv]at this;exact this
    clear hv C o hkj hxj;change ([AV.lst [[.int .i64 g],[.int .i64 wb]],.lst [[.int .i64 g]],.nilS,.lst (m.map fun n=>[.int .i64 n])]:List AV)[q]?=some L at hga;cases ok<;>
    .have gh0:=@PD;have gh1:=@PE;repeat' (first
      |(apply PO ?_;clear hK K)|apply Ry.o ?_|(apply bD ?_;first|refine Rx.k (k1 _) ?_|refine Rx.k (k2 _) ?_)|(apply aU (fun A Z=>?_) (fun A Z=>?_)<;>try(cases A;done))|(apply aH (fun z Y=>?_) (fun z Y=>?_)<;>try(cases z;done))|apply aj ?_|(apply PP fun K hK=>?_)|apply ay ?_|apply PR ?_|apply aq ?_|apply PX ?_)
     refine⟨aa,P1,P1,QN,(by simp only[P7,Nat.reduceBEq, *];exact Su (n:=4) aa aa),?_⟩;trivial
   .have hqt':¬(q:Int)<((4:Nat):Int):=by omega
    have ew:IntKind.wrap .i64 (U+1)=(x.length:Int)+1-k:=sG;repeat' (first
     |(apply PO ?_;clear hK K)|apply Ry.o ?_|(apply aU (fun A Z=>?_) (fun A Z=>?_)<;>try(cases A;done))|(apply aH (fun z Y=>?_) (fun z Y=>?_)<;>try(cases z;done))|apply aj ?_|(apply PP fun K hK=>?_)|apply ay ?_|apply PR ?_|apply aq ?_|apply PX ?_)
    refine⟨P1,P1,aa,k,dh _,aa,eE⟩
 .have hlt':¬(j:Int)<((3:Nat):Int):=by omega
  repeat' (first
   |(apply PO ?_;clear hK K)|apply Ry.o ?_|(apply bD ?_;first|refine Rx.k (kex _) ?_)|(apply aU (fun A Z=>?_) (fun A Z=>?_)<;>try(cases A;done))|(apply aH (fun z Y=>?_) (fun z Y=>?_)<;>try(cases z;done))|apply aj ?_|(apply PP fun K hK=>?_)|apply ay ?_|apply PR ?_|apply aq ?_|apply PX ?_)
  all_goals (refine⟨eI,_,P0,?_⟩;try simp only[PT])
theorem PI(l:List Int)(Z F a b w:Int)(m:List Int)(I:l.length<2^63)(hr:m.length<2^63):aX Tryz.prog (fun _=>0) 9 [nJ l,.int .i64 Z,.int .i64 F,.int .i64 a,.int .i64 b,.int .i64 w,nJ m] (.bool true):=
 Q7 fit (pls:=pls) (levE_ok _) (.cons (yn l) (.cons (.int _ _) (.cons (.int _ _) (.cons (.int _ _) (.cons (.int _ _) (.cons (.int _ _) (.cons (yn m) .nil))))))) (.bool _) (law l Z F a b w m I hr)
theorem PJ:Tryz.prog.cellsOf 2=1:=ad
set_option maxRecDepth 100000 in
theorem PK{H:Type}{enc:TypeId×Value->H}(W:World)(M:Value){r:Reach}{V:Nat}(k0:Value.okWide Tryz.prog W r V 23 M){d:DataW H}{ps:List MemPlace}{g:Nat->Bool}{J:Bool}(U:DataW.Trod enc Tryz.prog W 0 g J 23 M d ps)(RQ a2 a3 a4 a5:Int)
 (Z:Value) {S7:Reach}{O:Nat} (k6:Value.okWide Tryz.prog W S7 O 33 Z) {I:DataW H}{i:List MemPlace}{j:Nat->Bool}{m:Bool} (L:DataW.Trod enc Tryz.prog W 0 j m 33 Z I i) :
 Calls Tryz.prog 9 #[M,.int .i64 RQ,.int .i64 a2,.int .i64 a3,.int .i64 a4,.int .i64 a5,Z] W fun e K=>e=.returned (.bool true)/\Below W.heap.size W K:=by
 obtain⟨l,C,A⟩:=E9 k0 U;obtain⟨Y,o,z⟩:=yk Tryz.underlying33 Tryz.underlying2 PJ k6 L (fun _=>none) (fun _=>0);exact xw (ρ:=fun _=>0) (F:=nG W) (PI l RQ a2 a3 a4 a5 Y A (yo z)) (EZ W) (fq C (fq (.int .i64 RQ) (fq (.int .i64 a2) (fq (.int .i64 a3) (fq (.int .i64 a4) (fq (.int .i64 a5) (fq o (iZ _))))))))
set_option maxRecDepth 100000 in
theorem PL(z:Os)(K:z.Started)(H:Type)(enc:TypeId×Value->H):
 ReturnsInHanded {} Tryz.checked z 9 .any (Rows.evalValueReferenceSpec.pre6 enc Tryz.prog Tryz.f9 Rows.evalValueReferenceRow.domain false) (Rows.evalValueReferenceSpec.post enc Tryz.prog Tryz.f9 false true false false):=by
 refine returnsInHanded_of_change (C:=Tryz.checked) own K ad Tryz.func9
  (ChangeSpec.witness6 (enc:=enc) (C:=Tryz.checked) false ⟨#[],#[.slice none 0 0,.int .i64 0,.int .i64 0,.int .i64 0,.int .i64 0,.int .i64 0,.slice none 0 0],[]⟩ 8 ad ad ad ad) ?_
 intro W A Y ds gs i Z o m _;have U:∀(j:Nat) t v,Tryz.f9.params[j]?=some t->Y[j]?=some v->Value.okWide Tryz.prog W .any A t v:=Z;have g:=o;obtain⟨p,q,I,hV,rfl,hfz,hnd⟩:=o;have hA:DataW.TrodAll enc Tryz.prog W 0 (fun _=>true) true Tryz.f9.params.toList Y.toList ds p:=I;rw[Tryz.params9]at hA U;obtain⟨L,vs0,d0,ds0,p0,q0,J,rfl,rfl,h0,Qa⟩:=mX hA;obtain⟨v1,vs1,d1,ds1,p1,q1,rfl,rfl,rfl,h1,PV⟩:=mX Qa;obtain⟨v2,vs2,d2,ds2,p2,q2,rfl,rfl,rfl,h2,Qq⟩:=mX PV;obtain⟨v3,vs3,d3,ds3,p3,q3,rfl,rfl,rfl,h3,r3⟩:=mX Qq;obtain⟨v4,vs4,d4,ds4,p4,q4,rfl,rfl,rfl,h4,Tc⟩:=mX r3;obtain⟨v5,vs5,d5,ds5,p5,q5,rfl,rfl,rfl,h5,Td⟩:=mX Tc;obtain⟨F,vs6,d6,ds6,p6,q6,rfl,rfl,rfl,h6,S7⟩:=mX Td;obtain⟨rfl,rfl,rfl⟩:=trodAll_nil S7;obtain rfl:Y=#[L,v1,v2,v3,v4,v5,F]:=by cases Y;simp_all
 obtain⟨rfl,rfl⟩:=trodVars_none hV;have k0:=U 0 23 L rfl rfl;obtain⟨RQ,rfl,rfl,rfl,SN⟩:=open_int Tryz.underlying3 (U 1 3 v1 rfl rfl) h1;obtain⟨a2,rfl,rfl,rfl,w2⟩:=open_int Tryz.underlying3 (U 2 3 v2 rfl rfl) h2;obtain⟨a3,rfl,rfl,rfl,w3⟩:=open_int Tryz.underlying3 (U 3 3 v3 rfl rfl) h3;obtain⟨a4,rfl,rfl,rfl,w4⟩:=open_int Tryz.underlying3 (U 4 3 v4 rfl rfl) h4;obtain⟨a5,rfl,rfl,rfl,w5⟩:=open_int Tryz.underlying2 (U 5 2 v5 rfl rfl) h5;have k6:=U 6 33 F rfl rfl;clear I Z;refine(PK W L k0 h0 RQ a2 a3 a4 a5 F k6 h6).mono fun e W' ⟨he,O⟩=>?_;subst he;exact⟨_,rfl,Dw (pv:=[]) g (fun _ _ _=>(lN (shut_bool Tryz.underlying4 _) trodAll_mk0)) (fun sp V=>(lN (yl ad ad (ku ad) h0 O (fun p hp=>g.lt p hp) (fun x M=>by simp[M]) V) (lN (shut_int Tryz.underlying3 SN) (lN (shut_int Tryz.underlying3 w2) (lN (shut_int Tryz.underlying3 w3) (lN (shut_int Tryz.underlying3 w4) (lN (shut_int Tryz.underlying2 w5) (lN (yl ad ad (ku ad) h6 O (fun p hp=>g.lt p hp) (fun x M=>by simp[M]) V) trodAll_mk0)))))))) (fun _ _=>rfl) aA O (ok_one ad rfl (okWide_bool_mk Tryz.underlying4 _))⟩
theorem over:Rows.evalValueReferenceRow.holds Tryz.pinned (OpenSpec.ofChange Rows.evalValueReferenceSpec):=
 OpenClaim.holds_of_wide 9 Tryz.f9 rfl rfl rfl rfl rfl rfl rfl ⟨rfl,rfl,rfl,rfl,rfl⟩ rfl rfl rfl rfl rfl ad Tryz.func9 ad
  (ku ad) (by unfold Func.isWrapper;first|(rw[az (by decide +kernel)];kernel_rfl)|(rw[af (by decide +kernel)];exact⟨rfl,rfl⟩))
  (fun J K H enc _=>PL J K H enc)
theorem proved:Rows.EvalValueReferenceSaid:=
 over
#print axioms proved
end Go.Proofs.YtljebeflbbgibaaGreat.evalValueReference
