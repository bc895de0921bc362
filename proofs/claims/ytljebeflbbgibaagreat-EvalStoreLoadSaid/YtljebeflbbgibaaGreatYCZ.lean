/-
  The Go function fullinglaw9.EvalStoreLoad returns true whatever its arguments are, and leaves all memory that was there as it was. Conditions: none.
-/
import Derived.OpenShut
import Derived.ProofKit
import Derived.Test.YtljebeflbbgibaaGreatYCQ
import Derived.WalkKit
set_option linter.unusedSimpArgs false
set_option linter.unusedVariables false
set_option linter.unusedSectionVars false
set_option linter.defProp false
set_option maxHeartbeats 32000000
namespace Go.Ab
set_option maxRecDepth 20000
open Go
theorem vN{P:Prop}(h:P:=by simp[rL,nC]):P:=h
theorem pz{P:Prop}(h:P:=by rw[<- Y];exact Nat.le_refl _):P:=h
theorem pA{P:Prop}(h:P:=by rw[<- Y,Hp.get_set,if_pos rfl]):P:=h
theorem pB{P:Prop}(h:P:=by show ¬ H1.next < 7;omega):P:=h
theorem K3{P:Prop}(h:P:=by rw[hV];exact(if_neg (fun h=>c3 h.2.2)).symm):P:=h
theorem K4{P:Prop}(h:P:=by rw[hV];exact(if_neg (fun h=>c2 h.2.1)).symm):P:=h
theorem pC{P:Prop}(h:P:=by rintro(h|h);exact absurd h ac;omega):P:=h
def vO:=@List.not_mem_nil
def vP:=@or_false
def tE:=@Go.ChangeShapes.trodAll_cons
def rK:=@Go.trodAll_cons_mk
end Go.Ab
namespace Go.Proofs.YtljebeflbbgibaaGreat.evalStoreLoad
set_option maxRecDepth 20000
open Go Go.Ab
def tyEvalStoreLoad.tyF:=ad @cP (ad @b7 (ad @dz (ad @ei (ad @fd (ad @eT (ad @mN (ad @mO (ad @ii (ad @jE (ad @ly (ad @A3 (ad @kJ (@vE)))))))))))))
open tyEvalStoreLoad Go.ChangeShapes Go.WideShapes Go.ChangeAt Go.RowKit
theorem own:ownKnob Tryz.prog.godebug=none:=af
noncomputable def jv:{c:SC // aB 86 (Tryz.f4.body.getD .skip)=c}:=by
 refine⟨?_,?_⟩;rotate_left
 .simp only[Tryz.f4,a8,aB,zda,zc9,zdc,zdd,Nat.blt,Nat.ble];rfl
def nC(x:Int):List Nd:=[⟨26,0,[]⟩,⟨1,x,[]⟩,⟨2,0,[]⟩,⟨28,0,[0,1,2]⟩,⟨2,1,[]⟩,⟨27,5,[3,4]⟩,⟨2,2,[]⟩,⟨28,0,[5,1,6]⟩,⟨2,3,[]⟩,⟨23,0,[7,8]⟩]
def rL(x:Int):Gr:=⟨[102],4,nC x,9,0⟩
def hC(x k:Int):Un:=⟨[⟨[97],k⟩],[rL x]⟩
theorem zcC:((List.range 20).all fun a=>(List.range 16).all fun b=>f9 (hC ((a:Int)-2) ((b:Int)+1)))=true:=af
theorem K5{p q:Int}(o:0<=p)(h1:p<20)(h2:0<=q)(m:q<16):f9 (hC (p-2) (1+q))=true:=by
 have:=fT.1 (fT.1 zcC p.toNat (iY.2 ac)) q.toNat (iY.2 ac);rw[show((p.toNat:Nat):Int)-2=p-2 by omega,show((q.toNat:Nat):Int)+1=1+q by omega]at this;exact this
def lL(k:Int):S9:=⟨[List.replicate k.toNat 0],[],0,0,0,0⟩
def kX(x v:Int)(l:List Int):List Int:=if x<0\/(l.length:Int)<=x then l else l.set x.toNat v
theorem K6(s:S9)(l:List Int)(h:s.cells=[l])(x v:Int):qu s 0 x v=some {s with cells:=[kX x v l] }:=by
 obtain⟨c,o,f,e,d,z⟩:=s;simp only at h;subst h;unfold qu;rw[ay (Int.le_refl 0)];show some (if x<0\/(l.length:Int)<=x then _ else _)=some _;rw[kX];by_cases hc:x<0\/(l.length:Int)<=x
 .rw[ay hc,ay hc]
 .rw[ah hc,ah hc];rfl
def zg(k x v w:Int):List Int:=kX x w (kX x v (List.replicate k.toNat 0))
def vQ(k x y v w:Int):Int:=if y<0\/((zg k x v w).length:Int)<=y then 0 else (zg k x v w).getD y.toNat 0
theorem K7(x v:Int)(l:List Int):(kX x v l).length=l.length:=by unfold kX;split<;>simp
theorem zcD{k x y v w:Int}(j:0<=k):vQ k x y v w=if y=x/\0<=x/\x<k then w else 0:=by
 unfold vQ zg;rw[K7,K7,jn];by_cases C:y<0\/((k.toNat:Nat):Int)<=y
 .rw[ay C,ah ac]
 .rw[ah C];unfold kX;rw[jn];by_cases F:x<0\/((k.toNat:Nat):Int)<=x
  .rw[ay F,ay (by rw[jn];exact F),ah (show ¬(y=x/\0<=x/\x<k) by omega)];simp[cH,mX];split<;>rfl
  .rw[ah F,ah (by rw[kK,jn];exact F),cH,mB];by_cases e:y=x
   .rw[ay (by omega:x.toNat=y.toNat),ay (show x.toNat<((List.replicate k.toNat (0:Int)).set x.toNat v).length by rw[kK,jn];omega),ay (show y=x/\0<=x/\x<k from⟨e,ac,ac⟩)];rfl
   .rw[ah (by omega:¬x.toNat=y.toNat),mB,ah (by omega:¬x.toNat=y.toNat),mX,ah (show ¬(y=x/\0<=x/\x<k) by omega)];split<;>rfl
def vR(k x y v g w:Int):List R9:=
 let K:S9:={lL k with cells:=[kX x v (List.replicate k.toNat 0)] }
 let M:S9:=if g=0 then {K with ed:=2,code:=5}else K
 [⟨true,0,some (lL k)⟩,⟨true,x,none⟩,⟨true,v,none⟩,⟨true,0,some K⟩,⟨true,g,none⟩,⟨true,0,some M⟩,⟨true,w,none⟩,⟨true,0,some {M with cells:=[zg k x v w] }⟩,⟨true,y,none⟩,⟨true,vQ k x y v w,none⟩]
theorem K8(x:Int):∀(i:Nat) Z,(nC x)[i]?=some Z->∀q∈Z.kids,0<=q/\q<i:=by
 intro i Z h q K
 match i,h with
 |0,h=>cases h;cases K
 |1,h=>cases h;cases K
 |2,h=>cases h;cases K
 |3,h=>cases h;simp at K;omega
 |4,h=>cases h;cases K
 |5,h=>cases h;simp at K;omega
 |6,h=>cases h;cases K
 |7,h=>cases h;simp at K;omega
 |8,h=>cases h;cases K
 |9,h=>cases h;simp at K;omega
 |_+10,h=>simp[nC]at h
theorem zcE(k x y v g w:Int):Den9 (nC x) (lL k) [v,g,w,y] (vR k x y v g w):=⟨rfl,K8 x,fun i K h=>by
 match i,h with
 |0,h=>cases h;exact⟨_,rfl,rfl⟩
 |1,h=>cases h;exact⟨_,rfl,rfl⟩
 |2,h=>cases h;exact⟨_,rfl,rfl⟩
 |3,h=>
  cases h;have e:ig (lL k) [v,g,w,y] (vR k x y v g w) ⟨28,0,[0,1,2]⟩=(qu (lL k) 0 x v).bind fun s=>some ⟨false,0,some s⟩:=rfl;rw[e,K6 _ _ rfl];exact⟨_,rfl,rfl⟩
 |4,h=>cases h;exact⟨_,rfl,rfl⟩
 |5,h=>
  cases h;have e:ig (lL k) [v,g,w,y] (vR k x y v g w) ⟨27,5,[3,4]⟩=some ⟨false,0,some (if g≠0 then {lL k with cells:=[kX x v (List.replicate k.toNat 0)] }else {lL k with cells:=[kX x v (List.replicate k.toNat 0)],ed:=2,code:=5})⟩:=rfl;rw[e];refine⟨_,rfl,?_⟩;by_cases A:g=0<;>simp[vR,A,R9.known]
 |6,h=>cases h;exact⟨_,rfl,rfl⟩
 |7,h=>
  cases h;have e:ig (lL k) [v,g,w,y] (vR k x y v g w) ⟨28,0,[5,1,6]⟩=(qu (if g=0 then {lL k with cells:=[kX x v (List.replicate k.toNat 0)],ed:=2,code:=5}else {lL k with cells:=[kX x v (List.replicate k.toNat 0)] }) 0 x w).bind fun s=>some ⟨false,0,some s⟩:=rfl;rw[e,K6 _ (kX x v (List.replicate k.toNat 0)) (by split<;>rfl)];exact⟨_,rfl,rfl⟩
 |8,h=>cases h;exact⟨_,rfl,rfl⟩
 |9,h=>cases h;exact⟨_,rfl,rfl⟩
 |_+10,h=>simp[nC]at h⟩
def rM(k x y v w:Int):Oc:=⟨1,0,[],vQ k x y v w⟩
def rN(k x y v g w:Int):RunX:=⟨hC x k,[102],[v,g,w,y],0⟩
theorem K9{x:Int}(Z:-2<=x)(h1:x<200):∀n∈nC x,NdR n:=by
 intro n o;simp only[nC,fk,vO,vP]at o;rcases o with rfl|rfl|rfl|rfl|rfl|rfl|rfl|rfl|rfl|rfl<;>refine⟨⟨aE,aE⟩,⟨by simp<;>omega,by simp<;>omega⟩,fun q K=>?_,aE⟩<;>simp at K<;>omega
theorem La{x k:Int}(o:-2<=x)(h1:x<200):UnOkR (hC x k):=zcB (by simp[hC]) (by simp[hC]) (by show Pr.sz ⟨[⟨[97],k⟩],[⟨[102],[],[],[],.mk 1 0 [] 0 []⟩]⟩<2^36;show 1+jC [⟨[97],k⟩]+jX [⟨[102],[],[],[],.mk 1 0 [] 0 []⟩]<2^36;have:jC [⟨[97],k⟩]=2:=rfl;rw[this];decide) fun g A=>by
 simp only[hC,fk,vO,vP]at A;subst A;exact⟨vN,K9 o h1⟩
theorem zcF{p q:Int}(Z:0<=p)(h1:p<20)(h2:0<=q)(Y:q<16)(y v g w:Int):RunTo9 (rN (1+q) (p-2) y v g w) (rM (1+q) (p-2) y v w) where
 uok:=(La ac ac).ok
 valid:=K5 Z h1 h2 Y
 f0:=by show(0:Int)<=0;omega
 f1:=by show(0:Int)<=1000;omega
 flat:=fun g A=>by
  simp only[rN,hC,fk,vO,vP]at A;subst A;exact⟨⟨vN,fun n o=>(K9 ac ac n o).len⟩,K8 _,fun n o=>by
   simp only[rL,nC,fk,vO,vP]at o;rcases o with rfl|rfl|rfl|rfl|rfl|rfl|rfl|rfl|rfl|rfl<;>exact⟨aE,aE⟩⟩
 fn:=by
  obtain⟨n,m,e⟩:=Xu (g:=rL (p-2)) vN (zcE (1+q) (p-2) y v g w) (i:=0) (j:=9) rfl vN rfl vN (ri:=⟨true,0,some (lL (1+q))⟩) rfl rfl rfl;exact⟨0,rL (p-2),n,m,rfl,rfl,e⟩
 arr:=fun a F=>by
  simp only[rN,hC,fk,vO,vP]at F;subst F;simp;omega
 args:=by simp[rN]
 out:=by simp[rM]
noncomputable def oy(q p Z v g w:Int):List En:=[JF,kI C4,kI (C7 (rN (1+q) (p-2) (Z-2) v g w) (rM (1+q) (p-2) (Z-2) v w)),kI C8,K2]
theorem zyu(ρ:Nat->Int){p q:Int}(o:0<=p)(h1:p<20)(h2:0<=q)(m:q<16)(Z v g w:Int):fb Tryz.prog ρ (oy q p Z v g w):=⟨zpN ρ,sw (zys ρ),sw (zp4 ρ (zcF o h1 h2 m (Z-2) v g w)),sw (znL ρ),zp5 ρ,trivial⟩
theorem pD(H:Hp)(a b:Int):zej Tryz.prog H 23 2 [(0,.int .i64 a),(1,.int .i64 b)]=some (.sl H.next 0 2 1,H.alloc (.cells [.int .i64 a,.int .i64 b] 0 true)):=af
theorem pE(H:Hp)(a b c:Int):zej Tryz.prog H 23 3 [(0,.int .i64 a),(1,.int .i64 b),(2,.int .i64 c)]=some (.sl H.next 0 3 1,H.alloc (.cells [.int .i64 a,.int .i64 b,.int .i64 c] 0 true)):=af
theorem pF(a:Int):zeb Tryz.prog 25 [(0,.int .i64 a)]=some (.agg [.int .i64 a,.int .i64 0,.nilS]):=af
theorem pG(a b:Int):zeb Tryz.prog 25 [(0,.int .i64 a),(1,.int .i64 b)]=some (.agg [.int .i64 a,.int .i64 b,.nilS]):=af
theorem pH(a:Int)(q n:Nat):zeb Tryz.prog 25 [(0,.int .i64 a),(2,.sl q 0 n 1)]=some (.agg [.int .i64 a,.int .i64 0,.sl q 0 n 1]):=af
theorem pI(a b:Int)(q n:Nat):zeb Tryz.prog 25 [(0,.int .i64 a),(1,.int .i64 b),(2,.sl q 0 n 1)]=some (.agg [.int .i64 a,.int .i64 b,.sl q 0 n 1]):=af
def Lb(x:Int):List AV:=[.int .i64 26,.int .i64 0,.nilS,.int .i64 1,.int .i64 x,.nilS,.int .i64 2,.int .i64 0,.nilS,.int .i64 28,.int .i64 0,.sl 0 0 3 1,.int .i64 2,.int .i64 1,.nilS,.int .i64 27,.int .i64 5,.sl 1 0 2 1,.int .i64 2,.int .i64 2,.nilS,.int .i64 28,.int .i64 0,.sl 2 0 3 1,.int .i64 2,.int .i64 3,.nilS,.int .i64 23,.int .i64 0,.sl 3 0 2 1]
theorem zcH(H:Hp)(x:Int):zej Tryz.prog H 26 10 [(0,.agg [.int .i64 26,.int .i64 0,.nilS]),(1,.agg [.int .i64 1,.int .i64 x,.nilS]),(2,.agg [.int .i64 2,.int .i64 0,.nilS]),(3,.agg [.int .i64 28,.int .i64 0,.sl 0 0 3 1]),(4,.agg [.int .i64 2,.int .i64 1,.nilS]),(5,.agg [.int .i64 27,.int .i64 5,.sl 1 0 2 1]),(6,.agg [.int .i64 2,.int .i64 2,.nilS]),(7,.agg [.int .i64 28,.int .i64 0,.sl 2 0 3 1]),(8,.agg [.int .i64 2,.int .i64 3,.nilS]),(9,.agg [.int .i64 23,.int .i64 0,.sl 3 0 2 1])]=some (.sl H.next 0 10 3,H.alloc (.cells (Lb x) 0 true)):=af
theorem pJ(k:Int):zeb Tryz.prog 42 [(0,.str [97]),(1,.int .i64 k)]=some (.agg [.str [97],.int .i64 k]):=af
theorem pK(H:Hp)(k:Int):zej Tryz.prog H 30 1 [(0,.agg [.str [97],.int .i64 k])]=some (.sl H.next 0 1 2,H.alloc (.cells [.str [97],.int .i64 k] 0 true)):=af
theorem pL(q n:Nat):zeb Tryz.prog 28 [(0,.str [102]),(1,.int .i64 4),(2,.sl q 0 n 3),(3,.int .i64 9),(4,.int .i64 0)]=some (.agg [.str [102],.int .i64 4,.sl q 0 n 3,.int .i64 9,.int .i64 0]):=af
theorem pM(H:Hp)(q n:Nat):zej Tryz.prog H 29 1 [(0,.agg [.str [102],.int .i64 4,.sl q 0 n 3,.int .i64 9,.int .i64 0])]=some (.sl H.next 0 1 5,H.alloc (.cells [.str [102],.int .i64 4,.sl q 0 n 3,.int .i64 9,.int .i64 0] 0 true)):=af
theorem pN(a q:Nat):zeb Tryz.prog 32 [(0,.sl a 0 1 2),(1,.sl q 0 1 5)]=some (.agg [.sl a 0 1 2,.sl q 0 1 5]):=af
theorem pO(H:Hp)(a b c d:Int):zej Tryz.prog H 33 4 [(0,.int .i64 a),(1,.int .i64 b),(2,.int .i64 c),(3,.int .i64 d)]=some (.sl H.next 0 4 1,H.alloc (.cells [.int .i64 a,.int .i64 b,.int .i64 c,.int .i64 d] 0 true)):=af
theorem jw(v:Int):zeb Tryz.prog 35 [(0,.int .i64 1),(3,.int .i64 v)]=some (.agg [.int .i64 1,.int .i64 0,.nilS,.int .i64 v]):=af
theorem pP{P:Program}{cfg:Cfg}{f:FuncId}{l:List SOp}{E:aw}{H:Hp}{Q:aw->Hp->Prop}(p:Hp->Prop)(V:p H)(h:∀H',p H'->aC P cfg f l E H' Q):aC P cfg f l E H Q:=h _ V
structure SlM (x k:Int) (H:Hp):Prop where
 n1:8<=H.next
 n2:H.next<=8
 g0:H.get 0=some (.cells (zdX [0,1,2]) 0 true)
 g1:H.get 1=some (.cells (zdX [3,4]) 0 true)
 g2:H.get 2=some (.cells (zdX [5,1,6]) 0 true)
 g3:H.get 3=some (.cells (zdX [7,8]) 0 true)
 g4:H.get 4=some (.cells (Lb x) 0 true)
 g5:H.get 5=some (.cells [.str [97],.int .i64 k] 0 true)
 g6:H.get 6=some (.cells [.str [102],.int .i64 4,.sl 4 0 10 3,.int .i64 9,.int .i64 0] 0 true)
 g7:H.get 7=some (.cells [.sl 5 0 1 2,.sl 6 0 1 5] 0 true)
theorem r3{S:Nat->Prop}{H:Hp}{a b:Int}{v:AV}{l:List Int}(L:eC S 2 H v (zdR l)):[AV.int .i64 a,.int .i64 b,v].length=3/\zdQ S 2 H [.int .i64 a,.int .i64 b,v] (Nd.mk a b l).cells:=⟨rfl,.cons (.int _ _) (.cons (.int _ _) (.cons L .nil))⟩
theorem rn{S:Nat->Prop}{H:Hp}{a b:Int}:[AV.int .i64 a,.int .i64 b,.nilS].length=3/\zdQ S 2 H [.int .i64 a,.int .i64 b,.nilS] (Nd.mk a b []).cells:=⟨rfl,.cons (.int _ _) (.cons (.int _ _) (.cons .nilS .nil))⟩
theorem SlM.cells{x k:Int}{H:Hp}(h:SlM x k H):zdQ (fun q=>q<7) 6 H [.sl 5 0 1 2,.sl 6 0 1 5] (hC x k).cells:=by
 have o:=h.n1;have a0:eC (fun q=>q<7) 2 H (.sl 0 0 3 1) (zdR [0,1,2]):=rE [0,1,2] (show 0<7 by omega) ac h.g0 (cN _);have zd0:eC (fun q=>q<7) 2 H (.sl 1 0 2 1) (zdR [3,4]):=rE [3,4] (show 1<7 by omega) ac h.g1 (cN _);have a2:eC (fun q=>q<7) 2 H (.sl 2 0 3 1) (zdR [5,1,6]):=rE [5,1,6] (show 2<7 by omega) ac h.g2 (cN _);have a3:eC (fun q=>q<7) 2 H (.sl 3 0 2 1) (zdR [7,8]):=rE [7,8] (show 3<7 by omega) ac h.g3 (cN _);have zeh:eC (fun q=>q<7) 3 H (.sl 4 0 10 3) (zd2 (nC x)):=yG (a:=[[.int .i64 26,.int .i64 0,.nilS],[.int .i64 1,.int .i64 x,.nilS],[.int .i64 2,.int .i64 0,.nilS],[.int .i64 28,.int .i64 0,.sl 0 0 3 1],[.int .i64 2,.int .i64 1,.nilS],[.int .i64 27,.int .i64 5,.sl 1 0 2 1],[.int .i64 2,.int .i64 2,.nilS],[.int .i64 28,.int .i64 0,.sl 2 0 3 1],[.int .i64 2,.int .i64 3,.nilS],[.int .i64 23,.int .i64 0,.sl 3 0 2 1]]) (show 4<7 by omega) ac h.g4 (cN _) ⟨rn,rn,rn,r3 a0,rn,r3 zd0,rn,r3 a2,rn,r3 a3,trivial⟩;have a5:eC (fun q=>q<7) 4 H (.sl 5 0 1 2) (.lst [(Ar.mk [97] k).cells]):=yG (a:=[[.str [97],.int .i64 k]]) (b:=[(Ar.mk [97] k).cells]) (show 5<7 by omega) ac h.g5 (cN _) ⟨⟨rfl,.cons (.str _) (.cons (.int _ _) .nil)⟩,trivial⟩;have zfu:eC (fun q=>q<7) 4 H (.sl 6 0 1 5) (.lst [(rL x).cells]):=yG (a:=[[.str [102],.int .i64 4,.sl 4 0 10 3,.int .i64 9,.int .i64 0]]) (b:=[(rL x).cells]) (show 6<7 by omega) ac h.g6 (cN _) ⟨⟨rfl,.cons (.str _) (.cons (.int _ _) (.cons zeh (.cons (.int _ _) (.cons (.int _ _) .nil))))⟩,trivial⟩;exact .cons (a5.up ac) (.cons (zfu.up ac) .nil)
theorem pQ{k x y v g w:Int}{H:Hp}(h:zdQ (fun q=>q<7) 6 H [.sl 5 0 1 2,.sl 6 0 1 5] (hC x k).cells):zdQ (fun q=>q<7\/q=H.next) 8 (H.alloc (.cells [.int .i64 v,.int .i64 g,.int .i64 w,.int .i64 y] 0 true)) [.agg [.sl 5 0 1 2,.sl 6 0 1 5],.str [102],.sl H.next 0 4 1,.int .i64 0] (oq (rN k x y v g w)):=
 .cons ((nu (n:=6) (ox _ (fun _ q=>.inl q) h)).up ac) (.cons (.str _) (.cons ((rE (n:=0) [v,g,w,y] (.inr rfl) (cQ _) ik (cN _)).up ac) (.cons (.int _ _) .nil)))
def gO(o:Bool):Int:=if o then 0 else 1
set_option maxRecDepth 100000 in
theorem law(i j n v w:Int)(L:Bool):zc2 Tryz.prog (zcW pls (oy (zdP (n.tmod 16) 16) (zdP i 20) (zdP j 20) v (gO L) w)) 4 [.int .i64 i,.int .i64 j,.int .i64 n,.int .i64 v,.int .i64 w,.bool L] zdw fun v _=>v=.bool true:=by
 obtain⟨h0,h1⟩:=vC (n:=i) (m:=20) ac ac;obtain⟨h2,h3⟩:=vC (n:=n.tmod 16) (m:=16) ac ac;obtain⟨h4,h5⟩:=vC (n:=j) (m:=20) ac ac;have hw:Plain (zcW pls (oy (zdP (n.tmod 16) 16) (zdP i 20) (zdP j 20) v (gO L) w)) 4:=zdO (fun _=>rfl) rfl;have kk:∀a m,m≠0->∀H,zc2 Tryz.prog (zcW pls (oy (zdP (n.tmod 16) 16) (zdP i 20) (zdP j 20) v (gO L) w)) 11 [.int .i64 a,.int .i64 m] H fun v H'=>v=.int .i64 (zdP a m)/\H'=H:=fun a m hm H=>zdW (enc:=rD) (ok:=fun x=>x.2≠0) (out:=fun x=>.int .i64 (zdP x.1 x.2)) zxP (x:=(a,m)) rfl hm;have kex:∀H,zc2 Tryz.prog (zcW pls (oy (zdP (n.tmod 16) 16) (zdP i 20) (zdP j 20) v (gO L) w)) 15 [] H fun v H'=>v=.bool true/\H'=H:=fun H=>AL rfl;have k1:=kk (n.tmod 16) 16 ac;have zdp:=kk i 20 ac;have k3:=kk j 20 ac;clear kk;have J:=K5 h0 h1 h2 h3;have kv:=fun{S n' H cs}=>zcx (tb:=oy (zdP (n.tmod 16) 16) (zdP i 20) (zdP j 20) v (gO L) w) (S:=S) (n:=n') (H:=H) (u:=hC (zdP i 20-2) (1+zdP (n.tmod 16) 16)) (cs:=cs) (fun _=>rfl) rfl (La ac ac);have kr:=fun{S n' H ar}=>zcw (tb:=oy (zdP (n.tmod 16) 16) (zdP i 20) (zdP j 20) v (gO L) w) (S:=S) (n:=n') (H:=H) (x:=rN (1+zdP (n.tmod 16) 16) (zdP i 20-2) (zdP j 20-2) v (gO L) w) (o:=rM (1+zdP (n.tmod 16) 16) (zdP i 20-2) (zdP j 20-2) v w) (args:=ar) (fun _=>rfl) rfl;have ksm:=fun{S n' H ar}=>zcz (tb:=oy (zdP (n.tmod 16) 16) (zdP i 20) (zdP j 20) v (gO L) w) (S:=S) (n:=n') (H:=H) (o:=rM (1+zdP (n.tmod 16) 16) (zdP i 20-2) (zdP j 20-2) v w) (args:=ar) (fun _=>rfl) rfl (by rw[rM];simp);have hV:=zcD (k:=1+zdP (n.tmod 16) 16) (x:=zdP i 20-2) (y:=zdP j 20-2) (v:=v) (w:=w) ac;unfold rM at kr ksm;generalize oy (zdP (n.tmod 16) 16) (zdP i 20) (zdP j 20) v (gO L) w=tb at *;generalize vQ (1+zdP (n.tmod 16) 16) (zdP i 20-2) (zdP j 20-2) v w=W at *;have e0:IntKind.wrap .i64 (n.tmod 16)=n.tmod 16:=zey (by have:=yE n (show(0:Int)<16 by omega);have:=Int.neg_lt_of_neg_lt (a:=0) (b:=0);have h:=Int.lt_tmod_of_pos n (show(0:Int)<16 by omega);omega) (by have:=yE n (show(0:Int)<16 by omega);omega);have hrem:∀(D:BinOp->Sx->Sx->Option Bool) (t:TypeId),zdU Tryz.prog D .rem t (.int .i64 n) (.int .i64 16)=some (.int .i64 (n.tmod 16)):=fun D t=>oN ac;generalize n.tmod 16=nm at *;generalize hp:zdP i 20=p at *;generalize hp2:zdP j 20=p2 at *;generalize hq:zdP nm 16=q at *;have e1:IntKind.wrap .i64 (1+q)=1+q:=zey ac ac;have e2:IntKind.wrap .i64 (p-2)=p-2:=zey ac ac;have e3:IntKind.wrap .i64 (p2-2)=p2-2:=zey ac ac;generalize hkk:1+q=k at kv kr ksm hV J e1;generalize hxx:p-2=x at kv kr ksm hV J e2;generalize hyy:p2-2=y at kr ksm hV e3;have f1:IntKind.wrap .i64 (1+q)=k:=by rw[hkk];exact e1
 have f2:IntKind.wrap .i64 (p-2)=x:=by rw[hxx];exact e2
 have f3:IntKind.wrap .i64 (p2-2)=y:=by rw[hyy];exact e3
 clear hp hp2 hq;have bR:=fun H=>zcH H x;have vE:∀a b:AV,zdA 2 [a,b]=some (.agg [a,b]):=fun _ _=>rfl;have agg4':∀a b c d:AV,zdA 4 [a,b,c,d]=some (.agg [a,b,c,d]):=fun _ _ _ _=>rfl;cases L
 .by_cases c1:y=x
  .have c1':=c1.symm;subst c1';by_cases c2:0<=x
   .by_cases c3:x<k
    .refine zf (M:=86) (rs:=[.tmp 12]) (hw.call _) hw.ice hw.froz Tryz.func4 rfl rfl jv.2 rfl ?_;dsimp only[jv,zcX,Nat.reduceAdd];have Z:=@pD;have gh1:=@pE;have gh2:=@pF;have gh3:=@pG;have gh4:=@pH;have gh5:=@pI;have gh6:=@pJ;have gh7:=@pK;have gh8:=@pL;have gh9:=@pM;have gh10:=@pN;have gh11:=@jw;repeat' (first
      |(apply zcP ?_;clear hK K)|apply Ry.o ?_|apply bl ?_|(apply bq ?_;first|refine Rx.k (k1 _) ?_|refine Rx.k (zdp _) ?_|refine Rx.k (k3 _) ?_)|(apply aT (fun A I=>?_) (fun A I=>?_)<;>try(cases A;done))|(apply az (fun z V=>?_) (fun z V=>?_)<;>try(cases z;done))|apply ak ?_|(apply zcQ fun K hK=>?_)|apply zcR ?_|apply am ?_)
     refine pP (SlM x k) ⟨aM 8,aM 8,af,af,af,af,af,af,af,af⟩ ?_;intro F U;have hV2:w=W:=by rw[hV];exact(ay ⟨rfl,c2,c3⟩).symm
     clear hV;subst hV2;have m7:=U.g7;have cl:=pQ (v:=v) (g:=1) (w:=w) (y:=x) (k:=k) U.cells;have n1:=U.n1;have Z:=@pO;repeat' (first
      |(apply zcP ?_;clear hK K)|apply Ry.o ?_|apply bl ?_|(apply aT (fun A I=>?_) (fun A I=>?_)<;>try(cases A;done))|(apply az (fun z V=>?_) (fun z V=>?_)<;>try(cases z;done))|apply ak ?_|(apply zcQ fun K hK=>?_)|apply zcR ?_|apply am ?_)
     refine a4 rfl a6 a7 ?_;simp only[cG];refine aZ ?_ (kr (show(8:Nat)<=60 by omega) cl);rintro v' H1 ⟨rfl,C⟩;dsimp only[zc5];have m71:=(C.out 7 pC).trans ((by rw[zcY,ah ac]:(F.alloc (.cells [.int .i64 v,.int .i64 1,.int .i64 w,.int .i64 x] 0 true)).get 7=F.get 7).trans m7);have j1:=C.next
     rw[zc6]at j1;have n1a:F.next+1<=H1.next:=ac
     clear j1;have y7:(7 == H1.next)=false:=zc7 ac;unfold cR zeT;repeat' (first
      |(apply zcP ?_;clear hK K)|apply Ry.o ?_|apply bl ?_|(apply aT (fun A I=>?_) (fun A I=>?_)<;>try(cases A;done))|(apply az (fun z V=>?_) (fun z V=>?_)<;>try(cases z;done))|apply ak ?_|(apply zcQ fun K hK=>?_)|apply zcR ?_|apply am ?_)
     generalize Y:Hp.set (H1.alloc _) _ _=O;have nd:H1.next+1<=O.next:=pz
     have kd:∀r,r<H1.next->O.get r=H1.get r:=fun r hr=>by
      rw[<-Y];simp only[aX,zcY,ah (show ¬r=H1.next by omega)]
     have gd:O.get H1.next=some (.cells [.int .i64 1,.int .i64 0,.lst (List.map (fun n=>[AV.int .i64 n]) []),.int .i64 w] 0 true):=pA
     clear Y;have cu:zdQ (fun q=>q<7) 6 O [.sl 5 0 1 2,.sl 6 0 1 5] (hC x k).cells:=(py (ox _ (fun _ q=>q) U.cells) C).keep (fun _ q=>q) ac fun r _ hr=>kd r hr;refine a4 rfl a6 a7 ?_;simp only[cG];refine aZ ?_ (kv (show(6:Nat)<60 by omega) cu);rintro v' H2 ⟨rfl,i2⟩;rw[J];dsimp only[zc5];have g2:=(i2.out H1.next pB).trans gd;have cs:zdQ (fun _=>True) 5 H2 [.agg [.int .i64 1,.int .i64 0,.lst (List.map (fun n=>[AV.int .i64 n]) []),.int .i64 w],.agg [.int .i64 1,.int .i64 0,.nilS,.int .i64 w]] [cR ⟨1,0,[],w⟩,cR ⟨1,0,[],w⟩]:=.cons (px (o:=⟨1,0,[],w⟩) (n:=3)) (.cons (nu (.cons (.int _ _) (.cons (.int _ _) (.cons .nilS (.cons (.int _ _) .nil))))) .nil);have Z:=@jw;repeat' (first
      |(apply zcP ?_;clear hK K)|apply Ry.o ?_|apply bl ?_|(apply aT (fun A I=>?_) (fun A I=>?_)<;>try(cases A;done))|(apply az (fun z V=>?_) (fun z V=>?_)<;>try(cases z;done))|apply ak ?_|(apply zcQ fun K hK=>?_)|apply zcR ?_|apply am ?_)
     refine a4 rfl a6 a7 ?_;simp only[cG];refine aZ ?_ (ksm (show(5:Nat)<=60 by omega) cs);rintro v' H3 ⟨rfl,i3⟩;dsimp only[zc5];repeat' (first
      |(apply zcP ?_;clear hK K)|apply Ry.o ?_|apply bl ?_|(apply bq ?_;first|refine Rx.k (kex _) ?_)|(apply aT (fun A I=>?_) (fun A I=>?_)<;>try(cases A;done))|(apply az (fun z V=>?_) (fun z V=>?_)<;>try(cases z;done))|apply ak ?_|(apply zcQ fun K hK=>?_)|apply zcR ?_|apply am ?_)
     all_goals (refine⟨zcT,_,zcU,?_⟩;try simp only[zcS])
    .refine zf (M:=86) (rs:=[.tmp 12]) (hw.call _) hw.ice hw.froz Tryz.func4 rfl rfl jv.2 rfl ?_;dsimp only[jv,zcX,Nat.reduceAdd];have Z:=@pD;have gh1:=@pE;have gh2:=@pF;have gh3:=@pG;have gh4:=@pH;have gh5:=@pI;have gh6:=@pJ;have gh7:=@pK;have gh8:=@pL;have gh9:=@pM;have gh10:=@pN;have gh11:=@jw;repeat' (first
      |(apply zcP ?_;clear hK K)|apply Ry.o ?_|apply bl ?_|(apply bq ?_;first|refine Rx.k (k1 _) ?_|refine Rx.k (zdp _) ?_|refine Rx.k (k3 _) ?_)|(apply aT (fun A I=>?_) (fun A I=>?_)<;>try(cases A;done))|(apply az (fun z V=>?_) (fun z V=>?_)<;>try(cases z;done))|apply ak ?_|(apply zcQ fun K hK=>?_)|apply zcR ?_|apply am ?_)
     refine pP (SlM x k) ⟨aM 8,aM 8,af,af,af,af,af,af,af,af⟩ ?_;intro F U;have hV2:0=W:=K3;clear hV;subst hV2;have m7:=U.g7;have cl:=pQ (v:=v) (g:=1) (w:=w) (y:=x) (k:=k) U.cells;have n1:=U.n1;have Z:=@pO;repeat' (first
      |(apply zcP ?_;clear hK K)|apply Ry.o ?_|apply bl ?_|(apply aT (fun A I=>?_) (fun A I=>?_)<;>try(cases A;done))|(apply az (fun z V=>?_) (fun z V=>?_)<;>try(cases z;done))|apply ak ?_|(apply zcQ fun K hK=>?_)|apply zcR ?_|apply am ?_)
     refine a4 rfl a6 a7 ?_;simp only[cG];refine aZ ?_ (kr (show(8:Nat)<=60 by omega) cl);rintro v' H1 ⟨rfl,C⟩;dsimp only[zc5];have m71:=(C.out 7 pC).trans ((by rw[zcY,ah ac]:(F.alloc (.cells [.int .i64 v,.int .i64 1,.int .i64 w,.int .i64 x] 0 true)).get 7=F.get 7).trans m7);have j1:=C.next
     rw[zc6]at j1;have n1a:F.next+1<=H1.next:=ac
     clear j1;have y7:(7 == H1.next)=false:=zc7 ac;unfold cR zeT;repeat' (first
      |(apply zcP ?_;clear hK K)|apply Ry.o ?_|apply bl ?_|(apply aT (fun A I=>?_) (fun A I=>?_)<;>try(cases A;done))|(apply az (fun z V=>?_) (fun z V=>?_)<;>try(cases z;done))|apply ak ?_|(apply zcQ fun K hK=>?_)|apply zcR ?_|apply am ?_)
     generalize Y:Hp.set (H1.alloc _) _ _=O;have nd:H1.next+1<=O.next:=pz
     have kd:∀r,r<H1.next->O.get r=H1.get r:=fun r hr=>by
      rw[<-Y];simp only[aX,zcY,ah (show ¬r=H1.next by omega)]
     have gd:O.get H1.next=some (.cells [.int .i64 1,.int .i64 0,.lst (List.map (fun n=>[AV.int .i64 n]) []),.int .i64 0] 0 true):=pA
     clear Y;have cu:zdQ (fun q=>q<7) 6 O [.sl 5 0 1 2,.sl 6 0 1 5] (hC x k).cells:=(py (ox _ (fun _ q=>q) U.cells) C).keep (fun _ q=>q) ac fun r _ hr=>kd r hr;refine a4 rfl a6 a7 ?_;simp only[cG];refine aZ ?_ (kv (show(6:Nat)<60 by omega) cu);rintro v' H2 ⟨rfl,i2⟩;rw[J];dsimp only[zc5];have g2:=(i2.out H1.next pB).trans gd;have cs:zdQ (fun _=>True) 5 H2 [.agg [.int .i64 1,.int .i64 0,.lst (List.map (fun n=>[AV.int .i64 n]) []),.int .i64 0],.agg [.int .i64 1,.int .i64 0,.nilS,.int .i64 0]] [cR ⟨1,0,[],0⟩,cR ⟨1,0,[],0⟩]:=.cons (px (o:=⟨1,0,[],0⟩) (n:=3)) (.cons (nu (.cons (.int _ _) (.cons (.int _ _) (.cons .nilS (.cons (.int _ _) .nil))))) .nil);have Z:=@jw;repeat' (first
      |(apply zcP ?_;clear hK K)|apply Ry.o ?_|apply bl ?_|(apply aT (fun A I=>?_) (fun A I=>?_)<;>try(cases A;done))|(apply az (fun z V=>?_) (fun z V=>?_)<;>try(cases z;done))|apply ak ?_|(apply zcQ fun K hK=>?_)|apply zcR ?_|apply am ?_)
     refine a4 rfl a6 a7 ?_;simp only[cG];refine aZ ?_ (ksm (show(5:Nat)<=60 by omega) cs);rintro v' H3 ⟨rfl,i3⟩;dsimp only[zc5];repeat' (first
      |(apply zcP ?_;clear hK K)|apply Ry.o ?_|apply bl ?_|(apply bq ?_;first|refine Rx.k (kex _) ?_)|(apply aT (fun A I=>?_) (fun A I=>?_)<;>try(cases A;done))|(apply az (fun z V=>?_) (fun z V=>?_)<;>try(cases z;done))|apply ak ?_|(apply zcQ fun K hK=>?_)|apply zcR ?_|apply am ?_)
     all_goals (refine⟨zcT,_,zcU,?_⟩;try simp only[zcS])
   .refine zf (M:=86) (rs:=[.tmp 12]) (hw.call _) hw.ice hw.froz Tryz.func4 rfl rfl jv.2 rfl ?_;dsimp only[jv,zcX,Nat.reduceAdd];have Z:=@pD;have gh1:=@pE;have gh2:=@pF;have gh3:=@pG;have gh4:=@pH;have gh5:=@pI;have gh6:=@pJ;have gh7:=@pK;have gh8:=@pL;have gh9:=@pM;have gh10:=@pN;have gh11:=@jw;repeat' (first
     |(apply zcP ?_;clear hK K)|apply Ry.o ?_|apply bl ?_|(apply bq ?_;first|refine Rx.k (k1 _) ?_|refine Rx.k (zdp _) ?_|refine Rx.k (k3 _) ?_)|(apply aT (fun A I=>?_) (fun A I=>?_)<;>try(cases A;done))|(apply az (fun z V=>?_) (fun z V=>?_)<;>try(cases z;done))|apply ak ?_|(apply zcQ fun K hK=>?_)|apply zcR ?_|apply am ?_)
    refine pP (SlM x k) ⟨aM 8,aM 8,af,af,af,af,af,af,af,af⟩ ?_;intro F U;have hV2:0=W:=K4;clear hV;subst hV2;have m7:=U.g7;have cl:=pQ (v:=v) (g:=1) (w:=w) (y:=x) (k:=k) U.cells;have n1:=U.n1;have Z:=@pO;repeat' (first
     |(apply zcP ?_;clear hK K)|apply Ry.o ?_|apply bl ?_|(apply aT (fun A I=>?_) (fun A I=>?_)<;>try(cases A;done))|(apply az (fun z V=>?_) (fun z V=>?_)<;>try(cases z;done))|apply ak ?_|(apply zcQ fun K hK=>?_)|apply zcR ?_|apply am ?_)
    refine a4 rfl a6 a7 ?_;simp only[cG];refine aZ ?_ (kr (show(8:Nat)<=60 by omega) cl);rintro v' H1 ⟨rfl,C⟩;dsimp only[zc5];have m71:=(C.out 7 pC).trans ((by rw[zcY,ah ac]:(F.alloc (.cells [.int .i64 v,.int .i64 1,.int .i64 w,.int .i64 x] 0 true)).get 7=F.get 7).trans m7);have j1:=C.next
    rw[zc6]at j1;have n1a:F.next+1<=H1.next:=ac
    clear j1;have y7:(7 == H1.next)=false:=zc7 ac;unfold cR zeT;repeat' (first
     |(apply zcP ?_;clear hK K)|apply Ry.o ?_|apply bl ?_|(apply aT (fun A I=>?_) (fun A I=>?_)<;>try(cases A;done))|(apply az (fun z V=>?_) (fun z V=>?_)<;>try(cases z;done))|apply ak ?_|(apply zcQ fun K hK=>?_)|apply zcR ?_|apply am ?_)
    generalize Y:Hp.set (H1.alloc _) _ _=O;have nd:H1.next+1<=O.next:=pz
    have kd:∀r,r<H1.next->O.get r=H1.get r:=fun r hr=>by
     rw[<-Y];simp only[aX,zcY,ah (show ¬r=H1.next by omega)]
    have gd:O.get H1.next=some (.cells [.int .i64 1,.int .i64 0,.lst (List.map (fun n=>[AV.int .i64 n]) []),.int .i64 0] 0 true):=pA
    clear Y;have cu:zdQ (fun q=>q<7) 6 O [.sl 5 0 1 2,.sl 6 0 1 5] (hC x k).cells:=(py (ox _ (fun _ q=>q) U.cells) C).keep (fun _ q=>q) ac fun r _ hr=>kd r hr;refine a4 rfl a6 a7 ?_;simp only[cG];refine aZ ?_ (kv (show(6:Nat)<60 by omega) cu);rintro v' H2 ⟨rfl,i2⟩;rw[J];dsimp only[zc5];have g2:=(i2.out H1.next pB).trans gd;have cs:zdQ (fun _=>True) 5 H2 [.agg [.int .i64 1,.int .i64 0,.lst (List.map (fun n=>[AV.int .i64 n]) []),.int .i64 0],.agg [.int .i64 1,.int .i64 0,.nilS,.int .i64 0]] [cR ⟨1,0,[],0⟩,cR ⟨1,0,[],0⟩]:=.cons (px (o:=⟨1,0,[],0⟩) (n:=3)) (.cons (nu (.cons (.int _ _) (.cons (.int _ _) (.cons .nilS (.cons (.int _ _) .nil))))) .nil);have Z:=@jw;repeat' (first
     |(apply zcP ?_;clear hK K)|apply Ry.o ?_|apply bl ?_|(apply aT (fun A I=>?_) (fun A I=>?_)<;>try(cases A;done))|(apply az (fun z V=>?_) (fun z V=>?_)<;>try(cases z;done))|apply ak ?_|(apply zcQ fun K hK=>?_)|apply zcR ?_|apply am ?_)
    refine a4 rfl a6 a7 ?_;simp only[cG];refine aZ ?_ (ksm (show(5:Nat)<=60 by omega) cs);rintro v' H3 ⟨rfl,i3⟩;dsimp only[zc5];repeat' (first
     |(apply zcP ?_;clear hK K)|apply Ry.o ?_|apply bl ?_|(apply bq ?_;first|refine Rx.k (kex _) ?_)|(apply aT (fun A I=>?_) (fun A I=>?_)<;>try(cases A;done))|(apply az (fun z V=>?_) (fun z V=>?_)<;>try(cases z;done))|apply ak ?_|(apply zcQ fun K hK=>?_)|apply zcR ?_|apply am ?_)
    all_goals (refine⟨zcT,_,zcU,?_⟩;try simp only[zcS])
  .refine zf (M:=86) (rs:=[.tmp 12]) (hw.call _) hw.ice hw.froz Tryz.func4 rfl rfl jv.2 rfl ?_;dsimp only[jv,zcX,Nat.reduceAdd];have Z:=@pD;have gh1:=@pE;have gh2:=@pF;have gh3:=@pG;have gh4:=@pH;have gh5:=@pI;have gh6:=@pJ;have gh7:=@pK;have gh8:=@pL;have gh9:=@pM;have gh10:=@pN;have gh11:=@jw;repeat' (first
    |(apply zcP ?_;clear hK K)|apply Ry.o ?_|apply bl ?_|(apply bq ?_;first|refine Rx.k (k1 _) ?_|refine Rx.k (zdp _) ?_|refine Rx.k (k3 _) ?_)|(apply aT (fun A I=>?_) (fun A I=>?_)<;>try(cases A;done))|(apply az (fun z V=>?_) (fun z V=>?_)<;>try(cases z;done))|apply ak ?_|(apply zcQ fun K hK=>?_)|apply zcR ?_|apply am ?_)
   refine pP (SlM x k) ⟨aM 8,aM 8,af,af,af,af,af,af,af,af⟩ ?_;intro F U;have hV2:0=W:=by rw[hV];exact(ah (fun h=>c1 h.1)).symm
   clear hV;subst hV2;have m7:=U.g7;have cl:=pQ (v:=v) (g:=1) (w:=w) (y:=y) (k:=k) U.cells;have n1:=U.n1;have Z:=@pO;repeat' (first
    |(apply zcP ?_;clear hK K)|apply Ry.o ?_|apply bl ?_|(apply aT (fun A I=>?_) (fun A I=>?_)<;>try(cases A;done))|(apply az (fun z V=>?_) (fun z V=>?_)<;>try(cases z;done))|apply ak ?_|(apply zcQ fun K hK=>?_)|apply zcR ?_|apply am ?_)
   refine a4 rfl a6 a7 ?_;simp only[cG];refine aZ ?_ (kr (show(8:Nat)<=60 by omega) cl);rintro v' H1 ⟨rfl,C⟩;dsimp only[zc5];have m71:=(C.out 7 pC).trans ((by rw[zcY,ah ac]:(F.alloc (.cells [.int .i64 v,.int .i64 1,.int .i64 w,.int .i64 y] 0 true)).get 7=F.get 7).trans m7);have j1:=C.next
   rw[zc6]at j1;have n1a:F.next+1<=H1.next:=ac
   clear j1;have y7:(7 == H1.next)=false:=zc7 ac;unfold cR zeT;repeat' (first
    |(apply zcP ?_;clear hK K)|apply Ry.o ?_|apply bl ?_|(apply aT (fun A I=>?_) (fun A I=>?_)<;>try(cases A;done))|(apply az (fun z V=>?_) (fun z V=>?_)<;>try(cases z;done))|apply ak ?_|(apply zcQ fun K hK=>?_)|apply zcR ?_|apply am ?_)
   generalize Y:Hp.set (H1.alloc _) _ _=O;have nd:H1.next+1<=O.next:=pz
   have kd:∀r,r<H1.next->O.get r=H1.get r:=fun r hr=>by
    rw[<-Y];simp only[aX,zcY,ah (show ¬r=H1.next by omega)]
   have gd:O.get H1.next=some (.cells [.int .i64 1,.int .i64 0,.lst (List.map (fun n=>[AV.int .i64 n]) []),.int .i64 0] 0 true):=pA
   clear Y;have cu:zdQ (fun q=>q<7) 6 O [.sl 5 0 1 2,.sl 6 0 1 5] (hC x k).cells:=(py (ox _ (fun _ q=>q) U.cells) C).keep (fun _ q=>q) ac fun r _ hr=>kd r hr;refine a4 rfl a6 a7 ?_;simp only[cG];refine aZ ?_ (kv (show(6:Nat)<60 by omega) cu);rintro v' H2 ⟨rfl,i2⟩;rw[J];dsimp only[zc5];have g2:=(i2.out H1.next pB).trans gd;have cs:zdQ (fun _=>True) 5 H2 [.agg [.int .i64 1,.int .i64 0,.lst (List.map (fun n=>[AV.int .i64 n]) []),.int .i64 0],.agg [.int .i64 1,.int .i64 0,.nilS,.int .i64 0]] [cR ⟨1,0,[],0⟩,cR ⟨1,0,[],0⟩]:=.cons (px (o:=⟨1,0,[],0⟩) (n:=3)) (.cons (nu (.cons (.int _ _) (.cons (.int _ _) (.cons .nilS (.cons (.int _ _) .nil))))) .nil);have Z:=@jw;repeat' (first
    |(apply zcP ?_;clear hK K)|apply Ry.o ?_|apply bl ?_|(apply aT (fun A I=>?_) (fun A I=>?_)<;>try(cases A;done))|(apply az (fun z V=>?_) (fun z V=>?_)<;>try(cases z;done))|apply ak ?_|(apply zcQ fun K hK=>?_)|apply zcR ?_|apply am ?_)
   refine a4 rfl a6 a7 ?_;simp only[cG];refine aZ ?_ (ksm (show(5:Nat)<=60 by omega) cs);rintro v' H3 ⟨rfl,i3⟩;dsimp only[zc5];repeat' (first
    |(apply zcP ?_;clear hK K)|apply Ry.o ?_|apply bl ?_|(apply bq ?_;first|refine Rx.k (kex _) ?_)|(apply aT (fun A I=>?_) (fun A I=>?_)<;>try(cases A;done))|(apply az (fun z V=>?_) (fun z V=>?_)<;>try(cases z;done))|apply ak ?_|(apply zcQ fun K hK=>?_)|apply zcR ?_|apply am ?_)
   all_goals (refine⟨zcT,_,zcU,?_⟩;try simp only[zcS])
 .by_cases c1:y=x
  .have c1':=c1.symm;subst c1';by_cases c2:0<=x
   .by_cases c3:x<k
    .refine zf (M:=86) (rs:=[.tmp 12]) (hw.call _) hw.ice hw.froz Tryz.func4 rfl rfl jv.2 rfl ?_;dsimp only[jv,zcX,Nat.reduceAdd];have Z:=@pD;have gh1:=@pE;have gh2:=@pF;have gh3:=@pG;have gh4:=@pH;have gh5:=@pI;have gh6:=@pJ;have gh7:=@pK;have gh8:=@pL;have gh9:=@pM;have gh10:=@pN;have gh11:=@jw;repeat' (first
      |(apply zcP ?_;clear hK K)|apply Ry.o ?_|apply bl ?_|(apply bq ?_;first|refine Rx.k (k1 _) ?_|refine Rx.k (zdp _) ?_|refine Rx.k (k3 _) ?_)|(apply aT (fun A I=>?_) (fun A I=>?_)<;>try(cases A;done))|(apply az (fun z V=>?_) (fun z V=>?_)<;>try(cases z;done))|apply ak ?_|(apply zcQ fun K hK=>?_)|apply zcR ?_|apply am ?_)
     refine pP (SlM x k) ⟨aM 8,aM 8,af,af,af,af,af,af,af,af⟩ ?_;intro F U;have hV2:w=W:=by rw[hV];exact(ay ⟨rfl,c2,c3⟩).symm
     clear hV;subst hV2;have m7:=U.g7;have cl:=pQ (v:=v) (g:=0) (w:=w) (y:=x) (k:=k) U.cells;have n1:=U.n1;have Z:=@pO;repeat' (first
      |(apply zcP ?_;clear hK K)|apply Ry.o ?_|apply bl ?_|(apply aT (fun A I=>?_) (fun A I=>?_)<;>try(cases A;done))|(apply az (fun z V=>?_) (fun z V=>?_)<;>try(cases z;done))|apply ak ?_|(apply zcQ fun K hK=>?_)|apply zcR ?_|apply am ?_)
     refine a4 rfl a6 a7 ?_;simp only[cG];refine aZ ?_ (kr (show(8:Nat)<=60 by omega) cl);rintro v' H1 ⟨rfl,C⟩;dsimp only[zc5];have m71:=(C.out 7 pC).trans ((by rw[zcY,ah ac]:(F.alloc (.cells [.int .i64 v,.int .i64 0,.int .i64 w,.int .i64 x] 0 true)).get 7=F.get 7).trans m7);have j1:=C.next
     rw[zc6]at j1;have n1a:F.next+1<=H1.next:=ac
     clear j1;have y7:(7 == H1.next)=false:=zc7 ac;unfold cR zeT;repeat' (first
      |(apply zcP ?_;clear hK K)|apply Ry.o ?_|apply bl ?_|(apply aT (fun A I=>?_) (fun A I=>?_)<;>try(cases A;done))|(apply az (fun z V=>?_) (fun z V=>?_)<;>try(cases z;done))|apply ak ?_|(apply zcQ fun K hK=>?_)|apply zcR ?_|apply am ?_)
     generalize Y:Hp.set (H1.alloc _) _ _=O;have nd:H1.next+1<=O.next:=pz
     have kd:∀r,r<H1.next->O.get r=H1.get r:=fun r hr=>by
      rw[<-Y];simp only[aX,zcY,ah (show ¬r=H1.next by omega)]
     have gd:O.get H1.next=some (.cells [.int .i64 1,.int .i64 0,.lst (List.map (fun n=>[AV.int .i64 n]) []),.int .i64 w] 0 true):=pA
     clear Y;have cu:zdQ (fun q=>q<7) 6 O [.sl 5 0 1 2,.sl 6 0 1 5] (hC x k).cells:=(py (ox _ (fun _ q=>q) U.cells) C).keep (fun _ q=>q) ac fun r _ hr=>kd r hr;refine a4 rfl a6 a7 ?_;simp only[cG];refine aZ ?_ (kv (show(6:Nat)<60 by omega) cu);rintro v' H2 ⟨rfl,i2⟩;rw[J];dsimp only[zc5];have g2:=(i2.out H1.next pB).trans gd;have cs:zdQ (fun _=>True) 5 H2 [.agg [.int .i64 1,.int .i64 0,.lst (List.map (fun n=>[AV.int .i64 n]) []),.int .i64 w],.agg [.int .i64 1,.int .i64 0,.nilS,.int .i64 w]] [cR ⟨1,0,[],w⟩,cR ⟨1,0,[],w⟩]:=.cons (px (o:=⟨1,0,[],w⟩) (n:=3)) (.cons (nu (.cons (.int _ _) (.cons (.int _ _) (.cons .nilS (.cons (.int _ _) .nil))))) .nil);have Z:=@jw;repeat' (first
      |(apply zcP ?_;clear hK K)|apply Ry.o ?_|apply bl ?_|(apply aT (fun A I=>?_) (fun A I=>?_)<;>try(cases A;done))|(apply az (fun z V=>?_) (fun z V=>?_)<;>try(cases z;done))|apply ak ?_|(apply zcQ fun K hK=>?_)|apply zcR ?_|apply am ?_)
     refine a4 rfl a6 a7 ?_;simp only[cG];refine aZ ?_ (ksm (show(5:Nat)<=60 by omega) cs);rintro v' H3 ⟨rfl,i3⟩;dsimp only[zc5];repeat' (first
      |(apply zcP ?_;clear hK K)|apply Ry.o ?_|apply bl ?_|(apply bq ?_;first|refine Rx.k (kex _) ?_)|(apply aT (fun A I=>?_) (fun A I=>?_)<;>try(cases A;done))|(apply az (fun z V=>?_) (fun z V=>?_)<;>try(cases z;done))|apply ak ?_|(apply zcQ fun K hK=>?_)|apply zcR ?_|apply am ?_)
     all_goals (refine⟨zcT,_,zcU,?_⟩;try simp only[zcS])
    .refine zf (M:=86) (rs:=[.tmp 12]) (hw.call _) hw.ice hw.froz Tryz.func4 rfl rfl jv.2 rfl ?_;dsimp only[jv,zcX,Nat.reduceAdd];have Z:=@pD;have gh1:=@pE;have gh2:=@pF;have gh3:=@pG;have gh4:=@pH;have gh5:=@pI;have gh6:=@pJ;have gh7:=@pK;have gh8:=@pL;have gh9:=@pM;have gh10:=@pN;have gh11:=@jw;repeat' (first
      |(apply zcP ?_;clear hK K)|apply Ry.o ?_|apply bl ?_|(apply bq ?_;first|refine Rx.k (k1 _) ?_|refine Rx.k (zdp _) ?_|refine Rx.k (k3 _) ?_)|(apply aT (fun A I=>?_) (fun A I=>?_)<;>try(cases A;done))|(apply az (fun z V=>?_) (fun z V=>?_)<;>try(cases z;done))|apply ak ?_|(apply zcQ fun K hK=>?_)|apply zcR ?_|apply am ?_)
     refine pP (SlM x k) ⟨aM 8,aM 8,af,af,af,af,af,af,af,af⟩ ?_;intro F U;have hV2:0=W:=K3;clear hV;subst hV2;have m7:=U.g7;have cl:=pQ (v:=v) (g:=0) (w:=w) (y:=x) (k:=k) U.cells;have n1:=U.n1;have Z:=@pO;repeat' (first
      |(apply zcP ?_;clear hK K)|apply Ry.o ?_|apply bl ?_|(apply aT (fun A I=>?_) (fun A I=>?_)<;>try(cases A;done))|(apply az (fun z V=>?_) (fun z V=>?_)<;>try(cases z;done))|apply ak ?_|(apply zcQ fun K hK=>?_)|apply zcR ?_|apply am ?_)
     refine a4 rfl a6 a7 ?_;simp only[cG];refine aZ ?_ (kr (show(8:Nat)<=60 by omega) cl);rintro v' H1 ⟨rfl,C⟩;dsimp only[zc5];have m71:=(C.out 7 pC).trans ((by rw[zcY,ah ac]:(F.alloc (.cells [.int .i64 v,.int .i64 0,.int .i64 w,.int .i64 x] 0 true)).get 7=F.get 7).trans m7);have j1:=C.next
     rw[zc6]at j1;have n1a:F.next+1<=H1.next:=ac
     clear j1;have y7:(7 == H1.next)=false:=zc7 ac;unfold cR zeT;repeat' (first
      |(apply zcP ?_;clear hK K)|apply Ry.o ?_|apply bl ?_|(apply aT (fun A I=>?_) (fun A I=>?_)<;>try(cases A;done))|(apply az (fun z V=>?_) (fun z V=>?_)<;>try(cases z;done))|apply ak ?_|(apply zcQ fun K hK=>?_)|apply zcR ?_|apply am ?_)
     generalize Y:Hp.set (H1.alloc _) _ _=O;have nd:H1.next+1<=O.next:=pz
     have kd:∀r,r<H1.next->O.get r=H1.get r:=fun r hr=>by
      rw[<-Y];simp only[aX,zcY,ah (show ¬r=H1.next by omega)]
     have gd:O.get H1.next=some (.cells [.int .i64 1,.int .i64 0,.lst (List.map (fun n=>[AV.int .i64 n]) []),.int .i64 0] 0 true):=pA
     clear Y;have cu:zdQ (fun q=>q<7) 6 O [.sl 5 0 1 2,.sl 6 0 1 5] (hC x k).cells:=(py (ox _ (fun _ q=>q) U.cells) C).keep (fun _ q=>q) ac fun r _ hr=>kd r hr;refine a4 rfl a6 a7 ?_;simp only[cG];refine aZ ?_ (kv (show(6:Nat)<60 by omega) cu);rintro v' H2 ⟨rfl,i2⟩;rw[J];dsimp only[zc5];have g2:=(i2.out H1.next pB).trans gd;have cs:zdQ (fun _=>True) 5 H2 [.agg [.int .i64 1,.int .i64 0,.lst (List.map (fun n=>[AV.int .i64 n]) []),.int .i64 0],.agg [.int .i64 1,.int .i64 0,.nilS,.int .i64 0]] [cR ⟨1,0,[],0⟩,cR ⟨1,0,[],0⟩]:=.cons (px (o:=⟨1,0,[],0⟩) (n:=3)) (.cons (nu (.cons (.int _ _) (.cons (.int _ _) (.cons .nilS (.cons (.int _ _) .nil))))) .nil);have Z:=@jw;repeat' (first
      |(apply zcP ?_;clear hK K)|apply Ry.o ?_|apply bl ?_|(apply aT (fun A I=>?_) (fun A I=>?_)<;>try(cases A;done))|(apply az (fun z V=>?_) (fun z V=>?_)<;>try(cases z;done))|apply ak ?_|(apply zcQ fun K hK=>?_)|apply zcR ?_|apply am ?_)
     refine a4 rfl a6 a7 ?_;simp only[cG];refine aZ ?_ (ksm (show(5:Nat)<=60 by omega) cs);rintro v' H3 ⟨rfl,i3⟩;dsimp only[zc5];repeat' (first
      |(apply zcP ?_;clear hK K)|apply Ry.o ?_|apply bl ?_|(apply bq ?_;first|refine Rx.k (kex _) ?_)|(apply aT (fun A I=>?_) (fun A I=>?_)<;>try(cases A;done))|(apply az (fun z V=>?_) (fun z V=>?_)<;>try(cases z;done))|apply ak ?_|(apply zcQ fun K hK=>?_)|apply zcR ?_|apply am ?_)
     all_goals (refine⟨zcT,_,zcU,?_⟩;try simp only[zcS])
   .refine zf (M:=86) (rs:=[.tmp 12]) (hw.call _) hw.ice hw.froz Tryz.func4 rfl rfl jv.2 rfl ?_;dsimp only[jv,zcX,Nat.reduceAdd];have Z:=@pD;have gh1:=@pE;have gh2:=@pF;have gh3:=@pG;have gh4:=@pH;have gh5:=@pI;have gh6:=@pJ;have gh7:=@pK;have gh8:=@pL;have gh9:=@pM;have gh10:=@pN;have gh11:=@jw;repeat' (first
     |(apply zcP ?_;clear hK K)|apply Ry.o ?_|apply bl ?_|(apply bq ?_;first|refine Rx.k (k1 _) ?_|refine Rx.k (zdp _) ?_|refine Rx.k (k3 _) ?_)|(apply aT (fun A I=>?_) (fun A I=>?_)<;>try(cases A;done))|(apply az (fun z V=>?_) (fun z V=>?_)<;>try(cases z;done))|apply ak ?_|(apply zcQ fun K hK=>?_)|apply zcR ?_|apply am ?_)
    refine pP (SlM x k) ⟨aM 8,aM 8,af,af,af,af,af,af,af,af⟩ ?_;intro F U;have hV2:0=W:=K4;clear hV;subst hV2;have m7:=U.g7;have cl:=pQ (v:=v) (g:=0) (w:=w) (y:=x) (k:=k) U.cells;have n1:=U.n1;have Z:=@pO;repeat' (first
     |(apply zcP ?_;clear hK K)|apply Ry.o ?_|apply bl ?_|(apply aT (fun A I=>?_) (fun A I=>?_)<;>try(cases A;done))|(apply az (fun z V=>?_) (fun z V=>?_)<;>try(cases z;done))|apply ak ?_|(apply zcQ fun K hK=>?_)|apply zcR ?_|apply am ?_)
    refine a4 rfl a6 a7 ?_;simp only[cG];refine aZ ?_ (kr (show(8:Nat)<=60 by omega) cl);rintro v' H1 ⟨rfl,C⟩;dsimp only[zc5];have m71:=(C.out 7 pC).trans ((by rw[zcY,ah ac]:(F.alloc (.cells [.int .i64 v,.int .i64 0,.int .i64 w,.int .i64 x] 0 true)).get 7=F.get 7).trans m7);have j1:=C.next
    rw[zc6]at j1;have n1a:F.next+1<=H1.next:=ac
    clear j1;have y7:(7 == H1.next)=false:=zc7 ac;unfold cR zeT;repeat' (first
     |(apply zcP ?_;clear hK K)|apply Ry.o ?_|apply bl ?_|(apply aT (fun A I=>?_) (fun A I=>?_)<;>try(cases A;done))|(apply az (fun z V=>?_) (fun z V=>?_)<;>try(cases z;done))|apply ak ?_|(apply zcQ fun K hK=>?_)|apply zcR ?_|apply am ?_)
    generalize Y:Hp.set (H1.alloc _) _ _=O;have nd:H1.next+1<=O.next:=pz
    have kd:∀r,r<H1.next->O.get r=H1.get r:=fun r hr=>by
     rw[<-Y];simp only[aX,zcY,ah (show ¬r=H1.next by omega)]
    have gd:O.get H1.next=some (.cells [.int .i64 1,.int .i64 0,.lst (List.map (fun n=>[AV.int .i64 n]) []),.int .i64 0] 0 true):=pA
    clear Y;have cu:zdQ (fun q=>q<7) 6 O [.sl 5 0 1 2,.sl 6 0 1 5] (hC x k).cells:=(py (ox _ (fun _ q=>q) U.cells) C).keep (fun _ q=>q) ac fun r _ hr=>kd r hr;refine a4 rfl a6 a7 ?_;simp only[cG];refine aZ ?_ (kv (show(6:Nat)<60 by omega) cu);rintro v' H2 ⟨rfl,i2⟩;rw[J];dsimp only[zc5];have g2:=(i2.out H1.next pB).trans gd;have cs:zdQ (fun _=>True) 5 H2 [.agg [.int .i64 1,.int .i64 0,.lst (List.map (fun n=>[AV.int .i64 n]) []),.int .i64 0],.agg [.int .i64 1,.int .i64 0,.nilS,.int .i64 0]] [cR ⟨1,0,[],0⟩,cR ⟨1,0,[],0⟩]:=.cons (px (o:=⟨1,0,[],0⟩) (n:=3)) (.cons (nu (.cons (.int _ _) (.cons (.int _ _) (.cons .nilS (.cons (.int _ _) .nil))))) .nil);have Z:=@jw;repeat' (first
     |(apply zcP ?_;clear hK K)|apply Ry.o ?_|apply bl ?_|(apply aT (fun A I=>?_) (fun A I=>?_)<;>try(cases A;done))|(apply az (fun z V=>?_) (fun z V=>?_)<;>try(cases z;done))|apply ak ?_|(apply zcQ fun K hK=>?_)|apply zcR ?_|apply am ?_)
    refine a4 rfl a6 a7 ?_;simp only[cG];refine aZ ?_ (ksm (show(5:Nat)<=60 by omega) cs);rintro v' H3 ⟨rfl,i3⟩;dsimp only[zc5];repeat' (first
     |(apply zcP ?_;clear hK K)|apply Ry.o ?_|apply bl ?_|(apply bq ?_;first|refine Rx.k (kex _) ?_)|(apply aT (fun A I=>?_) (fun A I=>?_)<;>try(cases A;done))|(apply az (fun z V=>?_) (fun z V=>?_)<;>try(cases z;done))|apply ak ?_|(apply zcQ fun K hK=>?_)|apply zcR ?_|apply am ?_)
    all_goals (refine⟨zcT,_,zcU,?_⟩;try simp only[zcS])
  .refine zf (M:=86) (rs:=[.tmp 12]) (hw.call _) hw.ice hw.froz Tryz.func4 rfl rfl jv.2 rfl ?_;dsimp only[jv,zcX,Nat.reduceAdd];have Z:=@pD;have gh1:=@pE;have gh2:=@pF;have gh3:=@pG;have gh4:=@pH;have gh5:=@pI;have gh6:=@pJ;have gh7:=@pK;have gh8:=@pL;have gh9:=@pM;have gh10:=@pN;have gh11:=@jw;repeat' (first
    |(apply zcP ?_;clear hK K)|apply Ry.o ?_|apply bl ?_|(apply bq ?_;first|refine Rx.k (k1 _) ?_|refine Rx.k (zdp _) ?_|refine Rx.k (k3 _) ?_)|(apply aT (fun A I=>?_) (fun A I=>?_)<;>try(cases A;done))|(apply az (fun z V=>?_) (fun z V=>?_)<;>try(cases z;done))|apply ak ?_|(apply zcQ fun K hK=>?_)|apply zcR ?_|apply am ?_)
   refine pP (SlM x k) ⟨aM 8,aM 8,af,af,af,af,af,af,af,af⟩ ?_;intro F U;have hV2:0=W:=by rw[hV];exact(ah (fun h=>c1 h.1)).symm
   clear hV;subst hV2;have m7:=U.g7;have cl:=pQ (v:=v) (g:=0) (w:=w) (y:=y) (k:=k) U.cells;have n1:=U.n1;have Z:=@pO;repeat' (first
    |(apply zcP ?_;clear hK K)|apply Ry.o ?_|apply bl ?_|(apply aT (fun A I=>?_) (fun A I=>?_)<;>try(cases A;done))|(apply az (fun z V=>?_) (fun z V=>?_)<;>try(cases z;done))|apply ak ?_|(apply zcQ fun K hK=>?_)|apply zcR ?_|apply am ?_)
   refine a4 rfl a6 a7 ?_;simp only[cG];refine aZ ?_ (kr (show(8:Nat)<=60 by omega) cl);rintro v' H1 ⟨rfl,C⟩;dsimp only[zc5];have m71:=(C.out 7 pC).trans ((by rw[zcY,ah ac]:(F.alloc (.cells [.int .i64 v,.int .i64 0,.int .i64 w,.int .i64 y] 0 true)).get 7=F.get 7).trans m7);have j1:=C.next
   rw[zc6]at j1;have n1a:F.next+1<=H1.next:=ac
   clear j1;have y7:(7 == H1.next)=false:=zc7 ac;unfold cR zeT;repeat' (first
    |(apply zcP ?_;clear hK K)|apply Ry.o ?_|apply bl ?_|(apply aT (fun A I=>?_) (fun A I=>?_)<;>try(cases A;done))|(apply az (fun z V=>?_) (fun z V=>?_)<;>try(cases z;done))|apply ak ?_|(apply zcQ fun K hK=>?_)|apply zcR ?_|apply am ?_)
   generalize Y:Hp.set (H1.alloc _) _ _=O;have nd:H1.next+1<=O.next:=pz
   have kd:∀r,r<H1.next->O.get r=H1.get r:=fun r hr=>by
    rw[<-Y];simp only[aX,zcY,ah (show ¬r=H1.next by omega)]
   have gd:O.get H1.next=some (.cells [.int .i64 1,.int .i64 0,.lst (List.map (fun n=>[AV.int .i64 n]) []),.int .i64 0] 0 true):=pA
   clear Y;have cu:zdQ (fun q=>q<7) 6 O [.sl 5 0 1 2,.sl 6 0 1 5] (hC x k).cells:=(py (ox _ (fun _ q=>q) U.cells) C).keep (fun _ q=>q) ac fun r _ hr=>kd r hr;refine a4 rfl a6 a7 ?_;simp only[cG];refine aZ ?_ (kv (show(6:Nat)<60 by omega) cu);rintro v' H2 ⟨rfl,i2⟩;rw[J];dsimp only[zc5];have g2:=(i2.out H1.next pB).trans gd;have cs:zdQ (fun _=>True) 5 H2 [.agg [.int .i64 1,.int .i64 0,.lst (List.map (fun n=>[AV.int .i64 n]) []),.int .i64 0],.agg [.int .i64 1,.int .i64 0,.nilS,.int .i64 0]] [cR ⟨1,0,[],0⟩,cR ⟨1,0,[],0⟩]:=.cons (px (o:=⟨1,0,[],0⟩) (n:=3)) (.cons (nu (.cons (.int _ _) (.cons (.int _ _) (.cons .nilS (.cons (.int _ _) .nil))))) .nil);have Z:=@jw;repeat' (first
    |(apply zcP ?_;clear hK K)|apply Ry.o ?_|apply bl ?_|(apply aT (fun A I=>?_) (fun A I=>?_)<;>try(cases A;done))|(apply az (fun z V=>?_) (fun z V=>?_)<;>try(cases z;done))|apply ak ?_|(apply zcQ fun K hK=>?_)|apply zcR ?_|apply am ?_)
   refine a4 rfl a6 a7 ?_;simp only[cG];refine aZ ?_ (ksm (show(5:Nat)<=60 by omega) cs);rintro v' H3 ⟨rfl,i3⟩;dsimp only[zc5];repeat' (first
    |(apply zcP ?_;clear hK K)|apply Ry.o ?_|apply bl ?_|(apply bq ?_;first|refine Rx.k (kex _) ?_)|(apply aT (fun A I=>?_) (fun A I=>?_)<;>try(cases A;done))|(apply az (fun z V=>?_) (fun z V=>?_)<;>try(cases z;done))|apply ak ?_|(apply zcQ fun K hK=>?_)|apply zcR ?_|apply am ?_)
   all_goals (refine⟨zcT,_,zcU,?_⟩;try simp only[zcS])
theorem con(i j n v w:Int)(o:Bool):bh Tryz.prog (fun _=>0) 4 [.int .i64 i,.int .i64 j,.int .i64 n,.int .i64 v,.int .i64 w,.bool o] (.bool true):=by
 obtain⟨Z,Y⟩:=vC (n:=i) (m:=20) ac ac;obtain⟨g,W⟩:=vC (n:=n.tmod 16) (m:=16) ac ac;exact zdZ fit (pls:=pls) (zyu _ Z Y g W _ _ _ _) (.cons (.int _ _) (.cons (.int _ _) (.cons (.int _ _) (.cons (.int _ _) (.cons (.int _ _) (.cons (.bool _) .nil)))))) (.bool _) (law i j n v w o)
theorem zcK(a0:Int)(zd0:Int)(a2:Int)(a3:Int)(zeh:Int)(a5:Bool)(z:(Lit.int .i64 a0).wf=true)(zeU:(Lit.int .i64 zd0).wf=true)(Z:(Lit.int .i64 a2).wf=true)(Y:(Lit.int .i64 a3).wf=true)(M:(Lit.int .i64 zeh).wf=true)(w:World):
 Calls Tryz.prog 4 #[.int .i64 a0,.int .i64 zd0,.int .i64 a2,.int .i64 a3,.int .i64 zeh,.bool a5] w fun e W=>e=.returned (.bool true)/\Below w.heap.size w W:=
 D9 (ρ:=fun _=>0) (F:=fun _ _=>none) (con a0 zd0 a2 a3 zeh a5) (fun _ _ _ h=>iX) (iT (.int .i64 a0) (iT (.int .i64 zd0) (iT (.int .i64 a2) (iT (.int .i64 a3) (iT (.int .i64 zeh) (iT (.bool a5) (lO _)))))))
set_option maxRecDepth 100000 in
theorem zcL(L:Os)(U:L.Started)(H:Type)(enc:TypeId×Value->H):
 ReturnsInHanded {} Tryz.checked L 4 .any (Rows.evalStoreLoadSpec.pre6 enc Tryz.prog Tryz.f4 Rows.evalStoreLoadRow.domain false) (Rows.evalStoreLoadSpec.post enc Tryz.prog Tryz.f4 false true false false):=by
 refine returnsInHanded_of_change (C:=Tryz.checked) own U af Tryz.func4
  (ChangeSpec.witness6 (enc:=enc) (C:=Tryz.checked) false ⟨#[],#[.int .i64 0,.int .i64 0,.int .i64 0,.int .i64 0,.int .i64 0,.bool false],[]⟩ 8 af af af af) ?_
 intro W Z args ds gs O Y K J _;have A:∀(j:Nat) t v,Tryz.f4.params[j]?=some t->args[j]?=some v->Value.okWide Tryz.prog W .any Z t v:=Y;have V:=K;obtain⟨p,q,g,hV,rfl,hfz,hnd⟩:=K;have hA:DataW.TrodAll enc Tryz.prog W 0 (fun _=>true) true Tryz.f4.params.toList args.toList ds p:=g;rw[Tryz.params4]at hA A;obtain⟨F,vs0,d0,ds0,p0,q0,M,rfl,rfl,h0,zdg⟩:=tE hA;obtain⟨I,vs1,d1,ds1,p1,q1,rfl,rfl,rfl,h1,zc0⟩:=tE zdg;obtain⟨z,vs2,d2,ds2,p2,q2,rfl,rfl,rfl,h2,r2⟩:=tE zc0;obtain⟨o,vs3,d3,ds3,p3,q3,rfl,rfl,rfl,h3,r3⟩:=tE r2;obtain⟨m,vs4,d4,ds4,p4,q4,rfl,rfl,rfl,h4,zfN⟩:=tE r3;obtain⟨i,vs5,d5,ds5,p5,q5,rfl,rfl,rfl,h5,r5⟩:=tE zfN;obtain⟨rfl,rfl,rfl⟩:=trodAll_nil r5;obtain rfl:args=#[F,I,z,o,m,i]:=by cases args;simp_all
 obtain⟨rfl,rfl⟩:=trodVars_none hV;obtain⟨a0,rfl,rfl,rfl,w0⟩:=open_int Tryz.underlying3 (A 0 3 F rfl rfl) h0;obtain⟨zd0,rfl,rfl,rfl,zeU⟩:=open_int Tryz.underlying3 (A 1 3 I rfl rfl) h1;obtain⟨a2,rfl,rfl,rfl,w2⟩:=open_int Tryz.underlying2 (A 2 2 z rfl rfl) h2;obtain⟨a3,rfl,rfl,rfl,w3⟩:=open_int Tryz.underlying2 (A 3 2 o rfl rfl) h3;obtain⟨zeh,rfl,rfl,rfl,w4⟩:=open_int Tryz.underlying2 (A 4 2 m rfl rfl) h4;obtain⟨a5,rfl,rfl,rfl⟩:=open_bool Tryz.underlying4 (A 5 4 i rfl rfl) h5;clear g Y;simp only[bB]at V;refine(zcK a0 zd0 a2 a3 zeh a5 w0 zeU w2 w3 w4 W).mono fun e W' ⟨he,hg⟩=>?_;subst he;exact⟨_,rfl,MD (pa:=[]) (pv:=[]) V (fun _ _ _=>(rK (shut_bool Tryz.underlying4 _) trodAll_mk0)) (fun sp _=>(rK (shut_int Tryz.underlying3 w0) (rK (shut_int Tryz.underlying3 zeU) (rK (shut_int Tryz.underlying2 w2) (rK (shut_int Tryz.underlying2 w3) (rK (shut_int Tryz.underlying2 w4) (rK (shut_bool Tryz.underlying4 _) trodAll_mk0))))))) (fun _ _=>rfl) rfl
  hg (ok_one af rfl (okWide_bool_mk Tryz.underlying4 _))⟩
theorem over:Rows.evalStoreLoadRow.holds Tryz.pinned (OpenSpec.ofChange Rows.evalStoreLoadSpec):=
 OpenClaim.holds_of_wide 4 Tryz.f4 rfl rfl rfl rfl rfl rfl rfl ⟨rfl,rfl,rfl,rfl,rfl⟩ rfl rfl rfl rfl rfl af Tryz.func4 af
  (u9 af) (by unfold Func.isWrapper;first|(rw[ay (by decide +kernel)];kernel_rfl)|(rw[ah (by decide +kernel)];exact⟨rfl,rfl⟩))
  (fun O U H enc _=>zcL O U H enc)
theorem proved:Rows.EvalStoreLoadSaid:=
 over
#print axioms proved
end Go.Proofs.YtljebeflbbgibaaGreat.evalStoreLoad
