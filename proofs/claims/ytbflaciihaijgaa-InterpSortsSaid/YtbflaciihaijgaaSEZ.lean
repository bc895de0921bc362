/-
  The Go function fullinglaw6.InterpSorts returns true whatever its three arguments are, and leaves all memory that was there as it was. Conditions: none.
-/
import Derived.OpenShut
import Derived.ProofKit
import Derived.Test.YtbflaciihaijgaaSEL
import Derived.WalkKit
set_option linter.all false
set_option maxHeartbeats 32000000
namespace Go.Ab
set_option maxRecDepth 20000
open Go
def su:=@Go.trodAll_cons_mk
end Go.Ab
namespace Go.Proofs.Ytbflaciihaijgaa.interpSorts
set_option maxRecDepth 20000
open Go Go.Ab Proofs.Try
variable{F:Hp}{v:AV}
def tyInterpSorts.tyF:=ac @fE (ac @dF (ac @my (ac @mz (ac @iS (ac @lq (ac @iT (ac @kf (@xi))))))))
open tyInterpSorts Go.ChangeShapes Go.WideShapes Go.ChangeAt Go.RowKit
def own:ownKnob prog.godebug=none:=az
def Hr(ρ:Nat->Int):bN prog ρ 18 [.agg bw.cells] (.int .i64 0):=ju fit (pls:=pls) (l:=[]) trivial (n:=100000) (m:=100) (k:=100) az az
noncomputable def z0:List (FuncId×qh×AV):=knEx.list++[(10,[.ad sg],.aC [.agg bw.cells,.agg [.int .i64 0,.int .i64 0]]),(18,[.agg bw.cells],.int .i64 0)]
def Hs(ρ:Nat->Int):ei prog ρ z0:=ei.append (knEx.ok ρ) ⟨GF ρ sg GH (n:=500) bO GG,Hr ρ,trivial⟩
noncomputable def cfg:Cfg:=xM [] pls z0
def ax:Std cfg:=GP az
def Ht(H:Hp):aL prog cfg 18 [.agg bw.cells] H fun v H'=>v=.int .i64 0/\FrB 0 H H':=rt az ⟨rfl,FrB.refl _ _⟩
noncomputable def z3:{c:SC // aI 100 (f5.body.getD .skip)=c}:=by
 refine⟨?_,?_⟩;rotate_left
 .simp only[f5,bQ,aI,bL,bB,bV,bW,Nat.blt,Nat.ble];rfl
def u1(q:Nat):cV prog 50 (.sl q 0 3 1) (.int .i64 0)=some (.ptr q 0):=az
def u2(q:Nat):cV prog 50 (.sl q 0 3 1) (.int .i64 1)=some (.ptr q 1):=az
def u3(q:Nat):cV prog 50 (.sl q 0 3 1) (.int .i64 2)=some (.ptr q 2):=az
def Hu(H:Hp)(a b c:Int):eu prog H 50 3 [(0,.int .i64 a),(1,.int .i64 b),(2,.int .i64 c)]=some (.sl H.next 0 3 1,H.alloc (.cells [.int .i64 a,.int .i64 b,.int .i64 c] 0 true)):=az
section
variable {P:Program} {cfg:Cfg} {f:FuncId} {l:List SOp} {E:ae} {H:Hp} {Q:ae -> Hp -> Prop} {d:Nat} {x y z:Operand} {ts:Array TypeId} {k k' a4:IntKind} {a b c:Int}
def Hv(h:ay E x=some (.int k a))(m:ay E y=some (.int k' b))(o:ay E z=some (.int a4 c))(A:am P cfg f l (T.set E d (some (.int k (min (min a b) c)))) H Q):am P cfg f (⟨some d,.call ⟨.builtin .min,#[x,y,z],ts⟩,none⟩::l) E H Q:=
 mo (c:=⟨.builtin .min,#[x,y,z],ts⟩) rfl (vs:=[.int k a,.int k' b,.int a4 c]) (by simp only[cN,h,m,o]) (v:=.int k (min (min a b) c)) (by
  simp only[fQ,gF,mm,bK,cT,dE]
  congr 3;omega) A
def Hw(h:ay E x=some (.int k a))(m:ay E y=some (.int k' b))(o:ay E z=some (.int a4 c))(A:am P cfg f l (T.set E d (some (.int k (max (max a b) c)))) H Q):am P cfg f (⟨some d,.call ⟨.builtin .max,#[x,y,z],ts⟩,none⟩::l) E H Q:=
 mo (c:=⟨.builtin .max,#[x,y,z],ts⟩) rfl (vs:=[.int k a,.int k' b,.int a4 c]) (by simp only[cN,h,m,o]) (v:=.int k (max (max a b) c)) (by
  simp only[fQ,gF,mm,cy,dE]
  congr 3;omega) A
def Hx{bA:Hp}(h:ay E x=some (.int k a))(m:ay E y=some (.int k' b))(o:ay E z=some (.int a4 c))(M:v=.int k (min (min a b) c)):gU P cfg ⟨.call ⟨.builtin .min,#[x,y,z],ts⟩,true,E,bA,v,F⟩ H:=
 ⟨H,by
  simp only[b6,iF,cN,h,m,o,fQ,gF,mm,bK,cT,dE,cO,M]
  congr 2;omega⟩
def Hy{bA:Hp}(h:ay E x=some (.int k a))(m:ay E y=some (.int k' b))(o:ay E z=some (.int a4 c))(M:v=.int k (max (max a b) c)):gU P cfg ⟨.call ⟨.builtin .max,#[x,y,z],ts⟩,true,E,bA,v,F⟩ H:=
 ⟨H,by
  simp only[b6,iF,cN,h,m,o,fQ,gF,mm,cy,dE,cO,M]
  congr 2;omega⟩
end
set_option maxRecDepth 100000 in
theorem law(a b c:Int):aL prog cfg 5 [.int .i64 a,.int .i64 b,.int .i64 c] bA fun v _=>v=.bool true:=by
 obtain⟨bi,ao,aC,hr,Y⟩:=GM a b c;have q1:=(pc hr).1;have q2:=(pc hr).2.1;have ax:=ax;refine bz (M:=100) (rs:=[.tmp 6]) ((ax.plain _ rfl).call _) (ax.plain _ rfl).aB (ax.plain _ rfl).an func5 rfl rfl z3.2 rfl ?_;dsimp only[z3,ba,Nat.reduceAdd];repeat' (first
  |(apply ai ?_;clear hK K)|apply Rx.o ?_|apply aU ?_|apply ag ?_|(apply ah fun K hK=>?_)|(apply ad 6 [(1,8),(3,8),(5,8),(7,8),(10,8),(10,13),(12,8),(12,13)] fun K hK=>?_)|(apply ad 7 [(1,48),(3,48),(5,48),(7,48),(11,48),(13,48),(15,48),(17,48),(22,48),(24,48),(28,48),(33,48),(35,48),(39,48)] fun K hK=>?_)|(apply aG ?_;try intro _)|(apply aH ?_ ?_<;>clear hK K)|apply aF ?_|apply aj ?_|apply aq ?_)
 refine qa ?_;refine rt (r:=.aC [.agg bw.cells,.agg [.int .i64 0,.int .i64 0]]) az ?_;dsimp only[aJ];have hx0:Ab.extract (.aC [.agg bw.cells,.agg [.int .i64 0,.int .i64 0]]) 0=some (.agg bw.cells):=rfl;have hx1:Ab.extract (.aC [.agg bw.cells,.agg [.int .i64 0,.int .i64 0]]) 1=some (.agg [.int .i64 0,.int .i64 0]):=rfl;have J:=@Hu;repeat' (first
  |(apply ai ?_;clear hK K)|apply Rx.o ?_|apply aU ?_|apply ag ?_|(apply ah fun K hK=>?_)|(apply ad 6 [(1,8),(3,8),(5,8),(7,8),(10,8),(10,13),(12,8),(12,13)] fun K hK=>?_)|(apply ad 7 [(1,48),(3,48),(5,48),(7,48),(11,48),(13,48),(15,48),(17,48),(22,48),(24,48),(28,48),(33,48),(35,48),(39,48)] fun K hK=>?_)|(apply aG ?_;try intro _)|(apply aH ?_ ?_<;>clear hK K)|apply aF ?_|apply aj ?_|apply aq ?_)
 refine qa ?_;refine aR ?_ (Ho ax bw (se az) (by simp[bw]) (by simp[bw]) Ht [102] [a,b,c] 20 bO bO az (f:=zw) (se az) az rfl (n:=50) (r:=(0,aO 11 [bi,ao,aC] [bi,ao,aC]))
  (by rw[show bJ (eJ bw.funcs 0 []) [102]=0 from by kernel_rfl];exact Y) (by show 3<2^40;decide) aK _ _ (kw.cW (.inr ⟨2,rfl,?_⟩)) ?_)
 .rintro v V ⟨I,O⟩;have he:kx (0,aO 11 [bi,ao,aC] [bi,ao,aC])=⟨1,0,[bi,ao,aC],0⟩:=rfl;rw[he]at I;obtain⟨ov,rfl,F,W⟩:=I;rcases F with⟨_,h⟩|⟨q,rfl,o⟩
  .cases h
  have hql:q<V.next:=W q ⟨_,_,_,rfl⟩
  have hq':V.get q=some (.cells [.int .i64 bi,.int .i64 ao,.int .i64 aC] 0 true):=o;have n1:(q == V.next)=false:=bH aa;have n2:(V.next == q)=false:=bH aa;clear o W Y O he;dsimp only[aJ];have J:=@u1;have S:=@u2;have m:=@u3;repeat' (first
   |(apply ai ?_;clear hK K)|apply Ry.o ?_|apply aY ?_|(apply bu ?_;first|refine Rx.k (zM ax _ _ _ _) ?_)|(apply a6 (fun L U=>?_) (fun L U=>?_)<;>try(cases L;done))|(apply aE (fun C Z=>?_) (fun C Z=>?_)<;>try(cases C;done))|apply ag ?_|(apply ah fun K hK=>?_)|(apply ad 6 [(1,8),(3,8),(5,8),(7,8),(10,8),(10,13),(12,8),(12,13)] fun K hK=>?_)|(apply ad 7 [(1,48),(3,48),(5,48),(7,48),(11,48),(13,48),(15,48),(17,48),(22,48),(24,48),(28,48),(33,48),(35,48),(39,48)] fun K hK=>?_)|(apply aG ?_;try intro _)|(apply aH ?_ ?_<;>clear hK K)|apply aF ?_|(apply cW (fun L U=>?_) (fun L U=>?_)<;>try(cases L;done))|apply aj ?_|apply aq ?_)
  .exact cC
  .have q3:=(pc hr).2.2.1.symm;have q4:=(pc hr).2.2.2.1.symm;have q5:=(pc hr).2.2.2.2;clear hr;refine Hv dx dx dx ?_;have J:=@u1;have S:=@u2;have m:=@u3;repeat' (first
    |(apply ai ?_;clear hK K)|apply Ry.o ?_|apply aY ?_|(apply a6 (fun L U=>?_) (fun L U=>?_)<;>try(cases L;done))|(apply aE (fun C Z=>?_) (fun C Z=>?_)<;>try(cases C;done))|apply ag ?_|(apply ah fun K hK=>?_)|(apply ad 6 [(1,8),(3,8),(5,8),(7,8),(10,8),(10,13),(12,8),(12,13)] fun K hK=>?_)|(apply ad 7 [(1,48),(3,48),(5,48),(7,48),(11,48),(13,48),(15,48),(17,48),(22,48),(24,48),(28,48),(33,48),(35,48),(39,48)] fun K hK=>?_)|(apply aG ?_;try intro _)|(apply aH ?_ ?_<;>clear hK K)|apply aF ?_|(apply cW (fun L U=>?_) (fun L U=>?_)<;>try(cases L;done))|apply aj ?_|apply aq ?_)
   refine Hw dx dx dx ?_;have J:=@u1;have S:=@u2;have m:=@u3;repeat' (first
    |(apply ai ?_;clear hK K)|apply Ry.o ?_|apply aY ?_|(apply a6 (fun L U=>?_) (fun L U=>?_)<;>try(cases L;done))|(apply aE (fun C Z=>?_) (fun C Z=>?_)<;>try(cases C;done))|apply ag ?_|(apply ah fun K hK=>?_)|(apply ad 6 [(1,8),(3,8),(5,8),(7,8),(10,8),(10,13),(12,8),(12,13)] fun K hK=>?_)|(apply ad 7 [(1,48),(3,48),(5,48),(7,48),(11,48),(13,48),(15,48),(17,48),(22,48),(24,48),(28,48),(33,48),(35,48),(39,48)] fun K hK=>?_)|(apply aG ?_;try intro _)|(apply aH ?_ ?_<;>clear hK K)|apply aF ?_|(apply cW (fun L U=>?_) (fun L U=>?_)<;>try(cases L;done))|apply aj ?_|apply aq ?_)
   refine qa ?_;refine rt (r:=.bool true) az ?_;dsimp only[aJ];repeat' (first
    |(apply ai ?_;clear hK K)|apply Rx.o ?_|apply aU ?_|apply ag ?_|(apply ah fun K hK=>?_)|(apply ad 6 [(1,8),(3,8),(5,8),(7,8),(10,8),(10,13),(12,8),(12,13)] fun K hK=>?_)|(apply ad 7 [(1,48),(3,48),(5,48),(7,48),(11,48),(13,48),(15,48),(17,48),(22,48),(24,48),(28,48),(33,48),(35,48),(39,48)] fun K hK=>?_)|(apply aG ?_;try intro _)|(apply aH ?_ ?_<;>clear hK K)|apply aF ?_|apply aj ?_|apply aq ?_)
   .clear q1 q2 q3 q4 q5 n1 n2;have n1:(q == V.next)=false:=bH aa;refine⟨?_,?_⟩<;>simp only[j0,lD,jm,rS,mD,rT,tI,cb,cH,aA,k5,df]<;>(repeat' apply ac)<;>first
     |(intro r hr;cases hr;done)
     |(refine xb xH (fun hd=>?_)
       simp only[mw,j0,lD,jm,rS,mD,rT]at hd⊢;first
       |(cases hd;done)
       |exact w9 dx jE
       |exact xa dx jE
       |exact Hx dx dx dx eE
       |exact Hy dx dx dx eE)
     |exact aA _
     |omega
   .all_goals refine qq ?_
    all_goals trivial
 .rfl
 .intro k A;obtain⟨_,_,_,A⟩:=A;have:k=2:=by simp only[AV.sl.injEq]at A;omega
  show k<3;omega
theorem Hz(l:qm):iH 1 (l.map fun n=>.int .i64 n)=true:=by
 have h:∀l:qm,iceL (iceV bA 1) (l.map fun n=>.int .i64 n)=some (l.map fun n=>.int .i64 n):=fun l=>by
  induction l with
  |nil=>rfl
  |cons a l ih=>simp only[mb,iceL,ih];rfl
 unfold iH;rw[h];exact iR _
def HA(a b c:Int):bN prog (fun _=>0) 5 [.int .i64 a,.int .i64 b,.int .i64 c] (.bool true):=
 tJ (cfg:=cfg) (k:=1) (m:=1) fit (xL (EX _)) (p8 (Hs _)) (Hz [a,b,c]) (aR (fun v H' h=>by rw[h];rfl) (law a b c))
def HC(fx:Int)(cE:Int)(cK:Int)(Z:(Lit.int .i64 fx).wf=true)(L:(Lit.int .i64 cE).wf=true)(U:(Lit.int .i64 cK).wf=true)(w:World):
 Calls prog 5 #[.int .i64 fx,.int .i64 cE,.int .i64 cK] w fun e I=>e=.returned (.bool true)/\Below w.heap.size w I:=
 Bv (ρ:=fun _=>0) (F:=fun _ _=>none) (HA fx cE cK) (fun _ _ _ h=>k2) (gq (.int .i64 fx) (gq (.int .i64 cE) (gq (.int .i64 cK) (iK _))))
set_option maxRecDepth 100000 in
theorem HD(O:Os)(J:O.Started)(H:Type)(enc:TypeId×Value->H):
 ReturnsInHanded {} checked O 5 .any (Rows.interpSortsSpec.pre6 enc prog f5 Rows.interpSortsRow.domain false) (Rows.interpSortsSpec.post enc prog f5 false true false false):=by
 refine returnsInHanded_of_change (C:=checked) own J az func5
  (ChangeSpec.witness6 (enc:=enc) (C:=checked) false ⟨#[],#[.int .i64 0,.int .i64 0,.int .i64 0],[]⟩ 8 az az az az) ?_
 intro W m o ds gs S Y L A _;have Z:∀(j:Nat) t v,f5.params[j]?=some t->o[j]?=some v->Value.okWide prog W .any m t v:=Y;have U:=L;obtain⟨p,q,V,hV,rfl,hfz,hnd⟩:=L;have hA:DataW.TrodAll enc prog W 0 (fun _=>true) true f5.params.toList o.toList ds p:=V;rw[params5]at hA Z;obtain⟨M,vs0,d0,ds0,p0,q0,I,rfl,rfl,h0,bi⟩:=trodAll_cons hA;obtain⟨F,vs1,d1,ds1,p1,q1,rfl,rfl,rfl,h1,ao⟩:=trodAll_cons bi;obtain⟨v2,vs2,d2,ds2,p2,q2,rfl,rfl,rfl,h2,aC⟩:=trodAll_cons ao;obtain⟨rfl,rfl,rfl⟩:=trodAll_nil aC;obtain rfl:o=#[M,F,v2]:=by cases o;simp_all
 obtain⟨rfl,rfl⟩:=trodVars_none hV;obtain⟨fx,rfl,rfl,rfl,w0⟩:=open_int underlying2 (Z 0 2 M rfl rfl) h0;obtain⟨cE,rfl,rfl,rfl,w1⟩:=open_int underlying2 (Z 1 2 F rfl rfl) h1;obtain⟨cK,rfl,rfl,rfl,w2⟩:=open_int underlying2 (Z 2 2 v2 rfl rfl) h2;clear V Y;simp only[jo]at U;refine(HC fx cE cK w0 w1 w2 W).mono fun e W' ⟨he,hg⟩=>?_;subst he;exact⟨_,rfl,By (pa:=[]) (pv:=[]) U (fun _ _ _=>(su (shut_bool underlying4 _) trodAll_mk0)) (fun sp _=>(su (shut_int underlying2 w0) (su (shut_int underlying2 w1) (su (shut_int underlying2 w2) trodAll_mk0)))) (fun _ _=>rfl) rfl
  hg (ok_one az rfl (okWide_bool_mk underlying4 _))⟩
def over:Rows.interpSortsRow.holds Try.pinned (OpenSpec.ofChange Rows.interpSortsSpec):=
 OpenClaim.holds_of_wide 5 f5 rfl rfl rfl rfl rfl rfl rfl ⟨rfl,rfl,rfl,rfl,rfl⟩ rfl rfl rfl rfl rfl az func5 az
  (se az) (by unfold Func.isWrapper;first|(rw[aD (by decide +kernel)];kernel_rfl)|(rw[aw (by decide +kernel)];exact⟨rfl,rfl⟩))
  (fun I J H enc _=>HD I J H enc)
def proved:Rows.InterpSortsSaid:=
 over
#print axioms proved
end Go.Proofs.Ytbflaciihaijgaa.interpSorts
