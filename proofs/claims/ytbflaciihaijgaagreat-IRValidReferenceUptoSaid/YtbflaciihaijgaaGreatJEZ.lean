/-
  The Go function fullinglaw7.IRValidReference returns true whatever its four arguments are, and leaves all memory that was there as it was. Conditions: what it reads is of bulk at most 1048576.
-/
import Derived.JoinedCond
import Derived.OpenShut
import Derived.ProofKit
import Derived.Test.YtbflaciihaijgaaGreatJET
import Derived.WalkKit
set_option linter.all false
set_option maxHeartbeats 32000000
namespace Go.Ab
set_option maxRecDepth 20000
open Go
def CE:=@Go.trodAll_cons_mk
end Go.Ab
namespace Go.Proofs.YtbflaciihaijgaaGreat.irValidReference
set_option maxRecDepth 20000
open Go Go.Ab Proofs.Tryz
def tyIRValidReference.tyF:=ad @cA (ad @tj (ad @dw (ad @gQ (ad @rB (ad @rC (ad @Z7 (ad @fX (ad @tk (ad @jB (ad @te (ad @Yx (ad @underlying4 (ad @KS (@Yw))))))))))))))
open tyIRValidReference Go.ChangeShapes Go.WideShapes Go.ChangeAt Go.RowKit
def own:ownKnob prog.godebug=none:=aB
noncomputable def Wo:{c:SC // aC 54 (f4.body.getD .skip)=c}:=by
 refine⟨?_,?_⟩;rotate_left
 .simp only[f4,bz,aC,bw,bt,bA,bB,Nat.blt,Nat.ble];rfl
noncomputable def Wp:En:=⟨19,false,fun O=>wS knIEx.list 19 O⟩
def zk3(ρ:Nat->Int):co prog ρ Wp:=fun O r hr=>DE (knIEx.ok ρ) _ O r hr
noncomputable def tZ:qB:=[Vk,Wn,UA,V9,Wp]
def zk4(ρ:Nat->Int):eU prog ρ tZ:=⟨zjr ρ,zk2 ρ,ziV ρ,zkJ ρ,zk3 ρ,trivial⟩
theorem Wq(H:Hp):aM prog (ay pls tZ) 19 [] H fun v H'=>v=.bool true/\H'=H:=Jg rfl
def zk5(l:qu)(J:l.length<2^63)(M:gp l)(H:Hp):aM prog (ay pls tZ) 15 [kK l] H fun v H'=>v=.agg (lP l).cells/\H'=H:=
 bZ (x:=l) (enc:=fun l=>[kK l]) (ok:=fun l=>l.length<2^63/\gp l) (out:=fun l=>.agg (lP l).cells) (fun x y h=>GT jf) rfl ⟨J,M⟩
def zk6(x:MuA)(z:x.ok)(H:Hp):aM prog (ay pls tZ) 16 [kK x.l,.int .i64 x.how,.int .i64 x.a6] H fun v H'=>v=.agg (wE x).cells/\H'=H:=
 bZ (x:=x) (enc:=uU) (ok:=MuA.ok) (out:=fun x=>.agg (wE x).cells) zkY rfl z
def Wr(u:Un)(z:zlf u)(H:Hp):aM prog (ay pls tZ) 17 [.agg u.cells] H fun v H'=>v=.bool (iI u)/\H'=H:=
 bZ (enc:=fun u:Un=>[.agg u.cells]) (ok:=zlf) (out:=fun u=>.bool (iI u)) (fun x y h=>Un.inj jf) (x:=u) rfl z
def Ws(u:Un)(z:zd2 u)(H:Hp):aM prog (ay pls tZ) 18 [.agg u.cells] H fun v H'=>v=.bool (iI u)/\H'=H:=
 bZ (enc:=fun u:Un=>[.agg u.cells]) (ok:=zd2) (out:=fun u=>.bool (iI u)) (fun x y h=>Un.inj jf) (x:=u) rfl z
def zk7(H:Hp)(a b c d:List qt):et prog H 40 2 [(0,.agg [.aE a,.aE b]),(1,.agg [.aE c,.aE d])]=some (.sl H.next 0 2 2,H.alloc (.cells [.aE a,.aE b,.aE c,.aE d] 0 true)):=aB
def zle{q i:Nat}(C:i<2):ej prog 40 (.sl q 0 2 2) (.int .i64 (i:Int))=some (.ptr q (i*2)):=by
 rw[pp underlying40 IX C];simp
def zk8{l:qu}(hr:gp l):zd2 (lP l):=by
 obtain⟨f,g,Z,L,m,V,U,J,i,_,_,_,C,_,_⟩:=VL hr;refine⟨C,fun x z n I=>?_⟩;rw[Z]at z;simp only[j5]at z;rcases z with rfl|rfl
 .exact(V n I).aF
 .exact(U n I).aF
set_option maxRecDepth 100000 in
def law(V:Un)(I:zd2 V)(l:qu)(Z jI:Int)(hl:l.length<2^63)(hL:gp l):
 aM prog (ay pls tZ) 4 [.agg V.cells,kK l,.int .i64 Z,.int .i64 jI] bM fun v _=>v=.bool true:=by
 have hw:zd0 (ay pls tZ) 4:=db (fun _=>rfl) rfl;have J:(⟨l,Z,jI⟩:MuA).ok:=⟨hl,hL⟩;have u0:=zk8 hL;have u1:=(Wm J).1;have km:=fun H=>zk6 _ J H;have ku:=fun H=>zk5 l hl hL H;have kr:=fun H=>Wr V I.ok H;have L:=fun H=>Ws V I H;have hfl:=I.ok.f;simp only[]at km;generalize wE ⟨l,Z,jI⟩=U1 at *;generalize lP l=U0 at *;obtain⟨b1,hb1⟩:∃b,iI V=b:=⟨_,rfl⟩;rw[hb1]at kr L;simp only[IQ]at km ku kr L⊢;refine a0 (M:=54) (rs:=[.tmp 8]) (hw.call _) hw.aG hw.az func4 rfl rfl Wo.2 rfl ?_;dsimp only[Wo,aW,Nat.reduceAdd];have gh0:=@zk7;repeat' (first
  |(apply aj ?_;clear hK K)|apply aO ?_|(apply ez ?_;first|refine Rx.k (ku _) ?_|refine Rx.k (km _) ?_)|(apply ak fun K hK=>?_)|fail)
 refine bY [4,18,19] [0,1] 20 2 (fun _ _ _=>True) eE trivial ?_;rintro i E O hi U m z hsI _;(try simp only[bq,aT,aN,aG,aR,Nat.reduceBEq, *]at U);(try simp only[bq,aT,aN,aG,aR,Nat.reduceBEq, *]at m);(try simp only[aZ,bX,bK,Nat.reduceAdd]at z);have hB0:(0 == O.next)=false:=aX ac;have hC0:(O.next == 0)=false:=aX ac;have hB1:(1 == O.next)=false:=aX ac;have hC1:(O.next == 1)=false:=aX ac;have n2:2<=O.next:=z
 by_cases hlt:i<2
 .have hlt':(i:Int)<((2:Nat):Int):=by omega
  have Y:∀(u:Un),zd2 u->∀H,aM prog (ay pls tZ) 17 [.agg [.aE (u.aa.map Ar.cells),.aE (u.funcs.map Gr.cells)]] H (fun v H'=>v=.bool (iI u)/\H'=H)/\aM prog (ay pls tZ) 18 [.agg [.aE (u.aa.map Ar.cells),.aE (u.funcs.map Gr.cells)]] H (fun v H'=>v=.bool (iI u)/\H'=H):=fun u hu H=>⟨Wr u hu.ok H,Ws u hu H⟩;rcases(by omega:i=0\/i=1)with rfl|rfl
  .have hix:∀q,ej prog 40 (.sl q 0 2 2) (.int .i64 ((0:Nat):Int))=some (.ptr q 0):=fun q=>by kernel_rfl
   have h02:(0:Int)<((2:Nat):Int):=aE;have k1:=fun H=>(Y U0 u0 H).1;have k2:=fun H=>(Y U0 u0 H).2;obtain⟨b,C⟩:∃b,iI U0=b:=⟨_,rfl⟩;rw[C]at k1 k2;have ag24:∀a b c d:AV,cI 2 [a,b,c,d]=some (.agg [a,b]):=fun _ _ _ _=>rfl;repeat' (first
    |(apply aj ?_;clear hK K)|apply aQ ?_|(apply ch ?_;first|refine Rx.k (k1 _) ?_|refine Rx.k (k2 _) ?_)|(apply aV ?_ ?_<;>(intro hb hbp;try(cases hb;done)))|(apply ak fun K hK=>?_)|(apply da 4 [(0,1),(2,1),(2,3)] fun K hK=>?_)|(apply ce ?_;try intro _)|(apply di ?_ ?_<;>clear hK K)|fail)
   .exact bN
   .refine⟨ac,aK,aK,bG,J4,?_⟩;trivial
  .have hix:∀q,ej prog 40 (.sl q 0 2 2) (.int .i64 ((1:Nat):Int))=some (.ptr q 2):=fun q=>by kernel_rfl
   have k1:=fun H=>(Y U1 u1 H).1;have k2:=fun H=>(Y U1 u1 H).2;obtain⟨b,C⟩:∃b,iI U1=b:=⟨_,rfl⟩;rw[C]at k1 k2;repeat' (first
    |(apply aj ?_;clear hK K)|apply aQ ?_|(apply ch ?_;first|refine Rx.k (k1 _) ?_|refine Rx.k (k2 _) ?_)|(apply aV ?_ ?_<;>(intro hb hbp;try(cases hb;done)))|(apply ak fun K hK=>?_)|(apply da 4 [(0,1),(2,1),(2,3)] fun K hK=>?_)|(apply ce ?_;try intro _)|(apply di ?_ ?_<;>clear hK K)|fail)
   .exact bN
   .refine⟨ac,aK,aK,bG,J4,?_⟩;trivial
 .have hlt':¬(i:Int)<((2:Nat):Int):=by omega
  refine fy (fun hb hbp=>?_);refine bY [4,32] [0] 33 V.funcs.length (fun _ _ _=>True) eE trivial ?_;rintro j E3 H3 hj U m z hsI _;(try simp only[bq,aT,aN,aG,aR,Nat.reduceBEq, *]at U);(try simp only[bq,aT,aN, *]at m);(try simp only[aZ,br,bX,bK,Nat.reduceAdd]at z);have hB0:(0 == H3.next)=false:=aX ac;have hC0:(H3.next == 0)=false:=aX ac;by_cases hlj:j<V.funcs.length
  .have hlj':(j:Int)<V.funcs.length:=by omega
   have hgx:V.funcs[j]?=some V.funcs[j]:=aL hlj;generalize V.funcs[j]=g at *;by_cases h60:(60:Int)<g.ag.length
   .repeat' (first
     |(apply aj ?_;clear hK K)|apply aQ ?_|(apply ch ?_;first|refine Rx.k (Wq _) ?_)|(apply aV ?_ ?_<;>(intro hb hbp;try(cases hb;done)))|(apply ak fun K hK=>?_)|fail)
    all_goals refine qq ?_
    all_goals trivial
   .repeat' (first
     |(apply aj ?_;clear hK K)|apply aQ ?_|(apply aV ?_ ?_<;>(intro hb hbp;try(cases hb;done)))|(apply ak fun K hK=>?_)|fail)
    refine⟨ac,aK,aK,bG,(by simp only[aG,Nat.reduceBEq, *];exact gX (n:=V.funcs.length) ac ac),?_⟩;trivial
  .have hlj':¬(j:Int)<V.funcs.length:=by omega
   repeat' (first
    |(apply aj ?_;clear hK K)|apply aQ ?_|(apply ch ?_;first|refine Rx.k (kr _) ?_|refine Rx.k (L _) ?_|refine Rx.k (Wq _) ?_)|(apply aV ?_ ?_<;>(intro hb hbp;try(cases hb;done)))|(apply ak fun K hK=>?_)|(apply da 13 [(0,1),(2,1),(2,3)] fun K hK=>?_)|(apply ce ?_;try intro _)|(apply di ?_ ?_<;>clear hK K)|(apply rD ?_ ?_<;>(intro hg hgp;try(cases hg;done)))|fail)
   .exact bN
   .all_goals refine qq ?_
    all_goals trivial
def zk9(V:Un)(I:zd2 V)(l:qu)(i jI:Int)(J:l.length<2^63)(M:gp l):bF prog (fun _=>0) 4 [.agg V.cells,kK l,.int .i64 i,.int .i64 jI] (.bool true):=
 dE fit (pls:=pls) (zk4 _) (.cons (.agg (xu _)) (.cons (GU l) (.cons (.int _ _) (.cons (.int _ _) .nil)))) (.bool _) (law V I l i jI J M)
set_option maxRecDepth 100000 in
def zla{H:Type}{enc:TypeId×Value->H}(W:World)(Z:Value){r:Reach}{C:Nat}(k0:Value.okWide prog W r C 37 Z){d:DataW H}{ps:List MemPlace}{z:Nat->Bool}{L:Bool}(j:DataW.Trod enc prog W 0 z L 37 Z d ps)(s0:Rows.uptoBulk d<=1048576)
 (g:Value) {r':Reach}{Y:Nat} (k1:Value.okWide prog W r' Y 26 g) {m:DataW H}{V:List MemPlace}{U:Nat->Bool}{i:Bool} (h1:DataW.Trod enc prog W 0 U i 26 g m V) (s1:Rows.uptoBulk m<=1048576) (O M:Int) :
 Calls prog 4 #[Z,g,.int .i64 O,.int .i64 M] W fun e w'=>e=.returned (.bool true)/\Below W.heap.size W w':=by
 obtain⟨J,I,hz⟩:=zkU k0 j s0;obtain⟨l,hv,hl,hr⟩:=zjm k1 h1;exact XZ (ρ:=fun _=>0) (F:=sR W) (zk9 J hz l O M hl hr) (zji W) (kq I (kq hv (kq (.int .i64 O) (kq (.int .i64 M) (mQ _)))))
set_option maxRecDepth 100000 in
theorem zlb(os:Os)(J:os.Started)(H:Type)(enc:TypeId×Value->H)(F:Stop.Interp):
 ReturnsInHanded {} checked os 4 .any ((Rows.OpenSpec.upto Rows.iRValidReferenceSpec).pre6 enc prog f4 Rows.iRValidReferenceUptoRow.domain false) (((Rows.OpenSpec.upto Rows.iRValidReferenceSpec).at F).post enc prog f4 false true false false):=by
 refine returnsInHanded_of_cond (C:=checked) (s:=Rows.OpenSpec.upto Rows.iRValidReferenceSpec) (k:=Rows.uptoSmall) rfl own J aB func4
  (OpenSpec.witness (enc:=enc) (C:=checked) (s:=Rows.OpenSpec.upto Rows.iRValidReferenceSpec) (k:=Rows.uptoSmall) rfl false ⟨#[],#[.agg #[.slice none 0 0,.slice none 0 0],.slice none 0 0,.int .i64 0,.int .i64 0],[]⟩ 8 aB aB aB
    (x:=([.agg [.nil,.nil],.nil,.lit (.int .i64 0),.lit (.int .i64 0)],[],[])) aB rfl aB) ?_
 intro W U O ds gs I m hW _ hk _;have Y:∀(j:Nat) t v,f4.params[j]?=some t->O[j]?=some v->Value.okWide prog W .any U t v:=m;have Z:=hW;obtain⟨p,q,z,hV,rfl,hfz,hnd⟩:=hW;have hA:DataW.TrodAll enc prog W 0 (fun _=>true) true f4.params.toList O.toList ds p:=z;rw[params4]at hA Y;obtain⟨L,vs0,d0,ds0,p0,q0,g,rfl,rfl,h0,bV⟩:=trodAll_cons hA;obtain⟨v1,vs1,d1,ds1,p1,q1,rfl,rfl,rfl,h1,r1⟩:=trodAll_cons bV;obtain⟨v2,vs2,d2,ds2,p2,q2,rfl,rfl,rfl,h2,r2⟩:=trodAll_cons r1;obtain⟨v3,vs3,d3,ds3,p3,q3,rfl,rfl,rfl,h3,r3⟩:=trodAll_cons r2;obtain⟨rfl,rfl,rfl⟩:=trodAll_nil r3;obtain rfl:O=#[L,v1,v2,v3]:=by cases O;simp_all
 obtain⟨rfl,rfl⟩:=trodVars_none hV;have i:=sE hk;simp only[bm,Rows.uptoBulkAll]at i;have k0:=Y 0 37 L rfl rfl;have b0:Rows.uptoBulk d0<=1048576:=ac;have k1:=Y 1 26 v1 rfl rfl;have b1:Rows.uptoBulk d1<=1048576:=ac;obtain⟨a2,rfl,rfl,rfl,w2⟩:=open_int underlying3 (Y 2 3 v2 rfl rfl) h2;obtain⟨a3,rfl,rfl,rfl,w3⟩:=open_int underlying3 (Y 3 3 v3 rfl rfl) h3;clear z m i;refine(zla W L k0 h0 b0 v1 k1 h1 b1 a2 a3).mono fun e W' ⟨he,hg⟩=>?_;subst he;exact⟨_,rfl,X3 (pv:=[]) Z (fun _ _ _=>(CE (shut_bool underlying4 _) trodAll_mk0)) (fun sp V=>(CE (Vg aB aB (sE aB) h0 hg (fun p hp=>Z.lt p hp) (fun x M=>by simp[M]) V) (CE (Vg aB aB (sE aB) h1 hg (fun p hp=>Z.lt p hp) (fun x M=>by simp[M]) V) (CE (shut_int underlying3 w2) (CE (shut_int underlying3 w3) trodAll_mk0))))) (fun _ _=>rfl) au hg (ok_one aB rfl (okWide_bool_mk underlying4 _))⟩
def proved:Rows.IRValidReferenceUptoSaid:=
 OpenClaim.holds_of_cond 4 f4 rfl rfl rfl rfl rfl rfl rfl ⟨rfl,rfl,rfl,rfl,rfl⟩ rfl rfl rfl rfl rfl aB func4 aB
  (sE aB) (by unfold Func.isWrapper;first|(rw[ah (by decide +kernel)];kernel_rfl)|(rw[af (by decide +kernel)];exact⟨rfl,rfl⟩))
  (fun z J H enc _ F=>zlb z J H enc F)
#print axioms proved
end Go.Proofs.YtbflaciihaijgaaGreat.irValidReference
