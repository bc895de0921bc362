/-
  The Go function fullinglaw6.InterpReference returns true whatever its nine arguments are, and leaves all memory that was there as it was. Conditions: what it reads is of bulk at most 1048576.
-/
import Derived.JoinedCond
import Derived.OpenShut
import Derived.ProofKit
import Derived.Test.YtbflaciihaijgaaGreatRET
import Derived.WalkKit
set_option linter.all false
set_option maxHeartbeats 32000000
namespace Go.Ab
set_option maxRecDepth 20000
open Go
variable{qb:Prop}
def G5(h:qb:=by show p.sz < 2 ^ 34;omega):=h
def sN:=@Go.ChangeShapes.trodAll_cons
def rH:=@Go.trodAll_cons_mk
end Go.Ab
namespace Go.Proofs.YtbflaciihaijgaaGreat.interpReference
set_option maxRecDepth 20000
open Go Go.Ab Proofs.Tryz
variable{r:Reach}{S:Bool}
def tyInterpReference.tyF:=ac @dF (ac @fg (ac @fh (ac @eL (@jH))))
open tyInterpReference Go.ChangeShapes Go.WideShapes Go.ChangeAt Go.RowKit
def own:ownKnob prog.godebug=none:=aA
noncomputable def PP:{c:SC // aG 74 (f3.body.getD .skip)=c}:=by
 refine⟨?_,?_⟩;rotate_left
 .simp only[f3,bE,aG,bz,bq,bF,bB,Nat.blt,Nat.ble];rfl
noncomputable def PQ:En:=⟨14,false,fun j=>uy knIr.list 14 j⟩
def zcS(ρ:Nat->Int):cS prog ρ PQ:=fun j r hr=>AT (knIr.ok ρ) _ j r hr
noncomputable def levIr:qu:=[PG,PJ,PK,PL,Oi,PQ]
def levIr_ok(ρ:Nat->Int):eU prog ρ levIr:=⟨zcz ρ,zcB ρ,zcF ρ,zcH ρ,zbm ρ,zcS ρ,trivial⟩
theorem zcT(H:Hp):aU prog (aF pls levIr) 14 [] H fun v H'=>v=.bool true/\H'=H:=EU rfl
def zcU(l:qp)(K:l.length<2^63)(H:Hp):aU prog (aF pls levIr) 12 [gG l] H fun v H'=>v=.agg (ei l).cells/\H'=H:=
 cp (x:=l) (enc:=fun l=>[gG l]) (out:=fun l=>.agg (ei l).cells) (fun x y h=>CT fQ) rfl K
def zcV(a b w:Int)(H:Hp):aU prog (aF pls levIr) 9 [.int .i64 a,.int .i64 b,.int .i64 w] H fun v H'=>v=.ai [[.int .i64 (hC a w)],[.int .i64 (hC b w)]]/\H'=H:=
 cp (x:=(⟨a,b,w⟩:zdr)) (enc:=vM) (out:=fun x=>gG (GY x)) zcC rfl trivial
def zcW(n:Int)(H:Hp):aU prog (aF pls levIr) 13 [.int .i64 n] H fun v H'=>v=.int .i64 (aZ n 12)/\H'=H:=
 cp (x:=n) (enc:=fun n:Int=>[.int .i64 n]) (out:=fun n=>.int .i64 (aZ n 12)) (fun x y h=>fQ) rfl trivial
def zcX(x:zdq)(O:x.ok)(H:Hp):aU prog (aF pls levIr) 10 [gG x.l,.int .i64 x.how,.int .i64 x.aL] H fun v H'=>v=.agg (um x).cells/\H'=H:=
 cp (x:=x) (enc:=sJ) (ok:=zdq.ok) (out:=fun x=>.agg (um x).cells) zcx rfl O
def xJ(x:zdh)(O:zdm x)(H:Hp):aU prog (aF pls levIr) 11 [.agg x.p.cells,.ae x.nm,gG x.al,.int .i64 x.aC] H fun v H'=>v=.bool true/\H'=H:=
 cp (x:=x) (enc:=j9) (ok:=zdm) (out:=fun _=>.bool true) Gt rfl O
def zcY:List TypeId:=[9]
def zcZ:GZ prog zcY=true:=aA
def zc0{H:Type}{enc:TypeId×Value->H}{W:World}{C:Value}{A:Nat}(k0:Value.okWide prog W r A 9 C){d:DataW H}{ps:List MemPlace}{Z:Nat->Bool}(I:DataW.Trod enc prog W 0 Z S 9 C d ps):∃s:aS,VR ⟨fun _=>none,oC W,fun _=>0⟩ (.ae s) C:=by
 obtain⟨J,m⟩:=I;obtain⟨V,n,j,Y,U⟩:=Di zcZ (fun _=>0) J _ _ _ gW m;obtain⟨s,rfl,_⟩:=Y.bp underlying9;obtain⟨gM,rfl⟩:=okWide_string underlying9 k0;exact⟨s,j.2 0 _ _ rfl rfl⟩
def zc1(x y:Int):jx prog 27 (.ai [[.int .i64 x],[.int .i64 y]]) none (some (.int .i64 1))=some (.ai [[.int .i64 x]]):=aA
set_option maxRecDepth 100000 in
def law(j:Pr)(I:j.sz<2^34)(l:qp)(V gM:Int)(nm:aS)(a b w fuel:Int)(Z:l.length<2^63)(hL:il l):
 aU prog (aF pls levIr) 3 [.agg j.cells,gG l,.int .i64 V,.int .i64 gM,.ae nm,.int .i64 a,.int .i64 b,.int .i64 w,.int .i64 fuel] bV fun v _=>v=.bool true:=by
 have J:zc7 (aF pls levIr) 3:=dZ (fun _=>rfl) rfl;have hgz:=OB l;have A:(⟨l,V,gM⟩:zdq).ok:=⟨Z,hL⟩;have hmg:=(PF A).1.sz;have F:=fun H=>zcX _ A H;generalize um ⟨l,V,gM⟩=p at *;have k2:∀(x y:Int),([x,y]:qp).length<2^34:=fun _ _=>aI;have k1:∀(x:Int),([x]:qp).length<2^34:=fun _=>aI;have U:=fun H=>xJ ⟨j,nm,[hC a w,hC b w],fuel⟩ ⟨I,k2 _ _⟩ H;have S:=fun H=>xJ ⟨ei l,[102],[hC a w,hC b w],aZ fuel 12⟩ ⟨by show(ei l).sz<2^34;omega,k2 _ _⟩ H;have O:=fun H=>xJ ⟨ei l,[103],[hC a w],aZ fuel 12⟩ ⟨by show(ei l).sz<2^34;omega,k1 _⟩ H;have z:=fun H=>xJ ⟨p,[102],[hC a w,hC b w],aZ fuel 12⟩ ⟨G5,k2 _ _⟩ H;have m:=fun H=>xJ ⟨p,[103],[hC a w,hC b w],aZ fuel 12⟩ ⟨G5,k2 _ _⟩ H;have o:=fun H=>xJ ⟨p,[102],[hC a w,hC b w],fuel⟩ ⟨G5,k2 _ _⟩ H;simp only[gG,m9]at U S O z m o F;have kp:=fun H=>zcU l Z H;refine a5 (M:=74) (rs:=[.tmp 18]) (J.call _) J.ao J.am func3 rfl rfl PP.2 rfl ?_;dsimp only[PP,a3,Nat.reduceAdd];have gh0:=@zc1;repeat' (first
  |(apply ai ?_;clear hK K)|apply Ry.o ?_|apply bP ?_|(apply cU ?_;first|refine aY (zcV _ _ _ _) ?_|refine aY (F _) ?_|refine aY (U _) ?_|refine aY (kp _) ?_|refine aY (zcW _ _) ?_|refine aY (S _) ?_|refine aY (O _) ?_|refine aY (z _) ?_|refine aY (m _) ?_|refine aY (o _) ?_|refine aY (zcT _) ?_)|apply ae ?_|(apply ah fun K hK=>?_)|(apply aq 3 [(0,4),(17,15),(17,19),(17,20),(23,26),(23,27),(30,33),(30,34),(37,40)] fun K hK=>?_)|(apply aM ?_;try intro _)|(apply aR ?_ ?_<;>clear hK K)|apply aL ?_|(apply ER (fun C Y=>?_) (fun C Y=>?_)<;>try(cases C;done))|apply am ?_)
 .exact di
 .all_goals refine qq ?_
  all_goals trivial
def zc2(j:Pr)(I:j.sz<2^34)(l:qp)(V gM:Int)(nm:aS)(a b w fuel:Int)(K:l.length<2^63)(Z:il l):bJ prog (fun _=>0) 3 [.agg j.cells,gG l,.int .i64 V,.int .i64 gM,.ae nm,.int .i64 a,.int .i64 b,.int .i64 w,.int .i64 fuel] (.bool true):=
 eG fit (pls:=pls) (levIr_ok _) (.cons (.agg j.pure) (.cons (zC l) (.cons (.int _ _) (.cons (.int _ _) (.cons (.ae _) (.cons (.int _ _) (.cons (.int _ _) (.cons (.int _ _) (.cons (.int _ _) .nil))))))))) (.bool _) (law j I l V gM nm a b w fuel K Z)
set_option maxRecDepth 100000 in
def zc3{H:Type}{enc:TypeId×Value->H}(W:World)(C:Value){b0:Nat}(k0:Value.okWide prog W r b0 25 C){d:DataW H}{ps:List MemPlace}{sp:Nat->Bool}{Z:Bool}(h0:DataW.Trod enc prog W 0 sp Z 25 C d ps)(s0:Rows.uptoBulk d<=1048576)
 (A:Value) {r':Reach}{Y:Nat} (k1:Value.okWide prog W r' Y 26 A) {o:DataW H}{I:List MemPlace}{J:Nat->Bool}{K:Bool} (h1:DataW.Trod enc prog W 0 J K 26 A o I) (s1:Rows.uptoBulk o<=1048576) (ci bX:Int)
 (V:Value) {pD:Reach}{b4:Nat} (kK:Value.okWide prog W pD b4 9 V) {m:DataW H}{M:List MemPlace}{O:Nat->Bool} (h4:DataW.Trod enc prog W 0 O S 9 V m M) (s4:Rows.uptoBulk m<=1048576) (dt fD hY U:Int) :
 Calls prog 3 #[C,A,.int .i64 ci,.int .i64 bX,V,.int .i64 dt,.int .i64 fD,.int .i64 hY,.int .i64 U] W fun e w'=>e=.returned (.bool true)/\Below W.heap.size W w':=by
 obtain⟨j,z,hz,hg⟩:=zcQ k0 h0;obtain⟨l,hv,hl,hr⟩:=za0 k1 h1;obtain⟨nm,hs⟩:=zc0 kK h4;exact Rd (ρ:=fun _=>0) (F:=oC W) (zc2 j aa l ci bX nm dt fD hY U hl hr) (zaW W) (gO z (gO hv (gO (.int .i64 ci) (gO (.int .i64 bX) (gO hs (gO (.int .i64 dt) (gO (.int .i64 fD) (gO (.int .i64 hY) (gO (.int .i64 U) (kQ _))))))))))
set_option maxRecDepth 100000 in
theorem zc4(A:Os)(J:A.Started)(H:Type)(enc:TypeId×Value->H)(F:Stop.Interp):
 ReturnsInHanded {} checked A 3 .any ((Rows.OpenSpec.upto Rows.interpReferenceSpec).pre6 enc prog f3 Rows.interpReferenceUptoRow.domain false) (((Rows.OpenSpec.upto Rows.interpReferenceSpec).at F).post enc prog f3 false true false false):=by
 refine returnsInHanded_of_cond (C:=checked) (s:=Rows.OpenSpec.upto Rows.interpReferenceSpec) (k:=Rows.uptoSmall) rfl own J aA func3
  (OpenSpec.witness (enc:=enc) (C:=checked) (s:=Rows.OpenSpec.upto Rows.interpReferenceSpec) (k:=Rows.uptoSmall) rfl false ⟨#[],#[.agg #[.slice none 0 0,.slice none 0 0],.slice none 0 0,.int .i64 0,.int .i64 0,.string .empty,.int .i64 0,.int .i64 0,.int .i64 0,.int .i64 0],[]⟩ 8 aA aA aA
    (x:=([.agg [.nil,.nil],.nil,.lit (.int .i64 0),.lit (.int .i64 0),.lit (.string []),.lit (.int .i64 0),.lit (.int .i64 0),.lit (.int .i64 0),.lit (.int .i64 0)],[],[])) aA rfl aA) ?_
 intro W S Z ds gs m V z _ hk _;have I:∀(j:Nat) t v,f3.params[j]?=some t->Z[j]?=some v->Value.okWide prog W .any S t v:=V;have Y:=z;obtain⟨p,q,O,hV,rfl,hfz,hnd⟩:=z;have hA:DataW.TrodAll enc prog W 0 (fun _=>true) true f3.params.toList Z.toList ds p:=O;rw[params3]at hA I;obtain⟨v0,vs0,d0,ds0,p0,q0,o,rfl,rfl,h0,ee⟩:=sN hA;obtain⟨v1,vs1,d1,ds1,p1,q1,rfl,rfl,rfl,h1,aw⟩:=sN ee;obtain⟨v2,vs2,d2,ds2,p2,q2,rfl,rfl,rfl,h2,a1⟩:=sN aw;obtain⟨v3,vs3,d3,ds3,p3,q3,rfl,rfl,rfl,h3,im⟩:=sN a1;obtain⟨v4,vs4,d4,ds4,p4,q4,rfl,rfl,rfl,h4,pD⟩:=sN im;obtain⟨v5,vs5,d5,ds5,p5,q5,rfl,rfl,rfl,h5,r5⟩:=sN pD;obtain⟨v6,vs6,d6,ds6,p6,q6,rfl,rfl,rfl,h6,r6⟩:=sN r5;obtain⟨v7,vs7,d7,ds7,p7,q7,rfl,rfl,rfl,h7,zU⟩:=sN r6;obtain⟨v8,vs8,d8,ds8,p8,q8,rfl,rfl,rfl,h8,r8⟩:=sN zU;obtain⟨rfl,rfl,rfl⟩:=trodAll_nil r8;obtain rfl:Z=#[v0,v1,v2,v3,v4,v5,v6,v7,v8]:=by cases Z;simp_all
 obtain⟨rfl,rfl⟩:=trodVars_none hV;have M:=pZ hk;simp only[iS,Rows.uptoBulkAll]at M;have k0:=I 0 25 v0 rfl rfl;have b0:Rows.uptoBulk d0<=1048576:=aa;have k1:=I 1 26 v1 rfl rfl;have b1:Rows.uptoBulk d1<=1048576:=aa;obtain⟨ci,rfl,rfl,rfl,w2⟩:=open_int underlying3 (I 2 3 v2 rfl rfl) h2;obtain⟨bX,rfl,rfl,rfl,w3⟩:=open_int underlying3 (I 3 3 v3 rfl rfl) h3;have kK:=I 4 9 v4 rfl rfl;have b4:Rows.uptoBulk d4<=1048576:=aa;obtain⟨dt,rfl,rfl,rfl,w5⟩:=open_int underlying3 (I 5 3 v5 rfl rfl) h5;obtain⟨fD,rfl,rfl,rfl,w6⟩:=open_int underlying3 (I 6 3 v6 rfl rfl) h6;obtain⟨hY,rfl,rfl,rfl,w7⟩:=open_int underlying2 (I 7 2 v7 rfl rfl) h7;obtain⟨a8,rfl,rfl,rfl,w8⟩:=open_int underlying3 (I 8 3 v8 rfl rfl) h8;clear O V M;refine(zc3 W v0 k0 h0 b0 v1 k1 h1 b1 ci bX v4 kK h4 b4 dt fD hY a8).mono fun e W' ⟨he,K⟩=>?_;subst he;exact⟨_,rfl,Rg (pv:=[]) Y (fun _ _ _=>(rH (shut_bool underlying4 _) trodAll_mk0)) (fun sp U=>(rH (Gs aA aA (pZ aA) h0 K (fun p hp=>Y.lt p hp) (fun x hx=>by simp[hx]) U) (rH (Gs aA aA (pZ aA) h1 K (fun p hp=>Y.lt p hp) (fun x hx=>by simp[hx]) U) (rH (shut_int underlying3 w2) (rH (shut_int underlying3 w3) (rH (Gs aA aA (pZ aA) h4 K (fun p hp=>Y.lt p hp) (fun x hx=>by simp[hx]) U) (rH (shut_int underlying3 w5) (rH (shut_int underlying3 w6) (rH (shut_int underlying2 w7) (rH (shut_int underlying3 w8) trodAll_mk0)))))))))) (fun _ _=>rfl) aI K (ok_one aA rfl (okWide_bool_mk underlying4 _))⟩
def proved:Rows.InterpReferenceUptoSaid:=
 OpenClaim.holds_of_cond 3 f3 rfl rfl rfl rfl rfl rfl rfl ⟨rfl,rfl,rfl,rfl,rfl⟩ rfl rfl rfl rfl rfl aA func3 aA
  (pZ aA) (by unfold Func.isWrapper;first|(rw[au (by decide +kernel)];kernel_rfl)|(rw[ad (by decide +kernel)];exact⟨rfl,rfl⟩))
  (fun S J H enc _ F=>zc4 S J H enc F)
#print axioms proved
end Go.Proofs.YtbflaciihaijgaaGreat.interpReference
