/-
  The Go function fullinglaw8.LowerReference returns true whatever its four arguments are, and leaves all memory that was there as it was. Conditions: what it reads is of bulk at most 1048576.
-/
import Derived.JoinedCond
import Derived.OpenShut
import Derived.ProofKit
import Derived.Test.YtpbcimfiofmoeaaGreatWEY
import Derived.WalkKit
set_option linter.all false
set_option maxHeartbeats 32000000
namespace Go.Ab
set_option maxRecDepth 20000
open Go
def Cb:=@Go.trodAll_cons_mk
end Go.Ab
namespace Go.Proofs.YtpbcimfiofmoeaaGreat.lowerReference
set_option maxRecDepth 20000
open Go Go.Ab Proofs.Tryz
variable{p:Pr}
def tyLowerReference.tyF:=ad @cr (ad @fW (ad @DB (ad @DC (ad @gh (ad @eL (ad @Y0 (ad @vd (ad @Kn (ad @Ob (@Oc))))))))))
open tyLowerReference Go.ChangeShapes Go.WideShapes Go.ChangeAt Go.RowKit
def own:ownKnob prog.godebug=none:=ax
noncomputable def Vg:{c:SC // aE 49 (f5.body.getD .skip)=c}:=by
 refine⟨?_,?_⟩;rotate_left
 .simp only[f5,bN,aE,bH,bw,bM,bJ,Nat.blt,Nat.ble];rfl
noncomputable def Vh:En:=⟨30,false,fun V=>wu knLEx.list 30 V⟩
def zh2(ρ:Nat->Int):dI prog ρ Vh:=fun V r hr=>De (knLEx.ok ρ) _ V r hr
noncomputable def Vi:En:=⟨28,true,co zf8 eV fun p=>.a6 [.agg (iN p).1.cells,.int .i64 (iN p).2]⟩
def zh3(ρ:Nat->Int):dI prog ρ Vi:=dT fun p hp=>zhF ρ p (n:=2*p.sz+1) (by have:=hp.sz;omega) (fun hc=>SZ ⟨hc,hp.rg hc⟩ hp.sz (bT _)) hp.cL
noncomputable def levF:qC:=[vH,EQ,ER,oZ BV,oZ Gl,oZ Kl,oZ Vi,Va,Vh]
def levF_ok(ρ:Nat->Int):gT prog ρ levF:=⟨EP ρ,zcT ρ,zcX ρ,AQ (T3 ρ),AQ (zgz ρ),AQ (zfB ρ),AQ (zh3 ρ),zhM ρ,zh2 ρ,trivial⟩
theorem Gz:zf2 levF where
 pick:=fun _=>rfl
 f4:=fun _=>rfl
 nms:=fun _=>rfl
 pl:=fun f j=>by rcases zez j with rfl|rfl|rfl|rfl|rfl<;>exact⟨fun _=>rfl,rfl⟩
 me:=fun _=>rfl
 mei:=rfl
 ms:=fun _=>rfl
 msi:=rfl
 plm:=⟨fun _=>rfl,rfl⟩
theorem zh4(H:Hp):aR prog (au pls levF) 30 [] H fun v H'=>v=.bool true/\H'=H:=Ix rfl
def zh5(u:Un)(U:zip u)(H:Hp):aR prog (au pls levF) 29 [.agg u.cells,.agg u.cells] H fun v H'=>v=.bool true/\H'=H:=cV (enc:=xG) (ok:=zip) (out:=fun _=>.bool true) zhK (x:=u) rfl U
theorem zh6{S:Nat->Prop}{n:Nat}{H:Hp}{cs:qu}(J:n<59)(M:b9 S n H cs p.cells)(C:zf8 p):
 aR prog (au pls levF) 28 [.agg cs] H fun v H'=>v=.a6 [.agg (iN p).1.cells,.int .i64 (iN p).2]/\Icy S H H':=by
 obtain⟨us,m,j⟩:=M;refine AT (x:=p) (enc:=eV) (ok:=zf8) (out:=fun p=>.a6 [.agg (iN p).1.cells,.int .i64 (iN p).2]) (us:=[.agg us]) (n:=n+1) pd (fun Z=>rfl) rfl Tl C ac ⟨⟨us,m,rfl⟩,trivial⟩ ?_;show [AV.agg (us.map (bY 59))]=_;rw[j 59 ac];rfl
def zh7(h:zf8 p):zip (iN p).1:=by
 have z:zip ⟨[],[]⟩:=⟨by show 0<2^30;omega,by show 0<2^30;omega,fun g hg=>by cases hg⟩;by_cases hc:eN p=0
 .rcases h.fH hc with⟨_,b⟩|⟨_,_,_,_,u⟩
  .rw[b];exact z
  .exact⟨u.a,u.f,u.g⟩
 .rw[zfA hc];exact z
def zh8(H:Hp)(a b c d e f:AV):de prog H 52 3 [(0,.agg [a,b]),(1,.agg [c,d]),(2,.agg [e,f])]=some (.sl H.next 0 3 2,H.alloc (.cells [a,b,c,d,e,f] 0 true)):=ax
def zh9(r:Nat){i:Nat}(h:i<3):el prog 52 (.sl r 0 3 2) (.int .i64 (i:Int))=some (.ptr r (i*2)):=by
 rw[MP _ _ _ _ ac,kS ac];simp
set_option maxRecDepth 100000 in
theorem law(U:Pr)(hraw:zf8 U)(l:qy)(how a:Int)(hl:l.length<2^63)(hL:js l):aR prog (au pls levF) 5 [.agg U.cells,.az (l.map fun n=>[AV.int .i64 n]),.int .i64 how,.int .i64 a] bt fun v _=>v=.bool true:=by
 have hw:zd0 (au pls levF) 5:=ei (fun _=>rfl) rfl;have hkeep:(au pls levF).keep 5=false:=rfl;obtain⟨br,m,J⟩:∃br m,U.cells=[br,m]:=⟨_,_,rfl⟩;have hone:AV.one br=true/\AV.one m=true:=by
  rw[Dz]at J;simp only[eJ,aW]at J;obtain⟨rfl,rfl⟩:=J;exact⟨rfl,rfl⟩
 obtain⟨q0,q1⟩:=hone;rw[J];refine bp (M:=49) (rs:=[.tmp 8]) (hw.call _) hw.aG hw.aB func5 rfl rfl Vg.2 rfl ?_;dsimp only[Vg,bm,Nat.reduceAdd];repeat' (first
  |(apply aj ?_;clear hK K)|apply Rx.o ?_|apply jc ?_|apply cW ?_|(apply am fun K hK=>?_)|(apply ci 1 [(0,2),(0,6),(0,10),(7,10),(8,10)] fun K hK=>?_)|(apply bD ?_;try intro _)|(apply ch ?_ ?_<;>clear hK K)|apply eP ?_|apply dX ?_|apply fA ?_|apply gJ ?_|apply iT ?_)
 refine qd ?_;generalize hHa:Hp.alloc bt _=Ha;have na:Ha.next=1:=by rw[<-hHa];rfl
 have ga:=show Ha.get 0=some _ by rw[<-hHa,aD,ai (show 0=bt.next from rfl)]
 clear hHa;refine aF ?_ (TA Gz.tozf6 (Ty Gz.tozf6) l hl _);rintro _ H1 ⟨ra,rf,x,y,cf,cg,rfl,hP1,cS,o1,_⟩;dsimp only[aC];repeat' (first
  |(apply aj ?_;clear hK K)|apply Rx.o ?_|apply jc ?_|apply cW ?_|(apply am fun K hK=>?_)|(apply ci 1 [(0,2),(0,6),(0,10),(7,10),(8,10)] fun K hK=>?_)|(apply bD ?_;try intro _)|(apply ch ?_ ?_<;>clear hK K)|apply eP ?_|apply dX ?_|apply fA ?_|apply gJ ?_|apply iT ?_)
 refine qd ?_;refine aF ?_ (zhc Gz (Ty Gz.tozf6) l hl hL how a _);rintro _ z ⟨va,vb,p2,R,P,rfl,hM,n2,o2⟩;have g01:=(o1 0 ac).trans ga;have g0:=(o2 0 ac).trans g01;obtain⟨q2,q3⟩:=hM.one;have c0:b9 (fun q=>q<z.next) 51 z [br,m] U.cells:=by rw[J.symm];exact zc0 (n:=50) U
 have c1:b9 (fun q=>q<z.next) 51 z [.sl ra 0 2 2,.sl rf 0 2 9] (eT l).cells:=(hP1.cells.aO (S':=fun q=>q<z.next) (fun q h _=>ac) ac fun q _ h=>o2 q h).up ac;have c2:b9 (fun q=>q<z.next) 51 z [va,vb] p2.cells:=hM.rd.aO (fun q h _=>h) (ay _) fun _ _ _=>rfl;have f0:(0 == z.next)=false:=ak ac;dsimp only[aC];have gh0:=@zh8;repeat' (first
  |(apply aj ?_;clear hK K)|apply Rx.o ?_|apply jc ?_|apply cW ?_|(apply am fun K hK=>?_)|(apply ci 1 [(0,2),(0,6),(0,10),(7,10),(8,10)] fun K hK=>?_)|(apply bD ?_;try intro _)|(apply ch ?_ ?_<;>clear hK K)|apply eP ?_|apply dX ?_|apply fA ?_|apply gJ ?_|apply iT ?_)
 .exact cn
 have sz1:=zgb l;have MK:=hM.fw.sz;have C:di (fun q=>q<z.next) 51 z 2 [[br,m],[.sl ra 0 2 2,.sl rf 0 2 9],[va,vb]] ([U,eT l,p2].map Pr.cells):=⟨⟨rfl,c0⟩,⟨rfl,c1⟩,⟨rfl,c2⟩,trivial⟩;have hone3:∀r∈[[br,m],[.sl ra 0 2 2,.sl rf 0 2 9],[va,vb]],r.all AV.one=true:=by
  intro r hr;simp only[jh]at hr;rcases hr with rfl|rfl|rfl<;>simp[q0,q1,q2,q3,MA]
 have hszs:∀p∈[U,eT l,p2],zf8 p:=by
  intro p hp;simp only[jh]at hp;rcases hp with rfl|rfl|rfl
  .exact hraw
  .exact⟨by have:=Kq l;omega,fun _=>Ug hL⟩
  .exact⟨hM.fw.sz,fun _=>hM.fw.rg⟩
 have hB:(z.alloc (.cells [br,m,.sl ra 0 2 2,.sl rf 0 2 9,va,vb] 0 true)).get z.next=some (.cells ([[br,m],[.sl ra 0 2 2,.sl rf 0 2 9],[va,vb]]:List qu).flatten 0 true):=dZ
 have hr3:([[br,m],[.sl ra 0 2 2,.sl rf 0 2 9],[va,vb]]:List qu).length=3:=rfl;have hp3:([U,eT l,p2]:List Pr).length=3:=rfl;generalize ([[br,m],[.sl ra 0 2 2,.sl rf 0 2 9],[va,vb]]:List qu)=rows at *;generalize ([U,eT l,p2]:List Pr)=ps at *;refine cl [22,23] [] 24 3 (fun i E H=>H.get z.next=some (.cells rows.flatten 0 true)/\di (fun q=>q<z.next) 51 H 2 rows (ps.map Pr.cells)) eE ⟨hB,C.aO (fun _ _ h=>h) (cG _) fun q h _=>ed h⟩ ?_;clear hB C c0 c1 c2 g0 ga;rintro i E V hi hcE hrH hnH hsI ⟨gB,hJ⟩;(try simp only[bC,aZ,aW,aG,aY,Nat.reduceBEq,Nat.reduceAdd,Nat.reduceLeDiff,tyF, *]at hcE);(try simp only[bC,aZ,aW,aG,aY,Nat.reduceBEq,Nat.reduceAdd,Nat.reduceLeDiff,tyF, *]at hrH);(try simp only[aU,bq,ce,bR,Nat.reduceAdd]at hnH);have hnx:z.next+1<=V.next:=BX
 repeat' (first
  |(apply aj ?_;clear hK K)|apply Ry.o ?_|apply iS ?_|(apply jy (fun hg hgp=>?_) (fun hg hgp=>?_)<;>try(cases hg;done))|(apply bu (fun hb hbp=>?_) (fun hb hbp=>?_)<;>try(cases hb;done))|apply cW ?_|(apply am fun K hK=>?_)|(apply ci 1 [(0,2),(0,6),(0,10),(7,10),(8,10)] fun K hK=>?_)|(apply bD ?_;try intro _)|(apply ch ?_ ?_<;>clear hK K)|apply eP ?_|apply dX ?_|apply fA ?_|apply gJ ?_|apply iT ?_)
 .have hlt:i<3:=by omega
  have hri:rows[i]?=some rows[i]:=bj ac;have hpi:(ps.map Pr.cells)[i]?=some (ps[i]' ac).cells:=by rw[eI,bj ac];rfl
  have hz:=hszs _ (dm (by omega:i<ps.length));have hag:=FY (di.len hJ) hri;obtain⟨hl2,hc⟩:=cp.get hJ hri hpi;have ho:=hone3 _ (dm (by omega:i<rows.length));generalize ps[i]' ac=p at *;generalize rows[i]' ac=row at *
  match row,hl2 with
  |[u,v],_=>
  simp only[rS,oY,hT,da]at ho;obtain⟨u1,v1⟩:=ho;have hix:=zh9 z.next hlt
  have e1:(z.next == V.next)=false:=ak ac;repeat' (first
   |(apply aj ?_;clear hK K)|apply Rx.o ?_|apply jc ?_|apply cW ?_|(apply am fun K hK=>?_)|(apply ci 1 [(0,2),(0,6),(0,10),(7,10),(8,10)] fun K hK=>?_)|(apply bD ?_;try intro _)|(apply ch ?_ ?_<;>clear hK K)|apply eP ?_|apply dX ?_|apply fA ?_|apply gJ ?_|apply iT ?_)
  refine qd ?_;generalize j:Hp.set (Hp.alloc V _) V.next _=H4
  have n4:H4.next=V.next+1:=by rw[<-j];rfl
  have g4:H4.get V.next=some (.cells [u,v] 0 true):=by rw[<-j,aM,ai rfl]
  have k4:∀q,q<V.next->H4.get q=V.get q:=fun q h=>by rw[<-j,aM,af ac,ed h]
  clear j;have hc4:=hc.keep (S':=fun q=>q<z.next) (fun _ h=>h) (by omega:V.next<=H4.next) fun q h1 h2=>k4 q h2;refine aF ?_ (zfC (fun _=>rfl) rfl (n:=51) ac hc4 hz);rintro _ O ⟨rfl,Z⟩;have n5:=Z.next
  have g5:=(Z.out V.next ac).trans g4;have hc5:=hc4.frame (S':=fun q=>q<z.next) (fun _ h=>h) (by omega:H4.next<=O.next) fun q _ _=>Z.same q;have n4':V.next+1<=H4.next/\H4.next<=V.next+1:=ac
  have n5':V.next+1<=O.next/\O.next<=V.next+1:=ac
  clear n4 n5;have e5:(V.next == O.next)=false:=ak ac;have hsu:=zh7 hz;have hrlw:=fun{S:Nat->Prop}{n:Nat}{H:Hp}{cs:qu} (hn:n<59) (hc:b9 S n H cs p.cells)=>zh6 hn hc hz;generalize iN p=w at *;obtain⟨w,e⟩:=w;have huc:w.cells=[.az (w.aa.map Ar.cells),.az (w.funcs.map Gr.cells)]:=rfl;dsimp only[aC];simp only[huc]at *;repeat' (first
   |(apply aj ?_;clear hK K)|apply Rx.o ?_|apply jc ?_|apply cW ?_|(apply am fun K hK=>?_)|(apply ci 1 [(0,2),(0,6),(0,10),(7,10),(8,10)] fun K hK=>?_)|(apply bD ?_;try intro _)|(apply ch ?_ ?_<;>clear hK K)|apply eP ?_|apply dX ?_|apply fA ?_|apply gJ ?_|apply iT ?_)
  refine qd ?_;generalize hH6:Hp.set (Hp.alloc O _) O.next _=H6
  have n6:H6.next=O.next+1:=by rw[<-hH6];rfl
  have k6:∀q,q<O.next->H6.get q=O.get q:=fun q h=>by rw[<-hH6,aM,af ac,ed h]
  have g6u:H6.get O.next=some (.cells [.az (w.aa.map Ar.cells),.az (w.funcs.map Gr.cells)] 0 true):=by rw[<-hH6,aM,ai rfl]
  clear hH6;have g6:=(k6 V.next ac).trans g5;have hc6:=hc5.keep (S':=fun q=>q<z.next) (fun _ h=>h) (by omega:O.next<=H6.next) fun q h1 h2=>k6 q h2;refine aF ?_ (hrlw (n:=51) ac hc6);rintro _ Y ⟨rfl,I⟩;have n7':O.next+1<=Y.next/\Y.next<=O.next+1:=by have:=I.next;omega
  have n6':O.next<=H6.next/\H6.next<=Y.next:=by have:=I.next;omega
  clear n6;have e7:(V.next == Y.next)=false:=ak ac;have e8:(O.next == Y.next)=false:=ak ac;have g7:=(I.out V.next ac).trans g6;have g7u:=(I.out O.next ac).trans g6u;dsimp only[aC];repeat' (first
   |(apply aj ?_;clear hK K)|apply Ry.o ?_|apply iS ?_|(apply jy (fun hg hgp=>?_) (fun hg hgp=>?_)<;>try(cases hg;done))|(apply bu (fun hb hbp=>?_) (fun hb hbp=>?_)<;>try(cases hb;done))|apply cW ?_|(apply am fun K hK=>?_)|(apply ci 1 [(0,2),(0,6),(0,10),(7,10),(8,10)] fun K hK=>?_)|(apply bD ?_;try intro _)|(apply ch ?_ ?_<;>clear hK K)|apply eP ?_|apply dX ?_|apply fA ?_|apply gJ ?_|apply iT ?_)
  refine qd ?_;generalize hH8:Hp.set (Hp.alloc Y _) Y.next _=H8
  have n8:Y.next<=H8.next:=by rw[<-hH8];exact cG _
  have k8:∀q,q<Y.next->H8.get q=Y.get q:=fun q h=>by rw[<-hH8,aM,af ac,ed h]
  clear hH8;have gB8:=(k8 z.next ac).trans ((I.out z.next ac).trans ((k6 z.next ac).trans ((Z.out z.next ac).trans ((k4 z.next ac).trans gB))));have hJ5:=(hJ.aO (S':=fun q=>q<z.next) (fun _ _ h=>h) (by omega:V.next<=H4.next) fun q _ h=>k4 q h).dj (H':=O) ac fun q _ _=>Z.same q;have hJ7:=(hJ5.aO (S':=fun q=>q<z.next) (fun _ _ h=>h) (by omega:O.next<=H6.next) fun q _ h=>k6 q h).dj (H':=Y) ac fun q _ _=>I.same q;have hJ8:=hJ7.aO (S':=fun q=>q<z.next) (fun _ _ h=>h) n8 fun q _ h=>k8 q h;refine aF ?_ (zh5 w hsu H8);rintro _ _ ⟨rfl,rfl⟩;dsimp only[aC];repeat' (first
   |(apply aj ?_;clear hK K)|apply Ry.o ?_|apply iS ?_|(apply jy (fun hg hgp=>?_) (fun hg hgp=>?_)<;>try(cases hg;done))|(apply bu (fun hb hbp=>?_) (fun hb hbp=>?_)<;>try(cases hb;done))|apply cW ?_|(apply am fun K hK=>?_)|(apply ci 1 [(0,2),(0,6),(0,10),(7,10),(8,10)] fun K hK=>?_)|(apply bD ?_;try intro _)|(apply ch ?_ ?_<;>clear hK K)|apply eP ?_|apply dX ?_|apply fA ?_|apply gJ ?_|apply iT ?_)
  refine⟨ac,a0,a0,ca,(by simp only[aG,Nat.reduceBEq, *];exact hZ (n:=3) ac ac),?_⟩;exact⟨gB8,hJ8⟩
 .repeat' (first
   |(apply aj ?_;clear hK K)|apply Rx.o ?_|apply jc ?_|(apply eu ?_;first|refine bK (zh4 _) ?_)|apply cW ?_|(apply am fun K hK=>?_)|(apply ci 1 [(0,2),(0,6),(0,10),(7,10),(8,10)] fun K hK=>?_)|(apply bD ?_;try intro _)|(apply ch ?_ ?_<;>clear hK K)|apply eP ?_|apply dX ?_|apply fA ?_|apply gJ ?_|apply iT ?_)
  all_goals refine qq ?_
  all_goals trivial
def zia(U:Pr)(C:zf8 U)(l:qy)(a b:Int)(O:l.length<2^63)(Z:js l):bX prog (fun _=>0) 5 [.agg U.cells,KX l,.int .i64 a,.int .i64 b] (.bool true):=
 fB fit (pls:=pls) (levF_ok _) (.cons (.agg U.pure) (.cons (zhP l) (.cons (.int _ _) (.cons (.int _ _) .nil)))) (.bool _) (law U C l a b O Z)
set_option maxRecDepth 100000 in
def zib{H:Type}{enc:TypeId×Value->H}(W:World)(U:Value){r:Reach}{b0:Nat}(k0:Value.okWide prog W r b0 49 U){d:DataW H}{ps:List MemPlace}{sp:Nat->Bool}{O:Bool}(h0:DataW.Trod enc prog W 0 sp O 49 U d ps)(s0:Rows.uptoBulk d<=1048576)
 (M:Value) {r':Reach}{m:Nat} (k1:Value.okWide prog W r' m 23 M) {j:DataW H}{z:List MemPlace}{C:Nat->Bool}{I:Bool} (h1:DataW.Trod enc prog W 0 C I 23 M j z) (s1:Rows.uptoBulk j<=1048576) (Z Y:Int) :
 Calls prog 5 #[U,M,.int .i64 Z,.int .i64 Y] W fun e w'=>e=.returned (.bool true)/\Below W.heap.size W w':=by
 obtain⟨V,J,hz,hg⟩:=zh1 k0 h0;obtain⟨l,hv,hl,hr⟩:=zhS k1 h1;exact WJ (ρ:=fun _=>0) (F:=sy W) (zia V ⟨ac,fun _=>hg⟩ l Z Y hl hr) (zhN W) (jJ J (jJ hv (jJ (.int .i64 Z) (jJ (.int .i64 Y) (mc _)))))
set_option maxRecDepth 100000 in
def zic(os:Os)(I:os.Started)(H:Type)(enc:TypeId×Value->H)(F:Stop.Interp):
 ReturnsInHanded {} checked os 5 .any ((Rows.OpenSpec.upto Rows.lowerReferenceSpec).pre6 enc prog f5 Rows.lowerReferenceUptoRow.domain false) (((Rows.OpenSpec.upto Rows.lowerReferenceSpec).at F).post enc prog f5 false true false false):=by
 refine returnsInHanded_of_cond (C:=checked) (s:=Rows.OpenSpec.upto Rows.lowerReferenceSpec) (k:=Rows.uptoSmall) rfl own I ax func5
  (OpenSpec.witness (enc:=enc) (C:=checked) (s:=Rows.OpenSpec.upto Rows.lowerReferenceSpec) (k:=Rows.uptoSmall) rfl false ⟨#[],#[.agg #[.slice none 0 0,.slice none 0 0],.slice none 0 0,.int .i64 0,.int .i64 0],[]⟩ 8 ax ax ax
    (x:=([.agg [.nil,.nil],.nil,.lit (.int .i64 0),.lit (.int .i64 0)],[],[])) ax rfl ax) ?_
 intro W J V ds gs m Z hW _ hk _;have M:∀(j:Nat) t v,f5.params[j]?=some t->V[j]?=some v->Value.okWide prog W .any J t v:=Z;have Y:=hW;obtain⟨p,q,O,hV,rfl,hfz,hnd⟩:=hW;have hA:DataW.TrodAll enc prog W 0 (fun _=>true) true f5.params.toList V.toList ds p:=O;rw[params5]at hA M;obtain⟨v0,vs0,d0,ds0,p0,q0,hargs,rfl,rfl,h0,br⟩:=trodAll_cons hA;obtain⟨v1,vs1,d1,ds1,p1,q1,rfl,rfl,rfl,h1,r1⟩:=trodAll_cons br;obtain⟨v2,vs2,d2,ds2,p2,q2,rfl,rfl,rfl,h2,r2⟩:=trodAll_cons r1;obtain⟨v3,vs3,d3,ds3,p3,q3,rfl,rfl,rfl,h3,r3⟩:=trodAll_cons r2;obtain⟨rfl,rfl,rfl⟩:=trodAll_nil r3;obtain rfl:V=#[v0,v1,v2,v3]:=by cases V;simp_all
 obtain⟨rfl,rfl⟩:=trodVars_none hV;have z:=yA hk;simp only[aS,Rows.uptoBulkAll]at z;have k0:=M 0 49 v0 rfl rfl;have b0:Rows.uptoBulk d0<=1048576:=ac;have k1:=M 1 23 v1 rfl rfl;have b1:Rows.uptoBulk d1<=1048576:=ac;obtain⟨a2,rfl,rfl,rfl,w2⟩:=open_int underlying3 (M 2 3 v2 rfl rfl) h2;obtain⟨a3,rfl,rfl,rfl,w3⟩:=open_int underlying3 (M 3 3 v3 rfl rfl) h3;clear O Z z;refine(zib W v0 k0 h0 b0 v1 k1 h1 b1 a2 a3).mono fun e W' ⟨he,hg⟩=>?_;subst he;exact⟨_,rfl,WN (pv:=[]) Y (fun _ _ _=>(Cb (shut_bool underlying4 _) trodAll_mk0)) (fun sp U=>(Cb (Vb ax ax (yA ax) h0 hg (fun p hp=>Y.lt p hp) (fun x hx=>by simp[hx]) U) (Cb (Vb ax ax (yA ax) h1 hg (fun p hp=>Y.lt p hp) (fun x hx=>by simp[hx]) U) (Cb (shut_int underlying3 w2) (Cb (shut_int underlying3 w3) trodAll_mk0))))) (fun _ _=>rfl) aw hg (ok_one ax rfl (okWide_bool_mk underlying4 _))⟩
theorem proved:Rows.LowerReferenceUptoSaid:=
 OpenClaim.holds_of_cond 5 f5 rfl rfl rfl rfl rfl rfl rfl ⟨rfl,rfl,rfl,rfl,rfl⟩ rfl rfl rfl rfl rfl ax func5 ax
  (yA ax) (by unfold Func.isWrapper;first|(rw[ai (by decide +kernel)];kernel_rfl)|(rw[af (by decide +kernel)];exact⟨rfl,rfl⟩))
  (fun j I H enc _ F=>zic j I H enc F)
#print axioms proved
end Go.Proofs.YtpbcimfiofmoeaaGreat.lowerReference
