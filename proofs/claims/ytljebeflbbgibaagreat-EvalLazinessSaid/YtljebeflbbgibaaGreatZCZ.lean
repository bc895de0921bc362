/-
  The Go function fullinglaw9.EvalLaziness returns true whatever its arguments are, and leaves all memory that was there as it was. Conditions: none.
-/
import Derived.OpenShut
import Derived.ProofKit
import Derived.Test.YtljebeflbbgibaaGreatZCQ
import Derived.WalkKit
set_option linter.unusedSimpArgs false
set_option linter.unusedVariables false
set_option linter.unusedSectionVars false
set_option linter.defProp false
set_option maxHeartbeats 32000000
namespace Go.Ab
set_option maxRecDepth 20000
open Go
theorem pj{P:Prop}(h:P:=by simp[pm,nt]):P:=h
theorem Cu{P:Prop}(h:P:=by rintro(h|h);exact absurd h ac;omega):P:=h
def ym:=@List.not_mem_nil
def yn:=@Go.trodAll_cons_mk
end Go.Ab
namespace Go.Proofs.YtljebeflbbgibaaGreat.evalLaziness
set_option maxRecDepth 20000
open Go Go.Ab
def tyEvalLaziness.tyF:=ad @cI (ad @bZ (ad @dl (ad @d8 (ad @eY (ad @eL (ad @mK (ad @mL (ad @hM (ad @ju (ad @ll (ad @An (@sM))))))))))))
open tyEvalLaziness Go.ChangeShapes Go.WideShapes Go.ChangeAt Go.RowKit
theorem own:ownKnob Tryz.prog.godebug=none:=af
noncomputable def yo:{c:SC // aA 52 (Tryz.f3.body.getD .skip)=c}:=by
 refine⟨?_,?_⟩;rotate_left
 .simp only[Tryz.f3,a3,aA,zcG,zcE,zcJ,zcK,Nat.blt,Nat.ble];rfl
def nt(k:Int):List Nd:=[⟨26,0,[]⟩,⟨2,0,[]⟩,⟨1,0,[]⟩,⟨27,k,[0,2]⟩,⟨2,1,[]⟩,⟨29,0,[0,4]⟩,⟨22,0,[1,5,3]⟩]
def pm(k:Int):Gr:=⟨[102],2,nt k,4,6⟩
def lH(k:Int):Un:=⟨[],[pm k]⟩
theorem zcc:((List.range 90).all fun k=>fV (lH ((k:Int)+1)))=true:=af
theorem Ku{k:Int}(o:0<=k)(h1:k<90):fV (lH (1+k))=true:=by
 have:=f9.1 zcc k.toNat (jb.2 ac);rw[show((k.toNat:Nat):Int)+1=1+k by omega]at this;exact this
def lI:S9:=⟨[],[],0,0,0,0⟩
def kQ(k c o:Int):List R9:=[⟨true,0,some lI⟩,⟨true,c,none⟩,⟨true,0,none⟩,⟨true,0,some {lI with ed:=2,code:=k}⟩,⟨true,o,none⟩,⟨true,0,some {lI with out:=[o] }⟩,if c=0 then ⟨true,0,some {lI with ed:=2,code:=k}⟩else ⟨true,0,some {lI with out:=[o] }⟩]
theorem Kv(k:Int):∀(i:Nat) m,(nt k)[i]?=some m->∀q∈m.kids,0<=q/\q<i:=by
 intro i m h q K
 match i,h with
 |0,h=>cases h;cases K
 |1,h=>cases h;cases K
 |2,h=>cases h;cases K
 |3,h=>cases h;simp at K;omega
 |4,h=>cases h;cases K
 |5,h=>cases h;simp at K;omega
 |6,h=>cases h;simp at K;omega
 |_+7,h=>simp[nt]at h
theorem Kw(k c o:Int):Den9 (nt k) lI [c,o] (kQ k c o):=⟨rfl,Kv k,fun i m h=>by
 match i,h with
 |0,h=>cases h;exact⟨_,rfl,rfl⟩
 |1,h=>cases h;exact⟨_,rfl,rfl⟩
 |2,h=>cases h;exact⟨_,rfl,rfl⟩
 |3,h=>cases h;exact⟨_,rfl,rfl⟩
 |4,h=>cases h;exact⟨_,rfl,rfl⟩
 |5,h=>cases h;exact⟨_,rfl,rfl⟩
 |6,h=>
  cases h;by_cases hc:c=0
  .refine⟨⟨true,0,some {lI with ed:=2,code:=k}⟩,?_,by simp[kQ,hc,R9.known]⟩;have K:li (kQ k c o) ⟨22,0,[1,5,3]⟩=some 3:=by
    subst hc;rfl
   have e:iy lI [c,o] (kQ k c o) ⟨22,0,[1,5,3]⟩=(li (kQ k c o) ⟨22,0,[1,5,3]⟩).bind (zdC (kQ k c o)):=rfl;rw[e,K];rfl
  .refine⟨⟨true,0,some {lI with out:=[o] }⟩,?_,by simp[kQ,hc,R9.known]⟩;have K:li (kQ k c o) ⟨22,0,[1,5,3]⟩=some 5:=by
    show(if c≠0 then some 5 else some 3)=some 5;rw[ax hc]
   have e:iy lI [c,o] (kQ k c o) ⟨22,0,[1,5,3]⟩=(li (kQ k c o) ⟨22,0,[1,5,3]⟩).bind (zdC (kQ k c o)):=rfl;rw[e,K];rfl
 |_+7,h=>simp[nt]at h⟩
def nu(k c o:Int):Oc:=if c=0 then ⟨2,k,[],0⟩else ⟨1,0,[o],o⟩
def qT(k c o:Int):RunX:=⟨lH k,[102],[c,o],0⟩
theorem Kx{k:Int}(o:0<=k)(h1:k<200):∀n∈nt k,NdR n:=by
 intro n m;simp only[nt,fk,ym,or_false]at m;rcases m with rfl|rfl|rfl|rfl|rfl|rfl|rfl<;>refine⟨⟨aD,aD⟩,⟨by simp<;>omega,by simp<;>omega⟩,fun q K=>?_,aD⟩<;>simp at K<;>omega
theorem Ky{k:Int}(o:0<=k)(h1:k<200):UnOkR (lH k):=zcb (by simp[lH]) (by simp[lH]) (by show Pr.sz ⟨[],[⟨[102],[],[],[],.mk 1 0 [] 0 []⟩]⟩<2^36;decide) fun g A=>by
 simp only[lH,fk,ym,or_false]at A;subst A;exact⟨pj,Kx o h1⟩
theorem zcd{k:Int}(Y:0<=k)(h1:k<90)(c o:Int):RunTo9 (qT (1+k) c o) (nu (1+k) c o) where
 uok:=(Ky ac ac).ok
 valid:=Ku Y h1
 f0:=by show(0:Int)<=0;omega
 f1:=by show(0:Int)<=1000;omega
 flat:=fun g A=>by
  simp only[qT,lH,fk,ym,or_false]at A;subst A;exact⟨⟨pj,fun n Z=>(Kx ac ac n Z).len⟩,Kv _,fun n Z=>by
   simp only[pm,nt,fk,ym,or_false]at Z;rcases Z with rfl|rfl|rfl|rfl|rfl|rfl|rfl<;>exact⟨aD,aD⟩⟩
 fn:=by
  refine⟨0,pm (1+k),?_⟩;by_cases hc:c=0
  .obtain⟨n,m,e⟩:=FR (g:=pm (1+k)) pj (Kw (1+k) c o) (i:=6) (j:=4) rfl pj rfl pj (ri:=⟨true,0,some {lI with ed:=2,code:=1+k}⟩) (by simp[kQ,hc]) rfl rfl;exact⟨n,m,rfl,rfl,e.trans (by rw[nu,ax hc];rfl)⟩
  .obtain⟨n,m,e⟩:=FR (g:=pm (1+k)) pj (Kw (1+k) c o) (i:=6) (j:=4) rfl pj rfl pj (ri:=⟨true,0,some {lI with out:=[o] }⟩) (by simp[kQ,hc]) rfl rfl;exact⟨n,m,rfl,rfl,e.trans (by rw[nu,ah hc];rfl)⟩
 arr:=fun a F=>by simp[qT,lH]at F
 args:=by simp[qT]
 out:=by rw[nu];split<;>simp
noncomputable def pn(k c o:Int):List En:=[I3,kD Cp,kD (Cs (qT (1+k) c o) (nu (1+k) c o)),kD Ct,Kr]
theorem zyp(ρ:Nat->Int){k:Int}(Z:0<=k)(h1:k<90)(c o:Int):eX Tryz.prog ρ (pn k c o):=⟨zpH ρ,rQ (zyn ρ),rQ (zpY ρ (zcd Z h1 c o)),rQ (znH ρ),zpZ ρ,trivial⟩
theorem Kz(H:Hp)(a b:Int):zdS Tryz.prog H 23 2 [(0,.int .i64 a),(1,.int .i64 b)]=some (.sl H.next 0 2 1,H.alloc (.cells [.int .i64 a,.int .i64 b] 0 true)):=af
theorem KA(H:Hp)(a b c:Int):zdS Tryz.prog H 23 3 [(0,.int .i64 a),(1,.int .i64 b),(2,.int .i64 c)]=some (.sl H.next 0 3 1,H.alloc (.cells [.int .i64 a,.int .i64 b,.int .i64 c] 0 true)):=af
theorem KB(a:Int):zdK Tryz.prog 25 [(0,.int .i64 a)]=some (.agg [.int .i64 a,.int .i64 0,.nilS]):=af
theorem KC(a b:Int):zdK Tryz.prog 25 [(0,.int .i64 a),(1,.int .i64 b)]=some (.agg [.int .i64 a,.int .i64 b,.nilS]):=af
theorem KD(a:Int)(q n:Nat):zdK Tryz.prog 25 [(0,.int .i64 a),(2,.sl q 0 n 1)]=some (.agg [.int .i64 a,.int .i64 0,.sl q 0 n 1]):=af
theorem KE(a b:Int)(q n:Nat):zdK Tryz.prog 25 [(0,.int .i64 a),(1,.int .i64 b),(2,.sl q 0 n 1)]=some (.agg [.int .i64 a,.int .i64 b,.sl q 0 n 1]):=af
def KF(k:Int):List AV:=[.int .i64 26,.int .i64 0,.nilS,.int .i64 2,.int .i64 0,.nilS,.int .i64 1,.int .i64 0,.nilS,.int .i64 27,.int .i64 k,.sl 0 0 2 1,.int .i64 2,.int .i64 1,.nilS,.int .i64 29,.int .i64 0,.sl 1 0 2 1,.int .i64 22,.int .i64 0,.sl 2 0 3 1]
theorem zcf(H:Hp)(k:Int):zdS Tryz.prog H 26 7 [(0,.agg [.int .i64 26,.int .i64 0,.nilS]),(1,.agg [.int .i64 2,.int .i64 0,.nilS]),(2,.agg [.int .i64 1,.int .i64 0,.nilS]),(3,.agg [.int .i64 27,.int .i64 k,.sl 0 0 2 1]),(4,.agg [.int .i64 2,.int .i64 1,.nilS]),(5,.agg [.int .i64 29,.int .i64 0,.sl 1 0 2 1]),(6,.agg [.int .i64 22,.int .i64 0,.sl 2 0 3 1])]=some (.sl H.next 0 7 3,H.alloc (.cells (KF k) 0 true)):=af
theorem KG(q n:Nat):zdK Tryz.prog 28 [(0,.str [102]),(1,.int .i64 2),(2,.sl q 0 n 3),(3,.int .i64 4),(4,.int .i64 6)]=some (.agg [.str [102],.int .i64 2,.sl q 0 n 3,.int .i64 4,.int .i64 6]):=af
theorem KH(H:Hp)(q n:Nat):zdS Tryz.prog H 29 1 [(0,.agg [.str [102],.int .i64 2,.sl q 0 n 3,.int .i64 4,.int .i64 6])]=some (.sl H.next 0 1 5,H.alloc (.cells [.str [102],.int .i64 2,.sl q 0 n 3,.int .i64 4,.int .i64 6] 0 true)):=af
theorem KI(q n:Nat):zdK Tryz.prog 32 [(1,.sl q 0 n 5)]=some (.agg [.nilS,.sl q 0 n 5]):=af
theorem bI1(H:Hp)(a:Int):zdS Tryz.prog H 33 1 [(0,.int .i64 a)]=some (.sl H.next 0 1 1,H.alloc (.cells [.int .i64 a] 0 true)):=af
theorem bI2(H:Hp)(a b:Int):zdS Tryz.prog H 33 2 [(0,.int .i64 a),(1,.int .i64 b)]=some (.sl H.next 0 2 1,H.alloc (.cells [.int .i64 a,.int .i64 b] 0 true)):=af
theorem KJ(q n:Nat)(v:Int):zdK Tryz.prog 35 [(0,.int .i64 1),(2,.sl q 0 n 1),(3,.int .i64 v)]=some (.agg [.int .i64 1,.int .i64 0,.sl q 0 n 1,.int .i64 v]):=af
theorem KK(k:Int):zdK Tryz.prog 35 [(0,.int .i64 2),(1,.int .i64 k)]=some (.agg [.int .i64 2,.int .i64 k,.nilS,.int .i64 0]):=af
theorem KL{P:Program}{cfg:Cfg}{f:FuncId}{l:List SOp}{E:ao}{H:Hp}{Q:ao->Hp->Prop}(p:Hp->Prop)(V:p H)(h:∀H',p H'->aC P cfg f l E H' Q):aC P cfg f l E H Q:=h _ V
structure LzM (k o:Int) (w:List AV) (H:Hp):Prop where
 n1:8<=H.next
 n2:H.next<=8
 g0:H.get 0=some (.cells (zdt [0,2]) 0 true)
 g1:H.get 1=some (.cells (zdt [0,4]) 0 true)
 g2:H.get 2=some (.cells (zdt [1,5,3]) 0 true)
 g3:H.get 3=some (.cells (KF k) 0 true)
 g4:H.get 4=some (.cells [.str [102],.int .i64 2,.sl 3 0 7 3,.int .i64 4,.int .i64 6] 0 true)
 g5:H.get 5=some (.cells [.nilS,.sl 4 0 1 5] 0 true)
 g6:H.get 6=some (.cells (zdt [o]) 0 true)
 g7:H.get 7=some (.cells w 0 true)
theorem r3{S:Nat->Prop}{H:Hp}{a b:Int}{v:AV}{l:List Int}(L:d5 S 2 H v (jk l)):[AV.int .i64 a,.int .i64 b,v].length=3/\zdJ S 2 H [.int .i64 a,.int .i64 b,v] (Nd.mk a b l).cells:=⟨rfl,.cons (.int _ _) (.cons (.int _ _) (.cons L .nil))⟩
theorem rn{S:Nat->Prop}{H:Hp}{a b:Int}:[AV.int .i64 a,.int .i64 b,.nilS].length=3/\zdJ S 2 H [.int .i64 a,.int .i64 b,.nilS] (Nd.mk a b []).cells:=⟨rfl,.cons (.int _ _) (.cons (.int _ _) (.cons .nilS .nil))⟩
theorem LzM.cells{k o:Int}{w:List AV}{H:Hp}(h:LzM k o w H):zdJ (fun q=>q<5) 6 H [.nilS,.sl 4 0 1 5] (lH k).cells:=by
 have m:=h.n1;have a0:d5 (fun q=>q<5) 2 H (.sl 0 0 2 1) (jk [0,2]):=qN [0,2] (show 0<5 by omega) ac h.g0 (cK _);have a1:d5 (fun q=>q<5) 2 H (.sl 1 0 2 1) (jk [0,4]):=qN [0,4] (show 1<5 by omega) ac h.g1 (cK _);have a2:d5 (fun q=>q<5) 2 H (.sl 2 0 3 1) (jk [1,5,3]):=qN [1,5,3] (show 2<5 by omega) ac h.g2 (cK _);have zd9:d5 (fun q=>q<5) 3 H (.sl 3 0 7 3) (zdy (nt k)):=d5.rows (a:=[[.int .i64 26,.int .i64 0,.nilS],[.int .i64 2,.int .i64 0,.nilS],[.int .i64 1,.int .i64 0,.nilS],[.int .i64 27,.int .i64 k,.sl 0 0 2 1],[.int .i64 2,.int .i64 1,.nilS],[.int .i64 29,.int .i64 0,.sl 1 0 2 1],[.int .i64 22,.int .i64 0,.sl 2 0 3 1]]) (show 3<5 by omega) ac h.g3 (cK _) ⟨rn,rn,rn,r3 a0,rn,r3 a1,r3 a2,trivial⟩;have zea:d5 (fun q=>q<5) 4 H (.sl 4 0 1 5) (.lst [(pm k).cells]):=d5.rows (a:=[[.str [102],.int .i64 2,.sl 3 0 7 3,.int .i64 4,.int .i64 6]]) (b:=[(pm k).cells]) (show 4<5 by omega) ac h.g4 (cK _) ⟨⟨rfl,.cons (.str _) (.cons (.int _ _) (.cons zd9 (.cons (.int _ _) (.cons (.int _ _) .nil))))⟩,trivial⟩;exact .cons .nilS (.cons (zea.up ac) .nil)
theorem KM{k c o:Int}{H:Hp}(h:zdJ (fun q=>q<5) 6 H [.nilS,.sl 4 0 1 5] (lH k).cells)(m:8<=H.next):zdJ (fun q=>q<5\/q=H.next) 8 (H.alloc (.cells [.int .i64 c,.int .i64 o] 0 true)) [.agg [.nilS,.sl 4 0 1 5],.str [102],.sl H.next 0 2 1,.int .i64 0] (od (qT k c o)):=
 .cons ((d5.agg (n:=6) (alC _ (fun _ q=>.inl q) h)).up ac) (.cons (.str _) (.cons ((qN (n:=0) [c,o] (.inr rfl) (cL _) hW (cK _)).up ac) (.cons (.int _ _) .nil)))
set_option maxRecDepth 100000 in
theorem law(c code o:Int):zcx Tryz.prog (zcq pls (pn (gU code 90) c o)) 3 [.int .i64 c,.int .i64 code,.int .i64 o] zc2 fun v _=>v=.bool true:=by
 obtain⟨h0,h1⟩:=I2 (n:=code) (m:=90) ac ac;have g:Plain (zcq pls (pn (gU code 90) c o)) 3:=zdm (fun _=>rfl) rfl;have kk:∀H,zcx Tryz.prog (zcq pls (pn (gU code 90) c o)) 11 [.int .i64 code,.int .i64 90] H fun v H'=>v=.int .i64 (gU code 90)/\H'=H:=fun H=>zds (enc:=qM) (ok:=fun x=>x.2≠0) (out:=fun x=>.int .i64 (gU x.1 x.2)) zxK (x:=(code,90)) rfl (by show(90:Int)≠0;omega);have kex:∀H,zcx Tryz.prog (zcq pls (pn (gU code 90) c o)) 15 [] H fun v H'=>v=.bool true/\H'=H:=fun H=>z6 rfl;have O:=Ku h0 h1;have kv:=fun{S n H cs}=>zb6 (tb:=pn (gU code 90) c o) (S:=S) (n:=n) (H:=H) (u:=lH (1+gU code 90)) (cs:=cs) (fun _=>rfl) rfl (Ky ac ac);have kr:=fun{S n H ar}=>zb5 (tb:=pn (gU code 90) c o) (S:=S) (n:=n) (H:=H) (x:=qT (1+gU code 90) c o) (o:=nu (1+gU code 90) c o) (args:=ar) (fun _=>rfl) rfl;have U:=fun{S n H ar}=>zb8 (tb:=pn (gU code 90) c o) (S:=S) (n:=n) (H:=H) (o:=nu (1+gU code 90) c o) (args:=ar) (fun _=>rfl) rfl (by rw[nu];split<;>simp);generalize hp:gU code 90=p at *;have e1:IntKind.wrap .i64 (1+p)=1+p:=zej ac ac;have bR:=fun H=>zcf H (1+p);by_cases hc:c=0
 .subst hc;refine zcv (M:=52) (rs:=[.tmp 6]) (g.call _) g.ice g.froz Tryz.func3 rfl rfl yo.2 rfl ?_;dsimp only[yo,zcr,Nat.reduceAdd];have J:=@Kz;have gh1:=@KA;have gh2:=@KB;have gh3:=@KC;have gh4:=@KD;have gh5:=@KE;have gh6:=@KG;have gh7:=@KH;have gh8:=@KI;have gh9:=@bI1;have gh10:=@bI2;have gh11:=@KJ;have gh12:=@KK;repeat' (first
   |(apply zcl ?_;clear hK K)|apply Ry.o ?_|apply b7 ?_|(apply bK ?_;first|refine Rx.k (kk _) ?_)|(apply aB (fun z V=>?_) (fun z V=>?_)<;>try(cases z;done))|apply ak ?_|(apply zcm fun K hK=>?_)|(apply zc4 7 [(0,1),(3,7),(6,7),(8,7),(8,9)] fun K hK=>?_)|(apply zcV ?_;try intro _)|(apply zc5 ?_ ?_<;>clear hK K)|apply bD ?_|(apply iC (fun A I=>?_) (fun A I=>?_)<;>try(cases A;done))|apply zco ?_|apply am ?_)
  refine KL (LzM (1+p) o [.int .i64 2,.int .i64 (1+p),.nilS,.int .i64 0]) ⟨aM 8,aM 8,af,af,af,af,af,af,af,af⟩ ?_;intro Hc Z;have m5:=Z.g5;have sM:∀a b:AV,zc6 2 [a,b]=some (.agg [a,b]):=fun _ _=>rfl;have F:∀a b c d:AV,zc6 4 [a,b,c,d]=some (.agg [a,b,c,d]):=fun _ _ _ _=>rfl;repeat' (first
   |(apply zcl ?_;clear hK K)|apply ak ?_|(apply zcm fun K hK=>?_)|(apply zc4 7 [(0,1),(3,7),(6,7),(8,7),(8,9)] fun K hK=>?_)|(apply zcV ?_;try intro _)|(apply zc5 ?_ ?_<;>clear hK K)|apply bD ?_|apply zco ?_|apply am ?_)
  refine bg rfl bh bj ?_;simp only[eM];refine a7 ?_ (kv (show(6:Nat)<60 by omega) Z.cells);rintro v H1 ⟨rfl,Y⟩;rw[O];dsimp only[zcF];have C:=Kt Z.cells Y;have m51:=(Y.out 5 (by show ¬5<5;omega)).trans m5;have j:=(Y.out 7 (by show ¬7<5;omega)).trans Z.g7;have n1:H1.next=8:=by rw[Y.next];have:=Z.n1;have:=Z.n2;omega
  have i:8<=H1.next:=ac
  have cl:=KM (c:=0) (o:=o) C i;have hO:nu (1+p) 0 o=⟨2,1+p,[],0⟩:=ax rfl;rw[hO]at kr U;clear n1;have J:=@bI2;repeat' (first
   |(apply zcl ?_;clear hK K)|apply Ry.o ?_|apply b7 ?_|(apply aB (fun z V=>?_) (fun z V=>?_)<;>try(cases z;done))|apply ak ?_|(apply zcm fun K hK=>?_)|(apply zc4 7 [(0,1),(3,7),(6,7),(8,7),(8,9)] fun K hK=>?_)|(apply zcV ?_;try intro _)|(apply zc5 ?_ ?_<;>clear hK K)|apply bD ?_|(apply iC (fun A I=>?_) (fun A I=>?_)<;>try(cases A;done))|apply zco ?_|apply am ?_)
  refine bg rfl bh bj ?_;simp only[eM];refine a7 ?_ (kr (show(8:Nat)<=60 by omega) cl);rintro v W ⟨rfl,L⟩;dsimp only[zcF];have m72:=(L.out 7 Cu).trans ((by rw[zcu,ah ac]:(H1.alloc (.cells [.int .i64 0,.int .i64 o] 0 true)).get 7=H1.get 7).trans j);have cs:zdJ (fun _=>True) 5 W [er ⟨2,1+p,[],0⟩,.agg [.int .i64 2,.int .i64 (1+p),.nilS,.int .i64 0]] [er ⟨2,1+p,[],0⟩,er ⟨2,1+p,[],0⟩]:=.cons (Ks _) (.cons (d5.agg (.cons (.int _ _) (.cons (.int _ _) (.cons .nilS (.cons (.int _ _) .nil))))) .nil);repeat' (first
   |(apply zcl ?_;clear hK K)|apply Ry.o ?_|apply b7 ?_|(apply aB (fun z V=>?_) (fun z V=>?_)<;>try(cases z;done))|apply ak ?_|(apply zcm fun K hK=>?_)|(apply zc4 7 [(0,1),(3,7),(6,7),(8,7),(8,9)] fun K hK=>?_)|(apply zcV ?_;try intro _)|(apply zc5 ?_ ?_<;>clear hK K)|apply bD ?_|(apply iC (fun A I=>?_) (fun A I=>?_)<;>try(cases A;done))|apply zco ?_|apply am ?_)
  refine bg rfl bh bj ?_;simp only[eM];refine a7 ?_ (U (show(5:Nat)<=60 by omega) cs);rintro v H3 ⟨rfl,i3⟩;dsimp only[zcF];have y5:(5 == H1.next)=false:=zcD ac;have y7:(7 == H1.next)=false:=zcD ac;have j1:=Y.next
  have j2:=L.next
  rw[zcB]at j2;have j3:=i3.next
  have n2a:H1.next+1<=W.next:=ac
  have n3a:W.next<=H3.next:=ac
  have n1b:Hc.next<=H1.next:=ac
  clear j1 j2 j3;repeat' (first
   |(apply zcl ?_;clear hK K)|apply Ry.o ?_|apply b7 ?_|(apply bK ?_;first|refine Rx.k (kex _) ?_)|(apply aB (fun z V=>?_) (fun z V=>?_)<;>try(cases z;done))|apply ak ?_|(apply zcm fun K hK=>?_)|(apply zc4 7 [(0,1),(3,7),(6,7),(8,7),(8,9)] fun K hK=>?_)|(apply zcV ?_;try intro _)|(apply zc5 ?_ ?_<;>clear hK K)|apply bD ?_|(apply iC (fun A I=>?_) (fun A I=>?_)<;>try(cases A;done))|apply zco ?_|apply am ?_)
  .exact eK
  all_goals (refine⟨eI,_,eR,?_⟩;try simp only[zcn])
 .refine zcv (M:=52) (rs:=[.tmp 6]) (g.call _) g.ice g.froz Tryz.func3 rfl rfl yo.2 rfl ?_;dsimp only[yo,zcr,Nat.reduceAdd];have J:=@Kz;have gh1:=@KA;have gh2:=@KB;have gh3:=@KC;have gh4:=@KD;have gh5:=@KE;have gh6:=@KG;have gh7:=@KH;have gh8:=@KI;have gh9:=@bI1;have gh10:=@bI2;have gh11:=@KJ;have gh12:=@KK;repeat' (first
   |(apply zcl ?_;clear hK K)|apply Ry.o ?_|apply b7 ?_|(apply bK ?_;first|refine Rx.k (kk _) ?_)|(apply aB (fun z V=>?_) (fun z V=>?_)<;>try(cases z;done))|apply ak ?_|(apply zcm fun K hK=>?_)|(apply zc4 7 [(0,1),(3,7),(6,7),(8,7),(8,9)] fun K hK=>?_)|(apply zcV ?_;try intro _)|(apply zc5 ?_ ?_<;>clear hK K)|apply bD ?_|(apply iC (fun A I=>?_) (fun A I=>?_)<;>try(cases A;done))|apply zco ?_|apply am ?_)
  refine KL (LzM (1+p) o [.int .i64 1,.int .i64 0,.sl 6 0 1 1,.int .i64 o]) ⟨aM 8,aM 8,af,af,af,af,af,af,af,af⟩ ?_;intro Hc Z;have m5:=Z.g5;have sM:∀a b:AV,zc6 2 [a,b]=some (.agg [a,b]):=fun _ _=>rfl;have F:∀a b c d:AV,zc6 4 [a,b,c,d]=some (.agg [a,b,c,d]):=fun _ _ _ _=>rfl;repeat' (first
   |(apply zcl ?_;clear hK K)|apply ak ?_|(apply zcm fun K hK=>?_)|(apply zc4 7 [(0,1),(3,7),(6,7),(8,7),(8,9)] fun K hK=>?_)|(apply zcV ?_;try intro _)|(apply zc5 ?_ ?_<;>clear hK K)|apply bD ?_|apply zco ?_|apply am ?_)
  refine bg rfl bh bj ?_;simp only[eM];refine a7 ?_ (kv (show(6:Nat)<60 by omega) Z.cells);rintro v H1 ⟨rfl,Y⟩;rw[O];dsimp only[zcF];have C:=Kt Z.cells Y;have m51:=(Y.out 5 (by show ¬5<5;omega)).trans m5;have j:=(Y.out 7 (by show ¬7<5;omega)).trans Z.g7;have n1:H1.next=8:=by rw[Y.next];have:=Z.n1;have:=Z.n2;omega
  have i:8<=H1.next:=ac
  have cl:=KM (c:=c) (o:=o) C i;have hO:nu (1+p) c o=⟨1,0,[o],o⟩:=ah hc;rw[hO]at kr U;clear n1;have J:=@bI2;repeat' (first
   |(apply zcl ?_;clear hK K)|apply Ry.o ?_|apply b7 ?_|(apply aB (fun z V=>?_) (fun z V=>?_)<;>try(cases z;done))|apply ak ?_|(apply zcm fun K hK=>?_)|(apply zc4 7 [(0,1),(3,7),(6,7),(8,7),(8,9)] fun K hK=>?_)|(apply zcV ?_;try intro _)|(apply zc5 ?_ ?_<;>clear hK K)|apply bD ?_|(apply iC (fun A I=>?_) (fun A I=>?_)<;>try(cases A;done))|apply zco ?_|apply am ?_)
  refine bg rfl bh bj ?_;simp only[eM];refine a7 ?_ (kr (show(8:Nat)<=60 by omega) cl);rintro v W ⟨rfl,L⟩;dsimp only[zcF];have m72:=(L.out 7 Cu).trans ((by rw[zcu,ah ac]:(H1.alloc (.cells [.int .i64 c,.int .i64 o] 0 true)).get 7=H1.get 7).trans j);have m62:=(L.out 6 Cu).trans ((by rw[zcu,ah ac]:(H1.alloc (.cells [.int .i64 c,.int .i64 o] 0 true)).get 6=H1.get 6).trans ((Y.out 6 (by show ¬6<5;omega)).trans Z.g6));have n26:6<W.next:=by have:=L.next;rw[zcB]at this;omega
  have cs:zdJ (fun _=>True) 5 W [er ⟨1,0,[o],o⟩,.agg [.int .i64 1,.int .i64 0,.sl 6 0 1 1,.int .i64 o]] [er ⟨1,0,[o],o⟩,er ⟨1,0,[o],o⟩]:=.cons (Ks _) (.cons (d5.agg (.cons (.int _ _) (.cons (.int _ _) (.cons ((qN (n:=0) [o] trivial n26 m62 (cK _)).up ac) (.cons (.int _ _) .nil))))) .nil);repeat' (first
   |(apply zcl ?_;clear hK K)|apply Ry.o ?_|apply b7 ?_|(apply aB (fun z V=>?_) (fun z V=>?_)<;>try(cases z;done))|apply ak ?_|(apply zcm fun K hK=>?_)|(apply zc4 7 [(0,1),(3,7),(6,7),(8,7),(8,9)] fun K hK=>?_)|(apply zcV ?_;try intro _)|(apply zc5 ?_ ?_<;>clear hK K)|apply bD ?_|(apply iC (fun A I=>?_) (fun A I=>?_)<;>try(cases A;done))|apply zco ?_|apply am ?_)
  refine bg rfl bh bj ?_;simp only[eM];refine a7 ?_ (U (show(5:Nat)<=60 by omega) cs);rintro v H3 ⟨rfl,i3⟩;dsimp only[zcF];have y5:(5 == H1.next)=false:=zcD ac;have y7:(7 == H1.next)=false:=zcD ac;have j1:=Y.next
  have j2:=L.next
  rw[zcB]at j2;have j3:=i3.next
  have n2a:H1.next+1<=W.next:=ac
  have n3a:W.next<=H3.next:=ac
  have n1b:Hc.next<=H1.next:=ac
  clear j1 j2 j3;repeat' (first
   |(apply zcl ?_;clear hK K)|apply Ry.o ?_|apply b7 ?_|(apply bK ?_;first|refine Rx.k (kex _) ?_)|(apply aB (fun z V=>?_) (fun z V=>?_)<;>try(cases z;done))|apply ak ?_|(apply zcm fun K hK=>?_)|(apply zc4 7 [(0,1),(3,7),(6,7),(8,7),(8,9)] fun K hK=>?_)|(apply zcV ?_;try intro _)|(apply zc5 ?_ ?_<;>clear hK K)|apply bD ?_|(apply iC (fun A I=>?_) (fun A I=>?_)<;>try(cases A;done))|apply zco ?_|apply am ?_)
  .exact eK
  all_goals (refine⟨eI,_,eR,?_⟩;try simp only[zcn])
theorem con(c code o:Int):a9 Tryz.prog (fun _=>0) 3 [.int .i64 c,.int .i64 code,.int .i64 o] (.bool true):=by
 obtain⟨Z,i⟩:=I2 (n:=code) (m:=90) ac ac;exact zdv fit (pls:=pls) (zyp _ Z i c o) (.cons (.int _ _) (.cons (.int _ _) (.cons (.int _ _) .nil))) (.bool _) (law c code o)
theorem zch(a0:Int)(a1:Int)(a2:Int)(z:(Lit.int .i64 a0).wf=true)(zex:(Lit.int .i64 a1).wf=true)(Z:(Lit.int .i64 a2).wf=true)(w:World):
 Calls Tryz.prog 3 #[.int .i64 a0,.int .i64 a1,.int .i64 a2] w fun e W=>e=.returned (.bool true)/\Below w.heap.size w W:=
 Dw (ρ:=fun _=>0) (F:=fun _ _=>none) (con a0 a1 a2) (fun _ _ _ h=>iR) (jJ (.int .i64 a0) (jJ (.int .i64 a1) (jJ (.int .i64 a2) (lL _))))
set_option maxRecDepth 100000 in
theorem zci(I:Os)(J:I.Started)(H:Type)(enc:TypeId×Value->H):
 ReturnsInHanded {} Tryz.checked I 3 .any (Rows.evalLazinessSpec.pre6 enc Tryz.prog Tryz.f3 Rows.evalLazinessRow.domain false) (Rows.evalLazinessSpec.post enc Tryz.prog Tryz.f3 false true false false):=by
 refine returnsInHanded_of_change (C:=Tryz.checked) own J af Tryz.func3
  (ChangeSpec.witness6 (enc:=enc) (C:=Tryz.checked) false ⟨#[],#[.int .i64 0,.int .i64 0,.int .i64 0],[]⟩ 8 af af af af) ?_
 intro W Y args ds gs U Z V O _;have A:∀(j:Nat) t v,Tryz.f3.params[j]?=some t->args[j]?=some v->Value.okWide Tryz.prog W .any Y t v:=Z;have F:=V;obtain⟨p,q,i,hV,rfl,hfz,hnd⟩:=V;have m:DataW.TrodAll enc Tryz.prog W 0 (fun _=>true) true Tryz.f3.params.toList args.toList ds p:=i;rw[Tryz.params3]at m A;obtain⟨M,vs0,d0,ds0,p0,q0,g,rfl,rfl,h0,zcN⟩:=trodAll_cons m;obtain⟨L,vs1,d1,ds1,p1,q1,rfl,rfl,rfl,h1,zct⟩:=trodAll_cons zcN;obtain⟨K,vs2,d2,ds2,p2,q2,rfl,rfl,rfl,h2,r2⟩:=trodAll_cons zct;obtain⟨rfl,rfl,rfl⟩:=trodAll_nil r2;obtain rfl:args=#[M,L,K]:=by cases args;simp_all
 obtain⟨rfl,rfl⟩:=trodVars_none hV;obtain⟨a0,rfl,rfl,rfl,z⟩:=open_int Tryz.underlying2 (A 0 2 M rfl rfl) h0;obtain⟨a1,rfl,rfl,rfl,zex⟩:=open_int Tryz.underlying3 (A 1 3 L rfl rfl) h1;obtain⟨a2,rfl,rfl,rfl,o⟩:=open_int Tryz.underlying2 (A 2 2 K rfl rfl) h2;clear i Z;simp only[br]at F;refine(zch a0 a1 a2 z zex o W).mono fun e W' ⟨he,hg⟩=>?_;subst he;exact⟨_,rfl,Md (pa:=[]) (pv:=[]) F (fun _ _ _=>(yn (shut_bool Tryz.underlying4 _) trodAll_mk0)) (fun sp _=>(yn (shut_int Tryz.underlying2 z) (yn (shut_int Tryz.underlying3 zex) (yn (shut_int Tryz.underlying2 o) trodAll_mk0)))) (fun _ _=>rfl) rfl
  hg (ok_one af rfl (okWide_bool_mk Tryz.underlying4 _))⟩
theorem over:Rows.evalLazinessRow.holds Tryz.pinned (OpenSpec.ofChange Rows.evalLazinessSpec):=
 OpenClaim.holds_of_wide 3 Tryz.f3 rfl rfl rfl rfl rfl rfl rfl ⟨rfl,rfl,rfl,rfl,rfl⟩ rfl rfl rfl rfl rfl af Tryz.func3 af
  (uD af) (by unfold Func.isWrapper;first|(rw[ax (by decide +kernel)];kernel_rfl)|(rw[ah (by decide +kernel)];exact⟨rfl,rfl⟩))
  (fun I J H enc _=>zci I J H enc)
theorem proved:Rows.EvalLazinessSaid:=
 over
#print axioms proved
end Go.Proofs.YtljebeflbbgibaaGreat.evalLaziness
