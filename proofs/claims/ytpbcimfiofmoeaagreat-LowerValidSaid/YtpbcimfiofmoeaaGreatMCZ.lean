/-
  The Go function fullinglaw8.LowerValid returns true whatever its three arguments are, and leaves all memory that was there as it was. Conditions: none.
-/
import Derived.OpenShut
import Derived.ProofKit
import Derived.Test.YtpbcimfiofmoeaaGreatMCW
import Derived.WalkKit
set_option linter.unusedSimpArgs false
set_option linter.unusedVariables false
set_option linter.unusedSectionVars false
set_option linter.defProp false
set_option maxHeartbeats 32000000
namespace Go.Ab
set_option maxRecDepth 20000
open Go
def EY:=@Go.trodAll_cons_mk
end Go.Ab
namespace Go.Proofs.YtpbcimfiofmoeaaGreat.lowerValid
set_option maxRecDepth 20000
open Go Go.Ab
def tyLowerValid.tyF:=ad @cJ (ad @gY (ad @xd (ad @xe (ad @vC (ad @iQ (ad @fI (ad @ue (ad @iR (ad @jw (ad @JI (ad @tf (@tg))))))))))))
open tyLowerValid Go.ChangeShapes Go.WideShapes Go.ChangeAt Go.RowKit
theorem own:ownKnob Tryz.prog.godebug=none:=aj
noncomputable def Ua:{c:SC // aC 61 (Tryz.f7.body.getD .skip)=c}:=by
 refine⟨?_,?_⟩;rotate_left
 .simp only[Tryz.f7,bI,aC,zll,zle,zlp,zln,Nat.blt,Nat.ble];rfl
noncomputable def Ub:En:=⟨30,false,fun M=>vh knLEx.list 30 M⟩
theorem zxt(ρ:Nat->Int):zl0 Tryz.prog ρ Ub:=fun M r hr=>B6 (knLEx.ok ρ) _ M r hr
noncomputable def Uc:En:=⟨32,true,b7 (fun p=>p.sz<2^36) fc fun p=>.int .i64 (zmw p)⟩
theorem zxu(ρ:Nat->Int):zl0 Tryz.prog ρ Uc:=zl7 fun p hp=>zty ρ p hp
noncomputable def tM:List En:=[uF,DW,DX,nW A5,nW EU,nW JB,nW Uc,Sw,Ub]
theorem zB7(ρ:Nat->Int):fK Tryz.prog ρ tM:=⟨DV ρ,ztF ρ,zwk ρ,xw (Tn ρ),xw (ztZ ρ),xw (zBT ρ),xw (zxu ρ),zBQ ρ,zxt ρ,trivial⟩
theorem Ud:MutL tM where
 pick:=fun _=>rfl
 word:=fun _=>rfl
 nms:=fun _=>rfl
 pl:=fun f K=>by rcases zpm K with rfl|rfl|rfl|rfl|rfl<;>exact⟨fun _=>rfl,rfl⟩
 me:=fun _=>rfl
 mei:=rfl
 ms:=fun _=>rfl
 msi:=rfl
 plm:=⟨fun _=>rfl,rfl⟩
theorem EZ(H:Hp):zk5 Tryz.prog (zkY pls tM) 30 [] H fun v H'=>v=.bool true/\H'=H:=G5 rfl
theorem zkN{S:Nat->Prop}{n:Nat}{H:Hp}{cs:List AV}{p:Pr}(Z:n<59)(z:zlJ S n H cs p.cells)(J:p.sz<2^36):
 zk5 Tryz.prog (zkY pls tM) 32 [.agg cs] H fun v H'=>v=.int .i64 (zmw p)/\Icy S H H':=by
 obtain⟨us,m,j⟩:=z;refine xG (x:=p) (enc:=fc) (ok:=fun p=>p.sz<2^36) (out:=fun p=>.int .i64 (zmw p)) (us:=[.agg us]) (n:=n+1) pd (fun M=>rfl) rfl JA J ac ⟨⟨us,m,rfl⟩,trivial⟩ ?_;show [AV.agg (us.map (bX 59))]=_;rw[j 59 ac];rfl
theorem kIv(u:Un)(J:UnOk u)(H:Hp):zk5 Tryz.prog (zkY pls tM) 23 [.agg u.cells] H fun v H'=>v=.bool (px u)/\H'=H:=zlM (enc:=fun u:Un=>[.agg u.cells]) (ok:=UnOk) (out:=fun u=>.bool (px u)) (fun x y h=>Un.inj j8) (x:=u) rfl J
theorem zrr{p:Pr}(h:LwOk p):((ij p).2≠0/\((ij p).2=6\/zmw p=(ij p).2)/\(ij p).1=⟨[],[]⟩)\/((ij p).2=0/\px (ij p).1=true/\(ij p).1.arrays=p.arrays/\(ij p).1.funcs.length=p.funcs.length/\UnOk (ij p).1):=by
 by_cases hc:zmw p=0
 .rcases h.valid hc with⟨a,b⟩|j
  .exact .inl ⟨ac,.inl a,b⟩
  .exact .inr j
 .rw[zwV hc];exact .inl ⟨hc,.inr rfl,rfl⟩
set_option maxRecDepth 100000 in
theorem law(l:List Int)(j a:Int)(hl:l.length<2^63)(hL:js l):zk5 Tryz.prog (zkY pls tM) 7 [.lst (l.map fun n=>[AV.int .i64 n]),.int .i64 j,.int .i64 a] zlv fun v _=>v=.bool true:=by
 have hw:Plain (zkY pls tM) 7:=zml (fun _=>rfl) rfl;have hkeep:(zkY pls tM).keep 7=false:=rfl;refine zlf (M:=61) (rs:=[.tmp 6]) (hw.call _) hw.ice hw.froz Tryz.func7 rfl rfl Ua.2 rfl ?_;dsimp only[Ua,zD,Nat.reduceAdd];repeat' (first
  |(apply ah ?_;clear hK K)|apply Rx.o ?_|apply ak ?_|(apply zkU fun K hK=>?_)|fail)
 refine aZ rfl bc bi ?_;simp only[bj];refine aS ?_ (zlA Ud (zjj Ud.toGenL) l hl hL j a zlv);rintro _ V ⟨va,vb,p,R,P,rfl,J,hn,_⟩;obtain⟨o1,o2⟩:=J.one;have hsz:=J.good.sz;dsimp only[zk6];repeat' (first
  |(apply ah ?_;clear hK K)|apply Rx.o ?_|apply bS ?_|apply ak ?_|(apply zkU fun K hK=>?_)|fail)
 refine aZ rfl bc bi ?_;simp only[bj];generalize U:Hp.set (Hp.alloc V _) V.next _=H1
 have zlQ:H1.next=V.next+1:=by rw[<-U];rfl
 have g1:H1.get V.next=some (.cells [va,vb] 0 true):=by rw[<-U,aJ,am rfl]
 have k1:∀q,q<V.next->H1.get q=V.get q:=fun q h=>by rw[<-U,aJ,af ac,zmI h]
 clear U;have m:zlJ (fun q=>q<V.next) 51 H1 [va,vb] p.cells:=J.rd.keep2 (fun q _ h=>h.2.2) ac fun q _ h=>k1 q h;have hlenF:∀H,zlS Tryz.prog H 47 vb=some (.int .i64 p.funcs.length):=fun H=>by have:=J.fns.len (P:=Tryz.prog) (H':=H) Tryz.underlying47;rw[cp]at this;exact this
 have hlenA:∀H,zlS Tryz.prog H 24 va=some (.int .i64 p.arrays.length):=fun H=>by have:=J.ars.len (P:=Tryz.prog) (H':=H) Tryz.underlying24;rw[cp]at this;exact this
 have hlw:LwOk p:=⟨J.good.sz,fun _=>J.good.rg⟩;refine aS ?_ (lwX (fun _=>rfl) rfl (n:=51) ac m hlw);rintro _ I ⟨rfl,C⟩;have g2:=(C.out V.next ac).trans g1;have O:=zrr hlw;generalize ij p=r at *;obtain⟨u,e⟩:=r;have huc:u.cells=[.lst (u.arrays.map Ar.cells),.lst (u.funcs.map Gr.cells)]:=rfl;dsimp only[zk6];simp only[huc];repeat' (first
  |(apply ah ?_;clear hK K)|apply Rx.o ?_|apply bS ?_|(apply a0 (fun hb hbp=>?_) (fun hb hbp=>?_)<;>try(cases hb;done))|apply ak ?_|(apply zkU fun K hK=>?_)|apply zk3 ?_|fail)
 all_goals
  generalize o:Hp.set (Hp.alloc I _) I.next _=H3
  have n2:=C.next
  have n3:H3.next=I.next+1:=by rw[<-o];rfl
  have g3:H3.get I.next=some (.cells [.lst (u.arrays.map Ar.cells),.lst (u.funcs.map Gr.cells)] 0 true):=by rw[<-o,aJ,am rfl]
  have k3:∀q,q<I.next->H3.get q=I.get q:=fun q h=>by rw[<-o,aJ,af ac,zmI h]
  have g7:=(k3 V.next ac).trans g2;clear o
 .repeat' (first
   |apply Rx.o ?_|fail)
  refine aZ rfl bc bi ?_;simp only[bj];have hc3:zlJ (fun q=>q<V.next) 51 H3 [va,vb] p.cells:=m.frame (fun _ h=>h) ac fun q h1 h2=>by rw[k3 q ac];exact C.same q
  refine aS ?_ (zkN (n:=51) ac hc3 ac);rintro _ H4 ⟨rfl,hI2⟩;have g8:=(hI2.out I.next ac).trans g3;obtain⟨he,hor,hu⟩:e≠0/\(e=6\/zmw p=e)/\u=⟨[],[]⟩:=by
   rcases O with h|h
   .exact h
   .have h0:e=0:=h.1;simp[h0]at hb
  generalize zmw p=rc at *;have g8':H4.get I.next=some (.cells [.lst [],.lst []] 0 true):=by rw[g8,hu];rfl
  have hl8:iN Tryz.prog H4 25 (.ptr I.next 1)=some (.lst []):=by rw[ub Tryz.underlying25 rfl g8'];rfl
  clear O g8 g3 k3 hu zlQ n2 n3;dsimp only[zk6];by_cases h6:e=6
  .by_cases hc:rc=e
   .repeat' (first
     |(apply ah ?_;clear hK K)|apply Ry.o ?_|(apply d7 ?_;first|refine zlc (EZ _) ?_)|(apply eA (fun Z Y=>?_) (fun Z Y=>?_)<;>try(cases Z;done))|apply aF ?_)
    all_goals (refine⟨eI,_,eR,?_⟩;try simp only[zkX])
   .have hc6:¬rc=6:=by omega
    repeat' (first
     |(apply ah ?_;clear hK K)|apply Ry.o ?_|(apply d7 ?_;first|refine zlc (EZ _) ?_)|(apply eA (fun Z Y=>?_) (fun Z Y=>?_)<;>try(cases Z;done))|apply aF ?_)
    all_goals (refine⟨eI,_,eR,?_⟩;try simp only[zkX])
  .have hc:rc=e:=hor.resolve_left h6;repeat' (first
    |(apply ah ?_;clear hK K)|apply Ry.o ?_|(apply d7 ?_;first|refine zlc (EZ _) ?_)|(apply eA (fun Z Y=>?_) (fun Z Y=>?_)<;>try(cases Z;done))|apply aF ?_)
   all_goals (refine⟨eI,_,eR,?_⟩;try simp only[zkX])
 .obtain⟨he,hv,z,hfn,hok⟩:e=0/\px u=true/\u.arrays=p.arrays/\u.funcs.length=p.funcs.length/\UnOk u:=by
   rcases O with h|h
   .have h0:e≠0:=h.1;simp[h0]at hb
   .exact h
  have kv:∀H,zk5 Tryz.prog (zkY pls tM) 23 [.agg [.lst (u.arrays.map Ar.cells),.lst (u.funcs.map Gr.cells)]] H fun v H'=>v=.bool true/\H'=H:=fun H=>by rw[<-hv];exact kIv u hok H
  have har':u.arrays.length=p.arrays.length:=by rw[z]
  clear O z zlQ n2 n3;repeat' (first
   |(apply ah ?_;clear hK K)|fail)
  refine aZ rfl bc bi ?_;simp only[bj];refine aS ?_ (kv _);rintro _ H4 ⟨rfl,rfl⟩;dsimp only[zk6];repeat' (first
   |(apply ah ?_;clear hK K)|apply Ry.o ?_|(apply d7 ?_;first|refine zlc (EZ _) ?_)|(apply eA (fun Z Y=>?_) (fun Z Y=>?_)<;>try(cases Z;done))|apply aF ?_)
  all_goals (refine⟨eI,_,eR,?_⟩;try simp only[zkX])
theorem con(l:List Int)(a b:Int)(M:l.length<2^63)(V:js l):bM Tryz.prog (fun _=>0) 7 [J4 l,.int .i64 a,.int .i64 b] (.bool true):=
 zmy fit (pls:=pls) (zB7 _) (.cons (znH l) (.cons (.int _ _) (.cons (.int _ _) .nil))) (.bool _) (law l a b M V)
set_option maxRecDepth 100000 in
theorem zkR{H:Type}{enc:TypeId×Value->H}(W:World)(J:Value){r:Reach}{Y:Nat}(k0:Value.okWide Tryz.prog W r Y 23 J){d:DataW H}{ps:List MemPlace}{z:Nat->Bool}{K:Bool}(U:DataW.Trod enc Tryz.prog W 0 z K 23 J d ps)(Z V:Int):
 Calls Tryz.prog 7 #[J,.int .i64 Z,.int .i64 V] W fun e O=>e=.returned (.bool true)/\Below W.heap.size W O:=by
 obtain⟨l,M,I,hr⟩:=zrq k0 U;exact K7 (ρ:=fun _=>0) (F:=Bh W) (con l Z V I hr) (zB6 W) (mV M (mV (.int .i64 Z) (mV (.int .i64 V) (qD _))))
set_option maxRecDepth 100000 in
theorem zkS(z:Os)(U:z.Started)(H:Type)(enc:TypeId×Value->H):
 ReturnsInHanded {} Tryz.checked z 7 .any (Rows.lowerValidSpec.pre6 enc Tryz.prog Tryz.f7 Rows.lowerValidRow.domain false) (Rows.lowerValidSpec.post enc Tryz.prog Tryz.f7 false true false false):=by
 refine returnsInHanded_of_change (C:=Tryz.checked) own U aj Tryz.func7
  (ChangeSpec.witness6 (enc:=enc) (C:=Tryz.checked) false ⟨#[],#[.slice none 0 0,.int .i64 0,.int .i64 0],[]⟩ 8 aj aj aj aj) ?_
 intro W I M ds gs V J hW hcnd _;have Y:∀(j:Nat) t v,Tryz.f7.params[j]?=some t->M[j]?=some v->Value.okWide Tryz.prog W .any I t v:=J;have m:=hW;obtain⟨p,q,Z,hV,rfl,hfz,hnd⟩:=hW;have hA:DataW.TrodAll enc Tryz.prog W 0 (fun _=>true) true Tryz.f7.params.toList M.toList ds p:=Z;rw[Tryz.params7]at hA Y;obtain⟨v0,vs0,d0,ds0,p0,q0,K,rfl,rfl,h0,zlE⟩:=trodAll_cons hA;obtain⟨v1,vs1,d1,ds1,p1,q1,rfl,rfl,rfl,h1,r1⟩:=trodAll_cons zlE;obtain⟨v2,vs2,d2,ds2,p2,q2,rfl,rfl,rfl,h2,r2⟩:=trodAll_cons r1;obtain⟨rfl,rfl,rfl⟩:=trodAll_nil r2;obtain rfl:M=#[v0,v1,v2]:=by cases M;simp_all
 obtain⟨rfl,rfl⟩:=trodVars_none hV;have k0:=Y 0 23 v0 rfl rfl;obtain⟨a1,rfl,rfl,rfl,zlG⟩:=open_int Tryz.underlying3 (Y 1 3 v1 rfl rfl) h1;obtain⟨a2,rfl,rfl,rfl,w2⟩:=open_int Tryz.underlying3 (Y 2 3 v2 rfl rfl) h2;clear Z J;refine(zkR W v0 k0 h0 a1 a2).mono fun e W' ⟨he,o⟩=>?_;subst he;exact⟨_,rfl,VB (pv:=[]) m (fun _ _ _=>(EY (shut_bool Tryz.underlying4 _) trodAll_mk0)) (fun sp O=>(EY (zt2 aj aj (rQ aj) h0 o (fun p hp=>m.lt p hp) (fun x hx=>by simp[hx]) O) (EY (shut_int Tryz.underlying3 zlG) (EY (shut_int Tryz.underlying3 w2) trodAll_mk0)))) (fun _ _=>rfl) ax o (ok_one aj rfl (okWide_bool_mk Tryz.underlying4 _))⟩
theorem over:Rows.lowerValidRow.holds Tryz.pinned (OpenSpec.ofChange Rows.lowerValidSpec):=
 OpenClaim.holds_of_wide 7 Tryz.f7 rfl rfl rfl rfl rfl rfl rfl ⟨rfl,rfl,rfl,rfl,rfl⟩ rfl rfl rfl rfl rfl aj Tryz.func7 aj
  (rQ aj) (by unfold Func.isWrapper;first|(rw[am (by decide +kernel)];kernel_rfl)|(rw[af (by decide +kernel)];exact⟨rfl,rfl⟩))
  (fun Z U H enc _=>zkS Z U H enc)
theorem proved:Rows.LowerValidSaid:=
 over
#print axioms proved
end Go.Proofs.YtpbcimfiofmoeaaGreat.lowerValid
