/- Parts: LoC, LoD, LoE, LoF, LoF6, LoG. -/
import Derived.Test.YtpbcimfiofmoeaaGreatMCL
set_option linter.unusedSimpArgs false
set_option linter.unusedVariables false
set_option linter.unusedSectionVars false
set_option linter.defProp false
set_option maxHeartbeats 32000000
namespace Go.Ab
set_option maxRecDepth 20000
open Go
theorem wq{P:Prop}(h:P:=by rw[<- V];rfl):P:=h
theorem P5{P:Prop}(h:P:=by rw[Hp.get_set,if_neg j];exact sb.get k Z j):P:=h
end Go.Ab
namespace Go.Proofs.YtpbcimfiofmoeaaGreat
set_option maxRecDepth 20000
open Go Go.Ab
section
def tyLoC.tyF:=ad @cJ (ad @dd (ad @kW (ad @gX (ad @gY (ad @iQ (ad @fI (ad @jw (ad @oR (@qO)))))))))
open tyLoC
noncomputable def P6:{c:SC // aC 8 (Tryz.f87.body.getD .skip)=c}:=by
 refine⟨?_,?_⟩;rotate_left
 .simp only[Tryz.f87,bI,aC,zll,zle,zlp,zln,Nat.blt,Nat.ble];rfl
noncomputable def P7:{c:SC // aC 18 (Tryz.f138.body.getD .skip)=c}:=by
 refine⟨?_,?_⟩;rotate_left
 .simp only[Tryz.f138,bI,aC,zll,zle,zlp,zln,Nat.blt,Nat.ble];rfl
noncomputable def D1:{c:SC // aC 19 (Tryz.f164.body.getD .skip)=c}:=by
 refine⟨?_,?_⟩;rotate_left
 .simp only[Tryz.f164,bI,aC,zll,zle,zlp,zln,Nat.blt,Nat.ble];rfl
noncomputable def P8:{c:SC // aC 25 (Tryz.f136.body.getD .skip)=c}:=by
 refine⟨?_,?_⟩;rotate_left
 .simp only[Tryz.f136,bI,aC,zll,zle,zlp,zln,Nat.blt,Nat.ble];rfl
def rq(X:Lx)(S:Nat->Prop)(vv:AV)(H:Hp)(r:Int×Bd)(v:AV)(H':Hp):Prop:=v=.int .i64 r.1/\∃o z,RepL X H' o r.2 z vv/\FrL X S vv H o vv H'
def pp(X:Lx)(S:Nat->Prop)(vv:AV)(H:Hp)(r:Bd)(v:AV)(H':Hp):Prop:=∃o Z z,RepL X H' o r Z z/\FrL X S vv H o z H'
def P9(X:Lx)(S:Nat->Prop)(vv:AV)(H:Hp)(r:Bd)(v:AV)(H':Hp):Prop:=∃o z,RepL X H' o r z vv/\FrL X S vv H o vv H'
theorem xQ.val{X:Lx}{S:Nat->Prop}{vv kv:AV}{H Y H':Hp}{n:Nd}{s:Bd}{v:AV}(h:xQ X S vv kv Y n s v H')(K:FrL X S vv H S vv Y)(o:∀k,zlk kv k->H.next<=k):rq X S vv H (zkW n s) v H':=by
 obtain⟨m,Z,z,j,V,U,O⟩:=h;refine⟨m,Z,z,j,dc K.next V,fun k a b c d e=>?_,fun k a=>?_,fun k a=>.inl a⟩
 .rw[U k (mB a K.next) b c d];exact K.get k a b c d e
 .rcases O k a with a|a|a
  .exact .inl a
  .exact .inr (o k a)
  .exact .inr (dc K.next a)
theorem xR{r o n z k:Nat}(h:zlk (.sl r o n z) k):k=r:=by
 obtain⟨m,e⟩:=h;simp only[AV.sl.injEq]at e;exact e.1.symm
theorem Aw{k:Nat}(h:zlk .nilS k):False:=by
 obtain⟨m,e⟩:=h;cases e
theorem qq{j:List En}(O:LowT j){X:Lx}{H Y:Hp}{S:Nat->Prop}{s:Bd}{M vv:AV}(K:RepL X Y S s M vv)(J:FrL X S vv H S vv Y)(n:Nd){r m:Nat}(I:n.kids.length=m)(z:Y.get r=some (.cells (n.kids.map (.int .i64)) 0 true))(hr:H.next<=r)(Z:r<Y.next)(hb:X.b<r)(hS:¬S r)(hv:¬zlk vv r)(U:Fin (zkW n s).2){op imm:Int}(C:n.op=op)(V:n.imm=imm):
 zk5 Tryz.prog (zkY pls j) 86 [.ptr X.b 0,.int .i64 op,.int .i64 imm,.sl r 0 m 1] Y (rq X S vv H (zkW n s)):=by
 subst I;subst C;subst V;refine aS ?_ (Av O K n (.inr ⟨r,0,rfl,z,dm _,dm _,Z⟩) (fun k o=>?_) U.r (wl (tl s.l n).length_le U.l))
 .intro v H' h;exact h.val J fun k o=>by rw[xR o];exact hr
 .rw[xR o];exact⟨hb,hS,hv⟩
theorem Ax{j:List En}(m:LowT j){X:Lx}{H Y:Hp}{S:Nat->Prop}{s:Bd}{V vv:AV}(C:RepL X Y S s V vv)(K:FrL X S vv H S vv Y)(op imm:Int)(Z:Fin (zkW ⟨op,imm,[]⟩ s).2):
 zk5 Tryz.prog (zkY pls j) 86 [.ptr X.b 0,.int .i64 op,.int .i64 imm,.nilS] Y (rq X S vv H (zkW ⟨op,imm,[]⟩ s)):=by
 refine aS ?_ (Av m C ⟨op,imm,[]⟩ (.inl ⟨rfl,rfl⟩) (fun k o=>(Aw o).elim) Z.r (wl (tl s.l _).length_le Z.l));intro v H' h;exact h.val K fun k o=>(Aw o).elim
theorem RepL.new{X:Lx}{H:Hp}{S:Nat->Prop}{s:Bd}{m vv:AV}(h:RepL X H S s m vv){r:Nat}(hr:H.next<=r):¬S r/\¬zlk vv r/\X.b<r:=⟨fun e=>by have:=(h.sS r e).2.1;omega,fun e=>by have:=(h.vS r e).2;omega,by have:=h.o5;omega⟩
theorem rq.pre{X:Lx}{S m:Nat->Prop}{vv:AV}{H zlv:Hp}{r:Int×Bd}{v:AV}{H':Hp}(h:rq X S vv H r v H')(K:FrL X m vv zlv S vv H):rq X m vv zlv r v H':=by
 obtain⟨Z,o,z,j,Y⟩:=h;exact⟨Z,o,z,j,K.trans Y⟩
theorem xS{j:List En}(m:LowT j){X:Lx}{H Y:Hp}{S:Nat->Prop}{s:Bd}{V vv:AV}(C:RepL X Y S s V vv)(U:FrL X S vv H S vv Y)(n:Int)(J:Fin (zkW ⟨1,n,[]⟩ s).2):
 zk5 Tryz.prog (zkY pls j) 87 [.ptr X.b 0,.int .i64 n] Y (rq X S vv H (zkW ⟨1,n,[]⟩ s)):=by
 have O:Plain (zkY pls j) 87:=m.plain dT;refine zlf (M:=8) (rs:=[.tmp 4]) (O.call _) O.ice O.froz Tryz.func87 rfl rfl P6.2 rfl ?_;dsimp only[P6,zD,Nat.reduceAdd];repeat' (first
  |(apply ah ?_;clear hK K)|apply Rx.o ?_|apply ak ?_|(apply zkU fun K hK=>?_)|fail)
 refine aZ rfl bc bi ?_;simp only[bj];refine aS ?_ (Ax m C U 1 n J);rintro v I Z;obtain⟨rfl,z⟩:=id Z;dsimp only[zk6];repeat' (first
  |(apply ah ?_;clear hK K)|apply Rx.o ?_|apply aF ?_)
 all_goals (refine⟨eI,_,eR,?_⟩;try simp only[zkX])
 exact Z
theorem Ay(H:Hp)(a b:Int):zmb Tryz.prog H 23 2 [(0,.int .i64 a),(1,.int .i64 b)]=some (.sl H.next 0 2 1,H.alloc (.cells [.int .i64 a,.int .i64 b] 0 true)):=aj
theorem Qa(H:Hp)(a b c:Int):zmb Tryz.prog H 23 3 [(0,.int .i64 a),(1,.int .i64 b),(2,.int .i64 c)]=some (.sl H.next 0 3 1,H.alloc (.cells [.int .i64 a,.int .i64 b,.int .i64 c] 0 true)):=aj
theorem D2(H:Hp)(a:Int):zmb Tryz.prog H 23 1 [(0,.int .i64 a)]=some (.sl H.next 0 1 1,H.alloc (.cells [.int .i64 a] 0 true)):=aj
theorem D3{j:List En}(m:LowT j){X:Lx}{H Y:Hp}{S:Nat->Prop}{s:Bd}{I vv:AV}(C:RepL X Y S s I vv)(U:FrL X S vv H S vv Y)(t v:Int)(z:Fin (pm t v s)):
 zk5 Tryz.prog (zkY pls j) 138 [.ptr X.b 0,.int .i64 t,.int .i64 v] Y (P9 X S vv H (pm t v s)):=by
 have O:Plain (zkY pls j) 138:=m.plain dT;have zlH:=C.m;unfold zlB at zlH;refine zlf (M:=18) (rs:=[]) (O.call _) O.ice O.froz Tryz.func138 rfl rfl P7.2 rfl ?_;dsimp only[P7,zD,Nat.reduceAdd];have gh0:=@Ay;repeat' (first
  |apply Rx.o ?_|(apply zkU fun K hK=>?_)|fail)
 refine aZ rfl bc bi ?_;simp only[bj];have V:=C.new (aB _);refine aS ?_ (qq m (C.alloc _) (U.alloc _) ⟨27,t,[s.state,v]⟩ rfl iT U.next (cE _) V.2.2 V.1 V.2.1 (z.le ⟨As _,aB _⟩) rfl rfl);rintro w H2 ⟨rfl,o,Z,J,F2⟩;have m2:=J.m;unfold zlB at m2;dsimp only[zk6];repeat' (first
  |(apply ah ?_;clear hK K)|apply Rx.o ?_|apply bS ?_|fail)
 all_goals (refine⟨eI,_,eR,?_⟩;try simp only[zkX])
 obtain⟨a,b⟩:=J.setS (zkW ⟨27,t,[s.state,v]⟩ s).1;exact⟨o,Z,a,F2.trans b⟩
theorem xT{Z:List En}(m:LowT Z){X:Lx}{H Y:Hp}{S:Nat->Prop}{s:Bd}{I vv:AV}(V:RepL X Y S s I vv)(U:FrL X S vv H S vv Y)(c a b:Int)(z:Fin (zlr c a b s).2):
 zk5 Tryz.prog (zkY pls Z) 164 [.ptr X.b 0,.int .i64 c,.int .i64 a,.int .i64 b] Y (rq X S vv H (zlr c a b s)):=by
 have O:Plain (zkY pls Z) 164:=m.plain dT;by_cases h:a=b
 .subst h;have e:zlr c a a s=(a,s):=by rw[zlr,am rfl]
  rw[e];refine zlf (M:=19) (rs:=[.tmp 8]) (O.call _) O.ice O.froz Tryz.func164 rfl rfl D1.2 rfl ?_;dsimp only[D1,zD,Nat.reduceAdd];repeat' (first
   |(apply ah ?_;clear hK K)|apply Ry.o ?_|(apply bb (fun C j=>?_) (fun C j=>?_)<;>try(cases C;done))|apply ak ?_|(apply zkU fun K hK=>?_)|apply aF ?_)
  all_goals (refine⟨eI,_,eR,?_⟩;try simp only[zkX])
  exact⟨rfl,S,I,V,U⟩
 .have e:zlr c a b s=zkW ⟨22,0,[c,a,b]⟩ s:=by rw[zlr,af h]
  rw[e]at z⊢;have J:=V.new (aB _);refine zlf (M:=19) (rs:=[.tmp 8]) (O.call _) O.ice O.froz Tryz.func164 rfl rfl D1.2 rfl ?_;dsimp only[D1,zD,Nat.reduceAdd];have gh0:=@Qa;repeat' (first
   |(apply ah ?_;clear hK K)|apply Ry.o ?_|(apply bb (fun C j=>?_) (fun C j=>?_)<;>try(cases C;done))|apply ak ?_|(apply zkU fun K hK=>?_)|apply zk3 ?_|fail)
  refine aZ rfl bc bi ?_;simp only[bj];refine aS ?_ (qq m (V.alloc _) (U.alloc _) ⟨22,0,[c,a,b]⟩ rfl iT U.next (cE _) J.2.2 J.1 J.2.1 z rfl rfl);intro w H2 o;obtain⟨rfl,h3⟩:=id o;dsimp only[zk6];repeat' (first
   |(apply ah ?_;clear hK K)|apply Rx.o ?_|apply aF ?_)
  all_goals (refine⟨eI,_,eR,?_⟩;try simp only[zkX])
  exact o
theorem Qb{j:List En}(m:LowT j){X:Lx}{H Y:Hp}{S:Nat->Prop}{s:Bd}{o vv:AV}(U:RepL X Y S s o vv)(hf:FrL X S vv H S vv Y)(k:Nat)(i:Int){a:Ar}(ha:X.p.arrays[k]?=some a)(J:Fin (hZ a.len i s)):
 zk5 Tryz.prog (zkY pls j) 136 [.ptr X.b 0,.int .i64 (k:Int),.int .i64 i] Y (P9 X S vv H (hZ a.len i s)):=by
 have O:Plain (zkY pls j) 136:=m.plain dT;have zlH:=U.m;unfold zlB at zlH;have z:Fin (zkW ⟨19,0,[i,(zkW ⟨1,a.len,[]⟩ s).1]⟩ (zkW ⟨1,a.len,[]⟩ s).2).2:=J.le (tp _ _ _).le;have C:Fin (zkW ⟨1,a.len,[]⟩ s).2:=z.le (zmh _ _).le;refine zlf (M:=25) (rs:=[]) (O.call _) O.ice O.froz Tryz.func136 rfl rfl P8.2 rfl ?_;dsimp only[P8,zD,Nat.reduceAdd];repeat' (first
  |apply Rx.o ?_|apply ak ?_|(apply zkU fun K hK=>?_)|fail)
 refine aZ rfl bc bi ?_;simp only[bj];refine aS ?_ (xS m U hf a.len C);rintro w H2 ⟨rfl,S2,lv2,I,F2⟩;dsimp only[zk6];have V:=I.new (aB _);have gh0:=@Ay;repeat' (first
  |(apply ah ?_;clear hK K)|apply Rx.o ?_|(apply zkU fun K hK=>?_)|fail)
 refine aZ rfl bc bi ?_;simp only[bj];refine aS ?_ (qq m (I.alloc _) ((cY _ _ _ _).alloc _) ⟨19,0,[i,(zkW ⟨1,a.len,[]⟩ s).1]⟩ rfl iT (aB _) (cE _) V.2.2 V.1 V.2.1 z rfl rfl);rintro w H3 ⟨rfl,S3,lv3,R3,F3⟩;dsimp only[zk6];repeat' (first
  |(apply ah ?_;clear hK K)|fail)
 refine aZ rfl bc bi ?_;simp only[bj];refine aS ?_ (D3 m R3 (cY _ _ _ _) 2 _ J);rintro w H4 ⟨S4,Z,R4,F4⟩;dsimp only[zk6];repeat' (first
  |(apply ah ?_;clear hK K)|fail)
 all_goals (refine⟨eI,_,eR,?_⟩;try simp only[zkX])
 exact⟨S4,Z,R4,F2.trans (F3.trans F4)⟩
end
section
def tyLoD.tyF:=ad @ec (ad @cJ (ad @dd (ad @kW (ad @gX (ad @fI (ad @en (ad @zms (ad @oR (ad @qO (ad @Ay (@D2)))))))))))
open tyLoD
noncomputable def qr:{c:SC // aC 110 (Tryz.f89.body.getD .skip)=c}:=by
 refine⟨?_,?_⟩;rotate_left
 .simp only[Tryz.f89,bI,aC,zll,zle,zlp,zln,Nat.blt,Nat.ble];rfl
noncomputable def Qc:{c:SC // aC 58 (Tryz.f137.body.getD .skip)=c}:=by
 refine⟨?_,?_⟩;rotate_left
 .simp only[Tryz.f137,bI,aC,zll,zle,zlp,zln,Nat.blt,Nat.ble];rfl
structure CxOk (X:Lx) (c:Cx):Prop where
 ar:c.arrays=X.p.arrays
 ae:∀nm,eT X.ae nm=cP (c.arrays.map (·.name)) nm
 ne:∀nm,eT X.ne nm=cP c.names nm
 fe:∀nm,0<=zl2 c.funcs nm 0->eT X.fe nm=zl2 c.funcs nm 0
theorem FrL.box{X:Lx}{Y I:Hp}{S K:Nat->Prop}{s:Bd}{m vv z:AV}(C:RepL X Y S s m vv){b:HB}(h:FrL X S vv (Y.alloc b) K z I):I.get Y.next=some b:=by
 have n:=C.new (aB _);have Z:=C.o3;have O:=C.o4;rw[h.get _ (cE _) (by have:=n.2.2;omega) (by have:=n.2.2;omega) n.1 n.2.1,zkZ,am rfl]
def gg:=@FrL.box
theorem RepL.lkN{X:Lx}{c:Cx}(J:CxOk X c){H:Hp}{S:Nat->Prop}{s:Bd}{m vv:AV}(C:RepL X H S s m vv)(nm:zly):jK Tryz.prog H 98 (.map X.rn) (.str nm) false=some (.int .i64 (cP c.names nm)):=by
 rw[<-J.ne];exact Iy (P:=Tryz.prog) Tryz.underlying98 kS D0 C.n nm
theorem RepL.lkA{X:Lx}{c:Cx}(J:CxOk X c){H:Hp}{S:Nat->Prop}{s:Bd}{m vv:AV}(C:RepL X H S s m vv)(nm:zly):jK Tryz.prog H 98 (.map X.ra) (.str nm) false=some (.int .i64 (cP (c.arrays.map (·.name)) nm)):=by
 rw[<-J.ae];exact Iy (P:=Tryz.prog) Tryz.underlying98 kS D0 C.a nm
theorem RepL.lkF{X:Lx}{c:Cx}(J:CxOk X c){H:Hp}{S:Nat->Prop}{s:Bd}{m vv:AV}(C:RepL X H S s m vv)(nm:zly)(h:0<=zl2 c.funcs nm 0):jK Tryz.prog H 98 (.map X.rf) (.str nm) false=some (.int .i64 (zl2 c.funcs nm 0)):=by
 rw[<-J.fe nm h];exact Iy (P:=Tryz.prog) Tryz.underlying98 kS D0 C.f nm
theorem RepL.atV{X:Lx}{H:Hp}{S:Nat->Prop}{s:Bd}{m vv:AV}(h:RepL X H S s m vv){i:Nat}{x:Int}(I:s.vars[i]?=some x):∃r,zlO Tryz.prog 23 vv (.int .i64 (i:Int))=some (.ptr r i)/\iN Tryz.prog H 3 (.ptr r i)=some (.int .i64 x):=by
 have C:i<s.vars.length:=by
  by_cases c:i<s.vars.length
  .exact c
  .rw[lD ac]at I;cases I
 obtain⟨r,Z,j,_⟩:=h.setV C 0;refine⟨r,Z,?_⟩;rw[j,dx,I];rfl
set_option maxRecDepth 100000 in
theorem rZ{tb:List En}(m:LowT tb){X:Lx}{c:Cx}(hX:CxOk X c):∀(n:Nat) (x:Ex) (s:Bd) (r:Int×Bd),fu c n x s=some r->Fin r.2->∀{H H1:Hp}{S:Nat->Prop}{lv vv:AV},RepL X H1 S s lv vv->FrL X S vv H S vv H1 ->
 zk5 Tryz.prog (zkY pls tb) 89 [.ptr X.b 0,.agg x.cells] H1 (rq X S vv H r)
 |0,x,s,r,h,_,_,_,_,_,_,_,_=>by simp[fu]at h
 |n+1,x,s,r,h,hF,H,H1,S,lv,vv,hR,hf=>by
  have IH:=rZ m hX n;have O:Plain (zkY pls tb) 89:=m.plain dT;have hwc:Plain (zkY pls tb) 137:=m.plain dT;have I:=hR.alloc (.cells x.cells 0 true);have F1:=hf.alloc (.cells x.cells 0 true);have zlH:=I.m;unfold zlB at zlH;have nw:=hR.new (aB _);unfold fu at h;by_cases h1:x.kind=1
  .rw[am h1,aL]at h;subst h;refine zlf (M:=110) (rs:=[.tmp 4]) (O.call _) O.ice O.froz Tryz.func89 rfl rfl qr.2 rfl ?_;dsimp only[qr,zD,Nat.reduceAdd];repeat' (first
    |(apply ah ?_;clear hK K)|apply Ry.o ?_|(apply bb (fun C j=>?_) (fun C j=>?_)<;>try(cases C;done))|apply ak ?_|(apply zkU fun K hK=>?_)|apply aG ?_|fail)
   refine aZ rfl bc bi ?_;simp only[bj];refine aS ?_ (xS m I F1 x.n hF);intro w H2 h2;obtain⟨rfl,h3⟩:=id h2;dsimp only[zk6];repeat' (first
    |(apply ah ?_;clear hK K)|apply Rx.o ?_|apply aF ?_)
   all_goals (refine⟨eI,_,eR,?_⟩;try simp only[zkX])
   exact h2
  rw[af h1]at h;by_cases h2:x.kind=2
  .rw[am h2]at h;obtain⟨v,hv,rfl⟩:=sA.1 h;have hlk:=I.lkN hX x.name;obtain⟨q,hix,hld⟩:=I.atV hv;refine zlf (M:=110) (rs:=[.tmp 4]) (O.call _) O.ice O.froz Tryz.func89 rfl rfl qr.2 rfl ?_;dsimp only[qr,zD,Nat.reduceAdd];repeat' (first
    |(apply ah ?_;clear hK K)|apply Ry.o ?_|(apply bb (fun C j=>?_) (fun C j=>?_)<;>try(cases C;done))|apply ak ?_|(apply zkU fun K hK=>?_)|(apply zmm 5 [(3,14),(7,14),(9,14),(10,14),(12,14)] fun K hK=>?_)|(apply zlC ?_;try intro _)|(apply zmk ?_ ?_<;>clear hK K)|apply bZ ?_|apply aG ?_|apply aF ?_)
   all_goals first
    |exact zlU
    |skip
   all_goals (refine⟨eI,_,eR,?_⟩;try simp only[zkX])
   exact⟨rfl,S,lv,I,F1⟩
  rw[af h2]at h;by_cases h3:x.kind=3
  .rw[am h3]at h;simp only[kL]at h;obtain⟨k,hk,Z,he,a,ha,rfl⟩:=h;have ha':X.p.arrays[cP (c.arrays.map (·.name)) x.name]?=some a:=by rw[<-hX.ar];exact ha
   have hFc:Fin (hZ a.len Z.1 Z.2):=hF.le (zmh _ _).le;have hlk1:=I.lkA hX x.name;refine zlf (M:=110) (rs:=[.tmp 4]) (O.call _) O.ice O.froz Tryz.func89 rfl rfl qr.2 rfl ?_;dsimp only[qr,zD,Nat.reduceAdd];repeat' (first
    |(apply ah ?_;clear hK K)|apply Ry.o ?_|(apply bb (fun C j=>?_) (fun C j=>?_)<;>try(cases C;done))|apply ak ?_|(apply zkU fun K hK=>?_)|(apply zmm 7 [(2,5),(4,5),(9,5),(9,15),(11,5),(11,15),(12,5),(12,15)] fun K hK=>?_)|(apply zlC ?_;try intro _)|apply bZ ?_|apply aG ?_|fail)
   refine aZ rfl bc bi ?_;simp only[iw];refine aS ?_ (IH k s Z he (hFc.le (tq _ _ _).le) I (cY _ _ _ _));rintro v H2 ⟨rfl,S2,lv2,R2,V⟩;have g2:=gg hR V;have m2:=R2.m;unfold zlB at m2;have hlk:=R2.lkA hX x.name;have n2:H1.next+1<=H2.next:=V.next
   dsimp only[zk6];repeat' (first
    |apply Rx.o ?_|apply ak ?_|(apply zkU fun K hK=>?_)|(apply zlC ?_;try intro _)|(apply zmk ?_ ?_<;>clear hK K)|apply bZ ?_|fail)
   .exact zlU
   .refine aZ rfl bc bi ?_;simp only[bj];refine aS ?_ (Qb m R2 (cY _ _ _ _) (cP (c.arrays.map (·.name)) x.name) Z.1 ha' hFc);rintro w H3 ⟨S3,lv3,R3,F3⟩;have m3:=R3.m;unfold zlB at m3;have U:=R3.new (aB _);dsimp only[zk6];repeat' (first
     |(apply ah ?_;clear hK K)|apply Rx.o ?_|apply ak ?_|(apply zkU fun K hK=>?_)|fail)
    refine aZ rfl bc bi ?_;simp only[bj];refine aS ?_ (qq m (R3.alloc _) ((cY _ _ _ _).alloc _) ⟨23,cP (c.arrays.map (·.name)) x.name,[(hZ a.len Z.1 Z.2).state,Z.1]⟩ rfl iT (aB _) (cE _) U.2.2 U.1 U.2.1 hF rfl rfl);intro w H4 h4;have h5:=h4.pre (F1.trans (V.trans F3));obtain⟨rfl,h6⟩:=h4;dsimp only[zk6];repeat' (first
     |(apply ah ?_;clear hK K)|apply Rx.o ?_|apply aF ?_)
    all_goals (refine⟨eI,_,eR,?_⟩;try simp only[zkX])
    exact h5
  rw[af h3]at h;by_cases h5:x.kind=5
  .rw[am h5]at h;simp only[kL]at h;obtain⟨k0,hk0,zlE,e0,k1,hk1,Z,e1,k2,hk2,Y,e2,rfl⟩:=h;have hFt:Fin (zlr zlE.1 Z.2.state (zlr zlE.1 Z.1 Y.1 Y.2).2.state (zlr zlE.1 Z.1 Y.1 Y.2).2).2:=hF.le ⟨As _,aB _⟩;have hFv:Fin (zlr zlE.1 Z.1 Y.1 Y.2).2:=hFt.le (zm0 _ _ _ _).le;have hF2:Fin Y.2:=hFv.le (zm0 _ _ _ _).le;have hF1:Fin Z.2:=(hF2.le (zmp c n _ _ _ e2).le).le ⟨As _,aB _⟩;have hF0:Fin zlE.2:=hF1.le (zmp c n _ _ _ e1).le;refine zlf (M:=110) (rs:=[.tmp 4]) (O.call _) O.ice O.froz Tryz.func89 rfl rfl qr.2 rfl ?_;dsimp only[qr,zD,Nat.reduceAdd];repeat' (first
    |(apply ah ?_;clear hK K)|apply Ry.o ?_|(apply bb (fun C j=>?_) (fun C j=>?_)<;>try(cases C;done))|apply ak ?_|(apply zkU fun K hK=>?_)|apply aG ?_|fail)
   refine aZ rfl bc bi ?_;simp only[bj];have R1c:=I.alloc (.cells x.cells 0 true);have F1c:=F1.alloc (.cells x.cells 0 true);have main:zk5 Tryz.prog (zkY pls tb) 137 [.ptr X.b 0,.agg x.cells] (H1.alloc (.cells x.cells 0 true)) (rq X S vv H ((zlr zlE.1 Z.1 Y.1 Y.2).1,{ (zlr zlE.1 Z.2.state (zlr zlE.1 Z.1 Y.1 Y.2).2.state (zlr zlE.1 Z.1 Y.1 Y.2).2).2 with state:=(zlr zlE.1 Z.2.state (zlr zlE.1 Z.1 Y.1 Y.2).2.state (zlr zlE.1 Z.1 Y.1 Y.2).2).1})):=by
    clear zlH nw;refine zlf (M:=58) (rs:=[.tmp 4]) (hwc.call _) hwc.ice hwc.froz Tryz.func137 rfl rfl Qc.2 rfl ?_;dsimp only[Qc,zD,Nat.reduceAdd];repeat' (first
     |(apply ah ?_;clear hK K)|apply Ry.o ?_|apply ak ?_|(apply zkU fun K hK=>?_)|fail)
    refine aZ rfl bc bi ?_;simp only[bj];refine aS ?_ (IH k0 s zlE e0 hF0 R1c (cY _ _ _ _));rintro v H2 ⟨rfl,S2,lv2,R2,V⟩;have g2:=gg I V;simp only[zk9]at g2;have m2:=R2.m;unfold zlB at m2;dsimp only[zk6];repeat' (first
     |(apply ah ?_;clear hK K)|apply Ry.o ?_|apply ak ?_|(apply zkU fun K hK=>?_)|fail)
    refine aZ rfl bc bi ?_;simp only[bj];refine aS ?_ (IH k1 _ Z e1 hF1 R2 (cY _ _ _ _));rintro v H3 ⟨rfl,S3,lv3,R3,F3⟩;have g3:=gg I (V.trans F3);have m3:=R3.m;obtain⟨R3s,F3s⟩:=R3.setS zlE.2.state;have g3s:=gg I (V.trans (F3.trans F3s));simp only[zk9]at g3 g3s;unfold zlB at m3;dsimp only[zlB]at R3s F3s g3s;dsimp only[zk6];repeat' (first
     |(apply ah ?_;clear hK K)|apply Ry.o ?_|apply dG ?_|apply ak ?_|(apply zkU fun K hK=>?_)|fail)
    refine aZ rfl bc bi ?_;simp only[bj];refine aS ?_ (IH k2 _ Y e2 hF2 R3s (cY _ _ _ _));rintro v H4 ⟨rfl,S4,lv4,R4,F4⟩;dsimp only[zk6];repeat' (first
     |(apply ah ?_;clear hK K)|apply Rx.o ?_|apply ak ?_|(apply zkU fun K hK=>?_)|fail)
    refine aZ rfl bc bi ?_;simp only[bj];refine aS ?_ (xT m R4 (cY _ _ _ _) zlE.1 Z.1 Y.1 hFv);rintro v H5 ⟨rfl,S5,lv5,R5,F5⟩;have m5:=R5.m;unfold zlB at m5;dsimp only[zk6];repeat' (first
     |(apply ah ?_;clear hK K)|apply Rx.o ?_|apply ak ?_|(apply zkU fun K hK=>?_)|fail)
    refine aZ rfl bc bi ?_;simp only[bj];refine aS ?_ (xT m R5 (cY _ _ _ _) zlE.1 Z.2.state _ hFt);rintro v H6 ⟨rfl,S6,lv6,R6,F6⟩;have m6:=R6.m;unfold zlB at m6;dsimp only[zk6];repeat' (first
     |(apply ah ?_;clear hK K)|apply Rx.o ?_|apply bS ?_|apply ak ?_|(apply zkU fun K hK=>?_)|apply aF ?_)
    all_goals (refine⟨eI,_,eR,?_⟩;try simp only[zkX])
    obtain⟨R7,F7⟩:=R6.setS (zlr zlE.1 Z.2.state (zlr zlE.1 Z.1 Y.1 Y.2).2.state (zlr zlE.1 Z.1 Y.1 Y.2).2).1;exact⟨rfl,S6,lv6,R7,F1c.trans (V.trans (F3.trans (F3s.trans (F4.trans (F5.trans (F6.trans F7))))))⟩
   refine aS ?_ main;intro w H2 h2;obtain⟨rfl,h3⟩:=id h2;dsimp only[zk6];repeat' (first
    |(apply ah ?_;clear hK K)|apply Rx.o ?_|apply aF ?_)
   all_goals (refine⟨eI,_,eR,?_⟩;try simp only[zkX])
   exact h2
  rw[af h5]at h;simp only[jl]at h;obtain⟨k0,hk0,zlE,e0,h⟩:=h;by_cases hz:x.kids.length=1
  .rw[am hz,aL]at h;subst h;have hF0:Fin zlE.2:=hF.le (zmh _ _).le;have hz':((x.kids.length:Nat):Int)=1:=ac;refine zlf (M:=110) (rs:=[.tmp 4]) (O.call _) O.ice O.froz Tryz.func89 rfl rfl qr.2 rfl ?_;dsimp only[qr,zD,Nat.reduceAdd];repeat' (first
    |(apply ah ?_;clear hK K)|apply Ry.o ?_|(apply bb (fun C j=>?_) (fun C j=>?_)<;>try(cases C;done))|apply ak ?_|(apply zkU fun K hK=>?_)|apply aG ?_|apply zk3 ?_|fail)
   refine aZ rfl bc bi ?_;simp only[bj];refine aS ?_ (IH k0 s zlE e0 hF0 I (cY _ _ _ _));rintro v H2 ⟨rfl,S2,lv2,R2,V⟩;have g2:=gg hR V;have nw2:=R2.new (aB _);dsimp only[zk6];repeat' (first
    |(apply ah ?_;clear hK K)|apply Ry.o ?_|(apply bb (fun C j=>?_) (fun C j=>?_)<;>try(cases C;done))|apply ak ?_|(apply zkU fun K hK=>?_)|fail)
   refine aZ rfl bc bi ?_;simp only[bj];refine aS ?_ (qq m (R2.alloc _) ((cY _ _ _ _).alloc _) ⟨x.op,0,[zlE.1]⟩ rfl iT (aB _) (cE _) nw2.2.2 nw2.1 nw2.2.1 hF rfl rfl);intro w H4 h4;have h5:=h4.pre (F1.trans V);obtain⟨rfl,h6⟩:=h4;dsimp only[zk6];repeat' (first
    |(apply ah ?_;clear hK K)|apply Rx.o ?_|apply aF ?_)
   all_goals (refine⟨eI,_,eR,?_⟩;try simp only[zkX])
   exact h5
  rw[af hz]at h;simp only[kL]at h;obtain⟨k1,hk1,Z,e1,rfl⟩:=h;have hz':¬((x.kids.length:Nat):Int)=1:=ac;have z:Fin (if x.op=7\/x.op=8 then rm Z.1 Z.2 else Z.2):=hF.le (zmh _ _).le;have hF1:Fin Z.2:=by
   split at z
   .exact z.le (DM _ _).le
   .exact z
  have hF0:Fin zlE.2:=hF1.le (zmp c n _ _ _ e1).le;generalize hq:(if x.op=7\/x.op=8 then rm Z.1 Z.2 else Z.2)=q at *;refine zlf (M:=110) (rs:=[.tmp 4]) (O.call _) O.ice O.froz Tryz.func89 rfl rfl qr.2 rfl ?_;dsimp only[qr,zD,Nat.reduceAdd];repeat' (first
   |(apply ah ?_;clear hK K)|apply Ry.o ?_|(apply bb (fun C j=>?_) (fun C j=>?_)<;>try(cases C;done))|apply ak ?_|(apply zkU fun K hK=>?_)|apply aG ?_|apply zk3 ?_|fail)
  refine aZ rfl bc bi ?_;simp only[bj];refine aS ?_ (IH k0 s zlE e0 hF0 I (cY _ _ _ _));rintro v H2 ⟨rfl,S2,lv2,R2,V⟩;have g2:=gg hR V;dsimp only[zk6];repeat' (first
   |(apply ah ?_;clear hK K)|apply Ry.o ?_|(apply bb (fun C j=>?_) (fun C j=>?_)<;>try(cases C;done))|apply ak ?_|(apply zkU fun K hK=>?_)|apply zk3 ?_|fail)
  refine aZ rfl bc bi ?_;simp only[bj];refine aS ?_ (IH k1 _ Z e1 hF1 R2 (cY _ _ _ _));rintro v H3 ⟨rfl,S3,lv3,R3,F3⟩;have g3:=gg hR (V.trans F3);have F123:=F1.trans (V.trans F3);dsimp only[zk6];by_cases hd:x.op=7\/x.op=8
  .rw[am hd]at hq;subst hq;have hFq:Fin (zkW ⟨16,0,[Z.1,(zkW ⟨1,0,[]⟩ Z.2).1]⟩ (zkW ⟨1,0,[]⟩ Z.2).2).2:=z.le (tp _ _ _).le;have hFz:Fin (zkW ⟨1,0,[]⟩ Z.2).2:=hFq.le (zmh _ _).le;rcases hd with h7|h8
   .repeat' (first
     |(apply ah ?_;clear hK K)|apply Ry.o ?_|(apply eA (fun hg hgp=>?_) (fun hg hgp=>?_)<;>try(cases hg;done))|(apply bb (fun C j=>?_) (fun C j=>?_)<;>try(cases C;done))|apply ak ?_|(apply zkU fun K hK=>?_)|fail)
    refine aZ rfl bc bi ?_;simp only[bj];refine aS ?_ (xS m R3 (cY _ _ _ _) 0 hFz);rintro v H4 ⟨rfl,S4,lv4,R4,F4⟩;have J:=R4.new (aB _);dsimp only[zk6];repeat' (first
     |apply Rx.o ?_|fail)
    refine aZ rfl bc bi ?_;simp only[bj];refine aS ?_ (qq m (R4.alloc _) ((cY _ _ _ _).alloc _) ⟨16,0,[Z.1,(zkW ⟨1,0,[]⟩ Z.2).1]⟩ rfl iT (aB _) (cE _) J.2.2 J.1 J.2.1 hFq rfl rfl);rintro v H5 ⟨rfl,S5,lv5,R5,F5⟩;dsimp only[zk6];repeat' (first
     |(apply ah ?_;clear hK K)|fail)
    refine aZ rfl bc bi ?_;simp only[bj];refine aS ?_ (D3 m R5 (cY _ _ _ _) 1 _ z);rintro v H6 ⟨S6,lv6,R6,F6⟩;have F36:=F4.trans (F5.trans F6);have g6:=gg hR (V.trans (F3.trans F36));have o:=R6.new (aB _);have R6':RepL X H6 S6 (rm Z.1 Z.2) lv6 vv:=R6;dsimp only[zk6];repeat' (first
     |(apply ah ?_;clear hK K)|apply Rx.o ?_|apply ak ?_|(apply zkU fun K hK=>?_)|fail)
    refine aZ rfl bc bi ?_;simp only[bj];refine aS ?_ (qq m (R6'.alloc _) ((cY _ _ _ _).alloc _) ⟨x.op,0,[zlE.1,Z.1]⟩ rfl iT (aB _) (cE _) o.2.2 o.1 o.2.1 hF h7 rfl);intro w H7 h7q;have h5q:=h7q.pre (F123.trans F36);obtain⟨rfl,h6q⟩:=h7q;dsimp only[zk6];repeat' (first
     |(apply ah ?_;clear hK K)|apply Rx.o ?_|apply aF ?_)
    all_goals (refine⟨eI,_,eR,?_⟩;try simp only[zkX])
    rw[h7]at h5q⊢;exact h5q
   .have h7:¬x.op=7:=by omega
    repeat' (first
     |(apply ah ?_;clear hK K)|apply Ry.o ?_|(apply eA (fun hg hgp=>?_) (fun hg hgp=>?_)<;>try(cases hg;done))|(apply bb (fun C j=>?_) (fun C j=>?_)<;>try(cases C;done))|apply ak ?_|(apply zkU fun K hK=>?_)|fail)
    refine aZ rfl bc bi ?_;simp only[bj];refine aS ?_ (xS m R3 (cY _ _ _ _) 0 hFz);rintro v H4 ⟨rfl,S4,lv4,R4,F4⟩;have J:=R4.new (aB _);dsimp only[zk6];repeat' (first
     |apply Rx.o ?_|fail)
    refine aZ rfl bc bi ?_;simp only[bj];refine aS ?_ (qq m (R4.alloc _) ((cY _ _ _ _).alloc _) ⟨16,0,[Z.1,(zkW ⟨1,0,[]⟩ Z.2).1]⟩ rfl iT (aB _) (cE _) J.2.2 J.1 J.2.1 hFq rfl rfl);rintro v H5 ⟨rfl,S5,lv5,R5,F5⟩;dsimp only[zk6];repeat' (first
     |(apply ah ?_;clear hK K)|fail)
    refine aZ rfl bc bi ?_;simp only[bj];refine aS ?_ (D3 m R5 (cY _ _ _ _) 1 _ z);rintro v H6 ⟨S6,lv6,R6,F6⟩;have F36:=F4.trans (F5.trans F6);have g6:=gg hR (V.trans (F3.trans F36));have o:=R6.new (aB _);have R6':RepL X H6 S6 (rm Z.1 Z.2) lv6 vv:=R6;dsimp only[zk6];repeat' (first
     |(apply ah ?_;clear hK K)|apply Rx.o ?_|apply ak ?_|(apply zkU fun K hK=>?_)|fail)
    refine aZ rfl bc bi ?_;simp only[bj];refine aS ?_ (qq m (R6'.alloc _) ((cY _ _ _ _).alloc _) ⟨x.op,0,[zlE.1,Z.1]⟩ rfl iT (aB _) (cE _) o.2.2 o.1 o.2.1 hF h8 rfl);intro w H7 h7q;have h5q:=h7q.pre (F123.trans F36);obtain⟨rfl,h6q⟩:=h7q;dsimp only[zk6];repeat' (first
     |(apply ah ?_;clear hK K)|apply Rx.o ?_|apply aF ?_)
    all_goals (refine⟨eI,_,eR,?_⟩;try simp only[zkX])
    rw[h8]at h5q⊢;exact h5q
  .rw[af hd]at hq;subst hq;have h7:¬x.op=7:=fun e=>hd (.inl e);have h8:¬x.op=8:=fun e=>hd (.inr e);have U:=R3.new (aB _);repeat' (first
    |(apply ah ?_;clear hK K)|apply Ry.o ?_|(apply eA (fun hg hgp=>?_) (fun hg hgp=>?_)<;>try(cases hg;done))|(apply bb (fun C j=>?_) (fun C j=>?_)<;>try(cases C;done))|apply ak ?_|(apply zkU fun K hK=>?_)|apply zk3 ?_|fail)
   refine aZ rfl bc bi ?_;simp only[bj];refine aS ?_ (qq m (R3.alloc _) ((cY _ _ _ _).alloc _) ⟨x.op,0,[zlE.1,Z.1]⟩ rfl iT (aB _) (cE _) U.2.2 U.1 U.2.1 hF rfl rfl);intro w H4 h4;have h5:=h4.pre F123;obtain⟨rfl,h6⟩:=h4;dsimp only[zk6];repeat' (first
    |(apply ah ?_;clear hK K)|apply Rx.o ?_|apply aF ?_)
   all_goals (refine⟨eI,_,eR,?_⟩;try simp only[zkX])
   exact h5
end
section
def tyLoE.tyF:=ad @cJ (ad @Cv (ad @dd (ad @kW (ad @gX (ad @fI (ad @em (ad @en (ad @zms (ad @LU (ad @eY (ad @oR (@qO))))))))))))
open tyLoE
noncomputable def Qd:{c:SC // aC 42 (Tryz.f185.body.getD .skip)=c}:=by
 refine⟨?_,?_⟩;rotate_left
 .simp only[Tryz.f185,bI,aC,zll,zle,zlp,zln,Nat.blt,Nat.ble];rfl
def zAU(q:Nat)(H:Hp)(b:List Bool)(v:AV)(H':Hp):Prop:=H'.get q=some (.cells (b.map .bool) 0 true)/\H.next<=H'.next/\∀k,k<H.next->k≠q->H'.get k=H.get k
structure Smq (n q:Nat) (H H':Hp):Prop where
 get:∀k,k<n->k≠q->H'.get k=H.get k
theorem xU(j:List zly):∀(n:Nat) (l:List St) (b b':List Bool),gU j n l b=some b'->b'.length=b.length
 |0,_,_,_,h=>by simp[gU]at h
 |n+1,[],b,b',h=>by cases h;rfl
 |n+1,x::l,b,b',h=>by
  unfold gU at h;simp only[]at h;split at h
  .cases h
  .simp only[jl]at h;obtain⟨C,Z,J,z,Y⟩:=h;rw[xU j n _ _ _ Y,xU j n _ _ _ z,xU j n _ _ _ Z];split<;>simp
theorem Qe{q n m:Nat}(V:m<n):zlO Tryz.prog 84 (.sl q 0 n 1) (.int .i64 (m:Int))=some (.ptr q m):=by rw[vy Tryz.underlying84 Cu V];simp
theorem zgz{H:Hp}{r m:Nat}{b:List Bool}(K:H.get r=some (.cells (b.map .bool) 0 true))(V:m<b.length)(x:Bool):lS Tryz.prog H 4 (.ptr r m) (.bool x)=some (H.set r (.cells ((b.set m x).map .bool) 0 true)):=by
 rw[zvt K (by rw[cp];exact V),qL]
set_option maxRecDepth 100000 in
theorem I2{tb:List En}(hG:LowT tb){X:Lx}{c:Cx}(hX:CxOk X c):∀(N n:Nat),n<N->∀(l:List St) (b b':List Bool),gU c.names n l b=some b'->zld l<2^40->∀{H:Hp}{S:Nat->Prop}{s:Bd}{lv vv:AV}{q:Nat},RepL X H S s lv vv->H.get q=some (.cells (b.map .bool) 0 true)->X.b<q->q<H.next->¬S q->¬zlk vv q ->
 zk5 Tryz.prog (zkY pls tb) 185 [.ptr X.b 0,.lst (l.map St.cells),.sl q 0 b.length 1] H (zAU q H b')
 |0,n,hn,_,_,_,_,_,_,_,_,_,_,_,_,_,_,_,_,_=>by omega
 |N+1,n,hn,l,b,b',h,hz,H,S,s,lv,vv,q,hR,O,hq1,hq2,hq3,hq4=>by
  have hw:Plain (zkY pls tb) 185:=hG.plain dT;have hll:=znP l;have o3:=hR.o3;have o4:=hR.o4;refine zlf (M:=42) (rs:=[]) (hw.call _) hw.ice hw.froz Tryz.func185 rfl rfl Qd.2 rfl ?_;dsimp only[Qd,zD,Nat.reduceAdd];repeat' (first
   |(apply ah ?_;clear hK K)|apply Rx.o ?_|apply ak ?_|(apply zkU fun K hK=>?_)|apply aG ?_|fail)
  refine zlL [0,2,8,9] [] 10 l.length (fun i E I=>∃m J,m<=n/\J.length=b.length/\gU c.names m (l.drop i) J=some b'/\I.get q=some (.cells (J.map .bool) 0 true)/\Smq H.next q H I) eE ⟨n,b,aB _,rfl,h,O,⟨fun _ _ _=>rfl⟩⟩ ?_;rintro i E I hi hcE hrH hnH hsI ⟨m,J,hm,hbl,z,hg2,hsm⟩;(try simp only[zlm,zlb,aR,zk1,zk7,Nat.reduceBEq, *]at hcE);(try simp only[zlb, *]at hrH);(try simp only[zk9,zli,zlI,bL,Nat.reduceAdd]at hnH);have R2:RepL X I S s lv vv:=hR.keep hnH fun k Z j=>hsm.get k Z fun e=>by
   subst e;rcases j with j|j|j
   .omega
   .exact hq3 j
   .exact hq4 j
  by_cases hlt:i<l.length
  .have hlt':(i:Int)<l.length:=by omega
   have hgx:l[i]?=some l[i]:=aT hlt;have hmem:=znL (cR hlt);have hsz:=(l[i]).sz_eq;cases m with
   |zero=>simp[gU]at z
   |succ m=>
   rw[fS hlt]at z;unfold gU at z;simp only[]at z;generalize l[i]=x at *;split at z
   .cases z
   rename_i hno;simp only[jl]at z;obtain⟨b2,j2,b3,j3,j4⟩:=z;have R3:=R2.alloc2 (.cells (List.replicate 17 (.int .i64 0)) 0 true) (.cells x.cells 0 true);repeat' (first
    |(apply ah ?_;clear hK K)|apply Ry.o ?_|apply ak ?_|(apply zkU fun K hK=>?_)|fail)
   (apply a0 (fun C Y=>?_) (fun C Y=>?_)<;>try(cases C;done));apply zk3 ?_;apply ak ?_;apply aG ?_;apply ak ?_;(apply zkU fun K hK=>?_);repeat' (first
    |(apply ah ?_;clear hK K)|apply Ry.o ?_|apply dG ?_)
   apply ak ?_;generalize V:Hp.set (I.alloc _) _ _=Hb;have Rb:RepL X Hb S s lv vv:=by rw[<-V];exact R2.alloc2 _ _
   have nb:Hb.next=I.next+1:=wq
   have gb:Hb.get q=some (.cells (J.map .bool) 0 true):=by rw[<-V,aJ,af ac,zkZ,af ac];exact hg2
   have gx:Hb.get I.next=some (.cells x.cells 0 true):=by rw[<-V,aJ,am rfl]
   have sb:Smq H.next q H Hb:=⟨fun k Z j=>by rw[<-V,aJ,af ac,zkZ,af ac];exact hsm.get k Z j⟩
   clear V R3;have mb:=Rb.m;unfold zlB at mb;have hlk:=Rb.lkN hX x.name;have o:(if x.kind=1\/x.kind=6 then J.set (cP c.names x.name) true else J).length=b.length:=by split<;>simp[hbl]
   refine HZ (fun E' H'=>E'.at 0=.ptr X.b 0/\E'.at 2=.sl q 0 b.length 1/\E'.at 7=.ptr I.next 0/\E'.at 8=.lst (l.map St.cells)/\E'.at 9=.int .i64 l.length/\E'.at 10=.int .i64 i/\H'.get q=some (.cells ((if x.kind=1\/x.kind=6 then J.set (cP c.names x.name) true else J).map .bool) 0 true)/\H'.get I.next=some (.cells x.cells 0 true)/\H'.next=I.next+1/\Smq H.next q H H') ?_ ?_
   .by_cases hk:x.kind=1\/x.kind=6
    .have hixl:cP c.names x.name<J.length:=by
      by_cases c2:cP c.names x.name<J.length
      .exact c2
      .exact absurd ⟨hk,ac⟩ hno
     have hix:=Qe (q:=q) (n:=b.length) (m:=cP c.names x.name) ac;have hst:=zgz gb hixl true;rcases hk with Z|h6
     .repeat' (first
       |(apply ah ?_;clear hK K)|apply Ry.o ?_|apply dG ?_|(apply eA (fun O U=>?_) (fun O U=>?_)<;>try(cases O;done))|(apply bb (fun C Y=>?_) (fun C Y=>?_)<;>try(cases C;done))|apply ak ?_|(apply zkU fun K hK=>?_)|(apply rK 4 fun K hK=>?_)|fail)
      all_goals first
       |exact zlU
       |skip
      exact⟨rfl,eE,eE,eE,eE,eE,eE,by rw[aJ,am rfl,am (.inl Z)],by rw[aJ,af ac];exact gx,nb,⟨fun k Z j=>P5⟩⟩
     .have Z:¬x.kind=1:=by omega
      repeat' (first
       |(apply ah ?_;clear hK K)|apply Ry.o ?_|apply dG ?_|(apply eA (fun O U=>?_) (fun O U=>?_)<;>try(cases O;done))|(apply bb (fun C Y=>?_) (fun C Y=>?_)<;>try(cases C;done))|apply ak ?_|(apply zkU fun K hK=>?_)|(apply rK 4 fun K hK=>?_)|fail)
      all_goals first
       |exact zlU
       |skip
      exact⟨rfl,eE,eE,eE,eE,eE,eE,by rw[aJ,am rfl,am (.inr h6)],by rw[aJ,af ac];exact gx,nb,⟨fun k Z j=>P5⟩⟩
    .have Z:¬x.kind=1:=fun e=>hk (.inl e);have h6:¬x.kind=6:=fun e=>hk (.inr e);rw[af hk];repeat' (first
      |(apply ah ?_;clear hK K)|apply Ry.o ?_|(apply eA (fun O U=>?_) (fun O U=>?_)<;>try(cases O;done))|(apply bb (fun C Y=>?_) (fun C Y=>?_)<;>try(cases C;done))|apply ak ?_|(apply zkU fun K hK=>?_)|apply zk3 ?_|fail)
     exact⟨rfl,eE,eE,eE,eE,eE,eE,gb,gx,nb,sb⟩
   generalize (if x.kind=1\/x.kind=6 then J.set (cP c.names x.name) true else J)=b1 at *;clear gb gx nb sb mb hlk;rintro E3 H3 ⟨k0,k2,k7,k8,k9,k10,g3,gx3,n3,s3⟩;dsimp only[lF];have R3:RepL X H3 S s lv vv:=hR.keep ac fun k Z j=>s3.get k Z fun e=>by
    subst e;rcases j with j|j|j
    .omega
    .exact hq3 j
    .exact hq4 j
   repeat' (first
    |apply Rx.o ?_|apply ak ?_|(apply zkU fun K hK=>?_)|fail)
   refine aZ rfl bc bi ?_;simp only[bj];refine aS ?_ (by rw[<-o];exact I2 hG hX N m ac x.thn b1 b2 j2 ac R3 g3 hq1 ac hq3 hq4);rintro v H4 ⟨g4,n4,s4⟩;have hbl2:=xU _ _ _ _ _ j2;have gx4:H4.get I.next=some (.cells x.cells 0 true):=by rw[s4 _ ac ac];exact gx3
   have R4:RepL X H4 S s lv vv:=R3.keep n4 fun k Z j=>s4 k Z fun e=>by
    subst e;rcases j with j|j|j
    .omega
    .exact hq3 j
    .exact hq4 j
   have s4':Smq H.next q H H4:=⟨fun k Z j=>by rw[s4 k ac j];exact s3.get k Z j⟩
   clear s4;dsimp only[zk6];repeat' (first
    |(apply ah ?_;clear hK K)|apply Rx.o ?_|(apply zkU fun K hK=>?_)|fail)
   refine aZ rfl bc bi ?_;simp only[bj];refine aS ?_ (by rw[<-o,<-hbl2];exact I2 hG hX N m ac x.els b2 b3 j3 ac R4 g4 hq1 ac hq3 hq4);rintro v H5 ⟨g5,n5,s5⟩;have hbl3:=xU _ _ _ _ _ j3;have s5':Smq H.next q H H5:=⟨fun k Z j=>by rw[s5 k ac j];exact s4'.get k Z j⟩
   clear s5;dsimp only[zk6];repeat' (first
    |(apply ah ?_;clear hK K)|apply Rx.o ?_|(apply zkU fun K hK=>?_)|fail)
   refine⟨ac,zk8,zk8,zlF,rL,?_⟩;exact⟨m,b3,ac,ac,j4,g5,s5'⟩
  .have hlt':¬(i:Int)<l.length:=by omega
   repeat' (first
    |(apply ah ?_;clear hK K)|apply Ry.o ?_|(apply bb (fun C Y=>?_) (fun C Y=>?_)<;>try(cases C;done))|apply ak ?_|(apply zkU fun K hK=>?_)|apply zlu ?_)
   all_goals (refine⟨eI,_,eR,?_⟩;try simp only[zkX])
   have hd:l.drop i=[]:=rb ac;rw[hd]at z;cases m with
   |zero=>simp[gU]at z
   |succ m=>
    cases z;exact⟨hg2,hnH,hsm.get⟩
end
section
def tyLoF.tyF:=ad @ec (ad @cJ (ad @dd (ad @kW (ad @gX (ad @fI (ad @em (ad @en (ad @zms (ad @eY (ad @oR (ad @qO (ad @Qa (@Ay)))))))))))))
open tyLoF
noncomputable def mN:{c:SC // aC 155 (Tryz.f135.body.getD .skip)=c}:=by
 refine⟨?_,?_⟩;rotate_left
 .simp only[Tryz.f135,bI,aC,zll,zle,zlp,zln,Nat.blt,Nat.ble];rfl
section
variable {tb:List En} (hG:LowT tb) {X:Lx} {c:Cx} (hX:CxOk X c) {x:St} {s:Bd} {H:Hp} {S:Nat -> Prop} {lv vv:AV}
set_option maxRecDepth 100000 in
set_option maxHeartbeats 4000000 in
include hG hX in
theorem zgA(hk:x.kind=1){n:Nat}{r:Int×Bd}(he:fu c n x.value s=some r)(hl:cP c.names x.name<r.2.vars.length)(hF:Fin r.2)(C:RepL X H S s lv vv):
 zk5 Tryz.prog (zkY pls tb) 135 [.ptr X.b 0,.agg x.cells] H (pp X S vv H {r.2 with vars:=r.2.vars.set (cP c.names x.name) r.1}):=by
 have z:Plain (zkY pls tb) 135:=hG.plain dT;have Z:=C.alloc (.cells x.cells 0 true);have F1:=(cY X S vv H).alloc (.cells x.cells 0 true);have zlH:=Z.m;unfold zlB at zlH;have hlk1:=Z.lkN hX x.name;have m:=zmp c n _ _ _ he;have hl1:cP c.names x.name<s.vars.length:=by rw[<-m.v];exact hl
 obtain⟨q,O,hld,_⟩:=Z.setV hl1 r.1;refine zlf (M:=155) (rs:=[]) (z.call _) z.ice z.froz Tryz.func135 rfl rfl mN.2 rfl ?_;dsimp only[mN,zD,Nat.reduceAdd];repeat' (first
  |(apply ah ?_;clear hK K)|apply Ry.o ?_|(apply bb (fun hb j=>?_) (fun hb j=>?_)<;>try(cases hb;done))|apply ak ?_|(apply zkU fun K hK=>?_)|(apply zmm 3 [(3,14),(3,16),(7,14),(7,16),(9,14),(9,16),(10,14),(10,16),(13,14)] fun K hK=>?_)|(apply zlC ?_;try intro _)|apply bZ ?_|apply aG ?_|fail)
 refine aZ rfl bc bi ?_;simp only[iw];refine aS ?_ (rZ hG hX n x.value s r he hF Z (cY _ _ _ _));rintro v H2 ⟨rfl,S2,Y,V,U⟩;have g2:=gg C U;have m2:=V.m;unfold zlB at m2;have hlk2:=V.lkN hX x.name;obtain⟨q',o,hld',H3,hst,hq1,hq2,J,I,F3,o3,n3⟩:=V.setV hl r.1;have hqq:q'=q:=by
  rw[O]at o;simp only[aL,AV.ptr.injEq]at o;exact o.1.symm
 subst hqq;have n2:H.next+1<=H2.next:=U.next
 have m3:=I.m;have hlk3:=I.lkN hX x.name;have g3:H3.get H.next=some (.cells x.cells 0 true):=by rw[o3 _ (by have:=C.new (aB _);intro e;subst e;exact this.2.1 J)];exact g2
 dsimp only[zlB]at m3;dsimp only[zk6];repeat' (first
  |apply Rx.o ?_|apply bS ?_|(apply zlC ?_;try intro _)|(apply zmk ?_ ?_<;>clear hK K)|apply bZ ?_|apply zmK rfl ?_|fail)
 .exact zlU
 .all_goals (refine⟨eI,_,eR,?_⟩;try simp only[zkX])
  exact⟨S2,Y,vv,I,F1.trans (U.trans F3)⟩
set_option maxRecDepth 100000 in
set_option maxHeartbeats 4000000 in
include hG hX in
theorem zgB(hk:x.kind=2){n:Nat}{i v:Int×Bd}(h1:fu c n x.at_ s=some i)(h2:fu c n x.value i.2=some v){a:Ar}(ha:c.arrays[cP (c.arrays.map (·.name)) x.name]?=some a)
 (hF:Fin (zkW ⟨28,cP (c.arrays.map (·.name)) x.name,[(hZ a.len i.1 v.2).state,i.1,v.1]⟩ (hZ a.len i.1 v.2)).2) (C:RepL X H S s lv vv) :
 zk5 Tryz.prog (zkY pls tb) 135 [.ptr X.b 0,.agg x.cells] H (pp X S vv H { (zkW ⟨28,cP (c.arrays.map (·.name)) x.name,[(hZ a.len i.1 v.2).state,i.1,v.1]⟩ (hZ a.len i.1 v.2)).2 with state:=(zkW ⟨28,cP (c.arrays.map (·.name)) x.name,[(hZ a.len i.1 v.2).state,i.1,v.1]⟩ (hZ a.len i.1 v.2)).1}):=by
 have J:Plain (zkY pls tb) 135:=hG.plain dT;have I:=C.alloc (.cells x.cells 0 true);have F1:=(cY X S vv H).alloc (.cells x.cells 0 true);have zlH:=I.m;unfold zlB at zlH;have hlk1:=I.lkA hX x.name;have m:Fin (hZ a.len i.1 v.2):=hF.le (zmh _ _).le;have Z:Fin v.2:=m.le (tq _ _ _).le;have z:Fin i.2:=Z.le (zmp c n _ _ _ h2).le;have o:X.p.arrays[cP (c.arrays.map (·.name)) x.name]?=some a:=by rw[<-hX.ar];exact ha
 refine zlf (M:=155) (rs:=[]) (J.call _) J.ice J.froz Tryz.func135 rfl rfl mN.2 rfl ?_;dsimp only[mN,zD,Nat.reduceAdd];repeat' (first
  |(apply ah ?_;clear hK K)|apply Ry.o ?_|(apply bb (fun hb j=>?_) (fun hb j=>?_)<;>try(cases hb;done))|apply ak ?_|(apply zkU fun K hK=>?_)|(apply zmm 5 [(3,8),(5,8),(6,8)] fun K hK=>?_)|(apply zlC ?_;try intro _)|(apply zmk ?_ ?_<;>clear hK K)|apply bZ ?_|apply aG ?_|fail)
 all_goals first
  |exact zlU
  |skip
 refine aZ rfl bc bi ?_;simp only[bj];refine aS ?_ (rZ hG hX n x.at_ s i h1 z I (cY _ _ _ _));rintro w H2 ⟨rfl,S2,lv2,R2,V⟩;have g2:=gg C V;dsimp only[zk6];repeat' (first
  |(apply ah ?_;clear hK K)|apply Rx.o ?_|apply ak ?_|(apply zkU fun K hK=>?_)|fail)
 refine aZ rfl bc bi ?_;simp only[bj];refine aS ?_ (rZ hG hX n x.value i.2 v h2 Z R2 (cY _ _ _ _));rintro w H3 ⟨rfl,S3,lv3,R3,F3⟩;have g3:=gg C (V.trans F3);dsimp only[zk6];repeat' (first
  |(apply ah ?_;clear hK K)|apply Rx.o ?_|apply ak ?_|(apply zkU fun K hK=>?_)|fail)
 refine aZ rfl bc bi ?_;simp only[bj];refine aS ?_ (Qb hG R3 (cY _ _ _ _) (cP (c.arrays.map (·.name)) x.name) i.1 o m);rintro w H4 ⟨S4,lv4,O,F4⟩;have m4:=O.m;unfold zlB at m4;have Y:=O.new (aB _);dsimp only[zk6];repeat' (first
  |(apply ah ?_;clear hK K)|apply Rx.o ?_|(apply zkU fun K hK=>?_)|fail)
 refine aZ rfl bc bi ?_;simp only[bj];refine aS ?_ (qq hG (O.alloc _) ((cY _ _ _ _).alloc _) ⟨28,cP (c.arrays.map (·.name)) x.name,[(hZ a.len i.1 v.2).state,i.1,v.1]⟩ rfl iT (aB _) (cE _) Y.2.2 Y.1 Y.2.1 hF rfl rfl);rintro w H5 ⟨rfl,S5,U,R5,F5⟩;have m5:=R5.m;unfold zlB at m5;dsimp only[zk6];repeat' (first
  |(apply ah ?_;clear hK K)|apply Rx.o ?_|apply bS ?_|fail)
 all_goals (refine⟨eI,_,eR,?_⟩;try simp only[zkX])
 obtain⟨R6,F6⟩:=R5.setS (zkW ⟨28,cP (c.arrays.map (·.name)) x.name,[(hZ a.len i.1 v.2).state,i.1,v.1]⟩ (hZ a.len i.1 v.2)).1;exact⟨S5,U,vv,R6,F1.trans (V.trans (F3.trans (F4.trans (F5.trans F6))))⟩
set_option maxRecDepth 100000 in
set_option maxHeartbeats 4000000 in
include hG hX in
theorem zgC(hk:x.kind=5){n:Nat}{v:Int×Bd}(h1:fu c n x.value s=some v)(J:Fin (zkW ⟨29,0,[v.2.state,v.1]⟩ v.2).2)(z:RepL X H S s lv vv):
 zk5 Tryz.prog (zkY pls tb) 135 [.ptr X.b 0,.agg x.cells] H (pp X S vv H { (zkW ⟨29,0,[v.2.state,v.1]⟩ v.2).2 with state:=(zkW ⟨29,0,[v.2.state,v.1]⟩ v.2).1}):=by
 have V:Plain (zkY pls tb) 135:=hG.plain dT;have R1:=z.alloc (.cells x.cells 0 true);have F1:=(cY X S vv H).alloc (.cells x.cells 0 true);have U:Fin v.2:=J.le (zmh _ _).le;refine zlf (M:=155) (rs:=[]) (V.call _) V.ice V.froz Tryz.func135 rfl rfl mN.2 rfl ?_;dsimp only[mN,zD,Nat.reduceAdd];repeat' (first
  |(apply ah ?_;clear hK K)|apply Ry.o ?_|(apply bb (fun C j=>?_) (fun C j=>?_)<;>try(cases C;done))|apply ak ?_|(apply zkU fun K hK=>?_)|apply aG ?_|fail)
 refine aZ rfl bc bi ?_;simp only[bj];refine aS ?_ (rZ hG hX n x.value s v h1 U R1 (cY _ _ _ _));rintro w H4 ⟨rfl,S4,o,O,m⟩;have m4:=O.m;unfold zlB at m4;have Y:=O.new (aB _);dsimp only[zk6];repeat' (first
  |(apply ah ?_;clear hK K)|apply Rx.o ?_|(apply zkU fun K hK=>?_)|fail)
 refine aZ rfl bc bi ?_;simp only[bj];refine aS ?_ (qq hG (O.alloc _) ((cY _ _ _ _).alloc _) ⟨29,0,[v.2.state,v.1]⟩ rfl iT (aB _) (cE _) Y.2.2 Y.1 Y.2.1 J rfl rfl);rintro w H5 ⟨rfl,S5,Z,I,F5⟩;have m5:=I.m;unfold zlB at m5;dsimp only[zk6];repeat' (first
  |(apply ah ?_;clear hK K)|apply Rx.o ?_|apply bS ?_|fail)
 all_goals (refine⟨eI,_,eR,?_⟩;try simp only[zkX])
 obtain⟨R6,F6⟩:=I.setS (zkW ⟨29,0,[v.2.state,v.1]⟩ v.2).1;exact⟨S5,Z,vv,R6,F1.trans (m.trans (F5.trans F6))⟩
set_option maxRecDepth 100000 in
set_option maxHeartbeats 4000000 in
include hG in
theorem zgD(hk:x.kind=7)(U:Fin (pm (bE (16+x.n)) (zkW ⟨1,0,[]⟩ s).1 (zkW ⟨1,0,[]⟩ s).2))(Z:RepL X H S s lv vv):
 zk5 Tryz.prog (zkY pls tb) 135 [.ptr X.b 0,.agg x.cells] H (pp X S vv H (pm (bE (16+x.n)) (zkW ⟨1,0,[]⟩ s).1 (zkW ⟨1,0,[]⟩ s).2)):=by
 have O:Plain (zkY pls tb) 135:=hG.plain dT;have R1:=Z.alloc (.cells x.cells 0 true);have F1:=(cY X S vv H).alloc (.cells x.cells 0 true);have V:Fin (zkW ⟨1,0,[]⟩ s).2:=U.le (tp _ _ _).le;refine zlf (M:=155) (rs:=[]) (O.call _) O.ice O.froz Tryz.func135 rfl rfl mN.2 rfl ?_;dsimp only[mN,zD,Nat.reduceAdd];repeat' (first
  |(apply ah ?_;clear hK K)|apply Ry.o ?_|(apply bb (fun J j=>?_) (fun J j=>?_)<;>try(cases J;done))|apply ak ?_|(apply zkU fun K hK=>?_)|(apply zmm 14 [(2,5),(2,6)] fun K hK=>?_)|(apply zlC ?_;try intro _)|apply bZ ?_|apply aG ?_|fail)
 refine aZ rfl bc bi ?_;simp only[iw];refine aS ?_ (xS hG R1 (cY _ _ _ _) 0 V);rintro w m ⟨rfl,S4,o,R4,C⟩;have g4:=gg Z C;have n4:H.next+1<=m.next:=C.next
 dsimp only[zk6];repeat' (first
  |(apply zlC ?_;try intro _)|apply bZ ?_|fail)
 all_goals first
  |exact zlU
  |skip
 refine aZ rfl bc bi ?_;simp only[iw];refine aS ?_ (D3 hG R4 (cY _ _ _ _) (bE (16+x.n)) (zkW ⟨1,0,[]⟩ s).1 U);rintro w z ⟨S5,Y,R5,I⟩;have g5:=gg Z (C.trans I);have n5:H.next+1<=z.next:=dc n4 I.next
 have n45:m.next<=z.next:=I.next
 dsimp only[zk6];repeat' (first
  |(apply zlC ?_;try intro _)|(apply zmk ?_ ?_<;>clear hK K)|fail)
 .exact zlU
 .all_goals (refine⟨eI,_,eR,?_⟩;try simp only[zkX])
  exact⟨S5,Y,vv,R5,F1.trans (C.trans I)⟩
set_option maxRecDepth 100000 in
set_option maxHeartbeats 4000000 in
include hG in
theorem lst0(h1:¬x.kind=1)(h2:¬x.kind=2)(z:¬x.kind=3)(V:¬x.kind=4)(U:¬x.kind=5)(I:¬x.kind=6)(o:¬x.kind=7)(Z:RepL X H S s lv vv):
 zk5 Tryz.prog (zkY pls tb) 135 [.ptr X.b 0,.agg x.cells] H (pp X S vv H s):=by
 have O:Plain (zkY pls tb) 135:=hG.plain dT;have Y:=Z.alloc (.cells x.cells 0 true);have J:=(cY X S vv H).alloc (.cells x.cells 0 true);refine zlf (M:=155) (rs:=[]) (O.call _) O.ice O.froz Tryz.func135 rfl rfl mN.2 rfl ?_;dsimp only[mN,zD,Nat.reduceAdd];repeat' (first
  |(apply ah ?_;clear hK K)|apply Ry.o ?_|(apply bb (fun C j=>?_) (fun C j=>?_)<;>try(cases C;done))|apply ak ?_|(apply zkU fun K hK=>?_)|apply aG ?_|apply zk3 ?_|fail)
 all_goals (refine⟨eI,_,eR,?_⟩;try simp only[zkX])
 exact⟨S,lv,vv,Y,J⟩
end
end
section
def tyLoF6.tyF:=ad @ec (ad @cJ (ad @dd (ad @kW (ad @gX (ad @fI (ad @em (ad @en (ad @zms (ad @eY (ad @oR (ad @qO (@D2))))))))))))
open tyLoF6
structure RowL (S:Nat->Prop) (vv:AV) (lo:Nat) (H:Hp) (av:AV) (l:List Int):Prop where
 r:gZ H av l lo
 n:∀k,zlk av k->¬S k/\¬zlk vv k
theorem RowL.fr{X:Lx}{S S':Nat->Prop}{vv z:AV}{lo:Nat}{H H':Hp}{j:AV}{l:List Int}(h:RowL S vv lo H j l)(C:X.b<lo)(I:X.rt<lo)(f:FrL X S vv H S' z H'):RowL S' z lo H' j l:=by
 refine⟨h.r.keep f.next fun k o=>?_,fun k o=>?_⟩
 .have a:=h.r.lt o;have b:=h.n k o;exact f.get k a.2 ac ac b.1 b.2
 .have a:=h.r.lt o;have b:=h.n k o;refine⟨fun e=>?_,fun e=>?_⟩
  .rcases f.sub k e with e|e
   .exact b.1 e
   .omega
  .rcases f.own k e with e|e
   .exact b.2 e
   .omega
theorem RowL.app{X:Lx}{S:Nat->Prop}{s:Bd}{m vv:AV}{lo:Nat}{H Hb:Hp}{Z:AV}{l:List Int}(h:RowL S vv lo H Z l)(C:RepL X Hb S s m vv)(K:lo<=Hb.next)(J:H.next<=Hb.next)(M:∀k,k<H.next->Hb.get k=H.get k)(x:Int){r imm:Nat}(I:Hb.get r=some (.cells [.int .i64 x] imm true))(hb:X.b<lo)(z:l.length<2^39):
 ∃o H',zmc Tryz.prog false Hb 23 23 Z (.sl r 0 1 1)=some (o,H')/\RowL S vv lo H' o (l++[x])/\RepL X H' S s m vv/\FrL X S vv Hb S vv Hb/\Hb.next<=H'.next/\(∀k,k<Hb.next->¬zlk Z k->H'.get k=Hb.get k)/\(∀k,zlk o k->zlk Z k\/Hb.next<=k)/\gC H' o (l++[x]) lo:=by
 have hr:gZ Hb Z l lo:=h.r.keep J fun k Y=>M k (h.r.lt Y).2;obtain⟨o,H',a1,V,a3,a4,U,O⟩:=Hu x hr K I z;refine⟨o,H',a1,⟨.inr V,fun k Y=>?_⟩,C.keep ac fun k h1 j=>U k h1 fun e=>?_,cY _ _ _ _,ac,U,O,V⟩
 .rcases O k Y with e|e
  .exact h.n k e
  .have:=C.new e;exact⟨this.1,this.2.1⟩
 .have b:=h.n k e;have c:=h.r.lt e;rcases j with j|j|j
  .omega
  .exact b.1 j
  .exact b.2 j
theorem I3{j:List En}(O:LowT j){X:Lx}{H Y:Hp}{S:Nat->Prop}{s:Bd}{M vv:AV}(K:RepL X Y S s M vv)(J:FrL X S vv H S vv Y)(n:Nd){r m:Nat}(I:n.kids.length=m)(z:Y.get r=some (.cells (n.kids.map (.int .i64)) 0 true))(hr:H.next<=r)(Z:r<Y.next)(hb:X.b<r)(hS:¬S r)(hv:¬zlk vv r)(U:Fin (zkW n s).2){op imm:Int}(C:n.op=op)(V:n.imm=imm):
 zk5 Tryz.prog (zkY pls j) 86 [.ptr X.b 0,.int .i64 op,.int .i64 imm,.sl r 0 m 1] Y (fun v H'=>rq X S vv H (zkW n s) v H'/\Y.next<=H'.next):=by
 subst I;subst C;subst V;refine aS ?_ (Av O K n (.inr ⟨r,0,rfl,z,dm _,dm _,Z⟩) (fun k o=>?_) U.r (wl (tl s.l n).length_le U.l))
 .intro v H' h;exact⟨h.val J fun k o=>by rw[xR o];exact hr,by obtain⟨_,_,_,_,q,_⟩:=h;exact q⟩
 .rw[xR o];exact⟨hb,hS,hv⟩
section
variable {tb:List En} (hG:LowT tb) {X:Lx} {c:Cx} (hX:CxOk X c) {x:St} {s:Bd} {H:Hp} {S:Nat -> Prop} {lv vv:AV}
set_option maxRecDepth 100000 in
set_option maxHeartbeats 4000000 in
include hG hX in
theorem zgE(o:x.kind=6){n:Nat}{j:List Int×Bd}(h1:ro c n x.args s=some j)(Y:0<=zl2 c.funcs x.to 0)(hl:cP c.names x.name<j.2.vars.length)(hz:x.sz<2^36)
 (hF:Fin (zkW ⟨24,0,[(zkW ⟨30,zl2 c.funcs x.to 0,j.2.state::j.1⟩ j.2).1]⟩ { (zkW ⟨30,zl2 c.funcs x.to 0,j.2.state::j.1⟩ j.2).2 with state:=(zkW ⟨30,zl2 c.funcs x.to 0,j.2.state::j.1⟩ j.2).1}).2) (C:RepL X H S s lv vv) :
 zk5 Tryz.prog (zkY pls tb) 135 [.ptr X.b 0,.agg x.cells] H (pp X S vv H (let r:=zkW ⟨30,zl2 c.funcs x.to 0,j.2.state::j.1⟩ j.2;let q:=zkW ⟨24,0,[r.1]⟩ {r.2 with state:=r.1};{q.2 with vars:=q.2.vars.set (cP c.names x.name) q.1})):=by
 have hw:Plain (zkY pls tb) 135:=hG.plain dT;have hkeep:(zkY pls tb).keep 135=false:=rfl;have R1:=C.alloc (.cells x.cells 0 true);have F1:=(cY X S vv H).alloc (.cells x.cells 0 true);have zlH:=R1.m;unfold zlB at zlH;have o3:=C.o3;have o4:=C.o4;have o5:=C.o5;have hal:=znJ x.args;have hsz:=x.sz_eq;simp only[];generalize hr:zkW ⟨30,zl2 c.funcs x.to 0,j.2.state::j.1⟩ j.2=r at *;have hFr:Fin r.2:=hF.le ⟨(zmh ⟨24,0,[r.1]⟩ {r.2 with state:=r.1}).le.l,(zmh ⟨24,0,[r.1]⟩ {r.2 with state:=r.1}).le.n⟩;have hFa:Fin j.2:=by rw[<-hr]at hFr;exact hFr.le (zmh _ _).le
 have happl:=(tt c n _ _ _ h1).2;refine zlf (M:=155) (rs:=[]) (hw.call _) hw.ice hw.froz Tryz.func135 rfl rfl mN.2 rfl ?_;dsimp only[mN,zD,Nat.reduceAdd];repeat' (first
  |(apply ah ?_;clear hK K)|apply Ry.o ?_|(apply bb (fun hb Z=>?_) (fun hb Z=>?_)<;>try(cases hb;done))|apply ak ?_|(apply zkU fun K hK=>?_)|apply aG ?_|fail)
 refine zlL [0,3,12,94,95] [] 96 x.args.length (fun i E I=>∃m V s2 S2 lv2 a,E.at 8=a/\ro c n (x.args.drop i) s2=some (V,j.2)/\j.1=m++V/\RepL X I S2 s2 lv2 vv/\FrL X S vv (H.alloc (.cells x.cells 0 true)) S2 vv I/\RowL S2 vv (H.next+1) I a m/\m.length=i) eE ⟨[],j.1,s,S,lv,.nilS,eE,h1,rfl,R1,cY _ _ _ _,⟨.inl ⟨rfl,rfl⟩,fun k o=>(Aw o).elim⟩,rfl⟩ ?_;rintro i E I hi hcE hrH hnH hsI ⟨m,V,s2,S2,lv2,a,k8,hJ,U,R2,F2,W2,J⟩;(try simp only[zlm,zlb,aR,zk1,zk7,Nat.reduceBEq, *]at hcE);(try simp only[zlb,zk7, *]at hrH);(try simp only[zk9,]at hnH);have n2:H.next+1<=I.next:=hnH
 by_cases hlt:i<x.args.length
 .have hlt':(i:Int)<x.args.length:=by omega
  have hgx:x.args[i]?=some x.args[i]:=aT hlt;rw[fS hlt]at hJ;unfold ro at hJ;simp only[jl,cZ]at hJ;obtain⟨e1,he1,r2,hr2,rfl,hr2'⟩:=hJ;generalize x.args[i]=y at *;have hFe:Fin e1.2:=by
   have:=(tt c n _ _ _ hr2).1.le;rw[hr2']at this;exact hFa.le this
  have gb2:=gg C F2;repeat' (first
   |(apply ah ?_;clear hK K)|apply Ry.o ?_|apply dG ?_|(apply bb (fun hb Z=>?_) (fun hb Z=>?_)<;>try(cases hb;done))|apply ak ?_|(apply zkU fun K hK=>?_)|apply aG ?_|apply zk3 ?_|fail)
  refine aZ rfl bc bi ?_;simp only[bj];have R2a:=R2.alloc2 (.cells [AV.int .i64 0,.int .i64 0,.str [],.int .i64 0,.nilS] 0 true) (.cells y.cells 0 true);have F2a:=(cY X S2 vv I).alloc2 (.cells [AV.int .i64 0,.int .i64 0,.str [],.int .i64 0,.nilS] 0 true) (.cells y.cells 0 true);refine aS ?_ (rZ hG hX n y s2 e1 he1 hFe R2a (cY _ _ _ _));rintro w H3 ⟨rfl,S3,lv3,R3,F3⟩;have F23:=F2a.trans F3;have W3:=W2.fr ac ac F23;have n3:I.next+1<=H3.next:=F3.next
  have R3a:=R3.alloc (.cells [.int .i64 e1.1] 0 true);obtain⟨v5,H5,a5,W5,R5,_,n5,q5,_,_⟩:=W3.app R3a cL (dQ _) (fun k o=>gk) e1.1 (r:=H3.next) (imm:=0) gH ac ac;have F5:FrL X S vv (H.alloc (.cells x.cells 0 true)) S3 vv H5:=by
   have F:=F2.trans F23;refine⟨by have:=F.next;simp only[zk9]at n5 this⊢;omega,fun k h1 h2 h3 h4 h5=>?_,F.sub,F.own⟩;rw[q5 k (by simp only[zk9]at h1⊢;omega) (fun e=>by have:=W3.r.lt e;simp only[zk9]at h1;omega),zkZ,af (by simp only[zk9]at h1;omega)];exact F.get k h1 h2 h3 h4 h5
  have n5':I.next<=H5.next:=zR
  dsimp only[zk6];repeat' (first
   |(apply ah ?_;clear hK K)|apply Rx.o ?_|(apply zkU fun K hK=>?_)|fail)
  refine⟨ac,zk8,zk8,zlF,Dk,?_⟩;exact⟨m++[e1.1],r2.1,e1.2,S3,lv3,v5,eE,by rw[<-hr2'];exact hr2,by rw[U];simp,R5,F5,W5,sU⟩
 .have hlt':¬(i:Int)<x.args.length:=by omega
  have hd:x.args.drop i=[]:=rb ac;rw[hd]at hJ;simp only[ro,cZ]at hJ;obtain⟨hJ1,hJ2⟩:=hJ;subst hJ2;rw[<-hJ1,bj]at U;rw[<-U]at W2 J;clear hd J;have gb2:=gg C F2;have m2:=R2.m;unfold zlB at m2;have hlF2:=R2.lkF hX x.to Y;have nw2:=R2.new (aB _);have Rb:=R2.alloc (.cells [.int .i64 j.2.state] 0 true);obtain⟨v6,H6,a6,i6,n6,l6,f6,q6⟩:=MP (H:=I.alloc (.cells [.int .i64 j.2.state] 0 true)) (v:=.sl I.next 0 1 1) (l:=[j.2.state]) (lo:=I.next) ⟨I.next,0,rfl,iT,dm _,aB _,cE _⟩ (dQ _) (W2.r.keep (dQ _) fun k o=>by rw[zkZ,af (by have:=W2.r.lt o;omega)]) (by rw[happl];simp only[mU];omega);simp only[zk9]at n6 l6 f6 q6;have hf6:∀k,k<I.next->H6.get k=I.get k:=fun k o=>by rw[l6 k o,zkZ,af ac]
  have R6:RepL X H6 S2 j.2 lv2 vv:=R2.keep ac fun k h1 _=>hf6 k h1;have F6:FrL X S2 vv I S2 vv H6:=⟨ac,fun k h1 _ _ _ _=>hf6 k h1,fun _ h=>.inl h,fun _ h=>.inl h⟩;have hown6:∀k,zlk v6 k->I.next<=k:=fun k o=>(i6.lt o).1
  have O:=Av hG R6 ⟨30,zl2 c.funcs x.to 0,j.2.state::j.1⟩ (.inr (by obtain⟨zlE,i0,z1,z2,z3,z4,z5⟩:=i6;exact⟨zlE,i0,z1,z2,z3,dm _,z5⟩)) (fun k o=>by have:=R2.new (hown6 k o);exact⟨this.2.2,this.1,this.2.1⟩) (by rw[<-hr]at hFr;exact hFr.r) hFa.l;have m6:=R6.m;unfold zlB at m6;have mb:=Rb.m;unfold zlB at mb;have hlFb:=Rb.lkF hX x.to Y;have gbb:(I.alloc (.cells [.int .i64 j.2.state] 0 true)).get H.next=some (.cells x.cells 0 true):=by rw[zkZ,af ac];exact gb2
  have hlF6:=R6.lkF hX x.to Y;repeat' (first
   |(apply ah ?_;clear hK K)|apply Ry.o ?_|(apply bb (fun hb Z=>?_) (fun hb Z=>?_)<;>try(cases hb;done))|apply ak ?_|(apply zkU fun K hK=>?_)|(apply zmm 22 [(5,15),(5,16),(7,15),(7,16),(8,15),(8,16),(12,15),(13,15)] fun K hK=>?_)|(apply zlC ?_;try intro _)|apply bZ ?_|apply zlu ?_)
  refine aZ rfl bc bi ?_;simp only[iw];refine aS ?_ O;intro w H7 h7;have h7':=h7.val F6 hown6;rw[hr]at h7';have n67:H6.next<=H7.next:=by obtain⟨_,_,_,_,h,_⟩:=h7;exact h
  clear h7 O;obtain⟨rfl,S7,lv7,R7,F7⟩:=h7';have gb6:H6.get H.next=some (.cells x.cells 0 true):=by rw[hf6 _ ac];exact gb2
  have gb7:=gg C (F2.trans F7);have m7:=R7.m;unfold zlB at m7;have hlF7:=R7.lkF hX x.to Y;have n7:I.next<=H7.next:=F7.next
  obtain⟨R8,F8⟩:=R7.setS r.1;have gb8:=gg C (F2.trans (F7.trans F8));have m8:=R8.m;have hlF8:=R8.lkF hX x.to Y;have hlN8:=R8.lkN hX x.name;have hv8:r.2.vars=j.2.vars:=by rw[<-hr];rfl
  have hl8:cP c.names x.name<r.2.vars.length:=by rw[hv8];exact hl
  clear hv8;obtain⟨q,hix,hld,_⟩:=R8.setV hl8 0;have nw8:=R8.new (aB _);have R8a:=R8.alloc (.cells [.int .i64 r.1] 0 true);have O:=I3 hG R8a ((cY _ _ _ _).alloc _) ⟨24,0,[r.1]⟩ rfl iT (aB _) (cE _) nw8.2.2 nw8.1 nw8.2.1 hF rfl rfl;have n8:(H7.set X.b (.cells (zlB X {r.2 with state:=r.1} lv7 vv) 0 true)).next=H7.next:=rfl
  dsimp only[zlB]at R8 F8 gb8 m8 hlF8 hlN8 R8a O hld n8;rw[n8]at O;dsimp only[zk6];repeat' (first
   |apply Rx.o ?_|apply bS ?_|(apply zmm 23 [(3,17),(3,19),(7,17),(7,19),(9,17),(9,19),(10,17),(10,19),(15,17),(16,17)] fun K hK=>?_)|(apply zlC ?_;try intro _)|(apply zmk ?_ ?_<;>clear hK K)|apply bZ ?_|apply zmK rfl ?_|fail)
  .exact zlU
  .refine aZ rfl bc bi ?_;simp only[iw];refine aS ?_ O;rintro w H9 ⟨⟨rfl,S9,lv9,R9,F9⟩,n9'⟩;simp only[zk9,zli]at n9';have hl9:cP c.names x.name<(zkW ⟨24,0,[r.1]⟩ {r.2 with state:=r.1}).2.vars.length:=hl8;obtain⟨q',z,hld',H10,hst,hq1,hq2,hq3,R10,F10,o10,n10⟩:=R9.setV hl9 (zkW ⟨24,0,[r.1]⟩ {r.2 with state:=r.1}).1;have hqq:q'=q:=by
    rw[hix]at z;simp only[aL,AV.ptr.injEq]at z;exact z.1.symm
   subst hqq;have m8a:=R8a.m;have m9:=R9.m;have m10:=R10.m;have hlN8a:=R8a.lkN hX x.name;have hlN9:=R9.lkN hX x.name;have hlN10:=R10.lkN hX x.name;have F89:=F2.trans (F7.trans (F8.trans F9));have gb9:=gg C F89;have gb8a:=gg C (F2.trans (F7.trans (F8.alloc (.cells [.int .i64 r.1] 0 true))));have gb10:=gg C (F89.trans F10);have n9:=F9.next
   dsimp only[zlB]at m8a m9 m10;simp only[zli]at n9;dsimp only[zk6];repeat' (first
    |apply Rx.o ?_|(apply zlC ?_;try intro _)|apply bZ ?_|apply zmK rfl ?_|fail)
   refine oN eV eV hst ?_;repeat' (first
    |(apply zlC ?_;try intro _)|(apply zmk ?_ ?_<;>clear hK K)|fail)
   .exact zlU
   .all_goals (refine⟨eI,_,eR,?_⟩;try simp only[zkX])
    exact⟨S9,lv9,vv,R10,F1.trans (F89.trans F10)⟩
end
end
section
def tyLoG.tyF:=ad @ec (ad @cJ (ad @dd (ad @kW (ad @gX (ad @fI (ad @em (ad @en (ad @zms (ad @eY (ad @oR (@qO)))))))))))
open tyLoG
noncomputable def Qf:{c:SC // aC 87 (Tryz.f162.body.getD .skip)=c}:=by
 refine⟨?_,?_⟩;rotate_left
 .simp only[Tryz.f162,bI,aC,zll,zle,zlp,zln,Nat.blt,Nat.ble];rfl
structure RowZ (S:Nat->Prop) (vv:AV) (lo:Nat) (H:Hp) (av:AV) (l:List Int):Prop where
 r:je H av l lo
 n:∀k,zlk av k->¬S k/\¬zlk vv k
theorem je.lt{H:Hp}{v:AV}{l:List Int}{lo:Nat}(h:je H v l lo){k:Nat}(o:zlk v k):lo<=k/\k<H.next:=h.n.lt o
theorem je.lo{H:Hp}{v:AV}{l:List Int}{lo lo':Nat}(h:je H v l lo)(M:∀k,zlk v k->lo'<=k):je H v l lo':=by
 rcases h with h|⟨r,m,j,z,Y⟩
 .exact .inl h
 .exact .inr ⟨r,m,j,M r ⟨_,m⟩,Y⟩
theorem je.one{H:Hp}{v:AV}{l:List Int}{lo:Nat}(h:je H v l lo):AV.one v=true/\v.cells=[v]:=by
 rcases h with⟨rfl,_⟩|⟨r,rfl,_⟩<;>exact⟨rfl,rfl⟩
theorem RowZ.fr{X:Lx}{S S':Nat->Prop}{vv z:AV}{lo:Nat}{H H':Hp}{j:AV}{l:List Int}(h:RowZ S vv lo H j l)(C:X.b<lo)(I:X.rt<lo)(f:FrL X S vv H S' z H'):RowZ S' z lo H' j l:=by
 refine⟨h.r.keep f.next fun k o=>?_,fun k o=>?_⟩
 .have a:=h.r.lt o;have b:=h.n k o;exact f.get k a.2 ac ac b.1 b.2
 .have a:=h.r.lt o;have b:=h.n k o;refine⟨fun e=>?_,fun e=>?_⟩
  .rcases f.sub k e with e|e
   .exact b.1 e
   .omega
  .rcases f.own k e with e|e
   .exact b.2 e
   .omega
theorem RowZ.at{S:Nat->Prop}{vv:AV}{lo:Nat}{H:Hp}{j:AV}{l:List Int}(h:RowZ S vv lo H j l){i:Nat}{x:Int}(I:l[i]?=some x):∃r,zlO Tryz.prog 23 j (.int .i64 (i:Int))=some (.ptr r i)/\iN Tryz.prog H 3 (.ptr r i)=some (.int .i64 x)/\zlk j r:=by
 have C:i<l.length:=by
  by_cases c:i<l.length
  .exact c
  .rw[lD ac]at I;cases I
 rcases h.r with⟨_,rfl⟩|Z
 .simp at C
 .obtain⟨r,z,Y⟩:=Z.b.at C;rw[aT C]at I;simp only[aL]at I;rw[I]at Y;refine⟨r,z,Y,?_⟩;obtain⟨q,e,_⟩:=Z;subst e;rw[vy Tryz.underlying23 ki C]at z;simp only[aL,AV.ptr.injEq]at z;exact⟨_,by rw[z.1]⟩
theorem Qg{H:Hp}{v:AV}{l:List Int}{lo:Nat}(Z:gZ H v l lo)(M:l.length<2^38):∃o H',zmc Tryz.prog false H 23 23 .nilS v=some (o,H')/\je H' o l H.next/\H.next<=H'.next/\(∀k,k<H.next->H'.get k=H.get k):=by
 by_cases V:l=[]
 .subst V;refine⟨.nilS,H,?_,.inl ⟨rfl,rfl⟩,aB _,fun _ _=>rfl⟩;rcases Z with⟨rfl,_⟩|⟨r,m,rfl,j,_⟩
  .simp only[zmc,Tryz.underlying23,ki,pS,pT,show znh Tryz.prog 23=true by kernel_rfl,zmM]
  .have Y:=vO j;simp only[eW]at Y;simp only[zmc,Tryz.underlying23,ki,pS,pT,show znh Tryz.prog 23=true by kernel_rfl,eW,Y]
 .have hx:zmM H 1 v=some (l.length,l.map (.int .i64)):=by
   rcases Z with⟨_,h⟩|⟨r,m,rfl,j,_⟩
   .exact(V h).elim
   .exact vO j
  obtain⟨o,H',U,j,z,O,_⟩:=Hw (v:=.nilS) (l:=[]) (lo:=H.next) (.inl ⟨rfl,rfl⟩) (aB _) hx V b9;rw[ly]at j;exact⟨o,H',U,.inr j,ac,O⟩
def D4(j:List En)(X:Lx)(c:Cx)(n:Nat):Prop:=∀(l:List St) (s r:Bd),gE c n l s=some r->Fin r->zld l<2^36->s.vars.length<2^36->∀{H:Hp}{S:Nat->Prop}{lv vv:AV},RepL X H S s lv vv->zk5 Tryz.prog (zkY pls j) 88 [.ptr X.b 0,.lst (l.map St.cells)] H (pp X S vv H r)
section
variable {tb:List En} (hG:LowT tb) {X:Lx} {c:Cx} (hX:CxOk X c) {x:St} {s:Bd} {H:Hp} {S:Nat -> Prop} {lv vv:AV}
set_option maxRecDepth 100000 in
set_option maxHeartbeats 8000000 in
include hG hX in
theorem lif{n:Nat}(IH:D4 tb X c n){r:Int×Bd}{a b m:Bd}(h1:fu c n x.value s=some r)(h2:gE c n x.thn r.2=some a)(h3:gE c n x.els {a with state:=r.2.state,vars:=r.2.vars}=some b)(h4:oh r.1 a.vars b.vars.length 0 b=some m)
 (hF:Fin (zlr r.1 a.state m.state m).2) (hz:x.sz<2^36) (hvl:s.vars.length<2^36) (j:RepL X H S s lv vv) :
 zk5 Tryz.prog (zkY pls tb) 162 [.ptr X.b 0,.agg x.cells] H (pp X S vv H { (zlr r.1 a.state m.state m).2 with state:=(zlr r.1 a.state m.state m).1}):=by
 have hw:Plain (zkY pls tb) 162:=hG.plain dT;have hkeep:(zkY pls tb).keep 162=false:=rfl;have R1:=j.alloc (.cells x.cells 0 true);have F1:=(cY X S vv H).alloc (.cells x.cells 0 true);have hFm:Fin m:=hF.le (zm0 _ _ _ _).le;have hml:=wo _ _ _ _ _ _ h4;have hFb:Fin b:=hFm.le hml.1;have e3:=(nA c n).2.1 _ _ _ h3;have e2:=(nA c n).2.1 _ _ _ h2;have hFa:Fin a:=hFb.le ⟨e3.1.l,e3.1.n⟩;have hFr:Fin r.2:=hFa.le e2.1;have hsz:=x.sz_eq;have o3:=j.o3;have o4:=j.o4;have o5:=j.o5;have hlv:=zmp c n _ _ _ h1;have hrl:r.2.vars.length<2^36:=by rw[hlv.v];exact hvl
 have hbl:b.vars.length<2^36:=by rw[e3.2];exact hrl
 clear e3 e2 hml hlv;refine zlf (M:=87) (rs:=[]) (hw.call _) hw.ice hw.froz Tryz.func162 rfl rfl Qf.2 rfl ?_;dsimp only[Qf,zD,Nat.reduceAdd];repeat' (first
  |(apply ah ?_;clear hK K)|apply Rx.o ?_|apply ak ?_|(apply zkU fun K hK=>?_)|fail)
 refine aZ rfl bc bi ?_;simp only[bj];refine aS ?_ (rZ hG hX n x.value s r h1 hFr R1 (cY _ _ _ _));rintro w H2 ⟨rfl,S2,lv2,R2,F2⟩;have g2:=gg j F2;have m2:=R2.m;have n2:H.next+1<=H2.next:=F2.next
 obtain⟨cv,H3,a3,c3,n3,q3⟩:=Qg (H:=H2) R2.vars.n ac;have R3:RepL X H3 S2 r.2 lv2 vv:=R2.keep n3 fun k h _=>q3 k h;have F3:FrL X S2 vv H2 S2 vv H3:=⟨n3,fun k h _ _ _ _=>q3 k h,fun _ h=>.inl h,fun _ h=>.inl h⟩;have m3:=R3.m;have g3:H3.get H.next=some (.cells x.cells 0 true):=by rw[q3 _ ac];exact g2
 have z3:RowZ S2 vv (H.next+1) H3 cv r.2.vars:=⟨c3.lo fun k o=>by have:=c3.lt o;omega,fun k o=>by
  have:=R2.new (c3.lt o).1;exact⟨this.1,this.2.1⟩⟩
 obtain⟨hc1,hc2⟩:=c3.one;dsimp only[zlB]at m2 m3;dsimp only[zk6];repeat' (first
  |(apply ah ?_;clear hK K)|apply Rx.o ?_|apply ak ?_|(apply zkU fun K hK=>?_)|(apply zmm 2 [(3,8),(3,11),(7,8)] fun K hK=>?_)|(apply zlC ?_;try intro _)|(apply zmk ?_ ?_<;>clear hK K)|apply bZ ?_|fail)
 .exact zlU
 .refine aZ rfl bc bi ?_;simp only[bj];refine aS ?_ (IH x.thn r.2 a h2 hFa ac hrl R3);rintro w H4 ⟨S4,z,I,R4,F4⟩;have U:=F2.trans (F3.trans F4);have g4:=gg j U;have z4:=z3.fr ac ac F4;have m4:=R4.m;obtain⟨R4s,F4s⟩:=R4.setS r.2.state;have m4s:=R4s.m;have zs:=z4.fr (X:=X) ac ac F4s;have R5:=R4s.swapV (vw:=cv) (l:=r.2.vars) (zs.r.lo fun k _=>dm _) (fun k o=>⟨by have:=zs.r.lt o;omega,(zs.r.lt o).2,(zs.n k o).1⟩);have m5:=R5.m;have hk5:∀k,k≠X.b->((H4.set X.b (.cells (zlB X {a with state:=r.2.state} z I) 0 true)).set X.b (.cells (zlB X {a with state:=r.2.state,vars:=r.2.vars} z cv) 0 true)).get k=H4.get k:=fun k o=>by rw[aJ,af o,aJ,af o]
  have J:FrL X S vv (H.alloc (.cells x.cells 0 true)) S4 cv ((H4.set X.b (.cells (zlB X {a with state:=r.2.state} z I) 0 true)).set X.b (.cells (zlB X {a with state:=r.2.state,vars:=r.2.vars} z cv) 0 true)):=⟨U.next,fun k h1 h2 h3 h4 h5=>by rw[hk5 k h2];exact U.get k h1 h2 h3 h4 h5,U.sub,fun k o=>.inr (z4.r.lt o).1⟩;have g5:=gg j J;have y5:RowZ S4 cv 0 ((H4.set X.b (.cells (zlB X {a with state:=r.2.state} z I) 0 true)).set X.b (.cells (zlB X {a with state:=r.2.state,vars:=r.2.vars} z cv) 0 true)) I a.vars:=⟨R4.vars.keep (aB _) fun k o=>hk5 k (by have:=(R4.vS k o).1;omega),fun k o=>⟨fun e=>(R4.sS k e).2.2 o,fun e=>(z4.n k e).2 o⟩⟩;have y5':RowZ S4 cv (X.b+1) ((H4.set X.b (.cells (zlB X {a with state:=r.2.state} z I) 0 true)).set X.b (.cells (zlB X {a with state:=r.2.state,vars:=r.2.vars} z cv) 0 true)) I a.vars:=⟨y5.r.lo fun k o=>(R4.vS k o).1,y5.n⟩;clear y5 hk5 F4s zs z4 z3 F3 U;dsimp only[zlB]at m4 m4s m5 R5 J y5' g5;dsimp only[zk6];repeat' (first
   |(apply ah ?_;clear hK K)|apply Rx.o ?_|apply bS ?_|apply ak ?_|(apply zkU fun K hK=>?_)|(apply zmm 4 [(3,10),(7,10)] fun K hK=>?_)|(apply zlC ?_;try intro _)|(apply zmk ?_ ?_<;>clear hK K)|apply bZ ?_|fail)
  .exact zlU
  .refine aZ rfl bc bi ?_;simp only[bj];refine aS ?_ (IH x.els _ b h3 hFb ac hrl R5);rintro w H6 ⟨S6,lv6,O,R6,F6⟩;have C:=J.trans F6;have g6:=gg j C;have y6:=y5'.fr ac ac F6;have m6:=R6.m;have hlen6:=R6.vars.n.len';have n6:H.next+1<=H6.next:=C.next
   clear F6 J R5 R4s R4 y5' m5 m4s m4 g5 g4;dsimp only[zlB]at m6;dsimp only[zk6];repeat' (first
    |(apply ah ?_;clear hK K)|apply Rx.o ?_|apply ak ?_|(apply zkU fun K hK=>?_)|apply aG ?_|fail)
   refine zlL [0,4,7,8,51] [] 52 b.vars.length (fun i E Hi=>∃Y Si lvi,oh r.1 a.vars (b.vars.length-i) i Y=some m/\RepL X Hi Si Y lvi O/\FrL X S vv (H.alloc (.cells x.cells 0 true)) Si O Hi/\RowZ Si O (X.b+1) Hi I a.vars/\Y.vars.length=b.vars.length) eE ⟨b,S6,lv6,h4,R6,C,y6,rfl⟩ ?_;clear m6 g6 R6 C y6 hlen6;rintro i E Hi hi hcE hrH hnH hsI ⟨Y,Si,lvi,V,Ri,Fi,yi,hil⟩;(try simp only[zlm,zlb,aR,zk1,zk7,Nat.reduceBEq, *]at hcE);(try simp only[zlb, *]at hrH);(try simp only[zk9,zli,zlI,bL,Nat.reduceAdd]at hnH);have mi:=Ri.m;dsimp only[zlB]at mi;have ni:H.next+1<=Hi.next:=Fi.next
   by_cases hlt:i<b.vars.length
   .have hlt':(i:Int)<b.vars.length:=by omega
    obtain⟨k,o⟩:∃k,b.vars.length-i=k+1:=⟨b.vars.length-i-1,ac⟩;have hk2:b.vars.length-(i+1)=k:=ac;rw[o]at V;rw[hk2];unfold oh at V;simp only[jl]at V;obtain⟨xa,hxa,xb,hxb,V⟩:=V;obtain⟨qa,hixa,hlda,hqa⟩:=yi.at hxa;obtain⟨qb,hixb,hldb⟩:=Ri.atV hxb;have hFx:Fin (zlr r.1 xa xb Y).2:=hFm.le ⟨(wo _ _ _ _ _ _ V).1.l,(wo _ _ _ _ _ _ V).1.n⟩;have hx2:(zlr r.1 xa xb Y).2.vars=Y.vars:=(zm0 _ _ _ _).v;have hvx:i<(zlr r.1 xa xb Y).2.vars.length:=by rw[hx2];omega
    repeat' (first
     |(apply ah ?_;clear hK K)|apply Ry.o ?_|(apply bb (fun hb hbp=>?_) (fun hb hbp=>?_)<;>try(cases hb;done))|apply ak ?_|(apply zkU fun K hK=>?_)|(apply zmm 10 [(3,18),(3,20),(10,18),(14,18),(17,18)] fun K hK=>?_)|(apply zlC ?_;try intro _)|apply bZ ?_|apply aG ?_|apply zk3 ?_|fail)
    refine aZ rfl bc bi ?_;simp only[iw];refine aS ?_ (xT hG Ri (cY _ _ _ _) r.1 xa xb hFx);rintro w H7 ⟨rfl,S7,lv7,R7,F7⟩;obtain⟨q',Z,hld',H8,hst,hq1,hq2,hq3,R8,F8,o8,n8⟩:=R7.setV hvx (zlr r.1 xa xb Y).1;have hqq:q'=qb:=by
     rw[hixb]at Z;simp only[aL,AV.ptr.injEq]at Z;exact Z.1.symm
    subst hqq;have y7:=yi.fr ac ac F7;have y8:=y7.fr ac ac F8;obtain⟨qa7,ix7,ld7,_⟩:=y7.at hxa;obtain⟨qa8,ix8,ld8,_⟩:=y8.at hxa;rw[hixa]at ix7 ix8;simp only[aL,AV.ptr.injEq,aR]at ix7 ix8;subst ix7 ix8;have m7:=R7.m;have m8:=R8.m;have n7:=F7.next
    dsimp only[zlB]at m7 m8;have fin:∀R:Prop,R->R:=fun _ h=>h;clear fin Z hx2;dsimp only[zk6];repeat' (first
     |(apply ah ?_;clear hK K)|apply Rx.o ?_|apply bS ?_|(apply zkU fun K hK=>?_)|(apply zlC ?_;try intro _)|(apply zmk ?_ ?_<;>clear hK K)|apply bZ ?_|apply zmK rfl ?_|fail)
    .exact zlU
    .refine⟨ac,zk8,zk8,zlF,(by simp only[zk1,Nat.reduceBEq, *];exact zni (n:=b.vars.length) ac ac),?_⟩;exact⟨_,S7,lv7,V,R8,Fi.trans (F7.trans F8),y8,by rw[jd,(zm0 _ _ _ _).v];exact hil⟩
   .have hlt':¬(i:Int)<b.vars.length:=by omega
    have o:b.vars.length-i=0:=ac;rw[o]at V;simp only[oh,aL]at V;subst V;repeat' (first
     |(apply ah ?_;clear hK K)|apply Ry.o ?_|(apply bb (fun hb hbp=>?_) (fun hb hbp=>?_)<;>try(cases hb;done))|apply ak ?_|(apply zkU fun K hK=>?_)|apply zlu ?_)
    refine aZ rfl bc bi ?_;simp only[bj];refine aS ?_ (xT hG Ri (cY _ _ _ _) r.1 a.state Y.state hF);rintro w H7 ⟨rfl,S7,lv7,R7,F7⟩;have m7:=R7.m;dsimp only[zlB]at m7;dsimp only[zk6];repeat' (first
     |(apply ah ?_;clear hK K)|apply Rx.o ?_|apply bS ?_|fail)
    all_goals (refine⟨eI,_,eR,?_⟩;try simp only[zkX])
    obtain⟨R8,F8⟩:=R7.setS (zlr r.1 a.state Y.state Y).1;exact⟨S7,lv7,O,R8,F1.trans (Fi.trans (F7.trans F8))⟩
end
end
end Go.Proofs.YtpbcimfiofmoeaaGreat
