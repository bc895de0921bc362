/- Parts: EvD, EvE, R3b, EvF, SpecI, SpecR, I1, I2. -/
import Derived.Test.YtljebeflbbgibaaGreatZCH
set_option linter.unusedSimpArgs false
set_option linter.unusedVariables false
set_option linter.unusedSectionVars false
set_option linter.defProp false
set_option maxHeartbeats 32000000
namespace Go.Ab
set_option maxRecDepth 20000
open Go
theorem gR{P:Prop}(h:P:=by simp only[zcB];omega):P:=h
theorem AW{P:Prop}(h:P:=by simp only[List.length_cons];omega):P:=h
theorem oP{P:Prop}(h:P:=by rw[zfb];omega):P:=h
theorem dr{P:Prop}(h:P:=by decide):P:=h
theorem jW{P:Prop}(h:P:=by simpa using I.symm):P:=h
theorem ut{P:Prop}(h:P:=by rw[C];exact a5):P:=h
theorem FS{P:Prop}(h:P:=by simp only[zcz,Nat.reduceBEq, *];exact zeB (n:=L.length) ac ac):P:=h
theorem FT{P:Prop}(h:P:=by rw[Int.tmod_eq_emod_of_nonneg ac];omega):P:=h
def AY:=@List.all_nil
def uu:=@List.take_zero
def oQ:=@List.drop_eq_nil_of_le
def AZ:=@List.set_cons_zero
def qk:=@List.length_reverse
def A0:=@List.reverse_cons
def A1:=@List.eq_nil_of_length_eq_zero
def uv:=@List.headD_cons
def ql:=@Bool.and_assoc
def FU:=@List.eq_of_mem_replicate
def cX:=@decide_eq_false
def kF:=@decide_eq_decide
def cB:=@decide_eq_true
def oR:=@Bool.and_false
def jy:=@List.drop_length
def uw:=@decide_not
def oS:=@Bool.not_eq_false'
def fo:=And.intro @k9 @oS
def se:=And.intro @dK @oR
def qm:=And.intro @kZ @f4
def A2:=And.intro @de @jN
def w5:=And.intro se A2
end Go.Ab
namespace Go.Proofs.YtljebeflbbgibaaGreat
set_option maxRecDepth 20000
open Go Go.Ab
section
def tyEvD.tyF:=ad @cI (ad @bZ (ad @lk (ad @d8 (ad @eY (ad @ju (ad @ll (ad @rT (ad @oH (ad @p9 (ad @qa (ad @rV (ad @qc (ad @rW (ad @qd (ad @qe (@qf))))))))))))))))
open tyEvD
noncomputable def FV:{c:SC // aA 82 (Tryz.f102.body.getD .skip)=c}:=by
 refine⟨?_,?_⟩;rotate_left
 .simp only[Tryz.f102,a3,aA,zcG,zcE,zcJ,zcK,Nat.blt,Nat.ble];rfl
theorem W7{P:Program}{cfg:Cfg}{f N:Nat}{a:SC}{E:ao}{H:Hp}{Q:AX->ao->Hp->Prop}(F:ao->Hp->Prop)(h1:zcY P cfg f N a E H (kz Q F))(h2:∀E' H',F E' H'->Q .normal E' H'):zcY P cfg f N a E H Q:=
 zcY.mono (fun x E' H' h=>by cases x<;>first|exact h2 _ _ h|exact h) h1
theorem FW(a b c:AV):zc6 3 [a,b,c]=some (.agg [a,b,c]):=rfl
theorem qn(a b c d:AV):zc6 4 [a,b,c,d]=some (.agg [a,b,c,d]):=rfl
theorem FX(H:Hp)(z A W:HB):Ext9 (fun _=>True) H (((H.alloc z).alloc A).set (H.next+1) W):=⟨by rw[zcS,zcB,zcB];omega,fun r _ hr=>by
 simp only[aU,zcu,zcB,ah (show ¬r=H.next+1 by omega),ah (show ¬r=H.next by omega)]⟩
section
variable {tb:List En} (hT:EvT tb) {c:Cx9} {H:Hp} {rows:List (List AV)} {res:List R9}
include hT
theorem W8(o:Fr9 c H rows res){n:Nd}(hl:n.kids.length<2^30){k:Int}(h:t8 res n=some k):zcx Tryz.prog (zcq pls tb) 102 [.ptr c.xp 0,.agg n.cells] H fun w H'=>w=.int .i64 k/\Ext9 (fun _=>True) H H':=by
 have hw:Plain (zcq pls tb) 102:=hT.plain db;obtain⟨W,g,L⟩:=n;simp only at hl;have ec:(Nd.mk W g L).cells=[.int .i64 W,.int .i64 g,.lst (L.map fun k=>[.int .i64 k])]:=rfl;rw[ec];have Y:=o.alloc (.cells [.int .i64 W,.int .i64 g,.lst (L.map fun k=>[.int .i64 k])] 0 true);have gx:=Y.x;unfold gQ at gx;have lx:=o.lx;have lr:=o.lr;have y0:(c.xp == H.next)=false:=zcD ac;have y8:(c.xp == H.next+1)=false:=zcD ac;have y9:(H.next == H.next+1)=false:=zcD ac;have gn:(H.alloc (.cells [.int .i64 W,.int .i64 g,.lst (L.map fun k=>[.int .i64 k])] 0 true)).get H.next=some (.cells [.int .i64 W,.int .i64 g,.lst (L.map fun k=>[.int .i64 k])] 0 true):=ij
 have E1:Ext9 (fun _=>True) H (H.alloc (.cells [.int .i64 W,.int .i64 g,.lst (L.map fun k=>[.int .i64 k])] 0 true)):=⟨f7 _,fun q _ hq=>fF⟩;unfold t8 at h;simp only at h;by_cases c31:W=31
 .rw[ax c31]at h;cases h
 rw[ah c31]at h;obtain⟨HX,hHX⟩:∃HX,HX=H:=⟨_,rfl⟩;have n1:AV.one .nilP=true:=rfl;have n2:AV.cells .nilP=[.nilP]:=rfl;have n3:∀b,AV.one (.bool b)=true:=fun _=>rfl;refine zcv (M:=82) (rs:=[.tmp 4]) (hw.call _) hw.ice hw.froz Tryz.func102 rfl rfl FV.2 rfl ?_;dsimp only[FV,zcr,Nat.reduceAdd];repeat' (first
  |(apply zcl ?_;clear hK K)|apply Rx.o ?_|apply ak ?_|(apply zcm fun K hK=>?_)|apply ay ?_|fail)
 refine W7 (fun E' H'=>E'.at 0=.ptr c.xp 0/\E'.at 5=.lst (L.map fun k=>[.int .i64 k])/\Fr9 c H' rows res/\Ext9 (fun _=>True) H H'/\lU res L=some k) ?_ ?_
 .by_cases c22:W=22
  .subst c22;rw[ax rfl]at h;obtain⟨zdz,h1,h⟩:=ch.1 h;obtain⟨r,h2,h⟩:=ch.1 h;obtain⟨m,sv,kd,A,hm,ho,ix,hA⟩:=o.kid (n:=⟨22,g,L⟩) (j:=0) (r:=r) (by unfold eJ;rw[h1];exact h2);simp only at kd;rw[h1]at kd;simp only[az]at kd;subst kd;have ar:=(hA _ Y).lr;have arA:=fun b=>(hA _ (Y.alloc b)).lr;obtain⟨rk,rv,rs⟩:=r;obtain⟨ho1,ho2⟩:=ho.two;cases rk with
   |false=>
    rw[ah aD]at h;simp only[az]at h;subst h;have O:=@qn;repeat' (first
     |(apply zcl ?_;clear hK K)|apply Ry.o ?_|apply b7 ?_|(apply aB (fun z V=>?_) (fun z V=>?_)<;>try(cases z;done))|apply ak ?_|(apply zcm fun K hK=>?_)|(apply zc4 6 [(3,10),(6,10),(8,10),(9,10)] fun K hK=>?_)|(apply zcV ?_;try intro _)|(apply zc5 ?_ ?_<;>clear hK K)|apply bD ?_|apply zeS rfl ?_|apply zco ?_|apply am ?_|fail)
    .exact eK
    all_goals (refine⟨eI,_,eR,?_⟩;try simp only[zcn])
    exact⟨mp,FX _ _ _ _⟩
   |true=>
    rw[ax rfl]at h;obtain⟨zc8,h3,h⟩:=ch.1 h;obtain⟨t,h4,h⟩:=ch.1 h;simp only[az]at h;have O:=@qn;repeat' (first
     |(apply zcl ?_;clear hK K)|apply Ry.o ?_|apply b7 ?_|(apply aB (fun z V=>?_) (fun z V=>?_)<;>try(cases z;done))|apply ak ?_|(apply zcm fun K hK=>?_)|(apply zc4 6 [(3,10),(6,10),(8,10),(9,10)] fun K hK=>?_)|(apply zcV ?_;try intro _)|(apply zc5 ?_ ?_<;>clear hK K)|apply bD ?_|apply zeS rfl ?_|fail)
    .exact eK
    generalize Z:Hp.set (Hp.alloc (H.alloc _) _) (H.next+1) _=Hb;have nb:H.next+2<=Hb.next:=by rw[<-Z];exact aM _
    have F:Ext9 (fun _=>True) (H.alloc (.cells [.int .i64 22,.int .i64 g,.lst (L.map fun k=>[.int .i64 k])] 0 true)) Hb:=⟨uj,fun r _ hr=>by
     rw[zcB]at hr;rw[<-Z];simp only[aU,zcu,zcB,ah (show ¬r=H.next+1 by omega)]⟩
    clear Z;have hFb:=Y.keep F.next fun q hq=>F.get q trivial hq
    have gnb:=(F.get _ trivial (show H.next<(H.alloc _).next from cL _)).trans gn;have C:=FC hT hFb (n:=⟨22,g,L⟩) hl h3;rw[ec]at C;have O:=@FW;repeat' (first
     |apply Rx.o ?_|fail)
    refine bg rfl bh bj ?_;simp only[br];refine a7 ?_ C;rintro v H4 ⟨rfl,rfl⟩;dsimp only[zcF];repeat' (first
     |(apply zcl ?_;clear hK K)|apply Rx.o ?_|(apply iU ?_;first|refine Rx.k (WJ hT (hFb.alloc _) h4) ?_)|apply am ?_|fail)
    all_goals (refine⟨eI,_,eR,?_⟩;try simp only[zcn])
    exact⟨by first|trivial|rw[h],(E1.trans F).trans ⟨f7 _,fun r _ hr=>fF⟩⟩
  rw[ah c22]at h;by_cases cg:W=27\/W=29\/W=30
  .rw[ax cg]at h;obtain⟨r,h1,h5⟩:=ch.1 h;clear h;obtain⟨m,sv,zdz,_,hm,ho,ix,hA⟩:=o.kid h1;simp only at zdz;have ar:=(hA _ Y).lr;have arA:=fun b=>(hA _ (Y.alloc b)).lr;obtain⟨rk,rv,rs⟩:=r;obtain⟨ho1,ho2⟩:=ho.two;cases rk with
   |false=>
    rw[ah aD]at h5;rcases cg with rfl|rfl|rfl;all_goals
     have O:=@qn;repeat' (first
      |(apply zcl ?_;clear hK K)|apply Ry.o ?_|apply b7 ?_|(apply a8 (fun A I=>?_) (fun A I=>?_)<;>try(cases A;done))|(apply aB (fun z V=>?_) (fun z V=>?_)<;>try(cases z;done))|apply ak ?_|(apply zcm fun K hK=>?_)|(apply zc4 13 [(3,10),(6,10),(8,10),(9,10)] fun K hK=>?_)|(apply zcV ?_;try intro _)|(apply zc5 ?_ ?_<;>clear hK K)|apply bD ?_|apply zeS rfl ?_|apply zco ?_|fail)
     .exact eK
     generalize Z:Hp.set (Hp.alloc (H.alloc _) _) (H.next+1) _=Hb;have F:Ext9 (fun _=>True) H Hb:=⟨by rw[<-Z,zcS,zcB,zcB];omega,fun r _ hr=>by
      rw[<-Z];simp only[aU,zcu,zcB,ah (show ¬r=H.next+1 by omega),ah (show ¬r=H.next by omega)]⟩
     exact⟨eE,eE,o.keep F.next (fun q hq=>F.get q trivial hq),F,h5⟩
   |true=>
    rw[ax rfl]at h5;obtain⟨s,hrs,h6⟩:=ch.1 h5;clear h5;simp only at hrs;subst hrs;obtain⟨p,cv,ov,rfl,hp⟩:=(ho:fK c.S H sv s);have gp:=hp.get;have plt:=hp.lt;have y1:(p == H.next)=false:=zcD ac;have y2:(p == H.next+1)=false:=zcD ac;by_cases ce:s.ed=0
    .rw[ah (show ¬s.ed≠0 by omega)]at h6;rcases cg with rfl|rfl|rfl;all_goals
      have O:=@qn;repeat' (first
       |(apply zcl ?_;clear hK K)|apply Ry.o ?_|apply b7 ?_|(apply a8 (fun A I=>?_) (fun A I=>?_)<;>try(cases A;done))|(apply aB (fun z V=>?_) (fun z V=>?_)<;>try(cases z;done))|apply ak ?_|(apply zcm fun K hK=>?_)|(apply zc4 13 [(3,10),(6,10),(8,10),(9,10)] fun K hK=>?_)|(apply zcV ?_;try intro _)|(apply zc5 ?_ ?_<;>clear hK K)|apply bD ?_|apply zeS rfl ?_|apply zco ?_|fail)
      .exact eK
      generalize Z:Hp.set (Hp.alloc (H.alloc _) _) (H.next+1) _=Hb;have F:Ext9 (fun _=>True) H Hb:=⟨by rw[<-Z,zcS,zcB,zcB];omega,fun r _ hr=>by
       rw[<-Z];simp only[aU,zcu,zcB,ah (show ¬r=H.next+1 by omega),ah (show ¬r=H.next by omega)]⟩
      exact⟨eE,eE,o.keep F.next (fun q hq=>F.get q trivial hq),F,h6⟩
    .rw[ax ce,az]at h6;subst h6;rcases cg with rfl|rfl|rfl;all_goals
      have O:=@qn;repeat' (first
       |(apply zcl ?_;clear hK K)|apply Ry.o ?_|apply b7 ?_|(apply a8 (fun A I=>?_) (fun A I=>?_)<;>try(cases A;done))|(apply aB (fun z V=>?_) (fun z V=>?_)<;>try(cases z;done))|apply ak ?_|(apply zcm fun K hK=>?_)|(apply zc4 13 [(3,10),(6,10),(8,10),(9,10)] fun K hK=>?_)|(apply zcV ?_;try intro _)|(apply zc5 ?_ ?_<;>clear hK K)|apply bD ?_|apply zeS rfl ?_|apply zco ?_|apply am ?_|fail)
      .exact eK
      all_goals (refine⟨eI,_,eR,?_⟩;try simp only[zcn])
      exact⟨mp,FX _ _ _ _⟩
  .rw[ah cg]at h;have c27:¬W=27:=ac;have c29:¬W=29:=ac;have c30:¬W=30:=ac;repeat' (first
    |(apply zcl ?_;clear hK K)|apply Ry.o ?_|(apply aB (fun z V=>?_) (fun z V=>?_)<;>try(cases z;done))|apply ak ?_|(apply zcm fun K hK=>?_)|apply zco ?_|fail)
   exact⟨eE,eE,Y,E1,h⟩
 .rintro E' H2 ⟨zdz,zep,hF2,E2,hm⟩;clear h gx gn y0;dsimp only[kz,pP];repeat' (first
   |(apply zcl ?_;clear hK K)|apply Rx.o ?_|apply ak ?_|(apply zcm fun K hK=>?_)|apply ay ?_|fail)
  subst hHX;refine zdl [0,65,66] [] 67 L.length (fun i E Hx=>lU res (L.drop i)=some k/\Fr9 c Hx rows res/\Ext9 (fun _=>True) HX Hx) eE ⟨hm,hF2,E2⟩ ?_;clear hm hF2 E2;rintro i E3 H3 hi hcE hrH hnH hsI ⟨hJ,U,E3'⟩;(try simp only[zcO,zcI,aY,zcz,zcL,Nat.reduceBEq, *]at hcE);(try simp only[zcI, *]at hrH);(try simp only[zcB,zcS,zdg,bw,Nat.reduceAdd]at hnH);by_cases hlt:i<L.length
  .have hlt':(i:Int)<L.length:=by omega
   have hgx:L[i]?=some L[i]:=aO hlt;rw[d7 hlt,lU]at hJ;generalize L[i]=q at *;obtain⟨r,hr,J⟩:=ch.1 hJ;clear hJ;obtain⟨m,rfl⟩:∃m:Nat,q=m:=⟨q.toNat,by obtain⟨_,h0,_⟩:=U.get hr;omega⟩;obtain⟨sv,hn,ho,hx,hA⟩:=U.at hr;have gx:=U.x;unfold gQ at gx;have a0:=(hA _ U).l0;obtain⟨rk,rv,rs⟩:=r;cases rk with
   |true=>
    rw[ax rfl]at J;repeat' (first
     |(apply zcl ?_;clear hK K)|apply Ry.o ?_|(apply aB (fun z V=>?_) (fun z V=>?_)<;>try(cases z;done))|apply ak ?_|(apply zcm fun K hK=>?_)|apply ay ?_|apply zco ?_|fail)
    refine⟨ac,zcy,zcy,zcT,FS,?_⟩;exact⟨J,U,E3'⟩
   |false=>
    rw[ah aD,az]at J;subst J;repeat' (first
     |(apply zcl ?_;clear hK K)|apply Ry.o ?_|(apply aB (fun z V=>?_) (fun z V=>?_)<;>try(cases z;done))|apply ak ?_|(apply zcm fun K hK=>?_)|apply ay ?_|apply zco ?_|apply am ?_|fail)
    all_goals (refine⟨eI,_,eR,?_⟩;try simp only[zcn])
    exact⟨mp,E3'⟩
  .have hlt':¬(i:Int)<L.length:=by omega
   rw[oQ ac,lU,az]at hJ;subst hJ;repeat' (first
    |(apply zcl ?_;clear hK K)|apply Ry.o ?_|(apply aB (fun z V=>?_) (fun z V=>?_)<;>try(cases z;done))|apply ak ?_|(apply zcm fun K hK=>?_)|apply am ?_|apply zcA ?_)
   all_goals (refine⟨eI,_,eR,?_⟩;try simp only[zcn])
   exact⟨mp,E3'⟩
end
end
section
def tyEvE.tyF:=ad @bZ (ad @dl (ad @eY (ad @eL (ad @mK (ad @mL (ad @hM (ad @ju (ad @ll (ad @oH (ad @p9 (ad @qc (ad @qd (ad @qe (ad @cI (ad @lk (ad @d8 (ad @rT (ad @qa (ad @rV (ad @rW (ad @qf (ad @VE (ad @FW (@qn))))))))))))))))))))))))
open tyEvE
noncomputable def FY:{c:SC // aA 15 (Tryz.f103.body.getD .skip)=c}:=by
 refine⟨?_,?_⟩;rotate_left
 .simp only[Tryz.f103,a3,aA,zcG,zcE,zcJ,zcK,Nat.blt,Nat.ble];rfl
noncomputable def jj:{c:SC // aA 200 (Tryz.f104.body.getD .skip)=c}:=by
 refine⟨?_,?_⟩;rotate_left
 .simp only[Tryz.f104,a3,aA,zcG,zcE,zcJ,zcK,Nat.blt,Nat.ble];rfl
theorem sf(a:Int):zdK Tryz.prog 134 [(1,.int .i64 a)]=some (.agg [.bool false,.int .i64 a,.nilP,.nilP]):=af
theorem W9(p:Nat):zdK Tryz.prog 134 [(2,.ptr p 0)]=some (.agg [.bool false,.int .i64 0,.ptr p 0,.nilP]):=af
theorem oT(J:Hp)(q:Nat)(a b c d:AV):zdZ Tryz.prog (J.set q (.cells [a,b,c,d] 0 true)) 134 (.ptr q 0)=some (.agg [a,b,c,d]):=by
 rw[rF,aU,ax rfl];kernel_rfl
def Cx9.less(c:Cx9)(q:Nat):Cx9:={c with S:=fun k=>c.S k/\k≠q}
theorem Fr9.less{c:Cx9}{H Y:Hp}{rows:List (List AV)}{Z:List R9}(h:Fr9 c H rows Z)(E:Ext9 (fun _=>True) H Y){q:Nat}(K:H.next<=q)(i:q<Y.next):Fr9 (c.less q) Y rows Z:=by
 have g:=h.keep E.next fun k j=>E.get k trivial j
 exact⟨g.x,g.r,g.lx,g.lr,(h.st.sub (T:=(c.less q).S) fun k j hS=>⟨hS,ac⟩).keep (E.sub fun _ _ _=>trivial),h.rows.mono fun a b hr=>(hr.sub (T:=(c.less q).S) fun k j hS=>⟨hS,ac⟩).keep (E.sub fun _ _ _=>trivial),fun k j=>⟨h.up k (eG E.next j),ac⟩,g.len⟩
section
variable {tb:List En} (hT:EvT tb) {c:Cx9} {H:Hp} {rows:List (List AV)} {res:List R9}
include hT
theorem FZ(O:c.Ok)(g:Fr9 c H rows res):zcx Tryz.prog (zcq pls tb) 103 [.ptr c.xp 0] H fun w H'=>w=.lst (c.g.nodes.map Nd.cells)/\H'=H:=by
 have J:Plain (zcq pls tb) 103:=hT.plain db;have z:=g.x;unfold gQ at z;have A:=O.g;refine zcv (M:=15) (rs:=[.tmp 2]) (J.call _) J.ice J.froz Tryz.func103 rfl rfl FY.2 rfl ?_;dsimp only[FY,zcr,Nat.reduceAdd];repeat' (first
  |(apply zcl ?_;clear hK K)|apply Rx.o ?_|apply ak ?_|(apply zcm fun K hK=>?_)|(apply zc4 1 [(4,13),(8,13),(11,13)] fun K hK=>?_)|(apply zcV ?_;try intro _)|(apply zc5 ?_ ?_<;>clear hK K)|apply bD ?_|apply am ?_)
 .exact eK
 all_goals (refine⟨eI,_,eR,?_⟩;try simp only[zcn])
 exact⟨mp,mp⟩
theorem Xa(W:Fr9 c H rows res){n:Nd}(hl:n.kids.length<2^30){t:R9}(h:iy c.start c.args res n=some t):zcx Tryz.prog (zcq pls tb) 104 [.ptr c.xp 0,.agg n.cells] H fun w H'=>∃j,w=.agg [.bool t.k,.int .i64 t.v,j,.nilP]/\iE c.S H' j t.s/\Ext9 (fun _=>True) H H':=by
 have J:Plain (zcq pls tb) 104:=hT.plain db;obtain⟨i,g,L⟩:=n;simp only at hl;have ec:(Nd.mk i g L).cells=[.int .i64 i,.int .i64 g,.lst (L.map fun k=>[.int .i64 k])]:=rfl;rw[ec];have lx:=W.lx;have lr:=W.lr;have y0:(c.xp == H.next)=false:=zcD ac;have y8:(c.xp == H.next+1)=false:=zcD ac;have y9:(H.next == H.next+1)=false:=zcD ac;have hF1:=W.alloc (.cells [.int .i64 i,.int .i64 g,.lst (L.map fun k=>[.int .i64 k])] 0 true);have Y:=hF1.alloc (.cells [.bool false,.int .i64 0,.nilP,.nilP] 0 true);have gx:=Y.x;unfold gQ jO at gx;have n1:AV.one .nilP=true:=rfl;have n2:AV.cells .nilP=[.nilP]:=rfl;generalize I:(H.alloc (.cells [.int .i64 i,.int .i64 g,.lst (L.map fun k=>[.int .i64 k])] 0 true)).alloc (.cells [.bool false,.int .i64 0,.nilP,.nilP] 0 true)=H2 at *;have gn:H2.get H.next=some (.cells [.int .i64 i,.int .i64 g,.lst (L.map fun k=>[.int .i64 k])] 0 true):=by
  rw[<-I];simp only[zcu,zcB,ah (show ¬H.next=H.next+1 by omega),bT]
 have gt:H2.get (H.next+1)=some (.cells [.bool false,.int .i64 0,.nilP,.nilP] 0 true):=by rw[<-I,zcu,ax db]
 have C:Ext9 (fun _=>True) H H2:=⟨by rw[<-I,zcB,zcB];omega,fun r _ hr=>by
  rw[<-I];simp only[zcu,zcB,ah (show ¬r=H.next+1 by omega),ah (show ¬r=H.next by omega)]⟩
 have Ed:∀b,Ext9 (fun _=>True) H (H2.set (H.next+1) b):=fun b=>⟨C.next,fun r _ hr=>by
  rw[aU,ah ac];exact C.get r trivial hr⟩
 have Ed2:∀b2 b,Ext9 (fun _=>True) H ((H2.alloc b2).set (H.next+1) b):=fun b2 b=>⟨by rw[zcS,zcB];have:=C.next;omega,fun r _ hr=>by
  rw[aU,ah ac,zcu,ah (by have:=C.next;omega)];exact C.get r trivial hr⟩
 subst I;unfold iy at h;simp only at h;by_cases c1:i=1
 .rw[ax c1,az]at h;subst c1;subst h;refine zcv (M:=200) (rs:=[.cell 4 134]) (J.call _) J.ice J.froz Tryz.func104 rfl rfl jj.2 rfl ?_;dsimp only[jj,zcr,Nat.reduceAdd];have U:=@sf;repeat' (first
   |(apply zcl ?_;clear hK K)|apply Ry.o ?_|apply b7 ?_|(apply aB (fun z V=>?_) (fun z V=>?_)<;>try(cases z;done))|apply ak ?_|(apply zcm fun K hK=>?_)|apply ay ?_|apply am ?_)
  all_goals (refine⟨eI,_,(by(try simp only[zcz,Nat.reduceBEq,zd2,zee,oT, *]);first|done|with_reducible rfl),?_⟩;try simp only[zcn])
  exact⟨.nilP,rfl,rfl,Ed _⟩
 rw[ah c1]at h;by_cases c2:i=2
 .rw[ax c2]at h;subst c2;split at h
  .rename_i h0;obtain⟨m,rfl⟩:∃m:Nat,g=m:=⟨g.toNat,ac⟩;rw[dL]at h;obtain⟨v,hv,Z⟩:=ch.1 h;rw[az]at Z;subst Z;refine zcv (M:=200) (rs:=[.cell 4 134]) (J.call _) J.ice J.froz Tryz.func104 rfl rfl jj.2 rfl ?_;dsimp only[jj,zcr,Nat.reduceAdd];have U:=@sf;repeat' (first
    |(apply zcl ?_;clear hK K)|apply Ry.o ?_|apply b7 ?_|(apply aB (fun z V=>?_) (fun z V=>?_)<;>try(cases z;done))|apply ak ?_|(apply zcm fun K hK=>?_)|(apply nU 5 fun K hK=>?_)|apply ay ?_|apply am ?_)
   all_goals (refine⟨eI,_,(by(try simp only[zcz,Nat.reduceBEq,zd2,zee,oT, *]);first|done|with_reducible rfl),?_⟩;try simp only[zcn])
   exact⟨.nilP,rfl,rfl,Ed _⟩
  .cases h
 rw[ah c2]at h;by_cases c3:i=3\/i=25\/i=30\/i=31
 .rw[ax c3]at h;cases h
 rw[ah c3]at h;have d3:¬i=3:=ac;have d25:¬i=25:=ac;have d30:¬i=30:=ac;have d31:¬i=31:=ac;clear c3;by_cases c22:i=22
 .rw[ax c22]at h;subst c22;obtain⟨k,O,Z⟩:=ch.1 h;obtain⟨m,rfl⟩:∃m:Nat,k=m:=⟨k.toNat,by obtain⟨_,h0,_⟩:=W.get Z;omega⟩;obtain⟨j,hn,F,hx,hA⟩:=W.at Z;obtain⟨ho1,ho2⟩:=F.two;have o:=FC hT Y (n:=⟨22,g,L⟩) hl O;rw[ec]at o;refine zcv (M:=200) (rs:=[.cell 4 134]) (J.call _) J.ice J.froz Tryz.func104 rfl rfl jj.2 rfl ?_;dsimp only[jj,zcr,Nat.reduceAdd];repeat' (first
   |(apply zcl ?_;clear hK K)|apply Ry.o ?_|(apply aB (fun z V=>?_) (fun z V=>?_)<;>try(cases z;done))|apply ak ?_|(apply zcm fun K hK=>?_)|(apply zc4 12 [(3,6),(3,9),(5,6),(8,9)] fun K hK=>?_)|(apply zcV ?_;try intro _)|apply bD ?_|apply ay ?_|fail)
  refine bg rfl bh bj ?_;simp only[eM];refine a7 ?_ o;rintro v H4 ⟨rfl,rfl⟩;dsimp only[zcF];have hF4:=Y.alloc (.cells [.int .i64 22,.int .i64 g,.lst (L.map fun k=>[.int .i64 k])] 0 true);have gx4:=hF4.x;unfold gQ at gx4;have zea:=(hA _ hF4).lr;have gt4:((((H.alloc (.cells [.int .i64 22,.int .i64 g,.lst (L.map fun k=>[.int .i64 k])] 0 true)).alloc (.cells [.bool false,.int .i64 0,.nilP,.nilP] 0 true)).alloc (.cells [.int .i64 22,.int .i64 g,.lst (L.map fun k=>[.int .i64 k])] 0 true))).get (H.next+1)=some (.cells [.bool false,.int .i64 0,.nilP,.nilP] 0 true):=by rw[zcu,ah gR];exact gt
  have gn4:((((H.alloc (.cells [.int .i64 22,.int .i64 g,.lst (L.map fun k=>[.int .i64 k])] 0 true)).alloc (.cells [.bool false,.int .i64 0,.nilP,.nilP] 0 true)).alloc (.cells [.int .i64 22,.int .i64 g,.lst (L.map fun k=>[.int .i64 k])] 0 true))).get H.next=some (.cells [.int .i64 22,.int .i64 g,.lst (L.map fun k=>[.int .i64 k])] 0 true):=by rw[zcu,ah gR];exact gn
  repeat' (first
   |apply Rx.o ?_|apply b8 ?_|(apply zcV ?_;try intro _)|(apply zc5 ?_ ?_<;>clear hK K)|apply bD ?_|apply zeS rfl ?_|apply am ?_)
  .exact eK
  all_goals (refine⟨eI,_,(by(try simp only[zcz,Nat.reduceBEq,zd2,zee,oT, *]);first|done|with_reducible rfl),?_⟩;try simp only[zcn])
  exact⟨j,rfl,F.keep ((Ed2 _ _).sub fun _ _ _=>trivial),Ed2 _ _⟩
 rw[ah c22]at h;by_cases c23:i=23
 .rw[ax c23]at h;subst c23;obtain⟨r,O,Z⟩:=ch.1 h;obtain⟨s,h3,A⟩:=ch.1 Z;obtain⟨ra,h5,h6⟩:=ch.1 A;obtain⟨x,h7,h8⟩:=ch.1 h6;rw[az]at h8;subst h8;clear h Z A h6;obtain⟨m,j,zdz,_,hm,F,ix,hA⟩:=W.kid O;obtain⟨ma,sva,ka,_,hma,_,ixa,hAa⟩:=W.kid h5;simp only at zdz ka;rw[h3]at F;have a2:=(hA _ Y).l2;have aa:=(hAa _ Y).l1;have kld:=WK hT (wU F (C.sub fun _ _ _=>trivial)) h7;refine zcv (M:=200) (rs:=[.cell 4 134]) (J.call _) J.ice J.froz Tryz.func104 rfl rfl jj.2 rfl ?_;dsimp only[jj,zcr,Nat.reduceAdd];have U:=@sf;repeat' (first
   |(apply zcl ?_;clear hK K)|apply Ry.o ?_|apply b7 ?_|(apply bK ?_;first|refine Rx.k (kld) ?_)|(apply aB (fun z V=>?_) (fun z V=>?_)<;>try(cases z;done))|apply ak ?_|(apply zcm fun K hK=>?_)|(apply zc4 14 [(3,24),(5,24),(7,24),(10,24),(12,24),(16,24),(18,24),(20,24),(23,24)] fun K hK=>?_)|(apply zcV ?_;try intro _)|(apply zc5 ?_ ?_<;>clear hK K)|apply bD ?_|apply zeS rfl ?_|apply ay ?_|apply am ?_)
  .exact eK
  all_goals (refine⟨eI,_,(by(try simp only[zcz,Nat.reduceBEq,zd2,zee,oT, *]);first|done|with_reducible rfl),?_⟩;try simp only[zcn])
  exact⟨.nilP,rfl,rfl,Ed _⟩
 rw[ah c23]at h;by_cases c24:i=24
 .rw[ax c24]at h;subst c24;obtain⟨r,O,Z⟩:=ch.1 h;obtain⟨s,h3,A⟩:=ch.1 Z;rw[az]at A;subst A;clear h Z;obtain⟨m,j,zdz,_,hm,F,ix,hA⟩:=W.kid O;simp only at zdz;rw[h3]at F;have a2:=(hA _ Y).l2;obtain⟨p,cv,ov,rfl,hp⟩:=wU F (C.sub fun _ _ _=>trivial);have gp:=hp.get;refine zcv (M:=200) (rs:=[.cell 4 134]) (J.call _) J.ice J.froz Tryz.func104 rfl rfl jj.2 rfl ?_;dsimp only[jj,zcr,Nat.reduceAdd];have U:=@sf;repeat' (first
   |(apply zcl ?_;clear hK K)|apply Ry.o ?_|apply b7 ?_|(apply aB (fun z V=>?_) (fun z V=>?_)<;>try(cases z;done))|apply ak ?_|(apply zcm fun K hK=>?_)|(apply nU 16 fun K hK=>?_)|apply ay ?_|apply am ?_)
  all_goals (refine⟨eI,_,(by(try simp only[zcz,Nat.reduceBEq,zd2,zee,oT, *]);first|done|with_reducible rfl),?_⟩;try simp only[zcn])
  exact⟨.nilP,rfl,rfl,Ed _⟩
 rw[ah c24]at h;by_cases c20:i=20\/i=21
 .rw[ax c20]at h;obtain⟨r,O,Z⟩:=ch.1 h;rw[az]at Z;subst Z;clear h;obtain⟨m,j,zdz,_,hm,F,ix,hA⟩:=W.kid O;simp only at zdz;have a1:=(hA _ Y).l1;rcases c20 with rfl|rfl;all_goals
   refine zcv (M:=200) (rs:=[.cell 4 134]) (J.call _) J.ice J.froz Tryz.func104 rfl rfl jj.2 rfl ?_;dsimp only[jj,zcr,Nat.reduceAdd];have U:=@sf;repeat' (first
    |(apply zcl ?_;clear hK K)|apply Ry.o ?_|apply b7 ?_|(apply bK ?_;first|refine Rx.k (hT.kUn _ _ _) ?_)|(apply aB (fun z V=>?_) (fun z V=>?_)<;>try(cases z;done))|apply ak ?_|(apply zcm fun K hK=>?_)|(apply zc4 26 [(1,13),(5,13),(7,13),(9,13),(12,13)] fun K hK=>?_)|(apply zcV ?_;try intro _)|(apply zc5 ?_ ?_<;>clear hK K)|apply bD ?_|apply zeS rfl ?_|apply ay ?_|apply zco ?_|apply am ?_)
   .exact eK
   all_goals (refine⟨eI,_,(by(try simp only[zcz,Nat.reduceBEq,zd2,zee,oT, *]);first|done|with_reducible rfl),?_⟩;try simp only[zcn])
   exact⟨.nilP,rfl,rfl,Ed _⟩
 rw[ah c20]at h;have d20:¬i=20:=ac;have d21:¬i=21:=ac;by_cases c26:i=26\/i=27\/i=28\/i=29
 .rw[ax c26]at h;obtain⟨s,O,Z⟩:=ch.1 h;rw[az]at Z;subst Z;clear h;have hF3:Fr9 (c.less (H.next+1)) ((H.alloc (.cells [.int .i64 i,.int .i64 g,.lst (L.map fun k=>[.int .i64 k])] 0 true)).alloc (.cells [.bool false,.int .i64 0,.nilP,.nilP] 0 true)) rows res:=W.less C (f7 _) (by rw[zcB,zcB];omega);have kn:=W6 hT hF3 (n:=⟨i,g,L⟩) hl O;rw[ec]at kn;rcases c26 with rfl|rfl|rfl|rfl;all_goals
   refine zcv (M:=200) (rs:=[.cell 4 134]) (J.call _) J.ice J.froz Tryz.func104 rfl rfl jj.2 rfl ?_;dsimp only[jj,zcr,Nat.reduceAdd];repeat' (first
    |(apply zcl ?_;clear hK K)|apply Ry.o ?_|(apply aB (fun z V=>?_) (fun z V=>?_)<;>try(cases z;done))|apply ak ?_|(apply zcm fun K hK=>?_)|apply ay ?_|apply zco ?_|fail)
   refine bg rfl bh bj ?_;simp only[br];refine a7 ?_ kn;rintro v H4 ⟨hv,E4⟩;dsimp only[zcF];have gt4:=(E4.get _ trivial (by rw[zcB,zcB];omega)).trans gt;have hv0:=hv;obtain⟨p,cv,ov,rfl,hp⟩:=hv0;have n4:=E4.next
   rw[zcB,zcB]at n4;have U:=@W9;repeat' (first
    |(apply zcl ?_;clear hK K)|apply Rx.o ?_|apply b8 ?_|apply am ?_)
   all_goals (refine⟨eI,_,(by(try simp only[zcz,Nat.reduceBEq,zd2,zee,oT, *]);first|done|with_reducible rfl),?_⟩;try simp only[zcn])
   have Ef:Ext9 (fun k=>c.S k/\k≠H.next+1) H4 (H4.set (H.next+1) (.cells [.bool false,.int .i64 0,.ptr p 0,.nilP] 0 true)):=⟨aM _,fun r hr _=>by rw[aU,ah hr.2]⟩;refine⟨.ptr p 0,rfl,(hv.keep (S:=fun k=>c.S k/\k≠H.next+1) Ef).sub fun k _ hk=>hk.1,⟨by rw[zcS];omega,fun r _ hr=>?_⟩⟩;rw[aU,ah ac,E4.get r trivial (by rw[zcB,zcB];omega)];exact C.get r trivial hr
 rw[ah c26]at h;obtain⟨ra,O,Z⟩:=ch.1 h;obtain⟨rb,h3,A⟩:=ch.1 Z;rw[az]at A;subst A;clear h Z;have d26:¬i=26:=ac;have d27:¬i=27:=ac;have d28:¬i=28:=ac;have d29:¬i=29:=ac;obtain⟨ma,sva,ka,_,hma,_,ixa,hAa⟩:=W.kid O;obtain⟨mb,svb,kb,_,hmb,_,ixb,hAb⟩:=W.kid h3;simp only at ka kb;have aa:=(hAa _ Y).l1;have ab:=(hAb _ Y).l1;refine zcv (M:=200) (rs:=[.cell 4 134]) (J.call _) J.ice J.froz Tryz.func104 rfl rfl jj.2 rfl ?_;dsimp only[jj,zcr,Nat.reduceAdd];have U:=@sf;repeat' (first
  |(apply zcl ?_;clear hK K)|apply Ry.o ?_|apply b7 ?_|(apply bK ?_;first|refine Rx.k (hT.kBi _ _ _ _) ?_)|(apply aB (fun z V=>?_) (fun z V=>?_)<;>try(cases z;done))|apply ak ?_|(apply zcm fun K hK=>?_)|(apply zc4 33 [(1,24),(5,24),(7,24),(9,24),(12,24),(16,24),(18,24),(20,24),(23,24)] fun K hK=>?_)|(apply zcV ?_;try intro _)|(apply zc5 ?_ ?_<;>clear hK K)|apply bD ?_|apply zeS rfl ?_|apply ay ?_|apply zco ?_|apply am ?_)
 .exact eK
 all_goals (refine⟨eI,_,(by(try simp only[zcz,Nat.reduceBEq,zd2,zee,oT, *]);first|done|with_reducible rfl),?_⟩;try simp only[zcn])
 exact⟨.nilP,rfl,rfl,Ed _⟩
end
end
section
def tyR3b.tyF:=ad @bZ (ad @dl (ad @iA (ad @iB (ad @gk (ad @jv (@cI))))))
open tyR3b
mutual
def iF:Ex->Nat
 | .mk _ _ _ _ V=>qo V
def qo:List Ex->Nat
 |[]=>0
 |e::es=>max (1+iF e) (qo es)
end
def ux(x:Ex):List AV:=[.agg x.cells]
theorem Xb(x y:Ex)(h:ux x=ux y):x=y:=by simp only[ux,cM,AV.agg.injEq,aY]at h;exact Ex.inj h
mutual
def n1:St->Nat
 | .mk _ _ _ _ _ _ _ Y Z=>1+zei Y+zei Z
def zei:List St->Nat
 |[]=>0
 |x::l=>n1 x+zei l
end
mutual
def zex:St->Nat
 | .mk k _ _ _ _ _ _ Y Z=>(if k=4 then 1 else 0)+zef Y+zef Z
def zef:List St->Nat
 |[]=>0
 |x::l=>zex x+zef l
end
mutual
def zdY:St->Nat->Nat
 | .mk _ _ _ _ _ _ _ Y Z,d=>max d (max (zeW Y (d+1)) (zeW Z (d+1)))
def zeW:List St->Nat->Nat
 |[],_=>0
 |x::l,d=>max (zdY x d) (zeW l d)
end
theorem zej{z:Int}(h1:-9223372036854775808<=z)(h2:z<9223372036854775808):IntKind.wrap .i64 z=z:=pG _ ac
theorem Xc(a b c:AV):Ab.extract (.tup [a,b,c]) 0=some a:=rfl
theorem Xd(a b c:AV):Ab.extract (.tup [a,b,c]) 1=some b:=rfl
theorem Xe(a b c:AV):Ab.extract (.tup [a,b,c]) 2=some c:=rfl
end
section
def tyEvF.tyF:=ad @cI (ad @bZ (ad @lk (ad @d8 (ad @eY (ad @eL (ad @ju (ad @ll (ad @oH (ad @p9 (ad @qc (ad @rW (ad @qd (ad @qe (ad @qf (@qn)))))))))))))))
open tyEvF
noncomputable def F0:{c:SC // aA 59 (Tryz.f65.body.getD .skip)=c}:=by
 refine⟨?_,?_⟩;rotate_left
 .simp only[Tryz.f65,a3,aA,zcG,zcE,zcJ,zcK,Nat.blt,Nat.ble];rfl
theorem F2{z:Nat}{w:List AV}(J:w.length=z):∀{rows:List (List AV)}{i:Nat},(∀x∈rows,x.length=z)->i<rows.length->splice rows.flatten (i*z) w=(rows.set i w).flatten
 |[],i,_,e=>by simp at e
 |a::rows,0,h,e=>by
  have F:=h a eW;simp only[splice,tB,uu,lK,bw,lN,AZ];rw[vM ac,yC ac,lK]
 |a::rows,i+1,h,e=>by
  have F:=h a eW;have ih:=F2 J (rows:=rows) (i:=i) (fun x Z=>h x (e8 _ Z)) ww;simp only[splice,lN,List.set_cons_succ]at ih⊢;have Y:(i+1)*z=a.length+i*z:=by rw[pF,F];omega
  rw[Y,List.take_length_add_append,gG,Fi,f8,f8];rw[f8]at ih;rw[ih]
theorem Xf{P:Program}{t z q i:Nat}{tip:Bool}{H:Hp}{rows:List (List AV)}{w:List AV}(K:zcC P t=some z)(A:H.get q=some (.cells rows.flatten 0 tip))(m:∀x∈rows,x.length=z)(C:i<rows.length)(J:w.length=z)(h1:w.all AV.one=true):zet P H t (.ptr q (i*z)) (.agg w)=some (H.set q (.cells (rows.set i w).flatten 0 tip)):=by
 have I:=wA m;have Z:i*z+z<=rows.flatten.length:=by
  rw[I];have:(i+1)*z<=rows.length*z:=rz z C;rw[pF]at this;exact this
 simp only[zet,A,K];show(if w.length=z/\0<=i*z/\i*z+z<=rows.flatten.length/\w.all AV.one=true then some (H.set q (.cells (splice rows.flatten (i*z) w) 0 tip))else none)=_;rw[ax ⟨J,cK _,Z,h1⟩,F2 J m C]
theorem Cx9.Ok.less{c:Cx9}(h:c.Ok)(q:Nat):(c.less q).Ok:=⟨h.g,h.ne,fun k=>h.sx k.1,fun k=>h.sr k.1,h.len⟩
theorem Fr9.more{c:Cx9}{q:Nat}{H:Hp}{rows:List (List AV)}{Z:List R9}(h:Fr9 (c.less q) H rows Z):Fr9 c H rows Z:=
 ⟨h.x,h.r,h.lx,h.lr,h.st.sub (T:=c.S) fun _ _ k=>k.1,h.rows.mono fun a b hr=>hr.sub (T:=c.S) fun _ _ k=>k.1,fun k j=>(h.up k j).1,h.len⟩
theorem Fr9.move{c:Cx9}{q L:Nat}{H Z:Hp}{rows:List (List AV)}{Y:List R9}(h:Fr9 (c.less q) H rows Y)(m:H.next<=Z.next)(A:∀r,r<H.next->r≠q->Z.get r=H.get r)(F:q≠c.xp)(hr:q≠c.rp)(h2:H.next<=L)(o:L<Z.next):Fr9 (c.less L) Z rows Y:=by
 have a:∀k,k<H.next->(c.less q).S k->c.S k/\k≠q/\k<H.next:=fun k j hS=>⟨hS.1,hS.2,j⟩
 have E:Ext9 (fun k=>c.S k/\k≠q/\k<H.next) H Z:=⟨m,fun k j I=>A k I j.2.1⟩;have b:∀k,k<Z.next->(c.S k/\k≠q/\k<H.next)->(c.less L).S k:=fun k _ j=>⟨j.1,by have:=j.2.2;omega⟩
 exact⟨by have:=A c.xp h.lx (Ne.symm F);exact this.trans h.x,by have:=A c.rp h.lr (Ne.symm hr);exact this.trans h.r,fZ h.lx m,fZ h.lr m,((h.st.sub a).keep E).sub b,h.rows.mono fun x y hr=>((hr.sub a).keep E).sub b,fun k j=>⟨(h.up k (eG m j)).1,ac⟩,h.len⟩
theorem Fr9.upd{c:Cx9}(O:c.Ok){H:Hp}{rows:List (List AV)}{Z:List R9}(h:Fr9 c H rows Z){i:Nat}{F:AV}{t:R9}(J:iE c.S H F t.s):Fr9 c (H.set c.rp (.cells (rows.set i [.bool true,.int .i64 t.v,F,.nilP]).flatten 0 true)) (rows.set i [.bool true,.int .i64 t.v,F,.nilP]) (Z.set i t.known):=by
 have E:Ext9 c.S H (H.set c.rp (.cells (rows.set i [.bool true,.int .i64 t.v,F,.nilP]).flatten 0 true)):=⟨aM _,fun k j _=>by rw[aU,ah (fun e:k=c.rp=>O.sr (by rw[<-e];exact j))]⟩;refine⟨?_,hB,h.lx,h.lr,h.st.keep E,?_,h.up,by rw[lW];exact h.len⟩
 .rw[aU,ah O.ne,lW];exact h.x
 .exact zcW.set (h.rows.mono fun a b hr=>hr.keep E) ⟨F,rfl,J.keep E⟩
theorem Xg{H:Hp}{q r:Nat}{k:Int}{st:List Int}{junk:List AV}(A:H.get q=some (.cells (zdt st.reverse++junk) 0 true))(hr:H.get r=some (.cells [.int .i64 k] 0 true))(J:q≠r)(I:st.length<2^30)(U:q<H.next):
 ∃W,zdX Tryz.prog false H 23 23 (.sl q 0 st.length 1) (.sl r 0 1 1)=some (.sl H.next 0 (st.length+1) 1,W)/\H.next+1<=W.next/\W.get H.next=some (.cells (zdt (k::st).reverse) 0 true)/\∀p,p<H.next->p≠q->W.get p=H.get p:=by
 have F:zer H 1 (.sl r 0 1 1)=some (0+1,[.int .i64 k]):=by
  have:=lT (H:=H) (r:=r) (o:=0) (n:=1) (z:=1) (s:=1) hr aD;rw[this];rfl
 have Z:(zdt st.reverse).length=st.length:=by rw[t7,qk]
 obtain⟨K,C,L,M,g⟩:∃K,fY false H 1 (.sl q 0 st.length 1)=K/\K.next=H.next/\K.get q=some (.cells (zdt st.reverse) 0 true)/\∀p,p≠q->K.get p=H.get p:=by
  cases junk with
  |nil=>
   rw[br]at A;refine⟨H,?_,rfl,A,fun _ _=>rfl⟩;unfold fY;simp only[A,bw,gg,Z];have:Nat.blt st.length st.length=false:=by
    cases V:Nat.blt st.length st.length with
    |false=>rfl
    |true=>rw[gE]at V;omega
   simp only[gL,de,this,dK]
  |cons a j=>
   refine⟨H.set q (.cells ((zdt st.reverse++a::j).take (0+st.length*1)) 0 true),?_,rfl,?_,fun p hp=>by rw[aU,ah hp]⟩
   .unfold fY;simp only[A];have:Nat.blt (0+st.length*1) (zdt st.reverse++a::j).length=true:=by rw[gE,fj,Z,dg];omega
    simp only[gL,de,this];rfl
   .rw[aU,ax rfl,bw,gg,yB ac,ev ac]
 refine⟨(K.kill q).alloc (.cells ((zdt st.reverse).drop 0++[.int .i64 k]) (0-0) true),?_,by rw[zcB,ze7];omega,?_,fun p hp Y=>?_⟩
 .simp only[zdX,Tryz.underlying23,jf,p7,p8,show j9 Tryz.prog 23=true by kernel_rfl,F,mR,AY,C,jH,M];simp only[DT,pM,dg,jo,mE,bT,cr,ck,bw,gg,Z,cK,L,kq];rw[ax ⟨mQ,mQ,trivial⟩]
 .rw[<-L];show((K.kill q).alloc _).get (K.kill q).next=_
  rw[zcu,ax rfl,A0,zdt,zdt,pL];rfl
 .rw[zcu,ah (by rw[ze7];omega),zem,ah Y,g p Y]
structure Stk9 (H:Hp) (q:Nat) (v:AV) (st:List Int):Prop where
 lt:q<H.next
 v:(st=[]/\v=.lst [])\/(st≠[]/\v=.sl q 0 st.length 1/\∃junk,H.get q=some (.cells (zdt st.reverse++junk) 0 true))
theorem Xh(q n:Nat):zeh Tryz.prog 23 (.sl q 0 (n+1) 1) none (some (.int .i64 (n:Int)))=some (if 0=n then .lst []else .sl q 0 n 1):=by
 show zeh Tryz.prog 23 (.sl q 0 (n+1) 1) none (some (.int .i64 (Int.ofNat n)))=_;simp only[zeh,Tryz.underlying23,jf,zd3];by_cases h:0=n
 .subst h;simp
 .simp[h]
section
variable {tb:List En} (hT:EvT tb) {c:Cx9} {H:Hp} {rows:List (List AV)} {res:List R9}
include hT
theorem F8(hc:c.Ok)(hkk:∀nd∈c.g.nodes,nd.kids.length<2^30)(hF:Fr9 c H rows res){n:Nat}{i0:Int}{U:List R9}(h:ja c.g.nodes c.start c.args n res [i0]=some U):zcx Tryz.prog (zcq pls tb) 65 [.ptr c.xp 0,.int .i64 i0] H fun _ H'=>∃rows2,Fr9 c H' rows2 U/\H.next<=H'.next/\∀r,r<H.next->r≠c.rp->H'.get r=H.get r:=by
 have hw:Plain (zcq pls tb) 65:=hT.plain db;have hkeep:(zcq pls tb).keep 65=false:=rfl;have bs1:∀H k,zdS Tryz.prog H 23 1 [(0,.int .i64 k)]=some (.sl H.next 0 1 1,H.alloc (.cells [.int .i64 k] 0 true)):=fun _ _=>af;refine zcv (M:=59) (rs:=[]) (hw.call _) hw.ice hw.froz Tryz.func65 rfl rfl F0.2 rfl ?_;dsimp only[F0,zcr,Nat.reduceAdd];repeat' (first
  |(apply zcl ?_;clear hK K)|apply Rx.o ?_|apply ak ?_|(apply zcm fun K hK=>?_)|apply ay ?_|fail)
 refine pQ (fun m E A=>∃st O Z q v,ja c.g.nodes c.start c.args m Z st=some U/\E.at 0=.ptr c.xp 0/\E.at 4=v/\Stk9 A q v st/\H.next<=q/\Fr9 (c.less q) A O Z/\st.length<2^20+2/\∀r,r<H.next->r≠c.rp->A.get r=H.get r) ?_ (n:=n) ?_
 .rintro m E A ⟨st,O,Z,q,v,Y,zdz,k4,hst,hq,W,hlen,J⟩;have o:=hst.lt;cases m with
  |zero=>simp[ja]at Y
  |succ m=>
   cases st with
   |nil=>
    rcases hst.v with⟨_,rfl⟩|⟨I,_⟩
    .rw[ja,az]at Y;subst Y;repeat' (first
      |(apply zcl ?_;clear hK K)|apply Ry.o ?_|(apply aB (fun z V=>?_) (fun z V=>?_)<;>try(cases z;done))|apply ak ?_|(apply zcm fun K hK=>?_)|apply zcA ?_)
     all_goals (refine⟨eI,_,eR,?_⟩;try simp only[zcn])
     exact⟨O,W.more,ac,J⟩
    .exact absurd rfl I
   |cons i st=>
    rcases hst.v with⟨I,_⟩|⟨_,rfl,junk,gq⟩
    .cases I
    rw[dg]at hlen k4;rw[ja]at Y;obtain⟨r,hr,Y⟩:=ch.1 Y;obtain⟨i,rfl⟩:∃m:Nat,i=m:=⟨i.toNat,by obtain⟨_,h0,_⟩:=W.get hr;omega⟩;obtain⟨sv,hn,ho,hx,hA⟩:=W.at hr;have gx:A.get c.xp=some (.cells (gQ c.u c.hv c.f c.sv c.args c.rp Z.length) 0 true):=W.x;unfold gQ at gx;have hx:zcU Tryz.prog 127 (.sl c.rp 0 Z.length 4) (.int .i64 (i:Int))=some (.ptr c.rp (i*4)):=hx;have a0:zdZ Tryz.prog A 4 (.ptr c.rp (i*4))=some (.bool r.k):=(hA _ W).l0;have gi:(zdt ((i:Int)::st).reverse++junk)[st.length]?=some (.int .i64 (i:Int)):=by
     rw[A0,zdt,pL,f8,jI (by rw[cR,qk];exact aM _),cR,qk,kq];rfl
    have e1:IntKind.wrap .i64 (((st.length+1:Nat):Int)-1)=(st.length:Int):=by rw[show((st.length+1:Nat):Int)-1=(st.length:Int) by omega];exact zej ac ac
    have ixq:zcU Tryz.prog 23 (.sl q 0 (st.length+1) 1) (.int .i64 (st.length:Int))=some (.ptr q st.length):=by rw[mH Tryz.underlying23 jf (cL _)];simp
    have p0:((0:Int)<((st.length+1:Nat):Int)):=ac;have sq:=Xh q st.length;obtain⟨rk,rv,rs⟩:=r;cases rk with
    |true=>
     rw[ax rfl]at Y;repeat' (first
      |(apply zcl ?_;clear hK K)|apply Ry.o ?_|(apply aB (fun z V=>?_) (fun z V=>?_)<;>try(cases z;done))|apply ak ?_|(apply zcm fun K hK=>?_)|apply ay ?_|apply zco ?_|apply zcA ?_)
     refine⟨m,cL _,st,O,Z,q,(if 0=st.length then .lst []else .sl q 0 st.length 1),Y,eE,eE,⟨o,?_⟩,hq,W,ac,J⟩;by_cases hz:st=[]
     .subst hz;exact .inl ⟨rfl,rfl⟩
     .refine .inr ⟨hz,ah (fun e=>hz (A1 e.symm)),.int .i64 (i:Int)::junk,?_⟩;rw[gq,A0,zdt,zdt,pL,f8];rfl
    |false=>
     rw[ah aD]at Y;obtain⟨nd,hnd,Y⟩:=ch.1 Y;obtain⟨k,hk,Y⟩:=ch.1 Y;rw[dL]at hnd;have hkl:=hkk nd (jL hnd);have kn:zcx Tryz.prog (zcq pls tb) 103 [.ptr c.xp 0] A fun w H'=>w=.lst (c.g.nodes.map Nd.cells)/\H'=A:=FZ (c:=c.less q) hT (hc.less q) W;have hnw:=Nd.whole nd;repeat' (first
      |(apply zcl ?_;clear hK K)|apply Ry.o ?_|(apply bK ?_;first|refine Rx.k (kn) ?_)|(apply aB (fun z V=>?_) (fun z V=>?_)<;>try(cases z;done))|apply ak ?_|(apply zcm fun K hK=>?_)|apply ay ?_|apply zco ?_|fail)
     refine bg rfl bh bj ?_;simp only[br];refine a7 ?_ (W8 hT W hkl hk);rintro v H3 ⟨rfl,E3⟩;dsimp only[zcF];have C:=W.keep E3.next fun r hr=>E3.get r trivial hr
     have gq3:=(E3.get q trivial o).trans gq;have n3:=E3.next
     have lx:=hF.lx;have lr:=hF.lr;by_cases hk0:0<=k
     .rw[ax hk0]at Y;split at Y
      .rename_i hl2;obtain⟨H5,ap,n5,g5,zep⟩:=Xg (H:=H3.alloc (.cells [.int .i64 k] 0 true)) (q:=q) (r:=H3.next) (k:=k) (st:=(i:Int)::st) (junk:=junk) (by rw[zcu,ah ac];exact gq3) ij ac AH uj;rw[dg]at ap;rw[zcB]at ap n5 g5 zep;repeat' (first
        |(apply zcl ?_;clear hK K)|apply Ry.o ?_|(apply aB (fun z V=>?_) (fun z V=>?_)<;>try(cases z;done))|apply ak ?_|(apply zcm fun K hK=>?_)|apply zcA ?_)
       refine⟨m,cL _,k::(i:Int)::st,O,Z,H3.next+1,.sl (H3.next+1) 0 (st.length+1+1) 1,Y,eE,eE,⟨ac,.inr ⟨aD,rfl,[],by rw[br];exact g5⟩⟩,ac,C.move ac (fun r hr I=>by rw[zep r ac I,zcu,ah ac]) ac ac ac ac,AW,fun r hr I=>?_⟩;rw[zep r ac ac,zcu,ah ac,E3.get r trivial ac];exact J r hr I
      .cases Y
     .rw[ah hk0]at Y;obtain⟨t,ht,Y⟩:=ch.1 Y;rw[dL]at Y;have kn3:zcx Tryz.prog (zcq pls tb) 103 [.ptr c.xp 0] H3 fun w H'=>w=.lst (c.g.nodes.map Nd.cells)/\H'=H3:=FZ (c:=c.less q) hT (hc.less q) C;repeat' (first
       |(apply zcl ?_;clear hK K)|apply Ry.o ?_|(apply bK ?_;first|refine Rx.k (kn3) ?_)|(apply aB (fun z V=>?_) (fun z V=>?_)<;>try(cases z;done))|apply ak ?_|(apply zcm fun K hK=>?_)|apply zco ?_|fail)
      refine bg rfl bh bj ?_;simp only[br];refine a7 ?_ (Xa hT C hkl ht);rintro v g ⟨F,rfl,ho4,E4⟩;dsimp only[zcF];have hF4:=C.keep E4.next fun r hr=>E4.get r trivial hr
      obtain⟨u1,u2⟩:=ho4.two;have n4:=E4.next
      have z1:AV.one .nilP=true:=rfl;have z2:AV.cells .nilP=[.nilP]:=rfl;have gx4:g.get c.xp=some (.cells (gQ c.u c.hv c.f c.sv c.args c.rp Z.length) 0 true):=hF4.x;unfold gQ at gx4;have y4:(c.xp == g.next)=false:=zcD ac;repeat' (first
       |(apply zcl ?_;clear hK K)|apply Ry.o ?_|apply b7 ?_|apply ak ?_|(apply zcm fun K hK=>?_)|(apply nU 10 fun K hK=>?_)|fail)
      generalize j:Hp.set (Hp.set (Hp.alloc g _) _ _) _ _=Hb;have nb:g.next+1<=Hb.next:=AI
      have kb:∀r,r<g.next->Hb.get r=g.get r:=fun r hr=>by
       rw[<-j];simp only[aU,zcu,ah (show ¬r=g.next by omega)]
      have gb:Hb.get g.next=some (.cells [.bool true,.int .i64 t.v,F,.nilP] 0 true):=AJ
      clear j;have L:=hF4.keep ac kb;have hob:=ho4.keep (H':=Hb) ⟨ac,fun r _ hr=>kb r hr⟩;have gxb:Hb.get c.xp=some (.cells (gQ c.u c.hv c.f c.sv c.args c.rp Z.length) 0 true):=L.x;unfold gQ at gxb;have stR:zet Tryz.prog Hb 134 (.ptr c.rp (i*4)) (.agg [.bool true,.int .i64 t.v,F,.nilP])=some (Hb.set c.rp (.cells (O.set i [.bool true,.int .i64 t.v,F,.nilP]).flatten 0 true)):=Xf ug L.r (Rows9.len L.rows) (by rw[zcW.len L.rows];exact hn) rfl (by simp only[mR,AY,u1,z1,jN];rfl);repeat' (first
       |(apply zcl ?_;clear hK K)|apply b8 ?_|fail)
      refine⟨m,cL _,(i:Int)::st,O.set i [.bool true,.int .i64 t.v,F,.nilP],Z.set i t.known,q,.sl q 0 (st.length+1) 1,Y,eE,eE,⟨by rw[zcS];omega,.inr ⟨aD,rfl,junk,?_⟩⟩,hq,L.upd (hc.less q) hob,AW,fun r hr I=>?_⟩
      .rw[aU,ah ac,kb q ac,E4.get q trivial ac];exact gq3
      .rw[aU,ah I,kb r ac,E4.get r trivial ac,E3.get r trivial ac];exact J r hr I
 .exact⟨[i0],rows,res,H.next,_,h,eE,eE,⟨cL _,.inr ⟨aD,rfl,[],hW⟩⟩,aM _,hF.less ⟨f7 _,fun r _ hr=>fF⟩ (aM _) (cL _),by show 1<_;omega,fun r hr _=>fF⟩
end
end
end Go.Proofs.YtljebeflbbgibaaGreat
namespace Go.Ab
set_option maxRecDepth 20000
open Go
instance:DecidableEq Nd:=fun x y=>decidable_of_iff (x.op=y.op/\x.imm=y.imm/\x.kids=y.kids) (by cases x;cases y;simp)
def bc(op:Int):Int×Bool:=
 if op=1\/op=2\/op=3\/op=26 then (0,true)
 else if op=20\/op=21\/op=24\/op=25 then (1,true)
 else if op=23\/op=27\/op=29 then (2,true)
 else if op=22\/op=28 then (3,true)
 else if op=30\/op=31 then (-1,true)
 else if 4<=op/\op<=19 then (2,true)
 else (0,false)
def dM(n:Int):Int:=(n-1).tdiv 2
def jX(l:List Nd)(k:Int):Int:=match l[k.toNat]? with
 |some n=>n.kids.length
 |none=>0
def zdH(l:List Nd)(n:Nd):Int:=
 if n.op=2 then 5 else if n.op=3 then 255 else if n.op=23\/n.op=28 then 3 else if n.op=30 then 7 else if n.op=31 then 15
 else if n.op=25 then dM (jX l (n.kids.headD 0))-1 else 0
def zdi(l:List Nd)(n:Nd):Bool:=
 if n.op=1 then true
 else if n.op=27 then decide (1<=n.imm)&&decide (n.imm<=1000016)
 else decide (0<=n.imm)&&decide (n.imm<=zdH l n)
def zdI(op:Int):List Int:=
 if op=22 then [1,1,1]else if op=23\/op=27\/op=29 then [2,1]else if op=28 then [2,1,1]else if op=24 then [2]else if op=25 then [3]else [1,1]
def zde:List Int->List Int->Bool
 |[],_=>true
 |a::s,w=>decide (a=w.headD 0)&&zde s w.tail
def iG(n:Nat):List Int:=((List.replicate n (1:Int)).set 0 2).set (dM n+1).toNat 2
def zc1(op:Int)(s:List Int):Bool:=
 if (bc op).2=false then false
 else if 0<=(bc op).1/\(bc op).1≠s.length then false
 else if op=31 then decide (3<=s.length)&&decide (s.length%2=1)&&decide (dM s.length<=16)&&zde s (iG s.length)
 else if op=30 then decide (1<=s.length)&&decide (s.length<=7)&&decide (s.headD 0=2)&&s.tail.all fun x=>decide (x=1)
 else if op=22/\s.getD 1 0=2 then decide (s.headD 0=1)&&decide (s.getD 2 0=2)
 else zde s (zdI op)
def jt(i:Nat)(C:List Int):List Int->Option (List Int)
 |[]=>some []
 |k::ks=>if k<0\/(i:Int)<=k\/C.getD k.toNat 0=0 then none else (jt i C ks).map fun s=>C.getD k.toNat 0::s
def dF(n:Nd)(s:List Int):Int:=
 if n.op=31 then 3
 else if n.op=26\/n.op=27\/n.op=28\/n.op=29\/n.op=30 then 2
 else if n.op=22 then s.getD 1 0
 else if n.op=3/\n.imm.tmod 16=0 then 2
 else if n.op=25/\n.imm=0 then 2
 else 1
def zeg(l:List Nd)(i:Nat)(C:List Int):Int:=match l[i]? with
 |none=>0
 |some n=>match jt i C n.kids with
  |none=>0
  |some s=>if zc1 n.op s&&zdi l n then dF n s else 0
def zcZ(l:List Nd):Nat->List Int
 |0=>[]
 |i+1=>zcZ l i++[zeg l i (zcZ l i)]
def zdq(l:List Nd)(i:Int):Int:=if i<0\/(l.length:Int)<=i then 0 else (zcZ (l.take (i.toNat+1)) (i.toNat+1)).getD i.toNat 0
theorem zfb(l:List Nd):∀i,(zcZ l i).length=i
 |0=>rfl
 |i+1=>by rw[zcZ,fj,zfb l i];rfl
theorem uy(l:List Nd):∀{i j:Nat},j<i->(zcZ l i).getD j 0=zeg l j (zcZ l j)
 |0,j,h=>by omega
 |i+1,j,h=>by
  rw[zcZ];by_cases e:j<i
  .rw[cJ,i7 (by rw[zfb];exact e),<-cJ];exact uy l e
  .obtain rfl:j=i:=by omega
   rw[cJ,jI oP,zfb,kq];rfl
theorem sg{i:Nat}{C:List Int}:∀{V s:List Int},jt i C V=some s->∀k∈V,0<=k/\k<i/\C.getD k.toNat 0≠0
 |[],s,_,k,h=>by simp at h
 |a::V,s,h,k,j=>by
  rw[jt]at h;split at h
  .cases h
  .rename_i c;obtain⟨t,Z,_⟩:=mr.1 h;rcases fk.1 j with rfl|j
   .omega
   .exact sg Z k j
theorem oU{i:Nat}{C:List Int}:∀{V s:List Int},jt i C V=some s->s.length=V.length
 |[],s,h=>by cases h;rfl
 |a::V,s,h=>by
  rw[jt]at h;split at h
  .cases h
  .obtain⟨t,Z,rfl⟩:=mr.1 h;rw[dg,dg,oU Z]
theorem Xi{l:List Nd}{i:Nat}{C:List Int}{n:Nd}(m:l[i]?=some n)(h:zeg l i C≠0):∃s,jt i C n.kids=some s/\zc1 n.op s=true/\zdi l n=true:=by
 unfold zeg at h;rw[m]at h;simp only at h;split at h
 .exact absurd rfl h
 .rename_i s K;split at h
  .rename_i c;rw[dp]at c;exact⟨s,K,c.1,c.2⟩
  .exact absurd rfl h
theorem Xj{l:List Nd}{m:Nat}{n:Nd}(h:n.op=25->∃k V,n.kids=k::V/\k.toNat<m):zdi (l.take m) n=zdi l n:=by
 have e:zdH (l.take m) n=zdH l n:=by
  unfold zdH;by_cases c:n.op=25
  .obtain⟨k,V,i,g⟩:=h c;rw[c];simp only[i,uv,jX,mq,g,bT]
  .simp only[c,ck]
 unfold zdi;rw[e]
theorem Xk{l:List Nd}{i m:Nat}(M:i<m)(C:List Int):zeg (l.take m) i C=zeg l i C:=by
 unfold zeg;rw[mq,ax M];cases U:l[i]? with
 |none=>rfl
 |some n=>
  simp only;cases Z:jt i C n.kids with
  |none=>rfl
  |some s=>
   simp only;by_cases c:zc1 n.op s=true
   .have e:zdi (l.take m) n=zdi l n:=Xj fun j=>by
     have I:=oU Z;have Y:s.length=1:=by
      have c2:=c;unfold zc1 at c2;rw[j]at c2;have:bc 25=(1,true):=dr;rw[this]at c2;simp only at c2;split at c2
      .cases c2
      .split at c2
       .cases c2
       .omega
     cases K:n.kids with
     |nil=>rw[K,Y]at I;simp at I
     |cons k V=>
      refine⟨k,V,rfl,?_⟩;have:=sg Z k (by rw[K];exact eW);omega
    rw[e]
   .have W:zc1 n.op s=false:=by simpa using c
    rw[W,dK,dK]
theorem F9{l:List Nd}{m:Nat}:∀{i:Nat},i<=m->zcZ (l.take m) i=zcZ l i
 |0,_=>rfl
 |i+1,h=>by rw[zcZ,zcZ,F9 (by omega:i<=m),Xk ac]
theorem Ga{l:List Nd}{i:Nat}(h:i<l.length):zdq l i=zeg l i (zcZ l i):=by
 unfold zdq;rw[ah ac,dL,F9 (aM _),uy l (cL i)]
theorem Xl{l:List Nd}{i j:Nat}(O:j<i)(C:i<=l.length):(zcZ l i).getD j 0=zdq l j:=by
 rw[uy l O,Ga ac]
def zdD(op:Int):Int:=if op=2 then 5 else if op=3 then 255 else if op=23\/op=28 then 3 else if op=27 then 1000016 else if op=30 then 7 else if op=31 then 15 else if op=25 then 15 else -1
def zdo(op n:Int):Bool:=
 if op=1 then true
 else if zdD op<0 then decide (n=0)
 else decide (0<=n)&&decide (n<=zdD op)&&(!decide (op=27)||decide (0<n))
def zdw(k:List Int):Bool:=k.all fun x=>decide (x=1)
def zdh(b:Bool)(n:Int):Int:=if b then n else 0
def zcR(l:List Nd)(n:Nd)(k:List Int):Int:=
 if (bc n.op).2=false then 0
 else if 0<=(bc n.op).1/\(n.kids.length:Int)≠(bc n.op).1 then 0
 else if zdo n.op n.imm=false then 0
 else if n.op=3 then (if n.imm.tmod 16=0 then 2 else 1)
 else if n.op=26 then 2
 else if n.op=22 then (if k.headD 0≠1\/k.getD 1 0≠k.getD 2 0\/k.getD 1 0=3 then 0 else k.getD 1 0)
 else if n.op=23 then zdh (decide (k.headD 0=2)&&decide (k.getD 1 0=1)) 1
 else if n.op=24 then zdh (decide (k.headD 0=2)) 1
 else if n.op=25 then (if k.headD 0≠3\/(jX l (n.kids.headD 0)).tdiv 2<=n.imm then 0 else zdh (decide (n.imm=0)) 1+1)
 else if n.op=27\/n.op=29 then zdh (decide (k.headD 0=2)&&decide (k.getD 1 0=1)) 2
 else if n.op=28 then zdh (decide (k.headD 0=2)&&decide (k.getD 1 0=1)&&decide (k.getD 2 0=1)) 2
 else if n.op=30 then zdh (decide (1<=k.length)&&decide (k.length<=7)&&decide (k.headD 0=2)&&zdw (k.drop 1)) 2
 else if n.op=31 then zdh (decide (k.length%2=1)&&decide (1<=k.length/2)&&decide (k.length/2<=16)&&decide (k.headD 0=2)&&zdw ((k.drop 1).take (k.length/2))&&decide (k.getD (k.length/2+1) 0=2)&&zdw (k.drop (k.length/2+2))) 3
 else zdh (zdw k) 1
def A3(l:List Nd)(i:Nat)(C:List Int):Int:=match l[i]? with
 |none=>0
 |some n=>match jt i C n.kids with
  |none=>0
  |some s=>zcR l n s
theorem A4:∀(s w:List Int),s.length<=w.length->(∀x∈w,x=1)->zde s w=zdw s
 |[],w,_,_=>by simp[zde,zdw]
 |a::s,[],h,_=>by simp at h
 |a::s,b::w,h,hw=>by
  have z:=hw b eW;subst z;rw[zde,uv,List.tail_cons,A4 s w iQ (fun x F=>hw x (e8 _ F))];simp[zdw]
theorem w6(a b:Int)(s w:List Int):zde (a::s) (b::w)=(decide (a=b)&&zde s w):=rfl
theorem Xm(n m:Nat)(h:m<n):(List.replicate n (1:Int)).set m 2=List.replicate m 1++2::List.replicate (n-m-1) 1:=by
 apply List.ext_getElem?;intro i;rw[oB,List.getElem?_append];simp only[lX];by_cases c:i<m
 .rw[ah ac,ax c,oM,oM,ax ac,ax c]
 .rw[ah c];by_cases e:m=i
  .subst e;simp[h]
  .rw[ah e];obtain⟨j,rfl⟩:∃j,i=m+1+j:=⟨i-m-1,ac⟩;rw[show m+1+j-m=j+1 by omega,uh,oM,oM];by_cases g:m+1+j<n
   .rw[ax g,ax ac]
   .rw[ah g,ah ac]
theorem Gb:∀(a s w v:List Int),a.length=w.length->zde (a++s) (w++v)=(zde a w&&zde s v)
 |[],s,[],v,_=>by simp[zde]
 |x::a,s,y::w,v,h=>by
  rw[nT,nT,w6,w6,Gb a s w v iQ,ql]
 |[],_,_::_,_,h=>by simp at h
 |_::_,_,[],_,h=>iR
theorem sh(n:Nat)(h:1<=n):dM n=((n-1)/2:Nat):=by
 unfold dM;rw[show(n:Int)-1=((n-1:Nat):Int) by omega];rfl
theorem Xn(s:List Int)(h:3<=s.length)(V:s.length%2=1):zde s (iG s.length)=(decide (s.headD 0=2)&&zdw ((s.drop 1).take (s.length/2))&&decide (s.getD (s.length/2+1) 0=2)&&zdw (s.drop (s.length/2+2))):=by
 obtain⟨m,M⟩:∃m,s.length=2*m+1:=⟨s.length/2,ac⟩;have A:1<=m:=ac;have Y:s.length/2=m:=ac;have Z:(dM s.length+1).toNat=m+1:=by rw[sh _ ac];omega
 have I:iG s.length=2::(List.replicate m 1++2::List.replicate (m-1) 1):=by
  unfold iG;rw[Z,M];have J:List.replicate (2*m+1) (1:Int)=1::List.replicate (2*m) 1:=rfl;rw[J,AZ,List.set_cons_succ,Xm _ _ ac]
  congr 4;omega
 rw[I,Y]
 match s,M with
 |a::t,M=>
  have O:t.length=2*m:=by simpa using M
  rw[w6,uv,ui,dQ];have hd:t=t.take m++t.drop m:=(List.take_append_drop m t).symm;have L:(t.take m).length=m:=ru
  conv=>lhs;rw[hd]
  rw[Gb _ _ _ _ (by rw[L];simp),A4 (t.take m) _ (by rw[L];simp) (fun x F=>FU F)];have W:(a::t).getD (m+1) 0=t.getD m 0:=rfl;have U:(a::t).drop (m+2)=t.drop (m+1):=rfl;rw[W,U];have C:t.drop m=t.getD m 0::t.drop (m+1):=by
   rw[d7 ac,cJ,aO ac];rfl
  rw[C,w6,A4 (t.drop (m+1)) _ co (fun x F=>FU F),ql,ql]
theorem oV{M:Type}{s:List M}(h:s.length=0):s=[]:=A1 h
theorem lz{M:Type}{s:List M}(h:s.length=1):∃a,s=[a]:=by
 match s,h with
 |[a],_=>exact⟨a,rfl⟩
theorem l4{M:Type}{s:List M}(h:s.length=2):∃a b,s=[a,b]:=by
 match s,h with
 |[a,b],_=>exact⟨a,b,rfl⟩
theorem nW{M:Type}{s:List M}(h:s.length=3):∃a b c,s=[a,b,c]:=by
 match s,h with
 |[a,b,c],_=>exact⟨a,b,c,rfl⟩
theorem Xo{l:List Nd}{n:Nd}{s:List Int}(I:s.length=n.kids.length)(j:∀x∈s,1<=x/\x<=3)(h3:s.headD 0=3->n.op=25->∃m:Nat,jX l (n.kids.headD 0)=2*(m:Int)+1/\1<=m/\m<=16):
 (if zc1 n.op s&&zdi l n then dF n s else 0)=zcR l n s:=by
 obtain⟨i,g,L⟩:=n;simp only at I h3;have F:∀a:Int,0<=a->bc i=(a,true)->(s.length:Int)≠a->(if zc1 i s&&zdi l ⟨i,g,L⟩then dF ⟨i,g,L⟩ s else 0)=zcR l ⟨i,g,L⟩ s:=fun a h0 Y K=>by
  have U:zc1 i s=false:=by
   unfold zc1;rw[Y];simp only[k2,ck];rw[ax ⟨h0,Ne.symm K⟩]
  have O:zcR l ⟨i,g,L⟩ s=0:=by
   unfold zcR;simp only[Y,k2,ck];rw[ax ⟨h0,by rw[<-I];exact K⟩]
  rw[U,O];rfl
 have cases:i<1\/31<i\/i=1\/i=2\/i=3\/(4<=i/\i<=19)\/i=20\/i=21\/i=22\/i=23\/i=24\/i=25\/i=26\/i=27\/i=28\/i=29\/i=30\/i=31:=ac;rcases cases with h|h|rfl|rfl|rfl|h|rfl|rfl|rfl|rfl|rfl|rfl|rfl|rfl|rfl|rfl|rfl|rfl
 .have Y:bc i=(0,false):=by
   unfold bc;repeat rw[ah ac]
  simp[zc1,zcR,Y]
 .have Y:bc i=(0,false):=by
   unfold bc;repeat rw[ah ac]
  simp[zc1,zcR,Y]
 -- 1
 .by_cases c:(s.length:Int)=0
  .obtain rfl:=oV (s:=s) ac;have:L=[]:=oV jW;subst this;simp[zc1,zcR,bc,zdi,zdo,dF,zde,zdw,zdh]
  .exact F 0 ac dr c
 -- 2
 .by_cases c:(s.length:Int)=0
  .obtain rfl:=oV (s:=s) ac;have:L=[]:=oV jW;subst this;by_cases b:0<=g/\g<=5
   .have b1:=b.1;have A:=b.2;simp[zc1,zcR,bc,zdi,zdo,zdH,zdD,dF,zde,zdw,zdh,b1,A]
   .simp[zc1,zcR,bc,zdi,zdo,zdH,zdD,dF,zde,zdw,zdh];omega
  .exact F 0 ac dr c
 -- 3
 .by_cases c:(s.length:Int)=0
  .obtain rfl:=oV (s:=s) ac;have:L=[]:=oV jW;subst this;by_cases b:0<=g/\g<=255
   .have b1:=b.1;have A:=b.2;by_cases e:g.tmod 16=0<;>simp[zc1,zcR,bc,zdi,zdo,zdH,zdD,dF,zde,b1,A,e]
   .simp[zc1,zcR,bc,zdi,zdo,zdH,zdD,dF,zde,];omega
  .exact F 0 ac dr c
 -- 4 to 19
 .obtain⟨g1,g2⟩:=h;have q:∀k:Int,(k<4\/19<k)->¬i=k:=fun k j e=>ac;have Y:bc i=(2,true):=by
   unfold bc;rw[ah ac,ah ac,ah ac,ah ac,ah ac,ax ⟨g1,g2⟩]
  have t:∀k:Int,(k<4\/19<k)->decide (i=k)=false:=fun k j=>cX (q k j);by_cases c:(s.length:Int)=2
  .obtain⟨a,b,rfl⟩:=l4 (s:=s) ac;obtain⟨x,y,rfl⟩:=l4 (s:=L) jW;have m0:zdD i=-1:=by unfold zdD;rw[ah (q 2 ac),ah (q 3 ac),ah ac,ah (q 27 ac),ah (q 30 ac),ah (q 31 ac),ah (q 25 ac)]
   have zdY:zdH l ⟨i,g,[x,y]⟩=0:=by unfold zdH;simp only[];rw[ah (q 2 ac),ah (q 3 ac),ah ac,ah (q 30 ac),ah (q 31 ac),ah (q 25 ac)]
   have m2:zdI i=[1,1]:=by unfold zdI;rw[ah (q 22 ac),ah ac,ah (q 28 ac),ah (q 24 ac),ah (q 25 ac)]
   have m3:dF ⟨i,g,[x,y]⟩ [a,b]=1:=by unfold dF;simp only[];rw[ah (q 31 ac),ah ac,ah (q 22 ac),ah (fun e=>q 3 ac e.1),ah (fun e=>q 25 ac e.1)]
   have U:zc1 i [a,b]=(decide (a=1)&&decide (b=1)):=by
    unfold zc1;rw[Y];simp only[k2,ck];rw[ah aD,ah (q 31 ac),ah (q 30 ac),ah (fun e=>q 22 ac e.1),m2];simp[zde]
   have O:zdi l ⟨i,g,[x,y]⟩=decide (g=0):=by
    unfold zdi;simp only[];rw[ah (q 1 ac),ah (q 27 ac),zdY];by_cases z:g=0
    .simp[z]
    .simp[z];omega
   have J:zdo i g=decide (g=0):=by
    unfold zdo;rw[ah (q 1 ac),m0];rfl
   have e4:zcR l ⟨i,g,[x,y]⟩ [a,b]=if g=0 then zdh (zdw [a,b]) 1 else 0:=by
    unfold zcR;simp only[Y,J,k2,ck];rw[ah aD];by_cases z:g=0
    .rw[ah (by simp[z]),ah (q 3 ac),ah (q 26 ac),ah (q 22 ac),ah (q 23 ac),ah (q 24 ac),ah (q 25 ac),ah ac,ah (q 28 ac),ah (q 30 ac),ah (q 31 ac),ax z]
    .rw[ax (by simp[z]),ah z]
   rw[U,O,e4,m3];by_cases z:g=0
   .simp[z,zdh,zdw]
   .simp[z]
  .exact F 2 ac Y c
 -- 20
 .by_cases c:(s.length:Int)=1
  .obtain⟨a,rfl⟩:=lz (s:=s) ac;obtain⟨x,rfl⟩:=lz (s:=L) jW;have V:=j a aD;by_cases b:g=0
   .subst b;simp[zc1,zcR,bc,zdi,zdo,zdH,zdD,dF,zde,zdI,zdw,zdh]
   .have A:¬(0<=g/\g<=0):=by omega
    simp[zc1,zcR,bc,zdi,zdo,zdH,zdD,dF,zde,zdI,b];omega
  .exact F 1 ac dr c
 -- 21
 .by_cases c:(s.length:Int)=1
  .obtain⟨a,rfl⟩:=lz (s:=s) ac;obtain⟨x,rfl⟩:=lz (s:=L) jW;have V:=j a aD;by_cases b:g=0
   .subst b;simp[zc1,zcR,bc,zdi,zdo,zdH,zdD,dF,zde,zdI,zdw,zdh]
   .have A:¬(0<=g/\g<=0):=by omega
    simp[zc1,zcR,bc,zdi,zdo,zdH,zdD,dF,zde,zdI,b];omega
  .exact F 1 ac dr c
 -- 22
 .by_cases c:(s.length:Int)=3
  .obtain⟨a,b,c1,rfl⟩:=nW (s:=s) ac;obtain⟨x,y,z,rfl⟩:=nW (s:=L) jW;have V:=j a aD;have kb:=j b aD;have kc:=j c1 aD;by_cases z:g=0
   .subst z;have ka':a=1\/a=2\/a=3:=ac;have kb':b=1\/b=2\/b=3:=ac;have kc':c1=1\/c1=2\/c1=3:=ac;rcases ka' with rfl|rfl|rfl<;>rcases kb' with rfl|rfl|rfl<;>rcases kc' with rfl|rfl|rfl<;>simp[zc1,zcR,bc,zdi,zdo,zdH,zdD,dF,zde,zdI,]
   .simp[zc1,zcR,bc,zdi,zdo,zdH,zdD,dF,zde,zdI,z];omega
  .exact F 3 ac dr c
 -- 23
 .by_cases c:(s.length:Int)=2
  .obtain⟨a,b,rfl⟩:=l4 (s:=s) ac;obtain⟨x,y,rfl⟩:=l4 (s:=L) jW;have V:=j a aD;have kb:=j b aD;by_cases z:0<=g/\g<=3
   .have C:=z.1;have W:=z.2;simp[zc1,zcR,bc,zdi,zdo,zdH,zdD,dF,zde,zdI,zdh,C,W]
   .have Z:¬(0<=g)\/¬(g<=3):=by omega
    rcases Z with Z|Z <;>simp[zc1,zcR,bc,zdi,zdo,zdH,zdD,zde,zdI,Z]
  .exact F 2 ac dr c
 -- 24
 .by_cases c:(s.length:Int)=1
  .obtain⟨a,rfl⟩:=lz (s:=s) ac;obtain⟨x,rfl⟩:=lz (s:=L) jW;have V:=j a aD;by_cases b:g=0
   .subst b;simp[zc1,zcR,bc,zdi,zdo,zdH,zdD,dF,zde,zdI,zdh]
   .have A:¬(0<=g/\g<=0):=by omega
    simp[zc1,zcR,bc,zdi,zdo,zdH,zdD,dF,zde,zdI,b];omega
  .exact F 1 ac dr c
 -- 25
 .by_cases c:(s.length:Int)=1
  .obtain⟨a,rfl⟩:=lz (s:=s) ac;obtain⟨x,rfl⟩:=lz (s:=L) jW;have V:=j a aD;by_cases e:a=3
   .subst e;obtain⟨m,hm,zdY,m2⟩:=h3 rfl rfl;simp only[uv]at hm;have l1:dM (jX l x)=m:=by rw[hm];unfold dM;rw[show(2*(m:Int)+1-1)=((2*m:Nat):Int) by omega];show(((2*m)/2:Nat):Int)=m;omega
    have l2:(jX l x).tdiv 2=m:=by rw[hm];show(((2*m+1)/2:Nat):Int)=m;omega
    by_cases z:0<=g/\g<=(m:Int)-1
    .have C:=z.1;have W:=z.2;have z3:g<=15:=ac;have M:¬(m:Int)<=g:=ac;by_cases y:g=0
     .subst y;simp[zc1,zcR,bc,zdi,zdo,zdH,zdD,dF,zde,zdI,zdh,l1,l2,];rw[ax ac,ah ac]
     .simp[zc1,zcR,bc,zdi,zdo,zdH,zdD,dF,zde,zdI,zdh,l1,l2,C,W,z3,M,y]
    .by_cases C:0<=g
     .have W:¬g<=(m:Int)-1:=by omega
      have M:(m:Int)<=g:=ac;simp[zc1,zcR,bc,zdi,zdo,zdH,zdD,zde,zdI,l1,l2,C,W,M]
     .simp[zc1,zcR,bc,zdi,zdo,zdH,zdD,zde,zdI,l1,C]
   .simp[zc1,zcR,bc,zdi,zdo,zdH,zdD,zde,zdI,e]
  .exact F 1 ac dr c
 -- 26
 .by_cases c:(s.length:Int)=0
  .obtain rfl:=oV (s:=s) ac;have:L=[]:=oV jW;subst this;by_cases b:g=0
   .subst b;simp[zc1,zcR,bc,zdi,zdo,zdH,zdD,dF,zde,]
   .have A:¬(0<=g/\g<=0):=by omega
    simp[zc1,zcR,bc,zdi,zdo,zdH,zdD,dF,zde,b];omega
  .exact F 0 ac dr c
 -- 27
 .by_cases c:(s.length:Int)=2
  .obtain⟨a,b,rfl⟩:=l4 (s:=s) ac;obtain⟨x,y,rfl⟩:=l4 (s:=L) jW;have V:=j a aD;have kb:=j b aD;by_cases z:1<=g/\g<=1000016
   .have C:=z.1;have W:=z.2;have z3:0<=g:=ac;have M:0<g:=ac;simp[zc1,zcR,bc,zdi,zdo,zdD,dF,zde,zdI,zdh,C,W,z3,M]
   .have Z:¬(1<=g)\/¬(g<=1000016):=by omega
    rcases Z with Z|Z
    .have M:¬0<g:=by omega
     simp[zc1,zcR,bc,zdi,zdo,zdD,zde,zdI,Z,M]
    .simp[zc1,zcR,bc,zdi,zdo,zdD,zde,zdI,Z]
  .exact F 2 ac dr c
 -- 28
 .by_cases c:(s.length:Int)=3
  .obtain⟨a,b,c1,rfl⟩:=nW (s:=s) ac;obtain⟨x,y,z,rfl⟩:=nW (s:=L) jW;have V:=j a aD;have kb:=j b aD;have kc:=j c1 aD;by_cases z:0<=g/\g<=3
   .have C:=z.1;have W:=z.2;simp[zc1,zcR,bc,zdi,zdo,zdH,zdD,dF,zde,zdI,zdh,C,W,ql]
   .have Z:¬(0<=g)\/¬(g<=3):=by omega
    rcases Z with Z|Z <;>simp[zc1,zcR,bc,zdi,zdo,zdH,zdD,zde,zdI,Z]
  .exact F 3 ac dr c
 -- 29
 .by_cases c:(s.length:Int)=2
  .obtain⟨a,b,rfl⟩:=l4 (s:=s) ac;obtain⟨x,y,rfl⟩:=l4 (s:=L) jW;have V:=j a aD;have kb:=j b aD;by_cases b:g=0
   .subst b;simp[zc1,zcR,bc,zdi,zdo,zdH,zdD,dF,zde,zdI,zdh]
   .have A:¬(0<=g/\g<=0):=by omega
    simp[zc1,zcR,bc,zdi,zdo,zdH,zdD,dF,zde,zdI,b];omega
  .exact F 2 ac dr c
 -- 30
 .have U:zc1 30 s=(decide (1<=s.length)&&decide (s.length<=7)&&decide (s.headD 0=2)&&zdw (s.drop 1)):=by
   simp[zc1,bc,zdw,List.drop_one]
  have O:zcR l ⟨30,g,L⟩ s=if zdo 30 g=false then 0 else zdh (decide (1<=s.length)&&decide (s.length<=7)&&decide (s.headD 0=2)&&zdw (s.drop 1)) 2:=by
   simp[zcR,bc]
  have J:zdi l ⟨30,g,L⟩=zdo 30 g:=by simp[zdi,zdo,zdH,zdD]
  rw[U,O,J];generalize (decide (1<=s.length)&&decide (s.length<=7)&&decide (s.headD 0=2)&&zdw (s.drop 1))=v;cases zdo 30 g<;>cases v<;>simp[dF,zdh]
 -- 31
 .have J:zdi l ⟨31,g,L⟩=zdo 31 g:=by simp[zdi,zdo,zdH,zdD]
  have O:zcR l ⟨31,g,L⟩ s=if zdo 31 g=false then 0 else zdh (decide (s.length%2=1)&&decide (1<=s.length/2)&&decide (s.length/2<=16)&&decide (s.headD 0=2)&&zdw ((s.drop 1).take (s.length/2))&&decide (s.getD (s.length/2+1) 0=2)&&zdw (s.drop (s.length/2+2))) 3:=by
   simp[zcR,bc]
  have U:zc1 31 s=(decide (s.length%2=1)&&decide (1<=s.length/2)&&decide (s.length/2<=16)&&decide (s.headD 0=2)&&zdw ((s.drop 1).take (s.length/2))&&decide (s.getD (s.length/2+1) 0=2)&&zdw (s.drop (s.length/2+2))):=by
   have e:zc1 31 s=(decide (3<=s.length)&&decide (s.length%2=1)&&decide (dM s.length<=16)&&zde s (iG s.length)):=by simp[zc1,bc]
   rw[e];by_cases p:3<=s.length
   .by_cases o:s.length%2=1
    .rw[Xn s p o,sh _ ac];have t1:1<=s.length/2:=ac;have t2:decide ((((s.length-1)/2:Nat):Int)<=16)=decide (s.length/2<=16):=by
      rw[kF];omega
     rw[t2];simp only[cB p,cB o,cB t1,de,ql]
    .simp only[cX o,se]
   .have p2:decide (3<=s.length)=false:=cX p;rw[p2];simp only[dK]
    symm
    by_cases o:s.length%2=1
    .have:¬1<=s.length/2:=by omega
     simp only[cX this,se]
    .simp only[cX o,dK]
  rw[U,O,J];generalize (decide (s.length%2=1)&&decide (1<=s.length/2)&&decide (s.length/2<=16)&&decide (s.headD 0=2)&&zdw ((s.drop 1).take (s.length/2))&&decide (s.getD (s.length/2+1) 0=2)&&zdw (s.drop (s.length/2+2)))=v;cases zdo 31 g<;>cases v<;>simp[dF,zdh]
theorem Xp(n:Nd){s:List Int}(L:zc1 n.op s=true)(j:∀x∈s,1<=x/\x<=3):1<=dF n s/\dF n s<=3:=by
 unfold dF;by_cases M:n.op=22
 .rw[ah ac,ah ac,ax M];have o:s.length=3:=by
   unfold zc1 at L;rw[M]at L;have:bc 22=(3,true):=dr;rw[this]at L;simp only[k2,ck]at L;by_cases e:(0:Int)<=3/\(3:Int)≠s.length
   .rw[ax e]at L;cases L
   .omega
  obtain⟨a,b,c,rfl⟩:=nW o;exact j b aD
 .split
  .omega
  .split
   .omega
   .split
    .omega
    .split
     .omega
     .omega
theorem w7{i:Nat}{C:List Int}(hr:∀j,C.getD j 0=0\/1<=C.getD j 0/\C.getD j 0<=3):∀{V s:List Int},jt i C V=some s->∀x∈s,1<=x/\x<=3
 |[],s,h,x,F=>by cases h;simp at F
 |a::V,s,h,x,F=>by
  rw[jt]at h;split at h
  .cases h
  .rename_i c;obtain⟨t,Z,rfl⟩:=mr.1 h;rcases fk.1 F with rfl|F
   .rcases hr a.toNat with e|e
    .omega
    .exact e
   .exact w7 hr Z x F
theorem Xq{l:List Nd}{i:Nat}{C:List Int}(hr:∀j,C.getD j 0=0\/1<=C.getD j 0/\C.getD j 0<=3):zeg l i C=0\/1<=zeg l i C/\zeg l i C<=3:=by
 unfold zeg;split
 .left;rfl
 .split
  .left;rfl
  .rename_i n m s K;split
   .rename_i c;rw[dp]at c
    right;exact Xp _ c.1 (w7 hr K)
   .left;rfl
theorem A5(l:List Nd):∀(i j:Nat),(zcZ l i).getD j 0=0\/1<=(zcZ l i).getD j 0/\(zcZ l i).getD j 0<=3
 |0,j=>by left;simp[zcZ]
 |i+1,j=>by
  by_cases h:j<i+1
  .rw[uy l h];exact Xq (A5 l j)
  .left
   rw[cJ,fG oP];rfl
theorem Xr{l:List Nd}{i:Nat}{C:List Int}(hr:∀j,C.getD j 0=0\/1<=C.getD j 0/\C.getD j 0<=3)(h:zeg l i C=3):∃m:Nat,jX l i=2*(m:Int)+1/\1<=m/\m<=16:=by
 unfold zeg at h;split at h
 .cases h
 .rename_i n Z;split at h
  .cases h
  .rename_i s K;split at h
   .rename_i c;rw[dp]at c;have I:=oU K;have W:=w7 hr K;have c1:=c.1;have O:n.op=31:=by
     by_cases e:n.op=31
     .exact e
     .exfalso;unfold dF at h;rw[ah e]at h;split at h
      .omega
      .split at h
       .rename_i M;unfold zc1 at c1;rw[M]at c1;have:bc 22=(3,true):=dr;rw[this]at c1;simp only[k2,ck]at c1;by_cases e:(0:Int)<=3/\(3:Int)≠s.length
        .rw[ax e]at c1;cases c1
        .obtain⟨a,b,c,rfl⟩:=nW (s:=s) ac;have z:b=3:=h;subst z;simp[zde,zdI]at c1
       .split at h
        .omega
        .split at h<;>omega
    rw[O]at c1;simp only[zc1,bc]at c1;simp at c1;have c2:=c1.1;have A:=c2.1.1;have U:=c2.1.2;have Y:=c2.2;rw[sh _ ac]at Y;refine⟨s.length/2,?_,ac,ac⟩;unfold jX;rw[dL,Z];simp only;omega
   .cases h
theorem Xs{l:List Nd}{i:Nat}(C:i<=l.length):A3 l i (zcZ l i)=zeg l i (zcZ l i):=by
 unfold A3 zeg;cases m:l[i]? with
 |none=>rfl
 |some n=>
  simp only;cases K:jt i (zcZ l i) n.kids with
  |none=>rfl
  |some s=>
   simp only;refine(Xo (oU K) (w7 (A5 l i) K) fun o Z=>?_).symm;have I:=oU K;cases j:n.kids with
   |nil=>
    rw[j]at I K;cases K;simp at o
   |cons k V=>
    rw[j]at K;have M:=sg K k eW;rw[jt]at K;split at K
    .cases K
    .obtain⟨t,Y,rfl⟩:=mr.1 K;rw[uv]at o⊢;obtain⟨k,rfl⟩:=ez M.1;rw[dL,uy l ac]at o;exact Xr (A5 l k) o
end Go.Ab
namespace Go.Proofs.YtljebeflbbgibaaGreat
set_option maxRecDepth 20000
open Go Go.Ab
section
def tyI1.tyF:=ad @bZ (ad @d8 (@mG))
open tyI1
noncomputable def Gc:{c:SC // aA 31 (Tryz.f191.body.getD .skip)=c}:=by
 refine⟨?_,?_⟩;rotate_left
 .simp only[Tryz.f191,a3,aA,zcG,zcE,zcJ,zcK,Nat.blt,Nat.ble];rfl
noncomputable def Gd:{c:SC // aA 6 (Tryz.f148.body.getD .skip)=c}:=by
 refine⟨?_,?_⟩;rotate_left
 .simp only[Tryz.f148,a3,aA,zcG,zcE,zcJ,zcK,Nat.blt,Nat.ble];rfl
noncomputable def Ge:{c:SC // aA 22 (Tryz.f194.body.getD .skip)=c}:=by
 refine⟨?_,?_⟩;rotate_left
 .simp only[Tryz.f194,a3,aA,zcG,zcE,zcJ,zcK,Nat.blt,Nat.ble];rfl
noncomputable def Gf:{c:SC // aA 21 (Tryz.f192.body.getD .skip)=c}:=by
 refine⟨?_,?_⟩;rotate_left
 .simp only[Tryz.f192,a3,aA,zcG,zcE,zcJ,zcK,Nat.blt,Nat.ble];rfl
noncomputable def Gg:{c:SC // aA 21 (Tryz.f193.body.getD .skip)=c}:=by
 refine⟨?_,?_⟩;rotate_left
 .simp only[Tryz.f193,a3,aA,zcG,zcE,zcJ,zcK,Nat.blt,Nat.ble];rfl
def ej(op:Int):AV:=.tup [.int .i64 (bc op).1,.bool (bc op).2]
theorem Gi(op:Int):zdU (ej op):=.tup (.cons (.int _ _) (.cons (.bool _) .nil))
theorem Xt(ρ:Nat->Int)(op:Int):a9 Tryz.prog ρ 191 [.int .i64 op] (ej op):=zdv fit (pls:=pls) (l:=[]) trivial (.cons (.int _ _) .nil) (Gi op) (by
 have J:=zdM 191;refine zcv (M:=31) (rs:=[.tmp 2,.tmp 3]) (J.call _) J.ice J.froz Tryz.func191 rfl rfl Gc.2 rfl ?_;dsimp only[Gc,zcr,Nat.reduceAdd];repeat' (first
  |(apply zcl ?_;clear hK K)|apply Rx.o ?_|(apply b0 (fun A I=>?_) (fun A I=>?_)<;>try(cases A;done))|(apply aS (fun z V=>?_) (fun z V=>?_)<;>try(cases z;done))|apply ak ?_|(apply zcm fun K hK=>?_)|apply ay ?_|apply zco ?_|apply am ?_)
 all_goals
  refine⟨eI,_,dA,?_⟩;try simp only[zcn]
  first
  |(simp_all[ej,bc];done)
  |(unfold ej bc;rw[ah ac,ah ac,ah ac,ah ac,ah ac,ah ac];done))
theorem A6(n:Nat):(0:Int)<=dM n/\dM n<=n:=by
 by_cases h:n=0
 .subst h;decide
 .rw[sh n ac];omega
theorem Xu(ρ:Nat->Int)(n:Nat)(m:n<2^60):a9 Tryz.prog ρ 148 [.int .i64 n] (.int .i64 (dM n)):=zdv fit (pls:=pls) (l:=[]) trivial (.cons (.int _ _) .nil) (.int _ _) (by
 have J:=zdM 148;have Z:(2:Int)≠0:=dr;have Y:IntKind.wrap .i64 ((n:Int)-1)=(n:Int)-1:=zej ac ac;refine zcv (M:=6) (rs:=[.tmp 2]) (J.call _) J.ice J.froz Tryz.func148 rfl rfl Gd.2 rfl ?_;dsimp only[Gd,zcr,Nat.reduceAdd];repeat' (first
  |(apply zcl ?_;clear hK K)|apply Rx.o ?_|apply ak ?_|(apply zcm fun K hK=>?_)|apply am ?_)
 all_goals (refine⟨eI,_,eR,?_⟩;try simp only[zcn])
 rw[dM];rw[zej (by have:=(A6 n).1;unfold dM at this;omega) (by have:=(A6 n).2;unfold dM at this;omega)])
theorem Xv(H:Hp)(a b c:Int):zdS Tryz.prog H 23 3 [(0,.int .i64 a),(1,.int .i64 b),(2,.int .i64 c)]=some (.sl H.next 0 3 1,H.alloc (.cells [.int .i64 a,.int .i64 b,.int .i64 c] 0 true)):=af
theorem Xw(H:Hp)(a b:Int):zdS Tryz.prog H 23 2 [(0,.int .i64 a),(1,.int .i64 b)]=some (.sl H.next 0 2 1,H.alloc (.cells [.int .i64 a,.int .i64 b] 0 true)):=af
theorem uz(H:Hp)(a:Int):zdS Tryz.prog H 23 1 [(0,.int .i64 a)]=some (.sl H.next 0 1 1,H.alloc (.cells [.int .i64 a] 0 true)):=af
theorem Xx(ρ:Nat->Int)(op:Int):a9 Tryz.prog ρ 194 [.int .i64 op] (jk (zdI op)):=zfi (m:=3) (cfg:=zcq pls []) fit (lc ρ) (fun f args r h=>by simp[zcq,zdn]at h) (.cons (.int _ _) .nil) (by
 have J:=zdM 194;refine zcv (M:=22) (rs:=[.tmp 2]) (J.call _) J.ice J.froz Tryz.func194 rfl rfl Ge.2 rfl ?_;dsimp only[Ge,zcr,Nat.reduceAdd];have U:=@Xv;have o:=@Xw;have Z:=@uz;repeat' (first
  |(apply zcl ?_;clear hK K)|apply Rx.o ?_|(apply aS (fun z V=>?_) (fun z V=>?_)<;>try(cases z;done))|apply ak ?_|(apply zcm fun K hK=>?_)|apply ay ?_|apply zco ?_|apply am ?_)
 all_goals
  all_goals (refine⟨eI,_,eR,?_⟩;try simp only[zcn])
  simp_all[zdI];rfl)
theorem Xy(s w:List Int)(i:Nat)(C:i<s.length)(I:s.length<=w.length):zde (s.drop i) (w.drop i)=(decide (s.getD i 0=w.getD i 0)&&zde (s.drop (i+1)) (w.drop (i+1))):=by
 rw[d7 C,d7 (l:=w) ac,zde];simp[cJ,aO C,aO (show i<w.length by omega)]
def qp(x:List Int×List Int):List AV:=[jk x.1,jk x.2]
theorem uA{a b:List Int}(h:jk a=jk b):a=b:=by
 simp only[jk,AV.lst.injEq]at h;exact Eb h
theorem Xz(x y:List Int×List Int)(h:qp x=qp y):x=y:=by
 simp only[qp,cM,aY]at h;exact jT (uA h.1) (uA h.2)
theorem XA(ρ:Nat->Int)(x:List Int×List Int)(F:x.1.length<=x.2.length/\x.2.length<2^60):a9 Tryz.prog ρ 192 (qp x) (.bool (zde x.1 x.2)):=zdv fit (pls:=pls) (l:=[]) trivial (.cons (oG _) (.cons (oG _) .nil)) (.bool _) (by
 obtain⟨s,w⟩:=x;obtain⟨I,z⟩:=F;simp only[]at I z;have J:=zdM 192;rw[qp];simp only[];refine zcv (M:=21) (rs:=[.tmp 4]) (J.call _) J.ice J.froz Tryz.func192 rfl rfl Gf.2 rfl ?_;dsimp only[Gf,zcr,Nat.reduceAdd];repeat' (first
  |(apply zcl ?_;clear hK K)|apply Rx.o ?_|apply ak ?_|(apply zcm fun K hK=>?_)|apply ay ?_|fail)
 refine zdl [0,1] [] 5 s.length (fun i E H=>zde s w=zde (s.drop i) (w.drop i)) eE aD ?_;rintro i E L C O j m o g;(try simp only[zcO,zcI,aY,zcz,zcL,Nat.reduceBEq, *]at O);(try simp only[zcI, *]at j);(try simp only[zdg,]at m);repeat' (first
  |(apply zcl ?_;clear hK K)|apply Rx.o ?_|(apply aS (fun z V=>?_) (fun z V=>?_)<;>try(cases z;done))|apply ak ?_|(apply zcm fun K hK=>?_)|(apply zc4 4 [(3,9),(7,9)] fun K hK=>?_)|(apply zcV ?_;try intro _)|apply bD ?_|apply ay ?_|apply zco ?_|apply am ?_|apply zcA ?_)
 .have Z:i<s.length:=by simpa using z
  have Y:s[i]?=some s[i]:=aO Z;have W:w[i]?=some w[i]:=aO ac;have U:=Xy s w i Z I;repeat' (first
   |(apply zcl ?_;clear hK K)|apply Rx.o ?_|(apply aS (fun z V=>?_) (fun z V=>?_)<;>try(cases z;done))|apply ak ?_|(apply zcm fun K hK=>?_)|(apply zcV ?_;try intro _)|(apply zc5 ?_ ?_<;>clear hK K)|apply bD ?_|apply zco ?_|apply am ?_|fail)
  .exact eK
  .all_goals (refine⟨eI,_,eR,?_⟩;try simp only[zcn])
   rw[g,U,cJ,cJ,Y,W];simp_all
  .refine⟨ac,zcy,zcy,zcT,r1,?_⟩;rw[g,U,cJ,cJ,Y,W];simp_all
 .all_goals (refine⟨eI,_,eR,?_⟩;try simp only[zcn])
  rw[g,show i=s.length by simp at z;omega,jy];rfl)
noncomputable def A7:En:=⟨191,false,bX (fun _=>True) (fun n:Int=>[.int .i64 n]) ej⟩
theorem XB(ρ:Nat->Int):zdd Tryz.prog ρ A7:=zdk fun n _=>Xt ρ n
theorem w8(x y:Int)(h:([.int .i64 x]:List AV)=[.int .i64 y]):x=y:=iQ
def qq(n:Nat):List AV:=[.int .i64 n]
theorem Gj(x y:Nat)(h:qq x=qq y):x=y:=by
 simp only[qq,cM,AV.int.injEq,aY,fH]at h;omega
noncomputable def mY:En:=⟨148,false,bX (fun n=>n<2^60) qq fun n=>.int .i64 (dM n)⟩
theorem w9(ρ:Nat->Int):zdd Tryz.prog ρ mY:=zdk fun n m=>Xu ρ n m
theorem si{l:List En}(I:∀z,zdn l 148 z=mY.sp z)(n:Nat)(m:n<2^60)(H:Hp):zcx Tryz.prog (zcq pls l) 148 [.int .i64 n] H fun v H'=>v=.int .i64 (dM n)/\H'=H:=
 zds (enc:=qq) (ok:=fun n=>n<2^60) (out:=fun n=>.int .i64 (dM n)) Gj (x:=n) (I _) m
noncomputable def A8:En:=⟨194,false,bX (fun _=>True) (fun n:Int=>[.int .i64 n]) fun n=>jk (zdI n)⟩
theorem XC(ρ:Nat->Int):zdd Tryz.prog ρ A8:=zdk fun n _=>Xx ρ n
def sj(x:List Int×List Int):Prop:=x.1.length<=x.2.length/\x.2.length<2^60
noncomputable def A9:En:=⟨192,false,bX sj qp fun x=>.bool (zde x.1 x.2)⟩
theorem XD(ρ:Nat->Int):zdd Tryz.prog ρ A9:=zdk fun x F=>XA ρ x F
theorem XE(ρ:Nat->Int)(n:Nat)(h3:3<=n)(hn:n<2^30):a9 Tryz.prog ρ 193 [.int .i64 n] (jk (iG n)):=zfi (m:=3) (cfg:=zcq pls [mY]) fit (lc ρ) (eX.look ⟨w9 ρ,trivial⟩) (.cons (.int _ _) .nil) (by
 have J:Plain (zcq pls [mY]) 193:=zdm (fun _=>rfl) rfl;have hlv:=sh n ac;refine zcv (M:=21) (rs:=[.tmp 2]) (J.call _) J.ice J.froz Tryz.func193 rfl rfl Gg.2 rfl ?_;dsimp only[Gg,zcr,Nat.reduceAdd];repeat' (first
  |(apply zcl ?_;clear hK K)|apply Rx.o ?_|apply ak ?_|(apply zcm fun K hK=>?_)|apply ay ?_|fail)
 have Z:∀i,(List.replicate i (1:Int)).length=i:=fun i=>lX;have C:(zcq pls [mY]).keep 193=false:=rfl;refine zdl [0,2] [] 4 n (fun i E H=>∃v,E.at 3=v/\mW H v (List.replicate i 1) 0) eE ⟨.nilS,eE,.inl ⟨rfl,rfl⟩⟩ ?_;rintro i E Y hi W j U hsI ⟨v,zeP,L⟩;(try simp only[zcO,zcI,aY,zcz,zcL,Nat.reduceBEq, *]at W);(try simp only[zcI, *]at j);(try simp only[zdg,]at U);repeat' (first
  |(apply zcl ?_;clear hK K)|apply Rx.o ?_|(apply aS (fun z V=>?_) (fun z V=>?_)<;>try(cases z;done))|apply ak ?_|(apply zcm fun K hK=>?_)|apply ay ?_|apply zco ?_|apply zcA ?_)
 .have hlt:i<n:=by simpa using z
  have gh0:=@uz;repeat' (first
   |apply Rx.o ?_|fail)
  have I:mW (Y.alloc (.cells [.int .i64 1] 0 true)) v (List.replicate i 1) 0:=L.keep (f7 _) fun k hk=>by rw[zcu,ah (by have:=(L.n.lt hk).2;omega)]
  obtain⟨v5,H5,a5,s5,n5,f5,o5⟩:=WQ (r:=Y.next) (imm:=0) 1 I (cK _) ij (by rw[Z];omega);refine nL eV eV ut ?_;repeat' (first
   |(apply zcl ?_;clear hK K)|apply Rx.o ?_|(apply zcm fun K hK=>?_)|fail)
  refine⟨ac,zcy,zcy,zcT,(by simp only[zcz,Nat.reduceBEq, *];exact zeB (n:=n) ac ac),?_⟩;exact⟨v5,eE,.inr (by rw[List.replicate_succ'];exact s5)⟩
 .have F:i=n:=by simp at z;omega
  subst F;rcases L with⟨_,h⟩|⟨r,O,h2,_,h4⟩
  .have:=ku List.length h;rw[Z]at this;simp at this;omega
  subst O;rw[Z]at zeP;have A:((List.replicate i (1:Int)).map (AV.int .i64)).length=i:=aD;generalize o:(List.replicate i (1:Int)).map (AV.int .i64)=cs at h2 A;have hi1:0<i:=ac;have hi2:(i-1)/2+1<i:=ac;have e1:IntKind.wrap .i64 (((i-1)/2:Nat)+1)=(((i-1)/2+1:Nat):Int):=zej ac ac;repeat' (first
   |apply Ry.o ?_|(apply bK ?_;first|refine Rx.k (si (fun _=>rfl) _ ac _) ?_)|fail)
  refine mF eV eV (uq h2 ac 2) ?_;repeat' (first
   |apply Ry.o ?_|fail)
  refine mF eV eV (uq hB (by rw[lW];omega) 2) ?_;repeat' (first
   |(apply zcl ?_;clear hK K)|apply Rx.o ?_|apply ak ?_|(apply zcm fun K hK=>?_)|apply am ?_|fail)
  all_goals (refine⟨eI,_,eR,?_⟩;try simp only[zcn])
  have g:(iG i).length=i:=by simp[iG]
  have z:eN ((Y.set r (.cells (cs.set 0 (.int .i64 2)) 0 true)).set r (.cells ((cs.set 0 (.int .i64 2)).set ((i-1)/2+1) (.int .i64 2)) 0 true)) (.sl r 0 (iG i).length 1) (iG i) 0:=⟨r,0,rfl,by
   rw[aU,ax rfl,iG,nV,nV,o,show(dM i+1).toNat=(i-1)/2+1 by omega],cK _,cK _,h4⟩
  have:=z.iceV 1;rw[g]at this;exact this)
noncomputable def Ba:En:=⟨193,false,bX (fun n=>3<=n/\n<2^30) qq fun n=>jk (iG n)⟩
theorem XF(ρ:Nat->Int):zdd Tryz.prog ρ Ba:=zdk fun n m=>XE ρ n m.1 m.2
end
section
def tyI2.tyF:=ad @cI (ad @bZ (ad @d8 (ad @eY (ad @eL (@pR)))))
open tyI2
noncomputable def Gk:{c:SC // aA 53 (Tryz.f168.body.getD .skip)=c}:=by
 refine⟨?_,?_⟩;rotate_left
 .simp only[Tryz.f168,a3,aA,zcG,zcE,zcJ,zcK,Nat.blt,Nat.ble];rfl
noncomputable def jY:{c:SC // aA 106 (Tryz.f167.body.getD .skip)=c}:=by
 refine⟨?_,?_⟩;rotate_left
 .simp only[Tryz.f167,a3,aA,zcG,zcE,zcJ,zcK,Nat.blt,Nat.ble];rfl
noncomputable def Bb:List En:=[A7,mY,A8,A9,Ba]
theorem Gl(ρ:Nat->Int):eX Tryz.prog ρ Bb:=⟨XB ρ,w9 ρ,XC ρ,XD ρ,XF ρ,trivial⟩
abbrev zdy(l:List Nd):AV:=.lst (l.map Nd.cells)
theorem ze8(l:List Nd):zdU (zdy l):=.map fun x _=>x.pure
theorem xa{a b:List Nd}(h:zdy a=zdy b):a=b:=by
 simp only[zdy,AV.lst.injEq]at h;exact zeX (fun _ _ _=>nS) h
def uB(x:List Nd×Nd):Prop:=x.2.op=25->∃(k:Nat) (m:Nd),x.2.kids[0]?=some (k:Int)/\x.1[k]?=some m/\m.kids.length<2^60
def qr(x:List Nd×Nd):List AV:=[zdy x.1,.agg x.2.cells]
theorem XG(x y:List Nd×Nd)(h:qr x=qr y):x=y:=by
 simp only[qr,cM,AV.agg.injEq,aY]at h;exact jT (xa h.1) (nS h.2)
theorem XH(ρ:Nat->Int)(x:List Nd×Nd)(F:uB x):a9 Tryz.prog ρ 168 (qr x) (.bool (zdi x.1 x.2)):=zdv fit (pls:=pls) (Gl ρ) (.cons (ze8 _) (.cons (.agg (rR _)) .nil)) (.bool _) (by
 obtain⟨l,n⟩:=x;have J:Plain (zcq pls Bb) 168:=zdm (fun _=>rfl) rfl;unfold uB at F;rw[qr];simp only[]at F⊢;refine zcv (M:=53) (rs:=[.tmp 4]) (J.call _) J.ice J.froz Tryz.func168 rfl rfl Gk.2 rfl ?_;dsimp only[Gk,zcr,Nat.reduceAdd];repeat' (first
  |(apply zcl ?_;clear hK K)|apply Rx.o ?_|(apply b0 (fun A I=>?_) (fun A I=>?_)<;>try(cases A;done))|(apply aS (fun z V=>?_) (fun z V=>?_)<;>try(cases z;done))|apply ak ?_|(apply zcm fun K hK=>?_)|apply ay ?_|apply zco ?_|apply am ?_)
 all_goals (first|(refine⟨eI,_,eR,?_⟩;(try simp only[zcn]);clear F;simp_all[zdi,zdH]<;>omega;done)|skip)
 all_goals trace_state
 have j:n.op=25:=hC;obtain⟨k,m,i,g,o⟩:=F j;have L:n.kids.headD 0=k:=by
  cases Z:n.kids with
  |nil=>rw[Z]at i;simp at i
  |cons a b=>rw[Z]at i;simpa using i
 have Y:jX l (n.kids.headD 0)=m.kids.length:=by rw[L,jX,dL,g]
 have W:=A6 m.kids.length;have U:IntKind.wrap .i64 (dM m.kids.length-1)=dM m.kids.length-1:=zej ac ac;repeat' (first
  |(apply zcl ?_;clear hK K)|apply Ry.o ?_|(apply bK ?_;first|refine Rx.k (si (fun _=>rfl) _ ac _) ?_)|(apply a8 (fun A I=>?_) (fun A I=>?_)<;>try(cases A;done))|apply ak ?_|(apply zcm fun K hK=>?_)|apply am ?_)
 all_goals (first|(refine⟨eI,_,eR,?_⟩;(try simp only[zcn]);clear F;simp_all[zdi,zdH]<;>omega;done)|skip)
 all_goals trace_state)
noncomputable def Gm:En:=⟨168,true,bX uB qr fun x=>.bool (zdi x.1 x.2)⟩
theorem XI(ρ:Nat->Int):zdd Tryz.prog ρ Gm:=zdk fun x F=>XH ρ x F
theorem Gn(a:Int)(s:List Int):zeh Tryz.prog 23 (.lst ((a::s).map fun n=>[AV.int .i64 n])) (some (.int .i64 1)) none=some (.lst (s.map fun n=>[AV.int .i64 n])):=by
 have Y:(1:Int)=Int.ofNat 1:=rfl;simp only[zeh,Tryz.underlying23,jf,zd3];rw[ax ⟨aD,aM _⟩];rw[ev aD];cases s with
 |nil=>rfl
 |cons b s=>rfl
theorem XJ(op:Int)(o:0<=(bc op).1):(bc op).1<=(zdI op).length:=by
 unfold bc at o⊢;unfold zdI;repeat' split
 all_goals (first|(simp;done)|omega|(simp_all;done))
def oW(x:Nd×List Int):List AV:=[.agg x.1.cells,jk x.2]
theorem XK(x y:Nd×List Int)(h:oW x=oW y):x=y:=by
 simp only[oW,cM,AV.agg.injEq,aY]at h;exact jT (nS h.1) (uA h.2)
theorem qs{l:List En}(I:∀z,zdn l 191 z=A7.sp z)(n:Int)(H:Hp):zcx Tryz.prog (zcq pls l) 191 [.int .i64 n] H fun v H'=>v=ej n/\H'=H:=
 zds (enc:=fun n:Int=>[.int .i64 n]) (ok:=fun _=>True) (out:=ej) w8 (x:=n) (I _) trivial
theorem Gp{l:List En}(I:∀z,zdn l 194 z=A8.sp z)(n:Int)(H:Hp):zcx Tryz.prog (zcq pls l) 194 [.int .i64 n] H fun v H'=>v=jk (zdI n)/\H'=H:=
 zds (enc:=fun n:Int=>[.int .i64 n]) (ok:=fun _=>True) (out:=fun n=>jk (zdI n)) w8 (x:=n) (I _) trivial
theorem XL{l:List En}(I:∀z,zdn l 193 z=Ba.sp z)(n:Nat)(m:3<=n/\n<2^30)(H:Hp):zcx Tryz.prog (zcq pls l) 193 [.int .i64 n] H fun v H'=>v=jk (iG n)/\H'=H:=
 zds (enc:=qq) (ok:=fun n=>3<=n/\n<2^30) (out:=fun n=>jk (iG n)) Gj (x:=n) (I _) m
theorem Bc{l:List En}(I:∀z,zdn l 192 z=A9.sp z)(s w:List Int)(h:sj (s,w))(H:Hp):zcx Tryz.prog (zcq pls l) 192 [jk s,jk w] H fun v H'=>v=.bool (zde s w)/\H'=H:=
 zds (enc:=qp) (ok:=sj) (out:=fun x=>.bool (zde x.1 x.2)) Xz (x:=(s,w)) (I _) h
theorem l7(a b:AV):Ab.extract (.tup [a,b]) 0=some a:=rfl
theorem l8(a b:AV):Ab.extract (.tup [a,b]) 1=some b:=rfl
theorem XM(s:List Int):zc1 31 s=(decide ((3:Int)<=s.length)&&decide ((s.length:Int).tmod 2=1)&&decide (dM s.length<=16)&&zde s (iG s.length)):=by
 have C:(s.length:Int).tmod 2=((s.length%2:Nat):Int):=FT;have Y:decide ((s.length:Int).tmod 2=1)=decide (s.length%2=1):=by rw[C];exact kF.2 ac
 have A:decide ((3:Int)<=s.length)=decide (3<=s.length):=kF.2 ac;rw[Y,A];rfl
theorem xb(a:Int)(s:List Int):zc1 30 (a::s)=(!decide ((7:Int)<((s.length+1:Nat):Int))&&decide (a=2)&&s.all fun x=>decide (x=1)):=by
 have Y:(!decide ((7:Int)<((s.length+1:Nat):Int)))=decide ((a::s).length<=7):=by
  rw[<-uw];exact kF.2 AW
 have A:decide (1<=(a::s).length)=true:=aD;rw[Y];show(decide (1<=(a::s).length)&&decide ((a::s).length<=7)&&decide (a=2)&&s.all fun x=>decide (x=1))=_;rw[A,de]
theorem XN(a b c:Int):zc1 22 [a,b,c]=if b=2 then (decide (a=1)&&decide (c=2))else zde [a,b,c] [1,1,1]:=by
 have e:zc1 22 [a,b,c]=if (22:Int)=22/\b=2 then (decide (a=1)&&decide (c=2))else zde [a,b,c] [1,1,1]:=rfl
 rw[e];simp
theorem XO{op:Int}(s:List Int)(h:(bc op).2=false):zc1 op s=false:=by rw[zc1,ax h]
theorem Be{op:Int}{s:List Int}(h:0<=(bc op).1)(h2:(bc op).1≠s.length):zc1 op s=false:=by
 unfold zc1;split
 .rfl
 .rw[ax ⟨h,h2⟩]
theorem XP{op:Int}{s:List Int}(h:(bc op).2=true)(h2:(bc op).1=s.length)(h1:op≠31)(o:op≠30)(U:op≠22):zc1 op s=zde s (zdI op):=by
 unfold zc1;rw[ah (by rw[h];simp),ah (fun k=>k.2 h2),ah h1,ah o,ah (fun k=>U k.1)]
theorem Gq(op:Int):(zdI op).length<=3:=by
 unfold zdI;repeat' split
 all_goals decide
theorem Gs{op:Int}(h1:op≠31)(o:op≠30):0<=(bc op).1:=by
 unfold bc;repeat' split
 all_goals (first|decide|omega)
theorem XQ(ρ:Nat->Int)(x:Nd×List Int)(hx:x.2.length<2^30):a9 Tryz.prog ρ 167 (oW x) (.bool (zc1 x.1.op x.2)):=zdv fit (pls:=pls) (Gl ρ) (.cons (.agg (rR _)) (.cons (oG _) .nil)) (.bool _) (by
 obtain⟨⟨Z,imm,kids⟩,s⟩:=x;have J:Plain (zcq pls Bb) 167:=zdm (fun _=>rfl) rfl;rw[oW];simp only[Nd.cells]at hx⊢;have hq:(2:Int)≠0:=dr;by_cases W:Z=31
 .subst W;have hv:ej 31=.tup [.int .i64 (-1),.bool true]:=rfl;have Y:sj (s,iG s.length):=⟨by simp[iG],by simp[iG];omega⟩;refine zcv (M:=106) (rs:=[.tmp 4]) (J.call _) J.ice J.froz Tryz.func167 rfl rfl jY.2 rfl ?_;dsimp only[jY,zcr,Nat.reduceAdd];have U:=@l7;have o:=@l8;repeat' (first
   |(apply zcl ?_;clear hK K)|apply Ry.o ?_|(apply bK ?_;first|refine Rx.k (qs (fun _=>rfl) _ _) ?_|refine Rx.k (si (fun _=>rfl) _ ac _) ?_|refine Rx.k (XL (fun _=>rfl) _ ac _) ?_|refine Rx.k (Bc (fun _=>rfl) _ _ Y _) ?_)|(apply a8 (fun A I=>?_) (fun A I=>?_)<;>try(cases A;done))|(apply aB (fun z V=>?_) (fun z V=>?_)<;>try(cases z;done))|apply ak ?_|(apply zcm fun K hK=>?_)|apply ay ?_|apply zco ?_|apply am ?_|fail)
  all_goals
   refine⟨eI,_,dA,?_⟩;try simp only[zcn]
   rw[XM];(try simp only[fo]at *);simp only[ *,qm,w5,]
 by_cases L:Z=30
 .subst L;have hv:ej 30=.tup [.int .i64 (-1),.bool true]:=rfl;cases s with
  |nil=>
   refine zcv (M:=106) (rs:=[.tmp 4]) (J.call _) J.ice J.froz Tryz.func167 rfl rfl jY.2 rfl ?_;dsimp only[jY,zcr,Nat.reduceAdd];have U:=@l7;have o:=@l8;repeat' (first
    |(apply zcl ?_;clear hK K)|apply Ry.o ?_|(apply bK ?_;first|refine Rx.k (qs (fun _=>rfl) _ _) ?_)|(apply a8 (fun A I=>?_) (fun A I=>?_)<;>try(cases A;done))|(apply aB (fun z V=>?_) (fun z V=>?_)<;>try(cases z;done))|apply ak ?_|(apply zcm fun K hK=>?_)|apply ay ?_|apply zco ?_|apply am ?_|fail)
   all_goals (refine⟨eI,_,eR,?_⟩;try simp only[zcn])
   rfl
  |cons a s=>
   have hsl:=Gn a s;simp only[dg]at hx;refine zcv (M:=106) (rs:=[.tmp 4]) (J.call _) J.ice J.froz Tryz.func167 rfl rfl jY.2 rfl ?_;dsimp only[jY,zcr,Nat.reduceAdd];have U:=@l7;have o:=@l8;repeat' (first
    |(apply zcl ?_;clear hK K)|apply Ry.o ?_|(apply bK ?_;first|refine Rx.k (qs (fun _=>rfl) _ _) ?_)|(apply a8 (fun A I=>?_) (fun A I=>?_)<;>try(cases A;done))|(apply aB (fun z V=>?_) (fun z V=>?_)<;>try(cases z;done))|apply ak ?_|(apply zcm fun K hK=>?_)|apply ay ?_|apply zco ?_|apply am ?_|fail)
   .all_goals (refine⟨eI,_,eR,?_⟩;try simp only[zcn])
    rw[xb];(try simp only[k9]at *);simp only[ *,f4,se,gL,]
   .refine zdl [1,2,72,73] [] 74 s.length (fun i E H=>(s.all fun x=>decide (x=1))=(s.drop i).all fun x=>decide (x=1)) eE aD ?_;rintro i E H2 hi hcE hrH hnH hsI hJ;(try simp only[zcO,zcI,aY,zcz,zcL,Nat.reduceBEq, *]at hcE);(try simp only[zcI,zcL, *]at hrH);(try simp only[zcB,zdg,bw]at hnH);repeat' (first
     |(apply zcl ?_;clear hK K)|apply Rx.o ?_|(apply aS (fun z V=>?_) (fun z V=>?_)<;>try(cases z;done))|apply ak ?_|(apply zcm fun K hK=>?_)|apply ay ?_|apply zco ?_|apply am ?_|apply zcA ?_)
    .have F:i<s.length:=by simpa using z
     have hgx:s[i]?=some s[i]:=aO F;have C:((s.drop i).all fun x=>decide (x=1))=(decide (s[i]=1)&&(s.drop (i+1)).all fun x=>decide (x=1)):=by rw[d7 F,mR]
     repeat' (first
      |(apply zcl ?_;clear hK K)|apply Rx.o ?_|(apply aS (fun z V=>?_) (fun z V=>?_)<;>try(cases z;done))|apply ak ?_|(apply zcm fun K hK=>?_)|apply zco ?_|apply am ?_|fail)
     .all_goals (refine⟨eI,_,eR,?_⟩;try simp only[zcn])
      rw[xb,hJ,C];(try simp only[fo]at *);simp only[ *,f4,se,jN,gL,]
     .refine⟨ac,zcy,zcy,zcT,r1,?_⟩;rw[hJ,C];(try simp only[oS]at *);simp only[*,de,]
    .repeat' (first
      |(apply zcl ?_;clear hK K)|fail)
     all_goals (refine⟨eI,_,eR,?_⟩;try simp only[zcn])
     rw[show i=s.length by simp at z;omega,jy]at hJ;have hJ2:(s.all fun x=>decide (x=1))=true:=hJ;rw[xb,hJ2];(try simp only[oS]at *);simp only[*,f4,jN,gL,]
   .all_goals (refine⟨eI,_,eR,?_⟩;try simp only[zcn])
    rw[xb];(try simp only[fo]at *);simp only[*,kZ,dK,k8,]
 have m:=Gs W L;cases O:(bc Z).2 with
 |false=>
  have hv:ej Z=.tup [.int .i64 (bc Z).1,.bool false]:=by rw[ej,O]
  refine zcv (M:=106) (rs:=[.tmp 4]) (J.call _) J.ice J.froz Tryz.func167 rfl rfl jY.2 rfl ?_;dsimp only[jY,zcr,Nat.reduceAdd];have U:=@l7;have o:=@l8;repeat' (first
   |(apply zcl ?_;clear hK K)|apply Ry.o ?_|(apply bK ?_;first|refine Rx.k (qs (fun _=>rfl) _ _) ?_)|apply Ry.gu ?_|(apply a8 (fun A I=>?_) (fun A I=>?_)<;>try(cases A;done))|(apply aB (fun z V=>?_) (fun z V=>?_)<;>try(cases z;done))|apply ak ?_|(apply zcm fun K hK=>?_)|apply am ?_|fail)
  all_goals
   refine⟨eI,_,dA,?_⟩;try simp only[zcn]
   rw[XO s O]
 |true=>
  by_cases j:(bc Z).1=s.length
  .have hv:ej Z=.tup [.int .i64 s.length,.bool true]:=by rw[ej,O,j]
   by_cases g:Z=22
   .subst g;obtain⟨a,b,c,rfl⟩:=nW (s:=s) (by have e:(bc 22).1=3:=rfl;rw[e]at j;omega);have Y:sj ([a,b,c],zdI 22):=⟨aM _,by have:=Gq 22;simp only[];omega⟩;refine zcv (M:=106) (rs:=[.tmp 4]) (J.call _) J.ice J.froz Tryz.func167 rfl rfl jY.2 rfl ?_;dsimp only[jY,zcr,Nat.reduceAdd];have U:=@l7;have o:=@l8;repeat' (first
     |(apply zcl ?_;clear hK K)|apply Ry.o ?_|(apply bK ?_;first|refine Rx.k (qs (fun _=>rfl) _ _) ?_|refine Rx.k (Gp (fun _=>rfl) _ _) ?_|refine Rx.k (Bc (fun _=>rfl) _ _ Y _) ?_)|(apply a8 (fun A I=>?_) (fun A I=>?_)<;>try(cases A;done))|(apply aB (fun z V=>?_) (fun z V=>?_)<;>try(cases z;done))|apply ak ?_|(apply zcm fun K hK=>?_)|apply ay ?_|apply zco ?_|apply am ?_|fail)
    all_goals
     refine⟨eI,_,dA,?_⟩;try simp only[zcn]
     rw[XN];first
     |(simp_all;done)
     |(rw[ah hC];rfl)
   .have Y:sj (s,zdI Z):=⟨by have:=XJ Z m;simp only[];omega,by have:=Gq Z;simp only[];omega⟩;have hl0:(0:Int)<=s.length:=ac;refine zcv (M:=106) (rs:=[.tmp 4]) (J.call _) J.ice J.froz Tryz.func167 rfl rfl jY.2 rfl ?_;dsimp only[jY,zcr,Nat.reduceAdd];have U:=@l7;have o:=@l8;repeat' (first
     |(apply zcl ?_;clear hK K)|apply Ry.o ?_|(apply bK ?_;first|refine Rx.k (qs (fun _=>rfl) _ _) ?_|refine Rx.k (Gp (fun _=>rfl) _ _) ?_|refine Rx.k (Bc (fun _=>rfl) _ _ Y _) ?_)|(apply a8 (fun A I=>?_) (fun A I=>?_)<;>try(cases A;done))|(apply aB (fun z V=>?_) (fun z V=>?_)<;>try(cases z;done))|apply ak ?_|(apply zcm fun K hK=>?_)|apply ay ?_|apply zco ?_|apply am ?_|fail)
    all_goals
     refine⟨eI,_,dA,?_⟩;try simp only[zcn]
     rw[XP O j W L g]
  .have hv:ej Z=.tup [.int .i64 (bc Z).1,.bool true]:=by rw[ej,O]
   refine zcv (M:=106) (rs:=[.tmp 4]) (J.call _) J.ice J.froz Tryz.func167 rfl rfl jY.2 rfl ?_;dsimp only[jY,zcr,Nat.reduceAdd];have U:=@l7;have o:=@l8;repeat' (first
    |(apply zcl ?_;clear hK K)|apply Ry.o ?_|(apply bK ?_;first|refine Rx.k (qs (fun _=>rfl) _ _) ?_)|(apply a8 (fun A I=>?_) (fun A I=>?_)<;>try(cases A;done))|(apply aB (fun z V=>?_) (fun z V=>?_)<;>try(cases z;done))|apply ak ?_|(apply zcm fun K hK=>?_)|apply am ?_|fail)
   all_goals
    refine⟨eI,_,dA,?_⟩;try simp only[zcn]
    rw[Be m j])
end
end Go.Proofs.YtljebeflbbgibaaGreat
