/- Parts: EvD, EvE, R3b, EvF, SpecI, SpecR, I1, I2. -/
import Derived.Test.YtljebeflbbgibaaGreatYCH
set_option linter.unusedSimpArgs false
set_option linter.unusedVariables false
set_option linter.unusedSectionVars false
set_option linter.defProp false
set_option maxHeartbeats 32000000
namespace Go.Ab
set_option maxRecDepth 20000
open Go
theorem gX{P:Prop}(h:P:=by simp only[zc6];omega):P:=h
theorem BA{P:Prop}(h:P:=by simp only[List.length_cons];omega):P:=h
theorem oZ{P:Prop}(h:P:=by rw[zfw];omega):P:=h
theorem dD{P:Prop}(h:P:=by decide):P:=h
theorem j6{P:Prop}(h:P:=by simpa using I.symm):P:=h
theorem GE{P:Prop}(h:P:=by simp only[zc3,Nat.reduceBEq, *];exact zeX (n:=L.length) ac ac):P:=h
theorem GF{P:Prop}(h:P:=by rw[Int.tmod_eq_emod_of_nonneg ac];omega):P:=h
def BB:=@List.all_nil
def uX:=@List.take_zero
def o0:=@List.drop_eq_nil_of_le
def BC:=@List.set_cons_zero
def qK:=@List.length_reverse
def BD:=@List.reverse_cons
def BE:=@List.eq_nil_of_length_eq_zero
def uY:=@List.headD_cons
def qL:=@Bool.and_assoc
def GG:=@List.eq_of_mem_replicate
def dd:=@decide_eq_false
def kM:=@decide_eq_decide
def cI:=@decide_eq_true
def o7:=@Bool.and_false
def jI:=@List.drop_length
def uZ:=@decide_not
def qM:=@Bool.not_eq_false'
def ff:=And.intro @lS @qM
def sR:=And.intro @dX @o7
def qN:=And.intro @k6 @gl
def BF:=And.intro @dq @jW
def xN:=And.intro sR BF
end Go.Ab
namespace Go.Proofs.YtljebeflbbgibaaGreat
set_option maxRecDepth 20000
open Go Go.Ab
section
def tyEvD.tyF:=ad @cP (ad @b7 (ad @lw (ad @ei (ad @fd (ad @jE (ad @ly (ad @sB (ad @oS (ad @qz (ad @qA (ad @sD (ad @qC (ad @sE (ad @qD (ad @qE (@qF))))))))))))))))
open tyEvD
noncomputable def GH:{c:SC // aB 82 (Tryz.f102.body.getD .skip)=c}:=by
 refine⟨?_,?_⟩;rotate_left
 .simp only[Tryz.f102,a8,aB,zda,zc9,zdc,zdd,Nat.blt,Nat.ble];rfl
theorem Xx{P:Program}{cfg:Cfg}{f N:Nat}{a:SC}{E:aw}{H:Hp}{Q:AX->aw->Hp->Prop}(F:aw->Hp->Prop)(h1:zdr P cfg f N a E H (kG Q F))(h2:∀E' H',F E' H'->Q .normal E' H'):zdr P cfg f N a E H Q:=
 zdr.mono (fun x E' H' h=>by cases x<;>first|exact h2 _ _ h|exact h) h1
theorem GI(a b c:AV):zdA 3 [a,b,c]=some (.agg [a,b,c]):=rfl
theorem qO(a b c d:AV):zdA 4 [a,b,c,d]=some (.agg [a,b,c,d]):=rfl
theorem GJ(H:Hp)(A C Z:HB):Ext9 (fun _=>True) H (((H.alloc A).alloc C).set (H.next+1) Z):=⟨by rw[zdm,zc6,zc6];omega,fun r _ hr=>by
 simp only[aX,zcY,zc6,ah (show ¬r=H.next+1 by omega),ah (show ¬r=H.next by omega)]⟩
section
variable {tb:List En} (hT:EvT tb) {c:Cx9} {H:Hp} {rows:List (List AV)} {res:List R9}
include hT
theorem Xy(o:Fr9 c H rows res){n:Nd}(hl:n.kids.length<2^30){k:Int}(h:uE res n=some k):zc2 Tryz.prog (zcW pls tb) 102 [.ptr c.xp 0,.agg n.cells] H fun w H'=>w=.int .i64 k/\Ext9 (fun _=>True) H H':=by
 have hw:Plain (zcW pls tb) 102:=hT.plain dt;obtain⟨Y,g,L⟩:=n;simp only at hl;have ec:(Nd.mk Y g L).cells=[.int .i64 Y,.int .i64 g,.lst (L.map fun k=>[.int .i64 k])]:=rfl;rw[ec];have Z:=o.alloc (.cells [.int .i64 Y,.int .i64 g,.lst (L.map fun k=>[.int .i64 k])] 0 true);have gx:=Z.x;unfold gW at gx;have lx:=o.lx;have lr:=o.lr;have y0:(c.xp == H.next)=false:=zc7 ac;have y8:(c.xp == H.next+1)=false:=zc7 ac;have y9:(H.next == H.next+1)=false:=zc7 ac;have gn:(H.alloc (.cells [.int .i64 Y,.int .i64 g,.lst (L.map fun k=>[.int .i64 k])] 0 true)).get H.next=some (.cells [.int .i64 Y,.int .i64 g,.lst (L.map fun k=>[.int .i64 k])] 0 true):=iu
 have E1:Ext9 (fun _=>True) H (H.alloc (.cells [.int .i64 Y,.int .i64 g,.lst (L.map fun k=>[.int .i64 k])] 0 true)):=⟨gm _,fun q _ hq=>fK⟩;unfold uE at h;simp only at h;by_cases c31:Y=31
 .rw[ay c31]at h;cases h
 rw[ah c31]at h;obtain⟨HX,hHX⟩:∃HX,HX=H:=⟨_,rfl⟩;have n1:AV.one .nilP=true:=rfl;have n2:AV.cells .nilP=[.nilP]:=rfl;have n3:∀b,AV.one (.bool b)=true:=fun _=>rfl;refine zf (M:=82) (rs:=[.tmp 4]) (hw.call _) hw.ice hw.froz Tryz.func102 rfl rfl GH.2 rfl ?_;dsimp only[GH,zcX,Nat.reduceAdd];repeat' (first
  |(apply zcP ?_;clear hK K)|apply Rx.o ?_|apply ak ?_|(apply zcQ fun K hK=>?_)|apply ax ?_|fail)
 refine Xx (fun E' H'=>E'.at 0=.ptr c.xp 0/\E'.at 5=.lst (L.map fun k=>[.int .i64 k])/\Fr9 c H' rows res/\Ext9 (fun _=>True) H H'/\lY res L=some k) ?_ ?_
 .by_cases c22:Y=22
  .subst c22;rw[ay rfl]at h;obtain⟨zd3,h1,h⟩:=cj.1 h;obtain⟨r,h2,h⟩:=cj.1 h;obtain⟨m,sv,kd,J,hm,ho,ix,hA⟩:=o.kid (n:=⟨22,g,L⟩) (j:=0) (r:=r) (by unfold eR;rw[h1];exact h2);simp only at kd;rw[h1]at kd;simp only[aA]at kd;subst kd;have ar:=(hA _ Z).lr;have arA:=fun b=>(hA _ (Z.alloc b)).lr;obtain⟨rk,rv,rs⟩:=r;obtain⟨ho1,ho2⟩:=ho.two;cases rk with
   |false=>
    rw[ah aE]at h;simp only[aA]at h;subst h;have O:=@qO;repeat' (first
     |(apply zcP ?_;clear hK K)|apply Ry.o ?_|apply bl ?_|(apply az (fun z V=>?_) (fun z V=>?_)<;>try(cases z;done))|apply ak ?_|(apply zcQ fun K hK=>?_)|(apply zdG 6 [(3,10),(6,10),(8,10),(9,10)] fun K hK=>?_)|(apply zdB ?_;try intro _)|(apply zdJ ?_ ?_<;>clear hK K)|apply b4 ?_|apply zfc rfl ?_|apply zcR ?_|apply am ?_|fail)
    .exact zdj
    all_goals (refine⟨zcT,_,zcU,?_⟩;try simp only[zcS])
    exact⟨mr,GJ _ _ _ _⟩
   |true=>
    rw[ay rfl]at h;obtain⟨zdp,h3,h⟩:=cj.1 h;obtain⟨t,h4,h⟩:=cj.1 h;simp only[aA]at h;have O:=@qO;repeat' (first
     |(apply zcP ?_;clear hK K)|apply Ry.o ?_|apply bl ?_|(apply az (fun z V=>?_) (fun z V=>?_)<;>try(cases z;done))|apply ak ?_|(apply zcQ fun K hK=>?_)|(apply zdG 6 [(3,10),(6,10),(8,10),(9,10)] fun K hK=>?_)|(apply zdB ?_;try intro _)|(apply zdJ ?_ ?_<;>clear hK K)|apply b4 ?_|apply zfc rfl ?_|fail)
    .exact zdj
    generalize A:Hp.set (Hp.alloc (H.alloc _) _) (H.next+1) _=Hb;have nb:H.next+2<=Hb.next:=uP
    have I:Ext9 (fun _=>True) (H.alloc (.cells [.int .i64 22,.int .i64 g,.lst (L.map fun k=>[.int .i64 k])] 0 true)) Hb:=⟨uQ,fun r _ hr=>by
     rw[zc6]at hr;rw[<-A];simp only[aX,zcY,zc6,ah (show ¬r=H.next+1 by omega)]⟩
    clear A;have hFb:=Z.keep I.next fun q hq=>I.get q trivial hq
    have gnb:=(I.get _ trivial (show H.next<(H.alloc _).next from cQ _)).trans gn;have C:=Gn hT hFb (n:=⟨22,g,L⟩) hl h3;rw[ec]at C;have O:=@GI;repeat' (first
     |apply Rx.o ?_|fail)
    refine a4 rfl a6 a7 ?_;simp only[bB];refine aZ ?_ C;rintro v H4 ⟨rfl,rfl⟩;dsimp only[zc5];repeat' (first
     |(apply zcP ?_;clear hK K)|apply Rx.o ?_|(apply i5 ?_;first|refine Rx.k (W8 hT (hFb.alloc _) h4) ?_)|apply am ?_|fail)
    all_goals (refine⟨zcT,_,zcU,?_⟩;try simp only[zcS])
    exact⟨by first|trivial|rw[h],(E1.trans I).trans ⟨gm _,fun r _ hr=>fK⟩⟩
  rw[ah c22]at h;by_cases cg:Y=27\/Y=29\/Y=30
  .rw[ay cg]at h;obtain⟨r,h1,h5⟩:=cj.1 h;clear h;obtain⟨m,sv,zd3,_,hm,ho,ix,hA⟩:=o.kid h1;simp only at zd3;have ar:=(hA _ Z).lr;have arA:=fun b=>(hA _ (Z.alloc b)).lr;obtain⟨rk,rv,rs⟩:=r;obtain⟨ho1,ho2⟩:=ho.two;cases rk with
   |false=>
    rw[ah aE]at h5;rcases cg with rfl|rfl|rfl;all_goals
     have O:=@qO;repeat' (first
      |(apply zcP ?_;clear hK K)|apply Ry.o ?_|apply bl ?_|(apply aT (fun J W=>?_) (fun J W=>?_)<;>try(cases J;done))|(apply az (fun z V=>?_) (fun z V=>?_)<;>try(cases z;done))|apply ak ?_|(apply zcQ fun K hK=>?_)|(apply zdG 13 [(3,10),(6,10),(8,10),(9,10)] fun K hK=>?_)|(apply zdB ?_;try intro _)|(apply zdJ ?_ ?_<;>clear hK K)|apply b4 ?_|apply zfc rfl ?_|apply zcR ?_|fail)
     .exact zdj
     generalize A:Hp.set (Hp.alloc (H.alloc _) _) (H.next+1) _=Hb;have I:Ext9 (fun _=>True) H Hb:=⟨by rw[<-A,zdm,zc6,zc6];omega,fun r _ hr=>by
      rw[<-A];simp only[aX,zcY,zc6,ah (show ¬r=H.next+1 by omega),ah (show ¬r=H.next by omega)]⟩
     exact⟨eE,eE,o.keep I.next (fun q hq=>I.get q trivial hq),I,h5⟩
   |true=>
    rw[ay rfl]at h5;obtain⟨s,hrs,h6⟩:=cj.1 h5;clear h5;simp only at hrs;subst hrs;obtain⟨p,cv,ov,rfl,hp⟩:=(ho:fP c.S H sv s);have gp:=hp.get;have plt:=hp.lt;have y1:(p == H.next)=false:=zc7 ac;have y2:(p == H.next+1)=false:=zc7 ac;by_cases ce:s.ed=0
    .rw[ah (show ¬s.ed≠0 by omega)]at h6;rcases cg with rfl|rfl|rfl;all_goals
      have O:=@qO;repeat' (first
       |(apply zcP ?_;clear hK K)|apply Ry.o ?_|apply bl ?_|(apply aT (fun J W=>?_) (fun J W=>?_)<;>try(cases J;done))|(apply az (fun z V=>?_) (fun z V=>?_)<;>try(cases z;done))|apply ak ?_|(apply zcQ fun K hK=>?_)|(apply zdG 13 [(3,10),(6,10),(8,10),(9,10)] fun K hK=>?_)|(apply zdB ?_;try intro _)|(apply zdJ ?_ ?_<;>clear hK K)|apply b4 ?_|apply zfc rfl ?_|apply zcR ?_|fail)
      .exact zdj
      generalize A:Hp.set (Hp.alloc (H.alloc _) _) (H.next+1) _=Hb;have I:Ext9 (fun _=>True) H Hb:=⟨by rw[<-A,zdm,zc6,zc6];omega,fun r _ hr=>by
       rw[<-A];simp only[aX,zcY,zc6,ah (show ¬r=H.next+1 by omega),ah (show ¬r=H.next by omega)]⟩
      exact⟨eE,eE,o.keep I.next (fun q hq=>I.get q trivial hq),I,h6⟩
    .rw[ay ce,aA]at h6;subst h6;rcases cg with rfl|rfl|rfl;all_goals
      have O:=@qO;repeat' (first
       |(apply zcP ?_;clear hK K)|apply Ry.o ?_|apply bl ?_|(apply aT (fun J W=>?_) (fun J W=>?_)<;>try(cases J;done))|(apply az (fun z V=>?_) (fun z V=>?_)<;>try(cases z;done))|apply ak ?_|(apply zcQ fun K hK=>?_)|(apply zdG 13 [(3,10),(6,10),(8,10),(9,10)] fun K hK=>?_)|(apply zdB ?_;try intro _)|(apply zdJ ?_ ?_<;>clear hK K)|apply b4 ?_|apply zfc rfl ?_|apply zcR ?_|apply am ?_|fail)
      .exact zdj
      all_goals (refine⟨zcT,_,zcU,?_⟩;try simp only[zcS])
      exact⟨mr,GJ _ _ _ _⟩
  .rw[ah cg]at h;have c27:¬Y=27:=ac;have c29:¬Y=29:=ac;have c30:¬Y=30:=ac;repeat' (first
    |(apply zcP ?_;clear hK K)|apply Ry.o ?_|(apply az (fun z V=>?_) (fun z V=>?_)<;>try(cases z;done))|apply ak ?_|(apply zcQ fun K hK=>?_)|apply zcR ?_|fail)
   exact⟨eE,eE,Z,E1,h⟩
 .rintro E' H2 ⟨zd3,zeL,hF2,E2,hm⟩;clear h gx gn y0;dsimp only[kG,qm];repeat' (first
   |(apply zcP ?_;clear hK K)|apply Rx.o ?_|apply ak ?_|(apply zcQ fun K hK=>?_)|apply ax ?_|fail)
  subst hHX;refine zdN [0,65,66] [] 67 L.length (fun i E Hx=>lY res (L.drop i)=some k/\Fr9 c Hx rows res/\Ext9 (fun _=>True) HX Hx) eE ⟨hm,hF2,E2⟩ ?_;clear hm hF2 E2;rintro i E3 H3 hi hcE hrH hnH hsI ⟨hJ,U,E3'⟩;(try simp only[zdh,zdb,a1,zc3,zde,Nat.reduceBEq, *]at hcE);(try simp only[zdb, *]at hrH);(try simp only[zc6,zdm,zdK,bz,Nat.reduceAdd]at hnH);by_cases hlt:i<L.length
  .have hlt':(i:Int)<L.length:=by omega
   have hgx:L[i]?=some L[i]:=aO hlt;rw[eJ hlt,lY]at hJ;generalize L[i]=q at *;obtain⟨r,hr,F⟩:=cj.1 hJ;clear hJ;obtain⟨m,rfl⟩:∃m:Nat,q=m:=⟨q.toNat,by obtain⟨_,h0,_⟩:=U.get hr;omega⟩;obtain⟨sv,hn,ho,hx,hA⟩:=U.at hr;have gx:=U.x;unfold gW at gx;have a0:=(hA _ U).l0;obtain⟨rk,rv,rs⟩:=r;cases rk with
   |true=>
    rw[ay rfl]at F;repeat' (first
     |(apply zcP ?_;clear hK K)|apply Ry.o ?_|(apply az (fun z V=>?_) (fun z V=>?_)<;>try(cases z;done))|apply ak ?_|(apply zcQ fun K hK=>?_)|apply ax ?_|apply zcR ?_|fail)
    refine⟨ac,eL,eL,eN,GE,?_⟩;exact⟨F,U,E3'⟩
   |false=>
    rw[ah aE,aA]at F;subst F;repeat' (first
     |(apply zcP ?_;clear hK K)|apply Ry.o ?_|(apply az (fun z V=>?_) (fun z V=>?_)<;>try(cases z;done))|apply ak ?_|(apply zcQ fun K hK=>?_)|apply ax ?_|apply zcR ?_|apply am ?_|fail)
    all_goals (refine⟨zcT,_,zcU,?_⟩;try simp only[zcS])
    exact⟨mr,E3'⟩
  .have hlt':¬(i:Int)<L.length:=by omega
   rw[o0 ac,lY,aA]at hJ;subst hJ;repeat' (first
    |(apply zcP ?_;clear hK K)|apply Ry.o ?_|(apply az (fun z V=>?_) (fun z V=>?_)<;>try(cases z;done))|apply ak ?_|(apply zcQ fun K hK=>?_)|apply am ?_|apply zc4 ?_)
   all_goals (refine⟨zcT,_,zcU,?_⟩;try simp only[zcS])
   exact⟨mr,E3'⟩
end
end
section
def tyEvE.tyF:=ad @b7 (ad @dz (ad @fd (ad @eT (ad @mN (ad @mO (ad @ii (ad @jE (ad @ly (ad @oS (ad @qz (ad @qC (ad @qD (ad @qE (ad @cP (ad @lw (ad @ei (ad @sB (ad @qA (ad @sD (ad @sE (ad @qF (ad @V4 (ad @GI (@qO))))))))))))))))))))))))
open tyEvE
noncomputable def GK:{c:SC // aB 15 (Tryz.f103.body.getD .skip)=c}:=by
 refine⟨?_,?_⟩;rotate_left
 .simp only[Tryz.f103,a8,aB,zda,zc9,zdc,zdd,Nat.blt,Nat.ble];rfl
noncomputable def jq:{c:SC // aB 200 (Tryz.f104.body.getD .skip)=c}:=by
 refine⟨?_,?_⟩;rotate_left
 .simp only[Tryz.f104,a8,aB,zda,zc9,zdc,zdd,Nat.blt,Nat.ble];rfl
theorem sT(a:Int):zeb Tryz.prog 134 [(1,.int .i64 a)]=some (.agg [.bool false,.int .i64 a,.nilP,.nilP]):=af
theorem Xz(p:Nat):zeb Tryz.prog 134 [(2,.ptr p 0)]=some (.agg [.bool false,.int .i64 0,.ptr p 0,.nilP]):=af
theorem o8(M:Hp)(q:Nat)(a b c d:AV):zep Tryz.prog (M.set q (.cells [a,b,c,d] 0 true)) 134 (.ptr q 0)=some (.agg [a,b,c,d]):=by
 rw[se,aX,ay rfl];kernel_rfl
def Cx9.less(c:Cx9)(q:Nat):Cx9:={c with S:=fun k=>c.S k/\k≠q}
theorem Fr9.less{c:Cx9}{H Y:Hp}{rows:List (List AV)}{Z:List R9}(h:Fr9 c H rows Z)(E:Ext9 (fun _=>True) H Y){q:Nat}(K:H.next<=q)(i:q<Y.next):Fr9 (c.less q) Y rows Z:=by
 have g:=h.keep E.next fun k j=>E.get k trivial j
 exact⟨g.x,g.r,g.lx,g.lr,(h.st.sub (T:=(c.less q).S) fun k j hS=>⟨hS,ac⟩).keep (E.sub fun _ _ _=>trivial),h.rows.mono fun a b hr=>(hr.sub (T:=(c.less q).S) fun k j hS=>⟨hS,ac⟩).keep (E.sub fun _ _ _=>trivial),fun k j=>⟨h.up k (eP E.next j),ac⟩,g.len⟩
section
variable {tb:List En} (hT:EvT tb) {c:Cx9} {H:Hp} {rows:List (List AV)} {res:List R9}
include hT
theorem GL(O:c.Ok)(g:Fr9 c H rows res):zc2 Tryz.prog (zcW pls tb) 103 [.ptr c.xp 0] H fun w H'=>w=.lst (c.g.nodes.map Nd.cells)/\H'=H:=by
 have J:Plain (zcW pls tb) 103:=hT.plain dt;have z:=g.x;unfold gW at z;have A:=O.g;refine zf (M:=15) (rs:=[.tmp 2]) (J.call _) J.ice J.froz Tryz.func103 rfl rfl GK.2 rfl ?_;dsimp only[GK,zcX,Nat.reduceAdd];repeat' (first
  |(apply zcP ?_;clear hK K)|apply Rx.o ?_|apply ak ?_|(apply zcQ fun K hK=>?_)|(apply zdG 1 [(4,13),(8,13),(11,13)] fun K hK=>?_)|(apply zdB ?_;try intro _)|(apply zdJ ?_ ?_<;>clear hK K)|apply b4 ?_|apply am ?_)
 .exact zdj
 all_goals (refine⟨zcT,_,zcU,?_⟩;try simp only[zcS])
 exact⟨mr,mr⟩
theorem XA(U:Fr9 c H rows res){n:Nd}(hl:n.kids.length<2^30){t:R9}(h:ig c.start c.args res n=some t):zc2 Tryz.prog (zcW pls tb) 104 [.ptr c.xp 0,.agg n.cells] H fun w H'=>∃j,w=.agg [.bool t.k,.int .i64 t.v,j,.nilP]/\iK c.S H' j t.s/\Ext9 (fun _=>True) H H':=by
 have J:Plain (zcW pls tb) 104:=hT.plain dt;obtain⟨i,g,L⟩:=n;simp only at hl;have ec:(Nd.mk i g L).cells=[.int .i64 i,.int .i64 g,.lst (L.map fun k=>[.int .i64 k])]:=rfl;rw[ec];have lx:=U.lx;have lr:=U.lr;have y0:(c.xp == H.next)=false:=zc7 ac;have y8:(c.xp == H.next+1)=false:=zc7 ac;have y9:(H.next == H.next+1)=false:=zc7 ac;have hF1:=U.alloc (.cells [.int .i64 i,.int .i64 g,.lst (L.map fun k=>[.int .i64 k])] 0 true);have Y:=hF1.alloc (.cells [.bool false,.int .i64 0,.nilP,.nilP] 0 true);have gx:=Y.x;unfold gW zeT at gx;have n1:AV.one .nilP=true:=rfl;have n2:AV.cells .nilP=[.nilP]:=rfl;generalize I:(H.alloc (.cells [.int .i64 i,.int .i64 g,.lst (L.map fun k=>[.int .i64 k])] 0 true)).alloc (.cells [.bool false,.int .i64 0,.nilP,.nilP] 0 true)=H2 at *;have gn:H2.get H.next=some (.cells [.int .i64 i,.int .i64 g,.lst (L.map fun k=>[.int .i64 k])] 0 true):=by
  rw[<-I];simp only[zcY,zc6,ah (show ¬H.next=H.next+1 by omega),bS]
 have gt:H2.get (H.next+1)=some (.cells [.bool false,.int .i64 0,.nilP,.nilP] 0 true):=by rw[<-I,zcY,ay dt]
 have C:Ext9 (fun _=>True) H H2:=⟨by rw[<-I,zc6,zc6];omega,fun r _ hr=>by
  rw[<-I];simp only[zcY,zc6,ah (show ¬r=H.next+1 by omega),ah (show ¬r=H.next by omega)]⟩
 have Ed:∀b,Ext9 (fun _=>True) H (H2.set (H.next+1) b):=fun b=>⟨C.next,fun r _ hr=>by
  rw[aX,ah ac];exact C.get r trivial hr⟩
 have Ed2:∀b2 b,Ext9 (fun _=>True) H ((H2.alloc b2).set (H.next+1) b):=fun b2 b=>⟨by rw[zdm,zc6];have:=C.next;omega,fun r _ hr=>by
  rw[aX,ah ac,zcY,ah (by have:=C.next;omega)];exact C.get r trivial hr⟩
 subst I;unfold ig at h;simp only at h;by_cases c1:i=1
 .rw[ay c1,aA]at h;subst c1;subst h;refine zf (M:=200) (rs:=[.cell 4 134]) (J.call _) J.ice J.froz Tryz.func104 rfl rfl jq.2 rfl ?_;dsimp only[jq,zcX,Nat.reduceAdd];have W:=@sT;repeat' (first
   |(apply zcP ?_;clear hK K)|apply Ry.o ?_|apply bl ?_|(apply az (fun z V=>?_) (fun z V=>?_)<;>try(cases z;done))|apply ak ?_|(apply zcQ fun K hK=>?_)|apply ax ?_|apply am ?_)
  all_goals (refine⟨zcT,_,(by(try simp only[zc3,Nat.reduceBEq,zet,zeC,o8, *]);first|done|with_reducible rfl),?_⟩;try simp only[zcS])
  exact⟨.nilP,rfl,rfl,Ed _⟩
 rw[ah c1]at h;by_cases c2:i=2
 .rw[ay c2]at h;subst c2;split at h
  .rename_i h0;obtain⟨m,rfl⟩:∃m:Nat,g=m:=⟨g.toNat,ac⟩;rw[dQ]at h;obtain⟨v,hv,Z⟩:=cj.1 h;rw[aA]at Z;subst Z;refine zf (M:=200) (rs:=[.cell 4 134]) (J.call _) J.ice J.froz Tryz.func104 rfl rfl jq.2 rfl ?_;dsimp only[jq,zcX,Nat.reduceAdd];have W:=@sT;repeat' (first
    |(apply zcP ?_;clear hK K)|apply Ry.o ?_|apply bl ?_|(apply az (fun z V=>?_) (fun z V=>?_)<;>try(cases z;done))|apply ak ?_|(apply zcQ fun K hK=>?_)|(apply nZ 5 fun K hK=>?_)|apply ax ?_|apply am ?_)
   all_goals (refine⟨zcT,_,(by(try simp only[zc3,Nat.reduceBEq,zet,zeC,o8, *]);first|done|with_reducible rfl),?_⟩;try simp only[zcS])
   exact⟨.nilP,rfl,rfl,Ed _⟩
  .cases h
 rw[ah c2]at h;by_cases c3:i=3\/i=25\/i=30\/i=31
 .rw[ay c3]at h;cases h
 rw[ah c3]at h;have d3:¬i=3:=ac;have d25:¬i=25:=ac;have d30:¬i=30:=ac;have d31:¬i=31:=ac;clear c3;by_cases c22:i=22
 .rw[ay c22]at h;subst c22;obtain⟨k,O,Z⟩:=cj.1 h;obtain⟨m,rfl⟩:∃m:Nat,k=m:=⟨k.toNat,by obtain⟨_,h0,_⟩:=U.get Z;omega⟩;obtain⟨j,hn,F,hx,hA⟩:=U.at Z;obtain⟨ho1,ho2⟩:=F.two;have o:=Gn hT Y (n:=⟨22,g,L⟩) hl O;rw[ec]at o;refine zf (M:=200) (rs:=[.cell 4 134]) (J.call _) J.ice J.froz Tryz.func104 rfl rfl jq.2 rfl ?_;dsimp only[jq,zcX,Nat.reduceAdd];repeat' (first
   |(apply zcP ?_;clear hK K)|apply Ry.o ?_|(apply az (fun z V=>?_) (fun z V=>?_)<;>try(cases z;done))|apply ak ?_|(apply zcQ fun K hK=>?_)|(apply zdG 12 [(3,6),(3,9),(5,6),(8,9)] fun K hK=>?_)|(apply zdB ?_;try intro _)|apply b4 ?_|apply ax ?_|fail)
  refine a4 rfl a6 a7 ?_;simp only[cG];refine aZ ?_ o;rintro v H4 ⟨rfl,rfl⟩;dsimp only[zc5];have hF4:=Y.alloc (.cells [.int .i64 22,.int .i64 g,.lst (L.map fun k=>[.int .i64 k])] 0 true);have gx4:=hF4.x;unfold gW at gx4;have zeh:=(hA _ hF4).lr;have gt4:((((H.alloc (.cells [.int .i64 22,.int .i64 g,.lst (L.map fun k=>[.int .i64 k])] 0 true)).alloc (.cells [.bool false,.int .i64 0,.nilP,.nilP] 0 true)).alloc (.cells [.int .i64 22,.int .i64 g,.lst (L.map fun k=>[.int .i64 k])] 0 true))).get (H.next+1)=some (.cells [.bool false,.int .i64 0,.nilP,.nilP] 0 true):=by rw[zcY,ah gX];exact gt
  have gn4:((((H.alloc (.cells [.int .i64 22,.int .i64 g,.lst (L.map fun k=>[.int .i64 k])] 0 true)).alloc (.cells [.bool false,.int .i64 0,.nilP,.nilP] 0 true)).alloc (.cells [.int .i64 22,.int .i64 g,.lst (L.map fun k=>[.int .i64 k])] 0 true))).get H.next=some (.cells [.int .i64 22,.int .i64 g,.lst (L.map fun k=>[.int .i64 k])] 0 true):=by rw[zcY,ah gX];exact gn
  repeat' (first
   |apply Rx.o ?_|apply bE ?_|(apply zdB ?_;try intro _)|(apply zdJ ?_ ?_<;>clear hK K)|apply b4 ?_|apply zfc rfl ?_|apply am ?_)
  .exact zdj
  all_goals (refine⟨zcT,_,(by(try simp only[zc3,Nat.reduceBEq,zet,zeC,o8, *]);first|done|with_reducible rfl),?_⟩;try simp only[zcS])
  exact⟨j,rfl,F.keep ((Ed2 _ _).sub fun _ _ _=>trivial),Ed2 _ _⟩
 rw[ah c22]at h;by_cases c23:i=23
 .rw[ay c23]at h;subst c23;obtain⟨r,O,Z⟩:=cj.1 h;obtain⟨s,h3,A⟩:=cj.1 Z;obtain⟨ra,h5,h6⟩:=cj.1 A;obtain⟨x,h7,h8⟩:=cj.1 h6;rw[aA]at h8;subst h8;clear h Z A h6;obtain⟨m,j,zd3,_,hm,F,ix,hA⟩:=U.kid O;obtain⟨ma,sva,ka,_,hma,_,ixa,hAa⟩:=U.kid h5;simp only at zd3 ka;rw[h3]at F;have a2:=(hA _ Y).l2;have aa:=(hAa _ Y).l1;have kld:=W9 hT (xF F (C.sub fun _ _ _=>trivial)) h7;refine zf (M:=200) (rs:=[.cell 4 134]) (J.call _) J.ice J.froz Tryz.func104 rfl rfl jq.2 rfl ?_;dsimp only[jq,zcX,Nat.reduceAdd];have W:=@sT;repeat' (first
   |(apply zcP ?_;clear hK K)|apply Ry.o ?_|apply bl ?_|(apply bq ?_;first|refine Rx.k (kld) ?_)|(apply az (fun z V=>?_) (fun z V=>?_)<;>try(cases z;done))|apply ak ?_|(apply zcQ fun K hK=>?_)|(apply zdG 14 [(3,24),(5,24),(7,24),(10,24),(12,24),(16,24),(18,24),(20,24),(23,24)] fun K hK=>?_)|(apply zdB ?_;try intro _)|(apply zdJ ?_ ?_<;>clear hK K)|apply b4 ?_|apply zfc rfl ?_|apply ax ?_|apply am ?_)
  .exact zdj
  all_goals (refine⟨zcT,_,(by(try simp only[zc3,Nat.reduceBEq,zet,zeC,o8, *]);first|done|with_reducible rfl),?_⟩;try simp only[zcS])
  exact⟨.nilP,rfl,rfl,Ed _⟩
 rw[ah c23]at h;by_cases c24:i=24
 .rw[ay c24]at h;subst c24;obtain⟨r,O,Z⟩:=cj.1 h;obtain⟨s,h3,A⟩:=cj.1 Z;rw[aA]at A;subst A;clear h Z;obtain⟨m,j,zd3,_,hm,F,ix,hA⟩:=U.kid O;simp only at zd3;rw[h3]at F;have a2:=(hA _ Y).l2;obtain⟨p,cv,ov,rfl,hp⟩:=xF F (C.sub fun _ _ _=>trivial);have gp:=hp.get;refine zf (M:=200) (rs:=[.cell 4 134]) (J.call _) J.ice J.froz Tryz.func104 rfl rfl jq.2 rfl ?_;dsimp only[jq,zcX,Nat.reduceAdd];have W:=@sT;repeat' (first
   |(apply zcP ?_;clear hK K)|apply Ry.o ?_|apply bl ?_|(apply az (fun z V=>?_) (fun z V=>?_)<;>try(cases z;done))|apply ak ?_|(apply zcQ fun K hK=>?_)|(apply nZ 16 fun K hK=>?_)|apply ax ?_|apply am ?_)
  all_goals (refine⟨zcT,_,(by(try simp only[zc3,Nat.reduceBEq,zet,zeC,o8, *]);first|done|with_reducible rfl),?_⟩;try simp only[zcS])
  exact⟨.nilP,rfl,rfl,Ed _⟩
 rw[ah c24]at h;by_cases c20:i=20\/i=21
 .rw[ay c20]at h;obtain⟨r,O,Z⟩:=cj.1 h;rw[aA]at Z;subst Z;clear h;obtain⟨m,j,zd3,_,hm,F,ix,hA⟩:=U.kid O;simp only at zd3;have zd0:=(hA _ Y).l1;rcases c20 with rfl|rfl;all_goals
   refine zf (M:=200) (rs:=[.cell 4 134]) (J.call _) J.ice J.froz Tryz.func104 rfl rfl jq.2 rfl ?_;dsimp only[jq,zcX,Nat.reduceAdd];have W:=@sT;repeat' (first
    |(apply zcP ?_;clear hK K)|apply Ry.o ?_|apply bl ?_|(apply bq ?_;first|refine Rx.k (hT.kUn _ _ _) ?_)|(apply az (fun z V=>?_) (fun z V=>?_)<;>try(cases z;done))|apply ak ?_|(apply zcQ fun K hK=>?_)|(apply zdG 26 [(1,13),(5,13),(7,13),(9,13),(12,13)] fun K hK=>?_)|(apply zdB ?_;try intro _)|(apply zdJ ?_ ?_<;>clear hK K)|apply b4 ?_|apply zfc rfl ?_|apply ax ?_|apply zcR ?_|apply am ?_)
   .exact zdj
   all_goals (refine⟨zcT,_,(by(try simp only[zc3,Nat.reduceBEq,zet,zeC,o8, *]);first|done|with_reducible rfl),?_⟩;try simp only[zcS])
   exact⟨.nilP,rfl,rfl,Ed _⟩
 rw[ah c20]at h;have d20:¬i=20:=ac;have d21:¬i=21:=ac;by_cases c26:i=26\/i=27\/i=28\/i=29
 .rw[ay c26]at h;obtain⟨s,O,Z⟩:=cj.1 h;rw[aA]at Z;subst Z;clear h;have hF3:Fr9 (c.less (H.next+1)) ((H.alloc (.cells [.int .i64 i,.int .i64 g,.lst (L.map fun k=>[.int .i64 k])] 0 true)).alloc (.cells [.bool false,.int .i64 0,.nilP,.nilP] 0 true)) rows res:=U.less C (gm _) (by rw[zc6,zc6];omega);have kn:=Xw hT hF3 (n:=⟨i,g,L⟩) hl O;rw[ec]at kn;rcases c26 with rfl|rfl|rfl|rfl;all_goals
   refine zf (M:=200) (rs:=[.cell 4 134]) (J.call _) J.ice J.froz Tryz.func104 rfl rfl jq.2 rfl ?_;dsimp only[jq,zcX,Nat.reduceAdd];repeat' (first
    |(apply zcP ?_;clear hK K)|apply Ry.o ?_|(apply az (fun z V=>?_) (fun z V=>?_)<;>try(cases z;done))|apply ak ?_|(apply zcQ fun K hK=>?_)|apply ax ?_|apply zcR ?_|fail)
   refine a4 rfl a6 a7 ?_;simp only[bB];refine aZ ?_ kn;rintro v H4 ⟨hv,E4⟩;dsimp only[zc5];have gt4:=(E4.get _ trivial (by rw[zc6,zc6];omega)).trans gt;have hv0:=hv;obtain⟨p,cv,ov,rfl,hp⟩:=hv0;have n4:=E4.next
   rw[zc6,zc6]at n4;have W:=@Xz;repeat' (first
    |(apply zcP ?_;clear hK K)|apply Rx.o ?_|apply bE ?_|apply am ?_)
   all_goals (refine⟨zcT,_,(by(try simp only[zc3,Nat.reduceBEq,zet,zeC,o8, *]);first|done|with_reducible rfl),?_⟩;try simp only[zcS])
   have Ef:Ext9 (fun k=>c.S k/\k≠H.next+1) H4 (H4.set (H.next+1) (.cells [.bool false,.int .i64 0,.ptr p 0,.nilP] 0 true)):=⟨aM _,fun r hr _=>by rw[aX,ah hr.2]⟩;refine⟨.ptr p 0,rfl,(hv.keep (S:=fun k=>c.S k/\k≠H.next+1) Ef).sub fun k _ hk=>hk.1,⟨by rw[zdm];omega,fun r _ hr=>?_⟩⟩;rw[aX,ah ac,E4.get r trivial (by rw[zc6,zc6];omega)];exact C.get r trivial hr
 rw[ah c26]at h;obtain⟨ra,O,Z⟩:=cj.1 h;obtain⟨rb,h3,A⟩:=cj.1 Z;rw[aA]at A;subst A;clear h Z;have d26:¬i=26:=ac;have d27:¬i=27:=ac;have d28:¬i=28:=ac;have d29:¬i=29:=ac;obtain⟨ma,sva,ka,_,hma,_,ixa,hAa⟩:=U.kid O;obtain⟨mb,svb,kb,_,hmb,_,ixb,hAb⟩:=U.kid h3;simp only at ka kb;have aa:=(hAa _ Y).l1;have ab:=(hAb _ Y).l1;refine zf (M:=200) (rs:=[.cell 4 134]) (J.call _) J.ice J.froz Tryz.func104 rfl rfl jq.2 rfl ?_;dsimp only[jq,zcX,Nat.reduceAdd];have W:=@sT;repeat' (first
  |(apply zcP ?_;clear hK K)|apply Ry.o ?_|apply bl ?_|(apply bq ?_;first|refine Rx.k (hT.kBi _ _ _ _) ?_)|(apply az (fun z V=>?_) (fun z V=>?_)<;>try(cases z;done))|apply ak ?_|(apply zcQ fun K hK=>?_)|(apply zdG 33 [(1,24),(5,24),(7,24),(9,24),(12,24),(16,24),(18,24),(20,24),(23,24)] fun K hK=>?_)|(apply zdB ?_;try intro _)|(apply zdJ ?_ ?_<;>clear hK K)|apply b4 ?_|apply zfc rfl ?_|apply ax ?_|apply zcR ?_|apply am ?_)
 .exact zdj
 all_goals (refine⟨zcT,_,(by(try simp only[zc3,Nat.reduceBEq,zet,zeC,o8, *]);first|done|with_reducible rfl),?_⟩;try simp only[zcS])
 exact⟨.nilP,rfl,rfl,Ed _⟩
end
end
section
def tyR3b.tyF:=ad @b7 (ad @dz (ad @iG (ad @iH (ad @gC (ad @jF (@cP))))))
open tyR3b
mutual
def iL:Ex->Nat
 | .mk _ _ _ _ V=>qP V
def qP:List Ex->Nat
 |[]=>0
 |e::es=>max (1+iL e) (qP es)
end
def u0(x:Ex):List AV:=[.agg x.cells]
theorem XB(x y:Ex)(h:u0 x=u0 y):x=y:=by simp only[u0,cS,AV.agg.injEq,a1]at h;exact Ex.inj h
mutual
def n1:St->Nat
 | .mk _ _ _ _ _ _ _ g i=>1+zeG g+zeG i
def zeG:List St->Nat
 |[]=>0
 |x::l=>n1 x+zeG l
end
mutual
def zeU:St->Nat
 | .mk k _ _ _ _ _ _ g i=>(if k=4 then 1 else 0)+zeD g+zeD i
def zeD:List St->Nat
 |[]=>0
 |x::l=>zeU x+zeD l
end
mutual
def zeo:St->Nat->Nat
 | .mk _ _ _ _ _ _ _ g i,d=>max d (max (mS g (d+1)) (mS i (d+1)))
def mS:List St->Nat->Nat
 |[],_=>0
 |x::l,d=>max (zeo x d) (mS l d)
end
theorem zey{z:Int}(h1:-9223372036854775808<=z)(h2:z<9223372036854775808):IntKind.wrap .i64 z=z:=qd _ ac
theorem XC(a b c:AV):Ab.extract (.tup [a,b,c]) 0=some a:=rfl
theorem XD(a b c:AV):Ab.extract (.tup [a,b,c]) 1=some b:=rfl
theorem XE(a b c:AV):Ab.extract (.tup [a,b,c]) 2=some c:=rfl
end
section
def tyEvF.tyF:=ad @cP (ad @b7 (ad @lw (ad @ei (ad @fd (ad @eT (ad @jE (ad @ly (ad @oS (ad @qz (ad @qC (ad @sE (ad @qD (ad @qE (ad @qF (@qO)))))))))))))))
open tyEvF
noncomputable def GM:{c:SC // aB 59 (Tryz.f65.body.getD .skip)=c}:=by
 refine⟨?_,?_⟩;rotate_left
 .simp only[Tryz.f65,a8,aB,zda,zc9,zdc,zdd,Nat.blt,Nat.ble];rfl
theorem GN{z:Nat}{w:List AV}(J:w.length=z):∀{rows:List (List AV)}{i:Nat},(∀x∈rows,x.length=z)->i<rows.length->splice rows.flatten (i*z) w=(rows.set i w).flatten
 |[],i,_,e=>by simp at e
 |a::rows,0,h,e=>by
  have F:=h a e8;simp only[splice,t9,uX,lN,bz,lQ,BC];rw[ww ac,zr ac,lN]
 |a::rows,i+1,h,e=>by
  have F:=h a e8;have ih:=GN J (rows:=rows) (i:=i) (fun x Z=>h x (fl _ Z)) xc;simp only[splice,lQ,List.set_cons_succ]at ih⊢;have Y:(i+1)*z=a.length+i*z:=by rw[qc,F];omega
  rw[Y,List.take_length_add_append,hZ,FZ,gw,gw];rw[gw]at ih;rw[ih]
theorem XF{P:Program}{t z q i:Nat}{tip:Bool}{H:Hp}{rows:List (List AV)}{w:List AV}(K:zc8 P t=some z)(A:H.get q=some (.cells rows.flatten 0 tip))(m:∀x∈rows,x.length=z)(C:i<rows.length)(J:w.length=z)(h1:w.all AV.one=true):zeP P H t (.ptr q (i*z)) (.agg w)=some (H.set q (.cells (rows.set i w).flatten 0 tip)):=by
 have I:=xf m;have Z:i*z+z<=rows.flatten.length:=by
  rw[I];have:(i+1)*z<=rows.length*z:=r4 z C;rw[qc]at this;exact this
 simp only[zeP,A,K];show(if w.length=z/\0<=i*z/\i*z+z<=rows.flatten.length/\w.all AV.one=true then some (H.set q (.cells (splice rows.flatten (i*z) w) 0 tip))else none)=_;rw[ay ⟨J,cN _,Z,h1⟩,GN J m C]
theorem Cx9.Ok.less{c:Cx9}(h:c.Ok)(q:Nat):(c.less q).Ok:=⟨h.g,h.ne,fun k=>h.sx k.1,fun k=>h.sr k.1,h.len⟩
theorem Fr9.more{c:Cx9}{q:Nat}{H:Hp}{rows:List (List AV)}{Z:List R9}(h:Fr9 (c.less q) H rows Z):Fr9 c H rows Z:=
 ⟨h.x,h.r,h.lx,h.lr,h.st.sub (T:=c.S) fun _ _ k=>k.1,h.rows.mono fun a b hr=>hr.sub (T:=c.S) fun _ _ k=>k.1,fun k j=>(h.up k j).1,h.len⟩
theorem Fr9.move{c:Cx9}{q L:Nat}{H Z:Hp}{rows:List (List AV)}{Y:List R9}(h:Fr9 (c.less q) H rows Y)(o:H.next<=Z.next)(A:∀r,r<H.next->r≠q->Z.get r=H.get r)(F:q≠c.xp)(hr:q≠c.rp)(h2:H.next<=L)(m:L<Z.next):Fr9 (c.less L) Z rows Y:=by
 have a:∀k,k<H.next->(c.less q).S k->c.S k/\k≠q/\k<H.next:=fun k j hS=>⟨hS.1,hS.2,j⟩
 have E:Ext9 (fun k=>c.S k/\k≠q/\k<H.next) H Z:=⟨o,fun k j I=>A k I j.2.1⟩;have b:∀k,k<Z.next->(c.S k/\k≠q/\k<H.next)->(c.less L).S k:=fun k _ j=>⟨j.1,by have:=j.2.2;omega⟩
 exact⟨by have:=A c.xp h.lx (Ne.symm F);exact this.trans h.x,by have:=A c.rp h.lr (Ne.symm hr);exact this.trans h.r,gk h.lx o,gk h.lr o,((h.st.sub a).keep E).sub b,h.rows.mono fun x y hr=>((hr.sub a).keep E).sub b,fun k j=>⟨(h.up k (eP o j)).1,ac⟩,h.len⟩
theorem Fr9.upd{c:Cx9}(O:c.Ok){H:Hp}{rows:List (List AV)}{Z:List R9}(h:Fr9 c H rows Z){i:Nat}{J:AV}{t:R9}(Y:iK c.S H J t.s):Fr9 c (H.set c.rp (.cells (rows.set i [.bool true,.int .i64 t.v,J,.nilP]).flatten 0 true)) (rows.set i [.bool true,.int .i64 t.v,J,.nilP]) (Z.set i t.known):=by
 have E:Ext9 c.S H (H.set c.rp (.cells (rows.set i [.bool true,.int .i64 t.v,J,.nilP]).flatten 0 true)):=⟨aM _,fun k j _=>by rw[aX,ah (fun e:k=c.rp=>O.sr (by rw[<-e];exact j))]⟩;refine⟨?_,hW,h.lx,h.lr,h.st.keep E,?_,h.up,by rw[kK];exact h.len⟩
 .rw[aX,ah O.ne,kK];exact h.x
 .exact zdo.set (h.rows.mono fun a b hr=>hr.keep E) ⟨J,rfl,Y.keep E⟩
theorem XG{H:Hp}{q r:Nat}{k:Int}{st:List Int}{junk:List AV}(A:H.get q=some (.cells (zdX st.reverse++junk) 0 true))(hr:H.get r=some (.cells [.int .i64 k] 0 true))(U:q≠r)(I:st.length<2^30)(K:q<H.next):
 ∃Y,zen Tryz.prog false H 23 23 (.sl q 0 st.length 1) (.sl r 0 1 1)=some (.sl H.next 0 (st.length+1) 1,Y)/\H.next+1<=Y.next/\Y.get H.next=some (.cells (zdX (k::st).reverse) 0 true)/\∀p,p<H.next->p≠q->Y.get p=H.get p:=by
 have F:zeN H 1 (.sl r 0 1 1)=some (0+1,[.int .i64 k]):=by
  have:=lX (H:=H) (r:=r) (o:=0) (n:=1) (z:=1) (s:=1) hr aE;rw[this];rfl
 have Z:(zdX st.reverse).length=st.length:=by rw[uD,qK]
 obtain⟨V,C,W,O,g⟩:∃V,gh false H 1 (.sl q 0 st.length 1)=V/\V.next=H.next/\V.get q=some (.cells (zdX st.reverse) 0 true)/\∀p,p≠q->V.get p=H.get p:=by
  cases junk with
  |nil=>
   rw[bB]at A;refine⟨H,?_,rfl,A,fun _ _=>rfl⟩;unfold gh;simp only[A,bz,gA,Z];have:Nat.blt st.length st.length=false:=by
    cases M:Nat.blt st.length st.length with
    |false=>rfl
    |true=>rw[gL]at M;omega
   simp only[gR,dq,this,dX]
  |cons a j=>
   refine⟨H.set q (.cells ((zdX st.reverse++a::j).take (0+st.length*1)) 0 true),?_,rfl,?_,fun p hp=>by rw[aX,ah hp]⟩
   .unfold gh;simp only[A];have:Nat.blt (0+st.length*1) (zdX st.reverse++a::j).length=true:=by rw[gL,fv,Z,dl];omega
    simp only[gR,dq,this];rfl
   .rw[aX,ay rfl,bz,gA,zq ac,eF ac]
 refine⟨(V.kill q).alloc (.cells ((zdX st.reverse).drop 0++[.int .i64 k]) (0-0) true),?_,by rw[zc6,zfq];omega,?_,fun p hp i=>?_⟩
 .simp only[zen,Tryz.underlying23,jl,qx,qy,show kw Tryz.prog 23=true by kernel_rfl,F,mV,BB,C,zfz,O];simp only[ED,qj,dl,jx,mH,bS,ct,cb,bz,gA,Z,cN,W,kC];rw[ay ⟨mU,mU,trivial⟩]
 .rw[<-W];show((V.kill q).alloc _).get (V.kill q).next=_
  rw[zcY,ay rfl,BD,zdX,zdX,qi];rfl
 .rw[zcY,ah (by rw[zfq];omega),zeI,ah i,g p i]
structure Stk9 (H:Hp) (q:Nat) (v:AV) (st:List Int):Prop where
 lt:q<H.next
 v:(st=[]/\v=.lst [])\/(st≠[]/\v=.sl q 0 st.length 1/\∃junk,H.get q=some (.cells (zdX st.reverse++junk) 0 true))
theorem XH(q n:Nat):zeF Tryz.prog 23 (.sl q 0 (n+1) 1) none (some (.int .i64 (n:Int)))=some (if 0=n then .lst []else .sl q 0 n 1):=by
 show zeF Tryz.prog 23 (.sl q 0 (n+1) 1) none (some (.int .i64 (Int.ofNat n)))=_;simp only[zeF,Tryz.underlying23,jl,yL];by_cases h:0=n
 .subst h;simp
 .simp[h]
section
variable {tb:List En} (hT:EvT tb) {c:Cx9} {H:Hp} {rows:List (List AV)} {res:List R9}
include hT
theorem GO(hc:c.Ok)(hkk:∀nd∈c.g.nodes,nd.kids.length<2^30)(hF:Fr9 c H rows res){n:Nat}{i0:Int}{L:List R9}(h:zeE c.g.nodes c.start c.args n res [i0]=some L):zc2 Tryz.prog (zcW pls tb) 65 [.ptr c.xp 0,.int .i64 i0] H fun _ H'=>∃rows2,Fr9 c H' rows2 L/\H.next<=H'.next/\∀r,r<H.next->r≠c.rp->H'.get r=H.get r:=by
 have hw:Plain (zcW pls tb) 65:=hT.plain dt;have hkeep:(zcW pls tb).keep 65=false:=rfl;have bs1:∀H k,zej Tryz.prog H 23 1 [(0,.int .i64 k)]=some (.sl H.next 0 1 1,H.alloc (.cells [.int .i64 k] 0 true)):=fun _ _=>af;refine zf (M:=59) (rs:=[]) (hw.call _) hw.ice hw.froz Tryz.func65 rfl rfl GM.2 rfl ?_;dsimp only[GM,zcX,Nat.reduceAdd];repeat' (first
  |(apply zcP ?_;clear hK K)|apply Rx.o ?_|apply ak ?_|(apply zcQ fun K hK=>?_)|apply ax ?_|fail)
 refine qn (fun m E F=>∃st Z U q v,zeE c.g.nodes c.start c.args m U st=some L/\E.at 0=.ptr c.xp 0/\E.at 4=v/\Stk9 F q v st/\H.next<=q/\Fr9 (c.less q) F Z U/\st.length<2^20+2/\∀r,r<H.next->r≠c.rp->F.get r=H.get r) ?_ (n:=n) ?_
 .rintro m E F ⟨st,Z,U,q,v,Y,zd3,zfs,hst,hq,O,hlen,J⟩;have j:=hst.lt;cases m with
  |zero=>simp[zeE]at Y
  |succ m=>
   cases st with
   |nil=>
    rcases hst.v with⟨_,rfl⟩|⟨W,_⟩
    .rw[zeE,aA]at Y;subst Y;repeat' (first
      |(apply zcP ?_;clear hK K)|apply Ry.o ?_|(apply az (fun z V=>?_) (fun z V=>?_)<;>try(cases z;done))|apply ak ?_|(apply zcQ fun K hK=>?_)|apply zc4 ?_)
     all_goals (refine⟨zcT,_,zcU,?_⟩;try simp only[zcS])
     exact⟨Z,O.more,ac,J⟩
    .exact absurd rfl W
   |cons i st=>
    rcases hst.v with⟨W,_⟩|⟨_,rfl,junk,gq⟩
    .cases W
    rw[dl]at hlen zfs;rw[zeE]at Y;obtain⟨r,hr,Y⟩:=cj.1 Y;obtain⟨i,rfl⟩:∃m:Nat,i=m:=⟨i.toNat,by obtain⟨_,h0,_⟩:=O.get hr;omega⟩;obtain⟨sv,hn,ho,hx,hA⟩:=O.at hr;have gx:F.get c.xp=some (.cells (gW c.u c.hv c.f c.sv c.args c.rp U.length) 0 true):=O.x;unfold gW at gx;have hx:zdn Tryz.prog 127 (.sl c.rp 0 U.length 4) (.int .i64 (i:Int))=some (.ptr c.rp (i*4)):=hx;have a0:zep Tryz.prog F 4 (.ptr c.rp (i*4))=some (.bool r.k):=(hA _ O).l0;have gi:(zdX ((i:Int)::st).reverse++junk)[st.length]?=some (.int .i64 (i:Int)):=by
     rw[BD,zdX,qi,gw,jS (by rw[cX,qK];exact aM _),cX,qK,kC];rfl
    have e1:IntKind.wrap .i64 (((st.length+1:Nat):Int)-1)=(st.length:Int):=by rw[show((st.length+1:Nat):Int)-1=(st.length:Int) by omega];exact zey ac ac
    have ixq:zdn Tryz.prog 23 (.sl q 0 (st.length+1) 1) (.int .i64 (st.length:Int))=some (.ptr q st.length):=by rw[mK Tryz.underlying23 jl (cQ _)];simp
    have p0:((0:Int)<((st.length+1:Nat):Int)):=ac;have sq:=XH q st.length;obtain⟨rk,rv,rs⟩:=r;cases rk with
    |true=>
     rw[ay rfl]at Y;repeat' (first
      |(apply zcP ?_;clear hK K)|apply Ry.o ?_|(apply az (fun z V=>?_) (fun z V=>?_)<;>try(cases z;done))|apply ak ?_|(apply zcQ fun K hK=>?_)|apply ax ?_|apply zcR ?_|apply zc4 ?_)
     refine⟨m,cQ _,st,Z,U,q,(if 0=st.length then .lst []else .sl q 0 st.length 1),Y,eE,eE,⟨j,?_⟩,hq,O,ac,J⟩;by_cases hz:st=[]
     .subst hz;exact .inl ⟨rfl,rfl⟩
     .refine .inr ⟨hz,ah (fun e=>hz (BE e.symm)),.int .i64 (i:Int)::junk,?_⟩;rw[gq,BD,zdX,zdX,qi,gw];rfl
    |false=>
     rw[ah aE]at Y;obtain⟨nd,hnd,Y⟩:=cj.1 Y;obtain⟨k,hk,Y⟩:=cj.1 Y;rw[dQ]at hnd;have hkl:=hkk nd (jU hnd);have kn:zc2 Tryz.prog (zcW pls tb) 103 [.ptr c.xp 0] F fun w H'=>w=.lst (c.g.nodes.map Nd.cells)/\H'=F:=GL (c:=c.less q) hT (hc.less q) O;have hnw:=Nd.whole nd;repeat' (first
      |(apply zcP ?_;clear hK K)|apply Ry.o ?_|(apply bq ?_;first|refine Rx.k (kn) ?_)|(apply az (fun z V=>?_) (fun z V=>?_)<;>try(cases z;done))|apply ak ?_|(apply zcQ fun K hK=>?_)|apply ax ?_|apply zcR ?_|fail)
     refine a4 rfl a6 a7 ?_;simp only[bB];refine aZ ?_ (Xy hT O hkl hk);rintro v H3 ⟨rfl,E3⟩;dsimp only[zc5];have I:=O.keep E3.next fun r hr=>E3.get r trivial hr
     have gq3:=(E3.get q trivial j).trans gq;have n3:=E3.next
     have lx:=hF.lx;have lr:=hF.lr;by_cases hk0:0<=k
     .rw[ay hk0]at Y;split at Y
      .rename_i hl2;obtain⟨H5,ap,n5,g5,zeL⟩:=XG (H:=H3.alloc (.cells [.int .i64 k] 0 true)) (q:=q) (r:=H3.next) (k:=k) (st:=(i:Int)::st) (junk:=junk) (by rw[zcY,ah ac];exact gq3) iu ac Bm uQ;rw[dl]at ap;rw[zc6]at ap n5 g5 zeL;repeat' (first
        |(apply zcP ?_;clear hK K)|apply Ry.o ?_|(apply az (fun z V=>?_) (fun z V=>?_)<;>try(cases z;done))|apply ak ?_|(apply zcQ fun K hK=>?_)|apply zc4 ?_)
       refine⟨m,cQ _,k::(i:Int)::st,Z,U,H3.next+1,.sl (H3.next+1) 0 (st.length+1+1) 1,Y,eE,eE,⟨ac,.inr ⟨aE,rfl,[],by rw[bB];exact g5⟩⟩,ac,I.move ac (fun r hr W=>by rw[zeL r ac W,zcY,ah ac]) ac ac ac ac,BA,fun r hr W=>?_⟩;rw[zeL r ac ac,zcY,ah ac,E3.get r trivial ac];exact J r hr W
      .cases Y
     .rw[ah hk0]at Y;obtain⟨t,ht,Y⟩:=cj.1 Y;rw[dQ]at Y;have kn3:zc2 Tryz.prog (zcW pls tb) 103 [.ptr c.xp 0] H3 fun w H'=>w=.lst (c.g.nodes.map Nd.cells)/\H'=H3:=GL (c:=c.less q) hT (hc.less q) I;repeat' (first
       |(apply zcP ?_;clear hK K)|apply Ry.o ?_|(apply bq ?_;first|refine Rx.k (kn3) ?_)|(apply az (fun z V=>?_) (fun z V=>?_)<;>try(cases z;done))|apply ak ?_|(apply zcQ fun K hK=>?_)|apply zcR ?_|fail)
      refine a4 rfl a6 a7 ?_;simp only[bB];refine aZ ?_ (XA hT I hkl ht);rintro v o ⟨g,rfl,ho4,E4⟩;dsimp only[zc5];have hF4:=I.keep E4.next fun r hr=>E4.get r trivial hr
      obtain⟨u1,u2⟩:=ho4.two;have n4:=E4.next
      have z1:AV.one .nilP=true:=rfl;have z2:AV.cells .nilP=[.nilP]:=rfl;have gx4:o.get c.xp=some (.cells (gW c.u c.hv c.f c.sv c.args c.rp U.length) 0 true):=hF4.x;unfold gW at gx4;have y4:(c.xp == o.next)=false:=zc7 ac;repeat' (first
       |(apply zcP ?_;clear hK K)|apply Ry.o ?_|apply bl ?_|apply ak ?_|(apply zcQ fun K hK=>?_)|(apply nZ 10 fun K hK=>?_)|fail)
      generalize A:Hp.set (Hp.set (Hp.alloc o _) _ _) _ _=Hb;have nb:o.next+1<=Hb.next:=uP
      have kb:∀r,r<o.next->Hb.get r=o.get r:=fun r hr=>by
       rw[<-A];simp only[aX,zcY,ah (show ¬r=o.next by omega)]
      have gb:Hb.get o.next=some (.cells [.bool true,.int .i64 t.v,g,.nilP] 0 true):=Bn
      clear A;have C:=hF4.keep ac kb;have hob:=ho4.keep (H':=Hb) ⟨ac,fun r _ hr=>kb r hr⟩;have gxb:Hb.get c.xp=some (.cells (gW c.u c.hv c.f c.sv c.args c.rp U.length) 0 true):=C.x;unfold gW at gxb;have stR:zeP Tryz.prog Hb 134 (.ptr c.rp (i*4)) (.agg [.bool true,.int .i64 t.v,g,.nilP])=some (Hb.set c.rp (.cells (Z.set i [.bool true,.int .i64 t.v,g,.nilP]).flatten 0 true)):=XF uM C.r (Rows9.len C.rows) (by rw[zdo.len C.rows];exact hn) rfl (by simp only[mV,BB,u1,z1,jW];rfl);repeat' (first
       |(apply zcP ?_;clear hK K)|apply bE ?_|fail)
      refine⟨m,cQ _,(i:Int)::st,Z.set i [.bool true,.int .i64 t.v,g,.nilP],U.set i t.known,q,.sl q 0 (st.length+1) 1,Y,eE,eE,⟨by rw[zdm];omega,.inr ⟨aE,rfl,junk,?_⟩⟩,hq,C.upd (hc.less q) hob,BA,fun r hr W=>?_⟩
      .rw[aX,ah ac,kb q ac,E4.get q trivial ac];exact gq3
      .rw[aX,ah W,kb r ac,E4.get r trivial ac,E3.get r trivial ac];exact J r hr W
 .exact⟨[i0],rows,res,H.next,_,h,eE,eE,⟨cQ _,.inr ⟨aE,rfl,[],ik⟩⟩,aM _,hF.less ⟨gm _,fun r _ hr=>fK⟩ (aM _) (cQ _),by show 1<_;omega,fun r hr _=>fK⟩
end
end
end Go.Proofs.YtljebeflbbgibaaGreat
namespace Go.Ab
set_option maxRecDepth 20000
open Go
instance:DecidableEq Nd:=fun x y=>decidable_of_iff (x.op=y.op/\x.imm=y.imm/\x.kids=y.kids) (by cases x;cases y;simp)
def bj(op:Int):Int×Bool:=
 if op=1\/op=2\/op=3\/op=26 then (0,true)
 else if op=20\/op=21\/op=24\/op=25 then (1,true)
 else if op=23\/op=27\/op=29 then (2,true)
 else if op=22\/op=28 then (3,true)
 else if op=30\/op=31 then (-1,true)
 else if 4<=op/\op<=19 then (2,true)
 else (0,false)
def dR(n:Int):Int:=(n-1).tdiv 2
def j7(l:List Nd)(k:Int):Int:=match l[k.toNat]? with
 |some n=>n.kids.length
 |none=>0
def zd6(l:List Nd)(n:Nd):Int:=
 if n.op=2 then 5 else if n.op=3 then 255 else if n.op=23\/n.op=28 then 3 else if n.op=30 then 7 else if n.op=31 then 15
 else if n.op=25 then dR (j7 l (n.kids.headD 0))-1 else 0
def jc(l:List Nd)(n:Nd):Bool:=
 if n.op=1 then true
 else if n.op=27 then decide (1<=n.imm)&&decide (n.imm<=1000016)
 else decide (0<=n.imm)&&decide (n.imm<=zd6 l n)
def jD(op:Int):List Int:=
 if op=22 then [1,1,1]else if op=23\/op=27\/op=29 then [2,1]else if op=28 then [2,1,1]else if op=24 then [2]else if op=25 then [3]else [1,1]
def zdH:List Int->List Int->Bool
 |[],_=>true
 |a::s,w=>decide (a=w.headD 0)&&zdH s w.tail
def iM(n:Nat):List Int:=((List.replicate n (1:Int)).set 0 2).set (dR n+1).toNat 2
def zdv(op:Int)(s:List Int):Bool:=
 if (bj op).2=false then false
 else if 0<=(bj op).1/\(bj op).1≠s.length then false
 else if op=31 then decide (3<=s.length)&&decide (s.length%2=1)&&decide (dR s.length<=16)&&zdH s (iM s.length)
 else if op=30 then decide (1<=s.length)&&decide (s.length<=7)&&decide (s.headD 0=2)&&s.tail.all fun x=>decide (x=1)
 else if op=22/\s.getD 1 0=2 then decide (s.headD 0=1)&&decide (s.getD 2 0=2)
 else zdH s (jD op)
def zeq(i:Nat)(C:List Int):List Int->Option (List Int)
 |[]=>some []
 |k::ks=>if k<0\/(i:Int)<=k\/C.getD k.toNat 0=0 then none else (zeq i C ks).map fun s=>C.getD k.toNat 0::s
def jM(n:Nd)(s:List Int):Int:=
 if n.op=31 then 3
 else if n.op=26\/n.op=27\/n.op=28\/n.op=29\/n.op=30 then 2
 else if n.op=22 then s.getD 1 0
 else if n.op=3/\n.imm.tmod 16=0 then 2
 else if n.op=25/\n.imm=0 then 2
 else 1
def jT(l:List Nd)(i:Nat)(C:List Int):Int:=match l[i]? with
 |none=>0
 |some n=>match zeq i C n.kids with
  |none=>0
  |some s=>if zdv n.op s&&jc l n then jM n s else 0
def zds(l:List Nd):Nat->List Int
 |0=>[]
 |i+1=>zds l i++[jT l i (zds l i)]
def zdV(l:List Nd)(i:Int):Int:=if i<0\/(l.length:Int)<=i then 0 else (zds (l.take (i.toNat+1)) (i.toNat+1)).getD i.toNat 0
theorem zfw(l:List Nd):∀i,(zds l i).length=i
 |0=>rfl
 |i+1=>by rw[zds,fv,zfw l i];rfl
theorem u3(l:List Nd):∀{i j:Nat},j<i->(zds l i).getD j 0=jT l j (zds l j)
 |0,j,h=>by omega
 |i+1,j,h=>by
  rw[zds];by_cases e:j<i
  .rw[cH,je (by rw[zfw];exact e),<-cH];exact u3 l e
  .obtain rfl:j=i:=by omega
   rw[cH,jS oZ,zfw,kC];rfl
theorem sU{i:Nat}{C:List Int}:∀{V s:List Int},zeq i C V=some s->∀k∈V,0<=k/\k<i/\C.getD k.toNat 0≠0
 |[],s,_,k,h=>by simp at h
 |a::V,s,h,k,j=>by
  rw[zeq]at h;split at h
  .cases h
  .rename_i c;obtain⟨t,Z,_⟩:=my.1 h;rcases fk.1 j with rfl|j
   .omega
   .exact sU Z k j
theorem o9{i:Nat}{C:List Int}:∀{V s:List Int},zeq i C V=some s->s.length=V.length
 |[],s,h=>by cases h;rfl
 |a::V,s,h=>by
  rw[zeq]at h;split at h
  .cases h
  .obtain⟨t,Z,rfl⟩:=my.1 h;rw[dl,dl,o9 Z]
theorem XI{l:List Nd}{i:Nat}{C:List Int}{n:Nd}(o:l[i]?=some n)(h:jT l i C≠0):∃s,zeq i C n.kids=some s/\zdv n.op s=true/\jc l n=true:=by
 unfold jT at h;rw[o]at h;simp only at h;split at h
 .exact absurd rfl h
 .rename_i s K;split at h
  .rename_i c;rw[dB]at c;exact⟨s,K,c.1,c.2⟩
  .exact absurd rfl h
theorem XJ{l:List Nd}{m:Nat}{n:Nd}(h:n.op=25->∃k V,n.kids=k::V/\k.toNat<m):jc (l.take m) n=jc l n:=by
 have e:zd6 (l.take m) n=zd6 l n:=by
  unfold zd6;by_cases c:n.op=25
  .obtain⟨k,V,i,g⟩:=h c;rw[c];simp only[i,uY,j7,mw,g,bS]
  .simp only[c,cb]
 unfold jc;rw[e]
theorem XK{l:List Nd}{i m:Nat}(M:i<m)(C:List Int):jT (l.take m) i C=jT l i C:=by
 unfold jT;rw[mw,ay M];cases o:l[i]? with
 |none=>rfl
 |some n=>
  simp only;cases Z:zeq i C n.kids with
  |none=>rfl
  |some s=>
   simp only;by_cases c:zdv n.op s=true
   .have e:jc (l.take m) n=jc l n:=XJ fun j=>by
     have I:=o9 Z;have Y:s.length=1:=by
      have c2:=c;unfold zdv at c2;rw[j]at c2;have:bj 25=(1,true):=dD;rw[this]at c2;simp only at c2;split at c2
      .cases c2
      .split at c2
       .cases c2
       .omega
     cases K:n.kids with
     |nil=>rw[K,Y]at I;simp at I
     |cons k V=>
      refine⟨k,V,rfl,?_⟩;have:=sU Z k (by rw[K];exact e8);omega
    rw[e]
   .have O:zdv n.op s=false:=by simpa using c
    rw[O,dX,dX]
theorem GP{l:List Nd}{m:Nat}:∀{i:Nat},i<=m->zds (l.take m) i=zds l i
 |0,_=>rfl
 |i+1,h=>by rw[zds,zds,GP (by omega:i<=m),XK ac]
theorem GQ{l:List Nd}{i:Nat}(h:i<l.length):zdV l i=jT l i (zds l i):=by
 unfold zdV;rw[ah ac,dQ,GP (aM _),u3 l (cQ i)]
theorem XL{l:List Nd}{i j:Nat}(O:j<i)(C:i<=l.length):(zds l i).getD j 0=zdV l j:=by
 rw[u3 l O,GQ ac]
def jP(op:Int):Int:=if op=2 then 5 else if op=3 then 255 else if op=23\/op=28 then 3 else if op=27 then 1000016 else if op=30 then 7 else if op=31 then 15 else if op=25 then 15 else -1
def zdT(op n:Int):Bool:=
 if op=1 then true
 else if jP op<0 then decide (n=0)
 else decide (0<=n)&&decide (n<=jP op)&&(!decide (op=27)||decide (0<n))
def zdx(k:List Int):Bool:=k.all fun x=>decide (x=1)
def zdt(b:Bool)(n:Int):Int:=if b then n else 0
def zdl(l:List Nd)(n:Nd)(k:List Int):Int:=
 if (bj n.op).2=false then 0
 else if 0<=(bj n.op).1/\(n.kids.length:Int)≠(bj n.op).1 then 0
 else if zdT n.op n.imm=false then 0
 else if n.op=3 then (if n.imm.tmod 16=0 then 2 else 1)
 else if n.op=26 then 2
 else if n.op=22 then (if k.headD 0≠1\/k.getD 1 0≠k.getD 2 0\/k.getD 1 0=3 then 0 else k.getD 1 0)
 else if n.op=23 then zdt (decide (k.headD 0=2)&&decide (k.getD 1 0=1)) 1
 else if n.op=24 then zdt (decide (k.headD 0=2)) 1
 else if n.op=25 then (if k.headD 0≠3\/(j7 l (n.kids.headD 0)).tdiv 2<=n.imm then 0 else zdt (decide (n.imm=0)) 1+1)
 else if n.op=27\/n.op=29 then zdt (decide (k.headD 0=2)&&decide (k.getD 1 0=1)) 2
 else if n.op=28 then zdt (decide (k.headD 0=2)&&decide (k.getD 1 0=1)&&decide (k.getD 2 0=1)) 2
 else if n.op=30 then zdt (decide (1<=k.length)&&decide (k.length<=7)&&decide (k.headD 0=2)&&zdx (k.drop 1)) 2
 else if n.op=31 then zdt (decide (k.length%2=1)&&decide (1<=k.length/2)&&decide (k.length/2<=16)&&decide (k.headD 0=2)&&zdx ((k.drop 1).take (k.length/2))&&decide (k.getD (k.length/2+1) 0=2)&&zdx (k.drop (k.length/2+2))) 3
 else zdt (zdx k) 1
def BG(l:List Nd)(i:Nat)(C:List Int):Int:=match l[i]? with
 |none=>0
 |some n=>match zeq i C n.kids with
  |none=>0
  |some s=>zdl l n s
theorem BH:∀(s w:List Int),s.length<=w.length->(∀x∈w,x=1)->zdH s w=zdx s
 |[],w,_,_=>by simp[zdH,zdx]
 |a::s,[],h,_=>by simp at h
 |a::s,b::w,h,hw=>by
  have z:=hw b e8;subst z;rw[zdH,uY,List.tail_cons,BH s w iW (fun x F=>hw x (fl _ F))];simp[zdx]
theorem xO(a b:Int)(s w:List Int):zdH (a::s) (b::w)=(decide (a=b)&&zdH s w):=rfl
theorem XM(n m:Nat)(h:m<n):(List.replicate n (1:Int)).set m 2=List.replicate m 1++2::List.replicate (n-m-1) 1:=by
 apply List.ext_getElem?;intro i;rw[mB,List.getElem?_append];simp only[jn];by_cases c:i<m
 .rw[ah ac,ay c,mX,mX,ay ac,ay c]
 .rw[ah c];by_cases e:m=i
  .subst e;simp[h]
  .rw[ah e];obtain⟨j,rfl⟩:∃j,i=m+1+j:=⟨i-m-1,ac⟩;rw[show m+1+j-m=j+1 by omega,uN,mX,mX];by_cases g:m+1+j<n
   .rw[ay g,ay ac]
   .rw[ah g,ah ac]
theorem GR:∀(a s w v:List Int),a.length=w.length->zdH (a++s) (w++v)=(zdH a w&&zdH s v)
 |[],s,[],v,_=>by simp[zdH]
 |x::a,s,y::w,v,h=>by
  rw[nY,nY,xO,xO,GR a s w v iW,qL]
 |[],_,_::_,_,h=>by simp at h
 |_::_,_,[],_,h=>iX
theorem sV(n:Nat)(h:1<=n):dR n=((n-1)/2:Nat):=by
 unfold dR;rw[show(n:Int)-1=((n-1:Nat):Int) by omega];rfl
theorem XN(s:List Int)(h:3<=s.length)(J:s.length%2=1):zdH s (iM s.length)=(decide (s.headD 0=2)&&zdx ((s.drop 1).take (s.length/2))&&decide (s.getD (s.length/2+1) 0=2)&&zdx (s.drop (s.length/2+2))):=by
 obtain⟨m,Z⟩:∃m,s.length=2*m+1:=⟨s.length/2,ac⟩;have K:1<=m:=ac;have Y:s.length/2=m:=ac;have A:(dR s.length+1).toNat=m+1:=by rw[sV _ ac];omega
 have I:iM s.length=2::(List.replicate m 1++2::List.replicate (m-1) 1):=by
  unfold iM;rw[A,Z];have W:List.replicate (2*m+1) (1:Int)=1::List.replicate (2*m) 1:=rfl;rw[W,BC,List.set_cons_succ,XM _ _ ac]
  congr 4;omega
 rw[I,Y]
 match s,Z with
 |a::t,Z=>
  have C:t.length=2*m:=qb;rw[xO,uY,uO,dW];have hd:t=t.take m++t.drop m:=(List.take_append_drop m t).symm;have M:(t.take m).length=m:=rZ
  conv=>lhs;rw[hd]
  rw[GR _ _ _ _ (by rw[M];simp),BH (t.take m) _ (by rw[M];simp) (fun x F=>GG F)];have V:(a::t).getD (m+1) 0=t.getD m 0:=rfl;have U:(a::t).drop (m+2)=t.drop (m+1):=rfl;rw[V,U];have L:t.drop m=t.getD m 0::t.drop (m+1):=by
   rw[eJ ac,cH,aO ac];rfl
  rw[L,xO,BH (t.drop (m+1)) _ cp (fun x F=>GG F),qL,qL]
theorem pc{M:Type}{s:List M}(h:s.length=0):s=[]:=BE h
theorem lD{M:Type}{s:List M}(h:s.length=1):∃a,s=[a]:=by
 match s,h with
 |[a],_=>exact⟨a,rfl⟩
theorem l8{M:Type}{s:List M}(h:s.length=2):∃a b,s=[a,b]:=by
 match s,h with
 |[a,b],_=>exact⟨a,b,rfl⟩
theorem n8{M:Type}{s:List M}(h:s.length=3):∃a b c,s=[a,b,c]:=by
 match s,h with
 |[a,b,c],_=>exact⟨a,b,c,rfl⟩
theorem XO{l:List Nd}{n:Nd}{s:List Int}(I:s.length=n.kids.length)(j:∀x∈s,1<=x/\x<=3)(h3:s.headD 0=3->n.op=25->∃m:Nat,j7 l (n.kids.headD 0)=2*(m:Int)+1/\1<=m/\m<=16):
 (if zdv n.op s&&jc l n then jM n s else 0)=zdl l n s:=by
 obtain⟨i,g,L⟩:=n;simp only at I h3;have M:∀a:Int,0<=a->bj i=(a,true)->(s.length:Int)≠a->(if zdv i s&&jc l ⟨i,g,L⟩then jM ⟨i,g,L⟩ s else 0)=zdl l ⟨i,g,L⟩ s:=fun a h0 F K=>by
  have O:zdv i s=false:=by
   unfold zdv;rw[F];simp only[k9,cb];rw[ay ⟨h0,Ne.symm K⟩]
  have A:zdl l ⟨i,g,L⟩ s=0:=by
   unfold zdl;simp only[F,k9,cb];rw[ay ⟨h0,by rw[<-I];exact K⟩]
  rw[O,A];rfl
 have cases:i<1\/31<i\/i=1\/i=2\/i=3\/(4<=i/\i<=19)\/i=20\/i=21\/i=22\/i=23\/i=24\/i=25\/i=26\/i=27\/i=28\/i=29\/i=30\/i=31:=ac;rcases cases with h|h|rfl|rfl|rfl|h|rfl|rfl|rfl|rfl|rfl|rfl|rfl|rfl|rfl|rfl|rfl|rfl
 .have F:bj i=(0,false):=by
   unfold bj;repeat rw[ah ac]
  simp[zdv,zdl,F]
 .have F:bj i=(0,false):=by
   unfold bj;repeat rw[ah ac]
  simp[zdv,zdl,F]
 -- 1
 .by_cases c:(s.length:Int)=0
  .obtain rfl:=pc (s:=s) ac;have:L=[]:=pc j6;subst this;simp[zdv,zdl,bj,jc,zdT,jM,zdH,jD,zdx,zdt]
  .exact M 0 ac dD c
 -- 2
 .by_cases c:(s.length:Int)=0
  .obtain rfl:=pc (s:=s) ac;have:L=[]:=pc j6;subst this;by_cases b:0<=g/\g<=5
   .have b1:=b.1;have C:=b.2;simp[zdv,zdl,bj,jc,zdT,zd6,jP,jM,zdH,jD,zdx,zdt,b1,C]
   .simp[zdv,zdl,bj,jc,zdT,zd6,jP,jM,zdH,jD,zdx,zdt];omega
  .exact M 0 ac dD c
 -- 3
 .by_cases c:(s.length:Int)=0
  .obtain rfl:=pc (s:=s) ac;have:L=[]:=pc j6;subst this;by_cases b:0<=g/\g<=255
   .have b1:=b.1;have C:=b.2;by_cases e:g.tmod 16=0<;>simp[zdv,zdl,bj,jc,zdT,zd6,jP,jM,zdH,jD,zdx,zdt,b1,C,e]
   .simp[zdv,zdl,bj,jc,zdT,zd6,jP,jM,zdH,jD,zdx,zdt];omega
  .exact M 0 ac dD c
 -- 4 to 19
 .obtain⟨g1,g2⟩:=h;have q:∀k:Int,(k<4\/19<k)->¬i=k:=fun k j e=>ac;have F:bj i=(2,true):=by
   unfold bj;rw[ah ac,ah ac,ah ac,ah ac,ah ac,ay ⟨g1,g2⟩]
  have t:∀k:Int,(k<4\/19<k)->decide (i=k)=false:=fun k j=>dd (q k j);by_cases c:(s.length:Int)=2
  .obtain⟨a,b,rfl⟩:=l8 (s:=s) ac;obtain⟨x,y,rfl⟩:=l8 (s:=L) j6;have m0:jP i=-1:=by unfold jP;rw[ah (q 2 ac),ah (q 3 ac),ah ac,ah (q 27 ac),ah (q 30 ac),ah (q 31 ac),ah (q 25 ac)]
   have zeo:zd6 l ⟨i,g,[x,y]⟩=0:=by unfold zd6;simp only[];rw[ah (q 2 ac),ah (q 3 ac),ah ac,ah (q 30 ac),ah (q 31 ac),ah (q 25 ac)]
   have m2:jD i=[1,1]:=by unfold jD;rw[ah (q 22 ac),ah ac,ah (q 28 ac),ah (q 24 ac),ah (q 25 ac)]
   have m3:jM ⟨i,g,[x,y]⟩ [a,b]=1:=by unfold jM;simp only[];rw[ah (q 31 ac),ah ac,ah (q 22 ac),ah (fun e=>q 3 ac e.1),ah (fun e=>q 25 ac e.1)]
   have O:zdv i [a,b]=(decide (a=1)&&decide (b=1)):=by
    unfold zdv;rw[F];simp only[k9,cb];rw[ah aE,ah (q 31 ac),ah (q 30 ac),ah (fun e=>q 22 ac e.1),m2];simp[zdH]
   have A:jc l ⟨i,g,[x,y]⟩=decide (g=0):=by
    unfold jc;simp only[];rw[ah (q 1 ac),ah (q 27 ac),zeo];by_cases z:g=0
    .simp[z]
    .simp[z];omega
   have J:zdT i g=decide (g=0):=by
    unfold zdT;rw[ah (q 1 ac),m0];rfl
   have e4:zdl l ⟨i,g,[x,y]⟩ [a,b]=if g=0 then zdt (zdx [a,b]) 1 else 0:=by
    unfold zdl;simp only[F,J,k9,cb];rw[ah aE];by_cases z:g=0
    .rw[ah (by simp[z]),ah (q 3 ac),ah (q 26 ac),ah (q 22 ac),ah (q 23 ac),ah (q 24 ac),ah (q 25 ac),ah ac,ah (q 28 ac),ah (q 30 ac),ah (q 31 ac),ay z]
    .rw[ay (by simp[z]),ah z]
   rw[O,A,e4,m3];by_cases z:g=0
   .simp[z,zdt,zdx]
   .simp[z]
  .exact M 2 ac F c
 -- 20
 .by_cases c:(s.length:Int)=1
  .obtain⟨a,rfl⟩:=lD (s:=s) ac;obtain⟨x,rfl⟩:=lD (s:=L) j6;have V:=j a aE;by_cases b:g=0
   .subst b;simp[zdv,zdl,bj,jc,zdT,zd6,jP,jM,zdH,jD,zdx,zdt]
   .have C:¬(0<=g/\g<=0):=by omega
    simp[zdv,zdl,bj,jc,zdT,zd6,jP,jM,zdH,jD,zdx,zdt,b];omega
  .exact M 1 ac dD c
 -- 21
 .by_cases c:(s.length:Int)=1
  .obtain⟨a,rfl⟩:=lD (s:=s) ac;obtain⟨x,rfl⟩:=lD (s:=L) j6;have V:=j a aE;by_cases b:g=0
   .subst b;simp[zdv,zdl,bj,jc,zdT,zd6,jP,jM,zdH,jD,zdx,zdt]
   .have C:¬(0<=g/\g<=0):=by omega
    simp[zdv,zdl,bj,jc,zdT,zd6,jP,jM,zdH,jD,zdx,zdt,b];omega
  .exact M 1 ac dD c
 -- 22
 .by_cases c:(s.length:Int)=3
  .obtain⟨a,b,c1,rfl⟩:=n8 (s:=s) ac;obtain⟨x,y,z,rfl⟩:=n8 (s:=L) j6;have V:=j a aE;have kb:=j b aE;have kc:=j c1 aE;by_cases z:g=0
   .subst z;have ka':a=1\/a=2\/a=3:=ac;have kb':b=1\/b=2\/b=3:=ac;have kc':c1=1\/c1=2\/c1=3:=ac;rcases ka' with rfl|rfl|rfl<;>rcases kb' with rfl|rfl|rfl<;>rcases kc' with rfl|rfl|rfl<;>simp[zdv,zdl,bj,jc,zdT,zd6,jP,jM,zdH,jD,zdx,zdt]
   .simp[zdv,zdl,bj,jc,zdT,zd6,jP,jM,zdH,jD,zdx,zdt,z];omega
  .exact M 3 ac dD c
 -- 23
 .by_cases c:(s.length:Int)=2
  .obtain⟨a,b,rfl⟩:=l8 (s:=s) ac;obtain⟨x,y,rfl⟩:=l8 (s:=L) j6;have V:=j a aE;have kb:=j b aE;by_cases z:0<=g/\g<=3
   .have Y:=z.1;have W:=z.2;simp[zdv,zdl,bj,jc,zdT,zd6,jP,jM,zdH,jD,zdx,zdt,Y,W]
   .have Z:¬(0<=g)\/¬(g<=3):=by omega
    rcases Z with Z|Z <;>simp[zdv,zdl,bj,jc,zdT,zd6,jP,jM,zdH,jD,zdx,zdt,Z]
  .exact M 2 ac dD c
 -- 24
 .by_cases c:(s.length:Int)=1
  .obtain⟨a,rfl⟩:=lD (s:=s) ac;obtain⟨x,rfl⟩:=lD (s:=L) j6;have V:=j a aE;by_cases b:g=0
   .subst b;simp[zdv,zdl,bj,jc,zdT,zd6,jP,jM,zdH,jD,zdx,zdt]
   .have C:¬(0<=g/\g<=0):=by omega
    simp[zdv,zdl,bj,jc,zdT,zd6,jP,jM,zdH,jD,zdx,zdt,b];omega
  .exact M 1 ac dD c
 -- 25
 .by_cases c:(s.length:Int)=1
  .obtain⟨a,rfl⟩:=lD (s:=s) ac;obtain⟨x,rfl⟩:=lD (s:=L) j6;have V:=j a aE;by_cases e:a=3
   .subst e;obtain⟨m,hm,zeo,m2⟩:=h3 rfl rfl;simp only[uY]at hm;have l1:dR (j7 l x)=m:=by rw[hm];unfold dR;rw[show(2*(m:Int)+1-1)=((2*m:Nat):Int) by omega];show(((2*m)/2:Nat):Int)=m;omega
    have l2:(j7 l x).tdiv 2=m:=by rw[hm];show(((2*m+1)/2:Nat):Int)=m;omega
    by_cases z:0<=g/\g<=(m:Int)-1
    .have Y:=z.1;have W:=z.2;have z3:g<=15:=ac;have U:¬(m:Int)<=g:=ac;by_cases y:g=0
     .subst y;simp[zdv,zdl,bj,jc,zdT,zd6,jP,jM,zdH,jD,zdx,zdt,l1,l2,W,U];rw[ay ac,ah ac]
     .simp[zdv,zdl,bj,jc,zdT,zd6,jP,jM,zdH,jD,zdx,zdt,l1,l2,Y,W,z3,U,y]
    .by_cases Y:0<=g
     .have W:¬g<=(m:Int)-1:=by omega
      have U:(m:Int)<=g:=ac;simp[zdv,zdl,bj,jc,zdT,zd6,jP,jM,zdH,jD,zdx,zdt,l1,l2,Y,W,U]
     .simp[zdv,zdl,bj,jc,zdT,zd6,jP,jM,zdH,jD,zdx,zdt,l1,l2,Y]
   .simp[zdv,zdl,bj,jc,zdT,zd6,jP,jM,zdH,jD,zdx,zdt,e]
  .exact M 1 ac dD c
 -- 26
 .by_cases c:(s.length:Int)=0
  .obtain rfl:=pc (s:=s) ac;have:L=[]:=pc j6;subst this;by_cases b:g=0
   .subst b;simp[zdv,zdl,bj,jc,zdT,zd6,jP,jM,zdH,jD,zdx,zdt]
   .have C:¬(0<=g/\g<=0):=by omega
    simp[zdv,zdl,bj,jc,zdT,zd6,jP,jM,zdH,jD,zdx,zdt,b];omega
  .exact M 0 ac dD c
 -- 27
 .by_cases c:(s.length:Int)=2
  .obtain⟨a,b,rfl⟩:=l8 (s:=s) ac;obtain⟨x,y,rfl⟩:=l8 (s:=L) j6;have V:=j a aE;have kb:=j b aE;by_cases z:1<=g/\g<=1000016
   .have Y:=z.1;have W:=z.2;have z3:0<=g:=ac;have U:0<g:=ac;simp[zdv,zdl,bj,jc,zdT,zd6,jP,jM,zdH,jD,zdx,zdt,Y,W,z3,U]
   .have Z:¬(1<=g)\/¬(g<=1000016):=by omega
    rcases Z with Z|Z
    .have U:¬0<g:=by omega
     simp[zdv,zdl,bj,jc,zdT,zd6,jP,jM,zdH,jD,zdx,zdt,Z,U]
    .simp[zdv,zdl,bj,jc,zdT,zd6,jP,jM,zdH,jD,zdx,zdt,Z]
  .exact M 2 ac dD c
 -- 28
 .by_cases c:(s.length:Int)=3
  .obtain⟨a,b,c1,rfl⟩:=n8 (s:=s) ac;obtain⟨x,y,z,rfl⟩:=n8 (s:=L) j6;have V:=j a aE;have kb:=j b aE;have kc:=j c1 aE;by_cases z:0<=g/\g<=3
   .have Y:=z.1;have W:=z.2;simp[zdv,zdl,bj,jc,zdT,zd6,jP,jM,zdH,jD,zdx,zdt,Y,W,qL]
   .have Z:¬(0<=g)\/¬(g<=3):=by omega
    rcases Z with Z|Z <;>simp[zdv,zdl,bj,jc,zdT,zd6,jP,jM,zdH,jD,zdx,zdt,Z]
  .exact M 3 ac dD c
 -- 29
 .by_cases c:(s.length:Int)=2
  .obtain⟨a,b,rfl⟩:=l8 (s:=s) ac;obtain⟨x,y,rfl⟩:=l8 (s:=L) j6;have V:=j a aE;have kb:=j b aE;by_cases b:g=0
   .subst b;simp[zdv,zdl,bj,jc,zdT,zd6,jP,jM,zdH,jD,zdx,zdt]
   .have C:¬(0<=g/\g<=0):=by omega
    simp[zdv,zdl,bj,jc,zdT,zd6,jP,jM,zdH,jD,zdx,zdt,b];omega
  .exact M 2 ac dD c
 -- 30
 .have O:zdv 30 s=(decide (1<=s.length)&&decide (s.length<=7)&&decide (s.headD 0=2)&&zdx (s.drop 1)):=by
   simp[zdv,bj,zdx,List.drop_one]
  have A:zdl l ⟨30,g,L⟩ s=if zdT 30 g=false then 0 else zdt (decide (1<=s.length)&&decide (s.length<=7)&&decide (s.headD 0=2)&&zdx (s.drop 1)) 2:=by
   simp[zdl,bj]
  have J:jc l ⟨30,g,L⟩=zdT 30 g:=by simp[jc,zdT,zd6,jP]
  rw[O,A,J];generalize (decide (1<=s.length)&&decide (s.length<=7)&&decide (s.headD 0=2)&&zdx (s.drop 1))=v;cases zdT 30 g<;>cases v<;>simp[jM,zdt]
 -- 31
 .have J:jc l ⟨31,g,L⟩=zdT 31 g:=by simp[jc,zdT,zd6,jP]
  have A:zdl l ⟨31,g,L⟩ s=if zdT 31 g=false then 0 else zdt (decide (s.length%2=1)&&decide (1<=s.length/2)&&decide (s.length/2<=16)&&decide (s.headD 0=2)&&zdx ((s.drop 1).take (s.length/2))&&decide (s.getD (s.length/2+1) 0=2)&&zdx (s.drop (s.length/2+2))) 3:=by
   simp[zdl,bj]
  have O:zdv 31 s=(decide (s.length%2=1)&&decide (1<=s.length/2)&&decide (s.length/2<=16)&&decide (s.headD 0=2)&&zdx ((s.drop 1).take (s.length/2))&&decide (s.getD (s.length/2+1) 0=2)&&zdx (s.drop (s.length/2+2))):=by
   have e:zdv 31 s=(decide (3<=s.length)&&decide (s.length%2=1)&&decide (dR s.length<=16)&&zdH s (iM s.length)):=by simp[zdv,bj]
   rw[e];by_cases p:3<=s.length
   .by_cases o:s.length%2=1
    .rw[XN s p o,sV _ ac];have t1:1<=s.length/2:=ac;have t2:decide ((((s.length-1)/2:Nat):Int)<=16)=decide (s.length/2<=16):=by
      rw[kM];omega
     rw[t2];simp only[cI p,cI o,cI t1,dq,qL]
    .simp only[dd o,sR]
   .have p2:decide (3<=s.length)=false:=dd p;rw[p2];simp only[dX]
    symm
    by_cases o:s.length%2=1
    .have:¬1<=s.length/2:=by omega
     simp only[dd this,sR]
    .simp only[dd o,dX]
  rw[O,A,J];generalize (decide (s.length%2=1)&&decide (1<=s.length/2)&&decide (s.length/2<=16)&&decide (s.headD 0=2)&&zdx ((s.drop 1).take (s.length/2))&&decide (s.getD (s.length/2+1) 0=2)&&zdx (s.drop (s.length/2+2)))=v;cases zdT 31 g<;>cases v<;>simp[jM,zdt]
theorem XP(n:Nd){s:List Int}(L:zdv n.op s=true)(j:∀x∈s,1<=x/\x<=3):1<=jM n s/\jM n s<=3:=by
 unfold jM;by_cases V:n.op=22
 .rw[ah ac,ah ac,ay V];have m:s.length=3:=by
   unfold zdv at L;rw[V]at L;have:bj 22=(3,true):=dD;rw[this]at L;simp only[k9,cb]at L;by_cases e:(0:Int)<=3/\(3:Int)≠s.length
   .rw[ay e]at L;cases L
   .omega
  obtain⟨a,b,c,rfl⟩:=n8 m;exact j b aE
 .split
  .omega
  .split
   .omega
   .split
    .omega
    .split
     .omega
     .omega
theorem xP{i:Nat}{C:List Int}(hr:∀j,C.getD j 0=0\/1<=C.getD j 0/\C.getD j 0<=3):∀{V s:List Int},zeq i C V=some s->∀x∈s,1<=x/\x<=3
 |[],s,h,x,F=>by cases h;simp at F
 |a::V,s,h,x,F=>by
  rw[zeq]at h;split at h
  .cases h
  .rename_i c;obtain⟨t,Z,rfl⟩:=my.1 h;rcases fk.1 F with rfl|F
   .rcases hr a.toNat with e|e
    .omega
    .exact e
   .exact xP hr Z x F
theorem XQ{l:List Nd}{i:Nat}{C:List Int}(hr:∀j,C.getD j 0=0\/1<=C.getD j 0/\C.getD j 0<=3):jT l i C=0\/1<=jT l i C/\jT l i C<=3:=by
 unfold jT;split
 .left;rfl
 .split
  .left;rfl
  .rename_i n o s K;split
   .rename_i c;rw[dB]at c
    right;exact XP _ c.1 (xP hr K)
   .left;rfl
theorem BI(l:List Nd):∀(i j:Nat),(zds l i).getD j 0=0\/1<=(zds l i).getD j 0/\(zds l i).getD j 0<=3
 |0,j=>by left;simp[zds]
 |i+1,j=>by
  by_cases h:j<i+1
  .rw[u3 l h];exact XQ (BI l j)
  .left
   rw[cH,fL oZ];rfl
theorem XR{l:List Nd}{i:Nat}{C:List Int}(hr:∀j,C.getD j 0=0\/1<=C.getD j 0/\C.getD j 0<=3)(h:jT l i C=3):∃m:Nat,j7 l i=2*(m:Int)+1/\1<=m/\m<=16:=by
 unfold jT at h;split at h
 .cases h
 .rename_i n o;split at h
  .cases h
  .rename_i s K;split at h
   .rename_i c;rw[dB]at c;have I:=o9 K;have W:=xP hr K;have c1:=c.1;have Z:n.op=31:=by
     by_cases e:n.op=31
     .exact e
     .exfalso;unfold jM at h;rw[ah e]at h;split at h
      .omega
      .split at h
       .rename_i V;unfold zdv at c1;rw[V]at c1;have:bj 22=(3,true):=dD;rw[this]at c1;simp only[k9,cb]at c1;by_cases e:(0:Int)<=3/\(3:Int)≠s.length
        .rw[ay e]at c1;cases c1
        .obtain⟨a,b,c,rfl⟩:=n8 (s:=s) ac;have z:b=3:=h;subst z;simp[zdH,jD]at c1
       .split at h
        .omega
        .split at h<;>omega
    rw[Z]at c1;simp only[zdv,bj]at c1;simp at c1;have c2:=c1.1;have g:=c2.1.1;have U:=c2.1.2;have Y:=c2.2;rw[sV _ ac]at Y;refine⟨s.length/2,?_,ac,ac⟩;unfold j7;rw[dQ,o];simp only;omega
   .cases h
theorem XS{l:List Nd}{i:Nat}(C:i<=l.length):BG l i (zds l i)=jT l i (zds l i):=by
 unfold BG jT;cases o:l[i]? with
 |none=>rfl
 |some n=>
  simp only;cases K:zeq i (zds l i) n.kids with
  |none=>rfl
  |some s=>
   simp only;refine(XO (o9 K) (xP (BI l i) K) fun m Z=>?_).symm;have I:=o9 K;cases j:n.kids with
   |nil=>
    rw[j]at I K;cases K;simp at m
   |cons k V=>
    rw[j]at K;have M:=sU K k e8;rw[zeq]at K;split at K
    .cases K
    .obtain⟨t,Y,rfl⟩:=my.1 K;rw[uY]at m⊢;obtain⟨k,rfl⟩:=eI M.1;rw[dQ,u3 l ac]at m;exact XR (BI l k) m
end Go.Ab
namespace Go.Proofs.YtljebeflbbgibaaGreat
set_option maxRecDepth 20000
open Go Go.Ab
section
def tyI1.tyF:=ad @b7 (ad @ei (@mJ))
open tyI1
noncomputable def GS:{c:SC // aB 31 (Tryz.f191.body.getD .skip)=c}:=by
 refine⟨?_,?_⟩;rotate_left
 .simp only[Tryz.f191,a8,aB,zda,zc9,zdc,zdd,Nat.blt,Nat.ble];rfl
noncomputable def GT:{c:SC // aB 6 (Tryz.f148.body.getD .skip)=c}:=by
 refine⟨?_,?_⟩;rotate_left
 .simp only[Tryz.f148,a8,aB,zda,zc9,zdc,zdd,Nat.blt,Nat.ble];rfl
noncomputable def GU:{c:SC // aB 22 (Tryz.f194.body.getD .skip)=c}:=by
 refine⟨?_,?_⟩;rotate_left
 .simp only[Tryz.f194,a8,aB,zda,zc9,zdc,zdd,Nat.blt,Nat.ble];rfl
noncomputable def GV:{c:SC // aB 21 (Tryz.f192.body.getD .skip)=c}:=by
 refine⟨?_,?_⟩;rotate_left
 .simp only[Tryz.f192,a8,aB,zda,zc9,zdc,zdd,Nat.blt,Nat.ble];rfl
noncomputable def GW:{c:SC // aB 21 (Tryz.f193.body.getD .skip)=c}:=by
 refine⟨?_,?_⟩;rotate_left
 .simp only[Tryz.f193,a8,aB,zda,zc9,zdc,zdd,Nat.blt,Nat.ble];rfl
def et(op:Int):AV:=.tup [.int .i64 (bj op).1,.bool (bj op).2]
theorem GX(op:Int):ee (et op):=.tup (.cons (.int _ _) (.cons (.bool _) .nil))
theorem XT(ρ:Nat->Int)(op:Int):bh Tryz.prog ρ 191 [.int .i64 op] (et op):=zdZ fit (pls:=pls) (l:=[]) trivial (.cons (.int _ _) .nil) (GX op) (by
 have J:=zed 191;refine zf (M:=31) (rs:=[.tmp 2,.tmp 3]) (J.call _) J.ice J.froz Tryz.func191 rfl rfl GS.2 rfl ?_;dsimp only[GS,zcX,Nat.reduceAdd];repeat' (first
  |(apply zcP ?_;clear hK K)|apply Rx.o ?_|(apply bW (fun A I=>?_) (fun A I=>?_)<;>try(cases A;done))|(apply aU (fun z V=>?_) (fun z V=>?_)<;>try(cases z;done))|apply ak ?_|(apply zcQ fun K hK=>?_)|apply ax ?_|apply zcR ?_|apply am ?_)
 all_goals
  refine⟨zcT,_,dG,?_⟩;try simp only[zcS]
  first
  |(simp_all[et,bj];done)
  |(unfold et bj;rw[ah ac,ah ac,ah ac,ah ac,ah ac,ah ac];done))
theorem BJ(n:Nat):(0:Int)<=dR n/\dR n<=n:=by
 by_cases h:n=0
 .subst h;decide
 .rw[sV n ac];omega
theorem XU(ρ:Nat->Int)(n:Nat)(o:n<2^60):bh Tryz.prog ρ 148 [.int .i64 n] (.int .i64 (dR n)):=zdZ fit (pls:=pls) (l:=[]) trivial (.cons (.int _ _) .nil) (.int _ _) (by
 have J:=zed 148;have Z:(2:Int)≠0:=dD;have Y:IntKind.wrap .i64 ((n:Int)-1)=(n:Int)-1:=zey ac ac;refine zf (M:=6) (rs:=[.tmp 2]) (J.call _) J.ice J.froz Tryz.func148 rfl rfl GT.2 rfl ?_;dsimp only[GT,zcX,Nat.reduceAdd];repeat' (first
  |(apply zcP ?_;clear hK K)|apply Rx.o ?_|apply ak ?_|(apply zcQ fun K hK=>?_)|apply am ?_)
 all_goals (refine⟨zcT,_,zcU,?_⟩;try simp only[zcS])
 rw[dR];rw[zey (by have:=(BJ n).1;unfold dR at this;omega) (by have:=(BJ n).2;unfold dR at this;omega)])
theorem XV(H:Hp)(a b c:Int):zej Tryz.prog H 23 3 [(0,.int .i64 a),(1,.int .i64 b),(2,.int .i64 c)]=some (.sl H.next 0 3 1,H.alloc (.cells [.int .i64 a,.int .i64 b,.int .i64 c] 0 true)):=af
theorem XW(H:Hp)(a b:Int):zej Tryz.prog H 23 2 [(0,.int .i64 a),(1,.int .i64 b)]=some (.sl H.next 0 2 1,H.alloc (.cells [.int .i64 a,.int .i64 b] 0 true)):=af
theorem u4(H:Hp)(a:Int):zej Tryz.prog H 23 1 [(0,.int .i64 a)]=some (.sl H.next 0 1 1,H.alloc (.cells [.int .i64 a] 0 true)):=af
theorem XX(ρ:Nat->Int)(op:Int):bh Tryz.prog ρ 194 [.int .i64 op] (zdR (jD op)):=zfE (m:=3) (cfg:=zcW pls []) fit (ll ρ) (fun f args r h=>by simp[zcW,zdS]at h) (.cons (.int _ _) .nil) (by
 have J:=zed 194;refine zf (M:=22) (rs:=[.tmp 2]) (J.call _) J.ice J.froz Tryz.func194 rfl rfl GU.2 rfl ?_;dsimp only[GU,zcX,Nat.reduceAdd];have Z:=@XV;have F:=@XW;have Y:=@u4;repeat' (first
  |(apply zcP ?_;clear hK K)|apply Rx.o ?_|(apply aU (fun z V=>?_) (fun z V=>?_)<;>try(cases z;done))|apply ak ?_|(apply zcQ fun K hK=>?_)|apply ax ?_|apply zcR ?_|apply am ?_)
 all_goals
  all_goals (refine⟨zcT,_,zcU,?_⟩;try simp only[zcS])
  simp_all[jD];rfl)
theorem XY(s w:List Int)(i:Nat)(C:i<s.length)(I:s.length<=w.length):zdH (s.drop i) (w.drop i)=(decide (s.getD i 0=w.getD i 0)&&zdH (s.drop (i+1)) (w.drop (i+1))):=by
 rw[eJ C,eJ (l:=w) ac,zdH];simp[cH,aO C,aO (show i<w.length by omega)]
def qQ(x:List Int×List Int):List AV:=[zdR x.1,zdR x.2]
theorem u5{a b:List Int}(h:zdR a=zdR b):a=b:=by
 simp only[zdR,AV.lst.injEq]at h;exact EW h
theorem XZ(x y:List Int×List Int)(h:qQ x=qQ y):x=y:=by
 simp only[qQ,cS,a1]at h;exact j3 (u5 h.1) (u5 h.2)
theorem X0(ρ:Nat->Int)(x:List Int×List Int)(F:x.1.length<=x.2.length/\x.2.length<2^60):bh Tryz.prog ρ 192 (qQ x) (.bool (zdH x.1 x.2)):=zdZ fit (pls:=pls) (l:=[]) trivial (.cons (oR _) (.cons (oR _) .nil)) (.bool _) (by
 obtain⟨s,w⟩:=x;obtain⟨I,z⟩:=F;simp only[]at I z;have J:=zed 192;rw[qQ];simp only[];refine zf (M:=21) (rs:=[.tmp 4]) (J.call _) J.ice J.froz Tryz.func192 rfl rfl GV.2 rfl ?_;dsimp only[GV,zcX,Nat.reduceAdd];repeat' (first
  |(apply zcP ?_;clear hK K)|apply Rx.o ?_|apply ak ?_|(apply zcQ fun K hK=>?_)|apply ax ?_|fail)
 refine zdN [0,1] [] 5 s.length (fun i E H=>zdH s w=zdH (s.drop i) (w.drop i)) eE aE ?_;rintro i E L C O j m o g;(try simp only[zdh,zdb,a1,zc3,zde,Nat.reduceBEq, *]at O);(try simp only[zdb, *]at j);(try simp only[zdK,]at m);repeat' (first
  |(apply zcP ?_;clear hK K)|apply Rx.o ?_|(apply aU (fun z V=>?_) (fun z V=>?_)<;>try(cases z;done))|apply ak ?_|(apply zcQ fun K hK=>?_)|(apply zdG 4 [(3,9),(7,9)] fun K hK=>?_)|(apply zdB ?_;try intro _)|apply b4 ?_|apply ax ?_|apply zcR ?_|apply am ?_|apply zc4 ?_)
 .have Z:i<s.length:=by simpa using z
  have Y:s[i]?=some s[i]:=aO Z;have W:w[i]?=some w[i]:=aO ac;have U:=XY s w i Z I;repeat' (first
   |(apply zcP ?_;clear hK K)|apply Rx.o ?_|(apply aU (fun z V=>?_) (fun z V=>?_)<;>try(cases z;done))|apply ak ?_|(apply zcQ fun K hK=>?_)|(apply zdB ?_;try intro _)|(apply zdJ ?_ ?_<;>clear hK K)|apply b4 ?_|apply zcR ?_|apply am ?_|fail)
  .exact zdj
  .all_goals (refine⟨zcT,_,zcU,?_⟩;try simp only[zcS])
   rw[g,U,cH,cH,Y,W];simp_all
  .refine⟨ac,eL,eL,eN,sK,?_⟩;rw[g,U,cH,cH,Y,W];simp_all
 .all_goals (refine⟨zcT,_,zcU,?_⟩;try simp only[zcS])
  rw[g,show i=s.length by simp at z;omega,jI];rfl)
noncomputable def BK:En:=⟨191,false,b0 (fun _=>True) (fun n:Int=>[.int .i64 n]) et⟩
theorem X1(ρ:Nat->Int):zdF Tryz.prog ρ BK:=zdM fun n _=>XT ρ n
theorem xQ(x y:Int)(h:([.int .i64 x]:List AV)=[.int .i64 y]):x=y:=iW
def qR(n:Nat):List AV:=[.int .i64 n]
theorem GY(x y:Nat)(h:qR x=qR y):x=y:=by
 simp only[qR,cS,AV.int.injEq,a1,fM]at h;omega
noncomputable def na:En:=⟨148,false,b0 (fun n=>n<2^60) qR fun n=>.int .i64 (dR n)⟩
theorem xR(ρ:Nat->Int):zdF Tryz.prog ρ na:=zdM fun n o=>XU ρ n o
theorem sW{l:List En}(I:∀z,zdS l 148 z=na.sp z)(n:Nat)(o:n<2^60)(H:Hp):zc2 Tryz.prog (zcW pls l) 148 [.int .i64 n] H fun v H'=>v=.int .i64 (dR n)/\H'=H:=
 zdW (enc:=qR) (ok:=fun n=>n<2^60) (out:=fun n=>.int .i64 (dR n)) GY (x:=n) (I _) o
noncomputable def BL:En:=⟨194,false,b0 (fun _=>True) (fun n:Int=>[.int .i64 n]) fun n=>zdR (jD n)⟩
theorem X2(ρ:Nat->Int):zdF Tryz.prog ρ BL:=zdM fun n _=>XX ρ n
def sX(x:List Int×List Int):Prop:=x.1.length<=x.2.length/\x.2.length<2^60
noncomputable def BM:En:=⟨192,false,b0 sX qQ fun x=>.bool (zdH x.1 x.2)⟩
theorem X3(ρ:Nat->Int):zdF Tryz.prog ρ BM:=zdM fun x F=>X0 ρ x F
theorem X4(ρ:Nat->Int)(n:Nat)(h3:3<=n)(hn:n<2^30):bh Tryz.prog ρ 193 [.int .i64 n] (zdR (iM n)):=zfE (m:=3) (cfg:=zcW pls [na]) fit (ll ρ) (fb.look ⟨xR ρ,trivial⟩) (.cons (.int _ _) .nil) (by
 have J:Plain (zcW pls [na]) 193:=zdO (fun _=>rfl) rfl;have hlv:=sV n ac;refine zf (M:=21) (rs:=[.tmp 2]) (J.call _) J.ice J.froz Tryz.func193 rfl rfl GW.2 rfl ?_;dsimp only[GW,zcX,Nat.reduceAdd];repeat' (first
  |(apply zcP ?_;clear hK K)|apply Rx.o ?_|apply ak ?_|(apply zcQ fun K hK=>?_)|apply ax ?_|fail)
 have Z:∀i,(List.replicate i (1:Int)).length=i:=fun i=>jn;have F:(zcW pls [na]).keep 193=false:=rfl;refine zdN [0,2] [] 4 n (fun i E H=>∃v,E.at 3=v/\m8 H v (List.replicate i 1) 0) eE ⟨.nilS,eE,.inl ⟨rfl,rfl⟩⟩ ?_;rintro i E Y hi W j U hsI ⟨v,k3,L⟩;(try simp only[zdh,zdb,a1,zc3,zde,Nat.reduceBEq, *]at W);(try simp only[zdb, *]at j);(try simp only[zdK,]at U);repeat' (first
  |(apply zcP ?_;clear hK K)|apply Rx.o ?_|(apply aU (fun z V=>?_) (fun z V=>?_)<;>try(cases z;done))|apply ak ?_|(apply zcQ fun K hK=>?_)|apply ax ?_|apply zcR ?_|apply zc4 ?_)
 .have hlt:i<n:=by simpa using z
  have gh0:=@u4;repeat' (first
   |apply Rx.o ?_|fail)
  have I:m8 (Y.alloc (.cells [.int .i64 1] 0 true)) v (List.replicate i 1) 0:=L.keep (gm _) fun k hk=>by rw[zcY,ah (by have:=(L.n.lt hk).2;omega)]
  obtain⟨v5,H5,a5,s5,n5,f5,o5⟩:=Xf (r:=Y.next) (imm:=0) 1 I (cN _) iu (by rw[Z];omega);refine nQ eV eV (by rw[F];exact a5) ?_;repeat' (first
   |(apply zcP ?_;clear hK K)|apply Rx.o ?_|(apply zcQ fun K hK=>?_)|fail)
  refine⟨ac,eL,eL,eN,(by simp only[zc3,Nat.reduceBEq, *];exact zeX (n:=n) ac ac),?_⟩;exact⟨v5,eE,.inr (by rw[List.replicate_succ'];exact s5)⟩
 .have C:i=n:=by simp at z;omega
  subst C;rcases L with⟨_,h⟩|⟨r,O,h2,_,h4⟩
  .have:=kD List.length h;rw[Z]at this;simp at this;omega
  subst O;rw[Z]at k3;have A:((List.replicate i (1:Int)).map (AV.int .i64)).length=i:=aE;generalize o:(List.replicate i (1:Int)).map (AV.int .i64)=cs at h2 A;have hi1:0<i:=ac;have hi2:(i-1)/2+1<i:=ac;have e1:IntKind.wrap .i64 (((i-1)/2:Nat)+1)=(((i-1)/2+1:Nat):Int):=zey ac ac;repeat' (first
   |apply Ry.o ?_|(apply bq ?_;first|refine Rx.k (sW (fun _=>rfl) _ ac _) ?_)|fail)
  refine mI eV eV (uV h2 ac 2) ?_;repeat' (first
   |apply Ry.o ?_|fail)
  refine mI eV eV (uV hW (by rw[kK];omega) 2) ?_;repeat' (first
   |(apply zcP ?_;clear hK K)|apply Rx.o ?_|apply ak ?_|(apply zcQ fun K hK=>?_)|apply am ?_|fail)
  all_goals (refine⟨zcT,_,zcU,?_⟩;try simp only[zcS])
  have g:(iM i).length=i:=by simp[iM]
  have z:eU ((Y.set r (.cells (cs.set 0 (.int .i64 2)) 0 true)).set r (.cells ((cs.set 0 (.int .i64 2)).set ((i-1)/2+1) (.int .i64 2)) 0 true)) (.sl r 0 (iM i).length 1) (iM i) 0:=⟨r,0,rfl,by
   rw[aX,ay rfl,iM,n0,n0,o,show(dR i+1).toNat=(i-1)/2+1 by omega],cN _,cN _,h4⟩
  have:=z.iceV 1;rw[g]at this;exact this)
noncomputable def BN:En:=⟨193,false,b0 (fun n=>3<=n/\n<2^30) qR fun n=>zdR (iM n)⟩
theorem X5(ρ:Nat->Int):zdF Tryz.prog ρ BN:=zdM fun n o=>X4 ρ n o.1 o.2
end
section
def tyI2.tyF:=ad @cP (ad @b7 (ad @ei (ad @fd (ad @eT (@oN)))))
open tyI2
noncomputable def GZ:{c:SC // aB 53 (Tryz.f168.body.getD .skip)=c}:=by
 refine⟨?_,?_⟩;rotate_left
 .simp only[Tryz.f168,a8,aB,zda,zc9,zdc,zdd,Nat.blt,Nat.ble];rfl
noncomputable def j8:{c:SC // aB 106 (Tryz.f167.body.getD .skip)=c}:=by
 refine⟨?_,?_⟩;rotate_left
 .simp only[Tryz.f167,a8,aB,zda,zc9,zdc,zdd,Nat.blt,Nat.ble];rfl
noncomputable def BO:List En:=[BK,na,BL,BM,BN]
theorem G3(ρ:Nat->Int):fb Tryz.prog ρ BO:=⟨X1 ρ,xR ρ,X2 ρ,X3 ρ,X5 ρ,trivial⟩
abbrev zd2(l:List Nd):AV:=.lst (l.map Nd.cells)
theorem zfr(l:List Nd):ee (zd2 l):=.map fun x _=>x.pure
theorem xS{a b:List Nd}(h:zd2 a=zd2 b):a=b:=by
 simp only[zd2,AV.lst.injEq]at h;exact zfg (fun _ _ _=>nX) h
def u6(x:List Nd×Nd):Prop:=x.2.op=25->∃(k:Nat) (m:Nd),x.2.kids[0]?=some (k:Int)/\x.1[k]?=some m/\m.kids.length<2^60
def qS(x:List Nd×Nd):List AV:=[zd2 x.1,.agg x.2.cells]
theorem X6(x y:List Nd×Nd)(h:qS x=qS y):x=y:=by
 simp only[qS,cS,AV.agg.injEq,a1]at h;exact j3 (xS h.1) (nX h.2)
theorem X7(ρ:Nat->Int)(x:List Nd×Nd)(F:u6 x):bh Tryz.prog ρ 168 (qS x) (.bool (jc x.1 x.2)):=zdZ fit (pls:=pls) (G3 ρ) (.cons (zfr _) (.cons (.agg (sy _)) .nil)) (.bool _) (by
 obtain⟨l,n⟩:=x;have J:Plain (zcW pls BO) 168:=zdO (fun _=>rfl) rfl;unfold u6 at F;rw[qS];simp only[]at F⊢;refine zf (M:=53) (rs:=[.tmp 4]) (J.call _) J.ice J.froz Tryz.func168 rfl rfl GZ.2 rfl ?_;dsimp only[GZ,zcX,Nat.reduceAdd];repeat' (first
  |(apply zcP ?_;clear hK K)|apply Rx.o ?_|(apply bW (fun A I=>?_) (fun A I=>?_)<;>try(cases A;done))|(apply aU (fun z V=>?_) (fun z V=>?_)<;>try(cases z;done))|apply ak ?_|(apply zcQ fun K hK=>?_)|apply ax ?_|apply zcR ?_|apply am ?_)
 all_goals (first|(refine⟨zcT,_,zcU,?_⟩;(try simp only[zcS]);clear F;simp_all[jc,zd6]<;>omega;done)|skip)
 all_goals trace_state
 have j:n.op=25:=hY;obtain⟨k,m,i,g,W⟩:=F j;have U:n.kids.headD 0=k:=by
  cases Z:n.kids with
  |nil=>rw[Z]at i;simp at i
  |cons a b=>rw[Z]at i;simpa using i
 have o:j7 l (n.kids.headD 0)=m.kids.length:=by rw[U,j7,dQ,g]
 have Y:=BJ m.kids.length;have O:IntKind.wrap .i64 (dR m.kids.length-1)=dR m.kids.length-1:=zey ac ac;repeat' (first
  |(apply zcP ?_;clear hK K)|apply Ry.o ?_|(apply bq ?_;first|refine Rx.k (sW (fun _=>rfl) _ ac _) ?_)|(apply aT (fun A I=>?_) (fun A I=>?_)<;>try(cases A;done))|apply ak ?_|(apply zcQ fun K hK=>?_)|apply am ?_)
 all_goals (first|(refine⟨zcT,_,zcU,?_⟩;(try simp only[zcS]);clear F;simp_all[jc,zd6]<;>omega;done)|skip)
 all_goals trace_state)
noncomputable def G4:En:=⟨168,true,b0 u6 qS fun x=>.bool (jc x.1 x.2)⟩
theorem X8(ρ:Nat->Int):zdF Tryz.prog ρ G4:=zdM fun x F=>X7 ρ x F
theorem G5(a:Int)(s:List Int):zeF Tryz.prog 23 (.lst ((a::s).map fun n=>[AV.int .i64 n])) (some (.int .i64 1)) none=some (.lst (s.map fun n=>[AV.int .i64 n])):=by
 have Y:(1:Int)=Int.ofNat 1:=rfl;simp only[zeF,Tryz.underlying23,jl,yL];rw[ay ⟨aE,aM _⟩];rw[eF aE];cases s with
 |nil=>rfl
 |cons b s=>rfl
theorem X9(op:Int)(o:0<=(bj op).1):(bj op).1<=(jD op).length:=by
 unfold bj at o⊢;unfold jD;repeat' split
 all_goals (first|(simp;done)|omega|(simp_all;done))
def pd(x:Nd×List Int):List AV:=[.agg x.1.cells,zdR x.2]
theorem Ya(x y:Nd×List Int)(h:pd x=pd y):x=y:=by
 simp only[pd,cS,AV.agg.injEq,a1]at h;exact j3 (nX h.1) (u5 h.2)
theorem qT{l:List En}(I:∀z,zdS l 191 z=BK.sp z)(n:Int)(H:Hp):zc2 Tryz.prog (zcW pls l) 191 [.int .i64 n] H fun v H'=>v=et n/\H'=H:=
 zdW (enc:=fun n:Int=>[.int .i64 n]) (ok:=fun _=>True) (out:=et) xQ (x:=n) (I _) trivial
theorem G6{l:List En}(I:∀z,zdS l 194 z=BL.sp z)(n:Int)(H:Hp):zc2 Tryz.prog (zcW pls l) 194 [.int .i64 n] H fun v H'=>v=zdR (jD n)/\H'=H:=
 zdW (enc:=fun n:Int=>[.int .i64 n]) (ok:=fun _=>True) (out:=fun n=>zdR (jD n)) xQ (x:=n) (I _) trivial
theorem Yb{l:List En}(I:∀z,zdS l 193 z=BN.sp z)(n:Nat)(o:3<=n/\n<2^30)(H:Hp):zc2 Tryz.prog (zcW pls l) 193 [.int .i64 n] H fun v H'=>v=zdR (iM n)/\H'=H:=
 zdW (enc:=qR) (ok:=fun n=>3<=n/\n<2^30) (out:=fun n=>zdR (iM n)) GY (x:=n) (I _) o
theorem BP{l:List En}(I:∀z,zdS l 192 z=BM.sp z)(s w:List Int)(h:sX (s,w))(H:Hp):zc2 Tryz.prog (zcW pls l) 192 [zdR s,zdR w] H fun v H'=>v=.bool (zdH s w)/\H'=H:=
 zdW (enc:=qQ) (ok:=sX) (out:=fun x=>.bool (zdH x.1 x.2)) XZ (x:=(s,w)) (I _) h
theorem l9(a b:AV):Ab.extract (.tup [a,b]) 0=some a:=rfl
theorem mc(a b:AV):Ab.extract (.tup [a,b]) 1=some b:=rfl
theorem Yc(s:List Int):zdv 31 s=(decide ((3:Int)<=s.length)&&decide ((s.length:Int).tmod 2=1)&&decide (dR s.length<=16)&&zdH s (iM s.length)):=by
 have C:(s.length:Int).tmod 2=((s.length%2:Nat):Int):=GF;have Y:decide ((s.length:Int).tmod 2=1)=decide (s.length%2=1):=by rw[C];exact kM.2 ac
 have A:decide ((3:Int)<=s.length)=decide (3<=s.length):=kM.2 ac;rw[Y,A];rfl
theorem xT(a:Int)(s:List Int):zdv 30 (a::s)=(!decide ((7:Int)<((s.length+1:Nat):Int))&&decide (a=2)&&s.all fun x=>decide (x=1)):=by
 have Y:(!decide ((7:Int)<((s.length+1:Nat):Int)))=decide ((a::s).length<=7):=by
  rw[<-uZ];exact kM.2 BA
 have A:decide (1<=(a::s).length)=true:=aE;rw[Y];show(decide (1<=(a::s).length)&&decide ((a::s).length<=7)&&decide (a=2)&&s.all fun x=>decide (x=1))=_;rw[A,dq]
theorem Yd(a b c:Int):zdv 22 [a,b,c]=if b=2 then (decide (a=1)&&decide (c=2))else zdH [a,b,c] [1,1,1]:=by
 have e:zdv 22 [a,b,c]=if (22:Int)=22/\b=2 then (decide (a=1)&&decide (c=2))else zdH [a,b,c] [1,1,1]:=rfl
 rw[e];simp
theorem Ye{op:Int}(s:List Int)(h:(bj op).2=false):zdv op s=false:=by rw[zdv,ay h]
theorem BQ{op:Int}{s:List Int}(h:0<=(bj op).1)(h2:(bj op).1≠s.length):zdv op s=false:=by
 unfold zdv;split
 .rfl
 .rw[ay ⟨h,h2⟩]
theorem Yf{op:Int}{s:List Int}(h:(bj op).2=true)(h2:(bj op).1=s.length)(h1:op≠31)(m:op≠30)(U:op≠22):zdv op s=zdH s (jD op):=by
 unfold zdv;rw[ah (by rw[h];simp),ah (fun k=>k.2 h2),ah h1,ah m,ah (fun k=>U k.1)]
theorem G7(op:Int):(jD op).length<=3:=by
 unfold jD;repeat' split
 all_goals decide
theorem G8{op:Int}(h1:op≠31)(m:op≠30):0<=(bj op).1:=by
 unfold bj;repeat' split
 all_goals (first|decide|omega)
theorem Yg(ρ:Nat->Int)(x:Nd×List Int)(hx:x.2.length<2^30):bh Tryz.prog ρ 167 (pd x) (.bool (zdv x.1.op x.2)):=zdZ fit (pls:=pls) (G3 ρ) (.cons (.agg (sy _)) (.cons (oR _) .nil)) (.bool _) (by
 obtain⟨⟨Z,imm,kids⟩,s⟩:=x;have J:Plain (zcW pls BO) 167:=zdO (fun _=>rfl) rfl;rw[pd];simp only[Nd.cells]at hx⊢;have hq:(2:Int)≠0:=dD;by_cases U:Z=31
 .subst U;have hv:et 31=.tup [.int .i64 (-1),.bool true]:=rfl;have W:sX (s,iM s.length):=⟨by simp[iM],by simp[iM];omega⟩;refine zf (M:=106) (rs:=[.tmp 4]) (J.call _) J.ice J.froz Tryz.func167 rfl rfl j8.2 rfl ?_;dsimp only[j8,zcX,Nat.reduceAdd];have Y:=@l9;have F:=@mc;repeat' (first
   |(apply zcP ?_;clear hK K)|apply Ry.o ?_|(apply bq ?_;first|refine Rx.k (qT (fun _=>rfl) _ _) ?_|refine Rx.k (sW (fun _=>rfl) _ ac _) ?_|refine Rx.k (Yb (fun _=>rfl) _ ac _) ?_|refine Rx.k (BP (fun _=>rfl) _ _ W _) ?_)|(apply aT (fun A I=>?_) (fun A I=>?_)<;>try(cases A;done))|(apply az (fun z V=>?_) (fun z V=>?_)<;>try(cases z;done))|apply ak ?_|(apply zcQ fun K hK=>?_)|apply ax ?_|apply zcR ?_|apply am ?_|fail)
  all_goals
   refine⟨zcT,_,dG,?_⟩;try simp only[zcS]
   rw[Yc];(try simp only[ff]at *);simp only[ *,qN,xN,]
 by_cases L:Z=30
 .subst L;have hv:et 30=.tup [.int .i64 (-1),.bool true]:=rfl;cases s with
  |nil=>
   refine zf (M:=106) (rs:=[.tmp 4]) (J.call _) J.ice J.froz Tryz.func167 rfl rfl j8.2 rfl ?_;dsimp only[j8,zcX,Nat.reduceAdd];have Y:=@l9;have F:=@mc;repeat' (first
    |(apply zcP ?_;clear hK K)|apply Ry.o ?_|(apply bq ?_;first|refine Rx.k (qT (fun _=>rfl) _ _) ?_)|(apply aT (fun A I=>?_) (fun A I=>?_)<;>try(cases A;done))|(apply az (fun z V=>?_) (fun z V=>?_)<;>try(cases z;done))|apply ak ?_|(apply zcQ fun K hK=>?_)|apply ax ?_|apply zcR ?_|apply am ?_|fail)
   all_goals (refine⟨zcT,_,zcU,?_⟩;try simp only[zcS])
   rfl
  |cons a s=>
   have hsl:=G5 a s;simp only[dl]at hx;refine zf (M:=106) (rs:=[.tmp 4]) (J.call _) J.ice J.froz Tryz.func167 rfl rfl j8.2 rfl ?_;dsimp only[j8,zcX,Nat.reduceAdd];have Y:=@l9;have F:=@mc;repeat' (first
    |(apply zcP ?_;clear hK K)|apply Ry.o ?_|(apply bq ?_;first|refine Rx.k (qT (fun _=>rfl) _ _) ?_)|(apply aT (fun A I=>?_) (fun A I=>?_)<;>try(cases A;done))|(apply az (fun z V=>?_) (fun z V=>?_)<;>try(cases z;done))|apply ak ?_|(apply zcQ fun K hK=>?_)|apply ax ?_|apply zcR ?_|apply am ?_|fail)
   .all_goals (refine⟨zcT,_,zcU,?_⟩;try simp only[zcS])
    rw[xT];(try simp only[lS]at *);simp only[ *,gl,sR,gR,]
   .refine zdN [1,2,72,73] [] 74 s.length (fun i E H=>(s.all fun x=>decide (x=1))=(s.drop i).all fun x=>decide (x=1)) eE aE ?_;rintro i E H2 hi hcE hrH hnH hsI hJ;(try simp only[zdh,zdb,a1,zc3,zde,Nat.reduceBEq, *]at hcE);(try simp only[zdb,zde, *]at hrH);(try simp only[zc6,zdK,bz]at hnH);repeat' (first
     |(apply zcP ?_;clear hK K)|apply Rx.o ?_|(apply aU (fun z V=>?_) (fun z V=>?_)<;>try(cases z;done))|apply ak ?_|(apply zcQ fun K hK=>?_)|apply ax ?_|apply zcR ?_|apply am ?_|apply zc4 ?_)
    .have C:i<s.length:=by simpa using z
     have hgx:s[i]?=some s[i]:=aO C;have o:((s.drop i).all fun x=>decide (x=1))=(decide (s[i]=1)&&(s.drop (i+1)).all fun x=>decide (x=1)):=by rw[eJ C,mV]
     repeat' (first
      |(apply zcP ?_;clear hK K)|apply Rx.o ?_|(apply aU (fun z V=>?_) (fun z V=>?_)<;>try(cases z;done))|apply ak ?_|(apply zcQ fun K hK=>?_)|apply zcR ?_|apply am ?_|fail)
     .all_goals (refine⟨zcT,_,zcU,?_⟩;try simp only[zcS])
      rw[xT,hJ,o];(try simp only[ff]at *);simp only[ *,gl,sR,jW,gR,]
     .refine⟨ac,eL,eL,eN,sK,?_⟩;rw[hJ,o];(try simp only[qM]at *);simp only[*,dq,]
    .repeat' (first
      |(apply zcP ?_;clear hK K)|fail)
     all_goals (refine⟨zcT,_,zcU,?_⟩;try simp only[zcS])
     rw[show i=s.length by simp at z;omega,jI]at hJ;have hJ2:(s.all fun x=>decide (x=1))=true:=hJ;rw[xT,hJ2];(try simp only[qM]at *);simp only[*,gl,jW,gR,]
   .all_goals (refine⟨zcT,_,zcU,?_⟩;try simp only[zcS])
    rw[xT];(try simp only[ff]at *);simp only[*,k6,dX,lj,]
 have m:=G8 U L;cases O:(bj Z).2 with
 |false=>
  have hv:et Z=.tup [.int .i64 (bj Z).1,.bool false]:=by rw[et,O]
  refine zf (M:=106) (rs:=[.tmp 4]) (J.call _) J.ice J.froz Tryz.func167 rfl rfl j8.2 rfl ?_;dsimp only[j8,zcX,Nat.reduceAdd];have Y:=@l9;have F:=@mc;repeat' (first
   |(apply zcP ?_;clear hK K)|apply Ry.o ?_|(apply bq ?_;first|refine Rx.k (qT (fun _=>rfl) _ _) ?_)|apply Ry.gu ?_|(apply aT (fun A I=>?_) (fun A I=>?_)<;>try(cases A;done))|(apply az (fun z V=>?_) (fun z V=>?_)<;>try(cases z;done))|apply ak ?_|(apply zcQ fun K hK=>?_)|apply am ?_|fail)
  all_goals
   refine⟨zcT,_,dG,?_⟩;try simp only[zcS]
   rw[Ye s O]
 |true=>
  by_cases j:(bj Z).1=s.length
  .have hv:et Z=.tup [.int .i64 s.length,.bool true]:=by rw[et,O,j]
   by_cases g:Z=22
   .subst g;obtain⟨a,b,c,rfl⟩:=n8 (s:=s) (by have e:(bj 22).1=3:=rfl;rw[e]at j;omega);have W:sX ([a,b,c],jD 22):=⟨aM _,by have:=G7 22;simp only[];omega⟩;refine zf (M:=106) (rs:=[.tmp 4]) (J.call _) J.ice J.froz Tryz.func167 rfl rfl j8.2 rfl ?_;dsimp only[j8,zcX,Nat.reduceAdd];have Y:=@l9;have F:=@mc;repeat' (first
     |(apply zcP ?_;clear hK K)|apply Ry.o ?_|(apply bq ?_;first|refine Rx.k (qT (fun _=>rfl) _ _) ?_|refine Rx.k (G6 (fun _=>rfl) _ _) ?_|refine Rx.k (BP (fun _=>rfl) _ _ W _) ?_)|(apply aT (fun A I=>?_) (fun A I=>?_)<;>try(cases A;done))|(apply az (fun z V=>?_) (fun z V=>?_)<;>try(cases z;done))|apply ak ?_|(apply zcQ fun K hK=>?_)|apply ax ?_|apply zcR ?_|apply am ?_|fail)
    all_goals
     refine⟨zcT,_,dG,?_⟩;try simp only[zcS]
     rw[Yd];first
     |(simp_all;done)
     |(rw[ah hY];rfl)
   .have W:sX (s,jD Z):=⟨by have:=X9 Z m;simp only[];omega,by have:=G7 Z;simp only[];omega⟩;have hl0:(0:Int)<=s.length:=ac;refine zf (M:=106) (rs:=[.tmp 4]) (J.call _) J.ice J.froz Tryz.func167 rfl rfl j8.2 rfl ?_;dsimp only[j8,zcX,Nat.reduceAdd];have Y:=@l9;have F:=@mc;repeat' (first
     |(apply zcP ?_;clear hK K)|apply Ry.o ?_|(apply bq ?_;first|refine Rx.k (qT (fun _=>rfl) _ _) ?_|refine Rx.k (G6 (fun _=>rfl) _ _) ?_|refine Rx.k (BP (fun _=>rfl) _ _ W _) ?_)|(apply aT (fun A I=>?_) (fun A I=>?_)<;>try(cases A;done))|(apply az (fun z V=>?_) (fun z V=>?_)<;>try(cases z;done))|apply ak ?_|(apply zcQ fun K hK=>?_)|apply ax ?_|apply zcR ?_|apply am ?_|fail)
    all_goals
     refine⟨zcT,_,dG,?_⟩;try simp only[zcS]
     rw[Yf O j U L g]
  .have hv:et Z=.tup [.int .i64 (bj Z).1,.bool true]:=by rw[et,O]
   refine zf (M:=106) (rs:=[.tmp 4]) (J.call _) J.ice J.froz Tryz.func167 rfl rfl j8.2 rfl ?_;dsimp only[j8,zcX,Nat.reduceAdd];have Y:=@l9;have F:=@mc;repeat' (first
    |(apply zcP ?_;clear hK K)|apply Ry.o ?_|(apply bq ?_;first|refine Rx.k (qT (fun _=>rfl) _ _) ?_)|(apply aT (fun A I=>?_) (fun A I=>?_)<;>try(cases A;done))|(apply az (fun z V=>?_) (fun z V=>?_)<;>try(cases z;done))|apply ak ?_|(apply zcQ fun K hK=>?_)|apply am ?_|fail)
   all_goals
    refine⟨zcT,_,dG,?_⟩;try simp only[zcS]
    rw[BQ m j])
end
end Go.Proofs.YtljebeflbbgibaaGreat
