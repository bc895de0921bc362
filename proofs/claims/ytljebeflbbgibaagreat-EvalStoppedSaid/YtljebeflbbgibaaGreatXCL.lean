/- Parts: W4c, W4d, P4f, P4g, W4e, W4f, W4g, W4h, W4i, W4j, W4k, P4a. -/
import Derived.Test.YtljebeflbbgibaaGreatXCK
set_option linter.unusedSimpArgs false
set_option linter.unusedVariables false
set_option linter.unusedSectionVars false
set_option linter.defProp false
set_option maxHeartbeats 32000000
namespace Go.Ab
set_option maxRecDepth 20000
open Go
theorem vq{P:Prop}(h:P:=by rw[List.drop_eq_getElem_cons o,List.all_cons]):P:=h
theorem Cq{P:Prop}(h:P:=by rw[<- Y];simp only[get_set,r7,zdA,zdQ,Av,Aw,Ez,Nat.add_assoc,Nat.reduceAdd,beq_self_eq_true,cond_true,cond_false,Nat.reduceBEq]):P:=h
theorem iT{P:Prop}(h:P:=by first|rfl|trivial):P:=h
theorem I0{P:Prop}(h:P:=by have:=h.2.1;have:=h.2.2.1;simp only[List.drop_zero];omega):P:=h
theorem Cr{P:Prop}(h:P:=by simp only[zd8,Z,Bool.false_and]):P:=h
def Cs:=@beq_self_eq_true
def Ct:=@List.length_pos_iff
end Go.Ab
namespace Go.Proofs.YtljebeflbbgibaaGreat
set_option maxRecDepth 20000
open Go Go.Ab
section
def tyW4c.tyF:=ad @b9 (ad @dA (ad @iM (ad @iN (ad @gF (ad @jM (ad @cN (ad @ko (ad @ng (@FC)))))))))
open tyW4c
noncomputable def I1:{c:SC // aC 24 (Tryz.f124.body.getD .skip)=c}:=by
 refine⟨?_,?_⟩;rotate_left
 .simp only[Tryz.f124,a5,aC,zdG,zdD,zdH,zdI,Nat.blt,Nat.ble];rfl
noncomputable def I2:{c:SC // aC 7 (Tryz.f126.body.getD .skip)=c}:=by
 refine⟨?_,?_⟩;rotate_left
 .simp only[Tryz.f126,a5,aC,zdG,zdD,zdH,zdI,Nat.blt,Nat.ble];rfl
noncomputable def I3:{c:SC // aC 32 (Tryz.f169.body.getD .skip)=c}:=by
 refine⟨?_,?_⟩;rotate_left
 .simp only[Tryz.f169,a5,aC,zdG,zdD,zdH,zdI,Nat.blt,Nat.ble];rfl
noncomputable def I4:{c:SC // aC 15 (Tryz.f125.body.getD .skip)=c}:=by
 refine⟨?_,?_⟩;rotate_left
 .simp only[Tryz.f125,a5,aC,zdG,zdD,zdH,zdI,Nat.blt,Nat.ble];rfl
theorem Z7{cfg:Cfg}(J:Plain cfg 124){base rn rl:Nat}(m:rn<base)(F:rl<base)(O:rn≠rl)(I:Hp):
 vp cfg base (fun(s:Int×Int) H=>H.get rn=some (.cells [.int .i64 s.1] 0 true)/\H.get rl=some (.cells [.int .i64 s.2] 0 true)/\∀r,r<base->r≠rn->r≠rl->H.get r=I.get r) 124 [.ptr rn 0,.ptr rl 0] kP:=by
 intro x d s H g o ⟨i,A,U⟩;have e1:(rn == H.next)=false:=cf;have e2:(rl == H.next)=false:=cf;have e3:(rl == rn)=false:=cf;have e4:(rn == rl)=false:=cf;have e5:(H.next == rn)=false:=cf;have e6:(H.next == rl)=false:=cf;refine zdv (M:=24) (rs:=[.tmp 6]) (J.call _) J.ice J.froz Tryz.func124 rfl rfl I1.2 rfl ?_;dsimp only[I1,zds,Nat.reduceAdd];repeat' (first
  |(apply zdk ?_;clear hK K)|apply Rx.o ?_|apply bp ?_|(apply bZ (fun C L=>?_) (fun C L=>?_)<;>try(cases C;done))|(apply aS (fun z V=>?_) (fun z V=>?_)<;>try(cases z;done))|apply ak ?_|(apply zdl fun K hK=>?_)|apply zdm ?_|apply am ?_)
 all_goals (refine⟨eI,_,eR,?_⟩;try simp only[zdn])
 all_goals (refine⟨?_,?_,?_,?_,?_⟩)
 all_goals first
  |(intro r j Z Y;simp only[aW,zdq,Z,Y,show ¬r=H.next by omega,cn];exact U r j Z Y)
  |exact(((gg _ _).alloc _).set (.inr m) _).set (.inr F) _
  |exact((gg _ _).alloc _).set (.inr m) _
  |(simp only[get_set,r7,kP, *,gk,pd,Cs,xI,bT,cn];done)
  |(simp_all[kP,get_set,r7];done)
  |skip
theorem Z8{cfg:Cfg}(J:Plain cfg 126){base:Nat}{I:Hp->Prop}(i:pJ base I):td cfg base I 126 [] og:=by
 intro x d H z o A;refine zdv (M:=7) (rs:=[.tmp 4]) (J.call _) J.ice J.froz Tryz.func126 rfl rfl I2.2 rfl ?_;dsimp only[I2,zds,Nat.reduceAdd];repeat' (first
  |(apply zdk ?_;clear hK K)|apply Rx.o ?_|apply ak ?_|(apply zdl fun K hK=>?_)|apply am ?_)
 all_goals (refine⟨eI,_,eR,?_⟩;try simp only[zdn])
 exact⟨rfl,(gg _ _).alloc _,i _ _ A ((ml _ _).alloc o _)⟩
theorem Z9{cfg:Cfg}(hw:Plain cfg 169)(hwe:Plain cfg 129){base F:Nat}(A:base<=F){I:Hp->Prop}(hI:pJ base I){g:FuncId}{cap:List AV}{q:Ex->Int->Bool}(hq:td cfg base I g cap q)
 {zfz:Nat} (hr1:base<=zfz) (hr2:zfz<F) (H1:Hp) :
 vp cfg F (fun(_:Unit) H=>I H/\H.get zfz=some (.cells [.clo g cap] 0 true)/\∀r,base<=r->r<F->H.get r=H1.get r) 169 [.ptr zfz 0] (lF q):=by
 intro x d s H hz hbase ⟨hi,hi3,hi1⟩;have hsz:=x.sz_eq;have e1:(zfz == H.next)=false:=cf;have e2:(H.next == zfz)=false:=cf;refine zdv (M:=32) (rs:=[.tmp 5]) (hw.call _) hw.ice hw.froz Tryz.func169 rfl rfl I3.2 rfl ?_;dsimp only[I3,zds,Nat.reduceAdd];repeat' (first
  |(apply zdk ?_;clear hK K)|apply Rx.o ?_|apply ak ?_|(apply zdl fun K hK=>?_)|fail)
 have hIa:=hI _ _ hi ((ml base H).alloc (eT A hbase) (.cells x.cells 0 true));refine bh rfl bm bo ?_;simp only[bJ];refine a9 ?_ (te hwe hI hq (x.at_.sz+1) x.at_ ac 0 _ ac el hIa);rintro v U ⟨rfl,J,hi2⟩;have hn2:H.next<U.next:=by have:=J.next;simp only[zdA]at this;omega
 have hg2:U.get H.next=some (.cells x.cells 0 true):=by rw[J.get _ ac ta,zdq,az rfl]
 have hr3:U.get zfz=some (.cells [.clo g cap] 0 true):=by rw[J.get _ hr1 el,zdq,ai ac];exact hi3
 have hF2:FrB base H U:=((gg _ _).alloc _).trans J;have L:∀r,base<=r->r<F->U.get r=H1.get r:=fun r h1 h2=>by rw[hF2.get r h1 ac];exact hi1 r h1 h2
 dsimp only[zdE];repeat' (first
  |(apply zdk ?_;clear hK K)|apply Rx.o ?_|(apply bZ (fun hg hgp=>?_) (fun hg hgp=>?_)<;>try(cases hg;done))|(apply aS (fun z V=>?_) (fun z V=>?_)<;>try(cases z;done))|apply ak ?_|(apply zdl fun K hK=>?_)|apply am ?_|fail)
 .refine bh rfl bm bo ?_;simp only[bJ];refine a9 ?_ (te hwe hI hq (x.value.sz+1) x.value ac 0 _ ac ac hi2);rintro v H3 ⟨rfl,m,hi3'⟩;have hn3:H.next<H3.next:=gz hn2 m.next
  have hg3:H3.get H.next=some (.cells x.cells 0 true):=by rw[m.get _ ac hn2];exact hg2
  have hr3b:H3.get zfz=some (.cells [.clo g cap] 0 true):=by rw[m.get _ hr1 ac];exact hr3
  have hF3:FrB base H H3:=hF2.trans m;have O:∀r,base<=r->r<F->H3.get r=H1.get r:=fun r h1 h2=>by rw[m.get r h1 ac];exact L r h1 h2
  dsimp only[zdE];repeat' (first
   |(apply zdk ?_;clear hK K)|apply Rx.o ?_|(apply bZ (fun hg hgp=>?_) (fun hg hgp=>?_)<;>try(cases hg;done))|(apply aS (fun z V=>?_) (fun z V=>?_)<;>try(cases z;done))|apply ak ?_|(apply zdl fun K hK=>?_)|apply au ?_|apply zdm ?_|apply am ?_|fail)
  .all_goals (refine⟨eI,_,eR,?_⟩;try simp only[zdn])
   exact⟨by simp_all[lF],hF3.weak A,hi3',hr3b,O⟩
  have hl:x.args.length<2^60:=by have:=uv x.args;omega
  refine mh (fun i E U=>zfp q x.args 0=zfp q (x.args.drop i) 0/\E.at 2=.ptr zfz 0/\E.at 21=.lst (x.args.map Ex.cells)/\E.at 22=.int .i64 x.args.length/\E.at 23=.int .i64 i/\FrB base H U/\I U/\U.get zfz=some (.cells [.clo g cap] 0 true)/\(∀r,base<=r->r<F->U.get r=H1.get r)) x.args.length ?_ ?_
  .rintro i E H4 hi2 ⟨hc,h2,h21,h22,h23,C,hI4,hr4,Z⟩;have hn4:=C.next
   have e3:(zfz == H4.next)=false:=cf;repeat' (first
    |(apply zdk ?_;clear hK K)|apply Rx.o ?_|(apply aS (fun z V=>?_) (fun z V=>?_)<;>try(cases z;done))|apply ak ?_|(apply zdl fun K hK=>?_)|apply au ?_|apply zdm ?_|apply am ?_|apply zdr ?_)
   .have o:i<x.args.length:=by simpa using z
    have hgx:x.args[i]?=some x.args[i]:=aR o;repeat' (first
     |(apply zdk ?_;clear hK K)|apply Rx.o ?_|apply bp ?_|apply ak ?_|(apply zdl fun K hK=>?_)|fail)
    have hxm:x.args[i]∈x.args:=dr o;have hsm:=sf hxm;have hb4:base<=H4.next:=ac
    generalize hH5:(H4.alloc _).set H4.next _=H5
    have hf5:FrB base H4 H5:=by rw[<-hH5];exact((gg _ _).alloc _).set (.inl (aM _)) _
    have hlow5:fJ base H4 H5:=by rw[<-hH5];exact((ml _ _).alloc hb4 _).set hb4 _
    have hn5:H4.next<H5.next:=by rw[<-hH5];simp only[zdA,zdQ];omega
    refine bh rfl bm bo ?_;simp only[bJ];refine a9 ?_ (te hwe hI hq (x.args[i].sz+1) x.args[i] ac 0 _ ac ac (hI _ _ hI4 hlow5));rintro v H6 ⟨rfl,hf6,hi6⟩;have j:FrB base H4 H6:=hf5.trans hf6;have hr6:H6.get zfz=some (.cells [.clo g cap] 0 true):=by rw[j.get _ hr1 ac];exact hr4
    have Y:∀r,base<=r->r<F->H6.get r=H1.get r:=fun r h1 h2=>by rw[j.get r h1 ac];exact Z r h1 h2
    dsimp only[zdE];repeat' (first
     |(apply zdk ?_;clear hK K)|apply Rx.o ?_|(apply aS (fun z V=>?_) (fun z V=>?_)<;>try(cases z;done))|apply ak ?_|(apply zdl fun K hK=>?_)|apply zdm ?_|apply am ?_|fail)
    .all_goals (refine⟨eI,_,eR,?_⟩;try simp only[zdn])
     refine⟨?_,(C.trans j).weak A,hi6,hr6,Y⟩;have:=w8 q o 0;simp_all[lF]
    .refine⟨o,?_,eE,eE,eE,?_,C.trans j,hi6,hr6,Y⟩
     .rw[hc,w8 q o];simp_all
     .simp only[gU,Nat.reduceBEq,gk,zfD (show i<2^62 by omega)]
   .have hi3:i=x.args.length:=by simp at z;omega
    all_goals (refine⟨eI,_,eR,?_⟩;try simp only[zdn])
    refine⟨?_,C.weak A,hI4,hr4,Z⟩;rw[hi3]at hc;simp_all[lF,zfp]
  .exact⟨rfl,eE,eE,eE,eE,hF3,hi3',hr3b,O⟩
 .all_goals (refine⟨eI,_,eR,?_⟩;try simp only[zdn])
  exact⟨by simp_all[lF],hF2.weak A,hi2,hr3,L⟩
end
section
def tyW4d.tyF:=ad @cN (ad @b9 (ad @dA (ad @ko (ad @iM (ad @iN (ad @gF (ad @ng (ad @jM (@FC)))))))))
open tyW4d
structure Plains (cfg:Cfg):Prop where
 we:Plain cfg 129
 ws:Plain cfg 123
 wx:Plain cfg 125
 wx1:Plain cfg 169
theorem I5{cfg:Cfg}(V:Plains cfg){base:Nat}{I:Hp->Prop}(i:pJ base I){g:FuncId}{cap:List AV}{q:Ex->Int->Bool}(hq:td cfg base I g cap q)(x:Fu)(H:Hp)(hz:x.sz<2^60)(o:base<=H.next)(hi:I H):
 zdw Tryz.prog cfg 125 [.agg x.cells,.clo g cap] H fun v H'=>v=.bool (lG q x)/\FrB base H H'/\I H':=by
 have hw:=V.wx;have hsz:x.sz=1+x.name.length+zfg x.params+zfg x.locals+zfl x.body+x.value.sz:=rfl;refine zdv (M:=15) (rs:=[.tmp 4]) (hw.call _) hw.ice hw.froz Tryz.func125 rfl rfl I4.2 rfl ?_;dsimp only[I4,zds,Nat.reduceAdd];repeat' (first
  |(apply zdk ?_;clear hK K)|apply Rx.o ?_|(apply bZ (fun C L=>?_) (fun C L=>?_)<;>try(cases C;done))|apply ak ?_|(apply zdl fun K hK=>?_)|apply am ?_)
 generalize J:(H.alloc (.cells x.cells 0 true)).alloc (.cells [.clo g cap] 0 true)=H1;have A:FrB base H H1:=by rw[<-J];exact((gg _ _).alloc _).alloc _
 have hl1:fJ base H H1:=by rw[<-J];exact((ml _ _).alloc o _).alloc el _
 have hn1:H1.next=H.next+2:=by rw[<-J];rfl
 have hga:H1.get H.next=some (.cells x.cells 0 true):=by rw[<-J,zdq,ai ta,zdq,az rfl]
 have hgb:H1.get (H.next+1)=some (.cells [.clo g cap] 0 true):=by rw[<-J,zdq,az ta]
 refine bh rfl bm bo ?_;simp only[dS];refine a9 ?_ (te V.we i hq (x.value.sz+1) x.value ac 0 H1 ac ac (i _ _ hi hl1));rintro v Y ⟨rfl,F,U⟩;have hn2:=F.next
 have hga2:Y.get H.next=some (.cells x.cells 0 true):=by rw[F.get _ o ac];exact hga
 have z:Y.get (H.next+1)=some (.cells [.clo g cap] 0 true):=by rw[F.get _ ac ac];exact hgb
 dsimp only[zdE];repeat' (first
  |(apply zdk ?_;clear hK K)|apply Rx.o ?_|(apply bZ (fun C L=>?_) (fun C L=>?_)<;>try(cases C;done))|apply ak ?_|(apply zdl fun K hK=>?_)|apply am ?_)
 .refine bh rfl bm bo ?_;simp only[dS];refine a9 ?_ (tf V.ws (base:=H.next+2) (I:=fun(_:Unit) H'=>I H'/\H'.get (H.next+1)=some (.cells [.clo g cap] 0 true)/\∀r,base<=r->r<H.next+2->H'.get r=Y.get r) ?_ (Z9 V.wx1 V.we ac i hq ac ac Y) (zfl x.body+1) x.body ac 0 () Y ac ac ⟨U,z,fun _ _ _=>rfl⟩)
  .rintro v H3 ⟨rfl,m,hi3,hg3,O⟩;have hF3:FrB base Y H3:=⟨m.next,fun r j h2=>by
    by_cases hr:r<H.next+2
    .exact O r j hr
    .exact m.get r ac h2⟩
   dsimp only[zdE];repeat' (first
    |(apply zdk ?_;clear hK K)|apply Rx.o ?_|(apply bZ (fun C L=>?_) (fun C L=>?_)<;>try(cases C;done))|apply ak ?_|(apply zdl fun K hK=>?_)|apply am ?_)
   all_goals (refine⟨eI,_,eR,?_⟩;try simp only[zdn])
   exact⟨by simp_all[lG],(A.trans F).trans hF3,hi3⟩
  .intro _ Ha Hb ⟨j,h2,h3⟩ Z;exact⟨i _ _ j (Z.weak ac),by rw[Z _ ac];exact h2,fun r q1 q2=>by rw[Z _ q2];exact h3 r q1 q2⟩
 .all_goals (refine⟨eI,_,eR,?_⟩;try simp only[zdn])
  exact⟨by simp_all[lG],A.trans F,U⟩
end
section
def tyP4f.tyF:=ad @b9 (ad @dA (ad @ko (ad @xu (ad @A7 (ad @cN (ad @iN (ad @gF (ad @sw (ad @iM (ad @qx (@jM)))))))))))
open tyP4f
noncomputable def I6:{c:SC // aC 26 (Tryz.f134.body.getD .skip)=c}:=by
 refine⟨?_,?_⟩;rotate_left
 .simp only[Tryz.f134,a5,aC,zdG,zdD,zdH,zdI,Nat.blt,Nat.ble];rfl
noncomputable def I7:{c:SC // aC 27 (Tryz.f135.body.getD .skip)=c}:=by
 refine⟨?_,?_⟩;rotate_left
 .simp only[Tryz.f135,a5,aC,zdG,zdD,zdH,zdI,Nat.blt,Nat.ble];rfl
noncomputable def I8:{c:SC // aC 49 (Tryz.f136.body.getD .skip)=c}:=by
 refine⟨?_,?_⟩;rotate_left
 .simp only[Tryz.f136,a5,aC,zdG,zdD,zdH,zdI,Nat.blt,Nat.ble];rfl
theorem zpW(l:List (List UInt8))(a s:List UInt8):zdS (nG l a) s=(zdS l s||zdS [a] s):=by
 unfold nG;split
 .rename_i h;rw[ru];by_cases e:s=a
  .rw[e,h];rfl
  .rw[cX e,jO]
 .rw[zgc]
theorem I9{cfg:Cfg}(A:Plain cfg 134){H:Hp}{r imm:Nat}{x:List (List (List UInt8))}(hg:H.get r=some (.cells (x.map zeE) imm true))(hr:r<H.next)(hx:yy x):
 zdw Tryz.prog cfg 134 [.sl r 0 x.length 1] H fun v H'=>v=.map H.next/\(∃l,H'.get H.next=some (.map (eF l))/\∀s,zdS l s=zdS x.flatten s)/\(∀k,k<H.next->H'.get k=H.get k)/\H.next<H'.next:=by
 obtain⟨hx1,hx2⟩:=hx;have hnm:=EK;refine zdv (M:=26) (rs:=[.tmp 2]) (A.call _) A.ice A.froz Tryz.func134 rfl rfl I6.2 rfl ?_;dsimp only[I6,zds,Nat.reduceAdd];repeat' (first
  |(apply zdk ?_;clear hK K)|apply Rx.o ?_|apply ak ?_|(apply zdl fun K hK=>?_)|apply au ?_|fail)
 refine zef [2,3,9,10] [] 11 x.length (fun i E g=>(∃l,g.get H.next=some (.map (eF l))/\∀s,zdS l s=zdS (x.take i).flatten s)/\∀k,k<H.next->g.get k=H.get k) eE ⟨⟨[],oI,fun s=>rfl⟩,fun k hk=>fy⟩ ?_;rintro i E g hi U m o hsI ⟨⟨l,O,F⟩,Z⟩;(try simp only[zdO,zdF,aX,zdy,zdJ,Nat.reduceBEq, *]at U);(try simp only[zdF,zdJ, *]at m);(try simp only[zdA,]at o);repeat' (first
  |(apply zdk ?_;clear hK K)|apply Rx.o ?_|(apply aS (fun Y V=>?_) (fun Y V=>?_)<;>try(cases Y;done))|apply ak ?_|(apply zdl fun K hK=>?_)|apply au ?_|apply zdm ?_|apply am ?_|apply zdr ?_)
 .have L:i<x.length:=by simpa using Y
  have hgx:x[i]?=some x[i]:=aR L;have hsm:=hx2 _ (dr L);have hg2:g.get r=some (.cells (x.map zeE) imm true):=by rw[Z r hr];exact hg
  have htk:(x.take (i+1)).flatten=(x.take i).flatten++x[i]:=by rw[mS,hgx,List.flatten_append];simp
  generalize x[i]=z at *;repeat' (first
   |(apply zdk ?_;clear hK K)|apply Ry.o ?_|apply ak ?_|(apply zdl fun K hK=>?_)|apply au ?_|fail)
  refine zef [2,3,9,10,11,15,16] [] 17 z.length (fun j E H3=>(∃l,H3.get H.next=some (.map (eF l))/\∀s,zdS l s=zdS ((x.take i).flatten++z.take j) s)/\∀k,k<H.next->H3.get k=H.get k) eE ⟨⟨l,O,fun s=>by rw[F,vc,bJ]⟩,Z⟩ ?_;clear O F l Z hg2;rintro j E3 H3 hj U m o hsI ⟨⟨l,O,F⟩,Z⟩;(try simp only[zdO,zdF,aX,zdy,zdJ,Nat.reduceBEq, *]at U);(try simp only[zdF, *]at m);(try simp only[zdA,zdQ,zec,bC,Nat.reduceAdd]at o);repeat' (first
   |(apply zdk ?_;clear hK K)|apply Rx.o ?_|(apply aS (fun Y V=>?_) (fun Y V=>?_)<;>try(cases Y;done))|apply ak ?_|(apply zdl fun K hK=>?_)|apply au ?_|apply zdm ?_|apply zdr ?_)
  .have I:j<z.length:=by simpa using Y
   have J:z[j]?=some z[j]:=aR I;have hup:=Ck O z[j];have C:z.take (j+1)=z.take j++[z[j]]:=by rw[mS,J];rfl
   repeat' (first
    |(apply zdk ?_;clear hK K)|apply Rx.o ?_|apply bp ?_|(apply zdl fun K hK=>?_)|fail)
   refine⟨ac,zdz,zdz,eN,H0,?_⟩;refine⟨⟨nG l z[j],vi,fun s=>?_⟩,fun k hk=>by rw[aW,ai ac];exact Z k hk⟩;rw[zpW,F,C,<-gB,zgc ((x.take i).flatten++z.take j)]
  .have hje:j=z.length:=by simp at Y;omega
   repeat' (first
    |(apply zdk ?_;clear hK K)|fail)
   refine⟨ac,zdz,zdz,eN,H9,?_⟩;exact⟨⟨l,O,fun s=>by rw[F,htk,hje,t3]⟩,Z⟩
 .repeat' (first
   |(apply zdk ?_;clear hK K)|fail)
  all_goals (refine⟨eI,_,eR,?_⟩;try simp only[zdn])
  have hie:i=x.length:=by simp at Y;omega
  refine⟨trivial,⟨l,O,fun s=>by rw[F,hie,t3]⟩,Z,ac⟩
structure Rs where
 r12:Nat
 mv:Nat
 r5:Nat
 ma:Nat
 r6:Nat
 mf:Nat
 r9:Nat
structure RsOk (X:Rs) (vs an:List (List UInt8)) (fm:List (zea×Int)) (H:Hp):Prop where
 b12:H.get X.r12=some (.cells [.map X.mv] 0 true)
 bv:∃l,H.get X.mv=some (.map (eF l))/\∀s,zdS l s=zdS vs s
 b5:H.get X.r5=some (.cells [.map X.ma] 0 true)
 ba:∃l,H.get X.ma=some (.map (eF l))/\∀s,zdS l s=zdS an s
 b6:H.get X.r6=some (.cells [.map X.mf] 0 true)
 bf:H.get X.mf=some (.map (cV fm))
structure RsLt (X:Rs) (n:Nat):Prop where
 l12:X.r12<n
 lv:X.mv<n
 l5:X.r5<n
 la:X.ma<n
 l6:X.r6<n
 lf:X.mf<n
structure RsNe (X:Rs):Prop where
 l12:X.r12≠X.r9
 lv:X.mv≠X.r9
 l5:X.r5≠X.r9
 la:X.ma≠X.r9
 l6:X.r6≠X.r9
 lf:X.mf≠X.r9
theorem RsOk.keep{X:Rs}{vs A:List (List UInt8)}{O:List (zea×Int)}{H H':Hp}(h:RsOk X vs A O H)(L:H'.get X.r12=H.get X.r12)(Z:H'.get X.mv=H.get X.mv)(i:H'.get X.r5=H.get X.r5)(J:H'.get X.ma=H.get X.ma)(F:H'.get X.r6=H.get X.r6)(m:H'.get X.mf=H.get X.mf):RsOk X vs A O H' where
 b12:=by rw[L];exact h.b12
 bv:=by rw[Z];exact h.bv
 b5:=by rw[i];exact h.b5
 ba:=by rw[J];exact h.ba
 b6:=by rw[F];exact h.b6
 bf:=by rw[m];exact h.bf
theorem RsOk.low{X:Rs}{vs A:List (List UInt8)}{O:List (zea×Int)}{H H':Hp}{n:Nat}(h:RsOk X vs A O H)(F:RsLt X n)(k:fJ n H H'):RsOk X vs A O H':=
 h.keep (k _ F.l12) (k _ F.lv) (k _ F.l5) (k _ F.la) (k _ F.l6) (k _ F.lf)
theorem zxL{cfg:Cfg}(J:Plain cfg 135){X:Rs}{vs A:List (List UInt8)}{j:List (zea×Int)}{base:Nat}(F:RsLt X base){I:Hp->Prop}(hI:pJ base I)(hR:∀H,I H->RsOk X vs A j H):
 td cfg base I 135 [.ptr X.r12 0,.ptr X.r5 0] fun x _=>kA vs A x:=by
 intro x d H hz o O;obtain⟨L,⟨lv,Z,z⟩,i,⟨la,Y,V⟩,h6,hf⟩:=hR H O;have l12:=F.l12;have llv:=F.lv;have l5:=F.l5;have lla:=F.la;have g12:(H.alloc (.cells x.cells 0 true)).get X.r12=some (.cells [.map X.mv] 0 true):=by rw[zdq,ai ac];exact L
 have g5:(H.alloc (.cells x.cells 0 true)).get X.r5=some (.cells [.map X.ma] 0 true):=by rw[zdq,ai ac];exact i
 have g:(H.alloc (.cells x.cells 0 true)).get X.mv=some (.map (eF lv)):=by rw[zdq,ai ac];exact Z
 have m:(H.alloc (.cells x.cells 0 true)).get X.ma=some (.map (eF la)):=by rw[zdq,ai ac];exact Y
 have kv:=rz g x.name;have ka:=rz m x.name;rw[z]at kv;rw[V]at ka;clear L i Z Y g m z V hf h6;have e12:(X.r12 == H.next)=false:=zdC ac;have e5:(X.r5 == H.next)=false:=zdC ac;simp only[];refine zdv (M:=27) (rs:=[.tmp 6]) (J.call _) J.ice J.froz Tryz.func135 rfl rfl I7.2 rfl ?_;dsimp only[I7,zds,Nat.reduceAdd];repeat' (first
  |(apply zdk ?_;clear hK K)|apply Rx.o ?_|apply qC ?_|(apply bZ (fun C U=>?_) (fun C U=>?_)<;>try(cases C;done))|apply ak ?_|(apply zdl fun K hK=>?_)|apply am ?_)
 all_goals
  all_goals (refine⟨eI,_,eR,?_⟩;try simp only[zdn])
  refine⟨?_,(gg _ _).alloc _,hI _ _ O ((ml _ _).alloc o _)⟩;rw[kA];(try simp only[fl]at *);simp only[ *,If,dZ,Bl,Ih,]
theorem Ja:zfQ Tryz.prog 9=some .string:=af
def zf4(w:Bool):Int:=if w=true then 5 else 0
theorem zxM{cfg:Cfg}(hw:Plain cfg 136){X:Rs}{vs an:List (List UInt8)}{L:List (zea×Int)}{base:Nat}(U:RsLt X base)(h9:X.r9<base)(Y:RsNe X):
 vp cfg base (fun(w:Bool) H=>RsOk X vs an L H/\H.get X.r9=some (.cells [.int .i64 (zf4 w)] 0 true)) 136 [.ptr X.r12 0,.ptr X.r5 0,.ptr X.r6 0,.ptr X.r9 0] (kC L vs an):=by
 intro x d w H hz o hi;obtain⟨J,A⟩:=hi;have I:=J;obtain⟨C,⟨lv,z,j⟩,h5,⟨la,i,g⟩,h6,hf⟩:=J;have l12:=U.l12;have llv:=U.lv;have l5:=U.l5;have lla:=U.la;have l6:=U.l6;have llf:=U.lf;have Z:fJ base H (H.alloc (.cells x.cells 0 true)):=(ml _ _).alloc o _;have g12:(H.alloc (.cells x.cells 0 true)).get X.r12=some (.cells [.map X.mv] 0 true):=by rw[Z _ l12];exact C
 have g5:(H.alloc (.cells x.cells 0 true)).get X.r5=some (.cells [.map X.ma] 0 true):=by rw[Z _ l5];exact h5
 have g6:(H.alloc (.cells x.cells 0 true)).get X.r6=some (.cells [.map X.mf] 0 true):=by rw[Z _ l6];exact h6
 have g9:(H.alloc (.cells x.cells 0 true)).get X.r9=some (.cells [.int .i64 (zf4 w)] 0 true):=by rw[Z _ h9];exact A
 have gv:(H.alloc (.cells x.cells 0 true)).get X.mv=some (.map (eF lv)):=by rw[Z _ llv];exact z
 have ga:(H.alloc (.cells x.cells 0 true)).get X.ma=some (.map (eF la)):=by rw[Z _ lla];exact i
 have gf:(H.alloc (.cells x.cells 0 true)).get X.mf=some (.map (cV L)):=by rw[Z _ llf];exact hf
 have gb:(H.alloc (.cells x.cells 0 true)).get H.next=some (.cells x.cells 0 true):=yc
 have kv:=rz gv x.name;have ka:=rz ga x.name;have kf:=EL (P:=Tryz.prog) (t:=110) Tryz.underlying110 Ja af gf x.to;rw[j]at kv;rw[g]at ka;have hlen:=uv x.args;have hsz:=x.sz_eq;have V:RsOk X vs an L (H.alloc (.cells x.cells 0 true)):=I.low U Z;have hx0:∀a b,Ab.extract (.tup [a,b]) 0=some a:=fun _ _=>rfl;have hx1:∀a b,Ab.extract (.tup [a,b]) 1=some b:=fun _ _=>rfl;have m:FrB base H (H.alloc (.cells x.cells 0 true)):=(gg _ _).alloc _;have O:FrB base H ((H.alloc (.cells x.cells 0 true)).set X.r9 (.cells [.int .i64 5] 0 true)):=m.set (.inr h9) _;have F:RsOk X vs an L ((H.alloc (.cells x.cells 0 true)).set X.r9 (.cells [.int .i64 5] 0 true)):=V.keep (by rw[aW,ai Y.l12]) (by rw[aW,ai Y.lv]) (by rw[aW,ai Y.l5]) (by rw[aW,ai Y.la]) (by rw[aW,ai Y.l6]) (by rw[aW,ai Y.lf]);have hw2:((H.alloc (.cells x.cells 0 true)).set X.r9 (.cells [.int .i64 5] 0 true)).get X.r9=some (.cells [.int .i64 (zf4 true)] 0 true):=by rw[aW,az rfl];rfl
 have s12:((H.alloc (.cells x.cells 0 true)).set X.r9 (.cells [.int .i64 5] 0 true)).get X.r12=some (.cells [.map X.mv] 0 true):=F.b12;have sb:((H.alloc (.cells x.cells 0 true)).set X.r9 (.cells [.int .i64 5] 0 true)).get H.next=some (.cells x.cells 0 true):=by rw[aW,ai ac];exact gb
 have sv:zfv Tryz.prog ((H.alloc (.cells x.cells 0 true)).set X.r9 (.cells [.int .i64 5] 0 true)) 198 (.map X.mv) (.str x.name) false=some (.bool (zdS vs x.name)):=by
  obtain⟨l,q1,q2⟩:=F.bv;rw[rz q1,q2]
 clear C z j h5 i g h6 hf gv ga gf I A Z;have e12:(X.r12 == H.next)=false:=zdC ac;have e5:(X.r5 == H.next)=false:=zdC ac;have e6:(X.r6 == H.next)=false:=zdC ac;have e9:(X.r9 == H.next)=false:=zdC ac;have d12:(X.r12 == X.r9)=false:=zdC Y.l12;have dn:(H.next == X.r9)=false:=zdC ac;simp only[];refine zdv (M:=49) (rs:=[.tmp 8]) (hw.call _) hw.ice hw.froz Tryz.func136 rfl rfl I8.2 rfl ?_;dsimp only[I8,zds,Nat.reduceAdd];repeat' (first
  |(apply zdk ?_;clear hK K)|apply Rx.o ?_|apply bp ?_|(apply bZ (fun hg hgp=>?_) (fun hg hgp=>?_)<;>try(cases hg;done))|(apply aS (fun hb hbp=>?_) (fun hb hbp=>?_)<;>try(cases hb;done))|apply ak ?_|(apply zdl fun K hK=>?_)|apply au ?_|apply zdm ?_|apply am ?_)
 all_goals
  all_goals (refine⟨eI,_,eR,?_⟩;try simp only[zdn])
  first
  |refine⟨?_,m,V,?_⟩
  |refine⟨?_,O,F,?_⟩
  all_goals
   (try rw[g9]);(try rw[hw2]);clear g12 g5 g6 g9 kv ka kf hx0 hx1 gb s12 sb sv V F m O hw2 e12 e5 e6 e9 d12 dn U Y hlen hsz;simp_all[kC,zf4]
end
section
def tyP4g.tyF:=ad @b9 (ad @dA (ad @iq (ad @na (ad @kj (ad @sw (ad @ko (ad @iM (ad @gF (ad @ng (ad @qx (ad @jM (ad @xu (ad @A7 (ad @Co (@ZU)))))))))))))))
open tyP4g
noncomputable def Jb:{c:SC // aC 67 (Tryz.f88.body.getD .skip)=c}:=by
 refine⟨?_,?_⟩;rotate_left
 .simp only[Tryz.f88,a5,aC,zdG,zdD,zdH,zdI,Nat.blt,Nat.ble];rfl
noncomputable def yD:List En:=[Cl]
theorem zpX(ρ:Nat->Int):fk Tryz.prog ρ yD:=⟨IP ρ,trivial⟩
set_option maxRecDepth 100000 in
theorem zlT(ρ:Nat->Int)(p:Pr)(hz:p.sz<2^36):bc Tryz.prog ρ 88 (fv p) (.int .i64 (rx p)):=zer fit (pls:=pls) (zpX ρ) (.cons (.agg p.pure) .nil) (.int _ _) (by
 have hw:Plain (zdp pls yD) 88:=zej (fun _=>rfl) rfl;have kd:∀H,zdw Tryz.prog (zdp pls yD) 132 [.agg p.cells] H fun v H'=>v=.tup [zeE (zd9 p),zeE (zeY p)]/\H'=H:=fun H=>zeq (enc:=fv) (out:=fun p=>.tup [zeE (zd9 p),zeE (zeY p)]) qU (x:=p) rfl hz;have hps:Plains (zdp pls yD):=⟨zej (fun _=>rfl) rfl,zej (fun _=>rfl) rfl,zej (fun _=>rfl) rfl,zej (fun _=>rfl) rfl⟩;have hpz:p.sz=1+kO p.arrays+kN p.funcs:=rfl;have hla:=se p.arrays;have hlf:=sd p.funcs;have hal:(zd9 p).length=p.arrays.length:=by simp[zd9]
 have hfl:(zeY p).length=p.funcs.length:=by simp[zeY]
 have hx0:∀a b,Ab.extract (.tup [a,b]) 0=some a:=fun _ _=>rfl;have hx1:∀a b,Ab.extract (.tup [a,b]) 1=some b:=fun _ _=>rfl;have hnm:=EK;rw[fv];refine zdv (M:=67) (rs:=[.tmp 2]) (hw.call _) hw.ice hw.froz Tryz.func88 rfl rfl Jb.2 rfl ?_;dsimp only[Jb,zds,Nat.reduceAdd];repeat' (first
  |(apply zdk ?_;clear hK K)|apply Rx.o ?_|(apply iO ?_;first|refine Rx.k (kd _) ?_)|apply ak ?_|(apply zdl fun K hK=>?_)|fail)
 refine bh rfl bm bo ?_;simp only[bJ];refine a9 ?_ (I9 (x:=[zd9 p]) (imm:=0) (zej (fun _=>rfl) rfl) oI (cP _) ⟨aB,cf⟩);rintro v Z ⟨rfl,⟨la,hma,hla2⟩,hold,hlt2⟩;simp only[zdA,zec]at hma hold hlt2;rw[show([zd9 p]:List (List (List UInt8))).flatten=zd9 p by simp]at hla2;have g20:Z.get 0=some (.cells p.cells 0 true):=by rw[hold 0 ac,zdq,ai aB,zdq,az dj]
 clear hold;dsimp only[zdE];repeat' (first
  |(apply zdk ?_;clear hK K)|apply Rx.o ?_|apply bp ?_|apply ak ?_|(apply zdl fun K hK=>?_)|apply au ?_|fail)
 generalize L:Hp.set (Hp.set _ _ _) _ _=Hs;have ns:Z.next+3<=Hs.next:=by rw[<-L];exact aM _
 have gs0:Hs.get 0=some (.cells p.cells 0 true):=by rw[<-L,aW,ai ac,aW,ai ac,zdq,ai el,zdq,ai el,zdq,ai ac];exact g20
 have gsa:Hs.get 2=some (.map (eF la)):=by rw[<-L,aW,ai ac,aW,ai ac,zdq,ai el,zdq,ai el,zdq,ai ac];exact hma
 have gs5:Hs.get (Z.next+1)=some (.cells [.map 2] 0 true):=by rw[<-L,aW,ai ac,aW,az dj]
 have gs6:Hs.get (Z.next+2)=some (.cells [.map Z.next] 0 true):=by rw[<-L,aW,az dj]
 have gsf:Hs.get Z.next=some (.map (cV [])):=by rw[<-L,aW,ai ac,aW,ai ac,zdq,ai el,zdq,ai el,zdq,az dj];rfl
 clear L hma;have hlt2':3<=Z.next:=ac
 clear hlt2;have hE0:(0 == Z.next)=false:=zdC ac;have hE2:(2 == Z.next)=false:=zdC ac;refine zef [1,2,5,6,23,24] [0,2,Z.next+1,Z.next+2] 25 p.funcs.length (fun i E H=>∃m,zeZ (p.funcs.drop i) m=zeZ p.funcs []/\H.get Z.next=some (.map (cV m))) eE ⟨[],aB,gsf⟩ ?_;rintro i E J hi hcE hrH hnH hsI ⟨m,hJ,hm⟩;(try simp only[zdO,zdF,aX,zdy,zdJ,Nat.reduceBEq,Nat.reduceAdd, *]at hcE);(try simp only[zdO,zdF,aX, *]at hrH);(try simp only[zdA,zdQ,zec,bC,Nat.reduceAdd]at hnH);have hB0:(0 == J.next)=false:=zdC ac;have hC0:(J.next == 0)=false:=zdC ac;have hB1:(2 == J.next)=false:=zdC ac;have hC1:(J.next == 2)=false:=zdC ac;have hB2:(Z.next+1 == J.next)=false:=zdC ac;have hC2:(J.next == Z.next+1)=false:=zdC ac;have hB3:(Z.next+2 == J.next)=false:=zdC ac;have hC3:(J.next == Z.next+2)=false:=zdC ac;obtain⟨h30,h3a,h35,h36⟩:=hrH;repeat' (first
  |(apply zdk ?_;clear hK K)|apply Rx.o ?_|apply bp ?_|(apply aS (fun z V=>?_) (fun z V=>?_)<;>try(cases z;done))|apply ak ?_|(apply zdl fun K hK=>?_)|apply au ?_|apply zdm ?_|apply zdr ?_)
 .have o:i<p.funcs.length:=by simpa using z
  have hgx:p.funcs[i]?=some p.funcs[i]:=aR o;have hgn:(zeY p)[i]?=some p.funcs[i].name:=by rw[zeY,dK,hgx];rfl
  have hu:=NX (P:=Tryz.prog) (t:=110) Tryz.underlying110 Ja hm p.funcs[i].name p.funcs[i].params.length;rw[fq o,zeZ]at hJ;repeat' (first
   |(apply zdk ?_;clear hK K)|apply Rx.o ?_|apply bp ?_|(apply zdl fun K hK=>?_)|(apply ou 6 fun K hK=>?_)|fail)
  refine⟨ac,zdz,zdz,eN,vj,?_⟩;exact⟨_,hJ,ik⟩
 .have hie:i=p.funcs.length:=by simp at z;omega
  rw[hie,jR,zeZ]at hJ;subst hJ;clear hie hsI hi z V;repeat' (first
   |(apply zdk ?_;clear hK K)|fail)
  generalize hHq:Hp.set (Hp.alloc J _) _ _=Hq;have nq:J.next+1<=Hq.next:=by rw[<-hHq];exact aM _
  have U:∀k,k<J.next->Hq.get k=J.get k:=fun k hk=>by rw[<-hHq,aW,ai ac,zdq,ai ac]
  have q9:Hq.get J.next=some (.cells [.int .i64 (zf4 false)] 0 true):=by rw[<-hHq,aW,az rfl];rfl
  clear hHq;refine zef [5,6,9,41,42] [] 43 p.funcs.length (fun i E H=>∃w,H.get J.next=some (.cells [.int .i64 (zf4 w)] 0 true)/\rx p=oL (zeZ p.funcs []) (zd9 p) (p.funcs.drop i) w/\H.get (Z.next+1)=some (.cells [.map 2] 0 true)/\(∃l,H.get 2=some (.map (eF l))/\∀s,zdS l s=zdS (zd9 p) s)/\H.get (Z.next+2)=some (.cells [.map Z.next] 0 true)/\H.get Z.next=some (.map (cV (zeZ p.funcs [])))) eE ⟨false,q9,rfl,by rw[U _ ac];exact h35,⟨la,by rw[U _ ac];exact h3a,hla2⟩,by rw[U _ ac];exact h36,by rw[U _ ac];exact hm⟩ ?_;clear hm hla2 la h30 h3a h35 h36 gs0 gsa gs5 gs6 gsf q9 U;rintro i E H4 hi hcE hrH hnH hsI ⟨w,g9,hJ,g5,⟨la,ga,hla⟩,g6,gf⟩;(try simp only[zdO,zdF,aX,zdy,zdJ,Nat.reduceBEq, *]at hcE);(try simp only[zdF, *]at hrH);(try simp only[zdA,zdQ,zec,bC,Nat.reduceAdd]at hnH);repeat' (first
   |(apply zdk ?_;clear hK K)|apply Rx.o ?_|(apply aS (fun z V=>?_) (fun z V=>?_)<;>try(cases z;done))|apply ak ?_|(apply zdl fun K hK=>?_)|apply au ?_|apply zdm ?_|apply am ?_|apply zdr ?_)
  .have o:i<p.funcs.length:=by simpa using z
   have hgx:p.funcs[i]?=some p.funcs[i]:=aR o;have hsm:=sh (dr o);have hsz:p.funcs[i].sz=1+p.funcs[i].name.length+zfg p.funcs[i].params+zfg p.funcs[i].locals+zfl p.funcs[i].body+p.funcs[i].value.sz:=rfl;have hpl:=sc p.funcs[i].params;have hll:=sc p.funcs[i].locals;have hdr:oL (zeZ p.funcs []) (zd9 p) (p.funcs.drop i) w=if lG (fun x _=>kA (p.funcs[i].params++p.funcs[i].locals) (zd9 p) x) p.funcs[i]=true/\(zeH (kC (zeZ p.funcs []) (p.funcs[i].params++p.funcs[i].locals) (zd9 p)) p.funcs[i].body 0 w).1=true then oL (zeZ p.funcs []) (zd9 p) (p.funcs.drop (i+1)) (zeH (kC (zeZ p.funcs []) (p.funcs[i].params++p.funcs[i].locals) (zd9 p)) p.funcs[i].body 0 w).2 else 3:=sG
   rw[hdr]at hJ;clear hdr;have hfz:p.funcs[i].sz<2^60:=ac;generalize p.funcs[i]=g at *;repeat' (first
    |(apply zdk ?_;clear hK K)|apply Rx.o ?_|apply bp ?_|apply ak ?_|(apply zdl fun K hK=>?_)|fail)
   generalize hHb:Hp.alloc (Hp.set _ _ _) _=j;have nb:j.next=H4.next+2:=by rw[<-hHb];rfl
   have oldb:∀k,k<H4.next->j.get k=H4.get k:=fun k hk=>by rw[<-hHb,zdq,ai kX,aW,ai ac,zdq,ai ac]
   have gbr:j.get (H4.next+1)=some (.cells [zeE g.params,zeE g.locals] 0 true):=by rw[<-hHb,zdq,az dj]
   have gb11:j.get H4.next=some (.cells g.cells 0 true):=by rw[<-hHb,zdq,ai kX,aW,az rfl]
   clear hHb;refine bh rfl bm bo ?_;simp only[bJ];refine a9 ?_ (I9 (x:=[g.params,g.locals]) (imm:=0) (zej (fun _=>rfl) rfl) gbr ac ⟨aB,cf⟩);rintro v Y ⟨rfl,⟨lv,hmv,hlv⟩,old5,n5⟩;rw[show([g.params,g.locals]:List (List (List UInt8))).flatten=g.params++g.locals by simp]at hlv;have o5:∀k,k<H4.next->Y.get k=H4.get k:=fun k hk=>by rw[old5 k ac,oldb k hk]
   have g511:Y.get H4.next=some (.cells g.cells 0 true):=by rw[old5 _ ac];exact gb11
   have g59:Y.get J.next=some (.cells [.int .i64 (zf4 w)] 0 true):=by rw[o5 _ ac];exact g9
   have g55:Y.get (Z.next+1)=some (.cells [.map 2] 0 true):=by rw[o5 _ ac];exact g5
   have g5a:Y.get 2=some (.map (eF la)):=by rw[o5 _ ac];exact ga
   have g56:Y.get (Z.next+2)=some (.cells [.map Z.next] 0 true):=by rw[o5 _ ac];exact g6
   have g5f:Y.get Z.next=some (.map (cV (zeZ p.funcs []))):=by rw[o5 _ ac];exact gf
   clear o5 old5 gbr gb11 oldb g9 g5 ga g6 gf;have e1:(H4.next == Y.next)=false:=zdC ac;dsimp only[zdE];repeat' (first
    |(apply zdk ?_;clear hK K)|apply Rx.o ?_|apply bp ?_|apply ak ?_|(apply zdl fun K hK=>?_)|fail)
   generalize hHd:Hp.set (Hp.alloc Y _) _ _=F;have nd:F.next=Y.next+1:=by rw[<-hHd];rfl
   have A:∀k,k<Y.next->F.get k=Y.get k:=fun k hk=>by rw[<-hHd,aW,ai ac,zdq,ai ac]
   have d12:F.get Y.next=some (.cells [.map j.next] 0 true):=by rw[<-hHd,aW,az rfl,nb]
   clear hHd;have hok:RsOk ⟨Y.next,j.next,Z.next+1,2,Z.next+2,Z.next,J.next⟩ (g.params++g.locals) (zd9 p) (zeZ p.funcs []) F:={
    b12:=d12
    bv:=⟨lv,by show F.get j.next=_;rw[A _ n5];exact hmv,hlv⟩
    b5:=by show F.get (Z.next+1)=_;rw[A _ ac];exact g55
    ba:=⟨la,by show F.get 2=_;rw[A _ ac];exact g5a,hla⟩
    b6:=by show F.get (Z.next+2)=_;rw[A _ ac];exact g56
    bf:=by show F.get Z.next=_;rw[A _ ac];exact g5f}
   have hd9:F.get J.next=some (.cells [.int .i64 (zf4 w)] 0 true):=by rw[A _ ac];exact g59
   have hd11:F.get H4.next=some (.cells g.cells 0 true):=by rw[A _ ac];exact g511
   have hlX:∀n,F.next<=n->RsLt ⟨Y.next,j.next,Z.next+1,2,Z.next+2,Z.next,J.next⟩ n:=fun n hn=>⟨by show Y.next<n;omega,by show j.next<n;omega,by show Z.next+1<n;omega,by show 2<n;omega,by show Z.next+2<n;omega,by show Z.next<n;omega⟩
   have hnX:RsNe ⟨Y.next,j.next,Z.next+1,2,Z.next+2,Z.next,J.next⟩:=⟨by show Y.next≠J.next;omega,by show j.next≠J.next;omega,by show Z.next+1≠J.next;omega,by show 2≠J.next;omega,by show Z.next+2≠J.next;omega,by show Z.next≠J.next;omega⟩;clear g59 g55 g5a g56 g5f d12 A hmv hlv hla g511;refine bh rfl bm bo ?_;simp only[bJ];refine a9 ?_ (I5 hps (I:=fun H'=>fJ F.next F H') (fun a b h1 h2=>h1.trans h2) (zxL (zej (fun _=>rfl) rfl) (hlX _ (aM _)) (fun a b h1 h2=>h1.trans h2) fun H' h=>hok.low (hlX _ (aM _)) h) g F hfz (aM _) (ml _ _));rintro v H6 ⟨rfl,hf6,O⟩;have n6:=hf6.next
   have hok6:=hok.low (hlX _ (aM _)) O;have h69:H6.get J.next=some (.cells [.int .i64 (zf4 w)] 0 true):=by rw[O _ ac];exact hd9
   have h611:H6.get H4.next=some (.cells g.cells 0 true):=by rw[O _ ac];exact hd11
   clear O hf6 hok hd9 hd11;dsimp only[zdE];cases hwf:lG (fun x _=>kA (g.params++g.locals) (zd9 p) x) g with
   |false=>
    repeat' (first
     |(apply zdk ?_;clear hK K)|apply Rx.o ?_|(apply bZ (fun hg hgp=>?_) (fun hg hgp=>?_)<;>try(cases hg;done))|(apply aS (fun z V=>?_) (fun z V=>?_)<;>try(cases z;done))|apply ak ?_|(apply zdl fun K hK=>?_)|apply am ?_|fail)
    all_goals (refine⟨eI,_,eR,?_⟩;try simp only[zdn])
    rw[hJ,hwf];simp
   |true=>
    rw[hwf]at hJ;repeat' (first
     |(apply zdk ?_;clear hK K)|apply Rx.o ?_|(apply bZ (fun hg hgp=>?_) (fun hg hgp=>?_)<;>try(cases hg;done))|apply ak ?_|(apply zdl fun K hK=>?_)|fail)
    refine bh rfl bm bo ?_;simp only[bJ];refine a9 ?_ (tf (zej (fun _=>rfl) rfl) (base:=H6.next) (I:=fun(w:Bool) H=>RsOk ⟨Y.next,j.next,Z.next+1,2,Z.next+2,Z.next,J.next⟩ (g.params++g.locals) (zd9 p) (zeZ p.funcs []) H/\H.get J.next=some (.cells [.int .i64 (zf4 w)] 0 true)) (fun s a b h1 h2=>⟨h1.1.low (hlX _ n6) h2,by rw[h2 _ ac];exact h1.2⟩) (zxM (zej (fun _=>rfl) rfl) (hlX _ n6) (by show J.next<_;omega) hnX) (zfl g.body+1) g.body ac 0 w H6 ac (aM _) ⟨hok6,h69⟩);rintro v H7 ⟨rfl,hf7,C,h79⟩;have n7:=hf7.next
    dsimp only[zdE];repeat' (first
     |(apply zdk ?_;clear hK K)|apply Rx.o ?_|(apply aS (fun z V=>?_) (fun z V=>?_)<;>try(cases z;done))|apply ak ?_|(apply zdl fun K hK=>?_)|apply zdm ?_|apply am ?_|fail)
    .all_goals (refine⟨eI,_,eR,?_⟩;try simp only[zdn])
     rw[hJ];simp_all
    .refine⟨ac,zdz,zdz,eN,vj,?_⟩;refine⟨_,h79,?_,C.b5,C.ba,C.b6,C.bf⟩;rw[hJ,az ⟨rfl,by simp_all⟩]
  .repeat' (first
    |(apply zdk ?_;clear hK K)|fail)
   all_goals (refine⟨eI,_,eR,?_⟩;try simp only[zdn])
   have hie:i=p.funcs.length:=vh;rw[hJ,hie,jR,oL,zf4])
end
section
def tyW4e.tyF:=ad @b9 (ad @dA (ad @iq (ad @kQ (ad @na (ad @kj (ad @ko (ad @iM (ad @gF (ad @ng (@jM))))))))))
open tyW4e
noncomputable def Jc:{c:SC // aC 68 (Tryz.f85.body.getD .skip)=c}:=by
 refine⟨?_,?_⟩;rotate_left
 .simp only[Tryz.f85,a5,aC,zdG,zdD,zdH,zdI,Nat.blt,Nat.ble];rfl
theorem zpY{cfg:Cfg}(hp:Plains cfg)(g:Plain cfg 85)(h1w:Plain cfg 124)(h2w:Plain cfg 126)(p:Pr)(hz:p.sz<2^60):
 zdw Tryz.prog cfg 85 [.agg p.cells] zd3 fun v _=>v=.bool (jc p):=by
 have hpz:p.sz=1+kO p.arrays+kN p.funcs:=rfl;have hla:=se p.arrays;have hlf:=sd p.funcs;have hla2:p.arrays.length<2^60:=ac;have hlf2:p.funcs.length<2^60:=ac;refine zdv (M:=68) (rs:=[.tmp 2]) (g.call _) g.ice g.froz Tryz.func85 rfl rfl Jc.2 rfl ?_;dsimp only[Jc,zds,Nat.reduceAdd];repeat' (first
  |(apply zdk ?_;clear hK K)|apply Rx.o ?_|apply bp ?_|(apply bZ (fun C L=>?_) (fun C L=>?_)<;>try(cases C;done))|(apply aS (fun z V=>?_) (fun z V=>?_)<;>try(cases z;done))|apply ak ?_|(apply zdl fun K hK=>?_)|apply au ?_|apply zdm ?_|apply am ?_|apply zdr ?_)
 .all_goals (refine⟨eI,_,eR,?_⟩;try simp only[zdn])
  simp_all[jc];try(intros;omega)
 .refine mh (fun i E H=>p.arrays.all (fun a=>!decide (a.len<1) && !decide (16<a.len))=(p.arrays.drop i).all (fun a=>!decide (a.len<1) && !decide (16<a.len))/\E.at 1=.ptr 0 0/\E.at 21=.lst (p.arrays.map Ar.cells)/\E.at 22=.int .i64 p.arrays.length/\E.at 23=.int .i64 i/\0<H.next/\H.get 0=some (.cells p.cells 0 true)) p.arrays.length ?_ ?_
  .rintro i E H hi ⟨hc,h1,h21,h22,h23,hn,hg0⟩;have e0:(0 == H.next)=false:=cf;repeat' (first
    |(apply zdk ?_;clear hK K)|apply Rx.o ?_|apply bp ?_|(apply bZ (fun C L=>?_) (fun C L=>?_)<;>try(cases C;done))|(apply aS (fun z V=>?_) (fun z V=>?_)<;>try(cases z;done))|apply ak ?_|(apply zdl fun K hK=>?_)|apply au ?_|apply zdm ?_|apply am ?_|apply zdr ?_)
   .have o:i<p.arrays.length:=by simpa using z
    have hgx:p.arrays[i]?=some p.arrays[i]:=aR o;have hd:(p.arrays.drop i).all (fun a=>!decide (a.len<1) && !decide (16<a.len))=((!decide (p.arrays[i].len<1) && !decide (16<p.arrays[i].len))&&(p.arrays.drop (i+1)).all (fun a=>!decide (a.len<1) && !decide (16<a.len))):=vq;repeat' (first
     |(apply zdk ?_;clear hK K)|apply Rx.o ?_|apply bp ?_|(apply bZ (fun C L=>?_) (fun C L=>?_)<;>try(cases C;done))|(apply aS (fun z V=>?_) (fun z V=>?_)<;>try(cases z;done))|apply ak ?_|(apply zdl fun K hK=>?_)|apply au ?_|apply zdm ?_|apply am ?_|apply zdr ?_)
    .all_goals (refine⟨eI,_,eR,?_⟩;try simp only[zdn])
     have O:p.arrays.all (fun a=>!decide (a.len<1) && !decide (16<a.len))=false:=by rw[hc,hd];simp_all
     simp only[jc,O];simp
    .refine⟨o,?_,eE,eE,eE,?_,kX,zgk⟩
     .rw[hc,hd];simp_all
     .simp only[gU,Nat.reduceBEq,gk,zfD (show i<2^62 by omega)]
    .all_goals (refine⟨eI,_,eR,?_⟩;try simp only[zdn])
     have O:p.arrays.all (fun a=>!decide (a.len<1) && !decide (16<a.len))=false:=by rw[hc,hd];simp_all
     simp only[jc,O];simp
   .have hia:i=p.arrays.length:=by simp at z;omega
    have hca:p.arrays.all (fun a=>!decide (a.len<1) && !decide (16<a.len))=true:=by rw[hc,hia];simp
    clear hc;repeat' (first
     |(apply zdk ?_;clear hK K)|apply Rx.o ?_|apply bp ?_|(apply bZ (fun C L=>?_) (fun C L=>?_)<;>try(cases C;done))|(apply aS (fun z V=>?_) (fun z V=>?_)<;>try(cases z;done))|apply ak ?_|(apply zdl fun K hK=>?_)|apply au ?_|apply zdm ?_|apply am ?_|apply zdr ?_)
    refine mh (fun i E H=>p.funcs.all gW=(p.funcs.drop i).all gW/\E.at 37=.lst (p.funcs.map Fu.cells)/\E.at 38=.int .i64 p.funcs.length/\E.at 39=.int .i64 i/\0<H.next) p.funcs.length ?_ ?_
    .rintro i E H hi ⟨hc,h37,h38,h39,hn⟩;repeat' (first
      |(apply zdk ?_;clear hK K)|apply Rx.o ?_|apply bp ?_|(apply bZ (fun C L=>?_) (fun C L=>?_)<;>try(cases C;done))|(apply aS (fun z V=>?_) (fun z V=>?_)<;>try(cases z;done))|apply ak ?_|(apply zdl fun K hK=>?_)|apply au ?_|apply zdm ?_|apply am ?_|apply zdr ?_)
     .have o:i<p.funcs.length:=by simpa using z
      have hgx:p.funcs[i]?=some p.funcs[i]:=aR o;have hd:(p.funcs.drop i).all gW=(gW p.funcs[i]&&(p.funcs.drop (i+1)).all gW):=vq;have hxm:=sh (dr o);generalize hx0:p.funcs[i]=x at *;have hsx:x.sz=1+x.name.length+zfg x.params+zfg x.locals+zfl x.body+x.value.sz:=rfl;repeat' (first
       |(apply zdk ?_;clear hK K)|apply Rx.o ?_|apply bp ?_|(apply bZ (fun C L=>?_) (fun C L=>?_)<;>try(cases C;done))|(apply aS (fun z V=>?_) (fun z V=>?_)<;>try(cases z;done))|apply ak ?_|(apply zdl fun K hK=>?_)|apply au ?_|apply zdm ?_|apply am ?_|apply zdr ?_)
      .generalize Y:Hp.set _ (H.next+2) _=F;have hn5:F.next=H.next+3:=by rw[<-Y];rfl
       have A:F.get H.next=some (.cells x.cells 0 true):=Cq
       have m:F.get (H.next+1)=some (.cells [.int .i64 0] 0 true):=Cq;have j:F.get (H.next+2)=some (.cells [.int .i64 0] 0 true):=Cq;refine bh rfl bm bo ?_;simp only[dS];refine a9 ?_ (tf hp.ws (base:=H.next+3) (fun s Ha Hb h Z=>⟨by rw[Z _ ac];exact h.1,by rw[Z _ ac];exact h.2.1,fun r q1 q2 q3=>by rw[Z r q1];exact h.2.2 r q1 q2 q3⟩) (Z7 h1w (base:=H.next+3) (rn:=H.next+1) (rl:=H.next+2) ac ac ac F) (zfl x.body+1) x.body ac 0 (0,0) F ac ac ⟨m,j,fun _ _ _ _=>rfl⟩);rintro v H6 ⟨rfl,hf6,hi6⟩;have hn6:=hf6.next
       have hg6:H6.get H.next=some (.cells x.cells 0 true):=by rw[hi6.2.2 _ ac ac ac];exact A
       dsimp only[zdE];repeat' (first
        |(apply zdk ?_;clear hK K)|apply Rx.o ?_|apply bp ?_|(apply bZ (fun C L=>?_) (fun C L=>?_)<;>try(cases C;done))|(apply aS (fun z V=>?_) (fun z V=>?_)<;>try(cases z;done))|apply ak ?_|(apply zdl fun K hK=>?_)|apply au ?_|apply zdm ?_|apply am ?_|apply zdr ?_)
       .refine bh rfl bm bo ?_;simp only[dS];refine a9 ?_ (I5 hp (base:=0) (I:=fun _=>True) (fun _ _ _ _=>trivial) (Z8 h2w (fun _ _ _ _=>trivial)) x H6 ac ac trivial);rintro v H7 ⟨rfl,hf7,_⟩;have hn7:=hf7.next
        dsimp only[zdE];repeat' (first
         |(apply zdk ?_;clear hK K)|apply Rx.o ?_|apply bp ?_|(apply bZ (fun C L=>?_) (fun C L=>?_)<;>try(cases C;done))|(apply aS (fun z V=>?_) (fun z V=>?_)<;>try(cases z;done))|apply ak ?_|(apply zdl fun K hK=>?_)|apply au ?_|apply zdm ?_|apply am ?_|apply zdr ?_)
        .all_goals (refine⟨eI,_,eR,?_⟩;try simp only[zdn])
         have U:p.funcs.all gW=false:=by rw[hc,hd];simp_all[gW]
         simp only[jc,U];simp
        .refine⟨o,?_,eE,eE,?_,ac⟩
         .rw[hc,hd];simp_all[gW]
         .simp only[gU,Nat.reduceBEq,gk,zfD (show i<2^62 by omega)]
       .all_goals (refine⟨eI,_,eR,?_⟩;try simp only[zdn])
        have U:p.funcs.all gW=false:=by rw[hc,hd];simp_all[gW]
        simp only[jc,U];simp
      .all_goals (refine⟨eI,_,eR,?_⟩;try simp only[zdn])
       have J:gW x=false:=by
        simp only[gW,pr,jN];first|exact .inl (.inl (.inl il))|exact .inl (.inl (.inr il))
       have U:p.funcs.all gW=false:=by rw[hc,hd,J,dZ]
       simp only[jc,U];simp
      .all_goals (refine⟨eI,_,eR,?_⟩;try simp only[zdn])
       have J:gW x=false:=by
        simp only[gW,pr,jN];first|exact .inl (.inl (.inl il))|exact .inl (.inl (.inr il))
       have U:p.funcs.all gW=false:=by rw[hc,hd,J,dZ]
       simp only[jc,U];simp
     .all_goals (refine⟨eI,_,eR,?_⟩;try simp only[zdn])
      have:i=p.funcs.length:=vh;simp_all[jc];try(intros;omega)
    .exact⟨rfl,eE,eE,eE,ac⟩
  .exact⟨rfl,eE,eE,eE,eE,by simp[zdA,zec],zgk⟩
 .all_goals (refine⟨eI,_,eR,?_⟩;try simp only[zdn])
  simp_all[jc];try(intros;omega)
end
section
def tyW4f.tyF:=ad @b9 (ad @uE (@dA))
open tyW4f
noncomputable def Jd:{c:SC // aC 21 (Tryz.f209.body.getD .skip)=c}:=by
 refine⟨?_,?_⟩;rotate_left
 .simp only[Tryz.f209,a5,aC,zdG,zdD,zdH,zdI,Nat.blt,Nat.ble];rfl
noncomputable def Je:{c:SC // aC 9 (Tryz.f206.body.getD .skip)=c}:=by
 refine⟨?_,?_⟩;rotate_left
 .simp only[Tryz.f206,a5,aC,zdG,zdD,zdH,zdI,Nat.blt,Nat.ble];rfl
noncomputable def Jf:{c:SC // aC 23 (Tryz.f204.body.getD .skip)=c}:=by
 refine⟨?_,?_⟩;rotate_left
 .simp only[Tryz.f204,a5,aC,zdG,zdD,zdH,zdI,Nat.blt,Nat.ble];rfl
noncomputable def Jg:{c:SC // aC 34 (Tryz.f195.body.getD .skip)=c}:=by
 refine⟨?_,?_⟩;rotate_left
 .simp only[Tryz.f195,a5,aC,zdG,zdD,zdH,zdI,Nat.blt,Nat.ble];rfl
noncomputable def Jh:{c:SC // aC 37 (Tryz.f207.body.getD .skip)=c}:=by
 refine⟨?_,?_⟩;rotate_left
 .simp only[Tryz.f207,a5,aC,zdG,zdD,zdH,zdI,Nat.blt,Nat.ble];rfl
theorem zlU{cfg:Cfg}(J:Plain cfg 209)(n:Int)(H:Hp):zdw Tryz.prog cfg 209 [.int .u8 n] H fun v H'=>v=.bool (lK n)/\H'=H:=by
 refine zdv (M:=21) (rs:=[.tmp 2]) (J.call _) J.ice J.froz Tryz.func209 rfl rfl Jd.2 rfl ?_;dsimp only[Jd,zds,Nat.reduceAdd];repeat' (first
  |(apply zdk ?_;clear hK K)|apply Rx.o ?_|apply qC ?_|(apply bZ (fun C L=>?_) (fun C L=>?_)<;>try(cases C;done))|apply ak ?_|(apply zdl fun K hK=>?_)|apply am ?_)
 all_goals (refine⟨eI,_,eR,?_⟩;try simp only[zdn])
 all_goals (refine⟨?_,iT⟩;simp_all[lK]<;>omega)
theorem Cu{cfg:Cfg}(J:Plain cfg 206)(n:Int)(H:Hp):zdw Tryz.prog cfg 206 [.int .u8 n] H fun v H'=>v=.bool (kq n)/\H'=H:=by
 refine zdv (M:=9) (rs:=[.tmp 2]) (J.call _) J.ice J.froz Tryz.func206 rfl rfl Je.2 rfl ?_;dsimp only[Je,zds,Nat.reduceAdd];repeat' (first
  |(apply zdk ?_;clear hK K)|apply Rx.o ?_|(apply bZ (fun C L=>?_) (fun C L=>?_)<;>try(cases C;done))|apply ak ?_|(apply zdl fun K hK=>?_)|apply am ?_)
 all_goals (refine⟨eI,_,eR,?_⟩;try simp only[zdn])
 all_goals (refine⟨?_,iT⟩;simp_all[kq]<;>omega)
theorem znt{cfg:Cfg}(J:Plain cfg 204)(F:Plain cfg 209)(hd:Plain cfg 206)(s:List UInt8)(I:s.length<2^60)(H:Hp):
 zdw Tryz.prog cfg 204 [.str s] H fun v H'=>v=.int .i64 (zeR s)/\H'=H:=by
 refine zdv (M:=23) (rs:=[.tmp 2]) (J.call _) J.ice J.froz Tryz.func204 rfl rfl Jf.2 rfl ?_;dsimp only[Jf,zds,Nat.reduceAdd];repeat' (first
  |(apply zdk ?_;clear hK K)|apply Rx.o ?_|apply ak ?_|(apply zdl fun K hK=>?_)|apply au ?_|fail)
 refine mh (fun i E H'=>zeR s=i+zeR (s.drop i)/\E.at 0=.str s/\E.at 3=.int .i64 i/\H'=H) s.length ?_ ?_
 .rintro i E H' A ⟨hc,m,j,rfl⟩;repeat' (first
   |(apply zdk ?_;clear hK K)|apply Rx.o ?_|apply qC ?_|(apply bZ (fun C L=>?_) (fun C L=>?_)<;>try(cases C;done))|(apply aS (fun z V=>?_) (fun z V=>?_)<;>try(cases z;done))|apply ak ?_|(apply zdl fun K hK=>?_)|apply am ?_|apply zdr ?_)
  .have o:i<s.length:=by omega
   have U:s[i]?=some s[i]:=aR o;have O:zeR (s.drop i)=if iP s[i]then zeR (s.drop (i+1))+1 else 0:=by rw[fq o,zeR]
   repeat' (first
    |apply Rx.o ?_|(apply bZ (fun C L=>?_) (fun C L=>?_)<;>try(cases C;done))|fail)
   refine bh rfl bm bo ?_;simp only[bJ];refine a9 ?_ (zlU F s[i].toNat H');rintro v _ ⟨rfl,rfl⟩;dsimp only[zdE];repeat' (first
    |(apply zdk ?_;clear hK K)|apply Rx.o ?_|(apply bZ (fun C L=>?_) (fun C L=>?_)<;>try(cases C;done))|(apply aS (fun z V=>?_) (fun z V=>?_)<;>try(cases z;done))|(apply zdl fun K hK=>?_)|apply au ?_|apply zdm ?_|fail)
   .refine bh rfl bm bo ?_;simp only[bJ];refine a9 ?_ (Cu hd s[i].toNat _);rintro v _ ⟨rfl,rfl⟩;dsimp only[zdE];repeat' (first
     |(apply zdk ?_;clear hK K)|apply Rx.o ?_|(apply bZ (fun C L=>?_) (fun C L=>?_)<;>try(cases C;done))|(apply aS (fun z V=>?_) (fun z V=>?_)<;>try(cases z;done))|apply ak ?_|(apply zdl fun K hK=>?_)|apply au ?_|apply zdm ?_|apply am ?_|apply zdr ?_)
    .have Z:iP s[i]=true:=by simp_all[iP]
     refine⟨o,?_,eE,?_,rfl⟩
     .rw[hc,O,Z];simp;omega
     .simp only[gU,Nat.reduceBEq,gk,zfD (show i<2^62 by omega)]
    .have Z:iP s[i]=false:=by simp_all[iP]
     all_goals (refine⟨eI,_,eR,?_⟩;try simp only[zdn])
     exact⟨by rw[hc,O,Z];simp,iT⟩
   .have Z:iP s[i]=true:=by simp_all[iP]
    refine⟨o,?_,eE,?_,rfl⟩
    .rw[hc,O,Z];simp;omega
    .simp only[gU,Nat.reduceBEq,gk,zfD (show i<2^62 by omega)]
  .all_goals (refine⟨eI,_,eR,?_⟩;try simp only[zdn])
   have Y:i=s.length:=ac;refine⟨?_,iT⟩;rw[hc,Y];simp[zeR]
 .exact⟨aB,eE,eE,rfl⟩
theorem Ji{cfg:Cfg}(A:Plain cfg 195)(s:List UInt8)(hs:s.length<2^60)(H:Hp):
 zdw Tryz.prog cfg 195 [.str s] H fun v H'=>v=.int .i64 (zeS false s)/\H'=H:=by
 refine zdv (M:=34) (rs:=[.tmp 2]) (A.call _) A.ice A.froz Tryz.func195 rfl rfl Jg.2 rfl ?_;dsimp only[Jg,zds,Nat.reduceAdd];repeat' (first
  |(apply zdk ?_;clear hK K)|apply Rx.o ?_|apply ak ?_|(apply zdl fun K hK=>?_)|apply au ?_|fail)
 refine qj (fun n E H'=>∃i:Nat,n=s.length-i/\i<=s.length/\zeS false s=i+zeS false (s.drop i)/\E.at 0=.str s/\E.at 3=.int .i64 i/\H'=H) ?_ (n:=s.length) ?_
 .rintro n E H' ⟨i,rfl,hi,hc,h0,h3,rfl⟩;repeat' (first
   |(apply zdk ?_;clear hK K)|apply Rx.o ?_|(apply aS (fun z V=>?_) (fun z V=>?_)<;>try(cases z;done))|apply ak ?_|(apply zdl fun K hK=>?_)|apply au ?_|apply zdm ?_|apply am ?_|apply zdr ?_)
  .have o:i<s.length:=by omega
   have hgx:s[i]?=some s[i]:=aR o;have O:zeS false (s.drop i)=if j3 s[i]then zeS false (s.drop (i+1))+1 else if s[i].toNat=35 then zeS true (s.drop (i+1))+1 else 0:=by rw[fq o,zeS]
   repeat' (first
    |(apply zdk ?_;clear hK K)|apply Rx.o ?_|(apply aS (fun z V=>?_) (fun z V=>?_)<;>try(cases z;done))|apply ak ?_|(apply zdl fun K hK=>?_)|apply au ?_|apply zdm ?_|apply am ?_|fail)
   .have C:j3 s[i]=true:=by unfold j3;simp;omega
    refine⟨s.length-(i+1),ac,i+1,rfl,ac,?_,eE,?_,rfl⟩
    .rw[hc,O,az C];omega
    .simp only[gU,Nat.reduceBEq,gk,zfD (show i<2^62 by omega)]
   .have C:j3 s[i]=true:=by unfold j3;simp;omega
    refine⟨s.length-(i+1),ac,i+1,rfl,ac,?_,eE,?_,rfl⟩
    .rw[hc,O,az C];omega
    .simp only[gU,Nat.reduceBEq,gk,zfD (show i<2^62 by omega)]
   .have C:j3 s[i]=true:=by unfold j3;simp;omega
    refine⟨s.length-(i+1),ac,i+1,rfl,ac,?_,eE,?_,rfl⟩
    .rw[hc,O,az C];omega
    .simp only[gU,Nat.reduceBEq,gk,zfD (show i<2^62 by omega)]
   .have C:j3 s[i]=true:=by unfold j3;simp;omega
    refine⟨s.length-(i+1),ac,i+1,rfl,ac,?_,eE,?_,rfl⟩
    .rw[hc,O,az C];omega
    .simp only[gU,Nat.reduceBEq,gk,zfD (show i<2^62 by omega)]
   .have U:s[i].toNat=35:=by omega
    have C:j3 s[i]=false:=by unfold j3;simp;omega
    have g:hB (s.drop i)=hB (s.drop (i+1))+1:=by rw[fq o,hB,ai ac]
    have J:zeS false s=i+hB (s.drop i)+zeS false (s.drop (i+hB (s.drop i))):=by
     rw[hc,O,C,ai aB,az U,F8,wm,g,show i+1+hB (s.drop (i+1))=i+(hB (s.drop (i+1))+1) by omega];omega
    have hle:=F2 (s.drop i);rw[iD]at hle;refine qj (fun n E m=>∃j:Nat,n=s.length-j/\i<=j/\j<=s.length/\i+hB (s.drop i)=j+hB (s.drop j)/\E.at 0=.str s/\E.at 3=.int .i64 j/\m=H') ?_ (n:=s.length-i) ?_
    .rintro n E2 H2 ⟨j,rfl,hij,hj,Z,zex,k3,rfl⟩;repeat' (first
      |(apply zdk ?_;clear hK K)|apply Rx.o ?_|(apply bZ (fun Y L=>?_) (fun Y L=>?_)<;>try(cases Y;done))|(apply aS (fun z V=>?_) (fun z V=>?_)<;>try(cases z;done))|apply ak ?_|(apply zdl fun K hK=>?_)|apply zdr ?_)
     .have I:j<s.length:=by omega
      have hgx2:s[j]?=some s[j]:=aR I;have F:hB (s.drop j)=if s[j].toNat=10 then 0 else hB (s.drop (j+1))+1:=by rw[fq I,hB]
      repeat' (first
       |(apply zdk ?_;clear hK K)|apply Rx.o ?_|(apply bZ (fun Y L=>?_) (fun Y L=>?_)<;>try(cases Y;done))|(apply aS (fun z V=>?_) (fun z V=>?_)<;>try(cases z;done))|(apply zdl fun K hK=>?_)|apply au ?_|apply zdm ?_|apply zdr ?_)
      .refine⟨s.length-(j+1),ac,j+1,rfl,ac,ac,?_,eE,?_,rfl⟩
       .rw[Z,F,ai (by simp_all;omega)];omega
       .simp only[gU,Nat.reduceBEq,gk,zfD (show j<2^62 by omega)]
      .have h10:s[j].toNat=10:=by simp_all;omega
       rw[F,az h10,mT]at Z;refine⟨s.length-j,ac,j,rfl,ac,?_,eE,eE,iT⟩;rw[J,Z]
     .have hje:j=s.length:=by omega
      have h0j:hB (s.drop j)=0:=by rw[hje];simp[hB]
      rw[h0j,mT]at Z;refine⟨s.length-j,ac,j,rfl,ac,?_,eE,eE,iT⟩;rw[J,Z]
    .exact⟨i,rfl,ac,ac,rfl,eE,eE,rfl⟩
   .have C:j3 s[i]=false:=by unfold j3;simp;omega
    all_goals (refine⟨eI,_,eR,?_⟩;try simp only[zdn])
    refine⟨?_,iT⟩;rw[hc,O,C,ai aB,ai ac];simp
  .all_goals (refine⟨eI,_,eR,?_⟩;try simp only[zdn])
   have hie:i=s.length:=ac;refine⟨?_,iT⟩;rw[hc,hie];simp[zeS]
 .exact⟨0,aB,ac,aB,eE,eE,rfl⟩
end
section
def tyW4g.tyF:=ad @b9 (ad @dA (ad @sw (ad @AY (ad @A3 (ad @xt (ad @uE (ad @W8 (ad @N1 (ad @AE (@Tryz.underlying9))))))))))
open tyW4g
noncomputable def Jj:{c:SC // aC 35 (Tryz.f205.body.getD .skip)=c}:=by
 refine⟨?_,?_⟩;rotate_left
 .simp only[Tryz.f205,a5,aC,zdG,zdD,zdH,zdI,Nat.blt,Nat.ble];rfl
noncomputable def Jk:{c:SC // aC 41 (Tryz.f196.body.getD .skip)=c}:=by
 refine⟨?_,?_⟩;rotate_left
 .simp only[Tryz.f196,a5,aC,zdG,zdD,zdH,zdI,Nat.blt,Nat.ble];rfl
noncomputable def Jl:{c:SC // aC 49 (Tryz.f170.body.getD .skip)=c}:=by
 refine⟨?_,?_⟩;rotate_left
 .simp only[Tryz.f170,a5,aC,zdG,zdD,zdH,zdI,Nat.blt,Nat.ble];rfl
theorem zia{cfg:Cfg}(J:Plain cfg 207)(hd:Plain cfg 206)(s:List UInt8)(A:s≠[])(O:s.length<2^60)(H:Hp):
 zdw Tryz.prog cfg 207 [.str s] H fun v H'=>(∃b,v=.bool b)/\H'=H:=by
 have Z:0<s.length:=Ct.2 A;have Y:s[0]?=some s[0]:=aR Z;refine zdv (M:=37) (rs:=[.tmp 2]) (J.call _) J.ice J.froz Tryz.func207 rfl rfl Jh.2 rfl ?_;dsimp only[Jh,zds,Nat.reduceAdd];repeat' (first
  |(apply zdk ?_;clear hK K)|apply Rx.o ?_|apply ak ?_|(apply zdl fun K hK=>?_)|apply au ?_|fail)
 refine mh (fun i E H'=>E.at 0=.str s/\E.at 3=.int .i64 i/\H'=H) s.length ?_ ?_
 .rintro i E H' I ⟨zex,k3,rfl⟩;repeat' (first
   |(apply zdk ?_;clear hK K)|apply Rx.o ?_|(apply aS (fun z V=>?_) (fun z V=>?_)<;>try(cases z;done))|apply ak ?_|(apply zdl fun K hK=>?_)|apply au ?_|apply zdm ?_|apply zdr ?_)
  .have o:i<s.length:=by omega
   have U:s[i]?=some s[i]:=aR o;repeat' (first
    |apply Rx.o ?_|fail)
   refine bh rfl bm bo ?_;simp only[bJ];refine a9 ?_ (Cu hd s[i].toNat H');rintro v _ ⟨rfl,rfl⟩;dsimp only[zdE];repeat' (first
    |(apply zdk ?_;clear hK K)|apply Rx.o ?_|(apply aS (fun z V=>?_) (fun z V=>?_)<;>try(cases z;done))|apply ak ?_|(apply zdl fun K hK=>?_)|apply zdm ?_|apply am ?_|fail)
   .all_goals (refine⟨eI,_,eR,?_⟩;try simp only[zdn])
    exact⟨⟨_,rfl⟩,iT⟩
   .refine⟨o,eE,?_,iT⟩;simp only[gU,Nat.reduceBEq,gk,zfD (show i<2^62 by omega)]
  .repeat' (first
    |(apply zdk ?_;clear hK K)|apply Ry.o ?_|apply Ry.gu ?_|(apply a2 (fun C L=>?_) (fun C L=>?_)<;>try(cases C;done))|apply am ?_|fail)
   all_goals (refine⟨eI,_,eR,?_⟩;try simp only[zdn])
   all_goals exact⟨⟨_,rfl⟩,iT⟩
 .exact⟨eE,eE,rfl⟩
def zaj:List (List UInt8):=[[62,62,62],[60,60],[62,62],[60,61],[62,61],[61,61],[33,61]]
theorem zkd{cfg:Cfg}(Y:Plain cfg 205)(hplan:∀id,cfg.plan 205 id=.text)(s:List UInt8)(A:s≠[])(hs:s.length<2^60)(H:Hp):
 zdw Tryz.prog cfg 205 [.str s] H fun v H'=>(∃n:Nat,v=.int .i64 n/\n<=s.length)/\H'=H:=by
 have Z:0<s.length:=Ct.2 A;have g:s[0]?=some s[0]:=aR Z;have F:zeI Tryz.prog 245 [(0,.str [62,62,62]),(1,.str [60,60]),(2,.str [62,62]),(3,.str [60,61]),(4,.str [62,61]),(5,.str [61,61]),(6,.str [33,61])]=some (.agg [.str [62,62,62],.str [60,60],.str [62,62],.str [60,61],.str [62,61],.str [61,61],.str [33,61]]):=af;refine zdv (M:=35) (rs:=[.tmp 2]) (Y.call _) Y.ice Y.froz Tryz.func205 rfl rfl Jj.2 rfl ?_;dsimp only[Jj,zds,Nat.reduceAdd];repeat' (first
  |(apply zdk ?_;clear hK K)|apply Rx.o ?_|apply ak ?_|(apply zdl fun K hK=>?_)|apply au ?_|fail)
 refine mh (fun i E H'=>E.at 0=.str s/\E.at 6=.agg [.str [62,62,62],.str [60,60],.str [62,62],.str [60,61],.str [62,61],.str [61,61],.str [33,61]]/\E.at 7=.int .i64 i/\H'=H) 7 ?_ ?_
 .rintro i E H' hi ⟨zex,zf0,zge,rfl⟩;repeat' (first
   |(apply zdk ?_;clear hK K)|apply Rx.o ?_|(apply aS (fun z V=>?_) (fun z V=>?_)<;>try(cases z;done))|apply ak ?_|(apply zdl fun K hK=>?_)|apply au ?_|apply zdm ?_|apply zdr ?_)
  .have o:i<7:=by omega
   have U:∃w:List UInt8,lW Tryz.prog 245 (.agg [.str [62,62,62],.str [60,60],.str [62,62],.str [60,61],.str [62,61],.str [61,61],.str [33,61]]) (.int .i64 i)=some (.str w):=by
    refine⟨zaj.getD i [],?_⟩;rcases(show i=0\/i=1\/i=2\/i=3\/i=4\/i=5\/i=6 by omega)with rfl|rfl|rfl|rfl|rfl|rfl|rfl<;>kernel_rfl
   obtain⟨w,m⟩:=U;repeat' (first
    |(apply zdk ?_;clear hK K)|apply Rx.o ?_|(apply bZ (fun C L=>?_) (fun C L=>?_)<;>try(cases C;done))|(apply aS (fun z V=>?_) (fun z V=>?_)<;>try(cases z;done))|apply ak ?_|(apply zdl fun K hK=>?_)|apply zdm ?_|fail)
   .have I:w.length<=s.length:=by omega
    repeat' (first
     |(apply zdk ?_;clear hK K)|apply Rx.o ?_|(apply bZ (fun C L=>?_) (fun C L=>?_)<;>try(cases C;done))|(apply aS (fun z V=>?_) (fun z V=>?_)<;>try(cases z;done))|apply ak ?_|(apply zdl fun K hK=>?_)|apply zdm ?_|apply am ?_|fail)
    .all_goals (refine⟨eI,_,eR,?_⟩;try simp only[zdn])
     exact⟨⟨w.length,rfl,I⟩,iT⟩
    .refine⟨o,eE,eE,?_,iT⟩;simp only[gU,Nat.reduceBEq,gk,zfD (show i<2^62 by omega)]
   .refine⟨o,eE,eE,?_,iT⟩;simp only[gU,Nat.reduceBEq,gk,zfD (show i<2^62 by omega)]
  .repeat' (first
    |(apply zdk ?_;clear hK K)|fail)
   refine mh (fun i E J=>E.at 0=.str s/\E.at 5=.int .i64 i/\J=H') 23 ?_ ?_
   .rintro j E J hj ⟨zex,zfi,rfl⟩;repeat' (first
     |(apply zdk ?_;clear hK K)|apply Rx.o ?_|(apply aS (fun z V=>?_) (fun z V=>?_)<;>try(cases z;done))|apply ak ?_|(apply zdl fun K hK=>?_)|(apply ou 10 fun K hK=>?_)|apply au ?_|apply zdm ?_|apply am ?_|apply zdr ?_)
    .have o:j<23:=by omega
     have O:∃b,([43,45,42,47,37,38,124,94,126,33,60,62,61,63,58,59,44,40,41,123,125,91,93]:List UInt8)[j]?=some b:=by
      rw[aR (by simpa using o)];exact⟨_,rfl⟩
     obtain⟨b,O⟩:=O;repeat' (first
      |(apply zdk ?_;clear hK K)|apply Ry.o ?_|(apply aD (fun z V=>?_) (fun z V=>?_)<;>try(cases z;done))|apply ak ?_|(apply zdl fun K hK=>?_)|apply zdm ?_|apply am ?_|fail)
     .all_goals (refine⟨eI,_,eR,?_⟩;try simp only[zdn])
      exact⟨⟨1,rfl,Z⟩,iT⟩
     .refine⟨o,eE,?_,iT⟩;simp only[gU,Nat.reduceBEq,gk,zfD (show j<2^62 by omega)]
    .all_goals (refine⟨eI,_,eR,?_⟩;try simp only[zdn])
     exact⟨⟨0,rfl,cG _⟩,iT⟩
   .exact⟨eE,eE,rfl⟩
 .exact⟨eE,eE,eE,rfl⟩
end
section
def tyW4h.tyF:=ad @b9 (ad @dA (ad @xt (ad @AE (@Tryz.underlying9))))
open tyW4h
structure Lexers (cfg:Cfg):Prop where
 let_:Plain cfg 209
 dig:Plain cfg 206
 word:Plain cfg 204
 space:Plain cfg 195
 num:Plain cfg 207
 sym:Plain cfg 205
 first:Plain cfg 196
 scan:Plain cfg 170
 plan:∀id,cfg.plan 205 id=.text
 keep:cfg.keep 170=false
theorem yE(a:Int)(x:List UInt8):zeI Tryz.prog 173 [(0,.int .i64 a),(1,.str x)]=some (.agg [.int .i64 a,.str x,.int .i64 0]):=af
theorem yF:zeI Tryz.prog 173 []=some (.agg [.int .i64 0,.str [],.int .i64 0]):=af
theorem tg(a b c:AV):zd7 3 [a,b,c]=some (.agg [a,b,c]):=rfl
theorem rB(H:Hp)(a b:HB):FrB 0 H ((H.alloc a).set H.next b):=((gg _ _).alloc _).set (.inl (aM _)) _
theorem ztz{cfg:Cfg}(I:Lexers cfg)(s:List UInt8)(A:s≠[])(L:s.length<2^60)(H:Hp):
 zdw Tryz.prog cfg 196 [.str s] H fun v H'=>(∃k e,v=.tup [.agg k.cells,.int .i64 e]/\F9 s k e)/\FrB 0 H H':=by
 have J:=I.first
 have i:0<s.length:=Ct.2 A;have Y:s[0]?=some s[0]:=aR i;have U:=F0 s;refine zdv (M:=41) (rs:=[.cell 2 173,.tmp 3]) (J.call _) J.ice J.froz Tryz.func196 rfl rfl Jk.2 rfl ?_;dsimp only[Jk,zds,Nat.reduceAdd];repeat' (first
  |(apply zdk ?_;clear hK K)|apply Rx.o ?_|apply bp ?_|(apply aS (fun z V=>?_) (fun z V=>?_)<;>try(cases z;done))|apply ak ?_|(apply zdl fun K hK=>?_)|apply au ?_|apply zdm ?_|apply am ?_)
 refine bh rfl bm bo ?_;simp only[dS];refine a9 ?_ (znt I.word I.let_ I.dig s L _);rintro v _ ⟨rfl,rfl⟩;dsimp only[zdE];have j:=@yE;have m:=@yF;repeat' (first
  |(apply zdk ?_;clear hK K)|apply Ry.o ?_|(apply aD (fun z V=>?_) (fun z V=>?_)<;>try(cases z;done))|apply ak ?_|(apply zdl fun K hK=>?_)|apply au ?_|apply zdm ?_|apply am ?_)
 .refine bh rfl bm bo ?_;simp only[dS];refine a9 ?_ (zkd I.sym I.plan s A L _);rintro v _ ⟨⟨n,rfl,F⟩,rfl⟩;dsimp only[zdE];have j:=@yE;have m:=@yF;repeat' (first
   |(apply zdk ?_;clear hK K)|apply Rx.o ?_|apply bp ?_|(apply aS (fun z V=>?_) (fun z V=>?_)<;>try(cases z;done))|apply ak ?_|(apply zdl fun K hK=>?_)|apply au ?_|apply zdm ?_|apply am ?_)
  .refine⟨eI,_,(by(try simp only[zdy,zdJ,Nat.reduceBEq,Nat.reduceAdd,Nat.reduceLeDiff,tyF,ze0,zfa,tg, *]);first|done|with_reducible rfl),?_⟩;try simp only[zdn]
   exact⟨⟨⟨0,[],0⟩,2,rfl,rfl,aB,fun Z=>ac⟩,rB _ _ _⟩
  .refine⟨eI,_,(by(try simp only[zdy,zdJ,Nat.reduceBEq,Nat.reduceAdd,Nat.reduceLeDiff,tyF,ze0,zfa,tg, *]);first|done|with_reducible rfl),?_⟩;try simp only[zdn]
   refine⟨⟨⟨3,s.take n,0⟩,0,rfl,rfl,fun _=>⟨n,ac,F,rfl,aB⟩,fun Z=>ac⟩,rB _ _ _⟩
 .refine bh rfl bm bo ?_;simp only[dS];refine a9 ?_ (Cu I.dig s[0].toNat _);rintro v _ ⟨rfl,rfl⟩;dsimp only[zdE];have C:=AE (P:=Tryz.prog) (k:=.i64) (s:=s) Tryz.underlying9 U;have j:=@yE;have m:=@yF;repeat' (first
   |(apply zdk ?_;clear hK K)|apply Rx.o ?_|apply bp ?_|(apply aS (fun z V=>?_) (fun z V=>?_)<;>try(cases z;done))|apply ak ?_|(apply zdl fun K hK=>?_)|apply au ?_|apply zdm ?_|apply am ?_)
  .have O:s.take (zeR s)≠[]:=by
    intro h;have:=kL List.length h;rw[iX,Nat.min_eq_left U,jF]at this;omega
   refine bh rfl bm bo ?_;simp only[dS];refine a9 ?_ (zia I.num I.dig (s.take (zeR s)) O rV _);rintro v _ ⟨⟨ok,rfl⟩,rfl⟩;dsimp only[zdE];have j:=@yE;have m:=@yF;repeat' (first
    |(apply zdk ?_;clear hK K)|apply Rx.o ?_|apply bp ?_|(apply aS (fun z V=>?_) (fun z V=>?_)<;>try(cases z;done))|apply ak ?_|(apply zdl fun K hK=>?_)|apply au ?_|apply zdm ?_|apply am ?_)
   .refine⟨eI,_,(by(try simp only[zdy,zdJ,Nat.reduceBEq,Nat.reduceAdd,Nat.reduceLeDiff,tyF,ze0,zfa,tg, *]);first|done|with_reducible rfl),?_⟩;try simp only[zdn]
    refine⟨⟨⟨0,[],0⟩,2,rfl,rfl,aB,fun Z g o=>?_⟩,rB _ _ _⟩;have:=o _ Y;simp_all
   .refine⟨eI,_,(by(try simp only[zdy,zdJ,Nat.reduceBEq,Nat.reduceAdd,Nat.reduceLeDiff,tyF,ze0,zfa,tg, *]);first|done|with_reducible rfl),?_⟩;try simp only[zdn]
    refine⟨⟨⟨2,s.take (zeR s),0⟩,0,rfl,rfl,fun _=>⟨zeR s,ac,U,rfl,aB⟩,fun Z g o=>?_⟩,rB _ _ _⟩;have:=o _ Y;simp_all
  .refine⟨eI,_,(by(try simp only[zdy,zdJ,Nat.reduceBEq,Nat.reduceAdd,Nat.reduceLeDiff,tyF,ze0,zfa,tg, *]);first|done|with_reducible rfl),?_⟩;try simp only[zdn]
   exact⟨⟨⟨0,[],0⟩,6,rfl,rfl,aB,fun Z g=>ac⟩,rB _ _ _⟩
  .refine⟨eI,_,(by(try simp only[zdy,zdJ,Nat.reduceBEq,Nat.reduceAdd,Nat.reduceLeDiff,tyF,ze0,zfa,tg, *]);first|done|with_reducible rfl),?_⟩;try simp only[zdn]
   refine⟨⟨⟨1,s.take (zeR s),0⟩,0,rfl,rfl,fun _=>⟨zeR s,ac,U,rfl,fun _=>⟨rfl,ac,fun b z=>?_⟩⟩,fun _ _ _=>⟨rfl,rfl⟩⟩,rB _ _ _⟩;rw[Y]at z;simp only[aA]at z;subst z;assumption
end
section
def tyW4i.tyF:=ad @b9 (ad @dA (ad @sw (ad @AY (ad @A3 (@xt)))))
open tyW4i
theorem Jm(a b:Int):zeI Tryz.prog 86 [(0,.int .i64 a),(1,.int .i64 b)]=some (.agg [.int .i64 a,.int .i64 b]):=af
theorem Jn:zeI Tryz.prog 86 []=some (.agg [.int .i64 0,.int .i64 0]):=af
theorem Cv(a b:AV):zd7 2 [a,b]=some (.agg [a,b]):=rfl
theorem zam(k:Tk)(x:Int):List.take 2 k.cells++[.int .i64 x]++List.drop 3 k.cells=(Tk.mk k.kind k.text x).cells:=rfl
theorem zan(H:Hp)(k:Tk):zeP Tryz.prog H 137 1 [(0,.agg k.cells)]=some (.sl H.next 0 1 3,H.alloc (.cells k.cells 0 true)):=af
theorem znv{zd3 H:Hp}{V:AV}{K:List Tk}(m:sF zd3.next H V K)(L:FrB 0 zd3 H)(Y:zd3.next<H.next)(k:Tk){A:Nat}(C:H.get A=some (.cells k.cells 0 true))(i:K.length<2^40):
 ∃I,zeV Tryz.prog false H 137 137 V (.sl A 0 1 3)=some (.sl H.next 0 (K.length+1) 3,I)/\I.next=H.next+1/\sF zd3.next I (.sl H.next 0 (K.length+1) 3) (K++[k])/\FrB 0 zd3 I/\∀j,j<H.next->V≠.sl j 0 K.length 3->I.get j=H.get j:=by
 have Z:zfk H 3 (.sl A 0 1 3)=some (0+1,k.cells):=by
  have:=mn (H:=H) (r:=A) (o:=0) (n:=1) (z:=3) (s:=3) C (by rw[dY,iX,Tk.clen];rfl);rw[this,dY,eJ (by rw[Tk.clen];omega)]
 have M:zeL=70368744177664:=rfl;rcases m with⟨rfl,rfl⟩|⟨r,rfl,F,g,q4,q5⟩
 .refine⟨H.alloc (.cells k.cells 0 true),?_,rfl,.inr ⟨H.next,aB,?_,Y,cP _,aB⟩,L.alloc _,fun j J _=>?_⟩
  .exact append_nil Tryz.underlying137 xr A5 A6 af Z k.one rfl jE jE
  .rw[zdq,az rfl];simp
  .rw[zdq,ai ac]
 .refine⟨(H.kill r).alloc (.cells (K.flatMap Tk.cells++k.cells) 0 true),?_,rfl,.inr ⟨H.next,aB,?_,Y,cP _,aB⟩,(L.kill ac).alloc _,fun j J U=>?_⟩
  .exact AF Tryz.underlying137 xr A5 A6 af Z k.one rfl F (Ga K) jE jE
  .show((H.kill r).alloc _).get (H.kill r).next=_
   rw[zdq,az rfl];simp
  .have O:¬j=r:=fun e=>U lB;rw[zdq,ai lL,zff,ai O]
def ztA(s:List UInt8)(H:Hp)(v:AV)(H':Hp):Prop:=
 ∃(Y V:Int) (lv:AV),v=.tup [lv,.agg [.int .i64 Y,.int .i64 V]]/\FrB 0 H H'/\((Y≠0/\¬po s)\/(Y=0/\∃ts,sF H.next H' lv ts/\xD s ts/\(po s->ts=[⟨1,s,0⟩])))
theorem zxV{cfg:Cfg}(hx:Lexers cfg)(s:List UInt8)(hs:s.length<2^60)(H:Hp):zdw Tryz.prog cfg 170 [.str s] H (ztA s H):=by
 have hw:=hx.scan;refine zdv (M:=49) (rs:=[.tmp 2,.cell 3 86]) (hw.call _) hw.ice hw.froz Tryz.func170 rfl rfl Jl.2 rfl ?_;dsimp only[Jl,zds,Nat.reduceAdd];have gh0:=@Jm;have gh1:=@Jn;repeat' (first
  |(apply zdk ?_;clear hK K)|apply Rx.o ?_|apply bp ?_|(apply aS (fun z Z=>?_) (fun z Z=>?_)<;>try(cases z;done))|apply ak ?_|(apply zdl fun K hK=>?_)|apply zdm ?_|apply am ?_|fail)
 .refine⟨eI,_,(by(try simp only[zdy,zdJ,Nat.reduceBEq,tyF,ze0,zfa,Cv, *]);first|done|with_reducible rfl),?_⟩;try simp only[zdn]
  refine⟨6,20000,.nilS,rfl,rB _ _ _,.inl ⟨aB,fun h=>?_⟩⟩;have:=h.2.2.1;omega
 .refine bh rfl bm bo ?_;simp only[bJ];refine a9 ?_ (Ji hx.space s hs _);rintro v _ ⟨rfl,rfl⟩;dsimp only[zdE];repeat' (first
   |(apply zdk ?_;clear hK K)|apply Rx.o ?_|apply au ?_|fail)
  have hsp:=sE false s;refine qj (fun n E I=>∃(V:Nat) (ts:List Tk) (lv:AV),n=s.length-V/\V<=s.length/\E.at 0=.str s/\E.at 3=.ptr H.next 0/\E.at 4=lv/\E.at 5=.int .i64 V/\FrB 0 H I/\H.next<I.next /\
   I.get H.next=some (.cells [.int .i64 0,.int .i64 0] 0 true)/\sF H.next I lv ts/\ts.length<=V/\xD s ts/\(ts=[]->V=zeS false s)/\(po s->(ts=[]/\V=0)\/(ts=[⟨1,s,0⟩]/\V=s.length))) ?_ (n:=s.length-zeS false s) ?_
  .rintro n E I ⟨V,ts,lv,rfl,ha,h0,h3,h4,h5,F,hn2,hg2,L,htl,g,C,o⟩;have e1:(H.next == I.next)=false:=cf;repeat' (first
    |(apply zdk ?_;clear hK K)|apply Rx.o ?_|apply bp ?_|(apply aS (fun z Z=>?_) (fun z Z=>?_)<;>try(cases z;done))|apply ak ?_|(apply zdl fun K hK=>?_)|apply au ?_|apply zdm ?_|apply am ?_|apply zdr ?_)
   .have hlt:V<s.length:=by omega
    have hslo:=EJ (P:=Tryz.prog) (k:=.i64) (s:=s) (m:=V) Tryz.underlying9 ha;repeat' (first
     |apply Rx.o ?_|fail)
    have hne:s.drop V≠[]:=by
     intro h;have:=kL List.length h;rw[iD,jF]at this;omega
    refine bh rfl bm bo ?_;simp only[bJ];refine a9 ?_ (ztz hx (s.drop V) hne wG I);rintro v J ⟨⟨k,e,rfl,hk⟩,Y⟩;have hn3:=Y.next
    have hg3:J.get H.next=some (.cells [.int .i64 0,.int .i64 0] 0 true):=by rw[Y.get _ (cG _) hn2];exact hg2
    have i:sF H.next J lv ts:=by
     rcases L with h|⟨r,q1,q2,q3,q4,q5⟩
     .exact .inl h
     .exact .inr ⟨r,q1,by rw[Y.get _ (cG _) q4];exact q2,q3,ac,q5⟩
    have e2:(H.next == J.next)=false:=cf;dsimp only[zdE];have hx1:Ab.extract (.tup [.agg k.cells,.int .i64 e]) 0=some (.agg k.cells):=rfl;have hx2:Ab.extract (.tup [.agg k.cells,.int .i64 e]) 1=some (.int .i64 e):=rfl;have gh0:=@Jm;repeat' (first
     |(apply zdk ?_;clear hK K)|apply Rx.o ?_|apply bp ?_|(apply aS (fun z Z=>?_) (fun z Z=>?_)<;>try(cases z;done))|apply ak ?_|(apply zdl fun K hK=>?_)|apply zdm ?_|apply am ?_|fail)
    .have he:e≠0:=by simpa using z
     refine⟨eI,_,(by(try simp only[zdy,zdJ,Nat.reduceBEq,tyF,ze0,zfa,Cv, *]);first|done|with_reducible rfl),?_⟩;try simp only[zdn]
     refine⟨e,V,.nilS,rfl,?_,.inl ⟨he,fun h=>?_⟩⟩
     .exact((((F.trans Y).alloc _).set (.inl ac) _).set (.inl (aM _)) _)
     .rcases o h with⟨_,q⟩|⟨_,q⟩
      .subst q;exact he (hk.2.2 h.1 I0 h.2.2.2).1
      .omega
    .have he:e=0:=by simpa using z
     have gh0:=@zam;have gh1:=@zan;repeat' (first
      |apply Rx.o ?_|fail)
     generalize A:Tk.mk k.kind k.text (V:Int)=k';generalize U:Hp.alloc _ (HB.cells (Tk.cells k') 0 true)=H5;have hn5:H5.next=J.next+2:=by rw[<-U];rfl
     have hg5:H5.get (J.next+1)=some (.cells k'.cells 0 true):=by rw[<-U];simp only[get_set,r7,zdA,zdQ,Aw,Cs,gk,pd]
     have hg5a:H5.get J.next=some (.cells k'.cells 0 true):=by rw[<-U];simp only[get_set,r7,zdA,zdQ,Av,Cs,gk,pd]
     have hf5:FrB 0 J H5:=by rw[<-U];exact(((gg _ _).alloc _).set (.inl (aM _)) _).set (.inl (aM _)) _ |>.alloc _
     have hF5:FrB 0 H H5:=(F.trans Y).trans hf5;have hrep5:sF H.next H5 lv ts:=by
      rcases i with h|⟨r,q1,q2,q3,q4,q5⟩
      .exact .inl h
      .exact .inr ⟨r,q1,by rw[hf5.get _ (cG _) q4];exact q2,q3,ac,q5⟩
     obtain⟨H6,p1,p2,p3,p4,p5⟩:=znv hrep5 hF5 ac k' hg5 ac;have hkeep:=hx.keep;have hg6:H6.get H.next=some (.cells [.int .i64 0,.int .i64 0] 0 true):=by
      rw[p5 _ ac (fun e=>by rcases i with⟨_,q⟩|⟨r,q1,_,q3,_⟩<;>simp_all),hf5.get _ (cG _) ac];exact hg3
     have hg6a:H6.get J.next=some (.cells k'.cells 0 true):=by
      rw[p5 _ ac (fun e=>by rcases i with⟨_,q⟩|⟨r,q1,_,q3,q4,_⟩<;>simp_all)];exact hg5a
     obtain⟨n,hn1,hn2',j,hkk⟩:=hk.2.1 he;rw[iD]at hn2';have hktl:k'.text.length=n:=by rw[<-A];show k.text.length=n;rw[j,iX,iD];omega
     have hwr:IntKind.wrap .i64 ((V:Int)+(n:Int))=((V+n:Nat):Int):=by rw[qa _ ac];omega
     have hslo2:=EJ (P:=Tryz.prog) (k:=.i64) (s:=s) (m:=V+n) Tryz.underlying9 ac;refine od zeM zeM (by rw[hkeep];exact p1) ?_;repeat' (first
      |(apply zdk ?_;clear hK K)|apply Rx.o ?_|(apply zdl fun K hK=>?_)|fail)
     refine bh rfl bm bo ?_;simp only[bJ];refine a9 ?_ (Ji hx.space (s.drop (V+n)) wG _);rintro v _ ⟨rfl,rfl⟩;dsimp only[zdE];have hsp2:=sE false (s.drop (V+n));rw[iD]at hsp2;have hwr2:IntKind.wrap .i64 (((V+n:Nat):Int)+(zeS false (s.drop (V+n)):Int))=((V+n+zeS false (s.drop (V+n)):Nat):Int):=by rw[qa _ ac];omega
     repeat' (first
      |(apply zdk ?_;clear hK K)|apply Rx.o ?_|fail)
     refine⟨s.length-(V+n+zeS false (s.drop (V+n))),ac,V+n+zeS false (s.drop (V+n)),ts++[k'],.sl H5.next 0 (ts.length+1) 3,rfl,ac,eE,eE,eE,(by first|(simp only[zdy,Nat.reduceBEq,io, *];done)|rfl),p4,ac,hg6,p3,cf,fun t rest hr=>?_,aB,fun h=>.inr ?_⟩
     .cases ts with
      |nil=>
       simp only[lX,cR]at hr;obtain⟨rfl,_⟩:=hr;rw[<-C rfl];exact⟨k,by rw[<-he];exact hk,by rw[<-A],by rw[<-A]⟩
      |cons t0 ts=>
       simp only[ot,cR]at hr;obtain⟨rfl,_⟩:=hr;exact g _ _ rfl
     .rcases o h with⟨rfl,q⟩|⟨_,q⟩
      .subst q;have O:=(hk.2.2 h.1 I0 h.2.2.2).2;simp only[dY]at O j;have hwn:zeR s=s.length:=h.2.1;rw[hwn,t3]at O;have hns:n=s.length:=by
        have:=kL List.length j;rw[O,iX]at this;have h3:s.length=min n s.length:=this;omega
       have hkk2:k'=⟨1,s,0⟩:=by rw[<-A,O];rfl
       refine⟨by rw[hkk2];rfl,?_⟩;rw[hns];simp[zeS]
      .omega
   .have hat:V=s.length:=by omega
    have gh0:=@Jn;repeat' (first
     |(apply zdk ?_;clear hK K)|fail)
    refine⟨eI,_,(by(try simp only[zdy,zdJ,Nat.reduceBEq,tyF,ze0,zfa,Cv, *]);first|done|with_reducible rfl),?_⟩;try simp only[zdn]
    refine⟨0,0,lv,rfl,F.set (.inl (aM _)) _,.inr ⟨rfl,ts,?_,g,fun h=>?_⟩⟩
    .rcases L with h|⟨r,q1,q2,q3,q4,q5⟩
     .exact .inl h
     .exact .inr ⟨r,q1,by rw[aW,ai ac];exact q2,q3,q4,q5⟩
    .rcases o h with⟨_,q⟩|⟨q,_⟩
     .have:=h.1;have:=h.2.1;omega
     .exact q
  .refine⟨zeS false s,[],.nilS,rfl,hsp,eE,eE,eE,eE,(gg _ _).alloc _,el,zgk,.inl ⟨rfl,rfl⟩,aB,by simp[xD],fun _=>rfl,fun h=>.inl ⟨rfl,Xe h⟩⟩
end
section
def tyW4j.tyF:=ad @b9 (ad @dA (ad @sw (ad @AY (ad @A3 (ad @xt (ad @ko (ad @List.flatMap_cons.{0,0} (ad @List.flatMap_nil.{0,0} (@tZ)))))))))
open tyW4j
noncomputable def Jo:{c:SC // aC 44 (Tryz.f127.body.getD .skip)=c}:=by
 refine⟨?_,?_⟩;rotate_left
 .simp only[Tryz.f127,a5,aC,zdG,zdD,zdH,zdI,Nat.blt,Nat.ble];rfl
noncomputable def Jp:{c:SC // aC 15 (Tryz.f128.body.getD .skip)=c}:=by
 refine⟨?_,?_⟩;rotate_left
 .simp only[Tryz.f128,a5,aC,zdG,zdD,zdH,zdI,Nat.blt,Nat.ble];rfl
theorem Cw{cfg:Cfg}(hx:Lexers cfg)(o:Plain cfg 127)(s:List UInt8)(hs:s.length<2^60)(H:Hp):
 zdw Tryz.prog cfg 127 [.str s] H fun v H'=>v=.bool (zd8 s)/\FrB 0 H H':=by
 refine zdv (M:=44) (rs:=[.tmp 2]) (o.call _) o.ice o.froz Tryz.func127 rfl rfl Jo.2 rfl ?_;dsimp only[Jo,zds,Nat.reduceAdd];repeat' (first
  |(apply zdk ?_;clear hK K)|apply Rx.o ?_|apply bp ?_|(apply bZ (fun C L=>?_) (fun C L=>?_)<;>try(cases C;done))|(apply aS (fun z V=>?_) (fun z V=>?_)<;>try(cases z;done))|apply ak ?_|(apply zdl fun K hK=>?_)|apply au ?_|apply zdm ?_|apply am ?_)
 refine bh rfl bm bo ?_;simp only[dS];refine a9 ?_ (zxV hx s hs H);rintro v j ⟨Y,U,lv,rfl,F,I⟩;have i:Ab.extract (.tup [lv,.agg [.int .i64 Y,.int .i64 U]]) 0=some lv:=rfl;have hx2:Ab.extract (.tup [lv,.agg [.int .i64 Y,.int .i64 U]]) 1=some (.agg [.int .i64 Y,.int .i64 U]):=rfl;dsimp only[zdE];have m:FrB 0 H ((j.alloc (.cells [.int .i64 0,.int .i64 0] 0 true)).set j.next (.cells [.int .i64 Y,.int .i64 U] 0 true)):=(F.alloc _).set (.inl F.next) _;rcases I with⟨h1,h2⟩|⟨rfl,ts,A,g,O⟩
 .have Z:je s=false:=by
   cases z:je s with
   |false=>rfl
   |true=>exact(h2 ((xE s).1 z)).elim
  repeat' (first
   |(apply zdk ?_;clear hK K)|apply Rx.o ?_|apply bp ?_|(apply bZ (fun C L=>?_) (fun C L=>?_)<;>try(cases C;done))|(apply aS (fun z V=>?_) (fun z V=>?_)<;>try(cases z;done))|apply ak ?_|(apply zdl fun K hK=>?_)|apply au ?_|apply zdm ?_|apply am ?_)
  all_goals (refine⟨eI,_,eR,?_⟩;try simp only[zdn])
  exact⟨Cr,m⟩
 .rcases A with⟨rfl,rfl⟩|⟨r,rfl,q2,q3,q4,q5⟩
  .have Z:je s=false:=by
    cases z:je s with
    |false=>rfl
    |true=>have:=O ((xE s).1 z);simp at this
   repeat' (first
    |(apply zdk ?_;clear hK K)|apply Rx.o ?_|apply bp ?_|(apply bZ (fun C L=>?_) (fun C L=>?_)<;>try(cases C;done))|(apply aS (fun z V=>?_) (fun z V=>?_)<;>try(cases z;done))|apply ak ?_|(apply zdl fun K hK=>?_)|apply au ?_|apply zdm ?_|apply am ?_)
   all_goals (refine⟨eI,_,eR,?_⟩;try simp only[zdn])
   exact⟨Cr,m⟩
  .have e1:(r == j.next)=false:=by simp;omega
   by_cases hl:ts.length=1
   .obtain⟨k,rfl⟩:=List.length_eq_one_iff.1 hl;simp only[pm,Cd,bJ]at q2;simp only[dq,jF,bC]at i hx2⊢;have J:po s↔(k.kind=1/\k.text=s):=⟨fun h=>by have:=O h;simp only[cR,aX]at this;rw[this];exact⟨rfl,rfl⟩,fun h=>Xf g h.1 h.2⟩;have Z:je s=(decide (k.kind=1)&&decide (k.text=s)):=by
     rw[rP,xE,J];simp
    clear J O g;have hidx:zdV Tryz.prog 137 (.sl r 0 1 3) (.int .i64 0)=some (.ptr r 0):=af;repeat' (first
     |(apply zdk ?_;clear hK K)|apply Ry.o ?_|apply b4 ?_|(apply a2 (fun C L=>?_) (fun C L=>?_)<;>try(cases C;done))|(apply aD (fun z V=>?_) (fun z V=>?_)<;>try(cases z;done))|apply ak ?_|(apply zdl fun K hK=>?_)|apply au ?_|apply zdm ?_|apply am ?_)
    all_goals (refine⟨eI,_,eR,?_⟩;try simp only[zdn])
    all_goals (refine⟨?_,m⟩;simp only[zd8,Z,pp];simp_all)
   .have Z:je s=false:=by
     cases z:je s with
     |false=>rfl
     |true=>have:=O ((xE s).1 z);rw[this]at hl;simp at hl
    have hl2:decide ((ts.length:Int)=1)=false:=cf;repeat' (first
     |(apply zdk ?_;clear hK K)|apply Rx.o ?_|apply bp ?_|(apply bZ (fun C L=>?_) (fun C L=>?_)<;>try(cases C;done))|(apply aS (fun z V=>?_) (fun z V=>?_)<;>try(cases z;done))|apply ak ?_|(apply zdl fun K hK=>?_)|apply au ?_|apply zdm ?_|apply am ?_)
    all_goals (refine⟨eI,_,eR,?_⟩;try simp only[zdn])
    exact⟨Cr,m⟩
end
section
def tyW4k.tyF:=ad @b9 (ad @dA (ad @ko (ad @cN (ad @iN (@gF)))))
open tyW4k
noncomputable def Jq:{c:SC // aC 23 (Tryz.f171.body.getD .skip)=c}:=by
 refine⟨?_,?_⟩;rotate_left
 .simp only[Tryz.f171,a5,aC,zdG,zdD,zdH,zdI,Nat.blt,Nat.ble];rfl
noncomputable def Jr:{c:SC // aC 27 (Tryz.f197.body.getD .skip)=c}:=by
 refine⟨?_,?_⟩;rotate_left
 .simp only[Tryz.f197,a5,aC,zdG,zdD,zdH,zdI,Nat.blt,Nat.ble];rfl
noncomputable def yG:{c:SC // aC 10 (Tryz.f173.body.getD .skip)=c}:=by
 refine⟨?_,?_⟩;rotate_left
 .simp only[Tryz.f173,a5,aC,zdG,zdD,zdH,zdI,Nat.blt,Nat.ble];rfl
def pK(k V:Int):Bool:=if k=20\/k=21 then decide (V=1)else decide (4<=k)&&decide (k<=18)&&decide (V=2)
theorem znw{cfg:Cfg}(J:Plain cfg 171)(k V:Int)(H:Hp):
 zdw Tryz.prog cfg 171 [.int .i64 k,.int .i64 V] H fun v H'=>v=.bool (pK k V)/\H'=H:=by
 refine zdv (M:=23) (rs:=[.tmp 4]) (J.call _) J.ice J.froz Tryz.func171 rfl rfl Jq.2 rfl ?_;dsimp only[Jq,zds,Nat.reduceAdd];repeat' (first
  |(apply zdk ?_;clear hK K)|apply Rx.o ?_|(apply bZ (fun C L=>?_) (fun C L=>?_)<;>try(cases C;done))|(apply aS (fun z Z=>?_) (fun z Z=>?_)<;>try(cases z;done))|apply ak ?_|(apply zdl fun K hK=>?_)|apply zdm ?_|apply am ?_)
 all_goals
  all_goals (refine⟨eI,_,eR,?_⟩;try simp only[zdn])
 all_goals (refine⟨?_,iT⟩;simp_all[pK]<;>omega)
theorem zpZ{cfg:Cfg}(J:Plain cfg 197)(x:Ex)(H:Hp):
 zdw Tryz.prog cfg 197 [.agg x.cells] H fun v H'=>v=.bool (zeroE x)/\FrB 0 H H':=by
 refine zdv (M:=27) (rs:=[.tmp 2]) (J.call _) J.ice J.froz Tryz.func197 rfl rfl Jr.2 rfl ?_;dsimp only[Jr,zds,Nat.reduceAdd];repeat' (first
  |(apply zdk ?_;clear hK K)|apply Rx.o ?_|(apply bZ (fun C L=>?_) (fun C L=>?_)<;>try(cases C;done))|apply ak ?_|(apply zdl fun K hK=>?_)|apply am ?_)
 all_goals
  all_goals (refine⟨eI,_,eR,?_⟩;try simp only[zdn])
 all_goals (refine⟨?_,(gg _ _).alloc _⟩;simp_all[zeroE])
def kD(s:List UInt8)(z:Bool):Bool:=if z then zd8 s else decide (s=[])
theorem zke{cfg:Cfg}(I:Lexers cfg)(L:Plain cfg 127)(J:Plain cfg 173)(s:List UInt8)(z:Bool)(Y:s.length<2^60)(H:Hp):
 zdw Tryz.prog cfg 173 [.str s,.bool z] H fun v H'=>v=.bool (kD s z)/\FrB 0 H H':=by
 cases z
 .refine zdv (M:=10) (rs:=[.tmp 4]) (J.call _) J.ice J.froz Tryz.func173 rfl rfl yG.2 rfl ?_;dsimp only[yG,zds,Nat.reduceAdd];repeat' (first
   |(apply zdk ?_;clear hK K)|apply Rx.o ?_|(apply aS (fun Z V=>?_) (fun Z V=>?_)<;>try(cases Z;done))|apply ak ?_|(apply zdl fun K hK=>?_)|apply zdm ?_|apply am ?_)
  all_goals (refine⟨eI,_,eR,?_⟩;try simp only[zdn])
  exact⟨by simp[kD],gg _ _⟩
 .refine zdv (M:=10) (rs:=[.tmp 4]) (J.call _) J.ice J.froz Tryz.func173 rfl rfl yG.2 rfl ?_;dsimp only[yG,zds,Nat.reduceAdd];repeat' (first
   |(apply zdk ?_;clear hK K)|apply Rx.o ?_|(apply aS (fun Z V=>?_) (fun Z V=>?_)<;>try(cases Z;done))|apply ak ?_|(apply zdl fun K hK=>?_)|apply zdm ?_|apply am ?_)
  refine bh rfl bm bo ?_;simp only[dS];refine a9 ?_ (Cw I L s Y H);rintro v g ⟨rfl,F⟩;dsimp only[zdE];repeat' (first
   |(apply zdk ?_;clear hK K)|apply Rx.o ?_|(apply aS (fun Z V=>?_) (fun Z V=>?_)<;>try(cases Z;done))|apply ak ?_|(apply zdl fun K hK=>?_)|apply zdm ?_|apply am ?_)
  all_goals (refine⟨eI,_,eR,?_⟩;try simp only[zdn])
  exact⟨by simp[kD],F⟩
theorem ziD{cfg:Cfg}(I:Lexers cfg)(Z:Plain cfg 127)(J:Plain cfg 128)(l:List (List UInt8))(A:zfg l<2^60)(H:Hp):
 zdw Tryz.prog cfg 128 [zeE l] H fun v H'=>v=.bool (l.all zd8)/\FrB 0 H H':=by
 have hl:l.length<2^60:=by have:=sc l;omega
 refine zdv (M:=15) (rs:=[.tmp 2]) (J.call _) J.ice J.froz Tryz.func128 rfl rfl Jp.2 rfl ?_;dsimp only[Jp,zds,Nat.reduceAdd];repeat' (first
  |(apply zdk ?_;clear hK K)|apply Rx.o ?_|(apply aS (fun z V=>?_) (fun z V=>?_)<;>try(cases z;done))|apply ak ?_|(apply zdl fun K hK=>?_)|apply au ?_|apply zdm ?_|apply am ?_|apply zdr ?_)
 refine mh (fun i E g=>l.all zd8=(l.drop i).all zd8/\E.at 5=.lst (l.map fun s=>[.str s])/\E.at 6=.int .i64 l.length/\E.at 7=.int .i64 i/\FrB 0 H g) l.length ?_ ?_
 .rintro i E g Y ⟨hc,j,h6,h7,F⟩;repeat' (first
   |(apply zdk ?_;clear hK K)|apply Rx.o ?_|(apply aS (fun z V=>?_) (fun z V=>?_)<;>try(cases z;done))|apply ak ?_|(apply zdl fun K hK=>?_)|apply au ?_|apply zdm ?_|apply am ?_|apply zdr ?_)
  .have o:i<l.length:=by simpa using z
   have U:l[i]?=some l[i]:=aR o;have C:=EF (dr o);have O:(l.drop i).all zd8=(zd8 l[i]&&(l.drop (i+1)).all zd8):=vq;repeat' (first
    |(apply zdk ?_;clear hK K)|apply Rx.o ?_|(apply aS (fun z V=>?_) (fun z V=>?_)<;>try(cases z;done))|apply ak ?_|(apply zdl fun K hK=>?_)|apply au ?_|apply zdm ?_|apply am ?_|apply zdr ?_)
   refine bh rfl bm bo ?_;simp only[dS];refine a9 ?_ (Cw I Z l[i] ac g);rintro v H3 ⟨rfl,m⟩;dsimp only[zdE];repeat' (first
    |(apply zdk ?_;clear hK K)|apply Rx.o ?_|(apply aS (fun z V=>?_) (fun z V=>?_)<;>try(cases z;done))|apply ak ?_|(apply zdl fun K hK=>?_)|apply au ?_|apply zdm ?_|apply am ?_|apply zdr ?_)
   .all_goals (refine⟨eI,_,eR,?_⟩;try simp only[zdn])
    exact⟨by rw[hc,O];simp_all,F.trans m⟩
   .refine⟨o,by rw[hc,O];simp_all,eE,eE,?_,F.trans m⟩;simp only[gU,Nat.reduceBEq,gk,zfD (show i<2^62 by omega)]
  .all_goals (refine⟨eI,_,eR,?_⟩;try simp only[zdn])
   have L:i=l.length:=vh;exact⟨by rw[hc,L];simp,F⟩
 .exact⟨aB,eE,eE,eE,gg _ _⟩
end
section
def tyP4a.tyF:=ad @cN (ad @b9 (ad @dA (ad @iN (ad @gF (ad @lI (@FH))))))
open tyP4a
noncomputable def Js:{c:SC // aC 27 (Tryz.f172.body.getD .skip)=c}:=by
 refine⟨?_,?_⟩;rotate_left
 .simp only[Tryz.f172,a5,aC,zdG,zdD,zdH,zdI,Nat.blt,Nat.ble];rfl
noncomputable def Jt:{c:SC // aC 87 (Tryz.f130.body.getD .skip)=c}:=by
 refine⟨?_,?_⟩;rotate_left
 .simp only[Tryz.f130,a5,aC,zdG,zdD,zdH,zdI,Nat.blt,Nat.ble];rfl
noncomputable def yH:{c:SC // aC 10 (Tryz.f174.body.getD .skip)=c}:=by
 refine⟨?_,?_⟩;rotate_left
 .simp only[Tryz.f174,a5,aC,zdG,zdD,zdH,zdI,Nat.blt,Nat.ble];rfl
theorem zx2{l:List En}(h:∀f,f∈[209,206,204,195,207,205,196,170]->(∀args,zem l f args=none)/\ir l f=false):Lexers (zdp pls l) where
 let_:=zej (h _ aB).1 (h _ aB).2
 dig:=zej (h _ aB).1 (h _ aB).2
 word:=zej (h _ aB).1 (h _ aB).2
 space:=zej (h _ aB).1 (h _ aB).2
 num:=zej (h _ aB).1 (h _ aB).2
 sym:=zej (h _ aB).1 (h _ aB).2
 first:=zej (h _ aB).1 (h _ aB).2
 scan:=zej (h _ aB).1 (h _ aB).2
 plan _:=by first|rfl|kernel_rfl
 keep:=rfl
theorem Cy:Lexers (zdp pls []):=zx2 fun f _=>⟨fun _=>rfl,rfl⟩
theorem znx(ρ:Nat->Int)(s:List UInt8)(K:s.length<2^60):bc Tryz.prog ρ 127 [.str s] (.bool (zd8 s)):=
 zer fit (pls:=pls) (l:=[]) trivial (.cons (.str _) .nil) (.bool _) (a9 (fun v H h=>h.1) (Cw Cy (yl _) s K zd3))
theorem zx3(ρ:Nat->Int)(x:Int×Nat):bc Tryz.prog ρ 171 [.int .i64 x.1,.int .i64 x.2] (.bool (pK x.1 x.2)):=
 zer fit (pls:=pls) (l:=[]) trivial (.cons (.int _ _) (.cons (.int _ _) .nil)) (.bool _) (a9 (fun v H h=>h.1) (znw (yl _) x.1 x.2 zd3))
theorem zp0(ρ:Nat->Int)(x:Ex):bc Tryz.prog ρ 197 [.agg x.cells] (.bool (zeroE x)):=
 zer fit (pls:=pls) (l:=[]) trivial (.cons (.agg x.pure) .nil) (.bool _) (a9 (fun v H h=>h.1) (zpZ (yl _) x zd3))
theorem zny(ρ:Nat->Int)(l:List (List UInt8))(F:zfg l<2^60):bc Tryz.prog ρ 128 [zeE l] (.bool (l.all zd8)):=
 zer fit (pls:=pls) (l:=[]) trivial (.cons (uN _) .nil) (.bool _) (a9 (fun v H h=>h.1) (ziD Cy (yl _) (yl _) l F zd3))
theorem znz(ρ:Nat->Int)(s:List UInt8)(w:Bool)(K:s.length<2^60):bc Tryz.prog ρ 173 [.str s,.bool w] (.bool (kD s w)):=
 zer fit (pls:=pls) (l:=[]) trivial (.cons (.str _) (.cons (.bool _) .nil)) (.bool _) (a9 (fun v H h=>h.1) (zke Cy (yl _) (yl _) s w K zd3))
def rC(k:Int):List Bool:=
 if k=1 then [true,false,false,false,true,false,false,false]
 else if k=2 then [true,false,false,true,true,false,false,false]
 else if k=3 then [false,false,false,false,true,false,true,true]
 else if k=4 then [false,false,false,false,true,false,true,false]
 else if k=5 then [false,false,false,false,true,false,false,false]
 else if k=6 then [true,true,false,false,false,true,false,false]
 else if k=7 then [false,false,true,false,false,false,false,false]
 else [false,false,false,false,false,false,false,false]
def iU(k:Int):Bool:=decide (1<=k)&&decide (k<=7)
def th(k:Int):AV:=.tup [.agg ((rC k).map .bool),.bool (iU k)]
theorem zaB(a b c d e f g h:AV):zd7 8 [a,b,c,d,e,f,g,h]=some (.agg [a,b,c,d,e,f,g,h]):=rfl
theorem znB(ρ:Nat->Int)(k:Int):bc Tryz.prog ρ 172 [.int .i64 k] (th k):=zer fit (pls:=pls) (l:=[]) trivial (.cons (.int _ _) .nil) (.tup (.cons (.agg fun v L=>by
 obtain⟨b,_,rfl⟩:=l8.1 L;exact .bool b) (.cons (.bool _) .nil))) (by
 have J:=yl 172;have Z:zeI Tryz.prog 225 [(0,.bool true),(4,.bool true)]=some (.agg [.bool true,.bool false,.bool false,.bool false,.bool true,.bool false,.bool false,.bool false]):=af;have O:zeI Tryz.prog 225 [(0,.bool true),(3,.bool true),(4,.bool true)]=some (.agg [.bool true,.bool false,.bool false,.bool true,.bool true,.bool false,.bool false,.bool false]):=af;have g:zeI Tryz.prog 225 [(4,.bool true),(6,.bool true),(7,.bool true)]=some (.agg [.bool false,.bool false,.bool false,.bool false,.bool true,.bool false,.bool true,.bool true]):=af;have A:zeI Tryz.prog 225 [(4,.bool true),(6,.bool true)]=some (.agg [.bool false,.bool false,.bool false,.bool false,.bool true,.bool false,.bool true,.bool false]):=af;have j:zeI Tryz.prog 225 [(4,.bool true)]=some (.agg [.bool false,.bool false,.bool false,.bool false,.bool true,.bool false,.bool false,.bool false]):=af;have m:zeI Tryz.prog 225 [(0,.bool true),(1,.bool true),(5,.bool true)]=some (.agg [.bool true,.bool true,.bool false,.bool false,.bool false,.bool true,.bool false,.bool false]):=af;have o:zeI Tryz.prog 225 [(2,.bool true)]=some (.agg [.bool false,.bool false,.bool true,.bool false,.bool false,.bool false,.bool false,.bool false]):=af;have C:zeI Tryz.prog 225 []=some (.agg [.bool false,.bool false,.bool false,.bool false,.bool false,.bool false,.bool false,.bool false]):=af;refine zdv (M:=27) (rs:=[.cell 2 225,.tmp 3]) (J.call _) J.ice J.froz Tryz.func172 rfl rfl Js.2 rfl ?_;dsimp only[Js,zds,Nat.reduceAdd];repeat' (first
  |(apply zdk ?_;clear hK K)|apply Rx.o ?_|apply bp ?_|(apply aS (fun z V=>?_) (fun z V=>?_)<;>try(cases z;done))|apply ak ?_|(apply zdl fun K hK=>?_)|apply au ?_|apply zdm ?_|apply am ?_)
 all_goals
  refine⟨eI,_,(by(try simp only[zdy,zdJ,Nat.reduceBEq,Nat.reduceAdd,Nat.reduceLeDiff,tyF,ze0,zfa,zaB, *]);first|done|with_reducible rfl),?_⟩;try simp only[zdn]
 all_goals
  first
  |(simp_all[th,rC,iU];done)
  |(have Y:iU k=false:=by
     simp only[iU,pr,jN];omega
    simp_all[th,rC];done))
theorem zaD(k:Int)(n:Nat):pK k n=((decide ((n:Int)=2)&&Bm k)||(decide ((n:Int)=1)&&(decide (k=20)||decide (k=21)))):=by
 unfold pK Bm;by_cases h:k=20\/k=21
 .rw[az h];rcases h with rfl|rfl<;>simp
 .rw[ai h];have i:¬k=20:=fun e=>h (.inl e);have g:¬k=21:=fun e=>h (.inr e);simp only[i,g,gA,jO,pt];cases decide (4<=k)<;>cases decide (k<=18)<;>cases decide ((n:Int)=2)<;>rfl
noncomputable def vr:En:=⟨127,false,b7 (fun s=>s.length<2^60) kS fun s=>.bool (zd8 s)⟩
theorem Ju(ρ:Nat->Int):yO Tryz.prog ρ vr:=zei fun x I=>znx ρ x I
def vt(x:Int×Nat):List AV:=[.int .i64 x.1,.int .i64 x.2]
theorem zx4(x y:Int×Nat)(h:vt x=vt y):x=y:=by
 simp only[vt,cR,AV.int.injEq,aX,fR]at h;exact jQ h.1 ac
noncomputable def vu:En:=⟨171,false,b7 (fun _=>True) vt fun x=>.bool (pK x.1 x.2)⟩
theorem Jv(ρ:Nat->Int):yO Tryz.prog ρ vu:=zei fun x _=>zx3 ρ x
noncomputable def Jw:En:=⟨197,false,b7 (fun _=>True) uW fun x=>.bool (zeroE x)⟩
theorem zx5(ρ:Nat->Int):yO Tryz.prog ρ Jw:=zei fun x _=>zp0 ρ x
theorem ztB{l:List En}(U:∀C,zem l 127 C=vr.sp C)(O:∀C,zem l 171 C=vu.sp C)(Y:(∀C,zem l 130 C=none)/\ir l 130=false){base:Nat}{I:Hp->Prop}(i:pJ base I):
 td (zdp pls l) base I 130 [] fun x _=>sQ x:=by
 intro x d H hz o A;have J:Plain (zdp pls l) 130:=zej Y.1 Y.2;have j:∀s:List UInt8,s.length<2^60->∀H,zdw Tryz.prog (zdp pls l) 127 [.str s] H fun v H'=>v=.bool (zd8 s)/\H'=H:=fun s F H=>zeq (enc:=kS) (out:=fun x=>.bool (zd8 x)) sJ (x:=s) (U _) F;have m:∀(k:Int) (n:Nat),∀H,zdw Tryz.prog (zdp pls l) 171 [.int .i64 k,.int .i64 n] H fun v H'=>v=.bool (pK k n)/\H'=H:=fun k n H=>zeq (enc:=vt) (out:=fun x=>.bool (pK x.1 x.2)) zx4 (x:=(k,n)) (O _) trivial;have g:=x.sz_eq;refine zdv (M:=87) (rs:=[.tmp 4]) (J.call _) J.ice J.froz Tryz.func130 rfl rfl Jt.2 rfl ?_;dsimp only[Jt,zds,Nat.reduceAdd];repeat' (first
  |(apply zdk ?_;clear hK K)|apply Rx.o ?_|(apply iO ?_;first|refine Rx.k (j _ ac _) ?_|refine Rx.k (m _ _ _) ?_)|(apply bZ (fun Z L=>?_) (fun Z L=>?_)<;>try(cases Z;done))|(apply aS (fun z V=>?_) (fun z V=>?_)<;>try(cases z;done))|apply ak ?_|(apply zdl fun K hK=>?_)|apply au ?_|apply zdm ?_|apply am ?_)
 all_goals
  all_goals (refine⟨eI,_,eR,?_⟩;try simp only[zdn])
  refine⟨?_,(gg _ _).alloc _,i _ _ A ((ml _ _).alloc o _)⟩;rw[sQ];(try rw[zaD]);(try simp only[fl]at *);simp only[ *,kB,bT,cn,Int.reduceEq]
end
end Go.Proofs.YtljebeflbbgibaaGreat
