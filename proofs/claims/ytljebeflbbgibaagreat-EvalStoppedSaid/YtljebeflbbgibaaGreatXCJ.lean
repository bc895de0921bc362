/- Parts: EvD, EvE, EvF, SpecV, V2, V3, V4, EvG, EvH. -/
import Derived.Test.YtljebeflbbgibaaGreatXCI
set_option linter.unusedSimpArgs false
set_option linter.unusedVariables false
set_option linter.unusedSectionVars false
set_option linter.defProp false
set_option maxHeartbeats 32000000
namespace Go.Ab
set_option maxRecDepth 20000
open Go
theorem BS{P:Prop}(h:P:=by rw[<- hHb];exact Nat.le_refl _):P:=h
theorem BT{P:Prop}(h:P:=by rw[<- hHb,Hp.get_set,if_pos rfl]):P:=h
theorem vb{P:Prop}(h:P:=by rw[hlc];omega):P:=h
theorem BU{P:Prop}(h:P:=by rw[Hp.get_set,if_pos rfl,Y]):P:=h
theorem BV{P:Prop}(h:P:=by rw[<- J,Hp.get_set,if_pos rfl]):P:=h
theorem Hu{P:Prop}(h:P:=by simp only[zdy,Nat.reduceBEq, *];exact zfq (n:=V.length) ac ac):P:=h
theorem oI{P:Prop}(h:P:=by rw[zdq,if_pos dj];rfl):P:=h
theorem Hv{P:Prop}(h:P:=by rw[Hp.get_set,if_neg ac,zdq,if_neg ac];exact C):P:=h
theorem Hw{P:Prop}(h:P:=by rw[Hp.get_set,if_neg ac,zdq,if_neg ac];exact hg3):P:=h
theorem Hy{P:Prop}(h:P:=by rw[List.set_append,if_neg ac,hml,Nat.sub_self,List.set_cons_zero]):P:=h
theorem BW{P:Prop}(h:P:=by rw[Hp.get_set,if_neg ac];exact g45):P:=h
theorem yc{P:Prop}(h:P:=by rw[zdq,if_pos dj]):P:=h
def BX:=@List.all_nil
def BY:=@List.take_succ_cons
def vc:=@List.take_zero
def qZ:=@List.length_reverse
def BZ:=@List.reverse_cons
def Hz:=@List.fst_mem_of_mem_zipIdx
def kV:=@Int.tdiv_eq_ediv_of_nonneg
def yd:=@Nat.zero_testBit
def B0:=@Nat.eq_of_testBit_eq
def ye:=@Nat.or_lt_two_pow
def B1:=@BitVec.testBit_toNat
def HA:=@Nat.lt_pow_two_of_testBit
def B2:=@Nat.pow_lt_pow_right
def B3:=@List.length_singleton
end Go.Ab
namespace Go.Proofs.YtljebeflbbgibaaGreat
set_option maxRecDepth 20000
open Go Go.Ab
section
def tyEvD.tyF:=ad @cN (ad @b9 (ad @lI (ad @ea (ad @eV (ad @jL (ad @lJ (ad @su (ad @pj (ad @qv (ad @qw (ad @sy (ad @qy (ad @sA (ad @qz (ad @qA (@qB))))))))))))))))
open tyEvD
noncomputable def HC:{c:SC // aC 82 (Tryz.f102.body.getD .skip)=c}:=by
 refine⟨?_,?_⟩;rotate_left
 .simp only[Tryz.f102,a5,aC,zdG,zdD,zdH,zdI,Nat.blt,Nat.ble];rfl
theorem Y5{P:Program}{cfg:Cfg}{f N:Nat}{a:SC}{E:ax}{H:Hp}{Q:AX->ax->Hp->Prop}(F:ax->Hp->Prop)(h1:zdX P cfg f N a E H (jt Q F))(h2:∀E' H',F E' H'->Q .normal E' H'):zdX P cfg f N a E H Q:=
 zdX.mono (fun x E' H' h=>by cases x<;>first|exact h2 _ _ h|exact h) h1
theorem HD(a b c:AV):zd7 3 [a,b,c]=some (.agg [a,b,c]):=rfl
theorem re(a b c d:AV):zd7 4 [a,b,c,d]=some (.agg [a,b,c,d]):=rfl
theorem HE(H:Hp)(M O g:HB):Ext9 (fun _=>True) H (((H.alloc M).alloc O).set (H.next+1) g):=⟨by rw[zdQ,zdA,zdA];omega,fun r _ hr=>by
 simp only[aW,zdq,zdA,ai (show ¬r=H.next+1 by omega),ai (show ¬r=H.next by omega)]⟩
section
variable {tb:List En} (hT:EvT tb) {c:Cx9} {H:Hp} {rows:List (List AV)} {res:List R9}
include hT
theorem Y6(hF:Fr9 c H rows res){n:Nd}(hl:n.kids.length<2^30){k:Int}(h:ux res n=some k):zdw Tryz.prog (zdp pls tb) 102 [.ptr c.xp 0,.agg n.cells] H fun w H'=>w=.int .i64 k/\Ext9 (fun _=>True) H H':=by
 have hw:Plain (zdp pls tb) 102:=hT.plain dj;obtain⟨L,Y,V⟩:=n;simp only at hl;have ec:(Nd.mk L Y V).cells=[.int .i64 L,.int .i64 Y,.lst (V.map fun k=>[.int .i64 k])]:=rfl;rw[ec];have O:=hF.alloc (.cells [.int .i64 L,.int .i64 Y,.lst (V.map fun k=>[.int .i64 k])] 0 true);have gx:=O.x;unfold hW at gx;have lx:=hF.lx;have lr:=hF.lr;have y0:(c.xp == H.next)=false:=zdC ac;have y8:(c.xp == H.next+1)=false:=zdC ac;have y9:(H.next == H.next+1)=false:=zdC ac;have gn:(H.alloc (.cells [.int .i64 L,.int .i64 Y,.lst (V.map fun k=>[.int .i64 k])] 0 true)).get H.next=some (.cells [.int .i64 L,.int .i64 Y,.lst (V.map fun k=>[.int .i64 k])] 0 true):=gO
 have E1:Ext9 (fun _=>True) H (H.alloc (.cells [.int .i64 L,.int .i64 Y,.lst (V.map fun k=>[.int .i64 k])] 0 true)):=⟨fQ _,fun q _ hq=>fy⟩;unfold ux at h;simp only at h;by_cases c31:L=31
 .rw[az c31]at h;cases h
 rw[ai c31]at h;obtain⟨HX,hHX⟩:∃HX,HX=H:=⟨_,rfl⟩;have n1:AV.one .nilP=true:=rfl;have n2:AV.cells .nilP=[.nilP]:=rfl;have n3:∀b,AV.one (.bool b)=true:=fun _=>rfl;refine zdv (M:=82) (rs:=[.tmp 4]) (hw.call _) hw.ice hw.froz Tryz.func102 rfl rfl HC.2 rfl ?_;dsimp only[HC,zds,Nat.reduceAdd];repeat' (first
  |(apply zdk ?_;clear hK K)|apply Rx.o ?_|apply ak ?_|(apply zdl fun K hK=>?_)|apply au ?_|fail)
 refine Y5 (fun E' H'=>E'.at 0=.ptr c.xp 0/\E'.at 5=.lst (V.map fun k=>[.int .i64 k])/\Fr9 c H' rows res/\Ext9 (fun _=>True) H H'/\mo res V=some k) ?_ ?_
 .by_cases c22:L=22
  .subst c22;rw[az rfl]at h;obtain⟨zex,h1,h⟩:=cm.1 h;obtain⟨r,h2,h⟩:=cm.1 h;obtain⟨m,sv,kd,C,hm,ho,ix,hA⟩:=hF.kid (n:=⟨22,Y,V⟩) (j:=0) (r:=r) (by unfold et;rw[h1];exact h2);simp only at kd;rw[h1]at kd;simp only[aA]at kd;subst kd;have ar:=(hA _ O).lr;have arA:=fun b=>(hA _ (O.alloc b)).lr;obtain⟨rk,rv,rs⟩:=r;obtain⟨ho1,ho2⟩:=ho.two;cases rk with
   |false=>
    rw[ai aB]at h;simp only[aA]at h;subst h;have I:=@re;repeat' (first
     |(apply zdk ?_;clear hK K)|apply Ry.o ?_|apply b4 ?_|(apply aD (fun z Z=>?_) (fun z Z=>?_)<;>try(cases z;done))|apply ak ?_|(apply zdl fun K hK=>?_)|(apply zdL 6 [(3,10),(6,10),(8,10),(9,10)] fun K hK=>?_)|(apply zdK ?_;try intro _)|(apply zdM ?_ ?_<;>clear hK K)|apply bl ?_|apply zfJ rfl ?_|apply zdm ?_|apply am ?_|fail)
    .exact zdR
    all_goals (refine⟨eI,_,eR,?_⟩;try simp only[zdn])
    exact⟨mP,HE _ _ _ _⟩
   |true=>
    rw[az rfl]at h;obtain⟨k2,h3,h⟩:=cm.1 h;obtain⟨t,h4,h⟩:=cm.1 h;simp only[aA]at h;have I:=@re;repeat' (first
     |(apply zdk ?_;clear hK K)|apply Ry.o ?_|apply b4 ?_|(apply aD (fun z Z=>?_) (fun z Z=>?_)<;>try(cases z;done))|apply ak ?_|(apply zdl fun K hK=>?_)|(apply zdL 6 [(3,10),(6,10),(8,10),(9,10)] fun K hK=>?_)|(apply zdK ?_;try intro _)|(apply zdM ?_ ?_<;>clear hK K)|apply bl ?_|apply zfJ rfl ?_|fail)
    .exact zdR
    generalize U:Hp.set (Hp.alloc (H.alloc _) _) (H.next+1) _=Hb;have nb:H.next+2<=Hb.next:=u3
    have A:Ext9 (fun _=>True) (H.alloc (.cells [.int .i64 22,.int .i64 Y,.lst (V.map fun k=>[.int .i64 k])] 0 true)) Hb:=⟨u4,fun r _ hr=>by
     rw[zdA]at hr;rw[<-U];simp only[aW,zdq,zdA,ai (show ¬r=H.next+1 by omega)]⟩
    clear U;have hFb:=O.keep A.next fun q hq=>A.get q trivial hq
    have gnb:=(A.get _ trivial (show H.next<(H.alloc _).next from cP _)).trans gn;have g:=Hm hT hFb (n:=⟨22,Y,V⟩) hl h3;rw[ec]at g;have I:=@HD;repeat' (first
     |apply Rx.o ?_|fail)
    refine bh rfl bm bo ?_;simp only[bJ];refine a9 ?_ g;rintro v H4 ⟨rfl,rfl⟩;dsimp only[zdE];repeat' (first
     |(apply zdk ?_;clear hK K)|apply Rx.o ?_|(apply iO ?_;first|refine Rx.k (YW hT (hFb.alloc _) h4) ?_)|apply am ?_|fail)
    all_goals (refine⟨eI,_,eR,?_⟩;try simp only[zdn])
    exact⟨by first|trivial|rw[h],(E1.trans A).trans ⟨fQ _,fun r _ hr=>fy⟩⟩
  rw[ai c22]at h;by_cases cg:L=27\/L=29\/L=30
  .rw[az cg]at h;obtain⟨r,h1,h5⟩:=cm.1 h;clear h;obtain⟨m,sv,zex,_,hm,ho,ix,hA⟩:=hF.kid h1;simp only at zex;have ar:=(hA _ O).lr;have arA:=fun b=>(hA _ (O.alloc b)).lr;obtain⟨rk,rv,rs⟩:=r;obtain⟨ho1,ho2⟩:=ho.two;cases rk with
   |false=>
    rw[ai aB]at h5;rcases cg with rfl|rfl|rfl;all_goals
     have I:=@re;repeat' (first
      |(apply zdk ?_;clear hK K)|apply Ry.o ?_|apply b4 ?_|(apply a2 (fun C J=>?_) (fun C J=>?_)<;>try(cases C;done))|(apply aD (fun z Z=>?_) (fun z Z=>?_)<;>try(cases z;done))|apply ak ?_|(apply zdl fun K hK=>?_)|(apply zdL 13 [(3,10),(6,10),(8,10),(9,10)] fun K hK=>?_)|(apply zdK ?_;try intro _)|(apply zdM ?_ ?_<;>clear hK K)|apply bl ?_|apply zfJ rfl ?_|apply zdm ?_|fail)
     .exact zdR
     generalize U:Hp.set (Hp.alloc (H.alloc _) _) (H.next+1) _=Hb;have A:Ext9 (fun _=>True) H Hb:=⟨by rw[<-U,zdQ,zdA,zdA];omega,fun r _ hr=>by
      rw[<-U];simp only[aW,zdq,zdA,ai (show ¬r=H.next+1 by omega),ai (show ¬r=H.next by omega)]⟩
     exact⟨eE,eE,hF.keep A.next (fun q hq=>A.get q trivial hq),A,h5⟩
   |true=>
    rw[az rfl]at h5;obtain⟨s,hrs,h6⟩:=cm.1 h5;clear h5;simp only at hrs;subst hrs;obtain⟨p,cv,ov,rfl,hp⟩:=(ho:fU c.S H sv s);have gp:=hp.get;have plt:=hp.lt;have y1:(p == H.next)=false:=zdC ac;have y2:(p == H.next+1)=false:=zdC ac;by_cases ce:s.ed=0
    .rw[ai (show ¬s.ed≠0 by omega)]at h6;rcases cg with rfl|rfl|rfl;all_goals
      have I:=@re;repeat' (first
       |(apply zdk ?_;clear hK K)|apply Ry.o ?_|apply b4 ?_|(apply a2 (fun C J=>?_) (fun C J=>?_)<;>try(cases C;done))|(apply aD (fun z Z=>?_) (fun z Z=>?_)<;>try(cases z;done))|apply ak ?_|(apply zdl fun K hK=>?_)|(apply zdL 13 [(3,10),(6,10),(8,10),(9,10)] fun K hK=>?_)|(apply zdK ?_;try intro _)|(apply zdM ?_ ?_<;>clear hK K)|apply bl ?_|apply zfJ rfl ?_|apply zdm ?_|fail)
      .exact zdR
      generalize U:Hp.set (Hp.alloc (H.alloc _) _) (H.next+1) _=Hb;have A:Ext9 (fun _=>True) H Hb:=⟨by rw[<-U,zdQ,zdA,zdA];omega,fun r _ hr=>by
       rw[<-U];simp only[aW,zdq,zdA,ai (show ¬r=H.next+1 by omega),ai (show ¬r=H.next by omega)]⟩
      exact⟨eE,eE,hF.keep A.next (fun q hq=>A.get q trivial hq),A,h6⟩
    .rw[az ce,aA]at h6;subst h6;rcases cg with rfl|rfl|rfl;all_goals
      have I:=@re;repeat' (first
       |(apply zdk ?_;clear hK K)|apply Ry.o ?_|apply b4 ?_|(apply a2 (fun C J=>?_) (fun C J=>?_)<;>try(cases C;done))|(apply aD (fun z Z=>?_) (fun z Z=>?_)<;>try(cases z;done))|apply ak ?_|(apply zdl fun K hK=>?_)|(apply zdL 13 [(3,10),(6,10),(8,10),(9,10)] fun K hK=>?_)|(apply zdK ?_;try intro _)|(apply zdM ?_ ?_<;>clear hK K)|apply bl ?_|apply zfJ rfl ?_|apply zdm ?_|apply am ?_|fail)
      .exact zdR
      all_goals (refine⟨eI,_,eR,?_⟩;try simp only[zdn])
      exact⟨mP,HE _ _ _ _⟩
  .rw[ai cg]at h;have c27:¬L=27:=ac;have c29:¬L=29:=ac;have c30:¬L=30:=ac;repeat' (first
    |(apply zdk ?_;clear hK K)|apply Ry.o ?_|(apply aD (fun z Z=>?_) (fun z Z=>?_)<;>try(cases z;done))|apply ak ?_|(apply zdl fun K hK=>?_)|apply zdm ?_|fail)
   exact⟨eE,eE,O,E1,h⟩
 .rintro E' H2 ⟨zex,zfi,hF2,E2,hm⟩;clear h gx gn y0;dsimp only[jt,qi];repeat' (first
   |(apply zdk ?_;clear hK K)|apply Rx.o ?_|apply ak ?_|(apply zdl fun K hK=>?_)|apply au ?_|fail)
  subst hHX;refine zef [0,65,66] [] 67 V.length (fun i E Hx=>mo res (V.drop i)=some k/\Fr9 c Hx rows res/\Ext9 (fun _=>True) HX Hx) eE ⟨hm,hF2,E2⟩ ?_;clear hm hF2 E2;rintro i E3 H3 hi hcE hrH hnH hsI ⟨hJ,o,E3'⟩;(try simp only[zdO,zdF,aX,zdy,zdJ,Nat.reduceBEq, *]at hcE);(try simp only[zdF, *]at hrH);(try simp only[zdA,zdQ,zec,bC,Nat.reduceAdd]at hnH);by_cases hlt:i<V.length
  .have hlt':(i:Int)<V.length:=by omega
   have hgx:V[i]?=some V[i]:=aR hlt;rw[fq hlt,mo]at hJ;generalize V[i]=q at *;obtain⟨r,hr,F⟩:=cm.1 hJ;clear hJ;obtain⟨m,rfl⟩:∃m:Nat,q=m:=⟨q.toNat,by obtain⟨_,h0,_⟩:=o.get hr;omega⟩;obtain⟨sv,hn,ho,hx,hA⟩:=o.at hr;have gx:=o.x;unfold hW at gx;have a0:=(hA _ o).l0;obtain⟨rk,rv,rs⟩:=r;cases rk with
   |true=>
    rw[az rfl]at F;repeat' (first
     |(apply zdk ?_;clear hK K)|apply Ry.o ?_|(apply aD (fun z Z=>?_) (fun z Z=>?_)<;>try(cases z;done))|apply ak ?_|(apply zdl fun K hK=>?_)|apply au ?_|apply zdm ?_|fail)
    refine⟨ac,zdz,zdz,eN,Hu,?_⟩;exact⟨F,o,E3'⟩
   |false=>
    rw[ai aB,aA]at F;subst F;repeat' (first
     |(apply zdk ?_;clear hK K)|apply Ry.o ?_|(apply aD (fun z Z=>?_) (fun z Z=>?_)<;>try(cases z;done))|apply ak ?_|(apply zdl fun K hK=>?_)|apply au ?_|apply zdm ?_|apply am ?_|fail)
    all_goals (refine⟨eI,_,eR,?_⟩;try simp only[zdn])
    exact⟨mP,E3'⟩
  .have hlt':¬(i:Int)<V.length:=by omega
   rw[oA ac,mo,aA]at hJ;subst hJ;repeat' (first
    |(apply zdk ?_;clear hK K)|apply Ry.o ?_|(apply aD (fun z Z=>?_) (fun z Z=>?_)<;>try(cases z;done))|apply ak ?_|(apply zdl fun K hK=>?_)|apply am ?_|apply zdr ?_)
   all_goals (refine⟨eI,_,eR,?_⟩;try simp only[zdn])
   exact⟨mP,E3'⟩
end
end
section
def tyEvE.tyF:=ad @b9 (ad @dA (ad @eV (ad @eO (ad @m8 (ad @m9 (ad @iq (ad @jL (ad @lJ (ad @pj (ad @qv (ad @qy (ad @qz (ad @qA (ad @cN (ad @lI (ad @ea (ad @su (ad @qw (ad @sy (ad @sA (ad @qB (ad @Wu (ad @HD (@re))))))))))))))))))))))))
open tyEvE
noncomputable def HF:{c:SC // aC 15 (Tryz.f103.body.getD .skip)=c}:=by
 refine⟨?_,?_⟩;rotate_left
 .simp only[Tryz.f103,a5,aC,zdG,zdD,zdH,zdI,Nat.blt,Nat.ble];rfl
noncomputable def jB:{c:SC // aC 200 (Tryz.f104.body.getD .skip)=c}:=by
 refine⟨?_,?_⟩;rotate_left
 .simp only[Tryz.f104,a5,aC,zdG,zdD,zdH,zdI,Nat.blt,Nat.ble];rfl
theorem s7(a:Int):zeI Tryz.prog 134 [(1,.int .i64 a)]=some (.agg [.bool false,.int .i64 a,.nilP,.nilP]):=af
theorem Y7(p:Nat):zeI Tryz.prog 134 [(2,.ptr p 0)]=some (.agg [.bool false,.int .i64 0,.ptr p 0,.nilP]):=af
theorem pB(Z:Hp)(q:Nat)(a b c d:AV):zeX Tryz.prog (Z.set q (.cells [a,b,c,d] 0 true)) 134 (.ptr q 0)=some (.agg [a,b,c,d]):=by
 rw[r4,aW,az rfl];kernel_rfl
def Cx9.less(c:Cx9)(q:Nat):Cx9:={c with S:=fun k=>c.S k/\k≠q}
theorem Fr9.less{c:Cx9}{H Z:Hp}{rows:List (List AV)}{res:List R9}(h:Fr9 c H rows res)(E:Ext9 (fun _=>True) H Z){q:Nat}(F:H.next<=q)(Y:q<Z.next):Fr9 (c.less q) Z rows res:=by
 have g:=h.keep E.next fun k j=>E.get k trivial j
 exact⟨g.x,g.r,g.lx,g.lr,(h.st.sub (T:=(c.less q).S) fun k j hS=>⟨hS,ac⟩).keep (E.sub fun _ _ _=>trivial),h.rows.mono fun a b hr=>(hr.sub (T:=(c.less q).S) fun k j hS=>⟨hS,ac⟩).keep (E.sub fun _ _ _=>trivial),fun k j=>⟨h.up k (eT E.next j),ac⟩,g.len⟩
section
variable {tb:List En} (hT:EvT tb) {c:Cx9} {H:Hp} {rows:List (List AV)} {res:List R9}
include hT
theorem HG(O:c.Ok)(A:Fr9 c H rows res):zdw Tryz.prog (zdp pls tb) 103 [.ptr c.xp 0] H fun w H'=>w=.lst (c.g.nodes.map Nd.cells)/\H'=H:=by
 have J:Plain (zdp pls tb) 103:=hT.plain dj;have Z:=A.x;unfold hW at Z;have C:=O.g;refine zdv (M:=15) (rs:=[.tmp 2]) (J.call _) J.ice J.froz Tryz.func103 rfl rfl HF.2 rfl ?_;dsimp only[HF,zds,Nat.reduceAdd];repeat' (first
  |(apply zdk ?_;clear hK K)|apply Rx.o ?_|apply ak ?_|(apply zdl fun K hK=>?_)|(apply zdL 1 [(4,13),(8,13),(11,13)] fun K hK=>?_)|(apply zdK ?_;try intro _)|(apply zdM ?_ ?_<;>clear hK K)|apply bl ?_|apply am ?_)
 .exact zdR
 all_goals (refine⟨eI,_,eR,?_⟩;try simp only[zdn])
 exact⟨mP,mP⟩
theorem Y8(A:Fr9 c H rows res){n:Nd}(hl:n.kids.length<2^30){t:R9}(h:jY c.start c.args res n=some t):zdw Tryz.prog (zdp pls tb) 104 [.ptr c.xp 0,.agg n.cells] H fun w H'=>∃sv,w=.agg [.bool t.k,.int .i64 t.v,sv,.nilP]/\iR c.S H' sv t.s/\Ext9 (fun _=>True) H H':=by
 have J:Plain (zdp pls tb) 104:=hT.plain dj;obtain⟨Z,j,V⟩:=n;simp only at hl;have ec:(Nd.mk Z j V).cells=[.int .i64 Z,.int .i64 j,.lst (V.map fun k=>[.int .i64 k])]:=rfl;rw[ec];have lx:=A.lx;have lr:=A.lr;have y0:(c.xp == H.next)=false:=zdC ac;have y8:(c.xp == H.next+1)=false:=zdC ac;have y9:(H.next == H.next+1)=false:=zdC ac;have hF1:=A.alloc (.cells [.int .i64 Z,.int .i64 j,.lst (V.map fun k=>[.int .i64 k])] 0 true);have U:=hF1.alloc (.cells [.bool false,.int .i64 0,.nilP,.nilP] 0 true);have gx:=U.x;unfold hW zfN at gx;have n1:AV.one .nilP=true:=rfl;have n2:AV.cells .nilP=[.nilP]:=rfl;generalize L:(H.alloc (.cells [.int .i64 Z,.int .i64 j,.lst (V.map fun k=>[.int .i64 k])] 0 true)).alloc (.cells [.bool false,.int .i64 0,.nilP,.nilP] 0 true)=H2 at *;have gn:H2.get H.next=some (.cells [.int .i64 Z,.int .i64 j,.lst (V.map fun k=>[.int .i64 k])] 0 true):=by
  rw[<-L];simp only[zdq,zdA,ai (show ¬H.next=H.next+1 by omega),bT]
 have gt:H2.get (H.next+1)=some (.cells [.bool false,.int .i64 0,.nilP,.nilP] 0 true):=by rw[<-L,zdq,az dj]
 have F:Ext9 (fun _=>True) H H2:=⟨by rw[<-L,zdA,zdA];omega,fun r _ hr=>by
  rw[<-L];simp only[zdq,zdA,ai (show ¬r=H.next+1 by omega),ai (show ¬r=H.next by omega)]⟩
 have Ed:∀b,Ext9 (fun _=>True) H (H2.set (H.next+1) b):=fun b=>⟨F.next,fun r _ hr=>by
  rw[aW,ai ac];exact F.get r trivial hr⟩
 have Ed2:∀b2 b,Ext9 (fun _=>True) H ((H2.alloc b2).set (H.next+1) b):=fun b2 b=>⟨by rw[zdQ,zdA];have:=F.next;omega,fun r _ hr=>by
  rw[aW,ai ac,zdq,ai (by have:=F.next;omega)];exact F.get r trivial hr⟩
 subst L;unfold jY at h;simp only at h;by_cases c1:Z=1
 .rw[az c1,aA]at h;subst c1;subst h;refine zdv (M:=200) (rs:=[.cell 4 134]) (J.call _) J.ice J.froz Tryz.func104 rfl rfl jB.2 rfl ?_;dsimp only[jB,zds,Nat.reduceAdd];have O:=@s7;repeat' (first
   |(apply zdk ?_;clear hK K)|apply Ry.o ?_|apply b4 ?_|(apply aD (fun z Y=>?_) (fun z Y=>?_)<;>try(cases z;done))|apply ak ?_|(apply zdl fun K hK=>?_)|apply au ?_|apply am ?_)
  all_goals (refine⟨eI,_,(by(try simp only[zdy,Nat.reduceBEq,ze0,zfa,pB, *]);first|done|with_reducible rfl),?_⟩;try simp only[zdn])
  exact⟨.nilP,rfl,rfl,Ed _⟩
 rw[ai c1]at h;by_cases c2:Z=2
 .rw[az c2]at h;subst c2;split at h
  .rename_i h0;obtain⟨m,rfl⟩:∃m:Nat,j=m:=⟨j.toNat,ac⟩;rw[dQ]at h;obtain⟨v,hv,g⟩:=cm.1 h;rw[aA]at g;subst g;refine zdv (M:=200) (rs:=[.cell 4 134]) (J.call _) J.ice J.froz Tryz.func104 rfl rfl jB.2 rfl ?_;dsimp only[jB,zds,Nat.reduceAdd];have O:=@s7;repeat' (first
    |(apply zdk ?_;clear hK K)|apply Ry.o ?_|apply b4 ?_|(apply aD (fun z Y=>?_) (fun z Y=>?_)<;>try(cases z;done))|apply ak ?_|(apply zdl fun K hK=>?_)|(apply ou 5 fun K hK=>?_)|apply au ?_|apply am ?_)
   all_goals (refine⟨eI,_,(by(try simp only[zdy,Nat.reduceBEq,ze0,zfa,pB, *]);first|done|with_reducible rfl),?_⟩;try simp only[zdn])
   exact⟨.nilP,rfl,rfl,Ed _⟩
  .cases h
 rw[ai c2]at h;by_cases c3:Z=3\/Z=25\/Z=30\/Z=31
 .rw[az c3]at h;cases h
 rw[ai c3]at h;have d3:¬Z=3:=ac;have d25:¬Z=25:=ac;have d30:¬Z=30:=ac;have d31:¬Z=31:=ac;clear c3;by_cases c22:Z=22
 .rw[az c22]at h;subst c22;obtain⟨k,i,g⟩:=cm.1 h;obtain⟨m,rfl⟩:∃m:Nat,k=m:=⟨k.toNat,by obtain⟨_,h0,_⟩:=A.get g;omega⟩;obtain⟨sv,hn,I,hx,hA⟩:=A.at g;obtain⟨ho1,ho2⟩:=I.two;have o:=Hm hT U (n:=⟨22,j,V⟩) hl i;rw[ec]at o;refine zdv (M:=200) (rs:=[.cell 4 134]) (J.call _) J.ice J.froz Tryz.func104 rfl rfl jB.2 rfl ?_;dsimp only[jB,zds,Nat.reduceAdd];repeat' (first
   |(apply zdk ?_;clear hK K)|apply Ry.o ?_|(apply aD (fun z Y=>?_) (fun z Y=>?_)<;>try(cases z;done))|apply ak ?_|(apply zdl fun K hK=>?_)|(apply zdL 12 [(3,6),(3,9),(5,6),(8,9)] fun K hK=>?_)|(apply zdK ?_;try intro _)|apply bl ?_|apply au ?_|fail)
  refine bh rfl bm bo ?_;simp only[dS];refine a9 ?_ o;rintro v H4 ⟨rfl,rfl⟩;dsimp only[zdE];have hF4:=U.alloc (.cells [.int .i64 22,.int .i64 j,.lst (V.map fun k=>[.int .i64 k])] 0 true);have gx4:=hF4.x;unfold hW at gx4;have a4:=(hA _ hF4).lr;have gt4:((((H.alloc (.cells [.int .i64 22,.int .i64 j,.lst (V.map fun k=>[.int .i64 k])] 0 true)).alloc (.cells [.bool false,.int .i64 0,.nilP,.nilP] 0 true)).alloc (.cells [.int .i64 22,.int .i64 j,.lst (V.map fun k=>[.int .i64 k])] 0 true))).get (H.next+1)=some (.cells [.bool false,.int .i64 0,.nilP,.nilP] 0 true):=by rw[zdq,ai el];exact gt
  have gn4:((((H.alloc (.cells [.int .i64 22,.int .i64 j,.lst (V.map fun k=>[.int .i64 k])] 0 true)).alloc (.cells [.bool false,.int .i64 0,.nilP,.nilP] 0 true)).alloc (.cells [.int .i64 22,.int .i64 j,.lst (V.map fun k=>[.int .i64 k])] 0 true))).get H.next=some (.cells [.int .i64 22,.int .i64 j,.lst (V.map fun k=>[.int .i64 k])] 0 true):=by rw[zdq,ai el];exact gn
  repeat' (first
   |apply Rx.o ?_|apply bp ?_|(apply zdK ?_;try intro _)|(apply zdM ?_ ?_<;>clear hK K)|apply bl ?_|apply zfJ rfl ?_|apply am ?_)
  .exact zdR
  all_goals (refine⟨eI,_,(by(try simp only[zdy,Nat.reduceBEq,ze0,zfa,pB, *]);first|done|with_reducible rfl),?_⟩;try simp only[zdn])
  exact⟨sv,rfl,I.keep ((Ed2 _ _).sub fun _ _ _=>trivial),Ed2 _ _⟩
 rw[ai c22]at h;by_cases c23:Z=23
 .rw[az c23]at h;subst c23;obtain⟨r,i,g⟩:=cm.1 h;obtain⟨s,h3,C⟩:=cm.1 g;obtain⟨ra,h5,h6⟩:=cm.1 C;obtain⟨x,h7,h8⟩:=cm.1 h6;rw[aA]at h8;subst h8;clear h g C h6;obtain⟨m,sv,zex,_,hm,I,ix,hA⟩:=A.kid i;obtain⟨ma,sva,ka,_,hma,_,ixa,hAa⟩:=A.kid h5;simp only at zex ka;rw[h3]at I;have zeU:=(hA _ U).l2;have aa:=(hAa _ U).l1;have kld:=YX hT (x9 I (F.sub fun _ _ _=>trivial)) h7;refine zdv (M:=200) (rs:=[.cell 4 134]) (J.call _) J.ice J.froz Tryz.func104 rfl rfl jB.2 rfl ?_;dsimp only[jB,zds,Nat.reduceAdd];have O:=@s7;repeat' (first
   |(apply zdk ?_;clear hK K)|apply Ry.o ?_|apply b4 ?_|(apply bL ?_;first|refine Rx.k (kld) ?_)|(apply aD (fun z Y=>?_) (fun z Y=>?_)<;>try(cases z;done))|apply ak ?_|(apply zdl fun K hK=>?_)|(apply zdL 14 [(3,24),(5,24),(7,24),(10,24),(12,24),(16,24),(18,24),(20,24),(23,24)] fun K hK=>?_)|(apply zdK ?_;try intro _)|(apply zdM ?_ ?_<;>clear hK K)|apply bl ?_|apply zfJ rfl ?_|apply au ?_|apply am ?_)
  .exact zdR
  all_goals (refine⟨eI,_,(by(try simp only[zdy,Nat.reduceBEq,ze0,zfa,pB, *]);first|done|with_reducible rfl),?_⟩;try simp only[zdn])
  exact⟨.nilP,rfl,rfl,Ed _⟩
 rw[ai c23]at h;by_cases c24:Z=24
 .rw[az c24]at h;subst c24;obtain⟨r,i,g⟩:=cm.1 h;obtain⟨s,h3,C⟩:=cm.1 g;rw[aA]at C;subst C;clear h g;obtain⟨m,sv,zex,_,hm,I,ix,hA⟩:=A.kid i;simp only at zex;rw[h3]at I;have zeU:=(hA _ U).l2;obtain⟨p,cv,ov,rfl,hp⟩:=x9 I (F.sub fun _ _ _=>trivial);have gp:=hp.get;refine zdv (M:=200) (rs:=[.cell 4 134]) (J.call _) J.ice J.froz Tryz.func104 rfl rfl jB.2 rfl ?_;dsimp only[jB,zds,Nat.reduceAdd];have O:=@s7;repeat' (first
   |(apply zdk ?_;clear hK K)|apply Ry.o ?_|apply b4 ?_|(apply aD (fun z Y=>?_) (fun z Y=>?_)<;>try(cases z;done))|apply ak ?_|(apply zdl fun K hK=>?_)|(apply ou 16 fun K hK=>?_)|apply au ?_|apply am ?_)
  all_goals (refine⟨eI,_,(by(try simp only[zdy,Nat.reduceBEq,ze0,zfa,pB, *]);first|done|with_reducible rfl),?_⟩;try simp only[zdn])
  exact⟨.nilP,rfl,rfl,Ed _⟩
 rw[ai c24]at h;by_cases c20:Z=20\/Z=21
 .rw[az c20]at h;obtain⟨r,i,g⟩:=cm.1 h;rw[aA]at g;subst g;clear h;obtain⟨m,sv,zex,_,hm,I,ix,hA⟩:=A.kid i;simp only at zex;have a1:=(hA _ U).l1;rcases c20 with rfl|rfl;all_goals
   refine zdv (M:=200) (rs:=[.cell 4 134]) (J.call _) J.ice J.froz Tryz.func104 rfl rfl jB.2 rfl ?_;dsimp only[jB,zds,Nat.reduceAdd];have O:=@s7;repeat' (first
    |(apply zdk ?_;clear hK K)|apply Ry.o ?_|apply b4 ?_|(apply bL ?_;first|refine Rx.k (hT.kUn _ _ _) ?_)|(apply aD (fun z Y=>?_) (fun z Y=>?_)<;>try(cases z;done))|apply ak ?_|(apply zdl fun K hK=>?_)|(apply zdL 26 [(1,13),(5,13),(7,13),(9,13),(12,13)] fun K hK=>?_)|(apply zdK ?_;try intro _)|(apply zdM ?_ ?_<;>clear hK K)|apply bl ?_|apply zfJ rfl ?_|apply au ?_|apply zdm ?_|apply am ?_)
   .exact zdR
   all_goals (refine⟨eI,_,(by(try simp only[zdy,Nat.reduceBEq,ze0,zfa,pB, *]);first|done|with_reducible rfl),?_⟩;try simp only[zdn])
   exact⟨.nilP,rfl,rfl,Ed _⟩
 rw[ai c20]at h;have d20:¬Z=20:=ac;have d21:¬Z=21:=ac;by_cases c26:Z=26\/Z=27\/Z=28\/Z=29
 .rw[az c26]at h;obtain⟨s,i,g⟩:=cm.1 h;rw[aA]at g;subst g;clear h;have hF3:Fr9 (c.less (H.next+1)) ((H.alloc (.cells [.int .i64 Z,.int .i64 j,.lst (V.map fun k=>[.int .i64 k])] 0 true)).alloc (.cells [.bool false,.int .i64 0,.nilP,.nilP] 0 true)) rows res:=A.less F (fQ _) (by rw[zdA,zdA];omega);have kn:=Y4 hT hF3 (n:=⟨Z,j,V⟩) hl i;rw[ec]at kn;rcases c26 with rfl|rfl|rfl|rfl;all_goals
   refine zdv (M:=200) (rs:=[.cell 4 134]) (J.call _) J.ice J.froz Tryz.func104 rfl rfl jB.2 rfl ?_;dsimp only[jB,zds,Nat.reduceAdd];repeat' (first
    |(apply zdk ?_;clear hK K)|apply Ry.o ?_|(apply aD (fun z Y=>?_) (fun z Y=>?_)<;>try(cases z;done))|apply ak ?_|(apply zdl fun K hK=>?_)|apply au ?_|apply zdm ?_|fail)
   refine bh rfl bm bo ?_;simp only[bJ];refine a9 ?_ kn;rintro v H4 ⟨hv,E4⟩;dsimp only[zdE];have gt4:=(E4.get _ trivial (by rw[zdA,zdA];omega)).trans gt;have hv0:=hv;obtain⟨p,cv,ov,rfl,hp⟩:=hv0;have n4:=E4.next
   rw[zdA,zdA]at n4;have O:=@Y7;repeat' (first
    |(apply zdk ?_;clear hK K)|apply Rx.o ?_|apply bp ?_|apply am ?_)
   all_goals (refine⟨eI,_,(by(try simp only[zdy,Nat.reduceBEq,ze0,zfa,pB, *]);first|done|with_reducible rfl),?_⟩;try simp only[zdn])
   have Ef:Ext9 (fun k=>c.S k/\k≠H.next+1) H4 (H4.set (H.next+1) (.cells [.bool false,.int .i64 0,.ptr p 0,.nilP] 0 true)):=⟨aM _,fun r hr _=>by rw[aW,ai hr.2]⟩;refine⟨.ptr p 0,rfl,(hv.keep (S:=fun k=>c.S k/\k≠H.next+1) Ef).sub fun k _ hk=>hk.1,⟨by rw[zdQ];omega,fun r _ hr=>?_⟩⟩;rw[aW,ai ac,E4.get r trivial (by rw[zdA,zdA];omega)];exact F.get r trivial hr
 rw[ai c26]at h;obtain⟨ra,i,g⟩:=cm.1 h;obtain⟨rb,h3,C⟩:=cm.1 g;rw[aA]at C;subst C;clear h g;have d26:¬Z=26:=ac;have d27:¬Z=27:=ac;have d28:¬Z=28:=ac;have d29:¬Z=29:=ac;obtain⟨ma,sva,ka,_,hma,_,ixa,hAa⟩:=A.kid i;obtain⟨mb,svb,kb,_,hmb,_,ixb,hAb⟩:=A.kid h3;simp only at ka kb;have aa:=(hAa _ U).l1;have ab:=(hAb _ U).l1;refine zdv (M:=200) (rs:=[.cell 4 134]) (J.call _) J.ice J.froz Tryz.func104 rfl rfl jB.2 rfl ?_;dsimp only[jB,zds,Nat.reduceAdd];have O:=@s7;repeat' (first
  |(apply zdk ?_;clear hK K)|apply Ry.o ?_|apply b4 ?_|(apply bL ?_;first|refine Rx.k (hT.kBi _ _ _ _) ?_)|(apply aD (fun z Y=>?_) (fun z Y=>?_)<;>try(cases z;done))|apply ak ?_|(apply zdl fun K hK=>?_)|(apply zdL 33 [(1,24),(5,24),(7,24),(9,24),(12,24),(16,24),(18,24),(20,24),(23,24)] fun K hK=>?_)|(apply zdK ?_;try intro _)|(apply zdM ?_ ?_<;>clear hK K)|apply bl ?_|apply zfJ rfl ?_|apply au ?_|apply zdm ?_|apply am ?_)
 .exact zdR
 all_goals (refine⟨eI,_,(by(try simp only[zdy,Nat.reduceBEq,ze0,zfa,pB, *]);first|done|with_reducible rfl),?_⟩;try simp only[zdn])
 exact⟨.nilP,rfl,rfl,Ed _⟩
end
end
section
def tyEvF.tyF:=ad @cN (ad @b9 (ad @lI (ad @ea (ad @eV (ad @eO (ad @jL (ad @lJ (ad @pj (ad @qv (ad @qy (ad @sA (ad @qz (ad @qA (ad @qB (@re)))))))))))))))
open tyEvF
noncomputable def HH:{c:SC // aC 59 (Tryz.f65.body.getD .skip)=c}:=by
 refine⟨?_,?_⟩;rotate_left
 .simp only[Tryz.f65,a5,aC,zdG,zdD,zdH,zdI,Nat.blt,Nat.ble];rfl
theorem HI{z:Nat}{w:List AV}(Z:w.length=z):∀{rows:List (List AV)}{i:Nat},(∀x∈rows,x.length=z)->i<rows.length->splice rows.flatten (i*z) w=(rows.set i w).flatten
 |[],i,_,e=>by simp at e
 |a::rows,0,h,e=>by
  have J:=h a fh;simp only[splice,tZ,vc,lX,bC,lA,Bj];rw[wy ac,zs ac,lX]
 |a::rows,i+1,h,e=>by
  have J:=h a fh;have ih:=HI Z (rows:=rows) (i:=i) (fun x I=>h x (fp _ I)) xy;simp only[splice,lA,List.set_cons_succ]at ih⊢;have Y:(i+1)*z=a.length+i*z:=by rw[p9,J];omega
  rw[Y,List.take_length_add_append,io,GO,gB,gB];rw[gB]at ih;rw[ih]
theorem Y9{P:Program}{t z q i:Nat}{tip:Bool}{H:Hp}{rows:List (List AV)}{w:List AV}(K:zdB P t=some z)(C:H.get q=some (.cells rows.flatten 0 tip))(Z:∀x∈rows,x.length=z)(A:i<rows.length)(J:w.length=z)(h1:w.all AV.one=true):jA P H t (.ptr q (i*z)) (.agg w)=some (H.set q (.cells (rows.set i w).flatten 0 tip)):=by
 have F:=xK Z;have Y:i*z+z<=rows.flatten.length:=by
  rw[F];have:(i+1)*z<=rows.length*z:=rX z A;rw[p9]at this;exact this
 simp only[jA,C,K];show(if w.length=z/\0<=i*z/\i*z+z<=rows.flatten.length/\w.all AV.one=true then some (H.set q (.cells (splice rows.flatten (i*z) w) 0 tip))else none)=_;rw[az ⟨J,cG _,Y,h1⟩,HI J Z A]
theorem Cx9.Ok.less{c:Cx9}(h:c.Ok)(q:Nat):(c.less q).Ok:=⟨h.g,h.ne,fun k=>h.sx k.1,fun k=>h.sr k.1,h.len⟩
theorem Fr9.more{c:Cx9}{q:Nat}{H:Hp}{rows:List (List AV)}{res:List R9}(h:Fr9 (c.less q) H rows res):Fr9 c H rows res:=
 ⟨h.x,h.r,h.lx,h.lr,h.st.sub (T:=c.S) fun _ _ k=>k.1,h.rows.mono fun a b hr=>hr.sub (T:=c.S) fun _ _ k=>k.1,fun k j=>(h.up k j).1,h.len⟩
theorem Fr9.move{c:Cx9}{q U:Nat}{H g:Hp}{rows:List (List AV)}{res:List R9}(h:Fr9 (c.less q) H rows res)(m:H.next<=g.next)(C:∀r,r<H.next->r≠q->g.get r=H.get r)(I:q≠c.xp)(hr:q≠c.rp)(h2:H.next<=U)(o:U<g.next):Fr9 (c.less U) g rows res:=by
 have a:∀k,k<H.next->(c.less q).S k->c.S k/\k≠q/\k<H.next:=fun k j hS=>⟨hS.1,hS.2,j⟩
 have E:Ext9 (fun k=>c.S k/\k≠q/\k<H.next) H g:=⟨m,fun k j F=>C k F j.2.1⟩;have b:∀k,k<g.next->(c.S k/\k≠q/\k<H.next)->(c.less U).S k:=fun k _ j=>⟨j.1,by have:=j.2.2;omega⟩
 exact⟨by have:=C c.xp h.lx (Ne.symm I);exact this.trans h.x,by have:=C c.rp h.lr (Ne.symm hr);exact this.trans h.r,gz h.lx m,gz h.lr m,((h.st.sub a).keep E).sub b,h.rows.mono fun x y hr=>((hr.sub a).keep E).sub b,fun k j=>⟨(h.up k (eT m j)).1,ac⟩,h.len⟩
theorem Fr9.upd{c:Cx9}(O:c.Ok){H:Hp}{rows:List (List AV)}{res:List R9}(h:Fr9 c H rows res){i:Nat}{L:AV}{t:R9}(K:iR c.S H L t.s):Fr9 c (H.set c.rp (.cells (rows.set i [.bool true,.int .i64 t.v,L,.nilP]).flatten 0 true)) (rows.set i [.bool true,.int .i64 t.v,L,.nilP]) (res.set i t.known):=by
 have E:Ext9 c.S H (H.set c.rp (.cells (rows.set i [.bool true,.int .i64 t.v,L,.nilP]).flatten 0 true)):=⟨aM _,fun k j _=>by rw[aW,ai (fun e:k=c.rp=>O.sr (by rw[<-e];exact j))]⟩;refine⟨?_,ik,h.lx,h.lr,h.st.keep E,?_,h.up,by rw[mg];exact h.len⟩
 .rw[aW,ai O.ne,mg];exact h.x
 .exact zdW.set (h.rows.mono fun a b hr=>hr.keep E) ⟨L,rfl,K.keep E⟩
theorem Za{H:Hp}{q r:Nat}{k:Int}{st:List Int}{junk:List AV}(C:H.get q=some (.cells (zew st.reverse++junk) 0 true))(hr:H.get r=some (.cells [.int .i64 k] 0 true))(M:q≠r)(F:st.length<2^30)(A:q<H.next):
 ∃Y,zeV Tryz.prog false H 23 23 (.sl q 0 st.length 1) (.sl r 0 1 1)=some (.sl H.next 0 (st.length+1) 1,Y)/\H.next+1<=Y.next/\Y.get H.next=some (.cells (zew (k::st).reverse) 0 true)/\∀p,p<H.next->p≠q->Y.get p=H.get p:=by
 have K:zfk H 1 (.sl r 0 1 1)=some (0+1,[.int .i64 k]):=by
  have:=mn (H:=H) (r:=r) (o:=0) (n:=1) (z:=1) (s:=1) hr aB;rw[this];rfl
 have g:(zew st.reverse).length=st.length:=by rw[uw,qZ]
 obtain⟨O,I,U,V,L⟩:∃O,gw false H 1 (.sl q 0 st.length 1)=O/\O.next=H.next/\O.get q=some (.cells (zew st.reverse) 0 true)/\∀p,p≠q->O.get p=H.get p:=by
  cases junk with
  |nil=>
   rw[bJ]at C;refine⟨H,?_,rfl,C,fun _ _=>rfl⟩;unfold gw;simp only[C,bC,gD,g];have:Nat.blt st.length st.length=false:=by
    cases J:Nat.blt st.length st.length with
    |false=>rfl
    |true=>rw[gQ]at J;omega
   simp only[gX,dw,this,dZ]
  |cons a j=>
   refine⟨H.set q (.cells ((zew st.reverse++a::j).take (0+st.length*1)) 0 true),?_,rfl,?_,fun p hp=>by rw[aW,ai hp]⟩
   .unfold gw;simp only[C];have:Nat.blt (0+st.length*1) (zew st.reverse++a::j).length=true:=by rw[gQ,ep,g,dq];omega
    simp only[gX,dw,this];rfl
   .rw[aW,az rfl,bC,gD,zr ac,eJ ac]
 refine⟨(O.kill q).alloc (.cells ((zew st.reverse).drop 0++[.int .i64 k]) (0-0) true),?_,by rw[zdA,zfY];omega,?_,fun p hp Z=>?_⟩
 .simp only[zeV,Tryz.underlying23,ju,qt,qu,show kG Tryz.prog 23=true by kernel_rfl,K,ox,BX,I,zf5,V];simp only[Ey,qf,dq,jF,mX,bT,cC,cn,bC,gD,g,cG,U,gT];rw[az ⟨nz,nz,trivial⟩]
 .rw[<-U];show((O.kill q).alloc _).get (O.kill q).next=_
  rw[zdq,az rfl,BZ,zew,zew,mc];rfl
 .rw[zdq,ai (by rw[zfY];omega),zff,ai Z,L p Z]
structure Stk9 (H:Hp) (q:Nat) (v:AV) (st:List Int):Prop where
 lt:q<H.next
 v:(st=[]/\v=.lst [])\/(st≠[]/\v=.sl q 0 st.length 1/\∃junk,H.get q=some (.cells (zew st.reverse++junk) 0 true))
theorem Zb(q n:Nat):jk Tryz.prog 23 (.sl q 0 (n+1) 1) none (some (.int .i64 (n:Int)))=some (if 0=n then .lst []else .sl q 0 n 1):=by
 show jk Tryz.prog 23 (.sl q 0 (n+1) 1) none (some (.int .i64 (Int.ofNat n)))=_;simp only[jk,Tryz.underlying23,ju,ze1];by_cases h:0=n
 .subst h;simp
 .simp[h]
section
variable {tb:List En} (hT:EvT tb) {c:Cx9} {H:Hp} {rows:List (List AV)} {res:List R9}
include hT
theorem HJ(hc:c.Ok)(hkk:∀nd∈c.g.nodes,nd.kids.length<2^30)(hF:Fr9 c H rows res){n:Nat}{i0:Int}{I:List R9}(h:zfc c.g.nodes c.start c.args n res [i0]=some I):zdw Tryz.prog (zdp pls tb) 65 [.ptr c.xp 0,.int .i64 i0] H fun _ H'=>∃rows2,Fr9 c H' rows2 I/\H.next<=H'.next/\∀r,r<H.next->r≠c.rp->H'.get r=H.get r:=by
 have hw:Plain (zdp pls tb) 65:=hT.plain dj;have hkeep:(zdp pls tb).keep 65=false:=rfl;have bs1:∀H k,zeP Tryz.prog H 23 1 [(0,.int .i64 k)]=some (.sl H.next 0 1 1,H.alloc (.cells [.int .i64 k] 0 true)):=fun _ _=>af;refine zdv (M:=59) (rs:=[]) (hw.call _) hw.ice hw.froz Tryz.func65 rfl rfl HH.2 rfl ?_;dsimp only[HH,zds,Nat.reduceAdd];repeat' (first
  |(apply zdk ?_;clear hK K)|apply Rx.o ?_|apply ak ?_|(apply zdl fun K hK=>?_)|apply au ?_|fail)
 refine qj (fun m E g=>∃st Y o q v,zfc c.g.nodes c.start c.args m o st=some I/\E.at 0=.ptr c.xp 0/\E.at 4=v/\Stk9 g q v st/\H.next<=q/\Fr9 (c.less q) g Y o/\st.length<2^20+2/\∀r,r<H.next->r≠c.rp->g.get r=H.get r) ?_ (n:=n) ?_
 .rintro m E g ⟨st,Y,o,q,v,Z,zex,zfZ,hst,hq,O,hlen,J⟩;have hqlt:=hst.lt;cases m with
  |zero=>simp[zfc]at Z
  |succ m=>
   cases st with
   |nil=>
    rcases hst.v with⟨_,rfl⟩|⟨V,_⟩
    .rw[zfc,aA]at Z;subst Z;repeat' (first
      |(apply zdk ?_;clear hK K)|apply Ry.o ?_|(apply aD (fun z U=>?_) (fun z U=>?_)<;>try(cases z;done))|apply ak ?_|(apply zdl fun K hK=>?_)|apply zdr ?_)
     all_goals (refine⟨eI,_,eR,?_⟩;try simp only[zdn])
     exact⟨Y,O.more,ac,J⟩
    .exact absurd rfl V
   |cons i st=>
    rcases hst.v with⟨V,_⟩|⟨_,rfl,junk,gq⟩
    .cases V
    rw[dq]at hlen zfZ;rw[zfc]at Z;obtain⟨r,hr,Z⟩:=cm.1 Z;obtain⟨i,rfl⟩:∃m:Nat,i=m:=⟨i.toNat,by obtain⟨_,h0,_⟩:=O.get hr;omega⟩;obtain⟨sv,hn,ho,hx,hA⟩:=O.at hr;have gx:g.get c.xp=some (.cells (hW c.u c.hv c.f c.sv c.args c.rp o.length) 0 true):=O.x;unfold hW at gx;have hx:zdV Tryz.prog 127 (.sl c.rp 0 o.length 4) (.int .i64 (i:Int))=some (.ptr c.rp (i*4)):=hx;have a0:zeX Tryz.prog g 4 (.ptr c.rp (i*4))=some (.bool r.k):=(hA _ O).l0;have gi:(zew ((i:Int)::st).reverse++junk)[st.length]?=some (.int .i64 (i:Int)):=by
     rw[BZ,zew,mc,gB,fZ (by rw[cE,qZ];exact aM _),cE,qZ,gT];rfl
    have e1:IntKind.wrap .i64 (((st.length+1:Nat):Int)-1)=(st.length:Int):=by rw[show((st.length+1:Nat):Int)-1=(st.length:Int) by omega];exact ze3 ac ac
    have ixq:zdV Tryz.prog 23 (.sl q 0 (st.length+1) 1) (.int .i64 (st.length:Int))=some (.ptr q st.length):=by rw[mj Tryz.underlying23 ju (cP _)];simp
    have p0:((0:Int)<((st.length+1:Nat):Int)):=ac;have sq:=Zb q st.length;obtain⟨rk,rv,rs⟩:=r;cases rk with
    |true=>
     rw[az rfl]at Z;repeat' (first
      |(apply zdk ?_;clear hK K)|apply Ry.o ?_|(apply aD (fun z U=>?_) (fun z U=>?_)<;>try(cases z;done))|apply ak ?_|(apply zdl fun K hK=>?_)|apply au ?_|apply zdm ?_|apply zdr ?_)
     refine⟨m,cP _,st,Y,o,q,(if 0=st.length then .lst []else .sl q 0 st.length 1),Z,eE,eE,⟨hqlt,?_⟩,hq,O,ac,J⟩;by_cases hz:st=[]
     .subst hz;exact .inl ⟨rfl,rfl⟩
     .refine .inr ⟨hz,ai (fun e=>hz (Bk e.symm)),.int .i64 (i:Int)::junk,?_⟩;rw[gq,BZ,zew,zew,mc,gB];rfl
    |false=>
     rw[ai aB]at Z;obtain⟨nd,hnd,Z⟩:=cm.1 Z;obtain⟨k,hk,Z⟩:=cm.1 Z;rw[dQ]at hnd;have hkl:=hkk nd (i5 hnd);have kn:zdw Tryz.prog (zdp pls tb) 103 [.ptr c.xp 0] g fun w H'=>w=.lst (c.g.nodes.map Nd.cells)/\H'=g:=HG (c:=c.less q) hT (hc.less q) O;have hnw:=w7 nd;repeat' (first
      |(apply zdk ?_;clear hK K)|apply Ry.o ?_|(apply bL ?_;first|refine Rx.k (kn) ?_)|(apply aD (fun z U=>?_) (fun z U=>?_)<;>try(cases z;done))|apply ak ?_|(apply zdl fun K hK=>?_)|apply au ?_|apply zdm ?_|fail)
     refine bh rfl bm bo ?_;simp only[bJ];refine a9 ?_ (Y6 hT O hkl hk);rintro v H3 ⟨rfl,E3⟩;dsimp only[zdE];have C:=O.keep E3.next fun r hr=>E3.get r trivial hr
     have gq3:=(E3.get q trivial hqlt).trans gq;have n3:=E3.next
     have lx:=hF.lx;have lr:=hF.lr;by_cases hk0:0<=k
     .rw[az hk0]at Z;split at Z
      .rename_i hl2;obtain⟨H5,ap,n5,g5,zfi⟩:=Za (H:=H3.alloc (.cells [.int .i64 k] 0 true)) (q:=q) (r:=H3.next) (k:=k) (st:=(i:Int)::st) (junk:=junk) (by rw[zdq,ai ac];exact gq3) gO ac Aq u4;rw[dq]at ap;rw[zdA]at ap n5 g5 zfi;repeat' (first
        |(apply zdk ?_;clear hK K)|apply Ry.o ?_|(apply aD (fun z U=>?_) (fun z U=>?_)<;>try(cases z;done))|apply ak ?_|(apply zdl fun K hK=>?_)|apply zdr ?_)
       refine⟨m,cP _,k::(i:Int)::st,Y,o,H3.next+1,.sl (H3.next+1) 0 (st.length+1+1) 1,Z,eE,eE,⟨ac,.inr ⟨aB,rfl,[],by rw[bJ];exact g5⟩⟩,ac,C.move ac (fun r hr V=>by rw[zfi r ac V,zdq,ai ac]) ac ac ac ac,Bh,fun r hr V=>?_⟩;rw[zfi r ac ac,zdq,ai ac,E3.get r trivial ac];exact J r hr V
      .cases Z
     .rw[ai hk0]at Z;obtain⟨t,ht,Z⟩:=cm.1 Z;rw[dQ]at Z;have kn3:zdw Tryz.prog (zdp pls tb) 103 [.ptr c.xp 0] H3 fun w H'=>w=.lst (c.g.nodes.map Nd.cells)/\H'=H3:=HG (c:=c.less q) hT (hc.less q) C;repeat' (first
       |(apply zdk ?_;clear hK K)|apply Ry.o ?_|(apply bL ?_;first|refine Rx.k (kn3) ?_)|(apply aD (fun z U=>?_) (fun z U=>?_)<;>try(cases z;done))|apply ak ?_|(apply zdl fun K hK=>?_)|apply zdm ?_|fail)
      refine bh rfl bm bo ?_;simp only[bJ];refine a9 ?_ (Y8 hT C hkl ht);rintro v j ⟨F,rfl,ho4,E4⟩;dsimp only[zdE];have hF4:=C.keep E4.next fun r hr=>E4.get r trivial hr
      obtain⟨u1,u2⟩:=ho4.two;have n4:=E4.next
      have z1:AV.one .nilP=true:=rfl;have z2:AV.cells .nilP=[.nilP]:=rfl;have gx4:j.get c.xp=some (.cells (hW c.u c.hv c.f c.sv c.args c.rp o.length) 0 true):=hF4.x;unfold hW at gx4;have y4:(c.xp == j.next)=false:=zdC ac;repeat' (first
       |(apply zdk ?_;clear hK K)|apply Ry.o ?_|apply b4 ?_|apply ak ?_|(apply zdl fun K hK=>?_)|(apply ou 10 fun K hK=>?_)|fail)
      generalize A:Hp.set (Hp.set (Hp.alloc j _) _ _) _ _=Hb;have nb:j.next+1<=Hb.next:=by rw[<-A];exact aM _
      have kb:∀r,r<j.next->Hb.get r=j.get r:=fun r hr=>by
       rw[<-A];simp only[aW,zdq,ai (show ¬r=j.next by omega)]
      have gb:Hb.get j.next=some (.cells [.bool true,.int .i64 t.v,F,.nilP] 0 true):=by rw[<-A,aW,az rfl]
      clear A;have L:=hF4.keep ac kb;have hob:=ho4.keep (H':=Hb) ⟨ac,fun r _ hr=>kb r hr⟩;have gxb:Hb.get c.xp=some (.cells (hW c.u c.hv c.f c.sv c.args c.rp o.length) 0 true):=L.x;unfold hW at gxb;have stR:jA Tryz.prog Hb 134 (.ptr c.rp (i*4)) (.agg [.bool true,.int .i64 t.v,F,.nilP])=some (Hb.set c.rp (.cells (Y.set i [.bool true,.int .i64 t.v,F,.nilP]).flatten 0 true)):=Y9 uK L.r (Rows9.len L.rows) (by rw[zdW.len L.rows];exact hn) rfl (by simp only[ox,BX,u1,z1,j6];rfl);repeat' (first
       |(apply zdk ?_;clear hK K)|apply bp ?_|fail)
      refine⟨m,cP _,(i:Int)::st,Y.set i [.bool true,.int .i64 t.v,F,.nilP],o.set i t.known,q,.sl q 0 (st.length+1) 1,Z,eE,eE,⟨by rw[zdQ];omega,.inr ⟨aB,rfl,junk,?_⟩⟩,hq,L.upd (hc.less q) hob,Bh,fun r hr V=>?_⟩
      .rw[aW,ai ac,kb q ac,E4.get q trivial ac];exact gq3
      .rw[aW,ai V,kb r ac,E4.get r trivial ac,E3.get r trivial ac];exact J r hr V
 .exact⟨[i0],rows,res,H.next,_,h,eE,eE,⟨cP _,.inr ⟨aB,rfl,[],hC⟩⟩,aM _,hF.less ⟨fQ _,fun r _ hr=>fy⟩ (aM _) (cP _),by show 1<_;omega,fun r hr _=>fy⟩
end
end
end Go.Proofs.YtljebeflbbgibaaGreat
namespace Go.Ab
set_option maxRecDepth 20000
open Go
def rg(a b:Nat):Nat:=a^^^ (a &&& b)
def pC(n:Nd)(h:List Nat)(j:Nat)(k:Int):Nat:=if n.op=31/\dR n.kids.length<=j then rg (h.getD k.toNat 0) (2^ n.imm.toNat)else h.getD k.toNat 0
def nE(n:Nd)(h:List Nat):Nat->List Int->Nat->Nat
 |_,[],m=>m
 |j,k::ks,m=>nE n h (j+1) ks (m |||pC n h j k)
def rh(n:Nd)(h:List Nat):Nat:=nE n h 0 n.kids (if n.op=3 then 2^ (n.imm.tdiv 16).toNat else 0)
def ze4(l:List Nd):Nat->List Nat
 |0=>[]
 |i+1=>ze4 l i++[match l[i]? with|some n=>rh n (ze4 l i)|none=>0]
def rj(n:Nd)(h:List (List Bool))(j:Nat):Bool:=
 (n.kids.zipIdx.any fun p=>(h.getD p.1.toNat []).getD j false&&(!decide (n.op=31) || !decide ((j:Int)=n.imm)||decide ((p.2:Int)<(n.kids.length:Int).tdiv 2)))||(decide (n.op=3)&&decide ((j:Int)=n.imm.tdiv 16))
def ze5(l:List Nd):Nat->List (List Bool)
 |0=>[]
 |i+1=>ze5 l i++[(List.range 16).map fun j=>match l[i]? with|some n=>rj n (ze5 l i) j|none=>false]
theorem s8(l:List Nd):∀i,(ze4 l i).length=i
 |0=>rfl
 |i+1=>by rw[ze4,ep,s8 l i];rfl
theorem pD(l:List Nd):∀i,(ze5 l i).length=i
 |0=>rfl
 |i+1=>by rw[ze5,ep,pD l i];rfl
theorem yf(a b j:Nat):(rg a b).testBit j=(a.testBit j && !b.testBit j):=by
 unfold rg;rw[Nat.testBit_xor,Nat.testBit_and];cases a.testBit j<;>cases b.testBit j<;>rfl
theorem B4(n:Nd)(h:List Nat)(t:Nat):∀(U:List Int) (j m:Nat),(nE n h j U m).testBit t=(m.testBit t||(U.zipIdx j).any fun p=>(pC n h p.2 p.1).testBit t)
 |[],j,m=>by simp[nE]
 |k::U,j,m=>by
  rw[nE,B4 n h t U,Nat.testBit_or,zE,nn,Bi]
structure NdOk (n:Nd) (i:Nat):Prop where
 kids:∀k∈n.kids,0<=k/\k<i
 lv:n.op=3->0<=n.imm/\n.imm<=255
 lp:n.op=31->0<=n.imm/\n.imm<=15/\n.kids.length%2=1/\3<=n.kids.length
theorem B5(a t:Nat):(2^ a).testBit t=decide (a=t):=Nat.testBit_two_pow
theorem B6{U:Type}{a:List U}{x d:U}{j:Nat}(h:j<a.length):(a++[x]).getD j d=a.getD j d:=by
 rw[cS,fz h,<-cS]
theorem B7{U:Type}{a:List U}{x d:U}{j:Nat}(h:j=a.length):(a++[x]).getD j d=x:=by
 subst h;rw[cS,fZ (aM _),gT];rfl
theorem yg{l:List Nd}:∀(i:Nat),i<=l.length->(∀j n,j<i->l[j]?=some n->NdOk n j)->∀j,j<i->∀t,((ze4 l i).getD j 0).testBit t=(decide (t<16)&&((ze5 l i).getD j []).getD t false)
 |0,_,_,j,h,_=>by omega
 |i+1,hi,hok,j,hj,t=>by
  have ih:=yg i ac (fun j n F V=>hok j n ac V);rw[ze4,ze5];by_cases e:j<i
  .rw[B6 (by rw[s8];exact e),B6 (by rw[pD];exact e)];exact ih j e t
  .obtain rfl:j=i:=by omega
   rw[B7 (s8 l j).symm,B7 (pD l j).symm];obtain⟨n,m⟩:∃n,l[j]?=some n:=⟨l[j],aR ac⟩;have ok:=hok j n (cP _) m;rw[m];simp only;by_cases c:t<16
   .rw[cF c,dw,cS,dK,wv c];simp only[iZ,a5];unfold rh rj;rw[B4];have Z:(if n.op=3 then 2^ (n.imm.tdiv 16).toNat else 0).testBit t=(decide (n.op=3)&&decide ((t:Int)=n.imm.tdiv 16)):=by
     by_cases c3:n.op=3
     .have:=ok.lv c3;rw[az c3,B5,cF c3,dw,kR];have A:0<=n.imm.tdiv 16:=Int.tdiv_nonneg this.1 ac;omega
     .rw[ai c3,cX c3];simp
    rw[Z,Bool.or_comm]
    congr 1
    rw[rP,BD,BD];have I:∀p∈n.kids.zipIdx,(pC n (ze4 l j) p.2 p.1).testBit t=(((ze5 l j).getD p.1.toNat []).getD t false&&(!decide (n.op=31) || !decide ((t:Int)=n.imm)||decide ((p.2:Int)<(n.kids.length:Int).tdiv 2))):=fun p hp=>by
     have M:p.1∈n.kids:=Hz hp;have L:=ok.kids _ M;have z:=ih p.1.toNat ac t;rw[cF c,dw]at z;unfold pC;by_cases U:n.op=31
     .obtain⟨C,O,o,h3⟩:=ok.lp U;have e2:dR n.kids.length=((n.kids.length/2:Nat):Int):=by rw[sK _ ac];omega
      have K:(n.kids.length:Int).tdiv 2=((n.kids.length/2:Nat):Int):=rfl;rw[K,cF U];by_cases g:dR n.kids.length<=p.2
      .rw[az ⟨U,g⟩,yf,z,B5];have Y:decide ((p.2:Int)<((n.kids.length/2:Nat):Int))=false:=cX ac;have J:decide (n.imm.toNat=t)=decide ((t:Int)=n.imm):=by rw[kR];omega
       rw[Y,J];simp
      .rw[ai (fun h=>g h.2),z];have Y:decide ((p.2:Int)<((n.kids.length/2:Nat):Int))=true:=cF ac;rw[Y];simp
     .rw[ai (fun h=>U h.1),z,cX U];simp
    constructor
    .rintro⟨p,hp,h⟩;exact⟨p,hp,by rw[<-I p hp];exact h⟩
    .rintro⟨p,hp,h⟩;exact⟨p,hp,by rw[I p hp];exact h⟩
   .rw[cX c,dZ];unfold rh;rw[B4];have Z:(if n.op=3 then 2^ (n.imm.tdiv 16).toNat else 0).testBit t=false:=by
     by_cases c3:n.op=3
     .have:=ok.lv c3;rw[az c3,B5];refine cX ?_;have A:n.imm.tdiv 16<16:=by rw[kV this.1];omega
      omega
     .rw[ai c3];simp
    rw[Z,jb,ud];intro p hp;have M:p.1∈n.kids:=Hz hp;have L:=ok.kids _ M;have z:=ih p.1.toNat ac t;rw[cX c,dZ]at z;unfold pC;split
    .rw[yf,z];simp
    .rw[z];simp
theorem mask_zero{l:List Nd}{i j:Nat}(A:i<=l.length)(V:∀j n,j<i->l[j]?=some n->NdOk n j)(O:j<i):decide ((ze4 l i).getD j 0=0)=((List.range 16).all fun t=>!((ze5 l i).getD j []).getD t false):=by
 have h:=yg i A V j O;rw[rP,decide_eq_true_iff,gS];constructor
 .intro e t I;have:=h t;rw[e,yd,cF (jq.1 I),dw]at this;rw[<-this];rfl
 .intro e;apply B0;intro t;rw[h t,yd];by_cases c:t<16
  .have:=e t (jq.2 c);simp only[l7]at this;rw[this,pt]
  .rw[cX c,dZ]
end Go.Ab
namespace Go.Proofs.YtljebeflbbgibaaGreat
set_option maxRecDepth 20000
open Go Go.Ab
section
def tyV2.tyF:=ad @cN (ad @b9 (ad @dA (ad @ea (ad @eV (ad @eO (ad @m8 (ad @m9 (ad @iq (ad @jL (ad @kQ (ad @Wk (ad @mZ (@qk)))))))))))))
open tyV2
noncomputable def HK:{c:SC // aC 59 (Tryz.f100.body.getD .skip)=c}:=by
 refine⟨?_,?_⟩;rotate_left
 .simp only[Tryz.f100,a5,aC,zdG,zdD,zdH,zdI,Nat.blt,Nat.ble];rfl
noncomputable def s9:{c:SC // aC 47 (Tryz.f98.body.getD .skip)=c}:=by
 refine⟨?_,?_⟩;rotate_left
 .simp only[Tryz.f98,a5,aC,zdG,zdD,zdH,zdI,Nat.blt,Nat.ble];rfl
def fV:List Nd->List Int->Option (List Int)
 |[],t=>some t
 |n::l,t=>if n.op=31 then (if 0<t.getD n.imm.toNat 0 then none else fV l (t.set n.imm.toNat (dR n.kids.length)))else fV l t
def kW(t:List Int)(n:Nd):Bool:=decide (n.op=3)&&decide (0<t.getD (n.imm.tdiv 16).toNat 0)&&decide (t.getD (n.imm.tdiv 16).toNat 0<=n.imm.tmod 16)
def zfu(l:List Nd):Bool:=match fV l (List.replicate 16 0)with
 |none=>false
 |some t=>l.all fun n=>!kW t n
def vd(n:Nd):Prop:=(n.op=31->0<=n.imm/\n.imm<=15)/\(n.op=3->0<=n.imm/\n.imm<=255)
theorem Zc(H:Hp):zdZ Tryz.prog 208=some ((List.replicate 16 (0:Int)).map (.int .i64)):=af
theorem HL{r m:Nat}(M:m<16):zdV Tryz.prog 208 (.ptr r 0) (.int .i64 (m:Int))=some (.ptr r m):=by
 have e:zdV Tryz.prog 208 (.ptr r 0) (.int .i64 (Int.ofNat m))=if m<16 then some (.ptr r (0+m*1))else none:=rfl
 rw[show((m:Nat):Int)=Int.ofNat m from rfl,e,az M];simp
theorem HM{H:Hp}{r imm m:Nat}{t:List Int}(C:H.get r=some (.cells (t.map (.int .i64)) imm true))(M:m<t.length):zeX Tryz.prog H 3 (.ptr r m)=some (.int .i64 (t.getD m 0)):=by
 rw[ql Tryz.underlying3 rfl C,dK,cS,aR M];rfl
theorem Zd{H:Hp}{r m:Nat}{t:List Int}(C:H.get r=some (.cells (t.map (.int .i64)) 0 true))(M:m<t.length)(n:Int):jA Tryz.prog H 3 (.ptr r m) (.int .i64 n)=some (H.set r (.cells ((t.set m n).map (.int .i64)) 0 true)):=by
 rw[uU C (by rw[cE];exact M),oy]
set_option maxRecDepth 100000 in
theorem Ze(ρ:Nat->Int)(l:List Nd)(hl:zeN l)(hn:∀n∈l,vd n):bc Tryz.prog ρ 100 [zeu l] (.bool (zfu l)):=zer fit (pls:=pls) (l:=[ny]) ⟨xQ ρ,trivial⟩ (.cons (zfV _) .nil) (.bool _) (by
 obtain⟨hl1,hl2⟩:=hl;have hw:Plain (zdp pls [ny]) 100:=zej (fun _=>rfl) rfl;have q16:(16:Int)≠0:=dk;refine zdv (M:=59) (rs:=[.tmp 2]) (hw.call _) hw.ice hw.froz Tryz.func100 rfl rfl HK.2 rfl ?_;dsimp only[HK,zds,Nat.reduceAdd];have gh0:=@Zc;repeat' (first
  |(apply zdk ?_;clear hK K)|apply Rx.o ?_|apply ak ?_|(apply zdl fun K hK=>?_)|apply au ?_|fail)
 refine zef [0,3,8,9] [] 10 l.length (fun i E H=>∃t:List Int,t.length=16/\H.get 0=some (.cells (t.map (.int .i64)) 0 true)/\fV l (List.replicate 16 0)=fV (l.drop i) t) eE ⟨List.replicate 16 0,aB,oI,aB⟩ ?_;rintro i E g hi F A o hsI ⟨t,ht,C,Z⟩;(try simp only[zdO,zdF,aX,zdy,zdJ,Nat.reduceBEq, *]at F);(try simp only[zdF,zdJ, *]at A);(try simp only[zdA,zec,bC]at o);have hB0:(0 == g.next)=false:=zdC ac;have hC0:(g.next == 0)=false:=zdC ac;have hn2:1<=g.next:=o
 by_cases U:i<l.length
 .have hlt':(i:Int)<l.length:=by omega
  have hgx:l[i]?=some l[i]:=aR U;have hok:=hn _ (dr U);have hnk:=hl2 _ (dr U);have O:fV (l.drop i) t=if l[i].op=31 then (if 0<t.getD l[i].imm.toNat 0 then none else fV (l.drop (i+1)) (t.set l[i].imm.toNat (dR l[i].kids.length)))else fV (l.drop (i+1)) t:=by rw[fq U,fV]
  generalize l[i]=n at *;have e0:(0 == g.next)=false:=zdC ac;by_cases h31:n.op=31
  .obtain⟨m0,zeW⟩:=hok.1 h31;obtain⟨m,hm⟩:=eL m0;have Y:m<16:=ac;rw[az h31,hm,dQ]at O;have hix:=HL (r:=0) Y;have hgA:∀b,(g.alloc b).get 0=some (.cells (t.map (.int .i64)) 0 true):=fun b=>by rw[zdq,ai ac];exact C
   have J:∀b c,((g.alloc b).set g.next c).get 0=some (.cells (t.map (.int .i64)) 0 true):=fun b c=>by rw[aW,ai ac];exact hgA b
   have hld:=fun b c=>HM (J b c) (m:=m) ac;generalize t.getD m 0=x at *;repeat' (first
    |(apply zdk ?_;clear hK K)|apply Ry.o ?_|apply b4 ?_|(apply bL ?_;first|refine Rx.k (sL (fun _=>rfl) _ ac _) ?_)|(apply aD (fun z V=>?_) (fun z V=>?_)<;>try(cases z;done))|apply ak ?_|(apply zdl fun K hK=>?_)|(apply zdL 8 [(1,5),(1,7),(3,5),(4,5)] fun K hK=>?_)|(apply zdK ?_;try intro _)|apply bl ?_|apply zfJ rfl ?_|apply au ?_|apply zdm ?_|apply am ?_|fail)
   .all_goals (refine⟨eI,_,eR,?_⟩;try simp only[zdn])
    rw[az il]at O;rw[zfu,Z,O]
   .refine mY zeM zeM (Zd (J _ _) ac _) ?_;repeat' (first
     |(apply zdk ?_;clear hK K)|apply Rx.o ?_|(apply zdl fun K hK=>?_)|(apply zdK ?_;try intro _)|(apply zdM ?_ ?_<;>clear hK K)|fail)
    .exact zdR
    .refine⟨ac,zdz,zdz,eN,jy,?_⟩;exact⟨t.set m (dR n.kids.length),by rw[mg];exact ht,ik,by rw[Z,O,ai il]⟩
  .rw[ai h31]at O;repeat' (first
    |(apply zdk ?_;clear hK K)|apply Ry.o ?_|apply b4 ?_|(apply aD (fun z V=>?_) (fun z V=>?_)<;>try(cases z;done))|apply ak ?_|(apply zdl fun K hK=>?_)|apply au ?_|apply zdm ?_|apply zdr ?_)
   refine⟨ac,zdz,zdz,eN,jy,?_⟩;exact⟨t,ht,Hv,by rw[Z,O]⟩
 .have hlt':¬(i:Int)<l.length:=by omega
  repeat' (first
   |(apply zdk ?_;clear hK K)|apply Ry.o ?_|(apply aD (fun z V=>?_) (fun z V=>?_)<;>try(cases z;done))|apply ak ?_|(apply zdl fun K hK=>?_)|apply au ?_|apply zdr ?_)
  have hie:l.drop i=[]:=oA ac;rw[hie,fV]at Z;have hvl:zfu l=l.all fun n=>!kW t n:=by rw[zfu,Z]
  rw[hvl];clear hie Z hvl;refine zef [3,30,31] [] 32 l.length (fun i E H=>H.get 0=some (.cells (t.map (.int .i64)) 0 true)/\(l.all fun n=>!kW t n)=(l.drop i).all fun n=>!kW t n) eE ⟨C,aB⟩ ?_;rintro j E3 H3 hj F A o hsI ⟨hg3,Z⟩;(try simp only[zdO,zdF,aX,zdy,zdJ,Nat.reduceBEq, *]at F);(try simp only[zdF, *]at A);(try simp only[zdA,zdQ,zec,bC,Nat.reduceAdd]at o);have hB0:(0 == H3.next)=false:=zdC ac;have hC0:(H3.next == 0)=false:=zdC ac;have hn3:1<=H3.next:=ac
  by_cases hjt:j<l.length
  .have hjt':(j:Int)<l.length:=by omega
   have hgx:l[j]?=some l[j]:=aR hjt;have hok:=hn _ (dr hjt);have O:((l.drop j).all fun n=>!kW t n)=(!kW t l[j]&&(l.drop (j+1)).all fun n=>!kW t n):=by rw[fq hjt,ox]
   generalize l[j]=n at *;have e0:(0 == H3.next)=false:=zdC ac;by_cases h3:n.op=3
   .obtain⟨m0,zeW⟩:=hok.2 h3;have hd:n.imm.tdiv 16=n.imm/16:=kV m0;have hd0:0<=n.imm.tdiv 16:=by rw[hd];omega
    obtain⟨m,hm⟩:=eL hd0;have Y:m<16:=ac;have L:kW t n=(decide (0<t.getD m 0)&&decide (t.getD m 0<=n.imm.tmod 16)):=by rw[kW,hm,h3,dQ];rfl
    have ew:IntKind.wrap .i64 (n.imm.tdiv 16)=m:=by rw[hm];exact ze3 ac ac
    have hix:=HL (r:=0) Y;have J:∀b c,((H3.alloc b).set H3.next c).get 0=some (.cells (t.map (.int .i64)) 0 true):=fun b c=>Hw;have hld:=fun b c=>HM (J b c) (m:=m) ac;generalize t.getD m 0=x at *;clear hd hm;repeat' (first
     |(apply zdk ?_;clear hK K)|apply Ry.o ?_|apply b4 ?_|(apply aD (fun z V=>?_) (fun z V=>?_)<;>try(cases z;done))|apply ak ?_|(apply zdl fun K hK=>?_)|(apply zdL 13 [(1,22),(5,22),(8,22),(13,22),(16,22),(19,22)] fun K hK=>?_)|(apply zdK ?_;try intro _)|(apply zdM ?_ ?_<;>clear hK K)|apply bl ?_|(apply nk (fun C I=>?_) (fun C I=>?_)<;>try(cases C;done))|apply au ?_|apply zdm ?_|apply am ?_|fail)
    all_goals first
     |exact zdR
     |(refine⟨eI,_,dG,?_⟩
       simp only[zdn];rw[Z,O,L];simp_all;done)
     |skip
    all_goals
     refine⟨ac,zdz,zdz,eN,jy,?_⟩;exact⟨J _ _,by rw[Z,O,L];simp_all⟩
   .have L:kW t n=false:=by rw[kW,cX h3];rfl
    repeat' (first
     |(apply zdk ?_;clear hK K)|apply Ry.o ?_|apply b4 ?_|(apply aD (fun z V=>?_) (fun z V=>?_)<;>try(cases z;done))|apply ak ?_|(apply zdl fun K hK=>?_)|(apply zdL 13 [(1,22),(5,22),(8,22),(13,22),(16,22),(19,22)] fun K hK=>?_)|(apply zdK ?_;try intro _)|(apply zdM ?_ ?_<;>clear hK K)|apply bl ?_|(apply nk (fun C I=>?_) (fun C I=>?_)<;>try(cases C;done))|apply au ?_|apply zdm ?_|fail)
    all_goals first
     |exact zdR
     |skip
    refine⟨ac,zdz,zdz,eN,jy,?_⟩;exact⟨Hw,by rw[Z,O,L];rfl⟩
  .have hjt':¬(j:Int)<l.length:=by omega
   repeat' (first
    |(apply zdk ?_;clear hK K)|apply Ry.o ?_|(apply aD (fun z V=>?_) (fun z V=>?_)<;>try(cases z;done))|apply ak ?_|(apply zdl fun K hK=>?_)|apply am ?_|apply zdr ?_)
   all_goals (refine⟨eI,_,eR,?_⟩;try simp only[zdn])
   rw[Z,oA ac];rfl)
end
section
def tyV3.tyF:=ad @cN (ad @b9 (ad @dA (ad @ea (ad @eV (ad @eO (ad @m8 (ad @m9 (ad @iq (ad @jL (@kQ))))))))))
open tyV3
structure VrX where
 u:Un
 g:Gr
 n:Nd
def ro(x:VrX):List AV:=[.agg x.u.cells,.agg x.g.cells,.agg x.n.cells]
theorem Zf(x y:VrX)(h:ro x=ro y):x=y:=by
 obtain⟨a,b,c⟩:=x;obtain⟨A,m,I⟩:=y;simp only[ro,cR,AV.agg.injEq,aX]at h;rw[Un.inj h.1,Gr.inj h.2.1,nl h.2.2]
def eS(u:Un)(g:Gr)(n:Nd):Bool:=
 if n.op=2 then decide (n.imm<g.params)
 else if n.op=23\/n.op=28 then decide (n.imm<u.arrays.length)
 else if n.op=30 then decide (n.imm<u.funcs.length)&&decide ((n.kids.length:Int)-1=(u.funcs.map Gr.params).getD n.imm.toNat 0)
 else true
def B8(x:VrX):Prop:=(x.n.op=30->0<=x.n.imm)/\x.n.kids.length<2^30/\x.u.arrays.length<2^30/\x.u.funcs.length<2^30
theorem Zg(ρ:Nat->Int)(x:VrX)(F:B8 x):bc Tryz.prog ρ 98 (ro x) (.bool (eS x.u x.g x.n)):=zer fit (pls:=pls) (l:=[]) trivial (.cons (.agg (sD _)) (.cons (.agg (Gr.pure _)) (.cons (.agg (qE _)) .nil))) (.bool _) (by
 obtain⟨u,g,n⟩:=x;obtain⟨o,j,A,i⟩:=F;have J:=yl 98;rw[ro];simp only[]at o j A i⊢;by_cases U:n.op=30
 .have h0:=o U;obtain⟨m,hm⟩:=eL h0;have e1:IntKind.wrap .i64 ((n.kids.length:Int)-1)=(n.kids.length:Int)-1:=ze3 ac ac;have hr:eS u g n=(decide ((m:Int)<u.funcs.length)&&decide ((n.kids.length:Int)-1=(u.funcs.map Gr.params).getD m 0)):=by
   rw[eS,ai ac,ai ac,az U,hm,dQ]
  by_cases O:m<u.funcs.length
  .have Z:(m:Int)<u.funcs.length:=by omega
   have I:u.funcs[m]?=some u.funcs[m]:=aR O;have Y:(u.funcs.map Gr.params).getD m 0=u.funcs[m].params:=by rw[cS,dK,I];rfl
   rw[Y]at hr;clear Y;generalize u.funcs[m]=q at *;refine zdv (M:=47) (rs:=[.tmp 6]) (J.call _) J.ice J.froz Tryz.func98 rfl rfl s9.2 rfl ?_;dsimp only[s9,zds,Nat.reduceAdd];repeat' (first
    |(apply zdk ?_;clear hK K)|apply Ry.o ?_|(apply aD (fun z V=>?_) (fun z V=>?_)<;>try(cases z;done))|apply ak ?_|(apply zdl fun K hK=>?_)|(apply zdL 8 [(1,21),(3,21),(4,21),(8,21),(9,21),(12,21),(14,21),(17,21)] fun K hK=>?_)|(apply zdK ?_;try intro _)|(apply zdM ?_ ?_<;>clear hK K)|apply bl ?_|(apply nk (fun C L=>?_) (fun C L=>?_)<;>try(cases C;done))|apply au ?_|apply zdm ?_|apply am ?_)
   all_goals first
    |exact zdR
    |(refine⟨eI,_,dG,?_⟩
      simp only[zdn];rw[hr];simp_all;done)
  .have Z:¬(m:Int)<u.funcs.length:=by omega
   refine zdv (M:=47) (rs:=[.tmp 6]) (J.call _) J.ice J.froz Tryz.func98 rfl rfl s9.2 rfl ?_;dsimp only[s9,zds,Nat.reduceAdd];repeat' (first
    |(apply zdk ?_;clear hK K)|apply Ry.o ?_|(apply aD (fun z V=>?_) (fun z V=>?_)<;>try(cases z;done))|apply ak ?_|(apply zdl fun K hK=>?_)|(apply zdL 8 [(1,21),(3,21),(4,21),(8,21),(9,21),(12,21),(14,21),(17,21)] fun K hK=>?_)|(apply zdK ?_;try intro _)|(apply zdM ?_ ?_<;>clear hK K)|apply bl ?_|(apply nk (fun C L=>?_) (fun C L=>?_)<;>try(cases C;done))|apply au ?_|apply zdm ?_|apply am ?_)
   all_goals first
    |exact zdR
    |(refine⟨eI,_,dG,?_⟩
      simp only[zdn];rw[hr,cX Z];rfl)
 .refine zdv (M:=47) (rs:=[.tmp 6]) (J.call _) J.ice J.froz Tryz.func98 rfl rfl s9.2 rfl ?_;dsimp only[s9,zds,Nat.reduceAdd];repeat' (first
   |(apply zdk ?_;clear hK K)|apply Ry.o ?_|(apply aD (fun z V=>?_) (fun z V=>?_)<;>try(cases z;done))|apply ak ?_|(apply zdl fun K hK=>?_)|(apply zdL 8 [(1,21),(3,21),(4,21),(8,21),(9,21),(12,21),(14,21),(17,21)] fun K hK=>?_)|(apply zdK ?_;try intro _)|(apply zdM ?_ ?_<;>clear hK K)|apply bl ?_|(apply nk (fun C L=>?_) (fun C L=>?_)<;>try(cases C;done))|apply au ?_|apply zdm ?_|apply am ?_)
  all_goals first
   |exact zdR
   |(refine⟨eI,_,dG,?_⟩
     simp only[zdn];simp_all[eS];done))
end
section
def tyV4.tyF:=ad @cN (ad @b9 (ad @ea (ad @eV (ad @eO (ad @xm (ad @A2 (ad @uJ (ad @A8 (@mZ)))))))))
open tyV4
noncomputable def HN:{c:SC // aC 81 (Tryz.f101.body.getD .skip)=c}:=by
 refine⟨?_,?_⟩;rotate_left
 .simp only[Tryz.f101,a5,aC,zdG,zdD,zdH,zdI,Nat.blt,Nat.ble];rfl
theorem B9{m:Nat}(h:m<2^32):IntKind.wrap .u32 (m:Int)=m:=by
 exact IntWalk.u32_in _ ac
theorem yh{a:Nat}(h:a<2^32):(BitVec.ofInt 32 (a:Int)).toNat=a:=by
 rw[BitVec.ofInt_natCast,BitVec.toNat_ofNat,Nat.mod_eq_of_lt h]
theorem HO{a b:Nat}(J:a<2^32)(z:b<2^32):IntKind.wrap .u32 (((BitVec.ofInt (IntKind.bits .u32) (a:Int) |||BitVec.ofInt (IntKind.bits .u32) (b:Int)).toNat:Nat):Int)=((a |||b:Nat):Int):=by
 have e:IntKind.bits .u32=32:=rfl;rw[e,BitVec.toNat_or,yh J,yh z];exact B9 (ye J z)
theorem Zh{a b:Nat}(J:a<2^32)(z:b<2^32):IntKind.wrap .u32 (((BitVec.ofInt (IntKind.bits .u32) (a:Int) &&& ~~~ BitVec.ofInt (IntKind.bits .u32) (b:Int)).toNat:Nat):Int)=((rg a b:Nat):Int):=by
 have e:IntKind.bits .u32=32:=rfl;have h:(BitVec.ofInt 32 (a:Int) &&& ~~~ BitVec.ofInt 32 (b:Int)).toNat=rg a b:=by
  apply B0;intro j;rw[yf];rw[B1,BitVec.getLsbD_and,BitVec.getLsbD_not,<-B1,<-B1,yh J,yh z];by_cases O:j<32
  .simp[O]
  .have:a.testBit j=false:=Nat.testBit_lt_two_pow (gz J (Nat.pow_le_pow_right ac ac));simp[this]
 rw[e,h];refine B9 ?_;rw[<-h];exact(BitVec.ofInt 32 (a:Int) &&& ~~~ BitVec.ofInt 32 (b:Int)).isLt
theorem HP{a b:Nat}(J:a<2^32):rg a b<2^32:=by
 apply HA;intro j O;rw[yf];have:a.testBit j=false:=Nat.testBit_lt_two_pow (gz J (Nat.pow_le_pow_right ac O));simp[this]
def eD(h:List Nat):List AV:=h.map fun(m:Nat)=>AV.int .u32 (m:Int)
def ve(h:List Nat):AV:=.lst (h.map fun(m:Nat)=>[AV.int .u32 (m:Int)])
theorem yi(h:List Nat):(eD h).length=h.length:=cE _
theorem HQ{D:BinOp->Sx->Sx->Option Bool}{t:TypeId}{J:IntKind}{m:Nat}(h:m<32):zep Tryz.prog D .shl t (.int .u32 1) (.int J (m:Int))=some (.int .u32 ((2^ m:Nat):Int)):=by
 have e:zep Tryz.prog D .shl t (.int .u32 1) (.int J (Int.ofNat m))=some (.int .u32 (IntKind.wrap .u32 (1*2^ min m 32))):=rfl;rw[show((m:Nat):Int)=Int.ofNat m from rfl,e,show min m 32=m by omega];have:(1:Int)*2^ m=((2^ m:Nat):Int):=by push_cast;omega
 rw[this,B9 (B2 ac h)]
theorem Zi{D:BinOp->Sx->Sx->Option Bool}{t:TypeId}{k:IntKind}{a b:Int}:zep Tryz.prog D .andNot t (.int k a) (.int k b)=some (.int k (k.wrap (BitVec.ofInt k.bits a &&& ~~~ BitVec.ofInt k.bits b).toNat)):=md
theorem Zj(n:Nat):gJ [.int .u32 0] n=eD (List.replicate n 0):=by
 induction n with
 |zero=>rfl
 |succ n ih=>simp only[gJ,ih];simp[eD,qF]
theorem HR{H:Hp}(n:Nat)(O:n<2^40):ze7 Tryz.prog H 74 (.int .i64 n) (.int .i64 n)=some (.sl H.next 0 n 1,H.alloc (.cells (eD (List.replicate n 0)) 0 true)):=by
 have M:zeL=70368744177664:=rfl;show ze7 Tryz.prog H 74 (.int .i64 (Int.ofNat n)) (.int .i64 (Int.ofNat n))=_;simp only[ze7,Tryz.underlying74,xq,Fs,Ft];rw[az ⟨aM _,jE,jE,rfl⟩,Zj]
theorem yj{r n m:Nat}(M:m<n):zdV Tryz.prog 74 (.sl r 0 n 1) (.int .i64 (m:Int))=some (.ptr r m):=by rw[mj Tryz.underlying74 xq M];simp
theorem yk{H:Hp}{r imm m:Nat}{h:List Nat}(C:H.get r=some (.cells (eD h) imm true))(M:m<h.length):zeX Tryz.prog H 125 (.ptr r m)=some (.int .u32 ((h.getD m 0:Nat):Int)):=by
 rw[ql Tryz.underlying125 rfl C,eD,dK,cS,aR M];rfl
theorem vg{H:Hp}{r m:Nat}{h:List Nat}(C:H.get r=some (.cells (eD h) 0 true))(M:m<h.length)(x:Nat):jA Tryz.prog H 125 (.ptr r m) (.int .u32 (x:Int))=some (H.set r (.cells (eD (h.set m x)) 0 true)):=by
 have K:m<(eD h).length:=by rw[yi];exact M
 rw[r8,C,xq,w5,Ab.cells_int,splice_one _ K,az ⟨rfl,cG _,K,rfl⟩];simp[eD,oy]
theorem Ca(H:Hp)(n:Nat):∀h:List Nat,iceL (iceV H (n+1)) (eD h)=some (eD h)
 |[]=>rfl
 |a::l=>by
  have:=Ca H n l;have e:iceV H (n+1) (.int .u32 (a:Int))=some (.int .u32 (a:Int)):=rfl;simp only[eD,dL,iceL,e]at this⊢;rw[this]
theorem HS(h:List Nat):jd 1 h.length (eD h)=h.map fun(m:Nat)=>[AV.int .u32 (m:Int)]:=by
 induction h with
 |nil=>rfl
 |cons a l ih=>simp only[eD,dL,dq,jd,BY,vc,uM,dY]at ih⊢;rw[ih]
theorem Zk{H:Hp}{l:List Nd}{r:Nat}(C:H.get r=some (.cells (eD (ze4 l l.length++List.replicate 0 0)) 0 true)):iceV H 3 (.sl r 0 l.length 1)=some (ve (ze4 l l.length)):=by
 have F:=s8 l l.length;rw[List.replicate_zero,bJ]at C;generalize ze4 l l.length=h at *;have e:iceV H 3 (.sl r 0 l.length 1)=match H.get r with
  |some (.cells Y _ _)=>match iceL (iceV H 2) ((Y.drop 0).take (l.length*1))with
   |some K=>if K.length=l.length*1 then some (.lst (jd 1 l.length K))else none
   |none=>none
  |_=>none:=rfl
 rw[e,C];simp only[dY,gD];rw[eJ (by rw[yi];omega),Ca];simp only[yi,F,bT];rw[<-F,HS];rfl
def rr(l:List Nd):Prop:=zeN l/\∀i n,l[i]?=some n->NdOk n i
theorem Cb{l:List Nd}(F:rr l){i j:Nat}(A:i<=l.length)(O:j<i):(ze4 l i).getD j 0<2^16:=by
 apply HA;intro t I;rw[yg i A (fun j n _ h=>F.2 j n h) j O t,cX ac];rfl
set_option maxRecDepth 100000 in
theorem Zl(ρ:Nat->Int)(l:List Nd)(hl:rr l):bc Tryz.prog ρ 101 [zeu l] (ve (ze4 l l.length)):=zgb (m:=3) (cfg:=zdp pls [ny]) fit (lE ρ) (fk.look ⟨xQ ρ,trivial⟩) (.cons (zfV _) .nil) (by
 have hl1:=hl.1.1;have hw:Plain (zdp pls [ny]) 101:=zej (fun _=>rfl) rfl;have q16:(16:Int)≠0:=dk;have hmk:∀H:Hp,ze7 Tryz.prog H 74 (.int .i64 l.length) (.int .i64 l.length)=some (.sl H.next 0 l.length 1,H.alloc (.cells (eD (List.replicate l.length 0)) 0 true)):=fun H=>HR _ ac;refine zdv (M:=81) (rs:=[.tmp 2]) (hw.call _) hw.ice hw.froz Tryz.func101 rfl rfl HN.2 rfl ?_;dsimp only[HN,zds,Nat.reduceAdd];repeat' (first
  |(apply zdk ?_;clear hK K)|apply Rx.o ?_|apply ak ?_|(apply zdl fun K hK=>?_)|apply au ?_|fail)
 refine zef [2,3,12,13] [] 14 l.length (fun i E H=>H.get 0=some (.cells (eD (ze4 l i++List.replicate (l.length-i) 0)) 0 true)) eE (by rw[zdq,az dj];simp[ze4]) ?_;rintro i E g hi hcE hrH hnH hsI C;(try simp only[zdO,zdF,aX,zdy,zdJ,Nat.reduceBEq, *]at hcE);(try simp only[zdF,zdJ, *]at hrH);(try simp only[zdA,zec,bC]at hnH);have hB0:(0 == g.next)=false:=zdC ac;have hC0:(g.next == 0)=false:=zdC ac;have hn2:1<=g.next:=hnH
 by_cases hlt:i<l.length
 .have hlt':(i:Int)<l.length:=by omega
  have hgx:l[i]?=some l[i]:=aR hlt;have A:=hl.2 i _ hgx;have hnk:=hl.1.2 _ (dr hlt);have hms:ze4 l (i+1)=ze4 l i++[rh l[i] (ze4 l i)]:=by rw[ze4,hgx]
  have hmlt:∀j,j<i->(ze4 l i).getD j 0<2^16:=fun j hj=>Cb hl ac hj;have hml:=s8 l i;generalize l[i]=n at *;generalize ze4 l i=h at *;have hrep:List.replicate (l.length-i) (0:Nat)=0::List.replicate (l.length-(i+1)) 0:=GM;rw[hrep]at C;have hzl:(h++0::List.replicate (l.length-(i+1)) (0:Nat)).length=l.length:=cf;generalize List.replicate (l.length-(i+1)) (0:Nat)=z at *;have e0:(0 == g.next)=false:=zdC ac;have hgA:∀b c,((g.alloc b).set g.next c).get 0=some (.cells (eD (h++0::z)) 0 true):=fun b c=>Hv;have hix:zdV Tryz.prog 74 (.sl 0 0 l.length 1) (.int .i64 (i:Int))=some (.ptr 0 i):=yj hlt;repeat' (first
   |(apply zdk ?_;clear hK K)|apply Ry.o ?_|apply ak ?_|(apply zdl fun K hK=>?_)|fail)
  (apply aS (fun Z V=>?_) (fun Z V=>?_)<;>try(cases Z;done));repeat' (first
   |(apply zdk ?_;clear hK K)|apply Rx.o ?_|apply bp ?_|apply ak ?_|(apply zdl fun K hK=>?_)|apply au ?_|apply zdm ?_|fail)
  generalize hHb:Hp.set (g.alloc _) _ _=Hb;have nb:g.next+1<=Hb.next:=BS
  have gb:Hb.get 0=some (.cells (eD (h++0::z)) 0 true):=by rw[<-hHb];exact hgA _ _
  have g5:Hb.get g.next=some (.cells n.cells 0 true):=BT
  clear hHb hgA;have hset:∀x:Nat,(h++0::z).set i x=h++x::z:=fun x=>Hy;refine sN (fun E' H'=>E'.at 2=.nilS/\E'.at 3=.sl 0 0 l.length 1/\E'.at 4=.int .i64 i/\E'.at 5=.ptr g.next 0/\E'.at 12=zeu l/\E'.at 13=.int .i64 l.length/\E'.at 14=.int .i64 i/\H'.get 0=some (.cells (eD (h++(if n.op=3 then 2^ (n.imm.tdiv 16).toNat else 0)::z)) 0 true)/\H'.get g.next=some (.cells n.cells 0 true)/\g.next+1<=H'.next) ?_ ?_
  .by_cases h3:n.op=3
   .obtain⟨m0,zeW⟩:=A.lv h3;have hd:n.imm.tdiv 16=n.imm/16:=kV m0;have hd0:0<=n.imm.tdiv 16:=by rw[hd];omega
    obtain⟨m,hm⟩:=eL hd0;have hm16:m<16:=ac;rw[az h3,hm,dQ];have ew:IntKind.wrap .i64 (n.imm.tdiv 16)=m:=by rw[hm];exact ze3 ac ac
    have ew2:IntKind.wrap .u64 (m:Int)=m:=IntWalk.u64_in _ ac;have hsh:∀(D:BinOp->Sx->Sx->Option Bool) (t:TypeId),zep Tryz.prog D .shl t (.int .u32 1) (.int .u64 (m:Int))=some (.int .u32 ((2^ m:Nat):Int)):=fun D t=>HQ ac;clear hd hm hd0;repeat' (first
     |apply Ry.o ?_|(apply aD (fun Z V=>?_) (fun Z V=>?_)<;>try(cases Z;done))|(apply zdl fun K hK=>?_)|fail)
    refine mY zeM zeM (vg gb ac _) ?_;repeat' (first
     |(apply zdk ?_;clear hK K)|fail)
    exact⟨rfl,eE,eE,eE,eE,eE,eE,eE,by rw[aW,az rfl,hset],by rw[aW,ai ac];exact g5,nb⟩
   .rw[ai h3];repeat' (first
     |(apply aD (fun Z V=>?_) (fun Z V=>?_)<;>try(cases Z;done))|apply zdm ?_|fail)
    exact⟨rfl,eE,eE,eE,eE,eE,eE,eE,gb,g5,nb⟩
  clear gb g5 nb;rintro E3 H3 ⟨k2,k3,zfZ,zfi,k12,k13,k14,g30,g35,n3⟩;dsimp only[jt];repeat' (first
   |(apply zdk ?_;clear hK K)|apply Rx.o ?_|apply ak ?_|(apply zdl fun K hK=>?_)|fail)
  refine sN (fun E' H'=>E'.at 2=.nilS/\E'.at 3=.sl 0 0 l.length 1/\E'.at 4=.int .i64 i/\E'.at 5=.ptr g.next 0/\E'.at 12=zeu l/\E'.at 13=.int .i64 l.length/\E'.at 14=.int .i64 i/\(n.op=31->E'.at 6=.int .u32 ((2^ n.imm.toNat:Nat):Int))/\H'=H3) ?_ ?_
  .by_cases J:n.op=31
   .obtain⟨m0,zeW,_⟩:=A.lp J;obtain⟨m,hm⟩:=eL m0;have ew2:IntKind.wrap .u64 (m:Int)=m:=IntWalk.u64_in _ ac;have hsh:∀(D:BinOp->Sx->Sx->Option Bool) (t:TypeId),zep Tryz.prog D .shl t (.int .u32 1) (.int .u64 (m:Int))=some (.int .u32 ((2^ m:Nat):Int)):=fun D t=>HQ ac;rw[hm,dQ];repeat' (first
     |(apply zdk ?_;clear hK K)|apply Ry.o ?_|(apply aD (fun Z V=>?_) (fun Z V=>?_)<;>try(cases Z;done))|(apply zdl fun K hK=>?_)|fail)
    exact⟨rfl,eE,eE,eE,eE,eE,eE,eE,fun _=>eE,rfl⟩
   .repeat' (first
     |(apply aD (fun Z V=>?_) (fun Z V=>?_)<;>try(cases Z;done))|apply zdm ?_|fail)
    exact⟨rfl,eE,eE,eE,eE,eE,eE,eE,fun h=>absurd h J,rfl⟩
  clear k2 k3 zfZ zfi k12 k13 k14 E3;rintro E3 _ ⟨k2,k3,zfZ,zfi,k12,k13,k14,zf0,rfl⟩;dsimp only[jt];repeat' (first
   |(apply zdk ?_;clear hK K)|apply Rx.o ?_|apply ak ?_|(apply zdl fun K hK=>?_)|apply au ?_|fail)
  have hmm:rh n h=nE n h 0 n.kids (if n.op=3 then 2^ (n.imm.tdiv 16).toNat else 0):=rfl;have o:(if n.op=3 then 2^ (n.imm.tdiv 16).toNat else 0:Nat)<2^32:=by
   by_cases h3:n.op=3
   .rw[az h3];obtain⟨m0,zeW⟩:=A.lv h3;have hd:n.imm.tdiv 16=n.imm/16:=kV m0;exact B2 ac ac
   .rw[ai h3];decide
  generalize (if n.op=3 then 2^ (n.imm.tdiv 16).toNat else 0:Nat)=cur0 at *;refine zef [2,3,4,5,6,12,13,14,38,39] [] 40 n.kids.length (fun j E H=>∃L,H.get 0=some (.cells (eD (h++L::z)) 0 true)/\H.get g.next=some (.cells n.cells 0 true)/\L<2^32/\rh n h=nE n h j (n.kids.drop j) L) eE ⟨cur0,g30,g35,o,by rw[hmm,dY]⟩ ?_;clear g30 g35 o hmm;rintro j E4 H4 hj hcE hrH hnH hsI ⟨L,F,g45,U,hJ⟩;(try simp only[zdO,zdF,aX,zdy,zdJ,Nat.reduceBEq, *]at hcE);(try simp only[zdF, *]at hrH);(try simp only[zdA,zdQ,zec,bC,Nat.reduceAdd]at hnH);by_cases hjt:j<n.kids.length
  .have hjt':(j:Int)<n.kids.length:=by omega
   have hgy:n.kids[j]?=some n.kids[j]:=aR hjt;obtain⟨d0,d1⟩:=A.kids _ (dr hjt);have O:nE n h j (n.kids.drop j) L=nE n h (j+1) (n.kids.drop (j+1)) (L |||pC n h j n.kids[j]):=by rw[fq hjt,nE]
   generalize n.kids[j]=kd at *;obtain⟨d,rfl⟩:=eL d0;have hdi:d<i:=ac;have hixd:zdV Tryz.prog 74 (.sl 0 0 l.length 1) (.int .i64 (d:Int))=some (.ptr 0 d):=yj ac;have hlc:∀x:Nat,(h++x::z).length=l.length:=fun x=>by rw[<-hzl];simp
   have hldi:=yk F (m:=i) vb;have hldd:=yk F (m:=d) vb;have hgi:(h++L::z).getD i 0=L:=by rw[cS,fZ ac,hml,gT];rfl
   have hgd:(h++L::z).getD d 0=h.getD d 0:=by rw[cS,fz ac,<-cS]
   rw[hgi]at hldi;rw[hgd]at hldd;have hdl:=hmlt d hdi;have Y:∀x:Nat,(h++L::z).set i x=h++x::z:=fun x=>Hy;have hkd:pC n h j (d:Int)=if n.op=31/\dR n.kids.length<=j then rg (h.getD d 0) (2^ n.imm.toNat)else h.getD d 0:=by rw[pC,dQ]
   rw[hkd]at O;generalize h.getD d 0=y at *;have hy:y<2^32:=ac;have e1:=HO U hy;by_cases J:n.op=31
   .have k6':=zf0 J;obtain⟨m0,zeW,_⟩:=A.lp J;have hown:2^ n.imm.toNat<2^32:=B2 ac ac;by_cases hlv:dR n.kids.length<=j
    .rw[az ⟨J,hlv⟩]at O;have e2:=Zh hy hown;have e3:=HO U (HP (b:=2^ n.imm.toNat) hy);have gh0:=@Zi;repeat' (first
      |(apply zdk ?_;clear hK K)|apply Ry.o ?_|(apply bL ?_;first|refine Rx.k (sL (fun _=>rfl) _ ac _) ?_)|(apply a2 (fun C I=>?_) (fun C I=>?_)<;>try(cases C;done))|(apply aD (fun Z V=>?_) (fun Z V=>?_)<;>try(cases Z;done))|apply ak ?_|(apply zdl fun K hK=>?_)|(apply ou 14 fun K hK=>?_)|apply au ?_|apply zdm ?_|fail)
     refine mY zeM zeM (vg F vb _) ?_;repeat' (first
      |(apply zdk ?_;clear hK K)|apply Rx.o ?_|(apply zdl fun K hK=>?_)|fail)
     refine⟨ac,zdz,zdz,eN,pz,?_⟩;exact⟨_,BU,BW,ye U (HP hy),by rw[hJ,O]⟩
    .rw[ai (fun c=>hlv c.2)]at O;repeat' (first
      |(apply zdk ?_;clear hK K)|apply Ry.o ?_|(apply bL ?_;first|refine Rx.k (sL (fun _=>rfl) _ ac _) ?_)|(apply a2 (fun C I=>?_) (fun C I=>?_)<;>try(cases C;done))|(apply aD (fun Z V=>?_) (fun Z V=>?_)<;>try(cases Z;done))|apply ak ?_|(apply zdl fun K hK=>?_)|(apply ou 15 fun K hK=>?_)|apply au ?_|apply zdm ?_|fail)
     refine mY zeM zeM (vg F vb _) ?_;repeat' (first
      |(apply zdk ?_;clear hK K)|apply Rx.o ?_|(apply zdl fun K hK=>?_)|fail)
     refine⟨ac,zdz,zdz,eN,pz,?_⟩;exact⟨_,BU,BW,ye U hy,by rw[hJ,O]⟩
   .rw[ai (fun c=>J c.1)]at O;repeat' (first
     |(apply zdk ?_;clear hK K)|apply Ry.o ?_|(apply a2 (fun C I=>?_) (fun C I=>?_)<;>try(cases C;done))|(apply aD (fun Z V=>?_) (fun Z V=>?_)<;>try(cases Z;done))|apply ak ?_|(apply zdl fun K hK=>?_)|(apply ou 15 fun K hK=>?_)|apply au ?_|apply zdm ?_|fail)
    refine mY zeM zeM (vg F vb _) ?_;repeat' (first
     |(apply zdk ?_;clear hK K)|apply Rx.o ?_|(apply zdl fun K hK=>?_)|fail)
    refine⟨ac,zdz,zdz,eN,pz,?_⟩;exact⟨_,BU,BW,ye U hy,by rw[hJ,O]⟩
  .have hjt':¬(j:Int)<n.kids.length:=by omega
   have hjd:n.kids.drop j=[]:=oA ac;rw[hjd]at hJ;have hJ2:rh n h=L:=hJ;repeat' (first
    |(apply zdk ?_;clear hK K)|apply Ry.o ?_|(apply aD (fun Z V=>?_) (fun Z V=>?_)<;>try(cases Z;done))|apply ak ?_|(apply zdl fun K hK=>?_)|apply zdr ?_)
   refine⟨ac,zdz,zdz,eN,jy,?_⟩;rw[hms,hJ2,gB];exact F
 .have hlt':¬(i:Int)<l.length:=by omega
  repeat' (first
   |(apply zdk ?_;clear hK K)|apply Ry.o ?_|(apply aD (fun Z V=>?_) (fun Z V=>?_)<;>try(cases Z;done))|apply ak ?_|(apply zdl fun K hK=>?_)|apply am ?_|apply zdr ?_)
  all_goals (refine⟨eI,_,eR,?_⟩;try simp only[zdn])
  have hie:i=l.length:=ac;rw[hie,gT]at C;exact Zk C)
end
section
def tyEvG.tyF:=ad @cN (ad @b9 (ad @ea (ad @eV (ad @eO (ad @xm (ad @A2 (ad @uJ (@A8))))))))
open tyEvG
noncomputable def HT:{c:SC // aC 69 (Tryz.f32.body.getD .skip)=c}:=by
 refine⟨?_,?_⟩;rotate_left
 .simp only[Tryz.f32,a5,aC,zdG,zdD,zdH,zdI,Nat.blt,Nat.ble];rfl
structure Flat9 (l:List Nd):Prop where
 ok:zeN l
 kids:∀(i:Nat) nd,l[i]?=some nd->∀k∈nd.kids,0<=k/\k<i
 op:∀nd∈l,nd.op≠3/\nd.op≠31
def zgi(n:Nat):AV:=ve (List.replicate n 0)
theorem Zm{H:Hp}{n r:Nat}(C:H.get r=some (.cells (eD (List.replicate n 0)) 0 true)):iceV H 3 (.sl r 0 n 1)=some (zgi n):=by
 have e:iceV H 3 (.sl r 0 n 1)=match H.get r with
  |some (.cells Y _ _)=>match iceL (iceV H 2) ((Y.drop 0).take (n*1))with
   |some K=>if K.length=n*1 then some (.lst (jd 1 n K))else none
   |none=>none
  |_=>none:=rfl
 rw[e,C];have F:(eD (List.replicate n 0)).length=n:=by rw[yi,j7]
 simp only[dY,gD];rw[eJ ac,Ca];simp only[F,bT];have:=HS (List.replicate n 0);rw[j7]at this;rw[this];rfl
set_option maxRecDepth 100000 in
theorem Zn(ρ:Nat->Int)(l:List Nd)(hl:Flat9 l):bc Tryz.prog ρ 32 [zeu l] (zgi l.length):=zgb (m:=3) (cfg:=zdp pls []) fit (lE ρ) (fun f args r h=>by simp[zdp,zem]at h) (.cons (zfV _) .nil) (by
 have hl1:=hl.ok.1;have hw:Plain (zdp pls []) 32:=zej (fun _=>rfl) rfl;have hmk:∀H:Hp,ze7 Tryz.prog H 74 (.int .i64 l.length) (.int .i64 l.length)=some (.sl H.next 0 l.length 1,H.alloc (.cells (eD (List.replicate l.length 0)) 0 true)):=fun H=>HR _ ac;have hor:∀(D:BinOp->Sx->Sx->Option Bool),zep Tryz.prog D .or 125 (.int .u32 0) (.int .u32 0)=some (.int .u32 0):=fun D=>rfl;refine zdv (M:=69) (rs:=[.tmp 2]) (hw.call _) hw.ice hw.froz Tryz.func32 rfl rfl HT.2 rfl ?_;dsimp only[HT,zds,Nat.reduceAdd];repeat' (first
  |(apply zdk ?_;clear hK K)|apply Rx.o ?_|apply ak ?_|(apply zdl fun K hK=>?_)|apply au ?_|apply zdm ?_|apply am ?_|apply zdr ?_)
 refine zef [2,3,12,13] [] 14 l.length (fun i E H=>H.get 0=some (.cells (eD (List.replicate l.length 0)) 0 true)) eE yc ?_;rintro i E g hi I F U hsI C;(try simp only[zdO,zdF,aX,zdy,zdJ,Nat.reduceBEq,Nat.reduceAdd,Nat.reduceLeDiff,tyF, *]at I);(try simp only[zdO,zdF,aX,zdy,zdJ,Nat.reduceBEq,Nat.reduceAdd,Nat.reduceLeDiff,tyF, *]at F);(try simp only[zdA,zdQ,zec,bC,Nat.reduceAdd]at U);have hB0:(0 == g.next)=false:=zdC ac;have hC0:(g.next == 0)=false:=zdC ac;have hn2:1<=g.next:=U
 by_cases o:i<l.length
 .have hlt':(i:Int)<l.length:=by omega
  have hgx:l[i]?=some l[i]:=aR o;have hkd:=hl.kids i _ hgx;have hnk:=hl.ok.2 _ (dr o);obtain⟨o3,o31⟩:=hl.op _ (dr o);generalize l[i]=n at *;obtain⟨op,Y,V⟩:=n;simp only at hkd hnk o3 o31;have ec:(Nd.mk op Y V).cells=[.int .i64 op,.int .i64 Y,.lst (V.map fun k=>[.int .i64 k])]:=rfl;have agg39':∀a b c:AV,zd7 3 [a,b,c]=some (.agg [a,b,c]):=fun _ _ _=>rfl;have hix:zdV Tryz.prog 74 (.sl 0 0 l.length 1) (.int .i64 (i:Int))=some (.ptr 0 i):=yj o;repeat' (first
   |(apply zdk ?_;clear hK K)|apply Ry.o ?_|apply b4 ?_|(apply a2 (fun C L=>?_) (fun C L=>?_)<;>try(cases C;done))|(apply aD (fun z Z=>?_) (fun z Z=>?_)<;>try(cases z;done))|apply ak ?_|(apply zdl fun K hK=>?_)|apply au ?_|apply zdm ?_|apply am ?_|apply zdr ?_)
  generalize O:Hp.set (g.alloc _) _ _=Hb;have nb:g.next+1<=Hb.next:=by rw[<-O];exact aM _
  have gb:Hb.get 0=some (.cells (eD (List.replicate l.length 0)) 0 true):=by
   rw[<-O,aW,ai ac,zdq,ai ac];exact C
  have g5:Hb.get g.next=some (.cells [.int .i64 op,.int .i64 Y,.lst (V.map fun k=>[.int .i64 k])] 0 true):=by rw[<-O,aW,az rfl]
  clear O;refine zef [2,3,4,5,12,13,14,20,21] [] 22 V.length (fun j E H=>H.get 0=some (.cells (eD (List.replicate l.length 0)) 0 true)/\H.get g.next=some (.cells [.int .i64 op,.int .i64 Y,.lst (V.map fun k=>[.int .i64 k])] 0 true)) eE ⟨gb,g5⟩ ?_;clear gb g5;rintro j E3 A hj I F U hsI ⟨gb,g5⟩;(try simp only[zdO,zdF,aX,zdy,zdJ,Nat.reduceBEq,Nat.reduceAdd,Nat.reduceLeDiff,tyF, *]at I);(try simp only[zdO,zdF,aX,zdy,zdJ,Nat.reduceBEq,Nat.reduceAdd,Nat.reduceLeDiff,tyF, *]at F);(try simp only[zdA,zdQ,zec,bC,Nat.reduceAdd]at U);have n3:g.next+1<=A.next:=ac
  by_cases hjt:j<V.length
  .have hjt':(j:Int)<V.length:=by omega
   have hgk:V[j]?=some V[j]:=aR hjt;obtain⟨q0,q1⟩:=hkd _ (dr hjt);obtain⟨m,hm⟩:=eL q0;rw[hm]at hgk q1;have hml:m<l.length:=ac;have hix2:zdV Tryz.prog 74 (.sl 0 0 l.length 1) (.int .i64 (m:Int))=some (.ptr 0 m):=yj hml;have l1:zeX Tryz.prog A 125 (.ptr 0 m)=some (.int .u32 0):=by
    rw[yk gb (by rw[j7];exact hml)];simp[cS,pe,hml]
   have l2:zeX Tryz.prog A 125 (.ptr 0 i)=some (.int .u32 0):=by
    rw[yk gb (by rw[j7];exact o)];simp[cS,pe,o]
   have s1:jA Tryz.prog A 125 (.ptr 0 i) (.int .u32 0)=some (A.set 0 (.cells (eD (List.replicate l.length 0)) 0 true)):=by
    have:=vg gb (m:=i) (by rw[j7];exact o) 0;rw[show(List.replicate l.length 0).set i 0=List.replicate l.length 0 by simp]at this;exact this
   clear hm;repeat' (first
    |(apply zdk ?_;clear hK K)|apply Ry.o ?_|apply b4 ?_|(apply a2 (fun C L=>?_) (fun C L=>?_)<;>try(cases C;done))|(apply aD (fun z Z=>?_) (fun z Z=>?_)<;>try(cases z;done))|apply ak ?_|(apply zdl fun K hK=>?_)|apply au ?_|apply zdm ?_|apply am ?_|apply zdr ?_)
   generalize J:Hp.set A 0 _=Hc;have nc:A.next<=Hc.next:=by rw[<-J];exact aM _
   have gc:Hc.get 0=some (.cells (eD (List.replicate l.length 0)) 0 true):=BV;have gd:Hc.get g.next=some (.cells [.int .i64 op,.int .i64 Y,.lst (V.map fun k=>[.int .i64 k])] 0 true):=by rw[<-J,aW,ai ac];exact g5
   clear J;refine⟨ac,zdz,zdz,eN,Hu,?_⟩;exact⟨gc,gd⟩
  .have hjt':¬(j:Int)<V.length:=by omega
   repeat' (first
    |(apply zdk ?_;clear hK K)|apply Ry.o ?_|apply b4 ?_|(apply a2 (fun C L=>?_) (fun C L=>?_)<;>try(cases C;done))|(apply aD (fun z Z=>?_) (fun z Z=>?_)<;>try(cases z;done))|apply ak ?_|(apply zdl fun K hK=>?_)|apply au ?_|apply zdm ?_|apply am ?_|apply zdr ?_)
   refine⟨ac,zdz,zdz,eN,jy,?_⟩;exact gb
 .have hlt':¬(i:Int)<l.length:=by omega
  repeat' (first
   |(apply zdk ?_;clear hK K)|apply Ry.o ?_|apply b4 ?_|(apply a2 (fun C L=>?_) (fun C L=>?_)<;>try(cases C;done))|(apply aD (fun z Z=>?_) (fun z Z=>?_)<;>try(cases z;done))|apply ak ?_|(apply zdl fun K hK=>?_)|apply au ?_|apply zdm ?_|apply am ?_|apply zdr ?_)
  all_goals (refine⟨eI,_,eR,?_⟩;try simp only[zdn])
  exact Zm C)
end
section
def tyEvH.tyF:=ad @b9 (ad @dA (ad @eV (ad @eO (ad @m8 (ad @m9 (ad @iq (ad @jL (ad @lJ (ad @pj (ad @qv (ad @qy (ad @qz (ad @qA (ad @qB (ad @cN (ad @qw (@FA)))))))))))))))))
open tyEvH
noncomputable def HU:{c:SC // aC 35 (Tryz.f35.body.getD .skip)=c}:=by
 refine⟨?_,?_⟩;rotate_left
 .simp only[Tryz.f35,a5,aC,zdG,zdD,zdH,zdI,Nat.blt,Nat.ble];rfl
noncomputable def HV:{c:SC // aC 26 (Tryz.f33.body.getD .skip)=c}:=by
 refine⟨?_,?_⟩;rotate_left
 .simp only[Tryz.f33,a5,aC,zdG,zdD,zdH,zdI,Nat.blt,Nat.ble];rfl
theorem HW{H:Hp}(n:Nat)(O:n<2^40):ze7 Tryz.prog H 33 (.int .i64 n) (.int .i64 n)=some (.sl H.next 0 n 1,H.alloc (.cells (zew (List.replicate n 0)) 0 true)):=by
 have M:zeL=70368744177664:=rfl;show ze7 Tryz.prog H 33 (.int .i64 (Int.ofNat n)) (.int .i64 (Int.ofNat n))=_;simp only[ze7,Tryz.underlying33,uD,AL,AM];rw[az ⟨aM _,jE,jE,rfl⟩];have:∀n:Nat,gJ [AV.int .i64 0] n=zew (List.replicate n 0):=by
  intro n;induction n with
  |zero=>rfl
  |succ n ih=>simp only[gJ,ih,qF];rfl
 rw[this]
theorem Zo(k:Nat)(l1:List Int)(n:Int):(List.replicate (k+1) (0:Int)++l1.reverse).set k n=List.replicate k 0++(l1++[n]).reverse:=by
 rw[List.replicate_succ',gB,List.set_append,ai (by rw[j7];omega),j7,gT,List.reverse_append];rfl
theorem Zp(n:Nat):gJ [AV.bool false,.int .i64 0,.nilP,.nilP] n=(List.replicate n [AV.bool false,.int .i64 0,.nilP,.nilP]).flatten:=by
 induction n with
 |zero=>rfl
 |succ n ih=>simp only[gJ,ih,qF,lA]
theorem Zq{H:Hp}(n:Nat)(O:n<2^30):ze7 Tryz.prog H 127 (.int .i64 n) (.int .i64 n)=some (.sl H.next 0 n 4,H.alloc (.cells (List.replicate n [AV.bool false,.int .i64 0,.nilP,.nilP]).flatten 0 true)):=by
 have M:zeL=70368744177664:=rfl;show ze7 Tryz.prog H 127 (.int .i64 (Int.ofNat n)) (.int .i64 (Int.ofNat n))=_;simp only[ze7,Tryz.underlying127,uK,Fx,Fy];rw[az ⟨aM _,jE,jE,rfl⟩,Zp]
theorem Zr(x y w:List (List AV))(a b cc d p q n:Nat)(f:Int):zeI Tryz.prog 131 [(0,.agg [.lst x,.lst y]),(1,.sl a b cc d),(2,.int .i64 f),(3,.ptr p 0),(4,.lst w),(5,.sl q 0 n 4)]=some (.agg [.lst x,.lst y,.sl a b cc d,.int .i64 f,.ptr p 0,.lst w,.sl q 0 n 4,.nilP,.nilP,.nilP,.nilP,.nilP,.nilP,.nilP,.nilP,.nilP,.nilP,.nilP,.nilP,.nilP,.nilP,.nilP,.nilP]):=af
section
variable {tb:List En} (hT:EvT tb) {H:Hp}
include hT
theorem Zs{S:Nat->Prop}{v:AV}{l:List Int}(i:jh S H v l)(hlen:l.length<2^30):zdw Tryz.prog (zdp pls tb) 35 [v] H fun w H'=>w=.sl H.next 0 l.length 1/\H.next+1<=H'.next/\H'.get H.next=some (.cells (zew l.reverse) 0 true)/\∀r,r<H.next->H'.get r=H.get r:=by
 have A:Plain (zdp pls tb) 35:=hT.plain dj;have np:∀E:ax,zdo E (.const (.pointer none))=some .nilP:=fun _=>rfl;have nq:∀(D:BinOp->Sx->Sx->Option Bool),zep Tryz.prog D .neq 77 .nilP .nilP=some (.bool false):=fun D=>af;have pq:∀(D:BinOp->Sx->Sx->Option Bool) (q:Nat),zep Tryz.prog D .neq 77 (.ptr q 0) .nilP=some (.bool true):=fun D q=>af;have hmk:=HW (H:=H) l.length ac;refine zdv (M:=35) (rs:=[.tmp 2]) (A.call _) A.ice A.froz Tryz.func35 rfl rfl HU.2 rfl ?_;dsimp only[HU,zds,Nat.reduceAdd];repeat' (first
  |(apply zdk ?_;clear hK K)|apply Rx.o ?_|apply bp ?_|(apply aS (fun Z V=>?_) (fun Z V=>?_)<;>try(cases Z;done))|apply ak ?_|(apply zdl fun K hK=>?_)|apply au ?_|apply zdm ?_|apply am ?_|apply zdr ?_)
 refine qj (fun m E Y=>∃(l1 l2:List Int) (C:AV),m=l2.length/\l1++l2=l/\jh S H C l2/\E.at 0=v/\E.at 3=.int .i64 l1.length/\E.at 4=C/\Y=H) ?_ (n:=l.length) ?_
 .rintro m E Y ⟨l1,l2,C,I,F,U,zex,k3,zfZ,rfl⟩;cases l2 with
  |nil=>
   rw[show C=.nilP from U]at zfZ;rw[bJ]at F;rw[F]at k3;clear F;repeat' (first
    |(apply zdk ?_;clear hK K)|apply Rx.o ?_|apply bp ?_|(apply aS (fun Z V=>?_) (fun Z V=>?_)<;>try(cases Z;done))|apply ak ?_|(apply zdl fun K hK=>?_)|apply au ?_|apply zdm ?_|apply am ?_|apply zdr ?_)
   refine qj (fun m E J=>∃(l1 l2:List Int) (C:AV),m=l2.length/\l1++l2=l/\jh S Y C l2/\E.at 3=.int .i64 l2.length/\E.at 5=.sl Y.next 0 l.length 1/\E.at 6=C/\J.get Y.next=some (.cells (zew (List.replicate l2.length 0++l1.reverse)) 0 true)/\Y.next+1<=J.next/\∀r,r<Y.next->J.get r=Y.get r) ?_ (n:=l.length) ?_
   .rintro m E J ⟨l1,l2,C,I,F,U,k3,zfi,zf0,g,n3,O⟩;cases l2 with
    |nil=>
     rw[show C=.nilP from U]at zf0;rw[bJ]at F;rw[F]at g;clear F;repeat' (first
      |(apply zdk ?_;clear hK K)|apply Rx.o ?_|apply bp ?_|(apply aS (fun Z V=>?_) (fun Z V=>?_)<;>try(cases Z;done))|apply ak ?_|(apply zdl fun K hK=>?_)|apply au ?_|apply zdm ?_|apply am ?_|apply zdr ?_)
     all_goals (refine⟨eI,_,eR,?_⟩;try simp only[zdn])
     exact⟨mP,n3,by simpa using g,O⟩
    |cons n l2=>
     obtain⟨q,w,rfl,_,hq,gq,L⟩:=U;have o:l1.length+(l2.length+1)=l.length:=by rw[<-F,ep,dq]
     have gq3:=(O q hq).trans gq;rw[dq]at g k3;have e1:IntKind.wrap .i64 (((l2.length+1:Nat):Int)-1)=(l2.length:Int):=by rw[show((l2.length+1:Nat):Int)-1=(l2.length:Int) by omega];exact ze3 ac ac
     have x1:zdV Tryz.prog 33 (.sl Y.next 0 l.length 1) (.int .i64 (l2.length:Int))=some (.ptr Y.next l2.length):=BR ac;have s1:=Hr (H:=J) (q:=Y.next) (j:=l2.length) n g (by rw[ep,j7];omega);rw[Zo]at s1;clear g;have y1:(q == Y.next)=false:=zdC ac;repeat' (first
      |(apply zdk ?_;clear hK K)|apply Rx.o ?_|apply bp ?_|(apply aS (fun Z V=>?_) (fun Z V=>?_)<;>try(cases Z;done))|apply ak ?_|(apply zdl fun K hK=>?_)|apply au ?_|apply zdm ?_|apply am ?_|apply zdr ?_)
     refine⟨l2.length,by rw[I];exact cP _,l1++[n],l2,w,rfl,by rw[<-F,gB];rfl,L,eE,eE,eE,ik,n3,fun r hr=>by rw[aW,ai ac];exact O r hr⟩
   .exact⟨[],l,v,rfl,rfl,i,eE,eE,eE,by rw[zdq,az rfl];simp,aM _,fun r hr=>fy⟩
  |cons n l2=>
   obtain⟨q,w,rfl,_,hq,gq,L⟩:=U;have o:l1.length+(l2.length+1)=l.length:=by rw[<-F,ep,dq]
   have e1:IntKind.wrap .i64 ((l1.length:Int)+1)=((l1.length+1:Nat):Int):=by
    have:=ze3 (z:=((l1.length+1:Nat):Int)) ac ac;rw[<-this];rfl
   repeat' (first
    |(apply zdk ?_;clear hK K)|apply Rx.o ?_|apply bp ?_|(apply aS (fun Z V=>?_) (fun Z V=>?_)<;>try(cases Z;done))|apply ak ?_|(apply zdl fun K hK=>?_)|apply au ?_|apply zdm ?_|apply am ?_|apply zdr ?_)
   exact⟨l2.length,by rw[I];exact cP _,l1++[n],l2,w,rfl,by rw[<-F,gB];rfl,L,eE,by rw[ep,B3];exact eE,eE,rfl⟩
 .exact⟨[],l,v,rfl,rfl,i,eE,eE,eE,rfl⟩
theorem Zt{u:Un}{f:Nat}{g:Gr}(C:u.funcs[f]?=some g)(Z:g.nodes.length<2^30){a b cc d:Nat}{U:AV}{s:S9}{args:List Int}(I:fU (fun _=>True) H U s):zdw Tryz.prog (zdp pls tb) 33 [.agg u.cells,.sl a b cc d,.int .i64 f,U,zfN args] H fun w H'=>∃L V,w=.ptr L 0/\H.next<=L/\H.next<=V/\(⟨fun q=>q≠L/\q≠V,L,V,u,.sl a b cc d,f,g,U,s,args⟩:Cx9).Ok/\Fr9 ⟨fun q=>q≠L/\q≠V,L,V,u,.sl a b cc d,f,g,U,s,args⟩ H' (List.replicate g.nodes.length [.bool false,.int .i64 0,.nilP,.nilP]) (List.replicate g.nodes.length zgh)/\Ext9 (fun _=>True) H H':=by
 have J:Plain (zdp pls tb) 33:=hT.plain dj;have np:∀E:ax,zdo E (.const (.pointer none))=some .nilP:=fun _=>rfl;have A:u.cells=[.lst (u.arrays.map Ar.cells),.lst (u.funcs.map Gr.cells)]:=rfl;have z:g.cells=[.str g.name,.int .i64 g.params,.lst (g.nodes.map Nd.cells),.int .i64 g.value,.int .i64 g.state]:=rfl;have O:=I;obtain⟨p,cv,ov,rfl,hp⟩:=O;have o:=fun H:Hp=>Zq (H:=H) g.nodes.length ac;have hb:=fun q=>Zr (u.arrays.map Ar.cells) (u.funcs.map Gr.cells) (args.map fun n=>[.int .i64 n]) a b cc d p q g.nodes.length f;unfold zfN;rw[A];refine zdv (M:=26) (rs:=[.tmp 10]) (J.call _) J.ice J.froz Tryz.func33 rfl rfl HV.2 rfl ?_;dsimp only[HV,zds,Nat.reduceAdd];have vF:∀a b:AV,zd7 2 [a,b]=some (.agg [a,b]):=fun _ _=>rfl;have y9:(H.next == H.next+1)=false:=zdC ac;have y8:(H.next == H.next+2)=false:=zdC ac;have y7:(H.next+1 == H.next+2)=false:=zdC ac;repeat' (first
  |(apply zdk ?_;clear hK K)|apply Rx.o ?_|apply ak ?_|(apply zdl fun K hK=>?_)|(apply zdL 1 [(0,16),(6,16),(10,16),(11,16),(12,16),(14,16)] fun K hK=>?_)|(apply zdK ?_;try intro _)|(apply zdM ?_ ?_<;>clear hK K)|apply bl ?_|apply am ?_)
 .exact zdR
 all_goals (refine⟨eI,_,eR,?_⟩;try simp only[zdn])
 generalize Y:Hp.alloc (Hp.alloc (Hp.alloc H _) _) _=m;have nc:H.next+3<=m.next:=by rw[<-Y];exact aM _
 have j:m.get (H.next+2)=some (.cells (hW u (.sl a b cc d) f (.ptr p 0) args (H.next+1) g.nodes.length) 0 true):=by rw[<-Y,zdq,az dj];rfl
 have i:m.get (H.next+1)=some (.cells (List.replicate g.nodes.length [AV.bool false,.int .i64 0,.nilP,.nilP]).flatten 0 true):=by
  rw[<-Y];simp only[zdq,zdA,ai (show ¬H.next+1=H.next+1+1 by omega),bT]
 have E:Ext9 (fun _=>True) H m:=⟨ac,fun r _ hr=>by
  rw[<-Y];simp only[zdq,zdA,ai (show ¬r=H.next+1+1 by omega),ai (show ¬r=H.next+1 by omega),ai (show ¬r=H.next by omega)]⟩
 clear Y;refine⟨H.next+2,H.next+1,rfl,ac,ac,⟨C,by show H.next+2≠H.next+1;omega,fun h=>h.1 rfl,fun h=>h.2 rfl,Z⟩,⟨by rw[j7];exact j,i,nc,by show H.next+1<_;omega,?_,?_,fun q F=>⟨by show q≠H.next+2;omega,by show q≠H.next+1;omega⟩,j7⟩,E⟩
 .exact(I.sub (T:=fun q=>q≠H.next+2/\q≠H.next+1) fun q F _=>⟨ac,ac⟩).keep (E.sub fun _ _ _=>trivial)
 .have:∀n:Nat,zdW (mF (fun q=>q≠H.next+2/\q≠H.next+1) m) (List.replicate n [AV.bool false,.int .i64 0,.nilP,.nilP]) (List.replicate n zgh):=by
   intro n;induction n with
   |zero=>trivial
   |succ n ih=>rw[qF,qF];exact⟨⟨.nilP,rfl,rfl⟩,ih⟩
  exact this _
end
end
end Go.Proofs.YtljebeflbbgibaaGreat
