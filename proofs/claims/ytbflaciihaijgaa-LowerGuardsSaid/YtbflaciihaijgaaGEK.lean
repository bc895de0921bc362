/- Lemmas for the last file. -/
import Derived.Test.YtbflaciihaijgaaGEJ
set_option linter.all false
set_option maxHeartbeats 32000000
namespace Go.Ab
set_option maxRecDepth 20000
open Go
variable{qd:Prop}
def IE(h:qd:=by rw[Hp.get_set,if_neg Z];exact sb.get k o Z):=h
def IF(h:qd:=by rw[List.getD_eq_getElem?_getD,List.getElem?_eq_getElem O];exact List.getElem_mem O):=h
def IG(h:qd:=by simp only[aM,Nat.reduceBEq, *];exact gp (n:=l.length) ac ac):=h
def II(h:qd:=by simp only[aM,Nat.reduceBEq, *];exact gp (n:=x.args.length) ac ac):=h
def IJ(h:qd:=by simp only[aM,Nat.reduceBEq, *];exact gp (n:=r.2.vars.length) ac ac):=h
def IK(h:qd:=by simp only[aM,Nat.reduceBEq, *];exact gp (n:=Z.length) ac ac):=h
def zl:=@List.take_zero
def zm:=@List.filter_cons
def zn:=@List.length_filter_le
def IL:=@List.not_mem_nil
def rp:=@List.map_nil
end Go.Ab
namespace Go.Proofs.Ytbflaciihaijgaa
set_option maxRecDepth 20000
open Go Go.Ab Proofs.Try
variable{m k i:Nat}{H H':Hp}{b:qF}{v I M O:AV}{X:Lx}{S S':Nat->Prop}{l:qp}{s t:Bd}{x:St}{d:Int×Bd}
section
def tyLoE.tyF:=ad @cJ (ad @x7 (ad @cM (ad @jH (ad @lT (ad @fW (ad @eg (ad @dJ (ad @eC (ad @kT (ad @mH (ad @Fk (@fw))))))))))))
open tyLoE
noncomputable def IM:{c:SC // aG 42 (f150.body.getD .skip)=c}:=by
 refine⟨?_,?_⟩;rotate_left
 .simp only[f150,bK,aG,bF,bw,bH,bI,Nat.blt,Nat.ble];rfl
def TH(q:Nat)(H:Hp)(b:qF)(v:AV)(H':Hp):Prop:=H'.get q=some (.cells (b.map .bool) 0 true)/\H.next<=H'.next/\∀k,k<H.next->k≠q->H'.get k=H.get k
structure Smq (n q:Nat) (H H':Hp):Prop where
 get:∀k,k<n->k≠q->H'.get k=H.get k
theorem um(O:List bB):∀(n:Nat) (l:qy) (b b':qF),el O n l b=some b'->b'.length=b.length
 |0,_,_,_,h=>by simp[el]at h
 |n+1,[],b,b',h=>by cases h;rfl
 |n+1,x::l,b,b',h=>by
  unfold el at h;simp only[]at h;split at h
  .cases h
  .simp only[bT]at h;obtain⟨V,m,Y,I,Z⟩:=h;rw[um O n _ _ _ Z,um O n _ _ _ I,um O n _ _ _ m];split<;>simp
def IN{q n:Nat}(Z:m<n):dZ prog 114 (.sl q 0 n 1) (.int .i64 (m:Int))=some (.ptr q m):=by rw[vu underlying114 x6 Z];simp
def TI{r:Nat}(L:H.get r=some (.cells (b.map .bool) 0 true))(Z:m<b.length)(x:Bool):ky prog H 4 (.ptr r m) (.bool x)=some (H.set r (.cells ((b.set m x).map .bool) 0 true)):=by
 rw[SB L (by rw[dh];exact Z),List.map_set]
set_option maxRecDepth 100000 in
theorem CI{tb:qs}(hG:zaf tb){X:Lx}{c:Cx}(hX:zak X c):∀(N n:Nat),n<N->∀(l:qy) (b b':qF),el c.am n l b=some b'->dQ l<2^40->∀{H:Hp}{S:Nat->Prop}{s:Bd}{lv vv:AV}{q:Nat},zab X H S s lv vv->H.get q=some (.cells (b.map .bool) 0 true)->X.b<q->q<H.next->¬S q->¬bL vv q ->
 aX prog (aK pls tb) 150 [.ptr X.b 0,.aq (l.map St.cells),.sl q 0 b.length 1] H (TH q H b')
 |0,n,hn,_,_,_,_,_,_,_,_,_,_,_,_,_,_,_,_,_=>by omega
 |N+1,n,hn,l,b,b',h,hz,H,S,s,lv,vv,q,hR,W,hq1,hq2,hq3,hq4=>by
  have hw:zaa (aK pls tb) 150:=hG.plain cC;have hll:=xR l;have o3:=hR.o3;have o4:=hR.o4;refine bA (M:=42) (rs:=[]) (hw.call _) hw.aF hw.ak func150 rfl rfl IM.2 rfl ?_;dsimp only[IM,bt,Nat.reduceAdd];repeat' (first
   |(apply aj ?_;clear hK K)|apply Rx.o ?_|(apply aO (fun C L=>?_) (fun C L=>?_)<;>try(cases C;done))|apply ai ?_|(apply ah fun K hK=>?_)|(apply ci 4 fun K hK=>?_)|apply aq ?_|apply am ?_|apply aw ?_)
  refine dz [0,2,8,9] [] 10 l.length (fun i E U=>∃m V,m<=n/\V.length=b.length/\el c.am m (l.drop i) V=some b'/\U.get q=some (.cells (V.map .bool) 0 true)/\Smq H.next q H U) eE ⟨n,b,az _,rfl,h,W,⟨fun _ _ _=>rfl⟩⟩ ?_;rintro i E U hi hcE hrH I hsI ⟨m,V,hm,hbl,O,hg2,hsm⟩;(try simp only[bN,bO,bu,aM,a0,Nat.reduceBEq,Nat.reduceAdd,Nat.reduceLeDiff,tyF, *]at hcE);(try simp only[bN,bO,bu,aM,a0,Nat.reduceBEq,Nat.reduceAdd,Nat.reduceLeDiff,tyF, *]at hrH);(try simp only[bj,bJ,cL,bX,Nat.reduceAdd]at I);have R2:zab X U S s lv vv:=hR.keep I fun k o Z=>hsm.get k o fun e=>by
   subst e;rcases Z with Z|Z|Z
   .omega
   .exact hq3 Z
   .exact hq4 Z
  by_cases hlt:i<l.length
  .have hlt':(i:Int)<l.length:=by omega
   have hgx:l[i]?=some l[i]:=bc hlt;have hmem:=pG (dU hlt);have hsz:=(l[i]).aV;cases m with
   |zero=>simp[el]at O
   |succ m=>
   rw[eM hlt]at O;unfold el at O;simp only[]at O;generalize l[i]=x at *;split at O
   .cases O
   rename_i hno;simp only[bT]at O;obtain⟨b2,j2,b3,j3,j4⟩:=O;have R3:=R2.bH (.cells (List.replicate 17 (.int .i64 0)) 0 true) (.cells x.cells 0 true);repeat' (first
    |(apply aj ?_;clear hK K)|apply Ry.o ?_|apply bq ?_|(apply bS (fun W Y=>?_) (fun W Y=>?_)<;>try(cases W;done))|apply ai ?_|(apply ah fun K hK=>?_)|(apply ci 4 fun K hK=>?_)|apply aq ?_|apply am ?_|apply aw ?_)
   (apply aO (fun C L=>?_) (fun C L=>?_)<;>try(cases C;done));apply am ?_;apply ai ?_;apply aq ?_;apply ai ?_;(apply ah fun K hK=>?_);repeat' (first
    |(apply aj ?_;clear hK K)|apply Ry.o ?_|apply bq ?_)
   apply ai ?_;generalize z:Hp.set (U.alloc _) _ _=Hb;have Rb:zab X Hb S s lv vv:=by rw[<-z];exact R2.bH _ _
   have nb:Hb.next=U.next+1:=by rw[<-z];rfl
   have gb:Hb.get q=some (.cells (V.map .bool) 0 true):=by rw[<-z,bi,ao ac,aJ,ao ac];exact hg2
   have gx:Hb.get U.next=some (.cells x.cells 0 true):=by rw[<-z,bi,aB rfl]
   have sb:Smq H.next q H Hb:=⟨fun k o Z=>by rw[<-z,bi,ao ac,aJ,ao ac];exact hsm.get k o Z⟩
   clear z R3;have mb:=Rb.m;unfold bC at mb;have hlk:=Rb.lkN hX x.name;have J:(if x.ah=1\/x.ah=6 then V.set (ce c.am x.name) true else V).length=b.length:=by split<;>simp[hbl]
   refine SQ (fun E' H'=>E'.at 0=.ptr X.b 0/\E'.at 2=.sl q 0 b.length 1/\E'.at 7=.ptr U.next 0/\E'.at 8=.aq (l.map St.cells)/\E'.at 9=.int .i64 l.length/\E'.at 10=.int .i64 i/\H'.get q=some (.cells ((if x.ah=1\/x.ah=6 then V.set (ce c.am x.name) true else V).map .bool) 0 true)/\H'.get U.next=some (.cells x.cells 0 true)/\H'.next=U.next+1/\Smq H.next q H H') ?_ ?_
   .by_cases hk:x.ah=1\/x.ah=6
    .have hixl:ce c.am x.name<V.length:=by
      by_cases c2:ce c.am x.name<V.length
      .exact c2
      .exact absurd ⟨hk,ac⟩ hno
     have hix:=IN (q:=q) (n:=b.length) (m:=ce c.am x.name) ac;have hst:=TI gb hixl true;rcases hk with o|h6
     .repeat' (first
       |(apply aj ?_;clear hK K)|apply Ry.o ?_|apply bq ?_|(apply bS (fun W Y=>?_) (fun W Y=>?_)<;>try(cases W;done))|(apply aY (fun C L=>?_) (fun C L=>?_)<;>try(cases C;done))|apply ai ?_|(apply ah fun K hK=>?_)|(apply ci 4 fun K hK=>?_)|apply aq ?_|apply am ?_|apply aw ?_)
      all_goals first
       |exact cG
       |skip
      exact⟨rfl,eE,eE,eE,eE,eE,eE,by rw[bi,aB rfl,aB (.inl o)],by rw[bi,ao ac];exact gx,nb,⟨fun k o Z=>IE⟩⟩
     .have o:¬x.ah=1:=by omega
      repeat' (first
       |(apply aj ?_;clear hK K)|apply Ry.o ?_|apply bq ?_|(apply bS (fun W Y=>?_) (fun W Y=>?_)<;>try(cases W;done))|(apply aY (fun C L=>?_) (fun C L=>?_)<;>try(cases C;done))|apply ai ?_|(apply ah fun K hK=>?_)|(apply ci 4 fun K hK=>?_)|apply aq ?_|apply am ?_|apply aw ?_)
      all_goals first
       |exact cG
       |skip
      exact⟨rfl,eE,eE,eE,eE,eE,eE,by rw[bi,aB rfl,aB (.inr h6)],by rw[bi,ao ac];exact gx,nb,⟨fun k o Z=>IE⟩⟩
    .have o:¬x.ah=1:=fun e=>hk (.inl e);have h6:¬x.ah=6:=fun e=>hk (.inr e);rw[ao hk];repeat' (first
      |(apply aj ?_;clear hK K)|apply Ry.o ?_|apply bq ?_|(apply bS (fun W Y=>?_) (fun W Y=>?_)<;>try(cases W;done))|(apply aY (fun C L=>?_) (fun C L=>?_)<;>try(cases C;done))|apply ai ?_|(apply ah fun K hK=>?_)|(apply ci 4 fun K hK=>?_)|apply aq ?_|apply am ?_|apply aw ?_)
     exact⟨rfl,eE,eE,eE,eE,eE,eE,gb,gx,nb,sb⟩
   generalize (if x.ah=1\/x.ah=6 then V.set (ce c.am x.name) true else V)=b1 at *;clear gb gx nb sb mb hlk;rintro E3 H3 ⟨dL,k2,k7,k8,k9,k10,g3,gx3,n3,s3⟩;dsimp only[lN];have R3:zab X H3 S s lv vv:=hR.keep ac fun k o Z=>s3.get k o fun e=>by
    subst e;rcases Z with Z|Z|Z
    .omega
    .exact hq3 Z
    .exact hq4 Z
   repeat' (first
    |(apply aj ?_;clear hK K)|apply Rx.o ?_|(apply aO (fun C L=>?_) (fun C L=>?_)<;>try(cases C;done))|apply ai ?_|(apply ah fun K hK=>?_)|(apply ci 4 fun K hK=>?_)|apply aq ?_|apply am ?_|apply aw ?_)
   refine qc ?_;refine aL ?_ (by rw[<-J];exact CI hG hX N m ac x.a8 b1 b2 j2 ac R3 g3 hq1 ac hq3 hq4);rintro v H4 ⟨g4,n4,s4⟩;have hbl2:=um _ _ _ _ _ j2;have gx4:H4.get U.next=some (.cells x.cells 0 true):=by rw[s4 _ ac ac];exact gx3
   have R4:zab X H4 S s lv vv:=R3.keep n4 fun k o Z=>s4 k o fun e=>by
    subst e;rcases Z with Z|Z|Z
    .omega
    .exact hq3 Z
    .exact hq4 Z
   have s4':Smq H.next q H H4:=⟨fun k o Z=>by rw[s4 k ac Z];exact s3.get k o Z⟩
   clear s4;dsimp only[aI];repeat' (first
    |(apply aj ?_;clear hK K)|apply Rx.o ?_|(apply aO (fun C L=>?_) (fun C L=>?_)<;>try(cases C;done))|apply ai ?_|(apply ah fun K hK=>?_)|(apply ci 4 fun K hK=>?_)|apply aq ?_|apply am ?_|apply aw ?_)
   refine qc ?_;refine aL ?_ (by rw[<-J,<-hbl2];exact CI hG hX N m ac x.bA b2 b3 j3 ac R4 g4 hq1 ac hq3 hq4);rintro v H5 ⟨g5,n5,s5⟩;have hbl3:=um _ _ _ _ _ j3;have s5':Smq H.next q H H5:=⟨fun k o Z=>by rw[s5 k ac Z];exact s4'.get k o Z⟩
   clear s5;dsimp only[aI];repeat' (first
    |(apply aj ?_;clear hK K)|apply Rx.o ?_|(apply aO (fun C L=>?_) (fun C L=>?_)<;>try(cases C;done))|apply ai ?_|(apply ah fun K hK=>?_)|(apply ci 4 fun K hK=>?_)|apply aq ?_|apply am ?_|apply aw ?_)
   refine⟨ac,bm,bm,cN,IG,?_⟩;exact⟨m,b3,ac,ac,j4,g5,s5'⟩
  .have hlt':¬(i:Int)<l.length:=by omega
   repeat' (first
    |(apply aj ?_;clear hK K)|apply Ry.o ?_|apply bq ?_|(apply bS (fun W Y=>?_) (fun W Y=>?_)<;>try(cases W;done))|(apply aY (fun C L=>?_) (fun C L=>?_)<;>try(cases C;done))|apply ai ?_|(apply ah fun K hK=>?_)|(apply ci 4 fun K hK=>?_)|apply aq ?_|apply am ?_|apply aw ?_)
   all_goals refine qq ?_
   have hd:l.drop i=[]:=nG ac;rw[hd]at O;cases m with
   |zero=>simp[el]at O
   |succ m=>
    cases O;exact⟨hg2,I,hsm.get⟩
end
section
def tyLoF.tyF:=ad @ef (ad @cJ (ad @cM (ad @jH (ad @lT (ad @fW (ad @eg (ad @dJ (ad @eC (ad @kT (ad @mH (ad @fw (ad @IB (@wd)))))))))))))
open tyLoF
noncomputable def jx:{c:SC // aG 155 (f104.body.getD .skip)=c}:=by
 refine⟨?_,?_⟩;rotate_left
 .simp only[f104,bK,aG,bF,bw,bH,bI,Nat.blt,Nat.ble];rfl
section
variable {tb:qs} (hG:zaf tb) {X:Lx} {c:Cx} (hX:zak X c) {x:St} {s:Bd} {H:Hp} {S:Nat -> Prop} {lv vv:AV}
set_option maxRecDepth 100000 in
include hG hX in
def TJ(hk:x.ah=1){n:Nat}{r:Int×Bd}(he:dE c n x.value s=some r)(hl:ce c.am x.name<r.2.vars.length)(hF:Fin r.2)(C:zab X H S s lv vv):
 aX prog (aK pls tb) 104 [.ptr X.b 0,.agg x.cells] H (kZ X S vv H {r.2 with vars:=r.2.vars.set (ce c.am x.name) r.1}):=by
 have O:zaa (aK pls tb) 104:=hG.plain cC;have L:=C.alloc (.cells x.cells 0 true);have F1:=(cf X S vv H).alloc (.cells x.cells 0 true);have cz:=L.m;unfold bC at cz;have hlk1:=L.lkN hX x.name;have z:=dm c n _ _ _ he;have m:ce c.am x.name<s.vars.length:=by rw[<-z.v];exact hl
 obtain⟨q,o,hld,_⟩:=L.setV m r.1;refine bA (M:=155) (rs:=[]) (O.call _) O.aF O.ak func104 rfl rfl jx.2 rfl ?_;dsimp only[jx,bt,Nat.reduceAdd];repeat' (first
  |(apply aj ?_;clear hK K)|apply Ry.o ?_|(apply aY (fun hb Y=>?_) (fun hb Y=>?_)<;>try(cases hb;done))|apply ai ?_|(apply ah fun K hK=>?_)|(apply ak 3 [(3,14),(3,16),(7,14),(7,16),(9,14),(9,16),(10,14),(10,16),(13,14)] fun K hK=>?_)|(apply ak 5 [(3,8),(5,8),(6,8)] fun K hK=>?_)|(apply ak 14 [(2,5),(2,6)] fun K hK=>?_)|(apply ak 22 [(5,15),(5,16),(7,15),(7,16),(8,15),(8,16),(12,15),(13,15)] fun K hK=>?_)|(apply ak 23 [(3,17),(3,19),(7,17),(7,19),(9,17),(9,19),(10,17),(10,19),(15,17),(16,17)] fun K hK=>?_)|(apply aV ?_;try intro _)|(apply aW ?_ ?_<;>clear hK K)|apply aU ?_|apply bD rfl ?_|apply aq ?_)
 refine qc ?_;refine aL ?_ (nU hG hX n x.value s r he hF L (cf _ _ _ _));rintro v H2 ⟨rfl,S2,I,W,J⟩;have g2:=dP C J;have m2:=W.m;unfold bC at m2;have hlk2:=W.lkN hX x.name;obtain⟨q',Z,hld',H3,hst,hq1,hq2,V,U,F3,o3,n3⟩:=W.setV hl r.1;have hqq:q'=q:=by
  rw[o]at Z;simp only[aC,AV.ptr.injEq]at Z;exact Z.1.symm
 subst hqq;have n2:H.next+1<=H2.next:=J.next
 have m3:=U.m;have hlk3:=U.lkN hX x.name;have g3:H3.get H.next=some (.cells x.cells 0 true):=by rw[o3 _ (by have:=C.new (az _);intro e;subst e;exact this.2.1 V)];exact g2
 dsimp only[bC]at m3;dsimp only[aI];repeat' (first
  |(apply aj ?_;clear hK K)|apply Rx.o ?_|apply aD ?_|apply ai ?_|(apply ah fun K hK=>?_)|(apply ak 3 [(3,14),(3,16),(7,14),(7,16),(9,14),(9,16),(10,14),(10,16),(13,14)] fun K hK=>?_)|(apply ak 5 [(3,8),(5,8),(6,8)] fun K hK=>?_)|(apply ak 14 [(2,5),(2,6)] fun K hK=>?_)|(apply ak 22 [(5,15),(5,16),(7,15),(7,16),(8,15),(8,16),(12,15),(13,15)] fun K hK=>?_)|(apply ak 23 [(3,17),(3,19),(7,17),(7,19),(9,17),(9,19),(10,17),(10,19),(15,17),(16,17)] fun K hK=>?_)|(apply aV ?_;try intro _)|(apply aW ?_ ?_<;>clear hK K)|apply aU ?_|apply bD rfl ?_|apply aq ?_)
 .exact cG
 .all_goals refine qq ?_
  exact⟨S2,I,vv,U,F1.trans (J.trans F3)⟩
set_option maxRecDepth 100000 in
include hG hX in
def TK(hk:x.ah=2){n:Nat}{i v:Int×Bd}(h1:dE c n x.aW s=some i)(h2:dE c n x.value i.2=some v){a:Ar}(ha:c.af[ce (c.af.map (·.name)) x.name]?=some a)
 (m:Fin (ay ⟨28,ce (c.af.map (·.name)) x.name,[(fK a.len i.1 v.2).ab,i.1,v.1]⟩ (fK a.len i.1 v.2)).2) (C:zab X H S s lv vv) :
 aX prog (aK pls tb) 104 [.ptr X.b 0,.agg x.cells] H (kZ X S vv H { (ay ⟨28,ce (c.af.map (·.name)) x.name,[(fK a.len i.1 v.2).ab,i.1,v.1]⟩ (fK a.len i.1 v.2)).2 with ab:=(ay ⟨28,ce (c.af.map (·.name)) x.name,[(fK a.len i.1 v.2).ab,i.1,v.1]⟩ (fK a.len i.1 v.2)).1}):=by
 have U:zaa (aK pls tb) 104:=hG.plain cC;have I:=C.alloc (.cells x.cells 0 true);have F1:=(cf X S vv H).alloc (.cells x.cells 0 true);have cz:=I.m;unfold bC at cz;have hlk1:=I.d7 hX x.name;have Z:Fin (fK a.len i.1 v.2):=m.le (cR _ _).le;have J:Fin v.2:=Z.le (sR _ _ _).le;have z:Fin i.2:=J.le (dm c n _ _ _ h2).le;have o:X.p.af[ce (c.af.map (·.name)) x.name]?=some a:=by rw[<-hX.ar];exact ha
 refine bA (M:=155) (rs:=[]) (U.call _) U.aF U.ak func104 rfl rfl jx.2 rfl ?_;dsimp only[jx,bt,Nat.reduceAdd];repeat' (first
  |(apply aj ?_;clear hK K)|apply Ry.o ?_|(apply aY (fun hb L=>?_) (fun hb L=>?_)<;>try(cases hb;done))|apply ai ?_|(apply ah fun K hK=>?_)|(apply ak 3 [(3,14),(3,16),(7,14),(7,16),(9,14),(9,16),(10,14),(10,16),(13,14)] fun K hK=>?_)|(apply ak 5 [(3,8),(5,8),(6,8)] fun K hK=>?_)|(apply ak 14 [(2,5),(2,6)] fun K hK=>?_)|(apply ak 22 [(5,15),(5,16),(7,15),(7,16),(8,15),(8,16),(12,15),(13,15)] fun K hK=>?_)|(apply ak 23 [(3,17),(3,19),(7,17),(7,19),(9,17),(9,19),(10,17),(10,19),(15,17),(16,17)] fun K hK=>?_)|(apply aV ?_;try intro _)|(apply aW ?_ ?_<;>clear hK K)|apply aU ?_|apply aq ?_)
 all_goals first
  |exact cG
  |skip
 refine qc ?_;refine aL ?_ (nU hG hX n x.aW s i h1 z I (cf _ _ _ _));rintro w H2 ⟨rfl,S2,lv2,R2,W⟩;have g2:=dP C W;dsimp only[aI];repeat' (first
  |(apply aj ?_;clear hK K)|apply Rx.o ?_|apply aD ?_|apply ai ?_|(apply ah fun K hK=>?_)|(apply ak 3 [(3,14),(3,16),(7,14),(7,16),(9,14),(9,16),(10,14),(10,16),(13,14)] fun K hK=>?_)|(apply ak 5 [(3,8),(5,8),(6,8)] fun K hK=>?_)|(apply ak 14 [(2,5),(2,6)] fun K hK=>?_)|(apply ak 22 [(5,15),(5,16),(7,15),(7,16),(8,15),(8,16),(12,15),(13,15)] fun K hK=>?_)|(apply ak 23 [(3,17),(3,19),(7,17),(7,19),(9,17),(9,19),(10,17),(10,19),(15,17),(16,17)] fun K hK=>?_)|(apply aV ?_;try intro _)|(apply aW ?_ ?_<;>clear hK K)|apply aU ?_|apply aq ?_)
 refine qc ?_;refine aL ?_ (nU hG hX n x.value i.2 v h2 J R2 (cf _ _ _ _));rintro w H3 ⟨rfl,S3,lv3,R3,F3⟩;have g3:=dP C (W.trans F3);dsimp only[aI];repeat' (first
  |(apply aj ?_;clear hK K)|apply Rx.o ?_|apply aD ?_|apply ai ?_|(apply ah fun K hK=>?_)|(apply ak 3 [(3,14),(3,16),(7,14),(7,16),(9,14),(9,16),(10,14),(10,16),(13,14)] fun K hK=>?_)|(apply ak 5 [(3,8),(5,8),(6,8)] fun K hK=>?_)|(apply ak 14 [(2,5),(2,6)] fun K hK=>?_)|(apply ak 22 [(5,15),(5,16),(7,15),(7,16),(8,15),(8,16),(12,15),(13,15)] fun K hK=>?_)|(apply ak 23 [(3,17),(3,19),(7,17),(7,19),(9,17),(9,19),(10,17),(10,19),(15,17),(16,17)] fun K hK=>?_)|(apply aV ?_;try intro _)|(apply aW ?_ ?_<;>clear hK K)|apply aU ?_|apply aq ?_)
 refine qc ?_;refine aL ?_ (IC hG R3 (cf _ _ _ _) (ce (c.af.map (·.name)) x.name) i.1 o Z);rintro w H4 ⟨S4,lv4,V,F4⟩;have m4:=V.m;unfold bC at m4;have Y:=V.new (az _);dsimp only[aI];repeat' (first
  |(apply aj ?_;clear hK K)|apply Rx.o ?_|apply aD ?_|apply ai ?_|(apply ah fun K hK=>?_)|(apply ak 3 [(3,14),(3,16),(7,14),(7,16),(9,14),(9,16),(10,14),(10,16),(13,14)] fun K hK=>?_)|(apply ak 5 [(3,8),(5,8),(6,8)] fun K hK=>?_)|(apply ak 14 [(2,5),(2,6)] fun K hK=>?_)|(apply ak 22 [(5,15),(5,16),(7,15),(7,16),(8,15),(8,16),(12,15),(13,15)] fun K hK=>?_)|(apply ak 23 [(3,17),(3,19),(7,17),(7,19),(9,17),(9,19),(10,17),(10,19),(15,17),(16,17)] fun K hK=>?_)|(apply aV ?_;try intro _)|(apply aW ?_ ?_<;>clear hK K)|apply aU ?_|apply aq ?_)
 refine qc ?_;refine aL ?_ (me hG (V.alloc _) ((cf _ _ _ _).alloc _) ⟨28,ce (c.af.map (·.name)) x.name,[(fK a.len i.1 v.2).ab,i.1,v.1]⟩ rfl fx (az _) (ct _) Y.2.2 Y.1 Y.2.1 m rfl rfl);rintro w H5 ⟨rfl,S5,O,R5,F5⟩;have m5:=R5.m;unfold bC at m5;dsimp only[aI];repeat' (first
  |(apply aj ?_;clear hK K)|apply Rx.o ?_|apply aD ?_|apply ai ?_|(apply ah fun K hK=>?_)|(apply ak 3 [(3,14),(3,16),(7,14),(7,16),(9,14),(9,16),(10,14),(10,16),(13,14)] fun K hK=>?_)|(apply ak 5 [(3,8),(5,8),(6,8)] fun K hK=>?_)|(apply ak 14 [(2,5),(2,6)] fun K hK=>?_)|(apply ak 22 [(5,15),(5,16),(7,15),(7,16),(8,15),(8,16),(12,15),(13,15)] fun K hK=>?_)|(apply ak 23 [(3,17),(3,19),(7,17),(7,19),(9,17),(9,19),(10,17),(10,19),(15,17),(16,17)] fun K hK=>?_)|(apply aV ?_;try intro _)|(apply aW ?_ ?_<;>clear hK K)|apply aU ?_|apply aq ?_)
 all_goals refine qq ?_
 obtain⟨R6,F6⟩:=R5.setS (ay ⟨28,ce (c.af.map (·.name)) x.name,[(fK a.len i.1 v.2).ab,i.1,v.1]⟩ (fK a.len i.1 v.2)).1;exact⟨S5,O,vv,R6,F1.trans (W.trans (F3.trans (F4.trans (F5.trans F6))))⟩
set_option maxRecDepth 100000 in
include hG hX in
def TL(hk:x.ah=5){n:Nat}{v:Int×Bd}(h1:dE c n x.value s=some v)(W:Fin (ay ⟨29,0,[v.2.ab,v.1]⟩ v.2).2)(I:zab X H S s lv vv):
 aX prog (aK pls tb) 104 [.ptr X.b 0,.agg x.cells] H (kZ X S vv H { (ay ⟨29,0,[v.2.ab,v.1]⟩ v.2).2 with ab:=(ay ⟨29,0,[v.2.ab,v.1]⟩ v.2).1}):=by
 have V:zaa (aK pls tb) 104:=hG.plain cC;have R1:=I.alloc (.cells x.cells 0 true);have F1:=(cf X S vv H).alloc (.cells x.cells 0 true);have J:Fin v.2:=W.le (cR _ _).le;refine bA (M:=155) (rs:=[]) (V.call _) V.aF V.ak func104 rfl rfl jx.2 rfl ?_;dsimp only[jx,bt,Nat.reduceAdd];repeat' (first
  |(apply aj ?_;clear hK K)|apply Ry.o ?_|(apply aY (fun C L=>?_) (fun C L=>?_)<;>try(cases C;done))|apply ai ?_|(apply ah fun K hK=>?_)|apply aq ?_)
 refine qc ?_;refine aL ?_ (nU hG hX n x.value s v h1 J R1 (cf _ _ _ _));rintro w H4 ⟨rfl,S4,z,Z,o⟩;have m4:=Z.m;unfold bC at m4;have Y:=Z.new (az _);dsimp only[aI];repeat' (first
  |(apply aj ?_;clear hK K)|apply Rx.o ?_|apply aD ?_|apply ai ?_|(apply ah fun K hK=>?_)|apply aq ?_)
 refine qc ?_;refine aL ?_ (me hG (Z.alloc _) ((cf _ _ _ _).alloc _) ⟨29,0,[v.2.ab,v.1]⟩ rfl fx (az _) (ct _) Y.2.2 Y.1 Y.2.1 W rfl rfl);rintro w H5 ⟨rfl,m,O,U,F5⟩;have m5:=U.m;unfold bC at m5;dsimp only[aI];repeat' (first
  |(apply aj ?_;clear hK K)|apply Rx.o ?_|apply aD ?_|apply ai ?_|(apply ah fun K hK=>?_)|apply aq ?_)
 all_goals refine qq ?_
 obtain⟨R6,F6⟩:=U.setS (ay ⟨29,0,[v.2.ab,v.1]⟩ v.2).1;exact⟨m,O,vv,R6,F1.trans (o.trans (F5.trans F6))⟩
set_option maxRecDepth 100000 in
include hG in
def TM(hk:x.ah=7)(Z:Fin (nS (er (16+x.n)) (ay ⟨1,0,[]⟩ s).1 (ay ⟨1,0,[]⟩ s).2))(C:zab X H S s lv vv):
 aX prog (aK pls tb) 104 [.ptr X.b 0,.agg x.cells] H (kZ X S vv H (nS (er (16+x.n)) (ay ⟨1,0,[]⟩ s).1 (ay ⟨1,0,[]⟩ s).2)):=by
 have V:zaa (aK pls tb) 104:=hG.plain cC;have R1:=C.alloc (.cells x.cells 0 true);have F1:=(cf X S vv H).alloc (.cells x.cells 0 true);have J:Fin (ay ⟨1,0,[]⟩ s).2:=Z.le (rm _ _ _).le;refine bA (M:=155) (rs:=[]) (V.call _) V.aF V.ak func104 rfl rfl jx.2 rfl ?_;dsimp only[jx,bt,Nat.reduceAdd];repeat' (first
  |(apply aj ?_;clear hK K)|apply Ry.o ?_|(apply aY (fun U L=>?_) (fun U L=>?_)<;>try(cases U;done))|apply ai ?_|(apply ah fun K hK=>?_)|(apply ak 3 [(3,14),(3,16),(7,14),(7,16),(9,14),(9,16),(10,14),(10,16),(13,14)] fun K hK=>?_)|(apply ak 5 [(3,8),(5,8),(6,8)] fun K hK=>?_)|(apply ak 14 [(2,5),(2,6)] fun K hK=>?_)|(apply ak 22 [(5,15),(5,16),(7,15),(7,16),(8,15),(8,16),(12,15),(13,15)] fun K hK=>?_)|(apply ak 23 [(3,17),(3,19),(7,17),(7,19),(9,17),(9,19),(10,17),(10,19),(15,17),(16,17)] fun K hK=>?_)|(apply aV ?_;try intro _)|(apply aW ?_ ?_<;>clear hK K)|apply aU ?_|apply aq ?_)
 refine qc ?_;refine aL ?_ (uk hG R1 (cf _ _ _ _) 0 J);rintro w I ⟨rfl,S4,o,m,W⟩;have g4:=dP C W;have n4:H.next+1<=I.next:=W.next
 dsimp only[aI];repeat' (first
  |(apply aj ?_;clear hK K)|apply ai ?_|(apply ah fun K hK=>?_)|(apply ak 3 [(3,14),(3,16),(7,14),(7,16),(9,14),(9,16),(10,14),(10,16),(13,14)] fun K hK=>?_)|(apply ak 5 [(3,8),(5,8),(6,8)] fun K hK=>?_)|(apply ak 14 [(2,5),(2,6)] fun K hK=>?_)|(apply ak 22 [(5,15),(5,16),(7,15),(7,16),(8,15),(8,16),(12,15),(13,15)] fun K hK=>?_)|(apply ak 23 [(3,17),(3,19),(7,17),(7,19),(9,17),(9,19),(10,17),(10,19),(15,17),(16,17)] fun K hK=>?_)|(apply aV ?_;try intro _)|(apply aW ?_ ?_<;>clear hK K)|apply aU ?_|apply aq ?_)
 all_goals first
  |exact cG
  |skip
 refine qc ?_;refine aL ?_ (zk hG m (cf _ _ _ _) (er (16+x.n)) (ay ⟨1,0,[]⟩ s).1 Z);rintro w z ⟨S5,O,R5,Y⟩;have g5:=dP C (W.trans Y);have n5:H.next+1<=z.next:=dq n4 Y.next
 have n45:I.next<=z.next:=Y.next
 dsimp only[aI];repeat' (first
  |(apply aj ?_;clear hK K)|apply ai ?_|(apply ah fun K hK=>?_)|(apply ak 3 [(3,14),(3,16),(7,14),(7,16),(9,14),(9,16),(10,14),(10,16),(13,14)] fun K hK=>?_)|(apply ak 5 [(3,8),(5,8),(6,8)] fun K hK=>?_)|(apply ak 14 [(2,5),(2,6)] fun K hK=>?_)|(apply ak 22 [(5,15),(5,16),(7,15),(7,16),(8,15),(8,16),(12,15),(13,15)] fun K hK=>?_)|(apply ak 23 [(3,17),(3,19),(7,17),(7,19),(9,17),(9,19),(10,17),(10,19),(15,17),(16,17)] fun K hK=>?_)|(apply aV ?_;try intro _)|(apply aW ?_ ?_<;>clear hK K)|apply aU ?_|apply aq ?_)
 .exact cG
 .all_goals refine qq ?_
  exact⟨S5,O,vv,R5,F1.trans (W.trans Y)⟩
set_option maxRecDepth 100000 in
include hG in
def lst0(h1:¬x.ah=1)(h2:¬x.ah=2)(I:¬x.ah=3)(W:¬x.ah=4)(U:¬x.ah=5)(O:¬x.ah=6)(z:¬x.ah=7)(Z:zab X H S s lv vv):
 aX prog (aK pls tb) 104 [.ptr X.b 0,.agg x.cells] H (kZ X S vv H s):=by
 have V:zaa (aK pls tb) 104:=hG.plain cC;have Y:=Z.alloc (.cells x.cells 0 true);have J:=(cf X S vv H).alloc (.cells x.cells 0 true);refine bA (M:=155) (rs:=[]) (V.call _) V.aF V.ak func104 rfl rfl jx.2 rfl ?_;dsimp only[jx,bt,Nat.reduceAdd];repeat' (first
  |(apply aj ?_;clear hK K)|apply Ry.o ?_|(apply aY (fun C L=>?_) (fun C L=>?_)<;>try(cases C;done))|apply ai ?_|(apply ah fun K hK=>?_)|apply aq ?_|apply am ?_)
 all_goals refine qq ?_
 exact⟨S,lv,vv,Y,J⟩
end
end
section
def tyLoF6.tyF:=ad @ef (ad @cJ (ad @cM (ad @jH (ad @lT (ad @fW (ad @eg (ad @dJ (ad @eC (ad @kT (ad @mH (ad @fw (@zj))))))))))))
open tyLoF6
structure zad (S:Nat->Prop) (vv:AV) (lo:Nat) (H:Hp) (av:AV) (l:qp):Prop where
 r:gX H av l lo
 n:∀k,bL av k->¬S k/\¬bL vv k
def zad.fr{vv:AV}{lo:Nat}(h:zad S vv lo H M l)(C:X.b<lo)(o:X.rt<lo)(f:FrL X S vv H S' I H'):zad S' I lo H' M l:=by
 refine⟨h.r.keep f.next fun k z=>?_,fun k z=>?_⟩
 .have a:=h.r.lt z;have b:=h.n k z;exact f.get k a.2 ac ac b.1 b.2
 .have a:=h.r.lt z;have b:=h.n k z;refine⟨fun e=>?_,fun e=>?_⟩
  .rcases f.sub k e with e|e
   .exact b.1 e
   .omega
  .rcases f.own k e with e|e
   .exact b.2 e
   .omega
def zad.dy{vv:AV}{lo:Nat}{Hb:Hp}(h:zad S vv lo H M l)(C:zab X Hb S s O vv)(W:lo<=Hb.next)(Y:H.next<=Hb.next)(L:∀k,k<H.next->Hb.get k=H.get k)(x:Int){r imm:Nat}(V:Hb.get r=some (.cells [.int .i64 x] imm true))(hb:X.b<lo)(U:l.length<2^39):
 ∃I H',cY prog false Hb 22 22 M (.sl r 0 1 1)=some (I,H')/\zad S vv lo H' I (l++[x])/\zab X H' S s O vv/\FrL X S vv Hb S vv Hb/\Hb.next<=H'.next/\(∀k,k<Hb.next->¬bL M k->H'.get k=Hb.get k)/\(∀k,bL I k->bL M k\/Hb.next<=k)/\gC H' I (l++[x]) lo:=by
 have hr:gX Hb M l lo:=h.r.keep Y fun k z=>L k (h.r.lt z).2;obtain⟨I,H',a1,Z,a3,a4,o,J⟩:=Hr x hr W V U;refine⟨I,H',a1,⟨.inr Z,fun k z=>?_⟩,C.keep ac fun k h1 m=>o k h1 fun e=>?_,cf _ _ _ _,ac,o,J,Z⟩
 .rcases J k z with e|e
  .exact h.n k e
  .have:=C.new e;exact⟨this.1,this.2.1⟩
 .have b:=h.n k e;have c:=h.r.lt e;rcases m with m|m|m
  .omega
  .exact b.1 m
  .exact b.2 m
def CJ{tb:qs}(U:zaf tb){Y:Hp}{vv:AV}(C:zab X Y S s O vv)(M:FrL X S vv H S vv Y)(n:Nd){r:Nat}(L:n.aj.length=m)(J:Y.get r=some (.cells (n.aj.map (.int .i64)) 0 true))(hr:H.next<=r)(o:r<Y.next)(I:X.b<r)(hS:¬S r)(hv:¬bL vv r)(W:Fin (ay n s).2){op imm:Int}(V:n.op=op)(Z:n.aY=imm):
 aX prog (aK pls tb) 60 [.ptr X.b 0,.int .i64 op,.int .i64 imm,.sl r 0 m 1] Y (fun v H'=>mS X S vv H (ay n s) v H'/\Y.next<=H'.next):=by
 subst L;subst V;subst Z;refine aL ?_ (wa U C n (.inr ⟨r,0,rfl,J,db _,db _,o⟩) (fun k z=>?_) W.r (ue (ug s.l n).length_le W.l))
 .intro v H' h;exact⟨h.val M fun k z=>by rw[uj z];exact hr,by obtain⟨_,_,_,_,q,_⟩:=h;exact q⟩
 .rw[uj z];exact⟨I,hS,hv⟩
section
variable {tb:qs} (hG:zaf tb) {X:Lx} {c:Cx} (hX:zak X c) {x:St} {s:Bd} {H:Hp} {S:Nat -> Prop} {lv vv:AV}
set_option maxRecDepth 100000 in
include hG hX in
theorem TN(z:x.ah=6){n:Nat}{Z:qp×Bd}(h1:nT c n x.args s=some Z)(I:0<=dl c.funcs x.to 0)(hl:ce c.am x.name<Z.2.vars.length)(hz:x.sz<2^36)
 (hF:Fin (ay ⟨24,0,[(ay ⟨30,dl c.funcs x.to 0,Z.2.ab::Z.1⟩ Z.2).1]⟩ { (ay ⟨30,dl c.funcs x.to 0,Z.2.ab::Z.1⟩ Z.2).2 with ab:=(ay ⟨30,dl c.funcs x.to 0,Z.2.ab::Z.1⟩ Z.2).1}).2) (C:zab X H S s lv vv) :
 aX prog (aK pls tb) 104 [.ptr X.b 0,.agg x.cells] H (kZ X S vv H (let r:=ay ⟨30,dl c.funcs x.to 0,Z.2.ab::Z.1⟩ Z.2;let q:=ay ⟨24,0,[r.1]⟩ {r.2 with ab:=r.1};{q.2 with vars:=q.2.vars.set (ce c.am x.name) q.1})):=by
 have hw:zaa (aK pls tb) 104:=hG.plain cC;have hkeep:(aK pls tb).keep 104=false:=rfl;have R1:=C.alloc (.cells x.cells 0 true);have F1:=(cf X S vv H).alloc (.cells x.cells 0 true);have cz:=R1.m;unfold bC at cz;have o3:=C.o3;have o4:=C.o4;have o5:=C.o5;have hal:=tC x.args;have hsz:=x.aV;simp only[];generalize hr:ay ⟨30,dl c.funcs x.to 0,Z.2.ab::Z.1⟩ Z.2=r at *;have hFr:Fin r.2:=hF.le ⟨(cR ⟨24,0,[r.1]⟩ {r.2 with ab:=r.1}).le.l,(cR ⟨24,0,[r.1]⟩ {r.2 with ab:=r.1}).le.n⟩;have hFa:Fin Z.2:=by rw[<-hr]at hFr;exact hFr.le (cR _ _).le
 have happl:=(sT c n _ _ _ h1).2;refine bA (M:=155) (rs:=[]) (hw.call _) hw.aF hw.ak func104 rfl rfl jx.2 rfl ?_;dsimp only[jx,bt,Nat.reduceAdd];repeat' (first
  |(apply aj ?_;clear hK K)|apply Ry.o ?_|apply bq ?_|(apply aY (fun hb L=>?_) (fun hb L=>?_)<;>try(cases hb;done))|apply ai ?_|(apply ah fun K hK=>?_)|(apply ak 3 [(3,14),(3,16),(7,14),(7,16),(9,14),(9,16),(10,14),(10,16),(13,14)] fun K hK=>?_)|(apply ak 5 [(3,8),(5,8),(6,8)] fun K hK=>?_)|(apply ak 14 [(2,5),(2,6)] fun K hK=>?_)|(apply ak 22 [(5,15),(5,16),(7,15),(7,16),(8,15),(8,16),(12,15),(13,15)] fun K hK=>?_)|(apply ak 23 [(3,17),(3,19),(7,17),(7,19),(9,17),(9,19),(10,17),(10,19),(15,17),(16,17)] fun K hK=>?_)|(apply aV ?_;try intro _)|(apply aW ?_ ?_<;>clear hK K)|apply aU ?_|apply bD rfl ?_|apply aq ?_|apply am ?_|apply aw ?_)
 refine dz [0,3,12,94,95] [] 96 x.args.length (fun i E U=>∃O W s2 S2 lv2 a,E.at 8=a/\nT c n (x.args.drop i) s2=some (W,Z.2)/\Z.1=O++W/\zab X U S2 s2 lv2 vv/\FrL X S vv (H.alloc (.cells x.cells 0 true)) S2 vv U/\zad S2 vv (H.next+1) U a O/\O.length=i) eE ⟨[],Z.1,s,S,lv,.aa,eE,h1,rfl,R1,cf _ _ _ _,⟨.inl ⟨rfl,rfl⟩,fun k z=>(wb z).elim⟩,rfl⟩ ?_;rintro i E U hi hcE hrH hnH hsI ⟨O,W,s2,S2,lv2,a,k8,hJ,J,R2,F2,W2,V⟩;(try simp only[bN,bO,bu,aM,a0,Nat.reduceBEq,Nat.reduceAdd,Nat.reduceLeDiff,tyF, *]at hcE);(try simp only[bN,bO,bu,aM,a0,Nat.reduceBEq,Nat.reduceAdd,Nat.reduceLeDiff,tyF, *]at hrH);(try simp only[bj,bJ,cL,bX,Nat.reduceAdd]at hnH);have n2:H.next+1<=U.next:=hnH
 by_cases hlt:i<x.args.length
 .have hlt':(i:Int)<x.args.length:=by omega
  have hgx:x.args[i]?=some x.args[i]:=bc hlt;rw[eM hlt]at hJ;unfold nT at hJ;simp only[bT,b9]at hJ;obtain⟨e1,he1,r2,hr2,rfl,hr2'⟩:=hJ;generalize x.args[i]=y at *;have hFe:Fin e1.2:=by
   have:=(sT c n _ _ _ hr2).1.le;rw[hr2']at this;exact hFa.le this
  have gb2:=dP C F2;repeat' (first
   |(apply aj ?_;clear hK K)|apply Ry.o ?_|apply bq ?_|(apply aY (fun hb L=>?_) (fun hb L=>?_)<;>try(cases hb;done))|apply ai ?_|(apply ah fun K hK=>?_)|(apply ak 3 [(3,14),(3,16),(7,14),(7,16),(9,14),(9,16),(10,14),(10,16),(13,14)] fun K hK=>?_)|(apply ak 5 [(3,8),(5,8),(6,8)] fun K hK=>?_)|(apply ak 14 [(2,5),(2,6)] fun K hK=>?_)|(apply ak 22 [(5,15),(5,16),(7,15),(7,16),(8,15),(8,16),(12,15),(13,15)] fun K hK=>?_)|(apply ak 23 [(3,17),(3,19),(7,17),(7,19),(9,17),(9,19),(10,17),(10,19),(15,17),(16,17)] fun K hK=>?_)|(apply aV ?_;try intro _)|(apply aW ?_ ?_<;>clear hK K)|apply aU ?_|apply bD rfl ?_|apply aq ?_|apply am ?_|apply aw ?_)
  refine qc ?_;have R2a:=R2.bH (.cells [AV.int .i64 0,.int .i64 0,.ag [],.int .i64 0,.aa] 0 true) (.cells y.cells 0 true);have F2a:=(cf X S2 vv U).bH (.cells [AV.int .i64 0,.int .i64 0,.ag [],.int .i64 0,.aa] 0 true) (.cells y.cells 0 true);refine aL ?_ (nU hG hX n y s2 e1 he1 hFe R2a (cf _ _ _ _));rintro w H3 ⟨rfl,S3,lv3,R3,F3⟩;have F23:=F2a.trans F3;have W3:=W2.fr ac ac F23;have n3:U.next+1<=H3.next:=F3.next
  have R3a:=R3.alloc (.cells [.int .i64 e1.1] 0 true);obtain⟨v5,H5,a5,W5,R5,_,n5,q5,_,_⟩:=W3.dy R3a eh (dB _) (fun k z=>fC) e1.1 (r:=H3.next) (imm:=0) jB ac ac;have F5:FrL X S vv (H.alloc (.cells x.cells 0 true)) S3 vv H5:=by
   have F:=F2.trans F23;refine⟨by have:=F.next;simp only[bj]at n5 this⊢;omega,fun k h1 h2 h3 h4 h5=>?_,F.sub,F.own⟩;rw[q5 k (by simp only[bj]at h1⊢;omega) (fun e=>by have:=W3.r.lt e;simp only[bj]at h1;omega),aJ,ao (by simp only[bj]at h1;omega)];exact F.get k h1 h2 h3 h4 h5
  have n5':U.next<=H5.next:=Cr
  dsimp only[aI];repeat' (first
   |(apply aj ?_;clear hK K)|apply Rx.o ?_|apply aD ?_|apply ai ?_|(apply ah fun K hK=>?_)|(apply ak 3 [(3,14),(3,16),(7,14),(7,16),(9,14),(9,16),(10,14),(10,16),(13,14)] fun K hK=>?_)|(apply ak 5 [(3,8),(5,8),(6,8)] fun K hK=>?_)|(apply ak 14 [(2,5),(2,6)] fun K hK=>?_)|(apply ak 22 [(5,15),(5,16),(7,15),(7,16),(8,15),(8,16),(12,15),(13,15)] fun K hK=>?_)|(apply ak 23 [(3,17),(3,19),(7,17),(7,19),(9,17),(9,19),(10,17),(10,19),(15,17),(16,17)] fun K hK=>?_)|(apply aV ?_;try intro _)|(apply aW ?_ ?_<;>clear hK K)|apply aU ?_|apply bD rfl ?_|apply aq ?_|apply am ?_|apply aw ?_)
  refine⟨ac,bm,bm,cN,II,?_⟩;exact⟨O++[e1.1],r2.1,e1.2,S3,lv3,v5,eE,by rw[<-hr2'];exact hr2,by rw[J];simp,R5,F5,W5,by simp[V]⟩
 .have hlt':¬(i:Int)<x.args.length:=by omega
  have hd:x.args.drop i=[]:=nG ac;rw[hd]at hJ;simp only[nT,b9]at hJ;obtain⟨hJ1,hJ2⟩:=hJ;subst hJ2;rw[<-hJ1,ij]at J;rw[<-J]at W2 V;clear hd V;have gb2:=dP C F2;have m2:=R2.m;unfold bC at m2;have hlF2:=R2.dP hX x.to I;have nw2:=R2.new (az _);have Rb:=R2.alloc (.cells [.int .i64 Z.2.ab] 0 true);obtain⟨v6,H6,a6,i6,n6,l6,f6,q6⟩:=Ht (H:=U.alloc (.cells [.int .i64 Z.2.ab] 0 true)) (v:=.sl U.next 0 1 1) (l:=[Z.2.ab]) (lo:=U.next) ⟨U.next,0,rfl,fx,db _,az _,ct _⟩ (dB _) (W2.r.keep (dB _) fun k z=>by rw[aJ,ao (by have:=W2.r.lt z;omega)]) (by rw[happl];simp only[cy,fP];omega);simp only[bj]at n6 l6 f6 q6;have hf6:∀k,k<U.next->H6.get k=U.get k:=fun k z=>by rw[l6 k z,aJ,ao ac]
  have R6:zab X H6 S2 Z.2 lv2 vv:=R2.keep ac fun k h1 _=>hf6 k h1;have F6:FrL X S2 vv U S2 vv H6:=⟨ac,fun k h1 _ _ _ _=>hf6 k h1,fun _ h=>.inl h,fun _ h=>.inl h⟩;have m:∀k,bL v6 k->U.next<=k:=fun k z=>(i6.lt z).1
  have Y:=wa hG R6 ⟨30,dl c.funcs x.to 0,Z.2.ab::Z.1⟩ (.inr (by obtain⟨bG,i0,z1,z2,z3,z4,z5⟩:=i6;exact⟨bG,i0,z1,z2,z3,db _,z5⟩)) (fun k z=>by have:=R2.new (m k z);exact⟨this.2.2,this.1,this.2.1⟩) (by rw[<-hr]at hFr;exact hFr.r) hFa.l;have m6:=R6.m;unfold bC at m6;have mb:=Rb.m;unfold bC at mb;have hlFb:=Rb.dP hX x.to I;have gbb:(U.alloc (.cells [.int .i64 Z.2.ab] 0 true)).get H.next=some (.cells x.cells 0 true):=by rw[aJ,ao ac];exact gb2
  have hlF6:=R6.dP hX x.to I;repeat' (first
   |(apply aj ?_;clear hK K)|apply Ry.o ?_|apply bq ?_|(apply aY (fun hb L=>?_) (fun hb L=>?_)<;>try(cases hb;done))|apply ai ?_|(apply ah fun K hK=>?_)|(apply ak 3 [(3,14),(3,16),(7,14),(7,16),(9,14),(9,16),(10,14),(10,16),(13,14)] fun K hK=>?_)|(apply ak 5 [(3,8),(5,8),(6,8)] fun K hK=>?_)|(apply ak 14 [(2,5),(2,6)] fun K hK=>?_)|(apply ak 22 [(5,15),(5,16),(7,15),(7,16),(8,15),(8,16),(12,15),(13,15)] fun K hK=>?_)|(apply ak 23 [(3,17),(3,19),(7,17),(7,19),(9,17),(9,19),(10,17),(10,19),(15,17),(16,17)] fun K hK=>?_)|(apply aV ?_;try intro _)|(apply aW ?_ ?_<;>clear hK K)|apply aU ?_|apply bD rfl ?_|apply aq ?_|apply am ?_|apply aw ?_)
  refine qc ?_;refine aL ?_ Y;intro w H7 h7;have h7':=h7.val F6 m;rw[hr]at h7';have n67:H6.next<=H7.next:=by obtain⟨_,_,_,_,h,_⟩:=h7;exact h
  clear h7 Y;obtain⟨rfl,S7,lv7,R7,F7⟩:=h7';have gb6:H6.get H.next=some (.cells x.cells 0 true):=by rw[hf6 _ ac];exact gb2
  have gb7:=dP C (F2.trans F7);have m7:=R7.m;unfold bC at m7;have hlF7:=R7.dP hX x.to I;have n7:U.next<=H7.next:=F7.next
  obtain⟨R8,F8⟩:=R7.setS r.1;have gb8:=dP C (F2.trans (F7.trans F8));have m8:=R8.m;have hlF8:=R8.dP hX x.to I;have hlN8:=R8.lkN hX x.name;have hv8:r.2.vars=Z.2.vars:=by rw[<-hr];rfl
  have hl8:ce c.am x.name<r.2.vars.length:=by rw[hv8];exact hl
  clear hv8;obtain⟨q,hix,hld,_⟩:=R8.setV hl8 0;have nw8:=R8.new (az _);have R8a:=R8.alloc (.cells [.int .i64 r.1] 0 true);have Y:=CJ hG R8a ((cf _ _ _ _).alloc _) ⟨24,0,[r.1]⟩ rfl fx (az _) (ct _) nw8.2.2 nw8.1 nw8.2.1 hF rfl rfl;have n8:(H7.set X.b (.cells (bC X {r.2 with ab:=r.1} lv7 vv) 0 true)).next=H7.next:=rfl
  dsimp only[bC]at R8 F8 gb8 m8 hlF8 hlN8 R8a Y hld n8;rw[n8]at Y;dsimp only[aI];repeat' (first
   |(apply aj ?_;clear hK K)|apply Rx.o ?_|apply aD ?_|apply ai ?_|(apply ah fun K hK=>?_)|(apply ak 3 [(3,14),(3,16),(7,14),(7,16),(9,14),(9,16),(10,14),(10,16),(13,14)] fun K hK=>?_)|(apply ak 5 [(3,8),(5,8),(6,8)] fun K hK=>?_)|(apply ak 14 [(2,5),(2,6)] fun K hK=>?_)|(apply ak 22 [(5,15),(5,16),(7,15),(7,16),(8,15),(8,16),(12,15),(13,15)] fun K hK=>?_)|(apply ak 23 [(3,17),(3,19),(7,17),(7,19),(9,17),(9,19),(10,17),(10,19),(15,17),(16,17)] fun K hK=>?_)|(apply aV ?_;try intro _)|(apply aW ?_ ?_<;>clear hK K)|apply aU ?_|apply bD rfl ?_|apply aq ?_|apply am ?_|apply aw ?_)
  .exact cG
  .refine qc ?_;refine aL ?_ Y;rintro w H9 ⟨⟨rfl,S9,lv9,R9,F9⟩,n9'⟩;simp only[bj,bJ]at n9';have hl9:ce c.am x.name<(ay ⟨24,0,[r.1]⟩ {r.2 with ab:=r.1}).2.vars.length:=hl8;obtain⟨q',o,hld',H10,hst,hq1,hq2,hq3,R10,F10,o10,n10⟩:=R9.setV hl9 (ay ⟨24,0,[r.1]⟩ {r.2 with ab:=r.1}).1;have hqq:q'=q:=by
    rw[hix]at o;simp only[aC,AV.ptr.injEq]at o;exact o.1.symm
   subst hqq;have m8a:=R8a.m;have m9:=R9.m;have m10:=R10.m;have hlN8a:=R8a.lkN hX x.name;have hlN9:=R9.lkN hX x.name;have hlN10:=R10.lkN hX x.name;have F89:=F2.trans (F7.trans (F8.trans F9));have gb9:=dP C F89;have gb8a:=dP C (F2.trans (F7.trans (F8.alloc (.cells [.int .i64 r.1] 0 true))));have gb10:=dP C (F89.trans F10);have n9:=F9.next
   dsimp only[bC]at m8a m9 m10;simp only[bJ]at n9;dsimp only[aI];repeat' (first
    |(apply aj ?_;clear hK K)|apply Rx.o ?_|apply aD ?_|apply ai ?_|(apply ah fun K hK=>?_)|(apply ak 3 [(3,14),(3,16),(7,14),(7,16),(9,14),(9,16),(10,14),(10,16),(13,14)] fun K hK=>?_)|(apply ak 5 [(3,8),(5,8),(6,8)] fun K hK=>?_)|(apply ak 14 [(2,5),(2,6)] fun K hK=>?_)|(apply ak 22 [(5,15),(5,16),(7,15),(7,16),(8,15),(8,16),(12,15),(13,15)] fun K hK=>?_)|(apply ak 23 [(3,17),(3,19),(7,17),(7,19),(9,17),(9,19),(10,17),(10,19),(15,17),(16,17)] fun K hK=>?_)|(apply aV ?_;try intro _)|(apply aW ?_ ?_<;>clear hK K)|apply aU ?_|apply bD rfl ?_|apply aq ?_|apply am ?_|apply aw ?_)
   refine Be iM iM hst ?_;repeat' (first
    |(apply aj ?_;clear hK K)|apply Rx.o ?_|apply aD ?_|apply ai ?_|(apply ah fun K hK=>?_)|(apply ak 3 [(3,14),(3,16),(7,14),(7,16),(9,14),(9,16),(10,14),(10,16),(13,14)] fun K hK=>?_)|(apply ak 5 [(3,8),(5,8),(6,8)] fun K hK=>?_)|(apply ak 14 [(2,5),(2,6)] fun K hK=>?_)|(apply ak 22 [(5,15),(5,16),(7,15),(7,16),(8,15),(8,16),(12,15),(13,15)] fun K hK=>?_)|(apply ak 23 [(3,17),(3,19),(7,17),(7,19),(9,17),(9,19),(10,17),(10,19),(15,17),(16,17)] fun K hK=>?_)|(apply aV ?_;try intro _)|(apply aW ?_ ?_<;>clear hK K)|apply aU ?_|apply bD rfl ?_|apply aq ?_|apply am ?_|apply aw ?_)
   .exact cG
   .all_goals refine qq ?_
    exact⟨S9,lv9,vv,R10,F1.trans (F89.trans F10)⟩
end
end
section
def tyLoG.tyF:=ad @ef (ad @cJ (ad @cM (ad @jH (ad @lT (ad @fW (ad @eg (ad @dJ (ad @eC (ad @kT (ad @mH (@fw)))))))))))
open tyLoG
noncomputable def IP:{c:SC // aG 87 (f132.body.getD .skip)=c}:=by
 refine⟨?_,?_⟩;rotate_left
 .simp only[f132,bK,aG,bF,bw,bH,bI,Nat.blt,Nat.ble];rfl
structure zap (S:Nat->Prop) (vv:AV) (lo:Nat) (H:Hp) (av:AV) (l:qp):Prop where
 r:gD H av l lo
 n:∀k,bL av k->¬S k/\¬bL vv k
def gD.lt{lo:Nat}(h:gD H v l lo)(z:bL v k):lo<=k/\k<H.next:=h.n.lt z
def gD.lo{lo lo':Nat}(h:gD H v l lo)(W:∀k,bL v k->lo'<=k):gD H v l lo':=by
 rcases h with h|⟨r,o,m,I,Z⟩
 .exact .inl h
 .exact .inr ⟨r,o,m,W r ⟨_,o⟩,Z⟩
def gD.one{H:Hp}{v:AV}{l:qp}{lo:Nat}(h:gD H v l lo):AV.one v=true/\v.cells=[v]:=by
 rcases h with⟨rfl,_⟩|⟨r,rfl,_⟩<;>exact⟨rfl,rfl⟩
def zap.fr{vv:AV}{lo:Nat}(h:zap S vv lo H M l)(C:X.b<lo)(o:X.rt<lo)(f:FrL X S vv H S' I H'):zap S' I lo H' M l:=by
 refine⟨h.r.keep f.next fun k z=>?_,fun k z=>?_⟩
 .have a:=h.r.lt z;have b:=h.n k z;exact f.get k a.2 ac ac b.1 b.2
 .have a:=h.r.lt z;have b:=h.n k z;refine⟨fun e=>?_,fun e=>?_⟩
  .rcases f.sub k e with e|e
   .exact b.1 e
   .omega
  .rcases f.own k e with e|e
   .exact b.2 e
   .omega
def zap.at{vv:AV}{lo:Nat}(h:zap S vv lo H M l){x:Int}(J:l[i]?=some x):∃r,dZ prog 22 M (.int .i64 (i:Int))=some (.ptr r i)/\eR prog H 3 (.ptr r i)=some (.int .i64 x)/\bL M r:=by
 have O:i<l.length:=by
  by_cases c:i<l.length
  .exact c
  .rw[jm ac]at J;cases J
 rcases h.r with⟨_,rfl⟩|m
 .simp at O
 .obtain⟨r,I,Z⟩:=m.b.at O;rw[bc O]at J;simp only[aC]at J;rw[J]at Z;refine⟨r,I,Z,?_⟩;obtain⟨q,e,_⟩:=m;subst e;rw[vu underlying22 kP O]at I;simp only[aC,AV.ptr.injEq]at I;exact⟨_,by rw[I.1]⟩
def IQ{lo:Nat}(W:gX H v l lo)(M:l.length<2^38):∃I H',cY prog false H 22 22 .aa v=some (I,H')/\gD H' I l H.next/\H.next<=H'.next/\(∀k,k<H.next->H'.get k=H.get k):=by
 by_cases Y:l=[]
 .subst Y;refine⟨.aa,H,?_,.inl ⟨rfl,rfl⟩,az _,fun _ _=>rfl⟩;rcases W with⟨rfl,_⟩|⟨r,Z,rfl,m,_⟩
  .simp only[cY,underlying22,kP,oE,oF,show hB prog 22=true by kernel_rfl,eF]
  .have V:=ub m;simp only[fP]at V;simp only[cY,underlying22,kP,oE,oF,show hB prog 22=true by kernel_rfl,fP,V]
 .have O:eF H 1 v=some (l.length,l.map (.int .i64)):=by
   rcases W with⟨_,h⟩|⟨r,Z,rfl,m,_⟩
   .exact(Y h).elim
   .exact ub m
  obtain⟨I,H',o,m,L,U,_⟩:=Hu (v:=.aa) (l:=[]) (lo:=H.next) (.inl ⟨rfl,rfl⟩) (az _) O Y co;rw[mZ]at m;exact⟨I,H',o,.inr m,ac,U⟩
def zo(tb:qs)(X:Lx)(c:Cx)(n:Nat):Prop:=∀(l:qy) (s r:Bd),eD c n l s=some r->Fin r->dQ l<2^36->s.vars.length<2^36->∀{H:Hp}{S:Nat->Prop}{lv vv:AV},zab X H S s lv vv->aX prog (aK pls tb) 62 [.ptr X.b 0,.aq (l.map St.cells)] H (kZ X S vv H r)
section
variable {tb:qs} (hG:zaf tb) {X:Lx} {c:Cx} (hX:zak X c) {x:St} {s:Bd} {H:Hp} {S:Nat -> Prop} {lv vv:AV}
set_option maxRecDepth 100000 in
include hG hX in
theorem TO{n:Nat}(IH:zo tb X c n){r:Int×Bd}{a b m:Bd}(h1:dE c n x.value s=some r)(h2:eD c n x.a8 r.2=some a)(h3:eD c n x.bA {a with ab:=r.2.ab,vars:=r.2.vars}=some b)(h4:l7 r.1 a.vars b.vars.length 0 b=some m)
 (hF:Fin (bM r.1 a.ab m.ab m).2) (hz:x.sz<2^36) (hvl:s.vars.length<2^36) (C:zab X H S s lv vv) :
 aX prog (aK pls tb) 132 [.ptr X.b 0,.agg x.cells] H (kZ X S vv H { (bM r.1 a.ab m.ab m).2 with ab:=(bM r.1 a.ab m.ab m).1}):=by
 have hw:zaa (aK pls tb) 132:=hG.plain cC;have hkeep:(aK pls tb).keep 132=false:=rfl;have R1:=C.alloc (.cells x.cells 0 true);have F1:=(cf X S vv H).alloc (.cells x.cells 0 true);have hFm:Fin m:=hF.le (eQ _ _ _ _).le;have hml:=ui _ _ _ _ _ _ h4;have hFb:Fin b:=hFm.le hml.1;have e3:=(md c n).2.1 _ _ _ h3;have e2:=(md c n).2.1 _ _ _ h2;have hFa:Fin a:=hFb.le ⟨e3.1.l,e3.1.n⟩;have hFr:Fin r.2:=hFa.le e2.1;have hsz:=x.aV;have o3:=C.o3;have o4:=C.o4;have o5:=C.o5;have hlv:=dm c n _ _ _ h1;have hrl:r.2.vars.length<2^36:=by rw[hlv.v];exact hvl
 have hbl:b.vars.length<2^36:=by rw[e3.2];exact hrl
 clear e3 e2 hml hlv;refine bA (M:=87) (rs:=[]) (hw.call _) hw.aF hw.ak func132 rfl rfl IP.2 rfl ?_;dsimp only[IP,bt,Nat.reduceAdd];repeat' (first
  |(apply aj ?_;clear hK K)|apply Rx.o ?_|apply aD ?_|apply ai ?_|(apply ah fun K hK=>?_)|(apply ak 2 [(3,8),(3,11),(7,8)] fun K hK=>?_)|(apply ak 4 [(3,10),(7,10)] fun K hK=>?_)|(apply ak 10 [(3,18),(3,20),(10,18),(14,18),(17,18)] fun K hK=>?_)|(apply aV ?_;try intro _)|(apply aW ?_ ?_<;>clear hK K)|apply aU ?_|apply bD rfl ?_|apply aq ?_|apply am ?_|apply aw ?_)
 refine qc ?_;refine aL ?_ (nU hG hX n x.value s r h1 hFr R1 (cf _ _ _ _));rintro w H2 ⟨rfl,S2,lv2,R2,F2⟩;have g2:=dP C F2;have m2:=R2.m;have n2:H.next+1<=H2.next:=F2.next
 obtain⟨cv,H3,a3,c3,n3,q3⟩:=IQ (H:=H2) R2.vars.n ac;have R3:zab X H3 S2 r.2 lv2 vv:=R2.keep n3 fun k h _=>q3 k h;have F3:FrL X S2 vv H2 S2 vv H3:=⟨n3,fun k h _ _ _ _=>q3 k h,fun _ h=>.inl h,fun _ h=>.inl h⟩;have m3:=R3.m;have g3:H3.get H.next=some (.cells x.cells 0 true):=by rw[q3 _ ac];exact g2
 have z3:zap S2 vv (H.next+1) H3 cv r.2.vars:=⟨c3.lo fun k z=>by have:=c3.lt z;omega,fun k z=>by
  have:=R2.new (c3.lt z).1;exact⟨this.1,this.2.1⟩⟩
 obtain⟨hc1,hc2⟩:=c3.one;dsimp only[bC]at m2 m3;dsimp only[aI];repeat' (first
  |(apply aj ?_;clear hK K)|apply Rx.o ?_|apply aD ?_|apply ai ?_|(apply ah fun K hK=>?_)|(apply ak 2 [(3,8),(3,11),(7,8)] fun K hK=>?_)|(apply ak 4 [(3,10),(7,10)] fun K hK=>?_)|(apply ak 10 [(3,18),(3,20),(10,18),(14,18),(17,18)] fun K hK=>?_)|(apply aV ?_;try intro _)|(apply aW ?_ ?_<;>clear hK K)|apply aU ?_|apply bD rfl ?_|apply aq ?_|apply am ?_|apply aw ?_)
 .exact cG
 .refine qc ?_;refine aL ?_ (IH x.a8 r.2 a h2 hFa ac hrl R3);rintro w H4 ⟨S4,W,I,R4,F4⟩;have U:=F2.trans (F3.trans F4);have g4:=dP C U;have z4:=z3.fr ac ac F4;have m4:=R4.m;obtain⟨R4s,F4s⟩:=R4.setS r.2.ab;have m4s:=R4s.m;have zs:=z4.fr (X:=X) ac ac F4s;have R5:=R4s.swapV (vw:=cv) (l:=r.2.vars) (zs.r.lo fun k _=>db _) (fun k z=>⟨by have:=zs.r.lt z;omega,(zs.r.lt z).2,(zs.n k z).1⟩);have m5:=R5.m;have hk5:∀k,k≠X.b->((H4.set X.b (.cells (bC X {a with ab:=r.2.ab} W I) 0 true)).set X.b (.cells (bC X {a with ab:=r.2.ab,vars:=r.2.vars} W cv) 0 true)).get k=H4.get k:=fun k z=>by rw[bi,ao z,bi,ao z]
  have L:FrL X S vv (H.alloc (.cells x.cells 0 true)) S4 cv ((H4.set X.b (.cells (bC X {a with ab:=r.2.ab} W I) 0 true)).set X.b (.cells (bC X {a with ab:=r.2.ab,vars:=r.2.vars} W cv) 0 true)):=⟨U.next,fun k h1 h2 h3 h4 h5=>by rw[hk5 k h2];exact U.get k h1 h2 h3 h4 h5,U.sub,fun k z=>.inr (z4.r.lt z).1⟩;have g5:=dP C L;have y5:zap S4 cv 0 ((H4.set X.b (.cells (bC X {a with ab:=r.2.ab} W I) 0 true)).set X.b (.cells (bC X {a with ab:=r.2.ab,vars:=r.2.vars} W cv) 0 true)) I a.vars:=⟨R4.vars.keep (az _) fun k z=>hk5 k (by have:=(R4.vS k z).1;omega),fun k z=>⟨fun e=>(R4.sS k e).2.2 z,fun e=>(z4.n k e).2 z⟩⟩;have y5':zap S4 cv (X.b+1) ((H4.set X.b (.cells (bC X {a with ab:=r.2.ab} W I) 0 true)).set X.b (.cells (bC X {a with ab:=r.2.ab,vars:=r.2.vars} W cv) 0 true)) I a.vars:=⟨y5.r.lo fun k z=>(R4.vS k z).1,y5.n⟩;clear y5 hk5 F4s zs z4 z3 F3 U;dsimp only[bC]at m4 m4s m5 R5 L y5' g5;dsimp only[aI];repeat' (first
   |(apply aj ?_;clear hK K)|apply Rx.o ?_|apply aD ?_|apply ai ?_|(apply ah fun K hK=>?_)|(apply ak 2 [(3,8),(3,11),(7,8)] fun K hK=>?_)|(apply ak 4 [(3,10),(7,10)] fun K hK=>?_)|(apply ak 10 [(3,18),(3,20),(10,18),(14,18),(17,18)] fun K hK=>?_)|(apply aV ?_;try intro _)|(apply aW ?_ ?_<;>clear hK K)|apply aU ?_|apply bD rfl ?_|apply aq ?_|apply am ?_|apply aw ?_)
  .exact cG
  .refine qc ?_;refine aL ?_ (IH x.bA _ b h3 hFb ac hrl R5);rintro w H6 ⟨S6,lv6,O,R6,F6⟩;have J:=L.trans F6;have g6:=dP C J;have y6:=y5'.fr ac ac F6;have m6:=R6.m;have hlen6:=R6.vars.n.len';have n6:H.next+1<=H6.next:=J.next
   clear F6 L R5 R4s R4 y5' m5 m4s m4 g5 g4;dsimp only[bC]at m6;dsimp only[aI];repeat' (first
    |(apply aj ?_;clear hK K)|apply Rx.o ?_|apply aD ?_|apply ai ?_|(apply ah fun K hK=>?_)|(apply ak 2 [(3,8),(3,11),(7,8)] fun K hK=>?_)|(apply ak 4 [(3,10),(7,10)] fun K hK=>?_)|(apply ak 10 [(3,18),(3,20),(10,18),(14,18),(17,18)] fun K hK=>?_)|(apply aV ?_;try intro _)|(apply aW ?_ ?_<;>clear hK K)|apply aU ?_|apply bD rfl ?_|apply aq ?_|apply am ?_|apply aw ?_)
   refine dz [0,4,7,8,51] [] 52 b.vars.length (fun i E Hi=>∃Y Si lvi,l7 r.1 a.vars (b.vars.length-i) i Y=some m/\zab X Hi Si Y lvi O/\FrL X S vv (H.alloc (.cells x.cells 0 true)) Si O Hi/\zap Si O (X.b+1) Hi I a.vars/\Y.vars.length=b.vars.length) eE ⟨b,S6,lv6,h4,R6,J,y6,rfl⟩ ?_;clear m6 g6 R6 J y6 hlen6;rintro i E Hi hi hcE hrH hnH hsI ⟨Y,Si,lvi,V,Ri,Fi,yi,hil⟩;(try simp only[bN,bO,bu,aM,a0,Nat.reduceBEq,Nat.reduceAdd,Nat.reduceLeDiff,tyF, *]at hcE);(try simp only[bN,bO,bu,aM,a0,Nat.reduceBEq,Nat.reduceAdd,Nat.reduceLeDiff,tyF, *]at hrH);(try simp only[bj,bJ,cL,bX,Nat.reduceAdd]at hnH);have mi:=Ri.m;dsimp only[bC]at mi;have ni:H.next+1<=Hi.next:=Fi.next
   by_cases hlt:i<b.vars.length
   .have hlt':(i:Int)<b.vars.length:=by omega
    obtain⟨k,z⟩:∃k,b.vars.length-i=k+1:=⟨b.vars.length-i-1,ac⟩;have hk2:b.vars.length-(i+1)=k:=ac;rw[z]at V;rw[hk2];unfold l7 at V;simp only[bT]at V;obtain⟨xa,hxa,xb,hxb,V⟩:=V;obtain⟨qa,hixa,hlda,hqa⟩:=yi.at hxa;obtain⟨qb,hixb,hldb⟩:=Ri.atV hxb;have hFx:Fin (bM r.1 xa xb Y).2:=hFm.le ⟨(ui _ _ _ _ _ _ V).1.l,(ui _ _ _ _ _ _ V).1.n⟩;have hx2:(bM r.1 xa xb Y).2.vars=Y.vars:=(eQ _ _ _ _).v;have hvx:i<(bM r.1 xa xb Y).2.vars.length:=by rw[hx2];omega
    repeat' (first
     |(apply aj ?_;clear hK K)|apply Ry.o ?_|(apply aY (fun hb o=>?_) (fun hb o=>?_)<;>try(cases hb;done))|apply ai ?_|(apply ah fun K hK=>?_)|(apply ak 2 [(3,8),(3,11),(7,8)] fun K hK=>?_)|(apply ak 4 [(3,10),(7,10)] fun K hK=>?_)|(apply ak 10 [(3,18),(3,20),(10,18),(14,18),(17,18)] fun K hK=>?_)|(apply aV ?_;try intro _)|(apply aW ?_ ?_<;>clear hK K)|apply aU ?_|apply bD rfl ?_|apply aq ?_|apply am ?_|apply aw ?_)
    refine qc ?_;refine aL ?_ (ul hG Ri (cf _ _ _ _) r.1 xa xb hFx);rintro w H7 ⟨rfl,S7,lv7,R7,F7⟩;obtain⟨q',Z,hld',H8,hst,hq1,hq2,hq3,R8,F8,o8,n8⟩:=R7.setV hvx (bM r.1 xa xb Y).1;have hqq:q'=qb:=by
     rw[hixb]at Z;simp only[aC,AV.ptr.injEq]at Z;exact Z.1.symm
    subst hqq;have y7:=yi.fr ac ac F7;have y8:=y7.fr ac ac F8;obtain⟨qa7,ix7,ld7,_⟩:=y7.at hxa;obtain⟨qa8,ix8,ld8,_⟩:=y8.at hxa;rw[hixa]at ix7 ix8;simp only[aC,AV.ptr.injEq,bu]at ix7 ix8;subst ix7 ix8;have m7:=R7.m;have m8:=R8.m;have n7:=F7.next
    dsimp only[bC]at m7 m8;have fin:∀R:Prop,R->R:=fun _ h=>h;clear fin Z hx2;dsimp only[aI];repeat' (first
     |(apply aj ?_;clear hK K)|apply Rx.o ?_|apply aD ?_|apply ai ?_|(apply ah fun K hK=>?_)|(apply ak 2 [(3,8),(3,11),(7,8)] fun K hK=>?_)|(apply ak 4 [(3,10),(7,10)] fun K hK=>?_)|(apply ak 10 [(3,18),(3,20),(10,18),(14,18),(17,18)] fun K hK=>?_)|(apply aV ?_;try intro _)|(apply aW ?_ ?_<;>clear hK K)|apply aU ?_|apply bD rfl ?_|apply aq ?_|apply am ?_|apply aw ?_)
    .exact cG
    .refine⟨ac,bm,bm,cN,(by simp only[aM,Nat.reduceBEq, *];exact gp (n:=b.vars.length) ac ac),?_⟩;exact⟨_,S7,lv7,V,R8,Fi.trans (F7.trans F8),y8,by rw[jv,(eQ _ _ _ _).v];exact hil⟩
   .have hlt':¬(i:Int)<b.vars.length:=by omega
    have z:b.vars.length-i=0:=ac;rw[z]at V;simp only[l7,aC]at V;subst V;repeat' (first
     |(apply aj ?_;clear hK K)|apply Ry.o ?_|(apply aY (fun hb o=>?_) (fun hb o=>?_)<;>try(cases hb;done))|apply ai ?_|(apply ah fun K hK=>?_)|(apply ak 2 [(3,8),(3,11),(7,8)] fun K hK=>?_)|(apply ak 4 [(3,10),(7,10)] fun K hK=>?_)|(apply ak 10 [(3,18),(3,20),(10,18),(14,18),(17,18)] fun K hK=>?_)|(apply aV ?_;try intro _)|(apply aW ?_ ?_<;>clear hK K)|apply aU ?_|apply bD rfl ?_|apply aq ?_|apply am ?_|apply aw ?_)
    refine qc ?_;refine aL ?_ (ul hG Ri (cf _ _ _ _) r.1 a.ab Y.ab hF);rintro w H7 ⟨rfl,S7,lv7,R7,F7⟩;have m7:=R7.m;dsimp only[bC]at m7;dsimp only[aI];repeat' (first
     |(apply aj ?_;clear hK K)|apply Rx.o ?_|apply aD ?_|apply ai ?_|(apply ah fun K hK=>?_)|(apply ak 2 [(3,8),(3,11),(7,8)] fun K hK=>?_)|(apply ak 4 [(3,10),(7,10)] fun K hK=>?_)|(apply ak 10 [(3,18),(3,20),(10,18),(14,18),(17,18)] fun K hK=>?_)|(apply aV ?_;try intro _)|(apply aW ?_ ?_<;>clear hK K)|apply aU ?_|apply bD rfl ?_|apply aq ?_|apply am ?_|apply aw ?_)
    all_goals refine qq ?_
    obtain⟨R8,F8⟩:=R7.setS (bM r.1 a.ab Y.ab Y).1;exact⟨S7,lv7,O,R8,F1.trans (Fi.trans (F7.trans F8))⟩
end
end
variable{n lo:Nat}
section
def tyLoH.tyF:=ad @ef (ad @cJ (ad @x7 (ad @cM (ad @jH (ad @lT (ad @fW (ad @eg (ad @dJ (ad @eC (ad @kT (ad @mH (ad @Fk (ad @fw (ad @zj (@wd)))))))))))))))
open tyLoH
noncomputable def IR:{c:SC // aG 181 (f133.body.getD .skip)=c}:=by
 refine⟨?_,?_⟩;rotate_left
 .simp only[f133,bK,aG,bF,bw,bH,bI,Nat.blt,Nat.ble];rfl
abbrev oU(l:qu):qp:=l.map fun(i:Nat)=>(i:Int)
theorem TP{r imm:Nat}(L:H.get r=some (.cells (b.map .bool) imm true))(Z:m<b.length):eR prog H 4 (.ptr r m)=some (.bool (b.getD m false)):=by
 rw[Bh underlying4 rfl L,ii,fY,bc Z];rfl
def sV(b:qF)(i:Nat):qu:=(List.range i).filter fun i=>b.getD i false
theorem TQ(b:qF)(i:Nat):sV b (i+1)=sV b i++(if b.getD i false=true then [i]else []):=by
 unfold sV;rw[List.range_succ,List.filter_append]
 congr 1
 by_cases h:b.getD i false=true
 .rw[aB h];simp only[zm,h,cg,List.filter_nil]
 .rw[ao h];simp only[zm,h,List.filter_nil];rfl
def IT(h:i∈dT b):i<b.length:=by
 unfold dT at h;exact lI.1 (pC.1 h).1
def IU(b:qF)(i:Nat):(sV b i).length<=i:=by
 have:=zn (fun i=>b.getD i false) (List.range i);rw[List.length_range]at this;exact this
def zad.b0{vv:AV}{m:AV}(h:zad S vv lo H M l)(Z:H.next<=H'.next)(o:∀k,k<H.next->¬bL m k->H'.get k=H.get k)(hd:∀k,bL M k->¬bL m k):zad S vv lo H' M l:=⟨h.r.keep Z fun k z=>o k (h.r.lt z).2 (hd k z),h.n⟩
def FrL.b0{C:Nat->Prop}{Z vv m:AV}{bE:Hp}(h:FrL X C Z bE S vv H)(M:H.next<=H'.next)(Y:∀k,k<H.next->¬bL m k->H'.get k=H.get k)(V:∀k,bL m k->bE.next<=k):FrL X C Z bE S vv H':=
 ⟨dq h.next M,fun k o W I U O=>by rw[Y k (jW o h.next) fun e=>by have:=V k e;omega];exact h.get k o W I U O,h.sub,h.own⟩
def zad.dV{vv:AV}{m:AV}(h:zad S vv lo H m l)(C:zab X H S s O vv)(W:lo<=H.next)(x:Int)(Z:X.b<lo)(Y:l.length<2^39):
 ∃I H',cY prog false (H.alloc (.cells [.int .i64 x] 0 true)) 22 22 m (.sl H.next 0 1 1)=some (I,H')/\zad S vv lo H' I (l++[x])/\zab X H' S s O vv/\H.next<=H'.next/\(∀k,k<H.next->¬bL m k->H'.get k=H.get k)/\(∀k,bL I k->bL m k\/H.next<=k):=by
 obtain⟨I,H',U,M,L,_,a5,J,o,_⟩:=h.dy (C.alloc (.cells [.int .i64 x] 0 true)) eh (dB _) (fun k z=>fC) x (r:=H.next) (imm:=0) jB Z Y;simp only[bj]at a5 J o;exact⟨I,H',U,M,L,ac,fun k h1 V=>by rw[J k ac V,aJ,ao ac],fun k z=>by
  rcases o k z with e|e
  .exact .inl e
  .exact .inr ac⟩
def zad.at{vv:AV}(h:zad S vv lo H M l){x:Int}(J:l[i]?=some x):∃r,dZ prog 22 M (.int .i64 (i:Int))=some (.ptr r i)/\eR prog H 3 (.ptr r i)=some (.int .i64 x):=by
 have O:i<l.length:=by
  by_cases c:i<l.length
  .exact c
  .rw[jm ac]at J;cases J
 rcases h.r with⟨_,rfl⟩|m
 .simp at O
 .obtain⟨r,I,Z⟩:=m.at O;rw[bc O]at J;simp only[aC]at J;rw[J]at Z;exact⟨r,I,Z⟩
def IV{L j:Nat}(O:L<2^36)(I:j<2^36):IntKind.wrap .i64 (16*(L:Int))=16*(L:Int)/\IntKind.wrap .i64 (16*(L:Int)+j)=16*(L:Int)+j/\IntKind.wrap .i64 (16*(L:Int)+j+1)=16*(L:Int)+1+j:=by
 refine⟨pM ac ac,pM ac ac,?_⟩;rw[pM ac ac];omega
theorem TS(base:Int)(w:Nat)(m:qu)(j:Nat)(s:Bd):gY base (w::m) j s=gY base m (j+1) { (ay ⟨3,base+j,[]⟩ s).2 with vars:=(ay ⟨3,base+j,[]⟩ s).2.vars.set w (ay ⟨3,base+j,[]⟩ s).1}:=rfl
theorem CK(lp c:Int)(old:qp)(w:Nat)(m:qu)(j:Nat)(s:Bd):fL lp c old (w::m) j s=fL lp c old m (j+1) { (bM c (ay ⟨25,j,[lp]⟩ s).1 (old.getD w 0) (ay ⟨25,j,[lp]⟩ s).2).2 with vars:=(bM c (ay ⟨25,j,[lp]⟩ s).1 (old.getD w 0) (ay ⟨25,j,[lp]⟩ s).2).2.vars.set w (bM c (ay ⟨25,j,[lp]⟩ s).1 (old.getD w 0) (ay ⟨25,j,[lp]⟩ s).2).1}:=rfl
theorem CL(c a b:Int)(s:Bd)(v:qp):bM c a b {s with vars:=v}=((bM c a b s).1,{ (bM c a b s).2 with vars:=v}):=by
 unfold bM;split<;>rfl
theorem IX(lp c:Int)(old:qp):∀(m:qu) (j:Nat) (s:Bd) (v w:qp),v.length=w.length->(∀i,i∉m->v[i]?=w[i]?)->fL lp c old m j {s with vars:=v}=fL lp c old m j {s with vars:=w}
 |[],j,s,v,w,hl,h=>by
  have:v=w:=List.ext_getElem? fun i=>h i IL;rw[this]
 |a::m,j,s,v,w,hl,h=>by
  rw[CK,CK];have p:∀v,ay ⟨25,j,[lp]⟩ {s with vars:=v}=((ay ⟨25,j,[lp]⟩ s).1,{ (ay ⟨25,j,[lp]⟩ s).2 with vars:=v}):=fun v=>rfl;rw[p v,p w];simp only[];rw[CL c _ _ (ay ⟨25,j,[lp]⟩ s).2 v,CL c _ _ (ay ⟨25,j,[lp]⟩ s).2 w];refine IX lp c old m (j+1) (bM c (ay ⟨25,j,[lp]⟩ s).1 (old.getD a 0) (ay ⟨25,j,[lp]⟩ s).2).2 (v.set a (bM c (ay ⟨25,j,[lp]⟩ s).1 (old.getD a 0) (ay ⟨25,j,[lp]⟩ s).2).1) (w.set a (bM c (ay ⟨25,j,[lp]⟩ s).1 (old.getD a 0) (ay ⟨25,j,[lp]⟩ s).2).1) (by rw[jv,jv,hl]) fun i J=>?_;rw[mA,mA,hl];by_cases e:a=i
  .rw[aB e,aB e]
  .rw[ao e,ao e];exact h i (by rw[eK,su];exact⟨fun q=>e q.symm,J⟩)
def TT(b:qF):(dT b).Nodup:=List.nodup_range.filter _
section
variable {tb:qs} (hG:zaf tb) {X:Lx} {c:Cx} (hX:zak X c) {x:St} {s:Bd} {H:Hp} {S:Nat -> Prop} {lv vv:AV}
set_option maxRecDepth 100000 in
include hG hX in
theorem TU(IH:zo tb X c n){r:Int×Bd}(h1:dE c n x.value {s with loops:=s.loops+1}=some r)(h2:el c.am n x.a8 (List.replicate r.2.vars.length false)=some b)
 (h3:eD c n x.a8 (gY (16*(s.loops:Int)+1) (dT b) 0 { (ay ⟨3,16*(s.loops:Int),[]⟩ r.2).2 with ab:=(ay ⟨3,16*(s.loops:Int),[]⟩ r.2).1})=some t) (h4:dE c n x.value t=some d)
 {k:Int×Bd} (z:ay ⟨31,s.loops,r.2.ab::((dT b).map fun i=>r.2.vars.getD i 0)++[d.1,d.2.ab]++((dT b).map fun i=>d.2.vars.getD i 0)⟩ d.2=k)
 {m:Int×Bd} (hm:bM r.1 (ay ⟨25,0,[k.1]⟩ {k.2 with vars:=r.2.vars}).1 r.2.ab (ay ⟨25,0,[k.1]⟩ {k.2 with vars:=r.2.vars}).2=m)
 (hF:Fin (fL k.1 r.1 r.2.vars (dT b) 1 {m.2 with ab:=m.1})) (hz:x.sz<2^36) (hvl:s.vars.length<2^36) (hout:∀i,i∉dT b->d.2.vars[i]?=r.2.vars[i]?) (hR:zab X H S s lv vv) :
 aX prog (aK pls tb) 133 [.ptr X.b 0,.agg x.cells] H (kZ X S vv H (fL k.1 r.1 r.2.vars (dT b) 1 {m.2 with ab:=m.1})):=by
 have hw:zaa (aK pls tb) 133:=hG.plain cC;have hkeep:(aK pls tb).keep 133=false:=rfl;have R1:=hR.alloc (.cells x.cells 0 true);have F1:=(cf X S vv H).alloc (.cells x.cells 0 true);have hmm:m=((bM r.1 (ay ⟨25,0,[k.1]⟩ k.2).1 r.2.ab (ay ⟨25,0,[k.1]⟩ k.2).2).1,{ (bM r.1 (ay ⟨25,0,[k.1]⟩ k.2).1 r.2.ab (ay ⟨25,0,[k.1]⟩ k.2).2).2 with vars:=r.2.vars}):=by
  rw[<-hm];exact CL _ _ _ (ay ⟨25,0,[k.1]⟩ k.2).2 r.2.vars
 have hdl0:d.2.vars.length=r.2.vars.length:=by
  rw[(dm c n _ _ _ h4).v,((md c n).2.1 _ _ _ h3).2,(ro _ _ _ _).2.2.1];rfl
 generalize hm':bM r.1 (ay ⟨25,0,[k.1]⟩ k.2).1 r.2.ab (ay ⟨25,0,[k.1]⟩ k.2).2=m' at hmm;have hm'v:m'.2.vars=d.2.vars:=by rw[<-hm',(eQ _ _ _ _).v,<-z];rfl
 have hspec:fL k.1 r.1 r.2.vars (dT b) 1 {m.2 with ab:=m.1}=fL k.1 r.1 r.2.vars (dT b) 1 {m'.2 with ab:=m'.1}:=by
  have h:=IX k.1 r.1 r.2.vars (dT b) 1 {m'.2 with ab:=m'.1} r.2.vars d.2.vars hdl0.symm (fun i hi=>(hout i hi).symm);rw[hmm];rw[<-hm'v]at h;exact h
 rw[hspec]at hF⊢;clear hspec hmm hm m hout;have hFm':Fin m'.2:=hF.le ⟨(sU _ _ _ _ _ {m'.2 with ab:=m'.1}).1.l,(sU _ _ _ _ _ {m'.2 with ab:=m'.1}).1.n⟩;have hFf':Fin (ay ⟨25,0,[k.1]⟩ k.2).2:=by rw[<-hm']at hFm';exact hFm'.le (eQ _ _ _ _).le
 have hFk:Fin k.2:=hFf'.le (cR _ _).le;have hFd:Fin d.2:=by rw[<-z]at hFk;exact hFk.le (cR _ _).le
 have hFt:Fin t:=hFd.le (dm c n _ _ _ h4).le;have e3:=(md c n).2.1 _ _ _ h3;have hFl:=hFt.le e3.1;have hFp:Fin (ay ⟨3,16*(s.loops:Int),[]⟩ r.2).2:=hFl.le ⟨(ro _ _ _ { (ay ⟨3,16*(s.loops:Int),[]⟩ r.2).2 with ab:=(ay ⟨3,16*(s.loops:Int),[]⟩ r.2).1}).1.l,(ro _ _ _ { (ay ⟨3,16*(s.loops:Int),[]⟩ r.2).2 with ab:=(ay ⟨3,16*(s.loops:Int),[]⟩ r.2).1}).1.n⟩;have hFr:Fin r.2:=hFp.le (cR _ _).le;have hlv:=dm c n _ _ _ h1;have hrl:r.2.vars.length<2^36:=by rw[hlv.v];exact hvl
 have hln:s.loops<2^36:=ue (dB _) (by have:=hFr.n;rw[hlv.n]at this;exact this);have hbl:b.length=r.2.vars.length:=by rw[um _ _ _ _ _ h2,p6]
 have hdl:d.2.vars.length=r.2.vars.length:=by
  rw[(dm c n _ _ _ h4).v,e3.2,(ro _ _ _ _).2.2.1];rfl
 have hsz:=x.aV;have o3:=hR.o3;have o4:=hR.o4;have o5:=hR.o5;clear hlv e3;have cz:=R1.m;obtain⟨R1s,F1s⟩:=R1.dv (s.loops+1);have m1s:=R1s.m;have g1s:=dP hR F1s;have eL1:IntKind.wrap .i64 ((s.loops:Int)+1)=((s.loops+1:Nat):Int):=gP ac;have F01:=F1.trans F1s;dsimp only[bC]at cz m1s R1s F1s g1s F01;refine bA (M:=181) (rs:=[]) (hw.call _) hw.aF hw.ak func133 rfl rfl IR.2 rfl ?_;dsimp only[IR,bt,Nat.reduceAdd];repeat' (first
  |(apply aj ?_;clear hK K)|apply Rx.o ?_|apply aD ?_|apply ai ?_|(apply ah fun K hK=>?_)|(apply ak 19 [(3,11),(3,13)] fun K hK=>?_)|(apply gq 23 [0,2,3,4,5,6,7,1,8,9] [(5,7),(5,8),(6,7),(6,8)] fun K hK=>?_)|(apply ak 30 [(5,6),(9,6),(9,10)] fun K hK=>?_)|(apply ak 34 [(3,12),(3,18),(3,20),(11,12),(17,12),(17,18)] fun K hK=>?_)|(apply aV ?_;try intro _)|(apply aW ?_ ?_<;>clear hK K)|apply aU ?_|apply bD rfl ?_|apply aq ?_|apply am ?_|apply aw ?_)
 refine qc ?_;refine aL ?_ (nU hG hX n x.value _ r h1 hFr R1s (cf _ _ _ _));rintro w U ⟨rfl,S2,lv2,R2,F2⟩;have F02:=F1s.trans F2;have g2:=dP hR F02;have m2:=R2.m;have n2:H.next+1<=U.next:=F02.next
 have hl2:=R2.vars.n.len';have hmk:∀H:Hp,mw prog H 114 (.int .i64 r.2.vars.length) (.int .i64 r.2.vars.length)=some (.sl H.next 0 r.2.vars.length 1,H.alloc (.cells ((List.replicate r.2.vars.length false).map .bool) 0 true)):=fun H=>Sz _ ac;have nw2:=R2.new (az _);have R3:=R2.alloc (.cells ((List.replicate r.2.vars.length false).map .bool) 0 true);have g3:(U.alloc (.cells ((List.replicate r.2.vars.length false).map .bool) 0 true)).get H.next=some (.cells x.cells 0 true):=by rw[aJ,ao ac];exact g2
 clear R1 R1s cz m1s g1s;dsimp only[bC]at m2;dsimp only[aI];repeat' (first
  |(apply aj ?_;clear hK K)|apply Rx.o ?_|apply aD ?_|apply ai ?_|(apply ah fun K hK=>?_)|(apply ak 19 [(3,11),(3,13)] fun K hK=>?_)|(apply gq 23 [0,2,3,4,5,6,7,1,8,9] [(5,7),(5,8),(6,7),(6,8)] fun K hK=>?_)|(apply ak 30 [(5,6),(9,6),(9,10)] fun K hK=>?_)|(apply ak 34 [(3,12),(3,18),(3,20),(11,12),(17,12),(17,18)] fun K hK=>?_)|(apply aV ?_;try intro _)|(apply aW ?_ ?_<;>clear hK K)|apply aU ?_|apply bD rfl ?_|apply aq ?_|apply am ?_|apply aw ?_)
 refine qc ?_;have hrep:(List.replicate r.2.vars.length false).length=r.2.vars.length:=p6;have hasg:=CI hG hX (n+1) n (ct _) x.a8 _ b h2 ac R3 (q:=U.next) jB nw2.2.2 (ct _) nw2.1 nw2.2.1;rw[hrep]at hasg;refine aL ?_ hasg;clear hasg;rintro w H3 ⟨gb3,n3,q3⟩;simp only[bj]at n3 q3;have hq3:∀k,k<U.next->H3.get k=U.get k:=fun k z=>by rw[q3 k ac ac,aJ,ao ac]
 have R4:zab X H3 S2 r.2 lv2 vv:=R2.keep ac fun k z _=>hq3 k z;have F03:FrL X S vv (H.alloc (.cells x.cells 0 true)) S2 vv H3:=F02.trans ⟨ac,fun k z _ _ _ _=>hq3 k z,fun _ h=>.inl h,fun _ h=>.inl h⟩;clear q3 R3 g3;dsimp only[aI];repeat' (first
  |(apply aj ?_;clear hK K)|apply Rx.o ?_|apply aD ?_|apply ai ?_|(apply ah fun K hK=>?_)|(apply ak 19 [(3,11),(3,13)] fun K hK=>?_)|(apply gq 23 [0,2,3,4,5,6,7,1,8,9] [(5,7),(5,8),(6,7),(6,8)] fun K hK=>?_)|(apply ak 30 [(5,6),(9,6),(9,10)] fun K hK=>?_)|(apply ak 34 [(3,12),(3,18),(3,20),(11,12),(17,12),(17,18)] fun K hK=>?_)|(apply aV ?_;try intro _)|(apply aW ?_ ?_<;>clear hK K)|apply aU ?_|apply bD rfl ?_|apply aq ?_|apply am ?_|apply aw ?_)
 refine dz [0,3,4,5,6,46] [] 47 r.2.vars.length (fun i E Hi=>∃a,E.at 7=a/\gX Hi a (oU (sV b i)) (U.next+1)/\Sm (U.next+1) H3 Hi) eE ⟨.aa,eE,.inl ⟨rfl,rfl⟩,⟨fun _ _=>rfl⟩⟩ ?_;rintro i E Hi hi hcE hrH hnH hsI ⟨a,k7,ha,hsm⟩;(try simp only[bN,bO,bu,aM,a0,Nat.reduceBEq,Nat.reduceAdd,Nat.reduceLeDiff,tyF, *]at hcE);(try simp only[bN,bO,bu,aM,a0,Nat.reduceBEq,Nat.reduceAdd,Nat.reduceLeDiff,tyF, *]at hrH);(try simp only[bj,bJ,cL,bX,Nat.reduceAdd]at hnH);by_cases O:i<r.2.vars.length
 .have hlt':(i:Int)<r.2.vars.length:=by omega
  have gbi:Hi.get U.next=some (.cells (b.map .bool) 0 true):=by rw[hsm.get _ ac];exact gb3
  have hix:=IN (q:=U.next) O;have hld:=TP gbi (m:=i) ac;have hws:=TQ b i;have hwl:=IU b i;cases hbi:b.getD i false with
  |true=>
   rw[hbi]at hld;rw[hbi,aB rfl]at hws;obtain⟨v5,H5,a5,s5,n5,f5,o5'⟩:=Hr (H:=Hi.alloc (.cells [.int .i64 (i:Int)] 0 true)) (i:Int) (ha.keep (H':=Hi.alloc (.cells [.int .i64 (i:Int)] 0 true)) (dB _) fun k z=>by rw[aJ,ao (by have:=(ha.lt z).2;omega)]) eh (r:=Hi.next) (imm:=0) jB (by simp only[dh];omega);have n5':Hi.next<=H5.next:=Cr
   repeat' (first
    |(apply aj ?_;clear hK K)|apply Ry.o ?_|(apply aY (fun I L=>?_) (fun I L=>?_)<;>try(cases I;done))|apply ai ?_|(apply ah fun K hK=>?_)|(apply ak 19 [(3,11),(3,13)] fun K hK=>?_)|(apply gq 23 [0,2,3,4,5,6,7,1,8,9] [(5,7),(5,8),(6,7),(6,8)] fun K hK=>?_)|(apply ak 30 [(5,6),(9,6),(9,10)] fun K hK=>?_)|(apply ak 34 [(3,12),(3,18),(3,20),(11,12),(17,12),(17,18)] fun K hK=>?_)|(apply aV ?_;try intro _)|(apply aW ?_ ?_<;>clear hK K)|apply aU ?_|apply bD rfl ?_|apply aq ?_|apply am ?_|apply aw ?_)
   refine⟨ac,bm,bm,cN,IJ,?_⟩;exact⟨v5,eE,.inr (by rw[hws];simpa using s5),⟨fun k z=>by rw[f5 k z,aJ,ao ac];exact hsm.get k z⟩⟩
  |false=>
   rw[hbi]at hld;rw[hbi,ao aE,ij]at hws;repeat' (first
    |(apply aj ?_;clear hK K)|apply Ry.o ?_|(apply aY (fun I L=>?_) (fun I L=>?_)<;>try(cases I;done))|apply ai ?_|(apply ah fun K hK=>?_)|(apply ak 19 [(3,11),(3,13)] fun K hK=>?_)|(apply gq 23 [0,2,3,4,5,6,7,1,8,9] [(5,7),(5,8),(6,7),(6,8)] fun K hK=>?_)|(apply ak 30 [(5,6),(9,6),(9,10)] fun K hK=>?_)|(apply ak 34 [(3,12),(3,18),(3,20),(11,12),(17,12),(17,18)] fun K hK=>?_)|(apply aV ?_;try intro _)|(apply aW ?_ ?_<;>clear hK K)|apply aU ?_|apply bD rfl ?_|apply aq ?_|apply am ?_|apply aw ?_)
   refine⟨ac,bm,bm,cN,IJ,?_⟩;exact⟨a,eE,by rw[hws];exact ha,hsm⟩
 .have hlt':¬(i:Int)<r.2.vars.length:=by omega
  have hie:sV b i=dT b:=by rw[dT,hbl,show i=r.2.vars.length by omega];rfl
  rw[hie]at ha;have hwm:∀j∈dT b,j<r.2.vars.length:=fun j hj=>by have:=IT hj;omega
  have hwl:(dT b).length<2^36:=by have:=IU b b.length;have e:sV b b.length=dT b:=rfl;rw[e]at this;omega
  have hnd:=TT b;generalize dT b=Z at *;clear hie gb3 h2 hbl;have hi3:∀k,k<U.next+1->Hi.get k=H3.get k:=hsm.get
  have Ri:zab X Hi S2 r.2 lv2 vv:=R4.keep hnH fun k z h=>by
   refine hi3 k ?_;rcases h with h|h|h
   .have:=nw2.2.2;omega
   .have:=(R2.sS k h).2.1;omega
   .have:=(R2.vS k h).2;omega
  have W:zad S2 vv (U.next+1) Hi a (oU Z):=⟨ha,fun k z=>by
   have:=R2.new (r:=k) (by have:=(ha.lt z).1;omega);exact⟨this.1,this.2.1⟩⟩
  have Fi:FrL X S vv (H.alloc (.cells x.cells 0 true)) S2 vv Hi:=F02.trans ⟨ac,fun k z _ _ _ _=>by rw[hi3 k ac];exact hq3 k z,fun _ h=>.inl h,fun _ h=>.inl h⟩;have gi:=dP hR Fi;have mi:=Ri.m;have ni:H.next+1<=Hi.next:=Fi.next
  clear hsm R4 F03 F02 hi3 ha nw2 hq3 R2 m2 g2;have ew:=(IV hln (j:=0) ac).1;have Rb:=Ri.alloc (.cells [.int .i64 r.2.ab] 0 true);have Fb:=Fi.alloc (.cells [.int .i64 r.2.ab] 0 true);have gb:=dP hR Fb;dsimp only[bC]at mi;repeat' (first
   |(apply aj ?_;clear hK K)|apply Ry.o ?_|(apply aY (fun I L=>?_) (fun I L=>?_)<;>try(cases I;done))|apply ai ?_|(apply ah fun K hK=>?_)|(apply ak 19 [(3,11),(3,13)] fun K hK=>?_)|(apply gq 23 [0,2,3,4,5,6,7,1,8,9] [(5,7),(5,8),(6,7),(6,8)] fun K hK=>?_)|(apply ak 30 [(5,6),(9,6),(9,10)] fun K hK=>?_)|(apply ak 34 [(3,12),(3,18),(3,20),(11,12),(17,12),(17,18)] fun K hK=>?_)|(apply aV ?_;try intro _)|(apply aW ?_ ?_<;>clear hK K)|apply aU ?_|apply bD rfl ?_|apply aq ?_|apply am ?_|apply aw ?_)
  refine qc ?_;refine aL ?_ (wc hG Rb (cf _ _ _ _) 3 (16*(s.loops:Int)) hFp);generalize hp:ay ⟨3,16*(s.loops:Int),[]⟩ r.2=p at *;have hpv:p.2.vars=r.2.vars:=by rw[<-hp];rfl
  rintro w H5 ⟨rfl,S5,lv5,R5,F5⟩;have W5:zad S5 vv (U.next+1) H5 a (oU Z):=zad.fr (X:=X) (H:=Hi.alloc (.cells [.int .i64 r.2.ab] 0 true)) ⟨W.r.keep (dB _) fun k z=>by rw[aJ,ao (by have:=(W.r.lt z).2;omega)],W.n⟩ ac ac F5;have V5:zad S5 vv (U.next+1) H5 (.sl Hi.next 0 1 1) [r.2.ab]:=zad.fr (X:=X) (H:=Hi.alloc (.cells [.int .i64 r.2.ab] 0 true)) (S:=S2) (vv:=vv) ⟨.inr ⟨Hi.next,0,rfl,fx,db _,ac,ct _⟩,fun k z=>by
   have:=Ri.new (r:=k) (by rw[uj z];exact az _);exact⟨this.1,this.2.1⟩⟩ ac ac F5
  have d5:∀k,bL a k->¬bL (.sl Hi.next 0 1 1) k:=fun k h1 h2=>by
   have:=(W.r.lt h1).2;rw[uj h2]at this;omega
  have m5:=R5.m;obtain⟨R6,F6⟩:=R5.setS p.1;have F06:=Fb.trans (F5.trans F6);have W6:=W5.fr (X:=X) ac ac F6;have V6:=V5.fr (X:=X) ac ac F6;have l6:=fun H'=>W5.r.len' (H':=H');have g6:=dP hR F06;have n6:U.next+1<=H5.next:=by have:=F5.next;simp only[bj]at this;omega
  clear R5 F5 Rb gb W5 V5 Ri W gi mi Fi Fb;dsimp only[bC]at m5 R6 F06 W6 V6 g6;rw[dh]at l6;dsimp only[aI];repeat' (first
   |(apply aj ?_;clear hK K)|apply Rx.o ?_|apply aD ?_|apply ai ?_|(apply ah fun K hK=>?_)|(apply ak 19 [(3,11),(3,13)] fun K hK=>?_)|(apply gq 23 [0,2,3,4,5,6,7,1,8,9] [(5,7),(5,8),(6,7),(6,8)] fun K hK=>?_)|(apply ak 30 [(5,6),(9,6),(9,10)] fun K hK=>?_)|(apply ak 34 [(3,12),(3,18),(3,20),(11,12),(17,12),(17,18)] fun K hK=>?_)|(apply aV ?_;try intro _)|(apply aW ?_ ?_<;>clear hK K)|apply aU ?_|apply bD rfl ?_|apply aq ?_|apply am ?_|apply aw ?_)
  have hdl1:∀j,j<Z.length->r.2.vars[Z.getD j 0]?=some (r.2.vars.getD (Z.getD j 0) 0):=fun j hj=>by
   have:Z.getD j 0<r.2.vars.length:=hwm _ (by rw[fY,bc hj];exact dU hj);generalize Z.getD j 0=q at *;rw[fY,bc this];rfl
  have haw:∀j,j<Z.length->(oU Z)[j]?=some ((Z.getD j 0:Nat):Int):=fun j hj=>by
   rw[ii,fY,bc hj];rfl
  have hdr:∀j,j<Z.length->Z.drop j=Z.getD j 0::Z.drop (j+1):=fun j hj=>by rw[eM hj,fY,bc hj];rfl
  have htk:∀j,j<Z.length->Z.take (j+1)=Z.take j++[Z.getD j 0]:=fun j hj=>by rw[kD,fY,bc hj];rfl
  have hnt:∀j,j<Z.length->Z.getD j 0∉Z.take j:=fun j hj hm=>by
   have h:=hnd;rw[<-Af j Z,hdr j hj,List.nodup_append]at h;exact h.2.2 _ hm _ eL rfl
  refine dz [0,3,4,5,7,71,72] [] 73 Z.length (fun j E Hj=>∃wv C Sj lvj,E.at 9=wv/\gY (16*(s.loops:Int)+1) (Z.drop j) j C=gY (16*(s.loops:Int)+1) Z 0 {p.2 with ab:=p.1} /\ C.loops=r.2.loops/\C.vars.length=r.2.vars.length/\(∀i,i∉Z.take j->C.vars[i]?=r.2.vars[i]?)/\zab X Hj Sj C lvj vv/\FrL X S vv (H.alloc (.cells x.cells 0 true)) Sj vv Hj/\zad Sj vv (U.next+1) Hj a (oU Z)/\zad Sj vv (U.next+1) Hj wv (r.2.ab::(Z.take j).map fun i=>r.2.vars.getD i 0)/\∀k,bL a k->¬bL wv k) eE ⟨_,_,S5,lv5,eE,by rw[ft],by rw[<-hp];rfl,by rw[<-hp];rfl,fun i _=>by rw[<-hp];rfl,R6,F06,W6,V6,d5⟩ ?_;clear R6 F06 W6 V6 d5 m5 g6;rintro j E Hj hj hcE hrH hnH hsI ⟨wv,C,Sj,lvj,k9,hJ,hjl,hjv,hjo,Rj,Fj,Aj,o,dj⟩;(try simp only[bN,bO,bu,aM,a0,Nat.reduceBEq,Nat.reduceAdd,Nat.reduceLeDiff,tyF, *]at hcE);(try simp only[bN,bO,bu,aM,a0,Nat.reduceBEq,Nat.reduceAdd,Nat.reduceLeDiff,tyF, *]at hrH);(try simp only[bj,bJ,cL,bX,Nat.reduceAdd]at hnH);have mj:=Rj.m;dsimp only[bC]at mj;have nj:U.next+1<=Hj.next:=dq n6 hnH
  by_cases O:j<Z.length
  .have hlt':(j:Int)<Z.length:=by omega
   have hwj:=haw j O;have hvj:=hdl1 j O;have hnj:=hnt j O;have htj:=htk j O;have hwl1:Z.getD j 0<C.vars.length:=by rw[hjv];exact hwm _ IF
   rw[hdr j O]at hJ;rw[TS]at hJ;rw[<-hjo _ hnj]at hvj;rw[htj];generalize Z.getD j 0=w at *;generalize hy:r.2.vars.getD w 0=y at *;obtain⟨qa,ixa,lda⟩:=Aj.at hwj;obtain⟨qv,ixv,ldv⟩:=Rj.atV hvj;obtain⟨e1,e2,e3⟩:=IV hln (j:=j) ac;obtain⟨v',H',a1,W',R',n',q',own'⟩:=o.dV Rj nj y ac (by simp only[cy,dh,iD];omega);have A':=Aj.b0 n' q' dj;have F':=Fj.b0 n' q' (fun k z=>by have:=(o.r.lt z).1;simp only[bj];omega);have d':∀k,bL a k->¬bL v' k:=fun k h1 h2=>by
    rcases own' k h2 with e|e
    .exact dj k h1 e
    .have:=(Aj.r.lt h1).2;omega
   have m':=R'.m;have hFx:Fin (ay ⟨3,16*(s.loops:Int)+1+j,[]⟩ C).2:=hFl.le (by rw[<-hJ];exact((mc _).setV _).trans (ro _ _ _ _).1);have J:=wc hG R' (cf _ _ _ _) 3 (16*(s.loops:Int)+1+j) hFx;dsimp only[bC]at m';clear dj Aj o q' own' Rj hvj;repeat' (first
    |(apply aj ?_;clear hK K)|apply Ry.o ?_|(apply aY (fun I L=>?_) (fun I L=>?_)<;>try(cases I;done))|apply ai ?_|(apply ah fun K hK=>?_)|(apply ak 19 [(3,11),(3,13)] fun K hK=>?_)|(apply gq 23 [0,2,3,4,5,6,7,1,8,9] [(5,7),(5,8),(6,7),(6,8)] fun K hK=>?_)|(apply ak 30 [(5,6),(9,6),(9,10)] fun K hK=>?_)|(apply ak 34 [(3,12),(3,18),(3,20),(11,12),(17,12),(17,18)] fun K hK=>?_)|(apply aV ?_;try intro _)|(apply aW ?_ ?_<;>clear hK K)|apply aU ?_|apply bD rfl ?_|apply aq ?_|apply am ?_|apply aw ?_)
   refine qc ?_;refine aL ?_ J;generalize hpu:ay ⟨3,16*(s.loops:Int)+1+j,[]⟩ C=pu at *;have hpuv:pu.2.vars=C.vars:=by rw[<-hpu];rfl
   have hpul:pu.2.loops=C.loops:=by rw[<-hpu];rfl
   have hwl2:w<pu.2.vars.length:=by rw[hpuv];exact hwl1
   rintro u H7 ⟨rfl,S7,lv7,R7,F7⟩;obtain⟨q',Y,hld',H8,hst,hq1,hq2,hq3,R8,F8,o8,n8⟩:=R7.setV hwl2 pu.1;have hqq:q'=qv:=by
    rw[ixv]at Y;simp only[aC,AV.ptr.injEq]at Y;exact Y.1.symm
   subst hqq;have A8:=(A'.fr (X:=X) ac ac F7).fr (X:=X) ac ac F8;have W8:=(W'.fr (X:=X) ac ac F7).fr (X:=X) ac ac F8;have F08:=F'.trans (F7.trans F8);have m7:=R7.m;have m8:=R8.m;have n7:=F7.next
   have nj8:Hj.next<=H8.next:=ac
   have hjv':(pu.2.vars.set w pu.1).length=r.2.vars.length:=by rw[jv,hpuv];exact hjv
   have hjo':∀i,i∉Z.take j++[w]->(pu.2.vars.set w pu.1)[i]?=r.2.vars[i]?:=fun i hi=>by
    rw[ow,su,tM]at hi;rw[mA,ao (fun e=>hi.2 e.symm),hpuv];exact hjo i hi.1
   have hjl':pu.2.loops=r.2.loops:=by rw[hpul];exact hjl
   have hmap:(r.2.ab::(Z.take j).map fun i=>r.2.vars.getD i 0)++[y]=r.2.ab::(Z.take j++[w]).map fun i=>r.2.vars.getD i 0:=by rw[mD,eJ,rp,hy];rfl
   rw[hmap]at W8;clear hpuv hpul hmap hjo hjv hjl Y A' W' F' hpu hld';dsimp only[bC]at m7 m8;dsimp only[aI];repeat' (first
    |(apply aj ?_;clear hK K)|apply Rx.o ?_|apply aD ?_|apply ai ?_|(apply ah fun K hK=>?_)|(apply ak 19 [(3,11),(3,13)] fun K hK=>?_)|(apply gq 23 [0,2,3,4,5,6,7,1,8,9] [(5,7),(5,8),(6,7),(6,8)] fun K hK=>?_)|(apply ak 30 [(5,6),(9,6),(9,10)] fun K hK=>?_)|(apply ak 34 [(3,12),(3,18),(3,20),(11,12),(17,12),(17,18)] fun K hK=>?_)|(apply aV ?_;try intro _)|(apply aW ?_ ?_<;>clear hK K)|apply aU ?_|apply bD rfl ?_|apply aq ?_|apply am ?_|apply aw ?_)
   .exact cG
   .refine⟨ac,bm,bm,cN,IK,?_⟩;exact⟨v',_,S7,lv7,eE,hJ,hjl',hjv',hjo',R8,F08,A8,W8,d'⟩
  .have hlt':¬(j:Int)<Z.length:=by omega
   have hd:Z.drop j=[]:=nG ac;have ht:Z.take j=Z:=fk ac;rw[hd]at hJ;rw[ht]at o;have hJ:C=gY (16*(s.loops:Int)+1) Z 0 {p.2 with ab:=p.1}:=hJ;rw[<-hJ]at hFl h3;have gj:=dP hR Fj;have nj2:H.next+1<=Hj.next:=Fj.next
   clear hJ hd ht hjo;repeat' (first
    |(apply aj ?_;clear hK K)|apply Ry.o ?_|(apply aY (fun I L=>?_) (fun I L=>?_)<;>try(cases I;done))|apply ai ?_|(apply ah fun K hK=>?_)|(apply ak 19 [(3,11),(3,13)] fun K hK=>?_)|(apply gq 23 [0,2,3,4,5,6,7,1,8,9] [(5,7),(5,8),(6,7),(6,8)] fun K hK=>?_)|(apply ak 30 [(5,6),(9,6),(9,10)] fun K hK=>?_)|(apply ak 34 [(3,12),(3,18),(3,20),(11,12),(17,12),(17,18)] fun K hK=>?_)|(apply aV ?_;try intro _)|(apply aW ?_ ?_<;>clear hK K)|apply aU ?_|apply bD rfl ?_|apply aq ?_|apply am ?_|apply aw ?_)
   refine qc ?_;refine aL ?_ (IH x.a8 C t h3 hFt ac ac Rj);rintro u H6 ⟨S6,lv6,V,R6,F6⟩;have A6:=Aj.fr (X:=X) ac ac F6;have W6:=o.fr (X:=X) ac ac F6;have F06:=Fj.trans F6;have nj6:U.next+1<=H6.next:=dq nj F6.next
   have g6:=dP hR F06;clear Rj Fj Aj o F6 gj mj;dsimp only[aI];repeat' (first
    |(apply aj ?_;clear hK K)|apply Rx.o ?_|apply aD ?_|apply ai ?_|(apply ah fun K hK=>?_)|(apply ak 19 [(3,11),(3,13)] fun K hK=>?_)|(apply gq 23 [0,2,3,4,5,6,7,1,8,9] [(5,7),(5,8),(6,7),(6,8)] fun K hK=>?_)|(apply ak 30 [(5,6),(9,6),(9,10)] fun K hK=>?_)|(apply ak 34 [(3,12),(3,18),(3,20),(11,12),(17,12),(17,18)] fun K hK=>?_)|(apply aV ?_;try intro _)|(apply aW ?_ ?_<;>clear hK K)|apply aU ?_|apply bD rfl ?_|apply aq ?_|apply am ?_|apply aw ?_)
   refine qc ?_;refine aL ?_ (nU hG hX n x.value t d h4 hFd R6 (cf _ _ _ _));rintro u H7 ⟨rfl,S7,lv7,R7,F7⟩;have A7:=A6.fr (X:=X) ac ac F7;have W7:=W6.fr (X:=X) ac ac F7;have F07:=F06.trans F7;have m7:=R7.m;have n7:H.next+1<=H7.next:=F07.next
   have nj7:U.next+1<=H7.next:=dq nj6 F7.next
   clear R6 F06 A6 W6 F7 g6;dsimp only[bC]at m7;dsimp only[aI];have Rs:=R7.alloc (.cells [.int .i64 d.1,.int .i64 d.2.ab] 0 true);have Ws:zad S7 V (U.next+1) (H7.alloc (.cells [.int .i64 d.1,.int .i64 d.2.ab] 0 true)) wv (r.2.ab::Z.map fun i=>r.2.vars.getD i 0):=⟨W7.r.keep (dB _) fun k z=>by rw[aJ,ao (by have:=(W7.r.lt z).2;omega)],W7.n⟩;have hwlen:(r.2.ab::Z.map fun i=>r.2.vars.getD i 0).length<2^37:=by simp only[cy,dh];omega
   obtain⟨cv,H8,a8,c8,n8,q8⟩:=IQ Ws.r ac;simp only[bj]at c8 n8 q8;have c8b:gC H8 cv (r.2.ab::Z.map fun i=>r.2.vars.getD i 0) (H7.next+1):=by
    rcases c8 with⟨_,h⟩|h
    .simp at h
    .exact h.b
   have g8s:H8.get H7.next=some (.cells [.int .i64 d.1,.int .i64 d.2.ab] 0 true):=by rw[q8 _ ac,aJ,aB rfl]
   obtain⟨kv,H9,a9,c9,n9,l9,f9,o9⟩:=Ht (m:=[d.1,d.2.ab]) (w:=.sl H7.next 0 2 1) (lo':=0) c8b n8 (.inr ⟨H7.next,0,rfl,g8s,aE,db _,ac⟩) (by simp only[cy,fP]at hwlen⊢;omega);have hq9:∀k,k<H7.next->H9.get k=H7.get k:=fun k z=>by rw[l9 k ac,q8 k ac,aJ,ao ac]
   have n79:H7.next<=H9.next:=ac
   have R9:zab X H9 S7 d.2 lv7 V:=R7.keep n79 fun k h _=>hq9 k h;have F9:FrL X S7 V H7 S7 V H9:=⟨n79,fun k h _ _ _ _=>hq9 k h,fun _ h=>.inl h,fun _ h=>.inl h⟩;have A9:=A7.fr (X:=X) ac ac F9;have W9:=W7.fr (X:=X) ac ac F9;have K9:zad S7 V (U.next+1) H9 kv (r.2.ab::(Z.map fun i=>r.2.vars.getD i 0)++[d.1,d.2.ab]):=⟨.inr (by obtain⟨bG,i0,z1,z2,z3,z4,z5⟩:=c9;exact⟨bG,i0,z1,z2,z3,ac,z5⟩),fun k z=>by
    have:=R7.new (r:=k) (by have:=(c9.lt z).1;omega);exact⟨this.1,this.2.1⟩⟩
   have dA9:∀k,bL a k->¬bL kv k:=fun k h1 h2=>by have:=(A7.r.lt h1).2;have:=(c9.lt h2).1;omega
   have dW9:∀k,bL wv k->¬bL kv k:=fun k h1 h2=>by have:=(W7.r.lt h1).2;have:=(c9.lt h2).1;omega
   have F09:=F07.trans F9;have m9:=R9.m;have l9a:=fun H'=>A9.r.len' (H':=H');rw[dh]at l9a;dsimp only[bC]at m9;have ms:=Rs.m;have m8x:=ms;rw[<-q8 _ (by have:=R7.o5;omega)]at m8x;dsimp only[bC]at ms m8x;clear R7 F07 A7 W7 F9 Rs Ws hq9;repeat' (first
    |(apply aj ?_;clear hK K)|apply Rx.o ?_|apply aD ?_|apply ai ?_|(apply ah fun K hK=>?_)|(apply ak 19 [(3,11),(3,13)] fun K hK=>?_)|(apply gq 23 [0,2,3,4,5,6,7,1,8,9] [(5,7),(5,8),(6,7),(6,8)] fun K hK=>?_)|(apply ak 30 [(5,6),(9,6),(9,10)] fun K hK=>?_)|(apply ak 34 [(3,12),(3,18),(3,20),(11,12),(17,12),(17,18)] fun K hK=>?_)|(apply aV ?_;try intro _)|(apply aW ?_ ?_<;>clear hK K)|apply aU ?_|apply bD rfl ?_|apply aq ?_|apply am ?_|apply aw ?_)
   .exact cG
   .clear a8 a9 c8 c8b g8s l9 f9 o9 q8 hwlen c9;have hdv:∀w,w<r.2.vars.length->d.2.vars[w]?=some (d.2.vars.getD w 0):=fun w hw=>by
     rw[fY,bc ac];rfl
    have hwj0:∀j,j<Z.length->Z.getD j 0<r.2.vars.length:=fun j O=>hwm _ IF;refine dz [0,4,5,7,9,119,120] [] 121 Z.length (fun j E Hj=>∃kj,E.at 13=kj/\zab X Hj S7 d.2 lv7 V/\FrL X S vv (H.alloc (.cells x.cells 0 true)) S7 V Hj/\zad S7 V (U.next+1) Hj a (oU Z)/\zad S7 V (U.next+1) Hj wv (r.2.ab::Z.map fun i=>r.2.vars.getD i 0)/\zad S7 V (U.next+1) Hj kj (r.2.ab::(Z.map fun i=>r.2.vars.getD i 0)++[d.1,d.2.ab]++((Z.take j).map fun i=>d.2.vars.getD i 0))/\(∀k,bL a k->¬bL kj k)/\∀k,bL wv k->¬bL kj k) eE ⟨kv,eE,R9,F09,A9,W9,by rw[zl,rp,ij];exact K9,dA9,dW9⟩ ?_;clear R9 F09 A9 W9 K9 dA9 dW9 m9;rintro j E Hj hj hcE hrH hnH hsI ⟨kj,k13,Rj,Fj,Aj,o,Kj,dAj,dWj⟩;(try simp only[bN,bO,bu,aM,a0,Nat.reduceBEq,Nat.reduceAdd,Nat.reduceLeDiff,tyF, *]at hcE);(try simp only[bN,bO,bu,aM,a0,Nat.reduceBEq,Nat.reduceAdd,Nat.reduceLeDiff,tyF, *]at hrH);(try simp only[bj,bJ,cL,bX,Nat.reduceAdd]at hnH);have mj:=Rj.m;dsimp only[bC]at mj;have nj:U.next+1<=Hj.next:=ac
    by_cases O:j<Z.length
    .have hlt':(j:Int)<Z.length:=by omega
     have hwj:=haw j O;have hvj:=hdv _ (hwj0 j O);have htj:=htk j O;rw[htj];generalize Z.getD j 0=w at *;generalize hy:d.2.vars.getD w 0=y at *;obtain⟨qa,ixa,lda⟩:=Aj.at hwj;obtain⟨qv,ixv,ldv⟩:=Rj.atV hvj;obtain⟨v',H',a1,K',R',n',q',own'⟩:=Kj.dV Rj nj y ac (by simp only[em,cy,dh,iD,fP];omega);have A':=Aj.b0 n' q' dAj;have W':=o.b0 n' q' dWj;have F':=Fj.b0 n' q' (fun k z=>by have:=(Kj.r.lt z).1;simp only[bj];omega);have dA':∀k,bL a k->¬bL v' k:=fun k h1 h2=>by
      rcases own' k h2 with e|e
      .exact dAj k h1 e
      .have:=(Aj.r.lt h1).2;omega
     have dW':∀k,bL wv k->¬bL v' k:=fun k h1 h2=>by
      rcases own' k h2 with e|e
      .exact dWj k h1 e
      .have:=(o.r.lt h1).2;omega
     have hmap:(r.2.ab::(Z.map fun i=>r.2.vars.getD i 0)++[d.1,d.2.ab]++((Z.take j).map fun i=>d.2.vars.getD i 0))++[y]=r.2.ab::(Z.map fun i=>r.2.vars.getD i 0)++[d.1,d.2.ab]++((Z.take j++[w]).map fun i=>d.2.vars.getD i 0):=by rw[mD,eJ,rp,hy];simp
     rw[hmap]at K';clear hmap dAj dWj Aj o Kj q' own' Rj hvj;repeat' (first
      |(apply aj ?_;clear hK K)|apply Ry.o ?_|(apply aY (fun I L=>?_) (fun I L=>?_)<;>try(cases I;done))|apply ai ?_|(apply ah fun K hK=>?_)|(apply ak 19 [(3,11),(3,13)] fun K hK=>?_)|(apply gq 23 [0,2,3,4,5,6,7,1,8,9] [(5,7),(5,8),(6,7),(6,8)] fun K hK=>?_)|(apply ak 30 [(5,6),(9,6),(9,10)] fun K hK=>?_)|(apply ak 34 [(3,12),(3,18),(3,20),(11,12),(17,12),(17,18)] fun K hK=>?_)|(apply aV ?_;try intro _)|(apply aW ?_ ?_<;>clear hK K)|apply aU ?_|apply bD rfl ?_|apply aq ?_|apply am ?_|apply aw ?_)
     refine⟨ac,bm,bm,cN,IK,?_⟩;exact⟨v',eE,R',F',A',W',K',dA',dW'⟩
    .have hlt':¬(j:Int)<Z.length:=by omega
     have ht:Z.take j=Z:=fk ac;rw[ht]at Kj;clear ht;have J:=wa hG Rj ⟨31,s.loops,r.2.ab::(Z.map fun i=>r.2.vars.getD i 0)++[d.1,d.2.ab]++(Z.map fun i=>d.2.vars.getD i 0)⟩ (by rcases Kj.r with h|⟨bG,i0,z1,z2,z3,z4,z5⟩;exact .inl h;exact .inr ⟨bG,i0,z1,z2,z3,db _,z5⟩) (fun k z=>⟨by have:=(Kj.r.lt z).1;omega,Kj.n k z⟩) (by rw[<-z]at hFk;exact hFk.r) hFd.l;repeat' (first
      |(apply aj ?_;clear hK K)|apply Ry.o ?_|(apply aY (fun I L=>?_) (fun I L=>?_)<;>try(cases I;done))|apply ai ?_|(apply ah fun K hK=>?_)|(apply ak 19 [(3,11),(3,13)] fun K hK=>?_)|(apply gq 23 [0,2,3,4,5,6,7,1,8,9] [(5,7),(5,8),(6,7),(6,8)] fun K hK=>?_)|(apply ak 30 [(5,6),(9,6),(9,10)] fun K hK=>?_)|(apply ak 34 [(3,12),(3,18),(3,20),(11,12),(17,12),(17,18)] fun K hK=>?_)|(apply aV ?_;try intro _)|(apply aW ?_ ?_<;>clear hK K)|apply aU ?_|apply bD rfl ?_|apply aq ?_|apply am ?_|apply aw ?_)
     refine qc ?_;refine aL ?_ J;rintro u H10 ⟨rfl,S10,lv10,R10,n10,q10,s10⟩;rw[z]at R10⊢;have F10:FrL X S vv (H.alloc (.cells x.cells 0 true)) S10 V H10:=⟨dq Fj.next n10,fun k h1 h2 h3 h4 h5=>by
      rw[q10 k (jW h1 Fj.next) h2 h3 fun e=>by
       rcases Fj.sub k e with e|e
       .exact h4 e
       .omega]
      exact Fj.get k h1 h2 h3 h4 h5,fun k e=>by
      rcases s10 k e with e|e|e
      .exact Fj.sub k e
      .exact .inr (by have:=(Kj.r.lt e).1;simp only[bj];omega)
      .exact .inr (dq Fj.next e),Fj.own⟩
     have A10:zad S10 V (U.next+1) H10 a (oU Z):=⟨Aj.r.keep n10 fun k z=>q10 k (Aj.r.lt z).2 (by have:=(Aj.r.lt z).1;omega) (by have:=(Aj.r.lt z).1;omega) (Aj.n k z).1,fun k z=>⟨fun e=>by
      rcases s10 k e with e|e|e
      .exact(Aj.n k z).1 e
      .exact dAj k z e
      .have:=(Aj.r.lt z).2;omega,(Aj.n k z).2⟩⟩
     have W10:zad S10 V (U.next+1) H10 wv (r.2.ab::Z.map fun i=>r.2.vars.getD i 0):=⟨o.r.keep n10 fun k z=>q10 k (o.r.lt z).2 (by have:=(o.r.lt z).1;omega) (by have:=(o.r.lt z).1;omega) (o.n k z).1,fun k z=>⟨fun e=>by
      rcases s10 k e with e|e|e
      .exact(o.n k z).1 e
      .exact dWj k z e
      .have:=(o.r.lt z).2;omega,(o.n k z).2⟩⟩
     clear Rj Fj Aj o Kj dAj dWj q10 s10 J mj;dsimp only[aI];have nw10:=R10.new (az _);have R10a:=R10.alloc (.cells [.int .i64 k.1] 0 true);have J:=CJ hG R10a ((cf _ _ _ _).alloc _) ⟨25,0,[k.1]⟩ rfl fx (az _) (ct _) nw10.2.2 nw10.1 nw10.2.1 hFf' rfl rfl;have hW0:(r.2.ab::Z.map fun i=>r.2.vars.getD i 0)[0]?=some r.2.ab:=rfl;have W10a:zad S10 V (U.next+1) (H10.alloc (.cells [.int .i64 k.1] 0 true)) wv (r.2.ab::Z.map fun i=>r.2.vars.getD i 0):=⟨W10.r.keep (dB _) fun k z=>by rw[aJ,ao (by have:=(W10.r.lt z).2;omega)],W10.n⟩;have A10a:zad S10 V (U.next+1) (H10.alloc (.cells [.int .i64 k.1] 0 true)) a (oU Z):=⟨A10.r.keep (dB _) fun k z=>by rw[aJ,ao (by have:=(A10.r.lt z).2;omega)],A10.n⟩;obtain⟨q0,ix0,ld0⟩:=W10a.at hW0;rw[show((0:Nat):Int)=0 from rfl]at ix0;repeat' (first
      |(apply aj ?_;clear hK K)|apply Rx.o ?_|apply aD ?_|apply ai ?_|(apply ah fun K hK=>?_)|(apply ak 19 [(3,11),(3,13)] fun K hK=>?_)|(apply gq 23 [0,2,3,4,5,6,7,1,8,9] [(5,7),(5,8),(6,7),(6,8)] fun K hK=>?_)|(apply ak 30 [(5,6),(9,6),(9,10)] fun K hK=>?_)|(apply ak 34 [(3,12),(3,18),(3,20),(11,12),(17,12),(17,18)] fun K hK=>?_)|(apply aV ?_;try intro _)|(apply aW ?_ ?_<;>clear hK K)|apply aU ?_|apply bD rfl ?_|apply aq ?_|apply am ?_|apply aw ?_)
     refine qc ?_;refine aL ?_ J;rintro u H11 ⟨⟨rfl,S11,lv11,R11,F11⟩,n11⟩;simp only[bj]at n11;have W11:=W10.fr (X:=X) ac ac F11;have A11:=A10.fr (X:=X) ac ac F11;obtain⟨q0',ix0',ld0'⟩:=W11.at hW0;rw[show((0:Nat):Int)=0 from rfl,ix0]at ix0';simp only[aC,AV.ptr.injEq,bu]at ix0';subst ix0';have hFm2:Fin (bM r.1 (ay ⟨25,0,[k.1]⟩ k.2).1 r.2.ab (ay ⟨25,0,[k.1]⟩ k.2).2).2:=by rw[hm'];exact hFm'
     dsimp only[aI];repeat' (first
      |(apply aj ?_;clear hK K)|apply Rx.o ?_|apply aD ?_|apply ai ?_|(apply ah fun K hK=>?_)|(apply ak 19 [(3,11),(3,13)] fun K hK=>?_)|(apply gq 23 [0,2,3,4,5,6,7,1,8,9] [(5,7),(5,8),(6,7),(6,8)] fun K hK=>?_)|(apply ak 30 [(5,6),(9,6),(9,10)] fun K hK=>?_)|(apply ak 34 [(3,12),(3,18),(3,20),(11,12),(17,12),(17,18)] fun K hK=>?_)|(apply aV ?_;try intro _)|(apply aW ?_ ?_<;>clear hK K)|apply aU ?_|apply bD rfl ?_|apply aq ?_|apply am ?_|apply aw ?_)
     refine qc ?_;refine aL ?_ (ul hG R11 (cf _ _ _ _) r.1 _ r.2.ab hFm2);rw[hm'];rintro u H12 ⟨rfl,S12,lv12,R12,F12⟩;have m12:=R12.m;obtain⟨R13,F13⟩:=R12.setS m'.1;have F0:=F10.trans (F11.trans (F12.trans F13));have A13:=(A11.fr (X:=X) ac ac F12).fr (X:=X) ac ac F13;have W13:=(W11.fr (X:=X) ac ac F12).fr (X:=X) ac ac F13;have n12:=F12.next
     have l13:=fun H'=>A13.r.len' (H':=H');rw[dh]at l13;dsimp only[bC]at m12 R13 F0 A13 W13;dsimp only[aI];have m13:=R13.m;dsimp only[bC]at m13;repeat' (first
      |(apply aj ?_;clear hK K)|apply Rx.o ?_|apply aD ?_|apply ai ?_|(apply ah fun K hK=>?_)|(apply ak 19 [(3,11),(3,13)] fun K hK=>?_)|(apply gq 23 [0,2,3,4,5,6,7,1,8,9] [(5,7),(5,8),(6,7),(6,8)] fun K hK=>?_)|(apply ak 30 [(5,6),(9,6),(9,10)] fun K hK=>?_)|(apply ak 34 [(3,12),(3,18),(3,20),(11,12),(17,12),(17,18)] fun K hK=>?_)|(apply aV ?_;try intro _)|(apply aW ?_ ?_<;>clear hK K)|apply aU ?_|apply bD rfl ?_|apply aq ?_|apply am ?_|apply aw ?_)
     .exact cG
     .have hw13:m'.2.vars.length=r.2.vars.length:=by rw[hm'v,hdl]
      refine dz [0,5,9,16,153,154] [] 155 Z.length (fun j E Hj=>∃C Sj lvj,fL k.1 r.1 r.2.vars (Z.drop j) (j+1) C=fL k.1 r.1 r.2.vars Z 1 {m'.2 with ab:=m'.1} /\ C.vars.length=r.2.vars.length/\zab X Hj Sj C lvj V/\FrL X S vv (H.alloc (.cells x.cells 0 true)) Sj V Hj/\zad Sj V (U.next+1) Hj a (oU Z)/\zad Sj V (U.next+1) Hj wv (r.2.ab::Z.map fun i=>r.2.vars.getD i 0)) eE ⟨{m'.2 with ab:=m'.1},S12,lv12,by rw[ft],hw13,R13,F0,A13,W13⟩ ?_;clear R13 F0 A13 W13 m13 m12 hw13 R12 F12 F13 hdl hdl0 hm'v hdv;rintro i3 E3 Hi3 hi3 hcE hrH hnH hsI ⟨C,Sj,lvj,hJ,hjv,Rj,Fj,Aj,o⟩;(try simp only[bN,bO,bu,aM,a0,Nat.reduceBEq,Nat.reduceAdd,Nat.reduceLeDiff,tyF, *]at hcE);(try simp only[bN,bO,bu,aM,a0,Nat.reduceBEq,Nat.reduceAdd,Nat.reduceLeDiff,tyF, *]at hrH);(try simp only[bj,bJ,cL,bX,Nat.reduceAdd]at hnH);have mj:=Rj.m;dsimp only[bC]at mj;have nj:U.next+1<=Hi3.next:=ac
      by_cases O:i3<Z.length
      .have hlt':(i3:Int)<Z.length:=by omega
       have hwj:=haw i3 O;have hwl1:Z.getD i3 0<C.vars.length:=by rw[hjv];exact hwj0 i3 O
       have hold:(r.2.ab::Z.map fun i=>r.2.vars.getD i 0)[i3+1]?=some (r.2.vars.getD (Z.getD i3 0) 0):=by
        rw[tI,ii,fY (l:=Z),bc O];rfl
       rw[hdr i3 O,CK]at hJ;generalize Z.getD i3 0=w at *;generalize r.2.vars.getD w 0=y at *;have hsx:IntKind.wrap .i64 ((i3:Int)+1)=((i3+1:Nat):Int):=gP ac;have hFq:Fin (bM r.1 (ay ⟨25,((i3+1:Nat):Int),[k.1]⟩ C).1 y (ay ⟨25,((i3+1:Nat):Int),[k.1]⟩ C).2).2:=hF.le (by rw[<-hJ];exact((mc _).setV _).trans (sU _ _ _ _ _ _).1);have hFq0:Fin (ay ⟨25,((i3+1:Nat):Int),[k.1]⟩ C).2:=hFq.le (eQ _ _ _ _).le;have nwj:=Rj.new (az _);have Rja:=Rj.alloc (.cells [.int .i64 k.1] 0 true);have J:=CJ hG Rja ((cf _ _ _ _).alloc _) ⟨25,((i3+1:Nat):Int),[k.1]⟩ rfl fx (az _) (ct _) nwj.2.2 nwj.1 nwj.2.1 hFq0 rfl rfl;obtain⟨qa,ixa,lda⟩:=Aj.at hwj;have Wja:zad Sj V (U.next+1) (Hi3.alloc (.cells [.int .i64 k.1] 0 true)) wv (r.2.ab::Z.map fun i=>r.2.vars.getD i 0):=⟨o.r.keep (dB _) fun k z=>by rw[aJ,ao (by have:=(o.r.lt z).2;omega)],o.n⟩;obtain⟨qw,ixw,ldw⟩:=Wja.at hold;have hxv:∀v2,C.vars[w]?=some v2->True:=fun _ _=>trivial;clear hxv;obtain⟨qv,ixv,ldv,_⟩:=Rj.setV hwl1 0;have mja:=Rja.m;dsimp only[bC]at mja;repeat' (first
        |(apply aj ?_;clear hK K)|apply Ry.o ?_|(apply aY (fun I L=>?_) (fun I L=>?_)<;>try(cases I;done))|apply ai ?_|(apply ah fun K hK=>?_)|(apply ak 19 [(3,11),(3,13)] fun K hK=>?_)|(apply gq 23 [0,2,3,4,5,6,7,1,8,9] [(5,7),(5,8),(6,7),(6,8)] fun K hK=>?_)|(apply ak 30 [(5,6),(9,6),(9,10)] fun K hK=>?_)|(apply ak 34 [(3,12),(3,18),(3,20),(11,12),(17,12),(17,18)] fun K hK=>?_)|(apply aV ?_;try intro _)|(apply aW ?_ ?_<;>clear hK K)|apply aU ?_|apply bD rfl ?_|apply aq ?_|apply am ?_|apply aw ?_)
       refine qc ?_;refine aL ?_ J;rintro u H14 ⟨⟨rfl,S14,lv14,R14,F14⟩,n14⟩;simp only[bj]at n14;have W14:=o.fr (X:=X) ac ac F14;have A14:=Aj.fr (X:=X) ac ac F14;obtain⟨qw',ixw',ldw'⟩:=W14.at hold;rw[ixw]at ixw';simp only[aC,AV.ptr.injEq,bu]at ixw';subst ixw';have m14:=R14.m;dsimp only[bC]at m14;dsimp only[aI];repeat' (first
        |(apply aj ?_;clear hK K)|apply Rx.o ?_|apply aD ?_|apply ai ?_|(apply ah fun K hK=>?_)|(apply ak 19 [(3,11),(3,13)] fun K hK=>?_)|(apply gq 23 [0,2,3,4,5,6,7,1,8,9] [(5,7),(5,8),(6,7),(6,8)] fun K hK=>?_)|(apply ak 30 [(5,6),(9,6),(9,10)] fun K hK=>?_)|(apply ak 34 [(3,12),(3,18),(3,20),(11,12),(17,12),(17,18)] fun K hK=>?_)|(apply aV ?_;try intro _)|(apply aW ?_ ?_<;>clear hK K)|apply aU ?_|apply bD rfl ?_|apply aq ?_|apply am ?_|apply aw ?_)
       refine qc ?_;refine aL ?_ (ul hG R14 (cf _ _ _ _) r.1 _ y hFq);generalize hmq:bM r.1 (ay ⟨25,((i3+1:Nat):Int),[k.1]⟩ C).1 y (ay ⟨25,((i3+1:Nat):Int),[k.1]⟩ C).2=mq at *;have hmqv:mq.2.vars=C.vars:=by rw[<-hmq,(eQ _ _ _ _).v];rfl
       have hwl2:w<mq.2.vars.length:=by rw[hmqv];exact hwl1
       rintro u H15 ⟨rfl,S15,lv15,R15,F15⟩;obtain⟨q',Y,hld',H16,hst,hq1,hq2,hq3,R16,F16,o16,n16⟩:=R15.setV hwl2 mq.1;have hqq:q'=qv:=by
        rw[ixv]at Y;simp only[aC,AV.ptr.injEq]at Y;exact Y.1.symm
       subst hqq;have W16:=(W14.fr (X:=X) ac ac F15).fr (X:=X) ac ac F16;have A16:=(A14.fr (X:=X) ac ac F15).fr (X:=X) ac ac F16;have F016:=Fj.trans (F14.trans (F15.trans F16));have m15:=R15.m;have m16:=R16.m;have n15:=F15.next
       have nj16:Hi3.next<=H16.next:=ac
       have hjv':(mq.2.vars.set w mq.1).length=r.2.vars.length:=by rw[jv,hmqv];exact hjv
       clear hmqv hjv Y hld' hmq A14 W14 Aj o Fj Rj J R14;dsimp only[bC]at m15 m16;dsimp only[aI];repeat' (first
        |(apply aj ?_;clear hK K)|apply Rx.o ?_|apply aD ?_|apply ai ?_|(apply ah fun K hK=>?_)|(apply ak 19 [(3,11),(3,13)] fun K hK=>?_)|(apply gq 23 [0,2,3,4,5,6,7,1,8,9] [(5,7),(5,8),(6,7),(6,8)] fun K hK=>?_)|(apply ak 30 [(5,6),(9,6),(9,10)] fun K hK=>?_)|(apply ak 34 [(3,12),(3,18),(3,20),(11,12),(17,12),(17,18)] fun K hK=>?_)|(apply aV ?_;try intro _)|(apply aW ?_ ?_<;>clear hK K)|apply aU ?_|apply bD rfl ?_|apply aq ?_|apply am ?_|apply aw ?_)
       .exact cG
       .refine⟨ac,bm,bm,cN,(by simp only[aM,Nat.reduceBEq, *]),?_⟩;exact⟨_,S15,lv15,hJ,hjv',R16,F016,A16,W16⟩
      .have hlt':¬(i3:Int)<Z.length:=by omega
       have hd:Z.drop i3=[]:=nG ac;rw[hd]at hJ;have hJ:C=fL k.1 r.1 r.2.vars Z 1 {m'.2 with ab:=m'.1}:=hJ;repeat' (first
        |(apply aj ?_;clear hK K)|apply Ry.o ?_|(apply aY (fun I L=>?_) (fun I L=>?_)<;>try(cases I;done))|apply ai ?_|(apply ah fun K hK=>?_)|(apply ak 19 [(3,11),(3,13)] fun K hK=>?_)|(apply gq 23 [0,2,3,4,5,6,7,1,8,9] [(5,7),(5,8),(6,7),(6,8)] fun K hK=>?_)|(apply ak 30 [(5,6),(9,6),(9,10)] fun K hK=>?_)|(apply ak 34 [(3,12),(3,18),(3,20),(11,12),(17,12),(17,18)] fun K hK=>?_)|(apply aV ?_;try intro _)|(apply aW ?_ ?_<;>clear hK K)|apply aU ?_|apply bD rfl ?_|apply aq ?_|apply am ?_|apply aw ?_)
       all_goals refine qq ?_
       rw[<-hJ];exact⟨Sj,lvj,V,Rj,F1.trans Fj⟩
end
end
def zp(b:qF)(k i:Nat):(b.set k true).getD i false=if k=i/\k<b.length then true else b.getD i false:=by
 rw[fY,mA,fY];by_cases e:k=i
 .subst e;by_cases h:k<b.length
  .simp[h]
  .simp[h,jm (Nat.le_of_not_lt h)]
 .simp[e]
def zq{O:List bB}{l:qy}{W:qF}(h:el O (n+1) (x::l) b=some W):
 ∃U V Y,U=(if x.ah=1\/x.ah=6 then b.set (ce O x.name) true else b)/\(x.ah=1\/x.ah=6->ce O x.name<b.length)/\el O n x.a8 U=some V/\el O n x.bA V=some Y/\el O n l Y=some W:=by
 unfold el at h;simp only[]at h;split at h
 .cases h
 .rename_i o;simp only[bT]at h;obtain⟨V,m,Y,I,Z⟩:=h;refine⟨_,V,Y,rfl,fun z=>?_,m,I,Z⟩;by_cases c:ce O x.name<b.length
  .exact c
  .exact absurd ⟨z,ac⟩ o
theorem oV(O:List bB):∀(n:Nat) (l:qy) (b b':qF),el O n l b=some b'->∀i,b'.getD i false=false->b.getD i false=false
 |0,_,_,_,h,_,_=>by simp[el]at h
 |n+1,[],b,b',h,i,hi=>by cases h;exact hi
 |n+1,x::l,b,b',h,i,hi=>by
  obtain⟨U,V,Y,e,z,m,I,Z⟩:=zq h;have:=oV O n _ _ _ m i (oV O n _ _ _ I i (oV O n _ _ _ Z i hi));rw[e]at this;split at this
  .rw[zp]at this;split at this
   .cases this
   .exact this
  .exact this
theorem zr(O:List bB):∀(n m:Nat) (l:qy) (b b' c J:qF),el O n l b=some b'->el O m l c=some J->∀i,b.getD i false=false->J.getD i false=false->b'.getD i false=false
 |0,_,_,_,_,_,_,h,_,_,_,_=>by simp[el]at h
 |n+1,0,_,_,_,_,_,_,h,_,_,_=>by simp[el]at h
 |n+1,m+1,[],b,b',c,J,h,k,i,hb,hc=>by cases h;exact hb
 |n+1,m+1,x::l,b,b',c,J,h,k,i,hb,hc=>by
  obtain⟨C,b2,b3,e,hk,h2,h3,h4⟩:=zq h;obtain⟨c1,c2,c3,e',Z,o,U,V⟩:=zq k;have M:=oV O m _ _ _ V i hc;have L:=oV O m _ _ _ U i M;have Y:=oV O m _ _ _ o i L;have r1:C.getD i false=false:=by
   rw[e];split
   .rename_i W;rw[e',aB W,zp]at Y;split at Y
    .cases Y
    .rename_i z;rw[zp,ao (fun I=>z ⟨I.1,Z W⟩)];exact hb
   .exact hb
  exact zr O n m _ _ _ _ _ h4 V i (zr O n m _ _ _ _ _ h3 U i (zr O n m _ _ _ _ _ h2 o i r1 L) M) hc
def oW(O:List bB)(l:qy)(i:Nat):Prop:=∃m b b',el O m l b=some b'/\b'.getD i false=false
def oW.cons{O:List bB}{l:qy}(h:oW O (x::l) i):(x.ah=1\/x.ah=6->i≠ce O x.name)/\oW O x.a8 i/\oW O x.bA i/\oW O l i:=by
 obtain⟨m,b,b',h,J⟩:=h;cases m with
 |zero=>simp[el]at h
 |succ m=>
  obtain⟨C,o,b3,e,z,Z,I,Y⟩:=zq h;have V:=oV O m _ _ _ Y i J;have U:=oV O m _ _ _ I i V;have M:=oV O m _ _ _ Z i U;refine⟨fun W L=>?_,⟨m,_,_,Z,U⟩,⟨m,_,_,I,V⟩,⟨m,_,_,Y,J⟩⟩;rw[e,aB W,zp,aB ⟨L.symm,z W⟩]at M;cases M
theorem IY(base:Int):∀(m:qu) (j:Nat) (s:Bd) (i:Nat),i∉m->(gY base m j s).vars[i]?=s.vars[i]?
 |[],j,s,i,_=>rfl
 |w::m,j,s,i,h=>by
  rw[eK,su]at h;show(gY base m (j+1) { (ay ⟨3,base+j,[]⟩ s).2 with vars:=(ay ⟨3,base+j,[]⟩ s).2.vars.set w (ay ⟨3,base+j,[]⟩ s).1}).vars[i]?=_;rw[IY base m (j+1) _ i h.2,mA,ao (fun e=>h.1 e.symm)];rfl
theorem IZ(lp c:Int)(old:qp):∀(m:qu) (j:Nat) (s:Bd) (i:Nat),i∉m->(fL lp c old m j s).vars[i]?=s.vars[i]?
 |[],j,s,i,_=>rfl
 |w::m,j,s,i,h=>by
  rw[eK,su]at h;show(fL lp c old m (j+1) { (bM c (ay ⟨25,j,[lp]⟩ s).1 (old.getD w 0) (ay ⟨25,j,[lp]⟩ s).2).2 with vars:=(bM c (ay ⟨25,j,[lp]⟩ s).1 (old.getD w 0) (ay ⟨25,j,[lp]⟩ s).2).2.vars.set w (bM c (ay ⟨25,j,[lp]⟩ s).1 (old.getD w 0) (ay ⟨25,j,[lp]⟩ s).2).1}).vars[i]?=_;rw[IZ lp c old m (j+1) _ i h.2,mA,ao (fun e=>h.1 e.symm),(eQ _ _ _ _).v];rfl
theorem I0(c:Int)(a:qp):∀(k j:Nat) (s r:Bd),l7 c a k j s=some r->∀(i:Nat),a[i]?=s.vars[i]?->r.vars[i]?=s.vars[i]?
 |0,j,s,r,h,i,_=>by cases h;rfl
 |k+1,j,s,r,h,i,e=>by
  unfold l7 at h;simp only[bT]at h;obtain⟨x,O,y,W,h⟩:=h;have C:((bM c x y s).2.vars.set j (bM c x y s).1)[i]?=s.vars[i]?:=by
   rw[(eQ c x y s).v,mA];split
   .rename_i J;subst J;rw[O,W]at e;simp only[aC]at e;subst e;have Z:j<s.vars.length:=by
     by_cases q:j<s.vars.length
     .exact q
     .rw[jm ac]at W;cases W
    rw[aB Z,W,bM,aB rfl]
   .rfl
  have:=I0 c a k (j+1) _ _ h i (by rw[e];exact C.symm);rw[this];exact C
def TV(h:b.getD i false=false):i∉dT b:=fun m=>by
 unfold dT at m;have:=(pC.1 m).2;rw[h]at this;cases this
theorem TW(h:i∉dT b):b.getD i false=false:=by
 by_cases c:i<b.length
 .cases C:b.getD i false with
  |false=>rfl
  |true=>exact absurd (pC.2 ⟨lI.2 c,C⟩) h
 .rw[fY,jm ac];rfl
theorem I1(c:Cx):∀n:Nat,(∀x s r,l8 c n x s=some r->∀i,(x.ah=1\/x.ah=6->i≠ce c.am x.name)->oW c.am x.a8 i->oW c.am x.bA i->r.vars[i]?=s.vars[i]?) /\
 (∀l s r,eD c n l s=some r->∀i,oW c.am l i->r.vars[i]?=s.vars[i]?)/\(∀x s r,mR c n x s=some r->∀i,oW c.am x.a8 i->r.vars[i]?=s.vars[i]?)
 |0=>⟨fun _ _ _ h=>by simp[l8]at h,fun _ _ _ h=>by simp[eD]at h,fun _ _ _ h=>by simp[mR]at h⟩
 |n+1=>by
  obtain⟨L,I,J⟩:=I1 c n;refine⟨fun x s r h i z V O=>?_,fun l s r h i M=>?_,fun x s r h i V=>?_⟩
  .unfold l8 at h;split at h
   .rename_i o;simp only[bT]at h;obtain⟨v,hv,h⟩:=h;split at h
    .cases h;show(v.2.vars.set _ _)[i]?=_;rw[mA,ao (fun e=>z (.inl o) e.symm),(dm c n _ _ _ hv).v]
    .cases h
   split at h
   .simp only[iy]at h;obtain⟨q,o,v,Z,a,_,rfl⟩:=h;have a:=(dm c n _ _ _ o).trans ((dm c n _ _ _ Z).trans ((sR a.len q.1 v.2).trans (cR ⟨28,ce (c.af.map (·.name)) x.name,[(fK a.len q.1 v.2).ab,q.1,v.1]⟩ _)));show(Bd.vars _)[i]?=_;rw[a.v]
   split at h
   .simp only[iy]at h;obtain⟨q,o,a,Z,b,Y,m,h4,rfl⟩:=h;have e1:=(dm c n _ _ _ o).v;have e2:=I _ _ _ Z i V;have W:b.vars[i]?=q.2.vars[i]?:=I _ _ _ Y i O;have e4:=I0 _ _ _ _ _ _ h4 i (by rw[e2,W]);show(bM q.1 a.ab m.ab m).2.vars[i]?=_;rw[(eQ _ _ _ _).v,e4,W,e1]
   split at h
   .exact J _ _ _ h i V
   split at h
   .simp only[iy]at h;obtain⟨v,o,rfl⟩:=h;have a:=(dm c n _ _ _ o).trans (cR ⟨29,0,[v.2.ab,v.1]⟩ v.2);show(Bd.vars _)[i]?=_;rw[a.v]
   split at h
   .rename_i C;simp only[bT]at h;obtain⟨av,o,h⟩:=h;split at h
    .cases h;show(List.set _ _ _)[i]?=_;rw[mA,ao (fun e=>z (.inr C) e.symm)];exact jY (·[i]?) (sT c n _ _ _ o).1.v
    .cases h
   split at h
   .cases h;have a:=(cR ⟨1,0,[]⟩ s).trans (rm (er (16+x.n)) (ay ⟨1,0,[]⟩ s).1 _);rw[a.v]
   .cases h;rfl
  .unfold eD at h;cases l with
   |nil=>cases h;rfl
   |cons x l=>
    simp only[bT]at h;obtain⟨q,o,Z⟩:=h;obtain⟨a1,a2,a3,a4⟩:=M.cons;rw[I _ _ _ Z i a4,L _ _ _ o i a1 a2 a3]
  .unfold mR at h;simp only[iy]at h;obtain⟨q,o,b,hb,t,Z,d,Y,rfl⟩:=h;obtain⟨m,b0,b1,k1,k2⟩:=V;have U:=zr c.am n m _ _ _ _ _ hb k1 i (by rw[fY,vV];split<;>rfl) k2;rw[IZ _ _ _ _ _ _ i (TV U)];show(bM _ _ _ _).2.vars[i]?=_;rw[(eQ _ _ _ _).v];show q.2.vars[i]?=_;rw[(dm c n _ _ _ o).v]
def TX{c:Cx}{base:Int}{v:qp}(U:s.vars=v)(h2:el c.am n x.a8 (List.replicate k false)=some b)(I:eD c n x.a8 (gY base (dT b) 0 s)=some t)(Z:dE c n x.value t=some d):∀i,i∉dT b->d.2.vars[i]?=v[i]?:=fun i J=>by
 rw[(dm c n _ _ _ Z).v,(I1 c n).2.1 _ _ _ I i ⟨n,_,_,h2,TW J⟩,IY _ _ _ _ i J,U]
end Go.Proofs.Ytbflaciihaijgaa
