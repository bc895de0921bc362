/- Parts: LoE, LoF, LoF6, LoG, LoH, LoI. -/
import Derived.Test.YtpbcimfiofmoeaaGreatPCJ
set_option linter.unusedSimpArgs false
set_option linter.unusedVariables false
set_option linter.unusedSectionVars false
set_option linter.defProp false
set_option maxHeartbeats 32000000
namespace Go.Ab
set_option maxRecDepth 20000
open Go
theorem Lc{P:Prop}(h:P:=by rw[Hp.get_set,if_neg g];exact sb.get k Z g):P:=h
theorem Ld{P:Prop}(h:P:=by rw[List.getD_eq_getElem?_getD,List.getElem?_eq_getElem O];exact List.getElem_mem O):P:=h
theorem rD{P:Prop}(h:P:=by simp only[zfo,Nat.reduceBEq, *];exact zhp (n:=l.length) ac ac):P:=h
theorem Le{P:Prop}(h:P:=by simp only[zfo,Nat.reduceBEq, *];exact zhp (n:=x.args.length) ac ac):P:=h
theorem Lf{P:Prop}(h:P:=by simp only[zfo,Nat.reduceBEq, *];exact zhp (n:=r.2.vars.length) ac ac):P:=h
theorem Lg{P:Prop}(h:P:=by simp only[zfo,Nat.reduceBEq, *];exact zhp (n:=U.length) ac ac):P:=h
def vE:=@List.take_zero
def qq:=@List.drop_eq_nil_of_le
def EX:=@List.filter_cons
end Go.Ab
namespace Go.Proofs.YtpbcimfiofmoeaaGreat
set_option maxRecDepth 20000
open Go Go.Ab
section
def tyLoE.tyF:=ad @cN (ad @tJ (ad @dH (ad @iD (ad @eQ (ad @iZ (ad @fO (ad @fP (ad @eR (ad @xr (ad @gJ (ad @nG (@pi))))))))))))
open tyLoE
noncomputable def Lh:{c:SC // aH 42 (Tryz.f185.body.getD .skip)=c}:=by
 refine⟨?_,?_⟩;rotate_left
 .simp only[Tryz.f185,bS,aH,zfO,zfL,zfR,zfS,Nat.blt,Nat.ble];rfl
def zxH(q:Nat)(H:Hp)(b:List Bool)(v:AV)(H':Hp):Prop:=H'.get q=some (.cells (b.map .bool) 0 true)/\H.next<=H'.next/\∀k,k<H.next->k≠q->H'.get k=H.get k
structure Smq (n q:Nat) (H H':Hp):Prop where
 get:∀k,k<n->k≠q->H'.get k=H.get k
theorem uk(i:List zfD):∀(n:Nat) (l:List St) (b o:List Bool),f0 i n l b=some o->o.length=b.length
 |0,_,_,_,h=>by simp[f0]at h
 |n+1,[],b,o,h=>by cases h;rfl
 |n+1,x::l,b,o,h=>by
  unfold f0 at h;simp only[]at h;split at h
  .cases h
  .simp only[fH]at h;obtain⟨I,g,Y,m,O⟩:=h;rw[uk i n _ _ _ O,uk i n _ _ _ m,uk i n _ _ _ g];split<;>simp
theorem vF{q n m:Nat}(V:m<n):zgi Tryz.prog 84 (.sl q 0 n 1) (.int .i64 (m:Int))=some (.ptr q m):=by rw[xh Tryz.underlying84 z6 V];simp
theorem Br{H:Hp}{r m:Nat}{b:List Bool}(J:H.get r=some (.cells (b.map .bool) 0 true))(V:m<b.length)(x:Bool):nf Tryz.prog H 4 (.ptr r m) (.bool x)=some (H.set r (.cells ((b.set m x).map .bool) 0 true)):=by
 rw[Zd J (by rw[cO];exact V),List.map_set]
set_option maxRecDepth 100000 in
theorem EY{tb:List En}(hG:LowT tb){X:Lx}{c:Cx}(hX:CxOk X c):∀(N n:Nat),n<N->∀(l:List St) (b b':List Bool),f0 c.names n l b=some b'->zf0 l<2^40->∀{H:Hp}{S:Nat->Prop}{s:Bd}{lv vv:AV}{q:Nat},RepL X H S s lv vv->H.get q=some (.cells (b.map .bool) 0 true)->X.b<q->q<H.next->¬S q->¬zfU vv q ->
 zfs Tryz.prog (zfn pls tb) 185 [.ptr X.b 0,.lst (l.map St.cells),.sl q 0 b.length 1] H (zxH q H b')
 |0,n,hn,_,_,_,_,_,_,_,_,_,_,_,_,_,_,_,_,_=>by omega
 |N+1,n,hn,l,b,b',h,hz,H,S,s,lv,vv,q,hR,L,hq1,hq2,hq3,hq4=>by
  have hw:Plain (zfn pls tb) 185:=hG.plain dR;have hll:=xu l;have o3:=hR.o3;have o4:=hR.o4;refine zfz (M:=42) (rs:=[]) (hw.call _) hw.ice hw.froz Tryz.func185 rfl rfl Lh.2 rfl ?_;dsimp only[Lh,zft,Nat.reduceAdd];repeat' (first
   |(apply ah ?_;clear hK K)|apply Rx.o ?_|apply ak ?_|(apply zff fun K hK=>?_)|apply ay ?_|fail)
  refine zgs [0,2,8,9] [] 10 l.length (fun i E J=>∃m Y,m<=n/\Y.length=b.length/\f0 c.names m (l.drop i) Y=some b'/\J.get q=some (.cells (Y.map .bool) 0 true)/\Smq H.next q H J) eE ⟨n,b,aE _,rfl,h,L,⟨fun _ _ _=>rfl⟩⟩ ?_;rintro i E J hi hcE hrH C hsI ⟨m,Y,hm,hbl,O,hg2,j⟩;(try simp only[zfT,zfB,a0,zfo,zfv,Nat.reduceBEq, *]at hcE);(try simp only[zfB, *]at hrH);(try simp only[zfw,zfI,zgj,b9,Nat.reduceAdd]at C);have R2:RepL X J S s lv vv:=hR.keep C fun k Z g=>j.get k Z fun e=>by
   subst e;rcases g with g|g|g
   .omega
   .exact hq3 g
   .exact hq4 g
  by_cases hlt:i<l.length
  .have hlt':(i:Int)<l.length:=by omega
   have hgx:l[i]?=some l[i]:=aR hlt;have hmem:=zh3 (dI hlt);have hsz:=(l[i]).sz_eq;cases m with
   |zero=>simp[f0]at O
   |succ m=>
   rw[gW hlt]at O;unfold f0 at O;simp only[]at O;generalize l[i]=x at *;split at O
   .cases O
   rename_i hno;simp only[fH]at O;obtain⟨b2,j2,b3,j3,j4⟩:=O;have R3:=R2.alloc2 (.cells (List.replicate 17 (.int .i64 0)) 0 true) (.cells x.cells 0 true);repeat' (first
    |(apply ah ?_;clear hK K)|apply Ry.o ?_|apply ak ?_|(apply zff fun K hK=>?_)|fail)
   (apply bt (fun o z=>?_) (fun o z=>?_)<;>try(cases o;done));apply zfh ?_;apply ak ?_;apply ay ?_;apply ak ?_;(apply zff fun K hK=>?_);repeat' (first
    |(apply ah ?_;clear hK K)|apply Ry.o ?_|apply bM ?_)
   apply ak ?_;generalize V:Hp.set (J.alloc _) _ _=Hb;have Rb:RepL X Hb S s lv vv:=by rw[<-V];exact R2.alloc2 _ _
   have nb:Hb.next=J.next+1:=by rw[<-V];rfl
   have gb:Hb.get q=some (.cells (Y.map .bool) 0 true):=by rw[<-V,aQ,af ac,zfk,af ac];exact hg2
   have gx:Hb.get J.next=some (.cells x.cells 0 true):=by rw[<-V,aQ,aq rfl]
   have sb:Smq H.next q H Hb:=⟨fun k Z g=>by rw[<-V,aQ,af ac,zfk,af ac];exact j.get k Z g⟩
   clear V R3;have mb:=Rb.m;unfold zfH at mb;have hlk:=Rb.lkN hX x.name;have I:(if x.kind=1\/x.kind=6 then Y.set (cp c.names x.name) true else Y).length=b.length:=by split<;>simp[hbl]
   refine JB (fun E' H'=>E'.at 0=.ptr X.b 0/\E'.at 2=.sl q 0 b.length 1/\E'.at 7=.ptr J.next 0/\E'.at 8=.lst (l.map St.cells)/\E'.at 9=.int .i64 l.length/\E'.at 10=.int .i64 i/\H'.get q=some (.cells ((if x.kind=1\/x.kind=6 then Y.set (cp c.names x.name) true else Y).map .bool) 0 true)/\H'.get J.next=some (.cells x.cells 0 true)/\H'.next=J.next+1/\Smq H.next q H H') ?_ ?_
   .by_cases hk:x.kind=1\/x.kind=6
    .have hixl:cp c.names x.name<Y.length:=by
      by_cases c2:cp c.names x.name<Y.length
      .exact c2
      .exact absurd ⟨hk,ac⟩ hno
     have hix:=vF (q:=q) (n:=b.length) (m:=cp c.names x.name) ac;have hst:=Br gb hixl true;rcases hk with Z|h6
     .repeat' (first
       |(apply ah ?_;clear hK K)|apply Ry.o ?_|apply bM ?_|(apply bC (fun L U=>?_) (fun L U=>?_)<;>try(cases L;done))|(apply aL (fun o z=>?_) (fun o z=>?_)<;>try(cases o;done))|apply ak ?_|(apply zff fun K hK=>?_)|(apply tN 4 fun K hK=>?_)|fail)
      all_goals first
       |exact zf6
       |skip
      exact⟨rfl,eE,eE,eE,eE,eE,eE,by rw[aQ,aq rfl,aq (.inl Z)],by rw[aQ,af ac];exact gx,nb,⟨fun k Z g=>Lc⟩⟩
     .have Z:¬x.kind=1:=by omega
      repeat' (first
       |(apply ah ?_;clear hK K)|apply Ry.o ?_|apply bM ?_|(apply bC (fun L U=>?_) (fun L U=>?_)<;>try(cases L;done))|(apply aL (fun o z=>?_) (fun o z=>?_)<;>try(cases o;done))|apply ak ?_|(apply zff fun K hK=>?_)|(apply tN 4 fun K hK=>?_)|fail)
      all_goals first
       |exact zf6
       |skip
      exact⟨rfl,eE,eE,eE,eE,eE,eE,by rw[aQ,aq rfl,aq (.inr h6)],by rw[aQ,af ac];exact gx,nb,⟨fun k Z g=>Lc⟩⟩
    .have Z:¬x.kind=1:=fun e=>hk (.inl e);have h6:¬x.kind=6:=fun e=>hk (.inr e);rw[af hk];repeat' (first
      |(apply ah ?_;clear hK K)|apply Ry.o ?_|(apply bC (fun L U=>?_) (fun L U=>?_)<;>try(cases L;done))|(apply aL (fun o z=>?_) (fun o z=>?_)<;>try(cases o;done))|apply ak ?_|(apply zff fun K hK=>?_)|apply zfh ?_|fail)
     exact⟨rfl,eE,eE,eE,eE,eE,eE,gb,gx,nb,sb⟩
   generalize (if x.kind=1\/x.kind=6 then Y.set (cp c.names x.name) true else Y)=b1 at *;clear gb gx nb sb mb hlk;rintro E3 H3 ⟨k0,k2,k7,k8,k9,k10,g3,gx3,n3,s3⟩;dsimp only[nE];have R3:RepL X H3 S s lv vv:=hR.keep ac fun k Z g=>s3.get k Z fun e=>by
    subst e;rcases g with g|g|g
    .omega
    .exact hq3 g
    .exact hq4 g
   repeat' (first
    |apply Rx.o ?_|apply ak ?_|(apply zff fun K hK=>?_)|fail)
   refine aU rfl aV aW ?_;simp only[bi];refine aS ?_ (by rw[<-I];exact EY hG hX N m ac x.thn b1 b2 j2 ac R3 g3 hq1 ac hq3 hq4);rintro v H4 ⟨g4,n4,s4⟩;have hbl2:=uk _ _ _ _ _ j2;have gx4:H4.get J.next=some (.cells x.cells 0 true):=by rw[s4 _ ac ac];exact gx3
   have R4:RepL X H4 S s lv vv:=R3.keep n4 fun k Z g=>s4 k Z fun e=>by
    subst e;rcases g with g|g|g
    .omega
    .exact hq3 g
    .exact hq4 g
   have s4':Smq H.next q H H4:=⟨fun k Z g=>by rw[s4 k ac g];exact s3.get k Z g⟩
   clear s4;dsimp only[zfp];repeat' (first
    |(apply ah ?_;clear hK K)|apply Rx.o ?_|(apply zff fun K hK=>?_)|fail)
   refine aU rfl aV aW ?_;simp only[bi];refine aS ?_ (by rw[<-I,<-hbl2];exact EY hG hX N m ac x.els b2 b3 j3 ac R4 g4 hq1 ac hq3 hq4);rintro v H5 ⟨g5,n5,s5⟩;have hbl3:=uk _ _ _ _ _ j3;have s5':Smq H.next q H H5:=⟨fun k Z g=>by rw[s5 k ac g];exact s4'.get k Z g⟩
   clear s5;dsimp only[zfp];repeat' (first
    |(apply ah ?_;clear hK K)|apply Rx.o ?_|(apply zff fun K hK=>?_)|fail)
   refine⟨ac,eL,eL,zf4,rD,?_⟩;exact⟨m,b3,ac,ac,j4,g5,s5'⟩
  .have hlt':¬(i:Int)<l.length:=by omega
   repeat' (first
    |(apply ah ?_;clear hK K)|apply Ry.o ?_|(apply aL (fun o z=>?_) (fun o z=>?_)<;>try(cases o;done))|apply ak ?_|(apply zff fun K hK=>?_)|apply zfr ?_)
   all_goals (refine⟨zfj,_,zfq,?_⟩;try simp only[zfi])
   have hd:l.drop i=[]:=qq ac;rw[hd]at O;cases m with
   |zero=>simp[f0]at O
   |succ m=>
    cases O;exact⟨hg2,C,j.get⟩
end
section
def tyLoF.tyF:=ad @ej (ad @cN (ad @dH (ad @iD (ad @eQ (ad @iZ (ad @fO (ad @fP (ad @eR (ad @gJ (ad @nG (ad @pi (ad @K8 (@x5)))))))))))))
open tyLoF
noncomputable def lV:{c:SC // aH 155 (Tryz.f135.body.getD .skip)=c}:=by
 refine⟨?_,?_⟩;rotate_left
 .simp only[Tryz.f135,bS,aH,zfO,zfL,zfR,zfS,Nat.blt,Nat.ble];rfl
section
variable {tb:List En} (hG:LowT tb) {X:Lx} {c:Cx} (hX:CxOk X c) {x:St} {s:Bd} {H:Hp} {S:Nat -> Prop} {lv vv:AV}
set_option maxRecDepth 100000 in
set_option maxHeartbeats 4000000 in
include hG hX in
theorem zaI(hk:x.kind=1){n:Nat}{r:Int×Bd}(j:ed c n x.value s=some r)(hl:cp c.names x.name<r.2.vars.length)(hF:Fin r.2)(Y:RepL X H S s lv vv):
 zfs Tryz.prog (zfn pls tb) 135 [.ptr X.b 0,.agg x.cells] H (nQ X S vv H {r.2 with vars:=r.2.vars.set (cp c.names x.name) r.1}):=by
 have L:Plain (zfn pls tb) 135:=hG.plain dR;have O:=Y.alloc (.cells x.cells 0 true);have F1:=(cG X S vv H).alloc (.cells x.cells 0 true);have zfJ:=O.m;unfold zfH at zfJ;have hlk1:=O.lkN hX x.name;have J:=zgg c n _ _ _ j;have o:cp c.names x.name<s.vars.length:=by rw[<-J.v];exact hl
 obtain⟨q,V,hld,_⟩:=O.setV o r.1;refine zfz (M:=155) (rs:=[]) (L.call _) L.ice L.froz Tryz.func135 rfl rfl lV.2 rfl ?_;dsimp only[lV,zft,Nat.reduceAdd];repeat' (first
  |(apply ah ?_;clear hK K)|apply Ry.o ?_|(apply aL (fun hb z=>?_) (fun hb z=>?_)<;>try(cases hb;done))|apply ak ?_|(apply zff fun K hK=>?_)|(apply zfm 3 [(3,14),(3,16),(7,14),(7,16),(9,14),(9,16),(10,14),(10,16),(13,14)] fun K hK=>?_)|(apply zfx ?_;try intro _)|apply br ?_|apply ay ?_|fail)
 refine aU rfl aV aW ?_;simp only[gL];refine aS ?_ (qp hG hX n x.value s r j hF O (cG _ _ _ _));rintro v H2 ⟨rfl,S2,C,g,I⟩;have g2:=fD Y I;have m2:=g.m;unfold zfH at m2;have hlk2:=g.lkN hX x.name;obtain⟨q',Z,hld',H3,hst,hq1,hq2,U,i,F3,o3,n3⟩:=g.setV hl r.1;have m:q'=q:=by
  rw[V]at Z;simp only[az,AV.ptr.injEq]at Z;exact Z.1.symm
 subst m;have n2:H.next+1<=H2.next:=I.next
 have m3:=i.m;have hlk3:=i.lkN hX x.name;have g3:H3.get H.next=some (.cells x.cells 0 true):=by rw[o3 _ (by have:=Y.new (aE _);intro e;subst e;exact this.2.1 U)];exact g2
 dsimp only[zfH]at m3;dsimp only[zfp];repeat' (first
  |apply Rx.o ?_|apply ct ?_|(apply zfx ?_;try intro _)|(apply zfG ?_ ?_<;>clear hK K)|apply br ?_|apply zhC rfl ?_|fail)
 .exact zf6
 .all_goals (refine⟨zfj,_,zfq,?_⟩;try simp only[zfi])
  exact⟨S2,C,vv,i,F1.trans (I.trans F3)⟩
set_option maxRecDepth 100000 in
set_option maxHeartbeats 4000000 in
include hG hX in
theorem zaJ(hk:x.kind=2){n:Nat}{i v:Int×Bd}(h1:ed c n x.at_ s=some i)(h2:ed c n x.value i.2=some v){a:Ar}(ha:c.arrays[cp (c.arrays.map (·.name)) x.name]?=some a)
 (m:Fin (zfg ⟨28,cp (c.arrays.map (·.name)) x.name,[(eK a.len i.1 v.2).state,i.1,v.1]⟩ (eK a.len i.1 v.2)).2) (V:RepL X H S s lv vv) :
 zfs Tryz.prog (zfn pls tb) 135 [.ptr X.b 0,.agg x.cells] H (nQ X S vv H { (zfg ⟨28,cp (c.arrays.map (·.name)) x.name,[(eK a.len i.1 v.2).state,i.1,v.1]⟩ (eK a.len i.1 v.2)).2 with state:=(zfg ⟨28,cp (c.arrays.map (·.name)) x.name,[(eK a.len i.1 v.2).state,i.1,v.1]⟩ (eK a.len i.1 v.2)).1}):=by
 have O:Plain (zfn pls tb) 135:=hG.plain dR;have L:=V.alloc (.cells x.cells 0 true);have F1:=(cG X S vv H).alloc (.cells x.cells 0 true);have zfJ:=L.m;unfold zfH at zfJ;have hlk1:=L.lkA hX x.name;have Y:Fin (eK a.len i.1 v.2):=m.le (zgd _ _).le;have Z:Fin v.2:=Y.le (qk _ _ _).le;have C:Fin i.2:=Z.le (zgg c n _ _ _ h2).le;have o:X.p.arrays[cp (c.arrays.map (·.name)) x.name]?=some a:=by rw[<-hX.ar];exact ha
 refine zfz (M:=155) (rs:=[]) (O.call _) O.ice O.froz Tryz.func135 rfl rfl lV.2 rfl ?_;dsimp only[lV,zft,Nat.reduceAdd];repeat' (first
  |(apply ah ?_;clear hK K)|apply Ry.o ?_|(apply aL (fun g z=>?_) (fun g z=>?_)<;>try(cases g;done))|apply ak ?_|(apply zff fun K hK=>?_)|(apply zfm 5 [(3,8),(5,8),(6,8)] fun K hK=>?_)|(apply zfx ?_;try intro _)|(apply zfG ?_ ?_<;>clear hK K)|apply br ?_|apply ay ?_|fail)
 all_goals first
  |exact zf6
  |skip
 refine aU rfl aV aW ?_;simp only[bi];refine aS ?_ (qp hG hX n x.at_ s i h1 C L (cG _ _ _ _));rintro w H2 ⟨rfl,S2,lv2,R2,I⟩;have g2:=fD V I;dsimp only[zfp];repeat' (first
  |(apply ah ?_;clear hK K)|apply Rx.o ?_|apply ak ?_|(apply zff fun K hK=>?_)|fail)
 refine aU rfl aV aW ?_;simp only[bi];refine aS ?_ (qp hG hX n x.value i.2 v h2 Z R2 (cG _ _ _ _));rintro w H3 ⟨rfl,S3,lv3,R3,F3⟩;have g3:=fD V (I.trans F3);dsimp only[zfp];repeat' (first
  |(apply ah ?_;clear hK K)|apply Rx.o ?_|apply ak ?_|(apply zff fun K hK=>?_)|fail)
 refine aU rfl aV aW ?_;simp only[bi];refine aS ?_ (La hG R3 (cG _ _ _ _) (cp (c.arrays.map (·.name)) x.name) i.1 o Y);rintro w H4 ⟨S4,lv4,U,F4⟩;have m4:=U.m;unfold zfH at m4;have J:=U.new (aE _);dsimp only[zfp];repeat' (first
  |(apply ah ?_;clear hK K)|apply Rx.o ?_|(apply zff fun K hK=>?_)|fail)
 refine aU rfl aV aW ?_;simp only[bi];refine aS ?_ (oN hG (U.alloc _) ((cG _ _ _ _).alloc _) ⟨28,cp (c.arrays.map (·.name)) x.name,[(eK a.len i.1 v.2).state,i.1,v.1]⟩ rfl iH (aE _) (cI _) J.2.2 J.1 J.2.1 m rfl rfl);rintro w H5 ⟨rfl,S5,j,R5,F5⟩;have m5:=R5.m;unfold zfH at m5;dsimp only[zfp];repeat' (first
  |(apply ah ?_;clear hK K)|apply Rx.o ?_|apply ct ?_|fail)
 all_goals (refine⟨zfj,_,zfq,?_⟩;try simp only[zfi])
 obtain⟨R6,F6⟩:=R5.setS (zfg ⟨28,cp (c.arrays.map (·.name)) x.name,[(eK a.len i.1 v.2).state,i.1,v.1]⟩ (eK a.len i.1 v.2)).1;exact⟨S5,j,vv,R6,F1.trans (I.trans (F3.trans (F4.trans (F5.trans F6))))⟩
set_option maxRecDepth 100000 in
set_option maxHeartbeats 4000000 in
include hG hX in
theorem zaK(hk:x.kind=5){n:Nat}{v:Int×Bd}(h1:ed c n x.value s=some v)(i:Fin (zfg ⟨29,0,[v.2.state,v.1]⟩ v.2).2)(U:RepL X H S s lv vv):
 zfs Tryz.prog (zfn pls tb) 135 [.ptr X.b 0,.agg x.cells] H (nQ X S vv H { (zfg ⟨29,0,[v.2.state,v.1]⟩ v.2).2 with state:=(zfg ⟨29,0,[v.2.state,v.1]⟩ v.2).1}):=by
 have Y:Plain (zfn pls tb) 135:=hG.plain dR;have R1:=U.alloc (.cells x.cells 0 true);have F1:=(cG X S vv H).alloc (.cells x.cells 0 true);have V:Fin v.2:=i.le (zgd _ _).le;refine zfz (M:=155) (rs:=[]) (Y.call _) Y.ice Y.froz Tryz.func135 rfl rfl lV.2 rfl ?_;dsimp only[lV,zft,Nat.reduceAdd];repeat' (first
  |(apply ah ?_;clear hK K)|apply Ry.o ?_|(apply aL (fun o z=>?_) (fun o z=>?_)<;>try(cases o;done))|apply ak ?_|(apply zff fun K hK=>?_)|apply ay ?_|fail)
 refine aU rfl aV aW ?_;simp only[bi];refine aS ?_ (qp hG hX n x.value s v h1 V R1 (cG _ _ _ _));rintro w H4 ⟨rfl,S4,C,Z,O⟩;have m4:=Z.m;unfold zfH at m4;have J:=Z.new (aE _);dsimp only[zfp];repeat' (first
  |(apply ah ?_;clear hK K)|apply Rx.o ?_|(apply zff fun K hK=>?_)|fail)
 refine aU rfl aV aW ?_;simp only[bi];refine aS ?_ (oN hG (Z.alloc _) ((cG _ _ _ _).alloc _) ⟨29,0,[v.2.state,v.1]⟩ rfl iH (aE _) (cI _) J.2.2 J.1 J.2.1 i rfl rfl);rintro w H5 ⟨rfl,L,j,I,m⟩;have m5:=I.m;unfold zfH at m5;dsimp only[zfp];repeat' (first
  |(apply ah ?_;clear hK K)|apply Rx.o ?_|apply ct ?_|fail)
 all_goals (refine⟨zfj,_,zfq,?_⟩;try simp only[zfi])
 obtain⟨g,F6⟩:=I.setS (zfg ⟨29,0,[v.2.state,v.1]⟩ v.2).1;exact⟨L,j,vv,g,F1.trans (O.trans (m.trans F6))⟩
set_option maxRecDepth 100000 in
set_option maxHeartbeats 4000000 in
include hG in
theorem zaL(hk:x.kind=7)(i:Fin (my (cu (16+x.n)) (zfg ⟨1,0,[]⟩ s).1 (zfg ⟨1,0,[]⟩ s).2))(Y:RepL X H S s lv vv):
 zfs Tryz.prog (zfn pls tb) 135 [.ptr X.b 0,.agg x.cells] H (nQ X S vv H (my (cu (16+x.n)) (zfg ⟨1,0,[]⟩ s).1 (zfg ⟨1,0,[]⟩ s).2)):=by
 have Z:Plain (zfn pls tb) 135:=hG.plain dR;have R1:=Y.alloc (.cells x.cells 0 true);have F1:=(cG X S vv H).alloc (.cells x.cells 0 true);have V:Fin (zfg ⟨1,0,[]⟩ s).2:=i.le (qj _ _ _).le;refine zfz (M:=155) (rs:=[]) (Z.call _) Z.ice Z.froz Tryz.func135 rfl rfl lV.2 rfl ?_;dsimp only[lV,zft,Nat.reduceAdd];repeat' (first
  |(apply ah ?_;clear hK K)|apply Ry.o ?_|(apply aL (fun o z=>?_) (fun o z=>?_)<;>try(cases o;done))|apply ak ?_|(apply zff fun K hK=>?_)|(apply zfm 14 [(2,5),(2,6)] fun K hK=>?_)|(apply zfx ?_;try intro _)|apply br ?_|apply ay ?_|fail)
 refine aU rfl aV aW ?_;simp only[gL];refine aS ?_ (vC hG R1 (cG _ _ _ _) 0 V);rintro w U ⟨rfl,S4,C,L,I⟩;have g4:=fD Y I;have n4:H.next+1<=U.next:=I.next
 dsimp only[zfp];repeat' (first
  |(apply zfx ?_;try intro _)|apply br ?_|fail)
 all_goals first
  |exact zf6
  |skip
 refine aU rfl aV aW ?_;simp only[gL];refine aS ?_ (Bq hG L (cG _ _ _ _) (cu (16+x.n)) (zfg ⟨1,0,[]⟩ s).1 i);rintro w O ⟨m,j,g,J⟩;have g5:=fD Y (I.trans J);have n5:H.next+1<=O.next:=cJ n4 J.next
 have n45:U.next<=O.next:=J.next
 dsimp only[zfp];repeat' (first
  |(apply zfx ?_;try intro _)|(apply zfG ?_ ?_<;>clear hK K)|fail)
 .exact zf6
 .all_goals (refine⟨zfj,_,zfq,?_⟩;try simp only[zfi])
  exact⟨m,j,vv,g,F1.trans (I.trans J)⟩
set_option maxRecDepth 100000 in
set_option maxHeartbeats 4000000 in
include hG in
theorem lst0(h1:¬x.kind=1)(h2:¬x.kind=2)(m:¬x.kind=3)(U:¬x.kind=4)(L:¬x.kind=5)(J:¬x.kind=6)(I:¬x.kind=7)(Y:RepL X H S s lv vv):
 zfs Tryz.prog (zfn pls tb) 135 [.ptr X.b 0,.agg x.cells] H (nQ X S vv H s):=by
 have Z:Plain (zfn pls tb) 135:=hG.plain dR;have O:=Y.alloc (.cells x.cells 0 true);have V:=(cG X S vv H).alloc (.cells x.cells 0 true);refine zfz (M:=155) (rs:=[]) (Z.call _) Z.ice Z.froz Tryz.func135 rfl rfl lV.2 rfl ?_;dsimp only[lV,zft,Nat.reduceAdd];repeat' (first
  |(apply ah ?_;clear hK K)|apply Ry.o ?_|(apply aL (fun o z=>?_) (fun o z=>?_)<;>try(cases o;done))|apply ak ?_|(apply zff fun K hK=>?_)|apply ay ?_|apply zfh ?_|fail)
 all_goals (refine⟨zfj,_,zfq,?_⟩;try simp only[zfi])
 exact⟨S,lv,vv,O,V⟩
end
end
section
def tyLoF6.tyF:=ad @ej (ad @cN (ad @dH (ad @iD (ad @eQ (ad @iZ (ad @fO (ad @fP (ad @eR (ad @gJ (ad @nG (ad @pi (@Bp))))))))))))
open tyLoF6
structure RowL (S:Nat->Prop) (vv:AV) (lo:Nat) (H:Hp) (av:AV) (l:List Int):Prop where
 r:fQ H av l lo
 n:∀k,zfU av k->¬S k/\¬zfU vv k
theorem RowL.fr{X:Lx}{S S':Nat->Prop}{vv Y:AV}{lo:Nat}{H H':Hp}{V:AV}{l:List Int}(h:RowL S vv lo H V l)(o:X.b<lo)(Z:X.rt<lo)(f:FrL X S vv H S' Y H'):RowL S' Y lo H' V l:=by
 refine⟨h.r.keep f.next fun k j=>?_,fun k j=>?_⟩
 .have a:=h.r.lt j;have b:=h.n k j;exact f.get k a.2 ac ac b.1 b.2
 .have a:=h.r.lt j;have b:=h.n k j;refine⟨fun e=>?_,fun e=>?_⟩
  .rcases f.sub k e with e|e
   .exact b.1 e
   .omega
  .rcases f.own k e with e|e
   .exact b.2 e
   .omega
theorem RowL.app{X:Lx}{S:Nat->Prop}{s:Bd}{J vv:AV}{lo:Nat}{H M:Hp}{V:AV}{l:List Int}(h:RowL S vv lo H V l)(Y:RepL X M S s J vv)(z:lo<=M.next)(U:H.next<=M.next)(L:∀k,k<H.next->M.get k=H.get k)(x:Int){r imm:Nat}(C:M.get r=some (.cells [.int .i64 x] imm true))(hb:X.b<lo)(o:l.length<2^39):
 ∃O H',zgH Tryz.prog false M 23 23 V (.sl r 0 1 1)=some (O,H')/\RowL S vv lo H' O (l++[x])/\RepL X H' S s J vv/\FrL X S vv M S vv M/\M.next<=H'.next/\(∀k,k<M.next->¬zfU V k->H'.get k=M.get k)/\(∀k,zfU O k->zfU V k\/M.next<=k)/\gM H' O (l++[x]) lo:=by
 have hr:fQ M V l lo:=h.r.keep U fun k j=>L k (h.r.lt j).2;obtain⟨O,H',m,K,a3,a4,I,Z⟩:=xE x hr z C o;refine⟨O,H',m,⟨.inr K,fun k j=>?_⟩,Y.keep ac fun k i g=>I k i fun e=>?_,cG _ _ _ _,ac,I,Z,K⟩
 .rcases Z k j with e|e
  .exact h.n k e
  .have:=Y.new e;exact⟨this.1,this.2.1⟩
 .have b:=h.n k e;have c:=h.r.lt e;rcases g with g|g|g
  .omega
  .exact b.1 g
  .exact b.2 g
theorem EZ{i:List En}(I:LowT i){X:Lx}{H L:Hp}{S:Nat->Prop}{s:Bd}{J vv:AV}(U:RepL X L S s J vv)(O:FrL X S vv H S vv L)(n:Nd){r m:Nat}(M:n.kids.length=m)(C:L.get r=some (.cells (n.kids.map (.int .i64)) 0 true))(hr:H.next<=r)(K:r<L.next)(o:X.b<r)(hS:¬S r)(z:¬zfU vv r)(V:Fin (zfg n s).2){op imm:Int}(Z:n.op=op)(Y:n.imm=imm):
 zfs Tryz.prog (zfn pls i) 86 [.ptr X.b 0,.int .i64 op,.int .i64 imm,.sl r 0 m 1] L (fun v H'=>pC X S vv H (zfg n s) v H'/\L.next<=H'.next):=by
 subst M;subst Z;subst Y;refine aS ?_ (xZ I U n (.inr ⟨r,0,rfl,C,dZ _,dZ _,K⟩) (fun k j=>?_) V.r (uc (ru s.l n).length_le V.l))
 .intro v H' h;exact⟨h.val O fun k j=>by rw[vB j];exact hr,by obtain⟨_,_,_,_,q,_⟩:=h;exact q⟩
 .rw[vB j];exact⟨o,hS,z⟩
section
variable {tb:List En} (hG:LowT tb) {X:Lx} {c:Cx} (hX:CxOk X c) {x:St} {s:Bd} {H:Hp} {S:Nat -> Prop} {lv vv:AV}
set_option maxRecDepth 100000 in
set_option maxHeartbeats 4000000 in
include hG hX in
theorem zaM(j:x.kind=6){n:Nat}{V:List Int×Bd}(h1:nO c n x.args s=some V)(Z:0<=zgz c.funcs x.to 0)(hl:cp c.names x.name<V.2.vars.length)(hz:x.sz<2^36)
 (hF:Fin (zfg ⟨24,0,[(zfg ⟨30,zgz c.funcs x.to 0,V.2.state::V.1⟩ V.2).1]⟩ { (zfg ⟨30,zgz c.funcs x.to 0,V.2.state::V.1⟩ V.2).2 with state:=(zfg ⟨30,zgz c.funcs x.to 0,V.2.state::V.1⟩ V.2).1}).2) (Y:RepL X H S s lv vv) :
 zfs Tryz.prog (zfn pls tb) 135 [.ptr X.b 0,.agg x.cells] H (nQ X S vv H (let r:=zfg ⟨30,zgz c.funcs x.to 0,V.2.state::V.1⟩ V.2;let q:=zfg ⟨24,0,[r.1]⟩ {r.2 with state:=r.1};{q.2 with vars:=q.2.vars.set (cp c.names x.name) q.1})):=by
 have hw:Plain (zfn pls tb) 135:=hG.plain dR;have hkeep:(zfn pls tb).keep 135=false:=rfl;have R1:=Y.alloc (.cells x.cells 0 true);have F1:=(cG X S vv H).alloc (.cells x.cells 0 true);have zfJ:=R1.m;unfold zfH at zfJ;have o3:=Y.o3;have o4:=Y.o4;have o5:=Y.o5;have hal:=vb x.args;have hsz:=x.sz_eq;simp only[];generalize hr:zfg ⟨30,zgz c.funcs x.to 0,V.2.state::V.1⟩ V.2=r at *;have m:Fin r.2:=hF.le ⟨(zgd ⟨24,0,[r.1]⟩ {r.2 with state:=r.1}).le.l,(zgd ⟨24,0,[r.1]⟩ {r.2 with state:=r.1}).le.n⟩;have hFa:Fin V.2:=by rw[<-hr]at m;exact m.le (zgd _ _).le
 have happl:=(qn c n _ _ _ h1).2;refine zfz (M:=155) (rs:=[]) (hw.call _) hw.ice hw.froz Tryz.func135 rfl rfl lV.2 rfl ?_;dsimp only[lV,zft,Nat.reduceAdd];repeat' (first
  |(apply ah ?_;clear hK K)|apply Ry.o ?_|(apply aL (fun hb U=>?_) (fun hb U=>?_)<;>try(cases hb;done))|apply ak ?_|(apply zff fun K hK=>?_)|apply ay ?_|fail)
 refine zgs [0,3,12,94,95] [] 96 x.args.length (fun i E J=>∃O L s2 S2 lv2 a,E.at 8=a/\nO c n (x.args.drop i) s2=some (L,V.2)/\V.1=O++L/\RepL X J S2 s2 lv2 vv/\FrL X S vv (H.alloc (.cells x.cells 0 true)) S2 vv J/\RowL S2 vv (H.next+1) J a O/\O.length=i) eE ⟨[],V.1,s,S,lv,.nilS,eE,h1,rfl,R1,cG _ _ _ _,⟨.inl ⟨rfl,rfl⟩,fun k j=>(x3 j).elim⟩,rfl⟩ ?_;rintro i E J hi hcE hrH hnH hsI ⟨O,L,s2,S2,lv2,a,k8,hJ,g,R2,F2,W2,I⟩;(try simp only[zfT,zfB,a0,zfo,zfv,Nat.reduceBEq, *]at hcE);(try simp only[zfB,zfv, *]at hrH);(try simp only[zfw,]at hnH);have n2:H.next+1<=J.next:=hnH
 by_cases hlt:i<x.args.length
 .have hlt':(i:Int)<x.args.length:=by omega
  have hgx:x.args[i]?=some x.args[i]:=aR hlt;rw[gW hlt]at hJ;unfold nO at hJ;simp only[fH,cH]at hJ;obtain⟨e1,he1,r2,hr2,rfl,hr2'⟩:=hJ;generalize x.args[i]=y at *;have hFe:Fin e1.2:=by
   have:=(qn c n _ _ _ hr2).1.le;rw[hr2']at this;exact hFa.le this
  have gb2:=fD Y F2;repeat' (first
   |(apply ah ?_;clear hK K)|apply Ry.o ?_|apply bM ?_|(apply aL (fun hb U=>?_) (fun hb U=>?_)<;>try(cases hb;done))|apply ak ?_|(apply zff fun K hK=>?_)|apply ay ?_|apply zfh ?_|fail)
  refine aU rfl aV aW ?_;simp only[bi];have R2a:=R2.alloc2 (.cells [AV.int .i64 0,.int .i64 0,.str [],.int .i64 0,.nilS] 0 true) (.cells y.cells 0 true);have F2a:=(cG X S2 vv J).alloc2 (.cells [AV.int .i64 0,.int .i64 0,.str [],.int .i64 0,.nilS] 0 true) (.cells y.cells 0 true);refine aS ?_ (qp hG hX n y s2 e1 he1 hFe R2a (cG _ _ _ _));rintro w H3 ⟨rfl,S3,lv3,R3,F3⟩;have F23:=F2a.trans F3;have W3:=W2.fr ac ac F23;have n3:J.next+1<=H3.next:=F3.next
  have R3a:=R3.alloc (.cells [.int .i64 e1.1] 0 true);obtain⟨v5,H5,a5,W5,R5,_,n5,q5,_,_⟩:=W3.app R3a fx (eh _) (fun k j=>hY) e1.1 (r:=H3.next) (imm:=0) kV ac ac;have F5:FrL X S vv (H.alloc (.cells x.cells 0 true)) S3 vv H5:=by
   have F:=F2.trans F23;refine⟨by have:=F.next;simp only[zfw]at n5 this⊢;omega,fun k h1 h2 h3 h4 h5=>?_,F.sub,F.own⟩;rw[q5 k (by simp only[zfw]at h1⊢;omega) (fun e=>by have:=W3.r.lt e;simp only[zfw]at h1;omega),zfk,af (by simp only[zfw]at h1;omega)];exact F.get k h1 h2 h3 h4 h5
  have n5':J.next<=H5.next:=vu
  dsimp only[zfp];repeat' (first
   |(apply ah ?_;clear hK K)|apply Rx.o ?_|(apply zff fun K hK=>?_)|fail)
  refine⟨ac,eL,eL,zf4,Le,?_⟩;exact⟨O++[e1.1],r2.1,e1.2,S3,lv3,v5,eE,by rw[<-hr2'];exact hr2,by rw[g];simp,R5,F5,W5,by simp[I]⟩
 .have hlt':¬(i:Int)<x.args.length:=by omega
  have hd:x.args.drop i=[]:=qq ac;rw[hd]at hJ;simp only[nO,cH]at hJ;obtain⟨hJ1,hJ2⟩:=hJ;subst hJ2;rw[<-hJ1,bi]at g;rw[<-g]at W2 I;clear hd I;have gb2:=fD Y F2;have m2:=R2.m;unfold zfH at m2;have hlF2:=R2.lkF hX x.to Z;have nw2:=R2.new (aE _);have Rb:=R2.alloc (.cells [.int .i64 V.2.state] 0 true);obtain⟨v6,H6,a6,i6,n6,l6,f6,q6⟩:=Jo (H:=J.alloc (.cells [.int .i64 V.2.state] 0 true)) (v:=.sl J.next 0 1 1) (l:=[V.2.state]) (lo:=J.next) ⟨J.next,0,rfl,iH,dZ _,aE _,cI _⟩ (eh _) (W2.r.keep (eh _) fun k j=>by rw[zfk,af (by have:=W2.r.lt j;omega)]) (by rw[happl];simp only[dg,eM];omega);simp only[zfw]at n6 l6 f6 q6;have hf6:∀k,k<J.next->H6.get k=J.get k:=fun k j=>by rw[l6 k j,zfk,af ac]
  have R6:RepL X H6 S2 V.2 lv2 vv:=R2.keep ac fun k h1 _=>hf6 k h1;have F6:FrL X S2 vv J S2 vv H6:=⟨ac,fun k h1 _ _ _ _=>hf6 k h1,fun _ h=>.inl h,fun _ h=>.inl h⟩;have o:∀k,zfU v6 k->J.next<=k:=fun k j=>(i6.lt j).1
  have z:=xZ hG R6 ⟨30,zgz c.funcs x.to 0,V.2.state::V.1⟩ (.inr (by obtain⟨zfK,i0,z1,z2,z3,z4,z5⟩:=i6;exact⟨zfK,i0,z1,z2,z3,dZ _,z5⟩)) (fun k j=>by have:=R2.new (o k j);exact⟨this.2.2,this.1,this.2.1⟩) (by rw[<-hr]at m;exact m.r) hFa.l;have m6:=R6.m;unfold zfH at m6;have mb:=Rb.m;unfold zfH at mb;have hlFb:=Rb.lkF hX x.to Z;have gbb:(J.alloc (.cells [.int .i64 V.2.state] 0 true)).get H.next=some (.cells x.cells 0 true):=by rw[zfk,af ac];exact gb2
  have hlF6:=R6.lkF hX x.to Z;repeat' (first
   |(apply ah ?_;clear hK K)|apply Ry.o ?_|(apply aL (fun hb U=>?_) (fun hb U=>?_)<;>try(cases hb;done))|apply ak ?_|(apply zff fun K hK=>?_)|(apply zfm 22 [(5,15),(5,16),(7,15),(7,16),(8,15),(8,16),(12,15),(13,15)] fun K hK=>?_)|(apply zfx ?_;try intro _)|apply br ?_|apply zfr ?_)
  refine aU rfl aV aW ?_;simp only[gL];refine aS ?_ z;intro w H7 h7;have h7':=h7.val F6 o;rw[hr]at h7';have n67:H6.next<=H7.next:=by obtain⟨_,_,_,_,h,_⟩:=h7;exact h
  clear h7 z;obtain⟨rfl,S7,lv7,R7,F7⟩:=h7';have gb6:H6.get H.next=some (.cells x.cells 0 true):=by rw[hf6 _ ac];exact gb2
  have gb7:=fD Y (F2.trans F7);have m7:=R7.m;unfold zfH at m7;have hlF7:=R7.lkF hX x.to Z;have n7:J.next<=H7.next:=F7.next
  obtain⟨R8,F8⟩:=R7.setS r.1;have gb8:=fD Y (F2.trans (F7.trans F8));have m8:=R8.m;have hlF8:=R8.lkF hX x.to Z;have hlN8:=R8.lkN hX x.name;have hv8:r.2.vars=V.2.vars:=by rw[<-hr];rfl
  have hl8:cp c.names x.name<r.2.vars.length:=by rw[hv8];exact hl
  clear hv8;obtain⟨q,hix,hld,_⟩:=R8.setV hl8 0;have nw8:=R8.new (aE _);have R8a:=R8.alloc (.cells [.int .i64 r.1] 0 true);have z:=EZ hG R8a ((cG _ _ _ _).alloc _) ⟨24,0,[r.1]⟩ rfl iH (aE _) (cI _) nw8.2.2 nw8.1 nw8.2.1 hF rfl rfl;have n8:(H7.set X.b (.cells (zfH X {r.2 with state:=r.1} lv7 vv) 0 true)).next=H7.next:=rfl
  dsimp only[zfH]at R8 F8 gb8 m8 hlF8 hlN8 R8a z hld n8;rw[n8]at z;dsimp only[zfp];repeat' (first
   |apply Rx.o ?_|apply ct ?_|(apply zfm 23 [(3,17),(3,19),(7,17),(7,19),(9,17),(9,19),(10,17),(10,19),(15,17),(16,17)] fun K hK=>?_)|(apply zfx ?_;try intro _)|(apply zfG ?_ ?_<;>clear hK K)|apply br ?_|apply zhC rfl ?_|fail)
  .exact zf6
  .refine aU rfl aV aW ?_;simp only[gL];refine aS ?_ z;rintro w H9 ⟨⟨rfl,S9,lv9,R9,F9⟩,n9'⟩;simp only[zfw,zfI]at n9';have hl9:cp c.names x.name<(zfg ⟨24,0,[r.1]⟩ {r.2 with state:=r.1}).2.vars.length:=hl8;obtain⟨q',C,hld',H10,hst,hq1,hq2,hq3,R10,F10,o10,n10⟩:=R9.setV hl9 (zfg ⟨24,0,[r.1]⟩ {r.2 with state:=r.1}).1;have hqq:q'=q:=by
    rw[hix]at C;simp only[az,AV.ptr.injEq]at C;exact C.1.symm
   subst hqq;have m8a:=R8a.m;have m9:=R9.m;have m10:=R10.m;have hlN8a:=R8a.lkN hX x.name;have hlN9:=R9.lkN hX x.name;have hlN10:=R10.lkN hX x.name;have F89:=F2.trans (F7.trans (F8.trans F9));have gb9:=fD Y F89;have gb8a:=fD Y (F2.trans (F7.trans (F8.alloc (.cells [.int .i64 r.1] 0 true))));have gb10:=fD Y (F89.trans F10);have n9:=F9.next
   dsimp only[zfH]at m8a m9 m10;simp only[zfI]at n9;dsimp only[zfp];repeat' (first
    |apply Rx.o ?_|(apply zfx ?_;try intro _)|apply br ?_|apply zhC rfl ?_|fail)
   refine Dp zhx zhx hst ?_;repeat' (first
    |(apply zfx ?_;try intro _)|(apply zfG ?_ ?_<;>clear hK K)|fail)
   .exact zf6
   .all_goals (refine⟨zfj,_,zfq,?_⟩;try simp only[zfi])
    exact⟨S9,lv9,vv,R10,F1.trans (F89.trans F10)⟩
end
end
section
def tyLoG.tyF:=ad @ej (ad @cN (ad @dH (ad @iD (ad @eQ (ad @iZ (ad @fO (ad @fP (ad @eR (ad @gJ (ad @nG (@pi)))))))))))
open tyLoG
noncomputable def Li:{c:SC // aH 87 (Tryz.f162.body.getD .skip)=c}:=by
 refine⟨?_,?_⟩;rotate_left
 .simp only[Tryz.f162,bS,aH,zfO,zfL,zfR,zfS,Nat.blt,Nat.ble];rfl
structure RowZ (S:Nat->Prop) (vv:AV) (lo:Nat) (H:Hp) (av:AV) (l:List Int):Prop where
 r:ji H av l lo
 n:∀k,zfU av k->¬S k/\¬zfU vv k
theorem ji.lt{H:Hp}{v:AV}{l:List Int}{lo:Nat}(h:ji H v l lo){k:Nat}(j:zfU v k):lo<=k/\k<H.next:=h.n.lt j
theorem ji.lo{H:Hp}{v:AV}{l:List Int}{lo lo':Nat}(h:ji H v l lo)(L:∀k,zfU v k->lo'<=k):ji H v l lo':=by
 rcases h with h|⟨r,i,g,m,O⟩
 .exact .inl h
 .exact .inr ⟨r,i,g,L r ⟨_,i⟩,O⟩
theorem ji.one{H:Hp}{v:AV}{l:List Int}{lo:Nat}(h:ji H v l lo):AV.one v=true/\v.cells=[v]:=by
 rcases h with⟨rfl,_⟩|⟨r,rfl,_⟩<;>exact⟨rfl,rfl⟩
theorem RowZ.fr{X:Lx}{S S':Nat->Prop}{vv Y:AV}{lo:Nat}{H H':Hp}{V:AV}{l:List Int}(h:RowZ S vv lo H V l)(o:X.b<lo)(Z:X.rt<lo)(f:FrL X S vv H S' Y H'):RowZ S' Y lo H' V l:=by
 refine⟨h.r.keep f.next fun k j=>?_,fun k j=>?_⟩
 .have a:=h.r.lt j;have b:=h.n k j;exact f.get k a.2 ac ac b.1 b.2
 .have a:=h.r.lt j;have b:=h.n k j;refine⟨fun e=>?_,fun e=>?_⟩
  .rcases f.sub k e with e|e
   .exact b.1 e
   .omega
  .rcases f.own k e with e|e
   .exact b.2 e
   .omega
theorem RowZ.at{S:Nat->Prop}{vv:AV}{lo:Nat}{H:Hp}{V:AV}{l:List Int}(h:RowZ S vv lo H V l){i:Nat}{x:Int}(I:l[i]?=some x):∃r,zgi Tryz.prog 23 V (.int .i64 (i:Int))=some (.ptr r i)/\iU Tryz.prog H 3 (.ptr r i)=some (.int .i64 x)/\zfU V r:=by
 have O:i<l.length:=by
  by_cases c:i<l.length
  .exact c
  .rw[gI ac]at I;cases I
 rcases h.r with⟨_,rfl⟩|g
 .simp at O
 .obtain⟨r,m,Z⟩:=g.b.at O;rw[aR O]at I;simp only[az]at I;rw[I]at Z;refine⟨r,m,Z,?_⟩;obtain⟨q,e,_⟩:=g;subst e;rw[xh Tryz.underlying23 jy O]at m;simp only[az,AV.ptr.injEq]at m;exact⟨_,by rw[m.1]⟩
theorem Lj{H:Hp}{v:AV}{l:List Int}{lo:Nat}(U:fQ H v l lo)(L:l.length<2^38):∃O H',zgH Tryz.prog false H 23 23 .nilS v=some (O,H')/\ji H' O l H.next/\H.next<=H'.next/\(∀k,k<H.next->H'.get k=H.get k):=by
 by_cases Z:l=[]
 .subst Z;refine⟨.nilS,H,?_,.inl ⟨rfl,rfl⟩,aE _,fun _ _=>rfl⟩;rcases U with⟨rfl,_⟩|⟨r,V,rfl,g,_⟩
  .simp only[zgH,Tryz.underlying23,jy,pe,ph,show zhz Tryz.prog 23=true by kernel_rfl,zhd]
  .have j:=vj g;simp only[eM]at j;simp only[zgH,Tryz.underlying23,jy,pe,ph,show zhz Tryz.prog 23=true by kernel_rfl,eM,j]
 .have C:zhd H 1 v=some (l.length,l.map (.int .i64)):=by
   rcases U with⟨_,h⟩|⟨r,V,rfl,g,_⟩
   .exact(Z h).elim
   .exact vj g
  obtain⟨O,H',i,g,m,Y,_⟩:=Jq (v:=.nilS) (l:=[]) (lo:=H.next) (.inl ⟨rfl,rfl⟩) (aE _) C Z cC;rw[oo]at g;exact⟨O,H',i,.inr g,ac,Y⟩
def Bt(i:List En)(X:Lx)(c:Cx)(n:Nat):Prop:=∀(l:List St) (s r:Bd),eC c n l s=some r->Fin r->zf0 l<2^36->s.vars.length<2^36->∀{H:Hp}{S:Nat->Prop}{lv vv:AV},RepL X H S s lv vv->zfs Tryz.prog (zfn pls i) 88 [.ptr X.b 0,.lst (l.map St.cells)] H (nQ X S vv H r)
section
variable {tb:List En} (hG:LowT tb) {X:Lx} {c:Cx} (hX:CxOk X c) {x:St} {s:Bd} {H:Hp} {S:Nat -> Prop} {lv vv:AV}
set_option maxRecDepth 100000 in
set_option maxHeartbeats 8000000 in
include hG hX in
theorem lif{n:Nat}(IH:Bt tb X c n){r:Int×Bd}{a b m:Bd}(h1:ed c n x.value s=some r)(h2:eC c n x.thn r.2=some a)(h3:eC c n x.els {a with state:=r.2.state,vars:=r.2.vars}=some b)(h4:lU r.1 a.vars b.vars.length 0 b=some m)
 (hF:Fin (zfA r.1 a.state m.state m).2) (hz:x.sz<2^36) (hvl:s.vars.length<2^36) (I:RepL X H S s lv vv) :
 zfs Tryz.prog (zfn pls tb) 162 [.ptr X.b 0,.agg x.cells] H (nQ X S vv H { (zfA r.1 a.state m.state m).2 with state:=(zfA r.1 a.state m.state m).1}):=by
 have hw:Plain (zfn pls tb) 162:=hG.plain dR;have hkeep:(zfn pls tb).keep 162=false:=rfl;have R1:=I.alloc (.cells x.cells 0 true);have F1:=(cG X S vv H).alloc (.cells x.cells 0 true);have hFm:Fin m:=hF.le (zg0 _ _ _ _).le;have hml:=sM _ _ _ _ _ _ h4;have hFb:Fin b:=hFm.le hml.1;have e3:=(kR c n).2.1 _ _ _ h3;have e2:=(kR c n).2.1 _ _ _ h2;have hFa:Fin a:=hFb.le ⟨e3.1.l,e3.1.n⟩;have hFr:Fin r.2:=hFa.le e2.1;have hsz:=x.sz_eq;have o3:=I.o3;have o4:=I.o4;have o5:=I.o5;have hlv:=zgg c n _ _ _ h1;have hrl:r.2.vars.length<2^36:=by rw[hlv.v];exact hvl
 have hbl:b.vars.length<2^36:=by rw[e3.2];exact hrl
 clear e3 e2 hml hlv;refine zfz (M:=87) (rs:=[]) (hw.call _) hw.ice hw.froz Tryz.func162 rfl rfl Li.2 rfl ?_;dsimp only[Li,zft,Nat.reduceAdd];repeat' (first
  |(apply ah ?_;clear hK K)|apply Rx.o ?_|apply ak ?_|(apply zff fun K hK=>?_)|fail)
 refine aU rfl aV aW ?_;simp only[bi];refine aS ?_ (qp hG hX n x.value s r h1 hFr R1 (cG _ _ _ _));rintro w H2 ⟨rfl,S2,lv2,R2,F2⟩;have g2:=fD I F2;have m2:=R2.m;have n2:H.next+1<=H2.next:=F2.next
 obtain⟨cv,H3,a3,c3,n3,q3⟩:=Lj (H:=H2) R2.vars.n ac;have R3:RepL X H3 S2 r.2 lv2 vv:=R2.keep n3 fun k h _=>q3 k h;have F3:FrL X S2 vv H2 S2 vv H3:=⟨n3,fun k h _ _ _ _=>q3 k h,fun _ h=>.inl h,fun _ h=>.inl h⟩;have m3:=R3.m;have g3:H3.get H.next=some (.cells x.cells 0 true):=by rw[q3 _ ac];exact g2
 have z3:RowZ S2 vv (H.next+1) H3 cv r.2.vars:=⟨c3.lo fun k j=>by have:=c3.lt j;omega,fun k j=>by
  have:=R2.new (c3.lt j).1;exact⟨this.1,this.2.1⟩⟩
 obtain⟨hc1,hc2⟩:=c3.one;dsimp only[zfH]at m2 m3;dsimp only[zfp];repeat' (first
  |(apply ah ?_;clear hK K)|apply Rx.o ?_|apply ak ?_|(apply zff fun K hK=>?_)|(apply zfm 2 [(3,8),(3,11),(7,8)] fun K hK=>?_)|(apply zfx ?_;try intro _)|(apply zfG ?_ ?_<;>clear hK K)|apply br ?_|fail)
 .exact zf6
 .refine aU rfl aV aW ?_;simp only[bi];refine aS ?_ (IH x.thn r.2 a h2 hFa ac hrl R3);rintro w H4 ⟨S4,C,L,g,F4⟩;have U:=F2.trans (F3.trans F4);have g4:=fD I U;have z4:=z3.fr ac ac F4;have m4:=g.m;obtain⟨R4s,F4s⟩:=g.setS r.2.state;have m4s:=R4s.m;have zs:=z4.fr (X:=X) ac ac F4s;have R5:=R4s.swapV (vw:=cv) (l:=r.2.vars) (zs.r.lo fun k _=>dZ _) (fun k j=>⟨by have:=zs.r.lt j;omega,(zs.r.lt j).2,(zs.n k j).1⟩);have m5:=R5.m;have hk5:∀k,k≠X.b->((H4.set X.b (.cells (zfH X {a with state:=r.2.state} C L) 0 true)).set X.b (.cells (zfH X {a with state:=r.2.state,vars:=r.2.vars} C cv) 0 true)).get k=H4.get k:=fun k j=>by rw[aQ,af j,aQ,af j]
  have O:FrL X S vv (H.alloc (.cells x.cells 0 true)) S4 cv ((H4.set X.b (.cells (zfH X {a with state:=r.2.state} C L) 0 true)).set X.b (.cells (zfH X {a with state:=r.2.state,vars:=r.2.vars} C cv) 0 true)):=⟨U.next,fun k h1 h2 h3 h4 h5=>by rw[hk5 k h2];exact U.get k h1 h2 h3 h4 h5,U.sub,fun k j=>.inr (z4.r.lt j).1⟩;have g5:=fD I O;have y5:RowZ S4 cv 0 ((H4.set X.b (.cells (zfH X {a with state:=r.2.state} C L) 0 true)).set X.b (.cells (zfH X {a with state:=r.2.state,vars:=r.2.vars} C cv) 0 true)) L a.vars:=⟨g.vars.keep (aE _) fun k j=>hk5 k (by have:=(g.vS k j).1;omega),fun k j=>⟨fun e=>(g.sS k e).2.2 j,fun e=>(z4.n k e).2 j⟩⟩;have y5':RowZ S4 cv (X.b+1) ((H4.set X.b (.cells (zfH X {a with state:=r.2.state} C L) 0 true)).set X.b (.cells (zfH X {a with state:=r.2.state,vars:=r.2.vars} C cv) 0 true)) L a.vars:=⟨y5.r.lo fun k j=>(g.vS k j).1,y5.n⟩;clear y5 hk5 F4s zs z4 z3 F3 U;dsimp only[zfH]at m4 m4s m5 R5 O y5' g5;dsimp only[zfp];repeat' (first
   |(apply ah ?_;clear hK K)|apply Rx.o ?_|apply ct ?_|apply ak ?_|(apply zff fun K hK=>?_)|(apply zfm 4 [(3,10),(7,10)] fun K hK=>?_)|(apply zfx ?_;try intro _)|(apply zfG ?_ ?_<;>clear hK K)|apply br ?_|fail)
  .exact zf6
  .refine aU rfl aV aW ?_;simp only[bi];refine aS ?_ (IH x.els _ b h3 hFb ac hrl R5);rintro w H6 ⟨S6,lv6,V,R6,F6⟩;have J:=O.trans F6;have g6:=fD I J;have y6:=y5'.fr ac ac F6;have m6:=R6.m;have hlen6:=R6.vars.n.len';have n6:H.next+1<=H6.next:=J.next
   clear F6 O R5 R4s g y5' m5 m4s m4 g5 g4;dsimp only[zfH]at m6;dsimp only[zfp];repeat' (first
    |(apply ah ?_;clear hK K)|apply Rx.o ?_|apply ak ?_|(apply zff fun K hK=>?_)|apply ay ?_|fail)
   refine zgs [0,4,7,8,51] [] 52 b.vars.length (fun i E Hi=>∃Y Si lvi,lU r.1 a.vars (b.vars.length-i) i Y=some m/\RepL X Hi Si Y lvi V/\FrL X S vv (H.alloc (.cells x.cells 0 true)) Si V Hi/\RowZ Si V (X.b+1) Hi L a.vars/\Y.vars.length=b.vars.length) eE ⟨b,S6,lv6,h4,R6,J,y6,rfl⟩ ?_;clear m6 g6 R6 J y6 hlen6;rintro i E Hi hi hcE hrH hnH hsI ⟨Y,Si,lvi,o,Ri,Fi,yi,hil⟩;(try simp only[zfT,zfB,a0,zfo,zfv,Nat.reduceBEq, *]at hcE);(try simp only[zfB, *]at hrH);(try simp only[zfw,zfI,zgj,b9,Nat.reduceAdd]at hnH);have mi:=Ri.m;dsimp only[zfH]at mi;have ni:H.next+1<=Hi.next:=Fi.next
   by_cases hlt:i<b.vars.length
   .have hlt':(i:Int)<b.vars.length:=by omega
    obtain⟨k,j⟩:∃k,b.vars.length-i=k+1:=⟨b.vars.length-i-1,ac⟩;have hk2:b.vars.length-(i+1)=k:=ac;rw[j]at o;rw[hk2];unfold lU at o;simp only[fH]at o;obtain⟨xa,hxa,xb,hxb,o⟩:=o;obtain⟨qa,hixa,hlda,hqa⟩:=yi.at hxa;obtain⟨qb,hixb,hldb⟩:=Ri.atV hxb;have hFx:Fin (zfA r.1 xa xb Y).2:=hFm.le ⟨(sM _ _ _ _ _ _ o).1.l,(sM _ _ _ _ _ _ o).1.n⟩;have hx2:(zfA r.1 xa xb Y).2.vars=Y.vars:=(zg0 _ _ _ _).v;have hvx:i<(zfA r.1 xa xb Y).2.vars.length:=by rw[hx2];omega
    repeat' (first
     |(apply ah ?_;clear hK K)|apply Ry.o ?_|(apply aL (fun hb z=>?_) (fun hb z=>?_)<;>try(cases hb;done))|apply ak ?_|(apply zff fun K hK=>?_)|(apply zfm 10 [(3,18),(3,20),(10,18),(14,18),(17,18)] fun K hK=>?_)|(apply zfx ?_;try intro _)|apply br ?_|apply ay ?_|apply zfh ?_|fail)
    refine aU rfl aV aW ?_;simp only[gL];refine aS ?_ (vD hG Ri (cG _ _ _ _) r.1 xa xb hFx);rintro w H7 ⟨rfl,S7,lv7,R7,F7⟩;obtain⟨q',Z,hld',H8,hst,hq1,hq2,hq3,R8,F8,o8,n8⟩:=R7.setV hvx (zfA r.1 xa xb Y).1;have hqq:q'=qb:=by
     rw[hixb]at Z;simp only[az,AV.ptr.injEq]at Z;exact Z.1.symm
    subst hqq;have y7:=yi.fr ac ac F7;have y8:=y7.fr ac ac F8;obtain⟨qa7,ix7,ld7,_⟩:=y7.at hxa;obtain⟨qa8,ix8,ld8,_⟩:=y8.at hxa;rw[hixa]at ix7 ix8;simp only[az,AV.ptr.injEq,a0]at ix7 ix8;subst ix7 ix8;have m7:=R7.m;have m8:=R8.m;have n7:=F7.next
    dsimp only[zfH]at m7 m8;have fin:∀R:Prop,R->R:=fun _ h=>h;clear fin Z hx2;dsimp only[zfp];repeat' (first
     |(apply ah ?_;clear hK K)|apply Rx.o ?_|apply ct ?_|(apply zff fun K hK=>?_)|(apply zfx ?_;try intro _)|(apply zfG ?_ ?_<;>clear hK K)|apply br ?_|apply zhC rfl ?_|fail)
    .exact zf6
    .refine⟨ac,eL,eL,zf4,(by simp only[zfo,Nat.reduceBEq, *];exact zhp (n:=b.vars.length) ac ac),?_⟩;exact⟨_,S7,lv7,o,R8,Fi.trans (F7.trans F8),y8,by rw[jk,(zg0 _ _ _ _).v];exact hil⟩
   .have hlt':¬(i:Int)<b.vars.length:=by omega
    have j:b.vars.length-i=0:=ac;rw[j]at o;simp only[lU,az]at o;subst o;repeat' (first
     |(apply ah ?_;clear hK K)|apply Ry.o ?_|(apply aL (fun hb z=>?_) (fun hb z=>?_)<;>try(cases hb;done))|apply ak ?_|(apply zff fun K hK=>?_)|apply zfr ?_)
    refine aU rfl aV aW ?_;simp only[bi];refine aS ?_ (vD hG Ri (cG _ _ _ _) r.1 a.state Y.state hF);rintro w H7 ⟨rfl,S7,lv7,R7,F7⟩;have m7:=R7.m;dsimp only[zfH]at m7;dsimp only[zfp];repeat' (first
     |(apply ah ?_;clear hK K)|apply Rx.o ?_|apply ct ?_|fail)
    all_goals (refine⟨zfj,_,zfq,?_⟩;try simp only[zfi])
    obtain⟨R8,F8⟩:=R7.setS (zfA r.1 a.state Y.state Y).1;exact⟨S7,lv7,V,R8,F1.trans (Fi.trans (F7.trans F8))⟩
end
end
section
def tyLoH.tyF:=ad @ej (ad @cN (ad @tJ (ad @dH (ad @iD (ad @eQ (ad @iZ (ad @fO (ad @fP (ad @eR (ad @xr (ad @gJ (ad @nG (ad @pi (ad @Bp (@x5)))))))))))))))
open tyLoH
noncomputable def Lk:{c:SC // aH 181 (Tryz.f163.body.getD .skip)=c}:=by
 refine⟨?_,?_⟩;rotate_left
 .simp only[Tryz.f163,bS,aH,zfO,zfL,zfR,zfS,Nat.blt,Nat.ble];rfl
abbrev rE(l:List Nat):List Int:=l.map fun(i:Nat)=>(i:Int)
theorem E6{H:Hp}{r imm m:Nat}{b:List Bool}(J:H.get r=some (.cells (b.map .bool) imm true))(V:m<b.length):iU Tryz.prog H 4 (.ptr r m)=some (.bool (b.getD m false)):=by
 rw[zU Tryz.underlying4 rfl J,fT,dd,aR V];rfl
def ul(b:List Bool)(i:Nat):List Nat:=(List.range i).filter fun i=>b.getD i false
theorem zlR(b:List Bool)(i:Nat):ul b (i+1)=ul b i++(if b.getD i false=true then [i]else []):=by
 unfold ul;rw[List.range_succ,List.filter_append]
 congr 1
 by_cases h:b.getD i false=true
 .rw[aq h];simp only[EX,h,cV,List.filter_nil]
 .rw[af h];simp only[EX,h,List.filter_nil];rfl
theorem E7{b:List Bool}{i:Nat}(h:i∈zgG b):i<b.length:=by
 unfold zgG at h;exact kZ.1 (oX.1 h).1
theorem Ll(b:List Bool)(i:Nat):(ul b i).length<=i:=by
 have:=List.length_filter_le (fun i=>b.getD i false) (List.range i);rw[List.length_range]at this;exact this
theorem RowL.other{S:Nat->Prop}{vv:AV}{lo:Nat}{H H':Hp}{V g:AV}{l:List Int}(h:RowL S vv lo H V l)(z:H.next<=H'.next)(L:∀k,k<H.next->¬zfU g k->H'.get k=H.get k)(hd:∀k,zfU V k->¬zfU g k):RowL S vv lo H' V l:=⟨h.r.keep z fun k j=>L k (h.r.lt j).2 (hd k j),h.n⟩
theorem FrL.other{X:Lx}{M S:Nat->Prop}{z vv g:AV}{zfM H H':Hp}(h:FrL X M z zfM S vv H)(Z:H.next<=H'.next)(L:∀k,k<H.next->¬zfU g k->H'.get k=H.get k)(Y:∀k,zfU g k->zfM.next<=k):FrL X M z zfM S vv H':=
 ⟨cJ h.next Z,fun k i V m O K=>by rw[L k (nr i h.next) fun e=>by have:=Y k e;omega];exact h.get k i V m O K,h.sub,h.own⟩
theorem RowL.app1{X:Lx}{S:Nat->Prop}{s:Bd}{J vv:AV}{lo:Nat}{H:Hp}{g:AV}{l:List Int}(h:RowL S vv lo H g l)(V:RepL X H S s J vv)(z:lo<=H.next)(x:Int)(o:X.b<lo)(L:l.length<2^39):
 ∃O H',zgH Tryz.prog false (H.alloc (.cells [.int .i64 x] 0 true)) 23 23 g (.sl H.next 0 1 1)=some (O,H')/\RowL S vv lo H' O (l++[x])/\RepL X H' S s J vv/\H.next<=H'.next/\(∀k,k<H.next->¬zfU g k->H'.get k=H.get k)/\(∀k,zfU O k->zfU g k\/H.next<=k):=by
 obtain⟨O,H',C,K,M,_,I,Z,Y,_⟩:=h.app (V.alloc (.cells [.int .i64 x] 0 true)) fx (eh _) (fun k j=>hY) x (r:=H.next) (imm:=0) kV o L;simp only[zfw]at I Z Y;exact⟨O,H',C,K,M,ac,fun k i U=>by rw[Z k ac U,zfk,af ac],fun k j=>by
  rcases Y k j with e|e
  .exact .inl e
  .exact .inr ac⟩
theorem RowL.at{S:Nat->Prop}{vv:AV}{lo:Nat}{H:Hp}{V:AV}{l:List Int}(h:RowL S vv lo H V l){i:Nat}{x:Int}(I:l[i]?=some x):∃r,zgi Tryz.prog 23 V (.int .i64 (i:Int))=some (.ptr r i)/\iU Tryz.prog H 3 (.ptr r i)=some (.int .i64 x):=by
 have O:i<l.length:=by
  by_cases c:i<l.length
  .exact c
  .rw[gI ac]at I;cases I
 rcases h.r with⟨_,rfl⟩|g
 .simp at O
 .obtain⟨r,m,Z⟩:=g.at O;rw[aR O]at I;simp only[az]at I;rw[I]at Z;exact⟨r,m,Z⟩
theorem Lm{L j:Nat}(o:L<2^36)(Y:j<2^36):IntKind.wrap .i64 (16*(L:Int))=16*(L:Int)/\IntKind.wrap .i64 (16*(L:Int)+j)=16*(L:Int)+j/\IntKind.wrap .i64 (16*(L:Int)+j+1)=16*(L:Int)+1+j:=by
 refine⟨zhb ac ac,zhb ac ac,?_⟩;rw[zhb ac ac];omega
theorem Ln(base:Int)(w:Nat)(U:List Nat)(j:Nat)(s:Bd):ik base (w::U) j s=ik base U (j+1) { (zfg ⟨3,base+j,[]⟩ s).2 with vars:=(zfg ⟨3,base+j,[]⟩ s).2.vars.set w (zfg ⟨3,base+j,[]⟩ s).1}:=rfl
theorem Bu(lp c:Int)(old:List Int)(w:Nat)(U:List Nat)(j:Nat)(s:Bd):fB lp c old (w::U) j s=fB lp c old U (j+1) { (zfA c (zfg ⟨25,j,[lp]⟩ s).1 (old.getD w 0) (zfg ⟨25,j,[lp]⟩ s).2).2 with vars:=(zfA c (zfg ⟨25,j,[lp]⟩ s).1 (old.getD w 0) (zfg ⟨25,j,[lp]⟩ s).2).2.vars.set w (zfA c (zfg ⟨25,j,[lp]⟩ s).1 (old.getD w 0) (zfg ⟨25,j,[lp]⟩ s).2).1}:=rfl
theorem E8(c a b:Int)(s:Bd)(v:List Int):zfA c a b {s with vars:=v}=((zfA c a b s).1,{ (zfA c a b s).2 with vars:=v}):=by
 unfold zfA;split<;>rfl
theorem Lp(lp c:Int)(old:List Int):∀(U:List Nat) (j:Nat) (s:Bd) (v w:List Int),v.length=w.length->(∀i,i∉U->v[i]?=w[i]?)->fB lp c old U j {s with vars:=v}=fB lp c old U j {s with vars:=w}
 |[],j,s,v,w,hl,h=>by
  have:v=w:=D1 fun i=>h i Ky;rw[this]
 |a::U,j,s,v,w,hl,h=>by
  rw[Bu,Bu];have p:∀v,zfg ⟨25,j,[lp]⟩ {s with vars:=v}=((zfg ⟨25,j,[lp]⟩ s).1,{ (zfg ⟨25,j,[lp]⟩ s).2 with vars:=v}):=fun v=>rfl;rw[p v,p w];simp only[];rw[E8 c _ _ (zfg ⟨25,j,[lp]⟩ s).2 v,E8 c _ _ (zfg ⟨25,j,[lp]⟩ s).2 w];refine Lp lp c old U (j+1) (zfA c (zfg ⟨25,j,[lp]⟩ s).1 (old.getD a 0) (zfg ⟨25,j,[lp]⟩ s).2).2 (v.set a (zfA c (zfg ⟨25,j,[lp]⟩ s).1 (old.getD a 0) (zfg ⟨25,j,[lp]⟩ s).2).1) (w.set a (zfA c (zfg ⟨25,j,[lp]⟩ s).1 (old.getD a 0) (zfg ⟨25,j,[lp]⟩ s).2).1) (by rw[jk,jk,hl]) fun i I=>?_;rw[mL,mL,hl];by_cases e:a=i
  .rw[aq e,aq e]
  .rw[af e,af e];exact h i (by rw[eP,not_or];exact⟨fun q=>e q.symm,I⟩)
theorem zlS(b:List Bool):(zgG b).Nodup:=List.nodup_range.filter _
section
variable {tb:List En} (hG:LowT tb) {X:Lx} {c:Cx} (hX:CxOk X c) {x:St} {s:Bd} {H:Hp} {S:Nat -> Prop} {lv vv:AV}
set_option maxRecDepth 100000 in
set_option maxHeartbeats 8000000 in
include hG hX in
theorem lwh{n:Nat}(IH:Bt tb X c n){r:Int×Bd}{b:List Bool}{t:Bd}{d:Int×Bd}(h1:ed c n x.value {s with loops:=s.loops+1}=some r)(h2:f0 c.names n x.thn (List.replicate r.2.vars.length false)=some b)
 (h3:eC c n x.thn (ik (16*(s.loops:Int)+1) (zgG b) 0 { (zfg ⟨3,16*(s.loops:Int),[]⟩ r.2).2 with state:=(zfg ⟨3,16*(s.loops:Int),[]⟩ r.2).1})=some t) (h4:ed c n x.value t=some d)
 {k:Int×Bd} (Z:zfg ⟨31,s.loops,r.2.state::((zgG b).map fun i=>r.2.vars.getD i 0)++[d.1,d.2.state]++((zgG b).map fun i=>d.2.vars.getD i 0)⟩ d.2=k)
 {m:Int×Bd} (hm:zfA r.1 (zfg ⟨25,0,[k.1]⟩ {k.2 with vars:=r.2.vars}).1 r.2.state (zfg ⟨25,0,[k.1]⟩ {k.2 with vars:=r.2.vars}).2=m)
 (hF:Fin (fB k.1 r.1 r.2.vars (zgG b) 1 {m.2 with state:=m.1})) (hz:x.sz<2^36) (hvl:s.vars.length<2^36) (hout:∀i,i∉zgG b->d.2.vars[i]?=r.2.vars[i]?) (hR:RepL X H S s lv vv) :
 zfs Tryz.prog (zfn pls tb) 163 [.ptr X.b 0,.agg x.cells] H (nQ X S vv H (fB k.1 r.1 r.2.vars (zgG b) 1 {m.2 with state:=m.1})):=by
 have hw:Plain (zfn pls tb) 163:=hG.plain dR;have hkeep:(zfn pls tb).keep 163=false:=rfl;have R1:=hR.alloc (.cells x.cells 0 true);have F1:=(cG X S vv H).alloc (.cells x.cells 0 true);have hmm:m=((zfA r.1 (zfg ⟨25,0,[k.1]⟩ k.2).1 r.2.state (zfg ⟨25,0,[k.1]⟩ k.2).2).1,{ (zfA r.1 (zfg ⟨25,0,[k.1]⟩ k.2).1 r.2.state (zfg ⟨25,0,[k.1]⟩ k.2).2).2 with vars:=r.2.vars}):=by
  rw[<-hm];exact E8 _ _ _ (zfg ⟨25,0,[k.1]⟩ k.2).2 r.2.vars
 have hdl0:d.2.vars.length=r.2.vars.length:=by
  rw[(zgg c n _ _ _ h4).v,((kR c n).2.1 _ _ _ h3).2,(pA _ _ _ _).2.2.1];rfl
 generalize hm':zfA r.1 (zfg ⟨25,0,[k.1]⟩ k.2).1 r.2.state (zfg ⟨25,0,[k.1]⟩ k.2).2=m' at hmm;have hm'v:m'.2.vars=d.2.vars:=by rw[<-hm',(zg0 _ _ _ _).v,<-Z];rfl
 have hspec:fB k.1 r.1 r.2.vars (zgG b) 1 {m.2 with state:=m.1}=fB k.1 r.1 r.2.vars (zgG b) 1 {m'.2 with state:=m'.1}:=by
  have h:=Lp k.1 r.1 r.2.vars (zgG b) 1 {m'.2 with state:=m'.1} r.2.vars d.2.vars hdl0.symm (fun i hi=>(hout i hi).symm);rw[hmm];rw[<-hm'v]at h;exact h
 rw[hspec]at hF⊢;clear hspec hmm hm m hout;have hFm':Fin m'.2:=hF.le ⟨(rx _ _ _ _ _ {m'.2 with state:=m'.1}).1.l,(rx _ _ _ _ _ {m'.2 with state:=m'.1}).1.n⟩;have hFf':Fin (zfg ⟨25,0,[k.1]⟩ k.2).2:=by rw[<-hm']at hFm';exact hFm'.le (zg0 _ _ _ _).le
 have hFk:Fin k.2:=hFf'.le (zgd _ _).le;have hFd:Fin d.2:=by rw[<-Z]at hFk;exact hFk.le (zgd _ _).le
 have hFt:Fin t:=hFd.le (zgg c n _ _ _ h4).le;have e3:=(kR c n).2.1 _ _ _ h3;have hFl:=hFt.le e3.1;have hFp:Fin (zfg ⟨3,16*(s.loops:Int),[]⟩ r.2).2:=hFl.le ⟨(pA _ _ _ { (zfg ⟨3,16*(s.loops:Int),[]⟩ r.2).2 with state:=(zfg ⟨3,16*(s.loops:Int),[]⟩ r.2).1}).1.l,(pA _ _ _ { (zfg ⟨3,16*(s.loops:Int),[]⟩ r.2).2 with state:=(zfg ⟨3,16*(s.loops:Int),[]⟩ r.2).1}).1.n⟩;have hFr:Fin r.2:=hFp.le (zgd _ _).le;have hlv:=zgg c n _ _ _ h1;have hrl:r.2.vars.length<2^36:=by rw[hlv.v];exact hvl
 have hln:s.loops<2^36:=uc (eh _) (by have:=hFr.n;rw[hlv.n]at this;exact this);have hbl:b.length=r.2.vars.length:=by rw[uk _ _ _ _ _ h2,pZ]
 have hdl:d.2.vars.length=r.2.vars.length:=by
  rw[(zgg c n _ _ _ h4).v,e3.2,(pA _ _ _ _).2.2.1];rfl
 have hsz:=x.sz_eq;have o3:=hR.o3;have o4:=hR.o4;have o5:=hR.o5;clear hlv e3;have zfJ:=R1.m;obtain⟨R1s,F1s⟩:=R1.setN (s.loops+1);have m1s:=R1s.m;have g1s:=fD hR F1s;have eL1:IntKind.wrap .i64 ((s.loops:Int)+1)=((s.loops+1:Nat):Int):=zhe ac;have F01:=F1.trans F1s;dsimp only[zfH]at zfJ m1s R1s F1s g1s F01;refine zfz (M:=181) (rs:=[]) (hw.call _) hw.ice hw.froz Tryz.func163 rfl rfl Lk.2 rfl ?_;dsimp only[Lk,zft,Nat.reduceAdd];repeat' (first
  |(apply ah ?_;clear hK K)|apply Rx.o ?_|apply ct ?_|apply ak ?_|(apply zff fun K hK=>?_)|fail)
 refine aU rfl aV aW ?_;simp only[bi];refine aS ?_ (qp hG hX n x.value _ r h1 hFr R1s (cG _ _ _ _));rintro w J ⟨rfl,S2,lv2,R2,F2⟩;have F02:=F1s.trans F2;have g2:=fD hR F02;have m2:=R2.m;have n2:H.next+1<=J.next:=F02.next
 have hl2:=R2.vars.n.len';have hmk:∀H:Hp,zhT Tryz.prog H 84 (.int .i64 r.2.vars.length) (.int .i64 r.2.vars.length)=some (.sl H.next 0 r.2.vars.length 1,H.alloc (.cells ((List.replicate r.2.vars.length false).map .bool) 0 true)):=fun H=>D8 _ ac;have nw2:=R2.new (aE _);have R3:=R2.alloc (.cells ((List.replicate r.2.vars.length false).map .bool) 0 true);have g3:(J.alloc (.cells ((List.replicate r.2.vars.length false).map .bool) 0 true)).get H.next=some (.cells x.cells 0 true):=by rw[zfk,af ac];exact g2
 clear R1 R1s zfJ m1s g1s;dsimp only[zfH]at m2;dsimp only[zfp];repeat' (first
  |(apply ah ?_;clear hK K)|apply Rx.o ?_|apply ak ?_|(apply zff fun K hK=>?_)|fail)
 refine aU rfl aV aW ?_;simp only[bi];have hrep:(List.replicate r.2.vars.length false).length=r.2.vars.length:=pZ;have hasg:=EY hG hX (n+1) n (cI _) x.thn _ b h2 ac R3 (q:=J.next) kV nw2.2.2 (cI _) nw2.1 nw2.2.1;rw[hrep]at hasg;refine aS ?_ hasg;clear hasg;rintro w H3 ⟨gb3,n3,q3⟩;simp only[zfw]at n3 q3;have hq3:∀k,k<J.next->H3.get k=J.get k:=fun k Z=>by rw[q3 k ac ac,zfk,af ac]
 have R4:RepL X H3 S2 r.2 lv2 vv:=R2.keep ac fun k Z _=>hq3 k Z;have F03:FrL X S vv (H.alloc (.cells x.cells 0 true)) S2 vv H3:=F02.trans ⟨ac,fun k Z _ _ _ _=>hq3 k Z,fun _ h=>.inl h,fun _ h=>.inl h⟩;clear q3 R3 g3;dsimp only[zfp];repeat' (first
  |(apply ah ?_;clear hK K)|apply Rx.o ?_|apply ak ?_|(apply zff fun K hK=>?_)|apply ay ?_|fail)
 refine zgs [0,3,4,5,6,46] [] 47 r.2.vars.length (fun i E Hi=>∃a,E.at 7=a/\fQ Hi a (rE (ul b i)) (J.next+1)/\Sm (J.next+1) H3 Hi) eE ⟨.nilS,eE,.inl ⟨rfl,rfl⟩,⟨fun _ _=>rfl⟩⟩ ?_;rintro i E Hi hi hcE hrH hnH hsI ⟨a,k7,ha,hsm⟩;(try simp only[zfT,zfB,a0,zfo,zfv,Nat.reduceBEq, *]at hcE);(try simp only[zfB, *]at hrH);(try simp only[zfw,zfI,zgj,b9,Nat.reduceAdd]at hnH);by_cases O:i<r.2.vars.length
 .have hlt':(i:Int)<r.2.vars.length:=by omega
  have gbi:Hi.get J.next=some (.cells (b.map .bool) 0 true):=by rw[hsm.get _ ac];exact gb3
  have hix:=vF (q:=J.next) O;have hld:=E6 gbi (m:=i) ac;have hws:=zlR b i;have hwl:=Ll b i;cases hbi:b.getD i false with
  |true=>
   rw[hbi]at hld;rw[hbi,aq rfl]at hws;obtain⟨v5,H5,a5,s5,n5,f5,o5'⟩:=xE (H:=Hi.alloc (.cells [.int .i64 (i:Int)] 0 true)) (i:Int) (ha.keep (H':=Hi.alloc (.cells [.int .i64 (i:Int)] 0 true)) (eh _) fun k Z=>by rw[zfk,af (by have:=(ha.lt Z).2;omega)]) fx (r:=Hi.next) (imm:=0) kV (by simp only[cO];omega);have n5':Hi.next<=H5.next:=vu
   repeat' (first
    |(apply ah ?_;clear hK K)|apply Ry.o ?_|(apply aL (fun L z=>?_) (fun L z=>?_)<;>try(cases L;done))|apply ak ?_|(apply zff fun K hK=>?_)|apply ay ?_|apply zfh ?_|fail)
   refine⟨ac,eL,eL,zf4,Lf,?_⟩;exact⟨v5,eE,.inr (by rw[hws];simpa using s5),⟨fun k Z=>by rw[f5 k Z,zfk,af ac];exact hsm.get k Z⟩⟩
  |false=>
   rw[hbi]at hld;rw[hbi,af au,bi]at hws;repeat' (first
    |(apply ah ?_;clear hK K)|apply Ry.o ?_|(apply aL (fun L z=>?_) (fun L z=>?_)<;>try(cases L;done))|apply ak ?_|(apply zff fun K hK=>?_)|apply ay ?_|apply zfh ?_|fail)
   refine⟨ac,eL,eL,zf4,Lf,?_⟩;exact⟨a,eE,by rw[hws];exact ha,hsm⟩
 .have hlt':¬(i:Int)<r.2.vars.length:=by omega
  have hie:ul b i=zgG b:=by rw[zgG,hbl,show i=r.2.vars.length by omega];rfl
  rw[hie]at ha;have hwm:∀j∈zgG b,j<r.2.vars.length:=fun j hj=>by have:=E7 hj;omega
  have hwl:(zgG b).length<2^36:=by have:=Ll b b.length;have e:ul b b.length=zgG b:=rfl;rw[e]at this;omega
  have hnd:=zlS b;generalize zgG b=U at *;clear hie gb3 h2 hbl;have hi3:∀k,k<J.next+1->Hi.get k=H3.get k:=hsm.get
  have Ri:RepL X Hi S2 r.2 lv2 vv:=R4.keep hnH fun k Z h=>by
   refine hi3 k ?_;rcases h with h|h|h
   .have:=nw2.2.2;omega
   .have:=(R2.sS k h).2.1;omega
   .have:=(R2.vS k h).2;omega
  have W:RowL S2 vv (J.next+1) Hi a (rE U):=⟨ha,fun k Z=>by
   have:=R2.new (r:=k) (by have:=(ha.lt Z).1;omega);exact⟨this.1,this.2.1⟩⟩
  have Fi:FrL X S vv (H.alloc (.cells x.cells 0 true)) S2 vv Hi:=F02.trans ⟨ac,fun k Z _ _ _ _=>by rw[hi3 k ac];exact hq3 k Z,fun _ h=>.inl h,fun _ h=>.inl h⟩;have gi:=fD hR Fi;have mi:=Ri.m;have ni:H.next+1<=Hi.next:=Fi.next
  clear hsm R4 F03 F02 hi3 ha nw2 hq3 R2 m2 g2;have ew:=(Lm hln (j:=0) ac).1;have Rb:=Ri.alloc (.cells [.int .i64 r.2.state] 0 true);have Fb:=Fi.alloc (.cells [.int .i64 r.2.state] 0 true);have gb:=fD hR Fb;dsimp only[zfH]at mi;repeat' (first
   |(apply ah ?_;clear hK K)|apply Ry.o ?_|(apply aL (fun L z=>?_) (fun L z=>?_)<;>try(cases L;done))|apply ak ?_|(apply zff fun K hK=>?_)|apply zfr ?_)
  refine aU rfl aV aW ?_;simp only[bi];refine aS ?_ (x4 hG Rb (cG _ _ _ _) 3 (16*(s.loops:Int)) hFp);generalize hp:zfg ⟨3,16*(s.loops:Int),[]⟩ r.2=p at *;have hpv:p.2.vars=r.2.vars:=by rw[<-hp];rfl
  rintro w H5 ⟨rfl,S5,lv5,R5,F5⟩;have W5:RowL S5 vv (J.next+1) H5 a (rE U):=RowL.fr (X:=X) (H:=Hi.alloc (.cells [.int .i64 r.2.state] 0 true)) ⟨W.r.keep (eh _) fun k Z=>by rw[zfk,af (by have:=(W.r.lt Z).2;omega)],W.n⟩ ac ac F5;have V5:RowL S5 vv (J.next+1) H5 (.sl Hi.next 0 1 1) [r.2.state]:=RowL.fr (X:=X) (H:=Hi.alloc (.cells [.int .i64 r.2.state] 0 true)) (S:=S2) (vv:=vv) ⟨.inr ⟨Hi.next,0,rfl,iH,dZ _,ac,cI _⟩,fun k Z=>by
   have:=Ri.new (r:=k) (by rw[vB Z];exact aE _);exact⟨this.1,this.2.1⟩⟩ ac ac F5
  have d5:∀k,zfU a k->¬zfU (.sl Hi.next 0 1 1) k:=fun k h1 h2=>by
   have:=(W.r.lt h1).2;rw[vB h2]at this;omega
  have m5:=R5.m;obtain⟨R6,F6⟩:=R5.setS p.1;have F06:=Fb.trans (F5.trans F6);have W6:=W5.fr (X:=X) ac ac F6;have V6:=V5.fr (X:=X) ac ac F6;have l6:=fun H'=>W5.r.len' (H':=H');have g6:=fD hR F06;have n6:J.next+1<=H5.next:=by have:=F5.next;simp only[zfw]at this;omega
  clear R5 F5 Rb gb W5 V5 Ri W gi mi Fi Fb;dsimp only[zfH]at m5 R6 F06 W6 V6 g6;rw[cO]at l6;dsimp only[zfp];repeat' (first
   |(apply ah ?_;clear hK K)|apply Rx.o ?_|apply ct ?_|apply ak ?_|(apply zff fun K hK=>?_)|apply ay ?_|fail)
  have hdl1:∀j,j<U.length->r.2.vars[U.getD j 0]?=some (r.2.vars.getD (U.getD j 0) 0):=fun j hj=>by
   have:U.getD j 0<r.2.vars.length:=hwm _ (by rw[dd,aR hj];exact dI hj);generalize U.getD j 0=q at *;rw[dd,aR this];rfl
  have haw:∀j,j<U.length->(rE U)[j]?=some ((U.getD j 0:Nat):Int):=fun j hj=>by
   rw[fT,dd,aR hj];rfl
  have hdr:∀j,j<U.length->U.drop j=U.getD j 0::U.drop (j+1):=fun j hj=>by rw[gW hj,dd,aR hj];rfl
  have htk:∀j,j<U.length->U.take (j+1)=U.take j++[U.getD j 0]:=fun j hj=>by rw[oA,dd,aR hj];rfl
  have hnt:∀j,j<U.length->U.getD j 0∉U.take j:=fun j hj hm=>by
   have h:=hnd;rw[<-CF j U,hdr j hj,List.nodup_append]at h;exact h.2.2 _ hm _ dJ rfl
  refine zgs [0,3,4,5,7,71,72] [] 73 U.length (fun j E Hj=>∃wv I Sj lvj,E.at 9=wv/\ik (16*(s.loops:Int)+1) (U.drop j) j I=ik (16*(s.loops:Int)+1) U 0 {p.2 with state:=p.1} /\ I.loops=r.2.loops/\I.vars.length=r.2.vars.length/\(∀i,i∉U.take j->I.vars[i]?=r.2.vars[i]?)/\RepL X Hj Sj I lvj vv/\FrL X S vv (H.alloc (.cells x.cells 0 true)) Sj vv Hj/\RowL Sj vv (J.next+1) Hj a (rE U)/\RowL Sj vv (J.next+1) Hj wv (r.2.state::(U.take j).map fun i=>r.2.vars.getD i 0)/\∀k,zfU a k->¬zfU wv k) eE ⟨_,_,S5,lv5,eE,by rw[fo],by rw[<-hp];rfl,by rw[<-hp];rfl,fun i _=>by rw[<-hp];rfl,R6,F06,W6,V6,d5⟩ ?_;clear R6 F06 W6 V6 d5 m5 g6;rintro j E Hj hj hcE hrH hnH hsI ⟨wv,I,Sj,lvj,k9,hJ,hjl,hjv,hjo,Rj,Fj,g,C,dj⟩;(try simp only[zfT,zfB,a0,zfo,zfv,Nat.reduceBEq, *]at hcE);(try simp only[zfB,zfv, *]at hrH);(try simp only[zfI,]at hnH);have mj:=Rj.m;dsimp only[zfH]at mj;have nj:J.next+1<=Hj.next:=cJ n6 hnH
  by_cases O:j<U.length
  .have hlt':(j:Int)<U.length:=by omega
   have hwj:=haw j O;have hvj:=hdl1 j O;have hnj:=hnt j O;have htj:=htk j O;have hwl1:U.getD j 0<I.vars.length:=by rw[hjv];exact hwm _ Ld
   rw[hdr j O]at hJ;rw[Ln]at hJ;rw[<-hjo _ hnj]at hvj;rw[htj];generalize U.getD j 0=w at *;generalize hy:r.2.vars.getD w 0=y at *;obtain⟨qa,ixa,lda⟩:=g.at hwj;obtain⟨qv,ixv,ldv⟩:=Rj.atV hvj;obtain⟨e1,e2,e3⟩:=Lm hln (j:=j) ac;obtain⟨v',H',a1,W',R',n',q',own'⟩:=C.app1 Rj nj y ac (by simp only[dg,cO,jR];omega);have A':=g.other n' q' dj;have F':=Fj.other n' q' (fun k Z=>by have:=(C.r.lt Z).1;simp only[zfw];omega);have d':∀k,zfU a k->¬zfU v' k:=fun k h1 h2=>by
    rcases own' k h2 with e|e
    .exact dj k h1 e
    .have:=(g.r.lt h1).2;omega
   have m':=R'.m;have hFx:Fin (zfg ⟨3,16*(s.loops:Int)+1+j,[]⟩ I).2:=hFl.le (by rw[<-hJ];exact((oM _).setV _).trans (pA _ _ _ _).1);have V:=x4 hG R' (cG _ _ _ _) 3 (16*(s.loops:Int)+1+j) hFx;dsimp only[zfH]at m';clear dj g C q' own' Rj hvj;repeat' (first
    |(apply ah ?_;clear hK K)|apply Ry.o ?_|(apply aL (fun L z=>?_) (fun L z=>?_)<;>try(cases L;done))|apply ak ?_|(apply zff fun K hK=>?_)|(apply zfm 19 [(3,11),(3,13)] fun K hK=>?_)|(apply zfx ?_;try intro _)|apply br ?_|apply ay ?_|apply zfh ?_|fail)
   refine aU rfl aV aW ?_;simp only[gL];refine aS ?_ V;generalize hpu:zfg ⟨3,16*(s.loops:Int)+1+j,[]⟩ I=pu at *;have hpuv:pu.2.vars=I.vars:=by rw[<-hpu];rfl
   have hpul:pu.2.loops=I.loops:=by rw[<-hpu];rfl
   have hwl2:w<pu.2.vars.length:=by rw[hpuv];exact hwl1
   rintro u H7 ⟨rfl,S7,lv7,R7,F7⟩;obtain⟨q',Y,hld',H8,hst,hq1,hq2,hq3,R8,F8,o8,n8⟩:=R7.setV hwl2 pu.1;have hqq:q'=qv:=by
    rw[ixv]at Y;simp only[az,AV.ptr.injEq]at Y;exact Y.1.symm
   subst hqq;have A8:=(A'.fr (X:=X) ac ac F7).fr (X:=X) ac ac F8;have W8:=(W'.fr (X:=X) ac ac F7).fr (X:=X) ac ac F8;have F08:=F'.trans (F7.trans F8);have m7:=R7.m;have m8:=R8.m;have n7:=F7.next
   have nj8:Hj.next<=H8.next:=ac
   have hjv':(pu.2.vars.set w pu.1).length=r.2.vars.length:=by rw[jk,hpuv];exact hjv
   have hjo':∀i,i∉U.take j++[w]->(pu.2.vars.set w pu.1)[i]?=r.2.vars[i]?:=fun i hi=>by
    rw[pM,not_or,AK]at hi;rw[mL,af (fun e=>hi.2 e.symm),hpuv];exact hjo i hi.1
   have hjl':pu.2.loops=r.2.loops:=by rw[hpul];exact hjl
   have hmap:(r.2.state::(U.take j).map fun i=>r.2.vars.getD i 0)++[y]=r.2.state::(U.take j++[w]).map fun i=>r.2.vars.getD i 0:=by rw[r0,dE,p8,hy];rfl
   rw[hmap]at W8;clear hpuv hpul hmap hjo hjv hjl Y A' W' F' hpu hld';dsimp only[zfH]at m7 m8;dsimp only[zfp];repeat' (first
    |(apply ah ?_;clear hK K)|apply Rx.o ?_|apply ct ?_|(apply zff fun K hK=>?_)|(apply zfx ?_;try intro _)|(apply zfG ?_ ?_<;>clear hK K)|apply br ?_|apply zhC rfl ?_|fail)
   .exact zf6
   .refine⟨ac,eL,eL,zf4,Lg,?_⟩;exact⟨v',_,S7,lv7,eE,hJ,hjl',hjv',hjo',R8,F08,A8,W8,d'⟩
  .have hlt':¬(j:Int)<U.length:=by omega
   have hd:U.drop j=[]:=qq ac;have ht:U.take j=U:=fN ac;rw[hd]at hJ;rw[ht]at C;have hJ:I=ik (16*(s.loops:Int)+1) U 0 {p.2 with state:=p.1}:=hJ;rw[<-hJ]at hFl h3;have gj:=fD hR Fj;have nj2:H.next+1<=Hj.next:=Fj.next
   clear hJ hd ht hjo;repeat' (first
    |(apply ah ?_;clear hK K)|apply Ry.o ?_|(apply aL (fun L z=>?_) (fun L z=>?_)<;>try(cases L;done))|apply ak ?_|(apply zff fun K hK=>?_)|apply zfr ?_)
   refine aU rfl aV aW ?_;simp only[bi];refine aS ?_ (IH x.thn I t h3 hFt ac ac Rj);rintro u H6 ⟨S6,lv6,o,R6,F6⟩;have A6:=g.fr (X:=X) ac ac F6;have W6:=C.fr (X:=X) ac ac F6;have F06:=Fj.trans F6;have nj6:J.next+1<=H6.next:=cJ nj F6.next
   have g6:=fD hR F06;clear Rj Fj g C F6 gj mj;dsimp only[zfp];repeat' (first
    |(apply ah ?_;clear hK K)|apply Rx.o ?_|apply ak ?_|(apply zff fun K hK=>?_)|fail)
   refine aU rfl aV aW ?_;simp only[bi];refine aS ?_ (qp hG hX n x.value t d h4 hFd R6 (cG _ _ _ _));rintro u H7 ⟨rfl,S7,lv7,R7,F7⟩;have A7:=A6.fr (X:=X) ac ac F7;have W7:=W6.fr (X:=X) ac ac F7;have F07:=F06.trans F7;have m7:=R7.m;have n7:H.next+1<=H7.next:=F07.next
   have nj7:J.next+1<=H7.next:=cJ nj6 F7.next
   clear R6 F06 A6 W6 F7 g6;dsimp only[zfH]at m7;dsimp only[zfp];have Rs:=R7.alloc (.cells [.int .i64 d.1,.int .i64 d.2.state] 0 true);have Ws:RowL S7 o (J.next+1) (H7.alloc (.cells [.int .i64 d.1,.int .i64 d.2.state] 0 true)) wv (r.2.state::U.map fun i=>r.2.vars.getD i 0):=⟨W7.r.keep (eh _) fun k Z=>by rw[zfk,af (by have:=(W7.r.lt Z).2;omega)],W7.n⟩;have hwlen:(r.2.state::U.map fun i=>r.2.vars.getD i 0).length<2^37:=by simp only[dg,cO];omega
   obtain⟨cv,H8,a8,c8,n8,q8⟩:=Lj Ws.r ac;simp only[zfw]at c8 n8 q8;have c8b:gM H8 cv (r.2.state::U.map fun i=>r.2.vars.getD i 0) (H7.next+1):=by
    rcases c8 with⟨_,h⟩|h
    .simp at h
    .exact h.b
   have g8s:H8.get H7.next=some (.cells [.int .i64 d.1,.int .i64 d.2.state] 0 true):=by rw[q8 _ ac,zfk,aq rfl]
   obtain⟨kv,H9,a9,c9,n9,l9,f9,o9⟩:=Jo (m:=[d.1,d.2.state]) (w:=.sl H7.next 0 2 1) (lo':=0) c8b n8 (.inr ⟨H7.next,0,rfl,g8s,au,dZ _,ac⟩) (by simp only[dg,eM]at hwlen⊢;omega);have hq9:∀k,k<H7.next->H9.get k=H7.get k:=fun k Z=>by rw[l9 k ac,q8 k ac,zfk,af ac]
   have n79:H7.next<=H9.next:=ac
   have R9:RepL X H9 S7 d.2 lv7 o:=R7.keep n79 fun k h _=>hq9 k h;have F9:FrL X S7 o H7 S7 o H9:=⟨n79,fun k h _ _ _ _=>hq9 k h,fun _ h=>.inl h,fun _ h=>.inl h⟩;have A9:=A7.fr (X:=X) ac ac F9;have W9:=W7.fr (X:=X) ac ac F9;have K9:RowL S7 o (J.next+1) H9 kv (r.2.state::(U.map fun i=>r.2.vars.getD i 0)++[d.1,d.2.state]):=⟨.inr (by obtain⟨zfK,i0,z1,z2,z3,z4,z5⟩:=c9;exact⟨zfK,i0,z1,z2,z3,ac,z5⟩),fun k Z=>by
    have:=R7.new (r:=k) (by have:=(c9.lt Z).1;omega);exact⟨this.1,this.2.1⟩⟩
   have dA9:∀k,zfU a k->¬zfU kv k:=fun k h1 h2=>by have:=(A7.r.lt h1).2;have:=(c9.lt h2).1;omega
   have dW9:∀k,zfU wv k->¬zfU kv k:=fun k h1 h2=>by have:=(W7.r.lt h1).2;have:=(c9.lt h2).1;omega
   have F09:=F07.trans F9;have m9:=R9.m;have l9a:=fun H'=>A9.r.len' (H':=H');rw[cO]at l9a;dsimp only[zfH]at m9;have ms:=Rs.m;have m8x:=ms;rw[<-q8 _ (by have:=R7.o5;omega)]at m8x;dsimp only[zfH]at ms m8x;clear R7 F07 A7 W7 F9 Rs Ws hq9;repeat' (first
    |(apply ah ?_;clear hK K)|apply Rx.o ?_|apply ak ?_|(apply zff fun K hK=>?_)|(apply Rx.dP 23 [0,2,3,4,5,6,7,1,8,9] [(5,7),(5,8),(6,7),(6,8)] fun K hK=>?_)|(apply zfx ?_;try intro _)|(apply zfG ?_ ?_<;>clear hK K)|apply br ?_|apply ay ?_|fail)
   .exact zf6
   .clear a8 a9 c8 c8b g8s l9 f9 o9 q8 hwlen c9;have hdv:∀w,w<r.2.vars.length->d.2.vars[w]?=some (d.2.vars.getD w 0):=fun w hw=>by
     rw[dd,aR ac];rfl
    have hwj0:∀j,j<U.length->U.getD j 0<r.2.vars.length:=fun j O=>hwm _ Ld;refine zgs [0,4,5,7,9,119,120] [] 121 U.length (fun j E Hj=>∃kj,E.at 13=kj/\RepL X Hj S7 d.2 lv7 o/\FrL X S vv (H.alloc (.cells x.cells 0 true)) S7 o Hj/\RowL S7 o (J.next+1) Hj a (rE U)/\RowL S7 o (J.next+1) Hj wv (r.2.state::U.map fun i=>r.2.vars.getD i 0)/\RowL S7 o (J.next+1) Hj kj (r.2.state::(U.map fun i=>r.2.vars.getD i 0)++[d.1,d.2.state]++((U.take j).map fun i=>d.2.vars.getD i 0))/\(∀k,zfU a k->¬zfU kj k)/\∀k,zfU wv k->¬zfU kj k) eE ⟨kv,eE,R9,F09,A9,W9,by rw[vE,p8,bi];exact K9,dA9,dW9⟩ ?_;clear R9 F09 A9 W9 K9 dA9 dW9 m9;rintro j E Hj hj hcE hrH hnH hsI ⟨kj,k13,Rj,Fj,g,C,Kj,dAj,dWj⟩;(try simp only[zfT,zfB,a0,zfo,zfv,Nat.reduceBEq, *]at hcE);(try simp only[zfB, *]at hrH);(try simp only[zfw,zfI,zgj,b9,Nat.reduceAdd]at hnH);have mj:=Rj.m;dsimp only[zfH]at mj;have nj:J.next+1<=Hj.next:=ac
    by_cases O:j<U.length
    .have hlt':(j:Int)<U.length:=by omega
     have hwj:=haw j O;have hvj:=hdv _ (hwj0 j O);have htj:=htk j O;rw[htj];generalize U.getD j 0=w at *;generalize hy:d.2.vars.getD w 0=y at *;obtain⟨qa,ixa,lda⟩:=g.at hwj;obtain⟨qv,ixv,ldv⟩:=Rj.atV hvj;obtain⟨v',H',a1,K',R',n',q',own'⟩:=Kj.app1 Rj nj y ac (by simp only[fG,dg,cO,jR,eM];omega);have A':=g.other n' q' dAj;have W':=C.other n' q' dWj;have F':=Fj.other n' q' (fun k Z=>by have:=(Kj.r.lt Z).1;simp only[zfw];omega);have dA':∀k,zfU a k->¬zfU v' k:=fun k h1 h2=>by
      rcases own' k h2 with e|e
      .exact dAj k h1 e
      .have:=(g.r.lt h1).2;omega
     have dW':∀k,zfU wv k->¬zfU v' k:=fun k h1 h2=>by
      rcases own' k h2 with e|e
      .exact dWj k h1 e
      .have:=(C.r.lt h1).2;omega
     have hmap:(r.2.state::(U.map fun i=>r.2.vars.getD i 0)++[d.1,d.2.state]++((U.take j).map fun i=>d.2.vars.getD i 0))++[y]=r.2.state::(U.map fun i=>r.2.vars.getD i 0)++[d.1,d.2.state]++((U.take j++[w]).map fun i=>d.2.vars.getD i 0):=by rw[r0,dE,p8,hy];simp
     rw[hmap]at K';clear hmap dAj dWj g C Kj q' own' Rj hvj;repeat' (first
      |(apply ah ?_;clear hK K)|apply Ry.o ?_|(apply aL (fun L z=>?_) (fun L z=>?_)<;>try(cases L;done))|apply ak ?_|(apply zff fun K hK=>?_)|apply ay ?_|apply zfh ?_|fail)
     refine⟨ac,eL,eL,zf4,Lg,?_⟩;exact⟨v',eE,R',F',A',W',K',dA',dW'⟩
    .have hlt':¬(j:Int)<U.length:=by omega
     have ht:U.take j=U:=fN ac;rw[ht]at Kj;clear ht;have V:=xZ hG Rj ⟨31,s.loops,r.2.state::(U.map fun i=>r.2.vars.getD i 0)++[d.1,d.2.state]++(U.map fun i=>d.2.vars.getD i 0)⟩ (by rcases Kj.r with h|⟨zfK,i0,z1,z2,z3,z4,z5⟩;exact .inl h;exact .inr ⟨zfK,i0,z1,z2,z3,dZ _,z5⟩) (fun k Z=>⟨by have:=(Kj.r.lt Z).1;omega,Kj.n k Z⟩) (by rw[<-Z]at hFk;exact hFk.r) hFd.l;repeat' (first
      |(apply ah ?_;clear hK K)|apply Ry.o ?_|(apply aL (fun L z=>?_) (fun L z=>?_)<;>try(cases L;done))|apply ak ?_|(apply zff fun K hK=>?_)|apply zfr ?_)
     refine aU rfl aV aW ?_;simp only[bi];refine aS ?_ V;rintro u H10 ⟨rfl,S10,lv10,R10,n10,q10,s10⟩;rw[Z]at R10⊢;have F10:FrL X S vv (H.alloc (.cells x.cells 0 true)) S10 o H10:=⟨cJ Fj.next n10,fun k h1 h2 h3 h4 h5=>by
      rw[q10 k (nr h1 Fj.next) h2 h3 fun e=>by
       rcases Fj.sub k e with e|e
       .exact h4 e
       .omega]
      exact Fj.get k h1 h2 h3 h4 h5,fun k e=>by
      rcases s10 k e with e|e|e
      .exact Fj.sub k e
      .exact .inr (by have:=(Kj.r.lt e).1;simp only[zfw];omega)
      .exact .inr (cJ Fj.next e),Fj.own⟩
     have A10:RowL S10 o (J.next+1) H10 a (rE U):=⟨g.r.keep n10 fun k Z=>q10 k (g.r.lt Z).2 (by have:=(g.r.lt Z).1;omega) (by have:=(g.r.lt Z).1;omega) (g.n k Z).1,fun k Z=>⟨fun e=>by
      rcases s10 k e with e|e|e
      .exact(g.n k Z).1 e
      .exact dAj k Z e
      .have:=(g.r.lt Z).2;omega,(g.n k Z).2⟩⟩
     have W10:RowL S10 o (J.next+1) H10 wv (r.2.state::U.map fun i=>r.2.vars.getD i 0):=⟨C.r.keep n10 fun k Z=>q10 k (C.r.lt Z).2 (by have:=(C.r.lt Z).1;omega) (by have:=(C.r.lt Z).1;omega) (C.n k Z).1,fun k Z=>⟨fun e=>by
      rcases s10 k e with e|e|e
      .exact(C.n k Z).1 e
      .exact dWj k Z e
      .have:=(C.r.lt Z).2;omega,(C.n k Z).2⟩⟩
     clear Rj Fj g C Kj dAj dWj q10 s10 V mj;dsimp only[zfp];have nw10:=R10.new (aE _);have R10a:=R10.alloc (.cells [.int .i64 k.1] 0 true);have V:=EZ hG R10a ((cG _ _ _ _).alloc _) ⟨25,0,[k.1]⟩ rfl iH (aE _) (cI _) nw10.2.2 nw10.1 nw10.2.1 hFf' rfl rfl;have hW0:(r.2.state::U.map fun i=>r.2.vars.getD i 0)[0]?=some r.2.state:=rfl;have W10a:RowL S10 o (J.next+1) (H10.alloc (.cells [.int .i64 k.1] 0 true)) wv (r.2.state::U.map fun i=>r.2.vars.getD i 0):=⟨W10.r.keep (eh _) fun k Z=>by rw[zfk,af (by have:=(W10.r.lt Z).2;omega)],W10.n⟩;have A10a:RowL S10 o (J.next+1) (H10.alloc (.cells [.int .i64 k.1] 0 true)) a (rE U):=⟨A10.r.keep (eh _) fun k Z=>by rw[zfk,af (by have:=(A10.r.lt Z).2;omega)],A10.n⟩;obtain⟨q0,ix0,ld0⟩:=W10a.at hW0;rw[show((0:Nat):Int)=0 from rfl]at ix0;repeat' (first
      |(apply ah ?_;clear hK K)|apply Rx.o ?_|apply ak ?_|(apply zfm 30 [(5,6),(9,6),(9,10)] fun K hK=>?_)|(apply zfx ?_;try intro _)|apply br ?_|fail)
     refine aU rfl aV aW ?_;simp only[gL];refine aS ?_ V;rintro u H11 ⟨⟨rfl,S11,lv11,R11,F11⟩,n11⟩;simp only[zfw]at n11;have W11:=W10.fr (X:=X) ac ac F11;have A11:=A10.fr (X:=X) ac ac F11;obtain⟨q0',ix0',ld0'⟩:=W11.at hW0;rw[show((0:Nat):Int)=0 from rfl,ix0]at ix0';simp only[az,AV.ptr.injEq,a0]at ix0';subst ix0';have hFm2:Fin (zfA r.1 (zfg ⟨25,0,[k.1]⟩ k.2).1 r.2.state (zfg ⟨25,0,[k.1]⟩ k.2).2).2:=by rw[hm'];exact hFm'
     dsimp only[zfp];repeat' (first
      |apply Rx.o ?_|(apply zfx ?_;try intro _)|apply br ?_|fail)
     refine aU rfl aV aW ?_;simp only[gL];refine aS ?_ (vD hG R11 (cG _ _ _ _) r.1 _ r.2.state hFm2);rw[hm'];rintro u H12 ⟨rfl,S12,lv12,R12,F12⟩;have m12:=R12.m;obtain⟨R13,F13⟩:=R12.setS m'.1;have F0:=F10.trans (F11.trans (F12.trans F13));have A13:=(A11.fr (X:=X) ac ac F12).fr (X:=X) ac ac F13;have W13:=(W11.fr (X:=X) ac ac F12).fr (X:=X) ac ac F13;have n12:=F12.next
     have l13:=fun H'=>A13.r.len' (H':=H');rw[cO]at l13;dsimp only[zfH]at m12 R13 F0 A13 W13;dsimp only[zfp];have m13:=R13.m;dsimp only[zfH]at m13;repeat' (first
      |(apply ah ?_;clear hK K)|apply Rx.o ?_|apply ct ?_|apply ak ?_|(apply zff fun K hK=>?_)|(apply zfx ?_;try intro _)|(apply zfG ?_ ?_<;>clear hK K)|apply br ?_|apply zhC rfl ?_|apply ay ?_|fail)
     .exact zf6
     .have hw13:m'.2.vars.length=r.2.vars.length:=by rw[hm'v,hdl]
      refine zgs [0,5,9,16,153,154] [] 155 U.length (fun j E Hj=>∃I Sj lvj,fB k.1 r.1 r.2.vars (U.drop j) (j+1) I=fB k.1 r.1 r.2.vars U 1 {m'.2 with state:=m'.1} /\ I.vars.length=r.2.vars.length/\RepL X Hj Sj I lvj o/\FrL X S vv (H.alloc (.cells x.cells 0 true)) Sj o Hj/\RowL Sj o (J.next+1) Hj a (rE U)/\RowL Sj o (J.next+1) Hj wv (r.2.state::U.map fun i=>r.2.vars.getD i 0)) eE ⟨{m'.2 with state:=m'.1},S12,lv12,by rw[fo],hw13,R13,F0,A13,W13⟩ ?_;clear R13 F0 A13 W13 m13 m12 hw13 R12 F12 F13 hdl hdl0 hm'v hdv;rintro i3 E3 Hi3 hi3 hcE hrH hnH hsI ⟨I,Sj,lvj,hJ,hjv,Rj,Fj,g,C⟩;(try simp only[zfT,zfB,a0,zfo,zfv,Nat.reduceBEq, *]at hcE);(try simp only[zfB,zfv, *]at hrH);(try simp only[zfI,]at hnH);have mj:=Rj.m;dsimp only[zfH]at mj;have nj:J.next+1<=Hi3.next:=ac
      by_cases O:i3<U.length
      .have hlt':(i3:Int)<U.length:=by omega
       have hwj:=haw i3 O;have hwl1:U.getD i3 0<I.vars.length:=by rw[hjv];exact hwj0 i3 O
       have hold:(r.2.state::U.map fun i=>r.2.vars.getD i 0)[i3+1]?=some (r.2.vars.getD (U.getD i3 0) 0):=by
        rw[qZ,fT,dd (l:=U),aR O];rfl
       rw[hdr i3 O,Bu]at hJ;generalize U.getD i3 0=w at *;generalize r.2.vars.getD w 0=y at *;have hsx:IntKind.wrap .i64 ((i3:Int)+1)=((i3+1:Nat):Int):=zhe ac;have hFq:Fin (zfA r.1 (zfg ⟨25,((i3+1:Nat):Int),[k.1]⟩ I).1 y (zfg ⟨25,((i3+1:Nat):Int),[k.1]⟩ I).2).2:=hF.le (by rw[<-hJ];exact((oM _).setV _).trans (rx _ _ _ _ _ _).1);have hFq0:Fin (zfg ⟨25,((i3+1:Nat):Int),[k.1]⟩ I).2:=hFq.le (zg0 _ _ _ _).le;have nwj:=Rj.new (aE _);have Rja:=Rj.alloc (.cells [.int .i64 k.1] 0 true);have V:=EZ hG Rja ((cG _ _ _ _).alloc _) ⟨25,((i3+1:Nat):Int),[k.1]⟩ rfl iH (aE _) (cI _) nwj.2.2 nwj.1 nwj.2.1 hFq0 rfl rfl;obtain⟨qa,ixa,lda⟩:=g.at hwj;have Wja:RowL Sj o (J.next+1) (Hi3.alloc (.cells [.int .i64 k.1] 0 true)) wv (r.2.state::U.map fun i=>r.2.vars.getD i 0):=⟨C.r.keep (eh _) fun k Z=>by rw[zfk,af (by have:=(C.r.lt Z).2;omega)],C.n⟩;obtain⟨qw,ixw,ldw⟩:=Wja.at hold;have hxv:∀v2,I.vars[w]?=some v2->True:=fun _ _=>trivial;clear hxv;obtain⟨qv,ixv,ldv,_⟩:=Rj.setV hwl1 0;have mja:=Rja.m;dsimp only[zfH]at mja;repeat' (first
        |(apply ah ?_;clear hK K)|apply Ry.o ?_|(apply aL (fun L z=>?_) (fun L z=>?_)<;>try(cases L;done))|apply ak ?_|(apply zff fun K hK=>?_)|(apply zfm 34 [(3,12),(3,18),(3,20),(11,12),(17,12),(17,18)] fun K hK=>?_)|(apply zfx ?_;try intro _)|apply br ?_|apply ay ?_|apply zfh ?_|fail)
       refine aU rfl aV aW ?_;simp only[gL];refine aS ?_ V;rintro u H14 ⟨⟨rfl,S14,lv14,R14,F14⟩,n14⟩;simp only[zfw]at n14;have W14:=C.fr (X:=X) ac ac F14;have A14:=g.fr (X:=X) ac ac F14;obtain⟨qw',ixw',ldw'⟩:=W14.at hold;rw[ixw]at ixw';simp only[az,AV.ptr.injEq,a0]at ixw';subst ixw';have m14:=R14.m;dsimp only[zfH]at m14;dsimp only[zfp];repeat' (first
        |apply Rx.o ?_|(apply zfx ?_;try intro _)|apply br ?_|fail)
       refine aU rfl aV aW ?_;simp only[gL];refine aS ?_ (vD hG R14 (cG _ _ _ _) r.1 _ y hFq);generalize hmq:zfA r.1 (zfg ⟨25,((i3+1:Nat):Int),[k.1]⟩ I).1 y (zfg ⟨25,((i3+1:Nat):Int),[k.1]⟩ I).2=mq at *;have hmqv:mq.2.vars=I.vars:=by rw[<-hmq,(zg0 _ _ _ _).v];rfl
       have hwl2:w<mq.2.vars.length:=by rw[hmqv];exact hwl1
       rintro u H15 ⟨rfl,S15,lv15,R15,F15⟩;obtain⟨q',Y,hld',H16,hst,hq1,hq2,hq3,R16,F16,o16,n16⟩:=R15.setV hwl2 mq.1;have hqq:q'=qv:=by
        rw[ixv]at Y;simp only[az,AV.ptr.injEq]at Y;exact Y.1.symm
       subst hqq;have W16:=(W14.fr (X:=X) ac ac F15).fr (X:=X) ac ac F16;have A16:=(A14.fr (X:=X) ac ac F15).fr (X:=X) ac ac F16;have F016:=Fj.trans (F14.trans (F15.trans F16));have m15:=R15.m;have m16:=R16.m;have n15:=F15.next
       have nj16:Hi3.next<=H16.next:=ac
       have hjv':(mq.2.vars.set w mq.1).length=r.2.vars.length:=by rw[jk,hmqv];exact hjv
       clear hmqv hjv Y hld' hmq A14 W14 g C Fj Rj V R14;dsimp only[zfH]at m15 m16;dsimp only[zfp];repeat' (first
        |(apply ah ?_;clear hK K)|apply Rx.o ?_|apply ct ?_|(apply zff fun K hK=>?_)|(apply zfx ?_;try intro _)|(apply zfG ?_ ?_<;>clear hK K)|apply br ?_|apply zhC rfl ?_|fail)
       .exact zf6
       .refine⟨ac,eL,eL,zf4,(by simp only[zfo,Nat.reduceBEq, *]),?_⟩;exact⟨_,S15,lv15,hJ,hjv',R16,F016,A16,W16⟩
      .have hlt':¬(i3:Int)<U.length:=by omega
       have hd:U.drop i3=[]:=qq ac;rw[hd]at hJ;have hJ:I=fB k.1 r.1 r.2.vars U 1 {m'.2 with state:=m'.1}:=hJ;repeat' (first
        |(apply ah ?_;clear hK K)|apply Ry.o ?_|(apply aL (fun L z=>?_) (fun L z=>?_)<;>try(cases L;done))|apply ak ?_|(apply zff fun K hK=>?_)|apply zfr ?_)
       all_goals (refine⟨zfj,_,zfq,?_⟩;try simp only[zfi])
       rw[<-hJ];exact⟨Sj,lvj,o,Rj,F1.trans Fj⟩
end
end
section
def tyLoI.tyF:=ad @cN (ad @dH (ad @fO (ad @fP (ad @eR (ad @gJ (ad @ej (ad @iD (ad @eQ (ad @iZ (ad @nG (@pi)))))))))))
open tyLoI
noncomputable def Lr:{c:SC // aH 16 (Tryz.f88.body.getD .skip)=c}:=by
 refine⟨?_,?_⟩;rotate_left
 .simp only[Tryz.f88,bS,aH,zfO,zfL,zfR,zfS,Nat.blt,Nat.ble];rfl
theorem nQ.pre{X:Lx}{S M:Nat->Prop}{z vv:AV}{H zfM:Hp}{r:Bd}{v:AV}{H':Hp}(h:nQ X S vv H r v H')(i:FrL X M z zfM S vv H):nQ X M z zfM r v H':=by
 obtain⟨j,m,Y,g,Z⟩:=h;exact⟨j,m,Y,g,i.trans Z⟩
section
variable {tb:List En} (hG:LowT tb) {X:Lx} {c:Cx} (hX:CxOk X c)
set_option maxRecDepth 100000 in
set_option maxHeartbeats 4000000 in
include hG hX in
theorem zaR{n:Nat}(IH:∀m,m<n->Bt tb X c m){x:St}{s r:Bd}(h:jH c n x s=some r)(Z:Fin r)(hz:x.sz<2^36)(J:s.vars.length<2^36){H:Hp}{S:Nat->Prop}{lv vv:AV}(O:RepL X H S s lv vv):
 zfs Tryz.prog (zfn pls tb) 135 [.ptr X.b 0,.agg x.cells] H (nQ X S vv H r):=by
 cases n with
 |zero=>simp[jH]at h
 |succ n=>
 have L:Plain (zfn pls tb) 135:=hG.plain dR;have R1:=O.alloc (.cells x.cells 0 true);have F1:=(cG X S vv H).alloc (.cells x.cells 0 true);unfold jH at h;by_cases k1:x.kind=1
 .rw[aq k1]at h;simp only[fH]at h;obtain⟨v,V,h⟩:=h;split at h
  .rename_i hl;cases h;exact zaI hG hX k1 V hl ⟨Z.r,Z.l,Z.n⟩ O
  .cases h
 rw[af k1]at h;by_cases I:x.kind=2
 .rw[aq I]at h;simp only[fw]at h;obtain⟨i,V,v,g,a,ha,rfl⟩:=h;exact zaJ hG hX I V g ha ⟨Z.r,Z.l,Z.n⟩ O
 rw[af I]at h;by_cases k3:x.kind=3
 .rw[aq k3]at h;simp only[fw]at h;obtain⟨q,V,a,g,b,U,m,h4,rfl⟩:=h;have Y:=lif hG hX (IH n (cI n)) V g U h4 ⟨Z.r,Z.l,Z.n⟩ hz J R1;refine zfz (M:=155) (rs:=[]) (L.call _) L.ice L.froz Tryz.func135 rfl rfl lV.2 rfl ?_;dsimp only[lV,zft,Nat.reduceAdd];repeat' (first
   |(apply ah ?_;clear hK K)|apply Ry.o ?_|(apply aL (fun o z=>?_) (fun o z=>?_)<;>try(cases o;done))|apply ak ?_|(apply zff fun K hK=>?_)|apply ay ?_|fail)
  refine aU rfl aV aW ?_;simp only[bi];refine aS ?_ Y;intro w H2 g;have U:=g.pre F1;clear g Y;dsimp only[zfp];repeat' (first
   |(apply ah ?_;clear hK K)|fail)
  all_goals (refine⟨zfj,_,zfq,?_⟩;try simp only[zfi])
  exact U
 rw[af k3]at h;by_cases k4:x.kind=4
 .rw[aq k4]at h;cases n with
  |zero=>simp[j6]at h
  |succ n=>
  unfold j6 at h;simp only[fw]at h;obtain⟨q,V,b,o,t,g,d,U,rfl⟩:=h;have Y:=lwh hG hX (IH n ac) V o g U rfl rfl Z hz J (zai (s:={ (zfg ⟨3,16*(s.loops:Int),[]⟩ q.2).2 with state:=(zfg ⟨3,16*(s.loops:Int),[]⟩ q.2).1}) (v:=q.2.vars) rfl o g U) R1;refine zfz (M:=155) (rs:=[]) (L.call _) L.ice L.froz Tryz.func135 rfl rfl lV.2 rfl ?_;dsimp only[lV,zft,Nat.reduceAdd];repeat' (first
   |(apply ah ?_;clear hK K)|apply Ry.o ?_|(apply aL (fun o z=>?_) (fun o z=>?_)<;>try(cases o;done))|apply ak ?_|(apply zff fun K hK=>?_)|apply ay ?_|fail)
  refine aU rfl aV aW ?_;simp only[bi];refine aS ?_ Y;intro w H2 g;have U:=g.pre F1;clear g Y;dsimp only[zfp];repeat' (first
   |(apply ah ?_;clear hK K)|fail)
  all_goals (refine⟨zfj,_,zfq,?_⟩;try simp only[zfi])
  exact U
 rw[af k4]at h;by_cases C:x.kind=5
 .rw[aq C]at h;simp only[fw]at h;obtain⟨v,V,rfl⟩:=h;exact zaK hG hX C V ⟨Z.r,Z.l,Z.n⟩ O
 rw[af C]at h;by_cases j:x.kind=6
 .rw[aq j]at h;simp only[fH]at h;obtain⟨av,V,h⟩:=h;split at h
  .rename_i hc;cases h;exact zaM hG hX j V hc.1 hc.2 hz ⟨Z.r,Z.l,Z.n⟩ O
  .cases h
 rw[af j]at h;by_cases k7:x.kind=7
 .rw[aq k7]at h;cases h;exact zaL hG k7 Z O
 rw[af k7]at h;cases h;exact lst0 hG k1 I k3 k4 C j k7 O
set_option maxRecDepth 100000 in
set_option maxHeartbeats 4000000 in
include hG hX in
theorem Ls:∀(N n:Nat),n<N->Bt tb X c n
 |0,n,hn=>by omega
 |N+1,n,hn=>fun l s r h hF hz hvl H S lv vv hR=>by
  have hw:Plain (zfn pls tb) 88:=hG.plain dR;have hll:=xu l;refine zfz (M:=16) (rs:=[]) (hw.call _) hw.ice hw.froz Tryz.func88 rfl rfl Lr.2 rfl ?_;dsimp only[Lr,zft,Nat.reduceAdd];repeat' (first
   |(apply ah ?_;clear hK K)|apply Rx.o ?_|apply ak ?_|(apply zff fun K hK=>?_)|apply ay ?_|fail)
  refine zgs [0,6,7] [] 8 l.length (fun i E J=>∃m V I Z C,m<=n/\eC c m (l.drop i) V=some r/\V.vars.length=s.vars.length/\RepL X J I V Z C/\FrL X S vv H I C J) eE ⟨n,s,S,lv,vv,aE _,h,rfl,hR,cG _ _ _ _⟩ ?_;rintro i E J hi g hrH hnH hsI ⟨m,V,I,Z,C,hm,o,j,Ri,Fi⟩;(try simp only[zfT,zfB,a0,zfo,zfv,Nat.reduceBEq, *]at g);(try simp only[zfB, *]at hrH);(try simp only[zfw,zfI,zgj,b9,Nat.reduceAdd]at hnH);by_cases O:i<l.length
  .have U:(i:Int)<l.length:=by omega
   have hgx:l[i]?=some l[i]:=aR O;have hmem:=zh3 (dI O);cases m with
   |zero=>simp[eC]at o
   |succ m=>
   rw[gW O]at o;unfold eC at o;simp only[fH]at o;obtain⟨q,h1,h2⟩:=o;generalize l[i]=x at *;have hFq:Fin q:=hF.le ((kR c m).2.1 _ _ _ h2).1;have hql:=((kR c m).1 _ _ _ h1).2;repeat' (first
    |(apply ah ?_;clear hK K)|apply Ry.o ?_|apply bM ?_|(apply aL (fun Y z=>?_) (fun Y z=>?_)<;>try(cases Y;done))|apply ak ?_|(apply zff fun K hK=>?_)|apply ay ?_|apply zfh ?_|fail)
   refine aU rfl aV aW ?_;simp only[bi];refine aS ?_ (zaR hG hX (fun k hk=>Ls N k ac) h1 hFq ac ac (Ri.alloc2 _ _));rintro w H3 ⟨S3,lv3,vv3,R3,F3⟩;have F03:=((Fi.alloc2 (.cells [AV.int .i64 0,.str [],.str [],.int .i64 0,.int .i64 0,.int .i64 0,.str [],.int .i64 0,.nilS,.int .i64 0,.int .i64 0,.str [],.int .i64 0,.nilS,.nilS,.nilS,.nilS] 0 true) (.cells x.cells 0 true))).trans F3;have n3:J.next+1<=H3.next:=F3.next
   have L:q.vars.length=s.vars.length:=ac;clear hql j;dsimp only[zfp];repeat' (first
    |(apply ah ?_;clear hK K)|apply Rx.o ?_|(apply zff fun K hK=>?_)|fail)
   refine⟨ac,eL,eL,zf4,rD,?_⟩;exact⟨m,q,S3,lv3,vv3,ac,h2,L,R3,F03⟩
  .have U:¬(i:Int)<l.length:=by omega
   have hd:l.drop i=[]:=qq ac;rw[hd]at o;cases m with
   |zero=>simp[eC]at o
   |succ m=>
   have o:V=r:=by unfold eC at o;simpa using o
   subst o;clear j;repeat' (first
    |(apply ah ?_;clear hK K)|apply Ry.o ?_|(apply aL (fun Y z=>?_) (fun Y z=>?_)<;>try(cases Y;done))|apply ak ?_|(apply zff fun K hK=>?_)|apply zfr ?_)
   all_goals (refine⟨zfj,_,zfq,?_⟩;try simp only[zfi])
   exact⟨I,Z,C,Ri,Fi⟩
end
end
end Go.Proofs.YtpbcimfiofmoeaaGreat
