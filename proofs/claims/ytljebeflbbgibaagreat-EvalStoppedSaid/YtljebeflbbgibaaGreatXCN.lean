/- Parts: LoB, SpecM, LoC, LoD, LoE, LoF, LoH, VdA, VdB, VdP, K1, K2a. -/
import Derived.Test.YtljebeflbbgibaaGreatXCM
set_option linter.unusedSimpArgs false
set_option linter.unusedVariables false
set_option linter.unusedSectionVars false
set_option linter.defProp false
set_option maxHeartbeats 32000000
namespace Go.Ab
set_option maxRecDepth 20000
open Go
theorem J5{P:Prop}(h:P:=by simp only[List.all_cons,List.all_nil,hone];rfl):P:=h
theorem tm{P:Prop}(h:P:=by simp only[zdQ];omega):P:=h
theorem J6{P:Prop}(h:P:=by rw[List.length_map,show zeL=70368744177664 from rfl];omega):P:=h
theorem vH{P:Prop}(h:P:=by have:=(A.sS _ e).1;omega):P:=h
theorem CH{P:Prop}(h:P:=by rw[Hp.get_set,if_pos rfl,znJ I]):P:=h
theorem lR{P:Prop}(h:P:=by rw[i];simp):P:=h
theorem yM{P:Prop}(h:P:=by simp_all;done):P:=h
theorem tn{P:Prop}(h:P:=by simp only[zdy,Nat.reduceBEq, *];exact zfq (n:=16) ac ac):P:=h
def CI:=@Nat.lt_succ_of_lt
def yN:=@List.nodup_cons
end Go.Ab
namespace Go.Proofs.YtljebeflbbgibaaGreat
set_option maxRecDepth 20000
open Go Go.Ab
section
def tyLoB.tyF:=ad @cN (ad @b9 (ad @uE (ad @dA (ad @ea (ad @eV (ad @eO (ad @kj (ad @qx (ad @uI (ad @A4 (ad @FD (ad @A9 (ad @FJ (ad @FL (ad @uJ (ad @FK (ad @FM (ad @Im (ad @mB (@mC))))))))))))))))))))
open tyLoB
noncomputable def J7:{c:SC // aC 20 (Tryz.f137.body.getD .skip)=c}:=by
 refine⟨?_,?_⟩;rotate_left
 .simp only[Tryz.f137,a5,aC,zdG,zdD,zdH,zdI,Nat.blt,Nat.ble];rfl
noncomputable def J8:{c:SC // aC 69 (Tryz.f89.body.getD .skip)=c}:=by
 refine⟨?_,?_⟩;rotate_left
 .simp only[Tryz.f89,a5,aC,zdG,zdD,zdH,zdI,Nat.blt,Nat.ble];rfl
def J9(f:FuncId):Bool:=Nat.beq f 137||Nat.beq f 89||Nat.beq f 90||Nat.beq f 91||Nat.beq f 92||Nat.beq f 138||Nat.beq f 139||Nat.beq f 140||Nat.beq f 141||Nat.beq f 175||Nat.beq f 176||Nat.beq f 177||Nat.beq f 198||Nat.beq f 56
structure LowT (tb:List En):Prop where
 pl:∀f,J9 f=true->(∀ar,zem tb f ar=none)/\ir tb f=false
theorem LowT.plain{tb:List En}(h:LowT tb){f:FuncId}(m:J9 f=true):Plain (zdp pls tb) f:=zej (h.pl f m).1 (h.pl f m).2
theorem Ka{cfg:Cfg}(J:Plain cfg 137)(o:cfg.keep 137=false){H:Hp}{v:AV}{b:List Int}{lo:Nat}(hv:hZ H v b lo)(z:b.length<2^38)(n:Int):
 zdw Tryz.prog cfg 137 [v,.int .u64 n] H fun w H'=>hZ H' w (b++ze6 n 8) lo/\H.next<=H'.next/\∀k,k<lo->H'.get k=H.get k:=by
 obtain⟨zdP,i0,L,_⟩:=id hv;have hone:AV.one v=true:=by rw[L];rfl
 clear L;refine zdv (M:=20) (rs:=[.tmp 4]) (J.call _) J.ice J.froz Tryz.func137 rfl rfl J7.2 rfl ?_;dsimp only[J7,zds,Nat.reduceAdd];repeat' (first
  |(apply zdk ?_;clear hK K)|apply Rx.o ?_|apply ak ?_|(apply zdl fun K hK=>?_)|apply au ?_|fail)
 refine zef [1] [] 5 8 (fun i E g=>∃w,E.at 0=w/\hZ g w (b++ze6 n i) lo/\∀k,k<lo->g.get k=H.get k) eE ⟨v,eE,by simpa [ze6]using hv,fun _ _=>rfl⟩ ?_;rintro i E g hi Y m U hsI ⟨w,zex,F,Z⟩;(try simp only[zdO,zdF,aX,zdy,zdJ,Nat.reduceBEq, *]at Y);(try simp only[zdF, *]at m);(try simp only[zdA,zdQ,zec,bC,Nat.reduceAdd]at U);by_cases O:i<8
 .have C:(i:Int)<8:=by omega
  have e1:IntKind.wrap .i64 (8*(i:Int))=((8*i:Nat):Int):=by rw[ze3 ac ac];omega
  have e2:IntKind.wrap .u64 ((8*i:Nat):Int)=((8*i:Nat):Int):=(by decide:∀i:_root_.Fin 8,IntKind.wrap .u64 ((8*i.val:Nat):Int)=((8*i.val:Nat):Int)) ⟨i,O⟩;have e4:∀(D:BinOp->Sx->Sx->Option Bool) (t:TypeId),zep Tryz.prog D .shr t (.int .u64 n) (.int .u64 ((8*i:Nat):Int))=some (.int .u64 (n.fdiv (2^ (8*i)))):=fun D t=>bin_shr ac rfl;repeat' (first
   |(apply zdk ?_;clear hK K)|apply Ry.o ?_|(apply aD (fun z V=>?_) (fun z V=>?_)<;>try(cases z;done))|apply ak ?_|(apply zdl fun K hK=>?_)|apply au ?_|apply zdm ?_|fail)
  have I:yo (g.alloc (.cells [.int .u8 (ji n i)] 0 true)) w (b++ze6 n i) lo:=.inr (F.keep (fQ _) fun k j=>by rw[zdq,ai (by have:=(F.lt j).2;omega)]);have hlo2:lo<=g.next:=by obtain⟨r,im,_,_,_,h1,h2⟩:=F;omega
  obtain⟨v5,H5,zeD,s5,n5,f5,o5⟩:=Il (r:=g.next) (imm:=0) (ji n i) I el gO (by rw[ep,zf3];omega);have n5':g.next<=H5.next:=sO
  have A:∀k,k<lo->H5.get k=H.get k:=fun k j=>by rw[f5 k j,zdq,ai ac,Z k j]
  clear n5 f5 o5;refine od zeM zeM uO ?_;repeat' (first
   |(apply zdk ?_;clear hK K)|apply Rx.o ?_|(apply zdl fun K hK=>?_)|fail)
  refine⟨ac,zdz,zdz,eN,HZ,?_⟩;exact⟨v5,eE,by rw[In,<-gB];exact s5,A⟩
 .have C:¬(i:Int)<8:=by omega
  repeat' (first
   |(apply zdk ?_;clear hK K)|apply Ry.o ?_|(apply aD (fun z V=>?_) (fun z V=>?_)<;>try(cases z;done))|apply ak ?_|(apply zdl fun K hK=>?_)|apply am ?_|apply zdr ?_)
  all_goals (refine⟨eI,_,eR,?_⟩;try simp only[zdn])
  have hie:i=8:=ac;rw[hie]at F;exact⟨F,ac,Z⟩
theorem ey.len'{H:Hp}{v:AV}{l:List Int}{lo:Nat}(h:ey H v l lo)(H':Hp):zdY Tryz.prog H' 23 v=some (.int .i64 l.length):=by
 rcases h with⟨rfl,rfl⟩|h
 .exact zfs Tryz.underlying23
 .exact h.len
theorem zbE{S:Nat->Prop}{H:Hp}{kv:AV}{V:List Int}{lo:Nat}(op imm:Int)(j:ey H kv V lo)(hS:∀k,zeG kv k->S k):zeF S 2 H [.int .i64 op,.int .i64 imm,kv] (Nd.mk op imm V).cells:=by
 refine .cons (.int _ _) (.cons (.int _ _) (.cons ?_ .nil));rcases j with⟨rfl,rfl⟩|⟨r,i,rfl,g,o,U,Z⟩
 .exact .nilS
 .exact oH V (hS r ⟨_,rfl⟩) Z g o
theorem zbF{H:Hp}{kv:AV}{l:List Int}{lo:Nat}(h:ey H kv l lo)(a b:Int):zeI Tryz.prog 25 [(0,.int .i64 a),(1,.int .i64 b),(2,kv)]=some (.agg [.int .i64 a,.int .i64 b,kv]):=by
 rcases h with⟨rfl,rfl⟩|⟨r,i,rfl,_⟩<;>kernel_rfl
theorem ey.one{H:Hp}{kv:AV}{l:List Int}{lo:Nat}(h:ey H kv l lo):AV.one kv=true:=by
 rcases h with⟨rfl,rfl⟩|⟨r,i,rfl,_⟩<;>rfl
theorem CJ:nR Tryz.prog 3=some (.int .i64 0):=af
theorem zgj:zfQ Tryz.prog 9=some .string:=af
def tp(X:Lx)(S:Nat->Prop)(M kv:AV)(H:Hp)(n:Nd)(s:Bd)(v:AV)(H':Hp):Prop:=v=.int .i64 (zeK n s).1/\∃Z g,RepL X H' Z (zeK n s).2 g M/\H.next<=H'.next/\(∀k,k<H.next->k≠X.b->k≠X.rt->¬S k->H'.get k=H.get k)/\∀k,Z k->S k\/zeG kv k\/H.next<=k
set_option maxRecDepth 100000 in
theorem Kb{tb:List En}(hG:LowT tb){X:Lx}{H:Hp}{S:Nat->Prop}{s:Bd}{lv I kv:AV}(hR:RepL X H S s lv I)(n:Nd)(Z:ey H kv n.kids 0)(F:∀k,zeG kv k->X.b<k/\¬S k/\¬zeG I k)(hr:∀x∈oO s.l n,NdR x)(hlen:s.l.length<2^36):
 zdw Tryz.prog (zdp pls tb) 89 [.ptr X.b 0,.int .i64 n.op,.int .i64 n.imm,kv] H (tp X S I kv H n s):=by
 have hw:Plain (zdp pls tb) 89:=hG.plain dj;have hap:Plain (zdp pls tb) 137:=hG.plain dj;have hkeep:(zdp pls tb).keep 89=false:=rfl;have hn:NdR n:=hr n (J3.2 (.inr rfl));have hnl:=hn.len;have o1:=hR.o1;have o2:=hR.o2;have o3:=hR.o3;have o4:=hR.o4;have o5:=hR.o5;have hkn:=Z.len';refine zdv (M:=69) (rs:=[.tmp 8]) (hw.call _) hw.ice hw.froz Tryz.func89 rfl rfl J8.2 rfl ?_;dsimp only[J8,zds,Nat.reduceAdd];repeat' (first
  |(apply zdk ?_;clear hK K)|apply Rx.o ?_|apply ak ?_|(apply zdl fun K hK=>?_)|fail)
 refine bh rfl bm bo ?_;simp only[bJ];refine a9 ?_ (Ka hap rfl (b:=[IntKind.wrap .u8 n.op]) (lo:=H.next) ⟨H.next,0,rfl,hC,cG _,aM _,ta⟩ aB _);rintro w H1 ⟨hw1,n1,q1⟩;have n1':H.next<=H1.next:=by simp only[zdA]at n1;omega
 have q1':∀k,k<H.next->H1.get k=H.get k:=fun k Z=>by rw[q1 k Z,zdq,ai ac]
 clear n1 q1;dsimp only[zdE];repeat' (first
  |(apply zdk ?_;clear hK K)|apply Rx.o ?_|apply ak ?_|(apply zdl fun K hK=>?_)|apply au ?_|fail)
 refine zef [0,1,2,3,8,20,21] [] 22 n.kids.length (fun j E g=>∃w,E.at 9=w/\hZ g w ([IntKind.wrap .u8 n.op]++ze6 (IntKind.wrap .u64 n.imm) 8++(n.kids.take j).flatMap fun k=>ze6 (IntKind.wrap .u64 k) 8) H.next/\Sm H.next H g) eE ⟨w,eE,by simpa using hw1,⟨q1'⟩⟩ ?_;rintro j E g hj hcE hrH hnH hsI ⟨w2,k9,hw2,Y⟩;(try simp only[zdO,zdF,aX,zdy,zdJ,Nat.reduceBEq, *]at hcE);(try simp only[zdF, *]at hrH);(try simp only[zdA,zdQ,zec,bC,Nat.reduceAdd]at hnH);have n2':H.next<=g.next:=ac
 by_cases C:j<n.kids.length
 .have hlt':(j:Int)<n.kids.length:=by omega
  have htk:n.kids.take (j+1)=n.kids.take j++[n.kids[j]]:=by rw[mS,aR C];rfl
  have hfl:((n.kids.take j).flatMap fun k=>ze6 (IntKind.wrap .u64 k) 8).length<=8*j:=by
   rw[List.length_flatMap];simp only[zf3];have:((n.kids.take j).map fun _=>8).sum=8*(n.kids.take j).length:=by
    generalize n.kids.take j=q;induction q with
    |nil=>rfl
    |cons a q ih=>simp[ih];omega
   rw[this,iX];omega
  have hkb:eX g kv n.kids 0:=by
   rcases Z with⟨_,U⟩|U
   .rw[U]at C;simp at C
   .exact U.keep ac fun k Z=>Y.get k (U.lt Z).2
  obtain⟨r,hix,hld⟩:=hkb.at C;generalize n.kids[j]=kd at *;repeat' (first
   |(apply zdk ?_;clear hK K)|apply Ry.o ?_|(apply aD (fun hb J=>?_) (fun hb J=>?_)<;>try(cases hb;done))|apply ak ?_|(apply zdl fun K hK=>?_)|apply au ?_|apply zdm ?_|fail)
  refine bh rfl bm bo ?_;simp only[bJ];refine a9 ?_ (Ka hap rfl hw2 HY _);rintro w3 H3 ⟨hw3,n3,q3⟩;dsimp only[zdE];repeat' (first
   |(apply zdk ?_;clear hK K)|apply Rx.o ?_|(apply zdl fun K hK=>?_)|fail)
  refine⟨ac,zdz,zdz,eN,pz,?_⟩;exact⟨w3,eE,by rw[htk,List.flatMap_append,pm,Cd,bJ,<-gB];exact hw3,⟨fun k Z=>by rw[q3 k Z];exact Y.get k Z⟩⟩
 .have hlt':¬(j:Int)<n.kids.length:=by omega
  have hje:n.kids.take j=n.kids:=eJ ac;rw[hje,<-Ir]at hw2;have hcv:=It hw2;have A:RepL X g S s lv I:=hR.keep n2' fun k Z _=>Y.get k Z;have m2:=A.m;unfold zfe at m2;have hlk:=EL (P:=Tryz.prog) (t:=110) Tryz.underlying110 zgj CJ A.t (zes n);obtain⟨f1,f2,f3⟩:=J4 hn s.l 0 (fun x hx=>hr x (J3.2 (.inl hx)));clear hje hw1 q1';have hcv':zfA Tryz.prog g 200 9 w2=some (.str (zes n)):=hcv;clear hcv;by_cases O:iV s.l n<s.l.length
  .rw[cF O]at f1;have f2:=f2 O;rw[f1,f2]at hlk;repeat' (first
    |(apply zdk ?_;clear hK K)|apply Ry.o ?_|(apply aD (fun hb J=>?_) (fun hb J=>?_)<;>try(cases hb;done))|apply ak ?_|(apply zdl fun K hK=>?_)|(apply zdL 7 [(3,12),(5,12),(6,12)] fun K hK=>?_)|(apply zdK ?_;try intro _)|(apply zdM ?_ ?_<;>clear hK K)|apply bl ?_|apply zdm ?_|apply am ?_|apply zdr ?_)
   all_goals first
    |exact zdR
    |skip
   all_goals (refine⟨eI,_,eR,?_⟩;try simp only[zdn])
   have e1:zeK n s=(((iV s.l n:Nat):Int),s):=by rw[zeK,oO,az O]
   rw[tp,e1];exact⟨aB,S,lv,A,n2',fun k i _ _ _=>Y.get k i,fun k Z=>.inl Z⟩
  .rw[cX O]at f1;have f3:=f3 O;have hix:iV s.l n=s.l.length:=by have:=zyj s.l n;omega
   have hadd:oO s.l n=s.l++[n]:=by rw[oO,ai O]
   rw[f1]at hlk;have hll:∀H',zdY Tryz.prog H' 26 lv=some (.int .i64 s.l.length):=fun H'=>by
    have:=A.nodes.len (P:=Tryz.prog) (t:=26) (H':=H') Tryz.underlying26
    rwa [cE]at this
   have hup:zfS Tryz.prog g 110 (.map X.rt) (.str (zes n)) (.int .i64 s.l.length)=some (g.set X.rt (.map (cV (atV (s.l++[n]) 0)))):=by
    rw[(AB (P:=Tryz.prog) (t:=110) (nm:=zes n) Tryz.underlying110 zgj A.t).1 ((AG (zes n) (atV s.l 0) 0).1 f1).1,<-ztP];simp[cV]
   have hbn:=zbF Z n.op n.imm;have hone:=Z.one;have hbs:∀H,zeP Tryz.prog H 26 1 [(0,.agg [.int .i64 n.op,.int .i64 n.imm,kv])]=some (.sl H.next 0 1 3,H.alloc (.cells [.int .i64 n.op,.int .i64 n.imm,kv] 0 true)):=fun H=>BL H rfl J5;have g3:∀k,k≠X.rt->(g.set X.rt (.map (cV (atV (s.l++[n]) 0)))).get k=g.get k:=fun k Z=>by rw[aW,ai Z]
   have g4:∀k,k≠X.rt->k<g.next->((g.set X.rt (.map (cV (atV (s.l++[n]) 0)))).alloc (.cells [.int .i64 n.op,.int .i64 n.imm,kv] 0 true)).get k=g.get k:=fun k Z hl=>by rw[zdq,ai tm,g3 k Z]
   have m3:(g.set X.rt (.map (cV (atV (s.l++[n]) 0)))).get X.b=some (.cells (zfe X s lv I) 0 true):=by rw[g3 _ ac];exact A.m
   have m4:((g.set X.rt (.map (cV (atV (s.l++[n]) 0)))).alloc (.cells [.int .i64 n.op,.int .i64 n.imm,kv] 0 true)).get X.b=some (.cells (zfe X s lv I) 0 true):=by rw[g4 _ ac ac];exact A.m
   have g4n:((g.set X.rt (.map (cV (atV (s.l++[n]) 0)))).alloc (.cells [.int .i64 n.op,.int .i64 n.imm,kv] 0 true)).get g.next=some (.cells [.int .i64 n.op,.int .i64 n.imm,kv] 0 true):=yc
   have z:∀k,zeG kv k->k<H.next:=fun k V=>(Z.lt V).2
   obtain⟨H5,zeD,s5,n5,q5⟩:=vD (P:=Tryz.prog) (t:=26) Tryz.underlying26 pi uF uG rfl af (S':=fun k=>S k\/zeG kv k\/k=g.next+1)
    (A.nodes.keep (S':=S) (H':=(g.set X.rt (.map (cV (atV (s.l++[n]) 0)))).alloc (.cells [.int .i64 n.op,.int .i64 n.imm,kv] 0 true)) (fun _ _ h=>h) (fQ _) fun k Z h6=>g4 k (by have:=(A.sS k Z).1;omega) h6)
    (fun k _ h=>.inl h) (.inr (.inr rfl)) (r:=g.next) (imm:=0) (row:=[.int .i64 n.op,.int .i64 n.imm,kv]) (w:=n.cells) g4n rfl J5
    (zbE n.op n.imm (lo:=0) (Z.keep Cc fun k V=>by rw[g4 k (by have:=(F k V).1;omega) (by have:=z k V;omega)];exact Y.get k (z k V)) fun k V=>⟨.inr (.inl V),fun o m z' e=>(F k V).2.1 (by
      rcases A.nodes with⟨i,_⟩|⟨q,im,rows,i,U,_⟩
      .rw[i]at e;cases e
      .rw[i]at e;simp only[AV.sl.injEq]at e;rw[<-e.1];exact U)⟩)
    J6 J6
   rw[cE]at zeD s5;simp only[zdA,zdQ]at zeD s5 n5 q5;have hno:∀k,(¬S k)->∀o m z',lv≠.sl k o m z':=fun k Z o m z' e=>Z (by
    rcases A.nodes with⟨i,_⟩|⟨q,im,rows,i,U,_⟩
    .rw[i]at e;cases e
    .rw[i]at e;simp only[AV.sl.injEq]at e;rw[<-e.1];exact U)
   have m5:H5.get X.b=some (.cells (zfe X s lv I) 0 true):=by rw[q5 _ ac (hno _ fun e=>vH)];exact m4
   have L:∀k,k<g.next->k≠X.rt->¬S k->H5.get k=g.get k:=fun k i U h3=>by rw[q5 _ ac (hno _ h3)];exact g4 k U i
   have t5:H5.get X.rt=some (.map (cV (atV (s.l++[n]) 0))):=by rw[q5 _ ac (hno _ fun e=>vH),zdq,ai tm,aW,az rfl]
   have hpo:zeK n s=(((iV s.l n:Nat):Int),{s with l:=s.l++[n] }):=by rw[zeK,hadd]
   have fin:tp X S I kv H n s (.int .i64 s.l.length) (H5.set X.b (.cells (zfe X {s with l:=s.l++[n] } (.sl (g.next+1) 0 (s.l.length+1) 3) I) 0 true)):=by
    rw[tp,hpo,hix];have g6:∀k,k≠X.b->(H5.set X.b (.cells (zfe X {s with l:=s.l++[n] } (.sl (g.next+1) 0 (s.l.length+1) 3) I) 0 true)).get k=H5.get k:=fun k Z=>by rw[aW,ai Z]
    refine⟨rfl,fun k=>S k\/zeG kv k\/k=g.next+1,_,⟨ik,?_,?_,?_,?_,?_,?_,o1,o2,o3,o4,?_,?_,?_⟩,?_,?_,?_⟩
    .rw[g6 _ ac,L _ ac ac fun e=>vH];exact A.a
    .rw[g6 _ ac,L _ ac ac fun e=>vH];exact A.f
    .rw[g6 _ ac];exact t5
    .rw[g6 _ ac,L _ ac ac fun e=>vH];exact A.n
    .have e:(s.l++[n]).map Nd.cells=s.l.map Nd.cells++[n.cells]:=by simp
     rw[e];refine s5.keep (fun _ _ h=>h) (aM _) fun k Z _=>g6 k ?_;rcases Z with Z|Z|Z
     .have:=(A.sS _ Z).1;omega
     .have:=(F _ Z).1;omega
     .omega
    .exact A.vars.keep tm fun k Z=>by rw[g6 k (by have:=(A.vS k Z).1;omega),L k (A.vS k Z).2 (by have:=(A.vS k Z).1;omega) fun e=>(A.sS k e).2.2 Z]
    .simp only[zdQ];omega
    .rintro k (Z|Z|Z)
     .have:=A.sS k Z;exact⟨this.1,tm,this.2.2⟩
     .have:=F k Z;have U:=z k Z;exact⟨this.1,tm,this.2.2⟩
     .refine⟨ac,tm,fun e=>?_⟩;have:=(A.vS k e).2;omega
    .intro k Z;have:=A.vS k Z;simp only[zdQ];omega
    .simp only[zdQ];omega
    .intro k i U h3 h4;rw[g6 k U,L k ac h3 h4];exact Y.get k i
    .rintro k (Z|Z|Z)
     .exact .inl Z
     .exact .inr (.inl Z)
     .exact .inr (.inr ac)
   unfold zfe at m3 m4 m5 fin;clear s5 L t5 g3 g4 q5 z;repeat' (first
    |(apply zdk ?_;clear hK K)|apply Ry.o ?_|apply b4 ?_|(apply aD (fun hb J=>?_) (fun hb J=>?_)<;>try(cases hb;done))|apply ak ?_|(apply zdl fun K hK=>?_)|(apply zdL 7 [(3,12),(5,12),(6,12)] fun K hK=>?_)|(apply ou 10 fun K hK=>?_)|(apply zdK ?_;try intro _)|(apply zdM ?_ ?_<;>clear hK K)|apply bl ?_|apply am ?_|apply zdr ?_)
   all_goals first
    |exact zdR
    |skip
   all_goals (refine⟨eI,_,eR,?_⟩;try simp only[zdn])
   exact fin
end
section
structure zfm (a b:Bd):Prop where
 l:a.l<+:b.l
 n:a.loops<=b.loops
theorem zfm.refl(a:Bd):zfm a a:=⟨vz _,aM _⟩
theorem zfm.trans{a b c:Bd}(h:zfm a b)(k:zfm b c):zfm a c:=⟨h.l.trans k.l,eT h.n k.n⟩
structure Fin (s:Bd):Prop where
 r:∀x∈s.l,NdR x
 l:s.l.length<2^36
 n:s.loops<2^36
theorem Fin.le{a b:Bd}(h:Fin b)(k:zfm a b):Fin a:=⟨fun x I=>h.r x (k.l.subset I),u5 k.l.length_le h.l,u5 k.n h.n⟩
structure Lv (a b:Bd):Prop where
 le:zfm a b
 v:b.vars=a.vars
 n:b.loops=a.loops
theorem Lv.refl(a:Bd):Lv a a:=⟨zfm.refl a,rfl,rfl⟩
theorem Lv.trans{a b c:Bd}(h:Lv a b)(k:Lv b c):Lv a c:=⟨h.le.trans k.le,k.v.trans h.v,k.n.trans h.n⟩
theorem Lv.setS{a b:Bd}(h:Lv a b)(x:Int):Lv a {b with state:=x}:=⟨⟨h.le.l,h.le.n⟩,h.v,h.n⟩
theorem zfP(n:Nd)(s:Bd):Lv s (zeK n s).2:=⟨⟨CG s.l n,aM _⟩,rfl,rfl⟩
theorem yP(c a b:Int)(s:Bd):Lv s (zfh c a b s).2:=by
 unfold zfh;split
 .exact Lv.refl s
 .exact zfP _ s
theorem yQ(t v:Int)(s:Bd):Lv s (vG t v s):=(zfP _ s).setS _
theorem Kc(t v:Int)(s:Bd):Lv s (tk t v s):=(zfP _ s).trans ((zfP _ _).trans (yQ _ _ _))
theorem Kd(v:Int)(s:Bd):Lv s (tl v s):=(zfP _ s).trans ((zfP _ _).trans (yQ _ _ _))
theorem vI(c:Cx):∀(n:Nat) (x:Ex) (s:Bd) (r:Int×Bd),k1 c n x s=some r->Lv s r.2
 |0,_,_,_,h=>by simp[k1]at h
 |n+1,x,s,r,h=>by
  have U:=vI c n;unfold k1 at h;split at h
  .cases h;exact zfP _ s
  split at h
  .obtain⟨v,_,rfl⟩:=mR.1 h;exact Lv.refl s
  split at h
  .simp only[cm,aA]at h;obtain⟨k,_,zdu,i,a,_,rfl⟩:=h;exact(U _ _ _ i).trans ((Kc _ _ _).trans (zfP _ _))
  split at h
  .simp only[cm,aA]at h;obtain⟨zex,_,zdP,A,zeb,_,zdu,i,k2,_,r2,g,rfl⟩:=h;have a:=(U _ _ _ A).trans (U _ _ _ i);have b:=(a.setS zdP.2.state).trans (U _ _ _ g);exact(b.trans ((yP _ _ _ _).trans (yP _ _ _ _))).setS _
  .simp only[cm]at h;obtain⟨zex,_,zdP,A,h⟩:=h;have a:=U _ _ _ A;split at h
   .cases h;exact a.trans (zfP _ _)
   .simp only[cm,aA]at h;obtain⟨zeb,_,zdu,i,rfl⟩:=h;have b:=a.trans (U _ _ _ i);refine Lv.trans ?_ (zfP _ _);split
    .exact b.trans (Kd _ _)
    .exact b
def tyLoC.tyF:=ad @b9 (ad @dA (ad @ea (ad @eO (ad @iq (ad @kQ (ad @na (ad @kj (ad @qx (@uI)))))))))
open tyLoC
noncomputable def Ke:{c:SC // aC 8 (Tryz.f90.body.getD .skip)=c}:=by
 refine⟨?_,?_⟩;rotate_left
 .simp only[Tryz.f90,a5,aC,zdG,zdD,zdH,zdI,Nat.blt,Nat.ble];rfl
noncomputable def Kf:{c:SC // aC 18 (Tryz.f141.body.getD .skip)=c}:=by
 refine⟨?_,?_⟩;rotate_left
 .simp only[Tryz.f141,a5,aC,zdG,zdD,zdH,zdI,Nat.blt,Nat.ble];rfl
noncomputable def yR:{c:SC // aC 19 (Tryz.f177.body.getD .skip)=c}:=by
 refine⟨?_,?_⟩;rotate_left
 .simp only[Tryz.f177,a5,aC,zdG,zdD,zdH,zdI,Nat.blt,Nat.ble];rfl
noncomputable def Kg:{c:SC // aC 25 (Tryz.f139.body.getD .skip)=c}:=by
 refine⟨?_,?_⟩;rotate_left
 .simp only[Tryz.f139,a5,aC,zdG,zdD,zdH,zdI,Nat.blt,Nat.ble];rfl
def nK(X:Lx)(S:Nat->Prop)(M:AV)(H:Hp)(r:Int×Bd)(v:AV)(H':Hp):Prop:=v=.int .i64 r.1/\∃Z g,RepL X H' Z r.2 g M/\FrL X S M H Z M H'
def Kh(X:Lx)(S:Nat->Prop)(M:AV)(H:Hp)(r:Bd)(v:AV)(H':Hp):Prop:=∃Z g U,RepL X H' Z r g U/\FrL X S M H Z U H'
def Ki(X:Lx)(S:Nat->Prop)(M:AV)(H:Hp)(r:Bd)(v:AV)(H':Hp):Prop:=∃Z g,RepL X H' Z r g M/\FrL X S M H Z M H'
theorem tp.val{X:Lx}{S:Nat->Prop}{M kv:AV}{H z H':Hp}{n:Nd}{s:Bd}{v:AV}(h:tp X S M kv z n s v H')(m:FrL X S M H S M z)(j:∀k,zeG kv k->H.next<=k):nK X S M H (zeK n s) v H':=by
 obtain⟨i,Z,g,Y,o,U,V⟩:=h;refine⟨i,Z,g,Y,eT m.next o,fun k a b c d e=>?_,fun k a=>?_,fun k a=>.inl a⟩
 .rw[U k (gz a m.next) b c d];exact m.get k a b c d e
 .rcases V k a with a|a|a
  .exact .inl a
  .exact .inr (j k a)
  .exact .inr (eT m.next a)
theorem Kj{r o n z k:Nat}(h:zeG (.sl r o n z) k):k=r:=by
 obtain⟨m,e⟩:=h;simp only[AV.sl.injEq]at e;exact e.1.symm
theorem Kk{k:Nat}(h:zeG .nilS k):False:=by
 obtain⟨m,e⟩:=h;cases e
theorem nL{tb:List En}(U:LowT tb){X:Lx}{H z:Hp}{S:Nat->Prop}{s:Bd}{Y M:AV}(V:RepL X z S s Y M)(L:FrL X S M H S M z)(n:Nd){r m:Nat}(K:n.kids.length=m)(C:z.get r=some (.cells (n.kids.map (.int .i64)) 0 true))(hr:H.next<=r)(O:r<z.next)(J:X.b<r)(hS:¬S r)(I:¬zeG M r)(Z:Fin (zeK n s).2){op imm:Int}(g:n.op=op)(A:n.imm=imm):
 zdw Tryz.prog (zdp pls tb) 89 [.ptr X.b 0,.int .i64 op,.int .i64 imm,.sl r 0 m 1] z (nK X S M H (zeK n s)):=by
 subst K;subst g;subst A;refine a9 ?_ (Kb U V n (.inr ⟨r,0,rfl,C,cG _,cG _,O⟩) (fun k j=>?_) Z.r (u5 (CG s.l n).length_le Z.l))
 .intro v H' h;exact h.val L fun k j=>by rw[Kj j];exact hr
 .rw[Kj j];exact⟨J,hS,I⟩
theorem zyn{tb:List En}(U:LowT tb){X:Lx}{H z:Hp}{S:Nat->Prop}{s:Bd}{Z M:AV}(Y:RepL X z S s Z M)(m:FrL X S M H S M z)(op imm:Int)(A:Fin (zeK ⟨op,imm,[]⟩ s).2):
 zdw Tryz.prog (zdp pls tb) 89 [.ptr X.b 0,.int .i64 op,.int .i64 imm,.nilS] z (nK X S M H (zeK ⟨op,imm,[]⟩ s)):=by
 refine a9 ?_ (Kb U Y ⟨op,imm,[]⟩ (.inl ⟨rfl,rfl⟩) (fun k j=>(Kk j).elim) A.r (u5 (CG s.l _).length_le A.l));intro v H' h;exact h.val m fun k j=>(Kk j).elim
theorem RepL.new{X:Lx}{H:Hp}{S:Nat->Prop}{s:Bd}{j M:AV}(h:RepL X H S s j M){r:Nat}(hr:H.next<=r):¬S r/\¬zeG M r/\X.b<r:=⟨fun e=>by have:=(h.sS r e).2.1;omega,fun e=>by have:=(h.vS r e).2;omega,by have:=h.o5;omega⟩
theorem nK.pre{X:Lx}{S Z:Nat->Prop}{M:AV}{H zd3:Hp}{r:Int×Bd}{v:AV}{H':Hp}(h:nK X S M H r v H')(m:FrL X Z M zd3 S M H):nK X Z M zd3 r v H':=by
 obtain⟨i,Y,g,V,o⟩:=h;exact⟨i,Y,g,V,m.trans o⟩
theorem yS{tb:List En}(U:LowT tb){X:Lx}{H z:Hp}{S:Nat->Prop}{s:Bd}{j Z:AV}(Y:RepL X z S s j Z)(m:FrL X S Z H S Z z)(n:Int)(A:Fin (zeK ⟨1,n,[]⟩ s).2):
 zdw Tryz.prog (zdp pls tb) 90 [.ptr X.b 0,.int .i64 n] z (nK X S Z H (zeK ⟨1,n,[]⟩ s)):=by
 have J:Plain (zdp pls tb) 90:=U.plain dj;refine zdv (M:=8) (rs:=[.tmp 4]) (J.call _) J.ice J.froz Tryz.func90 rfl rfl Ke.2 rfl ?_;dsimp only[Ke,zds,Nat.reduceAdd];repeat' (first
  |(apply zdk ?_;clear hK K)|apply Rx.o ?_|apply ak ?_|(apply zdl fun K hK=>?_)|fail)
 refine bh rfl bm bo ?_;simp only[bJ];refine a9 ?_ (zyn U Y m 1 n A);rintro v V g;obtain⟨rfl,o⟩:=id g;dsimp only[zdE];repeat' (first
  |(apply zdk ?_;clear hK K)|apply Rx.o ?_|apply am ?_)
 all_goals (refine⟨eI,_,eR,?_⟩;try simp only[zdn])
 exact g
theorem yT(H:Hp)(a b:Int):zeP Tryz.prog H 23 2 [(0,.int .i64 a),(1,.int .i64 b)]=some (.sl H.next 0 2 1,H.alloc (.cells [.int .i64 a,.int .i64 b] 0 true)):=af
theorem Kl(H:Hp)(a b c:Int):zeP Tryz.prog H 23 3 [(0,.int .i64 a),(1,.int .i64 b),(2,.int .i64 c)]=some (.sl H.next 0 3 1,H.alloc (.cells [.int .i64 a,.int .i64 b,.int .i64 c] 0 true)):=af
theorem bI1(H:Hp)(a:Int):zeP Tryz.prog H 23 1 [(0,.int .i64 a)]=some (.sl H.next 0 1 1,H.alloc (.cells [.int .i64 a] 0 true)):=af
theorem CK{tb:List En}(U:LowT tb){X:Lx}{H z:Hp}{S:Nat->Prop}{s:Bd}{j Z:AV}(Y:RepL X z S s j Z)(V:FrL X S Z H S Z z)(t v:Int)(A:Fin (vG t v s)):
 zdw Tryz.prog (zdp pls tb) 141 [.ptr X.b 0,.int .i64 t,.int .i64 v] z (Ki X S Z H (vG t v s)):=by
 have J:Plain (zdp pls tb) 141:=U.plain dj;have zeW:=Y.m;unfold zfe at zeW;refine zdv (M:=18) (rs:=[]) (J.call _) J.ice J.froz Tryz.func141 rfl rfl Kf.2 rfl ?_;dsimp only[Kf,zds,Nat.reduceAdd];have I:=@yT;repeat' (first
  |apply Rx.o ?_|(apply zdl fun K hK=>?_)|fail)
 refine bh rfl bm bo ?_;simp only[bJ];have m:=Y.new (aM _);refine a9 ?_ (nL U (Y.alloc _) (V.alloc _) ⟨27,t,[s.state,v]⟩ rfl hC V.next (cP _) m.2.2 m.1 m.2.1 (A.le ⟨vz _,aM _⟩) rfl rfl);rintro w C ⟨rfl,O,g,i,L⟩;have F:=i.m;unfold zfe at F;dsimp only[zdE];repeat' (first
  |(apply zdk ?_;clear hK K)|apply Rx.o ?_|apply bp ?_|fail)
 all_goals (refine⟨eI,_,eR,?_⟩;try simp only[zdn])
 obtain⟨a,b⟩:=i.setS (zeK ⟨27,t,[s.state,v]⟩ s).1;exact⟨O,g,a,L.trans b⟩
theorem Km{tb:List En}(L:LowT tb){X:Lx}{H Y:Hp}{S:Nat->Prop}{s:Bd}{j Z:AV}(U:RepL X Y S s j Z)(m:FrL X S Z H S Z Y)(c a b:Int)(A:Fin (zfh c a b s).2):
 zdw Tryz.prog (zdp pls tb) 177 [.ptr X.b 0,.int .i64 c,.int .i64 a,.int .i64 b] Y (nK X S Z H (zfh c a b s)):=by
 have J:Plain (zdp pls tb) 177:=L.plain dj;by_cases h:a=b
 .subst h;have e:zfh c a a s=(a,s):=by rw[zfh,az rfl]
  rw[e];refine zdv (M:=19) (rs:=[.tmp 8]) (J.call _) J.ice J.froz Tryz.func177 rfl rfl yR.2 rfl ?_;dsimp only[yR,zds,Nat.reduceAdd];repeat' (first
   |(apply zdk ?_;clear hK K)|apply Ry.o ?_|(apply aD (fun z V=>?_) (fun z V=>?_)<;>try(cases z;done))|apply ak ?_|(apply zdl fun K hK=>?_)|apply am ?_)
  all_goals (refine⟨eI,_,eR,?_⟩;try simp only[zdn])
  exact⟨rfl,S,j,U,m⟩
 .have e:zfh c a b s=zeK ⟨22,0,[c,a,b]⟩ s:=by rw[zfh,ai h]
  rw[e]at A⊢;have O:=U.new (aM _);refine zdv (M:=19) (rs:=[.tmp 8]) (J.call _) J.ice J.froz Tryz.func177 rfl rfl yR.2 rfl ?_;dsimp only[yR,zds,Nat.reduceAdd];have I:=@Kl;repeat' (first
   |(apply zdk ?_;clear hK K)|apply Ry.o ?_|(apply aD (fun z V=>?_) (fun z V=>?_)<;>try(cases z;done))|apply ak ?_|(apply zdl fun K hK=>?_)|apply zdm ?_|fail)
  refine bh rfl bm bo ?_;simp only[bJ];refine a9 ?_ (nL L (U.alloc _) (m.alloc _) ⟨22,0,[c,a,b]⟩ rfl hC m.next (cP _) O.2.2 O.1 O.2.1 A rfl rfl);intro w F g;obtain⟨rfl,o⟩:=id g;dsimp only[zdE];repeat' (first
   |(apply zdk ?_;clear hK K)|apply Rx.o ?_|apply am ?_)
  all_goals (refine⟨eI,_,eR,?_⟩;try simp only[zdn])
  exact g
theorem znI{tb:List En}(U:LowT tb){X:Lx}{H z:Hp}{S:Nat->Prop}{s:Bd}{j Y:AV}(O:RepL X z S s j Y)(I:FrL X S Y H S Y z)(k:Nat)(i:Int){a:Ar}(ha:X.p.arrays[k]?=some a)(A:Fin (tk a.len i s)):
 zdw Tryz.prog (zdp pls tb) 139 [.ptr X.b 0,.int .i64 (k:Int),.int .i64 i] z (Ki X S Y H (tk a.len i s)):=by
 have J:Plain (zdp pls tb) 139:=U.plain dj;have zeW:=O.m;unfold zfe at zeW;have Z:Fin (zeK ⟨19,0,[i,(zeK ⟨1,a.len,[]⟩ s).1]⟩ (zeK ⟨1,a.len,[]⟩ s).2).2:=A.le (yQ _ _ _).le;have V:Fin (zeK ⟨1,a.len,[]⟩ s).2:=Z.le (zfP _ _).le;refine zdv (M:=25) (rs:=[]) (J.call _) J.ice J.froz Tryz.func139 rfl rfl Kg.2 rfl ?_;dsimp only[Kg,zds,Nat.reduceAdd];repeat' (first
  |apply Rx.o ?_|apply ak ?_|(apply zdl fun K hK=>?_)|fail)
 refine bh rfl bm bo ?_;simp only[bJ];refine a9 ?_ (yS U O I a.len V);rintro w H2 ⟨rfl,S2,F,L,C⟩;dsimp only[zdE];have m:=L.new (aM _);have gh0:=@yT;repeat' (first
  |(apply zdk ?_;clear hK K)|apply Rx.o ?_|(apply zdl fun K hK=>?_)|fail)
 refine bh rfl bm bo ?_;simp only[bJ];refine a9 ?_ (nL U (L.alloc _) ((fw _ _ _ _).alloc _) ⟨19,0,[i,(zeK ⟨1,a.len,[]⟩ s).1]⟩ rfl hC (aM _) (cP _) m.2.2 m.1 m.2.1 Z rfl rfl);rintro w H3 ⟨rfl,S3,o,R3,F3⟩;dsimp only[zdE];repeat' (first
  |(apply zdk ?_;clear hK K)|fail)
 refine bh rfl bm bo ?_;simp only[bJ];refine a9 ?_ (CK U R3 (fw _ _ _ _) 2 _ A);rintro w H4 ⟨S4,g,R4,F4⟩;dsimp only[zdE];repeat' (first
  |(apply zdk ?_;clear hK K)|fail)
 all_goals (refine⟨eI,_,eR,?_⟩;try simp only[zdn])
 exact⟨S4,g,R4,C.trans (F3.trans F4)⟩
end
section
def tyLoD.tyF:=ad @cN (ad @b9 (ad @dA (ad @ea (ad @eO (ad @kj (ad @iN (ad @gF (ad @qx (ad @uI (ad @yT (@bI1)))))))))))
open tyLoD
noncomputable def lS:{c:SC // aC 110 (Tryz.f92.body.getD .skip)=c}:=by
 refine⟨?_,?_⟩;rotate_left
 .simp only[Tryz.f92,a5,aC,zdG,zdD,zdH,zdI,Nat.blt,Nat.ble];rfl
noncomputable def Kn:{c:SC // aC 58 (Tryz.f140.body.getD .skip)=c}:=by
 refine⟨?_,?_⟩;rotate_left
 .simp only[Tryz.f140,a5,aC,zdG,zdD,zdH,zdI,Nat.blt,Nat.ble];rfl
structure CxOk (X:Lx) (c:Cx):Prop where
 ar:c.arrays=X.p.arrays
 ae:∀nm,er X.ae nm=kF (c.arrays.map (·.name)) nm
 ne:∀nm,er X.ne nm=kF c.names nm
 fe:∀nm,0<=jw c.funcs nm 0->er X.fe nm=jw c.funcs nm 0
theorem FrL.box{X:Lx}{z g:Hp}{S Y:Nat->Prop}{s:Bd}{j Z V:AV}(M:RepL X z S s j Z){b:HB}(h:FrL X S Z (z.alloc b) Y V g):g.get z.next=some b:=by
 have n:=M.new (aM _);have U:=M.o3;have C:=M.o4;rw[h.get _ (cP _) (by have:=n.2.2;omega) (by have:=n.2.2;omega) n.1 n.2.1,zdq,az rfl]
def nM:=@FrL.box
theorem RepL.lkN{X:Lx}{c:Cx}(g:CxOk X c){H:Hp}{S:Nat->Prop}{s:Bd}{j M:AV}(Z:RepL X H S s j M)(nm:zea):zfv Tryz.prog H 110 (.map X.rn) (.str nm) false=some (.int .i64 (kF c.names nm)):=by
 rw[<-g.ne];exact EH (P:=Tryz.prog) Tryz.underlying110 zgj CJ Z.n nm
theorem RepL.lkA{X:Lx}{c:Cx}(g:CxOk X c){H:Hp}{S:Nat->Prop}{s:Bd}{j M:AV}(Z:RepL X H S s j M)(nm:zea):zfv Tryz.prog H 110 (.map X.ra) (.str nm) false=some (.int .i64 (kF (c.arrays.map (·.name)) nm)):=by
 rw[<-g.ae];exact EH (P:=Tryz.prog) Tryz.underlying110 zgj CJ Z.a nm
theorem RepL.atV{X:Lx}{H:Hp}{S:Nat->Prop}{s:Bd}{j M:AV}(h:RepL X H S s j M){i:Nat}{x:Int}(A:s.vars[i]?=some x):∃r,zdV Tryz.prog 23 M (.int .i64 (i:Int))=some (.ptr r i)/\zeX Tryz.prog H 3 (.ptr r i)=some (.int .i64 x):=by
 have o:i<s.vars.length:=by
  by_cases c:i<s.vars.length
  .exact c
  .rw[fg ac]at A;cases A
 obtain⟨r,Z,g,_⟩:=h.setV o 0;refine⟨r,Z,?_⟩;rw[g,cS,A];rfl
set_option maxRecDepth 100000 in
theorem Ko{tb:List En}(U:LowT tb){X:Lx}{c:Cx}(hX:CxOk X c):∀(n:Nat) (x:Ex) (s:Bd) (r:Int×Bd),k1 c n x s=some r->Fin r.2->∀{H H1:Hp}{S:Nat->Prop}{lv vv:AV},RepL X H1 S s lv vv->FrL X S vv H S vv H1 ->
 zdw Tryz.prog (zdp pls tb) 92 [.ptr X.b 0,.agg x.cells] H1 (nK X S vv H r)
 |0,x,s,r,h,_,_,_,_,_,_,_,_=>by simp[k1]at h
 |n+1,x,s,r,h,hF,H,H1,S,lv,vv,hR,hf=>by
  have IH:=Ko U hX n;have J:Plain (zdp pls tb) 92:=U.plain dj;have hwc:Plain (zdp pls tb) 140:=U.plain dj;have i:=hR.alloc (.cells x.cells 0 true);have F1:=hf.alloc (.cells x.cells 0 true);have zeW:=i.m;unfold zfe at zeW;have nw:=hR.new (aM _);unfold k1 at h;by_cases h1:x.kind=1
  .rw[az h1,aA]at h;subst h;refine zdv (M:=110) (rs:=[.tmp 4]) (J.call _) J.ice J.froz Tryz.func92 rfl rfl lS.2 rfl ?_;dsimp only[lS,zds,Nat.reduceAdd];repeat' (first
    |(apply zdk ?_;clear hK K)|apply Ry.o ?_|(apply aD (fun z V=>?_) (fun z V=>?_)<;>try(cases z;done))|apply ak ?_|(apply zdl fun K hK=>?_)|apply au ?_|fail)
   refine bh rfl bm bo ?_;simp only[bJ];refine a9 ?_ (yS U i F1 x.n hF);intro w H2 h2;obtain⟨rfl,h3⟩:=id h2;dsimp only[zdE];repeat' (first
    |(apply zdk ?_;clear hK K)|apply Rx.o ?_|apply am ?_)
   all_goals (refine⟨eI,_,eR,?_⟩;try simp only[zdn])
   exact h2
  rw[ai h1]at h;by_cases h2:x.kind=2
  .rw[az h2]at h;obtain⟨v,hv,rfl⟩:=mR.1 h;have hlk:=i.lkN hX x.name;obtain⟨q,hix,hld⟩:=i.atV hv;refine zdv (M:=110) (rs:=[.tmp 4]) (J.call _) J.ice J.froz Tryz.func92 rfl rfl lS.2 rfl ?_;dsimp only[lS,zds,Nat.reduceAdd];repeat' (first
    |(apply zdk ?_;clear hK K)|apply Ry.o ?_|(apply aD (fun z V=>?_) (fun z V=>?_)<;>try(cases z;done))|apply ak ?_|(apply zdl fun K hK=>?_)|(apply zdL 5 [(3,14),(7,14),(9,14),(10,14),(12,14)] fun K hK=>?_)|(apply zdK ?_;try intro _)|(apply zdM ?_ ?_<;>clear hK K)|apply bl ?_|apply au ?_|apply am ?_)
   all_goals first
    |exact zdR
    |skip
   all_goals (refine⟨eI,_,eR,?_⟩;try simp only[zdn])
   exact⟨rfl,S,lv,i,F1⟩
  rw[ai h2]at h;by_cases h3:x.kind=3
  .rw[az h3]at h;simp only[cm,aA]at h;obtain⟨k,hk,zdu,he,a,ha,rfl⟩:=h;have ha':X.p.arrays[kF (c.arrays.map (·.name)) x.name]?=some a:=by rw[<-hX.ar];exact ha
   have hFc:Fin (tk a.len zdu.1 zdu.2):=hF.le (zfP _ _).le;have hlk1:=i.lkA hX x.name;refine zdv (M:=110) (rs:=[.tmp 4]) (J.call _) J.ice J.froz Tryz.func92 rfl rfl lS.2 rfl ?_;dsimp only[lS,zds,Nat.reduceAdd];repeat' (first
    |(apply zdk ?_;clear hK K)|apply Ry.o ?_|(apply aD (fun z V=>?_) (fun z V=>?_)<;>try(cases z;done))|apply ak ?_|(apply zdl fun K hK=>?_)|(apply zdL 7 [(2,5),(4,5),(9,5),(9,15),(11,5),(11,15),(12,5),(12,15)] fun K hK=>?_)|(apply zdK ?_;try intro _)|apply bl ?_|apply au ?_|fail)
   refine bh rfl bm bo ?_;simp only[dS];refine a9 ?_ (IH k s zdu he (hFc.le (Kc _ _ _).le) i (fw _ _ _ _));rintro v H2 ⟨rfl,S2,lv2,I,j⟩;have g2:=nM hR j;have m2:=I.m;unfold zfe at m2;have hlk:=I.lkA hX x.name;have n2:H1.next+1<=H2.next:=j.next
   dsimp only[zdE];repeat' (first
    |apply Rx.o ?_|apply ak ?_|(apply zdl fun K hK=>?_)|(apply zdK ?_;try intro _)|(apply zdM ?_ ?_<;>clear hK K)|apply bl ?_|fail)
   .exact zdR
   .refine bh rfl bm bo ?_;simp only[bJ];refine a9 ?_ (znI U I (fw _ _ _ _) (kF (c.arrays.map (·.name)) x.name) zdu.1 ha' hFc);rintro w H3 ⟨S3,lv3,F,F3⟩;have m3:=F.m;unfold zfe at m3;have Z:=F.new (aM _);dsimp only[zdE];repeat' (first
     |(apply zdk ?_;clear hK K)|apply Rx.o ?_|apply ak ?_|(apply zdl fun K hK=>?_)|fail)
    refine bh rfl bm bo ?_;simp only[bJ];refine a9 ?_ (nL U (F.alloc _) ((fw _ _ _ _).alloc _) ⟨23,kF (c.arrays.map (·.name)) x.name,[(tk a.len zdu.1 zdu.2).state,zdu.1]⟩ rfl hC (aM _) (cP _) Z.2.2 Z.1 Z.2.1 hF rfl rfl);intro w H4 h4;have h5:=h4.pre (F1.trans (j.trans F3));obtain⟨rfl,h6⟩:=h4;dsimp only[zdE];repeat' (first
     |(apply zdk ?_;clear hK K)|apply Rx.o ?_|apply am ?_)
    all_goals (refine⟨eI,_,eR,?_⟩;try simp only[zdn])
    exact h5
  rw[ai h3]at h;by_cases h5:x.kind=5
  .rw[az h5]at h;simp only[cm,aA]at h;obtain⟨zex,hk0,zdP,e0,zeb,hk1,zdu,e1,k2,hk2,r2,e2,rfl⟩:=h;have hFt:Fin (zfh zdP.1 zdu.2.state (zfh zdP.1 zdu.1 r2.1 r2.2).2.state (zfh zdP.1 zdu.1 r2.1 r2.2).2).2:=hF.le ⟨vz _,aM _⟩;have hFv:Fin (zfh zdP.1 zdu.1 r2.1 r2.2).2:=hFt.le (yP _ _ _ _).le;have hF2:Fin r2.2:=hFv.le (yP _ _ _ _).le;have o:Fin zdu.2:=(hF2.le (vI c n _ _ _ e2).le).le ⟨vz _,aM _⟩;have g:Fin zdP.2:=o.le (vI c n _ _ _ e1).le;refine zdv (M:=110) (rs:=[.tmp 4]) (J.call _) J.ice J.froz Tryz.func92 rfl rfl lS.2 rfl ?_;dsimp only[lS,zds,Nat.reduceAdd];repeat' (first
    |(apply zdk ?_;clear hK K)|apply Ry.o ?_|(apply aD (fun z V=>?_) (fun z V=>?_)<;>try(cases z;done))|apply ak ?_|(apply zdl fun K hK=>?_)|apply au ?_|fail)
   refine bh rfl bm bo ?_;simp only[bJ];have R1c:=i.alloc (.cells x.cells 0 true);have F1c:=F1.alloc (.cells x.cells 0 true);have main:zdw Tryz.prog (zdp pls tb) 140 [.ptr X.b 0,.agg x.cells] (H1.alloc (.cells x.cells 0 true)) (nK X S vv H ((zfh zdP.1 zdu.1 r2.1 r2.2).1,{ (zfh zdP.1 zdu.2.state (zfh zdP.1 zdu.1 r2.1 r2.2).2.state (zfh zdP.1 zdu.1 r2.1 r2.2).2).2 with state:=(zfh zdP.1 zdu.2.state (zfh zdP.1 zdu.1 r2.1 r2.2).2.state (zfh zdP.1 zdu.1 r2.1 r2.2).2).1})):=by
    clear zeW nw;refine zdv (M:=58) (rs:=[.tmp 4]) (hwc.call _) hwc.ice hwc.froz Tryz.func140 rfl rfl Kn.2 rfl ?_;dsimp only[Kn,zds,Nat.reduceAdd];repeat' (first
     |(apply zdk ?_;clear hK K)|apply Ry.o ?_|apply ak ?_|(apply zdl fun K hK=>?_)|fail)
    refine bh rfl bm bo ?_;simp only[bJ];refine a9 ?_ (IH zex s zdP e0 g R1c (fw _ _ _ _));rintro v H2 ⟨rfl,S2,lv2,I,j⟩;have g2:=nM i j;simp only[zdA]at g2;have m2:=I.m;unfold zfe at m2;dsimp only[zdE];repeat' (first
     |(apply zdk ?_;clear hK K)|apply Ry.o ?_|apply ak ?_|(apply zdl fun K hK=>?_)|fail)
    refine bh rfl bm bo ?_;simp only[bJ];refine a9 ?_ (IH zeb _ zdu e1 o I (fw _ _ _ _));rintro v H3 ⟨rfl,S3,lv3,F,F3⟩;have g3:=nM i (j.trans F3);have m3:=F.m;obtain⟨R3s,F3s⟩:=F.setS zdP.2.state;have g3s:=nM i (j.trans (F3.trans F3s));simp only[zdA]at g3 g3s;unfold zfe at m3;dsimp only[zfe]at R3s F3s g3s;dsimp only[zdE];repeat' (first
     |(apply zdk ?_;clear hK K)|apply Ry.o ?_|apply b4 ?_|apply ak ?_|(apply zdl fun K hK=>?_)|fail)
    refine bh rfl bm bo ?_;simp only[bJ];refine a9 ?_ (IH k2 _ r2 e2 hF2 R3s (fw _ _ _ _));rintro v H4 ⟨rfl,S4,lv4,R4,F4⟩;dsimp only[zdE];repeat' (first
     |(apply zdk ?_;clear hK K)|apply Rx.o ?_|apply ak ?_|(apply zdl fun K hK=>?_)|fail)
    refine bh rfl bm bo ?_;simp only[bJ];refine a9 ?_ (Km U R4 (fw _ _ _ _) zdP.1 zdu.1 r2.1 hFv);rintro v H5 ⟨rfl,S5,lv5,R5,F5⟩;have m5:=R5.m;unfold zfe at m5;dsimp only[zdE];repeat' (first
     |(apply zdk ?_;clear hK K)|apply Rx.o ?_|apply ak ?_|(apply zdl fun K hK=>?_)|fail)
    refine bh rfl bm bo ?_;simp only[bJ];refine a9 ?_ (Km U R5 (fw _ _ _ _) zdP.1 zdu.2.state _ hFt);rintro v H6 ⟨rfl,S6,m,R6,F6⟩;have m6:=R6.m;unfold zfe at m6;dsimp only[zdE];repeat' (first
     |(apply zdk ?_;clear hK K)|apply Rx.o ?_|apply bp ?_|apply ak ?_|(apply zdl fun K hK=>?_)|apply am ?_)
    all_goals (refine⟨eI,_,eR,?_⟩;try simp only[zdn])
    obtain⟨R7,F7⟩:=R6.setS (zfh zdP.1 zdu.2.state (zfh zdP.1 zdu.1 r2.1 r2.2).2.state (zfh zdP.1 zdu.1 r2.1 r2.2).2).1;exact⟨rfl,S6,m,R7,F1c.trans (j.trans (F3.trans (F3s.trans (F4.trans (F5.trans (F6.trans F7))))))⟩
   refine a9 ?_ main;intro w H2 h2;obtain⟨rfl,h3⟩:=id h2;dsimp only[zdE];repeat' (first
    |(apply zdk ?_;clear hK K)|apply Rx.o ?_|apply am ?_)
   all_goals (refine⟨eI,_,eR,?_⟩;try simp only[zdn])
   exact h2
  rw[ai h5]at h;simp only[cm]at h;obtain⟨zex,hk0,zdP,e0,h⟩:=h;by_cases hz:x.kids.length=1
  .rw[az hz,aA]at h;subst h;have g:Fin zdP.2:=hF.le (zfP _ _).le;have hz':((x.kids.length:Nat):Int)=1:=ac;refine zdv (M:=110) (rs:=[.tmp 4]) (J.call _) J.ice J.froz Tryz.func92 rfl rfl lS.2 rfl ?_;dsimp only[lS,zds,Nat.reduceAdd];repeat' (first
    |(apply zdk ?_;clear hK K)|apply Ry.o ?_|(apply aD (fun z V=>?_) (fun z V=>?_)<;>try(cases z;done))|apply ak ?_|(apply zdl fun K hK=>?_)|apply au ?_|apply zdm ?_|fail)
   refine bh rfl bm bo ?_;simp only[bJ];refine a9 ?_ (IH zex s zdP e0 g i (fw _ _ _ _));rintro v H2 ⟨rfl,S2,lv2,I,j⟩;have g2:=nM hR j;have nw2:=I.new (aM _);dsimp only[zdE];repeat' (first
    |(apply zdk ?_;clear hK K)|apply Ry.o ?_|(apply aD (fun z V=>?_) (fun z V=>?_)<;>try(cases z;done))|apply ak ?_|(apply zdl fun K hK=>?_)|fail)
   refine bh rfl bm bo ?_;simp only[bJ];refine a9 ?_ (nL U (I.alloc _) ((fw _ _ _ _).alloc _) ⟨x.op,0,[zdP.1]⟩ rfl hC (aM _) (cP _) nw2.2.2 nw2.1 nw2.2.1 hF rfl rfl);intro w H4 h4;have h5:=h4.pre (F1.trans j);obtain⟨rfl,h6⟩:=h4;dsimp only[zdE];repeat' (first
    |(apply zdk ?_;clear hK K)|apply Rx.o ?_|apply am ?_)
   all_goals (refine⟨eI,_,eR,?_⟩;try simp only[zdn])
   exact h5
  rw[ai hz]at h;simp only[cm,aA]at h;obtain⟨zeb,hk1,zdu,e1,rfl⟩:=h;have hz':¬((x.kids.length:Nat):Int)=1:=ac;have A:Fin (if x.op=7\/x.op=8 then tl zdu.1 zdu.2 else zdu.2):=hF.le (zfP _ _).le;have o:Fin zdu.2:=by
   split at A
   .exact A.le (Kd _ _).le
   .exact A
  have g:Fin zdP.2:=o.le (vI c n _ _ _ e1).le;generalize hq:(if x.op=7\/x.op=8 then tl zdu.1 zdu.2 else zdu.2)=q at *;refine zdv (M:=110) (rs:=[.tmp 4]) (J.call _) J.ice J.froz Tryz.func92 rfl rfl lS.2 rfl ?_;dsimp only[lS,zds,Nat.reduceAdd];repeat' (first
   |(apply zdk ?_;clear hK K)|apply Ry.o ?_|(apply aD (fun z V=>?_) (fun z V=>?_)<;>try(cases z;done))|apply ak ?_|(apply zdl fun K hK=>?_)|apply au ?_|apply zdm ?_|fail)
  refine bh rfl bm bo ?_;simp only[bJ];refine a9 ?_ (IH zex s zdP e0 g i (fw _ _ _ _));rintro v H2 ⟨rfl,S2,lv2,I,j⟩;have g2:=nM hR j;dsimp only[zdE];repeat' (first
   |(apply zdk ?_;clear hK K)|apply Ry.o ?_|(apply aD (fun z V=>?_) (fun z V=>?_)<;>try(cases z;done))|apply ak ?_|(apply zdl fun K hK=>?_)|apply zdm ?_|fail)
  refine bh rfl bm bo ?_;simp only[bJ];refine a9 ?_ (IH zeb _ zdu e1 o I (fw _ _ _ _));rintro v H3 ⟨rfl,S3,lv3,F,F3⟩;have g3:=nM hR (j.trans F3);have F123:=F1.trans (j.trans F3);dsimp only[zdE];by_cases hd:x.op=7\/x.op=8
  .rw[az hd]at hq;subst hq;have hFq:Fin (zeK ⟨16,0,[zdu.1,(zeK ⟨1,0,[]⟩ zdu.2).1]⟩ (zeK ⟨1,0,[]⟩ zdu.2).2).2:=A.le (yQ _ _ _).le;have hFz:Fin (zeK ⟨1,0,[]⟩ zdu.2).2:=hFq.le (zfP _ _).le;rcases hd with h7|h8
   .repeat' (first
     |(apply zdk ?_;clear hK K)|apply Ry.o ?_|(apply a2 (fun hg O=>?_) (fun hg O=>?_)<;>try(cases hg;done))|(apply aD (fun z V=>?_) (fun z V=>?_)<;>try(cases z;done))|apply ak ?_|(apply zdl fun K hK=>?_)|fail)
    refine bh rfl bm bo ?_;simp only[bJ];refine a9 ?_ (yS U F (fw _ _ _ _) 0 hFz);rintro v H4 ⟨rfl,S4,lv4,R4,F4⟩;have Y:=R4.new (aM _);dsimp only[zdE];repeat' (first
     |apply Rx.o ?_|fail)
    refine bh rfl bm bo ?_;simp only[bJ];refine a9 ?_ (nL U (R4.alloc _) ((fw _ _ _ _).alloc _) ⟨16,0,[zdu.1,(zeK ⟨1,0,[]⟩ zdu.2).1]⟩ rfl hC (aM _) (cP _) Y.2.2 Y.1 Y.2.1 hFq rfl rfl);rintro v H5 ⟨rfl,S5,lv5,R5,F5⟩;dsimp only[zdE];repeat' (first
     |(apply zdk ?_;clear hK K)|fail)
    refine bh rfl bm bo ?_;simp only[bJ];refine a9 ?_ (CK U R5 (fw _ _ _ _) 1 _ A);rintro v H6 ⟨S6,m,R6,F6⟩;have F36:=F4.trans (F5.trans F6);have g6:=nM hR (j.trans (F3.trans F36));have L:=R6.new (aM _);have R6':RepL X H6 S6 (tl zdu.1 zdu.2) m vv:=R6;dsimp only[zdE];repeat' (first
     |(apply zdk ?_;clear hK K)|apply Rx.o ?_|apply ak ?_|(apply zdl fun K hK=>?_)|fail)
    refine bh rfl bm bo ?_;simp only[bJ];refine a9 ?_ (nL U (R6'.alloc _) ((fw _ _ _ _).alloc _) ⟨x.op,0,[zdP.1,zdu.1]⟩ rfl hC (aM _) (cP _) L.2.2 L.1 L.2.1 hF h7 rfl);intro w H7 C;have h5q:=C.pre (F123.trans F36);obtain⟨rfl,h6q⟩:=C;dsimp only[zdE];repeat' (first
     |(apply zdk ?_;clear hK K)|apply Rx.o ?_|apply am ?_)
    all_goals (refine⟨eI,_,eR,?_⟩;try simp only[zdn])
    rw[h7]at h5q⊢;exact h5q
   .have h7:¬x.op=7:=by omega
    repeat' (first
     |(apply zdk ?_;clear hK K)|apply Ry.o ?_|(apply a2 (fun hg O=>?_) (fun hg O=>?_)<;>try(cases hg;done))|(apply aD (fun z V=>?_) (fun z V=>?_)<;>try(cases z;done))|apply ak ?_|(apply zdl fun K hK=>?_)|fail)
    refine bh rfl bm bo ?_;simp only[bJ];refine a9 ?_ (yS U F (fw _ _ _ _) 0 hFz);rintro v H4 ⟨rfl,S4,lv4,R4,F4⟩;have Y:=R4.new (aM _);dsimp only[zdE];repeat' (first
     |apply Rx.o ?_|fail)
    refine bh rfl bm bo ?_;simp only[bJ];refine a9 ?_ (nL U (R4.alloc _) ((fw _ _ _ _).alloc _) ⟨16,0,[zdu.1,(zeK ⟨1,0,[]⟩ zdu.2).1]⟩ rfl hC (aM _) (cP _) Y.2.2 Y.1 Y.2.1 hFq rfl rfl);rintro v H5 ⟨rfl,S5,lv5,R5,F5⟩;dsimp only[zdE];repeat' (first
     |(apply zdk ?_;clear hK K)|fail)
    refine bh rfl bm bo ?_;simp only[bJ];refine a9 ?_ (CK U R5 (fw _ _ _ _) 1 _ A);rintro v H6 ⟨S6,m,R6,F6⟩;have F36:=F4.trans (F5.trans F6);have g6:=nM hR (j.trans (F3.trans F36));have L:=R6.new (aM _);have R6':RepL X H6 S6 (tl zdu.1 zdu.2) m vv:=R6;dsimp only[zdE];repeat' (first
     |(apply zdk ?_;clear hK K)|apply Rx.o ?_|apply ak ?_|(apply zdl fun K hK=>?_)|fail)
    refine bh rfl bm bo ?_;simp only[bJ];refine a9 ?_ (nL U (R6'.alloc _) ((fw _ _ _ _).alloc _) ⟨x.op,0,[zdP.1,zdu.1]⟩ rfl hC (aM _) (cP _) L.2.2 L.1 L.2.1 hF h8 rfl);intro w H7 C;have h5q:=C.pre (F123.trans F36);obtain⟨rfl,h6q⟩:=C;dsimp only[zdE];repeat' (first
     |(apply zdk ?_;clear hK K)|apply Rx.o ?_|apply am ?_)
    all_goals (refine⟨eI,_,eR,?_⟩;try simp only[zdn])
    rw[h8]at h5q⊢;exact h5q
  .rw[ai hd]at hq;subst hq;have h7:¬x.op=7:=fun e=>hd (.inl e);have h8:¬x.op=8:=fun e=>hd (.inr e);have Z:=F.new (aM _);repeat' (first
    |(apply zdk ?_;clear hK K)|apply Ry.o ?_|(apply a2 (fun hg O=>?_) (fun hg O=>?_)<;>try(cases hg;done))|(apply aD (fun z V=>?_) (fun z V=>?_)<;>try(cases z;done))|apply ak ?_|(apply zdl fun K hK=>?_)|apply zdm ?_|fail)
   refine bh rfl bm bo ?_;simp only[bJ];refine a9 ?_ (nL U (F.alloc _) ((fw _ _ _ _).alloc _) ⟨x.op,0,[zdP.1,zdu.1]⟩ rfl hC (aM _) (cP _) Z.2.2 Z.1 Z.2.1 hF rfl rfl);intro w H4 h4;have h5:=h4.pre F123;obtain⟨rfl,h6⟩:=h4;dsimp only[zdE];repeat' (first
    |(apply zdk ?_;clear hK K)|apply Rx.o ?_|apply am ?_)
   all_goals (refine⟨eI,_,eR,?_⟩;try simp only[zdn])
   exact h5
end
section
def tyLoE.tyF:=ad @b9 (ad @lI (ad @dA (ad @ea (ad @eO (ad @kj (ad @iM (ad @iN (ad @gF (ad @qx (ad @uI (ad @xo (@jM))))))))))))
open tyLoE
theorem yU{q n m:Nat}(M:m<n):zdV Tryz.prog 121 (.sl q 0 n 1) (.int .i64 (m:Int))=some (.ptr q m):=by rw[mj Tryz.underlying121 xl M];simp
theorem CL{H:Hp}{r m:Nat}{b:List Bool}(C:H.get r=some (.cells (b.map .bool) 0 true))(M:m<b.length)(x:Bool):jA Tryz.prog H 4 (.ptr r m) (.bool x)=some (H.set r (.cells ((b.set m x).map .bool) 0 true)):=by
 rw[XA C (by rw[cE];exact M),oy]
end
section
def tyLoF.tyF:=ad @cN (ad @b9 (ad @dA (ad @ea (ad @eO (ad @kj (ad @iM (ad @iN (ad @gF (ad @qx (ad @uI (ad @jM (ad @Kl (@yT)))))))))))))
open tyLoF
noncomputable def yV:{c:SC // aC 155 (Tryz.f138.body.getD .skip)=c}:=by
 refine⟨?_,?_⟩;rotate_left
 .simp only[Tryz.f138,a5,aC,zdG,zdD,zdH,zdI,Nat.blt,Nat.ble];rfl
section
variable {tb:List En} (hG:LowT tb) {X:Lx} {c:Cx} (hX:CxOk X c) {x:St} {s:Bd} {H:Hp} {S:Nat -> Prop} {lv vv:AV}
set_option maxRecDepth 100000 in
set_option maxHeartbeats 4000000 in
include hG hX in
theorem zdj(hk:x.kind=1){n:Nat}{r:Int×Bd}(C:k1 c n x.value s=some r)(o:kF c.names x.name<r.2.vars.length)(hF:Fin r.2)(Z:RepL X H S s lv vv):
 zdw Tryz.prog (zdp pls tb) 138 [.ptr X.b 0,.agg x.cells] H (Kh X S vv H {r.2 with vars:=r.2.vars.set (kF c.names x.name) r.1}):=by
 have J:Plain (zdp pls tb) 138:=hG.plain dj;have i:=Z.alloc (.cells x.cells 0 true);have F1:=(fw X S vv H).alloc (.cells x.cells 0 true);have zeW:=i.m;unfold zfe at zeW;have hlk1:=i.lkN hX x.name;have A:=vI c n _ _ _ C;have I:kF c.names x.name<s.vars.length:=by rw[<-A.v];exact o
 obtain⟨q,U,hld,_⟩:=i.setV I r.1;refine zdv (M:=155) (rs:=[]) (J.call _) J.ice J.froz Tryz.func138 rfl rfl yV.2 rfl ?_;dsimp only[yV,zds,Nat.reduceAdd];repeat' (first
  |(apply zdk ?_;clear hK K)|apply Ry.o ?_|(apply aD (fun m V=>?_) (fun m V=>?_)<;>try(cases m;done))|apply ak ?_|(apply zdl fun K hK=>?_)|(apply zdL 3 [(3,14),(3,16),(7,14),(7,16),(9,14),(9,16),(10,14),(10,16),(13,14)] fun K hK=>?_)|(apply zdK ?_;try intro _)|apply bl ?_|apply au ?_|fail)
 refine bh rfl bm bo ?_;simp only[dS];refine a9 ?_ (Ko hG hX n x.value s r C hF i (fw _ _ _ _));rintro v H2 ⟨rfl,S2,g,Y,j⟩;have g2:=nM Z j;have m2:=Y.m;unfold zfe at m2;have hlk2:=Y.lkN hX x.name;obtain⟨q',z,hld',H3,hst,hq1,hq2,O,L,F3,o3,n3⟩:=Y.setV o r.1;have F:q'=q:=by
  rw[U]at z;simp only[aA,AV.ptr.injEq]at z;exact z.1.symm
 subst F;have n2:H.next+1<=H2.next:=j.next
 have m3:=L.m;have hlk3:=L.lkN hX x.name;have g3:H3.get H.next=some (.cells x.cells 0 true):=by rw[o3 _ (by have:=Z.new (aM _);intro e;subst e;exact this.2.1 O)];exact g2
 dsimp only[zfe]at m3;dsimp only[zdE];repeat' (first
  |apply Rx.o ?_|apply bp ?_|(apply zdK ?_;try intro _)|(apply zdM ?_ ?_<;>clear hK K)|apply bl ?_|apply zfJ rfl ?_|fail)
 .exact zdR
 .all_goals (refine⟨eI,_,eR,?_⟩;try simp only[zdn])
  exact⟨S2,g,vv,L,F1.trans (j.trans F3)⟩
set_option maxRecDepth 100000 in
set_option maxHeartbeats 4000000 in
include hG hX in
set_option maxRecDepth 100000 in
set_option maxHeartbeats 4000000 in
include hG hX in
set_option maxRecDepth 100000 in
set_option maxHeartbeats 4000000 in
include hG in
set_option maxRecDepth 100000 in
set_option maxHeartbeats 4000000 in
include hG in
theorem lst0(h1:¬x.kind=1)(h2:¬x.kind=2)(o:¬x.kind=3)(U:¬x.kind=4)(O:¬x.kind=5)(F:¬x.kind=6)(L:¬x.kind=7)(Z:RepL X H S s lv vv):
 zdw Tryz.prog (zdp pls tb) 138 [.ptr X.b 0,.agg x.cells] H (Kh X S vv H s):=by
 have J:Plain (zdp pls tb) 138:=hG.plain dj;have i:=Z.alloc (.cells x.cells 0 true);have Y:=(fw X S vv H).alloc (.cells x.cells 0 true);refine zdv (M:=155) (rs:=[]) (J.call _) J.ice J.froz Tryz.func138 rfl rfl yV.2 rfl ?_;dsimp only[yV,zds,Nat.reduceAdd];repeat' (first
  |(apply zdk ?_;clear hK K)|apply Ry.o ?_|(apply aD (fun z V=>?_) (fun z V=>?_)<;>try(cases z;done))|apply ak ?_|(apply zdl fun K hK=>?_)|apply au ?_|apply zdm ?_|fail)
 all_goals (refine⟨eI,_,eR,?_⟩;try simp only[zdn])
 exact⟨S,lv,vv,i,Y⟩
end
end
section
namespace tyLoH
end tyLoH
open tyLoH
theorem Kp{H:Hp}{r imm m:Nat}{b:List Bool}(C:H.get r=some (.cells (b.map .bool) imm true))(M:m<b.length):zeX Tryz.prog H 4 (.ptr r m)=some (.bool (b.getD m false)):=by
 rw[ql Tryz.underlying4 rfl C,dK,cS,aR M];rfl
section
variable {tb:List En} (hG:LowT tb) {X:Lx} {c:Cx} (hX:CxOk X c) {x:St} {s:Bd} {H:Hp} {S:Nat -> Prop} {lv vv:AV}
set_option maxRecDepth 100000 in
set_option maxHeartbeats 8000000 in
include hG hX in
end
end
section
def gl(f:Nat->Bool):List Bool:=(List.range 16).map f
theorem tq(f:Nat->Bool):(gl f).length=16:=by simp[gl]
theorem vJ{f g:Nat->Bool}(h:∀t,t<16->f t=g t):gl f=gl g:=List.map_congr_left fun t I=>h t (jq.1 I)
theorem Kq(f:Nat->Bool)(j:Nat)(x:Bool):(gl f).set j x=gl (fun t=>if t=j then x else f t):=by
 apply List.ext_getElem?;intro t;by_cases h:t<16
 .rw[o8,tq,gl,gl,dK,dK,wv h];by_cases e:j=t
  .subst e;simp[h]
  .rw[ai e];have K:¬t=j:=fun h=>e h.symm;simp[K]
 .rw[fg (by rw[mg,tq];omega),fg (by rw[tq];omega)]
def tt(n:Nd)(h:List (List Bool))(p:Int×Nat)(t:Nat):Bool:=(h.getD p.1.toNat []).getD t false&&(!decide (n.op=31) || !decide ((t:Int)=n.imm)||decide ((p.2:Int)<(n.kids.length:Int).tdiv 2))
def oP(n:Nd)(h:List (List Bool))(k t:Nat):Bool:=(n.kids.zipIdx.take k).any fun p=>tt n h p t
theorem ztV{n:Nd}{h:List (List Bool)}{k t:Nat}{x:Int}(I:n.kids[k]?=some x):oP n h (k+1) t=(oP n h k t||tt n h (x,k) t):=by
 unfold oP;rw[mS,List.getElem?_zipIdx,I];simp
theorem Kr(n:Nd)(h:List (List Bool))(t:Nat):(oP n h n.kids.length t||(decide (n.op=3)&&decide ((t:Int)=n.imm.tdiv 16)))=rj n h t:=by
 unfold oP rj tt;rw[eJ aB]
def jD(H:Hp)(v:AV)(K:List (List Bool)):Prop:=(v=.nilS/\K=[])\/∃(q:Nat) (z:List Nat),v=.sl q 0 K.length 1/\q<H.next/\H.get q=some (.cells (z.map fun k=>AV.sl k 0 16 1) 0 true)/\z.length=K.length /\
 ∀(i k:Nat) (b:List Bool),z[i]?=some k->K[i]?=some b->k<H.next/\k≠q/\b.length=16/\H.get k=some (.cells (b.map .bool) 0 true)
theorem jD.keep{H H':Hp}{v:AV}{K:List (List Bool)}(h:jD H v K)(m:H.next<=H'.next)(C:∀k,k<H.next->H'.get k=H.get k):jD H' v K:=by
 rcases h with h|⟨q,z,V,g,o,U,O⟩
 .exact .inl h
 .refine .inr ⟨q,z,V,ac,by rw[C q g];exact o,U,fun i k b Z Y=>?_⟩;obtain⟨a1,zeU,a3,a4⟩:=O i k b Z Y;exact⟨ac,zeU,a3,by rw[C k a1];exact a4⟩
theorem jD.lt{H:Hp}{v:AV}{K:List (List Bool)}(h:jD H v K){q o m z:Nat}(e:v=.sl q o m z):q<H.next:=by
 rcases h with⟨h,_⟩|⟨Z,Y,i,g,_⟩
 .rw[h]at e;cases e
 .rw[i]at e;cases e;exact g
theorem jD.push{H:Hp}{v:AV}{K:List (List Bool)}(h:jD H v K){x r imm:Nat}{b:List Bool}(I:x<H.next)(A:∀q o m z,v=.sl q o m z->x≠q)(V:H.get x=some (.cells (b.map .bool) 0 true))(J:b.length=16)(hr:H.get r=some (.cells [.sl x 0 16 1] imm true))(hl:K.length<2^30):
 ∃F H',zeV Tryz.prog false H 123 123 v (.sl r 0 1 1)=some (F,H')/\jD H' F (K++[b])/\H'.next=H.next+1:=by
 have O:zeL=70368744177664:=rfl;have Y:zfk H 1 (.sl r 0 1 1)=some (0+1,[.sl x 0 16 1]):=by
  have:=mn (H:=H) (r:=r) (o:=0) (n:=1) (z:=1) (s:=1) hr aB;rw[this];rfl
 rcases h with⟨rfl,rfl⟩|⟨q,U,rfl,h2,h3,L,h5⟩
 .refine⟨.sl H.next 0 1 1,H.alloc (.cells [.sl x 0 16 1] 0 true),append_nil Tryz.underlying123 xn A0 A1 af Y rfl rfl (by rw[O];omega) (by rw[O];omega),.inr ⟨H.next,[x],rfl,cP _,hC,rfl,fun i k c Z C=>?_⟩,rfl⟩;cases i with
  |zero=>
   simp only[ke,aA,lX]at Z C;subst Z;subst C;exact⟨CI I,ac,J,by rw[zdq,ai ac];exact V⟩
  |succ i=>simp at Z
 .have g:=A q 0 K.length 1 rfl;refine⟨_,_,AF Tryz.underlying123 xn A0 A1 af Y rfl rfl h3 (by rw[cE,L,gD]) (by rw[O];omega) (by rw[O];omega),.inr ⟨H.next,U++[x],by rw[ep];rfl,cP _,?_,by rw[ep,ep,L];rfl,fun i k c Z C=>?_⟩,rfl⟩
  .show((H.kill q).alloc _).get (H.kill q).next=_
   rw[zdq,az rfl,mc];rfl
  .have M:∀k,k<H.next->k≠q->((H.kill q).alloc (.cells ((U.map fun k=>AV.sl k 0 16 1)++[.sl x 0 16 1]) 0 true)).get k=H.get k:=fun k e3 e4=>by
    rw[zdq,ai lL,zff,ai e4]
   by_cases hi:i<U.length
   .rw[fz hi]at Z;rw[fz ac]at C;obtain⟨a1,zeU,a3,a4⟩:=h5 i k c Z C;exact⟨CI a1,ac,a3,by rw[M k a1 zeU];exact a4⟩
   .rw[fZ ac]at Z;rw[fZ ac,<-L]at C;cases hj:i-U.length with
    |zero=>
     rw[hj]at Z C;simp only[ke,aA]at Z C;subst Z;subst C;exact⟨CI I,ac,J,by rw[M _ I g];exact V⟩
    |succ j=>rw[hj]at Z;simp at Z
theorem bnB(H:Hp)(q:Nat):zeP Tryz.prog H 123 1 [(0,.sl q 0 16 1)]=some (.sl H.next 0 1 1,H.alloc (.cells [.sl q 0 16 1] 0 true)):=af
theorem jD.at{H:Hp}{v:AV}{K:List (List Bool)}(h:jD H v K){i:Nat}(A:i<K.length):∃r k,zdV Tryz.prog 123 v (.int .i64 (i:Int))=some (.ptr r i)/\zeX Tryz.prog H 121 (.ptr r i)=some (.sl k 0 16 1) /\
 H.get k=some (.cells ((K.getD i []).map .bool) 0 true)/\(K.getD i []).length=16:=by
 rcases h with⟨_,rfl⟩|⟨q,z,rfl,g,o,U,Z⟩
 .simp at A
 .have F:i<z.length:=by omega
  obtain⟨a1,zeU,a3,a4⟩:=Z i z[i] K[i] (aR F) (aR A);refine⟨q,z[i],by rw[mj Tryz.underlying123 xn A];simp,?_,?_⟩
  .rw[ql Tryz.underlying121 rfl o,dK,aR F];rfl
  .rw[cS,aR A];exact⟨a4,a3⟩
def yW(K:List (List Bool)):AV:=.lst (K.map fun b=>[AV.lst (b.map fun x=>[AV.bool x])])
def tyVdB.tyF:=ad @cN (ad @b9 (ad @lI (ad @ea (ad @eV (ad @eO (ad @xo (ad @Fq (ad @mZ (@bnB)))))))))
open tyVdB
noncomputable def Ks:{c:SC // aC 77 (Tryz.f62.body.getD .skip)=c}:=by
 refine⟨?_,?_⟩;rotate_left
 .simp only[Tryz.f62,a5,aC,zdG,zdD,zdH,zdI,Nat.blt,Nat.ble];rfl
def CM(l:List Nd):Prop:=rr l/\0<l.length
theorem zp7{l:List Nd}{i:Nat}{n:Nd}(m:l[i]?=some n):ze5 l (i+1)=ze5 l i++[gl (rj n (ze5 l i))]:=by rw[ze5,m];rfl
theorem Kt(H:Hp)(n:Nat):∀b:List Bool,iceL (iceV H (n+1)) (b.map .bool)=some (b.map .bool)
 |[]=>rfl
 |x::b=>by
  have:=Kt H n b;have e:iceV H (n+1) (.bool x)=some (.bool x):=rfl;simp only[dL,iceL,e,this]
theorem Ku:∀b:List Bool,jd 1 b.length (b.map AV.bool)=b.map fun x=>[AV.bool x]
 |[]=>rfl
 |x::b=>by
  have:=Ku b;simp only[dL,dq,jd,BY,vc,uM,dY,this]
theorem zyp{H:Hp}{k:Nat}{b:List Bool}(h:H.get k=some (.cells (b.map .bool) 0 true))(z:b.length=16)(n:Nat):iceV H (n+2) (.sl k 0 16 1)=some (.lst (b.map fun x=>[AV.bool x])):=by
 have e:iceV H (n+2) (.sl k 0 16 1)=match H.get k with
  |some (.cells Y _ _)=>match iceL (iceV H (n+1)) ((Y.drop 0).take (16*1))with
   |some K=>if K.length=16*1 then some (.lst (jd 1 16 K))else none
   |none=>none
  |_=>none:=rfl
 rw[e,h];simp only[dY,gD];rw[eJ (by rw[cE,z];omega),Kt];simp only[cE,z,bT];rw[<-z,Ku]
theorem Kv{H:Hp}(n:Nat):∀(z:List Nat) (K:List (List Bool)),z.length=K.length->(∀(i k:Nat) (b:List Bool),z[i]?=some k->K[i]?=some b->b.length=16/\H.get k=some (.cells (b.map .bool) 0 true)) ->
 iceL (iceV H (n+2)) (z.map fun k=>AV.sl k 0 16 1)=some (K.map fun b=>AV.lst (b.map fun x=>[AV.bool x]))
 |[],[],_,_=>rfl
 |[],_::_,h,_=>by simp at h
 |_::_,[],h,_=>by simp at h
 |q::z,b::K,h,hr=>by
  obtain⟨Y,g⟩:=hr 0 q b rfl rfl;have ih:=Kv n z K ja (fun i k b Z C=>hr (i+1) k b rN (by simpa using C));simp only[dL,iceL,zyp g Y n,ih]
theorem chunk_rows:∀(K:List AV),jd 1 K.length K=K.map fun x=>[x]
 |[]=>rfl
 |x::b=>by
  have:=chunk_rows b;simp only[dL,dq,jd,BY,vc,uM,dY,this]
theorem jD.ice{H:Hp}{v:AV}{K:List (List Bool)}(h:jD H v K)(U:0<K.length):iceV H 4 v=some (yW K):=by
 rcases h with⟨_,rfl⟩|⟨q,z,rfl,g,o,O,Y⟩
 .simp at U
 .have e:iceV H 4 (.sl q 0 K.length 1)=match H.get q with
   |some (.cells M _ _)=>match iceL (iceV H 3) ((M.drop 0).take (K.length*1))with
    |some V=>if V.length=K.length*1 then some (.lst (jd 1 K.length V))else none
    |none=>none
   |_=>none:=rfl
  rw[e,o];simp only[dY,gD];rw[eJ (by rw[cE];omega),Kv 1 z K O (fun i k b Z C=>⟨(Y i k b Z C).2.2.1,(Y i k b Z C).2.2.2⟩)];simp only[cE,bT];have C:K.length=(K.map fun b=>AV.lst (b.map fun x=>[AV.bool x])).length:=by rw[cE]
  rw[C,chunk_rows,pc];rfl
theorem znJ{P C:Nat->Bool}{j:Nat}(h:C j=true):(gl fun t=>P t||(decide (t<j)&&C t)).set j true=gl fun t=>P t||(decide (t<j+1)&&C t):=by
 rw[Kq];apply vJ;intro t _;by_cases e:t=j
 .subst e;rw[az rfl,h];simp
 .rw[ai e];have:decide (t<j)=decide (t<j+1):=by rw[kR];omega
  rw[this]
theorem Kw{P C:Nat->Bool}{j:Nat}(h:C j=false):(gl fun t=>P t||(decide (t<j)&&C t))=gl fun t=>P t||(decide (t<j+1)&&C t):=by
 apply vJ;intro t _;by_cases e:t=j
 .subst e;rw[h];simp
 .have:decide (t<j)=decide (t<j+1):=by rw[kR];omega
  rw[this]
theorem Kx:(List.replicate 16 false:List Bool)=gl fun _=>false:=dk
set_option maxRecDepth 100000 in
theorem zp8(ρ:Nat->Int)(l:List Nd)(hl:CM l):bc Tryz.prog ρ 62 [zeu l] (yW (ze5 l l.length)):=zgb (m:=4) (cfg:=zdp pls []) fit (lE ρ) (fk.look trivial) (.cons (zfV _) .nil) (by
 obtain⟨⟨hnd,hok⟩,hpos⟩:=hl;have hl1:=hnd.1;have hw:=yl 62;have hkeep:(zdp pls []).keep 62=false:=rfl;have q2:(2:Int)≠0:=dk;have q16:(16:Int)≠0:=dk;have hmk:∀H:Hp,ze7 Tryz.prog H 121 (.int .i64 16) (.int .i64 16)=some (.sl H.next 0 16 1,H.alloc (.cells ((gl fun _=>false).map .bool) 0 true)):=fun H=>by rw[<-Kx];exact Gt 16 ac
 refine zdv (M:=77) (rs:=[.tmp 2]) (hw.call _) hw.ice hw.froz Tryz.func62 rfl rfl Ks.2 rfl ?_;dsimp only[Ks,zds,Nat.reduceAdd];repeat' (first
  |(apply zdk ?_;clear hK K)|apply Rx.o ?_|apply ak ?_|(apply zdl fun K hK=>?_)|apply au ?_|fail)
 refine zef [0,2] [] 4 l.length (fun i E H=>∃v,E.at 3=v/\jD H v (ze5 l i)) eE ⟨.nilS,eE,.inl ⟨rfl,rfl⟩⟩ ?_;rintro i E g hi Y U O hsI ⟨v,k3,hv⟩;(try simp only[zdO,zdF,aX,zdy,zdJ,Nat.reduceBEq, *]at Y);(try simp only[zdF, *]at U);(try simp only[zec,]at O);by_cases hlt:i<l.length
 .have hlt':(i:Int)<l.length:=by omega
  have hgx:l[i]?=some l[i]:=aR hlt;have hon:=hok i _ hgx;have hnk:=hnd.2 _ (dr hlt);have hrow:=zp7 hgx;have hhl:=pD l i;generalize l[i]=n at *;generalize ze5 l i=h at *;repeat' (first
   |(apply zdk ?_;clear hK K)|apply Ry.o ?_|apply b4 ?_|(apply aD (fun Z V=>?_) (fun Z V=>?_)<;>try(cases Z;done))|apply ak ?_|(apply zdl fun K hK=>?_)|apply au ?_|apply zdm ?_|fail)
  generalize J:Hp.set (Hp.alloc _ _) _ _=Hb;have nb:g.next+2<=Hb.next:=by rw[<-J];exact aM _
  have F:Hb.get g.next=some (.cells ((gl fun t=>oP n h 0 t).map .bool) 0 true):=by
   rw[<-J,aW,ai vw,zdq,ai vw,zdq,az rfl]
   congr 2
  have g5:Hb.get (g.next+1)=some (.cells n.cells 0 true):=BV;have A:∀x,x<g.next->Hb.get x=g.get x:=fun x hx=>by rw[<-J,aW,ai vw,zdq,ai vw,zdq,ai ac]
  clear J;refine zef [0,2,3,4,5,6] [] 7 n.kids.length (fun k E H=>H.get g.next=some (.cells ((gl fun t=>oP n h k t).map .bool) 0 true)/\H.get (g.next+1)=some (.cells n.cells 0 true)/\∀x,x<g.next->H.get x=g.get x) eE ⟨F,g5,A⟩ ?_;clear F g5 A;rintro k E3 H3 hk Y U O hsI ⟨F,g5,A⟩;(try simp only[zdO,zdF,aX,zdy,zdJ,Nat.reduceBEq, *]at Y);(try simp only[zdF, *]at U);(try simp only[zdA,zdQ,zec,bC,Nat.reduceAdd]at O);have hv3:jD H3 v h:=hv.keep ac A;by_cases hkt:k<n.kids.length
  .have hkt':(k:Int)<n.kids.length:=by omega
   have hgy:n.kids[k]?=some n.kids[k]:=aR hkt;obtain⟨d0,d1⟩:=hon.kids _ (dr hkt);have hsucc:=fun t=>ztV (n:=n) (h:=h) (t:=t) hgy;generalize n.kids[k]=kd at *;obtain⟨d,rfl⟩:=eL d0;repeat' (first
    |(apply zdk ?_;clear hK K)|apply Ry.o ?_|(apply aD (fun Z V=>?_) (fun Z V=>?_)<;>try(cases Z;done))|apply ak ?_|(apply zdl fun K hK=>?_)|apply au ?_|apply zdm ?_|fail)
   refine zef [0,2,3,4,5,6,7] [] 8 16 (fun j E H=>H.get g.next=some (.cells ((gl fun t=>oP n h k t||(decide (t<j)&&tt n h ((d:Int),k) t)).map .bool) 0 true)/\H.get (g.next+1)=some (.cells n.cells 0 true)/\∀x,x<g.next->H.get x=g.get x) eE ⟨by simpa using F,g5,A⟩ ?_;clear F g5 A hv3;rintro j E4 H4 hj Y U O hsI ⟨gc,g6,fc⟩;(try simp only[zdO,zdF,aX,zdy,Nat.reduceBEq, *]at Y);(try simp only[zdF, *]at U);(try simp only[zdA,zdQ,zec,bC,Nat.reduceAdd]at O);have n4:g.next+2<=H4.next:=ac
   have hv4:jD H4 v h:=hv.keep ac fc;obtain⟨r,w,hix,hld,hgw,hbl⟩:=hv4.at (i:=d) ac;have e1:IntKind.wrap .i64 ((n.kids.length:Int).tdiv 2)=(n.kids.length:Int).tdiv 2:=by
    rw[kV ac];exact ze3 ac ac
   by_cases hjt:j<16
   .have hjt':(j:Int)<16:=by omega
    have hixw:=yU (q:=w) hjt;have hlw:=Kp hgw (m:=j) ac;have hixq:=yU (q:=g.next) hjt;have hst:=CL gc (m:=j) (by rw[tq];exact hjt) true;have I:tt n h ((d:Int),k) j=((h.getD d []).getD j false&&(!decide (n.op=31) || !decide ((j:Int)=n.imm)||decide ((k:Int)<(n.kids.length:Int).tdiv 2))):=by rw[tt,dQ]
    generalize (h.getD d []).getD j false=b at *;have hgo:∀x,((H4.set g.next x).get (g.next+1)=some (.cells n.cells 0 true))/\∀y,y<g.next->(H4.set g.next x).get y=g.get y:=fun x=>⟨by rw[aW,ai ac];exact g6,fun y hy=>by rw[aW,ai ac];exact fc y hy⟩
    cases b with
    |false=>
     rw[dZ]at I;repeat' (first
      |(apply zdk ?_;clear hK K)|apply Ry.o ?_|apply Ry.gu ?_|(apply a2 (fun C L=>?_) (fun C L=>?_)<;>try(cases C;done))|(apply aD (fun Z V=>?_) (fun Z V=>?_)<;>try(cases Z;done))|apply ak ?_|(apply zdl fun K hK=>?_)|apply au ?_|apply zdm ?_|fail)
     refine⟨ac,zdz,zdz,eN,tn,?_⟩;exact⟨by rw[<-Kw I];exact gc,g6,fc⟩
    |true=>
    rw[dw]at I;by_cases h31:n.op=31
    .by_cases hji:n.imm=(j:Int)
     .by_cases hlv:(k:Int)<(n.kids.length:Int).tdiv 2
      .rw[cF hlv,yn]at I;repeat' (first
        |(apply zdk ?_;clear hK K)|apply Ry.o ?_|apply b4 ?_|(apply a2 (fun C L=>?_) (fun C L=>?_)<;>try(cases C;done))|(apply aD (fun Z V=>?_) (fun Z V=>?_)<;>try(cases Z;done))|apply ak ?_|(apply zdl fun K hK=>?_)|apply au ?_|apply zdm ?_|fail)
       refine⟨ac,zdz,zdz,eN,tn,?_⟩;exact⟨CH,hgo _⟩
      .rw[cF h31,cF hji.symm,cX hlv]at I;repeat' (first
        |(apply zdk ?_;clear hK K)|apply Ry.o ?_|(apply a2 (fun C L=>?_) (fun C L=>?_)<;>try(cases C;done))|(apply aD (fun Z V=>?_) (fun Z V=>?_)<;>try(cases Z;done))|apply ak ?_|(apply zdl fun K hK=>?_)|apply au ?_|apply zdm ?_|fail)
       refine⟨ac,zdz,zdz,eN,tn,?_⟩;exact⟨by rw[<-Kw I];exact gc,g6,fc⟩
     .have hji':¬(j:Int)=n.imm:=fun e=>hji e.symm;rw[cX hji',gX,yn,l9]at I;clear hji;repeat' (first
       |(apply zdk ?_;clear hK K)|apply Ry.o ?_|apply b4 ?_|(apply a2 (fun C L=>?_) (fun C L=>?_)<;>try(cases C;done))|(apply aD (fun Z V=>?_) (fun Z V=>?_)<;>try(cases Z;done))|apply ak ?_|(apply zdl fun K hK=>?_)|apply au ?_|apply zdm ?_|fail)
      refine⟨ac,zdz,zdz,eN,tn,?_⟩;exact⟨CH,hgo _⟩
    .rw[cX h31,gX,l9,l9]at I;repeat' (first
      |(apply zdk ?_;clear hK K)|apply Ry.o ?_|apply b4 ?_|(apply a2 (fun C L=>?_) (fun C L=>?_)<;>try(cases C;done))|(apply aD (fun Z V=>?_) (fun Z V=>?_)<;>try(cases Z;done))|apply ak ?_|(apply zdl fun K hK=>?_)|apply au ?_|apply zdm ?_|fail)
     refine⟨ac,zdz,zdz,eN,tn,?_⟩;exact⟨CH,hgo _⟩
   .have hjt':¬(j:Int)<16:=by omega
    have hj16:j=16:=ac;subst hj16;repeat' (first
     |(apply zdk ?_;clear hK K)|apply Ry.o ?_|(apply aD (fun Z V=>?_) (fun Z V=>?_)<;>try(cases Z;done))|apply ak ?_|(apply zdl fun K hK=>?_)|apply zdr ?_)
    refine⟨ac,zdz,zdz,eN,pz,?_⟩;refine⟨?_,g6,fc⟩;rw[gc]
    congr 3
    apply vJ;intro t ht;rw[hsucc,cF ht,dw]
  .have hkt':¬(k:Int)<n.kids.length:=by omega
   have F:H3.get g.next=some (.cells ((gl fun t=>oP n h n.kids.length t).map .bool) 0 true):=by
    rw[show n.kids.length=k by omega];exact F
   have n3:g.next+2<=H3.next:=ac
   repeat' (first
    |(apply zdk ?_;clear hK K)|apply Ry.o ?_|apply ak ?_|(apply zdl fun K hK=>?_)|fail)
   (apply aS (fun Z V=>?_) (fun Z V=>?_)<;>try(cases Z;done));repeat' (first
    |(apply zdk ?_;clear hK K)|apply Rx.o ?_|apply ak ?_|(apply zdl fun K hK=>?_)|apply zdr ?_)
   refine sN (fun E' H'=>E'.at 2=.nilS/\E'.at 0=zeu l/\E'.at 3=v/\E'.at 4=.int .i64 i/\E'.at 5=.sl g.next 0 16 1/\H'.get g.next=some (.cells ((gl (rj n h)).map .bool) 0 true)/\H'.next=H3.next/\∀x,x<g.next->H'.get x=g.get x) ?_ ?_
   .by_cases h3:n.op=3
    .obtain⟨m0,zeW⟩:=hon.lv h3;have hd:n.imm.tdiv 16=n.imm/16:=kV m0;obtain⟨m,hm⟩:=eL (show 0<=n.imm.tdiv 16 by omega);have hm16:m<16:=ac;have ew:IntKind.wrap .i64 (m:Int)=m:=ze3 ac ac;have hixq:=yU (q:=g.next) hm16;have hst:=CL F (m:=m) (by rw[tq];exact hm16) true;clear hd;repeat' (first
      |(apply zdk ?_;clear hK K)|apply Ry.o ?_|apply b4 ?_|(apply aD (fun Z V=>?_) (fun Z V=>?_)<;>try(cases Z;done))|(apply zdl fun K hK=>?_)|fail)
     refine⟨rfl,eE,eE,eE,eE,eE,?_,rfl,fun x hx=>by rw[aW,ai ac];exact A x hx⟩;rw[aW,az rfl,Kq]
     congr 3
     apply vJ;intro t ht;rw[<-Kr,cF h3,hm,dw];by_cases e:t=m
     .subst e;simp
     .rw[ai e,cX (show ¬(t:Int)=(m:Int) by omega),jO]
    .repeat' (first
      |(apply aD (fun Z V=>?_) (fun Z V=>?_)<;>try(cases Z;done))|apply zdm ?_|fail)
     refine⟨rfl,eE,eE,eE,eE,eE,?_,rfl,A⟩;rw[F]
     congr 3
     apply vJ;intro t ht;rw[<-Kr,cX h3,dZ,jO]
   clear F g5 A;rintro E5 H5 ⟨k2,zex,k3',zfZ,zfi,g6,n5,f6⟩;dsimp only[jt];have n5':g.next+2<=H5.next:=ac
   clear n5;have hv5:jD (H5.alloc (.cells [.sl g.next 0 16 1] 0 true)) v h:=hv.keep el fun x hx=>by rw[zdq,ai ac];exact f6 x hx
   obtain⟨v',H6,a6,o6,n6⟩:=hv5.push (x:=g.next) (r:=H5.next) (imm:=0) (b:=gl (rj n h)) el (fun q o m z e=>by have:=hv.lt e;omega) (by rw[zdq,ai ac];exact g6) (tq _) gO ac;have n6':g.next<=H6.next:=by simp only[zdA]at n6;omega
   clear n6 hv5;repeat' (first
    |(apply zdk ?_;clear hK K)|apply Rx.o ?_|(apply zdl fun K hK=>?_)|fail)
   refine⟨ac,zdz,zdz,eN,jy,?_⟩;exact⟨v',eE,by rw[hrow];exact o6⟩
 .have hlt':¬(i:Int)<l.length:=by omega
  repeat' (first
   |(apply zdk ?_;clear hK K)|apply Ry.o ?_|(apply aD (fun Z V=>?_) (fun Z V=>?_)<;>try(cases Z;done))|apply ak ?_|(apply zdl fun K hK=>?_)|apply am ?_|apply zdr ?_)
  all_goals (refine⟨eI,_,eR,?_⟩;try simp only[zdn])
  have hie:i=l.length:=ac;subst hie;exact hv.ice (by rw[pD];exact hpos))
end
section
def k4(a:Ar):Bool:=zd8 a.name&&(decide (1<=a.len)&&decide (a.len<=16))
def yX(u:Un):Bool:=(decide ((u.arrays.length:Int)<=4)&&decide ((u.funcs.length:Int)<=8))&&(u.arrays.all k4 && !zdT [] (u.arrays.map Ar.name))&&(u.funcs.all (fun g=>zd8 g.name) && !zdT [] (u.funcs.map Gr.name))
theorem Ky(A:List (List UInt8)):∀(K:List Gr) (seen:List (List UInt8)),pA A seen (K.map fL)=zdT seen (K.map Gr.name)
 |[],seen=>rfl
 |g::K,seen=>by
  rw[dL,pA,dL,zdT];show(zdS seen g.name||zdT A []||pA A (seen++[g.name]) (K.map fL))=_;rw[Ky A K];cases zdS seen g.name<;>simp[zdT]
theorem Kz(u:Un):decide (nB (gH u)=0)=yX u:=by
 have Z:sP (gH u)=!(decide ((u.arrays.length:Int)<=4)&&decide ((u.funcs.length:Int)<=8)&&u.arrays.all fun a=>decide (1<=a.len)&&decide (a.len<=16)):=by
  unfold sP;have a1:(gH u).arrays=u.arrays:=rfl;have zeU:(gH u).funcs.length=u.funcs.length:=by simp[gH]
  have a3:(gH u).funcs.any qV=false:=by
   simp only[gH,List.any_map,ud];intro g _;have:qV (fL g)=false:=by simp[qV,fL,zfd,zfb,zfM,oE,iQ,qL]
   simp[this]
  rw[a1,zeU,a3,jO,yJ,yJ];have a4:u.arrays.any u6=!(u.arrays.all fun a=>decide (1<=a.len)&&decide (a.len<=16)):=by
   rw[List.not_all_eq_any_not]
   congr 1
   funext a
   unfold u6;rw[yJ]
   congr 1
   .rw[<-uP,kR];omega
   .rw[<-uP,kR];omega
  rw[a4]
  congr 1
  congr 1
  .rw[<-uP,kR];omega
  .rw[<-uP,kR];omega
 have Y:kz (gH u)=(u.arrays.all (fun a=>zd8 a.name)&&u.funcs.all fun g=>zd8 g.name):=by
  unfold kz;show(u.arrays.all _&&(u.funcs.map fL).all mE)=_;rw[List.all_map]
  congr 1
  congr 1
  funext g
  simp[mE,x6,fL,oF,jT,ky,sQ,Ex.kind,Ex.kids,Ex.name,Ex.op]
 have I:sT (gH u)=(zdT [] (u.arrays.map Ar.name)||zdT [] (u.funcs.map Gr.name)):=by
  unfold sT;show(_||pA _ [] (u.funcs.map fL))=_;rw[Ky];rfl
 have U:(gH u).funcs.any (sW (gH u))=false:=by
  simp only[gH,List.any_map,ud];intro g _;simp[sW,fL,jz,jU,oG,kA,Ex.kind]
 have J:(gH u).funcs.any (u9 (gH u))=false:=by
  simp only[gH,List.any_map,ud];intro g _;simp[u9,fL,jz]
 have m:u.arrays.all k4=(u.arrays.all (fun a=>zd8 a.name)&&u.arrays.all fun a=>decide (1<=a.len)&&decide (a.len<=16)):=by
  generalize u.arrays=C;induction C with
  |nil=>rfl
  |cons a C ih=>
   simp only[ox,ih,k4];cases zd8 a.name<;>cases (decide (1<=a.len)&&decide (a.len<=16))<;>simp
 unfold nB yX;rw[Z,Y,I,U,J,m];generalize decide ((u.arrays.length:Int)<=4)=M;generalize decide ((u.funcs.length:Int)<=8)=O;generalize (u.arrays.all fun a=>decide (1<=a.len)&&decide (a.len<=16))=V;generalize u.arrays.all (fun a=>zd8 a.name)=A;generalize u.funcs.all (fun g=>zd8 g.name)=j;generalize zdT [] (u.arrays.map Ar.name)=L;generalize zdT [] (u.funcs.map Gr.name)=o;revert M O V A j L o;decide
def gI:List Nd->Int->Int
 |[],_=>0
 |n::l,m=>if n.op=31/\n.imm=m then (n.kids.length:Int).tdiv 2 else gI l m
structure LoopOk (n:Nd):Prop where
 i0:0<=n.imm
 i1:n.imm<=15
 odd:n.kids.length%2=1
 three:3<=n.kids.length
theorem LoopOk.lv{n:Nd}(h:LoopOk n):dR n.kids.length=(n.kids.length:Int).tdiv 2/\0<dR n.kids.length:=by
 have:=h.odd;have:=h.three;unfold dR;rw[kV ac,kV ac];omega
theorem CN:∀(l:List Nd) (t Y:List Int),t.length=16->(∀n∈l,n.op=31->LoopOk n)->fV l t=some Y->Y.length=16/\∀m:Nat,m<16->Y.getD m 0=if 0<t.getD m 0 then t.getD m 0 else if gI l m=0 then t.getD m 0 else gI l m
 |[],t,Y,hl,_,h=>by
  cases h;refine⟨hl,fun m M=>?_⟩;simp[gI]
 |n::l,t,Y,hl,hok,h=>by
  have I:∀n∈l,n.op=31->LoopOk n:=fun x V=>hok x (fp _ V);rw[fV]at h;by_cases c:n.op=31
  .rw[az c]at h;have K:=hok n fh c;have A:=K.i0;have U:=K.i1;obtain⟨k,j⟩:=eL A;obtain⟨Z,z⟩:=K.lv;split at h
   .cases h
   .rename_i c2;obtain⟨i,g⟩:=CN l _ Y (by simpa using hl) I h;refine⟨i,fun m M=>?_⟩;rw[j,dQ]at c2 g;have o:=g m M;rw[cS (l:=t.set _ _),o8]at o;rw[o,gI];by_cases e:k=m
    .subst e;rw[az rfl,az (show k<t.length by omega),ai c2,az (show n.op=31/\n.imm=(k:Int)from⟨c,j⟩)];simp only[a5];rw[az z,<-Z,ai ac]
    .rw[ai e,ai (fun h:n.op=31/\n.imm=(m:Int)=>e (by have:=h.2;omega)),<-cS]
  .rw[ai c]at h;obtain⟨i,g⟩:=CN l t Y hl I h;refine⟨i,fun m M=>?_⟩;rw[g m M,gI,ai (fun h:n.op=31/\n.imm=(m:Int)=>c h.1)]
theorem rep_get(m:Nat):(List.replicate 16 (0:Int)).getD m 0=0:=by
 rw[cS,pe];split<;>rfl
def k5(l:List Nd)(n:Nd):Bool:=decide (n.op=3)&&decide (0<gI l (n.imm.tdiv 16))&&decide (gI l (n.imm.tdiv 16)<=n.imm.tmod 16)
theorem KA{l:List Nd}{t:List Int}(V:∀n∈l,n.op=31->LoopOk n)(h:fV l (List.replicate 16 0)=some t){n:Nd}(m:n.op=3->0<=n.imm/\n.imm<=255):kW t n=k5 l n:=by
 obtain⟨_,g⟩:=CN l _ t aB V h;unfold kW k5;by_cases c:n.op=3
 .obtain⟨a,b⟩:=m c;obtain⟨k,j⟩:∃k:Nat,n.imm.tdiv 16=k:=eL (Int.tdiv_nonneg a ac);have Z:k<16:=by rw[kV a]at j;omega
  have e:t.getD (n.imm.tdiv 16).toNat 0=gI l (n.imm.tdiv 16):=by
   rw[j,dQ,g k Z,rep_get,ai ac];split
   .omega
   .rfl
  rw[e]
 .rw[cX c,dZ,dZ,dZ,dZ]
theorem zp9{l:List Nd}(V:∀n∈l,n.op=31->LoopOk n){n:Nd}(M:n∈l)(m:n.op=3->0<=n.imm/\n.imm<=255)(h:k5 l n=true):zfu l=false:=by
 unfold zfu;split
 .rfl
 .rename_i t I;rw[Ce];exact⟨n,M,by rw[KA V I m,h];simp⟩
theorem znK{l:List Nd}(V:∀n∈l,n.op=31->LoopOk n){t:List Int}(I:fV l (List.replicate 16 0)=some t)(h:∀n∈l,(n.op=3->0<=n.imm/\n.imm<=255)/\k5 l n=false):zfu l=true:=by
 unfold zfu;rw[I];simp only[gS];intro n m;obtain⟨i,g⟩:=h n m;rw[KA V I i,g];rfl
theorem zqa{l:List Nd}(h:fV l (List.replicate 16 0)=none):zfu l=false:=by
 unfold zfu;rw[h]
theorem KB:∀(l:List Nd) (seen:List (List UInt8)),(∀x∈l,NdR x)->zdT seen (l.map zes)=false->l.Nodup/\∀x∈l,zdS seen (zes x)=false
 |[],seen,_,_=>⟨List.nodup_nil,fun x I=>by simp at I⟩
 |a::l,seen,hr,h=>by
  rw[dL,zdT]at h;have Z:zdS seen (zes a)=false/\zdT (seen++[zes a]) (l.map zes)=false:=by
   cases o:zdS seen (zes a)<;>simp_all
  obtain⟨i,g⟩:=KB l _ (fun x I=>hr x (fp _ I)) Z.2;refine⟨yN.2 ⟨fun M=>?_,i⟩,fun x I=>?_⟩
  .have:=g a M;simp[zdS]at this
  .rcases ff.1 I with rfl|I
   .exact Z.1
   .have:=g x I;simp only[zdS,vk,lw]at this⊢;exact this.1
theorem ztX{l:List Nd}(hr:∀x∈l,NdR x):jC l=true->l.Nodup:=fun h=>by
 unfold jC at h;exact(KB l [] hr ja).1
theorem mask_zero{l:List Nd}(V:∀i n,l[i]?=some n->NdOk n i)(o:∀j,j<l.length->(ze4 l l.length).getD j 0<2^16){j:Nat}(O:j<l.length):zeT l j=0↔∀t,t<16->((ze5 l l.length).getD j []).getD t false=false:=by
 have z:=fun t=>yg l.length (aM _) (fun j n _ h=>V j n h) j O t;have e:zeT l j=(ze4 l l.length).getD j 0:=by rw[zeT,dQ]
 rw[e];constructor
 .intro h t I;have:=z t;rw[h,cF I,dw,yd]at this;exact this.symm
 .intro h;apply B0;intro t;rw[z t,yd];by_cases I:t<16
  .rw[h t I,pt]
  .rw[cX I,dZ]
def tyK1.tyF:=ad @b9 (ad @cN (@ea))
open tyK1
noncomputable def KC:{c:SC // aC 67 (Tryz.f41.body.getD .skip)=c}:=by
 refine⟨?_,?_⟩;rotate_left
 .simp only[Tryz.f41,a5,aC,zdG,zdD,zdH,zdI,Nat.blt,Nat.ble];rfl
noncomputable def KD:{c:SC // aC 19 (Tryz.f180.body.getD .skip)=c}:=by
 refine⟨?_,?_⟩;rotate_left
 .simp only[Tryz.f180,a5,aC,zdG,zdD,zdH,zdI,Nat.blt,Nat.ble];rfl
noncomputable def KE:{c:SC // aC 29 (Tryz.f144.body.getD .skip)=c}:=by
 refine⟨?_,?_⟩;rotate_left
 .simp only[Tryz.f144,a5,aC,zdG,zdD,zdH,zdI,Nat.blt,Nat.ble];rfl
noncomputable def KF:{c:SC // aC 7 (Tryz.f145.body.getD .skip)=c}:=by
 refine⟨?_,?_⟩;rotate_left
 .simp only[Tryz.f145,a5,aC,zdG,zdD,zdH,zdI,Nat.blt,Nat.ble];rfl
noncomputable def KG:{c:SC // aC 15 (Tryz.f146.body.getD .skip)=c}:=by
 refine⟨?_,?_⟩;rotate_left
 .simp only[Tryz.f146,a5,aC,zdG,zdD,zdH,zdI,Nat.blt,Nat.ble];rfl
theorem znL(ρ:Nat->Int)(op:Int):bc Tryz.prog ρ 41 [.int .i64 op] (ez op):=zer fit (pls:=pls) (l:=[]) trivial (.cons (.int _ _) .nil) (GB op) (by
 have J:=yl 41;refine zdv (M:=67) (rs:=[.tmp 2,.tmp 3]) (J.call _) J.ice J.froz Tryz.func41 rfl rfl KC.2 rfl ?_;dsimp only[KC,zds,Nat.reduceAdd];repeat' (first
  |(apply zdk ?_;clear hK K)|apply Rx.o ?_|(apply bZ (fun C L=>?_) (fun C L=>?_)<;>try(cases C;done))|(apply aS (fun z V=>?_) (fun z V=>?_)<;>try(cases z;done))|apply ak ?_|(apply zdl fun K hK=>?_)|apply au ?_|apply zdm ?_|apply am ?_)
 all_goals
  refine⟨eI,_,dG,?_⟩;try simp only[zdn]
  unfold ez bg;first
  |(rw[az ac];done)
  |(rw[ai ac,az ac];done)
  |(rw[ai ac,ai ac,az ac];done)
  |(rw[ai ac,ai ac,ai ac,az ac];done)
  |(rw[ai ac,ai ac,ai ac,ai ac,az ac];done)
  |(rw[ai ac,ai ac,ai ac,ai ac,ai ac,az ac];done)
  |(rw[ai ac,ai ac,ai ac,ai ac,ai ac,ai ac];done))
theorem znM(ρ:Nat->Int)(op:Int):bc Tryz.prog ρ 180 [.int .i64 op] (.int .i64 (zeB op)):=zer fit (pls:=pls) (l:=[]) trivial (.cons (.int _ _) .nil) (.int _ _) (by
 have J:=yl 180;refine zdv (M:=19) (rs:=[.tmp 2]) (J.call _) J.ice J.froz Tryz.func180 rfl rfl KD.2 rfl ?_;dsimp only[KD,zds,Nat.reduceAdd];repeat' (first
  |(apply zdk ?_;clear hK K)|apply Rx.o ?_|(apply aS (fun z V=>?_) (fun z V=>?_)<;>try(cases z;done))|apply ak ?_|(apply zdl fun K hK=>?_)|apply au ?_|apply zdm ?_|apply am ?_)
 all_goals
  refine⟨eI,_,dG,?_⟩;try simp only[zdn]
  simp_all[zeB])
noncomputable def yY:En:=⟨180,false,b7 (fun _=>True) (fun n:Int=>[.int .i64 n]) fun n=>.int .i64 (zeB n)⟩
theorem zyu(ρ:Nat->Int):yO Tryz.prog ρ yY:=zei fun n _=>znM ρ n
theorem zbV{l:List En}(F:∀C,zem l 180 C=yY.sp C)(n:Int)(H:Hp):zdw Tryz.prog (zdp pls l) 180 [.int .i64 n] H fun v H'=>v=.int .i64 (zeB n)/\H'=H:=
 zeq (enc:=fun n:Int=>[.int .i64 n]) (ok:=fun _=>True) (out:=fun n=>.int .i64 (zeB n)) xP (x:=n) (F _) trivial
def rE(x:Int×Int):List AV:=[.int .i64 x.1,.int .i64 x.2]
theorem ztY(x y:Int×Int)(h:rE x=rE y):x=y:=by
 simp only[rE,cR,AV.int.injEq,aX,fR]at h;exact jQ h.1 h.2
theorem ziF(ρ:Nat->Int)(x:Int×Int):bc Tryz.prog ρ 144 (rE x) (.bool (zen x.1 x.2)):=zer fit (pls:=pls) (l:=[yY]) ⟨zyu ρ,trivial⟩ (.cons (.int _ _) (.cons (.int _ _) .nil)) (.bool _) (by
 obtain⟨Z,n⟩:=x;have J:Plain (zdp pls [yY]) 144:=zej (fun _=>rfl) rfl;rw[rE];simp only[];refine zdv (M:=29) (rs:=[.tmp 4]) (J.call _) J.ice J.froz Tryz.func144 rfl rfl KE.2 rfl ?_;dsimp only[KE,zds,Nat.reduceAdd];repeat' (first
  |(apply zdk ?_;clear hK K)|apply Rx.o ?_|(apply iO ?_;first|refine Rx.k (zbV (fun _=>rfl) _ _) ?_)|apply qC ?_|(apply bZ (fun C L=>?_) (fun C L=>?_)<;>try(cases C;done))|(apply aS (fun z V=>?_) (fun z V=>?_)<;>try(cases z;done))|apply ak ?_|(apply zdl fun K hK=>?_)|apply zdm ?_|apply am ?_)
 all_goals
  refine⟨eI,_,dG,?_⟩;try simp only[zdn]
  unfold zen;first
  |(rw[az il];done)
  |(rw[ai il,az il];done)
  |(rw[ai il,ai ac]
    have Y:¬zeB Z<0:=ac;first
    |(simp_all;done)
    |(generalize zeB Z=q at *;simp_all;done)
    |(generalize zeB Z=q at *;simp_all;omega)))
noncomputable def CO:En:=⟨144,false,b7 (fun _=>True) rE fun x=>.bool (zen x.1 x.2)⟩
theorem zyv(ρ:Nat->Int):yO Tryz.prog ρ CO:=zei fun n _=>ziF ρ n
theorem jW{l:List En}(F:∀C,zem l 144 C=CO.sp C)(a b:Int)(H:Hp):zdw Tryz.prog (zdp pls l) 144 [.int .i64 a,.int .i64 b] H fun v H'=>v=.bool (zen a b)/\H'=H:=
 zeq (enc:=rE) (ok:=fun _=>True) (out:=fun x=>.bool (zen x.1 x.2)) ztY (x:=(a,b)) (F _) trivial
def rF(x:Bool×Int):List AV:=[.bool x.1,.int .i64 x.2]
theorem zyw(x y:Bool×Int)(h:rF x=rF y):x=y:=by
 simp only[rF,cR,AV.int.injEq,AV.bool.injEq,aX,fR]at h;exact jQ h.1 h.2
theorem znO(ρ:Nat->Int)(x:Bool×Int):bc Tryz.prog ρ 145 (rF x) (.int .i64 (zd1 x.1 x.2)):=zer fit (pls:=pls) (l:=[]) trivial (.cons (.bool _) (.cons (.int _ _) .nil)) (.int _ _) (by
 obtain⟨b,n⟩:=x;have J:=yl 145;rw[rF];simp only[];cases b;all_goals
  refine zdv (M:=7) (rs:=[.tmp 4]) (J.call _) J.ice J.froz Tryz.func145 rfl rfl KF.2 rfl ?_;dsimp only[KF,zds,Nat.reduceAdd];repeat' (first
   |(apply zdk ?_;clear hK K)|apply Rx.o ?_|(apply aS (fun z V=>?_) (fun z V=>?_)<;>try(cases z;done))|apply ak ?_|(apply zdl fun K hK=>?_)|apply zdm ?_|apply am ?_)
  refine⟨eI,_,dG,?_⟩;try simp only[zdn]
  rfl)
noncomputable def CP:En:=⟨145,false,b7 (fun _=>True) rF fun x=>.int .i64 (zd1 x.1 x.2)⟩
theorem zyx(ρ:Nat->Int):yO Tryz.prog ρ CP:=zei fun n _=>znO ρ n
theorem k6{l:List En}(F:∀C,zem l 145 C=CP.sp C)(a:Bool)(b:Int)(H:Hp):zdw Tryz.prog (zdp pls l) 145 [.bool a,.int .i64 b] H fun v H'=>v=.int .i64 (zd1 a b)/\H'=H:=
 zeq (enc:=rF) (ok:=fun _=>True) (out:=fun x=>.int .i64 (zd1 x.1 x.2)) zyw (x:=(a,b)) (F _) trivial
def rG(s:List Int):List AV:=[zel s]
theorem zyy(x y:List Int)(h:rG x=rG y):x=y:=by
 simp only[rG,cR,aX]at h;exact uY h
theorem znP(ρ:Nat->Int)(s:List Int)(I:s.length<2^60):bc Tryz.prog ρ 146 (rG s) (.bool (zd4 s)):=zer fit (pls:=pls) (l:=[]) trivial (.cons (pn _) .nil) (.bool _) (by
 have J:=yl 146;rw[rG];refine zdv (M:=15) (rs:=[.tmp 2]) (J.call _) J.ice J.froz Tryz.func146 rfl rfl KG.2 rfl ?_;dsimp only[KG,zds,Nat.reduceAdd];repeat' (first
  |(apply zdk ?_;clear hK K)|apply Rx.o ?_|(apply aS (fun z V=>?_) (fun z V=>?_)<;>try(cases z;done))|apply ak ?_|(apply zdl fun K hK=>?_)|apply au ?_|apply zdm ?_|apply am ?_|apply zdr ?_)
 refine zef [0] [] 3 s.length (fun i E H=>zd4 s=zd4 (s.drop i)) eE aB ?_;rintro i E g A j m Z U Y;(try simp only[zdO,zdF,aX,zdy,zdJ,Nat.reduceBEq,Nat.reduceAdd,Nat.reduceLeDiff,tyF, *]at j);(try simp only[zdO,zdF,aX,zdy,zdJ,Nat.reduceBEq,Nat.reduceAdd,Nat.reduceLeDiff,tyF, *]at m);(try simp only[zdA,zdQ,zec,bC,Nat.reduceAdd]at Z);repeat' (first
  |(apply zdk ?_;clear hK K)|apply Rx.o ?_|(apply aS (fun z V=>?_) (fun z V=>?_)<;>try(cases z;done))|apply ak ?_|(apply zdl fun K hK=>?_)|apply au ?_|apply zdm ?_|apply am ?_|apply zdr ?_)
 .have o:i<s.length:=by simpa using z
  have L:s[i]?=some s[i]:=aR o;have O:zd4 (s.drop i)=(decide (s[i]=1)&&zd4 (s.drop (i+1))):=sG;repeat' (first
   |(apply zdk ?_;clear hK K)|apply Rx.o ?_|(apply aS (fun z V=>?_) (fun z V=>?_)<;>try(cases z;done))|apply ak ?_|(apply zdl fun K hK=>?_)|apply au ?_|apply zdm ?_|apply am ?_|apply zdr ?_)
  .all_goals (refine⟨eI,_,eR,?_⟩;try simp only[zdn])
   rw[Y,O];(try simp only[fl]at *);simp only[ *,kB,bT,cn,Int.reduceEq]
  .refine⟨ac,zdz,zdz,eN,sH,?_⟩;rw[Y,O];(try simp only[fl]at *);simp only[ *,kB,bT,cn,Int.reduceEq]
 .repeat' (first
   |(apply zdk ?_;clear hK K)|apply Rx.o ?_|(apply aS (fun z V=>?_) (fun z V=>?_)<;>try(cases z;done))|apply ak ?_|(apply zdl fun K hK=>?_)|apply au ?_|apply zdm ?_|apply am ?_|apply zdr ?_)
  all_goals (refine⟨eI,_,eR,?_⟩;try simp only[zdn])
  rw[Y,show i=s.length by simp at z;omega,jR];rfl)
noncomputable def CQ:En:=⟨146,false,b7 (fun s=>s.length<2^60) rG fun s=>.bool (zd4 s)⟩
theorem zyz(ρ:Nat->Int):yO Tryz.prog ρ CQ:=zei fun n h=>znP ρ n h
theorem yZ{l:List En}(F:∀C,zem l 146 C=CQ.sp C)(s:List Int)(K:s.length<2^60)(H:Hp):zdw Tryz.prog (zdp pls l) 146 [zel s] H fun v H'=>v=.bool (zd4 s)/\H'=H:=
 zeq (enc:=rG) (ok:=fun s=>s.length<2^60) (out:=fun s=>.bool (zd4 s)) zyy (x:=s) (F _) K
noncomputable def CR:En:=⟨41,false,b7 (fun _=>True) (fun n:Int=>[.int .i64 n]) ez⟩
theorem zyA(ρ:Nat->Int):yO Tryz.prog ρ CR:=zei fun n _=>znL ρ n
theorem jj{l:List En}(F:∀C,zem l 41 C=CR.sp C)(n:Int)(H:Hp):zdw Tryz.prog (zdp pls l) 41 [.int .i64 n] H fun v H'=>v=ez n/\H'=H:=
 zeq (enc:=fun n:Int=>[.int .i64 n]) (ok:=fun _=>True) (out:=ez) xP (x:=n) (F _) trivial
end
section
def tyK2a.tyF:=ad @cN (ad @b9 (ad @ea (ad @eV (ad @eO (ad @mB (ad @mC (@mZ)))))))
open tyK2a
noncomputable def d6:{c:SC // aC 221 (Tryz.f97.body.getD .skip)=c}:=by
 refine⟨?_,?_⟩;rotate_left
 .simp only[Tryz.f97,a5,aC,zdG,zdD,zdH,zdI,Nat.blt,Nat.ble];rfl
structure NsX where
 l:List Nd
 n:Nd
 k:List Int
def pM(x:NsX):List AV:=[zeu x.l,.agg x.n.cells,zel x.k]
theorem zyB(x y:NsX)(h:pM x=pM y):x=y:=by
 obtain⟨a,b,c⟩:=x;obtain⟨A,m,I⟩:=y;simp only[pM,cR,AV.agg.injEq,aX]at h;rw[uZ h.1,nl h.2.1,uY h.2.2]
def vK(x:NsX):Prop:=x.k.length=x.n.kids.length/\x.k.length<2^30/\(x.n.op=25->x.n.kids.length=1->∃(k:Nat) (m:Nd),x.n.kids=[(k:Int)]/\x.l[k]?=some m/\m.kids.length<2^30)
noncomputable def pN:List En:=[CR,CO,CP,CQ]
theorem ztZ(ρ:Nat->Int):fk Tryz.prog ρ pN:=⟨zyA ρ,zyv ρ,zyx ρ,zyz ρ,trivial⟩
theorem zt0{l:List Nd}{n:Nd}{k:List Int}(h:(bg n.op).2=false):zdU l n k=0:=by rw[zdU,az h]
theorem zqb{l:List Nd}{n:Nd}{k:List Int}(h:(bg n.op).2=true)(h2:0<=(bg n.op).1)(o:(n.kids.length:Int)≠(bg n.op).1):zdU l n k=0:=by rw[zdU,ai (by rw[h];simp),az ⟨h2,o⟩]
theorem zqc{l:List Nd}{n:Nd}{k:List Int}(h:zen n.op n.imm=false):zdU l n k=0:=by
 rw[zdU];by_cases c1:(bg n.op).2=false
 .rw[az c1]
 .rw[ai c1];by_cases c2:0<=(bg n.op).1/\(n.kids.length:Int)≠(bg n.op).1
  .rw[az c2]
  .rw[ai c2,az h]
theorem zt1{l:List Nd}{n:Nd}{k:List Int}(h:(bg n.op).2=true)(h2:¬(0<=(bg n.op).1/\(n.kids.length:Int)≠(bg n.op).1))(o:zen n.op n.imm=true):zdU l n k =
 if n.op=3 then (if n.imm.tmod 16=0 then 2 else 1)
 else if n.op=26 then 2
 else if n.op=22 then (if k.headD 0≠1\/k.getD 1 0≠k.getD 2 0\/k.getD 1 0=3 then 0 else k.getD 1 0)
 else if n.op=23 then zd1 (decide (k.headD 0=2)&&decide (k.getD 1 0=1)) 1
 else if n.op=24 then zd1 (decide (k.headD 0=2)) 1
 else if n.op=25 then (if k.headD 0≠3\/(ki l (n.kids.headD 0)).tdiv 2<=n.imm then 0 else zd1 (decide (n.imm=0)) 1+1)
 else if n.op=27\/n.op=29 then zd1 (decide (k.headD 0=2)&&decide (k.getD 1 0=1)) 2
 else if n.op=28 then zd1 (decide (k.headD 0=2)&&decide (k.getD 1 0=1)&&decide (k.getD 2 0=1)) 2
 else if n.op=30 then zd1 (decide (1<=k.length)&&decide (k.length<=7)&&decide (k.headD 0=2)&&zd4 (k.drop 1)) 2
 else if n.op=31 then zd1 (decide (k.length%2=1)&&decide (1<=k.length/2)&&decide (k.length/2<=16)&&decide (k.headD 0=2)&&zd4 ((k.drop 1).take (k.length/2))&&decide (k.getD (k.length/2+1) 0=2)&&zd4 (k.drop (k.length/2+2))) 3
 else zd1 (zd4 k) 1:=by
 rw[zdU,ai (by rw[h];simp),ai h2,ai (by rw[o];simp)]
theorem zcc{l:List Nd}{imm:Int}{V k:List Int}(U:k.length=V.length)(F:k.length<2^30)(A:zen 30 imm=true)(i:zdU l ⟨30,imm,V⟩ k=zd1 (decide (1<=k.length)&&decide (k.length<=7)&&decide (k.headD 0=2)&&zd4 (k.drop 1)) 2):
 zdw Tryz.prog (zdp pls pN) 97 [zeu l,.agg [.int .i64 30,.int .i64 imm,zel V],zel k] zd3 fun v _=>v=.int .i64 (zdU l ⟨30,imm,V⟩ k):=by
 have J:Plain (zdp pls pN) 97:=zej (fun _=>rfl) rfl;have g:(2:Int)≠0:=dk;have j:ez 30=.tup [.int .i64 (-1),.bool true]:=rfl;clear U;cases k with
 |nil=>
  have O:zdU l ⟨30,imm,V⟩ []=zd1 false 2:=lR;refine zdv (M:=221) (rs:=[.tmp 6]) (J.call _) J.ice J.froz Tryz.func97 rfl rfl d6.2 rfl ?_;dsimp only[d6,zds,Nat.reduceAdd];repeat' (first
   |(apply zdk ?_;clear hK K)|apply Ry.o ?_|(apply bL ?_;first|refine Rx.k (jj (fun _=>rfl) _ _) ?_|refine Rx.k (jW (fun _=>rfl) _ _ _) ?_|refine Rx.k (k6 (fun _=>rfl) _ _ _) ?_)|(apply a2 (fun C L=>?_) (fun C L=>?_)<;>try(cases C;done))|(apply aD (fun z Z=>?_) (fun z Z=>?_)<;>try(cases z;done))|apply ak ?_|(apply zdl fun K hK=>?_)|apply au ?_|apply zdm ?_|apply am ?_)
  all_goals first
   |exact zdR
   |((refine⟨eI,_,dG,?_⟩;try simp only[zdn]);rw[O];done)
 |cons a k=>
  have I:=fun a=>GG a k;simp only[dq]at F;have Y:k.length<2^60:=ac;have O:zdU l ⟨30,imm,V⟩ (a::k)=zd1 (decide (((k.length+1:Nat):Int)<=7)&&decide (a=2)&&zd4 k) 2:=by
   have o:decide (((k.length+1:Nat):Int)<=7)=decide (k.length+1<=7):=kR.2 ac;rw[i,o];simp
  have m:(1:Int)<=((k.length+1:Nat):Int):=ac;refine zdv (M:=221) (rs:=[.tmp 6]) (J.call _) J.ice J.froz Tryz.func97 rfl rfl d6.2 rfl ?_;dsimp only[d6,zds,Nat.reduceAdd];repeat' (first
   |(apply zdk ?_;clear hK K)|apply Ry.o ?_|(apply bL ?_;first|refine Rx.k (jj (fun _=>rfl) _ _) ?_|refine Rx.k (jW (fun _=>rfl) _ _ _) ?_|refine Rx.k (yZ (fun _=>rfl) _ Y _) ?_|refine Rx.k (k6 (fun _=>rfl) _ _ _) ?_)|(apply a2 (fun C L=>?_) (fun C L=>?_)<;>try(cases C;done))|(apply aD (fun z Z=>?_) (fun z Z=>?_)<;>try(cases z;done))|apply ak ?_|(apply zdl fun K hK=>?_)|apply au ?_|apply zdm ?_|apply am ?_)
  all_goals first
   |exact zdR
   |((refine⟨eI,_,dG,?_⟩;try simp only[zdn]);rw[O];(try simp only[fl]at *);simp only[ *,kB,bT,cn,Int.reduceEq];done)
theorem zcd{l:List Nd}{imm:Int}{V k:List Int}(i:k.length=V.length)(A:k.length<2^30)(Z:V.length=1->∃(k:Nat) (m:Nd),V=[(k:Int)]/\l[k]?=some m/\m.kids.length<2^30)(h1:k.length=1)(o:zen 25 imm=true)(Y:zdU l ⟨25,imm,V⟩ k=(if k.headD 0≠3\/(ki l (V.headD 0)).tdiv 2<=imm then 0 else zd1 (decide (imm=0)) 1+1)):
 zdw Tryz.prog (zdp pls pN) 97 [zeu l,.agg [.int .i64 25,.int .i64 imm,zel V],zel k] zd3 fun v _=>v=.int .i64 (zdU l ⟨25,imm,V⟩ k):=by
 have I:Plain (zdp pls pN) 97:=zej (fun _=>rfl) rfl;have hq2:(2:Int)≠0:=dk;obtain⟨a,rfl⟩:=lO h1;have F:V.length=1:=by rw[<-i];exact h1
 obtain⟨J,m,rfl,j,hmb⟩:=Z F;have hv:ez 25=.tup [.int .i64 1,.bool true]:=rfl;have g:ki l (J:Int)=m.kids.length:=by rw[ki,dQ,j]
 have O:zdU l ⟨25,imm,[(J:Int)]⟩ [a]=if a≠3\/(m.kids.length:Int).tdiv 2<=imm then 0 else zd1 (decide (imm=0)) 1+1:=by rw[Y];simp[g]
 have e1:IntKind.wrap .i64 ((m.kids.length:Int).tdiv 2)=(m.kids.length:Int).tdiv 2:=by
  rw[kV ac];exact ze3 ac ac
 have hgk:([(J:Int)]:List Int)[0]?=some (J:Int):=rfl;have e2:IntKind.wrap .i64 (zd1 (decide (imm=0)) 1+1)=zd1 (decide (imm=0)) 1+1:=by
  unfold zd1;split<;>rfl
 refine zdv (M:=221) (rs:=[.tmp 6]) (I.call _) I.ice I.froz Tryz.func97 rfl rfl d6.2 rfl ?_;dsimp only[d6,zds,Nat.reduceAdd];repeat' (first
  |(apply zdk ?_;clear hK K)|apply Ry.o ?_|(apply bL ?_;first|refine Rx.k (jj (fun _=>rfl) _ _) ?_|refine Rx.k (jW (fun _=>rfl) _ _ _) ?_|refine Rx.k (k6 (fun _=>rfl) _ _ _) ?_)|(apply a2 (fun C L=>?_) (fun C L=>?_)<;>try(cases C;done))|(apply aD (fun z U=>?_) (fun z U=>?_)<;>try(cases z;done))|apply ak ?_|(apply zdl fun K hK=>?_)|(apply zdL 12 [(2,19),(7,19),(10,19),(16,19)] fun K hK=>?_)|(apply zdL 20 [(2,19),(6,19),(9,19),(11,19),(14,19),(15,19)] fun K hK=>?_)|(apply zdK ?_;try intro _)|(apply zdM ?_ ?_<;>clear hK K)|apply bl ?_|(apply nk (fun C L=>?_) (fun C L=>?_)<;>try(cases C;done))|apply au ?_|apply zdm ?_|apply am ?_)
 clear i g Y Z;all_goals first
  |exact zdR
  |((refine⟨eI,_,dG,?_⟩;try simp only[zdn]);rw[O,az yM];done)
  |((refine⟨eI,_,dG,?_⟩;try simp only[zdn]);rw[O,ai yM];done)
end
end Go.Proofs.YtljebeflbbgibaaGreat
