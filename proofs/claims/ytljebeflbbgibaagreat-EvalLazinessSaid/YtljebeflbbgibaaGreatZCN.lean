/- Parts: LoB, SpecM, LoC, LoD, LoE, LoF, LoH, VdA, VdB, VdP, K1, K2a. -/
import Derived.Test.YtljebeflbbgibaaGreatZCM
set_option linter.unusedSimpArgs false
set_option linter.unusedVariables false
set_option linter.unusedSectionVars false
set_option linter.defProp false
set_option maxHeartbeats 32000000
namespace Go.Ab
set_option maxRecDepth 20000
open Go
theorem Jo{P:Prop}(h:P:=by simp only[List.all_cons,List.all_nil,hone];rfl):P:=h
theorem sP{P:Prop}(h:P:=by simp only[zcS];omega):P:=h
theorem Jp{P:Prop}(h:P:=by rw[List.length_map,show zdO=70368744177664 from rfl];omega):P:=h
theorem u6{P:Prop}(h:P:=by have:=(Y.sS _ e).1;omega):P:=h
theorem B6{P:Prop}(h:P:=by rw[Hp.get_set,if_pos rfl,znv J]):P:=h
theorem lD{P:Prop}(h:P:=by rw[O];simp):P:=h
theorem xX{P:Prop}(h:P:=by simp_all;done):P:=h
theorem sQ{P:Prop}(h:P:=by simp only[zcz,Nat.reduceBEq, *];exact zeB (n:=16) ac ac):P:=h
def xY:=@Nat.lt_of_le_of_lt
def B7:=@Nat.lt_succ_of_lt
def xZ:=@List.nodup_cons
end Go.Ab
namespace Go.Proofs.YtljebeflbbgibaaGreat
set_option maxRecDepth 20000
open Go Go.Ab
section
def tyLoB.tyF:=ad @cI (ad @bZ (ad @uc (ad @dl (ad @d8 (ad @eY (ad @eL (ad @jP (ad @qb (ad @ue (ad @Av (ad @EN (ad @AA (ad @EU (ad @EW (ad @uf (ad @EV (ad @EX (ad @GZ (ad @l7 (@l8))))))))))))))))))))
open tyLoB
noncomputable def Jq:{c:SC // aA 20 (Tryz.f137.body.getD .skip)=c}:=by
 refine⟨?_,?_⟩;rotate_left
 .simp only[Tryz.f137,a3,aA,zcG,zcE,zcJ,zcK,Nat.blt,Nat.ble];rfl
noncomputable def Jr:{c:SC // aA 69 (Tryz.f89.body.getD .skip)=c}:=by
 refine⟨?_,?_⟩;rotate_left
 .simp only[Tryz.f89,a3,aA,zcG,zcE,zcJ,zcK,Nat.blt,Nat.ble];rfl
def Js(f:FuncId):Bool:=Nat.beq f 137||Nat.beq f 89||Nat.beq f 90||Nat.beq f 91||Nat.beq f 92||Nat.beq f 138||Nat.beq f 139||Nat.beq f 140||Nat.beq f 141||Nat.beq f 175||Nat.beq f 176||Nat.beq f 177||Nat.beq f 198||Nat.beq f 56
structure LowT (tb:List En):Prop where
 pl:∀f,Js f=true->(∀ar,zdn tb f ar=none)/\iz tb f=false
theorem LowT.plain{tb:List En}(h:LowT tb){f:FuncId}(i:Js f=true):Plain (zcq pls tb) f:=zdm (h.pl f i).1 (h.pl f i).2
theorem Jt{cfg:Cfg}(J:Plain cfg 137)(C:cfg.keep 137=false){H:Hp}{v:AV}{b:List Int}{lo:Nat}(hv:gT H v b lo)(z:b.length<2^38)(n:Int):
 zcx Tryz.prog cfg 137 [v,.int .u64 n] H fun w H'=>gT H' w (b++zd8 n 8) lo/\H.next<=H'.next/\∀k,k<lo->H'.get k=H.get k:=by
 obtain⟨zcN,i0,W,_⟩:=id hv;have hone:AV.one v=true:=by rw[W];rfl
 clear W;refine zcv (M:=20) (rs:=[.tmp 4]) (J.call _) J.ice J.froz Tryz.func137 rfl rfl Jq.2 rfl ?_;dsimp only[Jq,zcr,Nat.reduceAdd];repeat' (first
  |(apply zcl ?_;clear hK K)|apply Rx.o ?_|apply ak ?_|(apply zcm fun K hK=>?_)|apply ay ?_|fail)
 refine zdl [1] [] 5 8 (fun i E Z=>∃w,E.at 0=w/\gT Z w (b++zd8 n i) lo/\∀k,k<lo->Z.get k=H.get k) eE ⟨v,eE,by simpa [zd8]using hv,fun _ _=>rfl⟩ ?_;rintro i E Z hi O L I hsI ⟨w,zdz,Y,m⟩;(try simp only[zcO,zcI,aY,zcz,zcL,Nat.reduceBEq, *]at O);(try simp only[zcI, *]at L);(try simp only[zcB,zcS,zdg,bw,Nat.reduceAdd]at I);by_cases F:i<8
 .have U:(i:Int)<8:=by omega
  have e1:IntKind.wrap .i64 (8*(i:Int))=((8*i:Nat):Int):=by rw[zej ac ac];omega
  have e2:IntKind.wrap .u64 ((8*i:Nat):Int)=((8*i:Nat):Int):=(by decide:∀i:_root_.Fin 8,IntKind.wrap .u64 ((8*i.val:Nat):Int)=((8*i.val:Nat):Int)) ⟨i,F⟩;have e4:∀(D:BinOp->Sx->Sx->Option Bool) (t:TypeId),zdr Tryz.prog D .shr t (.int .u64 n) (.int .u64 ((8*i:Nat):Int))=some (.int .u64 (n.fdiv (2^ (8*i)))):=fun D t=>bin_shr ac rfl;repeat' (first
   |(apply zcl ?_;clear hK K)|apply Ry.o ?_|(apply aB (fun z V=>?_) (fun z V=>?_)<;>try(cases z;done))|apply ak ?_|(apply zcm fun K hK=>?_)|apply ay ?_|apply zco ?_|fail)
  have A:xr (Z.alloc (.cells [.int .u8 (iY n i)] 0 true)) w (b++zd8 n i) lo:=.inr (Y.keep (f7 _) fun k j=>by rw[zcu,ah (by have:=(Y.lt j).2;omega)]);have hlo2:lo<=Z.next:=by obtain⟨r,im,_,_,_,h1,h2⟩:=Y;omega
  obtain⟨v5,H5,a5,s5,n5,f5,o5⟩:=GY (r:=Z.next) (imm:=0) (iY n i) A gR ij (by rw[fj,zfc];omega);have n5':Z.next<=H5.next:=sk
  have o:∀k,k<lo->H5.get k=H.get k:=fun k j=>by rw[f5 k j,zcu,ah ac,m k j]
  clear n5 f5 o5;refine nL eV eV ut ?_;repeat' (first
   |(apply zcl ?_;clear hK K)|apply Rx.o ?_|(apply zcm fun K hK=>?_)|fail)
  refine⟨ac,zcy,zcy,zcT,Gx,?_⟩;exact⟨v5,eE,by rw[G3,<-f8];exact s5,o⟩
 .have U:¬(i:Int)<8:=by omega
  repeat' (first
   |(apply zcl ?_;clear hK K)|apply Ry.o ?_|(apply aB (fun z V=>?_) (fun z V=>?_)<;>try(cases z;done))|apply ak ?_|(apply zcm fun K hK=>?_)|apply am ?_|apply zcA ?_)
  all_goals (refine⟨eI,_,eR,?_⟩;try simp only[zcn])
  have g:i=8:=ac;rw[g]at Y;exact⟨Y,ac,m⟩
theorem eh.len'{H:Hp}{v:AV}{l:List Int}{lo:Nat}(h:eh H v l lo)(H':Hp):zc0 Tryz.prog H' 23 v=some (.int .i64 l.length):=by
 rcases h with⟨rfl,rfl⟩|h
 .exact zeA Tryz.underlying23
 .exact h.len
theorem zaI{S:Nat->Prop}{H:Hp}{kv:AV}{L:List Int}{lo:Nat}(op imm:Int)(j:eh H kv L lo)(hS:∀k,zdF kv k->S k):zdJ S 2 H [.int .i64 op,.int .i64 imm,kv] (Nd.mk op imm L).cells:=by
 refine .cons (.int _ _) (.cons (.int _ _) (.cons ?_ .nil));rcases j with⟨rfl,rfl⟩|⟨r,i,rfl,g,o,U,Z⟩
 .exact .nilS
 .exact qN L (hS r ⟨_,rfl⟩) Z g o
theorem zaJ{H:Hp}{kv:AV}{l:List Int}{lo:Nat}(h:eh H kv l lo)(a b:Int):zdK Tryz.prog 25 [(0,.int .i64 a),(1,.int .i64 b),(2,kv)]=some (.agg [.int .i64 a,.int .i64 b,kv]):=by
 rcases h with⟨rfl,rfl⟩|⟨r,i,rfl,_⟩<;>kernel_rfl
theorem eh.one{H:Hp}{kv:AV}{l:List Int}{lo:Nat}(h:eh H kv l lo):AV.one kv=true:=by
 rcases h with⟨rfl,rfl⟩|⟨r,i,rfl,_⟩<;>rfl
theorem B8:ny Tryz.prog 3=some (.int .i64 0):=af
theorem zfq:zeZ Tryz.prog 9=some .string:=af
def sR(X:Lx)(S:Nat->Prop)(K kv:AV)(H:Hp)(n:Nd)(s:Bd)(v:AV)(H':Hp):Prop:=v=.int .i64 (zdN n s).1/\∃W Y,RepL X H' W (zdN n s).2 Y K/\H.next<=H'.next/\(∀k,k<H.next->k≠X.b->k≠X.rt->¬S k->H'.get k=H.get k)/\∀k,W k->S k\/zdF kv k\/H.next<=k
set_option maxRecDepth 100000 in
theorem Ju{tb:List En}(hG:LowT tb){X:Lx}{H:Hp}{S:Nat->Prop}{s:Bd}{C L kv:AV}(hR:RepL X H S s C L)(n:Nd)(Z:eh H kv n.kids 0)(I:∀k,zdF kv k->X.b<k/\¬S k/\¬zdF L k)(hr:∀x∈og s.l n,NdR x)(hlen:s.l.length<2^36):
 zcx Tryz.prog (zcq pls tb) 89 [.ptr X.b 0,.int .i64 n.op,.int .i64 n.imm,kv] H (sR X S L kv H n s):=by
 have hw:Plain (zcq pls tb) 89:=hG.plain db;have hap:Plain (zcq pls tb) 137:=hG.plain db;have hkeep:(zcq pls tb).keep 89=false:=rfl;have hn:NdR n:=hr n (Jm.2 (.inr rfl));have hnl:=hn.len;have o1:=hR.o1;have o2:=hR.o2;have o3:=hR.o3;have o4:=hR.o4;have o5:=hR.o5;have hkn:=Z.len';refine zcv (M:=69) (rs:=[.tmp 8]) (hw.call _) hw.ice hw.froz Tryz.func89 rfl rfl Jr.2 rfl ?_;dsimp only[Jr,zcr,Nat.reduceAdd];repeat' (first
  |(apply zcl ?_;clear hK K)|apply Rx.o ?_|apply ak ?_|(apply zcm fun K hK=>?_)|fail)
 refine bg rfl bh bj ?_;simp only[br];refine a7 ?_ (Jt hap rfl (b:=[IntKind.wrap .u8 n.op]) (lo:=H.next) ⟨H.next,0,rfl,hW,cK _,aM _,sm⟩ aD _);rintro w H1 ⟨hw1,n1,q1⟩;have n1':H.next<=H1.next:=by simp only[zcB]at n1;omega
 have q1':∀k,k<H.next->H1.get k=H.get k:=fun k Z=>by rw[q1 k Z,zcu,ah ac]
 clear n1 q1;dsimp only[zcF];repeat' (first
  |(apply zcl ?_;clear hK K)|apply Rx.o ?_|apply ak ?_|(apply zcm fun K hK=>?_)|apply ay ?_|fail)
 refine zdl [0,1,2,3,8,20,21] [] 22 n.kids.length (fun j E W=>∃w,E.at 9=w/\gT W w ([IntKind.wrap .u8 n.op]++zd8 (IntKind.wrap .u64 n.imm) 8++(n.kids.take j).flatMap fun k=>zd8 (IntKind.wrap .u64 k) 8) H.next/\Sm H.next H W) eE ⟨w,eE,by simpa using hw1,⟨q1'⟩⟩ ?_;rintro j E W hj hcE hrH hnH hsI ⟨w2,zft,hw2,V⟩;(try simp only[zcO,zcI,aY,zcz,zcL,Nat.reduceBEq, *]at hcE);(try simp only[zcI, *]at hrH);(try simp only[zcB,zcS,zdg,bw,Nat.reduceAdd]at hnH);have n2':H.next<=W.next:=ac
 by_cases z:j<n.kids.length
 .have hlt':(j:Int)<n.kids.length:=by omega
  have htk:n.kids.take (j+1)=n.kids.take j++[n.kids[j]]:=by rw[mw,aO z];rfl
  have hfl:((n.kids.take j).flatMap fun k=>zd8 (IntKind.wrap .u64 k) 8).length<=8*j:=by
   rw[List.length_flatMap];simp only[zfc];have:((n.kids.take j).map fun _=>8).sum=8*(n.kids.take j).length:=by
    generalize n.kids.take j=q;induction q with
    |nil=>rfl
    |cons a q ih=>simp[ih];omega
   rw[this,iN];omega
  have hkb:eN W kv n.kids 0:=by
   rcases Z with⟨_,g⟩|g
   .rw[g]at z;simp at z
   .exact g.keep ac fun k Z=>V.get k (g.lt Z).2
  obtain⟨r,hix,hld⟩:=hkb.at z;generalize n.kids[j]=kd at *;repeat' (first
   |(apply zcl ?_;clear hK K)|apply Ry.o ?_|(apply aB (fun hb O=>?_) (fun hb O=>?_)<;>try(cases hb;done))|apply ak ?_|(apply zcm fun K hK=>?_)|apply ay ?_|apply zco ?_|fail)
  refine bg rfl bh bj ?_;simp only[br];refine a7 ?_ (Jt hap rfl hw2 Gt _);rintro w3 H3 ⟨hw3,n3,q3⟩;dsimp only[zcF];repeat' (first
   |(apply zcl ?_;clear hK K)|apply Rx.o ?_|(apply zcm fun K hK=>?_)|fail)
  refine⟨ac,zcy,zcy,zcT,oX,?_⟩;exact⟨w3,eE,by rw[htk,List.flatMap_append,oI,Bp,br,<-f8];exact hw3,⟨fun k Z=>by rw[q3 k Z];exact V.get k Z⟩⟩
 .have hlt':¬(j:Int)<n.kids.length:=by omega
  have hje:n.kids.take j=n.kids:=ev ac;rw[hje,<-G7]at hw2;have hcv:=G9 hw2;have Y:RepL X W S s C L:=hR.keep n2' fun k Z _=>V.get k Z;have m2:=Y.m;unfold zek at m2;have hlk:=D4 (P:=Tryz.prog) (t:=110) Tryz.underlying110 zfq B8 Y.t (zdu n);obtain⟨f1,f2,f3⟩:=Jn hn s.l 0 (fun x hx=>hr x (Jm.2 (.inl hx)));clear hje hw1 q1';have hcv':zeI Tryz.prog W 200 9 w2=some (.str (zdu n)):=hcv;clear hcv;by_cases A:iK s.l n<s.l.length
  .rw[cB A]at f1;have f2:=f2 A;rw[f1,f2]at hlk;repeat' (first
    |(apply zcl ?_;clear hK K)|apply Ry.o ?_|(apply aB (fun hb O=>?_) (fun hb O=>?_)<;>try(cases hb;done))|apply ak ?_|(apply zcm fun K hK=>?_)|(apply zc4 7 [(3,12),(5,12),(6,12)] fun K hK=>?_)|(apply zcV ?_;try intro _)|(apply zc5 ?_ ?_<;>clear hK K)|apply bD ?_|apply zco ?_|apply am ?_|apply zcA ?_)
   all_goals first
    |exact eK
    |skip
   all_goals (refine⟨eI,_,eR,?_⟩;try simp only[zcn])
   have e1:zdN n s=(((iK s.l n:Nat):Int),s):=by rw[zdN,og,ax A]
   rw[sR,e1];exact⟨aD,S,C,Y,n2',fun k U _ _ _=>V.get k U,fun k Z=>.inl Z⟩
  .rw[cX A]at f1;have f3:=f3 A;have hix:iK s.l n=s.l.length:=by have:=zxQ s.l n;omega
   have hadd:og s.l n=s.l++[n]:=by rw[og,ah A]
   rw[f1]at hlk;have hll:∀H',zc0 Tryz.prog H' 26 C=some (.int .i64 s.l.length):=fun H'=>by
    have:=Y.nodes.len (P:=Tryz.prog) (t:=26) (H':=H') Tryz.underlying26
    rwa [cR]at this
   have hup:ze2 Tryz.prog W 110 (.map X.rt) (.str (zdu n)) (.int .i64 s.l.length)=some (W.set X.rt (.map (cP (atV (s.l++[n]) 0)))):=by
    rw[(zT (P:=Tryz.prog) (t:=110) (nm:=zdu n) Tryz.underlying110 zfq Y.t).1 ((zY (zdu n) (atV s.l 0) 0).1 f1).1,<-zto];simp[cP]
   have hbn:=zaJ Z n.op n.imm;have hone:=Z.one;have hbs:∀H,zdS Tryz.prog H 26 1 [(0,.agg [.int .i64 n.op,.int .i64 n.imm,kv])]=some (.sl H.next 0 1 3,H.alloc (.cells [.int .i64 n.op,.int .i64 n.imm,kv] 0 true)):=fun H=>zaH H rfl Jo;have g3:∀k,k≠X.rt->(W.set X.rt (.map (cP (atV (s.l++[n]) 0)))).get k=W.get k:=fun k Z=>by rw[aU,ah Z]
   have g4:∀k,k≠X.rt->k<W.next->((W.set X.rt (.map (cP (atV (s.l++[n]) 0)))).alloc (.cells [.int .i64 n.op,.int .i64 n.imm,kv] 0 true)).get k=W.get k:=fun k Z hl=>by rw[zcu,ah sP,g3 k Z]
   have m3:(W.set X.rt (.map (cP (atV (s.l++[n]) 0)))).get X.b=some (.cells (zek X s C L) 0 true):=by rw[g3 _ ac];exact Y.m
   have m4:((W.set X.rt (.map (cP (atV (s.l++[n]) 0)))).alloc (.cells [.int .i64 n.op,.int .i64 n.imm,kv] 0 true)).get X.b=some (.cells (zek X s C L) 0 true):=by rw[g4 _ ac ac];exact Y.m
   have g4n:((W.set X.rt (.map (cP (atV (s.l++[n]) 0)))).alloc (.cells [.int .i64 n.op,.int .i64 n.imm,kv] 0 true)).get W.next=some (.cells [.int .i64 n.op,.int .i64 n.imm,kv] 0 true):=xc
   have F:∀k,zdF kv k->k<H.next:=fun k i=>(Z.lt i).2
   obtain⟨H5,a5,s5,n5,q5⟩:=I6 (P:=Tryz.prog) (t:=26) Tryz.underlying26 wF Eg Eh rfl af (S':=fun k=>S k\/zdF kv k\/k=W.next+1)
    (Y.nodes.keep (S':=S) (H':=(W.set X.rt (.map (cP (atV (s.l++[n]) 0)))).alloc (.cells [.int .i64 n.op,.int .i64 n.imm,kv] 0 true)) (fun _ _ h=>h) (f7 _) fun k Z h6=>g4 k (by have:=(Y.sS k Z).1;omega) h6)
    (fun k _ h=>.inl h) (.inr (.inr rfl)) (r:=W.next) (imm:=0) (row:=[.int .i64 n.op,.int .i64 n.imm,kv]) (w:=n.cells) g4n rfl Jo
    (zaI n.op n.imm (lo:=0) (Z.keep BD fun k i=>by rw[g4 k (by have:=(I k i).1;omega) (by have:=F k i;omega)];exact V.get k (F k i)) fun k i=>⟨.inr (.inl i),fun o m z' e=>(I k i).2.1 (by
      rcases Y.nodes with⟨U,_⟩|⟨q,im,rows,U,g,_⟩
      .rw[U]at e;cases e
      .rw[U]at e;simp only[AV.sl.injEq]at e;rw[<-e.1];exact g)⟩)
    Jp Jp
   rw[cR]at a5 s5;simp only[zcB,zcS]at a5 s5 n5 q5;have hno:∀k,(¬S k)->∀o m z',C≠.sl k o m z':=fun k Z o m z' e=>Z (by
    rcases Y.nodes with⟨U,_⟩|⟨q,im,rows,U,g,_⟩
    .rw[U]at e;cases e
    .rw[U]at e;simp only[AV.sl.injEq]at e;rw[<-e.1];exact g)
   have m5:H5.get X.b=some (.cells (zek X s C L) 0 true):=by rw[q5 _ ac (hno _ fun e=>u6)];exact m4
   have J:∀k,k<W.next->k≠X.rt->¬S k->H5.get k=W.get k:=fun k U g h3=>by rw[q5 _ ac (hno _ h3)];exact g4 k g U
   have t5:H5.get X.rt=some (.map (cP (atV (s.l++[n]) 0))):=by rw[q5 _ ac (hno _ fun e=>u6),zcu,ah sP,aU,ax rfl]
   have hpo:zdN n s=(((iK s.l n:Nat):Int),{s with l:=s.l++[n] }):=by rw[zdN,hadd]
   have fin:sR X S L kv H n s (.int .i64 s.l.length) (H5.set X.b (.cells (zek X {s with l:=s.l++[n] } (.sl (W.next+1) 0 (s.l.length+1) 3) L) 0 true)):=by
    rw[sR,hpo,hix];have g6:∀k,k≠X.b->(H5.set X.b (.cells (zek X {s with l:=s.l++[n] } (.sl (W.next+1) 0 (s.l.length+1) 3) L) 0 true)).get k=H5.get k:=fun k Z=>by rw[aU,ah Z]
    refine⟨rfl,fun k=>S k\/zdF kv k\/k=W.next+1,_,⟨hB,?_,?_,?_,?_,?_,?_,o1,o2,o3,o4,?_,?_,?_⟩,?_,?_,?_⟩
    .rw[g6 _ ac,J _ ac ac fun e=>u6];exact Y.a
    .rw[g6 _ ac,J _ ac ac fun e=>u6];exact Y.f
    .rw[g6 _ ac];exact t5
    .rw[g6 _ ac,J _ ac ac fun e=>u6];exact Y.n
    .have e:(s.l++[n]).map Nd.cells=s.l.map Nd.cells++[n.cells]:=by simp
     rw[e];refine s5.keep (fun _ _ h=>h) (aM _) fun k Z _=>g6 k ?_;rcases Z with Z|Z|Z
     .have:=(Y.sS _ Z).1;omega
     .have:=(I _ Z).1;omega
     .omega
    .exact Y.vars.keep sP fun k Z=>by rw[g6 k (by have:=(Y.vS k Z).1;omega),J k (Y.vS k Z).2 (by have:=(Y.vS k Z).1;omega) fun e=>(Y.sS k e).2.2 Z]
    .simp only[zcS];omega
    .rintro k (Z|Z|Z)
     .have:=Y.sS k Z;exact⟨this.1,sP,this.2.2⟩
     .have:=I k Z;have g:=F k Z;exact⟨this.1,sP,this.2.2⟩
     .refine⟨ac,sP,fun e=>?_⟩;have:=(Y.vS k e).2;omega
    .intro k Z;have:=Y.vS k Z;simp only[zcS];omega
    .simp only[zcS];omega
    .intro k U g h3 h4;rw[g6 k g,J k ac h3 h4];exact V.get k U
    .rintro k (Z|Z|Z)
     .exact .inl Z
     .exact .inr (.inl Z)
     .exact .inr (.inr ac)
   unfold zek at m3 m4 m5 fin;clear s5 J t5 g3 g4 q5 F;repeat' (first
    |(apply zcl ?_;clear hK K)|apply Ry.o ?_|apply b7 ?_|(apply aB (fun hb O=>?_) (fun hb O=>?_)<;>try(cases hb;done))|apply ak ?_|(apply zcm fun K hK=>?_)|(apply zc4 7 [(3,12),(5,12),(6,12)] fun K hK=>?_)|(apply nU 10 fun K hK=>?_)|(apply zcV ?_;try intro _)|(apply zc5 ?_ ?_<;>clear hK K)|apply bD ?_|apply am ?_|apply zcA ?_)
   all_goals first
    |exact eK
    |skip
   all_goals (refine⟨eI,_,eR,?_⟩;try simp only[zcn])
   exact fin
end
section
structure zeu (a b:Bd):Prop where
 l:a.l<+:b.l
 n:a.loops<=b.loops
theorem zeu.refl(a:Bd):zeu a a:=⟨uY _,aM _⟩
theorem zeu.trans{a b c:Bd}(h:zeu a b)(k:zeu b c):zeu a c:=⟨h.l.trans k.l,eG h.n k.n⟩
structure Fin (s:Bd):Prop where
 r:∀x∈s.l,NdR x
 l:s.l.length<2^36
 n:s.loops<2^36
theorem Fin.le{a b:Bd}(h:Fin b)(k:zeu a b):Fin a:=⟨fun x F=>h.r x (k.l.subset F),xY k.l.length_le h.l,xY k.n h.n⟩
structure Lv (a b:Bd):Prop where
 le:zeu a b
 v:b.vars=a.vars
 n:b.loops=a.loops
theorem Lv.refl(a:Bd):Lv a a:=⟨zeu.refl a,rfl,rfl⟩
theorem Lv.trans{a b c:Bd}(h:Lv a b)(k:Lv b c):Lv a c:=⟨h.le.trans k.le,k.v.trans h.v,k.n.trans h.n⟩
theorem Lv.setS{a b:Bd}(h:Lv a b)(x:Int):Lv a {b with state:=x}:=⟨⟨h.le.l,h.le.n⟩,h.v,h.n⟩
theorem zeY(n:Nd)(s:Bd):Lv s (zdN n s).2:=⟨⟨B5 s.l n,aM _⟩,rfl,rfl⟩
theorem x5(c a b:Int)(s:Bd):Lv s (zeo c a b s).2:=by
 unfold zeo;split
 .exact Lv.refl s
 .exact zeY _ s
theorem x6(t v:Int)(s:Bd):Lv s (u5 t v s):=(zeY _ s).setS _
theorem Jv(t v:Int)(s:Bd):Lv s (sN t v s):=(zeY _ s).trans ((zeY _ _).trans (x6 _ _ _))
theorem Jw(v:Int)(s:Bd):Lv s (sO v s):=(zeY _ s).trans ((zeY _ _).trans (x6 _ _ _))
theorem u7(c:Cx):∀(n:Nat) (x:Ex) (s:Bd) (r:Int×Bd),kL c n x s=some r->Lv s r.2
 |0,_,_,_,h=>by simp[kL]at h
 |n+1,x,s,r,h=>by
  have V:=u7 c n;unfold kL at h;split at h
  .cases h;exact zeY _ s
  split at h
  .obtain⟨v,_,rfl⟩:=mr.1 h;exact Lv.refl s
  split at h
  .simp only[ch,az]at h;obtain⟨k,_,zct,i,a,_,rfl⟩:=h;exact(V _ _ _ i).trans ((Jv _ _ _).trans (zeY _ _))
  split at h
  .simp only[ch,az]at h;obtain⟨zdz,_,zcN,o,zdc,_,zct,i,zc8,_,r2,g,rfl⟩:=h;have a:=(V _ _ _ o).trans (V _ _ _ i);have b:=(a.setS zcN.2.state).trans (V _ _ _ g);exact(b.trans ((x5 _ _ _ _).trans (x5 _ _ _ _))).setS _
  .simp only[ch]at h;obtain⟨zdz,_,zcN,o,h⟩:=h;have a:=V _ _ _ o;split at h
   .cases h;exact a.trans (zeY _ _)
   .simp only[ch,az]at h;obtain⟨zdc,_,zct,i,rfl⟩:=h;have b:=a.trans (V _ _ _ i);refine Lv.trans ?_ (zeY _ _);split
    .exact b.trans (Jw _ _)
    .exact b
def tyLoC.tyF:=ad @bZ (ad @dl (ad @d8 (ad @eL (ad @hM (ad @lm (ad @mM (ad @jP (ad @qb (@ue)))))))))
open tyLoC
noncomputable def Jx:{c:SC // aA 8 (Tryz.f90.body.getD .skip)=c}:=by
 refine⟨?_,?_⟩;rotate_left
 .simp only[Tryz.f90,a3,aA,zcG,zcE,zcJ,zcK,Nat.blt,Nat.ble];rfl
noncomputable def Jy:{c:SC // aA 18 (Tryz.f141.body.getD .skip)=c}:=by
 refine⟨?_,?_⟩;rotate_left
 .simp only[Tryz.f141,a3,aA,zcG,zcE,zcJ,zcK,Nat.blt,Nat.ble];rfl
noncomputable def x7:{c:SC // aA 19 (Tryz.f177.body.getD .skip)=c}:=by
 refine⟨?_,?_⟩;rotate_left
 .simp only[Tryz.f177,a3,aA,zcG,zcE,zcJ,zcK,Nat.blt,Nat.ble];rfl
noncomputable def Jz:{c:SC // aA 25 (Tryz.f139.body.getD .skip)=c}:=by
 refine⟨?_,?_⟩;rotate_left
 .simp only[Tryz.f139,a3,aA,zcG,zcE,zcJ,zcK,Nat.blt,Nat.ble];rfl
def nj(X:Lx)(S:Nat->Prop)(K:AV)(H:Hp)(r:Int×Bd)(v:AV)(H':Hp):Prop:=v=.int .i64 r.1/\∃W Y,RepL X H' W r.2 Y K/\FrL X S K H W K H'
def JA(X:Lx)(S:Nat->Prop)(K:AV)(H:Hp)(r:Bd)(v:AV)(H':Hp):Prop:=∃W Y C,RepL X H' W r Y C/\FrL X S K H W C H'
def JB(X:Lx)(S:Nat->Prop)(K:AV)(H:Hp)(r:Bd)(v:AV)(H':Hp):Prop:=∃W Y,RepL X H' W r Y K/\FrL X S K H W K H'
theorem sR.val{X:Lx}{S:Nat->Prop}{K kv:AV}{H O H':Hp}{n:Nd}{s:Bd}{v:AV}(h:sR X S K kv O n s v H')(i:FrL X S K H S K O)(j:∀k,zdF kv k->H.next<=k):nj X S K H (zdN n s) v H':=by
 obtain⟨Z,W,Y,g,o,U,V⟩:=h;refine⟨Z,W,Y,g,eG i.next o,fun k a b c d e=>?_,fun k a=>?_,fun k a=>.inl a⟩
 .rw[U k (fZ a i.next) b c d];exact i.get k a b c d e
 .rcases V k a with a|a|a
  .exact .inl a
  .exact .inr (j k a)
  .exact .inr (eG i.next a)
theorem JC{r o n z k:Nat}(h:zdF (.sl r o n z) k):k=r:=by
 obtain⟨m,e⟩:=h;simp only[AV.sl.injEq]at e;exact e.1.symm
theorem JD{k:Nat}(h:zdF .nilS k):False:=by
 obtain⟨m,e⟩:=h;cases e
theorem nk{tb:List En}(V:LowT tb){X:Lx}{H O:Hp}{S:Nat->Prop}{s:Bd}{U K:AV}(M:RepL X O S s U K)(i:FrL X S K H S K O)(n:Nd){r m:Nat}(L:n.kids.length=m)(A:O.get r=some (.cells (n.kids.map (.int .i64)) 0 true))(hr:H.next<=r)(Z:r<O.next)(z:X.b<r)(hS:¬S r)(J:¬zdF K r)(g:Fin (zdN n s).2){op imm:Int}(Y:n.op=op)(W:n.imm=imm):
 zcx Tryz.prog (zcq pls tb) 89 [.ptr X.b 0,.int .i64 op,.int .i64 imm,.sl r 0 m 1] O (nj X S K H (zdN n s)):=by
 subst L;subst Y;subst W;refine a7 ?_ (Ju V M n (.inr ⟨r,0,rfl,A,cK _,cK _,Z⟩) (fun k j=>?_) g.r (xY (B5 s.l n).length_le g.l))
 .intro v H' h;exact h.val i fun k j=>by rw[JC j];exact hr
 .rw[JC j];exact⟨z,hS,J⟩
theorem zxU{tb:List En}(W:LowT tb){X:Lx}{H O:Hp}{S:Nat->Prop}{s:Bd}{Z K:AV}(Y:RepL X O S s Z K)(i:FrL X S K H S K O)(op imm:Int)(g:Fin (zdN ⟨op,imm,[]⟩ s).2):
 zcx Tryz.prog (zcq pls tb) 89 [.ptr X.b 0,.int .i64 op,.int .i64 imm,.nilS] O (nj X S K H (zdN ⟨op,imm,[]⟩ s)):=by
 refine a7 ?_ (Ju W Y ⟨op,imm,[]⟩ (.inl ⟨rfl,rfl⟩) (fun k j=>(JD j).elim) g.r (xY (B5 s.l _).length_le g.l));intro v H' h;exact h.val i fun k j=>(JD j).elim
theorem RepL.new{X:Lx}{H:Hp}{S:Nat->Prop}{s:Bd}{O K:AV}(h:RepL X H S s O K){r:Nat}(hr:H.next<=r):¬S r/\¬zdF K r/\X.b<r:=⟨fun e=>by have:=(h.sS r e).2.1;omega,fun e=>by have:=(h.vS r e).2;omega,by have:=h.o5;omega⟩
theorem nj.pre{X:Lx}{S U:Nat->Prop}{K:AV}{H zc2:Hp}{r:Int×Bd}{v:AV}{H':Hp}(h:nj X S K H r v H')(i:FrL X U K zc2 S K H):nj X U K zc2 r v H':=by
 obtain⟨Z,W,Y,g,o⟩:=h;exact⟨Z,W,Y,g,i.trans o⟩
theorem x8{tb:List En}(W:LowT tb){X:Lx}{H O:Hp}{S:Nat->Prop}{s:Bd}{Y Z:AV}(j:RepL X O S s Y Z)(i:FrL X S Z H S Z O)(n:Int)(V:Fin (zdN ⟨1,n,[]⟩ s).2):
 zcx Tryz.prog (zcq pls tb) 90 [.ptr X.b 0,.int .i64 n] O (nj X S Z H (zdN ⟨1,n,[]⟩ s)):=by
 have J:Plain (zcq pls tb) 90:=W.plain db;refine zcv (M:=8) (rs:=[.tmp 4]) (J.call _) J.ice J.froz Tryz.func90 rfl rfl Jx.2 rfl ?_;dsimp only[Jx,zcr,Nat.reduceAdd];repeat' (first
  |(apply zcl ?_;clear hK K)|apply Rx.o ?_|apply ak ?_|(apply zcm fun K hK=>?_)|fail)
 refine bg rfl bh bj ?_;simp only[br];refine a7 ?_ (zxU W j i 1 n V);rintro v U g;obtain⟨rfl,o⟩:=id g;dsimp only[zcF];repeat' (first
  |(apply zcl ?_;clear hK K)|apply Rx.o ?_|apply am ?_)
 all_goals (refine⟨eI,_,eR,?_⟩;try simp only[zcn])
 exact g
theorem bI2(H:Hp)(a b:Int):zdS Tryz.prog H 23 2 [(0,.int .i64 a),(1,.int .i64 b)]=some (.sl H.next 0 2 1,H.alloc (.cells [.int .i64 a,.int .i64 b] 0 true)):=af
theorem JE(H:Hp)(a b c:Int):zdS Tryz.prog H 23 3 [(0,.int .i64 a),(1,.int .i64 b),(2,.int .i64 c)]=some (.sl H.next 0 3 1,H.alloc (.cells [.int .i64 a,.int .i64 b,.int .i64 c] 0 true)):=af
theorem bI1(H:Hp)(a:Int):zdS Tryz.prog H 23 1 [(0,.int .i64 a)]=some (.sl H.next 0 1 1,H.alloc (.cells [.int .i64 a] 0 true)):=af
theorem B9{tb:List En}(W:LowT tb){X:Lx}{H O:Hp}{S:Nat->Prop}{s:Bd}{V Z:AV}(j:RepL X O S s V Z)(i:FrL X S Z H S Z O)(t v:Int)(g:Fin (u5 t v s)):
 zcx Tryz.prog (zcq pls tb) 141 [.ptr X.b 0,.int .i64 t,.int .i64 v] O (JB X S Z H (u5 t v s)):=by
 have J:Plain (zcq pls tb) 141:=W.plain db;have zdY:=j.m;unfold zek at zdY;refine zcv (M:=18) (rs:=[]) (J.call _) J.ice J.froz Tryz.func141 rfl rfl Jy.2 rfl ?_;dsimp only[Jy,zcr,Nat.reduceAdd];have L:=@bI2;repeat' (first
  |apply Rx.o ?_|(apply zcm fun K hK=>?_)|fail)
 refine bg rfl bh bj ?_;simp only[br];have Y:=j.new (aM _);refine a7 ?_ (nk W (j.alloc _) (i.alloc _) ⟨27,t,[s.state,v]⟩ rfl hW i.next (cL _) Y.2.2 Y.1 Y.2.1 (g.le ⟨uY _,aM _⟩) rfl rfl);rintro w z ⟨rfl,U,C,F,I⟩;have A:=F.m;unfold zek at A;dsimp only[zcF];repeat' (first
  |(apply zcl ?_;clear hK K)|apply Rx.o ?_|apply b8 ?_|fail)
 all_goals (refine⟨eI,_,eR,?_⟩;try simp only[zcn])
 obtain⟨a,b⟩:=F.setS (zdN ⟨27,t,[s.state,v]⟩ s).1;exact⟨U,C,a,I.trans b⟩
theorem JF{tb:List En}(W:LowT tb){X:Lx}{H O:Hp}{S:Nat->Prop}{s:Bd}{U Z:AV}(j:RepL X O S s U Z)(i:FrL X S Z H S Z O)(c a b:Int)(g:Fin (zeo c a b s).2):
 zcx Tryz.prog (zcq pls tb) 177 [.ptr X.b 0,.int .i64 c,.int .i64 a,.int .i64 b] O (nj X S Z H (zeo c a b s)):=by
 have J:Plain (zcq pls tb) 177:=W.plain db;by_cases h:a=b
 .subst h;have e:zeo c a a s=(a,s):=by rw[zeo,ax rfl]
  rw[e];refine zcv (M:=19) (rs:=[.tmp 8]) (J.call _) J.ice J.froz Tryz.func177 rfl rfl x7.2 rfl ?_;dsimp only[x7,zcr,Nat.reduceAdd];repeat' (first
   |(apply zcl ?_;clear hK K)|apply Ry.o ?_|(apply aB (fun z V=>?_) (fun z V=>?_)<;>try(cases z;done))|apply ak ?_|(apply zcm fun K hK=>?_)|apply am ?_)
  all_goals (refine⟨eI,_,eR,?_⟩;try simp only[zcn])
  exact⟨rfl,S,U,j,i⟩
 .have e:zeo c a b s=zdN ⟨22,0,[c,a,b]⟩ s:=by rw[zeo,ah h]
  rw[e]at g⊢;have Y:=j.new (aM _);refine zcv (M:=19) (rs:=[.tmp 8]) (J.call _) J.ice J.froz Tryz.func177 rfl rfl x7.2 rfl ?_;dsimp only[x7,zcr,Nat.reduceAdd];have I:=@JE;repeat' (first
   |(apply zcl ?_;clear hK K)|apply Ry.o ?_|(apply aB (fun z V=>?_) (fun z V=>?_)<;>try(cases z;done))|apply ak ?_|(apply zcm fun K hK=>?_)|apply zco ?_|fail)
  refine bg rfl bh bj ?_;simp only[br];refine a7 ?_ (nk W (j.alloc _) (i.alloc _) ⟨22,0,[c,a,b]⟩ rfl hW i.next (cL _) Y.2.2 Y.1 Y.2.1 g rfl rfl);intro w F L;obtain⟨rfl,o⟩:=id L;dsimp only[zcF];repeat' (first
   |(apply zcl ?_;clear hK K)|apply Rx.o ?_|apply am ?_)
  all_goals (refine⟨eI,_,eR,?_⟩;try simp only[zcn])
  exact L
theorem znu{tb:List En}(W:LowT tb){X:Lx}{H O:Hp}{S:Nat->Prop}{s:Bd}{I Z:AV}(j:RepL X O S s I Z)(C:FrL X S Z H S Z O)(k:Nat)(i:Int){a:Ar}(ha:X.p.arrays[k]?=some a)(L:Fin (sN a.len i s)):
 zcx Tryz.prog (zcq pls tb) 139 [.ptr X.b 0,.int .i64 (k:Int),.int .i64 i] O (JB X S Z H (sN a.len i s)):=by
 have J:Plain (zcq pls tb) 139:=W.plain db;have zdY:=j.m;unfold zek at zdY;have g:Fin (zdN ⟨19,0,[i,(zdN ⟨1,a.len,[]⟩ s).1]⟩ (zdN ⟨1,a.len,[]⟩ s).2).2:=L.le (x6 _ _ _).le;have V:Fin (zdN ⟨1,a.len,[]⟩ s).2:=g.le (zeY _ _).le;refine zcv (M:=25) (rs:=[]) (J.call _) J.ice J.froz Tryz.func139 rfl rfl Jz.2 rfl ?_;dsimp only[Jz,zcr,Nat.reduceAdd];repeat' (first
  |apply Rx.o ?_|apply ak ?_|(apply zcm fun K hK=>?_)|fail)
 refine bg rfl bh bj ?_;simp only[br];refine a7 ?_ (x8 W j C a.len V);rintro w H2 ⟨rfl,S2,A,F,z⟩;dsimp only[zcF];have U:=F.new (aM _);have gh0:=@bI2;repeat' (first
  |(apply zcl ?_;clear hK K)|apply Rx.o ?_|(apply zcm fun K hK=>?_)|fail)
 refine bg rfl bh bj ?_;simp only[br];refine a7 ?_ (nk W (F.alloc _) ((ff _ _ _ _).alloc _) ⟨19,0,[i,(zdN ⟨1,a.len,[]⟩ s).1]⟩ rfl hW (aM _) (cL _) U.2.2 U.1 U.2.1 g rfl rfl);rintro w H3 ⟨rfl,S3,o,m,F3⟩;dsimp only[zcF];repeat' (first
  |(apply zcl ?_;clear hK K)|fail)
 refine bg rfl bh bj ?_;simp only[br];refine a7 ?_ (B9 W m (ff _ _ _ _) 2 _ L);rintro w H4 ⟨S4,Y,R4,F4⟩;dsimp only[zcF];repeat' (first
  |(apply zcl ?_;clear hK K)|fail)
 all_goals (refine⟨eI,_,eR,?_⟩;try simp only[zcn])
 exact⟨S4,Y,R4,z.trans (F3.trans F4)⟩
end
section
def tyLoD.tyF:=ad @cI (ad @bZ (ad @dl (ad @d8 (ad @eL (ad @jP (ad @iB (ad @gk (ad @qb (ad @ue (ad @bI2 (@bI1)))))))))))
open tyLoD
noncomputable def lE:{c:SC // aA 110 (Tryz.f92.body.getD .skip)=c}:=by
 refine⟨?_,?_⟩;rotate_left
 .simp only[Tryz.f92,a3,aA,zcG,zcE,zcJ,zcK,Nat.blt,Nat.ble];rfl
noncomputable def JG:{c:SC // aA 58 (Tryz.f140.body.getD .skip)=c}:=by
 refine⟨?_,?_⟩;rotate_left
 .simp only[Tryz.f140,a3,aA,zcG,zcE,zcJ,zcK,Nat.blt,Nat.ble];rfl
structure CxOk (X:Lx) (c:Cx):Prop where
 ar:c.arrays=X.p.arrays
 ae:∀nm,eg X.ae nm=j8 (c.arrays.map (·.name)) nm
 ne:∀nm,eg X.ne nm=j8 c.names nm
 fe:∀nm,0<=jh c.funcs nm 0->eg X.fe nm=jh c.funcs nm 0
theorem FrL.box{X:Lx}{O Z:Hp}{S M:Nat->Prop}{s:Bd}{Y K F:AV}(j:RepL X O S s Y K){b:HB}(h:FrL X S K (O.alloc b) M F Z):Z.get O.next=some b:=by
 have n:=j.new (aM _);have A:=j.o3;have W:=j.o4;rw[h.get _ (cL _) (by have:=n.2.2;omega) (by have:=n.2.2;omega) n.1 n.2.1,zcu,ax rfl]
def nl:=@FrL.box
theorem RepL.lkN{X:Lx}{c:Cx}(Y:CxOk X c){H:Hp}{S:Nat->Prop}{s:Bd}{O K:AV}(j:RepL X H S s O K)(nm:zdb):zeD Tryz.prog H 110 (.map X.rn) (.str nm) false=some (.int .i64 (j8 c.names nm)):=by
 rw[<-Y.ne];exact D0 (P:=Tryz.prog) Tryz.underlying110 zfq B8 j.n nm
theorem RepL.lkA{X:Lx}{c:Cx}(Y:CxOk X c){H:Hp}{S:Nat->Prop}{s:Bd}{O K:AV}(j:RepL X H S s O K)(nm:zdb):zeD Tryz.prog H 110 (.map X.ra) (.str nm) false=some (.int .i64 (j8 (c.arrays.map (·.name)) nm)):=by
 rw[<-Y.ae];exact D0 (P:=Tryz.prog) Tryz.underlying110 zfq B8 j.a nm
theorem RepL.atV{X:Lx}{H:Hp}{S:Nat->Prop}{s:Bd}{O K:AV}(h:RepL X H S s O K){i:Nat}{x:Int}(C:s.vars[i]?=some x):∃r,zcU Tryz.prog 23 K (.int .i64 (i:Int))=some (.ptr r i)/\zdZ Tryz.prog H 3 (.ptr r i)=some (.int .i64 x):=by
 have z:i<s.vars.length:=by
  by_cases c:i<s.vars.length
  .exact c
  .rw[fG ac]at C;cases C
 obtain⟨r,Z,g,_⟩:=h.setV z 0;refine⟨r,Z,?_⟩;rw[g,cJ,C];rfl
set_option maxRecDepth 100000 in
theorem JH{tb:List En}(W:LowT tb){X:Lx}{c:Cx}(hX:CxOk X c):∀(n:Nat) (x:Ex) (s:Bd) (r:Int×Bd),kL c n x s=some r->Fin r.2->∀{H H1:Hp}{S:Nat->Prop}{lv vv:AV},RepL X H1 S s lv vv->FrL X S vv H S vv H1 ->
 zcx Tryz.prog (zcq pls tb) 92 [.ptr X.b 0,.agg x.cells] H1 (nj X S vv H r)
 |0,x,s,r,h,_,_,_,_,_,_,_,_=>by simp[kL]at h
 |n+1,x,s,r,h,hF,H,H1,S,lv,vv,hR,hf=>by
  have IH:=JH W hX n;have J:Plain (zcq pls tb) 92:=W.plain db;have hwc:Plain (zcq pls tb) 140:=W.plain db;have Z:=hR.alloc (.cells x.cells 0 true);have F1:=hf.alloc (.cells x.cells 0 true);have zdY:=Z.m;unfold zek at zdY;have nw:=hR.new (aM _);unfold kL at h;by_cases h1:x.kind=1
  .rw[ax h1,az]at h;subst h;refine zcv (M:=110) (rs:=[.tmp 4]) (J.call _) J.ice J.froz Tryz.func92 rfl rfl lE.2 rfl ?_;dsimp only[lE,zcr,Nat.reduceAdd];repeat' (first
    |(apply zcl ?_;clear hK K)|apply Ry.o ?_|(apply aB (fun z V=>?_) (fun z V=>?_)<;>try(cases z;done))|apply ak ?_|(apply zcm fun K hK=>?_)|apply ay ?_|fail)
   refine bg rfl bh bj ?_;simp only[br];refine a7 ?_ (x8 W Z F1 x.n hF);intro w H2 h2;obtain⟨rfl,h3⟩:=id h2;dsimp only[zcF];repeat' (first
    |(apply zcl ?_;clear hK K)|apply Rx.o ?_|apply am ?_)
   all_goals (refine⟨eI,_,eR,?_⟩;try simp only[zcn])
   exact h2
  rw[ah h1]at h;by_cases h2:x.kind=2
  .rw[ax h2]at h;obtain⟨v,hv,rfl⟩:=mr.1 h;have hlk:=Z.lkN hX x.name;obtain⟨q,hix,hld⟩:=Z.atV hv;refine zcv (M:=110) (rs:=[.tmp 4]) (J.call _) J.ice J.froz Tryz.func92 rfl rfl lE.2 rfl ?_;dsimp only[lE,zcr,Nat.reduceAdd];repeat' (first
    |(apply zcl ?_;clear hK K)|apply Ry.o ?_|(apply aB (fun z V=>?_) (fun z V=>?_)<;>try(cases z;done))|apply ak ?_|(apply zcm fun K hK=>?_)|(apply zc4 5 [(3,14),(7,14),(9,14),(10,14),(12,14)] fun K hK=>?_)|(apply zcV ?_;try intro _)|(apply zc5 ?_ ?_<;>clear hK K)|apply bD ?_|apply ay ?_|apply am ?_)
   all_goals first
    |exact eK
    |skip
   all_goals (refine⟨eI,_,eR,?_⟩;try simp only[zcn])
   exact⟨rfl,S,lv,Z,F1⟩
  rw[ah h2]at h;by_cases h3:x.kind=3
  .rw[ax h3]at h;simp only[ch,az]at h;obtain⟨k,hk,zct,he,a,ha,rfl⟩:=h;have ha':X.p.arrays[j8 (c.arrays.map (·.name)) x.name]?=some a:=by rw[<-hX.ar];exact ha
   have hFc:Fin (sN a.len zct.1 zct.2):=hF.le (zeY _ _).le;have hlk1:=Z.lkA hX x.name;refine zcv (M:=110) (rs:=[.tmp 4]) (J.call _) J.ice J.froz Tryz.func92 rfl rfl lE.2 rfl ?_;dsimp only[lE,zcr,Nat.reduceAdd];repeat' (first
    |(apply zcl ?_;clear hK K)|apply Ry.o ?_|(apply aB (fun z V=>?_) (fun z V=>?_)<;>try(cases z;done))|apply ak ?_|(apply zcm fun K hK=>?_)|(apply zc4 7 [(2,5),(4,5),(9,5),(9,15),(11,5),(11,15),(12,5),(12,15)] fun K hK=>?_)|(apply zcV ?_;try intro _)|apply bD ?_|apply ay ?_|fail)
   refine bg rfl bh bj ?_;simp only[eM];refine a7 ?_ (IH k s zct he (hFc.le (Jv _ _ _).le) Z (ff _ _ _ _));rintro v H2 ⟨rfl,S2,lv2,F,I⟩;have g2:=nl hR I;have m2:=F.m;unfold zek at m2;have hlk:=F.lkA hX x.name;have n2:H1.next+1<=H2.next:=I.next
   dsimp only[zcF];repeat' (first
    |apply Rx.o ?_|apply ak ?_|(apply zcm fun K hK=>?_)|(apply zcV ?_;try intro _)|(apply zc5 ?_ ?_<;>clear hK K)|apply bD ?_|fail)
   .exact eK
   .refine bg rfl bh bj ?_;simp only[br];refine a7 ?_ (znu W F (ff _ _ _ _) (j8 (c.arrays.map (·.name)) x.name) zct.1 ha' hFc);rintro w H3 ⟨S3,lv3,O,F3⟩;have m3:=O.m;unfold zek at m3;have A:=O.new (aM _);dsimp only[zcF];repeat' (first
     |(apply zcl ?_;clear hK K)|apply Rx.o ?_|apply ak ?_|(apply zcm fun K hK=>?_)|fail)
    refine bg rfl bh bj ?_;simp only[br];refine a7 ?_ (nk W (O.alloc _) ((ff _ _ _ _).alloc _) ⟨23,j8 (c.arrays.map (·.name)) x.name,[(sN a.len zct.1 zct.2).state,zct.1]⟩ rfl hW (aM _) (cL _) A.2.2 A.1 A.2.1 hF rfl rfl);intro w H4 h4;have h5:=h4.pre (F1.trans (I.trans F3));obtain⟨rfl,h6⟩:=h4;dsimp only[zcF];repeat' (first
     |(apply zcl ?_;clear hK K)|apply Rx.o ?_|apply am ?_)
    all_goals (refine⟨eI,_,eR,?_⟩;try simp only[zcn])
    exact h5
  rw[ah h3]at h;by_cases h5:x.kind=5
  .rw[ax h5]at h;simp only[ch,az]at h;obtain⟨zdz,hk0,zcN,e0,zdc,hk1,zct,e1,zc8,hk2,r2,e2,rfl⟩:=h;have hFt:Fin (zeo zcN.1 zct.2.state (zeo zcN.1 zct.1 r2.1 r2.2).2.state (zeo zcN.1 zct.1 r2.1 r2.2).2).2:=hF.le ⟨uY _,aM _⟩;have hFv:Fin (zeo zcN.1 zct.1 r2.1 r2.2).2:=hFt.le (x5 _ _ _ _).le;have hF2:Fin r2.2:=hFv.le (x5 _ _ _ _).le;have o:Fin zct.2:=(hF2.le (u7 c n _ _ _ e2).le).le ⟨uY _,aM _⟩;have m:Fin zcN.2:=o.le (u7 c n _ _ _ e1).le;refine zcv (M:=110) (rs:=[.tmp 4]) (J.call _) J.ice J.froz Tryz.func92 rfl rfl lE.2 rfl ?_;dsimp only[lE,zcr,Nat.reduceAdd];repeat' (first
    |(apply zcl ?_;clear hK K)|apply Ry.o ?_|(apply aB (fun z V=>?_) (fun z V=>?_)<;>try(cases z;done))|apply ak ?_|(apply zcm fun K hK=>?_)|apply ay ?_|fail)
   refine bg rfl bh bj ?_;simp only[br];have R1c:=Z.alloc (.cells x.cells 0 true);have F1c:=F1.alloc (.cells x.cells 0 true);have main:zcx Tryz.prog (zcq pls tb) 140 [.ptr X.b 0,.agg x.cells] (H1.alloc (.cells x.cells 0 true)) (nj X S vv H ((zeo zcN.1 zct.1 r2.1 r2.2).1,{ (zeo zcN.1 zct.2.state (zeo zcN.1 zct.1 r2.1 r2.2).2.state (zeo zcN.1 zct.1 r2.1 r2.2).2).2 with state:=(zeo zcN.1 zct.2.state (zeo zcN.1 zct.1 r2.1 r2.2).2.state (zeo zcN.1 zct.1 r2.1 r2.2).2).1})):=by
    clear zdY nw;refine zcv (M:=58) (rs:=[.tmp 4]) (hwc.call _) hwc.ice hwc.froz Tryz.func140 rfl rfl JG.2 rfl ?_;dsimp only[JG,zcr,Nat.reduceAdd];repeat' (first
     |(apply zcl ?_;clear hK K)|apply Ry.o ?_|apply ak ?_|(apply zcm fun K hK=>?_)|fail)
    refine bg rfl bh bj ?_;simp only[br];refine a7 ?_ (IH zdz s zcN e0 m R1c (ff _ _ _ _));rintro v H2 ⟨rfl,S2,lv2,F,I⟩;have g2:=nl Z I;simp only[zcB]at g2;have m2:=F.m;unfold zek at m2;dsimp only[zcF];repeat' (first
     |(apply zcl ?_;clear hK K)|apply Ry.o ?_|apply ak ?_|(apply zcm fun K hK=>?_)|fail)
    refine bg rfl bh bj ?_;simp only[br];refine a7 ?_ (IH zdc _ zct e1 o F (ff _ _ _ _));rintro v H3 ⟨rfl,S3,lv3,O,F3⟩;have g3:=nl Z (I.trans F3);have m3:=O.m;obtain⟨R3s,F3s⟩:=O.setS zcN.2.state;have g3s:=nl Z (I.trans (F3.trans F3s));simp only[zcB]at g3 g3s;unfold zek at m3;dsimp only[zek]at R3s F3s g3s;dsimp only[zcF];repeat' (first
     |(apply zcl ?_;clear hK K)|apply Ry.o ?_|apply b7 ?_|apply ak ?_|(apply zcm fun K hK=>?_)|fail)
    refine bg rfl bh bj ?_;simp only[br];refine a7 ?_ (IH zc8 _ r2 e2 hF2 R3s (ff _ _ _ _));rintro v H4 ⟨rfl,S4,lv4,R4,F4⟩;dsimp only[zcF];repeat' (first
     |(apply zcl ?_;clear hK K)|apply Rx.o ?_|apply ak ?_|(apply zcm fun K hK=>?_)|fail)
    refine bg rfl bh bj ?_;simp only[br];refine a7 ?_ (JF W R4 (ff _ _ _ _) zcN.1 zct.1 r2.1 hFv);rintro v H5 ⟨rfl,S5,lv5,R5,F5⟩;have m5:=R5.m;unfold zek at m5;dsimp only[zcF];repeat' (first
     |(apply zcl ?_;clear hK K)|apply Rx.o ?_|apply ak ?_|(apply zcm fun K hK=>?_)|fail)
    refine bg rfl bh bj ?_;simp only[br];refine a7 ?_ (JF W R5 (ff _ _ _ _) zcN.1 zct.2.state _ hFt);rintro v H6 ⟨rfl,S6,L,R6,F6⟩;have m6:=R6.m;unfold zek at m6;dsimp only[zcF];repeat' (first
     |(apply zcl ?_;clear hK K)|apply Rx.o ?_|apply b8 ?_|apply ak ?_|(apply zcm fun K hK=>?_)|apply am ?_)
    all_goals (refine⟨eI,_,eR,?_⟩;try simp only[zcn])
    obtain⟨R7,F7⟩:=R6.setS (zeo zcN.1 zct.2.state (zeo zcN.1 zct.1 r2.1 r2.2).2.state (zeo zcN.1 zct.1 r2.1 r2.2).2).1;exact⟨rfl,S6,L,R7,F1c.trans (I.trans (F3.trans (F3s.trans (F4.trans (F5.trans (F6.trans F7))))))⟩
   refine a7 ?_ main;intro w H2 h2;obtain⟨rfl,h3⟩:=id h2;dsimp only[zcF];repeat' (first
    |(apply zcl ?_;clear hK K)|apply Rx.o ?_|apply am ?_)
   all_goals (refine⟨eI,_,eR,?_⟩;try simp only[zcn])
   exact h2
  rw[ah h5]at h;simp only[ch]at h;obtain⟨zdz,hk0,zcN,e0,h⟩:=h;by_cases hz:x.kids.length=1
  .rw[ax hz,az]at h;subst h;have m:Fin zcN.2:=hF.le (zeY _ _).le;have hz':((x.kids.length:Nat):Int)=1:=ac;refine zcv (M:=110) (rs:=[.tmp 4]) (J.call _) J.ice J.froz Tryz.func92 rfl rfl lE.2 rfl ?_;dsimp only[lE,zcr,Nat.reduceAdd];repeat' (first
    |(apply zcl ?_;clear hK K)|apply Ry.o ?_|(apply aB (fun z V=>?_) (fun z V=>?_)<;>try(cases z;done))|apply ak ?_|(apply zcm fun K hK=>?_)|apply ay ?_|apply zco ?_|fail)
   refine bg rfl bh bj ?_;simp only[br];refine a7 ?_ (IH zdz s zcN e0 m Z (ff _ _ _ _));rintro v H2 ⟨rfl,S2,lv2,F,I⟩;have g2:=nl hR I;have nw2:=F.new (aM _);dsimp only[zcF];repeat' (first
    |(apply zcl ?_;clear hK K)|apply Ry.o ?_|(apply aB (fun z V=>?_) (fun z V=>?_)<;>try(cases z;done))|apply ak ?_|(apply zcm fun K hK=>?_)|fail)
   refine bg rfl bh bj ?_;simp only[br];refine a7 ?_ (nk W (F.alloc _) ((ff _ _ _ _).alloc _) ⟨x.op,0,[zcN.1]⟩ rfl hW (aM _) (cL _) nw2.2.2 nw2.1 nw2.2.1 hF rfl rfl);intro w H4 h4;have h5:=h4.pre (F1.trans I);obtain⟨rfl,h6⟩:=h4;dsimp only[zcF];repeat' (first
    |(apply zcl ?_;clear hK K)|apply Rx.o ?_|apply am ?_)
   all_goals (refine⟨eI,_,eR,?_⟩;try simp only[zcn])
   exact h5
  rw[ah hz]at h;simp only[ch,az]at h;obtain⟨zdc,hk1,zct,e1,rfl⟩:=h;have hz':¬((x.kids.length:Nat):Int)=1:=ac;have Y:Fin (if x.op=7\/x.op=8 then sO zct.1 zct.2 else zct.2):=hF.le (zeY _ _).le;have o:Fin zct.2:=by
   split at Y
   .exact Y.le (Jw _ _).le
   .exact Y
  have m:Fin zcN.2:=o.le (u7 c n _ _ _ e1).le;generalize hq:(if x.op=7\/x.op=8 then sO zct.1 zct.2 else zct.2)=q at *;refine zcv (M:=110) (rs:=[.tmp 4]) (J.call _) J.ice J.froz Tryz.func92 rfl rfl lE.2 rfl ?_;dsimp only[lE,zcr,Nat.reduceAdd];repeat' (first
   |(apply zcl ?_;clear hK K)|apply Ry.o ?_|(apply aB (fun z V=>?_) (fun z V=>?_)<;>try(cases z;done))|apply ak ?_|(apply zcm fun K hK=>?_)|apply ay ?_|apply zco ?_|fail)
  refine bg rfl bh bj ?_;simp only[br];refine a7 ?_ (IH zdz s zcN e0 m Z (ff _ _ _ _));rintro v H2 ⟨rfl,S2,lv2,F,I⟩;have g2:=nl hR I;dsimp only[zcF];repeat' (first
   |(apply zcl ?_;clear hK K)|apply Ry.o ?_|(apply aB (fun z V=>?_) (fun z V=>?_)<;>try(cases z;done))|apply ak ?_|(apply zcm fun K hK=>?_)|apply zco ?_|fail)
  refine bg rfl bh bj ?_;simp only[br];refine a7 ?_ (IH zdc _ zct e1 o F (ff _ _ _ _));rintro v H3 ⟨rfl,S3,lv3,O,F3⟩;have g3:=nl hR (I.trans F3);have i:=F1.trans (I.trans F3);dsimp only[zcF];by_cases hd:x.op=7\/x.op=8
  .rw[ax hd]at hq;subst hq;have hFq:Fin (zdN ⟨16,0,[zct.1,(zdN ⟨1,0,[]⟩ zct.2).1]⟩ (zdN ⟨1,0,[]⟩ zct.2).2).2:=Y.le (x6 _ _ _).le;have hFz:Fin (zdN ⟨1,0,[]⟩ zct.2).2:=hFq.le (zeY _ _).le;rcases hd with h7|h8
   .repeat' (first
     |(apply zcl ?_;clear hK K)|apply Ry.o ?_|(apply a8 (fun hg U=>?_) (fun hg U=>?_)<;>try(cases hg;done))|(apply aB (fun z V=>?_) (fun z V=>?_)<;>try(cases z;done))|apply ak ?_|(apply zcm fun K hK=>?_)|fail)
    refine bg rfl bh bj ?_;simp only[br];refine a7 ?_ (x8 W O (ff _ _ _ _) 0 hFz);rintro v H4 ⟨rfl,S4,lv4,R4,F4⟩;have g:=R4.new (aM _);dsimp only[zcF];repeat' (first
     |apply Rx.o ?_|fail)
    refine bg rfl bh bj ?_;simp only[br];refine a7 ?_ (nk W (R4.alloc _) ((ff _ _ _ _).alloc _) ⟨16,0,[zct.1,(zdN ⟨1,0,[]⟩ zct.2).1]⟩ rfl hW (aM _) (cL _) g.2.2 g.1 g.2.1 hFq rfl rfl);rintro v H5 ⟨rfl,S5,lv5,R5,F5⟩;dsimp only[zcF];repeat' (first
     |(apply zcl ?_;clear hK K)|fail)
    refine bg rfl bh bj ?_;simp only[br];refine a7 ?_ (B9 W R5 (ff _ _ _ _) 1 _ Y);rintro v H6 ⟨S6,L,R6,F6⟩;have F36:=F4.trans (F5.trans F6);have g6:=nl hR (I.trans (F3.trans F36));have j:=R6.new (aM _);have R6':RepL X H6 S6 (sO zct.1 zct.2) L vv:=R6;dsimp only[zcF];repeat' (first
     |(apply zcl ?_;clear hK K)|apply Rx.o ?_|apply ak ?_|(apply zcm fun K hK=>?_)|fail)
    refine bg rfl bh bj ?_;simp only[br];refine a7 ?_ (nk W (R6'.alloc _) ((ff _ _ _ _).alloc _) ⟨x.op,0,[zcN.1,zct.1]⟩ rfl hW (aM _) (cL _) j.2.2 j.1 j.2.1 hF h7 rfl);intro w H7 C;have h5q:=C.pre (i.trans F36);obtain⟨rfl,h6q⟩:=C;dsimp only[zcF];repeat' (first
     |(apply zcl ?_;clear hK K)|apply Rx.o ?_|apply am ?_)
    all_goals (refine⟨eI,_,eR,?_⟩;try simp only[zcn])
    rw[h7]at h5q⊢;exact h5q
   .have h7:¬x.op=7:=by omega
    repeat' (first
     |(apply zcl ?_;clear hK K)|apply Ry.o ?_|(apply a8 (fun hg U=>?_) (fun hg U=>?_)<;>try(cases hg;done))|(apply aB (fun z V=>?_) (fun z V=>?_)<;>try(cases z;done))|apply ak ?_|(apply zcm fun K hK=>?_)|fail)
    refine bg rfl bh bj ?_;simp only[br];refine a7 ?_ (x8 W O (ff _ _ _ _) 0 hFz);rintro v H4 ⟨rfl,S4,lv4,R4,F4⟩;have g:=R4.new (aM _);dsimp only[zcF];repeat' (first
     |apply Rx.o ?_|fail)
    refine bg rfl bh bj ?_;simp only[br];refine a7 ?_ (nk W (R4.alloc _) ((ff _ _ _ _).alloc _) ⟨16,0,[zct.1,(zdN ⟨1,0,[]⟩ zct.2).1]⟩ rfl hW (aM _) (cL _) g.2.2 g.1 g.2.1 hFq rfl rfl);rintro v H5 ⟨rfl,S5,lv5,R5,F5⟩;dsimp only[zcF];repeat' (first
     |(apply zcl ?_;clear hK K)|fail)
    refine bg rfl bh bj ?_;simp only[br];refine a7 ?_ (B9 W R5 (ff _ _ _ _) 1 _ Y);rintro v H6 ⟨S6,L,R6,F6⟩;have F36:=F4.trans (F5.trans F6);have g6:=nl hR (I.trans (F3.trans F36));have j:=R6.new (aM _);have R6':RepL X H6 S6 (sO zct.1 zct.2) L vv:=R6;dsimp only[zcF];repeat' (first
     |(apply zcl ?_;clear hK K)|apply Rx.o ?_|apply ak ?_|(apply zcm fun K hK=>?_)|fail)
    refine bg rfl bh bj ?_;simp only[br];refine a7 ?_ (nk W (R6'.alloc _) ((ff _ _ _ _).alloc _) ⟨x.op,0,[zcN.1,zct.1]⟩ rfl hW (aM _) (cL _) j.2.2 j.1 j.2.1 hF h8 rfl);intro w H7 C;have h5q:=C.pre (i.trans F36);obtain⟨rfl,h6q⟩:=C;dsimp only[zcF];repeat' (first
     |(apply zcl ?_;clear hK K)|apply Rx.o ?_|apply am ?_)
    all_goals (refine⟨eI,_,eR,?_⟩;try simp only[zcn])
    rw[h8]at h5q⊢;exact h5q
  .rw[ah hd]at hq;subst hq;have h7:¬x.op=7:=fun e=>hd (.inl e);have h8:¬x.op=8:=fun e=>hd (.inr e);have A:=O.new (aM _);repeat' (first
    |(apply zcl ?_;clear hK K)|apply Ry.o ?_|(apply a8 (fun hg U=>?_) (fun hg U=>?_)<;>try(cases hg;done))|(apply aB (fun z V=>?_) (fun z V=>?_)<;>try(cases z;done))|apply ak ?_|(apply zcm fun K hK=>?_)|apply zco ?_|fail)
   refine bg rfl bh bj ?_;simp only[br];refine a7 ?_ (nk W (O.alloc _) ((ff _ _ _ _).alloc _) ⟨x.op,0,[zcN.1,zct.1]⟩ rfl hW (aM _) (cL _) A.2.2 A.1 A.2.1 hF rfl rfl);intro w H4 h4;have h5:=h4.pre i;obtain⟨rfl,h6⟩:=h4;dsimp only[zcF];repeat' (first
    |(apply zcl ?_;clear hK K)|apply Rx.o ?_|apply am ?_)
   all_goals (refine⟨eI,_,eR,?_⟩;try simp only[zcn])
   exact h5
end
section
def tyLoE.tyF:=ad @bZ (ad @lk (ad @dl (ad @d8 (ad @eL (ad @jP (ad @iA (ad @iB (ad @gk (ad @qb (ad @ue (ad @wI (@jv))))))))))))
open tyLoE
theorem x9{q n m:Nat}(M:m<n):zcU Tryz.prog 121 (.sl q 0 n 1) (.int .i64 (m:Int))=some (.ptr q m):=by rw[mH Tryz.underlying121 wE M];simp
theorem Ca{H:Hp}{r m:Nat}{b:List Bool}(A:H.get r=some (.cells (b.map .bool) 0 true))(M:m<b.length)(x:Bool):zet Tryz.prog H 4 (.ptr r m) (.bool x)=some (H.set r (.cells ((b.set m x).map .bool) 0 true)):=by
 rw[WU A (by rw[cR];exact M),nV]
end
section
def tyLoF.tyF:=ad @cI (ad @bZ (ad @dl (ad @d8 (ad @eL (ad @jP (ad @iA (ad @iB (ad @gk (ad @qb (ad @ue (ad @jv (ad @JE (@bI2)))))))))))))
open tyLoF
noncomputable def ya:{c:SC // aA 155 (Tryz.f138.body.getD .skip)=c}:=by
 refine⟨?_,?_⟩;rotate_left
 .simp only[Tryz.f138,a3,aA,zcG,zcE,zcJ,zcK,Nat.blt,Nat.ble];rfl
section
variable {tb:List En} (hG:LowT tb) {X:Lx} {c:Cx} (hX:CxOk X c) {x:St} {s:Bd} {H:Hp} {S:Nat -> Prop} {lv vv:AV}
set_option maxRecDepth 100000 in
set_option maxHeartbeats 4000000 in
include hG hX in
theorem zck(hk:x.kind=1){n:Nat}{r:Int×Bd}(o:kL c n x.value s=some r)(m:j8 c.names x.name<r.2.vars.length)(hF:Fin r.2)(j:RepL X H S s lv vv):
 zcx Tryz.prog (zcq pls tb) 138 [.ptr X.b 0,.agg x.cells] H (JA X S vv H {r.2 with vars:=r.2.vars.set (j8 c.names x.name) r.1}):=by
 have J:Plain (zcq pls tb) 138:=hG.plain db;have Z:=j.alloc (.cells x.cells 0 true);have F1:=(ff X S vv H).alloc (.cells x.cells 0 true);have zdY:=Z.m;unfold zek at zdY;have hlk1:=Z.lkN hX x.name;have O:=u7 c n _ _ _ o;have L:j8 c.names x.name<s.vars.length:=by rw[<-O.v];exact m
 obtain⟨q,W,hld,_⟩:=Z.setV L r.1;refine zcv (M:=155) (rs:=[]) (J.call _) J.ice J.froz Tryz.func138 rfl rfl ya.2 rfl ?_;dsimp only[ya,zcr,Nat.reduceAdd];repeat' (first
  |(apply zcl ?_;clear hK K)|apply Ry.o ?_|(apply aB (fun i V=>?_) (fun i V=>?_)<;>try(cases i;done))|apply ak ?_|(apply zcm fun K hK=>?_)|(apply zc4 3 [(3,14),(3,16),(7,14),(7,16),(9,14),(9,16),(10,14),(10,16),(13,14)] fun K hK=>?_)|(apply zcV ?_;try intro _)|apply bD ?_|apply ay ?_|fail)
 refine bg rfl bh bj ?_;simp only[eM];refine a7 ?_ (JH hG hX n x.value s r o hF Z (ff _ _ _ _));rintro v H2 ⟨rfl,S2,C,F,Y⟩;have g2:=nl j Y;have m2:=F.m;unfold zek at m2;have hlk2:=F.lkN hX x.name;obtain⟨q',I,g,H3,hst,hq1,hq2,z,U,F3,o3,n3⟩:=F.setV m r.1;have A:q'=q:=by
  rw[W]at I;simp only[az,AV.ptr.injEq]at I;exact I.1.symm
 subst A;have n2:H.next+1<=H2.next:=Y.next
 have m3:=U.m;have hlk3:=U.lkN hX x.name;have g3:H3.get H.next=some (.cells x.cells 0 true):=by rw[o3 _ (by have:=j.new (aM _);intro e;subst e;exact this.2.1 z)];exact g2
 dsimp only[zek]at m3;dsimp only[zcF];repeat' (first
  |apply Rx.o ?_|apply b8 ?_|(apply zcV ?_;try intro _)|(apply zc5 ?_ ?_<;>clear hK K)|apply bD ?_|apply zeS rfl ?_|fail)
 .exact eK
 .all_goals (refine⟨eI,_,eR,?_⟩;try simp only[zcn])
  exact⟨S2,C,vv,U,F1.trans (Y.trans F3)⟩
set_option maxRecDepth 100000 in
set_option maxHeartbeats 4000000 in
include hG hX in
set_option maxRecDepth 100000 in
set_option maxHeartbeats 4000000 in
include hG hX in
set_option maxRecDepth 100000 in
set_option maxHeartbeats 4000000 in
include hG in
set_option maxRecDepth 100000 in
set_option maxHeartbeats 4000000 in
include hG in
theorem lst0(h1:¬x.kind=1)(h2:¬x.kind=2)(o:¬x.kind=3)(U:¬x.kind=4)(W:¬x.kind=5)(A:¬x.kind=6)(F:¬x.kind=7)(j:RepL X H S s lv vv):
 zcx Tryz.prog (zcq pls tb) 138 [.ptr X.b 0,.agg x.cells] H (JA X S vv H s):=by
 have J:Plain (zcq pls tb) 138:=hG.plain db;have Z:=j.alloc (.cells x.cells 0 true);have Y:=(ff X S vv H).alloc (.cells x.cells 0 true);refine zcv (M:=155) (rs:=[]) (J.call _) J.ice J.froz Tryz.func138 rfl rfl ya.2 rfl ?_;dsimp only[ya,zcr,Nat.reduceAdd];repeat' (first
  |(apply zcl ?_;clear hK K)|apply Ry.o ?_|(apply aB (fun z V=>?_) (fun z V=>?_)<;>try(cases z;done))|apply ak ?_|(apply zcm fun K hK=>?_)|apply ay ?_|apply zco ?_|fail)
 all_goals (refine⟨eI,_,eR,?_⟩;try simp only[zcn])
 exact⟨S,lv,vv,Z,Y⟩
end
end
section
namespace tyLoH
end tyLoH
open tyLoH
theorem JI{H:Hp}{r imm m:Nat}{b:List Bool}(A:H.get r=some (.cells (b.map .bool) imm true))(M:m<b.length):zdZ Tryz.prog H 4 (.ptr r m)=some (.bool (b.getD m false)):=by
 rw[pS Tryz.underlying4 rfl A,dX,cJ,aO M];rfl
section
variable {tb:List En} (hG:LowT tb) {X:Lx} {c:Cx} (hX:CxOk X c) {x:St} {s:Bd} {H:Hp} {S:Nat -> Prop} {lv vv:AV}
set_option maxRecDepth 100000 in
set_option maxHeartbeats 8000000 in
include hG hX in
end
end
section
def fW(f:Nat->Bool):List Bool:=(List.range 16).map f
theorem sT(f:Nat->Bool):(fW f).length=16:=by simp[fW]
theorem u9{f g:Nat->Bool}(h:∀t,t<16->f t=g t):fW f=fW g:=List.map_congr_left fun t C=>h t (jb.1 C)
theorem JJ(f:Nat->Bool)(j:Nat)(x:Bool):(fW f).set j x=fW (fun t=>if t=j then x else f t):=by
 apply List.ext_getElem?;intro t;by_cases h:t<16
 .rw[oB,sT,fW,fW,dX,dX,yQ h];by_cases e:j=t
  .subst e;simp[h]
  .rw[ah e];have K:¬t=j:=fun h=>e h.symm;simp[K]
 .rw[fG (by rw[lW,sT];omega),fG (by rw[sT];omega)]
def sU(n:Nd)(h:List (List Bool))(p:Int×Nat)(t:Nat):Bool:=(h.getD p.1.toNat []).getD t false&&(!decide (n.op=31) || !decide ((t:Int)=n.imm)||decide ((p.2:Int)<(n.kids.length:Int).tdiv 2))
def oh(n:Nd)(h:List (List Bool))(k t:Nat):Bool:=(n.kids.zipIdx.take k).any fun p=>sU n h p t
theorem ztu{n:Nd}{h:List (List Bool)}{k t:Nat}{x:Int}(F:n.kids[k]?=some x):oh n h (k+1) t=(oh n h k t||sU n h (x,k) t):=by
 unfold oh;rw[mw,List.getElem?_zipIdx,F];simp
theorem JK(n:Nd)(h:List (List Bool))(t:Nat):(oh n h n.kids.length t||(decide (n.op=3)&&decide ((t:Int)=n.imm.tdiv 16)))=qx n h t:=by
 unfold oh qx sU;rw[ev aD]
def jn(H:Hp)(v:AV)(K:List (List Bool)):Prop:=(v=.nilS/\K=[])\/∃(q:Nat) (I:List Nat),v=.sl q 0 K.length 1/\q<H.next/\H.get q=some (.cells (I.map fun k=>AV.sl k 0 16 1) 0 true)/\I.length=K.length /\
 ∀(i k:Nat) (b:List Bool),I[i]?=some k->K[i]?=some b->k<H.next/\k≠q/\b.length=16/\H.get k=some (.cells (b.map .bool) 0 true)
theorem jn.keep{H H':Hp}{v:AV}{K:List (List Bool)}(h:jn H v K)(m:H.next<=H'.next)(A:∀k,k<H.next->H'.get k=H.get k):jn H' v K:=by
 rcases h with h|⟨q,I,W,g,o,U,j⟩
 .exact .inl h
 .refine .inr ⟨q,I,W,ac,by rw[A q g];exact o,U,fun i k b Y Z=>?_⟩;obtain⟨a1,a2,zd9,zea⟩:=j i k b Y Z;exact⟨ac,a2,zd9,by rw[A k a1];exact zea⟩
theorem jn.lt{H:Hp}{v:AV}{K:List (List Bool)}(h:jn H v K){q o m z:Nat}(e:v=.sl q o m z):q<H.next:=by
 rcases h with⟨h,_⟩|⟨Z,I,i,g,_⟩
 .rw[h]at e;cases e
 .rw[i]at e;cases e;exact g
theorem jn.push{H:Hp}{v:AV}{K:List (List Bool)}(h:jn H v K){x r imm:Nat}{b:List Bool}(F:x<H.next)(W:∀q o m z,v=.sl q o m z->x≠q)(V:H.get x=some (.cells (b.map .bool) 0 true))(L:b.length=16)(hr:H.get r=some (.cells [.sl x 0 16 1] imm true))(hl:K.length<2^30):
 ∃J H',zdX Tryz.prog false H 123 123 v (.sl r 0 1 1)=some (J,H')/\jn H' J (K++[b])/\H'.next=H.next+1:=by
 have M:zdO=70368744177664:=rfl;have C:zer H 1 (.sl r 0 1 1)=some (0+1,[.sl x 0 16 1]):=by
  have:=lT (H:=H) (r:=r) (o:=0) (n:=1) (z:=1) (s:=1) hr aD;rw[this];rfl
 rcases h with⟨rfl,rfl⟩|⟨q,Z,rfl,h2,h3,U,h5⟩
 .refine⟨.sl H.next 0 1 1,H.alloc (.cells [.sl x 0 16 1] 0 true),append_nil Tryz.underlying123 wH Aq As af C rfl rfl jS jS,.inr ⟨H.next,[x],rfl,cL _,hW,rfl,fun i k c Y A=>?_⟩,rfl⟩;cases i with
  |zero=>
   simp only[oE,az,lK]at Y A;subst Y;subst A;exact⟨B7 F,ac,L,by rw[zcu,ah ac];exact V⟩
  |succ i=>simp at Y
 .have O:=W q 0 K.length 1 rfl;refine⟨_,_,zX Tryz.underlying123 wH Aq As af C rfl rfl h3 (by rw[cR,U,gg]) jS jS,.inr ⟨H.next,Z++[x],by rw[fj];rfl,cL _,?_,by rw[fj,fj,U];rfl,fun i k c Y A=>?_⟩,rfl⟩
  .show((H.kill q).alloc _).get (H.kill q).next=_
   rw[zcu,ax rfl,pL];rfl
  .have I:∀k,k<H.next->k≠q->((H.kill q).alloc (.cells ((Z.map fun k=>AV.sl k 0 16 1)++[.sl x 0 16 1]) 0 true)).get k=H.get k:=fun k e3 e4=>by
    rw[zcu,ah ls,zem,ah e4]
   by_cases hi:i<Z.length
   .rw[i7 hi]at Y;rw[i7 ac]at A;obtain⟨a1,a2,zd9,zea⟩:=h5 i k c Y A;exact⟨B7 a1,ac,zd9,by rw[I k a1 a2];exact zea⟩
   .rw[jI ac]at Y;rw[jI ac,<-U]at A;cases g:i-Z.length with
    |zero=>
     rw[g]at Y A;simp only[oE,az]at Y A;subst Y;subst A;exact⟨B7 F,ac,L,by rw[I _ F O];exact V⟩
    |succ j=>rw[g]at Y;simp at Y
theorem bnB(H:Hp)(q:Nat):zdS Tryz.prog H 123 1 [(0,.sl q 0 16 1)]=some (.sl H.next 0 1 1,H.alloc (.cells [.sl q 0 16 1] 0 true)):=af
theorem jn.at{H:Hp}{v:AV}{K:List (List Bool)}(h:jn H v K){i:Nat}(C:i<K.length):∃r k,zcU Tryz.prog 123 v (.int .i64 (i:Int))=some (.ptr r i)/\zdZ Tryz.prog H 121 (.ptr r i)=some (.sl k 0 16 1) /\
 H.get k=some (.cells ((K.getD i []).map .bool) 0 true)/\(K.getD i []).length=16:=by
 rcases h with⟨_,rfl⟩|⟨q,I,rfl,g,o,U,j⟩
 .simp at C
 .have Z:i<I.length:=by omega
  obtain⟨a1,a2,zd9,zea⟩:=j i I[i] K[i] (aO Z) (aO C);refine⟨q,I[i],by rw[mH Tryz.underlying123 wH C];simp,?_,?_⟩
  .rw[pS Tryz.underlying121 rfl o,dX,aO Z];rfl
  .rw[cJ,aO C];exact⟨zea,zd9⟩
def yb(K:List (List Bool)):AV:=.lst (K.map fun b=>[AV.lst (b.map fun x=>[AV.bool x])])
def tyVdB.tyF:=ad @cI (ad @bZ (ad @lk (ad @d8 (ad @eY (ad @eL (ad @wI (ad @EC (ad @mG (@bnB)))))))))
open tyVdB
noncomputable def JL:{c:SC // aA 77 (Tryz.f62.body.getD .skip)=c}:=by
 refine⟨?_,?_⟩;rotate_left
 .simp only[Tryz.f62,a3,aA,zcG,zcE,zcJ,zcK,Nat.blt,Nat.ble];rfl
def Cb(l:List Nd):Prop:=qz l/\0<l.length
theorem zpM{l:List Nd}{i:Nat}{n:Nd}(m:l[i]?=some n):zd5 l (i+1)=zd5 l i++[fW (qx n (zd5 l i))]:=by rw[zd5,m];rfl
theorem JM(H:Hp)(n:Nat):∀b:List Bool,iceL (iceV H (n+1)) (b.map .bool)=some (b.map .bool)
 |[]=>rfl
 |x::b=>by
  have:=JM H n b;have e:iceV H (n+1) (.bool x)=some (.bool x):=rfl;simp only[dJ,iceL,e,this]
theorem JN:∀b:List Bool,zdP 1 b.length (b.map AV.bool)=b.map fun x=>[AV.bool x]
 |[]=>rfl
 |x::b=>by
  have:=JN b;simp only[dJ,dg,zdP,Bl,uu,ui,dQ,this]
theorem zxW{H:Hp}{k:Nat}{b:List Bool}(h:H.get k=some (.cells (b.map .bool) 0 true))(z:b.length=16)(n:Nat):iceV H (n+2) (.sl k 0 16 1)=some (.lst (b.map fun x=>[AV.bool x])):=by
 have e:iceV H (n+2) (.sl k 0 16 1)=match H.get k with
  |some (.cells W _ _)=>match iceL (iceV H (n+1)) ((W.drop 0).take (16*1))with
   |some j=>if j.length=16*1 then some (.lst (zdP 1 16 j))else none
   |none=>none
  |_=>none:=rfl
 rw[e,h];simp only[dQ,gg];rw[ev (by rw[cR,z];omega),JM];simp only[cR,z,bT];rw[<-z,JN]
theorem JO{H:Hp}(n:Nat):∀(I:List Nat) (K:List (List Bool)),I.length=K.length->(∀(i k:Nat) (b:List Bool),I[i]?=some k->K[i]?=some b->b.length=16/\H.get k=some (.cells (b.map .bool) 0 true)) ->
 iceL (iceV H (n+2)) (I.map fun k=>AV.sl k 0 16 1)=some (K.map fun b=>AV.lst (b.map fun x=>[AV.bool x]))
 |[],[],_,_=>rfl
 |[],_::_,h,_=>by simp at h
 |_::_,[],h,_=>by simp at h
 |q::I,b::K,h,hr=>by
  obtain⟨Z,g⟩:=hr 0 q b rfl rfl;have ih:=JO n I K iQ (fun i k b Y A=>hr (i+1) k b tJ (by simpa using A));simp only[dJ,iceL,zxW g Z n,ih]
theorem chunk_rows:∀(K:List AV),zdP 1 K.length K=K.map fun x=>[x]
 |[]=>rfl
 |x::b=>by
  have:=chunk_rows b;simp only[dJ,dg,zdP,Bl,uu,ui,dQ,this]
theorem jn.ice{H:Hp}{v:AV}{K:List (List Bool)}(h:jn H v K)(V:0<K.length):iceV H 4 v=some (yb K):=by
 rcases h with⟨_,rfl⟩|⟨q,I,rfl,g,o,U,j⟩
 .simp at V
 .have e:iceV H 4 (.sl q 0 K.length 1)=match H.get q with
   |some (.cells W _ _)=>match iceL (iceV H 3) ((W.drop 0).take (K.length*1))with
    |some Z=>if Z.length=K.length*1 then some (.lst (zdP 1 K.length Z))else none
    |none=>none
   |_=>none:=rfl
  rw[e,o];simp only[dQ,gg];rw[ev (by rw[cR];omega),JO 1 I K U (fun i k b Y A=>⟨(j i k b Y A).2.2.1,(j i k b Y A).2.2.2⟩)];simp only[cR,bT];have A:K.length=(K.map fun b=>AV.lst (b.map fun x=>[AV.bool x])).length:=by rw[cR]
  rw[A,chunk_rows,oD];rfl
theorem znv{P C:Nat->Bool}{j:Nat}(h:C j=true):(fW fun t=>P t||(decide (t<j)&&C t)).set j true=fW fun t=>P t||(decide (t<j+1)&&C t):=by
 rw[JJ];apply u9;intro t _;by_cases e:t=j
 .subst e;rw[ax rfl,h];simp
 .rw[ah e];have:decide (t<j)=decide (t<j+1):=by rw[kF];omega
  rw[this]
theorem JP{P C:Nat->Bool}{j:Nat}(h:C j=false):(fW fun t=>P t||(decide (t<j)&&C t))=fW fun t=>P t||(decide (t<j+1)&&C t):=by
 apply u9;intro t _;by_cases e:t=j
 .subst e;rw[h];simp
 .have:decide (t<j)=decide (t<j+1):=by rw[kF];omega
  rw[this]
theorem JQ:(List.replicate 16 false:List Bool)=fW fun _=>false:=dr
set_option maxRecDepth 100000 in
theorem zpN(ρ:Nat->Int)(l:List Nd)(hl:Cb l):a9 Tryz.prog ρ 62 [zdy l] (yb (zd5 l l.length)):=zfi (m:=4) (cfg:=zcq pls []) fit (lc ρ) (eX.look trivial) (.cons (ze8 _) .nil) (by
 obtain⟨⟨hnd,hok⟩,hpos⟩:=hl;have hl1:=hnd.1;have hw:=zdM 62;have hkeep:(zcq pls []).keep 62=false:=rfl;have q2:(2:Int)≠0:=dr;have q16:(16:Int)≠0:=dr;have hmk:∀H:Hp,zeb Tryz.prog H 121 (.int .i64 16) (.int .i64 16)=some (.sl H.next 0 16 1,H.alloc (.cells ((fW fun _=>false).map .bool) 0 true)):=fun H=>by rw[<-JQ];exact FH 16 ac
 refine zcv (M:=77) (rs:=[.tmp 2]) (hw.call _) hw.ice hw.froz Tryz.func62 rfl rfl JL.2 rfl ?_;dsimp only[JL,zcr,Nat.reduceAdd];repeat' (first
  |(apply zcl ?_;clear hK K)|apply Rx.o ?_|apply ak ?_|(apply zcm fun K hK=>?_)|apply ay ?_|fail)
 refine zdl [0,2] [] 4 l.length (fun i E H=>∃v,E.at 3=v/\jn H v (zd5 l i)) eE ⟨.nilS,eE,.inl ⟨rfl,rfl⟩⟩ ?_;rintro i E Y hi W U O hsI ⟨v,zeP,hv⟩;(try simp only[zcO,zcI,aY,zcz,zcL,Nat.reduceBEq, *]at W);(try simp only[zcI, *]at U);(try simp only[zdg,]at O);by_cases hlt:i<l.length
 .have hlt':(i:Int)<l.length:=by omega
  have hgx:l[i]?=some l[i]:=aO hlt;have hon:=hok i _ hgx;have hnk:=hnd.2 _ (dj hlt);have hrow:=zpM hgx;have hhl:=oZ l i;generalize l[i]=n at *;generalize zd5 l i=h at *;repeat' (first
   |(apply zcl ?_;clear hK K)|apply Ry.o ?_|apply b7 ?_|(apply aB (fun Z V=>?_) (fun Z V=>?_)<;>try(cases Z;done))|apply ak ?_|(apply zcm fun K hK=>?_)|apply ay ?_|apply zco ?_|fail)
  generalize L:Hp.set (Hp.alloc _ _) _ _=Hb;have nb:Y.next+2<=Hb.next:=by rw[<-L];exact aM _
  have F:Hb.get Y.next=some (.cells ((fW fun t=>oh n h 0 t).map .bool) 0 true):=by
   rw[<-L,aU,ah uV,zcu,ah uV,zcu,ax rfl]
   congr 2
  have g5:Hb.get (Y.next+1)=some (.cells n.cells 0 true):=by rw[<-L,aU,ax rfl]
  have C:∀x,x<Y.next->Hb.get x=Y.get x:=fun x hx=>by rw[<-L,aU,ah uV,zcu,ah uV,zcu,ah ac]
  clear L;refine zdl [0,2,3,4,5,6] [] 7 n.kids.length (fun k E H=>H.get Y.next=some (.cells ((fW fun t=>oh n h k t).map .bool) 0 true)/\H.get (Y.next+1)=some (.cells n.cells 0 true)/\∀x,x<Y.next->H.get x=Y.get x) eE ⟨F,g5,C⟩ ?_;clear F g5 C;rintro k E3 H3 hk W U O hsI ⟨F,g5,C⟩;(try simp only[zcO,zcI,aY,zcz,zcL,Nat.reduceBEq, *]at W);(try simp only[zcI, *]at U);(try simp only[zcB,zcS,zdg,bw,Nat.reduceAdd]at O);have hv3:jn H3 v h:=hv.keep ac C;by_cases hkt:k<n.kids.length
  .have hkt':(k:Int)<n.kids.length:=by omega
   have hgy:n.kids[k]?=some n.kids[k]:=aO hkt;obtain⟨d0,d1⟩:=hon.kids _ (dj hkt);have hsucc:=fun t=>ztu (n:=n) (h:=h) (t:=t) hgy;generalize n.kids[k]=kd at *;obtain⟨d,rfl⟩:=ez d0;repeat' (first
    |(apply zcl ?_;clear hK K)|apply Ry.o ?_|(apply aB (fun Z V=>?_) (fun Z V=>?_)<;>try(cases Z;done))|apply ak ?_|(apply zcm fun K hK=>?_)|apply ay ?_|apply zco ?_|fail)
   refine zdl [0,2,3,4,5,6,7] [] 8 16 (fun j E H=>H.get Y.next=some (.cells ((fW fun t=>oh n h k t||(decide (t<j)&&sU n h ((d:Int),k) t)).map .bool) 0 true)/\H.get (Y.next+1)=some (.cells n.cells 0 true)/\∀x,x<Y.next->H.get x=Y.get x) eE ⟨by simpa using F,g5,C⟩ ?_;clear F g5 C hv3;rintro j E4 H4 hj W U O hsI ⟨gc,g6,fc⟩;(try simp only[zcO,zcI,aY,zcz,Nat.reduceBEq, *]at W);(try simp only[zcI, *]at U);(try simp only[zcB,zcS,zdg,bw,Nat.reduceAdd]at O);have n4:Y.next+2<=H4.next:=ac
   have hv4:jn H4 v h:=hv.keep ac fc;obtain⟨r,w,hix,hld,hgw,hbl⟩:=hv4.at (i:=d) ac;have e1:IntKind.wrap .i64 ((n.kids.length:Int).tdiv 2)=(n.kids.length:Int).tdiv 2:=by
    rw[kG ac];exact zej ac ac
   by_cases hjt:j<16
   .have hjt':(j:Int)<16:=by omega
    have hixw:=x9 (q:=w) hjt;have hlw:=JI hgw (m:=j) ac;have hixq:=x9 (q:=Y.next) hjt;have hst:=Ca gc (m:=j) (by rw[sT];exact hjt) true;have J:sU n h ((d:Int),k) j=((h.getD d []).getD j false&&(!decide (n.op=31) || !decide ((j:Int)=n.imm)||decide ((k:Int)<(n.kids.length:Int).tdiv 2))):=by rw[sU,dL]
    generalize (h.getD d []).getD j false=b at *;have hgo:∀x,((H4.set Y.next x).get (Y.next+1)=some (.cells n.cells 0 true))/\∀y,y<Y.next->(H4.set Y.next x).get y=Y.get y:=fun x=>⟨by rw[aU,ah ac];exact g6,fun y hy=>by rw[aU,ah ac];exact fc y hy⟩
    cases b with
    |false=>
     rw[dK]at J;repeat' (first
      |(apply zcl ?_;clear hK K)|apply Ry.o ?_|apply Ry.gu ?_|(apply a8 (fun A I=>?_) (fun A I=>?_)<;>try(cases A;done))|(apply aB (fun Z V=>?_) (fun Z V=>?_)<;>try(cases Z;done))|apply ak ?_|(apply zcm fun K hK=>?_)|apply ay ?_|apply zco ?_|fail)
     refine⟨ac,zcy,zcy,zcT,sQ,?_⟩;exact⟨by rw[<-JP J];exact gc,g6,fc⟩
    |true=>
    rw[de]at J;by_cases h31:n.op=31
    .by_cases hji:n.imm=(j:Int)
     .by_cases hlv:(k:Int)<(n.kids.length:Int).tdiv 2
      .rw[cB hlv,xB]at J;repeat' (first
        |(apply zcl ?_;clear hK K)|apply Ry.o ?_|apply b7 ?_|(apply a8 (fun A I=>?_) (fun A I=>?_)<;>try(cases A;done))|(apply aB (fun Z V=>?_) (fun Z V=>?_)<;>try(cases Z;done))|apply ak ?_|(apply zcm fun K hK=>?_)|apply ay ?_|apply zco ?_|fail)
       refine⟨ac,zcy,zcy,zcT,sQ,?_⟩;exact⟨B6,hgo _⟩
      .rw[cB h31,cB hji.symm,cX hlv]at J;repeat' (first
        |(apply zcl ?_;clear hK K)|apply Ry.o ?_|(apply a8 (fun A I=>?_) (fun A I=>?_)<;>try(cases A;done))|(apply aB (fun Z V=>?_) (fun Z V=>?_)<;>try(cases Z;done))|apply ak ?_|(apply zcm fun K hK=>?_)|apply ay ?_|apply zco ?_|fail)
       refine⟨ac,zcy,zcy,zcT,sQ,?_⟩;exact⟨by rw[<-JP J];exact gc,g6,fc⟩
     .have hji':¬(j:Int)=n.imm:=fun e=>hji e.symm;rw[cX hji',gL,xB,mC]at J;clear hji;repeat' (first
       |(apply zcl ?_;clear hK K)|apply Ry.o ?_|apply b7 ?_|(apply a8 (fun A I=>?_) (fun A I=>?_)<;>try(cases A;done))|(apply aB (fun Z V=>?_) (fun Z V=>?_)<;>try(cases Z;done))|apply ak ?_|(apply zcm fun K hK=>?_)|apply ay ?_|apply zco ?_|fail)
      refine⟨ac,zcy,zcy,zcT,sQ,?_⟩;exact⟨B6,hgo _⟩
    .rw[cX h31,gL,mC,mC]at J;repeat' (first
      |(apply zcl ?_;clear hK K)|apply Ry.o ?_|apply b7 ?_|(apply a8 (fun A I=>?_) (fun A I=>?_)<;>try(cases A;done))|(apply aB (fun Z V=>?_) (fun Z V=>?_)<;>try(cases Z;done))|apply ak ?_|(apply zcm fun K hK=>?_)|apply ay ?_|apply zco ?_|fail)
     refine⟨ac,zcy,zcy,zcT,sQ,?_⟩;exact⟨B6,hgo _⟩
   .have hjt':¬(j:Int)<16:=by omega
    have hj16:j=16:=ac;subst hj16;repeat' (first
     |(apply zcl ?_;clear hK K)|apply Ry.o ?_|(apply aB (fun Z V=>?_) (fun Z V=>?_)<;>try(cases Z;done))|apply ak ?_|(apply zcm fun K hK=>?_)|apply zcA ?_)
    refine⟨ac,zcy,zcy,zcT,oX,?_⟩;refine⟨?_,g6,fc⟩;rw[gc]
    congr 3
    apply u9;intro t ht;rw[hsucc,cB ht,de]
  .have hkt':¬(k:Int)<n.kids.length:=by omega
   have F:H3.get Y.next=some (.cells ((fW fun t=>oh n h n.kids.length t).map .bool) 0 true):=by
    rw[show n.kids.length=k by omega];exact F
   have n3:Y.next+2<=H3.next:=ac
   repeat' (first
    |(apply zcl ?_;clear hK K)|apply Ry.o ?_|apply ak ?_|(apply zcm fun K hK=>?_)|fail)
   (apply aS (fun Z V=>?_) (fun Z V=>?_)<;>try(cases Z;done));repeat' (first
    |(apply zcl ?_;clear hK K)|apply Rx.o ?_|apply ak ?_|(apply zcm fun K hK=>?_)|apply zcA ?_)
   refine AN (fun E' H'=>E'.at 2=.nilS/\E'.at 0=zdy l/\E'.at 3=v/\E'.at 4=.int .i64 i/\E'.at 5=.sl Y.next 0 16 1/\H'.get Y.next=some (.cells ((fW (qx n h)).map .bool) 0 true)/\H'.next=H3.next/\∀x,x<Y.next->H'.get x=Y.get x) ?_ ?_
   .by_cases h3:n.op=3
    .obtain⟨m0,zdY⟩:=hon.lv h3;have hd:n.imm.tdiv 16=n.imm/16:=kG m0;obtain⟨m,hm⟩:=ez (show 0<=n.imm.tdiv 16 by omega);have g:m<16:=ac;have ew:IntKind.wrap .i64 (m:Int)=m:=zej ac ac;have hixq:=x9 (q:=Y.next) g;have hst:=Ca F (m:=m) (by rw[sT];exact g) true;clear hd;repeat' (first
      |(apply zcl ?_;clear hK K)|apply Ry.o ?_|apply b7 ?_|(apply aB (fun Z V=>?_) (fun Z V=>?_)<;>try(cases Z;done))|(apply zcm fun K hK=>?_)|fail)
     refine⟨rfl,eE,eE,eE,eE,eE,?_,rfl,fun x hx=>by rw[aU,ah ac];exact C x hx⟩;rw[aU,ax rfl,JJ]
     congr 3
     apply u9;intro t ht;rw[<-JK,cB h3,hm,de];by_cases e:t=m
     .subst e;simp
     .rw[ah e,cX (show ¬(t:Int)=(m:Int) by omega),jx]
    .repeat' (first
      |(apply aB (fun Z V=>?_) (fun Z V=>?_)<;>try(cases Z;done))|apply zco ?_|fail)
     refine⟨rfl,eE,eE,eE,eE,eE,?_,rfl,C⟩;rw[F]
     congr 3
     apply u9;intro t ht;rw[<-JK,cX h3,dK,jx]
   clear F g5 C;rintro E5 H5 ⟨zc8,zdz,k3',k4,zep,g6,n5,f6⟩;dsimp only[kz];have n5':Y.next+2<=H5.next:=ac
   clear n5;have hv5:jn (H5.alloc (.cells [.sl Y.next 0 16 1] 0 true)) v h:=hv.keep gR fun x hx=>by rw[zcu,ah ac];exact f6 x hx
   obtain⟨v',H6,a6,o6,n6⟩:=hv5.push (x:=Y.next) (r:=H5.next) (imm:=0) (b:=fW (qx n h)) gR (fun q o m z e=>by have:=hv.lt e;omega) (by rw[zcu,ah ac];exact g6) (sT _) ij ac;have n6':Y.next<=H6.next:=by simp only[zcB]at n6;omega
   clear n6 hv5;repeat' (first
    |(apply zcl ?_;clear hK K)|apply Rx.o ?_|(apply zcm fun K hK=>?_)|fail)
   refine⟨ac,zcy,zcy,zcT,jz,?_⟩;exact⟨v',eE,by rw[hrow];exact o6⟩
 .have hlt':¬(i:Int)<l.length:=by omega
  repeat' (first
   |(apply zcl ?_;clear hK K)|apply Ry.o ?_|(apply aB (fun Z V=>?_) (fun Z V=>?_)<;>try(cases Z;done))|apply ak ?_|(apply zcm fun K hK=>?_)|apply am ?_|apply zcA ?_)
  all_goals (refine⟨eI,_,eR,?_⟩;try simp only[zcn])
  have hie:i=l.length:=ac;subst hie;exact hv.ice (by rw[oZ];exact hpos))
end
section
def kM(a:Ar):Bool:=zc9 a.name&&(decide (1<=a.len)&&decide (a.len<=16))
def yc(u:Un):Bool:=(decide ((u.arrays.length:Int)<=4)&&decide ((u.funcs.length:Int)<=8))&&(u.arrays.all kM && !zcQ [] (u.arrays.map Ar.name))&&(u.funcs.all (fun g=>zc9 g.name) && !zcQ [] (u.funcs.map Gr.name))
theorem JR(M:List (List UInt8)):∀(K:List Gr) (seen:List (List UInt8)),o8 M seen (K.map fA)=zcQ seen (K.map Gr.name)
 |[],seen=>rfl
 |g::K,seen=>by
  rw[dJ,o8,dJ,zcQ];show(zcP seen g.name||zcQ M []||o8 M (seen++[g.name]) (K.map fA))=_;rw[JR M K];cases zcP seen g.name<;>simp[zcQ]
theorem JS(u:Un):decide (m7 (gl u)=0)=yc u:=by
 have Y:su (gl u)=!(decide ((u.arrays.length:Int)<=4)&&decide ((u.funcs.length:Int)<=8)&&u.arrays.all fun a=>decide (1<=a.len)&&decide (a.len<=16)):=by
  unfold su;have a1:(gl u).arrays=u.arrays:=rfl;have a2:(gl u).funcs.length=u.funcs.length:=by simp[gl]
  have zd9:(gl u).funcs.any qB=false:=by
   simp only[gl,List.any_map,tN];intro g _;have:qB (fA g)=false:=by simp[qB,fA,zei,zef,zeW,n0,iF,qo]
   simp[this]
  rw[a1,a2,zd9,jx,xU,xU];have zea:u.arrays.any uI=!(u.arrays.all fun a=>decide (1<=a.len)&&decide (a.len<=16)):=by
   rw[List.not_all_eq_any_not]
   congr 1
   funext a
   unfold uI;rw[xU]
   congr 1
   .rw[<-uw,kF];omega
   .rw[<-uw,kF];omega
  rw[zea]
  congr 1
  congr 1
  .rw[<-uw,kF];omega
  .rw[<-uw,kF];omega
 have A:j0 (gl u)=(u.arrays.all (fun a=>zc9 a.name)&&u.funcs.all fun g=>zc9 g.name):=by
  unfold j0;show(u.arrays.all _&&(u.funcs.map fA).all md)=_;rw[List.all_map]
  congr 1
  congr 1
  funext g
  simp[md,xF,fA,n8,jA,jZ,sy,Ex.kind,Ex.kids,Ex.name,Ex.op]
 have J:sB (gl u)=(zcQ [] (u.arrays.map Ar.name)||zcQ [] (u.funcs.map Gr.name)):=by
  unfold sB;show(_||o8 _ [] (u.funcs.map fA))=_;rw[JR];rfl
 have o:(gl u).funcs.any (sE (gl u))=false:=by
  simp only[gl,List.any_map,tN];intro g _;simp[sE,fA,jl,jB,n9,j4,Ex.kind]
 have I:(gl u).funcs.any (uO (gl u))=false:=by
  simp only[gl,List.any_map,tN];intro g _;simp[uO,fA,jl]
 have K:u.arrays.all kM=(u.arrays.all (fun a=>zc9 a.name)&&u.arrays.all fun a=>decide (1<=a.len)&&decide (a.len<=16)):=by
  generalize u.arrays=z;induction z with
  |nil=>rfl
  |cons a z ih=>
   simp only[mR,ih,kM];cases zc9 a.name<;>cases (decide (1<=a.len)&&decide (a.len<=16))<;>simp
 unfold m7 yc;rw[Y,A,J,o,I,K];generalize decide ((u.arrays.length:Int)<=4)=Z;generalize decide ((u.funcs.length:Int)<=8)=W;generalize (u.arrays.all fun a=>decide (1<=a.len)&&decide (a.len<=16))=V;generalize u.arrays.all (fun a=>zc9 a.name)=i;generalize u.funcs.all (fun g=>zc9 g.name)=U;generalize zcQ [] (u.arrays.map Ar.name)=O;generalize zcQ [] (u.funcs.map Gr.name)=C;revert Z W V i U O C;decide
def gm:List Nd->Int->Int
 |[],_=>0
 |n::l,m=>if n.op=31/\n.imm=m then (n.kids.length:Int).tdiv 2 else gm l m
structure LoopOk (n:Nd):Prop where
 i0:0<=n.imm
 i1:n.imm<=15
 odd:n.kids.length%2=1
 three:3<=n.kids.length
theorem LoopOk.lv{n:Nd}(h:LoopOk n):dM n.kids.length=(n.kids.length:Int).tdiv 2/\0<dM n.kids.length:=by
 have:=h.odd;have:=h.three;unfold dM;rw[kG ac,kG ac];omega
theorem Cc:∀(l:List Nd) (t C:List Int),t.length=16->(∀n∈l,n.op=31->LoopOk n)->fL l t=some C->C.length=16/\∀m:Nat,m<16->C.getD m 0=if 0<t.getD m 0 then t.getD m 0 else if gm l m=0 then t.getD m 0 else gm l m
 |[],t,C,hl,_,h=>by
  cases h;refine⟨hl,fun m M=>?_⟩;simp[gm]
 |n::l,t,C,hl,hok,h=>by
  have O:∀n∈l,n.op=31->LoopOk n:=fun x F=>hok x (e8 _ F);rw[fL]at h;by_cases c:n.op=31
  .rw[ax c]at h;have J:=hok n eW c;have U:=J.i0;have A:=J.i1;obtain⟨k,j⟩:=ez U;obtain⟨Z,Y⟩:=J.lv;split at h
   .cases h
   .rename_i c2;obtain⟨i,g⟩:=Cc l _ C (by simpa using hl) O h;refine⟨i,fun m M=>?_⟩;rw[j,dL]at c2 g;have o:=g m M;rw[cJ (l:=t.set _ _),oB]at o;rw[o,gm];by_cases e:k=m
    .subst e;rw[ax rfl,ax (show k<t.length by omega),ah c2,ax (show n.op=31/\n.imm=(k:Int)from⟨c,j⟩)];simp only[a3];rw[ax Y,<-Z,ah ac]
    .rw[ah e,ah (fun h:n.op=31/\n.imm=(m:Int)=>e (by have:=h.2;omega)),<-cJ]
  .rw[ah c]at h;obtain⟨i,g⟩:=Cc l t C hl O h;refine⟨i,fun m M=>?_⟩;rw[g m M,gm,ah (fun h:n.op=31/\n.imm=(m:Int)=>c h.1)]
theorem rep_get(m:Nat):(List.replicate 16 (0:Int)).getD m 0=0:=by
 rw[cJ,oM];split<;>rfl
def kN(l:List Nd)(n:Nd):Bool:=decide (n.op=3)&&decide (0<gm l (n.imm.tdiv 16))&&decide (gm l (n.imm.tdiv 16)<=n.imm.tmod 16)
theorem JT{l:List Nd}{t:List Int}(O:∀n∈l,n.op=31->LoopOk n)(h:fL l (List.replicate 16 0)=some t){n:Nd}(m:n.op=3->0<=n.imm/\n.imm<=255):kH t n=kN l n:=by
 obtain⟨_,g⟩:=Cc l _ t aD O h;unfold kH kN;by_cases c:n.op=3
 .obtain⟨a,b⟩:=m c;obtain⟨k,j⟩:∃k:Nat,n.imm.tdiv 16=k:=ez (Int.tdiv_nonneg a ac);have F:k<16:=by rw[kG a]at j;omega
  have e:t.getD (n.imm.tdiv 16).toNat 0=gm l (n.imm.tdiv 16):=by
   rw[j,dL,g k F,rep_get,ah ac];split
   .omega
   .rfl
  rw[e]
 .rw[cX c,dK,dK,dK,dK]
theorem zpO{l:List Nd}(O:∀n∈l,n.op=31->LoopOk n){n:Nd}(M:n∈l)(m:n.op=3->0<=n.imm/\n.imm<=255)(h:kN l n=true):zeC l=false:=by
 unfold zeC;split
 .rfl
 .rename_i t C;rw[BE];exact⟨n,M,by rw[JT O C m,h];simp⟩
theorem znw{l:List Nd}(O:∀n∈l,n.op=31->LoopOk n){t:List Int}(C:fL l (List.replicate 16 0)=some t)(h:∀n∈l,(n.op=3->0<=n.imm/\n.imm<=255)/\kN l n=false):zeC l=true:=by
 unfold zeC;rw[C];simp only[f9];intro n m;obtain⟨i,g⟩:=h n m;rw[JT O C i,g];rfl
theorem zpP{l:List Nd}(h:fL l (List.replicate 16 0)=none):zeC l=false:=by
 unfold zeC;rw[h]
theorem JU:∀(l:List Nd) (seen:List (List UInt8)),(∀x∈l,NdR x)->zcQ seen (l.map zdu)=false->l.Nodup/\∀x∈l,zcP seen (zdu x)=false
 |[],seen,_,_=>⟨List.nodup_nil,fun x F=>by simp at F⟩
 |a::l,seen,hr,h=>by
  rw[dJ,zcQ]at h;have V:zcP seen (zdu a)=false/\zcQ (seen++[zdu a]) (l.map zdu)=false:=by
   cases Y:zcP seen (zdu a)<;>simp_all
  obtain⟨i,g⟩:=JU l _ (fun x F=>hr x (e8 _ F)) V.2;refine⟨xZ.2 ⟨fun M=>?_,i⟩,fun x F=>?_⟩
  .have:=g a M;simp[zcP]at this
  .rcases fk.1 F with rfl|F
   .exact V.1
   .have:=g x F;simp only[zcP,uM,k3]at this⊢;exact this.1
theorem ztw{l:List Nd}(hr:∀x∈l,NdR x):jm l=true->l.Nodup:=fun h=>by
 unfold jm at h;exact(JU l [] hr iQ).1
theorem mask_zero{l:List Nd}(O:∀i n,l[i]?=some n->NdOk n i)(Z:∀j,j<l.length->(zd4 l l.length).getD j 0<2^16){j:Nat}(Y:j<l.length):zdW l j=0↔∀t,t<16->((zd5 l l.length).getD j []).getD t false=false:=by
 have z:=fun t=>xj l.length (aM _) (fun j n _ h=>O j n h) j Y t;have e:zdW l j=(zd4 l l.length).getD j 0:=by rw[zdW,dL]
 rw[e];constructor
 .intro h t C;have:=z t;rw[h,cB C,de,xf]at this;exact this.symm
 .intro h;apply Bm;intro t;rw[z t,xf];by_cases C:t<16
  .rw[h t C,oR]
  .rw[cX C,dK]
def tyK1.tyF:=ad @bZ (ad @cI (@d8))
open tyK1
noncomputable def JV:{c:SC // aA 67 (Tryz.f41.body.getD .skip)=c}:=by
 refine⟨?_,?_⟩;rotate_left
 .simp only[Tryz.f41,a3,aA,zcG,zcE,zcJ,zcK,Nat.blt,Nat.ble];rfl
noncomputable def JW:{c:SC // aA 19 (Tryz.f180.body.getD .skip)=c}:=by
 refine⟨?_,?_⟩;rotate_left
 .simp only[Tryz.f180,a3,aA,zcG,zcE,zcJ,zcK,Nat.blt,Nat.ble];rfl
noncomputable def JX:{c:SC // aA 29 (Tryz.f144.body.getD .skip)=c}:=by
 refine⟨?_,?_⟩;rotate_left
 .simp only[Tryz.f144,a3,aA,zcG,zcE,zcJ,zcK,Nat.blt,Nat.ble];rfl
noncomputable def JY:{c:SC // aA 7 (Tryz.f145.body.getD .skip)=c}:=by
 refine⟨?_,?_⟩;rotate_left
 .simp only[Tryz.f145,a3,aA,zcG,zcE,zcJ,zcK,Nat.blt,Nat.ble];rfl
noncomputable def JZ:{c:SC // aA 15 (Tryz.f146.body.getD .skip)=c}:=by
 refine⟨?_,?_⟩;rotate_left
 .simp only[Tryz.f146,a3,aA,zcG,zcE,zcJ,zcK,Nat.blt,Nat.ble];rfl
theorem znx(ρ:Nat->Int)(op:Int):a9 Tryz.prog ρ 41 [.int .i64 op] (ej op):=zdv fit (pls:=pls) (l:=[]) trivial (.cons (.int _ _) .nil) (Gi op) (by
 have J:=zdM 41;refine zcv (M:=67) (rs:=[.tmp 2,.tmp 3]) (J.call _) J.ice J.froz Tryz.func41 rfl rfl JV.2 rfl ?_;dsimp only[JV,zcr,Nat.reduceAdd];repeat' (first
  |(apply zcl ?_;clear hK K)|apply Rx.o ?_|(apply b0 (fun A I=>?_) (fun A I=>?_)<;>try(cases A;done))|(apply aS (fun z V=>?_) (fun z V=>?_)<;>try(cases z;done))|apply ak ?_|(apply zcm fun K hK=>?_)|apply ay ?_|apply zco ?_|apply am ?_)
 all_goals
  refine⟨eI,_,dA,?_⟩;try simp only[zcn]
  unfold ej bc;first
  |(rw[ax ac];done)
  |(rw[ah ac,ax ac];done)
  |(rw[ah ac,ah ac,ax ac];done)
  |(rw[ah ac,ah ac,ah ac,ax ac];done)
  |(rw[ah ac,ah ac,ah ac,ah ac,ax ac];done)
  |(rw[ah ac,ah ac,ah ac,ah ac,ah ac,ax ac];done)
  |(rw[ah ac,ah ac,ah ac,ah ac,ah ac,ah ac];done))
theorem zny(ρ:Nat->Int)(op:Int):a9 Tryz.prog ρ 180 [.int .i64 op] (.int .i64 (zdD op)):=zdv fit (pls:=pls) (l:=[]) trivial (.cons (.int _ _) .nil) (.int _ _) (by
 have J:=zdM 180;refine zcv (M:=19) (rs:=[.tmp 2]) (J.call _) J.ice J.froz Tryz.func180 rfl rfl JW.2 rfl ?_;dsimp only[JW,zcr,Nat.reduceAdd];repeat' (first
  |(apply zcl ?_;clear hK K)|apply Rx.o ?_|(apply aS (fun z V=>?_) (fun z V=>?_)<;>try(cases z;done))|apply ak ?_|(apply zcm fun K hK=>?_)|apply ay ?_|apply zco ?_|apply am ?_)
 all_goals
  refine⟨eI,_,dA,?_⟩;try simp only[zcn]
  simp_all[zdD])
noncomputable def yd:En:=⟨180,false,bX (fun _=>True) (fun n:Int=>[.int .i64 n]) fun n=>.int .i64 (zdD n)⟩
theorem zx1(ρ:Nat->Int):zdd Tryz.prog ρ yd:=zdk fun n _=>zny ρ n
theorem zaZ{l:List En}(I:∀z,zdn l 180 z=yd.sp z)(n:Int)(H:Hp):zcx Tryz.prog (zcq pls l) 180 [.int .i64 n] H fun v H'=>v=.int .i64 (zdD n)/\H'=H:=
 zds (enc:=fun n:Int=>[.int .i64 n]) (ok:=fun _=>True) (out:=fun n=>.int .i64 (zdD n)) w8 (x:=n) (I _) trivial
def qO(x:Int×Int):List AV:=[.int .i64 x.1,.int .i64 x.2]
theorem ztx(x y:Int×Int)(h:qO x=qO y):x=y:=by
 simp only[qO,cM,AV.int.injEq,aY,fH]at h;exact jT h.1 h.2
theorem ziz(ρ:Nat->Int)(x:Int×Int):a9 Tryz.prog ρ 144 (qO x) (.bool (zdo x.1 x.2)):=zdv fit (pls:=pls) (l:=[yd]) ⟨zx1 ρ,trivial⟩ (.cons (.int _ _) (.cons (.int _ _) .nil)) (.bool _) (by
 obtain⟨i,n⟩:=x;have J:Plain (zcq pls [yd]) 144:=zdm (fun _=>rfl) rfl;rw[qO];simp only[];refine zcv (M:=29) (rs:=[.tmp 4]) (J.call _) J.ice J.froz Tryz.func144 rfl rfl JX.2 rfl ?_;dsimp only[JX,zcr,Nat.reduceAdd];repeat' (first
  |(apply zcl ?_;clear hK K)|apply Rx.o ?_|(apply iU ?_;first|refine Rx.k (zaZ (fun _=>rfl) _ _) ?_)|apply qg ?_|(apply b0 (fun A I=>?_) (fun A I=>?_)<;>try(cases A;done))|(apply aS (fun z V=>?_) (fun z V=>?_)<;>try(cases z;done))|apply ak ?_|(apply zcm fun K hK=>?_)|apply zco ?_|apply am ?_)
 all_goals
  refine⟨eI,_,dA,?_⟩;try simp only[zcn]
  unfold zdo;first
  |(rw[ax hC];done)
  |(rw[ah hC,ax hC];done)
  |(rw[ah hC,ah ac]
    have Z:¬zdD i<0:=ac;first
    |(simp_all;done)
    |(generalize zdD i=q at *;simp_all;done)
    |(generalize zdD i=q at *;simp_all;omega)))
noncomputable def Cd:En:=⟨144,false,bX (fun _=>True) qO fun x=>.bool (zdo x.1 x.2)⟩
theorem zx2(ρ:Nat->Int):zdd Tryz.prog ρ Cd:=zdk fun n _=>ziz ρ n
theorem jD{l:List En}(I:∀z,zdn l 144 z=Cd.sp z)(a b:Int)(H:Hp):zcx Tryz.prog (zcq pls l) 144 [.int .i64 a,.int .i64 b] H fun v H'=>v=.bool (zdo a b)/\H'=H:=
 zds (enc:=qO) (ok:=fun _=>True) (out:=fun x=>.bool (zdo x.1 x.2)) ztx (x:=(a,b)) (I _) trivial
def qP(x:Bool×Int):List AV:=[.bool x.1,.int .i64 x.2]
theorem zx3(x y:Bool×Int)(h:qP x=qP y):x=y:=by
 simp only[qP,cM,AV.int.injEq,AV.bool.injEq,aY,fH]at h;exact jT h.1 h.2
theorem znA(ρ:Nat->Int)(x:Bool×Int):a9 Tryz.prog ρ 145 (qP x) (.int .i64 (zdh x.1 x.2)):=zdv fit (pls:=pls) (l:=[]) trivial (.cons (.bool _) (.cons (.int _ _) .nil)) (.int _ _) (by
 obtain⟨b,n⟩:=x;have J:=zdM 145;rw[qP];simp only[];cases b;all_goals
  refine zcv (M:=7) (rs:=[.tmp 4]) (J.call _) J.ice J.froz Tryz.func145 rfl rfl JY.2 rfl ?_;dsimp only[JY,zcr,Nat.reduceAdd];repeat' (first
   |(apply zcl ?_;clear hK K)|apply Rx.o ?_|(apply aS (fun z V=>?_) (fun z V=>?_)<;>try(cases z;done))|apply ak ?_|(apply zcm fun K hK=>?_)|apply zco ?_|apply am ?_)
  refine⟨eI,_,dA,?_⟩;try simp only[zcn]
  rfl)
noncomputable def Ce:En:=⟨145,false,bX (fun _=>True) qP fun x=>.int .i64 (zdh x.1 x.2)⟩
theorem zx4(ρ:Nat->Int):zdd Tryz.prog ρ Ce:=zdk fun n _=>znA ρ n
theorem kO{l:List En}(I:∀z,zdn l 145 z=Ce.sp z)(a:Bool)(b:Int)(H:Hp):zcx Tryz.prog (zcq pls l) 145 [.bool a,.int .i64 b] H fun v H'=>v=.int .i64 (zdh a b)/\H'=H:=
 zds (enc:=qP) (ok:=fun _=>True) (out:=fun x=>.int .i64 (zdh x.1 x.2)) zx3 (x:=(a,b)) (I _) trivial
def qQ(s:List Int):List AV:=[jk s]
theorem zx5(x y:List Int)(h:qQ x=qQ y):x=y:=by
 simp only[qQ,cM,aY]at h;exact uA h
theorem znB(ρ:Nat->Int)(s:List Int)(O:s.length<2^60):a9 Tryz.prog ρ 146 (qQ s) (.bool (zdw s)):=zdv fit (pls:=pls) (l:=[]) trivial (.cons (oG _) .nil) (.bool _) (by
 have J:=zdM 146;rw[qQ];refine zcv (M:=15) (rs:=[.tmp 2]) (J.call _) J.ice J.froz Tryz.func146 rfl rfl JZ.2 rfl ?_;dsimp only[JZ,zcr,Nat.reduceAdd];repeat' (first
  |(apply zcl ?_;clear hK K)|apply Rx.o ?_|apply ak ?_|(apply zcm fun K hK=>?_)|apply ay ?_|fail)
 refine zdl [0] [] 3 s.length (fun i E H=>zdw s=zdw (s.drop i)) eE aD ?_;rintro i E L C Y j m o g;(try simp only[zcO,zcI,aY,zcz,zcL,Nat.reduceBEq, *]at Y);(try simp only[zcI, *]at j);(try simp only[zdg,]at m);repeat' (first
  |(apply zcl ?_;clear hK K)|apply Rx.o ?_|(apply aS (fun z V=>?_) (fun z V=>?_)<;>try(cases z;done))|apply ak ?_|(apply zcm fun K hK=>?_)|apply ay ?_|apply zco ?_|apply am ?_|apply zcA ?_)
 .have Z:i<s.length:=by simpa using z
  have W:s[i]?=some s[i]:=aO Z;have U:zdw (s.drop i)=(decide (s[i]=1)&&zdw (s.drop (i+1))):=by rw[d7 Z];rfl
  repeat' (first
   |(apply zcl ?_;clear hK K)|apply Rx.o ?_|(apply aS (fun z V=>?_) (fun z V=>?_)<;>try(cases z;done))|apply ak ?_|(apply zcm fun K hK=>?_)|apply zco ?_|apply am ?_|fail)
  .all_goals (refine⟨eI,_,eR,?_⟩;try simp only[zcn])
   rw[g,U];(try simp only[k9]at *);simp only[*,dK,]
  .refine⟨ac,zcy,zcy,zcT,r1,?_⟩;rw[g,U];(try simp only[oS]at *);simp only[*,de,]
 .repeat' (first
   |(apply zcl ?_;clear hK K)|fail)
  all_goals (refine⟨eI,_,eR,?_⟩;try simp only[zcn])
  rw[g,show i=s.length by simp at z;omega,jy];rfl)
noncomputable def Cf:En:=⟨146,false,bX (fun s=>s.length<2^60) qQ fun s=>.bool (zdw s)⟩
theorem zx6(ρ:Nat->Int):zdd Tryz.prog ρ Cf:=zdk fun n h=>znB ρ n h
theorem ye{l:List En}(I:∀z,zdn l 146 z=Cf.sp z)(s:List Int)(K:s.length<2^60)(H:Hp):zcx Tryz.prog (zcq pls l) 146 [jk s] H fun v H'=>v=.bool (zdw s)/\H'=H:=
 zds (enc:=qQ) (ok:=fun s=>s.length<2^60) (out:=fun s=>.bool (zdw s)) zx5 (x:=s) (I _) K
noncomputable def Cg:En:=⟨41,false,bX (fun _=>True) (fun n:Int=>[.int .i64 n]) ej⟩
theorem zx7(ρ:Nat->Int):zdd Tryz.prog ρ Cg:=zdk fun n _=>znx ρ n
theorem i4{l:List En}(I:∀z,zdn l 41 z=Cg.sp z)(n:Int)(H:Hp):zcx Tryz.prog (zcq pls l) 41 [.int .i64 n] H fun v H'=>v=ej n/\H'=H:=
 zds (enc:=fun n:Int=>[.int .i64 n]) (ok:=fun _=>True) (out:=ej) w8 (x:=n) (I _) trivial
end
section
def tyK2a.tyF:=ad @cI (ad @bZ (ad @d8 (ad @eY (ad @eL (ad @l7 (ad @l8 (@mG)))))))
open tyK2a
noncomputable def dT:{c:SC // aA 221 (Tryz.f97.body.getD .skip)=c}:=by
 refine⟨?_,?_⟩;rotate_left
 .simp only[Tryz.f97,a3,aA,zcG,zcE,zcJ,zcK,Nat.blt,Nat.ble];rfl
structure NsX where
 l:List Nd
 n:Nd
 k:List Int
def pg(x:NsX):List AV:=[zdy x.l,.agg x.n.cells,jk x.k]
theorem zx8(x y:NsX)(h:pg x=pg y):x=y:=by
 obtain⟨a,b,c⟩:=x;obtain⟨M,i,Z⟩:=y;simp only[pg,cM,AV.agg.injEq,aY]at h;rw[xa h.1,nS h.2.1,uA h.2.2]
def vb(x:NsX):Prop:=x.k.length=x.n.kids.length/\x.k.length<2^30/\(x.n.op=25->x.n.kids.length=1->∃(k:Nat) (m:Nd),x.n.kids=[(k:Int)]/\x.l[k]?=some m/\m.kids.length<2^30)
noncomputable def ph:List En:=[Cg,Cd,Ce,Cf]
theorem zty(ρ:Nat->Int):eX Tryz.prog ρ ph:=⟨zx7 ρ,zx2 ρ,zx4 ρ,zx6 ρ,trivial⟩
theorem ztz{l:List Nd}{n:Nd}{k:List Int}(h:(bc n.op).2=false):zcR l n k=0:=by rw[zcR,ax h]
theorem zpQ{l:List Nd}{n:Nd}{k:List Int}(h:(bc n.op).2=true)(h2:0<=(bc n.op).1)(o:(n.kids.length:Int)≠(bc n.op).1):zcR l n k=0:=by rw[zcR,ah (by rw[h];simp),ax ⟨h2,o⟩]
theorem zpR{l:List Nd}{n:Nd}{k:List Int}(h:zdo n.op n.imm=false):zcR l n k=0:=by
 rw[zcR];by_cases c1:(bc n.op).2=false
 .rw[ax c1]
 .rw[ah c1];by_cases c2:0<=(bc n.op).1/\(n.kids.length:Int)≠(bc n.op).1
  .rw[ax c2]
  .rw[ah c2,ax h]
theorem ztA{l:List Nd}{n:Nd}{k:List Int}(h:(bc n.op).2=true)(h2:¬(0<=(bc n.op).1/\(n.kids.length:Int)≠(bc n.op).1))(o:zdo n.op n.imm=true):zcR l n k =
 if n.op=3 then (if n.imm.tmod 16=0 then 2 else 1)
 else if n.op=26 then 2
 else if n.op=22 then (if k.headD 0≠1\/k.getD 1 0≠k.getD 2 0\/k.getD 1 0=3 then 0 else k.getD 1 0)
 else if n.op=23 then zdh (decide (k.headD 0=2)&&decide (k.getD 1 0=1)) 1
 else if n.op=24 then zdh (decide (k.headD 0=2)) 1
 else if n.op=25 then (if k.headD 0≠3\/(jX l (n.kids.headD 0)).tdiv 2<=n.imm then 0 else zdh (decide (n.imm=0)) 1+1)
 else if n.op=27\/n.op=29 then zdh (decide (k.headD 0=2)&&decide (k.getD 1 0=1)) 2
 else if n.op=28 then zdh (decide (k.headD 0=2)&&decide (k.getD 1 0=1)&&decide (k.getD 2 0=1)) 2
 else if n.op=30 then zdh (decide (1<=k.length)&&decide (k.length<=7)&&decide (k.headD 0=2)&&zdw (k.drop 1)) 2
 else if n.op=31 then zdh (decide (k.length%2=1)&&decide (1<=k.length/2)&&decide (k.length/2<=16)&&decide (k.headD 0=2)&&zdw ((k.drop 1).take (k.length/2))&&decide (k.getD (k.length/2+1) 0=2)&&zdw (k.drop (k.length/2+2))) 3
 else zdh (zdw k) 1:=by
 rw[zcR,ah (by rw[h];simp),ah h2,ah (by rw[o];simp)]
theorem zbg{l:List Nd}{imm:Int}{L k:List Int}(j:k.length=L.length)(Y:k.length<2^30)(W:zdo 30 imm=true)(O:zcR l ⟨30,imm,L⟩ k=zdh (decide (1<=k.length)&&decide (k.length<=7)&&decide (k.headD 0=2)&&zdw (k.drop 1)) 2):
 zcx Tryz.prog (zcq pls ph) 97 [zdy l,.agg [.int .i64 30,.int .i64 imm,jk L],jk k] zc2 fun v _=>v=.int .i64 (zcR l ⟨30,imm,L⟩ k):=by
 have J:Plain (zcq pls ph) 97:=zdm (fun _=>rfl) rfl;have i:(2:Int)≠0:=dr;have m:ej 30=.tup [.int .i64 (-1),.bool true]:=rfl;clear j;cases k with
 |nil=>
  have C:zcR l ⟨30,imm,L⟩ []=zdh false 2:=lD;refine zcv (M:=221) (rs:=[.tmp 6]) (J.call _) J.ice J.froz Tryz.func97 rfl rfl dT.2 rfl ?_;dsimp only[dT,zcr,Nat.reduceAdd];repeat' (first
   |(apply zcl ?_;clear hK K)|apply Ry.o ?_|(apply bK ?_;first|refine Rx.k (i4 (fun _=>rfl) _ _) ?_|refine Rx.k (jD (fun _=>rfl) _ _ _) ?_|refine Rx.k (kO (fun _=>rfl) _ _ _) ?_)|(apply a8 (fun A I=>?_) (fun A I=>?_)<;>try(cases A;done))|(apply aB (fun z V=>?_) (fun z V=>?_)<;>try(cases z;done))|apply ak ?_|(apply zcm fun K hK=>?_)|apply ay ?_|apply zco ?_|apply am ?_)
  all_goals first
   |exact eK
   |((refine⟨eI,_,dA,?_⟩;try simp only[zcn]);rw[C];done)
 |cons a k=>
  have U:=fun a=>Gn a k;simp only[dg]at Y;have Z:k.length<2^60:=ac;have C:zcR l ⟨30,imm,L⟩ (a::k)=zdh (decide (((k.length+1:Nat):Int)<=7)&&decide (a=2)&&zdw k) 2:=by
   have F:decide (((k.length+1:Nat):Int)<=7)=decide (k.length+1<=7):=kF.2 ac;rw[O,F];simp
  have o:(1:Int)<=((k.length+1:Nat):Int):=ac;refine zcv (M:=221) (rs:=[.tmp 6]) (J.call _) J.ice J.froz Tryz.func97 rfl rfl dT.2 rfl ?_;dsimp only[dT,zcr,Nat.reduceAdd];repeat' (first
   |(apply zcl ?_;clear hK K)|apply Ry.o ?_|(apply bK ?_;first|refine Rx.k (i4 (fun _=>rfl) _ _) ?_|refine Rx.k (jD (fun _=>rfl) _ _ _) ?_|refine Rx.k (ye (fun _=>rfl) _ Z _) ?_|refine Rx.k (kO (fun _=>rfl) _ _ _) ?_)|(apply a8 (fun A I=>?_) (fun A I=>?_)<;>try(cases A;done))|(apply aB (fun z V=>?_) (fun z V=>?_)<;>try(cases z;done))|apply ak ?_|(apply zcm fun K hK=>?_)|apply ay ?_|apply zco ?_|apply am ?_)
  all_goals first
   |exact eK
   |((refine⟨eI,_,dA,?_⟩;try simp only[zcn]);rw[C];(try simp only[fo]at *);simp only[ *,lB,bT,ck,Int.reduceEq];done)
theorem zbh{l:List Nd}{imm:Int}{L k:List Int}(j:k.length=L.length)(U:k.length<2^30)(Y:L.length=1->∃(k:Nat) (m:Nd),L=[(k:Int)]/\l[k]?=some m/\m.kids.length<2^30)(h1:k.length=1)(F:zdo 25 imm=true)(O:zcR l ⟨25,imm,L⟩ k=(if k.headD 0≠3\/(jX l (L.headD 0)).tdiv 2<=imm then 0 else zdh (decide (imm=0)) 1+1)):
 zcx Tryz.prog (zcq pls ph) 97 [zdy l,.agg [.int .i64 25,.int .i64 imm,jk L],jk k] zc2 fun v _=>v=.int .i64 (zcR l ⟨25,imm,L⟩ k):=by
 have J:Plain (zcq pls ph) 97:=zdm (fun _=>rfl) rfl;have hq2:(2:Int)≠0:=dr;obtain⟨a,rfl⟩:=lz h1;have W:L.length=1:=by rw[<-j];exact h1
 obtain⟨i,m,rfl,o,g⟩:=Y W;have hv:ej 25=.tup [.int .i64 1,.bool true]:=rfl;have I:jX l (i:Int)=m.kids.length:=by rw[jX,dL,o]
 have C:zcR l ⟨25,imm,[(i:Int)]⟩ [a]=if a≠3\/(m.kids.length:Int).tdiv 2<=imm then 0 else zdh (decide (imm=0)) 1+1:=by rw[O];simp[I]
 have e1:IntKind.wrap .i64 ((m.kids.length:Int).tdiv 2)=(m.kids.length:Int).tdiv 2:=by
  rw[kG ac];exact zej ac ac
 have hgk:([(i:Int)]:List Int)[0]?=some (i:Int):=rfl;have e2:IntKind.wrap .i64 (zdh (decide (imm=0)) 1+1)=zdh (decide (imm=0)) 1+1:=by
  unfold zdh;split<;>rfl
 refine zcv (M:=221) (rs:=[.tmp 6]) (J.call _) J.ice J.froz Tryz.func97 rfl rfl dT.2 rfl ?_;dsimp only[dT,zcr,Nat.reduceAdd];repeat' (first
  |(apply zcl ?_;clear hK K)|apply Ry.o ?_|(apply bK ?_;first|refine Rx.k (i4 (fun _=>rfl) _ _) ?_|refine Rx.k (jD (fun _=>rfl) _ _ _) ?_|refine Rx.k (kO (fun _=>rfl) _ _ _) ?_)|(apply a8 (fun A Z=>?_) (fun A Z=>?_)<;>try(cases A;done))|(apply aB (fun z V=>?_) (fun z V=>?_)<;>try(cases z;done))|apply ak ?_|(apply zcm fun K hK=>?_)|(apply zc4 12 [(2,19),(7,19),(10,19),(16,19)] fun K hK=>?_)|(apply zc4 20 [(2,19),(6,19),(9,19),(11,19),(14,19),(15,19)] fun K hK=>?_)|(apply zcV ?_;try intro _)|(apply zc5 ?_ ?_<;>clear hK K)|apply bD ?_|(apply iC (fun A Z=>?_) (fun A Z=>?_)<;>try(cases A;done))|apply ay ?_|apply zco ?_|apply am ?_)
 clear j I O Y;all_goals first
  |exact eK
  |((refine⟨eI,_,dA,?_⟩;try simp only[zcn]);rw[C,ax xX];done)
  |((refine⟨eI,_,dA,?_⟩;try simp only[zcn]);rw[C,ah xX];done)
end
end Go.Proofs.YtljebeflbbgibaaGreat
