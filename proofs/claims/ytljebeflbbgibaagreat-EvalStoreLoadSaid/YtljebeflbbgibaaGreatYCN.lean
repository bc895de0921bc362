/- Parts: LoB, SpecM, LoC, LoD, LoE, LoF, LoH, VdA, VdB, VdP, K1, K2a. -/
import Derived.Test.YtljebeflbbgibaaGreatYCM
set_option linter.unusedSimpArgs false
set_option linter.unusedVariables false
set_option linter.unusedSectionVars false
set_option linter.defProp false
set_option maxHeartbeats 32000000
namespace Go.Ab
set_option maxRecDepth 20000
open Go
theorem J0{P:Prop}(h:P:=by simp only[List.all_cons,List.all_nil,hone];rfl):P:=h
theorem tu{P:Prop}(h:P:=by simp only[zdm];omega):P:=h
theorem J1{P:Prop}(h:P:=by rw[List.length_map,show zef=70368744177664 from rfl];omega):P:=h
theorem vG{P:Prop}(h:P:=by have:=(i.sS _ e).1;omega):P:=h
theorem CL{P:Prop}(h:P:=by rw[Hp.get_set,if_pos rfl,znz J]):P:=h
theorem lG{P:Prop}(h:P:=by rw[U];simp):P:=h
theorem yI{P:Prop}(h:P:=by simp_all;done):P:=h
theorem tv{P:Prop}(h:P:=by simp only[zc3,Nat.reduceBEq, *];exact zeX (n:=16) ac ac):P:=h
def yJ:=@Nat.lt_of_le_of_lt
def CM:=@Nat.lt_succ_of_lt
def yK:=@List.nodup_cons
end Go.Ab
namespace Go.Proofs.YtljebeflbbgibaaGreat
set_option maxRecDepth 20000
open Go Go.Ab
section
def tyLoB.tyF:=ad @cP (ad @b7 (ad @uI (ad @dz (ad @ei (ad @fd (ad @eT (ad @jY (ad @qB (ad @uK (ad @Ba (ad @FB (ad @Bg (ad @FH (ad @FJ (ad @uL (ad @FI (ad @FK (ad @HR (ad @l9 (@mc))))))))))))))))))))
open tyLoB
noncomputable def J2:{c:SC // aB 20 (Tryz.f137.body.getD .skip)=c}:=by
 refine⟨?_,?_⟩;rotate_left
 .simp only[Tryz.f137,a8,aB,zda,zc9,zdc,zdd,Nat.blt,Nat.ble];rfl
noncomputable def J3:{c:SC // aB 69 (Tryz.f89.body.getD .skip)=c}:=by
 refine⟨?_,?_⟩;rotate_left
 .simp only[Tryz.f89,a8,aB,zda,zc9,zdc,zdd,Nat.blt,Nat.ble];rfl
def J4(f:FuncId):Bool:=Nat.beq f 137||Nat.beq f 89||Nat.beq f 90||Nat.beq f 91||Nat.beq f 92||Nat.beq f 138||Nat.beq f 139||Nat.beq f 140||Nat.beq f 141||Nat.beq f 175||Nat.beq f 176||Nat.beq f 177||Nat.beq f 198||Nat.beq f 56
structure LowT (tb:List En):Prop where
 pl:∀f,J4 f=true->(∀ar,zdS tb f ar=none)/\iF tb f=false
theorem LowT.plain{tb:List En}(h:LowT tb){f:FuncId}(j:J4 f=true):Plain (zcW pls tb) f:=zdO (h.pl f j).1 (h.pl f j).2
theorem J5{cfg:Cfg}(J:Plain cfg 137)(F:cfg.keep 137=false){H:Hp}{v:AV}{b:List Int}{lo:Nat}(hv:gZ H v b lo)(z:b.length<2^38)(n:Int):
 zc2 Tryz.prog cfg 137 [v,.int .u64 n] H fun w H'=>gZ H' w (b++zez n 8) lo/\H.next<=H'.next/\∀k,k<lo->H'.get k=H.get k:=by
 obtain⟨zdg,i0,O,_⟩:=id hv;have hone:AV.one v=true:=by rw[O];rfl
 clear O;refine zf (M:=20) (rs:=[.tmp 4]) (J.call _) J.ice J.froz Tryz.func137 rfl rfl J2.2 rfl ?_;dsimp only[J2,zcX,Nat.reduceAdd];repeat' (first
  |(apply zcP ?_;clear hK K)|apply Rx.o ?_|apply ak ?_|(apply zcQ fun K hK=>?_)|apply ax ?_|fail)
 refine zdN [1] [] 5 8 (fun i E Z=>∃w,E.at 0=w/\gZ Z w (b++zez n i) lo/\∀k,k<lo->Z.get k=H.get k) eE ⟨v,eE,by simpa [zez]using hv,fun _ _=>rfl⟩ ?_;rintro i E Z hi Y W U hsI ⟨w,zd3,g,C⟩;(try simp only[zdh,zdb,a1,zc3,zde,Nat.reduceBEq, *]at Y);(try simp only[zdb, *]at W);(try simp only[zc6,zdm,zdK,bz,Nat.reduceAdd]at U);by_cases L:i<8
 .have m:(i:Int)<8:=by omega
  have e1:IntKind.wrap .i64 (8*(i:Int))=((8*i:Nat):Int):=by rw[zey ac ac];omega
  have e2:IntKind.wrap .u64 ((8*i:Nat):Int)=((8*i:Nat):Int):=(by decide:∀i:_root_.Fin 8,IntKind.wrap .u64 ((8*i.val:Nat):Int)=((8*i.val:Nat):Int)) ⟨i,L⟩;have e4:∀(D:BinOp->Sx->Sx->Option Bool) (t:TypeId),zdU Tryz.prog D .shr t (.int .u64 n) (.int .u64 ((8*i:Nat):Int))=some (.int .u64 (n.fdiv (2^ (8*i)))):=fun D t=>bin_shr ac rfl;repeat' (first
   |(apply zcP ?_;clear hK K)|apply Ry.o ?_|(apply az (fun z V=>?_) (fun z V=>?_)<;>try(cases z;done))|apply ak ?_|(apply zcQ fun K hK=>?_)|apply ax ?_|apply zcR ?_|fail)
  have I:yb (Z.alloc (.cells [.int .u8 (i9 n i)] 0 true)) w (b++zez n i) lo:=.inr (g.keep (gm _) fun k j=>by rw[zcY,ah (by have:=(g.lt j).2;omega)]);have hlo2:lo<=Z.next:=by obtain⟨r,im,_,_,_,h1,h2⟩:=g;omega
  obtain⟨v5,H5,a5,s5,n5,f5,o5⟩:=HQ (r:=Z.next) (imm:=0) (i9 n i) I gX iu (by rw[fv,zfx];omega);have n5':Z.next<=H5.next:=sY
  have A:∀k,k<lo->H5.get k=H.get k:=fun k j=>by rw[f5 k j,zcY,ah ac,C k j]
  clear n5 f5 o5;refine nQ eV eV (by rw[F];exact a5) ?_;repeat' (first
   |(apply zcP ?_;clear hK K)|apply Rx.o ?_|(apply zcQ fun K hK=>?_)|fail)
  refine⟨ac,eL,eL,eN,Hk,?_⟩;exact⟨v5,eE,by rw[HS,<-gw];exact s5,A⟩
 .have m:¬(i:Int)<8:=by omega
  repeat' (first
   |(apply zcP ?_;clear hK K)|apply Ry.o ?_|(apply az (fun z V=>?_) (fun z V=>?_)<;>try(cases z;done))|apply ak ?_|(apply zcQ fun K hK=>?_)|apply am ?_|apply zc4 ?_)
  all_goals (refine⟨zcT,_,zcU,?_⟩;try simp only[zcS])
  have o:i=8:=ac;rw[o]at g;exact⟨g,ac,C⟩
theorem ep.len'{H:Hp}{v:AV}{l:List Int}{lo:Nat}(h:ep H v l lo)(H':Hp):zdu Tryz.prog H' 23 v=some (.int .i64 l.length):=by
 rcases h with⟨rfl,rfl⟩|h
 .exact zeW Tryz.underlying23
 .exact h.len
theorem za8{S:Nat->Prop}{H:Hp}{kv:AV}{L:List Int}{lo:Nat}(op imm:Int)(j:ep H kv L lo)(hS:∀k,zd9 kv k->S k):zdQ S 2 H [.int .i64 op,.int .i64 imm,kv] (Nd.mk op imm L).cells:=by
 refine .cons (.int _ _) (.cons (.int _ _) (.cons ?_ .nil));rcases j with⟨rfl,rfl⟩|⟨r,i,rfl,g,m,U,Z⟩
 .exact .nilS
 .exact rE L (hS r ⟨_,rfl⟩) Z g m
theorem za9{H:Hp}{kv:AV}{l:List Int}{lo:Nat}(h:ep H kv l lo)(a b:Int):zeb Tryz.prog 25 [(0,.int .i64 a),(1,.int .i64 b),(2,kv)]=some (.agg [.int .i64 a,.int .i64 b,kv]):=by
 rcases h with⟨rfl,rfl⟩|⟨r,i,rfl,_⟩<;>kernel_rfl
theorem ep.one{H:Hp}{kv:AV}{l:List Int}{lo:Nat}(h:ep H kv l lo):AV.one kv=true:=by
 rcases h with⟨rfl,rfl⟩|⟨r,i,rfl,_⟩<;>rfl
theorem CN:nD Tryz.prog 3=some (.int .i64 0):=af
theorem zfM:zfi Tryz.prog 9=some .string:=af
def tw(X:Lx)(S:Nat->Prop)(K kv:AV)(H:Hp)(n:Nd)(s:Bd)(v:AV)(H':Hp):Prop:=v=.int .i64 (zee n s).1/\∃i j,RepL X H' i (zee n s).2 j K/\H.next<=H'.next/\(∀k,k<H.next->k≠X.b->k≠X.rt->¬S k->H'.get k=H.get k)/\∀k,i k->S k\/zd9 kv k\/H.next<=k
set_option maxRecDepth 100000 in
theorem J6{tb:List En}(hG:LowT tb){X:Lx}{H:Hp}{S:Nat->Prop}{s:Bd}{F J kv:AV}(hR:RepL X H S s F J)(n:Nd)(Z:ep H kv n.kids 0)(I:∀k,zd9 kv k->X.b<k/\¬S k/\¬zd9 J k)(hr:∀x∈ot s.l n,NdR x)(hlen:s.l.length<2^36):
 zc2 Tryz.prog (zcW pls tb) 89 [.ptr X.b 0,.int .i64 n.op,.int .i64 n.imm,kv] H (tw X S J kv H n s):=by
 have hw:Plain (zcW pls tb) 89:=hG.plain dt;have hap:Plain (zcW pls tb) 137:=hG.plain dt;have hkeep:(zcW pls tb).keep 89=false:=rfl;have hn:NdR n:=hr n (JY.2 (.inr rfl));have hnl:=hn.len;have o1:=hR.o1;have o2:=hR.o2;have o3:=hR.o3;have o4:=hR.o4;have o5:=hR.o5;have hkn:=Z.len';refine zf (M:=69) (rs:=[.tmp 8]) (hw.call _) hw.ice hw.froz Tryz.func89 rfl rfl J3.2 rfl ?_;dsimp only[J3,zcX,Nat.reduceAdd];repeat' (first
  |(apply zcP ?_;clear hK K)|apply Rx.o ?_|apply ak ?_|(apply zcQ fun K hK=>?_)|fail)
 refine a4 rfl a6 a7 ?_;simp only[bB];refine aZ ?_ (J5 hap rfl (b:=[IntKind.wrap .u8 n.op]) (lo:=H.next) ⟨H.next,0,rfl,ik,cN _,aM _,sZ⟩ aE _);rintro w H1 ⟨hw1,n1,q1⟩;have n1':H.next<=H1.next:=by simp only[zc6]at n1;omega
 have q1':∀k,k<H.next->H1.get k=H.get k:=fun k Z=>by rw[q1 k Z,zcY,ah ac]
 clear n1 q1;dsimp only[zc5];repeat' (first
  |(apply zcP ?_;clear hK K)|apply Rx.o ?_|apply ak ?_|(apply zcQ fun K hK=>?_)|apply ax ?_|fail)
 refine zdN [0,1,2,3,8,20,21] [] 22 n.kids.length (fun j E Y=>∃w,E.at 9=w/\gZ Y w ([IntKind.wrap .u8 n.op]++zez (IntKind.wrap .u64 n.imm) 8++(n.kids.take j).flatMap fun k=>zez (IntKind.wrap .u64 k) 8) H.next/\Sm H.next H Y) eE ⟨w,eE,by simpa using hw1,⟨q1'⟩⟩ ?_;rintro j E Y hj hcE hrH hnH hsI ⟨w2,zfQ,hw2,C⟩;(try simp only[zdh,zdb,a1,zc3,zde,Nat.reduceBEq, *]at hcE);(try simp only[zdb, *]at hrH);(try simp only[zc6,zdm,zdK,bz,Nat.reduceAdd]at hnH);have n2':H.next<=Y.next:=ac
 by_cases z:j<n.kids.length
 .have hlt':(j:Int)<n.kids.length:=by omega
  have htk:n.kids.take (j+1)=n.kids.take j++[n.kids[j]]:=by rw[mz,aO z];rfl
  have hfl:((n.kids.take j).flatMap fun k=>zez (IntKind.wrap .u64 k) 8).length<=8*j:=by
   rw[List.length_flatMap];simp only[zfx];have:((n.kids.take j).map fun _=>8).sum=8*(n.kids.take j).length:=by
    generalize n.kids.take j=q;induction q with
    |nil=>rfl
    |cons a q ih=>simp[ih];omega
   rw[this,iS];omega
  have hkb:eU Y kv n.kids 0:=by
   rcases Z with⟨_,g⟩|g
   .rw[g]at z;simp at z
   .exact g.keep ac fun k Z=>C.get k (g.lt Z).2
  obtain⟨r,hix,hld⟩:=hkb.at z;generalize n.kids[j]=kd at *;repeat' (first
   |(apply zcP ?_;clear hK K)|apply Ry.o ?_|(apply az (fun hb L=>?_) (fun hb L=>?_)<;>try(cases hb;done))|apply ak ?_|(apply zcQ fun K hK=>?_)|apply ax ?_|apply zcR ?_|fail)
  refine a4 rfl a6 a7 ?_;simp only[bB];refine aZ ?_ (J5 hap rfl hw2 G9 _);rintro w3 H3 ⟨hw3,n3,q3⟩;dsimp only[zc5];repeat' (first
   |(apply zcP ?_;clear hK K)|apply Rx.o ?_|(apply zcQ fun K hK=>?_)|fail)
  refine⟨ac,eL,eL,eN,pe,?_⟩;exact⟨w3,eE,by rw[htk,List.flatMap_append,oT,B1,bB,<-gw];exact hw3,⟨fun k Z=>by rw[q3 k Z];exact C.get k Z⟩⟩
 .have hlt':¬(j:Int)<n.kids.length:=by omega
  have hje:n.kids.take j=n.kids:=eF ac;rw[hje,<-HW]at hw2;have hcv:=HZ hw2;have i:RepL X Y S s F J:=hR.keep n2' fun k Z _=>C.get k Z;have m2:=i.m;unfold lc at m2;have hlk:=EO (P:=Tryz.prog) (t:=110) Tryz.underlying110 zfM CN i.t (zdY n);obtain⟨f1,f2,f3⟩:=JZ hn s.l 0 (fun x hx=>hr x (JY.2 (.inl hx)));clear hje hw1 q1';have hcv':ze3 Tryz.prog Y 200 9 w2=some (.str (zdY n)):=hcv;clear hcv;by_cases U:iQ s.l n<s.l.length
  .rw[cI U]at f1;have f2:=f2 U;rw[f1,f2]at hlk;repeat' (first
    |(apply zcP ?_;clear hK K)|apply Ry.o ?_|(apply az (fun hb L=>?_) (fun hb L=>?_)<;>try(cases hb;done))|apply ak ?_|(apply zcQ fun K hK=>?_)|(apply zdG 7 [(3,12),(5,12),(6,12)] fun K hK=>?_)|(apply zdB ?_;try intro _)|(apply zdJ ?_ ?_<;>clear hK K)|apply b4 ?_|apply zcR ?_|apply am ?_|apply zc4 ?_)
   all_goals first
    |exact zdj
    |skip
   all_goals (refine⟨zcT,_,zcU,?_⟩;try simp only[zcS])
   have e1:zee n s=(((iQ s.l n:Nat):Int),s):=by rw[zee,ot,ay U]
   rw[tw,e1];exact⟨aE,S,F,i,n2',fun k V _ _ _=>C.get k V,fun k Z=>.inl Z⟩
  .rw[dd U]at f1;have f3:=f3 U;have hix:iQ s.l n=s.l.length:=by have:=zxV s.l n;omega
   have hadd:ot s.l n=s.l++[n]:=by rw[ot,ah U]
   rw[f1]at hlk;have hll:∀H',zdu Tryz.prog H' 26 F=some (.int .i64 s.l.length):=fun H'=>by
    have:=i.nodes.len (P:=Tryz.prog) (t:=26) (H':=H') Tryz.underlying26
    rwa [cX]at this
   have hup:zfl Tryz.prog Y 110 (.map X.rt) (.str (zdY n)) (.int .i64 s.l.length)=some (Y.set X.rt (.map (cV (atV (s.l++[n]) 0)))):=by
    rw[(AC (P:=Tryz.prog) (t:=110) (nm:=zdY n) Tryz.underlying110 zfM i.t).1 ((AH (zdY n) (atV s.l 0) 0).1 f1).1,<-ztu];simp[cV]
   have hbn:=za9 Z n.op n.imm;have hone:=Z.one;have hbs:∀H,zej Tryz.prog H 26 1 [(0,.agg [.int .i64 n.op,.int .i64 n.imm,kv])]=some (.sl H.next 0 1 3,H.alloc (.cells [.int .i64 n.op,.int .i64 n.imm,kv] 0 true)):=fun H=>za7 H rfl J0;have g3:∀k,k≠X.rt->(Y.set X.rt (.map (cV (atV (s.l++[n]) 0)))).get k=Y.get k:=fun k Z=>wi;have g4:∀k,k≠X.rt->k<Y.next->((Y.set X.rt (.map (cV (atV (s.l++[n]) 0)))).alloc (.cells [.int .i64 n.op,.int .i64 n.imm,kv] 0 true)).get k=Y.get k:=fun k Z hl=>by rw[zcY,ah tu,g3 k Z]
   have m3:(Y.set X.rt (.map (cV (atV (s.l++[n]) 0)))).get X.b=some (.cells (lc X s F J) 0 true):=by rw[g3 _ ac];exact i.m
   have m4:((Y.set X.rt (.map (cV (atV (s.l++[n]) 0)))).alloc (.cells [.int .i64 n.op,.int .i64 n.imm,kv] 0 true)).get X.b=some (.cells (lc X s F J) 0 true):=by rw[g4 _ ac ac];exact i.m
   have g4n:((Y.set X.rt (.map (cV (atV (s.l++[n]) 0)))).alloc (.cells [.int .i64 n.op,.int .i64 n.imm,kv] 0 true)).get Y.next=some (.cells [.int .i64 n.op,.int .i64 n.imm,kv] 0 true):=xU
   have A:∀k,zd9 kv k->k<H.next:=fun k W=>(Z.lt W).2
   obtain⟨H5,a5,s5,n5,q5⟩:=JI (P:=Tryz.prog) (t:=26) Tryz.underlying26 xl EZ E6 rfl af (S':=fun k=>S k\/zd9 kv k\/k=Y.next+1)
    (i.nodes.keep (S':=S) (H':=(Y.set X.rt (.map (cV (atV (s.l++[n]) 0)))).alloc (.cells [.int .i64 n.op,.int .i64 n.imm,kv] 0 true)) (fun _ _ h=>h) (gm _) fun k Z h6=>g4 k (by have:=(i.sS k Z).1;omega) h6)
    (fun k _ h=>.inl h) (.inr (.inr rfl)) (r:=Y.next) (imm:=0) (row:=[.int .i64 n.op,.int .i64 n.imm,kv]) (w:=n.cells) g4n rfl J0
    (za8 n.op n.imm (lo:=0) (Z.keep Ce fun k W=>by rw[g4 k (by have:=(I k W).1;omega) (by have:=A k W;omega)];exact C.get k (A k W)) fun k W=>⟨.inr (.inl W),fun o m z' e=>(I k W).2.1 (by
      rcases i.nodes with⟨V,_⟩|⟨q,im,rows,V,g,_⟩
      .rw[V]at e;cases e
      .rw[V]at e;simp only[AV.sl.injEq]at e;rw[<-e.1];exact g)⟩)
    J1 J1
   rw[cX]at a5 s5;simp only[zc6,zdm]at a5 s5 n5 q5;have hno:∀k,(¬S k)->∀o m z',F≠.sl k o m z':=fun k Z o m z' e=>Z (by
    rcases i.nodes with⟨V,_⟩|⟨q,im,rows,V,g,_⟩
    .rw[V]at e;cases e
    .rw[V]at e;simp only[AV.sl.injEq]at e;rw[<-e.1];exact g)
   have m5:H5.get X.b=some (.cells (lc X s F J) 0 true):=by rw[q5 _ ac (hno _ fun e=>vG)];exact m4
   have O:∀k,k<Y.next->k≠X.rt->¬S k->H5.get k=Y.get k:=fun k V g h3=>by rw[q5 _ ac (hno _ h3)];exact g4 k g V
   have t5:H5.get X.rt=some (.map (cV (atV (s.l++[n]) 0))):=by rw[q5 _ ac (hno _ fun e=>vG),zcY,ah tu,aX,ay rfl]
   have hpo:zee n s=(((iQ s.l n:Nat):Int),{s with l:=s.l++[n] }):=by rw[zee,hadd]
   have fin:tw X S J kv H n s (.int .i64 s.l.length) (H5.set X.b (.cells (lc X {s with l:=s.l++[n] } (.sl (Y.next+1) 0 (s.l.length+1) 3) J) 0 true)):=by
    rw[tw,hpo,hix];have g6:∀k,k≠X.b->(H5.set X.b (.cells (lc X {s with l:=s.l++[n] } (.sl (Y.next+1) 0 (s.l.length+1) 3) J) 0 true)).get k=H5.get k:=fun k Z=>wi;refine⟨rfl,fun k=>S k\/zd9 kv k\/k=Y.next+1,_,⟨hW,?_,?_,?_,?_,?_,?_,o1,o2,o3,o4,?_,?_,?_⟩,?_,?_,?_⟩
    .rw[g6 _ ac,O _ ac ac fun e=>vG];exact i.a
    .rw[g6 _ ac,O _ ac ac fun e=>vG];exact i.f
    .rw[g6 _ ac];exact t5
    .rw[g6 _ ac,O _ ac ac fun e=>vG];exact i.n
    .have e:(s.l++[n]).map Nd.cells=s.l.map Nd.cells++[n.cells]:=by simp
     rw[e];refine s5.keep (fun _ _ h=>h) (aM _) fun k Z _=>g6 k ?_;rcases Z with Z|Z|Z
     .have:=(i.sS _ Z).1;omega
     .have:=(I _ Z).1;omega
     .omega
    .exact i.vars.keep tu fun k Z=>by rw[g6 k (by have:=(i.vS k Z).1;omega),O k (i.vS k Z).2 (by have:=(i.vS k Z).1;omega) fun e=>(i.sS k e).2.2 Z]
    .simp only[zdm];omega
    .rintro k (Z|Z|Z)
     .have:=i.sS k Z;exact⟨this.1,tu,this.2.2⟩
     .have:=I k Z;have g:=A k Z;exact⟨this.1,tu,this.2.2⟩
     .refine⟨ac,tu,fun e=>?_⟩;have:=(i.vS k e).2;omega
    .intro k Z;have:=i.vS k Z;simp only[zdm];omega
    .simp only[zdm];omega
    .intro k V g h3 h4;rw[g6 k g,O k ac h3 h4];exact C.get k V
    .rintro k (Z|Z|Z)
     .exact .inl Z
     .exact .inr (.inl Z)
     .exact .inr (.inr ac)
   unfold lc at m3 m4 m5 fin;clear s5 O t5 g3 g4 q5 A;repeat' (first
    |(apply zcP ?_;clear hK K)|apply Ry.o ?_|apply bl ?_|(apply az (fun hb L=>?_) (fun hb L=>?_)<;>try(cases hb;done))|apply ak ?_|(apply zcQ fun K hK=>?_)|(apply zdG 7 [(3,12),(5,12),(6,12)] fun K hK=>?_)|(apply nZ 10 fun K hK=>?_)|(apply zdB ?_;try intro _)|(apply zdJ ?_ ?_<;>clear hK K)|apply b4 ?_|apply am ?_|apply zc4 ?_)
   all_goals first
    |exact zdj
    |skip
   all_goals (refine⟨zcT,_,zcU,?_⟩;try simp only[zcS])
   exact fin
end
section
structure zeQ (a b:Bd):Prop where
 l:a.l<+:b.l
 n:a.loops<=b.loops
theorem zeQ.refl(a:Bd):zeQ a a:=⟨vy _,aM _⟩
theorem zeQ.trans{a b c:Bd}(h:zeQ a b)(k:zeQ b c):zeQ a c:=⟨h.l.trans k.l,eP h.n k.n⟩
structure Fin (s:Bd):Prop where
 r:∀x∈s.l,NdR x
 l:s.l.length<2^36
 n:s.loops<2^36
theorem Fin.le{a b:Bd}(h:Fin b)(k:zeQ a b):Fin a:=⟨fun x F=>h.r x (k.l.subset F),yJ k.l.length_le h.l,yJ k.n h.n⟩
structure Lv (a b:Bd):Prop where
 le:zeQ a b
 v:b.vars=a.vars
 n:b.loops=a.loops
theorem Lv.refl(a:Bd):Lv a a:=⟨zeQ.refl a,rfl,rfl⟩
theorem Lv.trans{a b c:Bd}(h:Lv a b)(k:Lv b c):Lv a c:=⟨h.le.trans k.le,k.v.trans h.v,k.n.trans h.n⟩
theorem Lv.setS{a b:Bd}(h:Lv a b)(x:Int):Lv a {b with state:=x}:=⟨⟨h.le.l,h.le.n⟩,h.v,h.n⟩
theorem zfh(n:Nd)(s:Bd):Lv s (zee n s).2:=⟨⟨CK s.l n,aM _⟩,rfl,rfl⟩
theorem yM(c a b:Int)(s:Bd):Lv s (zeK c a b s).2:=by
 unfold zeK;split
 .exact Lv.refl s
 .exact zfh _ s
theorem yN(t v:Int)(s:Bd):Lv s (vF t v s):=(zfh _ s).setS _
theorem J7(t v:Int)(s:Bd):Lv s (tq t v s):=(zfh _ s).trans ((zfh _ _).trans (yN _ _ _))
theorem J8(v:Int)(s:Bd):Lv s (tt v s):=(zfh _ s).trans ((zfh _ _).trans (yN _ _ _))
theorem vH(c:Cx):∀(n:Nat) (x:Ex) (s:Bd) (r:Int×Bd),kS c n x s=some r->Lv s r.2
 |0,_,_,_,h=>by simp[kS]at h
 |n+1,x,s,r,h=>by
  have Z:=vH c n;unfold kS at h;split at h
  .cases h;exact zfh _ s
  split at h
  .obtain⟨v,_,rfl⟩:=my.1 h;exact Lv.refl s
  split at h
  .simp only[cj,aA]at h;obtain⟨k,_,zc0,i,a,_,rfl⟩:=h;exact(Z _ _ _ i).trans ((J7 _ _ _).trans (zfh _ _))
  split at h
  .simp only[cj,aA]at h;obtain⟨zd3,_,zdg,o,k1,_,zc0,i,zdp,_,r2,g,rfl⟩:=h;have a:=(Z _ _ _ o).trans (Z _ _ _ i);have b:=(a.setS zdg.2.state).trans (Z _ _ _ g);exact(b.trans ((yM _ _ _ _).trans (yM _ _ _ _))).setS _
  .simp only[cj]at h;obtain⟨zd3,_,zdg,o,h⟩:=h;have a:=Z _ _ _ o;split at h
   .cases h;exact a.trans (zfh _ _)
   .simp only[cj,aA]at h;obtain⟨k1,_,zc0,i,rfl⟩:=h;have b:=a.trans (Z _ _ _ i);refine Lv.trans ?_ (zfh _ _);split
    .exact b.trans (J8 _ _)
    .exact b
def tyLoC.tyF:=ad @b7 (ad @dz (ad @ei (ad @eT (ad @ii (ad @kJ (ad @mP (ad @jY (ad @qB (@uK)))))))))
open tyLoC
noncomputable def J9:{c:SC // aB 8 (Tryz.f90.body.getD .skip)=c}:=by
 refine⟨?_,?_⟩;rotate_left
 .simp only[Tryz.f90,a8,aB,zda,zc9,zdc,zdd,Nat.blt,Nat.ble];rfl
noncomputable def Ka:{c:SC // aB 18 (Tryz.f141.body.getD .skip)=c}:=by
 refine⟨?_,?_⟩;rotate_left
 .simp only[Tryz.f141,a8,aB,zda,zc9,zdc,zdd,Nat.blt,Nat.ble];rfl
noncomputable def yO:{c:SC // aB 19 (Tryz.f177.body.getD .skip)=c}:=by
 refine⟨?_,?_⟩;rotate_left
 .simp only[Tryz.f177,a8,aB,zda,zc9,zdc,zdd,Nat.blt,Nat.ble];rfl
noncomputable def Kb:{c:SC // aB 25 (Tryz.f139.body.getD .skip)=c}:=by
 refine⟨?_,?_⟩;rotate_left
 .simp only[Tryz.f139,a8,aB,zda,zc9,zdc,zdd,Nat.blt,Nat.ble];rfl
def ny(X:Lx)(S:Nat->Prop)(K:AV)(H:Hp)(r:Int×Bd)(v:AV)(H':Hp):Prop:=v=.int .i64 r.1/\∃i j,RepL X H' i r.2 j K/\FrL X S K H i K H'
def Kc(X:Lx)(S:Nat->Prop)(K:AV)(H:Hp)(r:Bd)(v:AV)(H':Hp):Prop:=∃i j J,RepL X H' i r j J/\FrL X S K H i J H'
def Kd(X:Lx)(S:Nat->Prop)(K:AV)(H:Hp)(r:Bd)(v:AV)(H':Hp):Prop:=∃i j,RepL X H' i r j K/\FrL X S K H i K H'
theorem tw.val{X:Lx}{S:Nat->Prop}{K kv:AV}{H O H':Hp}{n:Nd}{s:Bd}{v:AV}(h:tw X S K kv O n s v H')(j:FrL X S K H S K O)(Y:∀k,zd9 kv k->H.next<=k):ny X S K H (zee n s) v H':=by
 obtain⟨i,W,Z,g,m,U,V⟩:=h;refine⟨i,W,Z,g,eP j.next m,fun k a b c d e=>?_,fun k a=>?_,fun k a=>.inl a⟩
 .rw[U k (gk a j.next) b c d];exact j.get k a b c d e
 .rcases V k a with a|a|a
  .exact .inl a
  .exact .inr (Y k a)
  .exact .inr (eP j.next a)
theorem Ke{r o n z k:Nat}(h:zd9 (.sl r o n z) k):k=r:=by
 obtain⟨m,e⟩:=h;simp only[AV.sl.injEq]at e;exact e.1.symm
theorem Kf{k:Nat}(h:zd9 .nilS k):False:=by
 obtain⟨m,e⟩:=h;cases e
theorem nz{tb:List En}(V:LowT tb){X:Lx}{H O:Hp}{S:Nat->Prop}{s:Bd}{U K:AV}(M:RepL X O S s U K)(L:FrL X S K H S K O)(n:Nd){r m:Nat}(J:n.kids.length=m)(A:O.get r=some (.cells (n.kids.map (.int .i64)) 0 true))(hr:H.next<=r)(Z:r<O.next)(z:X.b<r)(hS:¬S r)(I:¬zd9 K r)(W:Fin (zee n s).2){op imm:Int}(g:n.op=op)(Y:n.imm=imm):
 zc2 Tryz.prog (zcW pls tb) 89 [.ptr X.b 0,.int .i64 op,.int .i64 imm,.sl r 0 m 1] O (ny X S K H (zee n s)):=by
 subst J;subst g;subst Y;refine aZ ?_ (J6 V M n (.inr ⟨r,0,rfl,A,cN _,cN _,Z⟩) (fun k j=>?_) W.r (yJ (CK s.l n).length_le W.l))
 .intro v H' h;exact h.val L fun k j=>by rw[Ke j];exact hr
 .rw[Ke j];exact⟨z,hS,I⟩
theorem zxZ{tb:List En}(W:LowT tb){X:Lx}{H O:Hp}{S:Nat->Prop}{s:Bd}{Z K:AV}(Y:RepL X O S s Z K)(V:FrL X S K H S K O)(op imm:Int)(g:Fin (zee ⟨op,imm,[]⟩ s).2):
 zc2 Tryz.prog (zcW pls tb) 89 [.ptr X.b 0,.int .i64 op,.int .i64 imm,.nilS] O (ny X S K H (zee ⟨op,imm,[]⟩ s)):=by
 refine aZ ?_ (J6 W Y ⟨op,imm,[]⟩ (.inl ⟨rfl,rfl⟩) (fun k j=>(Kf j).elim) g.r (yJ (CK s.l _).length_le g.l));intro v H' h;exact h.val V fun k j=>(Kf j).elim
theorem RepL.new{X:Lx}{H:Hp}{S:Nat->Prop}{s:Bd}{O K:AV}(h:RepL X H S s O K){r:Nat}(hr:H.next<=r):¬S r/\¬zd9 K r/\X.b<r:=⟨fun e=>by have:=(h.sS r e).2.1;omega,fun e=>by have:=(h.vS r e).2;omega,by have:=h.o5;omega⟩
theorem ny.pre{X:Lx}{S W:Nat->Prop}{K:AV}{H zdw:Hp}{r:Int×Bd}{v:AV}{H':Hp}(h:ny X S K H r v H')(Z:FrL X W K zdw S K H):ny X W K zdw r v H':=by
 obtain⟨i,Y,j,g,m⟩:=h;exact⟨i,Y,j,g,Z.trans m⟩
theorem yP{tb:List En}(W:LowT tb){X:Lx}{H O:Hp}{S:Nat->Prop}{s:Bd}{Y Z:AV}(j:RepL X O S s Y Z)(V:FrL X S Z H S Z O)(n:Int)(U:Fin (zee ⟨1,n,[]⟩ s).2):
 zc2 Tryz.prog (zcW pls tb) 90 [.ptr X.b 0,.int .i64 n] O (ny X S Z H (zee ⟨1,n,[]⟩ s)):=by
 have J:Plain (zcW pls tb) 90:=W.plain dt;refine zf (M:=8) (rs:=[.tmp 4]) (J.call _) J.ice J.froz Tryz.func90 rfl rfl J9.2 rfl ?_;dsimp only[J9,zcX,Nat.reduceAdd];repeat' (first
  |(apply zcP ?_;clear hK K)|apply Rx.o ?_|apply ak ?_|(apply zcQ fun K hK=>?_)|fail)
 refine a4 rfl a6 a7 ?_;simp only[bB];refine aZ ?_ (zxZ W j V 1 n U);rintro v L g;obtain⟨rfl,m⟩:=id g;dsimp only[zc5];repeat' (first
  |(apply zcP ?_;clear hK K)|apply Rx.o ?_|apply am ?_)
 all_goals (refine⟨zcT,_,zcU,?_⟩;try simp only[zcS])
 exact g
theorem yQ(H:Hp)(a b:Int):zej Tryz.prog H 23 2 [(0,.int .i64 a),(1,.int .i64 b)]=some (.sl H.next 0 2 1,H.alloc (.cells [.int .i64 a,.int .i64 b] 0 true)):=af
theorem Kg(H:Hp)(a b c:Int):zej Tryz.prog H 23 3 [(0,.int .i64 a),(1,.int .i64 b),(2,.int .i64 c)]=some (.sl H.next 0 3 1,H.alloc (.cells [.int .i64 a,.int .i64 b,.int .i64 c] 0 true)):=af
theorem bI1(H:Hp)(a:Int):zej Tryz.prog H 23 1 [(0,.int .i64 a)]=some (.sl H.next 0 1 1,H.alloc (.cells [.int .i64 a] 0 true)):=af
theorem CO{tb:List En}(V:LowT tb){X:Lx}{H O:Hp}{S:Nat->Prop}{s:Bd}{I Z:AV}(j:RepL X O S s I Z)(U:FrL X S Z H S Z O)(t v:Int)(g:Fin (vF t v s)):
 zc2 Tryz.prog (zcW pls tb) 141 [.ptr X.b 0,.int .i64 t,.int .i64 v] O (Kd X S Z H (vF t v s)):=by
 have Y:Plain (zcW pls tb) 141:=V.plain dt;have zeo:=j.m;unfold lc at zeo;refine zf (M:=18) (rs:=[]) (Y.call _) Y.ice Y.froz Tryz.func141 rfl rfl Ka.2 rfl ?_;dsimp only[Ka,zcX,Nat.reduceAdd];have A:=@yQ;repeat' (first
  |apply Rx.o ?_|(apply zcQ fun K hK=>?_)|fail)
 refine a4 rfl a6 a7 ?_;simp only[bB];have W:=j.new (aM _);refine aZ ?_ (nz V (j.alloc _) (U.alloc _) ⟨27,t,[s.state,v]⟩ rfl ik U.next (cQ _) W.2.2 W.1 W.2.1 (g.le ⟨vy _,aM _⟩) rfl rfl);rintro w o ⟨rfl,F,J,L,C⟩;have z:=L.m;unfold lc at z;dsimp only[zc5];repeat' (first
  |(apply zcP ?_;clear hK K)|apply Rx.o ?_|apply bE ?_|fail)
 all_goals (refine⟨zcT,_,zcU,?_⟩;try simp only[zcS])
 obtain⟨a,b⟩:=L.setS (zee ⟨27,t,[s.state,v]⟩ s).1;exact⟨F,J,a,C.trans b⟩
theorem Kh{tb:List En}(U:LowT tb){X:Lx}{H O:Hp}{S:Nat->Prop}{s:Bd}{L Z:AV}(j:RepL X O S s L Z)(Y:FrL X S Z H S Z O)(c a b:Int)(g:Fin (zeK c a b s).2):
 zc2 Tryz.prog (zcW pls tb) 177 [.ptr X.b 0,.int .i64 c,.int .i64 a,.int .i64 b] O (ny X S Z H (zeK c a b s)):=by
 have J:Plain (zcW pls tb) 177:=U.plain dt;by_cases h:a=b
 .subst h;have e:zeK c a a s=(a,s):=by rw[zeK,ay rfl]
  rw[e];refine zf (M:=19) (rs:=[.tmp 8]) (J.call _) J.ice J.froz Tryz.func177 rfl rfl yO.2 rfl ?_;dsimp only[yO,zcX,Nat.reduceAdd];repeat' (first
   |(apply zcP ?_;clear hK K)|apply Ry.o ?_|(apply az (fun z V=>?_) (fun z V=>?_)<;>try(cases z;done))|apply ak ?_|(apply zcQ fun K hK=>?_)|apply am ?_)
  all_goals (refine⟨zcT,_,zcU,?_⟩;try simp only[zcS])
  exact⟨rfl,S,L,j,Y⟩
 .have e:zeK c a b s=zee ⟨22,0,[c,a,b]⟩ s:=by rw[zeK,ah h]
  rw[e]at g⊢;have W:=j.new (aM _);refine zf (M:=19) (rs:=[.tmp 8]) (J.call _) J.ice J.froz Tryz.func177 rfl rfl yO.2 rfl ?_;dsimp only[yO,zcX,Nat.reduceAdd];have F:=@Kg;repeat' (first
   |(apply zcP ?_;clear hK K)|apply Ry.o ?_|(apply az (fun z V=>?_) (fun z V=>?_)<;>try(cases z;done))|apply ak ?_|(apply zcQ fun K hK=>?_)|apply zcR ?_|fail)
  refine a4 rfl a6 a7 ?_;simp only[bB];refine aZ ?_ (nz U (j.alloc _) (Y.alloc _) ⟨22,0,[c,a,b]⟩ rfl ik Y.next (cQ _) W.2.2 W.1 W.2.1 g rfl rfl);intro w C I;obtain⟨rfl,m⟩:=id I;dsimp only[zc5];repeat' (first
   |(apply zcP ?_;clear hK K)|apply Rx.o ?_|apply am ?_)
  all_goals (refine⟨zcT,_,zcU,?_⟩;try simp only[zcS])
  exact I
theorem zny{tb:List En}(W:LowT tb){X:Lx}{H O:Hp}{S:Nat->Prop}{s:Bd}{I Z:AV}(j:RepL X O S s I Z)(F:FrL X S Z H S Z O)(k:Nat)(i:Int){a:Ar}(ha:X.p.arrays[k]?=some a)(U:Fin (tq a.len i s)):
 zc2 Tryz.prog (zcW pls tb) 139 [.ptr X.b 0,.int .i64 (k:Int),.int .i64 i] O (Kd X S Z H (tq a.len i s)):=by
 have J:Plain (zcW pls tb) 139:=W.plain dt;have zeo:=j.m;unfold lc at zeo;have g:Fin (zee ⟨19,0,[i,(zee ⟨1,a.len,[]⟩ s).1]⟩ (zee ⟨1,a.len,[]⟩ s).2).2:=U.le (yN _ _ _).le;have V:Fin (zee ⟨1,a.len,[]⟩ s).2:=g.le (zfh _ _).le;refine zf (M:=25) (rs:=[]) (J.call _) J.ice J.froz Tryz.func139 rfl rfl Kb.2 rfl ?_;dsimp only[Kb,zcX,Nat.reduceAdd];repeat' (first
  |apply Rx.o ?_|apply ak ?_|(apply zcQ fun K hK=>?_)|fail)
 refine a4 rfl a6 a7 ?_;simp only[bB];refine aZ ?_ (yP W j F a.len V);rintro w H2 ⟨rfl,S2,C,L,A⟩;dsimp only[zc5];have Y:=L.new (aM _);have gh0:=@yQ;repeat' (first
  |(apply zcP ?_;clear hK K)|apply Rx.o ?_|(apply zcQ fun K hK=>?_)|fail)
 refine a4 rfl a6 a7 ?_;simp only[bB];refine aZ ?_ (nz W (L.alloc _) ((fq _ _ _ _).alloc _) ⟨19,0,[i,(zee ⟨1,a.len,[]⟩ s).1]⟩ rfl ik (aM _) (cQ _) Y.2.2 Y.1 Y.2.1 g rfl rfl);rintro w H3 ⟨rfl,S3,z,o,F3⟩;dsimp only[zc5];repeat' (first
  |(apply zcP ?_;clear hK K)|fail)
 refine a4 rfl a6 a7 ?_;simp only[bB];refine aZ ?_ (CO W o (fq _ _ _ _) 2 _ U);rintro w H4 ⟨S4,m,R4,F4⟩;dsimp only[zc5];repeat' (first
  |(apply zcP ?_;clear hK K)|fail)
 all_goals (refine⟨zcT,_,zcU,?_⟩;try simp only[zcS])
 exact⟨S4,m,R4,A.trans (F3.trans F4)⟩
end
section
def tyLoD.tyF:=ad @cP (ad @b7 (ad @dz (ad @ei (ad @eT (ad @jY (ad @iH (ad @gC (ad @qB (ad @uK (ad @yQ (@bI1)))))))))))
open tyLoD
noncomputable def lH:{c:SC // aB 110 (Tryz.f92.body.getD .skip)=c}:=by
 refine⟨?_,?_⟩;rotate_left
 .simp only[Tryz.f92,a8,aB,zda,zc9,zdc,zdd,Nat.blt,Nat.ble];rfl
noncomputable def Ki:{c:SC // aB 58 (Tryz.f140.body.getD .skip)=c}:=by
 refine⟨?_,?_⟩;rotate_left
 .simp only[Tryz.f140,a8,aB,zda,zc9,zdc,zdd,Nat.blt,Nat.ble];rfl
structure CxOk (X:Lx) (c:Cx):Prop where
 ar:c.arrays=X.p.arrays
 ae:∀nm,en X.ae nm=ku (c.arrays.map (·.name)) nm
 ne:∀nm,en X.ne nm=ku c.names nm
 fe:∀nm,0<=jo c.funcs nm 0->en X.fe nm=jo c.funcs nm 0
theorem FrL.box{X:Lx}{O Z:Hp}{S W:Nat->Prop}{s:Bd}{V Y K:AV}(j:RepL X O S s V Y){b:HB}(h:FrL X S Y (O.alloc b) W K Z):Z.get O.next=some b:=by
 have n:=j.new (aM _);have C:=j.o3;have U:=j.o4;rw[h.get _ (cQ _) (by have:=n.2.2;omega) (by have:=n.2.2;omega) n.1 n.2.1,zcY,ay rfl]
def nA:=@FrL.box
theorem RepL.lkN{X:Lx}{c:Cx}(g:CxOk X c){H:Hp}{S:Nat->Prop}{s:Bd}{O K:AV}(j:RepL X H S s O K)(nm:zdE):zeY Tryz.prog H 110 (.map X.rn) (.str nm) false=some (.int .i64 (ku c.names nm)):=by
 rw[<-g.ne];exact EK (P:=Tryz.prog) Tryz.underlying110 zfM CN j.n nm
theorem RepL.lkA{X:Lx}{c:Cx}(g:CxOk X c){H:Hp}{S:Nat->Prop}{s:Bd}{O K:AV}(j:RepL X H S s O K)(nm:zdE):zeY Tryz.prog H 110 (.map X.ra) (.str nm) false=some (.int .i64 (ku (c.arrays.map (·.name)) nm)):=by
 rw[<-g.ae];exact EK (P:=Tryz.prog) Tryz.underlying110 zfM CN j.a nm
theorem RepL.atV{X:Lx}{H:Hp}{S:Nat->Prop}{s:Bd}{O K:AV}(h:RepL X H S s O K){i:Nat}{x:Int}(C:s.vars[i]?=some x):∃r,zdn Tryz.prog 23 K (.int .i64 (i:Int))=some (.ptr r i)/\zep Tryz.prog H 3 (.ptr r i)=some (.int .i64 x):=by
 have z:i<s.vars.length:=by
  by_cases c:i<s.vars.length
  .exact c
  .rw[fL ac]at C;cases C
 obtain⟨r,Z,g,_⟩:=h.setV z 0;refine⟨r,Z,?_⟩;rw[g,cH,C];rfl
set_option maxRecDepth 100000 in
theorem Kj{tb:List En}(W:LowT tb){X:Lx}{c:Cx}(hX:CxOk X c):∀(n:Nat) (x:Ex) (s:Bd) (r:Int×Bd),kS c n x s=some r->Fin r.2->∀{H H1:Hp}{S:Nat->Prop}{lv vv:AV},RepL X H1 S s lv vv->FrL X S vv H S vv H1 ->
 zc2 Tryz.prog (zcW pls tb) 92 [.ptr X.b 0,.agg x.cells] H1 (ny X S vv H r)
 |0,x,s,r,h,_,_,_,_,_,_,_,_=>by simp[kS]at h
 |n+1,x,s,r,h,hF,H,H1,S,lv,vv,hR,hf=>by
  have IH:=Kj W hX n;have J:Plain (zcW pls tb) 92:=W.plain dt;have hwc:Plain (zcW pls tb) 140:=W.plain dt;have i:=hR.alloc (.cells x.cells 0 true);have F1:=hf.alloc (.cells x.cells 0 true);have zeo:=i.m;unfold lc at zeo;have nw:=hR.new (aM _);unfold kS at h;by_cases h1:x.kind=1
  .rw[ay h1,aA]at h;subst h;refine zf (M:=110) (rs:=[.tmp 4]) (J.call _) J.ice J.froz Tryz.func92 rfl rfl lH.2 rfl ?_;dsimp only[lH,zcX,Nat.reduceAdd];repeat' (first
    |(apply zcP ?_;clear hK K)|apply Ry.o ?_|(apply az (fun z V=>?_) (fun z V=>?_)<;>try(cases z;done))|apply ak ?_|(apply zcQ fun K hK=>?_)|apply ax ?_|fail)
   refine a4 rfl a6 a7 ?_;simp only[bB];refine aZ ?_ (yP W i F1 x.n hF);intro w H2 h2;obtain⟨rfl,h3⟩:=id h2;dsimp only[zc5];repeat' (first
    |(apply zcP ?_;clear hK K)|apply Rx.o ?_|apply am ?_)
   all_goals (refine⟨zcT,_,zcU,?_⟩;try simp only[zcS])
   exact h2
  rw[ah h1]at h;by_cases h2:x.kind=2
  .rw[ay h2]at h;obtain⟨v,hv,rfl⟩:=my.1 h;have hlk:=i.lkN hX x.name;obtain⟨q,hix,hld⟩:=i.atV hv;refine zf (M:=110) (rs:=[.tmp 4]) (J.call _) J.ice J.froz Tryz.func92 rfl rfl lH.2 rfl ?_;dsimp only[lH,zcX,Nat.reduceAdd];repeat' (first
    |(apply zcP ?_;clear hK K)|apply Ry.o ?_|(apply az (fun z V=>?_) (fun z V=>?_)<;>try(cases z;done))|apply ak ?_|(apply zcQ fun K hK=>?_)|(apply zdG 5 [(3,14),(7,14),(9,14),(10,14),(12,14)] fun K hK=>?_)|(apply zdB ?_;try intro _)|(apply zdJ ?_ ?_<;>clear hK K)|apply b4 ?_|apply ax ?_|apply am ?_)
   all_goals first
    |exact zdj
    |skip
   all_goals (refine⟨zcT,_,zcU,?_⟩;try simp only[zcS])
   exact⟨rfl,S,lv,i,F1⟩
  rw[ah h2]at h;by_cases h3:x.kind=3
  .rw[ay h3]at h;simp only[cj,aA]at h;obtain⟨k,hk,zc0,he,a,ha,rfl⟩:=h;have ha':X.p.arrays[ku (c.arrays.map (·.name)) x.name]?=some a:=by rw[<-hX.ar];exact ha
   have hFc:Fin (tq a.len zc0.1 zc0.2):=hF.le (zfh _ _).le;have hlk1:=i.lkA hX x.name;refine zf (M:=110) (rs:=[.tmp 4]) (J.call _) J.ice J.froz Tryz.func92 rfl rfl lH.2 rfl ?_;dsimp only[lH,zcX,Nat.reduceAdd];repeat' (first
    |(apply zcP ?_;clear hK K)|apply Ry.o ?_|(apply az (fun z V=>?_) (fun z V=>?_)<;>try(cases z;done))|apply ak ?_|(apply zcQ fun K hK=>?_)|(apply zdG 7 [(2,5),(4,5),(9,5),(9,15),(11,5),(11,15),(12,5),(12,15)] fun K hK=>?_)|(apply zdB ?_;try intro _)|apply b4 ?_|apply ax ?_|fail)
   refine a4 rfl a6 a7 ?_;simp only[cG];refine aZ ?_ (IH k s zc0 he (hFc.le (J7 _ _ _).le) i (fq _ _ _ _));rintro v H2 ⟨rfl,S2,lv2,O,L⟩;have g2:=nA hR L;have m2:=O.m;unfold lc at m2;have hlk:=O.lkA hX x.name;have n2:H1.next+1<=H2.next:=L.next
   dsimp only[zc5];repeat' (first
    |apply Rx.o ?_|apply ak ?_|(apply zcQ fun K hK=>?_)|(apply zdB ?_;try intro _)|(apply zdJ ?_ ?_<;>clear hK K)|apply b4 ?_|fail)
   .exact zdj
   .refine a4 rfl a6 a7 ?_;simp only[bB];refine aZ ?_ (zny W O (fq _ _ _ _) (ku (c.arrays.map (·.name)) x.name) zc0.1 ha' hFc);rintro w H3 ⟨S3,lv3,F,F3⟩;have m3:=F.m;unfold lc at m3;have I:=F.new (aM _);dsimp only[zc5];repeat' (first
     |(apply zcP ?_;clear hK K)|apply Rx.o ?_|apply ak ?_|(apply zcQ fun K hK=>?_)|fail)
    refine a4 rfl a6 a7 ?_;simp only[bB];refine aZ ?_ (nz W (F.alloc _) ((fq _ _ _ _).alloc _) ⟨23,ku (c.arrays.map (·.name)) x.name,[(tq a.len zc0.1 zc0.2).state,zc0.1]⟩ rfl ik (aM _) (cQ _) I.2.2 I.1 I.2.1 hF rfl rfl);intro w H4 h4;have h5:=h4.pre (F1.trans (L.trans F3));obtain⟨rfl,h6⟩:=h4;dsimp only[zc5];repeat' (first
     |(apply zcP ?_;clear hK K)|apply Rx.o ?_|apply am ?_)
    all_goals (refine⟨zcT,_,zcU,?_⟩;try simp only[zcS])
    exact h5
  rw[ah h3]at h;by_cases h5:x.kind=5
  .rw[ay h5]at h;simp only[cj,aA]at h;obtain⟨zd3,hk0,zdg,e0,k1,hk1,zc0,e1,zdp,hk2,r2,e2,rfl⟩:=h;have hFt:Fin (zeK zdg.1 zc0.2.state (zeK zdg.1 zc0.1 r2.1 r2.2).2.state (zeK zdg.1 zc0.1 r2.1 r2.2).2).2:=hF.le ⟨vy _,aM _⟩;have hFv:Fin (zeK zdg.1 zc0.1 r2.1 r2.2).2:=hFt.le (yM _ _ _ _).le;have hF2:Fin r2.2:=hFv.le (yM _ _ _ _).le;have A:Fin zc0.2:=(hF2.le (vH c n _ _ _ e2).le).le ⟨vy _,aM _⟩;have o:Fin zdg.2:=A.le (vH c n _ _ _ e1).le;refine zf (M:=110) (rs:=[.tmp 4]) (J.call _) J.ice J.froz Tryz.func92 rfl rfl lH.2 rfl ?_;dsimp only[lH,zcX,Nat.reduceAdd];repeat' (first
    |(apply zcP ?_;clear hK K)|apply Ry.o ?_|(apply az (fun z V=>?_) (fun z V=>?_)<;>try(cases z;done))|apply ak ?_|(apply zcQ fun K hK=>?_)|apply ax ?_|fail)
   refine a4 rfl a6 a7 ?_;simp only[bB];have R1c:=i.alloc (.cells x.cells 0 true);have F1c:=F1.alloc (.cells x.cells 0 true);have main:zc2 Tryz.prog (zcW pls tb) 140 [.ptr X.b 0,.agg x.cells] (H1.alloc (.cells x.cells 0 true)) (ny X S vv H ((zeK zdg.1 zc0.1 r2.1 r2.2).1,{ (zeK zdg.1 zc0.2.state (zeK zdg.1 zc0.1 r2.1 r2.2).2.state (zeK zdg.1 zc0.1 r2.1 r2.2).2).2 with state:=(zeK zdg.1 zc0.2.state (zeK zdg.1 zc0.1 r2.1 r2.2).2.state (zeK zdg.1 zc0.1 r2.1 r2.2).2).1})):=by
    clear zeo nw;refine zf (M:=58) (rs:=[.tmp 4]) (hwc.call _) hwc.ice hwc.froz Tryz.func140 rfl rfl Ki.2 rfl ?_;dsimp only[Ki,zcX,Nat.reduceAdd];repeat' (first
     |(apply zcP ?_;clear hK K)|apply Ry.o ?_|apply ak ?_|(apply zcQ fun K hK=>?_)|fail)
    refine a4 rfl a6 a7 ?_;simp only[bB];refine aZ ?_ (IH zd3 s zdg e0 o R1c (fq _ _ _ _));rintro v H2 ⟨rfl,S2,lv2,O,L⟩;have g2:=nA i L;simp only[zc6]at g2;have m2:=O.m;unfold lc at m2;dsimp only[zc5];repeat' (first
     |(apply zcP ?_;clear hK K)|apply Ry.o ?_|apply ak ?_|(apply zcQ fun K hK=>?_)|fail)
    refine a4 rfl a6 a7 ?_;simp only[bB];refine aZ ?_ (IH k1 _ zc0 e1 A O (fq _ _ _ _));rintro v H3 ⟨rfl,S3,lv3,F,F3⟩;have g3:=nA i (L.trans F3);have m3:=F.m;obtain⟨R3s,F3s⟩:=F.setS zdg.2.state;have g3s:=nA i (L.trans (F3.trans F3s));simp only[zc6]at g3 g3s;unfold lc at m3;dsimp only[lc]at R3s F3s g3s;dsimp only[zc5];repeat' (first
     |(apply zcP ?_;clear hK K)|apply Ry.o ?_|apply bl ?_|apply ak ?_|(apply zcQ fun K hK=>?_)|fail)
    refine a4 rfl a6 a7 ?_;simp only[bB];refine aZ ?_ (IH zdp _ r2 e2 hF2 R3s (fq _ _ _ _));rintro v H4 ⟨rfl,S4,lv4,R4,F4⟩;dsimp only[zc5];repeat' (first
     |(apply zcP ?_;clear hK K)|apply Rx.o ?_|apply ak ?_|(apply zcQ fun K hK=>?_)|fail)
    refine a4 rfl a6 a7 ?_;simp only[bB];refine aZ ?_ (Kh W R4 (fq _ _ _ _) zdg.1 zc0.1 r2.1 hFv);rintro v H5 ⟨rfl,S5,lv5,R5,F5⟩;have m5:=R5.m;unfold lc at m5;dsimp only[zc5];repeat' (first
     |(apply zcP ?_;clear hK K)|apply Rx.o ?_|apply ak ?_|(apply zcQ fun K hK=>?_)|fail)
    refine a4 rfl a6 a7 ?_;simp only[bB];refine aZ ?_ (Kh W R5 (fq _ _ _ _) zdg.1 zc0.2.state _ hFt);rintro v H6 ⟨rfl,S6,C,R6,F6⟩;have m6:=R6.m;unfold lc at m6;dsimp only[zc5];repeat' (first
     |(apply zcP ?_;clear hK K)|apply Rx.o ?_|apply bE ?_|apply ak ?_|(apply zcQ fun K hK=>?_)|apply am ?_)
    all_goals (refine⟨zcT,_,zcU,?_⟩;try simp only[zcS])
    obtain⟨R7,F7⟩:=R6.setS (zeK zdg.1 zc0.2.state (zeK zdg.1 zc0.1 r2.1 r2.2).2.state (zeK zdg.1 zc0.1 r2.1 r2.2).2).1;exact⟨rfl,S6,C,R7,F1c.trans (L.trans (F3.trans (F3s.trans (F4.trans (F5.trans (F6.trans F7))))))⟩
   refine aZ ?_ main;intro w H2 h2;obtain⟨rfl,h3⟩:=id h2;dsimp only[zc5];repeat' (first
    |(apply zcP ?_;clear hK K)|apply Rx.o ?_|apply am ?_)
   all_goals (refine⟨zcT,_,zcU,?_⟩;try simp only[zcS])
   exact h2
  rw[ah h5]at h;simp only[cj]at h;obtain⟨zd3,hk0,zdg,e0,h⟩:=h;by_cases hz:x.kids.length=1
  .rw[ay hz,aA]at h;subst h;have o:Fin zdg.2:=hF.le (zfh _ _).le;have hz':((x.kids.length:Nat):Int)=1:=ac;refine zf (M:=110) (rs:=[.tmp 4]) (J.call _) J.ice J.froz Tryz.func92 rfl rfl lH.2 rfl ?_;dsimp only[lH,zcX,Nat.reduceAdd];repeat' (first
    |(apply zcP ?_;clear hK K)|apply Ry.o ?_|(apply az (fun z V=>?_) (fun z V=>?_)<;>try(cases z;done))|apply ak ?_|(apply zcQ fun K hK=>?_)|apply ax ?_|apply zcR ?_|fail)
   refine a4 rfl a6 a7 ?_;simp only[bB];refine aZ ?_ (IH zd3 s zdg e0 o i (fq _ _ _ _));rintro v H2 ⟨rfl,S2,lv2,O,L⟩;have g2:=nA hR L;have nw2:=O.new (aM _);dsimp only[zc5];repeat' (first
    |(apply zcP ?_;clear hK K)|apply Ry.o ?_|(apply az (fun z V=>?_) (fun z V=>?_)<;>try(cases z;done))|apply ak ?_|(apply zcQ fun K hK=>?_)|fail)
   refine a4 rfl a6 a7 ?_;simp only[bB];refine aZ ?_ (nz W (O.alloc _) ((fq _ _ _ _).alloc _) ⟨x.op,0,[zdg.1]⟩ rfl ik (aM _) (cQ _) nw2.2.2 nw2.1 nw2.2.1 hF rfl rfl);intro w H4 h4;have h5:=h4.pre (F1.trans L);obtain⟨rfl,h6⟩:=h4;dsimp only[zc5];repeat' (first
    |(apply zcP ?_;clear hK K)|apply Rx.o ?_|apply am ?_)
   all_goals (refine⟨zcT,_,zcU,?_⟩;try simp only[zcS])
   exact h5
  rw[ah hz]at h;simp only[cj,aA]at h;obtain⟨k1,hk1,zc0,e1,rfl⟩:=h;have hz':¬((x.kids.length:Nat):Int)=1:=ac;have Y:Fin (if x.op=7\/x.op=8 then tt zc0.1 zc0.2 else zc0.2):=hF.le (zfh _ _).le;have A:Fin zc0.2:=by
   split at Y
   .exact Y.le (J8 _ _).le
   .exact Y
  have o:Fin zdg.2:=A.le (vH c n _ _ _ e1).le;generalize hq:(if x.op=7\/x.op=8 then tt zc0.1 zc0.2 else zc0.2)=q at *;refine zf (M:=110) (rs:=[.tmp 4]) (J.call _) J.ice J.froz Tryz.func92 rfl rfl lH.2 rfl ?_;dsimp only[lH,zcX,Nat.reduceAdd];repeat' (first
   |(apply zcP ?_;clear hK K)|apply Ry.o ?_|(apply az (fun z V=>?_) (fun z V=>?_)<;>try(cases z;done))|apply ak ?_|(apply zcQ fun K hK=>?_)|apply ax ?_|apply zcR ?_|fail)
  refine a4 rfl a6 a7 ?_;simp only[bB];refine aZ ?_ (IH zd3 s zdg e0 o i (fq _ _ _ _));rintro v H2 ⟨rfl,S2,lv2,O,L⟩;have g2:=nA hR L;dsimp only[zc5];repeat' (first
   |(apply zcP ?_;clear hK K)|apply Ry.o ?_|(apply az (fun z V=>?_) (fun z V=>?_)<;>try(cases z;done))|apply ak ?_|(apply zcQ fun K hK=>?_)|apply zcR ?_|fail)
  refine a4 rfl a6 a7 ?_;simp only[bB];refine aZ ?_ (IH k1 _ zc0 e1 A O (fq _ _ _ _));rintro v H3 ⟨rfl,S3,lv3,F,F3⟩;have g3:=nA hR (L.trans F3);have j:=F1.trans (L.trans F3);dsimp only[zc5];by_cases hd:x.op=7\/x.op=8
  .rw[ay hd]at hq;subst hq;have hFq:Fin (zee ⟨16,0,[zc0.1,(zee ⟨1,0,[]⟩ zc0.2).1]⟩ (zee ⟨1,0,[]⟩ zc0.2).2).2:=Y.le (yN _ _ _).le;have hFz:Fin (zee ⟨1,0,[]⟩ zc0.2).2:=hFq.le (zfh _ _).le;rcases hd with h7|h8
   .repeat' (first
     |(apply zcP ?_;clear hK K)|apply Ry.o ?_|(apply aT (fun hg U=>?_) (fun hg U=>?_)<;>try(cases hg;done))|(apply az (fun z V=>?_) (fun z V=>?_)<;>try(cases z;done))|apply ak ?_|(apply zcQ fun K hK=>?_)|fail)
    refine a4 rfl a6 a7 ?_;simp only[bB];refine aZ ?_ (yP W F (fq _ _ _ _) 0 hFz);rintro v H4 ⟨rfl,S4,lv4,R4,F4⟩;have m:=R4.new (aM _);dsimp only[zc5];repeat' (first
     |apply Rx.o ?_|fail)
    refine a4 rfl a6 a7 ?_;simp only[bB];refine aZ ?_ (nz W (R4.alloc _) ((fq _ _ _ _).alloc _) ⟨16,0,[zc0.1,(zee ⟨1,0,[]⟩ zc0.2).1]⟩ rfl ik (aM _) (cQ _) m.2.2 m.1 m.2.1 hFq rfl rfl);rintro v H5 ⟨rfl,S5,lv5,R5,F5⟩;dsimp only[zc5];repeat' (first
     |(apply zcP ?_;clear hK K)|fail)
    refine a4 rfl a6 a7 ?_;simp only[bB];refine aZ ?_ (CO W R5 (fq _ _ _ _) 1 _ Y);rintro v H6 ⟨S6,C,R6,F6⟩;have F36:=F4.trans (F5.trans F6);have g6:=nA hR (L.trans (F3.trans F36));have Z:=R6.new (aM _);have R6':RepL X H6 S6 (tt zc0.1 zc0.2) C vv:=R6;dsimp only[zc5];repeat' (first
     |(apply zcP ?_;clear hK K)|apply Rx.o ?_|apply ak ?_|(apply zcQ fun K hK=>?_)|fail)
    refine a4 rfl a6 a7 ?_;simp only[bB];refine aZ ?_ (nz W (R6'.alloc _) ((fq _ _ _ _).alloc _) ⟨x.op,0,[zdg.1,zc0.1]⟩ rfl ik (aM _) (cQ _) Z.2.2 Z.1 Z.2.1 hF h7 rfl);intro w H7 g;have h5q:=g.pre (j.trans F36);obtain⟨rfl,h6q⟩:=g;dsimp only[zc5];repeat' (first
     |(apply zcP ?_;clear hK K)|apply Rx.o ?_|apply am ?_)
    all_goals (refine⟨zcT,_,zcU,?_⟩;try simp only[zcS])
    rw[h7]at h5q⊢;exact h5q
   .have h7:¬x.op=7:=by omega
    repeat' (first
     |(apply zcP ?_;clear hK K)|apply Ry.o ?_|(apply aT (fun hg U=>?_) (fun hg U=>?_)<;>try(cases hg;done))|(apply az (fun z V=>?_) (fun z V=>?_)<;>try(cases z;done))|apply ak ?_|(apply zcQ fun K hK=>?_)|fail)
    refine a4 rfl a6 a7 ?_;simp only[bB];refine aZ ?_ (yP W F (fq _ _ _ _) 0 hFz);rintro v H4 ⟨rfl,S4,lv4,R4,F4⟩;have m:=R4.new (aM _);dsimp only[zc5];repeat' (first
     |apply Rx.o ?_|fail)
    refine a4 rfl a6 a7 ?_;simp only[bB];refine aZ ?_ (nz W (R4.alloc _) ((fq _ _ _ _).alloc _) ⟨16,0,[zc0.1,(zee ⟨1,0,[]⟩ zc0.2).1]⟩ rfl ik (aM _) (cQ _) m.2.2 m.1 m.2.1 hFq rfl rfl);rintro v H5 ⟨rfl,S5,lv5,R5,F5⟩;dsimp only[zc5];repeat' (first
     |(apply zcP ?_;clear hK K)|fail)
    refine a4 rfl a6 a7 ?_;simp only[bB];refine aZ ?_ (CO W R5 (fq _ _ _ _) 1 _ Y);rintro v H6 ⟨S6,C,R6,F6⟩;have F36:=F4.trans (F5.trans F6);have g6:=nA hR (L.trans (F3.trans F36));have Z:=R6.new (aM _);have R6':RepL X H6 S6 (tt zc0.1 zc0.2) C vv:=R6;dsimp only[zc5];repeat' (first
     |(apply zcP ?_;clear hK K)|apply Rx.o ?_|apply ak ?_|(apply zcQ fun K hK=>?_)|fail)
    refine a4 rfl a6 a7 ?_;simp only[bB];refine aZ ?_ (nz W (R6'.alloc _) ((fq _ _ _ _).alloc _) ⟨x.op,0,[zdg.1,zc0.1]⟩ rfl ik (aM _) (cQ _) Z.2.2 Z.1 Z.2.1 hF h8 rfl);intro w H7 g;have h5q:=g.pre (j.trans F36);obtain⟨rfl,h6q⟩:=g;dsimp only[zc5];repeat' (first
     |(apply zcP ?_;clear hK K)|apply Rx.o ?_|apply am ?_)
    all_goals (refine⟨zcT,_,zcU,?_⟩;try simp only[zcS])
    rw[h8]at h5q⊢;exact h5q
  .rw[ah hd]at hq;subst hq;have h7:¬x.op=7:=fun e=>hd (.inl e);have h8:¬x.op=8:=fun e=>hd (.inr e);have I:=F.new (aM _);repeat' (first
    |(apply zcP ?_;clear hK K)|apply Ry.o ?_|(apply aT (fun hg U=>?_) (fun hg U=>?_)<;>try(cases hg;done))|(apply az (fun z V=>?_) (fun z V=>?_)<;>try(cases z;done))|apply ak ?_|(apply zcQ fun K hK=>?_)|apply zcR ?_|fail)
   refine a4 rfl a6 a7 ?_;simp only[bB];refine aZ ?_ (nz W (F.alloc _) ((fq _ _ _ _).alloc _) ⟨x.op,0,[zdg.1,zc0.1]⟩ rfl ik (aM _) (cQ _) I.2.2 I.1 I.2.1 hF rfl rfl);intro w H4 h4;have h5:=h4.pre j;obtain⟨rfl,h6⟩:=h4;dsimp only[zc5];repeat' (first
    |(apply zcP ?_;clear hK K)|apply Rx.o ?_|apply am ?_)
   all_goals (refine⟨zcT,_,zcU,?_⟩;try simp only[zcS])
   exact h5
end
section
def tyLoE.tyF:=ad @b7 (ad @lw (ad @dz (ad @ei (ad @eT (ad @jY (ad @iG (ad @iH (ad @gC (ad @qB (ad @uK (ad @xo (@jF))))))))))))
open tyLoE
theorem yR{q n m:Nat}(M:m<n):zdn Tryz.prog 121 (.sl q 0 n 1) (.int .i64 (m:Int))=some (.ptr q m):=by rw[mK Tryz.underlying121 xj M];simp
theorem CP{H:Hp}{r m:Nat}{b:List Bool}(A:H.get r=some (.cells (b.map .bool) 0 true))(M:m<b.length)(x:Bool):zeP Tryz.prog H 4 (.ptr r m) (.bool x)=some (H.set r (.cells ((b.set m x).map .bool) 0 true)):=by
 rw[Xj A (by rw[cX];exact M),n0]
end
section
def tyLoF.tyF:=ad @cP (ad @b7 (ad @dz (ad @ei (ad @eT (ad @jY (ad @iG (ad @iH (ad @gC (ad @qB (ad @uK (ad @jF (ad @Kg (@yQ)))))))))))))
open tyLoF
noncomputable def yS:{c:SC // aB 155 (Tryz.f138.body.getD .skip)=c}:=by
 refine⟨?_,?_⟩;rotate_left
 .simp only[Tryz.f138,a8,aB,zda,zc9,zdc,zdd,Nat.blt,Nat.ble];rfl
section
variable {tb:List En} (hG:LowT tb) {X:Lx} {c:Cx} (hX:CxOk X c) {x:St} {s:Bd} {H:Hp} {S:Nat -> Prop} {lv vv:AV}
set_option maxRecDepth 100000 in
set_option maxHeartbeats 4000000 in
include hG hX in
theorem zcO(hk:x.kind=1){n:Nat}{r:Int×Bd}(A:kS c n x.value s=some r)(z:ku c.names x.name<r.2.vars.length)(hF:Fin r.2)(j:RepL X H S s lv vv):
 zc2 Tryz.prog (zcW pls tb) 138 [.ptr X.b 0,.agg x.cells] H (Kc X S vv H {r.2 with vars:=r.2.vars.set (ku c.names x.name) r.1}):=by
 have U:Plain (zcW pls tb) 138:=hG.plain dt;have i:=j.alloc (.cells x.cells 0 true);have F1:=(fq X S vv H).alloc (.cells x.cells 0 true);have zeo:=i.m;unfold lc at zeo;have hlk1:=i.lkN hX x.name;have O:=vH c n _ _ _ A;have I:ku c.names x.name<s.vars.length:=by rw[<-O.v];exact z
 obtain⟨q,F,hld,_⟩:=i.setV I r.1;refine zf (M:=155) (rs:=[]) (U.call _) U.ice U.froz Tryz.func138 rfl rfl yS.2 rfl ?_;dsimp only[yS,zcX,Nat.reduceAdd];repeat' (first
  |(apply zcP ?_;clear hK K)|apply Ry.o ?_|(apply az (fun m V=>?_) (fun m V=>?_)<;>try(cases m;done))|apply ak ?_|(apply zcQ fun K hK=>?_)|(apply zdG 3 [(3,14),(3,16),(7,14),(7,16),(9,14),(9,16),(10,14),(10,16),(13,14)] fun K hK=>?_)|(apply zdB ?_;try intro _)|apply b4 ?_|apply ax ?_|fail)
 refine a4 rfl a6 a7 ?_;simp only[cG];refine aZ ?_ (Kj hG hX n x.value s r A hF i (fq _ _ _ _));rintro v H2 ⟨rfl,S2,Z,Y,L⟩;have g2:=nA j L;have m2:=Y.m;unfold lc at m2;have hlk2:=Y.lkN hX x.name;obtain⟨q',J,g,H3,hst,hq1,hq2,o,W,F3,o3,n3⟩:=Y.setV z r.1;have C:q'=q:=by
  rw[F]at J;simp only[aA,AV.ptr.injEq]at J;exact J.1.symm
 subst C;have n2:H.next+1<=H2.next:=L.next
 have m3:=W.m;have hlk3:=W.lkN hX x.name;have g3:H3.get H.next=some (.cells x.cells 0 true):=by rw[o3 _ (by have:=j.new (aM _);intro e;subst e;exact this.2.1 o)];exact g2
 dsimp only[lc]at m3;dsimp only[zc5];repeat' (first
  |apply Rx.o ?_|apply bE ?_|(apply zdB ?_;try intro _)|(apply zdJ ?_ ?_<;>clear hK K)|apply b4 ?_|apply zfc rfl ?_|fail)
 .exact zdj
 .all_goals (refine⟨zcT,_,zcU,?_⟩;try simp only[zcS])
  exact⟨S2,Z,vv,W,F1.trans (L.trans F3)⟩
set_option maxRecDepth 100000 in
set_option maxHeartbeats 4000000 in
include hG hX in
set_option maxRecDepth 100000 in
set_option maxHeartbeats 4000000 in
include hG hX in
set_option maxRecDepth 100000 in
set_option maxHeartbeats 4000000 in
include hG in
set_option maxRecDepth 100000 in
set_option maxHeartbeats 4000000 in
include hG in
theorem lst0(h1:¬x.kind=1)(h2:¬x.kind=2)(m:¬x.kind=3)(U:¬x.kind=4)(Y:¬x.kind=5)(F:¬x.kind=6)(I:¬x.kind=7)(j:RepL X H S s lv vv):
 zc2 Tryz.prog (zcW pls tb) 138 [.ptr X.b 0,.agg x.cells] H (Kc X S vv H s):=by
 have J:Plain (zcW pls tb) 138:=hG.plain dt;have i:=j.alloc (.cells x.cells 0 true);have Z:=(fq X S vv H).alloc (.cells x.cells 0 true);refine zf (M:=155) (rs:=[]) (J.call _) J.ice J.froz Tryz.func138 rfl rfl yS.2 rfl ?_;dsimp only[yS,zcX,Nat.reduceAdd];repeat' (first
  |(apply zcP ?_;clear hK K)|apply Ry.o ?_|(apply az (fun z V=>?_) (fun z V=>?_)<;>try(cases z;done))|apply ak ?_|(apply zcQ fun K hK=>?_)|apply ax ?_|apply zcR ?_|fail)
 all_goals (refine⟨zcT,_,zcU,?_⟩;try simp only[zcS])
 exact⟨S,lv,vv,i,Z⟩
end
end
section
namespace tyLoH
end tyLoH
open tyLoH
theorem Kk{H:Hp}{r imm m:Nat}{b:List Bool}(A:H.get r=some (.cells (b.map .bool) imm true))(M:m<b.length):zep Tryz.prog H 4 (.ptr r m)=some (.bool (b.getD m false)):=by
 rw[qo Tryz.underlying4 rfl A,ea,cH,aO M];rfl
section
variable {tb:List En} (hG:LowT tb) {X:Lx} {c:Cx} (hX:CxOk X c) {x:St} {s:Bd} {H:Hp} {S:Nat -> Prop} {lv vv:AV}
set_option maxRecDepth 100000 in
set_option maxHeartbeats 8000000 in
include hG hX in
end
end
section
def ge(f:Nat->Bool):List Bool:=(List.range 16).map f
theorem tx(f:Nat->Bool):(ge f).length=16:=by simp[ge]
theorem vI{f g:Nat->Bool}(h:∀t,t<16->f t=g t):ge f=ge g:=List.map_congr_left fun t C=>h t (iY.1 C)
theorem Kl(f:Nat->Bool)(j:Nat)(x:Bool):(ge f).set j x=ge (fun t=>if t=j then x else f t):=by
 apply List.ext_getElem?;intro t;by_cases h:t<16
 .rw[mB,tx,ge,ge,ea,ea,zH h];by_cases e:j=t
  .subst e;simp[h]
  .rw[ah e];have O:¬t=j:=fun h=>e h.symm;simp[O]
 .rw[fL (by rw[kK,tx];omega),fL (by rw[tx];omega)]
def tz(n:Nd)(h:List (List Bool))(p:Int×Nat)(t:Nat):Bool:=(h.getD p.1.toNat []).getD t false&&(!decide (n.op=31) || !decide ((t:Int)=n.imm)||decide ((p.2:Int)<(n.kids.length:Int).tdiv 2))
def ou(n:Nd)(h:List (List Bool))(k t:Nat):Bool:=(n.kids.zipIdx.take k).any fun p=>tz n h p t
theorem ztA{n:Nd}{h:List (List Bool)}{k t:Nat}{x:Int}(F:n.kids[k]?=some x):ou n h (k+1) t=(ou n h k t||tz n h (x,k) t):=by
 unfold ou;rw[mz,List.getElem?_zipIdx,F];simp
theorem Km(n:Nd)(h:List (List Bool))(t:Nat):(ou n h n.kids.length t||(decide (n.op=3)&&decide ((t:Int)=n.imm.tdiv 16)))=qY n h t:=by
 unfold ou qY tz;rw[eF aE]
def ju(H:Hp)(v:AV)(K:List (List Bool)):Prop:=(v=.nilS/\K=[])\/∃(q:Nat) (J:List Nat),v=.sl q 0 K.length 1/\q<H.next/\H.get q=some (.cells (J.map fun k=>AV.sl k 0 16 1) 0 true)/\J.length=K.length /\
 ∀(i k:Nat) (b:List Bool),J[i]?=some k->K[i]?=some b->k<H.next/\k≠q/\b.length=16/\H.get k=some (.cells (b.map .bool) 0 true)
theorem ju.keep{H H':Hp}{v:AV}{K:List (List Bool)}(h:ju H v K)(o:H.next<=H'.next)(A:∀k,k<H.next->H'.get k=H.get k):ju H' v K:=by
 rcases h with h|⟨q,J,W,g,m,U,V⟩
 .exact .inl h
 .refine .inr ⟨q,J,W,ac,by rw[A q g];exact m,U,fun i k b Y Z=>?_⟩;obtain⟨zd0,a2,a3,zeh⟩:=V i k b Y Z;exact⟨ac,a2,a3,by rw[A k zd0];exact zeh⟩
theorem ju.lt{H:Hp}{v:AV}{K:List (List Bool)}(h:ju H v K){q o m z:Nat}(e:v=.sl q o m z):q<H.next:=by
 rcases h with⟨h,_⟩|⟨C,J,i,g,_⟩
 .rw[h]at e;cases e
 .rw[i]at e;cases e;exact g
theorem ju.push{H:Hp}{v:AV}{Z:List (List Bool)}(h:ju H v Z){x r imm:Nat}{b:List Bool}(F:x<H.next)(W:∀q o m z,v=.sl q o m z->x≠q)(V:H.get x=some (.cells (b.map .bool) 0 true))(O:b.length=16)(hr:H.get r=some (.cells [.sl x 0 16 1] imm true))(hl:Z.length<2^30):
 ∃I H',zen Tryz.prog false H 123 123 v (.sl r 0 1 1)=some (I,H')/\ju H' I (Z++[b])/\H'.next=H.next+1:=by
 have M:zef=70368744177664:=rfl;have C:zeN H 1 (.sl r 0 1 1)=some (0+1,[.sl x 0 16 1]):=by
  have:=lX (H:=H) (r:=r) (o:=0) (n:=1) (z:=1) (s:=1) hr aE;rw[this];rfl
 rcases h with⟨rfl,rfl⟩|⟨q,J,rfl,h2,h3,U,h5⟩
 .refine⟨.sl H.next 0 1 1,H.alloc (.cells [.sl x 0 16 1] 0 true),append_nil Tryz.underlying123 xn A6 A7 af C rfl rfl iJ iJ,.inr ⟨H.next,[x],rfl,cQ _,ik,rfl,fun i k c Y A=>?_⟩,rfl⟩;cases i with
  |zero=>
   simp only[oP,aA,lN]at Y A;subst Y;subst A;exact⟨CM F,ac,O,by rw[zcY,ah ac];exact V⟩
  |succ i=>simp at Y
 .have L:=W q 0 Z.length 1 rfl;refine⟨_,_,AG Tryz.underlying123 xn A6 A7 af C rfl rfl h3 (by rw[cX,U,gA]) iJ iJ,.inr ⟨H.next,J++[x],by rw[fv];rfl,cQ _,?_,by rw[fv,fv,U];rfl,fun i k c Y A=>?_⟩,rfl⟩
  .show((H.kill q).alloc _).get (H.kill q).next=_
   rw[zcY,ay rfl,qi];rfl
  .have K:∀k,k<H.next->k≠q->((H.kill q).alloc (.cells ((J.map fun k=>AV.sl k 0 16 1)++[.sl x 0 16 1]) 0 true)).get k=H.get k:=fun k e3 e4=>by
    rw[zcY,ah lA,zeI,ah e4]
   by_cases hi:i<J.length
   .rw[je hi]at Y;rw[je ac]at A;obtain⟨zd0,a2,a3,zeh⟩:=h5 i k c Y A;exact⟨CM zd0,ac,a3,by rw[K k zd0 a2];exact zeh⟩
   .rw[jS ac]at Y;rw[jS ac,<-U]at A;cases g:i-J.length with
    |zero=>
     rw[g]at Y A;simp only[oP,aA]at Y A;subst Y;subst A;exact⟨CM F,ac,O,by rw[K _ F L];exact V⟩
    |succ j=>rw[g]at Y;simp at Y
theorem bnB(H:Hp)(q:Nat):zej Tryz.prog H 123 1 [(0,.sl q 0 16 1)]=some (.sl H.next 0 1 1,H.alloc (.cells [.sl q 0 16 1] 0 true)):=af
theorem ju.at{H:Hp}{v:AV}{K:List (List Bool)}(h:ju H v K){i:Nat}(C:i<K.length):∃r k,zdn Tryz.prog 123 v (.int .i64 (i:Int))=some (.ptr r i)/\zep Tryz.prog H 121 (.ptr r i)=some (.sl k 0 16 1) /\
 H.get k=some (.cells ((K.getD i []).map .bool) 0 true)/\(K.getD i []).length=16:=by
 rcases h with⟨_,rfl⟩|⟨q,J,rfl,g,m,U,Y⟩
 .simp at C
 .have Z:i<J.length:=by omega
  obtain⟨zd0,a2,a3,zeh⟩:=Y i J[i] K[i] (aO Z) (aO C);refine⟨q,J[i],by rw[mK Tryz.underlying123 xn C];simp,?_,?_⟩
  .rw[qo Tryz.underlying121 rfl m,ea,aO Z];rfl
  .rw[cH,aO C];exact⟨zeh,a3⟩
def yT(K:List (List Bool)):AV:=.lst (K.map fun b=>[AV.lst (b.map fun x=>[AV.bool x])])
def tyVdB.tyF:=ad @cP (ad @b7 (ad @lw (ad @ei (ad @fd (ad @eT (ad @xo (ad @Fo (ad @mJ (@bnB)))))))))
open tyVdB
noncomputable def Kn:{c:SC // aB 77 (Tryz.f62.body.getD .skip)=c}:=by
 refine⟨?_,?_⟩;rotate_left
 .simp only[Tryz.f62,a8,aB,zda,zc9,zdc,zdd,Nat.blt,Nat.ble];rfl
def CQ(l:List Nd):Prop:=re l/\0<l.length
theorem zpS{l:List Nd}{i:Nat}{n:Nd}(o:l[i]?=some n):zew l (i+1)=zew l i++[ge (qY n (zew l i))]:=by rw[zew,o];rfl
theorem Ko(H:Hp)(n:Nat):∀b:List Bool,iceL (iceV H (n+1)) (b.map .bool)=some (b.map .bool)
 |[]=>rfl
 |x::b=>by
  have:=Ko H n b;have e:iceV H (n+1) (.bool x)=some (.bool x):=rfl;simp only[dO,iceL,e,this]
theorem Kp:∀b:List Bool,zeg 1 b.length (b.map AV.bool)=b.map fun x=>[AV.bool x]
 |[]=>rfl
 |x::b=>by
  have:=Kp b;simp only[dO,dl,zeg,BX,uX,uO,dW,this]
theorem zx1{H:Hp}{k:Nat}{b:List Bool}(h:H.get k=some (.cells (b.map .bool) 0 true))(z:b.length=16)(n:Nat):iceV H (n+2) (.sl k 0 16 1)=some (.lst (b.map fun x=>[AV.bool x])):=by
 have e:iceV H (n+2) (.sl k 0 16 1)=match H.get k with
  |some (.cells W _ _)=>match iceL (iceV H (n+1)) ((W.drop 0).take (16*1))with
   |some m=>if m.length=16*1 then some (.lst (zeg 1 16 m))else none
   |none=>none
  |_=>none:=rfl
 rw[e,h];simp only[dW,gA];rw[eF (by rw[cX,z];omega),Ko];simp only[cX,z,bS];rw[<-z,Kp]
theorem Kq{H:Hp}(n:Nat):∀(J:List Nat) (K:List (List Bool)),J.length=K.length->(∀(i k:Nat) (b:List Bool),J[i]?=some k->K[i]?=some b->b.length=16/\H.get k=some (.cells (b.map .bool) 0 true)) ->
 iceL (iceV H (n+2)) (J.map fun k=>AV.sl k 0 16 1)=some (K.map fun b=>AV.lst (b.map fun x=>[AV.bool x]))
 |[],[],_,_=>rfl
 |[],_::_,h,_=>by simp at h
 |_::_,[],h,_=>by simp at h
 |q::J,b::K,h,hr=>by
  obtain⟨Z,g⟩:=hr 0 q b rfl rfl;have ih:=Kq n J K iW (fun i k b Y A=>hr (i+1) k b (by simpa using Y) (by simpa using A));simp only[dO,iceL,zx1 g Z n,ih]
theorem chunk_rows:∀(K:List AV),zeg 1 K.length K=K.map fun x=>[x]
 |[]=>rfl
 |x::b=>by
  have:=chunk_rows b;simp only[dO,dl,zeg,BX,uX,uO,dW,this]
theorem ju.ice{H:Hp}{v:AV}{K:List (List Bool)}(h:ju H v K)(V:0<K.length):iceV H 4 v=some (yT K):=by
 rcases h with⟨_,rfl⟩|⟨q,J,rfl,g,W,U,Z⟩
 .simp at V
 .have e:iceV H 4 (.sl q 0 K.length 1)=match H.get q with
   |some (.cells O _ _)=>match iceL (iceV H 3) ((O.drop 0).take (K.length*1))with
    |some m=>if m.length=K.length*1 then some (.lst (zeg 1 K.length m))else none
    |none=>none
   |_=>none:=rfl
  rw[e,W];simp only[dW,gA];rw[eF (by rw[cX];omega),Kq 1 J K U (fun i k b Y A=>⟨(Z i k b Y A).2.2.1,(Z i k b Y A).2.2.2⟩)];simp only[cX,bS];have A:K.length=(K.map fun b=>AV.lst (b.map fun x=>[AV.bool x])).length:=by rw[cX]
  rw[A,chunk_rows,oL];rfl
theorem znz{P C:Nat->Bool}{j:Nat}(h:C j=true):(ge fun t=>P t||(decide (t<j)&&C t)).set j true=ge fun t=>P t||(decide (t<j+1)&&C t):=by
 rw[Kl];apply vI;intro t _;by_cases e:t=j
 .subst e;rw[ay rfl,h];simp
 .rw[ah e];have:decide (t<j)=decide (t<j+1):=by rw[kM];omega
  rw[this]
theorem Kr{P C:Nat->Bool}{j:Nat}(h:C j=false):(ge fun t=>P t||(decide (t<j)&&C t))=ge fun t=>P t||(decide (t<j+1)&&C t):=by
 apply vI;intro t _;by_cases e:t=j
 .subst e;rw[h];simp
 .have:decide (t<j)=decide (t<j+1):=by rw[kM];omega
  rw[this]
theorem Ks:(List.replicate 16 false:List Bool)=ge fun _=>false:=dD
set_option maxRecDepth 100000 in
theorem zpT(ρ:Nat->Int)(l:List Nd)(hl:CQ l):bh Tryz.prog ρ 62 [zd2 l] (yT (zew l l.length)):=zfE (m:=4) (cfg:=zcW pls []) fit (ll ρ) (fb.look trivial) (.cons (zfr _) .nil) (by
 obtain⟨⟨hnd,hok⟩,hpos⟩:=hl;have hl1:=hnd.1;have hw:=zed 62;have hkeep:(zcW pls []).keep 62=false:=rfl;have q2:(2:Int)≠0:=dD;have q16:(16:Int)≠0:=dD;have hmk:∀H:Hp,zeA Tryz.prog H 121 (.int .i64 16) (.int .i64 16)=some (.sl H.next 0 16 1,H.alloc (.cells ((ge fun _=>false).map .bool) 0 true)):=fun H=>by rw[<-Ks];exact Gu 16 ac
 refine zf (M:=77) (rs:=[.tmp 2]) (hw.call _) hw.ice hw.froz Tryz.func62 rfl rfl Kn.2 rfl ?_;dsimp only[Kn,zcX,Nat.reduceAdd];repeat' (first
  |(apply zcP ?_;clear hK K)|apply Rx.o ?_|apply ak ?_|(apply zcQ fun K hK=>?_)|apply ax ?_|fail)
 refine zdN [0,2] [] 4 l.length (fun i E H=>∃v,E.at 3=v/\ju H v (zew l i)) eE ⟨.nilS,eE,.inl ⟨rfl,rfl⟩⟩ ?_;rintro i E Y hi W U O hsI ⟨v,k3,hv⟩;(try simp only[zdh,zdb,a1,zc3,zde,Nat.reduceBEq, *]at W);(try simp only[zdb, *]at U);(try simp only[zdK,]at O);by_cases hlt:i<l.length
 .have hlt':(i:Int)<l.length:=by omega
  have hgx:l[i]?=some l[i]:=aO hlt;have hon:=hok i _ hgx;have hnk:=hnd.2 _ (dx hlt);have hrow:=zpS hgx;have hhl:=pg l i;generalize l[i]=n at *;generalize zew l i=h at *;repeat' (first
   |(apply zcP ?_;clear hK K)|apply Ry.o ?_|apply bl ?_|(apply az (fun Z V=>?_) (fun Z V=>?_)<;>try(cases Z;done))|apply ak ?_|(apply zcQ fun K hK=>?_)|apply ax ?_|apply zcR ?_|fail)
  generalize L:Hp.set (Hp.alloc _ _) _ _=Hb;have nb:Y.next+2<=Hb.next:=by rw[<-L];exact aM _
  have F:Hb.get Y.next=some (.cells ((ge fun t=>ou n h 0 t).map .bool) 0 true):=by
   rw[<-L,aX,ah vu,zcY,ah vu,zcY,ay rfl]
   congr 2
  have g5:Hb.get (Y.next+1)=some (.cells n.cells 0 true):=by rw[<-L,aX,ay rfl]
  have C:∀x,x<Y.next->Hb.get x=Y.get x:=fun x hx=>by rw[<-L,aX,ah vu,zcY,ah vu,zcY,ah ac]
  clear L;refine zdN [0,2,3,4,5,6] [] 7 n.kids.length (fun k E H=>H.get Y.next=some (.cells ((ge fun t=>ou n h k t).map .bool) 0 true)/\H.get (Y.next+1)=some (.cells n.cells 0 true)/\∀x,x<Y.next->H.get x=Y.get x) eE ⟨F,g5,C⟩ ?_;clear F g5 C;rintro k E3 H3 hk W U O hsI ⟨F,g5,C⟩;(try simp only[zdh,zdb,a1,zc3,zde,Nat.reduceBEq, *]at W);(try simp only[zdb, *]at U);(try simp only[zc6,zdm,zdK,bz,Nat.reduceAdd]at O);have hv3:ju H3 v h:=hv.keep ac C;by_cases hkt:k<n.kids.length
  .have hkt':(k:Int)<n.kids.length:=by omega
   have hgy:n.kids[k]?=some n.kids[k]:=aO hkt;obtain⟨d0,d1⟩:=hon.kids _ (dx hkt);have hsucc:=fun t=>ztA (n:=n) (h:=h) (t:=t) hgy;generalize n.kids[k]=kd at *;obtain⟨d,rfl⟩:=eI d0;repeat' (first
    |(apply zcP ?_;clear hK K)|apply Ry.o ?_|(apply az (fun Z V=>?_) (fun Z V=>?_)<;>try(cases Z;done))|apply ak ?_|(apply zcQ fun K hK=>?_)|apply ax ?_|apply zcR ?_|fail)
   refine zdN [0,2,3,4,5,6,7] [] 8 16 (fun j E H=>H.get Y.next=some (.cells ((ge fun t=>ou n h k t||(decide (t<j)&&tz n h ((d:Int),k) t)).map .bool) 0 true)/\H.get (Y.next+1)=some (.cells n.cells 0 true)/\∀x,x<Y.next->H.get x=Y.get x) eE ⟨t8,g5,C⟩ ?_;clear F g5 C hv3;rintro j E4 H4 hj W U O hsI ⟨gc,g6,fc⟩;(try simp only[zdh,zdb,a1,zc3,Nat.reduceBEq, *]at W);(try simp only[zdb, *]at U);(try simp only[zc6,zdm,zdK,bz,Nat.reduceAdd]at O);have n4:Y.next+2<=H4.next:=ac
   have hv4:ju H4 v h:=hv.keep ac fc;obtain⟨r,w,hix,hld,hgw,hbl⟩:=hv4.at (i:=d) ac;have e1:IntKind.wrap .i64 ((n.kids.length:Int).tdiv 2)=(n.kids.length:Int).tdiv 2:=by
    rw[kN ac];exact zey ac ac
   by_cases hjt:j<16
   .have hjt':(j:Int)<16:=by omega
    have hixw:=yR (q:=w) hjt;have hlw:=Kk hgw (m:=j) ac;have hixq:=yR (q:=Y.next) hjt;have hst:=CP gc (m:=j) (by rw[tx];exact hjt) true;have J:tz n h ((d:Int),k) j=((h.getD d []).getD j false&&(!decide (n.op=31) || !decide ((j:Int)=n.imm)||decide ((k:Int)<(n.kids.length:Int).tdiv 2))):=by rw[tz,dQ]
    generalize (h.getD d []).getD j false=b at *;have hgo:∀x,((H4.set Y.next x).get (Y.next+1)=some (.cells n.cells 0 true))/\∀y,y<Y.next->(H4.set Y.next x).get y=Y.get y:=fun x=>⟨by rw[aX,ah ac];exact g6,fun y hy=>by rw[aX,ah ac];exact fc y hy⟩
    cases b with
    |false=>
     rw[dX]at J;repeat' (first
      |(apply zcP ?_;clear hK K)|apply Ry.o ?_|apply Ry.gu ?_|(apply aT (fun A I=>?_) (fun A I=>?_)<;>try(cases A;done))|(apply az (fun Z V=>?_) (fun Z V=>?_)<;>try(cases Z;done))|apply ak ?_|(apply zcQ fun K hK=>?_)|apply ax ?_|apply zcR ?_|fail)
     refine⟨ac,eL,eL,eN,tv,?_⟩;exact⟨by rw[<-Kr J];exact gc,g6,fc⟩
    |true=>
    rw[dq]at J;by_cases h31:n.op=31
    .by_cases hji:n.imm=(j:Int)
     .by_cases hlv:(k:Int)<(n.kids.length:Int).tdiv 2
      .rw[cI hlv,yh]at J;repeat' (first
        |(apply zcP ?_;clear hK K)|apply Ry.o ?_|apply bl ?_|(apply aT (fun A I=>?_) (fun A I=>?_)<;>try(cases A;done))|(apply az (fun Z V=>?_) (fun Z V=>?_)<;>try(cases Z;done))|apply ak ?_|(apply zcQ fun K hK=>?_)|apply ax ?_|apply zcR ?_|fail)
       refine⟨ac,eL,eL,eN,tv,?_⟩;exact⟨CL,hgo _⟩
      .rw[cI h31,cI hji.symm,dd hlv]at J;repeat' (first
        |(apply zcP ?_;clear hK K)|apply Ry.o ?_|(apply aT (fun A I=>?_) (fun A I=>?_)<;>try(cases A;done))|(apply az (fun Z V=>?_) (fun Z V=>?_)<;>try(cases Z;done))|apply ak ?_|(apply zcQ fun K hK=>?_)|apply ax ?_|apply zcR ?_|fail)
       refine⟨ac,eL,eL,eN,tv,?_⟩;exact⟨by rw[<-Kr J];exact gc,g6,fc⟩
     .have hji':¬(j:Int)=n.imm:=fun e=>hji e.symm;rw[dd hji',gR,yh,mF]at J;clear hji;repeat' (first
       |(apply zcP ?_;clear hK K)|apply Ry.o ?_|apply bl ?_|(apply aT (fun A I=>?_) (fun A I=>?_)<;>try(cases A;done))|(apply az (fun Z V=>?_) (fun Z V=>?_)<;>try(cases Z;done))|apply ak ?_|(apply zcQ fun K hK=>?_)|apply ax ?_|apply zcR ?_|fail)
      refine⟨ac,eL,eL,eN,tv,?_⟩;exact⟨CL,hgo _⟩
    .rw[dd h31,gR,mF,mF]at J;repeat' (first
      |(apply zcP ?_;clear hK K)|apply Ry.o ?_|apply bl ?_|(apply aT (fun A I=>?_) (fun A I=>?_)<;>try(cases A;done))|(apply az (fun Z V=>?_) (fun Z V=>?_)<;>try(cases Z;done))|apply ak ?_|(apply zcQ fun K hK=>?_)|apply ax ?_|apply zcR ?_|fail)
     refine⟨ac,eL,eL,eN,tv,?_⟩;exact⟨CL,hgo _⟩
   .have hjt':¬(j:Int)<16:=by omega
    have hj16:j=16:=ac;subst hj16;repeat' (first
     |(apply zcP ?_;clear hK K)|apply Ry.o ?_|(apply az (fun Z V=>?_) (fun Z V=>?_)<;>try(cases Z;done))|apply ak ?_|(apply zcQ fun K hK=>?_)|apply zc4 ?_)
    refine⟨ac,eL,eL,eN,pe,?_⟩;refine⟨?_,g6,fc⟩;rw[gc]
    congr 3
    apply vI;intro t ht;rw[hsucc,cI ht,dq]
  .have hkt':¬(k:Int)<n.kids.length:=by omega
   have F:H3.get Y.next=some (.cells ((ge fun t=>ou n h n.kids.length t).map .bool) 0 true):=by
    rw[show n.kids.length=k by omega];exact F
   have n3:Y.next+2<=H3.next:=ac
   repeat' (first
    |(apply zcP ?_;clear hK K)|apply Ry.o ?_|apply ak ?_|(apply zcQ fun K hK=>?_)|fail)
   (apply aU (fun Z V=>?_) (fun Z V=>?_)<;>try(cases Z;done));repeat' (first
    |(apply zcP ?_;clear hK K)|apply Rx.o ?_|apply ak ?_|(apply zcQ fun K hK=>?_)|apply zc4 ?_)
   refine Br (fun E' H'=>E'.at 2=.nilS/\E'.at 0=zd2 l/\E'.at 3=v/\E'.at 4=.int .i64 i/\E'.at 5=.sl Y.next 0 16 1/\H'.get Y.next=some (.cells ((ge (qY n h)).map .bool) 0 true)/\H'.next=H3.next/\∀x,x<Y.next->H'.get x=Y.get x) ?_ ?_
   .by_cases h3:n.op=3
    .obtain⟨m0,zeo⟩:=hon.lv h3;have hd:n.imm.tdiv 16=n.imm/16:=kN m0;obtain⟨m,hm⟩:=eI (show 0<=n.imm.tdiv 16 by omega);have g:m<16:=ac;have ew:IntKind.wrap .i64 (m:Int)=m:=zey ac ac;have hixq:=yR (q:=Y.next) g;have hst:=CP F (m:=m) (by rw[tx];exact g) true;clear hd;repeat' (first
      |(apply zcP ?_;clear hK K)|apply Ry.o ?_|apply bl ?_|(apply az (fun Z V=>?_) (fun Z V=>?_)<;>try(cases Z;done))|(apply zcQ fun K hK=>?_)|fail)
     refine⟨rfl,eE,eE,eE,eE,eE,?_,rfl,fun x hx=>by rw[aX,ah ac];exact C x hx⟩;rw[aX,ay rfl,Kl]
     congr 3
     apply vI;intro t ht;rw[<-Km,cI h3,hm,dq];by_cases e:t=m
     .subst e;simp
     .rw[ah e,dd (show ¬(t:Int)=(m:Int) by omega),jH]
    .repeat' (first
      |(apply az (fun Z V=>?_) (fun Z V=>?_)<;>try(cases Z;done))|apply zcR ?_|fail)
     refine⟨rfl,eE,eE,eE,eE,eE,?_,rfl,C⟩;rw[F]
     congr 3
     apply vI;intro t ht;rw[<-Km,dd h3,dX,jH]
   clear F g5 C;rintro E5 H5 ⟨zdp,zd3,k3',zfs,zeL,g6,n5,f6⟩;dsimp only[kG];have n5':Y.next+2<=H5.next:=ac
   clear n5;have hv5:ju (H5.alloc (.cells [.sl Y.next 0 16 1] 0 true)) v h:=hv.keep gX fun x hx=>by rw[zcY,ah ac];exact f6 x hx
   obtain⟨v',H6,zfu,o6,n6⟩:=hv5.push (x:=Y.next) (r:=H5.next) (imm:=0) (b:=ge (qY n h)) gX (fun q o m z e=>by have:=hv.lt e;omega) (by rw[zcY,ah ac];exact g6) (tx _) iu ac;have n6':Y.next<=H6.next:=by simp only[zc6]at n6;omega
   clear n6 hv5;repeat' (first
    |(apply zcP ?_;clear hK K)|apply Rx.o ?_|(apply zcQ fun K hK=>?_)|fail)
   refine⟨ac,eL,eL,eN,jJ,?_⟩;exact⟨v',eE,by rw[hrow];exact o6⟩
 .have hlt':¬(i:Int)<l.length:=by omega
  repeat' (first
   |(apply zcP ?_;clear hK K)|apply Ry.o ?_|(apply az (fun Z V=>?_) (fun Z V=>?_)<;>try(cases Z;done))|apply ak ?_|(apply zcQ fun K hK=>?_)|apply am ?_|apply zc4 ?_)
  all_goals (refine⟨zcT,_,zcU,?_⟩;try simp only[zcS])
  have hie:i=l.length:=ac;subst hie;exact hv.ice (by rw[pg];exact hpos))
end
section
def kT(a:Ar):Bool:=zdC a.name&&(decide (1<=a.len)&&decide (a.len<=16))
def yU(u:Un):Bool:=(decide ((u.arrays.length:Int)<=4)&&decide ((u.funcs.length:Int)<=8))&&(u.arrays.all kT && !zdk [] (u.arrays.map Ar.name))&&(u.funcs.all (fun g=>zdC g.name) && !zdk [] (u.funcs.map Gr.name))
theorem Kt(U:List (List UInt8)):∀(K:List Gr) (seen:List (List UInt8)),pj U seen (K.map fF)=zdk seen (K.map Gr.name)
 |[],seen=>rfl
 |g::K,seen=>by
  rw[dO,pj,dO,zdk];show(zdi seen g.name||zdk U []||pj U (seen++[g.name]) (K.map fF))=_;rw[Kt U K];cases zdi seen g.name<;>simp[zdk]
theorem Ku(u:Un):decide (nj (gD u)=0)=yU u:=by
 have Y:s9 (gD u)=!(decide ((u.arrays.length:Int)<=4)&&decide ((u.funcs.length:Int)<=8)&&u.arrays.all fun a=>decide (1<=a.len)&&decide (a.len<=16)):=by
  unfold s9;have zd0:(gD u).arrays=u.arrays:=rfl;have a2:(gD u).funcs.length=u.funcs.length:=by simp[gD]
  have a3:(gD u).funcs.any rh=false:=by
   simp only[gD,List.any_map,uk];intro g _;have:rh (fF g)=false:=by simp[rh,fF,zeG,zeD,mS,oc,iL,qP]
   simp[this]
  rw[zd0,a2,a3,jH,yD,yD];have zeh:u.arrays.any vg=!(u.arrays.all fun a=>decide (1<=a.len)&&decide (a.len<=16)):=by
   rw[List.not_all_eq_any_not]
   congr 1
   funext a
   unfold vg;rw[yD]
   congr 1
   .rw[<-uZ,kM];omega
   .rw[<-uZ,kM];omega
  rw[zeh]
  congr 1
  congr 1
  .rw[<-uZ,kM];omega
  .rw[<-uZ,kM];omega
 have A:kh (gD u)=(u.arrays.all (fun a=>zdC a.name)&&u.funcs.all fun g=>zdC g.name):=by
  unfold kh;show(u.arrays.all _&&(u.funcs.map fF).all mg)=_;rw[List.all_map]
  congr 1
  congr 1
  funext g
  simp[mg,yl,fF,od,jK,ke,tc,Ex.kind,Ex.kids,Ex.name,Ex.op]
 have Z:te (gD u)=(zdk [] (u.arrays.map Ar.name)||zdk [] (u.funcs.map Gr.name)):=by
  unfold te;show(_||pj _ [] (u.funcs.map fF))=_;rw[Kt];rfl
 have o:(gD u).funcs.any (th (gD u))=false:=by
  simp only[gD,List.any_map,uk];intro g _;simp[th,fF,js,jL,og,ki,Ex.kind]
 have L:(gD u).funcs.any (vm (gD u))=false:=by
  simp only[gD,List.any_map,uk];intro g _;simp[vm,fF,js]
 have W:u.arrays.all kT=(u.arrays.all (fun a=>zdC a.name)&&u.arrays.all fun a=>decide (1<=a.len)&&decide (a.len<=16)):=by
  generalize u.arrays=z;induction z with
  |nil=>rfl
  |cons a z ih=>
   simp only[mV,ih,kT];cases zdC a.name<;>cases (decide (1<=a.len)&&decide (a.len<=16))<;>simp
 unfold nj yU;rw[Y,A,Z,o,L,W];generalize decide ((u.arrays.length:Int)<=4)=V;generalize decide ((u.funcs.length:Int)<=8)=C;generalize (u.arrays.all fun a=>decide (1<=a.len)&&decide (a.len<=16))=U;generalize u.arrays.all (fun a=>zdC a.name)=O;generalize u.funcs.all (fun g=>zdC g.name)=M;generalize zdk [] (u.arrays.map Ar.name)=F;generalize zdk [] (u.funcs.map Gr.name)=I;revert V C U O M F I;decide
def gE:List Nd->Int->Int
 |[],_=>0
 |n::l,m=>if n.op=31/\n.imm=m then (n.kids.length:Int).tdiv 2 else gE l m
structure LoopOk (n:Nd):Prop where
 i0:0<=n.imm
 i1:n.imm<=15
 odd:n.kids.length%2=1
 three:3<=n.kids.length
theorem LoopOk.lv{n:Nd}(h:LoopOk n):dR n.kids.length=(n.kids.length:Int).tdiv 2/\0<dR n.kids.length:=by
 have:=h.odd;have:=h.three;unfold dR;rw[kN ac,kN ac];omega
theorem CR:∀(l:List Nd) (t J:List Int),t.length=16->(∀n∈l,n.op=31->LoopOk n)->fQ l t=some J->J.length=16/\∀m:Nat,m<16->J.getD m 0=if 0<t.getD m 0 then t.getD m 0 else if gE l m=0 then t.getD m 0 else gE l m
 |[],t,J,hl,_,h=>by
  cases h;refine⟨hl,fun m Z=>?_⟩;simp[gE]
 |n::l,t,J,hl,hok,h=>by
  have M:∀n∈l,n.op=31->LoopOk n:=fun x F=>hok x (fl _ F);rw[fQ]at h;by_cases c:n.op=31
  .rw[ay c]at h;have V:=hok n e8 c;have O:=V.i0;have L:=V.i1;obtain⟨k,j⟩:=eI O;obtain⟨Y,W⟩:=V.lv;split at h
   .cases h
   .rename_i c2;obtain⟨i,g⟩:=CR l _ J (by simpa using hl) M h;refine⟨i,fun m Z=>?_⟩;rw[j,dQ]at c2 g;have U:=g m Z;rw[cH (l:=t.set _ _),mB]at U;rw[U,gE];by_cases e:k=m
    .subst e;rw[ay rfl,ay (show k<t.length by omega),ah c2,ay (show n.op=31/\n.imm=(k:Int)from⟨c,j⟩)];simp only[a8];rw[ay W,<-Y,ah ac]
    .rw[ah e,ah (fun h:n.op=31/\n.imm=(m:Int)=>e (by have:=h.2;omega)),<-cH]
  .rw[ah c]at h;obtain⟨i,g⟩:=CR l t J hl M h;refine⟨i,fun m Z=>?_⟩;rw[g m Z,gE,ah (fun h:n.op=31/\n.imm=(m:Int)=>c h.1)]
theorem rep_get(m:Nat):(List.replicate 16 (0:Int)).getD m 0=0:=by
 rw[cH,mX];split<;>rfl
def kU(l:List Nd)(n:Nd):Bool:=decide (n.op=3)&&decide (0<gE l (n.imm.tdiv 16))&&decide (gE l (n.imm.tdiv 16)<=n.imm.tmod 16)
theorem Kv{l:List Nd}{t:List Int}(O:∀n∈l,n.op=31->LoopOk n)(h:fQ l (List.replicate 16 0)=some t){n:Nd}(o:n.op=3->0<=n.imm/\n.imm<=255):kO t n=kU l n:=by
 obtain⟨_,g⟩:=CR l _ t aE O h;unfold kO kU;by_cases c:n.op=3
 .obtain⟨a,b⟩:=o c;obtain⟨k,j⟩:∃k:Nat,n.imm.tdiv 16=k:=eI (Int.tdiv_nonneg a ac);have K:k<16:=by rw[kN a]at j;omega
  have e:t.getD (n.imm.tdiv 16).toNat 0=gE l (n.imm.tdiv 16):=by
   rw[j,dQ,g k K,rep_get,ah ac];split
   .omega
   .rfl
  rw[e]
 .rw[dd c,dX,dX,dX,dX]
theorem zpU{l:List Nd}(O:∀n∈l,n.op=31->LoopOk n){n:Nd}(M:n∈l)(o:n.op=3->0<=n.imm/\n.imm<=255)(h:kU l n=true):ya l=false:=by
 unfold ya;split
 .rfl
 .rename_i t C;rw[Ch];exact⟨n,M,by rw[Kv O C o,h];simp⟩
theorem znA{l:List Nd}(O:∀n∈l,n.op=31->LoopOk n){t:List Int}(C:fQ l (List.replicate 16 0)=some t)(h:∀n∈l,(n.op=3->0<=n.imm/\n.imm<=255)/\kU l n=false):ya l=true:=by
 unfold ya;rw[C];simp only[fT];intro n o;obtain⟨i,g⟩:=h n o;rw[Kv O C i,g];rfl
theorem zpV{l:List Nd}(h:fQ l (List.replicate 16 0)=none):ya l=false:=by
 unfold ya;rw[h]
theorem Kw:∀(l:List Nd) (seen:List (List UInt8)),(∀x∈l,NdR x)->zdk seen (l.map zdY)=false->l.Nodup/\∀x∈l,zdi seen (zdY x)=false
 |[],seen,_,_=>⟨List.nodup_nil,fun x F=>by simp at F⟩
 |a::l,seen,hr,h=>by
  rw[dO,zdk]at h;have Y:zdi seen (zdY a)=false/\zdk (seen++[zdY a]) (l.map zdY)=false:=by
   cases Z:zdi seen (zdY a)<;>simp_all
  obtain⟨i,g⟩:=Kw l _ (fun x F=>hr x (fl _ F)) Y.2;refine⟨yK.2 ⟨fun M=>?_,i⟩,fun x F=>?_⟩
  .have:=g a M;simp[zdi]at this
  .rcases fk.1 F with rfl|F
   .exact Y.1
   .have:=g x F;simp only[zdi,vj,lb]at this⊢;exact this.1
theorem ztC{l:List Nd}(hr:∀x∈l,NdR x):jt l=true->l.Nodup:=fun h=>by
 unfold jt at h;exact(Kw l [] hr iW).1
theorem mask_zero{l:List Nd}(O:∀i n,l[i]?=some n->NdOk n i)(Z:∀j,j<l.length->(zev l l.length).getD j 0<2^16){j:Nat}(Y:j<l.length):zem l j=0↔∀t,t<16->((zew l l.length).getD j []).getD t false=false:=by
 have z:=fun t=>x5 l.length (aM _) (fun j n _ h=>O j n h) j Y t;have e:zem l j=(zev l l.length).getD j 0:=by rw[zem,dQ]
 rw[e];constructor
 .intro h t C;have:=z t;rw[h,cI C,dq,xX]at this;exact this.symm
 .intro h;apply BY;intro t;rw[z t,xX];by_cases C:t<16
  .rw[h t C,o7]
  .rw[dd C,dX]
def tyK1.tyF:=ad @b7 (ad @cP (@ei))
open tyK1
noncomputable def Kx:{c:SC // aB 67 (Tryz.f41.body.getD .skip)=c}:=by
 refine⟨?_,?_⟩;rotate_left
 .simp only[Tryz.f41,a8,aB,zda,zc9,zdc,zdd,Nat.blt,Nat.ble];rfl
noncomputable def Ky:{c:SC // aB 19 (Tryz.f180.body.getD .skip)=c}:=by
 refine⟨?_,?_⟩;rotate_left
 .simp only[Tryz.f180,a8,aB,zda,zc9,zdc,zdd,Nat.blt,Nat.ble];rfl
noncomputable def Kz:{c:SC // aB 29 (Tryz.f144.body.getD .skip)=c}:=by
 refine⟨?_,?_⟩;rotate_left
 .simp only[Tryz.f144,a8,aB,zda,zc9,zdc,zdd,Nat.blt,Nat.ble];rfl
noncomputable def KA:{c:SC // aB 7 (Tryz.f145.body.getD .skip)=c}:=by
 refine⟨?_,?_⟩;rotate_left
 .simp only[Tryz.f145,a8,aB,zda,zc9,zdc,zdd,Nat.blt,Nat.ble];rfl
noncomputable def KB:{c:SC // aB 15 (Tryz.f146.body.getD .skip)=c}:=by
 refine⟨?_,?_⟩;rotate_left
 .simp only[Tryz.f146,a8,aB,zda,zc9,zdc,zdd,Nat.blt,Nat.ble];rfl
theorem znB(ρ:Nat->Int)(op:Int):bh Tryz.prog ρ 41 [.int .i64 op] (et op):=zdZ fit (pls:=pls) (l:=[]) trivial (.cons (.int _ _) .nil) (GX op) (by
 have J:=zed 41;refine zf (M:=67) (rs:=[.tmp 2,.tmp 3]) (J.call _) J.ice J.froz Tryz.func41 rfl rfl Kx.2 rfl ?_;dsimp only[Kx,zcX,Nat.reduceAdd];repeat' (first
  |(apply zcP ?_;clear hK K)|apply Rx.o ?_|(apply bW (fun A I=>?_) (fun A I=>?_)<;>try(cases A;done))|(apply aU (fun z V=>?_) (fun z V=>?_)<;>try(cases z;done))|apply ak ?_|(apply zcQ fun K hK=>?_)|apply ax ?_|apply zcR ?_|apply am ?_)
 all_goals
  refine⟨zcT,_,dG,?_⟩;try simp only[zcS]
  unfold et bj;first
  |(rw[ay ac];done)
  |(rw[ah ac,ay ac];done)
  |(rw[ah ac,ah ac,ay ac];done)
  |(rw[ah ac,ah ac,ah ac,ay ac];done)
  |(rw[ah ac,ah ac,ah ac,ah ac,ay ac];done)
  |(rw[ah ac,ah ac,ah ac,ah ac,ah ac,ay ac];done)
  |(rw[ah ac,ah ac,ah ac,ah ac,ah ac,ah ac];done))
theorem znC(ρ:Nat->Int)(op:Int):bh Tryz.prog ρ 180 [.int .i64 op] (.int .i64 (jP op)):=zdZ fit (pls:=pls) (l:=[]) trivial (.cons (.int _ _) .nil) (.int _ _) (by
 have J:=zed 180;refine zf (M:=19) (rs:=[.tmp 2]) (J.call _) J.ice J.froz Tryz.func180 rfl rfl Ky.2 rfl ?_;dsimp only[Ky,zcX,Nat.reduceAdd];repeat' (first
  |(apply zcP ?_;clear hK K)|apply Rx.o ?_|(apply aU (fun z V=>?_) (fun z V=>?_)<;>try(cases z;done))|apply ak ?_|(apply zcQ fun K hK=>?_)|apply ax ?_|apply zcR ?_|apply am ?_)
 all_goals
  refine⟨zcT,_,dG,?_⟩;try simp only[zcS]
  simp_all[jP])
noncomputable def yV:En:=⟨180,false,b0 (fun _=>True) (fun n:Int=>[.int .i64 n]) fun n=>.int .i64 (jP n)⟩
theorem zx6(ρ:Nat->Int):zdF Tryz.prog ρ yV:=zdM fun n _=>znC ρ n
theorem zbq{l:List En}(I:∀z,zdS l 180 z=yV.sp z)(n:Int)(H:Hp):zc2 Tryz.prog (zcW pls l) 180 [.int .i64 n] H fun v H'=>v=.int .i64 (jP n)/\H'=H:=
 zdW (enc:=fun n:Int=>[.int .i64 n]) (ok:=fun _=>True) (out:=fun n=>.int .i64 (jP n)) xQ (x:=n) (I _) trivial
def rF(x:Int×Int):List AV:=[.int .i64 x.1,.int .i64 x.2]
theorem ztD(x y:Int×Int)(h:rF x=rF y):x=y:=by
 simp only[rF,cS,AV.int.injEq,a1,fM]at h;exact j3 h.1 h.2
theorem ziB(ρ:Nat->Int)(x:Int×Int):bh Tryz.prog ρ 144 (rF x) (.bool (zdT x.1 x.2)):=zdZ fit (pls:=pls) (l:=[yV]) ⟨zx6 ρ,trivial⟩ (.cons (.int _ _) (.cons (.int _ _) .nil)) (.bool _) (by
 obtain⟨i,n⟩:=x;have J:Plain (zcW pls [yV]) 144:=zdO (fun _=>rfl) rfl;rw[rF];simp only[];refine zf (M:=29) (rs:=[.tmp 4]) (J.call _) J.ice J.froz Tryz.func144 rfl rfl Kz.2 rfl ?_;dsimp only[Kz,zcX,Nat.reduceAdd];repeat' (first
  |(apply zcP ?_;clear hK K)|apply Rx.o ?_|(apply i5 ?_;first|refine Rx.k (zbq (fun _=>rfl) _ _) ?_)|apply qG ?_|(apply bW (fun A I=>?_) (fun A I=>?_)<;>try(cases A;done))|(apply aU (fun z V=>?_) (fun z V=>?_)<;>try(cases z;done))|apply ak ?_|(apply zcQ fun K hK=>?_)|apply zcR ?_|apply am ?_)
 all_goals
  refine⟨zcT,_,dG,?_⟩;try simp only[zcS]
  unfold zdT;first
  |(rw[ay hY];done)
  |(rw[ah hY,ay hY];done)
  |(rw[ah hY,ah ac]
    have Z:¬jP i<0:=ac;first
    |(simp_all;done)
    |(generalize jP i=q at *;simp_all;done)
    |(generalize jP i=q at *;simp_all;omega)))
noncomputable def CS:En:=⟨144,false,b0 (fun _=>True) rF fun x=>.bool (zdT x.1 x.2)⟩
theorem zx7(ρ:Nat->Int):zdF Tryz.prog ρ CS:=zdM fun n _=>ziB ρ n
theorem jN{l:List En}(I:∀z,zdS l 144 z=CS.sp z)(a b:Int)(H:Hp):zc2 Tryz.prog (zcW pls l) 144 [.int .i64 a,.int .i64 b] H fun v H'=>v=.bool (zdT a b)/\H'=H:=
 zdW (enc:=rF) (ok:=fun _=>True) (out:=fun x=>.bool (zdT x.1 x.2)) ztD (x:=(a,b)) (I _) trivial
def rG(x:Bool×Int):List AV:=[.bool x.1,.int .i64 x.2]
theorem zx8(x y:Bool×Int)(h:rG x=rG y):x=y:=by
 simp only[rG,cS,AV.int.injEq,AV.bool.injEq,a1,fM]at h;exact j3 h.1 h.2
theorem znE(ρ:Nat->Int)(x:Bool×Int):bh Tryz.prog ρ 145 (rG x) (.int .i64 (zdt x.1 x.2)):=zdZ fit (pls:=pls) (l:=[]) trivial (.cons (.bool _) (.cons (.int _ _) .nil)) (.int _ _) (by
 obtain⟨b,n⟩:=x;have J:=zed 145;rw[rG];simp only[];cases b;all_goals
  refine zf (M:=7) (rs:=[.tmp 4]) (J.call _) J.ice J.froz Tryz.func145 rfl rfl KA.2 rfl ?_;dsimp only[KA,zcX,Nat.reduceAdd];repeat' (first
   |(apply zcP ?_;clear hK K)|apply Rx.o ?_|(apply aU (fun z V=>?_) (fun z V=>?_)<;>try(cases z;done))|apply ak ?_|(apply zcQ fun K hK=>?_)|apply zcR ?_|apply am ?_)
  refine⟨zcT,_,dG,?_⟩;try simp only[zcS]
  rfl)
noncomputable def CT:En:=⟨145,false,b0 (fun _=>True) rG fun x=>.int .i64 (zdt x.1 x.2)⟩
theorem zx9(ρ:Nat->Int):zdF Tryz.prog ρ CT:=zdM fun n _=>znE ρ n
theorem kV{l:List En}(I:∀z,zdS l 145 z=CT.sp z)(a:Bool)(b:Int)(H:Hp):zc2 Tryz.prog (zcW pls l) 145 [.bool a,.int .i64 b] H fun v H'=>v=.int .i64 (zdt a b)/\H'=H:=
 zdW (enc:=rG) (ok:=fun _=>True) (out:=fun x=>.int .i64 (zdt x.1 x.2)) zx8 (x:=(a,b)) (I _) trivial
def rH(s:List Int):List AV:=[zdR s]
theorem zya(x y:List Int)(h:rH x=rH y):x=y:=by
 simp only[rH,cS,a1]at h;exact u5 h
theorem znF(ρ:Nat->Int)(s:List Int)(O:s.length<2^60):bh Tryz.prog ρ 146 (rH s) (.bool (zdx s)):=zdZ fit (pls:=pls) (l:=[]) trivial (.cons (oR _) .nil) (.bool _) (by
 have J:=zed 146;rw[rH];refine zf (M:=15) (rs:=[.tmp 2]) (J.call _) J.ice J.froz Tryz.func146 rfl rfl KB.2 rfl ?_;dsimp only[KB,zcX,Nat.reduceAdd];repeat' (first
  |(apply zcP ?_;clear hK K)|apply Rx.o ?_|(apply aU (fun z V=>?_) (fun z V=>?_)<;>try(cases z;done))|apply ak ?_|(apply zcQ fun K hK=>?_)|apply ax ?_|apply zcR ?_|apply am ?_|apply zc4 ?_)
 refine zdN [0] [] 3 s.length (fun i E H=>zdx s=zdx (s.drop i)) eE aE ?_;rintro i E L C Y j m o g;(try simp only[zdh,zdb,a1,zc3,zde,Nat.reduceBEq,Nat.reduceAdd,Nat.reduceLeDiff,tyF, *]at Y);(try simp only[zdh,zdb,a1,zc3,zde,Nat.reduceBEq,Nat.reduceAdd,Nat.reduceLeDiff,tyF, *]at j);(try simp only[zc6,zdm,zdK,bz,Nat.reduceAdd]at m);repeat' (first
  |(apply zcP ?_;clear hK K)|apply Rx.o ?_|(apply aU (fun z V=>?_) (fun z V=>?_)<;>try(cases z;done))|apply ak ?_|(apply zcQ fun K hK=>?_)|apply ax ?_|apply zcR ?_|apply am ?_|apply zc4 ?_)
 .have Z:i<s.length:=by simpa using z
  have W:s[i]?=some s[i]:=aO Z;have U:zdx (s.drop i)=(decide (s[i]=1)&&zdx (s.drop (i+1))):=Bk;repeat' (first
   |(apply zcP ?_;clear hK K)|apply Rx.o ?_|(apply aU (fun z V=>?_) (fun z V=>?_)<;>try(cases z;done))|apply ak ?_|(apply zcQ fun K hK=>?_)|apply ax ?_|apply zcR ?_|apply am ?_|apply zc4 ?_)
  .all_goals (refine⟨zcT,_,zcU,?_⟩;try simp only[zcS])
   rw[g,U];(try simp only[ff]at *);simp only[ *,j9,bS,cb,Int.reduceEq]
  .refine⟨ac,eL,eL,eN,sK,?_⟩;rw[g,U];(try simp only[ff]at *);simp only[ *,j9,bS,cb,Int.reduceEq]
 .repeat' (first
   |(apply zcP ?_;clear hK K)|apply Rx.o ?_|(apply aU (fun z V=>?_) (fun z V=>?_)<;>try(cases z;done))|apply ak ?_|(apply zcQ fun K hK=>?_)|apply ax ?_|apply zcR ?_|apply am ?_|apply zc4 ?_)
  all_goals (refine⟨zcT,_,zcU,?_⟩;try simp only[zcS])
  rw[g,show i=s.length by simp at z;omega,jI];rfl)
noncomputable def CU:En:=⟨146,false,b0 (fun s=>s.length<2^60) rH fun s=>.bool (zdx s)⟩
theorem zyb(ρ:Nat->Int):zdF Tryz.prog ρ CU:=zdM fun n h=>znF ρ n h
theorem yW{l:List En}(I:∀z,zdS l 146 z=CU.sp z)(s:List Int)(K:s.length<2^60)(H:Hp):zc2 Tryz.prog (zcW pls l) 146 [zdR s] H fun v H'=>v=.bool (zdx s)/\H'=H:=
 zdW (enc:=rH) (ok:=fun s=>s.length<2^60) (out:=fun s=>.bool (zdx s)) zya (x:=s) (I _) K
noncomputable def CV:En:=⟨41,false,b0 (fun _=>True) (fun n:Int=>[.int .i64 n]) et⟩
theorem zyc(ρ:Nat->Int):zdF Tryz.prog ρ CV:=zdM fun n _=>znB ρ n
theorem jb{l:List En}(I:∀z,zdS l 41 z=CV.sp z)(n:Int)(H:Hp):zc2 Tryz.prog (zcW pls l) 41 [.int .i64 n] H fun v H'=>v=et n/\H'=H:=
 zdW (enc:=fun n:Int=>[.int .i64 n]) (ok:=fun _=>True) (out:=et) xQ (x:=n) (I _) trivial
end
section
def tyK2a.tyF:=ad @cP (ad @b7 (ad @ei (ad @fd (ad @eT (ad @l9 (ad @mc (@mJ)))))))
open tyK2a
noncomputable def d6:{c:SC // aB 221 (Tryz.f97.body.getD .skip)=c}:=by
 refine⟨?_,?_⟩;rotate_left
 .simp only[Tryz.f97,a8,aB,zda,zc9,zdc,zdd,Nat.blt,Nat.ble];rfl
structure NsX where
 l:List Nd
 n:Nd
 k:List Int
def pt(x:NsX):List AV:=[zd2 x.l,.agg x.n.cells,zdR x.k]
theorem zyd(x y:NsX)(h:pt x=pt y):x=y:=by
 obtain⟨a,b,c⟩:=x;obtain⟨O,i,Z⟩:=y;simp only[pt,cS,AV.agg.injEq,a1]at h;rw[xS h.1,nX h.2.1,u5 h.2.2]
def vJ(x:NsX):Prop:=x.k.length=x.n.kids.length/\x.k.length<2^30/\(x.n.op=25->x.n.kids.length=1->∃(k:Nat) (m:Nd),x.n.kids=[(k:Int)]/\x.l[k]?=some m/\m.kids.length<2^30)
noncomputable def pu:List En:=[CV,CS,CT,CU]
theorem ztE(ρ:Nat->Int):fb Tryz.prog ρ pu:=⟨zyc ρ,zx7 ρ,zx9 ρ,zyb ρ,trivial⟩
theorem ztF{l:List Nd}{n:Nd}{k:List Int}(h:(bj n.op).2=false):zdl l n k=0:=by rw[zdl,ay h]
theorem zpW{l:List Nd}{n:Nd}{k:List Int}(h:(bj n.op).2=true)(h2:0<=(bj n.op).1)(m:(n.kids.length:Int)≠(bj n.op).1):zdl l n k=0:=by rw[zdl,ah (by rw[h];simp),ay ⟨h2,m⟩]
theorem zpX{l:List Nd}{n:Nd}{k:List Int}(h:zdT n.op n.imm=false):zdl l n k=0:=by
 rw[zdl];by_cases c1:(bj n.op).2=false
 .rw[ay c1]
 .rw[ah c1];by_cases c2:0<=(bj n.op).1/\(n.kids.length:Int)≠(bj n.op).1
  .rw[ay c2]
  .rw[ah c2,ay h]
theorem ztG{l:List Nd}{n:Nd}{k:List Int}(h:(bj n.op).2=true)(h2:¬(0<=(bj n.op).1/\(n.kids.length:Int)≠(bj n.op).1))(m:zdT n.op n.imm=true):zdl l n k =
 if n.op=3 then (if n.imm.tmod 16=0 then 2 else 1)
 else if n.op=26 then 2
 else if n.op=22 then (if k.headD 0≠1\/k.getD 1 0≠k.getD 2 0\/k.getD 1 0=3 then 0 else k.getD 1 0)
 else if n.op=23 then zdt (decide (k.headD 0=2)&&decide (k.getD 1 0=1)) 1
 else if n.op=24 then zdt (decide (k.headD 0=2)) 1
 else if n.op=25 then (if k.headD 0≠3\/(j7 l (n.kids.headD 0)).tdiv 2<=n.imm then 0 else zdt (decide (n.imm=0)) 1+1)
 else if n.op=27\/n.op=29 then zdt (decide (k.headD 0=2)&&decide (k.getD 1 0=1)) 2
 else if n.op=28 then zdt (decide (k.headD 0=2)&&decide (k.getD 1 0=1)&&decide (k.getD 2 0=1)) 2
 else if n.op=30 then zdt (decide (1<=k.length)&&decide (k.length<=7)&&decide (k.headD 0=2)&&zdx (k.drop 1)) 2
 else if n.op=31 then zdt (decide (k.length%2=1)&&decide (1<=k.length/2)&&decide (k.length/2<=16)&&decide (k.headD 0=2)&&zdx ((k.drop 1).take (k.length/2))&&decide (k.getD (k.length/2+1) 0=2)&&zdx (k.drop (k.length/2+2))) 3
 else zdt (zdx k) 1:=by
 rw[zdl,ah (by rw[h];simp),ah h2,ah (by rw[m];simp)]
theorem zbH{l:List Nd}{imm:Int}{L k:List Int}(o:k.length=L.length)(Y:k.length<2^30)(W:zdT 30 imm=true)(U:zdl l ⟨30,imm,L⟩ k=zdt (decide (1<=k.length)&&decide (k.length<=7)&&decide (k.headD 0=2)&&zdx (k.drop 1)) 2):
 zc2 Tryz.prog (zcW pls pu) 97 [zd2 l,.agg [.int .i64 30,.int .i64 imm,zdR L],zdR k] zdw fun v _=>v=.int .i64 (zdl l ⟨30,imm,L⟩ k):=by
 have J:Plain (zcW pls pu) 97:=zdO (fun _=>rfl) rfl;have i:(2:Int)≠0:=dD;have j:et 30=.tup [.int .i64 (-1),.bool true]:=rfl;clear o;cases k with
 |nil=>
  have F:zdl l ⟨30,imm,L⟩ []=zdt false 2:=lG;refine zf (M:=221) (rs:=[.tmp 6]) (J.call _) J.ice J.froz Tryz.func97 rfl rfl d6.2 rfl ?_;dsimp only[d6,zcX,Nat.reduceAdd];repeat' (first
   |(apply zcP ?_;clear hK K)|apply Ry.o ?_|(apply bq ?_;first|refine Rx.k (jb (fun _=>rfl) _ _) ?_|refine Rx.k (jN (fun _=>rfl) _ _ _) ?_|refine Rx.k (kV (fun _=>rfl) _ _ _) ?_)|(apply aT (fun A I=>?_) (fun A I=>?_)<;>try(cases A;done))|(apply az (fun z V=>?_) (fun z V=>?_)<;>try(cases z;done))|apply ak ?_|(apply zcQ fun K hK=>?_)|apply ax ?_|apply zcR ?_|apply am ?_)
  all_goals first
   |exact zdj
   |((refine⟨zcT,_,dG,?_⟩;try simp only[zcS]);rw[F];done)
 |cons a k=>
  have O:=fun a=>G5 a k;simp only[dl]at Y;have Z:k.length<2^60:=ac;have F:zdl l ⟨30,imm,L⟩ (a::k)=zdt (decide (((k.length+1:Nat):Int)<=7)&&decide (a=2)&&zdx k) 2:=by
   have C:decide (((k.length+1:Nat):Int)<=7)=decide (k.length+1<=7):=kM.2 ac;rw[U,C];simp
  have m:(1:Int)<=((k.length+1:Nat):Int):=ac;refine zf (M:=221) (rs:=[.tmp 6]) (J.call _) J.ice J.froz Tryz.func97 rfl rfl d6.2 rfl ?_;dsimp only[d6,zcX,Nat.reduceAdd];repeat' (first
   |(apply zcP ?_;clear hK K)|apply Ry.o ?_|(apply bq ?_;first|refine Rx.k (jb (fun _=>rfl) _ _) ?_|refine Rx.k (jN (fun _=>rfl) _ _ _) ?_|refine Rx.k (yW (fun _=>rfl) _ Z _) ?_|refine Rx.k (kV (fun _=>rfl) _ _ _) ?_)|(apply aT (fun A I=>?_) (fun A I=>?_)<;>try(cases A;done))|(apply az (fun z V=>?_) (fun z V=>?_)<;>try(cases z;done))|apply ak ?_|(apply zcQ fun K hK=>?_)|apply ax ?_|apply zcR ?_|apply am ?_)
  all_goals first
   |exact zdj
   |((refine⟨zcT,_,dG,?_⟩;try simp only[zcS]);rw[F];(try simp only[ff]at *);simp only[ *,j9,bS,cb,Int.reduceEq];done)
theorem zbI{l:List Nd}{imm:Int}{L k:List Int}(o:k.length=L.length)(O:k.length<2^30)(j:L.length=1->∃(k:Nat) (m:Nd),L=[(k:Int)]/\l[k]?=some m/\m.kids.length<2^30)(h1:k.length=1)(C:zdT 25 imm=true)(U:zdl l ⟨25,imm,L⟩ k=(if k.headD 0≠3\/(j7 l (L.headD 0)).tdiv 2<=imm then 0 else zdt (decide (imm=0)) 1+1)):
 zc2 Tryz.prog (zcW pls pu) 97 [zd2 l,.agg [.int .i64 25,.int .i64 imm,zdR L],zdR k] zdw fun v _=>v=.int .i64 (zdl l ⟨25,imm,L⟩ k):=by
 have J:Plain (zcW pls pu) 97:=zdO (fun _=>rfl) rfl;have hq2:(2:Int)≠0:=dD;obtain⟨a,rfl⟩:=lD h1;have W:L.length=1:=by rw[<-o];exact h1
 obtain⟨Y,m,rfl,i,g⟩:=j W;have hv:et 25=.tup [.int .i64 1,.bool true]:=rfl;have Z:j7 l (Y:Int)=m.kids.length:=by rw[j7,dQ,i]
 have F:zdl l ⟨25,imm,[(Y:Int)]⟩ [a]=if a≠3\/(m.kids.length:Int).tdiv 2<=imm then 0 else zdt (decide (imm=0)) 1+1:=by rw[U];simp[Z]
 have e1:IntKind.wrap .i64 ((m.kids.length:Int).tdiv 2)=(m.kids.length:Int).tdiv 2:=by
  rw[kN ac];exact zey ac ac
 have hgk:([(Y:Int)]:List Int)[0]?=some (Y:Int):=rfl;have e2:IntKind.wrap .i64 (zdt (decide (imm=0)) 1+1)=zdt (decide (imm=0)) 1+1:=by
  unfold zdt;split<;>rfl
 refine zf (M:=221) (rs:=[.tmp 6]) (J.call _) J.ice J.froz Tryz.func97 rfl rfl d6.2 rfl ?_;dsimp only[d6,zcX,Nat.reduceAdd];repeat' (first
  |(apply zcP ?_;clear hK K)|apply Ry.o ?_|(apply bq ?_;first|refine Rx.k (jb (fun _=>rfl) _ _) ?_|refine Rx.k (jN (fun _=>rfl) _ _ _) ?_|refine Rx.k (kV (fun _=>rfl) _ _ _) ?_)|(apply aT (fun A I=>?_) (fun A I=>?_)<;>try(cases A;done))|(apply az (fun z V=>?_) (fun z V=>?_)<;>try(cases z;done))|apply ak ?_|(apply zcQ fun K hK=>?_)|(apply zdG 12 [(2,19),(7,19),(10,19),(16,19)] fun K hK=>?_)|(apply zdG 20 [(2,19),(6,19),(9,19),(11,19),(14,19),(15,19)] fun K hK=>?_)|(apply zdB ?_;try intro _)|(apply zdJ ?_ ?_<;>clear hK K)|apply b4 ?_|(apply mT (fun A I=>?_) (fun A I=>?_)<;>try(cases A;done))|apply ax ?_|apply zcR ?_|apply am ?_)
 clear o Z U j;all_goals first
  |exact zdj
  |((refine⟨zcT,_,dG,?_⟩;try simp only[zcS]);rw[F,ay yI];done)
  |((refine⟨zcT,_,dG,?_⟩;try simp only[zcS]);rw[F,ah yI];done)
end
end Go.Proofs.YtljebeflbbgibaaGreat
