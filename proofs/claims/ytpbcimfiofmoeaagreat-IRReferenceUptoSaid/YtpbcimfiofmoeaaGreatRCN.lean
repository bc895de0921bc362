/- Parts: LoA, LoB, LoC, LoD, LoE, LoF, LoF6, LoG, LoH, LoJ, P4c. -/
import Derived.Test.YtpbcimfiofmoeaaGreatRCM
set_option linter.unusedSimpArgs false
set_option linter.unusedVariables false
set_option linter.unusedSectionVars false
set_option linter.defProp false
set_option maxHeartbeats 32000000
namespace Go.Ab
set_option maxRecDepth 20000
open Go
theorem BC{P:Prop}(h:P:=by simp only[List.all_cons,List.all_nil,hone];rfl):P:=h
theorem FJ{P:Prop}(h:P:=by simp only[zea,zef];omega):P:=h
theorem wj{P:Prop}(h:P:=by rw[List.length_map,show zfw=70368744177664 from rfl];omega):P:=h
theorem yw{P:Prop}(h:P:=by have:=(hR2.sS _ e).1;omega):P:=h
end Go.Ab
namespace Go.Proofs.YtpbcimfiofmoeaaGreat
set_option maxRecDepth 20000
open Go Go.Ab
section
structure Lx where
 p:Pr
 b:Nat
 ra:Nat
 rf:Nat
 rt:Nat
 rn:Nat
 ae:List (zeP×Int)
 fe:List (zeP×Int)
 ne:List (zeP×Int)
def zfK(X:Lx)(s:Bd)(lv vv:AV):List AV:=[.lst (X.p.arrays.map Ar.cells),.lst (X.p.funcs.map Fu.cells),.map X.ra,.map X.rf,lv,.map X.rt,.map X.rn,vv,.int .i64 s.state,.int .i64 s.loops]
structure RepL (X:Lx) (H:Hp) (S:Nat->Prop) (s:Bd) (lv vv:AV):Prop where
 m:H.get X.b=some (.cells (zfK X s lv vv) 0 true)
 a:H.get X.ra=some (.map (eW X.ae))
 f:H.get X.rf=some (.map (eW X.fe))
 t:H.get X.rt=some (.map (eW (atV s.l 0)))
 n:H.get X.rn=some (.map (eW X.ne))
 nodes:ze4 S 2 H 3 lv (s.l.map Nd.cells)
 vars:gQ H vv s.vars 0
 o1:X.ra<X.rf
 o2:X.rf<X.rt
 o3:X.rt<X.rn
 o4:X.rn<X.b
 o5:X.b<H.next
 sS:∀k,S k->X.b<k/\k<H.next/\¬zd3 vv k
 vS:∀k,zd3 vv k->X.b<k/\k<H.next
structure Sm (n:Nat) (H H':Hp):Prop where
 get:∀k,k<n->H'.get k=H.get k
structure FrL (X:Lx) (S:Nat->Prop) (vv:AV) (H:Hp) (S':Nat->Prop) (vv':AV) (H':Hp):Prop where
 next:H.next<=H'.next
 get:∀k,k<H.next->k≠X.b->k≠X.rt->¬S k->¬zd3 vv k->H'.get k=H.get k
 sub:∀k,S' k->S k\/H.next<=k
 own:∀k,zd3 vv' k->zd3 vv k\/H.next<=k
theorem FrL.refl(X:Lx)(S:Nat->Prop)(vv:AV)(H:Hp):FrL X S vv H S vv H:=⟨aM _,fun _ _ _ _ _ _=>rfl,fun _ h=>.inl h,fun _ h=>.inl h⟩
def hZ:=@FrL.refl
theorem FrL.trans{X:Lx}{S S' S'':Nat->Prop}{v v' v'':AV}{H H' H'':Hp}(h:FrL X S v H S' v' H')(k:FrL X S' v' H' S'' v'' H''):FrL X S v H S'' v'' H'' where
 next:=dr h.next k.next
 get r h1 h2 h3 h4 h5:=by
  rw[k.get r (qE h1 h.next) h2 h3 (fun e=>?_) (fun e=>?_)]
  .exact h.get r h1 h2 h3 h4 h5
  .rcases h.sub r e with e|e
   .exact h4 e
   .omega
  .rcases h.own r e with e|e
   .exact h5 e
   .omega
 sub r e:=by
  rcases k.sub r e with e|e
  .exact h.sub r e
  .exact .inr (dr h.next e)
 own r e:=by
  rcases k.own r e with e|e
  .exact h.own r e
  .exact .inr (dr h.next e)
section
variable {X:Lx} {H H':Hp} {S:Nat -> Prop} {s:Bd} {lv vv:AV}
theorem RepL.keep(h:RepL X H S s lv vv)(hn:H.next<=H'.next)(hg:∀k,k<H.next->(k<=X.b\/S k\/zd3 vv k)->H'.get k=H.get k):RepL X H' S s lv vv:=by
 have o1:=h.o1;have o2:=h.o2;have o3:=h.o3;have o4:=h.o4;have o5:=h.o5;refine⟨LU,by rw[hg _ ac (.inl ac)];exact h.a,by rw[hg _ ac (.inl ac)];exact h.f,by rw[hg _ ac (.inl ac)];exact h.t,by rw[hg _ ac (.inl ac)];exact h.n,h.nodes.keep (fun _ _ h=>h) hn fun k hk h6=>hg k h6 (.inr (.inl hk)),h.vars.keep hn fun k hk=>hg k (h.vS k hk).2 (.inr (.inr hk)),o1,o2,o3,o4,ac,fun k hk=>?_,fun k hk=>?_⟩
 .have:=h.sS k hk;exact⟨this.1,ac,this.2.2⟩
 .have:=h.vS k hk;omega
theorem RepL.alloc(h:RepL X H S s lv vv)(b:HB):RepL X (H.alloc b) S s lv vv:=h.keep (cZ _) fun k hk _=>ez
theorem FrL.alloc{S0:Nat->Prop}{v0:AV}{zeo:Hp}(h:FrL X S0 v0 zeo S vv H)(b:HB):FrL X S0 v0 zeo S vv (H.alloc b):=h.trans ⟨cZ _,fun k hk _ _ _ _=>ez,fun _ h=>.inl h,fun _ h=>.inl h⟩
theorem RepL.setS(h:RepL X H S s lv vv)(x:Int):RepL X (H.set X.b (.cells (zfK X {s with state:=x} lv vv) 0 true)) S {s with state:=x} lv vv/\FrL X S vv H S vv (H.set X.b (.cells (zfK X {s with state:=x} lv vv) 0 true)):=by
 have o1:=h.o1;have o2:=h.o2;have o3:=h.o3;have o4:=h.o4;have o5:=h.o5;have hg:∀k,k≠X.b->(H.set X.b (.cells (zfK X {s with state:=x} lv vv) 0 true)).get k=H.get k:=fun k hk=>jg;refine⟨⟨ft,by rw[hg _ ac];exact h.a,by rw[hg _ ac];exact h.f,by rw[hg _ ac];exact h.t,by rw[hg _ ac];exact h.n,h.nodes.keep (fun _ _ h=>h) (aM _) fun k hk h6=>hg k Bt,h.vars.keep (aM _) fun k hk=>hg k Fv,o1,o2,o3,o4,o5,h.sS,h.vS⟩,⟨aM _,fun k _ h2 _ _ _=>hg k h2,fun _ h=>.inl h,fun _ h=>.inl h⟩⟩
theorem RepL.setV(h:RepL X H S s lv vv){i:Nat}(hi:i<s.vars.length)(x:Int):∃r,zeE Tryz.prog 23 vv (.int .i64 (i:Int))=some (.ptr r i)/\zfC Tryz.prog H 3 (.ptr r i)=some (.int .i64 (s.vars.getD i 0)) /\
 ∃H',j5 Tryz.prog H 3 (.ptr r i) (.int .i64 x)=some H'/\X.b<r/\r<H.next/\zd3 vv r/\RepL X H' S {s with vars:=s.vars.set i x} lv vv/\FrL X S vv H S vv H'/\(∀k,k≠r->H'.get k=H.get k)/\H'.next=H.next:=by
 rcases h.vars with⟨_,h2⟩|⟨r,hv,hg,hr0,hr⟩
 .rw[h2]at hi;simp at hi
 .have hown:zd3 vv r:=⟨_,hv⟩;have hbr:=(h.vS r hown).1;refine⟨r,?_,?_,H.set r (.cells ((s.vars.set i x).map (.int .i64)) 0 true),?_,hbr,hr,hown,?_,⟨aM _,fun k _ _ _ _ h5=>?_,fun _ h=>.inl h,fun _ h=>.inl h⟩,fun k hk=>jg,rfl⟩
  .rw[hv,mL Tryz.underlying23 gN hi];simp
  .rw[r0 Tryz.underlying3 rfl hg,fF,dM,br hi];rfl
  .rw[vE hg (by rw[dy];exact hi),re]
  .have o1:=h.o1;have o2:=h.o2;have o3:=h.o3;have o4:=h.o4;have o5:=h.o5;have hk:∀k,k≠r->(H.set r (.cells ((s.vars.set i x).map (.int .i64)) 0 true)).get k=H.get k:=fun k hk=>jg;refine⟨by rw[hk _ ac];exact h.m,by rw[hk _ ac];exact h.a,by rw[hk _ ac];exact h.f,by rw[hk _ ac];exact h.t,by rw[hk _ ac];exact h.n,h.nodes.keep (fun _ _ h=>h) (aM _) fun k hS _=>hk k fun e=>(h.sS k hS).2.2 yn,.inr ⟨r,by rw[hv,iS],ft,hr0,hr⟩,o1,o2,o3,o4,o5,h.sS,h.vS⟩
  .rw[bz,ah (fun e=>h5 yn)]
end
def tyLoB.tyF:=ad @eI (ad @dC (ad @DA (ad @eU (ad @ge (ad @en (ad @iw (ad @jP (ad @IJ (ad @tP (ad @tQ (ad @IR (ad @IT (ad @IU (ad @IX (ad @IQ (ad @IV (ad @IY (ad @L7 (ad @mc (@md))))))))))))))))))))
open tyLoB
noncomputable def Mo:{c:SC // aS 20 (Tryz.f134.body.getD .skip)=c}:=by
 refine⟨?_,?_⟩;rotate_left
 .simp only[Tryz.f134,cj,aS,zen,zel,zeu,zev,Nat.blt,Nat.ble];rfl
noncomputable def Mp:{c:SC // aS 69 (Tryz.f86.body.getD .skip)=c}:=by
 refine⟨?_,?_⟩;rotate_left
 .simp only[Tryz.f86,cj,aS,zen,zel,zeu,zev,Nat.blt,Nat.ble];rfl
def Mq(f:FuncId):Bool:=Nat.beq f 134||Nat.beq f 86||Nat.beq f 87||Nat.beq f 88||Nat.beq f 89||Nat.beq f 135||Nat.beq f 136||Nat.beq f 137||Nat.beq f 138||Nat.beq f 162||Nat.beq f 163||Nat.beq f 164||Nat.beq f 185||Nat.beq f 52
structure LowT (tb:List En):Prop where
 pl:∀f,Mq f=true->(∀ar,zeN tb f ar=none)/\jx tb f=false
theorem LowT.plain{tb:List En}(h:LowT tb){f:FuncId}(hf:Mq f=true):Plain (zdW pls tb) f:=zfv (h.pl f hf).1 (h.pl f hf).2
theorem Mr{cfg:Cfg}(hw:Plain cfg 134)(hkeep:cfg.keep 134=false){H:Hp}{v:AV}{b:List Int}{lo:Nat}(hv:kV H v b lo)(hb:b.length<2^38)(n:Int):
 zd5 Tryz.prog cfg 134 [v,.int .u64 n] H fun w H'=>kV H' w (b++zf3 n 8) lo/\H.next<=H'.next/\∀k,k<lo->H'.get k=H.get k:=by
 obtain⟨zee,i0,hve,_⟩:=id hv;have hone:AV.one v=true:=by rw[hve];rfl
 clear hve;refine zed (M:=20) (rs:=[.tmp 4]) (hw.call _) hw.ice hw.froz Tryz.func134 rfl rfl Mo.2 rfl ?_;dsimp only[Mo,zd8,Nat.reduceAdd];repeat' (first
  |(apply au ?_;clear hK K)|apply Rx.o ?_|apply am ?_|(apply zdQ fun K hK=>?_)|apply aA ?_|apply zdR ?_|apply aB ?_|apply zdT ?_)
 refine zeL [1] [] 5 8 (fun i E H2=>∃w,E.at 0=w/\kV H2 w (b++zf3 n i) lo/\∀k,k<lo->H2.get k=H.get k) eE ⟨v,eE,by simpa [zf3]using hv,fun _ _=>rfl⟩ ?_;rintro i E H2 hi hcE hrH hnH hsI ⟨w,k0,hw2,hold⟩;(try simp only[zec,zeb,aX,zdX,zd2,Nat.reduceBEq,Nat.reduceAdd,Nat.reduceLeDiff,tyF, *]at hcE);(try simp only[zec,zeb,aX,zdX,zd2,Nat.reduceBEq,Nat.reduceAdd,Nat.reduceLeDiff,tyF, *]at hrH);(try simp only[zea,zef,zeB,bT,Nat.reduceAdd]at hnH);by_cases hlt:i<8
 .have hlt':(i:Int)<8:=by omega
  have e1:IntKind.wrap .i64 (8*(i:Int))=((8*i:Nat):Int):=vZ;have e2:IntKind.wrap .u64 ((8*i:Nat):Int)=((8*i:Nat):Int):=(by decide:∀i:_root_.Fin 8,IntKind.wrap .u64 ((8*i.val:Nat):Int)=((8*i.val:Nat):Int)) ⟨i,hlt⟩;have e4:∀(D:BinOp->Sx->Sx->Option Bool) (t:TypeId),jS Tryz.prog D .shr t (.int .u64 n) (.int .u64 ((8*i:Nat):Int))=some (.int .u64 (n.fdiv (2^ (8*i)))):=fun D t=>bin_shr ac rfl;repeat' (first
   |(apply au ?_;clear hK K)|apply Ry.o ?_|(apply aV (fun hb hbp=>?_) (fun hb hbp=>?_)<;>try(cases hb;done))|apply am ?_|(apply zdQ fun K hK=>?_)|apply aA ?_|apply zdR ?_|apply aB ?_|apply zdT ?_)
  have hwb:FG (H2.alloc (.cells [.int .u8 (lQ n i)] 0 true)) w (b++zf3 n i) lo:=.inr (hw2.keep (cZ _) fun k hk=>by rw[zd1,ah (by have:=(hw2.lt hk).2;omega)]);have hlo2:lo<=H2.next:=by obtain⟨r,im,_,_,_,h1,h2⟩:=hw2;omega
  obtain⟨v5,H5,a5,s5,n5,f5,o5⟩:=ztb (r:=H2.next) (imm:=0) (lQ n i) hwb fx eR (by rw[eO,rA];omega);have n5':H2.next<=H5.next:=pm
  have o5':∀k,k<lo->H5.get k=H.get k:=fun k hk=>by rw[f5 k hk,zd1,ah ac,hold k hk]
  clear n5 f5 o5;refine ji eV eV t9 ?_;repeat' (first
   |(apply au ?_;clear hK K)|apply Rx.o ?_|apply am ?_|(apply zdQ fun K hK=>?_)|apply aA ?_|apply zdR ?_|apply aB ?_|apply zdT ?_)
  refine⟨ac,zd7,zd7,eN,(by simp only[zdX,Nat.reduceBEq, *];exact zfQ (n:=8) ac ac),?_⟩;exact⟨v5,eE,by rw[zmC,<-kH];exact s5,o5'⟩
 .have hlt':¬(i:Int)<8:=by omega
  repeat' (first
   |(apply au ?_;clear hK K)|apply Ry.o ?_|(apply aV (fun hb hbp=>?_) (fun hb hbp=>?_)<;>try(cases hb;done))|apply am ?_|(apply zdQ fun K hK=>?_)|apply aA ?_|apply zdR ?_|apply aB ?_|apply zdT ?_)
  all_goals (refine⟨zdZ,_,zd6,?_⟩;try simp only[zdY])
  have hie:i=8:=ac;rw[hie]at hw2;exact⟨hw2,ac,hold⟩
theorem ze0.len'{H:Hp}{v:AV}{l:List Int}{lo:Nat}(h:ze0 H v l lo)(H':Hp):zeR Tryz.prog H' 23 v=some (.int .i64 l.length):=by
 rcases h with⟨rfl,rfl⟩|h
 .exact zgl Tryz.underlying23
 .exact h.len
theorem FK{S:Nat->Prop}{H:Hp}{kv:AV}{kids:List Int}{lo:Nat}(op imm:Int)(hk:ze0 H kv kids lo)(hS:∀k,zd3 kv k->S k):zeA S 2 H [.int .i64 op,.int .i64 imm,kv] (Nd.mk op imm kids).cells:=by
 refine .cons (.int _ _) (.cons (.int _ _) (.cons ?_ .nil));rcases hk with⟨rfl,rfl⟩|⟨r,i,rfl,h2,h3,h4,h5⟩
 .exact .nilS
 .exact Fp kids (hS r ⟨_,rfl⟩) h5 h2 h3
theorem Ms{H:Hp}{kv:AV}{l:List Int}{lo:Nat}(h:ze0 H kv l lo)(a b:Int):zfy Tryz.prog 67 [(0,.int .i64 a),(1,.int .i64 b),(2,kv)]=some (.agg [.int .i64 a,.int .i64 b,kv]):=by
 rcases h with⟨rfl,rfl⟩|⟨r,i,rfl,_⟩<;>kernel_rfl
theorem ze0.one{H:Hp}{kv:AV}{l:List Int}{lo:Nat}(h:ze0 H kv l lo):AV.one kv=true:=by
 rcases h with⟨rfl,rfl⟩|⟨r,i,rfl,_⟩<;>rfl
theorem FL:qA Tryz.prog 3=some (.int .i64 0):=aC
theorem zgH:ny Tryz.prog 9=some .string:=aC
def wl(X:Lx)(S:Nat->Prop)(vv kv:AV)(H:Hp)(n:Nd)(s:Bd)(v:AV)(H':Hp):Prop:=v=.int .i64 (zdS n s).1/\∃S' lv',RepL X H' S' (zdS n s).2 lv' vv/\H.next<=H'.next/\(∀k,k<H.next->k≠X.b->k≠X.rt->¬S k->H'.get k=H.get k)/\∀k,S' k->S k\/zd3 kv k\/H.next<=k
set_option maxRecDepth 100000 in
theorem Mt{tb:List En}(hG:LowT tb){X:Lx}{H:Hp}{S:Nat->Prop}{s:Bd}{lv vv kv:AV}(hR:RepL X H S s lv vv)(n:Nd)(hk:ze0 H kv n.kids 0)(hkf:∀k,zd3 kv k->X.b<k/\¬S k/\¬zd3 vv k)(hr:∀x∈iB s.l n,NdR x)(hlen:s.l.length<2^36):
 zd5 Tryz.prog (zdW pls tb) 86 [.ptr X.b 0,.int .i64 n.op,.int .i64 n.imm,kv] H (wl X S vv kv H n s):=by
 have hw:Plain (zdW pls tb) 86:=hG.plain ei;have hap:Plain (zdW pls tb) 134:=hG.plain ei;have hkeep:(zdW pls tb).keep 86=false:=rfl;have hn:NdR n:=hr n (we.2 (.inr rfl));have hnl:=hn.len;have o1:=hR.o1;have o2:=hR.o2;have o3:=hR.o3;have o4:=hR.o4;have o5:=hR.o5;have hkn:=hk.len';refine zed (M:=69) (rs:=[.tmp 8]) (hw.call _) hw.ice hw.froz Tryz.func86 rfl rfl Mp.2 rfl ?_;dsimp only[Mp,zd8,Nat.reduceAdd];repeat' (first
  |(apply au ?_;clear hK K)|apply Rx.o ?_|apply am ?_|(apply zdQ fun K hK=>?_)|(apply zdP 7 [(3,12),(5,12),(6,12)] fun K hK=>?_)|(apply vy 10 fun K hK=>?_)|(apply zdU ?_;try intro _)|(apply zdV ?_ ?_<;>clear hK K)|apply aH ?_|apply aA ?_|apply zdR ?_|apply aB ?_|apply zdT ?_)
 refine bA rfl bE bF ?_;simp only[bB];refine bp ?_ (Mr hap rfl (b:=[IntKind.wrap .u8 n.op]) (lo:=H.next) ⟨H.next,0,rfl,ev,dE _,aM _,by simp[zea]⟩ aK _);rintro w H1 ⟨hw1,zfm,q1⟩;have n1':H.next<=H1.next:=by simp only[zea]at zfm;omega
 have q1':∀k,k<H.next->H1.get k=H.get k:=fun k hk=>by rw[q1 k hk,zd1,ah ac]
 clear zfm q1;dsimp only[zd4];repeat' (first
  |(apply au ?_;clear hK K)|apply Rx.o ?_|apply am ?_|(apply zdQ fun K hK=>?_)|(apply zdP 7 [(3,12),(5,12),(6,12)] fun K hK=>?_)|(apply vy 10 fun K hK=>?_)|(apply zdU ?_;try intro _)|(apply zdV ?_ ?_<;>clear hK K)|apply aH ?_|apply aA ?_|apply zdR ?_|apply aB ?_|apply zdT ?_)
 refine zeL [0,1,2,3,8,20,21] [] 22 n.kids.length (fun j E H2=>∃w,E.at 9=w/\kV H2 w ([IntKind.wrap .u8 n.op]++zf3 (IntKind.wrap .u64 n.imm) 8++(n.kids.take j).flatMap fun k=>zf3 (IntKind.wrap .u64 k) 8) H.next/\Sm H.next H H2) eE ⟨w,eE,by simpa using hw1,⟨q1'⟩⟩ ?_;rintro j E H2 hj hcE hrH hnH hsI ⟨w2,k9,hw2,hold⟩;(try simp only[zec,zeb,aX,zdX,zd2,Nat.reduceBEq,Nat.reduceAdd,Nat.reduceLeDiff,tyF, *]at hcE);(try simp only[zec,zeb,aX,zdX,zd2,Nat.reduceBEq,Nat.reduceAdd,Nat.reduceLeDiff,tyF, *]at hrH);(try simp only[zea,zef,zeB,bT,Nat.reduceAdd]at hnH);have n2':H.next<=H2.next:=ac
 by_cases hlt:j<n.kids.length
 .have hlt':(j:Int)<n.kids.length:=by omega
  have htk:n.kids.take (j+1)=n.kids.take j++[n.kids[j]]:=by rw[tu,br hlt];rfl
  have hfl:((n.kids.take j).flatMap fun k=>zf3 (IntKind.wrap .u64 k) 8).length<=8*j:=by
   rw[List.length_flatMap];simp only[rA];have:((n.kids.take j).map fun _=>8).sum=8*(n.kids.take j).length:=by
    generalize n.kids.take j=q;induction q with
    |nil=>rfl
    |cons a q ih=>simp[ih];omega
   rw[this,oK];omega
  have hkb:fM H2 kv n.kids 0:=by
   rcases hk with⟨_,h2⟩|h2
   .rw[h2]at hlt;simp at hlt
   .exact h2.keep ac fun k hk=>hold.get k (h2.lt hk).2
  obtain⟨r,hix,hld⟩:=hkb.at hlt;generalize n.kids[j]=kd at *;repeat' (first
   |(apply au ?_;clear hK K)|apply Ry.o ?_|apply cD ?_|(apply aV (fun hb hbp=>?_) (fun hb hbp=>?_)<;>try(cases hb;done))|apply am ?_|(apply zdQ fun K hK=>?_)|(apply zdP 7 [(3,12),(5,12),(6,12)] fun K hK=>?_)|(apply vy 10 fun K hK=>?_)|(apply zdU ?_;try intro _)|(apply zdV ?_ ?_<;>clear hK K)|apply aH ?_|apply aA ?_|apply zdR ?_|apply aB ?_|apply zdT ?_)
  refine bA rfl bE bF ?_;simp only[bB];refine bp ?_ (Mr hap rfl hw2 (by rw[eO,eO,rA,A0];omega) _);rintro w3 H3 ⟨hw3,n3,q3⟩;dsimp only[zd4];repeat' (first
   |(apply au ?_;clear hK K)|apply Rx.o ?_|apply am ?_|(apply zdQ fun K hK=>?_)|(apply zdP 7 [(3,12),(5,12),(6,12)] fun K hK=>?_)|(apply vy 10 fun K hK=>?_)|(apply zdU ?_;try intro _)|(apply zdV ?_ ?_<;>clear hK K)|apply aH ?_|apply aA ?_|apply zdR ?_|apply aB ?_|apply zdT ?_)
  refine⟨ac,zd7,zd7,eN,xW,?_⟩;exact⟨w3,eE,by rw[htk,List.flatMap_append,yq,List.flatMap_nil,ll,<-kH];exact hw3,⟨fun k hk=>by rw[q3 k hk];exact hold.get k hk⟩⟩
 .have hlt':¬(j:Int)<n.kids.length:=by omega
  have hje:n.kids.take j=n.kids:=iq ac;rw[hje,<-ztc]at hw2;have hcv:=ztd hw2;have hR2:RepL X H2 S s lv vv:=hR.keep n2' fun k hk _=>hold.get k hk;have m2:=hR2.m;unfold zfK at m2;have hlk:=zxi (P:=Tryz.prog) (t:=98) Tryz.underlying98 zgH FL hR2.t (kW n);obtain⟨f1,f2,f3⟩:=Mn hn s.l 0 (fun x hx=>hr x (we.2 (.inl hx)));clear hje hw1 q1';have hcv':jq Tryz.prog H2 93 9 w2=some (.str (kW n)):=hcv;clear hcv;by_cases hin:fP s.l n<s.l.length
  .rw[qc hin]at f1;have f2:=f2 hin;rw[f1,f2]at hlk;repeat' (first
    |(apply au ?_;clear hK K)|apply Ry.o ?_|apply cD ?_|(apply aV (fun hb hbp=>?_) (fun hb hbp=>?_)<;>try(cases hb;done))|apply am ?_|(apply zdQ fun K hK=>?_)|(apply zdP 7 [(3,12),(5,12),(6,12)] fun K hK=>?_)|(apply vy 10 fun K hK=>?_)|(apply zdU ?_;try intro _)|(apply zdV ?_ ?_<;>clear hK K)|apply aH ?_|apply aA ?_|apply zdR ?_|apply aB ?_|apply zdT ?_)
   all_goals first
    |exact eK
    |skip
   all_goals (refine⟨zdZ,_,zd6,?_⟩;try simp only[zdY])
   have e1:zdS n s=(((fP s.l n:Nat):Int),s):=by rw[zdS,iB,aE hin]
   rw[wl,e1];exact⟨aK,S,lv,hR2,n2',fun k h1 _ _ _=>hold.get k h1,fun k hk=>.inl hk⟩
  .rw[pd hin]at f1;have f3:=f3 hin;have hix:fP s.l n=s.l.length:=by have:=Bz s.l n;omega
   have hadd:iB s.l n=s.l++[n]:=by rw[iB,ah hin]
   rw[f1]at hlk;have hll:∀H',zeR Tryz.prog H' 22 lv=some (.int .i64 s.l.length):=fun H'=>by
    have:=hR2.nodes.len (P:=Tryz.prog) (t:=22) (H':=H') Tryz.underlying22
    rwa [dy]at this
   have hup:zgu Tryz.prog H2 98 (.map X.rt) (.str (kW n)) (.int .i64 s.l.length)=some (H2.set X.rt (.map (eW (atV (s.l++[n]) 0)))):=by
    rw[(zot (P:=Tryz.prog) (t:=98) (nm:=kW n) Tryz.underlying98 zgH hR2.t).1 ((FH (kW n) (atV s.l 0) 0).1 f1).1,<-ztg];simp[eW]
   have hbn:=Ms hk n.op n.imm;have hone:=hk.one;have hbs:∀H,zfn Tryz.prog H 22 1 [(0,.agg [.int .i64 n.op,.int .i64 n.imm,kv])]=some (.sl H.next 0 1 3,H.alloc (.cells [.int .i64 n.op,.int .i64 n.imm,kv] 0 true)):=fun H=>Bn H rfl BC;have g3:∀k,k≠X.rt->(H2.set X.rt (.map (eW (atV (s.l++[n]) 0)))).get k=H2.get k:=fun k hk=>jg;have g4:∀k,k≠X.rt->k<H2.next->((H2.set X.rt (.map (eW (atV (s.l++[n]) 0)))).alloc (.cells [.int .i64 n.op,.int .i64 n.imm,kv] 0 true)).get k=H2.get k:=fun k hk hl=>by rw[zd1,ah dQ,g3 k hk]
   have m3:(H2.set X.rt (.map (eW (atV (s.l++[n]) 0)))).get X.b=some (.cells (zfK X s lv vv) 0 true):=by rw[g3 _ ac];exact hR2.m
   have m4:((H2.set X.rt (.map (eW (atV (s.l++[n]) 0)))).alloc (.cells [.int .i64 n.op,.int .i64 n.imm,kv] 0 true)).get X.b=some (.cells (zfK X s lv vv) 0 true):=by rw[g4 _ ac ac];exact hR2.m
   have g4n:((H2.set X.rt (.map (eW (atV (s.l++[n]) 0)))).alloc (.cells [.int .i64 n.op,.int .i64 n.imm,kv] 0 true)).get H2.next=some (.cells [.int .i64 n.op,.int .i64 n.imm,kv] 0 true):=xX
   have hkS:∀k,zd3 kv k->k<H.next:=fun k hk2=>(hk.lt hk2).2
   obtain⟨H5,a5,s5,n5,q5⟩:=FI (P:=Tryz.prog) (t:=22) Tryz.underlying22 oW vp vq rfl aC (S':=fun k=>S k\/zd3 kv k\/k=H2.next+1)
    (hR2.nodes.keep (S':=S) (H':=(H2.set X.rt (.map (eW (atV (s.l++[n]) 0)))).alloc (.cells [.int .i64 n.op,.int .i64 n.imm,kv] 0 true)) (fun _ _ h=>h) (cZ _) fun k hk h6=>g4 k (by have:=(hR2.sS k hk).1;omega) h6)
    (fun k _ h=>.inl h) (.inr (.inr rfl)) (r:=H2.next) (imm:=0) (row:=[.int .i64 n.op,.int .i64 n.imm,kv]) (w:=n.cells) g4n rfl BC
    (FK n.op n.imm (lo:=0) (hk.keep FJ fun k hk2=>by rw[g4 k (by have:=(hkf k hk2).1;omega) (by have:=hkS k hk2;omega)];exact hold.get k (hkS k hk2)) fun k hk2=>⟨.inr (.inl hk2),fun o m z' e=>(hkf k hk2).2.1 (by
      rcases hR2.nodes with⟨h1,_⟩|⟨q,im,rows,h1,h2,_⟩
      .rw[h1]at e;cases e
      .rw[h1]at e;simp only[AV.sl.injEq]at e;rw[<-e.1];exact h2)⟩)
    wj wj
   rw[dy]at a5 s5;simp only[zea,zef]at a5 s5 n5 q5;have hno:∀k,(¬S k)->∀o m z',lv≠.sl k o m z':=fun k hk o m z' e=>hk (by
    rcases hR2.nodes with⟨h1,_⟩|⟨q,im,rows,h1,h2,_⟩
    .rw[h1]at e;cases e
    .rw[h1]at e;simp only[AV.sl.injEq]at e;rw[<-e.1];exact h2)
   have m5:H5.get X.b=some (.cells (zfK X s lv vv) 0 true):=by rw[q5 _ ac (hno _ fun e=>yw)];exact m4
   have hlo:∀k,k<H2.next->k≠X.rt->¬S k->H5.get k=H2.get k:=fun k h1 h2 h3=>by rw[q5 _ ac (hno _ h3)];exact g4 k h2 h1
   have t5:H5.get X.rt=some (.map (eW (atV (s.l++[n]) 0))):=by rw[q5 _ ac (hno _ fun e=>yw),zd1,ah dQ,bz,aE rfl]
   have hpo:zdS n s=(((fP s.l n:Nat):Int),{s with l:=s.l++[n] }):=by rw[zdS,hadd]
   have fin:wl X S vv kv H n s (.int .i64 s.l.length) (H5.set X.b (.cells (zfK X {s with l:=s.l++[n] } (.sl (H2.next+1) 0 (s.l.length+1) 3) vv) 0 true)):=by
    rw[wl,hpo,hix];have g6:∀k,k≠X.b->(H5.set X.b (.cells (zfK X {s with l:=s.l++[n] } (.sl (H2.next+1) 0 (s.l.length+1) 3) vv) 0 true)).get k=H5.get k:=fun k hk=>jg;refine⟨rfl,fun k=>S k\/zd3 kv k\/k=H2.next+1,_,⟨ft,?_,?_,?_,?_,?_,?_,o1,o2,o3,o4,?_,?_,?_⟩,?_,?_,?_⟩
    .rw[g6 _ ac,hlo _ ac ac fun e=>yw];exact hR2.a
    .rw[g6 _ ac,hlo _ ac ac fun e=>yw];exact hR2.f
    .rw[g6 _ ac];exact t5
    .rw[g6 _ ac,hlo _ ac ac fun e=>yw];exact hR2.n
    .have e:(s.l++[n]).map Nd.cells=s.l.map Nd.cells++[n.cells]:=by simp
     rw[e];refine s5.keep (fun _ _ h=>h) (aM _) fun k hk _=>g6 k ?_;rcases hk with hk|hk|hk
     .have:=(hR2.sS _ hk).1;omega
     .have:=(hkf _ hk).1;omega
     .omega
    .exact hR2.vars.keep dQ fun k hk=>by rw[g6 k (by have:=(hR2.vS k hk).1;omega),hlo k (hR2.vS k hk).2 (by have:=(hR2.vS k hk).1;omega) fun e=>(hR2.sS k e).2.2 hk]
    .simp only[zef];omega
    .rintro k (hk|hk|hk)
     .have:=hR2.sS k hk;exact⟨this.1,dQ,this.2.2⟩
     .have:=hkf k hk;have h2:=hkS k hk;exact⟨this.1,dQ,this.2.2⟩
     .refine⟨ac,dQ,fun e=>?_⟩;have:=(hR2.vS k e).2;omega
    .intro k hk;have:=hR2.vS k hk;simp only[zef];omega
    .simp only[zef];omega
    .intro k h1 h2 h3 h4;rw[g6 k h2,hlo k ac h3 h4];exact hold.get k h1
    .rintro k (hk|hk|hk)
     .exact .inl hk
     .exact .inr (.inl hk)
     .exact .inr (.inr ac)
   unfold zfK at m3 m4 m5 fin;clear s5 hlo t5 g3 g4 q5 hkS;repeat' (first
    |(apply au ?_;clear hK K)|apply Ry.o ?_|apply cD ?_|(apply aV (fun hb hbp=>?_) (fun hb hbp=>?_)<;>try(cases hb;done))|apply am ?_|(apply zdQ fun K hK=>?_)|(apply zdP 7 [(3,12),(5,12),(6,12)] fun K hK=>?_)|(apply vy 10 fun K hK=>?_)|(apply zdU ?_;try intro _)|(apply zdV ?_ ?_<;>clear hK K)|apply aH ?_|apply aA ?_|apply zdR ?_|apply aB ?_|apply zdT ?_)
   all_goals first
    |exact eK
    |skip
   all_goals (refine⟨zdZ,_,zd6,?_⟩;try simp only[zdY])
   exact fin
end
section
def tyLoC.tyF:=ad @dC (ad @eU (ad @ge (ad @en (ad @jO (ad @kO (ad @iw (ad @qO (ad @tP (@tQ)))))))))
open tyLoC
noncomputable def Mu:{c:SC // aS 8 (Tryz.f87.body.getD .skip)=c}:=by
 refine⟨?_,?_⟩;rotate_left
 .simp only[Tryz.f87,cj,aS,zen,zel,zeu,zev,Nat.blt,Nat.ble];rfl
noncomputable def Mv:{c:SC // aS 18 (Tryz.f138.body.getD .skip)=c}:=by
 refine⟨?_,?_⟩;rotate_left
 .simp only[Tryz.f138,cj,aS,zen,zel,zeu,zev,Nat.blt,Nat.ble];rfl
noncomputable def BE:{c:SC // aS 19 (Tryz.f164.body.getD .skip)=c}:=by
 refine⟨?_,?_⟩;rotate_left
 .simp only[Tryz.f164,cj,aS,zen,zel,zeu,zev,Nat.blt,Nat.ble];rfl
noncomputable def Mw:{c:SC // aS 25 (Tryz.f136.body.getD .skip)=c}:=by
 refine⟨?_,?_⟩;rotate_left
 .simp only[Tryz.f136,cj,aS,zen,zel,zeu,zev,Nat.blt,Nat.ble];rfl
def qm(X:Lx)(S:Nat->Prop)(vv:AV)(H:Hp)(r:Int×Bd)(v:AV)(H':Hp):Prop:=v=.int .i64 r.1/\∃S' lv',RepL X H' S' r.2 lv' vv/\FrL X S vv H S' vv H'
def My(X:Lx)(S:Nat->Prop)(vv:AV)(H:Hp)(r:Bd)(v:AV)(H':Hp):Prop:=∃S' lv' vv',RepL X H' S' r lv' vv'/\FrL X S vv H S' vv' H'
def Mz(X:Lx)(S:Nat->Prop)(vv:AV)(H:Hp)(r:Bd)(v:AV)(H':Hp):Prop:=∃S' lv',RepL X H' S' r lv' vv/\FrL X S vv H S' vv H'
theorem wl.val{X:Lx}{S:Nat->Prop}{vv kv:AV}{H H1 H':Hp}{n:Nd}{s:Bd}{v:AV}(h:wl X S vv kv H1 n s v H')(hf:FrL X S vv H S vv H1)(hk:∀k,zd3 kv k->H.next<=k):qm X S vv H (zdS n s) v H':=by
 obtain⟨h1,S',lv',h2,h3,h4,h5⟩:=h;refine⟨h1,S',lv',h2,dr hf.next h3,fun k a b c d e=>?_,fun k a=>?_,fun k a=>.inl a⟩
 .rw[h4 k (qE a hf.next) b c d];exact hf.get k a b c d e
 .rcases h5 k a with a|a|a
  .exact .inl a
  .exact .inr (hk k a)
  .exact .inr (dr hf.next a)
theorem yx{r o n z k:Nat}(h:zd3 (.sl r o n z) k):k=r:=by
 obtain⟨m,e⟩:=h;simp only[AV.sl.injEq]at e;exact e.1.symm
theorem rC{k:Nat}(h:zd3 .nilS k):False:=by
 obtain⟨m,e⟩:=h;cases e
theorem qn{tb:List En}(hG:LowT tb){X:Lx}{H H1:Hp}{S:Nat->Prop}{s:Bd}{lv vv:AV}(hR:RepL X H1 S s lv vv)(hf:FrL X S vv H S vv H1)(n:Nd){r m:Nat}(hm:n.kids.length=m)(hg:H1.get r=some (.cells (n.kids.map (.int .i64)) 0 true))(hr:H.next<=r)(hr2:r<H1.next)(hb:X.b<r)(hS:¬S r)(hv:¬zd3 vv r)(hF:Fin (zdS n s).2){op imm:Int}(hop:n.op=op)(him:n.imm=imm):
 zd5 Tryz.prog (zdW pls tb) 86 [.ptr X.b 0,.int .i64 op,.int .i64 imm,.sl r 0 m 1] H1 (qm X S vv H (zdS n s)):=by
 subst hm;subst hop;subst him;refine bp ?_ (Mt hG hR n (.inr ⟨r,0,rfl,hg,dE _,dE _,hr2⟩) (fun k hk=>?_) hF.r (ur (ux s.l n).length_le hF.l))
 .intro v H' h;exact h.val hf fun k hk=>by rw[yx hk];exact hr
 .rw[yx hk];exact⟨hb,hS,hv⟩
theorem zxm{tb:List En}(hG:LowT tb){X:Lx}{H H1:Hp}{S:Nat->Prop}{s:Bd}{lv vv:AV}(hR:RepL X H1 S s lv vv)(hf:FrL X S vv H S vv H1)(op imm:Int)(hF:Fin (zdS ⟨op,imm,[]⟩ s).2):
 zd5 Tryz.prog (zdW pls tb) 86 [.ptr X.b 0,.int .i64 op,.int .i64 imm,.nilS] H1 (qm X S vv H (zdS ⟨op,imm,[]⟩ s)):=by
 refine bp ?_ (Mt hG hR ⟨op,imm,[]⟩ (.inl ⟨rfl,rfl⟩) (fun k hk=>(rC hk).elim) hF.r (ur (ux s.l _).length_le hF.l));intro v H' h;exact h.val hf fun k hk=>(rC hk).elim
theorem RepL.new{X:Lx}{H:Hp}{S:Nat->Prop}{s:Bd}{lv vv:AV}(h:RepL X H S s lv vv){r:Nat}(hr:H.next<=r):¬S r/\¬zd3 vv r/\X.b<r:=⟨fun e=>by have:=(h.sS r e).2.1;omega,fun e=>by have:=(h.vS r e).2;omega,by have:=h.o5;omega⟩
theorem qm.pre{X:Lx}{S S0:Nat->Prop}{vv:AV}{H zeo:Hp}{r:Int×Bd}{v:AV}{H':Hp}(h:qm X S vv H r v H')(hf:FrL X S0 vv zeo S vv H):qm X S0 vv zeo r v H':=by
 obtain⟨h1,S',lv',h2,h3⟩:=h;exact⟨h1,S',lv',h2,hf.trans h3⟩
theorem BF{tb:List En}(hG:LowT tb){X:Lx}{H H1:Hp}{S:Nat->Prop}{s:Bd}{lv vv:AV}(hR:RepL X H1 S s lv vv)(hf:FrL X S vv H S vv H1)(n:Int)(hF:Fin (zdS ⟨1,n,[]⟩ s).2):
 zd5 Tryz.prog (zdW pls tb) 87 [.ptr X.b 0,.int .i64 n] H1 (qm X S vv H (zdS ⟨1,n,[]⟩ s)):=by
 have hw:Plain (zdW pls tb) 87:=hG.plain ei;refine zed (M:=8) (rs:=[.tmp 4]) (hw.call _) hw.ice hw.froz Tryz.func87 rfl rfl Mu.2 rfl ?_;dsimp only[Mu,zd8,Nat.reduceAdd];repeat' (first
  |(apply au ?_;clear hK K)|apply Rx.o ?_|apply am ?_|(apply zdQ fun K hK=>?_)|apply aB ?_)
 refine bA rfl bE bF ?_;simp only[bB];refine bp ?_ (zxm hG hR hf 1 n hF);rintro v H2 h2;obtain⟨rfl,h3⟩:=id h2;dsimp only[zd4];repeat' (first
  |(apply au ?_;clear hK K)|apply Rx.o ?_|apply am ?_|(apply zdQ fun K hK=>?_)|apply aB ?_)
 all_goals (refine⟨zdZ,_,zd6,?_⟩;try simp only[zdY])
 exact h2
theorem rD(H:Hp)(a b:Int):zfn Tryz.prog H 23 2 [(0,.int .i64 a),(1,.int .i64 b)]=some (.sl H.next 0 2 1,H.alloc (.cells [.int .i64 a,.int .i64 b] 0 true)):=aC
theorem BG(H:Hp)(a b c:Int):zfn Tryz.prog H 23 3 [(0,.int .i64 a),(1,.int .i64 b),(2,.int .i64 c)]=some (.sl H.next 0 3 1,H.alloc (.cells [.int .i64 a,.int .i64 b,.int .i64 c] 0 true)):=aC
theorem wm(H:Hp)(a:Int):zfn Tryz.prog H 23 1 [(0,.int .i64 a)]=some (.sl H.next 0 1 1,H.alloc (.cells [.int .i64 a] 0 true)):=aC
theorem FM{tb:List En}(hG:LowT tb){X:Lx}{H H1:Hp}{S:Nat->Prop}{s:Bd}{lv vv:AV}(hR:RepL X H1 S s lv vv)(hf:FrL X S vv H S vv H1)(t v:Int)(hF:Fin (ky t v s)):
 zd5 Tryz.prog (zdW pls tb) 138 [.ptr X.b 0,.int .i64 t,.int .i64 v] H1 (Mz X S vv H (ky t v s)):=by
 have hw:Plain (zdW pls tb) 138:=hG.plain ei;have zeX:=hR.m;unfold zfK at zeX;refine zed (M:=18) (rs:=[]) (hw.call _) hw.ice hw.froz Tryz.func138 rfl rfl Mv.2 rfl ?_;dsimp only[Mv,zd8,Nat.reduceAdd];have gh0:=@rD;repeat' (first
  |(apply au ?_;clear hK K)|apply Rx.o ?_|apply ba ?_|(apply zdQ fun K hK=>?_))
 refine bA rfl bE bF ?_;simp only[bB];have nw:=hR.new (aM _);refine bp ?_ (qn hG (hR.alloc _) (hf.alloc _) ⟨27,t,[s.state,v]⟩ rfl ev hf.next (cL _) nw.2.2 nw.1 nw.2.1 (hF.le ⟨ol _,aM _⟩) rfl rfl);rintro w H2 ⟨rfl,S2,lv2,R2,F2⟩;have m2:=R2.m;unfold zfK at m2;dsimp only[zd4];repeat' (first
  |(apply au ?_;clear hK K)|apply Rx.o ?_|apply ba ?_|(apply zdQ fun K hK=>?_))
 all_goals (refine⟨zdZ,_,zd6,?_⟩;try simp only[zdY])
 obtain⟨a,b⟩:=R2.setS (zdS ⟨27,t,[s.state,v]⟩ s).1;exact⟨S2,lv2,a,F2.trans b⟩
theorem MA{tb:List En}(hG:LowT tb){X:Lx}{H H1:Hp}{S:Nat->Prop}{s:Bd}{lv vv:AV}(hR:RepL X H1 S s lv vv)(hf:FrL X S vv H S vv H1)(c a b:Int)(hF:Fin (zet c a b s).2):
 zd5 Tryz.prog (zdW pls tb) 164 [.ptr X.b 0,.int .i64 c,.int .i64 a,.int .i64 b] H1 (qm X S vv H (zet c a b s)):=by
 have hw:Plain (zdW pls tb) 164:=hG.plain ei;by_cases h:a=b
 .subst h;have e:zet c a a s=(a,s):=by rw[zet,aE rfl]
  rw[e];refine zed (M:=19) (rs:=[.tmp 8]) (hw.call _) hw.ice hw.froz Tryz.func164 rfl rfl BE.2 rfl ?_;dsimp only[BE,zd8,Nat.reduceAdd];repeat' (first
   |(apply au ?_;clear hK K)|apply Ry.o ?_|(apply aV (fun hb hbp=>?_) (fun hb hbp=>?_)<;>try(cases hb;done))|apply am ?_|(apply zdQ fun K hK=>?_)|apply zdR ?_|apply aB ?_)
  all_goals (refine⟨zdZ,_,zd6,?_⟩;try simp only[zdY])
  exact⟨rfl,S,lv,hR,hf⟩
 .have e:zet c a b s=zdS ⟨22,0,[c,a,b]⟩ s:=by rw[zet,ah h]
  rw[e]at hF⊢;have nw:=hR.new (aM _);refine zed (M:=19) (rs:=[.tmp 8]) (hw.call _) hw.ice hw.froz Tryz.func164 rfl rfl BE.2 rfl ?_;dsimp only[BE,zd8,Nat.reduceAdd];have gh0:=@BG;repeat' (first
   |(apply au ?_;clear hK K)|apply Ry.o ?_|(apply aV (fun hb hbp=>?_) (fun hb hbp=>?_)<;>try(cases hb;done))|apply am ?_|(apply zdQ fun K hK=>?_)|apply zdR ?_|apply aB ?_)
  refine bA rfl bE bF ?_;simp only[bB];refine bp ?_ (qn hG (hR.alloc _) (hf.alloc _) ⟨22,0,[c,a,b]⟩ rfl ev hf.next (cL _) nw.2.2 nw.1 nw.2.1 hF rfl rfl);intro w H2 h2;obtain⟨rfl,h3⟩:=id h2;dsimp only[zd4];repeat' (first
   |(apply au ?_;clear hK K)|apply Rx.o ?_|apply am ?_|(apply zdQ fun K hK=>?_)|apply zdR ?_|apply aB ?_)
  all_goals (refine⟨zdZ,_,zd6,?_⟩;try simp only[zdY])
  exact h2
theorem zov{tb:List En}(hG:LowT tb){X:Lx}{H H1:Hp}{S:Nat->Prop}{s:Bd}{lv vv:AV}(hR:RepL X H1 S s lv vv)(hf:FrL X S vv H S vv H1)(k:Nat)(i:Int){a:Ar}(ha:X.p.arrays[k]?=some a)(hF:Fin (fQ a.len i s)):
 zd5 Tryz.prog (zdW pls tb) 136 [.ptr X.b 0,.int .i64 (k:Int),.int .i64 i] H1 (Mz X S vv H (fQ a.len i s)):=by
 have hw:Plain (zdW pls tb) 136:=hG.plain ei;have zeX:=hR.m;unfold zfK at zeX;have hF2:Fin (zdS ⟨19,0,[i,(zdS ⟨1,a.len,[]⟩ s).1]⟩ (zdS ⟨1,a.len,[]⟩ s).2).2:=hF.le (rB _ _ _).le;have hF1:Fin (zdS ⟨1,a.len,[]⟩ s).2:=hF2.le (zfa _ _).le;refine zed (M:=25) (rs:=[]) (hw.call _) hw.ice hw.froz Tryz.func136 rfl rfl Mw.2 rfl ?_;dsimp only[Mw,zd8,Nat.reduceAdd];repeat' (first
  |(apply au ?_;clear hK K)|apply Rx.o ?_|apply am ?_|(apply zdQ fun K hK=>?_))
 refine bA rfl bE bF ?_;simp only[bB];refine bp ?_ (BF hG hR hf a.len hF1);rintro w H2 ⟨rfl,S2,lv2,R2,F2⟩;dsimp only[zd4];have nw:=R2.new (aM _);have gh0:=@rD;repeat' (first
  |(apply au ?_;clear hK K)|apply Rx.o ?_|apply am ?_|(apply zdQ fun K hK=>?_))
 refine bA rfl bE bF ?_;simp only[bB];refine bp ?_ (qn hG (R2.alloc _) ((hZ _ _ _ _).alloc _) ⟨19,0,[i,(zdS ⟨1,a.len,[]⟩ s).1]⟩ rfl ev (aM _) (cL _) nw.2.2 nw.1 nw.2.1 hF2 rfl rfl);rintro w H3 ⟨rfl,S3,lv3,R3,F3⟩;dsimp only[zd4];repeat' (first
  |(apply au ?_;clear hK K)|apply Rx.o ?_|apply am ?_|(apply zdQ fun K hK=>?_))
 refine bA rfl bE bF ?_;simp only[bB];refine bp ?_ (FM hG R3 (hZ _ _ _ _) 2 _ hF);rintro w H4 ⟨S4,lv4,R4,F4⟩;dsimp only[zd4];repeat' (first
  |(apply au ?_;clear hK K)|apply Rx.o ?_|apply am ?_|(apply zdQ fun K hK=>?_))
 all_goals (refine⟨zdZ,_,zd6,?_⟩;try simp only[zdY])
 exact⟨S4,lv4,R4,F2.trans (F3.trans F4)⟩
end
section
def tyLoD.tyF:=ad @eI (ad @dC (ad @eU (ad @ge (ad @en (ad @iw (ad @gg (ad @fW (ad @tP (ad @tQ (ad @rD (@wm)))))))))))
open tyLoD
noncomputable def oD:{c:SC // aS 110 (Tryz.f89.body.getD .skip)=c}:=by
 refine⟨?_,?_⟩;rotate_left
 .simp only[Tryz.f89,cj,aS,zen,zel,zeu,zev,Nat.blt,Nat.ble];rfl
noncomputable def MB:{c:SC // aS 58 (Tryz.f137.body.getD .skip)=c}:=by
 refine⟨?_,?_⟩;rotate_left
 .simp only[Tryz.f137,cj,aS,zen,zel,zeu,zev,Nat.blt,Nat.ble];rfl
structure CxOk (X:Lx) (c:Cx):Prop where
 ar:c.arrays=X.p.arrays
 ae:∀nm,i8 X.ae nm=cR (c.arrays.map (·.name)) nm
 ne:∀nm,i8 X.ne nm=cR c.names nm
 fe:∀nm,0<=zfc c.funcs nm 0->i8 X.fe nm=zfc c.funcs nm 0
theorem FrL.box{X:Lx}{H1 H2:Hp}{S S2:Nat->Prop}{s:Bd}{lv vv vv2:AV}(hR:RepL X H1 S s lv vv){b:HB}(h:FrL X S vv (H1.alloc b) S2 vv2 H2):H2.get H1.next=some b:=by
 have n:=hR.new (aM _);have o3:=hR.o3;have o4:=hR.o4;rw[h.get _ (cL _) (by have:=n.2.2;omega) (by have:=n.2.2;omega) n.1 n.2.1,zd1,aE rfl]
def qo:=@FrL.box
theorem RepL.lkN{X:Lx}{c:Cx}(hX:CxOk X c){H:Hp}{S:Nat->Prop}{s:Bd}{lv vv:AV}(hR:RepL X H S s lv vv)(nm:zeP):zge Tryz.prog H 98 (.map X.rn) (.str nm) false=some (.int .i64 (cR c.names nm)):=by
 rw[<-hX.ne];exact Mb (P:=Tryz.prog) Tryz.underlying98 zgH FL hR.n nm
theorem RepL.lkA{X:Lx}{c:Cx}(hX:CxOk X c){H:Hp}{S:Nat->Prop}{s:Bd}{lv vv:AV}(hR:RepL X H S s lv vv)(nm:zeP):zge Tryz.prog H 98 (.map X.ra) (.str nm) false=some (.int .i64 (cR (c.arrays.map (·.name)) nm)):=by
 rw[<-hX.ae];exact Mb (P:=Tryz.prog) Tryz.underlying98 zgH FL hR.a nm
theorem RepL.atV{X:Lx}{H:Hp}{S:Nat->Prop}{s:Bd}{lv vv:AV}(h:RepL X H S s lv vv){i:Nat}{x:Int}(hi:s.vars[i]?=some x):∃r,zeE Tryz.prog 23 vv (.int .i64 (i:Int))=some (.ptr r i)/\zfC Tryz.prog H 3 (.ptr r i)=some (.int .i64 x):=by
 have hlt:i<s.vars.length:=by
  by_cases c:i<s.vars.length
  .exact c
  .rw[iY ac]at hi;cases hi
 obtain⟨r,h1,h2,_⟩:=h.setV hlt 0;refine⟨r,h1,?_⟩;rw[h2,dM,hi];rfl
set_option maxRecDepth 100000 in
theorem MC{tb:List En}(hG:LowT tb){X:Lx}{c:Cx}(hX:CxOk X c):∀(n:Nat) (x:Ex) (s:Bd) (r:Int×Bd),eL c n x s=some r->Fin r.2->∀{H H1:Hp}{S:Nat->Prop}{lv vv:AV},RepL X H1 S s lv vv->FrL X S vv H S vv H1 ->
 zd5 Tryz.prog (zdW pls tb) 89 [.ptr X.b 0,.agg x.cells] H1 (qm X S vv H r)
 |0,x,s,r,h,_,_,_,_,_,_,_,_=>by simp[eL]at h
 |n+1,x,s,r,h,hF,H,H1,S,lv,vv,hR,hf=>by
  have IH:=MC hG hX n;have hw:Plain (zdW pls tb) 89:=hG.plain ei;have hwc:Plain (zdW pls tb) 137:=hG.plain ei;have R1:=hR.alloc (.cells x.cells 0 true);have F1:=hf.alloc (.cells x.cells 0 true);have zeX:=R1.m;unfold zfK at zeX;have nw:=hR.new (aM _);unfold eL at h;by_cases h1:x.kind=1
  .rw[aE h1,aQ]at h;subst h;refine zed (M:=110) (rs:=[.tmp 4]) (hw.call _) hw.ice hw.froz Tryz.func89 rfl rfl oD.2 rfl ?_;dsimp only[oD,zd8,Nat.reduceAdd];repeat' (first
    |(apply au ?_;clear hK K)|apply Ry.o ?_|(apply bS (fun hg hgp=>?_) (fun hg hgp=>?_)<;>try(cases hg;done))|(apply aV (fun hb hbp=>?_) (fun hb hbp=>?_)<;>try(cases hb;done))|apply am ?_|(apply zdQ fun K hK=>?_)|(apply zdP 5 [(3,14),(7,14),(9,14),(10,14),(12,14)] fun K hK=>?_)|(apply zdP 7 [(2,5),(4,5),(9,5),(9,15),(11,5),(11,15),(12,5),(12,15)] fun K hK=>?_)|(apply zdU ?_;try intro _)|(apply zdV ?_ ?_<;>clear hK K)|apply aH ?_|apply aA ?_|apply zdR ?_|apply aB ?_)
   refine bA rfl bE bF ?_;simp only[bB];refine bp ?_ (BF hG R1 F1 x.n hF);intro w H2 h2;obtain⟨rfl,h3⟩:=id h2;dsimp only[zd4];repeat' (first
    |(apply au ?_;clear hK K)|apply Rx.o ?_|apply am ?_|(apply zdQ fun K hK=>?_)|(apply zdP 5 [(3,14),(7,14),(9,14),(10,14),(12,14)] fun K hK=>?_)|(apply zdP 7 [(2,5),(4,5),(9,5),(9,15),(11,5),(11,15),(12,5),(12,15)] fun K hK=>?_)|(apply zdU ?_;try intro _)|(apply zdV ?_ ?_<;>clear hK K)|apply aH ?_|apply aA ?_|apply zdR ?_|apply aB ?_)
   all_goals (refine⟨zdZ,_,zd6,?_⟩;try simp only[zdY])
   exact h2
  rw[ah h1]at h;by_cases h2:x.kind=2
  .rw[aE h2]at h;obtain⟨v,hv,rfl⟩:=mD.1 h;have hlk:=R1.lkN hX x.name;obtain⟨q,hix,hld⟩:=R1.atV hv;refine zed (M:=110) (rs:=[.tmp 4]) (hw.call _) hw.ice hw.froz Tryz.func89 rfl rfl oD.2 rfl ?_;dsimp only[oD,zd8,Nat.reduceAdd];repeat' (first
    |(apply au ?_;clear hK K)|apply Ry.o ?_|(apply bS (fun hg hgp=>?_) (fun hg hgp=>?_)<;>try(cases hg;done))|(apply aV (fun hb hbp=>?_) (fun hb hbp=>?_)<;>try(cases hb;done))|apply am ?_|(apply zdQ fun K hK=>?_)|(apply zdP 5 [(3,14),(7,14),(9,14),(10,14),(12,14)] fun K hK=>?_)|(apply zdP 7 [(2,5),(4,5),(9,5),(9,15),(11,5),(11,15),(12,5),(12,15)] fun K hK=>?_)|(apply zdU ?_;try intro _)|(apply zdV ?_ ?_<;>clear hK K)|apply aH ?_|apply aA ?_|apply zdR ?_|apply aB ?_)
   all_goals first
    |exact eK
    |skip
   all_goals (refine⟨zdZ,_,zd6,?_⟩;try simp only[zdY])
   exact⟨rfl,S,lv,R1,F1⟩
  rw[ah h2]at h;by_cases h3:x.kind=3
  .rw[aE h3]at h;simp only[gL]at h;obtain⟨k,hk,r1,he,a,ha,rfl⟩:=h;have ha':X.p.arrays[cR (c.arrays.map (·.name)) x.name]?=some a:=by rw[<-hX.ar];exact ha
   have hFc:Fin (fQ a.len r1.1 r1.2):=hF.le (zfa _ _).le;have hlk1:=R1.lkA hX x.name;refine zed (M:=110) (rs:=[.tmp 4]) (hw.call _) hw.ice hw.froz Tryz.func89 rfl rfl oD.2 rfl ?_;dsimp only[oD,zd8,Nat.reduceAdd];repeat' (first
    |(apply au ?_;clear hK K)|apply Ry.o ?_|(apply bS (fun hg hgp=>?_) (fun hg hgp=>?_)<;>try(cases hg;done))|(apply aV (fun hb hbp=>?_) (fun hb hbp=>?_)<;>try(cases hb;done))|apply am ?_|(apply zdQ fun K hK=>?_)|(apply zdP 5 [(3,14),(7,14),(9,14),(10,14),(12,14)] fun K hK=>?_)|(apply zdP 7 [(2,5),(4,5),(9,5),(9,15),(11,5),(11,15),(12,5),(12,15)] fun K hK=>?_)|(apply zdU ?_;try intro _)|(apply zdV ?_ ?_<;>clear hK K)|apply aH ?_|apply aA ?_|apply zdR ?_|apply aB ?_)
   refine bA rfl bE bF ?_;simp only[bB];refine bp ?_ (IH k s r1 he (hFc.le (uy _ _ _).le) R1 (hZ _ _ _ _));rintro v H2 ⟨rfl,S2,lv2,R2,F2⟩;have g2:=qo hR F2;have m2:=R2.m;unfold zfK at m2;have hlk:=R2.lkA hX x.name;have n2:H1.next+1<=H2.next:=F2.next
   dsimp only[zd4];repeat' (first
    |(apply au ?_;clear hK K)|apply Rx.o ?_|apply am ?_|(apply zdQ fun K hK=>?_)|(apply zdP 5 [(3,14),(7,14),(9,14),(10,14),(12,14)] fun K hK=>?_)|(apply zdP 7 [(2,5),(4,5),(9,5),(9,15),(11,5),(11,15),(12,5),(12,15)] fun K hK=>?_)|(apply zdU ?_;try intro _)|(apply zdV ?_ ?_<;>clear hK K)|apply aH ?_|apply aA ?_|apply zdR ?_|apply aB ?_)
   .exact eK
   .refine bA rfl bE bF ?_;simp only[bB];refine bp ?_ (zov hG R2 (hZ _ _ _ _) (cR (c.arrays.map (·.name)) x.name) r1.1 ha' hFc);rintro w H3 ⟨S3,lv3,R3,F3⟩;have m3:=R3.m;unfold zfK at m3;have nw3:=R3.new (aM _);dsimp only[zd4];repeat' (first
     |(apply au ?_;clear hK K)|apply Rx.o ?_|apply am ?_|(apply zdQ fun K hK=>?_)|(apply zdP 5 [(3,14),(7,14),(9,14),(10,14),(12,14)] fun K hK=>?_)|(apply zdP 7 [(2,5),(4,5),(9,5),(9,15),(11,5),(11,15),(12,5),(12,15)] fun K hK=>?_)|(apply zdU ?_;try intro _)|(apply zdV ?_ ?_<;>clear hK K)|apply aH ?_|apply aA ?_|apply zdR ?_|apply aB ?_)
    refine bA rfl bE bF ?_;simp only[bB];refine bp ?_ (qn hG (R3.alloc _) ((hZ _ _ _ _).alloc _) ⟨23,cR (c.arrays.map (·.name)) x.name,[(fQ a.len r1.1 r1.2).state,r1.1]⟩ rfl ev (aM _) (cL _) nw3.2.2 nw3.1 nw3.2.1 hF rfl rfl);intro w H4 h4;have h5:=h4.pre (F1.trans (F2.trans F3));obtain⟨rfl,h6⟩:=h4;dsimp only[zd4];repeat' (first
     |(apply au ?_;clear hK K)|apply Rx.o ?_|apply am ?_|(apply zdQ fun K hK=>?_)|(apply zdP 5 [(3,14),(7,14),(9,14),(10,14),(12,14)] fun K hK=>?_)|(apply zdP 7 [(2,5),(4,5),(9,5),(9,15),(11,5),(11,15),(12,5),(12,15)] fun K hK=>?_)|(apply zdU ?_;try intro _)|(apply zdV ?_ ?_<;>clear hK K)|apply aH ?_|apply aA ?_|apply zdR ?_|apply aB ?_)
    all_goals (refine⟨zdZ,_,zd6,?_⟩;try simp only[zdY])
    exact h5
  rw[ah h3]at h;by_cases h5:x.kind=5
  .rw[aE h5]at h;simp only[gL]at h;obtain⟨k0,hk0,zee,e0,k1,hk1,r1,e1,k2,hk2,r2,e2,rfl⟩:=h;have hFt:Fin (zet zee.1 r1.2.state (zet zee.1 r1.1 r2.1 r2.2).2.state (zet zee.1 r1.1 r2.1 r2.2).2).2:=hF.le ⟨ol _,aM _⟩;have hFv:Fin (zet zee.1 r1.1 r2.1 r2.2).2:=hFt.le (zfX _ _ _ _).le;have hF2:Fin r2.2:=hFv.le (zfX _ _ _ _).le;have hF1:Fin r1.2:=(hF2.le (zfx c n _ _ _ e2).le).le ⟨ol _,aM _⟩;have hF0:Fin zee.2:=hF1.le (zfx c n _ _ _ e1).le;refine zed (M:=110) (rs:=[.tmp 4]) (hw.call _) hw.ice hw.froz Tryz.func89 rfl rfl oD.2 rfl ?_;dsimp only[oD,zd8,Nat.reduceAdd];repeat' (first
    |(apply au ?_;clear hK K)|apply Ry.o ?_|(apply bS (fun hg hgp=>?_) (fun hg hgp=>?_)<;>try(cases hg;done))|(apply aV (fun hb hbp=>?_) (fun hb hbp=>?_)<;>try(cases hb;done))|apply am ?_|(apply zdQ fun K hK=>?_)|(apply zdP 5 [(3,14),(7,14),(9,14),(10,14),(12,14)] fun K hK=>?_)|(apply zdP 7 [(2,5),(4,5),(9,5),(9,15),(11,5),(11,15),(12,5),(12,15)] fun K hK=>?_)|(apply zdU ?_;try intro _)|(apply zdV ?_ ?_<;>clear hK K)|apply aH ?_|apply aA ?_|apply zdR ?_|apply aB ?_)
   refine bA rfl bE bF ?_;simp only[bB];have R1c:=R1.alloc (.cells x.cells 0 true);have F1c:=F1.alloc (.cells x.cells 0 true);have main:zd5 Tryz.prog (zdW pls tb) 137 [.ptr X.b 0,.agg x.cells] (H1.alloc (.cells x.cells 0 true)) (qm X S vv H ((zet zee.1 r1.1 r2.1 r2.2).1,{ (zet zee.1 r1.2.state (zet zee.1 r1.1 r2.1 r2.2).2.state (zet zee.1 r1.1 r2.1 r2.2).2).2 with state:=(zet zee.1 r1.2.state (zet zee.1 r1.1 r2.1 r2.2).2.state (zet zee.1 r1.1 r2.1 r2.2).2).1})):=by
    clear zeX nw;refine zed (M:=58) (rs:=[.tmp 4]) (hwc.call _) hwc.ice hwc.froz Tryz.func137 rfl rfl MB.2 rfl ?_;dsimp only[MB,zd8,Nat.reduceAdd];repeat' (first
     |(apply au ?_;clear hK K)|apply Ry.o ?_|apply cD ?_|apply am ?_|(apply zdQ fun K hK=>?_)|apply zdR ?_|apply aB ?_)
    refine bA rfl bE bF ?_;simp only[bB];refine bp ?_ (IH k0 s zee e0 hF0 R1c (hZ _ _ _ _));rintro v H2 ⟨rfl,S2,lv2,R2,F2⟩;have g2:=qo R1 F2;simp only[zea]at g2;have m2:=R2.m;unfold zfK at m2;dsimp only[zd4];repeat' (first
     |(apply au ?_;clear hK K)|apply Ry.o ?_|apply cD ?_|apply am ?_|(apply zdQ fun K hK=>?_)|apply zdR ?_|apply aB ?_)
    refine bA rfl bE bF ?_;simp only[bB];refine bp ?_ (IH k1 _ r1 e1 hF1 R2 (hZ _ _ _ _));rintro v H3 ⟨rfl,S3,lv3,R3,F3⟩;have g3:=qo R1 (F2.trans F3);have m3:=R3.m;obtain⟨R3s,F3s⟩:=R3.setS zee.2.state;have g3s:=qo R1 (F2.trans (F3.trans F3s));simp only[zea]at g3 g3s;unfold zfK at m3;dsimp only[zfK]at R3s F3s g3s;dsimp only[zd4];repeat' (first
     |(apply au ?_;clear hK K)|apply Ry.o ?_|apply cD ?_|apply am ?_|(apply zdQ fun K hK=>?_)|apply zdR ?_|apply aB ?_)
    refine bA rfl bE bF ?_;simp only[bB];refine bp ?_ (IH k2 _ r2 e2 hF2 R3s (hZ _ _ _ _));rintro v H4 ⟨rfl,S4,lv4,R4,F4⟩;dsimp only[zd4];repeat' (first
     |(apply au ?_;clear hK K)|apply Rx.o ?_|apply ba ?_|apply am ?_|(apply zdQ fun K hK=>?_)|apply zdR ?_|apply aB ?_)
    refine bA rfl bE bF ?_;simp only[bB];refine bp ?_ (MA hG R4 (hZ _ _ _ _) zee.1 r1.1 r2.1 hFv);rintro v H5 ⟨rfl,S5,lv5,R5,F5⟩;have m5:=R5.m;unfold zfK at m5;dsimp only[zd4];repeat' (first
     |(apply au ?_;clear hK K)|apply Rx.o ?_|apply ba ?_|apply am ?_|(apply zdQ fun K hK=>?_)|apply zdR ?_|apply aB ?_)
    refine bA rfl bE bF ?_;simp only[bB];refine bp ?_ (MA hG R5 (hZ _ _ _ _) zee.1 r1.2.state _ hFt);rintro v H6 ⟨rfl,S6,lv6,R6,F6⟩;have m6:=R6.m;unfold zfK at m6;dsimp only[zd4];repeat' (first
     |(apply au ?_;clear hK K)|apply Rx.o ?_|apply ba ?_|apply am ?_|(apply zdQ fun K hK=>?_)|apply zdR ?_|apply aB ?_)
    all_goals (refine⟨zdZ,_,zd6,?_⟩;try simp only[zdY])
    obtain⟨R7,F7⟩:=R6.setS (zet zee.1 r1.2.state (zet zee.1 r1.1 r2.1 r2.2).2.state (zet zee.1 r1.1 r2.1 r2.2).2).1;exact⟨rfl,S6,lv6,R7,F1c.trans (F2.trans (F3.trans (F3s.trans (F4.trans (F5.trans (F6.trans F7))))))⟩
   refine bp ?_ main;intro w H2 h2;obtain⟨rfl,h3⟩:=id h2;dsimp only[zd4];repeat' (first
    |(apply au ?_;clear hK K)|apply Rx.o ?_|apply ba ?_|apply am ?_|(apply zdQ fun K hK=>?_)|apply zdR ?_|apply aB ?_)
   all_goals (refine⟨zdZ,_,zd6,?_⟩;try simp only[zdY])
   exact h2
  rw[ah h5]at h;simp only[ir]at h;obtain⟨k0,hk0,zee,e0,h⟩:=h;by_cases hz:x.kids.length=1
  .rw[aE hz,aQ]at h;subst h;have hF0:Fin zee.2:=hF.le (zfa _ _).le;have hz':((x.kids.length:Nat):Int)=1:=ac;refine zed (M:=110) (rs:=[.tmp 4]) (hw.call _) hw.ice hw.froz Tryz.func89 rfl rfl oD.2 rfl ?_;dsimp only[oD,zd8,Nat.reduceAdd];repeat' (first
    |(apply au ?_;clear hK K)|apply Ry.o ?_|(apply bS (fun hg hgp=>?_) (fun hg hgp=>?_)<;>try(cases hg;done))|(apply aV (fun hb hbp=>?_) (fun hb hbp=>?_)<;>try(cases hb;done))|apply am ?_|(apply zdQ fun K hK=>?_)|(apply zdP 5 [(3,14),(7,14),(9,14),(10,14),(12,14)] fun K hK=>?_)|(apply zdP 7 [(2,5),(4,5),(9,5),(9,15),(11,5),(11,15),(12,5),(12,15)] fun K hK=>?_)|(apply zdU ?_;try intro _)|(apply zdV ?_ ?_<;>clear hK K)|apply aH ?_|apply aA ?_|apply zdR ?_|apply aB ?_)
   refine bA rfl bE bF ?_;simp only[bB];refine bp ?_ (IH k0 s zee e0 hF0 R1 (hZ _ _ _ _));rintro v H2 ⟨rfl,S2,lv2,R2,F2⟩;have g2:=qo hR F2;have nw2:=R2.new (aM _);dsimp only[zd4];repeat' (first
    |(apply au ?_;clear hK K)|apply Ry.o ?_|(apply bS (fun hg hgp=>?_) (fun hg hgp=>?_)<;>try(cases hg;done))|(apply aV (fun hb hbp=>?_) (fun hb hbp=>?_)<;>try(cases hb;done))|apply am ?_|(apply zdQ fun K hK=>?_)|(apply zdP 5 [(3,14),(7,14),(9,14),(10,14),(12,14)] fun K hK=>?_)|(apply zdP 7 [(2,5),(4,5),(9,5),(9,15),(11,5),(11,15),(12,5),(12,15)] fun K hK=>?_)|(apply zdU ?_;try intro _)|(apply zdV ?_ ?_<;>clear hK K)|apply aH ?_|apply aA ?_|apply zdR ?_|apply aB ?_)
   refine bA rfl bE bF ?_;simp only[bB];refine bp ?_ (qn hG (R2.alloc _) ((hZ _ _ _ _).alloc _) ⟨x.op,0,[zee.1]⟩ rfl ev (aM _) (cL _) nw2.2.2 nw2.1 nw2.2.1 hF rfl rfl);intro w H4 h4;have h5:=h4.pre (F1.trans F2);obtain⟨rfl,h6⟩:=h4;dsimp only[zd4];repeat' (first
    |(apply au ?_;clear hK K)|apply Rx.o ?_|apply am ?_|(apply zdQ fun K hK=>?_)|(apply zdP 5 [(3,14),(7,14),(9,14),(10,14),(12,14)] fun K hK=>?_)|(apply zdP 7 [(2,5),(4,5),(9,5),(9,15),(11,5),(11,15),(12,5),(12,15)] fun K hK=>?_)|(apply zdU ?_;try intro _)|(apply zdV ?_ ?_<;>clear hK K)|apply aH ?_|apply aA ?_|apply zdR ?_|apply aB ?_)
   all_goals (refine⟨zdZ,_,zd6,?_⟩;try simp only[zdY])
   exact h5
  rw[ah hz]at h;simp only[gL]at h;obtain⟨k1,hk1,r1,e1,rfl⟩:=h;have hz':¬((x.kids.length:Nat):Int)=1:=ac;have hFd:Fin (if x.op=7\/x.op=8 then jT r1.1 r1.2 else r1.2):=hF.le (zfa _ _).le;have hF1:Fin r1.2:=by
   split at hFd
   .exact hFd.le (BB _ _).le
   .exact hFd
  have hF0:Fin zee.2:=hF1.le (zfx c n _ _ _ e1).le;generalize hq:(if x.op=7\/x.op=8 then jT r1.1 r1.2 else r1.2)=q at *;refine zed (M:=110) (rs:=[.tmp 4]) (hw.call _) hw.ice hw.froz Tryz.func89 rfl rfl oD.2 rfl ?_;dsimp only[oD,zd8,Nat.reduceAdd];repeat' (first
   |(apply au ?_;clear hK K)|apply Ry.o ?_|(apply bS (fun hg hgp=>?_) (fun hg hgp=>?_)<;>try(cases hg;done))|(apply aV (fun hb hbp=>?_) (fun hb hbp=>?_)<;>try(cases hb;done))|apply am ?_|(apply zdQ fun K hK=>?_)|(apply zdP 5 [(3,14),(7,14),(9,14),(10,14),(12,14)] fun K hK=>?_)|(apply zdP 7 [(2,5),(4,5),(9,5),(9,15),(11,5),(11,15),(12,5),(12,15)] fun K hK=>?_)|(apply zdU ?_;try intro _)|(apply zdV ?_ ?_<;>clear hK K)|apply aH ?_|apply aA ?_|apply zdR ?_|apply aB ?_)
  refine bA rfl bE bF ?_;simp only[bB];refine bp ?_ (IH k0 s zee e0 hF0 R1 (hZ _ _ _ _));rintro v H2 ⟨rfl,S2,lv2,R2,F2⟩;have g2:=qo hR F2;dsimp only[zd4];repeat' (first
   |(apply au ?_;clear hK K)|apply Ry.o ?_|(apply bS (fun hg hgp=>?_) (fun hg hgp=>?_)<;>try(cases hg;done))|(apply aV (fun hb hbp=>?_) (fun hb hbp=>?_)<;>try(cases hb;done))|apply am ?_|(apply zdQ fun K hK=>?_)|(apply zdP 5 [(3,14),(7,14),(9,14),(10,14),(12,14)] fun K hK=>?_)|(apply zdP 7 [(2,5),(4,5),(9,5),(9,15),(11,5),(11,15),(12,5),(12,15)] fun K hK=>?_)|(apply zdU ?_;try intro _)|(apply zdV ?_ ?_<;>clear hK K)|apply aH ?_|apply aA ?_|apply zdR ?_|apply aB ?_)
  refine bA rfl bE bF ?_;simp only[bB];refine bp ?_ (IH k1 _ r1 e1 hF1 R2 (hZ _ _ _ _));rintro v H3 ⟨rfl,S3,lv3,R3,F3⟩;have g3:=qo hR (F2.trans F3);have F123:=F1.trans (F2.trans F3);dsimp only[zd4];by_cases hd:x.op=7\/x.op=8
  .rw[aE hd]at hq;subst hq;have hFq:Fin (zdS ⟨16,0,[r1.1,(zdS ⟨1,0,[]⟩ r1.2).1]⟩ (zdS ⟨1,0,[]⟩ r1.2).2).2:=hFd.le (rB _ _ _).le;have hFz:Fin (zdS ⟨1,0,[]⟩ r1.2).2:=hFq.le (zfa _ _).le;rcases hd with h7|h8
   .repeat' (first
     |(apply au ?_;clear hK K)|apply Ry.o ?_|(apply bS (fun hg hgp=>?_) (fun hg hgp=>?_)<;>try(cases hg;done))|(apply aV (fun hb hbp=>?_) (fun hb hbp=>?_)<;>try(cases hb;done))|apply am ?_|(apply zdQ fun K hK=>?_)|(apply zdP 5 [(3,14),(7,14),(9,14),(10,14),(12,14)] fun K hK=>?_)|(apply zdP 7 [(2,5),(4,5),(9,5),(9,15),(11,5),(11,15),(12,5),(12,15)] fun K hK=>?_)|(apply zdU ?_;try intro _)|(apply zdV ?_ ?_<;>clear hK K)|apply aH ?_|apply aA ?_|apply zdR ?_|apply aB ?_)
    refine bA rfl bE bF ?_;simp only[bB];refine bp ?_ (BF hG R3 (hZ _ _ _ _) 0 hFz);rintro v H4 ⟨rfl,S4,lv4,R4,F4⟩;have nw4:=R4.new (aM _);dsimp only[zd4];repeat' (first
     |(apply au ?_;clear hK K)|apply Rx.o ?_|apply am ?_|(apply zdQ fun K hK=>?_)|(apply zdP 5 [(3,14),(7,14),(9,14),(10,14),(12,14)] fun K hK=>?_)|(apply zdP 7 [(2,5),(4,5),(9,5),(9,15),(11,5),(11,15),(12,5),(12,15)] fun K hK=>?_)|(apply zdU ?_;try intro _)|(apply zdV ?_ ?_<;>clear hK K)|apply aH ?_|apply aA ?_|apply zdR ?_|apply aB ?_)
    refine bA rfl bE bF ?_;simp only[bB];refine bp ?_ (qn hG (R4.alloc _) ((hZ _ _ _ _).alloc _) ⟨16,0,[r1.1,(zdS ⟨1,0,[]⟩ r1.2).1]⟩ rfl ev (aM _) (cL _) nw4.2.2 nw4.1 nw4.2.1 hFq rfl rfl);rintro v H5 ⟨rfl,S5,lv5,R5,F5⟩;dsimp only[zd4];repeat' (first
     |(apply au ?_;clear hK K)|apply Rx.o ?_|apply am ?_|(apply zdQ fun K hK=>?_)|(apply zdP 5 [(3,14),(7,14),(9,14),(10,14),(12,14)] fun K hK=>?_)|(apply zdP 7 [(2,5),(4,5),(9,5),(9,15),(11,5),(11,15),(12,5),(12,15)] fun K hK=>?_)|(apply zdU ?_;try intro _)|(apply zdV ?_ ?_<;>clear hK K)|apply aH ?_|apply aA ?_|apply zdR ?_|apply aB ?_)
    refine bA rfl bE bF ?_;simp only[bB];refine bp ?_ (FM hG R5 (hZ _ _ _ _) 1 _ hFd);rintro v H6 ⟨S6,lv6,R6,F6⟩;have F36:=F4.trans (F5.trans F6);have g6:=qo hR (F2.trans (F3.trans F36));have nw6:=R6.new (aM _);have R6':RepL X H6 S6 (jT r1.1 r1.2) lv6 vv:=R6;dsimp only[zd4];repeat' (first
     |(apply au ?_;clear hK K)|apply Rx.o ?_|apply am ?_|(apply zdQ fun K hK=>?_)|(apply zdP 5 [(3,14),(7,14),(9,14),(10,14),(12,14)] fun K hK=>?_)|(apply zdP 7 [(2,5),(4,5),(9,5),(9,15),(11,5),(11,15),(12,5),(12,15)] fun K hK=>?_)|(apply zdU ?_;try intro _)|(apply zdV ?_ ?_<;>clear hK K)|apply aH ?_|apply aA ?_|apply zdR ?_|apply aB ?_)
    refine bA rfl bE bF ?_;simp only[bB];refine bp ?_ (qn hG (R6'.alloc _) ((hZ _ _ _ _).alloc _) ⟨x.op,0,[zee.1,r1.1]⟩ rfl ev (aM _) (cL _) nw6.2.2 nw6.1 nw6.2.1 hF h7 rfl);intro w H7 h7q;have h5q:=h7q.pre (F123.trans F36);obtain⟨rfl,h6q⟩:=h7q;dsimp only[zd4];repeat' (first
     |(apply au ?_;clear hK K)|apply Rx.o ?_|apply am ?_|(apply zdQ fun K hK=>?_)|(apply zdP 5 [(3,14),(7,14),(9,14),(10,14),(12,14)] fun K hK=>?_)|(apply zdP 7 [(2,5),(4,5),(9,5),(9,15),(11,5),(11,15),(12,5),(12,15)] fun K hK=>?_)|(apply zdU ?_;try intro _)|(apply zdV ?_ ?_<;>clear hK K)|apply aH ?_|apply aA ?_|apply zdR ?_|apply aB ?_)
    all_goals (refine⟨zdZ,_,zd6,?_⟩;try simp only[zdY])
    rw[h7]at h5q⊢;exact h5q
   .have h7:¬x.op=7:=by omega
    repeat' (first
     |(apply au ?_;clear hK K)|apply Ry.o ?_|(apply bS (fun hg hgp=>?_) (fun hg hgp=>?_)<;>try(cases hg;done))|(apply aV (fun hb hbp=>?_) (fun hb hbp=>?_)<;>try(cases hb;done))|apply am ?_|(apply zdQ fun K hK=>?_)|(apply zdP 5 [(3,14),(7,14),(9,14),(10,14),(12,14)] fun K hK=>?_)|(apply zdP 7 [(2,5),(4,5),(9,5),(9,15),(11,5),(11,15),(12,5),(12,15)] fun K hK=>?_)|(apply zdU ?_;try intro _)|(apply zdV ?_ ?_<;>clear hK K)|apply aH ?_|apply aA ?_|apply zdR ?_|apply aB ?_)
    refine bA rfl bE bF ?_;simp only[bB];refine bp ?_ (BF hG R3 (hZ _ _ _ _) 0 hFz);rintro v H4 ⟨rfl,S4,lv4,R4,F4⟩;have nw4:=R4.new (aM _);dsimp only[zd4];repeat' (first
     |(apply au ?_;clear hK K)|apply Rx.o ?_|apply am ?_|(apply zdQ fun K hK=>?_)|(apply zdP 5 [(3,14),(7,14),(9,14),(10,14),(12,14)] fun K hK=>?_)|(apply zdP 7 [(2,5),(4,5),(9,5),(9,15),(11,5),(11,15),(12,5),(12,15)] fun K hK=>?_)|(apply zdU ?_;try intro _)|(apply zdV ?_ ?_<;>clear hK K)|apply aH ?_|apply aA ?_|apply zdR ?_|apply aB ?_)
    refine bA rfl bE bF ?_;simp only[bB];refine bp ?_ (qn hG (R4.alloc _) ((hZ _ _ _ _).alloc _) ⟨16,0,[r1.1,(zdS ⟨1,0,[]⟩ r1.2).1]⟩ rfl ev (aM _) (cL _) nw4.2.2 nw4.1 nw4.2.1 hFq rfl rfl);rintro v H5 ⟨rfl,S5,lv5,R5,F5⟩;dsimp only[zd4];repeat' (first
     |(apply au ?_;clear hK K)|apply Rx.o ?_|apply am ?_|(apply zdQ fun K hK=>?_)|(apply zdP 5 [(3,14),(7,14),(9,14),(10,14),(12,14)] fun K hK=>?_)|(apply zdP 7 [(2,5),(4,5),(9,5),(9,15),(11,5),(11,15),(12,5),(12,15)] fun K hK=>?_)|(apply zdU ?_;try intro _)|(apply zdV ?_ ?_<;>clear hK K)|apply aH ?_|apply aA ?_|apply zdR ?_|apply aB ?_)
    refine bA rfl bE bF ?_;simp only[bB];refine bp ?_ (FM hG R5 (hZ _ _ _ _) 1 _ hFd);rintro v H6 ⟨S6,lv6,R6,F6⟩;have F36:=F4.trans (F5.trans F6);have g6:=qo hR (F2.trans (F3.trans F36));have nw6:=R6.new (aM _);have R6':RepL X H6 S6 (jT r1.1 r1.2) lv6 vv:=R6;dsimp only[zd4];repeat' (first
     |(apply au ?_;clear hK K)|apply Rx.o ?_|apply am ?_|(apply zdQ fun K hK=>?_)|(apply zdP 5 [(3,14),(7,14),(9,14),(10,14),(12,14)] fun K hK=>?_)|(apply zdP 7 [(2,5),(4,5),(9,5),(9,15),(11,5),(11,15),(12,5),(12,15)] fun K hK=>?_)|(apply zdU ?_;try intro _)|(apply zdV ?_ ?_<;>clear hK K)|apply aH ?_|apply aA ?_|apply zdR ?_|apply aB ?_)
    refine bA rfl bE bF ?_;simp only[bB];refine bp ?_ (qn hG (R6'.alloc _) ((hZ _ _ _ _).alloc _) ⟨x.op,0,[zee.1,r1.1]⟩ rfl ev (aM _) (cL _) nw6.2.2 nw6.1 nw6.2.1 hF h8 rfl);intro w H7 h7q;have h5q:=h7q.pre (F123.trans F36);obtain⟨rfl,h6q⟩:=h7q;dsimp only[zd4];repeat' (first
     |(apply au ?_;clear hK K)|apply Rx.o ?_|apply am ?_|(apply zdQ fun K hK=>?_)|(apply zdP 5 [(3,14),(7,14),(9,14),(10,14),(12,14)] fun K hK=>?_)|(apply zdP 7 [(2,5),(4,5),(9,5),(9,15),(11,5),(11,15),(12,5),(12,15)] fun K hK=>?_)|(apply zdU ?_;try intro _)|(apply zdV ?_ ?_<;>clear hK K)|apply aH ?_|apply aA ?_|apply zdR ?_|apply aB ?_)
    all_goals (refine⟨zdZ,_,zd6,?_⟩;try simp only[zdY])
    rw[h8]at h5q⊢;exact h5q
  .rw[ah hd]at hq;subst hq;have h7:¬x.op=7:=fun e=>hd (.inl e);have h8:¬x.op=8:=fun e=>hd (.inr e);have nw3:=R3.new (aM _);repeat' (first
    |(apply au ?_;clear hK K)|apply Ry.o ?_|(apply bS (fun hg hgp=>?_) (fun hg hgp=>?_)<;>try(cases hg;done))|(apply aV (fun hb hbp=>?_) (fun hb hbp=>?_)<;>try(cases hb;done))|apply am ?_|(apply zdQ fun K hK=>?_)|(apply zdP 5 [(3,14),(7,14),(9,14),(10,14),(12,14)] fun K hK=>?_)|(apply zdP 7 [(2,5),(4,5),(9,5),(9,15),(11,5),(11,15),(12,5),(12,15)] fun K hK=>?_)|(apply zdU ?_;try intro _)|(apply zdV ?_ ?_<;>clear hK K)|apply aH ?_|apply aA ?_|apply zdR ?_|apply aB ?_)
   refine bA rfl bE bF ?_;simp only[bB];refine bp ?_ (qn hG (R3.alloc _) ((hZ _ _ _ _).alloc _) ⟨x.op,0,[zee.1,r1.1]⟩ rfl ev (aM _) (cL _) nw3.2.2 nw3.1 nw3.2.1 hF rfl rfl);intro w H4 h4;have h5:=h4.pre F123;obtain⟨rfl,h6⟩:=h4;dsimp only[zd4];repeat' (first
    |(apply au ?_;clear hK K)|apply Rx.o ?_|apply am ?_|(apply zdQ fun K hK=>?_)|(apply zdP 5 [(3,14),(7,14),(9,14),(10,14),(12,14)] fun K hK=>?_)|(apply zdP 7 [(2,5),(4,5),(9,5),(9,15),(11,5),(11,15),(12,5),(12,15)] fun K hK=>?_)|(apply zdU ?_;try intro _)|(apply zdV ?_ ?_<;>clear hK K)|apply aH ?_|apply aA ?_|apply zdR ?_|apply aB ?_)
   all_goals (refine⟨zdZ,_,zd6,?_⟩;try simp only[zdY])
   exact h5
end
section
def tyLoE.tyF:=ad @dC (ad @tM (ad @eU (ad @ge (ad @en (ad @iw (ad @hO (ad @gg (ad @fW (ad @vr (ad @iz (ad @tP (@tQ))))))))))))
open tyLoE
def zxo(q:Nat)(H:Hp)(b:List Bool)(v:AV)(H':Hp):Prop:=H'.get q=some (.cells (b.map .bool) 0 true)/\H.next<=H'.next/\∀k,k<H.next->k≠q->H'.get k=H.get k
structure Smq (n q:Nat) (H H':Hp):Prop where
 get:∀k,k<n->k≠q->H'.get k=H.get k
theorem wn(names:List zeP):∀(n:Nat) (l:List St) (b b':List Bool),lR names n l b=some b'->b'.length=b.length
 |0,_,_,_,h=>by simp[lR]at h
 |n+1,[],b,b',h=>by cases h;rfl
 |n+1,x::l,b,b',h=>by
  unfold lR at h;simp only[]at h;split at h
  .cases h
  .simp only[ir]at h;obtain⟨b2,h2,b3,h3,h4⟩:=h;rw[wn names n _ _ _ h4,wn names n _ _ _ h3,wn names n _ _ _ h2];split<;>simp
theorem MD{q n m:Nat}(hm:m<n):zeE Tryz.prog 84 (.sl q 0 n 1) (.int .i64 (m:Int))=some (.ptr q m):=by rw[mL Tryz.underlying84 xC hm];simp
theorem zbo{H:Hp}{r m:Nat}{b:List Bool}(hg:H.get r=some (.cells (b.map .bool) 0 true))(hm:m<b.length)(x:Bool):j5 Tryz.prog H 4 (.ptr r m) (.bool x)=some (H.set r (.cells ((b.set m x).map .bool) 0 true)):=by
 rw[JA hg (by rw[dy];exact hm),re]
end
section
def tyLoF.tyF:=ad @eI (ad @dC (ad @eU (ad @ge (ad @en (ad @iw (ad @hO (ad @gg (ad @fW (ad @iz (ad @tP (ad @tQ (ad @BG (@rD)))))))))))))
open tyLoF
noncomputable def BH:{c:SC // aS 155 (Tryz.f135.body.getD .skip)=c}:=by
 refine⟨?_,?_⟩;rotate_left
 .simp only[Tryz.f135,cj,aS,zen,zel,zeu,zev,Nat.blt,Nat.ble];rfl
section
variable {tb:List En} (hG:LowT tb) {X:Lx} {c:Cx} (hX:CxOk X c) {x:St} {s:Bd} {H:Hp} {S:Nat -> Prop} {lv vv:AV}
set_option maxRecDepth 100000 in
set_option maxHeartbeats 4000000 in
include hG hX in
theorem zdO(hk:x.kind=1){n:Nat}{r:Int×Bd}(he:eL c n x.value s=some r)(hl:cR c.names x.name<r.2.vars.length)(hF:Fin r.2)(hR:RepL X H S s lv vv):
 zd5 Tryz.prog (zdW pls tb) 135 [.ptr X.b 0,.agg x.cells] H (My X S vv H {r.2 with vars:=r.2.vars.set (cR c.names x.name) r.1}):=by
 have hw:Plain (zdW pls tb) 135:=hG.plain ei;have R1:=hR.alloc (.cells x.cells 0 true);have F1:=(hZ X S vv H).alloc (.cells x.cells 0 true);have zeX:=R1.m;unfold zfK at zeX;have hlk1:=R1.lkN hX x.name;have hlv:=zfx c n _ _ _ he;have hl1:cR c.names x.name<s.vars.length:=by rw[<-hlv.v];exact hl
 obtain⟨q,hix,hld,_⟩:=R1.setV hl1 r.1;refine zed (M:=155) (rs:=[]) (hw.call _) hw.ice hw.froz Tryz.func135 rfl rfl BH.2 rfl ?_;dsimp only[BH,zd8,Nat.reduceAdd];repeat' (first
  |(apply au ?_;clear hK K)|apply Ry.o ?_|(apply aV (fun hb hbp=>?_) (fun hb hbp=>?_)<;>try(cases hb;done))|apply am ?_|(apply zdQ fun K hK=>?_)|(apply zdP 3 [(3,14),(3,16),(7,14),(7,16),(9,14),(9,16),(10,14),(10,16),(13,14)] fun K hK=>?_)|(apply zdP 5 [(3,8),(5,8),(6,8)] fun K hK=>?_)|(apply zdP 14 [(2,5),(2,6)] fun K hK=>?_)|(apply zdP 22 [(5,15),(5,16),(7,15),(7,16),(8,15),(8,16),(12,15),(13,15)] fun K hK=>?_)|(apply zdP 23 [(3,17),(3,19),(7,17),(7,19),(9,17),(9,19),(10,17),(10,19),(15,17),(16,17)] fun K hK=>?_)|(apply zdU ?_;try intro _)|(apply zdV ?_ ?_<;>clear hK K)|apply aH ?_|apply zd9 rfl ?_|apply aA ?_)
 refine bA rfl bE bF ?_;simp only[bB];refine bp ?_ (MC hG hX n x.value s r he hF R1 (hZ _ _ _ _));rintro v H2 ⟨rfl,S2,lv2,R2,F2⟩;have g2:=qo hR F2;have m2:=R2.m;unfold zfK at m2;have hlk2:=R2.lkN hX x.name;obtain⟨q',hix',hld',H3,hst,hq1,hq2,hq3,R3,F3,o3,n3⟩:=R2.setV hl r.1;have hqq:q'=q:=by
  rw[hix]at hix';simp only[aQ,AV.ptr.injEq]at hix';exact hix'.1.symm
 subst hqq;have n2:H.next+1<=H2.next:=F2.next
 have m3:=R3.m;have hlk3:=R3.lkN hX x.name;have g3:H3.get H.next=some (.cells x.cells 0 true):=by rw[o3 _ (by have:=hR.new (aM _);intro e;subst e;exact this.2.1 hq3)];exact g2
 dsimp only[zfK]at m3;dsimp only[zd4];repeat' (first
  |(apply au ?_;clear hK K)|apply Rx.o ?_|apply ba ?_|apply am ?_|(apply zdQ fun K hK=>?_)|(apply zdP 3 [(3,14),(3,16),(7,14),(7,16),(9,14),(9,16),(10,14),(10,16),(13,14)] fun K hK=>?_)|(apply zdP 5 [(3,8),(5,8),(6,8)] fun K hK=>?_)|(apply zdP 14 [(2,5),(2,6)] fun K hK=>?_)|(apply zdP 22 [(5,15),(5,16),(7,15),(7,16),(8,15),(8,16),(12,15),(13,15)] fun K hK=>?_)|(apply zdP 23 [(3,17),(3,19),(7,17),(7,19),(9,17),(9,19),(10,17),(10,19),(15,17),(16,17)] fun K hK=>?_)|(apply zdU ?_;try intro _)|(apply zdV ?_ ?_<;>clear hK K)|apply aH ?_|apply zd9 rfl ?_|apply aA ?_)
 .exact eK
 .all_goals (refine⟨zdZ,_,zd6,?_⟩;try simp only[zdY])
  exact⟨S2,lv2,vv,R3,F1.trans (F2.trans F3)⟩
set_option maxRecDepth 100000 in
set_option maxHeartbeats 4000000 in
include hG hX in
set_option maxRecDepth 100000 in
set_option maxHeartbeats 4000000 in
include hG hX in
set_option maxRecDepth 100000 in
set_option maxHeartbeats 4000000 in
include hG in
set_option maxRecDepth 100000 in
set_option maxHeartbeats 4000000 in
include hG in
theorem lst0(h1:¬x.kind=1)(h2:¬x.kind=2)(h3:¬x.kind=3)(h4:¬x.kind=4)(h5:¬x.kind=5)(h6:¬x.kind=6)(h7:¬x.kind=7)(hR:RepL X H S s lv vv):
 zd5 Tryz.prog (zdW pls tb) 135 [.ptr X.b 0,.agg x.cells] H (My X S vv H s):=by
 have hw:Plain (zdW pls tb) 135:=hG.plain ei;have R1:=hR.alloc (.cells x.cells 0 true);have F1:=(hZ X S vv H).alloc (.cells x.cells 0 true);refine zed (M:=155) (rs:=[]) (hw.call _) hw.ice hw.froz Tryz.func135 rfl rfl BH.2 rfl ?_;dsimp only[BH,zd8,Nat.reduceAdd];repeat' (first
  |(apply au ?_;clear hK K)|apply Ry.o ?_|(apply aV (fun hb hbp=>?_) (fun hb hbp=>?_)<;>try(cases hb;done))|apply am ?_|(apply zdQ fun K hK=>?_)|apply aA ?_|apply zdR ?_)
 all_goals (refine⟨zdZ,_,zd6,?_⟩;try simp only[zdY])
 exact⟨S,lv,vv,R1,F1⟩
end
end
section
namespace tyLoF6
end tyLoF6
open tyLoF6
structure RowL (S:Nat->Prop) (vv:AV) (lo:Nat) (H:Hp) (av:AV) (l:List Int):Prop where
 r:ze0 H av l lo
 n:∀k,zd3 av k->¬S k/\¬zd3 vv k
section
variable {tb:List En} (hG:LowT tb) {X:Lx} {c:Cx} (hX:CxOk X c) {x:St} {s:Bd} {H:Hp} {S:Nat -> Prop} {lv vv:AV}
set_option maxRecDepth 100000 in
set_option maxHeartbeats 4000000 in
include hG hX in
end
end
section
def tyLoG.tyF:=ad @eI (ad @dC (ad @eU (ad @ge (ad @en (ad @iw (ad @hO (ad @gg (ad @fW (ad @iz (ad @tP (@tQ)))))))))))
open tyLoG
structure RowZ (S:Nat->Prop) (vv:AV) (lo:Nat) (H:Hp) (av:AV) (l:List Int):Prop where
 r:gQ H av l lo
 n:∀k,zd3 av k->¬S k/\¬zd3 vv k
theorem gQ.lt{H:Hp}{v:AV}{l:List Int}{lo:Nat}(h:gQ H v l lo){k:Nat}(hk:zd3 v k):lo<=k/\k<H.next:=h.n.lt hk
theorem gQ.lo{H:Hp}{v:AV}{l:List Int}{lo lo':Nat}(h:gQ H v l lo)(hl:∀k,zd3 v k->lo'<=k):gQ H v l lo':=by
 rcases h with h|⟨r,h1,h2,h3,h4⟩
 .exact .inl h
 .exact .inr ⟨r,h1,h2,hl r ⟨_,h1⟩,h4⟩
theorem gQ.one{H:Hp}{v:AV}{l:List Int}{lo:Nat}(h:gQ H v l lo):AV.one v=true/\v.cells=[v]:=by
 rcases h with⟨rfl,_⟩|⟨r,rfl,_⟩<;>exact⟨rfl,rfl⟩
theorem RowZ.at{S:Nat->Prop}{vv:AV}{lo:Nat}{H:Hp}{av:AV}{l:List Int}(h:RowZ S vv lo H av l){i:Nat}{x:Int}(hi:l[i]?=some x):∃r,zeE Tryz.prog 23 av (.int .i64 (i:Int))=some (.ptr r i)/\zfC Tryz.prog H 3 (.ptr r i)=some (.int .i64 x)/\zd3 av r:=by
 have hlt:i<l.length:=by
  by_cases c:i<l.length
  .exact c
  .rw[iY ac]at hi;cases hi
 rcases h.r with⟨_,rfl⟩|h2
 .simp at hlt
 .obtain⟨r,h3,h4⟩:=h2.b.at hlt;rw[br hlt]at hi;simp only[aQ]at hi;rw[hi]at h4;refine⟨r,h3,h4,?_⟩;obtain⟨q,e,_⟩:=h2;subst e;rw[mL Tryz.underlying23 gN hlt]at h3;simp only[aQ,AV.ptr.injEq]at h3;exact⟨_,by rw[h3.1]⟩
section
variable {tb:List En} (hG:LowT tb) {X:Lx} {c:Cx} (hX:CxOk X c) {x:St} {s:Bd} {H:Hp} {S:Nat -> Prop} {lv vv:AV}
set_option maxRecDepth 100000 in
set_option maxHeartbeats 8000000 in
include hG hX in
end
end
section
def tyLoH.tyF:=ad @eI (ad @dC (ad @tM (ad @eU (ad @ge (ad @en (ad @iw (ad @hO (ad @gg (ad @fW (ad @vr (ad @iz (ad @tP (ad @tQ (ad @wm (@rD)))))))))))))))
open tyLoH
abbrev uA(l:List Nat):List Int:=l.map fun(i:Nat)=>(i:Int)
theorem zbp{H:Hp}{r imm m:Nat}{b:List Bool}(hg:H.get r=some (.cells (b.map .bool) imm true))(hm:m<b.length):zfC Tryz.prog H 4 (.ptr r m)=some (.bool (b.getD m false)):=by
 rw[r0 Tryz.underlying4 rfl hg,fF,dM,br hm];rfl
def uB(b:List Bool)(i:Nat):List Nat:=(List.range i).filter fun i=>b.getD i false
theorem zk6(b:List Bool)(i:Nat):uB b (i+1)=uB b i++(if b.getD i false=true then [i]else []):=by
 unfold uB;rw[Em,CV]
 congr 1
 by_cases h:b.getD i false=true
 .rw[aE h];simp only[List.filter_cons,h,bN,List.filter_nil]
 .rw[ah h];simp only[List.filter_cons,h,List.filter_nil];rfl
theorem ME{b:List Bool}{i:Nat}(h:i∈zfS b):i<b.length:=by
 unfold zfS at h;exact nK.1 (rX.1 h).1
theorem MF(b:List Bool)(i:Nat):(uB b i).length<=i:=by
 have:=AA (fun i=>b.getD i false) (List.range i);rw[List.length_range]at this;exact this
theorem RowL.at{S:Nat->Prop}{vv:AV}{lo:Nat}{H:Hp}{av:AV}{l:List Int}(h:RowL S vv lo H av l){i:Nat}{x:Int}(hi:l[i]?=some x):∃r,zeE Tryz.prog 23 av (.int .i64 (i:Int))=some (.ptr r i)/\zfC Tryz.prog H 3 (.ptr r i)=some (.int .i64 x):=by
 have hlt:i<l.length:=by
  by_cases c:i<l.length
  .exact c
  .rw[iY ac]at hi;cases hi
 rcases h.r with⟨_,rfl⟩|h2
 .simp at hlt
 .obtain⟨r,h3,h4⟩:=h2.at hlt;rw[br hlt]at hi;simp only[aQ]at hi;rw[hi]at h4;exact⟨r,h3,h4⟩
theorem MG{L j:Nat}(hL:L<2^36)(hj:j<2^36):IntKind.wrap .i64 (16*(L:Int))=16*(L:Int)/\IntKind.wrap .i64 (16*(L:Int)+j)=16*(L:Int)+j/\IntKind.wrap .i64 (16*(L:Int)+j+1)=16*(L:Int)+1+j:=by
 refine⟨zft ac ac,zft ac ac,?_⟩;rw[zft ac ac];omega
theorem MH(base:Int)(w:Nat)(ws:List Nat)(j:Nat)(s:Bd):jU base (w::ws) j s=jU base ws (j+1) { (zdS ⟨3,base+j,[]⟩ s).2 with vars:=(zdS ⟨3,base+j,[]⟩ s).2.vars.set w (zdS ⟨3,base+j,[]⟩ s).1}:=rfl
theorem MI(lp c:Int)(old:List Int)(w:Nat)(ws:List Nat)(j:Nat)(s:Bd):jV lp c old (w::ws) j s=jV lp c old ws (j+1) { (zet c (zdS ⟨25,j,[lp]⟩ s).1 (old.getD w 0) (zdS ⟨25,j,[lp]⟩ s).2).2 with vars:=(zet c (zdS ⟨25,j,[lp]⟩ s).1 (old.getD w 0) (zdS ⟨25,j,[lp]⟩ s).2).2.vars.set w (zet c (zdS ⟨25,j,[lp]⟩ s).1 (old.getD w 0) (zdS ⟨25,j,[lp]⟩ s).2).1}:=rfl
theorem zk7(b:List Bool):(zfS b).Nodup:=List.nodup_range.filter _
section
variable {tb:List En} (hG:LowT tb) {X:Lx} {c:Cx} (hX:CxOk X c) {x:St} {s:Bd} {H:Hp} {S:Nat -> Prop} {lv vv:AV}
set_option maxRecDepth 100000 in
set_option maxHeartbeats 8000000 in
include hG hX in
end
end
section
namespace tyLoJ
end tyLoJ
open tyLoJ
theorem yy:∀(n k:Nat) (s:Bd),zfh s (iC n k s)/\(iC n k s).vars.length=s.vars.length+n
 |0,k,s=>⟨oC s,rfl⟩
 |n+1,k,s=>by
  have e:=yy n (k+1) { (zdS ⟨2,k,[]⟩ s).2 with vars:=(zdS ⟨2,k,[]⟩ s).2.vars++[(zdS ⟨2,k,[]⟩ s).1] };refine⟨(((zfa ⟨2,k,[]⟩ s).le.setV _)).trans e.1,?_⟩;show(iC n (k+1) _).vars.length=_;rw[e.2,eO];show s.vars.length+1+n=_;omega
theorem yz:∀(n:Nat) (s:Bd),zfh s (jW n s)/\(jW n s).vars.length=s.vars.length+n
 |0,s=>⟨oC s,rfl⟩
 |n+1,s=>by
  have e:=yz n { (zdS ⟨1,0,[]⟩ s).2 with vars:=(zdS ⟨1,0,[]⟩ s).2.vars++[(zdS ⟨1,0,[]⟩ s).1] };refine⟨(((zfa ⟨1,0,[]⟩ s).le.setV _)).trans e.1,?_⟩;show(jW n _).vars.length=_;rw[e.2,eO];show s.vars.length+1+n=_;omega
end
theorem ng(n:Nat):(!decide ((0:Int)<n))=decide ((n:Int)=0):=by
 cases n with
 |zero=>rfl
 |succ n=>simp;omega
end Go.Proofs.YtpbcimfiofmoeaaGreat
