/- Lemmas for the last file. -/
import Derived.Test.YtpbcimfiofmoeaaGreatWEK
set_option linter.all false
set_option maxHeartbeats 32000000
namespace Go.Ab
set_option maxRecDepth 20000
open Go
variable{qe:Prop}
def Bn(h:qe:=by simp only[aU]at n5;omega):=h
def EV(h:qe:=by simp only[List.all_cons,List.all_nil,hone];rfl):=h
def eC(h:qe:=by simp only[bq];omega):=h
def mG(h:qe:=by simp only[aU,bq];omega):=h
def oC(h:qe:=by rw[List.length_map,show ee=70368744177664 from rfl];omega):=h
def Bo(h:qe:=by have:=(I.sS _ e).1;omega):=h
def JK(h:qe:=by rw[<- Y,Hp.get_set,if_pos rfl]):=h
def Qg(h:qe:=by rw[Hp.get_set,if_neg j];exact sb.get k Z j):=h
def Qh(h:qe:=by rw[Hp.get_set,if_pos rfl,if_pos (.inr h6)]):=h
def Qi(h:qe:=by rw[o3 _ (by have:=I.new (Nat.le_refl _);grind)];exact g2):=h
def Qj(h:qe:=by have:=F.next;simp only[aU]at n5 this ⊢;omega):=h
def EW(h:qe:=by rw[hlv.v];exact hvl):=h
def Qk(h:qe:=by rw[Hp.get_set,if_neg z,Hp.get_set,if_neg z]):=h
def Qm(h:qe:=by rw[List.length_set,(eZ _ _ _ _).v];exact hil):=h
def EX(h:qe:=by rw[kR ac ac];omega):=h
def te(h:qe:=by rw[aD,if_pos cM]):=h
def Qn(h:qe:=by simp only[aG,Nat.reduceBEq, *];exact hZ (n:=b.vars.length) ac ac):=h
def mH:=@List.drop_eq_nil_of_le
end Go.Ab
namespace Go.Proofs.YtpbcimfiofmoeaaGreat
set_option maxRecDepth 20000
open Go Go.Ab Proofs.Tryz
variable{tb:qC}{H U H':Hp}{v M Z Y:AV}{l:qy}{S S':Nat->Prop}{X:Lx}{s:Bd}{k m i:Nat}{a:Ar}{c:Cx}{x:Int}
section
def tyLoB.tyF:=ad @dQ (ad @cr (ad @oV (ad @cK (ad @jn (ad @fP (ad @eL (ad @sN (ad @sO (ad @oW (ad @rN (ad @M1 (ad @M5 (ad @pS (ad @M7 (ad @M0 (ad @M6 (ad @M8 (ad @NS (ad @Ob (@Oc))))))))))))))))))))
open tyLoB
noncomputable def Qo:{c:SC // aE 20 (f134.body.getD .skip)=c}:=by
 refine⟨?_,?_⟩;rotate_left
 .simp only[f134,bN,aE,bH,bw,bM,bJ,Nat.blt,Nat.ble];rfl
noncomputable def Qp:{c:SC // aE 69 (f86.body.getD .skip)=c}:=by
 refine⟨?_,?_⟩;rotate_left
 .simp only[f86,bN,aE,bH,bw,bM,bJ,Nat.blt,Nat.ble];rfl
def JL(f:FuncId):Bool:=Nat.beq f 134||Nat.beq f 86||Nat.beq f 87||Nat.beq f 88||Nat.beq f 89||Nat.beq f 135||Nat.beq f 136||Nat.beq f 137||Nat.beq f 138||Nat.beq f 162||Nat.beq f 163||Nat.beq f 164||Nat.beq f 185||Nat.beq f 52
structure zd9 (tb:qC):Prop where
 pl:∀f,JL f=true->(∀ar,dE tb f ar=none)/\iA tb f=false
def zd9.plain(h:zd9 tb){f:FuncId}(j:JL f=true):zd0 (au pls tb) f:=ei (h.pl f j).1 (h.pl f j).2
def Qq{cfg:Cfg}(I:zd0 cfg 134)(Y:cfg.keep 134=false){b:qy}{lo:Nat}(hv:mA H v b lo)(hb:b.length<2^38)(n:Int):
 aR prog cfg 134 [v,.int .u64 n] H fun w H'=>mA H' w (b++jM n 8) lo/\H.next<=H'.next/\∀k,k<lo->H'.get k=H.get k:=by
 obtain⟨br,i0,U,_⟩:=id hv;have hone:AV.one v=true:=by rw[U];rfl
 clear U;refine bp (M:=20) (rs:=[.tmp 4]) (I.call _) I.aG I.aB func134 rfl rfl Qo.2 rfl ?_;dsimp only[Qo,bm,Nat.reduceAdd];refine jH ?_;refine cl [1] [] 5 8 (fun i E z=>∃w,E.at 0=w/\mA z w (b++jM n i) lo/\∀k,k<lo->z.get k=H.get k) eE ⟨v,eE,by simpa [jM]using hv,fun _ _=>rfl⟩ ?_;rintro i E z hi C j m hsI ⟨w,k0,V,Z⟩;(try simp only[bC,aZ,aW,aG,aY,Nat.reduceBEq, *]at C);(try simp only[aZ, *]at j);(try simp only[aU,bq,ce,bR,Nat.reduceAdd]at m);by_cases hlt:i<8
 .have O:(i:Int)<8:=by omega
  have e1:IntKind.wrap .i64 (8*(i:Int))=((8*i:Nat):Int):=EX;have e2:IntKind.wrap .u64 ((8*i:Nat):Int)=((8*i:Nat):Int):=(by decide:∀i:_root_.Fin 8,IntKind.wrap .u64 ((8*i.val:Nat):Int)=((8*i.val:Nat):Int)) ⟨i,hlt⟩;have e4:∀(D:BinOp->Sx->Sx->qJ) (t:TypeId),eD prog D .shr t (.int .u64 n) (.int .u64 ((8*i:Nat):Int))=some (.int .u64 (n.fdiv (2^ (8*i)))):=fun D t=>bin_shr ac rfl;repeat' (first
   |(apply aj ?_;clear hK K)|apply bQ ?_|(apply bu ?_ ?_<;>(intro hb hbp;try(cases hb;done)))|(apply am fun K hK=>?_)|fail)
  have hwb:IQ (z.alloc (.cells [.int .u8 (nn n i)] 0 true)) w (b++jM n i) lo:=.inr (V.keep (cG _) fun k J=>by rw[aD,af (by have:=(V.lt J).2;omega)]);have hlo2:lo<=z.next:=ac
  obtain⟨v5,H5,a5,s5,n5,f5,o5⟩:=zbi (r:=z.next) (imm:=0) (nn n i) hwb cB fc (by rw[iR,ue];omega);have n5':z.next<=H5.next:=Bn
  have o5':∀k,k<lo->H5.get k=H.get k:=fun k J=>by rw[f5 k J,aD,af ac,Z k J]
  clear n5 f5 o5;refine kO dY dY (by rw[Y];exact a5) ?_;refine jG ?_;refine⟨ac,a0,a0,ca,(by simp only[aG,Nat.reduceBEq, *];exact hZ (n:=8) ac ac),?_⟩;exact⟨v5,eE,by rw[zbj,<-mV];exact s5,o5'⟩
 .have O:¬(i:Int)<8:=by omega
  refine wd (fun hb hbp=>?_);all_goals refine qq ?_
  grind
def fY.len'{lo:Nat}(h:fY H v l lo)(H':Hp):gO prog H' 23 v=some (.int .i64 l.length):=by
 rcases h with⟨rfl,rfl⟩|h
 .exact Do underlying23
 .exact h.len
def JM{kv:AV}{kids:qy}{lo:Nat}(op imm:Int)(z:fY H kv kids lo)(hS:∀k,aN kv k->S k):b9 S 2 H [.int .i64 op,.int .i64 imm,kv] (Nd.mk op imm kids).cells:=by
 refine .cons (.int _ _) (.cons (.int _ _) (.cons ?_ .nil));rcases z with⟨rfl,rfl⟩|⟨r,i,rfl,j,C,V,Z⟩
 .exact .ag
 .exact zc1 kids (hS r ⟨_,rfl⟩) Z j C
def Qr{kv:AV}{lo:Nat}(h:fY H kv l lo)(a b:Int):dd prog 67 [(0,.int .i64 a),(1,.int .i64 b),(2,kv)]=some (.agg [.int .i64 a,.int .i64 b,kv]):=by
 rcases h with⟨rfl,rfl⟩|⟨r,i,rfl,_⟩<;>kernel_rfl
theorem fY.one{H:Hp}{kv:AV}{l:qy}{lo:Nat}(h:fY H kv l lo):AV.one kv=true:=by
 rcases h with⟨rfl,rfl⟩|⟨r,i,rfl,_⟩<;>rfl
def EY:tB prog 3=some (.int .i64 0):=ax
def ux:nM prog 9=some .string:=ax
def yH(X:Lx)(S:Nat->Prop)(vv kv:AV)(H:Hp)(n:Nd)(s:Bd)(v:AV)(H':Hp):Prop:=v=.int .i64 (ah n s).1/\∃m z,zd1 X H' m (ah n s).2 z vv/\H.next<=H'.next/\(∀k,k<H.next->k≠X.b->k≠X.rt->¬S k->H'.get k=H.get k)/\∀k,m k->S k\/aN kv k\/H.next<=k
set_option maxRecDepth 100000 in
theorem Bp(hG:zd9 tb){lv vv kv:AV}(hR:zd1 X H S s lv vv)(n:Nd)(z:fY H kv n.ao 0)(hkf:∀k,aN kv k->X.b<k/\¬S k/\¬aN vv k)(hr:∀x∈i7 s.l n,NdR x)(hlen:s.l.length<2^36):
 aR prog (au pls tb) 86 [.ptr X.b 0,.int .i64 n.op,.int .i64 n.aP,kv] H (yH X S vv kv H n s):=by
 have hw:zd0 (au pls tb) 86:=hG.plain cM;have hap:zd0 (au pls tb) 134:=hG.plain cM;have hkeep:(au pls tb).keep 86=false:=rfl;have hn:NdR n:=hr n (rZ.2 (.inr rfl));have hnl:=hn.len;have o1:=hR.o1;have o2:=hR.o2;have o3:=hR.o3;have o4:=hR.o4;have o5:=hR.o5;have hkn:=z.len';refine bp (M:=69) (rs:=[.tmp 8]) (hw.call _) hw.aG hw.aB func86 rfl rfl Qp.2 rfl ?_;dsimp only[Qp,bm,Nat.reduceAdd];refine cY fun K hK=>?_;refine qc ?_;refine aF ?_ (Qq hap rfl (b:=[IntKind.wrap .u8 n.op]) (lo:=H.next) ⟨H.next,0,rfl,dZ,cZ _,ay _,by simp[aU]⟩ aw _);rintro w H1 ⟨hw1,cS,q1⟩;have n1':H.next<=H1.next:=by simp only[aU]at cS;omega
 have q1':∀k,k<H.next->H1.get k=H.get k:=fun k z=>by rw[q1 k z,aD,af ac]
 clear cS q1;dsimp only[aC];refine dJ ?_;refine cl [0,1,2,3,8,20,21] [] 22 n.ao.length (fun j E Z=>∃w,E.at 9=w/\mA Z w ([IntKind.wrap .u8 n.op]++jM (IntKind.wrap .u64 n.aP) 8++(n.ao.take j).flatMap fun k=>jM (IntKind.wrap .u64 k) 8) H.next/\Sm H.next H Z) eE ⟨w,eE,by simpa using hw1,⟨q1'⟩⟩ ?_;rintro j E Z hj hcE hrH hnH hsI ⟨w2,k9,hw2,Y⟩;(try simp only[bC,aZ,aW,aG,aY,Nat.reduceBEq, *]at hcE);(try simp only[aZ, *]at hrH);(try simp only[aU,bq,ce,bR,Nat.reduceAdd]at hnH);have n2':H.next<=Z.next:=ac
 by_cases hlt:j<n.ao.length
 .have hlt':(j:Int)<n.ao.length:=by omega
  have htk:n.ao.take (j+1)=n.ao.take j++[n.ao[j]]:=bb;have hfl:((n.ao.take j).flatMap fun k=>jM (IntKind.wrap .u64 k) 8).length<=8*j:=by
   rw[List.length_flatMap];simp only[ue];have:((n.ao.take j).map fun _=>8).sum=8*(n.ao.take j).length:=by
    generalize n.ao.take j=q;induction q with
    |nil=>rfl
    |cons a q ih=>simp[ih];omega
   simp_all
  have hkb:iV Z kv n.ao 0:=by
   rcases z with⟨_,C⟩|C
   .simp_all
   .exact C.keep ac fun k z=>Y.get k (C.lt z).2
  obtain⟨r,hix,hld⟩:=hkb.at hlt;generalize n.ao[j]=kd at *;repeat' (first
   |(apply aj ?_;clear hK K)|apply bQ ?_|(apply bu ?_ ?_<;>(intro hb hbp;try(cases hb;done)))|(apply am fun K hK=>?_)|fail)
  refine qc ?_;refine aF ?_ (Qq hap rfl hw2 (by rw[iR,iR,ue,List.length_singleton];omega) _);rintro w3 H3 ⟨hw3,n3,q3⟩;dsimp only[aC];refine dJ ?_;refine⟨ac,a0,a0,ca,(by simp only[aG,Nat.reduceBEq, *];exact hZ (n:=n.ao.length) ac ac),?_⟩;exact⟨w3,eE,bb,⟨fun k z=>by rw[q3 k z];exact Y.get k z⟩⟩
 .have hlt':¬(j:Int)<n.ao.length:=by omega
  have hje:n.ao.take j=n.ao:=gQ ac;rw[hje,<-zbx]at hw2;have hcv:=zby hw2;have I:zd1 X Z S s lv vv:=hR.keep n2' fun k z _=>Y.get k z;have m2:=I.m;unfold bU at m2;have hlk:=O7 (P:=prog) (t:=98) underlying98 ux EY I.t (ij n);obtain⟨f1,f2,f3⟩:=PF hn s.l 0 (fun x hx=>hr x (rZ.2 (.inl hx)));clear hje hw1 q1';have hcv':kX prog Z 93 9 w2=some (.aj (ij n)):=hcv;clear hcv;by_cases U:fK s.l n<s.l.length
  .rw[kS U]at f1;have f2:=f2 U;rw[f1,f2]at hlk;repeat' (first
    |(apply aj ?_;clear hK K)|apply bQ ?_|(apply bu ?_ ?_<;>(intro hb hbp;try(cases hb;done)))|(apply am fun K hK=>?_)|(apply ci 7 [(3,12),(5,12),(6,12)] fun K hK=>?_)|(apply bD ?_;try intro _)|(apply ch ?_ ?_<;>clear hK K)|fail)
   all_goals first
    |exact cn
    |skip
   all_goals refine qq ?_
   have e1:ah n s=(((fK s.l n:Nat):Int),s):=by rw[ah,i7,ai U]
   rw[yH,e1];exact⟨aw,S,lv,I,n2',fun k J _ _ _=>Y.get k J,fun k z=>.inl z⟩
  .rw[rV U]at f1;have f3:=f3 U;have hix:fK s.l n=s.l.length:=by have:=EC s.l n;omega
   have hadd:i7 s.l n=s.l++[n]:=by rw[i7,af U]
   rw[f1]at hlk;have hll:∀H',gO prog H' 22 lv=some (.int .i64 s.l.length):=fun H'=>by
    have:=I.aL.len (P:=prog) (t:=22) (H':=H') underlying22;simp_all
   have hup:oJ prog Z 98 (.map X.rt) (.aj (ij n)) (.int .i64 s.l.length)=some (Z.set X.rt (.map (dz (atV (s.l++[n]) 0)))):=by
    rw[(Jk (P:=prog) (t:=98) (nm:=ij n) underlying98 ux I.t).1 ((Jm (ij n) (atV s.l 0) 0).1 f1).1,<-zcI];simp[dz]
   have hbn:=Qr z n.op n.aP;have hone:=z.one;have hbs:∀H,de prog H 22 1 [(0,.agg [.int .i64 n.op,.int .i64 n.aP,kv])]=some (.sl H.next 0 1 3,H.alloc (.cells [.int .i64 n.op,.int .i64 n.aP,kv] 0 true)):=fun H=>Qf H rfl EV;have g3:∀k,k≠X.rt->(Z.set X.rt (.map (dz (atV (s.l++[n]) 0)))).get k=Z.get k:=fun k z=>ju;have g4:∀k,k≠X.rt->k<Z.next->((Z.set X.rt (.map (dz (atV (s.l++[n]) 0)))).alloc (.cells [.int .i64 n.op,.int .i64 n.aP,kv] 0 true)).get k=Z.get k:=fun k z hl=>by rw[aD,af eC,g3 k z]
   have m3:(Z.set X.rt (.map (dz (atV (s.l++[n]) 0)))).get X.b=some (.cells (bU X s lv vv) 0 true):=by rw[g3 _ ac];exact I.m
   have m4:((Z.set X.rt (.map (dz (atV (s.l++[n]) 0)))).alloc (.cells [.int .i64 n.op,.int .i64 n.aP,kv] 0 true)).get X.b=some (.cells (bU X s lv vv) 0 true):=aX;have g4n:((Z.set X.rt (.map (dz (atV (s.l++[n]) 0)))).alloc (.cells [.int .i64 n.op,.int .i64 n.aP,kv] 0 true)).get Z.next=some (.cells [.int .i64 n.op,.int .i64 n.aP,kv] 0 true):=te
   have hkS:∀k,aN kv k->k<H.next:=fun k V=>(z.lt V).2
   obtain⟨H5,a5,s5,n5,q5⟩:=EU (P:=prog) (t:=22) underlying22 AD If Ig rfl ax (S':=fun k=>S k\/aN kv k\/k=Z.next+1)
    (I.aL.keep (S':=S) (H':=(Z.set X.rt (.map (dz (atV (s.l++[n]) 0)))).alloc (.cells [.int .i64 n.op,.int .i64 n.aP,kv] 0 true)) (fun _ _ h=>h) (cG _) fun k z h6=>g4 k (by have:=(I.sS k z).1;omega) h6)
    (fun k _ h=>.inl h) (.inr (.inr rfl)) (r:=Z.next) (imm:=0) (row:=[.int .i64 n.op,.int .i64 n.aP,kv]) (w:=n.cells) g4n rfl EV
    (JM n.op n.aP (lo:=0) (z.keep mG fun k V=>by rw[g4 k aX aX];exact Y.get k (hkS k V)) fun k V=>⟨.inr (.inl V),fun o m z' e=>(hkf k V).2.1 (by
      rcases I.aL with⟨J,_⟩|⟨q,im,rows,J,C,_⟩
      .rw[J]at e;cases e
      simp_all)⟩)
    oC oC
   rw[dx]at a5 s5;simp only[aU,bq]at a5 s5 n5 q5;have hno:∀k,(¬S k)->∀o m z',lv≠.sl k o m z':=fun k z o m z' e=>z (by
    rcases I.aL with⟨J,_⟩|⟨q,im,rows,J,C,_⟩
    .rw[J]at e;cases e
    simp_all)
   have m5:H5.get X.b=some (.cells (bU X s lv vv) 0 true):=by rw[q5 _ ac (hno _ fun e=>Bo)];exact m4
   have O:∀k,k<Z.next->k≠X.rt->¬S k->H5.get k=Z.get k:=fun k J C h3=>aX
   have t5:H5.get X.rt=some (.map (dz (atV (s.l++[n]) 0))):=by rw[q5 _ ac (hno _ fun e=>Bo),aD,af eC,aM,ai rfl]
   have hpo:ah n s=(((fK s.l n:Nat):Int),{s with l:=s.l++[n] }):=by rw[ah,hadd]
   have fin:yH X S vv kv H n s (.int .i64 s.l.length) (H5.set X.b (.cells (bU X {s with l:=s.l++[n] } (.sl (Z.next+1) 0 (s.l.length+1) 3) vv) 0 true)):=by
    rw[yH,hpo,hix];have g6:∀k,k≠X.b->(H5.set X.b (.cells (bU X {s with l:=s.l++[n] } (.sl (Z.next+1) 0 (s.l.length+1) 3) vv) 0 true)).get k=H5.get k:=fun k z=>ju;refine⟨rfl,fun k=>S k\/aN kv k\/k=Z.next+1,_,⟨fO,?_,?_,?_,?_,?_,?_,o1,o2,o3,o4,?_,?_,?_⟩,?_,?_,?_⟩
    .rw[g6 _ ac,O _ ac ac fun e=>Bo];exact I.a
    .rw[g6 _ ac,O _ ac ac fun e=>Bo];exact I.f
    .rw[g6 _ ac];exact t5
    .rw[g6 _ ac,O _ ac ac fun e=>Bo];exact I.n
    .have e:(s.l++[n]).map Nd.cells=s.l.map Nd.cells++[n.cells]:=by simp
     rw[e];refine s5.keep (fun _ _ h=>h) (ay _) fun k z _=>g6 k ?_;rcases z with z|z|z
     .have:=(I.sS _ z).1;omega
     .have:=(hkf _ z).1;omega
     .omega
    .exact I.vars.keep eC fun k z=>by rw[g6 k (by have:=(I.vS k z).1;omega),O k (I.vS k z).2 (by have:=(I.vS k z).1;omega) fun e=>(I.sS k e).2.2 z]
    .simp only[bq];omega
    .rintro k (z|z|z)
     .have:=I.sS k z;exact⟨this.1,eC,this.2.2⟩
     .have:=hkf k z;have C:=hkS k z;exact⟨this.1,eC,this.2.2⟩
     .refine⟨ac,eC,fun e=>?_⟩;have:=(I.vS k e).2;omega
    .intro k z;have:=I.vS k z;simp only[bq];omega
    .simp only[bq];omega
    .intro k J C h3 h4;rw[g6 k C,O k ac h3 h4];exact Y.get k J
    grind
   unfold bU at m3 m4 m5 fin;clear s5 O t5 g3 g4 q5 hkS;repeat' (first
    |(apply aj ?_;clear hK K)|apply bQ ?_|(apply bu ?_ ?_<;>(intro hb hbp;try(cases hb;done)))|(apply am fun K hK=>?_)|(apply ci 7 [(3,12),(5,12),(6,12)] fun K hK=>?_)|(apply wU 10 fun K hK=>?_)|(apply bD ?_;try intro _)|(apply ch ?_ ?_<;>clear hK K)|fail)
   all_goals first
    |exact cn
    |skip
   all_goals refine qq ?_
   exact fin
end
section
def tyLoC.tyF:=ad @cr (ad @cK (ad @jn (ad @fP (ad @fW (ad @gh (ad @eL (ad @jx (ad @oW (@rN)))))))))
open tyLoC
noncomputable def Qs:{c:SC // aE 8 (f87.body.getD .skip)=c}:=by
 refine⟨?_,?_⟩;rotate_left
 .simp only[f87,bN,aE,bH,bw,bM,bJ,Nat.blt,Nat.ble];rfl
noncomputable def Qt:{c:SC // aE 18 (f138.body.getD .skip)=c}:=by
 refine⟨?_,?_⟩;rotate_left
 .simp only[f138,bN,aE,bH,bw,bM,bJ,Nat.blt,Nat.ble];rfl
noncomputable def EZ:{c:SC // aE 19 (f164.body.getD .skip)=c}:=by
 refine⟨?_,?_⟩;rotate_left
 .simp only[f164,bN,aE,bH,bw,bM,bJ,Nat.blt,Nat.ble];rfl
noncomputable def Qu:{c:SC // aE 25 (f136.body.getD .skip)=c}:=by
 refine⟨?_,?_⟩;rotate_left
 .simp only[f136,bN,aE,bH,bw,bM,bJ,Nat.blt,Nat.ble];rfl
def sf(X:Lx)(S:Nat->Prop)(vv:AV)(H:Hp)(r:Int×Bd)(v:AV)(H':Hp):Prop:=v=.int .i64 r.1/\∃m z,zd1 X H' m r.2 z vv/\FrL X S vv H m vv H'
def pq(X:Lx)(S:Nat->Prop)(vv:AV)(H:Hp)(r:Bd)(v:AV)(H':Hp):Prop:=∃m z Z,zd1 X H' m r z Z/\FrL X S vv H m Z H'
def Qv(X:Lx)(S:Nat->Prop)(vv:AV)(H:Hp)(r:Bd)(v:AV)(H':Hp):Prop:=∃m z,zd1 X H' m r z vv/\FrL X S vv H m vv H'
def yH.val{vv kv:AV}{n:Nd}(h:yH X S vv kv U n s v H')(j:FrL X S vv H S vv U)(Z:∀k,aN kv k->H.next<=k):sf X S vv H (ah n s) v H':=by
 obtain⟨m,Y,z,V,C,O,M⟩:=h;refine⟨m,Y,z,V,dw j.next C,fun k a b c d e=>?_,fun k a=>?_,fun k a=>.inl a⟩
 .rw[O k (lh a j.next) b c d];exact j.get k a b c d e
 .rcases M k a with a|a|a
  .exact .inl a
  .exact .inr (Z k a)
  .exact .inr (dw j.next a)
def uy{r o n z:Nat}(h:aN (.sl r o n z) k):k=r:=by
 obtain⟨m,e⟩:=h;simp_all
def rk(h:aN .ag k):False:=by
 obtain⟨m,e⟩:=h;cases e
def rm(Y:zd9 tb){vv:AV}(I:zd1 X U S s M vv)(j:FrL X S vv H S vv U)(n:Nd){r:Nat}(V:n.ao.length=m)(hg:U.get r=some (.cells (n.ao.map (.int .i64)) 0 true))(hr:H.next<=r)(C:r<U.next)(hb:X.b<r)(hS:¬S r)(hv:¬aN vv r)(O:Fin (ah n s).2){op imm:Int}(Z:n.op=op)(J:n.aP=imm):
 aR prog (au pls tb) 86 [.ptr X.b 0,.int .i64 op,.int .i64 imm,.sl r 0 m 1] U (sf X S vv H (ah n s)):=by
 subst V;subst Z;subst J;refine aF ?_ (Bp Y I n (.inr ⟨r,0,rfl,hg,cZ _,cZ _,C⟩) (fun k z=>?_) O.r (ur (sZ s.l n).length_le O.l))
 .intro v H' h;exact h.val j fun k z=>by rw[uy z];exact hr
 .rw[uy z];exact⟨hb,hS,hv⟩
def Bq(Z:zd9 tb){vv:AV}(I:zd1 X U S s M vv)(j:FrL X S vv H S vv U)(op imm:Int)(O:Fin (ah ⟨op,imm,[]⟩ s).2):
 aR prog (au pls tb) 86 [.ptr X.b 0,.int .i64 op,.int .i64 imm,.ag] U (sf X S vv H (ah ⟨op,imm,[]⟩ s)):=by
 refine aF ?_ (Bp Z I ⟨op,imm,[]⟩ (.inl ⟨rfl,rfl⟩) (fun k z=>(rk z).elim) O.r (ur (sZ s.l _).length_le O.l));intro v H' h;exact h.val j fun k z=>(rk z).elim
def zd1.new{vv:AV}(h:zd1 X H S s M vv){r:Nat}(hr:H.next<=r):¬S r/\¬aN vv r/\X.b<r:=⟨fun e=>by have:=(h.sS r e).2.1;omega,fun e=>by have:=(h.vS r e).2;omega,by have:=h.o5;omega⟩
def sf.db{Z:Nat->Prop}{vv:AV}{bt:Hp}{r:Int×Bd}(h:sf X S vv H r v H')(j:FrL X Z vv bt S vv H):sf X Z vv bt r v H':=by
 obtain⟨m,Y,z,V,C⟩:=h;exact⟨m,Y,z,V,j.trans C⟩
def yI(Y:zd9 tb){V vv:AV}(I:zd1 X U S s V vv)(O:FrL X S vv H S vv U)(n:Int)(J:Fin (ah ⟨1,n,[]⟩ s).2):
 aR prog (au pls tb) 87 [.ptr X.b 0,.int .i64 n] U (sf X S vv H (ah ⟨1,n,[]⟩ s)):=by
 have Z:zd0 (au pls tb) 87:=Y.plain cM;refine bp (M:=8) (rs:=[.tmp 4]) (Z.call _) Z.aG Z.aB func87 rfl rfl Qs.2 rfl ?_;dsimp only[Qs,bm,Nat.reduceAdd];refine Ch fun K hK=>?_;refine qc ?_;refine aF ?_ (Bq Y I O 1 n J);rintro v z j;obtain⟨rfl,C⟩:=id j;dsimp only[aC];refine GD ?_;all_goals refine qq ?_
 exact j
def uz(H:Hp)(a b:Int):de prog H 23 2 [(0,.int .i64 a),(1,.int .i64 b)]=some (.sl H.next 0 2 1,H.alloc (.cells [.int .i64 a,.int .i64 b] 0 true)):=ax
def E6(H:Hp)(a b c:Int):de prog H 23 3 [(0,.int .i64 a),(1,.int .i64 b),(2,.int .i64 c)]=some (.sl H.next 0 3 1,H.alloc (.cells [.int .i64 a,.int .i64 b,.int .i64 c] 0 true)):=ax
def vL(H:Hp)(a:Int):de prog H 23 1 [(0,.int .i64 a)]=some (.sl H.next 0 1 1,H.alloc (.cells [.int .i64 a] 0 true)):=ax
def E7(O:zd9 tb){J vv:AV}(I:zd1 X U S s J vv)(j:FrL X S vv H S vv U)(t v:Int)(C:Fin (kC t v s)):
 aR prog (au pls tb) 138 [.ptr X.b 0,.int .i64 t,.int .i64 v] U (Qv X S vv H (kC t v s)):=by
 have Y:zd0 (au pls tb) 138:=O.plain cM;have bZ:=I.m;unfold bU at bZ;refine bp (M:=18) (rs:=[]) (Y.call _) Y.aG Y.aB func138 rfl rfl Qt.2 rfl ?_;dsimp only[Qt,bm,Nat.reduceAdd];have gh0:=@uz;refine cY fun K hK=>?_;refine qc ?_;have V:=I.new (ay _);refine aF ?_ (rm O (I.alloc _) (j.alloc _) ⟨27,t,[s.ab,v]⟩ rfl dZ j.next (bT _) V.2.2 V.1 V.2.1 (C.le ⟨rW _,ay _⟩) rfl rfl);rintro w H2 ⟨rfl,z,Z,m,F2⟩;have m2:=m.m;unfold bU at m2;dsimp only[aC];refine K5 ?_;all_goals refine qq ?_
 obtain⟨a,b⟩:=m.setS (ah ⟨27,t,[s.ab,v]⟩ s).1;exact⟨z,Z,a,F2.trans b⟩
def yJ(V:zd9 tb){O vv:AV}(I:zd1 X U S s O vv)(j:FrL X S vv H S vv U)(c a b:Int)(J:Fin (bA c a b s).2):
 aR prog (au pls tb) 164 [.ptr X.b 0,.int .i64 c,.int .i64 a,.int .i64 b] U (sf X S vv H (bA c a b s)):=by
 have Z:zd0 (au pls tb) 164:=V.plain cM;by_cases h:a=b
 .subst h;have e:bA c a a s=(a,s):=by rw[bA,ai rfl]
  rw[e];refine bp (M:=19) (rs:=[.tmp 8]) (Z.call _) Z.aG Z.aB func164 rfl rfl EZ.2 rfl ?_;dsimp only[EZ,bm,Nat.reduceAdd];refine GC ?_;all_goals refine qq ?_
  exact⟨rfl,S,O,I,j⟩
 .have e:bA c a b s=ah ⟨22,0,[c,a,b]⟩ s:=by rw[bA,af h]
  rw[e]at J⊢;have Y:=I.new (ay _);refine bp (M:=19) (rs:=[.tmp 8]) (Z.call _) Z.aG Z.aB func164 rfl rfl EZ.2 rfl ?_;dsimp only[EZ,bm,Nat.reduceAdd];have z:=@E6;refine K4 fun K hK=>?_;refine qc ?_;refine aF ?_ (rm V (I.alloc _) (j.alloc _) ⟨22,0,[c,a,b]⟩ rfl dZ j.next (bT _) Y.2.2 Y.1 Y.2.1 J rfl rfl);intro w m C;obtain⟨rfl,h3⟩:=id C;dsimp only[aC];refine jG ?_;all_goals refine qq ?_
  exact C
def Qw(U:zd9 tb){Z:Hp}{j vv:AV}(J:zd1 X Z S s j vv)(hf:FrL X S vv H S vv Z)(k:Nat)(i:Int)(ha:X.p.aa[k]?=some a)(C:Fin (eO a.len i s)):
 aR prog (au pls tb) 136 [.ptr X.b 0,.int .i64 (k:Int),.int .i64 i] Z (Qv X S vv H (eO a.len i s)):=by
 have V:zd0 (au pls tb) 136:=U.plain cM;have bZ:=J.m;unfold bU at bZ;have z:Fin (ah ⟨19,0,[i,(ah ⟨1,a.len,[]⟩ s).1]⟩ (ah ⟨1,a.len,[]⟩ s).2).2:=C.le (rj _ _ _).le;have I:Fin (ah ⟨1,a.len,[]⟩ s).2:=z.le (cC _ _).le;refine bp (M:=25) (rs:=[]) (V.call _) V.aG V.aB func136 rfl rfl Qu.2 rfl ?_;dsimp only[Qu,bm,Nat.reduceAdd];refine Ch fun K hK=>?_;refine qc ?_;refine aF ?_ (yI U J hf a.len I);rintro w H2 ⟨rfl,S2,lv2,m,F2⟩;dsimp only[aC];have O:=m.new (ay _);have gh0:=@uz;refine Ch fun K hK=>?_;refine qc ?_;refine aF ?_ (rm U (m.alloc _) ((cX _ _ _ _).alloc _) ⟨19,0,[i,(ah ⟨1,a.len,[]⟩ s).1]⟩ rfl dZ (ay _) (bT _) O.2.2 O.1 O.2.1 z rfl rfl);rintro w H3 ⟨rfl,S3,lv3,R3,F3⟩;dsimp only[aC];refine K6 ?_;refine qc ?_;refine aF ?_ (E7 U R3 (cX _ _ _ _) 2 _ C);rintro w H4 ⟨S4,Y,R4,F4⟩;dsimp only[aC];refine K6 ?_;all_goals refine qq ?_
 exact⟨S4,Y,R4,F2.trans (F3.trans F4)⟩
end
section
def tyLoD.tyF:=ad @dQ (ad @cr (ad @cK (ad @jn (ad @fP (ad @eL (ad @dR (ad @dD (ad @oW (ad @rN (ad @uz (@vL)))))))))))
open tyLoD
noncomputable def ro:{c:SC // aE 110 (f89.body.getD .skip)=c}:=by
 refine⟨?_,?_⟩;rotate_left
 .simp only[f89,bN,aE,bH,bw,bM,bJ,Nat.blt,Nat.ble];rfl
noncomputable def Qy:{c:SC // aE 58 (f137.body.getD .skip)=c}:=by
 refine⟨?_,?_⟩;rotate_left
 .simp only[f137,bN,aE,bH,bw,bM,bJ,Nat.blt,Nat.ble];rfl
structure zig (X:Lx) (c:Cx):Prop where
 ar:c.aa=X.p.aa
 ae:∀nm,fh X.ae nm=bV (c.aa.map (·.name)) nm
 ne:∀nm,fh X.ne nm=bV c.aF nm
 fe:∀nm,0<=cJ c.funcs nm 0->fh X.fe nm=cJ c.funcs nm 0
def FrL.box{z:Hp}{j:Nat->Prop}{vv:AV}(I:zd1 X U S s M vv){b:HB}(h:FrL X S vv (U.alloc b) j Z z):z.get U.next=some b:=by
 have n:=I.new (ay _);have Y:=I.o3;have O:=I.o4;rw[h.get _ (bT _) (by have:=n.2.2;omega) (by have:=n.2.2;omega) n.1 n.2.1,aD,ai rfl]
def gc:=@FrL.box
def zd1.lkN(z:zig X c){vv:AV}(I:zd1 X H S s M vv)(nm:bG):jS prog H 98 (.map X.rn) (.aj nm) false=some (.int .i64 (bV c.aF nm)):=by
 rw[<-z.ne];exact Jl (P:=prog) underlying98 ux EY I.n nm
def zd1.gb(z:zig X c){vv:AV}(I:zd1 X H S s M vv)(nm:bG):jS prog H 98 (.map X.ra) (.aj nm) false=some (.int .i64 (bV (c.aa.map (·.name)) nm)):=by
 rw[<-z.ae];exact Jl (P:=prog) underlying98 ux EY I.a nm
def zd1.fV(z:zig X c){vv:AV}(I:zd1 X H S s M vv)(nm:bG)(h:0<=cJ c.funcs nm 0):jS prog H 98 (.map X.rf) (.aj nm) false=some (.int .i64 (cJ c.funcs nm 0)):=by
 rw[<-z.fe nm h];exact Jl (P:=prog) underlying98 ux EY I.f nm
def zd1.atV{vv:AV}(h:zd1 X H S s M vv)(I:s.vars[i]?=some x):∃r,el prog 23 vv (.int .i64 (i:Int))=some (.ptr r i)/\gX prog H 3 (.ptr r i)=some (.int .i64 x):=by
 have J:i<s.vars.length:=by
  by_cases c:i<s.vars.length
  .exact c
  .rw[sH ac]at I;cases I
 obtain⟨r,m,j,_⟩:=h.setV J 0;simp_all
set_option maxRecDepth 100000 in
theorem tf{tb:qC}(U:zd9 tb){X:Lx}{c:Cx}(hX:zig X c):∀(n:Nat) (x:Ex) (s:Bd) (r:Int×Bd),ec c n x s=some r->Fin r.2->∀{H H1:Hp}{S:Nat->Prop}{lv vv:AV},zd1 X H1 S s lv vv->FrL X S vv H S vv H1 ->
 aR prog (au pls tb) 89 [.ptr X.b 0,.agg x.cells] H1 (sf X S vv H r)
 |0,x,s,r,h,_,_,_,_,_,_,_,_=>by simp[ec]at h
 |n+1,x,s,r,h,hF,H,H1,S,lv,vv,hR,hf=>by
  have IH:=tf U hX n;have Y:zd0 (au pls tb) 89:=U.plain cM;have hwc:zd0 (au pls tb) 137:=U.plain cM;have z:=hR.alloc (.cells x.cells 0 true);have F1:=hf.alloc (.cells x.cells 0 true);have bZ:=z.m;unfold bU at bZ;have nw:=hR.new (ay _);unfold ec at h;by_cases h1:x.am=1
  .rw[ai h1,aQ]at h;subst h;refine bp (M:=110) (rs:=[.tmp 4]) (Y.call _) Y.aG Y.aB func89 rfl rfl ro.2 rfl ?_;dsimp only[ro,bm,Nat.reduceAdd];repeat' (first
    |(apply aj ?_;clear hK K)|apply bQ ?_|(apply bu ?_ ?_<;>(intro hb hbp;try(cases hb;done)))|(apply am fun K hK=>?_)|fail)
   refine qc ?_;refine aF ?_ (yI U z F1 x.n hF);intro w H2 h2;obtain⟨rfl,h3⟩:=id h2;dsimp only[aC];refine jG ?_;all_goals refine qq ?_
   exact h2
  rw[af h1]at h;by_cases h2:x.am=2
  .rw[ai h2]at h;obtain⟨v,hv,rfl⟩:=sC.1 h;have hlk:=z.lkN hX x.name;obtain⟨q,hix,hld⟩:=z.atV hv;refine bp (M:=110) (rs:=[.tmp 4]) (Y.call _) Y.aG Y.aB func89 rfl rfl ro.2 rfl ?_;dsimp only[ro,bm,Nat.reduceAdd];repeat' (first
    |(apply aj ?_;clear hK K)|apply bQ ?_|(apply bu ?_ ?_<;>(intro hb hbp;try(cases hb;done)))|(apply am fun K hK=>?_)|(apply ci 5 [(3,14),(7,14),(9,14),(10,14),(12,14)] fun K hK=>?_)|(apply bD ?_;try intro _)|(apply ch ?_ ?_<;>clear hK K)|fail)
   all_goals first
    |exact cn
    |skip
   all_goals refine qq ?_
   exact⟨rfl,S,lv,z,F1⟩
  rw[af h2]at h;by_cases h3:x.am=3
  .rw[ai h3]at h;simp only[iD]at h;obtain⟨k,hk,I,he,a,ha,rfl⟩:=h;have ha':X.p.aa[bV (c.aa.map (·.name)) x.name]?=some a:=by rw[<-hX.ar];exact ha
   have hFc:Fin (eO a.len I.1 I.2):=hF.le (cC _ _).le;have hlk1:=z.gb hX x.name;refine bp (M:=110) (rs:=[.tmp 4]) (Y.call _) Y.aG Y.aB func89 rfl rfl ro.2 rfl ?_;dsimp only[ro,bm,Nat.reduceAdd];repeat' (first
    |(apply aj ?_;clear hK K)|apply bQ ?_|(apply bu ?_ ?_<;>(intro hb hbp;try(cases hb;done)))|(apply am fun K hK=>?_)|(apply ci 7 [(2,5),(4,5),(9,5),(9,15),(11,5),(11,15),(12,5),(12,15)] fun K hK=>?_)|(apply bD ?_;try intro _)|fail)
   refine qd ?_;refine aF ?_ (IH k s I he (hFc.le (r0 _ _ _).le) z (cX _ _ _ _));rintro v H2 ⟨rfl,S2,lv2,m,O⟩;have g2:=gc hR O;have m2:=m.m;unfold bU at m2;have hlk:=m.gb hX x.name;have n2:H1.next+1<=H2.next:=O.next
   dsimp only[aC];repeat' (first
    |apply aV ?_|(apply am fun K hK=>?_)|(apply bD ?_;try intro _)|(apply ch ?_ ?_<;>clear hK K)|fail)
   .exact cn
   .refine qc ?_;refine aF ?_ (Qw U m (cX _ _ _ _) (bV (c.aa.map (·.name)) x.name) I.1 ha' hFc);rintro w H3 ⟨S3,lv3,R3,F3⟩;have m3:=R3.m;unfold bU at m3;have V:=R3.new (ay _);dsimp only[aC];refine wh fun K hK=>?_;refine qc ?_;refine aF ?_ (rm U (R3.alloc _) ((cX _ _ _ _).alloc _) ⟨23,bV (c.aa.map (·.name)) x.name,[(eO a.len I.1 I.2).ab,I.1]⟩ rfl dZ (ay _) (bT _) V.2.2 V.1 V.2.1 hF rfl rfl);intro w H4 h4;have h5:=h4.db (F1.trans (O.trans F3));obtain⟨rfl,h6⟩:=h4;dsimp only[aC];refine jG ?_;all_goals refine qq ?_
    exact h5
  rw[af h3]at h;by_cases h5:x.am=5
  .rw[ai h5]at h;simp only[iD]at h;obtain⟨k0,hk0,br,e0,k1,hk1,I,e1,k2,hk2,Z,e2,rfl⟩:=h;have hFt:Fin (bA br.1 I.2.ab (bA br.1 I.1 Z.1 Z.2).2.ab (bA br.1 I.1 Z.1 Z.2).2).2:=hF.le ⟨rW _,ay _⟩;have hFv:Fin (bA br.1 I.1 Z.1 Z.2).2:=hFt.le (eZ _ _ _ _).le;have hF2:Fin Z.2:=hFv.le (eZ _ _ _ _).le;have hF1:Fin I.2:=(hF2.le (dr c n _ _ _ e2).le).le ⟨rW _,ay _⟩;have hF0:Fin br.2:=hF1.le (dr c n _ _ _ e1).le;refine bp (M:=110) (rs:=[.tmp 4]) (Y.call _) Y.aG Y.aB func89 rfl rfl ro.2 rfl ?_;dsimp only[ro,bm,Nat.reduceAdd];repeat' (first
    |(apply aj ?_;clear hK K)|apply bQ ?_|(apply bu ?_ ?_<;>(intro hb hbp;try(cases hb;done)))|(apply am fun K hK=>?_)|fail)
   refine qc ?_;have R1c:=z.alloc (.cells x.cells 0 true);have F1c:=F1.alloc (.cells x.cells 0 true);have main:aR prog (au pls tb) 137 [.ptr X.b 0,.agg x.cells] (H1.alloc (.cells x.cells 0 true)) (sf X S vv H ((bA br.1 I.1 Z.1 Z.2).1,{ (bA br.1 I.2.ab (bA br.1 I.1 Z.1 Z.2).2.ab (bA br.1 I.1 Z.1 Z.2).2).2 with ab:=(bA br.1 I.2.ab (bA br.1 I.1 Z.1 Z.2).2.ab (bA br.1 I.1 Z.1 Z.2).2).1})):=by
    clear bZ nw;refine bp (M:=58) (rs:=[.tmp 4]) (hwc.call _) hwc.aG hwc.aB func137 rfl rfl Qy.2 rfl ?_;dsimp only[Qy,bm,Nat.reduceAdd];refine Cg fun K hK=>?_;refine qc ?_;refine aF ?_ (IH k0 s br e0 hF0 R1c (cX _ _ _ _));rintro v H2 ⟨rfl,S2,lv2,m,O⟩;have g2:=gc z O;simp only[aU]at g2;have m2:=m.m;unfold bU at m2;dsimp only[aC];refine Cg fun K hK=>?_;refine qc ?_;refine aF ?_ (IH k1 _ I e1 hF1 m (cX _ _ _ _));rintro v H3 ⟨rfl,S3,lv3,R3,F3⟩;have g3:=gc z (O.trans F3);have m3:=R3.m;obtain⟨R3s,F3s⟩:=R3.setS br.2.ab;have g3s:=gc z (O.trans (F3.trans F3s));simp only[aU]at g3 g3s;unfold bU at m3;dsimp only[bU]at R3s F3s g3s;dsimp only[aC];refine Cg fun K hK=>?_;refine qc ?_;refine aF ?_ (IH k2 _ Z e2 hF2 R3s (cX _ _ _ _));rintro v H4 ⟨rfl,S4,lv4,R4,F4⟩;dsimp only[aC];refine cY fun K hK=>?_;refine qc ?_;refine aF ?_ (yJ U R4 (cX _ _ _ _) br.1 I.1 Z.1 hFv);rintro v H5 ⟨rfl,S5,lv5,R5,F5⟩;have m5:=R5.m;unfold bU at m5;dsimp only[aC];refine cY fun K hK=>?_;refine qc ?_;refine aF ?_ (yJ U R5 (cX _ _ _ _) br.1 I.2.ab _ hFt);rintro v H6 ⟨rfl,S6,lv6,R6,F6⟩;have m6:=R6.m;unfold bU at m6;dsimp only[aC];refine Ce ?_;all_goals refine qq ?_
    obtain⟨R7,F7⟩:=R6.setS (bA br.1 I.2.ab (bA br.1 I.1 Z.1 Z.2).2.ab (bA br.1 I.1 Z.1 Z.2).2).1;exact⟨rfl,S6,lv6,R7,F1c.trans (O.trans (F3.trans (F3s.trans (F4.trans (F5.trans (F6.trans F7))))))⟩
   refine aF ?_ main;intro w H2 h2;obtain⟨rfl,h3⟩:=id h2;dsimp only[aC];refine Ce ?_;all_goals refine qq ?_
   exact h2
  rw[af h5]at h;simp only[gG]at h;obtain⟨k0,hk0,br,e0,h⟩:=h;by_cases hz:x.ao.length=1
  .rw[ai hz,aQ]at h;subst h;have hF0:Fin br.2:=hF.le (cC _ _).le;have hz':((x.ao.length:Nat):Int)=1:=ac;refine bp (M:=110) (rs:=[.tmp 4]) (Y.call _) Y.aG Y.aB func89 rfl rfl ro.2 rfl ?_;dsimp only[ro,bm,Nat.reduceAdd];repeat' (first
    |(apply aj ?_;clear hK K)|apply bQ ?_|(apply bu ?_ ?_<;>(intro hb hbp;try(cases hb;done)))|(apply am fun K hK=>?_)|fail)
   refine qc ?_;refine aF ?_ (IH k0 s br e0 hF0 z (cX _ _ _ _));rintro v H2 ⟨rfl,S2,lv2,m,O⟩;have g2:=gc hR O;have nw2:=m.new (ay _);dsimp only[aC];repeat' (first
    |(apply aj ?_;clear hK K)|apply bQ ?_|(apply bu ?_ ?_<;>(intro hb hbp;try(cases hb;done)))|(apply am fun K hK=>?_)|fail)
   refine qc ?_;refine aF ?_ (rm U (m.alloc _) ((cX _ _ _ _).alloc _) ⟨x.op,0,[br.1]⟩ rfl dZ (ay _) (bT _) nw2.2.2 nw2.1 nw2.2.1 hF rfl rfl);intro w H4 h4;have h5:=h4.db (F1.trans O);obtain⟨rfl,h6⟩:=h4;dsimp only[aC];refine jG ?_;all_goals refine qq ?_
   exact h5
  rw[af hz]at h;simp only[iD]at h;obtain⟨k1,hk1,I,e1,rfl⟩:=h;have hz':¬((x.ao.length:Nat):Int)=1:=ac;have J:Fin (if x.op=7\/x.op=8 then mF I.1 I.2 else I.2):=hF.le (cC _ _).le;have hF1:Fin I.2:=by
   split at J
   .exact J.le (Bk _ _).le
   .exact J
  have hF0:Fin br.2:=hF1.le (dr c n _ _ _ e1).le;generalize hq:(if x.op=7\/x.op=8 then mF I.1 I.2 else I.2)=q at *;refine bp (M:=110) (rs:=[.tmp 4]) (Y.call _) Y.aG Y.aB func89 rfl rfl ro.2 rfl ?_;dsimp only[ro,bm,Nat.reduceAdd];repeat' (first
   |(apply aj ?_;clear hK K)|apply bQ ?_|(apply bu ?_ ?_<;>(intro hb hbp;try(cases hb;done)))|(apply am fun K hK=>?_)|fail)
  refine qc ?_;refine aF ?_ (IH k0 s br e0 hF0 z (cX _ _ _ _));rintro v H2 ⟨rfl,S2,lv2,m,O⟩;have g2:=gc hR O;dsimp only[aC];repeat' (first
   |(apply aj ?_;clear hK K)|apply bQ ?_|(apply bu ?_ ?_<;>(intro hb hbp;try(cases hb;done)))|(apply am fun K hK=>?_)|fail)
  refine qc ?_;refine aF ?_ (IH k1 _ I e1 hF1 m (cX _ _ _ _));rintro v H3 ⟨rfl,S3,lv3,R3,F3⟩;have g3:=gc hR (O.trans F3);have F123:=F1.trans (O.trans F3);dsimp only[aC];by_cases hd:x.op=7\/x.op=8
  .rw[ai hd]at hq;subst hq;have hFq:Fin (ah ⟨16,0,[I.1,(ah ⟨1,0,[]⟩ I.2).1]⟩ (ah ⟨1,0,[]⟩ I.2).2).2:=J.le (rj _ _ _).le;have hFz:Fin (ah ⟨1,0,[]⟩ I.2).2:=hFq.le (cC _ _).le;rcases hd with h7|h8
   .repeat' (first
     |(apply aj ?_;clear hK K)|apply bQ ?_|(apply jy ?_ ?_<;>(intro hg hgp;try(cases hg;done)))|(apply bu ?_ ?_<;>(intro hb hbp;try(cases hb;done)))|(apply am fun K hK=>?_)|fail)
    refine qc ?_;refine aF ?_ (yI U R3 (cX _ _ _ _) 0 hFz);rintro v H4 ⟨rfl,S4,lv4,R4,F4⟩;have C:=R4.new (ay _);dsimp only[aC];refine jG ?_;refine qc ?_;refine aF ?_ (rm U (R4.alloc _) ((cX _ _ _ _).alloc _) ⟨16,0,[I.1,(ah ⟨1,0,[]⟩ I.2).1]⟩ rfl dZ (ay _) (bT _) C.2.2 C.1 C.2.1 hFq rfl rfl);rintro v H5 ⟨rfl,S5,lv5,R5,F5⟩;dsimp only[aC];refine jG ?_;refine qc ?_;refine aF ?_ (E7 U R5 (cX _ _ _ _) 1 _ J);rintro v H6 ⟨S6,lv6,R6,F6⟩;have F36:=F4.trans (F5.trans F6);have g6:=gc hR (O.trans (F3.trans F36));have j:=R6.new (ay _);have R6':zd1 X H6 S6 (mF I.1 I.2) lv6 vv:=R6;dsimp only[aC];refine wh fun K hK=>?_;refine qc ?_;refine aF ?_ (rm U (R6'.alloc _) ((cX _ _ _ _).alloc _) ⟨x.op,0,[br.1,I.1]⟩ rfl dZ (ay _) (bT _) j.2.2 j.1 j.2.1 hF h7 rfl);intro w H7 h7q;have h5q:=h7q.db (F123.trans F36);obtain⟨rfl,h6q⟩:=h7q;dsimp only[aC];refine jG ?_;all_goals refine qq ?_
    simp_all
   .have h7:¬x.op=7:=by omega
    refine xI fun K hK=>?_;refine qc ?_;refine aF ?_ (yI U R3 (cX _ _ _ _) 0 hFz);rintro v H4 ⟨rfl,S4,lv4,R4,F4⟩;have C:=R4.new (ay _);dsimp only[aC];refine jG ?_;refine qc ?_;refine aF ?_ (rm U (R4.alloc _) ((cX _ _ _ _).alloc _) ⟨16,0,[I.1,(ah ⟨1,0,[]⟩ I.2).1]⟩ rfl dZ (ay _) (bT _) C.2.2 C.1 C.2.1 hFq rfl rfl);rintro v H5 ⟨rfl,S5,lv5,R5,F5⟩;dsimp only[aC];refine jG ?_;refine qc ?_;refine aF ?_ (E7 U R5 (cX _ _ _ _) 1 _ J);rintro v H6 ⟨S6,lv6,R6,F6⟩;have F36:=F4.trans (F5.trans F6);have g6:=gc hR (O.trans (F3.trans F36));have j:=R6.new (ay _);have R6':zd1 X H6 S6 (mF I.1 I.2) lv6 vv:=R6;dsimp only[aC];refine wh fun K hK=>?_;refine qc ?_;refine aF ?_ (rm U (R6'.alloc _) ((cX _ _ _ _).alloc _) ⟨x.op,0,[br.1,I.1]⟩ rfl dZ (ay _) (bT _) j.2.2 j.1 j.2.1 hF h8 rfl);intro w H7 h7q;have h5q:=h7q.db (F123.trans F36);obtain⟨rfl,h6q⟩:=h7q;dsimp only[aC];refine jG ?_;all_goals refine qq ?_
    simp_all
  .rw[af hd]at hq;subst hq;have h7:¬x.op=7:=fun e=>hd (.inl e);have h8:¬x.op=8:=fun e=>hd (.inr e);have V:=R3.new (ay _);refine xI fun K hK=>?_;refine qc ?_;refine aF ?_ (rm U (R3.alloc _) ((cX _ _ _ _).alloc _) ⟨x.op,0,[br.1,I.1]⟩ rfl dZ (ay _) (bT _) V.2.2 V.1 V.2.1 hF rfl rfl);intro w H4 h4;have h5:=h4.db F123;obtain⟨rfl,h6⟩:=h4;dsimp only[aC];refine jG ?_;all_goals refine qq ?_
   exact h5
end
section
def tyLoE.tyF:=ad @cr (ad @yb (ad @cK (ad @jn (ad @fP (ad @eL (ad @dV (ad @dR (ad @dD (ad @DF (ad @eh (ad @oW (@rN))))))))))))
open tyLoE
noncomputable def Qz:{c:SC // aE 42 (f185.body.getD .skip)=c}:=by
 refine⟨?_,?_⟩;rotate_left
 .simp only[f185,bN,aE,bH,bw,bM,bJ,Nat.blt,Nat.ble];rfl
def QA(q:Nat)(H:Hp)(b:qM)(v:AV)(H':Hp):Prop:=H'.get q=some (.cells (b.map .bool) 0 true)/\H.next<=H'.next/\∀k,k<H.next->k≠q->H'.get k=H.get k
structure Smq (n q:Nat) (H H':Hp):Prop where
 get:∀k,k<n->k≠q->H'.get k=H.get k
theorem vM(C:List bG):∀(n:Nat) (l:qD) (b b':qM),fC C n l b=some b'->b'.length=b.length
 |0,_,_,_,h=>by simp[fC]at h
 |n+1,[],b,b',h=>by cases h;rfl
 |n+1,x::l,b,b',h=>by
  unfold fC at h;simp only[]at h;split at h
  .cases h
  .simp only[gG]at h;obtain⟨m,j,O,Z,V⟩:=h;rw[vM C n _ _ _ V,vM C n _ _ _ Z,vM C n _ _ _ j];split<;>simp
def E8{q n:Nat}(Y:m<n):el prog 84 (.sl q 0 n 1) (.int .i64 (m:Int))=some (.ptr q m):=by rw[wI underlying84 DA Y];simp
def QB{r:Nat}{b:qM}(hg:H.get r=some (.cells (b.map .bool) 0 true))(Y:m<b.length)(x:Bool):lW prog H 4 (.ptr r m) (.bool x)=some (H.set r (.cells ((b.set m x).map .bool) 0 true)):=by
 rw[zbf hg (by rw[dx];exact Y),wN]
set_option maxRecDepth 100000 in
theorem JN{tb:qC}(hG:zd9 tb){X:Lx}{c:Cx}(hX:zig X c):∀(N n:Nat),n<N->∀(l:qD) (b b':qM),fC c.aF n l b=some b'->bi l<2^40->∀{H:Hp}{S:Nat->Prop}{s:Bd}{lv vv:AV}{q:Nat},zd1 X H S s lv vv->H.get q=some (.cells (b.map .bool) 0 true)->X.b<q->q<H.next->¬S q->¬aN vv q ->
 aR prog (au pls tb) 185 [.ptr X.b 0,.az (l.map St.cells),.sl q 0 b.length 1] H (QA q H b')
 |0,n,hn,_,_,_,_,_,_,_,_,_,_,_,_,_,_,_,_,_=>by omega
 |N+1,n,hn,l,b,b',h,hz,H,S,s,lv,vv,q,hR,hg,hq1,hq2,hq3,hq4=>by
  have hw:zd0 (au pls tb) 185:=hG.plain cM;have hll:=mZ l;have o3:=hR.o3;have o4:=hR.o4;refine bp (M:=42) (rs:=[]) (hw.call _) hw.aG hw.aB func185 rfl rfl Qz.2 rfl ?_;dsimp only[Qz,bm,Nat.reduceAdd];refine dJ ?_;refine cl [0,2,8,9] [] 10 l.length (fun i E z=>∃m C,m<=n/\C.length=b.length/\fC c.aF m (l.drop i) C=some b'/\z.get q=some (.cells (C.map .bool) 0 true)/\Smq H.next q H z) eE ⟨n,b,ay _,rfl,h,hg,⟨fun _ _ _=>rfl⟩⟩ ?_;rintro i E z hi hcE hrH O hsI ⟨m,C,hm,hbl,U,hg2,J⟩;(try simp only[bC,aZ,aW,aG,aY,Nat.reduceBEq, *]at hcE);(try simp only[aZ, *]at hrH);(try simp only[aU,bq,ce,bR,Nat.reduceAdd]at O);have R2:zd1 X z S s lv vv:=hR.keep O fun k Z j=>J.get k Z fun e=>by
   subst e;rcases j with j|j|j
   .omega
   .exact hq3 j
   .exact hq4 j
  by_cases I:i<l.length
  .have hlt':(i:Int)<l.length:=by omega
   have hgx:l[i]?=some l[i]:=bj I;have hmem:=my (dm I);have hsz:=(l[i]).aV;cases m with
   |zero=>simp[fC]at U
   |succ m=>
   rw[gI I]at U;unfold fC at U;simp only[]at U;generalize l[i]=x at *;split at U
   .cases U
   rename_i hno;simp only[gG]at U;obtain⟨b2,j2,b3,j3,j4⟩:=U;have R3:=R2.cl (.cells (List.replicate 17 (.int .i64 0)) 0 true) (.cells x.cells 0 true);refine zr ?_;(apply bz (fun hb hbp=>?_) (fun hb hbp=>?_)<;>try(cases hb;done));apply fA ?_;apply cW ?_;apply dX ?_;apply cW ?_;(apply am fun K hK=>?_);repeat' (first
    |(apply aj ?_;clear hK K)|apply Ry.o ?_|apply iS ?_)
   apply cW ?_;generalize Y:Hp.set (z.alloc _) _ _=Hb;have Rb:zd1 X Hb S s lv vv:=by rw[<-Y];exact R2.cl _ _
   have nb:Hb.next=z.next+1:=vC
   have gb:Hb.get q=some (.cells (C.map .bool) 0 true):=by rw[<-Y,aM,af ac,aD,af ac];exact hg2
   have gx:Hb.get z.next=some (.cells x.cells 0 true):=JK
   have sb:Smq H.next q H Hb:=⟨fun k Z j=>by rw[<-Y,aM,af ac,aD,af ac];exact J.get k Z j⟩
   clear Y R3;have mb:=Rb.m;unfold bU at mb;have hlk:=Rb.lkN hX x.name;have V:(if x.am=1\/x.am=6 then C.set (bV c.aF x.name) true else C).length=b.length:=by split<;>simp[hbl]
   refine Oe (fun E' H'=>E'.at 0=.ptr X.b 0/\E'.at 2=.sl q 0 b.length 1/\E'.at 7=.ptr z.next 0/\E'.at 8=.az (l.map St.cells)/\E'.at 9=.int .i64 l.length/\E'.at 10=.int .i64 i/\H'.get q=some (.cells ((if x.am=1\/x.am=6 then C.set (bV c.aF x.name) true else C).map .bool) 0 true)/\H'.get z.next=some (.cells x.cells 0 true)/\H'.next=z.next+1/\Smq H.next q H H') ?_ ?_
   .by_cases hk:x.am=1\/x.am=6
    .have hixl:bV c.aF x.name<C.length:=by
      by_cases c2:bV c.aF x.name<C.length
      .exact c2
      .exact absurd ⟨hk,ac⟩ hno
     have hix:=E8 (q:=q) (n:=b.length) (m:=bV c.aF x.name) ac;have hst:=QB gb hixl true;rcases hk with Z|h6
     .repeat' (first
       |(apply aj ?_;clear hK K)|apply bQ ?_|(apply jy ?_ ?_<;>(intro hg hgp;try(cases hg;done)))|(apply bu ?_ ?_<;>(intro hb hbp;try(cases hb;done)))|(apply am fun K hK=>?_)|(apply wU 4 fun K hK=>?_)|fail)
      all_goals first
       |exact cn
       |skip
      exact⟨rfl,eE,eE,eE,eE,eE,eE,by rw[aM,ai rfl,ai (.inl Z)],by rw[aM,af ac];exact gx,nb,⟨fun k Z j=>Qg⟩⟩
     .have Z:¬x.am=1:=by omega
      repeat' (first
       |(apply aj ?_;clear hK K)|apply bQ ?_|(apply jy ?_ ?_<;>(intro hg hgp;try(cases hg;done)))|(apply bu ?_ ?_<;>(intro hb hbp;try(cases hb;done)))|(apply am fun K hK=>?_)|(apply wU 4 fun K hK=>?_)|fail)
      all_goals first
       |exact cn
       |skip
      exact⟨rfl,eE,eE,eE,eE,eE,eE,Qh,by rw[aM,af ac];exact gx,nb,⟨fun k Z j=>Qg⟩⟩
    .have Z:¬x.am=1:=fun e=>hk (.inl e);have h6:¬x.am=6:=fun e=>hk (.inr e);rw[af hk];repeat' (first
      |(apply aj ?_;clear hK K)|apply bQ ?_|(apply jy ?_ ?_<;>(intro hg hgp;try(cases hg;done)))|(apply bu ?_ ?_<;>(intro hb hbp;try(cases hb;done)))|(apply am fun K hK=>?_)|fail)
     exact⟨rfl,eE,eE,eE,eE,eE,eE,gb,gx,nb,sb⟩
   generalize (if x.am=1\/x.am=6 then C.set (bV c.aF x.name) true else C)=b1 at *;clear gb gx nb sb mb hlk;rintro E3 H3 ⟨k0,k2,k7,k8,k9,k10,g3,gx3,n3,s3⟩;dsimp only[lP];have R3:zd1 X H3 S s lv vv:=hR.keep ac fun k Z j=>s3.get k Z fun e=>by
    subst e;rcases j with j|j|j
    .omega
    .exact hq3 j
    .exact hq4 j
   refine cY fun K hK=>?_;refine qc ?_;refine aF ?_ (by rw[<-V];exact JN hG hX N m ac x.bl b1 b2 j2 ac R3 g3 hq1 ac hq3 hq4);rintro v H4 ⟨g4,n4,s4⟩;have hbl2:=vM _ _ _ _ _ j2;have gx4:H4.get z.next=some (.cells x.cells 0 true):=by rw[s4 _ ac ac];exact gx3
   have R4:zd1 X H4 S s lv vv:=R3.keep n4 fun k Z j=>s4 k Z fun e=>by
    subst e;rcases j with j|j|j
    .omega
    .exact hq3 j
    .exact hq4 j
   have s4':Smq H.next q H H4:=⟨fun k Z j=>by rw[s4 k ac j];exact s3.get k Z j⟩
   clear s4;dsimp only[aC];refine cY fun K hK=>?_;refine qc ?_;refine aF ?_ (by rw[<-V,<-hbl2];exact JN hG hX N m ac x.bA b2 b3 j3 ac R4 g4 hq1 ac hq3 hq4);rintro v H5 ⟨g5,n5,s5⟩;have hbl3:=vM _ _ _ _ _ j3;have s5':Smq H.next q H H5:=⟨fun k Z j=>by rw[s5 k ac j];exact s4'.get k Z j⟩
   clear s5;dsimp only[aC];refine dJ ?_;refine⟨ac,a0,a0,ca,yl,?_⟩;exact⟨m,b3,ac,ac,j4,g5,s5'⟩
  .have hlt':¬(i:Int)<l.length:=by omega
   refine tA (fun hb hbp=>?_);all_goals refine qq ?_
   have hd:l.drop i=[]:=mH ac;rw[hd]at U;cases m with
   |zero=>simp[fC]at U
   |succ m=>
    cases U;exact⟨hg2,O,J.get⟩
end
section
def tyLoF.tyF:=ad @dQ (ad @cr (ad @cK (ad @jn (ad @fP (ad @eL (ad @dV (ad @dR (ad @dD (ad @eh (ad @oW (ad @rN (ad @E6 (@uz)))))))))))))
open tyLoF
noncomputable def mI:{c:SC // aE 155 (f135.body.getD .skip)=c}:=by
 refine⟨?_,?_⟩;rotate_left
 .simp only[f135,bN,aE,bH,bw,bM,bJ,Nat.blt,Nat.ble];rfl
section
variable {tb:qC} (hG:zd9 tb) {X:Lx} {c:Cx} (hX:zig X c) {x:St} {s:Bd} {H:Hp} {S:Nat -> Prop} {lv vv:AV}
set_option maxRecDepth 100000 in
include hG hX in
def zc8(hk:x.am=1){n:Nat}{r:Int×Bd}(C:ec c n x.value s=some r)(hl:bV c.aF x.name<r.2.vars.length)(hF:Fin r.2)(I:zd1 X H S s lv vv):
 aR prog (au pls tb) 135 [.ptr X.b 0,.agg x.cells] H (pq X S vv H {r.2 with vars:=r.2.vars.set (bV c.aF x.name) r.1}):=by
 have Y:zd0 (au pls tb) 135:=hG.plain cM;have z:=I.alloc (.cells x.cells 0 true);have F1:=(cX X S vv H).alloc (.cells x.cells 0 true);have bZ:=z.m;unfold bU at bZ;have hlk1:=z.lkN hX x.name;have V:=dr c n _ _ _ C;have U:bV c.aF x.name<s.vars.length:=by rw[<-V.v];exact hl
 obtain⟨q,hix,hld,_⟩:=z.setV U r.1;refine bp (M:=155) (rs:=[]) (Y.call _) Y.aG Y.aB func135 rfl rfl mI.2 rfl ?_;dsimp only[mI,bm,Nat.reduceAdd];refine GA fun K hK=>?_;refine qd ?_;refine aF ?_ (tf hG hX n x.value s r C hF z (cX _ _ _ _));rintro v H2 ⟨rfl,S2,Z,m,O⟩;have g2:=gc I O;have m2:=m.m;unfold bU at m2;have hlk2:=m.lkN hX x.name;obtain⟨q',hix',hld',H3,hst,hq1,hq2,hq3,j,F3,o3,n3⟩:=m.setV hl r.1;have J:q'=q:=by
  simp_all
 subst J;have n2:H.next+1<=H2.next:=O.next
 have m3:=j.m;have hlk3:=j.lkN hX x.name;have g3:H3.get H.next=some (.cells x.cells 0 true):=Qi
 dsimp only[bU]at m3;dsimp only[aC];repeat' (first
  |apply aV ?_|(apply bD ?_;try intro _)|(apply ch ?_ ?_<;>clear hK K)|fail)
 .exact cn
 .all_goals refine qq ?_
  exact⟨S2,Z,vv,j,F1.trans (O.trans F3)⟩
set_option maxRecDepth 100000 in
include hG hX in
def zc9(hk:x.am=2){n:Nat}{i v:Int×Bd}(h1:ec c n x.a8 s=some i)(h2:ec c n x.value i.2=some v)(ha:c.aa[bV (c.aa.map (·.name)) x.name]?=some a)
 (hF:Fin (ah ⟨28,bV (c.aa.map (·.name)) x.name,[(eO a.len i.1 v.2).ab,i.1,v.1]⟩ (eO a.len i.1 v.2)).2) (I:zd1 X H S s lv vv) :
 aR prog (au pls tb) 135 [.ptr X.b 0,.agg x.cells] H (pq X S vv H { (ah ⟨28,bV (c.aa.map (·.name)) x.name,[(eO a.len i.1 v.2).ab,i.1,v.1]⟩ (eO a.len i.1 v.2)).2 with ab:=(ah ⟨28,bV (c.aa.map (·.name)) x.name,[(eO a.len i.1 v.2).ab,i.1,v.1]⟩ (eO a.len i.1 v.2)).1}):=by
 have Y:zd0 (au pls tb) 135:=hG.plain cM;have z:=I.alloc (.cells x.cells 0 true);have F1:=(cX X S vv H).alloc (.cells x.cells 0 true);have bZ:=z.m;unfold bU at bZ;have hlk1:=z.gb hX x.name;have j:Fin (eO a.len i.1 v.2):=hF.le (cC _ _).le;have J:Fin v.2:=j.le (r0 _ _ _).le;have V:Fin i.2:=J.le (dr c n _ _ _ h2).le;have m:X.p.aa[bV (c.aa.map (·.name)) x.name]?=some a:=by rw[<-hX.ar];exact ha
 refine bp (M:=155) (rs:=[]) (Y.call _) Y.aG Y.aB func135 rfl rfl mI.2 rfl ?_;dsimp only[mI,bm,Nat.reduceAdd];repeat' (first
  |(apply aj ?_;clear hK K)|apply bQ ?_|(apply bu ?_ ?_<;>(intro hb hbp;try(cases hb;done)))|(apply am fun K hK=>?_)|(apply ci 5 [(3,8),(5,8),(6,8)] fun K hK=>?_)|(apply bD ?_;try intro _)|(apply ch ?_ ?_<;>clear hK K)|fail)
 all_goals first
  |exact cn
  |skip
 refine qc ?_;refine aF ?_ (tf hG hX n x.a8 s i h1 V z (cX _ _ _ _));rintro w H2 ⟨rfl,S2,lv2,R2,O⟩;have g2:=gc I O;dsimp only[aC];refine cY fun K hK=>?_;refine qc ?_;refine aF ?_ (tf hG hX n x.value i.2 v h2 J R2 (cX _ _ _ _));rintro w H3 ⟨rfl,S3,lv3,R3,F3⟩;have g3:=gc I (O.trans F3);dsimp only[aC];refine cY fun K hK=>?_;refine qc ?_;refine aF ?_ (Qw hG R3 (cX _ _ _ _) (bV (c.aa.map (·.name)) x.name) i.1 m j);rintro w H4 ⟨S4,lv4,U,F4⟩;have m4:=U.m;unfold bU at m4;have C:=U.new (ay _);dsimp only[aC];refine cY fun K hK=>?_;refine qc ?_;refine aF ?_ (rm hG (U.alloc _) ((cX _ _ _ _).alloc _) ⟨28,bV (c.aa.map (·.name)) x.name,[(eO a.len i.1 v.2).ab,i.1,v.1]⟩ rfl dZ (ay _) (bT _) C.2.2 C.1 C.2.1 hF rfl rfl);rintro w H5 ⟨rfl,S5,Z,R5,F5⟩;have m5:=R5.m;unfold bU at m5;dsimp only[aC];refine dJ ?_;all_goals refine qq ?_
 obtain⟨R6,F6⟩:=R5.setS (ah ⟨28,bV (c.aa.map (·.name)) x.name,[(eO a.len i.1 v.2).ab,i.1,v.1]⟩ (eO a.len i.1 v.2)).1;exact⟨S5,Z,vv,R6,F1.trans (O.trans (F3.trans (F4.trans (F5.trans F6))))⟩
set_option maxRecDepth 100000 in
include hG hX in
def zda(hk:x.am=5){n:Nat}{v:Int×Bd}(h1:ec c n x.value s=some v)(O:Fin (ah ⟨29,0,[v.2.ab,v.1]⟩ v.2).2)(V:zd1 X H S s lv vv):
 aR prog (au pls tb) 135 [.ptr X.b 0,.agg x.cells] H (pq X S vv H { (ah ⟨29,0,[v.2.ab,v.1]⟩ v.2).2 with ab:=(ah ⟨29,0,[v.2.ab,v.1]⟩ v.2).1}):=by
 have Z:zd0 (au pls tb) 135:=hG.plain cM;have R1:=V.alloc (.cells x.cells 0 true);have F1:=(cX X S vv H).alloc (.cells x.cells 0 true);have J:Fin v.2:=O.le (cC _ _).le;refine bp (M:=155) (rs:=[]) (Z.call _) Z.aG Z.aB func135 rfl rfl mI.2 rfl ?_;dsimp only[mI,bm,Nat.reduceAdd];refine GA fun K hK=>?_;refine qc ?_;refine aF ?_ (tf hG hX n x.value s v h1 J R1 (cX _ _ _ _));rintro w H4 ⟨rfl,S4,z,U,m⟩;have m4:=U.m;unfold bU at m4;have C:=U.new (ay _);dsimp only[aC];refine cY fun K hK=>?_;refine qc ?_;refine aF ?_ (rm hG (U.alloc _) ((cX _ _ _ _).alloc _) ⟨29,0,[v.2.ab,v.1]⟩ rfl dZ (ay _) (bT _) C.2.2 C.1 C.2.1 O rfl rfl);rintro w H5 ⟨rfl,j,I,Y,F5⟩;have m5:=Y.m;unfold bU at m5;dsimp only[aC];refine dJ ?_;all_goals refine qq ?_
 obtain⟨R6,F6⟩:=Y.setS (ah ⟨29,0,[v.2.ab,v.1]⟩ v.2).1;exact⟨j,I,vv,R6,F1.trans (m.trans (F5.trans F6))⟩
set_option maxRecDepth 100000 in
include hG in
def zdb(hk:x.am=7)(O:Fin (kC (bB (16+x.n)) (ah ⟨1,0,[]⟩ s).1 (ah ⟨1,0,[]⟩ s).2))(I:zd1 X H S s lv vv):
 aR prog (au pls tb) 135 [.ptr X.b 0,.agg x.cells] H (pq X S vv H (kC (bB (16+x.n)) (ah ⟨1,0,[]⟩ s).1 (ah ⟨1,0,[]⟩ s).2)):=by
 have V:zd0 (au pls tb) 135:=hG.plain cM;have R1:=I.alloc (.cells x.cells 0 true);have F1:=(cX X S vv H).alloc (.cells x.cells 0 true);have U:Fin (ah ⟨1,0,[]⟩ s).2:=O.le (rj _ _ _).le;refine bp (M:=155) (rs:=[]) (V.call _) V.aG V.aB func135 rfl rfl mI.2 rfl ?_;dsimp only[mI,bm,Nat.reduceAdd];refine GA fun K hK=>?_;refine qd ?_;refine aF ?_ (yI hG R1 (cX _ _ _ _) 0 U);rintro w m ⟨rfl,S4,z,j,Z⟩;have g4:=gc I Z;have n4:H.next+1<=m.next:=Z.next
 dsimp only[aC];refine rB ?_;all_goals first
  |exact cn
  |skip
 refine qd ?_;refine aF ?_ (E7 hG j (cX _ _ _ _) (bB (16+x.n)) (ah ⟨1,0,[]⟩ s).1 O);rintro w C ⟨S5,Y,R5,J⟩;have g5:=gc I (Z.trans J);have n5:H.next+1<=C.next:=dw n4 J.next
 have n45:m.next<=C.next:=J.next
 dsimp only[aC];refine Cc ?_ ?_
 .exact cn
 .all_goals refine qq ?_
  exact⟨S5,Y,vv,R5,F1.trans (Z.trans J)⟩
set_option maxRecDepth 100000 in
include hG in
def lst0(h1:¬x.am=1)(h2:¬x.am=2)(C:¬x.am=3)(V:¬x.am=4)(Y:¬x.am=5)(U:¬x.am=6)(J:¬x.am=7)(I:zd1 X H S s lv vv):
 aR prog (au pls tb) 135 [.ptr X.b 0,.agg x.cells] H (pq X S vv H s):=by
 have Z:zd0 (au pls tb) 135:=hG.plain cM;have z:=I.alloc (.cells x.cells 0 true);have O:=(cX X S vv H).alloc (.cells x.cells 0 true);refine bp (M:=155) (rs:=[]) (Z.call _) Z.aG Z.aB func135 rfl rfl mI.2 rfl ?_;dsimp only[mI,bm,Nat.reduceAdd];refine xJ ?_;all_goals refine qq ?_
 exact⟨S,lv,vv,z,O⟩
end
end
section
def tyLoF6.tyF:=ad @dQ (ad @cr (ad @cK (ad @jn (ad @fP (ad @eL (ad @dV (ad @dR (ad @dD (ad @eh (ad @oW (ad @rN (@vL))))))))))))
open tyLoF6
structure zd5 (S:Nat->Prop) (vv:AV) (lo:Nat) (H:Hp) (av:AV) (l:qy):Prop where
 r:fY H av l lo
 n:∀k,aN av k->¬S k/\¬aN vv k
def zd5.fr{vv:AV}{lo:Nat}(h:zd5 S vv lo H Y l)(hb:X.b<lo)(C:X.rt<lo)(f:FrL X S vv H S' Z H'):zd5 S' Z lo H' Y l:=by
 refine⟨h.r.keep f.next fun k z=>?_,fun k z=>?_⟩
 .have a:=h.r.lt z;have b:=h.n k z;exact f.get k a.2 ac ac b.1 b.2
 .have a:=h.r.lt z;have b:=h.n k z;refine⟨fun e=>?_,fun e=>?_⟩
  .rcases f.sub k e with e|e
   .exact b.1 e
   .omega
  .rcases f.own k e with e|e
   .exact b.2 e
   .omega
def zd5.f1{vv:AV}{lo:Nat}{Hb:Hp}(h:zd5 S vv lo H Z l)(Y:zd1 X Hb S s M vv)(I:lo<=Hb.next)(O:H.next<=Hb.next)(hg:∀k,k<H.next->Hb.get k=H.get k)(x:Int){r imm:Nat}(C:Hb.get r=some (.cells [.int .i64 x] imm true))(hb:X.b<lo)(m:l.length<2^39):
 ∃j H',cD prog false Hb 23 23 Z (.sl r 0 1 1)=some (j,H')/\zd5 S vv lo H' j (l++[x])/\zd1 X H' S s M vv/\FrL X S vv Hb S vv Hb/\Hb.next<=H'.next/\(∀k,k<Hb.next->¬aN Z k->H'.get k=Hb.get k)/\(∀k,aN j k->aN Z k\/Hb.next<=k)/\iV H' j (l++[x]) lo:=by
 have hr:fY Hb Z l lo:=h.r.keep O fun k z=>hg k (h.r.lt z).2;obtain⟨j,H',a1,V,a3,a4,J,U⟩:=D4 x hr I C m;refine⟨j,H',a1,⟨.inr V,fun k z=>?_⟩,Y.keep ac fun k h1 h2=>J k h1 fun e=>?_,cX _ _ _ _,ac,J,U,V⟩
 .rcases U k z with e|e
  .exact h.n k e
  .have:=Y.new e;simp_all
 .have b:=h.n k e;have c:=h.r.lt e
  grind
def JO(Y:zd9 tb){vv:AV}(I:zd1 X U S s M vv)(j:FrL X S vv H S vv U)(n:Nd){r:Nat}(V:n.ao.length=m)(hg:U.get r=some (.cells (n.ao.map (.int .i64)) 0 true))(hr:H.next<=r)(C:r<U.next)(hb:X.b<r)(hS:¬S r)(hv:¬aN vv r)(O:Fin (ah n s).2){op imm:Int}(Z:n.op=op)(J:n.aP=imm):
 aR prog (au pls tb) 86 [.ptr X.b 0,.int .i64 op,.int .i64 imm,.sl r 0 m 1] U (fun v H'=>sf X S vv H (ah n s) v H'/\U.next<=H'.next):=by
 subst V;subst Z;subst J;refine aF ?_ (Bp Y I n (.inr ⟨r,0,rfl,hg,cZ _,cZ _,C⟩) (fun k z=>?_) O.r (ur (sZ s.l n).length_le O.l))
 .intro v H' h;exact⟨h.val j fun k z=>by rw[uy z];exact hr,by obtain⟨_,_,_,_,q,_⟩:=h;exact q⟩
 .rw[uy z];exact⟨hb,hS,hv⟩
section
variable {tb:qC} (hG:zd9 tb) {X:Lx} {c:Cx} (hX:zig X c) {x:St} {s:Bd} {H:Hp} {S:Nat -> Prop} {lv vv:AV}
set_option maxRecDepth 100000 in
include hG hX in
theorem zdc(Y:x.am=6){n:Nat}{Z:qy×Bd}(h1:nC c n x.args s=some Z)(V:0<=cJ c.funcs x.to 0)(hl:bV c.aF x.name<Z.2.vars.length)(hz:x.sz<2^36)
 (hF:Fin (ah ⟨24,0,[(ah ⟨30,cJ c.funcs x.to 0,Z.2.ab::Z.1⟩ Z.2).1]⟩ { (ah ⟨30,cJ c.funcs x.to 0,Z.2.ab::Z.1⟩ Z.2).2 with ab:=(ah ⟨30,cJ c.funcs x.to 0,Z.2.ab::Z.1⟩ Z.2).1}).2) (U:zd1 X H S s lv vv) :
 aR prog (au pls tb) 135 [.ptr X.b 0,.agg x.cells] H (pq X S vv H (let r:=ah ⟨30,cJ c.funcs x.to 0,Z.2.ab::Z.1⟩ Z.2;let q:=ah ⟨24,0,[r.1]⟩ {r.2 with ab:=r.1};{q.2 with vars:=q.2.vars.set (bV c.aF x.name) q.1})):=by
 have hw:zd0 (au pls tb) 135:=hG.plain cM;have hkeep:(au pls tb).keep 135=false:=rfl;have R1:=U.alloc (.cells x.cells 0 true);have F1:=(cX X S vv H).alloc (.cells x.cells 0 true);have bZ:=R1.m;unfold bU at bZ;have o3:=U.o3;have o4:=U.o4;have o5:=U.o5;have hal:=mY x.args;have hsz:=x.aV;simp only[];generalize hr:ah ⟨30,cJ c.funcs x.to 0,Z.2.ab::Z.1⟩ Z.2=r at *;have hFr:Fin r.2:=hF.le ⟨(cC ⟨24,0,[r.1]⟩ {r.2 with ab:=r.1}).le.l,(cC ⟨24,0,[r.1]⟩ {r.2 with ab:=r.1}).le.n⟩;have hFa:Fin Z.2:=by rw[<-hr]at hFr;exact hFr.le (cC _ _).le
 have happl:=(sc c n _ _ _ h1).2;refine bp (M:=155) (rs:=[]) (hw.call _) hw.aG hw.aB func135 rfl rfl mI.2 rfl ?_;dsimp only[mI,bm,Nat.reduceAdd];refine tA (fun hb hbp=>?_);refine cl [0,3,12,94,95] [] 96 x.args.length (fun i E z=>∃J m s2 S2 lv2 a,E.at 8=a/\nC c n (x.args.drop i) s2=some (m,Z.2)/\Z.1=J++m/\zd1 X z S2 s2 lv2 vv/\FrL X S vv (H.alloc (.cells x.cells 0 true)) S2 vv z/\zd5 S2 vv (H.next+1) z a J/\J.length=i) eE ⟨[],Z.1,s,S,lv,.ag,eE,h1,rfl,R1,cX _ _ _ _,⟨.inl ⟨rfl,rfl⟩,fun k Y=>(rk Y).elim⟩,rfl⟩ ?_;rintro i E z hi hcE hrH hnH hsI ⟨J,m,s2,S2,lv2,a,k8,hJ,O,R2,F2,W2,C⟩;(try simp only[bC,aZ,aW,aG,aY,Nat.reduceBEq, *]at hcE);(try simp only[aZ,aY, *]at hrH);(try simp only[aU,]at hnH);have n2:H.next+1<=z.next:=hnH
 by_cases hlt:i<x.args.length
 .have hlt':(i:Int)<x.args.length:=by omega
  have hgx:x.args[i]?=some x.args[i]:=bj hlt;rw[gI hlt]at hJ;unfold nC at hJ;simp only[gG,dB]at hJ;obtain⟨e1,he1,r2,hr2,rfl,hr2'⟩:=hJ;generalize x.args[i]=y at *;have hFe:Fin e1.2:=by
   have:=(sc c n _ _ _ hr2).1.le;rw[hr2']at this;exact hFa.le this
  have gb2:=gc U F2;repeat' (first
   |(apply aj ?_;clear hK K)|apply bQ ?_|(apply bu ?_ ?_<;>(intro hb hbp;try(cases hb;done)))|(apply am fun K hK=>?_)|fail)
  refine qc ?_;have R2a:=R2.cl (.cells [AV.int .i64 0,.int .i64 0,.aj [],.int .i64 0,.ag] 0 true) (.cells y.cells 0 true);have F2a:=(cX X S2 vv z).cl (.cells [AV.int .i64 0,.int .i64 0,.aj [],.int .i64 0,.ag] 0 true) (.cells y.cells 0 true);refine aF ?_ (tf hG hX n y s2 e1 he1 hFe R2a (cX _ _ _ _));rintro w H3 ⟨rfl,S3,lv3,R3,F3⟩;have F23:=F2a.trans F3;have W3:=W2.fr ac ac F23;have n3:z.next+1<=H3.next:=F3.next
  have R3a:=R3.alloc (.cells [.int .i64 e1.1] 0 true);obtain⟨v5,H5,a5,W5,R5,_,n5,q5,_,_⟩:=W3.f1 R3a cB (cG _) (fun k Y=>em) e1.1 (r:=H3.next) (imm:=0) fc ac ac;have F5:FrL X S vv (H.alloc (.cells x.cells 0 true)) S3 vv H5:=by
   have F:=F2.trans F23;refine⟨Qj,fun k h1 h2 h3 h4 h5=>?_,F.sub,F.own⟩;rw[q5 k (by simp only[aU]at h1⊢;omega) (fun e=>by have:=W3.r.lt e;simp only[aU]at h1;omega),aD,af (by simp only[aU]at h1;omega)];exact F.get k h1 h2 h3 h4 h5
  have n5':z.next<=H5.next:=Bn
  dsimp only[aC];refine dJ ?_;refine⟨ac,a0,a0,ca,AY,?_⟩;exact⟨J++[e1.1],r2.1,e1.2,S3,lv3,v5,eE,aX,by rw[O];simp,R5,F5,W5,by simp[C]⟩
 .have hlt':¬(i:Int)<x.args.length:=by omega
  have hd:x.args.drop i=[]:=mH ac;rw[hd]at hJ;simp only[nC,dB]at hJ;obtain⟨hJ1,hJ2⟩:=hJ;subst hJ2;rw[<-hJ1,aS]at O;rw[<-O]at W2 C;clear hd C;have gb2:=gc U F2;have m2:=R2.m;unfold bU at m2;have hlF2:=R2.fV hX x.to V;have nw2:=R2.new (ay _);have Rb:=R2.alloc (.cells [.int .i64 Z.2.ab] 0 true);obtain⟨v6,H6,a6,i6,n6,l6,f6,q6⟩:=IP (H:=z.alloc (.cells [.int .i64 Z.2.ab] 0 true)) (v:=.sl z.next 0 1 1) (l:=[Z.2.ab]) (lo:=z.next) ⟨z.next,0,rfl,dZ,cZ _,ay _,bT _⟩ (cG _) (W2.r.keep (cG _) fun k Y=>by rw[aD,af (by have:=W2.r.lt Y;omega)]) aX;simp only[aU]at n6 l6 f6 q6;have hf6:∀k,k<z.next->H6.get k=z.get k:=fun k Y=>by rw[l6 k Y,aD,af ac]
  have R6:zd1 X H6 S2 Z.2 lv2 vv:=R2.keep ac fun k h1 _=>hf6 k h1;have F6:FrL X S2 vv z S2 vv H6:=⟨ac,fun k h1 _ _ _ _=>hf6 k h1,fun _ h=>.inl h,fun _ h=>.inl h⟩;have j:∀k,aN v6 k->z.next<=k:=fun k Y=>(i6.lt Y).1
  have I:=Bp hG R6 ⟨30,cJ c.funcs x.to 0,Z.2.ab::Z.1⟩ (.inr (by obtain⟨br,i0,z1,z2,z3,z4,z5⟩:=i6;exact⟨br,i0,z1,z2,z3,cZ _,z5⟩)) (fun k Y=>by have:=R2.new (j k Y);simp_all) (by rw[<-hr]at hFr;exact hFr.r) hFa.l;have m6:=R6.m;unfold bU at m6;have mb:=Rb.m;unfold bU at mb;have hlFb:=Rb.fV hX x.to V;have gbb:(z.alloc (.cells [.int .i64 Z.2.ab] 0 true)).get H.next=some (.cells x.cells 0 true):=aX
  have hlF6:=R6.fV hX x.to V;repeat' (first
   |(apply aj ?_;clear hK K)|apply bQ ?_|(apply bu ?_ ?_<;>(intro hb hbp;try(cases hb;done)))|(apply am fun K hK=>?_)|(apply ci 22 [(5,15),(5,16),(7,15),(7,16),(8,15),(8,16),(12,15),(13,15)] fun K hK=>?_)|(apply bD ?_;try intro _)|fail)
  refine qd ?_;refine aF ?_ I;intro w H7 h7;have h7':=h7.val F6 j;rw[hr]at h7';have n67:H6.next<=H7.next:=by obtain⟨_,_,_,_,h,_⟩:=h7;exact h
  clear h7 I;obtain⟨rfl,S7,lv7,R7,F7⟩:=h7';have gb6:H6.get H.next=some (.cells x.cells 0 true):=aX
  have gb7:=gc U (F2.trans F7);have m7:=R7.m;unfold bU at m7;have hlF7:=R7.fV hX x.to V;have n7:z.next<=H7.next:=F7.next
  obtain⟨R8,F8⟩:=R7.setS r.1;have gb8:=gc U (F2.trans (F7.trans F8));have m8:=R8.m;have hlF8:=R8.fV hX x.to V;have hlN8:=R8.lkN hX x.name;have hv8:r.2.vars=Z.2.vars:=by rw[<-hr];rfl
  have hl8:bV c.aF x.name<r.2.vars.length:=by rw[hv8];exact hl
  clear hv8;obtain⟨q,hix,hld,_⟩:=R8.setV hl8 0;have nw8:=R8.new (ay _);have R8a:=R8.alloc (.cells [.int .i64 r.1] 0 true);have I:=JO hG R8a ((cX _ _ _ _).alloc _) ⟨24,0,[r.1]⟩ rfl dZ (ay _) (bT _) nw8.2.2 nw8.1 nw8.2.1 hF rfl rfl;have n8:(H7.set X.b (.cells (bU X {r.2 with ab:=r.1} lv7 vv) 0 true)).next=H7.next:=rfl
  dsimp only[bU]at R8 F8 gb8 m8 hlF8 hlN8 R8a I hld n8;rw[n8]at I;dsimp only[aC];repeat' (first
   |apply aV ?_|(apply ci 23 [(3,17),(3,19),(7,17),(7,19),(9,17),(9,19),(10,17),(10,19),(15,17),(16,17)] fun K hK=>?_)|(apply bD ?_;try intro _)|(apply ch ?_ ?_<;>clear hK K)|fail)
  .exact cn
  .refine qd ?_;refine aF ?_ I;rintro w H9 ⟨⟨rfl,S9,lv9,R9,F9⟩,n9'⟩;simp only[aU,bq]at n9';have hl9:bV c.aF x.name<(ah ⟨24,0,[r.1]⟩ {r.2 with ab:=r.1}).2.vars.length:=hl8;obtain⟨q',hix',hld',H10,hst,hq1,hq2,hq3,R10,F10,o10,n10⟩:=R9.setV hl9 (ah ⟨24,0,[r.1]⟩ {r.2 with ab:=r.1}).1;have hqq:q'=q:=by
    grind
   subst hqq;have m8a:=R8a.m;have m9:=R9.m;have m10:=R10.m;have hlN8a:=R8a.lkN hX x.name;have hlN9:=R9.lkN hX x.name;have hlN10:=R10.lkN hX x.name;have F89:=F2.trans (F7.trans (F8.trans F9));have gb9:=gc U F89;have gb8a:=gc U (F2.trans (F7.trans (F8.alloc (.cells [.int .i64 r.1] 0 true))));have gb10:=gc U (F89.trans F10);have n9:=F9.next
   dsimp only[bU]at m8a m9 m10;simp only[bq]at n9;dsimp only[aC];refine rB ?_;refine x9 dY dY hst ?_;repeat' (first
    |(apply bD ?_;try intro _)|(apply ch ?_ ?_<;>clear hK K)|fail)
   .exact cn
   .all_goals refine qq ?_
    exact⟨S9,lv9,vv,R10,F1.trans (F89.trans F10)⟩
end
end
section
def tyLoG.tyF:=ad @dQ (ad @cr (ad @cK (ad @jn (ad @fP (ad @eL (ad @dV (ad @dR (ad @dD (ad @eh (ad @oW (@rN)))))))))))
open tyLoG
noncomputable def QC:{c:SC // aE 87 (f162.body.getD .skip)=c}:=by
 refine⟨?_,?_⟩;rotate_left
 .simp only[f162,bN,aE,bH,bw,bM,bJ,Nat.blt,Nat.ble];rfl
structure zij (S:Nat->Prop) (vv:AV) (lo:Nat) (H:Hp) (av:AV) (l:qy):Prop where
 r:gK H av l lo
 n:∀k,aN av k->¬S k/\¬aN vv k
def gK.lt{lo:Nat}(h:gK H v l lo)(z:aN v k):lo<=k/\k<H.next:=h.n.lt z
def gK.lo{lo lo':Nat}(h:gK H v l lo)(O:∀k,aN v k->lo'<=k):gK H v l lo':=by
 rcases h with h|⟨r,m,j,C,V⟩
 .exact .inl h
 .exact .inr ⟨r,m,j,O r ⟨_,m⟩,V⟩
def gK.one{H:Hp}{v:AV}{l:qy}{lo:Nat}(h:gK H v l lo):AV.one v=true/\v.cells=[v]:=by
 rcases h with⟨rfl,_⟩|⟨r,rfl,_⟩<;>exact⟨rfl,rfl⟩
def zij.fr{vv:AV}{lo:Nat}(h:zij S vv lo H Y l)(hb:X.b<lo)(C:X.rt<lo)(f:FrL X S vv H S' Z H'):zij S' Z lo H' Y l:=by
 refine⟨h.r.keep f.next fun k z=>?_,fun k z=>?_⟩
 .have a:=h.r.lt z;have b:=h.n k z;exact f.get k a.2 ac ac b.1 b.2
 .have a:=h.r.lt z;have b:=h.n k z;refine⟨fun e=>?_,fun e=>?_⟩
  .rcases f.sub k e with e|e
   .exact b.1 e
   .omega
  .rcases f.own k e with e|e
   .exact b.2 e
   .omega
def zij.at{vv:AV}{lo:Nat}(h:zij S vv lo H Z l)(I:l[i]?=some x):∃r,el prog 23 Z (.int .i64 (i:Int))=some (.ptr r i)/\gX prog H 3 (.ptr r i)=some (.int .i64 x)/\aN Z r:=by
 have J:i<l.length:=by
  grind
 rcases h.r with⟨_,rfl⟩|j
 .simp at J
 .obtain⟨r,C,V⟩:=j.b.at J;rw[bj J]at I;simp only[aQ]at I;rw[I]at V;refine⟨r,C,V,?_⟩;obtain⟨q,e,_⟩:=j;subst e;rw[wI underlying23 j5 J]at C;simp only[aQ,AV.ptr.injEq]at C;exact⟨_,by rw[C.1]⟩
def QD{lo:Nat}(V:fY H v l lo)(M:l.length<2^38):∃Z H',cD prog false H 23 23 .ag v=some (Z,H')/\gK H' Z l H.next/\H.next<=H'.next/\(∀k,k<H.next->H'.get k=H.get k):=by
 by_cases Y:l=[]
 .subst Y;refine⟨.ag,H,?_,.inl ⟨rfl,rfl⟩,ay _,fun _ _=>rfl⟩;rcases V with⟨rfl,_⟩|⟨r,z,rfl,j,_⟩
  .simp only[cD,underlying23,j5,oT,oU,show gN prog 23=true by kernel_rfl,fk]
  .have U:=sU j;simp only[fq]at U;simp only[cD,underlying23,j5,oT,oU,show gN prog 23=true by kernel_rfl,fq,U]
 .have hx:fk H 1 v=some (l.length,l.map (.int .i64)):=by
   rcases V with⟨_,h⟩|⟨r,z,rfl,j,_⟩
   .exact(Y h).elim
   .exact sU j
  obtain⟨Z,H',m,j,C,O,_⟩:=D5 (v:=.ag) (l:=[]) (lo:=H.next) (.inl ⟨rfl,rfl⟩) (ay _) hx Y cb;rw[lL]at j;exact⟨Z,H',m,.inr j,ac,O⟩
def E9(tb:qC)(X:Lx)(c:Cx)(n:Nat):Prop:=∀(l:qD) (s r:Bd),eY c n l s=some r->Fin r->bi l<2^36->s.vars.length<2^36->∀{H:Hp}{S:Nat->Prop}{lv vv:AV},zd1 X H S s lv vv->aR prog (au pls tb) 88 [.ptr X.b 0,.az (l.map St.cells)] H (pq X S vv H r)
section
variable {tb:qC} (hG:zd9 tb) {X:Lx} {c:Cx} (hX:zig X c) {x:St} {s:Bd} {H:Hp} {S:Nat -> Prop} {lv vv:AV}
set_option maxRecDepth 100000 in
include hG hX in
theorem zdd{n:Nat}(IH:E9 tb X c n){r:Int×Bd}{a b m:Bd}(h1:ec c n x.value s=some r)(h2:eY c n x.bl r.2=some a)(h3:eY c n x.bA {a with ab:=r.2.ab,vars:=r.2.vars}=some b)(h4:lC r.1 a.vars b.vars.length 0 b=some m)
 (hF:Fin (bA r.1 a.ab m.ab m).2) (hz:x.sz<2^36) (hvl:s.vars.length<2^36) (C:zd1 X H S s lv vv) :
 aR prog (au pls tb) 162 [.ptr X.b 0,.agg x.cells] H (pq X S vv H { (bA r.1 a.ab m.ab m).2 with ab:=(bA r.1 a.ab m.ab m).1}):=by
 have hw:zd0 (au pls tb) 162:=hG.plain cM;have hkeep:(au pls tb).keep 162=false:=rfl;have R1:=C.alloc (.cells x.cells 0 true);have F1:=(cX X S vv H).alloc (.cells x.cells 0 true);have hFm:Fin m:=hF.le (eZ _ _ _ _).le;have hml:=ta _ _ _ _ _ _ h4;have hFb:Fin b:=hFm.le hml.1;have e3:=(jD c n).2.1 _ _ _ h3;have e2:=(jD c n).2.1 _ _ _ h2;have hFa:Fin a:=hFb.le ⟨e3.1.l,e3.1.n⟩;have hFr:Fin r.2:=hFa.le e2.1;have hsz:=x.aV;have o3:=C.o3;have o4:=C.o4;have o5:=C.o5;have hlv:=dr c n _ _ _ h1;have hrl:r.2.vars.length<2^36:=EW;have hbl:b.vars.length<2^36:=by rw[e3.2];exact hrl
 clear e3 e2 hml hlv;refine bp (M:=87) (rs:=[]) (hw.call _) hw.aG hw.aB func162 rfl rfl QC.2 rfl ?_;dsimp only[QC,bm,Nat.reduceAdd];refine cY fun K hK=>?_;refine qc ?_;refine aF ?_ (tf hG hX n x.value s r h1 hFr R1 (cX _ _ _ _));rintro w H2 ⟨rfl,S2,lv2,R2,F2⟩;have g2:=gc C F2;have m2:=R2.m;have n2:H.next+1<=H2.next:=F2.next
 obtain⟨cv,H3,a3,c3,n3,q3⟩:=QD (H:=H2) R2.vars.n ac;have R3:zd1 X H3 S2 r.2 lv2 vv:=R2.keep n3 fun k h _=>q3 k h;have F3:FrL X S2 vv H2 S2 vv H3:=⟨n3,fun k h _ _ _ _=>q3 k h,fun _ h=>.inl h,fun _ h=>.inl h⟩;have m3:=R3.m;have g3:H3.get H.next=some (.cells x.cells 0 true):=aX
 have z3:zij S2 vv (H.next+1) H3 cv r.2.vars:=⟨c3.lo fun k z=>by have:=c3.lt z;omega,fun k z=>by
  have:=R2.new (c3.lt z).1;simp_all⟩
 obtain⟨hc1,hc2⟩:=c3.one;dsimp only[bU]at m2 m3;dsimp only[aC];refine KZ ?_ (fun K hK=>?_)
 .exact cn
 .refine qc ?_;refine aF ?_ (IH x.bl r.2 a h2 hFa ac hrl R3);rintro w H4 ⟨S4,Y,Z,R4,F4⟩;have O:=F2.trans (F3.trans F4);have g4:=gc C O;have z4:=z3.fr ac ac F4;have m4:=R4.m;obtain⟨R4s,F4s⟩:=R4.setS r.2.ab;have m4s:=R4s.m;have zs:=z4.fr (X:=X) ac ac F4s;have R5:=R4s.swapV (vw:=cv) (l:=r.2.vars) (zs.r.lo fun k _=>cZ _) (fun k z=>⟨by have:=zs.r.lt z;omega,(zs.r.lt z).2,(zs.n k z).1⟩);have m5:=R5.m;have hk5:∀k,k≠X.b->((H4.set X.b (.cells (bU X {a with ab:=r.2.ab} Y Z) 0 true)).set X.b (.cells (bU X {a with ab:=r.2.ab,vars:=r.2.vars} Y cv) 0 true)).get k=H4.get k:=fun k z=>Qk;have J:FrL X S vv (H.alloc (.cells x.cells 0 true)) S4 cv ((H4.set X.b (.cells (bU X {a with ab:=r.2.ab} Y Z) 0 true)).set X.b (.cells (bU X {a with ab:=r.2.ab,vars:=r.2.vars} Y cv) 0 true)):=⟨O.next,fun k h1 h2 h3 h4 h5=>by rw[hk5 k h2];exact O.get k h1 h2 h3 h4 h5,O.sub,fun k z=>.inr (z4.r.lt z).1⟩;have g5:=gc C J;have y5:zij S4 cv 0 ((H4.set X.b (.cells (bU X {a with ab:=r.2.ab} Y Z) 0 true)).set X.b (.cells (bU X {a with ab:=r.2.ab,vars:=r.2.vars} Y cv) 0 true)) Z a.vars:=⟨R4.vars.keep (ay _) fun k z=>hk5 k (by have:=(R4.vS k z).1;omega),fun k z=>⟨fun e=>(R4.sS k e).2.2 z,fun e=>(z4.n k e).2 z⟩⟩;have y5':zij S4 cv (X.b+1) ((H4.set X.b (.cells (bU X {a with ab:=r.2.ab} Y Z) 0 true)).set X.b (.cells (bU X {a with ab:=r.2.ab,vars:=r.2.vars} Y cv) 0 true)) Z a.vars:=⟨y5.r.lo fun k z=>(R4.vS k z).1,y5.n⟩;clear y5 hk5 F4s zs z4 z3 F3 O;dsimp only[bU]at m4 m4s m5 R5 J y5' g5;dsimp only[aC];refine KZ ?_ (fun K hK=>?_)
  .exact cn
  .refine qc ?_;refine aF ?_ (IH x.bA _ b h3 hFb ac hrl R5);rintro w H6 ⟨S6,lv6,j,R6,F6⟩;have I:=J.trans F6;have g6:=gc C I;have y6:=y5'.fr ac ac F6;have m6:=R6.m;have hlen6:=R6.vars.n.len';have n6:H.next+1<=H6.next:=I.next
   clear F6 J R5 R4s R4 y5' m5 m4s m4 g5 g4;dsimp only[bU]at m6;dsimp only[aC];refine dJ ?_;refine cl [0,4,7,8,51] [] 52 b.vars.length (fun i E Hi=>∃V Si lvi,lC r.1 a.vars (b.vars.length-i) i V=some m/\zd1 X Hi Si V lvi j/\FrL X S vv (H.alloc (.cells x.cells 0 true)) Si j Hi/\zij Si j (X.b+1) Hi Z a.vars/\V.vars.length=b.vars.length) eE ⟨b,S6,lv6,h4,R6,I,y6,rfl⟩ ?_;clear m6 g6 R6 I y6 hlen6;rintro i E Hi hi hcE hrH hnH hsI ⟨V,Si,lvi,U,Ri,Fi,yi,hil⟩;(try simp only[bC,aZ,aW,aG,aY,Nat.reduceBEq, *]at hcE);(try simp only[aZ, *]at hrH);(try simp only[aU,bq,ce,bR,Nat.reduceAdd]at hnH);have mi:=Ri.m;dsimp only[bU]at mi;have ni:H.next+1<=Hi.next:=Fi.next
   by_cases hlt:i<b.vars.length
   .have hlt':(i:Int)<b.vars.length:=by omega
    obtain⟨k,z⟩:∃k,b.vars.length-i=k+1:=⟨b.vars.length-i-1,ac⟩;have hk2:b.vars.length-(i+1)=k:=ac;rw[z]at U;rw[hk2];unfold lC at U;simp only[gG]at U;obtain⟨xa,hxa,xb,hxb,U⟩:=U;obtain⟨qa,hixa,hlda,hqa⟩:=yi.at hxa;obtain⟨qb,hixb,hldb⟩:=Ri.atV hxb;have hFx:Fin (bA r.1 xa xb V).2:=hFm.le ⟨(ta _ _ _ _ _ _ U).1.l,(ta _ _ _ _ _ _ U).1.n⟩;have hx2:(bA r.1 xa xb V).2.vars=V.vars:=(eZ _ _ _ _).v;have hvx:i<(bA r.1 xa xb V).2.vars.length:=by rw[hx2];omega
    repeat' (first
     |(apply aj ?_;clear hK K)|apply bQ ?_|(apply bu ?_ ?_<;>(intro hb hbp;try(cases hb;done)))|(apply am fun K hK=>?_)|(apply ci 10 [(3,18),(3,20),(10,18),(14,18),(17,18)] fun K hK=>?_)|(apply bD ?_;try intro _)|fail)
    refine qd ?_;refine aF ?_ (yJ hG Ri (cX _ _ _ _) r.1 xa xb hFx);rintro w H7 ⟨rfl,S7,lv7,R7,F7⟩;obtain⟨q',hix',hld',H8,hst,hq1,hq2,hq3,R8,F8,o8,n8⟩:=R7.setV hvx (bA r.1 xa xb V).1;have hqq:q'=qb:=by
     grind
    subst hqq;have y7:=yi.fr ac ac F7;have y8:=y7.fr ac ac F8;obtain⟨qa7,ix7,ld7,_⟩:=y7.at hxa;obtain⟨qa8,ix8,ld8,_⟩:=y8.at hxa;rw[hixa]at ix7 ix8;simp only[aQ,AV.ptr.injEq,aW]at ix7 ix8;subst ix7 ix8;have m7:=R7.m;have m8:=R8.m;have n7:=F7.next
    dsimp only[bU]at m7 m8;have fin:∀R:Prop,R->R:=fun _ h=>h;clear fin hix' hx2;dsimp only[aC];repeat' (first
     |(apply aj ?_;clear hK K)|apply aV ?_|(apply am fun K hK=>?_)|(apply bD ?_;try intro _)|(apply ch ?_ ?_<;>clear hK K)|fail)
    .exact cn
    .refine⟨ac,a0,a0,ca,Qn,?_⟩;exact⟨_,S7,lv7,U,R8,Fi.trans (F7.trans F8),y8,Qm⟩
   .have hlt':¬(i:Int)<b.vars.length:=by omega
    have z:b.vars.length-i=0:=ac;rw[z]at U;simp only[lC,aQ]at U;subst U;refine zq fun K hK=>?_;refine qc ?_;refine aF ?_ (yJ hG Ri (cX _ _ _ _) r.1 a.ab V.ab hF);rintro w H7 ⟨rfl,S7,lv7,R7,F7⟩;have m7:=R7.m;dsimp only[bU]at m7;dsimp only[aC];refine dJ ?_;all_goals refine qq ?_
    obtain⟨R8,F8⟩:=R7.setS (bA r.1 a.ab V.ab V).1;exact⟨S7,lv7,j,R8,F1.trans (Fi.trans (F7.trans F8))⟩
end
end
end Go.Proofs.YtpbcimfiofmoeaaGreat
