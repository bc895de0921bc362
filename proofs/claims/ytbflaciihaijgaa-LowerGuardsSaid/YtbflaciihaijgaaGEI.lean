/- Lemmas for the last file. -/
import Derived.Test.YtbflaciihaijgaaGEH
set_option linter.all false
set_option maxHeartbeats 32000000
namespace Go.Ab
set_option maxRecDepth 20000
open Go
variable{qd:Prop}
def yK(h:qd:=by simp only[List.length_cons,List.length_nil];omega):=h
def tZ(h:qd:=by rw[m];omega):=h
def Hg(h:qd:=by rw[mQ,oO,decide_eq_true e.symm,Bool.or_true]):=h
def B8(h:qd:=by first|omega|exact aZ):=h
def B9(h:qd:=by rw[SK _ ac];omega):=h
def gy:=@cond_true
def vT:=@List.length_pos_iff
def fY:=@List.getD_eq_getElem?_getD
def vU:=@List.headD_cons
def p6:=@List.length_replicate
def vV:=@List.getElem?_replicate
def yL:=@Bool.and_assoc
def yM:=@List.eq_of_mem_replicate
def Hh:=@Bool.and_false
def ua:=@Bool.not_or
def p7:=@decide_eq_true
def p8:=@of_decide_eq_true
def p9:=@decide_eq_false
def Hk:=And.intro @Hh @gm
def Hl:=And.intro @my @iC
end Go.Ab
namespace Go.Proofs.Ytbflaciihaijgaa
set_option maxRecDepth 20000
open Go Go.Ab Proofs.Try
variable{K H J H':Hp}{v w x:AV}{cs:ql}{l m:qp}{i L z lo k r o:Nat}
section
def tyPzH.tyF:=ad @ef (ad @cJ (ad @cM (ad @kS (ad @eg (ad @dJ (ad @io (ad @eC (ad @kc (ad @lV (ad @sn (@fw)))))))))))
open tyPzH
noncomputable def Hm:{c:SC // aG 89 (f29.body.getD .skip)=c}:=by
 refine⟨?_,?_⟩;rotate_left
 .simp only[f29,bK,aG,bF,bw,bH,bI,Nat.blt,Nat.ble];rfl
def Ca(H:Hp)(s:qn):ec prog H 60 1 [(0,.ag s)]=some (.sl H.next 0 1 1,H.alloc (.cells [.ag s] 0 true)):=aF
theorem Hn(c0 L m Z Y W V C U:AV):cr 9 [c0,L,m,Z,Y,W,V,C,U]=some (.agg [c0,L,m,Z,Y,W,V,C,U]):=rfl
abbrev sH(l:qm):List ql:=l.map fun s=>[AV.ag s]
def Cb{M n:Nat}{l:qm}(h:b7 (fun k=>M<=k) n K 1 v (sH l))(Y:M<=K.next)(hl:l.length<2^21)(s:qn):
 ∃I K',cY prog false (K.alloc (.cells [.ag s] 0 true)) 60 60 v (.sl K.next 0 1 1)=some (I,K')/\b7 (fun k=>M<=k) (n+1) K' 1 I (sH (l++[s]))/\K.next+1<=K'.next/\∀k,k<M->K'.get k=K.get k:=by
 obtain⟨W,V,U,O,J,L,q5⟩:=b7.push (P:=prog) (t:=60) underlying60 vC x8 x9 rfl aF ((h.up (dB n)).keep (S':=fun k=>M<=k) (H':=K.alloc (.cells [.ag s] 0 true)) (fun _ _ h=>h) (dB _) fun k _ z=>fC) (Nat.le_succ_of_le Y) (r:=K.next) (imm:=0) (row:=[.ag s]) (w:=[.ag s]) jB rfl rfl (.d6 s) nJ nJ;refine⟨W,V,U,by rw[sH,mD];exact O,by rw[J,bj];omega,fun k z=>?_⟩;rw[L k (by rw[bj];omega) fun o m z' e=>?_,aJ,ao ac];rcases h with⟨Z,_⟩|⟨q',imm,C,Z,e1,e2,_⟩
 .rw[Z]at e;cases e
 .rw[Z]at e;simp only[AV.sl.injEq]at e;omega
def Sr{M n O:Nat}{W:Hp}{l:qy}{s:St}(h:b7 (fun k=>M<=k) n K 17 v (l.map St.cells))(hM:M<=K.next)(hl:l.length<2^21)(hn:K.next<=W.next)(hf:∀k,M<=k->k<K.next->W.get k=K.get k)(Z:cs.length=17)(V:cs.all AV.one=true)(U:bW (fun k=>K.next<=k) O W cs s.cells):
 ∃v' K',cY prog false (W.alloc (.cells cs 0 true)) 61 61 v (.sl W.next 0 1 17)=some (v',K')/\b7 (fun k=>M<=k) (max n O) K' 17 v' ((l++[s]).map St.cells)/\W.next+1<=K'.next/\∀k,k<M->K'.get k=W.get k:=by
 have z:∀q o m Y,v=.sl q o m Y->M<=q/\q<K.next:=fun q o m Y e=>by
  rcases h with⟨I,_⟩|⟨q',imm,rows,I,e1,e2,_⟩
  .rw[I]at e;cases e
  .rw[I]at e;simp only[AV.sl.injEq]at e;rw[<-e.1];exact⟨e1,e2⟩
 have C:b7 (fun q=>M<=q) (max n O) (W.alloc (.cells cs 0 true)) 17 v (l.map St.cells):=(h.up ac).keep (fun q _ h=>h) eh fun q L J=>by rw[aJ,ao ac,hf q L J]
 obtain⟨v5,H5,a5,s5,n5,f5,q5⟩:=b7.push (P:=prog) (t:=61) underlying61 ye By Bz rfl aF C eh (r:=W.next) (imm:=0) (row:=cs) (w:=s.cells) jB Z V ((U.up ac).aD (fun q L J=>⟨ac,fun o m Y e=>by have:=(z q o m Y e).2;omega⟩) (dB _) fun q L J=>fC) nJ nJ;refine⟨v5,H5,a5,by rw[mD];exact s5,by rw[n5,bj];omega,fun k hk=>?_⟩;rw[f5 k (by rw[bj];omega) (fun o m Y e=>by have:=(z k o m Y e).1;omega),aJ,ao ac]
def SqZ.dy{l:qx}{en:Int}{b:Nat}{O:ql}{M:Nat}(h:SqZ l en b H O i cs K)(I:H.next+2<=M)(Y:K.next<=J.next)(o:∀k,k<M->J.get k=K.get k):SqZ l en b H O i cs J:=by
 have C:=h.hb;exact⟨(o b ac).trans h.gb,(o _ ac).trans h.gz,(o _ ac).trans h.g3,C,by have:=h.nx;omega,h.le,fun k Z m=>(o k ac).trans (h.dW k Z m)⟩
def gW(H:Hp)(M:Nat)(K J:Hp):Prop:=K.next<=J.next/\∀k,H.next+1<k->k<M->J.get k=K.get k
def de.M{M:Nat}(h:de H K J)(I:M<=K.next):gW H M K J:=⟨h.1,fun k o m=>h.2 k o ac⟩
def gW.trans{Z:Hp}{M:Nat}(h:gW H M K J)(U:gW H M J Z):gW H M K Z:=⟨dq h.1 U.1,fun k o m=>(U.2 k o m).trans (h.2 k o m)⟩
def gW.of{M:Nat}(Z:K.next<=J.next)(o:∀k,k<L->J.get k=K.get k)(I:M<=L):gW H M K J:=⟨Z,fun k _ m=>o k ac⟩
def gW.le{M:Nat}(h:gW H M K J)(I:L<=M):gW H L K J:=⟨h.1,fun k o m=>h.2 k o ac⟩
def cK.fm{M n:Nat}{c:AV}(h:cK (fun k=>H.next+1<k/\k<M) n K c w)(f:gW H M K J):cK (fun k=>H.next+1<k/\k<M) n J c w:=h.keep (fun _ h=>h) f.1 fun k o _=>f.2 k o.1 o.2
theorem b7.done{M n:Nat}{m:List ql}(h:b7 (fun k=>M<=k) n K z v m)(I:H.next+2<=M):cK (fun k=>H.next+1<k/\k<K.next) (n+1) K v (.aq m):=h.rd.aD (fun k o Z=>⟨ac,o⟩) (az _) fun _ _ _=>rfl
def b7.fq{M n:Nat}{m:List ql}(h:b7 (fun k=>M<=k) n K z v m)(I:H.next+2<=M)(f:de H K J):b7 (fun k=>M<=k) n J z v m:=h.keep (fun _ _ h=>h) f.1 fun k o Z=>f.2 k ac Z
def Ss(l:qx)(m i:Nat)(O:qm):sf l (m+1) i O=if bP l i 0 [41]then some (O,i)else (if O.length=0 then some i else cS l i [44]).bind fun i=>(jq l i).bind fun s=>sf l m s.2 (O++[s.1]):=by rw[sf]
def Su(l:qx)(m i:Nat)(O:qm):sg l (m+1) i O=if bP l i 0 [44]then (jq l (i+1)).bind fun s=>sg l m s.2 (O++[s.1])else some (O,i):=by rw[sg]
def Sv(tb:qs)(l:qx)(en:Int)(b:Nat)(i:Nat)(r:Fu×Nat):Prop:=∀H:Hp,zau l en b i H->aX prog (aK pls tb) 29 [.ptr b 0] H (nM 9 l en b H r.1.cells r.2)
abbrev qk:HB:=.cells [.ag [],.aa,.aa,.aa,.int .i64 0,.int .i64 0,.ag [],.int .i64 0,.aa] 0 true
set_option maxRecDepth 100000 in
theorem Sw{tb:qs}(o:PzL tb){l:qx}{en:Int}{b:Nat}(hl:l.length<2^40){n:Nat}{r:Fu×Nat}(hn20:n<2^20)(hi:i<=l.length)(h:xX l n i=some r):Sv tb l en b i r:=by
 intro H hP;have hw:zaa (aK pls tb) 29:=o.plain cC;have hkeep:(aK pls tb).keep 29=false:=rfl;have hbn:=hP.lt;have cz:(H.next+1 == H.next)=false:=bQ ac;have m2:(H.next == H.next+1)=false:=bQ ac;have m3:(H.next+1 == b)=false:=bQ ac;have m4:(b == H.next+1)=false:=bQ ac;generalize hHa:(H.alloc qk).alloc qk=K0;have Q0:SqZ l en b H [.ag [],.aa,.aa,.aa,.int .i64 0,.int .i64 0,.ag [],.int .i64 0,.aa] i [.ag [],.aa,.aa,.aa,.int .i64 0,.int .i64 0,.ag [],.int .i64 0,.aa] K0:=B2;refine bA (M:=89) (rs:=[.cell 2 63]) (hw.call _) hw.aF hw.ak func29 rfl rfl Hm.2 rfl ?_;dsimp only[Hm,bt,Nat.reduceAdd];repeat' (first
  |(apply aj ?_;clear hK K)|apply Rx.o ?_|apply aD ?_|(apply aO (fun C L=>?_) (fun C L=>?_)<;>try(cases C;done))|apply ai ?_|(apply ah fun K hK=>?_)|(apply ak 7 [(1,3),(1,5),(4,5)] fun K hK=>?_)|(apply ak 11 [(1,3),(1,5),(4,5)] fun K hK=>?_)|(apply ak 14 [(1,3),(1,5),(4,5)] fun K hK=>?_)|(apply ak 17 [(1,3),(1,5),(4,5)] fun K hK=>?_)|(apply aV ?_;try intro _)|(apply aW ?_ ?_<;>clear hK K)|apply aU ?_|apply bD rfl ?_|apply aq ?_|apply am ?_|apply au ?_|apply aw ?_)
 rw[hHa];clear hHa;unfold xX at h;obtain⟨⟨nm,i0⟩,hq,h⟩:=bT.1 h;obtain⟨i1,e1,h⟩:=bT.1 h;obtain⟨⟨ps,i2⟩,J,h⟩:=bT.1 h;obtain⟨i3,e3,h⟩:=bT.1 h;obtain⟨⟨vs,i4⟩,Y,h⟩:=bT.1 h;obtain⟨i5,e5,h⟩:=bT.1 h;obtain⟨⟨bo,i6⟩,U,h⟩:=bT.1 h;obtain⟨i7,e7,h⟩:=bT.1 h;obtain⟨c,hc,h⟩:=bT.1 h;obtain⟨i8,e8,h⟩:=bT.1 h;obtain⟨j,e9,rfl⟩:=eI.1 h;clear h;simp only[]at *;refine qc ?_;refine aL ?_ (sG o Q0.gb hl hq);rintro v K1 ⟨rfl,p⟩;have Q1:=Q0.call p;clear p Q0;dsimp only[aI];have g3:=Q1.g3;repeat' (first
  |(apply aj ?_;clear hK K)|apply Rx.o ?_|apply aD ?_|(apply aO (fun C L=>?_) (fun C L=>?_)<;>try(cases C;done))|apply ai ?_|(apply ah fun K hK=>?_)|(apply ak 7 [(1,3),(1,5),(4,5)] fun K hK=>?_)|(apply ak 11 [(1,3),(1,5),(4,5)] fun K hK=>?_)|(apply ak 14 [(1,3),(1,5),(4,5)] fun K hK=>?_)|(apply ak 17 [(1,3),(1,5),(4,5)] fun K hK=>?_)|(apply aV ?_;try intro _)|(apply aW ?_ ?_<;>clear hK K)|apply aU ?_|apply bD rfl ?_|apply aq ?_|apply am ?_|apply au ?_|apply aw ?_)
 generalize hK:Hp.set K1 _ _=K2;have f2:de H K1 K2:=jL;have Q2:=Q1.put [.ag nm,.aa,.aa,.aa,.int .i64 0,.int .i64 0,.ag [],.int .i64 0,.aa];rw[hK]at Q2;clear hK;clear g3 f2 Q1;refine qc ?_;refine aL ?_ (fX o Q2.gb hl e1);rintro v K3 p;have f3:=Q2.frC p;have Q3:=Q2.call p;clear p;dsimp only[aI];repeat' (first
  |(apply aj ?_;clear hK K)|apply Rx.o ?_|apply aD ?_|(apply aO (fun C L=>?_) (fun C L=>?_)<;>try(cases C;done))|apply ai ?_|(apply ah fun K hK=>?_)|(apply ak 7 [(1,3),(1,5),(4,5)] fun K hK=>?_)|(apply ak 11 [(1,3),(1,5),(4,5)] fun K hK=>?_)|(apply ak 14 [(1,3),(1,5),(4,5)] fun K hK=>?_)|(apply ak 17 [(1,3),(1,5),(4,5)] fun K hK=>?_)|(apply aV ?_;try intro _)|(apply aW ?_ ?_<;>clear hK K)|apply aU ?_|apply bD rfl ?_|apply aq ?_|apply am ?_|apply au ?_|apply aw ?_)
 clear Q2 f3;have nx3:=Q3.nx;refine so [0,2,3] [] (fun I E K=>∃(O:qm) (V n4:Nat) (pv:AV),I<=n/\sf l I V O=some (ps,i2)/\SqZ l en b H [.ag [],.aa,.aa,.aa,.int .i64 0,.int .i64 0,.ag [],.int .i64 0,.aa] V [.ag nm,pv,.aa,.aa,.int .i64 0,.int .i64 0,.ag [],.int .i64 0,.aa] K/\b7 (fun k=>H.next+2<=k) n4 K 1 pv (sH O)/\O.length+I<=n) n ⟨[],i1,0,.aa,az _,J,Q3,.inl ⟨rfl,rfl⟩,aE⟩ ?_;clear J Q3 nx3;rintro I E4 K4 hcE hrH hnH ⟨O,V,n4,pv,hnn,J,Q4,rw4,hlen⟩;(try simp only[bN,bO,bu,aM,a0,Nat.reduceBEq,Nat.reduceAdd,Nat.reduceLeDiff,tyF, *]at hcE);clear hrH;cases I with
 |zero=>rw[sf]at J;cases J
 |succ I=>
 rw[Ss]at J;have hi':=Q4.le;have nx4:=Q4.nx;have ko:=oM o Q4.gb;have ka:aX prog (aK pls tb) 25 [.ptr b 0,.int .i64 0,.ag [41]] K4 fun v H'=>v=.bool (bP l V 0 [41])/\H'=K4:=jM o Q4.gb hl ac 0 aZ [41];split at J;rotate_left
 .rename_i h41;have h41:bP l V 0 [41]=false:=by simpa using h41
  obtain⟨i'',hi2,J⟩:=bT.1 J;obtain⟨s,hs,J⟩:=bT.1 J;obtain⟨opv,cpv⟩:=rw4.one;have g3:=Q4.g3;have hln:=fun K=>rw4.len (H':=K) underlying60;rw[dh]at hln;repeat' (first
   |(apply aj ?_;clear hK K)|apply Ry.o ?_|apply bq ?_|(apply ch ?_;first|refine Rx.k (ko) ?_|refine Rx.k (ka) ?_)|(apply bS (fun W Z=>?_) (fun W Z=>?_)<;>try(cases W;done))|apply ai ?_|(apply ah fun K hK=>?_)|(apply ak 7 [(1,3),(1,5),(4,5)] fun K hK=>?_)|(apply ak 11 [(1,3),(1,5),(4,5)] fun K hK=>?_)|(apply ak 14 [(1,3),(1,5),(4,5)] fun K hK=>?_)|(apply ak 17 [(1,3),(1,5),(4,5)] fun K hK=>?_)|(apply aV ?_;try intro _)|(apply aW ?_ ?_<;>clear hK K)|apply aU ?_|apply bD rfl ?_|apply aq ?_|apply am ?_|apply au ?_|apply aw ?_)
  (apply aO (fun C L=>?_) (fun C L=>?_)<;>try(cases C;done));repeat' (first
   |(apply aj ?_;clear hK K)|apply Rx.o ?_|apply aD ?_|apply ai ?_|(apply ah fun K hK=>?_)|(apply ak 7 [(1,3),(1,5),(4,5)] fun K hK=>?_)|(apply ak 11 [(1,3),(1,5),(4,5)] fun K hK=>?_)|(apply ak 14 [(1,3),(1,5),(4,5)] fun K hK=>?_)|(apply ak 17 [(1,3),(1,5),(4,5)] fun K hK=>?_)|(apply aV ?_;try intro _)|(apply aW ?_ ?_<;>clear hK K)|apply aU ?_|apply bD rfl ?_|apply aq ?_|apply am ?_|apply au ?_|apply aw ?_)
  refine G4 (fun E' K5=>E'.at 0=.ptr b 0/\E'.at 2=.ptr H.next 0/\E'.at 3=.ptr (H.next+1) 0/\SqZ l en b H [.ag [],.aa,.aa,.aa,.int .i64 0,.int .i64 0,.ag [],.int .i64 0,.aa] i'' [.ag nm,pv,.aa,.aa,.int .i64 0,.int .i64 0,.ag [],.int .i64 0,.aa] K5/\de H K4 K5) ?_ ?_
  .by_cases h0:O.length=0
   .rw[aB h0]at hi2;obtain rfl:=mO hi2;have h0':¬(0:Int)<(O.length:Int):=ac;repeat' (first
     |(apply aj ?_;clear hK K)|apply Ry.o ?_|apply bq ?_|(apply bS (fun W Z=>?_) (fun W Z=>?_)<;>try(cases W;done))|(apply aY (fun C L=>?_) (fun C L=>?_)<;>try(cases C;done))|apply ai ?_|(apply ah fun K hK=>?_)|(apply ak 7 [(1,3),(1,5),(4,5)] fun K hK=>?_)|(apply ak 11 [(1,3),(1,5),(4,5)] fun K hK=>?_)|(apply ak 14 [(1,3),(1,5),(4,5)] fun K hK=>?_)|(apply ak 17 [(1,3),(1,5),(4,5)] fun K hK=>?_)|(apply aV ?_;try intro _)|(apply aW ?_ ?_<;>clear hK K)|apply aU ?_|apply bD rfl ?_|apply aq ?_|apply am ?_|apply au ?_|apply aw ?_)
    exact⟨rfl,eE,eE,eE,Q4,az _,fun _ _ _=>rfl⟩
   .rw[ao h0]at hi2;have h0':(0:Int)<(O.length:Int):=ac;repeat' (first
     |(apply aj ?_;clear hK K)|apply Ry.o ?_|apply bq ?_|(apply bS (fun W Z=>?_) (fun W Z=>?_)<;>try(cases W;done))|(apply aY (fun C L=>?_) (fun C L=>?_)<;>try(cases C;done))|apply ai ?_|(apply ah fun K hK=>?_)|(apply ak 7 [(1,3),(1,5),(4,5)] fun K hK=>?_)|(apply ak 11 [(1,3),(1,5),(4,5)] fun K hK=>?_)|(apply ak 14 [(1,3),(1,5),(4,5)] fun K hK=>?_)|(apply ak 17 [(1,3),(1,5),(4,5)] fun K hK=>?_)|(apply aV ?_;try intro _)|(apply aW ?_ ?_<;>clear hK K)|apply aU ?_|apply bD rfl ?_|apply aq ?_|apply am ?_|apply au ?_|apply aw ?_)
    refine qc ?_;refine aL ?_ (fX o Q4.gb hl hi2);rintro v K5 p;dsimp only[aI];repeat' (first
     |(apply aj ?_;clear hK K)|apply Rx.o ?_|apply aD ?_|(apply aO (fun C L=>?_) (fun C L=>?_)<;>try(cases C;done))|apply ai ?_|(apply ah fun K hK=>?_)|(apply ak 7 [(1,3),(1,5),(4,5)] fun K hK=>?_)|(apply ak 11 [(1,3),(1,5),(4,5)] fun K hK=>?_)|(apply ak 14 [(1,3),(1,5),(4,5)] fun K hK=>?_)|(apply ak 17 [(1,3),(1,5),(4,5)] fun K hK=>?_)|(apply aV ?_;try intro _)|(apply aW ?_ ?_<;>clear hK K)|apply aU ?_|apply bD rfl ?_|apply aq ?_|apply am ?_|apply au ?_|apply aw ?_)
    exact⟨rfl,eE,eE,eE,Q4.call p,Q4.frC p⟩
  .clear g3 hln ko ka hi2;rintro E5 K5 ⟨dL,k2,k3,Q5,f5⟩;have rw5:=rw4.fq ac f5;have nx5:=Q5.nx;have n45:=f5.1;clear rw4 Q4 f5;dsimp only[lN];have g3:=Q5.g3;have gb:=Q5.gb;have nx5:=Q5.nx;repeat' (first
    |(apply aj ?_;clear hK K)|apply Rx.o ?_|apply aD ?_|(apply aO (fun C L=>?_) (fun C L=>?_)<;>try(cases C;done))|apply ai ?_|(apply ah fun K hK=>?_)|(apply ak 7 [(1,3),(1,5),(4,5)] fun K hK=>?_)|(apply ak 11 [(1,3),(1,5),(4,5)] fun K hK=>?_)|(apply ak 14 [(1,3),(1,5),(4,5)] fun K hK=>?_)|(apply ak 17 [(1,3),(1,5),(4,5)] fun K hK=>?_)|(apply aV ?_;try intro _)|(apply aW ?_ ?_<;>clear hK K)|apply aU ?_|apply bD rfl ?_|apply aq ?_|apply am ?_|apply au ?_|apply aw ?_)
   refine qc ?_;refine aL ?_ (sG o Q5.gb hl hs);rintro v Ka ⟨rfl,p⟩;have fa:=Q5.frC p;have Qa:=Q5.call p;have rwa:=rw5.fq ac fa;have ga:=Qa.g3;have nxa:=Qa.nx;have npa:=p.next
   clear p;dsimp only[aI];obtain⟨rv,Kb,ab,z,nb,fb⟩:=Cb rwa ac B8 s.1;have Qb:=Qa.dy ac ac fb;have gb3:=Qb.g3;obtain⟨orv,crv⟩:=z.one;have ma1:(H.next+1 == Ka.next)=false:=bQ ac;have ma2:(Ka.next == H.next+1)=false:=bQ ac;have gh0:=@Ca;repeat' (first
    |(apply aj ?_;clear hK K)|apply Rx.o ?_|apply aD ?_|(apply aO (fun C L=>?_) (fun C L=>?_)<;>try(cases C;done))|apply ai ?_|(apply ah fun K hK=>?_)|(apply ak 7 [(1,3),(1,5),(4,5)] fun K hK=>?_)|(apply ak 11 [(1,3),(1,5),(4,5)] fun K hK=>?_)|(apply ak 14 [(1,3),(1,5),(4,5)] fun K hK=>?_)|(apply ak 17 [(1,3),(1,5),(4,5)] fun K hK=>?_)|(apply aV ?_;try intro _)|(apply aW ?_ ?_<;>clear hK K)|apply aU ?_|apply bD rfl ?_|apply aq ?_|apply am ?_|apply au ?_|apply aw ?_)
   .exact cG
   .generalize hK:Hp.set Kb _ _=Kc;have fc:de H Kb Kc:=jL;have Qc:=Qb.put [.ag nm,rv,.aa,.aa,.int .i64 0,.int .i64 0,.ag [],.int .i64 0,.aa];rw[hK]at Qc;have rwc:=z.fq ac fc;clear hK;exact⟨bm,bm,(by have:=fc.1;omega),I,ct _,O++[s.1],s.2,n4+1,rv,ac,J,Qc,rwc,nK⟩
 .rename_i h41;obtain⟨hap,rfl⟩:O=ps/\V=i2:=tn;obtain rfl:=hap.symm;clear J;repeat' (first
   |(apply aj ?_;clear hK K)|apply Ry.o ?_|apply bq ?_|(apply ch ?_;first|refine Rx.k (ko) ?_|refine Rx.k (ka) ?_)|(apply bS (fun W Z=>?_) (fun W Z=>?_)<;>try(cases W;done))|(apply aY (fun C L=>?_) (fun C L=>?_)<;>try(cases C;done))|apply ai ?_|(apply ah fun K hK=>?_)|(apply ak 7 [(1,3),(1,5),(4,5)] fun K hK=>?_)|(apply ak 11 [(1,3),(1,5),(4,5)] fun K hK=>?_)|(apply ak 14 [(1,3),(1,5),(4,5)] fun K hK=>?_)|(apply ak 17 [(1,3),(1,5),(4,5)] fun K hK=>?_)|(apply aV ?_;try intro _)|(apply aW ?_ ?_<;>clear hK K)|apply aU ?_|apply bD rfl ?_|apply aq ?_|apply am ?_|apply au ?_|apply aw ?_)
  refine qc ?_;refine aL ?_ (fX o Q4.gb hl e3);rintro v K5 p;have f5:=Q4.frC p;have Q5:=Q4.call p;clear p;dsimp only[aI];repeat' (first
   |(apply aj ?_;clear hK K)|apply Rx.o ?_|apply aD ?_|(apply aO (fun C L=>?_) (fun C L=>?_)<;>try(cases C;done))|apply ai ?_|(apply ah fun K hK=>?_)|(apply ak 7 [(1,3),(1,5),(4,5)] fun K hK=>?_)|(apply ak 11 [(1,3),(1,5),(4,5)] fun K hK=>?_)|(apply ak 14 [(1,3),(1,5),(4,5)] fun K hK=>?_)|(apply ak 17 [(1,3),(1,5),(4,5)] fun K hK=>?_)|(apply aV ?_;try intro _)|(apply aW ?_ ?_<;>clear hK K)|apply aU ?_|apply bD rfl ?_|apply aq ?_|apply am ?_|apply au ?_|apply aw ?_)
  clear ka ko;have pd:=(cK.fm (rw4.done (H:=H) ac) (f5.M (az _))).aD (S':=fun k=>H.next+1<k/\k<K5.next) (fun k h1 h2=>⟨h2.1,h1⟩) (az _) fun _ _ _=>rfl;obtain⟨opv,cpv⟩:=rw4.one;clear f5 rw4 Q4 nx4;have nx5:=Q5.nx;obtain⟨M,hM⟩:∃M,M=K5.next:=⟨_,rfl⟩
  rw[<-hM]at pd;have hi3:=Q5.le;have ka:aX prog (aK pls tb) 25 [.ptr b 0,.int .i64 0,.ag [118,97,114]] K5 fun v H'=>v=.bool (bP l i3 0 [118,97,114])/\H'=K5:=jM o Q5.gb hl ac 0 aZ [118,97,114];repeat' (first
   |(apply aj ?_;clear hK K)|apply Ry.o ?_|apply bq ?_|(apply ch ?_;first|refine Rx.k (ka) ?_)|(apply bS (fun W Z=>?_) (fun W Z=>?_)<;>try(cases W;done))|apply ai ?_|(apply ah fun K hK=>?_)|(apply ak 7 [(1,3),(1,5),(4,5)] fun K hK=>?_)|(apply ak 11 [(1,3),(1,5),(4,5)] fun K hK=>?_)|(apply ak 14 [(1,3),(1,5),(4,5)] fun K hK=>?_)|(apply ak 17 [(1,3),(1,5),(4,5)] fun K hK=>?_)|(apply aV ?_;try intro _)|(apply aW ?_ ?_<;>clear hK K)|apply aU ?_|apply bD rfl ?_|apply aq ?_|apply am ?_|apply au ?_|apply aw ?_)
  refine G4 (fun E' K=>E'.at 0=.ptr b 0/\E'.at 2=.ptr H.next 0/\E'.at 3=.ptr (H.next+1) 0/\∃lv n5,SqZ l en b H [.ag [],.aa,.aa,.aa,.int .i64 0,.int .i64 0,.ag [],.int .i64 0,.aa] i4 [.ag nm,pv,lv,.aa,.int .i64 0,.int .i64 0,.ag [],.int .i64 0,.aa] K/\b7 (fun k=>M<=k) n5 K 1 lv (sH vs)/\gW H M K5 K) ?_ ?_
  .split at Y
   .rename_i hva;obtain⟨s,hs,Y⟩:=bT.1 Y;have hval:=sF hva;have ea:IntKind.wrap .i64 ((i3:Int)+1)=((i3+1:Nat):Int):=ei;have Q6:=Q5.dC (j:=i3+1) ac;have f6:de H K5 _:=Q5.d0 (x:=.cells [.aq (l.map Tk.cells),.int .i64 ((i3+1:Nat):Int),.int .i64 en,.int .i64 0,.int .i64 0] 0 true);generalize hK6:Hp.set K5 b _=K6 at Q6 f6;have rw6:b7 (fun k=>M<=k) 0 K6 1 .aa (sH []):=.inl ⟨rfl,rfl⟩;have gb5:=Q5.gb;have hM6:M<=K6.next:=by have:=f6.1;omega
    repeat' (first
     |(apply aj ?_;clear hK K)|apply Ry.o ?_|apply bq ?_|(apply bS (fun W Z=>?_) (fun W Z=>?_)<;>try(cases W;done))|(apply aY (fun C L=>?_) (fun C L=>?_)<;>try(cases C;done))|apply ai ?_|(apply ah fun K hK=>?_)|(apply ak 7 [(1,3),(1,5),(4,5)] fun K hK=>?_)|(apply ak 11 [(1,3),(1,5),(4,5)] fun K hK=>?_)|(apply ak 14 [(1,3),(1,5),(4,5)] fun K hK=>?_)|(apply ak 17 [(1,3),(1,5),(4,5)] fun K hK=>?_)|(apply aV ?_;try intro _)|(apply aW ?_ ?_<;>clear hK K)|apply aU ?_|apply bD rfl ?_|apply aq ?_|apply am ?_|apply au ?_|apply aw ?_)
    have g3:=Q6.g3;have gb:=Q6.gb;have nx6:=Q6.nx;repeat' (first
     |(apply aj ?_;clear hK K)|apply Rx.o ?_|apply aD ?_|(apply aO (fun C L=>?_) (fun C L=>?_)<;>try(cases C;done))|apply ai ?_|(apply ah fun K hK=>?_)|(apply ak 7 [(1,3),(1,5),(4,5)] fun K hK=>?_)|(apply ak 11 [(1,3),(1,5),(4,5)] fun K hK=>?_)|(apply ak 14 [(1,3),(1,5),(4,5)] fun K hK=>?_)|(apply ak 17 [(1,3),(1,5),(4,5)] fun K hK=>?_)|(apply aV ?_;try intro _)|(apply aW ?_ ?_<;>clear hK K)|apply aU ?_|apply bD rfl ?_|apply aq ?_|apply am ?_|apply au ?_|apply aw ?_)
    refine qc ?_;refine aL ?_ (sG o Q6.gb hl hs);rintro v Ka ⟨rfl,p⟩;have fa:=Q6.frC p;have Qa:=Q6.call p;have rwa:=rw6.fq ac fa;have ga:=Qa.g3;have nxa:=Qa.nx;have npa:=p.next
    clear p;dsimp only[aI];obtain⟨rv,Kb,ab,z,nb,fb⟩:=Cb rwa ac B8 s.1;have Qb:=Qa.dy ac ac fb;have gb3:=Qb.g3;obtain⟨orv,crv⟩:=z.one;have ma1:(H.next+1 == Ka.next)=false:=bQ ac;have ma2:(Ka.next == H.next+1)=false:=bQ ac;have gh0:=@Ca;repeat' (first
     |(apply aj ?_;clear hK K)|apply Rx.o ?_|apply aD ?_|(apply aO (fun C L=>?_) (fun C L=>?_)<;>try(cases C;done))|apply ai ?_|(apply ah fun K hK=>?_)|(apply ak 7 [(1,3),(1,5),(4,5)] fun K hK=>?_)|(apply ak 11 [(1,3),(1,5),(4,5)] fun K hK=>?_)|(apply ak 14 [(1,3),(1,5),(4,5)] fun K hK=>?_)|(apply ak 17 [(1,3),(1,5),(4,5)] fun K hK=>?_)|(apply aV ?_;try intro _)|(apply aW ?_ ?_<;>clear hK K)|apply aU ?_|apply bD rfl ?_|apply aq ?_|apply am ?_|apply au ?_|apply aw ?_)
    .exact cG
    .generalize hK:Hp.set Kb _ _=Kc;have fc:de H Kb Kc:=jL;have Qc:=Qb.put [.ag nm,pv,rv,.aa,.int .i64 0,.int .i64 0,.ag [],.int .i64 0,.aa];rw[hK]at Qc;have rwc:=z.fq ac fc;clear hK;have f5c:gW H M K5 Kc:=(f6.M ac).trans ((fa.M ac).trans ((gW.of ac fb (az _)).trans (fc.M ac)));refine so [0,2,3] [] (fun I E K=>∃(O:qm) (V n4:Nat) (lv:AV),I<=n/\sg l I V O=some (vs,i4)/\SqZ l en b H [.ag [],.aa,.aa,.aa,.int .i64 0,.int .i64 0,.ag [],.int .i64 0,.aa] V [.ag nm,pv,lv,.aa,.int .i64 0,.int .i64 0,.ag [],.int .i64 0,.aa] K/\b7 (fun k=>M<=k) n4 K 1 lv (sH O)/\gW H M K5 K/\O.length+I<=n+1) n ⟨[s.1],s.2,_,rv,az _,Y,Qc,rwc,f5c,yK⟩ ?_;have ncc:=Qc.nx;have hKM:M<=Kc.next:=by have:=f5c.1;omega
     clear Y Qc rwc f5c;rintro I E7 K7 hcE hrH hnH ⟨O,V,n7,lv,hnn,Y,Q7,rw7,f7,hlen⟩;(try simp only[bN,bO,bu,aM,a0,Nat.reduceBEq,Nat.reduceAdd,Nat.reduceLeDiff,tyF, *]at hcE);have hK7:M<=K7.next:=by have:=f7.1;omega
     clear hrH ncc hKM;cases I with
     |zero=>rw[sg]at Y;cases Y
     |succ I=>
     rw[Su]at Y;have hi':=Q7.le;have nx7:=Q7.nx;have ka:aX prog (aK pls tb) 25 [.ptr b 0,.int .i64 0,.ag [44]] K7 fun v H'=>v=.bool (bP l V 0 [44])/\H'=K7:=jM o Q7.gb hl ac 0 aZ [44];split at Y
     .rename_i h44;obtain⟨s,hs,Y⟩:=bT.1 Y;have h44l:=sF h44;have ea:IntKind.wrap .i64 ((V:Int)+1)=((V+1:Nat):Int):=ei;have Q8:=Q7.dC (j:=V+1) ac;have f8:de H K7 _:=Q7.d0 (x:=.cells [.aq (l.map Tk.cells),.int .i64 ((V+1:Nat):Int),.int .i64 en,.int .i64 0,.int .i64 0] 0 true);generalize hK8:Hp.set K7 b _=K8 at Q8 f8;have rw8:=rw7.fq ac f8;have gb7:=Q7.gb;have hM8:M<=K8.next:=by have:=f8.1;omega
      have n78:=f8.1;repeat' (first
       |(apply aj ?_;clear hK K)|apply Ry.o ?_|apply bq ?_|(apply ch ?_;first|refine Rx.k (ka) ?_)|(apply bS (fun W Z=>?_) (fun W Z=>?_)<;>try(cases W;done))|(apply aY (fun C L=>?_) (fun C L=>?_)<;>try(cases C;done))|apply ai ?_|(apply ah fun K hK=>?_)|(apply ak 7 [(1,3),(1,5),(4,5)] fun K hK=>?_)|(apply ak 11 [(1,3),(1,5),(4,5)] fun K hK=>?_)|(apply ak 14 [(1,3),(1,5),(4,5)] fun K hK=>?_)|(apply ak 17 [(1,3),(1,5),(4,5)] fun K hK=>?_)|(apply aV ?_;try intro _)|(apply aW ?_ ?_<;>clear hK K)|apply aU ?_|apply bD rfl ?_|apply aq ?_|apply am ?_|apply au ?_|apply aw ?_)
      have g3:=Q8.g3;have gb:=Q8.gb;have nx8:=Q8.nx;repeat' (first
       |(apply aj ?_;clear hK K)|apply Rx.o ?_|apply aD ?_|(apply aO (fun C L=>?_) (fun C L=>?_)<;>try(cases C;done))|apply ai ?_|(apply ah fun K hK=>?_)|(apply ak 7 [(1,3),(1,5),(4,5)] fun K hK=>?_)|(apply ak 11 [(1,3),(1,5),(4,5)] fun K hK=>?_)|(apply ak 14 [(1,3),(1,5),(4,5)] fun K hK=>?_)|(apply ak 17 [(1,3),(1,5),(4,5)] fun K hK=>?_)|(apply aV ?_;try intro _)|(apply aW ?_ ?_<;>clear hK K)|apply aU ?_|apply bD rfl ?_|apply aq ?_|apply am ?_|apply au ?_|apply aw ?_)
      refine qc ?_;refine aL ?_ (sG o Q8.gb hl hs);rintro v Ka ⟨rfl,p⟩;have fa:=Q8.frC p;have Qa:=Q8.call p;have rwa:=rw8.fq ac fa;have ga:=Qa.g3;have nxa:=Qa.nx;have npa:=p.next
      clear p;dsimp only[aI];obtain⟨rv,Kb,ab,z,nb,fb⟩:=Cb rwa ac B8 s.1;have Qb:=Qa.dy ac ac fb;have gb3:=Qb.g3;obtain⟨orv,crv⟩:=z.one;have ma1:(H.next+1 == Ka.next)=false:=bQ ac;have ma2:(Ka.next == H.next+1)=false:=bQ ac;have gh0:=@Ca;repeat' (first
       |(apply aj ?_;clear hK K)|apply Rx.o ?_|apply aD ?_|(apply aO (fun C L=>?_) (fun C L=>?_)<;>try(cases C;done))|apply ai ?_|(apply ah fun K hK=>?_)|(apply ak 7 [(1,3),(1,5),(4,5)] fun K hK=>?_)|(apply ak 11 [(1,3),(1,5),(4,5)] fun K hK=>?_)|(apply ak 14 [(1,3),(1,5),(4,5)] fun K hK=>?_)|(apply ak 17 [(1,3),(1,5),(4,5)] fun K hK=>?_)|(apply aV ?_;try intro _)|(apply aW ?_ ?_<;>clear hK K)|apply aU ?_|apply bD rfl ?_|apply aq ?_|apply am ?_|apply au ?_|apply aw ?_)
      .exact cG
      .generalize hK:Hp.set Kb _ _=Kc;have fc:de H Kb Kc:=jL;have Qc:=Qb.put [.ag nm,pv,rv,.aa,.int .i64 0,.int .i64 0,.ag [],.int .i64 0,.aa];rw[hK]at Qc;have rwc:=z.fq ac fc;clear hK;have f5c:gW H M K5 Kc:=f7.trans ((f8.M ac).trans ((fa.M ac).trans ((gW.of ac fb (az _)).trans (fc.M ac))));exact⟨bm,bm,(by have:=fc.1;omega),I,ct _,O++[s.1],s.2,n7+1,rv,ac,Y,Qc,rwc,f5c,nK⟩
     .rename_i h44;have h44:bP l V 0 [44]=false:=by simpa using h44
      obtain⟨rfl,rfl⟩:O=vs/\V=i4:=pr;repeat' (first
       |(apply aj ?_;clear hK K)|apply Ry.o ?_|apply bq ?_|(apply ch ?_;first|refine Rx.k (ka) ?_)|(apply bS (fun W Z=>?_) (fun W Z=>?_)<;>try(cases W;done))|(apply aY (fun C L=>?_) (fun C L=>?_)<;>try(cases C;done))|apply ai ?_|(apply ah fun K hK=>?_)|(apply ak 7 [(1,3),(1,5),(4,5)] fun K hK=>?_)|(apply ak 11 [(1,3),(1,5),(4,5)] fun K hK=>?_)|(apply ak 14 [(1,3),(1,5),(4,5)] fun K hK=>?_)|(apply ak 17 [(1,3),(1,5),(4,5)] fun K hK=>?_)|(apply aV ?_;try intro _)|(apply aW ?_ ?_<;>clear hK K)|apply aU ?_|apply bD rfl ?_|apply aq ?_|apply am ?_|apply au ?_|apply aw ?_)
      exact⟨trivial,eE,eE,eE,lv,n7,Q7,rw7,f7⟩
   .rename_i hva;have hva:bP l i3 0 [118,97,114]=false:=by simpa using hva
    obtain⟨rfl,rfl⟩:[]=vs/\i3=i4:=pr;repeat' (first
     |(apply aj ?_;clear hK K)|apply Ry.o ?_|apply bq ?_|(apply bS (fun W Z=>?_) (fun W Z=>?_)<;>try(cases W;done))|(apply aY (fun C L=>?_) (fun C L=>?_)<;>try(cases C;done))|apply ai ?_|(apply ah fun K hK=>?_)|(apply ak 7 [(1,3),(1,5),(4,5)] fun K hK=>?_)|(apply ak 11 [(1,3),(1,5),(4,5)] fun K hK=>?_)|(apply ak 14 [(1,3),(1,5),(4,5)] fun K hK=>?_)|(apply ak 17 [(1,3),(1,5),(4,5)] fun K hK=>?_)|(apply aV ?_;try intro _)|(apply aW ?_ ?_<;>clear hK K)|apply aU ?_|apply bD rfl ?_|apply aq ?_|apply am ?_|apply au ?_|apply aw ?_)
    exact⟨rfl,eE,eE,eE,.aa,0,Q5,.inl ⟨rfl,rfl⟩,az _,fun _ _ _=>rfl⟩
  .clear ka Y hi3;rintro E6 K6 ⟨dL,k2,k3,lv,n6,Q6,rw6,f6⟩;have nx6:=Q6.nx;have hM6:M<=K6.next:=by have:=f6.1;omega
   clear Q5;dsimp only[lN];repeat' (first
    |(apply aj ?_;clear hK K)|apply Rx.o ?_|apply aD ?_|(apply aO (fun C L=>?_) (fun C L=>?_)<;>try(cases C;done))|apply ai ?_|(apply ah fun K hK=>?_)|(apply ak 7 [(1,3),(1,5),(4,5)] fun K hK=>?_)|(apply ak 11 [(1,3),(1,5),(4,5)] fun K hK=>?_)|(apply ak 14 [(1,3),(1,5),(4,5)] fun K hK=>?_)|(apply ak 17 [(1,3),(1,5),(4,5)] fun K hK=>?_)|(apply aV ?_;try intro _)|(apply aW ?_ ?_<;>clear hK K)|apply aU ?_|apply bD rfl ?_|apply aq ?_|apply am ?_|apply au ?_|apply aw ?_)
   refine qc ?_;refine aL ?_ (fX o Q6.gb hl e5);rintro v K7 p;have f7:=Q6.frC p;have Q7:=Q6.call p;clear p;dsimp only[aI];repeat' (first
    |(apply aj ?_;clear hK K)|apply Rx.o ?_|apply aD ?_|(apply aO (fun C L=>?_) (fun C L=>?_)<;>try(cases C;done))|apply ai ?_|(apply ah fun K hK=>?_)|(apply ak 7 [(1,3),(1,5),(4,5)] fun K hK=>?_)|(apply ak 11 [(1,3),(1,5),(4,5)] fun K hK=>?_)|(apply ak 14 [(1,3),(1,5),(4,5)] fun K hK=>?_)|(apply ak 17 [(1,3),(1,5),(4,5)] fun K hK=>?_)|(apply aV ?_;try intro _)|(apply aW ?_ ?_<;>clear hK K)|apply aU ?_|apply bD rfl ?_|apply aq ?_|apply am ?_|apply au ?_|apply aw ?_)
   clear Q6;obtain⟨olv,clv⟩:=rw6.one;have ld:=(cK.fm (rw6.done (H:=H) ac) (f7.M (az _))).aD (S':=fun k=>H.next+1<k/\k<K7.next) (fun k h1 h2=>⟨h2.1,h1⟩) (az _) fun _ _ _=>rfl;have pd:=(pd.fm (f6.trans (f7.M hM6))).aD (S':=fun k=>H.next+1<k/\k<K7.next) (fun k h1 h2=>⟨h2.1,h1⟩) (az _) fun _ _ _=>rfl;clear rw6 f6 f7 hM6;have nx7:=Q7.nx;obtain⟨M2,hM2⟩:∃M2,M2=K7.next:=⟨_,rfl⟩
   rw[<-hM2]at pd ld;refine so [0,2,3] [] (fun I E K=>∃(O rest:qy) (V n4:Nat) (bv:AV),I<=n/\gT.many l 0 (gT l n n) [114,101,116,117,114,110] I V=some (rest,i6)/\SqZ l en b H [.ag [],.aa,.aa,.aa,.int .i64 0,.int .i64 0,.ag [],.int .i64 0,.aa] V [.ag nm,pv,lv,bv,.int .i64 0,.int .i64 0,.ag [],.int .i64 0,.aa] K/\b7 (fun k=>M2<=k) n4 K 17 bv (O.map St.cells)/\gW H M2 K7 K/\O++rest=bo/\O.length+I<=n) n ⟨[],bo,i5,0,.aa,az _,U,Q7,.inl ⟨rfl,rfl⟩,⟨az _,fun _ _ _=>rfl⟩,rfl,aE⟩ ?_;clear U Q7;rintro I E8 K8 hcE hrH hnH ⟨O,rest,V,n8,bv,hnn,U,Q8,rw8,f8,hss,hlen⟩;(try simp only[bN,bO,bu,aM,a0,Nat.reduceBEq,Nat.reduceAdd,Nat.reduceLeDiff,tyF, *]at hcE);have hM8:M2<=K8.next:=by have:=f8.1;omega
   clear hrH hnH;cases I with
   |zero=>rw[gT.many]at U;cases U
   |succ I=>
   rw[G9]at U;have hi':=Q8.le;have nx8:=Q8.nx;have ko:=oM o Q8.gb;have ka:aX prog (aK pls tb) 25 [.ptr b 0,.int .i64 0,.ag [114,101,116,117,114,110]] K8 fun v H'=>v=.bool (bP l V 0 [114,101,116,117,114,110])/\H'=K8:=jM o Q8.gb hl ac 0 aZ [114,101,116,117,114,110];obtain⟨obv,cbv⟩:=rw8.one;split at U;rotate_left
   .rename_i hrt;have hrt:bP l V 0 [114,101,116,117,114,110]=false:=by simpa using hrt
    obtain⟨s,hs,U⟩:=bT.1 U;obtain⟨⟨rs,j2⟩,e11,e10⟩:=eI.1 U;obtain⟨rfl,rfl⟩:s.1::rs=rest/\j2=i6:=by simpa using e10
    clear e10;have g3:=Q8.g3;repeat' (first
     |(apply aj ?_;clear hK K)|apply Ry.o ?_|apply bq ?_|(apply ch ?_;first|refine Rx.k (ko) ?_|refine Rx.k (ka) ?_)|(apply bS (fun W Z=>?_) (fun W Z=>?_)<;>try(cases W;done))|(apply aY (fun C L=>?_) (fun C L=>?_)<;>try(cases C;done))|apply ai ?_|(apply ah fun K hK=>?_)|(apply ak 7 [(1,3),(1,5),(4,5)] fun K hK=>?_)|(apply ak 11 [(1,3),(1,5),(4,5)] fun K hK=>?_)|(apply ak 14 [(1,3),(1,5),(4,5)] fun K hK=>?_)|(apply ak 17 [(1,3),(1,5),(4,5)] fun K hK=>?_)|(apply aV ?_;try intro _)|(apply aW ?_ ?_<;>clear hK K)|apply aU ?_|apply bD rfl ?_|apply aq ?_|apply am ?_|apply au ?_|apply aw ?_)
    refine qc ?_;refine aL ?_ (He o hl n hn20 V s hi' hs K8 Q8.aW);rintro v Ka ⟨⟨n9,cs,rfl,hc1,hc2,hc3⟩,p⟩;have fa:=Q8.frC p;have Qa:=Q8.call p;have ga:=Qa.g3;have nxa:=Qa.nx;have npa:=p.next
    clear p;dsimp only[aI];have kb:=fun H=>G3 H hc1;obtain⟨rv,Kb,ab,z,nb,fb⟩:=Sr rw8 ac ac npa (fun k h1 h2=>fa.2 k ac h2) hc1 hc2 hc3;have Qb:=Qa.dy ac ac fb;have gb3:=Qb.g3;obtain⟨orv,crv⟩:=z.one;have ma1:(H.next+1 == Ka.next)=false:=bQ ac;have ma2:(Ka.next == H.next+1)=false:=bQ ac;repeat' (first
     |(apply aj ?_;clear hK K)|apply Rx.o ?_|apply aD ?_|(apply aO (fun C L=>?_) (fun C L=>?_)<;>try(cases C;done))|apply ai ?_|(apply ah fun K hK=>?_)|(apply ak 7 [(1,3),(1,5),(4,5)] fun K hK=>?_)|(apply ak 11 [(1,3),(1,5),(4,5)] fun K hK=>?_)|(apply ak 14 [(1,3),(1,5),(4,5)] fun K hK=>?_)|(apply ak 17 [(1,3),(1,5),(4,5)] fun K hK=>?_)|(apply aV ?_;try intro _)|(apply aW ?_ ?_<;>clear hK K)|apply aU ?_|apply bD rfl ?_|apply aq ?_|apply am ?_|apply au ?_|apply aw ?_)
    .exact cG
    .generalize hK:Hp.set Kb _ _=Kc;have fc:de H Kb Kc:=jL;have Qc:=Qb.put [.ag nm,pv,lv,rv,.int .i64 0,.int .i64 0,.ag [],.int .i64 0,.aa];rw[hK]at Qc;have rwc:=z.fq ac fc;clear hK;exact⟨bm,bm,(by have:=fc.1;omega),I,ct _,O++[s.1],rs,s.2,_,rv,ac,e11,Qc,rwc,f8.trans ((fa.M hM8).trans ((gW.of ac fb (az _)).trans (fc.M ac))),by rw[lD];exact hss,nK⟩
   .rename_i hrt;obtain⟨rfl,rfl⟩:[]=rest/\V=i6:=by simpa using U
    rw[ij]at hss;subst hss;repeat' (first
     |(apply aj ?_;clear hK K)|apply Ry.o ?_|apply bq ?_|(apply ch ?_;first|refine Rx.k (ko) ?_|refine Rx.k (ka) ?_)|(apply bS (fun W Z=>?_) (fun W Z=>?_)<;>try(cases W;done))|(apply aY (fun C L=>?_) (fun C L=>?_)<;>try(cases C;done))|apply ai ?_|(apply ah fun K hK=>?_)|(apply ak 7 [(1,3),(1,5),(4,5)] fun K hK=>?_)|(apply ak 11 [(1,3),(1,5),(4,5)] fun K hK=>?_)|(apply ak 14 [(1,3),(1,5),(4,5)] fun K hK=>?_)|(apply ak 17 [(1,3),(1,5),(4,5)] fun K hK=>?_)|(apply aV ?_;try intro _)|(apply aW ?_ ?_<;>clear hK K)|apply aU ?_|apply bD rfl ?_|apply aq ?_|apply am ?_|apply au ?_|apply aw ?_)
    clear ka ko U;refine qc ?_;refine aL ?_ (fX o Q8.gb hl e7);rintro v K9 p;have f9:=Q8.frC p;have Q9:=Q8.call p;clear p;dsimp only[aI];repeat' (first
     |(apply aj ?_;clear hK K)|apply Rx.o ?_|apply aD ?_|(apply aO (fun C L=>?_) (fun C L=>?_)<;>try(cases C;done))|apply ai ?_|(apply ah fun K hK=>?_)|(apply ak 7 [(1,3),(1,5),(4,5)] fun K hK=>?_)|(apply ak 11 [(1,3),(1,5),(4,5)] fun K hK=>?_)|(apply ak 14 [(1,3),(1,5),(4,5)] fun K hK=>?_)|(apply ak 17 [(1,3),(1,5),(4,5)] fun K hK=>?_)|(apply aV ?_;try intro _)|(apply aW ?_ ?_<;>clear hK K)|apply aU ?_|apply bD rfl ?_|apply aq ?_|apply am ?_|apply au ?_|apply aw ?_)
    refine qc ?_;refine aL ?_ (pZ o hl Q9.le hc K9 Q9.aW);rintro v K10 ⟨⟨n10,xs10,rfl,c1,c2,c3⟩,p⟩;have f10:=Q9.frC p;have v10:bW (fun k=>H.next+1<k) n10 K10 xs10 c.1.cells:=c3.aD (fun k _ h=>by have:=Q9.nx;omega) (az _) fun _ _ _=>rfl;have Q10:=Q9.call p;obtain⟨x100,x101,x102,x103,x104,rfl⟩:=gw c1;obtain⟨w100,w101,w102,w103,w104⟩:=pY c2;clear c1 c3 p;dsimp only[aI];have g3:=Q10.g3;repeat' (first
     |(apply aj ?_;clear hK K)|apply Rx.o ?_|apply aD ?_|(apply aO (fun C L=>?_) (fun C L=>?_)<;>try(cases C;done))|apply ai ?_|(apply ah fun K hK=>?_)|(apply ak 7 [(1,3),(1,5),(4,5)] fun K hK=>?_)|(apply ak 11 [(1,3),(1,5),(4,5)] fun K hK=>?_)|(apply ak 14 [(1,3),(1,5),(4,5)] fun K hK=>?_)|(apply ak 17 [(1,3),(1,5),(4,5)] fun K hK=>?_)|(apply aV ?_;try intro _)|(apply aW ?_ ?_<;>clear hK K)|apply aU ?_|apply bD rfl ?_|apply aq ?_|apply am ?_|apply au ?_|apply aw ?_)
    generalize hK:Hp.set K10 _ _=K11;have f11:de H K10 K11:=jL;have Q11:=Q10.put [.ag nm,pv,lv,bv,x100,x101,x102,x103,x104];rw[hK]at Q11;clear hK;refine qc ?_;refine aL ?_ (fX o Q11.gb hl e8);rintro v K12 p;have f12:=Q11.frC p;have Q12:=Q11.call p;clear p;dsimp only[aI];repeat' (first
     |(apply aj ?_;clear hK K)|apply Rx.o ?_|apply aD ?_|(apply aO (fun C L=>?_) (fun C L=>?_)<;>try(cases C;done))|apply ai ?_|(apply ah fun K hK=>?_)|(apply ak 7 [(1,3),(1,5),(4,5)] fun K hK=>?_)|(apply ak 11 [(1,3),(1,5),(4,5)] fun K hK=>?_)|(apply ak 14 [(1,3),(1,5),(4,5)] fun K hK=>?_)|(apply ak 17 [(1,3),(1,5),(4,5)] fun K hK=>?_)|(apply aV ?_;try intro _)|(apply aW ?_ ?_<;>clear hK K)|apply aU ?_|apply bD rfl ?_|apply aq ?_|apply am ?_|apply au ?_|apply aw ?_)
    refine qc ?_;refine aL ?_ (fX o Q12.gb hl e9);rintro v K13 p;have f13:=Q12.frC p;have Q13:=Q12.call p;clear p;dsimp only[aI];repeat' (first
     |(apply aj ?_;clear hK K)|apply Rx.o ?_|apply aD ?_|(apply aO (fun C L=>?_) (fun C L=>?_)<;>try(cases C;done))|apply ai ?_|(apply ah fun K hK=>?_)|(apply ak 7 [(1,3),(1,5),(4,5)] fun K hK=>?_)|(apply ak 11 [(1,3),(1,5),(4,5)] fun K hK=>?_)|(apply ak 14 [(1,3),(1,5),(4,5)] fun K hK=>?_)|(apply ak 17 [(1,3),(1,5),(4,5)] fun K hK=>?_)|(apply aV ?_;try intro _)|(apply aW ?_ ?_<;>clear hK K)|apply aU ?_|apply bD rfl ?_|apply aq ?_|apply am ?_|apply au ?_|apply aw ?_)
    have g3:=Q13.g3;have gz:=Q13.gz;have gh0:=@Hn;repeat' (first
     |(apply aj ?_;clear hK K)|apply Rx.o ?_|apply aD ?_|(apply aO (fun C L=>?_) (fun C L=>?_)<;>try(cases C;done))|apply ai ?_|(apply ah fun K hK=>?_)|(apply ak 7 [(1,3),(1,5),(4,5)] fun K hK=>?_)|(apply ak 11 [(1,3),(1,5),(4,5)] fun K hK=>?_)|(apply ak 14 [(1,3),(1,5),(4,5)] fun K hK=>?_)|(apply ak 17 [(1,3),(1,5),(4,5)] fun K hK=>?_)|(apply aV ?_;try intro _)|(apply aW ?_ ?_<;>clear hK K)|apply aU ?_|apply bD rfl ?_|apply aq ?_|apply am ?_|apply au ?_|apply aw ?_)
    refine⟨aP,_,(by(try simp only[aM,a0,Nat.reduceBEq,Nat.reduceAdd,Nat.reduceLeDiff,tyF,cU,da,Hn, *]);first|done|with_reducible rfl),?_⟩;try simp only[aN]
    have hfin:gW H K8.next K8 K13:=(f9.M (az _)).trans ((f10.M (by have:=f9.1;omega)).trans ((f11.M (by have:=f9.1;have:=f10.1;omega)).trans ((f12.M (by have:=f9.1;have:=f10.1;have:=f11.1;omega)).trans (f13.M (by have:=f9.1;have:=f10.1;have:=f11.1;have:=f12.1;omega)))))
    have bd:=(rw8.done (H:=H) ac).fm hfin;have hpl:=f8.trans (hfin.le hM8);have pd:=pd.fm hpl;have ld:=ld.fm hpl;have vd:=v10.fq (f11.trans (f12.trans f13));have lift:∀{q m:Nat}{x w:AV},cK (fun k=>H.next+1<k/\k<q) m K13 x w->cK (fun k=>H.next+1<k) m K13 x w:=fun h=>h.keep (fun _ h=>h.1) (az _) fun _ _ _=>rfl;obtain⟨N,hN⟩:∃N,n4+1+n6+1+n8+1+n10=N:=⟨_,rfl⟩;refine Q13.fin (n:=N+1) rfl (by simp only[nL,oL,show AV.one (.ag nm)=true from rfl,opv,olv,obv,w100,w101,w102,w103,w104,ox]) ?_;exact bW.append (n:=N+1) (a:=[.ag nm,pv,lv,bv]) (b:=[.ag nm,cW ps,cW vs,.aq (O.map St.cells)]) (.cons (.ag _) (.cons ((lift pd).up ac) (.cons ((lift ld).up ac) (.cons ((lift bd).up ac) .nil)))) (by have hh:=vd.up (m:=N+1) ac;rw[jE]at hh;exact hh)
end
def gC(H:Hp)(v:AV)(l:qp)(lo:Nat):Prop:=∃r m,v=.sl r 0 l.length 1/\H.get r=some (.cells (l.map (.int .i64)) m true)/\m<=l.length/\lo<=r/\r<H.next
def gX(H:Hp)(v:AV)(l:qp)(lo:Nat):Prop:=(v=.aa/\l=[])\/gC H v l lo
def gC.bS(h:gC H v l lo)(M:H.next<=H'.next)(L:∀k,lo<=k->k<H.next->H'.get k=H.get k):gC H' v l lo:=by
 obtain⟨r,m,o,Y,I,Z,W⟩:=h;exact⟨r,m,o,by rw[L r Z W];exact Y,I,Z,ac⟩
def gC.lt(h:gC H v l lo)(z:bL v k):lo<=k/\k<H.next:=by
 obtain⟨r,m,rfl,_,_,Z,W⟩:=h;obtain⟨n,e⟩:=z;simp only[AV.sl.injEq]at e;rw[<-e.1];exact⟨Z,W⟩
def gX.lt(h:gX H v l lo)(z:bL v k):lo<=k/\k<H.next:=by
 rcases h with⟨rfl,_⟩|h
 .obtain⟨n,e⟩:=z;simp at e
 .exact h.lt z
def gC.keep(h:gC H v l lo)(M:H.next<=H'.next)(L:∀k,bL v k->H'.get k=H.get k):gC H' v l lo:=by
 obtain⟨r,m,rfl,Z,I,Y,W⟩:=h;exact⟨r,m,rfl,BH,I,Y,ac⟩
def gX.keep(h:gX H v l lo)(M:H.next<=H'.next)(L:∀k,bL v k->H'.get k=H.get k):gX H' v l lo:=h.imp id fun h=>h.keep M L
def yN(l:qp):(l.map (AV.int .i64)).all AV.one=true:=by simp[AV.one]
def ub{imm:Nat}(h:H.get r=some (.cells (m.map (.int .i64)) imm true)):eF H 1 (.sl r 0 m.length 1)=some (m.length,m.map (.int .i64)):=by
 have:=sk (H:=H) (r:=r) (o:=0) (n:=m.length) (z:=1) (s:=1) h aE;rw[this,ft,fk aE]
theorem Ho(L:gX H v l lo)(W:lo<=H.next)(Y:eF H 1 x=some (m.length,m.map (.int .i64)))(J:m≠[])(C:l.length+m.length<2^40):
 ∃I H',cY prog false H 22 22 v x=some (I,H')/\gC H' I (l++m) lo/\H'.next=H.next+1/\(∀k,k<lo->H'.get k=H.get k)/\pR v I H H':=by
 obtain⟨n,M⟩:∃n,m.length=n+1:=⟨m.length-1,BI⟩;have O:cX=70368744177664:=rfl;rw[M]at Y;rcases L with⟨rfl,rfl⟩|⟨r,Z,rfl,U,h3,h4,h5⟩
 .refine⟨.sl H.next 0 (n+1) 1,H.alloc (.cells (m.map (.int .i64)) 0 true),append_nil underlying22 kP oE oF aF Y (yN m) rfl jr jr,⟨H.next,0,pK,fx,ac,W,ct _⟩,rfl,fun k z=>fC,fun k z _=>fC,fun k z=>.inr ?_⟩;obtain⟨n',e⟩:=z;simp only[AV.sl.injEq]at e;omega
 .have V:fN false H 1 (.sl r 0 l.length 1)=H:=by
   unfold fN;simp only[U,bX,dh,m1];have:Nat.blt l.length l.length=false:=by
    cases C:Nat.blt l.length l.length with
    |false=>rfl
    |true=>rw[hZ]at C;omega
   simp[this]
  refine⟨.sl H.next 0 (l.length+(n+1)) 1,(H.aU r).alloc (.cells (l.map (.int .i64)++m.map (.int .i64)) (Z-0) true),?_,⟨H.next,Z,pK,?_,co,W,ct _⟩,rfl,fun k z=>?_,fun k z o=>?_,fun k z=>.inr ?_⟩
  .simp only[cY,underlying22,kP,oE,oF,show hB prog 22=true by kernel_rfl,Y,yN,V,oz,cg,cy,fP,lh,U,dh,bX,m1,ft];rw[aB ⟨jr,jr,trivial,trivial,h3⟩];simp
  .show((H.aU r).alloc _).get (H.aU r).next=_
   rw[aJ,aB rfl];simp
  .rw[aJ,ao kU,fD,ao ac]
  .rw[aJ,ao kU,fD,ao (fun e=>o ⟨_,mC⟩)]
  .obtain⟨n',e⟩:=z;simp only[AV.sl.injEq]at e;omega
def Hr{imm:Nat}(s:Int)(Y:gX H v l lo)(W:lo<=H.next)(U:H.get r=some (.cells [.int .i64 s] imm true))(C:l.length<2^39):
 ∃I H',cY prog false H 22 22 v (.sl r 0 1 1)=some (I,H')/\gC H' I (l++[s]) lo/\H'.next=H.next+1/\(∀k,k<lo->H'.get k=H.get k)/\pR v I H H':=
 Ho Y W (ub (m:=[s]) U) aE co
def Ht{lo':Nat}(Y:gC H v l lo)(W:lo<=H.next)(V:gX H w m lo')(C:l.length+m.length<2^40):
 ∃I H',cY prog false H 22 22 v w=some (I,H')/\gC H' I (l++m) lo/\H.next<=H'.next/\(∀k,k<lo->H'.get k=H.get k)/\pR v I H H':=by
 by_cases Z:m=[]
 .subst Z;refine⟨v,H,?_,by rw[ij];exact Y,az _,fun _ _=>rfl,fun _ _ _=>rfl,fun _ h=>.inl h⟩;obtain⟨r,J,rfl,U,_⟩:=Y;rcases V with⟨rfl,_⟩|⟨r',L,rfl,M,_⟩
  .simp only[cY,underlying22,kP,oE,oF,show hB prog 22=true by kernel_rfl,eF]
  .have O:=ub M;simp only[fP]at O;simp only[cY,underlying22,kP,oE,oF,show hB prog 22=true by kernel_rfl,fP,O]
 .rcases V with⟨_,h⟩|⟨r',L,rfl,M,_⟩
  .exact(Z h).elim
  .obtain⟨I,H',o,U,h3,z⟩:=Ho (.inr Y) W (ub M) Z C;exact⟨I,H',o,U,ac,z⟩
def gC.len(h:gC H v l lo):gh prog H' 22 v=some (.int .i64 l.length):=by
 obtain⟨r,m,rfl,_⟩:=h;exact Bf underlying22 _ _ _ _
theorem gC.at(h:gC H v l lo)(J:i<l.length):
 ∃r,dZ prog 22 v (.int .i64 (i:Int))=some (.ptr r i)/\eR prog H 3 (.ptr r i)=some (.int .i64 l[i]):=by
 obtain⟨r,m,rfl,Z,_⟩:=h;refine⟨r,?_,?_⟩
 .rw[vu underlying22 kP J];simp
 .rw[Bh underlying3 rfl Z,ii,bc J];rfl
def sI(H:Hp)(v:AV)(l:qp)(lo:Nat):Prop:=∃r,v=.sl r 0 l.length 1/\H.get r=some (.cells (l.map (.int .i64)) 0 true)/\lo<=r/\r<H.next
def gD(H:Hp)(v:AV)(l:qp)(lo:Nat):Prop:=(v=.aa/\l=[])\/sI H v l lo
def sI.b(h:sI H v l lo):gC H v l lo:=by
 obtain⟨r,o,m,I,Z⟩:=h;exact⟨r,0,o,m,db _,I,Z⟩
def gD.n(h:gD H v l lo):gX H v l lo:=h.imp id fun h=>h.b
def sI.keep(h:sI H v l lo)(M:H.next<=H'.next)(L:∀k,bL v k->H'.get k=H.get k):sI H' v l lo:=by
 obtain⟨r,rfl,m,Z,W⟩:=h;exact⟨r,rfl,by rw[L r ⟨_,rfl⟩];exact m,Z,ac⟩
def gD.keep(h:gD H v l lo)(M:H.next<=H'.next)(L:∀k,bL v k->H'.get k=H.get k):gD H' v l lo:=h.imp id fun h=>h.keep M L
theorem Hu(U:gD H v l lo)(W:lo<=H.next)(Z:eF H 1 x=some (m.length,m.map (.int .i64)))(L:m≠[])(C:l.length+m.length<2^40):
 ∃I H',cY prog false H 22 22 v x=some (I,H')/\sI H' I (l++m) lo/\H'.next=H.next+1/\(∀k,k<lo->H'.get k=H.get k)/\pR v I H H':=by
 obtain⟨n,M⟩:∃n,m.length=n+1:=⟨m.length-1,by have:=vT.2 L;omega⟩;have O:cX=70368744177664:=rfl;rw[M]at Z;rcases U with⟨rfl,rfl⟩|⟨r,rfl,V,h4,h5⟩
 .refine⟨.sl H.next 0 (n+1) 1,H.alloc (.cells (m.map (.int .i64)) 0 true),append_nil underlying22 kP oE oF aF Z (yN m) rfl jr jr,⟨H.next,pK,fx,W,ct _⟩,rfl,fun k z=>fC,fun k z _=>fC,fun k z=>.inr ?_⟩;obtain⟨J,e⟩:=z;simp only[AV.sl.injEq]at e;omega
 .have Y:fN false H 1 (.sl r 0 l.length 1)=H:=by
   unfold fN;simp only[V,bX,dh,m1];have:Nat.blt l.length l.length=false:=by
    cases C:Nat.blt l.length l.length with
    |false=>rfl
    |true=>rw[hZ]at C;omega
   simp[this]
  refine⟨.sl H.next 0 (l.length+(n+1)) 1,(H.aU r).alloc (.cells (l.map (.int .i64)++m.map (.int .i64)) (0-0) true),?_,⟨H.next,pK,?_,W,ct _⟩,rfl,fun k z=>?_,fun k z o=>?_,fun k z=>.inr ?_⟩
  .simp only[cY,underlying22,kP,oE,oF,show hB prog 22=true by kernel_rfl,Z,yN,Y,oz,cg,cy,fP,lh,V,dh,bX,m1,ft];rw[aB ⟨jr,jr,trivial,trivial,db _⟩];simp
  .show((H.aU r).alloc _).get (H.aU r).next=_
   rw[aJ,aB rfl];simp
  .rw[aJ,ao kU,fD,ao ac]
  .rw[aJ,ao kU,fD,ao (fun e=>o ⟨_,mC⟩)]
  .obtain⟨J,e⟩:=z;simp only[AV.sl.injEq]at e;omega
theorem Sy(n:Nat):jf [.bool false] n=(List.replicate n false).map .bool:=by
 induction n with
 |zero=>rfl
 |succ n ih=>simp only[jf,ih];simp[List.replicate_succ]
theorem Sz(n:Nat)(L:n<2^40):mw prog H 114 (.int .i64 n) (.int .i64 n)=some (.sl H.next 0 n 1,H.alloc (.cells ((List.replicate n false).map .bool) 0 true)):=by
 have m:cX=70368744177664:=rfl;show mw prog H 114 (.int .i64 (Int.ofNat n)) (.int .i64 (Int.ofNat n))=_;simp only[mw,underlying114,x6,EP,EQ];rw[aB ⟨az _,tZ,tZ,rfl⟩,Sy]
def splice_one(cs:ql)(I:o<cs.length)(x:AV):splice cs o [x]=cs.set o x:=by
 rw[Ez,List.set_eq_take_append_cons_drop,aB I];simp
def SA(L:H.get r=some (.cells cs 0 true))(I:o<cs.length)(n:Int):ky prog H 3 (.ptr r o) (.int .i64 n)=some (H.set r (.cells (cs.set o (.int .i64 n)) 0 true)):=by
 rw[Bj,L,kP,Bi,Ab.cells_int,splice_one cs I,aB ⟨rfl,db _,I,rfl⟩]
def SB(L:H.get r=some (.cells cs 0 true))(I:o<cs.length)(b:Bool):ky prog H 4 (.ptr r o) (.bool b)=some (H.set r (.cells (cs.set o (.bool b)) 0 true)):=by
 rw[Bj,L,x6,Bi,EA,splice_one cs I,aB ⟨rfl,db _,I,rfl⟩]
def ju(H:Hp)(v:AV)(l:qp)(lo:Nat):Prop:=∃r m,v=.sl r 0 l.length 1/\H.get r=some (.cells (l.map (.int .u8)) m true)/\m<=l.length/\lo<=r/\r<H.next
def Cc(H:Hp)(v:AV)(l:qp)(lo:Nat):Prop:=(v=.aa/\l=[])\/ju H v l lo
def ju.bS(h:ju H v l lo)(M:H.next<=H'.next)(L:∀k,lo<=k->k<H.next->H'.get k=H.get k):ju H' v l lo:=by
 obtain⟨r,m,o,Y,I,Z,W⟩:=h;exact⟨r,m,o,by rw[L r Z W];exact Y,I,Z,ac⟩
def ju.lt(h:ju H v l lo)(z:bL v k):lo<=k/\k<H.next:=by
 obtain⟨r,m,rfl,_,_,Z,W⟩:=h;obtain⟨n,e⟩:=z;simp only[AV.sl.injEq]at e;rw[<-e.1];exact⟨Z,W⟩
def ju.keep(h:ju H v l lo)(M:H.next<=H'.next)(L:∀k,bL v k->H'.get k=H.get k):ju H' v l lo:=by
 obtain⟨r,m,rfl,Z,I,Y,W⟩:=h;exact⟨r,m,rfl,BH,I,Y,ac⟩
def Hv(l:qp):(l.map (AV.int .u8)).all AV.one=true:=by simp[AV.one]
def SD{imm:Nat}(h:H.get r=some (.cells (m.map (.int .u8)) imm true)):eF H 1 (.sl r 0 m.length 1)=some (m.length,m.map (.int .u8)):=by
 have:=sk (H:=H) (r:=r) (o:=0) (n:=m.length) (z:=1) (s:=1) h aE;rw[this,ft,fk aE]
theorem SE(L:Cc H v l lo)(W:lo<=H.next)(Y:eF H 1 x=some (m.length,m.map (.int .u8)))(J:m≠[])(C:l.length+m.length<2^40):
 ∃I H',cY prog false H 38 38 v x=some (I,H')/\ju H' I (l++m) lo/\H'.next=H.next+1/\(∀k,k<lo->H'.get k=H.get k)/\pR v I H H':=by
 obtain⟨n,M⟩:∃n,m.length=n+1:=⟨m.length-1,BI⟩;have O:cX=70368744177664:=rfl;rw[M]at Y;rcases L with⟨rfl,rfl⟩|⟨r,Z,rfl,U,h3,h4,h5⟩
 .refine⟨.sl H.next 0 (n+1) 1,H.alloc (.cells (m.map (.int .u8)) 0 true),append_nil underlying38 Bp Bq Br aF Y (Hv m) rfl jr jr,⟨H.next,0,pK,fx,ac,W,ct _⟩,rfl,fun k z=>fC,fun k z _=>fC,fun k z=>.inr ?_⟩;obtain⟨n',e⟩:=z;simp only[AV.sl.injEq]at e;omega
 .have V:fN false H 1 (.sl r 0 l.length 1)=H:=by
   unfold fN;simp only[U,bX,dh,m1];have:Nat.blt l.length l.length=false:=by
    cases C:Nat.blt l.length l.length with
    |false=>rfl
    |true=>rw[hZ]at C;omega
   simp[this]
  refine⟨.sl H.next 0 (l.length+(n+1)) 1,(H.aU r).alloc (.cells (l.map (.int .u8)++m.map (.int .u8)) (Z-0) true),?_,⟨H.next,Z,pK,?_,co,W,ct _⟩,rfl,fun k z=>?_,fun k z o=>?_,fun k z=>.inr ?_⟩
  .simp only[cY,underlying38,Bp,Bq,Br,show hB prog 38=true by kernel_rfl,Y,Hv,V,oz,cg,cy,fP,lh,U,dh,bX,m1,ft];rw[aB ⟨jr,jr,trivial,trivial,h3⟩];simp
  .show((H.aU r).alloc _).get (H.aU r).next=_
   rw[aJ,aB rfl];simp
  .rw[aJ,ao kU,fD,ao ac]
  .rw[aJ,ao kU,fD,ao (fun e=>o ⟨_,mC⟩)]
  .obtain⟨n',e⟩:=z;simp only[AV.sl.injEq]at e;omega
def SF{imm:Nat}(s:Int)(Y:Cc H v l lo)(W:lo<=H.next)(U:H.get r=some (.cells [.int .u8 s] imm true))(C:l.length<2^39):
 ∃I H',cY prog false H 38 38 v (.sl r 0 1 1)=some (I,H')/\ju H' I (l++[s]) lo/\H'.next=H.next+1/\(∀k,k<lo->H'.get k=H.get k)/\pR v I H H':=
 SE Y W (SD (m:=[s]) U) aE co
def Hw(H:Hp)(n:Int):ec prog H 38 1 [(0,.int .u8 n)]=some (.sl H.next 0 1 1,H.alloc (.cells [.int .u8 n] 0 true)):=aF
theorem bin_shr{D:BinOp->Sx->Sx->qA}{t:TypeId}{k M:IntKind}{a:Int}{m:Nat}(h:m<64)(z:k=.u64):dw prog D .shr t (.int k a) (.int M (m:Int))=some (.int k (a.fdiv (2^ m))):=by
 subst z;have e:dw prog D .shr t (.int .u64 a) (.int M (Int.ofNat m))=some (.int .u64 (a.fdiv (2^ min m 64))):=rfl;rw[show min m 64=m by omega]at e;exact e
def jN(n:Int)(i:Nat):Int:=IntKind.wrap .u8 (n.fdiv (2^ (8*i)))
def gE(n:Int)(i:Nat):qp:=(List.range i).map (jN n)
def oN(n:Int)(i:Nat):(gE n i).length=i:=by simp[gE]
def SG(n:Int)(i:Nat):gE n (i+1)=gE n i++[jN n i]:=by simp[gE,List.range_succ]
def rc(l:qp):qn:=l.map fun n=>UInt8.ofNat n.toNat
end Go.Proofs.Ytbflaciihaijgaa
namespace Go.Ab
set_option maxRecDepth 20000
open Go
instance:DecidableEq Nd:=fun x y=>decidable_of_iff (x.op=y.op/\x.aY=y.aY/\x.aj=y.aj) (by cases x;cases y;simp)
variable{l:qz}{i m:Nat}{n:Nd}
def gF(op:Int):Int×Bool:=
 if op=1\/op=2\/op=3\/op=26 then (0,true)
 else if op=20\/op=21\/op=24\/op=25 then (1,true)
 else if op=23\/op=27\/op=29 then (2,true)
 else if op=22\/op=28 then (3,true)
 else if op=30\/op=31 then (-1,true)
 else if 4<=op/\op<=19 then (2,true)
 else (0,false)
def nO(n:Int):Int:=(n-1).tdiv 2
def yO(l:qz)(k:Int):Int:=match l[k.toNat]? with
 |some n=>n.aj.length
 |none=>0
def iP(l:qz)(n:Nd):Int:=
 if n.op=2 then 5 else if n.op=3 then 255 else if n.op=23\/n.op=28 then 3 else if n.op=30 then 7 else if n.op=31 then 15
 else if n.op=25 then nO (yO l (n.aj.headD 0))-1 else 0
def dY(l:qz)(n:Nd):Bool:=
 if n.op=1 then true
 else if n.op=27 then decide (1<=n.aY)&&decide (n.aY<=1000016)
 else decide (0<=n.aY)&&decide (n.aY<=iP l n)
def kg(op:Int):qp:=
 if op=22 then [1,1,1]else if op=23\/op=27\/op=29 then [2,1]else if op=28 then [2,1,1]else if op=24 then [2]else if op=25 then [3]else [1,1]
def eZ:qp->qp->Bool
 |[],_=>true
 |a::s,w=>decide (a=w.headD 0)&&eZ s w.tail
def yP(n:Nat):qp:=((List.replicate n (1:Int)).set 0 2).set (nO n+1).toNat 2
def ej(op:Int)(s:qp):Bool:=
 if (gF op).2=false then false
 else if 0<=(gF op).1/\(gF op).1≠s.length then false
 else if op=31 then decide (3<=s.length)&&decide (s.length%2=1)&&decide (nO s.length<=16)&&eZ s (yP s.length)
 else if op=30 then decide (1<=s.length)&&decide (s.length<=7)&&decide (s.headD 0=2)&&s.tail.all fun x=>decide (x=1)
 else if op=22/\s.getD 1 0=2 then decide (s.headD 0=1)&&decide (s.getD 2 0=2)
 else eZ s (kg op)
def jd(i:Nat)(m:qp):qp->Option qp
 |[]=>some []
 |k::ks=>if k<0\/(i:Int)<=k\/m.getD k.toNat 0=0 then none else (jd i m ks).map fun s=>m.getD k.toNat 0::s
def iQ(n:Nd)(s:qp):Int:=
 if n.op=31 then 3
 else if n.op=26\/n.op=27\/n.op=28\/n.op=29\/n.op=30 then 2
 else if n.op=22 then s.getD 1 0
 else if n.op=3/\n.aY.tmod 16=0 then 2
 else if n.op=25/\n.aY=0 then 2
 else 1
def nP(l:qz)(i:Nat)(m:qp):Int:=match l[i]? with
 |none=>0
 |some n=>match jd i m n.aj with
  |none=>0
  |some s=>if ej n.op s&&dY l n then iQ n s else 0
def fZ(l:qz):Nat->qp
 |0=>[]
 |i+1=>fZ l i++[nP l i (fZ l i)]
def iu(l:qz)(i:Int):Int:=if i<0\/(l.length:Int)<=i then 0 else (fZ (l.take (i.toNat+1)) (i.toNat+1)).getD i.toNat 0
theorem yQ(l:qz):∀i,(fZ l i).length=i
 |0=>rfl
 |i+1=>by rw[fZ,em,yQ l i];rfl
theorem Cd(l:qz):∀{i j:Nat},j<i->(fZ l i).getD j 0=nP l j (fZ l j)
 |0,j,h=>by omega
 |i+1,j,h=>by
  rw[fZ];by_cases e:j<i
  .rw[fY,kC (by rw[yQ];exact e),<-fY];exact Cd l e
  .obtain rfl:j=i:=by omega
   rw[fY,lC (by rw[yQ];omega),yQ,rJ];rfl
theorem yR{i:Nat}{m:qp}:∀{C s:qp},jd i m C=some s->∀k∈C,0<=k/\k<i/\m.getD k.toNat 0≠0
 |[],s,_,k,h=>by simp at h
 |a::C,s,h,k,z=>by
  rw[jd]at h;split at h
  .cases h
  .rename_i c;obtain⟨t,V,_⟩:=eI.1 h;rcases eK.1 z with rfl|z
   .omega
   .exact yR V k z
theorem Ce{i:Nat}{m:qp}:∀{C s:qp},jd i m C=some s->s.length=C.length
 |[],s,h=>by cases h;rfl
 |a::C,s,h=>by
  rw[jd]at h;split at h
  .cases h
  .obtain⟨t,V,rfl⟩:=eI.1 h;rw[cy,cy,Ce V]
def SH{m:qp}(M:l[i]?=some n)(h:nP l i m≠0):∃s,jd i m n.aj=some s/\ej n.op s=true/\dY l n=true:=by
 unfold nP at h;rw[M]at h;simp only at h;split at h
 .exact absurd rfl h
 .rename_i s U;split at h
  .rename_i c;rw[ca]at c;exact⟨s,U,c.1,c.2⟩
  .exact absurd rfl h
def Hx(h:n.op=25->∃k C,n.aj=k::C/\k.toNat<m):dY (l.take m) n=dY l n:=by
 have e:iP (l.take m) n=iP l n:=by
  unfold iP;by_cases c:n.op=25
  .obtain⟨k,C,o,Z⟩:=h c;rw[c];simp only[o,vU,yO,mY,Z,cg]
  .simp only[c,cm]
 unfold dY;rw[e]
theorem SI(U:i<m)(Z:qp):nP (l.take m) i Z=nP l i Z:=by
 unfold nP;rw[mY,aB U];cases M:l[i]? with
 |none=>rfl
 |some n=>
  simp only;cases z:jd i Z n.aj with
  |none=>rfl
  |some s=>
   simp only;by_cases c:ej n.op s=true
   .have e:dY (l.take m) n=dY l n:=Hx fun W=>by
     have V:=Ce z;have O:s.length=1:=by
      have Y:=c;unfold ej at Y;rw[W]at Y;have:gF 25=(1,true):=aZ;rw[this]at Y;simp only at Y;split at Y
      .cases Y
      .split at Y
       .cases Y
       .omega
     cases o:n.aj with
     |nil=>rw[o,O]at V;simp at V
     |cons k C=>
      refine⟨k,C,rfl,?_⟩;have:=yR z k (by rw[o];exact eL);omega
    rw[e]
   .have J:ej n.op s=false:=by simpa using c
    rw[J,jI,jI]
theorem Cf{l:qz}{m:Nat}:∀{i:Nat},i<=m->fZ (l.take m) i=fZ l i
 |0,_=>rfl
 |i+1,h=>by rw[fZ,fZ,Cf (by omega:i<=m),SI ac]
def yS(h:i<l.length):iu l i=nP l i (fZ l i):=by
 unfold iu;rw[ao ac,ny,Cf (az _),Cd l (ct i)]
def Cg{j:Nat}(I:j<i)(J:i<=l.length):(fZ l i).getD j 0=iu l j:=by
 rw[Cd l I,yS ac]
def Hy{m:qz}(h:i<l.length):iu (l++m) i=iu l i:=by
 unfold iu;rw[ao co,ao ac,ny,z7 ac]
def sJ(k:qp):Bool:=k.all fun x=>decide (x=1)
theorem Ch:∀(s w:qp),s.length<=w.length->(∀x∈w,x=1)->eZ s w=sJ s
 |[],w,_,_=>by simp[eZ,sJ]
 |a::s,[],h,_=>by simp at h
 |a::s,b::w,h,hw=>by
  have C:=hw b eL;subst C;rw[eZ,vU,List.tail_cons,Ch s w fQ (fun x O=>hw x (fR _ O))];simp[sJ]
theorem yT(a b:Int)(s w:qp):eZ (a::s) (b::w)=(decide (a=b)&&eZ s w):=rfl
def SJ(n m:Nat)(h:m<n):(List.replicate n (1:Int)).set m 2=List.replicate m 1++2::List.replicate (n-m-1) 1:=by
 apply List.ext_getElem?;intro i;rw[mA,List.getElem?_append];simp only[p6];by_cases c:i<m
 .rw[ao ac,aB c,vV,vV,aB ac,aB c]
 .rw[ao c];by_cases e:m=i
  .subst e;simp[h]
  .rw[ao e];obtain⟨j,rfl⟩:∃j,i=m+1+j:=⟨i-m-1,ac⟩;rw[show m+1+j-m=j+1 by omega,tI,vV,vV];by_cases g:m+1+j<n
   .rw[aB g,aB ac]
   .rw[ao g,ao ac]
theorem Hz:∀(a s w v:qp),a.length=w.length->eZ (a++s) (w++v)=(eZ a w&&eZ s v)
 |[],s,[],v,_=>by simp[eZ]
 |x::a,s,y::w,v,h=>by
  rw[mJ,mJ,yT,yT,Hz a s w v fQ,yL]
 |[],_,_::_,_,h=>by simp at h
 |_::_,_,[],_,h=>jk
theorem SK(n:Nat)(h:1<=n):nO n=((n-1)/2:Nat):=by
 unfold nO;rw[show(n:Int)-1=((n-1:Nat):Int) by omega];rfl
theorem SL(s:qp)(h:3<=s.length)(z:s.length%2=1):eZ s (yP s.length)=(decide (s.headD 0=2)&&sJ ((s.drop 1).take (s.length/2))&&decide (s.getD (s.length/2+1) 0=2)&&sJ (s.drop (s.length/2+2))):=by
 obtain⟨m,Z⟩:∃m,s.length=2*m+1:=⟨s.length/2,ac⟩;have W:1<=m:=ac;have V:s.length/2=m:=ac;have U:(nO s.length+1).toNat=m+1:=B9;have J:yP s.length=2::(List.replicate m 1++2::List.replicate (m-1) 1):=by
  unfold yP;rw[U,Z];have I:List.replicate (2*m+1) (1:Int)=1::List.replicate (2*m) 1:=rfl;rw[I,List.set_cons_zero,List.set_cons_succ,SJ _ _ ac]
  congr 4;omega
 rw[J,V]
 match s,Z with
 |a::t,Z=>
  have o:t.length=2*m:=kB;rw[yT,vU,xH,ft];have hd:t=t.take m++t.drop m:=(Af m t).symm;have M:(t.take m).length=m:=u0
  conv=>lhs;rw[hd]
  rw[Hz _ _ _ _ (by rw[M];simp),Ch (t.take m) _ (by rw[M];simp) (fun x O=>yM O)];have C:(a::t).getD (m+1) 0=t.getD m 0:=rfl;have Y:(a::t).drop (m+2)=t.drop (m+1):=rfl;rw[C,Y];have L:t.drop m=t.getD m 0::t.drop (m+1):=by
   rw[eM ac,fY,bc ac];rfl
  rw[L,yT,Ch (t.drop (m+1)) _ co (fun x O=>yM O),yL,yL]
end Go.Ab
namespace Go.Proofs.Ytbflaciihaijgaa
set_option maxRecDepth 20000
open Go Go.Ab
variable{H:Hp}
section
namespace tyI2
end tyI2
open tyI2
theorem SM(a b:AV):Ab.extract (.aO [a,b]) 0=some a:=rfl
theorem SN(a b:AV):Ab.extract (.aO [a,b]) 1=some b:=rfl
end
section
def tyV1.tyF:=ad @ef (ad @cJ (ad @oG (ad @cM (ad @jH (ad @vD (ad @Bw (ad @vF (ad @Ft (ad @BC (ad @Fv (ad @Fl (ad @Fw (ad @Fy (@Hw))))))))))))))
open tyV1
def sK(n:Nd):qp:=IntKind.wrap .u8 n.op::(gE (IntKind.wrap .u64 n.aY) 8++n.aj.flatMap fun k=>gE (IntKind.wrap .u64 k) 8)
def SO(n:Nd):sK n=[IntKind.wrap .u8 n.op]++gE (IntKind.wrap .u64 n.aY) 8++n.aj.flatMap fun k=>gE (IntKind.wrap .u64 k) 8:=by
 rw[sK];simp
theorem HA:∀l:qp,rB (l.map (.int .u8))=some (rc l)
 |[]=>rfl
 |a::l=>by
  have:=HA l;simp only[eJ,rB,this];rfl
def SP{v:AV}{l:qp}{lo:Nat}(Y:ju H v l lo):fB Try.prog H 38 9 v=some (.ag (rc l)):=by
 obtain⟨r,Z,rfl,L,_⟩:=Y;have O:eF H 1 (.sl r 0 l.length 1)=some (l.length,l.map (.int .u8)):=by
  have:=sk (H:=H) (r:=r) (o:=0) (n:=l.length) (z:=1) (s:=1) L aE;rw[this,ft,fk aE]
 simp only[fB,Try.underlying38,Try.underlying9,Try.underlying5,O];rw[HA]
end
def SQ{P:Program}{cfg:Cfg}{f N:Nat}{a:SC}{E:ax}{Q:AX->ax->Hp->Prop}(F:ax->Hp->Prop)(h1:bU P cfg f N a E H fun x E' H'=>x=.normal/\F E' H')(h2:∀E' H',F E' H'->Q .normal E' H'):bU P cfg f N a E H Q:=
 tA (fun x E' H' h=>by obtain⟨rfl,h⟩:=h;exact h2 E' H' h) h1
def yU(d:Nat)(h:d<2^60):er ((d:Int)+1)=((d+1:Nat):Int):=by unfold er;rw[pM ac ac];omega
mutual
theorem HC:∀(x:Ex) (d:Nat),d<=21->jF oA x d=decide (d+jb x<=20)
 | .mk k n s o C,d,hd=>by
   rw[jF,oA,jb];by_cases h:d<=20
   .rw[yU d ac,HD C d h];simp only[show decide ((d:Int)<=20)=true by simpa using (by omega:(d:Int)<=20),gm]
   .have Z:decide ((d:Int)<=20)=false:=by simp;omega
    rw[Z,jI];symm;simp;omega
theorem HD:∀(l:qC) (d:Nat),d<=20->fT oA l ((d+1:Nat):Int)=decide (d+tQ l<=20)
 |[],d,hd=>by rw[fT,tQ];symm;simpa using hd
 |e::es,d,hd=>by
  rw[fT,HC e (d+1) ac,HD es d hd,tQ];by_cases o:d+1+jb e<=20<;>by_cases m:d+tQ es<=20;all_goals simp only[o,m,Hl,kJ,Hk,jI]
  all_goals (symm;simp;omega)
end
def Ci(x:Ex):jF oA x 0=!decide ((20:Int)<jb x):=by
 have:=HC x 0 ac;rw[show((0:Nat):Int)=0 from rfl]at this;rw[this];by_cases h:jb x<=20
 .have:¬(20:Int)<jb x:=by omega
  simp[h,this]
 .have:(20:Int)<jb x:=by omega
  simp[h,this]
theorem HE:∀(l:qC),fT oA l 0=!(l.any fun e=>decide ((20:Int)<jb e))
 |[]=>rfl
 |e::es=>by rw[fT,Ci,HE es,nF,ua]
mutual
theorem SR:∀(x:St) (d:Int),iJ (lO oA) x d ()=(!yw x,())
 | .mk k z Y n a v C U V,d=>by
   rw[iJ,lO,yw];simp only[St.aW,St.value,St.args,Ci,HE];cases o:decide ((20:Int)<jb a)
   .cases m:decide ((20:Int)<jb v)
    .cases I:C.any fun e=>decide ((20:Int)<jb e)
     .simp only[lM,kJ,gm,yV U];cases Z:pN U
      .simp only[lM,yV V,lL,jC]
      .simp
     .simp
    .simp
   .simp
theorem yV:∀(l:qy) (d:Int),dk (lO oA) l d ()=(!pN l,())
 |[],_=>rfl
 |x::l,d=>by
  rw[dk,SR x,pN];cases h:yw x
  .simp only[lM,yV l,jC]
  .simp
end
def re(k:Int):Nat:=if k=4 then 1 else 0
def SS(x:St)(d n l:Nat)(M:n<2^60)(W:l<2^60):kM x d ((n:Int),(l:Int))=(decide ((d:Int)<=20)&&decide (((n+1:Nat):Int)<=200)&&decide (((l+re x.ah:Nat):Int)<=16),(((n+1:Nat):Int),((l+re x.ah:Nat):Int))):=by
 have V:(if x.ah=4 then er ((l:Int)+1)else (l:Int))=((l+re x.ah:Nat):Int):=by
  unfold re;split
  .rw[yU l ac]
  .rfl
 unfold kM;simp only[yU n ac,V]
mutual
theorem SU:∀(x:St) (d n l:Nat),d<=21->n<=200->l<=16 ->
 ((cz x d<=20/\n+dW x<=200/\l+dM x<=16)->iJ kM x d ((n:Int),(l:Int))=(true,(((n+dW x:Nat):Int),((l+dM x:Nat):Int)))) /\
 (¬(cz x d<=20/\n+dW x<=200/\l+dM x<=16)->(iJ kM x d ((n:Int),(l:Int))).1=false)
 | .mk k Z Y W a v C U V,d,n,l,hd,hn,hl=>by
   have o:re (St.mk k Z Y W a v C U V).ah<=1:=by unfold re;split<;>omega
   have e1:dM (.mk k Z Y W a v C U V)=re (St.mk k Z Y W a v C U V).ah+dN U+dN V:=by rw[dM];rfl
   rw[iJ,SS _ _ _ _ ac ac,e1];obtain⟨z,hz⟩:∃z,re (St.mk k Z Y W a v C U V).ah=z:=⟨_,rfl⟩;rw[hz]at o⊢;clear hz e1;simp only[yU d ac,cz,dW];by_cases h0:d<=20/\n+1<=200/\l+z<=16
   .have m:(decide ((d:Int)<=20)&&decide (((n+1:Nat):Int)<=200)&&decide (((l+z:Nat):Int)<=16))=true:=by
     rw[ca,ca];refine⟨⟨?_,?_⟩,?_⟩<;>apply p7<;>omega
    rw[m];simp only[];have t:=yW U (d+1) (n+1) (l+z) ac ac ac;by_cases O:jJ U (d+1)<=20/\n+1+fz U<=200/\l+z+dN U<=16
    .rw[t.1 O];simp only[];have u:=yW V (d+1) (n+1+fz U) (l+z+dN U) ac ac ac;by_cases M:jJ V (d+1)<=20/\n+1+fz U+fz V<=200/\l+z+dN U+dN V<=16
     .rw[u.1 M];refine⟨fun _=>?_,fun h=>(h ⟨ac,ac,ac⟩).elim⟩;rw[show n+1+fz U+fz V=n+(1+fz U+fz V) by omega,show l+z+dN U+dN V=l+(z+dN U+dN V) by omega]
     .refine⟨fun h=>(M ⟨ac,ac,ac⟩).elim,fun _=>u.2 M⟩
    .refine⟨fun h=>(O ⟨ac,ac,ac⟩).elim,fun _=>?_⟩;have:=t.2 O;generalize dk kM U _ _=r at this⊢;obtain⟨b,s⟩:=r;simp only at this;subst this;rfl
   .have m:(decide ((d:Int)<=20)&&decide (((n+1:Nat):Int)<=200)&&decide (((l+z:Nat):Int)<=16))=false:=by
     rw[<-yq,ca,ca];rintro⟨⟨J,L⟩,I⟩;have J:=p8 J;have L:=p8 L;have I:=p8 I;exact h0 ⟨ac,ac,ac⟩
    rw[m];exact⟨fun h=>(h0 ⟨ac,ac,ac⟩).elim,fun _=>rfl⟩
theorem yW:∀(x:qy) (d n l:Nat),d<=21->n<=200->l<=16 ->
 ((jJ x d<=20/\n+fz x<=200/\l+dN x<=16)->dk kM x d ((n:Int),(l:Int))=(true,(((n+fz x:Nat):Int),((l+dN x:Nat):Int)))) /\
 (¬(jJ x d<=20/\n+fz x<=200/\l+dN x<=16)->(dk kM x d ((n:Int),(l:Int))).1=false)
 |[],d,n,l,hd,hn,hl=>by
  rw[dk,jJ,fz,dN];exact⟨fun _=>rfl,fun h=>(h ⟨ac,ac,ac⟩).elim⟩
 |x::r,d,n,l,hd,hn,hl=>by
  rw[dk,jJ,fz,dN];have t:=SU x d n l hd hn hl;by_cases o:cz x d<=20/\n+dW x<=200/\l+dM x<=16
  .rw[t.1 o];simp only[];have u:=yW r d (n+dW x) (l+dM x) hd ac ac;by_cases m:jJ r d<=20/\n+dW x+fz r<=200/\l+dM x+dN r<=16
   .rw[u.1 m];refine⟨fun _=>?_,fun h=>(h ⟨ac,ac,ac⟩).elim⟩;rw[show n+dW x+fz r=n+(dW x+fz r) by omega,show l+dM x+dN r=l+(dM x+dN r) by omega]
   .exact⟨fun h=>(m ⟨ac,ac,ac⟩).elim,fun _=>u.2 m⟩
  .refine⟨fun h=>(o ⟨ac,ac,ac⟩).elim,fun _=>?_⟩;have:=t.2 o;generalize iJ kM x _ _=r at this⊢;obtain⟨b,s⟩:=r;simp only at this;subst this;rfl
end
def SV(x:qy):(dk kM x 0 (0,0)).1=(!decide ((200:Int)<fz x) && !decide ((16:Int)<dN x) && !decide ((20:Int)<jJ x 0)):=by
 have t:=yW x 0 0 0 ac ac ac;rw[show((0:Nat):Int)=0 from rfl]at t;simp only[bX]at t;by_cases h:jJ x 0<=20/\fz x<=200/\dN x<=16
 .rw[t.1 h];have o:¬(200:Int)<fz x:=ac;have m:¬(16:Int)<dN x:=ac;have I:¬(20:Int)<jJ x 0:=ac;simp[o,m,I]
 .rw[t.2 h]
  symm
  rw[<-yq,ca,ca];rintro⟨⟨J,z⟩,O⟩;simp only[pD,iL]at J z O;exact h ⟨ac,ac,ac⟩
theorem SW(f:Fu):gQ f=!vJ f:=by
 rw[gQ,vJ,lP,SV,Ci,yV];have o:decide ((f.params.length:Int)<=6)=!decide ((6:Int)<f.params.length):=by
  by_cases h:(6:Int)<f.params.length
  .have:¬(f.params.length:Int)<=6:=by omega
   simp[h,this]
  .have:(f.params.length:Int)<=6:=by omega
   simp[h,this]
 have m:decide ((f.ai.length:Int)<=8)=!decide ((8:Int)<f.ai.length):=by
  by_cases h:(8:Int)<f.ai.length
  .have:¬(f.ai.length:Int)<=8:=by omega
   simp[h,this]
  .have:(f.ai.length:Int)<=8:=by omega
   simp[h,this]
 rw[o,m];simp only[ua];generalize (!decide ((6:Int)<f.params.length))=a;generalize (!decide ((8:Int)<f.ai.length))=b;generalize (!decide ((200:Int)<fz f.body))=c;generalize (!decide ((16:Int)<dN f.body))=d;generalize (!decide ((20:Int)<jJ f.body 0))=e;generalize (!pN f.body)=g;generalize (!decide ((20:Int)<jb f.value))=h;cases a<;>cases b<;>cases c<;>cases d<;>cases e<;>cases g<;>cases h<;>rfl
theorem HF{o:Type}(l:List o)(p q:o->Bool)(h:∀x,p x=!q x):l.all p=!l.any q:=by
 induction l with
 |nil=>rfl
 |cons a l ih=>rw[nL,nF,ua,h,ih]
def SX(p:Pr):iZ p=!pP p:=by
 rw[iZ,pP,HF p.funcs gQ vJ SW,HF p.af _ yx (fun a=>by rw[yx,ua])];simp only[ua]
end Go.Proofs.Ytbflaciihaijgaa
namespace Go.Ab
set_option maxRecDepth 20000
open Go
variable{P:Program}{H:Hp}{t C e r:Nat}
def HG(k:IntKind)(a b:Int):Int:=a.fdiv (2^ min b.toNat k.bits)
def bin_shr{D:BinOp->Sx->Sx->qA}{t:TypeId}{k M:IntKind}{a b:Int}(C:0<=b):dw P D .shr t (.int k a) (.int M b)=some (.int k (HG k a b)):=by
 obtain⟨m,rfl⟩:=rW C;simp only[dw,pe];show ta .shr k a (Int.ofNat m)=_;simp[ta,HG]
abbrev bB:=qn
variable{vs:List (bB×Int)}
def di:List (bB×Int)->bB->Int
 |[],_=>0
 |p::l,nm=>if nm=p.1 then p.2 else di l nm
def setV:List (bB×Int)->bB->Int->List (bB×Int)
 |[],nm,x=>[(nm,x)]
 |p::l,nm,x=>if nm=p.1 then (nm,x)::l else p::setV l nm x
section
variable (p:Pr) (fi:List (bB × Int))
end
def cu(vs:List (bB×Int)):qJ:=vs.map fun p=>(.ag p.1,.int .i64 p.2)
theorem Cj(nm:bB):∀(vs:List (bB×Int)) (i:Nat),(dG .string (.ag nm) (cu vs) i=some none/\di vs nm=0/\∀x,cu (setV vs nm x)=cu vs++[(.ag nm,.int .i64 x)]) \/
 ∃j,j<vs.length/\dG .string (.ag nm) (cu vs) i=some (some (i+j,.int .i64 (di vs nm)))/\∀x,cu (setV vs nm x)=(cu vs).set j (.ag nm,.int .i64 x)
 |[],i=>.inl ⟨rfl,rfl,fun _=>rfl⟩
 |p::l,i=>by
  by_cases h:nm=p.1
  .refine .inr ⟨0,aE,?_,fun x=>?_⟩
   .simp[cu,dG,li,di,h]
   .simp[cu,setV,h]
  .have Z:dG .string (.ag nm) (cu (p::l)) i=dG .string (.ag nm) (cu l) (i+1):=by
    show dG .string (.ag nm) ((.ag p.1,.int .i64 p.2)::cu l) i=_;have:(nm == p.1)=false:=fQ;simp[dG,li,this]
   have W:di (p::l) nm=di l nm:=by simp[di,h]
   have U:∀x,cu (setV (p::l) nm x)=(.ag p.1,.int .i64 p.2)::cu (setV l nm x):=fun x=>by simp[setV,h,cu]
   rw[Z,W];rcases Cj nm l (i+1)with⟨o,m,I⟩|⟨j,Y,o,I⟩
   .refine .inl ⟨o,m,fun x=>?_⟩;rw[U,I];simp[cu]
   .refine .inr ⟨j+1,co,?_,fun x=>?_⟩
    .rw[o,show i+1+j=i+(j+1) by omega]
    .rw[U,I];simp[cu]
def HH{es:qJ}{nm:bB}{z:AV}(V:P.underlying t=some (.map C e))(Z:jS P C=some .string)(Y:n1 P e=some z)(L:H.get r=some (.map es)):
 (dG .string (.ag nm) es 0=some none->gG P H t (.map r) (.ag nm) false=some z)/\∀i v,dG .string (.ag nm) es 0=some (some (i,v))->gG P H t (.map r) (.ag nm) false=some v:=by
 refine⟨fun h=>?_,fun i v h=>?_⟩<;>simp only[gG,V,Z,Y,rz,L,h,uD]
def Ck{es:qJ}{nm:bB}{x:AV}(V:P.underlying t=some (.map C e))(z:jS P C=some .string)(L:H.get r=some (.map es)):
 (dG .string (.ag nm) es 0=some none->kz P H t (.map r) (.ag nm) x=some (H.set r (.map (es++[(.ag nm,x)]))))/\∀i v,dG .string (.ag nm) es 0=some (some (i,v))->kz P H t (.map r) (.ag nm) x=some (H.set r (.map (es.set i (.ag nm,x)))):=by
 refine⟨fun h=>?_,fun i v h=>?_⟩<;>simp only[kz,V,z,L,h]
def Cl(V:P.underlying t=some (.map C e))(z:jS P C=some .string)(Z:n1 P e=some (.int .i64 0))(L:H.get r=some (.map (cu vs)))(nm:bB):
 gG P H t (.map r) (.ag nm) false=some (.int .i64 (di vs nm)):=by
 obtain⟨Y,m⟩:=HH (nm:=nm) V z Z L;rcases Cj nm vs 0 with⟨o,W,I⟩|⟨j,U,o,I⟩
 .rw[Y o,W]
 .rw[m _ _ o]
def vW(V:P.underlying t=some (.map C e))(z:jS P C=some .string)(L:H.get r=some (.map (cu vs)))(nm:bB)(x:Int):
 kz P H t (.map r) (.ag nm) (.int .i64 x)=some (H.set r (.map (cu (setV vs nm x)))):=by
 obtain⟨Z,m⟩:=Ck (nm:=nm) (x:=.int .i64 x) V z L;rcases Cj nm vs 0 with⟨o,Y,I⟩|⟨j,W,o,I⟩
 .rw[Z o,I]
 .rw[m _ _ o,I,bX]
def iw:qH->Nat->List (bB×Int)->List (bB×Int)
 |[],_,m=>m
 |f::l,i,m=>iw l (i+1) (setV m f.name i)
def fd:List (bB×Int)->bB->Bool
 |[],_=>false
 |p::l,nm=>if nm=p.1 then true else fd l nm
theorem Cm(nm:bB):∀(vs:List (bB×Int)) (i:Nat),(fd vs nm=false->dG .string (.ag nm) (cu vs) i=some none/\di vs nm=0)/\(fd vs nm=true->∃j,dG .string (.ag nm) (cu vs) i=some (some (j,.int .i64 (di vs nm))))
 |[],i=>⟨fun _=>⟨rfl,rfl⟩,fun h=>by simp[fd]at h⟩
 |p::l,i=>by
  by_cases h:nm=p.1
  .refine⟨fun m=>by simp[fd,h]at m,fun _=>⟨i,?_⟩⟩;simp[cu,dG,li,di,h]
  .have o:dG .string (.ag nm) (cu (p::l)) i=dG .string (.ag nm) (cu l) (i+1):=by
    show dG .string (.ag nm) ((.ag p.1,.int .i64 p.2)::cu l) i=_;have:(nm == p.1)=false:=fQ;simp[dG,li,this]
   have W:di (p::l) nm=di l nm:=by simp[di,h]
   have Z:fd (p::l) nm=fd l nm:=by simp[fd,h]
   rw[o,W,Z];exact Cm nm l (i+1)
def HI(V:P.underlying t=some (.map C e))(z:jS P C=some .string)(Y:n1 P e=some (.int .i64 0))(L:H.get r=some (.map (cu vs)))(nm:bB):
 gG P H t (.map r) (.ag nm) true=some (.aO [.int .i64 (di vs nm),.bool (fd vs nm)]):=by
 obtain⟨o,m⟩:=Cm nm vs 0;cases Z:fd vs nm with
 |false=>
  obtain⟨U,M⟩:=o Z;simp only[gG,V,z,Y,rz,L,U,uD,M]
 |true=>
  obtain⟨j,U⟩:=m Z;simp only[gG,V,z,rz,L,U,uD]
end Go.Ab
namespace Go.Proofs.Ytbflaciihaijgaa
set_option maxRecDepth 20000
open Go Go.Ab
variable{p:Pr}
def dO(p:Pr):qm:=p.funcs.map (·.name)
def l4(p:Pr):Bool:=cF [] (cc p)||cF [] (dO p)||p.funcs.any fun f=>cF [] (cc p++(f.params++f.ai))
theorem HJ:∀(a b seen:qm),cF seen (a++b)=(cF seen a||cF (seen++a) b)
 |[],b,seen=>by simp[cF]
 |x::a,b,seen=>by rw[mJ,cF,cF,HJ a b,lD,List.singleton_append,Bool.or_assoc]
theorem yX(L:qm):∀(V:qH) (seen:qm),yz L seen V=(cF seen (V.map (·.name))||V.any fun f=>cF L (f.params++f.ai))
 |[],seen=>rfl
 |f::V,seen=>by
  rw[yz,eJ,cF,nF,yX L V];cases bR seen f.name<;>cases cF L (f.params++f.ai)<;>cases cF (seen++[f.name]) (V.map (·.name))<;>rfl
def HK(p:Pr):l4 p=oI p:=by
 rw[l4,oI,yX];cases h:cF [] (cc p)
 .have e:(fun f:Fu=>cF [] (cc p++(f.params++f.ai)))=fun f=>cF (cc p) (f.params++f.ai):=by
   funext f;rw[HJ,h];rfl
  rw[e];rfl
 .rfl
def dS:qH->List (bB×Int)->List (bB×Int)
 |[],m=>m
 |f::l,m=>dS l (setV m f.name f.params.length)
theorem sL(s a:bB)(x:Int):∀m:List (bB×Int),di (setV m a x) s=if s=a then x else di m s
 |[]=>by simp[setV,di]
 |q::l=>by
  by_cases h:a=q.1
  .simp only[setV,h,cg,di];split<;>rfl
  .simp only[setV,h,cm,di,sL s a x l];by_cases Z:s=q.1
   .rw[aB Z,aB Z,ao (fun e=>h (by rw[<-e,Z]))]
   .rw[ao Z,ao Z]
theorem HL(s a:bB)(x:Int):∀m:List (bB×Int),fd (setV m a x) s=(decide (s=a)||fd m s)
 |[]=>by
  by_cases h:s=a<;>simp[setV,fd,h]
 |q::l=>by
  by_cases h:a=q.1
  .by_cases Z:s=q.1<;>simp[setV,fd,h,Z]
  .have e:=HL s a x l;by_cases Z:s=q.1
   .simp[setV,fd,h,Z]
   .simp[setV,fd,h,Z,e]
def mQ(a b:qm)(s:qn):bR (a++b) s=(bR a s||bR b s):=by unfold bR;rw[List.any_append]
def oO(a s:qn):bR [a] s=decide (s=a):=by
 unfold bR;simp only[nF,List.any_nil,lL];by_cases h:s=a
 .simp[h]
 .have:¬a=s:=fun e=>h e.symm;simp[h,this]
theorem HM(s:bB):∀(l:qH) (m:List (bB×Int)),fd (dS l m) s=(fd m s||bR (l.map (·.name)) s)
 |[],m=>by simp[dS,bR]
 |f::l,m=>by
  rw[dS,HM s l,HL,eJ,show f.name::l.map (·.name)=[f.name]++l.map (·.name)from rfl,mQ,oO];cases decide (s=f.name)<;>cases fd m s<;>simp
theorem HN(s:bB):∀(l:qH) (m:List (bB×Int)),bR (l.map (·.name)) s=false->di (dS l m) s=di m s
 |[],m,_=>rfl
 |f::l,m,h=>by
  rw[eJ,show f.name::l.map (·.name)=[f.name]++l.map (·.name)from rfl,mQ,oO,ig,iL]at h;rw[dS,HN s l _ h.2,sL,ao h.1]
theorem yY:∀(l seen:qm),cF seen l=false->∀s,bR seen s=true->bR l s=false
 |[],_,_,_,_=>rfl
 |a::l,seen,h,s,hs=>by
  rw[cF,ig]at h;rw[show a::l=[a]++l from rfl,mQ,oO,yY l _ h.2 s (by rw[mQ,hs];rfl),lL,iL];intro e;rw[<-e]at h;rw[hs]at h;simp at h
theorem HO:∀(l:qH) (s:qn) (i:Int),0<=i->(bR (l.map (·.name)) s=decide (0<=dl l s i))
 |[],s,i,_=>by simp[bR,dl]
 |f::l,s,i,hi=>by
  rw[eJ,show f.name::l.map (·.name)=[f.name]++l.map (·.name)from rfl,mQ,oO,dl];by_cases h:f.name=s
  .rw[aB h,p7 h.symm,tt];simpa using hi
  .rw[ao h,p9 (fun e=>h e.symm),jC,HO l s (i+1) ac]
theorem HP(p:Pr)(s:bB):∀(l:qH) (seen:qm) (m:List (bB×Int)) (i:Nat),p.funcs.drop i=l->cF seen (l.map (·.name))=false->0<=dl l s i ->
 ∃f,p.funcs[(dl l s i).toNat]?=some f/\di (dS l m) s=f.params.length
 |[],_,_,i,_,_,h=>by simp[dl]at h
 |f::l,seen,m,i,hd,hn,h=>by
  have O:i<p.funcs.length:=by
   have:=jY List.length hd;simp at this;omega
  rw[eM O,eU]at hd;rw[eJ,cF,ig]at hn;rw[dl]at h⊢;by_cases e:f.name=s
  .rw[aB e];refine⟨f,?_,?_⟩
   .rw[ny,bc O,hd.1]
   .have I:bR (l.map (·.name)) s=false:=yY _ _ hn.2 s Hg;rw[dS,HN s l _ I,sL,aB e.symm]
  .rw[ao e]at h⊢;exact HP p s l (seen++[f.name]) _ (i+1) hd.2 hn.2 h
theorem SY(p:Pr)(s:bB):fd (dS p.funcs []) s=decide (0<=dl p.funcs s 0):=by
 rw[HM,HO _ _ 0 ac];rfl
theorem SZ(hd:cF [] (dO p)=false){s:bB}(h:0<=dl p.funcs s 0):di (dS p.funcs []) s=pS p s:=by
 obtain⟨f,o,m⟩:=HP p s p.funcs [] [] 0 rfl hd h;have V:p.funcs[(dl p.funcs s 0).toNat]?=some f:=o;rw[m,pS,V];rfl
def kh(o:List (bB×Int))(vs L:qm)(x:St)(_:Int)(w:Bool):Bool×Bool:=
 if x.ah=1 then (bR vs x.name,w)
 else if x.ah=2 then (bR L x.name,w)
 else if x.ah=6 then (fd o x.to&&bR vs x.name,w||(fd o x.to && !decide (di o x.to=(x.args.length:Int))))
 else (true,w)
def oP(o:List (bB×Int))(L:qm):qH->Bool->Int
 |[],w=>if w=true then 5 else 0
 |f::fs,w=>if lP (fun x _=>jK (f.params++f.ai) L x) f=true/\(dk (kh o (f.params++f.ai) L) f.body 0 w).1=true then oP o L fs (dk (kh o (f.params++f.ai) L) f.body 0 w).2 else 3
def sM(p:Pr):Int:=oP (dS p.funcs []) (cc p) p.funcs false
def Cn(p:Pr):Int:=if iZ p=false then 6 else if js p=false then 2 else if l4 p=true then 4 else sM p
mutual
theorem Co(vs L:qm):∀(x:Ex) (d:Int),jF (fun x _=>jK vs L x) x d=gr vs L x
 | .mk k n s o C,d=>by rw[jF,gr,Cp vs L C,Bool.and_comm]
theorem Cp(vs L:qm):∀(l:qC) (d:Int),fT (fun x _=>jK vs L x) l d=ke vs L l
 |[],_=>rfl
 |x::l,d=>by rw[fT,ke,Co vs L x,Cp vs L l]
end
section
variable (c:Sc)
mutual
def sN:St->Bool
 | .mk _ _ _ _ a v C U V=>gr c.vars c.an a&&gr c.vars c.an v&&ke c.vars c.an C&&kY U&&kY V
def kY:qy->Bool
 |[]=>true
 |x::l=>sN x&&kY l
end
mutual
def rh:St->Bool
 | .mk k z Y n a v C U V=>mM c (.mk k z Y n a v C U V)&&iR U&&iR V
def iR:qy->Bool
 |[]=>true
 |x::l=>rh x&&iR l
end
mutual
theorem S0:∀(x:St) (d:Int),iJ (lO fun x _=>jK c.vars c.an x) x d ()=(sN c x,())
 | .mk k z Y n a v C U V,d=>by
   rw[iJ,lO,sN];simp only[St.aW,St.value,St.args,Co,Cp];cases h:gr c.vars c.an a&&gr c.vars c.an v&&ke c.vars c.an C
   .simp
   .simp only[yZ U,gm];cases m:kY c U
    .simp
    .simp only[yZ V,gm]
theorem yZ:∀(l:qy) (d:Int),dk (lO fun x _=>jK c.vars c.an x) l d ()=(kY c l,())
 |[],_=>rfl
 |x::l,d=>by
  rw[dk,S0 x,kY];cases h:sN c x
  .simp
  .simp only[yZ l,gm]
end
mutual
theorem S1:∀x:St,mN c false x=(sN c x&&rh c x)
 | .mk k z Y n a v C U V=>by
   rw[mN,sN,rh,y9 U,y9 V,rV,yA];simp only[St.aW,St.value,St.args];cases gr c.vars c.an a<;>cases gr c.vars c.an v<;>cases ke c.vars c.an C<;>cases mM c (.mk k z Y n a v C U V)<;>cases kY c U<;>cases iR c U<;>cases kY c V<;>cases iR c V<;>rfl
theorem y9:∀l:qy,ir c false l=(kY c l&&iR c l)
 |[]=>rfl
 |x::l=>by
  rw[ir,kY,iR,S1 x,y9 l];cases sN c x<;>cases rh c x<;>cases kY c l<;>cases iR c l<;>rfl
end
end
def S8(hd:cF [] (dO p)=false)(c:Sc)(L:c.p=p)(x:St)(d:Int)(w:Bool):
 (mM c x=true->kh (dS p.funcs []) c.vars c.an x d w=(true,w || !pT p x))/\(mM c x=false->(kh (dS p.funcs []) c.vars c.an x d w).1=false):=by
 unfold kh mM pT;rw[L];by_cases o:x.ah=1
 .have C:¬x.ah=6:=by omega
  simp only[o,cg,Int.reduceEq,iC,jI,lM,nh,lL];exact⟨fun h=>by rw[h],fun h=>h⟩
 .by_cases C:x.ah=6
  .simp only[C,Int.reduceEq,cm,cg,my,gm,Bool.not_not,SY];cases h:decide (0<=dl p.funcs x.to 0)
   .simp
   .rw[SZ hd (p8 h),kJ,gm,gm];refine⟨fun h=>?_,fun h=>h⟩;rw[h];have e:decide ((pS p x.to:Int)=(x.args.length:Int))=decide ((x.args.length:Int)=(pS p x.to:Int)):=by
     by_cases q:(pS p x.to:Int)=(x.args.length:Int)
     .rw[p7 q,p7 q.symm]
     .rw[p9 q,p9 (fun e=>q e.symm)]
    rw[e]
  .by_cases m:x.ah=2
   .simp only[m,Int.reduceEq,cm,cg,iC,jI,lM,nh,lL];exact⟨fun h=>by rw[h],fun h=>h⟩
   .simp only[o,m,C,cm,iC,jI,lM,nh,lL];exact⟨fun _=>aE,fun h=>jk⟩
section
variable {p:Pr} (hd:cF [] (dO p)=false) (c:Sc) (hc:c.p=p)
include hd hc
mutual
theorem Ta:∀(x:St) (d:Int) (w:Bool),(rh c x=true->iJ (kh (dS p.funcs []) c.vars c.an) x d w=(true,w || !mN c true x))/\(rh c x=false->(iJ (kh (dS p.funcs []) c.vars c.an) x d w).1=false)
 | .mk k z Y n a v C U V,d,w=>by
   have Z:=S8 hd c hc (.mk k z Y n a v C U V) d w;rw[iJ,rh,mN,gy,hc];cases m:mM c (.mk k z Y n a v C U V)
   .have:=Z.2 m;generalize kh _ _ _ _ _ _=r at this⊢;obtain⟨b,s⟩:=r;simp only at this;subst this;simp
   .rw[Z.1 m];simp only[gm];have o:=za U (er (d+1)) (w || !pT p (.mk k z Y n a v C U V));cases M:iR c U
    .have:=o.2 M;generalize dk _ U _ _=r at this⊢;obtain⟨b,s⟩:=r;simp only at this;subst this;simp
    .rw[o.1 M];simp only[gm];have W:=za V (er (d+1)) ((w || !pT p (.mk k z Y n a v C U V)) || !ir c true U);cases O:iR c V
     .exact⟨fun h=>jk,fun _=>W.2 O⟩
     .refine⟨fun _=>?_,fun h=>jk⟩;rw[W.1 O]
      congr 1
      cases w<;>cases pT p (.mk k z Y n a v C U V)<;>cases ir c true U<;>cases ir c true V<;>rfl
theorem za:∀(l:qy) (d:Int) (w:Bool),(iR c l=true->dk (kh (dS p.funcs []) c.vars c.an) l d w=(true,w || !ir c true l))/\(iR c l=false->(dk (kh (dS p.funcs []) c.vars c.an) l d w).1=false)
 |[],d,w=>by
  rw[dk,iR,ir];exact⟨fun _=>aE,fun h=>jk⟩
 |x::l,d,w=>by
  have Z:=Ta x d w;rw[dk,iR,ir];cases m:rh c x
  .have:=Z.2 m;generalize iJ _ x _ _=r at this⊢;obtain⟨b,s⟩:=r;simp only at this;subst this;simp
  .rw[Z.1 m];simp only[gm];have Y:=za l d (w || !mN c true x);cases W:iR c l
   .exact⟨fun h=>jk,fun _=>Y.2 W⟩
   .refine⟨fun _=>?_,fun h=>jk⟩;rw[Y.1 W]
    congr 1
    cases w<;>cases mN c true x<;>cases ir c true l<;>rfl
end
end
theorem HQ{p:Pr}(hd:cF [] (dO p)=false):∀(l:qH) (w:Bool),oP (dS p.funcs []) (cc p) l w=if l.any (pU p)=true then 3 else if (w||l.any (sA p))=true then 5 else 0
 |[],w=>by simp[oP]
 |f::fs,w=>by
  have z:=za hd (kW p f) rfl f.body 0 w;have Y:(kW p f).vars=f.params++f.ai:=rfl;have J:(kW p f).an=cc p:=rfl;rw[Y,J]at z;have Z:lP (fun x _=>jK (f.params++f.ai) (cc p) x) f=(gr (f.params++f.ai) (cc p) f.value&&kY (kW p f) f.body):=by
   rw[lP,Co];have:=yZ (kW p f) f.body 0;rw[Y,J]at this;rw[this]
  have W:pU p f=!(lP (fun x _=>jK (f.params++f.ai) (cc p) x) f&&iR (kW p f) f.body):=by
   rw[pU,Z,y9,Y,J];cases gr (f.params++f.ai) (cc p) f.value<;>cases kY (kW p f) f.body<;>cases iR (kW p f) f.body<;>rfl
  rw[oP,nF,nF,W];cases o:lP (fun x _=>jK (f.params++f.ai) (cc p) x) f
  .simp
  .cases m:iR (kW p f) f.body
   .simp[z.2 m]
   .rw[z.1 m];simp only[oz,cg,ox,nh,jC];rw[HQ hd fs]
    congr 2
    rw[sA];cases w<;>simp
def Tb(p:Pr):Cn p=jc p:=by
 unfold Cn jc;rw[SX,HK];cases o:pP p
 .simp only[lM,py,cE,cm];cases m:js p
  .rfl
  .simp only[py,cm];cases I:oI p
   .simp only[cE,cm];have hd:cF [] (dO p)=false:=by
     rw[<-HK,l4,ig,ig]at I;exact I.1.2
    rw[sM,HQ hd];simp
   .rfl
 .rfl
end Go.Proofs.Ytbflaciihaijgaa
