/- Lemmas for the last file. -/
import Derived.Test.YtbflaciihaijgaaGreatREK
set_option linter.all false
set_option maxHeartbeats 32000000
namespace Go.Ab
set_option maxRecDepth 20000
open Go
variable{qb:Prop}
def M6(h:qb:=by have:=h.2.1;have:=h.2.2.1;simp only[List.drop_zero];omega):=h
def Gb(h:qb:=by simp only[cX,I,Bool.false_and]):=h
end Go.Ab
namespace Go.Proofs.YtbflaciihaijgaaGreat
set_option maxRecDepth 20000
open Go Go.Ab Proofs.Tryz
variable{cfg:Cfg}{l:qu}
section
def tyW4i.tyF:=ac @cI (ac @cY (ac @rZ (ac @EF (ac @EG (@Bl)))))
open tyW4i
def M7(a b:Int):cQ prog 87 [(0,.int .i64 a),(1,.int .i64 b)]=some (.agg [.int .i64 a,.int .i64 b]):=aA
def M8:cQ prog 87 []=some (.agg [.int .i64 0,.int .i64 0]):=aA
theorem Gc(a b:AV):cH 2 [a,b]=some (.agg [a,b]):=rfl
theorem Y5(k:Tk)(x:Int):List.take 2 k.cells++[.int .i64 x]++List.drop 3 k.cells=(Tk.mk k.ag k.text x).cells:=rfl
def Y6(H:Hp)(k:Tk):dc prog H 128 1 [(0,.agg k.cells)]=some (.sl H.next 0 1 3,H.alloc (.cells k.cells 0 true)):=aA
theorem Y7{bV H:Hp}{S:AV}{O:List Tk}(U:wA bV.next H S O)(m:FrB 0 bV H)(Z:bV.next<H.next)(k:Tk){r':Nat}(K:H.get r'=some (.cells k.cells 0 true))(I:O.length<2^40):
 ∃F,dh prog false H 128 128 S (.sl r' 0 1 3)=some (.sl H.next 0 (O.length+1) 3,F)/\F.next=H.next+1/\wA bV.next F (.sl H.next 0 (O.length+1) 3) (O++[k])/\FrB 0 bV F/\∀j,j<H.next->S≠.sl j 0 O.length 3->F.get j=H.get j:=by
 have C:fc H 3 (.sl r' 0 1 3)=some (0+1,k.cells):=by
  have:=pN (H:=H) (r:=r') (o:=0) (n:=1) (z:=3) (s:=3) K (by rw[gV,mF,Tk.aN];rfl);rw[this,gV,iR (by rw[Tk.aN];omega)]
 have M:dd=70368744177664:=rfl;rcases U with⟨rfl,rfl⟩|⟨r,rfl,J,q3,q4,q5⟩
 .refine⟨H.alloc (.cells k.cells 0 true),?_,rfl,.inr ⟨H.next,aI,?_,Z,dq _,aI⟩,m.alloc _,fun j A _=>?_⟩
  .exact append_nil underlying128 Bk EI EJ aA C k.one rfl jB jB
  .rw[aP,au rfl];simp
  .rw[aP,ad aa]
 .refine⟨(H.az r).alloc (.cells (O.flatMap Tk.cells++k.cells) 0 true),?_,rfl,.inr ⟨H.next,aI,?_,Z,dq _,aI⟩,(m.az aa).alloc _,fun j A Y=>?_⟩
  .exact Bg underlying128 Bk EI EJ aA C k.one rfl J (JK O) jB jB
  .show((H.az r).alloc _).get (H.az r).next=_
   rw[aP,au rfl];simp
  .have V:¬j=r:=fun e=>Y mK;rw[aP,ad kC,gm,ad V]
def Y8(s:qr)(H:Hp)(v:AV)(H':Hp):Prop:=
 ∃(j V:Int) (S:AV),v=.aW [S,.agg [.int .i64 j,.int .i64 V]]/\FrB 0 H H'/\((j≠0/\¬tt s)\/(j=0/\∃ts,wA H.next H' S ts/\Bz s ts/\(tt s->ts=[⟨1,s,0⟩])))
abbrev qj:HB:=.cells [.int .i64 0,.int .i64 0] 0 true
theorem Y9(hx:zdf cfg)(s:qr)(hs:s.length<2^60)(H:Hp):aU prog cfg 162 [.ae s] H (Y8 s H):=by
 have hw:=hx.scan;refine a5 (M:=49) (rs:=[.tmp 2,.cell 3 87]) (hw.call _) hw.ao hw.am func162 rfl rfl M5.2 rfl ?_;dsimp only[M5,a3,Nat.reduceAdd];have gh0:=@M7;have gh1:=@M8;repeat' (first
  |(apply ai ?_;clear hK K)|apply Rx.o ?_|apply aN ?_|(apply aE (fun z Z=>?_) (fun z Z=>?_)<;>try(cases z;done))|apply ae ?_|(apply ah fun K hK=>?_)|apply aj ?_|apply ak ?_|apply am ?_|apply ax ?_)
 .refine⟨aC,_,(by(try simp only[aK,aW,Nat.reduceBEq,Nat.reduceAdd,Nat.reduceLeDiff,tyF,bU,cc,Gc, *]);first|done|with_reducible rfl),?_⟩;try simp only[aB]
  refine⟨6,20000,.ab,rfl,vC _ _ _,.inl ⟨aI,fun h=>?_⟩⟩;have:=h.2.2.1;omega
 .refine qa ?_;refine a4 ?_ (M2 hx.fL s hs _);rintro v _ ⟨rfl,rfl⟩;dsimp only[a0];repeat' (first
   |(apply ai ?_;clear hK K)|apply Rx.o ?_|apply aN ?_|(apply aE (fun z Z=>?_) (fun z Z=>?_)<;>try(cases z;done))|apply ae ?_|(apply ah fun K hK=>?_)|apply aj ?_|apply ak ?_|apply am ?_|apply ax ?_)
  have hsp:=wz false s;refine uN (fun n E A=>∃(V:Nat) (ts:List Tk) (lv:AV),n=s.length-V/\V<=s.length/\E.at 0=.ae s/\E.at 3=.ptr H.next 0/\E.at 4=lv/\E.at 5=.int .i64 V/\FrB 0 H A/\H.next<A.next /\
   A.get H.next=some qj/\wA H.next A lv ts/\ts.length<=V/\Bz s ts/\(ts=[]->V=fw false s)/\(tt s->(ts=[]/\V=0)\/(ts=[⟨1,s,0⟩]/\V=s.length))) ?_ (n:=s.length-fw false s) ?_
  .rintro n E A ⟨V,ts,lv,rfl,ha,h0,h3,h4,h5,o,hn2,hg2,I,htl,Y,U,hnm⟩;have e1:(H.next == A.next)=false:=ce;repeat' (first
    |(apply ai ?_;clear hK K)|apply Rx.o ?_|apply aN ?_|(apply aE (fun z Z=>?_) (fun z Z=>?_)<;>try(cases z;done))|apply ae ?_|(apply ah fun K hK=>?_)|apply aj ?_|apply ak ?_|apply am ?_|apply ax ?_)
   .have hlt:V<s.length:=by omega
    have hslo:=IS (P:=prog) (k:=.i64) (s:=s) (m:=V) underlying9 ha;repeat' (first
     |(apply ai ?_;clear hK K)|apply Rx.o ?_|apply aN ?_|(apply aE (fun z Z=>?_) (fun z Z=>?_)<;>try(cases z;done))|apply ae ?_|(apply ah fun K hK=>?_)|apply aj ?_|apply ak ?_|apply am ?_|apply ax ?_)
    have hne:s.drop V≠[]:=by
     intro h;have:=lB List.length h;rw[jP,eg]at this;omega
    refine qa ?_;refine a4 ?_ (Y4 hx (s.drop V) hne DW A);rintro v F ⟨⟨k,e,rfl,hk⟩,O⟩;have hn3:=O.next
    have hg3:F.get H.next=some qj:=by rw[O.get _ (dx _) hn2];exact hg2
    have C:wA H.next F lv ts:=by
     rcases I with h|⟨r,q1,q2,q3,q4,q5⟩
     .exact .inl h
     .exact .inr ⟨r,q1,by rw[O.get _ (dx _) q4];exact q2,q3,aa,q5⟩
    have e2:(H.next == F.next)=false:=ce;dsimp only[a0];have hx1:Ab.extract (.aW [.agg k.cells,.int .i64 e]) 0=some (.agg k.cells):=rfl;have hx2:Ab.extract (.aW [.agg k.cells,.int .i64 e]) 1=some (.int .i64 e):=rfl;have gh0:=@M7;repeat' (first
     |(apply ai ?_;clear hK K)|apply Rx.o ?_|apply aN ?_|(apply aE (fun z Z=>?_) (fun z Z=>?_)<;>try(cases z;done))|apply ae ?_|(apply ah fun K hK=>?_)|apply aj ?_|apply ak ?_|apply am ?_|apply ax ?_)
    .have he:e≠0:=by simpa using z
     refine⟨aC,_,(by(try simp only[aK,aW,Nat.reduceBEq,Nat.reduceAdd,Nat.reduceLeDiff,tyF,bU,cc,Gc, *]);first|done|with_reducible rfl),?_⟩;try simp only[aB]
     refine⟨e,V,.ab,rfl,?_,.inl ⟨he,fun h=>?_⟩⟩
     .exact((((o.trans O).alloc _).set (.inl aa) _).set (.inl (aT _)) _)
     .rcases hnm h with⟨_,q⟩|⟨_,q⟩
      .subst q;exact he (hk.2.2 h.1 M6 h.2.2.2).1
      .omega
    .have he:e=0:=by simpa using z
     have gh0:=@Y5;have gh1:=@Y6;repeat' (first
      |(apply ai ?_;clear hK K)|apply Rx.o ?_|apply aN ?_|(apply aE (fun z Z=>?_) (fun z Z=>?_)<;>try(cases z;done))|apply ae ?_|(apply ah fun K hK=>?_)|apply aj ?_|apply ak ?_|apply am ?_|apply ax ?_)
     generalize S:Tk.mk k.ag k.text (V:Int)=k';generalize j:Hp.alloc _ (HB.cells (Tk.cells k') 0 true)=H5;have hn5:H5.next=F.next+2:=by rw[<-j];rfl
     have hg5:H5.get (F.next+1)=some (.cells k'.cells 0 true):=zm;have hg5a:H5.get F.next=some (.cells k'.cells 0 true):=zm
     have hf5:FrB 0 F H5:=by rw[<-j];exact(((iu _ _).alloc _).set (.inl (aT _)) _).set (.inl (aT _)) _ |>.alloc _
     have hF5:FrB 0 H H5:=(o.trans O).trans hf5;have hrep5:wA H.next H5 lv ts:=by
      rcases C with h|⟨r,q1,q2,q3,q4,q5⟩
      .exact .inl h
      .exact .inr ⟨r,q1,by rw[hf5.get _ (dx _) q4];exact q2,q3,aa,q5⟩
     obtain⟨H6,p1,p2,p3,p4,p5⟩:=Y7 hrep5 hF5 aa k' hg5 aa;have hkeep:=hx.aj;have hg6:H6.get H.next=some qj:=by
      rw[p5 _ aa (fun e=>by rcases C with⟨_,q⟩|⟨r,q1,_,q3,_⟩<;>simp_all),hf5.get _ (dx _) aa];exact hg3
     have hg6a:H6.get F.next=some (.cells k'.cells 0 true):=by
      rw[p5 _ aa (fun e=>by rcases C with⟨_,q⟩|⟨r,q1,_,q3,q4,_⟩<;>simp_all)];exact hg5a
     obtain⟨n,hn1,hn2',hkt,hkk⟩:=hk.2.1 he;rw[jP]at hn2';have hktl:k'.text.length=n:=by rw[<-S];show k.text.length=n;rw[hkt,mF,jP];omega
     have hwr:IntKind.wrap .i64 ((V:Int)+(n:Int))=((V+n:Nat):Int):=BE;have hslo2:=IS (P:=prog) (k:=.i64) (s:=s) (m:=V+n) underlying9 aa;refine jF dK dK (by rw[hkeep];exact p1) ?_;repeat' (first
      |(apply ai ?_;clear hK K)|apply Rx.o ?_|apply aN ?_|(apply aE (fun z Z=>?_) (fun z Z=>?_)<;>try(cases z;done))|apply ae ?_|(apply ah fun K hK=>?_)|apply aj ?_|apply ak ?_|apply am ?_|apply ax ?_)
     refine qa ?_;refine a4 ?_ (M2 hx.fL (s.drop (V+n)) DW _);rintro v _ ⟨rfl,rfl⟩;dsimp only[a0];have hsp2:=wz false (s.drop (V+n));rw[jP]at hsp2;have hwr2:IntKind.wrap .i64 (((V+n:Nat):Int)+(fw false (s.drop (V+n)):Int))=((V+n+fw false (s.drop (V+n)):Nat):Int):=BE;repeat' (first
      |(apply ai ?_;clear hK K)|apply Rx.o ?_|apply aN ?_|(apply aE (fun z Z=>?_) (fun z Z=>?_)<;>try(cases z;done))|apply ae ?_|(apply ah fun K hK=>?_)|apply aj ?_|apply ak ?_|apply am ?_|apply ax ?_)
     refine⟨s.length-(V+n+fw false (s.drop (V+n))),aa,V+n+fw false (s.drop (V+n)),ts++[k'],.sl H5.next 0 (ts.length+1) 3,rfl,aa,eE,eE,eE,(by first|(simp only[aK,Nat.reduceBEq,gU, *];done)|rfl),p4,aa,hg6,p3,ce,fun t rest hr=>?_,aI,fun h=>.inr ?_⟩
     .cases ts with
      |nil=>
       simp only[jO,ew]at hr;obtain⟨rfl,_⟩:=hr;rw[<-U rfl];exact⟨k,by rw[<-he];exact hk,by rw[<-S],by rw[<-S]⟩
      |cons t0 ts=>
       simp only[jW,ew]at hr;obtain⟨rfl,_⟩:=hr;exact Y _ _ rfl
     .rcases hnm h with⟨rfl,q⟩|⟨_,q⟩
      .subst q;have J:=(hk.2.2 h.1 M6 h.2.2.2).2;simp only[gV]at J hkt;have hwn:fk s=s.length:=h.2.1;rw[hwn,yf]at J;have hns:n=s.length:=by
        have:=lB List.length hkt;rw[J,mF]at this;have h3:s.length=min n s.length:=this;omega
       have hkk2:k'=⟨1,s,0⟩:=by rw[<-S,J];rfl
       refine⟨by rw[hkk2];rfl,?_⟩;rw[hns];simp[fw]
      .omega
   .have hat:V=s.length:=by omega
    have gh0:=@M8;repeat' (first
     |(apply ai ?_;clear hK K)|apply Rx.o ?_|apply aN ?_|(apply aE (fun z Z=>?_) (fun z Z=>?_)<;>try(cases z;done))|apply ae ?_|(apply ah fun K hK=>?_)|apply aj ?_|apply ak ?_|apply am ?_|apply ax ?_)
    refine⟨aC,_,(by(try simp only[aK,aW,Nat.reduceBEq,Nat.reduceAdd,Nat.reduceLeDiff,tyF,bU,cc,Gc, *]);first|done|with_reducible rfl),?_⟩;try simp only[aB]
    refine⟨0,0,lv,rfl,o.set (.inl (aT _)) _,.inr ⟨rfl,ts,?_,Y,fun h=>?_⟩⟩
    .rcases I with h|⟨r,q1,q2,q3,q4,q5⟩
     .exact .inl h
     .exact .inr ⟨r,q1,by rw[aO,ad aa];exact q2,q3,q4,q5⟩
    .rcases hnm h with⟨_,q⟩|⟨q,_⟩
     .have:=h.1;have:=h.2.1;omega
     .exact q
  .refine⟨fw false s,[],.ab,rfl,hsp,eE,eE,eE,eE,(iu _ _).alloc _,bY,yL,.inl ⟨rfl,rfl⟩,aI,by simp[Bz],fun _=>rfl,fun h=>.inl ⟨rfl,VQ h⟩⟩
end
section
def tyW4j.tyF:=ac @cI (ac @cY (ac @rZ (ac @EF (ac @EG (ac @Bl (ac @dW (ac @List.flatMap_cons.{0,0} (ac @List.flatMap_nil.{0,0} (@tf)))))))))
open tyW4j
noncomputable def M9:{c:SC // aG 44 (f117.body.getD .skip)=c}:=by
 refine⟨?_,?_⟩;rotate_left
 .simp only[f117,bE,aG,bz,bq,bF,bB,Nat.blt,Nat.ble];rfl
noncomputable def Na:{c:SC // aG 15 (f118.body.getD .skip)=c}:=by
 refine⟨?_,?_⟩;rotate_left
 .simp only[f118,bE,aG,bz,bq,bF,bB,Nat.blt,Nat.ble];rfl
theorem Gd(hx:zdf cfg)(A:zc7 cfg 117)(s:qr)(hs:s.length<2^60)(H:Hp):
 aU prog cfg 117 [.ae s] H fun v H'=>v=.bool (cX s)/\FrB 0 H H':=by
 refine a5 (M:=44) (rs:=[.tmp 2]) (A.call _) A.ao A.am func117 rfl rfl M9.2 rfl ?_;dsimp only[M9,a3,Nat.reduceAdd];repeat' (first
  |(apply ai ?_;clear hK K)|apply Rx.o ?_|apply aN ?_|(apply aX (fun C Y=>?_) (fun C Y=>?_)<;>try(cases C;done))|(apply aE (fun z V=>?_) (fun z V=>?_)<;>try(cases z;done))|apply ae ?_|(apply ah fun K hK=>?_)|apply aj ?_|apply ak ?_|apply am ?_)
 refine qa ?_;refine a4 ?_ (Y9 hx s hs H);rintro v H2 ⟨j,Z,lv,rfl,J,S⟩;have hx1:Ab.extract (.aW [lv,.agg [.int .i64 j,.int .i64 Z]]) 0=some lv:=rfl;have hx2:Ab.extract (.aW [lv,.agg [.int .i64 j,.int .i64 Z]]) 1=some (.agg [.int .i64 j,.int .i64 Z]):=rfl;dsimp only[a0];have O:FrB 0 H ((H2.alloc qj).set H2.next (.cells [.int .i64 j,.int .i64 Z] 0 true)):=(J.alloc _).set (.inl J.next) _;rcases S with⟨h1,h2⟩|⟨rfl,ts,F,m,o⟩
 .have I:kB s=false:=by
   cases z:kB s with
   |false=>rfl
   |true=>exact(h2 ((BA s).1 z)).elim
  repeat' (first
   |(apply ai ?_;clear hK K)|apply Rx.o ?_|apply aN ?_|(apply aX (fun C Y=>?_) (fun C Y=>?_)<;>try(cases C;done))|(apply aE (fun z V=>?_) (fun z V=>?_)<;>try(cases z;done))|apply ae ?_|(apply ah fun K hK=>?_)|apply aj ?_|apply ak ?_|apply am ?_)
  all_goals refine qq ?_
  exact⟨Gb,O⟩
 .rcases F with⟨rfl,rfl⟩|⟨r,rfl,q2,q3,q4,q5⟩
  .have I:kB s=false:=by
    cases z:kB s with
    |false=>rfl
    |true=>have:=o ((BA s).1 z);simp at this
   repeat' (first
    |(apply ai ?_;clear hK K)|apply Rx.o ?_|apply aN ?_|(apply aX (fun C Y=>?_) (fun C Y=>?_)<;>try(cases C;done))|(apply aE (fun z V=>?_) (fun z V=>?_)<;>try(cases z;done))|apply ae ?_|(apply ah fun K hK=>?_)|apply aj ?_|apply ak ?_|apply am ?_)
   all_goals refine qq ?_
   exact⟨Gb,O⟩
  .have e1:(r == H2.next)=false:=by simp;omega
   by_cases hl:ts.length=1
   .obtain⟨k,rfl⟩:=List.length_eq_one_iff.1 hl;simp only[JA,List.flatMap_nil,iS]at q2;simp only[nL,bR]at hx1 hx2⊢;have U:tt s↔(k.ag=1/\k.text=s):=⟨fun h=>by have:=o h;simp only[ew,bb]at this;rw[this];exact⟨rfl,rfl⟩,fun h=>VS m h.1 h.2⟩;have I:kB s=(decide (k.ag=1)&&decide (k.text=s)):=by
     rw[Dt,BA,U];simp
    clear U o m;have hidx:eS prog 128 (.sl r 0 1 3) (.int .i64 0)=some (.ptr r 0):=aA;repeat' (first
     |(apply ai ?_;clear hK K)|apply Ry.o ?_|apply bP ?_|(apply cE (fun C Y=>?_) (fun C Y=>?_)<;>try(cases C;done))|(apply a2 (fun z V=>?_) (fun z V=>?_)<;>try(cases z;done))|apply ae ?_|(apply ah fun K hK=>?_)|apply aj ?_|apply ak ?_|apply am ?_)
    all_goals refine qq ?_
    all_goals (refine⟨?_,O⟩;simp only[cX,I,tu];simp_all)
   .have I:kB s=false:=by
     cases z:kB s with
     |false=>rfl
     |true=>have:=o ((BA s).1 z);rw[this]at hl;simp at hl
    have hl2:decide ((ts.length:Int)=1)=false:=ce;repeat' (first
     |(apply ai ?_;clear hK K)|apply Rx.o ?_|apply aN ?_|(apply aX (fun C Y=>?_) (fun C Y=>?_)<;>try(cases C;done))|(apply aE (fun z V=>?_) (fun z V=>?_)<;>try(cases z;done))|apply ae ?_|(apply ah fun K hK=>?_)|apply aj ?_|apply ak ?_|apply am ?_)
    all_goals refine qq ?_
    exact⟨Gb,O⟩
end
section
def tyW4k.tyF:=ac @cI (ac @cY (ac @dW (ac @dF (ac @dX (@dy)))))
open tyW4k
noncomputable def Nb:{c:SC // aG 23 (f163.body.getD .skip)=c}:=by
 refine⟨?_,?_⟩;rotate_left
 .simp only[f163,bE,aG,bz,bq,bF,bB,Nat.blt,Nat.ble];rfl
noncomputable def Nc:{c:SC // aG 27 (f196.body.getD .skip)=c}:=by
 refine⟨?_,?_⟩;rotate_left
 .simp only[f196,bE,aG,bz,bq,bF,bB,Nat.blt,Nat.ble];rfl
noncomputable def CC:{c:SC // aG 10 (f165.body.getD .skip)=c}:=by
 refine⟨?_,?_⟩;rotate_left
 .simp only[f165,bE,aG,bz,bq,bF,bB,Nat.blt,Nat.ble];rfl
def tW(k J:Int):Bool:=if k=20\/k=21 then decide (J=1)else decide (4<=k)&&decide (k<=18)&&decide (J=2)
theorem Za(Z:zc7 cfg 163)(k J:Int)(H:Hp):
 aU prog cfg 163 [.int .i64 k,.int .i64 J] H fun v H'=>v=.bool (tW k J)/\H'=H:=by
 refine a5 (M:=23) (rs:=[.tmp 4]) (Z.call _) Z.ao Z.am func163 rfl rfl Nb.2 rfl ?_;dsimp only[Nb,a3,Nat.reduceAdd];repeat' (first
  |(apply ai ?_;clear hK K)|apply Rx.o ?_|(apply aX (fun C Y=>?_) (fun C Y=>?_)<;>try(cases C;done))|(apply aE (fun z V=>?_) (fun z V=>?_)<;>try(cases z;done))|apply ae ?_|(apply ah fun K hK=>?_)|apply ak ?_|apply am ?_)
 all_goals
  all_goals refine qq ?_
 all_goals (refine⟨?_,fT⟩;simp_all[tW]<;>omega)
theorem Zb(J:zc7 cfg 196)(x:Ex)(H:Hp):
 aU prog cfg 196 [.agg x.cells] H fun v H'=>v=.bool (zeroE x)/\FrB 0 H H':=by
 refine a5 (M:=27) (rs:=[.tmp 2]) (J.call _) J.ao J.am func196 rfl rfl Nc.2 rfl ?_;dsimp only[Nc,a3,Nat.reduceAdd];repeat' (first
  |(apply ai ?_;clear hK K)|apply Rx.o ?_|(apply aX (fun C Y=>?_) (fun C Y=>?_)<;>try(cases C;done))|apply ae ?_|(apply ah fun K hK=>?_)|apply am ?_)
 all_goals
  all_goals refine qq ?_
 all_goals (refine⟨?_,(iu _ _).alloc _⟩;simp_all[zeroE])
def mw(s:qr)(U:Bool):Bool:=if U then cX s else decide (s=[])
def Zc(O:zdf cfg)(Z:zc7 cfg 117)(J:zc7 cfg 165)(s:qr)(U:Bool)(S:s.length<2^60)(H:Hp):
 aU prog cfg 165 [.ae s,.bool U] H fun v H'=>v=.bool (mw s U)/\FrB 0 H H':=by
 cases U
 .refine a5 (M:=10) (rs:=[.tmp 4]) (J.call _) J.ao J.am func165 rfl rfl CC.2 rfl ?_;dsimp only[CC,a3,Nat.reduceAdd];repeat' (first
   |(apply ai ?_;clear hK K)|apply Rx.o ?_|(apply aE (fun z V=>?_) (fun z V=>?_)<;>try(cases z;done))|apply ae ?_|(apply ah fun K hK=>?_)|apply ak ?_|apply am ?_)
  all_goals refine qq ?_
  exact⟨by simp[mw],iu _ _⟩
 .refine a5 (M:=10) (rs:=[.tmp 4]) (J.call _) J.ao J.am func165 rfl rfl CC.2 rfl ?_;dsimp only[CC,a3,Nat.reduceAdd];repeat' (first
   |(apply ai ?_;clear hK K)|apply Rx.o ?_|(apply aE (fun z V=>?_) (fun z V=>?_)<;>try(cases z;done))|apply ae ?_|(apply ah fun K hK=>?_)|apply ak ?_|apply am ?_)
  refine qa ?_;refine a4 ?_ (Gd O Z s S H);rintro v Y ⟨rfl,o⟩;dsimp only[a0];repeat' (first
   |(apply ai ?_;clear hK K)|apply Rx.o ?_|(apply aE (fun z V=>?_) (fun z V=>?_)<;>try(cases z;done))|apply ae ?_|(apply ah fun K hK=>?_)|apply ak ?_|apply am ?_)
  all_goals refine qq ?_
  exact⟨by simp[mw],o⟩
theorem Zd(U:zdf cfg)(S:zc7 cfg 117)(J:zc7 cfg 118)(l:qo)(m:db l<2^60)(H:Hp):
 aU prog cfg 118 [cD l] H fun v H'=>v=.bool (l.all cX)/\FrB 0 H H':=by
 have hl:l.length<2^60:=by have:=ig l;omega
 refine a5 (M:=15) (rs:=[.tmp 2]) (J.call _) J.ao J.am func118 rfl rfl Na.2 rfl ?_;dsimp only[Na,a3,Nat.reduceAdd];repeat' (first
  |(apply ai ?_;clear hK K)|apply Rx.o ?_|(apply aE (fun z V=>?_) (fun z V=>?_)<;>try(cases z;done))|apply ae ?_|(apply ah fun K hK=>?_)|apply aj ?_|apply ak ?_|apply am ?_|apply ax ?_)
 refine jU (fun i E Y=>l.all cX=(l.drop i).all cX/\E.at 5=.ai (l.map fun s=>[.ae s])/\E.at 6=.int .i64 l.length/\E.at 7=.int .i64 i/\FrB 0 H Y) l.length ?_ ?_
 .rintro i E Y I ⟨hc,h5,h6,h7,o⟩;repeat' (first
   |(apply ai ?_;clear hK K)|apply Rx.o ?_|(apply aE (fun z V=>?_) (fun z V=>?_)<;>try(cases z;done))|apply ae ?_|(apply ah fun K hK=>?_)|apply aj ?_|apply ak ?_|apply am ?_|apply ax ?_)
  .have Z:i<l.length:=by simpa using z
   have F:l[i]?=some l[i]:=bt Z;have A:=Bw (ek Z);have j:(l.drop i).all cX=(cX l[i]&&(l.drop (i+1)).all cX):=zl;repeat' (first
    |(apply ai ?_;clear hK K)|apply Rx.o ?_|(apply aE (fun z V=>?_) (fun z V=>?_)<;>try(cases z;done))|apply ae ?_|(apply ah fun K hK=>?_)|apply aj ?_|apply ak ?_|apply am ?_|apply ax ?_)
   refine qa ?_;refine a4 ?_ (Gd U S l[i] aa Y);rintro v H3 ⟨rfl,O⟩;dsimp only[a0];repeat' (first
    |(apply ai ?_;clear hK K)|apply Rx.o ?_|(apply aE (fun z V=>?_) (fun z V=>?_)<;>try(cases z;done))|apply ae ?_|(apply ah fun K hK=>?_)|apply aj ?_|apply ak ?_|apply am ?_|apply ax ?_)
   .all_goals refine qq ?_
    exact⟨by rw[hc,j];simp_all,o.trans O⟩
   .refine⟨Z,by rw[hc,j];simp_all,eE,eE,?_,o.trans O⟩;simp only[gc,Nat.reduceBEq,fF,ft (show i<2^62 by omega)]
  .all_goals refine qq ?_
   have C:i=l.length:=r3;exact⟨by rw[hc,C];simp,o⟩
 .exact⟨aI,eE,eE,eE,iu _ _⟩
end
variable(ρ:Nat->Int)
section
def tyP4a.tyF:=ac @dF (ac @cI (ac @cY (ac @dX (ac @dy (ac @IY (@Jl))))))
open tyP4a
noncomputable def Nf:{c:SC // aG 27 (f164.body.getD .skip)=c}:=by
 refine⟨?_,?_⟩;rotate_left
 .simp only[f164,bE,aG,bz,bq,bF,bB,Nat.blt,Nat.ble];rfl
noncomputable def Ng:{c:SC // aG 87 (f120.body.getD .skip)=c}:=by
 refine⟨?_,?_⟩;rotate_left
 .simp only[f120,bE,aG,bz,bq,bF,bB,Nat.blt,Nat.ble];rfl
noncomputable def CD:{c:SC // aG 10 (f166.body.getD .skip)=c}:=by
 refine⟨?_,?_⟩;rotate_left
 .simp only[f166,bE,aG,bz,bq,bF,bB,Nat.blt,Nat.ble];rfl
theorem Ze(h:∀f,f∈[217,214,212,194,215,213,195,162]->(∀j,dD l f j=none)/\ir l f=false):zdf (aF pls l) where
 let_:=dZ (h _ aI).1 (h _ aI).2
 dig:=dZ (h _ aI).1 (h _ aI).2
 f5:=dZ (h _ aI).1 (h _ aI).2
 fL:=dZ (h _ aI).1 (h _ aI).2
 num:=dZ (h _ aI).1 (h _ aI).2
 eb:=dZ (h _ aI).1 (h _ aI).2
 e9:=dZ (h _ aI).1 (h _ aI).2
 scan:=dZ (h _ aI).1 (h _ aI).2
 bI _:=by first|rfl|kernel_rfl
 aj:=rfl
def Ge:zdf (aF pls []):=Ze fun f _=>⟨fun _=>rfl,rfl⟩
def Zf(s:qr)(S:s.length<2^60):bJ prog ρ 117 [.ae s] (.bool (cX s)):=
 eG fit (pls:=pls) (l:=[]) trivial (.cons (.ae _) .nil) (.bool _) (a4 (fun v H h=>h.1) (Gd Ge (eZ _) s S bV))
def Zg(x:Int×Nat):bJ prog ρ 163 [.int .i64 x.1,.int .i64 x.2] (.bool (tW x.1 x.2)):=
 eG fit (pls:=pls) (l:=[]) trivial (.cons (.int _ _) (.cons (.int _ _) .nil)) (.bool _) (a4 (fun v H h=>h.1) (Za (eZ _) x.1 x.2 bV))
def Zh(x:Ex):bJ prog ρ 196 [.agg x.cells] (.bool (zeroE x)):=
 eG fit (pls:=pls) (l:=[]) trivial (.cons (.agg x.pure) .nil) (.bool _) (a4 (fun v H h=>h.1) (Zb (eZ _) x bV))
def Zi(l:qo)(K:db l<2^60):bJ prog ρ 118 [cD l] (.bool (l.all cX)):=
 eG fit (pls:=pls) (l:=[]) trivial (.cons (tq _) .nil) (.bool _) (a4 (fun v H h=>h.1) (Zd Ge (eZ _) (eZ _) l K bV))
def Zj(s:qr)(w:Bool)(S:s.length<2^60):bJ prog ρ 165 [.ae s,.bool w] (.bool (mw s w)):=
 eG fit (pls:=pls) (l:=[]) trivial (.cons (.ae _) (.cons (.bool _) .nil)) (.bool _) (a4 (fun v H h=>h.1) (Zc Ge (eZ _) (eZ _) s w S bV))
def vD(k:Int):List Bool:=
 if k=1 then [true,false,false,false,true,false,false,false]
 else if k=2 then [true,false,false,true,true,false,false,false]
 else if k=3 then [false,false,false,false,true,false,true,true]
 else if k=4 then [false,false,false,false,true,false,true,false]
 else if k=5 then [false,false,false,false,true,false,false,false]
 else if k=6 then [true,true,false,false,false,true,false,false]
 else if k=7 then [false,false,true,false,false,false,false,false]
 else [false,false,false,false,false,false,false,false]
def j7(k:Int):Bool:=decide (1<=k)&&decide (k<=7)
def xh(k:Int):AV:=.aW [.agg ((vD k).map .bool),.bool (j7 k)]
theorem Zk(a b c d e f g h:AV):cH 8 [a,b,c,d,e,f,g,h]=some (.agg [a,b,c,d,e,f,g,h]):=rfl
theorem Zl(k:Int):bJ prog ρ 164 [.int .i64 k] (xh k):=eG fit (pls:=pls) (l:=[]) trivial (.cons (.int _ _) .nil) (.aW (.cons (.agg fun v U=>by
 obtain⟨b,_,rfl⟩:=l3.1 U;exact .bool b) (.cons (.bool _) .nil))) (by
 have J:=eZ 164;have F:cQ prog 223 [(0,.bool true),(4,.bool true)]=some (.agg [.bool true,.bool false,.bool false,.bool false,.bool true,.bool false,.bool false,.bool false]):=aA;have Z:cQ prog 223 [(0,.bool true),(3,.bool true),(4,.bool true)]=some (.agg [.bool true,.bool false,.bool false,.bool true,.bool true,.bool false,.bool false,.bool false]):=aA;have O:cQ prog 223 [(4,.bool true),(6,.bool true),(7,.bool true)]=some (.agg [.bool false,.bool false,.bool false,.bool false,.bool true,.bool false,.bool true,.bool true]):=aA;have m:cQ prog 223 [(4,.bool true),(6,.bool true)]=some (.agg [.bool false,.bool false,.bool false,.bool false,.bool true,.bool false,.bool true,.bool false]):=aA;have j:cQ prog 223 [(4,.bool true)]=some (.agg [.bool false,.bool false,.bool false,.bool false,.bool true,.bool false,.bool false,.bool false]):=aA;have Y:cQ prog 223 [(0,.bool true),(1,.bool true),(5,.bool true)]=some (.agg [.bool true,.bool true,.bool false,.bool false,.bool false,.bool true,.bool false,.bool false]):=aA;have A:cQ prog 223 [(2,.bool true)]=some (.agg [.bool false,.bool false,.bool true,.bool false,.bool false,.bool false,.bool false,.bool false]):=aA;have S:cQ prog 223 []=some (.agg [.bool false,.bool false,.bool false,.bool false,.bool false,.bool false,.bool false,.bool false]):=aA;refine a5 (M:=27) (rs:=[.cell 2 223,.tmp 3]) (J.call _) J.ao J.am func164 rfl rfl Nf.2 rfl ?_;dsimp only[Nf,a3,Nat.reduceAdd];repeat' (first
  |(apply ai ?_;clear hK K)|apply Rx.o ?_|apply aN ?_|(apply aE (fun z V=>?_) (fun z V=>?_)<;>try(cases z;done))|apply ae ?_|(apply ah fun K hK=>?_)|apply aj ?_|apply ak ?_|apply am ?_)
 all_goals
  refine⟨aC,_,(by(try simp only[aK,aW,Nat.reduceBEq,Nat.reduceAdd,Nat.reduceLeDiff,tyF,bU,cc,Zk, *]);first|done|with_reducible rfl),?_⟩;try simp only[aB]
 all_goals
  first
  |(simp_all[xh,vD,j7];done)
  |(have I:j7 k=false:=by
     simp only[j7,wC,iX];omega
    simp_all[xh,vD];done))
theorem Zm(k:Int)(n:Nat):tW k n=((decide ((n:Int)=2)&&p9 k)||(decide ((n:Int)=1)&&(decide (k=20)||decide (k=21)))):=by
 unfold tW p9;by_cases h:k=20\/k=21
 .rw[au h];rcases h with rfl|rfl<;>simp
 .rw[ad h];have j:¬k=20:=fun e=>h (.inl e);have m:¬k=21:=fun e=>h (.inr e);simp only[j,m,jC,nW,Fb];cases decide (4<=k)<;>cases decide (k<=18)<;>cases decide ((n:Int)=2)<;>rfl
noncomputable def zp:En:=⟨117,false,bS (fun s=>s.length<2^60) md fun s=>.bool (cX s)⟩
def Nh:cS prog ρ zp:=cZ fun x hx=>Zf ρ x hx
def zq(x:Int×Nat):qm:=[.int .i64 x.1,.int .i64 x.2]
def Zn(x y:Int×Nat)(h:zq x=zq y):x=y:=by
 simp only[zq,ew,AV.int.injEq,iw]at h;exact pc h.1 aa
noncomputable def zr:En:=⟨163,false,bS (fun _=>True) zq fun x=>.bool (tW x.1 x.2)⟩
def Ni:cS prog ρ zr:=cZ fun x _=>Zg ρ x
noncomputable def Nj:En:=⟨196,false,bS (fun _=>True) i4 fun x=>.bool (zeroE x)⟩
def Zo:cS prog ρ Nj:=cZ fun x _=>Zh ρ x
def Zp(O:∀Z,dD l 117 Z=zp.sp Z)(F:∀Z,dD l 163 Z=zr.sp Z)(S:(∀Z,dD l 120 Z=none)/\ir l 120=false){base:Nat}{I:Hp->Prop}(A:tV base I):
 xd (aF pls l) base I 120 [] fun x _=>ml x:=by
 intro x d H hz Y o;have J:zc7 (aF pls l) 120:=dZ S.1 S.2;have m:∀s:qr,s.length<2^60->∀H,aU prog (aF pls l) 117 [.ae s] H fun v H'=>v=.bool (cX s)/\H'=H:=fun s j H=>cp (enc:=md) (out:=fun x=>.bool (cX x)) vh (x:=s) (O _) j;have ko:∀(k:Int) (n:Nat),∀H,aU prog (aF pls l) 163 [.int .i64 k,.int .i64 n] H fun v H'=>v=.bool (tW k n)/\H'=H:=fun k n H=>cp (enc:=zq) (out:=fun x=>.bool (tW x.1 x.2)) Zn (x:=(k,n)) (F _) trivial;have hsz:=x.aJ;refine a5 (M:=87) (rs:=[.tmp 4]) (J.call _) J.ao J.am func120 rfl rfl Ng.2 rfl ?_;dsimp only[Ng,a3,Nat.reduceAdd];repeat' (first
  |(apply ai ?_;clear hK K)|apply Rx.o ?_|(apply dJ ?_;first|refine aY (m _ aa _) ?_|refine aY (ko _ _ _) ?_)|(apply aX (fun C V=>?_) (fun C V=>?_)<;>try(cases C;done))|(apply aE (fun z U=>?_) (fun z U=>?_)<;>try(cases z;done))|apply ae ?_|(apply ah fun K hK=>?_)|apply aj ?_|apply ak ?_|apply am ?_)
 all_goals
  all_goals refine qq ?_
  refine⟨?_,(iu _ _).alloc _,A _ _ o ((oZ _ _).alloc Y _)⟩;rw[ml];(try rw[Zm]);(try simp only[cq]at *);simp only[ *,cr,bw,bH,Int.reduceEq]
end
end Go.Proofs.YtbflaciihaijgaaGreat
