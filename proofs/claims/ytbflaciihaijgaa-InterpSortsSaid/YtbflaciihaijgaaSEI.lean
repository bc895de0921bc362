/- Lemmas for the last file. -/
import Derived.Test.YtbflaciihaijgaaSEH
set_option linter.all false
set_option maxHeartbeats 32000000
namespace Go.Ab
set_option maxRecDepth 20000
open Go
variable{qb:Prop}
def yY(h:qb:=by simp only[fJ,Bool.or_eq_false_iff,decide_eq_false_iff_not];omega):=h
def r8(h:qb:=by rw[e];exact F):=h
def uB(h:qb:=by first|omega|exact bO):=h
def yZ:=@List.set_eq_take_append_cons_drop
def uC:=@List.getD_eq_getElem?_getD
end Go.Ab
namespace Go.Proofs.Ytbflaciihaijgaa
set_option maxRecDepth 20000
open Go Go.Ab Proofs.Try
variable{n O b i z:Nat}{K H I:Hp}{v:AV}{cs:qh}{l:qn}{C:List qh}
section
def tyPzH.tyF:=ac @fE (ac @dF (ac @eV (ac @iT (ac @gV (ac @gy (ac @lr (ac @jC (ac @mA (ac @jD (ac @lw (@lB)))))))))))
open tyPzH
noncomputable def y5:{c:SC // aI 89 (f29.body.getD .skip)=c}:=by
 refine⟨?_,?_⟩;rotate_left
 .simp only[f29,bQ,aI,bL,bB,bV,bW,Nat.blt,Nat.ble];rfl
def uD(H:Hp)(s:qi):eu prog H 60 1 [(0,.ad s)]=some (.sl H.next 0 1 1,H.alloc (.cells [.ad s] 0 true)):=az
theorem y6(c0 c1 c2 c3 c4 c5 c6 c7 F:AV):b8 9 [c0,c1,c2,c3,c4,c5,c6,c7,F]=some (.agg [c0,c1,c2,c3,c4,c5,c6,c7,F]):=rfl
abbrev lM(l:List qi):List qh:=l.map fun s=>[AV.ad s]
def uE{M:Nat}{l:List qi}(h:br (fun k=>M<=k) n K 1 v (lM l))(V:M<=K.next)(L:l.length<2^21)(s:qi):
 ∃Y K',dh prog false (K.alloc (.cells [.ad s] 0 true)) 60 60 v (.sl K.next 0 1 1)=some (Y,K')/\br (fun k=>M<=k) (n+1) K' 1 Y (lM (l++[s]))/\K.next+1<=K'.next/\∀k,k<M->K'.get k=K.get k:=by
 obtain⟨W,S,dz,J,C,O,F⟩:=br.push (P:=prog) (t:=60) underlying60 tQ xc xd rfl az ((h.up (fB n)).az (S':=fun k=>M<=k) (H':=K.alloc (.cells [.ad s] 0 true)) (fun _ _ h=>h) (fB _) fun k _ A=>hZ) (Nat.le_succ_of_le V) (r:=K.next) (imm:=0) (row:=[.ad s]) (w:=[.ad s]) gK rfl rfl (.dP s) iZ iZ;refine⟨W,S,dz,by rw[lM,iO];exact J,by rw[C,cb];omega,fun k A=>?_⟩;rw[O k (by rw[cb];omega) fun o m I e=>?_,aP,aw aa];rcases h with⟨Z,_⟩|⟨q',imm,U,Z,e1,e2,_⟩
 .rw[Z]at e;cases e
 .rw[Z]at e;simp only[AV.sl.injEq]at e;omega
def F7{M:Nat}{U:Hp}{l:qw}{s:St}(h:br (fun k=>M<=k) n K 17 v (l.map St.cells))(hM:M<=K.next)(hl:l.length<2^21)(hn:K.next<=U.next)(hf:∀k,M<=k->k<K.next->U.get k=K.get k)(S:cs.length=17)(Z:cs.all AV.one=true)(Y:bp (fun k=>K.next<=k) O U cs s.cells):
 ∃C K',dh prog false (U.alloc (.cells cs 0 true)) 61 61 v (.sl U.next 0 1 17)=some (C,K')/\br (fun k=>M<=k) (max n O) K' 17 C ((l++[s]).map St.cells)/\U.next+1<=K'.next/\∀k,k<M->K'.get k=U.get k:=by
 have F:∀q o m V,v=.sl q o m V->M<=q/\q<K.next:=fun q o m V e=>by
  rcases h with⟨J,_⟩|⟨q',imm,A,J,e1,e2,_⟩
  .rw[J]at e;cases e
  .rw[J]at e;simp only[AV.sl.injEq]at e;rw[<-e.1];exact⟨e1,e2⟩
 have I:br (fun q=>M<=q) (max n O) (U.alloc (.cells cs 0 true)) 17 v (l.map St.cells):=(h.up aa).az (fun q _ h=>h) dW fun q W L=>by rw[aP,aw aa,hf q W L]
 obtain⟨v5,H5,dz,s5,n5,f5,q5⟩:=br.push (P:=prog) (t:=61) underlying61 rQ tT tU rfl az I dW (r:=U.next) (imm:=0) (row:=cs) (w:=s.cells) gK S Z ((Y.up aa).ao (fun q W L=>⟨aa,fun o m V e=>by have:=(F q o m V e).2;omega⟩) (fB _) fun q W L=>hZ) iZ iZ;refine⟨v5,H5,dz,by rw[iO];exact s5,by rw[n5,cb];omega,fun k hk=>?_⟩;rw[f5 k (by rw[cb];omega) (fun o m V e=>by have:=(F k o m V e).1;omega),aP,aw aa]
def SqZ.dH{en:Int}{Y:qh}{M:Nat}(h:SqZ l en b H Y i cs K)(V:H.next+2<=M)(S:K.next<=I.next)(Z:∀k,k<M->I.get k=K.get k):SqZ l en b H Y i cs I:=by
 have C:=h.hb;exact⟨(Z b aa).trans h.gb,(Z _ aa).trans h.gz,(Z _ aa).trans h.g3,C,by have:=h.nx;omega,h.le,fun k m o=>(Z k aa).trans (h.dQ k m o)⟩
def dZ(H:Hp)(M:Nat)(K I:Hp):Prop:=K.next<=I.next/\∀k,H.next+1<k->k<M->I.get k=K.get k
def ch.M{M:Nat}(h:ch H K I)(V:M<=K.next):dZ H M K I:=⟨h.1,fun k m o=>h.2 k m aa⟩
def dZ.trans{W:Hp}{M:Nat}(h:dZ H M K I)(U:dZ H M I W):dZ H M K W:=⟨dB h.1 U.1,fun k m o=>(U.2 k m o).trans (h.2 k m o)⟩
def dZ.of{M:Nat}(S:K.next<=I.next)(Z:∀k,k<O->I.get k=K.get k)(V:M<=O):dZ H M K I:=⟨S,fun k _ o=>Z k aa⟩
def dZ.le{M:Nat}(h:dZ H M K I)(V:O<=M):dZ H O K I:=⟨h.1,fun k m o=>h.2 k m aa⟩
def bX.fm{M:Nat}{c w:AV}(h:bX (fun k=>H.next+1<k/\k<M) n K c w)(f:dZ H M K I):bX (fun k=>H.next+1<k/\k<M) n I c w:=h.az (fun _ h=>h) f.1 fun k m _=>f.2 k m.1 m.2
theorem br.done{M:Nat}(h:br (fun k=>M<=k) n K z v C)(V:H.next+2<=M):bX (fun k=>H.next+1<k/\k<K.next) (n+1) K v (.af C):=h.rd.ao (fun k m o=>⟨aa,m⟩) (aA _) fun _ _ _=>rfl
def br.fq{M:Nat}(h:br (fun k=>M<=k) n K z v C)(V:H.next+2<=M)(f:ch H K I):br (fun k=>M<=k) n I z v C:=h.az (fun _ _ h=>h) f.1 fun k m o=>f.2 k aa o
def F8(l:qn)(m i:Nat)(S:List qi):li l (m+1) i S=if a3 l i 0 [41]then some (S,i)else (if S.length=0 then some i else bY l i [44]).bind fun i=>(fk l i).bind fun s=>li l m s.2 (S++[s.1]):=by rw[li]
def F9(l:qn)(m i:Nat)(S:List qi):lj l (m+1) i S=if a3 l i 0 [44]then (fk l (i+1)).bind fun s=>lj l m s.2 (S++[s.1])else some (S,i):=by rw[lj]
def Ga(tb:qs)(l:qn)(en:Int)(b:Nat)(i:Nat)(r:Fu×Nat):Prop:=∀H:Hp,zak l en b i H->aL prog (a1 pls tb) 29 [.ptr b 0] H (i9 9 l en b H r.1.cells r.2)
abbrev qg:HB:=.cells [.ad [],.ab,.ab,.ab,.int .i64 0,.int .i64 0,.ad [],.int .i64 0,.ab] 0 true
set_option maxRecDepth 100000 in
theorem Gb{tb:qs}(I:PzL tb){en:Int}(A:l.length<2^40){r:Fu×Nat}(hn20:n<2^20)(hi:i<=l.length)(h:rH l n i=some r):Ga tb l en b i r:=by
 intro H hP;have hw:zac (a1 pls tb) 29:=I.plain dH;have hkeep:(a1 pls tb).az 29=false:=rfl;have hbn:=hP.lt;have m1:(H.next+1 == H.next)=false:=bH aa;have m2:(H.next == H.next+1)=false:=bH aa;have m3:(H.next+1 == b)=false:=bH aa;have m4:(b == H.next+1)=false:=bH aa;generalize hHa:(H.alloc qg).alloc qg=K0;have Q0:SqZ l en b H [.ad [],.ab,.ab,.ab,.int .i64 0,.int .i64 0,.ad [],.int .i64 0,.ab] i [.ad [],.ab,.ab,.ab,.int .i64 0,.int .i64 0,.ad [],.int .i64 0,.ab] K0:=uu;refine bz (M:=89) (rs:=[.cell 2 63]) (hw.call _) hw.aB hw.an func29 rfl rfl y5.2 rfl ?_;dsimp only[y5,ba,Nat.reduceAdd];repeat' (first
  |(apply ai ?_;clear hK K)|apply Rx.o ?_|apply aU ?_|(apply bt (fun C Z=>?_) (fun C Z=>?_)<;>try(cases C;done))|apply ag ?_|(apply ah fun K hK=>?_)|(apply ad 7 [(1,3),(1,5),(4,5)] fun K hK=>?_)|(apply ad 11 [(1,3),(1,5),(4,5)] fun K hK=>?_)|(apply ad 14 [(1,3),(1,5),(4,5)] fun K hK=>?_)|(apply ad 17 [(1,3),(1,5),(4,5)] fun K hK=>?_)|(apply aG ?_;try intro _)|(apply aH ?_ ?_<;>clear hK K)|apply aF ?_|apply a9 rfl ?_|apply au ?_|apply aj ?_|apply aq ?_|apply aB ?_)
 rw[hHa];clear hHa;unfold rH at h;obtain⟨⟨nm,i0⟩,hq,h⟩:=aX.1 h;obtain⟨i1,e1,h⟩:=aX.1 h;obtain⟨⟨ps,i2⟩,O,h⟩:=aX.1 h;obtain⟨i3,e3,h⟩:=aX.1 h;obtain⟨⟨vs,i4⟩,L,h⟩:=aX.1 h;obtain⟨i5,e5,h⟩:=aX.1 h;obtain⟨⟨bo,i6⟩,W,h⟩:=aX.1 h;obtain⟨i7,e7,h⟩:=aX.1 h;obtain⟨c,hc,h⟩:=aX.1 h;obtain⟨i8,e8,h⟩:=aX.1 h;obtain⟨j,e9,rfl⟩:=dC.1 h;clear h;simp only[]at *;refine qa ?_;refine aR ?_ (lL I Q0.gb A hq);rintro v K1 ⟨rfl,p⟩;have Q1:=Q0.call p;clear p Q0;dsimp only[aJ];have g3:=Q1.g3;repeat' (first
  |(apply ai ?_;clear hK K)|apply Rx.o ?_|apply aU ?_|(apply bt (fun C Z=>?_) (fun C Z=>?_)<;>try(cases C;done))|apply ag ?_|(apply ah fun K hK=>?_)|(apply ad 7 [(1,3),(1,5),(4,5)] fun K hK=>?_)|(apply ad 11 [(1,3),(1,5),(4,5)] fun K hK=>?_)|(apply ad 14 [(1,3),(1,5),(4,5)] fun K hK=>?_)|(apply ad 17 [(1,3),(1,5),(4,5)] fun K hK=>?_)|(apply aG ?_;try intro _)|(apply aH ?_ ?_<;>clear hK K)|apply aF ?_|apply a9 rfl ?_|apply au ?_|apply aj ?_|apply aq ?_|apply aB ?_)
 generalize hK:Hp.set K1 _ _=K2;have f2:ch H K1 K2:=fH;have Q2:=Q1.put [.ad nm,.ab,.ab,.ab,.int .i64 0,.int .i64 0,.ad [],.int .i64 0,.ab];rw[hK]at Q2;clear hK;clear g3 f2 Q1;refine qa ?_;refine aR ?_ (dy I Q2.gb A e1);rintro v K3 p;have f3:=Q2.frC p;have Q3:=Q2.call p;clear p;dsimp only[aJ];repeat' (first
  |(apply ai ?_;clear hK K)|apply Rx.o ?_|apply aU ?_|(apply bt (fun C Z=>?_) (fun C Z=>?_)<;>try(cases C;done))|apply ag ?_|(apply ah fun K hK=>?_)|(apply ad 7 [(1,3),(1,5),(4,5)] fun K hK=>?_)|(apply ad 11 [(1,3),(1,5),(4,5)] fun K hK=>?_)|(apply ad 14 [(1,3),(1,5),(4,5)] fun K hK=>?_)|(apply ad 17 [(1,3),(1,5),(4,5)] fun K hK=>?_)|(apply aG ?_;try intro _)|(apply aH ?_ ?_<;>clear hK K)|apply aF ?_|apply a9 rfl ?_|apply au ?_|apply aj ?_|apply aq ?_|apply aB ?_)
 clear Q2 f3;have nx3:=Q3.nx;refine lC [0,2,3] [] (fun V E K=>∃(S:List qi) (o n4:Nat) (pv:AV),V<=n/\li l V o S=some (ps,i2)/\SqZ l en b H [.ad [],.ab,.ab,.ab,.int .i64 0,.int .i64 0,.ad [],.int .i64 0,.ab] o [.ad nm,pv,.ab,.ab,.int .i64 0,.int .i64 0,.ad [],.int .i64 0,.ab] K/\br (fun k=>H.next+2<=k) n4 K 1 pv (lM S)/\S.length+V<=n) n ⟨[],i1,0,.ab,aA _,O,Q3,.inl ⟨rfl,rfl⟩,aK⟩ ?_;clear O Q3 nx3;rintro V E4 K4 hcE hrH hnH ⟨S,o,n4,pv,hnn,O,Q4,rw4,hlen⟩;(try simp only[em,ep,df,a2,bG,Nat.reduceBEq,Nat.reduceAdd,Nat.reduceLeDiff,tyF, *]at hcE);clear hrH;cases V with
 |zero=>rw[li]at O;cases O
 |succ V=>
 rw[F8]at O;have hi':=Q4.le;have nx4:=Q4.nx;have ko:=jI I Q4.gb;have ka:aL prog (a1 pls tb) 25 [.ptr b 0,.int .i64 0,.ad [41]] K4 fun v H'=>v=.bool (a3 l o 0 [41])/\H'=K4:=fI I Q4.gb A aa 0 bO [41];split at O;rotate_left
 .rename_i h41;have h41:a3 l o 0 [41]=false:=by simpa using h41
  obtain⟨i'',hi2,O⟩:=aX.1 O;obtain⟨s,hs,O⟩:=aX.1 O;obtain⟨opv,cpv⟩:=rw4.one;have g3:=Q4.g3;have hln:=fun K=>rw4.len (H':=K) underlying60;rw[ki]at hln;repeat' (first
   |(apply ai ?_;clear hK K)|apply Ry.o ?_|apply aY ?_|(apply bu ?_;first|refine Rx.k (ko) ?_|refine Rx.k (ka) ?_)|(apply a6 (fun Y U=>?_) (fun Y U=>?_)<;>try(cases Y;done))|apply ag ?_|(apply ah fun K hK=>?_)|(apply ad 7 [(1,3),(1,5),(4,5)] fun K hK=>?_)|(apply ad 11 [(1,3),(1,5),(4,5)] fun K hK=>?_)|(apply ad 14 [(1,3),(1,5),(4,5)] fun K hK=>?_)|(apply ad 17 [(1,3),(1,5),(4,5)] fun K hK=>?_)|(apply aG ?_;try intro _)|(apply aH ?_ ?_<;>clear hK K)|apply aF ?_|apply a9 rfl ?_|apply au ?_|apply aj ?_|apply aq ?_|apply aB ?_)
  (apply bt (fun C Z=>?_) (fun C Z=>?_)<;>try(cases C;done));repeat' (first
   |(apply ai ?_;clear hK K)|apply Rx.o ?_|apply aU ?_|apply ag ?_|(apply ah fun K hK=>?_)|(apply ad 7 [(1,3),(1,5),(4,5)] fun K hK=>?_)|(apply ad 11 [(1,3),(1,5),(4,5)] fun K hK=>?_)|(apply ad 14 [(1,3),(1,5),(4,5)] fun K hK=>?_)|(apply ad 17 [(1,3),(1,5),(4,5)] fun K hK=>?_)|(apply aG ?_;try intro _)|(apply aH ?_ ?_<;>clear hK K)|apply aF ?_|apply a9 rfl ?_|apply au ?_|apply aj ?_|apply aq ?_|apply aB ?_)
  refine yR (fun E' K5=>E'.at 0=.ptr b 0/\E'.at 2=.ptr H.next 0/\E'.at 3=.ptr (H.next+1) 0/\SqZ l en b H [.ad [],.ab,.ab,.ab,.int .i64 0,.int .i64 0,.ad [],.int .i64 0,.ab] i'' [.ad nm,pv,.ab,.ab,.int .i64 0,.int .i64 0,.ad [],.int .i64 0,.ab] K5/\ch H K4 K5) ?_ ?_
  .by_cases h0:S.length=0
   .rw[aD h0]at hi2;obtain rfl:=io hi2;have h0':¬(0:Int)<(S.length:Int):=aa;repeat' (first
     |(apply ai ?_;clear hK K)|apply Ry.o ?_|apply aY ?_|(apply a6 (fun Y U=>?_) (fun Y U=>?_)<;>try(cases Y;done))|(apply aE (fun C Z=>?_) (fun C Z=>?_)<;>try(cases C;done))|apply ag ?_|(apply ah fun K hK=>?_)|(apply ad 7 [(1,3),(1,5),(4,5)] fun K hK=>?_)|(apply ad 11 [(1,3),(1,5),(4,5)] fun K hK=>?_)|(apply ad 14 [(1,3),(1,5),(4,5)] fun K hK=>?_)|(apply ad 17 [(1,3),(1,5),(4,5)] fun K hK=>?_)|(apply aG ?_;try intro _)|(apply aH ?_ ?_<;>clear hK K)|apply aF ?_|apply a9 rfl ?_|apply au ?_|apply aj ?_|apply aq ?_|apply aB ?_)
    exact⟨rfl,eE,eE,eE,Q4,aA _,fun _ _ _=>rfl⟩
   .rw[aw h0]at hi2;have h0':(0:Int)<(S.length:Int):=aa;repeat' (first
     |(apply ai ?_;clear hK K)|apply Ry.o ?_|apply aY ?_|(apply a6 (fun Y U=>?_) (fun Y U=>?_)<;>try(cases Y;done))|(apply aE (fun C Z=>?_) (fun C Z=>?_)<;>try(cases C;done))|apply ag ?_|(apply ah fun K hK=>?_)|(apply ad 7 [(1,3),(1,5),(4,5)] fun K hK=>?_)|(apply ad 11 [(1,3),(1,5),(4,5)] fun K hK=>?_)|(apply ad 14 [(1,3),(1,5),(4,5)] fun K hK=>?_)|(apply ad 17 [(1,3),(1,5),(4,5)] fun K hK=>?_)|(apply aG ?_;try intro _)|(apply aH ?_ ?_<;>clear hK K)|apply aF ?_|apply a9 rfl ?_|apply au ?_|apply aj ?_|apply aq ?_|apply aB ?_)
    refine qa ?_;refine aR ?_ (dy I Q4.gb A hi2);rintro v K5 p;dsimp only[aJ];repeat' (first
     |(apply ai ?_;clear hK K)|apply Rx.o ?_|apply aU ?_|(apply bt (fun C Z=>?_) (fun C Z=>?_)<;>try(cases C;done))|apply ag ?_|(apply ah fun K hK=>?_)|(apply ad 7 [(1,3),(1,5),(4,5)] fun K hK=>?_)|(apply ad 11 [(1,3),(1,5),(4,5)] fun K hK=>?_)|(apply ad 14 [(1,3),(1,5),(4,5)] fun K hK=>?_)|(apply ad 17 [(1,3),(1,5),(4,5)] fun K hK=>?_)|(apply aG ?_;try intro _)|(apply aH ?_ ?_<;>clear hK K)|apply aF ?_|apply a9 rfl ?_|apply au ?_|apply aj ?_|apply aq ?_|apply aB ?_)
    exact⟨rfl,eE,eE,eE,Q4.call p,Q4.frC p⟩
  .clear g3 hln ko ka hi2;rintro E5 K5 ⟨fw,a4,gi,Q5,f5⟩;have rw5:=rw4.fq aa f5;have nx5:=Q5.nx;have n45:=f5.1;clear rw4 Q4 f5;dsimp only[jv];have g3:=Q5.g3;have gb:=Q5.gb;have nx5:=Q5.nx;repeat' (first
    |(apply ai ?_;clear hK K)|apply Rx.o ?_|apply aU ?_|(apply bt (fun C Z=>?_) (fun C Z=>?_)<;>try(cases C;done))|apply ag ?_|(apply ah fun K hK=>?_)|(apply ad 7 [(1,3),(1,5),(4,5)] fun K hK=>?_)|(apply ad 11 [(1,3),(1,5),(4,5)] fun K hK=>?_)|(apply ad 14 [(1,3),(1,5),(4,5)] fun K hK=>?_)|(apply ad 17 [(1,3),(1,5),(4,5)] fun K hK=>?_)|(apply aG ?_;try intro _)|(apply aH ?_ ?_<;>clear hK K)|apply aF ?_|apply a9 rfl ?_|apply au ?_|apply aj ?_|apply aq ?_|apply aB ?_)
   refine qa ?_;refine aR ?_ (lL I Q5.gb A hs);rintro v Ka ⟨rfl,p⟩;have fa:=Q5.frC p;have Qa:=Q5.call p;have rwa:=rw5.fq aa fa;have ga:=Qa.g3;have nxa:=Qa.nx;have npa:=p.next
   clear p;dsimp only[aJ];obtain⟨rv,Kb,ab,J,nb,fb⟩:=uE rwa aa uB s.1;have Qb:=Qa.dH aa aa fb;have gb3:=Qb.g3;obtain⟨orv,crv⟩:=J.one;have ma1:(H.next+1 == Ka.next)=false:=bH aa;have ma2:(Ka.next == H.next+1)=false:=bH aa;have gh0:=@uD;repeat' (first
    |(apply ai ?_;clear hK K)|apply Rx.o ?_|apply aU ?_|(apply bt (fun C Z=>?_) (fun C Z=>?_)<;>try(cases C;done))|apply ag ?_|(apply ah fun K hK=>?_)|(apply ad 7 [(1,3),(1,5),(4,5)] fun K hK=>?_)|(apply ad 11 [(1,3),(1,5),(4,5)] fun K hK=>?_)|(apply ad 14 [(1,3),(1,5),(4,5)] fun K hK=>?_)|(apply ad 17 [(1,3),(1,5),(4,5)] fun K hK=>?_)|(apply aG ?_;try intro _)|(apply aH ?_ ?_<;>clear hK K)|apply aF ?_|apply a9 rfl ?_|apply au ?_|apply aj ?_|apply aq ?_|apply aB ?_)
   .exact cC
   .generalize hK:Hp.set Kb _ _=Kc;have fc:ch H Kb Kc:=fH;have Qc:=Qb.put [.ad nm,rv,.ab,.ab,.int .i64 0,.int .i64 0,.ad [],.int .i64 0,.ab];rw[hK]at Qc;have rwc:=J.fq aa fc;clear hK;exact⟨cj,cj,(by have:=fc.1;omega),V,eI _,S++[s.1],s.2,n4+1,rv,aa,O,Qc,rwc,mI⟩
 .rename_i h41;obtain⟨hap,rfl⟩:S=ps/\o=i2:=by simpa using O
  obtain rfl:=hap.symm;clear O;repeat' (first
   |(apply ai ?_;clear hK K)|apply Ry.o ?_|apply aY ?_|(apply bu ?_;first|refine Rx.k (ko) ?_|refine Rx.k (ka) ?_)|(apply a6 (fun Y U=>?_) (fun Y U=>?_)<;>try(cases Y;done))|(apply aE (fun C Z=>?_) (fun C Z=>?_)<;>try(cases C;done))|apply ag ?_|(apply ah fun K hK=>?_)|(apply ad 7 [(1,3),(1,5),(4,5)] fun K hK=>?_)|(apply ad 11 [(1,3),(1,5),(4,5)] fun K hK=>?_)|(apply ad 14 [(1,3),(1,5),(4,5)] fun K hK=>?_)|(apply ad 17 [(1,3),(1,5),(4,5)] fun K hK=>?_)|(apply aG ?_;try intro _)|(apply aH ?_ ?_<;>clear hK K)|apply aF ?_|apply a9 rfl ?_|apply au ?_|apply aj ?_|apply aq ?_|apply aB ?_)
  refine qa ?_;refine aR ?_ (dy I Q4.gb A e3);rintro v K5 p;have f5:=Q4.frC p;have Q5:=Q4.call p;clear p;dsimp only[aJ];repeat' (first
   |(apply ai ?_;clear hK K)|apply Rx.o ?_|apply aU ?_|(apply bt (fun C Z=>?_) (fun C Z=>?_)<;>try(cases C;done))|apply ag ?_|(apply ah fun K hK=>?_)|(apply ad 7 [(1,3),(1,5),(4,5)] fun K hK=>?_)|(apply ad 11 [(1,3),(1,5),(4,5)] fun K hK=>?_)|(apply ad 14 [(1,3),(1,5),(4,5)] fun K hK=>?_)|(apply ad 17 [(1,3),(1,5),(4,5)] fun K hK=>?_)|(apply aG ?_;try intro _)|(apply aH ?_ ?_<;>clear hK K)|apply aF ?_|apply a9 rfl ?_|apply au ?_|apply aj ?_|apply aq ?_|apply aB ?_)
  clear ka ko;have pd:=(bX.fm (rw4.done (H:=H) aa) (f5.M (aA _))).ao (S':=fun k=>H.next+1<k/\k<K5.next) (fun k h1 h2=>⟨h2.1,h1⟩) (aA _) fun _ _ _=>rfl;obtain⟨opv,cpv⟩:=rw4.one;clear f5 rw4 Q4 nx4;have nx5:=Q5.nx;obtain⟨M,hM⟩:∃M,M=K5.next:=⟨_,rfl⟩
  rw[<-hM]at pd;have hi3:=Q5.le;have ka:aL prog (a1 pls tb) 25 [.ptr b 0,.int .i64 0,.ad [118,97,114]] K5 fun v H'=>v=.bool (a3 l i3 0 [118,97,114])/\H'=K5:=fI I Q5.gb A aa 0 bO [118,97,114];repeat' (first
   |(apply ai ?_;clear hK K)|apply Ry.o ?_|apply aY ?_|(apply bu ?_;first|refine Rx.k (ka) ?_)|(apply a6 (fun Y U=>?_) (fun Y U=>?_)<;>try(cases Y;done))|apply ag ?_|(apply ah fun K hK=>?_)|(apply ad 7 [(1,3),(1,5),(4,5)] fun K hK=>?_)|(apply ad 11 [(1,3),(1,5),(4,5)] fun K hK=>?_)|(apply ad 14 [(1,3),(1,5),(4,5)] fun K hK=>?_)|(apply ad 17 [(1,3),(1,5),(4,5)] fun K hK=>?_)|(apply aG ?_;try intro _)|(apply aH ?_ ?_<;>clear hK K)|apply aF ?_|apply a9 rfl ?_|apply au ?_|apply aj ?_|apply aq ?_|apply aB ?_)
  refine yR (fun E' K=>E'.at 0=.ptr b 0/\E'.at 2=.ptr H.next 0/\E'.at 3=.ptr (H.next+1) 0/\∃lv n5,SqZ l en b H [.ad [],.ab,.ab,.ab,.int .i64 0,.int .i64 0,.ad [],.int .i64 0,.ab] i4 [.ad nm,pv,lv,.ab,.int .i64 0,.int .i64 0,.ad [],.int .i64 0,.ab] K/\br (fun k=>M<=k) n5 K 1 lv (lM vs)/\dZ H M K5 K) ?_ ?_
  .split at L
   .rename_i hva;obtain⟨s,hs,L⟩:=aX.1 L;have hval:=lK hva;have ea:IntKind.wrap .i64 ((i3:Int)+1)=((i3+1:Nat):Int):=dl;have Q6:=Q5.da (j:=i3+1) aa;have f6:ch H K5 _:=Q5.dC (x:=.cells [.af (l.map Tk.cells),.int .i64 ((i3+1:Nat):Int),.int .i64 en,.int .i64 0,.int .i64 0] 0 true);generalize hK6:Hp.set K5 b _=K6 at Q6 f6;have rw6:br (fun k=>M<=k) 0 K6 1 .ab (lM []):=.inl ⟨rfl,rfl⟩;have gb5:=Q5.gb;have hM6:M<=K6.next:=by have:=f6.1;omega
    repeat' (first
     |(apply ai ?_;clear hK K)|apply Ry.o ?_|apply aY ?_|(apply a6 (fun Y U=>?_) (fun Y U=>?_)<;>try(cases Y;done))|(apply aE (fun C Z=>?_) (fun C Z=>?_)<;>try(cases C;done))|apply ag ?_|(apply ah fun K hK=>?_)|(apply ad 7 [(1,3),(1,5),(4,5)] fun K hK=>?_)|(apply ad 11 [(1,3),(1,5),(4,5)] fun K hK=>?_)|(apply ad 14 [(1,3),(1,5),(4,5)] fun K hK=>?_)|(apply ad 17 [(1,3),(1,5),(4,5)] fun K hK=>?_)|(apply aG ?_;try intro _)|(apply aH ?_ ?_<;>clear hK K)|apply aF ?_|apply a9 rfl ?_|apply au ?_|apply aj ?_|apply aq ?_|apply aB ?_)
    have g3:=Q6.g3;have gb:=Q6.gb;have nx6:=Q6.nx;repeat' (first
     |(apply ai ?_;clear hK K)|apply Rx.o ?_|apply aU ?_|(apply bt (fun C Z=>?_) (fun C Z=>?_)<;>try(cases C;done))|apply ag ?_|(apply ah fun K hK=>?_)|(apply ad 7 [(1,3),(1,5),(4,5)] fun K hK=>?_)|(apply ad 11 [(1,3),(1,5),(4,5)] fun K hK=>?_)|(apply ad 14 [(1,3),(1,5),(4,5)] fun K hK=>?_)|(apply ad 17 [(1,3),(1,5),(4,5)] fun K hK=>?_)|(apply aG ?_;try intro _)|(apply aH ?_ ?_<;>clear hK K)|apply aF ?_|apply a9 rfl ?_|apply au ?_|apply aj ?_|apply aq ?_|apply aB ?_)
    refine qa ?_;refine aR ?_ (lL I Q6.gb A hs);rintro v Ka ⟨rfl,p⟩;have fa:=Q6.frC p;have Qa:=Q6.call p;have rwa:=rw6.fq aa fa;have ga:=Qa.g3;have nxa:=Qa.nx;have npa:=p.next
    clear p;dsimp only[aJ];obtain⟨rv,Kb,ab,J,nb,fb⟩:=uE rwa aa uB s.1;have Qb:=Qa.dH aa aa fb;have gb3:=Qb.g3;obtain⟨orv,crv⟩:=J.one;have ma1:(H.next+1 == Ka.next)=false:=bH aa;have ma2:(Ka.next == H.next+1)=false:=bH aa;have gh0:=@uD;repeat' (first
     |(apply ai ?_;clear hK K)|apply Rx.o ?_|apply aU ?_|(apply bt (fun C Z=>?_) (fun C Z=>?_)<;>try(cases C;done))|apply ag ?_|(apply ah fun K hK=>?_)|(apply ad 7 [(1,3),(1,5),(4,5)] fun K hK=>?_)|(apply ad 11 [(1,3),(1,5),(4,5)] fun K hK=>?_)|(apply ad 14 [(1,3),(1,5),(4,5)] fun K hK=>?_)|(apply ad 17 [(1,3),(1,5),(4,5)] fun K hK=>?_)|(apply aG ?_;try intro _)|(apply aH ?_ ?_<;>clear hK K)|apply aF ?_|apply a9 rfl ?_|apply au ?_|apply aj ?_|apply aq ?_|apply aB ?_)
    .exact cC
    .generalize hK:Hp.set Kb _ _=Kc;have fc:ch H Kb Kc:=fH;have Qc:=Qb.put [.ad nm,pv,rv,.ab,.int .i64 0,.int .i64 0,.ad [],.int .i64 0,.ab];rw[hK]at Qc;have rwc:=J.fq aa fc;clear hK;have f5c:dZ H M K5 Kc:=(f6.M aa).trans ((fa.M aa).trans ((dZ.of aa fb (aA _)).trans (fc.M aa)));refine lC [0,2,3] [] (fun V E K=>∃(S:List qi) (o n4:Nat) (lv:AV),V<=n/\lj l V o S=some (vs,i4)/\SqZ l en b H [.ad [],.ab,.ab,.ab,.int .i64 0,.int .i64 0,.ad [],.int .i64 0,.ab] o [.ad nm,pv,lv,.ab,.int .i64 0,.int .i64 0,.ad [],.int .i64 0,.ab] K/\br (fun k=>M<=k) n4 K 1 lv (lM S)/\dZ H M K5 K/\S.length+V<=n+1) n ⟨[s.1],s.2,_,rv,aA _,L,Qc,rwc,f5c,by simp only[de,l0];omega⟩ ?_;have ncc:=Qc.nx;have hKM:M<=Kc.next:=by have:=f5c.1;omega
     clear L Qc rwc f5c;rintro V E7 K7 hcE hrH hnH ⟨S,o,n7,lv,hnn,L,Q7,rw7,f7,hlen⟩;(try simp only[em,ep,df,a2,bG,Nat.reduceBEq,Nat.reduceAdd,Nat.reduceLeDiff,tyF, *]at hcE);have hK7:M<=K7.next:=by have:=f7.1;omega
     clear hrH ncc hKM;cases V with
     |zero=>rw[lj]at L;cases L
     |succ V=>
     rw[F9]at L;have hi':=Q7.le;have nx7:=Q7.nx;have ka:aL prog (a1 pls tb) 25 [.ptr b 0,.int .i64 0,.ad [44]] K7 fun v H'=>v=.bool (a3 l o 0 [44])/\H'=K7:=fI I Q7.gb A aa 0 bO [44];split at L
     .rename_i h44;obtain⟨s,hs,L⟩:=aX.1 L;have h44l:=lK h44;have ea:IntKind.wrap .i64 ((o:Int)+1)=((o+1:Nat):Int):=dl;have F:=Q7.da (j:=o+1) aa;have f8:ch H K7 _:=Q7.dC (x:=.cells [.af (l.map Tk.cells),.int .i64 ((o+1:Nat):Int),.int .i64 en,.int .i64 0,.int .i64 0] 0 true);generalize hK8:Hp.set K7 b _=K8 at F f8;have rw8:=rw7.fq aa f8;have gb7:=Q7.gb;have hM8:M<=K8.next:=by have:=f8.1;omega
      have n78:=f8.1;repeat' (first
       |(apply ai ?_;clear hK K)|apply Ry.o ?_|apply aY ?_|(apply bu ?_;first|refine Rx.k (ka) ?_)|(apply a6 (fun Y U=>?_) (fun Y U=>?_)<;>try(cases Y;done))|(apply aE (fun C Z=>?_) (fun C Z=>?_)<;>try(cases C;done))|apply ag ?_|(apply ah fun K hK=>?_)|(apply ad 7 [(1,3),(1,5),(4,5)] fun K hK=>?_)|(apply ad 11 [(1,3),(1,5),(4,5)] fun K hK=>?_)|(apply ad 14 [(1,3),(1,5),(4,5)] fun K hK=>?_)|(apply ad 17 [(1,3),(1,5),(4,5)] fun K hK=>?_)|(apply aG ?_;try intro _)|(apply aH ?_ ?_<;>clear hK K)|apply aF ?_|apply a9 rfl ?_|apply au ?_|apply aj ?_|apply aq ?_|apply aB ?_)
      have g3:=F.g3;have gb:=F.gb;have nx8:=F.nx;repeat' (first
       |(apply ai ?_;clear hK K)|apply Rx.o ?_|apply aU ?_|(apply bt (fun C Z=>?_) (fun C Z=>?_)<;>try(cases C;done))|apply ag ?_|(apply ah fun K hK=>?_)|(apply ad 7 [(1,3),(1,5),(4,5)] fun K hK=>?_)|(apply ad 11 [(1,3),(1,5),(4,5)] fun K hK=>?_)|(apply ad 14 [(1,3),(1,5),(4,5)] fun K hK=>?_)|(apply ad 17 [(1,3),(1,5),(4,5)] fun K hK=>?_)|(apply aG ?_;try intro _)|(apply aH ?_ ?_<;>clear hK K)|apply aF ?_|apply a9 rfl ?_|apply au ?_|apply aj ?_|apply aq ?_|apply aB ?_)
      refine qa ?_;refine aR ?_ (lL I F.gb A hs);rintro v Ka ⟨rfl,p⟩;have fa:=F.frC p;have Qa:=F.call p;have rwa:=rw8.fq aa fa;have ga:=Qa.g3;have nxa:=Qa.nx;have npa:=p.next
      clear p;dsimp only[aJ];obtain⟨rv,Kb,ab,J,nb,fb⟩:=uE rwa aa uB s.1;have Qb:=Qa.dH aa aa fb;have gb3:=Qb.g3;obtain⟨orv,crv⟩:=J.one;have ma1:(H.next+1 == Ka.next)=false:=bH aa;have ma2:(Ka.next == H.next+1)=false:=bH aa;have gh0:=@uD;repeat' (first
       |(apply ai ?_;clear hK K)|apply Rx.o ?_|apply aU ?_|(apply bt (fun C Z=>?_) (fun C Z=>?_)<;>try(cases C;done))|apply ag ?_|(apply ah fun K hK=>?_)|(apply ad 7 [(1,3),(1,5),(4,5)] fun K hK=>?_)|(apply ad 11 [(1,3),(1,5),(4,5)] fun K hK=>?_)|(apply ad 14 [(1,3),(1,5),(4,5)] fun K hK=>?_)|(apply ad 17 [(1,3),(1,5),(4,5)] fun K hK=>?_)|(apply aG ?_;try intro _)|(apply aH ?_ ?_<;>clear hK K)|apply aF ?_|apply a9 rfl ?_|apply au ?_|apply aj ?_|apply aq ?_|apply aB ?_)
      .exact cC
      .generalize hK:Hp.set Kb _ _=Kc;have fc:ch H Kb Kc:=fH;have Qc:=Qb.put [.ad nm,pv,rv,.ab,.int .i64 0,.int .i64 0,.ad [],.int .i64 0,.ab];rw[hK]at Qc;have rwc:=J.fq aa fc;clear hK;have f5c:dZ H M K5 Kc:=f7.trans ((f8.M aa).trans ((fa.M aa).trans ((dZ.of aa fb (aA _)).trans (fc.M aa))));exact⟨cj,cj,(by have:=fc.1;omega),V,eI _,S++[s.1],s.2,n7+1,rv,aa,L,Qc,rwc,f5c,mI⟩
     .rename_i h44;have h44:a3 l o 0 [44]=false:=by simpa using h44
      obtain⟨rfl,rfl⟩:S=vs/\o=i4:=by simpa using L
      repeat' (first
       |(apply ai ?_;clear hK K)|apply Ry.o ?_|apply aY ?_|(apply bu ?_;first|refine Rx.k (ka) ?_)|(apply a6 (fun Y U=>?_) (fun Y U=>?_)<;>try(cases Y;done))|(apply aE (fun C Z=>?_) (fun C Z=>?_)<;>try(cases C;done))|apply ag ?_|(apply ah fun K hK=>?_)|(apply ad 7 [(1,3),(1,5),(4,5)] fun K hK=>?_)|(apply ad 11 [(1,3),(1,5),(4,5)] fun K hK=>?_)|(apply ad 14 [(1,3),(1,5),(4,5)] fun K hK=>?_)|(apply ad 17 [(1,3),(1,5),(4,5)] fun K hK=>?_)|(apply aG ?_;try intro _)|(apply aH ?_ ?_<;>clear hK K)|apply aF ?_|apply a9 rfl ?_|apply au ?_|apply aj ?_|apply aq ?_|apply aB ?_)
      exact⟨trivial,eE,eE,eE,lv,n7,Q7,rw7,f7⟩
   .rename_i hva;have hva:a3 l i3 0 [118,97,114]=false:=by simpa using hva
    obtain⟨rfl,rfl⟩:[]=vs/\i3=i4:=by simpa using L
    repeat' (first
     |(apply ai ?_;clear hK K)|apply Ry.o ?_|apply aY ?_|(apply a6 (fun Y U=>?_) (fun Y U=>?_)<;>try(cases Y;done))|(apply aE (fun C Z=>?_) (fun C Z=>?_)<;>try(cases C;done))|apply ag ?_|(apply ah fun K hK=>?_)|(apply ad 7 [(1,3),(1,5),(4,5)] fun K hK=>?_)|(apply ad 11 [(1,3),(1,5),(4,5)] fun K hK=>?_)|(apply ad 14 [(1,3),(1,5),(4,5)] fun K hK=>?_)|(apply ad 17 [(1,3),(1,5),(4,5)] fun K hK=>?_)|(apply aG ?_;try intro _)|(apply aH ?_ ?_<;>clear hK K)|apply aF ?_|apply a9 rfl ?_|apply au ?_|apply aj ?_|apply aq ?_|apply aB ?_)
    exact⟨rfl,eE,eE,eE,.ab,0,Q5,.inl ⟨rfl,rfl⟩,aA _,fun _ _ _=>rfl⟩
  .clear ka L hi3;rintro E6 K6 ⟨fw,a4,gi,lv,n6,Q6,rw6,f6⟩;have nx6:=Q6.nx;have hM6:M<=K6.next:=by have:=f6.1;omega
   clear Q5;dsimp only[jv];repeat' (first
    |(apply ai ?_;clear hK K)|apply Rx.o ?_|apply aU ?_|(apply bt (fun C Z=>?_) (fun C Z=>?_)<;>try(cases C;done))|apply ag ?_|(apply ah fun K hK=>?_)|(apply ad 7 [(1,3),(1,5),(4,5)] fun K hK=>?_)|(apply ad 11 [(1,3),(1,5),(4,5)] fun K hK=>?_)|(apply ad 14 [(1,3),(1,5),(4,5)] fun K hK=>?_)|(apply ad 17 [(1,3),(1,5),(4,5)] fun K hK=>?_)|(apply aG ?_;try intro _)|(apply aH ?_ ?_<;>clear hK K)|apply aF ?_|apply a9 rfl ?_|apply au ?_|apply aj ?_|apply aq ?_|apply aB ?_)
   refine qa ?_;refine aR ?_ (dy I Q6.gb A e5);rintro v K7 p;have f7:=Q6.frC p;have Q7:=Q6.call p;clear p;dsimp only[aJ];repeat' (first
    |(apply ai ?_;clear hK K)|apply Rx.o ?_|apply aU ?_|(apply bt (fun C Z=>?_) (fun C Z=>?_)<;>try(cases C;done))|apply ag ?_|(apply ah fun K hK=>?_)|(apply ad 7 [(1,3),(1,5),(4,5)] fun K hK=>?_)|(apply ad 11 [(1,3),(1,5),(4,5)] fun K hK=>?_)|(apply ad 14 [(1,3),(1,5),(4,5)] fun K hK=>?_)|(apply ad 17 [(1,3),(1,5),(4,5)] fun K hK=>?_)|(apply aG ?_;try intro _)|(apply aH ?_ ?_<;>clear hK K)|apply aF ?_|apply a9 rfl ?_|apply au ?_|apply aj ?_|apply aq ?_|apply aB ?_)
   clear Q6;obtain⟨olv,clv⟩:=rw6.one;have ld:=(bX.fm (rw6.done (H:=H) aa) (f7.M (aA _))).ao (S':=fun k=>H.next+1<k/\k<K7.next) (fun k h1 h2=>⟨h2.1,h1⟩) (aA _) fun _ _ _=>rfl;have pd:=(pd.fm (f6.trans (f7.M hM6))).ao (S':=fun k=>H.next+1<k/\k<K7.next) (fun k h1 h2=>⟨h2.1,h1⟩) (aA _) fun _ _ _=>rfl;clear rw6 f6 f7 hM6;have nx7:=Q7.nx;obtain⟨M2,hM2⟩:∃M2,M2=K7.next:=⟨_,rfl⟩
   rw[<-hM2]at pd ld;refine lC [0,2,3] [] (fun V E K=>∃(S rest:qw) (o n4:Nat) (bv:AV),V<=n/\dS.many l 0 (dS l n n) [114,101,116,117,114,110] V o=some (rest,i6)/\SqZ l en b H [.ad [],.ab,.ab,.ab,.int .i64 0,.int .i64 0,.ad [],.int .i64 0,.ab] o [.ad nm,pv,lv,bv,.int .i64 0,.int .i64 0,.ad [],.int .i64 0,.ab] K/\br (fun k=>M2<=k) n4 K 17 bv (S.map St.cells)/\dZ H M2 K7 K/\S++rest=bo/\S.length+V<=n) n ⟨[],bo,i5,0,.ab,aA _,W,Q7,.inl ⟨rfl,rfl⟩,⟨aA _,fun _ _ _=>rfl⟩,rfl,aK⟩ ?_;clear W Q7;rintro V E8 K8 hcE hrH hnH ⟨S,rest,o,n8,bv,hnn,W,F,rw8,f8,hss,hlen⟩;(try simp only[em,ep,df,a2,bG,Nat.reduceBEq,Nat.reduceAdd,Nat.reduceLeDiff,tyF, *]at hcE);have hM8:M2<=K8.next:=by have:=f8.1;omega
   clear hrH hnH;cases V with
   |zero=>rw[dS.many]at W;cases W
   |succ V=>
   rw[yW]at W;have hi':=F.le;have nx8:=F.nx;have ko:=jI I F.gb;have ka:aL prog (a1 pls tb) 25 [.ptr b 0,.int .i64 0,.ad [114,101,116,117,114,110]] K8 fun v H'=>v=.bool (a3 l o 0 [114,101,116,117,114,110])/\H'=K8:=fI I F.gb A aa 0 bO [114,101,116,117,114,110];obtain⟨obv,cbv⟩:=rw8.one;split at W;rotate_left
   .rename_i hrt;have hrt:a3 l o 0 [114,101,116,117,114,110]=false:=by simpa using hrt
    obtain⟨s,hs,W⟩:=aX.1 W;obtain⟨⟨rs,j2⟩,e11,e10⟩:=dC.1 W;obtain⟨rfl,rfl⟩:s.1::rs=rest/\j2=i6:=by simpa using e10
    clear e10;have g3:=F.g3;repeat' (first
     |(apply ai ?_;clear hK K)|apply Ry.o ?_|apply aY ?_|(apply bu ?_;first|refine Rx.k (ko) ?_|refine Rx.k (ka) ?_)|(apply a6 (fun Y U=>?_) (fun Y U=>?_)<;>try(cases Y;done))|(apply aE (fun C Z=>?_) (fun C Z=>?_)<;>try(cases C;done))|apply ag ?_|(apply ah fun K hK=>?_)|(apply ad 7 [(1,3),(1,5),(4,5)] fun K hK=>?_)|(apply ad 11 [(1,3),(1,5),(4,5)] fun K hK=>?_)|(apply ad 14 [(1,3),(1,5),(4,5)] fun K hK=>?_)|(apply ad 17 [(1,3),(1,5),(4,5)] fun K hK=>?_)|(apply aG ?_;try intro _)|(apply aH ?_ ?_<;>clear hK K)|apply aF ?_|apply a9 rfl ?_|apply au ?_|apply aj ?_|apply aq ?_|apply aB ?_)
    refine qa ?_;refine aR ?_ (yX I A n hn20 o s hi' hs K8 F.aU);rintro v Ka ⟨⟨n9,cs,rfl,hc1,hc2,hc3⟩,p⟩;have fa:=F.frC p;have Qa:=F.call p;have ga:=Qa.g3;have nxa:=Qa.nx;have npa:=p.next
    clear p;dsimp only[aJ];have kb:=fun H=>yQ H hc1;obtain⟨rv,Kb,ab,J,nb,fb⟩:=F7 rw8 aa aa npa (fun k h1 h2=>fa.2 k aa h2) hc1 hc2 hc3;have Qb:=Qa.dH aa aa fb;have gb3:=Qb.g3;obtain⟨orv,crv⟩:=J.one;have ma1:(H.next+1 == Ka.next)=false:=bH aa;have ma2:(Ka.next == H.next+1)=false:=bH aa;repeat' (first
     |(apply ai ?_;clear hK K)|apply Rx.o ?_|apply aU ?_|(apply bt (fun C Z=>?_) (fun C Z=>?_)<;>try(cases C;done))|apply ag ?_|(apply ah fun K hK=>?_)|(apply ad 7 [(1,3),(1,5),(4,5)] fun K hK=>?_)|(apply ad 11 [(1,3),(1,5),(4,5)] fun K hK=>?_)|(apply ad 14 [(1,3),(1,5),(4,5)] fun K hK=>?_)|(apply ad 17 [(1,3),(1,5),(4,5)] fun K hK=>?_)|(apply aG ?_;try intro _)|(apply aH ?_ ?_<;>clear hK K)|apply aF ?_|apply a9 rfl ?_|apply au ?_|apply aj ?_|apply aq ?_|apply aB ?_)
    .exact cC
    .generalize hK:Hp.set Kb _ _=Kc;have fc:ch H Kb Kc:=fH;have Qc:=Qb.put [.ad nm,pv,lv,rv,.int .i64 0,.int .i64 0,.ad [],.int .i64 0,.ab];rw[hK]at Qc;have rwc:=J.fq aa fc;clear hK;exact⟨cj,cj,(by have:=fc.1;omega),V,eI _,S++[s.1],rs,s.2,_,rv,aa,e11,Qc,rwc,f8.trans ((fa.M hM8).trans ((dZ.of aa fb (aA _)).trans (fc.M aa))),by rw[jm];exact hss,mI⟩
   .rename_i hrt;obtain⟨rfl,rfl⟩:[]=rest/\o=i6:=md;rw[jo]at hss;subst hss;repeat' (first
     |(apply ai ?_;clear hK K)|apply Ry.o ?_|apply aY ?_|(apply bu ?_;first|refine Rx.k (ko) ?_|refine Rx.k (ka) ?_)|(apply a6 (fun Y U=>?_) (fun Y U=>?_)<;>try(cases Y;done))|(apply aE (fun C Z=>?_) (fun C Z=>?_)<;>try(cases C;done))|apply ag ?_|(apply ah fun K hK=>?_)|(apply ad 7 [(1,3),(1,5),(4,5)] fun K hK=>?_)|(apply ad 11 [(1,3),(1,5),(4,5)] fun K hK=>?_)|(apply ad 14 [(1,3),(1,5),(4,5)] fun K hK=>?_)|(apply ad 17 [(1,3),(1,5),(4,5)] fun K hK=>?_)|(apply aG ?_;try intro _)|(apply aH ?_ ?_<;>clear hK K)|apply aF ?_|apply a9 rfl ?_|apply au ?_|apply aj ?_|apply aq ?_|apply aB ?_)
    clear ka ko W;refine qa ?_;refine aR ?_ (dy I F.gb A e7);rintro v K9 p;have f9:=F.frC p;have Q9:=F.call p;clear p;dsimp only[aJ];repeat' (first
     |(apply ai ?_;clear hK K)|apply Rx.o ?_|apply aU ?_|(apply bt (fun C Z=>?_) (fun C Z=>?_)<;>try(cases C;done))|apply ag ?_|(apply ah fun K hK=>?_)|(apply ad 7 [(1,3),(1,5),(4,5)] fun K hK=>?_)|(apply ad 11 [(1,3),(1,5),(4,5)] fun K hK=>?_)|(apply ad 14 [(1,3),(1,5),(4,5)] fun K hK=>?_)|(apply ad 17 [(1,3),(1,5),(4,5)] fun K hK=>?_)|(apply aG ?_;try intro _)|(apply aH ?_ ?_<;>clear hK K)|apply aF ?_|apply a9 rfl ?_|apply au ?_|apply aj ?_|apply aq ?_|apply aB ?_)
    refine qa ?_;refine aR ?_ (ks I A Q9.le hc K9 Q9.aU);rintro v K10 ⟨⟨n10,xs10,rfl,c1,c2,c3⟩,p⟩;have f10:=Q9.frC p;have v10:bp (fun k=>H.next+1<k) n10 K10 xs10 c.1.cells:=c3.ao (fun k _ h=>by have:=Q9.nx;omega) (aA _) fun _ _ _=>rfl;have Q10:=Q9.call p;obtain⟨x100,x101,x102,x103,x104,rfl⟩:=dY c1;obtain⟨w100,w101,w102,w103,w104⟩:=kq c2;clear c1 c3 p;dsimp only[aJ];have g3:=Q10.g3;repeat' (first
     |(apply ai ?_;clear hK K)|apply Rx.o ?_|apply aU ?_|(apply bt (fun C Z=>?_) (fun C Z=>?_)<;>try(cases C;done))|apply ag ?_|(apply ah fun K hK=>?_)|(apply ad 7 [(1,3),(1,5),(4,5)] fun K hK=>?_)|(apply ad 11 [(1,3),(1,5),(4,5)] fun K hK=>?_)|(apply ad 14 [(1,3),(1,5),(4,5)] fun K hK=>?_)|(apply ad 17 [(1,3),(1,5),(4,5)] fun K hK=>?_)|(apply aG ?_;try intro _)|(apply aH ?_ ?_<;>clear hK K)|apply aF ?_|apply a9 rfl ?_|apply au ?_|apply aj ?_|apply aq ?_|apply aB ?_)
    generalize hK:Hp.set K10 _ _=K11;have f11:ch H K10 K11:=fH;have Q11:=Q10.put [.ad nm,pv,lv,bv,x100,x101,x102,x103,x104];rw[hK]at Q11;clear hK;refine qa ?_;refine aR ?_ (dy I Q11.gb A e8);rintro v K12 p;have f12:=Q11.frC p;have Q12:=Q11.call p;clear p;dsimp only[aJ];repeat' (first
     |(apply ai ?_;clear hK K)|apply Rx.o ?_|apply aU ?_|(apply bt (fun C Z=>?_) (fun C Z=>?_)<;>try(cases C;done))|apply ag ?_|(apply ah fun K hK=>?_)|(apply ad 7 [(1,3),(1,5),(4,5)] fun K hK=>?_)|(apply ad 11 [(1,3),(1,5),(4,5)] fun K hK=>?_)|(apply ad 14 [(1,3),(1,5),(4,5)] fun K hK=>?_)|(apply ad 17 [(1,3),(1,5),(4,5)] fun K hK=>?_)|(apply aG ?_;try intro _)|(apply aH ?_ ?_<;>clear hK K)|apply aF ?_|apply a9 rfl ?_|apply au ?_|apply aj ?_|apply aq ?_|apply aB ?_)
    refine qa ?_;refine aR ?_ (dy I Q12.gb A e9);rintro v K13 p;have f13:=Q12.frC p;have Q13:=Q12.call p;clear p;dsimp only[aJ];repeat' (first
     |(apply ai ?_;clear hK K)|apply Rx.o ?_|apply aU ?_|(apply bt (fun C Z=>?_) (fun C Z=>?_)<;>try(cases C;done))|apply ag ?_|(apply ah fun K hK=>?_)|(apply ad 7 [(1,3),(1,5),(4,5)] fun K hK=>?_)|(apply ad 11 [(1,3),(1,5),(4,5)] fun K hK=>?_)|(apply ad 14 [(1,3),(1,5),(4,5)] fun K hK=>?_)|(apply ad 17 [(1,3),(1,5),(4,5)] fun K hK=>?_)|(apply aG ?_;try intro _)|(apply aH ?_ ?_<;>clear hK K)|apply aF ?_|apply a9 rfl ?_|apply au ?_|apply aj ?_|apply aq ?_|apply aB ?_)
    have g3:=Q13.g3;have gz:=Q13.gz;have gh0:=@y6;repeat' (first
     |(apply ai ?_;clear hK K)|apply Rx.o ?_|apply aU ?_|(apply bt (fun C Z=>?_) (fun C Z=>?_)<;>try(cases C;done))|apply ag ?_|(apply ah fun K hK=>?_)|(apply ad 7 [(1,3),(1,5),(4,5)] fun K hK=>?_)|(apply ad 11 [(1,3),(1,5),(4,5)] fun K hK=>?_)|(apply ad 14 [(1,3),(1,5),(4,5)] fun K hK=>?_)|(apply ad 17 [(1,3),(1,5),(4,5)] fun K hK=>?_)|(apply aG ?_;try intro _)|(apply aH ?_ ?_<;>clear hK K)|apply aF ?_|apply a9 rfl ?_|apply au ?_|apply aj ?_|apply aq ?_|apply aB ?_)
    refine⟨aN,_,(by(try simp only[a2,bG,Nat.reduceBEq,Nat.reduceAdd,Nat.reduceLeDiff,tyF,cu,cG,y6, *]);first|done|with_reducible rfl),?_⟩;try simp only[aM]
    have hfin:dZ H K8.next K8 K13:=(f9.M (aA _)).trans ((f10.M (by have:=f9.1;omega)).trans ((f11.M (by have:=f9.1;have:=f10.1;omega)).trans ((f12.M (by have:=f9.1;have:=f10.1;have:=f11.1;omega)).trans (f13.M (by have:=f9.1;have:=f10.1;have:=f11.1;have:=f12.1;omega)))))
    have bd:=(rw8.done (H:=H) aa).fm hfin;have hpl:=f8.trans (hfin.le hM8);have pd:=pd.fm hpl;have ld:=ld.fm hpl;have vd:=v10.fq (f11.trans (f12.trans f13));have lift:∀{q m:Nat}{x w:AV},bX (fun k=>H.next+1<k/\k<q) m K13 x w->bX (fun k=>H.next+1<k) m K13 x w:=fun h=>h.az (fun _ h=>h.1) (aA _) fun _ _ _=>rfl;obtain⟨N,hN⟩:∃N,n4+1+n6+1+n8+1+n10=N:=⟨_,rfl⟩;refine Q13.fin (n:=N+1) rfl (by simp only[lG,lH,show AV.one (.ad nm)=true from rfl,opv,olv,obv,w100,w101,w102,w103,w104,k4]) ?_;exact bp.append (n:=N+1) (a:=[.ad nm,pv,lv,bv]) (b:=[.ad nm,jy ps,jy vs,.af (S.map St.cells)]) (.cons (.ad _) (.cons ((lift pd).up aa) (.cons ((lift ld).up aa) (.cons ((lift bd).up aa) .nil)))) (by have hh:=vd.up (m:=N+1) aa;rw[gP]at hh;exact hh)
end
def splice_one(cs:qh){o:Nat}(J:o<cs.length)(x:AV):splice cs o [x]=cs.set o x:=by
 rw[wS,yZ,aD J];simp
theorem bin_shr{D:BinOp->Sx->Sx->qo}{t:TypeId}{k C:IntKind}{a:Int}{m:Nat}(h:m<64)(A:k=.u64):ct prog D .shr t (.int k a) (.int C (m:Int))=some (.int k (a.fdiv (2^ m))):=by
 subst A;have e:ct prog D .shr t (.int .u64 a) (.int C (Int.ofNat m))=some (.int .u64 (a.fdiv (2^ min m 64))):=rfl;rw[show min m 64=m by omega]at e;exact e
end Go.Proofs.Ytbflaciihaijgaa
namespace Go.Ab
set_option maxRecDepth 20000
open Go
variable{P:Program}{D:BinOp->Sx->Sx->qo}{t e:TypeId}{k C:IntKind}{a b H H':Hp}{r W:Nat}{v z S I Y:AV}{l:qm}{x:Int}
def jJ(b:Int):Int:=IntKind.wrap .u64 (IntKind.wrap .i64 (BitVec.ofInt (IntKind.bits .i64) b &&& BitVec.ofInt (IntKind.bits .i64) 63).toNat)
def uF(k:IntKind)(a b:Int):Int:=k.wrap (a*2^ min b.toNat k.bits)
def r9(k:IntKind)(a b:Int):Int:=a.fdiv (2^ min b.toNat k.bits)
def mM(a b:Int):Int:=if b=0 then 0 else if b=-1 then gQ (0-a)else gQ (a.tdiv b)
def jK(b:Bool):Int:=if b=true then 1 else 0
def uG(op a b:Int):Int:=
 if op=12 then uF .i64 a (jJ b)else if op=13 then IntKind.wrap .i64 (r9 .u64 (IntKind.wrap .u64 a) (jJ b))else if op=14 then r9 .i64 a (jJ b)
 else if op=15 then jK (decide (a=b))else if op=16 then jK (!decide (a=b))else if op=17 then jK (decide (a<b))else if op=18 then jK (decide (a<=b))
 else if op=19 then jK (decide (IntKind.wrap .u64 a<IntKind.wrap .u64 b))else 0
def cQ(op a b:Int):Int:=
 if op=4 then gQ (a+b)else if op=5 then gQ (a-b)else if op=6 then gQ (a*b)else if op=7 then mM a b else if op=8 then (if b=0 then 0 else gQ (a-gQ (mM a b*b)))
 else if op=9 then IntKind.wrap .i64 (BitVec.ofInt (IntKind.bits .i64) a &&& BitVec.ofInt (IntKind.bits .i64) b).toNat
 else if op=10 then IntKind.wrap .i64 (BitVec.ofInt (IntKind.bits .i64) a |||BitVec.ofInt (IntKind.bits .i64) b).toNat
 else if op=11 then IntKind.wrap .i64 (BitVec.ofInt (IntKind.bits .i64) a^^^ BitVec.ofInt (IntKind.bits .i64) b).toNat
 else uG op a b
def uH(op a:Int):Int:=if op=20 then gQ (0-a)else if op=21 then IntKind.wrap .i64 (BitVec.ofInt (IntKind.bits .i64) (-1)^^^ BitVec.ofInt (IntKind.bits .i64) a).toNat else 0
theorem Gc{a:Int}:jh .xor (.int .i64 a)=some (.int .i64 (IntKind.wrap .i64 (BitVec.ofInt (IntKind.bits .i64) (-1)^^^ BitVec.ofInt (IntKind.bits .i64) a).toNat)):=rfl
def Gd(n:Int):0<=IntKind.wrap .u64 n:=by
 unfold IntKind.wrap;simp only[IntKind.signed,uf,bK,cT];exact Int.emod_nonneg _ (by simp[IntKind.bits])
def Ge(b:Int):0<=jJ b:=Gd _
def Gf{a b:Int}(Z:0<=b):ct P D .shl t (.int k a) (.int C b)=some (.int k (uF k a b)):=by
 obtain⟨m,rfl⟩:=mn Z;simp only[ct,jT];show jS .shl k a (Int.ofNat m)=_;simp[jS,uF]
def bin_shr{a b:Int}(Z:0<=b):ct P D .shr t (.int k a) (.int C b)=some (.int k (r9 k a b)):=by
 obtain⟨m,rfl⟩:=mn Z;simp only[ct,jT];show jS .shr k a (Int.ofNat m)=_;simp[jS,r9]
abbrev aQ:=qi
structure MS where
 bG:Int
 fin:Int
 aj:Int
 cells:List (aQ×qm)
 out:qm
variable{s:MS}{vs:List (aQ×Int)}
def bJ:List (aQ×Int)->aQ->Int
 |[],_=>0
 |p::l,nm=>if nm=p.1 then p.2 else bJ l nm
def setV:List (aQ×Int)->aQ->Int->List (aQ×Int)
 |[],nm,x=>[(nm,x)]
 |p::l,nm,x=>if nm=p.1 then (nm,x)::l else p::setV l nm x
def cq:List (aQ×qm)->aQ->qm
 |[],_=>[]
 |p::l,nm=>if nm=p.1 then p.2 else cq l nm
def iq:List (aQ×qm)->aQ->Nat->Int->List (aQ×qm)
 |[],_,_,_=>[]
 |p::l,nm,i,x=>if nm=p.1 then (p.1,p.2.set i x)::l else p::iq l nm i x
def ec(c:Int)(s:MS):MS:=if s.fin=0 then {s with fin:=2,aj:=c}else s
def cZ(s:MS):MS:=if s.fin≠0 then s else if s.bG=0 then {s with fin:=3}else {s with bG:=gQ (s.bG-1) }
def fl(v:Int)(s:MS):MS:=if s.fin=0 then {s with out:=s.out++[v] }else s
def fJ(a:Int)(l:qm):Bool:=decide (a<0)||decide ((l.length:Int)<=a)
def g9(nm:aQ)(a v:Int)(s:MS):MS:=
 let L:=if fJ a (cq s.cells nm)=true then ec 2 s else s
 if L.fin=0 then {L with cells:=iq L.cells nm a.toNat v}else L
def bC:Nat->Ex->List (aQ×Int)->MS->Option (Int×MS)
 |0,_,_,_=>none
 |n+1,x,vs,s=>
  if s.fin≠0 then some (0,s)
  else if x.ai=1 then some (x.n,s)
  else if x.ai=2 then some (bJ vs x.name,s)
  else if x.ai=3 then
   (x.aH[0]?).bind fun k=>(bC n k vs s).bind fun r=>
     if fJ r.1 (cq r.2.cells x.name)=true then some (0,ec 2 r.2)else some ((cq r.2.cells x.name).getD r.1.toNat 0,r.2)
  else if x.ai=5 then
   (x.aH[0]?).bind fun k=>(bC n k vs s).bind fun r=>
     if r.1≠0 then (x.aH[1]?).bind fun k=>bC n k vs r.2 else (x.aH[2]?).bind fun k=>bC n k vs r.2
  else
   (x.aH[0]?).bind fun k=>(bC n k vs s).bind fun r=>
     if x.aH.length=1 then some (uH x.op r.1,r.2)
     else (x.aH[1]?).bind fun k=>(bC n k vs r.2).bind fun aC=>
      if aC.1=0/\(x.op=7\/x.op=8)then some (0,ec 1 aC.2)else some (cQ x.op r.1 aC.1,aC.2)
def jL(n:Nat):List Ex->List (aQ×Int)->MS->Option (qm×MS)
 |[],_,s=>some ([],s)
 |x::l,vs,s=>(bC n x vs s).bind fun r=>(jL n l vs r.2).bind fun aC=>some (r.1::aC.1,aC.2)
def ku:List aQ->qm->List (aQ×Int)->Option (List (aQ×Int))
 |[],_,vs=>some vs
 |_::_,[],_=>none
 |nm::l,a::asx,vs=>ku l asx (setV vs nm a)
section
variable (p:Pr) (fi:List (aQ × Int))
mutual
def dm:Nat->St->List (aQ×Int)->MS->Option (List (aQ×Int)×MS)
 |0,_,_,_=>none
 |n+1,x,vs,s=>
  if x.ai=1 then (bC n x.value vs s).bind fun r=>some (setV vs x.name r.1,r.2)
  else if x.ai=2 then (bC n x.aU vs s).bind fun r=>(bC n x.value vs r.2).bind fun aC=>some (vs,g9 x.name r.1 aC.1 aC.2)
  else if x.ai=3 then (bC n x.value vs s).bind fun r=>if r.1≠0 then dg n x.cC vs r.2 else dg n x.cS vs r.2
  else if x.ai=4 then da n x vs s
  else if x.ai=5 then (bC n x.value vs s).bind fun r=>some (vs,fl r.1 r.2)
  else if x.ai=6 then (jL n x.args vs s).bind fun r=>
   if (cZ r.2).fin=0 then (ir n (bJ fi x.to) r.1 (cZ r.2)).bind fun aC=>some (setV vs x.name aC.1,aC.2)else some (vs,cZ r.2)
  else if x.ai=7 then some (vs,ec (gQ (16+x.n)) s)
  else some (vs,s)
def dg:Nat->qw->List (aQ×Int)->MS->Option (List (aQ×Int)×MS)
 |0,_,_,_=>none
 |n+1,l,vs,s=>match l with
  |[]=>some (vs,s)
  |x::l=>if s.fin≠0 then some (vs,s)else (dm n x vs s).bind fun r=>dg n l r.1 r.2
def da:Nat->St->List (aQ×Int)->MS->Option (List (aQ×Int)×MS)
 |0,_,_,_=>none
 |n+1,x,vs,s=>(bC n x.value vs s).bind fun r=>
  if r.1≠0/\r.2.fin=0 then
   if (cZ r.2).fin=0 then (dg n x.cC vs (cZ r.2)).bind fun aC=>da n x aC.1 aC.2 else da n x vs (cZ r.2)
  else some (vs,r.2)
def ir:Nat->Int->qm->MS->Option (Int×MS)
 |0,_,_,_=>none
 |n+1,k,asx,s=>if k<0 then none else (p.funcs[k.toNat]?).bind fun f=>(ku f.params asx []).bind fun vs=>(dg n f.body vs s).bind fun r=>bC n f.value r.1 r.2
end
end
def b9(vs:List (aQ×Int)):qx:=vs.map fun p=>(.ad p.1,.int .i64 p.2)
def ints(l:qm):qh:=l.map fun n=>.int .i64 n
def ed:List (aQ×qm)->qp->qx
 |p::l,r::rs=>(.ad p.1,.sl r 0 p.2.length 1)::ed l rs
 |_,_=>[]
def uI(l:qm):(ints l).length=l.length:=by simp[ints]
theorem uJ(nm:aQ):∀(vs:List (aQ×Int)) (i:Nat),(cr .string (.ad nm) (b9 vs) i=some none/\bJ vs nm=0/\∀x,b9 (setV vs nm x)=b9 vs++[(.ad nm,.int .i64 x)]) \/
 ∃j,j<vs.length/\cr .string (.ad nm) (b9 vs) i=some (some (i+j,.int .i64 (bJ vs nm)))/\∀x,b9 (setV vs nm x)=(b9 vs).set j (.ad nm,.int .i64 x)
 |[],i=>.inl ⟨rfl,rfl,fun _=>rfl⟩
 |p::l,i=>by
  by_cases h:nm=p.1
  .refine .inr ⟨0,aK,?_,fun x=>?_⟩
   .simp[b9,cr,gj,bJ,h]
   .simp[b9,setV,h]
  .have Z:cr .string (.ad nm) (b9 (p::l)) i=cr .string (.ad nm) (b9 l) (i+1):=by
    show cr .string (.ad nm) ((.ad p.1,.int .i64 p.2)::b9 l) i=_;have:(nm == p.1)=false:=eF;simp[cr,gj,this]
   have O:bJ (p::l) nm=bJ l nm:=by simp[bJ,h]
   have J:∀x,b9 (setV (p::l) nm x)=(.ad p.1,.int .i64 p.2)::b9 (setV l nm x):=fun x=>by simp[setV,h,b9]
   rw[Z,O];rcases uJ nm l (i+1)with⟨m,o,F⟩|⟨j,V,m,F⟩
   .refine .inl ⟨m,o,fun x=>?_⟩;rw[J,F];simp[b9]
   .refine .inr ⟨j+1,dj,?_,fun x=>?_⟩
    .rw[m,show i+1+j=i+(j+1) by omega]
    .rw[J,F];simp[b9]
theorem y7(nm:aQ):∀(cs:List (aQ×qm)) (rs:qp) (i:Nat),rs.length=cs.length->(cr .string (.ad nm) (ed cs rs) i=some none/\cq cs nm=[]/\∀k x,iq cs nm k x=cs) \/
 ∃j r V,rs[j]?=some r/\cs[j]?=some (V,cq cs nm)/\cr .string (.ad nm) (ed cs rs) i=some (some (i+j,.sl r 0 (cq cs nm).length 1))/\∀k x,iq cs nm k x=cs.set j (V,(cq cs nm).set k x)
 |[],[],i,_=>.inl ⟨rfl,rfl,fun _ _=>rfl⟩
 |[],_::_,i,h=>by simp at h
 |_::_,[],i,h=>by simp at h
 |p::l,r::rs,i,hlen=>by
  by_cases h:nm=p.1
  .refine .inr ⟨0,r,p.1,rfl,?_,?_,fun k x=>?_⟩
   .simp[cq,h]
   .simp[ed,cr,gj,cq,h]
   .simp[iq,cq,h]
  .have W:cr .string (.ad nm) (ed (p::l) (r::rs)) i=cr .string (.ad nm) (ed l rs) (i+1):=by
    show cr .string (.ad nm) ((.ad p.1,.sl r 0 p.2.length 1)::ed l rs) i=_;have:(nm == p.1)=false:=eF;simp[cr,gj,this]
   have O:cq (p::l) nm=cq l nm:=by simp[cq,h]
   have J:∀k x,iq (p::l) nm k x=p::iq l nm k x:=fun k x=>by simp[iq,h]
   rw[W,O];rcases y7 nm l rs (i+1) (by simpa using hlen)with⟨m,o,F⟩|⟨j,Z,V,Y,hc,m,F⟩
   .exact .inl ⟨m,o,fun k x=>by rw[J,F]⟩
   .refine .inr ⟨j+1,Z,V,kW,nC,?_,fun k x=>?_⟩
    .rw[m,show i+1+j=i+(j+1) by omega]
    .rw[J,F];simp
theorem y8:∀(cs:List (aQ×qm)) (rs:qp) (j:Nat) (C:aQ) (l Y:qm),cs[j]?=some (C,l)->Y.length=l.length->ed (cs.set j (C,Y)) rs=ed cs rs
 |[],_,_,_,_,_,h,_=>by simp at h
 |p::cs,[],j,C,l,Y,h,hl=>by cases j<;>rfl
 |p::cs,r::rs,0,C,l,Y,h,hl=>by
  simp only[mD,ak]at h;subst h;simp[ed,hl]
 |p::cs,r::rs,j+1,C,l,Y,h,hl=>by
  simp only[List.set_cons_succ,ed];rw[y8 cs rs j C l Y eF hl]
structure Mx where
 p:Pr
 rm:Nat
 rc:Nat
 rf:Nat
 rs:qp
 fi:List (aQ×Int)
variable{X:Mx}
def Mx.own(X:Mx)(r:Nat):Prop:=r=X.rm\/r∈X.rs
def cJ(X:Mx)(s:MS)(ov:AV):qh:=[.af (X.p.ag.map Ar.cells),.af (X.p.funcs.map Fu.cells),.map X.rc,.map X.rf,.int .i64 s.bG,.int .i64 s.fin,.int .i64 s.aj,ov]
def mN(X:Mx)(H:Hp)(ov:AV)(out:qm):Prop:=
 (ov=.ab/\out=[])\/∃V,ov=.sl V 0 out.length 1/\H.get V=some (.cells (ints out) 0 true)/\V<H.next/\¬X.own V/\V≠X.rc/\V≠X.rf
structure zaa (X:Mx) (H:Hp) (s:MS) (ov:AV):Prop where
 m:H.get X.rm=some (.cells (cJ X s ov) 0 true)
 c:H.get X.rc=some (.map (ed s.cells X.rs))
 f:H.get X.rf=some (.map (b9 X.fi))
 len:X.rs.length=s.cells.length
 cell:∀(j r:Nat) (nm:aQ) (l:qm),X.rs[j]?=some r->s.cells[j]?=some (nm,l)->H.get r=some (.cells (ints l) 0 true)
 out:mN X H ov s.out
 lm:X.rm<H.next
 lc:X.rc<H.next
 lf:X.rf<H.next
 ls:∀r∈X.rs,r<H.next
 cD:X.rm≠X.rc
 mf:X.rm≠X.rf
 ms:X.rm∉X.rs
 cf:X.rc≠X.rf
 cs:X.rc∉X.rs
 fs:X.rf∉X.rs
 nd:X.rs.Nodup
structure FrE (X:Mx) (H H':Hp):Prop where
 next:H.next<=H'.next
 get:∀r,r<H.next->r≠X.rm->H'.get r=H.get r
variable{c:Hp}
def FrE.refl(X:Mx)(H:Hp):FrE X H H:=⟨aA _,fun _ _ _=>rfl⟩
def hy:=@FrE.refl
def FrE.trans(h:FrE X a b)(k:FrE X b c):FrE X a c:=⟨dB h.next k.next,fun r m o=>(k.get r (eO m h.next) o).trans (h.get r m o)⟩
def FrE.alloc(h:FrE X a b)(x:HB):FrE X a (b.alloc x):=⟨dB h.next (fB _),fun r m o=>by
 have:=h.next
 rw[aP,aw aa];exact h.get r m o⟩
def FrE.set(h:FrE X a b)(hr:r=X.rm\/a.next<=r)(x:HB):FrE X a (b.set r x):=⟨h.next,fun k m o=>by
 rw[a0,aw aa];exact h.get k m o⟩
structure FrA (X:Mx) (H H':Hp):Prop where
 next:H.next<=H'.next
 get:∀r,r<H.next->¬X.own r->H'.get r=H.get r
def FrE.dM(h:FrE X H H'):FrA X H H':=⟨h.next,fun r m o=>h.get r m fun e=>o (.inl e)⟩
def FrA.refl(X:Mx)(H:Hp):FrA X H H:=⟨aA _,fun _ _ _=>rfl⟩
def uK(c:Int)(s:MS):(ec c s).fin≠0:=by
 unfold ec;split
 .simp
 .assumption
def Gg{nm:aQ}{a v:Int}(h:a<0\/((cq s.cells nm).length:Int)<=a):g9 nm a v s=ec 2 s:=by
 have C:fJ a (cq s.cells nm)=true:=by simp only[fJ,fZ,dE];exact h
 simp only[g9,C,cy];rw[aw (uK 2 s)]
def Gi{nm:aQ}{a v:Int}(h:0<=a)(o:a<(cq s.cells nm).length):g9 nm a v s=if s.fin=0 then {s with cells:=iq s.cells nm a.toNat v}else s:=by
 have C:fJ a (cq s.cells nm)=false:=yY;simp only[g9,C,bK,cT]
def mN.mono{ov:AV}{out:qm}(h:mN X H ov out)(S:H.next<=H'.next)(L:∀r,r<H.next->r≠X.rm->H'.get r=H.get r):mN X H' ov out:=by
 rcases h with h|⟨V,m,o,F,Y,J,O⟩
 .exact .inl h
 .exact .inr ⟨V,m,by rw[L V F (fun e=>Y (.inl e))];exact o,eO F S,Y,J,O⟩
def zaa.dx{W:MS}{ov:AV}(h:zaa X H s ov)(fr:FrE X H H')(Y:H'.get X.rm=some (.cells (cJ X W ov) 0 true))(Z:W.cells=s.cells)(J:W.out=s.out):zaa X H' W ov where
 m:=Y
 c:=by rw[fr.get _ h.lc h.cD.symm,Z];exact h.c
 f:=by rw[fr.get _ h.lf h.mf.symm];exact h.f
 len:=by rw[Z];exact h.len
 cell j r nm l h1 h2:=by
  have hr:=fY h1;rw[fr.get _ (h.ls r hr) (fun e=>h.ms (e▸hr))];exact h.cell j r nm l h1 (Z▸h2)
 out:=by rw[J];exact h.out.mono fr.next fr.get
 lm:=eO h.lm fr.next
 lc:=eO h.lc fr.next
 lf:=eO h.lf fr.next
 ls r hr:=eO (h.ls r hr) fr.next
 cD:=h.cD
 mf:=h.mf
 ms:=h.ms
 cf:=h.cf
 cs:=h.cs
 fs:=h.fs
 nd:=h.nd
theorem zaa.av{ov:AV}(h:zaa X H s ov)(S:H.next<=H'.next)(L:∀r,r<H.next->H'.get r=H.get r):zaa X H' s ov:=
 h.dx ⟨S,fun r m _=>L r m⟩ (by rw[L _ h.lm];exact h.m) rfl rfl
def zaa.alloc{ov:AV}(h:zaa X H s ov)(b:HB):zaa X (H.alloc b) s ov:=
 h.av (fB _) fun r hr=>hZ
def jM(X:Mx)(s:MS)(nm:aQ)(A:AV):Prop:=
 (A=.ab/\cq s.cells nm=[]/\∀k x,iq s.cells nm k x=s.cells)\/∃j r V,X.rs[j]?=some r/\s.cells[j]?=some (V,cq s.cells nm)/\A=.sl r 0 (cq s.cells nm).length 1/\∀k x,iq s.cells nm k x=s.cells.set j (V,(cq s.cells nm).set k x)
def y9{t e:Nat}{es:qx}{nm:aQ}(I:P.underlying t=some (.map W e))(A:fP P W=some .string)(C:fN P e=some z)(L:H.get r=some (.map es)):
 (cr .string (.ad nm) es 0=some none->di P H t (.map r) (.ad nm) false=some z)/\∀i v,cr .string (.ad nm) es 0=some (some (i,v))->di P H t (.map r) (.ad nm) false=some v:=by
 refine⟨fun h=>?_,fun i v h=>?_⟩<;>simp only[di,I,A,C,jR,L,h,nh]
def za{t e:Nat}{es:qx}{nm:aQ}{x:AV}(I:P.underlying t=some (.map W e))(A:fP P W=some .string)(L:H.get r=some (.map es)):
 (cr .string (.ad nm) es 0=some none->hT P H t (.map r) (.ad nm) x=some (H.set r (.map (es++[(.ad nm,x)]))))/\∀i v,cr .string (.ad nm) es 0=some (some (i,v))->hT P H t (.map r) (.ad nm) x=some (H.set r (.map (es.set i (.ad nm,x)))):=by
 refine⟨fun h=>?_,fun i v h=>?_⟩<;>simp only[hT,I,A,L,h]
def zaa.bV{ov:AV}(h:zaa X H s ov){t e:Nat}(I:P.underlying t=some (.map W e))(Z:fP P W=some .string)(C:fN P e=some .ab)(nm:aQ):
 ∃A,di P H t (.map X.rc) (.ad nm) false=some A/\jM X s nm A:=by
 obtain⟨db,cU⟩:=y9 (nm:=nm) I Z C h.c;rcases y7 nm s.cells X.rs 0 h.len with⟨m,o,F⟩|⟨j,r,V,m,o,F,Y⟩
 .exact⟨_,db m,.inl ⟨rfl,o,F⟩⟩
 .exact⟨_,cU _ _ F,.inr ⟨j,r,V,m,o,rfl,Y⟩⟩
def uL{t e:Nat}(I:P.underlying t=some (.map W e))(A:fP P W=some .string)(C:fN P e=some (.int .i64 0))(L:H.get r=some (.map (b9 vs)))(nm:aQ):
 di P H t (.map r) (.ad nm) false=some (.int .i64 (bJ vs nm)):=by
 obtain⟨db,cU⟩:=y9 (nm:=nm) I A C L;rcases uJ nm vs 0 with⟨m,o,F⟩|⟨j,V,m,F⟩
 .rw[db m,o]
 .rw[cU _ _ m]
def sa{t e:Nat}(I:P.underlying t=some (.map W e))(A:fP P W=some .string)(L:H.get r=some (.map (b9 vs)))(nm:aQ)(x:Int):
 hT P H t (.map r) (.ad nm) (.int .i64 x)=some (H.set r (.map (b9 (setV vs nm x)))):=by
 obtain⟨db,cU⟩:=za (nm:=nm) (x:=.int .i64 x) I A L;rcases uJ nm vs 0 with⟨m,o,F⟩|⟨j,V,m,F⟩
 .rw[db m,F]
 .rw[cU _ _ m,F,dd]
def Gj(l:qm)(k:Nat)(x:Int):ints (l.set k x)=(ints l).set k (.int .i64 x):=by simp[ints,List.map_set]
def zaa.cG{ov:AV}(h:zaa X H s ov){j:Nat}{nm:aQ}{W:qm}(hr:X.rs[j]?=some r)(L:s.cells[j]?=some (nm,l))(J:W.length=l.length):
 zaa X (H.set r (.cells (ints W) 0 true)) {s with cells:=s.cells.set j (nm,W) } ov:=by
 have F:=fY hr;have U:j<X.rs.length:=(ci.1 hr).1;have Y:∀k,k≠r->(H.set r (.cells (ints W) 0 true)).get k=H.get k:=fun k A=>r1;refine{m:=?_,c:=?_,f:=?_,len:=?_,cell:=?_,out:=?_,lm:=h.lm,lc:=h.lc,lf:=h.lf,ls:=h.ls,cD:=h.cD,mf:=h.mf,ms:=h.ms,cf:=h.cf,cs:=h.cs,fs:=h.fs,nd:=h.nd}
 .rw[Y _ (fun e=>h.ms r8)];exact h.m
 .rw[Y _ (fun e=>h.cs r8),y8 _ _ _ _ _ _ L J];exact h.c
 .rw[Y _ (fun e=>h.fs r8)];exact h.f
 .simp[h.len]
 .intro O I V cU Z o;by_cases S:O=j
  .subst S;rw[hr]at Z;simp only[ak]at Z;subst Z;rw[sK (by rw[<-h.len];exact U)]at o;simp only[bm]at o;rw[a0,aD rfl,o.2]
  .rw[List.getElem?_set_ne (fun e=>S e.symm)]at o;rw[Y _ (fun e=>?_)]
   .exact h.cell O I V cU Z o
   .subst e;exact S ((List.getElem?_inj (by exact(ci.1 Z).1) h.nd).1 (Z.trans hr.symm))
 .rcases h.out with Z|⟨C,Z,o,h3,M,h5,h6⟩
  .exact .inl Z
  .exact .inr ⟨C,Z,by rw[Y _ (fun e=>M (.inr r8))];exact o,h3,M,h5,h6⟩
def zb{l:qm}{k:Nat}(h:k<l.length)(v:Int):(ints l).take k++(.int .i64 v::(ints l).drop (k+1))=ints (l.set k v):=by
 rw[Gj,yZ,aD (by rw[uI];exact h)]
def jM.len{nm:aQ}{A:AV}(h:jM X s nm A)(I:P.underlying t=some (.slice e)):dr P H t A=some (.int .i64 (cq s.cells nm).length):=by
 rcases h with⟨rfl,o,_⟩|⟨j,r,V,_,_,rfl,_⟩
 .rw[o];exact rx I
 .exact ru I _ _ _ _
def sc(h:H'.get r=H.get r)(t:TypeId)(k:AV)(ok:Bool):di P H' t (.map r) k ok=di P H t (.map r) k ok:=by
 simp only[di,jR,h]
def zd{k:Nat}(h:k<l.length):(ints l)[k]?=some (.int .i64 (l.getD k 0)):=by
 simp only[ints,gp,bq h,eB,uC,bQ]
def gh{a b:Nat}(h:a≠b):(a == b)=false:=eF
def gB(ov:AV)(r:Nat):Prop:=∃n,ov=.sl r 0 n 1
structure FrS (X:Mx) (ex:Nat->Prop) (ov:AV) (H:Hp) (ov':AV) (H':Hp):Prop where
 next:H.next<=H'.next
 get:∀r,r<H.next->¬X.own r->¬gB ov r->¬ex r->H'.get r=H.get r
 out:∀r,gB ov' r->gB ov r\/H.next<=r
def FrS.trans{ex:Nat->Prop}{Z:AV}(h:FrS X ex S a I b)(k:FrS X ex I b Z c):FrS X ex S a Z c where
 next:=dB h.next k.next
 get r h1 h2 h3 h4:=by
  rw[k.get r (eO h1 h.next) h2 (fun e=>?_) h4]
  .exact h.get r h1 h2 h3 h4
  .rcases h.out r e with e|e
   .exact h3 e
   .omega
 out r h1:=by
  rcases k.out r h1 with e|e
  .exact h.out r e
  .exact .inr (dB h.next e)
def FrA.b2(h:FrA X H H')(ex:Nat->Prop)(ov:AV):FrS X ex ov H ov H':=⟨h.next,fun r m o _ _=>h.get r m o,fun r h=>.inl h⟩
def FrE.b2(h:FrE X H H')(ex:Nat->Prop)(ov:AV):FrS X ex ov H ov H':=h.dM.b2 ex ov
def FrS.refl(X:Mx)(ex:Nat->Prop)(ov:AV)(H:Hp):FrS X ex ov H ov H:=(hy X H).b2 ex ov
def FrS.dl{ex o:Nat->Prop}(h:FrS X ex S a I b)(U:∀r,r<a.next->ex r->o r):FrS X o S a I b:=⟨h.next,fun r m Z F Y=>h.get r m Z F fun e=>Y (U r m e),h.out⟩
def zaa.bt{ov:AV}(h:zaa X H s ov)(hr:X.own r):r<H.next:=by
 rcases hr with rfl|hr
 .exact h.lm
 .exact h.ls r hr
def zaa.bU{ov:AV}(h:zaa X H s ov)(hr:gB ov r):r<H.next:=by
 obtain⟨n,rfl⟩:=hr;rcases h.out with⟨m,_⟩|⟨V,m,o,F,_⟩
 .simp at m
 .simp only[AV.sl.injEq]at m;omega
def zaa.cz{ov:AV}(h:zaa X H s ov)(S:H.next<=H'.next)(L:∀r,r<H.next->(X.own r\/r=X.rc\/r=X.rf\/gB ov r)->H'.get r=H.get r):zaa X H' s ov where
 m:=by rw[L _ h.lm (.inl (.inl rfl))];exact h.m
 c:=by rw[L _ h.lc (.inr (.inl rfl))];exact h.c
 f:=by rw[L _ h.lf (.inr (.inr (.inl rfl)))];exact h.f
 len:=h.len
 cell j r nm l Z o:=by
  have hr:=fY Z;rw[L _ (h.ls r hr) (.inl (.inr hr))];exact h.cell j r nm l Z o
 out:=by
  rcases h.out with Z|⟨V,Z,o,F,Y,J,O⟩
  .exact .inl Z
  .exact .inr ⟨V,Z,by rw[L V F (.inr (.inr (.inr ⟨_,Z⟩)))];exact o,eO F S,Y,J,O⟩
 lm:=eO h.lm S
 lc:=eO h.lc S
 lf:=eO h.lf S
 ls r hr:=eO (h.ls r hr) S
 cD:=h.cD
 mf:=h.mf
 ms:=h.ms
 cf:=h.cf
 cs:=h.cs
 fs:=h.fs
 nd:=h.nd
structure zab (X:Mx) (H:Hp) (rv:Nat) (vs:List (aQ×Int)) (ov:AV):Prop where
 get:H.get rv=some (.map (b9 vs))
 lt:rv<H.next
 no:¬X.own rv
 nc:rv≠X.rc
 nf:rv≠X.rf
 nb:¬gB ov rv
def zab.nm{ov:AV}(h:zab X H W vs ov):W≠X.rm:=fun e=>h.no (.inl e)
def zab.dy{ex:Nat->Prop}{ov:AV}(h:zab X H W vs ov)(f:FrS X ex ov H Y H')(U:¬ex W):zab X H' W vs Y where
 get:=by rw[f.get _ h.lt h.no h.nb U];exact h.get
 lt:=eO h.lt f.next
 no:=h.no
 nc:=h.nc
 nf:=h.nf
 nb e:=by
  rcases f.out _ e with e|e
  .exact h.nb e
  .have:=h.lt;omega
def zab.cQ{ov:AV}(h:zab X H W vs ov)(f:FrE X H H'):zab X H' W vs ov:=h.dy (f.b2 (fun _=>False) ov) (fun e=>e)
def zab.frA{ov:AV}(h:zab X H W vs ov)(f:FrA X H H'):zab X H' W vs ov:=h.dy (f.b2 (fun _=>False) ov) (fun e=>e)
def zaa.setV{ov:AV}(h:zaa X H s ov)(M:zab X H W vs ov)(I:List (aQ×Int)):
 zaa X (H.set W (.map (b9 I))) s ov/\zab X (H.set W (.map (b9 I))) W I ov/\FrS X (·=W) ov H ov (H.set W (.map (b9 I))):=by
 have O:∀r,r≠W->(H.set W (.map (b9 I))).get r=H.get r:=fun r hr=>by rw[a0,aw hr]
 refine⟨h.cz (aA _) fun r hr J=>O r fun e=>?_,⟨eN,M.lt,M.no,M.nc,M.nf,M.nb⟩,⟨aA _,fun r m o F Y=>O r Y,fun r m=>.inl m⟩⟩;subst e;rcases J with J|J|J|J
 .exact M.no J
 .exact M.nc J
 .exact M.nf J
 .exact M.nb J
def FrS.az{ex:Nat->Prop}{bA:Hp}{ov:AV}(f:FrS X ex ov H Y H')(h:zaa X bA s ov)(m:bA.next<=r)(o:r<H.next)(F:¬ex r):H'.get r=H.get r:=
 f.get r o (fun e=>by have:=h.bt e;omega) (fun e=>by have:=h.bU e;omega) F
def kw(H:Hp)(v:AV)(l:qm):Prop:=(v=.ab/\l=[])\/∃r,v=.sl r 0 l.length 1/\H.get r=some (.cells (ints l) 0 true)
def Gk(a b:qm):ints (a++b)=ints a++ints b:=by simp[ints]
theorem ze(Z:P.underlying t=some (.slice e))(J:aZ P e=some 1)(C:bT P e=some 8)(U:bM P e=some [z])(L:kw H Y l){r':Nat}
 (S:H.get r'=some (.cells [.int .i64 x] 0 true)) (hl:l.length<2^40) :
 ∃I,dh P false H t t Y (.sl r' 0 1 1)=some (.sl H.next 0 (l.length+1) 1,I)/\I.next=H.next+1/\I.get H.next=some (.cells (ints (l++[x])) 0 true)/\∀k,k<H.next->¬gB Y k->I.get k=H.get k:=by
 have A:hS H 1 (.sl r' 0 1 1)=some (0+1,[.int .i64 x]):=by
  have:=tP (H:=H) (r:=r') (o:=0) (n:=1) (z:=1) (s:=1) S rfl;rw[this];rfl
 have m:gE P t=true:=by unfold gE;rw[Z]
 have W:cm=70368744177664:=rfl;rcases L with⟨rfl,rfl⟩|⟨r,rfl,F⟩
 .refine⟨H.alloc (.cells [.int .i64 x] 0 true),append_nil Z J C U m A rfl rfl kN kN,rfl,?_,fun k M _=>?_⟩
  .rw[aP,aD rfl];rfl
  .rw[aP,aw aa]
 .refine⟨(H.aG r).alloc (.cells (ints l++[.int .i64 x]) 0 true),CK Z J C U m A rfl rfl F (by rw[uI,Nat.mul_one]) kN kN,rfl,?_,fun k M O=>?_⟩
  .show((H.aG r).alloc _).get (H.aG r).next=_
   rw[aP,aD rfl,Gk];rfl
  .have V:¬k=r:=fun e=>O ⟨_,k1⟩;rw[aP,aw oK,fX,aw V]
def zaa.cY{I:Hp}{ov:AV}{C:Nat}(h:zaa X H s ov)(M:s.fin=0)(W:H.next<=C)(V:I.next=C+1)(A:I.get C=some (.cells (ints (s.out++[x])) 0 true))(U:∀k,k<H.next->¬gB ov k->I.get k=H.get k):
 zaa X (I.set X.rm (.cells (cJ X (fl x s) (.sl C 0 (s.out.length+1) 1)) 0 true)) (fl x s) (.sl C 0 (s.out.length+1) 1)/\FrS X (fun _=>False) ov H (.sl C 0 (s.out.length+1) 1) (I.set X.rm (.cells (cJ X (fl x s) (.sl C 0 (s.out.length+1) 1)) 0 true)):=by
 have J:fl x s={s with out:=s.out++[x] }:=by simp only[fl,M,cy]
 have Y:∀r,(X.own r\/r=X.rc\/r=X.rf)->¬gB ov r:=fun r hr ⟨n,e⟩=>by
  rcases h.out with⟨Z,_⟩|⟨ro,Z,o,F,O,L,h6⟩
  .rw[Z]at e;simp at e
  .rw[Z]at e;simp only[AV.sl.injEq]at e;obtain⟨rfl,_⟩:=e;rcases hr with hr|hr|hr
   .exact O hr
   .exact L hr
   .exact h6 hr
 have g:∀r,r<H.next->r≠X.rm->¬gB ov r->(I.set X.rm (.cells (cJ X (fl x s) (.sl C 0 (s.out.length+1) 1)) 0 true)).get r=H.get r:=fun r Z o F=>by
  rw[a0,aw o,U r Z F]
 have hlm:=h.lm;refine⟨?_,⟨by show H.next<=I.next;omega,fun r Z o F _=>g r Z (fun e=>o (.inl e)) F,fun r ⟨n,e⟩=>.inr (by simp only[AV.sl.injEq]at e;omega)⟩⟩;refine{m:=?_,c:=?_,f:=?_,len:=?_,cell:=?_,out:=?_,lm:=?_,lc:=?_,lf:=?_,ls:=?_,cD:=h.cD,mf:=h.mf,ms:=h.ms,cf:=h.cf,cs:=h.cs,fs:=h.fs,nd:=h.nd}
 .rw[a0,aD rfl]
 .rw[g _ h.lc h.cD.symm (Y _ (.inr (.inl rfl))),J];exact h.c
 .rw[g _ h.lf h.mf.symm (Y _ (.inr (.inr rfl)))];exact h.f
 .rw[J];exact h.len
 .intro j r S l Z o;rw[J]at o;have hr:=fY Z;rw[g _ (h.ls r hr) (fun e=>h.ms (e▸hr)) (Y _ (.inl (.inr hr)))];exact h.cell j r S l Z o
 .refine .inr ⟨C,by rw[J];simp,?_,by show C<I.next;omega,fun e=>by have:=h.bt e;omega,by have:=h.lc;omega,by have:=h.lf;omega⟩;rw[a0,aw aa,A,J]
 .show X.rm<I.next;omega
 .show X.rc<I.next;have:=h.lc;omega
 .show X.rf<I.next;have:=h.lf;omega
 .intro r hr;show r<I.next;have:=h.ls r hr;omega
def mN.ints{ov:AV}{out:qm}(h:mN X H ov out):kw H ov out:=by
 rcases h with h|⟨V,m,o,_⟩
 .exact .inl h
 .exact .inr ⟨V,m,o⟩
def lN(v:AV)(r:Nat):Prop:=∃o n z,v=.sl r o n z
def iu(H:Hp)(v:AV)(l:qm):Prop:=
 (v=.ab/\l=[])\/(v=.af (l.map fun n=>[.int .i64 n]))\/∃r o cs C Z,v=.sl r o l.length 1/\H.get r=some (.cells cs C Z)/\∀i,i<l.length->cs[o+i]?=some (.int .i64 (l.getD i 0))
def kw.cW(h:kw H v l):iu H v l:=by
 rcases h with h|⟨r,m,o⟩
 .exact .inl h
 .exact .inr (.inr ⟨r,0,_,_,_,m,o,fun i I=>by rw[dd];exact zd I⟩)
def iu.at(h:iu H v l)(Z:P.underlying t=some (.slice e))(F:P.underlying e=some (.int k))(J:aZ P e=some 1){i:Nat}(I:i<l.length):
 ∃a,cV P t v (.int .i64 (i:Int))=some a/\∀H':Hp,(∀r,lN v r->H'.get r=H.get r)->dq P H' e a=some (.int .i64 (l.getD i 0)):=by
 rcases h with⟨_,rfl⟩|rfl|⟨r,o,cs,C,Y,rfl,W,V⟩
 .simp at I
 .refine⟨_,wN Z J (i:=i) (row:=[.int .i64 (l.getD i 0)]) ?_ rfl,fun H' _=>B5 F rfl _⟩;rw[gp,bq I,eB,uC,bq I,bQ]
 .refine⟨_,wO Z J I,fun H' L=>?_⟩;rw[B4 F rfl (by rw[L r ⟨_,_,_,rfl⟩];exact W),Nat.mul_one];exact V i I
def iu.mono(h:iu H v l)(L:∀r,lN v r->H'.get r=H.get r):iu H' v l:=by
 rcases h with h|h|⟨r,o,cs,C,Z,m,Y,F⟩
 .exact .inl h
 .exact .inr (.inl h)
 .exact .inr (.inr ⟨r,o,cs,C,Z,m,by rw[L r ⟨_,_,_,m⟩];exact Y,F⟩)
def iu.len(h:iu H v l)(I:P.underlying t=some (.slice e)):dr P H' t v=some (.int .i64 l.length):=by
 rcases h with⟨rfl,rfl⟩|rfl|⟨r,o,cs,C,Z,rfl,_,_⟩
 .exact rx I
 .rw[wM I];simp
 .exact ru I _ _ _ _
def eX(l:List Ar):List (aQ×qm):=l.map fun a=>(a.name,List.replicate a.len.toNat 0)
def eJ:List Fu->Nat->List (aQ×Int)->List (aQ×Int)
 |[],_,m=>m
 |f::l,i,m=>eJ l (i+1) (setV m f.name i)
def iw:List (aQ×Int)->aQ->Bool
 |[],_=>false
 |p::l,nm=>if nm=p.1 then true else iw l nm
structure Oc where
 ai:Int
 aj:Int
 out:qm
 value:Int
def kx(r:Int×MS):Oc:=if r.2.fin=2 then ⟨2,r.2.aj,r.2.out,0⟩else if r.2.fin=3 then ⟨3,0,r.2.out,0⟩else ⟨1,0,r.2.out,r.1⟩
def oZ(p:Pr)(fuel:Int):MS:=⟨fuel,0,0,eX p.ag,[]⟩
def Gl(H:Hp)(v:AV)(o:Oc):Prop:=∃ov,v=.agg [.int .i64 o.ai,.int .i64 o.aj,ov,.int .i64 o.value]/\kw H ov o.out/\∀k,lN ov k->k<H.next
theorem zf(nm:aQ):∀(vs:List (aQ×Int)) (i:Nat),(iw vs nm=false->cr .string (.ad nm) (b9 vs) i=some none/\bJ vs nm=0)/\(iw vs nm=true->∃j,cr .string (.ad nm) (b9 vs) i=some (some (j,.int .i64 (bJ vs nm))))
 |[],i=>⟨fun _=>⟨rfl,rfl⟩,fun h=>by simp[iw]at h⟩
 |p::l,i=>by
  by_cases h:nm=p.1
  .refine⟨fun o=>by simp[iw,h]at o,fun _=>⟨i,?_⟩⟩;simp[b9,cr,gj,bJ,h]
  .have Z:cr .string (.ad nm) (b9 (p::l)) i=cr .string (.ad nm) (b9 l) (i+1):=by
    show cr .string (.ad nm) ((.ad p.1,.int .i64 p.2)::b9 l) i=_;have:(nm == p.1)=false:=eF;simp[cr,gj,this]
   have O:bJ (p::l) nm=bJ l nm:=by simp[bJ,h]
   have W:iw (p::l) nm=iw l nm:=by simp[iw,h]
   rw[Z,O,W];exact zf nm l (i+1)
def Gm{t e:Nat}(I:P.underlying t=some (.map W e))(A:fP P W=some .string)(C:fN P e=some (.int .i64 0))(L:H.get r=some (.map (b9 vs)))(nm:aQ):
 di P H t (.map r) (.ad nm) true=some (.aC [.int .i64 (bJ vs nm),.bool (iw vs nm)]):=by
 obtain⟨m,o⟩:=zf nm vs 0;cases Z:iw vs nm with
 |false=>
  obtain⟨Y,U⟩:=m Z;simp only[di,I,A,C,jR,L,Y,nh,U]
 |true=>
  obtain⟨j,Y⟩:=o Z;simp only[di,I,A,jR,L,Y,nh]
theorem zg(nm:aQ):∀(cs:List (aQ×qm)) (rs:qp) (i:Nat),nm∉cs.map (·.1)->cr .string (.ad nm) (ed cs rs) i=some none
 |[],_,_,_=>rfl
 |_::_,[],_,_=>rfl
 |p::l,r::rs,i,h=>by
  simp only[mb,fg,not_or]at h;show cr .string (.ad nm) ((.ad p.1,.sl r 0 p.2.length 1)::ed l rs) i=_;have:(nm == p.1)=false:=by simpa using h.1
  simp only[cr,gj,this];exact zg nm l rs (i+1) h.2
theorem zh:∀(cs:List (aQ×qm)) (rs:qp) (c:aQ×qm) (r:Nat),rs.length=cs.length->ed (cs++[c]) (rs++[r])=ed cs rs++[(.ad c.1,.sl r 0 c.2.length 1)]
 |[],[],_,_,_=>rfl
 |[],_::_,_,_,h=>by simp at h
 |_::_,[],_,_,h=>by simp at h
 |p::l,q::rs,c,r,h=>by
  simp only[lD,ed];rw[zh l rs c r eF]
theorem Gn(n:Nat):eY [.int .i64 0] n=ints (List.replicate n 0):=by
 induction n with
 |zero=>rfl
 |succ n ih=>simp only[eY,ih];simp[ints,List.replicate_succ]
theorem Gp(I:P.underlying t=some (.slice e))(J:aZ P e=some 1)(C:bT P e=some 8)(Z:bM P e=some [.int .i64 0]){n:Int}(M:0<=n)(Y:n<2^40):
 iE P H t (.int .i64 n) (.int .i64 n)=some (.sl H.next 0 n.toNat 1,H.alloc (.cells (ints (List.replicate n.toNat 0)) 0 true)):=by
 obtain⟨m,rfl⟩:=mn M;have W:cm=70368744177664:=rfl;show iE P H t (.int .i64 (Int.ofNat m)) (.int .i64 (Int.ofNat m))=_;simp only[iE,I,J,C,Z];rw[aD ⟨aA _,kN,kN,rfl⟩,Gn];rfl
end Go.Ab
namespace Go.Proofs.Ytbflaciihaijgaa
set_option maxRecDepth 20000
open Go Go.Ab
def Gq(p:Pr):List qi:=p.funcs.map (·.name)
theorem uM(s a:aQ)(x:Int):∀m:List (aQ×Int),bJ (setV m a x) s=if s=a then x else bJ m s
 |[]=>by simp[setV,bJ]
 |q::l=>by
  by_cases h:a=q.1
  .simp only[setV,h,cy,bJ];split<;>rfl
  .simp only[setV,h,cT,bJ,uM s a x l];by_cases o:s=q.1
   .rw[aD o,aD o,aw (fun e=>h (by rw[<-e,o]))]
   .rw[aw o,aw o]
section
variable (c:Sc)
end
section
variable {p:Pr} (hd:ya [] (Gq p)=false) (c:Sc) (hc:c.p=p)
include hd hc
end
end Go.Proofs.Ytbflaciihaijgaa
namespace Go.Ab
set_option maxRecDepth 20000
open Go
def sd(c:Int)(s:MS):(ec c s).out=s.out/\(ec c s).cells=s.cells/\(ec c s).bG=s.bG:=by unfold ec;split<;>simp
theorem zi(s:MS):(cZ s).out=s.out:=by unfold cZ;split<;>(try split)<;>rfl
def Gs(nm:aQ)(a v:Int)(s:MS):(g9 nm a v s).out=s.out:=by
 unfold g9;simp only[];split<;>split<;>simp[sd]
theorem hB:∀(n:Nat) (x:Ex) (vs:List (aQ×Int)) (s:MS) (r:Int×MS),bC n x vs s=some r->r.2.out=s.out/\r.2.cells=s.cells/\r.2.bG=s.bG
 |0,x,vs,s,r,h=>by simp[bC]at h
 |n+1,x,vs,s,r,h=>by
  have U:=hB n;unfold bC at h;split at h
  .simp only[ak]at h;subst h;exact⟨rfl,rfl,rfl⟩
  split at h
  .simp only[ak]at h;subst h;exact⟨rfl,rfl,rfl⟩
  split at h
  .simp only[ak]at h;subst h;exact⟨rfl,rfl,rfl⟩
  split at h
  .simp only[aX]at h;obtain⟨k,A,ao,F,h⟩:=h;have m:=U _ _ _ _ F;split at h<;>simp only[ak]at h<;>subst h
   .have:=sd 2 ao.2;simp only[];rw[this.1,this.2.1,this.2.2];exact m
   .exact m
  split at h
  .simp only[aX]at h;obtain⟨k,A,ao,F,h⟩:=h;have m:=U _ _ _ _ F;split at h<;>simp only[aX]at h<;>obtain⟨a4,M,Z⟩:=h<;>have o:=U _ _ _ _ Z<;>exact⟨o.1.trans m.1,o.2.1.trans m.2.1,o.2.2.trans m.2.2⟩
  .simp only[aX]at h;obtain⟨k,A,ao,F,h⟩:=h;have m:=U _ _ _ _ F;split at h
   .simp only[ak]at h;subst h;exact m
   .simp only[aX]at h;obtain⟨a4,M,aC,Z,h⟩:=h;have o:=U _ _ _ _ Z;split at h<;>simp only[ak]at h<;>subst h
    .have:=sd 1 aC.2;simp only[];rw[this.1,this.2.1,this.2.2];exact⟨o.1.trans m.1,o.2.1.trans m.2.1,o.2.2.trans m.2.2⟩
    .exact⟨o.1.trans m.1,o.2.1.trans m.2.1,o.2.2.trans m.2.2⟩
theorem uN{n:Nat}:∀(l:List Ex) (vs:List (aQ×Int)) (s:MS) (r:qm×MS),jL n l vs s=some r->r.2.out=s.out/\r.2.cells=s.cells/\r.2.bG=s.bG/\r.1.length=l.length
 |[],vs,s,r,h=>by simp only[jL,ak]at h;subst h;exact⟨rfl,rfl,rfl,rfl⟩
 |x::l,vs,s,r,h=>by
  simp only[jL,aX,ak]at h;obtain⟨ao,F,aC,S,rfl⟩:=h;have m:=hB _ _ _ _ _ F;have o:=uN l vs _ _ S;exact⟨o.1.trans m.1,o.2.1.trans m.2.1,o.2.2.1.trans m.2.2,by simp[o.2.2.2]⟩
def zj(v:Int)(s:MS):s.out.length<=(fl v s).out.length:=by unfold fl;split<;>simp
theorem uO(p:Pr)(fi:List (aQ×Int)):∀n:Nat,
 (∀x vs s r,dm p fi n x vs s=some r->s.out.length<=r.2.out.length)/\(∀l vs s r,dg p fi n l vs s=some r->s.out.length<=r.2.out.length) /\
 (∀x vs s r,da p fi n x vs s=some r->s.out.length<=r.2.out.length)/\(∀k Z s r,ir p fi n k Z s=some r->s.out.length<=r.2.out.length)
 |0=>⟨fun x vs s r h=>by simp[dm]at h,fun l vs s r h=>by simp[dg]at h,fun x vs s r h=>by simp[da]at h,fun k Z s r h=>by simp[ir]at h⟩
 |n+1=>by
  obtain⟨W,I,J,L⟩:=uO p fi n;refine⟨fun x vs s r h=>?_,fun l vs s r h=>?_,fun x vs s r h=>?_,fun k Z s r h=>?_⟩
  .unfold dm at h;split at h
   .simp only[aX,ak]at h;obtain⟨ao,F,rfl⟩:=h;rw[(hB _ _ _ _ _ F).1];exact aA _
   split at h
   .simp only[aX,ak]at h;obtain⟨ao,F,aC,Y,rfl⟩:=h;simp only[Gs];rw[(hB _ _ _ _ _ Y).1,(hB _ _ _ _ _ F).1];exact aA _
   split at h
   .simp only[aX]at h;obtain⟨ao,F,h⟩:=h;rw[<-(hB _ _ _ _ _ F).1];split at h
    .exact I _ _ _ _ h
    .exact I _ _ _ _ h
   split at h
   .exact J _ _ _ _ h
   split at h
   .simp only[aX,ak]at h;obtain⟨ao,F,rfl⟩:=h;rw[<-(hB _ _ _ _ _ F).1];exact zj _ _
   split at h
   .simp only[aX]at h;obtain⟨ao,F,h⟩:=h;rw[<-(uN _ _ _ _ F).1,<-zi ao.2];split at h
    .simp only[aX,ak]at h;obtain⟨aC,hc,rfl⟩:=h;exact L _ _ _ _ hc
    .simp only[ak]at h;subst h;exact aA _
   split at h
   .simp only[ak]at h;subst h;rw[(sd _ _).1];exact aA _
   .simp only[ak]at h;subst h;exact aA _
  .unfold dg at h;split at h
   .simp only[ak]at h;subst h;exact aA _
   .split at h
    .simp only[ak]at h;subst h;exact aA _
    .simp only[aX]at h;obtain⟨ao,F,h⟩:=h;exact dB (W _ _ _ _ F) (I _ _ _ _ h)
  .unfold da at h;simp only[aX]at h;obtain⟨ao,F,h⟩:=h;rw[<-(hB _ _ _ _ _ F).1];split at h
   .rw[<-zi ao.2];split at h
    .simp only[aX]at h;obtain⟨aC,hc,h⟩:=h;exact dB (I _ _ _ _ hc) (J _ _ _ _ h)
    .exact J _ _ _ _ h
   .simp only[ak]at h;subst h;exact aA _
  .unfold ir at h;split at h
   .simp at h
   .simp only[aX]at h;obtain⟨f,U,vs,M,ao,V,F⟩:=h;rw[(hB _ _ _ _ _ F).1];exact I _ _ _ _ V
end Go.Ab
namespace Go.Proofs.Ytbflaciihaijgaa
set_option maxRecDepth 20000
open Go Go.Ab
structure Bd where
 l:List Nd
 vars:qm
 cL:Int
 loops:Nat
structure Cx where
 ag:List Ar
 funcs:List Fu
 names:List aQ
variable{z:Nat}{H:Hp}{v:AV}
section
variable (c:Cx)
end
structure gw (a b:Bd):Prop where
 l:a.l<+:b.l
 n:a.loops<=b.loops
variable{n:Nat}
def o0(l:qn):AV:=.af (l.map Tk.cells)
def mO(s:qi):Prop:=s.length<=20000/\∃l,ge 20001 s 0=some l
def gC(s:qi):qn:=(ge 20001 s 0).getD []
theorem Gt(ρ:Nat->Int)(s:qi)(Y:mO s):bN Try.prog ρ 23 [.ad s] (.aC [o0 (gC s),.agg [.int .i64 0,.int .i64 0]]):=by
 obtain⟨J,l,O⟩:=Y;have e:gC s=l:=by unfold gC;rw[O];rfl
 rw[e];refine ye (n:=60) (cfg:=a1 pls gY) fit (p7 ρ) (fun g W r L=>iX.bV (l:=gY) (Fx ρ) g W r L) (.cons (.ad _) .nil) (aR (fun v H' h=>?_) (FA s 20001 l O J));obtain⟨A,rfl,Z⟩:=h;obtain⟨u,V,o⟩:=Z.rd;have F:=V.up (m:=100) aa;obtain⟨U,M⟩:=oP (S:=fun k=>1<=k) (n:=100) (H:=H') (fun k=>b7.iceV k) (l:=[A,.agg [.int .i64 0,.int .i64 0]]) (k:=[u,.agg [.int .i64 0,.int .i64 0]]) ⟨F,⟨[.int .i64 0,.int .i64 0],⟨b7.bH ⟨.int _ _,trivial⟩,b7.bH ⟨.int _ _,trivial⟩,trivial⟩,rfl⟩,trivial⟩;refine⟨U+1,.aC [u,.agg [.int .i64 0,.int .i64 0]],?_,?_⟩
 .have I:iceV H' (U+1) (.aC [A,.agg [.int .i64 0,.int .i64 0]])=match iceL (iceV H' U) [A,.agg [.int .i64 0,.int .i64 0]]with
   |some vs=>some (.aC vs)
   |none=>none:=rfl
  rw[I,M U (aA _)]
 .show AV.aC [dX 59 u,.agg [.int .i64 0,.int .i64 0]]=_;rw[o 59 aa];rfl
noncomputable def zk:En:=⟨23,false,fG mO (fun s=>[.ad s]) fun s=>.aC [o0 (gC s),.agg [.int .i64 0,.int .i64 0]]⟩
def Gu(ρ:Nat->Int):iW Try.prog ρ zk:=kg fun x U=>Gt ρ x U
def br.at{S:Nat->Prop}{C:List qh}(h:br S n H z v C){k o m V:Nat}(e:v=.sl k o m V):S k/\k<H.next:=by
 rcases h with⟨rfl,_⟩|⟨q,Z,U,rfl,Y,W,_⟩
 .cases e
 .simp only[AV.sl.injEq]at e;obtain⟨rfl,_⟩:=e;exact⟨Y,W⟩
def Gv{P:Program}{t e:TypeId}{b:Nat}{zz:qh}(ht:P.underlying t=some (.slice e))(hs:aZ P e=some z)(hb:bT P e=some b)(hz:bM P e=some zz)(hzz:zz.length=z)(A:gE P t=true)
 {O:Nat->Nat}{L:Nat}{Hb:Hp}{V:List qh} (h:br (fun q=>O q=L) n H z v V) (hn:H.next<=Hb.next) (hk:∀q,q<H.next->O q=L->Hb.get q=H.get q) {r imm:Nat}{row:qh} (hg:Hb.get r=some (.cells row imm true)) (hrow:row.length=z) (hone:row.all AV.one=true)
 (hb1:(V.length+1)*b<=cm) (hb2:V.length+1<=cm) :
 ∃H' W C,dh P false Hb t t v (.sl r 0 1 z)=some (.sl Hb.next 0 (V.length+1) z,H')/\W.length=V.length*z/\C<=V.length*z/\H'.get Hb.next=some (.cells (W++row) C true)/\H'.next=Hb.next+1/\(∀q,q<Hb.next->(H.next<=q\/O q≠L)->H'.get q=Hb.get q) /\
  ∀(Y:Hp) (rf:Nat) (M w:qh),Hb.next<Y.next->(∀q,q≠rf->q<Hb.next->Y.get q=H'.get q)->O rf≠L->rf<H.next->Y.get Hb.next=some (.cells (W++M) C true)->M.length=z->bp (fun q=>H.next<=q/\q<Hb.next) n Hb M w ->
   br (fun q=>(if H.next<=q then L else O q)=L) n Y z (.sl Hb.next 0 (V.length+1) z) (V++[w]):=by
 have h':br (fun q=>q<H.next/\O q=L) n Hb z v V:=h.az (fun k I Z=>⟨I,Z⟩) hn fun k I Z=>hk k Z I;obtain⟨H',J,C,cE,cK,fM,er,dz,ee,hO,a8⟩:=yf ht hs hb hz hzz A (S':=fun q=>(if H.next<=q then L else O q)=L) h' (fun k _ ax=>by show(if _ then _ else _)=L;rw[aw aa];exact ax.2) (by show(if _ then _ else _)=L;rw[aD hn]) hg hrow hone hb1 hb2;have fr:∀q,q<Hb.next->(H.next<=q\/O q≠L)->H'.get q=Hb.get q:=fun q I Z=>hO q I fun o m z' e=>by
  have h3:=(h'.at e).1;rcases Z with Z|Z
  .omega
  .exact Z h3.2
 have hfl:J.flatten.length=V.length*z:=by rw[oQ fM,cK]
 refine⟨H',J.flatten,C,cE,hfl,by rw[<-hfl];exact dz,er,ee,fr,fun Y rf M w I Z h3 h4 h5 h6 hw=>?_⟩;have ne:∀k,(if H.next<=k then L else O k)=L->k≠rf:=fun k U e=>by
  subst e;rw[aw aa]at U;exact h3 U
 refine br.of (S:=fun q=>(if H.next<=q then L else O q)=L) (aD hn) I fM h6 h5 dz (a8.ao (fun k _ F=>F) aa fun k U F=>Z k (ne k U.1) (by have:=U.2;omega)) ?_;exact hw.ao (fun k U F=>⟨aD F.1,aa⟩) aa fun k U F=>by rw[Z k aa F,fr k F (.inl U.1)]
def Gw(i:Nat)(a b:qh):qh:=match i with
 |0=>a++b
 |_+1=>b++a
structure ProgX (i:Nat) (pt:Nat->Nat) (lo b b' n:Nat) (H:Hp) (ra rf:Nat) (x y:Int) (f g:Fu) (pf lf bf:AV) (vf:qh) (pg lg bg:AV) (vg:qh):Prop where
 hb:3<=b/\3<=b'/\(b+4<=b'\/b'+4<=b)
 hlo:lo<=H.next
 lab:∀q,q<lo->pt q=0
 ga:H.get ra=some (.cells [.ad [97],.int .i64 x,.ad [98],.int .i64 y] 0 true)
 gf:H.get rf=some (.cells (Gw i (yg f.name pf lf bf vf) (yg g.name pg lg bg vg)) 0 true)
 ltA:ra<H.next
 ltF:rf<H.next
 lra:pt ra=1
 lrf:pt rf=2
 F:FnL pt b n H f pf lf bf vf
 G:FnL pt b' n H g pg lg bg vg
section
variable {i:Nat} {pt:Nat -> Nat} {lo b b' n:Nat} {H:Hp} {ra rf:Nat} {x y:Int} {f g:Fu} {pf lf bf:AV} {vf:qh} {pg lg bg:AV} {vg:qh} (h:ProgX i pt lo b b' n H ra rf x y f g pf lf bf vf pg lg bg vg)
include h
omit h in
end
end Go.Proofs.Ytbflaciihaijgaa
