/- Lemmas for the last file. -/
import Derived.Test.YtbflaciihaijgaaPEO
set_option linter.all false
set_option maxHeartbeats 32000000
namespace Go.Ab
set_option maxRecDepth 20000
open Go
variable{qd:Prop}
def Av(h:qd:=by rw[<- V];rfl):=h
def Aw(h:qd:=by rw[<- V,Hp.get_set,if_neg U]):=h
def Ax(h:qd:=by rw[<- V,Hp.get_set,if_pos rfl]):=h
def PU(h:qd:=by simp only[bp,bm,and_true,aF,aW,Nat.reduceBEq,Nat.reduceAdd,Nat.reduceLeDiff,tyF,g60, *]):=h
def PV(h:qd:=by first|(simp only[aF,Nat.reduceBEq,Y, *];done)|rfl):=h
def lM(h:qd:=by (try simp only[bj,bE]);omega):=h
def nW(h:qd:=by first|rfl|((try simp only[bj,bE]);omega)):=h
def x3(h:qd:=by simp[uz]):=h
def DZ(h:qd:=by rw[hm];omega):=h
def PW(h:qd:=by rw[<- i,Hp.get_set,if_neg ac,aQ,if_neg ac]):=h
def D0(h:qd:=by rw[Hp.get_set,if_neg ac,Hp.get_set,if_neg ac]):=h
def PX(h:qd:=by rw[J _ ac,O _ ac,z _ ac ac,g _ ac,o _ ac ac,j _ ac,oH6 _ ac ac,oHa _ ac]):=h
def PY(h:qd:=by rw[J _ ac,O _ ac,z _ ac ac,g _ ac,o _ ac ac,j _ ac]):=h
def PZ(h:qd:=by rw[J _ ac,O _ ac,z _ ac ac,g _ ac]):=h
def cn:=@Option.bind_some
end Go.Ab
namespace Go.Proofs.Ytbflaciihaijgaa
set_option maxRecDepth 20000
open Go Go.Ab Proofs.Try
variable{k r n:Nat}{f c q m x y:Int}{H H2 H':Hp}{g:qu}{E2:aB}{p:Pr}{S:Nat->Prop}{tb:qA}{O:Nat->Nat}{M:List Gr}{C:qs}
section
def tyG5b.tyF:=ad @cR (ad @dt (ad @fP (ad @fb (ad @eA (ad @ft (ad @fc (ad @xr (ad @fG (ad @vr (ad @Pz (ad @tf (ad @z7 (ad @Py (ad @PA (@zdo)))))))))))))))
open tyG5b
set_option maxRecDepth 100000 in
theorem zdP{lG:qA}(hG:zfT lG){deep lo:Nat}(hst:deep<=2->pF lG k f (deep+1))(hat:AtT f deep lo H H2 r g c q m E2)(hn0:¬q<6)(hn1:¬q<8)(hp0:q<10):cb prog (aH pls lG) 78 156 nU E2 H2 (nV k f deep lo H r g c q m):=by
 obtain⟨hd,hrl,hlo,n2,g2,o2',hr2,hL1,hm,hqd,k0,k1,k2,k6,k8,k9,k10⟩:=hat;have hkeep:(aH pls lG).keep 78=false:=rfl;have hq2:(2:Int)≠0:=aM;have j:((cr f).length:Int)≠0:=by rcases sY f with h|h<;>rw[h]<;>decide
 obtain⟨hi0,hix⟩:=rX (cr f) j hm.1 [];have hxs:=td hm.1;have hxa:=te hm.1;have hxf:=uI hm.1;have er:(H.next == r)=false:=bz ac;have e41:=eP f 4 1 g;have e50:=eP f 5 0 g;have e32:=eP f 3 2 g;have hwd:IntKind.wrap .i64 ((deep:Int)+1)=((deep+1:Nat):Int):=hT ac;unfold nV;generalize hR:gc (rZ f k deep) f g c q m=R;rw[gc]at hR;dsimp only[nU,oK,rY];repeat' (first
  |(apply aj ?_;clear hK K)|apply Ry.o ?_|(apply bq (fun hb hbp=>?_) (fun hb hbp=>?_)<;>try(cases hb;done))|apply ah ?_|(apply ai fun K hK=>?_)|apply ak ?_|apply aq ?_)
 refine qc ?_;refine bb ?_ (my hG 4 f 1 ac ac lo _ r g c hr2 ac);rintro v C ⟨⟨cs,rfl,hc1,hc2,hc3⟩,hr4,n4,o4⟩;obtain⟨M,L,I,z,o,rfl⟩:=kI hc1;obtain⟨w0,dd,w2,w3,w4⟩:=uJ hc2;dsimp only[aZ];repeat' (first
  |(apply aj ?_;clear hK K)|apply Rx.o ?_|apply aE ?_|apply ah ?_|(apply ai fun K hK=>?_)|apply ak ?_|apply aq ?_)
 generalize i:Hp.set (Hp.alloc C _) C.next _=Ha
 have na:Ha.next=C.next+1:=by rw[<-i];rfl
 have oa:∀q,q<C.next->Ha.get q=C.get q:=fun q U=>PW
 have ga:Ha.get C.next=some (.cells [.int .i64 3,.ai [],.ai [],.int .i64 0,.int .i64 0,.int .i64 0,.ai [],.int .i64 0,.ah,M,L,I,z,o,.ah,.ah,.ah] 0 true):=by rw[<-i,a1,ay rfl]
 clear i;refine qc ?_;refine bb ?_ (As hG (hst ac) 3 ac ac lo Ha r ((bQ f 4 1 g).2,c) (hr4.keep ac fun q U=>oa q ac) uk);rintro tv H5 ⟨Y,hr5,n5,o5⟩;have hl5:(kJ f k (deep+1) 3 ((bQ f 4 1 g).2,c)).2.1.length<=(bQ f 4 1 g).2.length:=dq (Ap (Aq f k (deep+1)) _ _) (mr _);obtain⟨t1,t2⟩:=Y.one;have g5:H5.get C.next=some (.cells [.int .i64 3,.ai [],.ai [],.int .i64 0,.int .i64 0,.int .i64 0,.ai [],.int .i64 0,.ah,M,L,I,z,o,.ah,.ah,.ah] 0 true):=by rw[o5 _ ac ac];exact ga
 dsimp only[aZ];repeat' (first
  |(apply aj ?_;clear hK K)|apply Rx.o ?_|apply aE ?_|apply ah ?_|(apply ai fun K hK=>?_)|apply ak ?_|apply aq ?_)
 generalize V:Hp.set H5 C.next _=Hb
 have nb:Hb.next=H5.next:=Av
 have ob:∀q,q≠C.next->Hb.get q=H5.get q:=fun q U=>Aw
 have gb:Hb.get C.next=some (.cells [.int .i64 3,.ai [],.ai [],.int .i64 0,.int .i64 0,.int .i64 0,.ai [],.int .i64 0,.ah,M,L,I,z,o,.ah,tv,.ah] 0 true):=Ax
 clear V;refine qc ?_;refine bb ?_ (As hG (hst ac) 2 ac ac lo Hb r (kJ f k (deep+1) 3 ((bQ f 4 1 g).2,c)).2 (hr5.keep ac fun q U=>ob q ac) ac);rintro uv H6 ⟨J,hr6,n6,o6⟩;obtain⟨p1,p2⟩:=J.one;have g6t:H6.get C.next=some (.cells [.int .i64 3,.ai [],.ai [],.int .i64 0,.int .i64 0,.int .i64 0,.ai [],.int .i64 0,.ah,M,L,I,z,o,.ah,tv,.ah] 0 true):=by rw[o6 _ ac ac];exact gb
 have g6:H6.get H.next=some qh:=by rw[o6 _ ac ac,ob _ ac,o5 _ ac ac,oa _ ac,o4 _ ac ac];exact g2
 have e46:(H.next == C.next)=false:=bz ac;have e64:(C.next == H.next)=false:=bz ac;dsimp only[aZ];repeat' (first
  |(apply aj ?_;clear hK K)|apply Rx.o ?_|apply aE ?_|apply ah ?_|(apply ai fun K hK=>?_)|apply ak ?_|apply aq ?_)
 refine⟨aD,_,(by(try simp only[aF,aW,Nat.reduceBEq,Nat.reduceAdd,Nat.reduceLeDiff,tyF,eh,eM,tf, *]);first|done|with_reducible rfl),?_⟩;try simp only[aC]
 rw[af ac,af ac,ay ac]at hR;subst hR;have hk6:∀q,Hb.next<=q->q<H6.next->((H6.set C.next (.cells [.int .i64 3,.ai [],.ai [],.int .i64 0,.int .i64 0,.int .i64 0,.ai [],.int .i64 0,.ah,M,L,I,z,o,.ah,tv,uv] 0 true)).set H.next (.cells [.int .i64 3,.ai [],.ai [],.int .i64 0,.int .i64 0,.int .i64 0,.ai [],.int .i64 0,.ah,M,L,I,z,o,.ah,tv,uv] 0 true)).get q=H6.get q:=fun q O Z=>D0
 have hk5:∀q,Ha.next<=q->q<H5.next->((H6.set C.next (.cells [.int .i64 3,.ai [],.ai [],.int .i64 0,.int .i64 0,.int .i64 0,.ai [],.int .i64 0,.ah,M,L,I,z,o,.ah,tv,uv] 0 true)).set H.next (.cells [.int .i64 3,.ai [],.ai [],.int .i64 0,.int .i64 0,.int .i64 0,.ai [],.int .i64 0,.ah,M,L,I,z,o,.ah,tv,uv] 0 true)).get q=H5.get q:=fun q O Z=>by rw[a1,af ac,a1,af ac,o6 _ ac ac,ob _ ac]
 refine wE rfl (by simp only[oy,oz,w0,dd,w2,w3,w4,t1,p1,kW];rfl) (wC (n:=8+k) 3 [] [] 0 uH ((hc3.up ac).aR (fun q _ U=>ac) db fun q O Z=>by rw[a1,af ac,a1,af ac,o6 _ ac ac,ob _ ac,o5 _ ac ac,oa _ ac]) .ah (Y.keep (fun q _ U=>ac) db fun q O Z=>hk5 q O Z).rd (J.keep (fun q _ U=>ac) db fun q O Z=>hk6 q O Z).rd) ?_ ?_ ?_
 .exact hr6.keep db fun q U=>D0
 .simp only[bE];omega
 .intro q O Z;rw[a1,af ac,a1,af ac,o6 _ ac Z,ob _ ac,o5 _ ac Z,oa _ ac,o4 _ ac Z];exact o2' q O Z
set_option maxRecDepth 100000 in
theorem zdQ{I:qA}(hG:zfT I){deep lo:Nat}(hst:deep<=2->pF I k f (deep+1))(hat:AtT f deep lo H H2 r g c q m E2)(hn0:¬q<6)(hn1:¬q<8)(hn2:¬q<10)(hp0:q<12):cb prog (aH pls I) 78 156 nU E2 H2 (nV k f deep lo H r g c q m):=by
 obtain⟨hd,hrl,hlo,n2,g2,o2',hr2,hL1,hm,hqd,k0,k1,k2,k6,k8,k9,k10⟩:=hat;have hkeep:(aH pls I).keep 78=false:=rfl;have hq2:(2:Int)≠0:=aM;have j:((cr f).length:Int)≠0:=by rcases sY f with h|h<;>rw[h]<;>decide
 obtain⟨hi0,hix⟩:=rX (cr f) j hm.1 [];have hxs:=td hm.1;have hxa:=te hm.1;have hxf:=uI hm.1;have er:(H.next == r)=false:=bz ac;have e41:=eP f 4 1 g;have e50:=eP f 5 0 g;have e32:=eP f 3 2 g;have hwd:IntKind.wrap .i64 ((deep:Int)+1)=((deep+1:Nat):Int):=hT ac;unfold nV;generalize hR:gc (rZ f k deep) f g c q m=R;rw[gc]at hR;dsimp only[nU,oK,rY];repeat' (first
  |(apply aj ?_;clear hK K)|apply Ry.o ?_|(apply bq (fun hb hbp=>?_) (fun hb hbp=>?_)<;>try(cases hb;done))|apply ah ?_|(apply ai fun K hK=>?_)|apply ak ?_|apply aq ?_)
 obtain⟨lv,hg,L⟩:=hr2.d7;have hcw:IntKind.wrap .i64 (c+1)=cC (c+1):=rfl;repeat' (first
  |(apply aj ?_;clear hK K)|apply Rx.o ?_|apply aE ?_|apply ah ?_|(apply ai fun K hK=>?_)|apply ak ?_|apply aq ?_)
 generalize M:Hp.set _ r _=O;have nt:O.next=H.next+1:=by rw[<-M];simpa using n2
 have ot:∀q,q≠r->O.get q=_:=fun q V=>by rw[<-M,a1,af V]
 have hrt:iE lo O r g (cC (c+1)):=by rw[<-M];exact L _
 have gt:O.get H.next=some qh:=by rw[ot _ ac];exact g2
 clear M;refine qc ?_;refine bb ?_ (my hG 4 f 1 ac ac lo O r g _ hrt ac);rintro v C ⟨⟨cs,rfl,hc1,hc2,hc3⟩,hr4,n4,o4⟩;obtain⟨v0,v1,v2,v3,v4,rfl⟩:=kI hc1;obtain⟨w0,dd,w2,w3,w4⟩:=uJ hc2;dsimp only[aZ];repeat' (first
  |(apply aj ?_;clear hK K)|apply Rx.o ?_|apply aE ?_|apply ah ?_|(apply ai fun K hK=>?_)|apply ak ?_|apply aq ?_)
 generalize i:Hp.set (Hp.alloc C _) C.next _=J
 have na:J.next=C.next+1:=by rw[<-i];rfl
 have oa:∀q,q<C.next->J.get q=C.get q:=fun q V=>PW
 have ga:J.get C.next=some (.cells [.int .i64 4,.ai [],.ai [],.int .i64 0,.int .i64 0,.int .i64 0,.ai [],.int .i64 0,.ah,v0,v1,v2,v3,v4,.ah,.ah,.ah] 0 true):=by rw[<-i,a1,ay rfl]
 clear i;refine qc ?_;refine bb ?_ (As hG (hst ac) 3 ac ac lo J r ((bQ f 4 1 g).2,cC (c+1)) (hr4.keep ac fun q V=>oa q ac) uk);rintro tv z ⟨Z,hr5,n5,o⟩;obtain⟨t1,t2⟩:=Z.one;have g5:z.get C.next=some (.cells [.int .i64 4,.ai [],.ai [],.int .i64 0,.int .i64 0,.int .i64 0,.ai [],.int .i64 0,.ah,v0,v1,v2,v3,v4,.ah,.ah,.ah] 0 true):=by rw[o _ ac ac];exact ga
 have g6:z.get H.next=some qh:=by rw[o _ ac ac,oa _ ac,o4 _ ac ac];exact gt
 have e46:(H.next == C.next)=false:=bz ac;have e64:(C.next == H.next)=false:=bz ac;dsimp only[aZ];repeat' (first
  |(apply aj ?_;clear hK K)|apply Rx.o ?_|apply aE ?_|apply ah ?_|(apply ai fun K hK=>?_)|apply ak ?_|apply aq ?_)
 refine⟨aD,_,(by(try simp only[aF,aW,Nat.reduceBEq,Nat.reduceAdd,Nat.reduceLeDiff,tyF,eh,eM,tf, *]);first|done|with_reducible rfl),?_⟩;try simp only[aC]
 rw[af ac,af ac,af ac,ay ac]at hR;subst hR;have hk5:∀q,J.next<=q->q<z.next->((z.set C.next (.cells [.int .i64 4,.ai [],.ai [],.int .i64 0,.int .i64 0,.int .i64 0,.ai [],.int .i64 0,.ah,v0,v1,v2,v3,v4,.ah,tv,.ah] 0 true)).set H.next (.cells [.int .i64 4,.ai [],.ai [],.int .i64 0,.int .i64 0,.int .i64 0,.ai [],.int .i64 0,.ah,v0,v1,v2,v3,v4,.ah,tv,.ah] 0 true)).get q=z.get q:=fun q U Y=>D0
 refine wE rfl (by simp only[oy,oz,w0,dd,w2,w3,w4,t1,kW];rfl) (wC (n:=8+k) 4 [] [] 0 uH ((hc3.up ac).aR (fun q _ V=>ac) db fun q U Y=>by rw[a1,af ac,a1,af ac,o _ ac ac,oa _ ac]) .ah (Z.keep (fun q _ V=>ac) db fun q U Y=>hk5 q U Y).rd .ah) ?_ ?_ ?_
 .exact hr5.keep db fun q V=>D0
 .simp only[bE];omega
 .intro q U Y;rw[a1,af ac,a1,af ac,o _ ac Y,oa _ ac,o4 _ ac Y,ot _ Y];exact o2' q U Y
set_option maxRecDepth 100000 in
theorem zdR{lG:qA}(hG:zfT lG){deep lo:Nat}{L:qu}(hst:deep<=2->pF lG k f (deep+1))(hat:AtT f deep lo H H2 r L c q m E2)(hn0:¬q<6)(hn1:¬q<8)(hn2:¬q<10)(hn3:¬q<12)(hn4:¬q<14)(hp0:q<15):cb prog (aH pls lG) 78 156 nU E2 H2 (nV k f deep lo H r L c q m):=by
 obtain⟨hd,hrl,hlo,n2,g2,o2',hr2,hL1,hm,hqd,k0,k1,k2,k6,k8,k9,k10⟩:=hat;have hkeep:(aH pls lG).keep 78=false:=rfl;have hq2:(2:Int)≠0:=aM;have z:((cr f).length:Int)≠0:=by rcases sY f with h|h<;>rw[h]<;>decide
 obtain⟨hi0,hix⟩:=rX (cr f) z hm.1 [];have hxs:=td hm.1;have hxa:=te hm.1;have hxf:=uI hm.1;have er:(H.next == r)=false:=bz ac;have e41:=eP f 4 1 L;have e50:=eP f 5 0 L;have e32:=eP f 3 2 L;have hwd:IntKind.wrap .i64 ((deep:Int)+1)=((deep+1:Nat):Int):=hT ac;unfold nV;generalize hR:gc (rZ f k deep) f L c q m=R;rw[gc]at hR;dsimp only[nU,oK,rY];repeat' (first
  |(apply aj ?_;clear hK K)|apply Ry.o ?_|apply b8 ?_|(apply bq (fun V g=>?_) (fun V g=>?_)<;>try(cases V;done))|apply ah ?_|(apply ai fun K hK=>?_)|(apply au 8 [(3,9),(3,11),(6,9),(6,11)] fun K hK=>?_)|(apply au 10 [(0,7),(0,10),(0,12),(4,7),(4,10),(4,12)] fun K hK=>?_)|(apply au 24 [(3,14),(6,14),(7,14),(11,14),(13,14)] fun K hK=>?_)|(apply au 28 [(1,4),(1,6),(5,6)] fun K hK=>?_)|(apply aS ?_;try intro _)|(apply aT ?_ ?_<;>clear hK K)|apply aR ?_|apply bD rfl ?_|apply ak ?_|apply am ?_|apply aq ?_|apply aw ?_)
 repeat' (first
  |(apply aj ?_;clear hK K)|apply Rx.o ?_|apply aE ?_|(apply aA (fun V g=>?_) (fun V g=>?_)<;>try(cases V;done))|apply ah ?_|(apply ai fun K hK=>?_)|(apply au 8 [(3,9),(3,11),(6,9),(6,11)] fun K hK=>?_)|(apply au 10 [(0,7),(0,10),(0,12),(4,7),(4,10),(4,12)] fun K hK=>?_)|(apply au 24 [(3,14),(6,14),(7,14),(11,14),(13,14)] fun K hK=>?_)|(apply au 28 [(1,4),(1,6),(5,6)] fun K hK=>?_)|(apply aS ?_;try intro _)|(apply aT ?_ ?_<;>clear hK K)|apply aR ?_|apply bD rfl ?_|apply ak ?_|apply am ?_|apply aq ?_|apply aw ?_)
 .exact di
 generalize i:Hp.set (Hp.alloc (Hp.alloc _ _) _) _ _=Ha;have na:Ha.next=H.next+3:=by rw[<-i];simp only[bE,bj];omega
 have oa:∀q,q<H.next->q≠r->Ha.get q=H.get q:=fun q O U=>by
  rw[<-i,a1,af ac,aQ,af dL,aQ,af ac];exact o2' q O U
 have gz:Ha.get H.next=some qh:=by
  rw[<-i,a1,af ac,aQ,af dL,aQ,af ac];exact g2
 have hra:iE lo Ha r L c:=by
  rw[<-i];exact hr2.keep ip fun q hq=>by rw[a1,af ac,aQ,af dL,aQ,af ac]
 have ga:Ha.get (H.next+2)=some (.cells [.int .i64 6,.ai ((cr f).getD (m.tmod (cr f).length).toNat []),.ai (lx m),.int .i64 0,.int .i64 0,.int .i64 0,.ai [],.int .i64 0,.ah,.int .i64 0,.int .i64 0,.ai [],.int .i64 0,.ah,.ah,.ah,.ah] 0 true):=by rw[<-i,a1,ay ac]
 clear i;have htm:0<=m.tmod 2/\m.tmod 2<2:=DR hm.1;have hw2:IntKind.wrap .i64 (2-m.tmod 2)=2-m.tmod 2:=iN ac ac;generalize hcnt:(2-m.tmod 2).toNat=Y at *;have hcn:2-m.tmod 2=(Y:Int):=ac;rw[hcn]at hw2;refine cA [0,1,6,9,13] [H.next] 14 Y (fun j E H'=>∃v es J,H'.get (H.next+2)=some (.cells [.int .i64 6,.ai ((cr f).getD (m.tmod (cr f).length).toNat []),.ai (lx m),.int .i64 0,.int .i64 0,.int .i64 0,.ai [],.int .i64 0,.ah,.int .i64 0,.int .i64 0,.ai [],.int .i64 0,.ah,v,.ah,.ah] 0 true)/\dQ (fun q=>H.next+3<=q) 4 H' 5 v (es.map Ex.cells)/\iE lo H' r J c/\(∀q,q<H.next->q≠r->H'.get q=H.get q)/\es.length=j/\J.length<=L.length/\gy f Y L=(es++(gy f (Y-j) J).1,(gy f (Y-j) J).2)) eE ⟨.ah,[],L,ga,.inl ⟨rfl,rfl⟩,hra,oa,rfl,aO _,az⟩ ?_;clear ga hra oa g2 hr2 o2';rintro j E3 H3 hj hcE hrH hnH hsI ⟨v,es,J,g3,Z,I,o3,hel,hLj,hJ⟩;(try simp only[bp,bm,aU,aF,aW,Nat.reduceBEq,Nat.reduceAdd,Nat.reduceLeDiff,tyF,gz, *]at hcE);(try simp only[bp,bm,aU,aF,aW,Nat.reduceBEq,Nat.reduceAdd,Nat.reduceLeDiff,tyF,gz, *]at hrH);(try simp only[bj,bE,cm,bO,Nat.reduceAdd]at hnH);have hB0:(H.next == H3.next)=false:=bz ac;have hC0:(H3.next == H.next)=false:=bz ac;have hle:H.next+3<=H3.next:=ac
 have e02:(H.next == H.next+2)=false:=bz ac;have e20:(H.next+2 == H.next)=false:=bz ac;obtain⟨v1,v2⟩:=Z.one;repeat' (first
  |(apply aj ?_;clear hK K)|apply Rx.o ?_|apply aE ?_|(apply aA (fun V g=>?_) (fun V g=>?_)<;>try(cases V;done))|apply ah ?_|(apply ai fun K hK=>?_)|(apply au 8 [(3,9),(3,11),(6,9),(6,11)] fun K hK=>?_)|(apply au 10 [(0,7),(0,10),(0,12),(4,7),(4,10),(4,12)] fun K hK=>?_)|(apply au 24 [(3,14),(6,14),(7,14),(11,14),(13,14)] fun K hK=>?_)|(apply au 28 [(1,4),(1,6),(5,6)] fun K hK=>?_)|(apply aS ?_;try intro _)|(apply aT ?_ ?_<;>clear hK K)|apply aR ?_|apply bD rfl ?_|apply ak ?_|apply am ?_|apply aq ?_|apply aw ?_)
 .have hlt:j<Y:=by omega
  refine qc ?_;refine bb ?_ (my hG 3 f 2 ac ac lo H3 r J c I ac);rintro v' C ⟨⟨cs,rfl,hc1,hc2,hc3⟩,hr4,n4,o4⟩;have hl4:=eP f 3 2 J;have g4:C.get (H.next+2)=some (.cells [.int .i64 6,.ai ((cr f).getD (m.tmod (cr f).length).toNat []),.ai (lx m),.int .i64 0,.int .i64 0,.int .i64 0,.ai [],.int .i64 0,.ah,.int .i64 0,.int .i64 0,.ai [],.int .i64 0,.ah,v,.ah,.ah] 0 true):=by rw[o4 _ ac ac];exact g3
  have g40:C.get H.next=some qh:=by rw[o4 _ ac ac];exact hrH
  have kb:=fun H=>Ic H hc1 hc2;have hvq:∀q o m z',v=.sl q o m z'->H.next+3<=q/\q<H3.next:=fun q o m z' e=>by
   rcases Z with⟨rfl,_⟩|⟨q',imm,rows,rfl,e1,e2,_⟩
   .cases e
   .simp only[AV.sl.injEq]at e;rw[<-e.1];exact⟨e1,e2⟩
  have ob:∀q,q<C.next->(C.alloc (.cells cs 0 true)).get q=C.get q:=fun q hq=>eG
  have M:dQ (fun q=>H.next+3<=q) 4 (C.alloc (.cells cs 0 true)) 5 v (es.map Ex.cells):=Z.keep (fun q _ h=>h) dL fun q O U=>by rw[ob _ ac,o4 q U ac]
  have gcs:(C.alloc (.cells cs 0 true)).get C.next=some (.cells cs 0 true):=gD
  have g4b:(C.alloc (.cells cs 0 true)).get (H.next+2)=some (.cells [.int .i64 6,.ai ((cr f).getD (m.tmod (cr f).length).toNat []),.ai (lx m),.int .i64 0,.int .i64 0,.int .i64 0,.ai [],.int .i64 0,.ah,.int .i64 0,.int .i64 0,.ai [],.int .i64 0,.ah,v,.ah,.ah] 0 true):=by rw[ob _ ac];exact g4
  obtain⟨v5,H5,a5,s5,n5,f5,q5⟩:=dQ.push (P:=prog) (t:=57) underlying57 FY KL KM rfl aG M dL (r:=C.next) (imm:=0) (row:=cs) (w:=(bQ f 3 2 J).1.cells) gcs hc1 hc2 (hc3.aR (fun q O U=>⟨ac,fun o m z' e=>by have:=(hvq q o m z' e).2;omega⟩) (dH _) fun q O U=>ob q U) DL DL;simp only[bj]at n5 f5;have o5:∀q,q<C.next->q<H.next+3->H5.get q=C.get q:=fun q O U=>by rw[f5 q ac (fun o m z' e=>Ia),ob q O]
  have g5:H5.get (H.next+2)=some (.cells [.int .i64 6,.ai ((cr f).getD (m.tmod (cr f).length).toNat []),.ai (lx m),.int .i64 0,.int .i64 0,.int .i64 0,.ai [],.int .i64 0,.ah,.int .i64 0,.int .i64 0,.ai [],.int .i64 0,.ah,v,.ah,.ah] 0 true):=by rw[o5 _ ac ac];exact g4
  have n5':C.next+2<=H5.next:=ac
  obtain⟨p1,p2⟩:=s5.one;clear f5 q5 Z M I;dsimp only[aZ];repeat' (first
   |(apply aj ?_;clear hK K)|apply Rx.o ?_|apply aE ?_|(apply aA (fun V g=>?_) (fun V g=>?_)<;>try(cases V;done))|apply ah ?_|(apply ai fun K hK=>?_)|(apply au 8 [(3,9),(3,11),(6,9),(6,11)] fun K hK=>?_)|(apply au 10 [(0,7),(0,10),(0,12),(4,7),(4,10),(4,12)] fun K hK=>?_)|(apply au 24 [(3,14),(6,14),(7,14),(11,14),(13,14)] fun K hK=>?_)|(apply au 28 [(1,4),(1,6),(5,6)] fun K hK=>?_)|(apply aS ?_;try intro _)|(apply aT ?_ ?_<;>clear hK K)|apply aR ?_|apply bD rfl ?_|apply ak ?_|apply am ?_|apply aq ?_|apply aw ?_)
  .exact di
  .have o6:∀q,q≠H.next+2->(H5.set (H.next+2) (.cells [.int .i64 6,.ai ((cr f).getD (m.tmod (cr f).length).toNat []),.ai (lx m),.int .i64 0,.int .i64 0,.int .i64 0,.ai [],.int .i64 0,.ah,.int .i64 0,.int .i64 0,.ai [],.int .i64 0,.ah,v5,.ah,.ah] 0 true)).get q=H5.get q:=fun q hq=>by rw[a1,af hq]
   have g60:H5.get H.next=some qh:=by rw[o5 _ ac ac];exact g40
   refine⟨ac,PU,PU,ce,(by simp only[aF,Nat.reduceBEq, *];exact gQ (n:=Y) ac ac),?_⟩;refine⟨v5,es++[(bQ f 3 2 J).1],(bQ f 3 2 J).2,gL,by rw[sw];exact s5.keep (fun q _ h=>h) db fun q O U=>o6 q ac,hr4.keep db fun q hq=>by rw[o6 q ac,o5 q ac ac],fun q O U=>by rw[o6 q ac,o5 q ac ac,o4 q ac U,o3 q O U],by simp[hel],ac,?_⟩;rw[hJ,show Y-j=(Y-(j+1))+1 by omega,gy];simp
 .have hje:j=Y:=by omega
  subst hje;repeat' (first
   |(apply aj ?_;clear hK K)|apply Rx.o ?_|apply aE ?_|(apply aA (fun V g=>?_) (fun V g=>?_)<;>try(cases V;done))|apply ah ?_|(apply ai fun K hK=>?_)|(apply au 8 [(3,9),(3,11),(6,9),(6,11)] fun K hK=>?_)|(apply au 10 [(0,7),(0,10),(0,12),(4,7),(4,10),(4,12)] fun K hK=>?_)|(apply au 24 [(3,14),(6,14),(7,14),(11,14),(13,14)] fun K hK=>?_)|(apply au 28 [(1,4),(1,6),(5,6)] fun K hK=>?_)|(apply aS ?_;try intro _)|(apply aT ?_ ?_<;>clear hK K)|apply aR ?_|apply bD rfl ?_|apply ak ?_|apply am ?_|apply aq ?_|apply aw ?_)
  refine⟨aD,_,(by(try simp only[aF,aW,Nat.reduceBEq,Nat.reduceAdd,Nat.reduceLeDiff,tyF,eh,eM,tf, *]);first|done|with_reducible rfl),?_⟩;try simp only[aC]
  rw[af ac,af ac,af ac,af ac,af ac,ay ac,hJ,lU]at hR;subst hR;simp only[gy,jI];refine wE rfl (by simp only[oy,oz,v1,kW];rfl) (wC (n:=8+k) 6 _ _ 0 uH uH ((Z.keep (fun q _ hq=>ac) db fun q O U=>jd).rd.up ac) .ah .ah) ?_ ?_ ?_
  .exact I.keep db fun q hq=>jd
  .simp only[bE];omega
  .intro q O U;rw[a1,af ac];exact o3 q O U
end
section
def tyG5.tyF:=ad @cR (ad @dt (ad @fP (ad @fb (ad @eA (ad @ft (ad @fc (ad @xr (ad @fG (ad @PA (@tL))))))))))
open tyG5
set_option maxRecDepth 100000 in
theorem zdT{lG:qA}(V:zfT lG){deep:Nat}(hd:deep<=3)(O:deep<=2->pF lG k f (deep+1)):pF lG (k+1) f deep:=by
 intro lo H r s C hL;have hw:zd0 (aH pls lG) 78:=V.plain ea;have hnx:zd0 (aH pls lG) 40:=V.plain ea;have hkeep:(aH pls lG).keep 78=false:=rfl;have hrl:=C.1;have hlo:=C.2.1;have hq16:(16:Int)≠0:=aM;have hq2:(2:Int)≠0:=aM;have i:((cr f).length:Int)≠0:=by rcases sY f with h|h<;>rw[h]<;>decide
 rw[fS,uG];refine bF (M:=156) (rs:=[.cell 6 124]) (hw.call _) hw.aD hw.aq func78 rfl rfl rY.2 rfl ?_;dsimp only[rY,bA,Nat.reduceAdd];repeat' (first
  |(apply aj ?_;clear hK K)|apply Rx.o ?_|apply dE ?_|(apply aX (fun J g=>?_) (fun J g=>?_)<;>try(cases J;done))|(apply aA (fun o Z=>?_) (fun o Z=>?_)<;>try(cases o;done))|apply ah ?_|(apply ai fun K hK=>?_)|apply am ?_)
 refine qc ?_;refine bb ?_ (Dy hnx (C.keep (dH _) fun q hq=>eG) hL);rintro v H2 ⟨rfl,hr2,n2,o2⟩;simp only[bj]at n2;have g2:H2.get H.next=some qh:=by rw[o2 _ ac,aQ,ay rfl]
 have o2':∀q,q<H.next->q≠r->H2.get q=H.get q:=fun q h1 h2=>by rw[o2 q h2,aQ,af ac]
 have hL1:=mr s.1;generalize (b7 s.1).1=n at *;generalize (b7 s.1).2=L1 at *;obtain⟨sL,c⟩:=s;simp only[]at *;have hq:=ll (n:=n) (m:=16) ac ac;have hm:=ll (n:=cC (n.tdiv 16)) (m:=1000) ac ac;obtain⟨hi0,hix⟩:=rX (cr f) i hm.1 [];have hxs:=td hm.1;have hxa:=te hm.1;have hxf:=uI hm.1;clear o2;dsimp only[aZ];repeat' (first
  |(apply aj ?_;clear hK K)|apply Rx.o ?_|(apply eC ?_;first|refine bi (Ol V.nms _ _) ?_|refine bi (wn V.pick _ 1000 aM _) ?_)|apply dE ?_|(apply aX (fun J g=>?_) (fun J g=>?_)<;>try(cases J;done))|(apply aA (fun o Z=>?_) (fun o Z=>?_)<;>try(cases o;done))|apply ah ?_|(apply ai fun K hK=>?_)|apply am ?_)
 refine qc ?_;refine bb ?_ (wn V.pick n 16 aM _);rintro _ _ ⟨rfl,rfl⟩;dsimp only[aZ];refine Rx.o ?_;refine yZ (hK _ _ ?_);clear hK K;dsimp only[nr,tK];generalize dr n 16=L at *;generalize dr (cC (n.tdiv 16)) 1000=m at *;obtain⟨lv,hgr,hlen⟩:=hr2.len;rename_i H2;simp only[bM,bI,bT,bU,Nat.blt,Nat.ble,vC,nC,cn];refine ah ?_;refine ah ?_;refine ai fun K I=>?_;have hK:∀j H3,(j.at 0=.ptr r 0/\j.at 1=.int .i64 f/\j.at 2=.int .i64 deep/\j.at 6=.ptr H.next 0/\j.at 8=cM (cr f)/\j.at 9=.int .i64 m/\j.at 10=.int .i64 L/\(∃b,j.at 44=.bool b/\(b=true↔(((2:Int)<deep/\8<=L/\L<12)\/(10<=c/\10<=L))))/\H3=H2)->K j H3:=by
  rintro j H3 ⟨k0,k1,k2,k6,k8,k9,z,⟨b,k44,o⟩,rfl⟩;apply I;clear I K;dsimp only[nr,tK];have Y:wB deep c L=if ((2:Int)<deep/\8<=L/\L<12)\/(10<=c/\10<=L)then 0 else L:=rfl
  generalize wB deep c L=q at *;have hqr:0<=q/\q<16:=by rw[Y];split<;>omega
  have hqd:8<=q->q<12->deep<=2:=by rw[Y];split<;>omega
  refine zdl (fun E' H'=>E'.at 0=.ptr r 0/\E'.at 1=.int .i64 f/\E'.at 2=.int .i64 deep/\E'.at 6=.ptr H.next 0/\E'.at 8=cM (cr f)/\E'.at 9=.int .i64 m/\E'.at 10=.int .i64 q/\H'=H3) ?_ ?_
  .cases b with
   |true=>
    rw[ay (o.1 rfl)]at Y;repeat' (first
     |(apply aj ?_;clear hK K)|apply Rx.o ?_|apply dE ?_|(apply aX (fun J g=>?_) (fun J g=>?_)<;>try(cases J;done))|(apply aA (fun o Z=>?_) (fun o Z=>?_)<;>try(cases o;done))|apply ah ?_|(apply ai fun K hK=>?_)|apply am ?_)
    exact⟨rfl,eE,eE,eE,eE,eE,eE,PV,rfl⟩
   |false=>
    rw[af (fun h=>by have:=o.2 h;cases this)]at Y;repeat' (first
     |(apply aj ?_;clear hK K)|apply Rx.o ?_|apply dE ?_|(apply aX (fun J g=>?_) (fun J g=>?_)<;>try(cases J;done))|(apply aA (fun o Z=>?_) (fun o Z=>?_)<;>try(cases o;done))|apply ah ?_|(apply ai fun K hK=>?_)|apply am ?_)
    exact⟨rfl,eE,eE,eE,eE,eE,eE,PV,rfl⟩
  clear k0 k1 k2 k6 k8 k9 z k44 o Y hq;rintro E3 H' ⟨k0,k1,k2,k6,k8,k9,z,rfl⟩;have U:AtT f deep lo H H' r L1 c q m E3:=⟨hd,hrl,hlo,n2,g2,o2',hr2,ac,hm,hqd,k0,k1,k2,k6,k8,k9,z⟩;by_cases c1:q<6
  .exact zdL V O U c1
  by_cases c2:q<8
  .exact zdM V O U c1 c2
  by_cases c3:q<10
  .exact zdP V O U c1 c2 c3
  by_cases c4:q<12
  .exact zdQ V O U c1 c2 c3 c4
  by_cases c5:q<14
  .exact zdN V O U c1 c2 c3 c4 c5
  by_cases c6:q<15
  .exact zdR V O U c1 c2 c3 c4 c5 c6
  exact zdO V O U c1 c2 c3 c4 c5 c6
 clear I;repeat' (first
  |(apply aj ?_;clear hK K)|apply Rx.o ?_|apply dE ?_|(apply aX (fun J g=>?_) (fun J g=>?_)<;>try(cases J;done))|apply ah ?_|(apply ai fun K hK=>?_)|apply am ?_)
 all_goals
  refine⟨eE,eE,eE,eE,eE,eE,eE,⟨_,eE,?_⟩,rfl⟩;first
  |exact⟨fun _=>ac,fun _=>rfl⟩
  |exact⟨fun h=>(by cases h),fun h=>(by omega:False).elim⟩
  |exact⟨fun h=>by(have h:=sR h;omega),fun h=>io ac⟩
theorem P1{i:qA}(Z:zfT i)(f:Int):∀(k V:Nat),4<=V+k->V<=3->pF i k f V
 |0,V,h1,h2=>by omega
 |k+1,V,h1,h2=>zdT Z h2 fun h=>P1 Z f k (V+1) ac ac
end
section
def tyG6.tyF:=ad @ez (ad @cR (ad @dt (ad @fP (ad @gH (ad @iV (ad @gO (ad @fb (ad @eA (ad @ft (ad @fc (ad @l8 (ad @l9 (ad @xr (ad @fG (ad @tL (ad @z7 (ad @ve (@yO))))))))))))))))))
open tyG6
noncomputable def P2:{c:SC // aI 61 (f17.body.getD .skip)=c}:=by
 refine⟨?_,?_⟩;rotate_left
 .simp only[f17,bS,aI,bM,bI,bT,bU,Nat.blt,Nat.ble];rfl
def P3(i:qA):Prop:=∀(f:Int) (k V:Nat),4<=V+k->V<=3->pF i k f V
def zdU{i:qA}(V:zfT i):P3 i:=P1 V
def ir(L:qu):qD×cK:=kJ 0 4 0 5 ((b7 L).2,0)
def jW(L:qu):Ex×qu:=bQ 0 4 1 (ir L).2.1
def lN(L:qu):qD×cK:=kJ 1 3 1 3 ((jW L).2,(ir L).2.2)
def th(L:qu):Ex×qu:=bQ 1 4 1 (lN L).2.1
def gU(L:qu):Fu:=⟨[102],[[120],[121]],[[105],[106]],(ir L).1,(jW L).1⟩
def gV(L:qu):Fu:=⟨[103],[[110]],[[105]],(lN L).1,(th L).1⟩
def nX(L:qu):qP:=[⟨[97],1+dr (b7 L).1 4⟩,⟨[98],1+dr (cC ((b7 L).1.tdiv 4)) 4⟩]
def cN(l:qu):Pr:=⟨nX (l.take 60),[gU (l.take 60),gV (l.take 60)]⟩
structure zf2 (lo n:Nat) (H:Hp) (p:Pr) (ra rf:Nat) (x y:Int) (f g:Fu) (cf cg:qs):Prop where
 ep:p=⟨[⟨[97],x⟩,⟨[98],y⟩],[f,g]⟩
 ga:H.get ra=some (.cells [.ai [97],.int .i64 x,.ai [98],.int .i64 y] 0 true)
 gf:H.get rf=some (.cells (cf++cg) 0 true)
 la:lo<=ra/\ra<H.next
 lf:lo<=rf/\rf<H.next
 ne:ra≠rf
 lcf:cf.length=9
 lcg:cg.length=9
 wf:cJ (fun q=>lo<=q/\q≠ra/\q≠rf) n H cf f.cells
 wg:cJ (fun q=>lo<=q/\q≠ra/\q≠rf) n H cg g.cells
def zf2.cells{lo:Nat}{V Y:Nat}{f g:Fu}{z j:qs}(h:zf2 lo (n+1) H p V Y x y f g z j):cJ (fun q=>lo<=q) (n+2) H [.sl V 0 2 2,.sl Y 0 2 9] p.cells:=by
 rw[h.ep];refine .cons ?_ (.cons ?_ .nil)
 .refine sZ (n:=n+1) (a:=[[.ai [97],.int .i64 x],[.ai [98],.int .i64 y]]) (imm:=0) (tip:=true) h.la.1 h.la.2 h.ga az ⟨⟨rfl,.cons (.ai _) (.cons (.int _ _) .nil)⟩,⟨rfl,.cons (.ai _) (.cons (.int _ _) .nil)⟩,trivial⟩
 .refine sZ (n:=n+1) (a:=[z,j]) (imm:=0) (tip:=true) h.lf.1 h.lf.2 (by rw[h.gf];simp) az ⟨⟨h.lcf,h.wf.keep (fun q K=>K.1) (aO _) fun _ _ _=>rfl⟩,⟨h.lcg,h.wg.keep (fun q K=>K.1) (aO _) fun _ _ _=>rfl⟩,trivial⟩
def P4(nm:qw){p l b:AV}{v:qs}{f:Fu}(C:f.name=nm)(h1:ec S (n+1) H p (cM f.params))(h2:ec S (n+1) H l (cM f.aj))(m:ec S (n+1) H b (.ao (f.body.map St.cells)))(U:cJ S (n+1) H v f.value.cells):cJ S (n+1) H ([.ai nm,p,l,b]++v) f.cells:=by
 have e:f.cells=[.ai f.name,cM f.params,cM f.aj,.ao (f.body.map St.cells)]++f.value.cells:=tJ;rw[e,C];exact(cJ.cons (.ai _) (.cons h1 (.cons h2 (.cons m .nil)))).append U
def D1{imm:Nat}{tip:Bool}(l:qt)(hS:S r)(hr:r<H.next)(J:H.get r=some (.cells (l.map .ai) imm tip))(Z:imm<=l.length):ec S (n+2) H (.sl r 0 l.length 1) (cM l):=by
 have:=sZ (n:=n+1) (a:=l.map fun s=>[AV.ai s]) (z:=1) hS hr (by rw[CI];exact J) (by rw[CI];simpa using Z) (eO.cE l);rw[dx]at this;exact this
def zdV(H:Hp):dW prog H 22 0 []=some (.sl H.next 0 0 1,H.alloc qe):=aG
def zdW(v:Nat)(n:Nat):dK prog 104 [(0,.sl v 0 n 1)]=some (.agg [.sl v 0 n 1,.int .i64 0]):=aG
def zdX(s:qw)(n:Int):dK prog 71 [(0,.ai s),(1,.int .i64 n)]=some (.agg [.ai s,.int .i64 n]):=aG
def zdY(H:Hp)(a b:qw)(x y:Int):dW prog H 23 2 [(0,.agg [.ai a,.int .i64 x]),(1,.agg [.ai b,.int .i64 y])]=some (.sl H.next 0 2 2,H.alloc (.cells [.ai a,.int .i64 x,.ai b,.int .i64 y] 0 true)):=aG
def zdZ(r n:Nat):dK prog 41 [(0,.sl r 0 n 2)]=some (.agg [.sl r 0 n 2,.ah]):=aG
def zea(s:qw)(r n q m:Nat):dK prog 63 [(0,.ai s),(1,.sl r 0 n 1),(2,.sl q 0 m 1)]=some (.agg [.ai s,.sl r 0 n 1,.sl q 0 m 1,.ah,.int .i64 0,.int .i64 0,.ai [],.int .i64 0,.ah]):=aG
def zeb(H:Hp)(mA bK bW g m O V J C z Z i U K b5 b6 Y M:AV):dW prog H 39 2 [(0,.agg [mA,bK,bW,g,m,O,V,J,C]),(1,.agg [z,Z,i,U,K,b5,b6,Y,M])]=some (.sl H.next 0 2 9,H.alloc (.cells [mA,bK,bW,g,m,O,V,J,C,z,Z,i,U,K,b5,b6,Y,M] 0 true)):=aG
def Im(H:Hp)(s:qw):dW prog H 60 1 [(0,.ai s)]=some (.sl H.next 0 1 1,H.alloc (.cells [.ai s] 0 true)):=aG
theorem In(a b:AV):cQ 2 [a,b]=some (.agg [a,b]):=rfl
theorem zec(l:qu):(l.map fun n=>[AV.int .i64 n]).flatten=l.map fun n=>AV.int .i64 n:=by
 induction l with
 |nil=>rfl
 |cons a l ih=>simp only[dS,od,ih];rfl
theorem zed{q:Nat}(l:qu)(J:H.get q=some qe)(K:q<H.next)(U:l.length<=60):
 ∃v H',dm prog false H 22 22 (.sl q 0 0 1) (.ao (l.map fun n=>[AV.int .i64 n]))=some (v,H')/\(∃b L,v=.sl b 0 l.length 1/\H'.get b=some (.cells (l.map fun n=>.int .i64 n) L true)/\b<H'.next/\(b=q\/b=H.next))/\H.next<=H'.next/\∀k,k<H.next->k≠q->H'.get k=H.get k:=by
 have i:dX=70368744177664:=rfl;have m:(l.map fun n=>[AV.int .i64 n]).flatten=l.map fun n=>AV.int .i64 n:=zec l;have I:fN H 1 (.ao (l.map fun n=>[AV.int .i64 n]))=some (l.length,l.map fun n=>AV.int .i64 n):=by
  have e:fN H 1 (.ao (l.map fun n=>[AV.int .i64 n]))=if ((l.map fun n=>[AV.int .i64 n]).all fun Y=>Y.length == 1)then some ((l.map fun n=>[AV.int .i64 n]).length,(l.map fun n=>[AV.int .i64 n]).flatten)else none:=rfl
  rw[e,ay az,m,dx]
 have V:(l.map fun n=>AV.int .i64 n).all AV.one=true:=by simp[AV.one]
 cases l with
 |nil=> 
  refine⟨.sl q 0 0 1,H,?_,⟨q,0,rfl,J,K,.inl rfl⟩,aO _,fun _ _ _=>rfl⟩
  .simp only[dm,underlying22,jL,o7,pd,show iR prog 22=true by kernel_rfl,I,gM]
 |cons a l=>
  simp only[eT]at I U;have Z:ii false H 1 (.sl q 0 0 1)=H:=by
   unfold ii;simp only[J];rfl
  refine⟨.sl H.next 0 (0+(l.length+1)) 1,(H.aP q).alloc (.cells ([]++(a::l).map fun n=>.int .i64 n) (0-0) true),?_,⟨H.next,0,az,?_,cI _,.inr rfl⟩,dH _,fun k j g=>?_⟩
  .simp only[dm,underlying22,jL,o7,pd,show iR prog 22=true by kernel_rfl,I,V,Z,pP,bC,mC,mW,J,bO,lW,List.drop_nil,dC,bH];rw[ay ⟨kZ,kZ,az⟩]
  .show((H.aP q).alloc _).get (H.aP q).next=_
   rw[aQ,ay rfl];simp
  .rw[aQ,af nI,hO,af g]
theorem zee(l:qu):jA prog 22 (.ao (l.map fun n=>[AV.int .i64 n])) none (some (.int .i64 (min (l.length:Int) 60)))=some (.ao ((l.take 60).map fun n=>[AV.int .i64 n])):=by
 have e:min (l.length:Int) 60=((min l.length 60:Nat):Int):=ac;rw[e];simp only[jA,underlying22,jL];show(if 0<=min l.length 60/\min l.length 60<=(l.map fun n=>[AV.int .i64 n]).length then _ else none)=_;rw[ay ⟨dN _,ca⟩];have J:((l.map fun n=>[AV.int .i64 n]).drop 0).take (min l.length 60-0)=(l.take 60).map fun n=>[AV.int .i64 n]:=by
  rw[fF,BA,<-List.map_take,List.take_eq_take_iff.2];omega
 rw[J];cases l.take 60 with
 |nil=>rfl
 |cons a l=>rfl
abbrev qf:HB:=.cells [.ah,.ah] 0 true
structure AtP (n0 M:Nat) (x y:Int) (H:Hp):Prop where
 lt:n0<M/\M+8<=H.next
 rs:H.get n0=some qf
 ra:H.get (M+1)=some (.cells [.ai [97],.int .i64 x,.ai [98],.int .i64 y] 0 true)
 t5:H.get (M+2)=some (.cells [.sl (M+1) 0 2 2,.sl (M+7) 0 2 9] 0 true)
 p1:H.get (M+3)=some (.cells [.ai [120],.ai [121]] 0 true)
 l1:H.get (M+4)=some (.cells [.ai [105],.ai [106]] 0 true)
 p2:H.get (M+5)=some (.cells [.ai [110]] 0 true)
 l2:H.get (M+6)=some (.cells [.ai [105]] 0 true)
def AtP.keep{m M:Nat}(h:AtP m M x y H)(C:H.next<=H'.next)(J:∀q,(q=m\/M+1<=q/\q<M+7)->H'.get q=H.get q):AtP m M x y H':=by
 obtain⟨⟨Y,Z⟩,rs,V,U,o,l1,i,l2⟩:=h;exact⟨⟨Y,ac⟩,by rw[J _ (.inl rfl)];exact rs,by rw[J _ ac];exact V,by rw[J _ ac];exact U,by rw[J _ ac];exact o,by rw[J _ ac];exact l1,by rw[J _ ac];exact i,by rw[J _ ac];exact l2⟩
set_option maxRecDepth 100000 in
theorem zef{lG:qA}(hG:zfT lG)(hst:P3 lG)(l:qu)(hl:l.length<2^63)(H:Hp):
 aY prog (aH pls lG) 17 [.ao (l.map fun n=>[AV.int .i64 n])] H fun v H'=>∃ra rf x y cf cg,v=.agg [.sl ra 0 2 2,.sl rf 0 2 9]/\zf2 H.next 14 H' (cN l) ra rf x y (gU (l.take 60)) (gV (l.take 60)) cf cg/\H.next<=H'.next/\(∀q,q<H.next->H'.get q=H.get q)/\H.next<ra/\∃pt pf lf bf vf pg lg bg vg,cf=DA [102] pf lf bf vf/\cg=DA [103] pg lg bg vg/\ProgL pt 14 H' ra rf x y (gU (l.take 60)) (gV (l.take 60)) pf lf bf vf pg lg bg vg/\nX (l.take 60)=[⟨[97],x⟩,⟨[98],y⟩]/\∀q,q<H.next->pt q=0:=by
 have hw:zd0 (aH pls lG) 17:=hG.plain ea;have hkeep:(aH pls lG).keep 17=false:=rfl;have hnx:zd0 (aH pls lG) 40:=hG.plain ea;have hs:=zee l;have hL60:(l.take 60).length<=60:=vd;have hq4:(4:Int)≠0:=aM;have hgP:cN l=⟨nX (l.take 60),[gU (l.take 60),gV (l.take 60)]⟩:=rfl;generalize cN l=P0 at *;refine bF (M:=61) (rs:=[.cell 2 41]) (hw.call _) hw.aD hw.aq func17 rfl rfl P2.2 rfl ?_;dsimp only[P2,bA,Nat.reduceAdd];have gh0:=@zdV;repeat' (first
  |(apply aj ?_;clear hK K)|apply Rx.o ?_|apply aE ?_|apply ah ?_|(apply ai fun K hK=>?_)|(apply au 5 [(1,3),(1,6)] fun K hK=>?_)|(apply au 6 [(1,3),(1,6)] fun K hK=>?_)|(apply au 7 [(1,3),(1,6)] fun K hK=>?_)|(apply au 8 [(1,3),(1,6)] fun K hK=>?_)|(apply aS ?_;try intro _)|(apply aT ?_ ?_<;>clear hK K)|apply aR ?_|apply bD rfl ?_|apply aq ?_)
 generalize l.take 60=L at *;have gq:((H.alloc qf).alloc qe).get (H.next+1)=some qe:=by rw[aQ,ay ea]
 obtain⟨v,Z,bW,⟨b,imm,rfl,gb,hb,hb2⟩,n2,o2⟩:=zed L gq (cI _) hL60;simp only[bj]at n2 o2 hb2;refine jr cS cS (by rw[hkeep];exact bW) ?_;have gh0:=@zdW;repeat' (first
  |(apply aj ?_;clear hK K)|apply Rx.o ?_|apply aE ?_|apply ah ?_|(apply ai fun K hK=>?_)|(apply au 5 [(1,3),(1,6)] fun K hK=>?_)|(apply au 6 [(1,3),(1,6)] fun K hK=>?_)|(apply au 7 [(1,3),(1,6)] fun K hK=>?_)|(apply au 8 [(1,3),(1,6)] fun K hK=>?_)|(apply aS ?_;try intro _)|(apply aT ?_ ?_<;>clear hK K)|apply aR ?_|apply bD rfl ?_|apply aq ?_)
 have hrd3:iE (Z.next+1) (Z.alloc (.cells [.sl b 0 L.length 1,.int .i64 0] 0 true)) Z.next L 0:=⟨cI _,aO _,_,gD,.inr ⟨b,0,_,imm,rfl,by rw[aQ,af ac];exact gb,rfl,ac,ac⟩⟩
 have g3:(Z.alloc (.cells [.sl b 0 L.length 1,.int .i64 0] 0 true)).get H.next=some qf:=by rw[aQ,af ac,o2 _ ac ac,aQ,af dL,aQ,ay rfl]
 have o3:∀q,q<H.next->(Z.alloc (.cells [.sl b 0 L.length 1,.int .i64 0] 0 true)).get q=H.get q:=fun q U=>by rw[aQ,af ac,o2 _ ac ac,aQ,af dL,aQ,af ac]
 generalize hH3:Z.alloc (.cells [.sl b 0 L.length 1,.int .i64 0] 0 true)=H3 at *;have n3:H3.next=Z.next+1:=by rw[<-hH3];rfl
 clear hH3 gb hb hb2 bW gq o2;refine qc ?_;refine bb ?_ (Dy hnx hrd3 ac);rintro v H4 ⟨rfl,hr4,n4,o4⟩;have g4:H4.get H.next=some qf:=by rw[o4 _ ac];exact g3
 have o4':∀q,q<H.next->H4.get q=H.get q:=fun q U=>by rw[o4 _ ac];exact o3 q U
 clear o4 o3 g3 hrd3;have hL1:=mr L;have hA:nX L=[⟨[97],1+dr (b7 L).1 4⟩,⟨[98],1+dr (cC ((b7 L).1.tdiv 4)) 4⟩]:=rfl;have hp1:=ll (n:=(b7 L).1) (m:=4) ac ac;have hp2:=ll (n:=cC ((b7 L).1.tdiv 4)) (m:=4) ac ac;have hB1:ir L=kJ 0 4 0 5 ((b7 L).2,0):=rfl;have hV1:jW L=bQ 0 4 1 (ir L).2.1:=rfl;have hB2:lN L=kJ 1 3 1 3 ((jW L).2,(ir L).2.2):=rfl;have hV2:th L=bQ 1 4 1 (lN L).2.1:=rfl;have hF1:gU L=⟨[102],[[120],[121]],[[105],[106]],(ir L).1,(jW L).1⟩:=rfl;have hF2:gV L=⟨[103],[[110]],[[105]],(lN L).1,(th L).1⟩:=rfl;have hl1:(ir L).2.1.length<=(b7 L).2.length:=by rw[hB1];exact dq (Ap (Aq 0 4 0) _ _) (mr _)
 have hl2:(jW L).2.length<=(ir L).2.1.length:=eP 0 4 1 _;have hl3:(lN L).2.1.length<=(jW L).2.length:=by rw[hB2];exact dq (Ap (Aq 1 3 1) _ _) (mr _)
 generalize ir L=B1 at *;generalize jW L=V1 at *;generalize lN L=B2 at *;generalize th L=V2 at *;generalize gU L=Ff at *;generalize gV L=Fg at *;generalize nX L=Aa at *;generalize (b7 L).1=n at *;generalize (b7 L).2=L1 at *;have hw1:IntKind.wrap .i64 (1+dr n 4)=1+dr n 4:=iN ac ac;have hw2:IntKind.wrap .i64 (1+dr (cC (n.tdiv 4)) 4)=1+dr (cC (n.tdiv 4)) 4:=iN ac ac;have hw3:IntKind.wrap .i64 (n.tdiv 4)=cC (n.tdiv 4):=rfl;dsimp only[aZ];have gh0:=@zdX;have gh1:=@zdY;have gh2:=@zdZ;have gh3:=@Im;have gh4:=@zea;have gh5:=@zeb;repeat' (first
  |(apply aj ?_;clear hK K)|apply Rx.o ?_|apply aE ?_|(apply eC ?_;first|refine bi (wn hG.pick _ _ aM _) ?_)|apply ah ?_|(apply ai fun K hK=>?_)|(apply au 5 [(1,3),(1,6)] fun K hK=>?_)|(apply au 6 [(1,3),(1,6)] fun K hK=>?_)|(apply au 7 [(1,3),(1,6)] fun K hK=>?_)|(apply au 8 [(1,3),(1,6)] fun K hK=>?_)|(apply aS ?_;try intro _)|(apply aT ?_ ?_<;>clear hK K)|apply aR ?_|apply bD rfl ?_|apply aq ?_)
 generalize hx:1+dr n 4=x at *;generalize hy:1+dr (cC (n.tdiv 4)) 4=y at *;rename_i H4 _;have hne:∀i,(H.next == Z.next+i)=false:=fun i=>bz ac;have hmn:H.next<Z.next:=ac
 generalize hHs:Hp.set (Hp.alloc _ _) _ _=Hs;have hat:AtP H.next Z.next x y Hs:=by
  rw[<-hHs];refine⟨⟨hmn,ip⟩,?_,?_,?_,?_,?_,?_,?_⟩
  .repeat (first|rw[a1,af lM]|rw[aQ,af lM])
   exact g4
  ·(repeat (first|rw[a1,af lM]|rw[aQ,af lM]));(first|rw[a1,ay nW]|rw[aQ,ay nW])
  ·(repeat (first|rw[a1,af lM]|rw[aQ,af lM]));(first|rw[a1,ay nW]|rw[aQ,ay nW])
  ·(repeat (first|rw[a1,af lM]|rw[aQ,af lM]));(first|rw[a1,ay nW]|rw[aQ,ay nW])
  ·(repeat (first|rw[a1,af lM]|rw[aQ,af lM]));(first|rw[a1,ay nW]|rw[aQ,ay nW])
  ·(repeat (first|rw[a1,af lM]|rw[aQ,af lM]));(first|rw[a1,ay nW]|rw[aQ,ay nW])
  ·(repeat (first|rw[a1,af lM]|rw[aQ,af lM]));(first|rw[a1,ay nW]|rw[aQ,ay nW])
 have gf:Hs.get (Z.next+7)=some (.cells [.ai [102],.sl (Z.next+3) 0 2 1,.sl (Z.next+4) 0 2 1,.ah,.int .i64 0,.int .i64 0,.ai [],.int .i64 0,.ah,.ai [103],.sl (Z.next+5) 0 1 1,.sl (Z.next+6) 0 1 1,.ah,.int .i64 0,.int .i64 0,.ai [],.int .i64 0,.ah] 0 true):=by
  rw[<-hHs];(repeat (first|rw[a1,af lM]|rw[aQ,af lM]));(first|rw[a1,ay nW]|rw[aQ,ay nW])
 have olds:∀q,q<Z.next+1->Hs.get q=H4.get q:=fun q U=>by
  rw[<-hHs];repeat (first|rw[a1,af ac]|rw[aQ,af lM])
 have hns:Hs.next=Z.next+8:=by rw[<-hHs];simp only[bE,bj];omega
 have hrs:iE (Z.next+1) Hs Z.next L1 0:=hr4.keep ac olds
 have os:∀q,q<H.next->Hs.get q=H.get q:=fun q U=>by rw[olds q ac];exact o4' q U
 clear olds hHs hr4 g4 o4';have h02:(0:Nat)<2:=aM;have h12:(1:Nat)<2:=aM;refine qc ?_;refine bb ?_ (As hG (hst 0 4 0 ac ac) 5 ac ac (Z.next+1) Hs Z.next (L1,0) hrs uk);rintro v1 H5 ⟨I,hr5,n5,o5⟩;rw[<-hB1]at I hr5;obtain⟨t1,t2⟩:=I.one;have hat5:=hat.keep n5 fun q U=>o5 q ac ac;have g5t:=hat5.t5;have g5f:H5.get (Z.next+7)=some (.cells [.ai [102],.sl (Z.next+3) 0 2 1,.sl (Z.next+4) 0 2 1,.ah,.int .i64 0,.int .i64 0,.ai [],.int .i64 0,.ah,.ai [103],.sl (Z.next+5) 0 1 1,.sl (Z.next+6) 0 1 1,.ah,.int .i64 0,.int .i64 0,.ai [],.int .i64 0,.ah] 0 true):=by rw[o5 _ ac ac];exact gf
 have gst:=hat.t5;dsimp only[aZ];repeat' (first
  |(apply aj ?_;clear hK K)|apply Ry.o ?_|apply b8 ?_|apply ah ?_|(apply ai fun K hK=>?_)|(apply au 5 [(1,3),(1,6)] fun K hK=>?_)|(apply au 6 [(1,3),(1,6)] fun K hK=>?_)|(apply au 7 [(1,3),(1,6)] fun K hK=>?_)|(apply au 8 [(1,3),(1,6)] fun K hK=>?_)|(apply aS ?_;try intro _)|(apply aT ?_ ?_<;>clear hK K)|apply aR ?_|apply bD rfl ?_|apply aq ?_)
 .exact di
 have n5':=n5;generalize V:Hp.set H5 (Z.next+7) _=Ha;have nHa:Ha.next=H5.next:=Av
 have oHa:∀q,q≠Z.next+7->Ha.get q=H5.get q:=fun q U=>Aw
 have gfHa:Ha.get (Z.next+7)=some (.cells [.ai [102],.sl (Z.next+3) 0 2 1,.sl (Z.next+4) 0 2 1,v1,.int .i64 0,.int .i64 0,.ai [],.int .i64 0,.ah,.ai [103],.sl (Z.next+5) 0 1 1,.sl (Z.next+6) 0 1 1,.ah,.int .i64 0,.int .i64 0,.ai [],.int .i64 0,.ah] 0 true):=Ax;clear V;have hatHa:=hat5.keep (jR nHa.symm) fun q U=>oHa q ac;have gtHa:=hatHa.t5;have hrHa:=hr5.keep (jR nHa.symm) fun q U=>oHa q ac;have hMl:=hat.lt;repeat' (first
  |(apply aj ?_;clear hK K)|apply Ry.o ?_|apply b8 ?_|apply ah ?_|(apply ai fun K hK=>?_)|(apply au 5 [(1,3),(1,6)] fun K hK=>?_)|(apply au 6 [(1,3),(1,6)] fun K hK=>?_)|(apply au 7 [(1,3),(1,6)] fun K hK=>?_)|(apply au 8 [(1,3),(1,6)] fun K hK=>?_)|(apply aS ?_;try intro _)|(apply aT ?_ ?_<;>clear hK K)|apply aR ?_|apply bD rfl ?_|apply aq ?_)
 refine qc ?_;refine bb ?_ (my hG 4 0 1 ac ac (Z.next+1) Ha Z.next _ _ hrHa ac);rintro _ H6 ⟨⟨cs,rfl,hc1,hc2,hc3⟩,hrH6,nH6,oH6⟩;rw[<-hV1]at hc3 hrH6;obtain⟨p0,p1,p2,p3,p4,rfl⟩:=kI hc1;obtain⟨u0,u1,u2,u3,u4⟩:=uJ hc2;have hatH6:=hatHa.keep nH6 fun q U=>oH6 q ac ac;have gtH6:=hatH6.t5;have gfH6:H6.get (Z.next+7)=some (.cells [.ai [102],.sl (Z.next+3) 0 2 1,.sl (Z.next+4) 0 2 1,v1,.int .i64 0,.int .i64 0,.ai [],.int .i64 0,.ah,.ai [103],.sl (Z.next+5) 0 1 1,.sl (Z.next+6) 0 1 1,.ah,.int .i64 0,.int .i64 0,.ai [],.int .i64 0,.ah] 0 true):=by rw[oH6 _ ac ac];exact gfHa
 dsimp only[aZ];repeat' (first
  |(apply aj ?_;clear hK K)|apply Ry.o ?_|apply b8 ?_|apply ah ?_|(apply ai fun K hK=>?_)|(apply au 5 [(1,3),(1,6)] fun K hK=>?_)|(apply au 6 [(1,3),(1,6)] fun K hK=>?_)|(apply au 7 [(1,3),(1,6)] fun K hK=>?_)|(apply au 8 [(1,3),(1,6)] fun K hK=>?_)|(apply aS ?_;try intro _)|(apply aT ?_ ?_<;>clear hK K)|apply aR ?_|apply bD rfl ?_|apply aq ?_)
 .exact di
 generalize V:Hp.set H6 (Z.next+7) _=Hb;have nHb:Hb.next=H6.next:=Av
 have j:∀q,q≠Z.next+7->Hb.get q=H6.get q:=fun q U=>Aw
 have gfHb:Hb.get (Z.next+7)=some (.cells [.ai [102],.sl (Z.next+3) 0 2 1,.sl (Z.next+4) 0 2 1,v1,p0,p1,p2,p3,p4,.ai [103],.sl (Z.next+5) 0 1 1,.sl (Z.next+6) 0 1 1,.ah,.int .i64 0,.int .i64 0,.ai [],.int .i64 0,.ah] 0 true):=Ax;clear V;have hatHb:=hatH6.keep (jR nHb.symm) fun q U=>j q ac;have gtHb:=hatHb.t5;have hrHb:=hrH6.keep (jR nHb.symm) fun q U=>j q ac;repeat' (first
  |(apply aj ?_;clear hK K)|apply Ry.o ?_|apply b8 ?_|apply ah ?_|(apply ai fun K hK=>?_)|(apply au 5 [(1,3),(1,6)] fun K hK=>?_)|(apply au 6 [(1,3),(1,6)] fun K hK=>?_)|(apply au 7 [(1,3),(1,6)] fun K hK=>?_)|(apply au 8 [(1,3),(1,6)] fun K hK=>?_)|(apply aS ?_;try intro _)|(apply aT ?_ ?_<;>clear hK K)|apply aR ?_|apply bD rfl ?_|apply aq ?_)
 refine qc ?_;refine bb ?_ (As hG (hst 1 3 1 ac ac) 3 ac ac (Z.next+1) Hb Z.next (V1.2,B1.2.2) hrHb uk);rintro v2 H7 ⟨C,hrH7,nH7,o⟩;rw[<-hB2]at C hrH7;obtain⟨s1,s2⟩:=C.one;have hatH7:=hatHb.keep nH7 fun q U=>o q ac ac;have gtH7:=hatH7.t5;have gfH7:H7.get (Z.next+7)=some (.cells [.ai [102],.sl (Z.next+3) 0 2 1,.sl (Z.next+4) 0 2 1,v1,p0,p1,p2,p3,p4,.ai [103],.sl (Z.next+5) 0 1 1,.sl (Z.next+6) 0 1 1,.ah,.int .i64 0,.int .i64 0,.ai [],.int .i64 0,.ah] 0 true):=by rw[o _ ac ac];exact gfHb
 dsimp only[aZ];repeat' (first
  |(apply aj ?_;clear hK K)|apply Ry.o ?_|apply b8 ?_|apply ah ?_|(apply ai fun K hK=>?_)|(apply au 5 [(1,3),(1,6)] fun K hK=>?_)|(apply au 6 [(1,3),(1,6)] fun K hK=>?_)|(apply au 7 [(1,3),(1,6)] fun K hK=>?_)|(apply au 8 [(1,3),(1,6)] fun K hK=>?_)|(apply aS ?_;try intro _)|(apply aT ?_ ?_<;>clear hK K)|apply aR ?_|apply bD rfl ?_|apply aq ?_)
 .exact di
 generalize V:Hp.set H7 (Z.next+7) _=Hc;have nHc:Hc.next=H7.next:=Av
 have g:∀q,q≠Z.next+7->Hc.get q=H7.get q:=fun q U=>Aw
 have gfHc:Hc.get (Z.next+7)=some (.cells [.ai [102],.sl (Z.next+3) 0 2 1,.sl (Z.next+4) 0 2 1,v1,p0,p1,p2,p3,p4,.ai [103],.sl (Z.next+5) 0 1 1,.sl (Z.next+6) 0 1 1,v2,.int .i64 0,.int .i64 0,.ai [],.int .i64 0,.ah] 0 true):=Ax;clear V;have hatHc:=hatH7.keep (jR nHc.symm) fun q U=>g q ac;have gtHc:=hatHc.t5;have hrHc:=hrH7.keep (jR nHc.symm) fun q U=>g q ac;repeat' (first
  |(apply aj ?_;clear hK K)|apply Ry.o ?_|apply b8 ?_|apply ah ?_|(apply ai fun K hK=>?_)|(apply au 5 [(1,3),(1,6)] fun K hK=>?_)|(apply au 6 [(1,3),(1,6)] fun K hK=>?_)|(apply au 7 [(1,3),(1,6)] fun K hK=>?_)|(apply au 8 [(1,3),(1,6)] fun K hK=>?_)|(apply aS ?_;try intro _)|(apply aT ?_ ?_<;>clear hK K)|apply aR ?_|apply bD rfl ?_|apply aq ?_)
 refine qc ?_;refine bb ?_ (my hG 4 1 1 ac ac (Z.next+1) Hc Z.next _ _ hrHc ac);rintro _ H8 ⟨⟨ds,rfl,hd1,hd2,hd3⟩,hrH8,nH8,z⟩;rw[<-hV2]at hd3 hrH8;obtain⟨w0,dd,w2,w3,w4,rfl⟩:=kI hd1;obtain⟨z0,z1,z2,z3,z4⟩:=uJ hd2;have hatH8:=hatHc.keep nH8 fun q U=>z q ac ac;have gtH8:=hatH8.t5;have gfH8:H8.get (Z.next+7)=some (.cells [.ai [102],.sl (Z.next+3) 0 2 1,.sl (Z.next+4) 0 2 1,v1,p0,p1,p2,p3,p4,.ai [103],.sl (Z.next+5) 0 1 1,.sl (Z.next+6) 0 1 1,v2,.int .i64 0,.int .i64 0,.ai [],.int .i64 0,.ah] 0 true):=by rw[z _ ac ac];exact gfHc
 dsimp only[aZ];repeat' (first
  |(apply aj ?_;clear hK K)|apply Ry.o ?_|apply b8 ?_|apply ah ?_|(apply ai fun K hK=>?_)|(apply au 5 [(1,3),(1,6)] fun K hK=>?_)|(apply au 6 [(1,3),(1,6)] fun K hK=>?_)|(apply au 7 [(1,3),(1,6)] fun K hK=>?_)|(apply au 8 [(1,3),(1,6)] fun K hK=>?_)|(apply aS ?_;try intro _)|(apply aT ?_ ?_<;>clear hK K)|apply aR ?_|apply bD rfl ?_|apply aq ?_)
 .exact di
 generalize V:Hp.set H8 (Z.next+7) _=Hd;have nHd:Hd.next=H8.next:=Av
 have O:∀q,q≠Z.next+7->Hd.get q=H8.get q:=fun q U=>Aw
 have gfHd:Hd.get (Z.next+7)=some (.cells [.ai [102],.sl (Z.next+3) 0 2 1,.sl (Z.next+4) 0 2 1,v1,p0,p1,p2,p3,p4,.ai [103],.sl (Z.next+5) 0 1 1,.sl (Z.next+6) 0 1 1,v2,w0,dd,w2,w3,w4] 0 true):=Ax;clear V;have Y:=hatH8.keep (jR nHd.symm) fun q U=>O q ac;have gtHd:=Y.t5;have hrHd:=hrH8.keep (jR nHd.symm) fun q U=>O q ac;have gr:=Y.rs;have e1:(Z.next+2 == H.next)=false:=bz ac;have gh0:=@In;repeat' (first
  |(apply aj ?_;clear hK K)|apply Rx.o ?_|apply aE ?_|apply ah ?_|(apply ai fun K hK=>?_)|(apply au 5 [(1,3),(1,6)] fun K hK=>?_)|(apply au 6 [(1,3),(1,6)] fun K hK=>?_)|(apply au 7 [(1,3),(1,6)] fun K hK=>?_)|(apply au 8 [(1,3),(1,6)] fun K hK=>?_)|(apply aS ?_;try intro _)|(apply aT ?_ ?_<;>clear hK K)|apply aR ?_|apply bD rfl ?_|apply aq ?_)
 refine⟨aD,_,(by(try simp only[aF,aW,Nat.reduceBEq,Nat.reduceAdd,Nat.reduceLeDiff,tyF,eh,eM,In, *]);first|done|with_reducible rfl),?_⟩;try simp only[aC]
 have old:∀q,q<H.next->((Hd.set H.next (.cells [.sl (Z.next+1) 0 2 2,.sl (Z.next+7) 0 2 9] 0 true)).get q=H.get q):=fun q U=>by
  rw[a1,af ac,O _ ac,z _ ac ac,g _ ac,o _ ac ac,j _ ac,oH6 _ ac ac,oHa _ ac,o5 _ ac ac];exact os q U
 have hz:=Y.keep (H':=Hd.set H.next (.cells [.sl (Z.next+1) 0 2 2,.sl (Z.next+7) 0 2 9] 0 true)) (aO _);refine⟨Z.next+1,Z.next+7,x,y,[.ai [102],.sl (Z.next+3) 0 2 1,.sl (Z.next+4) 0 2 1,v1,p0,p1,p2,p3,p4],[.ai [103],.sl (Z.next+5) 0 1 1,.sl (Z.next+6) 0 1 1,v2,w0,dd,w2,w3,w4],rfl,?_,db,old,ac,uz Z.next H5.next H6.next H7.next,.sl (Z.next+3) 0 2 1,.sl (Z.next+4) 0 2 1,v1,[p0,p1,p2,p3,p4],.sl (Z.next+5) 0 1 1,.sl (Z.next+6) 0 1 1,v2,[w0,dd,w2,w3,w4],rfl,rfl,?_,hA,fun q U=>by unfold uz;rw[ay ac]⟩;all_goals
  have J:∀q,q≠H.next->(Hd.set H.next (.cells [.sl (Z.next+1) 0 2 2,.sl (Z.next+7) 0 2 9] 0 true)).get q=Hd.get q:=fun q U=>by rw[a1,af U]
  have nz:(Hd.set H.next (.cells [.sl (Z.next+1) 0 2 2,.sl (Z.next+7) 0 2 9] 0 true)).next=Hd.next:=rfl
  generalize (Hd.set H.next (.cells [.sl (Z.next+1) 0 2 2,.sl (Z.next+7) 0 2 9] 0 true))=Hz at *;have hl:=Y.lt
 .refine⟨by rw[hgP,hA],by rw[J _ ac];exact Y.ra,by rw[J _ ac];exact gfHd,⟨ac,ac⟩,⟨ac,ac⟩,ac,rfl,rfl,?_,?_⟩
  .rw[hF1];refine P4 (n:=13) [102] rfl (D1 (n:=12) (imm:=0) (tip:=true) [[120],[121]] ⟨ac,ac,ac⟩ ac (by rw[J _ ac];exact Y.p1) az) (D1 (n:=12) (imm:=0) (tip:=true) [[105],[106]] ⟨ac,ac,ac⟩ ac (by rw[J _ ac];exact Y.l1) az) ?_ ?_
   .exact(I.keep (fun q _ U=>⟨ac,ac,ac⟩) ac fun q h1 h2=>PX).rd.up ac
   .exact(hc3.up ac).aR (fun q _ U=>⟨ac,ac,ac⟩) ac fun q h1 h2=>PY
  .rw[hF2];refine P4 (n:=13) [103] rfl (D1 (n:=12) (imm:=0) (tip:=true) [[110]] ⟨ac,ac,ac⟩ ac (by rw[J _ ac];exact Y.p2) az) (D1 (n:=12) (imm:=0) (tip:=true) [[105]] ⟨ac,ac,ac⟩ ac (by rw[J _ ac];exact Y.l2) az) ?_ ?_
   .exact(C.keep (fun q _ U=>⟨ac,ac,ac⟩) ac fun q h1 h2=>PZ).rd.up ac
   .exact(hd3.up ac).aR (fun q _ U=>⟨ac,ac,ac⟩) ac fun q h1 h2=>by rw[J _ ac,O _ ac]
 .have ls:=hat.lt;refine⟨by rw[J _ ac];exact Y.ra,by rw[J _ ac,gfHd,hF1,hF2];rfl,ac,ac,x3,x3,⟨hc1,hc2,?_,?_,?_,?_⟩,⟨hd1,hd2,?_,?_,?_,?_⟩⟩
  .rw[hF1];exact Dz (n:=13) [[120],[121]] x3 ac (by rw[J _ ac];exact Y.p1)
  .rw[hF1];exact Dz (n:=13) [[105],[106]] x3 ac (by rw[J _ ac];exact Y.l1)
  .rw[hF1];exact(I.keep (fun q h1 h2=>zbG ac h1) ac fun q h1 h2=>PX).up ac
  .rw[hF1];exact(hc3.up ac).aR (fun q h1 h2=>zbH ac ac h1) ac fun q h1 h2=>PY
  .rw[hF2];exact Dz (n:=13) [[110]] x3 ac (by rw[J _ ac];exact Y.p2)
  .rw[hF2];exact Dz (n:=13) [[105]] x3 ac (by rw[J _ ac];exact Y.l2)
  .rw[hF2];exact(C.keep (fun q h1 h2=>zbI ac ac ac h1) ac fun q h1 h2=>PZ).up ac
  .rw[hF2];exact(hd3.up ac).aR (fun q h1 h2=>zbJ ac ac ac ac) ac fun q h1 h2=>by rw[J _ ac,O _ ac]
end
section
def tyQaL.tyF:=ad @ez (ad @cR (ad @dt (ad @fP (ad @gH (ad @sC (ad @sD (ad @iU (ad @vB (ad @ol (ad @iV (ad @gO (ad @tO (ad @fb (ad @eA (ad @ft (ad @fc (ad @l8 (ad @l9 (ad @rF (ad @fG (ad @Im (@xQ))))))))))))))))))))))
open tyQaL
noncomputable def D2:{c:SC // aI 144 (f16.body.getD .skip)=c}:=by
 refine⟨?_,?_⟩;rotate_left
 .simp only[f16,bS,aI,bM,bI,bT,bU,Nat.blt,Nat.ble];rfl
theorem zeg(I:p.sz<2^34){f:Fu}(Z:f∈p.funcs)(b:Nat)(nv:AV):CxQ (Qx.mk p b nv (f.params++f.aj)) (mo p f) where
 ar:=rfl
 ns:=rfl
 fs:=rfl
 l1:=by
  have i:=nF p.aa;have g:p.sz=1+gp p.aa+fw p.funcs:=rfl;show p.aa.length<2^40;omega
 l2:=by
  have i:=ow Z;have g:p.sz=1+gp p.aa+fw p.funcs:=rfl;have O:f.sz=1+f.name.length+dU f.params+dU f.aj+bN f.body+f.value.sz:=rfl;have Y:=jO f.params;have K:=jO f.aj;show(f.params++f.aj).length<2^40;rw[fg];omega
 l3:=by
  have i:=nE p.funcs;have g:p.sz=1+gp p.aa+fw p.funcs:=rfl;show p.funcs.length<2^40;omega
def zeh(p:Pr):dK prog 98 [(0,.agg p.cells)]=some (.agg [.ao (p.aa.map Ar.cells),.ao (p.funcs.map Fu.cells),.ah,.ah,.ah,.int .i64 0,.int .i64 0]):=aG
noncomputable def D3:En:=⟨36,true,ch (fun p=>p.sz<2^36) fA fun p=>.int .i64 (fK p)⟩
def zei(ρ:Nat->Int):cT prog ρ D3:=dg fun p hp=>zaY ρ p hp
theorem P5{f:FuncId}:∀{tb:qA},(∀e∈tb,Nat.beq e.f f=false)->(∀o,cV tb f o=none)/\iL tb f=false
 |[],_=>⟨fun _=>rfl,rfl⟩
 |e::l,hne=>by
  obtain⟨M,O⟩:=P5 (tb:=l) fun x I=>hne x (ej _ I)
  have j:=hne e ei;exact⟨fun o=>by simp only[cV,j];exact M o,by simp only[iL,pp]at O⊢;simp only[j,jS,lZ];exact O⟩
theorem zd5.of(h:∀e∈tb,Ih e.f=false)(M:∀o,cV tb 64 o=(rL DU).sp o)(z:iL tb 64=true)(i:∀o,cV tb 118 o=xM.sp o):zd5 tb where
 pl f hf2:=P5 fun e j=>by
  cases Z:Nat.beq e.f f with
  |false=>rfl
  |true=>rw[<-jn Z,h e j]at hf2;cases hf2
 sn:=M
 sni:=z
 ff:=i
end
section
def tyQaM.tyF:=ad @ez (ad @cR (ad @dt (ad @fP (ad @gH (ad @sC (ad @sD (ad @iU (ad @vB (ad @ol (ad @iV (ad @gO (ad @tO (ad @fb (ad @eA (ad @ft (ad @fc (ad @l8 (ad @l9 (ad @rF (ad @fG (ad @Im (@xQ))))))))))))))))))))))
open tyQaM
def jX(g:Gr)(O:AV):qs:=[.ai g.name,.int .i64 g.params,O,.int .i64 g.value,.int .i64 g.ab]
structure FsM (lo:Nat) (H:Hp) (fv:AV) (gs:List Gr) (pt:Nat->Nat) (lvs:qs):Prop where
 len:lvs.length=gs.length
 own:(fv=.ah/\gs=[])\/∃q,fv=.sl q 0 gs.length 5/\lo<=q/\q<H.next/\pt q=0/\H.get q=some (.cells (List.zipWith jX gs lvs).flatten 0 true)
 nd:∀(i:Nat) (g:Gr) (lv:AV),gs[i]?=some g->lvs[i]?=some lv->dQ (fun k=>lo<=k/\pt k=i+1) 2 H 3 lv (g.ag.map Nd.cells)
def FsM.nil{lo:Nat}:FsM lo H .ah [] O []:=⟨rfl,.inl ⟨rfl,rfl⟩,fun i g lv h=>lY⟩
def FsM.one{lo:Nat}{H:Hp}{z:AV}{M:List Gr}{O:Nat->Nat}{C:qs}(h:FsM lo H z M O C):AV.one z=true/\z.cells=[z]:=by
 rcases h.own with⟨rfl,_⟩|⟨q,rfl,_⟩<;>exact⟨rfl,rfl⟩
theorem P6:∀(M:List Gr) (C:qs),C.length=M.length->(List.zipWith jX M C).flatten.length=M.length*5
 |[],[],_=>rfl
 |g::M,lv::C,h=>by
  have:=P6 M C i9;rw[List.zipWith_cons_cons,od,fg,this,eT];show 5+_=_;omega
def FsM.keep{lo lo':Nat}{z:AV}(h:FsM lo H z M O C)(V:lo'<=lo)(U:H.next<=H'.next)(J:∀k,lo<=k->k<H.next->H'.get k=H.get k):FsM lo' H' z M O C where
 len:=h.len
 own:=by
  rcases h.own with Z|⟨q,Z,Y,m,L,I⟩
  .exact .inl Z
  .exact .inr ⟨q,Z,ac,ac,L,by rw[J q Y m];exact I⟩
 nd i g lv Z Y:=(h.nd i g lv Z Y).keep (fun k _ j=>⟨ac,j.2⟩) U fun k j K=>J k j.1 K
theorem FsM.push{lo:Nat}{H7:Hp}{fv:AV}{pt:Nat->Nat}(h:FsM lo H fv M pt C)(hn:H.next<=H7.next)(j:∀k,lo<=k->k<H.next->H7.get k=H.get k){O:AV}(g:Gr)(hnd:dQ S 2 H7 3 O (g.ag.map Nd.cells))(hS:∀k,S k->H.next<=k)(hlo:lo<=H.next)(hl:M.length<2^34):
 ∃Z,dm prog false (H7.alloc (.cells (jX g O) 0 true)) 24 24 fv (.sl H7.next 0 1 5)=some (.sl (H7.next+1) 0 (M.length+1) 5,Z)/\Z.next=H7.next+2/\(∀k,k<H7.next+1->(∀o m J,fv≠.sl k o m J)->Z.get k=(H7.alloc (.cells (jX g O) 0 true)).get k)/\∃pt',FsM lo Z (.sl (H7.next+1) 0 (M.length+1) 5) (M++[g]) pt' (C++[O]):=by
 have hm:dX=70368744177664:=rfl;have hln:=h.len;obtain⟨hl1,hl2⟩:=hnd.one;have Y:(jX g O).all AV.one=true:=by simp only[jX,oy,oz,hl1];rfl
 have U:fN (H7.alloc (.cells (jX g O) 0 true)) 5 (.sl H7.next 0 1 5)=some (0+1,jX g O):=by
  have:=tN (H:=H7.alloc (.cells (jX g O) 0 true)) (r:=H7.next) (o:=0) (n:=1) (z:=5) (s:=5) gD rfl;rw[this];rfl
 have hfl:=P6 M C h.len;have hz:(List.zipWith jX (M++[g]) (C++[O])).flatten=(List.zipWith jX M C).flatten++jX g O:=by
  rw[List.zipWith_append h.len.symm];simp
 have L:∀(Z:Hp),Z.next=H7.next+2->(∀k,k<H7.next->(∀o m J,fv≠.sl k o m J)->Z.get k=H7.get k)->Z.get (H7.next+1)=some (.cells ((List.zipWith jX M C).flatten++jX g O) 0 true)->FsM lo Z (.sl (H7.next+1) 0 (M.length+1) 5) (M++[g]) (fun k=>if k<H.next then pt k else if k=H7.next+1 then 0 else M.length+1) (C++[O]):=fun Z n9 k9 g9=>by
  refine⟨by simp[h.len],.inr ⟨H7.next+1,az,ac,ac,by show(if H7.next+1<H.next then pt (H7.next+1)else if H7.next+1=H7.next+1 then 0 else M.length+1)=0;rw[af ac,ay rfl],by rw[hz];exact g9⟩,fun i g' lv' h1 h2=>?_⟩;have hfq:∀k,pt k≠0\/H.next<=k->∀o m J,fv≠.sl k o m J:=fun k V o m J e=>by
   rcases h.own with⟨e1,_⟩|⟨q,e1,_,e3,e4,_⟩
   .rw[e1]at e;cases e
   .rw[e1]at e;simp only[AV.sl.injEq]at e;rw[<-e.1]at V;omega
  by_cases c:i<M.length
  .rw[iw c]at h1;rw[iw (by rw[h.len];exact c)]at h2;refine(h.nd i g' lv' h1 h2).keep (fun k K V=>⟨V.1,by rw[ay K];exact V.2⟩) ac fun k V K=>?_;rw[k9 k ac (hfq k (.inl ac)),j k V.1 K]
  .have hi:i=M.length:=by
    have:=(eS.1 h1).1;simp only[fg,mC]at this;omega
   subst hi;rw[kN (aO _),lU,nC,aJ]at h1;rw[kN ac,h.len,lU,nC,aJ]at h2;subst h1;subst h2;refine hnd.keep (fun k K V=>⟨by have:=hS k V;omega,by have:=hS k V;rw[af ac,af ac]⟩) ac fun k V K=>k9 k K (hfq k (.inr (hS k V)))
 have h8:∀k,k<H7.next->(H7.alloc (.cells (jX g O) 0 true)).get k=H7.get k:=fun k j=>eG
 rcases h.own with⟨rfl,rfl⟩|⟨q,rfl,h2,h3,h4,h5⟩
 .refine⟨_,append_nil underlying24 Cd FT FU aG U Y rfl DZ DZ,rfl,fun k j _=>by rw[aQ,af dL],_,L _ rfl (fun k j _=>by rw[aQ,af dL,h8 k j]) ?_⟩;have:C=[]:=Jv.1 h.len;rw[aQ,ay ea];rfl
 .have hq8:(H7.alloc (.cells (jX g O) 0 true)).get q=some (.cells (List.zipWith jX M C).flatten 0 true):=by rw[h8 q ac,j q h2 h3];exact h5
  have hne:∀k,(∀o m J,AV.sl q 0 M.length 5≠.sl k o m J)->k≠q:=fun k j e=>j 0 M.length 5 mE;refine⟨_,FN underlying24 Cd FT FU aG U Y rfl hq8 hfl DZ DZ,rfl,fun k j I=>by rw[aQ,af Ik,hO,af (hne k I)],_,L _ rfl (fun k j I=>by rw[aQ,af Ik,hO,af (hne k I),h8 k j]) ?_⟩;show(((H7.alloc (.cells (jX g O) 0 true)).aP q).alloc _).get ((H7.alloc (.cells (jX g O) 0 true)).aP q).next=_
  rw[aQ,ay rfl]
theorem zej(H:Hp)(l:qP)(Y:l.length<2^36)(c:l≠[]):∃H',dm prog false (H.alloc qe) 23 23 (.sl H.next 0 0 2) (.ao (l.map Ar.cells))=some (.sl (H.next+1) 0 l.length 2,H')/\H'.next=H.next+2/\H'.get (H.next+1)=some (.cells (l.map Ar.cells).flatten 0 true):=by
 have Z:∀x∈l.map Ar.cells,x.length=2:=fun x I=>PO;have I:=On (H:=H.alloc qe) Z;rw[dx]at I;have J:(H.alloc qe).get H.next=some qe:=gD
 obtain⟨m,O⟩:∃m,l.length=m+1:=⟨l.length-1,by have:=ur.2 c;omega⟩;rw[O]at I;have K:dX=70368744177664:=rfl;refine⟨_,by rw[O];exact(FN underlying23 zf Ce Cf aG I (HQ l) rfl J rfl (by rw[K];omega) (by rw[K];omega)).trans (by rw[bO];rfl),rfl,?_⟩;show((Hp.aP _ H.next).alloc _).get (H.next+1)=_;rw[aQ,ay ea];rfl
structure SmM (n:Nat) (H H':Hp):Prop where
 get:∀k,k<n->H'.get k=H.get k
structure UnM (H H':Hp) (u:Un) (av fv:AV) (m:Nat) (pt:Nat->Nat) (lvs:qs):Prop where
 ar:dQ (fun k=>H.next<=k/\k<m) 1 H' 2 av (u.aa.map Ar.cells)
 fs:FsM m H' fv u.funcs pt lvs
 arx:u.aa≠[]->∃q,av=.sl q 0 u.aa.length 2/\H.next<=q/\q<m/\q<H'.next/\H'.get q=some (.cells (u.aa.map Ar.cells).flatten 0 true)
 lo:H.next<=m
 next:H.next<=H'.next
 get:∀k,k<H.next->H'.get k=H.get k
def UnM.nil(C:H.next<=H'.next)(J:∀k,k<H.next->H'.get k=H.get k):UnM H H' ⟨[],[]⟩ .ah .ah H.next (fun _=>0) []:=⟨.inl ⟨rfl,rfl⟩,.nil,fun h=>absurd rfl h,aO _,C,J⟩
def P7(H H':Hp)(u:Un)(e:Int)(v:AV):Prop:=∃Y z m O C,v=.aS [.agg [Y,z],.int .i64 e]/\UnM H H' u Y z m O C
set_option maxRecDepth 100000 in
theorem zek(hG:zd5 tb)(hC:∀ar,cV tb 36 ar=D3.sp ar)(hL:zd0 (aH pls tb) 16)(p:Pr)(hz:p.sz<2^34)(hok:fK p=0->PB p n){u:Un}{e:Int}(h:sW p n=some (u,e))(H:Hp):
 aY prog (aH pls tb) 16 [.agg p.cells] H (fun v H'=>P7 H H' u e v):=by
 have hw:=hL;have hkeep:(aH pls tb).keep 16=false:=rfl;have hchk:∀H,aY prog (aH pls tb) 36 [.agg p.cells] H fun v H'=>v=.int .i64 (fK p)/\H'=H:=fun H=>cF (enc:=fA) (ok:=fun p=>p.sz<2^36) (out:=fun p=>.int .i64 (fK p)) rc (x:=p) (hC _) ac;have hpz:p.sz=1+gp p.aa+fw p.funcs:=rfl;have hla:=nF p.aa;have hlf:=nE p.funcs;have bUn0:dK prog 26 []=some (.agg [.ah,.ah]):=aG;unfold sW at h;by_cases hc:fK p=0
 .rw[ay hc]at h;have hok:=hok hc;obtain⟨av,U,aa,ra,na,qa⟩:=zdK ((H.alloc (.cells p.cells 0 true)).alloc qf) p.aa ac;obtain⟨ha1,ha2⟩:=ra.one;have bUn:dK prog 26 [(0,av)]=some (.agg [av,.ah]):=by
   rcases ra with⟨rfl,_⟩|⟨q,im,rows,rfl,_⟩<;>kernel_rfl
  have na3:H.next+3<=U.next:=na
  have hax:p.aa≠[]->∃q,av=.sl q 0 p.aa.length 2/\H.next+2<=q/\q<U.next/\U.get q=some (.cells (p.aa.map Ar.cells).flatten 0 true):=fun hne=>by
   obtain⟨C,b1,b2,b3⟩:=zej ((H.alloc (.cells p.cells 0 true)).alloc qf) p.aa ac hne;rw[aa,aJ,gY]at b1;obtain⟨rfl,rfl⟩:=b1;simp only[bj]at b2 b3⊢;exact⟨_,rfl,ac,ac,b3⟩
  have q0:U.get H.next=some (.cells p.cells 0 true):=by rw[qa _ dL,aQ,af dL,aQ,ay rfl]
  have qo:∀k,k<H.next->U.get k=H.get k:=fun k Z=>by rw[qa _ dL,aQ,af dL,aQ,af ac]
  have q1:U.get (H.next+1)=some qf:=by rw[qa _ dL,aQ,ay ea]
  have ra':dQ (fun k=>H.next+2<=k/\k<U.next) 1 U 2 av (p.aa.map Ar.cells):=ra.keep (fun k h1 h2=>⟨h2,h1⟩) (aO _) fun _ _ _=>rfl;have bA0:dW prog ((H.alloc (.cells p.cells 0 true)).alloc qf) 23 0 []=some (.sl (H.next+2) 0 0 2,((H.alloc (.cells p.cells 0 true)).alloc qf).alloc qe):=aG;refine bF (M:=144) (rs:=[.cell 2 26,.tmp 3]) (hw.call _) hw.aD hw.aq func16 rfl rfl D2.2 rfl ?_;dsimp only[D2,bA,Nat.reduceAdd];have aa':dm prog false (((H.alloc (.cells p.cells 0 true)).alloc qf).alloc qe) 23 23 (.sl (H.next+2) 0 0 2) (.ao (p.aa.map Ar.cells))=some (av,U):=aa;repeat' (first
   |(apply aj ?_;clear hK K)|apply Ry.o ?_|apply b8 ?_|(apply ee ?_;first|refine bi (hchk _) ?_)|(apply bq (fun Y g=>?_) (fun Y g=>?_)<;>try(cases Y;done))|apply ah ?_|(apply ai fun K hK=>?_)|(apply au 14 [(4,11),(6,11),(9,11),(10,11)] fun K hK=>?_)|(apply au 15 [(4,7),(4,9),(8,9)] fun K hK=>?_)|(apply au 19 [(4,11),(6,11),(9,11),(10,11)] fun K hK=>?_)|(apply au 20 [(4,6),(4,8),(7,8)] fun K hK=>?_)|(apply au 25 [(1,18),(3,18),(5,18),(6,18),(10,18),(15,18),(17,18)] fun K hK=>?_)|(apply aS ?_;try intro _)|(apply aT ?_ ?_<;>clear hK K)|apply aR ?_|apply bD rfl ?_|apply ak ?_|apply am ?_|apply aq ?_|apply aw ?_)
  clear aa aa' qa ra na bA0;have gs:∀k,k<U.next->((U.alloc qf).set U.next (.cells [av,.ah] 0 true)).get k=U.get k:=fun k Z=>rN
  have hfl:mT p n (p.funcs.drop 0) []=some (u,e):=h;refine cA [1,2,5] [] 6 p.funcs.length (fun i E L=>∃gs fv pt lvs,mT p n (p.funcs.drop i) gs=some (u,e)/\L.get H.next=some (.cells p.cells 0 true)/\L.get (H.next+1)=some qf/\L.get U.next=some (.cells [av,fv] 0 true)/\FsM (U.next+1) L fv gs pt lvs/\SmM U.next U L/\gs.length=i) eE ⟨[],.ah,fun _=>0,[],hfl,by rw[gs _ ac];exact q0,by rw[gs _ ac];exact q1,gL,.nil,⟨fun k Z=>gs k Z⟩,rfl⟩ ?_;clear gs hfl h q0 q1;rintro i5 E5 L hk5 hcE hrH hnH hsI ⟨gs,fv,pt,lvs,hJ,g0,g1,g7,rf,hsm,hgl⟩;(try simp only[bp,bm,aU,aF,aW,Nat.reduceBEq,Nat.reduceAdd,Nat.reduceLeDiff,tyF, *]at hcE);(try simp only[bp,bm,aU,aF,aW,Nat.reduceBEq,Nat.reduceAdd,Nat.reduceLeDiff,tyF, *]at hrH);(try simp only[bj,bE,cm,bO,Nat.reduceAdd]at hnH);have nk:U.next+1<=L.next:=ac
  obtain⟨hf1,hf2⟩:=rf.one;by_cases hlt:i5<p.funcs.length
  .have hlt':(i5:Int)<p.funcs.length:=by omega
   have hgx:p.funcs[i5]?=some p.funcs[i5]:=a0 hlt;have hmem:=cL hlt;have hfsz:=ow hmem;have hcx:=fun b nv=>zeg hz hmem b nv;rw[eU hlt]at hJ;unfold mT at hJ;obtain⟨s,v,e1,e2,hF⟩:=hok _ hmem;generalize p.funcs[i5]=f at *;have hfn:jl p n f=some ⟨f.name,f.params.length,v.2.l,v.1,v.2.ab⟩:=by unfold jl;rw[e1];simp only[cn];rw[e2];rfl
   rw[hfn]at hJ;simp only[cn]at hJ;have hsz:f.sz=1+f.name.length+dU f.params+dU f.aj+bN f.body+f.value.sz:=rfl;have hpl:=jO f.params;have hll:=jO f.aj;have hFs:Fin s:=hF.le (ev _ n _ _ _ e2).le;have hFst:Fin (jk f):=hFs.le ((mp _ n).2.1 _ _ _ e1).1;have hst:jk f=kH f.aj.length (iD f.params.length 0 { (ax ⟨26,0,[]⟩ ⟨[],[],0,0⟩).2 with ab:=(ax ⟨26,0,[]⟩ ⟨[],[],0,0⟩).1}):=rfl;generalize hs0:({ (ax ⟨26,0,[]⟩ ⟨[],[],0,0⟩).2 with ab:=(ax ⟨26,0,[]⟩ ⟨[],[],0,0⟩).1}:Bd)=s0 at *;have hv0:s0.vars.length=0:=by rw[<-hs0];rfl
   have hF1:Fin (iD f.params.length 0 s0):=by rw[hst]at hFst;exact hFst.le (Ad _ _).1
   have hv1:(iD f.params.length 0 s0).vars.length=f.params.length:=by rw[(Ac _ _ _).2,hv0];omega
   have hF0:Fin s0:=hF1.le (Ac _ _ _).1;have hFe:Fin (ax ⟨26,0,[]⟩ ⟨[],[],0,0⟩).2:=by rw[<-hs0]at hF0;exact⟨hF0.r,hF0.l,hF0.n⟩
   have hvst:(jk f).vars.length<2^36:=by rw[hst,(Ad _ _).2,hv1];omega
   have nB:=zeh p;have g0m:∀b0 c0,((L.alloc b0).set L.next c0).get H.next=some (.cells p.cells 0 true):=fun b0 c0=>by rw[a1,af ac,aQ,af ac];exact g0
   repeat' (first
    |(apply aj ?_;clear hK K)|apply Ry.o ?_|apply b8 ?_|(apply bq (fun Y g=>?_) (fun Y g=>?_)<;>try(cases Y;done))|apply ah ?_|(apply ai fun K hK=>?_)|(apply au 14 [(4,11),(6,11),(9,11),(10,11)] fun K hK=>?_)|(apply au 15 [(4,7),(4,9),(8,9)] fun K hK=>?_)|(apply au 19 [(4,11),(6,11),(9,11),(10,11)] fun K hK=>?_)|(apply au 20 [(4,6),(4,8),(7,8)] fun K hK=>?_)|(apply au 25 [(1,18),(3,18),(5,18),(6,18),(10,18),(15,18),(17,18)] fun K hK=>?_)|(apply aS ?_;try intro _)|(apply aT ?_ ?_<;>clear hK K)|apply aR ?_|apply bD rfl ?_|apply ak ?_|apply am ?_|apply aq ?_|apply aw ?_)
   refine qc ?_;generalize hHb:Hp.alloc (Hp.set (L.alloc _) _ (.cells f.cells 0 true)) _=C;have nb:C.next=L.next+2:=by rw[<-hHb];rfl
   have old:∀k,k<L.next->C.get k=L.get k:=fun k Z=>by rw[<-hHb,aQ,af DE,a1,af ac,aQ,af ac]
   have gfb:C.get L.next=some (.cells f.cells 0 true):=by rw[<-hHb,aQ,af DE,a1,ay rfl]
   have gbb:C.get (L.next+1)=some (.cells [.ao (p.aa.map Ar.cells),.ao (p.funcs.map Fu.cells),.ah,.ah,.ah,.int .i64 0,.int .i64 0] 0 true):=by rw[<-hHb,aQ,ay ea]
   clear hHb g0m nB;have R1:zd1 (Qx.mk p (L.next+1) .ah []) C (fun _=>False) ⟨[],[],0,0⟩ .ah .ah:=
    ⟨gbb,.inl ⟨rfl,rfl⟩,.inl ⟨rfl,rfl⟩,.inl ⟨rfl,rfl⟩,by show L.next+1<C.next;omega,fun _ h=>(wr h).elim,fun _ h=>h.elim,fun _ h=>(wr h).elim⟩
   have N1:FrM (L.next+1) C (fun _=>False) .ah .ah C:=⟨aO _,fun _ _ _=>rfl,fun _ h=>h.elim,fun _ h=>(wr h).elim,fun _ h=>(wr h).elim⟩;have gA:∀{S:Nat->Prop}{vv nv:AV}{H':Hp},FrM (L.next+1) C S vv nv H'->H'.get L.next=some (.cells f.cells 0 true):=fun h=>by
    rw[h.get _ ac ac];exact gfb
   refine bb ?_ (r0 hG R1 26 0 hFe);rintro w H2 ⟨rfl,S2,lv2,R2,F2⟩;have m2:=R2.m;obtain⟨R3,F3⟩:=R2.setS (ax ⟨26,0,[]⟩ ⟨[],[],0,0⟩).1;have N3:FrM (L.next+1) C S2 .ah .ah _:=wF (X:=Qx.mk p (L.next+1) .ah []) N1 (F2.trans F3);have n2:C.next<=H2.next:=F2.next
   clear R1 R2 F2 F3 N1 gbb;have g3:=gA N3;dsimp only[bV]at m2 R3 N3 g3;dsimp only[aZ];repeat' (first
    |(apply aj ?_;clear hK K)|apply Rx.o ?_|apply aE ?_|apply ah ?_|(apply ai fun K hK=>?_)|(apply au 14 [(4,11),(6,11),(9,11),(10,11)] fun K hK=>?_)|(apply au 15 [(4,7),(4,9),(8,9)] fun K hK=>?_)|(apply au 19 [(4,11),(6,11),(9,11),(10,11)] fun K hK=>?_)|(apply au 20 [(4,6),(4,8),(7,8)] fun K hK=>?_)|(apply au 25 [(1,18),(3,18),(5,18),(6,18),(10,18),(15,18),(17,18)] fun K hK=>?_)|(apply aS ?_;try intro _)|(apply aT ?_ ?_<;>clear hK K)|apply aR ?_|apply bD rfl ?_|apply ak ?_|apply am ?_|apply aq ?_|apply aw ?_)
   refine cA [1,2,5,6,7,8] [] 9 f.params.length (fun i E Hi=>∃si Si lvi vvi nvi,iD (f.params.length-i) i si=iD f.params.length 0 s0/\si.vars.length=i/\zd1 (Qx.mk p (L.next+1) nvi (f.params.take i)) Hi Si si lvi vvi/\FrM (L.next+1) C Si vvi nvi Hi) eE ⟨s0,S2,lv2,.ah,.ah,rfl,hv0,by rw[zG,<-hs0];exact R3,N3⟩ ?_;clear R3 N3 m2 g3;rintro i E Hi hi hcE hrH hnH hsI ⟨si,Si,lvi,vvi,nvi,J,hvi,Ri,Ni⟩;(try simp only[bp,bm,aU,aF,aW,Nat.reduceBEq,Nat.reduceAdd,Nat.reduceLeDiff,tyF, *]at hcE);(try simp only[bp,bm,aU,aF,aW,Nat.reduceBEq,Nat.reduceAdd,Nat.reduceLeDiff,tyF, *]at hrH);(try simp only[bj,bE,cm,bO,Nat.reduceAdd]at hnH);have ni:C.next<=Hi.next:=Ni.next
   have gi:=gA Ni;by_cases hlt2:i<f.params.length
   .have hlt2':(i:Int)<f.params.length:=by omega
    have hgx2:f.params[i]?=some f.params[i]:=a0 hlt2;obtain⟨k,Z⟩:∃k,f.params.length-i=k+1:=⟨f.params.length-i-1,ac⟩;have hk2:f.params.length-(i+1)=k:=ac;have hne:f.params.take (i+1)=f.params.take i++[f.params[i]]:=by rw[ry,hgx2];rfl
    have htl:(f.params.take i).length<2^36:=vd;rw[Z]at J;rw[hk2,hne];have J:iD k (i+1) { (ax ⟨2,i,[]⟩ si).2 with vars:=(ax ⟨2,i,[]⟩ si).2.vars++[(ax ⟨2,i,[]⟩ si).1] }=iD f.params.length 0 s0:=J;have hFx:Fin (ax ⟨2,i,[]⟩ si).2:=hF1.le (by rw[<-J];exact((pE _).setV _).trans (Ac _ _ _).1);generalize f.params[i]=nm at *;obtain⟨v4,H4,a4,ho1,ho2,m4,n4,q4,gn4,R5,own4⟩:=Ri.cH nm htl;have mi:=Ri.m;have mia:=(Ri.alloc (.cells [.ai nm] 0 true)).m;have m5:=R5.m;have gia:(Hi.alloc (.cells [.ai nm] 0 true)).get L.next=some (.cells f.cells 0 true):=by rw[aQ,af ac];exact gi
    have g4:H4.get L.next=some (.cells f.cells 0 true):=by
     rw[q4 _ ac fun e=>by have:=Ni.di _ e;omega];exact gi
    have N5:FrM (L.next+1) C Si vvi v4 (H4.set (L.next+1) (.cells (bV (Qx.nx (Qx.mk p (L.next+1) nvi (f.params.take i)) v4 (f.params.take i++[nm])) si lvi vvi) 0 true)):=⟨db,fun k h1 h2=>by
     rw[a1,af h2,q4 k ac fun e=>by have:=Ni.di _ e;omega];exact Ni.get k h1 h2,Ni.sub,Ni.own,fun k Z=>by
     rcases own4 k Z with e|e
     .exact Ni.di k e
     .omega⟩
    have g5:=gA N5;dsimp only[bV,Qx.nx]at mi mia m4 m5 R5 N5 g5 a4;clear Ri Ni own4 q4;repeat' (first
     |(apply aj ?_;clear hK K)|apply Ry.o ?_|apply b8 ?_|(apply bq (fun Y g=>?_) (fun Y g=>?_)<;>try(cases Y;done))|apply ah ?_|(apply ai fun K hK=>?_)|(apply au 14 [(4,11),(6,11),(9,11),(10,11)] fun K hK=>?_)|(apply au 15 [(4,7),(4,9),(8,9)] fun K hK=>?_)|(apply au 19 [(4,11),(6,11),(9,11),(10,11)] fun K hK=>?_)|(apply au 20 [(4,6),(4,8),(7,8)] fun K hK=>?_)|(apply au 25 [(1,18),(3,18),(5,18),(6,18),(10,18),(15,18),(17,18)] fun K hK=>?_)|(apply aS ?_;try intro _)|(apply aT ?_ ?_<;>clear hK K)|apply aR ?_|apply bD rfl ?_|apply ak ?_|apply am ?_|apply aq ?_|apply aw ?_)
    .exact di
    .refine qc ?_;refine bb ?_ (r0 (X:=Qx.mk p (L.next+1) v4 (f.params.take i++[nm])) hG R5 2 i hFx);generalize hpu:ax ⟨2,i,[]⟩ si=pu at *;have hpv:pu.2.vars.length=i:=by rw[<-hpu];exact hvi
     rintro w H6 ⟨rfl,S6,lv6,R6,F6⟩;have m6:=R6.m;have n6:=F6.next
     obtain⟨v7,H7,a7,hv71,hv72,m7,n7,q7,R7,F7⟩:=R6.cS pu.1 ac;have N6:FrM (L.next+1) C S6 vvi v4 H6:=wF (X:=Qx.mk p (L.next+1) v4 (f.params.take i++[nm])) N5 F6;have N7:FrM (L.next+1) C S6 v7 v4 _:=wF (X:=Qx.mk p (L.next+1) v4 (f.params.take i++[nm])) N6 F7;have m6a:=(R6.alloc (.cells [.int .i64 pu.1] 0 true)).m;simp only[bE]at n6;have n67:Hi.next<=H7.next:=ac
     have hlen7:(pu.2.vars++[pu.1]).length=i+1:=by rw[fg,hpv];rfl
     clear hpv hvi R6 F6 F7 hpu N6;dsimp only[bV]at m6 m7 m6a R7 N7;dsimp only[aZ];repeat' (first
      |(apply aj ?_;clear hK K)|apply Rx.o ?_|apply aE ?_|apply ah ?_|(apply ai fun K hK=>?_)|(apply au 14 [(4,11),(6,11),(9,11),(10,11)] fun K hK=>?_)|(apply au 15 [(4,7),(4,9),(8,9)] fun K hK=>?_)|(apply au 19 [(4,11),(6,11),(9,11),(10,11)] fun K hK=>?_)|(apply au 20 [(4,6),(4,8),(7,8)] fun K hK=>?_)|(apply au 25 [(1,18),(3,18),(5,18),(6,18),(10,18),(15,18),(17,18)] fun K hK=>?_)|(apply aS ?_;try intro _)|(apply aT ?_ ?_<;>clear hK K)|apply aR ?_|apply bD rfl ?_|apply ak ?_|apply am ?_|apply aq ?_|apply aw ?_)
     .exact di
     .refine⟨ac,a2,a2,ce,(by simp only[aF,Nat.reduceBEq, *];exact gQ (n:=f.params.length) ac ac),?_⟩;exact⟨_,S6,lv6,v7,v4,J,hlen7,R7,N7⟩
   .have hlt2':¬(i:Int)<f.params.length:=by omega
    have Z:f.params.length-i=0:=ac;have hti:f.params.take i=f.params:=gZ ac;rw[Z]at J;rw[hti]at Ri;have J:si=iD f.params.length 0 s0:=J;rw[J]at Ri;rw[<-J]at hst;rw[J]at hst;clear Z hti J hvi;repeat' (first
     |(apply aj ?_;clear hK K)|apply Ry.o ?_|apply b8 ?_|(apply bq (fun Y g=>?_) (fun Y g=>?_)<;>try(cases Y;done))|apply ah ?_|(apply ai fun K hK=>?_)|(apply au 14 [(4,11),(6,11),(9,11),(10,11)] fun K hK=>?_)|(apply au 15 [(4,7),(4,9),(8,9)] fun K hK=>?_)|(apply au 19 [(4,11),(6,11),(9,11),(10,11)] fun K hK=>?_)|(apply au 20 [(4,6),(4,8),(7,8)] fun K hK=>?_)|(apply au 25 [(1,18),(3,18),(5,18),(6,18),(10,18),(15,18),(17,18)] fun K hK=>?_)|(apply aS ?_;try intro _)|(apply aT ?_ ?_<;>clear hK K)|apply aR ?_|apply bD rfl ?_|apply ak ?_|apply am ?_|apply aq ?_|apply aw ?_)
    generalize hs1:iD f.params.length 0 s0=s1 at *;refine cA [1,2,5,6,7,8] [] 10 f.aj.length (fun j E Hj=>∃sj Sj lvj vvj V,kH (f.aj.length-j) sj=kH f.aj.length s1/\sj.vars.length=f.params.length+j/\zd1 (Qx.mk p (L.next+1) V (f.params++f.aj.take j)) Hj Sj sj lvj vvj/\FrM (L.next+1) C Sj vvj V Hj) eE ⟨s1,Si,lvi,vvi,nvi,rfl,hv1,by rw[zG,jI];exact Ri,Ni⟩ ?_;clear Ri Ni gi;rintro j E3 Hj hj hcE hrH hnH hsI ⟨sj,Sj,lvj,vvj,V,J,hvj,Rj,Nj⟩;(try simp only[bp,bm,aU,aF,aW,Nat.reduceBEq,Nat.reduceAdd,Nat.reduceLeDiff,tyF, *]at hcE);(try simp only[bp,bm,aU,aF,aW,Nat.reduceBEq,Nat.reduceAdd,Nat.reduceLeDiff,tyF, *]at hrH);(try simp only[bj,bE,cm,bO,Nat.reduceAdd]at hnH);have nj:C.next<=Hj.next:=Nj.next
    have gj:=gA Nj;by_cases hlt3:j<f.aj.length
    .have hlt3':(j:Int)<f.aj.length:=by omega
     have hgx2:f.aj[j]?=some f.aj[j]:=a0 hlt3;obtain⟨k,Z⟩:∃k,f.aj.length-j=k+1:=⟨f.aj.length-j-1,ac⟩;have hk2:f.aj.length-(j+1)=k:=ac;have hne:f.params++f.aj.take (j+1)=(f.params++f.aj.take j)++[f.aj[j]]:=by rw[ry,hgx2,lT];rfl
     have htl:(f.params++f.aj.take j).length<2^36:=by rw[fg,lS];omega
     rw[Z]at J;rw[hk2,hne];have J:kH k { (ax ⟨1,0,[]⟩ sj).2 with vars:=(ax ⟨1,0,[]⟩ sj).2.vars++[(ax ⟨1,0,[]⟩ sj).1] }=kH f.aj.length s1:=J;have hFx:Fin (ax ⟨1,0,[]⟩ sj).2:=hFst.le (by rw[hst,<-J];exact((pE _).setV _).trans (Ad _ _).1);generalize f.aj[j]=nm at *;generalize hNs:f.params++f.aj.take j=Ns at *;obtain⟨v4,H4,a4,ho1,ho2,m4,n4,q4,gn4,R5,own4⟩:=Rj.cH nm htl;have mi:=Rj.m;have mia:=(Rj.alloc (.cells [.ai nm] 0 true)).m;have m5:=R5.m;have gia:(Hj.alloc (.cells [.ai nm] 0 true)).get L.next=some (.cells f.cells 0 true):=by rw[aQ,af ac];exact gj
     have g4:H4.get L.next=some (.cells f.cells 0 true):=by
      rw[q4 _ ac fun e=>by have:=Nj.di _ e;omega];exact gj
     have N5:FrM (L.next+1) C Sj vvj v4 (H4.set (L.next+1) (.cells (bV (Qx.nx (Qx.mk p (L.next+1) V Ns) v4 (Ns++[nm])) sj lvj vvj) 0 true)):=⟨db,fun k h1 h2=>by
      rw[a1,af h2,q4 k ac fun e=>by have:=Nj.di _ e;omega];exact Nj.get k h1 h2,Nj.sub,Nj.own,fun k Z=>by
      rcases own4 k Z with e|e
      .exact Nj.di k e
      .omega⟩
     have g5:=gA N5;dsimp only[bV,Qx.nx]at mi mia m4 m5 R5 N5 g5 a4;clear Rj Nj own4 q4 hNs hne;repeat' (first
      |(apply aj ?_;clear hK K)|apply Ry.o ?_|apply b8 ?_|(apply bq (fun Y g=>?_) (fun Y g=>?_)<;>try(cases Y;done))|apply ah ?_|(apply ai fun K hK=>?_)|(apply au 14 [(4,11),(6,11),(9,11),(10,11)] fun K hK=>?_)|(apply au 15 [(4,7),(4,9),(8,9)] fun K hK=>?_)|(apply au 19 [(4,11),(6,11),(9,11),(10,11)] fun K hK=>?_)|(apply au 20 [(4,6),(4,8),(7,8)] fun K hK=>?_)|(apply au 25 [(1,18),(3,18),(5,18),(6,18),(10,18),(15,18),(17,18)] fun K hK=>?_)|(apply aS ?_;try intro _)|(apply aT ?_ ?_<;>clear hK K)|apply aR ?_|apply bD rfl ?_|apply ak ?_|apply am ?_|apply aq ?_|apply aw ?_)
     .exact di
     .refine qc ?_;refine bb ?_ (r0 (X:=Qx.mk p (L.next+1) v4 (Ns++[nm])) hG R5 1 0 hFx);generalize hpu:ax ⟨1,0,[]⟩ sj=pu at *;have hpv:pu.2.vars.length=f.params.length+j:=by rw[<-hpu];exact hvj
      rintro w H6 ⟨rfl,S6,lv6,R6,F6⟩;have m6:=R6.m;have n6:=F6.next
      obtain⟨v7,H7,a7,hv71,hv72,m7,n7,q7,R7,F7⟩:=R6.cS pu.1 ac;have N6:FrM (L.next+1) C S6 vvj v4 H6:=wF (X:=Qx.mk p (L.next+1) v4 (Ns++[nm])) N5 F6;have N7:FrM (L.next+1) C S6 v7 v4 _:=wF (X:=Qx.mk p (L.next+1) v4 (Ns++[nm])) N6 F7;have m6a:=(R6.alloc (.cells [.int .i64 pu.1] 0 true)).m;simp only[bE]at n6;have n67:Hj.next<=H7.next:=ac
      have hlen7:(pu.2.vars++[pu.1]).length=f.params.length+(j+1):=by rw[fg,hpv];rfl
      clear hpv hvj R6 F6 F7 hpu N6;dsimp only[bV]at m6 m7 m6a R7 N7;dsimp only[aZ];repeat' (first
       |(apply aj ?_;clear hK K)|apply Rx.o ?_|apply aE ?_|apply ah ?_|(apply ai fun K hK=>?_)|(apply au 14 [(4,11),(6,11),(9,11),(10,11)] fun K hK=>?_)|(apply au 15 [(4,7),(4,9),(8,9)] fun K hK=>?_)|(apply au 19 [(4,11),(6,11),(9,11),(10,11)] fun K hK=>?_)|(apply au 20 [(4,6),(4,8),(7,8)] fun K hK=>?_)|(apply au 25 [(1,18),(3,18),(5,18),(6,18),(10,18),(15,18),(17,18)] fun K hK=>?_)|(apply aS ?_;try intro _)|(apply aT ?_ ?_<;>clear hK K)|apply aR ?_|apply bD rfl ?_|apply ak ?_|apply am ?_|apply aq ?_|apply aw ?_)
      .exact di
      .refine⟨ac,a2,a2,ce,(by simp only[aF,Nat.reduceBEq, *];exact gQ (n:=f.aj.length) ac ac),?_⟩;exact⟨_,S6,lv6,v7,v4,J,hlen7,R7,N7⟩
    .have hlt3':¬(j:Int)<f.aj.length:=by omega
     have Z:f.aj.length-j=0:=ac;have htj:f.aj.take j=f.aj:=gZ ac;rw[Z]at J;rw[htj]at Rj;have J:sj=kH f.aj.length s1:=J;rw[J,<-hst]at Rj;clear Z htj J hvj;have hX:=hcx (L.next+1) V;repeat' (first
      |(apply aj ?_;clear hK K)|apply Ry.o ?_|apply b8 ?_|(apply bq (fun Y g=>?_) (fun Y g=>?_)<;>try(cases Y;done))|apply ah ?_|(apply ai fun K hK=>?_)|(apply au 14 [(4,11),(6,11),(9,11),(10,11)] fun K hK=>?_)|(apply au 15 [(4,7),(4,9),(8,9)] fun K hK=>?_)|(apply au 19 [(4,11),(6,11),(9,11),(10,11)] fun K hK=>?_)|(apply au 20 [(4,6),(4,8),(7,8)] fun K hK=>?_)|(apply au 25 [(1,18),(3,18),(5,18),(6,18),(10,18),(15,18),(17,18)] fun K hK=>?_)|(apply aS ?_;try intro _)|(apply aT ?_ ?_<;>clear hK K)|apply aR ?_|apply bD rfl ?_|apply ak ?_|apply am ?_|apply aq ?_|apply aw ?_)
     refine qc ?_;refine bb ?_ (PT (X:=Qx.mk p (L.next+1) V (f.params++f.aj)) hG hX (n+1) n (cI n) f.body (jk f) s e1 hFs ac hvst Rj);rintro w H6 ⟨S6,lv6,vv6,R6,F6⟩;have N6:FrM (L.next+1) C S6 vv6 V H6:=wF (X:=Qx.mk p (L.next+1) V (f.params++f.aj)) Nj F6;have g6:=gA N6;clear Rj Nj F6 gj;dsimp only[aZ];repeat' (first
      |(apply aj ?_;clear hK K)|apply Rx.o ?_|apply aE ?_|apply ah ?_|(apply ai fun K hK=>?_)|(apply au 14 [(4,11),(6,11),(9,11),(10,11)] fun K hK=>?_)|(apply au 15 [(4,7),(4,9),(8,9)] fun K hK=>?_)|(apply au 19 [(4,11),(6,11),(9,11),(10,11)] fun K hK=>?_)|(apply au 20 [(4,6),(4,8),(7,8)] fun K hK=>?_)|(apply au 25 [(1,18),(3,18),(5,18),(6,18),(10,18),(15,18),(17,18)] fun K hK=>?_)|(apply aS ?_;try intro _)|(apply aT ?_ ?_<;>clear hK K)|apply aR ?_|apply bD rfl ?_|apply ak ?_|apply am ?_|apply aq ?_|apply aw ?_)
     refine qc ?_;refine bb ?_ (r1 (X:=Qx.mk p (L.next+1) V (f.params++f.aj)) hG hX n f.value s v e2 hF R6);rintro w H7 ⟨rfl,S7,O,R7,F7⟩;have N7:FrM (L.next+1) C S7 vv6 V H7:=wF (X:=Qx.mk p (L.next+1) V (f.params++f.aj)) N6 F7;have gg7:=gA N7;have m7:=R7.m;have nd7:=R7.ag;obtain⟨hl1,hl2⟩:=nd7.one;have n7:C.next<=H7.next:=N7.next
     have z:∀k,k<L.next->H7.get k=L.get k:=fun k Z=>by rw[N7.get k ac ac,old k Z]
     have s7:=N7.sub;have hlen7:∀H',ij prog H' 30 O=some (.int .i64 v.2.l.length):=fun H'=>by
      have:=nd7.len (P:=prog) (t:=30) (H':=H') underlying30
      rwa [dx]at this
     dsimp only[bV]at m7;clear R6 R7 N6 N7 F7 g6 gA;dsimp only[aZ];by_cases hbig:(2000:Int)<v.2.l.length
     .rw[ay hbig]at hJ;simp only[cO]at hJ;obtain⟨rfl,rfl⟩:=hJ;have g1a:H7.get (H.next+1)=some qf:=by rw[z _ ac];exact g1
      have ag0:cQ 2 [.ah,.ah]=some (.agg [.ah,.ah]):=rfl;repeat' (first
       |(apply aj ?_;clear hK K)|apply Ry.o ?_|apply b8 ?_|(apply bq (fun Y g=>?_) (fun Y g=>?_)<;>try(cases Y;done))|apply ah ?_|(apply ai fun K hK=>?_)|(apply au 14 [(4,11),(6,11),(9,11),(10,11)] fun K hK=>?_)|(apply au 15 [(4,7),(4,9),(8,9)] fun K hK=>?_)|(apply au 19 [(4,11),(6,11),(9,11),(10,11)] fun K hK=>?_)|(apply au 20 [(4,6),(4,8),(7,8)] fun K hK=>?_)|(apply au 25 [(1,18),(3,18),(5,18),(6,18),(10,18),(15,18),(17,18)] fun K hK=>?_)|(apply aS ?_;try intro _)|(apply aT ?_ ?_<;>clear hK K)|apply aR ?_|apply bD rfl ?_|apply ak ?_|apply am ?_|apply aq ?_|apply aw ?_)
      refine⟨aD,_,(by(try simp only[aF,aW,Nat.reduceBEq,Nat.reduceAdd,Nat.reduceLeDiff,tyF,eh,eM,ag0, *]);first|done|with_reducible rfl),?_⟩;try simp only[aC]
      exact⟨_,_,_,_,_,rfl,.nil db fun k Z=>by rw[a1,af ac,z _ ac,hsm.get k ac];exact qo k Z⟩
     .rw[af hbig]at hJ;have hone:([.ai f.name,.int .i64 f.params.length,O,.int .i64 v.1,.int .i64 v.2.ab]:qs).all AV.one=true:=by simp only[oy,oz,hl1];rfl
      have bGr:dK prog 32 [(0,.ai f.name),(1,.int .i64 f.params.length),(2,O),(3,.int .i64 v.1),(4,.int .i64 v.2.ab)]=some (.agg [.ai f.name,.int .i64 f.params.length,O,.int .i64 v.1,.int .i64 v.2.ab]):=by
       rcases nd7 with⟨rfl,_⟩|⟨q,im,rows,rfl,_⟩<;>kernel_rfl
      have hbs:=fun H=>zdr H (cs:=[.ai f.name,.int .i64 f.params.length,O,.int .i64 v.1,.int .i64 v.2.ab]) rfl hone;have g77:H7.get U.next=some (.cells [av,fv] 0 true):=by rw[z _ ac];exact g7
      have hfq:∀k o m z',fv=.sl k o m z'->k<L.next/\U.next<k:=fun k o m z' e=>by
       rcases rf.own with⟨h1,_⟩|⟨q,h1,h2,h3,_⟩
       .rw[h1]at e;cases e
       .rw[h1]at e;simp only[AV.sl.injEq]at e;rw[<-e.1];exact⟨h3,h2⟩
      have I:∀k,k<H7.next->(H7.alloc (.cells [.ai f.name,.int .i64 f.params.length,O,.int .i64 v.1,.int .i64 v.2.ab] 0 true)).get k=H7.get k:=fun k Z=>eG
      obtain⟨H9,a9,n9,q9,FR,r9⟩:=rf.push (H7:=H7) ac (fun k h1 h2=>z k h2) (Gr.mk f.name f.params.length v.2.l v.1 v.2.ab) nd7 (fun k Z=>by have:=s7 k Z;omega) ac ac;dsimp only[jX]at a9 q9;have old9:∀k,k<L.next->(∀o m z',fv≠.sl k o m z')->H9.get k=L.get k:=fun k h1 h2=>by rw[q9 k ac h2,I k ac,z k h1]
      have hlow:∀k,k<=U.next->∀o m z',fv≠.sl k o m z':=fun k Z o m z' e=>by have:=(hfq k o m z' e).2;omega
      have hhigh:∀k,L.next<=k->∀o m z',fv≠.sl k o m z':=fun k Z o m z' e=>by have:=(hfq k o m z' e).1;omega
      have g79:H9.get U.next=some (.cells [av,fv] 0 true):=by rw[old9 _ ac (hlow _ (aO _))];exact g7
      have gf9:H9.get L.next=some (.cells f.cells 0 true):=by rw[q9 _ ac (hhigh _ (aO _)),I _ ac];exact gg7
      have m9:H9.get (L.next+1)=some (.cells [.ao (p.aa.map Ar.cells),.ao (p.funcs.map Fu.cells),O,V,vv6,.int .i64 v.2.ab,.int .i64 v.2.loops] 0 true):=by rw[q9 _ ac (hhigh _ ac),I _ ac];exact m7
      have gf8:(H7.alloc (.cells [.ai f.name,.int .i64 f.params.length,O,.int .i64 v.1,.int .i64 v.2.ab] 0 true)).get L.next=some (.cells f.cells 0 true):=by rw[I _ ac];exact gg7
      have m8:(H7.alloc (.cells [.ai f.name,.int .i64 f.params.length,O,.int .i64 v.1,.int .i64 v.2.ab] 0 true)).get (L.next+1)=some (.cells [.ao (p.aa.map Ar.cells),.ao (p.funcs.map Fu.cells),O,V,vv6,.int .i64 v.2.ab,.int .i64 v.2.loops] 0 true):=by rw[I _ ac];exact m7
      have g78:(H7.alloc (.cells [.ai f.name,.int .i64 f.params.length,O,.int .i64 v.1,.int .i64 v.2.ab] 0 true)).get U.next=some (.cells [av,fv] 0 true):=by rw[I _ ac];exact g77
      have hJ':mT p n (p.funcs.drop (i5+1)) (gs++[Gr.mk f.name f.params.length v.2.l v.1 v.2.ab])=some (u,e):=hJ;have old9':∀k,k<U.next->H9.get k=L.get k:=fun k Z=>old9 k ac (hlow k ac)
      clear I old9 hlow hhigh hfq z q9 hJ nd7 old;repeat' (first
       |(apply aj ?_;clear hK K)|apply Ry.o ?_|apply b8 ?_|(apply bq (fun Y g=>?_) (fun Y g=>?_)<;>try(cases Y;done))|apply ah ?_|(apply ai fun K hK=>?_)|(apply au 14 [(4,11),(6,11),(9,11),(10,11)] fun K hK=>?_)|(apply au 15 [(4,7),(4,9),(8,9)] fun K hK=>?_)|(apply au 19 [(4,11),(6,11),(9,11),(10,11)] fun K hK=>?_)|(apply au 20 [(4,6),(4,8),(7,8)] fun K hK=>?_)|(apply au 25 [(1,18),(3,18),(5,18),(6,18),(10,18),(15,18),(17,18)] fun K hK=>?_)|(apply aS ?_;try intro _)|(apply aT ?_ ?_<;>clear hK K)|apply aR ?_|apply bD rfl ?_|apply ak ?_|apply am ?_|apply aq ?_|apply aw ?_)
      .exact di
      .refine⟨ac,a2,a2,ce,po,?_⟩;have hs9:∀m k,k≠U.next->(H9.set U.next m).get k=H9.get k:=fun m k Z=>by rw[a1,af Z]
       refine⟨gs++[Gr.mk f.name f.params.length v.2.l v.1 v.2.ab],.sl (H7.next+1) 0 (gs.length+1) 5,FR,lvs++[O],hJ',by rw[hs9 _ _ ac,old9' _ ac];exact g0,by rw[hs9 _ _ ac,old9' _ ac];exact g1,by rw[a1,ay rfl,hgl],?_,⟨fun k h2=>by rw[hs9 _ _ ac,old9' _ ac];exact hsm.get k h2⟩,by rw[fg,hgl];rfl⟩;exact r9.keep (aO _) (aO _) fun k Z _=>hs9 _ k ac
  .have hlt':¬(i5:Int)<p.funcs.length:=by omega
   have hd:p.funcs.drop i5=[]:=oB ac;rw[hd]at hJ;simp only[mT,cO]at hJ;obtain⟨rfl,rfl⟩:=hJ;have ag:cQ 2 [av,fv]=some (.agg [av,fv]):=rfl;have rd1:=ra'.keep (S':=fun k=>H.next<=k/\k<U.next+1) (H':=L.set (H.next+1) (.cells [av,fv] 0 true)) (fun _ _ h=>⟨ac,ac⟩) db fun k Z _=>by rw[a1,af ac];exact hsm.get k Z.2
   have rd2:=rf.keep (lo':=U.next+1) (H':=L.set (H.next+1) (.cells [av,fv] 0 true)) (aO _) db fun k Z _=>jd;have hax2:p.aa≠[]->∃q,av=.sl q 0 p.aa.length 2/\H.next<=q/\q<U.next+1/\q<(L.set (H.next+1) (.cells [av,fv] 0 true)).next/\(L.set (H.next+1) (.cells [av,fv] 0 true)).get q=some (.cells (p.aa.map Ar.cells).flatten 0 true):=fun hne=>by
    obtain⟨q,b1,b2,b3,b4⟩:=hax hne;have b5:q≠H.next+1:=ac
    exact⟨q,b1,ac,ac,db,by rw[a1,af b5,hsm.get q b3];exact b4⟩
   have fin:P7 H (L.set (H.next+1) (.cells [av,fv] 0 true)) ⟨p.aa,gs⟩ 0 (.aS [.agg [av,fv],.int .i64 0]):=⟨_,_,U.next+1,pt,lvs,rfl,rd1,rd2,hax2,ac,db,fun k Z=>by rw[a1,af ac,hsm.get k ac];exact qo k Z⟩;clear rd1 rd2;repeat' (first
    |(apply aj ?_;clear hK K)|apply Ry.o ?_|apply b8 ?_|(apply bq (fun Y g=>?_) (fun Y g=>?_)<;>try(cases Y;done))|apply ah ?_|(apply ai fun K hK=>?_)|(apply au 14 [(4,11),(6,11),(9,11),(10,11)] fun K hK=>?_)|(apply au 15 [(4,7),(4,9),(8,9)] fun K hK=>?_)|(apply au 19 [(4,11),(6,11),(9,11),(10,11)] fun K hK=>?_)|(apply au 20 [(4,6),(4,8),(7,8)] fun K hK=>?_)|(apply au 25 [(1,18),(3,18),(5,18),(6,18),(10,18),(15,18),(17,18)] fun K hK=>?_)|(apply aS ?_;try intro _)|(apply aT ?_ ?_<;>clear hK K)|apply aR ?_|apply bD rfl ?_|apply ak ?_|apply am ?_|apply aq ?_|apply aw ?_)
   refine⟨aD,_,(by(try simp only[aF,aW,Nat.reduceBEq,Nat.reduceAdd,Nat.reduceLeDiff,tyF,eh,eM,ag, *]);first|done|with_reducible rfl),?_⟩;try simp only[aC]
   exact fin
 .rw[af hc,aJ,gY]at h;obtain⟨rfl,rfl⟩:=h;refine bF (M:=144) (rs:=[.cell 2 26,.tmp 3]) (hw.call _) hw.aD hw.aq func16 rfl rfl D2.2 rfl ?_;dsimp only[D2,bA,Nat.reduceAdd];repeat' (first
   |(apply aj ?_;clear hK K)|apply Ry.o ?_|apply b8 ?_|(apply ee ?_;first|refine bi (hchk _) ?_)|(apply bq (fun Y g=>?_) (fun Y g=>?_)<;>try(cases Y;done))|apply ah ?_|(apply ai fun K hK=>?_)|(apply au 14 [(4,11),(6,11),(9,11),(10,11)] fun K hK=>?_)|(apply au 15 [(4,7),(4,9),(8,9)] fun K hK=>?_)|(apply au 19 [(4,11),(6,11),(9,11),(10,11)] fun K hK=>?_)|(apply au 20 [(4,6),(4,8),(7,8)] fun K hK=>?_)|(apply au 25 [(1,18),(3,18),(5,18),(6,18),(10,18),(15,18),(17,18)] fun K hK=>?_)|(apply aS ?_;try intro _)|(apply aT ?_ ?_<;>clear hK K)|apply aR ?_|apply bD rfl ?_|apply ak ?_|apply am ?_|apply aq ?_|apply aw ?_)
  have ag0:cQ 2 [.ah,.ah]=some (.agg [.ah,.ah]):=rfl;refine⟨aD,_,(by(try simp only[aF,aW,Nat.reduceBEq,Nat.reduceAdd,Nat.reduceLeDiff,tyF,eh,eM,ag0, *]);first|done|with_reducible rfl),?_⟩;try simp only[aC]
  exact⟨_,_,_,_,_,rfl,.nil ip fun k Z=>by simp only[a1,aQ,bj,bE];repeat' rw[af ac]⟩
end
end Go.Proofs.Ytbflaciihaijgaa
