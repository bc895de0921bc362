/- Lemmas for the last file. -/
import Derived.Test.YtpbcimfiofmoeaaGreatWEQ
set_option linter.all false
set_option maxHeartbeats 32000000
namespace Go.Ab
set_option maxRecDepth 20000
open Go
variable{qe:Prop}
def Ts(h:qe:=by simp only[List.all_cons,List.all_nil,w0,cm,w2,w3,w4,Bool.and_true];rfl):=h
def mM(h:qe:=by (try simp only[aU,bq]);omega):=h
def oG(h:qe:=by first|rfl|((try simp only[aU,bq]);omega)):=h
def FM(h:qe:=by rw[<- Z,Hp.get_set,if_neg U]):=h
def FN(h:qe:=by rw[<- Z,Hp.get_set,if_pos rfl]):=h
def yZ(h:qe:=by simp[vK]):=h
def vT(h:qe:=by rw[Hp.get_set,if_neg ac,Hp.get_set,if_neg ac]):=h
def Tt(h:qe:=by rw[Y _ ac,C _ ac,V _ ac ac,O _ ac,oH7 _ ac ac,oHb _ ac,oH6 _ ac ac,oHa _ ac]):=h
def Tu(h:qe:=by rw[Y _ ac,C _ ac,V _ ac ac,O _ ac,oH7 _ ac ac,oHb _ ac]):=h
def Tv(h:qe:=by rw[Y _ ac,C _ ac,V _ ac ac,O _ ac]):=h
end Go.Ab
namespace Go.Proofs.YtpbcimfiofmoeaaGreat
set_option maxRecDepth 20000
open Go Go.Ab Proofs.Tryz
variable{z:qC}{k lo r:Nat}{f c q x y:Int}{H H2:Hp}{Y:qy}{E2:aq}{S:Nat->Prop}{Z:Int->dk->qD×dk}{s:dk}
section
def tyG5a.tyF:=ad @cr (ad @cK (ad @fP (ad @et (ad @dV (ad @dR (ad @dD (ad @yc (ad @eh (ad @ya (ad @Su (ad @Sv (ad @Bm (ad @zeS (ad @zeT (@J3)))))))))))))))
open tyG5a
set_option maxRecDepth 100000 in
theorem zfD(hG:zf6 z){deep:Nat}{m:Int}(hst:deep<=2->rq z k f (deep+1))(j:AtT f deep lo H H2 r Y c q m E2) (hp0:q<6):bS prog (au pls z) 84 156 oE E2 H2 (oF k f deep lo H r Y c q m):=by
 obtain⟨hd,hrl,hlo,n2,g2,J,hr2,hL1,Z,hqd,k0,k1,k2,k6,k8,k9,k10⟩:=j;have hkeep:(au pls z).keep 84=false:=rfl;have hq2:(2:Int)≠0:=aH;have U:((ct f).length:Int)≠0:=by rcases uw f with h|h<;>rw[h]<;>decide
 obtain⟨hi0,hix⟩:=th (ct f) U Z.1 [];have hxs:=uB Z.1;have hxa:=uC Z.1;have hxf:=vQ Z.1;have er:(H.next == r)=false:=ak ac;have e41:=fj f 4 1 Y;have e50:=fj f 5 0 Y;have e32:=fj f 3 2 Y;have hwd:IntKind.wrap .i64 ((deep:Int)+1)=((deep+1:Nat):Int):=gS ac;unfold oF;generalize hR:io (tj f k deep) f Y c q m=R;rw[io]at hR;dsimp only[oE,fR,ti];repeat' (first
  |(apply aj ?_;clear hK K)|apply bQ ?_|(apply bu ?_ ?_<;>(intro hb hbp;try(cases hb;done)))|(apply am fun K hK=>?_)|(apply ci 8 [(3,9),(3,11),(6,9),(6,11)] fun K hK=>?_)|(apply bD ?_;try intro _)|fail)
 refine qd ?_;refine aF ?_ (mK hG 5 f 0 ac ac lo _ r Y c hr2 ac);rintro v H4 ⟨⟨cs,rfl,C,I,O⟩,M,n4,o4⟩;obtain⟨v0,v1,v2,v3,v4,rfl⟩:=dW C;obtain⟨w0,cm,w2,w3,w4⟩:=ji I;have g4:H4.get H.next=some qi:=aX
 dsimp only[aC];repeat' (first
  |apply aV ?_|(apply bD ?_;try intro _)|(apply ch ?_ ?_<;>clear hK K)|fail)
 .exact cn
 .refine⟨aB,_,(by(try simp only[aG,aY,Nat.reduceBEq,tyF,cF,cR, *]);first|done|with_reducible rfl),?_⟩;try simp only[aA]
  rw[ai ac]at hR;subst hR;refine xA rfl Ts (pw (n:=8+k) 1 _ [] 0 nF ((O.up ac).aO (fun q _ hq=>ac) eC fun q h1 V=>ly) .ag .ag .ag) ?_ ?_ ?_
  .exact M.keep eC fun q hq=>ly
  .simp only[bq];omega
  .intro q h1 V;rw[aM,af ac,o4 _ ac V];exact J q h1 V
set_option maxRecDepth 100000 in
theorem zfE(hG:zf6 z){deep:Nat}{m:Int}(hst:deep<=2->rq z k f (deep+1))(M:AtT f deep lo H H2 r Y c q m E2)(hn0:¬q<6)(hp0:q<8):bS prog (au pls z) 84 156 oE E2 H2 (oF k f deep lo H r Y c q m):=by
 obtain⟨hd,hrl,hlo,n2,g2,o2',hr2,hL1,V,hqd,k0,k1,k2,k6,k8,k9,k10⟩:=M;have hkeep:(au pls z).keep 84=false:=rfl;have hq2:(2:Int)≠0:=aH;have U:((ct f).length:Int)≠0:=by rcases uw f with h|h<;>rw[h]<;>decide
 obtain⟨hi0,hix⟩:=th (ct f) U V.1 [];have hxs:=uB V.1;have hxa:=uC V.1;have hxf:=vQ V.1;have er:(H.next == r)=false:=ak ac;have e41:=fj f 4 1 Y;have e50:=fj f 5 0 Y;have e32:=fj f 3 2 Y;have hwd:IntKind.wrap .i64 ((deep:Int)+1)=((deep+1:Nat):Int):=gS ac;unfold oF;generalize hR:io (tj f k deep) f Y c q m=R;rw[io]at hR;dsimp only[oE,fR,ti];repeat' (first
  |(apply aj ?_;clear hK K)|apply bQ ?_|(apply bu ?_ ?_<;>(intro hb hbp;try(cases hb;done)))|(apply am fun K hK=>?_)|(apply ci 10 [(0,7),(0,10),(0,12),(4,7),(4,10),(4,12)] fun K hK=>?_)|(apply bD ?_;try intro _)|fail)
 refine qd ?_;refine aF ?_ (mK hG 3 f 2 ac ac lo _ r Y c (hr2.keep (cG _) fun q J=>em) ac);rintro v H4 ⟨⟨al,rfl,C,ha2,Z⟩,hr4,n4,O⟩;simp only[aU]at n4 O Z;obtain⟨kV,a1,a2,a3,a4,rfl⟩:=dW C;obtain⟨u0,u1,u2,u3,u4⟩:=ji ha2;have g4s:H4.get (H.next+1)=some qs:=by rw[O _ ac ac,aD,ai ac]
 dsimp only[aC];refine rB ?_;refine qd ?_;refine aF ?_ (mK hG 4 f 1 ac ac lo H4 r _ c hr4 ac);rintro v H5 ⟨⟨cs,rfl,hc1,hc2,hc3⟩,hr5,n5,o5⟩;obtain⟨v0,v1,v2,v3,v4,rfl⟩:=dW hc1;obtain⟨w0,cm,w2,w3,w4⟩:=ji hc2;have g5s:H5.get (H.next+1)=some qs:=aX;have g5:H5.get H.next=some qi:=by rw[o5 _ ac ac,O _ ac ac,aD,af ac];exact g2
 dsimp only[aC];repeat' (first
  |apply aV ?_|(apply bD ?_;try intro _)|(apply ch ?_ ?_<;>clear hK K)|fail)
 .exact cn
 .refine⟨aB,_,(by(try simp only[aG,aY,Nat.reduceBEq,tyF,cF,cR, *]);first|done|with_reducible rfl),?_⟩;try simp only[aA]
  rw[af ac,ai ac]at hR;subst hR;refine xA rfl (by simp only[rS,oY,u0,u1,u2,u3,u4,w0,cm,w2,w3,w4,hT];rfl) (pw (n:=8+k) 2 _ [] 0 ((Z.up ac).aO (fun q _ J=>ac) bb fun q I j=>by rw[aM,af ac,o5 _ ac ac]) ((hc3.up ac).aO (fun q _ J=>ac) bb fun q I j=>ly) .ag .ag .ag) ?_ ?_ ?_
  .exact hr5.keep bb fun q J=>ly
  .simp only[bq];omega
  .intro q I j;rw[aM,af ac,o5 _ ac j,O _ ac j,aD,af ac];exact o2' q I j
set_option maxRecDepth 100000 in
theorem zfF(hG:zf6 z){deep:Nat}{m:Int}(hst:deep<=2->rq z k f (deep+1))(j:AtT f deep lo H H2 r Y c q m E2)(hn0:¬q<6)(hn1:¬q<8)(hn2:¬q<10)(hn3:¬q<12)(hp0:q<14):bS prog (au pls z) 84 156 oE E2 H2 (oF k f deep lo H r Y c q m):=by
 obtain⟨hd,hrl,hlo,n2,g2,J,hr2,hL1,Z,hqd,k0,k1,k2,k6,k8,k9,k10⟩:=j;have hkeep:(au pls z).keep 84=false:=rfl;have hq2:(2:Int)≠0:=aH;have U:((ct f).length:Int)≠0:=by rcases uw f with h|h<;>rw[h]<;>decide
 obtain⟨hi0,hix⟩:=th (ct f) U Z.1 [];have hxs:=uB Z.1;have hxa:=uC Z.1;have hxf:=vQ Z.1;have er:(H.next == r)=false:=ak ac;have e41:=fj f 4 1 Y;have e50:=fj f 5 0 Y;have e32:=fj f 3 2 Y;have hwd:IntKind.wrap .i64 ((deep:Int)+1)=((deep+1:Nat):Int):=gS ac;unfold oF;generalize hR:io (tj f k deep) f Y c q m=R;rw[io]at hR;dsimp only[oE,fR,ti];repeat' (first
  |(apply aj ?_;clear hK K)|apply bQ ?_|(apply bu ?_ ?_<;>(intro hb hbp;try(cases hb;done)))|(apply am fun K hK=>?_)|fail)
 refine qc ?_;refine aF ?_ (mK hG 4 f 1 ac ac lo _ r Y c hr2 ac);rintro v H4 ⟨⟨cs,rfl,C,I,O⟩,M,n4,o4⟩;obtain⟨v0,v1,v2,v3,v4,rfl⟩:=dW C;obtain⟨w0,cm,w2,w3,w4⟩:=ji I;have g4:H4.get H.next=some qi:=aX
 dsimp only[aC];refine gW ?_;refine⟨aB,_,(by(try simp only[aG,aY,Nat.reduceBEq,tyF,cF,cR, *]);first|done|with_reducible rfl),?_⟩;try simp only[aA]
 rw[af ac,af ac,af ac,af ac,ai ac]at hR;subst hR;refine xA rfl Ts (pw (n:=8+k) 5 [] [] 0 nF ((O.up ac).aO (fun q _ hq=>ac) bb fun q h1 V=>ly) .ag .ag .ag) ?_ ?_ ?_
 .exact M.keep bb fun q hq=>ly
 .simp only[bq];omega
 .intro q h1 V;rw[aM,af ac,o4 _ ac V];exact J q h1 V
set_option maxRecDepth 100000 in
theorem zfG(hG:zf6 z){deep:Nat}{M:Hp}{m:Int}{J:aq}(hst:deep<=2->rq z k f (deep+1))(j:AtT f deep lo H M r Y c q m J)(hn0:¬q<6)(hn1:¬q<8)(hn2:¬q<10)(hn3:¬q<12)(hn4:¬q<14)(hn5:¬q<15) : bS prog (au pls z) 84 156 oE J M (oF k f deep lo H r Y c q m):=by
 obtain⟨hd,hrl,hlo,n2,g2,O,C,hL1,Z,hqd,k0,k1,k2,k6,k8,k9,k10⟩:=j;have V:(au pls z).keep 84=false:=rfl;have hq2:(2:Int)≠0:=aH;have U:((ct f).length:Int)≠0:=by rcases uw f with h|h<;>rw[h]<;>decide
 obtain⟨hi0,hix⟩:=th (ct f) U Z.1 [];have hxs:=uB Z.1;have hxa:=uC Z.1;have hxf:=vQ Z.1;have er:(H.next == r)=false:=ak ac;have e41:=fj f 4 1 Y;have e50:=fj f 5 0 Y;have e32:=fj f 3 2 Y;have hwd:IntKind.wrap .i64 ((deep:Int)+1)=((deep+1:Nat):Int):=gS ac;unfold oF;generalize I:io (tj f k deep) f Y c q m=R;rw[io]at I;dsimp only[oE,fR,ti];refine pE (fun hb hbp=>?_)
 refine⟨aB,_,(by(try simp only[aG,aY,Nat.reduceBEq,tyF,cF,cR, *]);first|done|with_reducible rfl),?_⟩;try simp only[aA]
 rw[af ac,af ac,af ac,af ac,af ac,af ac]at I;subst I;refine xA rfl rfl (pw (n:=8+k) 7 [] [] _ nF nF .ag .ag .ag) ?_ ?_ ?_
 .exact C.keep bb fun q hq=>ly
 .simp_all
 .intro q h1 h2;rw[aM,af ac];exact O q h1 h2
end
section
def tyG5b.tyF:=ad @cr (ad @cK (ad @fP (ad @et (ad @dV (ad @dR (ad @dD (ad @yc (ad @eh (ad @ya (ad @Su (ad @Sv (ad @Bm (ad @J3 (ad @Sw (@zeU)))))))))))))))
open tyG5b
set_option maxRecDepth 100000 in
theorem zfH{lG:qC}(hG:zf6 lG){deep:Nat}{m:Int}(hst:deep<=2->rq lG k f (deep+1))(hat:AtT f deep lo H H2 r Y c q m E2)(hn0:¬q<6)(hn1:¬q<8)(hp0:q<10):bS prog (au pls lG) 84 156 oE E2 H2 (oF k f deep lo H r Y c q m):=by
 obtain⟨hd,hrl,hlo,n2,g2,o2',hr2,hL1,hm,hqd,k0,k1,k2,k6,k8,k9,k10⟩:=hat;have hkeep:(au pls lG).keep 84=false:=rfl;have hq2:(2:Int)≠0:=aH;have C:((ct f).length:Int)≠0:=by rcases uw f with h|h<;>rw[h]<;>decide
 obtain⟨hi0,hix⟩:=th (ct f) C hm.1 [];have hxs:=uB hm.1;have hxa:=uC hm.1;have hxf:=vQ hm.1;have er:(H.next == r)=false:=ak ac;have e41:=fj f 4 1 Y;have e50:=fj f 5 0 Y;have e32:=fj f 3 2 Y;have hwd:IntKind.wrap .i64 ((deep:Int)+1)=((deep+1:Nat):Int):=gS ac;unfold oF;generalize hR:io (tj f k deep) f Y c q m=R;rw[io]at hR;dsimp only[oE,fR,ti];repeat' (first
  |(apply aj ?_;clear hK K)|apply bQ ?_|(apply bu ?_ ?_<;>(intro hb hbp;try(cases hb;done)))|(apply am fun K hK=>?_)|fail)
 refine qc ?_;refine aF ?_ (mK hG 4 f 1 ac ac lo _ r Y c hr2 ac);rintro v Z ⟨⟨cs,rfl,hc1,hc2,hc3⟩,hr4,n4,o4⟩;obtain⟨v0,v1,v2,v3,v4,rfl⟩:=dW hc1;obtain⟨w0,cm,w2,w3,w4⟩:=ji hc2;dsimp only[aC];refine cY fun K hK=>?_;generalize U:Hp.set (Hp.alloc Z _) Z.next _=Ha
 have na:Ha.next=Z.next+1:=yr
 have oa:∀q,q<Z.next->Ha.get q=Z.get q:=fun q J=>by rw[<-U,aM,af ac,aD,af ac]
 have ga:Ha.get Z.next=some (.cells [.int .i64 3,.aj [],.aj [],.int .i64 0,.int .i64 0,.int .i64 0,.aj [],.int .i64 0,.ag,v0,v1,v2,v3,v4,.ag,.ag,.ag] 0 true):=by rw[<-U,aM,ai rfl]
 clear U;refine qc ?_;refine aF ?_ (BG hG (hst ac) 3 ac ac lo Ha r ((bW f 4 1 Y).2,c) (hr4.keep ac fun q J=>oa q ac) vz);rintro z H5 ⟨O,hr5,n5,o5⟩;have hl5:(mL f k (deep+1) 3 ((bW f 4 1 Y).2,c)).2.1.length<=(bW f 4 1 Y).2.length:=dw (BE (BF f k (deep+1)) _ _) (pr _);obtain⟨t1,t2⟩:=O.one;have g5:H5.get Z.next=some (.cells [.int .i64 3,.aj [],.aj [],.int .i64 0,.int .i64 0,.int .i64 0,.aj [],.int .i64 0,.ag,v0,v1,v2,v3,v4,.ag,.ag,.ag] 0 true):=aX
 dsimp only[aC];refine cY fun K hK=>?_;generalize M:Hp.set H5 Z.next _=Hb
 have nb:Hb.next=H5.next:=by rw[<-M];rfl
 have ob:∀q,q≠Z.next->Hb.get q=H5.get q:=fun q J=>by rw[<-M,aM,af J]
 have gb:Hb.get Z.next=some (.cells [.int .i64 3,.aj [],.aj [],.int .i64 0,.int .i64 0,.int .i64 0,.aj [],.int .i64 0,.ag,v0,v1,v2,v3,v4,.ag,z,.ag] 0 true):=by rw[<-M,aM,ai rfl]
 clear M;refine qc ?_;refine aF ?_ (BG hG (hst ac) 2 ac ac lo Hb r (mL f k (deep+1) 3 ((bW f 4 1 Y).2,c)).2 (hr5.keep ac fun q J=>ob q ac) ac);rintro uv H6 ⟨V,hr6,n6,o6⟩;obtain⟨p1,p2⟩:=V.one;have g6t:H6.get Z.next=some (.cells [.int .i64 3,.aj [],.aj [],.int .i64 0,.int .i64 0,.int .i64 0,.aj [],.int .i64 0,.ag,v0,v1,v2,v3,v4,.ag,z,.ag] 0 true):=by rw[o6 _ ac ac];exact gb
 have g6:H6.get H.next=some qi:=by rw[o6 _ ac ac,ob _ ac,o5 _ ac ac,oa _ ac,o4 _ ac ac];exact g2
 have e46:(H.next == Z.next)=false:=ak ac;have e64:(Z.next == H.next)=false:=ak ac;dsimp only[aC];refine gW ?_;refine⟨aB,_,(by(try simp only[aG,aY,Nat.reduceBEq,tyF,cF,cR, *]);first|done|with_reducible rfl),?_⟩;try simp only[aA]
 rw[af ac,af ac,ai ac]at hR;subst hR;have hk6:∀q,Hb.next<=q->q<H6.next->((H6.set Z.next (.cells [.int .i64 3,.aj [],.aj [],.int .i64 0,.int .i64 0,.int .i64 0,.aj [],.int .i64 0,.ag,v0,v1,v2,v3,v4,.ag,z,uv] 0 true)).set H.next (.cells [.int .i64 3,.aj [],.aj [],.int .i64 0,.int .i64 0,.int .i64 0,.aj [],.int .i64 0,.ag,v0,v1,v2,v3,v4,.ag,z,uv] 0 true)).get q=H6.get q:=fun q I j=>vT
 have hk5:∀q,Ha.next<=q->q<H5.next->((H6.set Z.next (.cells [.int .i64 3,.aj [],.aj [],.int .i64 0,.int .i64 0,.int .i64 0,.aj [],.int .i64 0,.ag,v0,v1,v2,v3,v4,.ag,z,uv] 0 true)).set H.next (.cells [.int .i64 3,.aj [],.aj [],.int .i64 0,.int .i64 0,.int .i64 0,.aj [],.int .i64 0,.ag,v0,v1,v2,v3,v4,.ag,z,uv] 0 true)).get q=H5.get q:=fun q I j=>by rw[aM,af ac,aM,af ac,o6 _ ac ac,ob _ ac]
 refine xA rfl (by simp only[rS,oY,w0,cm,w2,w3,w4,t1,p1,hT];rfl) (pw (n:=8+k) 3 [] [] 0 nF ((hc3.up ac).aO (fun q _ J=>ac) eC fun q I j=>by rw[aM,af ac,aM,af ac,o6 _ ac ac,ob _ ac,o5 _ ac ac,oa _ ac]) .ag (O.keep (fun q _ J=>ac) eC fun q I j=>hk5 q I j).rd (V.keep (fun q _ J=>ac) eC fun q I j=>hk6 q I j).rd) ?_ ?_ ?_
 .exact hr6.keep eC fun q J=>vT
 .simp only[bq];omega
 .intro q I j;rw[aM,af ac,aM,af ac,o6 _ ac j,ob _ ac,o5 _ ac j,oa _ ac,o4 _ ac j];exact o2' q I j
set_option maxRecDepth 100000 in
theorem zfI{lG:qC}(hG:zf6 lG){deep:Nat}{m:Int}(hst:deep<=2->rq lG k f (deep+1))(hat:AtT f deep lo H H2 r Y c q m E2)(hn0:¬q<6)(hn1:¬q<8)(hn2:¬q<10)(hp0:q<12):bS prog (au pls lG) 84 156 oE E2 H2 (oF k f deep lo H r Y c q m):=by
 obtain⟨hd,hrl,hlo,n2,g2,o2',hr2,hL1,hm,hqd,k0,k1,k2,k6,k8,k9,k10⟩:=hat;have hkeep:(au pls lG).keep 84=false:=rfl;have hq2:(2:Int)≠0:=aH;have U:((ct f).length:Int)≠0:=by rcases uw f with h|h<;>rw[h]<;>decide
 obtain⟨hi0,hix⟩:=th (ct f) U hm.1 [];have hxs:=uB hm.1;have hxa:=uC hm.1;have hxf:=vQ hm.1;have er:(H.next == r)=false:=ak ac;have e41:=fj f 4 1 Y;have e50:=fj f 5 0 Y;have e32:=fj f 3 2 Y;have hwd:IntKind.wrap .i64 ((deep:Int)+1)=((deep+1:Nat):Int):=gS ac;unfold oF;generalize hR:io (tj f k deep) f Y c q m=R;rw[io]at hR;dsimp only[oE,fR,ti];repeat' (first
  |(apply aj ?_;clear hK K)|apply bQ ?_|(apply bu ?_ ?_<;>(intro hb hbp;try(cases hb;done)))|(apply am fun K hK=>?_)|fail)
 obtain⟨lv,hg,htick⟩:=hr2.f6;have hcw:IntKind.wrap .i64 (c+1)=bB (c+1):=rfl;refine cY fun K hK=>?_;generalize J:Hp.set _ r _=z;have nt:z.next=H.next+1:=by rw[<-J];simpa using n2
 have ot:∀q,q≠r->z.get q=_:=fun q M=>by rw[<-J,aM,af M]
 have hrt:i8 lo z r Y (bB (c+1)):=aX;have gt:z.get H.next=some qi:=aX
 clear J;refine qc ?_;refine aF ?_ (mK hG 4 f 1 ac ac lo z r Y _ hrt ac);rintro v Z ⟨⟨cs,rfl,hc1,hc2,hc3⟩,hr4,n4,o4⟩;obtain⟨v0,v1,v2,v3,v4,rfl⟩:=dW hc1;obtain⟨w0,cm,w2,w3,w4⟩:=ji hc2;dsimp only[aC];refine cY fun K hK=>?_;generalize V:Hp.set (Hp.alloc Z _) Z.next _=Ha
 have na:Ha.next=Z.next+1:=by rw[<-V];rfl
 have oa:∀q,q<Z.next->Ha.get q=Z.get q:=fun q M=>by rw[<-V,aM,af ac,aD,af ac]
 have ga:Ha.get Z.next=some (.cells [.int .i64 4,.aj [],.aj [],.int .i64 0,.int .i64 0,.int .i64 0,.aj [],.int .i64 0,.ag,v0,v1,v2,v3,v4,.ag,.ag,.ag] 0 true):=by rw[<-V,aM,ai rfl]
 clear V;refine qc ?_;refine aF ?_ (BG hG (hst ac) 3 ac ac lo Ha r ((bW f 4 1 Y).2,bB (c+1)) (hr4.keep ac fun q M=>oa q ac) vz);rintro tv C ⟨O,hr5,n5,o5⟩;obtain⟨t1,t2⟩:=O.one;have g5:C.get Z.next=some (.cells [.int .i64 4,.aj [],.aj [],.int .i64 0,.int .i64 0,.int .i64 0,.aj [],.int .i64 0,.ag,v0,v1,v2,v3,v4,.ag,.ag,.ag] 0 true):=by rw[o5 _ ac ac];exact ga
 have g6:C.get H.next=some qi:=by rw[o5 _ ac ac,oa _ ac,o4 _ ac ac];exact gt
 have e46:(H.next == Z.next)=false:=ak ac;have e64:(Z.next == H.next)=false:=ak ac;dsimp only[aC];refine gW ?_;refine⟨aB,_,(by(try simp only[aG,aY,Nat.reduceBEq,tyF,cF,cR, *]);first|done|with_reducible rfl),?_⟩;try simp only[aA]
 rw[af ac,af ac,af ac,ai ac]at hR;subst hR;have hk5:∀q,Ha.next<=q->q<C.next->((C.set Z.next (.cells [.int .i64 4,.aj [],.aj [],.int .i64 0,.int .i64 0,.int .i64 0,.aj [],.int .i64 0,.ag,v0,v1,v2,v3,v4,.ag,tv,.ag] 0 true)).set H.next (.cells [.int .i64 4,.aj [],.aj [],.int .i64 0,.int .i64 0,.int .i64 0,.aj [],.int .i64 0,.ag,v0,v1,v2,v3,v4,.ag,tv,.ag] 0 true)).get q=C.get q:=fun q I j=>vT
 refine xA rfl (by simp only[rS,oY,w0,cm,w2,w3,w4,t1,hT];rfl) (pw (n:=8+k) 4 [] [] 0 nF ((hc3.up ac).aO (fun q _ M=>ac) eC fun q I j=>by rw[aM,af ac,aM,af ac,o5 _ ac ac,oa _ ac]) .ag (O.keep (fun q _ M=>ac) bb fun q I j=>hk5 q I j).rd .ag) ?_ ?_ ?_
 .exact hr5.keep bb fun q M=>vT
 .simp only[bq];omega
 .intro q I j;rw[aM,af ac,aM,af ac,o5 _ ac j,oa _ ac,o4 _ ac j,ot _ j];exact o2' q I j
set_option maxRecDepth 100000 in
theorem zfJ{lG:qC}(hG:zf6 lG){deep:Nat}{I:qy}{m:Int}(hst:deep<=2->rq lG k f (deep+1))(hat:AtT f deep lo H H2 r I c q m E2)(hn0:¬q<6)(hn1:¬q<8)(hn2:¬q<10)(hn3:¬q<12)(hn4:¬q<14)(hp0:q<15):bS prog (au pls lG) 84 156 oE E2 H2 (oF k f deep lo H r I c q m):=by
 obtain⟨hd,hrl,hlo,n2,g2,o2',hr2,hL1,hm,hqd,k0,k1,k2,k6,k8,k9,k10⟩:=hat;have hkeep:(au pls lG).keep 84=false:=rfl;have hq2:(2:Int)≠0:=aH;have hlen0:((ct f).length:Int)≠0:=by rcases uw f with h|h<;>rw[h]<;>decide
 obtain⟨hi0,hix⟩:=th (ct f) hlen0 hm.1 [];have hxs:=uB hm.1;have hxa:=uC hm.1;have hxf:=vQ hm.1;have er:(H.next == r)=false:=ak ac;have e41:=fj f 4 1 I;have e50:=fj f 5 0 I;have e32:=fj f 3 2 I;have hwd:IntKind.wrap .i64 ((deep:Int)+1)=((deep+1:Nat):Int):=gS ac;unfold oF;generalize hR:io (tj f k deep) f I c q m=R;rw[io]at hR;dsimp only[oE,fR,ti];repeat' (first
  |(apply aj ?_;clear hK K)|apply bQ ?_|(apply bu ?_ ?_<;>(intro hb hbp;try(cases hb;done)))|(apply am fun K hK=>?_)|(apply ci 24 [(3,14),(6,14),(7,14),(11,14),(13,14)] fun K hK=>?_)|(apply bD ?_;try intro _)|(apply ch ?_ ?_<;>clear hK K)|fail)
 repeat' (first
   |(apply aj ?_;clear hK K)|apply aV ?_|(apply am fun K hK=>?_)|(apply bD ?_;try intro _)|(apply ch ?_ ?_<;>clear hK K)|fail)
 .exact cn
 generalize O:Hp.set (Hp.alloc (Hp.alloc _ _) _) _ _=Ha;have na:Ha.next=H.next+3:=by rw[<-O];simp only[bq,aU];omega
 have oa:∀q,q<H.next->q≠r->Ha.get q=H.get q:=fun q M Y=>by
  rw[<-O,aM,af ac,aD,af cB,aD,af ac];exact o2' q M Y
 have gz:Ha.get H.next=some qi:=by
  rw[<-O,aM,af ac,aD,af cB,aD,af ac];exact g2
 have hra:i8 lo Ha r I c:=by
  rw[<-O];exact hr2.keep aX fun q hq=>by rw[aM,af ac,aD,af cB,aD,af ac]
 have ga:Ha.get (H.next+2)=some (.cells [.int .i64 6,.aj ((ct f).getD (m.tmod (ct f).length).toNat []),.aj (lF m),.int .i64 0,.int .i64 0,.int .i64 0,.aj [],.int .i64 0,.ag,.int .i64 0,.int .i64 0,.aj [],.int .i64 0,.ag,.ag,.ag,.ag] 0 true):=by rw[<-O,aM,ai ac]
 clear O;have htm:0<=m.tmod 2/\m.tmod 2<2:=JZ hm.1;have hw2:IntKind.wrap .i64 (2-m.tmod 2)=2-m.tmod 2:=kR ac ac;generalize hcnt:(2-m.tmod 2).toNat=U at *;have hcn:2-m.tmod 2=(U:Int):=ac;rw[hcn]at hw2;refine cl [0,1,6,9,13] [H.next] 14 U (fun j E H'=>∃v es C,H'.get (H.next+2)=some (.cells [.int .i64 6,.aj ((ct f).getD (m.tmod (ct f).length).toNat []),.aj (lF m),.int .i64 0,.int .i64 0,.int .i64 0,.aj [],.int .i64 0,.ag,.int .i64 0,.int .i64 0,.aj [],.int .i64 0,.ag,v,.ag,.ag] 0 true)/\cU (fun q=>H.next+3<=q) 4 H' 5 v (es.map Ex.cells)/\i8 lo H' r C c/\(∀q,q<H.next->q≠r->H'.get q=H.get q)/\es.length=j/\C.length<=I.length/\iL f U I=(es++(iL f (U-j) C).1,(iL f (U-j) C).2)) eE ⟨.ag,[],I,ga,.inl ⟨rfl,rfl⟩,hra,oa,rfl,ay _,aw⟩ ?_;clear ga hra oa g2 hr2 o2';rintro j E3 H3 hj hcE hrH hnH hsI ⟨v,es,C,g3,Z,z,o3,hel,hLj,hJ⟩;(try simp only[bC,aZ,aW,aG,aY,Nat.reduceBEq,Nat.reduceAdd, *]at hcE);(try simp only[bC,aZ,aW, *]at hrH);(try simp only[aU,bq,ce,bR,Nat.reduceAdd]at hnH);have hB0:(H.next == H3.next)=false:=ak ac;have hC0:(H3.next == H.next)=false:=ak ac;have hle:H.next+3<=H3.next:=ac
 have e02:(H.next == H.next+2)=false:=ak ac;have e20:(H.next+2 == H.next)=false:=ak ac;obtain⟨v1,v2⟩:=Z.one;repeat' (first
  |(apply aj ?_;clear hK K)|apply aV ?_|(apply bz ?_ ?_<;>(intro hb hbp;try(cases hb;done)))|(apply am fun K hK=>?_)|(apply ci 28 [(1,4),(1,6),(5,6)] fun K hK=>?_)|(apply bD ?_;try intro _)|fail)
 .have hlt:j<U:=by omega
  refine qd ?_;refine aF ?_ (mK hG 3 f 2 ac ac lo H3 r C c z ac);rintro v' V ⟨⟨cs,rfl,hc1,hc2,hc3⟩,hr4,n4,o4⟩;have hl4:=fj f 3 2 C;have g4:V.get (H.next+2)=some (.cells [.int .i64 6,.aj ((ct f).getD (m.tmod (ct f).length).toNat []),.aj (lF m),.int .i64 0,.int .i64 0,.int .i64 0,.aj [],.int .i64 0,.ag,.int .i64 0,.int .i64 0,.aj [],.int .i64 0,.ag,v,.ag,.ag] 0 true):=by rw[o4 _ ac ac];exact g3
  have g40:V.get H.next=some qi:=by rw[o4 _ ac ac];exact hrH
  have kb:=fun H=>J1 H hc1 hc2;have hvq:∀q o m z',v=.sl q o m z'->H.next+3<=q/\q<H3.next:=fun q o m z' e=>by
   rcases Z with⟨rfl,_⟩|⟨q',imm,rows,rfl,e1,e2,_⟩
   .cases e
   .simp only[AV.sl.injEq]at e;omega
  have ob:∀q,q<V.next->(V.alloc (.cells cs 0 true)).get q=V.get q:=fun q hq=>em
  have J:cU (fun q=>H.next+3<=q) 4 (V.alloc (.cells cs 0 true)) 5 v (es.map Ex.cells):=Z.keep (fun q _ h=>h) cB fun q M Y=>by rw[ob _ ac,o4 q Y ac]
  have gcs:(V.alloc (.cells cs 0 true)).get V.next=some (.cells cs 0 true):=fc
  have g4b:(V.alloc (.cells cs 0 true)).get (H.next+2)=some (.cells [.int .i64 6,.aj ((ct f).getD (m.tmod (ct f).length).toNat []),.aj (lF m),.int .i64 0,.int .i64 0,.int .i64 0,.aj [],.int .i64 0,.ag,.int .i64 0,.int .i64 0,.aj [],.int .i64 0,.ag,v,.ag,.ag] 0 true):=by rw[ob _ ac];exact g4
  obtain⟨v5,H5,a5,s5,n5,f5,q5⟩:=yG (P:=prog) (t:=61) underlying61 tV wP wQ rfl ax J cB (r:=V.next) (imm:=0) (row:=cs) (w:=(bW f 3 2 C).1.cells) gcs hc1 hc2 (hc3.aO (fun q M Y=>⟨ac,fun o m z' e=>by have:=(hvq q o m z' e).2;omega⟩) (cG _) fun q M Y=>ob q Y) Fz Fz;simp only[aU]at n5 f5;have o5:∀q,q<V.next->q<H.next+3->H5.get q=V.get q:=fun q M Y=>by rw[f5 q ac (fun o m z' e=>by have:=(hvq q o m z' e).1;omega),ob q M]
  have g5:H5.get (H.next+2)=some (.cells [.int .i64 6,.aj ((ct f).getD (m.tmod (ct f).length).toNat []),.aj (lF m),.int .i64 0,.int .i64 0,.int .i64 0,.aj [],.int .i64 0,.ag,.int .i64 0,.int .i64 0,.aj [],.int .i64 0,.ag,v,.ag,.ag] 0 true):=by rw[o5 _ ac ac];exact g4
  have n5':V.next+2<=H5.next:=ac
  obtain⟨p1,p2⟩:=s5.one;clear f5 q5 Z J z;dsimp only[aC];repeat' (first
   |(apply aj ?_;clear hK K)|apply aV ?_|(apply am fun K hK=>?_)|(apply bD ?_;try intro _)|(apply ch ?_ ?_<;>clear hK K)|fail)
  .exact cn
  .have o6:∀q,q≠H.next+2->(H5.set (H.next+2) (.cells [.int .i64 6,.aj ((ct f).getD (m.tmod (ct f).length).toNat []),.aj (lF m),.int .i64 0,.int .i64 0,.int .i64 0,.aj [],.int .i64 0,.ag,.int .i64 0,.int .i64 0,.aj [],.int .i64 0,.ag,v5,.ag,.ag] 0 true)).get q=H5.get q:=fun q hq=>by rw[aM,af hq]
   have g60:H5.get H.next=some qi:=by rw[o5 _ ac ac];exact g40
   refine⟨ac,(by simp only[bC,aZ,aW,aG,aY,Nat.reduceBEq,Nat.reduceAdd, *]),(by simp only[bC,aZ,aW,aG,aY, *]),ca,(by simp only[aG,Nat.reduceBEq, *];exact hZ (n:=U) ac ac),?_⟩;refine⟨v5,es++[(bW f 3 2 C).1],(bW f 3 2 C).2,fO,by rw[oP];exact s5.keep (fun q _ h=>h) eC fun q M Y=>o6 q ac,hr4.keep eC fun q hq=>by rw[o6 q ac,o5 q ac ac],fun q M Y=>by rw[o6 q ac,o5 q ac ac,o4 q ac Y,o3 q M Y],by simp[hel],ac,?_⟩;rw[hJ,show U-j=(U-(j+1))+1 by omega,iL];simp
 .have hje:j=U:=by omega
  subst hje;refine gW ?_;refine⟨aB,_,(by(try simp only[aG,aY,Nat.reduceBEq,tyF,cF,cR, *]);first|done|with_reducible rfl),?_⟩;try simp only[aA]
  rw[af ac,af ac,af ac,af ac,af ac,ai ac,hJ,xY]at hR;subst hR;simp only[iL,aS];refine xA rfl (by simp only[rS,oY,v1,hT];rfl) (pw (n:=8+k) 6 _ _ 0 nF nF ((Z.keep (fun q _ hq=>ac) eC fun q M Y=>ly).rd.up ac) .ag .ag) ?_ ?_ ?_
  .exact z.keep eC fun q hq=>ly
  .simp only[bq];omega
  .intro q M Y;rw[aM,af ac];exact o3 q M Y
end
section
def tyG5.tyF:=ad @cr (ad @cK (ad @fP (ad @et (ad @dV (ad @dR (ad @dD (ad @yc (ad @eh (ad @Sw (@u7))))))))))
open tyG5
set_option maxRecDepth 100000 in
theorem zfK{lG:qC}(U:zf6 lG){deep:Nat}(hd:deep<=3)(j:deep<=2->rq lG k f (deep+1)):rq lG (k+1) f deep:=by
 intro lo H r s J hL;have hw:zd0 (au pls lG) 84:=U.plain cM;have hnx:zd0 (au pls lG) 40:=U.plain cM;have hkeep:(au pls lG).keep 84=false:=rfl;have hrl:=J.1;have hlo:=J.2.1;have hq16:(16:Int)≠0:=aH;have hq2:(2:Int)≠0:=aH;have I:((ct f).length:Int)≠0:=by rcases uw f with h|h<;>rw[h]<;>decide
 rw[ip,xy];refine bp (M:=156) (rs:=[.cell 6 96]) (hw.call _) hw.aG hw.aB func84 rfl rfl ti.2 rfl ?_;dsimp only[ti,bm,Nat.reduceAdd];refine cY fun K hK=>?_;refine qc ?_;refine aF ?_ (ES hnx (J.keep (cG _) fun q hq=>em) hL);rintro v H2 ⟨rfl,hr2,n2,o2⟩;simp only[aU]at n2;have g2:H2.get H.next=some qi:=by rw[o2 _ ac,aD,ai rfl]
 have o2':∀q,q<H.next->q≠r->H2.get q=H.get q:=fun q h1 h2=>by rw[o2 q h2,aD,af ac]
 have hL1:=pr s.1;generalize (cj s.1).1=n at *;generalize (cj s.1).2=L1 at *;obtain⟨sL,c⟩:=s;simp only[]at *;have hq:=fE (n:=n) (m:=16) ac ac;have hm:=fE (n:=bB (n.tdiv 16)) (m:=1000) ac ac;obtain⟨hi0,hix⟩:=th (ct f) I hm.1 [];have hxs:=uB hm.1;have hxa:=uC hm.1;have hxf:=vQ hm.1;clear o2;dsimp only[aC];repeat' (first
  |(apply aj ?_;clear hK K)|apply aV ?_|(apply eu ?_;first|refine bK (P7 U.nms _ _) ?_|refine bK (jE U.pick _ 1000 aH _) ?_)|(apply am fun K hK=>?_)|fail)
 refine qc ?_;refine aF ?_ (jE U.pick n 16 aH _);rintro _ _ ⟨rfl,rfl⟩;dsimp only[aC];refine Rx.o ?_;refine x8 (hK _ _ ?_);clear hK K;dsimp only[lP,pR];generalize bc n 16=q0 at *;generalize bc (bB (n.tdiv 16)) 1000=m at *;obtain⟨lv,hgr,hlen⟩:=hr2.len;rename_i H2;simp only[AF,tY,cN];refine cW ?_;refine cW ?_;refine am fun K V=>?_;have hK:∀C H3,(C.at 0=.ptr r 0/\C.at 1=.int .i64 f/\C.at 2=.int .i64 deep/\C.at 6=.ptr H.next 0/\C.at 8=cH (ct f)/\C.at 9=.int .i64 m/\C.at 10=.int .i64 q0/\(∃b,C.at 44=.bool b/\(b=true↔(((2:Int)<deep/\8<=q0/\q0<12)\/(10<=c/\10<=q0))))/\H3=H2)->K C H3:=by
  rintro C H3 ⟨k0,k1,k2,k6,k8,k9,O,⟨b,k44,hb⟩,rfl⟩;apply V;clear V K;dsimp only[lP,pR];have Y:xw deep c q0=if ((2:Int)<deep/\8<=q0/\q0<12)\/(10<=c/\10<=q0)then 0 else q0:=rfl
  generalize xw deep c q0=q at *;have hqr:0<=q/\q<16:=by rw[Y];split<;>omega
  have hqd:8<=q->q<12->deep<=2:=by rw[Y];split<;>omega
  refine zeR (fun E' H'=>E'.at 0=.ptr r 0/\E'.at 1=.int .i64 f/\E'.at 2=.int .i64 deep/\E'.at 6=.ptr H.next 0/\E'.at 8=cH (ct f)/\E'.at 9=.int .i64 m/\E'.at 10=.int .i64 q/\H'=H3) ?_ ?_
  .cases b with
   |true=>
    rw[ai (hb.1 rfl)]at Y;refine Cd (fun hb hbp=>?_);exact⟨rfl,eE,eE,eE,eE,eE,eE,Iq,rfl⟩
   |false=>
    rw[af (fun h=>by have:=hb.2 h;cases this)]at Y;refine Cd (fun hb hbp=>?_);exact⟨rfl,eE,eE,eE,eE,eE,eE,(by first|(simp only[*];done)|rfl),rfl⟩
  clear k0 k1 k2 k6 k8 k9 O k44 hb Y hq;rintro E3 H' ⟨k0,k1,k2,k6,k8,k9,O,rfl⟩;have Z:AtT f deep lo H H' r L1 c q m E3:=⟨hd,hrl,hlo,n2,g2,o2',hr2,ac,hm,hqd,k0,k1,k2,k6,k8,k9,O⟩;by_cases z:q<6
  .exact zfD U j Z z
  by_cases c2:q<8
  .exact zfE U j Z z c2
  by_cases c3:q<10
  .exact zfH U j Z z c2 c3
  by_cases c4:q<12
  .exact zfI U j Z z c2 c3 c4
  by_cases c5:q<14
  .exact zfF U j Z z c2 c3 c4 c5
  by_cases c6:q<15
  .exact zfJ U j Z z c2 c3 c4 c5 c6
  exact zfG U j Z z c2 c3 c4 c5 c6
 clear V;repeat' (first
  |(apply aj ?_;clear hK K)|apply aV ?_|(apply cL ?_ ?_<;>(intro hg hgp;try(cases hg;done)))|fail)
 all_goals
  refine⟨eE,eE,eE,eE,eE,eE,eE,⟨_,eE,?_⟩,rfl⟩;first
  |exact⟨fun _=>ac,fun _=>rfl⟩
  |exact⟨fun h=>(by cases h),fun h=>(by omega:False).elim⟩
  |exact⟨fun h=>by(have h:=yA h;omega),fun h=>kS ac⟩
theorem Tw{z:qC}(U:zf6 z)(f:Int):∀(k Y:Nat),4<=Y+k->Y<=3->rq z k f Y
 |0,Y,h1,h2=>by omega
 |k+1,Y,h1,h2=>zfK U h2 fun h=>Tw U f k (Y+1) ac ac
end
section
def tyG6.tyF:=ad @dQ (ad @cr (ad @cK (ad @fP (ad @fW (ad @gh (ad @eL (ad @et (ad @dV (ad @dR (ad @dD (ad @jb (ad @yc (ad @jx (ad @eh (ad @u7 (ad @Bm (ad @yO (@C1))))))))))))))))))
open tyG6
noncomputable def Tx:{c:SC // aE 61 (f25.body.getD .skip)=c}:=by
 refine⟨?_,?_⟩;rotate_left
 .simp only[f25,bN,aE,bH,bw,bM,bJ,Nat.blt,Nat.ble];rfl
def Km(z:qC):Prop:=∀(f:Int) (k Y:Nat),4<=Y+k->Y<=3->rq z k f Y
def Ty(U:zf6 z):Km z:=Tw U
def iq(L:qy):qD×dk:=mL 0 4 0 5 ((cj L).2,0)
def mN(L:qy):Ex×qy:=bW 0 4 1 (iq L).2.1
def kH(L:qy):qD×dk:=mL 1 3 1 3 ((mN L).2,(iq L).2.2)
def xC(L:qy):Ex×qy:=bW 1 4 1 (kH L).2.1
def iO(L:qy):Fu:=⟨[102],[[120],[121]],[[105],[106]],(iq L).1,(mN L).1⟩
def iP(L:qy):Fu:=⟨[103],[[110]],[[105]],(kH L).1,(xC L).1⟩
def uF(L:qy):List Ar:=[⟨[97],1+bc (cj L).1 4⟩,⟨[98],1+bc (bB ((cj L).1.tdiv 4)) 4⟩]
def eT(l:qy):Pr:=⟨uF (l.take 60),[iO (l.take 60),iP (l.take 60)]⟩
structure zim (lo n:Nat) (H:Hp) (p:Pr) (ra rf:Nat) (x y:Int) (f g:Fu) (cf cg:qu):Prop where
 ep:p=⟨[⟨[97],x⟩,⟨[98],y⟩],[f,g]⟩
 ga:H.get ra=some (.cells [.aj [97],.int .i64 x,.aj [98],.int .i64 y] 0 true)
 gf:H.get rf=some (.cells (cf++cg) 0 true)
 la:lo<=ra/\ra<H.next
 lf:lo<=rf/\rf<H.next
 ne:ra≠rf
 lcf:cf.length=9
 lcg:cg.length=9
 wf:b9 (fun q=>lo<=q/\q≠ra/\q≠rf) n H cf f.cells
 wg:b9 (fun q=>lo<=q/\q≠ra/\q≠rf) n H cg g.cells
def zim.cells{n:Nat}{p:Pr}{Y Z:Nat}{f g:Fu}{j m:qu}(h:zim lo (n+1) H p Y Z x y f g j m):b9 (fun q=>lo<=q) (n+2) H [.sl Y 0 2 2,.sl Z 0 2 9] p.cells:=by
 rw[h.ep];refine .cons ?_ (.cons ?_ .nil)
 .refine se (n:=n+1) (a:=[[.aj [97],.int .i64 x],[.aj [98],.int .i64 y]]) (imm:=0) (tip:=true) h.la.1 h.la.2 h.ga aw ⟨⟨rfl,.cons (.aj _) (.cons (.int _ _) .nil)⟩,⟨rfl,.cons (.aj _) (.cons (.int _ _) .nil)⟩,trivial⟩
 .refine se (n:=n+1) (a:=[j,m]) (imm:=0) (tip:=true) h.lf.1 h.lf.2 (by rw[h.gf];simp) aw ⟨⟨h.lcf,h.wf.keep (fun q U=>U.1) (ay _) fun _ _ _=>rfl⟩,⟨h.lcg,h.wg.keep (fun q U=>U.1) (ay _) fun _ _ _=>rfl⟩,trivial⟩
def FO{n:Nat}(nm:qA){p l b:AV}{v:qu}{f:Fu}(J:f.name=nm)(h1:fb S (n+1) H p (cH f.params))(h2:fb S (n+1) H l (cH f.ak))(C:fb S (n+1) H b (.az (f.body.map St.cells)))(V:b9 S (n+1) H v f.value.cells):b9 S (n+1) H ([.aj nm,p,l,b]++v) f.cells:=by
 have e:f.cells=[.aj f.name,cH f.params,cH f.ak,.az (f.body.map St.cells)]++f.value.cells:=tS;rw[e,J];exact(b9.cons (.aj _) (.cons h1 (.cons h2 (.cons C .nil)))).append V
def FP{n:Nat}{imm:Nat}{tip:Bool}(l:qx)(hS:S r)(hr:r<H.next)(hg:H.get r=some (.cells (l.map .aj) imm tip))(I:imm<=l.length):fb S (n+2) H (.sl r 0 l.length 1) (cH l):=by
 have:=se (n:=n+1) (a:=l.map fun s=>[AV.aj s]) (z:=1) hS hr (by rw[D0];exact hg) (by rw[D0];simpa using I) (di.d0 l);simp_all
def zfL(H:Hp):de prog H 23 0 []=some (.sl H.next 0 0 1,H.alloc qf):=ax
def zfM(v:Nat)(n:Nat):dd prog 78 [(0,.sl v 0 n 1)]=some (.agg [.sl v 0 n 1,.int .i64 0]):=ax
def Tz(s:qA)(n:Int):dd prog 86 [(0,.aj s),(1,.int .i64 n)]=some (.agg [.aj s,.int .i64 n]):=ax
def zfN(H:Hp)(a b:qA)(x y:Int):de prog H 24 2 [(0,.agg [.aj a,.int .i64 x]),(1,.agg [.aj b,.int .i64 y])]=some (.sl H.next 0 2 2,H.alloc (.cells [.aj a,.int .i64 x,.aj b,.int .i64 y] 0 true)):=ax
def zfO(r n:Nat):dd prog 49 [(0,.sl r 0 n 2)]=some (.agg [.sl r 0 n 2,.ag]):=ax
def zfP(s:qA)(r n q m:Nat):dd prog 65 [(0,.aj s),(1,.sl r 0 n 1),(2,.sl q 0 m 1)]=some (.agg [.aj s,.sl r 0 n 1,.sl q 0 m 1,.ag,.int .i64 0,.int .i64 0,.aj [],.int .i64 0,.ag]):=ax
def zfQ(H:Hp)(kV O Y J m Z V U j M I C z b4 b5 b6 b7 b8:AV):de prog H 47 2 [(0,.agg [kV,O,Y,J,m,Z,V,U,j]),(1,.agg [M,I,C,z,b4,b5,b6,b7,b8])]=some (.sl H.next 0 2 9,H.alloc (.cells [kV,O,Y,J,m,Z,V,U,j,M,I,C,z,b4,b5,b6,b7,b8] 0 true)):=ax
def FQ(H:Hp)(s:qA):de prog H 59 1 [(0,.aj s)]=some (.sl H.next 0 1 1,H.alloc (.cells [.aj s] 0 true)):=ax
theorem Kn(a b:AV):cq 2 [a,b]=some (.agg [a,b]):=rfl
theorem zfR(l:qy):(l.map fun n=>[AV.int .i64 n]).flatten=l.map fun n=>AV.int .i64 n:=by
 induction l with
 |nil=>rfl
 |cons a l ih=>simp_all
theorem zfS{q:Nat}(l:qy)(hg:H.get q=some qf)(Z:q<H.next)(Y:l.length<=60):
 ∃v H',cD prog false H 23 23 (.sl q 0 0 1) (.az (l.map fun n=>[AV.int .i64 n]))=some (v,H')/\(∃b z,v=.sl b 0 l.length 1/\H'.get b=some (.cells (l.map fun n=>.int .i64 n) z true)/\b<H'.next/\(b=q\/b=H.next))/\H.next<=H'.next/\∀k,k<H.next->k≠q->H'.get k=H.get k:=by
 have V:ee=70368744177664:=rfl;have M:(l.map fun n=>[AV.int .i64 n]).flatten=l.map fun n=>AV.int .i64 n:=zfR l;have hx:fk H 1 (.az (l.map fun n=>[AV.int .i64 n]))=some (l.length,l.map fun n=>AV.int .i64 n):=by
  have e:fk H 1 (.az (l.map fun n=>[AV.int .i64 n]))=if ((l.map fun n=>[AV.int .i64 n]).all fun I=>I.length == 1)then some ((l.map fun n=>[AV.int .i64 n]).length,(l.map fun n=>[AV.int .i64 n]).flatten)else none:=rfl
  simp_all
 have U:(l.map fun n=>AV.int .i64 n).all AV.one=true:=by simp[AV.one]
 cases l with
 |nil=> 
  refine⟨.sl q 0 0 1,H,?_,⟨q,0,rfl,hg,Z,.inl rfl⟩,ay _,fun _ _ _=>rfl⟩
  .simp only[cD,underlying23,j5,oT,oU,show gN prog 23=true by kernel_rfl,hx,fq]
 |cons a l=>
  simp only[gF]at hx Y;have O:gY false H 1 (.sl q 0 0 1)=H:=by
   unfold gY;simp only[hg];rfl
  refine⟨.sl H.next 0 (0+(l.length+1)) 1,(H.a0 q).alloc (.cells ([]++(a::l).map fun n=>.int .i64 n) (0-0) true),?_,⟨H.next,0,aw,?_,bT _,.inr rfl⟩,cG _,fun k J m=>?_⟩
  .simp only[cD,underlying23,j5,oT,oU,show gN prog 23=true by kernel_rfl,hx,U,O,nV,ft,l8,nL,hg,bR,oN,List.drop_nil,dM,fG]
   grind
  .show((H.a0 q).alloc _).get (H.a0 q).next=_
   rw[aD,ai rfl];simp
  .rw[aD,af nh,iy,af m]
theorem zfT(l:qy):kW prog 23 (.az (l.map fun n=>[AV.int .i64 n])) none (some (.int .i64 (min (l.length:Int) 60)))=some (.az ((l.take 60).map fun n=>[AV.int .i64 n])):=by
 have e:min (l.length:Int) 60=((min l.length 60:Nat):Int):=ac;rw[e];simp only[kW,underlying23,j5];show(if 0<=min l.length 60/\min l.length 60<=(l.map fun n=>[AV.int .i64 n]).length then _ else none)=_;rw[ai ⟨cZ _,cb⟩];have M:((l.map fun n=>[AV.int .i64 n]).drop 0).take (min l.length 60-0)=(l.take 60).map fun n=>[AV.int .i64 n]:=by
  rw[hY,Nat.sub_zero,<-List.map_take,List.take_eq_take_iff.2];omega
 rw[M];cases l.take 60 with
 |nil=>rfl
 |cons a l=>rfl
structure AtP (n0 M:Nat) (x y:Int) (H:Hp):Prop where
 lt:n0<M/\M+8<=H.next
 rs:H.get n0=some qh
 ra:H.get (M+1)=some (.cells [.aj [97],.int .i64 x,.aj [98],.int .i64 y] 0 true)
 t5:H.get (M+2)=some (.cells [.sl (M+1) 0 2 2,.sl (M+7) 0 2 9] 0 true)
 p1:H.get (M+3)=some (.cells [.aj [120],.aj [121]] 0 true)
 l1:H.get (M+4)=some (.cells [.aj [105],.aj [106]] 0 true)
 p2:H.get (M+5)=some (.cells [.aj [110]] 0 true)
 l2:H.get (M+6)=some (.cells [.aj [105]] 0 true)
def AtP.keep{I M:Nat}{H':Hp}(h:AtP I M x y H)(J:H.next<=H'.next)(hg:∀q,(q=I\/M+1<=q/\q<M+7)->H'.get q=H.get q):AtP I M x y H':=by
 obtain⟨⟨Y,Z⟩,rs,ra,V,U,O,C,z⟩:=h;exact⟨⟨Y,ac⟩,bb,bb,bb,bb,bb,bb,bb⟩
set_option maxRecDepth 100000 in
theorem TA{lG:qC}(hG:zf6 lG)(hst:Km lG)(l:qy)(hl:l.length<2^63)(H:Hp):
 aR prog (au pls lG) 25 [.az (l.map fun n=>[AV.int .i64 n])] H fun v H'=>∃ra rf x y cf cg,v=.agg [.sl ra 0 2 2,.sl rf 0 2 9]/\zim H.next 14 H' (eT l) ra rf x y (iO (l.take 60)) (iP (l.take 60)) cf cg/\H.next<=H'.next/\(∀q,q<H.next->H'.get q=H.get q)/\H.next<ra/\∃pt pf lf bf vf pg lg bg vg,cf=gM [102] pf lf bf vf/\cg=gM [103] pg lg bg vg/\zio pt 14 H' ra rf x y (iO (l.take 60)) (iP (l.take 60)) pf lf bf vf pg lg bg vg/\uF (l.take 60)=[⟨[97],x⟩,⟨[98],y⟩]/\∀q,q<H.next->pt q=0:=by
 have hw:zd0 (au pls lG) 25:=hG.plain cM;have hkeep:(au pls lG).keep 25=false:=rfl;have hnx:zd0 (au pls lG) 40:=hG.plain cM;have hs:=zfT l;have hL60:(l.take 60).length<=60:=aX;have hq4:(4:Int)≠0:=aH;have hgP:eT l=⟨uF (l.take 60),[iO (l.take 60),iP (l.take 60)]⟩:=rfl;generalize eT l=P0 at *;refine bp (M:=61) (rs:=[.cell 2 49]) (hw.call _) hw.aG hw.aB func25 rfl rfl Tx.2 rfl ?_;dsimp only[Tx,bm,Nat.reduceAdd];have gh0:=@zfL;refine cY fun K hK=>?_;generalize l.take 60=L at *;have gq:((H.alloc qh).alloc qf).get (H.next+1)=some qf:=te;obtain⟨v,z,a2,⟨b,imm,rfl,gb,hb,hb2⟩,n2,o2⟩:=zfS L gq (bT _) hL60;simp only[aU]at n2 o2 hb2;refine kO dY dY (by rw[hkeep];exact a2) ?_;have gh0:=@zfM;refine cY fun K hK=>?_;have hrd3:i8 (z.next+1) (z.alloc (.cells [.sl b 0 L.length 1,.int .i64 0] 0 true)) z.next L 0:=⟨bT _,ay _,_,fc,.inr ⟨b,0,_,imm,rfl,by rw[aD,af ac];exact gb,rfl,ac,ac⟩⟩
 have g3:(z.alloc (.cells [.sl b 0 L.length 1,.int .i64 0] 0 true)).get H.next=some qh:=by rw[aD,af ac,o2 _ ac ac,aD,af cB,aD,ai rfl]
 have o3:∀q,q<H.next->(z.alloc (.cells [.sl b 0 L.length 1,.int .i64 0] 0 true)).get q=H.get q:=fun q U=>by rw[aD,af ac,o2 _ ac ac,aD,af cB,aD,af ac]
 generalize hH3:z.alloc (.cells [.sl b 0 L.length 1,.int .i64 0] 0 true)=H3 at *;have n3:H3.next=z.next+1:=by rw[<-hH3];rfl
 clear hH3 gb hb hb2 a2 gq o2;refine qc ?_;refine aF ?_ (ES hnx hrd3 ac);rintro v H4 ⟨rfl,hr4,n4,o4⟩;have g4:H4.get H.next=some qh:=aX
 have o4':∀q,q<H.next->H4.get q=H.get q:=fun q U=>aX
 clear o4 o3 g3 hrd3;have hL1:=pr L;have hA:uF L=[⟨[97],1+bc (cj L).1 4⟩,⟨[98],1+bc (bB ((cj L).1.tdiv 4)) 4⟩]:=rfl;have hp1:=fE (n:=(cj L).1) (m:=4) ac ac;have hp2:=fE (n:=bB ((cj L).1.tdiv 4)) (m:=4) ac ac;have hB1:iq L=mL 0 4 0 5 ((cj L).2,0):=rfl;have hV1:mN L=bW 0 4 1 (iq L).2.1:=rfl;have hB2:kH L=mL 1 3 1 3 ((mN L).2,(iq L).2.2):=rfl;have hV2:xC L=bW 1 4 1 (kH L).2.1:=rfl;have hF1:iO L=⟨[102],[[120],[121]],[[105],[106]],(iq L).1,(mN L).1⟩:=rfl;have hF2:iP L=⟨[103],[[110]],[[105]],(kH L).1,(xC L).1⟩:=rfl;have hl1:(iq L).2.1.length<=(cj L).2.length:=by rw[hB1];exact dw (BE (BF 0 4 0) _ _) (pr _)
 have hl2:(mN L).2.length<=(iq L).2.1.length:=fj 0 4 1 _;have hl3:(kH L).2.1.length<=(mN L).2.length:=by rw[hB2];exact dw (BE (BF 1 3 1) _ _) (pr _)
 generalize iq L=B1 at *;generalize mN L=V1 at *;generalize kH L=B2 at *;generalize xC L=V2 at *;generalize iO L=Ff at *;generalize iP L=Fg at *;generalize uF L=Aa at *;generalize (cj L).1=n at *;generalize (cj L).2=L1 at *;have hw1:IntKind.wrap .i64 (1+bc n 4)=1+bc n 4:=kR ac ac;have hw2:IntKind.wrap .i64 (1+bc (bB (n.tdiv 4)) 4)=1+bc (bB (n.tdiv 4)) 4:=kR ac ac;have hw3:IntKind.wrap .i64 (n.tdiv 4)=bB (n.tdiv 4):=rfl;dsimp only[aC];have gh0:=@Tz;have gh1:=@zfN;have gh2:=@zfO;have gh3:=@FQ;have gh4:=@zfP;have gh5:=@zfQ;repeat' (first
  |(apply aj ?_;clear hK K)|apply aV ?_|(apply eu ?_;first|refine bK (jE hG.pick _ _ aH _) ?_)|(apply am fun K hK=>?_)|(apply ci 5 [(1,3),(1,6)] fun K hK=>?_)|(apply bD ?_;try intro _)|fail)
 generalize hx:1+bc n 4=x at *;generalize hy:1+bc (bB (n.tdiv 4)) 4=y at *;rename_i H4 _;have hne:∀i,(H.next == z.next+i)=false:=fun i=>ak ac;have hmn:H.next<z.next:=ac
 generalize hHs:Hp.set (Hp.alloc _ _) _ _=Hs;have hat:AtP H.next z.next x y Hs:=by
  rw[<-hHs];refine⟨⟨hmn,iX⟩,?_,?_,?_,?_,?_,?_,?_⟩
  .repeat (first|rw[aM,af mM]|rw[aD,af mM])
   exact g4
  ·(repeat (first|rw[aM,af mM]|rw[aD,af mM]));(first|rw[aM,ai oG]|rw[aD,ai oG])
  ·(repeat (first|rw[aM,af (by(try simp only[]);omega)]|rw[aD,af mM]));(first|rw[aM,ai oG]|rw[aD,ai oG])
  ·(repeat (first|rw[aM,af mM]|rw[aD,af mM]));(first|rw[aM,ai oG]|rw[aD,ai oG])
  ·(repeat (first|rw[aM,af mM]|rw[aD,af mM]));(first|rw[aM,ai oG]|rw[aD,ai oG])
  ·(repeat (first|rw[aM,af mM]|rw[aD,af mM]));(first|rw[aM,ai oG]|rw[aD,ai oG])
  ·(repeat (first|rw[aM,af mM]|rw[aD,af mM]));(first|rw[aM,ai oG]|rw[aD,ai oG])
 have gf:Hs.get (z.next+7)=some (.cells [.aj [102],.sl (z.next+3) 0 2 1,.sl (z.next+4) 0 2 1,.ag,.int .i64 0,.int .i64 0,.aj [],.int .i64 0,.ag,.aj [103],.sl (z.next+5) 0 1 1,.sl (z.next+6) 0 1 1,.ag,.int .i64 0,.int .i64 0,.aj [],.int .i64 0,.ag] 0 true):=by
  rw[<-hHs];(repeat (first|rw[aM,af mM]|rw[aD,af mM]));(first|rw[aM,ai oG]|rw[aD,ai oG])
 have olds:∀q,q<z.next+1->Hs.get q=H4.get q:=fun q U=>by
  rw[<-hHs];repeat (first|rw[aM,af ac]|rw[aD,af mM])
 have hns:Hs.next=z.next+8:=by rw[<-hHs];simp only[bq,aU];omega
 have hrs:i8 (z.next+1) Hs z.next L1 0:=hr4.keep ac olds
 have os:∀q,q<H.next->Hs.get q=H.get q:=fun q U=>by rw[olds q ac];exact o4' q U
 clear olds hHs hr4 g4 o4';have h02:(0:Nat)<2:=aH;have h12:(1:Nat)<2:=aH;refine qd ?_;refine aF ?_ (BG hG (hst 0 4 0 ac ac) 5 ac ac (z.next+1) Hs z.next (L1,0) hrs vz);rintro v1 H5 ⟨j,hr5,n5,o5⟩;rw[<-hB1]at j hr5;obtain⟨t1,t2⟩:=j.one;have hat5:=hat.keep n5 fun q U=>o5 q ac ac;have g5t:=hat5.t5;have g5f:H5.get (z.next+7)=some (.cells [.aj [102],.sl (z.next+3) 0 2 1,.sl (z.next+4) 0 2 1,.ag,.int .i64 0,.int .i64 0,.aj [],.int .i64 0,.ag,.aj [103],.sl (z.next+5) 0 1 1,.sl (z.next+6) 0 1 1,.ag,.int .i64 0,.int .i64 0,.aj [],.int .i64 0,.ag] 0 true):=by rw[o5 _ ac ac];exact gf
 have gst:=hat.t5;dsimp only[aC];repeat' (first
  |apply bQ ?_|(apply ci 6 [(1,3),(1,6)] fun K hK=>?_)|(apply bD ?_;try intro _)|(apply ch ?_ ?_<;>clear hK K)|fail)
 .exact cn
 have n5':=n5;generalize Z:Hp.set H5 (z.next+7) _=Ha;have nHa:Ha.next=H5.next:=Bt
 have oHa:∀q,q≠z.next+7->Ha.get q=H5.get q:=fun q U=>FM
 have gfHa:Ha.get (z.next+7)=some (.cells [.aj [102],.sl (z.next+3) 0 2 1,.sl (z.next+4) 0 2 1,v1,.int .i64 0,.int .i64 0,.aj [],.int .i64 0,.ag,.aj [103],.sl (z.next+5) 0 1 1,.sl (z.next+6) 0 1 1,.ag,.int .i64 0,.int .i64 0,.aj [],.int .i64 0,.ag] 0 true):=FN;clear Z;have hatHa:=hat5.keep (kh nHa.symm) fun q U=>oHa q ac;have gtHa:=hatHa.t5;have hrHa:=hr5.keep (kh nHa.symm) fun q U=>oHa q ac;have hMl:=hat.lt;refine zr ?_;refine qd ?_;refine aF ?_ (mK hG 4 0 1 ac ac (z.next+1) Ha z.next _ _ hrHa ac);rintro _ H6 ⟨⟨cs,rfl,hc1,hc2,hc3⟩,hrH6,nH6,oH6⟩;rw[<-hV1]at hc3 hrH6;obtain⟨p0,p1,p2,p3,p4,rfl⟩:=dW hc1;obtain⟨u0,u1,u2,u3,u4⟩:=ji hc2;have hatH6:=hatHa.keep nH6 fun q U=>oH6 q ac ac;have gtH6:=hatH6.t5;have gfH6:H6.get (z.next+7)=some (.cells [.aj [102],.sl (z.next+3) 0 2 1,.sl (z.next+4) 0 2 1,v1,.int .i64 0,.int .i64 0,.aj [],.int .i64 0,.ag,.aj [103],.sl (z.next+5) 0 1 1,.sl (z.next+6) 0 1 1,.ag,.int .i64 0,.int .i64 0,.aj [],.int .i64 0,.ag] 0 true):=by rw[oH6 _ ac ac];exact gfHa
 dsimp only[aC];repeat' (first
  |apply bQ ?_|(apply ci 7 [(1,3),(1,6)] fun K hK=>?_)|(apply bD ?_;try intro _)|(apply ch ?_ ?_<;>clear hK K)|fail)
 .exact cn
 generalize Z:Hp.set H6 (z.next+7) _=Hb;have nHb:Hb.next=H6.next:=Bt
 have oHb:∀q,q≠z.next+7->Hb.get q=H6.get q:=fun q U=>FM
 have gfHb:Hb.get (z.next+7)=some (.cells [.aj [102],.sl (z.next+3) 0 2 1,.sl (z.next+4) 0 2 1,v1,p0,p1,p2,p3,p4,.aj [103],.sl (z.next+5) 0 1 1,.sl (z.next+6) 0 1 1,.ag,.int .i64 0,.int .i64 0,.aj [],.int .i64 0,.ag] 0 true):=FN;clear Z;have hatHb:=hatH6.keep (kh nHb.symm) fun q U=>oHb q ac;have gtHb:=hatHb.t5;have hrHb:=hrH6.keep (kh nHb.symm) fun q U=>oHb q ac;refine zr ?_;refine qd ?_;refine aF ?_ (BG hG (hst 1 3 1 ac ac) 3 ac ac (z.next+1) Hb z.next (V1.2,B1.2.2) hrHb vz);rintro v2 H7 ⟨I,hrH7,nH7,oH7⟩;rw[<-hB2]at I hrH7;obtain⟨s1,s2⟩:=I.one;have hatH7:=hatHb.keep nH7 fun q U=>oH7 q ac ac;have gtH7:=hatH7.t5;have gfH7:H7.get (z.next+7)=some (.cells [.aj [102],.sl (z.next+3) 0 2 1,.sl (z.next+4) 0 2 1,v1,p0,p1,p2,p3,p4,.aj [103],.sl (z.next+5) 0 1 1,.sl (z.next+6) 0 1 1,.ag,.int .i64 0,.int .i64 0,.aj [],.int .i64 0,.ag] 0 true):=by rw[oH7 _ ac ac];exact gfHb
 dsimp only[aC];repeat' (first
  |apply bQ ?_|(apply ci 8 [(1,3),(1,6)] fun K hK=>?_)|(apply bD ?_;try intro _)|(apply ch ?_ ?_<;>clear hK K)|fail)
 .exact cn
 generalize Z:Hp.set H7 (z.next+7) _=Hc;have nHc:Hc.next=H7.next:=Bt
 have O:∀q,q≠z.next+7->Hc.get q=H7.get q:=fun q U=>FM
 have gfHc:Hc.get (z.next+7)=some (.cells [.aj [102],.sl (z.next+3) 0 2 1,.sl (z.next+4) 0 2 1,v1,p0,p1,p2,p3,p4,.aj [103],.sl (z.next+5) 0 1 1,.sl (z.next+6) 0 1 1,v2,.int .i64 0,.int .i64 0,.aj [],.int .i64 0,.ag] 0 true):=FN;clear Z;have hatHc:=hatH7.keep (kh nHc.symm) fun q U=>O q ac;have gtHc:=hatHc.t5;have hrHc:=hrH7.keep (kh nHc.symm) fun q U=>O q ac;refine zr ?_;refine qd ?_;refine aF ?_ (mK hG 4 1 1 ac ac (z.next+1) Hc z.next _ _ hrHc ac);rintro _ H8 ⟨⟨ds,rfl,hd1,hd2,hd3⟩,hrH8,nH8,V⟩;rw[<-hV2]at hd3 hrH8;obtain⟨w0,cm,w2,w3,w4,rfl⟩:=dW hd1;obtain⟨z0,z1,z2,z3,z4⟩:=ji hd2;have hatH8:=hatHc.keep nH8 fun q U=>V q ac ac;have gtH8:=hatH8.t5;have gfH8:H8.get (z.next+7)=some (.cells [.aj [102],.sl (z.next+3) 0 2 1,.sl (z.next+4) 0 2 1,v1,p0,p1,p2,p3,p4,.aj [103],.sl (z.next+5) 0 1 1,.sl (z.next+6) 0 1 1,v2,.int .i64 0,.int .i64 0,.aj [],.int .i64 0,.ag] 0 true):=by rw[V _ ac ac];exact gfHc
 dsimp only[aC];repeat' (first
  |apply bQ ?_|(apply am fun K hK=>?_)|(apply bD ?_;try intro _)|(apply ch ?_ ?_<;>clear hK K)|fail)
 .exact cn
 generalize Z:Hp.set H8 (z.next+7) _=Hd;have nHd:Hd.next=H8.next:=Bt
 have C:∀q,q≠z.next+7->Hd.get q=H8.get q:=fun q U=>FM
 have gfHd:Hd.get (z.next+7)=some (.cells [.aj [102],.sl (z.next+3) 0 2 1,.sl (z.next+4) 0 2 1,v1,p0,p1,p2,p3,p4,.aj [103],.sl (z.next+5) 0 1 1,.sl (z.next+6) 0 1 1,v2,w0,cm,w2,w3,w4] 0 true):=FN;clear Z;have J:=hatH8.keep (kh nHd.symm) fun q U=>C q ac;have gtHd:=J.t5;have hrHd:=hrH8.keep (kh nHd.symm) fun q U=>C q ac;have gr:=J.rs;have e1:(z.next+2 == H.next)=false:=ak ac;have gh0:=@Kn;refine Ce ?_;refine⟨aB,_,(by(try simp only[aG,aY,Nat.reduceBEq,Nat.reduceAdd,tyF,cF,cR, *]);first|done|with_reducible rfl),?_⟩;try simp only[aA]
 have old:∀q,q<H.next->((Hd.set H.next (.cells [.sl (z.next+1) 0 2 2,.sl (z.next+7) 0 2 9] 0 true)).get q=H.get q):=fun q U=>by
  rw[aM,af ac,C _ ac,V _ ac ac,O _ ac,oH7 _ ac ac,oHb _ ac,oH6 _ ac ac,oHa _ ac,o5 _ ac ac];exact os q U
 have hz:=J.keep (H':=Hd.set H.next (.cells [.sl (z.next+1) 0 2 2,.sl (z.next+7) 0 2 9] 0 true)) (ay _);refine⟨z.next+1,z.next+7,x,y,[.aj [102],.sl (z.next+3) 0 2 1,.sl (z.next+4) 0 2 1,v1,p0,p1,p2,p3,p4],[.aj [103],.sl (z.next+5) 0 1 1,.sl (z.next+6) 0 1 1,v2,w0,cm,w2,w3,w4],rfl,?_,eC,old,ac,vK z.next H5.next H6.next H7.next,.sl (z.next+3) 0 2 1,.sl (z.next+4) 0 2 1,v1,[p0,p1,p2,p3,p4],.sl (z.next+5) 0 1 1,.sl (z.next+6) 0 1 1,v2,[w0,cm,w2,w3,w4],rfl,rfl,?_,hA,fun q U=>by unfold vK;grind⟩;all_goals
  have Y:∀q,q≠H.next->(Hd.set H.next (.cells [.sl (z.next+1) 0 2 2,.sl (z.next+7) 0 2 9] 0 true)).get q=Hd.get q:=fun q U=>by rw[aM,af U]
  have nz:(Hd.set H.next (.cells [.sl (z.next+1) 0 2 2,.sl (z.next+7) 0 2 9] 0 true)).next=Hd.next:=rfl
  generalize (Hd.set H.next (.cells [.sl (z.next+1) 0 2 2,.sl (z.next+7) 0 2 9] 0 true))=Hz at *;have hl:=J.lt
 .refine⟨by rw[hgP,hA],by rw[Y _ ac];exact J.ra,by rw[Y _ ac];exact gfHd,⟨ac,ac⟩,⟨ac,ac⟩,ac,rfl,rfl,?_,?_⟩
  .rw[hF1];refine FO (n:=13) [102] rfl (FP (n:=12) (imm:=0) (tip:=true) [[120],[121]] ⟨ac,ac,ac⟩ ac (by rw[Y _ ac];exact J.p1) aw) (FP (n:=12) (imm:=0) (tip:=true) [[105],[106]] ⟨ac,ac,ac⟩ ac (by rw[Y _ ac];exact J.l1) aw) ?_ ?_
   .exact(j.keep (fun q _ U=>⟨ac,ac,ac⟩) ac fun q h1 h2=>Tt).rd.up ac
   .exact(hc3.up ac).aO (fun q _ U=>⟨ac,ac,ac⟩) ac fun q h1 h2=>Tu
  .rw[hF2];refine FO (n:=13) [103] rfl (FP (n:=12) (imm:=0) (tip:=true) [[110]] ⟨ac,ac,ac⟩ ac (by rw[Y _ ac];exact J.p2) aw) (FP (n:=12) (imm:=0) (tip:=true) [[105]] ⟨ac,ac,ac⟩ ac (by rw[Y _ ac];exact J.l2) aw) ?_ ?_
   .exact(I.keep (fun q _ U=>⟨ac,ac,ac⟩) ac fun q h1 h2=>Tv).rd.up ac
   .exact(hd3.up ac).aO (fun q _ U=>⟨ac,ac,ac⟩) ac fun q h1 h2=>by rw[Y _ ac,C _ ac]
 .have ls:=hat.lt;refine⟨by rw[Y _ ac];exact J.ra,by rw[Y _ ac,gfHd,hF1,hF2];rfl,ac,ac,yZ,yZ,⟨hc1,hc2,?_,?_,?_,?_⟩,⟨hd1,hd2,?_,?_,?_,?_⟩⟩
  .rw[hF1];exact ET (n:=13) [[120],[121]] yZ ac (by rw[Y _ ac];exact J.p1)
  .rw[hF1];exact ET (n:=13) [[105],[106]] yZ ac (by rw[Y _ ac];exact J.l1)
  .rw[hF1];exact(j.keep (fun q h1 h2=>zc2 ac h1) ac fun q h1 h2=>Tt).up ac
  .rw[hF1];exact(hc3.up ac).aO (fun q h1 h2=>zc3 ac ac h1) ac fun q h1 h2=>Tu
  .rw[hF2];exact ET (n:=13) [[110]] yZ ac (by rw[Y _ ac];exact J.p2)
  .rw[hF2];exact ET (n:=13) [[105]] yZ ac (by rw[Y _ ac];exact J.l2)
  .rw[hF2];exact(I.keep (fun q h1 h2=>zc4 ac ac ac h1) ac fun q h1 h2=>Tv).up ac
  .rw[hF2];exact(hd3.up ac).aO (fun q h1 h2=>zc5 ac ac ac ac) ac fun q h1 h2=>by rw[Y _ ac,C _ ac]
end
section
def BQ:qx:=[[97],[98]]
def TB(f:Int){m:Int}(h:0<=m):(ct f).getD (m.tmod (ct f).length).toNat []∈ct f:=by
 have O:((ct f).length:Int)≠0:=by unfold ct;split<;>simp
 have:=(th (ct f) O h []).2
 grind
def TC(f:Int){s:qA}(h:s∈ct f):db s=true/\bE (ct f) s=true:=by
 unfold ct at h⊢;split at h<;>simp only[jh]at h
 .rename_i e;rw[ai e];rcases h with rfl|rfl|rfl|rfl<;>exact⟨ax,ax⟩
 .rename_i e;rw[af e];rcases h with rfl|rfl<;>exact⟨ax,ax⟩
def TD(m:Int):db (uA m)=true/\bE BQ (uA m)=true:=by
 unfold uA;split<;>exact⟨ax,ax⟩
def zfU(m:Int):db (lF m)=true:=by
 unfold lF;split<;>kernel_rfl
structure zir (f:Int) (k:Nat) (x:Ex):Prop where
 wf:eW x=true
 df:ev (ct f) BQ x=true
 dp:dy x<=k
theorem vU(f:Int):∀(k Y:Nat) (L:qy),5<=Y+k->Y<=4->zir f k (bW f k Y L).1
 |0,Y,L,h1,h2=>by omega
 |k+1,Y,L,h1,h2=>by
  have ih:Y<=3->∀L,zir f k (bW f k (Y+1) L).1:=fun hd L=>vU f k (Y+1) L ac ac;have C:=fE (n:=(cj L).1) (m:=16) ac ac;have U:=fE (n:=bB ((cj L).1.tdiv 16)) (m:=1000) ac ac;simp only[bW];generalize bc (cj L).1 16=q at C⊢;generalize bc (bB ((cj L).1.tdiv 16)) 1000=m at U⊢;split
  .split
   .obtain⟨cS,O⟩:=TC f (TB f U.1);generalize (ct f).getD (m.tmod (ct f).length).toNat []=nm at cS O⊢;refine⟨?_,?_,by simp[dy,ki]⟩
    .simp[eW,eB,mC,Ex.am,Ex.ao,Ex.n,Ex.op,Ex.name,cS]
    .simp[ev,fg,iZ,Ex.am,Ex.name,O]
   .exact⟨by simp[eW,eB,mC,Ex.am,Ex.ao,Ex.op,Ex.name],by simp[ev,fg,iZ,Ex.am,Ex.name],by simp[dy,ki]⟩
  .rename_i z;have hd:Y<=3:=ac;have ih:=ih hd;obtain⟨J,I⟩:=TD m;split
   .have Z:=ih (cj L).2;refine⟨?_,?_,?_⟩
    .simp[eW,eB,mC,Ex.am,Ex.ao,Ex.n,Ex.op,Ex.name,J,Z.wf]
    .simp[ev,fg,iZ,Ex.am,Ex.name,I,Z.df]
    .have:=Z.dp;simp only[dy,ki];omega
   .split
    .have Z:=ih (cj L).2;have V:=ih (bW f k (Y+1) (cj L).2).2;have j:=ih (bW f k (Y+1) (bW f k (Y+1) (cj L).2).2).2;refine⟨?_,?_,?_⟩
     .simp[eW,eB,mC,Ex.am,Ex.ao,Ex.n,Ex.op,Ex.name,Z.wf,V.wf,j.wf]
     .simp[ev,fg,iZ,Ex.am,Ex.name,Z.df,V.df,j.df]
     .have:=Z.dp;have:=V.dp;have:=j.dp;simp only[dy,ki];omega
    .split
     .have Z:=ih (cj L).2;have M:yU m=20\/yU m=21:=by unfold yU;split<;>simp
      refine⟨?_,?_,?_⟩
      .rcases M with M|M<;>simp[eW,eB,mC,Ex.am,Ex.ao,Ex.n,Ex.op,Ex.name,Z.wf,M]
      .simp[ev,fg,iZ,Ex.am,Ex.name,Z.df]
      .have:=Z.dp;simp only[dy,ki];omega
     .have Z:=ih (cj L).2;have V:=ih (bW f k (Y+1) (cj L).2).2;have t1:=FB 15 U.1;have t2:=xn m (show(0:Int)<15 by omega);have M:pY (bB (4+m.tmod 15))=true:=by
       unfold bB;rw[kR ac ac];simp only[pY,oQ];omega
      refine⟨?_,?_,?_⟩
      .simp[eW,eB,mC,Ex.am,Ex.ao,Ex.n,Ex.op,Ex.name,Z.wf,V.wf,M]
      .simp[ev,fg,iZ,Ex.am,Ex.name,Z.df,V.df]
      .have:=Z.dp;have:=V.dp;simp only[dy,ki];omega
theorem TE(f:Int):∀(n:Nat) (L:qy),eB (iL f n L).1=true/\fg (ct f) BQ (iL f n L).1=true/\((iL f n L).1.any fun e=>decide ((20:Int)<dy e))=false/\(iL f n L).1.length=n
 |0,_=>⟨rfl,rfl,rfl,rfl⟩
 |n+1,L=>by
  obtain⟨m,j,C,V⟩:=TE f n (bW f 3 2 L).2;have h:=vU f 3 2 L ac ac;have hd:¬(20:Int)<dy (bW f 3 2 L).1:=by have:=h.dp;omega
  refine⟨?_,?_,?_,?_⟩
  .rw[iL,eB,h.wf,m];rfl
  .rw[iL,fg,h.df,j];rfl
  .rw[iL,pX,C,rV hd];rfl
  .rw[iL,gF,V]
structure ScG (f:Int) (c:Sc):Prop where
 vars:c.vars=ct f
 an:c.an=BQ
 to:∀m:Int,0<=m->0<=cJ c.p.funcs (lF m) 0/\((2-m.tmod 2).toNat=pe c.p (lF m))
structure StOk (c:Sc) (k:Nat) (s:dk) (x:St) (t:dk):Prop where
 wf:mE x=true
 df:gm c false x=true
 ar:gm c true x=true
 dp:nu x=false
 n:cS x+t.1.length<=s.1.length
 w:(cm x:Int)+s.2=t.2
 wb:t.2<=10
 m:∀d,bZ x d<=d+k
structure zf1 (c:Sc) (k:Nat) (s:dk) (l:qD) (t:dk):Prop where
 wf:fx l=true
 df:dh c false l=true
 ar:dh c true l=true
 dp:fJ l=false
 n:nS l+t.1.length<=s.1.length
 w:(dg l:Int)+s.2=t.2
 wb:t.2<=10
 m:∀d,fd l d<=d+k
theorem Ko{c:Sc}{k:Nat}{step:dk->St×dk}(h:∀s:dk,s.1≠[]->0<=s.2->s.2<=10->StOk c k s (step s).1 (step s).2):∀(n:Nat) (s:dk),0<=s.2->s.2<=10->zf1 c k s (iE step n s).1 (iE step n s).2
 |0,s,h0,h1=>⟨rfl,rfl,rfl,rfl,by simp[iE,nS],by simp[iE,dg],h1,fun d=>by simp[iE,fd]⟩
 |n+1,s,h0,h1=>by
  rw[iE];by_cases U:s.1=[]
  .rw[ai U];exact⟨rfl,rfl,rfl,rfl,by simp[nS],by simp[dg],h1,fun d=>by simp[fd]⟩
  .rw[af U];have a:=h s U h0 h1;have M:=a.w;have b:=Ko h n (step s).2 ac a.wb;have O:=b.w;have an:=a.n;have bn:=b.n;refine⟨?_,?_,?_,?_,?_,?_,b.wb,fun d=>?_⟩
   .simp only[fx,a.wf,b.wf];rfl
   .simp only[dh,a.df,b.df];rfl
   .simp only[dh,a.ar,b.ar];rfl
   .simp only[fJ,a.dp,b.dp];rfl
   .simp only[nS];omega
   .simp only[dg];omega
   .have:=a.m d;have:=b.m d;simp only[fd];omega
def zfV(f:Int):zeroE gD=true/\ev (ct f) BQ gD=true/\dy gD=0:=⟨by simp[zeroE,gD,Ex.am,Ex.n,Ex.op,Ex.name,Ex.ao],by simp[gD,ev,fg,iZ,Ex.am],by simp[gD,dy,ki]⟩
def zfW{c:Sc}(hc:ScG f c){m:Int}(hL:Y.length<s.1.length)(hm:0<=m)(hm1:m<1000)(h0:0<=s.2)(h1:s.2<=10)(hq:10<=q->s.2<10)(hq0:0<=q)
 (hs:8<=q->q<12->1<=k/\∀(U:Int) (s:dk),0<=s.2->s.2<=10->zf1 c (k-1) s (Z U s).1 (Z U s).2):StOk c k s (io Z f Y s.2 q m).1 (io Z f Y s.2 q m).2:=by
 obtain⟨z1,z2,z3⟩:=zfV f;obtain⟨M,J⟩:=TC f (TB f hm);obtain⟨a1,a2⟩:=TD m;have g1:=zfU m;obtain⟨g2,g3⟩:=hc.to m hm;have I:=vU f 5 0 Y ac ac;have j:=vU f 3 2 Y ac ac;have V:=vU f 4 1 Y ac ac;have e43:=vU f 4 1 (bW f 3 2 Y).2 ac ac;have l50:=fj f 5 0 Y;have l32:=fj f 3 2 Y;have l41:=fj f 4 1 Y;have l43:=fj f 4 1 (bW f 3 2 Y).2;obtain⟨r1,r2,r3,r4⟩:=TE f (2-m.tmod 2).toNat Y;have lar:=J2 f (2-m.tmod 2).toNat Y;have d50:¬(20:Int)<dy (bW f 5 0 Y).1:=by have:=I.dp;omega
 have d32:¬(20:Int)<dy (bW f 3 2 Y).1:=by have:=j.dp;omega
 have d41:¬(20:Int)<dy (bW f 4 1 Y).1:=by have:=V.dp;omega
 have d43:¬(20:Int)<dy (bW f 4 1 (bW f 3 2 Y).2).1:=by have:=e43.dp;omega
 rw[io];generalize (ct f).getD (m.tmod (ct f).length).toNat []=nm at M J⊢;have hv:=hc.vars;have ha:=hc.an;by_cases c1:q<6
 .rw[ai c1];refine⟨?_,?_,?_,?_,?_,?_,h1,fun d=>?_⟩
  .simp[mE,fx,je,eB,mD,rc,St.am,St.bl,St.bA,St.name,St.to,St.n,St.a8,St.value,St.args,M,z1,I.wf]
  .simp[gm,dh,jP,fg,kA,St.am,St.name,St.a8,St.value,St.args,hv,ha,J,z2,I.df]
  .simp[gm,dh,lB,St.am]
  .simp[nu,fJ,z3,d50]
  .simp only[cS,nS];omega
  .simp[cm,dg]
  .simp[bZ,fd]
 rw[af c1];by_cases c2:q<8
 .rw[ai c2];refine⟨?_,?_,?_,?_,?_,?_,h1,fun d=>?_⟩
  .simp[mE,fx,je,eB,mD,rc,St.am,St.bl,St.bA,St.name,St.to,St.n,St.a8,St.value,St.args,a1,j.wf,e43.wf]
  .simp[gm,dh,jP,fg,kA,St.am,St.name,St.a8,St.value,St.args,hv,ha,a2,j.df,e43.df]
  .simp[gm,dh,lB,St.am]
  .simp[nu,fJ,d32,d43]
  .simp only[cS,nS];omega
  .simp[cm,dg]
  .simp[bZ,fd]
 rw[af c2];by_cases c3:q<10
 .rw[ai c3];obtain⟨hk,O⟩:=hs ac ac;have z:=O 3 ((bW f 4 1 Y).2,s.2) h0 h1;have saw:=z.w;have san:=z.n;have C:=O 2 (Z 3 ((bW f 4 1 Y).2,s.2)).2 ac z.wb;have sbw:=C.w;have sbn:=C.n;refine⟨?_,?_,?_,?_,?_,?_,C.wb,fun d=>?_⟩
  .simp[mE,je,eB,mD,rb,St.am,St.name,St.to,St.n,St.a8,St.value,St.args,z1,V.wf,z.wf,C.wf]
  .simp[gm,jP,fg,kA,St.am,St.a8,St.value,St.args,hv,ha,z2,V.df,z.df,C.df]
  .simp[gm,lB,St.am,z.ar,C.ar]
  .simp[nu,z3,d41,z.dp,C.dp]
  .simp only[cS];grind
  .simp only[cm];grind
  .have:=z.m (d+1);have:=C.m (d+1);simp only[bZ];omega
 rw[af c3];by_cases c4:q<12
 .rw[ai c4];obtain⟨hk,O⟩:=hs ac ac;have hlt:=hq ac;have hw:bB (s.2+1)=s.2+1:=by unfold bB;rw[kR ac ac]
  rw[hw];have z:=O 3 ((bW f 4 1 Y).2,s.2+1) yT yT;have saw:=z.w;have san:=z.n;refine⟨?_,?_,?_,?_,?_,?_,z.wb,fun d=>?_⟩
  .simp[mE,fx,je,eB,mD,rb,St.am,St.bA,St.name,St.to,St.n,St.a8,St.value,St.args,z1,V.wf,z.wf]
  .simp[gm,dh,jP,fg,kA,St.am,St.a8,St.value,St.args,hv,ha,z2,V.df,z.df]
  .simp[gm,dh,lB,St.am,z.ar]
  .simp[nu,fJ,z3,d41,z.dp]
  .simp only[cS,nS];grind
  .simp only[cm,dg];grind
  .have:=z.m (d+1);simp only[bZ,fd];omega
 rw[af c4];by_cases c5:q<14
 .rw[ai c5];refine⟨?_,?_,?_,?_,?_,?_,h1,fun d=>?_⟩
  .simp[mE,fx,je,eB,mD,rc,rb,St.am,St.bl,St.bA,St.name,St.to,St.n,St.a8,St.value,St.args,z1,V.wf]
  .simp[gm,dh,jP,fg,kA,St.am,St.a8,St.value,St.args,hv,ha,z2,V.df]
  .simp[gm,dh,lB,St.am]
  .simp[nu,fJ,z3,d41]
  .simp only[cS,nS];omega
  .simp[cm,dg]
  .simp[bZ,fd]
 rw[af c5];by_cases c6:q<15
 .rw[ai c6];refine⟨?_,?_,?_,?_,?_,?_,h1,fun d=>?_⟩
  .simp[mE,fx,je,mD,rc,St.am,St.bl,St.bA,St.name,St.to,St.n,St.a8,St.value,St.args,M,z1,g1,r1]
  .simp[gm,dh,jP,kA,St.am,St.name,St.to,St.a8,St.value,St.args,hv,ha,z2,J,g2,r2]
  .have:(((iL f (2-m.tmod 2).toNat Y).1.length:Nat):Int)=pe c.p (lF m):=by rw[r4,g3]
   simp[gm,dh,lB,St.am,St.args,St.to,this]
  .simp only[nu,fJ,z3,r3];decide
  .simp only[cS,nS];omega
  .simp[cm,dg]
  .simp[bZ,fd]
 rw[af c6];refine⟨?_,?_,?_,?_,?_,?_,h1,fun d=>?_⟩
 .have e:m<=1000000:=by omega
  simp[mE,fx,je,eB,mD,rc,St.am,St.bl,St.bA,St.name,St.to,St.n,St.a8,St.value,St.args,z1,hm,e]
 .simp[gm,dh,jP,fg,kA,St.am,St.a8,St.value,St.args,hv,ha,z2]
 .simp[gm,dh,lB,St.am]
 .simp[nu,fJ,z3]
 .simp only[cS,nS];omega
 .simp[cm,dg]
 .simp[bZ,fd]
def zfX{L:qy}(h:L≠[]):(cj L).2.length<L.length:=by
 cases L with
 |nil=>simp_all
 |cons a l=>simp[cj]
def zf1.more{c:Sc}{I:dk}{l:qD}{t:dk}(h:zf1 c k I l t)(h1:I.1.length<=s.1.length)(h2:I.2=s.2):zf1 c k s l t:=⟨h.wf,h.df,h.ar,h.dp,dw h.n h1,h2▸h.w,h.wb,h.m⟩
theorem TF{f:Int}{c:Sc}(M:ScG f c):∀(k Y:Nat),4<=Y+k->Y<=3->∀s:dk,s.1≠[]->0<=s.2->s.2<=10->StOk c (k-1) s (ip f k Y s).1 (ip f k Y s).2
 |0,Y,O,h2=>by omega
 |k+1,Y,O,h2=>fun s U Z V=>by
  have I:=fE (n:=bB ((cj s.1).1.tdiv 16)) (m:=1000) ac ac;have j:=fE (n:=(cj s.1).1) (m:=16) ac ac;rw[ip,xy];refine zfW M (zfX U) I.1 I.2 Z V ?_ ?_ ?_
  .unfold xw;split<;>omega
  .unfold xw;split<;>omega
  .intro a b;have hd:Y<=2:=by
    unfold xw at a b;omega
   have e:k+1-1-1=k-1:=ac;rw[e];refine⟨ac,fun J s C z=>zf1.more (Ko (fun s U Z O=>?_) _ ((cj s.1).2,s.2) C z) (pr _) rfl⟩;exact TF M k (Y+1) ac ac s U Z O
theorem TG{c:Sc}(M:ScG f c){deep:Nat}(h1:4<=deep+k)(h2:deep<=3)(U:Int)(C:0<=s.2)(V:s.2<=10):zf1 c (k-1) s (mL f k deep U s).1 (mL f k deep U s).2:=
 zf1.more (Ko (fun s Z m j=>TF M k deep h1 h2 s Z m j) _ ((cj s.1).2,s.2) C V) (pr _) rfl
def TH(L:qy):cJ [iO L,iP L] [102] 0=0/\cJ [iO L,iP L] [103] 0=1:=⟨rfl,rfl⟩
def TI(f:Int)(l:qy){F:Fu}(h:F.params++F.ak=ct f):ScG f (ig (eT l) F):=by
 refine⟨h,rfl,fun m Y=>?_⟩;have Z:=FB 2 Y;have j:=xn m (show(0:Int)<2 by omega);show 0<=cJ [iO (l.take 60),iP (l.take 60)] (lF m) 0/\_;unfold lF;by_cases e:m.tmod 2=0
 .rw[ai e,e];exact⟨by rw[(TH _).1];omega,rfl⟩
 .rw[af e,show m.tmod 2=1 by omega];exact⟨by rw[(TH _).2];omega,rfl⟩
theorem zfY(l:qy):eN (eT l)=0:=by
 have hl:(l.take 60).length<=60:=cb;have c0:ScG 0 (ig (eT l) (iO (l.take 60))):=TI 0 l rfl;have O:ScG 1 (ig (eT l) (iP (l.take 60))):=TI 1 l rfl;obtain⟨L,hL⟩:∃L,l.take 60=L:=⟨_,rfl⟩;rw[hL]at hl c0 O;have j:zf1 (ig (eT l) (iO L)) 3 ((cj L).2,0) (iq L).1 (iq L).2:=TG c0 (k:=4) (deep:=0) ac ac 5 (s:=((cj L).2,0)) aw aw;have v1:zir 0 4 (mN L).1:=vU 0 4 1 _ ac ac;have Y:=j.w;have Z:zf1 (ig (eT l) (iP L)) 2 ((mN L).2,(iq L).2.2) (kH L).1 (kH L).2:=TG O (k:=3) (deep:=1) ac ac 3 (s:=((mN L).2,(iq L).2.2)) ac j.wb;have v2:zir 1 4 (xC L).1:=vU 1 4 1 _ ac ac;have V:=j.n;have U:=Z.n;have M:=Z.w;have b1b:=j.wb;have b2b:=Z.wb;simp only at V U Y M;have n0:=pr L;have cS:(mN L).2.length<=(iq L).2.1.length:=fj 0 4 1 _;have p1:=fE (n:=(cj L).1) (m:=4) ac ac;have p2:=fE (n:=bB ((cj L).1.tdiv 4)) (m:=4) ac ac;have hp:eT l=⟨uF L,[iO L,iP L]⟩:=by rw[eT,hL]
 have bZ:=j.m 0;have m2:=Z.m 0;have d1:=v1.dp;have d2:=v2.dp;have J:jp (eT l)=false:=by
  rw[hp];simp only[jp,uF,pX,wX,rT,nA,iO,iP,l8,j.dp,Z.dp,mW,jv,mU]
  grind
 have C:ib (eT l)=true:=by
  rw[hp];have q:∀s∈([[102],[103],[120],[121],[105],[106],[110],[97],[98]]:qx),db s=true:=by
   intro s hs;simp only[jh]at hs;rcases hs with rfl|rfl|rfl|rfl|rfl|rfl|rfl|rfl|rfl<;>kernel_rfl
  simp only[ib,uF,rS,oY,ku,fnNames,iO,iP,AG,j.wf,Z.wf,v1.wf,v2.wf,hT,da];simp[q]
 have I:ky (eT l)=false:=by rw[hp];kernel_rfl
 have z:(eT l).funcs.any (i4 (eT l))=false:=by
  have e:(eT l).funcs=[iO L,iP L]:=by rw[hp]
  rw[e];have cm:ev (ig (eT l) (iO L)).vars (ig (eT l) (iO L)).an (iO L).value=true:=by rw[c0.vars,c0.an];exact v1.df
  have w2:ev (ig (eT l) (iP L)).vars (ig (eT l) (iP L)).an (iP L).value=true:=by rw[O.vars,O.an];exact v2.df
  have x1:dh (ig (eT l) (iO L)) false (iO L).body=true:=j.df;have x2:dh (ig (eT l) (iP L)) false (iP L).body=true:=Z.df;simp only[pX,wX,i4,cm,w2,x1,x2];rfl
 have hba:(eT l).funcs.any (kB (eT l))=false:=by
  have e:(eT l).funcs=[iO L,iP L]:=by rw[hp]
  rw[e];have x1:dh (ig (eT l) (iO L)) true (iO L).body=true:=j.ar;have x2:dh (ig (eT l) (iP L)) true (iP L).body=true:=Z.ar;simp only[pX,wX,kB,x1,x2];rfl
 rw[eN,J,C,I,z,hba];rfl
structure GenF (L:qy):Prop where
 len:L.length<=60
 b1:∀c,ScG 0 c->fx (iq L).1=true/\dh c false (iq L).1=true/\dh c true (iq L).1=true/\fJ (iq L).1=false/\nS (iq L).1<=60/\dg (iq L).1<=10/\fd (iq L).1 0<=3
 v1:zir 0 4 (mN L).1
 b2:∀c,ScG 1 c->fx (kH L).1=true/\dh c false (kH L).1=true/\dh c true (kH L).1=true/\fJ (kH L).1=false/\nS (kH L).1<=60/\dg (kH L).1<=10/\fd (kH L).1 0<=3
 v2:zir 1 4 (xC L).1
 x1:1<=1+bc (cj L).1 4/\1+bc (cj L).1 4<=4
 x2:1<=1+bc (bB ((cj L).1.tdiv 4)) 4/\1+bc (bB ((cj L).1.tdiv 4)) 4<=4
def BR(x y:Int):List Ar:=[⟨[97],x⟩,⟨[98],y⟩]
def tp(x y:Int)(F G:Fu):Pr:=⟨BR x y,[F,G]⟩
section
variable {L:qy} (h:GenF L)
include h
end
section
variable {L:qy} (h:GenF L) {x y:Int} (hx:1 <= x /\ x <= 4) (hy:1 <= y /\ y <= 4)
include h hx hy
end
def TJ(f:Int)(i:Nat):((ct f).getD i []).length<=1:=by
 have h:∀s∈ct f,s.length<=1:=by
  intro s U;unfold ct at U;split at U<;>simp only[jh]at U
  .rcases U with rfl|rfl|rfl|rfl<;>simp
  .rcases U with rfl|rfl<;>simp
 rw[gU];cases e:(ct f)[i]? with
 |none=>simp
 |some s=>exact h s (li e)
theorem TK(m:Int):(uA m).length=1:=by unfold uA;split<;>rfl
theorem zfZ(m:Int):(lF m).length=1:=by unfold lF;split<;>rfl
def so:Nat->Nat
 |0=>2
 |k+1=>5+3*so k
theorem vV(f:Int):∀(k Y:Nat) (L:qy),(bW f k Y L).1.sz<=so k
 |0,Y,L=>by simp[bW,Ex.sz,cy,so]
 |k+1,Y,L=>by
  have ih:=vV f k (Y+1);simp only[bW,so];generalize bc (cj L).1 16=q;generalize bc (bB ((cj L).1.tdiv 16)) 1000=m;split
  .split
   .have:=TJ f (m.tmod (ct f).length).toNat;simp only[Ex.sz,cy];omega
   .simp only[Ex.sz,cy,fq];omega
  .split
   .have:=TK m;have:=ih (cj L).2;simp only[Ex.sz,cy];omega
   .split
    .have:=ih (cj L).2;have:=ih (bW f k (Y+1) (cj L).2).2;have:=ih (bW f k (Y+1) (bW f k (Y+1) (cj L).2).2).2;simp only[Ex.sz,cy,fq];omega
    .split
     .have:=ih (cj L).2;simp only[Ex.sz,cy,fq];omega
     .have:=ih (cj L).2;have:=ih (bW f k (Y+1) (cj L).2).2;simp only[Ex.sz,cy,fq];omega
theorem TL(f:Int):∀(n:Nat) (L:qy),cy (iL f n L).1<=200*n
 |0,_=>by simp[iL,cy]
 |n+1,L=>by
  have:=TL f n (bW f 3 2 L).2;have:=vV f 3 2 L;have:so 3<=150:=aH;rw[iL,cy];omega
theorem zga(V:∀U s,bi (Z U s).1<=10000*nS (Z U s).1)(f:Int)(Y:qy)(c q m:Int):(io Z f Y c q m).1.sz+1<=10000*cS (io Z f Y c q m).1:=by
 have e5:so 5<=1200:=aH;have e4:so 4<=1200:=aH;have e3:so 3<=1200:=aH;have O:=vV f 5 0 Y;have M:=vV f 3 2 Y;have J:=vV f 4 1 Y;have I:=vV f 4 1 (bW f 3 2 Y).2;have z:gD.sz=1:=rfl;have C:=TJ f (m.tmod (ct f).length).toNat;have a1:=TK m;have g1:=zfZ m;have r:=TL f (2-m.tmod 2).toNat Y;have r2:(2-m.tmod 2).toNat<=4:=by
  have:-2<m.tmod 2:=by
   have:=xn (-m) (show(0:Int)<2 by omega);rw[Int.neg_tmod]at this;omega
  omega
 rw[io];split
 .simp only[St.sz,cS,nS,cy,bi,fq];omega
 split
 .simp only[St.sz,cS,nS,cy,bi,fq];omega
 split
 .have j:=V 3 ((bW f 4 1 Y).2,c);have s2:=V 2 (Z 3 ((bW f 4 1 Y).2,c)).2;simp only[St.sz,cS,cy,fq];omega
 split
 .have j:=V 3 ((bW f 4 1 Y).2,bB (c+1));simp only[St.sz,cS,nS,cy,bi,fq];omega
 split
 .simp only[St.sz,cS,nS,cy,bi,fq];omega
 split
 .simp only[St.sz,cS,nS,bi];omega
 .simp only[St.sz,cS,nS,cy,bi,fq];omega
theorem Kp{step:dk->St×dk}(h:∀s,(step s).1.sz+1<=10000*cS (step s).1):∀(n:Nat) (s:dk),bi (iE step n s).1<=10000*nS (iE step n s).1
 |0,s=>by simp[iE,bi,nS]
 |n+1,s=>by
  rw[iE];split
  .simp[bi,nS]
  .have:=h s;have:=Kp h n (step s).2;simp only[bi,nS];omega
theorem TM(f:Int):∀(k Y:Nat) (s:dk),(ip f k Y s).1.sz+1<=10000*cS (ip f k Y s).1
 |0,Y,s=>by
  have z:gD.sz=1:=rfl;simp only[ip,St.sz,cS,nS,cy,bi,fq];omega
 |k+1,Y,s=>by
  rw[ip,xy];exact zga (fun U s=>Kp (TM f k (Y+1)) _ _) f _ _ _ _
def TN(f:Int)(k deep:Nat)(U:Int)(s:dk):bi (mL f k deep U s).1<=10000*nS (mL f k deep U s).1:=Kp (TM f k deep) _ _
theorem Kq(l:qy):(eT l).sz<2^24:=by
 have O:jp (eT l)=false:=by
  have h:=zfY l;rw[eN]at h;cases e:jp (eT l)with
  |false=>rfl
  |true=>rw[ai e]at h;omega
 have Z:=TN 0 4 0 5 ((cj (l.take 60)).2,0);have Y:=TN 1 3 1 3 ((mN (l.take 60)).2,(iq (l.take 60)).2.2);have v1:(mN (l.take 60)).1.sz<=so 4:=vV 0 4 1 _;have v2:(xC (l.take 60)).1.sz<=so 4:=vV 1 4 1 _;have V:so 4<=1200:=aH;rw[eT]at O⊢;generalize l.take 60=L at *;change bi (iq L).1<=10000*nS (iq L).1 at Z;change bi (kH L).1<=10000*nS (kH L).1 at Y;simp only[jp,pX,wX,mW,jv,nA,iO,iP,mU]at O;obtain⟨_,m,j⟩:=O;have cS:¬(200:Int)<nS (iq L).1:=m.1.1.1.1.2;have M:¬(200:Int)<nS (kH L).1:=j.1.1.1.1.2;simp only[Pr.sz,eA,dO,uF,iO,iP,Fu.sz,cP,l8];omega
def zgb(l:qy):(eT l).sz<2^36:=Nat.lt_trans (Kq l) aH
end
end Go.Proofs.YtpbcimfiofmoeaaGreat
