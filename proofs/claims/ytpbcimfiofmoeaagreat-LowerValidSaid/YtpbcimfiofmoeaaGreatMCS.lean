/- Parts: G5b, G5, G6, GOk, GF, SglA, GSz, SglM, PgX. -/
import Derived.Test.YtpbcimfiofmoeaaGreatMCR
set_option linter.unusedSimpArgs false
set_option linter.unusedVariables false
set_option linter.unusedSectionVars false
set_option linter.defProp false
set_option maxHeartbeats 32000000
namespace Go.Ab
set_option maxRecDepth 20000
open Go
theorem mQ{P:Prop}(h:P:=by (try simp only[zk9,zli]);omega):P:=h
theorem ox{P:Prop}(h:P:=by first|rfl|((try simp only[zk9,zli]);omega)):P:=h
theorem Ez{P:Prop}(h:P:=by rw[<- Z,Hp.get_set,if_neg Y]):P:=h
theorem EA{P:Prop}(h:P:=by rw[<- Z,Hp.get_set,if_pos rfl]):P:=h
theorem x9{P:Prop}(h:P:=by simp[uI]):P:=h
theorem mr{P:Prop}(h:P:=by rw[e]at j;omega):P:=h
theorem SF{P:Prop}(h:P:=by rw[<- I,Hp.get_set,if_neg ac,zkZ,if_neg ac]):P:=h
theorem uN{P:Prop}(h:P:=by rw[Hp.get_set,if_neg ac,Hp.get_set,if_neg ac]):P:=h
theorem SG{P:Prop}(h:P:=by rw[z _ ac,O _ ac,C _ ac ac,j _ ac,o _ ac ac,oHb _ ac,oH6 _ ac ac,oHa _ ac]):P:=h
theorem SH{P:Prop}(h:P:=by rw[z _ ac,O _ ac,C _ ac ac,j _ ac,o _ ac ac,oHb _ ac]):P:=h
theorem SI{P:Prop}(h:P:=by rw[z _ ac,O _ ac,C _ ac ac,j _ ac]):P:=h
theorem EB{P:Prop}(h:P:=by rw[hS k m ac ac];exact j):P:=h
theorem SJ{P:Prop}(h:P:=by show(if _ then _ else _)=0;rw[if_neg ac];exact h.lab q U):P:=h
theorem SK{P:Prop}(h:P:=by show(if _ then _ else _)=2;rw[if_neg ac];exact lf):P:=h
theorem JC{P:Prop}(h:P:=by show(if _ then _ else _)=b+1;rw[if_neg ac];exact j):P:=h
theorem JD{P:Prop}(h:P:=by show(if _ then _ else _)=b+2;rw[if_neg ac];exact j):P:=h
theorem JE{P:Prop}(h:P:=by show(if _ then _ else _)=b+3;rw[if_neg ac];exact j):P:=h
theorem JF{P:Prop}(h:P:=by show(if _ then _ else _)=b;rw[if_neg ac];exact j):P:=h
end Go.Ab
namespace Go.Proofs.YtpbcimfiofmoeaaGreat
set_option maxRecDepth 20000
open Go Go.Ab
section
def tyG5b.tyF:=ad @cJ (ad @dd (ad @gX (ad @fx (ad @em (ad @en (ad @zms (ad @xf (ad @eY (ad @vx (ad @RC (ad @RD (ad @Au (ad @Jl (ad @RE (@kb6)))))))))))))))
open tyG5b
set_option maxRecDepth 100000 in
theorem zBU{lG:List En}(hG:GenL lG){k:Nat}{f:Int}{deep lo:Nat}{H H2:Hp}{r:Nat}{Y:List Int}{c q m:Int}{E2:aw}(hst:deep<=2->qs lG k f (deep+1))(hat:AtT f deep lo H H2 r Y c q m E2)(hn0:¬q<6)(hn1:¬q<8)(hp0:q<10):zlt Tryz.prog (zkY pls lG) 84 156 ou E2 H2 (ow k f deep lo H r Y c q m):=by
 obtain⟨hd,hrl,hlo,n2,g2,o2',hr2,hL1,hm,hqd,k0,k1,k2,k6,k8,k9,k10⟩:=hat;have hkeep:(zkY pls lG).keep 84=false:=rfl;have hq2:(2:Int)≠0:=aE;have J:((zlN f).length:Int)≠0:=by rcases tz f with h|h<;>rw[h]<;>decide
 obtain⟨hi0,hix⟩:=sc (zlN f) J hm.1 [];have hxs:=tE hm.1;have hxa:=tF hm.1;have hxf:=uL hm.1;have er:(H.next == r)=false:=zkV ac;have e41:=zmF f 4 1 Y;have e50:=zmF f 5 0 Y;have e32:=zmF f 3 2 Y;have hwd:IntKind.wrap .i64 ((deep:Int)+1)=((deep+1:Nat):Int):=zm3 ac;unfold ow;generalize hR:ig (se f k deep) f Y c q m=R;rw[ig]at hR;dsimp only[ou,fW,sd];repeat' (first
  |(apply ah ?_;clear hK K)|apply Ry.o ?_|(apply bb (fun hb hbp=>?_) (fun hb hbp=>?_)<;>try(cases hb;done))|apply ak ?_|(apply zkU fun K hK=>?_)|apply aG ?_|fail)
 refine aZ rfl bc bi ?_;simp only[bj];refine aS ?_ (jY hG 4 f 1 ac ac lo _ r Y c hr2 ac);rintro v Z ⟨⟨cs,rfl,hc1,hc2,hc3⟩,hr4,n4,o4⟩;obtain⟨v0,v1,v2,v3,v4,rfl⟩:=zmq hc1;obtain⟨w0,zlG,w2,w3,w4⟩:=ji hc2;dsimp only[zk6];repeat' (first
  |(apply ah ?_;clear hK K)|apply Rx.o ?_|apply bS ?_|apply ak ?_|(apply zkU fun K hK=>?_)|fail)
 generalize I:Hp.set (Hp.alloc Z _) Z.next _=Ha
 have na:Ha.next=Z.next+1:=by rw[<-I];rfl
 have oa:∀q,q<Z.next->Ha.get q=Z.get q:=fun q U=>SF
 have ga:Ha.get Z.next=some (.cells [.int .i64 3,.str [],.str [],.int .i64 0,.int .i64 0,.int .i64 0,.str [],.int .i64 0,.nilS,v0,v1,v2,v3,v4,.nilS,.nilS,.nilS] 0 true):=by rw[<-I,aJ,am rfl]
 clear I;refine aZ rfl bc bi ?_;simp only[bj];refine aS ?_ (AL hG (hst ac) 3 ac ac lo Ha r ((zlD f 4 1 Y).2,c) (hr4.keep ac fun q U=>oa q ac) ux);rintro z o ⟨O,hr5,n5,o5⟩;have hl5:(mP f k (deep+1) 3 ((zlD f 4 1 Y).2,c)).2.1.length<=(zlD f 4 1 Y).2.length:=dc (AJ (AK f k (deep+1)) _ _) (pr _);obtain⟨t1,t2⟩:=O.one;have g5:o.get Z.next=some (.cells [.int .i64 3,.str [],.str [],.int .i64 0,.int .i64 0,.int .i64 0,.str [],.int .i64 0,.nilS,v0,v1,v2,v3,v4,.nilS,.nilS,.nilS] 0 true):=by rw[o5 _ ac ac];exact ga
 dsimp only[zk6];repeat' (first
  |(apply ah ?_;clear hK K)|apply Rx.o ?_|apply bS ?_|apply ak ?_|(apply zkU fun K hK=>?_)|fail)
 generalize V:Hp.set o Z.next _=Hb
 have nb:Hb.next=o.next:=wq
 have ob:∀q,q≠Z.next->Hb.get q=o.get q:=fun q U=>by rw[<-V,aJ,af U]
 have gb:Hb.get Z.next=some (.cells [.int .i64 3,.str [],.str [],.int .i64 0,.int .i64 0,.int .i64 0,.str [],.int .i64 0,.nilS,v0,v1,v2,v3,v4,.nilS,z,.nilS] 0 true):=by rw[<-V,aJ,am rfl]
 clear V;refine aZ rfl bc bi ?_;simp only[bj];refine aS ?_ (AL hG (hst ac) 2 ac ac lo Hb r (mP f k (deep+1) 3 ((zlD f 4 1 Y).2,c)).2 (hr5.keep ac fun q U=>ob q ac) ac);rintro uv H6 ⟨C,hr6,n6,o6⟩;obtain⟨p1,p2⟩:=C.one;have g6t:H6.get Z.next=some (.cells [.int .i64 3,.str [],.str [],.int .i64 0,.int .i64 0,.int .i64 0,.str [],.int .i64 0,.nilS,v0,v1,v2,v3,v4,.nilS,z,.nilS] 0 true):=by rw[o6 _ ac ac];exact gb
 have g6:H6.get H.next=some (.cells [.int .i64 0,.str [],.str [],.int .i64 0,.int .i64 0,.int .i64 0,.str [],.int .i64 0,.nilS,.int .i64 0,.int .i64 0,.str [],.int .i64 0,.nilS,.nilS,.nilS,.nilS] 0 true):=by rw[o6 _ ac ac,ob _ ac,o5 _ ac ac,oa _ ac,o4 _ ac ac];exact g2
 have e46:(H.next == Z.next)=false:=zkV ac;have e64:(Z.next == H.next)=false:=zkV ac;dsimp only[zk6];repeat' (first
  |(apply ah ?_;clear hK K)|apply Rx.o ?_|apply bS ?_|apply ak ?_|(apply zkU fun K hK=>?_)|apply aF ?_|fail)
 refine⟨eI,_,(by(try simp only[zk1,zk7,Nat.reduceBEq,tyF,zlX,zl1, *]);first|done|with_reducible rfl),?_⟩;try simp only[zkX]
 rw[af ac,af ac,am ac]at hR;subst hR;have hk6:∀q,Hb.next<=q->q<H6.next->((H6.set Z.next (.cells [.int .i64 3,.str [],.str [],.int .i64 0,.int .i64 0,.int .i64 0,.str [],.int .i64 0,.nilS,v0,v1,v2,v3,v4,.nilS,z,uv] 0 true)).set H.next (.cells [.int .i64 3,.str [],.str [],.int .i64 0,.int .i64 0,.int .i64 0,.str [],.int .i64 0,.nilS,v0,v1,v2,v3,v4,.nilS,z,uv] 0 true)).get q=H6.get q:=fun q M j=>uN
 have hk5:∀q,Ha.next<=q->q<o.next->((H6.set Z.next (.cells [.int .i64 3,.str [],.str [],.int .i64 0,.int .i64 0,.int .i64 0,.str [],.int .i64 0,.nilS,v0,v1,v2,v3,v4,.nilS,z,uv] 0 true)).set H.next (.cells [.int .i64 3,.str [],.str [],.int .i64 0,.int .i64 0,.int .i64 0,.str [],.int .i64 0,.nilS,v0,v1,v2,v3,v4,.nilS,z,uv] 0 true)).get q=o.get q:=fun q M j=>by rw[aJ,af ac,aJ,af ac,o6 _ ac ac,ob _ ac]
 refine wB rfl (by simp only[nY,pZ,w0,zlG,w2,w3,w4,t1,p1,fR];rfl) (pw (n:=8+k) 3 [] [] 0 nD ((hc3.up ac).keep2 (fun q _ U=>ac) gc fun q M j=>by rw[aJ,af ac,aJ,af ac,o6 _ ac ac,ob _ ac,o5 _ ac ac,oa _ ac]) .nilS (O.keep (fun q _ U=>ac) gc fun q M j=>hk5 q M j).rd (C.keep (fun q _ U=>ac) gc fun q M j=>hk6 q M j).rd) ?_ ?_ ?_
 .exact hr6.keep gc fun q U=>uN
 .simp only[zli];omega
 .intro q M j;rw[aJ,af ac,aJ,af ac,o6 _ ac j,ob _ ac,o5 _ ac j,oa _ ac,o4 _ ac j];exact o2' q M j
set_option maxRecDepth 100000 in
theorem zrl{lG:List En}(hG:GenL lG){k:Nat}{f:Int}{deep lo:Nat}{H H2:Hp}{r:Nat}{Y:List Int}{c q m:Int}{E2:aw}(hst:deep<=2->qs lG k f (deep+1))(hat:AtT f deep lo H H2 r Y c q m E2)(hn0:¬q<6)(hn1:¬q<8)(hn2:¬q<10)(hp0:q<12):zlt Tryz.prog (zkY pls lG) 84 156 ou E2 H2 (ow k f deep lo H r Y c q m):=by
 obtain⟨hd,hrl,hlo,n2,g2,o2',hr2,hL1,hm,hqd,k0,k1,k2,k6,k8,k9,k10⟩:=hat;have hkeep:(zkY pls lG).keep 84=false:=rfl;have hq2:(2:Int)≠0:=aE;have U:((zlN f).length:Int)≠0:=by rcases tz f with h|h<;>rw[h]<;>decide
 obtain⟨hi0,hix⟩:=sc (zlN f) U hm.1 [];have hxs:=tE hm.1;have hxa:=tF hm.1;have hxf:=uL hm.1;have er:(H.next == r)=false:=zkV ac;have e41:=zmF f 4 1 Y;have e50:=zmF f 5 0 Y;have e32:=zmF f 3 2 Y;have hwd:IntKind.wrap .i64 ((deep:Int)+1)=((deep+1:Nat):Int):=zm3 ac;unfold ow;generalize hR:ig (se f k deep) f Y c q m=R;rw[ig]at hR;dsimp only[ou,fW,sd];repeat' (first
  |(apply ah ?_;clear hK K)|apply Ry.o ?_|(apply bb (fun hb hbp=>?_) (fun hb hbp=>?_)<;>try(cases hb;done))|apply ak ?_|(apply zkU fun K hK=>?_)|apply aG ?_|fail)
 obtain⟨lv,hg,J⟩:=hr2.tick;have hcw:IntKind.wrap .i64 (c+1)=bE (c+1):=rfl;repeat' (first
  |(apply ah ?_;clear hK K)|apply Rx.o ?_|apply bS ?_|apply ak ?_|(apply zkU fun K hK=>?_)|fail)
 generalize V:Hp.set _ r _=o;have nt:o.next=H.next+1:=by rw[<-V];simpa using n2
 have ot:∀q,q≠r->o.get q=_:=fun q M=>by rw[<-V,aJ,af M]
 have hrt:iZ lo o r Y (bE (c+1)):=by rw[<-V];exact J _
 have gt:o.get H.next=some (.cells [.int .i64 0,.str [],.str [],.int .i64 0,.int .i64 0,.int .i64 0,.str [],.int .i64 0,.nilS,.int .i64 0,.int .i64 0,.str [],.int .i64 0,.nilS,.nilS,.nilS,.nilS] 0 true):=by rw[ot _ ac];exact g2
 clear V;refine aZ rfl bc bi ?_;simp only[bj];refine aS ?_ (jY hG 4 f 1 ac ac lo o r Y _ hrt ac);rintro v Z ⟨⟨cs,rfl,hc1,hc2,hc3⟩,hr4,n4,o4⟩;obtain⟨v0,v1,v2,v3,v4,rfl⟩:=zmq hc1;obtain⟨w0,zlG,w2,w3,w4⟩:=ji hc2;dsimp only[zk6];repeat' (first
  |(apply ah ?_;clear hK K)|apply Rx.o ?_|apply bS ?_|apply ak ?_|(apply zkU fun K hK=>?_)|fail)
 generalize I:Hp.set (Hp.alloc Z _) Z.next _=Ha
 have na:Ha.next=Z.next+1:=by rw[<-I];rfl
 have oa:∀q,q<Z.next->Ha.get q=Z.get q:=fun q M=>SF
 have ga:Ha.get Z.next=some (.cells [.int .i64 4,.str [],.str [],.int .i64 0,.int .i64 0,.int .i64 0,.str [],.int .i64 0,.nilS,v0,v1,v2,v3,v4,.nilS,.nilS,.nilS] 0 true):=by rw[<-I,aJ,am rfl]
 clear I;refine aZ rfl bc bi ?_;simp only[bj];refine aS ?_ (AL hG (hst ac) 3 ac ac lo Ha r ((zlD f 4 1 Y).2,bE (c+1)) (hr4.keep ac fun q M=>oa q ac) ux);rintro tv z ⟨O,hr5,n5,o5⟩;obtain⟨t1,t2⟩:=O.one;have g5:z.get Z.next=some (.cells [.int .i64 4,.str [],.str [],.int .i64 0,.int .i64 0,.int .i64 0,.str [],.int .i64 0,.nilS,v0,v1,v2,v3,v4,.nilS,.nilS,.nilS] 0 true):=by rw[o5 _ ac ac];exact ga
 have g6:z.get H.next=some (.cells [.int .i64 0,.str [],.str [],.int .i64 0,.int .i64 0,.int .i64 0,.str [],.int .i64 0,.nilS,.int .i64 0,.int .i64 0,.str [],.int .i64 0,.nilS,.nilS,.nilS,.nilS] 0 true):=by rw[o5 _ ac ac,oa _ ac,o4 _ ac ac];exact gt
 have e46:(H.next == Z.next)=false:=zkV ac;have e64:(Z.next == H.next)=false:=zkV ac;dsimp only[zk6];repeat' (first
  |(apply ah ?_;clear hK K)|apply Rx.o ?_|apply bS ?_|apply ak ?_|(apply zkU fun K hK=>?_)|apply aF ?_|fail)
 refine⟨eI,_,(by(try simp only[zk1,zk7,Nat.reduceBEq,tyF,zlX,zl1, *]);first|done|with_reducible rfl),?_⟩;try simp only[zkX]
 rw[af ac,af ac,af ac,am ac]at hR;subst hR;have hk5:∀q,Ha.next<=q->q<z.next->((z.set Z.next (.cells [.int .i64 4,.str [],.str [],.int .i64 0,.int .i64 0,.int .i64 0,.str [],.int .i64 0,.nilS,v0,v1,v2,v3,v4,.nilS,tv,.nilS] 0 true)).set H.next (.cells [.int .i64 4,.str [],.str [],.int .i64 0,.int .i64 0,.int .i64 0,.str [],.int .i64 0,.nilS,v0,v1,v2,v3,v4,.nilS,tv,.nilS] 0 true)).get q=z.get q:=fun q C j=>uN
 refine wB rfl (by simp only[nY,pZ,w0,zlG,w2,w3,w4,t1,fR];rfl) (pw (n:=8+k) 4 [] [] 0 nD ((hc3.up ac).keep2 (fun q _ M=>ac) gc fun q C j=>by rw[aJ,af ac,aJ,af ac,o5 _ ac ac,oa _ ac]) .nilS (O.keep (fun q _ M=>ac) gc fun q C j=>hk5 q C j).rd .nilS) ?_ ?_ ?_
 .exact hr5.keep gc fun q M=>uN
 .simp only[zli];omega
 .intro q C j;rw[aJ,af ac,aJ,af ac,o5 _ ac j,oa _ ac,o4 _ ac j,ot _ j];exact o2' q C j
set_option maxRecDepth 100000 in
theorem ztX{lG:List En}(hG:GenL lG){k:Nat}{f:Int}{deep lo:Nat}{H H2:Hp}{r:Nat}{O:List Int}{c q m:Int}{E2:aw}(hst:deep<=2->qs lG k f (deep+1))(hat:AtT f deep lo H H2 r O c q m E2)(hn0:¬q<6)(hn1:¬q<8)(hn2:¬q<10)(hn3:¬q<12)(hn4:¬q<14)(hp0:q<15):zlt Tryz.prog (zkY pls lG) 84 156 ou E2 H2 (ow k f deep lo H r O c q m):=by
 obtain⟨hd,hrl,hlo,n2,g2,o2',hr2,hL1,hm,hqd,k0,k1,k2,k6,k8,k9,k10⟩:=hat;have hkeep:(zkY pls lG).keep 84=false:=rfl;have hq2:(2:Int)≠0:=aE;have hlen0:((zlN f).length:Int)≠0:=by rcases tz f with h|h<;>rw[h]<;>decide
 obtain⟨hi0,hix⟩:=sc (zlN f) hlen0 hm.1 [];have hxs:=tE hm.1;have hxa:=tF hm.1;have hxf:=uL hm.1;have er:(H.next == r)=false:=zkV ac;have e41:=zmF f 4 1 O;have e50:=zmF f 5 0 O;have e32:=zmF f 3 2 O;have hwd:IntKind.wrap .i64 ((deep:Int)+1)=((deep+1:Nat):Int):=zm3 ac;unfold ow;generalize hR:ig (se f k deep) f O c q m=R;rw[ig]at hR;dsimp only[ou,fW,sd];repeat' (first
  |(apply ah ?_;clear hK K)|apply Ry.o ?_|apply dG ?_|(apply bb (fun hb J=>?_) (fun hb J=>?_)<;>try(cases hb;done))|apply ak ?_|(apply zkU fun K hK=>?_)|(apply zmm 24 [(3,14),(6,14),(7,14),(11,14),(13,14)] fun K hK=>?_)|(apply zlC ?_;try intro _)|(apply zmk ?_ ?_<;>clear hK K)|apply bZ ?_|apply zmK rfl ?_|apply aG ?_|fail)
 repeat' (first
  |(apply ah ?_;clear hK K)|fail)
 .exact zlU
 generalize I:Hp.set (Hp.alloc (Hp.alloc _ _) _) _ _=Ha;have na:Ha.next=H.next+3:=by rw[<-I];simp only[zli,zk9];omega
 have oa:∀q,q<H.next->q≠r->Ha.get q=H.get q:=fun q U Y=>by
  rw[<-I,aJ,af ac,zkZ,af cL,zkZ,af ac];exact o2' q U Y
 have gz:Ha.get H.next=some (.cells [.int .i64 0,.str [],.str [],.int .i64 0,.int .i64 0,.int .i64 0,.str [],.int .i64 0,.nilS,.int .i64 0,.int .i64 0,.str [],.int .i64 0,.nilS,.nilS,.nilS,.nilS] 0 true):=by
  rw[<-I,aJ,af ac,zkZ,af cL,zkZ,af ac];exact g2
 have hra:iZ lo Ha r O c:=by
  rw[<-I];exact hr2.keep iI fun q hq=>by rw[aJ,af ac,zkZ,af cL,zkZ,af ac]
 have ga:Ha.get (H.next+2)=some (.cells [.int .i64 6,.str ((zlN f).getD (m.tmod (zlN f).length).toNat []),.str (lQ m),.int .i64 0,.int .i64 0,.int .i64 0,.str [],.int .i64 0,.nilS,.int .i64 0,.int .i64 0,.str [],.int .i64 0,.nilS,.nilS,.nilS,.nilS] 0 true):=by rw[<-I,aJ,am ac]
 clear I;have htm:0<=m.tmod 2/\m.tmod 2<2:=Em hm.1;have hw2:IntKind.wrap .i64 (2-m.tmod 2)=2-m.tmod 2:=znj ac ac;generalize hcnt:(2-m.tmod 2).toNat=C at *;have hcn:2-m.tmod 2=(C:Int):=ac;rw[hcn]at hw2;refine zlL [0,1,6,9,13] [H.next] 14 C (fun j E H'=>∃v es M,H'.get (H.next+2)=some (.cells [.int .i64 6,.str ((zlN f).getD (m.tmod (zlN f).length).toNat []),.str (lQ m),.int .i64 0,.int .i64 0,.int .i64 0,.str [],.int .i64 0,.nilS,.int .i64 0,.int .i64 0,.str [],.int .i64 0,.nilS,v,.nilS,.nilS] 0 true)/\zmf (fun q=>H.next+3<=q) 4 H' 5 v (es.map Ex.cells)/\iZ lo H' r M c/\(∀q,q<H.next->q≠r->H'.get q=H.get q)/\es.length=j/\M.length<=O.length/\iJ f C O=(es++(iJ f (C-j) M).1,(iJ f (C-j) M).2)) eE ⟨.nilS,[],O,ga,.inl ⟨rfl,rfl⟩,hra,oa,rfl,aB _,ax⟩ ?_;clear ga hra oa g2 hr2 o2';rintro j E3 H3 hj hcE hrH hnH hsI ⟨v,es,M,g3,Z,hr3,o3,hel,hLj,hJ⟩;(try simp only[zlm,zlb,aR,zk1,zk7,Nat.reduceBEq,Nat.reduceAdd, *]at hcE);(try simp only[zlm,zlb,aR, *]at hrH);(try simp only[zk9,zli,zlI,bL,Nat.reduceAdd]at hnH);have hB0:(H.next == H3.next)=false:=zkV ac;have hC0:(H3.next == H.next)=false:=zkV ac;have hle:H.next+3<=H3.next:=ac
 have e02:(H.next == H.next+2)=false:=zkV ac;have e20:(H.next+2 == H.next)=false:=zkV ac;obtain⟨v1,v2⟩:=Z.one;repeat' (first
  |(apply ah ?_;clear hK K)|apply Rx.o ?_|apply bS ?_|(apply a0 (fun hb J=>?_) (fun hb J=>?_)<;>try(cases hb;done))|apply ak ?_|(apply zkU fun K hK=>?_)|(apply zmm 28 [(1,4),(1,6),(5,6)] fun K hK=>?_)|(apply zlC ?_;try intro _)|apply bZ ?_|apply aG ?_|apply zk3 ?_|apply aF ?_|apply zlu ?_)
 .have hlt:j<C:=by omega
  refine aZ rfl bc bi ?_;simp only[iw];refine aS ?_ (jY hG 3 f 2 ac ac lo H3 r M c hr3 ac);rintro v' V ⟨⟨cs,rfl,hc1,hc2,hc3⟩,hr4,n4,o4⟩;have hl4:=zmF f 3 2 M;have g4:V.get (H.next+2)=some (.cells [.int .i64 6,.str ((zlN f).getD (m.tmod (zlN f).length).toNat []),.str (lQ m),.int .i64 0,.int .i64 0,.int .i64 0,.str [],.int .i64 0,.nilS,.int .i64 0,.int .i64 0,.str [],.int .i64 0,.nilS,v,.nilS,.nilS] 0 true):=by rw[o4 _ ac ac];exact g3
  have g40:V.get H.next=some (.cells [.int .i64 0,.str [],.str [],.int .i64 0,.int .i64 0,.int .i64 0,.str [],.int .i64 0,.nilS,.int .i64 0,.int .i64 0,.str [],.int .i64 0,.nilS,.nilS,.nilS,.nilS] 0 true):=by rw[o4 _ ac ac];exact hrH
  have kb:=fun H=>Jj H hc1 hc2;have hvq:∀q o m z',v=.sl q o m z'->H.next+3<=q/\q<H3.next:=fun q o m z' e=>by
   rcases Z with⟨rfl,_⟩|⟨q',imm,rows,rfl,e1,e2,_⟩
   .cases e
   .simp only[AV.sl.injEq]at e;rw[<-e.1];exact⟨e1,e2⟩
  have ob:∀q,q<V.next->(V.alloc (.cells cs 0 true)).get q=V.get q:=fun q hq=>gk
  have z:zmf (fun q=>H.next+3<=q) 4 (V.alloc (.cells cs 0 true)) 5 v (es.map Ex.cells):=Z.keep (fun q _ h=>h) cL fun q U Y=>by rw[ob _ ac,o4 q Y ac]
  have gcs:(V.alloc (.cells cs 0 true)).get V.next=some (.cells cs 0 true):=gH
  have g4b:(V.alloc (.cells cs 0 true)).get (H.next+2)=some (.cells [.int .i64 6,.str ((zlN f).getD (m.tmod (zlN f).length).toNat []),.str (lQ m),.int .i64 0,.int .i64 0,.int .i64 0,.str [],.int .i64 0,.nilS,.int .i64 0,.int .i64 0,.str [],.int .i64 0,.nilS,v,.nilS,.nilS] 0 true):=by rw[ob _ ac];exact g4
  obtain⟨v5,H5,a5,s5,n5,f5,q5⟩:=xP (P:=Tryz.prog) (t:=61) Tryz.underlying61 sP vD vE rfl aj z cL (r:=V.next) (imm:=0) (row:=cs) (w:=(zlD f 3 2 M).1.cells) gcs hc1 hc2 (hc3.keep2 (fun q U Y=>⟨ac,fun o m z' e=>by have:=(hvq q o m z' e).2;omega⟩) (dQ _) fun q U Y=>ob q Y) Eg Eg;simp only[zk9]at n5 f5;have o5:∀q,q<V.next->q<H.next+3->H5.get q=V.get q:=fun q U Y=>by rw[f5 q ac (fun o m z' e=>by have:=(hvq q o m z' e).1;omega),ob q U]
  have g5:H5.get (H.next+2)=some (.cells [.int .i64 6,.str ((zlN f).getD (m.tmod (zlN f).length).toNat []),.str (lQ m),.int .i64 0,.int .i64 0,.int .i64 0,.str [],.int .i64 0,.nilS,.int .i64 0,.int .i64 0,.str [],.int .i64 0,.nilS,v,.nilS,.nilS] 0 true):=by rw[o5 _ ac ac];exact g4
  have n5':V.next+2<=H5.next:=ac
  obtain⟨p1,p2⟩:=s5.one;clear f5 q5 Z z hr3;dsimp only[zk6];repeat' (first
   |(apply ah ?_;clear hK K)|apply Rx.o ?_|apply bS ?_|(apply zkU fun K hK=>?_)|(apply zlC ?_;try intro _)|(apply zmk ?_ ?_<;>clear hK K)|apply bZ ?_|apply zmK rfl ?_|fail)
  .exact zlU
  .have o6:∀q,q≠H.next+2->(H5.set (H.next+2) (.cells [.int .i64 6,.str ((zlN f).getD (m.tmod (zlN f).length).toNat []),.str (lQ m),.int .i64 0,.int .i64 0,.int .i64 0,.str [],.int .i64 0,.nilS,.int .i64 0,.int .i64 0,.str [],.int .i64 0,.nilS,v5,.nilS,.nilS] 0 true)).get q=H5.get q:=fun q hq=>by rw[aJ,af hq]
   have g60:H5.get H.next=some (.cells [.int .i64 0,.str [],.str [],.int .i64 0,.int .i64 0,.int .i64 0,.str [],.int .i64 0,.nilS,.int .i64 0,.int .i64 0,.str [],.int .i64 0,.nilS,.nilS,.nilS,.nilS] 0 true):=by rw[o5 _ ac ac];exact g40
   refine⟨ac,(by simp only[zlm,zlb,aR,zk1,zk7,Nat.reduceBEq,Nat.reduceAdd, *]),(by simp only[zlm,zlb,aR,zk1,zk7, *]),zlF,(by simp only[zk1,Nat.reduceBEq, *];exact zni (n:=C) ac ac),?_⟩;refine⟨v5,es++[(zlD f 3 2 M).1],(zlD f 3 2 M).2,gQ,by rw[l0];exact s5.keep (fun q _ h=>h) gc fun q U Y=>o6 q ac,hr4.keep gc fun q hq=>by rw[o6 q ac,o5 q ac ac],fun q U Y=>by rw[o6 q ac,o5 q ac ac,o4 q ac Y,o3 q U Y],by simp[hel],ac,?_⟩;rw[hJ,show C-j=(C-(j+1))+1 by omega,iJ];simp
 .have hje:j=C:=by omega
  subst hje;repeat' (first
   |(apply ah ?_;clear hK K)|fail)
  refine⟨eI,_,(by(try simp only[zk1,zk7,Nat.reduceBEq,tyF,zlX,zl1, *]);first|done|with_reducible rfl),?_⟩;try simp only[zkX]
  rw[af ac,af ac,af ac,af ac,af ac,am ac,hJ,oG]at hR;subst hR;simp only[iJ,bj];refine wB rfl (by simp only[nY,pZ,v1,fR];rfl) (pw (n:=8+k) 6 _ _ 0 nD nD ((Z.keep (fun q _ hq=>ac) gc fun q U Y=>kE).rd.up ac) .nilS .nilS) ?_ ?_ ?_
  .exact hr3.keep gc fun q hq=>kE
  .simp only[zli];omega
  .intro q U Y;rw[aJ,af ac];exact o3 q U Y
end
section
def tyG5.tyF:=ad @cJ (ad @dd (ad @gX (ad @fx (ad @em (ad @en (ad @zms (ad @xf (ad @eY (ad @RE (@qK))))))))))
open tyG5
set_option maxRecDepth 100000 in
theorem zrm{lG:List En}(Y:GenL lG){k:Nat}{f:Int}{deep:Nat}(hd:deep<=3)(Z:deep<=2->qs lG k f (deep+1)):qs lG (k+1) f deep:=by
 intro lo H r s z hL;have hw:Plain (zkY pls lG) 84:=Y.plain dT;have hnx:Plain (zkY pls lG) 40:=Y.plain dT;have hkeep:(zkY pls lG).keep 84=false:=rfl;have hrl:=z.1;have hlo:=z.2.1;have hq16:(16:Int)≠0:=aE;have hq2:(2:Int)≠0:=aE;have hlen0:((zlN f).length:Int)≠0:=by rcases tz f with h|h<;>rw[h]<;>decide
 rw[ii,wz];refine zlf (M:=156) (rs:=[.cell 6 96]) (hw.call _) hw.ice hw.froz Tryz.func84 rfl rfl sd.2 rfl ?_;dsimp only[sd,zD,Nat.reduceAdd];repeat' (first
  |(apply ah ?_;clear hK K)|apply Rx.o ?_|apply ak ?_|(apply zkU fun K hK=>?_)|fail)
 refine aZ rfl bc bi ?_;simp only[bj];refine aS ?_ (DY hnx (z.keep (dQ _) fun q hq=>gk) hL);rintro v H2 ⟨rfl,hr2,n2,o2⟩;simp only[zk9]at n2;have g2:H2.get H.next=some (.cells [.int .i64 0,.str [],.str [],.int .i64 0,.int .i64 0,.int .i64 0,.str [],.int .i64 0,.nilS,.int .i64 0,.int .i64 0,.str [],.int .i64 0,.nilS,.nilS,.nilS,.nilS] 0 true):=by rw[o2 _ ac,zkZ,am rfl]
 have o2':∀q,q<H.next->q≠r->H2.get q=H.get q:=fun q h1 h2=>by rw[o2 q h2,zkZ,af ac]
 have hL1:=pr s.1;generalize (zlK s.1).1=n at *;generalize (zlK s.1).2=L1 at *;obtain⟨sL,c⟩:=s;simp only[]at *;have hq:=zmO (n:=n) (m:=16) ac ac;have hm:=zmO (n:=bE (n.tdiv 16)) (m:=1000) ac ac;obtain⟨hi0,hix⟩:=sc (zlN f) hlen0 hm.1 [];have hxs:=tE hm.1;have hxa:=tF hm.1;have hxf:=uL hm.1;clear o2;dsimp only[zk6];repeat' (first
  |(apply ah ?_;clear hK K)|apply Rx.o ?_|(apply eM ?_;first|refine zlc (PV Y.nms _ _) ?_|refine zlc (znn Y.pick _ 1000 aE _) ?_)|apply ak ?_|(apply zkU fun K hK=>?_)|fail)
 refine aZ rfl bc bi ?_;simp only[bj];refine aS ?_ (znn Y.pick n 16 aE _);rintro _ _ ⟨rfl,rfl⟩;dsimp only[zk6];refine Rx.o ?_;refine w7 (hK _ _ ?_);clear hK K;dsimp only[lF,pR];generalize zla n 16=J at *;generalize zla (bE (n.tdiv 16)) 1000=m at *;obtain⟨lv,hgr,hlen⟩:=hr2.len;rename_i H2;simp only[xi,sR,cn];refine ak ?_;refine ak ?_;refine zkU fun K I=>?_;have hK:∀V H3,(V.at 0=.ptr r 0/\V.at 1=.int .i64 f/\V.at 2=.int .i64 deep/\V.at 6=.ptr H.next 0/\V.at 8=zlY (zlN f)/\V.at 9=.int .i64 m/\V.at 10=.int .i64 J/\(∃b,V.at 44=.bool b/\(b=true↔(((2:Int)<deep/\8<=J/\J<12)\/(10<=c/\10<=J))))/\H3=H2)->K V H3:=by
  rintro V H3 ⟨k0,k1,k2,k6,k8,k9,o,⟨b,k44,C⟩,rfl⟩;apply I;clear I K;dsimp only[lF,pR];have O:wy deep c J=if ((2:Int)<deep/\8<=J/\J<12)\/(10<=c/\10<=J)then 0 else J:=rfl
  generalize wy deep c J=q at *;have hqr:0<=q/\q<16:=by rw[O];split<;>omega
  have hqd:8<=q->q<12->deep<=2:=by rw[O];split<;>omega
  refine zBD (fun E' H'=>E'.at 0=.ptr r 0/\E'.at 1=.int .i64 f/\E'.at 2=.int .i64 deep/\E'.at 6=.ptr H.next 0/\E'.at 8=zlY (zlN f)/\E'.at 9=.int .i64 m/\E'.at 10=.int .i64 q/\H'=H3) ?_ ?_
  .cases b with
   |true=>
    rw[am (C.1 rfl)]at O;repeat' (first
     |(apply ah ?_;clear hK K)|apply Rx.o ?_|(apply a0 (fun C j=>?_) (fun C j=>?_)<;>try(cases C;done))|(apply zkU fun K hK=>?_)|fail)
    exact⟨rfl,eE,eE,eE,eE,eE,eE,GW,rfl⟩
   |false=>
    rw[af (fun h=>by have:=C.2 h;cases this)]at O;repeat' (first
     |(apply a0 (fun C j=>?_) (fun C j=>?_)<;>try(cases C;done))|apply zk3 ?_|fail)
    exact⟨rfl,eE,eE,eE,eE,eE,eE,(by first|(simp only[*];done)|rfl),rfl⟩
  clear k0 k1 k2 k6 k8 k9 o k44 C O hq;rintro E3 H' ⟨k0,k1,k2,k6,k8,k9,o,rfl⟩;have U:AtT f deep lo H H' r L1 c q m E3:=⟨hd,hrl,hlo,n2,g2,o2',hr2,ac,hm,hqd,k0,k1,k2,k6,k8,k9,o⟩;by_cases c1:q<6
  .exact zpw Y Z U c1
  by_cases c2:q<8
  .exact zrk Y Z U c1 c2
  by_cases c3:q<10
  .exact zBU Y Z U c1 c2 c3
  by_cases c4:q<12
  .exact zrl Y Z U c1 c2 c3 c4
  by_cases c5:q<14
  .exact zwW Y Z U c1 c2 c3 c4 c5
  by_cases c6:q<15
  .exact ztX Y Z U c1 c2 c3 c4 c5 c6
  exact ztW Y Z U c1 c2 c3 c4 c5 c6
 clear I;repeat' (first
  |(apply ah ?_;clear hK K)|apply Rx.o ?_|apply qP ?_|(apply cz (fun hg hgp=>?_) (fun hg hgp=>?_)<;>try(cases hg;done))|fail)
 all_goals
  refine⟨eE,eE,eE,eE,eE,eE,eE,⟨_,eE,?_⟩,rfl⟩;first
  |exact⟨fun _=>ac,fun _=>rfl⟩
  |exact⟨fun h=>(by cases h),fun h=>(by omega:False).elim⟩
  |exact⟨fun h=>by(have h:=rQ h;omega),fun h=>fY ac⟩
theorem SL{K:List En}(Z:GenL K)(f:Int):∀(k m:Nat),4<=m+k->m<=3->qs K k f m
 |0,m,h1,h2=>by omega
 |k+1,m,h1,h2=>zrm Z h2 fun h=>SL Z f k (m+1) ac ac
end
section
def tyG6.tyF:=ad @ec (ad @cJ (ad @dd (ad @gX (ad @gY (ad @iQ (ad @fI (ad @fx (ad @em (ad @en (ad @zms (ad @iR (ad @xf (ad @jw (ad @eY (ad @qK (ad @Au (ad @vm (@zf))))))))))))))))))
open tyG6
noncomputable def SM:{c:SC // aC 61 (Tryz.f25.body.getD .skip)=c}:=by
 refine⟨?_,?_⟩;rotate_left
 .simp only[Tryz.f25,bI,aC,zll,zle,zlp,zln,Nat.blt,Nat.ble];rfl
def JG(K:List En):Prop:=∀(f:Int) (k m:Nat),4<=m+k->m<=3->qs K k f m
theorem zjj{K:List En}(m:GenL K):JG K:=SL m
def ik(L:List Int):List St×zl9:=mP 0 4 0 5 ((zlK L).2,0)
def mR(L:List Int):Ex×List Int:=zlD 0 4 1 (ik L).2.1
def kN(L:List Int):List St×zl9:=mP 1 3 1 3 ((mR L).2,(ik L).2.2)
def wD(L:List Int):Ex×List Int:=zlD 1 4 1 (kN L).2.1
def iL(L:List Int):Fu:=⟨[102],[[120],[121]],[[105],[106]],(ik L).1,(mR L).1⟩
def iM(L:List Int):Fu:=⟨[103],[[110]],[[105]],(kN L).1,(wD L).1⟩
def tI(L:List Int):List Ar:=[⟨[97],1+zla (zlK L).1 4⟩,⟨[98],1+zla (bE ((zlK L).1.tdiv 4)) 4⟩]
def fE(l:List Int):Pr:=⟨tI (l.take 60),[iL (l.take 60),iM (l.take 60)]⟩
structure ProgM (lo n:Nat) (H:Hp) (p:Pr) (ra rf:Nat) (x y:Int) (f g:Fu) (cf cg:List AV):Prop where
 ep:p=⟨[⟨[97],x⟩,⟨[98],y⟩],[f,g]⟩
 ga:H.get ra=some (.cells [.str [97],.int .i64 x,.str [98],.int .i64 y] 0 true)
 gf:H.get rf=some (.cells (cf++cg) 0 true)
 la:lo<=ra/\ra<H.next
 lf:lo<=rf/\rf<H.next
 ne:ra≠rf
 lcf:cf.length=9
 lcg:cg.length=9
 wf:zlJ (fun q=>lo<=q/\q≠ra/\q≠rf) n H cf f.cells
 wg:zlJ (fun q=>lo<=q/\q≠ra/\q≠rf) n H cg g.cells
theorem EC{S:Nat->Prop}{n:Nat}{H:Hp}(nm:List UInt8){p l b:AV}{v:List AV}{f:Fu}(J:f.name=nm)(h1:fd S (n+1) H p (zlY f.params))(h2:fd S (n+1) H l (zlY f.locals))(z:fd S (n+1) H b (.lst (f.body.map St.cells)))(Y:zlJ S (n+1) H v f.value.cells):zlJ S (n+1) H ([.str nm,p,l,b]++v) f.cells:=by
 have e:f.cells=[.str f.name,zlY f.params,zlY f.locals,.lst (f.body.map St.cells)]++f.value.cells:=sK;rw[e,J];exact(zlJ.cons (.str _) (.cons h1 (.cons h2 (.cons z .nil)))).append Y
theorem ED{S:Nat->Prop}{n:Nat}{H:Hp}{r imm:Nat}{tip:Bool}(l:List (List UInt8))(hS:S r)(hr:r<H.next)(K:H.get r=some (.cells (l.map .str) imm tip))(I:imm<=l.length):fd S (n+2) H (.sl r 0 l.length 1) (zlY l):=by
 have:=tA (n:=n+1) (a:=l.map fun s=>[AV.str s]) (z:=1) hS hr (by rw[CY];exact K) (by rw[CY];simpa using I) (dO.strs l);rw[cp]at this;exact this
theorem zjk(H:Hp):zmb Tryz.prog H 23 0 []=some (.sl H.next 0 0 1,H.alloc (.cells [] 0 true)):=aj
theorem zjl(v:Nat)(n:Nat):zma Tryz.prog 78 [(0,.sl v 0 n 1)]=some (.agg [.sl v 0 n 1,.int .i64 0]):=aj
theorem SN(s:List UInt8)(n:Int):zma Tryz.prog 86 [(0,.str s),(1,.int .i64 n)]=some (.agg [.str s,.int .i64 n]):=aj
theorem zjm(H:Hp)(a b:List UInt8)(x y:Int):zmb Tryz.prog H 24 2 [(0,.agg [.str a,.int .i64 x]),(1,.agg [.str b,.int .i64 y])]=some (.sl H.next 0 2 2,H.alloc (.cells [.str a,.int .i64 x,.str b,.int .i64 y] 0 true)):=aj
theorem zjn(r n:Nat):zma Tryz.prog 49 [(0,.sl r 0 n 2)]=some (.agg [.sl r 0 n 2,.nilS]):=aj
theorem zjo(s:List UInt8)(r n q m:Nat):zma Tryz.prog 65 [(0,.str s),(1,.sl r 0 n 1),(2,.sl q 0 m 1)]=some (.agg [.str s,.sl r 0 n 1,.sl q 0 m 1,.nilS,.int .i64 0,.int .i64 0,.str [],.int .i64 0,.nilS]):=aj
theorem zjp(H:Hp)(znw J V j K Z C z Y U M O I o b5 b6 m b8:AV):zmb Tryz.prog H 47 2 [(0,.agg [znw,J,V,j,K,Z,C,z,Y]),(1,.agg [U,M,O,I,o,b5,b6,m,b8])]=some (.sl H.next 0 2 9,H.alloc (.cells [znw,J,V,j,K,Z,C,z,Y,U,M,O,I,o,b5,b6,m,b8] 0 true)):=aj
theorem JH(H:Hp)(s:List UInt8):zmb Tryz.prog H 59 1 [(0,.str s)]=some (.sl H.next 0 1 1,H.alloc (.cells [.str s] 0 true)):=aj
theorem JI(a b:AV):zlT 2 [a,b]=some (.agg [a,b]):=rfl
theorem zw0(l:List Int):(l.map fun n=>[AV.int .i64 n]).flatten=l.map fun n=>AV.int .i64 n:=by
 induction l with
 |nil=>rfl
 |cons a l ih=>simp only[dM,mW,ih];rfl
theorem ztY{H:Hp}{q:Nat}(l:List Int)(K:H.get q=some (.cells [] 0 true))(O:q<H.next)(M:l.length<=60):
 ∃v H',zmc Tryz.prog false H 23 23 (.sl q 0 0 1) (.lst (l.map fun n=>[AV.int .i64 n]))=some (v,H')/\(∃b m,v=.sl b 0 l.length 1/\H'.get b=some (.cells (l.map fun n=>.int .i64 n) m true)/\b<H'.next/\(b=q\/b=H.next))/\H.next<=H'.next/\∀k,k<H.next->k≠q->H'.get k=H.get k:=by
 have Y:zmr=70368744177664:=rfl;have Z:(l.map fun n=>[AV.int .i64 n]).flatten=l.map fun n=>AV.int .i64 n:=zw0 l;have hx:zmM H 1 (.lst (l.map fun n=>[AV.int .i64 n]))=some (l.length,l.map fun n=>AV.int .i64 n):=by
  have e:zmM H 1 (.lst (l.map fun n=>[AV.int .i64 n]))=if ((l.map fun n=>[AV.int .i64 n]).all fun V=>V.length == 1)then some ((l.map fun n=>[AV.int .i64 n]).length,(l.map fun n=>[AV.int .i64 n]).flatten)else none:=rfl
  rw[e,am ax,Z,cp]
 have U:(l.map fun n=>AV.int .i64 n).all AV.one=true:=by simp[AV.one]
 cases l with
 |nil=> 
  refine⟨.sl q 0 0 1,H,?_,⟨q,0,rfl,K,O,.inl rfl⟩,aB _,fun _ _ _=>rfl⟩
  .simp only[zmc,Tryz.underlying23,ki,pS,pT,show znh Tryz.prog 23=true by kernel_rfl,hx,eW]
 |cons a l=>
  simp only[eK]at hx M;have o:iC false H 1 (.sl q 0 0 1)=H:=by
   unfold iC;simp only[K];rfl
  refine⟨.sl H.next 0 (0+(l.length+1)) 1,(H.kill q).alloc (.cells ([]++(a::l).map fun n=>.int .i64 n) (0-0) true),?_,⟨H.next,0,ax,?_,cE _,.inr rfl⟩,dQ _,fun k J j=>?_⟩
  .simp only[zmc,Tryz.underlying23,ki,pS,pT,show znh Tryz.prog 23=true by kernel_rfl,hx,U,o,oM,dB,mU,znM,K,bL,lV,List.drop_nil,dE,dL];rw[am ⟨lM,lM,ax⟩]
  .show((H.kill q).alloc _).get (H.kill q).next=_
   rw[zkZ,am rfl];simp
  .rw[zkZ,af nh,znf,af j]
theorem zpy(l:List Int):jT Tryz.prog 23 (.lst (l.map fun n=>[AV.int .i64 n])) none (some (.int .i64 (min (l.length:Int) 60)))=some (.lst ((l.take 60).map fun n=>[AV.int .i64 n])):=by
 have e:min (l.length:Int) 60=((min l.length 60:Nat):Int):=ac;rw[e];simp only[jT,Tryz.underlying23,ki];show(if 0<=min l.length 60/\min l.length 60<=(l.map fun n=>[AV.int .i64 n]).length then _ else none)=_;rw[am ⟨dm _,b9⟩];have U:((l.map fun n=>[AV.int .i64 n]).drop 0).take (min l.length 60-0)=(l.take 60).map fun n=>[AV.int .i64 n]:=by
  rw[fH,BR,<-List.map_take,List.take_eq_take_iff.2];omega
 rw[U];cases l.take 60 with
 |nil=>rfl
 |cons a l=>rfl
structure AtP (n0 M:Nat) (x y:Int) (H:Hp):Prop where
 lt:n0<M/\M+8<=H.next
 rs:H.get n0=some (.cells [.nilS,.nilS] 0 true)
 ra:H.get (M+1)=some (.cells [.str [97],.int .i64 x,.str [98],.int .i64 y] 0 true)
 t5:H.get (M+2)=some (.cells [.sl (M+1) 0 2 2,.sl (M+7) 0 2 9] 0 true)
 p1:H.get (M+3)=some (.cells [.str [120],.str [121]] 0 true)
 l1:H.get (M+4)=some (.cells [.str [105],.str [106]] 0 true)
 p2:H.get (M+5)=some (.cells [.str [110]] 0 true)
 l2:H.get (M+6)=some (.cells [.str [105]] 0 true)
theorem AtP.keep{Z M:Nat}{x y:Int}{H H':Hp}(h:AtP Z M x y H)(O:H.next<=H'.next)(K:∀q,(q=Z\/M+1<=q/\q<M+7)->H'.get q=H.get q):AtP Z M x y H':=by
 obtain⟨⟨V,Y⟩,rs,ra,U,j,l1,m,J⟩:=h;exact⟨⟨V,ac⟩,by rw[K _ (.inl rfl)];exact rs,by rw[K _ ac];exact ra,by rw[K _ ac];exact U,by rw[K _ ac];exact j,by rw[K _ ac];exact l1,by rw[K _ ac];exact m,by rw[K _ ac];exact J⟩
set_option maxRecDepth 100000 in
theorem zrn{lG:List En}(hG:GenL lG)(hst:JG lG)(l:List Int)(hl:l.length<2^63)(H:Hp):
 zk5 Tryz.prog (zkY pls lG) 25 [.lst (l.map fun n=>[AV.int .i64 n])] H fun v H'=>∃ra rf x y cf cg,v=.agg [.sl ra 0 2 2,.sl rf 0 2 9]/\ProgM H.next 14 H' (fE l) ra rf x y (iL (l.take 60)) (iM (l.take 60)) cf cg/\H.next<=H'.next/\(∀q,q<H.next->H'.get q=H.get q)/\H.next<ra/\∃pt pf lf bf vf pg lg bg vg,cf=gM [102] pf lf bf vf/\cg=gM [103] pg lg bg vg/\ProgL pt 14 H' ra rf x y (iL (l.take 60)) (iM (l.take 60)) pf lf bf vf pg lg bg vg/\tI (l.take 60)=[⟨[97],x⟩,⟨[98],y⟩]/\∀q,q<H.next->pt q=0:=by
 have hw:Plain (zkY pls lG) 25:=hG.plain dT;have hkeep:(zkY pls lG).keep 25=false:=rfl;have hnx:Plain (zkY pls lG) 40:=hG.plain dT;have hs:=zpy l;have hL60:(l.take 60).length<=60:=yT;have hq4:(4:Int)≠0:=aE;have hgP:fE l=⟨tI (l.take 60),[iL (l.take 60),iM (l.take 60)]⟩:=rfl;generalize fE l=P0 at *;refine zlf (M:=61) (rs:=[.cell 2 49]) (hw.call _) hw.ice hw.froz Tryz.func25 rfl rfl SM.2 rfl ?_;dsimp only[SM,zD,Nat.reduceAdd];have gh0:=@zjk;repeat' (first
  |(apply ah ?_;clear hK K)|apply Rx.o ?_|apply ak ?_|(apply zkU fun K hK=>?_)|fail)
 generalize l.take 60=L at *;have gq:((H.alloc (.cells [.nilS,.nilS] 0 true)).alloc (.cells [] 0 true)).get (H.next+1)=some (.cells [] 0 true):=rX;obtain⟨v,I,a2,⟨b,imm,rfl,gb,hb,hb2⟩,n2,o2⟩:=ztY L gq (cE _) hL60;simp only[zk9]at n2 o2 hb2;refine jv eV eV (by rw[hkeep];exact a2) ?_;have gh0:=@zjl;repeat' (first
  |(apply ah ?_;clear hK K)|apply Rx.o ?_|apply ak ?_|(apply zkU fun K hK=>?_)|fail)
 have hrd3:iZ (I.next+1) (I.alloc (.cells [.sl b 0 L.length 1,.int .i64 0] 0 true)) I.next L 0:=⟨cE _,aB _,_,gH,.inr ⟨b,0,_,imm,rfl,by rw[zkZ,af ac];exact gb,rfl,ac,ac⟩⟩
 have g3:(I.alloc (.cells [.sl b 0 L.length 1,.int .i64 0] 0 true)).get H.next=some (.cells [.nilS,.nilS] 0 true):=by rw[zkZ,af ac,o2 _ ac ac,zkZ,af cL,zkZ,am rfl]
 have o3:∀q,q<H.next->(I.alloc (.cells [.sl b 0 L.length 1,.int .i64 0] 0 true)).get q=H.get q:=fun q Y=>by rw[zkZ,af ac,o2 _ ac ac,zkZ,af cL,zkZ,af ac]
 generalize hH3:I.alloc (.cells [.sl b 0 L.length 1,.int .i64 0] 0 true)=H3 at *;have n3:H3.next=I.next+1:=by rw[<-hH3];rfl
 clear hH3 gb hb hb2 a2 gq o2;refine aZ rfl bc bi ?_;simp only[bj];refine aS ?_ (DY hnx hrd3 ac);rintro v H4 ⟨rfl,hr4,n4,o4⟩;have g4:H4.get H.next=some (.cells [.nilS,.nilS] 0 true):=by rw[o4 _ ac];exact g3
 have o4':∀q,q<H.next->H4.get q=H.get q:=fun q Y=>by rw[o4 _ ac];exact o3 q Y
 clear o4 o3 g3 hrd3;have hL1:=pr L;have hA:tI L=[⟨[97],1+zla (zlK L).1 4⟩,⟨[98],1+zla (bE ((zlK L).1.tdiv 4)) 4⟩]:=rfl;have hp1:=zmO (n:=(zlK L).1) (m:=4) ac ac;have hp2:=zmO (n:=bE ((zlK L).1.tdiv 4)) (m:=4) ac ac;have hB1:ik L=mP 0 4 0 5 ((zlK L).2,0):=rfl;have hV1:mR L=zlD 0 4 1 (ik L).2.1:=rfl;have hB2:kN L=mP 1 3 1 3 ((mR L).2,(ik L).2.2):=rfl;have hV2:wD L=zlD 1 4 1 (kN L).2.1:=rfl;have hF1:iL L=⟨[102],[[120],[121]],[[105],[106]],(ik L).1,(mR L).1⟩:=rfl;have hF2:iM L=⟨[103],[[110]],[[105]],(kN L).1,(wD L).1⟩:=rfl;have hl1:(ik L).2.1.length<=(zlK L).2.length:=by rw[hB1];exact dc (AJ (AK 0 4 0) _ _) (pr _)
 have hl2:(mR L).2.length<=(ik L).2.1.length:=zmF 0 4 1 _;have hl3:(kN L).2.1.length<=(mR L).2.length:=by rw[hB2];exact dc (AJ (AK 1 3 1) _ _) (pr _)
 generalize ik L=B1 at *;generalize mR L=V1 at *;generalize kN L=B2 at *;generalize wD L=V2 at *;generalize iL L=Ff at *;generalize iM L=Fg at *;generalize tI L=Aa at *;generalize (zlK L).1=n at *;generalize (zlK L).2=L1 at *;have hw1:IntKind.wrap .i64 (1+zla n 4)=1+zla n 4:=znj ac ac;have hw2:IntKind.wrap .i64 (1+zla (bE (n.tdiv 4)) 4)=1+zla (bE (n.tdiv 4)) 4:=znj ac ac;have hw3:IntKind.wrap .i64 (n.tdiv 4)=bE (n.tdiv 4):=rfl;dsimp only[zk6];have gh0:=@SN;have gh1:=@zjm;have gh2:=@zjn;have gh3:=@JH;have gh4:=@zjo;have gh5:=@zjp;repeat' (first
  |(apply ah ?_;clear hK K)|apply Rx.o ?_|apply bS ?_|(apply eM ?_;first|refine zlc (znn hG.pick _ _ aE _) ?_)|apply ak ?_|(apply zkU fun K hK=>?_)|(apply zmm 5 [(1,3),(1,6)] fun K hK=>?_)|(apply zlC ?_;try intro _)|apply bZ ?_|fail)
 generalize hx:1+zla n 4=x at *;generalize hy:1+zla (bE (n.tdiv 4)) 4=y at *;rename_i H4;have hne:∀i,(H.next == I.next+i)=false:=fun i=>zkV ac;have hmn:H.next<I.next:=ac
 generalize hHs:Hp.set (Hp.alloc _ _) _ _=Hs;have hat:AtP H.next I.next x y Hs:=by
  rw[<-hHs];refine⟨⟨hmn,iI⟩,?_,?_,?_,?_,?_,?_,?_⟩
  .repeat (first|rw[aJ,af mQ]|rw[zkZ,af mQ])
   exact g4
  ·(repeat (first|rw[aJ,af mQ]|rw[zkZ,af mQ]));(first|rw[aJ,am ox]|rw[zkZ,am ox])
  ·(repeat (first|rw[aJ,af (by(try simp only[]);omega)]|rw[zkZ,af mQ]));(first|rw[aJ,am ox]|rw[zkZ,am ox])
  ·(repeat (first|rw[aJ,af mQ]|rw[zkZ,af mQ]));(first|rw[aJ,am ox]|rw[zkZ,am ox])
  ·(repeat (first|rw[aJ,af mQ]|rw[zkZ,af mQ]));(first|rw[aJ,am ox]|rw[zkZ,am ox])
  ·(repeat (first|rw[aJ,af mQ]|rw[zkZ,af mQ]));(first|rw[aJ,am ox]|rw[zkZ,am ox])
  ·(repeat (first|rw[aJ,af mQ]|rw[zkZ,af mQ]));(first|rw[aJ,am ox]|rw[zkZ,am ox])
 have gf:Hs.get (I.next+7)=some (.cells [.str [102],.sl (I.next+3) 0 2 1,.sl (I.next+4) 0 2 1,.nilS,.int .i64 0,.int .i64 0,.str [],.int .i64 0,.nilS,.str [103],.sl (I.next+5) 0 1 1,.sl (I.next+6) 0 1 1,.nilS,.int .i64 0,.int .i64 0,.str [],.int .i64 0,.nilS] 0 true):=by
  rw[<-hHs];(repeat (first|rw[aJ,af mQ]|rw[zkZ,af mQ]));(first|rw[aJ,am ox]|rw[zkZ,am ox])
 have olds:∀q,q<I.next+1->Hs.get q=H4.get q:=fun q Y=>by
  rw[<-hHs];repeat (first|rw[aJ,af ac]|rw[zkZ,af mQ])
 have hns:Hs.next=I.next+8:=by rw[<-hHs];simp only[zli,zk9];omega
 have hrs:iZ (I.next+1) Hs I.next L1 0:=hr4.keep ac olds
 have os:∀q,q<H.next->Hs.get q=H.get q:=fun q Y=>by rw[olds q ac];exact o4' q Y
 clear olds hHs hr4 g4 o4';have h02:(0:Nat)<2:=aE;have h12:(1:Nat)<2:=aE;refine aZ rfl bc bi ?_;simp only[iw];refine aS ?_ (AL hG (hst 0 4 0 ac ac) 5 ac ac (I.next+1) Hs I.next (L1,0) hrs ux);rintro v1 H5 ⟨U,hr5,n5,o5⟩;rw[<-hB1]at U hr5;obtain⟨t1,t2⟩:=U.one;have hat5:=hat.keep n5 fun q Y=>o5 q ac ac;have g5t:=hat5.t5;have g5f:H5.get (I.next+7)=some (.cells [.str [102],.sl (I.next+3) 0 2 1,.sl (I.next+4) 0 2 1,.nilS,.int .i64 0,.int .i64 0,.str [],.int .i64 0,.nilS,.str [103],.sl (I.next+5) 0 1 1,.sl (I.next+6) 0 1 1,.nilS,.int .i64 0,.int .i64 0,.str [],.int .i64 0,.nilS] 0 true):=by rw[o5 _ ac ac];exact gf
 have gst:=hat.t5;dsimp only[zk6];repeat' (first
  |apply Ry.o ?_|apply dG ?_|apply ak ?_|(apply zmm 6 [(1,3),(1,6)] fun K hK=>?_)|(apply zlC ?_;try intro _)|(apply zmk ?_ ?_<;>clear hK K)|apply bZ ?_|apply zmK rfl ?_|fail)
 .exact zlU
 have n5':=n5;generalize Z:Hp.set H5 (I.next+7) _=Ha;have nHa:Ha.next=H5.next:=ti
 have oHa:∀q,q≠I.next+7->Ha.get q=H5.get q:=fun q Y=>Ez
 have gfHa:Ha.get (I.next+7)=some (.cells [.str [102],.sl (I.next+3) 0 2 1,.sl (I.next+4) 0 2 1,v1,.int .i64 0,.int .i64 0,.str [],.int .i64 0,.nilS,.str [103],.sl (I.next+5) 0 1 1,.sl (I.next+6) 0 1 1,.nilS,.int .i64 0,.int .i64 0,.str [],.int .i64 0,.nilS] 0 true):=EA;clear Z;have hatHa:=hat5.keep (kF nHa.symm) fun q Y=>oHa q ac;have gtHa:=hatHa.t5;have hrHa:=hr5.keep (kF nHa.symm) fun q Y=>oHa q ac;have hMl:=hat.lt;repeat' (first
  |(apply ah ?_;clear hK K)|fail)
 refine aZ rfl bc bi ?_;simp only[iw];refine aS ?_ (jY hG 4 0 1 ac ac (I.next+1) Ha I.next _ _ hrHa ac);rintro _ H6 ⟨⟨cs,rfl,hc1,hc2,hc3⟩,hrH6,nH6,oH6⟩;rw[<-hV1]at hc3 hrH6;obtain⟨p0,p1,p2,p3,p4,rfl⟩:=zmq hc1;obtain⟨u0,u1,u2,u3,u4⟩:=ji hc2;have hatH6:=hatHa.keep nH6 fun q Y=>oH6 q ac ac;have gtH6:=hatH6.t5;have gfH6:H6.get (I.next+7)=some (.cells [.str [102],.sl (I.next+3) 0 2 1,.sl (I.next+4) 0 2 1,v1,.int .i64 0,.int .i64 0,.str [],.int .i64 0,.nilS,.str [103],.sl (I.next+5) 0 1 1,.sl (I.next+6) 0 1 1,.nilS,.int .i64 0,.int .i64 0,.str [],.int .i64 0,.nilS] 0 true):=by rw[oH6 _ ac ac];exact gfHa
 dsimp only[zk6];repeat' (first
  |apply Ry.o ?_|apply dG ?_|apply ak ?_|(apply zmm 7 [(1,3),(1,6)] fun K hK=>?_)|(apply zlC ?_;try intro _)|(apply zmk ?_ ?_<;>clear hK K)|apply bZ ?_|apply zmK rfl ?_|fail)
 .exact zlU
 generalize Z:Hp.set H6 (I.next+7) _=Hb;have nHb:Hb.next=H6.next:=ti
 have oHb:∀q,q≠I.next+7->Hb.get q=H6.get q:=fun q Y=>Ez
 have gfHb:Hb.get (I.next+7)=some (.cells [.str [102],.sl (I.next+3) 0 2 1,.sl (I.next+4) 0 2 1,v1,p0,p1,p2,p3,p4,.str [103],.sl (I.next+5) 0 1 1,.sl (I.next+6) 0 1 1,.nilS,.int .i64 0,.int .i64 0,.str [],.int .i64 0,.nilS] 0 true):=EA;clear Z;have hatHb:=hatH6.keep (kF nHb.symm) fun q Y=>oHb q ac;have gtHb:=hatHb.t5;have hrHb:=hrH6.keep (kF nHb.symm) fun q Y=>oHb q ac;repeat' (first
  |(apply ah ?_;clear hK K)|fail)
 refine aZ rfl bc bi ?_;simp only[iw];refine aS ?_ (AL hG (hst 1 3 1 ac ac) 3 ac ac (I.next+1) Hb I.next (V1.2,B1.2.2) hrHb ux);rintro v2 H7 ⟨J,hrH7,nH7,o⟩;rw[<-hB2]at J hrH7;obtain⟨s1,s2⟩:=J.one;have hatH7:=hatHb.keep nH7 fun q Y=>o q ac ac;have gtH7:=hatH7.t5;have gfH7:H7.get (I.next+7)=some (.cells [.str [102],.sl (I.next+3) 0 2 1,.sl (I.next+4) 0 2 1,v1,p0,p1,p2,p3,p4,.str [103],.sl (I.next+5) 0 1 1,.sl (I.next+6) 0 1 1,.nilS,.int .i64 0,.int .i64 0,.str [],.int .i64 0,.nilS] 0 true):=by rw[o _ ac ac];exact gfHb
 dsimp only[zk6];repeat' (first
  |apply Ry.o ?_|apply dG ?_|apply ak ?_|(apply zmm 8 [(1,3),(1,6)] fun K hK=>?_)|(apply zlC ?_;try intro _)|(apply zmk ?_ ?_<;>clear hK K)|apply bZ ?_|apply zmK rfl ?_|fail)
 .exact zlU
 generalize Z:Hp.set H7 (I.next+7) _=Hc;have nHc:Hc.next=H7.next:=ti
 have j:∀q,q≠I.next+7->Hc.get q=H7.get q:=fun q Y=>Ez
 have gfHc:Hc.get (I.next+7)=some (.cells [.str [102],.sl (I.next+3) 0 2 1,.sl (I.next+4) 0 2 1,v1,p0,p1,p2,p3,p4,.str [103],.sl (I.next+5) 0 1 1,.sl (I.next+6) 0 1 1,v2,.int .i64 0,.int .i64 0,.str [],.int .i64 0,.nilS] 0 true):=EA;clear Z;have hatHc:=hatH7.keep (kF nHc.symm) fun q Y=>j q ac;have gtHc:=hatHc.t5;have hrHc:=hrH7.keep (kF nHc.symm) fun q Y=>j q ac;repeat' (first
  |(apply ah ?_;clear hK K)|fail)
 refine aZ rfl bc bi ?_;simp only[iw];refine aS ?_ (jY hG 4 1 1 ac ac (I.next+1) Hc I.next _ _ hrHc ac);rintro _ H8 ⟨⟨ds,rfl,hd1,hd2,hd3⟩,hrH8,nH8,C⟩;rw[<-hV2]at hd3 hrH8;obtain⟨w0,zlG,w2,w3,w4,rfl⟩:=zmq hd1;obtain⟨z0,z1,z2,z3,z4⟩:=ji hd2;have hatH8:=hatHc.keep nH8 fun q Y=>C q ac ac;have gtH8:=hatH8.t5;have gfH8:H8.get (I.next+7)=some (.cells [.str [102],.sl (I.next+3) 0 2 1,.sl (I.next+4) 0 2 1,v1,p0,p1,p2,p3,p4,.str [103],.sl (I.next+5) 0 1 1,.sl (I.next+6) 0 1 1,v2,.int .i64 0,.int .i64 0,.str [],.int .i64 0,.nilS] 0 true):=by rw[C _ ac ac];exact gfHc
 dsimp only[zk6];repeat' (first
  |apply Ry.o ?_|apply dG ?_|apply ak ?_|(apply zkU fun K hK=>?_)|(apply zlC ?_;try intro _)|(apply zmk ?_ ?_<;>clear hK K)|apply bZ ?_|apply zmK rfl ?_|fail)
 .exact zlU
 generalize Z:Hp.set H8 (I.next+7) _=Hd;have nHd:Hd.next=H8.next:=ti
 have O:∀q,q≠I.next+7->Hd.get q=H8.get q:=fun q Y=>Ez
 have gfHd:Hd.get (I.next+7)=some (.cells [.str [102],.sl (I.next+3) 0 2 1,.sl (I.next+4) 0 2 1,v1,p0,p1,p2,p3,p4,.str [103],.sl (I.next+5) 0 1 1,.sl (I.next+6) 0 1 1,v2,w0,zlG,w2,w3,w4] 0 true):=EA;clear Z;have V:=hatH8.keep (kF nHd.symm) fun q Y=>O q ac;have gtHd:=V.t5;have hrHd:=hrH8.keep (kF nHd.symm) fun q Y=>O q ac;have gr:=V.rs;have e1:(I.next+2 == H.next)=false:=zkV ac;have gh0:=@JI;repeat' (first
  |(apply ah ?_;clear hK K)|apply Rx.o ?_|apply bS ?_|apply aF ?_)
 refine⟨eI,_,(by(try simp only[zk1,zk7,Nat.reduceBEq,Nat.reduceAdd,tyF,zlX,zl1, *]);first|done|with_reducible rfl),?_⟩;try simp only[zkX]
 have old:∀q,q<H.next->((Hd.set H.next (.cells [.sl (I.next+1) 0 2 2,.sl (I.next+7) 0 2 9] 0 true)).get q=H.get q):=fun q Y=>by
  rw[aJ,af ac,O _ ac,C _ ac ac,j _ ac,o _ ac ac,oHb _ ac,oH6 _ ac ac,oHa _ ac,o5 _ ac ac];exact os q Y
 have hz:=V.keep (H':=Hd.set H.next (.cells [.sl (I.next+1) 0 2 2,.sl (I.next+7) 0 2 9] 0 true)) (aB _);refine⟨I.next+1,I.next+7,x,y,[.str [102],.sl (I.next+3) 0 2 1,.sl (I.next+4) 0 2 1,v1,p0,p1,p2,p3,p4],[.str [103],.sl (I.next+5) 0 1 1,.sl (I.next+6) 0 1 1,v2,w0,zlG,w2,w3,w4],rfl,?_,gc,old,ac,uI I.next H5.next H6.next H7.next,.sl (I.next+3) 0 2 1,.sl (I.next+4) 0 2 1,v1,[p0,p1,p2,p3,p4],.sl (I.next+5) 0 1 1,.sl (I.next+6) 0 1 1,v2,[w0,zlG,w2,w3,w4],rfl,rfl,?_,hA,fun q Y=>by unfold uI;rw[am ac]⟩;all_goals
  have z:∀q,q≠H.next->(Hd.set H.next (.cells [.sl (I.next+1) 0 2 2,.sl (I.next+7) 0 2 9] 0 true)).get q=Hd.get q:=fun q Y=>BE
  have nz:(Hd.set H.next (.cells [.sl (I.next+1) 0 2 2,.sl (I.next+7) 0 2 9] 0 true)).next=Hd.next:=rfl
  generalize (Hd.set H.next (.cells [.sl (I.next+1) 0 2 2,.sl (I.next+7) 0 2 9] 0 true))=Hz at *;have hl:=V.lt
 .refine⟨by rw[hgP,hA],by rw[z _ ac];exact V.ra,by rw[z _ ac];exact gfHd,⟨ac,ac⟩,⟨ac,ac⟩,ac,rfl,rfl,?_,?_⟩
  .rw[hF1];refine EC (n:=13) [102] rfl (ED (n:=12) (imm:=0) (tip:=true) [[120],[121]] ⟨ac,ac,ac⟩ ac (by rw[z _ ac];exact V.p1) ax) (ED (n:=12) (imm:=0) (tip:=true) [[105],[106]] ⟨ac,ac,ac⟩ ac (by rw[z _ ac];exact V.l1) ax) ?_ ?_
   .exact(U.keep (fun q _ Y=>⟨ac,ac,ac⟩) ac fun q h1 h2=>SG).rd.up ac
   .exact(hc3.up ac).keep2 (fun q _ Y=>⟨ac,ac,ac⟩) ac fun q h1 h2=>SH
  .rw[hF2];refine EC (n:=13) [103] rfl (ED (n:=12) (imm:=0) (tip:=true) [[110]] ⟨ac,ac,ac⟩ ac (by rw[z _ ac];exact V.p2) ax) (ED (n:=12) (imm:=0) (tip:=true) [[105]] ⟨ac,ac,ac⟩ ac (by rw[z _ ac];exact V.l2) ax) ?_ ?_
   .exact(J.keep (fun q _ Y=>⟨ac,ac,ac⟩) ac fun q h1 h2=>SI).rd.up ac
   .exact(hd3.up ac).keep2 (fun q _ Y=>⟨ac,ac,ac⟩) ac fun q h1 h2=>by rw[z _ ac,O _ ac]
 .have ls:=hat.lt;refine⟨by rw[z _ ac];exact V.ra,by rw[z _ ac,gfHd,hF1,hF2];rfl,ac,ac,x9,x9,⟨hc1,hc2,?_,?_,?_,?_⟩,⟨hd1,hd2,?_,?_,?_,?_⟩⟩
  .rw[hF1];exact DZ (n:=13) [[120],[121]] x9 ac (by rw[z _ ac];exact V.p1)
  .rw[hF1];exact DZ (n:=13) [[105],[106]] x9 ac (by rw[z _ ac];exact V.l1)
  .rw[hF1];exact(U.keep (fun q h1 h2=>zgq ac h1) ac fun q h1 h2=>SG).up ac
  .rw[hF1];exact(hc3.up ac).keep2 (fun q h1 h2=>zgr ac ac h1) ac fun q h1 h2=>SH
  .rw[hF2];exact DZ (n:=13) [[110]] x9 ac (by rw[z _ ac];exact V.p2)
  .rw[hF2];exact DZ (n:=13) [[105]] x9 ac (by rw[z _ ac];exact V.l2)
  .rw[hF2];exact(J.keep (fun q h1 h2=>zgs ac ac ac h1) ac fun q h1 h2=>SI).up ac
  .rw[hF2];exact(hd3.up ac).keep2 (fun q h1 h2=>zgt ac ac ac ac) ac fun q h1 h2=>by rw[z _ ac,O _ ac]
end
section
def A0:List (List UInt8):=[[97],[98]]
theorem SO(f:Int){m:Int}(h:0<=m):(zlN f).getD (m.tmod (zlN f).length).toNat []∈zlN f:=by
 have M:((zlN f).length:Int)≠0:=by unfold zlN;split<;>simp
 have:=(sc (zlN f) M h []).2;exact j7 this
theorem SP(f:Int){s:List UInt8}(h:s∈zlN f):zl8 s=true/\zlo (zlN f) s=true:=by
 unfold zlN at h⊢;split at h<;>simp only[jp]at h
 .rename_i e;rw[am e];rcases h with rfl|rfl|rfl|rfl<;>exact⟨aj,aj⟩
 .rename_i e;rw[af e];rcases h with rfl|rfl<;>exact⟨aj,aj⟩
theorem SQ(m:Int):zl8 (tD m)=true/\zlo A0 (tD m)=true:=by
 unfold tD;split<;>exact⟨aj,aj⟩
theorem zju(m:Int):zl8 (lQ m)=true:=by
 unfold lQ;split<;>kernel_rfl
structure ExOk (f:Int) (k:Nat) (x:Ex):Prop where
 wf:eO x=true
 df:d8 (zlN f) A0 x=true
 dp:zl6 x<=k
theorem uO(f:Int):∀(k Z:Nat) (L:List Int),5<=Z+k->Z<=4->ExOk f k (zlD f k Z L).1
 |0,Z,L,h1,h2=>by omega
 |k+1,Z,L,h1,h2=>by
  have ih:Z<=3->∀L,ExOk f k (zlD f k (Z+1) L).1:=fun hd L=>uO f k (Z+1) L ac ac;have I:=zmO (n:=(zlK L).1) (m:=16) ac ac;have V:=zmO (n:=bE ((zlK L).1.tdiv 16)) (m:=1000) ac ac;simp only[zlD];generalize zla (zlK L).1 16=q at I⊢;generalize zla (bE ((zlK L).1.tdiv 16)) 1000=m at V⊢;split
  .split
   .obtain⟨zlQ,o⟩:=SP f (SO f V.1);generalize (zlN f).getD (m.tmod (zlN f).length).toNat []=nm at zlQ o⊢;refine⟨?_,?_,by simp[zl6,jM]⟩
    .simp[eO,ev,mJ,Ex.kind,Ex.kids,Ex.n,Ex.op,Ex.name,zlQ]
    .simp[d8,zmD,iW,Ex.kind,Ex.name,o]
   .exact⟨by simp[eO,ev,mJ,Ex.kind,Ex.kids,Ex.op,Ex.name],by simp[d8,zmD,iW,Ex.kind,Ex.name],by simp[zl6,jM]⟩
  .rename_i C;have hd:Z<=3:=ac;have ih:=ih hd;obtain⟨M,K⟩:=SQ m;split
   .have O:=ih (zlK L).2;refine⟨?_,?_,?_⟩
    .simp[eO,ev,mJ,Ex.kind,Ex.kids,Ex.n,Ex.op,Ex.name,M,O.wf]
    .simp[d8,zmD,iW,Ex.kind,Ex.name,K,O.df]
    .have:=O.dp;simp only[zl6,jM];omega
   .split
    .have O:=ih (zlK L).2;have U:=ih (zlD f k (Z+1) (zlK L).2).2;have Y:=ih (zlD f k (Z+1) (zlD f k (Z+1) (zlK L).2).2).2;refine⟨?_,?_,?_⟩
     .simp[eO,ev,mJ,Ex.kind,Ex.kids,Ex.n,Ex.op,Ex.name,O.wf,U.wf,Y.wf]
     .simp[d8,zmD,iW,Ex.kind,Ex.name,O.df,U.df,Y.df]
     .have:=O.dp;have:=U.dp;have:=Y.dp;simp only[zl6,jM];omega
    .split
     .have O:=ih (zlK L).2;have J:x5 m=20\/x5 m=21:=by unfold x5;split<;>simp
      refine⟨?_,?_,?_⟩
      .rcases J with J|J<;>simp[eO,ev,mJ,Ex.kind,Ex.kids,Ex.n,Ex.op,Ex.name,O.wf,J]
      .simp[d8,zmD,iW,Ex.kind,Ex.name,O.df]
      .have:=O.dp;simp only[zl6,jM];omega
     .have O:=ih (zlK L).2;have U:=ih (zlD f k (Z+1) (zlK L).2).2;have j:=Ek 15 V.1;have z:=wm m (show(0:Int)<15 by omega);have J:p6 (bE (4+m.tmod 15))=true:=by
       unfold bE;rw[znj ac ac];simp only[p6,lW];omega
      refine⟨?_,?_,?_⟩
      .simp[eO,ev,mJ,Ex.kind,Ex.kids,Ex.n,Ex.op,Ex.name,O.wf,U.wf,J]
      .simp[d8,zmD,iW,Ex.kind,Ex.name,O.df,U.df]
      .have:=O.dp;have:=U.dp;simp only[zl6,jM];omega
theorem SR(f:Int):∀(n:Nat) (L:List Int),ev (iJ f n L).1=true/\zmD (zlN f) A0 (iJ f n L).1=true/\((iJ f n L).1.any fun e=>decide ((20:Int)<zl6 e))=false/\(iJ f n L).1.length=n
 |0,_=>⟨rfl,rfl,rfl,rfl⟩
 |n+1,L=>by
  obtain⟨m,j,z,Y⟩:=SR f n (zlD f 3 2 L).2;have h:=uO f 3 2 L ac ac;have hd:¬(20:Int)<zl6 (zlD f 3 2 L).1:=by have:=h.dp;omega
  refine⟨?_,?_,?_,?_⟩
  .rw[iJ,ev,h.wf,m];rfl
  .rw[iJ,zmD,h.df,j];rfl
  .rw[iJ,qT,z,iH hd];rfl
  .rw[iJ,eK,Y]
structure ScG (f:Int) (c:Sc):Prop where
 vars:c.vars=zlN f
 an:c.an=A0
 to:∀m:Int,0<=m->0<=zl2 c.p.funcs (lQ m) 0/\((2-m.tmod 2).toNat=pe c.p (lQ m))
structure StOk (c:Sc) (k:Nat) (s:zl9) (x:St) (t:zl9):Prop where
 wf:mL x=true
 df:fZ c false x=true
 ar:fZ c true x=true
 dp:nu x=false
 n:zlQ x+t.1.length<=s.1.length
 w:(zlG x:Int)+s.2=t.2
 wb:t.2<=10
 m:∀d,zlH x d<=d+k
structure StsOk (c:Sc) (k:Nat) (s:zl9) (l:List St) (t:zl9):Prop where
 wf:ft l=true
 df:zl4 c false l=true
 ar:zl4 c true l=true
 dp:zmN l=false
 n:nS l+t.1.length<=s.1.length
 w:(zl3 l:Int)+s.2=t.2
 wb:t.2<=10
 m:∀d,zmB l d<=d+k
theorem JJ{c:Sc}{k:Nat}{step:zl9->St×zl9}(h:∀s:zl9,s.1≠[]->0<=s.2->s.2<=10->StOk c k s (step s).1 (step s).2):∀(n:Nat) (s:zl9),0<=s.2->s.2<=10->StsOk c k s (iA step n s).1 (iA step n s).2
 |0,s,h0,h1=>⟨rfl,rfl,rfl,rfl,by simp[iA,nS],by simp[iA,zl3],h1,fun d=>by simp[iA,zmB]⟩
 |n+1,s,h0,h1=>by
  rw[iA];by_cases U:s.1=[]
  .rw[am U];exact⟨rfl,rfl,rfl,rfl,by simp[nS],by simp[zl3],h1,fun d=>by simp[zmB]⟩
  .rw[af U];have a:=h s U h0 h1;have V:=a.w;have b:=JJ h n (step s).2 ac a.wb;have Y:=b.w;have an:=a.n;have bn:=b.n;refine⟨?_,?_,?_,?_,?_,?_,b.wb,fun d=>?_⟩
   .simp only[ft,a.wf,b.wf];rfl
   .simp only[zl4,a.df,b.df];rfl
   .simp only[zl4,a.ar,b.ar];rfl
   .simp only[zmN,a.dp,b.dp];rfl
   .simp only[nS];omega
   .simp only[zl3];omega
   .have:=a.m d;have:=b.m d;simp only[zmB];omega
theorem zjv(f:Int):zeroE zm1=true/\d8 (zlN f) A0 zm1=true/\zl6 zm1=0:=⟨by simp[zeroE,zm1,Ex.kind,Ex.n,Ex.op,Ex.name,Ex.kids],by simp[zm1,d8,zmD,iW,Ex.kind],by simp[zm1,zl6,jM]⟩
theorem zw4{f:Int}{c:Sc}(hc:ScG f c){k:Nat}{Y:Int->zl9->List St×zl9}{s:zl9}{Z:List Int}{q m:Int}(hL:Z.length<s.1.length)(hm:0<=m)(hm1:m<1000)(h0:0<=s.2)(h1:s.2<=10)(hq:10<=q->s.2<10)(hq0:0<=q)
 (hs:8<=q->q<12->1<=k/\∀(U:Int) (s:zl9),0<=s.2->s.2<=10->StsOk c (k-1) s (Y U s).1 (Y U s).2):StOk c k s (ig Y f Z s.2 q m).1 (ig Y f Z s.2 q m).2:=by
 obtain⟨z1,z2,z3⟩:=zjv f;obtain⟨C,K⟩:=SP f (SO f hm);obtain⟨a1,a2⟩:=SQ m;have g1:=zju m;obtain⟨g2,g3⟩:=hc.to m hm;have J:=uO f 5 0 Z ac ac;have I:=uO f 3 2 Z ac ac;have j:=uO f 4 1 Z ac ac;have z:=uO f 4 1 (zlD f 3 2 Z).2 ac ac;have l50:=zmF f 5 0 Z;have l32:=zmF f 3 2 Z;have l41:=zmF f 4 1 Z;have l43:=zmF f 4 1 (zlD f 3 2 Z).2;obtain⟨r1,r2,r3,r4⟩:=SR f (2-m.tmod 2).toNat Z;have lar:=Jk f (2-m.tmod 2).toNat Z;have d50:¬(20:Int)<zl6 (zlD f 5 0 Z).1:=by have:=J.dp;omega
 have d32:¬(20:Int)<zl6 (zlD f 3 2 Z).1:=by have:=I.dp;omega
 have d41:¬(20:Int)<zl6 (zlD f 4 1 Z).1:=by have:=j.dp;omega
 have d43:¬(20:Int)<zl6 (zlD f 4 1 (zlD f 3 2 Z).2).1:=by have:=z.dp;omega
 rw[ig];generalize (zlN f).getD (m.tmod (zlN f).length).toNat []=nm at C K⊢;have hv:=hc.vars;have ha:=hc.an;by_cases c1:q<6
 .rw[am c1];refine⟨?_,?_,?_,?_,?_,?_,h1,fun d=>?_⟩
  .simp[mL,ft,jg,ev,mK,qh,St.kind,St.thn,St.els,St.name,St.to,St.n,St.at_,St.value,St.args,C,z1,J.wf]
  .simp[fZ,zl4,jQ,zmD,jP,St.kind,St.name,St.at_,St.value,St.args,hv,ha,K,z2,J.df]
  .simp[fZ,zl4,lh,St.kind]
  .simp[nu,zmN,z3,d50]
  .simp only[zlQ,nS];omega
  .simp[zlG,zl3]
  .simp[zlH,zmB]
 rw[af c1];by_cases c2:q<8
 .rw[am c2];refine⟨?_,?_,?_,?_,?_,?_,h1,fun d=>?_⟩
  .simp[mL,ft,jg,ev,mK,qh,St.kind,St.thn,St.els,St.name,St.to,St.n,St.at_,St.value,St.args,a1,I.wf,z.wf]
  .simp[fZ,zl4,jQ,zmD,jP,St.kind,St.name,St.at_,St.value,St.args,hv,ha,a2,I.df,z.df]
  .simp[fZ,zl4,lh,St.kind]
  .simp[nu,zmN,d32,d43]
  .simp only[zlQ,nS];omega
  .simp[zlG,zl3]
  .simp[zlH,zmB]
 rw[af c2];by_cases c3:q<10
 .rw[am c3];obtain⟨hk,o⟩:=hs ac ac;have V:=o 3 ((zlD f 4 1 Z).2,s.2) h0 h1;have O:=V.w;have san:=V.n;have M:=o 2 (Y 3 ((zlD f 4 1 Z).2,s.2)).2 (by simp only at O;omega) V.wb;have sbw:=M.w;have sbn:=M.n;refine⟨?_,?_,?_,?_,?_,?_,M.wb,fun d=>?_⟩
  .simp[mL,jg,ev,mK,qf,St.kind,St.name,St.to,St.n,St.at_,St.value,St.args,z1,j.wf,V.wf,M.wf]
  .simp[fZ,jQ,zmD,jP,St.kind,St.at_,St.value,St.args,hv,ha,z2,j.df,V.df,M.df]
  .simp[fZ,lh,St.kind,V.ar,M.ar]
  .simp[nu,z3,d41,V.dp,M.dp]
  .simp only[zlQ];simp only at san;omega
  .simp only[zlG];simp only at O;rw[af ac];omega
  .have:=V.m (d+1);have:=M.m (d+1);simp only[zlH];omega
 rw[af c3];by_cases c4:q<12
 .rw[am c4];obtain⟨hk,o⟩:=hs ac ac;have hlt:=hq ac;have hw:bE (s.2+1)=s.2+1:=by unfold bE;rw[znj ac ac]
  rw[hw];have V:=o 3 ((zlD f 4 1 Z).2,s.2+1) x4 x4;have O:=V.w;have san:=V.n;refine⟨?_,?_,?_,?_,?_,?_,V.wb,fun d=>?_⟩
  .simp[mL,ft,jg,ev,mK,qf,St.kind,St.els,St.name,St.to,St.n,St.at_,St.value,St.args,z1,j.wf,V.wf]
  .simp[fZ,zl4,jQ,zmD,jP,St.kind,St.at_,St.value,St.args,hv,ha,z2,j.df,V.df]
  .simp[fZ,zl4,lh,St.kind,V.ar]
  .simp[nu,zmN,z3,d41,V.dp]
  .simp only[zlQ,nS];simp only at san;omega
  .simp only[zlG,zl3];simp only at O;simp only[dB];omega
  .have:=V.m (d+1);simp only[zlH,zmB];omega
 rw[af c4];by_cases c5:q<14
 .rw[am c5];refine⟨?_,?_,?_,?_,?_,?_,h1,fun d=>?_⟩
  .simp[mL,ft,jg,ev,mK,qh,qf,St.kind,St.thn,St.els,St.name,St.to,St.n,St.at_,St.value,St.args,z1,j.wf]
  .simp[fZ,zl4,jQ,zmD,jP,St.kind,St.at_,St.value,St.args,hv,ha,z2,j.df]
  .simp[fZ,zl4,lh,St.kind]
  .simp[nu,zmN,z3,d41]
  .simp only[zlQ,nS];omega
  .simp[zlG,zl3]
  .simp[zlH,zmB]
 rw[af c5];by_cases c6:q<15
 .rw[am c6];refine⟨?_,?_,?_,?_,?_,?_,h1,fun d=>?_⟩
  .simp[mL,ft,jg,mK,qh,St.kind,St.thn,St.els,St.name,St.to,St.n,St.at_,St.value,St.args,C,z1,g1,r1]
  .simp[fZ,zl4,jQ,jP,St.kind,St.name,St.to,St.at_,St.value,St.args,hv,ha,z2,K,g2,r2]
  .have:(((iJ f (2-m.tmod 2).toNat Z).1.length:Nat):Int)=pe c.p (lQ m):=by rw[r4,g3]
   simp[fZ,zl4,lh,St.kind,St.args,St.to,this]
  .simp only[nu,zmN,z3,r3];decide
  .simp only[zlQ,nS];omega
  .simp[zlG,zl3]
  .simp[zlH,zmB]
 rw[af c6];refine⟨?_,?_,?_,?_,?_,?_,h1,fun d=>?_⟩
 .have e:m<=1000000:=by omega
  simp[mL,ft,jg,ev,mK,qh,St.kind,St.thn,St.els,St.name,St.to,St.n,St.at_,St.value,St.args,z1,hm,e]
 .simp[fZ,zl4,jQ,zmD,jP,St.kind,St.at_,St.value,St.args,hv,ha,z2]
 .simp[fZ,zl4,lh,St.kind]
 .simp[nu,zmN,z3]
 .simp only[zlQ,nS];omega
 .simp[zlG,zl3]
 .simp[zlH,zmB]
theorem zw5{L:List Int}(h:L≠[]):(zlK L).2.length<L.length:=by
 cases L with
 |nil=>exact absurd rfl h
 |cons a l=>simp[zlK]
theorem StsOk.more{c:Sc}{k:Nat}{s Z:zl9}{l:List St}{t:zl9}(h:StsOk c k Z l t)(h1:Z.1.length<=s.1.length)(h2:Z.2=s.2):StsOk c k s l t:=⟨h.wf,h.df,h.ar,h.dp,dc h.n h1,h2▸h.w,h.wb,h.m⟩
theorem SS{f:Int}{c:Sc}(z:ScG f c):∀(k Z:Nat),4<=Z+k->Z<=3->∀s:zl9,s.1≠[]->0<=s.2->s.2<=10->StOk c (k-1) s (ii f k Z s).1 (ii f k Z s).2
 |0,Z,O,h2=>by omega
 |k+1,Z,O,h2=>fun s U Y V=>by
  have M:=zmO (n:=bE ((zlK s.1).1.tdiv 16)) (m:=1000) ac ac;have J:=zmO (n:=(zlK s.1).1) (m:=16) ac ac;rw[ii,wz];refine zw4 z (zw5 U) M.1 M.2 Y V ?_ ?_ ?_
  .unfold wy;split<;>omega
  .unfold wy;split<;>omega
  .intro a b;have hd:Z<=2:=by
    unfold wy at a b;split at a<;>omega
   have e:k+1-1-1=k-1:=ac;rw[e];refine⟨ac,fun j s C K=>StsOk.more (JJ (fun s U Y O=>?_) _ ((zlK s.1).2,s.2) C K) (pr _) rfl⟩;exact SS z k (Z+1) ac ac s U Y O
theorem SU{f:Int}{c:Sc}(z:ScG f c){k deep:Nat}(h1:4<=deep+k)(h2:deep<=3)(j:Int){s:zl9}(Z:0<=s.2)(Y:s.2<=10):StsOk c (k-1) s (mP f k deep j s).1 (mP f k deep j s).2:=
 StsOk.more (JJ (fun s U V m=>SS z k deep h1 h2 s U V m) _ ((zlK s.1).2,s.2) Z Y) (pr _) rfl
theorem SV(L:List Int):zl2 [iL L,iM L] [102] 0=0/\zl2 [iL L,iM L] [103] 0=1:=⟨rfl,rfl⟩
theorem SW(f:Int)(l:List Int){F:Fu}(h:F.params++F.locals=zlN f):ScG f (gJ (fE l) F):=by
 refine⟨h,rfl,fun m V=>?_⟩;have Z:=Ek 2 V;have j:=wm m (show(0:Int)<2 by omega);show 0<=zl2 [iL (l.take 60),iM (l.take 60)] (lQ m) 0/\_;unfold lQ;by_cases e:m.tmod 2=0
 .rw[am e,e];exact⟨by rw[(SV _).1];omega,rfl⟩
 .rw[af e,show m.tmod 2=1 by omega];exact⟨by rw[(SV _).2];omega,rfl⟩
theorem zBV(l:List Int):zmw (fE l)=0:=by
 have hl:(l.take 60).length<=60:=b9;have c0:ScG 0 (gJ (fE l) (iL (l.take 60))):=SW 0 l rfl;have Y:ScG 1 (gJ (fE l) (iM (l.take 60))):=SW 1 l rfl;obtain⟨L,hL⟩:∃L,l.take 60=L:=⟨_,rfl⟩;rw[hL]at hl c0 Y;have M:StsOk (gJ (fE l) (iL L)) 3 ((zlK L).2,0) (ik L).1 (ik L).2:=SU c0 (k:=4) (deep:=0) ac ac 5 (s:=((zlK L).2,0)) ax ax;have v1:ExOk 0 4 (mR L).1:=uO 0 4 1 _ ac ac;have Z:=M.w;have C:StsOk (gJ (fE l) (iM L)) 2 ((mR L).2,(ik L).2.2) (kN L).1 (kN L).2:=SU Y (k:=3) (deep:=1) ac ac 3 (s:=((mR L).2,(ik L).2.2)) (by simp only at Z⊢;omega) M.wb;have v2:ExOk 1 4 (wD L).1:=uO 1 4 1 _ ac ac;have j:=M.n;have V:=C.n;have o:=C.w;have b1b:=M.wb;have b2b:=C.wb;simp only at j V Z o;have n0:=pr L;have zlQ:(mR L).2.length<=(ik L).2.1.length:=zmF 0 4 1 _;have p1:=zmO (n:=(zlK L).1) (m:=4) ac ac;have p2:=zmO (n:=bE ((zlK L).1.tdiv 4)) (m:=4) ac ac;have hp:fE l=⟨tI L,[iL L,iM L]⟩:=by rw[fE,hL]
 have zlH:=M.m 0;have m2:=C.m 0;have d1:=v1.dp;have d2:=v2.dp;have U:jo (fE l)=false:=by
  rw[hp];simp only[jo,tI,List.any_cons,List.any_nil,rh,ny,iL,iM,List.length_cons,List.length_nil,M.dp,C.dp,Bool.or_false,Bool.or_eq_false_iff,decide_eq_false_iff_not];refine⟨⟨⟨decide_eq_false ac,?_⟩,?_⟩,?_⟩<;>omega
 have O:hT (fE l)=true:=by
  rw[hp];have q:∀s∈([[102],[103],[120],[121],[105],[106],[110],[97],[98]]:List (List UInt8)),zl8 s=true:=by
   intro s hs;simp only[List.mem_cons,List.not_mem_nil,or_false]at hs;rcases hs with rfl|rfl|rfl|rfl|rfl|rfl|rfl|rfl|rfl<;>kernel_rfl
  simp only[hT,tI,List.all_cons,List.all_nil,kH,fnNames,iL,iM,List.cons_append,List.nil_append,M.wf,C.wf,v1.wf,v2.wf,Bool.and_true,Bool.and_eq_true];simp[q]
 have I:kI (fE l)=false:=by rw[hp];kernel_rfl
 have K:(fE l).funcs.any (iX (fE l))=false:=by
  have e:(fE l).funcs=[iL L,iM L]:=by rw[hp]
  rw[e];have zlG:d8 (gJ (fE l) (iL L)).vars (gJ (fE l) (iL L)).an (iL L).value=true:=by rw[c0.vars,c0.an];exact v1.df
  have w2:d8 (gJ (fE l) (iM L)).vars (gJ (fE l) (iM L)).an (iM L).value=true:=by rw[Y.vars,Y.an];exact v2.df
  have J:zl4 (gJ (fE l) (iL L)) false (iL L).body=true:=M.df;have z:zl4 (gJ (fE l) (iM L)) false (iM L).body=true:=C.df;simp only[List.any_cons,List.any_nil,iX,zlG,w2,J,z];rfl
 have hba:(fE l).funcs.any (kJ (fE l))=false:=by
  have e:(fE l).funcs=[iL L,iM L]:=by rw[hp]
  rw[e];have J:zl4 (gJ (fE l) (iL L)) true (iL L).body=true:=M.ar;have z:zl4 (gJ (fE l) (iM L)) true (iM L).body=true:=C.ar;simp only[List.any_cons,List.any_nil,kJ,J,z];rfl
 rw[zmw,U,O,I,K,hba];rfl
structure GenF (L:List Int):Prop where
 len:L.length<=60
 b1:∀c,ScG 0 c->ft (ik L).1=true/\zl4 c false (ik L).1=true/\zl4 c true (ik L).1=true/\zmN (ik L).1=false/\nS (ik L).1<=60/\zl3 (ik L).1<=10/\zmB (ik L).1 0<=3
 v1:ExOk 0 4 (mR L).1
 b2:∀c,ScG 1 c->ft (kN L).1=true/\zl4 c false (kN L).1=true/\zl4 c true (kN L).1=true/\zmN (kN L).1=false/\nS (kN L).1<=60/\zl3 (kN L).1<=10/\zmB (kN L).1 0<=3
 v2:ExOk 1 4 (wD L).1
 x1:1<=1+zla (zlK L).1 4/\1+zla (zlK L).1 4<=4
 x2:1<=1+zla (bE ((zlK L).1.tdiv 4)) 4/\1+zla (bE ((zlK L).1.tdiv 4)) 4<=4
def A1(x y:Int):List Ar:=[⟨[97],x⟩,⟨[98],y⟩]
def sk(x y:Int)(F G:Fu):Pr:=⟨A1 x y,[F,G]⟩
section
variable {L:List Int} (h:GenF L)
include h
end
section
variable {L:List Int} (h:GenF L) {x y:Int} (hx:1 <= x /\ x <= 4) (hy:1 <= y /\ y <= 4)
include h hx hy
end
theorem SX(f:Int)(i:Nat):((zlN f).getD i []).length<=1:=by
 have h:∀s∈zlN f,s.length<=1:=by
  intro s U;unfold zlN at U;split at U<;>simp only[jp]at U
  .rcases U with rfl|rfl|rfl|rfl<;>simp
  .rcases U with rfl|rfl<;>simp
 rw[dx];cases e:(zlN f)[i]? with
 |none=>simp
 |some s=>exact h s (j7 e)
theorem SY(m:Int):(tD m).length=1:=by unfold tD;split<;>rfl
theorem zjz(m:Int):(lQ m).length=1:=by unfold lQ;split<;>rfl
def znW:Nat->Nat
 |0=>2
 |k+1=>5+3*znW k
theorem uQ(f:Int):∀(k Z:Nat) (L:List Int),(zlD f k Z L).1.sz<=znW k
 |0,Z,L=>by simp[zlD,Ex.sz,zlZ,znW]
 |k+1,Z,L=>by
  have ih:=uQ f k (Z+1);simp only[zlD,znW];generalize zla (zlK L).1 16=q;generalize zla (bE ((zlK L).1.tdiv 16)) 1000=m;split
  .split
   .have:=SX f (m.tmod (zlN f).length).toNat;simp only[Ex.sz,zlZ];omega
   .simp only[Ex.sz,zlZ,eW];omega
  .split
   .have:=SY m;have:=ih (zlK L).2;simp only[Ex.sz,zlZ];omega
   .split
    .have:=ih (zlK L).2;have:=ih (zlD f k (Z+1) (zlK L).2).2;have:=ih (zlD f k (Z+1) (zlD f k (Z+1) (zlK L).2).2).2;simp only[Ex.sz,zlZ,eW];omega
    .split
     .have:=ih (zlK L).2;simp only[Ex.sz,zlZ,eW];omega
     .have:=ih (zlK L).2;have:=ih (zlD f k (Z+1) (zlK L).2).2;simp only[Ex.sz,zlZ,eW];omega
theorem SZ(f:Int):∀(n:Nat) (L:List Int),zlZ (iJ f n L).1<=200*n
 |0,_=>by simp[iJ,zlZ]
 |n+1,L=>by
  have:=SZ f n (zlD f 3 2 L).2;have:=uQ f 3 2 L;have:znW 3<=150:=aE;rw[iJ,zlZ];omega
theorem zw7{Z:Int->zl9->List St×zl9}(U:∀j s,zld (Z j s).1<=10000*nS (Z j s).1)(f:Int)(Y:List Int)(c q m:Int):(ig Z f Y c q m).1.sz+1<=10000*zlQ (ig Z f Y c q m).1:=by
 have J:znW 5<=1200:=aE;have I:znW 4<=1200:=aE;have e3:znW 3<=1200:=aE;have V:=uQ f 5 0 Y;have o:=uQ f 3 2 Y;have O:=uQ f 4 1 Y;have M:=uQ f 4 1 (zlD f 3 2 Y).2;have z:zm1.sz=1:=rfl;have C:=SX f (m.tmod (zlN f).length).toNat;have a1:=SY m;have g1:=zjz m;have r:=SZ f (2-m.tmod 2).toNat Y;have r2:(2-m.tmod 2).toNat<=4:=by
  have:-2<m.tmod 2:=by
   have:=wm (-m) (show(0:Int)<2 by omega);rw[Int.neg_tmod]at this;omega
  omega
 rw[ig];split
 .simp only[St.sz,zlQ,nS,zlZ,zld,eW];omega
 split
 .simp only[St.sz,zlQ,nS,zlZ,zld,eW];omega
 split
 .have K:=U 3 ((zlD f 4 1 Y).2,c);have s2:=U 2 (Z 3 ((zlD f 4 1 Y).2,c)).2;simp only[St.sz,zlQ,zlZ,eW];omega
 split
 .have K:=U 3 ((zlD f 4 1 Y).2,bE (c+1));simp only[St.sz,zlQ,nS,zlZ,zld,eW];omega
 split
 .simp only[St.sz,zlQ,nS,zlZ,zld,eW];omega
 split
 .simp only[St.sz,zlQ,nS,zld];omega
 .simp only[St.sz,zlQ,nS,zlZ,zld,eW];omega
theorem JK{step:zl9->St×zl9}(h:∀s,(step s).1.sz+1<=10000*zlQ (step s).1):∀(n:Nat) (s:zl9),zld (iA step n s).1<=10000*nS (iA step n s).1
 |0,s=>by simp[iA,zld,nS]
 |n+1,s=>by
  rw[iA];split
  .simp[zld,nS]
  .have:=h s;have:=JK h n (step s).2;simp only[zld,nS];omega
theorem S0(f:Int):∀(k m:Nat) (s:zl9),(ii f k m s).1.sz+1<=10000*zlQ (ii f k m s).1
 |0,m,s=>by
  have z:zm1.sz=1:=rfl;simp only[ii,St.sz,zlQ,nS,zlZ,zld,eW];omega
 |k+1,m,s=>by
  rw[ii,wz];exact zw7 (fun j s=>JK (S0 f k (m+1)) _ _) f _ _ _ _
theorem S1(f:Int)(k deep:Nat)(j:Int)(s:zl9):zld (mP f k deep j s).1<=10000*nS (mP f k deep j s).1:=JK (S0 f k deep) _ _
theorem zw8(l:List Int):(fE l).sz<2^24:=by
 have C:jo (fE l)=false:=by
  have h:=zBV l;rw[zmw]at h;cases e:jo (fE l)with
  |false=>rfl
  |true=>rw[am e]at h;omega
 have M:=S1 0 4 0 5 ((zlK (l.take 60)).2,0);have Z:=S1 1 3 1 3 ((mR (l.take 60)).2,(ik (l.take 60)).2.2);have v1:(mR (l.take 60)).1.sz<=znW 4:=uQ 0 4 1 _;have v2:(wD (l.take 60)).1.sz<=znW 4:=uQ 1 4 1 _;have U:znW 4<=1200:=aE;rw[fE]at C⊢;generalize l.take 60=L at *;change zld (ik L).1<=10000*nS (ik L).1 at M;change zld (kN L).1<=10000*nS (kN L).1 at Z;simp only[jo,qT,xq,iu,i9,ny,iL,iM,lJ]at C;obtain⟨_,m,j⟩:=C;have zlQ:¬(200:Int)<nS (ik L).1:=m.1.1.1.1.2;have o:¬(200:Int)<nS (kN L).1:=j.1.1.1.1.2;simp only[Pr.sz,zmL,zmv,tI,iL,iM,Fu.sz,zmd,mU];omega
theorem FnL.clen{O:Nat->Nat}{b n:Nat}{H:Hp}{f:Fu}{p l j:AV}{v:List AV}(h:FnL O b n H f p l j v)(nm:List UInt8):(gM nm p l j v).length=9:=by
 show([_,_,_,_]++v).length=9;rw[fj,h.len];rfl
theorem zBW{P:Program}{t e:TypeId}{z b:Nat}{O:List AV}(j:P.underlying t=some (.slice e))(Y:zlq P e=some z)(C:zmg P e=some b)(J:zlV P e=some O)(V:O.length=z)(M:znh P t=true)
 {H:Hp}{q m k:Nat}{cs row:List AV}{v:AV} (K:H.get q=some (.cells cs 0 true)) (hl:cs.length=m*z) (hx:zmM H z v=some (k+1,row)) (U:row.all AV.one=true) (Z:(m+(k+1))*b<=zmr) (I:m+(k+1)<=zmr) :
 zmc P false H t t (.sl q 0 m z) v=some (.sl H.next 0 (m+(k+1)) z,(H.kill q).alloc (.cells (cs++row) 0 true)):=by
 have o:iC false H z (.sl q 0 m z)=H:=by
  unfold iC;simp only[K,bL];have:Nat.blt (m*z) cs.length=false:=by
   cases C:Nat.blt (m*z) cs.length with
   |false=>rfl
   |true=>rw[jH]at C;omega
  simp only[ir,fq,this,gy]
 simp only[zmc,j,Y,C,J,M,hx,U,o,V,oM,dB,znM,K,bL,fH,dE,dL];rw[am ⟨Z,I,ac,trivial,ac⟩]
theorem wE:∀a b:List St,zld (a++b)=zld a+zld b
 |[],b=>by rw[ly,zld];omega
 |x::a,b=>by rw[lI,zld,zld,wE a b];omega
theorem zmf.at{S:Nat->Prop}{n z:Nat}{H:Hp}{v:AV}{ws:List (List AV)}(h:zmf S n H z v ws){k o m Z:Nat}(e:v=.sl k o m Z):S k/\k<H.next:=by
 rcases h with⟨rfl,_⟩|⟨q,Y,V,rfl,U,j,_⟩
 .cases e
 .simp only[AV.sl.injEq]at e;obtain⟨rfl,_⟩:=e;exact⟨U,j⟩
theorem A2{P:Program}{t e:TypeId}{z b:Nat}{zz:List AV}(ht:P.underlying t=some (.slice e))(hs:zlq P e=some z)(hb:zmg P e=some b)(hz:zlV P e=some zz)(hzz:zz.length=z)(C:znh P t=true)
 {O:Nat->Nat}{L n:Nat}{H Hb:Hp}{v:AV}{ws:List (List AV)} (h:zmf (fun q=>O q=L) n H z v ws) (hn:H.next<=Hb.next) (hk:∀q,q<H.next->O q=L->Hb.get q=H.get q) {r imm:Nat}{row:List AV} (hg:Hb.get r=some (.cells row imm true)) (hrow:row.length=z) (hone:row.all AV.one=true)
 (hb1:(ws.length+1)*b<=zmr) (hb2:ws.length+1<=zmr) :
 ∃H' U Z,zmc P false Hb t t v (.sl r 0 1 z)=some (.sl Hb.next 0 (ws.length+1) z,H')/\U.length=ws.length*z/\Z<=ws.length*z/\H'.get Hb.next=some (.cells (U++row) Z true)/\H'.next=Hb.next+1/\(∀q,q<Hb.next->(H.next<=q\/O q≠L)->H'.get q=Hb.get q) /\
  ∀(M:Hp) (rf:Nat) (Y w:List AV),Hb.next<M.next->(∀q,q≠rf->q<Hb.next->M.get q=H'.get q)->O rf≠L->rf<H.next->M.get Hb.next=some (.cells (U++Y) Z true)->Y.length=z->zlJ (fun q=>H.next<=q/\q<Hb.next) n Hb Y w ->
   zmf (fun q=>(if H.next<=q then L else O q)=L) n M z (.sl Hb.next 0 (ws.length+1) z) (ws++[w]):=by
 have h':zmf (fun q=>q<H.next/\O q=L) n Hb z v ws:=h.keep (fun k J j=>⟨J,j⟩) hn fun k J j=>hk k j J;obtain⟨H',V,Z,a1,a2,a3,a4,a5,a6,a7,a8⟩:=P1 ht hs hb hz hzz C (S':=fun q=>(if H.next<=q then L else O q)=L) h' (fun k _ hS=>by show(if _ then _ else _)=L;rw[af ac];exact hS.2) (by show(if _ then _ else _)=L;rw[am hn]) hg hrow hone hb1 hb2;have fr:∀q,q<Hb.next->(H.next<=q\/O q≠L)->H'.get q=Hb.get q:=fun q J j=>a7 q J fun o m z' e=>by
  have h3:=(h'.at e).1;rcases j with j|j
  .omega
  .exact j h3.2
 have hfl:V.flatten.length=ws.length*z:=by rw[vN a3,a2]
 refine⟨H',V.flatten,Z,a1,hfl,by rw[<-hfl];exact a5,a4,a6,fr,fun M rf Y w J j h3 h4 h5 h6 hw=>?_⟩;have ne:∀k,(if H.next<=k then L else O k)=L->k≠rf:=fun k K e=>by
  subst e;rw[af ac]at K;exact h3 K
 refine zmf.of (S:=fun q=>(if H.next<=q then L else O q)=L) (am hn) J a3 h6 h5 a5 (a8.keep2 (fun k _ I=>I) ac fun k K I=>j k (ne k K.1) (by have:=K.2;omega)) ?_;exact hw.keep2 (fun k K I=>⟨am I.1,ac⟩) ac fun k K I=>by rw[j k ac I,fr k I (.inl K.1)]
def qt(i:Nat)(a b:List AV):List AV:=match i with
 |0=>a++b
 |_+1=>b++a
def il(i:Nat)(x y:Int)(f g:Fu):Pr:=match i with
 |0=>sk x y f g
 |_+1=>sk x y g f
theorem FnL.mv{O pt':Nat->Nat}{b n n':Nat}{H H':Hp}{f:Fu}{p l Z:AV}{v:List AV}(h:FnL O b n H f p l Z v)(z:n<=n')(hS:∀q,q<H.next->b<=O q->O q<b+4->pt' q=O q)(J:H.next<=H'.next)(K:∀q,q<H.next->b<=O q->O q<b+4->H'.get q=H.get q):FnL pt' b n' H' f p l Z v:=
 ⟨h.len,h.one,(h.ps.keep (fun k m j=>EB) J fun k m j=>K k j ac ac).up z,
  (h.ls.keep (fun k m j=>EB) J fun k m j=>K k j ac ac).up z,
  (h.bo.keep (fun k m j=>EB) J fun k m j=>K k j ac ac).up z,
  (h.vw.keep2 (fun k m j=>EB) J fun k m j=>K k j ac ac).up z⟩
structure ProgX (i:Nat) (pt:Nat->Nat) (lo b b' n:Nat) (H:Hp) (ra rf:Nat) (x y:Int) (f g:Fu) (pf lf bf:AV) (vf:List AV) (pg lg bg:AV) (vg:List AV):Prop where
 hb:3<=b/\3<=b'/\(b+4<=b'\/b'+4<=b)
 hlo:lo<=H.next
 lab:∀q,q<lo->pt q=0
 ga:H.get ra=some (.cells [.str [97],.int .i64 x,.str [98],.int .i64 y] 0 true)
 gf:H.get rf=some (.cells (qt i (gM f.name pf lf bf vf) (gM g.name pg lg bg vg)) 0 true)
 ltA:ra<H.next
 ltF:rf<H.next
 lra:pt ra=1
 lrf:pt rf=2
 F:FnL pt b n H f pf lf bf vf
 G:FnL pt b' n H g pg lg bg vg
theorem ProgL.toX{O:Nat->Nat}{lo n:Nat}{H:Hp}{C I:Nat}{x y:Int}{f g:Fu}{J Z bf:AV}{M:List AV}{Y U V:AV}{z:List AV}(h:ProgL O n H C I x y f g J Z bf M Y U V z)(K:lo<=H.next)(o:∀q,q<lo->O q=0):
 ProgX 0 O lo 3 7 n H C I x y f g J Z bf M Y U V z/\ProgX 1 O lo 7 3 n H C I x y g f Y U V z J Z bf M:=
 ⟨⟨ac,K,o,h.ga,h.gf,h.ltA,h.ltF,h.lra,h.lrf,h.F,h.G⟩,⟨ac,K,o,h.ga,h.gf,h.ltA,h.ltF,h.lra,h.lrf,h.G,h.F⟩⟩
section
variable {i:Nat} {pt:Nat -> Nat} {lo b b' n:Nat} {H:Hp} {ra rf:Nat} {x y:Int} {f g:Fu} {pf lf bf:AV} {vf:List AV} {pg lg bg:AV} {vg:List AV} (h:ProgX i pt lo b b' n H ra rf x y f g pf lf bf vf pg lg bg vg)
include h
theorem ProgX.lo_of{q:Nat}(h1:pt q≠0):lo<=q:=by
 by_cases j:q<lo
 .exact absurd (h.lab q j) h1
 .omega
theorem ProgX.ne:ra≠rf:=fun e=>by
 have m:=h.lra;have j:=h.lrf;rw[e]at m;omega
theorem ProgX.upd{H':Hp}{L n':Nat}{f':Fu}{j J bf':AV}{vf':List AV}(I:b<=L/\L<b+4)(Z:H.next<=H'.next)(z:n<=n')(o:∀q,lo<=q->q<H.next->q≠rf->pt q≠L->H'.get q=H.get q)(V:H'.get rf=some (.cells (qt i (gM f'.name j J bf' vf') (gM g.name pg lg bg vg)) 0 true))
 (F:FnL (fun q=>if H.next<=q then L else pt q) b n' H' f' j J bf' vf'):ProgX i (fun q=>if H.next<=q then L else pt q) lo b b' n' H' ra rf x y f' g j J bf' vf' pg lg bg vg:=by
 obtain⟨C,b2,b3⟩:=h.hb;have m:=h.ltA;have h2:=h.ltF;have h3:=h.hlo;have K:=h.lra;have lf:=h.lrf;refine⟨h.hb,ac,fun q U=>SJ,?_,V,ac,ac,by show(if _ then _ else _)=1;rw[af ac];exact K,SK,F,?_⟩
 .rw[o ra (h.lo_of ac) m h.ne ac];exact h.ga
 .exact h.G.mv z (fun q Y _ _=>af ac) Z fun q Y O M=>o q (h.lo_of ac) Y (fun e=>by rw[e]at O M;omega) ac
theorem ProgX.setP{H':Hp}{n':Nat}{Z:AV}(ps:List (List UInt8))(J:H.next<=H'.next)(z:n<=n')(o:∀q,lo<=q->q<H.next->q≠rf->pt q≠b->H'.get q=H.get q)(Y:H'.get rf=some (.cells (qt i (gM f.name Z lf bf vf) (gM g.name pg lg bg vg)) 0 true))
 (hr:zmf (fun q=>(if H.next<=q then b else pt q)=b) n' H' 1 Z (ps.map fun s=>[AV.str s])):ProgX i (fun q=>if H.next<=q then b else pt q) lo b b' n' H' ra rf x y {f with params:=ps} g Z lf bf vf pg lg bg vg:=by
 have U:=h.hb;have O:=h.lrf;have C:∀q,q<H.next->b<=pt q->pt q≠b->H'.get q=H.get q:=fun q m j V=>o q (h.lo_of ac) m (fun e=>mr) V
 refine h.upd ⟨ac,ac⟩ J z o Y ⟨h.F.len,h.F.one,hr,(h.F.ls.keep (fun k m j=>JC) J fun k m j=>C k j ac ac).up z,(h.F.bo.keep (fun k m j=>JD) J fun k m j=>C k j ac ac).up z,(h.F.vw.keep2 (fun k m j=>JE) J fun k m j=>C k j ac ac).up z⟩
theorem ProgX.setL{H':Hp}{n':Nat}{J:AV}(o:List (List UInt8))(Z:H.next<=H'.next)(z:n<=n')(Y:∀q,lo<=q->q<H.next->q≠rf->pt q≠b+1->H'.get q=H.get q)(V:H'.get rf=some (.cells (qt i (gM f.name pf J bf vf) (gM g.name pg lg bg vg)) 0 true))
 (hr:zmf (fun q=>(if H.next<=q then b+1 else pt q)=b+1) n' H' 1 J (o.map fun s=>[AV.str s])):ProgX i (fun q=>if H.next<=q then b+1 else pt q) lo b b' n' H' ra rf x y {f with locals:=o} g pf J bf vf pg lg bg vg:=by
 have O:=h.hb;have M:=h.lrf;have C:∀q,q<H.next->b<=pt q->pt q≠b+1->H'.get q=H.get q:=fun q m j U=>Y q (h.lo_of ac) m (fun e=>mr) U
 refine h.upd ⟨ac,ac⟩ Z z Y V ⟨h.F.len,h.F.one,(h.F.ps.keep (fun k m j=>JF) Z fun k m j=>C k j ac ac).up z,hr,(h.F.bo.keep (fun k m j=>JD) Z fun k m j=>C k j ac ac).up z,(h.F.vw.keep2 (fun k m j=>JE) Z fun k m j=>C k j ac ac).up z⟩
theorem ProgX.setB{H':Hp}{n':Nat}{bf':AV}(bs:List St)(J:H.next<=H'.next)(z:n<=n')(o:∀q,lo<=q->q<H.next->q≠rf->pt q≠b+2->H'.get q=H.get q)(Z:H'.get rf=some (.cells (qt i (gM f.name pf lf bf' vf) (gM g.name pg lg bg vg)) 0 true))
 (hr:zmf (fun q=>(if H.next<=q then b+2 else pt q)=b+2) n' H' 17 bf' (bs.map St.cells)):ProgX i (fun q=>if H.next<=q then b+2 else pt q) lo b b' n' H' ra rf x y {f with body:=bs} g pf lf bf' vf pg lg bg vg:=by
 have V:=h.hb;have U:=h.lrf;have C:∀q,q<H.next->b<=pt q->pt q≠b+2->H'.get q=H.get q:=fun q m j Y=>o q (h.lo_of ac) m (fun e=>mr) Y
 refine h.upd ⟨ac,ac⟩ J z o Z ⟨h.F.len,h.F.one,(h.F.ps.keep (fun k m j=>JF) J fun k m j=>C k j ac ac).up z,(h.F.ls.keep (fun k m j=>JC) J fun k m j=>C k j ac ac).up z,hr,(h.F.vw.keep2 (fun k m j=>JE) J fun k m j=>C k j ac ac).up z⟩
theorem ProgX.setA{H':Hp}{x' y':Int}{nf:List UInt8}(J:H.next<=H'.next)(o:∀q,lo<=q->q<H.next->q≠ra->q≠rf->H'.get q=H.get q)(V:H'.get ra=some (.cells [.str [97],.int .i64 x',.str [98],.int .i64 y'] 0 true))(Z:H'.get rf=some (.cells (qt i (gM nf pf lf bf vf) (gM g.name pg lg bg vg)) 0 true)):
 ProgX i pt lo b b' n H' ra rf x' y' {f with name:=nf} g pf lf bf vf pg lg bg vg:=by
 have O:=h.lra;have U:=h.lrf;have C:=h.hb;have m:=h.ltA;have j:=h.ltF;have z:=h.hlo;have Y:=h.F.mv (pt':=pt) (H':=H') (aB n) (fun _ _ _ _=>rfl) J fun q m j z=>o q (h.lo_of ac) m (fun e=>mr) (fun e=>mr);have hG:=h.G.mv (pt':=pt) (H':=H') (aB n) (fun _ _ _ _=>rfl) J fun q m j z=>o q (h.lo_of ac) m (fun e=>mr) (fun e=>mr);exact⟨h.hb,ac,h.lab,V,Z,ac,ac,O,U,⟨Y.len,Y.one,Y.ps,Y.ls,Y.bo,Y.vw⟩,hG⟩
omit h in
theorem FnL.row{O:Nat->Nat}{b n:Nat}{H:Hp}{f:Fu}{p l Z:AV}{v:List AV}(h:FnL O b n H f p l Z v){S:Nat->Prop}(hS:∀q,q<H.next->b<=O q->O q<b+4->S q):zlJ S (n+1) H (gM f.name p l Z v) f.cells:=
 EC f.name rfl (h.ps.rd.keep2 (fun k m j=>hS k m ac ac) (aB _) fun _ _ _=>rfl) (h.ls.rd.keep2 (fun k m j=>hS k m ac ac) (aB _) fun _ _ _=>rfl) (h.bo.rd.keep2 (fun k m j=>hS k m ac ac) (aB _) fun _ _ _=>rfl) ((h.vw.up (dQ _)).keep2 (fun k m j=>hS k m ac ac) (aB _) fun _ _ _=>rfl)
end
theorem S8(E:aw):zk4 E (.const (.agg #[.int .i64 0,.string ⟨#[]⟩,.string ⟨#[]⟩,.int .i64 0,.int .i64 0,.int .i64 0,.string ⟨#[]⟩,.int .i64 0,.slice none 0 0,.int .i64 0,.int .i64 0,.string ⟨#[]⟩,.int .i64 0,.slice none 0 0,.slice none 0 0,.slice none 0 0,.slice none 0 0]))=some (.agg [.int .i64 0,.str [],.str [],.int .i64 0,.int .i64 0,.int .i64 0,.str [],.int .i64 0,.nilS,.int .i64 0,.int .i64 0,.str [],.int .i64 0,.nilS,.nilS,.nilS,.nilS]):=aj
theorem zjD(H:Hp)(a b c d e:AV):zmb Tryz.prog H 61 1 [(0,.agg [a,b,c,d,e])]=some (.sl H.next 0 1 5,H.alloc (.cells [a,b,c,d,e] 0 true)):=aj
theorem bNx(q:Nat)(o:Int):zma Tryz.prog 63 [(0,.int .i64 4),(3,.int .i64 o),(4,.sl q 0 1 5)]=some (.agg [.int .i64 4,.int .i64 0,.str [],.int .i64 o,.sl q 0 1 5]):=aj
theorem zmI{H:Hp}{b:HB}{q:Nat}(h:q<H.next):(H.alloc b).get q=H.get q:=gk
end
end Go.Proofs.YtpbcimfiofmoeaaGreat
