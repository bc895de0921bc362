/- Parts: G3, G4, G5p, LoL, QaB, QaC, QaD. -/
import Derived.Test.YtpbcimfiofmoeaaGreatRCN
set_option linter.unusedSimpArgs false
set_option linter.unusedVariables false
set_option linter.unusedSectionVars false
set_option linter.defProp false
set_option maxHeartbeats 32000000
namespace Go.Ab
set_option maxRecDepth 20000
open Go
theorem BI{P:Prop}(h:P:=by simp only[List.length_map,zfw];omega):P:=h
theorem FN{P:Prop}(h:P:=by have:=(hvq q o m z' e).1;omega):P:=h
theorem MJ{P:Prop}(h:P:=by rw[o4 _ ac ac,zd1,if_neg ac];exact g2):P:=h
theorem FO{P:Prop}(h:P:=by rw[o4 _ ac ac,zd1,if_pos ac]):P:=h
theorem BJ{P:Prop}(h:P:=by rw[Hp.get_set,if_neg ac,zd1,if_pos rfl];simp):P:=h
def BK:=@Int.tmod_nonneg
def rE:=@List.drop_eq_nil_of_le
end Go.Ab
namespace Go.Proofs.YtpbcimfiofmoeaaGreat
set_option maxRecDepth 20000
open Go Go.Ab
section
def tyG3.tyF:=ad @eI (ad @dC (ad @eU (ad @en (ad @iy (ad @gg (ad @fW (ad @yh (ad @oT (@rZ)))))))))
open tyG3
noncomputable def MK:{c:SC // aS 115 (Tryz.f49.body.getD .skip)=c}:=by
 refine⟨?_,?_⟩;rotate_left
 .simp only[Tryz.f49,cj,aS,zen,zel,zeu,zev,Nat.blt,Nat.ble];rfl
noncomputable def BL:List En:=[lN,yg,Bc]
def BM(f:FuncId):Bool:=Nat.beq f 40||Nat.beq f 49||Nat.beq f 48||Nat.beq f 84||Nat.beq f 25
structure GenL (l:List En):Prop where
 pick:∀ar,zeN l 12 ar=lN.sp ar
 word:∀ar,zeN l 37 ar=yg.sp ar
 nms:∀ar,zeN l 85 ar=Bc.sp ar
 pl:∀f,BM f=true->(∀ar,zeN l f ar=none)/\jx l f=false
theorem GenL.plain{l:List En}(h:GenL l){f:FuncId}(hf:BM f=true):Plain (zdW pls l) f:=zfv (h.pl f hf).1 (h.pl f hf).2
theorem zmP{f:FuncId}(h:BM f=true):f=40\/f=49\/f=48\/f=84\/f=25:=by
 simp only[BM,pT]at h;rcases h with(((h|h)|h)|h)|h<;>have e:=iV h<;>subst e<;>simp
theorem ML:GenL BL:=⟨fun _=>rfl,fun _=>rfl,fun _=>rfl,fun f hf=>by rcases zmP hf with rfl|rfl|rfl|rfl|rfl<;>exact⟨fun _=>rfl,rfl⟩⟩
theorem zxp(ρ:Nat->Int):fH Tryz.prog ρ BL:=⟨vV ρ,Lm ρ,ZV ρ,trivial⟩
def wo(m:Int):Int:=if m.tmod 2=0 then 20 else 21
def rF(m:Int):List UInt8:=if m.tmod 2=0 then [97]else [98]
def zeh(f:Int):Nat->Nat->List Int->Ex×List Int
 |0,_,L=>(.mk 0 0 [] 0 [],L)
 |k+1,deep,L=>
  let n:=(zes L).1
  let L1:=(zes L).2
  let q:=zei n 16
  let m:=zei (cq (n.tdiv 16)) 1000
  if q<4\/(3:Int)<deep then
   if q.tmod 2=0\/((3:Int)<deep/\8<q)then (.mk 2 0 ((zeD f).getD (m.tmod (zeD f).length).toNat []) 0 [],L1)
   else (.mk 1 (mY m n) [] 0 [],L1)
  else if q<6 then (.mk 3 0 (rF m) 0 [(zeh f k (deep+1) L1).1],(zeh f k (deep+1) L1).2)
  else if q<7 then
   let a:=zeh f k (deep+1) L1
   let b:=zeh f k (deep+1) a.2
   let c:=zeh f k (deep+1) b.2
   (.mk 5 0 [] 0 [a.1,b.1,c.1],c.2)
  else if q<9 then (.mk 4 0 [] (wo m) [(zeh f k (deep+1) L1).1],(zeh f k (deep+1) L1).2)
  else
   let a:=zeh f k (deep+1) L1
   let b:=zeh f k (deep+1) a.2
   (.mk 4 0 [] (cq (4+m.tmod 15)) [a.1,b.1],b.2)
theorem zgi(L:List Int):(zes L).2.length<=L.length:=by cases L<;>simp[zes]
theorem zfr(f:Int):∀(k deep:Nat) (L:List Int),(zeh f k deep L).2.length<=L.length
 |0,_,_=>aM _
 |k+1,deep,L=>by
  have h:=zgi L;have ih:=fun L=>zfr f k (deep+1) L;simp only[zeh];split
  .split<;>exact h
  .split
   .exact dr (ih _) h
   .split
    .exact dr (ih _) (dr (ih _) (dr (ih _) h))
    .split
     .exact dr (ih _) h
     .exact dr (ih _) (dr (ih _) h)
def yA(z n lo:Nat)(H:Hp)(r:Nat)(ws:List AV)(L:List Int)(c:Int)(v:AV)(H':Hp):Prop:=
 (∃cs,v=.agg cs/\cs.length=z/\cs.all AV.one=true/\zeA (fun q=>H.next<=q) n H' cs ws)/\fZ lo H' r L c/\H.next<=H'.next/\∀q,q<H.next->q≠r->H'.get q=H.get q
theorem qp{α:Type}(l:List α)(hl:(l.length:Int)≠0){m:Int}(hm:0<=m)(d:α):0<=m.tmod l.length/\l[(m.tmod l.length).toNat]?=some (l.getD (m.tmod l.length).toNat d):=by
 have h1:=BK (l.length:Int) hm;have h2:=uj m (b:=(l.length:Int)) ac;refine⟨h1,?_⟩;generalize m.tmod l.length=t at *;rw[dM,br ac];rfl
theorem BN{m:Int}(h:0<=m):0<=m.tmod 2/\m.tmod 2<2:=⟨BK _ h,uj _ ac⟩
theorem rG{m:Int}(h:0<=m)(r:Nat):zeE Tryz.prog 59 (.sl r 0 2 1) (.int .i64 (m.tmod 2))=some (.ptr r (m.tmod 2).toNat):=by
 obtain⟨h1,h2⟩:=BN h;rw[ID _ _ _ _ h1,qc (by omega:(m.tmod 2).toNat<2)];simp
theorem zbu{m:Int}(h:0<=m)(r:Nat):zeE Tryz.prog 23 (.sl r 0 2 1) (.int .i64 (m.tmod 2))=some (.ptr r (m.tmod 2).toNat):=by
 obtain⟨h1,h2⟩:=BN h;rw[Iw _ _ _ _ h1,qc (by omega:(m.tmod 2).toNat<2)];simp
theorem FP{α:Type}{m:Int}(h:0<=m)(a b:α):[a,b][(m.tmod 2).toNat]?=some (if m.tmod 2=0 then a else b):=by
 obtain⟨h1,h2⟩:=BN h;rcases(by omega:m.tmod 2=0\/m.tmod 2=1)with e|e<;>rw[e]<;>rfl
theorem rH{m:Int}(h:0<=m):[AV.str [97],AV.str [98]][(m.tmod 2).toNat]?=some (.str (rF m)):=by
 rw[FP h,rF];split<;>rfl
theorem zbv{m:Int}(h:0<=m):[AV.int .i64 20,AV.int .i64 21][(m.tmod 2).toNat]?=some (.int .i64 (wo m)):=by
 rw[FP h,wo];split<;>rfl
theorem bx2(s:List UInt8):zfy Tryz.prog 63 [(0,.int .i64 2),(2,.str s)]=some (.agg [.int .i64 2,.int .i64 0,.str s,.int .i64 0,.nilS]):=aC
theorem bx1(n:Int):zfy Tryz.prog 63 [(0,.int .i64 1),(1,.int .i64 n)]=some (.agg [.int .i64 1,.int .i64 n,.str [],.int .i64 0,.nilS]):=aC
theorem bx3(s:List UInt8)(r n:Nat):zfy Tryz.prog 63 [(0,.int .i64 3),(2,.str s),(4,.sl r 0 n 5)]=some (.agg [.int .i64 3,.int .i64 0,.str s,.int .i64 0,.sl r 0 n 5]):=aC
theorem bx5(r n:Nat):zfy Tryz.prog 63 [(0,.int .i64 5),(4,.sl r 0 n 5)]=some (.agg [.int .i64 5,.int .i64 0,.str [],.int .i64 0,.sl r 0 n 5]):=aC
theorem MM(o:Int)(r n:Nat):zfy Tryz.prog 63 [(0,.int .i64 4),(3,.int .i64 o),(4,.sl r 0 n 5)]=some (.agg [.int .i64 4,.int .i64 0,.str [],.int .i64 o,.sl r 0 n 5]):=aC
theorem jE{cs:List AV}(h:cs.length=5):∃a b c d e,cs=[a,b,c,d,e]:=by
 match cs,h with
 |[a,b,c,d,e],_=>exact⟨a,b,c,d,e,rfl⟩
theorem FQ(H:Hp){cs:List AV}(h:cs.length=5)(h1:cs.all AV.one=true):zfn Tryz.prog H 61 1 [(0,.agg cs)]=some (.sl H.next 0 1 5,H.alloc (.cells cs 0 true)):=by
 obtain⟨a,b,c,d,e,rfl⟩:=jE h;kernel_rfl
theorem zbA(H:Hp){cs ds:List AV}(h:cs.length=5)(k:ds.length=5):zfn Tryz.prog H 61 2 [(0,.agg cs),(1,.agg ds)]=some (.sl H.next 0 2 5,H.alloc (.cells (cs++ds) 0 true)):=by
 obtain⟨a,b,c,d,e,rfl⟩:=jE h;obtain⟨a',b',c',d',e',rfl⟩:=jE k;kernel_rfl
theorem zbB(H:Hp){cs ds es:List AV}(h:cs.length=5)(k:ds.length=5)(l:es.length=5):zfn Tryz.prog H 61 3 [(0,.agg cs),(1,.agg ds),(2,.agg es)]=some (.sl H.next 0 3 5,H.alloc (.cells (cs++ds++es) 0 true)):=by
 obtain⟨a,b,c,d,e,rfl⟩:=jE h;obtain⟨a',b',c',d',e',rfl⟩:=jE k;obtain⟨a'',b'',c'',d'',e'',rfl⟩:=jE l;kernel_rfl
theorem MN(H:Hp)(a b:Int):zfn Tryz.prog H 23 2 [(0,.int .i64 a),(1,.int .i64 b)]=some (.sl H.next 0 2 1,H.alloc (.cells [.int .i64 a,.int .i64 b] 0 true)):=aC
theorem kY(a b c d e:AV):ze6 5 [a,b,c,d,e]=some (.agg [a,b,c,d,e]):=rfl
set_option maxRecDepth 100000 in
theorem zgj{lG:List En}(hG:GenL lG):∀(k:Nat) (f:Int) (deep:Nat),5<=deep+k->deep<=4->∀(lo:Nat) (H:Hp) (r:Nat) (L:List Int) (c:Int),fZ lo H r L c->L.length<2^60 ->
 zd5 Tryz.prog (zdW pls lG) 49 [.ptr r 0,.int .i64 f,.int .i64 deep] H (yA 5 (k+1) lo H r (zeh f k deep L).1.cells (zeh f k deep L).2 c)
 |0,f,deep,h1,h2,_,_,_,_,_,_,_=>by omega
 |k+1,f,deep,h1,h2,lo,H,r,L,c,hrd,hL=>by
  have hw:Plain (zdW pls lG) 49:=hG.plain ei;have hnx:Plain (zdW pls lG) 40:=hG.plain ei;have hrl:=hrd.1;have hlo:=hrd.2.1;have hq16:(16:Int)≠0:=aY;generalize hR:zeh f (k+1) deep L=R;rw[zeh]at hR;simp only[]at hR;refine zed (M:=115) (rs:=[.cell 6 63]) (hw.call _) hw.ice hw.froz Tryz.func49 rfl rfl MK.2 rfl ?_;dsimp only[MK,zd8,Nat.reduceAdd];repeat' (first
   |(apply au ?_;clear hK K)|apply Rx.o ?_|apply ba ?_|apply eJ ?_|(apply bQ (fun hg hgp=>?_) (fun hg hgp=>?_)<;>try(cases hg;done))|(apply aT (fun hb hbp=>?_) (fun hb hbp=>?_)<;>try(cases hb;done))|apply am ?_|(apply zdQ fun K hK=>?_)|(apply zdP 10 [(0,9),(0,12),(4,9),(4,12),(10,12)] fun K hK=>?_)|(apply zdP 14 [(0,9),(0,12),(4,9),(4,12),(10,12)] fun K hK=>?_)|(apply zdU ?_;try intro _)|(apply zdV ?_ ?_<;>clear hK K)|apply aH ?_|apply zd9 rfl ?_|apply aA ?_|apply zdR ?_|apply aB ?_)
  refine bA rfl bE bF ?_;simp only[bB];refine bp ?_ (ym hnx (hrd.keep (cZ _) fun q hq=>ez) hL);rintro v H2 ⟨rfl,hr2,n2,o2⟩;simp only[zea]at n2;have g2:H2.get H.next=some (.cells [.int .i64 0,.int .i64 0,.str [],.int .i64 0,.nilS] 0 true):=by rw[o2 _ ac,zd1,aE rfl]
  have o2':∀q,q<H.next->q≠r->H2.get q=H.get q:=fun q h1 h2=>by rw[o2 q h2,zd1,ah ac]
  have hL1:=zgi L;generalize (zes L).1=n at *;generalize (zes L).2=L1 at *;have hq:=zfP (n:=n) (m:=16) ac ac;have hm:=zfP (n:=cq (n.tdiv 16)) (m:=1000) ac ac;have hq2:(2:Int)≠0:=aY;have hq15:(15:Int)≠0:=aY;have hlen0:((zeD f).length:Int)≠0:=by rcases rv f with h|h<;>rw[h]<;>decide
  have hwd:IntKind.wrap .i64 ((deep:Int)+1)=((deep+1:Nat):Int):=pW ac;clear o2;dsimp only[zd4];obtain⟨hi0,hix⟩:=qp (zeD f) hlen0 hm.1 [];have hxs:=rG hm.1;have hxi:=zbu hm.1;have hxa:=rH hm.1;have hxo:=zbv hm.1;have kf:∀(H3:Hp) (x:Ex),fZ lo H3 r L1 c->H.next<=H3.next->(∀q,q<H.next->q≠r->H3.get q=H.get q)->∀cs,cs.length=5->cs.all AV.one=true->zeA (fun q=>H.next<=q) (k+2) H3 cs x.cells->yA 5 (k+2) lo H r x.cells L1 c (.agg cs) H3:=fun H3 x q1 q2 q3 cs q4 q5 q6=>⟨⟨cs,rfl,q4,q5,q6⟩,q1,q2,q3⟩
  have gh0:=@bx2;have gh1:=@bx1;have gh2:=@kY;have gh3:=@MN;repeat' (first
   |(apply au ?_;clear hK K)|apply Rx.o ?_|apply ba ?_|(apply eu ?_;first|refine Rx.k (Lo hG.nms _ _) ?_|refine Rx.k (zfZ hG.pick _ _ aY _) ?_|refine Rx.k (Ln hG.word _ _ _) ?_)|apply eJ ?_|(apply bQ (fun hg hgp=>?_) (fun hg hgp=>?_)<;>try(cases hg;done))|(apply aT (fun hb hbp=>?_) (fun hb hbp=>?_)<;>try(cases hb;done))|apply am ?_|(apply zdQ fun K hK=>?_)|(apply zdP 10 [(0,9),(0,12),(4,9),(4,12),(10,12)] fun K hK=>?_)|(apply zdP 14 [(0,9),(0,12),(4,9),(4,12),(10,12)] fun K hK=>?_)|(apply zdU ?_;try intro _)|(apply zdV ?_ ?_<;>clear hK K)|apply aH ?_|apply zd9 rfl ?_|apply aA ?_|apply zdR ?_|apply aB ?_)
  .refine⟨zdZ,_,(by(try simp only[zdX,zd2,Nat.reduceBEq,Nat.reduceAdd,Nat.reduceLeDiff,tyF,zfD,zfI,kY, *]);first|done|with_reducible rfl),?_⟩;try simp only[zdY]
   first
   |rw[aE ac,aE ac]at hR
   |rw[aE ac,ah ac]at hR
   subst hR;refine kf _ _ ?_ ?_ ?_ _ rfl rfl (sM _ _ _ _)
   .exact hr2.keep (aM _) fun q hq=>iA
   .simp only[zef];omega
   .intro q h1 h2;rw[bz,ah ac];exact o2' q h1 h2
  .refine⟨zdZ,_,(by(try simp only[zdX,zd2,Nat.reduceBEq,Nat.reduceAdd,Nat.reduceLeDiff,tyF,zfD,zfI,kY, *]);first|done|with_reducible rfl),?_⟩;try simp only[zdY]
   first
   |rw[aE ac,aE ac]at hR
   |rw[aE ac,ah ac]at hR
   subst hR;refine kf _ _ ?_ ?_ ?_ _ rfl rfl (sM _ _ _ _)
   .exact hr2.keep (aM _) fun q hq=>iA
   .simp only[zef];omega
   .intro q h1 h2;rw[bz,ah ac];exact o2' q h1 h2
  .refine⟨zdZ,_,(by(try simp only[zdX,zd2,Nat.reduceBEq,Nat.reduceAdd,Nat.reduceLeDiff,tyF,zfD,zfI,kY, *]);first|done|with_reducible rfl),?_⟩;try simp only[zdY]
   first
   |rw[aE ac,aE ac]at hR
   |rw[aE ac,ah ac]at hR
   subst hR;refine kf _ _ ?_ ?_ ?_ _ rfl rfl (sM _ _ _ _)
   .exact hr2.keep (aM _) fun q hq=>iA
   .simp only[zef];omega
   .intro q h1 h2;rw[bz,ah ac];exact o2' q h1 h2
  ·-- one operand
   have er:(H.next == r)=false:=zeq ac;refine bA rfl bE bF ?_;simp only[bB];refine bp ?_ (zgj hG k f (deep+1) ac ac lo _ r L1 c (hr2.keep (cZ _) fun q hq=>ez) ac);rintro v H4 ⟨⟨cs,rfl,hc1,hc2,hc3⟩,hr4,n4,o4⟩;simp only[zea]at n4 o4 hc3;have g4:H4.get H.next=some (.cells [.int .i64 0,.int .i64 0,.str [],.int .i64 0,.nilS] 0 true):=MJ
   have g4s:H4.get (H.next+1)=some (.cells [.str [97],.str [98]] 0 true):=FO;have kb:=fun H=>FQ H hc1 hc2;have e4:(H.next == H4.next)=false:=zeq ac;have e5:(H.next+1 == H4.next)=false:=zeq ac;dsimp only[zd4];have gh0:=@kY;have gh1:=@bx3;repeat' (first
    |(apply au ?_;clear hK K)|apply Rx.o ?_|apply ba ?_|apply eJ ?_|(apply bQ (fun hg hgp=>?_) (fun hg hgp=>?_)<;>try(cases hg;done))|(apply aT (fun hb hbp=>?_) (fun hb hbp=>?_)<;>try(cases hb;done))|apply am ?_|(apply zdQ fun K hK=>?_)|(apply zdP 10 [(0,9),(0,12),(4,9),(4,12),(10,12)] fun K hK=>?_)|(apply zdP 14 [(0,9),(0,12),(4,9),(4,12),(10,12)] fun K hK=>?_)|(apply zdU ?_;try intro _)|(apply zdV ?_ ?_<;>clear hK K)|apply aH ?_|apply zd9 rfl ?_|apply aA ?_|apply zdR ?_|apply aB ?_)
   .exact eK
   .refine⟨zdZ,_,(by(try simp only[zdX,zd2,Nat.reduceBEq,Nat.reduceAdd,Nat.reduceLeDiff,tyF,zfD,zfI,kY, *]);first|done|with_reducible rfl),?_⟩;try simp only[zdY]
    rw[ah ac,aE ac]at hR;subst hR;refine⟨⟨_,rfl,rfl,rfl,?_⟩,?_,?_,?_⟩
    .refine yl (n:=k+1) _ _ _ _ (rz (n:=k+1) (a:=[cs]) (imm:=0) (tip:=true) (by show H.next<=H4.next;omega) jB BJ aK ⟨⟨hc1,hc3.keep (fun q hq=>ac) jB fun q h1 h2=>pn⟩,trivial⟩)
    .exact hr4.keep jB fun q hq=>pn
    .simp only[zef,zea];omega
    .intro q h1 h2;rw[bz,ah ac,zd1,ah ac,o4 _ ac h2,zd1,ah ac];exact o2' q h1 h2
  ·-- more operands
   have er:(H.next == r)=false:=zeq ac;refine bA rfl bE bF ?_;simp only[bB];refine bp ?_ (zgj hG k f (deep+1) ac ac lo _ r L1 c hr2 ac);rintro v H4 ⟨⟨cs,rfl,hc1,hc2,hc3⟩,hr4,n4,o4⟩;have hl4:=zfr f k (deep+1) L1;dsimp only[zd4];repeat' (first
    |(apply au ?_;clear hK K)|apply Rx.o ?_|apply ba ?_|apply eJ ?_|(apply bQ (fun hg hgp=>?_) (fun hg hgp=>?_)<;>try(cases hg;done))|(apply aT (fun hb hbp=>?_) (fun hb hbp=>?_)<;>try(cases hb;done))|apply am ?_|(apply zdQ fun K hK=>?_)|(apply zdP 10 [(0,9),(0,12),(4,9),(4,12),(10,12)] fun K hK=>?_)|(apply zdP 14 [(0,9),(0,12),(4,9),(4,12),(10,12)] fun K hK=>?_)|(apply zdU ?_;try intro _)|(apply zdV ?_ ?_<;>clear hK K)|apply aH ?_|apply zd9 rfl ?_|apply aA ?_|apply zdR ?_|apply aB ?_)
   refine bA rfl bE bF ?_;simp only[bB];refine bp ?_ (zgj hG k f (deep+1) ac ac lo H4 r (zeh f k (deep+1) L1).2 c hr4 ac);rintro v H5 ⟨⟨ds,rfl,hd1,hd2,hd3⟩,hr5,n5,o5⟩;have hl5:=zfr f k (deep+1) (zeh f k (deep+1) L1).2;dsimp only[zd4];repeat' (first
    |(apply au ?_;clear hK K)|apply Rx.o ?_|apply ba ?_|apply eJ ?_|(apply bQ (fun hg hgp=>?_) (fun hg hgp=>?_)<;>try(cases hg;done))|(apply aT (fun hb hbp=>?_) (fun hb hbp=>?_)<;>try(cases hb;done))|apply am ?_|(apply zdQ fun K hK=>?_)|(apply zdP 10 [(0,9),(0,12),(4,9),(4,12),(10,12)] fun K hK=>?_)|(apply zdP 14 [(0,9),(0,12),(4,9),(4,12),(10,12)] fun K hK=>?_)|(apply zdU ?_;try intro _)|(apply zdV ?_ ?_<;>clear hK K)|apply aH ?_|apply zd9 rfl ?_|apply aA ?_|apply zdR ?_|apply aB ?_)
   refine bA rfl bE bF ?_;simp only[bB];refine bp ?_ (zgj hG k f (deep+1) ac ac lo H5 r (zeh f k (deep+1) (zeh f k (deep+1) L1).2).2 c hr5 ac);rintro v H6 ⟨⟨es,rfl,he1,he2,he3⟩,hr6,n6,o6⟩;have hl6:=zfr f k (deep+1) (zeh f k (deep+1) (zeh f k (deep+1) L1).2).2;dsimp only[zd4];have gz:H6.get H.next=some (.cells [.int .i64 0,.int .i64 0,.str [],.int .i64 0,.nilS] 0 true):=by rw[o6 _ ac ac,o5 _ ac ac,o4 _ ac ac];exact g2
   have kb:=fun H=>zbB H hc1 hd1 he1;have e4:(H.next == H6.next)=false:=zeq ac;have gh0:=@kY;have gh1:=@bx5;repeat' (first
    |(apply au ?_;clear hK K)|apply Rx.o ?_|apply ba ?_|apply eJ ?_|(apply bQ (fun hg hgp=>?_) (fun hg hgp=>?_)<;>try(cases hg;done))|(apply aT (fun hb hbp=>?_) (fun hb hbp=>?_)<;>try(cases hb;done))|apply am ?_|(apply zdQ fun K hK=>?_)|(apply zdP 10 [(0,9),(0,12),(4,9),(4,12),(10,12)] fun K hK=>?_)|(apply zdP 14 [(0,9),(0,12),(4,9),(4,12),(10,12)] fun K hK=>?_)|(apply zdU ?_;try intro _)|(apply zdV ?_ ?_<;>clear hK K)|apply aH ?_|apply zd9 rfl ?_|apply aA ?_|apply zdR ?_|apply aB ?_)
   refine⟨zdZ,_,(by(try simp only[zdX,zd2,Nat.reduceBEq,Nat.reduceAdd,Nat.reduceLeDiff,tyF,zfD,zfI,kY, *]);first|done|with_reducible rfl),?_⟩;try simp only[zdY]
   rw[ah ac,ah ac,aE ac]at hR;subst hR;refine⟨⟨_,rfl,rfl,rfl,?_⟩,?_,?_,?_⟩
   .refine yl (n:=k+1) _ _ _ _ (rz (n:=k+1) (a:=[cs,ds,es]) (imm:=0) (tip:=true) (by show H.next<=H6.next;omega) jB BJ aK ⟨⟨hc1,hc3.keep (fun q hq=>ac) jB fun q h1 h2=>by rw[bz,ah ac,zd1,ah ac,o6 _ ac ac,o5 _ ac ac]⟩,⟨hd1,hd3.keep (fun q hq=>ac) jB fun q h1 h2=>by rw[bz,ah ac,zd1,ah ac,o6 _ ac ac]⟩,⟨he1,he3.keep (fun q hq=>ac) jB fun q h1 h2=>pn⟩,trivial⟩)
   .exact hr6.keep jB fun q hq=>pn
   .simp only[zef,zea];omega
   .intro q h1 h2;rw[bz,ah ac,zd1,ah ac,o6 _ ac h2,o5 _ ac h2,o4 _ ac h2];exact o2' q h1 h2
  ·-- one operand
   have er:(H.next == r)=false:=zeq ac;refine bA rfl bE bF ?_;simp only[bB];refine bp ?_ (zgj hG k f (deep+1) ac ac lo _ r L1 c (hr2.keep (cZ _) fun q hq=>ez) ac);rintro v H4 ⟨⟨cs,rfl,hc1,hc2,hc3⟩,hr4,n4,o4⟩;simp only[zea]at n4 o4 hc3;have g4:H4.get H.next=some (.cells [.int .i64 0,.int .i64 0,.str [],.int .i64 0,.nilS] 0 true):=MJ
   have g4s:H4.get (H.next+1)=some (.cells [.int .i64 20,.int .i64 21] 0 true):=FO;have kb:=fun H=>FQ H hc1 hc2;have e4:(H.next == H4.next)=false:=zeq ac;have e5:(H.next+1 == H4.next)=false:=zeq ac;dsimp only[zd4];have gh0:=@MN;have gh1:=@kY;have gh2:=@MM;repeat' (first
    |(apply au ?_;clear hK K)|apply Rx.o ?_|apply ba ?_|apply eJ ?_|(apply bQ (fun hg hgp=>?_) (fun hg hgp=>?_)<;>try(cases hg;done))|(apply aT (fun hb hbp=>?_) (fun hb hbp=>?_)<;>try(cases hb;done))|apply am ?_|(apply zdQ fun K hK=>?_)|(apply zdP 10 [(0,9),(0,12),(4,9),(4,12),(10,12)] fun K hK=>?_)|(apply zdP 14 [(0,9),(0,12),(4,9),(4,12),(10,12)] fun K hK=>?_)|(apply zdU ?_;try intro _)|(apply zdV ?_ ?_<;>clear hK K)|apply aH ?_|apply zd9 rfl ?_|apply aA ?_|apply zdR ?_|apply aB ?_)
   .exact eK
   .refine⟨zdZ,_,(by(try simp only[zdX,zd2,Nat.reduceBEq,Nat.reduceAdd,Nat.reduceLeDiff,tyF,zfD,zfI,kY, *]);first|done|with_reducible rfl),?_⟩;try simp only[zdY]
    rw[ah ac,ah ac,ah ac,aE ac]at hR;subst hR;refine⟨⟨_,rfl,rfl,rfl,?_⟩,?_,?_,?_⟩
    .refine yl (n:=k+1) _ _ _ _ (rz (n:=k+1) (a:=[cs]) (imm:=0) (tip:=true) (by show H.next<=H4.next;omega) jB BJ aK ⟨⟨hc1,hc3.keep (fun q hq=>ac) jB fun q h1 h2=>pn⟩,trivial⟩)
    .exact hr4.keep jB fun q hq=>pn
    .simp only[zef,zea];omega
    .intro q h1 h2;rw[bz,ah ac,zd1,ah ac,o4 _ ac h2,zd1,ah ac];exact o2' q h1 h2
  ·-- more operands
   have er:(H.next == r)=false:=zeq ac;refine bA rfl bE bF ?_;simp only[bB];refine bp ?_ (zgj hG k f (deep+1) ac ac lo _ r L1 c hr2 ac);rintro v H4 ⟨⟨cs,rfl,hc1,hc2,hc3⟩,hr4,n4,o4⟩;have hl4:=zfr f k (deep+1) L1;dsimp only[zd4];repeat' (first
    |(apply au ?_;clear hK K)|apply Rx.o ?_|apply ba ?_|apply eJ ?_|(apply bQ (fun hg hgp=>?_) (fun hg hgp=>?_)<;>try(cases hg;done))|(apply aT (fun hb hbp=>?_) (fun hb hbp=>?_)<;>try(cases hb;done))|apply am ?_|(apply zdQ fun K hK=>?_)|(apply zdP 10 [(0,9),(0,12),(4,9),(4,12),(10,12)] fun K hK=>?_)|(apply zdP 14 [(0,9),(0,12),(4,9),(4,12),(10,12)] fun K hK=>?_)|(apply zdU ?_;try intro _)|(apply zdV ?_ ?_<;>clear hK K)|apply aH ?_|apply zd9 rfl ?_|apply aA ?_|apply zdR ?_|apply aB ?_)
   refine bA rfl bE bF ?_;simp only[bB];refine bp ?_ (zgj hG k f (deep+1) ac ac lo H4 r (zeh f k (deep+1) L1).2 c hr4 ac);rintro v H5 ⟨⟨ds,rfl,hd1,hd2,hd3⟩,hr5,n5,o5⟩;have hl5:=zfr f k (deep+1) (zeh f k (deep+1) L1).2;dsimp only[zd4];have gz:H5.get H.next=some (.cells [.int .i64 0,.int .i64 0,.str [],.int .i64 0,.nilS] 0 true):=by rw[o5 _ ac ac,o4 _ ac ac];exact g2
   have kb:=fun H=>zbA H hc1 hd1;have e4:(H.next == H5.next)=false:=zeq ac;have gh0:=@kY;have gh1:=@MM;repeat' (first
    |(apply au ?_;clear hK K)|apply Rx.o ?_|apply ba ?_|apply eJ ?_|(apply bQ (fun hg hgp=>?_) (fun hg hgp=>?_)<;>try(cases hg;done))|(apply aT (fun hb hbp=>?_) (fun hb hbp=>?_)<;>try(cases hb;done))|apply am ?_|(apply zdQ fun K hK=>?_)|(apply zdP 10 [(0,9),(0,12),(4,9),(4,12),(10,12)] fun K hK=>?_)|(apply zdP 14 [(0,9),(0,12),(4,9),(4,12),(10,12)] fun K hK=>?_)|(apply zdU ?_;try intro _)|(apply zdV ?_ ?_<;>clear hK K)|apply aH ?_|apply zd9 rfl ?_|apply aA ?_|apply zdR ?_|apply aB ?_)
   refine⟨zdZ,_,(by(try simp only[zdX,zd2,Nat.reduceBEq,Nat.reduceAdd,Nat.reduceLeDiff,tyF,zfD,zfI,kY, *]);first|done|with_reducible rfl),?_⟩;try simp only[zdY]
   rw[ah ac,ah ac,ah ac,ah ac]at hR;subst hR;refine⟨⟨_,rfl,rfl,rfl,?_⟩,?_,?_,?_⟩
   .refine yl (n:=k+1) _ _ _ _ (rz (n:=k+1) (a:=[cs,ds]) (imm:=0) (tip:=true) (by show H.next<=H5.next;omega) jB BJ aK ⟨⟨hc1,hc3.keep (fun q hq=>ac) jB fun q h1 h2=>by rw[bz,ah ac,zd1,ah ac,o5 _ ac ac]⟩,⟨hd1,hd3.keep (fun q hq=>ac) jB fun q h1 h2=>pn⟩,trivial⟩)
   .exact hr5.keep jB fun q hq=>pn
   .simp only[zef,zea];omega
   .intro q h1 h2;rw[bz,ah ac,zd1,ah ac,o5 _ ac h2,o4 _ ac h2];exact o2' q h1 h2
  .refine⟨zdZ,_,(by(try simp only[zdX,zd2,Nat.reduceBEq,Nat.reduceAdd,Nat.reduceLeDiff,tyF,zfD,zfI,kY, *]);first|done|with_reducible rfl),?_⟩;try simp only[zdY]
   first
   |rw[aE ac,aE ac]at hR
   |rw[aE ac,ah ac]at hR
   subst hR;refine kf _ _ ?_ ?_ ?_ _ rfl rfl (sM _ _ _ _)
   .exact hr2.keep (aM _) fun q hq=>iA
   .simp only[zef];omega
   .intro q h1 h2;rw[bz,ah ac];exact o2' q h1 h2
  .refine⟨zdZ,_,(by(try simp only[zdX,zd2,Nat.reduceBEq,Nat.reduceAdd,Nat.reduceLeDiff,tyF,zfD,zfI,kY, *]);first|done|with_reducible rfl),?_⟩;try simp only[zdY]
   first
   |rw[aE ac,aE ac]at hR
   |rw[aE ac,ah ac]at hR
   subst hR;refine kf _ _ ?_ ?_ ?_ _ rfl rfl (sM _ _ _ _)
   .exact hr2.keep (aM _) fun q hq=>iA
   .simp only[zef];omega
   .intro q h1 h2;rw[bz,ah ac];exact o2' q h1 h2
  .refine⟨zdZ,_,(by(try simp only[zdX,zd2,Nat.reduceBEq,Nat.reduceAdd,Nat.reduceLeDiff,tyF,zfD,zfI,kY, *]);first|done|with_reducible rfl),?_⟩;try simp only[zdY]
   first
   |rw[aE ac,aE ac]at hR
   |rw[aE ac,ah ac]at hR
   subst hR;refine kf _ _ ?_ ?_ ?_ _ rfl rfl (sM _ _ _ _)
   .exact hr2.keep (aM _) fun q hq=>iA
   .simp only[zef];omega
   .intro q h1 h2;rw[bz,ah ac];exact o2' q h1 h2
  .refine⟨zdZ,_,(by(try simp only[zdX,zd2,Nat.reduceBEq,Nat.reduceAdd,Nat.reduceLeDiff,tyF,zfD,zfI,kY, *]);first|done|with_reducible rfl),?_⟩;try simp only[zdY]
   first
   |rw[aE ac,aE ac]at hR
   |rw[aE ac,ah ac]at hR
   subst hR;refine kf _ _ ?_ ?_ ?_ _ rfl rfl (sM _ _ _ _)
   .exact hr2.keep (aM _) fun q hq=>iA
   .simp only[zef];omega
   .intro q h1 h2;rw[bz,ah ac];exact o2' q h1 h2
end
section
def tyG4.tyF:=ad @dC (ad @en (ad @hO (ad @tO (ad @iz (ad @eU (ad @iy (ad @gg (@fW))))))))
open tyG4
noncomputable def MO:{c:SC // aS 36 (Tryz.f48.body.getD .skip)=c}:=by
 refine⟨?_,?_⟩;rotate_left
 .simp only[Tryz.f48,cj,aS,zen,zel,zeu,zev,Nat.blt,Nat.ble];rfl
noncomputable def qq:{c:SC // aS 156 (Tryz.f84.body.getD .skip)=c}:=by
 refine⟨?_,?_⟩;rotate_left
 .simp only[Tryz.f84,cj,aS,zen,zel,zeu,zev,Nat.blt,Nat.ble];rfl
abbrev zeK:=List Int×Int
def fT(step:zeK->St×zeK):Nat->zeK->List St×zeK
 |0,s=>([],s)
 |n+1,s=>if s.1=[]then ([],s)else ((step s).1::(fT step n (step s).2).1,(fT step n (step s).2).2)
def zfH(f:Int):Nat->List Int->List Ex×List Int
 |0,L=>([],L)
 |n+1,L=>((zeh f 3 2 L).1::(zfH f n (zeh f 3 2 L).2).1,(zfH f n (zeh f 3 2 L).2).2)
def zf4:Ex:=.mk 0 0 [] 0 []
def jX(m:Int):List UInt8:=if m.tmod 2=0 then [102]else [103]
def jH(sub:Int->zeK->List St×zeK)(f:Int)(L1:List Int)(c q m:Int):St×zeK:=
 if q<6 then (.mk 1 ((zeD f).getD (m.tmod (zeD f).length).toNat []) [] 0 zf4 (zeh f 5 0 L1).1 [] [] [],((zeh f 5 0 L1).2,c))
 else if q<8 then (.mk 2 (rF m) [] 0 (zeh f 3 2 L1).1 (zeh f 4 1 (zeh f 3 2 L1).2).1 [] [] [],((zeh f 4 1 (zeh f 3 2 L1).2).2,c))
 else if q<10 then (.mk 3 [] [] 0 zf4 (zeh f 4 1 L1).1 [] (sub 3 ((zeh f 4 1 L1).2,c)).1 (sub 2 (sub 3 ((zeh f 4 1 L1).2,c)).2).1,(sub 2 (sub 3 ((zeh f 4 1 L1).2,c)).2).2)
 else if q<12 then (.mk 4 [] [] 0 zf4 (zeh f 4 1 L1).1 [] (sub 3 ((zeh f 4 1 L1).2,cq (c+1))).1 [],(sub 3 ((zeh f 4 1 L1).2,cq (c+1))).2)
 else if q<14 then (.mk 5 [] [] 0 zf4 (zeh f 4 1 L1).1 [] [] [],((zeh f 4 1 L1).2,c))
 else if q<15 then (.mk 6 ((zeD f).getD (m.tmod (zeD f).length).toNat []) (jX m) 0 zf4 zf4 (zfH f (2-m.tmod 2).toNat L1).1 [] [],((zfH f (2-m.tmod 2).toNat L1).2,c))
 else (.mk 7 [] [] m zf4 zf4 [] [] [],(L1,c))
def uC(deep:Nat)(c q0:Int):Int:=if ((2:Int)<deep/\8<=q0/\q0<12)\/(10<=c/\10<=q0)then 0 else q0
def sT(sub:Int->zeK->List St×zeK)(f:Int)(deep:Nat)(s:zeK):St×zeK:=
 jH sub f (zes s.1).2 s.2 (uC deep s.2 (zei (zes s.1).1 16)) (zei (cq ((zes s.1).1.tdiv 16)) 1000)
def zfF(f:Int):Nat->Nat->zeK->St×zeK
 |0,_,s=>(.mk 0 [] [] 0 zf4 zf4 [] [] [],s)
 |k+1,deep,s=>sT (fun most s=>fT (zfF f k (deep+1)) (zei (zes s.1).1 (most+1)).toNat ((zes s.1).2,s.2)) f deep s
def jF(f:Int)(k deep:Nat)(most:Int)(s:zeK):List St×zeK:=fT (zfF f k deep) (zei (zes s.1).1 (most+1)).toNat ((zes s.1).2,s.2)
theorem yB{step:zeK->St×zeK}(h:∀s,(step s).2.1.length<=s.1.length):∀(n:Nat) (s:zeK),(fT step n s).2.1.length<=s.1.length
 |0,_=>aM _
 |n+1,s=>by
  rw[fT];split
  .exact aM _
  .exact dr (yB h n _) (h s)
theorem FR(f:Int):∀(n:Nat) (L:List Int),(zfH f n L).2.length<=L.length
 |0,_=>aM _
 |n+1,L=>dr (FR f n _) (zfr f 3 2 L)
theorem zqR{sub:Int->zeK->List St×zeK}(h2:∀(most:Int) (s:zeK),(sub most s).2.1.length<=s.1.length)(f:Int)(deep:Nat)(s:zeK):(sT sub f deep s).2.1.length<=s.1.length:=by
 have h:=zgi s.1;have e41:=zfr f 4 1 (zes s.1).2;have e50:=zfr f 5 0 (zes s.1).2;have e32:=zfr f 3 2 (zes s.1).2;have e43:=zfr f 4 1 (zeh f 3 2 (zes s.1).2).2;rw[sT,jH];generalize uC deep s.2 (zei (zes s.1).1 16)=q;by_cases c1:q<6
 .rw[aE c1];exact dr e50 h
 rw[ah c1];by_cases c2:q<8
 .rw[aE c2];exact dr e43 (dr e32 h)
 rw[ah c2];by_cases c3:q<10
 .rw[aE c3];exact dr (h2 _ _) (dr (h2 _ _) (dr e41 h))
 rw[ah c3];by_cases c4:q<12
 .rw[aE c4];exact dr (h2 _ _) (dr e41 h)
 rw[ah c4];by_cases c5:q<14
 .rw[aE c5];exact dr e41 h
 rw[ah c5];by_cases c6:q<15
 .rw[aE c6];exact dr (FR f _ _) h
 rw[ah c6];exact h
theorem yC(f:Int):∀(k deep:Nat) (s:zeK),(zfF f k deep s).2.1.length<=s.1.length
 |0,_,_=>aM _
 |k+1,deep,s=>zqR (fun most s=>dr (yB (yC f k (deep+1)) _ _) (zgi s.1)) f deep s
def wq(k:Int)(nm to:List UInt8)(n:Int)(a v:List AV)(args thn els:AV):List AV:=[.int .i64 k,.str nm,.str to,.int .i64 n]++a++v++[args,thn,els]
theorem uD{S:Nat->Prop}{n:Nat}{H:Hp}(k:Int)(nm to:List UInt8)(nn:Int){a v:List AV}{ax vx:Ex}{args thn els:AV}{al:List Ex}{ts es:List St}(ha:zeA S (n+1) H a ax.cells)(hv:zeA S (n+1) H v vx.cells)(h1:fJ S (n+1) H args (.lst (al.map Ex.cells)))(h2:fJ S (n+1) H thn (.lst (ts.map St.cells)))(h3:fJ S (n+1) H els (.lst (es.map St.cells))):
 zeA S (n+1) H (wq k nm to nn a v args thn els) (St.mk k nm to nn ax vx al ts es).cells:=by
 have e:(St.mk k nm to nn ax vx al ts es).cells=[.int .i64 k,.str nm,.str to,.int .i64 nn]++ax.cells++vx.cells++[.lst (al.map Ex.cells),.lst (ts.map St.cells),.lst (es.map St.cells)]:=by
  rw[tK,oV,oV];rfl
 rw[e];exact(((zeA.cons (.int _ _) (.cons (.str _) (.cons (.str _) (.cons (.int _ _) .nil)))).append ha).append hv).append (.cons h1 (.cons h2 (.cons h3 .nil)))
def zgG:List AV:=[.int .i64 0,.int .i64 0,.str [],.int .i64 0,.nilS]
theorem sU{S:Nat->Prop}{n:Nat}{H:Hp}:zeA S (n+1) H zgG zf4.cells:=sM 0 0 0 []
theorem bS1(nm:List UInt8){v:List AV}(h:v.length=5):zfy Tryz.prog 96 [(0,.int .i64 1),(1,.str nm),(5,.agg v)]=some (.agg (wq 1 nm [] 0 zgG v .nilS .nilS .nilS)):=by
 obtain⟨a,b,c,d,e,rfl⟩:=jE h;kernel_rfl
theorem bS2(nm:List UInt8){a v:List AV}(h:a.length=5)(k:v.length=5):zfy Tryz.prog 96 [(0,.int .i64 2),(1,.str nm),(4,.agg a),(5,.agg v)]=some (.agg (wq 2 nm [] 0 a v .nilS .nilS .nilS)):=by
 obtain⟨a,b,c,d,e,rfl⟩:=jE h;obtain⟨a',b',c',d',e',rfl⟩:=jE k;kernel_rfl
theorem bS3(k:Int){v:List AV}(h:v.length=5):zfy Tryz.prog 96 [(0,.int .i64 k),(5,.agg v)]=some (.agg (wq k [] [] 0 zgG v .nilS .nilS .nilS)):=by
 obtain⟨a,b,c,d,e,rfl⟩:=jE h;kernel_rfl
theorem bS6(nm to:List UInt8):zfy Tryz.prog 96 [(0,.int .i64 6),(1,.str nm),(2,.str to)]=some (.agg (wq 6 nm to 0 zgG zgG .nilS .nilS .nilS)):=aC
theorem bS7(n:Int):zfy Tryz.prog 96 [(0,.int .i64 7),(3,.int .i64 n)]=some (.agg (wq 7 [] [] n zgG zgG .nilS .nilS .nilS)):=aC
theorem zbI{cs:List AV}(h:cs.length=17):∃c0 c1 c2 c3 c4 c5 c6 c7 c8 c9 d0 d1 d2 d3 d4 d5 d6,cs=[c0,c1,c2,c3,c4,c5,c6,c7,c8,c9,d0,d1,d2,d3,d4,d5,d6]:=by
 match cs,h with
 |[c0,c1,c2,c3,c4,c5,c6,c7,c8,c9,d0,d1,d2,d3,d4,d5,d6],_=>exact⟨c0,c1,c2,c3,c4,c5,c6,c7,c8,c9,d0,d1,d2,d3,d4,d5,d6,rfl⟩
theorem zbJ(H:Hp){cs:List AV}(h:cs.length=17):zfn Tryz.prog H 60 1 [(0,.agg cs)]=some (.sl H.next 0 1 17,H.alloc (.cells cs 0 true)):=by
 obtain⟨c0,c1,c2,c3,c4,c5,c6,c7,c8,c9,d0,d1,d2,d3,d4,d5,d6,rfl⟩:=zbI h;kernel_rfl
def zbK(z n lo:Nat)(H:Hp)(r:Nat)(ws:List (List AV))(L:List Int)(c:Int)(v:AV)(H':Hp):Prop:=
 ze4 (fun q=>H.next<=q) n H' z v ws/\fZ lo H' r L c/\H.next<=H'.next/\∀q,q<H.next->q≠r->H'.get q=H.get q
theorem fZ.len{lo:Nat}{H:Hp}{r:Nat}{L:List Int}{c:Int}(h:fZ lo H r L c):∃v,H.get r=some (.cells [v,.int .i64 c] 0 true)/\∀H',zeR Tryz.prog H' 23 v=some (.int .i64 L.length):=by
 obtain⟨_,_,v,h1,h2⟩:=h;refine⟨v,h1,fun H'=>?_⟩;rcases h2 with⟨rfl,rfl⟩|⟨b,off,cs,imm,rfl,_⟩
 .exact zgp Tryz.underlying23 _
 .exact zgg Tryz.underlying23 _ _ _ _
def oE(lG:List En)(k:Nat)(f:Int)(deep:Nat):Prop:=∀(lo:Nat) (H:Hp) (r:Nat) (s:zeK),fZ lo H r s.1 s.2->s.1.length<2^60 ->
 zd5 Tryz.prog (zdW pls lG) 84 [.ptr r 0,.int .i64 f,.int .i64 deep] H (yA 17 (8+k) lo H r (zfF f k deep s).1.cells (zfF f k deep s).2.1 (zfF f k deep s).2.2)
set_option maxRecDepth 100000 in
theorem yD{lG:List En}(hG:GenL lG){k:Nat}{f:Int}{deep:Nat}(hst:oE lG k f deep)(most:Int)(h0:0<=most)(h1:most<=5)(lo:Nat)(H:Hp)(r:Nat)(s:zeK)(hrd:fZ lo H r s.1 s.2)(hL:s.1.length<2^60):
 zd5 Tryz.prog (zdW pls lG) 48 [.ptr r 0,.int .i64 f,.int .i64 deep,.int .i64 most] H (zbK 17 (8+k) lo H r ((jF f k deep most s).1.map St.cells) (jF f k deep most s).2.1 (jF f k deep most s).2.2):=by
 have hw:Plain (zdW pls lG) 48:=hG.plain ei;have hkeep:(zdW pls lG).keep 48=false:=rfl;have hnx:Plain (zdW pls lG) 40:=hG.plain ei;have hrl:=hrd.1;have hlo:=hrd.2.1;have hw1:IntKind.wrap .i64 (most+1)=most+1:=zft ac ac;rw[jF];refine zed (M:=36) (rs:=[.tmp 8]) (hw.call _) hw.ice hw.froz Tryz.func48 rfl rfl MO.2 rfl ?_;dsimp only[MO,zd8,Nat.reduceAdd];repeat' (first
  |(apply au ?_;clear hK K)|apply Rx.o ?_|(apply bQ (fun hg hgp=>?_) (fun hg hgp=>?_)<;>try(cases hg;done))|(apply aT (fun hb hbp=>?_) (fun hb hbp=>?_)<;>try(cases hb;done))|apply am ?_|(apply zdQ fun K hK=>?_)|apply aA ?_|apply zdR ?_|apply aB ?_|apply zdT ?_)
 refine bA rfl bE bF ?_;simp only[bB];refine bp ?_ (ym hnx hrd hL);rintro v H2 ⟨rfl,hr2,n2,o2⟩;have hL1:=zgi s.1;generalize (zes s.1).1=n at *;generalize (zes s.1).2=L1 at *;have hm1:most+1≠0:=ac;have hp:=zfP (n:=n) (m:=most+1) ac ac;generalize hc:(zei n (most+1)).toNat=cnt at *;have hpc:zei n (most+1)=(cnt:Int):=ac;dsimp only[zd4];repeat' (first
  |(apply au ?_;clear hK K)|apply Rx.o ?_|(apply eu ?_;first|refine Rx.k (zfZ hG.pick _ _ hm1 _) ?_)|(apply bQ (fun hg hgp=>?_) (fun hg hgp=>?_)<;>try(cases hg;done))|(apply aT (fun hb hbp=>?_) (fun hb hbp=>?_)<;>try(cases hb;done))|apply am ?_|(apply zdQ fun K hK=>?_)|apply aA ?_|apply zdR ?_|apply aB ?_|apply zdT ?_)
 refine DJ [0,1,2,8] [] (fun i E H3=>i<=cnt/\E.at 10=.int .i64 i/\∃v l sd,E.at 9=v/\ze4 (fun q=>H.next<=q) (8+k) H3 17 v (l.map St.cells)/\fZ lo H3 r sd.1 sd.2/\(∀q,q<H.next->q≠r->H3.get q=H.get q)/\l.length+i=cnt/\sd.1.length<2^60 /\
  fT (zfF f k deep) cnt (L1,s.2)=(l++(fT (zfF f k deep) i sd).1,(fT (zfF f k deep) i sd).2)) cnt ⟨aM _,(by first|(simp only[zdX,Nat.reduceBEq,hpc, *];done)|rfl),.nilS,[],(L1,s.2),eE,.inl ⟨rfl,rfl⟩,hr2,fun q h1 h2=>o2 q h2,aK,ro,aK⟩ ?_
 rintro i E H3 hcE hrH hnH ⟨hic,hsI,v,l,sd,k9,hrow,hr3,o3,hli,hsl,hJ⟩;(try simp only[zec,zeb,aX,zdX,zd2,Nat.reduceBEq,Nat.reduceAdd,Nat.reduceLeDiff,tyF, *]at hcE);obtain⟨lv,hgr,hlen⟩:=hr3.len;have hle:H.next<=H3.next:=ac
 repeat' (first
  |(apply au ?_;clear hK K)|apply Rx.o ?_|(apply bQ (fun hg hgp=>?_) (fun hg hgp=>?_)<;>try(cases hg;done))|(apply aT (fun hb hbp=>?_) (fun hb hbp=>?_)<;>try(cases hb;done))|apply am ?_|(apply zdQ fun K hK=>?_)|apply aA ?_|apply zdR ?_|apply aB ?_|apply zdT ?_)
 .refine bA rfl bE bF ?_;simp only[bB];refine bp ?_ (hst lo H3 r sd hr3 hsl);rintro v' H4 ⟨⟨cs,rfl,hc1,hc2,hc3⟩,hr4,n4,o4⟩;have kb:=fun H=>zbJ H hc1;dsimp only[zd4];repeat' (first
   |(apply au ?_;clear hK K)|apply Rx.o ?_|(apply bQ (fun hg hgp=>?_) (fun hg hgp=>?_)<;>try(cases hg;done))|(apply aT (fun hb hbp=>?_) (fun hb hbp=>?_)<;>try(cases hb;done))|apply am ?_|(apply zdQ fun K hK=>?_)|apply aA ?_|apply zdR ?_|apply aB ?_|apply zdT ?_)
  have hvq:∀q o m z',v=.sl q o m z'->H.next<=q/\q<H3.next:=fun q o m z' e=>by
   rcases hrow with⟨rfl,_⟩|⟨q',imm,rows,rfl,e1,e2,_⟩
   .cases e
   .simp only[AV.sl.injEq]at e;rw[<-e.1];exact⟨e1,e2⟩
  have hrow4:ze4 (fun q=>H.next<=q) (8+k) (H4.alloc (.cells cs 0 true)) 17 v (l.map St.cells):=hrow.keep (fun q _ h=>h) fx fun q h1 h2=>by rw[zd1,ah ac,o4 q h2 ac]
  obtain⟨v5,H5,a5,s5,n5,f5,q5⟩:=ze4.push (P:=Tryz.prog) (t:=60) Tryz.underlying60 DH IK IL rfl aC hrow4 fx (r:=H4.next) (imm:=0) (row:=cs) (w:=(zfF f k deep sd).1.cells) eR hc1 hc2 (hc3.keep2 (fun q h1 h2=>⟨ac,fun o m z' e=>by have:=(hvq q o m z' e).2;omega⟩) (cZ _) fun q h1 h2=>ez) BI BI;refine ji eV eV t9 ?_;have hi0:0<i:=ac;obtain⟨i,rfl⟩:∃j,i=j+1:=⟨i-1,ac⟩;have hwd:IntKind.wrap .i64 (((i+1:Nat):Int)-1)=(i:Int):=vZ;simp only[zea]at n5 f5;have n5':H3.next<=H5.next:=ac
  have o5:∀q,q<H.next->q≠r->H5.get q=H.get q:=fun q h1 h2=>by rw[f5 q ac (fun o m z' e=>FN),zd1,ah ac,o4 q ac h2,o3 q h1 h2]
  have hr5:fZ lo H5 r (zfF f k deep sd).2.1 (zfF f k deep sd).2.2:=hr4.keep ac fun q hq=>by rw[f5 q ac (fun o m z' e=>FN),zd1,ah ac]
  clear n5 f5 a5 hrow4 o4 hr4;repeat' (first
   |(apply au ?_;clear hK K)|apply Rx.o ?_|(apply bQ (fun hg hgp=>?_) (fun hg hgp=>?_)<;>try(cases hg;done))|(apply aT (fun hb hbp=>?_) (fun hb hbp=>?_)<;>try(cases hb;done))|apply am ?_|(apply zdQ fun K hK=>?_)|apply aA ?_|apply zdR ?_|apply aB ?_|apply zdT ?_)
  have hne:sd.1≠[]:=by
   intro e;have:sd.1.length=0:=by rw[e];rfl
   omega
  have hsd:=yC f k deep sd;refine⟨(by simp only[zec,zeb,aX,zdX,zd2,Nat.reduceBEq,Nat.reduceAdd,Nat.reduceLeDiff,tyF, *]),(by simp only[zeb]),ac,i,cL _,ac,eE,v5,l++[(zfF f k deep sd).1],(zfF f k deep sd).2,eE,by rw[pU];exact s5,hr5,o5,cT,ac,?_⟩;rw[hJ,fT,ah hne];simp
 all_goals
  all_goals (refine⟨zdZ,_,zd6,?_⟩;try simp only[zdY])
  have hfin:fT (zfF f k deep) i sd=([],sd):=by
   rcases(by omega:i=0\/sd.1.length=0)with h|h
   .rw[h];rfl
   .cases i with
    |zero=>rfl
    |succ i=>rw[fT,aE (xI h)]
  rw[hJ,hfin];exact⟨by rw[ll];exact hrow,hr3,hle,o3⟩
end
section
theorem sV{m:Int}(h:0<=m):[AV.str [102],AV.str [103]][(m.tmod 2).toNat]?=some (.str (jX m)):=by
 rw[FP h,jX];split<;>rfl
theorem zxq{P:Program}{cfg:Cfg}{f N:Nat}{a:SC}{E:aG}{H:Hp}{Q:AX->aG->Hp->Prop}(F:aG->Hp->Prop)(h1:zex P cfg f N a E H fun x E' H'=>x=.normal/\F E' H')(h2:∀E' H',F E' H'->Q .normal E' H'):zex P cfg f N a E H Q:=
 zex.mono (fun x E' H' h=>by obtain⟨rfl,h⟩:=h;exact h2 E' H' h) h1
theorem fZ.tick{lo:Nat}{H:Hp}{r:Nat}{L:List Int}{c:Int}(h:fZ lo H r L c):∃v,H.get r=some (.cells [v,.int .i64 c] 0 true)/\∀c',fZ lo (H.set r (.cells [v,.int .i64 c'] 0 true)) r L c':=by
 obtain⟨h0,h00,v,h1,h2⟩:=h;refine⟨v,h1,fun c'=>⟨h0,h00,v,ft,?_⟩⟩;rcases h2 with h2|⟨b,off,cs,imm,e1,e2,e3,e4,e5⟩
 .exact .inl h2
 .exact .inr ⟨b,off,cs,imm,e1,by rw[bz,ah e4];exact e2,e3,e4,e5⟩
theorem kb1(nm:List UInt8)(v0 v1 v2 v3 v4:AV):zfy Tryz.prog 96 [(0,.int .i64 1),(1,.str nm),(5,.agg [v0,v1,v2,v3,v4])]=some (.agg [.int .i64 1,.str nm,.str [],.int .i64 0,.int .i64 0,.int .i64 0,.str [],.int .i64 0,.nilS,v0,v1,v2,v3,v4,.nilS,.nilS,.nilS]):=bS1 nm rfl
theorem kb2(nm:List UInt8)(a0 a1 a2 a3 a4 v0 v1 v2 v3 v4:AV):zfy Tryz.prog 96 [(0,.int .i64 2),(1,.str nm),(4,.agg [a0,a1,a2,a3,a4]),(5,.agg [v0,v1,v2,v3,v4])]=some (.agg [.int .i64 2,.str nm,.str [],.int .i64 0,a0,a1,a2,a3,a4,v0,v1,v2,v3,v4,.nilS,.nilS,.nilS]):=bS2 nm rfl rfl
theorem MP(k:Int)(v0 v1 v2 v3 v4:AV):zfy Tryz.prog 96 [(0,.int .i64 k),(5,.agg [v0,v1,v2,v3,v4])]=some (.agg [.int .i64 k,.str [],.str [],.int .i64 0,.int .i64 0,.int .i64 0,.str [],.int .i64 0,.nilS,v0,v1,v2,v3,v4,.nilS,.nilS,.nilS]):=bS3 k rfl
theorem kb6(nm to:List UInt8):zfy Tryz.prog 96 [(0,.int .i64 6),(1,.str nm),(2,.str to)]=some (.agg [.int .i64 6,.str nm,.str to,.int .i64 0,.int .i64 0,.int .i64 0,.str [],.int .i64 0,.nilS,.int .i64 0,.int .i64 0,.str [],.int .i64 0,.nilS,.nilS,.nilS,.nilS]):=bS6 nm to
theorem MQ(n:Int):zfy Tryz.prog 96 [(0,.int .i64 7),(3,.int .i64 n)]=some (.agg [.int .i64 7,.str [],.str [],.int .i64 n,.int .i64 0,.int .i64 0,.str [],.int .i64 0,.nilS,.int .i64 0,.int .i64 0,.str [],.int .i64 0,.nilS,.nilS,.nilS,.nilS]):=bS7 n
theorem rI(c0 c1 c2 c3 c4 c5 c6 c7 c8 c9 d0 d1 d2 d3 d4 d5 d6:AV):ze6 17 [c0,c1,c2,c3,c4,c5,c6,c7,c8,c9,d0,d1,d2,d3,d4,d5,d6]=some (.agg [c0,c1,c2,c3,c4,c5,c6,c7,c8,c9,d0,d1,d2,d3,d4,d5,d6]):=rfl
theorem MR:ze5 Tryz.prog 96=some [.int .i64 0,.str [],.str [],.int .i64 0,.int .i64 0,.int .i64 0,.str [],.int .i64 0,.nilS,.int .i64 0,.int .i64 0,.str [],.int .i64 0,.nilS,.nilS,.nilS,.nilS]:=aC
theorem sW{a b c d e:AV}(h:[a,b,c,d,e].all AV.one=true):AV.one a=true/\AV.one b=true/\AV.one c=true/\AV.one d=true/\AV.one e=true:=by
 simp only[sF,nT,l5,cJ]at h;exact⟨h.1,h.2.1,h.2.2.1,h.2.2.2.1,h.2.2.2.2⟩
theorem uF{lo:Nat}{H:Hp}{r n:Nat}{H5:Hp}{L:List Int}{c:Int}{cs:List AV}{x:St}(hl:cs.length=17)(ha:cs.all AV.one=true)(hc:zeA (fun q=>H.next<=q) n H5 cs x.cells)(hr:fZ lo H5 r L c)(hn:H.next<=H5.next)(ho:∀q,q<H.next->q≠r->H5.get q=H.get q):yA 17 n lo H r x.cells L c (.agg cs) H5:=⟨⟨cs,rfl,hl,ha,hc⟩,hr,hn,ho⟩
def nh:SC->SC
 | .seq _ b=>b
 |x=>x
noncomputable def mn:SC:=nh (nh (nh (nh (nh (nh qq.1)))))
noncomputable def qr(f:Int)(k deep:Nat):Int->zeK->List St×zeK:=fun most s=>fT (zfF f k (deep+1)) (zei (zes s.1).1 (most+1)).toNat ((zes s.1).2,s.2)
structure AtT (f:Int) (deep lo:Nat) (H H2:Hp) (r:Nat) (L1:List Int) (c q m:Int) (E2:aG):Prop where
 hd:deep<=3
 hrl:r<lo
 hlo:lo<=H.next
 n2:H2.next=H.next+1
 g2:H2.get H.next=some (.cells [.int .i64 0,.str [],.str [],.int .i64 0,.int .i64 0,.int .i64 0,.str [],.int .i64 0,.nilS,.int .i64 0,.int .i64 0,.str [],.int .i64 0,.nilS,.nilS,.nilS,.nilS] 0 true)
 o2:∀q,q<H.next->q≠r->H2.get q=H.get q
 hr2:fZ lo H2 r L1 c
 hL:L1.length<2^60
 hm:0<=m/\m<1000
 hqd:8<=q->q<12->deep<=2
 k0:E2.at 0=.ptr r 0
 k1:E2.at 1=.int .i64 f
 k2:E2.at 2=.int .i64 deep
 k6:E2.at 6=.ptr H.next 0
 k8:E2.at 8=fL (zeD f)
 k9:E2.at 9=.int .i64 m
 k10:E2.at 10=.int .i64 q
def mo(k:Nat)(f:Int)(deep lo:Nat)(H:Hp)(r:Nat)(L1:List Int)(c q m:Int):AX->aG->Hp->Prop:=fun x E' H'=>(x=.normal\/x=.ret)/\∃vs,zfD Tryz.prog E' H' [.cell 6 96]=some vs/\yA 17 (8+(k+1)) lo H r (jH (qr f k deep) f L1 c q m).1.cells (jH (qr f k deep) f L1 c q m).2.1 (jH (qr f k deep) f L1 c q m).2.2 (zdY vs) H'
namespace tyLoL
end tyLoL
open tyLoL
theorem ztl:∀(l:List zeP) (nm:zeP),ze2 l nm=false->cR l nm=0
 |[],_,_=>rfl
 |a::l,nm,h=>by
  have hs:ze2 (a::l) nm=(decide (a=nm)||ze2 l nm):=rfl;rw[hs,pO,nQ]at h;rw[cR,ah h.1,h.2];rfl
def FS(p:Pr)(n:Nat):Prop:=∀f∈p.funcs,∃s v,ij (oA p f) n f.body (kA f)=some s/\eL (oA p f) n f.value s=some v/\Fin v.2
def BO(H':Hp)(u:Un)(e:Int)(v:AV):Prop:=∃cs S,v=.tup [.agg cs,.int .i64 e]/\zeA S 5 H' cs u.cells
theorem zbQ(H:Hp){cs:List AV}(h:cs.length=5)(h1:cs.all AV.one=true):zfn Tryz.prog H 25 1 [(0,.agg cs)]=some (.sl H.next 0 1 5,H.alloc (.cells cs 0 true)):=by
 obtain⟨a,b,c,d,e,rfl⟩:=jE h;kernel_rfl
theorem zbR{S:Nat->Prop}{H:Hp}{lv:AV}{l:List Nd}(nm:List UInt8)(np v st:Int)(h:ze4 S 2 H 3 lv (l.map Nd.cells)):zeA S 3 H [.str nm,.int .i64 np,lv,.int .i64 v,.int .i64 st] (Gr.mk nm np l v st).cells:=
 .cons (.str _) (.cons (.int _ _) (.cons h.rd (.cons (.int _ _) (.cons (.int _ _) .nil))))
theorem BO.wk{H':Hp}{u:Un}{e:Int}{v:AV}(h:BO H' u e v):∃m w,iceV H' m v=some w/\cP 60 w=.tup [.agg u.cells,.int .i64 e]:=by
 obtain⟨cs,S,rfl,us,h1,h2⟩:=h;have h3:zeS S 100 H' (.agg cs) (.agg us):=zeS.up (n:=6) ⟨us,h1,rfl⟩ ac;obtain⟨m0,hm⟩:=Ap (S:=S) (n:=100) (H:=H') (fun k=>zeS.iceV k) (l:=[.agg cs,.int .i64 e]) (k:=[.agg us,.int .i64 e]) ⟨h3,nV ⟨.int _ _,trivial⟩,trivial⟩;refine⟨m0+1,.tup [.agg us,.int .i64 e],?_,?_⟩
 .have e1:iceV H' (m0+1) (.tup [.agg cs,.int .i64 e])=match iceL (iceV H' m0) [.agg cs,.int .i64 e]with
   |some vs=>some (.tup vs)
   |none=>none:=rfl
  rw[e1,hm m0 (aM _)]
 .show AV.tup [.agg (us.map (cP 58)),.int .i64 e]=_;rw[h2 58 ac]
end
section
def tyQaB.tyF:=ad @eI (ad @dC (ad @ge (ad @en (ad @iw (ad @iy (ad @jP (ad @qP (ad @eU (ad @jO (ad @kO (ad @qO (ad @Bv (@Fq)))))))))))))
open tyQaB
noncomputable def MT:{c:SC // aS 52 (Tryz.f53.body.getD .skip)=c}:=by
 refine⟨?_,?_⟩;rotate_left
 .simp only[Tryz.f53,cj,aS,zen,zel,zeu,zev,Nat.blt,Nat.ble];rfl
noncomputable def MU:{c:SC // aS 25 (Tryz.f91.body.getD .skip)=c}:=by
 refine⟨?_,?_⟩;rotate_left
 .simp only[Tryz.f91,cj,aS,zen,zel,zeu,zev,Nat.blt,Nat.ble];rfl
noncomputable def MV:{c:SC // aS 28 (Tryz.f92.body.getD .skip)=c}:=by
 refine⟨?_,?_⟩;rotate_left
 .simp only[Tryz.f92,cj,aS,zen,zel,zeu,zev,Nat.blt,Nat.ble];rfl
def FT(f:FuncId):Bool:=Nat.beq f 53||Nat.beq f 91||Nat.beq f 92||Nat.beq f 94||Nat.beq f 93||Nat.beq f 55||Nat.beq f 165||Nat.beq f 54||Nat.beq f 90||Nat.beq f 139
noncomputable def BP:En:=⟨67,true,cy v9 pD fun x=>.bool (decide (x.1=x.2))⟩
theorem zto(ρ:Nat->Int):zeO Tryz.prog ρ BP:=zeV fun x hx=>LA ρ x hx
structure RefT (tb:List En):Prop where
 pl:∀f,FT f=true->(∀ar,zeN tb f ar=none)/\jx tb f=false
 sn:∀ar,zeN tb 67 ar=(nW BP).sp ar
 sni:jx tb 67=true
 ff:∀ar,zeN tb 108 ar=vR.sp ar
theorem RefT.plain{tb:List En}(h:RefT tb){f:FuncId}(hf:FT f=true):Plain (zdW pls tb) f:=zfv (h.pl f hf).1 (h.pl f hf).2
theorem zbT(y:Nd×Nd):(pD y).any (lJ 90)=false:=by obtain⟨⟨a,b,c⟩,⟨d,e,f⟩⟩:=y;rfl
theorem snX{tb:List En}(hG:RefT tb){S:Nat->Prop}{n:Nat}{H:Hp}{cs ds:List AV}{x y:Nd}(hn:n<57)(hc:zeA S n H cs x.cells)(hd:zeA S n H ds y.cells)(hok:x.kids.length<2^60):
 zd5 Tryz.prog (zdW pls tb) 67 [.agg cs,.agg ds] H fun w H'=>w=.bool (decide (x=y))/\Icy S H H':=by
 obtain⟨us,h1,h2⟩:zeA S (n+1) H [.agg cs,.agg ds] (pD (x,y)):=.cons (.agg hc) (.cons (.agg hd) .nil);exact x4 (x:=((x,y):Nd×Nd)) (enc:=pD) (ok:=v9) (out:=fun x=>.bool (decide (x.1=x.2))) Ly (fun ar=>by rw[hG.sn];rfl) hG.sni zbT hok ac h1 (h2 60 ac)
theorem ze4.get{S:Nat->Prop}{n z:Nat}{H:Hp}{v:AV}{ws:List (List AV)}(h:ze4 S n H z v ws){i:Nat}{w:List AV}(hi:ws[i]?=some w):∃(q imm:Nat) (rows:List (List AV)) (row:List AV),v=.sl q 0 ws.length z/\S q/\q<H.next/\H.get q=some (.cells rows.flatten imm true)/\rows[i]?=some row/\row.length=z/\(∀x∈rows,x.length=z)/\zeA (fun k=>S k/\k≠q) n H row w:=by
 rcases h with⟨_,h2⟩|⟨q,imm,rows,e,h1,h2,h3,h4,h5⟩
 .subst h2;simp at hi
 .have hl:=dk.len h5;have hlt:i<ws.length:=by
   by_cases c:i<ws.length
   .exact c
   .rw[iY ac]at hi;cases hi
  have hr:rows[i]?=some rows[i]:=br ac;obtain⟨k1,k2⟩:=dk.get h5 hr hi;exact⟨q,imm,rows,_,by rw[e,hl],h1,h2,h3,hr,k1,fb.len h5,k2⟩
theorem zbV{q n i:Nat}(h:i<n):zeE Tryz.prog 22 (.sl q 0 n 3) (.int .i64 (i:Int))=some (.ptr q (i*3)):=by rw[mL Tryz.underlying22 oW h];simp
theorem RepQ.icy{X:Qx}{H H':Hp}{S S0:Nat->Prop}{s:Bd}{lv vv:AV}(h:RepQ X H S s lv vv)(hi:Icy S0 H H')(hd:∀k,S0 k->k<H.next->X.b<k/\¬zd3 vv k/\¬zd3 X.nv k):RepQ X H' S s lv vv:=by
 have hg:∀k,k<H.next->(k<=X.b\/zd3 vv k\/zd3 X.nv k)->H'.get k=H.get k:=fun k hk hc=>hi.out k fun e=>by
  have:=hd k e hk;rcases hc with hc|hc|hc
  .omega
  .exact this.2.1 hc
  .exact this.2.2 hc
 have hn:=hi.next
 refine⟨by rw[hg _ h.o5 (.inl (aM _))];exact h.m,h.nm.keep ac fun k hk=>hg k (h.nS k hk).2.1 (.inr (.inr hk)),h.nodes.icyB ac fun k _ _=>hi.same k,h.vars.keep ac fun k hk=>hg k (h.vS k hk).2 (.inr (.inl hk)),by rw[hn];exact h.o5,fun k hk=>?_,fun k hk=>?_,fun k hk=>?_⟩
 .rw[hn];exact h.nS k hk
 .rw[hn];exact h.sS k hk
 .rw[hn];exact h.vS k hk
theorem FU{H:Hp}{v:AV}{l:List Int}{lo:Nat}(hv:ze0 H v l lo)(hl:l.length<2^38):∃v' H',zeZ Tryz.prog false (H.alloc (.cells [] 0 true)) 23 23 (.sl H.next 0 0 1) v=some (v',H')/\gQ H' v' l H.next/\H.next+1<=H'.next/\(∀k,k<H.next->H'.get k=H.get k):=by
 have hk:∀k,k<H.next->(H.alloc (.cells [] 0 true)).get k=H.get k:=fun k hk=>ez
 have he:mQ (H.alloc (.cells [] 0 true)) (.sl H.next 0 0 1) [] H.next:=⟨H.next,rfl,ev,aM _,cL _⟩
 have hv2:ze0 (H.alloc (.cells [] 0 true)) v l lo:=hv.keep (cZ _) fun k h=>hk k (hv.lt h).2;by_cases hm:l=[]
 .subst hm;refine⟨_,_,?_,.inr he,aM _,hk⟩;rcases hv2 with⟨rfl,_⟩|⟨r,imm,rfl,h2,_⟩
  .simp only[zeZ,Tryz.underlying23,gN,mM,mN,show zfT Tryz.prog 23=true by kernel_rfl,zfz]
  .have g3:=sq h2;simp only[fV]at g3;simp only[zeZ,Tryz.underlying23,gN,mM,mN,show zfT Tryz.prog 23=true by kernel_rfl,fV,g3]
 .have hx:zfz (H.alloc (.cells [] 0 true)) 1 v=some (l.length,l.map (.int .i64)):=by
   rcases hv2 with⟨_,h⟩|⟨r,imm,rfl,h2,_⟩
   .exact(hm h).elim
   .exact sq h2
  obtain⟨v',H',h1,h2,h3,h4,_⟩:=At (v:=.sl H.next 0 0 1) (l:=[]) (lo:=H.next) (.inr he) fx hx hm cT;rw[nH]at h2;simp only[zea]at h3;exact⟨v',H',h1,.inr h2,ac,fun k h=>by rw[h4 k h,hk k h]⟩
def nq(i:Nat)(l:List zeP)(s:zeP):Nat:=if ze2 l s=true then i+cR l s else 0
theorem MW(l:List zeP)(s:zeP):cR l s=nq 0 l s:=by
 unfold nq;split
 .omega
 .rename_i h;exact ztl l s jM
theorem MX(i:Nat)(l:List zeP)(s:zeP):nq i (s::l) s=i:=by
 have h:ze2 (s::l) s=true:=by simp[ze2]
 rw[nq,aE h,cR,aE rfl];rfl
theorem MY{i:Nat}{a:zeP}{l:List zeP}{s:zeP}(h:a≠s):nq i (a::l) s=nq (i+1) l s:=by
 have e:ze2 (a::l) s=ze2 l s:=by simp[ze2,h]
 unfold nq;rw[e,cR,ah h];split
 .omega
 .rfl
theorem ztq{tb:List En}(hG:RefT tb){X:Qx}{H:Hp}{S:Nat->Prop}{s:Bd}{lv vv:AV}(hR:RepQ X H S s lv vv)(nm:zeP)(hl:X.ns.length<2^40):
 zd5 Tryz.prog (zdW pls tb) 91 [.ptr X.b 0,.str nm] H fun v H'=>v=.int .i64 ((cR X.ns nm:Nat):Int)/\H'=H:=by
 have hw:Plain (zdW pls tb) 91:=hG.plain ei;have zeX:=hR.m;unfold zek at zeX;have hlen:∀H',zeR Tryz.prog H' 59 X.nv=some (.int .i64 X.ns.length):=fun H'=>by
  rcases hR.nm with⟨e,h⟩|h
  .rw[e,h];exact zgl Tryz.underlying59
  .exact h.len
 rw[MW];refine zed (M:=25) (rs:=[.tmp 4]) (hw.call _) hw.ice hw.froz Tryz.func91 rfl rfl MU.2 rfl ?_;dsimp only[MU,zd8,Nat.reduceAdd];repeat' (first
  |(apply au ?_;clear hK K)|apply Rx.o ?_|apply am ?_|(apply zdQ fun K hK=>?_)|apply aA ?_|apply zdR ?_|apply aB ?_|apply zdT ?_)
 refine zeL [0,1] [] 5 X.ns.length (fun i E H2=>H2=H/\nq 0 X.ns nm=nq i (X.ns.drop i) nm) eE ⟨rfl,aK⟩ ?_;rintro i E H2 hi hcE hrH hnH hsI ⟨hHe,hJ⟩;(try simp only[zec,zeb,aX,zdX,zd2,Nat.reduceBEq,Nat.reduceAdd,Nat.reduceLeDiff,tyF, *]at hcE);(try simp only[zec,zeb,aX,zdX,zd2,Nat.reduceBEq,Nat.reduceAdd,Nat.reduceLeDiff,tyF, *]at hrH);(try simp only[zea,zef,zeB,bT,Nat.reduceAdd]at hnH);subst hHe;by_cases hlt:i<X.ns.length
 .have hlt':(i:Int)<X.ns.length:=by omega
  have hB:ze9 H2 X.nv X.ns 0:=by
   rcases hR.nm with⟨e,h⟩|h
   .rw[h]at hlt;simp at hlt
   .exact h
  obtain⟨r,hix,hld⟩:=hB.at hlt;rw[jl hlt]at hJ;generalize X.ns[i]=a at *;by_cases he:a=nm
  .subst he;rw[MX]at hJ;repeat' (first
    |(apply au ?_;clear hK K)|apply Ry.o ?_|(apply aV (fun hb hbp=>?_) (fun hb hbp=>?_)<;>try(cases hb;done))|apply am ?_|(apply zdQ fun K hK=>?_)|apply aA ?_|apply zdR ?_|apply aB ?_|apply zdT ?_)
   all_goals (refine⟨zdZ,_,zd6,?_⟩;try simp only[zdY])
   refine⟨?_,trivial⟩;rw[hJ]
  .rw[MY he]at hJ;repeat' (first
    |(apply au ?_;clear hK K)|apply Ry.o ?_|(apply aV (fun hb hbp=>?_) (fun hb hbp=>?_)<;>try(cases hb;done))|apply am ?_|(apply zdQ fun K hK=>?_)|apply aA ?_|apply zdR ?_|apply aB ?_|apply zdT ?_)
   refine⟨ac,zd7,zd7,eN,(by simp only[zdX,Nat.reduceBEq, *];exact zfQ (n:=X.ns.length) ac ac),?_⟩;exact⟨rfl,hJ⟩
 .have hlt':¬(i:Int)<X.ns.length:=by omega
  have hd:X.ns.drop i=[]:=rE ac;rw[hd]at hJ;repeat' (first
   |(apply au ?_;clear hK K)|apply Ry.o ?_|(apply aV (fun hb hbp=>?_) (fun hb hbp=>?_)<;>try(cases hb;done))|apply am ?_|(apply zdQ fun K hK=>?_)|apply aA ?_|apply zdR ?_|apply aB ?_|apply zdT ?_)
  all_goals (refine⟨zdZ,_,zd6,?_⟩;try simp only[zdY])
  refine⟨?_,trivial⟩;rw[hJ];simp[nq,ze2]
theorem zoy{tb:List En}(hG:RefT tb){X:Qx}{H:Hp}{S:Nat->Prop}{s:Bd}{lv vv:AV}(hR:RepQ X H S s lv vv)(nm:zeP)(hl:X.p.arrays.length<2^40):
 zd5 Tryz.prog (zdW pls tb) 92 [.ptr X.b 0,.str nm] H fun v H'=>v=.int .i64 ((cR (X.p.arrays.map (·.name)) nm:Nat):Int)/\H'=H:=by
 have hw:Plain (zdW pls tb) 92:=hG.plain ei;have zeX:=hR.m;unfold zek at zeX;rw[MW];refine zed (M:=28) (rs:=[.tmp 4]) (hw.call _) hw.ice hw.froz Tryz.func92 rfl rfl MV.2 rfl ?_;dsimp only[MV,zd8,Nat.reduceAdd];repeat' (first
  |(apply au ?_;clear hK K)|apply Rx.o ?_|apply am ?_|(apply zdQ fun K hK=>?_)|apply aA ?_|apply zdR ?_|apply aB ?_|apply zdT ?_)
 refine zeL [0,1] [] 5 X.p.arrays.length (fun i E H2=>H2=H/\nq 0 (X.p.arrays.map (·.name)) nm=nq i ((X.p.arrays.drop i).map (·.name)) nm) eE ⟨rfl,aK⟩ ?_;rintro i E H2 hi hcE hrH hnH hsI ⟨hHe,hJ⟩;(try simp only[zec,zeb,aX,zdX,zd2,Nat.reduceBEq,Nat.reduceAdd,Nat.reduceLeDiff,tyF, *]at hcE);(try simp only[zec,zeb,aX,zdX,zd2,Nat.reduceBEq,Nat.reduceAdd,Nat.reduceLeDiff,tyF, *]at hrH);(try simp only[zea,zef,zeB,bT,Nat.reduceAdd]at hnH);subst hHe;by_cases hlt:i<X.p.arrays.length
 .have hlt':(i:Int)<X.p.arrays.length:=by omega
  have hgx:X.p.arrays[i]?=some X.p.arrays[i]:=br hlt;rw[jl hlt,eF]at hJ;generalize X.p.arrays[i]=a at *;by_cases he:a.name=nm
  .rw[<-he]at hJ;rw[MX]at hJ;repeat' (first
    |(apply au ?_;clear hK K)|apply Ry.o ?_|(apply aV (fun hb hbp=>?_) (fun hb hbp=>?_)<;>try(cases hb;done))|apply am ?_|(apply zdQ fun K hK=>?_)|apply aA ?_|apply zdR ?_|apply aB ?_|apply zdT ?_)
   all_goals (refine⟨zdZ,_,zd6,?_⟩;try simp only[zdY])
   refine⟨?_,trivial⟩;rw[<-he,hJ]
  .rw[MY he]at hJ;repeat' (first
    |(apply au ?_;clear hK K)|apply Ry.o ?_|(apply aV (fun hb hbp=>?_) (fun hb hbp=>?_)<;>try(cases hb;done))|apply am ?_|(apply zdQ fun K hK=>?_)|apply aA ?_|apply zdR ?_|apply aB ?_|apply zdT ?_)
   refine⟨ac,zd7,zd7,eN,(by simp only[zdX,Nat.reduceBEq, *];exact zfQ (n:=X.p.arrays.length) ac ac),?_⟩;exact⟨rfl,hJ⟩
 .have hlt':¬(i:Int)<X.p.arrays.length:=by omega
  have hd:X.p.arrays.drop i=[]:=rE ac;rw[hd]at hJ;repeat' (first
   |(apply au ?_;clear hK K)|apply Ry.o ?_|(apply aV (fun hb hbp=>?_) (fun hb hbp=>?_)<;>try(cases hb;done))|apply am ?_|(apply zdQ fun K hK=>?_)|apply aA ?_|apply zdR ?_|apply aB ?_|apply zdT ?_)
  all_goals (refine⟨zdZ,_,zd6,?_⟩;try simp only[zdY])
  refine⟨?_,trivial⟩;rw[hJ];simp[nq,ze2]
set_option maxRecDepth 100000 in
theorem BQ{tb:List En}(hG:RefT tb){X:Qx}{H:Hp}{S:Nat->Prop}{s:Bd}{lv vv kv:AV}{lo:Nat}(hR:RepQ X H S s lv vv)(n:Nd)(hk:ze0 H kv n.kids lo)(hF:Fin (zdS n s).2):
 zd5 Tryz.prog (zdW pls tb) 53 [.ptr X.b 0,.int .i64 n.op,.int .i64 n.imm,kv] H (pF X S vv H (zdS n s)):=by
 have hw:Plain (zdW pls tb) 53:=hG.plain ei;have hkeep:(zdW pls tb).keep 53=false:=rfl;have hr:=hF.r;have hn:NdR n:=hr n (we.2 (.inr rfl));have hnl:=hn.len;have hlen:s.l.length<2^36:=ur (ux s.l n).length_le hF.l;have o5:=hR.o5;obtain⟨v5,H5,a5,s5,n5,f5⟩:=FU hk ac;have hb3:=Ms s5.n n.op n.imm;have hone0:=s5.n.one;refine zed (M:=52) (rs:=[.tmp 8]) (hw.call _) hw.ice hw.froz Tryz.func53 rfl rfl MT.2 rfl ?_;dsimp only[MT,zd8,Nat.reduceAdd];repeat' (first
  |(apply au ?_;clear hK K)|apply Rx.o ?_|apply ba ?_|apply am ?_|(apply zdQ fun K hK=>?_)|(apply zdP 5 [(3,8),(6,8),(7,8)] fun K hK=>?_)|(apply zdP 7 [(4,7),(5,7),(6,7)] fun K hK=>?_)|(apply zdU ?_;try intro _)|(apply zdV ?_ ?_<;>clear hK K)|apply aH ?_|apply zd9 rfl ?_|apply aA ?_|apply zdR ?_|apply aB ?_|apply zdT ?_)
 generalize hHb:Hp.set (Hp.alloc H5 _) _ _=Hb;have nb:Hb.next=H5.next+1:=yj
 have gb:Hb.get H5.next=some (.cells [.int .i64 n.op,.int .i64 n.imm,v5] 0 true):=yc
 have ob:∀k,k<H5.next->Hb.get k=H5.get k:=fun k hk=>KU
 have oo:∀k,k<H.next->Hb.get k=H.get k:=fun k hk=>by rw[ob k ac,f5 k hk]
 clear hHb;have R1:RepQ X Hb S s lv vv:=hR.keep ac fun k hk _=>oo k hk;have hv5:ze0 Hb v5 n.kids H.next:=s5.n.keep ac fun k hk=>ob k (s5.n.lt hk).2
 have hone:=hv5.one;have hlt5:∀k,zd3 v5 k->H.next<=k/\k<H5.next:=fun k hk=>⟨(s5.n.lt hk).1,(s5.n.lt hk).2⟩
 clear a5 s5 f5 ob;refine zeL [0,9] [] 10 s.l.length (fun i E Hi=>RepQ X Hi S s lv vv/\Hi.get H5.next=some (.cells [.int .i64 n.op,.int .i64 n.imm,v5] 0 true)/\ze0 Hi v5 n.kids H.next/\(∀k,k<H.next->¬S k->Hi.get k=H.get k)/\fP s.l n=i+fP (s.l.drop i) n) eE ⟨R1,gb,hv5,fun k h1 _=>oo k h1,aK⟩ ?_;clear gb hv5 R1;rintro i E Hi hi hcE hrH hnH hsI ⟨Ri,gi,vi,oi,hix⟩;(try simp only[zec,zeb,aX,zdX,zd2,Nat.reduceBEq,Nat.reduceAdd,Nat.reduceLeDiff,tyF, *]at hcE);(try simp only[zec,zeb,aX,zdX,zd2,Nat.reduceBEq,Nat.reduceAdd,Nat.reduceLeDiff,tyF, *]at hrH);(try simp only[zea,zef,zeB,bT,Nat.reduceAdd]at hnH);have ni:Hb.next<=Hi.next:=hnH
 have mi:=Ri.m;have hll:∀H',zeR Tryz.prog H' 22 lv=some (.int .i64 s.l.length):=fun H'=>by
  have:=Ri.nodes.len (P:=Tryz.prog) (t:=22) (H':=H') Tryz.underlying22
  rwa [dy]at this
 unfold zek at mi;by_cases hlt:i<s.l.length
 .have hlt':(i:Int)<s.l.length:=by omega
  have hgx:s.l[i]?=some s.l[i]:=br hlt;have hxr:NdR s.l[i]:=hr _ (we.2 (.inl (dX hlt)));rw[jl hlt,Mk]at hix;generalize s.l[i]=x at *;have hxl:=hxr.len;obtain⟨q,imm,rows,row,hlv,hq1,hq2,hq3,hr1,hr2,hr3,hr4⟩:=Ri.nodes.get (i:=i) (w:=x.cells) (by rw[fF,hgx];rfl);rw[dy]at hlv;subst hlv;have hixa:=zbV (q:=q) hlt;have hag:=LN hr3 hr1;have hld:zfC Tryz.prog Hi 67 (.ptr q (i*3))=some (.agg row):=by
   rw[vk,hq3];exact hag
  have hnd:=FK (S:=fun k=>S k\/zd3 v5 k) n.op n.imm vi fun k hk=>.inr hk;have hcx:zeA (fun k=>S k\/zd3 v5 k) 2 Hi row x.cells:=hr4.keep (fun k hk=>.inl hk.1) (aM _) fun _ _ _=>rfl;repeat' (first
   |(apply au ?_;clear hK K)|apply Ry.o ?_|apply cD ?_|(apply aV (fun hb hbp=>?_) (fun hb hbp=>?_)<;>try(cases hb;done))|apply am ?_|(apply zdQ fun K hK=>?_)|(apply zdP 5 [(3,8),(6,8),(7,8)] fun K hK=>?_)|(apply zdP 7 [(4,7),(5,7),(6,7)] fun K hK=>?_)|(apply zdU ?_;try intro _)|(apply zdV ?_ ?_<;>clear hK K)|apply aH ?_|apply zd9 rfl ?_|apply aA ?_|apply zdR ?_|apply aB ?_|apply zdT ?_)
  refine bA rfl bE bF ?_;simp only[bB];refine bp ?_ (snX hG (n:=2) ac hcx hnd ac);rintro _ Hj ⟨rfl,hI⟩;have Rj:=Ri.icy hI fun k h1 h2=>by
   rcases h1 with h1|h1
   .exact⟨(Ri.sS k h1).1,(Ri.sS k h1).2.2,fun e=>(Ri.nS k e).2.2.1 h1⟩
   .have:=hlt5 k h1;exact⟨ac,fun e=>by have:=(hR.vS k e).2;omega,fun e=>by have:=(hR.nS k e).2.1;omega⟩
  have mj:=Rj.m;have vj:=vi.icy hI;have gj:Hj.get H5.next=some (.cells [.int .i64 n.op,.int .i64 n.imm,v5] 0 true):=by
   rw[hI.out _ (fun e=>by
    rcases e with e|e
    .have:=(hR.sS _ e).2.1;omega
    .have:=(hlt5 _ e).2;omega)]
   exact gi
  have oj:∀k,k<H.next->¬S k->Hj.get k=H.get k:=fun k h1 h2=>by
   rw[hI.out _ (fun e=>by
    rcases e with e|e
    .exact h2 e
    .have:=(hlt5 _ e).1;omega)]
   exact oi k h1 h2
  have hldj:zfC Tryz.prog Hj 67 (.ptr q (i*3))=some (.agg row):=by
   rcases hI.same q with e|⟨cs,a,b,tip,e1,e2,_⟩
   .rw[vk,<-e,hq3];exact hag
   .rw[hq3]at e1;simp only[aQ,HB.cells.injEq]at e1;obtain⟨rfl,rfl,rfl⟩:=e1;rw[vk,e2];exact hag
  have nj:=hI.next
  unfold zek at mj;dsimp only[zd4];by_cases he:x=n
  .rw[aE he]at hix;repeat' (first
    |(apply au ?_;clear hK K)|apply Ry.o ?_|apply cD ?_|(apply aV (fun hb hbp=>?_) (fun hb hbp=>?_)<;>try(cases hb;done))|apply am ?_|(apply zdQ fun K hK=>?_)|(apply zdP 5 [(3,8),(6,8),(7,8)] fun K hK=>?_)|(apply zdP 7 [(4,7),(5,7),(6,7)] fun K hK=>?_)|(apply zdU ?_;try intro _)|(apply zdV ?_ ?_<;>clear hK K)|apply aH ?_|apply zd9 rfl ?_|apply aA ?_|apply zdR ?_|apply aB ?_|apply zdT ?_)
   .exact eK
   all_goals (refine⟨zdZ,_,zd6,?_⟩;try simp only[zdY])
   have e1:zdS n s=(((fP s.l n:Nat):Int),s):=by rw[zdS,iB,aE ac]
   rw[pF,e1,hix];exact⟨aK,S,_,Rj,⟨ac,fun k h1 _ h3 _=>oj k h1 h3,fun k h=>.inl h,fun k h=>.inl h⟩⟩
  .rw[ah he]at hix;repeat' (first
    |(apply au ?_;clear hK K)|apply Ry.o ?_|apply cD ?_|(apply aV (fun hb hbp=>?_) (fun hb hbp=>?_)<;>try(cases hb;done))|apply am ?_|(apply zdQ fun K hK=>?_)|(apply zdP 5 [(3,8),(6,8),(7,8)] fun K hK=>?_)|(apply zdP 7 [(4,7),(5,7),(6,7)] fun K hK=>?_)|(apply zdU ?_;try intro _)|(apply zdV ?_ ?_<;>clear hK K)|apply aH ?_|apply zd9 rfl ?_|apply aA ?_|apply zdR ?_|apply aB ?_|apply zdT ?_)
   .exact eK
   refine⟨ac,zd7,zd7,eN,(by simp only[zdX,Nat.reduceBEq, *];exact zfQ (n:=s.l.length) ac ac),?_⟩;exact⟨Rj,gj,vj,oj,ac⟩
 .have hlt':¬(i:Int)<s.l.length:=by omega
  have hd:s.l.drop i=[]:=rE ac;rw[hd]at hix;have hi0:fP [] n=0:=rfl;have hixl:fP s.l n=s.l.length:=ac;have hadd:iB s.l n=s.l++[n]:=by rw[iB,ah ac]
  have hpo:zdS n s=(((fP s.l n:Nat):Int),{s with l:=s.l++[n] }):=by rw[zdS,hadd]
  have hSk:∀k,S k->X.b<k/\k<H.next:=fun k h=>⟨(hR.sS k h).1,(hR.sS k h).2.1⟩
  have hlS:∀k o m z',lv=.sl k o m z'->S k:=fun k o m z' e=>by
   rcases Ri.nodes with⟨h1,_⟩|⟨q,im,rows,h1,h2,_⟩
   .rw[h1]at e;cases e
   .rw[h1]at e;simp only[AV.sl.injEq]at e;rw[<-e.1];exact h2
  have hbs:∀H,zfn Tryz.prog H 22 1 [(0,.agg [.int .i64 n.op,.int .i64 n.imm,v5])]=some (.sl H.next 0 1 3,H.alloc (.cells [.int .i64 n.op,.int .i64 n.imm,v5] 0 true)):=fun H=>Bn H rfl BC;have g4:∀k,k<Hi.next->(Hi.alloc (.cells [.int .i64 n.op,.int .i64 n.imm,v5] 0 true)).get k=Hi.get k:=fun k hk=>ez
  obtain⟨H6,a6,s6,n6,q6⟩:=FI (P:=Tryz.prog) (t:=22) Tryz.underlying22 oW vp vq rfl aC (S':=fun k=>S k\/zd3 v5 k\/k=Hi.next+1)
   (Ri.nodes.keep (S':=S) (H':=Hi.alloc (.cells [.int .i64 n.op,.int .i64 n.imm,v5] 0 true)) (fun _ _ h=>h) (cZ _) fun k hk h6=>g4 k h6)
   (fun k _ h=>.inl h) (.inr (.inr rfl)) (r:=Hi.next) (imm:=0) (row:=[.int .i64 n.op,.int .i64 n.imm,v5]) (w:=n.cells) eR rfl BC
   (FK n.op n.imm (lo:=H.next) (vi.keep (cZ _) fun k hk=>g4 k (vi.lt hk).2) fun k hk2=>⟨.inr (.inl hk2),fun o m z' e=>by have:=hSk k (hlS k o m z' e);have:=hlt5 k hk2;omega⟩)
   wj wj
  rw[dy]at a6 s6;simp only[zea]at a6 s6 n6 q6;have hno:∀k,¬S k->∀o m z',lv≠.sl k o m z':=fun k hk o m z' e=>hk (hlS k o m z' e);have m4:(Hi.alloc (.cells [.int .i64 n.op,.int .i64 n.imm,v5] 0 true)).get X.b=some (.cells (zek X s lv vv) 0 true):=by rw[g4 _ Ri.o5];exact Ri.m
  have ge4:(Hi.alloc (.cells [.int .i64 n.op,.int .i64 n.imm,v5] 0 true)).get H5.next=some (.cells [.int .i64 n.op,.int .i64 n.imm,v5] 0 true):=by rw[g4 _ ac];exact gi
  have lo6:∀k,k<Hi.next->¬S k->H6.get k=Hi.get k:=fun k h1 h2=>by rw[q6 k ac (hno k h2),g4 k h1]
  have m6:H6.get X.b=some (.cells (zek X s lv vv) 0 true):=by rw[lo6 _ Ri.o5 fun e=>by have:=hSk _ e;omega];exact Ri.m
  have ge6:H6.get H5.next=some (.cells [.int .i64 n.op,.int .i64 n.imm,v5] 0 true):=by rw[lo6 _ ac fun e=>by have:=hSk _ e;omega];exact gi
  have ew:IntKind.wrap .i64 (((s.l.length+1:Nat):Int)-1)=s.l.length:=vZ;have fin:pF X S vv H (zdS n s) (.int .i64 s.l.length) (H6.set X.b (.cells (zek X {s with l:=s.l++[n] } (.sl (Hi.next+1) 0 (s.l.length+1) 3) vv) 0 true)):=by
   rw[pF,hpo,hixl];have g6:∀k,k≠X.b->(H6.set X.b (.cells (zek X {s with l:=s.l++[n] } (.sl (Hi.next+1) 0 (s.l.length+1) 3) vv) 0 true)).get k=H6.get k:=fun k hk=>jg;refine⟨rfl,fun k=>S k\/zd3 v5 k\/k=Hi.next+1,_,⟨ft,Ri.nm.keep dQ fun k hk=>?_,?_,Ri.vars.keep dQ fun k hk=>?_,dQ,fun k hk=>?_,?_,fun k hk=>?_⟩,⟨dQ,fun k h1 h2 h3 h4=>?_,?_,fun k h=>.inl h⟩⟩
   .have:=Ri.nS k hk;rw[g6 k ac,lo6 k this.2.1 this.2.2.1]
   .have e:(s.l++[n]).map Nd.cells=s.l.map Nd.cells++[n.cells]:=by simp
    rw[e];refine s6.keep (fun _ _ h=>h) (aM _) fun k hk _=>g6 k ?_;rcases hk with hk|hk|hk
    .have:=hSk k hk;omega
    .have:=hlt5 k hk;omega
    .have:=Ri.o5;omega
   .have h9:=Ri.vS k hk;rw[g6 k ac,lo6 k h9.2 fun e=>(Ri.sS k e).2.2 hk]
   .have h9:=Ri.nS k hk;have h8:=hR.nS k hk;refine⟨h9.1,dQ,?_,h9.2.2.2⟩;rintro(e|e|e)
    .exact h9.2.2.1 e
    .have:=hlt5 k e;omega
    .omega
   .rintro k (hk|hk|hk)
    .have h9:=Ri.sS k hk;exact⟨h9.1,dQ,h9.2.2⟩
    .have h8:=hlt5 k hk;exact⟨ac,dQ,fun e=>by have:=(hR.vS k e).2;omega⟩
    .refine⟨by have:=Ri.o5;omega,dQ,fun e=>?_⟩;have:=(Ri.vS k e).2;omega
   .have:=Ri.vS k hk;simp only[zef];omega
   .rw[g6 k h2,lo6 k ac h3];exact oi k h1 h3
   .rintro k (hk|hk|hk)
    .exact .inl hk
    .exact .inr (hlt5 k hk).1
    .exact .inr ac
  unfold zek at m4 m6 fin;clear s6 lo6 g4 q6 hno hlS;repeat' (first
   |(apply au ?_;clear hK K)|apply Ry.o ?_|apply cD ?_|(apply aV (fun hb hbp=>?_) (fun hb hbp=>?_)<;>try(cases hb;done))|apply am ?_|(apply zdQ fun K hK=>?_)|(apply zdP 5 [(3,8),(6,8),(7,8)] fun K hK=>?_)|(apply zdP 7 [(4,7),(5,7),(6,7)] fun K hK=>?_)|(apply zdU ?_;try intro _)|(apply zdV ?_ ?_<;>clear hK K)|apply aH ?_|apply zd9 rfl ?_|apply aA ?_|apply zdR ?_|apply aB ?_|apply zdT ?_)
  all_goals first
   |exact eK
   |skip
  all_goals (refine⟨zdZ,_,zd6,?_⟩;try simp only[zdY])
  exact fin
theorem zgc{tb:List En}(hG:RefT tb){X:Qx}{H:Hp}{S:Nat->Prop}{s:Bd}{lv vv:AV}(hR:RepQ X H S s lv vv)(n:Nd){r m:Nat}(hm:n.kids.length=m)(hg:H.get r=some (.cells (n.kids.map (.int .i64)) 0 true))(hr2:r<H.next)(hF:Fin (zdS n s).2){op imm:Int}(hop:n.op=op)(him:n.imm=imm):
 zd5 Tryz.prog (zdW pls tb) 53 [.ptr X.b 0,.int .i64 op,.int .i64 imm,.sl r 0 m 1] H (pF X S vv H (zdS n s)):=by
 subst hm;subst hop;subst him;exact BQ (lo:=0) hG hR n (.inr ⟨r,0,rfl,hg,dE _,dE _,hr2⟩) hF
theorem qs{tb:List En}(hG:RefT tb){X:Qx}{H:Hp}{S:Nat->Prop}{s:Bd}{lv vv:AV}(hR:RepQ X H S s lv vv)(op imm:Int)(hF:Fin (zdS ⟨op,imm,[]⟩ s).2):
 zd5 Tryz.prog (zdW pls tb) 53 [.ptr X.b 0,.int .i64 op,.int .i64 imm,.nilS] H (pF X S vv H (zdS ⟨op,imm,[]⟩ s)):=
 BQ (lo:=0) hG hR ⟨op,imm,[]⟩ (.inl ⟨rfl,rfl⟩) hF
end
section
def tyQaC.tyF:=ad @dC (ad @eU (ad @ge (ad @en (ad @jO (ad @kO (ad @iw (ad @iy (ad @qO (ad @qP (ad @BG (@rD)))))))))))
open tyQaC
noncomputable def BR:{c:SC // aS 19 (Tryz.f94.body.getD .skip)=c}:=by
 refine⟨?_,?_⟩;rotate_left
 .simp only[Tryz.f94,cj,aS,zen,zel,zeu,zev,Nat.blt,Nat.ble];rfl
noncomputable def MZ:{c:SC // aS 35 (Tryz.f93.body.getD .skip)=c}:=by
 refine⟨?_,?_⟩;rotate_left
 .simp only[Tryz.f93,cj,aS,zen,zel,zeu,zev,Nat.blt,Nat.ble];rfl
theorem wr{tb:List En}(hG:RefT tb){X:Qx}{H:Hp}{S:Nat->Prop}{s:Bd}{lv vv:AV}(hR:RepQ X H S s lv vv)(c a b:Int)(hF:Fin (zet c a b s).2):
 zd5 Tryz.prog (zdW pls tb) 94 [.ptr X.b 0,.int .i64 c,.int .i64 a,.int .i64 b] H (pF X S vv H (zet c a b s)):=by
 have hw:Plain (zdW pls tb) 94:=hG.plain ei;by_cases h:a=b
 .subst h;have e:zet c a a s=(a,s):=by rw[zet,aE rfl]
  rw[e];refine zed (M:=19) (rs:=[.tmp 8]) (hw.call _) hw.ice hw.froz Tryz.func94 rfl rfl BR.2 rfl ?_;dsimp only[BR,zd8,Nat.reduceAdd];repeat' (first
   |(apply au ?_;clear hK K)|apply Ry.o ?_|(apply aV (fun hb hbp=>?_) (fun hb hbp=>?_)<;>try(cases hb;done))|apply am ?_|(apply zdQ fun K hK=>?_)|apply zdR ?_|apply aB ?_)
  all_goals (refine⟨zdZ,_,zd6,?_⟩;try simp only[zdY])
  exact⟨rfl,S,lv,hR,fd _ _ _ _⟩
 .have e:zet c a b s=zdS ⟨22,0,[c,a,b]⟩ s:=by rw[zet,ah h]
  rw[e]at hF⊢;refine zed (M:=19) (rs:=[.tmp 8]) (hw.call _) hw.ice hw.froz Tryz.func94 rfl rfl BR.2 rfl ?_;dsimp only[BR,zd8,Nat.reduceAdd];repeat' (first
   |(apply au ?_;clear hK K)|apply Ry.o ?_|(apply aV (fun hb hbp=>?_) (fun hb hbp=>?_)<;>try(cases hb;done))|apply am ?_|(apply zdQ fun K hK=>?_)|apply zdR ?_|apply aB ?_)
  refine bA rfl bE bF ?_;simp only[bB];refine bp ?_ (zgc hG (hR.alloc _) ⟨22,0,[c,a,b]⟩ rfl ev (cL _) hF rfl rfl);intro w H2 h2;have h3:=h2.pre ((fd X S vv H).alloc _);obtain⟨rfl,h4⟩:=h2;dsimp only[zd4];repeat' (first
   |(apply au ?_;clear hK K)|apply Rx.o ?_|apply am ?_|(apply zdQ fun K hK=>?_)|apply zdR ?_|apply aB ?_)
  all_goals (refine⟨zdZ,_,zd6,?_⟩;try simp only[zdY])
  exact h3
theorem M0{tb:List En}(hG:RefT tb){X:Qx}{H:Hp}{S:Nat->Prop}{s:Bd}{lv vv:AV}(hR:RepQ X H S s lv vv)(k:Nat)(i:Int){a:Ar}(ha:X.p.arrays[k]?=some a)(hF:Fin (fQ a.len i s)):
 zd5 Tryz.prog (zdW pls tb) 93 [.ptr X.b 0,.int .i64 (k:Int),.int .i64 i] H (zbk X S vv H (fQ a.len i s)):=by
 have hw:Plain (zdW pls tb) 93:=hG.plain ei;have zeX:=hR.m;unfold zek at zeX;have hF2:Fin (zdS ⟨19,0,[i,(zdS ⟨1,a.len,[]⟩ s).1]⟩ (zdS ⟨1,a.len,[]⟩ s).2).2:=hF.le (rB _ _ _).le;have hF1:Fin (zdS ⟨1,a.len,[]⟩ s).2:=hF2.le (zfa _ _).le;refine zed (M:=35) (rs:=[]) (hw.call _) hw.ice hw.froz Tryz.func93 rfl rfl MZ.2 rfl ?_;dsimp only[MZ,zd8,Nat.reduceAdd];repeat' (first
  |(apply au ?_;clear hK K)|apply Rx.o ?_|apply ba ?_|apply am ?_|(apply zdQ fun K hK=>?_))
 refine bA rfl bE bF ?_;simp only[bB];refine bp ?_ (qs hG hR 1 a.len hF1);rintro w H2 ⟨rfl,S2,lv2,R2,F2⟩;dsimp only[zd4];repeat' (first
  |(apply au ?_;clear hK K)|apply Rx.o ?_|apply ba ?_|apply am ?_|(apply zdQ fun K hK=>?_))
 refine bA rfl bE bF ?_;simp only[bB];refine bp ?_ (zgc hG (R2.alloc _) ⟨19,0,[i,(zdS ⟨1,a.len,[]⟩ s).1]⟩ rfl ev (cL _) hF2 rfl rfl);rintro w H3 ⟨rfl,S3,lv3,R3,F3⟩;have F03:=F2.trans (((fd X S2 vv H2).alloc _).trans F3);have m3:=R3.m;unfold zek at m3;dsimp only[zd4];repeat' (first
  |(apply au ?_;clear hK K)|apply Rx.o ?_|apply ba ?_|apply am ?_|(apply zdQ fun K hK=>?_))
 refine bA rfl bE bF ?_;simp only[bB];refine bp ?_ (zgc hG (R3.alloc _) ⟨27,2,[(zdS ⟨19,0,[i,(zdS ⟨1,a.len,[]⟩ s).1]⟩ (zdS ⟨1,a.len,[]⟩ s).2).2.state,(zdS ⟨19,0,[i,(zdS ⟨1,a.len,[]⟩ s).1]⟩ (zdS ⟨1,a.len,[]⟩ s).2).1]⟩ rfl ev (cL _) (hF.le ⟨ol _,aM _⟩) rfl rfl);rintro w H4 ⟨rfl,S4,lv4,R4,F4⟩;have F04:=F03.trans (((fd X S3 vv H3).alloc _).trans F4);have m4:=R4.m;unfold zek at m4;dsimp only[zd4];repeat' (first
  |(apply au ?_;clear hK K)|apply Rx.o ?_|apply ba ?_|apply am ?_|(apply zdQ fun K hK=>?_))
 all_goals first
  |exact eK
  |skip
 all_goals (refine⟨zdZ,_,zd6,?_⟩;try simp only[zdY])
 obtain⟨a1,b1⟩:=R4.setS (zdS ⟨27,2,[(zdS ⟨19,0,[i,(zdS ⟨1,a.len,[]⟩ s).1]⟩ (zdS ⟨1,a.len,[]⟩ s).2).2.state,(zdS ⟨19,0,[i,(zdS ⟨1,a.len,[]⟩ s).1]⟩ (zdS ⟨1,a.len,[]⟩ s).2).1]⟩ (zdS ⟨19,0,[i,(zdS ⟨1,a.len,[]⟩ s).1]⟩ (zdS ⟨1,a.len,[]⟩ s).2).2).1;exact⟨S4,lv4,a1,F04.trans b1⟩
end
section
def tyQaD.tyF:=ad @eI (ad @dC (ad @eU (ad @ge (ad @en (ad @iw (ad @iy (ad @gg (ad @fW (ad @qP (ad @rD (@wm)))))))))))
open tyQaD
noncomputable def oF:{c:SC // aS 166 (Tryz.f55.body.getD .skip)=c}:=by
 refine⟨?_,?_⟩;rotate_left
 .simp only[Tryz.f55,cj,aS,zen,zel,zeu,zev,Nat.blt,Nat.ble];rfl
structure CxQ (X:Qx) (c:Cx):Prop where
 ar:X.p.arrays=c.arrays
 ns:X.ns=c.names
 fs:X.p.funcs=c.funcs
 l1:c.arrays.length<2^40
 l2:c.names.length<2^40
 l3:c.funcs.length<2^40
theorem CxQ.ix{tb:List En}(hG:RefT tb){X:Qx}{c:Cx}(hX:CxQ X c){H:Hp}{S:Nat->Prop}{s:Bd}{lv vv:AV}(hR:RepQ X H S s lv vv)(nm:zeP):
 zd5 Tryz.prog (zdW pls tb) 91 [.ptr X.b 0,.str nm] H fun v H'=>v=.int .i64 ((cR c.names nm:Nat):Int)/\H'=H:=by
 rw[<-hX.ns];exact ztq hG hR nm (by rw[hX.ns];exact hX.l2)
theorem M1{tb:List En}(hG:RefT tb){X:Qx}{c:Cx}(hX:CxQ X c){H:Hp}{S:Nat->Prop}{s:Bd}{lv vv:AV}(hR:RepQ X H S s lv vv)(nm:zeP):
 zd5 Tryz.prog (zdW pls tb) 92 [.ptr X.b 0,.str nm] H fun v H'=>v=.int .i64 ((cR (c.arrays.map (·.name)) nm:Nat):Int)/\H'=H:=by
 rw[<-hX.ar];exact zoy hG hR nm (by rw[hX.ar];exact hX.l1)
set_option maxRecDepth 100000 in
theorem qt{tb:List En}(hG:RefT tb){X:Qx}{c:Cx}(hX:CxQ X c):∀(n:Nat) (x:Ex) (s:Bd) (r:Int×Bd),eL c n x s=some r->Fin r.2->∀{H:Hp}{S:Nat->Prop}{lv vv:AV},RepQ X H S s lv vv ->
 zd5 Tryz.prog (zdW pls tb) 55 [.ptr X.b 0,.agg x.cells] H (pF X S vv H r)
 |0,x,s,r,h,_,_,_,_,_,_=>by simp[eL]at h
 |n+1,x,s,r,h,hF,H,S,lv,vv,hR=>by
  have IH:=qt hG hX n;have hw:Plain (zdW pls tb) 55:=hG.plain ei;have R1:=hR.alloc (.cells x.cells 0 true);have F1:=(fd X S vv H).alloc (.cells x.cells 0 true);have zeX:=R1.m;unfold zek at zeX;have gx:(H.alloc (.cells x.cells 0 true)).get H.next=some (.cells x.cells 0 true):=eR
  unfold eL at h;by_cases h1:x.kind=1
  .rw[aE h1,aQ]at h;subst h;refine zed (M:=166) (rs:=[.tmp 4]) (hw.call _) hw.ice hw.froz Tryz.func55 rfl rfl oF.2 rfl ?_;dsimp only[oF,zd8,Nat.reduceAdd];repeat' (first
    |(apply au ?_;clear hK K)|apply Ry.o ?_|apply cD ?_|(apply bS (fun hg hgp=>?_) (fun hg hgp=>?_)<;>try(cases hg;done))|(apply aV (fun hb hbp=>?_) (fun hb hbp=>?_)<;>try(cases hb;done))|apply am ?_|(apply zdQ fun K hK=>?_)|(apply zdP 5 [(3,7),(3,11),(6,7),(9,11)] fun K hK=>?_)|(apply zdU ?_;try intro _)|(apply zdV ?_ ?_<;>clear hK K)|apply aH ?_|apply aA ?_|apply zdR ?_|apply aB ?_)
   refine bA rfl bE bF ?_;simp only[bB];refine bp ?_ (qs hG R1 1 x.n hF);intro w H2 h2;have h4:=h2.pre F1;obtain⟨rfl,h3⟩:=h2;dsimp only[zd4];repeat' (first
    |(apply au ?_;clear hK K)|apply Rx.o ?_|apply ba ?_|apply am ?_|(apply zdQ fun K hK=>?_)|(apply zdP 5 [(3,7),(3,11),(6,7),(9,11)] fun K hK=>?_)|(apply zdU ?_;try intro _)|(apply zdV ?_ ?_<;>clear hK K)|apply aH ?_|apply aA ?_|apply zdR ?_|apply aB ?_)
   all_goals (refine⟨zdZ,_,zd6,?_⟩;try simp only[zdY])
   exact h4
  rw[ah h1]at h;by_cases h2:x.kind=2
  .rw[aE h2]at h;obtain⟨v,hv,rfl⟩:=mD.1 h;have kix:=CxQ.ix hG hX R1 x.name;obtain⟨q,hix,hld⟩:=R1.atV hv;refine zed (M:=166) (rs:=[.tmp 4]) (hw.call _) hw.ice hw.froz Tryz.func55 rfl rfl oF.2 rfl ?_;dsimp only[oF,zd8,Nat.reduceAdd];repeat' (first
    |(apply au ?_;clear hK K)|apply Ry.o ?_|apply cD ?_|(apply dq ?_;first|refine Rx.k (kix) ?_)|(apply bS (fun hg hgp=>?_) (fun hg hgp=>?_)<;>try(cases hg;done))|(apply aV (fun hb hbp=>?_) (fun hb hbp=>?_)<;>try(cases hb;done))|apply am ?_|(apply zdQ fun K hK=>?_)|(apply zdP 5 [(3,7),(3,11),(6,7),(9,11)] fun K hK=>?_)|(apply zdU ?_;try intro _)|(apply zdV ?_ ?_<;>clear hK K)|apply aH ?_|apply aA ?_|apply zdR ?_|apply aB ?_)
   .exact eK
   all_goals (refine⟨zdZ,_,zd6,?_⟩;try simp only[zdY])
   exact⟨rfl,S,lv,R1,F1⟩
  rw[ah h2]at h;by_cases h3:x.kind=3
  .rw[aE h3]at h;simp only[gL]at h;obtain⟨k,hk,r1,he,a,ha,rfl⟩:=h;have ha':X.p.arrays[cR (c.arrays.map (·.name)) x.name]?=some a:=by rw[hX.ar];exact ha
   have hFc:Fin (fQ a.len r1.1 r1.2):=hF.le (zfa _ _).le;refine zed (M:=166) (rs:=[.tmp 4]) (hw.call _) hw.ice hw.froz Tryz.func55 rfl rfl oF.2 rfl ?_;dsimp only[oF,zd8,Nat.reduceAdd];repeat' (first
    |(apply au ?_;clear hK K)|apply Ry.o ?_|apply cD ?_|(apply bS (fun hg hgp=>?_) (fun hg hgp=>?_)<;>try(cases hg;done))|(apply aV (fun hb hbp=>?_) (fun hb hbp=>?_)<;>try(cases hb;done))|apply am ?_|(apply zdQ fun K hK=>?_)|(apply zdP 5 [(3,7),(3,11),(6,7),(9,11)] fun K hK=>?_)|(apply zdU ?_;try intro _)|(apply zdV ?_ ?_<;>clear hK K)|apply aH ?_|apply aA ?_|apply zdR ?_|apply aB ?_)
   refine bA rfl bE bF ?_;simp only[bB];refine bp ?_ (IH k s r1 he (hFc.le (uy _ _ _).le) R1);rintro v H2 ⟨rfl,S2,lv2,R2,F2⟩;have g2:=fK hR F2;have kax:=M1 hG hX R2 x.name;dsimp only[zd4];repeat' (first
    |(apply au ?_;clear hK K)|apply Rx.o ?_|apply ba ?_|(apply eu ?_;first|refine Rx.k (kax) ?_)|apply am ?_|(apply zdQ fun K hK=>?_)|(apply zdP 5 [(3,7),(3,11),(6,7),(9,11)] fun K hK=>?_)|(apply zdU ?_;try intro _)|(apply zdV ?_ ?_<;>clear hK K)|apply aH ?_|apply aA ?_|apply zdR ?_|apply aB ?_)
   refine bA rfl bE bF ?_;simp only[bB];refine bp ?_ (M0 hG R2 (cR (c.arrays.map (·.name)) x.name) r1.1 ha' hFc);rintro w H3 ⟨S3,lv3,R3,F3⟩;have m3:=R3.m;unfold zek at m3;dsimp only[zd4];repeat' (first
    |(apply au ?_;clear hK K)|apply Rx.o ?_|apply ba ?_|apply am ?_|(apply zdQ fun K hK=>?_)|(apply zdP 5 [(3,7),(3,11),(6,7),(9,11)] fun K hK=>?_)|(apply zdU ?_;try intro _)|(apply zdV ?_ ?_<;>clear hK K)|apply aH ?_|apply aA ?_|apply zdR ?_|apply aB ?_)
   refine bA rfl bE bF ?_;simp only[bB];refine bp ?_ (zgc hG (R3.alloc _) ⟨23,cR (c.arrays.map (·.name)) x.name,[(fQ a.len r1.1 r1.2).state,r1.1]⟩ rfl ev (cL _) hF rfl rfl);intro w H4 h4;have h5:=h4.pre (F1.trans (F2.trans (F3.trans ((fd X S3 vv H3).alloc _))));obtain⟨rfl,h6⟩:=h4;dsimp only[zd4];repeat' (first
    |(apply au ?_;clear hK K)|apply Rx.o ?_|apply ba ?_|apply am ?_|(apply zdQ fun K hK=>?_)|(apply zdP 5 [(3,7),(3,11),(6,7),(9,11)] fun K hK=>?_)|(apply zdU ?_;try intro _)|(apply zdV ?_ ?_<;>clear hK K)|apply aH ?_|apply aA ?_|apply zdR ?_|apply aB ?_)
   all_goals (refine⟨zdZ,_,zd6,?_⟩;try simp only[zdY])
   exact h5
  rw[ah h3]at h;by_cases h5:x.kind=5
  .rw[aE h5]at h;simp only[gL]at h;obtain⟨k0,hk0,zee,e0,k1,hk1,r1,e1,k2,hk2,r2,e2,rfl⟩:=h;have hFt:Fin (zet zee.1 r1.2.state (zet zee.1 r1.1 r2.1 r2.2).2.state (zet zee.1 r1.1 r2.1 r2.2).2).2:=hF.le ⟨ol _,aM _⟩;have hFv:Fin (zet zee.1 r1.1 r2.1 r2.2).2:=hFt.le (zfX _ _ _ _).le;have hF2:Fin r2.2:=hFv.le (zfX _ _ _ _).le;have hF1:Fin r1.2:=(hF2.le (zfx c n _ _ _ e2).le).le ⟨ol _,aM _⟩;have hF0:Fin zee.2:=hF1.le (zfx c n _ _ _ e1).le;refine zed (M:=166) (rs:=[.tmp 4]) (hw.call _) hw.ice hw.froz Tryz.func55 rfl rfl oF.2 rfl ?_;dsimp only[oF,zd8,Nat.reduceAdd];repeat' (first
    |(apply au ?_;clear hK K)|apply Ry.o ?_|apply cD ?_|(apply bS (fun hg hgp=>?_) (fun hg hgp=>?_)<;>try(cases hg;done))|(apply aV (fun hb hbp=>?_) (fun hb hbp=>?_)<;>try(cases hb;done))|apply am ?_|(apply zdQ fun K hK=>?_)|(apply zdP 5 [(3,7),(3,11),(6,7),(9,11)] fun K hK=>?_)|(apply zdU ?_;try intro _)|(apply zdV ?_ ?_<;>clear hK K)|apply aH ?_|apply aA ?_|apply zdR ?_|apply aB ?_)
   refine bA rfl bE bF ?_;simp only[bB];refine bp ?_ (IH k0 s zee e0 hF0 R1);rintro v H2 ⟨rfl,S2,lv2,R2,F2⟩;have g2:=fK hR F2;have m2:=R2.m;unfold zek at m2;dsimp only[zd4];repeat' (first
    |(apply au ?_;clear hK K)|apply Ry.o ?_|apply cD ?_|(apply bS (fun hg hgp=>?_) (fun hg hgp=>?_)<;>try(cases hg;done))|(apply aV (fun hb hbp=>?_) (fun hb hbp=>?_)<;>try(cases hb;done))|apply am ?_|(apply zdQ fun K hK=>?_)|(apply zdP 5 [(3,7),(3,11),(6,7),(9,11)] fun K hK=>?_)|(apply zdU ?_;try intro _)|(apply zdV ?_ ?_<;>clear hK K)|apply aH ?_|apply aA ?_|apply zdR ?_|apply aB ?_)
   refine bA rfl bE bF ?_;simp only[bB];refine bp ?_ (IH k1 _ r1 e1 hF1 R2);rintro v H3 ⟨rfl,S3,lv3,R3,F3⟩;have g3:=fK hR (F2.trans F3);have m3:=R3.m;obtain⟨R3s,F3s⟩:=R3.setS zee.2.state;have g3s:=fK hR (F2.trans (F3.trans F3s));unfold zek at m3;dsimp only[zek]at R3s F3s g3s;dsimp only[zd4];repeat' (first
    |(apply au ?_;clear hK K)|apply Ry.o ?_|apply cD ?_|(apply bS (fun hg hgp=>?_) (fun hg hgp=>?_)<;>try(cases hg;done))|(apply aV (fun hb hbp=>?_) (fun hb hbp=>?_)<;>try(cases hb;done))|apply am ?_|(apply zdQ fun K hK=>?_)|(apply zdP 5 [(3,7),(3,11),(6,7),(9,11)] fun K hK=>?_)|(apply zdU ?_;try intro _)|(apply zdV ?_ ?_<;>clear hK K)|apply aH ?_|apply aA ?_|apply zdR ?_|apply aB ?_)
   refine bA rfl bE bF ?_;simp only[bB];refine bp ?_ (IH k2 _ r2 e2 hF2 R3s);rintro v H4 ⟨rfl,S4,lv4,R4,F4⟩;dsimp only[zd4];repeat' (first
    |(apply au ?_;clear hK K)|apply Rx.o ?_|apply ba ?_|apply am ?_|(apply zdQ fun K hK=>?_)|(apply zdP 5 [(3,7),(3,11),(6,7),(9,11)] fun K hK=>?_)|(apply zdU ?_;try intro _)|(apply zdV ?_ ?_<;>clear hK K)|apply aH ?_|apply aA ?_|apply zdR ?_|apply aB ?_)
   refine bA rfl bE bF ?_;simp only[bB];refine bp ?_ (wr hG R4 zee.1 r1.1 r2.1 hFv);rintro v H5 ⟨rfl,S5,lv5,R5,F5⟩;have m5:=R5.m;unfold zek at m5;dsimp only[zd4];repeat' (first
    |(apply au ?_;clear hK K)|apply Rx.o ?_|apply ba ?_|apply am ?_|(apply zdQ fun K hK=>?_)|(apply zdP 5 [(3,7),(3,11),(6,7),(9,11)] fun K hK=>?_)|(apply zdU ?_;try intro _)|(apply zdV ?_ ?_<;>clear hK K)|apply aH ?_|apply aA ?_|apply zdR ?_|apply aB ?_)
   refine bA rfl bE bF ?_;simp only[bB];refine bp ?_ (wr hG R5 zee.1 r1.2.state _ hFt);rintro v H6 ⟨rfl,S6,lv6,R6,F6⟩;have m6:=R6.m;unfold zek at m6;dsimp only[zd4];repeat' (first
    |(apply au ?_;clear hK K)|apply Rx.o ?_|apply ba ?_|apply am ?_|(apply zdQ fun K hK=>?_)|(apply zdP 5 [(3,7),(3,11),(6,7),(9,11)] fun K hK=>?_)|(apply zdU ?_;try intro _)|(apply zdV ?_ ?_<;>clear hK K)|apply aH ?_|apply aA ?_|apply zdR ?_|apply aB ?_)
   all_goals (refine⟨zdZ,_,zd6,?_⟩;try simp only[zdY])
   obtain⟨R7,F7⟩:=R6.setS (zet zee.1 r1.2.state (zet zee.1 r1.1 r2.1 r2.2).2.state (zet zee.1 r1.1 r2.1 r2.2).2).1;exact⟨rfl,S6,lv6,R7,F1.trans (F2.trans (F3.trans (F3s.trans (F4.trans (F5.trans (F6.trans F7))))))⟩
  rw[ah h5]at h;simp only[ir]at h;obtain⟨k0,hk0,zee,e0,h⟩:=h;by_cases hz:x.kids.length=1
  .rw[aE hz,aQ]at h;subst h;have hF0:Fin zee.2:=hF.le (zfa _ _).le;have hz':((x.kids.length:Nat):Int)=1:=ac;refine zed (M:=166) (rs:=[.tmp 4]) (hw.call _) hw.ice hw.froz Tryz.func55 rfl rfl oF.2 rfl ?_;dsimp only[oF,zd8,Nat.reduceAdd];repeat' (first
    |(apply au ?_;clear hK K)|apply Ry.o ?_|apply cD ?_|(apply bS (fun hg hgp=>?_) (fun hg hgp=>?_)<;>try(cases hg;done))|(apply aV (fun hb hbp=>?_) (fun hb hbp=>?_)<;>try(cases hb;done))|apply am ?_|(apply zdQ fun K hK=>?_)|(apply zdP 5 [(3,7),(3,11),(6,7),(9,11)] fun K hK=>?_)|(apply zdU ?_;try intro _)|(apply zdV ?_ ?_<;>clear hK K)|apply aH ?_|apply aA ?_|apply zdR ?_|apply aB ?_)
   refine bA rfl bE bF ?_;simp only[bB];refine bp ?_ (IH k0 s zee e0 hF0 R1);rintro v H2 ⟨rfl,S2,lv2,R2,F2⟩;have g2:=fK hR F2;dsimp only[zd4];repeat' (first
    |(apply au ?_;clear hK K)|apply Ry.o ?_|apply cD ?_|(apply bS (fun hg hgp=>?_) (fun hg hgp=>?_)<;>try(cases hg;done))|(apply aV (fun hb hbp=>?_) (fun hb hbp=>?_)<;>try(cases hb;done))|apply am ?_|(apply zdQ fun K hK=>?_)|(apply zdP 5 [(3,7),(3,11),(6,7),(9,11)] fun K hK=>?_)|(apply zdU ?_;try intro _)|(apply zdV ?_ ?_<;>clear hK K)|apply aH ?_|apply aA ?_|apply zdR ?_|apply aB ?_)
   refine bA rfl bE bF ?_;simp only[bB];refine bp ?_ (zgc hG (R2.alloc _) ⟨x.op,0,[zee.1]⟩ rfl ev (cL _) hF rfl rfl);intro w H4 h4;have h5:=h4.pre (F1.trans (F2.trans ((fd X S2 vv H2).alloc _)));obtain⟨rfl,h6⟩:=h4;dsimp only[zd4];repeat' (first
    |(apply au ?_;clear hK K)|apply Rx.o ?_|apply ba ?_|apply am ?_|(apply zdQ fun K hK=>?_)|(apply zdP 5 [(3,7),(3,11),(6,7),(9,11)] fun K hK=>?_)|(apply zdU ?_;try intro _)|(apply zdV ?_ ?_<;>clear hK K)|apply aH ?_|apply aA ?_|apply zdR ?_|apply aB ?_)
   all_goals (refine⟨zdZ,_,zd6,?_⟩;try simp only[zdY])
   exact h5
  rw[ah hz]at h;simp only[gL]at h;obtain⟨k1,hk1,r1,e1,rfl⟩:=h;have hz':¬((x.kids.length:Nat):Int)=1:=ac;have hFd:Fin (if x.op=7\/x.op=8 then jT r1.1 r1.2 else r1.2):=hF.le (zfa _ _).le;have hF1:Fin r1.2:=by
   split at hFd
   .exact hFd.le (BB _ _).le
   .exact hFd
  have hF0:Fin zee.2:=hF1.le (zfx c n _ _ _ e1).le;generalize hq:(if x.op=7\/x.op=8 then jT r1.1 r1.2 else r1.2)=q at *;refine zed (M:=166) (rs:=[.tmp 4]) (hw.call _) hw.ice hw.froz Tryz.func55 rfl rfl oF.2 rfl ?_;dsimp only[oF,zd8,Nat.reduceAdd];repeat' (first
   |(apply au ?_;clear hK K)|apply Ry.o ?_|apply cD ?_|(apply bS (fun hg hgp=>?_) (fun hg hgp=>?_)<;>try(cases hg;done))|(apply aV (fun hb hbp=>?_) (fun hb hbp=>?_)<;>try(cases hb;done))|apply am ?_|(apply zdQ fun K hK=>?_)|(apply zdP 5 [(3,7),(3,11),(6,7),(9,11)] fun K hK=>?_)|(apply zdU ?_;try intro _)|(apply zdV ?_ ?_<;>clear hK K)|apply aH ?_|apply aA ?_|apply zdR ?_|apply aB ?_)
  refine bA rfl bE bF ?_;simp only[bB];refine bp ?_ (IH k0 s zee e0 hF0 R1);rintro v H2 ⟨rfl,S2,lv2,R2,F2⟩;have g2:=fK hR F2;dsimp only[zd4];repeat' (first
   |(apply au ?_;clear hK K)|apply Ry.o ?_|apply cD ?_|(apply bS (fun hg hgp=>?_) (fun hg hgp=>?_)<;>try(cases hg;done))|(apply aV (fun hb hbp=>?_) (fun hb hbp=>?_)<;>try(cases hb;done))|apply am ?_|(apply zdQ fun K hK=>?_)|(apply zdP 5 [(3,7),(3,11),(6,7),(9,11)] fun K hK=>?_)|(apply zdU ?_;try intro _)|(apply zdV ?_ ?_<;>clear hK K)|apply aH ?_|apply aA ?_|apply zdR ?_|apply aB ?_)
  refine bA rfl bE bF ?_;simp only[bB];refine bp ?_ (IH k1 _ r1 e1 hF1 R2);rintro v H3 ⟨rfl,S3,lv3,R3,F3⟩;have g3:=fK hR (F2.trans F3);have F123:=F1.trans (F2.trans F3);dsimp only[zd4];by_cases hd:x.op=7\/x.op=8
  .rw[aE hd]at hq;subst hq;have hFq:Fin (zdS ⟨16,0,[r1.1,(zdS ⟨1,0,[]⟩ r1.2).1]⟩ (zdS ⟨1,0,[]⟩ r1.2).2).2:=hFd.le (rB _ _ _).le;have hFz:Fin (zdS ⟨1,0,[]⟩ r1.2).2:=hFq.le (zfa _ _).le;have hdiv:jT r1.1 r1.2=ky 1 (zdS ⟨16,0,[r1.1,(zdS ⟨1,0,[]⟩ r1.2).1]⟩ (zdS ⟨1,0,[]⟩ r1.2).2).1 (zdS ⟨16,0,[r1.1,(zdS ⟨1,0,[]⟩ r1.2).1]⟩ (zdS ⟨1,0,[]⟩ r1.2).2).2:=rfl;have hor:x.op=7\/(¬x.op=7/\x.op=8):=ac;rcases hor with h7|⟨h7,h8⟩
   .repeat' (first
     |(apply au ?_;clear hK K)|apply Ry.o ?_|apply cD ?_|(apply bS (fun hg hgp=>?_) (fun hg hgp=>?_)<;>try(cases hg;done))|(apply aV (fun hb hbp=>?_) (fun hb hbp=>?_)<;>try(cases hb;done))|apply am ?_|(apply zdQ fun K hK=>?_)|(apply zdP 5 [(3,7),(3,11),(6,7),(9,11)] fun K hK=>?_)|(apply zdU ?_;try intro _)|(apply zdV ?_ ?_<;>clear hK K)|apply aH ?_|apply aA ?_|apply zdR ?_|apply aB ?_)
    refine bA rfl bE bF ?_;simp only[bB];refine bp ?_ (qs hG R3 1 0 hFz);rintro v H4 ⟨rfl,S4,lv4,R4,F4⟩;dsimp only[zd4];repeat' (first
     |(apply au ?_;clear hK K)|apply Rx.o ?_|apply ba ?_|apply am ?_|(apply zdQ fun K hK=>?_)|(apply zdP 5 [(3,7),(3,11),(6,7),(9,11)] fun K hK=>?_)|(apply zdU ?_;try intro _)|(apply zdV ?_ ?_<;>clear hK K)|apply aH ?_|apply aA ?_|apply zdR ?_|apply aB ?_)
    refine bA rfl bE bF ?_;simp only[bB];refine bp ?_ (zgc hG (R4.alloc _) ⟨16,0,[r1.1,(zdS ⟨1,0,[]⟩ r1.2).1]⟩ rfl ev (cL _) hFq rfl rfl);rintro v H5 ⟨rfl,S5,lv5,R5,F5⟩;have F35:=F123.trans (F4.trans (((fd X S4 vv H4).alloc _).trans F5));have F25:=F2.trans (F3.trans (F4.trans (((fd X S4 vv H4).alloc _).trans F5)));clear F4 F5;obtain⟨w,hwz⟩:∃w,zdS ⟨16,0,[r1.1,(zdS ⟨1,0,[]⟩ r1.2).1]⟩ (zdS ⟨1,0,[]⟩ r1.2).2=w:=⟨_,rfl⟩;rw[hwz]at R5 hFq;have hdw:jT r1.1 r1.2=ky 1 w.1 w.2:=by rw[<-hwz];rfl
    rw[hdw]at hFd hF;simp only[hwz];have m5:=R5.m;unfold zek at m5;dsimp only[zd4];repeat' (first
     |(apply au ?_;clear hK K)|apply Rx.o ?_|apply ba ?_|apply am ?_|(apply zdQ fun K hK=>?_)|(apply zdP 5 [(3,7),(3,11),(6,7),(9,11)] fun K hK=>?_)|(apply zdU ?_;try intro _)|(apply zdV ?_ ?_<;>clear hK K)|apply aH ?_|apply aA ?_|apply zdR ?_|apply aB ?_)
    refine bA rfl bE bF ?_;simp only[bB];refine bp ?_ (zgc hG (R5.alloc _) ⟨27,1,[w.2.state,w.1]⟩ rfl ev (cL _) (hFd.le ⟨ol _,aM _⟩) rfl rfl);rintro v H6 ⟨rfl,S6,lv6,R6,F6⟩;have F26:=F25.trans (((fd X S5 vv H5).alloc _).trans F6);have F36:=F35.trans (((fd X S5 vv H5).alloc _).trans F6);have m6:=R6.m;obtain⟨R7,F7⟩:=R6.setS (zdS ⟨27,1,[w.2.state,w.1]⟩ w.2).1;have g7:=fK hR (F26.trans F7);have R7':RepQ X (H6.set X.b (.cells (zek X { (zdS ⟨27,1,[w.2.state,w.1]⟩ w.2).2 with state:=(zdS ⟨27,1,[w.2.state,w.1]⟩ w.2).1} lv6 vv) 0 true)) S6 (ky 1 w.1 w.2) lv6 vv:=R7;have hput:=zgc hG (R7'.alloc (.cells [.int .i64 zee.1,.int .i64 r1.1] 0 true)) ⟨x.op,0,[zee.1,r1.1]⟩ rfl ev (cL _) hF h7 rfl;unfold zek at m6;dsimp only[zek]at g7 hput F7;simp only[zef]at hput;dsimp only[zd4];repeat' (first
     |(apply au ?_;clear hK K)|apply Rx.o ?_|apply ba ?_|apply am ?_|(apply zdQ fun K hK=>?_)|(apply zdP 5 [(3,7),(3,11),(6,7),(9,11)] fun K hK=>?_)|(apply zdU ?_;try intro _)|(apply zdV ?_ ?_<;>clear hK K)|apply aH ?_|apply aA ?_|apply zdR ?_|apply aB ?_)
    refine bA rfl bE bF ?_;simp only[bB];refine bp ?_ hput;intro v H8 h8q;have h9q:=h8q.pre (F36.trans (F7.trans ((fd X S6 vv _).alloc _)));obtain⟨rfl,h6q⟩:=h8q;dsimp only[zd4];repeat' (first
     |(apply au ?_;clear hK K)|apply Rx.o ?_|apply ba ?_|apply am ?_|(apply zdQ fun K hK=>?_)|(apply zdP 5 [(3,7),(3,11),(6,7),(9,11)] fun K hK=>?_)|(apply zdU ?_;try intro _)|(apply zdV ?_ ?_<;>clear hK K)|apply aH ?_|apply aA ?_|apply zdR ?_|apply aB ?_)
    all_goals (refine⟨zdZ,_,zd6,?_⟩;try simp only[zdY])
    rw[hdw];rw[h7]at h9q⊢;exact h9q
   .repeat' (first
     |(apply au ?_;clear hK K)|apply Ry.o ?_|apply cD ?_|(apply bS (fun hg hgp=>?_) (fun hg hgp=>?_)<;>try(cases hg;done))|(apply aV (fun hb hbp=>?_) (fun hb hbp=>?_)<;>try(cases hb;done))|apply am ?_|(apply zdQ fun K hK=>?_)|(apply zdP 5 [(3,7),(3,11),(6,7),(9,11)] fun K hK=>?_)|(apply zdU ?_;try intro _)|(apply zdV ?_ ?_<;>clear hK K)|apply aH ?_|apply aA ?_|apply zdR ?_|apply aB ?_)
    refine bA rfl bE bF ?_;simp only[bB];refine bp ?_ (qs hG R3 1 0 hFz);rintro v H4 ⟨rfl,S4,lv4,R4,F4⟩;dsimp only[zd4];repeat' (first
     |(apply au ?_;clear hK K)|apply Rx.o ?_|apply ba ?_|apply am ?_|(apply zdQ fun K hK=>?_)|(apply zdP 5 [(3,7),(3,11),(6,7),(9,11)] fun K hK=>?_)|(apply zdU ?_;try intro _)|(apply zdV ?_ ?_<;>clear hK K)|apply aH ?_|apply aA ?_|apply zdR ?_|apply aB ?_)
    refine bA rfl bE bF ?_;simp only[bB];refine bp ?_ (zgc hG (R4.alloc _) ⟨16,0,[r1.1,(zdS ⟨1,0,[]⟩ r1.2).1]⟩ rfl ev (cL _) hFq rfl rfl);rintro v H5 ⟨rfl,S5,lv5,R5,F5⟩;have F35:=F123.trans (F4.trans (((fd X S4 vv H4).alloc _).trans F5));have F25:=F2.trans (F3.trans (F4.trans (((fd X S4 vv H4).alloc _).trans F5)));clear F4 F5;obtain⟨w,hwz⟩:∃w,zdS ⟨16,0,[r1.1,(zdS ⟨1,0,[]⟩ r1.2).1]⟩ (zdS ⟨1,0,[]⟩ r1.2).2=w:=⟨_,rfl⟩;rw[hwz]at R5 hFq;have hdw:jT r1.1 r1.2=ky 1 w.1 w.2:=by rw[<-hwz];rfl
    rw[hdw]at hFd hF;simp only[hwz];have m5:=R5.m;unfold zek at m5;dsimp only[zd4];repeat' (first
     |(apply au ?_;clear hK K)|apply Rx.o ?_|apply ba ?_|apply am ?_|(apply zdQ fun K hK=>?_)|(apply zdP 5 [(3,7),(3,11),(6,7),(9,11)] fun K hK=>?_)|(apply zdU ?_;try intro _)|(apply zdV ?_ ?_<;>clear hK K)|apply aH ?_|apply aA ?_|apply zdR ?_|apply aB ?_)
    refine bA rfl bE bF ?_;simp only[bB];refine bp ?_ (zgc hG (R5.alloc _) ⟨27,1,[w.2.state,w.1]⟩ rfl ev (cL _) (hFd.le ⟨ol _,aM _⟩) rfl rfl);rintro v H6 ⟨rfl,S6,lv6,R6,F6⟩;have F26:=F25.trans (((fd X S5 vv H5).alloc _).trans F6);have F36:=F35.trans (((fd X S5 vv H5).alloc _).trans F6);have m6:=R6.m;obtain⟨R7,F7⟩:=R6.setS (zdS ⟨27,1,[w.2.state,w.1]⟩ w.2).1;have g7:=fK hR (F26.trans F7);have R7':RepQ X (H6.set X.b (.cells (zek X { (zdS ⟨27,1,[w.2.state,w.1]⟩ w.2).2 with state:=(zdS ⟨27,1,[w.2.state,w.1]⟩ w.2).1} lv6 vv) 0 true)) S6 (ky 1 w.1 w.2) lv6 vv:=R7;have hput:=zgc hG (R7'.alloc (.cells [.int .i64 zee.1,.int .i64 r1.1] 0 true)) ⟨x.op,0,[zee.1,r1.1]⟩ rfl ev (cL _) hF h8 rfl;unfold zek at m6;dsimp only[zek]at g7 hput F7;simp only[zef]at hput;dsimp only[zd4];repeat' (first
     |(apply au ?_;clear hK K)|apply Rx.o ?_|apply ba ?_|apply am ?_|(apply zdQ fun K hK=>?_)|(apply zdP 5 [(3,7),(3,11),(6,7),(9,11)] fun K hK=>?_)|(apply zdU ?_;try intro _)|(apply zdV ?_ ?_<;>clear hK K)|apply aH ?_|apply aA ?_|apply zdR ?_|apply aB ?_)
    refine bA rfl bE bF ?_;simp only[bB];refine bp ?_ hput;intro v H8 h8q;have h9q:=h8q.pre (F36.trans (F7.trans ((fd X S6 vv _).alloc _)));obtain⟨rfl,h6q⟩:=h8q;dsimp only[zd4];repeat' (first
     |(apply au ?_;clear hK K)|apply Rx.o ?_|apply ba ?_|apply am ?_|(apply zdQ fun K hK=>?_)|(apply zdP 5 [(3,7),(3,11),(6,7),(9,11)] fun K hK=>?_)|(apply zdU ?_;try intro _)|(apply zdV ?_ ?_<;>clear hK K)|apply aH ?_|apply aA ?_|apply zdR ?_|apply aB ?_)
    all_goals (refine⟨zdZ,_,zd6,?_⟩;try simp only[zdY])
    rw[hdw];rw[h8]at h9q⊢;exact h9q
  .rw[ah hd]at hq;subst hq;have h7:¬x.op=7:=fun e=>hd (.inl e);have h8:¬x.op=8:=fun e=>hd (.inr e);repeat' (first
    |(apply au ?_;clear hK K)|apply Ry.o ?_|apply cD ?_|(apply bS (fun hg hgp=>?_) (fun hg hgp=>?_)<;>try(cases hg;done))|(apply aV (fun hb hbp=>?_) (fun hb hbp=>?_)<;>try(cases hb;done))|apply am ?_|(apply zdQ fun K hK=>?_)|(apply zdP 5 [(3,7),(3,11),(6,7),(9,11)] fun K hK=>?_)|(apply zdU ?_;try intro _)|(apply zdV ?_ ?_<;>clear hK K)|apply aH ?_|apply aA ?_|apply zdR ?_|apply aB ?_)
   refine bA rfl bE bF ?_;simp only[bB];refine bp ?_ (zgc hG (R3.alloc _) ⟨x.op,0,[zee.1,r1.1]⟩ rfl ev (cL _) hF rfl rfl);intro w H4 h4;have h5:=h4.pre (F123.trans ((fd X S3 vv H3).alloc _));obtain⟨rfl,h6⟩:=h4;dsimp only[zd4];repeat' (first
    |(apply au ?_;clear hK K)|apply Rx.o ?_|apply ba ?_|apply am ?_|(apply zdQ fun K hK=>?_)|(apply zdP 5 [(3,7),(3,11),(6,7),(9,11)] fun K hK=>?_)|(apply zdU ?_;try intro _)|(apply zdV ?_ ?_<;>clear hK K)|apply aH ?_|apply aA ?_|apply zdR ?_|apply aB ?_)
   all_goals (refine⟨zdZ,_,zd6,?_⟩;try simp only[zdY])
   exact h5
end
end Go.Proofs.YtpbcimfiofmoeaaGreat
