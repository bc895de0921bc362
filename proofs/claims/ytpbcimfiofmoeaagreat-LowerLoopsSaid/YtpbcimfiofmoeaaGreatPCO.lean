/- Parts: G3, G4, G5p, ChkM, LoL, SpecU, SpecX. -/
import Derived.Test.YtpbcimfiofmoeaaGreatPCN
set_option linter.unusedSimpArgs false
set_option linter.unusedVariables false
set_option linter.unusedSectionVars false
set_option linter.defProp false
set_option maxHeartbeats 32000000
namespace Go.Ab
set_option maxRecDepth 20000
open Go
theorem vM{P:Prop}(h:P:=by simp only[];omega):P:=h
theorem BE{P:Prop}(h:P:=by simp only[List.length_map,zg1];omega):P:=h
theorem BF{P:Prop}(h:P:=by simpa using c):P:=h
theorem Mv{P:Prop}(h:P:=by rw[show zg1=70368744177664 from rfl];omega):P:=h
theorem BG{P:Prop}(h:P:=by simp only[zfw,zgj];omega):P:=h
theorem ff{P:Prop}(h:P:=by unfold zho;omega):P:=h
theorem yk{P:Prop}(h:P:=by show zho (k:Int);unfold zho;omega):P:=h
theorem Mw{P:Prop}(h:P:=by rw[nO,hr,Option.bind_some,K,Option.bind_some]):P:=h
theorem vN{P:Prop}(h:P:=by simp only;omega):P:=h
theorem Fm{P:Prop}(h:P:=by rw[List.length_set];exact zfJ.vl):P:=h
theorem My{P:Prop}(h:P:=by rw[List.getD_eq_getElem?_getD,List.getElem?_eq_getElem C];exact List.getElem_mem C):P:=h
theorem Mz{P:Prop}(h:P:=by rw[lu.2.2.2];show q.2.loops=_;rw[lq.n,hrn]):P:=h
theorem MA{P:Prop}(h:P:=by rw[o _ ac ac,zfk,if_neg ac];exact g2):P:=h
theorem BH{P:Prop}(h:P:=by rw[Hp.get_set,if_neg ac,zfk,if_pos rfl];simp):P:=h
theorem MB{P:Prop}(h:P:=by rw[gB _ _ _ _ ac ac];exact L.get k h1 g):P:=h
theorem Fo{P:Prop}(h:P:=by rw[Int.tmod_eq_emod_of_nonneg ac];omega):P:=h
def BI:=@Int.tmod_nonneg
def Fp:=@List.getElem_map
def b8:=@Option.bind_some
def qt:=@List.mem_or_eq_of_mem_set
def BJ:=@Int.tmod_eq_emod_of_nonneg
end Go.Ab
namespace Go.Proofs.YtpbcimfiofmoeaaGreat
set_option maxRecDepth 20000
open Go Go.Ab
section
def tyG3.tyF:=ad @ej (ad @cN (ad @dH (ad @eQ (ad @iO (ad @fP (ad @eR (ad @xX (ad @pS (@qW)))))))))
open tyG3
noncomputable def MC:{c:SC // aH 115 (Tryz.f49.body.getD .skip)=c}:=by
 refine⟨?_,?_⟩;rotate_left
 .simp only[Tryz.f49,bS,aH,zfO,zfL,zfR,zfS,Nat.blt,Nat.ble];rfl
noncomputable def BK:List En:=[vx,Bi,Bj]
def BL(f:FuncId):Bool:=Nat.beq f 40||Nat.beq f 49||Nat.beq f 48||Nat.beq f 84||Nat.beq f 25
structure GenL (l:List En):Prop where
 pick:∀ar,zgw l 12 ar=vx.sp ar
 word:∀ar,zgw l 37 ar=Bi.sp ar
 nms:∀ar,zgw l 85 ar=Bj.sp ar
 pl:∀f,BL f=true->(∀ar,zgw l f ar=none)/\lQ l f=false
theorem GenL.plain{l:List En}(h:GenL l){f:FuncId}(i:BL f=true):Plain (zfn pls l) f:=zgK (h.pl f i).1 (h.pl f i).2
theorem znB{f:FuncId}(h:BL f=true):f=40\/f=49\/f=48\/f=84\/f=25:=by
 simp only[BL,oB]at h;rcases h with(((h|h)|h)|h)|h<;>have e:=jf h<;>subst e<;>simp
theorem MD:GenL BK:=⟨fun _=>rfl,fun _=>rfl,fun _=>rfl,fun f i=>by rcases znB i with rfl|rfl|rfl|rfl|rfl<;>exact⟨fun _=>rfl,rfl⟩⟩
theorem zyq(ρ:Nat->Int):iF Tryz.prog ρ BK:=⟨KU ρ,zrs ρ,ztU ρ,trivial⟩
def vO(m:Int):Int:=if m.tmod 2=0 then 20 else 21
def rF(m:Int):List UInt8:=if m.tmod 2=0 then [97]else [98]
def zfC(f:Int):Nat->Nat->List Int->Ex×List Int
 |0,_,L=>(.mk 0 0 [] 0 [],L)
 |k+1,deep,L=>
  let n:=(zfP L).1
  let Z:=(zfP L).2
  let q:=zgv n 16
  let m:=zgv (cu (n.tdiv 16)) 1000
  if q<4\/(3:Int)<deep then
   if q.tmod 2=0\/((3:Int)<deep/\8<q)then (.mk 2 0 ((zf1 f).getD (m.tmod (zf1 f).length).toNat []) 0 [],Z)
   else (.mk 1 (qo m n) [] 0 [],Z)
  else if q<6 then (.mk 3 0 (rF m) 0 [(zfC f k (deep+1) Z).1],(zfC f k (deep+1) Z).2)
  else if q<7 then
   let a:=zfC f k (deep+1) Z
   let b:=zfC f k (deep+1) a.2
   let c:=zfC f k (deep+1) b.2
   (.mk 5 0 [] 0 [a.1,b.1,c.1],c.2)
  else if q<9 then (.mk 4 0 [] (vO m) [(zfC f k (deep+1) Z).1],(zfC f k (deep+1) Z).2)
  else
   let a:=zfC f k (deep+1) Z
   let b:=zfC f k (deep+1) a.2
   (.mk 4 0 [] (cu (4+m.tmod 15)) [a.1,b.1],b.2)
theorem zhN(L:List Int):(zfP L).2.length<=L.length:=by cases L<;>simp[zfP]
theorem zgP(f:Int):∀(k I:Nat) (L:List Int),(zfC f k I L).2.length<=L.length
 |0,_,_=>aE _
 |k+1,I,L=>by
  have h:=zhN L;have ih:=fun L=>zgP f k (I+1) L;simp only[zfC];split
  .split<;>exact h
  .split
   .exact cJ (ih _) h
   .split
    .exact cJ (ih _) (cJ (ih _) (cJ (ih _) h))
    .split
     .exact cJ (ih _) h
     .exact cJ (ih _) (cJ (ih _) h)
def yl(z n lo:Nat)(H:Hp)(r:Nat)(U:List AV)(L:List Int)(c:Int)(v:AV)(H':Hp):Prop:=
 (∃g,v=.agg g/\g.length=z/\g.all AV.one=true/\zgq (fun q=>H.next<=q) n H' g U)/\ir lo H' r L c/\H.next<=H'.next/\∀q,q<H.next->q≠r->H'.get q=H.get q
theorem qu{i:Type}(l:List i)(L:(l.length:Int)≠0){m:Int}(V:0<=m)(d:i):0<=m.tmod l.length/\l[(m.tmod l.length).toNat]?=some (l.getD (m.tmod l.length).toNat d):=by
 have Z:=BI (l.length:Int) V;have g:=uj m (b:=(l.length:Int)) ac;refine⟨Z,?_⟩;generalize m.tmod l.length=t at *;rw[dd,aR ac];rfl
theorem BM{m:Int}(h:0<=m):0<=m.tmod 2/\m.tmod 2<2:=⟨BI _ h,uj _ ac⟩
theorem rG{m:Int}(h:0<=m)(r:Nat):zgi Tryz.prog 59 (.sl r 0 2 1) (.int .i64 (m.tmod 2))=some (.ptr r (m.tmod 2).toNat):=by
 obtain⟨i,g⟩:=BM h;rw[In _ _ _ _ i,dt (by omega:(m.tmod 2).toNat<2)];simp
theorem zb2{m:Int}(h:0<=m)(r:Nat):zgi Tryz.prog 23 (.sl r 0 2 1) (.int .i64 (m.tmod 2))=some (.ptr r (m.tmod 2).toNat):=by
 obtain⟨i,g⟩:=BM h;rw[Ii _ _ _ _ i,dt (by omega:(m.tmod 2).toNat<2)];simp
theorem Fq{i:Type}{m:Int}(h:0<=m)(a b:i):[a,b][(m.tmod 2).toNat]?=some (if m.tmod 2=0 then a else b):=by
 obtain⟨Z,g⟩:=BM h;rcases(by omega:m.tmod 2=0\/m.tmod 2=1)with e|e<;>rw[e]<;>rfl
theorem rH{m:Int}(h:0<=m):[AV.str [97],AV.str [98]][(m.tmod 2).toNat]?=some (.str (rF m)):=by
 rw[Fq h,rF];split<;>rfl
theorem zb3{m:Int}(h:0<=m):[AV.int .i64 20,AV.int .i64 21][(m.tmod 2).toNat]?=some (.int .i64 (vO m)):=by
 rw[Fq h,vO];split<;>rfl
theorem bx2(s:List UInt8):zgB Tryz.prog 63 [(0,.int .i64 2),(2,.str s)]=some (.agg [.int .i64 2,.int .i64 0,.str s,.int .i64 0,.nilS]):=aj
theorem bx1(n:Int):zgB Tryz.prog 63 [(0,.int .i64 1),(1,.int .i64 n)]=some (.agg [.int .i64 1,.int .i64 n,.str [],.int .i64 0,.nilS]):=aj
theorem bx3(s:List UInt8)(r n:Nat):zgB Tryz.prog 63 [(0,.int .i64 3),(2,.str s),(4,.sl r 0 n 5)]=some (.agg [.int .i64 3,.int .i64 0,.str s,.int .i64 0,.sl r 0 n 5]):=aj
theorem bx5(r n:Nat):zgB Tryz.prog 63 [(0,.int .i64 5),(4,.sl r 0 n 5)]=some (.agg [.int .i64 5,.int .i64 0,.str [],.int .i64 0,.sl r 0 n 5]):=aj
theorem ME(o:Int)(r n:Nat):zgB Tryz.prog 63 [(0,.int .i64 4),(3,.int .i64 o),(4,.sl r 0 n 5)]=some (.agg [.int .i64 4,.int .i64 0,.str [],.int .i64 o,.sl r 0 n 5]):=aj
theorem j8{cs:List AV}(h:cs.length=5):∃a b c d e,cs=[a,b,c,d,e]:=by
 match cs,h with
 |[a,b,c,d,e],_=>exact⟨a,b,c,d,e,rfl⟩
theorem Fs(H:Hp){cs:List AV}(h:cs.length=5)(h1:cs.all AV.one=true):zgW Tryz.prog H 61 1 [(0,.agg cs)]=some (.sl H.next 0 1 5,H.alloc (.cells cs 0 true)):=by
 obtain⟨a,b,c,d,e,rfl⟩:=j8 h;kernel_rfl
theorem zb8(H:Hp){cs g:List AV}(h:cs.length=5)(k:g.length=5):zgW Tryz.prog H 61 2 [(0,.agg cs),(1,.agg g)]=some (.sl H.next 0 2 5,H.alloc (.cells (cs++g) 0 true)):=by
 obtain⟨a,b,c,d,e,rfl⟩:=j8 h;obtain⟨L,o,Z,z,i,rfl⟩:=j8 k;kernel_rfl
theorem zb9(H:Hp){cs g V:List AV}(h:cs.length=5)(k:g.length=5)(l:V.length=5):zgW Tryz.prog H 61 3 [(0,.agg cs),(1,.agg g),(2,.agg V)]=some (.sl H.next 0 3 5,H.alloc (.cells (cs++g++V) 0 true)):=by
 obtain⟨a,b,c,d,e,rfl⟩:=j8 h;obtain⟨L,o,K,z,i,rfl⟩:=j8 k;obtain⟨M,O,U,Z,Y,rfl⟩:=j8 l;kernel_rfl
theorem MF(H:Hp)(a b:Int):zgW Tryz.prog H 23 2 [(0,.int .i64 a),(1,.int .i64 b)]=some (.sl H.next 0 2 1,H.alloc (.cells [.int .i64 a,.int .i64 b] 0 true)):=aj
theorem ym(a b c d e:AV):jo 5 [a,b,c,d,e]=some (.agg [a,b,c,d,e]):=rfl
set_option maxRecDepth 100000 in
theorem zhO{lG:List En}(hG:GenL lG):∀(k:Nat) (f:Int) (I:Nat),5<=I+k->I<=4->∀(lo:Nat) (H:Hp) (r:Nat) (L:List Int) (c:Int),ir lo H r L c->L.length<2^60 ->
 zfs Tryz.prog (zfn pls lG) 49 [.ptr r 0,.int .i64 f,.int .i64 I] H (yl 5 (k+1) lo H r (zfC f k I L).1.cells (zfC f k I L).2 c)
 |0,f,I,i,g,_,_,_,_,_,_,_=>by omega
 |k+1,f,I,i,g,lo,H,r,L,c,hrd,hL=>by
  have hw:Plain (zfn pls lG) 49:=hG.plain dR;have hnx:Plain (zfn pls lG) 40:=hG.plain dR;have hrl:=hrd.1;have hlo:=hrd.2.1;have hq16:(16:Int)≠0:=aD;generalize Y:zfC f (k+1) I L=R;rw[zfC]at Y;simp only[]at Y;refine zfz (M:=115) (rs:=[.cell 6 63]) (hw.call _) hw.ice hw.froz Tryz.func49 rfl rfl MC.2 rfl ?_;dsimp only[MC,zft,Nat.reduceAdd];repeat' (first
   |(apply ah ?_;clear hK K)|apply Rx.o ?_|apply ak ?_|(apply zff fun K hK=>?_)|fail)
  refine aU rfl aV aW ?_;simp only[bi];refine aS ?_ (Bk hnx (hrd.keep (eh _) fun q U=>hY) hL);rintro v H2 ⟨rfl,Z,n2,o2⟩;simp only[zfw]at n2;have g2:H2.get H.next=some (.cells [.int .i64 0,.int .i64 0,.str [],.int .i64 0,.nilS] 0 true):=by rw[o2 _ ac,zfk,aq rfl]
  have O:∀q,q<H.next->q≠r->H2.get q=H.get q:=fun q i g=>by rw[o2 q g,zfk,af ac]
  have hL1:=zhN L;generalize (zfP L).1=n at *;generalize (zfP L).2=L1 at *;have U:=zhS (n:=n) (m:=16) ac ac;have hm:=zhS (n:=cu (n.tdiv 16)) (m:=1000) ac ac;have hq2:(2:Int)≠0:=aD;have hq15:(15:Int)≠0:=aD;have hlen0:((zf1 f).length:Int)≠0:=by rcases rB f with h|h<;>rw[h]<;>decide
  have hwd:IntKind.wrap .i64 ((I:Int)+1)=((I+1:Nat):Int):=zhe ac;clear o2;dsimp only[zfp];obtain⟨hi0,hix⟩:=qu (zf1 f) hlen0 hm.1 [];have hxs:=rG hm.1;have hxi:=zb2 hm.1;have hxa:=rH hm.1;have hxo:=zb3 hm.1;have kf:∀(H3:Hp) (x:Ex),ir lo H3 r L1 c->H.next<=H3.next->(∀q,q<H.next->q≠r->H3.get q=H.get q)->∀j,j.length=5->j.all AV.one=true->zgq (fun q=>H.next<=q) (k+2) H3 j x.cells->yl 5 (k+2) lo H r x.cells L1 c (.agg j) H3:=fun H3 x q1 q2 q3 j q4 q5 q6=>⟨⟨j,rfl,q4,q5,q6⟩,q1,q2,q3⟩
  have gh0:=@bx2;have gh1:=@bx1;have gh2:=@ym;have gh3:=@MF;repeat' (first
   |(apply ah ?_;clear hK K)|apply Rx.o ?_|apply ct ?_|(apply kF ?_;first|refine Rx.k (KV hG.nms _ _) ?_|refine Rx.k (vy hG.pick _ _ aD _) ?_|refine Rx.k (zxB hG.word _ _ _) ?_)|apply re ?_|(apply dr (fun hg hgp=>?_) (fun hg hgp=>?_)<;>try(cases hg;done))|(apply bt (fun hb hbp=>?_) (fun hb hbp=>?_)<;>try(cases hb;done))|apply ak ?_|(apply zff fun K hK=>?_)|(apply zfm 10 [(0,9),(0,12),(4,9),(4,12),(10,12)] fun K hK=>?_)|(apply zfm 14 [(0,9),(0,12),(4,9),(4,12),(10,12)] fun K hK=>?_)|(apply zfx ?_;try intro _)|apply br ?_|apply ay ?_|apply zfh ?_|apply ax ?_)
  .refine⟨zfj,_,(by(try simp only[zfo,zfv,Nat.reduceBEq,tyF,zgD,zgN, *]);first|done|with_reducible rfl),?_⟩;try simp only[zfi]
   first
   |rw[aq ac,aq ac]at Y
   |rw[aq ac,af ac]at Y
   subst Y;refine kf _ _ ?_ ?_ ?_ _ rfl rfl (sP _ _ _ _)
   .exact Z.keep (aE _) fun q U=>kJ
   .simp only[zfI];omega
   .intro q i g;rw[aQ,af ac];exact O q i g
  .refine⟨zfj,_,(by(try simp only[zfo,zfv,Nat.reduceBEq,tyF,zgD,zgN, *]);first|done|with_reducible rfl),?_⟩;try simp only[zfi]
   first
   |rw[aq ac,aq ac]at Y
   |rw[aq ac,af ac]at Y
   subst Y;refine kf _ _ ?_ ?_ ?_ _ rfl rfl (sP _ _ _ _)
   .exact Z.keep (aE _) fun q U=>kJ
   .simp only[zfI];omega
   .intro q i g;rw[aQ,af ac];exact O q i g
  .refine⟨zfj,_,(by(try simp only[zfo,zfv,Nat.reduceBEq,tyF,zgD,zgN, *]);first|done|with_reducible rfl),?_⟩;try simp only[zfi]
   first
   |rw[aq ac,aq ac]at Y
   |rw[aq ac,af ac]at Y
   subst Y;refine kf _ _ ?_ ?_ ?_ _ rfl rfl (sP _ _ _ _)
   .exact Z.keep (aE _) fun q U=>kJ
   .simp only[zfI];omega
   .intro q i g;rw[aQ,af ac];exact O q i g
  ·-- one operand
   have er:(H.next == r)=false:=zfN ac;refine aU rfl aV aW ?_;simp only[gL];refine aS ?_ (zhO hG k f (I+1) ac ac lo _ r L1 c (Z.keep (eh _) fun q U=>hY) ac);rintro v C ⟨⟨j,rfl,V,hc2,J⟩,z,n4,o⟩;simp only[zfw]at n4 o J;have g4:C.get H.next=some (.cells [.int .i64 0,.int .i64 0,.str [],.int .i64 0,.nilS] 0 true):=MA
   have g4s:C.get (H.next+1)=some (.cells [.str [97],.str [98]] 0 true):=by rw[o _ ac ac,zfk,aq ac]
   have kb:=fun H=>Fs H V hc2;have e4:(H.next == C.next)=false:=zfN ac;have e5:(H.next+1 == C.next)=false:=zfN ac;dsimp only[zfp];have gh0:=@ym;have gh1:=@bx3;repeat' (first
    |apply Rx.o ?_|apply ct ?_|(apply zfx ?_;try intro _)|(apply zfG ?_ ?_<;>clear hK K)|apply br ?_|apply zhC rfl ?_|apply ax ?_)
   .exact zf6
   .refine⟨zfj,_,(by(try simp only[zfo,zfv,Nat.reduceBEq,tyF,zgD,zgN, *]);first|done|with_reducible rfl),?_⟩;try simp only[zfi]
    rw[af ac,aq ac]at Y;subst Y;refine⟨⟨_,rfl,rfl,rfl,?_⟩,?_,?_,?_⟩
    .refine xY (n:=k+1) _ _ _ _ (sO (n:=k+1) (a:=[j]) (imm:=0) (tip:=true) (by show H.next<=C.next;omega) iP BH au ⟨⟨V,J.keep (fun q U=>ac) iP fun q i g=>nP⟩,trivial⟩)
    .exact z.keep iP fun q U=>nP
    .simp only[zfI,zfw];omega
    .intro q i g;rw[aQ,af ac,zfk,af ac,o _ ac g,zfk,af ac];exact O q i g
  ·-- more operands
   have er:(H.next == r)=false:=zfN ac;refine aU rfl aV aW ?_;simp only[bi];refine aS ?_ (zhO hG k f (I+1) ac ac lo _ r L1 c Z ac);rintro v C ⟨⟨j,rfl,V,hc2,J⟩,z,n4,o⟩;have hl4:=zgP f k (I+1) L1;dsimp only[zfp];repeat' (first
    |apply Rx.o ?_|fail)
   refine aU rfl aV aW ?_;simp only[bi];refine aS ?_ (zhO hG k f (I+1) ac ac lo C r (zfC f k (I+1) L1).2 c z ac);rintro v H5 ⟨⟨ds,rfl,hd1,hd2,hd3⟩,hr5,n5,o5⟩;have hl5:=zgP f k (I+1) (zfC f k (I+1) L1).2;dsimp only[zfp];repeat' (first
    |apply Rx.o ?_|fail)
   refine aU rfl aV aW ?_;simp only[bi];refine aS ?_ (zhO hG k f (I+1) ac ac lo H5 r (zfC f k (I+1) (zfC f k (I+1) L1).2).2 c hr5 ac);rintro v H6 ⟨⟨es,rfl,he1,he2,he3⟩,hr6,n6,o6⟩;have hl6:=zgP f k (I+1) (zfC f k (I+1) (zfC f k (I+1) L1).2).2;dsimp only[zfp];have gz:H6.get H.next=some (.cells [.int .i64 0,.int .i64 0,.str [],.int .i64 0,.nilS] 0 true):=by rw[o6 _ ac ac,o5 _ ac ac,o _ ac ac];exact g2
   have kb:=fun H=>zb9 H V hd1 he1;have e4:(H.next == H6.next)=false:=zfN ac;have gh0:=@ym;have gh1:=@bx5;repeat' (first
    |(apply ah ?_;clear hK K)|apply Rx.o ?_|apply ct ?_|apply ax ?_)
   refine⟨zfj,_,(by(try simp only[zfo,zfv,Nat.reduceBEq,tyF,zgD,zgN, *]);first|done|with_reducible rfl),?_⟩;try simp only[zfi]
   rw[af ac,af ac,aq ac]at Y;subst Y;refine⟨⟨_,rfl,rfl,rfl,?_⟩,?_,?_,?_⟩
   .refine xY (n:=k+1) _ _ _ _ (sO (n:=k+1) (a:=[j,ds,es]) (imm:=0) (tip:=true) (by show H.next<=H6.next;omega) iP BH au ⟨⟨V,J.keep (fun q U=>ac) iP fun q i g=>by rw[aQ,af ac,zfk,af ac,o6 _ ac ac,o5 _ ac ac]⟩,⟨hd1,hd3.keep (fun q U=>ac) iP fun q i g=>by rw[aQ,af ac,zfk,af ac,o6 _ ac ac]⟩,⟨he1,he3.keep (fun q U=>ac) iP fun q i g=>nP⟩,trivial⟩)
   .exact hr6.keep iP fun q U=>nP
   .simp only[zfI,zfw];omega
   .intro q i g;rw[aQ,af ac,zfk,af ac,o6 _ ac g,o5 _ ac g,o _ ac g];exact O q i g
  ·-- one operand
   have er:(H.next == r)=false:=zfN ac;refine aU rfl aV aW ?_;simp only[gL];refine aS ?_ (zhO hG k f (I+1) ac ac lo _ r L1 c (Z.keep (eh _) fun q U=>hY) ac);rintro v C ⟨⟨j,rfl,V,hc2,J⟩,z,n4,o⟩;simp only[zfw]at n4 o J;have g4:C.get H.next=some (.cells [.int .i64 0,.int .i64 0,.str [],.int .i64 0,.nilS] 0 true):=MA
   have g4s:C.get (H.next+1)=some (.cells [.int .i64 20,.int .i64 21] 0 true):=by rw[o _ ac ac,zfk,aq ac]
   have kb:=fun H=>Fs H V hc2;have e4:(H.next == C.next)=false:=zfN ac;have e5:(H.next+1 == C.next)=false:=zfN ac;dsimp only[zfp];have gh0:=@MF;have gh1:=@ym;have gh2:=@ME;repeat' (first
    |apply Rx.o ?_|apply ct ?_|(apply zfx ?_;try intro _)|(apply zfG ?_ ?_<;>clear hK K)|apply br ?_|apply zhC rfl ?_|apply ax ?_)
   .exact zf6
   .refine⟨zfj,_,(by(try simp only[zfo,zfv,Nat.reduceBEq,tyF,zgD,zgN, *]);first|done|with_reducible rfl),?_⟩;try simp only[zfi]
    rw[af ac,af ac,af ac,aq ac]at Y;subst Y;refine⟨⟨_,rfl,rfl,rfl,?_⟩,?_,?_,?_⟩
    .refine xY (n:=k+1) _ _ _ _ (sO (n:=k+1) (a:=[j]) (imm:=0) (tip:=true) (by show H.next<=C.next;omega) iP BH au ⟨⟨V,J.keep (fun q U=>ac) iP fun q i g=>nP⟩,trivial⟩)
    .exact z.keep iP fun q U=>nP
    .simp only[zfI,zfw];omega
    .intro q i g;rw[aQ,af ac,zfk,af ac,o _ ac g,zfk,af ac];exact O q i g
  ·-- more operands
   have er:(H.next == r)=false:=zfN ac;refine aU rfl aV aW ?_;simp only[bi];refine aS ?_ (zhO hG k f (I+1) ac ac lo _ r L1 c Z ac);rintro v C ⟨⟨j,rfl,V,hc2,J⟩,z,n4,o⟩;have hl4:=zgP f k (I+1) L1;dsimp only[zfp];repeat' (first
    |apply Rx.o ?_|fail)
   refine aU rfl aV aW ?_;simp only[bi];refine aS ?_ (zhO hG k f (I+1) ac ac lo C r (zfC f k (I+1) L1).2 c z ac);rintro v H5 ⟨⟨ds,rfl,hd1,hd2,hd3⟩,hr5,n5,o5⟩;have hl5:=zgP f k (I+1) (zfC f k (I+1) L1).2;dsimp only[zfp];have gz:H5.get H.next=some (.cells [.int .i64 0,.int .i64 0,.str [],.int .i64 0,.nilS] 0 true):=by rw[o5 _ ac ac,o _ ac ac];exact g2
   have kb:=fun H=>zb8 H V hd1;have e4:(H.next == H5.next)=false:=zfN ac;have gh0:=@ym;have gh1:=@ME;repeat' (first
    |(apply ah ?_;clear hK K)|apply Rx.o ?_|apply ct ?_|apply ax ?_)
   refine⟨zfj,_,(by(try simp only[zfo,zfv,Nat.reduceBEq,tyF,zgD,zgN, *]);first|done|with_reducible rfl),?_⟩;try simp only[zfi]
   rw[af ac,af ac,af ac,af ac]at Y;subst Y;refine⟨⟨_,rfl,rfl,rfl,?_⟩,?_,?_,?_⟩
   .refine xY (n:=k+1) _ _ _ _ (sO (n:=k+1) (a:=[j,ds]) (imm:=0) (tip:=true) (by show H.next<=H5.next;omega) iP BH au ⟨⟨V,J.keep (fun q U=>ac) iP fun q i g=>by rw[aQ,af ac,zfk,af ac,o5 _ ac ac]⟩,⟨hd1,hd3.keep (fun q U=>ac) iP fun q i g=>nP⟩,trivial⟩)
   .exact hr5.keep iP fun q U=>nP
   .simp only[zfI,zfw];omega
   .intro q i g;rw[aQ,af ac,zfk,af ac,o5 _ ac g,o _ ac g];exact O q i g
  .refine⟨zfj,_,(by(try simp only[zfo,zfv,Nat.reduceBEq,tyF,zgD,zgN, *]);first|done|with_reducible rfl),?_⟩;try simp only[zfi]
   first
   |rw[aq ac,aq ac]at Y
   |rw[aq ac,af ac]at Y
   subst Y;refine kf _ _ ?_ ?_ ?_ _ rfl rfl (sP _ _ _ _)
   .exact Z.keep (aE _) fun q U=>kJ
   .simp only[zfI];omega
   .intro q i g;rw[aQ,af ac];exact O q i g
  .refine⟨zfj,_,(by(try simp only[zfo,zfv,Nat.reduceBEq,tyF,zgD,zgN, *]);first|done|with_reducible rfl),?_⟩;try simp only[zfi]
   first
   |rw[aq ac,aq ac]at Y
   |rw[aq ac,af ac]at Y
   subst Y;refine kf _ _ ?_ ?_ ?_ _ rfl rfl (sP _ _ _ _)
   .exact Z.keep (aE _) fun q U=>kJ
   .simp only[zfI];omega
   .intro q i g;rw[aQ,af ac];exact O q i g
  .refine⟨zfj,_,(by(try simp only[zfo,zfv,Nat.reduceBEq,tyF,zgD,zgN, *]);first|done|with_reducible rfl),?_⟩;try simp only[zfi]
   first
   |rw[aq ac,aq ac]at Y
   |rw[aq ac,af ac]at Y
   subst Y;refine kf _ _ ?_ ?_ ?_ _ rfl rfl (sP _ _ _ _)
   .exact Z.keep (aE _) fun q U=>kJ
   .simp only[zfI];omega
   .intro q i g;rw[aQ,af ac];exact O q i g
  .refine⟨zfj,_,(by(try simp only[zfo,zfv,Nat.reduceBEq,tyF,zgD,zgN, *]);first|done|with_reducible rfl),?_⟩;try simp only[zfi]
   first
   |rw[aq ac,aq ac]at Y
   |rw[aq ac,af ac]at Y
   subst Y;refine kf _ _ ?_ ?_ ?_ _ rfl rfl (sP _ _ _ _)
   .exact Z.keep (aE _) fun q U=>kJ
   .simp only[zfI];omega
   .intro q i g;rw[aQ,af ac];exact O q i g
end
section
def tyG4.tyF:=ad @cN (ad @eQ (ad @fO (ad @u6 (ad @gJ (ad @dH (ad @iO (ad @fP (@eR))))))))
open tyG4
noncomputable def MG:{c:SC // aH 36 (Tryz.f48.body.getD .skip)=c}:=by
 refine⟨?_,?_⟩;rotate_left
 .simp only[Tryz.f48,bS,aH,zfO,zfL,zfR,zfS,Nat.blt,Nat.ble];rfl
noncomputable def qx:{c:SC // aH 156 (Tryz.f84.body.getD .skip)=c}:=by
 refine⟨?_,?_⟩;rotate_left
 .simp only[Tryz.f84,bS,aH,zfO,zfL,zfR,zfS,Nat.blt,Nat.ble];rfl
abbrev zf8:=List Int×Int
def fK(step:zf8->St×zf8):Nat->zf8->List St×zf8
 |0,s=>([],s)
 |n+1,s=>if s.1=[]then ([],s)else ((step s).1::(fK step n (step s).2).1,(fK step n (step s).2).2)
def zg8(f:Int):Nat->List Int->List Ex×List Int
 |0,L=>([],L)
 |n+1,L=>((zfC f 3 2 L).1::(zg8 f n (zfC f 3 2 L).2).1,(zg8 f n (zfC f 3 2 L).2).2)
def zhu:Ex:=.mk 0 0 [] 0 []
def kT(m:Int):List UInt8:=if m.tmod 2=0 then [102]else [103]
def zg7(Z:Int->zf8->List St×zf8)(f:Int)(L:List Int)(c q m:Int):St×zf8:=
 if q<6 then (.mk 1 ((zf1 f).getD (m.tmod (zf1 f).length).toNat []) [] 0 zhu (zfC f 5 0 L).1 [] [] [],((zfC f 5 0 L).2,c))
 else if q<8 then (.mk 2 (rF m) [] 0 (zfC f 3 2 L).1 (zfC f 4 1 (zfC f 3 2 L).2).1 [] [] [],((zfC f 4 1 (zfC f 3 2 L).2).2,c))
 else if q<10 then (.mk 3 [] [] 0 zhu (zfC f 4 1 L).1 [] (Z 3 ((zfC f 4 1 L).2,c)).1 (Z 2 (Z 3 ((zfC f 4 1 L).2,c)).2).1,(Z 2 (Z 3 ((zfC f 4 1 L).2,c)).2).2)
 else if q<12 then (.mk 4 [] [] 0 zhu (zfC f 4 1 L).1 [] (Z 3 ((zfC f 4 1 L).2,cu (c+1))).1 [],(Z 3 ((zfC f 4 1 L).2,cu (c+1))).2)
 else if q<14 then (.mk 5 [] [] 0 zhu (zfC f 4 1 L).1 [] [] [],((zfC f 4 1 L).2,c))
 else if q<15 then (.mk 6 ((zf1 f).getD (m.tmod (zf1 f).length).toNat []) (kT m) 0 zhu zhu (zg8 f (2-m.tmod 2).toNat L).1 [] [],((zg8 f (2-m.tmod 2).toNat L).2,c))
 else (.mk 7 [] [] m zhu zhu [] [] [],(L,c))
def ur(deep:Nat)(c U:Int):Int:=if ((2:Int)<deep/\8<=U/\U<12)\/(10<=c/\10<=U)then 0 else U
def sV(m:Int->zf8->List St×zf8)(f:Int)(deep:Nat)(s:zf8):St×zf8:=
 zg7 m f (zfP s.1).2 s.2 (ur deep s.2 (zgv (zfP s.1).1 16)) (zgv (cu ((zfP s.1).1.tdiv 16)) 1000)
def zg4(f:Int):Nat->Nat->zf8->St×zf8
 |0,_,s=>(.mk 0 [] [] 0 zhu zhu [] [] [],s)
 |k+1,deep,s=>sV (fun J s=>fK (zg4 f k (deep+1)) (zgv (zfP s.1).1 (J+1)).toNat ((zfP s.1).2,s.2)) f deep s
def j9(f:Int)(k deep:Nat)(J:Int)(s:zf8):List St×zf8:=fK (zg4 f k deep) (zgv (zfP s.1).1 (J+1)).toNat ((zfP s.1).2,s.2)
theorem yn{step:zf8->St×zf8}(h:∀s,(step s).2.1.length<=s.1.length):∀(n:Nat) (s:zf8),(fK step n s).2.1.length<=s.1.length
 |0,_=>aE _
 |n+1,s=>by
  rw[fK];split
  .exact aE _
  .exact cJ (yn h n _) (h s)
theorem Ft(f:Int):∀(n:Nat) (L:List Int),(zg8 f n L).2.length<=L.length
 |0,_=>aE _
 |n+1,L=>cJ (Ft f n _) (zgP f 3 2 L)
theorem zrC{m:Int->zf8->List St×zf8}(h2:∀(J:Int) (s:zf8),(m J s).2.1.length<=s.1.length)(f:Int)(deep:Nat)(s:zf8):(sV m f deep s).2.1.length<=s.1.length:=by
 have h:=zhN s.1;have C:=zgP f 4 1 (zfP s.1).2;have I:=zgP f 5 0 (zfP s.1).2;have Z:=zgP f 3 2 (zfP s.1).2;have g:=zgP f 4 1 (zfC f 3 2 (zfP s.1).2).2;rw[sV,zg7];generalize ur deep s.2 (zgv (zfP s.1).1 16)=q;by_cases c1:q<6
 .rw[aq c1];exact cJ I h
 rw[af c1];by_cases Y:q<8
 .rw[aq Y];exact cJ g (cJ Z h)
 rw[af Y];by_cases U:q<10
 .rw[aq U];exact cJ (h2 _ _) (cJ (h2 _ _) (cJ C h))
 rw[af U];by_cases M:q<12
 .rw[aq M];exact cJ (h2 _ _) (cJ C h)
 rw[af M];by_cases V:q<14
 .rw[aq V];exact cJ C h
 rw[af V];by_cases O:q<15
 .rw[aq O];exact cJ (Ft f _ _) h
 rw[af O];exact h
theorem yo(f:Int):∀(k I:Nat) (s:zf8),(zg4 f k I s).2.1.length<=s.1.length
 |0,_,_=>aE _
 |k+1,I,s=>zrC (fun J s=>cJ (yn (yo f k (I+1)) _ _) (zhN s.1)) f I s
def vP(k:Int)(nm O:List UInt8)(n:Int)(a v:List AV)(j o z:AV):List AV:=[.int .i64 k,.str nm,.str O,.int .i64 n]++a++v++[j,o,z]
theorem ut{S:Nat->Prop}{n:Nat}{H:Hp}(k:Int)(nm O:List UInt8)(g:Int){a v:List AV}{Z Y:Ex}{j o z:AV}{al:List Ex}{V U:List St}(M:zgq S (n+1) H a Z.cells)(L:zgq S (n+1) H v Y.cells)(h1:iq S (n+1) H j (.lst (al.map Ex.cells)))(h2:iq S (n+1) H o (.lst (V.map St.cells)))(m:iq S (n+1) H z (.lst (U.map St.cells))):
 zgq S (n+1) H (vP k nm O g a v j o z) (St.mk k nm O g Z Y al V U).cells:=by
 have e:(St.mk k nm O g Z Y al V U).cells=[.int .i64 k,.str nm,.str O,.int .i64 g]++Z.cells++Y.cells++[.lst (al.map Ex.cells),.lst (V.map St.cells),.lst (U.map St.cells)]:=by
  rw[tI,pU,pU];rfl
 rw[e];exact(((zgq.cons (.int _ _) (.cons (.str _) (.cons (.str _) (.cons (.int _ _) .nil)))).append M).append L).append (.cons h1 (.cons h2 (.cons m .nil)))
def zh7:List AV:=[.int .i64 0,.int .i64 0,.str [],.int .i64 0,.nilS]
theorem sW{S:Nat->Prop}{n:Nat}{H:Hp}:zgq S (n+1) H zh7 zhu.cells:=sP 0 0 0 []
theorem bS1(nm:List UInt8){v:List AV}(h:v.length=5):zgB Tryz.prog 96 [(0,.int .i64 1),(1,.str nm),(5,.agg v)]=some (.agg (vP 1 nm [] 0 zh7 v .nilS .nilS .nilS)):=by
 obtain⟨a,b,c,d,e,rfl⟩:=j8 h;kernel_rfl
theorem bS2(nm:List UInt8){a v:List AV}(h:a.length=5)(k:v.length=5):zgB Tryz.prog 96 [(0,.int .i64 2),(1,.str nm),(4,.agg a),(5,.agg v)]=some (.agg (vP 2 nm [] 0 a v .nilS .nilS .nilS)):=by
 obtain⟨a,b,c,d,e,rfl⟩:=j8 h;obtain⟨L,o,g,z,i,rfl⟩:=j8 k;kernel_rfl
theorem bS3(k:Int){v:List AV}(h:v.length=5):zgB Tryz.prog 96 [(0,.int .i64 k),(5,.agg v)]=some (.agg (vP k [] [] 0 zh7 v .nilS .nilS .nilS)):=by
 obtain⟨a,b,c,d,e,rfl⟩:=j8 h;kernel_rfl
theorem bS6(nm O:List UInt8):zgB Tryz.prog 96 [(0,.int .i64 6),(1,.str nm),(2,.str O)]=some (.agg (vP 6 nm O 0 zh7 zh7 .nilS .nilS .nilS)):=aj
theorem bS7(n:Int):zgB Tryz.prog 96 [(0,.int .i64 7),(3,.int .i64 n)]=some (.agg (vP 7 [] [] n zh7 zh7 .nilS .nilS .nilS)):=aj
theorem zcg{cs:List AV}(h:cs.length=17):∃c0 c1 Z U M C I i Y j J g V O L o m,cs=[c0,c1,Z,U,M,C,I,i,Y,j,J,g,V,O,L,o,m]:=by
 match cs,h with
 |[c0,c1,Z,U,M,C,I,i,Y,j,J,g,V,O,L,o,m],_=>exact⟨c0,c1,Z,U,M,C,I,i,Y,j,J,g,V,O,L,o,m,rfl⟩
theorem zch(H:Hp){cs:List AV}(h:cs.length=17):zgW Tryz.prog H 60 1 [(0,.agg cs)]=some (.sl H.next 0 1 17,H.alloc (.cells cs 0 true)):=by
 obtain⟨c0,c1,Z,U,M,C,I,i,Y,j,J,g,V,O,L,o,m,rfl⟩:=zcg h;kernel_rfl
def zci(z n lo:Nat)(H:Hp)(r:Nat)(U:List (List AV))(L:List Int)(c:Int)(v:AV)(H':Hp):Prop:=
 zgS (fun q=>H.next<=q) n H' z v U/\ir lo H' r L c/\H.next<=H'.next/\∀q,q<H.next->q≠r->H'.get q=H.get q
theorem ir.len{lo:Nat}{H:Hp}{r:Nat}{L:List Int}{c:Int}(h:ir lo H r L c):∃v,H.get r=some (.cells [v,.int .i64 c] 0 true)/\∀H',zf9 Tryz.prog H' 23 v=some (.int .i64 L.length):=by
 obtain⟨_,_,v,i,g⟩:=h;refine⟨v,i,fun H'=>?_⟩;rcases g with⟨rfl,rfl⟩|⟨b,m,Z,V,rfl,_⟩
 .exact zhM Tryz.underlying23 _
 .exact zhE Tryz.underlying23 _ _ _ _
def oQ(Z:List En)(k:Nat)(f:Int)(deep:Nat):Prop:=∀(Y:Nat) (H:Hp) (r:Nat) (s:zf8),ir Y H r s.1 s.2->s.1.length<2^60 ->
 zfs Tryz.prog (zfn pls Z) 84 [.ptr r 0,.int .i64 f,.int .i64 deep] H (yl 17 (8+k) Y H r (zg4 f k deep s).1.cells (zg4 f k deep s).2.1 (zg4 f k deep s).2.2)
set_option maxRecDepth 100000 in
theorem yp{lG:List En}(hG:GenL lG){k:Nat}{f:Int}{deep:Nat}(hst:oQ lG k f deep)(J:Int)(h0:0<=J)(h1:J<=5)(lo:Nat)(H:Hp)(r:Nat)(s:zf8)(O:ir lo H r s.1 s.2)(hL:s.1.length<2^60):
 zfs Tryz.prog (zfn pls lG) 48 [.ptr r 0,.int .i64 f,.int .i64 deep,.int .i64 J] H (zci 17 (8+k) lo H r ((j9 f k deep J s).1.map St.cells) (j9 f k deep J s).2.1 (j9 f k deep J s).2.2):=by
 have hw:Plain (zfn pls lG) 48:=hG.plain dR;have z:(zfn pls lG).keep 48=false:=rfl;have hnx:Plain (zfn pls lG) 40:=hG.plain dR;have hrl:=O.1;have hlo:=O.2.1;have hw1:IntKind.wrap .i64 (J+1)=J+1:=zhb ac ac;rw[j9];refine zfz (M:=36) (rs:=[.tmp 8]) (hw.call _) hw.ice hw.froz Tryz.func48 rfl rfl MG.2 rfl ?_;dsimp only[MG,zft,Nat.reduceAdd];repeat' (first
  |(apply ah ?_;clear hK K)|apply Rx.o ?_|apply ak ?_|(apply zff fun K hK=>?_)|fail)
 refine aU rfl aV aW ?_;simp only[bi];refine aS ?_ (Bk hnx O hL);rintro v H2 ⟨rfl,hr2,n2,o2⟩;have hL1:=zhN s.1;generalize (zfP s.1).1=n at *;generalize (zfP s.1).2=L1 at *;have hm1:J+1≠0:=ac;have hp:=zhS (n:=n) (m:=J+1) ac ac;generalize hc:(zgv n (J+1)).toNat=V at *;have hpc:zgv n (J+1)=(V:Int):=ac;dsimp only[zfp];repeat' (first
  |(apply ah ?_;clear hK K)|apply Rx.o ?_|(apply kF ?_;first|refine Rx.k (vy hG.pick _ _ hm1 _) ?_)|apply ay ?_|fail)
 refine YO [0,1,2,8] [] (fun i E I=>i<=V/\E.at 10=.int .i64 i/\∃v l C,E.at 9=v/\zgS (fun q=>H.next<=q) (8+k) I 17 v (l.map St.cells)/\ir lo I r C.1 C.2/\(∀q,q<H.next->q≠r->I.get q=H.get q)/\l.length+i=V/\C.1.length<2^60 /\
  fK (zg4 f k deep) V (L1,s.2)=(l++(fK (zg4 f k deep) i C).1,(fK (zg4 f k deep) i C).2)) V ⟨aE _,DQ,.nilS,[],(L1,s.2),eE,.inl ⟨rfl,rfl⟩,hr2,fun q h1 g=>o2 q g,au,vM,au⟩ ?_
 rintro i E I hcE hrH hnH ⟨hic,hsI,v,l,C,k9,Z,L,o3,hli,hsl,hJ⟩;(try simp only[zfT,zfB,a0,zfo,zfv,Nat.reduceBEq, *]at hcE);obtain⟨lv,hgr,hlen⟩:=L.len;have hle:H.next<=I.next:=ac
 repeat' (first
  |(apply ah ?_;clear hK K)|apply Rx.o ?_|(apply dr (fun hg hgp=>?_) (fun hg hgp=>?_)<;>try(cases hg;done))|(apply bt (fun hb hbp=>?_) (fun hb hbp=>?_)<;>try(cases hb;done))|apply ak ?_|(apply zff fun K hK=>?_)|apply ay ?_|apply zfh ?_|apply ax ?_|apply zfr ?_)
 .refine aU rfl aV aW ?_;simp only[bi];refine aS ?_ (hst lo I r C L hsl);rintro v' H4 ⟨⟨cs,rfl,hc1,hc2,hc3⟩,hr4,n4,o4⟩;have kb:=fun H=>zch H hc1;dsimp only[zfp];repeat' (first
   |apply Rx.o ?_|fail)
  have hvq:∀q o m U,v=.sl q o m U->H.next<=q/\q<I.next:=fun q o m U e=>by
   rcases Z with⟨rfl,_⟩|⟨q',imm,rows,rfl,e1,e2,_⟩
   .cases e
   .simp only[AV.sl.injEq]at e;rw[<-e.1];exact⟨e1,e2⟩
  have Y:zgS (fun q=>H.next<=q) (8+k) (H4.alloc (.cells cs 0 true)) 17 v (l.map St.cells):=Z.keep (fun q _ h=>h) fx fun q h1 g=>by rw[zfk,af ac,o4 q g ac]
  obtain⟨v5,H5,a5,s5,n5,f5,q5⟩:=zgS.push (P:=Tryz.prog) (t:=60) Tryz.underlying60 DJ Iv Iw rfl aj Y fx (r:=H4.next) (imm:=0) (row:=cs) (w:=(zg4 f k deep C).1.cells) kV hc1 hc2 (hc3.keep2 (fun q h1 g=>⟨ac,fun o m U e=>by have:=(hvq q o m U e).2;omega⟩) (eh _) fun q h1 g=>hY) BE BE;refine sd zhx zhx (by rw[z];exact a5) ?_;have hi0:0<i:=ac;obtain⟨i,rfl⟩:∃j,i=j+1:=⟨i-1,ac⟩;have hwd:IntKind.wrap .i64 (((i+1:Nat):Int)-1)=(i:Int):=by rw[zhb ac ac];omega
  simp only[zfw]at n5 f5;have n5':I.next<=H5.next:=ac
  have o5:∀q,q<H.next->q≠r->H5.get q=H.get q:=fun q h1 g=>by rw[f5 q ac (fun o m U e=>by have:=(hvq q o m U e).1;omega),zfk,af ac,o4 q ac g,o3 q h1 g]
  have hr5:ir lo H5 r (zg4 f k deep C).2.1 (zg4 f k deep C).2.2:=hr4.keep ac fun q hq=>by rw[f5 q ac (fun o m U e=>by have:=(hvq q o m U e).1;omega),zfk,af ac]
  clear n5 f5 a5 Y o4 hr4;repeat' (first
   |(apply ah ?_;clear hK K)|apply Rx.o ?_|(apply zff fun K hK=>?_)|fail)
  have hne:C.1≠[]:=by
   intro e;have:C.1.length=0:=by rw[e];rfl
   omega
  have hsd:=yo f k deep C;refine⟨(by simp only[zfT,zfB,a0,zfo,zfv,Nat.reduceBEq, *]),(by simp only[zfB]),ac,i,cI _,ac,eE,v5,l++[(zg4 f k deep C).1],(zg4 f k deep C).2,eE,by rw[r0];exact s5,hr5,o5,cC,ac,?_⟩;rw[hJ,fK,af hne];simp
 all_goals
  all_goals (refine⟨zfj,_,zfq,?_⟩;try simp only[zfi])
  have hfin:fK (zg4 f k deep) i C=([],C):=by
   rcases(by omega:i=0\/C.1.length=0)with h|h
   .rw[h];rfl
   .cases i with
    |zero=>rfl
    |succ i=>rw[fK,aq (Jb h)]
  rw[hJ,hfin];exact⟨by rw[bi];exact Z,L,hle,o3⟩
end
section
theorem sX{m:Int}(h:0<=m):[AV.str [102],AV.str [103]][(m.tmod 2).toNat]?=some (.str (kT m)):=by
 rw[Fq h,kT];split<;>rfl
theorem zyr{P:Program}{cfg:Cfg}{f N:Nat}{a:SC}{E:aw}{H:Hp}{Q:AX->aw->Hp->Prop}(F:aw->Hp->Prop)(h1:zfV P cfg f N a E H fun x E' H'=>x=.normal/\F E' H')(h2:∀E' H',F E' H'->Q .normal E' H'):zfV P cfg f N a E H Q:=
 zfV.mono (fun x E' H' h=>by obtain⟨rfl,h⟩:=h;exact h2 E' H' h) h1
theorem ir.tick{lo:Nat}{H:Hp}{r:Nat}{L:List Int}{c:Int}(h:ir lo H r L c):∃v,H.get r=some (.cells [v,.int .i64 c] 0 true)/\∀g,ir lo (H.set r (.cells [v,.int .i64 g] 0 true)) r L g:=by
 obtain⟨M,i,v,Y,Z⟩:=h;refine⟨v,Y,fun g=>⟨M,i,v,iA,?_⟩⟩;rcases Z with Z|⟨b,m,U,V,O,J,o,K,z⟩
 .exact .inl Z
 .exact .inr ⟨b,m,U,V,O,by rw[aQ,af K];exact J,o,K,z⟩
theorem kb1(nm:List UInt8)(z g I Y O:AV):zgB Tryz.prog 96 [(0,.int .i64 1),(1,.str nm),(5,.agg [z,g,I,Y,O])]=some (.agg [.int .i64 1,.str nm,.str [],.int .i64 0,.int .i64 0,.int .i64 0,.str [],.int .i64 0,.nilS,z,g,I,Y,O,.nilS,.nilS,.nilS]):=bS1 nm rfl
theorem kb2(nm:List UInt8)(zhI C K M Z z g I Y O:AV):zgB Tryz.prog 96 [(0,.int .i64 2),(1,.str nm),(4,.agg [zhI,C,K,M,Z]),(5,.agg [z,g,I,Y,O])]=some (.agg [.int .i64 2,.str nm,.str [],.int .i64 0,zhI,C,K,M,Z,z,g,I,Y,O,.nilS,.nilS,.nilS]):=bS2 nm rfl rfl
theorem MH(k:Int)(z g I Y O:AV):zgB Tryz.prog 96 [(0,.int .i64 k),(5,.agg [z,g,I,Y,O])]=some (.agg [.int .i64 k,.str [],.str [],.int .i64 0,.int .i64 0,.int .i64 0,.str [],.int .i64 0,.nilS,z,g,I,Y,O,.nilS,.nilS,.nilS]):=bS3 k rfl
theorem kb6(nm O:List UInt8):zgB Tryz.prog 96 [(0,.int .i64 6),(1,.str nm),(2,.str O)]=some (.agg [.int .i64 6,.str nm,.str O,.int .i64 0,.int .i64 0,.int .i64 0,.str [],.int .i64 0,.nilS,.int .i64 0,.int .i64 0,.str [],.int .i64 0,.nilS,.nilS,.nilS,.nilS]):=bS6 nm O
theorem MI(n:Int):zgB Tryz.prog 96 [(0,.int .i64 7),(3,.int .i64 n)]=some (.agg [.int .i64 7,.str [],.str [],.int .i64 n,.int .i64 0,.int .i64 0,.str [],.int .i64 0,.nilS,.int .i64 0,.int .i64 0,.str [],.int .i64 0,.nilS,.nilS,.nilS,.nilS]):=bS7 n
theorem MJ(c0 c1 Z U M C I i Y j J g V O L o m:AV):jo 17 [c0,c1,Z,U,M,C,I,i,Y,j,J,g,V,O,L,o,m]=some (.agg [c0,c1,Z,U,M,C,I,i,Y,j,J,g,V,O,L,o,m]):=rfl
theorem MK:zge Tryz.prog 96=some [.int .i64 0,.str [],.str [],.int .i64 0,.int .i64 0,.int .i64 0,.str [],.int .i64 0,.nilS,.int .i64 0,.int .i64 0,.str [],.int .i64 0,.nilS,.nilS,.nilS,.nilS]:=aj
theorem sY{a b c d e:AV}(h:[a,b,c,d,e].all AV.one=true):AV.one a=true/\AV.one b=true/\AV.one c=true/\AV.one d=true/\AV.one e=true:=by
 simp only[qd,sU,jV,co]at h;exact⟨h.1,h.2.1,h.2.2.1,h.2.2.2.1,h.2.2.2.2⟩
theorem uw{lo:Nat}{H:Hp}{r n:Nat}{K:Hp}{L:List Int}{c:Int}{cs:List AV}{x:St}(Z:cs.length=17)(o:cs.all AV.one=true)(Y:zgq (fun q=>H.next<=q) n K cs x.cells)(hr:ir lo K r L c)(z:H.next<=K.next)(j:∀q,q<H.next->q≠r->K.get q=H.get q):yl 17 n lo H r x.cells L c (.agg cs) K:=⟨⟨cs,rfl,Z,o,Y⟩,hr,z,j⟩
def nS:SC->SC
 | .seq _ b=>b
 |x=>x
noncomputable def mY:SC:=nS (nS (nS (nS (nS (nS qx.1)))))
noncomputable def qy(f:Int)(k deep:Nat):Int->zf8->List St×zf8:=fun J s=>fK (zg4 f k (deep+1)) (zgv (zfP s.1).1 (J+1)).toNat ((zfP s.1).2,s.2)
structure AtT (f:Int) (deep lo:Nat) (H H2:Hp) (r:Nat) (L1:List Int) (c q m:Int) (E2:aw):Prop where
 hd:deep<=3
 hrl:r<lo
 hlo:lo<=H.next
 n2:H2.next=H.next+1
 g2:H2.get H.next=some (.cells [.int .i64 0,.str [],.str [],.int .i64 0,.int .i64 0,.int .i64 0,.str [],.int .i64 0,.nilS,.int .i64 0,.int .i64 0,.str [],.int .i64 0,.nilS,.nilS,.nilS,.nilS] 0 true)
 o2:∀q,q<H.next->q≠r->H2.get q=H.get q
 hr2:ir lo H2 r L1 c
 hL:L1.length<2^60
 hm:0<=m/\m<1000
 hqd:8<=q->q<12->deep<=2
 k0:E2.at 0=.ptr r 0
 k1:E2.at 1=.int .i64 f
 k2:E2.at 2=.int .i64 deep
 k6:E2.at 6=.ptr H.next 0
 k8:E2.at 8=jp (zf1 f)
 k9:E2.at 9=.int .i64 m
 k10:E2.at 10=.int .i64 q
def mZ(k:Nat)(f:Int)(deep lo:Nat)(H:Hp)(r:Nat)(L:List Int)(c q m:Int):AX->aw->Hp->Prop:=fun x E' H'=>(x=.normal\/x=.ret)/\∃vs,zgD Tryz.prog E' H' [.cell 6 96]=some vs/\yl 17 (8+(k+1)) lo H r (zg7 (qy f k deep) f L c q m).1.cells (zg7 (qy f k deep) f L c q m).2.1 (zg7 (qy f k deep) f L c q m).2.2 (zfi vs) H'
noncomputable def Fv:En:=⟨44,true,dc (fun p=>p.sz<2^36) gh fun p=>.int .i64 (zhj p)⟩
theorem zrD(ρ:Nat->Int):zgE Tryz.prog ρ Fv:=zgO fun p hp=>zpi ρ p hp
def tyLoL.tyF:=ad @cN (ad @dH (ad @iD (ad @eQ (ad @lP (ad @xp (ad @xq (ad @u5 (ad @nF (ad @iZ (ad @tK (ad @iO (ad @fO (ad @eR (ad @mM (ad @li (ad @pV (ad @nG (@pi))))))))))))))))))
open tyLoL
noncomputable def BN:{c:SC // aH 84 (Tryz.f27.body.getD .skip)=c}:=by
 refine⟨?_,?_⟩;rotate_left
 .simp only[Tryz.f27,bS,aH,zfO,zfL,zfR,zfS,Nat.blt,Nat.ble];rfl
theorem ML:∀(l:List zfD) (i:Nat) (m:List (zfD×Int)),l.Nodup->∀J,em (ez l i m) J=if zfE l J=true then ((i+cp l J:Nat):Int)else em m J
 |[],i,m,_,J=>rfl
 |a::l,i,m,h,J=>by
  obtain⟨Z,g⟩:=ub.1 h;have K:zfE (a::l) J=(decide (a=J)||zfE l J):=rfl;rw[ez,ML l (i+1) _ g J,K];by_cases e:a=J
  .subst e;have z:zfE l a=false:=by
    rw[zfE,oZ];intro x C hd;exact Z (by rw[<-qe hd];exact C)
   rw[z,af au,uf,aq rfl,dt rfl,o0,aq rfl,cp,aq rfl,qT]
  .rw[d6 e,gH,cp,af e];by_cases c:zfE l J=true
   .rw[aq c,aq c,aq c,show i+1+cp l J=i+(cp l J+1) by omega]
   .rw[af c,af c,uf,af (fun h=>e h.symm)]
theorem zuh:∀(l:List zfD) (J:zfD),zfE l J=false->cp l J=0
 |[],_,_=>rfl
 |a::l,J,h=>by
  have K:zfE (a::l) J=(decide (a=J)||zfE l J):=rfl;rw[K,gG,i4]at h;rw[cp,af h.1,h.2];rfl
theorem MM{l:List zfD}(h:l.Nodup)(nm:zfD):em (ez l 0 []) nm=cp l nm:=by
 rw[ML l 0 [] h nm];by_cases c:zfE l nm=true
 .rw[aq c,b9]
 .rw[af c,zuh l nm BF];rfl
theorem Valid.fnNames{p:Pr}(h:Valid p){f:Fu}(i:f∈p.funcs):(f.params++f.locals).Nodup:=by
 have hd:=h.du;rw[mR,AQ,gG,gG]at hd;have:=oZ.1 hd.2.2 f i;exact EL _ _ (by simpa using this)
theorem zcp{p:Pr}(U:Valid p){f:Fu}(i:f∈p.funcs){X:Lx}(J:X.p=p)(Z:X.ae=ez (p.arrays.map (·.name)) 0 [])(o:X.fe=j5 p.funcs 0 []):CxOk (X.nx (ez (f.params++f.locals) 0 [])) (jI p f) where
 ar:=J▸rfl
 ae nm:=by
  show em X.ae nm=_;rw[Z];exact MM U.nodup nm
 ne nm:=MM (U.fnNames i) nm
 fe nm h:=by
  show em X.fe nm=_;rw[o];exact Kc nm p.funcs [] 0 [] U.names.2 h
theorem LowT.of{i:List En}(h:∀e∈i,EW e.f=false):LowT i:=⟨fun f Z=>by
 have U:∀e∈i,Nat.beq e.f f=false:=fun e g=>by
  cases o:Nat.beq e.f f with
  |false=>rfl
  |true=>rw[<-jf o,h e g]at Z;cases Z
 clear h;induction i with
 |nil=>exact⟨fun _=>rfl,rfl⟩
 |cons e l ih=>
  obtain⟨z,m⟩:=ih fun x C=>U x (dO _ C)
  have g:=U e dJ;exact⟨fun Y=>by simp only[zgw,g];exact z Y,by simp only[lQ]at m⊢;simp only[g,];exact m⟩⟩
theorem zuj{l:List zfD}{i:Nat}(h:i<l.length):ez (l.take (i+1)) 0 []=setV (ez (l.take i) 0 []) l[i] (i:Int):=by
 rw[oA,aR h];show ez (l.take i++[l[i]]) 0 []=_;rw[Bw,jR,uU ac,b9]
theorem MN:∀(l:List Fu) (f:Fu) (i:Nat) (m:List (zfD×Int)),j5 (l++[f]) i m=setV (j5 l i m) f.name ((i+l.length:Nat):Int)
 |[],f,i,m=>rfl
 |b::l,f,i,m=>by
  rw[pj,j5,MN l f (i+1),j5,dg,show i+1+l.length=i+(l.length+1) by omega]
theorem zrE{l:List Fu}{i:Nat}(h:i<l.length):j5 (l.take (i+1)) 0 []=setV (j5 (l.take i) 0 []) (l[i]).name (i:Int):=by
 rw[oA,aR h];show j5 (l.take i++[l[i]]) 0 []=_;rw[MN,jR,uU ac,b9]
def Fw(p:Pr)(n:Nat):Prop:=∀f∈p.funcs,∃s v,eC (jI p f) n f.body (zhn f)=some s/\ed (jI p f) n f.value s=some v/\Fin v.2
def BO(H':Hp)(u:Un)(e:Int)(v:AV):Prop:=∃g S,v=.tup [.agg g,.int .i64 e]/\zgq S 5 H' g u.cells
theorem zys(H:Hp)(l:List Ar)(L:l.length<2^36):∃V H',zgH Tryz.prog false H 24 24 .nilS (.lst (l.map Ar.cells))=some (V,H')/\zgS (fun k=>H.next<=k) 1 H' 2 V (l.map Ar.cells)/\H.next<=H'.next/\(∀k,k<H.next->H'.get k=H.get k):=by
 have I:∀x∈l.map Ar.cells,x.length=2:=fun x C=>by obtain⟨a,_,rfl⟩:=lc.1 C;exact a.clen
 have C:=ztV (H:=H) I;rw[cO]at C;by_cases c:l=[]
 .subst c;refine⟨.nilS,H,?_,.inl ⟨rfl,rfl⟩,aE _,fun _ _=>rfl⟩;simp only[zgH,Tryz.underlying24,z9,DH,DI,show zhz Tryz.prog 24=true by kernel_rfl,eM,C]
 .obtain⟨m,Z⟩:∃m,l.length=m+1:=⟨l.length-1,by have:=ve.2 c;omega⟩;rw[Z]at C;refine⟨.sl H.next 0 (m+1) 2,H.alloc (.cells (l.map Ar.cells).flatten 0 true),append_nil Tryz.underlying24 z9 DH DI aj C (KY l) rfl Mv Mv,.inr ⟨H.next,0,l.map Ar.cells,by rw[cO,Z],aE _,cI _,kV,dZ _,KX l⟩,eh _,fun k j=>hY⟩
theorem zct(H:Hp){cs:List AV}(h:cs.length=5)(h1:cs.all AV.one=true):zgW Tryz.prog H 25 1 [(0,.agg cs)]=some (.sl H.next 0 1 5,H.alloc (.cells cs 0 true)):=by
 obtain⟨a,b,c,d,e,rfl⟩:=j8 h;kernel_rfl
theorem bBd(p:Pr)(M rn:Nat):zgB Tryz.prog 101 [(0,.agg p.cells),(1,.map 2),(2,.map 3),(4,.map M),(5,.map rn)]=some (.agg [.lst (p.arrays.map Ar.cells),.lst (p.funcs.map Fu.cells),.map 2,.map 3,.nilS,.map M,.map rn,.nilS,.int .i64 0,.int .i64 0]):=aj
theorem zcv{S:Nat->Prop}{H:Hp}{J:AV}{l:List Nd}(nm:List UInt8)(np v st:Int)(h:zgS S 2 H 3 J (l.map Nd.cells)):zgq S 3 H [.str nm,.int .i64 np,J,.int .i64 v,.int .i64 st] (Gr.mk nm np l v st).cells:=
 .cons (.str _) (.cons (.int _ _) (.cons h.rd (.cons (.int _ _) (.cons (.int _ _) .nil))))
structure Smr (n:Nat) (H H':Hp):Prop where
 get:∀k,4<=k->k<n->H'.get k=H.get k
set_option maxRecDepth 100000 in
theorem zul{tb:List En}(hG:LowT tb)(hC:∀ar,zgw tb 44 ar=Fv.sp ar)(hL:Plain (zfn pls tb) 27)(p:Pr){n:Nat}(hz:p.sz<2^34)(hok:zhj p=0->Fw p n){u:Un}{e:Int}(h:qi p n=some (u,e)):
 zfs Tryz.prog (zfn pls tb) 27 [.agg p.cells] zfM (fun v H'=>BO H' u e v):=by
 have hw:=hL;have hkeep:(zfn pls tb).keep 27=false:=rfl;have hchk:∀H,zfs Tryz.prog (zfn pls tb) 44 [.agg p.cells] H fun v H'=>v=.int .i64 (zhj p)/\H'=H:=fun H=>zgL (enc:=gh) (ok:=fun p=>p.sz<2^36) (out:=fun p=>.int .i64 (zhj p)) sD (x:=p) (hC _) ac;have hpz:p.sz=1+jC p.arrays+ig p.funcs:=rfl;have hla:=tQ p.arrays;have hlf:=tO p.funcs;unfold qi at h;by_cases hc:zhj p=0
 .rw[aq hc]at h;have hv:=ztK hc;have hok:=hok hc;obtain⟨av,Z,aa,ra,na,qa⟩:=zys ((((zfM.alloc (.cells p.cells 0 true)).alloc (.cells [.nilS,.nilS] 0 true)).alloc (.map [])).alloc (.map [])) p.arrays ac;obtain⟨ha1,ha2⟩:=ra.one;have bUn:zgB Tryz.prog 27 [(0,av)]=some (.agg [av,.nilS]):=by
   rcases ra with⟨rfl,_⟩|⟨q,im,rows,rfl,_⟩<;>kernel_rfl
  have bUn0:zgB Tryz.prog 27 []=some (.agg [.nilS,.nilS]):=aj;have na4:4<=Z.next:=na
  have q0:Z.get 0=some (.cells p.cells 0 true):=by rw[qa 0 BG];simp[zfk,zfw,zgj]
  have q1:Z.get 1=some (.cells [.nilS,.nilS] 0 true):=by rw[qa 1 BG];simp[zfk,zfw,zgj]
  have q2:Z.get 2=some (.map []):=by rw[qa 2 BG];simp[zfk,zfw,zgj]
  have q3:Z.get 3=some (.map []):=by rw[qa 3 BG];simp[zfk,zfw,zgj]
  have ra':zgS (fun k=>4<=k/\k<Z.next) 1 Z 2 av (p.arrays.map Ar.cells):=ra.keep (fun k h1 g=>⟨g,h1⟩) (aE _) fun _ _ _=>rfl;have q0s:∀b c,((Z.alloc b).set Z.next c).get 0=some (.cells p.cells 0 true):=fun b c=>by rw[aQ,af ac,zfk,af ac];exact q0
  refine zfz (M:=84) (rs:=[.cell 2 27,.tmp 3]) (hw.call _) hw.ice hw.froz Tryz.func27 rfl rfl BN.2 rfl ?_;dsimp only[BN,zft,Nat.reduceAdd];repeat' (first
   |(apply ah ?_;clear hK K)|apply Ry.o ?_|apply bM ?_|(apply d4 ?_;first|refine Rx.k (hchk _) ?_)|(apply aL (fun Y z=>?_) (fun Y z=>?_)<;>try(cases Y;done))|apply ak ?_|(apply zff fun K hK=>?_)|apply ay ?_|apply zfh ?_|fail)
  clear aa qa ra na q0s;have gs:∀k,k<Z.next->((Z.alloc (.cells [.nilS,.nilS] 0 true)).set Z.next (.cells [av,.nilS] 0 true)).get k=Z.get k:=fun k V=>nP
  refine zgs [1,2,3,5,6,7,29,30] [] 31 p.arrays.length (fun i E Hi=>Hi.get 0=some (.cells p.cells 0 true)/\Hi.get 1=some (.cells [.nilS,.nilS] 0 true)/\Hi.get 2=some (.map (cW (ez ((p.arrays.map (·.name)).take i) 0 [])))/\Hi.get 3=some (.map [])/\Hi.get Z.next=some (.cells [av,.nilS] 0 true)/\Smr Z.next Z Hi) eE ⟨by rw[gs _ ac];exact q0,by rw[gs _ ac];exact q1,by rw[gs _ ac];exact q2,by rw[gs _ ac];exact q3,iA,⟨fun k _ V=>gs k V⟩⟩ ?_;clear gs;rintro i E Hi hi hcE hrH hnH hsI ⟨g0,g1,g2,g3,g7,L⟩;(try simp only[zfT,zfB,a0,zfo,zfv,Nat.reduceBEq, *]at hcE);(try simp only[zfB,zfv, *]at hrH);(try simp only[zfw,zfI,]at hnH);have ni:Z.next+1<=Hi.next:=hnH
  by_cases J:i<p.arrays.length
  .have hlt':(i:Int)<p.arrays.length:=by omega
   have hgx:p.arrays[i]?=some p.arrays[i]:=aR J;have hne:ez ((p.arrays.map (·.name)).take (i+1)) 0 []=setV (ez ((p.arrays.map (·.name)).take i) 0 []) (p.arrays[i]).name (i:Int):=by
    rw[zuj (by rw[cO];exact J),Fp]
   generalize p.arrays[i]=ar at *;rw[hne];have gA:∀b c k,k<Hi.next->((Hi.alloc b).set Hi.next c).get k=Hi.get k:=fun b c k V=>nP
   have g2a:∀b c,((Hi.alloc b).set Hi.next c).get 2=some (.map (cW (ez ((p.arrays.map (·.name)).take i) 0 []))):=fun b c=>by rw[gA b c 2 ac];exact g2
   have hup:=fun b c=>xS (P:=Tryz.prog) (t:=98) Tryz.underlying98 zh4 (g2a b c) ar.name (i:Int);repeat' (first
    |(apply ah ?_;clear hK K)|apply Ry.o ?_|apply bM ?_|(apply aL (fun Y z=>?_) (fun Y z=>?_)<;>try(cases Y;done))|apply ak ?_|(apply zff fun K hK=>?_)|apply ay ?_|apply zfh ?_|fail)
   refine⟨ac,eL,eL,zf4,Ep,?_⟩;have gB:∀b c m k,k<Hi.next->k≠2->(((Hi.alloc b).set Hi.next c).set 2 m).get k=Hi.get k:=fun b c m k V g=>by rw[aQ,af g];exact gA b c k V
   exact⟨by rw[gB _ _ _ _ ac ac];exact g0,by rw[gB _ _ _ _ ac ac];exact g1,iA,by rw[gB _ _ _ _ ac ac];exact g3,by rw[gB _ _ _ _ ac ac];exact g7,⟨fun k h1 g=>MB⟩⟩
  .have hlt':¬(i:Int)<p.arrays.length:=by omega
   have hti:(p.arrays.map (·.name)).take i=p.arrays.map (·.name):=fN (by rw[cO];omega);rw[hti]at g2;repeat' (first
    |(apply ah ?_;clear hK K)|apply Ry.o ?_|(apply aL (fun Y z=>?_) (fun Y z=>?_)<;>try(cases Y;done))|apply ak ?_|(apply zff fun K hK=>?_)|apply ay ?_|apply zfr ?_)
   refine zgs [1,2,3,5,6,7,42,43] [] 44 p.funcs.length (fun j E Hj=>Hj.get 0=some (.cells p.cells 0 true)/\Hj.get 1=some (.cells [.nilS,.nilS] 0 true)/\Hj.get 2=some (.map (cW (ez (p.arrays.map (·.name)) 0 [])))/\Hj.get 3=some (.map (cW (j5 (p.funcs.take j) 0 [])))/\Hj.get Z.next=some (.cells [av,.nilS] 0 true)/\Smr Z.next Z Hj) eE ⟨g0,g1,g2,g3,g7,L⟩ ?_;clear g0 g1 g2 g3 g7 L hti;rintro j E3 Hj hj hcE hrH hnH hsI ⟨g0,g1,g2,g3,g7,L⟩;(try simp only[zfT,zfB,a0,zfo,zfv,Nat.reduceBEq, *]at hcE);(try simp only[zfB, *]at hrH);(try simp only[zfw,zfI,zgj,b9,Nat.reduceAdd]at hnH);have nj:Z.next+1<=Hj.next:=ac
   by_cases J:j<p.funcs.length
   .have hlt':(j:Int)<p.funcs.length:=by omega
    have hgx:p.funcs[j]?=some p.funcs[j]:=aR J;have hne:=zrE J;generalize p.funcs[j]=f at *;rw[hne];have gA:∀b c k,k<Hj.next->((Hj.alloc b).set Hj.next c).get k=Hj.get k:=fun b c k V=>nP
    have g3a:∀b c,((Hj.alloc b).set Hj.next c).get 3=some (.map (cW (j5 (p.funcs.take j) 0 []))):=fun b c=>by rw[gA b c 3 ac];exact g3
    have hup:=fun b c=>xS (P:=Tryz.prog) (t:=98) Tryz.underlying98 zh4 (g3a b c) f.name (j:Int);repeat' (first
     |(apply ah ?_;clear hK K)|apply Ry.o ?_|apply bM ?_|(apply aL (fun Y z=>?_) (fun Y z=>?_)<;>try(cases Y;done))|apply ak ?_|(apply zff fun K hK=>?_)|apply ay ?_|apply zfh ?_|fail)
    refine⟨ac,eL,eL,zf4,ua,?_⟩;have gB:∀b c m k,k<Hj.next->k≠3->(((Hj.alloc b).set Hj.next c).set 3 m).get k=Hj.get k:=fun b c m k V g=>by rw[aQ,af g];exact gA b c k V
    exact⟨by rw[gB _ _ _ _ ac ac];exact g0,by rw[gB _ _ _ _ ac ac];exact g1,by rw[gB _ _ _ _ ac ac];exact g2,iA,by rw[gB _ _ _ _ ac ac];exact g7,⟨fun k h1 g=>MB⟩⟩
   .have hlt':¬(j:Int)<p.funcs.length:=by omega
    have htj:p.funcs.take j=p.funcs:=fN ac;rw[htj]at g3;repeat' (first
     |(apply ah ?_;clear hK K)|apply Ry.o ?_|(apply aL (fun Y z=>?_) (fun Y z=>?_)<;>try(cases Y;done))|apply ak ?_|(apply zff fun K hK=>?_)|apply ay ?_|apply zfr ?_)
    have hfl:mA p n (p.funcs.drop 0) []=some (u,e):=h;refine zgs [1,2,5,6,7,55,56] [] 57 p.funcs.length (fun i E O=>∃gs fv,mA p n (p.funcs.drop i) gs=some (u,e)/\O.get 0=some (.cells p.cells 0 true)/\O.get 1=some (.cells [.nilS,.nilS] 0 true)/\O.get 2=some (.map (cW (ez (p.arrays.map (·.name)) 0 [])))/\O.get 3=some (.map (cW (j5 p.funcs 0 [])))/\O.get Z.next=some (.cells [av,fv] 0 true)/\zgS (fun k=>Z.next<k) 3 O 5 fv (gs.map Gr.cells)/\Smr Z.next Z O/\gs.length=i) eE ⟨[],.nilS,hfl,g0,g1,g2,g3,g7,.inl ⟨rfl,rfl⟩,L,rfl⟩ ?_;clear g0 g1 g2 g3 g7 L htj hfl h;rintro i5 E5 O hk5 hcE hrH hnH hsI ⟨gs,fv,hJ,g0,g1,g2,g3,g7,rf,L,hgl⟩;(try simp only[zfT,zfB,a0,zfo,zfv,Nat.reduceBEq, *]at hcE);(try simp only[zfB, *]at hrH);(try simp only[zfw,zfI,zgj,b9,Nat.reduceAdd]at hnH);have nk:Z.next+1<=O.next:=ac
    obtain⟨hf1,hf2⟩:=rf.one;by_cases J:i5<p.funcs.length
    .have hlt':(i5:Int)<p.funcs.length:=by omega
     have hgx:p.funcs[i5]?=some p.funcs[i5]:=aR J;have hmem:=dI J;have hfsz:=pY hmem;rw[gW J]at hJ;unfold mA at hJ;obtain⟨s,v,e1,e2,hF⟩:=hok _ hmem;generalize p.funcs[i5]=f at *;have hfn:iL p n f=some ⟨f.name,f.params.length,v.2.l,v.1,v.2.state⟩:=by unfold iL;rw[e1];simp only[b8];rw[e2];rfl
     rw[hfn]at hJ;simp only[b8]at hJ;have nB:=bBd p (O.next+1) (O.next+2);have gAll:∀b0 c0 zfJ m2 bx k,k<O.next->(((((O.alloc b0).set O.next c0).alloc zfJ).alloc m2).alloc bx).get k=O.get k:=fun b0 c0 zfJ m2 bx k V=>by
      rw[zfk,af mB,zfk,af mB,zfk,af mB,aQ,af ac,zfk,af ac]
     have g0m:∀b0 c0,((O.alloc b0).set O.next c0).get 0=some (.cells p.cells 0 true):=fun b0 c0=>by rw[aQ,af ac,zfk,af ac];exact g0
     have hfx:∀b0 zfJ m2 bx,(((((O.alloc b0).set O.next (.cells f.cells 0 true)).alloc zfJ).alloc m2).alloc bx).get O.next=some (.cells f.cells 0 true):=fun b0 zfJ m2 bx=>by
      rw[zfk,af mB,zfk,af mB,zfk,af mB,aQ,aq rfl]
     repeat' (first
      |(apply ah ?_;clear hK K)|apply Ry.o ?_|apply bM ?_|(apply aL (fun Y z=>?_) (fun Y z=>?_)<;>try(cases Y;done))|apply ak ?_|(apply zff fun K hK=>?_)|apply ay ?_|apply zfh ?_|fail)
     refine aU rfl aV aW ?_;simp only[bi];generalize hHb:Hp.alloc (Hp.alloc _ _) (.cells [.lst (p.arrays.map Ar.cells),.lst (p.funcs.map Fu.cells),.map 2,.map 3,.nilS,.map (O.next+1),.map (O.next+2),.nilS,.int .i64 0,.int .i64 0] 0 true)=Hb;have nb:Hb.next=O.next+4:=by rw[<-hHb];rfl
     have old:∀k,k<O.next->Hb.get k=O.get k:=fun k V=>by rw[<-hHb];exact gAll _ _ _ _ _ k V
     have gt:Hb.get (O.next+1)=some (.map []):=by
      rw[<-hHb,zfk,af mB,zfk,af mB,zfk,aq dR]
     have gn:Hb.get (O.next+2)=some (.map []):=by
      rw[<-hHb,zfk,af mB,zfk,aq dR]
     have gb:Hb.get (O.next+3)=some (.cells [.lst (p.arrays.map Ar.cells),.lst (p.funcs.map Fu.cells),.map 2,.map 3,.nilS,.map (O.next+1),.map (O.next+2),.nilS,.int .i64 0,.int .i64 0] 0 true):=by
      rw[<-hHb,zfk,aq dR]
     clear hHb gAll g0m hfx nB;have hRb:RepL (Lx.mk p (O.next+3) 2 3 (O.next+1) (O.next+2) (ez (p.arrays.map (·.name)) 0 []) (j5 p.funcs 0 []) []) Hb (fun _=>False) ⟨[],[],0,0⟩ .nilS .nilS:=
      ⟨gb,by show Hb.get 2=_;rw[old 2 ac];exact g2,by show Hb.get 3=_;rw[old 3 ac];exact g3,gt,gn,.inl ⟨rfl,rfl⟩,.inl ⟨rfl,rfl⟩,by show 2<3;omega,by show 3<O.next+1;omega,by show O.next+1<O.next+2;omega,by show O.next+2<O.next+3;omega,by show O.next+3<Hb.next;omega,fun _ h=>h.elim,fun _ h=>(x3 h).elim⟩
     refine aS ?_ (zaS (X:=Lx.mk p (O.next+3) 2 3 (O.next+1) (O.next+2) (ez (p.arrays.map (·.name)) 0 []) (j5 p.funcs 0 []) []) hG (zcp hv hmem rfl rfl rfl) rfl e1 e2 hF ac hRb);clear hRb gb gt gn;rintro w H4 ⟨S4,C,rfl,nd4,n4,s4,q4⟩;dsimp only at nd4 q4;have old4:∀k,k<O.next->H4.get k=O.get k:=fun k V=>by rw[q4 k ac ac ac ac];exact old k V
     have hlen4:∀H',zf9 Tryz.prog H' 22 C=some (.int .i64 v.2.l.length):=fun H'=>by
      have:=nd4.len (P:=Tryz.prog) (t:=22) (H':=H') Tryz.underlying22
      rwa [cO]at this
     obtain⟨hl1,hl2⟩:=nd4.one;clear q4 old;have n4':O.next+4<=H4.next:=ac
     by_cases hbig:(2000:Int)<v.2.l.length
     .rw[aq hbig]at hJ;simp only[cH]at hJ;obtain⟨rfl,rfl⟩:=hJ;have g1a:∀b c,((H4.alloc b).set H4.next c).get 1=some (.cells [.nilS,.nilS] 0 true):=fun b c=>by rw[aQ,af ac,zfk,af ac,old4 1 ac];exact g1
      have ag0:jo 2 [.nilS,.nilS]=some (.agg [.nilS,.nilS]):=rfl;dsimp only[zfp];repeat' (first
       |(apply ah ?_;clear hK K)|apply Ry.o ?_|apply bM ?_|(apply aL (fun Y z=>?_) (fun Y z=>?_)<;>try(cases Y;done))|apply ak ?_|(apply zff fun K hK=>?_)|apply ax ?_|fail)
      refine⟨zfj,_,(by(try simp only[zfo,zfv,Nat.reduceBEq,tyF,zgD,zgN, *]);first|done|with_reducible rfl),?_⟩;try simp only[zfi]
      exact⟨_,fun _=>True,rfl,.cons .nilS (.cons .nilS .nil)⟩
     .rw[af hbig]at hJ;have hone:([.str f.name,.int .i64 f.params.length,C,.int .i64 v.1,.int .i64 v.2.state]:List AV).all AV.one=true:=by simp only[qd,sU,hl1];rfl
      have ag:jo 5 [.str f.name,.int .i64 f.params.length,C,.int .i64 v.1,.int .i64 v.2.state]=some (.agg [.str f.name,.int .i64 f.params.length,C,.int .i64 v.1,.int .i64 v.2.state]):=rfl;have hbs:=fun H=>zct H (cs:=[.str f.name,.int .i64 f.params.length,C,.int .i64 v.1,.int .i64 v.2.state]) rfl hone;have g7a:∀b c,((H4.alloc b).set H4.next c).get Z.next=some (.cells [av,fv] 0 true):=fun b c=>by rw[aQ,af ac,zfk,af ac,old4 _ ac];exact g7
      have I:∀k,k<H4.next->(((H4.alloc (.cells [.str [],.int .i64 0,.nilS,.int .i64 0,.int .i64 0] 0 true)).set H4.next (.cells [.str f.name,.int .i64 f.params.length,C,.int .i64 v.1,.int .i64 v.2.state] 0 true)).alloc (.cells [.str f.name,.int .i64 f.params.length,C,.int .i64 v.1,.int .i64 v.2.state] 0 true)).get k=H4.get k:=fun k V=>by
       rw[zfk,af mB,aQ,af ac,zfk,af ac]
      have hfq:∀k o m z',fv=.sl k o m z'->k<O.next/\Z.next<k:=fun k o m z' e=>by
       rcases rf with⟨h1,_⟩|⟨q,im,rows,h1,g,h3,_⟩
       .rw[h1]at e;cases e
       .rw[h1]at e;simp only[AV.sl.injEq]at e;rw[<-e.1];exact⟨h3,g⟩
      obtain⟨H7,a7,r7,n7,q7⟩:=K0 (P:=Tryz.prog) (t:=25) Tryz.underlying25 DD Ik Il rfl aj (S':=fun k=>Z.next<k)
       (rf.keep (S':=fun k=>Z.next<k) (H':=((H4.alloc (.cells [.str [],.int .i64 0,.nilS,.int .i64 0,.int .i64 0] 0 true)).set H4.next (.cells [.str f.name,.int .i64 f.params.length,C,.int .i64 v.1,.int .i64 v.2.state] 0 true)).alloc (.cells [.str f.name,.int .i64 f.params.length,C,.int .i64 v.1,.int .i64 v.2.state] 0 true)) (fun _ _ h=>h) mB fun k _ V=>by rw[I k ac,old4 k V])
       (fun _ _ h=>h) mB (r:=H4.next+1) (imm:=0) (row:=[.str f.name,.int .i64 f.params.length,C,.int .i64 v.1,.int .i64 v.2.state]) (w:=(Gr.mk f.name f.params.length v.2.l v.1 v.2.state).cells) xV rfl hone
       (zcv f.name f.params.length v.1 v.2.state (nd4.keep (S':=fun k=>Z.next<k/\∀o m z',fv≠.sl k o m z') (fun k h1 g=>⟨by have:=s4 k g;omega,fun o m z' e=>by have:=(hfq k o m z' e).1;have:=s4 k g;omega⟩) mB fun k V g=>I k g))
       Bb Bb
      rw[cO]at a7 r7;simp only[zfw,zfI]at a7 r7 n7 q7;have old7:∀k,k<O.next->(∀o m z',fv≠.sl k o m z')->H7.get k=O.get k:=fun k h1 g=>by rw[q7 k ac g,I k ac,old4 k h1]
      have hlow:∀k,k<=Z.next->∀o m z',fv≠.sl k o m z':=fun k V o m z' e=>by have:=(hfq k o m z' e).2;omega
      have g77:H7.get Z.next=some (.cells [av,fv] 0 true):=by rw[old7 _ ac (hlow _ (aE _))];exact g7
      have hJ':mA p n (p.funcs.drop (i5+1)) (gs++[Gr.mk f.name f.params.length v.2.l v.1 v.2.state])=some (u,e):=hJ;have hmapg:(gs++[Gr.mk f.name f.params.length v.2.l v.1 v.2.state]).map Gr.cells=gs.map Gr.cells++[(Gr.mk f.name f.params.length v.2.l v.1 v.2.state).cells]:=au;have U:∀k,k<Z.next->H7.get k=O.get k:=fun k V=>old7 k ac (hlow k ac)
      clear I old7 hlow hfq old4 q7 hJ;dsimp only[zfp];repeat' (first
       |(apply ah ?_;clear hK K)|apply Ry.o ?_|apply bM ?_|(apply aL (fun Y z=>?_) (fun Y z=>?_)<;>try(cases Y;done))|apply ak ?_|(apply zff fun K hK=>?_)|apply zfh ?_|fail)
      refine⟨ac,eL,eL,zf4,ua,?_⟩;have hs7:∀m k,k≠Z.next->(H7.set Z.next m).get k=H7.get k:=fun m k V=>Cz
      refine⟨gs++[Gr.mk f.name f.params.length v.2.l v.1 v.2.state],.sl (H4.next+2) 0 (gs.length+1) 5,hJ',by rw[hs7 _ _ ac,U _ ac];exact g0,by rw[hs7 _ _ ac,U _ ac];exact g1,by rw[hs7 _ _ ac,U _ ac];exact g2,by rw[hs7 _ _ ac,U _ ac];exact g3,by rw[aQ,aq rfl,hgl],?_,⟨fun k h1 g=>by rw[hs7 _ _ ac,U _ ac];exact L.get k h1 g⟩,by rw[fG,hgl];rfl⟩;rw[hmapg];exact r7.keep (fun _ _ h=>h) (aE _) fun k V _=>hs7 _ k ac
    .have hlt':¬(i5:Int)<p.funcs.length:=by omega
     have hd:p.funcs.drop i5=[]:=qq ac;rw[hd]at hJ;simp only[mA,cH]at hJ;obtain⟨rfl,rfl⟩:=hJ;have ag:jo 2 [av,fv]=some (.agg [av,fv]):=rfl;have rd1:=ra'.keep (S':=fun _=>True) (H':=O.set 1 (.cells [av,fv] 0 true)) (fun _ _ _=>trivial) fC fun k V _=>by rw[aQ,af ac];exact L.get k V.1 V.2
     have rd2:=rf.keep (S':=fun _=>True) (H':=O.set 1 (.cells [av,fv] 0 true)) (fun _ _ _=>trivial) fC fun k V _=>kJ;have fin:BO (O.set 1 (.cells [av,fv] 0 true)) ⟨p.arrays,gs⟩ 0 (.tup [.agg [av,fv],.int .i64 0]):=⟨_,fun _=>True,rfl,.cons (rd1.rd.up ac) (.cons (rd2.rd.up ac) .nil)⟩;clear rd1 rd2;repeat' (first
      |(apply ah ?_;clear hK K)|apply Ry.o ?_|apply bM ?_|(apply aL (fun Y z=>?_) (fun Y z=>?_)<;>try(cases Y;done))|apply ak ?_|(apply zff fun K hK=>?_)|apply ax ?_|apply zfr ?_)
     refine⟨zfj,_,(by(try simp only[zfo,zfv,Nat.reduceBEq,tyF,zgD,zgN, *]);first|done|with_reducible rfl),?_⟩;try simp only[zfi]
     exact fin
 .rw[af hc,az,gU]at h;obtain⟨rfl,rfl⟩:=h;have bUn0:zgB Tryz.prog 27 []=some (.agg [.nilS,.nilS]):=aj;refine zfz (M:=84) (rs:=[.cell 2 27,.tmp 3]) (hw.call _) hw.ice hw.froz Tryz.func27 rfl rfl BN.2 rfl ?_;dsimp only[BN,zft,Nat.reduceAdd];repeat' (first
   |(apply ah ?_;clear hK K)|apply Ry.o ?_|apply bM ?_|(apply d4 ?_;first|refine Rx.k (hchk _) ?_)|(apply aL (fun Y z=>?_) (fun Y z=>?_)<;>try(cases Y;done))|apply ak ?_|(apply zff fun K hK=>?_)|apply ax ?_|fail)
  have ag0:jo 2 [.nilS,.nilS]=some (.agg [.nilS,.nilS]):=rfl;refine⟨zfj,_,(by(try simp only[zfo,zfv,Nat.reduceBEq,tyF,zgD,zgN, *]);first|done|with_reducible rfl),?_⟩;try simp only[zfi]
  exact⟨_,fun _=>True,rfl,.cons .nilS (.cons .nilS .nil)⟩
theorem BO.wk{H':Hp}{u:Un}{e:Int}{v:AV}(h:BO H' u e v):∃m w,iceV H' m v=some w/\cF 60 w=.tup [.agg u.cells,.int .i64 e]:=by
 obtain⟨Z,S,rfl,g,i,V⟩:=h;have O:zgf S 100 H' (.agg Z) (.agg g):=zgf.up (n:=6) ⟨g,i,rfl⟩ ac;obtain⟨Y,U⟩:=Aw (S:=S) (n:=100) (H:=H') (fun k=>zgf.iceV k) (l:=[.agg Z,.int .i64 e]) (k:=[.agg g,.int .i64 e]) ⟨O,qc ⟨.int _ _,trivial⟩,trivial⟩;refine⟨Y+1,.tup [.agg g,.int .i64 e],?_,?_⟩
 .have M:iceV H' (Y+1) (.tup [.agg Z,.int .i64 e])=match iceL (iceV H' Y) [.agg Z,.int .i64 e]with
   |some vs=>some (.tup vs)
   |none=>none:=rfl
  rw[M,U Y (aE _)]
 .show AV.tup [.agg (g.map (cF 58)),.int .i64 e]=_;rw[V 58 ac]
noncomputable def yq:List En:=[Fv]
theorem zyt(ρ:Nat->Int):iF Tryz.prog ρ yq:=⟨zrD ρ,trivial⟩
theorem zum:LowT yq:=LowT.of fun e g=>by
 rw[yq,AK]at g;subst g;rfl
theorem zrF(ρ:Nat->Int)(p:Pr){n:Nat}(I:p.sz<2^34)(M:zhj p=0->Fw p n){u:Un}{e:Int}(h:qi p n=some (u,e)):ce Tryz.prog ρ 27 (gh p) (.tup [.agg u.cells,.int .i64 e]):=
 KZ (n:=60) (cfg:=zfn pls yq) fit (pO ρ) (fun g C r J=>iF.look (l:=yq) (zyt ρ) g C r J) (.cons (.agg p.pure) .nil) (aS (fun v H' h=>h.wk) (zul zum (fun _=>rfl) (zgK (fun _=>rfl) rfl) p I M h))
end
section
structure NdP (c:Cx) (np:Nat) (x:Nd):Prop where
 op:0<=x.op/\x.op<256
 imm:zho x.imm
 len:x.kids.length<=40
 pa:x.op=2->x.imm<np
 ar:x.op=23\/x.op=28->x.imm<c.arrays.length
 fn:x.op=30->0<=x.imm/\∃f,c.funcs[x.imm.toNat]?=some f/\x.kids.length=1+f.params.length
structure CxOkU (c:Cx):Prop where
 a:∀x∈c.arrays,1<=x.len/\x.len<=16
 al:c.arrays.length<=4
 fl:c.funcs.length<=8
 fp:∀f∈c.funcs,f.params.length<=6
 nl:c.names.length<=14
structure LI (c:Cx) (np:Nat) (s:Bd):Prop where
 nd:s.l.Nodup
 wf:zh9 s.l
 p:∀x∈s.l,NdP c np x
 v:∀x∈s.vars,IsT s.l 1 x
 vl:s.vars.length=c.names.length
 st:IsT s.l 2 s.state
theorem MO{l:List Nd}{n:Nd}(h:l.Nodup):(iK l n).Nodup:=by
 unfold iK;split
 .exact h
 .rename_i c;exact List.nodup_append.2 ⟨h,au,fun a Z b o=>by
   simp only[ly]at o;subst o;rintro rfl;exact c (Kn.2 Z)⟩
theorem MP(l:List Nd)(n:Nd):(iK l n).length<=l.length+1:=by
 rw[Kp];split<;>omega
section
variable {c:Cx} {np:Nat} {s:Bd}
theorem LI.setS(h:LI c np s){x:Int}(C:IsT s.l 2 x):LI c np {s with state:=x}:=⟨h.nd,h.wf,h.p,h.v,h.vl,C⟩
theorem LI.setV(h:LI c np s){x:List Int}(C:∀y∈x,IsT s.l 1 y)(L:x.length=c.names.length):LI c np {s with vars:=x}:=⟨h.nd,h.wf,h.p,C,L,h.st⟩
theorem LI.setN(h:LI c np s)(x:Nat):LI c np {s with loops:=x}:=⟨h.nd,h.wf,h.p,h.v,h.vl,h.st⟩
theorem zhy(h:LI c np s){n:Nd}{t:Int}(K:fd s.l n=t)(Z:t≠0)(J:NdP c np n):LI c np (zfg n s).2/\IsT (zfg n s).2.l t (zfg n s).1/\(zfg n s).2.l.length<=s.l.length+1:=by
 obtain⟨a,b⟩:=EU h.wf K Z;refine⟨⟨MO h.nd,b,fun x C=>?_,fun x C=>(h.v x C).le (ru _ _),h.vl,h.st.le (ru _ _)⟩,a,MP _ _⟩;rcases rv.1 C with C|rfl
 .exact h.p x C
 .exact J
theorem iu(c:Cx)(np:Nat){op imm:Int}{kids:List Int}(j:0<=op/\op<256)(Y:zho imm)(V:kids.length<=40)(h2:op≠2)(L:op≠23)(Z:op≠28)(I:op≠30):NdP c np ⟨op,imm,kids⟩:=
 ⟨j,Y,V,fun e=>absurd e h2,fun e=>e.elim (fun e=>absurd e L) fun e=>absurd e Z,fun e=>absurd e I⟩
theorem vQ(h:LI c np s){t k a b:Int}(j:IsT s.l 1 k)(o:IsT s.l t a)(Z:IsT s.l t b)(C:t=1\/t=2):LI c np (zfA k a b s).2/\IsT (zfA k a b s).2.l t (zfA k a b s).1/\(zfA k a b s).2.l.length<=s.l.length+1:=by
 unfold zfA;split
 .exact⟨h,o,eh _⟩
 .exact zhy h (KH j o Z C) ac (iu _ _ aD ff au aD aD aD aD)
theorem Fx(h:LI c np s){t v:Int}(U:IsT s.l 1 v)(M:1<=t)(h1:t<=1000016):LI c np (my t v s)/\(my t v s).l.length<=s.l.length+1:=by
 have:=zhy h (n:=⟨27,t,[s.state,v]⟩) (KJ h.st U M h1) aD (iu _ _ aD ff au aD aD aD aD);exact⟨this.1.setS this.2.1,this.2.2⟩
theorem yr(h:LI c np s){n:Int}(z:zho n):LI c np (zfg ⟨1,n,[]⟩ s).2/\IsT (zfg ⟨1,n,[]⟩ s).2.l 1 (zfg ⟨1,n,[]⟩ s).1/\(zfg ⟨1,n,[]⟩ s).2.l.length<=s.l.length+1:=
 zhy h (KC n) aD (iu _ _ aD z au aD aD aD aD)
theorem BP(h:LI c np s){op a b:Int}(o:IsT s.l 1 a)(Z:IsT s.l 1 b)(M:4<=op)(h1:op<=19):LI c np (zfg ⟨op,0,[a,b]⟩ s).2/\IsT (zfg ⟨op,0,[a,b]⟩ s).2.l 1 (zfg ⟨op,0,[a,b]⟩ s).1/\(zfg ⟨op,0,[a,b]⟩ s).2.l.length<=s.l.length+1:=
 zhy h (KF o Z M h1) aD (iu _ _ ac ff au ac ac ac ac)
theorem MQ(h:LI c np s){n i:Int}(z:zho n)(I:IsT s.l 1 i):LI c np (eK n i s)/\(eK n i s).l.length<=s.l.length+3:=by
 obtain⟨Z,K,M⟩:=yr h z;have C:=I.le (zgd ⟨1,n,[]⟩ s).le.l;obtain⟨J,Y,U⟩:=BP Z (op:=19) C K aD aD;obtain⟨c1,V⟩:=Fx J (t:=2) Y aD aD;exact⟨c1,by have:(eK n i s).l.length<=_:=V;omega⟩
theorem zyu(h:LI c np s){i:Int}(I:IsT s.l 1 i):LI c np (mz i s)/\(mz i s).l.length<=s.l.length+3:=by
 obtain⟨Z,K,M⟩:=yr h (n:=0) ff;have C:=I.le (zgd ⟨1,0,[]⟩ s).le.l;obtain⟨J,Y,U⟩:=BP Z (op:=16) C K aD aD;obtain⟨c1,V⟩:=Fx J (t:=1) Y aD aD;exact⟨c1,by have:(mz i s).l.length<=_:=V;omega⟩
theorem MR(Z:CxOkU c)(h:LI c np s){i:Int}(I:IsT s.l 1 i){k:Nat}(j:k<c.arrays.length):LI c np (zfg ⟨23,k,[s.state,i]⟩ s).2/\IsT (zfg ⟨23,k,[s.state,i]⟩ s).2.l 1 (zfg ⟨23,k,[s.state,i]⟩ s).1/\(zfg ⟨23,k,[s.state,i]⟩ s).2.l.length<=s.l.length+1:=by
 have al:=Z.al;exact zhy h (KI h.st I ac ac) aD ⟨by show 0<=(23:Int)/\(23:Int)<256;decide,yk,by show 2<=40;decide,fun e=>absurd e (by show ¬(23:Int)=2;decide),fun _=>by show(k:Int)<_;omega,fun e=>absurd e (by show ¬(23:Int)=30;decide)⟩
theorem MT(Z:CxOkU c)(h:LI c np s){i v:Int}(I:IsT s.l 1 i)(U:IsT s.l 1 v){k:Nat}(j:k<c.arrays.length):LI c np (zfg ⟨28,k,[s.state,i,v]⟩ s).2/\IsT (zfg ⟨28,k,[s.state,i,v]⟩ s).2.l 2 (zfg ⟨28,k,[s.state,i,v]⟩ s).1/\(zfg ⟨28,k,[s.state,i,v]⟩ s).2.l.length<=s.l.length+1:=by
 have al:=Z.al;exact zhy h (KL h.st I U ac ac) aD ⟨by show 0<=(28:Int)/\(28:Int)<256;decide,yk,by show 3<=40;decide,fun e=>absurd e (by show ¬(28:Int)=2;decide),fun _=>by show(k:Int)<_;omega,fun e=>absurd e (by show ¬(28:Int)=30;decide)⟩
theorem zcB(h:LI c np s){v:Int}(U:IsT s.l 1 v):LI c np (zfg ⟨29,0,[s.state,v]⟩ s).2/\IsT (zfg ⟨29,0,[s.state,v]⟩ s).2.l 2 (zfg ⟨29,0,[s.state,v]⟩ s).1/\(zfg ⟨29,0,[s.state,v]⟩ s).2.l.length<=s.l.length+1:=
 zhy h (KK h.st U) aD (iu _ _ aD ff au aD aD aD aD)
theorem zcC(h:LI c np s){v:Int}(U:IsT s.l 2 v):LI c np (zfg ⟨24,0,[v]⟩ s).2/\IsT (zfg ⟨24,0,[v]⟩ s).2.l 1 (zfg ⟨24,0,[v]⟩ s).1/\(zfg ⟨24,0,[v]⟩ s).2.l.length<=s.l.length+1:=
 zhy h (KM U) aD (iu _ _ aD ff au aD aD aD aD)
theorem MU(Z:CxOkU c)(h:LI c np s){V:List Int}(o:∀a∈V,IsT s.l 1 a){k:Nat}{f:Fu}(i:c.funcs[k]?=some f)(L:V.length=f.params.length):LI c np (zfg ⟨30,k,s.state::V⟩ s).2/\IsT (zfg ⟨30,k,s.state::V⟩ s).2.l 2 (zfg ⟨30,k,s.state::V⟩ s).1/\(zfg ⟨30,k,s.state::V⟩ s).2.l.length<=s.l.length+1:=by
 have g:=Z.fl;have Y:=Z.fp f (lJ i);have j:k<c.funcs.length:=by
  by_cases q:k<c.funcs.length
  .exact q
  .rw[gI ac]at i;cases i
 exact zhy h (KN h.st o ac ac ac) aD ⟨by show 0<=(30:Int)/\(30:Int)<256;decide,yk,by show V.length+1<=40;omega,fun e=>absurd e (by show ¬(30:Int)=2;decide),fun e=>by rcases e with e|e<;>exact absurd e (by show ¬(30:Int)=_;decide),fun _=>⟨by show 0<=(k:Int);omega,f,by show c.funcs[(k:Int).toNat]?=_;rw[gV];exact i,by show V.length+1=_;omega⟩⟩
end
theorem zun{l:List Ex}{i:Nat}{k:Ex}(M:g8 l)(h:l[i]?=some k):iR k:=by
 induction l generalizing i with
 |nil=>simp at h
 |cons e V ih=>
  rw[g8]at M;cases i with
  |zero=>simp at h;subst h;exact M.1
  |succ i=>exact ih M.2 jv
theorem zrG{vs K:List zfD}{l:List Ex}{i:Nat}{k:Ex}(M:zg5 vs K l=true)(h:l[i]?=some k):eW vs K k=true:=by
 induction l generalizing i with
 |nil=>simp at h
 |cons e V ih=>
  rw[zg5,co]at M;cases i with
  |zero=>simp at h;subst h;exact M.1
  |succ i=>exact ih M.2 jv
theorem yu{l:List Ex}{i:Nat}{k:Ex}(h:l[i]?=some k):1+k.sz<=zgR l:=by
 have:=tR (lJ h);omega
theorem Fy{l:List Ex}{a b:Ex}(M:l[0]?=some a)(h1:l[1]?=some b):2+a.sz+b.sz<=zgR l:=by
 cases l with
 |nil=>simp at M
 |cons x l=>
  simp at M h1;subst M;have:=yu h1;rw[zgR];omega
theorem MV{l:List Ex}{a b d:Ex}(M:l[0]?=some a)(h1:l[1]?=some b)(h2:l[2]?=some d):3+a.sz+b.sz+d.sz<=zgR l:=by
 cases l with
 |nil=>simp at M
 |cons x l=>
  simp at M h1 h2;subst M;have:=Fy (l:=l) h1 h2;rw[zgR];omega
theorem sZ:∀{l:List zfD}{s:zfD},zfE l s=true->cp l s<l.length
 |[],s,h=>by simp[zfE]at h
 |a::l,s,h=>by
  rw[cp];split
  .simp
  .rename_i c;have K:zfE (a::l) s=(decide (a=s)||zfE l s):=rfl;rw[K,d6 c,gH]at h;rw[aq h,dg];exact Nat.succ_lt_succ (sZ h)
structure XOk (c:Cx) (x:Ex):Prop where
 wf:gk x=true
 df:eW c.names (c.arrays.map (·.name)) x=true
 rg:iR x
theorem XOk.kid{c:Cx}{x k:Ex}{i:Nat}(h:XOk c x)(j:x.kids[i]?=some k):XOk c k:=by
 obtain⟨Z,g,m⟩:=h;rw[Es,co]at Z;rw[Ev,co]at g;rw[EV]at m;exact⟨Z9 Z.1 j,zrG g.1 j,zun m.2 j⟩
theorem qA{c:Cx}(hc:CxOkU c){np:Nat}:∀(n:Nat) (x:Ex) (s:Bd),XOk c x->x.sz<n->LI c np s->∃r,ed c n x s=some r/\LI c np r.2/\IsT r.2.l 1 r.1/\r.2.l.length<=s.l.length+6*x.sz
 |0,x,s,hx,hd,hs=>by omega
 |n+1,x,s,hx,hd,hs=>by
  have z:=qA hc (np:=np) n;have hwf:=hx.wf;have L:=hx.df;have hrg:=(EV x).1 hx.rg;rw[Es,co,lS]at hwf;rw[Ev,co,ii]at L;have M:=hwf.2;have hsz:=x.sz_eq;unfold ed;by_cases e1:x.kind=1
  .rw[aq e1];obtain⟨a,b,d⟩:=yr hs hrg.1;exact⟨_,rfl,a,b,ac⟩
  rw[af e1]at M⊢;by_cases e2:x.kind=2
  .rw[aq e2];have hn:zfE c.names x.name=true:=by have:=L.2;simp[e2]at this;exact this
   have O:cp c.names x.name<s.vars.length:=by rw[hs.vl];exact sZ hn
   rw[aR O,jh];exact⟨_,rfl,hs,hs.v _ (dI O),by show s.l.length<=_;omega⟩
  rw[af e2]at M⊢;by_cases e3:x.kind=3
  .rw[aq e3]at M⊢;simp only[iX]at M;have hn:zfE (c.arrays.map (·.name)) x.name=true:=by have:=L.2;simp[e3]at this;exact this
   have O:=sZ hn;rw[cO]at O;obtain⟨k,Z⟩:=mU x.kids (i:=0) ac;have hks:=yu Z;obtain⟨r,hr,C,V,r3⟩:=z k s (hx.kid Z) ac hs;rw[Z,b8,hr,b8,aR O,b8];have ha:=hc.a _ (dI O);generalize c.arrays[cp (c.arrays.map (·.name)) x.name]=ar at ha⊢;obtain⟨a1,a2⟩:=MQ C (n:=ar.len) ff V;obtain⟨J,I,b3⟩:=MR hc a1 (V.le (qk ar.len r.1 r.2).le.l) O;exact⟨_,rfl,J,I,ac⟩
  rw[af e3]at M⊢;by_cases e5:x.kind=5
  .have e4:¬x.kind=4:=by omega
   rw[af e4,aq e5]at M;rw[aq e5];simp only[iX]at M;obtain⟨k,Z⟩:=mU x.kids (i:=0) ac;obtain⟨k1,j⟩:=mU x.kids (i:=1) ac;obtain⟨k2,U⟩:=mU x.kids (i:=2) ac;have hks:=MV Z j U;obtain⟨r,hr,K,p2,p3⟩:=z k s (hx.kid Z) ac hs;obtain⟨C,Y,o,m,q3⟩:=z k1 r.2 (hx.kid j) ac K;have l1:=zgg c n _ _ _ Y;obtain⟨V,g,t1,t2,t3⟩:=z k2 {C.2 with state:=r.2.state} (hx.kid U) ac (o.setS (K.st.le l1.le.l));have l2:=zgg c n _ _ _ g;rw[Z,b8,hr,b8,j,b8,Y,b8,U,b8,g,b8];have pc:IsT V.2.l 1 r.1:=(p2.le l1.le.l).le l2.le.l;obtain⟨zfJ,m2,m3⟩:=vQ t1 pc (m.le l2.le.l) t2 (.inl rfl);have lm:=zg0 r.1 C.1 V.1 V.2;obtain⟨zgn,n2,n3⟩:=vQ zfJ (pc.le lm.le.l) ((o.st.le l2.le.l).le lm.le.l) zfJ.st (.inr rfl);have ln:=zg0 r.1 C.2.state (zfA r.1 C.1 V.1 V.2).2.state (zfA r.1 C.1 V.1 V.2).2;refine⟨_,rfl,zgn.setS n2,m2.le ln.le.l,?_⟩;simp only at t3⊢;omega
  rw[af e5]at M⊢;by_cases e4:x.kind=4
  .rw[aq e4]at M;simp only[co,oB,iB]at M;have hl:x.kids.length=2\/x.kids.length=1:=by rcases M.2 with h|h<;>omega
   obtain⟨k,Z⟩:=mU x.kids (i:=0) ac;have hks:=yu Z;obtain⟨r,hr,K,p2,p3⟩:=z k s (hx.kid Z) ac hs;rw[Z,b8,hr,b8];by_cases e6:x.kids.length=1
   .rw[aq e6];have ho:x.op=20\/x.op=21:=by
     rcases M.2 with h|h
     .omega
     .exact h.2
    obtain⟨a,b,d⟩:=zhy K (KG p2 ho) aD (iu _ _ ac ff au ac ac ac ac);exact⟨_,rfl,a,b,ac⟩
   .rw[af e6];obtain⟨k1,j⟩:=mU x.kids (i:=1) ac;have hks2:=Fy Z j;obtain⟨C,Y,o,m,q3⟩:=z k1 r.2 (hx.kid j) ac K;have l1:=zgg c n _ _ _ Y;rw[j,b8,Y,b8];have ho:4<=x.op/\x.op<=18:=by
     rcases M.2 with h|h
     .have:=h.2;simp[tX]at this;exact this
     .omega
    have p2':=p2.le l1.le.l;by_cases e7:x.op=7\/x.op=8
    .rw[aq e7];obtain⟨a1,a2⟩:=zyu o m;have ld:=A0 C.1 C.2;obtain⟨J,I,b3⟩:=BP a1 (p2'.le ld.le.l) (m.le ld.le.l) (by omega:4<=x.op) ac;exact⟨_,rfl,J,I,ac⟩
    .rw[af e7];obtain⟨J,I,b3⟩:=BP o p2' m (by omega:4<=x.op) ac;exact⟨_,rfl,J,I,ac⟩
  .rw[af e4]at M;simp at M
theorem MW{c:Cx}(Z:CxOkU c){np n:Nat}:∀(l:List Ex) (s:Bd),(∀x∈l,XOk c x)->zgR l<n->LI c np s->∃r,nO c n l s=some r/\LI c np r.2/\(∀a∈r.1,IsT r.2.l 1 a)/\r.2.l.length<=s.l.length+6*zgR l
 |[],s,hx,hd,hs=>⟨_,rfl,hs,au,by show s.l.length<=_;omega⟩
 |x::l,s,hx,hd,hs=>by
  rw[zgR]at hd⊢;obtain⟨r,hr,M,m,J⟩:=qA Z n x s (hx x dJ) ac hs;obtain⟨j,K,O,L,i⟩:=MW (n:=n) Z l r.2 (fun y U=>hx y (dO _ U)) ac M;have V:=(qn c n _ _ _ K).1;refine⟨(r.1::j.1,j.2),Mw,O,fun a o=>?_,vN⟩;rcases eP.1 o with rfl|o
  .exact m.le V.le.l
  .exact L a o
def rI(c:Cx):Sc:=⟨c.names,some (c.arrays.map (·.name)),⟨c.arrays,c.funcs⟩⟩
structure SOk (c:Cx) (x:St):Prop where
 wf:j0 x=true
 df:gR (rI c) false x=true
 ar:gR (rI c) true x=true
 rg:mV x
structure SsOk (c:Cx) (l:List St):Prop where
 wf:gO l=true
 df:zgF (rI c) false l=true
 ar:zgF (rI c) true l=true
 rg:jb l
section
variable {c:Cx}
theorem SsOk.cons{x:St}{l:List St}(h:SsOk c (x::l)):SOk c x/\SsOk c l:=by
 obtain⟨i,g,m,O⟩:=h;rw[gO,co]at i;rw[zgF,co]at g m;rw[jb]at O;exact⟨⟨i.1,g.1,m.1,O.1⟩,⟨i.2,g.2,m.2,O.2⟩⟩
theorem SOk.subs{x:St}(h:SOk c x):SsOk c x.thn/\SsOk c x.els:=by
 obtain⟨i,g,m,O⟩:=h;rw[ue]at i;rw[Ew]at g m;rw[Bh]at O;simp only[co]at i g m;exact⟨⟨i.1.2,g.1.2,m.1.2,O.2.2.2.1⟩,⟨i.2,g.2,m.2,O.2.2.2.2⟩⟩
theorem MX:∀{l:List Ex}{x:Ex},g8 l->x∈l->iR x
 |[],x,_,h=>by simp at h
 |e::l,x,hw,h=>by
  rw[g8]at hw;rcases eP.1 h with rfl|h
  .exact hw.1
  .exact MX hw.2 h
theorem MY:∀{l:List Ex}{x:Ex},eV l=true->x∈l->gk x=true
 |[],x,_,h=>by simp at h
 |e::l,x,hw,h=>by
  rw[eV,co]at hw;rcases eP.1 h with rfl|h
  .exact hw.1
  .exact MY hw.2 h
theorem MZ{vs K:List zfD}:∀{l:List Ex}{x:Ex},zg5 vs K l=true->x∈l->eW vs K x=true
 |[],x,_,h=>by simp at h
 |e::l,x,hw,h=>by
  rw[zg5,co]at hw;rcases eP.1 h with rfl|h
  .exact hw.1
  .exact MZ hw.2 h
theorem SOk.def{x:St}(h:SOk c x):zg5 c.names (c.arrays.map (·.name)) x.args=true/\eW c.names (c.arrays.map (·.name)) x.at_=true/\eW c.names (c.arrays.map (·.name)) x.value=true/\kN (rI c) x=true:=by
 have g:=h.df;rw[Ew]at g;simp only[co,pQ,px]at g;exact⟨g.1.1.1.1.1,g.1.1.1.1.2,g.1.1.1.2,g.1.1.2⟩
theorem SOk.args{x:St}(h:SOk c x):∀a∈x.args,XOk c a:=fun a o=>by
 have i:=h.wf;have O:=h.rg;rw[ue,jZ]at i;rw[Bh]at O;simp only[co]at i;exact⟨MY i.1.1.1 o,MZ h.def.1 o,MX O.2.2.1 o⟩
theorem SOk.value{x:St}(h:SOk c x)(j:x.kind=1\/x.kind=2\/x.kind=3\/x.kind=4\/x.kind=5):XOk c x.value:=by
 have i:=h.wf;have O:=h.rg;rw[ue,jZ,jl]at i;rw[Bh]at O;simp only[co]at i;refine⟨?_,h.def.2.2.1,O.2.1⟩;have m:=i.1.1.2;rcases j with e|e|e|e|e<;>rw[e]at m<;>simp at m<;>simp[m]
theorem SOk.at_{x:St}(h:SOk c x)(j:x.kind=2):XOk c x.at_:=by
 have i:=h.wf;have O:=h.rg;rw[ue,jZ,jl]at i;rw[Bh]at O;simp only[co]at i;refine⟨?_,h.def.2.1,O.1⟩;have m:=i.1.1.2;rw[j]at m;simp at m;simp[m]
theorem SOk.trap{x:St}(h:SOk c x)(j:x.kind=7):0<=x.n/\x.n<=1000000:=by
 have i:=h.wf;rw[ue,jZ,jl]at i;simp only[co]at i;have m:=i.1.1.2;rw[j]at m;simp at m;exact⟨by simp[m],by simp[m]⟩
theorem SOk.kd{x:St}(h:SOk c x):1<=x.kind/\x.kind<=7:=by
 have i:=h.wf;rw[ue,jZ,jl]at i;simp only[co]at i;have m:=i.1.1.2;by_cases e:1<=x.kind/\x.kind<=7
 .exact e
 .rw[af ac,af ac,af ac,af ac,af ac,af ac,af ac]at m;cases m
theorem SOk.name{x:St}(h:SOk c x)(j:x.kind=1\/x.kind=6):cp c.names x.name<c.names.length:=by
 have:=h.def.2.2.2;rw[kN]at this;rcases j with e|e<;>simp[e,rI]at this
 .exact sZ this
 .exact sZ this.1
theorem SOk.arr{x:St}(h:SOk c x)(j:x.kind=2):cp (c.arrays.map (·.name)) x.name<c.arrays.length:=by
 have:=h.def.2.2.2;rw[kN]at this;simp[j,rI,Sc.an]at this;have:=sZ this
 rwa [cO]at this
theorem SOk.call{x:St}(h:SOk c x)(j:x.kind=6):0<=zgz c.funcs x.to 0/\x.args.length=py ⟨c.arrays,c.funcs⟩ x.to:=by
 have i:=h.def.2.2.2;have m:=h.ar;rw[kN]at i;simp[j,rI]at i;rw[Ew]at m;simp only[co,iJ,mw,j]at m;simp[rI]at m;have K:=qe m.1.1;exact⟨qe i.2,ac⟩
end
theorem yw{c:Cx}:∀(n:Nat) (l:List St) (b:List Bool),SsOk c l->2*zf0 l<n->b.length=c.names.length->∃o,f0 c.names n l b=some o/\o.length=c.names.length
 |0,l,b,_,h,_=>by omega
 |n+1,[],b,_,_,hb=>⟨b,rfl,hb⟩
 |n+1,x::l,b,L,h,hb=>by
  obtain⟨C,L⟩:=L.cons;rw[zf0]at h;have M:=x.sz_eq;unfold f0;simp only;rw[af (fun q=>by have:=C.name q.1;omega)];have K:(if x.kind=1\/x.kind=6 then b.set (cp c.names x.name) true else b).length=c.names.length:=by split<;>simp[hb]
  obtain⟨I,m,V⟩:=yw n x.thn _ C.subs.1 ac K;obtain⟨Y,Z,O⟩:=yw n x.els I C.subs.2 ac V;obtain⟨z,U,g⟩:=yw n l Y L ac O;exact⟨z,by rw[m,b8,Z,b8,U],g⟩
theorem M0{c:Cx}{np:Nat}{k:Int}{a:List Int}:∀(m i:Nat) (s:Bd),LI c np s->IsT s.l 1 k->(∀y∈a,IsT s.l 1 y)->a.length=c.names.length->i+m=c.names.length->∃r,lU k a m i s=some r/\LI c np r/\r.l.length<=s.l.length+m
 |0,i,s,h,_,_,_,_=>⟨s,rfl,h,aE _⟩
 |m+1,i,s,h,hk,ha,hl,hi=>by
  have V:=h.vl;have Z:i<a.length:=ac;have g:i<s.vars.length:=ac;unfold lU;rw[aR Z,b8,aR g,b8];obtain⟨zfJ,Y,K⟩:=vQ h hk (ha _ (dI Z)) (h.v _ (dI g)) (.inl rfl);have lv:=zg0 k a[i] s.vars[i] s;obtain⟨r,e,C,j⟩:=M0 m (i+1) { (zfA k a[i] s.vars[i] s).2 with vars:=(zfA k a[i] s.vars[i] s).2.vars.set i (zfA k a[i] s.vars[i] s).1} (zfJ.setV (fun y U=>by
   rcases qt U with U|rfl
   .exact zfJ.v y U
   .exact Y) Fm) (hk.le lv.le.l) (fun y U=>(ha y U).le lv.le.l) hl ac
  exact⟨r,e,C,by simp only at j;omega⟩
theorem M1{c:Cx}{np:Nat}{k:Nat}(V:k<=15):∀(U:List Nat) (j:Nat) (s:Bd),LI c np s->j+U.length<=15->LI c np (ik (16*(k:Int)+1) U j s)/\(ik (16*(k:Int)+1) U j s).l.length<=s.l.length+U.length
 |[],j,s,h,_=>⟨h,aE _⟩
 |w::U,j,s,h,hj=>by
  rw[dg]at hj;have M:(16*(k:Int)+1+j).tmod 16=1+j:=by
   rw[BJ ac];omega
  obtain⟨zfJ,Y,K⟩:=zhy h (n:=⟨3,16*(k:Int)+1+j,[]⟩) (Be ac ac) (by split<;>decide) (iu _ _ aD ff au aD aD aD aD);rw[M,af ac]at Y;unfold ik;obtain⟨C,O⟩:=M1 V U (j+1) { (zfg ⟨3,16*(k:Int)+1+j,[]⟩ s).2 with vars:=(zfg ⟨3,16*(k:Int)+1+j,[]⟩ s).2.vars.set w (zfg ⟨3,16*(k:Int)+1+j,[]⟩ s).1} (zfJ.setV (fun y Z=>by
   rcases qt Z with Z|rfl
   .exact zfJ.v y Z
   .exact Y) Fm) ac
  exact⟨C,by rw[dg];simp only at O⊢;omega⟩
theorem M2{c:Cx}{np:Nat}{lp k:Int}{old:List Int}{q:Nd}:∀(U:List Nat) (j:Nat) (s:Bd),LI c np s->IsT s.l 3 lp->s.l[lp.toNat]?=some q->IsT s.l 1 k->(∀y∈old,IsT s.l 1 y)->(∀w∈U,w<old.length)->1<=j->((j+U.length:Nat):Int)<=fu q.kids.length->j+U.length<=16 ->
 LI c np (fB lp k old U j s)/\(fB lp k old U j s).l.length<=s.l.length+2*U.length
 |[],j,s,h,_,_,_,_,_,_,_,_=>⟨h,aE _⟩
 |w::U,j,s,h,hlp,hq,hk,ho,hw,hj,hlv,h16=>by
  rw[dg]at hlv h16;obtain⟨zfJ,Y,o⟩:=zhy h (n:=⟨25,j,[lp]⟩) (Bg hlp hq ac ac) (by split<;>decide) (iu _ _ aD ff au aD aD aD aD);rw[af ac]at Y;have M:=zgd ⟨25,j,[lp]⟩ s;have C:=hw w dJ;have I:old.getD w 0∈old:=My;obtain⟨zgn,V,i⟩:=vQ zfJ (hk.le M.le.l) Y ((ho _ I).le M.le.l) (.inl rfl);have m:=M.trans (zg0 k (zfg ⟨25,j,[lp]⟩ s).1 (old.getD w 0) (zfg ⟨25,j,[lp]⟩ s).2);unfold fB;simp only[];generalize zfA k (zfg ⟨25,j,[lp]⟩ s).1 (old.getD w 0) (zfg ⟨25,j,[lp]⟩ s).2=z at *;have K:z.2.l[lp.toNat]?=some q:=by
   obtain⟨t,O⟩:=m.le.l;rw[<-O,je,hq];have:=hlp.hi;have:=hlp.lo;omega
  obtain⟨L,J⟩:=M2 (q:=q) (lp:=lp) (k:=k) (old:=old) U (j+1) {z.2 with vars:=z.2.vars.set w z.1} (zgn.setV (fun y Z=>by
   rcases qt Z with Z|rfl
   .exact zgn.v y Z
   .exact V) (by rw[jk];exact zgn.vl)) (hlp.le m.le.l) K (hk.le m.le.l) (fun y Z=>(ho y Z).le m.le.l) (fun y Z=>hw y (dO _ Z)) ac ac ac
  exact⟨L,by rw[dg];simp only at J⊢;omega⟩
theorem Fz(b:List Bool):(zgG b).length<=b.length:=by
 have:=List.length_filter_le (fun i=>b.getD i false) (List.range b.length)
 rwa [List.length_range]at this
def FA(c:Cx)(np n:Nat):Prop:=∀x s,SOk c x->2*x.sz<n->LI c np s->s.loops+zgc x<=16->∃r,jH c n x s=some r/\LI c np r/\r.loops<=s.loops+zgc x/\r.l.length<=s.l.length+64*x.sz
def yx(c:Cx)(np n:Nat):Prop:=∀l s,SsOk c l->2*zf0 l<n->LI c np s->s.loops+zfQ l<=16->∃r,eC c n l s=some r/\LI c np r/\r.loops<=s.loops+zfQ l/\r.l.length<=s.l.length+64*zf0 l
def FB(c:Cx)(np n:Nat):Prop:=∀x s,SOk c x->x.kind=4->2*x.sz<=n->LI c np s->s.loops+zgc x<=16->∃r,j6 c n x s=some r/\LI c np r/\r.loops<=s.loops+zgc x/\r.l.length<=s.l.length+64*x.sz
theorem zyv{c:Cx}(hc:CxOkU c){np n:Nat}(IS:yx c np n):FB c np (n+1):=fun x s hx hk hsz h hw=>by
 have hs:=x.sz_eq;have hw1:=sy x;rw[aq hk]at hw1;have hv:=hx.value (.inr (.inr (.inr (.inl hk))));unfold j6;obtain⟨r,hr,M,p2,p3⟩:=qA hc n x.value {s with loops:=s.loops+1} hv ac (h.setN _);have lr:=zgg c n _ _ _ hr;have hrn:r.2.loops=s.loops+1:=lr.n;obtain⟨b,hb,hbl⟩:=yw n x.thn (List.replicate r.2.vars.length false) hx.subs.1 ac (by rw[pZ];exact M.vl);rw[hr,b8,hb,b8];simp only[];have hwl:=Fz b;have hnl:=hc.nl;have Y:∀i∈zgG b,i<r.2.vars.length:=fun i I=>by have:=E7 I;have:=M.vl;omega
 generalize zgG b=U at *;have hm:(16*(s.loops:Int)).tmod 16=0:=Fo;obtain⟨q1,q2,q3⟩:=zhy M (n:=⟨3,16*(s.loops:Int),[]⟩) (Be ac ac) (by split<;>decide) (iu _ _ aD ff au aD aD aD aD);rw[hm,aq rfl]at q2;have lq:=zgd ⟨3,16*(s.loops:Int),[]⟩ r.2;generalize zfg ⟨3,16*(s.loops:Int),[]⟩ r.2=q at *;obtain⟨u1,u2⟩:=M1 (k:=s.loops) ac U 0 {q.2 with state:=q.1} (q1.setS q2) ac;have lu:=pA (16*(s.loops:Int)+1) U 0 {q.2 with state:=q.1};generalize ik (16*(s.loops:Int)+1) U 0 {q.2 with state:=q.1}=u at *;have hun:u.loops=s.loops+1:=Mz;obtain⟨t,ht,t1,t2,t3⟩:=IS x.thn u hx.subs.1 ac u1 ac;have lt:=(kR c n).2.1 _ _ _ ht;rw[ht,b8];obtain⟨d,hd,g,d2,d3⟩:=qA hc n x.value t hv ac t1;have ld:=zgg c n _ _ _ hd;rw[hd,b8];have K:zgy r.2 d.2:=(lq.le.setS q.1).trans (lu.1.trans (lt.1.trans ld.le));have Z:∀y∈r.2.vars,IsT d.2.l 1 y:=fun y O=>(M.v y O).le K.l;have ho:∀a∈U.map fun i=>r.2.vars.getD i 0,IsT d.2.l 1 a:=fun a ha=>by
  obtain⟨i,I,rfl⟩:=lc.1 ha;rw[dd,aR (Y i I)];exact Z _ (dI _)
 have hn:∀a∈U.map fun i=>d.2.vars.getD i 0,IsT d.2.l 1 a:=fun a ha=>by
  obtain⟨i,I,rfl⟩:=lc.1 ha;have:=Y i I;have e1:=g.vl;have e2:=M.vl;rw[dd,aR (show i<d.2.vars.length by omega)];exact g.v _ (dI _)
 have V:(r.2.state::(U.map fun i=>r.2.vars.getD i 0)++[d.1,d.2.state]++U.map fun i=>d.2.vars.getD i 0).length=2*U.length+3:=cC;obtain⟨k1,o,k3⟩:=zhy g (n:=⟨31,s.loops,r.2.state::(U.map fun i=>r.2.vars.getD i 0)++[d.1,d.2.state]++U.map fun i=>d.2.vars.getD i 0⟩) (KO (M.st.le K.l) ho d2 g.st hn au cC ac ac) aD (iu _ _ aD ff (by rw[V];omega) aD aD aD aD);have lk:=zgd ⟨31,s.loops,r.2.state::(U.map fun i=>r.2.vars.getD i 0)++[d.1,d.2.state]++U.map fun i=>d.2.vars.getD i 0⟩ d.2;have hq:(zfg ⟨31,s.loops,r.2.state::(U.map fun i=>r.2.vars.getD i 0)++[d.1,d.2.state]++U.map fun i=>d.2.vars.getD i 0⟩ d.2).2.l[(zfg ⟨31,s.loops,r.2.state::(U.map fun i=>r.2.vars.getD i 0)++[d.1,d.2.state]++U.map fun i=>d.2.vars.getD i 0⟩ d.2).1.toNat]?=some ⟨31,s.loops,r.2.state::(U.map fun i=>r.2.vars.getD i 0)++[d.1,d.2.state]++U.map fun i=>d.2.vars.getD i 0⟩:=EM _ _;generalize zfg ⟨31,s.loops,r.2.state::(U.map fun i=>r.2.vars.getD i 0)++[d.1,d.2.state]++U.map fun i=>d.2.vars.getD i 0⟩ d.2=k at *;have J:fu (2*U.length+3:Nat)=((U.length+1:Nat):Int):=xy;have k1':=k1.setV (x:=r.2.vars) (fun y O=>(Z y O).le lk.le.l) M.vl;obtain⟨f1,f2,f3⟩:=zhy k1' (n:=⟨25,0,[k.1]⟩) (Bg (n:=0) o hq ac (by rw[V,J];omega)) aD (iu _ _ aD ff au aD aD aD aD);rw[aq rfl]at f2;have j:=zgd ⟨25,0,[k.1]⟩ {k.2 with vars:=r.2.vars};have L:r.2.l<+:(zfg ⟨25,0,[k.1]⟩ {k.2 with vars:=r.2.vars}).2.l:=(K.l.trans lk.le.l).trans j.le.l;have hfv:(zfg ⟨25,0,[k.1]⟩ {k.2 with vars:=r.2.vars}).2.vars=r.2.vars:=j.v;obtain⟨zfJ,m2,m3⟩:=vQ f1 (p2.le L) f2 (M.st.le L) (.inr rfl);have lm:=zg0 r.1 (zfg ⟨25,0,[k.1]⟩ {k.2 with vars:=r.2.vars}).1 r.2.state (zfg ⟨25,0,[k.1]⟩ {k.2 with vars:=r.2.vars}).2;generalize zfg ⟨25,0,[k.1]⟩ {k.2 with vars:=r.2.vars}=f at *;generalize zfA r.1 f.1 r.2.state f.2=m at *;have C:k.2.l<+:m.2.l:=j.le.l.trans lm.le.l;have hqm:m.2.l[k.1.toNat]?=some ⟨31,s.loops,r.2.state::(U.map fun i=>r.2.vars.getD i 0)++[d.1,d.2.state]++U.map fun i=>d.2.vars.getD i 0⟩:=by
  obtain⟨z,hz⟩:=C;rw[<-hz,je,hq];have:=o.hi;have:=o.lo;omega
 obtain⟨z1,z2⟩:=M2 (lp:=k.1) (k:=r.1) (old:=r.2.vars) U 1 {m.2 with state:=m.1} (zfJ.setS m2) (o.le C) hqm (p2.le (L.trans lm.le.l)) (fun y O=>(M.v y O).le (L.trans lm.le.l)) Y (aE _) (by rw[V,J];omega) ac;have lz:=rx k.1 r.1 r.2.vars U 1 {m.2 with state:=m.1};refine⟨_,rfl,z1,?_,?_⟩
 .rw[lz.2.2.2];show m.2.loops<=_;rw[lm.n,j.n];show k.2.loops<=_;rw[lk.n,ld.n];omega
 .simp only at z2 p3 u2 f3⊢;omega
theorem zyw{c:Cx}(Z:CxOkU c){np n:Nat}(IS:yx c np n)(IW:FB c np n):FA c np (n+1):=fun x s C hsz h hw=>by
 have hs:=x.sz_eq;have hw1:=sy x;have hkd:=C.kd;unfold jH;by_cases k1:x.kind=1
 .rw[aq k1];obtain⟨r,hr,M,Y,p3⟩:=qA Z n x.value s (C.value (.inl k1)) ac h;have V:=zgg c n _ _ _ hr;have hn:=C.name (.inl k1);have g:=M.vl;rw[hr,b8,aq ac];exact⟨_,rfl,M.setV (fun y U=>by
   rcases qt U with U|rfl
   .exact M.v y U
   .exact Y) (by rw[jk];exact g),by show r.2.loops<=_;rw[V.n];omega,vN⟩
 rw[af k1];by_cases k2:x.kind=2
 .rw[aq k2];obtain⟨r,hr,M,Y,p3⟩:=qA Z n x.at_ s (C.at_ k2) ac h
  obtain⟨v,hv,q1,q2,q3⟩:=qA Z n x.value r.2 (C.value (.inr (.inl k2))) ac M;have V:=zgg c n _ _ _ hr;have lv:=zgg c n _ _ _ hv;have K:=C.arr k2;rw[hr,b8,hv,b8,aR K,b8];have ha:=Z.a _ (dI K);generalize c.arrays[cp (c.arrays.map (·.name)) x.name]=ar at ha⊢;have p2':=Y.le lv.le.l;obtain⟨O,a2⟩:=MQ q1 (n:=ar.len) ff p2';have zfH:=qk ar.len r.1 v.2;obtain⟨J,I,b3⟩:=MT Z O (p2'.le zfH.le.l) (q2.le zfH.le.l) K;exact⟨_,rfl,J.setS I,by show(eK ar.len r.1 v.2).loops<=_;rw[zfH.n,lv.n,V.n];omega,vN⟩
 rw[af k2];by_cases k3:x.kind=3
 .rw[aq k3];rw[af ac]at hw1;obtain⟨r,hr,M,Y,p3⟩:=qA Z n x.value s (C.value (.inr (.inr (.inl k3)))) ac h;have V:=zgg c n _ _ _ hr;have hrn:=V.n;obtain⟨a,ha,O,a2,a3⟩:=IS x.thn r.2 C.subs.1 ac M ac;have la:=(kR c n).2.1 _ _ _ ha;have hal:a.vars.length=c.names.length:=O.vl;obtain⟨b,hb,J,I,b3⟩:=IS x.els {a with state:=r.2.state,vars:=r.2.vars} C.subs.2 ac ((O.setS (M.st.le la.1.l)).setV (fun y U=>(M.v y U).le la.1.l) M.vl) (by show a.loops+_<=_;omega);have lb:=(kR c n).2.1 _ _ _ hb;have o:a.l<+:b.l:=lb.1.l;have kb:IsT b.l 1 r.1:=(Y.le la.1.l).le o;have hbl:=J.vl;obtain⟨m,hm,zfJ,m2⟩:=M0 (k:=r.1) (a:=a.vars) b.vars.length 0 b J kb (fun y U=>(O.v y U).le o) hal ac;have lm:=sM _ _ _ _ _ _ hm;rw[hr,b8,ha,b8,hb,b8,hm,b8];obtain⟨t1,t2,t3⟩:=vQ zfJ (kb.le lm.1.l) ((O.st.le o).le lm.1.l) zfJ.st (.inr rfl);have lt:=zg0 r.1 a.state m.state m;have hnl:=Z.nl;refine⟨_,rfl,t1.setS t2,?_,?_⟩
  .show(zfA r.1 a.state m.state m).2.loops<=_;rw[lt.n,lm.2.2.2];simp only at I;omega
  .simp only at b3⊢;omega
 rw[af k3];by_cases k4:x.kind=4
 .rw[aq k4];exact IW x s C k4 ac h hw
 rw[af k4];by_cases k5:x.kind=5
 .rw[aq k5];obtain⟨r,hr,M,Y,p3⟩:=qA Z n x.value s (C.value (.inr (.inr (.inr (.inr k5))))) ac h;have V:=zgg c n _ _ _ hr;rw[hr,b8];obtain⟨J,I,b3⟩:=zcB M Y;exact⟨_,rfl,J.setS I,by show r.2.loops<=_;rw[V.n];omega,vN⟩
 rw[af k5];by_cases k6:x.kind=6
 .rw[aq k6];obtain⟨r,hr,M,Y,p3⟩:=MW Z (n:=n) x.args s C.args ac h;obtain⟨V,hlr⟩:=qn c n _ _ _ hr;obtain⟨c1,c2⟩:=C.call k6;obtain⟨i,hi,hfe⟩:=Ey c.funcs x.to 0 c1;obtain⟨f,j⟩:=mU c.funcs hi;have L:zgz c.funcs x.to 0=(i:Int):=by simpa using hfe
  have hn:=C.name (.inr k6);have g:=M.vl;have hpar:r.1.length=f.params.length:=by
   rw[hlr,c2,py,L,gV,j];rfl
  rw[hr,b8,aq ⟨c1,ac⟩];simp only[];rw[L];obtain⟨J,I,b3⟩:=MU Z M Y j hpar;have lb:=zgd ⟨30,i,r.2.state::r.1⟩ r.2;generalize zfg ⟨30,i,r.2.state::r.1⟩ r.2=z at *;obtain⟨d1,d2,d3⟩:=zcC (J.setS I) I;have ld:=zgd ⟨24,0,[z.1]⟩ {z.2 with state:=z.1};generalize zfg ⟨24,0,[z.1]⟩ {z.2 with state:=z.1}=w at *;refine⟨_,rfl,d1.setV (fun y U=>?_) (by rw[jk];exact d1.vl),?_,?_⟩
  .rcases qt U with U|rfl
   .exact d1.v y U
   .exact d2
  .show w.2.loops<=_;rw[ld.n];show z.2.loops<=_;rw[lb.n,V.n];omega
  .simp only at d3⊢;omega
 rw[af k6];by_cases k7:x.kind=7
 .rw[aq k7];have ht:=C.trap k7;have hw:cu (16+x.n)=16+x.n:=zhb ac ac;rw[hw];obtain⟨O,a2,a3⟩:=yr h (n:=0) ff;obtain⟨J,I⟩:=Fx O (t:=16+x.n) a2 ac ac;have lb:=qj (16+x.n) (zfg ⟨1,0,[]⟩ s).1 (zfg ⟨1,0,[]⟩ s).2;exact⟨_,rfl,J,by rw[lb.n];show s.loops<=_;omega,ac⟩
 .omega
theorem zyx{c:Cx}{np n:Nat}(Z:FA c np n)(M:yx c np n):yx c np (n+1):=fun l s L O h Y=>by
 cases l with
 |nil=>exact⟨s,by unfold eC;rfl,h,ac,ac⟩
 |cons x l=>
  obtain⟨C,L⟩:=L.cons;rw[zf0]at O⊢;rw[zfQ]at Y⊢;unfold eC;simp only[];obtain⟨r,hr,V,m,J⟩:=Z x s C ac h ac;obtain⟨t,U,K,I,i⟩:=M l r L ac V ac;rw[hr,b8,U];exact⟨t,rfl,K,ac,ac⟩
theorem M3{c:Cx}(Z:CxOkU c){np:Nat}:∀n:Nat,FA c np n/\yx c np n/\FB c np n
 |0=>⟨fun x s _ h=>ac,fun l s _ h=>ac,fun x s C _ h=>by have:=x.sz_eq;omega⟩
 |n+1=>by
  obtain⟨a,b,d⟩:=M3 Z (np:=np) n;exact⟨zyw Z b d,zyx a b,zyv Z b⟩
end
end Go.Proofs.YtpbcimfiofmoeaaGreat
