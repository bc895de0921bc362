/- Lemmas for the last file. -/
import Derived.Test.YtbflaciihaijgaaGreatREM
set_option linter.all false
set_option maxHeartbeats 32000000
namespace Go.Ab
set_option maxRecDepth 20000
open Go
variable{qb:Prop}
def CF(h:qb:=by simp only[List.length_map,dd];omega):=h
def Ny(h:qb:=by simp only[List.all_cons,List.all_nil,w0,ct,w2,w3,w4,Bool.and_true];rfl):=h
def iE(h:qb:=by simp only[bG];omega):=h
def zw(h:qb:=by rw[<- F];rfl):=h
def Nz(h:qb:=by simp only[bL,bK,and_true,aK,aW,Nat.reduceBEq,Nat.reduceAdd,Nat.reduceLeDiff,tyF,g60, *]):=h
def NA(h:qb:=by first|(simp only[aK,Nat.reduceBEq,U, *];done)|rfl):=h
def kG(h:qb:=by (try simp only[br,bG]);omega):=h
def my(h:qb:=by first|rfl|((try simp only[br,bG]);omega)):=h
def CG(h:qb:=by rw[<- F,Hp.get_set,if_neg Y]):=h
def xj(h:qb:=by simp[tU]):=h
def NB(h:qb:=by rw[o4 _ aa aa,aP,if_neg aa];exact g2):=h
def NC(h:qb:=by rw[o4 _ aa aa,aP,if_pos aa]):=h
def CH(h:qb:=by rw[Hp.get_set,if_neg aa,aP,if_pos rfl];simp):=h
def tX(h:qb:=by rw[Hp.get_set,if_neg aa,aP,if_neg aa]):=h
def tY(h:qb:=by rw[Hp.get_set,if_neg aa,Hp.get_set,if_neg aa]):=h
def ND(h:qb:=by rw[U _ aa,V _ aa,J _ aa aa,I _ aa,z _ aa aa,C _ aa,oH6 _ aa aa,oHa _ aa]):=h
def NE(h:qb:=by rw[U _ aa,V _ aa,J _ aa aa,I _ aa,z _ aa aa,C _ aa]):=h
def NF(h:qb:=by rw[U _ aa,V _ aa,J _ aa aa,I _ aa]):=h
def CI:=@Int.tmod_nonneg
end Go.Ab
namespace Go.Proofs.YtbflaciihaijgaaGreat
set_option maxRecDepth 20000
open Go Go.Ab Proofs.Tryz
variable{f m c q x y:Int}{A:Type}{cs C a v:qm}{S:Nat->Prop}{n lo r k:Nat}{H H2:Hp}{L j:qp}{b:AV}{Z:qu}{E2:aD}
section
def tyG3.tyF:=ac @dF (ac @cI (ac @cY (ac @pQ (ac @dW (ac @dX (ac @dy (ac @zh (ac @oV (@A9)))))))))
open tyG3
noncomputable def NG:{c:SC // aG 115 (f34.body.getD .skip)=c}:=by
 refine⟨?_,?_⟩;rotate_left
 .simp only[f34,bE,aG,bz,bq,bF,bB,Nat.blt,Nat.ble];rfl
noncomputable def CJ:qu:=[pp,tS,zi]
def CK(f:FuncId):Bool:=Nat.beq f 32||Nat.beq f 34||Nat.beq f 33||Nat.beq f 58||Nat.beq f 12
structure zdj (l:qu):Prop where
 pick:∀ar,dD l 25 ar=pp.sp ar
 f5:∀ar,dD l 27 ar=tS.sp ar
 nms:∀ar,dD l 59 ar=zi.sp ar
 pl:∀f,CK f=true->(∀ar,dD l f ar=none)/\ir l f=false
def zdj.plain{l:qu}(h:zdj l){f:FuncId}(m:CK f=true):zc7 (aF pls l) f:=dZ (h.pl f m).1 (h.pl f m).2
def NH{f:FuncId}(h:CK f=true):f=32\/f=34\/f=33\/f=58\/f=12:=by
 simp only[CK,ky]at h;rcases h with(((h|h)|h)|h)|h<;>have e:=ib h<;>subst e<;>simp
def NI:zdj CJ:=⟨fun _=>rfl,fun _=>rfl,fun _=>rfl,fun f m=>by rcases NH m with rfl|rfl|rfl|rfl|rfl<;>exact⟨fun _=>rfl,rfl⟩⟩
def ZX(ρ:Nat->Int):eU prog ρ CJ:=⟨w1 ρ,F8 ρ,MC ρ,trivial⟩
def xl(m:Int):Int:=if m.tmod 2=0 then 20 else 21
def sw(m:Int):qr:=if m.tmod 2=0 then [97]else [98]
def bO(f:Int):Nat->Nat->qp->Ex×qp
 |0,_,L=>(.mk 0 0 [] 0 [],L)
 |k+1,deep,L=>
  let n:=(bZ L).1
  let j:=(bZ L).2
  let q:=aZ n 16
  let m:=aZ (bA (n.tdiv 16)) 1000
  if q<4\/(3:Int)<deep then
   if q.tmod 2=0\/((3:Int)<deep/\8<q)then (.mk 2 0 ((co f).getD (m.tmod (co f).length).toNat []) 0 [],j)
   else (.mk 1 (hC m n) [] 0 [],j)
  else if q<6 then (.mk 3 0 (sw m) 0 [(bO f k (deep+1) j).1],(bO f k (deep+1) j).2)
  else if q<7 then
   let a:=bO f k (deep+1) j
   let b:=bO f k (deep+1) a.2
   let c:=bO f k (deep+1) b.2
   (.mk 5 0 [] 0 [a.1,b.1,c.1],c.2)
  else if q<9 then (.mk 4 0 [] (xl m) [(bO f k (deep+1) j).1],(bO f k (deep+1) j).2)
  else
   let a:=bO f k (deep+1) j
   let b:=bO f k (deep+1) a.2
   (.mk 4 0 [] (bA (4+m.tmod 15)) [a.1,b.1],b.2)
def nh(L:qp):(bZ L).2.length<=L.length:=by cases L<;>simp[bZ]
theorem eN(f:Int):∀(k F:Nat) (L:qp),(bO f k F L).2.length<=L.length
 |0,_,_=>aT _
 |k+1,F,L=>by
  have h:=nh L;have ih:=fun L=>eN f k (F+1) L;simp only[bO];split
  .split<;>exact h
  .split
   .exact dC (ih _) h
   .split
    .exact dC (ih _) (dC (ih _) (dC (ih _) h))
    .split
     .exact dC (ih _) h
     .exact dC (ih _) (dC (ih _) h)
def zx(z n lo:Nat)(H:Hp)(r:Nat)(ws:qm)(L:qp)(c:Int)(v:AV)(H':Hp):Prop:=
 (∃cs,v=.agg cs/\cs.length=z/\cs.all AV.one=true/\cJ (fun q=>H.next<=q) n H' cs ws)/\hO lo H' r L c/\H.next<=H'.next/\∀q,q<H.next->q≠r->H'.get q=H.get q
theorem ry(l:List A)(K:(l.length:Int)≠0)(M:0<=m)(d:A):0<=m.tmod l.length/\l[(m.tmod l.length).toNat]?=some (l.getD (m.tmod l.length).toNat d):=by
 have j:=CI (l.length:Int) M;have Z:=vx m (b:=(l.length:Int)) aa;refine⟨j,?_⟩;generalize m.tmod l.length=t at *;rw[iY,bt aa];rfl
def CL(h:0<=m):0<=m.tmod 2/\m.tmod 2<2:=⟨CI _ h,vx _ aa⟩
def sy(h:0<=m)(r:Nat):eS prog 66 (.sl r 0 2 1) (.int .i64 (m.tmod 2))=some (.ptr r (m.tmod 2).toNat):=by
 obtain⟨j,Z⟩:=CL h;rw[EC _ _ _ _ j,mU (by omega:(m.tmod 2).toNat<2)];simp
def ZY(h:0<=m)(r:Nat):eS prog 26 (.sl r 0 2 1) (.int .i64 (m.tmod 2))=some (.ptr r (m.tmod 2).toNat):=by
 obtain⟨j,Z⟩:=CL h;rw[Ey _ _ _ _ j,mU (by omega:(m.tmod 2).toNat<2)];simp
theorem Gi(h:0<=m)(a b:A):[a,b][(m.tmod 2).toNat]?=some (if m.tmod 2=0 then a else b):=by
 obtain⟨j,Z⟩:=CL h;rcases(by omega:m.tmod 2=0\/m.tmod 2=1)with e|e<;>rw[e]<;>rfl
theorem sA(h:0<=m):[AV.ae [97],AV.ae [98]][(m.tmod 2).toNat]?=some (.ae (sw m)):=by
 rw[Gi h,sw];split<;>rfl
theorem ZZ(h:0<=m):[AV.int .i64 20,AV.int .i64 21][(m.tmod 2).toNat]?=some (.int .i64 (xl m)):=by
 rw[Gi h,xl];split<;>rfl
def Z0(s:qr):cQ prog 70 [(0,.int .i64 2),(2,.ae s)]=some (.agg [.int .i64 2,.int .i64 0,.ae s,.int .i64 0,.ab]):=aA
def Z1(n:Int):cQ prog 70 [(0,.int .i64 1),(1,.int .i64 n)]=some (.agg [.int .i64 1,.int .i64 n,.ae [],.int .i64 0,.ab]):=aA
def Z2(s:qr)(r n:Nat):cQ prog 70 [(0,.int .i64 3),(2,.ae s),(4,.sl r 0 n 5)]=some (.agg [.int .i64 3,.int .i64 0,.ae s,.int .i64 0,.sl r 0 n 5]):=aA
def Z3(r n:Nat):cQ prog 70 [(0,.int .i64 5),(4,.sl r 0 n 5)]=some (.agg [.int .i64 5,.int .i64 0,.ae [],.int .i64 0,.sl r 0 n 5]):=aA
def NJ(o:Int)(r n:Nat):cQ prog 70 [(0,.int .i64 4),(3,.int .i64 o),(4,.sl r 0 n 5)]=some (.agg [.int .i64 4,.int .i64 0,.ae [],.int .i64 o,.sl r 0 n 5]):=aA
def dM(h:cs.length=5):∃a b c d e,cs=[a,b,c,d,e]:=by
 match cs,h with
 |[a,b,c,d,e],_=>exact⟨a,b,c,d,e,rfl⟩
def Gj(H:Hp)(h:cs.length=5)(h1:cs.all AV.one=true):dc prog H 68 1 [(0,.agg cs)]=some (.sl H.next 0 1 5,H.alloc (.cells cs 0 true)):=by
 obtain⟨a,b,c,d,e,rfl⟩:=dM h;kernel_rfl
def Z4(H:Hp)(h:cs.length=5)(k:C.length=5):dc prog H 68 2 [(0,.agg cs),(1,.agg C)]=some (.sl H.next 0 2 5,H.alloc (.cells (cs++C) 0 true)):=by
 obtain⟨a,b,c,d,e,rfl⟩:=dM h;obtain⟨z,b',j,Z,o,rfl⟩:=dM k;kernel_rfl
def Z5(H:Hp){U:qm}(h:cs.length=5)(k:C.length=5)(l:U.length=5):dc prog H 68 3 [(0,.agg cs),(1,.agg C),(2,.agg U)]=some (.sl H.next 0 3 5,H.alloc (.cells (cs++C++U) 0 true)):=by
 obtain⟨a,b,c,d,e,rfl⟩:=dM h;obtain⟨z,b',j,Y,o,rfl⟩:=dM k;obtain⟨A,Z,F,I,J,rfl⟩:=dM l;kernel_rfl
def NK(H:Hp)(a b:Int):dc prog H 26 2 [(0,.int .i64 a),(1,.int .i64 b)]=some (.sl H.next 0 2 1,H.alloc (.cells [.int .i64 a,.int .i64 b] 0 true)):=aA
theorem lh(a b c d e:AV):cH 5 [a,b,c,d,e]=some (.agg [a,b,c,d,e]):=rfl
abbrev qk:HB:=.cells [.ae [97],.ae [98]] 0 true
set_option maxRecDepth 100000 in
theorem li{lG:qu}(hG:zdj lG):∀(k:Nat) (f:Int) (F:Nat),5<=F+k->F<=4->∀(lo:Nat) (H:Hp) (r:Nat) (L:qp) (c:Int),hO lo H r L c->L.length<2^60 ->
 aU prog (aF pls lG) 34 [.ptr r 0,.int .i64 f,.int .i64 F] H (zx 5 (k+1) lo H r (bO f k F L).1.cells (bO f k F L).2 c)
 |0,f,F,j,Z,_,_,_,_,_,_,_=>by omega
 |k+1,f,F,j,Z,lo,H,r,L,c,hrd,hL=>by
  have hw:zc7 (aF pls lG) 34:=hG.plain gB;have hnx:zc7 (aF pls lG) 32:=hG.plain gB;have hrl:=hrd.1;have hlo:=hrd.2.1;have hq16:(16:Int)≠0:=cy;generalize U:bO f (k+1) F L=R;rw[bO]at U;simp only[]at U;refine a5 (M:=115) (rs:=[.cell 6 70]) (hw.call _) hw.ao hw.am func34 rfl rfl NG.2 rfl ?_;dsimp only[NG,a3,Nat.reduceAdd];repeat' (first
   |(apply ai ?_;clear hK K)|apply Rx.o ?_|apply aN ?_|apply cW ?_|(apply aX (fun C Y=>?_) (fun C Y=>?_)<;>try(cases C;done))|(apply aE (fun z V=>?_) (fun z V=>?_)<;>try(cases z;done))|apply ae ?_|(apply ah fun K hK=>?_)|(apply aq 10 [(0,9),(0,12),(4,9),(4,12),(10,12)] fun K hK=>?_)|(apply aq 14 [(0,9),(0,12),(4,9),(4,12),(10,12)] fun K hK=>?_)|(apply aM ?_;try intro _)|(apply aR ?_ ?_<;>clear hK K)|apply aL ?_|apply bu rfl ?_|apply aj ?_|apply ak ?_|apply am ?_)
  refine qa ?_;refine a4 ?_ (Cw hnx (hrd.aj (eT _) fun q I=>fX) hL);rintro v H2 ⟨rfl,S,n2,o2⟩;simp only[br]at n2;have g2:H2.get H.next=some qe:=by rw[o2 _ aa,aP,au rfl]
  have J:∀q,q<H.next->q≠r->H2.get q=H.get q:=fun q j Z=>by rw[o2 q Z,aP,ad aa]
  have hL1:=nh L;generalize (bZ L).1=n at *;generalize (bZ L).2=L1 at *;have I:=fb (n:=n) (m:=16) aa aa;have hm:=fb (n:=bA (n.tdiv 16)) (m:=1000) aa aa;have hq2:(2:Int)≠0:=cy;have hq15:(15:Int)≠0:=cy;have hlen0:((co f).length:Int)≠0:=by rcases su f with h|h<;>rw[h]<;>decide
  have hwd:IntKind.wrap .i64 ((F:Int)+1)=((F+1:Nat):Int):=ft aa;clear o2;dsimp only[a0];obtain⟨hi0,hix⟩:=ry (co f) hlen0 hm.1 [];have hxs:=sy hm.1;have hxi:=ZY hm.1;have hxa:=sA hm.1;have hxo:=ZZ hm.1;have kf:∀(H3:Hp) (x:Ex),hO lo H3 r L1 c->H.next<=H3.next->(∀q,q<H.next->q≠r->H3.get q=H.get q)->∀cs,cs.length=5->cs.all AV.one=true->cJ (fun q=>H.next<=q) (k+2) H3 cs x.cells->zx 5 (k+2) lo H r x.cells L1 c (.agg cs) H3:=fun H3 x q1 q2 q3 cs q4 q5 q6=>⟨⟨cs,rfl,q4,q5,q6⟩,q1,q2,q3⟩
  have gh0:=@Z0;have gh1:=@Z1;have gh2:=@lh;have gh3:=@NK;repeat' (first
   |(apply ai ?_;clear hK K)|apply Rx.o ?_|apply aN ?_|(apply dJ ?_;first|refine aY (MD hG.nms _ _) ?_|refine aY (iC hG.pick _ _ cy _) ?_|refine aY (MB hG.f5 _ _ _) ?_)|apply cW ?_|(apply aX (fun C Y=>?_) (fun C Y=>?_)<;>try(cases C;done))|(apply aE (fun z V=>?_) (fun z V=>?_)<;>try(cases z;done))|apply ae ?_|(apply ah fun K hK=>?_)|(apply aq 10 [(0,9),(0,12),(4,9),(4,12),(10,12)] fun K hK=>?_)|(apply aq 14 [(0,9),(0,12),(4,9),(4,12),(10,12)] fun K hK=>?_)|(apply aM ?_;try intro _)|(apply aR ?_ ?_<;>clear hK K)|apply aL ?_|apply bu rfl ?_|apply aj ?_|apply ak ?_|apply am ?_)
  .refine⟨aC,_,(by(try simp only[aK,aW,Nat.reduceBEq,Nat.reduceAdd,Nat.reduceLeDiff,tyF,bU,cc,lh, *]);first|done|with_reducible rfl),?_⟩;try simp only[aB]
   first
   |rw[au aa,au aa]at U
   |rw[au aa,ad aa]at U
   subst U;refine kf _ _ ?_ ?_ ?_ _ rfl rfl (mr _ _ _ _)
   .exact S.aj (aT _) fun q I=>jZ
   .simp only[bG];omega
   .intro q j Z;rw[aO,ad aa];exact J q j Z
  .refine⟨aC,_,(by(try simp only[aK,aW,Nat.reduceBEq,Nat.reduceAdd,Nat.reduceLeDiff,tyF,bU,cc,lh, *]);first|done|with_reducible rfl),?_⟩;try simp only[aB]
   first
   |rw[au aa,au aa]at U
   |rw[au aa,ad aa]at U
   subst U;refine kf _ _ ?_ ?_ ?_ _ rfl rfl (mr _ _ _ _)
   .exact S.aj (aT _) fun q I=>jZ
   .simp only[bG];omega
   .intro q j Z;rw[aO,ad aa];exact J q j Z
  .refine⟨aC,_,(by(try simp only[aK,aW,Nat.reduceBEq,Nat.reduceAdd,Nat.reduceLeDiff,tyF,bU,cc,lh, *]);first|done|with_reducible rfl),?_⟩;try simp only[aB]
   first
   |rw[au aa,au aa]at U
   |rw[au aa,ad aa]at U
   subst U;refine kf _ _ ?_ ?_ ?_ _ rfl rfl (mr _ _ _ _)
   .exact S.aj (aT _) fun q I=>jZ
   .simp only[bG];omega
   .intro q j Z;rw[aO,ad aa];exact J q j Z
  ·-- one operand
   have er:(H.next == r)=false:=ay aa;refine qa ?_;refine a4 ?_ (li hG k f (F+1) aa aa lo _ r L1 c (S.aj (eT _) fun q I=>fX) aa);rintro v o ⟨⟨cs,rfl,O,hc2,A⟩,hr4,n4,o4⟩;simp only[br]at n4 o4 A;have g4:o.get H.next=some qe:=NB
   have g4s:o.get (H.next+1)=some qk:=NC;have kb:=fun H=>Gj H O hc2;have e4:(H.next == o.next)=false:=ay aa;have e5:(H.next+1 == o.next)=false:=ay aa;dsimp only[a0];have gh0:=@lh;have gh1:=@Z2;repeat' (first
    |(apply ai ?_;clear hK K)|apply Rx.o ?_|apply aN ?_|apply cW ?_|(apply aX (fun C Y=>?_) (fun C Y=>?_)<;>try(cases C;done))|(apply aE (fun z V=>?_) (fun z V=>?_)<;>try(cases z;done))|apply ae ?_|(apply ah fun K hK=>?_)|(apply aq 10 [(0,9),(0,12),(4,9),(4,12),(10,12)] fun K hK=>?_)|(apply aq 14 [(0,9),(0,12),(4,9),(4,12),(10,12)] fun K hK=>?_)|(apply aM ?_;try intro _)|(apply aR ?_ ?_<;>clear hK K)|apply aL ?_|apply bu rfl ?_|apply aj ?_|apply ak ?_|apply am ?_)
   .exact di
   .refine⟨aC,_,(by(try simp only[aK,aW,Nat.reduceBEq,Nat.reduceAdd,Nat.reduceLeDiff,tyF,bU,cc,lh, *]);first|done|with_reducible rfl),?_⟩;try simp only[aB]
    rw[ad aa,au aa]at U;subst U;refine⟨⟨_,rfl,rfl,rfl,?_⟩,?_,?_,?_⟩
    .refine tT (n:=k+1) _ _ _ _ (rt (n:=k+1) (a:=[cs]) (imm:=0) (tip:=true) (by show H.next<=o.next;omega) gA CH aI ⟨⟨O,A.aj (fun q I=>aa) gA fun q j Z=>tX⟩,trivial⟩)
    .exact hr4.aj gA fun q I=>tX
    .simp only[bG,br];omega
    .intro q j Z;rw[aO,ad aa,aP,ad aa,o4 _ aa Z,aP,ad aa];exact J q j Z
  ·-- more operands
   have er:(H.next == r)=false:=ay aa;refine qa ?_;refine a4 ?_ (li hG k f (F+1) aa aa lo _ r L1 c S aa);rintro v o ⟨⟨cs,rfl,O,hc2,A⟩,hr4,n4,o4⟩;have hl4:=eN f k (F+1) L1;dsimp only[a0];repeat' (first
    |(apply ai ?_;clear hK K)|apply Rx.o ?_|apply aN ?_|apply cW ?_|(apply aX (fun C Y=>?_) (fun C Y=>?_)<;>try(cases C;done))|(apply aE (fun z V=>?_) (fun z V=>?_)<;>try(cases z;done))|apply ae ?_|(apply ah fun K hK=>?_)|(apply aq 10 [(0,9),(0,12),(4,9),(4,12),(10,12)] fun K hK=>?_)|(apply aq 14 [(0,9),(0,12),(4,9),(4,12),(10,12)] fun K hK=>?_)|(apply aM ?_;try intro _)|(apply aR ?_ ?_<;>clear hK K)|apply aL ?_|apply bu rfl ?_|apply aj ?_|apply ak ?_|apply am ?_)
   refine qa ?_;refine a4 ?_ (li hG k f (F+1) aa aa lo o r (bO f k (F+1) L1).2 c hr4 aa);rintro v H5 ⟨⟨ds,rfl,hd1,hd2,hd3⟩,hr5,n5,o5⟩;have hl5:=eN f k (F+1) (bO f k (F+1) L1).2;dsimp only[a0];repeat' (first
    |(apply ai ?_;clear hK K)|apply Rx.o ?_|apply aN ?_|apply cW ?_|(apply aX (fun C Y=>?_) (fun C Y=>?_)<;>try(cases C;done))|(apply aE (fun z V=>?_) (fun z V=>?_)<;>try(cases z;done))|apply ae ?_|(apply ah fun K hK=>?_)|(apply aq 10 [(0,9),(0,12),(4,9),(4,12),(10,12)] fun K hK=>?_)|(apply aq 14 [(0,9),(0,12),(4,9),(4,12),(10,12)] fun K hK=>?_)|(apply aM ?_;try intro _)|(apply aR ?_ ?_<;>clear hK K)|apply aL ?_|apply bu rfl ?_|apply aj ?_|apply ak ?_|apply am ?_)
   refine qa ?_;refine a4 ?_ (li hG k f (F+1) aa aa lo H5 r (bO f k (F+1) (bO f k (F+1) L1).2).2 c hr5 aa);rintro v H6 ⟨⟨es,rfl,he1,he2,he3⟩,hr6,n6,o6⟩;have hl6:=eN f k (F+1) (bO f k (F+1) (bO f k (F+1) L1).2).2;dsimp only[a0];have gz:H6.get H.next=some qe:=by rw[o6 _ aa aa,o5 _ aa aa,o4 _ aa aa];exact g2
   have kb:=fun H=>Z5 H O hd1 he1;have e4:(H.next == H6.next)=false:=ay aa;have gh0:=@lh;have gh1:=@Z3;repeat' (first
    |(apply ai ?_;clear hK K)|apply Rx.o ?_|apply aN ?_|apply cW ?_|(apply aX (fun C Y=>?_) (fun C Y=>?_)<;>try(cases C;done))|(apply aE (fun z V=>?_) (fun z V=>?_)<;>try(cases z;done))|apply ae ?_|(apply ah fun K hK=>?_)|(apply aq 10 [(0,9),(0,12),(4,9),(4,12),(10,12)] fun K hK=>?_)|(apply aq 14 [(0,9),(0,12),(4,9),(4,12),(10,12)] fun K hK=>?_)|(apply aM ?_;try intro _)|(apply aR ?_ ?_<;>clear hK K)|apply aL ?_|apply bu rfl ?_|apply aj ?_|apply ak ?_|apply am ?_)
   refine⟨aC,_,(by(try simp only[aK,aW,Nat.reduceBEq,Nat.reduceAdd,Nat.reduceLeDiff,tyF,bU,cc,lh, *]);first|done|with_reducible rfl),?_⟩;try simp only[aB]
   rw[ad aa,ad aa,au aa]at U;subst U;refine⟨⟨_,rfl,rfl,rfl,?_⟩,?_,?_,?_⟩
   .refine tT (n:=k+1) _ _ _ _ (rt (n:=k+1) (a:=[cs,ds,es]) (imm:=0) (tip:=true) (by show H.next<=H6.next;omega) gA CH aI ⟨⟨O,A.aj (fun q I=>aa) gA fun q j Z=>by rw[aO,ad aa,aP,ad aa,o6 _ aa aa,o5 _ aa aa]⟩,⟨hd1,hd3.aj (fun q I=>aa) gA fun q j Z=>by rw[aO,ad aa,aP,ad aa,o6 _ aa aa]⟩,⟨he1,he3.aj (fun q I=>aa) gA fun q j Z=>tX⟩,trivial⟩)
   .exact hr6.aj gA fun q I=>tX
   .simp only[bG,br];omega
   .intro q j Z;rw[aO,ad aa,aP,ad aa,o6 _ aa Z,o5 _ aa Z,o4 _ aa Z];exact J q j Z
  ·-- one operand
   have er:(H.next == r)=false:=ay aa;refine qa ?_;refine a4 ?_ (li hG k f (F+1) aa aa lo _ r L1 c (S.aj (eT _) fun q I=>fX) aa);rintro v o ⟨⟨cs,rfl,O,hc2,A⟩,hr4,n4,o4⟩;simp only[br]at n4 o4 A;have g4:o.get H.next=some qe:=NB
   have g4s:o.get (H.next+1)=some (.cells [.int .i64 20,.int .i64 21] 0 true):=NC;have kb:=fun H=>Gj H O hc2;have e4:(H.next == o.next)=false:=ay aa;have e5:(H.next+1 == o.next)=false:=ay aa;dsimp only[a0];have gh0:=@NK;have gh1:=@lh;have gh2:=@NJ;repeat' (first
    |(apply ai ?_;clear hK K)|apply Rx.o ?_|apply aN ?_|apply cW ?_|(apply aX (fun C Y=>?_) (fun C Y=>?_)<;>try(cases C;done))|(apply aE (fun z V=>?_) (fun z V=>?_)<;>try(cases z;done))|apply ae ?_|(apply ah fun K hK=>?_)|(apply aq 10 [(0,9),(0,12),(4,9),(4,12),(10,12)] fun K hK=>?_)|(apply aq 14 [(0,9),(0,12),(4,9),(4,12),(10,12)] fun K hK=>?_)|(apply aM ?_;try intro _)|(apply aR ?_ ?_<;>clear hK K)|apply aL ?_|apply bu rfl ?_|apply aj ?_|apply ak ?_|apply am ?_)
   .exact di
   .refine⟨aC,_,(by(try simp only[aK,aW,Nat.reduceBEq,Nat.reduceAdd,Nat.reduceLeDiff,tyF,bU,cc,lh, *]);first|done|with_reducible rfl),?_⟩;try simp only[aB]
    rw[ad aa,ad aa,ad aa,au aa]at U;subst U;refine⟨⟨_,rfl,rfl,rfl,?_⟩,?_,?_,?_⟩
    .refine tT (n:=k+1) _ _ _ _ (rt (n:=k+1) (a:=[cs]) (imm:=0) (tip:=true) (by show H.next<=o.next;omega) gA CH aI ⟨⟨O,A.aj (fun q I=>aa) gA fun q j Z=>tX⟩,trivial⟩)
    .exact hr4.aj gA fun q I=>tX
    .simp only[bG,br];omega
    .intro q j Z;rw[aO,ad aa,aP,ad aa,o4 _ aa Z,aP,ad aa];exact J q j Z
  ·-- more operands
   have er:(H.next == r)=false:=ay aa;refine qa ?_;refine a4 ?_ (li hG k f (F+1) aa aa lo _ r L1 c S aa);rintro v o ⟨⟨cs,rfl,O,hc2,A⟩,hr4,n4,o4⟩;have hl4:=eN f k (F+1) L1;dsimp only[a0];repeat' (first
    |(apply ai ?_;clear hK K)|apply Rx.o ?_|apply aN ?_|apply cW ?_|(apply aX (fun C Y=>?_) (fun C Y=>?_)<;>try(cases C;done))|(apply aE (fun z V=>?_) (fun z V=>?_)<;>try(cases z;done))|apply ae ?_|(apply ah fun K hK=>?_)|(apply aq 10 [(0,9),(0,12),(4,9),(4,12),(10,12)] fun K hK=>?_)|(apply aq 14 [(0,9),(0,12),(4,9),(4,12),(10,12)] fun K hK=>?_)|(apply aM ?_;try intro _)|(apply aR ?_ ?_<;>clear hK K)|apply aL ?_|apply bu rfl ?_|apply aj ?_|apply ak ?_|apply am ?_)
   refine qa ?_;refine a4 ?_ (li hG k f (F+1) aa aa lo o r (bO f k (F+1) L1).2 c hr4 aa);rintro v H5 ⟨⟨ds,rfl,hd1,hd2,hd3⟩,hr5,n5,o5⟩;have hl5:=eN f k (F+1) (bO f k (F+1) L1).2;dsimp only[a0];have gz:H5.get H.next=some qe:=by rw[o5 _ aa aa,o4 _ aa aa];exact g2
   have kb:=fun H=>Z4 H O hd1;have e4:(H.next == H5.next)=false:=ay aa;have gh0:=@lh;have gh1:=@NJ;repeat' (first
    |(apply ai ?_;clear hK K)|apply Rx.o ?_|apply aN ?_|apply cW ?_|(apply aX (fun C Y=>?_) (fun C Y=>?_)<;>try(cases C;done))|(apply aE (fun z V=>?_) (fun z V=>?_)<;>try(cases z;done))|apply ae ?_|(apply ah fun K hK=>?_)|(apply aq 10 [(0,9),(0,12),(4,9),(4,12),(10,12)] fun K hK=>?_)|(apply aq 14 [(0,9),(0,12),(4,9),(4,12),(10,12)] fun K hK=>?_)|(apply aM ?_;try intro _)|(apply aR ?_ ?_<;>clear hK K)|apply aL ?_|apply bu rfl ?_|apply aj ?_|apply ak ?_|apply am ?_)
   refine⟨aC,_,(by(try simp only[aK,aW,Nat.reduceBEq,Nat.reduceAdd,Nat.reduceLeDiff,tyF,bU,cc,lh, *]);first|done|with_reducible rfl),?_⟩;try simp only[aB]
   rw[ad aa,ad aa,ad aa,ad aa]at U;subst U;refine⟨⟨_,rfl,rfl,rfl,?_⟩,?_,?_,?_⟩
   .refine tT (n:=k+1) _ _ _ _ (rt (n:=k+1) (a:=[cs,ds]) (imm:=0) (tip:=true) (by show H.next<=H5.next;omega) gA CH aI ⟨⟨O,A.aj (fun q I=>aa) gA fun q j Z=>by rw[aO,ad aa,aP,ad aa,o5 _ aa aa]⟩,⟨hd1,hd3.aj (fun q I=>aa) gA fun q j Z=>tX⟩,trivial⟩)
   .exact hr5.aj gA fun q I=>tX
   .simp only[bG,br];omega
   .intro q j Z;rw[aO,ad aa,aP,ad aa,o5 _ aa Z,o4 _ aa Z];exact J q j Z
  .refine⟨aC,_,(by(try simp only[aK,aW,Nat.reduceBEq,Nat.reduceAdd,Nat.reduceLeDiff,tyF,bU,cc,lh, *]);first|done|with_reducible rfl),?_⟩;try simp only[aB]
   first
   |rw[au aa,au aa]at U
   |rw[au aa,ad aa]at U
   subst U;refine kf _ _ ?_ ?_ ?_ _ rfl rfl (mr _ _ _ _)
   .exact S.aj (aT _) fun q I=>jZ
   .simp only[bG];omega
   .intro q j Z;rw[aO,ad aa];exact J q j Z
  .refine⟨aC,_,(by(try simp only[aK,aW,Nat.reduceBEq,Nat.reduceAdd,Nat.reduceLeDiff,tyF,bU,cc,lh, *]);first|done|with_reducible rfl),?_⟩;try simp only[aB]
   first
   |rw[au aa,au aa]at U
   |rw[au aa,ad aa]at U
   subst U;refine kf _ _ ?_ ?_ ?_ _ rfl rfl (mr _ _ _ _)
   .exact S.aj (aT _) fun q I=>jZ
   .simp only[bG];omega
   .intro q j Z;rw[aO,ad aa];exact J q j Z
  .refine⟨aC,_,(by(try simp only[aK,aW,Nat.reduceBEq,Nat.reduceAdd,Nat.reduceLeDiff,tyF,bU,cc,lh, *]);first|done|with_reducible rfl),?_⟩;try simp only[aB]
   first
   |rw[au aa,au aa]at U
   |rw[au aa,ad aa]at U
   subst U;refine kf _ _ ?_ ?_ ?_ _ rfl rfl (mr _ _ _ _)
   .exact S.aj (aT _) fun q I=>jZ
   .simp only[bG];omega
   .intro q j Z;rw[aO,ad aa];exact J q j Z
  .refine⟨aC,_,(by(try simp only[aK,aW,Nat.reduceBEq,Nat.reduceAdd,Nat.reduceLeDiff,tyF,bU,cc,lh, *]);first|done|with_reducible rfl),?_⟩;try simp only[aB]
   first
   |rw[au aa,au aa]at U
   |rw[au aa,ad aa]at U
   subst U;refine kf _ _ ?_ ?_ ?_ _ rfl rfl (mr _ _ _ _)
   .exact S.aj (aT _) fun q I=>jZ
   .simp only[bG];omega
   .intro q j Z;rw[aO,ad aa];exact J q j Z
end
section
def tyG4.tyF:=ac @cI (ac @pQ (ac @dR (ac @eD (ac @wt (ac @cY (ac @dW (ac @dX (@dy))))))))
open tyG4
noncomputable def NL:{c:SC // aG 36 (f33.body.getD .skip)=c}:=by
 refine⟨?_,?_⟩;rotate_left
 .simp only[f33,bE,aG,bz,bq,bF,bB,Nat.blt,Nat.ble];rfl
noncomputable def rz:{c:SC // aG 156 (f58.body.getD .skip)=c}:=by
 refine⟨?_,?_⟩;rotate_left
 .simp only[f58,bE,aG,bz,bq,bF,bB,Nat.blt,Nat.ble];rfl
abbrev da:=qp×Int
def gL(step:da->St×da):Nat->da->qt×da
 |0,s=>([],s)
 |n+1,s=>if s.1=[]then ([],s)else ((step s).1::(gL step n (step s).2).1,(gL step n (step s).2).2)
def gP(f:Int):Nat->qp->qz×qp
 |0,L=>([],L)
 |n+1,L=>((bO f 3 2 L).1::(gP f n (bO f 3 2 L).2).1,(gP f n (bO f 3 2 L).2).2)
def eI:Ex:=.mk 0 0 [] 0 []
def j8(m:Int):qr:=if m.tmod 2=0 then [102]else [103]
def gD(M:Int->da->qt×da)(f:Int)(j:qp)(c q m:Int):St×da:=
 if q<6 then (.mk 1 ((co f).getD (m.tmod (co f).length).toNat []) [] 0 eI (bO f 5 0 j).1 [] [] [],((bO f 5 0 j).2,c))
 else if q<8 then (.mk 2 (sw m) [] 0 (bO f 3 2 j).1 (bO f 4 1 (bO f 3 2 j).2).1 [] [] [],((bO f 4 1 (bO f 3 2 j).2).2,c))
 else if q<10 then (.mk 3 [] [] 0 eI (bO f 4 1 j).1 [] (M 3 ((bO f 4 1 j).2,c)).1 (M 2 (M 3 ((bO f 4 1 j).2,c)).2).1,(M 2 (M 3 ((bO f 4 1 j).2,c)).2).2)
 else if q<12 then (.mk 4 [] [] 0 eI (bO f 4 1 j).1 [] (M 3 ((bO f 4 1 j).2,bA (c+1))).1 [],(M 3 ((bO f 4 1 j).2,bA (c+1))).2)
 else if q<14 then (.mk 5 [] [] 0 eI (bO f 4 1 j).1 [] [] [],((bO f 4 1 j).2,c))
 else if q<15 then (.mk 6 ((co f).getD (m.tmod (co f).length).toNat []) (j8 m) 0 eI eI (gP f (2-m.tmod 2).toNat j).1 [] [],((gP f (2-m.tmod 2).toNat j).2,c))
 else (.mk 7 [] [] m eI eI [] [] [],(j,c))
def vF(deep:Nat)(c Y:Int):Int:=if ((2:Int)<deep/\8<=Y/\Y<12)\/(10<=c/\10<=Y)then 0 else Y
def vG(M:Int->da->qt×da)(f:Int)(deep:Nat)(s:da):St×da:=
 gD M f (bZ s.1).2 s.2 (vF deep s.2 (aZ (bZ s.1).1 16)) (aZ (bA ((bZ s.1).1.tdiv 16)) 1000)
def gE(f:Int):Nat->Nat->da->St×da
 |0,_,s=>(.mk 0 [] [] 0 eI eI [] [] [],s)
 |k+1,deep,s=>vG (fun U s=>gL (gE f k (deep+1)) (aZ (bZ s.1).1 (U+1)).toNat ((bZ s.1).2,s.2)) f deep s
def lj(f:Int)(k deep:Nat)(U:Int)(s:da):qt×da:=gL (gE f k deep) (aZ (bZ s.1).1 (U+1)).toNat ((bZ s.1).2,s.2)
theorem zy{step:da->St×da}(h:∀s,(step s).2.1.length<=s.1.length):∀(n:Nat) (s:da),(gL step n s).2.1.length<=s.1.length
 |0,_=>aT _
 |n+1,s=>by
  rw[gL];split
  .exact aT _
  .exact dC (zy h n _) (h s)
theorem Gk(f:Int):∀(n:Nat) (L:qp),(gP f n L).2.length<=L.length
 |0,_=>aT _
 |n+1,L=>dC (Gk f n _) (eN f 3 2 L)
def Z6{M:Int->da->qt×da}(h2:∀(U:Int) (s:da),(M U s).2.1.length<=s.1.length)(f:Int)(deep:Nat)(s:da):(vG M f deep s).2.1.length<=s.1.length:=by
 have h:=nh s.1;have S:=eN f 4 1 (bZ s.1).2;have Z:=eN f 5 0 (bZ s.1).2;have V:=eN f 3 2 (bZ s.1).2;have o:=eN f 4 1 (bO f 3 2 (bZ s.1).2).2;rw[vG,gD];generalize vF deep s.2 (aZ (bZ s.1).1 16)=q;by_cases c1:q<6
 .rw[au c1];exact dC Z h
 rw[ad c1];by_cases c2:q<8
 .rw[au c2];exact dC o (dC V h)
 rw[ad c2];by_cases c3:q<10
 .rw[au c3];exact dC (h2 _ _) (dC (h2 _ _) (dC S h))
 rw[ad c3];by_cases c4:q<12
 .rw[au c4];exact dC (h2 _ _) (dC S h)
 rw[ad c4];by_cases c5:q<14
 .rw[au c5];exact dC S h
 rw[ad c5];by_cases c6:q<15
 .rw[au c6];exact dC (Gk f _ _) h
 rw[ad c6];exact h
theorem zA(f:Int):∀(k F:Nat) (s:da),(gE f k F s).2.1.length<=s.1.length
 |0,_,_=>aT _
 |k+1,F,s=>Z6 (fun U s=>dC (zy (zA f k (F+1)) _ _) (nh s.1)) f F s
def vH(k:Int)(nm S:qr)(n:Int)(a v:qm)(j z A:AV):qm:=[.int .i64 k,.ae nm,.ae S,.int .i64 n]++a++v++[j,z,A]
def ni(k:Int)(nm Z:qr)(C:Int){V Y:Ex}{j z A:AV}{al:qz}{O U:qt}(M:cJ S (n+1) H a V.cells)(K:cJ S (n+1) H v Y.cells)(h1:eR S (n+1) H j (.ai (al.map Ex.cells)))(h2:eR S (n+1) H z (.ai (O.map St.cells)))(J:eR S (n+1) H A (.ai (U.map St.cells))):
 cJ S (n+1) H (vH k nm Z C a v j z A) (St.mk k nm Z C V Y al O U).cells:=by
 have e:(St.mk k nm Z C V Y al O U).cells=[.int .i64 k,.ae nm,.ae Z,.int .i64 C]++V.cells++Y.cells++[.ai (al.map Ex.cells),.ai (O.map St.cells),.ai (U.map St.cells)]:=by
  rw[l7,jm,jm];rfl
 rw[e];exact(((cJ.cons (.int _ _) (.cons (.ae _) (.cons (.ae _) (.cons (.int _ _) .nil)))).append M).append K).append (.cons h1 (.cons h2 (.cons J .nil)))
def sB:qm:=[.int .i64 0,.int .i64 0,.ae [],.int .i64 0,.ab]
def lQ:cJ S (n+1) H sB eI.cells:=mr 0 0 0 []
def Z7(nm:qr)(h:v.length=5):cQ prog 78 [(0,.int .i64 1),(1,.ae nm),(5,.agg v)]=some (.agg (vH 1 nm [] 0 sB v .ab .ab .ab)):=by
 obtain⟨a,b,c,d,e,rfl⟩:=dM h;kernel_rfl
def Z8(nm:qr)(h:a.length=5)(k:v.length=5):cQ prog 78 [(0,.int .i64 2),(1,.ae nm),(4,.agg a),(5,.agg v)]=some (.agg (vH 2 nm [] 0 a v .ab .ab .ab)):=by
 obtain⟨a,b,c,d,e,rfl⟩:=dM h;obtain⟨z,b',j,Z,o,rfl⟩:=dM k;kernel_rfl
def Z9(k:Int)(h:v.length=5):cQ prog 78 [(0,.int .i64 k),(5,.agg v)]=some (.agg (vH k [] [] 0 sB v .ab .ab .ab)):=by
 obtain⟨a,b,c,d,e,rfl⟩:=dM h;kernel_rfl
def zaa(nm S:qr):cQ prog 78 [(0,.int .i64 6),(1,.ae nm),(2,.ae S)]=some (.agg (vH 6 nm S 0 sB sB .ab .ab .ab)):=aA
def zab(n:Int):cQ prog 78 [(0,.int .i64 7),(3,.int .i64 n)]=some (.agg (vH 7 [] [] n sB sB .ab .ab .ab)):=aA
def zac(h:cs.length=17):∃c0 c1 c2 c3 c4 c5 c6 c7 U Z Y I J V S C O,cs=[c0,c1,c2,c3,c4,c5,c6,c7,U,Z,Y,I,J,V,S,C,O]:=by
 match cs,h with
 |[c0,c1,c2,c3,c4,c5,c6,c7,U,Z,Y,I,J,V,S,C,O],_=>exact⟨c0,c1,c2,c3,c4,c5,c6,c7,U,Z,Y,I,J,V,S,C,O,rfl⟩
def zad(H:Hp)(h:cs.length=17):dc prog H 67 1 [(0,.agg cs)]=some (.sl H.next 0 1 17,H.alloc (.cells cs 0 true)):=by
 obtain⟨c0,c1,c2,c3,c4,c5,c6,c7,U,Z,Y,I,J,V,S,C,O,rfl⟩:=zac h;kernel_rfl
def zae(z n lo:Nat)(H:Hp)(r:Nat)(ws:List qm)(L:qp)(c:Int)(v:AV)(H':Hp):Prop:=
 dU (fun q=>H.next<=q) n H' z v ws/\hO lo H' r L c/\H.next<=H'.next/\∀q,q<H.next->q≠r->H'.get q=H.get q
def hO.len(h:hO lo H r L c):∃v,H.get r=some (.cells [v,.int .i64 c] 0 true)/\∀H',gj prog H' 26 v=some (.int .i64 L.length):=by
 obtain⟨_,_,v,j,m⟩:=h;refine⟨v,j,fun H'=>?_⟩;rcases m with⟨rfl,rfl⟩|⟨b,F,cs,S,rfl,_⟩
 .exact Eo underlying26 _
 .exact wo underlying26 _ _ _ _
def oA(Z:qu)(k:Nat)(f:Int)(deep:Nat):Prop:=∀(lo:Nat) (H:Hp) (r:Nat) (s:da),hO lo H r s.1 s.2->s.1.length<2^60 ->
 aU prog (aF pls Z) 58 [.ptr r 0,.int .i64 f,.int .i64 deep] H (zx 17 (8+k) lo H r (gE f k deep s).1.cells (gE f k deep s).2.1 (gE f k deep s).2.2)
set_option maxRecDepth 100000 in
theorem zB{lG:qu}(hG:zdj lG){deep:Nat}(hst:oA lG k f deep)(U:Int)(h0:0<=U)(h1:U<=5)(lo:Nat)(H:Hp)(r:Nat)(s:da)(hrd:hO lo H r s.1 s.2)(hL:s.1.length<2^60):
 aU prog (aF pls lG) 33 [.ptr r 0,.int .i64 f,.int .i64 deep,.int .i64 U] H (zae 17 (8+k) lo H r ((lj f k deep U s).1.map St.cells) (lj f k deep U s).2.1 (lj f k deep U s).2.2):=by
 have hw:zc7 (aF pls lG) 33:=hG.plain gB;have hkeep:(aF pls lG).aj 33=false:=rfl;have hnx:zc7 (aF pls lG) 32:=hG.plain gB;have hrl:=hrd.1;have hlo:=hrd.2.1;have hw1:IntKind.wrap .i64 (U+1)=U+1:=k3 aa aa;rw[lj];refine a5 (M:=36) (rs:=[.tmp 8]) (hw.call _) hw.ao hw.am func33 rfl rfl NL.2 rfl ?_;dsimp only[NL,a3,Nat.reduceAdd];repeat' (first
  |(apply ai ?_;clear hK K)|apply Rx.o ?_|(apply aX (fun C Y=>?_) (fun C Y=>?_)<;>try(cases C;done))|(apply aE (fun z V=>?_) (fun z V=>?_)<;>try(cases z;done))|apply ae ?_|(apply ah fun K hK=>?_)|apply aj ?_|apply ak ?_|apply am ?_|apply ax ?_)
 refine qa ?_;refine a4 ?_ (Cw hnx hrd hL);rintro v H2 ⟨rfl,hr2,n2,o2⟩;have hL1:=nh s.1;generalize (bZ s.1).1=n at *;generalize (bZ s.1).2=L1 at *;have hm1:U+1≠0:=aa;have hp:=fb (n:=n) (m:=U+1) aa aa;generalize hc:(aZ n (U+1)).toNat=J at *;have hpc:aZ n (U+1)=(J:Int):=aa;dsimp only[a0];repeat' (first
  |(apply ai ?_;clear hK K)|apply Rx.o ?_|(apply dJ ?_;first|refine aY (iC hG.pick _ _ hm1 _) ?_)|(apply aX (fun C Y=>?_) (fun C Y=>?_)<;>try(cases C;done))|(apply aE (fun z V=>?_) (fun z V=>?_)<;>try(cases z;done))|apply ae ?_|(apply ah fun K hK=>?_)|apply aj ?_|apply ak ?_|apply am ?_|apply ax ?_)
 refine VJ [0,1,2,8] [] (fun i E I=>i<=J/\E.at 10=.int .i64 i/\∃v l Z,E.at 9=v/\dU (fun q=>H.next<=q) (8+k) I 17 v (l.map St.cells)/\hO lo I r Z.1 Z.2/\(∀q,q<H.next->q≠r->I.get q=H.get q)/\l.length+i=J/\Z.1.length<2^60 /\
  gL (gE f k deep) J (L1,s.2)=(l++(gL (gE f k deep) i Z).1,(gL (gE f k deep) i Z).2)) J ⟨aT _,(by first|(simp only[aK,Nat.reduceBEq,hpc, *];done)|rfl),.ab,[],(L1,s.2),eE,.inl ⟨rfl,rfl⟩,hr2,fun q h1 F=>o2 q F,aI,tF,aI⟩ ?_
 rintro i E I hcE hrH hnH ⟨hic,hsI,v,l,Z,k9,S,hr3,o3,hli,hsl,hJ⟩;(try simp only[bL,bK,bb,aK,aW,Nat.reduceBEq,Nat.reduceAdd,Nat.reduceLeDiff,tyF, *]at hcE);obtain⟨lv,hgr,hlen⟩:=hr3.len;have hle:H.next<=I.next:=aa
 repeat' (first
  |(apply ai ?_;clear hK K)|apply Rx.o ?_|(apply aX (fun C Y=>?_) (fun C Y=>?_)<;>try(cases C;done))|(apply aE (fun z V=>?_) (fun z V=>?_)<;>try(cases z;done))|apply ae ?_|(apply ah fun K hK=>?_)|apply aj ?_|apply ak ?_|apply am ?_|apply ax ?_)
 .refine qa ?_;refine a4 ?_ (hst lo I r Z hr3 hsl);rintro v' H4 ⟨⟨cs,rfl,hc1,hc2,hc3⟩,hr4,n4,o4⟩;have kb:=fun H=>zad H hc1;dsimp only[a0];repeat' (first
   |(apply ai ?_;clear hK K)|apply Rx.o ?_|(apply aX (fun C Y=>?_) (fun C Y=>?_)<;>try(cases C;done))|(apply aE (fun z V=>?_) (fun z V=>?_)<;>try(cases z;done))|apply ae ?_|(apply ah fun K hK=>?_)|apply aj ?_|apply ak ?_|apply am ?_|apply ax ?_)
  have hvq:∀q o m A,v=.sl q o m A->H.next<=q/\q<I.next:=fun q o m A e=>by
   rcases S with⟨rfl,_⟩|⟨q',imm,rows,rfl,e1,e2,_⟩
   .cases e
   .simp only[AV.sl.injEq]at e;rw[<-e.1];exact⟨e1,e2⟩
  have O:dU (fun q=>H.next<=q) (8+k) (H4.alloc (.cells cs 0 true)) 17 v (l.map St.cells):=S.aj (fun q _ h=>h) bY fun q h1 F=>by rw[aP,ad aa,o4 q F aa]
  obtain⟨v5,H5,dt,s5,n5,f5,q5⟩:=xc (P:=prog) (t:=67) underlying67 oY r1 uU rfl aA O bY (r:=H4.next) (imm:=0) (row:=cs) (w:=(gE f k deep Z).1.cells) fN hc1 hc2 (hc3.ax (fun q h1 F=>⟨aa,fun o m A e=>by have:=(hvq q o m A e).2;omega⟩) (eT _) fun q h1 F=>fX) CF CF;refine jF dK dK (by rw[hkeep];exact dt) ?_;have hi0:0<i:=aa;obtain⟨i,rfl⟩:∃j,i=j+1:=⟨i-1,aa⟩;have hwd:IntKind.wrap .i64 (((i+1:Nat):Int)-1)=(i:Int):=by rw[k3 aa aa];omega
  simp only[br]at n5 f5;have n5':I.next<=H5.next:=aa
  have o5:∀q,q<H.next->q≠r->H5.get q=H.get q:=fun q h1 F=>by rw[f5 q aa (fun o m A e=>by have:=(hvq q o m A e).1;omega),aP,ad aa,o4 q aa F,o3 q h1 F]
  have hr5:hO lo H5 r (gE f k deep Z).2.1 (gE f k deep Z).2.2:=hr4.aj aa fun q hq=>by rw[f5 q aa (fun o m A e=>by have:=(hvq q o m A e).1;omega),aP,ad aa]
  clear n5 f5 dt O o4 hr4;repeat' (first
   |(apply ai ?_;clear hK K)|apply Rx.o ?_|(apply aX (fun C Y=>?_) (fun C Y=>?_)<;>try(cases C;done))|(apply aE (fun z V=>?_) (fun z V=>?_)<;>try(cases z;done))|apply ae ?_|(apply ah fun K hK=>?_)|apply aj ?_|apply ak ?_|apply am ?_|apply ax ?_)
  have hne:Z.1≠[]:=by
   intro e;have:Z.1.length=0:=by rw[e];rfl
   omega
  have hsd:=zA f k deep Z;refine⟨(by simp only[bL,bK,bb,aK,aW,Nat.reduceBEq,Nat.reduceAdd,Nat.reduceLeDiff,tyF, *]),(by simp only[bK]),aa,i,dq _,aa,eE,v5,l++[(gE f k deep Z).1],(gE f k deep Z).2,eE,by rw[kT];exact s5,hr5,o5,ce,aa,?_⟩;rw[hJ,gL,ad hne];simp
 all_goals
  all_goals refine qq ?_
  have hfin:gL (gE f k deep) i Z=([],Z):=by
   rcases(by omega:i=0\/Z.1.length=0)with h|h
   .rw[h];rfl
   .cases i with
    |zero=>rfl
    |succ i=>rw[gL,au (AH h)]
  rw[hJ,hfin];exact⟨by rw[iS];exact S,hr3,hle,o3⟩
end
section
def NM:cn prog 78=some (vH 0 [] [] 0 sB sB .ab .ab .ab):=aA
theorem tZ(h:0<=m):[AV.ae [102],AV.ae [103]][(m.tmod 2).toNat]?=some (.ae (j8 m)):=by
 rw[Gi h,j8];split<;>rfl
def zaf{P:Program}{cfg:Cfg}{f N:Nat}{a:SC}{E:aD}{Q:AX->aD->Hp->Prop}(F:aD->Hp->Prop)(h1:bN P cfg f N a E H fun x E' H'=>x=.normal/\F E' H')(h2:∀E' H',F E' H'->Q .normal E' H'):bN P cfg f N a E H Q:=
 yF (fun x E' H' h=>by obtain⟨rfl,h⟩:=h;exact h2 E' H' h) h1
def hO.f8(h:hO lo H r L c):∃v,H.get r=some (.cells [v,.int .i64 c] 0 true)/\∀j,hO lo (H.set r (.cells [v,.int .i64 j] 0 true)) r L j:=by
 obtain⟨I,F,v,Y,m⟩:=h;refine⟨v,Y,fun j=>⟨I,F,v,iG,?_⟩⟩;rcases m with m|⟨b,Z,cs,S,o,K,V,O,M⟩
 .exact .inl m
 .exact .inr ⟨b,Z,cs,S,o,by rw[aO,ad O];exact K,V,O,M⟩
theorem zag(nm:qr)(C A Z Y V:AV):cQ prog 78 [(0,.int .i64 1),(1,.ae nm),(5,.agg [C,A,Z,Y,V])]=some (.agg [.int .i64 1,.ae nm,.ae [],.int .i64 0,.int .i64 0,.int .i64 0,.ae [],.int .i64 0,.ab,C,A,Z,Y,V,.ab,.ab,.ab]):=Z7 nm rfl
theorem Gl(nm:qr)(gM b7 ci bX bQ C A Z Y V:AV):cQ prog 78 [(0,.int .i64 2),(1,.ae nm),(4,.agg [gM,b7,ci,bX,bQ]),(5,.agg [C,A,Z,Y,V])]=some (.agg [.int .i64 2,.ae nm,.ae [],.int .i64 0,gM,b7,ci,bX,bQ,C,A,Z,Y,V,.ab,.ab,.ab]):=Z8 nm rfl rfl
theorem vI(k:Int)(C A Z Y V:AV):cQ prog 78 [(0,.int .i64 k),(5,.agg [C,A,Z,Y,V])]=some (.agg [.int .i64 k,.ae [],.ae [],.int .i64 0,.int .i64 0,.int .i64 0,.ae [],.int .i64 0,.ab,C,A,Z,Y,V,.ab,.ab,.ab]):=Z9 k rfl
def zah(nm S:qr):cQ prog 78 [(0,.int .i64 6),(1,.ae nm),(2,.ae S)]=some (.agg [.int .i64 6,.ae nm,.ae S,.int .i64 0,.int .i64 0,.int .i64 0,.ae [],.int .i64 0,.ab,.int .i64 0,.int .i64 0,.ae [],.int .i64 0,.ab,.ab,.ab,.ab]):=zaa nm S
def NN(n:Int):cQ prog 78 [(0,.int .i64 7),(3,.int .i64 n)]=some (.agg [.int .i64 7,.ae [],.ae [],.int .i64 n,.int .i64 0,.int .i64 0,.ae [],.int .i64 0,.ab,.int .i64 0,.int .i64 0,.ae [],.int .i64 0,.ab,.ab,.ab,.ab]):=zab n
theorem sC(c0 c1 c2 c3 c4 c5 c6 c7 U Z Y I J V S C O:AV):cH 17 [c0,c1,c2,c3,c4,c5,c6,c7,U,Z,Y,I,J,V,S,C,O]=some (.agg [c0,c1,c2,c3,c4,c5,c6,c7,U,Z,Y,I,J,V,S,C,O]):=rfl
def NO:cn prog 78=some [.int .i64 0,.ae [],.ae [],.int .i64 0,.int .i64 0,.int .i64 0,.ae [],.int .i64 0,.ab,.int .i64 0,.int .i64 0,.ae [],.int .i64 0,.ab,.ab,.ab,.ab]:=aA
def ij{a c d e:AV}(h:[a,b,c,d,e].all AV.one=true):AV.one a=true/\AV.one b=true/\AV.one c=true/\AV.one d=true/\AV.one e=true:=by
 simp only[r4,pY,jl,cN]at h;exact⟨h.1,h.2.1,h.2.2.1,h.2.2.2.1,h.2.2.2.2⟩
def vJ{m:Hp}{x:St}(K:cs.length=17)(V:cs.all AV.one=true)(Z:cJ (fun q=>H.next<=q) n m cs x.cells)(hr:hO lo m r L c)(I:H.next<=m.next)(M:∀q,q<H.next->q≠r->m.get q=H.get q):zx 17 n lo H r x.cells L c (.agg cs) m:=⟨⟨cs,rfl,K,V,Z⟩,hr,I,M⟩
def fC:SC->SC
 | .seq _ b=>b
 |x=>x
noncomputable def mz:SC:=fC (fC (fC (fC (fC (fC rz.1)))))
noncomputable def rA(f:Int)(k deep:Nat):Int->da->qt×da:=fun U s=>gL (gE f k (deep+1)) (aZ (bZ s.1).1 (U+1)).toNat ((bZ s.1).2,s.2)
abbrev qd:HB:=.cells [.int .i64 0,.ae [],.ae [],.int .i64 0,.int .i64 0,.int .i64 0,.ae [],.int .i64 0,.ab,.int .i64 0,.int .i64 0,.ae [],.int .i64 0,.ab,.ab,.ab,.ab] 0 true
structure AtT (f:Int) (deep lo:Nat) (H H2:Hp) (r:Nat) (L1:qp) (c q m:Int) (E2:aD):Prop where
 hd:deep<=3
 hrl:r<lo
 cU:lo<=H.next
 n2:H2.next=H.next+1
 g2:H2.get H.next=some qd
 o2:∀q,q<H.next->q≠r->H2.get q=H.get q
 hr2:hO lo H2 r L1 c
 hL:L1.length<2^60
 hm:0<=m/\m<1000
 hqd:8<=q->q<12->deep<=2
 k0:E2.at 0=.ptr r 0
 k1:E2.at 1=.int .i64 f
 k2:E2.at 2=.int .i64 deep
 k6:E2.at 6=.ptr H.next 0
 k8:E2.at 8=cD (co f)
 k9:E2.at 9=.int .i64 m
 k10:E2.at 10=.int .i64 q
def mA(k:Nat)(f:Int)(deep lo:Nat)(H:Hp)(r:Nat)(j:qp)(c q m:Int):AX->aD->Hp->Prop:=fun x E' H'=>(x=.normal\/x=.ret)/\∃vs,bU prog E' H' [.cell 6 78]=some vs/\zx 17 (8+(k+1)) lo H r (gD (rA f k deep) f j c q m).1.cells (gD (rA f k deep) f j c q m).2.1 (gD (rA f k deep) f j c q m).2.2 (aB vs) H'
def tyG5a.tyF:=ac @cI (ac @cY (ac @pQ (ac @dW (ac @dR (ac @dX (ac @dy (ac @eD (ac @wt (ac @A9 (ac @NN (ac @sC (ac @zh (ac @zag (ac @Gl (@vI)))))))))))))))
open tyG5a
set_option maxRecDepth 100000 in
theorem zai(hG:zdj Z){deep:Nat}(hst:deep<=2->oA Z k f (deep+1))(U:AtT f deep lo H H2 r j c q m E2) (hp0:q<6):bN prog (aF pls Z) 58 156 mz E2 H2 (mA k f deep lo H r j c q m):=by
 obtain⟨hd,hrl,hlo,n2,g2,z,I,hL1,M,hqd,k0,k1,k2,k6,k8,k9,k10⟩:=U;have F:(aF pls Z).aj 58=false:=rfl;have hq2:(2:Int)≠0:=cy;have A:((co f).length:Int)≠0:=by rcases su f with h|h<;>rw[h]<;>decide
 obtain⟨hi0,hix⟩:=ry (co f) A M.1 [];have hxs:=sy M.1;have hxa:=sA M.1;have hxf:=tZ M.1;have er:(H.next == r)=false:=ay aa;have e41:=eN f 4 1 j;have e50:=eN f 5 0 j;have e32:=eN f 3 2 j;have hwd:IntKind.wrap .i64 ((deep:Int)+1)=((deep+1:Nat):Int):=ft aa;unfold mA;generalize o:gD (rA f k deep) f j c q m=R;rw[gD]at o;dsimp only[mz,fC,rz];repeat' (first
  |(apply ai ?_;clear hK K)|apply Ry.o ?_|(apply a2 (fun hb V=>?_) (fun hb V=>?_)<;>try(cases hb;done))|apply ae ?_|(apply ah fun K hK=>?_)|(apply aq 8 [(3,9),(3,11),(6,9),(6,11)] fun K hK=>?_)|(apply aq 10 [(0,7),(0,10),(0,12),(4,7),(4,10),(4,12)] fun K hK=>?_)|(apply aq 24 [(3,14),(6,14),(7,14),(11,14),(13,14)] fun K hK=>?_)|(apply aq 28 [(1,4),(1,6),(5,6)] fun K hK=>?_)|(apply aM ?_;try intro _)|(apply aR ?_ ?_<;>clear hK K)|apply aL ?_|apply bu rfl ?_|apply aj ?_|apply am ?_)
 refine qa ?_;refine a4 ?_ (li hG 5 f 0 aa aa lo _ r j c I aa);rintro v H4 ⟨⟨cs,rfl,O,S,C⟩,J,n4,o4⟩;obtain⟨v0,v1,v2,v3,v4,rfl⟩:=dM O;obtain⟨w0,ct,w2,w3,w4⟩:=ij S;have g4:H4.get H.next=some qd:=by rw[o4 _ aa aa];exact g2
 dsimp only[a0];repeat' (first
  |(apply ai ?_;clear hK K)|apply Rx.o ?_|apply aN ?_|apply ae ?_|(apply ah fun K hK=>?_)|(apply aq 8 [(3,9),(3,11),(6,9),(6,11)] fun K hK=>?_)|(apply aq 10 [(0,7),(0,10),(0,12),(4,7),(4,10),(4,12)] fun K hK=>?_)|(apply aq 24 [(3,14),(6,14),(7,14),(11,14),(13,14)] fun K hK=>?_)|(apply aq 28 [(1,4),(1,6),(5,6)] fun K hK=>?_)|(apply aM ?_;try intro _)|(apply aR ?_ ?_<;>clear hK K)|apply aL ?_|apply bu rfl ?_|apply aj ?_|apply am ?_)
 .exact di
 .refine⟨aC,_,(by(try simp only[aK,aW,Nat.reduceBEq,Nat.reduceAdd,Nat.reduceLeDiff,tyF,bU,cc,sC, *]);first|done|with_reducible rfl),?_⟩;try simp only[aB]
  rw[au aa]at o;subst o;refine vJ rfl Ny (ni (n:=8+k) 1 _ [] 0 lQ ((C.up aa).ax (fun q _ hq=>aa) iE fun q h1 Y=>jZ) .ab .ab .ab) ?_ ?_ ?_
  .exact J.aj iE fun q hq=>jZ
  .simp only[bG];omega
  .intro q h1 Y;rw[aO,ad aa,o4 _ aa Y];exact z q h1 Y
set_option maxRecDepth 100000 in
theorem zaj{V:qu}(hG:zdj V){deep:Nat}(hst:deep<=2->oA V k f (deep+1))(O:AtT f deep lo H H2 r j c q m E2)(hn0:¬q<6)(hp0:q<8):bN prog (aF pls V) 58 156 mz E2 H2 (mA k f deep lo H r j c q m):=by
 obtain⟨hd,hrl,hlo,n2,g2,o2',hr2,hL1,M,hqd,k0,k1,k2,k6,k8,k9,k10⟩:=O;have hkeep:(aF pls V).aj 58=false:=rfl;have hq2:(2:Int)≠0:=cy;have A:((co f).length:Int)≠0:=by rcases su f with h|h<;>rw[h]<;>decide
 obtain⟨hi0,hix⟩:=ry (co f) A M.1 [];have hxs:=sy M.1;have hxa:=sA M.1;have hxf:=tZ M.1;have er:(H.next == r)=false:=ay aa;have e41:=eN f 4 1 j;have e50:=eN f 5 0 j;have e32:=eN f 3 2 j;have hwd:IntKind.wrap .i64 ((deep:Int)+1)=((deep+1:Nat):Int):=ft aa;unfold mA;generalize hR:gD (rA f k deep) f j c q m=R;rw[gD]at hR;dsimp only[mz,fC,rz];repeat' (first
  |(apply ai ?_;clear hK K)|apply Ry.o ?_|(apply a2 (fun hb J=>?_) (fun hb J=>?_)<;>try(cases hb;done))|apply ae ?_|(apply ah fun K hK=>?_)|(apply aq 8 [(3,9),(3,11),(6,9),(6,11)] fun K hK=>?_)|(apply aq 10 [(0,7),(0,10),(0,12),(4,7),(4,10),(4,12)] fun K hK=>?_)|(apply aq 24 [(3,14),(6,14),(7,14),(11,14),(13,14)] fun K hK=>?_)|(apply aq 28 [(1,4),(1,6),(5,6)] fun K hK=>?_)|(apply aM ?_;try intro _)|(apply aR ?_ ?_<;>clear hK K)|apply aL ?_|apply bu rfl ?_|apply aj ?_|apply am ?_)
 refine qa ?_;refine a4 ?_ (li hG 3 f 2 aa aa lo _ r j c (hr2.aj (eT _) fun q F=>fX) aa);rintro v H4 ⟨⟨al,rfl,C,z,Y⟩,o,n4,U⟩;simp only[br]at n4 U Y;obtain⟨gM,b7,ci,bX,bQ,rfl⟩:=dM C;obtain⟨u0,u1,u2,u3,u4⟩:=ij z;have g4s:H4.get (H.next+1)=some qk:=by rw[U _ aa aa,aP,au aa]
 dsimp only[a0];repeat' (first
  |(apply ai ?_;clear hK K)|apply Rx.o ?_|apply aN ?_|apply ae ?_|(apply ah fun K hK=>?_)|(apply aq 8 [(3,9),(3,11),(6,9),(6,11)] fun K hK=>?_)|(apply aq 10 [(0,7),(0,10),(0,12),(4,7),(4,10),(4,12)] fun K hK=>?_)|(apply aq 24 [(3,14),(6,14),(7,14),(11,14),(13,14)] fun K hK=>?_)|(apply aq 28 [(1,4),(1,6),(5,6)] fun K hK=>?_)|(apply aM ?_;try intro _)|(apply aR ?_ ?_<;>clear hK K)|apply aL ?_|apply bu rfl ?_|apply aj ?_|apply am ?_)
 refine qa ?_;refine a4 ?_ (li hG 4 f 1 aa aa lo H4 r _ c o aa);rintro v H5 ⟨⟨cs,rfl,hc1,hc2,hc3⟩,hr5,n5,S⟩;obtain⟨v0,v1,v2,v3,v4,rfl⟩:=dM hc1;obtain⟨w0,ct,w2,w3,w4⟩:=ij hc2;have g5s:H5.get (H.next+1)=some qk:=by rw[S _ aa aa];exact g4s
 have g5:H5.get H.next=some qd:=by rw[S _ aa aa,U _ aa aa,aP,ad aa];exact g2
 dsimp only[a0];repeat' (first
  |(apply ai ?_;clear hK K)|apply Rx.o ?_|apply aN ?_|apply ae ?_|(apply ah fun K hK=>?_)|(apply aq 8 [(3,9),(3,11),(6,9),(6,11)] fun K hK=>?_)|(apply aq 10 [(0,7),(0,10),(0,12),(4,7),(4,10),(4,12)] fun K hK=>?_)|(apply aq 24 [(3,14),(6,14),(7,14),(11,14),(13,14)] fun K hK=>?_)|(apply aq 28 [(1,4),(1,6),(5,6)] fun K hK=>?_)|(apply aM ?_;try intro _)|(apply aR ?_ ?_<;>clear hK K)|apply aL ?_|apply bu rfl ?_|apply aj ?_|apply am ?_)
 .exact di
 .refine⟨aC,_,(by(try simp only[aK,aW,Nat.reduceBEq,Nat.reduceAdd,Nat.reduceLeDiff,tyF,bU,cc,sC, *]);first|done|with_reducible rfl),?_⟩;try simp only[aB]
  rw[ad aa,au aa]at hR;subst hR;refine vJ rfl (by simp only[r4,pY,u0,u1,u2,u3,u4,w0,ct,w2,w3,w4,jl];rfl) (ni (n:=8+k) 2 _ [] 0 ((Y.up aa).ax (fun q _ F=>aa) iE fun q I Z=>by rw[aO,ad aa,S _ aa aa]) ((hc3.up aa).ax (fun q _ F=>aa) iE fun q I Z=>jZ) .ab .ab .ab) ?_ ?_ ?_
  .exact hr5.aj iE fun q F=>jZ
  .simp only[bG];omega
  .intro q I Z;rw[aO,ad aa,S _ aa Z,U _ aa Z,aP,ad aa];exact o2' q I Z
set_option maxRecDepth 100000 in
theorem zak(hG:zdj Z){deep:Nat}(hst:deep<=2->oA Z k f (deep+1))(U:AtT f deep lo H H2 r j c q m E2)(hn0:¬q<6)(hn1:¬q<8)(hn2:¬q<10)(hn3:¬q<12)(hp0:q<14):bN prog (aF pls Z) 58 156 mz E2 H2 (mA k f deep lo H r j c q m):=by
 obtain⟨hd,hrl,hlo,n2,g2,z,I,hL1,M,hqd,k0,k1,k2,k6,k8,k9,k10⟩:=U;have F:(aF pls Z).aj 58=false:=rfl;have hq2:(2:Int)≠0:=cy;have A:((co f).length:Int)≠0:=by rcases su f with h|h<;>rw[h]<;>decide
 obtain⟨hi0,hix⟩:=ry (co f) A M.1 [];have hxs:=sy M.1;have hxa:=sA M.1;have hxf:=tZ M.1;have er:(H.next == r)=false:=ay aa;have e41:=eN f 4 1 j;have e50:=eN f 5 0 j;have e32:=eN f 3 2 j;have hwd:IntKind.wrap .i64 ((deep:Int)+1)=((deep+1:Nat):Int):=ft aa;unfold mA;generalize o:gD (rA f k deep) f j c q m=R;rw[gD]at o;dsimp only[mz,fC,rz];repeat' (first
  |(apply ai ?_;clear hK K)|apply Ry.o ?_|(apply a2 (fun hb V=>?_) (fun hb V=>?_)<;>try(cases hb;done))|apply ae ?_|(apply ah fun K hK=>?_)|apply aj ?_|apply am ?_)
 refine qa ?_;refine a4 ?_ (li hG 4 f 1 aa aa lo _ r j c I aa);rintro v H4 ⟨⟨cs,rfl,O,S,C⟩,J,n4,o4⟩;obtain⟨v0,v1,v2,v3,v4,rfl⟩:=dM O;obtain⟨w0,ct,w2,w3,w4⟩:=ij S;have g4:H4.get H.next=some qd:=by rw[o4 _ aa aa];exact g2
 dsimp only[a0];repeat' (first
  |(apply ai ?_;clear hK K)|apply Rx.o ?_|apply aN ?_|apply ae ?_|(apply ah fun K hK=>?_)|apply aj ?_|apply am ?_)
 refine⟨aC,_,(by(try simp only[aK,aW,Nat.reduceBEq,Nat.reduceAdd,Nat.reduceLeDiff,tyF,bU,cc,sC, *]);first|done|with_reducible rfl),?_⟩;try simp only[aB]
 rw[ad aa,ad aa,ad aa,ad aa,au aa]at o;subst o;refine vJ rfl Ny (ni (n:=8+k) 5 [] [] 0 lQ ((C.up aa).ax (fun q _ hq=>aa) iE fun q h1 Y=>jZ) .ab .ab .ab) ?_ ?_ ?_
 .exact J.aj iE fun q hq=>jZ
 .simp only[bG];omega
 .intro q h1 Y;rw[aO,ad aa,o4 _ aa Y];exact z q h1 Y
set_option maxRecDepth 100000 in
theorem zal(hG:zdj Z){deep:Nat}{J:Hp}{I:aD}(C:deep<=2->oA Z k f (deep+1))(U:AtT f deep lo H J r j c q m I)(o:¬q<6)(hn1:¬q<8)(hn2:¬q<10)(hn3:¬q<12)(hn4:¬q<14)(hn5:¬q<15) : bN prog (aF pls Z) 58 156 mz I J (mA k f deep lo H r j c q m):=by
 obtain⟨hd,hrl,hlo,n2,g2,z,Y,hL1,M,hqd,k0,k1,k2,k6,k8,k9,k10⟩:=U;have O:(aF pls Z).aj 58=false:=rfl;have hq2:(2:Int)≠0:=cy;have A:((co f).length:Int)≠0:=by rcases su f with h|h<;>rw[h]<;>decide
 obtain⟨hi0,hix⟩:=ry (co f) A M.1 [];have hxs:=sy M.1;have hxa:=sA M.1;have hxf:=tZ M.1;have er:(H.next == r)=false:=ay aa;have e41:=eN f 4 1 j;have e50:=eN f 5 0 j;have e32:=eN f 3 2 j;have hwd:IntKind.wrap .i64 ((deep:Int)+1)=((deep+1:Nat):Int):=ft aa;unfold mA;generalize S:gD (rA f k deep) f j c q m=R;rw[gD]at S;dsimp only[mz,fC,rz];repeat' (first
  |(apply ai ?_;clear hK K)|apply Ry.o ?_|apply bP ?_|(apply a2 (fun F V=>?_) (fun F V=>?_)<;>try(cases F;done))|apply ae ?_|(apply ah fun K hK=>?_)|apply aj ?_|apply ak ?_|apply am ?_)
 refine⟨aC,_,(by(try simp only[aK,aW,Nat.reduceBEq,Nat.reduceAdd,Nat.reduceLeDiff,tyF,bU,cc,sC, *]);first|done|with_reducible rfl),?_⟩;try simp only[aB]
 rw[ad aa,ad aa,ad aa,ad aa,ad aa,ad aa]at S;subst S;refine vJ rfl rfl (ni (n:=8+k) 7 [] [] _ lQ lQ .ab .ab .ab) ?_ ?_ ?_
 .exact Y.aj iE fun q hq=>jZ
 .simp only[bG];omega
 .intro q h1 h2;rw[aO,ad aa];exact z q h1 h2
end
section
def tyG5b.tyF:=ac @cI (ac @cY (ac @pQ (ac @dW (ac @dR (ac @dX (ac @dy (ac @eD (ac @wt (ac @A9 (ac @NN (ac @sC (ac @zh (ac @vI (ac @NO (@zah)))))))))))))))
open tyG5b
set_option maxRecDepth 100000 in
theorem zam{lG:qu}(hG:zdj lG){deep:Nat}(z:deep<=2->oA lG k f (deep+1))(hat:AtT f deep lo H H2 r j c q m E2)(hn0:¬q<6)(hn1:¬q<8)(hp0:q<10):bN prog (aF pls lG) 58 156 mz E2 H2 (mA k f deep lo H r j c q m):=by
 obtain⟨hd,hrl,hlo,n2,g2,o2',hr2,hL1,hm,hqd,k0,k1,k2,k6,k8,k9,k10⟩:=hat;have hkeep:(aF pls lG).aj 58=false:=rfl;have hq2:(2:Int)≠0:=cy;have A:((co f).length:Int)≠0:=by rcases su f with h|h<;>rw[h]<;>decide
 obtain⟨hi0,hix⟩:=ry (co f) A hm.1 [];have hxs:=sy hm.1;have hxa:=sA hm.1;have hxf:=tZ hm.1;have er:(H.next == r)=false:=ay aa;have e41:=eN f 4 1 j;have e50:=eN f 5 0 j;have e32:=eN f 3 2 j;have hwd:IntKind.wrap .i64 ((deep:Int)+1)=((deep+1:Nat):Int):=ft aa;unfold mA;generalize hR:gD (rA f k deep) f j c q m=R;rw[gD]at hR;dsimp only[mz,fC,rz];repeat' (first
  |(apply ai ?_;clear hK K)|apply Ry.o ?_|(apply a2 (fun hb hbp=>?_) (fun hb hbp=>?_)<;>try(cases hb;done))|apply ae ?_|(apply ah fun K hK=>?_)|apply aj ?_|apply am ?_)
 refine qa ?_;refine a4 ?_ (li hG 4 f 1 aa aa lo _ r j c hr2 aa);rintro v Y ⟨⟨cs,rfl,hc1,hc2,hc3⟩,hr4,n4,o4⟩;obtain⟨v0,v1,v2,v3,v4,rfl⟩:=dM hc1;obtain⟨w0,ct,w2,w3,w4⟩:=ij hc2;dsimp only[a0];repeat' (first
  |(apply ai ?_;clear hK K)|apply Rx.o ?_|apply aN ?_|apply ae ?_|(apply ah fun K hK=>?_)|apply aj ?_|apply am ?_)
 generalize U:Hp.set (Hp.alloc Y _) Y.next _=Ha
 have na:Ha.next=Y.next+1:=by rw[<-U];rfl
 have oa:∀q,q<Y.next->Ha.get q=Y.get q:=fun q S=>by rw[<-U,aO,ad aa,aP,ad aa]
 have ga:Ha.get Y.next=some (.cells [.int .i64 3,.ae [],.ae [],.int .i64 0,.int .i64 0,.int .i64 0,.ae [],.int .i64 0,.ab,v0,v1,v2,v3,v4,.ab,.ab,.ab] 0 true):=by rw[<-U,aO,au rfl]
 clear U;refine qa ?_;refine a4 ?_ (zB hG (z aa) 3 aa aa lo Ha r ((bO f 4 1 j).2,c) (hr4.aj aa fun q S=>oa q aa) tF);rintro M I ⟨V,hr5,n5,o5⟩;have hl5:(lj f k (deep+1) 3 ((bO f 4 1 j).2,c)).2.1.length<=(bO f 4 1 j).2.length:=dC (zy (zA f k (deep+1)) _ _) (nh _);obtain⟨t1,t2⟩:=V.one;have g5:I.get Y.next=some (.cells [.int .i64 3,.ae [],.ae [],.int .i64 0,.int .i64 0,.int .i64 0,.ae [],.int .i64 0,.ab,v0,v1,v2,v3,v4,.ab,.ab,.ab] 0 true):=by rw[o5 _ aa aa];exact ga
 dsimp only[a0];repeat' (first
  |(apply ai ?_;clear hK K)|apply Rx.o ?_|apply aN ?_|apply ae ?_|(apply ah fun K hK=>?_)|apply aj ?_|apply am ?_)
 generalize J:Hp.set I Y.next _=Hb
 have nb:Hb.next=I.next:=tM
 have ob:∀q,q≠Y.next->Hb.get q=I.get q:=fun q S=>by rw[<-J,aO,ad S]
 have gb:Hb.get Y.next=some (.cells [.int .i64 3,.ae [],.ae [],.int .i64 0,.int .i64 0,.int .i64 0,.ae [],.int .i64 0,.ab,v0,v1,v2,v3,v4,.ab,M,.ab] 0 true):=by rw[<-J,aO,au rfl]
 clear J;refine qa ?_;refine a4 ?_ (zB hG (z aa) 2 aa aa lo Hb r (lj f k (deep+1) 3 ((bO f 4 1 j).2,c)).2 (hr5.aj aa fun q S=>ob q aa) aa);rintro uv C ⟨F,hr6,n6,o⟩;obtain⟨p1,p2⟩:=F.one;have g6t:C.get Y.next=some (.cells [.int .i64 3,.ae [],.ae [],.int .i64 0,.int .i64 0,.int .i64 0,.ae [],.int .i64 0,.ab,v0,v1,v2,v3,v4,.ab,M,.ab] 0 true):=by rw[o _ aa aa];exact gb
 have g6:C.get H.next=some qd:=by rw[o _ aa aa,ob _ aa,o5 _ aa aa,oa _ aa,o4 _ aa aa];exact g2
 have e46:(H.next == Y.next)=false:=ay aa;have e64:(Y.next == H.next)=false:=ay aa;dsimp only[a0];repeat' (first
  |(apply ai ?_;clear hK K)|apply Rx.o ?_|apply aN ?_|apply ae ?_|(apply ah fun K hK=>?_)|apply aj ?_|apply am ?_)
 refine⟨aC,_,(by(try simp only[aK,aW,Nat.reduceBEq,Nat.reduceAdd,Nat.reduceLeDiff,tyF,bU,cc,sC, *]);first|done|with_reducible rfl),?_⟩;try simp only[aB]
 rw[ad aa,ad aa,au aa]at hR;subst hR;have hk6:∀q,Hb.next<=q->q<C.next->((C.set Y.next (.cells [.int .i64 3,.ae [],.ae [],.int .i64 0,.int .i64 0,.int .i64 0,.ae [],.int .i64 0,.ab,v0,v1,v2,v3,v4,.ab,M,uv] 0 true)).set H.next (.cells [.int .i64 3,.ae [],.ae [],.int .i64 0,.int .i64 0,.int .i64 0,.ae [],.int .i64 0,.ab,v0,v1,v2,v3,v4,.ab,M,uv] 0 true)).get q=C.get q:=fun q O Z=>tY
 have hk5:∀q,Ha.next<=q->q<I.next->((C.set Y.next (.cells [.int .i64 3,.ae [],.ae [],.int .i64 0,.int .i64 0,.int .i64 0,.ae [],.int .i64 0,.ab,v0,v1,v2,v3,v4,.ab,M,uv] 0 true)).set H.next (.cells [.int .i64 3,.ae [],.ae [],.int .i64 0,.int .i64 0,.int .i64 0,.ae [],.int .i64 0,.ab,v0,v1,v2,v3,v4,.ab,M,uv] 0 true)).get q=I.get q:=fun q O Z=>by rw[aO,ad aa,aO,ad aa,o _ aa aa,ob _ aa]
 refine vJ rfl (by simp only[r4,pY,w0,ct,w2,w3,w4,t1,p1,jl];rfl) (ni (n:=8+k) 3 [] [] 0 lQ ((hc3.up aa).ax (fun q _ S=>aa) iE fun q O Z=>by rw[aO,ad aa,aO,ad aa,o _ aa aa,ob _ aa,o5 _ aa aa,oa _ aa]) .ab (V.aj (fun q _ S=>aa) iE fun q O Z=>hk5 q O Z).rd (F.aj (fun q _ S=>aa) iE fun q O Z=>hk6 q O Z).rd) ?_ ?_ ?_
 .exact hr6.aj iE fun q S=>tY
 .simp only[bG];omega
 .intro q O Z;rw[aO,ad aa,aO,ad aa,o _ aa Z,ob _ aa,o5 _ aa Z,oa _ aa,o4 _ aa Z];exact o2' q O Z
set_option maxRecDepth 100000 in
theorem zan{z:qu}(hG:zdj z){deep:Nat}(hst:deep<=2->oA z k f (deep+1))(hat:AtT f deep lo H H2 r j c q m E2)(hn0:¬q<6)(hn1:¬q<8)(hn2:¬q<10)(hp0:q<12):bN prog (aF pls z) 58 156 mz E2 H2 (mA k f deep lo H r j c q m):=by
 obtain⟨hd,hrl,hlo,n2,g2,o2',hr2,hL1,hm,hqd,k0,k1,k2,k6,k8,k9,k10⟩:=hat;have hkeep:(aF pls z).aj 58=false:=rfl;have hq2:(2:Int)≠0:=cy;have A:((co f).length:Int)≠0:=by rcases su f with h|h<;>rw[h]<;>decide
 obtain⟨hi0,hix⟩:=ry (co f) A hm.1 [];have hxs:=sy hm.1;have hxa:=sA hm.1;have hxf:=tZ hm.1;have er:(H.next == r)=false:=ay aa;have e41:=eN f 4 1 j;have e50:=eN f 5 0 j;have e32:=eN f 3 2 j;have hwd:IntKind.wrap .i64 ((deep:Int)+1)=((deep+1:Nat):Int):=ft aa;unfold mA;generalize hR:gD (rA f k deep) f j c q m=R;rw[gD]at hR;dsimp only[mz,fC,rz];repeat' (first
  |(apply ai ?_;clear hK K)|apply Ry.o ?_|(apply a2 (fun hb hbp=>?_) (fun hb hbp=>?_)<;>try(cases hb;done))|apply ae ?_|(apply ah fun K hK=>?_)|apply aj ?_|apply am ?_)
 obtain⟨lv,hg,J⟩:=hr2.f8;have hcw:IntKind.wrap .i64 (c+1)=bA (c+1):=rfl;repeat' (first
  |(apply ai ?_;clear hK K)|apply Rx.o ?_|apply aN ?_|apply ae ?_|(apply ah fun K hK=>?_)|apply aj ?_|apply am ?_)
 generalize M:Hp.set _ r _=I;have nt:I.next=H.next+1:=by rw[<-M];simpa using n2
 have ot:∀q,q≠r->I.get q=_:=fun q U=>by rw[<-M,aO,ad U]
 have hrt:hO lo I r j (bA (c+1)):=by rw[<-M];exact J _
 have gt:I.get H.next=some qd:=by rw[ot _ aa];exact g2
 clear M;refine qa ?_;refine a4 ?_ (li hG 4 f 1 aa aa lo I r j _ hrt aa);rintro v Y ⟨⟨cs,rfl,hc1,hc2,hc3⟩,hr4,n4,o4⟩;obtain⟨v0,v1,v2,v3,v4,rfl⟩:=dM hc1;obtain⟨w0,ct,w2,w3,w4⟩:=ij hc2;dsimp only[a0];repeat' (first
  |(apply ai ?_;clear hK K)|apply Rx.o ?_|apply aN ?_|apply ae ?_|(apply ah fun K hK=>?_)|apply aj ?_|apply am ?_)
 generalize F:Hp.set (Hp.alloc Y _) Y.next _=C
 have na:C.next=Y.next+1:=zw
 have oa:∀q,q<Y.next->C.get q=Y.get q:=fun q U=>by rw[<-F,aO,ad aa,aP,ad aa]
 have ga:C.get Y.next=some (.cells [.int .i64 4,.ae [],.ae [],.int .i64 0,.int .i64 0,.int .i64 0,.ae [],.int .i64 0,.ab,v0,v1,v2,v3,v4,.ab,.ab,.ab] 0 true):=xa
 clear F;refine qa ?_;refine a4 ?_ (zB hG (hst aa) 3 aa aa lo C r ((bO f 4 1 j).2,bA (c+1)) (hr4.aj aa fun q U=>oa q aa) tF);rintro tv O ⟨Z,hr5,n5,o⟩;obtain⟨t1,t2⟩:=Z.one;have g5:O.get Y.next=some (.cells [.int .i64 4,.ae [],.ae [],.int .i64 0,.int .i64 0,.int .i64 0,.ae [],.int .i64 0,.ab,v0,v1,v2,v3,v4,.ab,.ab,.ab] 0 true):=by rw[o _ aa aa];exact ga
 have g6:O.get H.next=some qd:=by rw[o _ aa aa,oa _ aa,o4 _ aa aa];exact gt
 have e46:(H.next == Y.next)=false:=ay aa;have e64:(Y.next == H.next)=false:=ay aa;dsimp only[a0];repeat' (first
  |(apply ai ?_;clear hK K)|apply Rx.o ?_|apply aN ?_|apply ae ?_|(apply ah fun K hK=>?_)|apply aj ?_|apply am ?_)
 refine⟨aC,_,(by(try simp only[aK,aW,Nat.reduceBEq,Nat.reduceAdd,Nat.reduceLeDiff,tyF,bU,cc,sC, *]);first|done|with_reducible rfl),?_⟩;try simp only[aB]
 rw[ad aa,ad aa,ad aa,au aa]at hR;subst hR;have hk5:∀q,C.next<=q->q<O.next->((O.set Y.next (.cells [.int .i64 4,.ae [],.ae [],.int .i64 0,.int .i64 0,.int .i64 0,.ae [],.int .i64 0,.ab,v0,v1,v2,v3,v4,.ab,tv,.ab] 0 true)).set H.next (.cells [.int .i64 4,.ae [],.ae [],.int .i64 0,.int .i64 0,.int .i64 0,.ae [],.int .i64 0,.ab,v0,v1,v2,v3,v4,.ab,tv,.ab] 0 true)).get q=O.get q:=fun q S V=>tY
 refine vJ rfl (by simp only[r4,pY,w0,ct,w2,w3,w4,t1,jl];rfl) (ni (n:=8+k) 4 [] [] 0 lQ ((hc3.up aa).ax (fun q _ U=>aa) iE fun q S V=>by rw[aO,ad aa,aO,ad aa,o _ aa aa,oa _ aa]) .ab (Z.aj (fun q _ U=>aa) iE fun q S V=>hk5 q S V).rd .ab) ?_ ?_ ?_
 .exact hr5.aj iE fun q U=>tY
 .simp only[bG];omega
 .intro q S V;rw[aO,ad aa,aO,ad aa,o _ aa V,oa _ aa,o4 _ aa V,ot _ V];exact o2' q S V
set_option maxRecDepth 100000 in
theorem zao{lG:qu}(hG:zdj lG){deep:Nat}{J:qp}(hst:deep<=2->oA lG k f (deep+1))(hat:AtT f deep lo H H2 r J c q m E2)(hn0:¬q<6)(hn1:¬q<8)(hn2:¬q<10)(hn3:¬q<12)(hn4:¬q<14)(hp0:q<15):bN prog (aF pls lG) 58 156 mz E2 H2 (mA k f deep lo H r J c q m):=by
 obtain⟨hd,hrl,hlo,n2,g2,o2',hr2,hL1,hm,hqd,k0,k1,k2,k6,k8,k9,k10⟩:=hat;have hkeep:(aF pls lG).aj 58=false:=rfl;have hq2:(2:Int)≠0:=cy;have A:((co f).length:Int)≠0:=by rcases su f with h|h<;>rw[h]<;>decide
 obtain⟨hi0,hix⟩:=ry (co f) A hm.1 [];have hxs:=sy hm.1;have hxa:=sA hm.1;have hxf:=tZ hm.1;have er:(H.next == r)=false:=ay aa;have e41:=eN f 4 1 J;have e50:=eN f 5 0 J;have e32:=eN f 3 2 J;have hwd:IntKind.wrap .i64 ((deep:Int)+1)=((deep+1:Nat):Int):=ft aa;unfold mA;generalize hR:gD (rA f k deep) f J c q m=R;rw[gD]at hR;dsimp only[mz,fC,rz];repeat' (first
  |(apply ai ?_;clear hK K)|apply Ry.o ?_|apply bP ?_|(apply a2 (fun z V=>?_) (fun z V=>?_)<;>try(cases z;done))|apply ae ?_|(apply ah fun K hK=>?_)|(apply aq 8 [(3,9),(3,11),(6,9),(6,11)] fun K hK=>?_)|(apply aq 10 [(0,7),(0,10),(0,12),(4,7),(4,10),(4,12)] fun K hK=>?_)|(apply aq 24 [(3,14),(6,14),(7,14),(11,14),(13,14)] fun K hK=>?_)|(apply aq 28 [(1,4),(1,6),(5,6)] fun K hK=>?_)|(apply aM ?_;try intro _)|(apply aR ?_ ?_<;>clear hK K)|apply aL ?_|apply bu rfl ?_|apply aj ?_|apply ak ?_|apply am ?_|apply ax ?_)
 repeat' (first
  |(apply ai ?_;clear hK K)|apply Rx.o ?_|apply aN ?_|(apply aE (fun z V=>?_) (fun z V=>?_)<;>try(cases z;done))|apply ae ?_|(apply ah fun K hK=>?_)|(apply aq 8 [(3,9),(3,11),(6,9),(6,11)] fun K hK=>?_)|(apply aq 10 [(0,7),(0,10),(0,12),(4,7),(4,10),(4,12)] fun K hK=>?_)|(apply aq 24 [(3,14),(6,14),(7,14),(11,14),(13,14)] fun K hK=>?_)|(apply aq 28 [(1,4),(1,6),(5,6)] fun K hK=>?_)|(apply aM ?_;try intro _)|(apply aR ?_ ?_<;>clear hK K)|apply aL ?_|apply bu rfl ?_|apply aj ?_|apply ak ?_|apply am ?_|apply ax ?_)
 .exact di
 generalize F:Hp.set (Hp.alloc (Hp.alloc _ _) _) _ _=Ha;have na:Ha.next=H.next+3:=by rw[<-F];simp only[bG,br];omega
 have oa:∀q,q<H.next->q≠r->Ha.get q=H.get q:=fun q O U=>by
  rw[<-F,aO,ad aa,aP,ad bY,aP,ad aa];exact o2' q O U
 have gz:Ha.get H.next=some qd:=by
  rw[<-F,aO,ad aa,aP,ad bY,aP,ad aa];exact g2
 have hra:hO lo Ha r J c:=by
  rw[<-F];exact hr2.aj gA fun q hq=>by rw[aO,ad aa,aP,ad bY,aP,ad aa]
 have ga:Ha.get (H.next+2)=some (.cells [.int .i64 6,.ae ((co f).getD (m.tmod (co f).length).toNat []),.ae (j8 m),.int .i64 0,.int .i64 0,.int .i64 0,.ae [],.int .i64 0,.ab,.int .i64 0,.int .i64 0,.ae [],.int .i64 0,.ab,.ab,.ab,.ab] 0 true):=by rw[<-F,aO,au aa]
 clear F;have htm:0<=m.tmod 2/\m.tmod 2<2:=CL hm.1;have hw2:IntKind.wrap .i64 (2-m.tmod 2)=2-m.tmod 2:=k3 aa aa;generalize hcnt:(2-m.tmod 2).toNat=Y at *;have hcn:2-m.tmod 2=(Y:Int):=aa;rw[hcn]at hw2;refine dG [0,1,6,9,13] [H.next] 14 Y (fun j E H'=>∃v es I,H'.get (H.next+2)=some (.cells [.int .i64 6,.ae ((co f).getD (m.tmod (co f).length).toNat []),.ae (j8 m),.int .i64 0,.int .i64 0,.int .i64 0,.ae [],.int .i64 0,.ab,.int .i64 0,.int .i64 0,.ae [],.int .i64 0,.ab,v,.ab,.ab] 0 true)/\dU (fun q=>H.next+3<=q) 4 H' 5 v (es.map Ex.cells)/\hO lo H' r I c/\(∀q,q<H.next->q≠r->H'.get q=H.get q)/\es.length=j/\I.length<=J.length/\gP f Y J=(es++(gP f (Y-j) I).1,(gP f (Y-j) I).2)) eE ⟨.ab,[],J,ga,.inl ⟨rfl,rfl⟩,hra,oa,rfl,aT _,aI⟩ ?_;clear ga hra oa g2 hr2 o2';rintro j E3 H3 hj hcE hrH hnH hsI ⟨v,es,I,g3,Z,C,o3,hel,hLj,hJ⟩;(try simp only[bL,bK,bb,aK,aW,Nat.reduceBEq,Nat.reduceAdd,Nat.reduceLeDiff,tyF,gz, *]at hcE);(try simp only[bL,bK,bb,aK,aW,Nat.reduceBEq,Nat.reduceAdd,Nat.reduceLeDiff,tyF,gz, *]at hrH);(try simp only[br,bG,cR,bR,Nat.reduceAdd]at hnH);have hB0:(H.next == H3.next)=false:=ay aa;have hC0:(H3.next == H.next)=false:=ay aa;have hle:H.next+3<=H3.next:=aa
 have e02:(H.next == H.next+2)=false:=ay aa;have e20:(H.next+2 == H.next)=false:=ay aa;obtain⟨v1,v2⟩:=Z.one;repeat' (first
  |(apply ai ?_;clear hK K)|apply Rx.o ?_|apply aN ?_|(apply aE (fun z V=>?_) (fun z V=>?_)<;>try(cases z;done))|apply ae ?_|(apply ah fun K hK=>?_)|(apply aq 8 [(3,9),(3,11),(6,9),(6,11)] fun K hK=>?_)|(apply aq 10 [(0,7),(0,10),(0,12),(4,7),(4,10),(4,12)] fun K hK=>?_)|(apply aq 24 [(3,14),(6,14),(7,14),(11,14),(13,14)] fun K hK=>?_)|(apply aq 28 [(1,4),(1,6),(5,6)] fun K hK=>?_)|(apply aM ?_;try intro _)|(apply aR ?_ ?_<;>clear hK K)|apply aL ?_|apply bu rfl ?_|apply aj ?_|apply ak ?_|apply am ?_|apply ax ?_)
 .have hlt:j<Y:=by omega
  refine qa ?_;refine a4 ?_ (li hG 3 f 2 aa aa lo H3 r I c C aa);rintro v' S ⟨⟨cs,rfl,hc1,hc2,hc3⟩,hr4,n4,o4⟩;have hl4:=eN f 3 2 I;have g4:S.get (H.next+2)=some (.cells [.int .i64 6,.ae ((co f).getD (m.tmod (co f).length).toNat []),.ae (j8 m),.int .i64 0,.int .i64 0,.int .i64 0,.ae [],.int .i64 0,.ab,.int .i64 0,.int .i64 0,.ae [],.int .i64 0,.ab,v,.ab,.ab] 0 true):=by rw[o4 _ aa aa];exact g3
  have g40:S.get H.next=some qd:=by rw[o4 _ aa aa];exact hrH
  have kb:=fun H=>Gj H hc1 hc2;have hvq:∀q o m z',v=.sl q o m z'->H.next+3<=q/\q<H3.next:=fun q o m z' e=>by
   rcases Z with⟨rfl,_⟩|⟨q',imm,rows,rfl,e1,e2,_⟩
   .cases e
   .simp only[AV.sl.injEq]at e;rw[<-e.1];exact⟨e1,e2⟩
  have ob:∀q,q<S.next->(S.alloc (.cells cs 0 true)).get q=S.get q:=fun q hq=>fX
  have M:dU (fun q=>H.next+3<=q) 4 (S.alloc (.cells cs 0 true)) 5 v (es.map Ex.cells):=Z.aj (fun q _ h=>h) bY fun q O U=>by rw[ob _ aa,o4 q U aa]
  have gcs:(S.alloc (.cells cs 0 true)).get S.next=some (.cells cs 0 true):=fN
  have g4b:(S.alloc (.cells cs 0 true)).get (H.next+2)=some (.cells [.int .i64 6,.ae ((co f).getD (m.tmod (co f).length).toNat []),.ae (j8 m),.int .i64 0,.int .i64 0,.int .i64 0,.ae [],.int .i64 0,.ab,.int .i64 0,.int .i64 0,.ae [],.int .i64 0,.ab,v,.ab,.ab] 0 true):=by rw[ob _ aa];exact g4
  obtain⟨v5,H5,dt,s5,n5,f5,q5⟩:=xc (P:=prog) (t:=68) underlying68 r0 uS uT rfl aA M bY (r:=S.next) (imm:=0) (row:=cs) (w:=(bO f 3 2 I).1.cells) gcs hc1 hc2 (hc3.ax (fun q O U=>⟨aa,fun o m z' e=>by have:=(hvq q o m z' e).2;omega⟩) (eT _) fun q O U=>ob q U) CF CF;simp only[br]at n5 f5;have o5:∀q,q<S.next->q<H.next+3->H5.get q=S.get q:=fun q O U=>by rw[f5 q aa (fun o m z' e=>by have:=(hvq q o m z' e).1;omega),ob q O]
  have g5:H5.get (H.next+2)=some (.cells [.int .i64 6,.ae ((co f).getD (m.tmod (co f).length).toNat []),.ae (j8 m),.int .i64 0,.int .i64 0,.int .i64 0,.ae [],.int .i64 0,.ab,.int .i64 0,.int .i64 0,.ae [],.int .i64 0,.ab,v,.ab,.ab] 0 true):=by rw[o5 _ aa aa];exact g4
  have n5':S.next+2<=H5.next:=aa
  obtain⟨p1,p2⟩:=s5.one;clear f5 q5 Z M C;dsimp only[a0];repeat' (first
   |(apply ai ?_;clear hK K)|apply Rx.o ?_|apply aN ?_|(apply aE (fun z V=>?_) (fun z V=>?_)<;>try(cases z;done))|apply ae ?_|(apply ah fun K hK=>?_)|(apply aq 8 [(3,9),(3,11),(6,9),(6,11)] fun K hK=>?_)|(apply aq 10 [(0,7),(0,10),(0,12),(4,7),(4,10),(4,12)] fun K hK=>?_)|(apply aq 24 [(3,14),(6,14),(7,14),(11,14),(13,14)] fun K hK=>?_)|(apply aq 28 [(1,4),(1,6),(5,6)] fun K hK=>?_)|(apply aM ?_;try intro _)|(apply aR ?_ ?_<;>clear hK K)|apply aL ?_|apply bu rfl ?_|apply aj ?_|apply ak ?_|apply am ?_|apply ax ?_)
  .exact di
  .have o6:∀q,q≠H.next+2->(H5.set (H.next+2) (.cells [.int .i64 6,.ae ((co f).getD (m.tmod (co f).length).toNat []),.ae (j8 m),.int .i64 0,.int .i64 0,.int .i64 0,.ae [],.int .i64 0,.ab,.int .i64 0,.int .i64 0,.ae [],.int .i64 0,.ab,v5,.ab,.ab] 0 true)).get q=H5.get q:=fun q hq=>by rw[aO,ad hq]
   have g60:H5.get H.next=some qd:=by rw[o5 _ aa aa];exact g40
   refine⟨aa,Nz,Nz,dr,(by simp only[aK,Nat.reduceBEq, *];exact jV (n:=Y) aa aa),?_⟩;refine⟨v5,es++[(bO f 3 2 I).1],(bO f 3 2 I).2,iG,by rw[kT];exact s5.aj (fun q _ h=>h) iE fun q O U=>o6 q aa,hr4.aj iE fun q hq=>by rw[o6 q aa,o5 q aa aa],fun q O U=>by rw[o6 q aa,o5 q aa aa,o4 q aa U,o3 q O U],by simp[hel],aa,?_⟩;rw[hJ,show Y-j=(Y-(j+1))+1 by omega,gP];simp
 .have hje:j=Y:=by omega
  subst hje;repeat' (first
   |(apply ai ?_;clear hK K)|apply Rx.o ?_|apply aN ?_|(apply aE (fun z V=>?_) (fun z V=>?_)<;>try(cases z;done))|apply ae ?_|(apply ah fun K hK=>?_)|(apply aq 8 [(3,9),(3,11),(6,9),(6,11)] fun K hK=>?_)|(apply aq 10 [(0,7),(0,10),(0,12),(4,7),(4,10),(4,12)] fun K hK=>?_)|(apply aq 24 [(3,14),(6,14),(7,14),(11,14),(13,14)] fun K hK=>?_)|(apply aq 28 [(1,4),(1,6),(5,6)] fun K hK=>?_)|(apply aM ?_;try intro _)|(apply aR ?_ ?_<;>clear hK K)|apply aL ?_|apply bu rfl ?_|apply aj ?_|apply ak ?_|apply am ?_|apply ax ?_)
  refine⟨aC,_,(by(try simp only[aK,aW,Nat.reduceBEq,Nat.reduceAdd,Nat.reduceLeDiff,tyF,bU,cc,sC, *]);first|done|with_reducible rfl),?_⟩;try simp only[aB]
  rw[ad aa,ad aa,ad aa,ad aa,ad aa,au aa,hJ,uA]at hR;subst hR;simp only[gP,iS];refine vJ rfl (by simp only[r4,pY,v1,jl];rfl) (ni (n:=8+k) 6 _ _ 0 lQ lQ ((Z.aj (fun q _ hq=>aa) iE fun q O U=>jZ).rd.up aa) .ab .ab) ?_ ?_ ?_
  .exact C.aj iE fun q hq=>jZ
  .simp only[bG];omega
  .intro q O U;rw[aO,ad aa];exact o3 q O U
end
section
def tyG5.tyF:=ac @cI (ac @cY (ac @pQ (ac @dW (ac @dR (ac @dX (ac @dy (ac @eD (ac @wt (ac @NO (@oV))))))))))
open tyG5
set_option maxRecDepth 100000 in
theorem zap{lG:qu}(O:zdj lG){deep:Nat}(hd:deep<=3)(z:deep<=2->oA lG k f (deep+1)):oA lG (k+1) f deep:=by
 intro lo H r s A hL;have hw:zc7 (aF pls lG) 58:=O.plain gB;have hnx:zc7 (aF pls lG) 32:=O.plain gB;have hkeep:(aF pls lG).aj 58=false:=rfl;have hrl:=A.1;have hlo:=A.2.1;have hq16:(16:Int)≠0:=cy;have hq2:(2:Int)≠0:=cy;have j:((co f).length:Int)≠0:=by rcases su f with h|h<;>rw[h]<;>decide
 rw[gE,vG];refine a5 (M:=156) (rs:=[.cell 6 78]) (hw.call _) hw.ao hw.am func58 rfl rfl rz.2 rfl ?_;dsimp only[rz,a3,Nat.reduceAdd];repeat' (first
  |(apply ai ?_;clear hK K)|apply Rx.o ?_|apply cW ?_|(apply aX (fun C Y=>?_) (fun C Y=>?_)<;>try(cases C;done))|(apply aE (fun Z V=>?_) (fun Z V=>?_)<;>try(cases Z;done))|apply ae ?_|(apply ah fun K hK=>?_)|apply ak ?_)
 refine qa ?_;refine a4 ?_ (Cw hnx (A.aj (eT _) fun q hq=>fX) hL);rintro v H2 ⟨rfl,hr2,n2,o2⟩;simp only[br]at n2;have g2:H2.get H.next=some qd:=by rw[o2 _ aa,aP,au rfl]
 have o2':∀q,q<H.next->q≠r->H2.get q=H.get q:=fun q h1 h2=>by rw[o2 q h2,aP,ad aa]
 have hL1:=nh s.1;generalize (bZ s.1).1=n at *;generalize (bZ s.1).2=L1 at *;obtain⟨sL,c⟩:=s;simp only[]at *;have hq:=fb (n:=n) (m:=16) aa aa;have hm:=fb (n:=bA (n.tdiv 16)) (m:=1000) aa aa;obtain⟨hi0,hix⟩:=ry (co f) j hm.1 [];have hxs:=sy hm.1;have hxa:=sA hm.1;have hxf:=tZ hm.1;clear o2;dsimp only[a0];repeat' (first
  |(apply ai ?_;clear hK K)|apply Rx.o ?_|(apply dJ ?_;first|refine aY (MD O.nms _ _) ?_|refine aY (iC O.pick _ 1000 cy _) ?_)|apply cW ?_|(apply aX (fun C Y=>?_) (fun C Y=>?_)<;>try(cases C;done))|(apply aE (fun Z V=>?_) (fun Z V=>?_)<;>try(cases Z;done))|apply ae ?_|(apply ah fun K hK=>?_)|apply ak ?_)
 refine qa ?_;refine a4 ?_ (iC O.pick n 16 cy _);rintro _ _ ⟨rfl,rfl⟩;dsimp only[a0];refine Rx.o ?_;refine wm (hK _ _ ?_);clear hK K;dsimp only[lE,nU];generalize aZ n 16=I at *;generalize aZ (bA (n.tdiv 16)) 1000=m at *;obtain⟨lv,hgr,hlen⟩:=hr2.len;rename_i H2;simp only[bz,bq,bF,bB,Nat.blt,Nat.ble,uX,kW,gX];refine ae ?_;refine ae ?_;refine ah fun K F=>?_;have hK:∀J H3,(J.at 0=.ptr r 0/\J.at 1=.int .i64 f/\J.at 2=.int .i64 deep/\J.at 6=.ptr H.next 0/\J.at 8=cD (co f)/\J.at 9=.int .i64 m/\J.at 10=.int .i64 I/\(∃b,J.at 44=.bool b/\(b=true↔(((2:Int)<deep/\8<=I/\I<12)\/(10<=c/\10<=I))))/\H3=H2)->K J H3:=by
  rintro J H3 ⟨k0,k1,k2,k6,k8,k9,o,⟨b,k44,Z⟩,rfl⟩;apply F;clear F K;dsimp only[lE,nU];have U:vF deep c I=if ((2:Int)<deep/\8<=I/\I<12)\/(10<=c/\10<=I)then 0 else I:=rfl
  generalize vF deep c I=q at *;have hqr:0<=q/\q<16:=by rw[U];split<;>omega
  have hqd:8<=q->q<12->deep<=2:=by rw[U];split<;>omega
  refine zaf (fun E' H'=>E'.at 0=.ptr r 0/\E'.at 1=.int .i64 f/\E'.at 2=.int .i64 deep/\E'.at 6=.ptr H.next 0/\E'.at 8=cD (co f)/\E'.at 9=.int .i64 m/\E'.at 10=.int .i64 q/\H'=H3) ?_ ?_
  .cases b with
   |true=>
    rw[au (Z.1 rfl)]at U;repeat' (first
     |(apply ai ?_;clear hK K)|apply Rx.o ?_|apply cW ?_|(apply aX (fun C Y=>?_) (fun C Y=>?_)<;>try(cases C;done))|(apply aE (fun Z V=>?_) (fun Z V=>?_)<;>try(cases Z;done))|apply ae ?_|(apply ah fun K hK=>?_)|apply ak ?_)
    exact⟨rfl,eE,eE,eE,eE,eE,eE,NA,rfl⟩
   |false=>
    rw[ad (fun h=>by have:=Z.2 h;cases this)]at U;repeat' (first
     |(apply ai ?_;clear hK K)|apply Rx.o ?_|apply cW ?_|(apply aX (fun C Y=>?_) (fun C Y=>?_)<;>try(cases C;done))|(apply aE (fun Z V=>?_) (fun Z V=>?_)<;>try(cases Z;done))|apply ae ?_|(apply ah fun K hK=>?_)|apply ak ?_)
    exact⟨rfl,eE,eE,eE,eE,eE,eE,NA,rfl⟩
  clear k0 k1 k2 k6 k8 k9 o k44 Z U hq;rintro E3 H' ⟨k0,k1,k2,k6,k8,k9,o,rfl⟩;have S:AtT f deep lo H H' r L1 c q m E3:=⟨hd,hrl,hlo,n2,g2,o2',hr2,aa,hm,hqd,k0,k1,k2,k6,k8,k9,o⟩;by_cases c1:q<6
  .exact zai O z S c1
  by_cases c2:q<8
  .exact zaj O z S c1 c2
  by_cases c3:q<10
  .exact zam O z S c1 c2 c3
  by_cases c4:q<12
  .exact zan O z S c1 c2 c3 c4
  by_cases c5:q<14
  .exact zak O z S c1 c2 c3 c4 c5
  by_cases c6:q<15
  .exact zao O z S c1 c2 c3 c4 c5 c6
  exact zal O z S c1 c2 c3 c4 c5 c6
 clear F;repeat' (first
  |(apply ai ?_;clear hK K)|apply Rx.o ?_|apply cW ?_|(apply aX (fun C Y=>?_) (fun C Y=>?_)<;>try(cases C;done))|apply ae ?_|(apply ah fun K hK=>?_)|apply ak ?_)
 all_goals
  refine⟨eE,eE,eE,eE,eE,eE,eE,⟨_,eE,?_⟩,rfl⟩;first
  |exact⟨fun _=>aa,fun _=>rfl⟩
  |exact⟨fun h=>(by cases h),fun h=>(by omega:False).elim⟩
  |exact⟨fun h=>by(have h:=pZ h;omega),fun h=>mU aa⟩
theorem NP{Z:qu}(K:zdj Z)(f:Int):∀(k F:Nat),4<=F+k->F<=3->oA Z k f F
 |0,F,h1,h2=>by omega
 |k+1,F,h1,h2=>zap K h2 fun h=>NP K f k (F+1) aa aa
end
section
def tyG6.tyF:=ac @dF (ac @cI (ac @cY (ac @fg (ac @fh (ac @eL (ac @pQ (ac @dW (ac @dR (ac @dX (ac @dy (ac @ge (ac @iW (ac @eD (ac @wt (ac @oV (ac @zh (ac @tf (@yq))))))))))))))))))
open tyG6
noncomputable def NQ:{c:SC // aG 61 (f12.body.getD .skip)=c}:=by
 refine⟨?_,?_⟩;rotate_left
 .simp only[f12,bE,aG,bz,bq,bF,bB,Nat.blt,Nat.ble];rfl
def Gm(Z:qu):Prop:=∀(f:Int) (k F:Nat),4<=F+k->F<=3->oA Z k f F
def NR(K:zdj Z):Gm Z:=NP K
def gF(L:qp):qt×da:=lj 0 4 0 5 ((bZ L).2,0)
def lk(L:qp):Ex×qp:=bO 0 4 1 (gF L).2.1
def jv(L:qp):qt×da:=lj 1 3 1 3 ((lk L).2,(gF L).2.2)
def vK(L:qp):Ex×qp:=bO 1 4 1 (jv L).2.1
def gQ(L:qp):Fu:=⟨[102],[[120],[121]],[[105],[106]],(gF L).1,(lk L).1⟩
def gR(L:qp):Fu:=⟨[103],[[110]],[[105]],(jv L).1,(vK L).1⟩
def sD(L:qp):List Ar:=[⟨[97],1+aZ (bZ L).1 4⟩,⟨[98],1+aZ (bA ((bZ L).1.tdiv 4)) 4⟩]
def ei(l:qp):Pr:=⟨sD (l.take 60),[gQ (l.take 60),gR (l.take 60)]⟩
structure zdA (lo n:Nat) (H:Hp) (p:Pr) (ra rf:Nat) (x y:Int) (f g:Fu) (cf cg:qm):Prop where
 ep:p=⟨[⟨[97],x⟩,⟨[98],y⟩],[f,g]⟩
 ga:H.get ra=some (.cells [.ae [97],.int .i64 x,.ae [98],.int .i64 y] 0 true)
 gf:H.get rf=some (.cells (cf++cg) 0 true)
 la:lo<=ra/\ra<H.next
 lf:lo<=rf/\rf<H.next
 ne:ra≠rf
 lcf:cf.length=9
 lcg:cg.length=9
 wf:cJ (fun q=>lo<=q/\q≠ra/\q≠rf) n H cf f.cells
 wg:cJ (fun q=>lo<=q/\q≠ra/\q≠rf) n H cg g.cells
def zdA.cells{p:Pr}{Z rf:Nat}{f g:Fu}{cf I:qm}(h:zdA lo (n+1) H p Z rf x y f g cf I):cJ (fun q=>lo<=q) (n+2) H [.sl Z 0 2 2,.sl rf 0 2 9] p.cells:=by
 rw[h.ep];refine .cons ?_ (.cons ?_ .nil)
 .refine rt (n:=n+1) (a:=[[.ae [97],.int .i64 x],[.ae [98],.int .i64 y]]) (imm:=0) (tip:=true) h.la.1 h.la.2 h.ga aI ⟨⟨rfl,.cons (.ae _) (.cons (.int _ _) .nil)⟩,⟨rfl,.cons (.ae _) (.cons (.int _ _) .nil)⟩,trivial⟩
 .refine rt (n:=n+1) (a:=[cf,I]) (imm:=0) (tip:=true) h.lf.1 h.lf.2 (by rw[h.gf];simp) aI ⟨⟨h.lcf,h.wf.aj (fun q F=>F.1) (aT _) fun _ _ _=>rfl⟩,⟨h.lcg,h.wg.aj (fun q F=>F.1) (aT _) fun _ _ _=>rfl⟩,trivial⟩
def CM(nm:qr){p l:AV}{f:Fu}(I:f.name=nm)(h1:eR S (n+1) H p (cD f.params))(h2:eR S (n+1) H l (cD f.ah))(A:eR S (n+1) H b (.ai (f.body.map St.cells)))(O:cJ S (n+1) H v f.value.cells):cJ S (n+1) H ([.ae nm,p,l,b]++v) f.cells:=by
 have e:f.cells=[.ae f.name,cD f.params,cD f.ah,.ai (f.body.map St.cells)]++f.value.cells:=rU;rw[e,I];exact(cJ.cons (.ae _) (.cons h1 (.cons h2 (.cons A .nil)))).append O
def CN{imm:Nat}{tip:Bool}(l:qo)(hS:S r)(hr:r<H.next)(C:H.get r=some (.cells (l.map .ae) imm tip))(F:imm<=l.length):eR S (n+2) H (.sl r 0 l.length 1) (cD l):=by
 have:=rt (n:=n+1) (a:=l.map fun s=>[AV.ae s]) (z:=1) hS hr (by rw[BG];exact C) (by rw[BG];simpa using F) (dT.dJ l);rw[ec]at this;exact this
def zaq(H:Hp):dc prog H 26 0 []=some (.sl H.next 0 0 1,H.alloc qc):=aA
def zar(v:Nat)(n:Nat):cQ prog 82 [(0,.sl v 0 n 1)]=some (.agg [.sl v 0 n 1,.int .i64 0]):=aA
def NS(s:qr)(n:Int):cQ prog 75 [(0,.ae s),(1,.int .i64 n)]=some (.agg [.ae s,.int .i64 n]):=aA
def zas(H:Hp)(a b:qr)(x y:Int):dc prog H 22 2 [(0,.agg [.ae a,.int .i64 x]),(1,.agg [.ae b,.int .i64 y])]=some (.sl H.next 0 2 2,H.alloc (.cells [.ae a,.int .i64 x,.ae b,.int .i64 y] 0 true)):=aA
def zat(r n:Nat):cQ prog 25 [(0,.sl r 0 n 2)]=some (.agg [.sl r 0 n 2,.ab]):=aA
def zau(s:qr)(r n q m:Nat):cQ prog 72 [(0,.ae s),(1,.sl r 0 n 1),(2,.sl q 0 m 1)]=some (.agg [.ae s,.sl r 0 n 1,.sl q 0 m 1,.ab,.int .i64 0,.int .i64 0,.ae [],.int .i64 0,.ab]):=aA
def zav(H:Hp)(gM b7 ci bX bQ dt fD hY Y A F z O m b5 b6 Z M:AV):dc prog H 23 2 [(0,.agg [gM,b7,ci,bX,bQ,dt,fD,hY,Y]),(1,.agg [A,F,z,O,m,b5,b6,Z,M])]=some (.sl H.next 0 2 9,H.alloc (.cells [gM,b7,ci,bX,bQ,dt,fD,hY,Y,A,F,z,O,m,b5,b6,Z,M] 0 true)):=aA
def CO(H:Hp)(s:qr):dc prog H 66 1 [(0,.ae s)]=some (.sl H.next 0 1 1,H.alloc (.cells [.ae s] 0 true)):=aA
theorem CP(a b:AV):cH 2 [a,b]=some (.agg [a,b]):=rfl
theorem zaw(l:qp):(l.map fun n=>[AV.int .i64 n]).flatten=l.map fun n=>AV.int .i64 n:=by
 induction l with
 |nil=>rfl
 |cons a l ih=>simp only[el,iI,ih];rfl
theorem zax{q:Nat}(l:qp)(C:H.get q=some qc)(F:q<H.next)(Y:l.length<=60):
 ∃v H',dh prog false H 26 26 (.sl q 0 0 1) (.ai (l.map fun n=>[AV.int .i64 n]))=some (v,H')/\(∃b S,v=.sl b 0 l.length 1/\H'.get b=some (.cells (l.map fun n=>.int .i64 n) S true)/\b<H'.next/\(b=q\/b=H.next))/\H.next<=H'.next/\∀k,k<H.next->k≠q->H'.get k=H.get k:=by
 have U:dd=70368744177664:=rfl;have A:(l.map fun n=>[AV.int .i64 n]).flatten=l.map fun n=>AV.int .i64 n:=zaw l;have hx:fc H 1 (.ai (l.map fun n=>[AV.int .i64 n]))=some (l.length,l.map fun n=>AV.int .i64 n):=by
  have e:fc H 1 (.ai (l.map fun n=>[AV.int .i64 n]))=if ((l.map fun n=>[AV.int .i64 n]).all fun z=>z.length == 1)then some ((l.map fun n=>[AV.int .i64 n]).length,(l.map fun n=>[AV.int .i64 n]).flatten)else none:=rfl
  rw[e,au aI,A,ec]
 have K:(l.map fun n=>AV.int .i64 n).all AV.one=true:=by simp[AV.one]
 cases l with
 |nil=> 
  refine⟨.sl q 0 0 1,H,?_,⟨q,0,rfl,C,F,.inl rfl⟩,aT _,fun _ _ _=>rfl⟩
  .simp only[dh,underlying26,pP,uQ,uR,show ip prog 26=true by kernel_rfl,hx,eg]
 |cons a l=>
  simp only[gN]at hx Y;have Z:fV false H 1 (.sl q 0 0 1)=H:=by
   unfold fV;simp only[C];rfl
  refine⟨.sl H.next 0 (0+(l.length+1)) 1,(H.az q).alloc (.cells ([]++(a::l).map fun n=>.int .i64 n) (0-0) true),?_,⟨H.next,0,aI,?_,dq _,.inr rfl⟩,eT _,fun k o O=>?_⟩
  .simp only[dh,underlying26,pP,uQ,uR,show ip prog 26=true by kernel_rfl,hx,K,Z,nT,bw,nL,kL,C,bR,jS,List.drop_nil,dg,bH];rw[au ⟨lL,lL,aI⟩]
  .show((H.az q).alloc _).get (H.az q).next=_
   rw[aP,au rfl];simp
  .rw[aP,ad kC,gm,ad O]
theorem zay(l:qp):jx prog 26 (.ai (l.map fun n=>[AV.int .i64 n])) none (some (.int .i64 (min (l.length:Int) 60)))=some (.ai ((l.take 60).map fun n=>[AV.int .i64 n])):=by
 have e:min (l.length:Int) 60=((min l.length 60:Nat):Int):=aa;rw[e];simp only[jx,underlying26,pP];show(if 0<=min l.length 60/\min l.length 60<=(l.map fun n=>[AV.int .i64 n]).length then _ else none)=_;rw[au ⟨dx _,ce⟩];have K:((l.map fun n=>[AV.int .i64 n]).drop 0).take (min l.length 60-0)=(l.take 60).map fun n=>[AV.int .i64 n]:=by
  rw[gV,AF,<-Dx,List.take_eq_take_iff.2];omega
 rw[K];cases l.take 60 with
 |nil=>rfl
 |cons a l=>rfl
abbrev qf:HB:=.cells [.ab,.ab] 0 true
structure AtP (n0 M:Nat) (x y:Int) (H:Hp):Prop where
 lt:n0<M/\M+8<=H.next
 rs:H.get n0=some qf
 ra:H.get (M+1)=some (.cells [.ae [97],.int .i64 x,.ae [98],.int .i64 y] 0 true)
 t5:H.get (M+2)=some (.cells [.sl (M+1) 0 2 2,.sl (M+7) 0 2 9] 0 true)
 p1:H.get (M+3)=some (.cells [.ae [120],.ae [121]] 0 true)
 l1:H.get (M+4)=some (.cells [.ae [105],.ae [106]] 0 true)
 p2:H.get (M+5)=some (.cells [.ae [110]] 0 true)
 l2:H.get (M+6)=some (.cells [.ae [105]] 0 true)
def AtP.aj{A M:Nat}{H':Hp}(h:AtP A M x y H)(Y:H.next<=H'.next)(C:∀q,(q=A\/M+1<=q/\q<M+7)->H'.get q=H.get q):AtP A M x y H':=by
 obtain⟨⟨O,S⟩,rs,ra,Z,F,l1,I,l2⟩:=h;exact⟨⟨O,aa⟩,by rw[C _ (.inl rfl)];exact rs,by rw[C _ aa];exact ra,by rw[C _ aa];exact Z,by rw[C _ aa];exact F,by rw[C _ aa];exact l1,by rw[C _ aa];exact I,by rw[C _ aa];exact l2⟩
set_option maxRecDepth 100000 in
theorem NT{lG:qu}(hG:zdj lG)(hst:Gm lG)(l:qp)(hl:l.length<2^63)(H:Hp):
 aU prog (aF pls lG) 12 [.ai (l.map fun n=>[AV.int .i64 n])] H fun v H'=>∃ra rf x y cf cg,v=.agg [.sl ra 0 2 2,.sl rf 0 2 9]/\zdA H.next 14 H' (ei l) ra rf x y (gQ (l.take 60)) (gR (l.take 60)) cf cg/\H.next<=H'.next/\(∀q,q<H.next->H'.get q=H.get q)/\H.next<ra/\∃pt pf lf bf vf pg lg bg vg,cf=fU [102] pf lf bf vf/\cg=fU [103] pg lg bg vg/\zdx pt 14 H' ra rf x y (gQ (l.take 60)) (gR (l.take 60)) pf lf bf vf pg lg bg vg/\sD (l.take 60)=[⟨[97],x⟩,⟨[98],y⟩]/\∀q,q<H.next->pt q=0:=by
 have hw:zc7 (aF pls lG) 12:=hG.plain gB;have hkeep:(aF pls lG).aj 12=false:=rfl;have hnx:zc7 (aF pls lG) 32:=hG.plain gB;have hs:=zay l;have hL60:(l.take 60).length<=60:=te;have hq4:(4:Int)≠0:=cy;have hgP:ei l=⟨sD (l.take 60),[gQ (l.take 60),gR (l.take 60)]⟩:=rfl;generalize ei l=P0 at *;refine a5 (M:=61) (rs:=[.cell 2 25]) (hw.call _) hw.ao hw.am func12 rfl rfl NQ.2 rfl ?_;dsimp only[NQ,a3,Nat.reduceAdd];have gh0:=@zaq;repeat' (first
  |(apply ai ?_;clear hK K)|apply Rx.o ?_|apply aN ?_|apply ae ?_|(apply ah fun K hK=>?_)|(apply aq 5 [(1,3),(1,6)] fun K hK=>?_)|(apply aq 6 [(1,3),(1,6)] fun K hK=>?_)|(apply aq 7 [(1,3),(1,6)] fun K hK=>?_)|(apply aq 8 [(1,3),(1,6)] fun K hK=>?_)|(apply aM ?_;try intro _)|(apply aR ?_ ?_<;>clear hK K)|apply aL ?_|apply bu rfl ?_|apply am ?_)
 generalize l.take 60=L at *;have gq:((H.alloc qf).alloc qc).get (H.next+1)=some qc:=po;obtain⟨v,Z,ci,⟨b,imm,rfl,gb,hb,hb2⟩,n2,o2⟩:=zax L gq (dq _) hL60;simp only[br]at n2 o2 hb2;refine jF dK dK (by rw[hkeep];exact ci) ?_;have gh0:=@zar;repeat' (first
  |(apply ai ?_;clear hK K)|apply Rx.o ?_|apply aN ?_|apply ae ?_|(apply ah fun K hK=>?_)|(apply aq 5 [(1,3),(1,6)] fun K hK=>?_)|(apply aq 6 [(1,3),(1,6)] fun K hK=>?_)|(apply aq 7 [(1,3),(1,6)] fun K hK=>?_)|(apply aq 8 [(1,3),(1,6)] fun K hK=>?_)|(apply aM ?_;try intro _)|(apply aR ?_ ?_<;>clear hK K)|apply aL ?_|apply bu rfl ?_|apply am ?_)
 have hrd3:hO (Z.next+1) (Z.alloc (.cells [.sl b 0 L.length 1,.int .i64 0] 0 true)) Z.next L 0:=⟨dq _,aT _,_,fN,.inr ⟨b,0,_,imm,rfl,by rw[aP,ad aa];exact gb,rfl,aa,aa⟩⟩
 have g3:(Z.alloc (.cells [.sl b 0 L.length 1,.int .i64 0] 0 true)).get H.next=some qf:=by rw[aP,ad aa,o2 _ aa aa,aP,ad bY,aP,au rfl]
 have o3:∀q,q<H.next->(Z.alloc (.cells [.sl b 0 L.length 1,.int .i64 0] 0 true)).get q=H.get q:=fun q Y=>by rw[aP,ad aa,o2 _ aa aa,aP,ad bY,aP,ad aa]
 generalize hH3:Z.alloc (.cells [.sl b 0 L.length 1,.int .i64 0] 0 true)=H3 at *;have n3:H3.next=Z.next+1:=by rw[<-hH3];rfl
 clear hH3 gb hb hb2 ci gq o2;refine qa ?_;refine a4 ?_ (Cw hnx hrd3 aa);rintro v H4 ⟨rfl,hr4,n4,o4⟩;have g4:H4.get H.next=some qf:=by rw[o4 _ aa];exact g3
 have o4':∀q,q<H.next->H4.get q=H.get q:=fun q Y=>by rw[o4 _ aa];exact o3 q Y
 clear o4 o3 g3 hrd3;have hL1:=nh L;have hA:sD L=[⟨[97],1+aZ (bZ L).1 4⟩,⟨[98],1+aZ (bA ((bZ L).1.tdiv 4)) 4⟩]:=rfl;have hp1:=fb (n:=(bZ L).1) (m:=4) aa aa;have hp2:=fb (n:=bA ((bZ L).1.tdiv 4)) (m:=4) aa aa;have hB1:gF L=lj 0 4 0 5 ((bZ L).2,0):=rfl;have hV1:lk L=bO 0 4 1 (gF L).2.1:=rfl;have hB2:jv L=lj 1 3 1 3 ((lk L).2,(gF L).2.2):=rfl;have hV2:vK L=bO 1 4 1 (jv L).2.1:=rfl;have o:gQ L=⟨[102],[[120],[121]],[[105],[106]],(gF L).1,(lk L).1⟩:=rfl;have hF2:gR L=⟨[103],[[110]],[[105]],(jv L).1,(vK L).1⟩:=rfl;have hl1:(gF L).2.1.length<=(bZ L).2.length:=by rw[hB1];exact dC (zy (zA 0 4 0) _ _) (nh _)
 have hl2:(lk L).2.length<=(gF L).2.1.length:=eN 0 4 1 _;have hl3:(jv L).2.1.length<=(lk L).2.length:=by rw[hB2];exact dC (zy (zA 1 3 1) _ _) (nh _)
 generalize gF L=B1 at *;generalize lk L=V1 at *;generalize jv L=B2 at *;generalize vK L=V2 at *;generalize gQ L=Ff at *;generalize gR L=Fg at *;generalize sD L=Aa at *;generalize (bZ L).1=n at *;generalize (bZ L).2=L1 at *;have hw1:IntKind.wrap .i64 (1+aZ n 4)=1+aZ n 4:=k3 aa aa;have hw2:IntKind.wrap .i64 (1+aZ (bA (n.tdiv 4)) 4)=1+aZ (bA (n.tdiv 4)) 4:=k3 aa aa;have hw3:IntKind.wrap .i64 (n.tdiv 4)=bA (n.tdiv 4):=rfl;dsimp only[a0];have gh0:=@NS;have gh1:=@zas;have gh2:=@zat;have gh3:=@CO;have gh4:=@zau;have gh5:=@zav;repeat' (first
  |(apply ai ?_;clear hK K)|apply Rx.o ?_|apply aN ?_|(apply dJ ?_;first|refine aY (iC hG.pick _ _ cy _) ?_)|apply ae ?_|(apply ah fun K hK=>?_)|(apply aq 5 [(1,3),(1,6)] fun K hK=>?_)|(apply aq 6 [(1,3),(1,6)] fun K hK=>?_)|(apply aq 7 [(1,3),(1,6)] fun K hK=>?_)|(apply aq 8 [(1,3),(1,6)] fun K hK=>?_)|(apply aM ?_;try intro _)|(apply aR ?_ ?_<;>clear hK K)|apply aL ?_|apply bu rfl ?_|apply am ?_)
 generalize hx:1+aZ n 4=x at *;generalize hy:1+aZ (bA (n.tdiv 4)) 4=y at *;rename_i H4 _;have hne:∀i,(H.next == Z.next+i)=false:=fun i=>ay aa;have hmn:H.next<Z.next:=aa
 generalize hHs:Hp.set (Hp.alloc _ _) _ _=Hs;have hat:AtP H.next Z.next x y Hs:=by
  rw[<-hHs];refine⟨⟨hmn,gA⟩,?_,?_,?_,?_,?_,?_,?_⟩
  .repeat (first|rw[aO,ad kG]|rw[aP,ad kG])
   exact g4
  ·(repeat (first|rw[aO,ad kG]|rw[aP,ad kG]));(first|rw[aO,au my]|rw[aP,au my])
  ·(repeat (first|rw[aO,ad kG]|rw[aP,ad kG]));(first|rw[aO,au my]|rw[aP,au my])
  ·(repeat (first|rw[aO,ad kG]|rw[aP,ad kG]));(first|rw[aO,au my]|rw[aP,au my])
  ·(repeat (first|rw[aO,ad kG]|rw[aP,ad kG]));(first|rw[aO,au my]|rw[aP,au my])
  ·(repeat (first|rw[aO,ad kG]|rw[aP,ad kG]));(first|rw[aO,au my]|rw[aP,au my])
  ·(repeat (first|rw[aO,ad kG]|rw[aP,ad kG]));(first|rw[aO,au my]|rw[aP,au my])
 have gf:Hs.get (Z.next+7)=some (.cells [.ae [102],.sl (Z.next+3) 0 2 1,.sl (Z.next+4) 0 2 1,.ab,.int .i64 0,.int .i64 0,.ae [],.int .i64 0,.ab,.ae [103],.sl (Z.next+5) 0 1 1,.sl (Z.next+6) 0 1 1,.ab,.int .i64 0,.int .i64 0,.ae [],.int .i64 0,.ab] 0 true):=by
  rw[<-hHs];(repeat (first|rw[aO,ad kG]|rw[aP,ad kG]));(first|rw[aO,au my]|rw[aP,au my])
 have olds:∀q,q<Z.next+1->Hs.get q=H4.get q:=fun q Y=>by
  rw[<-hHs];repeat (first|rw[aO,ad aa]|rw[aP,ad kG])
 have hns:Hs.next=Z.next+8:=by rw[<-hHs];simp only[bG,br];omega
 have hrs:hO (Z.next+1) Hs Z.next L1 0:=hr4.aj aa olds
 have os:∀q,q<H.next->Hs.get q=H.get q:=fun q Y=>by rw[olds q aa];exact o4' q Y
 clear olds hHs hr4 g4 o4';have h02:(0:Nat)<2:=cy;have h12:(1:Nat)<2:=cy;refine qa ?_;refine a4 ?_ (zB hG (hst 0 4 0 aa aa) 5 aa aa (Z.next+1) Hs Z.next (L1,0) hrs tF);rintro v1 H5 ⟨S,hr5,n5,o5⟩;rw[<-hB1]at S hr5;obtain⟨t1,t2⟩:=S.one;have hat5:=hat.aj n5 fun q Y=>o5 q aa aa;have g5t:=hat5.t5;have g5f:H5.get (Z.next+7)=some (.cells [.ae [102],.sl (Z.next+3) 0 2 1,.sl (Z.next+4) 0 2 1,.ab,.int .i64 0,.int .i64 0,.ae [],.int .i64 0,.ab,.ae [103],.sl (Z.next+5) 0 1 1,.sl (Z.next+6) 0 1 1,.ab,.int .i64 0,.int .i64 0,.ae [],.int .i64 0,.ab] 0 true):=by rw[o5 _ aa aa];exact gf
 have gst:=hat.t5;dsimp only[a0];repeat' (first
  |(apply ai ?_;clear hK K)|apply Ry.o ?_|apply bP ?_|apply ae ?_|(apply ah fun K hK=>?_)|(apply aq 5 [(1,3),(1,6)] fun K hK=>?_)|(apply aq 6 [(1,3),(1,6)] fun K hK=>?_)|(apply aq 7 [(1,3),(1,6)] fun K hK=>?_)|(apply aq 8 [(1,3),(1,6)] fun K hK=>?_)|(apply aM ?_;try intro _)|(apply aR ?_ ?_<;>clear hK K)|apply aL ?_|apply bu rfl ?_|apply am ?_)
 .exact di
 have n5':=n5;generalize F:Hp.set H5 (Z.next+7) _=Ha;have nHa:Ha.next=H5.next:=zw
 have oHa:∀q,q≠Z.next+7->Ha.get q=H5.get q:=fun q Y=>CG
 have gfHa:Ha.get (Z.next+7)=some (.cells [.ae [102],.sl (Z.next+3) 0 2 1,.sl (Z.next+4) 0 2 1,v1,.int .i64 0,.int .i64 0,.ae [],.int .i64 0,.ab,.ae [103],.sl (Z.next+5) 0 1 1,.sl (Z.next+6) 0 1 1,.ab,.int .i64 0,.int .i64 0,.ae [],.int .i64 0,.ab] 0 true):=xa;clear F;have hatHa:=hat5.aj (sq nHa.symm) fun q Y=>oHa q aa;have gtHa:=hatHa.t5;have hrHa:=hr5.aj (sq nHa.symm) fun q Y=>oHa q aa;have hMl:=hat.lt;repeat' (first
  |(apply ai ?_;clear hK K)|apply Ry.o ?_|apply bP ?_|apply ae ?_|(apply ah fun K hK=>?_)|(apply aq 5 [(1,3),(1,6)] fun K hK=>?_)|(apply aq 6 [(1,3),(1,6)] fun K hK=>?_)|(apply aq 7 [(1,3),(1,6)] fun K hK=>?_)|(apply aq 8 [(1,3),(1,6)] fun K hK=>?_)|(apply aM ?_;try intro _)|(apply aR ?_ ?_<;>clear hK K)|apply aL ?_|apply bu rfl ?_|apply am ?_)
 refine qa ?_;refine a4 ?_ (li hG 4 0 1 aa aa (Z.next+1) Ha Z.next _ _ hrHa aa);rintro _ H6 ⟨⟨cs,rfl,hc1,hc2,hc3⟩,hrH6,nH6,oH6⟩;rw[<-hV1]at hc3 hrH6;obtain⟨p0,p1,p2,p3,p4,rfl⟩:=dM hc1;obtain⟨u0,u1,u2,u3,u4⟩:=ij hc2;have hatH6:=hatHa.aj nH6 fun q Y=>oH6 q aa aa;have gtH6:=hatH6.t5;have gfH6:H6.get (Z.next+7)=some (.cells [.ae [102],.sl (Z.next+3) 0 2 1,.sl (Z.next+4) 0 2 1,v1,.int .i64 0,.int .i64 0,.ae [],.int .i64 0,.ab,.ae [103],.sl (Z.next+5) 0 1 1,.sl (Z.next+6) 0 1 1,.ab,.int .i64 0,.int .i64 0,.ae [],.int .i64 0,.ab] 0 true):=by rw[oH6 _ aa aa];exact gfHa
 dsimp only[a0];repeat' (first
  |(apply ai ?_;clear hK K)|apply Ry.o ?_|apply bP ?_|apply ae ?_|(apply ah fun K hK=>?_)|(apply aq 5 [(1,3),(1,6)] fun K hK=>?_)|(apply aq 6 [(1,3),(1,6)] fun K hK=>?_)|(apply aq 7 [(1,3),(1,6)] fun K hK=>?_)|(apply aq 8 [(1,3),(1,6)] fun K hK=>?_)|(apply aM ?_;try intro _)|(apply aR ?_ ?_<;>clear hK K)|apply aL ?_|apply bu rfl ?_|apply am ?_)
 .exact di
 generalize F:Hp.set H6 (Z.next+7) _=Hb;have nHb:Hb.next=H6.next:=zw
 have C:∀q,q≠Z.next+7->Hb.get q=H6.get q:=fun q Y=>CG
 have gfHb:Hb.get (Z.next+7)=some (.cells [.ae [102],.sl (Z.next+3) 0 2 1,.sl (Z.next+4) 0 2 1,v1,p0,p1,p2,p3,p4,.ae [103],.sl (Z.next+5) 0 1 1,.sl (Z.next+6) 0 1 1,.ab,.int .i64 0,.int .i64 0,.ae [],.int .i64 0,.ab] 0 true):=xa;clear F;have hatHb:=hatH6.aj (sq nHb.symm) fun q Y=>C q aa;have gtHb:=hatHb.t5;have hrHb:=hrH6.aj (sq nHb.symm) fun q Y=>C q aa;repeat' (first
  |(apply ai ?_;clear hK K)|apply Ry.o ?_|apply bP ?_|apply ae ?_|(apply ah fun K hK=>?_)|(apply aq 5 [(1,3),(1,6)] fun K hK=>?_)|(apply aq 6 [(1,3),(1,6)] fun K hK=>?_)|(apply aq 7 [(1,3),(1,6)] fun K hK=>?_)|(apply aq 8 [(1,3),(1,6)] fun K hK=>?_)|(apply aM ?_;try intro _)|(apply aR ?_ ?_<;>clear hK K)|apply aL ?_|apply bu rfl ?_|apply am ?_)
 refine qa ?_;refine a4 ?_ (zB hG (hst 1 3 1 aa aa) 3 aa aa (Z.next+1) Hb Z.next (V1.2,B1.2.2) hrHb tF);rintro v2 H7 ⟨O,hrH7,nH7,z⟩;rw[<-hB2]at O hrH7;obtain⟨s1,s2⟩:=O.one;have hatH7:=hatHb.aj nH7 fun q Y=>z q aa aa;have gtH7:=hatH7.t5;have gfH7:H7.get (Z.next+7)=some (.cells [.ae [102],.sl (Z.next+3) 0 2 1,.sl (Z.next+4) 0 2 1,v1,p0,p1,p2,p3,p4,.ae [103],.sl (Z.next+5) 0 1 1,.sl (Z.next+6) 0 1 1,.ab,.int .i64 0,.int .i64 0,.ae [],.int .i64 0,.ab] 0 true):=by rw[z _ aa aa];exact gfHb
 dsimp only[a0];repeat' (first
  |(apply ai ?_;clear hK K)|apply Ry.o ?_|apply bP ?_|apply ae ?_|(apply ah fun K hK=>?_)|(apply aq 5 [(1,3),(1,6)] fun K hK=>?_)|(apply aq 6 [(1,3),(1,6)] fun K hK=>?_)|(apply aq 7 [(1,3),(1,6)] fun K hK=>?_)|(apply aq 8 [(1,3),(1,6)] fun K hK=>?_)|(apply aM ?_;try intro _)|(apply aR ?_ ?_<;>clear hK K)|apply aL ?_|apply bu rfl ?_|apply am ?_)
 .exact di
 generalize F:Hp.set H7 (Z.next+7) _=Hc;have nHc:Hc.next=H7.next:=zw
 have I:∀q,q≠Z.next+7->Hc.get q=H7.get q:=fun q Y=>CG
 have gfHc:Hc.get (Z.next+7)=some (.cells [.ae [102],.sl (Z.next+3) 0 2 1,.sl (Z.next+4) 0 2 1,v1,p0,p1,p2,p3,p4,.ae [103],.sl (Z.next+5) 0 1 1,.sl (Z.next+6) 0 1 1,v2,.int .i64 0,.int .i64 0,.ae [],.int .i64 0,.ab] 0 true):=xa;clear F;have hatHc:=hatH7.aj (sq nHc.symm) fun q Y=>I q aa;have gtHc:=hatHc.t5;have hrHc:=hrH7.aj (sq nHc.symm) fun q Y=>I q aa;repeat' (first
  |(apply ai ?_;clear hK K)|apply Ry.o ?_|apply bP ?_|apply ae ?_|(apply ah fun K hK=>?_)|(apply aq 5 [(1,3),(1,6)] fun K hK=>?_)|(apply aq 6 [(1,3),(1,6)] fun K hK=>?_)|(apply aq 7 [(1,3),(1,6)] fun K hK=>?_)|(apply aq 8 [(1,3),(1,6)] fun K hK=>?_)|(apply aM ?_;try intro _)|(apply aR ?_ ?_<;>clear hK K)|apply aL ?_|apply bu rfl ?_|apply am ?_)
 refine qa ?_;refine a4 ?_ (li hG 4 1 1 aa aa (Z.next+1) Hc Z.next _ _ hrHc aa);rintro _ H8 ⟨⟨ds,rfl,hd1,hd2,hd3⟩,hrH8,nH8,J⟩;rw[<-hV2]at hd3 hrH8;obtain⟨w0,ct,w2,w3,w4,rfl⟩:=dM hd1;obtain⟨z0,z1,z2,z3,z4⟩:=ij hd2;have hatH8:=hatHc.aj nH8 fun q Y=>J q aa aa;have gtH8:=hatH8.t5;have gfH8:H8.get (Z.next+7)=some (.cells [.ae [102],.sl (Z.next+3) 0 2 1,.sl (Z.next+4) 0 2 1,v1,p0,p1,p2,p3,p4,.ae [103],.sl (Z.next+5) 0 1 1,.sl (Z.next+6) 0 1 1,v2,.int .i64 0,.int .i64 0,.ae [],.int .i64 0,.ab] 0 true):=by rw[J _ aa aa];exact gfHc
 dsimp only[a0];repeat' (first
  |(apply ai ?_;clear hK K)|apply Ry.o ?_|apply bP ?_|apply ae ?_|(apply ah fun K hK=>?_)|(apply aq 5 [(1,3),(1,6)] fun K hK=>?_)|(apply aq 6 [(1,3),(1,6)] fun K hK=>?_)|(apply aq 7 [(1,3),(1,6)] fun K hK=>?_)|(apply aq 8 [(1,3),(1,6)] fun K hK=>?_)|(apply aM ?_;try intro _)|(apply aR ?_ ?_<;>clear hK K)|apply aL ?_|apply bu rfl ?_|apply am ?_)
 .exact di
 generalize F:Hp.set H8 (Z.next+7) _=Hd;have nHd:Hd.next=H8.next:=zw
 have V:∀q,q≠Z.next+7->Hd.get q=H8.get q:=fun q Y=>CG
 have gfHd:Hd.get (Z.next+7)=some (.cells [.ae [102],.sl (Z.next+3) 0 2 1,.sl (Z.next+4) 0 2 1,v1,p0,p1,p2,p3,p4,.ae [103],.sl (Z.next+5) 0 1 1,.sl (Z.next+6) 0 1 1,v2,w0,ct,w2,w3,w4] 0 true):=xa;clear F;have j:=hatH8.aj (sq nHd.symm) fun q Y=>V q aa;have gtHd:=j.t5;have hrHd:=hrH8.aj (sq nHd.symm) fun q Y=>V q aa;have gr:=j.rs;have e1:(Z.next+2 == H.next)=false:=ay aa;have gh0:=@CP;repeat' (first
  |(apply ai ?_;clear hK K)|apply Rx.o ?_|apply aN ?_|apply ae ?_|(apply ah fun K hK=>?_)|(apply aq 5 [(1,3),(1,6)] fun K hK=>?_)|(apply aq 6 [(1,3),(1,6)] fun K hK=>?_)|(apply aq 7 [(1,3),(1,6)] fun K hK=>?_)|(apply aq 8 [(1,3),(1,6)] fun K hK=>?_)|(apply aM ?_;try intro _)|(apply aR ?_ ?_<;>clear hK K)|apply aL ?_|apply bu rfl ?_|apply am ?_)
 refine⟨aC,_,(by(try simp only[aK,aW,Nat.reduceBEq,Nat.reduceAdd,Nat.reduceLeDiff,tyF,bU,cc,CP, *]);first|done|with_reducible rfl),?_⟩;try simp only[aB]
 have old:∀q,q<H.next->((Hd.set H.next (.cells [.sl (Z.next+1) 0 2 2,.sl (Z.next+7) 0 2 9] 0 true)).get q=H.get q):=fun q Y=>by
  rw[aO,ad aa,V _ aa,J _ aa aa,I _ aa,z _ aa aa,C _ aa,oH6 _ aa aa,oHa _ aa,o5 _ aa aa];exact os q Y
 have hz:=j.aj (H':=Hd.set H.next (.cells [.sl (Z.next+1) 0 2 2,.sl (Z.next+7) 0 2 9] 0 true)) (aT _);refine⟨Z.next+1,Z.next+7,x,y,[.ae [102],.sl (Z.next+3) 0 2 1,.sl (Z.next+4) 0 2 1,v1,p0,p1,p2,p3,p4],[.ae [103],.sl (Z.next+5) 0 1 1,.sl (Z.next+6) 0 1 1,v2,w0,ct,w2,w3,w4],rfl,?_,iE,old,aa,tU Z.next H5.next H6.next H7.next,.sl (Z.next+3) 0 2 1,.sl (Z.next+4) 0 2 1,v1,[p0,p1,p2,p3,p4],.sl (Z.next+5) 0 1 1,.sl (Z.next+6) 0 1 1,v2,[w0,ct,w2,w3,w4],rfl,rfl,?_,hA,fun q Y=>by unfold tU;rw[au aa]⟩;all_goals
  have U:∀q,q≠H.next->(Hd.set H.next (.cells [.sl (Z.next+1) 0 2 2,.sl (Z.next+7) 0 2 9] 0 true)).get q=Hd.get q:=fun q Y=>by rw[aO,ad Y]
  have nz:(Hd.set H.next (.cells [.sl (Z.next+1) 0 2 2,.sl (Z.next+7) 0 2 9] 0 true)).next=Hd.next:=rfl
  generalize (Hd.set H.next (.cells [.sl (Z.next+1) 0 2 2,.sl (Z.next+7) 0 2 9] 0 true))=Hz at *;have hl:=j.lt
 .refine⟨by rw[hgP,hA],by rw[U _ aa];exact j.ra,by rw[U _ aa];exact gfHd,⟨aa,aa⟩,⟨aa,aa⟩,aa,rfl,rfl,?_,?_⟩
  .rw[o];refine CM (n:=13) [102] rfl (CN (n:=12) (imm:=0) (tip:=true) [[120],[121]] ⟨aa,aa,aa⟩ aa (by rw[U _ aa];exact j.p1) aI) (CN (n:=12) (imm:=0) (tip:=true) [[105],[106]] ⟨aa,aa,aa⟩ aa (by rw[U _ aa];exact j.l1) aI) ?_ ?_
   .exact(S.aj (fun q _ Y=>⟨aa,aa,aa⟩) aa fun q A h2=>ND).rd.up aa
   .exact(hc3.up aa).ax (fun q _ Y=>⟨aa,aa,aa⟩) aa fun q A h2=>NE
  .rw[hF2];refine CM (n:=13) [103] rfl (CN (n:=12) (imm:=0) (tip:=true) [[110]] ⟨aa,aa,aa⟩ aa (by rw[U _ aa];exact j.p2) aI) (CN (n:=12) (imm:=0) (tip:=true) [[105]] ⟨aa,aa,aa⟩ aa (by rw[U _ aa];exact j.l2) aI) ?_ ?_
   .exact(O.aj (fun q _ Y=>⟨aa,aa,aa⟩) aa fun q A h2=>NF).rd.up aa
   .exact(hd3.up aa).ax (fun q _ Y=>⟨aa,aa,aa⟩) aa fun q A h2=>by rw[U _ aa,V _ aa]
 .have ls:=hat.lt;refine⟨by rw[U _ aa];exact j.ra,by rw[U _ aa,gfHd,o,hF2];rfl,aa,aa,xj,xj,⟨hc1,hc2,?_,?_,?_,?_⟩,⟨hd1,hd2,?_,?_,?_,?_⟩⟩
  .rw[o];exact Cy (n:=13) [[120],[121]] xj aa (by rw[U _ aa];exact j.p1)
  .rw[o];exact Cy (n:=13) [[105],[106]] xj aa (by rw[U _ aa];exact j.l1)
  .rw[o];exact(S.aj (fun q A h2=>YL aa A) aa fun q A h2=>ND).up aa
  .rw[o];exact(hc3.up aa).ax (fun q A h2=>YM aa aa A) aa fun q A h2=>NE
  .rw[hF2];exact Cy (n:=13) [[110]] xj aa (by rw[U _ aa];exact j.p2)
  .rw[hF2];exact Cy (n:=13) [[105]] xj aa (by rw[U _ aa];exact j.l2)
  .rw[hF2];exact(O.aj (fun q A h2=>YN aa aa aa A) aa fun q A h2=>NF).up aa
  .rw[hF2];exact(hd3.up aa).ax (fun q A h2=>YO aa aa aa aa) aa fun q A h2=>by rw[U _ aa,V _ aa]
end
section
def tyQaL.tyF:=ac @dF (ac @cI (ac @cY (ac @fg (ac @fh (ac @eL (ac @pQ (ac @Tm (ac @Tr (ac @Ty (ac @TD (ac @rZ (ac @TQ (ac @dW (ac @dR (ac @dX (ac @dy (ac @ge (ac @iW (ac @eD (ac @U0 (ac @CO (@YP))))))))))))))))))))))
open tyQaL
noncomputable def Gn:En:=⟨54,true,bS (fun p=>p.sz<2^36) fB fun p=>.int .i64 (gK p)⟩
def zaz(ρ:Nat->Int):cS prog ρ Gn:=cZ fun p hp=>Xc ρ p hp
theorem NU{f:FuncId}:∀{tb:qu},(∀e∈tb,Nat.beq e.f f=false)->(∀I,dD tb f I=none)/\ir tb f=false
 |[],_=>⟨fun _=>rfl,rfl⟩
 |e::l,hne=>by
  obtain⟨F,Z⟩:=NU (tb:=l) fun x hx=>hne x (jE _ hx)
  have C:=hne e gW;exact⟨fun I=>by simp only[dD,C];exact F I,by simp only[ir,oc]at Z⊢;simp only[C,mc,nP];exact Z⟩
end
end Go.Proofs.YtbflaciihaijgaaGreat
