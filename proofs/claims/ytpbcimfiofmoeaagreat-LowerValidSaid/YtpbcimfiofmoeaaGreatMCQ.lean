/- Parts: G3, G4, G5p, ChkM, LoL, SpecU, SpecX. -/
import Derived.Test.YtpbcimfiofmoeaaGreatMCP
set_option linter.unusedSimpArgs false
set_option linter.unusedVariables false
set_option linter.unusedSectionVars false
set_option linter.defProp false
set_option maxHeartbeats 32000000
namespace Go.Ab
set_option maxRecDepth 20000
open Go
theorem Eg{P:Prop}(h:P:=by simp only[List.length_map,zmr];omega):P:=h
theorem Eh{P:Prop}(h:P:=by rw[show zmr=70368744177664 from rfl];omega):P:=h
theorem Ei{P:Prop}(h:P:=by simp only[zk9,zlI];omega):P:=h
theorem Je{P:Prop}(h:P:=by rw[List.length_map];exact hlt):P:=h
theorem fD{P:Prop}(h:P:=by unfold znc;omega):P:=h
theorem AG{P:Prop}(h:P:=by show znc (k:Int);unfold znc;omega):P:=h
theorem Ro{P:Prop}(h:P:=by rw[ro,hr,Option.bind_some,Z,Option.bind_some]):P:=h
theorem x4{P:Prop}(h:P:=by simp only;omega):P:=h
theorem Jf{P:Prop}(h:P:=by rw[List.length_set];exact zlH.vl):P:=h
theorem Rp{P:Prop}(h:P:=by rw[List.getD_eq_getElem?_getD,List.getElem?_eq_getElem o];exact List.getElem_mem o):P:=h
theorem Rq{P:Prop}(h:P:=by rw[lu.2.2.2];show q.2.loops=_;rw[lq.n,hrn]):P:=h
theorem Rr{P:Prop}(h:P:=by rw[o4 _ ac ac,zkZ,if_neg ac];exact g2):P:=h
theorem Rt{P:Prop}(h:P:=by rw[o4 _ ac ac,zkZ,if_pos ac]):P:=h
theorem Ej{P:Prop}(h:P:=by rw[Hp.get_set,if_neg ac,zkZ,if_pos rfl];simp):P:=h
theorem Ru{P:Prop}(h:P:=by rw[gB _ _ _ _ ac ac];exact J.get k h1 I):P:=h
def Ek:=@Int.tmod_nonneg
def Jg:=@List.eq_nil_of_length_eq_zero
def rv:=@List.mem_or_eq_of_mem_set
def Jh:=@Int.tmod_eq_emod_of_nonneg
end Go.Ab
namespace Go.Proofs.YtpbcimfiofmoeaaGreat
set_option maxRecDepth 20000
open Go Go.Ab
section
def tyG3.tyF:=ad @ec (ad @cJ (ad @dd (ad @gX (ad @fx (ad @en (ad @zms (ad @Au (ad @qK (@vx)))))))))
open tyG3
noncomputable def Rv:{c:SC // aC 115 (Tryz.f49.body.getD .skip)=c}:=by
 refine⟨?_,?_⟩;rotate_left
 .simp only[Tryz.f49,bI,aC,zll,zle,zlp,zln,Nat.blt,Nat.ble];rfl
def El(f:FuncId):Bool:=Nat.beq f 40||Nat.beq f 49||Nat.beq f 48||Nat.beq f 84||Nat.beq f 25
structure GenL (l:List En):Prop where
 pick:∀ar,zme l 12 ar=uF.sp ar
 word:∀ar,zme l 37 ar=DW.sp ar
 nms:∀ar,zme l 85 ar=DX.sp ar
 pl:∀f,El f=true->(∀ar,zme l f ar=none)/\jb l f=false
theorem GenL.plain{l:List En}(h:GenL l){f:FuncId}(K:El f=true):Plain (zkY pls l) f:=zml (h.pl f K).1 (h.pl f K).2
theorem zpm{f:FuncId}(h:El f=true):f=40\/f=49\/f=48\/f=84\/f=25:=by
 simp only[El,pN]at h;rcases h with(((h|h)|h)|h)|h<;>have e:=jk h<;>subst e<;>simp
def x5(m:Int):Int:=if m.tmod 2=0 then 20 else 21
def tD(m:Int):List UInt8:=if m.tmod 2=0 then [97]else [98]
def zlD(f:Int):Nat->Nat->List Int->Ex×List Int
 |0,_,L=>(.mk 0 0 [] 0 [],L)
 |k+1,deep,L=>
  let n:=(zlK L).1
  let Z:=(zlK L).2
  let q:=zla n 16
  let m:=zla (bE (n.tdiv 16)) 1000
  if q<4\/(3:Int)<deep then
   if q.tmod 2=0\/((3:Int)<deep/\8<q)then (.mk 2 0 ((zlN f).getD (m.tmod (zlN f).length).toNat []) 0 [],Z)
   else (.mk 1 (rY m n) [] 0 [],Z)
  else if q<6 then (.mk 3 0 (tD m) 0 [(zlD f k (deep+1) Z).1],(zlD f k (deep+1) Z).2)
  else if q<7 then
   let a:=zlD f k (deep+1) Z
   let b:=zlD f k (deep+1) a.2
   let c:=zlD f k (deep+1) b.2
   (.mk 5 0 [] 0 [a.1,b.1,c.1],c.2)
  else if q<9 then (.mk 4 0 [] (x5 m) [(zlD f k (deep+1) Z).1],(zlD f k (deep+1) Z).2)
  else
   let a:=zlD f k (deep+1) Z
   let b:=zlD f k (deep+1) a.2
   (.mk 4 0 [] (bE (4+m.tmod 15)) [a.1,b.1],b.2)
theorem pr(L:List Int):(zlK L).2.length<=L.length:=by cases L<;>simp[zlK]
theorem zmF(f:Int):∀(k m:Nat) (L:List Int),(zlD f k m L).2.length<=L.length
 |0,_,_=>aB _
 |k+1,m,L=>by
  have h:=pr L;have ih:=fun L=>zmF f k (m+1) L;simp only[zlD];split
  .split<;>exact h
  .split
   .exact dc (ih _) h
   .split
    .exact dc (ih _) (dc (ih _) (dc (ih _) h))
    .split
     .exact dc (ih _) h
     .exact dc (ih _) (dc (ih _) h)
def AH(z n lo:Nat)(H:Hp)(r:Nat)(ws:List AV)(L:List Int)(c:Int)(v:AV)(H':Hp):Prop:=
 (∃Z,v=.agg Z/\Z.length=z/\Z.all AV.one=true/\zlJ (fun q=>H.next<=q) n H' Z ws)/\iZ lo H' r L c/\H.next<=H'.next/\∀q,q<H.next->q≠r->H'.get q=H.get q
theorem sc{Z:Type}(l:List Z)(M:(l.length:Int)≠0){m:Int}(V:0<=m)(d:Z):0<=m.tmod l.length/\l[(m.tmod l.length).toNat]?=some (l.getD (m.tmod l.length).toNat d):=by
 have Y:=Ek (l.length:Int) V;have j:=wm m (b:=(l.length:Int)) ac;refine⟨Y,?_⟩;generalize m.tmod l.length=t at *;rw[dx,aT ac];rfl
theorem Em{m:Int}(h:0<=m):0<=m.tmod 2/\m.tmod 2<2:=⟨Ek _ h,wm _ ac⟩
theorem tE{m:Int}(h:0<=m)(r:Nat):zlO Tryz.prog 59 (.sl r 0 2 1) (.int .i64 (m.tmod 2))=some (.ptr r (m.tmod 2).toNat):=by
 obtain⟨Z,j⟩:=Em h;rw[GJ _ _ _ _ Z,fY (by omega:(m.tmod 2).toNat<2)];simp
theorem zhV{m:Int}(h:0<=m)(r:Nat):zlO Tryz.prog 23 (.sl r 0 2 1) (.int .i64 (m.tmod 2))=some (.ptr r (m.tmod 2).toNat):=by
 obtain⟨Z,j⟩:=Em h;rw[GH _ _ _ _ Z,fY (by omega:(m.tmod 2).toNat<2)];simp
theorem Ji{Z:Type}{m:Int}(h:0<=m)(a b:Z):[a,b][(m.tmod 2).toNat]?=some (if m.tmod 2=0 then a else b):=by
 obtain⟨Y,j⟩:=Em h;rcases(by omega:m.tmod 2=0\/m.tmod 2=1)with e|e<;>rw[e]<;>rfl
theorem tF{m:Int}(h:0<=m):[AV.str [97],AV.str [98]][(m.tmod 2).toNat]?=some (.str (tD m)):=by
 rw[Ji h,tD];split<;>rfl
theorem zhW{m:Int}(h:0<=m):[AV.int .i64 20,AV.int .i64 21][(m.tmod 2).toNat]?=some (.int .i64 (x5 m)):=by
 rw[Ji h,x5];split<;>rfl
theorem bx2(s:List UInt8):zma Tryz.prog 63 [(0,.int .i64 2),(2,.str s)]=some (.agg [.int .i64 2,.int .i64 0,.str s,.int .i64 0,.nilS]):=aj
theorem bx1(n:Int):zma Tryz.prog 63 [(0,.int .i64 1),(1,.int .i64 n)]=some (.agg [.int .i64 1,.int .i64 n,.str [],.int .i64 0,.nilS]):=aj
theorem bx3(s:List UInt8)(r n:Nat):zma Tryz.prog 63 [(0,.int .i64 3),(2,.str s),(4,.sl r 0 n 5)]=some (.agg [.int .i64 3,.int .i64 0,.str s,.int .i64 0,.sl r 0 n 5]):=aj
theorem bx5(r n:Nat):zma Tryz.prog 63 [(0,.int .i64 5),(4,.sl r 0 n 5)]=some (.agg [.int .i64 5,.int .i64 0,.str [],.int .i64 0,.sl r 0 n 5]):=aj
theorem Rw(o:Int)(r n:Nat):zma Tryz.prog 63 [(0,.int .i64 4),(3,.int .i64 o),(4,.sl r 0 n 5)]=some (.agg [.int .i64 4,.int .i64 0,.str [],.int .i64 o,.sl r 0 n 5]):=aj
theorem zmq{cs:List AV}(h:cs.length=5):∃a b c d e,cs=[a,b,c,d,e]:=by
 match cs,h with
 |[a,b,c,d,e],_=>exact⟨a,b,c,d,e,rfl⟩
theorem Jj(H:Hp){cs:List AV}(h:cs.length=5)(h1:cs.all AV.one=true):zmb Tryz.prog H 61 1 [(0,.agg cs)]=some (.sl H.next 0 1 5,H.alloc (.cells cs 0 true)):=by
 obtain⟨a,b,c,d,e,rfl⟩:=zmq h;kernel_rfl
theorem zh1(H:Hp){cs Y:List AV}(h:cs.length=5)(k:Y.length=5):zmb Tryz.prog H 61 2 [(0,.agg cs),(1,.agg Y)]=some (.sl H.next 0 2 5,H.alloc (.cells (cs++Y) 0 true)):=by
 obtain⟨a,b,c,d,e,rfl⟩:=zmq h;obtain⟨Z,b',V,C,U,rfl⟩:=zmq k;kernel_rfl
theorem zh2(H:Hp){cs Y I:List AV}(h:cs.length=5)(k:Y.length=5)(l:I.length=5):zmb Tryz.prog H 61 3 [(0,.agg cs),(1,.agg Y),(2,.agg I)]=some (.sl H.next 0 3 5,H.alloc (.cells (cs++Y++I) 0 true)):=by
 obtain⟨a,b,c,d,e,rfl⟩:=zmq h;obtain⟨M,b',K,C,J,rfl⟩:=zmq k;obtain⟨U,V,Z,O,j,rfl⟩:=zmq l;kernel_rfl
theorem Rz(H:Hp)(a b:Int):zmb Tryz.prog H 23 2 [(0,.int .i64 a),(1,.int .i64 b)]=some (.sl H.next 0 2 1,H.alloc (.cells [.int .i64 a,.int .i64 b] 0 true)):=aj
theorem AI(a b c d e:AV):zlT 5 [a,b,c,d,e]=some (.agg [a,b,c,d,e]):=rfl
set_option maxRecDepth 100000 in
theorem jY{lG:List En}(hG:GenL lG):∀(k:Nat) (f:Int) (Z:Nat),5<=Z+k->Z<=4->∀(lo:Nat) (H:Hp) (r:Nat) (L:List Int) (c:Int),iZ lo H r L c->L.length<2^60 ->
 zk5 Tryz.prog (zkY pls lG) 49 [.ptr r 0,.int .i64 f,.int .i64 Z] H (AH 5 (k+1) lo H r (zlD f k Z L).1.cells (zlD f k Z L).2 c)
 |0,f,Z,Y,j,_,_,_,_,_,_,_=>by omega
 |k+1,f,Z,Y,j,lo,H,r,L,c,hrd,hL=>by
  have hw:Plain (zkY pls lG) 49:=hG.plain dT;have hnx:Plain (zkY pls lG) 40:=hG.plain dT;have hrl:=hrd.1;have hlo:=hrd.2.1;have hq16:(16:Int)≠0:=aE;generalize C:zlD f (k+1) Z L=R;rw[zlD]at C;simp only[]at C;refine zlf (M:=115) (rs:=[.cell 6 63]) (hw.call _) hw.ice hw.froz Tryz.func49 rfl rfl Rv.2 rfl ?_;dsimp only[Rv,zD,Nat.reduceAdd];repeat' (first
   |(apply ah ?_;clear hK K)|apply Rx.o ?_|apply ak ?_|(apply zkU fun K hK=>?_)|fail)
  refine aZ rfl bc bi ?_;simp only[bj];refine aS ?_ (DY hnx (hrd.keep (dQ _) fun q J=>gk) hL);rintro v H2 ⟨rfl,V,n2,o2⟩;simp only[zk9]at n2;have g2:H2.get H.next=some (.cells [.int .i64 0,.int .i64 0,.str [],.int .i64 0,.nilS] 0 true):=by rw[o2 _ ac,zkZ,am rfl]
  have O:∀q,q<H.next->q≠r->H2.get q=H.get q:=fun q Y j=>by rw[o2 q j,zkZ,af ac]
  have hL1:=pr L;generalize (zlK L).1=n at *;generalize (zlK L).2=L1 at *;have J:=zmO (n:=n) (m:=16) ac ac;have hm:=zmO (n:=bE (n.tdiv 16)) (m:=1000) ac ac;have hq2:(2:Int)≠0:=aE;have hq15:(15:Int)≠0:=aE;have hlen0:((zlN f).length:Int)≠0:=by rcases tz f with h|h<;>rw[h]<;>decide
  have hwd:IntKind.wrap .i64 ((Z:Int)+1)=((Z+1:Nat):Int):=zm3 ac;clear o2;dsimp only[zk6];obtain⟨hi0,hix⟩:=sc (zlN f) hlen0 hm.1 [];have hxs:=tE hm.1;have hxi:=zhV hm.1;have hxa:=tF hm.1;have hxo:=zhW hm.1;have kf:∀(H3:Hp) (x:Ex),iZ lo H3 r L1 c->H.next<=H3.next->(∀q,q<H.next->q≠r->H3.get q=H.get q)->∀cs,cs.length=5->cs.all AV.one=true->zlJ (fun q=>H.next<=q) (k+2) H3 cs x.cells->AH 5 (k+2) lo H r x.cells L1 c (.agg cs) H3:=fun H3 x q1 q2 q3 cs q4 q5 q6=>⟨⟨cs,rfl,q4,q5,q6⟩,q1,q2,q3⟩
  have gh0:=@bx2;have gh1:=@bx1;have gh2:=@AI;have gh3:=@Rz;repeat' (first
   |(apply ah ?_;clear hK K)|apply Rx.o ?_|apply bS ?_|(apply eM ?_;first|refine zlc (PV hG.nms _ _) ?_|refine zlc (znn hG.pick _ _ aE _) ?_|refine zlc (zAN hG.word _ _ _) ?_)|apply qP ?_|(apply cz (fun hg hgp=>?_) (fun hg hgp=>?_)<;>try(cases hg;done))|(apply a0 (fun hb hbp=>?_) (fun hb hbp=>?_)<;>try(cases hb;done))|apply ak ?_|(apply zkU fun K hK=>?_)|(apply zmm 10 [(0,9),(0,12),(4,9),(4,12),(10,12)] fun K hK=>?_)|(apply zmm 14 [(0,9),(0,12),(4,9),(4,12),(10,12)] fun K hK=>?_)|(apply zlC ?_;try intro _)|apply bZ ?_|apply aG ?_|apply zk3 ?_|apply aF ?_)
  .refine⟨eI,_,(by(try simp only[zk1,zk7,Nat.reduceBEq,tyF,zlX,zl1, *]);first|done|with_reducible rfl),?_⟩;try simp only[zkX]
   first
   |rw[am ac,am ac]at C
   |rw[am ac,af ac]at C
   subst C;refine kf _ _ ?_ ?_ ?_ _ rfl rfl (oo _ _ _ _)
   .exact V.keep (aB _) fun q J=>kE
   .simp only[zli];omega
   .intro q Y j;rw[aJ,af ac];exact O q Y j
  .refine⟨eI,_,(by(try simp only[zk1,zk7,Nat.reduceBEq,tyF,zlX,zl1, *]);first|done|with_reducible rfl),?_⟩;try simp only[zkX]
   first
   |rw[am ac,am ac]at C
   |rw[am ac,af ac]at C
   subst C;refine kf _ _ ?_ ?_ ?_ _ rfl rfl (oo _ _ _ _)
   .exact V.keep (aB _) fun q J=>kE
   .simp only[zli];omega
   .intro q Y j;rw[aJ,af ac];exact O q Y j
  .refine⟨eI,_,(by(try simp only[zk1,zk7,Nat.reduceBEq,tyF,zlX,zl1, *]);first|done|with_reducible rfl),?_⟩;try simp only[zkX]
   first
   |rw[am ac,am ac]at C
   |rw[am ac,af ac]at C
   subst C;refine kf _ _ ?_ ?_ ?_ _ rfl rfl (oo _ _ _ _)
   .exact V.keep (aB _) fun q J=>kE
   .simp only[zli];omega
   .intro q Y j;rw[aJ,af ac];exact O q Y j
  ·-- one operand
   have er:(H.next == r)=false:=zkV ac;refine aZ rfl bc bi ?_;simp only[iw];refine aS ?_ (jY hG k f (Z+1) ac ac lo _ r L1 c (V.keep (dQ _) fun q J=>gk) ac);rintro v I ⟨⟨cs,rfl,U,hc2,o⟩,z,n4,o4⟩;simp only[zk9]at n4 o4 o;have g4:I.get H.next=some (.cells [.int .i64 0,.int .i64 0,.str [],.int .i64 0,.nilS] 0 true):=Rr
   have g4s:I.get (H.next+1)=some (.cells [.str [97],.str [98]] 0 true):=Rt;have kb:=fun H=>Jj H U hc2;have e4:(H.next == I.next)=false:=zkV ac;have e5:(H.next+1 == I.next)=false:=zkV ac;dsimp only[zk6];have gh0:=@AI;have gh1:=@bx3;repeat' (first
    |apply Rx.o ?_|apply bS ?_|(apply zlC ?_;try intro _)|(apply zmk ?_ ?_<;>clear hK K)|apply bZ ?_|apply zmK rfl ?_|apply aF ?_)
   .exact zlU
   .refine⟨eI,_,(by(try simp only[zk1,zk7,Nat.reduceBEq,tyF,zlX,zl1, *]);first|done|with_reducible rfl),?_⟩;try simp only[zkX]
    rw[af ac,am ac]at C;subst C;refine⟨⟨_,rfl,rfl,rfl,?_⟩,?_,?_,?_⟩
    .refine uH (n:=k+1) _ _ _ _ (tA (n:=k+1) (a:=[cs]) (imm:=0) (tip:=true) (by show H.next<=I.next;omega) iI Ej ax ⟨⟨U,o.keep (fun q J=>ac) iI fun q Y j=>nX⟩,trivial⟩)
    .exact z.keep iI fun q J=>nX
    .simp only[zli,zk9];omega
    .intro q Y j;rw[aJ,af ac,zkZ,af ac,o4 _ ac j,zkZ,af ac];exact O q Y j
  ·-- more operands
   have er:(H.next == r)=false:=zkV ac;refine aZ rfl bc bi ?_;simp only[bj];refine aS ?_ (jY hG k f (Z+1) ac ac lo _ r L1 c V ac);rintro v I ⟨⟨cs,rfl,U,hc2,o⟩,z,n4,o4⟩;have hl4:=zmF f k (Z+1) L1;dsimp only[zk6];repeat' (first
    |apply Rx.o ?_|fail)
   refine aZ rfl bc bi ?_;simp only[bj];refine aS ?_ (jY hG k f (Z+1) ac ac lo I r (zlD f k (Z+1) L1).2 c z ac);rintro v H5 ⟨⟨ds,rfl,hd1,hd2,hd3⟩,hr5,n5,o5⟩;have hl5:=zmF f k (Z+1) (zlD f k (Z+1) L1).2;dsimp only[zk6];repeat' (first
    |apply Rx.o ?_|fail)
   refine aZ rfl bc bi ?_;simp only[bj];refine aS ?_ (jY hG k f (Z+1) ac ac lo H5 r (zlD f k (Z+1) (zlD f k (Z+1) L1).2).2 c hr5 ac);rintro v H6 ⟨⟨es,rfl,he1,he2,he3⟩,hr6,n6,o6⟩;have hl6:=zmF f k (Z+1) (zlD f k (Z+1) (zlD f k (Z+1) L1).2).2;dsimp only[zk6];have gz:H6.get H.next=some (.cells [.int .i64 0,.int .i64 0,.str [],.int .i64 0,.nilS] 0 true):=by rw[o6 _ ac ac,o5 _ ac ac,o4 _ ac ac];exact g2
   have kb:=fun H=>zh2 H U hd1 he1;have e4:(H.next == H6.next)=false:=zkV ac;have gh0:=@AI;have gh1:=@bx5;repeat' (first
    |(apply ah ?_;clear hK K)|apply Rx.o ?_|apply bS ?_|apply aF ?_)
   refine⟨eI,_,(by(try simp only[zk1,zk7,Nat.reduceBEq,tyF,zlX,zl1, *]);first|done|with_reducible rfl),?_⟩;try simp only[zkX]
   rw[af ac,af ac,am ac]at C;subst C;refine⟨⟨_,rfl,rfl,rfl,?_⟩,?_,?_,?_⟩
   .refine uH (n:=k+1) _ _ _ _ (tA (n:=k+1) (a:=[cs,ds,es]) (imm:=0) (tip:=true) (by show H.next<=H6.next;omega) iI Ej ax ⟨⟨U,o.keep (fun q J=>ac) iI fun q Y j=>by rw[aJ,af ac,zkZ,af ac,o6 _ ac ac,o5 _ ac ac]⟩,⟨hd1,hd3.keep (fun q J=>ac) iI fun q Y j=>by rw[aJ,af ac,zkZ,af ac,o6 _ ac ac]⟩,⟨he1,he3.keep (fun q J=>ac) iI fun q Y j=>nX⟩,trivial⟩)
   .exact hr6.keep iI fun q J=>nX
   .simp only[zli,zk9];omega
   .intro q Y j;rw[aJ,af ac,zkZ,af ac,o6 _ ac j,o5 _ ac j,o4 _ ac j];exact O q Y j
  ·-- one operand
   have er:(H.next == r)=false:=zkV ac;refine aZ rfl bc bi ?_;simp only[iw];refine aS ?_ (jY hG k f (Z+1) ac ac lo _ r L1 c (V.keep (dQ _) fun q J=>gk) ac);rintro v I ⟨⟨cs,rfl,U,hc2,o⟩,z,n4,o4⟩;simp only[zk9]at n4 o4 o;have g4:I.get H.next=some (.cells [.int .i64 0,.int .i64 0,.str [],.int .i64 0,.nilS] 0 true):=Rr
   have g4s:I.get (H.next+1)=some (.cells [.int .i64 20,.int .i64 21] 0 true):=Rt;have kb:=fun H=>Jj H U hc2;have e4:(H.next == I.next)=false:=zkV ac;have e5:(H.next+1 == I.next)=false:=zkV ac;dsimp only[zk6];have gh0:=@Rz;have gh1:=@AI;have gh2:=@Rw;repeat' (first
    |apply Rx.o ?_|apply bS ?_|(apply zlC ?_;try intro _)|(apply zmk ?_ ?_<;>clear hK K)|apply bZ ?_|apply zmK rfl ?_|apply aF ?_)
   .exact zlU
   .refine⟨eI,_,(by(try simp only[zk1,zk7,Nat.reduceBEq,tyF,zlX,zl1, *]);first|done|with_reducible rfl),?_⟩;try simp only[zkX]
    rw[af ac,af ac,af ac,am ac]at C;subst C;refine⟨⟨_,rfl,rfl,rfl,?_⟩,?_,?_,?_⟩
    .refine uH (n:=k+1) _ _ _ _ (tA (n:=k+1) (a:=[cs]) (imm:=0) (tip:=true) (by show H.next<=I.next;omega) iI Ej ax ⟨⟨U,o.keep (fun q J=>ac) iI fun q Y j=>nX⟩,trivial⟩)
    .exact z.keep iI fun q J=>nX
    .simp only[zli,zk9];omega
    .intro q Y j;rw[aJ,af ac,zkZ,af ac,o4 _ ac j,zkZ,af ac];exact O q Y j
  ·-- more operands
   have er:(H.next == r)=false:=zkV ac;refine aZ rfl bc bi ?_;simp only[bj];refine aS ?_ (jY hG k f (Z+1) ac ac lo _ r L1 c V ac);rintro v I ⟨⟨cs,rfl,U,hc2,o⟩,z,n4,o4⟩;have hl4:=zmF f k (Z+1) L1;dsimp only[zk6];repeat' (first
    |apply Rx.o ?_|fail)
   refine aZ rfl bc bi ?_;simp only[bj];refine aS ?_ (jY hG k f (Z+1) ac ac lo I r (zlD f k (Z+1) L1).2 c z ac);rintro v H5 ⟨⟨ds,rfl,hd1,hd2,hd3⟩,hr5,n5,o5⟩;have hl5:=zmF f k (Z+1) (zlD f k (Z+1) L1).2;dsimp only[zk6];have gz:H5.get H.next=some (.cells [.int .i64 0,.int .i64 0,.str [],.int .i64 0,.nilS] 0 true):=by rw[o5 _ ac ac,o4 _ ac ac];exact g2
   have kb:=fun H=>zh1 H U hd1;have e4:(H.next == H5.next)=false:=zkV ac;have gh0:=@AI;have gh1:=@Rw;repeat' (first
    |(apply ah ?_;clear hK K)|apply Rx.o ?_|apply bS ?_|apply aF ?_)
   refine⟨eI,_,(by(try simp only[zk1,zk7,Nat.reduceBEq,tyF,zlX,zl1, *]);first|done|with_reducible rfl),?_⟩;try simp only[zkX]
   rw[af ac,af ac,af ac,af ac]at C;subst C;refine⟨⟨_,rfl,rfl,rfl,?_⟩,?_,?_,?_⟩
   .refine uH (n:=k+1) _ _ _ _ (tA (n:=k+1) (a:=[cs,ds]) (imm:=0) (tip:=true) (by show H.next<=H5.next;omega) iI Ej ax ⟨⟨U,o.keep (fun q J=>ac) iI fun q Y j=>by rw[aJ,af ac,zkZ,af ac,o5 _ ac ac]⟩,⟨hd1,hd3.keep (fun q J=>ac) iI fun q Y j=>nX⟩,trivial⟩)
   .exact hr5.keep iI fun q J=>nX
   .simp only[zli,zk9];omega
   .intro q Y j;rw[aJ,af ac,zkZ,af ac,o5 _ ac j,o4 _ ac j];exact O q Y j
  .refine⟨eI,_,(by(try simp only[zk1,zk7,Nat.reduceBEq,tyF,zlX,zl1, *]);first|done|with_reducible rfl),?_⟩;try simp only[zkX]
   first
   |rw[am ac,am ac]at C
   |rw[am ac,af ac]at C
   subst C;refine kf _ _ ?_ ?_ ?_ _ rfl rfl (oo _ _ _ _)
   .exact V.keep (aB _) fun q J=>kE
   .simp only[zli];omega
   .intro q Y j;rw[aJ,af ac];exact O q Y j
  .refine⟨eI,_,(by(try simp only[zk1,zk7,Nat.reduceBEq,tyF,zlX,zl1, *]);first|done|with_reducible rfl),?_⟩;try simp only[zkX]
   first
   |rw[am ac,am ac]at C
   |rw[am ac,af ac]at C
   subst C;refine kf _ _ ?_ ?_ ?_ _ rfl rfl (oo _ _ _ _)
   .exact V.keep (aB _) fun q J=>kE
   .simp only[zli];omega
   .intro q Y j;rw[aJ,af ac];exact O q Y j
  .refine⟨eI,_,(by(try simp only[zk1,zk7,Nat.reduceBEq,tyF,zlX,zl1, *]);first|done|with_reducible rfl),?_⟩;try simp only[zkX]
   first
   |rw[am ac,am ac]at C
   |rw[am ac,af ac]at C
   subst C;refine kf _ _ ?_ ?_ ?_ _ rfl rfl (oo _ _ _ _)
   .exact V.keep (aB _) fun q J=>kE
   .simp only[zli];omega
   .intro q Y j;rw[aJ,af ac];exact O q Y j
  .refine⟨eI,_,(by(try simp only[zk1,zk7,Nat.reduceBEq,tyF,zlX,zl1, *]);first|done|with_reducible rfl),?_⟩;try simp only[zkX]
   first
   |rw[am ac,am ac]at C
   |rw[am ac,af ac]at C
   subst C;refine kf _ _ ?_ ?_ ?_ _ rfl rfl (oo _ _ _ _)
   .exact V.keep (aB _) fun q J=>kE
   .simp only[zli];omega
   .intro q Y j;rw[aJ,af ac];exact O q Y j
end
section
def tyG4.tyF:=ad @cJ (ad @gX (ad @em (ad @xf (ad @eY (ad @dd (ad @fx (ad @en (@zms))))))))
open tyG4
noncomputable def RA:{c:SC // aC 36 (Tryz.f48.body.getD .skip)=c}:=by
 refine⟨?_,?_⟩;rotate_left
 .simp only[Tryz.f48,bI,aC,zll,zle,zlp,zln,Nat.blt,Nat.ble];rfl
noncomputable def sd:{c:SC // aC 156 (Tryz.f84.body.getD .skip)=c}:=by
 refine⟨?_,?_⟩;rotate_left
 .simp only[Tryz.f84,bI,aC,zll,zle,zlp,zln,Nat.blt,Nat.ble];rfl
abbrev zl9:=List Int×Int
def iA(step:zl9->St×zl9):Nat->zl9->List St×zl9
 |0,s=>([],s)
 |n+1,s=>if s.1=[]then ([],s)else ((step s).1::(iA step n (step s).2).1,(iA step n (step s).2).2)
def iJ(f:Int):Nat->List Int->List Ex×List Int
 |0,L=>([],L)
 |n+1,L=>((zlD f 3 2 L).1::(iJ f n (zlD f 3 2 L).2).1,(iJ f n (zlD f 3 2 L).2).2)
def zm1:Ex:=.mk 0 0 [] 0 []
def lQ(m:Int):List UInt8:=if m.tmod 2=0 then [102]else [103]
def ig(Y:Int->zl9->List St×zl9)(f:Int)(Z:List Int)(c q m:Int):St×zl9:=
 if q<6 then (.mk 1 ((zlN f).getD (m.tmod (zlN f).length).toNat []) [] 0 zm1 (zlD f 5 0 Z).1 [] [] [],((zlD f 5 0 Z).2,c))
 else if q<8 then (.mk 2 (tD m) [] 0 (zlD f 3 2 Z).1 (zlD f 4 1 (zlD f 3 2 Z).2).1 [] [] [],((zlD f 4 1 (zlD f 3 2 Z).2).2,c))
 else if q<10 then (.mk 3 [] [] 0 zm1 (zlD f 4 1 Z).1 [] (Y 3 ((zlD f 4 1 Z).2,c)).1 (Y 2 (Y 3 ((zlD f 4 1 Z).2,c)).2).1,(Y 2 (Y 3 ((zlD f 4 1 Z).2,c)).2).2)
 else if q<12 then (.mk 4 [] [] 0 zm1 (zlD f 4 1 Z).1 [] (Y 3 ((zlD f 4 1 Z).2,bE (c+1))).1 [],(Y 3 ((zlD f 4 1 Z).2,bE (c+1))).2)
 else if q<14 then (.mk 5 [] [] 0 zm1 (zlD f 4 1 Z).1 [] [] [],((zlD f 4 1 Z).2,c))
 else if q<15 then (.mk 6 ((zlN f).getD (m.tmod (zlN f).length).toNat []) (lQ m) 0 zm1 zm1 (iJ f (2-m.tmod 2).toNat Z).1 [] [],((iJ f (2-m.tmod 2).toNat Z).2,c))
 else (.mk 7 [] [] m zm1 zm1 [] [] [],(Z,c))
def wy(deep:Nat)(c M:Int):Int:=if ((2:Int)<deep/\8<=M/\M<12)\/(10<=c/\10<=M)then 0 else M
def wz(m:Int->zl9->List St×zl9)(f:Int)(deep:Nat)(s:zl9):St×zl9:=
 ig m f (zlK s.1).2 s.2 (wy deep s.2 (zla (zlK s.1).1 16)) (zla (bE ((zlK s.1).1.tdiv 16)) 1000)
def ii(f:Int):Nat->Nat->zl9->St×zl9
 |0,_,s=>(.mk 0 [] [] 0 zm1 zm1 [] [] [],s)
 |k+1,deep,s=>wz (fun j s=>iA (ii f k (deep+1)) (zla (zlK s.1).1 (j+1)).toNat ((zlK s.1).2,s.2)) f deep s
def mP(f:Int)(k deep:Nat)(j:Int)(s:zl9):List St×zl9:=iA (ii f k deep) (zla (zlK s.1).1 (j+1)).toNat ((zlK s.1).2,s.2)
theorem AJ{step:zl9->St×zl9}(h:∀s,(step s).2.1.length<=s.1.length):∀(n:Nat) (s:zl9),(iA step n s).2.1.length<=s.1.length
 |0,_=>aB _
 |n+1,s=>by
  rw[iA];split
  .exact aB _
  .exact dc (AJ h n _) (h s)
theorem Jk(f:Int):∀(n:Nat) (L:List Int),(iJ f n L).2.length<=L.length
 |0,_=>aB _
 |n+1,L=>dc (Jk f n _) (zmF f 3 2 L)
theorem ztP{m:Int->zl9->List St×zl9}(h2:∀(Z:Int) (s:zl9),(m Z s).2.1.length<=s.1.length)(f:Int)(deep:Nat)(s:zl9):(wz m f deep s).2.1.length<=s.1.length:=by
 have h:=pr s.1;have j:=zmF f 4 1 (zlK s.1).2;have Y:=zmF f 5 0 (zlK s.1).2;have o:=zmF f 3 2 (zlK s.1).2;have U:=zmF f 4 1 (zlD f 3 2 (zlK s.1).2).2;rw[wz,ig];generalize wy deep s.2 (zla (zlK s.1).1 16)=q;by_cases V:q<6
 .rw[am V];exact dc Y h
 rw[af V];by_cases O:q<8
 .rw[am O];exact dc U (dc o h)
 rw[af O];by_cases M:q<10
 .rw[am M];exact dc (h2 _ _) (dc (h2 _ _) (dc j h))
 rw[af M];by_cases K:q<12
 .rw[am K];exact dc (h2 _ _) (dc j h)
 rw[af K];by_cases J:q<14
 .rw[am J];exact dc j h
 rw[af J];by_cases I:q<15
 .rw[am I];exact dc (Jk f _ _) h
 rw[af I];exact h
theorem AK(f:Int):∀(k m:Nat) (s:zl9),(ii f k m s).2.1.length<=s.1.length
 |0,_,_=>aB _
 |k+1,m,s=>ztP (fun j s=>dc (AJ (AK f k (m+1)) _ _) (pr s.1)) f m s
def wA(k:Int)(nm Y:List UInt8)(n:Int)(a v:List AV)(M Z j:AV):List AV:=[.int .i64 k,.str nm,.str Y,.int .i64 n]++a++v++[M,Z,j]
theorem pw{S:Nat->Prop}{n:Nat}{H:Hp}(k:Int)(nm Y:List UInt8)(K:Int){a v:List AV}{J V:Ex}{M Z j:AV}{al:List Ex}{I U:List St}(O:zlJ S (n+1) H a J.cells)(C:zlJ S (n+1) H v V.cells)(h1:fd S (n+1) H M (.lst (al.map Ex.cells)))(h2:fd S (n+1) H Z (.lst (I.map St.cells)))(z:fd S (n+1) H j (.lst (U.map St.cells))):
 zlJ S (n+1) H (wA k nm Y K a v M Z j) (St.mk k nm Y K J V al I U).cells:=by
 have e:(St.mk k nm Y K J V al I U).cells=[.int .i64 k,.str nm,.str Y,.int .i64 K]++J.cells++V.cells++[.lst (al.map Ex.cells),.lst (I.map St.cells),.lst (U.map St.cells)]:=by
  rw[oP,mc,mc];rfl
 rw[e];exact(((zlJ.cons (.int _ _) (.cons (.str _) (.cons (.str _) (.cons (.int _ _) .nil)))).append O).append C).append (.cons h1 (.cons h2 (.cons z .nil)))
def znZ:List AV:=[.int .i64 0,.int .i64 0,.str [],.int .i64 0,.nilS]
theorem nD{S:Nat->Prop}{n:Nat}{H:Hp}:zlJ S (n+1) H znZ zm1.cells:=oo 0 0 0 []
theorem bS1(nm:List UInt8){v:List AV}(h:v.length=5):zma Tryz.prog 96 [(0,.int .i64 1),(1,.str nm),(5,.agg v)]=some (.agg (wA 1 nm [] 0 znZ v .nilS .nilS .nilS)):=by
 obtain⟨a,b,c,d,e,rfl⟩:=zmq h;kernel_rfl
theorem bS2(nm:List UInt8){a v:List AV}(h:a.length=5)(k:v.length=5):zma Tryz.prog 96 [(0,.int .i64 2),(1,.str nm),(4,.agg a),(5,.agg v)]=some (.agg (wA 2 nm [] 0 a v .nilS .nilS .nilS)):=by
 obtain⟨a,b,c,d,e,rfl⟩:=zmq h;obtain⟨Z,b',Y,C,V,rfl⟩:=zmq k;kernel_rfl
theorem bS3(k:Int){v:List AV}(h:v.length=5):zma Tryz.prog 96 [(0,.int .i64 k),(5,.agg v)]=some (.agg (wA k [] [] 0 znZ v .nilS .nilS .nilS)):=by
 obtain⟨a,b,c,d,e,rfl⟩:=zmq h;kernel_rfl
theorem bS6(nm Z:List UInt8):zma Tryz.prog 96 [(0,.int .i64 6),(1,.str nm),(2,.str Z)]=some (.agg (wA 6 nm Z 0 znZ znZ .nilS .nilS .nilS)):=aj
theorem bS7(n:Int):zma Tryz.prog 96 [(0,.int .i64 7),(3,.int .i64 n)]=some (.agg (wA 7 [] [] n znZ znZ .nilS .nilS .nilS)):=aj
theorem zh9{cs:List AV}(h:cs.length=17):∃c0 Z j o Y O U z V M K J I C m d5 d6,cs=[c0,Z,j,o,Y,O,U,z,V,M,K,J,I,C,m,d5,d6]:=by
 match cs,h with
 |[c0,Z,j,o,Y,O,U,z,V,M,K,J,I,C,m,d5,d6],_=>exact⟨c0,Z,j,o,Y,O,U,z,V,M,K,J,I,C,m,d5,d6,rfl⟩
theorem zia(H:Hp){cs:List AV}(h:cs.length=17):zmb Tryz.prog H 60 1 [(0,.agg cs)]=some (.sl H.next 0 1 17,H.alloc (.cells cs 0 true)):=by
 obtain⟨c0,Z,j,o,Y,O,U,z,V,M,K,J,I,C,m,d5,d6,rfl⟩:=zh9 h;kernel_rfl
def zib(z n lo:Nat)(H:Hp)(r:Nat)(ws:List (List AV))(L:List Int)(c:Int)(v:AV)(H':Hp):Prop:=
 zmf (fun q=>H.next<=q) n H' z v ws/\iZ lo H' r L c/\H.next<=H'.next/\∀q,q<H.next->q≠r->H'.get q=H.get q
theorem iZ.len{lo:Nat}{H:Hp}{r:Nat}{L:List Int}{c:Int}(h:iZ lo H r L c):∃v,H.get r=some (.cells [v,.int .i64 c] 0 true)/\∀H',zlS Tryz.prog H' 23 v=some (.int .i64 L.length):=by
 obtain⟨_,_,v,m,j⟩:=h;refine⟨v,m,fun H'=>?_⟩;rcases j with⟨rfl,rfl⟩|⟨b,U,z,Z,rfl,_⟩
 .exact jD Tryz.underlying23 _
 .exact znB Tryz.underlying23 _ _ _ _
def qs(K:List En)(k:Nat)(f:Int)(deep:Nat):Prop:=∀(lo:Nat) (H:Hp) (r:Nat) (s:zl9),iZ lo H r s.1 s.2->s.1.length<2^60 ->
 zk5 Tryz.prog (zkY pls K) 84 [.ptr r 0,.int .i64 f,.int .i64 deep] H (AH 17 (8+k) lo H r (ii f k deep s).1.cells (ii f k deep s).2.1 (ii f k deep s).2.2)
set_option maxRecDepth 100000 in
theorem AL{lG:List En}(hG:GenL lG){k:Nat}{f:Int}{deep:Nat}(hst:qs lG k f deep)(Z:Int)(h0:0<=Z)(h1:Z<=5)(lo:Nat)(H:Hp)(r:Nat)(s:zl9)(I:iZ lo H r s.1 s.2)(hL:s.1.length<2^60):
 zk5 Tryz.prog (zkY pls lG) 48 [.ptr r 0,.int .i64 f,.int .i64 deep,.int .i64 Z] H (zib 17 (8+k) lo H r ((mP f k deep Z s).1.map St.cells) (mP f k deep Z s).2.1 (mP f k deep Z s).2.2):=by
 have hw:Plain (zkY pls lG) 48:=hG.plain dT;have hkeep:(zkY pls lG).keep 48=false:=rfl;have hnx:Plain (zkY pls lG) 40:=hG.plain dT;have hrl:=I.1;have hlo:=I.2.1;have hw1:IntKind.wrap .i64 (Z+1)=Z+1:=znj ac ac;rw[mP];refine zlf (M:=36) (rs:=[.tmp 8]) (hw.call _) hw.ice hw.froz Tryz.func48 rfl rfl RA.2 rfl ?_;dsimp only[RA,zD,Nat.reduceAdd];repeat' (first
  |(apply ah ?_;clear hK K)|apply Rx.o ?_|apply ak ?_|(apply zkU fun K hK=>?_)|fail)
 refine aZ rfl bc bi ?_;simp only[bj];refine aS ?_ (DY hnx I hL);rintro v H2 ⟨rfl,hr2,n2,o2⟩;have hL1:=pr s.1;generalize (zlK s.1).1=n at *;generalize (zlK s.1).2=L1 at *;have hm1:Z+1≠0:=ac;have hp:=zmO (n:=n) (m:=Z+1) ac ac;generalize hc:(zla n (Z+1)).toNat=C at *;have hpc:zla n (Z+1)=(C:Int):=ac;dsimp only[zk6];repeat' (first
  |(apply ah ?_;clear hK K)|apply Rx.o ?_|(apply eM ?_;first|refine zlc (znn hG.pick _ _ hm1 _) ?_)|apply aG ?_|fail)
 refine zzD [0,1,2,8] [] (fun i E U=>i<=C/\E.at 10=.int .i64 i/\∃v l Y,E.at 9=v/\zmf (fun q=>H.next<=q) (8+k) U 17 v (l.map St.cells)/\iZ lo U r Y.1 Y.2/\(∀q,q<H.next->q≠r->U.get q=H.get q)/\l.length+i=C/\Y.1.length<2^60 /\
  iA (ii f k deep) C (L1,s.2)=(l++(iA (ii f k deep) i Y).1,(iA (ii f k deep) i Y).2)) C ⟨aB _,GW,.nilS,[],(L1,s.2),eE,.inl ⟨rfl,rfl⟩,hr2,fun q h1 O=>o2 q O,ax,ux,ax⟩ ?_
 rintro i E U hcE hrH hnH ⟨hic,hsI,v,l,Y,k9,V,hr3,o3,hli,hsl,hJ⟩;(try simp only[zlm,zlb,aR,zk1,zk7,Nat.reduceBEq, *]at hcE);obtain⟨lv,hgr,hlen⟩:=hr3.len;have hle:H.next<=U.next:=ac
 repeat' (first
  |(apply ah ?_;clear hK K)|apply Rx.o ?_|(apply cz (fun hg hgp=>?_) (fun hg hgp=>?_)<;>try(cases hg;done))|(apply a0 (fun hb hbp=>?_) (fun hb hbp=>?_)<;>try(cases hb;done))|apply ak ?_|(apply zkU fun K hK=>?_)|apply aG ?_|apply zk3 ?_|apply aF ?_|apply zlu ?_)
 .refine aZ rfl bc bi ?_;simp only[bj];refine aS ?_ (hst lo U r Y hr3 hsl);rintro v' H4 ⟨⟨cs,rfl,hc1,hc2,hc3⟩,hr4,n4,o4⟩;have kb:=fun H=>zia H hc1;dsimp only[zk6];repeat' (first
   |apply Rx.o ?_|fail)
  have hvq:∀q o m J,v=.sl q o m J->H.next<=q/\q<U.next:=fun q o m J e=>by
   rcases V with⟨rfl,_⟩|⟨q',imm,rows,rfl,e1,e2,_⟩
   .cases e
   .simp only[AV.sl.injEq]at e;rw[<-e.1];exact⟨e1,e2⟩
  have z:zmf (fun q=>H.next<=q) (8+k) (H4.alloc (.cells cs 0 true)) 17 v (l.map St.cells):=V.keep (fun q _ h=>h) cL fun q h1 O=>by rw[zkZ,af ac,o4 q O ac]
  obtain⟨v5,H5,a5,s5,n5,f5,q5⟩:=xP (P:=Tryz.prog) (t:=60) Tryz.underlying60 qN sQ vF rfl aj z cL (r:=H4.next) (imm:=0) (row:=cs) (w:=(ii f k deep Y).1.cells) gH hc1 hc2 (hc3.keep2 (fun q h1 O=>⟨ac,fun o m J e=>by have:=(hvq q o m J e).2;omega⟩) (dQ _) fun q h1 O=>gk) Eg Eg;refine jv eV eV HL ?_;have hi0:0<i:=ac;obtain⟨i,rfl⟩:∃j,i=j+1:=⟨i-1,ac⟩;have hwd:IntKind.wrap .i64 (((i+1:Nat):Int)-1)=(i:Int):=HQ;simp only[zk9]at n5 f5;have n5':U.next<=H5.next:=ac
  have o5:∀q,q<H.next->q≠r->H5.get q=H.get q:=fun q h1 O=>by rw[f5 q ac (fun o m J e=>by have:=(hvq q o m J e).1;omega),zkZ,af ac,o4 q ac O,o3 q h1 O]
  have hr5:iZ lo H5 r (ii f k deep Y).2.1 (ii f k deep Y).2.2:=hr4.keep ac fun q hq=>by rw[f5 q ac (fun o m J e=>by have:=(hvq q o m J e).1;omega),zkZ,af ac]
  clear n5 f5 a5 z o4 hr4;repeat' (first
   |(apply ah ?_;clear hK K)|apply Rx.o ?_|(apply zkU fun K hK=>?_)|fail)
  have hne:Y.1≠[]:=by
   intro e;have:Y.1.length=0:=by rw[e];rfl
   omega
  have hsd:=AK f k deep Y;refine⟨(by simp only[zlm,zlb,aR,zk1,zk7,Nat.reduceBEq, *]),(by simp only[zlb]),ac,i,cE _,ac,eE,v5,l++[(ii f k deep Y).1],(ii f k deep Y).2,eE,by rw[l0];exact s5,hr5,o5,b9,ac,?_⟩;rw[hJ,iA,af hne];simp
 all_goals
  all_goals (refine⟨eI,_,eR,?_⟩;try simp only[zkX])
  have hfin:iA (ii f k deep) i Y=([],Y):=by
   rcases(by omega:i=0\/Y.1.length=0)with h|h
   .rw[h];rfl
   .cases i with
    |zero=>rfl
    |succ i=>rw[iA,am (Jg h)]
  rw[hJ,hfin];exact⟨by rw[bj];exact V,hr3,hle,o3⟩
end
section
theorem RB:zlV Tryz.prog 96=some (wA 0 [] [] 0 znZ znZ .nilS .nilS .nilS):=aj
theorem uL{m:Int}(h:0<=m):[AV.str [102],AV.str [103]][(m.tmod 2).toNat]?=some (.str (lQ m)):=by
 rw[Ji h,lQ];split<;>rfl
theorem zBD{P:Program}{cfg:Cfg}{f N:Nat}{a:SC}{E:aw}{H:Hp}{Q:AX->aw->Hp->Prop}(F:aw->Hp->Prop)(h1:zlt P cfg f N a E H fun x E' H'=>x=.normal/\F E' H')(h2:∀E' H',F E' H'->Q .normal E' H'):zlt P cfg f N a E H Q:=
 w6 (fun x E' H' h=>by obtain⟨rfl,h⟩:=h;exact h2 E' H' h) h1
theorem iZ.tick{lo:Nat}{H:Hp}{r:Nat}{L:List Int}{c:Int}(h:iZ lo H r L c):∃v,H.get r=some (.cells [v,.int .i64 c] 0 true)/\∀Y,iZ lo (H.set r (.cells [v,.int .i64 Y] 0 true)) r L Y:=by
 obtain⟨V,M,v,O,j⟩:=h;refine⟨v,O,fun Y=>⟨V,M,v,gQ,?_⟩⟩;rcases j with j|⟨b,U,z,m,K,J,C,Z,I⟩
 .exact .inl j
 .exact .inr ⟨b,U,z,m,K,by rw[aJ,af Z];exact J,C,Z,I⟩
theorem kb1(nm:List UInt8)(J V Y Z j:AV):zma Tryz.prog 96 [(0,.int .i64 1),(1,.str nm),(5,.agg [J,V,Y,Z,j])]=some (.agg [.int .i64 1,.str nm,.str [],.int .i64 0,.int .i64 0,.int .i64 0,.str [],.int .i64 0,.nilS,J,V,Y,Z,j,.nilS,.nilS,.nilS]):=bS1 nm rfl
theorem kb2(nm:List UInt8)(znw J V j K Z Y U O M:AV):zma Tryz.prog 96 [(0,.int .i64 2),(1,.str nm),(4,.agg [znw,J,V,j,K]),(5,.agg [Z,Y,U,O,M])]=some (.agg [.int .i64 2,.str nm,.str [],.int .i64 0,znw,J,V,j,K,Z,Y,U,O,M,.nilS,.nilS,.nilS]):=bS2 nm rfl rfl
theorem Jl(k:Int)(J V Y Z j:AV):zma Tryz.prog 96 [(0,.int .i64 k),(5,.agg [J,V,Y,Z,j])]=some (.agg [.int .i64 k,.str [],.str [],.int .i64 0,.int .i64 0,.int .i64 0,.str [],.int .i64 0,.nilS,J,V,Y,Z,j,.nilS,.nilS,.nilS]):=bS3 k rfl
theorem kb6(nm Z:List UInt8):zma Tryz.prog 96 [(0,.int .i64 6),(1,.str nm),(2,.str Z)]=some (.agg [.int .i64 6,.str nm,.str Z,.int .i64 0,.int .i64 0,.int .i64 0,.str [],.int .i64 0,.nilS,.int .i64 0,.int .i64 0,.str [],.int .i64 0,.nilS,.nilS,.nilS,.nilS]):=bS6 nm Z
theorem RC(n:Int):zma Tryz.prog 96 [(0,.int .i64 7),(3,.int .i64 n)]=some (.agg [.int .i64 7,.str [],.str [],.int .i64 n,.int .i64 0,.int .i64 0,.str [],.int .i64 0,.nilS,.int .i64 0,.int .i64 0,.str [],.int .i64 0,.nilS,.nilS,.nilS,.nilS]):=bS7 n
theorem RD(c0 Z j o Y O U z V M K J I C m d5 d6:AV):zlT 17 [c0,Z,j,o,Y,O,U,z,V,M,K,J,I,C,m,d5,d6]=some (.agg [c0,Z,j,o,Y,O,U,z,V,M,K,J,I,C,m,d5,d6]):=rfl
theorem RE:zlV Tryz.prog 96=some [.int .i64 0,.str [],.str [],.int .i64 0,.int .i64 0,.int .i64 0,.str [],.int .i64 0,.nilS,.int .i64 0,.int .i64 0,.str [],.int .i64 0,.nilS,.nilS,.nilS,.nilS]:=aj
theorem ji{a b c d e:AV}(h:[a,b,c,d,e].all AV.one=true):AV.one a=true/\AV.one b=true/\AV.one c=true/\AV.one d=true/\AV.one e=true:=by
 simp only[nY,pZ,fR,co]at h;exact⟨h.1,h.2.1,h.2.2.1,h.2.2.2.1,h.2.2.2.2⟩
theorem wB{lo:Nat}{H:Hp}{r n:Nat}{M:Hp}{L:List Int}{c:Int}{cs:List AV}{x:St}(Z:cs.length=17)(O:cs.all AV.one=true)(z:zlJ (fun q=>H.next<=q) n M cs x.cells)(hr:iZ lo M r L c)(J:H.next<=M.next)(Y:∀q,q<H.next->q≠r->M.get q=H.get q):AH 17 n lo H r x.cells L c (.agg cs) M:=⟨⟨cs,rfl,Z,O,z⟩,hr,J,Y⟩
def fW:SC->SC
 | .seq _ b=>b
 |x=>x
noncomputable def ou:SC:=fW (fW (fW (fW (fW (fW sd.1)))))
noncomputable def se(f:Int)(k deep:Nat):Int->zl9->List St×zl9:=fun j s=>iA (ii f k (deep+1)) (zla (zlK s.1).1 (j+1)).toNat ((zlK s.1).2,s.2)
structure AtT (f:Int) (deep lo:Nat) (H H2:Hp) (r:Nat) (L1:List Int) (c q m:Int) (E2:aw):Prop where
 hd:deep<=3
 hrl:r<lo
 hlo:lo<=H.next
 n2:H2.next=H.next+1
 g2:H2.get H.next=some (.cells [.int .i64 0,.str [],.str [],.int .i64 0,.int .i64 0,.int .i64 0,.str [],.int .i64 0,.nilS,.int .i64 0,.int .i64 0,.str [],.int .i64 0,.nilS,.nilS,.nilS,.nilS] 0 true)
 o2:∀q,q<H.next->q≠r->H2.get q=H.get q
 hr2:iZ lo H2 r L1 c
 hL:L1.length<2^60
 hm:0<=m/\m<1000
 hqd:8<=q->q<12->deep<=2
 k0:E2.at 0=.ptr r 0
 k1:E2.at 1=.int .i64 f
 k2:E2.at 2=.int .i64 deep
 k6:E2.at 6=.ptr H.next 0
 k8:E2.at 8=zlY (zlN f)
 k9:E2.at 9=.int .i64 m
 k10:E2.at 10=.int .i64 q
def ow(k:Nat)(f:Int)(deep lo:Nat)(H:Hp)(r:Nat)(Z:List Int)(c q m:Int):AX->aw->Hp->Prop:=fun x E' H'=>(x=.normal\/x=.ret)/\∃vs,zlX Tryz.prog E' H' [.cell 6 96]=some vs/\AH 17 (8+(k+1)) lo H r (ig (se f k deep) f Z c q m).1.cells (ig (se f k deep) f Z c q m).2.1 (ig (se f k deep) f Z c q m).2.2 (zkX vs) H'
noncomputable def AM:En:=⟨44,true,b7 (fun p=>p.sz<2^36) fc fun p=>.int .i64 (zmw p)⟩
theorem RF(ρ:Nat->Int):zl0 Tryz.prog ρ AM:=zl7 fun p hp=>zrc ρ p hp
def tyLoL.tyF:=ad @cJ (ad @dd (ad @kW (ad @gX (ad @gY (ad @xd (ad @xe (ad @vC (ad @iQ (ad @fI (ad @ue (ad @fx (ad @em (ad @zms (ad @iR (ad @qM (ad @jw (ad @oR (@qO))))))))))))))))))
open tyLoL
noncomputable def Eo:{c:SC // aC 84 (Tryz.f27.body.getD .skip)=c}:=by
 refine⟨?_,?_⟩;rotate_left
 .simp only[Tryz.f27,bI,aC,zll,zle,zlp,zln,Nat.blt,Nat.ble];rfl
theorem RG:∀(l:List zly) (i:Nat) (m:List (zly×Int)),l.Nodup->∀M,eT (ff l i m) M=if zlo l M=true then ((i+cP l M:Nat):Int)else eT m M
 |[],i,m,_,M=>rfl
 |a::l,i,m,h,M=>by
  obtain⟨Z,j⟩:=Dv.1 h;have U:zlo (a::l) M=(decide (a=M)||zlo l M):=rfl;rw[ff,RG l (i+1) _ j M,U];by_cases e:a=M
  .subst e;have J:zlo l a=false:=by
    rw[zlo,sI];intro x hx hd;exact Z (by rw[<-rQ hd];exact hx)
   rw[J,af ax,v9,am rfl,fY rfl,nN,am rfl,cP,am rfl,sG]
  .rw[iH e,gm,cP,af e];by_cases c:zlo l M=true
   .rw[am c,am c,am c,show i+1+cP l M=i+(cP l M+1) by omega]
   .rw[af c,af c,v9,af (fun h=>e h.symm)]
theorem zwF:∀(l:List zly) (M:zly),zlo l M=false->cP l M=0
 |[],_,_=>rfl
 |a::l,M,h=>by
  have U:zlo (a::l) M=(decide (a=M)||zlo l M):=rfl;rw[U,i9,lJ]at h;rw[cP,af h.1,h.2];rfl
theorem RH{l:List zly}(h:l.Nodup)(nm:zly):eT (ff l 0 []) nm=cP l nm:=by
 rw[RG l 0 [] h nm];by_cases c:zlo l nm=true
 .rw[am c,bL]
 .rw[af c,zwF l nm (by simpa using c)];rfl
theorem Valid.fnNames{p:Pr}(h:Valid p){f:Fu}(K:f∈p.funcs):(f.params++f.locals).Nodup:=by
 have hd:=h.du;rw[kI,Dz,i9,i9]at hd;have:=sI.1 hd.2.2 f K;exact IN _ _ (by simpa using this)
theorem zih{p:Pr}(Z:Valid p){f:Fu}(K:f∈p.funcs){X:Lx}(C:X.p=p)(O:X.ae=ff (p.arrays.map (·.name)) 0 [])(m:X.fe=li p.funcs 0 []):CxOk (X.nx (ff (f.params++f.locals) 0 [])) (ll p f) where
 ar:=C▸rfl
 ae nm:=by
  show eT X.ae nm=_;rw[O];exact RH Z.nodup nm
 ne nm:=RH (Z.fnNames K) nm
 fe nm h:=by
  show eT X.fe nm=_;rw[m];exact Pe nm p.funcs [] 0 [] Z.names.2 h
theorem LowT.of{j:List En}(h:∀e∈j,I1 e.f=false):LowT j:=⟨fun f K=>by
 have z:∀e∈j,Nat.beq e.f f=false:=fun e o=>by
  cases C:Nat.beq e.f f with
  |false=>rfl
  |true=>rw[<-jk C,h e o]at K;cases K
 clear h;induction j with
 |nil=>exact⟨fun _=>rfl,rfl⟩
 |cons e l ih=>
  obtain⟨O,U⟩:=ih fun x hx=>z x (el _ hx)
  have o:=z e ee;exact⟨fun M=>by simp only[zme,o];exact O M,by simp only[jb]at U⊢;simp only[o,];exact U⟩⟩
theorem zwH{l:List zly}{i:Nat}(h:i<l.length):ff (l.take (i+1)) 0 []=setV (ff (l.take i) 0 []) l[i] (i:Int):=by
 rw[oI,aT h];show ff (l.take i++[l[i]]) 0 []=_;rw[D6,j6,wX ac,bL]
theorem RI:∀(l:List Fu) (f:Fu) (i:Nat) (m:List (zly×Int)),li (l++[f]) i m=setV (li l i m) f.name ((i+l.length:Nat):Int)
 |[],f,i,m=>rfl
 |b::l,f,i,m=>by
  rw[lI,li,RI l f (i+1),li,eK,show i+1+l.length=i+(l.length+1) by omega]
theorem ztQ{l:List Fu}{i:Nat}(h:i<l.length):li (l.take (i+1)) 0 []=setV (li (l.take i) 0 []) (l[i]).name (i:Int):=by
 rw[oI,aT h];show li (l.take i++[l[i]]) 0 []=_;rw[RI,j6,wX ac,bL]
def Jm(p:Pr)(n:Nat):Prop:=∀f∈p.funcs,∃s v,gE (ll p f) n f.body (kK f)=some s/\fu (ll p f) n f.value s=some v/\Fin v.2
def Ep(H':Hp)(u:Un)(e:Int)(v:AV):Prop:=∃z S,v=.tup [.agg z,.int .i64 e]/\zlJ S 5 H' z u.cells
theorem zBE(H:Hp)(l:List Ar)(M:l.length<2^36):∃j H',zmc Tryz.prog false H 24 24 .nilS (.lst (l.map Ar.cells))=some (j,H')/\zmf (fun k=>H.next<=k) 1 H' 2 j (l.map Ar.cells)/\H.next<=H'.next/\(∀k,k<H.next->H'.get k=H.get k):=by
 have J:∀x∈l.map Ar.cells,x.length=2:=fun x hx=>by obtain⟨a,_,rfl⟩:=kV.1 hx;exact a.clen
 have hx:=PX (H:=H) J;rw[cp]at hx;by_cases c:l=[]
 .subst c;refine⟨.nilS,H,?_,.inl ⟨rfl,rfl⟩,aB _,fun _ _=>rfl⟩;simp only[zmc,Tryz.underlying24,zA,Cy,Cz,show znh Tryz.prog 24=true by kernel_rfl,eW,hx]
 .obtain⟨m,V⟩:∃m,l.length=m+1:=⟨l.length-1,by have:=vK.2 c;omega⟩;rw[V]at hx;refine⟨.sl H.next 0 (m+1) 2,H.alloc (.cells (l.map Ar.cells).flatten 0 true),append_nil Tryz.underlying24 zA Cy Cz aj hx (PY l) rfl Eh Eh,.inr ⟨H.next,0,l.map Ar.cells,by rw[cp,V],aB _,cE _,gH,dm _,dO.ars l⟩,dQ _,fun k o=>gk⟩
theorem zil(H:Hp){cs:List AV}(h:cs.length=5)(h1:cs.all AV.one=true):zmb Tryz.prog H 25 1 [(0,.agg cs)]=some (.sl H.next 0 1 5,H.alloc (.cells cs 0 true)):=by
 obtain⟨a,b,c,d,e,rfl⟩:=zmq h;kernel_rfl
theorem bBd(p:Pr)(Z rn:Nat):zma Tryz.prog 101 [(0,.agg p.cells),(1,.map 2),(2,.map 3),(4,.map Z),(5,.map rn)]=some (.agg [.lst (p.arrays.map Ar.cells),.lst (p.funcs.map Fu.cells),.map 2,.map 3,.nilS,.map Z,.map rn,.nilS,.int .i64 0,.int .i64 0]):=aj
theorem zin{S:Nat->Prop}{H:Hp}{m:AV}{l:List Nd}(nm:List UInt8)(np v st:Int)(h:zmf S 2 H 3 m (l.map Nd.cells)):zlJ S 3 H [.str nm,.int .i64 np,m,.int .i64 v,.int .i64 st] (Gr.mk nm np l v st).cells:=
 .cons (.str _) (.cons (.int _ _) (.cons h.rd (.cons (.int _ _) (.cons (.int _ _) .nil))))
structure Smr (n:Nat) (H H':Hp):Prop where
 get:∀k,4<=k->k<n->H'.get k=H.get k
set_option maxRecDepth 100000 in
theorem zwJ{tb:List En}(hG:LowT tb)(hC:∀ar,zme tb 44 ar=AM.sp ar)(hL:Plain (zkY pls tb) 27)(p:Pr){n:Nat}(hz:p.sz<2^34)(hok:zmw p=0->Jm p n){u:Un}{e:Int}(h:rV p n=some (u,e)):
 zk5 Tryz.prog (zkY pls tb) 27 [.agg p.cells] zlv (fun v H'=>Ep H' u e v):=by
 have hw:=hL;have hkeep:(zkY pls tb).keep 27=false:=rfl;have hchk:∀H,zk5 Tryz.prog (zkY pls tb) 44 [.agg p.cells] H fun v H'=>v=.int .i64 (zmw p)/\H'=H:=fun H=>zlM (enc:=fc) (ok:=fun p=>p.sz<2^36) (out:=fun p=>.int .i64 (zmw p)) pd (x:=p) (hC _) ac;have hpz:p.sz=1+zmL p.arrays+zmv p.funcs:=rfl;have hla:=znR p.arrays;have hlf:=znQ p.funcs;unfold rV at h;by_cases hc:zmw p=0
 .rw[am hc]at h;have hv:=zwa hc;have hok:=hok hc;obtain⟨av,U,aa,ra,na,qa⟩:=zBE ((((zlv.alloc (.cells p.cells 0 true)).alloc (.cells [.nilS,.nilS] 0 true)).alloc (.map [])).alloc (.map [])) p.arrays ac;obtain⟨ha1,ha2⟩:=ra.one;have bUn:zma Tryz.prog 27 [(0,av)]=some (.agg [av,.nilS]):=by
   rcases ra with⟨rfl,_⟩|⟨q,im,rows,rfl,_⟩<;>kernel_rfl
  have bUn0:zma Tryz.prog 27 []=some (.agg [.nilS,.nilS]):=aj;have na4:4<=U.next:=na
  have q0:U.get 0=some (.cells p.cells 0 true):=by rw[qa 0 Ei];simp[zkZ,zk9,zlI]
  have q1:U.get 1=some (.cells [.nilS,.nilS] 0 true):=by rw[qa 1 Ei];simp[zkZ,zk9,zlI]
  have q2:U.get 2=some (.map []):=by rw[qa 2 Ei];simp[zkZ,zk9,zlI]
  have q3:U.get 3=some (.map []):=by rw[qa 3 Ei];simp[zkZ,zk9,zlI]
  have ra':zmf (fun k=>4<=k/\k<U.next) 1 U 2 av (p.arrays.map Ar.cells):=ra.keep (fun k h1 I=>⟨I,h1⟩) (aB _) fun _ _ _=>rfl;have q0s:∀b c,((U.alloc b).set U.next c).get 0=some (.cells p.cells 0 true):=fun b c=>by rw[aJ,af ac,zkZ,af ac];exact q0
  refine zlf (M:=84) (rs:=[.cell 2 27,.tmp 3]) (hw.call _) hw.ice hw.froz Tryz.func27 rfl rfl Eo.2 rfl ?_;dsimp only[Eo,zD,Nat.reduceAdd];repeat' (first
   |(apply ah ?_;clear hK K)|apply Ry.o ?_|apply dG ?_|(apply d7 ?_;first|refine zlc (hchk _) ?_)|(apply bb (fun C Y=>?_) (fun C Y=>?_)<;>try(cases C;done))|apply ak ?_|(apply zkU fun K hK=>?_)|apply aG ?_|apply zk3 ?_|fail)
  clear aa qa ra na q0s;have gs:∀k,k<U.next->((U.alloc (.cells [.nilS,.nilS] 0 true)).set U.next (.cells [av,.nilS] 0 true)).get k=U.get k:=fun k V=>nX
  refine zlL [1,2,3,5,6,7,29,30] [] 31 p.arrays.length (fun i E Hi=>Hi.get 0=some (.cells p.cells 0 true)/\Hi.get 1=some (.cells [.nilS,.nilS] 0 true)/\Hi.get 2=some (.map (dy (ff ((p.arrays.map (·.name)).take i) 0 [])))/\Hi.get 3=some (.map [])/\Hi.get U.next=some (.cells [av,.nilS] 0 true)/\Smr U.next U Hi) eE ⟨by rw[gs _ ac];exact q0,by rw[gs _ ac];exact q1,by rw[gs _ ac];exact q2,by rw[gs _ ac];exact q3,gQ,⟨fun k _ V=>gs k V⟩⟩ ?_;clear gs;rintro i E Hi hi hcE hrH hnH hsI ⟨g0,g1,g2,g3,g7,J⟩;(try simp only[zlm,zlb,aR,zk1,zk7,Nat.reduceBEq, *]at hcE);(try simp only[zlb,zk7, *]at hrH);(try simp only[zk9,zli,]at hnH);have ni:U.next+1<=Hi.next:=hnH
  by_cases hlt:i<p.arrays.length
  .have hlt':(i:Int)<p.arrays.length:=by omega
   have hgx:p.arrays[i]?=some p.arrays[i]:=aT hlt;have hne:ff ((p.arrays.map (·.name)).take (i+1)) 0 []=setV (ff ((p.arrays.map (·.name)).take i) 0 []) (p.arrays[i]).name (i:Int):=by
    rw[zwH Je,List.getElem_map]
   generalize p.arrays[i]=ar at *;rw[hne];have gA:∀b c k,k<Hi.next->((Hi.alloc b).set Hi.next c).get k=Hi.get k:=fun b c k V=>nX
   have g2a:∀b c,((Hi.alloc b).set Hi.next c).get 2=some (.map (dy (ff ((p.arrays.map (·.name)).take i) 0 []))):=fun b c=>by rw[gA b c 2 ac];exact g2
   have hup:=fun b c=>Ak (P:=Tryz.prog) (t:=98) Tryz.underlying98 kS (g2a b c) ar.name (i:Int);repeat' (first
    |(apply ah ?_;clear hK K)|apply Ry.o ?_|apply dG ?_|(apply bb (fun C Y=>?_) (fun C Y=>?_)<;>try(cases C;done))|apply ak ?_|(apply zkU fun K hK=>?_)|apply aG ?_|apply zk3 ?_|fail)
   refine⟨ac,zk8,zk8,zlF,vT,?_⟩;have gB:∀b c m k,k<Hi.next->k≠2->(((Hi.alloc b).set Hi.next c).set 2 m).get k=Hi.get k:=fun b c m k V I=>by rw[aJ,af I];exact gA b c k V
   exact⟨by rw[gB _ _ _ _ ac ac];exact g0,by rw[gB _ _ _ _ ac ac];exact g1,gQ,by rw[gB _ _ _ _ ac ac];exact g3,by rw[gB _ _ _ _ ac ac];exact g7,⟨fun k h1 I=>Ru⟩⟩
  .have hlt':¬(i:Int)<p.arrays.length:=by omega
   have hti:(p.arrays.map (·.name)).take i=p.arrays.map (·.name):=gl (by rw[cp];omega);rw[hti]at g2;repeat' (first
    |(apply ah ?_;clear hK K)|apply Ry.o ?_|(apply bb (fun C Y=>?_) (fun C Y=>?_)<;>try(cases C;done))|apply ak ?_|(apply zkU fun K hK=>?_)|apply aG ?_|apply zlu ?_)
   refine zlL [1,2,3,5,6,7,42,43] [] 44 p.funcs.length (fun j E Hj=>Hj.get 0=some (.cells p.cells 0 true)/\Hj.get 1=some (.cells [.nilS,.nilS] 0 true)/\Hj.get 2=some (.map (dy (ff (p.arrays.map (·.name)) 0 [])))/\Hj.get 3=some (.map (dy (li (p.funcs.take j) 0 [])))/\Hj.get U.next=some (.cells [av,.nilS] 0 true)/\Smr U.next U Hj) eE ⟨g0,g1,g2,g3,g7,J⟩ ?_;clear g0 g1 g2 g3 g7 J hti;rintro j E3 Hj hj hcE hrH hnH hsI ⟨g0,g1,g2,g3,g7,J⟩;(try simp only[zlm,zlb,aR,zk1,zk7,Nat.reduceBEq, *]at hcE);(try simp only[zlb, *]at hrH);(try simp only[zk9,zli,zlI,bL,Nat.reduceAdd]at hnH);have nj:U.next+1<=Hj.next:=ac
   by_cases hlt:j<p.funcs.length
   .have hlt':(j:Int)<p.funcs.length:=by omega
    have hgx:p.funcs[j]?=some p.funcs[j]:=aT hlt;have hne:=ztQ hlt;generalize p.funcs[j]=f at *;rw[hne];have gA:∀b c k,k<Hj.next->((Hj.alloc b).set Hj.next c).get k=Hj.get k:=fun b c k V=>nX
    have g3a:∀b c,((Hj.alloc b).set Hj.next c).get 3=some (.map (dy (li (p.funcs.take j) 0 []))):=fun b c=>by rw[gA b c 3 ac];exact g3
    have hup:=fun b c=>Ak (P:=Tryz.prog) (t:=98) Tryz.underlying98 kS (g3a b c) f.name (j:Int);repeat' (first
     |(apply ah ?_;clear hK K)|apply Ry.o ?_|apply dG ?_|(apply bb (fun C Y=>?_) (fun C Y=>?_)<;>try(cases C;done))|apply ak ?_|(apply zkU fun K hK=>?_)|apply aG ?_|apply zk3 ?_|fail)
    refine⟨ac,zk8,zk8,zlF,oX,?_⟩;have gB:∀b c m k,k<Hj.next->k≠3->(((Hj.alloc b).set Hj.next c).set 3 m).get k=Hj.get k:=fun b c m k V I=>by rw[aJ,af I];exact gA b c k V
    exact⟨by rw[gB _ _ _ _ ac ac];exact g0,by rw[gB _ _ _ _ ac ac];exact g1,by rw[gB _ _ _ _ ac ac];exact g2,gQ,by rw[gB _ _ _ _ ac ac];exact g7,⟨fun k h1 I=>Ru⟩⟩
   .have hlt':¬(j:Int)<p.funcs.length:=by omega
    have htj:p.funcs.take j=p.funcs:=gl ac;rw[htj]at g3;repeat' (first
     |(apply ah ?_;clear hK K)|apply Ry.o ?_|(apply bb (fun C Y=>?_) (fun C Y=>?_)<;>try(cases C;done))|apply ak ?_|(apply zkU fun K hK=>?_)|apply aG ?_|apply zlu ?_)
    have hfl:qo p n (p.funcs.drop 0) []=some (u,e):=h;refine zlL [1,2,5,6,7,55,56] [] 57 p.funcs.length (fun i E Z=>∃gs fv,qo p n (p.funcs.drop i) gs=some (u,e)/\Z.get 0=some (.cells p.cells 0 true)/\Z.get 1=some (.cells [.nilS,.nilS] 0 true)/\Z.get 2=some (.map (dy (ff (p.arrays.map (·.name)) 0 [])))/\Z.get 3=some (.map (dy (li p.funcs 0 [])))/\Z.get U.next=some (.cells [av,fv] 0 true)/\zmf (fun k=>U.next<k) 3 Z 5 fv (gs.map Gr.cells)/\Smr U.next U Z/\gs.length=i) eE ⟨[],.nilS,hfl,g0,g1,g2,g3,g7,.inl ⟨rfl,rfl⟩,J,rfl⟩ ?_;clear g0 g1 g2 g3 g7 J htj hfl h;rintro i5 E5 Z hk5 hcE hrH hnH hsI ⟨gs,fv,hJ,g0,g1,g2,g3,g7,rf,J,hgl⟩;(try simp only[zlm,zlb,aR,zk1,zk7,Nat.reduceBEq, *]at hcE);(try simp only[zlb, *]at hrH);(try simp only[zk9,zli,zlI,bL,Nat.reduceAdd]at hnH);have nk:U.next+1<=Z.next:=ac
    obtain⟨hf1,hf2⟩:=rf.one;by_cases hlt:i5<p.funcs.length
    .have hlt':(i5:Int)<p.funcs.length:=by omega
     have hgx:p.funcs[i5]?=some p.funcs[i5]:=aT hlt;have hmem:=cR hlt;have hfsz:=pV hmem;rw[fS hlt]at hJ;unfold qo at hJ;obtain⟨s,v,e1,e2,hF⟩:=hok _ hmem;generalize p.funcs[i5]=f at *;have hfn:rp p n f=some ⟨f.name,f.params.length,v.2.l,v.1,v.2.state⟩:=by unfold rp;rw[e1];simp only[cn];rw[e2];rfl
     rw[hfn]at hJ;simp only[cn]at hJ;have nB:=bBd p (Z.next+1) (Z.next+2);have gAll:∀b0 c0 zlH m2 bx k,k<Z.next->(((((Z.alloc b0).set Z.next c0).alloc zlH).alloc m2).alloc bx).get k=Z.get k:=fun b0 c0 zlH m2 bx k V=>by
      rw[zkZ,af mM,zkZ,af mM,zkZ,af mM,aJ,af ac,zkZ,af ac]
     have g0m:∀b0 c0,((Z.alloc b0).set Z.next c0).get 0=some (.cells p.cells 0 true):=fun b0 c0=>by rw[aJ,af ac,zkZ,af ac];exact g0
     have hfx:∀b0 zlH m2 bx,(((((Z.alloc b0).set Z.next (.cells f.cells 0 true)).alloc zlH).alloc m2).alloc bx).get Z.next=some (.cells f.cells 0 true):=fun b0 zlH m2 bx=>by
      rw[zkZ,af mM,zkZ,af mM,zkZ,af mM,aJ,am rfl]
     repeat' (first
      |(apply ah ?_;clear hK K)|apply Ry.o ?_|apply dG ?_|(apply bb (fun C Y=>?_) (fun C Y=>?_)<;>try(cases C;done))|apply ak ?_|(apply zkU fun K hK=>?_)|apply aG ?_|apply zk3 ?_|fail)
     refine aZ rfl bc bi ?_;simp only[bj];generalize hHb:Hp.alloc (Hp.alloc _ _) (.cells [.lst (p.arrays.map Ar.cells),.lst (p.funcs.map Fu.cells),.map 2,.map 3,.nilS,.map (Z.next+1),.map (Z.next+2),.nilS,.int .i64 0,.int .i64 0] 0 true)=Hb;have nb:Hb.next=Z.next+4:=by rw[<-hHb];rfl
     have old:∀k,k<Z.next->Hb.get k=Z.get k:=fun k V=>by rw[<-hHb];exact gAll _ _ _ _ _ k V
     have gt:Hb.get (Z.next+1)=some (.map []):=by
      rw[<-hHb,zkZ,af mM,zkZ,af mM,zkZ,am dT]
     have gn:Hb.get (Z.next+2)=some (.map []):=by
      rw[<-hHb,zkZ,af mM,zkZ,am dT]
     have gb:Hb.get (Z.next+3)=some (.cells [.lst (p.arrays.map Ar.cells),.lst (p.funcs.map Fu.cells),.map 2,.map 3,.nilS,.map (Z.next+1),.map (Z.next+2),.nilS,.int .i64 0,.int .i64 0] 0 true):=by
      rw[<-hHb,zkZ,am dT]
     clear hHb gAll g0m hfx nB;have hRb:RepL (Lx.mk p (Z.next+3) 2 3 (Z.next+1) (Z.next+2) (ff (p.arrays.map (·.name)) 0 []) (li p.funcs 0 []) []) Hb (fun _=>False) ⟨[],[],0,0⟩ .nilS .nilS:=
      ⟨gb,by show Hb.get 2=_;rw[old 2 ac];exact g2,by show Hb.get 3=_;rw[old 3 ac];exact g3,gt,gn,.inl ⟨rfl,rfl⟩,.inl ⟨rfl,rfl⟩,by show 2<3;omega,by show 3<Z.next+1;omega,by show Z.next+1<Z.next+2;omega,by show Z.next+2<Z.next+3;omega,by show Z.next+3<Hb.next;omega,fun _ h=>h.elim,fun _ h=>(Aw h).elim⟩
     refine aS ?_ (zgM (X:=Lx.mk p (Z.next+3) 2 3 (Z.next+1) (Z.next+2) (ff (p.arrays.map (·.name)) 0 []) (li p.funcs 0 []) []) hG (zih hv hmem rfl rfl rfl) rfl e1 e2 hF ac hRb);clear hRb gb gt gn;rintro w H4 ⟨S4,z,rfl,nd4,n4,s4,q4⟩;dsimp only at nd4 q4;have old4:∀k,k<Z.next->H4.get k=Z.get k:=fun k V=>by rw[q4 k ac ac ac ac];exact old k V
     have hlen4:∀H',zlS Tryz.prog H' 22 z=some (.int .i64 v.2.l.length):=fun H'=>by
      have:=nd4.len (P:=Tryz.prog) (t:=22) (H':=H') Tryz.underlying22
      rwa [cp]at this
     obtain⟨hl1,hl2⟩:=nd4.one;clear q4 old;have n4':Z.next+4<=H4.next:=ac
     by_cases hbig:(2000:Int)<v.2.l.length
     .rw[am hbig]at hJ;simp only[cZ]at hJ;obtain⟨rfl,rfl⟩:=hJ;have g1a:∀b c,((H4.alloc b).set H4.next c).get 1=some (.cells [.nilS,.nilS] 0 true):=fun b c=>by rw[aJ,af ac,zkZ,af ac,old4 1 ac];exact g1
      have ag0:zlT 2 [.nilS,.nilS]=some (.agg [.nilS,.nilS]):=rfl;dsimp only[zk6];repeat' (first
       |(apply ah ?_;clear hK K)|apply Ry.o ?_|apply dG ?_|(apply bb (fun C Y=>?_) (fun C Y=>?_)<;>try(cases C;done))|apply ak ?_|(apply zkU fun K hK=>?_)|apply aF ?_|fail)
      refine⟨eI,_,(by(try simp only[zk1,zk7,Nat.reduceBEq,tyF,zlX,zl1, *]);first|done|with_reducible rfl),?_⟩;try simp only[zkX]
      exact⟨_,fun _=>True,rfl,.cons .nilS (.cons .nilS .nil)⟩
     .rw[af hbig]at hJ;have hone:([.str f.name,.int .i64 f.params.length,z,.int .i64 v.1,.int .i64 v.2.state]:List AV).all AV.one=true:=by simp only[nY,pZ,hl1];rfl
      have ag:zlT 5 [.str f.name,.int .i64 f.params.length,z,.int .i64 v.1,.int .i64 v.2.state]=some (.agg [.str f.name,.int .i64 f.params.length,z,.int .i64 v.1,.int .i64 v.2.state]):=rfl;have hbs:=fun H=>zil H (cs:=[.str f.name,.int .i64 f.params.length,z,.int .i64 v.1,.int .i64 v.2.state]) rfl hone;have g7a:∀b c,((H4.alloc b).set H4.next c).get U.next=some (.cells [av,fv] 0 true):=fun b c=>by rw[aJ,af ac,zkZ,af ac,old4 _ ac];exact g7
      have keep6:∀k,k<H4.next->(((H4.alloc (.cells [.str [],.int .i64 0,.nilS,.int .i64 0,.int .i64 0] 0 true)).set H4.next (.cells [.str f.name,.int .i64 f.params.length,z,.int .i64 v.1,.int .i64 v.2.state] 0 true)).alloc (.cells [.str f.name,.int .i64 f.params.length,z,.int .i64 v.1,.int .i64 v.2.state] 0 true)).get k=H4.get k:=fun k V=>by
       rw[zkZ,af mM,aJ,af ac,zkZ,af ac]
      have hfq:∀k o m z',fv=.sl k o m z'->k<Z.next/\U.next<k:=fun k o m z' e=>by
       rcases rf with⟨h1,_⟩|⟨q,im,rows,h1,I,h3,_⟩
       .rw[h1]at e;cases e
       .rw[h1]at e;simp only[AV.sl.injEq]at e;rw[<-e.1];exact⟨h3,I⟩
      obtain⟨H7,a7,r7,n7,q7⟩:=I0 (P:=Tryz.prog) (t:=25) Tryz.underlying25 GI LK LL rfl aj (S':=fun k=>U.next<k)
       (rf.keep (S':=fun k=>U.next<k) (H':=((H4.alloc (.cells [.str [],.int .i64 0,.nilS,.int .i64 0,.int .i64 0] 0 true)).set H4.next (.cells [.str f.name,.int .i64 f.params.length,z,.int .i64 v.1,.int .i64 v.2.state] 0 true)).alloc (.cells [.str f.name,.int .i64 f.params.length,z,.int .i64 v.1,.int .i64 v.2.state] 0 true)) (fun _ _ h=>h) mM fun k _ V=>by rw[keep6 k ac,old4 k V])
       (fun _ _ h=>h) mM (r:=H4.next+1) (imm:=0) (row:=[.str f.name,.int .i64 f.params.length,z,.int .i64 v.1,.int .i64 v.2.state]) (w:=(Gr.mk f.name f.params.length v.2.l v.1 v.2.state).cells) rX rfl hone
       (zin f.name f.params.length v.1 v.2.state (nd4.keep (S':=fun k=>U.next<k/\∀o m z',fv≠.sl k o m z') (fun k h1 I=>⟨by have:=s4 k I;omega,fun o m z' e=>by have:=(hfq k o m z' e).1;have:=s4 k I;omega⟩) mM fun k V I=>keep6 k I))
       rW rW
      rw[cp]at a7 r7;simp only[zk9,zli]at a7 r7 n7 q7;have old7:∀k,k<Z.next->(∀o m z',fv≠.sl k o m z')->H7.get k=Z.get k:=fun k h1 I=>by rw[q7 k ac I,keep6 k ac,old4 k h1]
      have hlow:∀k,k<=U.next->∀o m z',fv≠.sl k o m z':=fun k V o m z' e=>by have:=(hfq k o m z' e).2;omega
      have g77:H7.get U.next=some (.cells [av,fv] 0 true):=by rw[old7 _ ac (hlow _ (aB _))];exact g7
      have hJ':qo p n (p.funcs.drop (i5+1)) (gs++[Gr.mk f.name f.params.length v.2.l v.1 v.2.state])=some (u,e):=hJ;have hmapg:(gs++[Gr.mk f.name f.params.length v.2.l v.1 v.2.state]).map Gr.cells=gs.map Gr.cells++[(Gr.mk f.name f.params.length v.2.l v.1 v.2.state).cells]:=ax;have O:∀k,k<U.next->H7.get k=Z.get k:=fun k V=>old7 k ac (hlow k ac)
      clear keep6 old7 hlow hfq old4 q7 hJ;dsimp only[zk6];repeat' (first
       |(apply ah ?_;clear hK K)|apply Ry.o ?_|apply dG ?_|(apply bb (fun C Y=>?_) (fun C Y=>?_)<;>try(cases C;done))|apply ak ?_|(apply zkU fun K hK=>?_)|apply zk3 ?_|fail)
      refine⟨ac,zk8,zk8,zlF,oX,?_⟩;have hs7:∀m k,k≠U.next->(H7.set U.next m).get k=H7.get k:=fun m k V=>by rw[aJ,af V]
      refine⟨gs++[Gr.mk f.name f.params.length v.2.l v.1 v.2.state],.sl (H4.next+2) 0 (gs.length+1) 5,hJ',by rw[hs7 _ _ ac,O _ ac];exact g0,by rw[hs7 _ _ ac,O _ ac];exact g1,by rw[hs7 _ _ ac,O _ ac];exact g2,by rw[hs7 _ _ ac,O _ ac];exact g3,by rw[aJ,am rfl,hgl],?_,⟨fun k h1 I=>by rw[hs7 _ _ ac,O _ ac];exact J.get k h1 I⟩,by rw[fj,hgl];rfl⟩;rw[hmapg];exact r7.keep (fun _ _ h=>h) (aB _) fun k V _=>hs7 _ k ac
    .have hlt':¬(i5:Int)<p.funcs.length:=by omega
     have hd:p.funcs.drop i5=[]:=rb ac;rw[hd]at hJ;simp only[qo,cZ]at hJ;obtain⟨rfl,rfl⟩:=hJ;have ag:zlT 2 [av,fv]=some (.agg [av,fv]):=rfl;have rd1:=ra'.keep (S':=fun _=>True) (H':=Z.set 1 (.cells [av,fv] 0 true)) (fun _ _ _=>trivial) gc fun k V _=>by rw[aJ,af ac];exact J.get k V.1 V.2
     have rd2:=rf.keep (S':=fun _=>True) (H':=Z.set 1 (.cells [av,fv] 0 true)) (fun _ _ _=>trivial) gc fun k V _=>kE;have fin:Ep (Z.set 1 (.cells [av,fv] 0 true)) ⟨p.arrays,gs⟩ 0 (.tup [.agg [av,fv],.int .i64 0]):=⟨_,fun _=>True,rfl,.cons (rd1.rd.up ac) (.cons (rd2.rd.up ac) .nil)⟩;clear rd1 rd2;repeat' (first
      |(apply ah ?_;clear hK K)|apply Ry.o ?_|apply dG ?_|(apply bb (fun C Y=>?_) (fun C Y=>?_)<;>try(cases C;done))|apply ak ?_|(apply zkU fun K hK=>?_)|apply aF ?_|apply zlu ?_)
     refine⟨eI,_,(by(try simp only[zk1,zk7,Nat.reduceBEq,tyF,zlX,zl1, *]);first|done|with_reducible rfl),?_⟩;try simp only[zkX]
     exact fin
 .rw[af hc,aL,gR]at h;obtain⟨rfl,rfl⟩:=h;have bUn0:zma Tryz.prog 27 []=some (.agg [.nilS,.nilS]):=aj;refine zlf (M:=84) (rs:=[.cell 2 27,.tmp 3]) (hw.call _) hw.ice hw.froz Tryz.func27 rfl rfl Eo.2 rfl ?_;dsimp only[Eo,zD,Nat.reduceAdd];repeat' (first
   |(apply ah ?_;clear hK K)|apply Ry.o ?_|apply dG ?_|(apply d7 ?_;first|refine zlc (hchk _) ?_)|(apply bb (fun C Y=>?_) (fun C Y=>?_)<;>try(cases C;done))|apply ak ?_|(apply zkU fun K hK=>?_)|apply aF ?_|fail)
  have ag0:zlT 2 [.nilS,.nilS]=some (.agg [.nilS,.nilS]):=rfl;refine⟨eI,_,(by(try simp only[zk1,zk7,Nat.reduceBEq,tyF,zlX,zl1, *]);first|done|with_reducible rfl),?_⟩;try simp only[zkX]
  exact⟨_,fun _=>True,rfl,.cons .nilS (.cons .nilS .nil)⟩
theorem Ep.wk{H':Hp}{u:Un}{e:Int}{v:AV}(h:Ep H' u e v):∃m w,iceV H' m v=some w/\bX 60 w=.tup [.agg u.cells,.int .i64 e]:=by
 obtain⟨z,S,rfl,j,Z,Y⟩:=h;have U:zl5 S 100 H' (.agg z) (.agg j):=zl5.up (n:=6) ⟨j,Z,rfl⟩ ac;obtain⟨M,V⟩:=C0 (S:=S) (n:=100) (H:=H') (fun k=>zl5.iceV k) (l:=[.agg z,.int .i64 e]) (k:=[.agg j,.int .i64 e]) ⟨U,oY ⟨.int _ _,trivial⟩,trivial⟩;refine⟨M+1,.tup [.agg j,.int .i64 e],?_,?_⟩
 .have O:iceV H' (M+1) (.tup [.agg z,.int .i64 e])=match iceL (iceV H' M) [.agg z,.int .i64 e]with
   |some vs=>some (.tup vs)
   |none=>none:=rfl
  rw[O,V M (aB _)]
 .show AV.tup [.agg (j.map (bX 58)),.int .i64 e]=_;rw[Y 58 ac]
noncomputable def AN:List En:=[AM]
theorem zBF(ρ:Nat->Int):fK Tryz.prog ρ AN:=⟨RF ρ,trivial⟩
theorem zwK:LowT AN:=LowT.of fun e o=>by
 rw[AN,Iu]at o;subst o;rfl
theorem ztR(ρ:Nat->Int)(p:Pr){n:Nat}(J:p.sz<2^34)(z:zmw p=0->Jm p n){u:Un}{e:Int}(h:rV p n=some (u,e)):bM Tryz.prog ρ 27 (fc p) (.tup [.agg u.cells,.int .i64 e]):=
 PZ (n:=60) (cfg:=zkY pls AN) fit (pP ρ) (fun g M r K=>fK.look (l:=AN) (zBF ρ) g M r K) (.cons (.agg p.pure) .nil) (aS (fun v H' h=>h.wk) (zwJ zwK (fun _=>rfl) (zml (fun _=>rfl) rfl) p J z h))
end
section
structure NdP (c:Cx) (np:Nat) (x:Nd):Prop where
 op:0<=x.op/\x.op<256
 imm:znc x.imm
 len:x.kids.length<=40
 pa:x.op=2->x.imm<np
 ar:x.op=23\/x.op=28->x.imm<c.arrays.length
 fn:x.op=30->0<=x.imm/\∃f,c.funcs[x.imm.toNat]?=some f/\x.kids.length=1+f.params.length
structure CxOkU (c:Cx):Prop where
 a:∀x∈c.arrays,1<=x.len/\x.len<=16
 al:c.arrays.length<=4
 fl:c.funcs.length<=8
 fp:∀f∈c.funcs,f.params.length<=6
 nl:c.names.length<=14
structure LI (c:Cx) (np:Nat) (s:Bd):Prop where
 nd:s.l.Nodup
 wf:zn3 s.l
 p:∀x∈s.l,NdP c np x
 v:∀x∈s.vars,IsT s.l 1 x
 vl:s.vars.length=c.names.length
 st:IsT s.l 2 s.state
theorem RJ{l:List Nd}{n:Nd}(h:l.Nodup):(jB l n).Nodup:=by
 unfold jB;split
 .exact h
 .rename_i c;exact List.nodup_append.2 ⟨h,ax,fun a O b C=>by
   simp only[jp]at C;subst C;rintro rfl;exact c (Pu.2 O)⟩
theorem zre(l:List Nd)(n:Nd):(jB l n).length<=l.length+1:=by
 rw[Pw];split<;>omega
section
variable {c:Cx} {np:Nat} {s:Bd}
theorem LI.setS(h:LI c np s){x:Int}(o:IsT s.l 2 x):LI c np {s with state:=x}:=⟨h.nd,h.wf,h.p,h.v,h.vl,o⟩
theorem LI.setV(h:LI c np s){x:List Int}(o:∀y∈x,IsT s.l 1 y)(M:x.length=c.names.length):LI c np {s with vars:=x}:=⟨h.nd,h.wf,h.p,o,M,h.st⟩
theorem LI.setN(h:LI c np s)(x:Nat):LI c np {s with loops:=x}:=⟨h.nd,h.wf,h.p,h.v,h.vl,h.st⟩
theorem znv(h:LI c np s){n:Nd}{t:Int}(U:fO s.l n=t)(j:t≠0)(C:NdP c np n):LI c np (zkW n s).2/\IsT (zkW n s).2.l t (zkW n s).1/\(zkW n s).2.l.length<=s.l.length+1:=by
 obtain⟨a,b⟩:=IY h.wf U j;refine⟨⟨RJ h.nd,b,fun x hx=>?_,fun x hx=>(h.v x hx).le (tl _ _),h.vl,h.st.le (tl _ _)⟩,a,zre _ _⟩;rcases tm.1 hx with hx|rfl
 .exact h.p x hx
 .exact C
theorem i4(c:Cx)(np:Nat){op imm:Int}{kids:List Int}(Z:0<=op/\op<256)(I:znc imm)(o:kids.length<=40)(h2:op≠2)(C:op≠23)(J:op≠28)(z:op≠30):NdP c np ⟨op,imm,kids⟩:=
 ⟨Z,I,o,fun e=>absurd e h2,fun e=>e.elim (fun e=>absurd e C) fun e=>absurd e J,fun e=>absurd e z⟩
theorem x6(h:LI c np s){t k a b:Int}(o:IsT s.l 1 k)(O:IsT s.l t a)(C:IsT s.l t b)(j:t=1\/t=2):LI c np (zlr k a b s).2/\IsT (zlr k a b s).2.l t (zlr k a b s).1/\(zlr k a b s).2.l.length<=s.l.length+1:=by
 unfold zlr;split
 .exact⟨h,O,dQ _⟩
 .exact znv h (PJ o O C j) ac (i4 _ _ aE fD ax aE aE aE aE)
theorem Jn(h:LI c np s){t v:Int}(Z:IsT s.l 1 v)(Y:1<=t)(h1:t<=1000016):LI c np (pm t v s)/\(pm t v s).l.length<=s.l.length+1:=by
 have:=znv h (n:=⟨27,t,[s.state,v]⟩) (PL h.st Z Y h1) aE (i4 _ _ aE fD ax aE aE aE aE);exact⟨this.1.setS this.2.1,this.2.2⟩
theorem AO(h:LI c np s){n:Int}(J:znc n):LI c np (zkW ⟨1,n,[]⟩ s).2/\IsT (zkW ⟨1,n,[]⟩ s).2.l 1 (zkW ⟨1,n,[]⟩ s).1/\(zkW ⟨1,n,[]⟩ s).2.l.length<=s.l.length+1:=
 znv h (PE n) aE (i4 _ _ aE J ax aE aE aE aE)
theorem Er(h:LI c np s){op a b:Int}(O:IsT s.l 1 a)(C:IsT s.l 1 b)(Z:4<=op)(h1:op<=19):LI c np (zkW ⟨op,0,[a,b]⟩ s).2/\IsT (zkW ⟨op,0,[a,b]⟩ s).2.l 1 (zkW ⟨op,0,[a,b]⟩ s).1/\(zkW ⟨op,0,[a,b]⟩ s).2.l.length<=s.l.length+1:=
 znv h (PH O C Z h1) aE (i4 _ _ ac fD ax ac ac ac ac)
theorem RK(h:LI c np s){n i:Int}(J:znc n)(I:IsT s.l 1 i):LI c np (hZ n i s)/\(hZ n i s).l.length<=s.l.length+3:=by
 obtain⟨Z,V,U⟩:=AO h J;have O:=I.le (zmh ⟨1,n,[]⟩ s).le.l;obtain⟨M,C,K⟩:=Er Z (op:=19) O V aE aE;obtain⟨Y,j⟩:=Jn M (t:=2) C aE aE;exact⟨Y,by have:(hZ n i s).l.length<=_:=j;omega⟩
theorem zBG(h:LI c np s){i:Int}(I:IsT s.l 1 i):LI c np (rm i s)/\(rm i s).l.length<=s.l.length+3:=by
 obtain⟨J,V,Y⟩:=AO h (n:=0) fD;have O:=I.le (zmh ⟨1,0,[]⟩ s).le.l;obtain⟨M,C,U⟩:=Er J (op:=16) O V aE aE;obtain⟨Z,j⟩:=Jn M (t:=1) C aE aE;exact⟨Z,by have:(rm i s).l.length<=_:=j;omega⟩
theorem RL(z:CxOkU c)(h:LI c np s){i:Int}(I:IsT s.l 1 i){k:Nat}(o:k<c.arrays.length):LI c np (zkW ⟨23,k,[s.state,i]⟩ s).2/\IsT (zkW ⟨23,k,[s.state,i]⟩ s).2.l 1 (zkW ⟨23,k,[s.state,i]⟩ s).1/\(zkW ⟨23,k,[s.state,i]⟩ s).2.l.length<=s.l.length+1:=by
 have al:=z.al;exact znv h (PK h.st I ac ac) aE ⟨by show 0<=(23:Int)/\(23:Int)<256;decide,AG,by show 2<=40;decide,fun e=>absurd e (by show ¬(23:Int)=2;decide),fun _=>by show(k:Int)<_;omega,fun e=>absurd e (by show ¬(23:Int)=30;decide)⟩
theorem RM(z:CxOkU c)(h:LI c np s){i v:Int}(I:IsT s.l 1 i)(Z:IsT s.l 1 v){k:Nat}(o:k<c.arrays.length):LI c np (zkW ⟨28,k,[s.state,i,v]⟩ s).2/\IsT (zkW ⟨28,k,[s.state,i,v]⟩ s).2.l 2 (zkW ⟨28,k,[s.state,i,v]⟩ s).1/\(zkW ⟨28,k,[s.state,i,v]⟩ s).2.l.length<=s.l.length+1:=by
 have al:=z.al;exact znv h (PN h.st I Z ac ac) aE ⟨by show 0<=(28:Int)/\(28:Int)<256;decide,AG,by show 3<=40;decide,fun e=>absurd e (by show ¬(28:Int)=2;decide),fun _=>by show(k:Int)<_;omega,fun e=>absurd e (by show ¬(28:Int)=30;decide)⟩
theorem ziu(h:LI c np s){v:Int}(Z:IsT s.l 1 v):LI c np (zkW ⟨29,0,[s.state,v]⟩ s).2/\IsT (zkW ⟨29,0,[s.state,v]⟩ s).2.l 2 (zkW ⟨29,0,[s.state,v]⟩ s).1/\(zkW ⟨29,0,[s.state,v]⟩ s).2.l.length<=s.l.length+1:=
 znv h (PM h.st Z) aE (i4 _ _ aE fD ax aE aE aE aE)
theorem ziv(h:LI c np s){v:Int}(Z:IsT s.l 2 v):LI c np (zkW ⟨24,0,[v]⟩ s).2/\IsT (zkW ⟨24,0,[v]⟩ s).2.l 1 (zkW ⟨24,0,[v]⟩ s).1/\(zkW ⟨24,0,[v]⟩ s).2.l.length<=s.l.length+1:=
 znv h (PO Z) aE (i4 _ _ aE fD ax aE aE aE aE)
theorem RN(z:CxOkU c)(h:LI c np s){j:List Int}(O:∀a∈j,IsT s.l 1 a){k:Nat}{f:Fu}(K:c.funcs[k]?=some f)(M:j.length=f.params.length):LI c np (zkW ⟨30,k,s.state::j⟩ s).2/\IsT (zkW ⟨30,k,s.state::j⟩ s).2.l 2 (zkW ⟨30,k,s.state::j⟩ s).1/\(zkW ⟨30,k,s.state::j⟩ s).2.l.length<=s.l.length+1:=by
 have U:=z.fl;have V:=z.fp f (j7 K);have o:k<c.funcs.length:=by
  by_cases q:k<c.funcs.length
  .exact q
  .rw[lD ac]at K;cases K
 exact znv h (PP h.st O ac ac ac) aE ⟨by show 0<=(30:Int)/\(30:Int)<256;decide,AG,by show j.length+1<=40;omega,fun e=>absurd e (by show ¬(30:Int)=2;decide),fun e=>by rcases e with e|e<;>exact absurd e (by show ¬(30:Int)=_;decide),fun _=>⟨by show 0<=(k:Int);omega,f,by show c.funcs[(k:Int).toNat]?=_;rw[ja];exact K,by show j.length+1=_;omega⟩⟩
end
theorem zwL{l:List Ex}{i:Nat}{k:Ex}(O:zmn l)(h:l[i]?=some k):d9 k:=by
 induction l generalizing i with
 |nil=>simp at h
 |cons e I ih=>
  rw[zmn]at O;cases i with
  |zero=>simp at h;subst h;exact O.1
  |succ i=>exact ih O.2 j8
theorem ztS{vs K:List zly}{l:List Ex}{i:Nat}{k:Ex}(O:zmD vs K l=true)(h:l[i]?=some k):d8 vs K k=true:=by
 induction l generalizing i with
 |nil=>simp at h
 |cons e I ih=>
  rw[zmD,co]at O;cases i with
  |zero=>simp at h;subst h;exact O.1
  |succ i=>exact ih O.2 j8
theorem AP{l:List Ex}{i:Nat}{k:Ex}(h:l[i]?=some k):1+k.sz<=zlZ l:=by
 have:=znK (j7 h);omega
theorem Jo{l:List Ex}{a b:Ex}(Z:l[0]?=some a)(h1:l[1]?=some b):2+a.sz+b.sz<=zlZ l:=by
 cases l with
 |nil=>simp at Z
 |cons x l=>
  simp at Z h1;subst Z;have:=AP h1;rw[zlZ];omega
theorem RO{l:List Ex}{a b d:Ex}(Z:l[0]?=some a)(h1:l[1]?=some b)(h2:l[2]?=some d):3+a.sz+b.sz+d.sz<=zlZ l:=by
 cases l with
 |nil=>simp at Z
 |cons x l=>
  simp at Z h1 h2;subst Z;have:=Jo (l:=l) h1 h2;rw[zlZ];omega
theorem uM:∀{l:List zly}{s:zly},zlo l s=true->cP l s<l.length
 |[],s,h=>by simp[zlo]at h
 |a::l,s,h=>by
  rw[cP];split
  .simp
  .rename_i c;have U:zlo (a::l) s=(decide (a=s)||zlo l s):=rfl;rw[U,iH c,gm]at h;rw[am h,eK];exact Nat.succ_lt_succ (uM h)
structure XOk (c:Cx) (x:Ex):Prop where
 wf:eO x=true
 df:d8 c.names (c.arrays.map (·.name)) x=true
 rg:d9 x
theorem XOk.kid{c:Cx}{x k:Ex}{i:Nat}(h:XOk c x)(o:x.kids[i]?=some k):XOk c k:=by
 obtain⟨m,j,z⟩:=h;rw[Ac,co]at m;rw[Af,co]at j;rw[IZ]at z;exact⟨zv9 m.1 o,ztS j.1 o,zwL z.2 o⟩
theorem sf{c:Cx}(hc:CxOkU c){np:Nat}:∀(n:Nat) (x:Ex) (s:Bd),XOk c x->x.sz<n->LI c np s->∃r,fu c n x s=some r/\LI c np r.2/\IsT r.2.l 1 r.1/\r.2.l.length<=s.l.length+6*x.sz
 |0,x,s,hx,hd,hs=>by omega
 |n+1,x,s,hx,hd,hs=>by
  have m:=sf hc (np:=np) n;have hwf:=hx.wf;have Y:=hx.df;have hrg:=(IZ x).1 hx.rg;rw[Ac,co,mJ]at hwf;rw[Af,co,iW]at Y;have O:=hwf.2;have hsz:=x.sz_eq;unfold fu;by_cases e1:x.kind=1
  .rw[am e1];obtain⟨a,b,d⟩:=AO hs hrg.1;exact⟨_,rfl,a,b,ac⟩
  rw[af e1]at O⊢;by_cases e2:x.kind=2
  .rw[am e2];have hn:zlo c.names x.name=true:=by have:=Y.2;simp[e2]at this;exact this
   have C:cP c.names x.name<s.vars.length:=by rw[hs.vl];exact uM hn
   rw[aT C,oH];exact⟨_,rfl,hs,hs.v _ (cR C),by show s.l.length<=_;omega⟩
  rw[af e2]at O⊢;by_cases e3:x.kind=3
  .rw[am e3]at O⊢;simp only[lW]at O;have hn:zlo (c.arrays.map (·.name)) x.name=true:=by have:=Y.2;simp[e3]at this;exact this
   have C:=uM hn;rw[cp]at C;obtain⟨k,o⟩:=og x.kids (i:=0) ac;have hks:=AP o;obtain⟨r,hr,M,j,r3⟩:=m k s (hx.kid o) ac hs;rw[o,cn,hr,cn,aT C,cn];have ha:=hc.a _ (cR C);generalize c.arrays[cP (c.arrays.map (·.name)) x.name]=ar at ha⊢;obtain⟨a1,a2⟩:=RK M (n:=ar.len) fD j;obtain⟨Z,U,b3⟩:=RL hc a1 (j.le (tq ar.len r.1 r.2).le.l) C;exact⟨_,rfl,Z,U,ac⟩
  rw[af e3]at O⊢;by_cases e5:x.kind=5
  .have e4:¬x.kind=4:=by omega
   rw[af e4,am e5]at O;rw[am e5];simp only[lW]at O;obtain⟨k,o⟩:=og x.kids (i:=0) ac;obtain⟨k1,I⟩:=og x.kids (i:=1) ac;obtain⟨k2,V⟩:=og x.kids (i:=2) ac;have hks:=RO o I V;obtain⟨r,hr,K,p2,p3⟩:=m k s (hx.kid o) ac hs;obtain⟨M,J,z,q2,q3⟩:=m k1 r.2 (hx.kid I) ac K;have l1:=zmp c n _ _ _ J;obtain⟨j,hr2,t1,t2,t3⟩:=m k2 {M.2 with state:=r.2.state} (hx.kid V) ac (z.setS (K.st.le l1.le.l));have l2:=zmp c n _ _ _ hr2;rw[o,cn,hr,cn,I,cn,J,cn,V,cn,hr2,cn];have pc:IsT j.2.l 1 r.1:=(p2.le l1.le.l).le l2.le.l;obtain⟨zlH,m2,m3⟩:=x6 t1 pc (q2.le l2.le.l) t2 (.inl rfl);have lm:=zm0 r.1 M.1 j.1 j.2;obtain⟨zlQ,n2,n3⟩:=x6 zlH (pc.le lm.le.l) ((z.st.le l2.le.l).le lm.le.l) zlH.st (.inr rfl);have ln:=zm0 r.1 M.2.state (zlr r.1 M.1 j.1 j.2).2.state (zlr r.1 M.1 j.1 j.2).2;refine⟨_,rfl,zlQ.setS n2,m2.le ln.le.l,?_⟩;simp only at t3⊢;omega
  rw[af e5]at O⊢;by_cases e4:x.kind=4
  .rw[am e4]at O;simp only[co,pN,jJ]at O;have hl:x.kids.length=2\/x.kids.length=1:=by rcases O.2 with h|h<;>omega
   obtain⟨k,o⟩:=og x.kids (i:=0) ac;have hks:=AP o;obtain⟨r,hr,K,p2,p3⟩:=m k s (hx.kid o) ac hs;rw[o,cn,hr,cn];by_cases e6:x.kids.length=1
   .rw[am e6];have ho:x.op=20\/x.op=21:=by
     rcases O.2 with h|h
     .omega
     .exact h.2
    obtain⟨a,b,d⟩:=znv K (PI p2 ho) aE (i4 _ _ ac fD ax ac ac ac ac);exact⟨_,rfl,a,b,ac⟩
   .rw[af e6];obtain⟨k1,I⟩:=og x.kids (i:=1) ac;have hks2:=Jo o I;obtain⟨M,J,z,q2,q3⟩:=m k1 r.2 (hx.kid I) ac K;have l1:=zmp c n _ _ _ J;rw[I,cn,J,cn];have ho:4<=x.op/\x.op<=18:=by
     rcases O.2 with h|h
     .have:=h.2;simp[p6]at this;exact this
     .omega
    have p2':=p2.le l1.le.l;by_cases e7:x.op=7\/x.op=8
    .rw[am e7];obtain⟨a1,a2⟩:=zBG z q2;have ld:=DM M.1 M.2;obtain⟨Z,U,b3⟩:=Er a1 (p2'.le ld.le.l) (q2.le ld.le.l) (by omega:4<=x.op) ac;exact⟨_,rfl,Z,U,ac⟩
    .rw[af e7];obtain⟨Z,U,b3⟩:=Er z p2' q2 (by omega:4<=x.op) ac;exact⟨_,rfl,Z,U,ac⟩
  .rw[af e4]at O;simp at O
theorem RP{c:Cx}(z:CxOkU c){np n:Nat}:∀(l:List Ex) (s:Bd),(∀x∈l,XOk c x)->zlZ l<n->LI c np s->∃r,ro c n l s=some r/\LI c np r.2/\(∀a∈r.1,IsT r.2.l 1 a)/\r.2.l.length<=s.l.length+6*zlZ l
 |[],s,hx,hd,hs=>⟨_,rfl,hs,ax,by show s.l.length<=_;omega⟩
 |x::l,s,hx,hd,hs=>by
  rw[zlZ]at hd⊢;obtain⟨r,hr,Y,m,V⟩:=sf z n x s (hx x ee) ac hs;obtain⟨j,Z,K,o,U⟩:=RP (n:=n) z l r.2 (fun y hy=>hx y (el _ hy)) ac Y;have J:=(tt c n _ _ _ Z).1;refine⟨(r.1::j.1,j.2),Ro,K,fun a O=>?_,x4⟩;rcases fX.1 O with rfl|O
  .exact m.le J.le.l
  .exact o a O
def tH(c:Cx):Sc:=⟨c.names,some (c.arrays.map (·.name)),⟨c.arrays,c.funcs⟩⟩
structure SOk (c:Cx) (x:St):Prop where
 wf:mL x=true
 df:fZ (tH c) false x=true
 ar:fZ (tH c) true x=true
 rg:eU x
structure SsOk (c:Cx) (l:List St):Prop where
 wf:ft l=true
 df:zl4 (tH c) false l=true
 ar:zl4 (tH c) true l=true
 rg:dt l
section
variable {c:Cx}
theorem SsOk.cons{x:St}{l:List St}(h:SsOk c (x::l)):SOk c x/\SsOk c l:=by
 obtain⟨m,j,z,Y⟩:=h;rw[ft,co]at m;rw[zl4,co]at j z;rw[dt]at Y;exact⟨⟨m.1,j.1,z.1,Y.1⟩,⟨m.2,j.2,z.2,Y.2⟩⟩
theorem SOk.subs{x:St}(h:SOk c x):SsOk c x.thn/\SsOk c x.els:=by
 obtain⟨m,j,z,Y⟩:=h;rw[v8]at m;rw[Ah]at j z;rw[DT]at Y;simp only[co]at m j z;exact⟨⟨m.1.2,j.1.2,z.1.2,Y.2.2.2.1⟩,⟨m.2,j.2,z.2,Y.2.2.2.2⟩⟩
theorem RQ:∀{l:List Ex}{x:Ex},zmn l->x∈l->d9 x
 |[],x,_,h=>by simp at h
 |e::l,x,hw,h=>by
  rw[zmn]at hw;rcases fX.1 h with rfl|h
  .exact hw.1
  .exact RQ hw.2 h
theorem RR:∀{l:List Ex}{x:Ex},ev l=true->x∈l->eO x=true
 |[],x,_,h=>by simp at h
 |e::l,x,hw,h=>by
  rw[ev,co]at hw;rcases fX.1 h with rfl|h
  .exact hw.1
  .exact RR hw.2 h
theorem RS{vs K:List zly}:∀{l:List Ex}{x:Ex},zmD vs K l=true->x∈l->d8 vs K x=true
 |[],x,_,h=>by simp at h
 |e::l,x,hw,h=>by
  rw[zmD,co]at hw;rcases fX.1 h with rfl|h
  .exact hw.1
  .exact RS hw.2 h
theorem SOk.def{x:St}(h:SOk c x):zmD c.names (c.arrays.map (·.name)) x.args=true/\d8 c.names (c.arrays.map (·.name)) x.at_=true/\d8 c.names (c.arrays.map (·.name)) x.value=true/\jP (tH c) x=true:=by
 have j:=h.df;rw[Ah]at j;simp only[co,pQ,jQ]at j;exact⟨j.1.1.1.1.1,j.1.1.1.1.2,j.1.1.1.2,j.1.1.2⟩
theorem SOk.args{x:St}(h:SOk c x):∀a∈x.args,XOk c a:=fun a O=>by
 have m:=h.wf;have Y:=h.rg;rw[v8,jg]at m;rw[DT]at Y;simp only[co]at m;exact⟨RR m.1.1.1 O,RS h.def.1 O,RQ Y.2.2.1 O⟩
theorem SOk.value{x:St}(h:SOk c x)(o:x.kind=1\/x.kind=2\/x.kind=3\/x.kind=4\/x.kind=5):XOk c x.value:=by
 have m:=h.wf;have Y:=h.rg;rw[v8,jg,mK]at m;rw[DT]at Y;simp only[co]at m;refine⟨?_,h.def.2.2.1,Y.2.1⟩;have z:=m.1.1.2;rcases o with e|e|e|e|e<;>rw[e]at z<;>simp at z<;>simp[z]
theorem SOk.at_{x:St}(h:SOk c x)(o:x.kind=2):XOk c x.at_:=by
 have m:=h.wf;have Y:=h.rg;rw[v8,jg,mK]at m;rw[DT]at Y;simp only[co]at m;refine⟨?_,h.def.2.1,Y.1⟩;have z:=m.1.1.2;rw[o]at z;simp at z;simp[z]
theorem SOk.trap{x:St}(h:SOk c x)(o:x.kind=7):0<=x.n/\x.n<=1000000:=by
 have m:=h.wf;rw[v8,jg,mK]at m;simp only[co]at m;have z:=m.1.1.2;rw[o]at z;simp at z;exact⟨by simp[z],by simp[z]⟩
theorem SOk.kd{x:St}(h:SOk c x):1<=x.kind/\x.kind<=7:=by
 have m:=h.wf;rw[v8,jg,mK]at m;simp only[co]at m;have z:=m.1.1.2;by_cases e:1<=x.kind/\x.kind<=7
 .exact e
 .rw[af ac,af ac,af ac,af ac,af ac,af ac,af ac]at z;cases z
theorem SOk.name{x:St}(h:SOk c x)(o:x.kind=1\/x.kind=6):cP c.names x.name<c.names.length:=by
 have:=h.def.2.2.2;rw[jP]at this;rcases o with e|e<;>simp[e,tH]at this
 .exact uM this
 .exact uM this.1
theorem SOk.arr{x:St}(h:SOk c x)(o:x.kind=2):cP (c.arrays.map (·.name)) x.name<c.arrays.length:=by
 have:=h.def.2.2.2;rw[jP]at this;simp[o,tH,Sc.an]at this;have:=uM this
 rwa [cp]at this
theorem SOk.call{x:St}(h:SOk c x)(o:x.kind=6):0<=zl2 c.funcs x.to 0/\x.args.length=pe ⟨c.arrays,c.funcs⟩ x.to:=by
 have m:=h.def.2.2.2;have z:=h.ar;rw[jP]at m;simp[o,tH]at m;rw[Ah]at z;simp only[co,iV,lh,o]at z;simp[tH]at z;have Y:=rQ z.1.1;exact⟨rQ m.2,ac⟩
end
theorem AQ{c:Cx}:∀(n:Nat) (l:List St) (b:List Bool),SsOk c l->2*zld l<n->b.length=c.names.length->∃b',gU c.names n l b=some b'/\b'.length=c.names.length
 |0,l,b,_,h,_=>by omega
 |n+1,[],b,_,_,hb=>⟨b,rfl,hb⟩
 |n+1,x::l,b,M,h,hb=>by
  obtain⟨hx,M⟩:=M.cons;rw[zld]at h;have o:=x.sz_eq;unfold gU;simp only;rw[af (fun q=>by have:=hx.name q.1;omega)];have V:(if x.kind=1\/x.kind=6 then b.set (cP c.names x.name) true else b).length=c.names.length:=by split<;>simp[hb]
  obtain⟨C,U,J⟩:=AQ n x.thn _ hx.subs.1 ac V;obtain⟨Z,Y,I⟩:=AQ n x.els C hx.subs.2 ac J;obtain⟨K,O,z⟩:=AQ n l Z M ac I;exact⟨K,by rw[U,cn,Y,cn,O],z⟩
theorem RT{c:Cx}{np:Nat}{k:Int}{a:List Int}:∀(m i:Nat) (s:Bd),LI c np s->IsT s.l 1 k->(∀y∈a,IsT s.l 1 y)->a.length=c.names.length->i+m=c.names.length->∃r,oh k a m i s=some r/\LI c np r/\r.l.length<=s.l.length+m
 |0,i,s,h,_,_,_,_=>⟨s,rfl,h,aB _⟩
 |m+1,i,s,h,hk,ha,hl,hi=>by
  have V:=h.vl;have Z:i<a.length:=ac;have j:i<s.vars.length:=ac;unfold oh;rw[aT Z,cn,aT j,cn];obtain⟨zlH,K,U⟩:=x6 h hk (ha _ (cR Z)) (h.v _ (cR j)) (.inl rfl);have lv:=zm0 k a[i] s.vars[i] s;obtain⟨r,e,M,Y⟩:=RT m (i+1) { (zlr k a[i] s.vars[i] s).2 with vars:=(zlr k a[i] s.vars[i] s).2.vars.set i (zlr k a[i] s.vars[i] s).1} (zlH.setV (fun y hy=>by
   rcases rv hy with hy|rfl
   .exact zlH.v y hy
   .exact K) Jf) (hk.le lv.le.l) (fun y hy=>(ha y hy).le lv.le.l) hl ac
  exact⟨r,e,M,by simp only at Y;omega⟩
theorem RU{c:Cx}{np:Nat}{k:Nat}(o:k<=15):∀(U:List Nat) (j:Nat) (s:Bd),LI c np s->j+U.length<=15->LI c np (jh (16*(k:Int)+1) U j s)/\(jh (16*(k:Int)+1) U j s).l.length<=s.l.length+U.length
 |[],j,s,h,_=>⟨h,aB _⟩
 |w::U,j,s,h,hj=>by
  rw[eK]at hj;have V:(16*(k:Int)+1+j).tmod 16=1+j:=by
   rw[Jh ac];omega
  obtain⟨zlH,K,Y⟩:=znv h (n:=⟨3,16*(k:Int)+1+j,[]⟩) (DQ ac ac) (by split<;>decide) (i4 _ _ aE fD ax aE aE aE aE);rw[V,af ac]at K;unfold jh;obtain⟨M,Z⟩:=RU o U (j+1) { (zkW ⟨3,16*(k:Int)+1+j,[]⟩ s).2 with vars:=(zkW ⟨3,16*(k:Int)+1+j,[]⟩ s).2.vars.set w (zkW ⟨3,16*(k:Int)+1+j,[]⟩ s).1} (zlH.setV (fun y hy=>by
   rcases rv hy with hy|rfl
   .exact zlH.v y hy
   .exact K) Jf) ac
  exact⟨M,by rw[eK];simp only at Z⊢;omega⟩
theorem RV{c:Cx}{np:Nat}{lp k:Int}{old:List Int}{q:Nd}:∀(U:List Nat) (j:Nat) (s:Bd),LI c np s->IsT s.l 3 lp->s.l[lp.toNat]?=some q->IsT s.l 1 k->(∀y∈old,IsT s.l 1 y)->(∀w∈U,w<old.length)->1<=j->((j+U.length:Nat):Int)<=eC q.kids.length->j+U.length<=16 ->
 LI c np (gL lp k old U j s)/\(gL lp k old U j s).l.length<=s.l.length+2*U.length
 |[],j,s,h,_,_,_,_,_,_,_,_=>⟨h,aB _⟩
 |w::U,j,s,h,hlp,hq,hk,ho,hw,hj,hlv,h16=>by
  rw[eK]at hlv h16;obtain⟨zlH,K,C⟩:=znv h (n:=⟨25,j,[lp]⟩) (DS hlp hq ac ac) (by split<;>decide) (i4 _ _ aE fD ax aE aE aE aE);rw[af ac]at K;have Z:=zmh ⟨25,j,[lp]⟩ s;have o:=hw w ee;have Y:old.getD w 0∈old:=Rp;obtain⟨zlQ,O,n3⟩:=x6 zlH (hk.le Z.le.l) K ((ho _ Y).le Z.le.l) (.inl rfl);have m:=Z.trans (zm0 k (zkW ⟨25,j,[lp]⟩ s).1 (old.getD w 0) (zkW ⟨25,j,[lp]⟩ s).2);unfold gL;simp only[];generalize zlr k (zkW ⟨25,j,[lp]⟩ s).1 (old.getD w 0) (zkW ⟨25,j,[lp]⟩ s).2=z at *;have V:z.2.l[lp.toNat]?=some q:=by
   obtain⟨t,M⟩:=m.le.l;rw[<-M,jG,hq];have:=hlp.hi;have:=hlp.lo;omega
  obtain⟨J,I⟩:=RV (q:=q) (lp:=lp) (k:=k) (old:=old) U (j+1) {z.2 with vars:=z.2.vars.set w z.1} (zlQ.setV (fun y hy=>by
   rcases rv hy with hy|rfl
   .exact zlQ.v y hy
   .exact O) (by rw[jd];exact zlQ.vl)) (hlp.le m.le.l) V (hk.le m.le.l) (fun y hy=>(ho y hy).le m.le.l) (fun y hy=>hw y (el _ hy)) ac ac ac
  exact⟨J,by rw[eK];simp only at I⊢;omega⟩
theorem RW(b:List Bool):(zmV b).length<=b.length:=by
 have:=List.length_filter_le (fun i=>b.getD i false) (List.range b.length)
 rwa [List.length_range]at this
def Jp(c:Cx)(np n:Nat):Prop:=∀x s,SOk c x->2*x.sz<n->LI c np s->s.loops+zlG x<=16->∃r,ol c n x s=some r/\LI c np r/\r.loops<=s.loops+zlG x/\r.l.length<=s.l.length+64*x.sz
def AR(c:Cx)(np n:Nat):Prop:=∀l s,SsOk c l->2*zld l<n->LI c np s->s.loops+zl3 l<=16->∃r,gE c n l s=some r/\LI c np r/\r.loops<=s.loops+zl3 l/\r.l.length<=s.l.length+64*zld l
def Jq(c:Cx)(np n:Nat):Prop:=∀x s,SOk c x->x.kind=4->2*x.sz<=n->LI c np s->s.loops+zlG x<=16->∃r,pn c n x s=some r/\LI c np r/\r.loops<=s.loops+zlG x/\r.l.length<=s.l.length+64*x.sz
theorem zBH{c:Cx}(hc:CxOkU c){np n:Nat}(IS:AR c np n):Jq c np (n+1):=fun x s hx hk hsz h hw=>by
 have hs:=x.sz_eq;have hw1:=zQ x;rw[am hk]at hw1;have hv:=hx.value (.inr (.inr (.inr (.inl hk))));unfold pn;obtain⟨r,hr,j,p2,p3⟩:=sf hc n x.value {s with loops:=s.loops+1} hv ac (h.setN _);have lr:=zmp c n _ _ _ hr;have hrn:r.2.loops=s.loops+1:=lr.n;obtain⟨b,hb,hbl⟩:=AQ n x.thn (List.replicate r.2.vars.length false) hx.subs.1 ac (by rw[qU];exact j.vl);rw[hr,cn,hb,cn];simp only[];have hwl:=RW b;have hnl:=hc.nl;have Z:∀i∈zmV b,i<r.2.vars.length:=fun i O=>by have:=I4 O;have:=j.vl;omega
 generalize zmV b=U at *;have hm:(16*(s.loops:Int)).tmod 16=0:=HP;obtain⟨q1,q2,q3⟩:=znv j (n:=⟨3,16*(s.loops:Int),[]⟩) (DQ ac ac) (by split<;>decide) (i4 _ _ aE fD ax aE aE aE aE);rw[hm,am rfl]at q2;have lq:=zmh ⟨3,16*(s.loops:Int),[]⟩ r.2;generalize zkW ⟨3,16*(s.loops:Int),[]⟩ r.2=q at *;obtain⟨u1,u2⟩:=RU (k:=s.loops) ac U 0 {q.2 with state:=q.1} (q1.setS q2) ac;have lu:=tu (16*(s.loops:Int)+1) U 0 {q.2 with state:=q.1};generalize jh (16*(s.loops:Int)+1) U 0 {q.2 with state:=q.1}=u at *;have hun:u.loops=s.loops+1:=Rq;obtain⟨t,ht,t1,t2,t3⟩:=IS x.thn u hx.subs.1 ac u1 ac;have lt:=(nA c n).2.1 _ _ _ ht;rw[ht,cn];obtain⟨d,hd,J,d2,d3⟩:=sf hc n x.value t hv ac t1;have ld:=zmp c n _ _ _ hd;rw[hd,cn];have Y:zmu r.2 d.2:=(lq.le.setS q.1).trans (lu.1.trans (lt.1.trans ld.le));have I:∀y∈r.2.vars,IsT d.2.l 1 y:=fun y hy=>(j.v y hy).le Y.l;have ho:∀a∈U.map fun i=>r.2.vars.getD i 0,IsT d.2.l 1 a:=fun a ha=>by
  obtain⟨i,O,rfl⟩:=kV.1 ha;rw[dx,aT (Z i O)];exact I _ (cR _)
 have hn:∀a∈U.map fun i=>d.2.vars.getD i 0,IsT d.2.l 1 a:=fun a ha=>by
  obtain⟨i,O,rfl⟩:=kV.1 ha;have:=Z i O;have e1:=J.vl;have e2:=j.vl;rw[dx,aT (show i<d.2.vars.length by omega)];exact J.v _ (cR _)
 have V:(r.2.state::(U.map fun i=>r.2.vars.getD i 0)++[d.1,d.2.state]++U.map fun i=>d.2.vars.getD i 0).length=2*U.length+3:=b9;obtain⟨k1,o,k3⟩:=znv J (n:=⟨31,s.loops,r.2.state::(U.map fun i=>r.2.vars.getD i 0)++[d.1,d.2.state]++U.map fun i=>d.2.vars.getD i 0⟩) (PQ (j.st.le Y.l) ho d2 J.st hn ax b9 ac ac) aE (i4 _ _ aE fD qS aE aE aE aE);have lk:=zmh ⟨31,s.loops,r.2.state::(U.map fun i=>r.2.vars.getD i 0)++[d.1,d.2.state]++U.map fun i=>d.2.vars.getD i 0⟩ d.2;have hq:(zkW ⟨31,s.loops,r.2.state::(U.map fun i=>r.2.vars.getD i 0)++[d.1,d.2.state]++U.map fun i=>d.2.vars.getD i 0⟩ d.2).2.l[(zkW ⟨31,s.loops,r.2.state::(U.map fun i=>r.2.vars.getD i 0)++[d.1,d.2.state]++U.map fun i=>d.2.vars.getD i 0⟩ d.2).1.toNat]?=some ⟨31,s.loops,r.2.state::(U.map fun i=>r.2.vars.getD i 0)++[d.1,d.2.state]++U.map fun i=>d.2.vars.getD i 0⟩:=IV _ _;generalize zkW ⟨31,s.loops,r.2.state::(U.map fun i=>r.2.vars.getD i 0)++[d.1,d.2.state]++U.map fun i=>d.2.vars.getD i 0⟩ d.2=k at *;have M:eC (2*U.length+3:Nat)=((U.length+1:Nat):Int):=zG;have k1':=k1.setV (x:=r.2.vars) (fun y hy=>(I y hy).le lk.le.l) j.vl;obtain⟨f1,f2,f3⟩:=znv k1' (n:=⟨25,0,[k.1]⟩) (DS (n:=0) o hq ac (by rw[V,M];omega)) aE (i4 _ _ aE fD ax aE aE aE aE);rw[am rfl]at f2;have lf:=zmh ⟨25,0,[k.1]⟩ {k.2 with vars:=r.2.vars};have C:r.2.l<+:(zkW ⟨25,0,[k.1]⟩ {k.2 with vars:=r.2.vars}).2.l:=(Y.l.trans lk.le.l).trans lf.le.l;have hfv:(zkW ⟨25,0,[k.1]⟩ {k.2 with vars:=r.2.vars}).2.vars=r.2.vars:=lf.v;obtain⟨zlH,m2,m3⟩:=x6 f1 (p2.le C) f2 (j.st.le C) (.inr rfl);have lm:=zm0 r.1 (zkW ⟨25,0,[k.1]⟩ {k.2 with vars:=r.2.vars}).1 r.2.state (zkW ⟨25,0,[k.1]⟩ {k.2 with vars:=r.2.vars}).2;generalize zkW ⟨25,0,[k.1]⟩ {k.2 with vars:=r.2.vars}=f at *;generalize zlr r.1 f.1 r.2.state f.2=m at *;have K:k.2.l<+:m.2.l:=lf.le.l.trans lm.le.l;have hqm:m.2.l[k.1.toNat]?=some ⟨31,s.loops,r.2.state::(U.map fun i=>r.2.vars.getD i 0)++[d.1,d.2.state]++U.map fun i=>d.2.vars.getD i 0⟩:=by
  obtain⟨z,hz⟩:=K;rw[<-hz,jG,hq];have:=o.hi;have:=o.lo;omega
 obtain⟨z1,z2⟩:=RV (lp:=k.1) (k:=r.1) (old:=r.2.vars) U 1 {m.2 with state:=m.1} (zlH.setS m2) (o.le K) hqm (p2.le (C.trans lm.le.l)) (fun y hy=>(j.v y hy).le (C.trans lm.le.l)) Z (aB _) (by rw[V,M];omega) ac;have lz:=uE k.1 r.1 r.2.vars U 1 {m.2 with state:=m.1};refine⟨_,rfl,z1,?_,?_⟩
 .rw[lz.2.2.2];show m.2.loops<=_;rw[lm.n,lf.n];show k.2.loops<=_;rw[lk.n,ld.n];omega
 .simp only at z2 p3 u2 f3⊢;omega
theorem zBI{c:Cx}(Z:CxOkU c){np n:Nat}(IS:AR c np n)(IW:Jq c np n):Jp c np (n+1):=fun x s hx hsz h hw=>by
 have hs:=x.sz_eq;have hw1:=zQ x;have hkd:=hx.kd;unfold ol;by_cases k1:x.kind=1
 .rw[am k1];obtain⟨r,hr,j,Y,p3⟩:=sf Z n x.value s (hx.value (.inl k1)) ac h;have V:=zmp c n _ _ _ hr;have hn:=hx.name (.inl k1);have o:=j.vl;rw[hr,cn,am ac];exact⟨_,rfl,j.setV (fun y hy=>by
   rcases rv hy with hy|rfl
   .exact j.v y hy
   .exact Y) (by rw[jd];exact o),by show r.2.loops<=_;rw[V.n];omega,x4⟩
 rw[af k1];by_cases k2:x.kind=2
 .rw[am k2];obtain⟨r,hr,j,Y,p3⟩:=sf Z n x.at_ s (hx.at_ k2) ac h
  obtain⟨v,hv,q1,q2,q3⟩:=sf Z n x.value r.2 (hx.value (.inr (.inl k2))) ac j;have V:=zmp c n _ _ _ hr;have lv:=zmp c n _ _ _ hv;have O:=hx.arr k2;rw[hr,cn,hv,cn,aT O,cn];have ha:=Z.a _ (cR O);generalize c.arrays[cP (c.arrays.map (·.name)) x.name]=ar at ha⊢;have p2':=Y.le lv.le.l;obtain⟨J,a2⟩:=RK q1 (n:=ar.len) fD p2';have zlB:=tq ar.len r.1 v.2;obtain⟨M,C,b3⟩:=RM Z J (p2'.le zlB.le.l) (q2.le zlB.le.l) O;exact⟨_,rfl,M.setS C,by show(hZ ar.len r.1 v.2).loops<=_;rw[zlB.n,lv.n,V.n];omega,x4⟩
 rw[af k2];by_cases k3:x.kind=3
 .rw[am k3];rw[af ac]at hw1;obtain⟨r,hr,j,Y,p3⟩:=sf Z n x.value s (hx.value (.inr (.inr (.inl k3)))) ac h;have V:=zmp c n _ _ _ hr;have hrn:=V.n;obtain⟨a,ha,J,a2,a3⟩:=IS x.thn r.2 hx.subs.1 ac j ac;have la:=(nA c n).2.1 _ _ _ ha;have hal:a.vars.length=c.names.length:=J.vl;obtain⟨b,hb,M,C,b3⟩:=IS x.els {a with state:=r.2.state,vars:=r.2.vars} hx.subs.2 ac ((J.setS (j.st.le la.1.l)).setV (fun y hy=>(j.v y hy).le la.1.l) j.vl) (by show a.loops+_<=_;omega);have lb:=(nA c n).2.1 _ _ _ hb;have K:a.l<+:b.l:=lb.1.l;have kb:IsT b.l 1 r.1:=(Y.le la.1.l).le K;have hbl:=M.vl;obtain⟨m,hm,zlH,m2⟩:=RT (k:=r.1) (a:=a.vars) b.vars.length 0 b M kb (fun y hy=>(J.v y hy).le K) hal ac;have lm:=wo _ _ _ _ _ _ hm;rw[hr,cn,ha,cn,hb,cn,hm,cn];obtain⟨t1,t2,t3⟩:=x6 zlH (kb.le lm.1.l) ((J.st.le K).le lm.1.l) zlH.st (.inr rfl);have lt:=zm0 r.1 a.state m.state m;have hnl:=Z.nl;refine⟨_,rfl,t1.setS t2,?_,?_⟩
  .show(zlr r.1 a.state m.state m).2.loops<=_;rw[lt.n,lm.2.2.2];simp only at C;omega
  .simp only at b3⊢;omega
 rw[af k3];by_cases k4:x.kind=4
 .rw[am k4];exact IW x s hx k4 ac h hw
 rw[af k4];by_cases k5:x.kind=5
 .rw[am k5];obtain⟨r,hr,j,Y,p3⟩:=sf Z n x.value s (hx.value (.inr (.inr (.inr (.inr k5))))) ac h;have V:=zmp c n _ _ _ hr;rw[hr,cn];obtain⟨M,C,b3⟩:=ziu j Y;exact⟨_,rfl,M.setS C,by show r.2.loops<=_;rw[V.n];omega,x4⟩
 rw[af k5];by_cases k6:x.kind=6
 .rw[am k6];obtain⟨r,hr,j,Y,p3⟩:=RP Z (n:=n) x.args s hx.args ac h;obtain⟨V,hlr⟩:=tt c n _ _ _ hr;obtain⟨c1,c2⟩:=hx.call k6;obtain⟨i,hi,hfe⟩:=Du c.funcs x.to 0 c1;obtain⟨f,I⟩:=og c.funcs hi;have U:zl2 c.funcs x.to 0=(i:Int):=by simpa using hfe
  have hn:=hx.name (.inr k6);have o:=j.vl;have hpar:r.1.length=f.params.length:=by
   rw[hlr,c2,pe,U,ja,I];rfl
  rw[hr,cn,am ⟨c1,ac⟩];simp only[];rw[U];obtain⟨M,C,b3⟩:=RN Z j Y I hpar;have lb:=zmh ⟨30,i,r.2.state::r.1⟩ r.2;generalize zkW ⟨30,i,r.2.state::r.1⟩ r.2=z at *;obtain⟨d1,d2,d3⟩:=ziv (M.setS C) C;have ld:=zmh ⟨24,0,[z.1]⟩ {z.2 with state:=z.1};generalize zkW ⟨24,0,[z.1]⟩ {z.2 with state:=z.1}=w at *;refine⟨_,rfl,d1.setV (fun y hy=>?_) (by rw[jd];exact d1.vl),?_,?_⟩
  .rcases rv hy with hy|rfl
   .exact d1.v y hy
   .exact d2
  .show w.2.loops<=_;rw[ld.n];show z.2.loops<=_;rw[lb.n,V.n];omega
  .simp only at d3⊢;omega
 rw[af k6];by_cases k7:x.kind=7
 .rw[am k7];have ht:=hx.trap k7;have hw:bE (16+x.n)=16+x.n:=znj ac ac;rw[hw];obtain⟨J,a2,a3⟩:=AO h (n:=0) fD;obtain⟨M,C⟩:=Jn J (t:=16+x.n) a2 ac ac;have lb:=tp (16+x.n) (zkW ⟨1,0,[]⟩ s).1 (zkW ⟨1,0,[]⟩ s).2;exact⟨_,rfl,M,by rw[lb.n];show s.loops<=_;omega,ac⟩
 .omega
theorem zBJ{c:Cx}{np n:Nat}(m:Jp c np n)(C:AR c np n):AR c np (n+1):=fun l s M O h Z=>by
 cases l with
 |nil=>exact⟨s,by unfold gE;rfl,h,ac,ac⟩
 |cons x l=>
  obtain⟨hx,M⟩:=M.cons;rw[zld]at O⊢;rw[zl3]at Z⊢;unfold gE;simp only[];obtain⟨r,hr,j,V,z⟩:=m x s hx ac h ac;obtain⟨t,Y,K,o,U⟩:=C l r M ac j ac;rw[hr,cn,Y];exact⟨t,rfl,K,ac,ac⟩
theorem RX{c:Cx}(z:CxOkU c){np:Nat}:∀n:Nat,Jp c np n/\AR c np n/\Jq c np n
 |0=>⟨fun x s _ h=>ac,fun l s _ h=>ac,fun x s hx _ h=>by have:=x.sz_eq;omega⟩
 |n+1=>by
  obtain⟨a,b,d⟩:=RX z (np:=np) n;exact⟨zBI z b d,zBJ a b,zBH z b⟩
end
end Go.Proofs.YtpbcimfiofmoeaaGreat
