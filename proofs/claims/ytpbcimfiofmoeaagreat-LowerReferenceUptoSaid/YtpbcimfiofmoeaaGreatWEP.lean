/- Lemmas for the last file. -/
import Derived.Test.YtpbcimfiofmoeaaGreatWEO
set_option linter.all false
set_option maxHeartbeats 32000000
namespace Go.Ab
set_option maxRecDepth 20000
open Go
variable{qe:Prop}
def Fz(h:qe:=by simp only[List.length_map,ee];omega):=h
def Sd(h:qe:=by obtain⟨a,_,rfl⟩:=List.mem_map.1 hx;exact a.a9):=h
def yS(h:qe:=by rw[show ee=70368744177664 from rfl];omega):=h
def Se(h:qe:=by simp only[List.all_cons,List.all_nil,hl1];rfl):=h
def fF(h:qe:=by unfold gV;omega):=h
def BB(h:qe:=by show gV (k:Int);unfold gV;omega):=h
def Sf(h:qe:=by rw[nC,hr,Option.bind_some,C,Option.bind_some]):=h
def yT(h:qe:=by simp only;omega):=h
def Sg(h:qe:=by rw[o4 _ ac ac,aD,if_neg ac];exact g2):=h
def Sk(h:qe:=by rw[o4 _ ac ac,aD,if_pos ac]):=h
def FA(h:qe:=by rw[Hp.get_set,if_neg ac,aD,if_pos rfl];simp):=h
def Sl(h:qe:=by rw[gB _ _ _ _ ac ac];exact V.get k h1 O):=h
def Sn(h:qe:=by rw[Hp.get_set,if_neg ac,aD,if_neg ac];exact g0):=h
def FB:=@Int.tmod_nonneg
def JY:=@List.eq_nil_of_length_eq_zero
def cN:=@Option.bind_some
end Go.Ab
namespace Go.Proofs.YtpbcimfiofmoeaaGreat
set_option maxRecDepth 20000
open Go Go.Ab Proofs.Tryz
variable{f:Fu}{I:Type}{m c e t b:Int}{cs Z:qu}{S:Nat->Prop}{n lo r k i:Nat}{H:Hp}{L:qy}{l:qI}{tb:qC}{u:Un}
section
def tyG3.tyF:=ad @dQ (ad @cr (ad @cK (ad @fP (ad @et (ad @dR (ad @dD (ad @Bm (ad @u7 (@ya)))))))))
open tyG3
noncomputable def So:{c:SC // aE 115 (f49.body.getD .skip)=c}:=by
 refine⟨?_,?_⟩;rotate_left
 .simp only[f49,bN,aE,bH,bw,bM,bJ,Nat.blt,Nat.ble];rfl
def FC(f:FuncId):Bool:=Nat.beq f 40||Nat.beq f 49||Nat.beq f 48||Nat.beq f 84||Nat.beq f 25
structure zf6 (l:qC):Prop where
 pick:∀ar,dE l 12 ar=vH.sp ar
 f4:∀ar,dE l 37 ar=EQ.sp ar
 nms:∀ar,dE l 85 ar=ER.sp ar
 pl:∀f,FC f=true->(∀ar,dE l f ar=none)/\iA l f=false
def zf6.plain{l:qC}(h:zf6 l){f:FuncId}(j:FC f=true):zd0 (au pls l) f:=ei (h.pl f j).1 (h.pl f j).2
def zez{f:FuncId}(h:FC f=true):f=40\/f=49\/f=48\/f=84\/f=25:=by
 simp only[FC,sG]at h;rcases h with(((h|h)|h)|h)|h<;>have e:=rH h<;>subst e<;>simp
def yU(m:Int):Int:=if m.tmod 2=0 then 20 else 21
def uA(m:Int):qA:=if m.tmod 2=0 then [97]else [98]
def bW(f:Int):Nat->Nat->qy->Ex×qy
 |0,_,L=>(.mk 0 0 [] 0 [],L)
 |k+1,deep,L=>
  let n:=(cj L).1
  let Y:=(cj L).2
  let q:=bc n 16
  let m:=bc (bB (n.tdiv 16)) 1000
  if q<4\/(3:Int)<deep then
   if q.tmod 2=0\/((3:Int)<deep/\8<q)then (.mk 2 0 ((ct f).getD (m.tmod (ct f).length).toNat []) 0 [],Y)
   else (.mk 1 (td m n) [] 0 [],Y)
  else if q<6 then (.mk 3 0 (uA m) 0 [(bW f k (deep+1) Y).1],(bW f k (deep+1) Y).2)
  else if q<7 then
   let a:=bW f k (deep+1) Y
   let b:=bW f k (deep+1) a.2
   let c:=bW f k (deep+1) b.2
   (.mk 5 0 [] 0 [a.1,b.1,c.1],c.2)
  else if q<9 then (.mk 4 0 [] (yU m) [(bW f k (deep+1) Y).1],(bW f k (deep+1) Y).2)
  else
   let a:=bW f k (deep+1) Y
   let b:=bW f k (deep+1) a.2
   (.mk 4 0 [] (bB (4+m.tmod 15)) [a.1,b.1],b.2)
def pr(L:qy):(cj L).2.length<=L.length:=by cases L<;>simp[cj]
theorem fj(f:Int):∀(k Y:Nat) (L:qy),(bW f k Y L).2.length<=L.length
 |0,_,_=>ay _
 |k+1,Y,L=>by
  have h:=pr L;have ih:=fun L=>fj f k (Y+1) L;simp only[bW];split
  .split<;>exact h
  grind
def BC(z n lo:Nat)(H:Hp)(r:Nat)(ws:qu)(L:qy)(c:Int)(v:AV)(H':Hp):Prop:=
 (∃I,v=.agg I/\I.length=z/\I.all AV.one=true/\b9 (fun q=>H.next<=q) n H' I ws)/\i8 lo H' r L c/\H.next<=H'.next/\∀q,q<H.next->q≠r->H'.get q=H.get q
def th(l:List I)(O:(l.length:Int)≠0)(Y:0<=m)(d:I):0<=m.tmod l.length/\l[(m.tmod l.length).toNat]?=some (l.getD (m.tmod l.length).toNat d):=by
 have Z:=FB (l.length:Int) Y;have j:=xn m (b:=(l.length:Int)) ac;simp_all
def JZ(h:0<=m):0<=m.tmod 2/\m.tmod 2<2:=⟨FB _ h,xn _ ac⟩
def uB(h:0<=m)(r:Nat):el prog 59 (.sl r 0 2 1) (.int .i64 (m.tmod 2))=some (.ptr r (m.tmod 2).toNat):=by
 obtain⟨Z,j⟩:=JZ h;rw[Ic _ _ _ _ Z,kS (by omega:(m.tmod 2).toNat<2)];simp
def zeA(h:0<=m)(r:Nat):el prog 23 (.sl r 0 2 1) (.int .i64 (m.tmod 2))=some (.ptr r (m.tmod 2).toNat):=by
 obtain⟨Z,j⟩:=JZ h;rw[H0 _ _ _ _ Z,kS (by omega:(m.tmod 2).toNat<2)];simp
def J0(h:0<=m)(a b:I):[a,b][(m.tmod 2).toNat]?=some (if m.tmod 2=0 then a else b):=by
 grind
theorem uC(h:0<=m):[AV.aj [97],AV.aj [98]][(m.tmod 2).toNat]?=some (.aj (uA m)):=by
 rw[J0 h,uA];split<;>rfl
theorem zeB(h:0<=m):[AV.int .i64 20,AV.int .i64 21][(m.tmod 2).toNat]?=some (.int .i64 (yU m)):=by
 rw[J0 h,yU];split<;>rfl
def zeC(s:qA):dd prog 63 [(0,.int .i64 2),(2,.aj s)]=some (.agg [.int .i64 2,.int .i64 0,.aj s,.int .i64 0,.ag]):=ax
def zeD(n:Int):dd prog 63 [(0,.int .i64 1),(1,.int .i64 n)]=some (.agg [.int .i64 1,.int .i64 n,.aj [],.int .i64 0,.ag]):=ax
def zeE(s:qA)(r n:Nat):dd prog 63 [(0,.int .i64 3),(2,.aj s),(4,.sl r 0 n 5)]=some (.agg [.int .i64 3,.int .i64 0,.aj s,.int .i64 0,.sl r 0 n 5]):=ax
def zeF(r n:Nat):dd prog 63 [(0,.int .i64 5),(4,.sl r 0 n 5)]=some (.agg [.int .i64 5,.int .i64 0,.aj [],.int .i64 0,.sl r 0 n 5]):=ax
def Sp(o:Int)(r n:Nat):dd prog 63 [(0,.int .i64 4),(3,.int .i64 o),(4,.sl r 0 n 5)]=some (.agg [.int .i64 4,.int .i64 0,.aj [],.int .i64 o,.sl r 0 n 5]):=ax
def dW(h:cs.length=5):∃a b c d e,cs=[a,b,c,d,e]:=by
 match cs,h with
 |[a,b,c,d,e],_=>simp_all
def J1(H:Hp)(h:cs.length=5)(h1:cs.all AV.one=true):de prog H 61 1 [(0,.agg cs)]=some (.sl H.next 0 1 5,H.alloc (.cells cs 0 true)):=by
 obtain⟨a,b,c,d,e,rfl⟩:=dW h;kernel_rfl
def zeG(H:Hp)(h:cs.length=5)(k:Z.length=5):de prog H 61 2 [(0,.agg cs),(1,.agg Z)]=some (.sl H.next 0 2 5,H.alloc (.cells (cs++Z) 0 true)):=by
 obtain⟨a,b,c,d,e,rfl⟩:=dW h;obtain⟨m,b',M,O,J,rfl⟩:=dW k;kernel_rfl
def zeH(H:Hp){I:qu}(h:cs.length=5)(k:Z.length=5)(l:I.length=5):de prog H 61 3 [(0,.agg cs),(1,.agg Z),(2,.agg I)]=some (.sl H.next 0 3 5,H.alloc (.cells (cs++Z++I) 0 true)):=by
 obtain⟨a,b,c,d,e,rfl⟩:=dW h;obtain⟨m,b',J,C,z,rfl⟩:=dW k;obtain⟨O,U,V,Y,M,rfl⟩:=dW l;kernel_rfl
def Sq(H:Hp)(a b:Int):de prog H 23 2 [(0,.int .i64 a),(1,.int .i64 b)]=some (.sl H.next 0 2 1,H.alloc (.cells [.int .i64 a,.int .i64 b] 0 true)):=ax
theorem BD(a b c d e:AV):cq 5 [a,b,c,d,e]=some (.agg [a,b,c,d,e]):=rfl
abbrev qs:HB:=.cells [.aj [97],.aj [98]] 0 true
set_option maxRecDepth 100000 in
theorem mK{lG:qC}(hG:zf6 lG):∀(k:Nat) (f:Int) (Y:Nat),5<=Y+k->Y<=4->∀(lo:Nat) (H:Hp) (r:Nat) (L:qy) (c:Int),i8 lo H r L c->L.length<2^60 ->
 aR prog (au pls lG) 49 [.ptr r 0,.int .i64 f,.int .i64 Y] H (BC 5 (k+1) lo H r (bW f k Y L).1.cells (bW f k Y L).2 c)
 |0,f,Y,Z,j,_,_,_,_,_,_,_=>by omega
 |k+1,f,Y,Z,j,lo,H,r,L,c,hrd,hL=>by
  have hw:zd0 (au pls lG) 49:=hG.plain cM;have hnx:zd0 (au pls lG) 40:=hG.plain cM;have hrl:=hrd.1;have hlo:=hrd.2.1;have hq16:(16:Int)≠0:=aH;generalize I:bW f (k+1) Y L=R;rw[bW]at I;simp only[]at I;refine bp (M:=115) (rs:=[.cell 6 63]) (hw.call _) hw.aG hw.aB func49 rfl rfl So.2 rfl ?_;dsimp only[So,bm,Nat.reduceAdd];refine cY fun K hK=>?_;refine qc ?_;refine aF ?_ (ES hnx (hrd.keep (cG _) fun q U=>em) hL);rintro v H2 ⟨rfl,V,n2,o2⟩;simp only[aU]at n2;have g2:H2.get H.next=some qj:=by rw[o2 _ ac,aD,ai rfl]
  have O:∀q,q<H.next->q≠r->H2.get q=H.get q:=fun q Z j=>by rw[o2 q j,aD,af ac]
  have hL1:=pr L;generalize (cj L).1=n at *;generalize (cj L).2=L1 at *;have U:=fE (n:=n) (m:=16) ac ac;have hm:=fE (n:=bB (n.tdiv 16)) (m:=1000) ac ac;have hq2:(2:Int)≠0:=aH;have hq15:(15:Int)≠0:=aH;have hlen0:((ct f).length:Int)≠0:=by rcases uw f with h|h<;>rw[h]<;>decide
  have hwd:IntKind.wrap .i64 ((Y:Int)+1)=((Y+1:Nat):Int):=gS ac;clear o2;dsimp only[aC];obtain⟨hi0,hix⟩:=th (ct f) hlen0 hm.1 [];have hxs:=uB hm.1;have hxi:=zeA hm.1;have hxa:=uC hm.1;have hxo:=zeB hm.1;have kf:∀(H3:Hp) (x:Ex),i8 lo H3 r L1 c->H.next<=H3.next->(∀q,q<H.next->q≠r->H3.get q=H.get q)->∀cs,cs.length=5->cs.all AV.one=true->b9 (fun q=>H.next<=q) (k+2) H3 cs x.cells->BC 5 (k+2) lo H r x.cells L1 c (.agg cs) H3:=fun H3 x q1 q2 q3 cs q4 q5 q6=>⟨⟨cs,rfl,q4,q5,q6⟩,q1,q2,q3⟩
  have gh0:=@zeC;have gh1:=@zeD;have gh2:=@BD;have gh3:=@Sq;repeat' (first
   |(apply aj ?_;clear hK K)|apply aV ?_|(apply eu ?_;first|refine bK (P7 hG.nms _ _) ?_|refine bK (jE hG.pick _ _ aH _) ?_|refine bK (zcU hG.f4 _ _ _) ?_)|(apply cL ?_ ?_<;>(intro hg hgp;try(cases hg;done)))|(apply bz ?_ ?_<;>(intro hb hbp;try(cases hb;done)))|(apply am fun K hK=>?_)|(apply ci 10 [(0,9),(0,12),(4,9),(4,12),(10,12)] fun K hK=>?_)|(apply ci 14 [(0,9),(0,12),(4,9),(4,12),(10,12)] fun K hK=>?_)|(apply bD ?_;try intro _)|fail)
  .refine⟨aB,_,(by(try simp only[aG,aY,Nat.reduceBEq,tyF,cF,cR, *]);first|done|with_reducible rfl),?_⟩;try simp only[aA]
   first
   |rw[ai ac,ai ac]at I
   |rw[ai ac,af ac]at I
   subst I;refine kf _ _ ?_ ?_ ?_ _ rfl rfl (pp _ _ _ _)
   .exact V.keep (ay _) fun q U=>ly
   .simp only[bq];omega
   .intro q Z j;rw[aM,af ac];exact O q Z j
  .refine⟨aB,_,(by(try simp only[aG,aY,Nat.reduceBEq,tyF,cF,cR, *]);first|done|with_reducible rfl),?_⟩;try simp only[aA]
   first
   |rw[ai ac,ai ac]at I
   |rw[ai ac,af ac]at I
   subst I;refine kf _ _ ?_ ?_ ?_ _ rfl rfl (pp _ _ _ _)
   .exact V.keep (ay _) fun q U=>ly
   .simp_all
   .intro q Z j;rw[aM,af ac];exact O q Z j
  .refine⟨aB,_,(by(try simp only[aG,aY,Nat.reduceBEq,tyF,cF,cR, *]);first|done|with_reducible rfl),?_⟩;try simp only[aA]
   first
   |rw[ai ac,ai ac]at I
   |rw[ai ac,af ac]at I
   subst I;refine kf _ _ ?_ ?_ ?_ _ rfl rfl (pp _ _ _ _)
   .exact V.keep (ay _) fun q U=>ly
   .simp only[bq];omega
   .intro q Z j;rw[aM,af ac];exact O q Z j
  ·-- one operand
   have er:(H.next == r)=false:=ak ac;refine qd ?_;refine aF ?_ (mK hG k f (Y+1) ac ac lo _ r L1 c (V.keep (cG _) fun q U=>em) ac);rintro v H4 ⟨⟨cs,rfl,C,hc2,J⟩,z,n4,o4⟩;simp only[aU]at n4 o4 J;have g4:H4.get H.next=some qj:=Sg
   have g4s:H4.get (H.next+1)=some qs:=Sk;have kb:=fun H=>J1 H C hc2;have e4:(H.next == H4.next)=false:=ak ac;have e5:(H.next+1 == H4.next)=false:=ak ac;dsimp only[aC];have gh0:=@BD;have gh1:=@zeE;repeat' (first
    |apply aV ?_|(apply bD ?_;try intro _)|(apply ch ?_ ?_<;>clear hK K)|fail)
   .exact cn
   .refine⟨aB,_,(by(try simp only[aG,aY,Nat.reduceBEq,tyF,cF,cR, *]);first|done|with_reducible rfl),?_⟩;try simp only[aA]
    rw[af ac,ai ac]at I;subst I;refine⟨⟨_,rfl,rfl,rfl,?_⟩,?_,?_,?_⟩
    .refine vJ (n:=k+1) _ _ _ _ (se (n:=k+1) (a:=[cs]) (imm:=0) (tip:=true) ac iX FA aw ⟨⟨C,J.keep (fun q U=>ac) iX fun q Z j=>oB⟩,trivial⟩)
    .exact z.keep iX fun q U=>oB
    .simp only[bq,aU];omega
    .intro q Z j;rw[aM,af ac,aD,af ac,o4 _ ac j,aD,af ac];exact O q Z j
  ·-- more operands
   have er:(H.next == r)=false:=ak ac;refine qc ?_;refine aF ?_ (mK hG k f (Y+1) ac ac lo _ r L1 c V ac);rintro v H4 ⟨⟨cs,rfl,C,hc2,J⟩,z,n4,o4⟩;have hl4:=fj f k (Y+1) L1;dsimp only[aC];refine gW ?_;refine qc ?_;refine aF ?_ (mK hG k f (Y+1) ac ac lo H4 r (bW f k (Y+1) L1).2 c z ac);rintro v H5 ⟨⟨ds,rfl,hd1,hd2,hd3⟩,hr5,n5,o5⟩;have hl5:=fj f k (Y+1) (bW f k (Y+1) L1).2;dsimp only[aC];refine gW ?_;refine qc ?_;refine aF ?_ (mK hG k f (Y+1) ac ac lo H5 r (bW f k (Y+1) (bW f k (Y+1) L1).2).2 c hr5 ac);rintro v H6 ⟨⟨es,rfl,he1,he2,he3⟩,hr6,n6,o6⟩;have hl6:=fj f k (Y+1) (bW f k (Y+1) (bW f k (Y+1) L1).2).2;dsimp only[aC];have gz:H6.get H.next=some qj:=by rw[o6 _ ac ac,o5 _ ac ac,o4 _ ac ac];exact g2
   have kb:=fun H=>zeH H C hd1 he1;have e4:(H.next == H6.next)=false:=ak ac;have gh0:=@BD;have gh1:=@zeF;refine gW ?_;refine⟨aB,_,(by(try simp only[aG,aY,Nat.reduceBEq,tyF,cF,cR, *]);first|done|with_reducible rfl),?_⟩;try simp only[aA]
   rw[af ac,af ac,ai ac]at I;subst I;refine⟨⟨_,rfl,rfl,rfl,?_⟩,?_,?_,?_⟩
   .refine vJ (n:=k+1) _ _ _ _ (se (n:=k+1) (a:=[cs,ds,es]) (imm:=0) (tip:=true) ac iX FA aw ⟨⟨C,J.keep (fun q U=>ac) iX fun q Z j=>by rw[aM,af ac,aD,af ac,o6 _ ac ac,o5 _ ac ac]⟩,⟨hd1,hd3.keep (fun q U=>ac) iX fun q Z j=>by rw[aM,af ac,aD,af ac,o6 _ ac ac]⟩,⟨he1,he3.keep (fun q U=>ac) iX fun q Z j=>oB⟩,trivial⟩)
   .exact hr6.keep iX fun q U=>oB
   .simp only[bq,aU];omega
   .intro q Z j;rw[aM,af ac,aD,af ac,o6 _ ac j,o5 _ ac j,o4 _ ac j];exact O q Z j
  ·-- one operand
   have er:(H.next == r)=false:=ak ac;refine qd ?_;refine aF ?_ (mK hG k f (Y+1) ac ac lo _ r L1 c (V.keep (cG _) fun q U=>em) ac);rintro v H4 ⟨⟨cs,rfl,C,hc2,J⟩,z,n4,o4⟩;simp only[aU]at n4 o4 J;have g4:H4.get H.next=some qj:=Sg
   have g4s:H4.get (H.next+1)=some (.cells [.int .i64 20,.int .i64 21] 0 true):=Sk;have kb:=fun H=>J1 H C hc2;have e4:(H.next == H4.next)=false:=ak ac;have e5:(H.next+1 == H4.next)=false:=ak ac;dsimp only[aC];have gh0:=@Sq;have gh1:=@BD;have gh2:=@Sp;repeat' (first
    |apply aV ?_|(apply bD ?_;try intro _)|(apply ch ?_ ?_<;>clear hK K)|fail)
   .exact cn
   .refine⟨aB,_,(by(try simp only[aG,aY,Nat.reduceBEq,tyF,cF,cR, *]);first|done|with_reducible rfl),?_⟩;try simp only[aA]
    rw[af ac,af ac,af ac,ai ac]at I;subst I;refine⟨⟨_,rfl,rfl,rfl,?_⟩,?_,?_,?_⟩
    .refine vJ (n:=k+1) _ _ _ _ (se (n:=k+1) (a:=[cs]) (imm:=0) (tip:=true) ac iX FA aw ⟨⟨C,J.keep (fun q U=>ac) iX fun q Z j=>oB⟩,trivial⟩)
    .exact z.keep iX fun q U=>oB
    .simp only[bq,aU];omega
    .intro q Z j;rw[aM,af ac,aD,af ac,o4 _ ac j,aD,af ac];exact O q Z j
  ·-- more operands
   have er:(H.next == r)=false:=ak ac;refine qc ?_;refine aF ?_ (mK hG k f (Y+1) ac ac lo _ r L1 c V ac);rintro v H4 ⟨⟨cs,rfl,C,hc2,J⟩,z,n4,o4⟩;have hl4:=fj f k (Y+1) L1;dsimp only[aC];refine gW ?_;refine qc ?_;refine aF ?_ (mK hG k f (Y+1) ac ac lo H4 r (bW f k (Y+1) L1).2 c z ac);rintro v H5 ⟨⟨ds,rfl,hd1,hd2,hd3⟩,hr5,n5,o5⟩;have hl5:=fj f k (Y+1) (bW f k (Y+1) L1).2;dsimp only[aC];have gz:H5.get H.next=some qj:=by rw[o5 _ ac ac,o4 _ ac ac];exact g2
   have kb:=fun H=>zeG H C hd1;have e4:(H.next == H5.next)=false:=ak ac;have gh0:=@BD;have gh1:=@Sp;refine gW ?_;refine⟨aB,_,(by(try simp only[aG,aY,Nat.reduceBEq,tyF,cF,cR, *]);first|done|with_reducible rfl),?_⟩;try simp only[aA]
   rw[af ac,af ac,af ac,af ac]at I;subst I;refine⟨⟨_,rfl,rfl,rfl,?_⟩,?_,?_,?_⟩
   .refine vJ (n:=k+1) _ _ _ _ (se (n:=k+1) (a:=[cs,ds]) (imm:=0) (tip:=true) ac iX FA aw ⟨⟨C,J.keep (fun q U=>ac) iX fun q Z j=>by rw[aM,af ac,aD,af ac,o5 _ ac ac]⟩,⟨hd1,hd3.keep (fun q U=>ac) iX fun q Z j=>oB⟩,trivial⟩)
   .exact hr5.keep iX fun q U=>oB
   .simp only[bq,aU];omega
   .intro q Z j;rw[aM,af ac,aD,af ac,o5 _ ac j,o4 _ ac j];exact O q Z j
  .omega
  .refine⟨aB,_,(by(try simp only[aG,aY,Nat.reduceBEq,tyF,cF,cR, *]);first|done|with_reducible rfl),?_⟩;try simp only[aA]
   first
   |rw[ai ac,ai ac]at I
   |rw[ai ac,af ac]at I
   subst I;refine kf _ _ ?_ ?_ ?_ _ rfl rfl (pp _ _ _ _)
   .exact V.keep (ay _) fun q U=>ly
   .simp_all
   .intro q Z j;rw[aM,af ac];exact O q Z j
  .refine⟨aB,_,(by(try simp only[aG,aY,Nat.reduceBEq,tyF,cF,cR, *]);first|done|with_reducible rfl),?_⟩;try simp only[aA]
   first
   |rw[ai ac,ai ac]at I
   |rw[ai ac,af ac]at I
   subst I;refine kf _ _ ?_ ?_ ?_ _ rfl rfl (pp _ _ _ _)
   .exact V.keep (ay _) fun q U=>ly
   .simp_all
   .intro q Z j;rw[aM,af ac];exact O q Z j
  .refine⟨aB,_,(by(try simp only[aG,aY,Nat.reduceBEq,tyF,cF,cR, *]);first|done|with_reducible rfl),?_⟩;try simp only[aA]
   first
   |rw[ai ac,ai ac]at I
   |rw[ai ac,af ac]at I
   subst I;refine kf _ _ ?_ ?_ ?_ _ rfl rfl (pp _ _ _ _)
   .exact V.keep (ay _) fun q U=>ly
   .simp only[bq];omega
   .intro q Z j;rw[aM,af ac];exact O q Z j
end
section
def tyG4.tyF:=ad @cr (ad @fP (ad @dV (ad @yc (ad @eh (ad @cK (ad @et (ad @dR (@dD))))))))
open tyG4
noncomputable def Sr:{c:SC // aE 36 (f48.body.getD .skip)=c}:=by
 refine⟨?_,?_⟩;rotate_left
 .simp only[f48,bN,aE,bH,bw,bM,bJ,Nat.blt,Nat.ble];rfl
noncomputable def ti:{c:SC // aE 156 (f84.body.getD .skip)=c}:=by
 refine⟨?_,?_⟩;rotate_left
 .simp only[f84,bN,aE,bH,bw,bM,bJ,Nat.blt,Nat.ble];rfl
abbrev dk:=qy×Int
def iE(step:dk->St×dk):Nat->dk->qD×dk
 |0,s=>([],s)
 |n+1,s=>if s.1=[]then ([],s)else ((step s).1::(iE step n (step s).2).1,(iE step n (step s).2).2)
def iL(f:Int):Nat->qy->qI×qy
 |0,L=>([],L)
 |n+1,L=>((bW f 3 2 L).1::(iL f n (bW f 3 2 L).2).1,(iL f n (bW f 3 2 L).2).2)
def gD:Ex:=.mk 0 0 [] 0 []
def lF(m:Int):qA:=if m.tmod 2=0 then [102]else [103]
def io(z:Int->dk->qD×dk)(f:Int)(Y:qy)(c q m:Int):St×dk:=
 if q<6 then (.mk 1 ((ct f).getD (m.tmod (ct f).length).toNat []) [] 0 gD (bW f 5 0 Y).1 [] [] [],((bW f 5 0 Y).2,c))
 else if q<8 then (.mk 2 (uA m) [] 0 (bW f 3 2 Y).1 (bW f 4 1 (bW f 3 2 Y).2).1 [] [] [],((bW f 4 1 (bW f 3 2 Y).2).2,c))
 else if q<10 then (.mk 3 [] [] 0 gD (bW f 4 1 Y).1 [] (z 3 ((bW f 4 1 Y).2,c)).1 (z 2 (z 3 ((bW f 4 1 Y).2,c)).2).1,(z 2 (z 3 ((bW f 4 1 Y).2,c)).2).2)
 else if q<12 then (.mk 4 [] [] 0 gD (bW f 4 1 Y).1 [] (z 3 ((bW f 4 1 Y).2,bB (c+1))).1 [],(z 3 ((bW f 4 1 Y).2,bB (c+1))).2)
 else if q<14 then (.mk 5 [] [] 0 gD (bW f 4 1 Y).1 [] [] [],((bW f 4 1 Y).2,c))
 else if q<15 then (.mk 6 ((ct f).getD (m.tmod (ct f).length).toNat []) (lF m) 0 gD gD (iL f (2-m.tmod 2).toNat Y).1 [] [],((iL f (2-m.tmod 2).toNat Y).2,c))
 else (.mk 7 [] [] m gD gD [] [] [],(Y,c))
def xw(deep:Nat)(c q0:Int):Int:=if ((2:Int)<deep/\8<=q0/\q0<12)\/(10<=c/\10<=q0)then 0 else q0
def xy(z:Int->dk->qD×dk)(f:Int)(deep:Nat)(s:dk):St×dk:=
 io z f (cj s.1).2 s.2 (xw deep s.2 (bc (cj s.1).1 16)) (bc (bB ((cj s.1).1.tdiv 16)) 1000)
def ip(f:Int):Nat->Nat->dk->St×dk
 |0,_,s=>(.mk 0 [] [] 0 gD gD [] [] [],s)
 |k+1,deep,s=>xy (fun U s=>iE (ip f k (deep+1)) (bc (cj s.1).1 (U+1)).toNat ((cj s.1).2,s.2)) f deep s
def mL(f:Int)(k deep:Nat)(U:Int)(s:dk):qD×dk:=iE (ip f k deep) (bc (cj s.1).1 (U+1)).toNat ((cj s.1).2,s.2)
theorem BE{step:dk->St×dk}(h:∀s,(step s).2.1.length<=s.1.length):∀(n:Nat) (s:dk),(iE step n s).2.1.length<=s.1.length
 |0,_=>ay _
 |n+1,s=>by
  rw[iE];split
  .exact ay _
  .exact dw (BE h n _) (h s)
theorem J2(f:Int):∀(n:Nat) (L:qy),(iL f n L).2.length<=L.length
 |0,_=>ay _
 |n+1,L=>dw (J2 f n _) (fj f 3 2 L)
def zeI{z:Int->dk->qD×dk}(h2:∀(U:Int) (s:dk),(z U s).2.1.length<=s.1.length)(f:Int)(deep:Nat)(s:dk):(xy z f deep s).2.1.length<=s.1.length:=by
 have h:=pr s.1;have V:=fj f 4 1 (cj s.1).2;have Y:=fj f 5 0 (cj s.1).2;have Z:=fj f 3 2 (cj s.1).2;have J:=fj f 4 1 (bW f 3 2 (cj s.1).2).2;rw[xy,io];generalize xw deep s.2 (bc (cj s.1).1 16)=q;by_cases O:q<6
 .grind
 rw[af O];by_cases M:q<8
 .grind
 rw[af M];by_cases I:q<10
 .grind
 rw[af I];by_cases C:q<12
 .grind
 rw[af C];by_cases j:q<14
 .grind
 rw[af j];by_cases m:q<15
 .rw[ai m];exact dw (J2 f _ _) h
 rw[af m];exact h
theorem BF(f:Int):∀(k Y:Nat) (s:dk),(ip f k Y s).2.1.length<=s.1.length
 |0,_,_=>ay _
 |k+1,Y,s=>zeI (fun U s=>dw (BE (BF f k (Y+1)) _ _) (pr s.1)) f Y s
def xz(k:Int)(nm J:qA)(n:Int)(a v:qu)(V m z:AV):qu:=[.int .i64 k,.aj nm,.aj J,.int .i64 n]++a++v++[V,m,z]
def pw(k:Int)(nm J:qA)(O:Int){a v:qu}{Z M:Ex}{V m z:AV}{al:qI}{Y I:qD}(U:b9 S (n+1) H a Z.cells)(C:b9 S (n+1) H v M.cells)(h1:fb S (n+1) H V (.az (al.map Ex.cells)))(h2:fb S (n+1) H m (.az (Y.map St.cells)))(j:fb S (n+1) H z (.az (I.map St.cells))):
 b9 S (n+1) H (xz k nm J O a v V m z) (St.mk k nm J O Z M al Y I).cells:=by
 have e:(St.mk k nm J O Z M al Y I).cells=[.int .i64 k,.aj nm,.aj J,.int .i64 O]++Z.cells++M.cells++[.az (al.map Ex.cells),.az (Y.map St.cells),.az (I.map St.cells)]:=by
  rw[nX,j0,j0];rfl
 rw[e];exact(((b9.cons (.int _ _) (.cons (.aj _) (.cons (.aj _) (.cons (.int _ _) .nil)))).append U).append C).append (.cons h1 (.cons h2 (.cons j .nil)))
def uD:qu:=[.int .i64 0,.int .i64 0,.aj [],.int .i64 0,.ag]
def nF:b9 S (n+1) H uD gD.cells:=pp 0 0 0 []
def zeJ(nm:qA){v:qu}(h:v.length=5):dd prog 96 [(0,.int .i64 1),(1,.aj nm),(5,.agg v)]=some (.agg (xz 1 nm [] 0 uD v .ag .ag .ag)):=by
 obtain⟨a,b,c,d,e,rfl⟩:=dW h;kernel_rfl
def zeK(nm:qA){a v:qu}(h:a.length=5)(k:v.length=5):dd prog 96 [(0,.int .i64 2),(1,.aj nm),(4,.agg a),(5,.agg v)]=some (.agg (xz 2 nm [] 0 a v .ag .ag .ag)):=by
 obtain⟨a,b,c,d,e,rfl⟩:=dW h;obtain⟨m,b',M,O,J,rfl⟩:=dW k;kernel_rfl
def zeL(k:Int){v:qu}(h:v.length=5):dd prog 96 [(0,.int .i64 k),(5,.agg v)]=some (.agg (xz k [] [] 0 uD v .ag .ag .ag)):=by
 obtain⟨a,b,c,d,e,rfl⟩:=dW h;kernel_rfl
def zeM(nm J:qA):dd prog 96 [(0,.int .i64 6),(1,.aj nm),(2,.aj J)]=some (.agg (xz 6 nm J 0 uD uD .ag .ag .ag)):=ax
def zeN(n:Int):dd prog 96 [(0,.int .i64 7),(3,.int .i64 n)]=some (.agg (xz 7 [] [] n uD uD .ag .ag .ag)):=ax
def zeO(h:cs.length=17):∃c0 O Y U Z j m V C M J I z d3 d4 d5 d6,cs=[c0,O,Y,U,Z,j,m,V,C,M,J,I,z,d3,d4,d5,d6]:=by
 match cs,h with
 |[c0,O,Y,U,Z,j,m,V,C,M,J,I,z,d3,d4,d5,d6],_=>grind
def zeP(H:Hp)(h:cs.length=17):de prog H 60 1 [(0,.agg cs)]=some (.sl H.next 0 1 17,H.alloc (.cells cs 0 true)):=by
 obtain⟨c0,O,Y,U,Z,j,m,V,C,M,J,I,z,d3,d4,d5,d6,rfl⟩:=zeO h;kernel_rfl
def zeQ(z n lo:Nat)(H:Hp)(r:Nat)(ws:List qu)(L:qy)(c:Int)(v:AV)(H':Hp):Prop:=
 cU (fun q=>H.next<=q) n H' z v ws/\i8 lo H' r L c/\H.next<=H'.next/\∀q,q<H.next->q≠r->H'.get q=H.get q
def i8.len(h:i8 lo H r L c):∃v,H.get r=some (.cells [v,.int .i64 c] 0 true)/\∀H',gO prog H' 23 v=some (.int .i64 L.length):=by
 obtain⟨_,_,v,m,j⟩:=h;refine⟨v,m,fun H'=>?_⟩;rcases j with⟨rfl,rfl⟩|⟨b,Y,I,z,rfl,_⟩
 .exact Mw underlying23 _
 .exact As underlying23 _ _ _ _
def rq(z:qC)(k:Nat)(f:Int)(deep:Nat):Prop:=∀(lo:Nat) (H:Hp) (r:Nat) (s:dk),i8 lo H r s.1 s.2->s.1.length<2^60 ->
 aR prog (au pls z) 84 [.ptr r 0,.int .i64 f,.int .i64 deep] H (BC 17 (8+k) lo H r (ip f k deep s).1.cells (ip f k deep s).2.1 (ip f k deep s).2.2)
set_option maxRecDepth 100000 in
theorem BG{lG:qC}(hG:zf6 lG){f:Int}{deep:Nat}(hst:rq lG k f deep)(U:Int)(h0:0<=U)(h1:U<=5)(lo:Nat)(H:Hp)(r:Nat)(s:dk)(C:i8 lo H r s.1 s.2)(hL:s.1.length<2^60):
 aR prog (au pls lG) 48 [.ptr r 0,.int .i64 f,.int .i64 deep,.int .i64 U] H (zeQ 17 (8+k) lo H r ((mL f k deep U s).1.map St.cells) (mL f k deep U s).2.1 (mL f k deep U s).2.2):=by
 have hw:zd0 (au pls lG) 48:=hG.plain cM;have hkeep:(au pls lG).keep 48=false:=rfl;have hnx:zd0 (au pls lG) 40:=hG.plain cM;have hrl:=C.1;have hlo:=C.2.1;have hw1:IntKind.wrap .i64 (U+1)=U+1:=kR ac ac;rw[mL];refine bp (M:=36) (rs:=[.tmp 8]) (hw.call _) hw.aG hw.aB func48 rfl rfl Sr.2 rfl ?_;dsimp only[Sr,bm,Nat.reduceAdd];refine wh fun K hK=>?_;refine qc ?_;refine aF ?_ (ES hnx C hL);rintro v H2 ⟨rfl,hr2,n2,o2⟩;have hL1:=pr s.1;generalize (cj s.1).1=n at *;generalize (cj s.1).2=L1 at *;have hm1:U+1≠0:=ac;have hp:=fE (n:=n) (m:=U+1) ac ac;generalize hc:(bc n (U+1)).toNat=V at *;have hpc:bc n (U+1)=(V:Int):=ac;dsimp only[aC];repeat' (first
  |(apply aj ?_;clear hK K)|apply aV ?_|(apply eu ?_;first|refine bK (jE hG.pick _ _ hm1 _) ?_)|fail)
 refine zaN [0,1,2,8] [] (fun i E J=>i<=V/\E.at 10=.int .i64 i/\∃v l O,E.at 9=v/\cU (fun q=>H.next<=q) (8+k) J 17 v (l.map St.cells)/\i8 lo J r O.1 O.2/\(∀q,q<H.next->q≠r->J.get q=H.get q)/\l.length+i=V/\O.1.length<2^60 /\
  iE (ip f k deep) V (L1,s.2)=(l++(iE (ip f k deep) i O).1,(iE (ip f k deep) i O).2)) V ⟨ay _,Iq,.ag,[],(L1,s.2),eE,.inl ⟨rfl,rfl⟩,hr2,fun q h1 I=>o2 q I,aw,vz,aw⟩ ?_
 rintro i E J hcE hrH hnH ⟨hic,hsI,v,l,O,k9,Z,z,o3,hli,hsl,hJ⟩;(try simp only[bC,aZ,aW,aG,aY,Nat.reduceBEq, *]at hcE);obtain⟨lv,hgr,hlen⟩:=z.len;have hle:H.next<=J.next:=ac
 repeat' (first
  |(apply aj ?_;clear hK K)|apply aV ?_|(apply cL ?_ ?_<;>(intro hg hgp;try(cases hg;done)))|(apply bz ?_ ?_<;>(intro hb hbp;try(cases hb;done)))|(apply am fun K hK=>?_)|fail)
 .refine qc ?_;refine aF ?_ (hst lo J r O z hsl);rintro v' H4 ⟨⟨cs,rfl,hc1,hc2,hc3⟩,hr4,n4,o4⟩;have kb:=fun H=>zeP H hc1;dsimp only[aC];refine jG ?_;have hvq:∀q o m z',v=.sl q o m z'->H.next<=q/\q<J.next:=fun q o m z' e=>by
   rcases Z with⟨rfl,_⟩|⟨q',imm,rows,rfl,e1,e2,_⟩
   .cases e
   grind
  have Y:cU (fun q=>H.next<=q) (8+k) (H4.alloc (.cells cs 0 true)) 17 v (l.map St.cells):=Z.keep (fun q _ h=>h) cB fun q h1 I=>by rw[aD,af ac,o4 q I ac]
  obtain⟨v5,H5,a5,s5,n5,f5,q5⟩:=yG (P:=prog) (t:=60) underlying60 rM tW wS rfl ax Y cB (r:=H4.next) (imm:=0) (row:=cs) (w:=(ip f k deep O).1.cells) fc hc1 hc2 (hc3.aO (fun q h1 I=>⟨ac,fun o m z' e=>aX⟩) (cG _) fun q h1 I=>em) Fz Fz;refine kO dY dY (by rw[hkeep];exact a5) ?_;have hi0:0<i:=ac;obtain⟨i,rfl⟩:∃j,i=j+1:=⟨i-1,ac⟩;have hwd:IntKind.wrap .i64 (((i+1:Nat):Int)-1)=(i:Int):=EX;simp only[aU]at n5 f5;have n5':J.next<=H5.next:=ac
  have o5:∀q,q<H.next->q≠r->H5.get q=H.get q:=fun q h1 I=>by rw[f5 q ac (fun o m z' e=>aX),aD,af ac,o4 q ac I,o3 q h1 I]
  have hr5:i8 lo H5 r (ip f k deep O).2.1 (ip f k deep O).2.2:=hr4.keep ac fun q hq=>by rw[f5 q ac (fun o m z' e=>aX),aD,af ac]
  clear n5 f5 a5 Y o4 hr4;refine jG ?_;have hne:O.1≠[]:=by
   grind
  have hsd:=BF f k deep O;refine⟨(by simp only[bC,aZ,aW,aG,aY,Nat.reduceBEq, *]),(by simp only[aZ]),ac,i,bT _,ac,eE,v5,l++[(ip f k deep O).1],(ip f k deep O).2,eE,aX,hr5,o5,cb,ac,?_⟩;rw[hJ,iE,af hne];simp
 all_goals
  all_goals refine qq ?_
  have hfin:iE (ip f k deep) i O=([],O):=by
   rcases(by omega:i=0\/O.1.length=0)with h|h
   .rw[h];rfl
   .cases i with
    |zero=>rfl
    |succ i=>rw[iE,ai (JY h)]
  rw[hJ,hfin];exact⟨by rw[aS];exact Z,z,hle,o3⟩
end
section
def Ss:cQ prog 96=some (xz 0 [] [] 0 uD uD .ag .ag .ag):=ax
theorem vQ(h:0<=m):[AV.aj [102],AV.aj [103]][(m.tmod 2).toNat]?=some (.aj (lF m)):=by
 rw[J0 h,lF];split<;>rfl
def zeR{P:Program}{cfg:Cfg}{f N:Nat}{a:SC}{E:aq}{Q:AX->aq->Hp->Prop}(F:aq->Hp->Prop)(h1:bS P cfg f N a E H fun x E' H'=>x=.normal/\F E' H')(h2:∀E' H',F E' H'->Q .normal E' H'):bS P cfg f N a E H Q:=
 x7 (fun x E' H' h=>by obtain⟨rfl,h⟩:=h;exact h2 E' H' h) h1
def i8.f6(h:i8 lo H r L c):∃v,H.get r=some (.cells [v,.int .i64 c] 0 true)/\∀M,i8 lo (H.set r (.cells [v,.int .i64 M] 0 true)) r L M:=by
 obtain⟨m,U,v,V,j⟩:=h;refine⟨v,V,fun M=>⟨m,U,v,fO,?_⟩⟩;rcases j with j|⟨b,Y,I,z,O,J,C,Z,e5⟩
 .exact .inl j
 .exact .inr ⟨b,Y,I,z,O,by rw[aM,af Z];exact J,C,Z,e5⟩
theorem zeS(nm:qA)(U M Z O Y:AV):dd prog 96 [(0,.int .i64 1),(1,.aj nm),(5,.agg [U,M,Z,O,Y])]=some (.agg [.int .i64 1,.aj nm,.aj [],.int .i64 0,.int .i64 0,.int .i64 0,.aj [],.int .i64 0,.ag,U,M,Z,O,Y,.ag,.ag,.ag]):=zeJ nm rfl
theorem zeT(nm:qA)(kV O Y J m U M Z V I:AV):dd prog 96 [(0,.int .i64 2),(1,.aj nm),(4,.agg [kV,O,Y,J,m]),(5,.agg [U,M,Z,V,I])]=some (.agg [.int .i64 2,.aj nm,.aj [],.int .i64 0,kV,O,Y,J,m,U,M,Z,V,I,.ag,.ag,.ag]):=zeK nm rfl rfl
theorem J3(k:Int)(U M Z O Y:AV):dd prog 96 [(0,.int .i64 k),(5,.agg [U,M,Z,O,Y])]=some (.agg [.int .i64 k,.aj [],.aj [],.int .i64 0,.int .i64 0,.int .i64 0,.aj [],.int .i64 0,.ag,U,M,Z,O,Y,.ag,.ag,.ag]):=zeL k rfl
def zeU(nm J:qA):dd prog 96 [(0,.int .i64 6),(1,.aj nm),(2,.aj J)]=some (.agg [.int .i64 6,.aj nm,.aj J,.int .i64 0,.int .i64 0,.int .i64 0,.aj [],.int .i64 0,.ag,.int .i64 0,.int .i64 0,.aj [],.int .i64 0,.ag,.ag,.ag,.ag]):=zeM nm J
def Su(n:Int):dd prog 96 [(0,.int .i64 7),(3,.int .i64 n)]=some (.agg [.int .i64 7,.aj [],.aj [],.int .i64 n,.int .i64 0,.int .i64 0,.aj [],.int .i64 0,.ag,.int .i64 0,.int .i64 0,.aj [],.int .i64 0,.ag,.ag,.ag,.ag]):=zeN n
theorem Sv(c0 O Y U Z j m V C M J I z d3 d4 d5 d6:AV):cq 17 [c0,O,Y,U,Z,j,m,V,C,M,J,I,z,d3,d4,d5,d6]=some (.agg [c0,O,Y,U,Z,j,m,V,C,M,J,I,z,d3,d4,d5,d6]):=rfl
def Sw:cQ prog 96=some [.int .i64 0,.aj [],.aj [],.int .i64 0,.int .i64 0,.int .i64 0,.aj [],.int .i64 0,.ag,.int .i64 0,.int .i64 0,.aj [],.int .i64 0,.ag,.ag,.ag,.ag]:=ax
def ji{a b c d e:AV}(h:[a,b,c,d,e].all AV.one=true):AV.one a=true/\AV.one b=true/\AV.one c=true/\AV.one d=true/\AV.one e=true:=by
 simp only[rS,oY,hT,da]at h;exact⟨h.1,h.2.1,h.2.2.1,h.2.2.2.1,h.2.2.2.2⟩
def xA{O:Hp}{x:St}(Z:cs.length=17)(Y:cs.all AV.one=true)(M:b9 (fun q=>H.next<=q) n O cs x.cells)(hr:i8 lo O r L c)(J:H.next<=O.next)(V:∀q,q<H.next->q≠r->O.get q=H.get q):BC 17 n lo H r x.cells L c (.agg cs) O:=⟨⟨cs,rfl,Z,Y,M⟩,hr,J,V⟩
def fR:SC->SC
 | .seq _ b=>b
 |x=>x
noncomputable def oE:SC:=fR (fR (fR (fR (fR (fR ti.1)))))
noncomputable def tj(f:Int)(k deep:Nat):Int->dk->qD×dk:=fun U s=>iE (ip f k (deep+1)) (bc (cj s.1).1 (U+1)).toNat ((cj s.1).2,s.2)
abbrev qi:HB:=.cells [.int .i64 0,.aj [],.aj [],.int .i64 0,.int .i64 0,.int .i64 0,.aj [],.int .i64 0,.ag,.int .i64 0,.int .i64 0,.aj [],.int .i64 0,.ag,.ag,.ag,.ag] 0 true
structure AtT (f:Int) (deep lo:Nat) (H H2:Hp) (r:Nat) (L1:qy) (c q m:Int) (E2:aq):Prop where
 hd:deep<=3
 hrl:r<lo
 dm:lo<=H.next
 n2:H2.next=H.next+1
 g2:H2.get H.next=some qi
 o2:∀q,q<H.next->q≠r->H2.get q=H.get q
 hr2:i8 lo H2 r L1 c
 hL:L1.length<2^60
 hm:0<=m/\m<1000
 hqd:8<=q->q<12->deep<=2
 k0:E2.at 0=.ptr r 0
 k1:E2.at 1=.int .i64 f
 k2:E2.at 2=.int .i64 deep
 k6:E2.at 6=.ptr H.next 0
 k8:E2.at 8=cH (ct f)
 k9:E2.at 9=.int .i64 m
 k10:E2.at 10=.int .i64 q
def oF(k:Nat)(f:Int)(deep lo:Nat)(H:Hp)(r:Nat)(Y:qy)(c q m:Int):AX->aq->Hp->Prop:=fun x E' H'=>(x=.normal\/x=.ret)/\∃vs,cF prog E' H' [.cell 6 96]=some vs/\BC 17 (8+(k+1)) lo H r (io (tj f k deep) f Y c q m).1.cells (io (tj f k deep) f Y c q m).2.1 (io (tj f k deep) f Y c q m).2.2 (aA vs) H'
noncomputable def J4:En:=⟨44,true,co (fun p=>p.sz<2^36) eV fun p=>.int .i64 (eN p)⟩
def zeV(ρ:Nat->Int):dI prog ρ J4:=dT fun p hp=>zey ρ p hp
def tyLoL.tyF:=ad @cr (ad @cK (ad @jn (ad @fP (ad @fW (ad @DB (ad @DC (ad @DE (ad @gh (ad @eL (ad @vd (ad @et (ad @dV (ad @dD (ad @jb (ad @sN (ad @jx (ad @oW (@rN))))))))))))))))))
open tyLoL
noncomputable def FD:{c:SC // aE 84 (f27.body.getD .skip)=c}:=by
 refine⟨?_,?_⟩;rotate_left
 .simp only[f27,bN,aE,bH,bw,bM,bJ,Nat.blt,Nat.ble];rfl
theorem Sy:∀(l:List bG) (i:Nat) (m:List (bG×Int)),l.Nodup->∀M,fh (fu l i m) M=if bE l M=true then ((i+bV l M:Nat):Int)else fh m M
 |[],i,m,_,M=>rfl
 |a::l,i,m,h,M=>by
  obtain⟨Z,j⟩:=Er.1 h;have U:bE (a::l) M=(decide (a=M)||bE l M):=rfl;rw[fu,Sy l (i+1) _ j M,U];by_cases e:a=M
  .subst e;have J:bE l a=false:=by
    rw[bE,yB]
    grind
   rw[J,af aw,xi,ai rfl,kS rfl,nU,ai rfl,bV,ai rfl,tL]
  .rw[rV e,mp,bV,af e];by_cases c:bE l M=true
   .grind
   .rw[af c,af c,xi,af (fun h=>e h.symm)]
theorem Sz:∀(l:List bG) (M:bG),bE l M=false->bV l M=0
 |[],_,_=>rfl
 |a::l,M,h=>by
  have U:bE (a::l) M=(decide (a=M)||bE l M):=rfl;rw[U,jv,mU]at h;rw[bV,af h.1,h.2];rfl
theorem SA{l:List bG}(h:l.Nodup)(nm:bG):fh (fu l 0 []) nm=bV l nm:=by
 rw[Sy l 0 [] h nm];by_cases c:bE l nm=true
 .simp_all
 .rw[af c,Sz l nm (by simpa using c)];rfl
def zf5.fnNames{p:Pr}(h:zf5 p)(j:f∈p.funcs):(f.params++f.ak).Nodup:=by
 have hd:=h.du;rw[ky,Ev,jv,jv]at hd;have:=yB.1 hd.2.2 f j;exact Jy _ _ (by simpa using this)
def zeW{p:Pr}(Z:zf5 p)(j:f∈p.funcs){X:Lx}(Y:X.p=p)(O:X.ae=fu (p.aa.map (·.name)) 0 [])(V:X.fe=kU p.funcs 0 []):zig (X.nx (fu (f.params++f.ak) 0 [])) (kE p f) where
 ar:=Y▸rfl
 ae nm:=by
  show fh X.ae nm=_;rw[O];exact SA Z.fR nm
 ne nm:=SA (Z.fnNames j) nm
 fe nm h:=by
  show fh X.fe nm=_;rw[V];exact Pq nm p.funcs [] 0 [] Z.aF.2 h
theorem zd9.of(h:∀e∈tb,JL e.f=false):zd9 tb:=⟨fun f j=>by
 have C:∀e∈tb,Nat.beq e.f f=false:=fun e J=>by
  cases hb:Nat.beq e.f f with
  |false=>rfl
  |true=>rw[<-rH hb,h e J]at j;cases j
 clear h;induction tb with
 |nil=>exact⟨fun _=>rfl,rfl⟩
 |cons e l ih=>
  obtain⟨Y,V⟩:=ih fun x hx=>C x (en _ hx)
  have J:=C e eg;exact⟨fun Z=>by simp only[dE,J];exact Y Z,by simp only[iA]at V⊢;simp_all⟩⟩
def zeX{l:List bG}(h:i<l.length):fu (l.take (i+1)) 0 []=setV (fu (l.take i) 0 []) l[i] (i:Int):=by
 rw[tK,bj h];show fu (l.take i++[l[i]]) 0 []=_;rw[Fq,oL,xZ ac,bR]
theorem SB:∀(l:qN) (f:Fu) (i:Nat) (m:List (bG×Int)),kU (l++[f]) i m=setV (kU l i m) f.name ((i+l.length:Nat):Int)
 |[],f,i,m=>rfl
 |b::l,f,i,m=>by
  rw[lw,kU,SB l f (i+1),kU,gF,show i+1+l.length=i+(l.length+1) by omega]
def zeY{l:qN}(h:i<l.length):kU (l.take (i+1)) 0 []=setV (kU (l.take i) 0 []) (l[i]).name (i:Int):=by
 rw[tK,bj h];show kU (l.take i++[l[i]]) 0 []=_;rw[SB,oL,xZ ac,bR]
def BH(p:Pr)(n:Nat):Prop:=∀f∈p.funcs,∃s v,eY (kE p f) n f.body (jg f)=some s/\ec (kE p f) n f.value s=some v/\Fin v.2
def yV(H':Hp)(u:Un)(e:Int)(v:AV):Prop:=∃I S,v=.a6 [.agg I,.int .i64 e]/\b9 S 5 H' I u.cells
def zeZ(H:Hp)(l:List Ar)(O:l.length<2^36):∃Z H',cD prog false H 24 24 .ag (.az (l.map Ar.cells))=some (Z,H')/\cU (fun k=>H.next<=k) 1 H' 2 Z (l.map Ar.cells)/\H.next<=H'.next/\(∀k,k<H.next->H'.get k=H.get k):=by
 have C:∀x∈l.map Ar.cells,x.length=2:=fun x hx=>Sd;have hx:=JH (H:=H) C;rw[dx]at hx;by_cases c:l=[]
 .subst c;refine⟨.ag,H,?_,.inl ⟨rfl,rfl⟩,ay _,fun _ _=>rfl⟩;simp only[cD,underlying24,wR,yd,ye,show gN prog 24=true by kernel_rfl,fq,hx]
 .obtain⟨m,Y⟩:∃m,l.length=m+1:=⟨l.length-1,by have:=vo.2 c;omega⟩;rw[Y]at hx;refine⟨.sl H.next 0 (m+1) 2,H.alloc (.cells (l.map Ar.cells).flatten 0 true),append_nil underlying24 wR yd ye ax hx (JI l) rfl yS yS,.inr ⟨H.next,0,l.map Ar.cells,bb,ay _,bT _,fc,cZ _,di.fy l⟩,cG _,fun k z=>em⟩
def SD(H:Hp)(h:cs.length=5)(h1:cs.all AV.one=true):de prog H 25 1 [(0,.agg cs)]=some (.sl H.next 0 1 5,H.alloc (.cells cs 0 true)):=by
 obtain⟨a,b,c,d,e,rfl⟩:=dW h;kernel_rfl
def ze0(p:Pr)(rt rn:Nat):dd prog 101 [(0,.agg p.cells),(1,.map 2),(2,.map 3),(4,.map rt),(5,.map rn)]=some (.agg [.az (p.aa.map Ar.cells),.az (p.funcs.map Fu.cells),.map 2,.map 3,.ag,.map rt,.map rn,.ag,.int .i64 0,.int .i64 0]):=ax
def SE{M:AV}{l:qF}(nm:qA)(np v st:Int)(h:cU S 2 H 3 M (l.map Nd.cells)):b9 S 3 H [.aj nm,.int .i64 np,M,.int .i64 v,.int .i64 st] (Gr.mk nm np l v st).cells:=
 .cons (.aj _) (.cons (.int _ _) (.cons h.rd (.cons (.int _ _) (.cons (.int _ _) .nil))))
structure Smr (n:Nat) (H H':Hp):Prop where
 get:∀k,4<=k->k<n->H'.get k=H.get k
abbrev qh:HB:=.cells [.ag,.ag] 0 true
set_option maxRecDepth 100000 in
theorem ze1(hG:zd9 tb)(hC:∀ar,dE tb 44 ar=J4.sp ar)(hL:zd0 (au pls tb) 27)(p:Pr)(hz:p.sz<2^34)(hok:eN p=0->BH p n)(h:pn p n=some (u,e)):
 aR prog (au pls tb) 27 [.agg p.cells] bt (fun v H'=>yV H' u e v):=by
 have hw:=hL;have hkeep:(au pls tb).keep 27=false:=rfl;have hchk:∀H,aR prog (au pls tb) 44 [.agg p.cells] H fun v H'=>v=.int .i64 (eN p)/\H'=H:=fun H=>cV (enc:=eV) (ok:=fun p=>p.sz<2^36) (out:=fun p=>.int .i64 (eN p)) pd (x:=p) (hC _) ac;have hpz:p.sz=1+eA p.aa+dO p.funcs:=rfl;have hla:=m1 p.aa;have hlf:=m0 p.funcs;unfold pn at h;by_cases hc:eN p=0
 .rw[ai hc]at h;have hv:=zcE hc;have hok:=hok hc;obtain⟨av,Z,aa,ra,na,qa⟩:=zeZ ((((bt.alloc (.cells p.cells 0 true)).alloc qh).alloc (.map [])).alloc (.map [])) p.aa ac;obtain⟨ha1,ha2⟩:=ra.one;have bUn:dd prog 27 [(0,av)]=some (.agg [av,.ag]):=by
   rcases ra with⟨rfl,_⟩|⟨q,im,rows,rfl,_⟩<;>kernel_rfl
  have bUn0:dd prog 27 []=some (.agg [.ag,.ag]):=ax;have na4:4<=Z.next:=na
  have q0:Z.get 0=some (.cells p.cells 0 true):=by rw[qa 0 bb];simp[aD,aU,ce]
  have q1:Z.get 1=some qh:=by rw[qa 1 bb];simp[aD,aU,ce]
  have q2:Z.get 2=some (.map []):=by rw[qa 2 bb];simp[aD,aU,ce]
  have q3:Z.get 3=some (.map []):=by rw[qa 3 bb];simp[aD,aU,ce]
  have ra':cU (fun k=>4<=k/\k<Z.next) 1 Z 2 av (p.aa.map Ar.cells):=ra.keep (fun k h1 O=>⟨O,h1⟩) (ay _) fun _ _ _=>rfl;have q0s:∀b c,((Z.alloc b).set Z.next c).get 0=some (.cells p.cells 0 true):=fun b c=>by rw[aM,af ac,aD,af ac];exact q0
  refine bp (M:=84) (rs:=[.cell 2 27,.tmp 3]) (hw.call _) hw.aG hw.aB func27 rfl rfl FD.2 rfl ?_;dsimp only[FD,bm,Nat.reduceAdd];repeat' (first
   |(apply aj ?_;clear hK K)|apply bQ ?_|(apply iz ?_;first|refine bK (hchk _) ?_)|(apply bu ?_ ?_<;>(intro hb hbp;try(cases hb;done)))|(apply am fun K hK=>?_)|fail)
  clear aa qa ra na q0s;have gs:∀k,k<Z.next->((Z.alloc qh).set Z.next (.cells [av,.ag] 0 true)).get k=Z.get k:=fun k z=>oB
  refine cl [1,2,3,5,6,7,29,30] [] 31 p.aa.length (fun i E J=>J.get 0=some (.cells p.cells 0 true)/\J.get 1=some qh/\J.get 2=some (.map (dz (fu ((p.aa.map (·.name)).take i) 0 [])))/\J.get 3=some (.map [])/\J.get Z.next=some (.cells [av,.ag] 0 true)/\Smr Z.next Z J) eE ⟨aX,aX,by rw[gs _ ac];exact q2,aX,fO,⟨fun k _ z=>gs k z⟩⟩ ?_;clear gs;rintro i E J hi hcE hrH hnH hsI ⟨g0,g1,g2,g3,g7,V⟩;(try simp only[bC,aZ,aW,aG,aY,Nat.reduceBEq, *]at hcE);(try simp only[aZ,aY, *]at hrH);(try simp only[aU,bq,]at hnH);have ni:Z.next+1<=J.next:=hnH
  by_cases C:i<p.aa.length
  .have hlt':(i:Int)<p.aa.length:=by omega
   have hgx:p.aa[i]?=some p.aa[i]:=bj C;have hne:fu ((p.aa.map (·.name)).take (i+1)) 0 []=setV (fu ((p.aa.map (·.name)).take i) 0 []) (p.aa[i]).name (i:Int):=by
    rw[zeX bb,List.getElem_map]
   generalize p.aa[i]=ar at *;rw[hne];have gA:∀b c k,k<J.next->((J.alloc b).set J.next c).get k=J.get k:=fun b c k z=>oB
   have g2a:∀b c,((J.alloc b).set J.next c).get 2=some (.map (dz (fu ((p.aa.map (·.name)).take i) 0 []))):=fun b c=>aX;have hup:=fun b c=>Be (P:=prog) (t:=98) underlying98 ux (g2a b c) ar.name (i:Int);refine pE (fun hb hbp=>?_);refine⟨ac,a0,a0,ca,xd,?_⟩;have gB:∀b c m k,k<J.next->k≠2->(((J.alloc b).set J.next c).set 2 m).get k=J.get k:=fun b c m k z O=>by rw[aM,af O];exact gA b c k z
   exact⟨aX,aX,fO,aX,aX,⟨fun k h1 O=>Sl⟩⟩
  .have hlt':¬(i:Int)<p.aa.length:=by omega
   have hti:(p.aa.map (·.name)).take i=p.aa.map (·.name):=gQ bb;rw[hti]at g2;refine pE (fun hb hbp=>?_);refine cl [1,2,3,5,6,7,42,43] [] 44 p.funcs.length (fun j E I=>I.get 0=some (.cells p.cells 0 true)/\I.get 1=some qh/\I.get 2=some (.map (dz (fu (p.aa.map (·.name)) 0 [])))/\I.get 3=some (.map (dz (kU (p.funcs.take j) 0 [])))/\I.get Z.next=some (.cells [av,.ag] 0 true)/\Smr Z.next Z I) eE ⟨g0,g1,g2,g3,g7,V⟩ ?_;clear g0 g1 g2 g3 g7 V hti;rintro j E3 I hj hcE hrH hnH hsI ⟨g0,g1,g2,g3,g7,V⟩;(try simp only[bC,aZ,aW,aG,aY,Nat.reduceBEq, *]at hcE);(try simp only[aZ, *]at hrH);(try simp only[aU,bq,ce,bR,Nat.reduceAdd]at hnH);have nj:Z.next+1<=I.next:=ac
   by_cases C:j<p.funcs.length
   .have hlt':(j:Int)<p.funcs.length:=by omega
    have hgx:p.funcs[j]?=some p.funcs[j]:=bj C;have hne:=zeY C;generalize p.funcs[j]=f at *;rw[hne];have gA:∀b c k,k<I.next->((I.alloc b).set I.next c).get k=I.get k:=fun b c k z=>oB
    have g3a:∀b c,((I.alloc b).set I.next c).get 3=some (.map (dz (kU (p.funcs.take j) 0 []))):=fun b c=>aX;have hup:=fun b c=>Be (P:=prog) (t:=98) underlying98 ux (g3a b c) f.name (j:Int);refine pE (fun hb hbp=>?_);refine⟨ac,a0,a0,ca,oh,?_⟩;have gB:∀b c m k,k<I.next->k≠3->(((I.alloc b).set I.next c).set 3 m).get k=I.get k:=fun b c m k z O=>by rw[aM,af O];exact gA b c k z
    exact⟨aX,aX,aX,fO,aX,⟨fun k h1 O=>Sl⟩⟩
   .have hlt':¬(j:Int)<p.funcs.length:=by omega
    have htj:p.funcs.take j=p.funcs:=gQ ac;rw[htj]at g3;refine pE (fun hb hbp=>?_);have hfl:lV p n (p.funcs.drop 0) []=some (u,e):=h;refine cl [1,2,5,6,7,55,56] [] 57 p.funcs.length (fun i E Y=>∃gs fv,lV p n (p.funcs.drop i) gs=some (u,e)/\Y.get 0=some (.cells p.cells 0 true)/\Y.get 1=some qh/\Y.get 2=some (.map (dz (fu (p.aa.map (·.name)) 0 [])))/\Y.get 3=some (.map (dz (kU p.funcs 0 [])))/\Y.get Z.next=some (.cells [av,fv] 0 true)/\cU (fun k=>Z.next<k) 3 Y 5 fv (gs.map Gr.cells)/\Smr Z.next Z Y/\gs.length=i) eE ⟨[],.ag,hfl,g0,g1,g2,g3,g7,.inl ⟨rfl,rfl⟩,V,rfl⟩ ?_;clear g0 g1 g2 g3 g7 V htj hfl h;rintro i5 E5 Y hk5 hcE hrH hnH hsI ⟨gs,fv,hJ,g0,g1,g2,g3,g7,rf,V,hgl⟩;(try simp only[bC,aZ,aW,aG,aY,Nat.reduceBEq, *]at hcE);(try simp only[aZ, *]at hrH);(try simp only[aU,bq,ce,bR,Nat.reduceAdd]at hnH);have nk:Z.next+1<=Y.next:=ac
    obtain⟨hf1,hf2⟩:=rf.one;by_cases C:i5<p.funcs.length
    .have hlt':(i5:Int)<p.funcs.length:=by omega
     have hgx:p.funcs[i5]?=some p.funcs[i5]:=bj C;have hmem:=dm C;have hfsz:=oc hmem;rw[gI C]at hJ;unfold lV at hJ;obtain⟨s,v,e1,e2,hF⟩:=hok _ hmem;generalize p.funcs[i5]=f at *;have hfn:pm p n f=some ⟨f.name,f.params.length,v.2.l,v.1,v.2.ab⟩:=by unfold pm;simp_all
     rw[hfn]at hJ;simp only[cN]at hJ;have nB:=ze0 p (Y.next+1) (Y.next+2);have gAll:∀b0 c0 bZ m2 bx k,k<Y.next->(((((Y.alloc b0).set Y.next c0).alloc bZ).alloc m2).alloc bx).get k=Y.get k:=fun b0 c0 bZ m2 bx k z=>by
      rw[aD,af mG,aD,af mG,aD,af mG,aM,af ac,aD,af ac]
     have g0m:∀b0 c0,((Y.alloc b0).set Y.next c0).get 0=some (.cells p.cells 0 true):=fun b0 c0=>Sn;have hfx:∀b0 bZ m2 bx,(((((Y.alloc b0).set Y.next (.cells f.cells 0 true)).alloc bZ).alloc m2).alloc bx).get Y.next=some (.cells f.cells 0 true):=fun b0 bZ m2 bx=>by
      rw[aD,af mG,aD,af mG,aD,af bb,aM,ai rfl]
     repeat' (first
      |(apply aj ?_;clear hK K)|apply bQ ?_|(apply bu ?_ ?_<;>(intro hb hbp;try(cases hb;done)))|(apply am fun K hK=>?_)|fail)
     refine qc ?_;generalize hHb:Hp.alloc (Hp.alloc _ _) (.cells [.az (p.aa.map Ar.cells),.az (p.funcs.map Fu.cells),.map 2,.map 3,.ag,.map (Y.next+1),.map (Y.next+2),.ag,.int .i64 0,.int .i64 0] 0 true)=Hb;have nb:Hb.next=Y.next+4:=by rw[<-hHb];rfl
     have old:∀k,k<Y.next->Hb.get k=Y.get k:=fun k z=>aX
     have gt:Hb.get (Y.next+1)=some (.map []):=by
      rw[<-hHb,aD,af mG,aD,af mG,aD,ai cM]
     have gn:Hb.get (Y.next+2)=some (.map []):=by
      rw[<-hHb,aD,af mG,aD,ai cM]
     have gb:Hb.get (Y.next+3)=some (.cells [.az (p.aa.map Ar.cells),.az (p.funcs.map Fu.cells),.map 2,.map 3,.ag,.map (Y.next+1),.map (Y.next+2),.ag,.int .i64 0,.int .i64 0] 0 true):=by
      rw[<-hHb,aD,ai cM]
     clear hHb gAll g0m hfx nB;have hRb:zd1 (Lx.mk p (Y.next+3) 2 3 (Y.next+1) (Y.next+2) (fu (p.aa.map (·.name)) 0 []) (kU p.funcs 0 []) []) Hb (fun _=>False) ⟨[],[],0,0⟩ .ag .ag:=
      ⟨gb,aX,aX,gt,gn,.inl ⟨rfl,rfl⟩,.inl ⟨rfl,rfl⟩,by show 2<3;omega,aX,aX,aX,aX,fun _ h=>h.elim,fun _ h=>(rk h).elim⟩
     refine aF ?_ (zdg (X:=Lx.mk p (Y.next+3) 2 3 (Y.next+1) (Y.next+2) (fu (p.aa.map (·.name)) 0 []) (kU p.funcs 0 []) []) hG (zeW hv hmem rfl rfl rfl) rfl e1 e2 hF ac hRb);clear hRb gb gt gn;rintro w H4 ⟨S4,U,rfl,nd4,n4,s4,q4⟩;dsimp only at nd4 q4;have old4:∀k,k<Y.next->H4.get k=Y.get k:=fun k z=>aX
     have hlen4:∀H',gO prog H' 22 U=some (.int .i64 v.2.l.length):=fun H'=>by
      have:=nd4.len (P:=prog) (t:=22) (H':=H') underlying22
      grind
     obtain⟨hl1,hl2⟩:=nd4.one;clear q4 old;have n4':Y.next+4<=H4.next:=ac
     by_cases hbig:(2000:Int)<v.2.l.length
     .rw[ai hbig]at hJ;simp only[dB]at hJ;obtain⟨rfl,rfl⟩:=hJ;have g1a:∀b c,((H4.alloc b).set H4.next c).get 1=some qh:=fun b c=>by rw[aM,af ac,aD,af ac,old4 1 ac];exact g1
      have ag0:cq 2 [.ag,.ag]=some (.agg [.ag,.ag]):=rfl;dsimp only[aC];refine pE (fun hb hbp=>?_);refine⟨aB,_,(by(try simp only[aG,aY,Nat.reduceBEq,tyF,cF,cR, *]);first|done|with_reducible rfl),?_⟩;try simp only[aA]
      exact⟨_,fun _=>True,rfl,.cons .ag (.cons .ag .nil)⟩
     .rw[af hbig]at hJ;have hone:([.aj f.name,.int .i64 f.params.length,U,.int .i64 v.1,.int .i64 v.2.ab]:qu).all AV.one=true:=Se;have ag:cq 5 [.aj f.name,.int .i64 f.params.length,U,.int .i64 v.1,.int .i64 v.2.ab]=some (.agg [.aj f.name,.int .i64 f.params.length,U,.int .i64 v.1,.int .i64 v.2.ab]):=rfl;have hbs:=fun H=>SD H (cs:=[.aj f.name,.int .i64 f.params.length,U,.int .i64 v.1,.int .i64 v.2.ab]) rfl hone;have g7a:∀b c,((H4.alloc b).set H4.next c).get Z.next=some (.cells [av,fv] 0 true):=fun b c=>by rw[aM,af ac,aD,af ac,old4 _ ac];exact g7
      have keep6:∀k,k<H4.next->(((H4.alloc qk).set H4.next (.cells [.aj f.name,.int .i64 f.params.length,U,.int .i64 v.1,.int .i64 v.2.ab] 0 true)).alloc (.cells [.aj f.name,.int .i64 f.params.length,U,.int .i64 v.1,.int .i64 v.2.ab] 0 true)).get k=H4.get k:=fun k z=>by
       rw[aD,af mG,aM,af ac,aD,af ac]
      have hfq:∀k o m z',fv=.sl k o m z'->k<Y.next/\Z.next<k:=fun k o m z' e=>by
       rcases rf with⟨h1,_⟩|⟨q,im,rows,h1,O,h3,_⟩
       .rw[h1]at e;cases e
       grind
      obtain⟨H7,a7,r7,n7,q7⟩:=EU (P:=prog) (t:=25) underlying25 DD Ia Ib rfl ax (S':=fun k=>Z.next<k)
       (rf.keep (S':=fun k=>Z.next<k) (H':=((H4.alloc qk).set H4.next (.cells [.aj f.name,.int .i64 f.params.length,U,.int .i64 v.1,.int .i64 v.2.ab] 0 true)).alloc (.cells [.aj f.name,.int .i64 f.params.length,U,.int .i64 v.1,.int .i64 v.2.ab] 0 true)) (fun _ _ h=>h) mG fun k _ z=>aX)
       (fun _ _ h=>h) mG (r:=H4.next+1) (imm:=0) (row:=[.aj f.name,.int .i64 f.params.length,U,.int .i64 v.1,.int .i64 v.2.ab]) (w:=(Gr.mk f.name f.params.length v.2.l v.1 v.2.ab).cells) te rfl hone
       (SE f.name f.params.length v.1 v.2.ab (nd4.keep (S':=fun k=>Z.next<k/\∀o m z',fv≠.sl k o m z') (fun k h1 O=>⟨by have:=s4 k O;omega,fun o m z' e=>aX⟩) mG fun k z O=>keep6 k O))
       oC oC
      rw[dx]at a7 r7;simp only[aU,bq]at a7 r7 n7 q7;have old7:∀k,k<Y.next->(∀o m z',fv≠.sl k o m z')->H7.get k=Y.get k:=fun k h1 O=>by rw[q7 k ac O,keep6 k ac,old4 k h1]
      have hlow:∀k,k<=Z.next->∀o m z',fv≠.sl k o m z':=fun k z o m z' e=>aX
      have g77:H7.get Z.next=some (.cells [av,fv] 0 true):=by rw[old7 _ ac (hlow _ (ay _))];exact g7
      have hJ':lV p n (p.funcs.drop (i5+1)) (gs++[Gr.mk f.name f.params.length v.2.l v.1 v.2.ab])=some (u,e):=hJ;have hmapg:(gs++[Gr.mk f.name f.params.length v.2.l v.1 v.2.ab]).map Gr.cells=gs.map Gr.cells++[(Gr.mk f.name f.params.length v.2.l v.1 v.2.ab).cells]:=aw;have old7':∀k,k<Z.next->H7.get k=Y.get k:=fun k z=>old7 k ac (hlow k ac)
      clear keep6 old7 hlow hfq old4 q7 hJ;dsimp only[aC];refine pE (fun hb hbp=>?_);refine⟨ac,a0,a0,ca,oh,?_⟩;have hs7:∀m k,k≠Z.next->(H7.set Z.next m).get k=H7.get k:=fun m k z=>ju
      refine⟨gs++[Gr.mk f.name f.params.length v.2.l v.1 v.2.ab],.sl (H4.next+2) 0 (gs.length+1) 5,hJ',aX,aX,aX,aX,by rw[aM,ai rfl,hgl],?_,⟨fun k h1 O=>by rw[hs7 _ _ ac,old7' _ ac];exact V.get k h1 O⟩,bb⟩;rw[hmapg];exact r7.keep (fun _ _ h=>h) (ay _) fun k z _=>hs7 _ k ac
    .have hlt':¬(i5:Int)<p.funcs.length:=by omega
     have hd:p.funcs.drop i5=[]:=mH ac;rw[hd]at hJ;simp only[lV,dB]at hJ;obtain⟨rfl,rfl⟩:=hJ;have ag:cq 2 [av,fv]=some (.agg [av,fv]):=rfl;have rd1:=ra'.keep (S':=fun _=>True) (H':=Y.set 1 (.cells [av,fv] 0 true)) (fun _ _ _=>trivial) eC fun k z _=>by rw[aM,af ac];exact V.get k z.1 z.2
     have rd2:=rf.keep (S':=fun _=>True) (H':=Y.set 1 (.cells [av,fv] 0 true)) (fun _ _ _=>trivial) bb fun k z _=>ly;have fin:yV (Y.set 1 (.cells [av,fv] 0 true)) ⟨p.aa,gs⟩ 0 (.a6 [.agg [av,fv],.int .i64 0]):=⟨_,fun _=>True,rfl,.cons (rd1.rd.up ac) (.cons (rd2.rd.up ac) .nil)⟩;clear rd1 rd2;refine pE (fun hb hbp=>?_);refine⟨aB,_,(by(try simp only[aG,aY,Nat.reduceBEq,tyF,cF,cR, *]);first|done|with_reducible rfl),?_⟩;try simp only[aA]
     exact fin
 .rw[af hc,aQ,iw]at h;obtain⟨rfl,rfl⟩:=h;have bUn0:dd prog 27 []=some (.agg [.ag,.ag]):=ax;refine bp (M:=84) (rs:=[.cell 2 27,.tmp 3]) (hw.call _) hw.aG hw.aB func27 rfl rfl FD.2 rfl ?_;dsimp only[FD,bm,Nat.reduceAdd];repeat' (first
   |(apply aj ?_;clear hK K)|apply bQ ?_|(apply iz ?_;first|refine bK (hchk _) ?_)|(apply bu ?_ ?_<;>(intro hb hbp;try(cases hb;done)))|(apply am fun K hK=>?_)|fail)
  have ag0:cq 2 [.ag,.ag]=some (.agg [.ag,.ag]):=rfl;refine⟨aB,_,(by(try simp only[aG,aY,Nat.reduceBEq,tyF,cF,cR, *]);first|done|with_reducible rfl),?_⟩;try simp only[aA]
  exact⟨_,fun _=>True,rfl,.cons .ag (.cons .ag .nil)⟩
theorem yV.wk{H':Hp}{v:AV}(h:yV H' u e v):∃m w,iceV H' m v=some w/\bY 60 w=.a6 [.agg u.cells,.int .i64 e]:=by
 obtain⟨I,S,rfl,Y,Z,j⟩:=h;have C:dq S 100 H' (.agg I) (.agg Y):=dq.up (n:=6) ⟨Y,Z,rfl⟩ ac;obtain⟨z,V⟩:=D2 (S:=S) (n:=100) (H:=H') (fun k=>dq.iceV k) (l:=[.agg I,.int .i64 e]) (k:=[.agg Y,.int .i64 e]) ⟨C,vp ⟨.int _ _,trivial⟩,trivial⟩;refine⟨z+1,.a6 [.agg Y,.int .i64 e],?_,?_⟩
 .have U:iceV H' (z+1) (.a6 [.agg I,.int .i64 e])=match iceL (iceV H' z) [.agg I,.int .i64 e]with
   |some vs=>some (.a6 vs)
   |none=>none:=rfl
  simp_all
 .show AV.a6 [.agg (Y.map (bY 58)),.int .i64 e]=_;rw[j 58 ac]
noncomputable def BI:qC:=[J4]
def ze2(ρ:Nat->Int):gT prog ρ BI:=⟨zeV ρ,trivial⟩
theorem ze3:zd9 BI:=zd9.of fun e J=>by
 rw[BI,Ep]at J;subst J;rfl
def ze4(ρ:Nat->Int)(p:Pr)(C:p.sz<2^34)(m:eN p=0->BH p n)(h:pn p n=some (u,e)):bX prog ρ 27 (eV p) (.a6 [.agg u.cells,.int .i64 e]):=
 JJ (n:=60) (cfg:=au pls BI) fit (u5 ρ) (fun g J r hg=>gT.dW (l:=BI) (ze2 ρ) g J r hg) (.cons (.agg p.pure) .nil) (aF (fun v H' h=>h.wk) (ze1 ze3 (fun _=>rfl) (ei (fun _=>rfl) rfl) p C m h))
end
section
structure NdP (c:Cx) (np:Nat) (x:Nd):Prop where
 op:0<=x.op/\x.op<256
 aP:gV x.aP
 len:x.ao.length<=40
 pa:x.op=2->x.aP<np
 ar:x.op=23\/x.op=28->x.aP<c.aa.length
 fn:x.op=30->0<=x.aP/\∃f,c.funcs[x.aP.toNat]?=some f/\x.ao.length=1+f.params.length
structure zd6 (c:Cx):Prop where
 a:∀x∈c.aa,1<=x.len/\x.len<=16
 al:c.aa.length<=4
 fl:c.funcs.length<=8
 fp:∀f∈c.funcs,f.params.length<=6
 nl:c.aF.length<=14
structure LI (c:Cx) (np:Nat) (s:Bd):Prop where
 nd:s.l.Nodup
 wf:Bl s.l
 p:∀x∈s.l,NdP c np x
 v:∀x∈s.vars,IsT s.l 1 x
 vl:s.vars.length=c.aF.length
 st:IsT s.l 2 s.ab
def SF{l:qF}{n:Nd}(h:l.Nodup):(i7 l n).Nodup:=by
 unfold i7;split
 .exact h
 .rename_i c;exact JP.2 ⟨h,aw,fun a O b hb=>by
   simp only[jh]at hb;subst hb;rintro rfl;exact c (PC.2 O)⟩
def ze5(l:qF)(n:Nd):(i7 l n).length<=l.length+1:=by
 rw[PE];split<;>omega
section
variable {c:Cx} {np:Nat} {s:Bd}
def LI.setS(h:LI c np s){x:Int}(C:IsT s.l 2 x):LI c np {s with ab:=x}:=⟨h.nd,h.wf,h.p,h.v,h.vl,C⟩
def LI.setV(h:LI c np s){x:qy}(C:∀y∈x,IsT s.l 1 y)(O:x.length=c.aF.length):LI c np {s with vars:=x}:=⟨h.nd,h.wf,h.p,C,O,h.st⟩
def LI.dP(h:LI c np s)(x:Nat):LI c np {s with loops:=x}:=⟨h.nd,h.wf,h.p,h.v,h.vl,h.st⟩
def kG(h:LI c np s){n:Nd}(U:fL s.l n=t)(j:t≠0)(V:NdP c np n):LI c np (ah n s).2/\IsT (ah n s).2.l t (ah n s).1/\(ah n s).2.l.length<=s.l.length+1:=by
 obtain⟨a,b⟩:=JF h.wf U j;refine⟨⟨SF h.nd,b,fun x hx=>?_,fun x hx=>(h.v x hx).le (sZ _ _),h.vl,h.st.le (sZ _ _)⟩,a,ze5 _ _⟩;rcases rZ.1 hx with hx|rfl
 .exact h.p x hx
 .exact V
def i9(c:Cx)(np:Nat){op imm:Int}{kids:qy}(M:0<=op/\op<256)(I:gV imm)(Z:kids.length<=40)(h2:op≠2)(V:op≠23)(z:op≠28)(Y:op≠30):NdP c np ⟨op,imm,kids⟩:=
 ⟨M,I,Z,fun e=>absurd e h2,fun e=>e.elim (fun e=>absurd e V) fun e=>absurd e z,fun e=>absurd e Y⟩
def yW(h:LI c np s){k a:Int}(z:IsT s.l 1 k)(O:IsT s.l t a)(hb:IsT s.l t b)(j:t=1\/t=2):LI c np (bA k a b s).2/\IsT (bA k a b s).2.l t (bA k a b s).1/\(bA k a b s).2.l.length<=s.l.length+1:=by
 unfold bA;split
 .simp_all
 .exact kG h (PU z O hb j) ac (i9 _ _ aH fF aw aH aH aH aH)
def J5(h:LI c np s){v:Int}(Z:IsT s.l 1 v)(m:1<=t)(h1:t<=1000016):LI c np (kC t v s)/\(kC t v s).l.length<=s.l.length+1:=by
 have:=kG h (n:=⟨27,t,[s.ab,v]⟩) (PW h.st Z m h1) aH (i9 _ _ aH fF aw aH aH aH aH);exact⟨this.1.setS this.2.1,this.2.2⟩
def BJ(h:LI c np s){n:Int}(J:gV n):LI c np (ah ⟨1,n,[]⟩ s).2/\IsT (ah ⟨1,n,[]⟩ s).2.l 1 (ah ⟨1,n,[]⟩ s).1/\(ah ⟨1,n,[]⟩ s).2.l.length<=s.l.length+1:=
 kG h (PP n) aH (i9 _ _ aH J aw aH aH aH aH)
def FE(h:LI c np s){op a:Int}(O:IsT s.l 1 a)(hb:IsT s.l 1 b)(m:4<=op)(h1:op<=19):LI c np (ah ⟨op,0,[a,b]⟩ s).2/\IsT (ah ⟨op,0,[a,b]⟩ s).2.l 1 (ah ⟨op,0,[a,b]⟩ s).1/\(ah ⟨op,0,[a,b]⟩ s).2.l.length<=s.l.length+1:=
 kG h (PS O hb m h1) aH (i9 _ _ ac fF aw ac ac ac ac)
def SG(h:LI c np s){n i:Int}(J:gV n)(I:IsT s.l 1 i):LI c np (eO n i s)/\(eO n i s).l.length<=s.l.length+3:=by
 obtain⟨Z,Y,M⟩:=BJ h J;have O:=I.le (cC ⟨1,n,[]⟩ s).le.l;obtain⟨j,m,C⟩:=FE Z (op:=19) O Y aH aH;obtain⟨V,U⟩:=J5 j (t:=2) m aH aH;exact⟨V,by have:(eO n i s).l.length<=_:=U;omega⟩
def ze6(h:LI c np s){i:Int}(I:IsT s.l 1 i):LI c np (mF i s)/\(mF i s).l.length<=s.l.length+3:=by
 obtain⟨Z,Y,J⟩:=BJ h (n:=0) fF;have O:=I.le (cC ⟨1,0,[]⟩ s).le.l;obtain⟨j,m,M⟩:=FE Z (op:=16) O Y aH aH;obtain⟨V,U⟩:=J5 j (t:=1) m aH aH;exact⟨V,by have:(mF i s).l.length<=_:=U;omega⟩
def SH(M:zd6 c)(h:LI c np s){i:Int}(I:IsT s.l 1 i)(z:k<c.aa.length):LI c np (ah ⟨23,k,[s.ab,i]⟩ s).2/\IsT (ah ⟨23,k,[s.ab,i]⟩ s).2.l 1 (ah ⟨23,k,[s.ab,i]⟩ s).1/\(ah ⟨23,k,[s.ab,i]⟩ s).2.l.length<=s.l.length+1:=by
 have al:=M.al;exact kG h (PV h.st I ac ac) aH ⟨bb,BB,bb,fun e=>absurd e bb,fun _=>bb,fun e=>absurd e bb⟩
def SI(M:zd6 c)(h:LI c np s){i v:Int}(I:IsT s.l 1 i)(Z:IsT s.l 1 v)(z:k<c.aa.length):LI c np (ah ⟨28,k,[s.ab,i,v]⟩ s).2/\IsT (ah ⟨28,k,[s.ab,i,v]⟩ s).2.l 2 (ah ⟨28,k,[s.ab,i,v]⟩ s).1/\(ah ⟨28,k,[s.ab,i,v]⟩ s).2.l.length<=s.l.length+1:=by
 have al:=M.al;exact kG h (PY h.st I Z ac ac) aH ⟨bb,BB,bb,fun e=>absurd e bb,fun _=>bb,fun e=>absurd e bb⟩
def ze7(h:LI c np s){v:Int}(Z:IsT s.l 1 v):LI c np (ah ⟨29,0,[s.ab,v]⟩ s).2/\IsT (ah ⟨29,0,[s.ab,v]⟩ s).2.l 2 (ah ⟨29,0,[s.ab,v]⟩ s).1/\(ah ⟨29,0,[s.ab,v]⟩ s).2.l.length<=s.l.length+1:=
 kG h (PX h.st Z) aH (i9 _ _ aH fF aw aH aH aH aH)
def ze8(h:LI c np s){v:Int}(Z:IsT s.l 2 v):LI c np (ah ⟨24,0,[v]⟩ s).2/\IsT (ah ⟨24,0,[v]⟩ s).2.l 1 (ah ⟨24,0,[v]⟩ s).1/\(ah ⟨24,0,[v]⟩ s).2.l.length<=s.l.length+1:=
 kG h (PZ Z) aH (i9 _ _ aH fF aw aH aH aH aH)
def SJ(M:zd6 c)(h:LI c np s){Z:qy}(O:∀a∈Z,IsT s.l 1 a)(j:c.funcs[k]?=some f)(Y:Z.length=f.params.length):LI c np (ah ⟨30,k,s.ab::Z⟩ s).2/\IsT (ah ⟨30,k,s.ab::Z⟩ s).2.l 2 (ah ⟨30,k,s.ab::Z⟩ s).1/\(ah ⟨30,k,s.ab::Z⟩ s).2.l.length<=s.l.length+1:=by
 have V:=M.fl;have U:=M.fp f (li j);have z:k<c.funcs.length:=by
  grind
 exact kG h (P1 h.st O ac ac ac) aH ⟨bb,BB,aX,fun e=>absurd e bb,fun e=>bb,fun _=>⟨bb,f,bb,aX⟩⟩
end
def ze9{k:Ex}(M:dt l)(h:l[i]?=some k):dA k:=by
 induction l generalizing i with
 |nil=>simp at h
 |cons e I ih=>
  rw[dt]at M
  grind
def zfa{vs I:List bG}{k:Ex}(M:fg vs I l=true)(h:l[i]?=some k):ev vs I k=true:=by
 induction l generalizing i with
 |nil=>simp at h
 |cons e Z ih=>
  rw[fg,da]at M
  grind
def BK{k:Ex}(h:l[i]?=some k):1+k.sz<=cy l:=by
 have:=n1 (li h);omega
def J6{a b:Ex}(m:l[0]?=some a)(h1:l[1]?=some b):2+a.sz+b.sz<=cy l:=by
 cases l with
 |nil=>simp at m
 |cons x l=>
  simp at m h1;subst m;have:=BK h1;rw[cy];omega
def SK{a b d:Ex}(m:l[0]?=some a)(h1:l[1]?=some b)(h2:l[2]?=some d):3+a.sz+b.sz+d.sz<=cy l:=by
 cases l with
 |nil=>simp at m
 |cons x l=>
  simp at m h1 h2;subst m;have:=J6 (l:=l) h1 h2;rw[cy];omega
theorem vR:∀{l:List bG}{s:bG},bE l s=true->bV l s<l.length
 |[],s,h=>by simp[bE]at h
 |a::l,s,h=>by
  rw[bV];split
  .simp
  .rename_i c;have U:bE (a::l) s=(decide (a=s)||bE l s):=rfl;rw[U,rV c,mp]at h;rw[ai h,gF];exact Nat.succ_lt_succ (vR h)
structure XOk (c:Cx) (x:Ex):Prop where
 wf:eW x=true
 df:ev c.aF (c.aa.map (·.name)) x=true
 rg:dA x
def XOk.er{c:Cx}{x k:Ex}(h:XOk c x)(z:x.ao[i]?=some k):XOk c k:=by
 obtain⟨m,j,C⟩:=h;rw[A1,da]at m;rw[A4,da]at j;rw[JG]at C;exact⟨zcD m.1 z,zfa j.1 z,ze9 C.2 z⟩
theorem tk{c:Cx}(hc:zd6 c){np:Nat}:∀(n:Nat) (x:Ex) (s:Bd),XOk c x->x.sz<n->LI c np s->∃r,ec c n x s=some r/\LI c np r.2/\IsT r.2.l 1 r.1/\r.2.l.length<=s.l.length+6*x.sz
 |0,x,s,hx,hd,hs=>by omega
 |n+1,x,s,hx,hd,hs=>by
  have m:=tk hc (np:=np) n;have hwf:=hx.wf;have j:=hx.df;have hrg:=(JG x).1 hx.rg;rw[A1,da,mC]at hwf;rw[A4,da,iZ]at j;have M:=hwf.2;have hsz:=x.aV;unfold ec;by_cases e1:x.am=1
  .rw[ai e1];obtain⟨a,b,d⟩:=BJ hs hrg.1;exact⟨_,rfl,a,b,ac⟩
  rw[af e1]at M⊢;by_cases e2:x.am=2
  .rw[ai e2];have hn:bE c.aF x.name=true:=by have:=j.2;simp[e2]at this;exact this
   have J:bV c.aF x.name<s.vars.length:=by rw[hs.vl];exact vR hn
   rw[bj J,sD];exact⟨_,rfl,hs,hs.v _ (dm J),by show s.l.length<=_;omega⟩
  rw[af e2]at M⊢;by_cases e3:x.am=3
  .rw[ai e3]at M⊢;simp only[oQ]at M;have hn:bE (c.aa.map (·.name)) x.name=true:=by have:=j.2;simp[e3]at this;exact this
   have J:=vR hn;rw[dx]at J;obtain⟨k,z⟩:=oA x.ao (i:=0) ac;have hks:=BK z;obtain⟨r,hr,Z,V,r3⟩:=m k s (hx.er z) ac hs;rw[z,cN,hr,cN,bj J,cN];have ha:=hc.a _ (dm J);generalize c.aa[bV (c.aa.map (·.name)) x.name]=ar at ha⊢;obtain⟨a1,a2⟩:=SG Z (n:=ar.len) fF V;obtain⟨O,C,b3⟩:=SH hc a1 (V.le (r0 ar.len r.1 r.2).le.l) J;exact⟨_,rfl,O,C,ac⟩
  rw[af e3]at M⊢;by_cases e5:x.am=5
  .have e4:¬x.am=4:=by omega
   rw[af e4,ai e5]at M;rw[ai e5];simp only[oQ]at M;obtain⟨k,z⟩:=oA x.ao (i:=0) ac;obtain⟨k1,I⟩:=oA x.ao (i:=1) ac;obtain⟨k2,U⟩:=oA x.ao (i:=2) ac;have hks:=SK z I U;obtain⟨r,hr,p1,p2,p3⟩:=m k s (hx.er z) ac hs;obtain⟨Z,Y,q1,q2,q3⟩:=m k1 r.2 (hx.er I) ac p1;have l1:=dr c n _ _ _ Y;obtain⟨V,hr2,t1,t2,t3⟩:=m k2 {Z.2 with ab:=r.2.ab} (hx.er U) ac (q1.setS (p1.st.le l1.le.l));have l2:=dr c n _ _ _ hr2;rw[z,cN,hr,cN,I,cN,Y,cN,U,cN,hr2,cN];have pc:IsT V.2.l 1 r.1:=(p2.le l1.le.l).le l2.le.l;obtain⟨bZ,m2,m3⟩:=yW t1 pc (q2.le l2.le.l) t2 (.inl rfl);have lm:=eZ r.1 Z.1 V.1 V.2;obtain⟨cS,n2,n3⟩:=yW bZ (pc.le lm.le.l) ((q1.st.le l2.le.l).le lm.le.l) bZ.st (.inr rfl);have ln:=eZ r.1 Z.2.ab (bA r.1 Z.1 V.1 V.2).2.ab (bA r.1 Z.1 V.1 V.2).2;refine⟨_,rfl,cS.setS n2,m2.le ln.le.l,?_⟩;simp only at t3⊢;omega
  rw[af e5]at M⊢;by_cases e4:x.am=4
  .rw[ai e4]at M;simp only[da,sG,rG]at M;have hl:x.ao.length=2\/x.ao.length=1:=by rcases M.2 with h|h<;>omega
   obtain⟨k,z⟩:=oA x.ao (i:=0) ac;have hks:=BK z;obtain⟨r,hr,p1,p2,p3⟩:=m k s (hx.er z) ac hs;rw[z,cN,hr,cN];by_cases e6:x.ao.length=1
   .rw[ai e6];have ho:x.op=20\/x.op=21:=by
     rcases M.2 with h|h
     .omega
     .exact h.2
    obtain⟨a,b,d⟩:=kG p1 (PT p2 ho) aH (i9 _ _ ac fF aw ac ac ac ac);exact⟨_,rfl,a,b,ac⟩
   .rw[af e6];obtain⟨k1,I⟩:=oA x.ao (i:=1) ac;have hks2:=J6 z I;obtain⟨Z,Y,q1,q2,q3⟩:=m k1 r.2 (hx.er I) ac p1;have l1:=dr c n _ _ _ Y;rw[I,cN,Y,cN];have ho:4<=x.op/\x.op<=18:=by
     rcases M.2 with h|h
     .have:=h.2;simp[pY]at this;exact this
     .omega
    have p2':=p2.le l1.le.l;by_cases e7:x.op=7\/x.op=8
    .rw[ai e7];obtain⟨a1,a2⟩:=ze6 q1 q2;have ld:=Bk Z.1 Z.2;obtain⟨O,C,b3⟩:=FE a1 (p2'.le ld.le.l) (q2.le ld.le.l) (by omega:4<=x.op) ac;exact⟨_,rfl,O,C,ac⟩
    .rw[af e7];obtain⟨O,C,b3⟩:=FE q1 p2' q2 (by omega:4<=x.op) ac;exact⟨_,rfl,O,C,ac⟩
  simp_all
theorem SL{c:Cx}(M:zd6 c){np n:Nat}:∀(l:qI) (s:Bd),(∀x∈l,XOk c x)->cy l<n->LI c np s->∃r,nC c n l s=some r/\LI c np r.2/\(∀a∈r.1,IsT r.2.l 1 a)/\r.2.l.length<=s.l.length+6*cy l
 |[],s,hx,hd,hs=>⟨_,rfl,hs,aw,bb⟩
 |x::l,s,hx,hd,hs=>by
  rw[cy]at hd⊢;obtain⟨r,hr,V,Y,J⟩:=tk M n x s (hx x eg) ac hs;obtain⟨Z,C,q1,q2,I⟩:=SL (n:=n) M l r.2 (fun y hy=>hx y (en _ hy)) ac V;have U:=(sc c n _ _ _ C).1;refine⟨(r.1::Z.1,Z.2),Sf,q1,fun a O=>?_,yT⟩;rcases gH.1 O with rfl|O
  .exact Y.le U.le.l
  .exact q2 a O
end
end Go.Proofs.YtpbcimfiofmoeaaGreat
