/- Parts: G3, G4, G5p, ChkM, LoL, SpecU, SpecX. -/
import Derived.Test.YtpbcimfiofmoeaaNCM
set_option linter.unusedSimpArgs false
set_option linter.unusedVariables false
set_option linter.unusedSectionVars false
set_option linter.defProp false
set_option maxHeartbeats 32000000
namespace Go.Ab
set_option maxRecDepth 20000
open Go
theorem wB{P:Prop}(h:P:=by simp only[];omega):P:=h
theorem zM{P:Prop}(h:P:=by simp only[List.length_map,zcw];omega):P:=h
theorem JX{P:Prop}(h:P:=by rw[show zcw=70368744177664 from rfl];omega):P:=h
theorem zN{P:Prop}(h:P:=by simp only[zbb,zb4];omega):P:=h
theorem jE{P:Prop}(h:P:=by unfold jG;omega):P:=h
theorem zO{P:Prop}(h:P:=by show jG (k:Int);unfold jG;omega):P:=h
theorem ru{P:Prop}(h:P:=by simp only;omega):P:=h
theorem jS{P:Prop}(h:P:=by rw[Hp.get_set,if_neg ac]):P:=h
theorem JY{P:Prop}(h:P:=by rw[o _ ac ac,zaY,if_neg ac];exact g2):P:=h
theorem Di{P:Prop}(h:P:=by rw[o _ ac ac,zaY,if_pos ac]):P:=h
theorem zP{P:Prop}(h:P:=by rw[Hp.get_set,if_neg ac,zaY,if_pos rfl];simp):P:=h
theorem JZ{P:Prop}(h:P:=by rw[gB _ _ _ _ ac ac];exact O.get k h1 g):P:=h
def zQ:=@Int.tmod_nonneg
def wC:=@List.mem_or_eq_of_mem_set
def J0:=@Int.tmod_eq_emod_of_nonneg
end Go.Ab
namespace Go.Proofs.Ytpbcimfiofmoeaa
set_option maxRecDepth 20000
open Go Go.Ab
section
def tyG3.tyF:=ad @eJ (ad @cQ (ad @cW (ad @gU (ad @gJ (ad @eA (ad @dX (ad @wc (ad @x3 (@vm)))))))))
open tyG3
noncomputable def J1:{c:SC // aD 115 (Try.f29.body.getD .skip)=c}:=by
 refine⟨?_,?_⟩;rotate_left
 .simp only[Try.f29,bP,aD,zby,zbt,zbA,zbB,Nat.blt,Nat.ble];rfl
noncomputable def zR:List En:=[sK,zl,zm]
def zS(f:FuncId):Bool:=Nat.beq f 27||Nat.beq f 29||Nat.beq f 28||Nat.beq f 55||Nat.beq f 14
structure GenL (l:List En):Prop where
 pick:∀ar,zcu l 9 ar=sK.sp ar
 word:∀ar,zcu l 57 ar=zl.sp ar
 nms:∀ar,zcu l 56 ar=zm.sp ar
 pl:∀f,zS f=true->(∀ar,zcu l f ar=none)/\lB l f=false
theorem GenL.plain{l:List En}(h:GenL l){f:FuncId}(Z:zS f=true):Plain (za3 pls l) f:=zcB (h.pl f Z).1 (h.pl f Z).2
theorem Ys{f:FuncId}(h:zS f=true):f=27\/f=29\/f=28\/f=55\/f=14:=by
 simp only[zS,pK]at h;rcases h with(((h|h)|h)|h)|h<;>have e:=hM h<;>subst e<;>simp
theorem J2:GenL zR:=⟨fun _=>rfl,fun _=>rfl,fun _=>rfl,fun f hf=>by rcases Ys hf with rfl|rfl|rfl|rfl|rfl<;>exact⟨fun _=>rfl,rfl⟩⟩
theorem Yt(ρ:Nat->Int):jc Try.prog ρ zR:=⟨CW ρ,WH ρ,WL ρ,trivial⟩
def ub(m:Int):Int:=if m.tmod 2=0 then 20 else 21
def qk(m:Int):List UInt8:=if m.tmod 2=0 then [97]else [98]
def zbe(f:Int):Nat->Nat->List Int->Ex×List Int
 |0,_,L=>(.mk 0 0 [] 0 [],L)
 |k+1,deep,L=>
  let n:=(zbo L).1
  let Z:=(zbo L).2
  let q:=zbD n 16
  let m:=zbD (b9 (n.tdiv 16)) 1000
  if q<4\/(3:Int)<deep then
   if q.tmod 2=0\/((3:Int)<deep/\8<q)then (.mk 2 0 ((zbz f).getD (m.tmod (zbz f).length).toNat []) 0 [],Z)
   else (.mk 1 (ph m n) [] 0 [],Z)
  else if q<6 then (.mk 3 0 (qk m) 0 [(zbe f k (deep+1) Z).1],(zbe f k (deep+1) Z).2)
  else if q<7 then
   let a:=zbe f k (deep+1) Z
   let b:=zbe f k (deep+1) a.2
   let c:=zbe f k (deep+1) b.2
   (.mk 5 0 [] 0 [a.1,b.1,c.1],c.2)
  else if q<9 then (.mk 4 0 [] (ub m) [(zbe f k (deep+1) Z).1],(zbe f k (deep+1) Z).2)
  else
   let a:=zbe f k (deep+1) Z
   let b:=zbe f k (deep+1) a.2
   (.mk 4 0 [] (b9 (4+m.tmod 15)) [a.1,b.1],b.2)
theorem zdm(L:List Int):(zbo L).2.length<=L.length:=by cases L<;>simp[zbo]
theorem zcl(f:Int):∀(k O:Nat) (L:List Int),(zbe f k O L).2.length<=L.length
 |0,_,_=>aA _
 |k+1,O,L=>by
  have h:=zdm L;have ih:=fun L=>zcl f k (O+1) L;simp only[zbe];split
  .split<;>exact h
  .split
   .exact cm (ih _) h
   .split
    .exact cm (ih _) (cm (ih _) (cm (ih _) h))
    .split
     .exact cm (ih _) h
     .exact cm (ih _) (cm (ih _) h)
def wD(z n lo:Nat)(H:Hp)(r:Nat)(O:List AV)(L:List Int)(c:Int)(v:AV)(H':Hp):Prop:=
 (∃Z,v=.agg Z/\Z.length=z/\Z.all AV.one=true/\zbI (fun q=>H.next<=q) n H' Z O)/\ge lo H' r L c/\H.next<=H'.next/\∀q,q<H.next->q≠r->H'.get q=H.get q
theorem pn{z:Type}(l:List z)(K:(l.length:Int)≠0){m:Int}(V:0<=m)(d:z):0<=m.tmod l.length/\l[(m.tmod l.length).toNat]?=some (l.getD (m.tmod l.length).toNat d):=by
 have i:=zQ (l.length:Int) V;have g:=sE m (b:=(l.length:Int)) ac;refine⟨i,?_⟩;generalize m.tmod l.length=t at *;rw[eR,aY ac];rfl
theorem zT{m:Int}(h:0<=m):0<=m.tmod 2/\m.tmod 2<2:=⟨zQ _ h,sE _ ac⟩
theorem ql{m:Int}(h:0<=m)(r:Nat):zb1 Try.prog 47 (.sl r 0 2 1) (.int .i64 (m.tmod 2))=some (.ptr r (m.tmod 2).toNat):=by
 obtain⟨i,g⟩:=zT h;rw[FP _ _ _ _ i,lD (by omega:(m.tmod 2).toNat<2)];simp
theorem Yu{m:Int}(h:0<=m)(r:Nat):zb1 Try.prog 23 (.sl r 0 2 1) (.int .i64 (m.tmod 2))=some (.ptr r (m.tmod 2).toNat):=by
 obtain⟨i,g⟩:=zT h;rw[FI _ _ _ _ i,lD (by omega:(m.tmod 2).toNat<2)];simp
theorem Dj{z:Type}{m:Int}(h:0<=m)(a b:z):[a,b][(m.tmod 2).toNat]?=some (if m.tmod 2=0 then a else b):=by
 obtain⟨i,g⟩:=zT h;rcases(by omega:m.tmod 2=0\/m.tmod 2=1)with e|e<;>rw[e]<;>rfl
theorem qm{m:Int}(h:0<=m):[AV.str [97],AV.str [98]][(m.tmod 2).toNat]?=some (.str (qk m)):=by
 rw[Dj h,qk];split<;>rfl
theorem Yv{m:Int}(h:0<=m):[AV.int .i64 20,AV.int .i64 21][(m.tmod 2).toNat]?=some (.int .i64 (ub m)):=by
 rw[Dj h,ub];split<;>rfl
theorem Yw(s:List UInt8):zb5 Try.prog 51 [(0,.int .i64 2),(2,.str s)]=some (.agg [.int .i64 2,.int .i64 0,.str s,.int .i64 0,.nilS]):=ah
theorem Yx(n:Int):zb5 Try.prog 51 [(0,.int .i64 1),(1,.int .i64 n)]=some (.agg [.int .i64 1,.int .i64 n,.str [],.int .i64 0,.nilS]):=ah
theorem Yy(s:List UInt8)(r n:Nat):zb5 Try.prog 51 [(0,.int .i64 3),(2,.str s),(4,.sl r 0 n 5)]=some (.agg [.int .i64 3,.int .i64 0,.str s,.int .i64 0,.sl r 0 n 5]):=ah
theorem Yz(r n:Nat):zb5 Try.prog 51 [(0,.int .i64 5),(4,.sl r 0 n 5)]=some (.agg [.int .i64 5,.int .i64 0,.str [],.int .i64 0,.sl r 0 n 5]):=ah
theorem J3(o:Int)(r n:Nat):zb5 Try.prog 51 [(0,.int .i64 4),(3,.int .i64 o),(4,.sl r 0 n 5)]=some (.agg [.int .i64 4,.int .i64 0,.str [],.int .i64 o,.sl r 0 n 5]):=ah
theorem jk{cs:List AV}(h:cs.length=5):∃a b c d e,cs=[a,b,c,d,e]:=by
 match cs,h with
 |[a,b,c,d,e],_=>exact⟨a,b,c,d,e,rfl⟩
theorem uc(H:Hp){cs:List AV}(h:cs.length=5)(h1:cs.all AV.one=true):zcv Try.prog H 49 1 [(0,.agg cs)]=some (.sl H.next 0 1 5,H.alloc (.cells cs 0 true)):=by
 obtain⟨a,b,c,d,e,rfl⟩:=jk h;kernel_rfl
theorem YA(H:Hp){cs U:List AV}(h:cs.length=5)(k:U.length=5):zcv Try.prog H 49 2 [(0,.agg cs),(1,.agg U)]=some (.sl H.next 0 2 5,H.alloc (.cells (cs++U) 0 true)):=by
 obtain⟨a,b,c,d,e,rfl⟩:=jk h;obtain⟨i,Y,c',m,Z,rfl⟩:=jk k;kernel_rfl
theorem YB(H:Hp){cs U j:List AV}(h:cs.length=5)(k:U.length=5)(l:j.length=5):zcv Try.prog H 49 3 [(0,.agg cs),(1,.agg U),(2,.agg j)]=some (.sl H.next 0 3 5,H.alloc (.cells (cs++U++j) 0 true)):=by
 obtain⟨a,b,c,d,e,rfl⟩:=jk h;obtain⟨i,Y,c',V,O,rfl⟩:=jk k;obtain⟨Z,m,o,z,C,rfl⟩:=jk l;kernel_rfl
theorem J4(H:Hp)(a b:Int):zcv Try.prog H 23 2 [(0,.int .i64 a),(1,.int .i64 b)]=some (.sl H.next 0 2 1,H.alloc (.cells [.int .i64 a,.int .i64 b] 0 true)):=ah
theorem wE(a b c d e:AV):zbJ 5 [a,b,c,d,e]=some (.agg [a,b,c,d,e]):=rfl
set_option maxRecDepth 100000 in
theorem zdn{lG:List En}(hG:GenL lG):∀(k:Nat) (f:Int) (O:Nat),5<=O+k->O<=4->∀(lo:Nat) (H:Hp) (r:Nat) (L:List Int) (c:Int),ge lo H r L c->L.length<2^60 ->
 za9 Try.prog (za3 pls lG) 29 [.ptr r 0,.int .i64 f,.int .i64 O] H (wD 5 (k+1) lo H r (zbe f k O L).1.cells (zbe f k O L).2 c)
 |0,f,O,i,g,_,_,_,_,_,_,_=>by omega
 |k+1,f,O,i,g,lo,H,r,L,c,hrd,hL=>by
  have hw:Plain (za3 pls lG) 29:=hG.plain cN;have hnx:Plain (za3 pls lG) 27:=hG.plain cN;have hrl:=hrd.1;have hlo:=hrd.2.1;have hq16:(16:Int)≠0:=aS;generalize I:zbe f (k+1) O L=R;rw[zbe]at I;simp only[]at I;refine zbs (M:=115) (rs:=[.cell 6 51]) (hw.call _) hw.ice hw.froz Try.func29 rfl rfl J1.2 rfl ?_;dsimp only[J1,zbj,Nat.reduceAdd];repeat' (first
   |(apply ai ?_;clear hK K)|apply Rx.o ?_|apply aq ?_|(apply zaW fun K hK=>?_)|fail)
  refine aK rfl aL aM ?_;simp only[aR];refine aI ?_ (zn hnx (hrd.keep (dV _) fun q Y=>fS) hL);rintro v H2 ⟨rfl,J,n2,o2⟩;simp only[zbb]at n2;have g2:H2.get H.next=some (.cells [.int .i64 0,.int .i64 0,.str [],.int .i64 0,.nilS] 0 true):=by rw[o2 _ ac,zaY,aj rfl]
  have Z:∀q,q<H.next->q≠r->H2.get q=H.get q:=fun q i g=>by rw[o2 q g,zaY,af ac]
  have hL1:=zdm L;generalize (zbo L).1=n at *;generalize (zbo L).2=L1 at *;have Y:=zds (n:=n) (m:=16) ac ac;have hm:=zds (n:=b9 (n.tdiv 16)) (m:=1000) ac ac;have hq2:(2:Int)≠0:=aS;have hq15:(15:Int)≠0:=aS;have hlen0:((zbz f).length:Int)≠0:=by rcases qi f with h|h<;>rw[h]<;>decide
  have hwd:IntKind.wrap .i64 ((O:Int)+1)=((O+1:Nat):Int):=zcL ac;clear o2;dsimp only[za1];obtain⟨hi0,hix⟩:=pn (zbz f) hlen0 hm.1 [];have hxs:=ql hm.1;have hxi:=Yu hm.1;have hxa:=qm hm.1;have hxo:=Yv hm.1;have kf:∀(H3:Hp) (x:Ex),ge lo H3 r L1 c->H.next<=H3.next->(∀q,q<H.next->q≠r->H3.get q=H.get q)->∀j,j.length=5->j.all AV.one=true->zbI (fun q=>H.next<=q) (k+2) H3 j x.cells->wD 5 (k+2) lo H r x.cells L1 c (.agg j) H3:=fun H3 x q1 q2 q3 j q4 q5 q6=>⟨⟨j,rfl,q4,q5,q6⟩,q1,q2,q3⟩
  have gh0:=@Yw;have gh1:=@Yx;have gh2:=@wE;have gh3:=@J4;repeat' (first
   |(apply ai ?_;clear hK K)|apply Rx.o ?_|apply bN ?_|(apply mn ?_;first|refine zbV (Iq hG.nms _ _) ?_|refine zbV (tS hG.pick _ _ aS _) ?_|refine zbV (WI hG.word _ _ _) ?_)|apply Rx.gu ?_|(apply da (fun hg hgp=>?_) (fun hg hgp=>?_)<;>try(cases hg;done))|(apply bu (fun hb hbp=>?_) (fun hb hbp=>?_)<;>try(cases hb;done))|apply aq ?_|(apply zaW fun K hK=>?_)|(apply zcy 10 [(0,9),(0,12),(4,9),(4,12),(10,12)] fun K hK=>?_)|(apply zcy 14 [(0,9),(0,12),(4,9),(4,12),(10,12)] fun K hK=>?_)|(apply zbK ?_;try intro _)|apply cr ?_|apply aO ?_|apply za8 ?_|apply aN ?_)
  .refine⟨za2,_,(by(try simp only[za4,zbg,Nat.reduceBEq,tyF,zb9,zch, *]);first|done|with_reducible rfl),?_⟩;try simp only[za0]
   first
   |rw[aj ac,aj ac]at I
   |rw[aj ac,af ac]at I
   subst I;refine kf _ _ ?_ ?_ ?_ _ rfl rfl (rm _ _ _ _)
   .exact J.keep (aA _) fun q Y=>jS
   .simp only[zbl];omega
   .intro q i g;rw[aC,af ac];exact Z q i g
  .refine⟨za2,_,(by(try simp only[za4,zbg,Nat.reduceBEq,tyF,zb9,zch, *]);first|done|with_reducible rfl),?_⟩;try simp only[za0]
   first
   |rw[aj ac,aj ac]at I
   |rw[aj ac,af ac]at I
   subst I;refine kf _ _ ?_ ?_ ?_ _ rfl rfl (rm _ _ _ _)
   .exact J.keep (aA _) fun q Y=>jS
   .simp only[zbl];omega
   .intro q i g;rw[aC,af ac];exact Z q i g
  .refine⟨za2,_,(by(try simp only[za4,zbg,Nat.reduceBEq,tyF,zb9,zch, *]);first|done|with_reducible rfl),?_⟩;try simp only[za0]
   first
   |rw[aj ac,aj ac]at I
   |rw[aj ac,af ac]at I
   subst I;refine kf _ _ ?_ ?_ ?_ _ rfl rfl (rm _ _ _ _)
   .exact J.keep (aA _) fun q Y=>jS
   .simp only[zbl];omega
   .intro q i g;rw[aC,af ac];exact Z q i g
  ·-- one operand
   have er:(H.next == r)=false:=zbn ac;refine aK rfl aL aM ?_;simp only[fJ];refine aI ?_ (zdn hG k f (O+1) ac ac lo _ r L1 c (J.keep (dV _) fun q Y=>fS) ac);rintro v C ⟨⟨j,rfl,U,hc2,V⟩,z,n4,o⟩;simp only[zbb]at n4 o V;have g4:C.get H.next=some (.cells [.int .i64 0,.int .i64 0,.str [],.int .i64 0,.nilS] 0 true):=JY
   have g4s:C.get (H.next+1)=some (.cells [.str [97],.str [98]] 0 true):=Di;have kb:=fun H=>uc H U hc2;have e4:(H.next == C.next)=false:=zbn ac;have e5:(H.next+1 == C.next)=false:=zbn ac;dsimp only[za1];have gh0:=@wE;have gh1:=@Yy;repeat' (first
    |apply Rx.o ?_|apply bN ?_|(apply zbK ?_;try intro _)|(apply zcr ?_ ?_<;>clear hK K)|apply cr ?_|apply zcX rfl ?_|apply aN ?_)
   .exact zck
   .refine⟨za2,_,(by(try simp only[za4,zbg,Nat.reduceBEq,tyF,zb9,zch, *]);first|done|with_reducible rfl),?_⟩;try simp only[za0]
    rw[af ac,aj ac]at I;subst I;refine⟨⟨_,rfl,rfl,rfl,?_⟩,?_,?_,?_⟩
    .refine tT (n:=k+1) _ _ _ _ (rk (n:=k+1) (a:=[j]) (imm:=0) (tip:=true) (by show H.next<=C.next;omega) f0 zP aw ⟨⟨U,V.keep (fun q Y=>ac) f0 fun q i g=>mD⟩,trivial⟩)
    .exact z.keep f0 fun q Y=>mD
    .simp only[zbl,zbb];omega
    .intro q i g;rw[aC,af ac,zaY,af ac,o _ ac g,zaY,af ac];exact Z q i g
  ·-- more operands
   have er:(H.next == r)=false:=zbn ac;refine aK rfl aL aM ?_;simp only[aR];refine aI ?_ (zdn hG k f (O+1) ac ac lo _ r L1 c J ac);rintro v C ⟨⟨j,rfl,U,hc2,V⟩,z,n4,o⟩;have hl4:=zcl f k (O+1) L1;dsimp only[za1];repeat' (first
    |apply Rx.o ?_|fail)
   refine aK rfl aL aM ?_;simp only[aR];refine aI ?_ (zdn hG k f (O+1) ac ac lo C r (zbe f k (O+1) L1).2 c z ac);rintro v H5 ⟨⟨ds,rfl,hd1,hd2,hd3⟩,hr5,n5,o5⟩;have hl5:=zcl f k (O+1) (zbe f k (O+1) L1).2;dsimp only[za1];repeat' (first
    |apply Rx.o ?_|fail)
   refine aK rfl aL aM ?_;simp only[aR];refine aI ?_ (zdn hG k f (O+1) ac ac lo H5 r (zbe f k (O+1) (zbe f k (O+1) L1).2).2 c hr5 ac);rintro v H6 ⟨⟨es,rfl,he1,he2,he3⟩,hr6,n6,o6⟩;have hl6:=zcl f k (O+1) (zbe f k (O+1) (zbe f k (O+1) L1).2).2;dsimp only[za1];have gz:H6.get H.next=some (.cells [.int .i64 0,.int .i64 0,.str [],.int .i64 0,.nilS] 0 true):=by rw[o6 _ ac ac,o5 _ ac ac,o _ ac ac];exact g2
   have kb:=fun H=>YB H U hd1 he1;have e4:(H.next == H6.next)=false:=zbn ac;have gh0:=@wE;have gh1:=@Yz;repeat' (first
    |(apply ai ?_;clear hK K)|apply Rx.o ?_|apply bN ?_|apply aN ?_)
   refine⟨za2,_,(by(try simp only[za4,zbg,Nat.reduceBEq,tyF,zb9,zch, *]);first|done|with_reducible rfl),?_⟩;try simp only[za0]
   rw[af ac,af ac,aj ac]at I;subst I;refine⟨⟨_,rfl,rfl,rfl,?_⟩,?_,?_,?_⟩
   .refine tT (n:=k+1) _ _ _ _ (rk (n:=k+1) (a:=[j,ds,es]) (imm:=0) (tip:=true) (by show H.next<=H6.next;omega) f0 zP aw ⟨⟨U,V.keep (fun q Y=>ac) f0 fun q i g=>by rw[aC,af ac,zaY,af ac,o6 _ ac ac,o5 _ ac ac]⟩,⟨hd1,hd3.keep (fun q Y=>ac) f0 fun q i g=>by rw[aC,af ac,zaY,af ac,o6 _ ac ac]⟩,⟨he1,he3.keep (fun q Y=>ac) f0 fun q i g=>mD⟩,trivial⟩)
   .exact hr6.keep f0 fun q Y=>mD
   .simp only[zbl,zbb];omega
   .intro q i g;rw[aC,af ac,zaY,af ac,o6 _ ac g,o5 _ ac g,o _ ac g];exact Z q i g
  ·-- one operand
   have er:(H.next == r)=false:=zbn ac;refine aK rfl aL aM ?_;simp only[fJ];refine aI ?_ (zdn hG k f (O+1) ac ac lo _ r L1 c (J.keep (dV _) fun q Y=>fS) ac);rintro v C ⟨⟨j,rfl,U,hc2,V⟩,z,n4,o⟩;simp only[zbb]at n4 o V;have g4:C.get H.next=some (.cells [.int .i64 0,.int .i64 0,.str [],.int .i64 0,.nilS] 0 true):=JY
   have g4s:C.get (H.next+1)=some (.cells [.int .i64 20,.int .i64 21] 0 true):=Di;have kb:=fun H=>uc H U hc2;have e4:(H.next == C.next)=false:=zbn ac;have e5:(H.next+1 == C.next)=false:=zbn ac;dsimp only[za1];have gh0:=@J4;have gh1:=@wE;have gh2:=@J3;repeat' (first
    |apply Rx.o ?_|apply bN ?_|(apply zbK ?_;try intro _)|(apply zcr ?_ ?_<;>clear hK K)|apply cr ?_|apply zcX rfl ?_|apply aN ?_)
   .exact zck
   .refine⟨za2,_,(by(try simp only[za4,zbg,Nat.reduceBEq,tyF,zb9,zch, *]);first|done|with_reducible rfl),?_⟩;try simp only[za0]
    rw[af ac,af ac,af ac,aj ac]at I;subst I;refine⟨⟨_,rfl,rfl,rfl,?_⟩,?_,?_,?_⟩
    .refine tT (n:=k+1) _ _ _ _ (rk (n:=k+1) (a:=[j]) (imm:=0) (tip:=true) (by show H.next<=C.next;omega) f0 zP aw ⟨⟨U,V.keep (fun q Y=>ac) f0 fun q i g=>mD⟩,trivial⟩)
    .exact z.keep f0 fun q Y=>mD
    .simp only[zbl,zbb];omega
    .intro q i g;rw[aC,af ac,zaY,af ac,o _ ac g,zaY,af ac];exact Z q i g
  ·-- more operands
   have er:(H.next == r)=false:=zbn ac;refine aK rfl aL aM ?_;simp only[aR];refine aI ?_ (zdn hG k f (O+1) ac ac lo _ r L1 c J ac);rintro v C ⟨⟨j,rfl,U,hc2,V⟩,z,n4,o⟩;have hl4:=zcl f k (O+1) L1;dsimp only[za1];repeat' (first
    |apply Rx.o ?_|fail)
   refine aK rfl aL aM ?_;simp only[aR];refine aI ?_ (zdn hG k f (O+1) ac ac lo C r (zbe f k (O+1) L1).2 c z ac);rintro v H5 ⟨⟨ds,rfl,hd1,hd2,hd3⟩,hr5,n5,o5⟩;have hl5:=zcl f k (O+1) (zbe f k (O+1) L1).2;dsimp only[za1];have gz:H5.get H.next=some (.cells [.int .i64 0,.int .i64 0,.str [],.int .i64 0,.nilS] 0 true):=by rw[o5 _ ac ac,o _ ac ac];exact g2
   have kb:=fun H=>YA H U hd1;have e4:(H.next == H5.next)=false:=zbn ac;have gh0:=@wE;have gh1:=@J3;repeat' (first
    |(apply ai ?_;clear hK K)|apply Rx.o ?_|apply bN ?_|apply aN ?_)
   refine⟨za2,_,(by(try simp only[za4,zbg,Nat.reduceBEq,tyF,zb9,zch, *]);first|done|with_reducible rfl),?_⟩;try simp only[za0]
   rw[af ac,af ac,af ac,af ac]at I;subst I;refine⟨⟨_,rfl,rfl,rfl,?_⟩,?_,?_,?_⟩
   .refine tT (n:=k+1) _ _ _ _ (rk (n:=k+1) (a:=[j,ds]) (imm:=0) (tip:=true) (by show H.next<=H5.next;omega) f0 zP aw ⟨⟨U,V.keep (fun q Y=>ac) f0 fun q i g=>by rw[aC,af ac,zaY,af ac,o5 _ ac ac]⟩,⟨hd1,hd3.keep (fun q Y=>ac) f0 fun q i g=>mD⟩,trivial⟩)
   .exact hr5.keep f0 fun q Y=>mD
   .simp only[zbl,zbb];omega
   .intro q i g;rw[aC,af ac,zaY,af ac,o5 _ ac g,o _ ac g];exact Z q i g
  .refine⟨za2,_,(by(try simp only[za4,zbg,Nat.reduceBEq,tyF,zb9,zch, *]);first|done|with_reducible rfl),?_⟩;try simp only[za0]
   first
   |rw[aj ac,aj ac]at I
   |rw[aj ac,af ac]at I
   subst I;refine kf _ _ ?_ ?_ ?_ _ rfl rfl (rm _ _ _ _)
   .exact J.keep (aA _) fun q Y=>jS
   .simp only[zbl];omega
   .intro q i g;rw[aC,af ac];exact Z q i g
  .refine⟨za2,_,(by(try simp only[za4,zbg,Nat.reduceBEq,tyF,zb9,zch, *]);first|done|with_reducible rfl),?_⟩;try simp only[za0]
   first
   |rw[aj ac,aj ac]at I
   |rw[aj ac,af ac]at I
   subst I;refine kf _ _ ?_ ?_ ?_ _ rfl rfl (rm _ _ _ _)
   .exact J.keep (aA _) fun q Y=>jS
   .simp only[zbl];omega
   .intro q i g;rw[aC,af ac];exact Z q i g
  .refine⟨za2,_,(by(try simp only[za4,zbg,Nat.reduceBEq,tyF,zb9,zch, *]);first|done|with_reducible rfl),?_⟩;try simp only[za0]
   first
   |rw[aj ac,aj ac]at I
   |rw[aj ac,af ac]at I
   subst I;refine kf _ _ ?_ ?_ ?_ _ rfl rfl (rm _ _ _ _)
   .exact J.keep (aA _) fun q Y=>jS
   .simp only[zbl];omega
   .intro q i g;rw[aC,af ac];exact Z q i g
  .refine⟨za2,_,(by(try simp only[za4,zbg,Nat.reduceBEq,tyF,zb9,zch, *]);first|done|with_reducible rfl),?_⟩;try simp only[za0]
   first
   |rw[aj ac,aj ac]at I
   |rw[aj ac,af ac]at I
   subst I;refine kf _ _ ?_ ?_ ?_ _ rfl rfl (rm _ _ _ _)
   .exact J.keep (aA _) fun q Y=>jS
   .simp only[zbl];omega
   .intro q i g;rw[aC,af ac];exact Z q i g
end
section
def tyG4.tyF:=ad @cQ (ad @gU (ad @eK (ad @fj (ad @tC (ad @cW (ad @gJ (ad @eA (@dX))))))))
open tyG4
noncomputable def J5:{c:SC // aD 36 (Try.f28.body.getD .skip)=c}:=by
 refine⟨?_,?_⟩;rotate_left
 .simp only[Try.f28,bP,aD,zby,zbt,zbA,zbB,Nat.blt,Nat.ble];rfl
noncomputable def po:{c:SC // aD 156 (Try.f55.body.getD .skip)=c}:=by
 refine⟨?_,?_⟩;rotate_left
 .simp only[Try.f55,bP,aD,zby,zbt,zbA,zbB,Nat.blt,Nat.ble];rfl
abbrev zbH:=List Int×Int
def eO(step:zbH->St×zbH):Nat->zbH->List St×zbH
 |0,s=>([],s)
 |n+1,s=>if s.1=[]then ([],s)else ((step s).1::(eO step n (step s).2).1,(eO step n (step s).2).2)
def jH(f:Int):Nat->List Int->List Ex×List Int
 |0,L=>([],L)
 |n+1,L=>((zbe f 3 2 L).1::(jH f n (zbe f 3 2 L).2).1,(jH f n (zbe f 3 2 L).2).2)
def zc5:Ex:=.mk 0 0 [] 0 []
def jF(m:Int):List UInt8:=if m.tmod 2=0 then [102]else [103]
def zcG(C:Int->zbH->List St×zbH)(f:Int)(L:List Int)(c q m:Int):St×zbH:=
 if q<6 then (.mk 1 ((zbz f).getD (m.tmod (zbz f).length).toNat []) [] 0 zc5 (zbe f 5 0 L).1 [] [] [],((zbe f 5 0 L).2,c))
 else if q<8 then (.mk 2 (qk m) [] 0 (zbe f 3 2 L).1 (zbe f 4 1 (zbe f 3 2 L).2).1 [] [] [],((zbe f 4 1 (zbe f 3 2 L).2).2,c))
 else if q<10 then (.mk 3 [] [] 0 zc5 (zbe f 4 1 L).1 [] (C 3 ((zbe f 4 1 L).2,c)).1 (C 2 (C 3 ((zbe f 4 1 L).2,c)).2).1,(C 2 (C 3 ((zbe f 4 1 L).2,c)).2).2)
 else if q<12 then (.mk 4 [] [] 0 zc5 (zbe f 4 1 L).1 [] (C 3 ((zbe f 4 1 L).2,b9 (c+1))).1 [],(C 3 ((zbe f 4 1 L).2,b9 (c+1))).2)
 else if q<14 then (.mk 5 [] [] 0 zc5 (zbe f 4 1 L).1 [] [] [],((zbe f 4 1 L).2,c))
 else if q<15 then (.mk 6 ((zbz f).getD (m.tmod (zbz f).length).toNat []) (jF m) 0 zc5 zc5 (jH f (2-m.tmod 2).toNat L).1 [] [],((jH f (2-m.tmod 2).toNat L).2,c))
 else (.mk 7 [] [] m zc5 zc5 [] [] [],(L,c))
def sR(deep:Nat)(c O:Int):Int:=if ((2:Int)<deep/\8<=O/\O<12)\/(10<=c/\10<=O)then 0 else O
def rv(C:Int->zbH->List St×zbH)(f:Int)(deep:Nat)(s:zbH):St×zbH:=
 zcG C f (zbo s.1).2 s.2 (sR deep s.2 (zbD (zbo s.1).1 16)) (zbD (b9 ((zbo s.1).1.tdiv 16)) 1000)
def zcD(f:Int):Nat->Nat->zbH->St×zbH
 |0,_,s=>(.mk 0 [] [] 0 zc5 zc5 [] [] [],s)
 |k+1,deep,s=>rv (fun i s=>eO (zcD f k (deep+1)) (zbD (zbo s.1).1 (i+1)).toNat ((zbo s.1).2,s.2)) f deep s
def jl(f:Int)(k deep:Nat)(i:Int)(s:zbH):List St×zbH:=eO (zcD f k deep) (zbD (zbo s.1).1 (i+1)).toNat ((zbo s.1).2,s.2)
theorem wF{step:zbH->St×zbH}(h:∀s,(step s).2.1.length<=s.1.length):∀(n:Nat) (s:zbH),(eO step n s).2.1.length<=s.1.length
 |0,_=>aA _
 |n+1,s=>by
  rw[eO];split
  .exact aA _
  .exact cm (wF h n _) (h s)
theorem Dk(f:Int):∀(n:Nat) (L:List Int),(jH f n L).2.length<=L.length
 |0,_=>aA _
 |n+1,L=>cm (Dk f n _) (zcl f 3 2 L)
theorem YC{C:Int->zbH->List St×zbH}(h2:∀(i:Int) (s:zbH),(C i s).2.1.length<=s.1.length)(f:Int)(deep:Nat)(s:zbH):(rv C f deep s).2.1.length<=s.1.length:=by
 have h:=zdm s.1;have Y:=zcl f 4 1 (zbo s.1).2;have Z:=zcl f 5 0 (zbo s.1).2;have g:=zcl f 3 2 (zbo s.1).2;have V:=zcl f 4 1 (zbe f 3 2 (zbo s.1).2).2;rw[rv,zcG];generalize sR deep s.2 (zbD (zbo s.1).1 16)=q;by_cases c1:q<6
 .rw[aj c1];exact cm Z h
 rw[af c1];by_cases U:q<8
 .rw[aj U];exact cm V (cm g h)
 rw[af U];by_cases o:q<10
 .rw[aj o];exact cm (h2 _ _) (cm (h2 _ _) (cm Y h))
 rw[af o];by_cases O:q<12
 .rw[aj O];exact cm (h2 _ _) (cm Y h)
 rw[af O];by_cases M:q<14
 .rw[aj M];exact cm Y h
 rw[af M];by_cases L:q<15
 .rw[aj L];exact cm (Dk f _ _) h
 rw[af L];exact h
theorem wG(f:Int):∀(k O:Nat) (s:zbH),(zcD f k O s).2.1.length<=s.1.length
 |0,_,_=>aA _
 |k+1,O,s=>YC (fun i s=>cm (wF (wG f k (O+1)) _ _) (zdm s.1)) f O s
def ud(k:Int)(nm M:List UInt8)(n:Int)(a v:List AV)(Y i j:AV):List AV:=[.int .i64 k,.str nm,.str M,.int .i64 n]++a++v++[Y,i,j]
theorem qn{S:Nat->Prop}{n:Nat}{H:Hp}(k:Int)(nm M:List UInt8)(g:Int){a v:List AV}{O U:Ex}{Y i j:AV}{al:List Ex}{Z V:List St}(L:zbI S (n+1) H a O.cells)(K:zbI S (n+1) H v U.cells)(h1:dB S (n+1) H Y (.lst (al.map Ex.cells)))(h2:dB S (n+1) H i (.lst (Z.map St.cells)))(m:dB S (n+1) H j (.lst (V.map St.cells))):
 zbI S (n+1) H (ud k nm M g a v Y i j) (St.mk k nm M g O U al Z V).cells:=by
 have e:(St.mk k nm M g O U al Z V).cells=[.int .i64 k,.str nm,.str M,.int .i64 g]++O.cells++U.cells++[.lst (al.map Ex.cells),.lst (Z.map St.cells),.lst (V.map St.cells)]:=by
  rw[qM,mh,mh];rfl
 rw[e];exact(((zbI.cons (.int _ _) (.cons (.str _) (.cons (.str _) (.cons (.int _ _) .nil)))).append L).append K).append (.cons h1 (.cons h2 (.cons m .nil)))
def zdP:List AV:=[.int .i64 0,.int .i64 0,.str [],.int .i64 0,.nilS]
theorem rx{S:Nat->Prop}{n:Nat}{H:Hp}:zbI S (n+1) H zdP zc5.cells:=rm 0 0 0 []
theorem YD(nm:List UInt8){v:List AV}(h:v.length=5):zb5 Try.prog 55 [(0,.int .i64 1),(1,.str nm),(5,.agg v)]=some (.agg (ud 1 nm [] 0 zdP v .nilS .nilS .nilS)):=by
 obtain⟨a,b,c,d,e,rfl⟩:=jk h;kernel_rfl
theorem YE(nm:List UInt8){a v:List AV}(h:a.length=5)(k:v.length=5):zb5 Try.prog 55 [(0,.int .i64 2),(1,.str nm),(4,.agg a),(5,.agg v)]=some (.agg (ud 2 nm [] 0 a v .nilS .nilS .nilS)):=by
 obtain⟨a,b,c,d,e,rfl⟩:=jk h;obtain⟨i,Y,c',m,U,rfl⟩:=jk k;kernel_rfl
theorem YF(k:Int){v:List AV}(h:v.length=5):zb5 Try.prog 55 [(0,.int .i64 k),(5,.agg v)]=some (.agg (ud k [] [] 0 zdP v .nilS .nilS .nilS)):=by
 obtain⟨a,b,c,d,e,rfl⟩:=jk h;kernel_rfl
theorem YG(nm M:List UInt8):zb5 Try.prog 55 [(0,.int .i64 6),(1,.str nm),(2,.str M)]=some (.agg (ud 6 nm M 0 zdP zdP .nilS .nilS .nilS)):=ah
theorem YH(n:Int):zb5 Try.prog 55 [(0,.int .i64 7),(3,.int .i64 n)]=some (.agg (ud 7 [] [] n zdP zdP .nilS .nilS .nilS)):=ah
theorem YI{cs:List AV}(h:cs.length=17):zbJ 17 cs=some (.agg cs):=by
 unfold zbJ;rw[eI ac,aj h]
theorem YJ{cs:List AV}(h:cs.length=17):∃c0 c1 C o Z g i M V Y U L J O K j I,cs=[c0,c1,C,o,Z,g,i,M,V,Y,U,L,J,O,K,j,I]:=by
 match cs,h with
 |[c0,c1,C,o,Z,g,i,M,V,Y,U,L,J,O,K,j,I],_=>exact⟨c0,c1,C,o,Z,g,i,M,V,Y,U,L,J,O,K,j,I,rfl⟩
theorem Dl(H:Hp){cs:List AV}(h:cs.length=17):zcv Try.prog H 48 1 [(0,.agg cs)]=some (.sl H.next 0 1 17,H.alloc (.cells cs 0 true)):=by
 obtain⟨c0,c1,C,o,Z,g,i,M,V,Y,U,L,J,O,K,j,I,rfl⟩:=YJ h;kernel_rfl
def YK(z n lo:Nat)(H:Hp)(r:Nat)(O:List (List AV))(L:List Int)(c:Int)(v:AV)(H':Hp):Prop:=
 zbN (fun q=>H.next<=q) n H' z v O/\ge lo H' r L c/\H.next<=H'.next/\∀q,q<H.next->q≠r->H'.get q=H.get q
theorem ge.len{lo:Nat}{H:Hp}{r:Nat}{L:List Int}{c:Int}(h:ge lo H r L c):∃v,H.get r=some (.cells [v,.int .i64 c] 0 true)/\∀H',zbO Try.prog H' 23 v=some (.int .i64 L.length):=by
 obtain⟨_,_,v,i,g⟩:=h;refine⟨v,i,fun H'=>?_⟩;rcases g with⟨rfl,rfl⟩|⟨b,K,Y,Z,rfl,_⟩
 .exact zdr Try.underlying23 _
 .exact zdk Try.underlying23 _ _ _ _
def nE(L:List En)(k:Nat)(f:Int)(deep:Nat):Prop:=∀(O:Nat) (H:Hp) (r:Nat) (s:zbH),ge O H r s.1 s.2->s.1.length<2^60 ->
 za9 Try.prog (za3 pls L) 55 [.ptr r 0,.int .i64 f,.int .i64 deep] H (wD 17 (8+k) O H r (zcD f k deep s).1.cells (zcD f k deep s).2.1 (zcD f k deep s).2.2)
set_option maxRecDepth 100000 in
theorem wH{lG:List En}(hG:GenL lG){k:Nat}{f:Int}{deep:Nat}(hst:nE lG k f deep)(Z:Int)(h0:0<=Z)(h1:Z<=5)(lo:Nat)(H:Hp)(r:Nat)(s:zbH)(L:ge lo H r s.1 s.2)(hL:s.1.length<2^60):
 za9 Try.prog (za3 pls lG) 28 [.ptr r 0,.int .i64 f,.int .i64 deep,.int .i64 Z] H (YK 17 (8+k) lo H r ((jl f k deep Z s).1.map St.cells) (jl f k deep Z s).2.1 (jl f k deep Z s).2.2):=by
 have hw:Plain (za3 pls lG) 28:=hG.plain cN;have I:(za3 pls lG).keep 28=false:=rfl;have hnx:Plain (za3 pls lG) 27:=hG.plain cN;have hrl:=L.1;have hlo:=L.2.1;have hw1:IntKind.wrap .i64 (Z+1)=Z+1:=mr ac ac;rw[jl];refine zbs (M:=36) (rs:=[.tmp 8]) (hw.call _) hw.ice hw.froz Try.func28 rfl rfl J5.2 rfl ?_;dsimp only[J5,zbj,Nat.reduceAdd];repeat' (first
  |(apply ai ?_;clear hK K)|apply Rx.o ?_|apply aq ?_|(apply zaW fun K hK=>?_)|fail)
 refine aK rfl aL aM ?_;simp only[aR];refine aI ?_ (zn hnx L hL);rintro v H2 ⟨rfl,hr2,n2,o2⟩;have hL1:=zdm s.1;generalize (zbo s.1).1=n at *;generalize (zbo s.1).2=L1 at *;have hm1:Z+1≠0:=ac;have hp:=zds (n:=n) (m:=Z+1) ac ac;generalize hc:(zbD n (Z+1)).toNat=C at *;have hpc:zbD n (Z+1)=(C:Int):=ac;dsimp only[za1];repeat' (first
  |(apply ai ?_;clear hK K)|apply Rx.o ?_|(apply mn ?_;first|refine zbV (tS hG.pick _ _ hm1 _) ?_)|apply aO ?_|fail)
 refine U5 [0,1,2,8] [] (fun i E Y=>i<=C/\E.at 10=.int .i64 i/\∃v l V,E.at 9=v/\zbN (fun q=>H.next<=q) (8+k) Y 17 v (l.map St.cells)/\ge lo Y r V.1 V.2/\(∀q,q<H.next->q≠r->Y.get q=H.get q)/\l.length+i=C/\V.1.length<2^60 /\
  eO (zcD f k deep) C (L1,s.2)=(l++(eO (zcD f k deep) i V).1,(eO (zcD f k deep) i V).2)) C ⟨aA _,B8,.nilS,[],(L1,s.2),eE,.inl ⟨rfl,rfl⟩,hr2,fun q h1 U=>o2 q U,aw,wB,aw⟩ ?_
 rintro i E Y hcE hrH hnH ⟨hic,hsI,v,l,V,k9,g,J,o3,hli,hsl,hJ⟩;(try simp only[zbR,zbq,br,za4,zbg,Nat.reduceBEq, *]at hcE);obtain⟨lv,hgr,hlen⟩:=J.len;have hle:H.next<=Y.next:=ac
 repeat' (first
  |(apply ai ?_;clear hK K)|apply Rx.o ?_|(apply da (fun hg hgp=>?_) (fun hg hgp=>?_)<;>try(cases hg;done))|(apply bu (fun hb hbp=>?_) (fun hb hbp=>?_)<;>try(cases hb;done))|apply aq ?_|(apply zaW fun K hK=>?_)|apply aO ?_|apply za8 ?_|apply aN ?_|apply zbW ?_)
 .refine aK rfl aL aM ?_;simp only[aR];refine aI ?_ (hst lo Y r V J hsl);rintro v' H4 ⟨⟨cs,rfl,hc1,hc2,hc3⟩,hr4,n4,o4⟩;have kb:=fun H=>Dl H hc1;dsimp only[za1];repeat' (first
   |apply Rx.o ?_|fail)
  have hvq:∀q o m O,v=.sl q o m O->H.next<=q/\q<Y.next:=fun q o m O e=>by
   rcases g with⟨rfl,_⟩|⟨q',imm,rows,rfl,e1,e2,_⟩
   .cases e
   .simp only[AV.sl.injEq]at e;rw[<-e.1];exact⟨e1,e2⟩
  have z:zbN (fun q=>H.next<=q) (8+k) (H4.alloc (.cells cs 0 true)) 17 v (l.map St.cells):=g.keep (fun q _ h=>h) eU fun q h1 U=>by rw[zaY,af ac,o4 q U ac]
  obtain⟨v5,H5,a5,s5,n5,f5,q5⟩:=oh (P:=Try.prog) (t:=48) Try.underlying48 vC yf yg rfl ah z eU (r:=H4.next) (imm:=0) (row:=cs) (w:=(zcD f k deep V).1.cells) lY hc1 hc2 (hc3.keep2 (fun q h1 U=>⟨ac,fun o m O e=>by have:=(hvq q o m O e).2;omega⟩) (dV _) fun q h1 U=>fS) zM zM;refine qL eV eV (by rw[I];exact a5) ?_;have hi0:0<i:=ac;obtain⟨i,rfl⟩:∃j,i=j+1:=⟨i-1,ac⟩;have hwd:IntKind.wrap .i64 (((i+1:Nat):Int)-1)=(i:Int):=by rw[mr ac ac];omega
  simp only[zbb]at n5 f5;have n5':Y.next<=H5.next:=ac
  have o5:∀q,q<H.next->q≠r->H5.get q=H.get q:=fun q h1 U=>by rw[f5 q ac (fun o m O e=>by have:=(hvq q o m O e).1;omega),zaY,af ac,o4 q ac U,o3 q h1 U]
  have hr5:ge lo H5 r (zcD f k deep V).2.1 (zcD f k deep V).2.2:=hr4.keep ac fun q hq=>by rw[f5 q ac (fun o m O e=>by have:=(hvq q o m O e).1;omega),zaY,af ac]
  clear n5 f5 a5 z o4 hr4;repeat' (first
   |(apply ai ?_;clear hK K)|apply Rx.o ?_|(apply zaW fun K hK=>?_)|fail)
  have hne:V.1≠[]:=by
   intro e;have:V.1.length=0:=by rw[e];rfl
   omega
  have hsd:=wG f k deep V;refine⟨(by simp only[zbR,zbq,br,za4,zbg,Nat.reduceBEq, *]),(by simp only[zbq]),ac,i,cJ _,ac,eE,v5,l++[(zcD f k deep V).1],(zcD f k deep V).2,eE,by rw[jJ];exact s5,hr5,o5,cc,ac,?_⟩;rw[hJ,eO,af hne];simp
 all_goals
  all_goals (refine⟨za2,_,za7,?_⟩;try simp only[za0])
  have hfin:eO (zcD f k deep) i V=([],V):=by
   rcases(by omega:i=0\/V.1.length=0)with h|h
   .rw[h];rfl
   .cases i with
    |zero=>rfl
    |succ i=>rw[eO,aj (List.eq_nil_of_length_eq_zero h)]
  rw[hJ,hfin];exact⟨by rw[aR];exact g,J,hle,o3⟩
end
section
theorem ry{m:Int}(h:0<=m):[AV.str [102],AV.str [103]][(m.tmod 2).toNat]?=some (.str (jF m)):=by
 rw[Dj h,jF];split<;>rfl
theorem YL{P:Program}{cfg:Cfg}{f N:Nat}{a:SC}{E:au}{H:Hp}{Q:AX->au->Hp->Prop}(F:au->Hp->Prop)(h1:zbu P cfg f N a E H fun x E' H'=>x=.normal/\F E' H')(h2:∀E' H',F E' H'->Q .normal E' H'):zbu P cfg f N a E H Q:=
 zbu.mono (fun x E' H' h=>by obtain⟨rfl,h⟩:=h;exact h2 E' H' h) h1
theorem ge.tick{lo:Nat}{H:Hp}{r:Nat}{L:List Int}{c:Int}(h:ge lo H r L c):∃v,H.get r=some (.cells [v,.int .i64 c] 0 true)/\∀c',ge lo (H.set r (.cells [v,.int .i64 c'] 0 true)) r L c':=by
 obtain⟨J,i,v,Y,g⟩:=h;refine⟨v,Y,fun c'=>⟨J,i,v,gE,?_⟩⟩;rcases g with g|⟨b,K,V,Z,U,O,M,C,I⟩
 .exact .inl g
 .exact .inr ⟨b,K,V,Z,U,by rw[aC,af C];exact O,M,C,I⟩
theorem YM(nm:List UInt8)(J o C V j:AV):zb5 Try.prog 55 [(0,.int .i64 1),(1,.str nm),(5,.agg [J,o,C,V,j])]=some (.agg [.int .i64 1,.str nm,.str [],.int .i64 0,.int .i64 0,.int .i64 0,.str [],.int .i64 0,.nilS,J,o,C,V,j,.nilS,.nilS,.nilS]):=YD nm rfl
theorem YN(nm:List UInt8)(zbp C z Z o J Y V U j:AV):zb5 Try.prog 55 [(0,.int .i64 2),(1,.str nm),(4,.agg [zbp,C,z,Z,o]),(5,.agg [J,Y,V,U,j])]=some (.agg [.int .i64 2,.str nm,.str [],.int .i64 0,zbp,C,z,Z,o,J,Y,V,U,j,.nilS,.nilS,.nilS]):=YE nm rfl rfl
theorem J6(k:Int)(J o C V j:AV):zb5 Try.prog 55 [(0,.int .i64 k),(5,.agg [J,o,C,V,j])]=some (.agg [.int .i64 k,.str [],.str [],.int .i64 0,.int .i64 0,.int .i64 0,.str [],.int .i64 0,.nilS,J,o,C,V,j,.nilS,.nilS,.nilS]):=YF k rfl
theorem YO(nm M:List UInt8):zb5 Try.prog 55 [(0,.int .i64 6),(1,.str nm),(2,.str M)]=some (.agg [.int .i64 6,.str nm,.str M,.int .i64 0,.int .i64 0,.int .i64 0,.str [],.int .i64 0,.nilS,.int .i64 0,.int .i64 0,.str [],.int .i64 0,.nilS,.nilS,.nilS,.nilS]):=YG nm M
theorem J7(n:Int):zb5 Try.prog 55 [(0,.int .i64 7),(3,.int .i64 n)]=some (.agg [.int .i64 7,.str [],.str [],.int .i64 n,.int .i64 0,.int .i64 0,.str [],.int .i64 0,.nilS,.int .i64 0,.int .i64 0,.str [],.int .i64 0,.nilS,.nilS,.nilS,.nilS]):=YH n
theorem J8(c0 c1 C o Z g i M V Y U L J O K j I:AV):zbJ 17 [c0,c1,C,o,Z,g,i,M,V,Y,U,L,J,O,K,j,I]=some (.agg [c0,c1,C,o,Z,g,i,M,V,Y,U,L,J,O,K,j,I]):=rfl
theorem J9:zbU Try.prog 55=some [.int .i64 0,.str [],.str [],.int .i64 0,.int .i64 0,.int .i64 0,.str [],.int .i64 0,.nilS,.int .i64 0,.int .i64 0,.str [],.int .i64 0,.nilS,.nilS,.nilS,.nilS]:=ah
theorem rz{a b c d e:AV}(h:[a,b,c,d,e].all AV.one=true):AV.one a=true/\AV.one b=true/\AV.one c=true/\AV.one d=true/\AV.one e=true:=by
 simp only[pV,rr,gm,bT]at h;exact⟨h.1,h.2.1,h.2.2.1,h.2.2.2.1,h.2.2.2.2⟩
theorem sU{lo:Nat}{H:Hp}{r n:Nat}{M:Hp}{L:List Int}{c:Int}{cs:List AV}{x:St}(K:cs.length=17)(O:cs.all AV.one=true)(V:zbI (fun q=>H.next<=q) n M cs x.cells)(hr:ge lo M r L c)(U:H.next<=M.next)(Y:∀q,q<H.next->q≠r->M.get q=H.get q):wD 17 n lo H r x.cells L c (.agg cs) M:=⟨⟨cs,rfl,K,O,V⟩,hr,U,Y⟩
def mH:SC->SC
 | .seq _ b=>b
 |x=>x
noncomputable def lO:SC:=mH (mH (mH (mH (mH (mH po.1)))))
noncomputable def pp(f:Int)(k deep:Nat):Int->zbH->List St×zbH:=fun i s=>eO (zcD f k (deep+1)) (zbD (zbo s.1).1 (i+1)).toNat ((zbo s.1).2,s.2)
structure AtT (f:Int) (deep lo:Nat) (H H2:Hp) (r:Nat) (L1:List Int) (c q m:Int) (E2:au):Prop where
 hd:deep<=3
 hrl:r<lo
 hlo:lo<=H.next
 n2:H2.next=H.next+1
 g2:H2.get H.next=some (.cells [.int .i64 0,.str [],.str [],.int .i64 0,.int .i64 0,.int .i64 0,.str [],.int .i64 0,.nilS,.int .i64 0,.int .i64 0,.str [],.int .i64 0,.nilS,.nilS,.nilS,.nilS] 0 true)
 o2:∀q,q<H.next->q≠r->H2.get q=H.get q
 hr2:ge lo H2 r L1 c
 hL:L1.length<2^60
 hm:0<=m/\m<1000
 hqd:8<=q->q<12->deep<=2
 k0:E2.at 0=.ptr r 0
 k1:E2.at 1=.int .i64 f
 k2:E2.at 2=.int .i64 deep
 k6:E2.at 6=.ptr H.next 0
 k8:E2.at 8=zbP (zbz f)
 k9:E2.at 9=.int .i64 m
 k10:E2.at 10=.int .i64 q
def lP(k:Nat)(f:Int)(deep lo:Nat)(H:Hp)(r:Nat)(L:List Int)(c q m:Int):AX->au->Hp->Prop:=fun x E' H'=>(x=.normal\/x=.ret)/\∃vs,zb9 Try.prog E' H' [.cell 6 55]=some vs/\wD 17 (8+(k+1)) lo H r (zcG (pp f k deep) f L c q m).1.cells (zcG (pp f k deep) f L c q m).2.1 (zcG (pp f k deep) f L c q m).2.2 (za0 vs) H'
noncomputable def Dm:En:=⟨22,true,dA (fun p=>p.sz<2^36) fc fun p=>.int .i64 (zc2 p)⟩
theorem YP(ρ:Nat->Int):fk Try.prog ρ Dm:=zcQ fun p hp=>Yr ρ p hp
def tyLoL.tyF:=ad @cQ (ad @cW (ad @gU (ad @qN (ad @lx (ad @ye (ad @BX (ad @kQ (ad @BY (ad @ly (ad @gI (ad @sm (ad @gJ (ad @eK (ad @dX (ad @lA (ad @oM (ad @ml (@nW))))))))))))))))))
open tyLoL
noncomputable def zU:{c:SC // aD 84 (Try.f15.body.getD .skip)=c}:=by
 refine⟨?_,?_⟩;rotate_left
 .simp only[Try.f15,bP,aD,zby,zbt,zbA,zbB,Nat.blt,Nat.ble];rfl
theorem Ka:∀(l:List za5) (i:Nat) (m:List (za5×Int)),l.Nodup->∀M,dK (dS l i m) M=if zbx l M=true then ((i+bS l M:Nat):Int)else dK m M
 |[],i,m,_,M=>rfl
 |a::l,i,m,h,M=>by
  obtain⟨Z,g⟩:=List.nodup_cons.1 h;have J:zbx (a::l) M=(decide (a=M)||zbx l M):=rfl;rw[dS,Ka l (i+1) _ g M,J];by_cases e:a=M
  .subst e;have hn:zbx l a=false:=by
    rw[zbx,uX];intro x I hd;exact Z (by rw[<-oT hd];exact I)
   rw[hn,af aw,sy,aj rfl,lD rfl,nQ,aj rfl,bS,aj rfl,pG]
  .rw[mp e,jv,bS,af e];by_cases c:zbx l M=true
   .rw[aj c,aj c,aj c,show i+1+bS l M=i+(bS l M+1) by omega]
   .rw[af c,af c,sy,af (fun h=>e h.symm)]
theorem YQ:∀(l:List za5) (M:za5),zbx l M=false->bS l M=0
 |[],_,_=>rfl
 |a::l,M,h=>by
  have J:zbx (a::l) M=(decide (a=M)||zbx l M):=rfl;rw[J,iC,kR]at h;rw[bS,af h.1,h.2];rfl
theorem Kb{l:List za5}(h:l.Nodup)(nm:za5):dK (dS l 0 []) nm=bS l nm:=by
 rw[Ka l 0 [] h nm];by_cases c:zbx l nm=true
 .rw[aj c,b4]
 .rw[af c,YQ l nm (by simpa using c)];rfl
theorem Valid.fnNames{p:Pr}(h:Valid p){f:Fu}(Z:f∈p.funcs):(f.params++f.locals).Nodup:=by
 have hd:=h.du;rw[n1,yP,iC,iC]at hd;have:=uX.1 hd.2.2 f Z;exact CL _ _ (by simpa using this)
theorem YR{p:Pr}(M:Valid p){f:Fu}(Z:f∈p.funcs){X:Lx}(Y:X.p=p)(O:X.ae=dS (p.arrays.map (·.name)) 0 [])(I:X.fe=jh p.funcs 0 []):CxOk (X.nx (dS (f.params++f.locals) 0 [])) (ik p f) where
 ar:=Y▸rfl
 ae nm:=by
  show dK X.ae nm=_;rw[O];exact Kb M.nodup nm
 ne nm:=Kb (M.fnNames Z) nm
 fe nm h:=by
  show dK X.fe nm=_;rw[I];exact HL nm p.funcs [] 0 [] M.names.2 h
theorem LowT.of{g:List En}(h:∀e∈g,C6 e.f=false):LowT g:=⟨fun f hf=>by
 have L:∀e∈g,Nat.beq e.f f=false:=fun e U=>by
  cases o:Nat.beq e.f f with
  |false=>rfl
  |true=>rw[<-hM o,h e U]at hf;cases hf
 clear h;induction g with
 |nil=>exact⟨fun _=>rfl,rfl⟩
 |cons e l ih=>
  obtain⟨M,O⟩:=ih fun x I=>L x (fH _ I)
  have U:=L e eQ;exact⟨fun Z=>by simp only[zcu,U];exact M Z,by simp only[lB]at O⊢;simp only[U,];exact O⟩⟩
theorem YS{l:List za5}{i:Nat}(h:i<l.length):dS (l.take (i+1)) 0 []=setV (dS (l.take i) 0 []) l[i] (i:Int):=by
 rw[kI,aY h];show dS (l.take i++[l[i]]) 0 []=_;rw[zF,jr,tu ac,b4]
theorem Kc:∀(l:List Fu) (f:Fu) (i:Nat) (m:List (za5×Int)),jh (l++[f]) i m=setV (jh l i m) f.name ((i+l.length:Nat):Int)
 |[],f,i,m=>rfl
 |b::l,f,i,m=>by
  rw[nX,jh,Kc l f (i+1),jh,cS,show i+1+l.length=i+(l.length+1) by omega]
theorem YT{l:List Fu}{i:Nat}(h:i<l.length):jh (l.take (i+1)) 0 []=setV (jh (l.take i) 0 []) (l[i]).name (i:Int):=by
 rw[kI,aY h];show jh (l.take i++[l[i]]) 0 []=_;rw[Kc,jr,tu ac,b4]
def Dn(p:Pr)(n:Nat):Prop:=∀f∈p.funcs,∃s v,dR (ik p f) n f.body (zc3 f)=some s/\di (ik p f) n f.value s=some v/\Fin v.2
def zV(H':Hp)(u:Un)(e:Int)(v:AV):Prop:=∃Z S,v=.tup [.agg Z,.int .i64 e]/\zbI S 5 H' Z u.cells
theorem YU(H:Hp)(l:List Ar)(K:l.length<2^36):∃U H',zcg Try.prog false H 32 32 .nilS (.lst (l.map Ar.cells))=some (U,H')/\zbN (fun k=>H.next<=k) 1 H' 2 U (l.map Ar.cells)/\H.next<=H'.next/\(∀k,k<H.next->H'.get k=H.get k):=by
 have j:∀x∈l.map Ar.cells,x.length=2:=fun x I=>by obtain⟨a,_,rfl⟩:=kJ.1 I;exact a.clen
 have I:=WN (H:=H) j;rw[cD]at I;by_cases c:l=[]
 .subst c;refine⟨.nilS,H,?_,.inl ⟨rfl,rfl⟩,aA _,fun _ _=>rfl⟩;simp only[zcg,Try.underlying32,vD,yh,yj,show jp Try.prog 32=true by kernel_rfl,ed,I]
 .obtain⟨m,V⟩:∃m,l.length=m+1:=⟨l.length-1,by have:=tH.2 c;omega⟩;rw[V]at I;refine⟨.sl H.next 0 (m+1) 2,H.alloc (.cells (l.map Ar.cells).flatten 0 true),append_nil Try.underlying32 vD yh yj ah I (Ix l) rfl JX JX,.inr ⟨H.next,0,l.map Ar.cells,by rw[cD,V],aA _,cJ _,lY,dg _,Iw l⟩,dV _,fun k Z=>fS⟩
theorem YV(H:Hp){cs:List AV}(h:cs.length=5)(h1:cs.all AV.one=true):zcv Try.prog H 31 1 [(0,.agg cs)]=some (.sl H.next 0 1 5,H.alloc (.cells cs 0 true)):=by
 obtain⟨a,b,c,d,e,rfl⟩:=jk h;kernel_rfl
theorem YW(p:Pr)(j rn:Nat):zb5 Try.prog 84 [(0,.agg p.cells),(1,.map 2),(2,.map 3),(4,.map j),(5,.map rn)]=some (.agg [.lst (p.arrays.map Ar.cells),.lst (p.funcs.map Fu.cells),.map 2,.map 3,.nilS,.map j,.map rn,.nilS,.int .i64 0,.int .i64 0]):=ah
theorem YX{S:Nat->Prop}{H:Hp}{V:AV}{l:List Nd}(nm:List UInt8)(np v st:Int)(h:zbN S 2 H 3 V (l.map Nd.cells)):zbI S 3 H [.str nm,.int .i64 np,V,.int .i64 v,.int .i64 st] (Gr.mk nm np l v st).cells:=
 .cons (.str _) (.cons (.int _ _) (.cons h.rd (.cons (.int _ _) (.cons (.int _ _) .nil))))
structure Smr (n:Nat) (H H':Hp):Prop where
 get:∀k,4<=k->k<n->H'.get k=H.get k
set_option maxRecDepth 100000 in
theorem YY{tb:List En}(hG:LowT tb)(hC:∀ar,zcu tb 22 ar=Dm.sp ar)(hL:Plain (za3 pls tb) 15)(p:Pr){n:Nat}(hz:p.sz<2^34)(hok:zc2 p=0->Dn p n){u:Un}{e:Int}(h:qd p n=some (u,e)):
 za9 Try.prog (za3 pls tb) 15 [.agg p.cells] zbk (fun v H'=>zV H' u e v):=by
 have hw:=hL;have hkeep:(za3 pls tb).keep 15=false:=rfl;have hchk:∀H,za9 Try.prog (za3 pls tb) 22 [.agg p.cells] H fun v H'=>v=.int .i64 (zc2 p)/\H'=H:=fun H=>zcz (enc:=fc) (ok:=fun p=>p.sz<2^36) (out:=fun p=>.int .i64 (zc2 p)) p6 (x:=p) (hC _) ac;have hpz:p.sz=1+zcU p.arrays+fV p.funcs:=rfl;have hla:=qP p.arrays;have hlf:=qO p.funcs;unfold qd at h;by_cases hc:zc2 p=0
 .rw[aj hc]at h;have hv:=Wc hc;have hok:=hok hc;obtain⟨av,Y,aa,ra,na,qa⟩:=YU ((((zbk.alloc (.cells p.cells 0 true)).alloc (.cells [.nilS,.nilS] 0 true)).alloc (.map [])).alloc (.map [])) p.arrays ac;obtain⟨ha1,ha2⟩:=ra.one;have bUn:zb5 Try.prog 34 [(0,av)]=some (.agg [av,.nilS]):=by
   rcases ra with⟨rfl,_⟩|⟨q,im,rows,rfl,_⟩<;>kernel_rfl
  have bUn0:zb5 Try.prog 34 []=some (.agg [.nilS,.nilS]):=ah;have na4:4<=Y.next:=na
  have q0:Y.get 0=some (.cells p.cells 0 true):=by rw[qa 0 zN];simp[zaY,zbb,zb4]
  have q1:Y.get 1=some (.cells [.nilS,.nilS] 0 true):=by rw[qa 1 zN];simp[zaY,zbb,zb4]
  have q2:Y.get 2=some (.map []):=by rw[qa 2 zN];simp[zaY,zbb,zb4]
  have q3:Y.get 3=some (.map []):=by rw[qa 3 zN];simp[zaY,zbb,zb4]
  have ra':zbN (fun k=>4<=k/\k<Y.next) 1 Y 2 av (p.arrays.map Ar.cells):=ra.keep (fun k h1 g=>⟨g,h1⟩) (aA _) fun _ _ _=>rfl;have q0s:∀b c,((Y.alloc b).set Y.next c).get 0=some (.cells p.cells 0 true):=fun b c=>by rw[aC,af ac,zaY,af ac];exact q0
  refine zbs (M:=84) (rs:=[.cell 2 34,.tmp 3]) (hw.call _) hw.ice hw.froz Try.func15 rfl rfl zU.2 rfl ?_;dsimp only[zU,zbj,Nat.reduceAdd];repeat' (first
   |(apply ai ?_;clear hK K)|apply Ry.o ?_|apply dD ?_|(apply jb ?_;first|refine zbV (hchk _) ?_)|(apply bi (fun V z=>?_) (fun V z=>?_)<;>try(cases V;done))|apply aq ?_|(apply zaW fun K hK=>?_)|apply aO ?_|apply za8 ?_|fail)
  clear aa qa ra na q0s;have gs:∀k,k<Y.next->((Y.alloc (.cells [.nilS,.nilS] 0 true)).set Y.next (.cells [av,.nilS] 0 true)).get k=Y.get k:=fun k U=>mD
  refine zcj [1,2,3,5,6,7,29,30] [] 31 p.arrays.length (fun i E Hi=>Hi.get 0=some (.cells p.cells 0 true)/\Hi.get 1=some (.cells [.nilS,.nilS] 0 true)/\Hi.get 2=some (.map (cE (dS ((p.arrays.map (·.name)).take i) 0 [])))/\Hi.get 3=some (.map [])/\Hi.get Y.next=some (.cells [av,.nilS] 0 true)/\Smr Y.next Y Hi) eE ⟨by rw[gs _ ac];exact q0,by rw[gs _ ac];exact q1,by rw[gs _ ac];exact q2,by rw[gs _ ac];exact q3,gE,⟨fun k _ U=>gs k U⟩⟩ ?_;clear gs;rintro i E Hi hi hcE hrH hnH hsI ⟨g0,g1,g2,g3,g7,O⟩;(try simp only[zbR,zbq,br,za4,zbg,Nat.reduceBEq, *]at hcE);(try simp only[zbq,zbg, *]at hrH);(try simp only[zbb,zbl,]at hnH);have ni:Y.next+1<=Hi.next:=hnH
  by_cases J:i<p.arrays.length
  .have hlt':(i:Int)<p.arrays.length:=by omega
   have hgx:p.arrays[i]?=some p.arrays[i]:=aY J;have hne:dS ((p.arrays.map (·.name)).take (i+1)) 0 []=setV (dS ((p.arrays.map (·.name)).take i) 0 []) (p.arrays[i]).name (i:Int):=by
    rw[YS (by rw[cD];exact J),List.getElem_map]
   generalize p.arrays[i]=ar at *;rw[hne];have gA:∀b c k,k<Hi.next->((Hi.alloc b).set Hi.next c).get k=Hi.get k:=fun b c k U=>mD
   have g2a:∀b c,((Hi.alloc b).set Hi.next c).get 2=some (.map (cE (dS ((p.arrays.map (·.name)).take i) 0 []))):=fun b c=>by rw[gA b c 2 ac];exact g2
   have hup:=fun b c=>vN (P:=Try.prog) (t:=81) Try.underlying81 zdz (g2a b c) ar.name (i:Int);repeat' (first
    |(apply ai ?_;clear hK K)|apply Ry.o ?_|apply dD ?_|(apply bi (fun V z=>?_) (fun V z=>?_)<;>try(cases V;done))|apply aq ?_|(apply zaW fun K hK=>?_)|apply aO ?_|apply za8 ?_|fail)
   refine⟨ac,zbw,zbw,eN,yV,?_⟩;have gB:∀b c m k,k<Hi.next->k≠2->(((Hi.alloc b).set Hi.next c).set 2 m).get k=Hi.get k:=fun b c m k U g=>by rw[aC,af g];exact gA b c k U
   exact⟨by rw[gB _ _ _ _ ac ac];exact g0,by rw[gB _ _ _ _ ac ac];exact g1,gE,by rw[gB _ _ _ _ ac ac];exact g3,by rw[gB _ _ _ _ ac ac];exact g7,⟨fun k h1 g=>JZ⟩⟩
  .have hlt':¬(i:Int)<p.arrays.length:=by omega
   have hti:(p.arrays.map (·.name)).take i=p.arrays.map (·.name):=eI (by rw[cD];omega);rw[hti]at g2;repeat' (first
    |(apply ai ?_;clear hK K)|apply Ry.o ?_|(apply bi (fun V z=>?_) (fun V z=>?_)<;>try(cases V;done))|apply aq ?_|(apply zaW fun K hK=>?_)|apply aO ?_|apply zbW ?_)
   refine zcj [1,2,3,5,6,7,42,43] [] 44 p.funcs.length (fun j E Hj=>Hj.get 0=some (.cells p.cells 0 true)/\Hj.get 1=some (.cells [.nilS,.nilS] 0 true)/\Hj.get 2=some (.map (cE (dS (p.arrays.map (·.name)) 0 [])))/\Hj.get 3=some (.map (cE (jh (p.funcs.take j) 0 [])))/\Hj.get Y.next=some (.cells [av,.nilS] 0 true)/\Smr Y.next Y Hj) eE ⟨g0,g1,g2,g3,g7,O⟩ ?_;clear g0 g1 g2 g3 g7 O hti;rintro j E3 Hj hj hcE hrH hnH hsI ⟨g0,g1,g2,g3,g7,O⟩;(try simp only[zbR,zbq,br,za4,zbg,Nat.reduceBEq, *]at hcE);(try simp only[zbq, *]at hrH);(try simp only[zbb,zbl,zb4,b4,Nat.reduceAdd]at hnH);have nj:Y.next+1<=Hj.next:=ac
   by_cases J:j<p.funcs.length
   .have hlt':(j:Int)<p.funcs.length:=by omega
    have hgx:p.funcs[j]?=some p.funcs[j]:=aY J;have hne:=YT J;generalize p.funcs[j]=f at *;rw[hne];have gA:∀b c k,k<Hj.next->((Hj.alloc b).set Hj.next c).get k=Hj.get k:=fun b c k U=>mD
    have g3a:∀b c,((Hj.alloc b).set Hj.next c).get 3=some (.map (cE (jh (p.funcs.take j) 0 []))):=fun b c=>by rw[gA b c 3 ac];exact g3
    have hup:=fun b c=>vN (P:=Try.prog) (t:=81) Try.underlying81 zdz (g3a b c) f.name (j:Int);repeat' (first
     |(apply ai ?_;clear hK K)|apply Ry.o ?_|apply dD ?_|(apply bi (fun V z=>?_) (fun V z=>?_)<;>try(cases V;done))|apply aq ?_|(apply zaW fun K hK=>?_)|apply aO ?_|apply za8 ?_|fail)
    refine⟨ac,zbw,zbw,eN,qZ,?_⟩;have gB:∀b c m k,k<Hj.next->k≠3->(((Hj.alloc b).set Hj.next c).set 3 m).get k=Hj.get k:=fun b c m k U g=>by rw[aC,af g];exact gA b c k U
    exact⟨by rw[gB _ _ _ _ ac ac];exact g0,by rw[gB _ _ _ _ ac ac];exact g1,by rw[gB _ _ _ _ ac ac];exact g2,gE,by rw[gB _ _ _ _ ac ac];exact g7,⟨fun k h1 g=>JZ⟩⟩
   .have hlt':¬(j:Int)<p.funcs.length:=by omega
    have htj:p.funcs.take j=p.funcs:=eI ac;rw[htj]at g3;repeat' (first
     |(apply ai ?_;clear hK K)|apply Ry.o ?_|(apply bi (fun V z=>?_) (fun V z=>?_)<;>try(cases V;done))|apply aq ?_|(apply zaW fun K hK=>?_)|apply aO ?_|apply zbW ?_)
    have hfl:kX p n (p.funcs.drop 0) []=some (u,e):=h;refine zcj [1,2,5,6,7,55,56] [] 57 p.funcs.length (fun i E Z=>∃gs fv,kX p n (p.funcs.drop i) gs=some (u,e)/\Z.get 0=some (.cells p.cells 0 true)/\Z.get 1=some (.cells [.nilS,.nilS] 0 true)/\Z.get 2=some (.map (cE (dS (p.arrays.map (·.name)) 0 [])))/\Z.get 3=some (.map (cE (jh p.funcs 0 [])))/\Z.get Y.next=some (.cells [av,fv] 0 true)/\zbN (fun k=>Y.next<k) 3 Z 5 fv (gs.map Gr.cells)/\Smr Y.next Y Z/\gs.length=i) eE ⟨[],.nilS,hfl,g0,g1,g2,g3,g7,.inl ⟨rfl,rfl⟩,O,rfl⟩ ?_;clear g0 g1 g2 g3 g7 O htj hfl h;rintro i5 E5 Z hk5 hcE hrH hnH hsI ⟨gs,fv,hJ,g0,g1,g2,g3,g7,rf,O,hgl⟩;(try simp only[zbR,zbq,br,za4,zbg,Nat.reduceBEq, *]at hcE);(try simp only[zbq, *]at hrH);(try simp only[zbb,zbl,zb4,b4,Nat.reduceAdd]at hnH);have nk:Y.next+1<=Z.next:=ac
    obtain⟨hf1,hf2⟩:=rf.one;by_cases J:i5<p.funcs.length
    .have hlt':(i5:Int)<p.funcs.length:=by omega
     have hgx:p.funcs[i5]?=some p.funcs[i5]:=aY J;have hmem:=dW J;have hfsz:=qQ hmem;rw[hP J]at hJ;unfold kX at hJ;obtain⟨s,v,e1,e2,hF⟩:=hok _ hmem;generalize p.funcs[i5]=f at *;have hfn:il p n f=some ⟨f.name,f.params.length,v.2.l,v.1,v.2.state⟩:=by unfold il;rw[e1];simp only[cU];rw[e2];rfl
     rw[hfn]at hJ;simp only[cU]at hJ;have nB:=YW p (Z.next+1) (Z.next+2);have gAll:∀b0 c0 zbL m2 bx k,k<Z.next->(((((Z.alloc b0).set Z.next c0).alloc zbL).alloc m2).alloc bx).get k=Z.get k:=fun b0 c0 zbL m2 bx k U=>by
      rw[zaY,af kZ,zaY,af kZ,zaY,af kZ,aC,af ac,zaY,af ac]
     have g0m:∀b0 c0,((Z.alloc b0).set Z.next c0).get 0=some (.cells p.cells 0 true):=fun b0 c0=>by rw[aC,af ac,zaY,af ac];exact g0
     have hfx:∀b0 zbL m2 bx,(((((Z.alloc b0).set Z.next (.cells f.cells 0 true)).alloc zbL).alloc m2).alloc bx).get Z.next=some (.cells f.cells 0 true):=fun b0 zbL m2 bx=>by
      rw[zaY,af kZ,zaY,af kZ,zaY,af kZ,aC,aj rfl]
     repeat' (first
      |(apply ai ?_;clear hK K)|apply Ry.o ?_|apply dD ?_|(apply bi (fun V z=>?_) (fun V z=>?_)<;>try(cases V;done))|apply aq ?_|(apply zaW fun K hK=>?_)|apply aO ?_|apply za8 ?_|fail)
     refine aK rfl aL aM ?_;simp only[aR];generalize hHb:Hp.alloc (Hp.alloc _ _) (.cells [.lst (p.arrays.map Ar.cells),.lst (p.funcs.map Fu.cells),.map 2,.map 3,.nilS,.map (Z.next+1),.map (Z.next+2),.nilS,.int .i64 0,.int .i64 0] 0 true)=Hb;have nb:Hb.next=Z.next+4:=by rw[<-hHb];rfl
     have old:∀k,k<Z.next->Hb.get k=Z.get k:=fun k U=>by rw[<-hHb];exact gAll _ _ _ _ _ k U
     have gt:Hb.get (Z.next+1)=some (.map []):=by
      rw[<-hHb,zaY,af kZ,zaY,af kZ,zaY,aj cN]
     have gn:Hb.get (Z.next+2)=some (.map []):=by
      rw[<-hHb,zaY,af kZ,zaY,aj cN]
     have gb:Hb.get (Z.next+3)=some (.cells [.lst (p.arrays.map Ar.cells),.lst (p.funcs.map Fu.cells),.map 2,.map 3,.nilS,.map (Z.next+1),.map (Z.next+2),.nilS,.int .i64 0,.int .i64 0] 0 true):=by
      rw[<-hHb,zaY,aj cN]
     clear hHb gAll g0m hfx nB;have hRb:RepL (Lx.mk p (Z.next+3) 2 3 (Z.next+1) (Z.next+2) (dS (p.arrays.map (·.name)) 0 []) (jh p.funcs 0 []) []) Hb (fun _=>False) ⟨[],[],0,0⟩ .nilS .nilS:=
      ⟨gb,by show Hb.get 2=_;rw[old 2 ac];exact g2,by show Hb.get 3=_;rw[old 3 ac];exact g3,gt,gn,.inl ⟨rfl,rfl⟩,.inl ⟨rfl,rfl⟩,by show 2<3;omega,by show 3<Z.next+1;omega,by show Z.next+1<Z.next+2;omega,by show Z.next+2<Z.next+3;omega,by show Z.next+3<Hb.next;omega,fun _ h=>h.elim,fun _ h=>(wj h).elim⟩
     refine aI ?_ (Xk (X:=Lx.mk p (Z.next+3) 2 3 (Z.next+1) (Z.next+2) (dS (p.arrays.map (·.name)) 0 []) (jh p.funcs 0 []) []) hG (YR hv hmem rfl rfl rfl) rfl e1 e2 hF ac hRb);clear hRb gb gt gn;rintro w H4 ⟨S4,L,rfl,nd4,n4,s4,q4⟩;dsimp only at nd4 q4;have old4:∀k,k<Z.next->H4.get k=Z.get k:=fun k U=>by rw[q4 k ac ac ac ac];exact old k U
     have hlen4:∀H',zbO Try.prog H' 26 L=some (.int .i64 v.2.l.length):=fun H'=>by
      have:=nd4.len (P:=Try.prog) (t:=26) (H':=H') Try.underlying26
      rwa [cD]at this
     obtain⟨hl1,hl2⟩:=nd4.one;clear q4 old;have n4':Z.next+4<=H4.next:=ac
     by_cases hbig:(2000:Int)<v.2.l.length
     .rw[aj hbig]at hJ;simp only[ce]at hJ;obtain⟨rfl,rfl⟩:=hJ;have g1a:∀b c,((H4.alloc b).set H4.next c).get 1=some (.cells [.nilS,.nilS] 0 true):=fun b c=>by rw[aC,af ac,zaY,af ac,old4 1 ac];exact g1
      have ag0:zbJ 2 [.nilS,.nilS]=some (.agg [.nilS,.nilS]):=rfl;dsimp only[za1];repeat' (first
       |(apply ai ?_;clear hK K)|apply Ry.o ?_|apply dD ?_|(apply bi (fun V z=>?_) (fun V z=>?_)<;>try(cases V;done))|apply aq ?_|(apply zaW fun K hK=>?_)|apply aN ?_|fail)
      refine⟨za2,_,(by(try simp only[za4,zbg,Nat.reduceBEq,tyF,zb9,zch, *]);first|done|with_reducible rfl),?_⟩;try simp only[za0]
      exact⟨_,fun _=>True,rfl,.cons .nilS (.cons .nilS .nil)⟩
     .rw[af hbig]at hJ;have hone:([.str f.name,.int .i64 f.params.length,L,.int .i64 v.1,.int .i64 v.2.state]:List AV).all AV.one=true:=by simp only[pV,rr,hl1];rfl
      have ag:zbJ 5 [.str f.name,.int .i64 f.params.length,L,.int .i64 v.1,.int .i64 v.2.state]=some (.agg [.str f.name,.int .i64 f.params.length,L,.int .i64 v.1,.int .i64 v.2.state]):=rfl;have hbs:=fun H=>YV H (cs:=[.str f.name,.int .i64 f.params.length,L,.int .i64 v.1,.int .i64 v.2.state]) rfl hone;have g7a:∀b c,((H4.alloc b).set H4.next c).get Y.next=some (.cells [av,fv] 0 true):=fun b c=>by rw[aC,af ac,zaY,af ac,old4 _ ac];exact g7
      have I:∀k,k<H4.next->(((H4.alloc (.cells [.str [],.int .i64 0,.nilS,.int .i64 0,.int .i64 0] 0 true)).set H4.next (.cells [.str f.name,.int .i64 f.params.length,L,.int .i64 v.1,.int .i64 v.2.state] 0 true)).alloc (.cells [.str f.name,.int .i64 f.params.length,L,.int .i64 v.1,.int .i64 v.2.state] 0 true)).get k=H4.get k:=fun k U=>by
       rw[zaY,af kZ,aC,af ac,zaY,af ac]
      have hfq:∀k o m z',fv=.sl k o m z'->k<Z.next/\Y.next<k:=fun k o m z' e=>by
       rcases rf with⟨h1,_⟩|⟨q,im,rows,h1,g,h3,_⟩
       .rw[h1]at e;cases e
       .rw[h1]at e;simp only[AV.sl.injEq]at e;rw[<-e.1];exact⟨h3,g⟩
      obtain⟨H7,a7,r7,n7,q7⟩:=Iy (P:=Try.prog) (t:=31) Try.underlying31 BW FL FM rfl ah (S':=fun k=>Y.next<k)
       (rf.keep (S':=fun k=>Y.next<k) (H':=((H4.alloc (.cells [.str [],.int .i64 0,.nilS,.int .i64 0,.int .i64 0] 0 true)).set H4.next (.cells [.str f.name,.int .i64 f.params.length,L,.int .i64 v.1,.int .i64 v.2.state] 0 true)).alloc (.cells [.str f.name,.int .i64 f.params.length,L,.int .i64 v.1,.int .i64 v.2.state] 0 true)) (fun _ _ h=>h) kZ fun k _ U=>by rw[I k ac,old4 k U])
       (fun _ _ h=>h) kZ (r:=H4.next+1) (imm:=0) (row:=[.str f.name,.int .i64 f.params.length,L,.int .i64 v.1,.int .i64 v.2.state]) (w:=(Gr.mk f.name f.params.length v.2.l v.1 v.2.state).cells) zq rfl hone
       (YX f.name f.params.length v.1 v.2.state (nd4.keep (S':=fun k=>Y.next<k/\∀o m z',fv≠.sl k o m z') (fun k h1 g=>⟨by have:=s4 k g;omega,fun o m z' e=>by have:=(hfq k o m z' e).1;have:=s4 k g;omega⟩) kZ fun k U g=>I k g))
       zp zp
      rw[cD]at a7 r7;simp only[zbb,zbl]at a7 r7 n7 q7;have old7:∀k,k<Z.next->(∀o m z',fv≠.sl k o m z')->H7.get k=Z.get k:=fun k h1 g=>by rw[q7 k ac g,I k ac,old4 k h1]
      have hlow:∀k,k<=Y.next->∀o m z',fv≠.sl k o m z':=fun k U o m z' e=>by have:=(hfq k o m z' e).2;omega
      have g77:H7.get Y.next=some (.cells [av,fv] 0 true):=by rw[old7 _ ac (hlow _ (aA _))];exact g7
      have hJ':kX p n (p.funcs.drop (i5+1)) (gs++[Gr.mk f.name f.params.length v.2.l v.1 v.2.state])=some (u,e):=hJ;have hmapg:(gs++[Gr.mk f.name f.params.length v.2.l v.1 v.2.state]).map Gr.cells=gs.map Gr.cells++[(Gr.mk f.name f.params.length v.2.l v.1 v.2.state).cells]:=aw;have C:∀k,k<Y.next->H7.get k=Z.get k:=fun k U=>old7 k ac (hlow k ac)
      clear I old7 hlow hfq old4 q7 hJ;dsimp only[za1];repeat' (first
       |(apply ai ?_;clear hK K)|apply Ry.o ?_|apply dD ?_|(apply bi (fun V z=>?_) (fun V z=>?_)<;>try(cases V;done))|apply aq ?_|(apply zaW fun K hK=>?_)|apply za8 ?_|fail)
      refine⟨ac,zbw,zbw,eN,qZ,?_⟩;have hs7:∀m k,k≠Y.next->(H7.set Y.next m).get k=H7.get k:=fun m k U=>by rw[aC,af U]
      refine⟨gs++[Gr.mk f.name f.params.length v.2.l v.1 v.2.state],.sl (H4.next+2) 0 (gs.length+1) 5,hJ',by rw[hs7 _ _ ac,C _ ac];exact g0,by rw[hs7 _ _ ac,C _ ac];exact g1,by rw[hs7 _ _ ac,C _ ac];exact g2,by rw[hs7 _ _ ac,C _ ac];exact g3,by rw[aC,aj rfl,hgl],?_,⟨fun k h1 g=>by rw[hs7 _ _ ac,C _ ac];exact O.get k h1 g⟩,by rw[fy,hgl];rfl⟩;rw[hmapg];exact r7.keep (fun _ _ h=>h) (aA _) fun k U _=>hs7 _ k ac
    .have hlt':¬(i5:Int)<p.funcs.length:=by omega
     have hd:p.funcs.drop i5=[]:=tV ac;rw[hd]at hJ;simp only[kX,ce]at hJ;obtain⟨rfl,rfl⟩:=hJ;have ag:zbJ 2 [av,fv]=some (.agg [av,fv]):=rfl;have rd1:=ra'.keep (S':=fun _=>True) (H':=Z.set 1 (.cells [av,fv] 0 true)) (fun _ _ _=>trivial) eg fun k U _=>by rw[aC,af ac];exact O.get k U.1 U.2
     have rd2:=rf.keep (S':=fun _=>True) (H':=Z.set 1 (.cells [av,fv] 0 true)) (fun _ _ _=>trivial) eg fun k U _=>jS;have fin:zV (Z.set 1 (.cells [av,fv] 0 true)) ⟨p.arrays,gs⟩ 0 (.tup [.agg [av,fv],.int .i64 0]):=⟨_,fun _=>True,rfl,.cons (rd1.rd.up ac) (.cons (rd2.rd.up ac) .nil)⟩;clear rd1 rd2;repeat' (first
      |(apply ai ?_;clear hK K)|apply Ry.o ?_|apply dD ?_|(apply bi (fun V z=>?_) (fun V z=>?_)<;>try(cases V;done))|apply aq ?_|(apply zaW fun K hK=>?_)|apply aN ?_|apply zbW ?_)
     refine⟨za2,_,(by(try simp only[za4,zbg,Nat.reduceBEq,tyF,zb9,zch, *]);first|done|with_reducible rfl),?_⟩;try simp only[za0]
     exact fin
 .rw[af hc,az,fG]at h;obtain⟨rfl,rfl⟩:=h;have bUn0:zb5 Try.prog 34 []=some (.agg [.nilS,.nilS]):=ah;refine zbs (M:=84) (rs:=[.cell 2 34,.tmp 3]) (hw.call _) hw.ice hw.froz Try.func15 rfl rfl zU.2 rfl ?_;dsimp only[zU,zbj,Nat.reduceAdd];repeat' (first
   |(apply ai ?_;clear hK K)|apply Ry.o ?_|apply dD ?_|(apply jb ?_;first|refine zbV (hchk _) ?_)|(apply bi (fun V z=>?_) (fun V z=>?_)<;>try(cases V;done))|apply aq ?_|(apply zaW fun K hK=>?_)|apply aN ?_|fail)
  have ag0:zbJ 2 [.nilS,.nilS]=some (.agg [.nilS,.nilS]):=rfl;refine⟨za2,_,(by(try simp only[za4,zbg,Nat.reduceBEq,tyF,zb9,zch, *]);first|done|with_reducible rfl),?_⟩;try simp only[za0]
  exact⟨_,fun _=>True,rfl,.cons .nilS (.cons .nilS .nil)⟩
theorem zV.wk{H':Hp}{u:Un}{e:Int}{v:AV}(h:zV H' u e v):∃m w,iceV H' m v=some w/\dE 60 w=.tup [.agg u.cells,.int .i64 e]:=by
 obtain⟨Z,S,rfl,K,i,g⟩:=h;have Y:zbS S 100 H' (.agg Z) (.agg K):=zbS.up (n:=6) ⟨K,i,rfl⟩ ac;obtain⟨I,V⟩:=yC (S:=S) (n:=100) (H:=H') (fun k=>zbS.iceV k) (l:=[.agg Z,.int .i64 e]) (k:=[.agg K,.int .i64 e]) ⟨Y,zbS.flat ⟨.int _ _,trivial⟩,trivial⟩;refine⟨I+1,.tup [.agg K,.int .i64 e],?_,?_⟩
 .have U:iceV H' (I+1) (.tup [.agg Z,.int .i64 e])=match iceL (iceV H' I) [.agg Z,.int .i64 e]with
   |some vs=>some (.tup vs)
   |none=>none:=rfl
  rw[U,V I (aA _)]
 .show AV.tup [.agg (K.map (dE 58)),.int .i64 e]=_;rw[g 58 ac]
noncomputable def wI:List En:=[Dm]
theorem YZ(ρ:Nat->Int):jc Try.prog ρ wI:=⟨YP ρ,trivial⟩
theorem Y0:LowT wI:=LowT.of fun e U=>by
 rw[wI,sC]at U;subst U;rfl
theorem Y1(ρ:Nat->Int)(p:Pr){n:Nat}(j:p.sz<2^34)(i:zc2 p=0->Dn p n){u:Un}{e:Int}(h:qd p n=some (u,e)):cn Try.prog ρ 15 (fc p) (.tup [.agg u.cells,.int .i64 e]):=
 zr (n:=60) (cfg:=za3 pls wI) fit (pL ρ) (fun g L r C=>jc.look (l:=wI) (YZ ρ) g L r C) (.cons (.agg p.pure) .nil) (aI (fun v H' h=>h.wk) (YY Y0 (fun _=>rfl) (zcB (fun _=>rfl) rfl) p j i h))
end
section
structure NdP (c:Cx) (np:Nat) (x:Nd):Prop where
 op:0<=x.op/\x.op<256
 imm:jG x.imm
 len:x.kids.length<=40
 pa:x.op=2->x.imm<np
 ar:x.op=23\/x.op=28->x.imm<c.arrays.length
 fn:x.op=30->0<=x.imm/\∃f,c.funcs[x.imm.toNat]?=some f/\x.kids.length=1+f.params.length
structure CxOkU (c:Cx):Prop where
 a:∀x∈c.arrays,1<=x.len/\x.len<=16
 al:c.arrays.length<=4
 fl:c.funcs.length<=8
 fp:∀f∈c.funcs,f.params.length<=6
 nl:c.names.length<=14
structure LI (c:Cx) (np:Nat) (s:Bd):Prop where
 nd:s.l.Nodup
 wf:zdR s.l
 p:∀x∈s.l,NdP c np x
 v:∀x∈s.vars,IsT s.l 1 x
 vl:s.vars.length=c.names.length
 st:IsT s.l 2 s.state
theorem Kd{l:List Nd}{n:Nd}(h:l.Nodup):(ji l n).Nodup:=by
 unfold ji;split
 .exact h
 .rename_i c;exact List.nodup_append.2 ⟨h,aw,fun a ha b o=>by
   simp only[lJ]at o;subst o;rintro rfl;exact c (HU.2 ha)⟩
theorem Ke(l:List Nd)(n:Nd):(ji l n).length<=l.length+1:=by
 rw[Wg];split<;>omega
section
variable {c:Cx} {np:Nat} {s:Bd}
theorem LI.setS(h:LI c np s){x:Int}(I:IsT s.l 2 x):LI c np {s with state:=x}:=⟨h.nd,h.wf,h.p,h.v,h.vl,I⟩
theorem LI.setV(h:LI c np s){x:List Int}(I:∀y∈x,IsT s.l 1 y)(K:x.length=c.names.length):LI c np {s with vars:=x}:=⟨h.nd,h.wf,h.p,I,K,h.st⟩
theorem LI.setN(h:LI c np s)(x:Nat):LI c np {s with loops:=x}:=⟨h.nd,h.wf,h.p,h.v,h.vl,h.st⟩
theorem jZ(h:LI c np s){n:Nd}{t:Int}(J:gM s.l n=t)(M:t≠0)(Z:NdP c np n):LI c np (zaX n s).2/\IsT (zaX n s).2.l t (zaX n s).1/\(zaX n s).2.l.length<=s.l.length+1:=by
 obtain⟨a,b⟩:=Il h.wf J M;refine⟨⟨Kd h.nd,b,fun x I=>?_,fun x I=>(h.v x I).le (tQ _ _),h.vl,h.st.le (tQ _ _)⟩,a,Ke _ _⟩;rcases yX.1 I with I|rfl
 .exact h.p x I
 .exact Z
theorem mI(c:Cx)(np:Nat){op imm:Int}{z:List Int}(Y:0<=op/\op<256)(V:jG imm)(j:z.length<=40)(h2:op≠2)(Z:op≠23)(L:op≠28)(I:op≠30):NdP c np ⟨op,imm,z⟩:=
 ⟨Y,V,j,fun e=>absurd e h2,fun e=>e.elim (fun e=>absurd e Z) fun e=>absurd e L,fun e=>absurd e I⟩
theorem ue(h:LI c np s){t k a b:Int}(j:IsT s.l 1 k)(O:IsT s.l t a)(o:IsT s.l t b)(M:t=1\/t=2):LI c np (zbi k a b s).2/\IsT (zbi k a b s).2.l t (zbi k a b s).1/\(zbi k a b s).2.l.length<=s.l.length+1:=by
 unfold zbi;split
 .exact⟨h,O,dV _⟩
 .exact jZ h (Wv j O o M) ac (mI _ _ aS jE aw aS aS aS aS)
theorem Do(h:LI c np s){t v:Int}(M:IsT s.l 1 v)(J:1<=t)(h1:t<=1000016):LI c np (nu t v s)/\(nu t v s).l.length<=s.l.length+1:=by
 have:=jZ h (n:=⟨27,t,[s.state,v]⟩) (Wx h.st M J h1) aS (mI _ _ aS jE aw aS aS aS aS);exact⟨this.1.setS this.2.1,this.2.2⟩
theorem wJ(h:LI c np s){n:Int}(U:jG n):LI c np (zaX ⟨1,n,[]⟩ s).2/\IsT (zaX ⟨1,n,[]⟩ s).2.l 1 (zaX ⟨1,n,[]⟩ s).1/\(zaX ⟨1,n,[]⟩ s).2.l.length<=s.l.length+1:=
 jZ h (Wp n) aS (mI _ _ aS U aw aS aS aS aS)
theorem zW(h:LI c np s){op a b:Int}(O:IsT s.l 1 a)(o:IsT s.l 1 b)(J:4<=op)(h1:op<=19):LI c np (zaX ⟨op,0,[a,b]⟩ s).2/\IsT (zaX ⟨op,0,[a,b]⟩ s).2.l 1 (zaX ⟨op,0,[a,b]⟩ s).1/\(zaX ⟨op,0,[a,b]⟩ s).2.l.length<=s.l.length+1:=
 jZ h (Wt O o J h1) aS (mI _ _ ac jE aw ac ac ac ac)
theorem Kf(h:LI c np s){n i:Int}(Z:jG n)(z:IsT s.l 1 i):LI c np (fd n i s)/\(fd n i s).l.length<=s.l.length+3:=by
 obtain⟨C,Y,M⟩:=wJ h Z;have U:=z.le (zb8 ⟨1,n,[]⟩ s).le.l;obtain⟨K,V,L⟩:=zW C (op:=19) U Y aS aS;obtain⟨c1,O⟩:=Do K (t:=2) V aS aS;exact⟨c1,by have:(fd n i s).l.length<=_:=O;omega⟩
theorem Y2(h:LI c np s){i:Int}(z:IsT s.l 1 i):LI c np (mA i s)/\(mA i s).l.length<=s.l.length+3:=by
 obtain⟨C,Z,O⟩:=wJ h (n:=0) jE;have U:=z.le (zb8 ⟨1,0,[]⟩ s).le.l;obtain⟨K,V,M⟩:=zW C (op:=16) U Z aS aS;obtain⟨c1,Y⟩:=Do K (t:=1) V aS aS;exact⟨c1,by have:(mA i s).l.length<=_:=Y;omega⟩
theorem Y3(V:CxOkU c)(h:LI c np s){i:Int}(z:IsT s.l 1 i){k:Nat}(j:k<c.arrays.length):LI c np (zaX ⟨23,k,[s.state,i]⟩ s).2/\IsT (zaX ⟨23,k,[s.state,i]⟩ s).2.l 1 (zaX ⟨23,k,[s.state,i]⟩ s).1/\(zaX ⟨23,k,[s.state,i]⟩ s).2.l.length<=s.l.length+1:=by
 have al:=V.al;exact jZ h (Ww h.st z ac ac) aS ⟨by show 0<=(23:Int)/\(23:Int)<256;decide,zO,by show 2<=40;decide,fun e=>absurd e (by show ¬(23:Int)=2;decide),fun _=>by show(k:Int)<_;omega,fun e=>absurd e (by show ¬(23:Int)=30;decide)⟩
theorem Y4(V:CxOkU c)(h:LI c np s){i v:Int}(z:IsT s.l 1 i)(M:IsT s.l 1 v){k:Nat}(j:k<c.arrays.length):LI c np (zaX ⟨28,k,[s.state,i,v]⟩ s).2/\IsT (zaX ⟨28,k,[s.state,i,v]⟩ s).2.l 2 (zaX ⟨28,k,[s.state,i,v]⟩ s).1/\(zaX ⟨28,k,[s.state,i,v]⟩ s).2.l.length<=s.l.length+1:=by
 have al:=V.al;exact jZ h (Wz h.st z M ac ac) aS ⟨by show 0<=(28:Int)/\(28:Int)<256;decide,zO,by show 3<=40;decide,fun e=>absurd e (by show ¬(28:Int)=2;decide),fun _=>by show(k:Int)<_;omega,fun e=>absurd e (by show ¬(28:Int)=30;decide)⟩
theorem Y5(h:LI c np s){v:Int}(M:IsT s.l 1 v):LI c np (zaX ⟨29,0,[s.state,v]⟩ s).2/\IsT (zaX ⟨29,0,[s.state,v]⟩ s).2.l 2 (zaX ⟨29,0,[s.state,v]⟩ s).1/\(zaX ⟨29,0,[s.state,v]⟩ s).2.l.length<=s.l.length+1:=
 jZ h (Wy h.st M) aS (mI _ _ aS jE aw aS aS aS aS)
theorem Y6(h:LI c np s){v:Int}(M:IsT s.l 2 v):LI c np (zaX ⟨24,0,[v]⟩ s).2/\IsT (zaX ⟨24,0,[v]⟩ s).2.l 1 (zaX ⟨24,0,[v]⟩ s).1/\(zaX ⟨24,0,[v]⟩ s).2.l.length<=s.l.length+1:=
 jZ h (WA M) aS (mI _ _ aS jE aw aS aS aS aS)
theorem Y7(V:CxOkU c)(h:LI c np s){U:List Int}(O:∀a∈U,IsT s.l 1 a){k:Nat}{f:Fu}(Z:c.funcs[k]?=some f)(K:U.length=f.params.length):LI c np (zaX ⟨30,k,s.state::U⟩ s).2/\IsT (zaX ⟨30,k,s.state::U⟩ s).2.l 2 (zaX ⟨30,k,s.state::U⟩ s).1/\(zaX ⟨30,k,s.state::U⟩ s).2.l.length<=s.l.length+1:=by
 have M:=V.fl;have Y:=V.fp f (oF Z);have j:k<c.funcs.length:=by
  by_cases q:k<c.funcs.length
  .exact q
  .rw[md ac]at Z;cases Z
 exact jZ h (WB h.st O ac ac ac) aS ⟨by show 0<=(30:Int)/\(30:Int)<256;decide,zO,by show U.length+1<=40;omega,fun e=>absurd e (by show ¬(30:Int)=2;decide),fun e=>by rcases e with e|e<;>exact absurd e (by show ¬(30:Int)=_;decide),fun _=>⟨by show 0<=(k:Int);omega,f,by show c.funcs[(k:Int).toNat]?=_;rw[pQ];exact Z,by show U.length+1=_;omega⟩⟩
end
theorem Y8{l:List Ex}{i:Nat}{k:Ex}(O:eT l)(h:l[i]?=some k):fE k:=by
 induction l generalizing i with
 |nil=>simp at h
 |cons e j ih=>
  rw[eT]at O;cases i with
  |zero=>simp at h;subst h;exact O.1
  |succ i=>exact ih O.2 j5
theorem Y9{vs an:List za5}{l:List Ex}{i:Nat}{k:Ex}(O:zcs vs an l=true)(h:l[i]?=some k):dQ vs an k=true:=by
 induction l generalizing i with
 |nil=>simp at h
 |cons e j ih=>
  rw[zcs,bT]at O;cases i with
  |zero=>simp at h;subst h;exact O.1
  |succ i=>exact ih O.2 j5
theorem Dp{l:List Ex}{i:Nat}{k:Ex}(h:l[i]?=some k):1+k.sz<=zcf l:=by
 have:=zdJ (oF h);omega
theorem Kg{l:List Ex}{a b:Ex}(J:l[0]?=some a)(h1:l[1]?=some b):2+a.sz+b.sz<=zcf l:=by
 cases l with
 |nil=>simp at J
 |cons x l=>
  simp at J h1;subst J;have:=Dp h1;rw[zcf];omega
theorem Za{l:List Ex}{a b d:Ex}(J:l[0]?=some a)(h1:l[1]?=some b)(h2:l[2]?=some d):3+a.sz+b.sz+d.sz<=zcf l:=by
 cases l with
 |nil=>simp at J
 |cons x l=>
  simp at J h1 h2;subst J;have:=Kg (l:=l) h1 h2;rw[zcf];omega
theorem uf:∀{l:List za5}{s:za5},zbx l s=true->bS l s<l.length
 |[],s,h=>by simp[zbx]at h
 |a::l,s,h=>by
  rw[bS];split
  .simp
  .rename_i c;have J:zbx (a::l) s=(decide (a=s)||zbx l s):=rfl;rw[J,mp c,jv]at h;rw[aj h,cS];exact Nat.succ_lt_succ (uf h)
structure XOk (c:Cx) (x:Ex):Prop where
 wf:eM x=true
 df:dQ c.names (c.arrays.map (·.name)) x=true
 rg:fE x
theorem XOk.kid{c:Cx}{x k:Ex}{i:Nat}(h:XOk c x)(j:x.kids[i]?=some k):XOk c k:=by
 obtain⟨Z,g,m⟩:=h;rw[G6,bT]at Z;rw[G8,bT]at g;rw[Im]at m;exact⟨Wb Z.1 j,Y9 g.1 j,Y8 m.2 j⟩
theorem pq{c:Cx}(hc:CxOkU c){np:Nat}:∀(n:Nat) (x:Ex) (s:Bd),XOk c x->x.sz<n->LI c np s->∃r,di c n x s=some r/\LI c np r.2/\IsT r.2.l 1 r.1/\r.2.l.length<=s.l.length+6*x.sz
 |0,x,s,hx,hd,hs=>by omega
 |n+1,x,s,hx,hd,hs=>by
  have I:=pq hc (np:=np) n;have hwf:=hx.wf;have U:=hx.df;have hrg:=(Im x).1 hx.rg;rw[G6,bT,kw]at hwf;rw[G8,bT,fD]at U;have O:=hwf.2;have hsz:=x.sz_eq;unfold di;by_cases e1:x.kind=1
  .rw[aj e1];obtain⟨a,b,d⟩:=wJ hs hrg.1;exact⟨_,rfl,a,b,ac⟩
  rw[af e1]at O⊢;by_cases e2:x.kind=2
  .rw[aj e2];have hn:zbx c.names x.name=true:=by have:=U.2;simp[e2]at this;exact this
   have K:bS c.names x.name<s.vars.length:=by rw[hs.vl];exact uf hn
   rw[aY K,i8];exact⟨_,rfl,hs,hs.v _ (dW K),by show s.l.length<=_;omega⟩
  rw[af e2]at O⊢;by_cases e3:x.kind=3
  .rw[aj e3]at O⊢;simp only[i9]at O;have hn:zbx (c.arrays.map (·.name)) x.name=true:=by have:=U.2;simp[e3]at this;exact this
   have K:=uf hn;rw[cD]at K;obtain⟨k,j⟩:=sF x.kids (i:=0) ac;have hks:=Dp j;obtain⟨r,hr,Z,g,r3⟩:=I k s (hx.kid j) ac hs;rw[j,cU,hr,cU,aY K,cU];have ha:=hc.a _ (dW K);generalize c.arrays[bS (c.arrays.map (·.name)) x.name]=ar at ha⊢;obtain⟨a1,a2⟩:=Kf Z (n:=ar.len) jE g;obtain⟨Y,M,b3⟩:=Y3 hc a1 (g.le (sG ar.len r.1 r.2).le.l) K;exact⟨_,rfl,Y,M,ac⟩
  rw[af e3]at O⊢;by_cases e5:x.kind=5
  .have e4:¬x.kind=4:=by omega
   rw[af e4,aj e5]at O;rw[aj e5];simp only[i9]at O;obtain⟨k,j⟩:=sF x.kids (i:=0) ac;obtain⟨k1,J⟩:=sF x.kids (i:=1) ac;obtain⟨k2,V⟩:=sF x.kids (i:=2) ac;have hks:=Za j J V;obtain⟨r,hr,L,p2,p3⟩:=I k s (hx.kid j) ac hs;obtain⟨Z,o,C,z,q3⟩:=I k1 r.2 (hx.kid J) ac L;have l1:=zci c n _ _ _ o;obtain⟨g,m,t1,t2,t3⟩:=I k2 {Z.2 with state:=r.2.state} (hx.kid V) ac (C.setS (L.st.le l1.le.l));have l2:=zci c n _ _ _ m;rw[j,cU,hr,cU,J,cU,o,cU,V,cU,m,cU];have pc:IsT g.2.l 1 r.1:=(p2.le l1.le.l).le l2.le.l;obtain⟨zbL,m2,m3⟩:=ue t1 pc (z.le l2.le.l) t2 (.inl rfl);have lm:=zcR r.1 Z.1 g.1 g.2;obtain⟨zbT,n2,n3⟩:=ue zbL (pc.le lm.le.l) ((C.st.le l2.le.l).le lm.le.l) zbL.st (.inr rfl);have ln:=zcR r.1 Z.2.state (zbi r.1 Z.1 g.1 g.2).2.state (zbi r.1 Z.1 g.1 g.2).2;refine⟨_,rfl,zbT.setS n2,m2.le ln.le.l,?_⟩;simp only at t3⊢;omega
  rw[af e5]at O⊢;by_cases e4:x.kind=4
  .rw[aj e4]at O;simp only[bT,pK,oG]at O;have hl:x.kids.length=2\/x.kids.length=1:=by rcases O.2 with h|h<;>omega
   obtain⟨k,j⟩:=sF x.kids (i:=0) ac;have hks:=Dp j;obtain⟨r,hr,L,p2,p3⟩:=I k s (hx.kid j) ac hs;rw[j,cU,hr,cU];by_cases e6:x.kids.length=1
   .rw[aj e6];have ho:x.op=20\/x.op=21:=by
     rcases O.2 with h|h
     .omega
     .exact h.2
    obtain⟨a,b,d⟩:=jZ L (Wu p2 ho) aS (mI _ _ ac jE aw ac ac ac ac);exact⟨_,rfl,a,b,ac⟩
   .rw[af e6];obtain⟨k1,J⟩:=sF x.kids (i:=1) ac;have hks2:=Kg j J;obtain⟨Z,o,C,z,q3⟩:=I k1 r.2 (hx.kid J) ac L;have l1:=zci c n _ _ _ o;rw[J,cU,o,cU];have ho:4<=x.op/\x.op<=18:=by
     rcases O.2 with h|h
     .have:=h.2;simp[tJ]at this;exact this
     .omega
    have p2':=p2.le l1.le.l;by_cases e7:x.op=7\/x.op=8
    .rw[aj e7];obtain⟨a1,a2⟩:=Y2 C z;have ld:=CN Z.1 Z.2;obtain⟨Y,M,b3⟩:=zW a1 (p2'.le ld.le.l) (z.le ld.le.l) (by omega:4<=x.op) ac;exact⟨_,rfl,Y,M,ac⟩
    .rw[af e7];obtain⟨Y,M,b3⟩:=zW C p2' z (by omega:4<=x.op) ac;exact⟨_,rfl,Y,M,ac⟩
  .rw[af e4]at O;simp at O
theorem Kh{c:Cx}(V:CxOkU c){np n:Nat}:∀(l:List Ex) (s:Bd),(∀x∈l,XOk c x)->zcf l<n->LI c np s->∃r,jj c n l s=some r/\LI c np r.2/\(∀a∈r.1,IsT r.2.l 1 a)/\r.2.l.length<=s.l.length+6*zcf l
 |[],s,hx,hd,hs=>⟨_,rfl,hs,aw,by show s.l.length<=_;omega⟩
 |x::l,s,hx,hd,hs=>by
  rw[zcf]at hd⊢;obtain⟨r,hr,i,I,U⟩:=pq V n x s (hx x eQ) ac hs;obtain⟨g,J,Z,j,O⟩:=Kh (n:=n) V l r.2 (fun y o=>hx y (fH _ o)) ac i;have Y:=(sH c n _ _ _ J).1;refine⟨(r.1::g.1,g.2),by rw[jj,hr,cU,J,cU],Z,fun a ha=>?_,ru⟩;rcases fz.1 ha with rfl|ha
  .exact I.le Y.le.l
  .exact j a ha
def qo(c:Cx):Sc:=⟨c.names,some (c.arrays.map (·.name)),⟨c.arrays,c.funcs⟩⟩
structure SOk (c:Cx) (x:St):Prop where
 wf:jg x=true
 df:ev (qo c) false x=true
 ar:ev (qo c) true x=true
 rg:jC x
structure SsOk (c:Cx) (l:List St):Prop where
 wf:fY l=true
 df:zca (qo c) false l=true
 ar:zca (qo c) true l=true
 rg:fN l
section
variable {c:Cx}
theorem SsOk.cons{x:St}{l:List St}(h:SsOk c (x::l)):SOk c x/\SsOk c l:=by
 obtain⟨i,g,m,L⟩:=h;rw[fY,bT]at i;rw[zca,bT]at g m;rw[fN]at L;exact⟨⟨i.1,g.1,m.1,L.1⟩,⟨i.2,g.2,m.2,L.2⟩⟩
theorem SOk.subs{x:St}(h:SOk c x):SsOk c x.thn/\SsOk c x.els:=by
 obtain⟨i,g,m,L⟩:=h;rw[tM]at i;rw[Cu]at g m;rw[zk]at L;simp only[bT]at i g m;exact⟨⟨i.1.2,g.1.2,m.1.2,L.2.2.2.1⟩,⟨i.2,g.2,m.2,L.2.2.2.2⟩⟩
theorem Ki:∀{l:List Ex}{x:Ex},eT l->x∈l->fE x
 |[],x,_,h=>by simp at h
 |e::l,x,hw,h=>by
  rw[eT]at hw;rcases fz.1 h with rfl|h
  .exact hw.1
  .exact Ki hw.2 h
theorem Kk:∀{l:List Ex}{x:Ex},dZ l=true->x∈l->eM x=true
 |[],x,_,h=>by simp at h
 |e::l,x,hw,h=>by
  rw[dZ,bT]at hw;rcases fz.1 h with rfl|h
  .exact hw.1
  .exact Kk hw.2 h
theorem Kl{vs an:List za5}:∀{l:List Ex}{x:Ex},zcs vs an l=true->x∈l->dQ vs an x=true
 |[],x,_,h=>by simp at h
 |e::l,x,hw,h=>by
  rw[zcs,bT]at hw;rcases fz.1 h with rfl|h
  .exact hw.1
  .exact Kl hw.2 h
theorem SOk.def{x:St}(h:SOk c x):zcs c.names (c.arrays.map (·.name)) x.args=true/\dQ c.names (c.arrays.map (·.name)) x.at_=true/\dQ c.names (c.arrays.map (·.name)) x.value=true/\zc8 (qo c) x=true:=by
 have g:=h.df;rw[Cu]at g;simp only[bT,nS,jQ]at g;exact⟨g.1.1.1.1.1,g.1.1.1.1.2,g.1.1.1.2,g.1.1.2⟩
theorem SOk.args{x:St}(h:SOk c x):∀a∈x.args,XOk c a:=fun a ha=>by
 have i:=h.wf;have L:=h.rg;rw[tM,iO]at i;rw[zk]at L;simp only[bT]at i;exact⟨Kk i.1.1.1 ha,Kl h.def.1 ha,Ki L.2.2.1 ha⟩
theorem SOk.value{x:St}(h:SOk c x)(j:x.kind=1\/x.kind=2\/x.kind=3\/x.kind=4\/x.kind=5):XOk c x.value:=by
 have i:=h.wf;have L:=h.rg;rw[tM,iO,jz]at i;rw[zk]at L;simp only[bT]at i;refine⟨?_,h.def.2.2.1,L.2.1⟩;have m:=i.1.1.2;rcases j with e|e|e|e|e<;>rw[e]at m<;>simp at m<;>simp[m]
theorem SOk.at_{x:St}(h:SOk c x)(j:x.kind=2):XOk c x.at_:=by
 have i:=h.wf;have L:=h.rg;rw[tM,iO,jz]at i;rw[zk]at L;simp only[bT]at i;refine⟨?_,h.def.2.1,L.1⟩;have m:=i.1.1.2;rw[j]at m;simp at m;simp[m]
theorem SOk.trap{x:St}(h:SOk c x)(j:x.kind=7):0<=x.n/\x.n<=1000000:=by
 have i:=h.wf;rw[tM,iO,jz]at i;simp only[bT]at i;have m:=i.1.1.2;rw[j]at m;simp at m;exact⟨by simp[m],by simp[m]⟩
theorem SOk.kd{x:St}(h:SOk c x):1<=x.kind/\x.kind<=7:=by
 have i:=h.wf;rw[tM,iO,jz]at i;simp only[bT]at i;have m:=i.1.1.2;by_cases e:1<=x.kind/\x.kind<=7
 .exact e
 .rw[af ac,af ac,af ac,af ac,af ac,af ac,af ac]at m;cases m
theorem SOk.name{x:St}(h:SOk c x)(j:x.kind=1\/x.kind=6):bS c.names x.name<c.names.length:=by
 have:=h.def.2.2.2;rw[zc8]at this;rcases j with e|e<;>simp[e,qo]at this
 .exact uf this
 .exact uf this.1
theorem SOk.arr{x:St}(h:SOk c x)(j:x.kind=2):bS (c.arrays.map (·.name)) x.name<c.arrays.length:=by
 have:=h.def.2.2.2;rw[zc8]at this;simp[j,qo,Sc.an]at this;have:=uf this
 rwa [cD]at this
theorem SOk.call{x:St}(h:SOk c x)(j:x.kind=6):0<=zbY c.funcs x.to 0/\x.args.length=oc ⟨c.arrays,c.funcs⟩ x.to:=by
 have i:=h.def.2.2.2;have m:=h.ar;rw[zc8]at i;simp[j,qo]at i;rw[Cu]at m;simp only[bT,gy,jA,j]at m;simp[qo]at m;have o:=oT m.1.1;exact⟨oT i.2,ac⟩
end
theorem zX{c:Cx}:∀(n:Nat) (l:List St) (b:List Bool),SsOk c l->2*zbC l<n->b.length=c.names.length->∃Y,d6 c.names n l b=some Y/\Y.length=c.names.length
 |0,l,b,_,h,_=>by omega
 |n+1,[],b,_,_,hb=>⟨b,rfl,hb⟩
 |n+1,x::l,b,K,h,hb=>by
  obtain⟨I,K⟩:=K.cons;rw[zbC]at h;have o:=x.sz_eq;unfold d6;simp only;rw[af (fun q=>by have:=I.name q.1;omega)];have Z:(if x.kind=1\/x.kind=6 then b.set (bS c.names x.name) true else b).length=c.names.length:=by split<;>simp[hb]
  obtain⟨V,C,U⟩:=zX n x.thn _ I.subs.1 ac Z;obtain⟨O,J,M⟩:=zX n x.els V I.subs.2 ac U;obtain⟨L,z,i⟩:=zX n l O K ac M;exact⟨L,by rw[C,cU,J,cU,z],i⟩
theorem Km{c:Cx}{np:Nat}{k:Int}{a:List Int}:∀(m i:Nat) (s:Bd),LI c np s->IsT s.l 1 k->(∀y∈a,IsT s.l 1 y)->a.length=c.names.length->i+m=c.names.length->∃r,lK k a m i s=some r/\LI c np r/\r.l.length<=s.l.length+m
 |0,i,s,h,_,_,_,_=>⟨s,rfl,h,aA _⟩
 |m+1,i,s,h,hk,ha,hl,hi=>by
  have K:=h.vl;have Z:i<a.length:=ac;have g:i<s.vars.length:=ac;unfold lK;rw[aY Z,cU,aY g,cU];obtain⟨zbL,Y,O⟩:=ue h hk (ha _ (dW Z)) (h.v _ (dW g)) (.inl rfl);have lv:=zcR k a[i] s.vars[i] s;obtain⟨r,e,V,U⟩:=Km m (i+1) { (zbi k a[i] s.vars[i] s).2 with vars:=(zbi k a[i] s.vars[i] s).2.vars.set i (zbi k a[i] s.vars[i] s).1} (zbL.setV (fun y o=>by
   rcases wC o with o|rfl
   .exact zbL.v y o
   .exact Y) (by rw[kz];exact zbL.vl)) (hk.le lv.le.l) (fun y o=>(ha y o).le lv.le.l) hl ac
  exact⟨r,e,V,by simp only at U;omega⟩
theorem Kn{c:Cx}{np:Nat}{k:Nat}(Z:k<=15):∀(O:List Nat) (j:Nat) (s:Bd),LI c np s->j+O.length<=15->LI c np (ii (16*(k:Int)+1) O j s)/\(ii (16*(k:Int)+1) O j s).l.length<=s.l.length+O.length
 |[],j,s,h,_=>⟨h,aA _⟩
 |w::O,j,s,h,hj=>by
  rw[cS]at hj;have U:(16*(k:Int)+1+j).tmod 16=1+j:=by
   rw[J0 ac];omega
  obtain⟨zbL,Y,M⟩:=jZ h (n:=⟨3,16*(k:Int)+1+j,[]⟩) (Ii ac ac) (by split<;>decide) (mI _ _ aS jE aw aS aS aS aS);rw[U,af ac]at Y;unfold ii;obtain⟨V,g⟩:=Kn Z O (j+1) { (zaX ⟨3,16*(k:Int)+1+j,[]⟩ s).2 with vars:=(zaX ⟨3,16*(k:Int)+1+j,[]⟩ s).2.vars.set w (zaX ⟨3,16*(k:Int)+1+j,[]⟩ s).1} (zbL.setV (fun y o=>by
   rcases wC o with o|rfl
   .exact zbL.v y o
   .exact Y) (by rw[kz];exact zbL.vl)) ac
  exact⟨V,by rw[cS];simp only at g⊢;omega⟩
theorem Ko{c:Cx}{np:Nat}{lp k:Int}{old:List Int}{q:Nd}:∀(O:List Nat) (j:Nat) (s:Bd),LI c np s->IsT s.l 3 lp->s.l[lp.toNat]?=some q->IsT s.l 1 k->(∀y∈old,IsT s.l 1 y)->(∀w∈O,w<old.length)->1<=j->((j+O.length:Nat):Int)<=oV q.kids.length->j+O.length<=16 ->
 LI c np (gC lp k old O j s)/\(gC lp k old O j s).l.length<=s.l.length+2*O.length
 |[],j,s,h,_,_,_,_,_,_,_,_=>⟨h,aA _⟩
 |w::O,j,s,h,hlp,hq,hk,ho,hw,hj,hlv,h16=>by
  rw[cS]at hlv h16;obtain⟨zbL,Y,U⟩:=jZ h (n:=⟨25,j,[lp]⟩) (Ij hlp hq ac ac) (by split<;>decide) (mI _ _ aS jE aw aS aS aS aS);rw[af ac]at Y;have i:=zb8 ⟨25,j,[lp]⟩ s;have Z:=hw w eQ;have m:old.getD w 0∈old:=by rw[eR,aY Z];exact dW Z
  obtain⟨zbT,J,L⟩:=ue zbL (hk.le i.le.l) Y ((ho _ m).le i.le.l) (.inl rfl);have I:=i.trans (zcR k (zaX ⟨25,j,[lp]⟩ s).1 (old.getD w 0) (zaX ⟨25,j,[lp]⟩ s).2);unfold gC;simp only[];generalize zbi k (zaX ⟨25,j,[lp]⟩ s).1 (old.getD w 0) (zaX ⟨25,j,[lp]⟩ s).2=z at *;have K:z.2.l[lp.toNat]?=some q:=by
   obtain⟨t,M⟩:=I.le.l;rw[<-M,lZ,hq];have:=hlp.hi;have:=hlp.lo;omega
  obtain⟨V,g⟩:=Ko (q:=q) (lp:=lp) (k:=k) (old:=old) O (j+1) {z.2 with vars:=z.2.vars.set w z.1} (zbT.setV (fun y o=>by
   rcases wC o with o|rfl
   .exact zbT.v y o
   .exact J) (by rw[kz];exact zbT.vl)) (hlp.le I.le.l) K (hk.le I.le.l) (fun y o=>(ho y o).le I.le.l) (fun y o=>hw y (fH _ o)) ac ac ac
  exact⟨V,by rw[cS];simp only at g⊢;omega⟩
theorem Kp(b:List Bool):(zct b).length<=b.length:=by
 have:=List.length_filter_le (fun i=>b.getD i false) (List.range b.length)
 rwa [List.length_range]at this
def Dq(c:Cx)(np n:Nat):Prop:=∀x s,SOk c x->2*x.sz<n->LI c np s->s.loops+zbM x<=16->∃r,hB c n x s=some r/\LI c np r/\r.loops<=s.loops+zbM x/\r.l.length<=s.l.length+64*x.sz
def wK(c:Cx)(np n:Nat):Prop:=∀l s,SsOk c l->2*zbC l<n->LI c np s->s.loops+zb7 l<=16->∃r,dR c n l s=some r/\LI c np r/\r.loops<=s.loops+zb7 l/\r.l.length<=s.l.length+64*zbC l
def Dr(c:Cx)(np n:Nat):Prop:=∀x s,SOk c x->x.kind=4->2*x.sz<=n->LI c np s->s.loops+zbM x<=16->∃r,ij c n x s=some r/\LI c np r/\r.loops<=s.loops+zbM x/\r.l.length<=s.l.length+64*x.sz
theorem Zb{c:Cx}(hc:CxOkU c){np n:Nat}(IS:wK c np n):Dr c np (n+1):=fun x s hx hk hsz h hw=>by
 have hs:=x.sz_eq;have hw1:=GW x;rw[aj hk]at hw1;have hv:=hx.value (.inr (.inr (.inr (.inl hk))));unfold ij;obtain⟨r,hr,Z,p2,p3⟩:=pq hc n x.value {s with loops:=s.loops+1} hv ac (h.setN _);have lr:=zci c n _ _ _ hr;have hrn:r.2.loops=s.loops+1:=lr.n;obtain⟨b,hb,hbl⟩:=zX n x.thn (List.replicate r.2.vars.length false) hx.subs.1 ac (by rw[pX];exact Z.vl);rw[hr,cU,hb,cU];simp only[];have hwl:=Kp b;have hnl:=hc.nl;have Y:∀i∈zct b,i<r.2.vars.length:=fun i U=>by have:=IX U;have:=Z.vl;omega
 generalize zct b=O at *;have hm:(16*(s.loops:Int)).tmod 16=0:=by rw[J0 ac];omega
 obtain⟨q1,q2,q3⟩:=jZ Z (n:=⟨3,16*(s.loops:Int),[]⟩) (Ii ac ac) (by split<;>decide) (mI _ _ aS jE aw aS aS aS aS);rw[hm,aj rfl]at q2;have lq:=zb8 ⟨3,16*(s.loops:Int),[]⟩ r.2;generalize zaX ⟨3,16*(s.loops:Int),[]⟩ r.2=q at *;obtain⟨u1,u2⟩:=Kn (k:=s.loops) ac O 0 {q.2 with state:=q.1} (q1.setS q2) ac;have lu:=qe (16*(s.loops:Int)+1) O 0 {q.2 with state:=q.1};generalize ii (16*(s.loops:Int)+1) O 0 {q.2 with state:=q.1}=u at *;have hun:u.loops=s.loops+1:=by rw[lu.2.2.2];show q.2.loops=_;rw[lq.n,hrn]
 obtain⟨t,ht,t1,t2,t3⟩:=IS x.thn u hx.subs.1 ac u1 ac;have lt:=(lL c n).2.1 _ _ _ ht;rw[ht,cU];obtain⟨d,hd,C,d2,d3⟩:=pq hc n x.value t hv ac t1;have ld:=zci c n _ _ _ hd;rw[hd,cU];have V:zcc r.2 d.2:=(lq.le.setS q.1).trans (lu.1.trans (lt.1.trans ld.le));have o:∀y∈r.2.vars,IsT d.2.l 1 y:=fun y M=>(Z.v y M).le V.l;have ho:∀a∈O.map fun i=>r.2.vars.getD i 0,IsT d.2.l 1 a:=fun a ha=>by
  obtain⟨i,U,rfl⟩:=kJ.1 ha;rw[eR,aY (Y i U)];exact o _ (dW _)
 have hn:∀a∈O.map fun i=>d.2.vars.getD i 0,IsT d.2.l 1 a:=fun a ha=>by
  obtain⟨i,U,rfl⟩:=kJ.1 ha;have:=Y i U;have e1:=C.vl;have e2:=Z.vl;rw[eR,aY (show i<d.2.vars.length by omega)];exact C.v _ (dW _)
 have I:(r.2.state::(O.map fun i=>r.2.vars.getD i 0)++[d.1,d.2.state]++O.map fun i=>d.2.vars.getD i 0).length=2*O.length+3:=cc;obtain⟨k1,j,k3⟩:=jZ C (n:=⟨31,s.loops,r.2.state::(O.map fun i=>r.2.vars.getD i 0)++[d.1,d.2.state]++O.map fun i=>d.2.vars.getD i 0⟩) (WC (Z.st.le V.l) ho d2 C.st hn aw cc ac ac) aS (mI _ _ aS jE (by rw[I];omega) aS aS aS aS);have lk:=zb8 ⟨31,s.loops,r.2.state::(O.map fun i=>r.2.vars.getD i 0)++[d.1,d.2.state]++O.map fun i=>d.2.vars.getD i 0⟩ d.2;have hq:(zaX ⟨31,s.loops,r.2.state::(O.map fun i=>r.2.vars.getD i 0)++[d.1,d.2.state]++O.map fun i=>d.2.vars.getD i 0⟩ d.2).2.l[(zaX ⟨31,s.loops,r.2.state::(O.map fun i=>r.2.vars.getD i 0)++[d.1,d.2.state]++O.map fun i=>d.2.vars.getD i 0⟩ d.2).1.toNat]?=some ⟨31,s.loops,r.2.state::(O.map fun i=>r.2.vars.getD i 0)++[d.1,d.2.state]++O.map fun i=>d.2.vars.getD i 0⟩:=Wh _ _;generalize zaX ⟨31,s.loops,r.2.state::(O.map fun i=>r.2.vars.getD i 0)++[d.1,d.2.state]++O.map fun i=>d.2.vars.getD i 0⟩ d.2=k at *;have L:oV (2*O.length+3:Nat)=((O.length+1:Nat):Int):=Cj;have k1':=k1.setV (x:=r.2.vars) (fun y M=>(o y M).le lk.le.l) Z.vl;obtain⟨f1,f2,f3⟩:=jZ k1' (n:=⟨25,0,[k.1]⟩) (Ij (n:=0) j hq ac (by rw[I,L];omega)) aS (mI _ _ aS jE aw aS aS aS aS);rw[aj rfl]at f2;have g:=zb8 ⟨25,0,[k.1]⟩ {k.2 with vars:=r.2.vars};have J:r.2.l<+:(zaX ⟨25,0,[k.1]⟩ {k.2 with vars:=r.2.vars}).2.l:=(V.l.trans lk.le.l).trans g.le.l;have hfv:(zaX ⟨25,0,[k.1]⟩ {k.2 with vars:=r.2.vars}).2.vars=r.2.vars:=g.v;obtain⟨zbL,m2,m3⟩:=ue f1 (p2.le J) f2 (Z.st.le J) (.inr rfl);have lm:=zcR r.1 (zaX ⟨25,0,[k.1]⟩ {k.2 with vars:=r.2.vars}).1 r.2.state (zaX ⟨25,0,[k.1]⟩ {k.2 with vars:=r.2.vars}).2;generalize zaX ⟨25,0,[k.1]⟩ {k.2 with vars:=r.2.vars}=f at *;generalize zbi r.1 f.1 r.2.state f.2=m at *;have K:k.2.l<+:m.2.l:=g.le.l.trans lm.le.l;have hqm:m.2.l[k.1.toNat]?=some ⟨31,s.loops,r.2.state::(O.map fun i=>r.2.vars.getD i 0)++[d.1,d.2.state]++O.map fun i=>d.2.vars.getD i 0⟩:=by
  obtain⟨z,hz⟩:=K;rw[<-hz,lZ,hq];have:=j.hi;have:=j.lo;omega
 obtain⟨z1,z2⟩:=Ko (lp:=k.1) (k:=r.1) (old:=r.2.vars) O 1 {m.2 with state:=m.1} (zbL.setS m2) (j.le K) hqm (p2.le (J.trans lm.le.l)) (fun y M=>(Z.v y M).le (J.trans lm.le.l)) Y (aA _) (by rw[I,L];omega) ac;have lz:=sI k.1 r.1 r.2.vars O 1 {m.2 with state:=m.1};refine⟨_,rfl,z1,?_,?_⟩
 .rw[lz.2.2.2];show m.2.loops<=_;rw[lm.n,g.n];show k.2.loops<=_;rw[lk.n,ld.n];omega
 .simp only at z2 p3 u2 f3⊢;omega
theorem Zc{c:Cx}(V:CxOkU c){np n:Nat}(IS:wK c np n)(IW:Dr c np n):Dq c np (n+1):=fun x s I hsz h hw=>by
 have hs:=x.sz_eq;have hw1:=GW x;have hkd:=I.kd;unfold hB;by_cases k1:x.kind=1
 .rw[aj k1];obtain⟨r,hr,Z,Y,p3⟩:=pq V n x.value s (I.value (.inl k1)) ac h;have O:=zci c n _ _ _ hr;have hn:=I.name (.inl k1);have g:=Z.vl;rw[hr,cU,aj ac];exact⟨_,rfl,Z.setV (fun y o=>by
   rcases wC o with o|rfl
   .exact Z.v y o
   .exact Y) (by rw[kz];exact g),by show r.2.loops<=_;rw[O.n];omega,ru⟩
 rw[af k1];by_cases k2:x.kind=2
 .rw[aj k2];obtain⟨r,hr,Z,Y,p3⟩:=pq V n x.at_ s (I.at_ k2) ac h
  obtain⟨v,hv,q1,q2,q3⟩:=pq V n x.value r.2 (I.value (.inr (.inl k2))) ac Z;have O:=zci c n _ _ _ hr;have lv:=zci c n _ _ _ hv;have L:=I.arr k2;rw[hr,cU,hv,cU,aY L,cU];have ha:=V.a _ (dW L);generalize c.arrays[bS (c.arrays.map (·.name)) x.name]=ar at ha⊢;have p2':=Y.le lv.le.l;obtain⟨C,a2⟩:=Kf q1 (n:=ar.len) jE p2';have zbm:=sG ar.len r.1 v.2;obtain⟨K,U,b3⟩:=Y4 V C (p2'.le zbm.le.l) (q2.le zbm.le.l) L;exact⟨_,rfl,K.setS U,by show(fd ar.len r.1 v.2).loops<=_;rw[zbm.n,lv.n,O.n];omega,ru⟩
 rw[af k2];by_cases k3:x.kind=3
 .rw[aj k3];rw[af ac]at hw1;obtain⟨r,hr,Z,Y,p3⟩:=pq V n x.value s (I.value (.inr (.inr (.inl k3)))) ac h;have O:=zci c n _ _ _ hr;have hrn:=O.n;obtain⟨a,ha,C,a2,a3⟩:=IS x.thn r.2 I.subs.1 ac Z ac;have la:=(lL c n).2.1 _ _ _ ha;have hal:a.vars.length=c.names.length:=C.vl;obtain⟨b,hb,K,U,b3⟩:=IS x.els {a with state:=r.2.state,vars:=r.2.vars} I.subs.2 ac ((C.setS (Z.st.le la.1.l)).setV (fun y o=>(Z.v y o).le la.1.l) Z.vl) (by show a.loops+_<=_;omega);have lb:=(lL c n).2.1 _ _ _ hb;have J:a.l<+:b.l:=lb.1.l;have kb:IsT b.l 1 r.1:=(Y.le la.1.l).le J;have hbl:=K.vl;obtain⟨m,hm,zbL,m2⟩:=Km (k:=r.1) (a:=a.vars) b.vars.length 0 b K kb (fun y o=>(C.v y o).le J) hal ac;have lm:=tR _ _ _ _ _ _ hm;rw[hr,cU,ha,cU,hb,cU,hm,cU];obtain⟨t1,t2,t3⟩:=ue zbL (kb.le lm.1.l) ((C.st.le J).le lm.1.l) zbL.st (.inr rfl);have lt:=zcR r.1 a.state m.state m;have hnl:=V.nl;refine⟨_,rfl,t1.setS t2,?_,?_⟩
  .show(zbi r.1 a.state m.state m).2.loops<=_;rw[lt.n,lm.2.2.2];simp only at U;omega
  .simp only at b3⊢;omega
 rw[af k3];by_cases k4:x.kind=4
 .rw[aj k4];exact IW x s I k4 ac h hw
 rw[af k4];by_cases k5:x.kind=5
 .rw[aj k5];obtain⟨r,hr,Z,Y,p3⟩:=pq V n x.value s (I.value (.inr (.inr (.inr (.inr k5))))) ac h;have O:=zci c n _ _ _ hr;rw[hr,cU];obtain⟨K,U,b3⟩:=Y5 Z Y;exact⟨_,rfl,K.setS U,by show r.2.loops<=_;rw[O.n];omega,ru⟩
 rw[af k5];by_cases k6:x.kind=6
 .rw[aj k6];obtain⟨r,hr,Z,Y,p3⟩:=Kh V (n:=n) x.args s I.args ac h;obtain⟨O,hlr⟩:=sH c n _ _ _ hr;obtain⟨c1,c2⟩:=I.call k6;obtain⟨i,hi,hfe⟩:=G9 c.funcs x.to 0 c1;obtain⟨f,j⟩:=sF c.funcs hi;have M:zbY c.funcs x.to 0=(i:Int):=by simpa using hfe
  have hn:=I.name (.inr k6);have g:=Z.vl;have hpar:r.1.length=f.params.length:=by
   rw[hlr,c2,oc,M,pQ,j];rfl
  rw[hr,cU,aj ⟨c1,ac⟩];simp only[];rw[M];obtain⟨K,U,b3⟩:=Y7 V Z Y j hpar;have lb:=zb8 ⟨30,i,r.2.state::r.1⟩ r.2;generalize zaX ⟨30,i,r.2.state::r.1⟩ r.2=z at *;obtain⟨d1,d2,d3⟩:=Y6 (K.setS U) U;have ld:=zb8 ⟨24,0,[z.1]⟩ {z.2 with state:=z.1};generalize zaX ⟨24,0,[z.1]⟩ {z.2 with state:=z.1}=w at *;refine⟨_,rfl,d1.setV (fun y o=>?_) (by rw[kz];exact d1.vl),?_,?_⟩
  .rcases wC o with o|rfl
   .exact d1.v y o
   .exact d2
  .show w.2.loops<=_;rw[ld.n];show z.2.loops<=_;rw[lb.n,O.n];omega
  .simp only at d3⊢;omega
 rw[af k6];by_cases k7:x.kind=7
 .rw[aj k7];have ht:=I.trap k7;have hw:b9 (16+x.n)=16+x.n:=mr ac ac;rw[hw];obtain⟨C,a2,a3⟩:=wJ h (n:=0) jE;obtain⟨K,U⟩:=Do C (t:=16+x.n) a2 ac ac;have lb:=rh (16+x.n) (zaX ⟨1,0,[]⟩ s).1 (zaX ⟨1,0,[]⟩ s).2;exact⟨_,rfl,K,by rw[lb.n];show s.loops<=_;omega,ac⟩
 .omega
theorem Zd{c:Cx}{np n:Nat}(L:Dq c np n)(C:wK c np n):wK c np (n+1):=fun l s K M h O=>by
 cases l with
 |nil=>exact⟨s,by unfold dR;rfl,h,ac,ac⟩
 |cons x l=>
  obtain⟨I,K⟩:=K.cons;rw[zbC]at M⊢;rw[zb7]at O⊢;unfold dR;simp only[];obtain⟨r,hr,i,V,U⟩:=L x s I ac h ac;obtain⟨t,Z,Y,j,J⟩:=C l r K ac i ac;rw[hr,cU,Z];exact⟨t,rfl,Y,ac,ac⟩
theorem Kq{c:Cx}(V:CxOkU c){np:Nat}:∀n:Nat,Dq c np n/\wK c np n/\Dr c np n
 |0=>⟨fun x s _ h=>ac,fun l s _ h=>ac,fun x s I _ h=>by have:=x.sz_eq;omega⟩
 |n+1=>by
  obtain⟨a,b,d⟩:=Kq V (np:=np) n;exact⟨Zc V b d,Zd a b,Zb V b⟩
end
end Go.Proofs.Ytpbcimfiofmoeaa
