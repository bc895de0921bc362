/- Lemmas for the last file. -/
import Derived.Test.YtbflaciihaijgaaPEM
set_option linter.all false
set_option maxHeartbeats 32000000
namespace Go.Ab
set_option maxRecDepth 20000
open Go
variable{qd:Prop}
def DL(h:qd:=by simp only[List.length_map,dX];omega):=h
def Ia(h:qd:=by have:=(hvq q o m z' e).1;omega):=h
def Pp(h:qd:=by simp only[List.all_cons,List.all_nil,hone];rfl):=h
def DM(h:qd:=by rw[List.length_map,show dX=70368744177664 from rfl];omega):=h
def db(h:qd:=by simp only[bE];omega):=h
def Pq(h:qd:=by rw[o4 _ ac ac,aQ,if_neg ac];exact g2):=h
def Ps(h:qd:=by rw[o4 _ ac ac,aQ,if_pos ac]):=h
def DN(h:qd:=by rw[Hp.get_set,if_neg ac,aQ,if_pos rfl];simp):=h
def DO:=@Int.tmod_nonneg
end Go.Ab
namespace Go.Proofs.Ytbflaciihaijgaa
set_option maxRecDepth 20000
open Go Go.Ab Proofs.Try
variable(ρ:Nat->Int)
variable{f:FuncId}{J:Type}{m c:Int}{cs j a v:qs}{S:Nat->Prop}{n lo r i z q:Nat}{H:Hp}{C O:AV}{L:qu}{tb:qA}{X:Qx}{s:Bd}
section
def tyG3.tyF:=ad @ez (ad @cR (ad @dt (ad @fP (ad @fb (ad @eA (ad @ft (ad @z7 (ad @tL (@vr)))))))))
open tyG3
noncomputable def Pt:{c:SC // aI 115 (f42.body.getD .skip)=c}:=by
 refine⟨?_,?_⟩;rotate_left
 .simp only[f42,bS,aI,bM,bI,bT,bU,Nat.blt,Nat.ble];rfl
noncomputable def DP:qA:=[wm,Dw,Dx]
def DQ(f:FuncId):Bool:=Nat.beq f 40||Nat.beq f 42||Nat.beq f 41||Nat.beq f 78||Nat.beq f 17
structure zfT (l:qA):Prop where
 pick:∀ar,cV l 8 ar=wm.sp ar
 d5:∀ar,cV l 80 ar=Dw.sp ar
 nms:∀ar,cV l 79 ar=Dx.sp ar
 pl:∀f,DQ f=true->(∀ar,cV l f ar=none)/\iL l f=false
def zfT.plain{l:qA}(h:zfT l)(i:DQ f=true):zd0 (aH pls l) f:=dG (h.pl f i).1 (h.pl f i).2
def zc2(h:DQ f=true):f=40\/f=42\/f=41\/f=78\/f=17:=by
 simp only[DQ,oZ]at h;rcases h with(((h|h)|h)|h)|h<;>have e:=jn h<;>subst e<;>simp
def Pu:zfT DP:=⟨fun _=>rfl,fun _=>rfl,fun _=>rfl,fun f i=>by rcases zc2 i with rfl|rfl|rfl|rfl|rfl<;>exact⟨fun _=>rfl,rfl⟩⟩
def zc3:gm prog ρ DP:=⟨HP ρ,zbu ρ,zby ρ,trivial⟩
def xX(m:Int):Int:=if m.tmod 2=0 then 20 else 21
def tc(m:Int):qw:=if m.tmod 2=0 then [97]else [98]
def bQ(f:Int):Nat->Nat->qu->Ex×qu
 |0,_,L=>(.mk 0 0 [] 0 [],L)
 |k+1,deep,L=>
  let n:=(b7 L).1
  let g:=(b7 L).2
  let q:=dr n 16
  let m:=dr (cC (n.tdiv 16)) 1000
  if q<4\/(3:Int)<deep then
   if q.tmod 2=0\/((3:Int)<deep/\8<q)then (.mk 2 0 ((cr f).getD (m.tmod (cr f).length).toNat []) 0 [],g)
   else (.mk 1 (rU m n) [] 0 [],g)
  else if q<6 then (.mk 3 0 (tc m) 0 [(bQ f k (deep+1) g).1],(bQ f k (deep+1) g).2)
  else if q<7 then
   let a:=bQ f k (deep+1) g
   let b:=bQ f k (deep+1) a.2
   let c:=bQ f k (deep+1) b.2
   (.mk 5 0 [] 0 [a.1,b.1,c.1],c.2)
  else if q<9 then (.mk 4 0 [] (xX m) [(bQ f k (deep+1) g).1],(bQ f k (deep+1) g).2)
  else
   let a:=bQ f k (deep+1) g
   let b:=bQ f k (deep+1) a.2
   (.mk 4 0 [] (cC (4+m.tmod 15)) [a.1,b.1],b.2)
def mr(L:qu):(b7 L).2.length<=L.length:=by cases L<;>simp[b7]
theorem eP(f:Int):∀(k V:Nat) (L:qu),(bQ f k V L).2.length<=L.length
 |0,_,_=>aO _
 |k+1,V,L=>by
  have h:=mr L;have ih:=fun L=>eP f k (V+1) L;simp only[bQ];split
  .split<;>exact h
  .split
   .exact dq (ih _) h
   .split
    .exact dq (ih _) (dq (ih _) (dq (ih _) h))
    .split
     .exact dq (ih _) h
     .exact dq (ih _) (dq (ih _) h)
def Ao(z n lo:Nat)(H:Hp)(r:Nat)(i:qs)(L:qu)(c:Int)(v:AV)(H':Hp):Prop:=
 (∃Y,v=.agg Y/\Y.length=z/\Y.all AV.one=true/\cJ (fun q=>H.next<=q) n H' Y i)/\iE lo H' r L c/\H.next<=H'.next/\∀q,q<H.next->q≠r->H'.get q=H.get q
theorem rX(l:List J)(K:(l.length:Int)≠0)(O:0<=m)(d:J):0<=m.tmod l.length/\l[(m.tmod l.length).toNat]?=some (l.getD (m.tmod l.length).toNat d):=by
 have i:=DO (l.length:Int) O;have g:=wc m (b:=(l.length:Int)) ac;refine⟨i,?_⟩;generalize m.tmod l.length=t at *;rw[dF,a0 ac];rfl
def DR(h:0<=m):0<=m.tmod 2/\m.tmod 2<2:=⟨DO _ h,wc _ ac⟩
def td(h:0<=m)(r:Nat):ey prog 60 (.sl r 0 2 1) (.int .i64 (m.tmod 2))=some (.ptr r (m.tmod 2).toNat):=by
 obtain⟨i,g⟩:=DR h;rw[KN _ _ _ _ i,io (by omega:(m.tmod 2).toNat<2)];simp
def zc4(h:0<=m)(r:Nat):ey prog 22 (.sl r 0 2 1) (.int .i64 (m.tmod 2))=some (.ptr r (m.tmod 2).toNat):=by
 obtain⟨i,g⟩:=DR h;rw[KH _ _ _ _ i,io (by omega:(m.tmod 2).toNat<2)];simp
theorem Ib(h:0<=m)(a b:J):[a,b][(m.tmod 2).toNat]?=some (if m.tmod 2=0 then a else b):=by
 obtain⟨i,g⟩:=DR h;rcases(by omega:m.tmod 2=0\/m.tmod 2=1)with e|e<;>rw[e]<;>rfl
theorem te(h:0<=m):[AV.ai [97],AV.ai [98]][(m.tmod 2).toNat]?=some (.ai (tc m)):=by
 rw[Ib h,tc];split<;>rfl
theorem zc5(h:0<=m):[AV.int .i64 20,AV.int .i64 21][(m.tmod 2).toNat]?=some (.int .i64 (xX m)):=by
 rw[Ib h,xX];split<;>rfl
def zc6(s:qw):dK prog 59 [(0,.int .i64 2),(2,.ai s)]=some (.agg [.int .i64 2,.int .i64 0,.ai s,.int .i64 0,.ah]):=aG
def zc7(n:Int):dK prog 59 [(0,.int .i64 1),(1,.int .i64 n)]=some (.agg [.int .i64 1,.int .i64 n,.ai [],.int .i64 0,.ah]):=aG
def zc8(s:qw)(r n:Nat):dK prog 59 [(0,.int .i64 3),(2,.ai s),(4,.sl r 0 n 5)]=some (.agg [.int .i64 3,.int .i64 0,.ai s,.int .i64 0,.sl r 0 n 5]):=aG
def zc9(r n:Nat):dK prog 59 [(0,.int .i64 5),(4,.sl r 0 n 5)]=some (.agg [.int .i64 5,.int .i64 0,.ai [],.int .i64 0,.sl r 0 n 5]):=aG
def Pv(o:Int)(r n:Nat):dK prog 59 [(0,.int .i64 4),(3,.int .i64 o),(4,.sl r 0 n 5)]=some (.agg [.int .i64 4,.int .i64 0,.ai [],.int .i64 o,.sl r 0 n 5]):=aG
def kI(h:cs.length=5):∃a b c d e,cs=[a,b,c,d,e]:=by
 match cs,h with
 |[a,b,c,d,e],_=>exact⟨a,b,c,d,e,rfl⟩
def Ic(H:Hp)(h:cs.length=5)(h1:cs.all AV.one=true):dW prog H 57 1 [(0,.agg cs)]=some (.sl H.next 0 1 5,H.alloc (.cells cs 0 true)):=by
 obtain⟨a,b,c,d,e,rfl⟩:=kI h;kernel_rfl
def zda(H:Hp)(h:cs.length=5)(k:j.length=5):dW prog H 57 2 [(0,.agg cs),(1,.agg j)]=some (.sl H.next 0 2 5,H.alloc (.cells (cs++j) 0 true)):=by
 obtain⟨a,b,c,d,e,rfl⟩:=kI h;obtain⟨O,I,m,i,K,rfl⟩:=kI k;kernel_rfl
def zdb(H:Hp){g:qs}(h:cs.length=5)(k:j.length=5)(l:g.length=5):dW prog H 57 3 [(0,.agg cs),(1,.agg j),(2,.agg g)]=some (.sl H.next 0 3 5,H.alloc (.cells (cs++j++g) 0 true)):=by
 obtain⟨a,b,c,d,e,rfl⟩:=kI h;obtain⟨O,Z,m,i,Y,rfl⟩:=kI k;obtain⟨C,I,J,K,L,rfl⟩:=kI l;kernel_rfl
def Pw(H:Hp)(a b:Int):dW prog H 22 2 [(0,.int .i64 a),(1,.int .i64 b)]=some (.sl H.next 0 2 1,H.alloc (.cells [.int .i64 a,.int .i64 b] 0 true)):=aG
theorem mw(a b c d e:AV):cQ 5 [a,b,c,d,e]=some (.agg [a,b,c,d,e]):=rfl
abbrev qr:HB:=.cells [.ai [97],.ai [98]] 0 true
set_option maxRecDepth 100000 in
theorem my{lG:qA}(hG:zfT lG):∀(k:Nat) (f:Int) (V:Nat),5<=V+k->V<=4->∀(lo:Nat) (H:Hp) (r:Nat) (L:qu) (c:Int),iE lo H r L c->L.length<2^60 ->
 aY prog (aH pls lG) 42 [.ptr r 0,.int .i64 f,.int .i64 V] H (Ao 5 (k+1) lo H r (bQ f k V L).1.cells (bQ f k V L).2 c)
 |0,f,V,i,g,_,_,_,_,_,_,_=>by omega
 |k+1,f,V,i,g,lo,H,r,L,c,hrd,hL=>by
  have hw:zd0 (aH pls lG) 42:=hG.plain ea;have hnx:zd0 (aH pls lG) 40:=hG.plain ea;have hrl:=hrd.1;have hlo:=hrd.2.1;have hq16:(16:Int)≠0:=aM;generalize o:bQ f (k+1) V L=R;rw[bQ]at o;simp only[]at o;refine bF (M:=115) (rs:=[.cell 6 59]) (hw.call _) hw.aD hw.aq func42 rfl rfl Pt.2 rfl ?_;dsimp only[Pt,bA,Nat.reduceAdd];repeat' (first
   |(apply aj ?_;clear hK K)|apply Rx.o ?_|apply aE ?_|apply dE ?_|(apply aX (fun J Z=>?_) (fun J Z=>?_)<;>try(cases J;done))|(apply aA (fun U Y=>?_) (fun U Y=>?_)<;>try(cases U;done))|apply ah ?_|(apply ai fun K hK=>?_)|(apply au 10 [(0,9),(0,12),(4,9),(4,12),(10,12)] fun K hK=>?_)|(apply au 14 [(0,9),(0,12),(4,9),(4,12),(10,12)] fun K hK=>?_)|(apply aS ?_;try intro _)|(apply aT ?_ ?_<;>clear hK K)|apply aR ?_|apply bD rfl ?_|apply ak ?_|apply am ?_|apply aq ?_)
  refine qc ?_;refine bb ?_ (Dy hnx (hrd.keep (dH _) fun q z=>eG) hL);rintro v H2 ⟨rfl,O,n2,o2⟩;simp only[bj]at n2;have g2:H2.get H.next=some qi:=by rw[o2 _ ac,aQ,ay rfl]
  have C:∀q,q<H.next->q≠r->H2.get q=H.get q:=fun q i g=>by rw[o2 q g,aQ,af ac]
  have hL1:=mr L;generalize (b7 L).1=n at *;generalize (b7 L).2=L1 at *;have z:=ll (n:=n) (m:=16) ac ac;have hm:=ll (n:=cC (n.tdiv 16)) (m:=1000) ac ac;have hq2:(2:Int)≠0:=aM;have hq15:(15:Int)≠0:=aM;have hlen0:((cr f).length:Int)≠0:=by rcases sY f with h|h<;>rw[h]<;>decide
  have hwd:IntKind.wrap .i64 ((V:Int)+1)=((V+1:Nat):Int):=hT ac;clear o2;dsimp only[aZ];obtain⟨hi0,hix⟩:=rX (cr f) hlen0 hm.1 [];have hxs:=td hm.1;have hxi:=zc4 hm.1;have hxa:=te hm.1;have hxo:=zc5 hm.1;have kf:∀(H3:Hp) (x:Ex),iE lo H3 r L1 c->H.next<=H3.next->(∀q,q<H.next->q≠r->H3.get q=H.get q)->∀cs,cs.length=5->cs.all AV.one=true->cJ (fun q=>H.next<=q) (k+2) H3 cs x.cells->Ao 5 (k+2) lo H r x.cells L1 c (.agg cs) H3:=fun H3 x q1 q2 q3 cs q4 q5 q6=>⟨⟨cs,rfl,q4,q5,q6⟩,q1,q2,q3⟩
  have gh0:=@zc6;have gh1:=@zc7;have gh2:=@mw;have gh3:=@Pw;repeat' (first
   |(apply aj ?_;clear hK K)|apply Rx.o ?_|apply aE ?_|(apply eC ?_;first|refine bi (Ol hG.nms _ _) ?_|refine bi (wn hG.pick _ _ aM _) ?_|refine bi (zbv hG.d5 _ _ _) ?_)|apply dE ?_|(apply aX (fun J Z=>?_) (fun J Z=>?_)<;>try(cases J;done))|(apply aA (fun U Y=>?_) (fun U Y=>?_)<;>try(cases U;done))|apply ah ?_|(apply ai fun K hK=>?_)|(apply au 10 [(0,9),(0,12),(4,9),(4,12),(10,12)] fun K hK=>?_)|(apply au 14 [(0,9),(0,12),(4,9),(4,12),(10,12)] fun K hK=>?_)|(apply aS ?_;try intro _)|(apply aT ?_ ?_<;>clear hK K)|apply aR ?_|apply bD rfl ?_|apply ak ?_|apply am ?_|apply aq ?_)
  .refine⟨aD,_,(by(try simp only[aF,aW,Nat.reduceBEq,Nat.reduceAdd,Nat.reduceLeDiff,tyF,eh,eM,mw, *]);first|done|with_reducible rfl),?_⟩;try simp only[aC]
   first
   |rw[ay ac,ay ac]at o
   |rw[ay ac,af ac]at o
   subst o;refine kf _ _ ?_ ?_ ?_ _ rfl rfl (uy _ _ _ _)
   .exact O.keep (aO _) fun q z=>jd
   .simp only[bE];omega
   .intro q i g;rw[a1,af ac];exact C q i g
  .refine⟨aD,_,(by(try simp only[aF,aW,Nat.reduceBEq,Nat.reduceAdd,Nat.reduceLeDiff,tyF,eh,eM,mw, *]);first|done|with_reducible rfl),?_⟩;try simp only[aC]
   first
   |rw[ay ac,ay ac]at o
   |rw[ay ac,af ac]at o
   subst o;refine kf _ _ ?_ ?_ ?_ _ rfl rfl (uy _ _ _ _)
   .exact O.keep (aO _) fun q z=>jd
   .simp only[bE];omega
   .intro q i g;rw[a1,af ac];exact C q i g
  .refine⟨aD,_,(by(try simp only[aF,aW,Nat.reduceBEq,Nat.reduceAdd,Nat.reduceLeDiff,tyF,eh,eM,mw, *]);first|done|with_reducible rfl),?_⟩;try simp only[aC]
   first
   |rw[ay ac,ay ac]at o
   |rw[ay ac,af ac]at o
   subst o;refine kf _ _ ?_ ?_ ?_ _ rfl rfl (uy _ _ _ _)
   .exact O.keep (aO _) fun q z=>jd
   .simp only[bE];omega
   .intro q i g;rw[a1,af ac];exact C q i g
  ·-- one operand
   have er:(H.next == r)=false:=bz ac;refine qc ?_;refine bb ?_ (my hG k f (V+1) ac ac lo _ r L1 c (O.keep (dH _) fun q z=>eG) ac);rintro v H4 ⟨⟨cs,rfl,I,hc2,j⟩,hr4,n4,o4⟩;simp only[bj]at n4 o4 j;have g4:H4.get H.next=some qi:=Pq
   have g4s:H4.get (H.next+1)=some qr:=Ps;have kb:=fun H=>Ic H I hc2;have e4:(H.next == H4.next)=false:=bz ac;have e5:(H.next+1 == H4.next)=false:=bz ac;dsimp only[aZ];have gh0:=@mw;have gh1:=@zc8;repeat' (first
    |(apply aj ?_;clear hK K)|apply Rx.o ?_|apply aE ?_|apply dE ?_|(apply aX (fun J Z=>?_) (fun J Z=>?_)<;>try(cases J;done))|(apply aA (fun U Y=>?_) (fun U Y=>?_)<;>try(cases U;done))|apply ah ?_|(apply ai fun K hK=>?_)|(apply au 10 [(0,9),(0,12),(4,9),(4,12),(10,12)] fun K hK=>?_)|(apply au 14 [(0,9),(0,12),(4,9),(4,12),(10,12)] fun K hK=>?_)|(apply aS ?_;try intro _)|(apply aT ?_ ?_<;>clear hK K)|apply aR ?_|apply bD rfl ?_|apply ak ?_|apply am ?_|apply aq ?_)
   .exact di
   .refine⟨aD,_,(by(try simp only[aF,aW,Nat.reduceBEq,Nat.reduceAdd,Nat.reduceLeDiff,tyF,eh,eM,mw, *]);first|done|with_reducible rfl),?_⟩;try simp only[aC]
    rw[af ac,ay ac]at o;subst o;refine⟨⟨_,rfl,rfl,rfl,?_⟩,?_,?_,?_⟩
    .refine z8 (n:=k+1) _ _ _ _ (sZ (n:=k+1) (a:=[cs]) (imm:=0) (tip:=true) (by show H.next<=H4.next;omega) ip DN az ⟨⟨I,j.keep (fun q z=>ac) ip fun q i g=>rN⟩,trivial⟩)
    .exact hr4.keep ip fun q z=>rN
    .simp only[bE,bj];omega
    .intro q i g;rw[a1,af ac,aQ,af ac,o4 _ ac g,aQ,af ac];exact C q i g
  ·-- more operands
   have er:(H.next == r)=false:=bz ac;refine qc ?_;refine bb ?_ (my hG k f (V+1) ac ac lo _ r L1 c O ac);rintro v H4 ⟨⟨cs,rfl,I,hc2,j⟩,hr4,n4,o4⟩;have hl4:=eP f k (V+1) L1;dsimp only[aZ];repeat' (first
    |(apply aj ?_;clear hK K)|apply Rx.o ?_|apply aE ?_|apply dE ?_|(apply aX (fun J Z=>?_) (fun J Z=>?_)<;>try(cases J;done))|(apply aA (fun U Y=>?_) (fun U Y=>?_)<;>try(cases U;done))|apply ah ?_|(apply ai fun K hK=>?_)|(apply au 10 [(0,9),(0,12),(4,9),(4,12),(10,12)] fun K hK=>?_)|(apply au 14 [(0,9),(0,12),(4,9),(4,12),(10,12)] fun K hK=>?_)|(apply aS ?_;try intro _)|(apply aT ?_ ?_<;>clear hK K)|apply aR ?_|apply bD rfl ?_|apply ak ?_|apply am ?_|apply aq ?_)
   refine qc ?_;refine bb ?_ (my hG k f (V+1) ac ac lo H4 r (bQ f k (V+1) L1).2 c hr4 ac);rintro v H5 ⟨⟨ds,rfl,hd1,hd2,hd3⟩,hr5,n5,o5⟩;have hl5:=eP f k (V+1) (bQ f k (V+1) L1).2;dsimp only[aZ];repeat' (first
    |(apply aj ?_;clear hK K)|apply Rx.o ?_|apply aE ?_|apply dE ?_|(apply aX (fun J Z=>?_) (fun J Z=>?_)<;>try(cases J;done))|(apply aA (fun U Y=>?_) (fun U Y=>?_)<;>try(cases U;done))|apply ah ?_|(apply ai fun K hK=>?_)|(apply au 10 [(0,9),(0,12),(4,9),(4,12),(10,12)] fun K hK=>?_)|(apply au 14 [(0,9),(0,12),(4,9),(4,12),(10,12)] fun K hK=>?_)|(apply aS ?_;try intro _)|(apply aT ?_ ?_<;>clear hK K)|apply aR ?_|apply bD rfl ?_|apply ak ?_|apply am ?_|apply aq ?_)
   refine qc ?_;refine bb ?_ (my hG k f (V+1) ac ac lo H5 r (bQ f k (V+1) (bQ f k (V+1) L1).2).2 c hr5 ac);rintro v H6 ⟨⟨es,rfl,he1,he2,he3⟩,hr6,n6,o6⟩;have hl6:=eP f k (V+1) (bQ f k (V+1) (bQ f k (V+1) L1).2).2;dsimp only[aZ];have gz:H6.get H.next=some qi:=by rw[o6 _ ac ac,o5 _ ac ac,o4 _ ac ac];exact g2
   have kb:=fun H=>zdb H I hd1 he1;have e4:(H.next == H6.next)=false:=bz ac;have gh0:=@mw;have gh1:=@zc9;repeat' (first
    |(apply aj ?_;clear hK K)|apply Rx.o ?_|apply aE ?_|apply dE ?_|(apply aX (fun J Z=>?_) (fun J Z=>?_)<;>try(cases J;done))|(apply aA (fun U Y=>?_) (fun U Y=>?_)<;>try(cases U;done))|apply ah ?_|(apply ai fun K hK=>?_)|(apply au 10 [(0,9),(0,12),(4,9),(4,12),(10,12)] fun K hK=>?_)|(apply au 14 [(0,9),(0,12),(4,9),(4,12),(10,12)] fun K hK=>?_)|(apply aS ?_;try intro _)|(apply aT ?_ ?_<;>clear hK K)|apply aR ?_|apply bD rfl ?_|apply ak ?_|apply am ?_|apply aq ?_)
   refine⟨aD,_,(by(try simp only[aF,aW,Nat.reduceBEq,Nat.reduceAdd,Nat.reduceLeDiff,tyF,eh,eM,mw, *]);first|done|with_reducible rfl),?_⟩;try simp only[aC]
   rw[af ac,af ac,ay ac]at o;subst o;refine⟨⟨_,rfl,rfl,rfl,?_⟩,?_,?_,?_⟩
   .refine z8 (n:=k+1) _ _ _ _ (sZ (n:=k+1) (a:=[cs,ds,es]) (imm:=0) (tip:=true) (by show H.next<=H6.next;omega) ip DN az ⟨⟨I,j.keep (fun q z=>ac) ip fun q i g=>by rw[a1,af ac,aQ,af ac,o6 _ ac ac,o5 _ ac ac]⟩,⟨hd1,hd3.keep (fun q z=>ac) ip fun q i g=>by rw[a1,af ac,aQ,af ac,o6 _ ac ac]⟩,⟨he1,he3.keep (fun q z=>ac) ip fun q i g=>rN⟩,trivial⟩)
   .exact hr6.keep ip fun q z=>rN
   .simp only[bE,bj];omega
   .intro q i g;rw[a1,af ac,aQ,af ac,o6 _ ac g,o5 _ ac g,o4 _ ac g];exact C q i g
  ·-- one operand
   have er:(H.next == r)=false:=bz ac;refine qc ?_;refine bb ?_ (my hG k f (V+1) ac ac lo _ r L1 c (O.keep (dH _) fun q z=>eG) ac);rintro v H4 ⟨⟨cs,rfl,I,hc2,j⟩,hr4,n4,o4⟩;simp only[bj]at n4 o4 j;have g4:H4.get H.next=some qi:=Pq
   have g4s:H4.get (H.next+1)=some (.cells [.int .i64 20,.int .i64 21] 0 true):=Ps;have kb:=fun H=>Ic H I hc2;have e4:(H.next == H4.next)=false:=bz ac;have e5:(H.next+1 == H4.next)=false:=bz ac;dsimp only[aZ];have gh0:=@Pw;have gh1:=@mw;have gh2:=@Pv;repeat' (first
    |(apply aj ?_;clear hK K)|apply Rx.o ?_|apply aE ?_|apply dE ?_|(apply aX (fun J Z=>?_) (fun J Z=>?_)<;>try(cases J;done))|(apply aA (fun U Y=>?_) (fun U Y=>?_)<;>try(cases U;done))|apply ah ?_|(apply ai fun K hK=>?_)|(apply au 10 [(0,9),(0,12),(4,9),(4,12),(10,12)] fun K hK=>?_)|(apply au 14 [(0,9),(0,12),(4,9),(4,12),(10,12)] fun K hK=>?_)|(apply aS ?_;try intro _)|(apply aT ?_ ?_<;>clear hK K)|apply aR ?_|apply bD rfl ?_|apply ak ?_|apply am ?_|apply aq ?_)
   .exact di
   .refine⟨aD,_,(by(try simp only[aF,aW,Nat.reduceBEq,Nat.reduceAdd,Nat.reduceLeDiff,tyF,eh,eM,mw, *]);first|done|with_reducible rfl),?_⟩;try simp only[aC]
    rw[af ac,af ac,af ac,ay ac]at o;subst o;refine⟨⟨_,rfl,rfl,rfl,?_⟩,?_,?_,?_⟩
    .refine z8 (n:=k+1) _ _ _ _ (sZ (n:=k+1) (a:=[cs]) (imm:=0) (tip:=true) (by show H.next<=H4.next;omega) ip DN az ⟨⟨I,j.keep (fun q z=>ac) ip fun q i g=>rN⟩,trivial⟩)
    .exact hr4.keep ip fun q z=>rN
    .simp only[bE,bj];omega
    .intro q i g;rw[a1,af ac,aQ,af ac,o4 _ ac g,aQ,af ac];exact C q i g
  ·-- more operands
   have er:(H.next == r)=false:=bz ac;refine qc ?_;refine bb ?_ (my hG k f (V+1) ac ac lo _ r L1 c O ac);rintro v H4 ⟨⟨cs,rfl,I,hc2,j⟩,hr4,n4,o4⟩;have hl4:=eP f k (V+1) L1;dsimp only[aZ];repeat' (first
    |(apply aj ?_;clear hK K)|apply Rx.o ?_|apply aE ?_|apply dE ?_|(apply aX (fun J Z=>?_) (fun J Z=>?_)<;>try(cases J;done))|(apply aA (fun U Y=>?_) (fun U Y=>?_)<;>try(cases U;done))|apply ah ?_|(apply ai fun K hK=>?_)|(apply au 10 [(0,9),(0,12),(4,9),(4,12),(10,12)] fun K hK=>?_)|(apply au 14 [(0,9),(0,12),(4,9),(4,12),(10,12)] fun K hK=>?_)|(apply aS ?_;try intro _)|(apply aT ?_ ?_<;>clear hK K)|apply aR ?_|apply bD rfl ?_|apply ak ?_|apply am ?_|apply aq ?_)
   refine qc ?_;refine bb ?_ (my hG k f (V+1) ac ac lo H4 r (bQ f k (V+1) L1).2 c hr4 ac);rintro v H5 ⟨⟨ds,rfl,hd1,hd2,hd3⟩,hr5,n5,o5⟩;have hl5:=eP f k (V+1) (bQ f k (V+1) L1).2;dsimp only[aZ];have gz:H5.get H.next=some qi:=by rw[o5 _ ac ac,o4 _ ac ac];exact g2
   have kb:=fun H=>zda H I hd1;have e4:(H.next == H5.next)=false:=bz ac;have gh0:=@mw;have gh1:=@Pv;repeat' (first
    |(apply aj ?_;clear hK K)|apply Rx.o ?_|apply aE ?_|apply dE ?_|(apply aX (fun J Z=>?_) (fun J Z=>?_)<;>try(cases J;done))|(apply aA (fun U Y=>?_) (fun U Y=>?_)<;>try(cases U;done))|apply ah ?_|(apply ai fun K hK=>?_)|(apply au 10 [(0,9),(0,12),(4,9),(4,12),(10,12)] fun K hK=>?_)|(apply au 14 [(0,9),(0,12),(4,9),(4,12),(10,12)] fun K hK=>?_)|(apply aS ?_;try intro _)|(apply aT ?_ ?_<;>clear hK K)|apply aR ?_|apply bD rfl ?_|apply ak ?_|apply am ?_|apply aq ?_)
   refine⟨aD,_,(by(try simp only[aF,aW,Nat.reduceBEq,Nat.reduceAdd,Nat.reduceLeDiff,tyF,eh,eM,mw, *]);first|done|with_reducible rfl),?_⟩;try simp only[aC]
   rw[af ac,af ac,af ac,af ac]at o;subst o;refine⟨⟨_,rfl,rfl,rfl,?_⟩,?_,?_,?_⟩
   .refine z8 (n:=k+1) _ _ _ _ (sZ (n:=k+1) (a:=[cs,ds]) (imm:=0) (tip:=true) (by show H.next<=H5.next;omega) ip DN az ⟨⟨I,j.keep (fun q z=>ac) ip fun q i g=>by rw[a1,af ac,aQ,af ac,o5 _ ac ac]⟩,⟨hd1,hd3.keep (fun q z=>ac) ip fun q i g=>rN⟩,trivial⟩)
   .exact hr5.keep ip fun q z=>rN
   .simp only[bE,bj];omega
   .intro q i g;rw[a1,af ac,aQ,af ac,o5 _ ac g,o4 _ ac g];exact C q i g
  .refine⟨aD,_,(by(try simp only[aF,aW,Nat.reduceBEq,Nat.reduceAdd,Nat.reduceLeDiff,tyF,eh,eM,mw, *]);first|done|with_reducible rfl),?_⟩;try simp only[aC]
   first
   |rw[ay ac,ay ac]at o
   |rw[ay ac,af ac]at o
   subst o;refine kf _ _ ?_ ?_ ?_ _ rfl rfl (uy _ _ _ _)
   .exact O.keep (aO _) fun q z=>jd
   .simp only[bE];omega
   .intro q i g;rw[a1,af ac];exact C q i g
  .refine⟨aD,_,(by(try simp only[aF,aW,Nat.reduceBEq,Nat.reduceAdd,Nat.reduceLeDiff,tyF,eh,eM,mw, *]);first|done|with_reducible rfl),?_⟩;try simp only[aC]
   first
   |rw[ay ac,ay ac]at o
   |rw[ay ac,af ac]at o
   subst o;refine kf _ _ ?_ ?_ ?_ _ rfl rfl (uy _ _ _ _)
   .exact O.keep (aO _) fun q z=>jd
   .simp only[bE];omega
   .intro q i g;rw[a1,af ac];exact C q i g
  .refine⟨aD,_,(by(try simp only[aF,aW,Nat.reduceBEq,Nat.reduceAdd,Nat.reduceLeDiff,tyF,eh,eM,mw, *]);first|done|with_reducible rfl),?_⟩;try simp only[aC]
   first
   |rw[ay ac,ay ac]at o
   |rw[ay ac,af ac]at o
   subst o;refine kf _ _ ?_ ?_ ?_ _ rfl rfl (uy _ _ _ _)
   .exact O.keep (aO _) fun q z=>jd
   .simp only[bE];omega
   .intro q i g;rw[a1,af ac];exact C q i g
  .refine⟨aD,_,(by(try simp only[aF,aW,Nat.reduceBEq,Nat.reduceAdd,Nat.reduceLeDiff,tyF,eh,eM,mw, *]);first|done|with_reducible rfl),?_⟩;try simp only[aC]
   first
   |rw[ay ac,ay ac]at o
   |rw[ay ac,af ac]at o
   subst o;refine kf _ _ ?_ ?_ ?_ _ rfl rfl (uy _ _ _ _)
   .exact O.keep (aO _) fun q z=>jd
   .simp only[bE];omega
   .intro q i g;rw[a1,af ac];exact C q i g
end
section
def tyG4.tyF:=ad @cR (ad @fP (ad @fc (ad @xr (ad @fG (ad @dt (ad @fb (ad @eA (@ft))))))))
open tyG4
noncomputable def Px:{c:SC // aI 36 (f41.body.getD .skip)=c}:=by
 refine⟨?_,?_⟩;rotate_left
 .simp only[f41,bS,aI,bM,bI,bT,bU,Nat.blt,Nat.ble];rfl
noncomputable def rY:{c:SC // aI 156 (f78.body.getD .skip)=c}:=by
 refine⟨?_,?_⟩;rotate_left
 .simp only[f78,bS,aI,bM,bI,bT,bU,Nat.blt,Nat.ble];rfl
abbrev cK:=qu×Int
def fZ(step:cK->St×cK):Nat->cK->qD×cK
 |0,s=>([],s)
 |n+1,s=>if s.1=[]then ([],s)else ((step s).1::(fZ step n (step s).2).1,(fZ step n (step s).2).2)
def gy(f:Int):Nat->qu->qG×qu
 |0,L=>([],L)
 |n+1,L=>((bQ f 3 2 L).1::(gy f n (bQ f 3 2 L).2).1,(gy f n (bQ f 3 2 L).2).2)
def jz:Ex:=.mk 0 0 [] 0 []
def lx(m:Int):qw:=if m.tmod 2=0 then [102]else [103]
def gc(C:Int->cK->qD×cK)(f:Int)(g:qu)(c q m:Int):St×cK:=
 if q<6 then (.mk 1 ((cr f).getD (m.tmod (cr f).length).toNat []) [] 0 jz (bQ f 5 0 g).1 [] [] [],((bQ f 5 0 g).2,c))
 else if q<8 then (.mk 2 (tc m) [] 0 (bQ f 3 2 g).1 (bQ f 4 1 (bQ f 3 2 g).2).1 [] [] [],((bQ f 4 1 (bQ f 3 2 g).2).2,c))
 else if q<10 then (.mk 3 [] [] 0 jz (bQ f 4 1 g).1 [] (C 3 ((bQ f 4 1 g).2,c)).1 (C 2 (C 3 ((bQ f 4 1 g).2,c)).2).1,(C 2 (C 3 ((bQ f 4 1 g).2,c)).2).2)
 else if q<12 then (.mk 4 [] [] 0 jz (bQ f 4 1 g).1 [] (C 3 ((bQ f 4 1 g).2,cC (c+1))).1 [],(C 3 ((bQ f 4 1 g).2,cC (c+1))).2)
 else if q<14 then (.mk 5 [] [] 0 jz (bQ f 4 1 g).1 [] [] [],((bQ f 4 1 g).2,c))
 else if q<15 then (.mk 6 ((cr f).getD (m.tmod (cr f).length).toNat []) (lx m) 0 jz jz (gy f (2-m.tmod 2).toNat g).1 [] [],((gy f (2-m.tmod 2).toNat g).2,c))
 else (.mk 7 [] [] m jz jz [] [] [],(g,c))
def wB(deep:Nat)(c U:Int):Int:=if ((2:Int)<deep/\8<=U/\U<12)\/(10<=c/\10<=U)then 0 else U
def uG(C:Int->cK->qD×cK)(f:Int)(deep:Nat)(s:cK):St×cK:=
 gc C f (b7 s.1).2 s.2 (wB deep s.2 (dr (b7 s.1).1 16)) (dr (cC ((b7 s.1).1.tdiv 16)) 1000)
def fS(f:Int):Nat->Nat->cK->St×cK
 |0,_,s=>(.mk 0 [] [] 0 jz jz [] [] [],s)
 |k+1,deep,s=>uG (fun L s=>fZ (fS f k (deep+1)) (dr (b7 s.1).1 (L+1)).toNat ((b7 s.1).2,s.2)) f deep s
def kJ(f:Int)(k deep:Nat)(L:Int)(s:cK):qD×cK:=fZ (fS f k deep) (dr (b7 s.1).1 (L+1)).toNat ((b7 s.1).2,s.2)
theorem Ap{step:cK->St×cK}(h:∀s,(step s).2.1.length<=s.1.length):∀(n:Nat) (s:cK),(fZ step n s).2.1.length<=s.1.length
 |0,_=>aO _
 |n+1,s=>by
  rw[fZ];split
  .exact aO _
  .exact dq (Ap h n _) (h s)
theorem Ie(f:Int):∀(n:Nat) (L:qu),(gy f n L).2.length<=L.length
 |0,_=>aO _
 |n+1,L=>dq (Ie f n _) (eP f 3 2 L)
def zdc{C:Int->cK->qD×cK}(h2:∀(L:Int) (s:cK),(C L s).2.1.length<=s.1.length)(f:Int)(deep:Nat)(s:cK):(uG C f deep s).2.1.length<=s.1.length:=by
 have h:=mr s.1;have z:=eP f 4 1 (b7 s.1).2;have Z:=eP f 5 0 (b7 s.1).2;have I:=eP f 3 2 (b7 s.1).2;have O:=eP f 4 1 (bQ f 3 2 (b7 s.1).2).2;rw[uG,gc];generalize wB deep s.2 (dr (b7 s.1).1 16)=q;by_cases c1:q<6
 .rw[ay c1];exact dq Z h
 rw[af c1];by_cases c2:q<8
 .rw[ay c2];exact dq O (dq I h)
 rw[af c2];by_cases Y:q<10
 .rw[ay Y];exact dq (h2 _ _) (dq (h2 _ _) (dq z h))
 rw[af Y];by_cases J:q<12
 .rw[ay J];exact dq (h2 _ _) (dq z h)
 rw[af J];by_cases V:q<14
 .rw[ay V];exact dq z h
 rw[af V];by_cases U:q<15
 .rw[ay U];exact dq (Ie f _ _) h
 rw[af U];exact h
theorem Aq(f:Int):∀(k V:Nat) (s:cK),(fS f k V s).2.1.length<=s.1.length
 |0,_,_=>aO _
 |k+1,V,s=>zdc (fun L s=>dq (Ap (Aq f k (V+1)) _ _) (mr s.1)) f V s
def xY(k:Int)(nm z:qw)(n:Int)(a v:qs)(C L M:AV):qs:=[.int .i64 k,.ai nm,.ai z,.int .i64 n]++a++v++[C,L,M]
def wC(k:Int)(nm z:qw)(i:Int){Z g:Ex}{L M:AV}{al:qG}{Y V:qD}(j:cJ S (n+1) H a Z.cells)(U:cJ S (n+1) H v g.cells)(h1:ec S (n+1) H C (.ao (al.map Ex.cells)))(h2:ec S (n+1) H L (.ao (Y.map St.cells)))(m:ec S (n+1) H M (.ao (V.map St.cells))):
 cJ S (n+1) H (xY k nm z i a v C L M) (St.mk k nm z i Z g al Y V).cells:=by
 have e:(St.mk k nm z i Z g al Y V).cells=[.int .i64 k,.ai nm,.ai z,.int .i64 i]++Z.cells++g.cells++[.ao (al.map Ex.cells),.ao (Y.map St.cells),.ao (V.map St.cells)]:=by
  rw[vy,pT,pT];rfl
 rw[e];exact(((cJ.cons (.int _ _) (.cons (.ai _) (.cons (.ai _) (.cons (.int _ _) .nil)))).append j).append U).append (.cons h1 (.cons h2 (.cons m .nil)))
def wD:qs:=[.int .i64 0,.int .i64 0,.ai [],.int .i64 0,.ah]
def uH:cJ S (n+1) H wD jz.cells:=uy 0 0 0 []
def zdd(nm:qw)(h:v.length=5):dK prog 124 [(0,.int .i64 1),(1,.ai nm),(5,.agg v)]=some (.agg (xY 1 nm [] 0 wD v .ah .ah .ah)):=by
 obtain⟨a,b,c,d,e,rfl⟩:=kI h;kernel_rfl
def zde(nm:qw)(h:a.length=5)(k:v.length=5):dK prog 124 [(0,.int .i64 2),(1,.ai nm),(4,.agg a),(5,.agg v)]=some (.agg (xY 2 nm [] 0 a v .ah .ah .ah)):=by
 obtain⟨a,b,c,d,e,rfl⟩:=kI h;obtain⟨O,I,m,i,K,rfl⟩:=kI k;kernel_rfl
def zdf(k:Int)(h:v.length=5):dK prog 124 [(0,.int .i64 k),(5,.agg v)]=some (.agg (xY k [] [] 0 wD v .ah .ah .ah)):=by
 obtain⟨a,b,c,d,e,rfl⟩:=kI h;kernel_rfl
def zdg(nm z:qw):dK prog 124 [(0,.int .i64 6),(1,.ai nm),(2,.ai z)]=some (.agg (xY 6 nm z 0 wD wD .ah .ah .ah)):=aG
def zdh(n:Int):dK prog 124 [(0,.int .i64 7),(3,.int .i64 n)]=some (.agg (xY 7 [] [] n wD wD .ah .ah .ah)):=aG
def zdi(h:cs.length=17):∃c0 c1 c2 L J I Z U o V K Y m O M C z,cs=[c0,c1,c2,L,J,I,Z,U,o,V,K,Y,m,O,M,C,z]:=by
 match cs,h with
 |[c0,c1,c2,L,J,I,Z,U,o,V,K,Y,m,O,M,C,z],_=>exact⟨c0,c1,c2,L,J,I,Z,U,o,V,K,Y,m,O,M,C,z,rfl⟩
def zdj(H:Hp)(h:cs.length=17):dW prog H 61 1 [(0,.agg cs)]=some (.sl H.next 0 1 17,H.alloc (.cells cs 0 true)):=by
 obtain⟨c0,c1,c2,L,J,I,Z,U,o,V,K,Y,m,O,M,C,z,rfl⟩:=zdi h;kernel_rfl
def zdk(z n lo:Nat)(H:Hp)(r:Nat)(i:List qs)(L:qu)(c:Int)(v:AV)(H':Hp):Prop:=
 dQ (fun q=>H.next<=q) n H' z v i/\iE lo H' r L c/\H.next<=H'.next/\∀q,q<H.next->q≠r->H'.get q=H.get q
def iE.len(h:iE lo H r L c):∃v,H.get r=some (.cells [v,.int .i64 c] 0 true)/\∀H',ij prog H' 22 v=some (.int .i64 L.length):=by
 obtain⟨_,_,v,i,g⟩:=h;refine⟨v,i,fun H'=>?_⟩;rcases g with⟨rfl,rfl⟩|⟨b,I,Y,Z,rfl,_⟩
 .exact Kq underlying22 _
 .exact y0 underlying22 _ _ _ _
def pF(i:qA)(k:Nat)(f:Int)(deep:Nat):Prop:=∀(j:Nat) (H:Hp) (r:Nat) (s:cK),iE j H r s.1 s.2->s.1.length<2^60 ->
 aY prog (aH pls i) 78 [.ptr r 0,.int .i64 f,.int .i64 deep] H (Ao 17 (8+k) j H r (fS f k deep s).1.cells (fS f k deep s).2.1 (fS f k deep s).2.2)
set_option maxRecDepth 100000 in
theorem As{lG:qA}(hG:zfT lG){k:Nat}{f:Int}{deep:Nat}(hst:pF lG k f deep)(L:Int)(h0:0<=L)(h1:L<=5)(lo:Nat)(H:Hp)(r:Nat)(s:cK)(hrd:iE lo H r s.1 s.2)(hL:s.1.length<2^60):
 aY prog (aH pls lG) 41 [.ptr r 0,.int .i64 f,.int .i64 deep,.int .i64 L] H (zdk 17 (8+k) lo H r ((kJ f k deep L s).1.map St.cells) (kJ f k deep L s).2.1 (kJ f k deep L s).2.2):=by
 have hw:zd0 (aH pls lG) 41:=hG.plain ea;have hkeep:(aH pls lG).keep 41=false:=rfl;have hnx:zd0 (aH pls lG) 40:=hG.plain ea;have hrl:=hrd.1;have hlo:=hrd.2.1;have hw1:IntKind.wrap .i64 (L+1)=L+1:=iN ac ac;rw[kJ];refine bF (M:=36) (rs:=[.tmp 8]) (hw.call _) hw.aD hw.aq func41 rfl rfl Px.2 rfl ?_;dsimp only[Px,bA,Nat.reduceAdd];repeat' (first
  |(apply aj ?_;clear hK K)|apply Rx.o ?_|(apply aX (fun J g=>?_) (fun J g=>?_)<;>try(cases J;done))|(apply aA (fun V Z=>?_) (fun V Z=>?_)<;>try(cases V;done))|apply ah ?_|(apply ai fun K hK=>?_)|apply ak ?_|apply am ?_|apply aq ?_|apply aw ?_)
 refine qc ?_;refine bb ?_ (Dy hnx hrd hL);rintro v H2 ⟨rfl,hr2,n2,o2⟩;have hL1:=mr s.1;generalize (b7 s.1).1=n at *;generalize (b7 s.1).2=L1 at *;have hm1:L+1≠0:=ac;have hp:=ll (n:=n) (m:=L+1) ac ac;generalize hc:(dr n (L+1)).toNat=I at *;have hpc:dr n (L+1)=(I:Int):=ac;dsimp only[aZ];repeat' (first
  |(apply aj ?_;clear hK K)|apply Rx.o ?_|(apply eC ?_;first|refine bi (wn hG.pick _ _ hm1 _) ?_)|(apply aX (fun J g=>?_) (fun J g=>?_)<;>try(cases J;done))|(apply aA (fun V Z=>?_) (fun V Z=>?_)<;>try(cases V;done))|apply ah ?_|(apply ai fun K hK=>?_)|apply ak ?_|apply am ?_|apply aq ?_|apply aw ?_)
 refine Yq [0,1,2,8] [] (fun i E C=>i<=I/\E.at 10=.int .i64 i/\∃v l Y,E.at 9=v/\dQ (fun q=>H.next<=q) (8+k) C 17 v (l.map St.cells)/\iE lo C r Y.1 Y.2/\(∀q,q<H.next->q≠r->C.get q=H.get q)/\l.length+i=I/\Y.1.length<2^60 /\
  fZ (fS f k deep) I (L1,s.2)=(l++(fZ (fS f k deep) i Y).1,(fZ (fS f k deep) i Y).2)) I ⟨aO _,(by first|(simp only[aF,Nat.reduceBEq,hpc, *];done)|rfl),.ah,[],(L1,s.2),eE,.inl ⟨rfl,rfl⟩,hr2,fun q h1 z=>o2 q z,az,uk,az⟩ ?_
 rintro i E C hcE hrH hnH ⟨hic,hsI,v,l,Y,k9,U,hr3,o3,hli,hsl,hJ⟩;(try simp only[bp,bm,aU,aF,aW,Nat.reduceBEq,Nat.reduceAdd,Nat.reduceLeDiff,tyF, *]at hcE);obtain⟨lv,hgr,hlen⟩:=hr3.len;have hle:H.next<=C.next:=ac
 repeat' (first
  |(apply aj ?_;clear hK K)|apply Rx.o ?_|(apply aX (fun J g=>?_) (fun J g=>?_)<;>try(cases J;done))|(apply aA (fun V Z=>?_) (fun V Z=>?_)<;>try(cases V;done))|apply ah ?_|(apply ai fun K hK=>?_)|apply ak ?_|apply am ?_|apply aq ?_|apply aw ?_)
 .refine qc ?_;refine bb ?_ (hst lo C r Y hr3 hsl);rintro v' H4 ⟨⟨cs,rfl,hc1,hc2,hc3⟩,hr4,n4,o4⟩;have kb:=fun H=>zdj H hc1;dsimp only[aZ];repeat' (first
   |(apply aj ?_;clear hK K)|apply Rx.o ?_|(apply aX (fun J g=>?_) (fun J g=>?_)<;>try(cases J;done))|(apply aA (fun V Z=>?_) (fun V Z=>?_)<;>try(cases V;done))|apply ah ?_|(apply ai fun K hK=>?_)|apply ak ?_|apply am ?_|apply aq ?_|apply aw ?_)
  have hvq:∀q o m z',v=.sl q o m z'->H.next<=q/\q<C.next:=fun q o m z' e=>by
   rcases U with⟨rfl,_⟩|⟨q',imm,rows,rfl,e1,e2,_⟩
   .cases e
   .simp only[AV.sl.injEq]at e;rw[<-e.1];exact⟨e1,e2⟩
  have O:dQ (fun q=>H.next<=q) (8+k) (H4.alloc (.cells cs 0 true)) 17 v (l.map St.cells):=U.keep (fun q _ h=>h) dL fun q h1 z=>by rw[aQ,af ac,o4 q z ac]
  obtain⟨v5,H5,a5,s5,n5,f5,q5⟩:=dQ.push (P:=prog) (t:=61) underlying61 Gc KX KY rfl aG O dL (r:=H4.next) (imm:=0) (row:=cs) (w:=(fS f k deep Y).1.cells) gD hc1 hc2 (hc3.aR (fun q h1 z=>⟨ac,fun o m z' e=>by have:=(hvq q o m z' e).2;omega⟩) (dH _) fun q h1 z=>eG) DL DL;refine jr cS cS GU ?_;have hi0:0<i:=ac;obtain⟨i,rfl⟩:∃j,i=j+1:=⟨i-1,ac⟩;have hwd:IntKind.wrap .i64 (((i+1:Nat):Int)-1)=(i:Int):=CX;simp only[bj]at n5 f5;have n5':C.next<=H5.next:=ac
  have o5:∀q,q<H.next->q≠r->H5.get q=H.get q:=fun q h1 z=>by rw[f5 q ac (fun o m z' e=>Ia),aQ,af ac,o4 q ac z,o3 q h1 z]
  have hr5:iE lo H5 r (fS f k deep Y).2.1 (fS f k deep Y).2.2:=hr4.keep ac fun q hq=>by rw[f5 q ac (fun o m z' e=>Ia),aQ,af ac]
  clear n5 f5 a5 O o4 hr4;repeat' (first
   |(apply aj ?_;clear hK K)|apply Rx.o ?_|(apply aX (fun J g=>?_) (fun J g=>?_)<;>try(cases J;done))|(apply aA (fun V Z=>?_) (fun V Z=>?_)<;>try(cases V;done))|apply ah ?_|(apply ai fun K hK=>?_)|apply ak ?_|apply am ?_|apply aq ?_|apply aw ?_)
  have hne:Y.1≠[]:=by
   intro e;have:Y.1.length=0:=by rw[e];rfl
   omega
  have hsd:=Aq f k deep Y;refine⟨(by simp only[bp,bm,aU,aF,aW,Nat.reduceBEq,Nat.reduceAdd,Nat.reduceLeDiff,tyF, *]),(by simp only[bm]),ac,i,cI _,ac,eE,v5,l++[(fS f k deep Y).1],(fS f k deep Y).2,eE,by rw[sw];exact s5,hr5,o5,ca,ac,?_⟩;rw[hJ,fZ,af hne];simp
 all_goals
  all_goals refine qq ?_
  have hfin:fZ (fS f k deep) i Y=([],Y):=by
   rcases(by omega:i=0\/Y.1.length=0)with h|h
   .rw[h];rfl
   .cases i with
    |zero=>rfl
    |succ i=>rw[fZ,ay (Ju h)]
  rw[hJ,hfin];exact⟨by rw[jI];exact U,hr3,hle,o3⟩
end
section
theorem uI(h:0<=m):[AV.ai [102],AV.ai [103]][(m.tmod 2).toNat]?=some (.ai (lx m)):=by
 rw[Ib h,lx];split<;>rfl
def zdl{P:Program}{cfg:Cfg}{f N:Nat}{a:SC}{E:aB}{Q:AX->aB->Hp->Prop}(F:aB->Hp->Prop)(h1:cb P cfg f N a E H fun x E' H'=>x=.normal/\F E' H')(h2:∀E' H',F E' H'->Q .normal E' H'):cb P cfg f N a E H Q:=
 cb.mono (fun x E' H' h=>by obtain⟨rfl,h⟩:=h;exact h2 E' H' h) h1
def iE.d7(h:iE lo H r L c):∃v,H.get r=some (.cells [v,.int .i64 c] 0 true)/\∀m,iE lo (H.set r (.cells [v,.int .i64 m] 0 true)) r L m:=by
 obtain⟨O,j,v,i,g⟩:=h;refine⟨v,i,fun m=>⟨O,j,v,gL,?_⟩⟩;rcases g with g|⟨b,I,V,Z,o,J,U,Y,M⟩
 .exact .inl g
 .exact .inr ⟨b,I,V,Z,o,by rw[a1,af Y];exact J,U,Y,M⟩
theorem zdm(nm:qw)(O i M K L:AV):dK prog 124 [(0,.int .i64 1),(1,.ai nm),(5,.agg [O,i,M,K,L])]=some (.agg [.int .i64 1,.ai nm,.ai [],.int .i64 0,.int .i64 0,.int .i64 0,.ai [],.int .i64 0,.ah,O,i,M,K,L,.ah,.ah,.ah]):=zdd nm rfl
theorem zdn(nm:qw)(mA bK bW g m O i M K L:AV):dK prog 124 [(0,.int .i64 2),(1,.ai nm),(4,.agg [mA,bK,bW,g,m]),(5,.agg [O,i,M,K,L])]=some (.agg [.int .i64 2,.ai nm,.ai [],.int .i64 0,mA,bK,bW,g,m,O,i,M,K,L,.ah,.ah,.ah]):=zde nm rfl rfl
theorem Py(k:Int)(O i M K L:AV):dK prog 124 [(0,.int .i64 k),(5,.agg [O,i,M,K,L])]=some (.agg [.int .i64 k,.ai [],.ai [],.int .i64 0,.int .i64 0,.int .i64 0,.ai [],.int .i64 0,.ah,O,i,M,K,L,.ah,.ah,.ah]):=zdf k rfl
def zdo(nm z:qw):dK prog 124 [(0,.int .i64 6),(1,.ai nm),(2,.ai z)]=some (.agg [.int .i64 6,.ai nm,.ai z,.int .i64 0,.int .i64 0,.int .i64 0,.ai [],.int .i64 0,.ah,.int .i64 0,.int .i64 0,.ai [],.int .i64 0,.ah,.ah,.ah,.ah]):=zdg nm z
def Pz(n:Int):dK prog 124 [(0,.int .i64 7),(3,.int .i64 n)]=some (.agg [.int .i64 7,.ai [],.ai [],.int .i64 n,.int .i64 0,.int .i64 0,.ai [],.int .i64 0,.ah,.int .i64 0,.int .i64 0,.ai [],.int .i64 0,.ah,.ah,.ah,.ah]):=zdh n
theorem tf(c0 c1 c2 L J I Z U o V K Y m O M C z:AV):cQ 17 [c0,c1,c2,L,J,I,Z,U,o,V,K,Y,m,O,M,C,z]=some (.agg [c0,c1,c2,L,J,I,Z,U,o,V,K,Y,m,O,M,C,z]):=rfl
def PA:cP prog 124=some [.int .i64 0,.ai [],.ai [],.int .i64 0,.int .i64 0,.int .i64 0,.ai [],.int .i64 0,.ah,.int .i64 0,.int .i64 0,.ai [],.int .i64 0,.ah,.ah,.ah,.ah]:=aG
def uJ{a b c d e:AV}(h:[a,b,c,d,e].all AV.one=true):AV.one a=true/\AV.one b=true/\AV.one c=true/\AV.one d=true/\AV.one e=true:=by
 simp only[oy,oz,kW,co]at h;exact⟨h.1,h.2.1,h.2.2.1,h.2.2.2.1,h.2.2.2.2⟩
def wE{z:Hp}{x:St}(K:cs.length=17)(j:cs.all AV.one=true)(V:cJ (fun q=>H.next<=q) n z cs x.cells)(hr:iE lo z r L c)(C:H.next<=z.next)(I:∀q,q<H.next->q≠r->z.get q=H.get q):Ao 17 n lo H r x.cells L c (.agg cs) z:=⟨⟨cs,rfl,K,j,V⟩,hr,C,I⟩
def oK:SC->SC
 | .seq _ b=>b
 |x=>x
noncomputable def nU:SC:=oK (oK (oK (oK (oK (oK rY.1)))))
noncomputable def rZ(f:Int)(k deep:Nat):Int->cK->qD×cK:=fun L s=>fZ (fS f k (deep+1)) (dr (b7 s.1).1 (L+1)).toNat ((b7 s.1).2,s.2)
abbrev qh:HB:=.cells [.int .i64 0,.ai [],.ai [],.int .i64 0,.int .i64 0,.int .i64 0,.ai [],.int .i64 0,.ah,.int .i64 0,.int .i64 0,.ai [],.int .i64 0,.ah,.ah,.ah,.ah] 0 true
structure AtT (f:Int) (deep lo:Nat) (H H2:Hp) (r:Nat) (L1:qu) (c q m:Int) (E2:aB):Prop where
 hd:deep<=3
 hrl:r<lo
 hlo:lo<=H.next
 n2:H2.next=H.next+1
 g2:H2.get H.next=some qh
 o2:∀q,q<H.next->q≠r->H2.get q=H.get q
 hr2:iE lo H2 r L1 c
 hL:L1.length<2^60
 hm:0<=m/\m<1000
 hqd:8<=q->q<12->deep<=2
 k0:E2.at 0=.ptr r 0
 k1:E2.at 1=.int .i64 f
 k2:E2.at 2=.int .i64 deep
 k6:E2.at 6=.ptr H.next 0
 k8:E2.at 8=cM (cr f)
 k9:E2.at 9=.int .i64 m
 k10:E2.at 10=.int .i64 q
def nV(k:Nat)(f:Int)(deep lo:Nat)(H:Hp)(r:Nat)(g:qu)(c q m:Int):AX->aB->Hp->Prop:=fun x E' H'=>(x=.normal\/x=.ret)/\∃vs,eh prog E' H' [.cell 6 124]=some vs/\Ao 17 (8+(k+1)) lo H r (gc (rZ f k deep) f g c q m).1.cells (gc (rZ f k deep) f g c q m).2.1 (gc (rZ f k deep) f g c q m).2.2 (aC vs) H'
noncomputable def If:En:=⟨18,true,ch (fun p=>p.sz<2^36) fA fun p=>.int .i64 (fK p)⟩
def zdp:cT prog ρ If:=dg fun p hp=>zc1 ρ p hp
namespace tyLoL
end tyLoL
open tyLoL
theorem zdq:∀(l:List cc) (o:cc),bJ l o=false->cY l o=0
 |[],_,_=>rfl
 |a::l,o,h=>by
  have M:bJ (a::l) o=(decide (a=o)||bJ l o):=rfl;rw[M,kS,lH]at h;rw[cY,af h.1,h.2];rfl
def PB(p:Pr)(n:Nat):Prop:=∀f∈p.funcs,∃s v,gK (mo p f) n f.body (jk f)=some s/\eX (mo p f) n f.value s=some v/\Fin v.2
def zdr(H:Hp)(h:cs.length=5)(h1:cs.all AV.one=true):dW prog H 24 1 [(0,.agg cs)]=some (.sl H.next 0 1 5,H.alloc (.cells cs 0 true)):=by
 obtain⟨a,b,c,d,e,rfl⟩:=kI h;kernel_rfl
end
section
def tySnC.tyF:=ad @ez (ad @cR (ad @fP (@ol)))
open tySnC
noncomputable def DS:{c:SC // aI 45 (f64.body.getD .skip)=c}:=by
 refine⟨?_,?_⟩;rotate_left
 .simp only[f64,bS,aI,bM,bI,bT,bU,Nat.blt,Nat.ble];rfl
def tg(x:Nd×Nd):qs:=[.agg x.1.cells,.agg x.2.cells]
def zds(x y:Nd×Nd)(h:tg x=tg y):x=y:=by
 simp only[tg,dR,AV.agg.injEq,aU]at h;exact pw (tT h.1) (tT h.2)
def DT(x:Nd×Nd):Prop:=x.1.ak.length<2^60
def zdt{s w:qu}(K:s.length=w.length)(z:i<s.length):decide (s.drop i=w.drop i)=(decide (s.getD i 0=w.getD i 0)&&decide (s.drop (i+1)=w.drop (i+1))):=by
 rw[eU z,eU (l:=w) ac];rw[dF,dF,a0 z,a0 (by omega:i<w.length)];simp only[bS,dR,Bool.decide_and]
theorem zdu(x:Nd×Nd)(hx:DT x):bX prog ρ 64 (tg x) (.bool (decide (x.1=x.2))):=eg fit (pls:=pls) (l:=[]) trivial (.cons (.agg (zk _)) (.cons (.agg (zk _)) .nil)) (.bool _) (by
 obtain⟨⟨o1,i1,s⟩,⟨o2,i2,w⟩⟩:=x;have L:=fj 64;unfold DT at hx;rw[tg];simp only[Nd.cells]at hx⊢;have hd:decide ((⟨o1,i1,s⟩:Nd)=⟨o2,i2,w⟩)=(decide (o1=o2)&&decide (i1=i2)&&decide (s=w)):=by
  simp[Bool.decide_and,zo]
 rw[hd];by_cases C:w.length=s.length
 .clear hd;refine bF (M:=45) (rs:=[.tmp 4]) (L.call _) L.aD L.aq func64 rfl rfl DS.2 rfl ?_;dsimp only[DS,bA,Nat.reduceAdd];repeat' (first
   |(apply aj ?_;clear hK K)|apply Ry.o ?_|(apply ct (fun J Z=>?_) (fun J Z=>?_)<;>try(cases J;done))|(apply bq (fun o g=>?_) (fun o g=>?_)<;>try(cases o;done))|apply ah ?_|(apply ai fun K hK=>?_)|(apply au 6 [(1,11),(4,11),(6,11),(9,11)] fun K hK=>?_)|(apply aS ?_;try intro _)|(apply aT ?_ ?_<;>clear hK K)|apply aR ?_|apply ak ?_|apply am ?_|apply aq ?_|apply aw ?_)
  all_goals first
   |(refine⟨aD,_,oq,?_⟩;try simp only[aC]
     simp_all;done)
   |skip
  refine cA [2,3] [0,1] 5 s.length (fun i E H=>decide (s=w)=decide (s.drop i=w.drop i)) eE az ?_;rintro i E V hi m U O hsI I;(try simp only[bp,bm,aU,aF,aW,Nat.reduceBEq,Nat.reduceAdd,Nat.reduceLeDiff,tyF, *]at m);(try simp only[bp,bm,aU,aF,aW,Nat.reduceBEq,Nat.reduceAdd,Nat.reduceLeDiff,tyF, *]at U);(try simp only[bj,bE,cm,bO,Nat.reduceAdd]at O);have hB0:(0 == V.next)=false:=bz ac;have hC0:(V.next == 0)=false:=bz ac;have hB1:(1 == V.next)=false:=bz ac;have hC1:(V.next == 1)=false:=bz ac;repeat' (first
   |(apply aj ?_;clear hK K)|apply Rx.o ?_|(apply aA (fun o g=>?_) (fun o g=>?_)<;>try(cases o;done))|apply ah ?_|(apply ai fun K hK=>?_)|(apply au 6 [(1,11),(4,11),(6,11),(9,11)] fun K hK=>?_)|(apply aS ?_;try intro _)|(apply aT ?_ ?_<;>clear hK K)|apply aR ?_|apply ak ?_|apply am ?_|apply aq ?_|apply aw ?_)
  .have z:i<s.length:=by simpa using o
   have j:s[i]?=some s[i]:=a0 z;have hgy:w[i]?=some (w[i]' ac):=a0 ac;have Y:=zdt C.symm z;rw[dF,dF,j,hgy]at Y;simp only[bS]at Y;generalize s[i]=x at *;generalize w[i]' ac=y at *;repeat' (first
    |(apply aj ?_;clear hK K)|apply Rx.o ?_|(apply aA (fun o g=>?_) (fun o g=>?_)<;>try(cases o;done))|apply ah ?_|(apply ai fun K hK=>?_)|(apply au 6 [(1,11),(4,11),(6,11),(9,11)] fun K hK=>?_)|(apply aS ?_;try intro _)|(apply aT ?_ ?_<;>clear hK K)|apply aR ?_|apply ak ?_|apply am ?_|apply aq ?_|apply aw ?_)
   .exact di
   .all_goals refine qq ?_
    rw[I,Y];simp_all
   .refine⟨ac,a2,a2,ce,zl,?_⟩;rw[I,Y];simp_all
  .repeat' (first
    |(apply aj ?_;clear hK K)|apply Rx.o ?_|(apply aA (fun o g=>?_) (fun o g=>?_)<;>try(cases o;done))|apply ah ?_|(apply ai fun K hK=>?_)|(apply au 6 [(1,11),(4,11),(6,11),(9,11)] fun K hK=>?_)|(apply aS ?_;try intro _)|(apply aT ?_ ?_<;>clear hK K)|apply aR ?_|apply ak ?_|apply am ?_|apply aq ?_|apply aw ?_)
   all_goals refine qq ?_
   rw[I,show i=s.length by simp at o;omega,fU,<-C,fU];simp_all
 .have hne:¬s=w:=fun e=>C mE;have hl2:¬(s.length:Int)=w.length:=ac;clear hd;refine bF (M:=45) (rs:=[.tmp 4]) (L.call _) L.aD L.aq func64 rfl rfl DS.2 rfl ?_;dsimp only[DS,bA,Nat.reduceAdd];repeat' (first
   |(apply aj ?_;clear hK K)|apply Ry.o ?_|(apply ct (fun J Z=>?_) (fun J Z=>?_)<;>try(cases J;done))|(apply bq (fun o g=>?_) (fun o g=>?_)<;>try(cases o;done))|apply ah ?_|(apply ai fun K hK=>?_)|(apply au 6 [(1,11),(4,11),(6,11),(9,11)] fun K hK=>?_)|(apply aS ?_;try intro _)|(apply aT ?_ ?_<;>clear hK K)|apply aR ?_|apply ak ?_|apply am ?_|apply aq ?_|apply aw ?_)
  all_goals
   refine⟨aD,_,oq,?_⟩;try simp only[aC]
   rw[iy hne,sG])
end
section
def tyQaB.tyF:=ad @ez (ad @cR (ad @fP (ad @iU (ad @ol (ad @gO (ad @ft (ad @rF (ad @dt (ad @gH (ad @iV (ad @l9 (@zbM))))))))))))
open tyQaB
noncomputable def PC:{c:SC // aI 52 (f37.body.getD .skip)=c}:=by
 refine⟨?_,?_⟩;rotate_left
 .simp only[f37,bS,aI,bM,bI,bT,bU,Nat.blt,Nat.ble];rfl
noncomputable def PD:{c:SC // aI 25 (f74.body.getD .skip)=c}:=by
 refine⟨?_,?_⟩;rotate_left
 .simp only[f74,bS,aI,bM,bI,bT,bU,Nat.blt,Nat.ble];rfl
noncomputable def PE:{c:SC // aI 28 (f75.body.getD .skip)=c}:=by
 refine⟨?_,?_⟩;rotate_left
 .simp only[f75,bS,aI,bM,bI,bT,bU,Nat.blt,Nat.ble];rfl
def Ig(H:Hp):dW prog H 22 0 []=some (.sl H.next 0 0 1,H.alloc qe):=aG
theorem PF{z:Nat}:∀{rows:List qs}{i:Nat}{r:qs},(∀x∈rows,x.length=z)->rows[i]?=some r->rows.flatten.drop (i*z)=r++(rows.drop (i+1)).flatten
 |[],i,r,_,e=>by simp at e
 |a::rows,0,r,h,e=>by
  simp only[nC,aJ]at e;subst e;simp
 |a::rows,i+1,r,h,e=>by
  have j:=h a ei;have ih:=PF (rows:=rows) (i:=i) (r:=r) (fun x I=>h x (ej _ I)) (by simpa using e);have o:(i+1)*z=a.length+i*z:=by rw[wX,j];omega
  rw[od,o,List.drop_length_add_append,ih];rfl
def At{rows:List qs}{r:qs}(h:∀x∈rows,x.length=z)(e:rows[i]?=some r):cQ z (rows.flatten.drop (i*z))=some (.agg r):=by
 have hr:=h r (lV e);rw[PF h e];unfold cQ;rw[Bm ac,gZ ac,ay hr]
def Ih(f:FuncId):Bool:=Nat.beq f 37||Nat.beq f 74||Nat.beq f 75||Nat.beq f 77||Nat.beq f 76||Nat.beq f 39||Nat.beq f 140||Nat.beq f 38||Nat.beq f 73||Nat.beq f 120
noncomputable def DU:En:=⟨64,true,ch DT tg fun x=>.bool (decide (x.1=x.2))⟩
def zdv:cT prog ρ DU:=dg fun x I=>zdu ρ x I
structure zd5 (tb:qA):Prop where
 pl:∀f,Ih f=true->(∀ar,cV tb f ar=none)/\iL tb f=false
 sn:∀ar,cV tb 64 ar=(rL DU).sp ar
 sni:iL tb 64=true
 ff:∀ar,cV tb 118 ar=xM.sp ar
def zd5.plain(h:zd5 tb)(i:Ih f=true):zd0 (aH pls tb) f:=dG (h.pl f i).1 (h.pl f i).2
theorem zdw(y:Nd×Nd):(tg y).any (nL 90)=false:=by obtain⟨⟨a,b,c⟩,⟨d,e,f⟩⟩:=y;rfl
def zdx(V:zd5 tb){x y:Nd}(C:n<57)(Z:cJ S n H cs x.cells)(hd:cJ S n H j y.cells)(I:x.ak.length<2^60):
 aY prog (aH pls tb) 64 [.agg cs,.agg j] H fun w H'=>w=.bool (decide (x=y))/\Icy S H H':=by
 obtain⟨J,i,g⟩:cJ S (n+1) H [.agg cs,.agg j] (tg (x,y)):=.cons (.agg Z) (.cons (.agg hd) .nil);exact G3 (x:=((x,y):Nd×Nd)) (enc:=tg) (ok:=DT) (out:=fun x=>.bool (decide (x.1=x.2))) zds (fun o=>by rw[V.sn];rfl) V.sni zdw I ac i (g 60 ac)
def dQ.get{v:AV}{V:List qs}(h:dQ S n H z v V){w:qs}(U:V[i]?=some w):∃(q L:Nat) (Z:List qs) (Y:qs),v=.sl q 0 V.length z/\S q/\q<H.next/\H.get q=some (.cells Z.flatten L true)/\Z[i]?=some Y/\Y.length=z/\(∀x∈Z,x.length=z)/\cJ (fun k=>S k/\k≠q) n H Y w:=by
 rcases h with⟨_,g⟩|⟨q,L,Z,e,O,g,m,I,M⟩
 .subst g;simp at U
 .have K:=cy.len M;have J:i<V.length:=by
   by_cases c:i<V.length
   .exact c
   .rw[kV ac]at U;cases U
  have hr:Z[i]?=some Z[i]:=a0 ac;obtain⟨k1,k2⟩:=cy.get M hr U;exact⟨q,L,Z,_,by rw[e,K],O,g,m,hr,k1,eO.len M,k2⟩
def Au(h:i<n):ey prog 30 (.sl q 0 n 3) (.int .i64 (i:Int))=some (.ptr q (i*3)):=by rw[tM underlying30 ze h];simp
def zd1.b4{H':Hp}{o:Nat->Prop}{vv:AV}(h:zd1 X H S s O vv)(z:Icy o H H')(hd:∀k,o k->k<H.next->X.b<k/\¬bc vv k/\¬bc X.nv k):zd1 X H' S s O vv:=by
 have J:∀k,k<H.next->(k<=X.b\/bc vv k\/bc X.nv k)->H'.get k=H.get k:=fun k j hc=>z.out k fun e=>by
  have:=hd k e j;rcases hc with hc|hc|hc
  .omega
  .exact this.2.1 hc
  .exact this.2.2 hc
 have C:=z.next
 refine⟨by rw[J _ h.o5 (.inl (aO _))];exact h.m,h.nm.keep ac fun k j=>J k (h.nS k j).2.1 (.inr (.inr j)),h.ag.cZ ac fun k _ _=>z.same k,h.vars.keep ac fun k j=>J k (h.vS k j).2 (.inr (.inl j)),by rw[C];exact h.o5,fun k j=>?_,fun k j=>?_,fun k j=>?_⟩
 .rw[C];exact h.nS k j
 .rw[C];exact h.sS k j
 .rw[C];exact h.vS k j
def Ii{v:AV}{l:qu}(V:fI H v l lo)(K:l.length<2^38):∃Z H',dm prog false (H.alloc qe) 22 22 (.sl H.next 0 0 1) v=some (Z,H')/\ik H' Z l H.next/\H.next+1<=H'.next/\(∀k,k<H.next->H'.get k=H.get k):=by
 have j:∀k,k<H.next->(H.alloc qe).get k=H.get k:=fun k j=>eG
 have Y:sI (H.alloc qe) (.sl H.next 0 0 1) [] H.next:=⟨H.next,rfl,gR,aO _,cI _⟩
 have z:fI (H.alloc qe) v l lo:=V.keep (dH _) fun k h=>j k (V.lt h).2;by_cases O:l=[]
 .subst O;refine⟨_,_,?_,.inr Y,aO _,j⟩;rcases z with⟨rfl,_⟩|⟨r,L,rfl,g,_⟩
  .simp only[dm,underlying22,jL,o7,pd,show iR prog 22=true by kernel_rfl,fN]
  .have U:=tZ g;simp only[gM]at U;simp only[dm,underlying22,jL,o7,pd,show iR prog 22=true by kernel_rfl,gM,U]
 .have I:fN (H.alloc qe) 1 v=some (l.length,l.map (.int .i64)):=by
   rcases z with⟨_,h⟩|⟨r,L,rfl,g,_⟩
   .exact(O h).elim
   .exact tZ g
  obtain⟨Z,H',i,g,m,M,_⟩:=GD (v:=.sl H.next 0 0 1) (l:=[]) (lo:=H.next) (.inr Y) dL I O ca;rw[pJ]at g;simp only[bj]at m;exact⟨Z,H',i,.inr g,ac,fun k h=>by rw[M k h,j k h]⟩
def oL(i:Nat)(l:List cc)(s:cc):Nat:=if bJ l s=true then i+cY l s else 0
def PG(l:List cc)(s:cc):cY l s=oL 0 l s:=by
 unfold oL;split
 .omega
 .rename_i h;exact zdq l s i9
theorem PH(i:Nat)(l:List cc)(s:cc):oL i (s::l) s=i:=by
 have h:bJ (s::l) s=true:=by simp[bJ]
 rw[oL,ay h,cY,ay rfl];rfl
def PI{a:cc}{l:List cc}{s:cc}(h:a≠s):oL i (a::l) s=oL (i+1) l s:=by
 have e:bJ (a::l) s=bJ l s:=by simp[bJ,h]
 unfold oL;rw[e,cY,af h];split
 .omega
 .rfl
def zdy(hG:zd5 tb){lv vv:AV}(V:zd1 X H S s lv vv)(nm:cc)(hl:X.ns.length<2^40):
 aY prog (aH pls tb) 74 [.ptr X.b 0,.ai nm] H fun v H'=>v=.int .i64 ((cY X.ns nm:Nat):Int)/\H'=H:=by
 have I:zd0 (aH pls tb) 74:=hG.plain ea;have cz:=V.m;unfold bV at cz;have C:∀H',ij prog H' 60 X.nv=some (.int .i64 X.ns.length):=fun H'=>by
  rcases V.nm with⟨e,h⟩|h
  .rw[e,h];exact BZ underlying60
  .exact h.len
 rw[PG];refine bF (M:=25) (rs:=[.tmp 4]) (I.call _) I.aD I.aq func74 rfl rfl PD.2 rfl ?_;dsimp only[PD,bA,Nat.reduceAdd];repeat' (first
  |(apply aj ?_;clear hK K)|apply Rx.o ?_|apply ah ?_|(apply ai fun K hK=>?_)|apply ak ?_|apply am ?_|apply aq ?_|apply aw ?_)
 refine cA [0,1] [] 5 X.ns.length (fun i E U=>U=H/\oL 0 X.ns nm=oL i (X.ns.drop i) nm) eE ⟨rfl,az⟩ ?_;rintro i E U hi m O L hsI ⟨J,Z⟩;(try simp only[bp,bm,aU,aF,aW,Nat.reduceBEq,Nat.reduceAdd,Nat.reduceLeDiff,tyF, *]at m);(try simp only[bp,bm,aU,aF,aW,Nat.reduceBEq,Nat.reduceAdd,Nat.reduceLeDiff,tyF, *]at O);(try simp only[bj,bE,cm,bO,Nat.reduceAdd]at L);subst J;by_cases z:i<X.ns.length
 .have Y:(i:Int)<X.ns.length:=by omega
  have hB:dI U X.nv X.ns 0:=by
   rcases V.nm with⟨e,h⟩|h
   .rw[h]at z;simp at z
   .exact h
  obtain⟨r,hix,hld⟩:=hB.at z;rw[eU z]at Z;generalize X.ns[i]=a at *;by_cases j:a=nm
  .subst j;rw[PH]at Z;repeat' (first
    |(apply aj ?_;clear hK K)|apply Ry.o ?_|(apply bq (fun o g=>?_) (fun o g=>?_)<;>try(cases o;done))|apply ah ?_|(apply ai fun K hK=>?_)|apply ak ?_|apply am ?_|apply aq ?_|apply aw ?_)
   all_goals refine qq ?_
   refine⟨?_,trivial⟩;rw[Z]
  .rw[PI j]at Z;repeat' (first
    |(apply aj ?_;clear hK K)|apply Ry.o ?_|(apply bq (fun o g=>?_) (fun o g=>?_)<;>try(cases o;done))|apply ah ?_|(apply ai fun K hK=>?_)|apply ak ?_|apply am ?_|apply aq ?_|apply aw ?_)
   refine⟨ac,a2,a2,ce,(by simp only[aF,Nat.reduceBEq, *];exact gQ (n:=X.ns.length) ac ac),?_⟩;exact⟨rfl,Z⟩
 .have Y:¬(i:Int)<X.ns.length:=by omega
  have hd:X.ns.drop i=[]:=oB ac;rw[hd]at Z;repeat' (first
   |(apply aj ?_;clear hK K)|apply Ry.o ?_|(apply bq (fun o g=>?_) (fun o g=>?_)<;>try(cases o;done))|apply ah ?_|(apply ai fun K hK=>?_)|apply ak ?_|apply am ?_|apply aq ?_|apply aw ?_)
  all_goals refine qq ?_
  refine⟨?_,trivial⟩;rw[Z];simp[oL,bJ]
def zdz(I:zd5 tb){vv:AV}(hR:zd1 X H S s C vv)(nm:cc)(hl:X.p.aa.length<2^40):
 aY prog (aH pls tb) 75 [.ptr X.b 0,.ai nm] H fun v H'=>v=.int .i64 ((cY (X.p.aa.map (·.name)) nm:Nat):Int)/\H'=H:=by
 have L:zd0 (aH pls tb) 75:=I.plain ea;have cz:=hR.m;unfold bV at cz;rw[PG];refine bF (M:=28) (rs:=[.tmp 4]) (L.call _) L.aD L.aq func75 rfl rfl PE.2 rfl ?_;dsimp only[PE,bA,Nat.reduceAdd];repeat' (first
  |(apply aj ?_;clear hK K)|apply Rx.o ?_|apply ah ?_|(apply ai fun K hK=>?_)|apply ak ?_|apply am ?_|apply aq ?_|apply aw ?_)
 refine cA [0,1] [] 5 X.p.aa.length (fun i E J=>J=H/\oL 0 (X.p.aa.map (·.name)) nm=oL i ((X.p.aa.drop i).map (·.name)) nm) eE ⟨rfl,az⟩ ?_;rintro i E J hi m V U hsI ⟨O,Z⟩;(try simp only[bp,bm,aU,aF,aW,Nat.reduceBEq,Nat.reduceAdd,Nat.reduceLeDiff,tyF, *]at m);(try simp only[bp,bm,aU,aF,aW,Nat.reduceBEq,Nat.reduceAdd,Nat.reduceLeDiff,tyF, *]at V);(try simp only[bj,bE,cm,bO,Nat.reduceAdd]at U);subst O;by_cases z:i<X.p.aa.length
 .have Y:(i:Int)<X.p.aa.length:=by omega
  have hgx:X.p.aa[i]?=some X.p.aa[i]:=a0 z;rw[eU z,dS]at Z;generalize X.p.aa[i]=a at *;by_cases j:a.name=nm
  .rw[<-j]at Z;rw[PH]at Z;repeat' (first
    |(apply aj ?_;clear hK K)|apply Ry.o ?_|(apply bq (fun o g=>?_) (fun o g=>?_)<;>try(cases o;done))|apply ah ?_|(apply ai fun K hK=>?_)|apply ak ?_|apply am ?_|apply aq ?_|apply aw ?_)
   all_goals refine qq ?_
   refine⟨?_,trivial⟩;rw[<-j,Z]
  .rw[PI j]at Z;repeat' (first
    |(apply aj ?_;clear hK K)|apply Ry.o ?_|(apply bq (fun o g=>?_) (fun o g=>?_)<;>try(cases o;done))|apply ah ?_|(apply ai fun K hK=>?_)|apply ak ?_|apply am ?_|apply aq ?_|apply aw ?_)
   refine⟨ac,a2,a2,ce,(by simp only[aF,Nat.reduceBEq, *];exact gQ (n:=X.p.aa.length) ac ac),?_⟩;exact⟨rfl,Z⟩
 .have Y:¬(i:Int)<X.p.aa.length:=by omega
  have hd:X.p.aa.drop i=[]:=oB ac;rw[hd]at Z;repeat' (first
   |(apply aj ?_;clear hK K)|apply Ry.o ?_|(apply bq (fun o g=>?_) (fun o g=>?_)<;>try(cases o;done))|apply ah ?_|(apply ai fun K hK=>?_)|apply ak ?_|apply am ?_|apply aq ?_|apply aw ?_)
  all_goals refine qq ?_
  refine⟨?_,trivial⟩;rw[Z];simp[oL,bJ]
set_option maxRecDepth 100000 in
theorem DV(hG:zd5 tb){lv vv kv:AV}(C:zd1 X H S s lv vv)(n:Nd)(j:fI H kv n.ak lo)(hF:Fin (ax n s).2):
 aY prog (aH pls tb) 37 [.ptr X.b 0,.int .i64 n.op,.int .i64 n.au,kv] H (rk X S vv H (ax n s)):=by
 have hw:zd0 (aH pls tb) 37:=hG.plain ea;have hkeep:(aH pls tb).keep 37=false:=rfl;have hr:=hF.r;have hn:NdR n:=hr n (sX.2 (.inr rfl));have hnl:=hn.len;have hlen:s.l.length<2^36:=z5 (wl s.l n).length_le hF.l;have o5:=C.o5;obtain⟨J,z,a5,s5,n5,f5⟩:=Ii j ac;have hb3:=zbP s5.n n.op n.au;have hone0:=s5.n.one;refine bF (M:=52) (rs:=[.tmp 8]) (hw.call _) hw.aD hw.aq func37 rfl rfl PC.2 rfl ?_;dsimp only[PC,bA,Nat.reduceAdd];have gh0:=@Ig;repeat' (first
  |(apply aj ?_;clear hK K)|apply Rx.o ?_|apply aE ?_|apply ah ?_|(apply ai fun K hK=>?_)|(apply au 5 [(3,8),(6,8),(7,8)] fun K hK=>?_)|(apply au 7 [(4,7),(5,7),(6,7)] fun K hK=>?_)|(apply aS ?_;try intro _)|(apply aT ?_ ?_<;>clear hK K)|apply aR ?_|apply bD rfl ?_|apply ak ?_|apply am ?_|apply aq ?_|apply aw ?_)
 generalize hHb:Hp.set (Hp.alloc z _) _ _=Hb;have nb:Hb.next=z.next+1:=by rw[<-hHb];rfl
 have gb:Hb.get z.next=some (.cells [.int .i64 n.op,.int .i64 n.au,J] 0 true):=CW
 have ob:∀k,k<z.next->Hb.get k=z.get k:=fun k j=>M6
 have oo:∀k,k<H.next->Hb.get k=H.get k:=fun k j=>by rw[ob k ac,f5 k j]
 clear hHb;have R1:zd1 X Hb S s lv vv:=C.keep ac fun k j _=>oo k j;have hv5:fI Hb J n.ak H.next:=s5.n.keep ac fun k j=>ob k (s5.n.lt j).2
 have hone:=hv5.one;have Z:∀k,bc J k->H.next<=k/\k<z.next:=fun k j=>⟨(s5.n.lt j).1,(s5.n.lt j).2⟩
 clear a5 s5 f5 ob;refine cA [0,9] [] 10 s.l.length (fun i E Y=>zd1 X Y S s lv vv/\Y.get z.next=some (.cells [.int .i64 n.op,.int .i64 n.au,J] 0 true)/\fI Y J n.ak H.next/\(∀k,k<H.next->¬S k->Y.get k=H.get k)/\iB s.l n=i+iB (s.l.drop i) n) eE ⟨R1,gb,hv5,fun k V _=>oo k V,az⟩ ?_;clear gb hv5 R1;rintro i E Y hi hcE hrH hnH hsI ⟨I,gi,vi,oi,L⟩;(try simp only[bp,bm,aU,aF,aW,Nat.reduceBEq,Nat.reduceAdd,Nat.reduceLeDiff,tyF, *]at hcE);(try simp only[bp,bm,aU,aF,aW,Nat.reduceBEq,Nat.reduceAdd,Nat.reduceLeDiff,tyF, *]at hrH);(try simp only[bj,bE,cm,bO,Nat.reduceAdd]at hnH);have ni:Hb.next<=Y.next:=hnH
 have mi:=I.m;have hll:∀H',ij prog H' 30 lv=some (.int .i64 s.l.length):=fun H'=>by
  have:=I.ag.len (P:=prog) (t:=30) (H':=H') underlying30
  rwa [dx]at this
 unfold bV at mi;by_cases hlt:i<s.l.length
 .have hlt':(i:Int)<s.l.length:=by omega
  have hgx:s.l[i]?=some s.l[i]:=a0 hlt;have hxr:NdR s.l[i]:=hr _ (sX.2 (.inl (cL hlt)));rw[eU hlt,zbp]at L;generalize s.l[i]=x at *;have hxl:=hxr.len;obtain⟨q,imm,rows,row,hlv,hq1,hq2,hq3,hr1,hr2,hr3,hr4⟩:=I.ag.get (i:=i) (w:=x.cells) (by rw[fO,hgx];rfl);rw[dx]at hlv;subst hlv;have hixa:=Au (q:=q) hlt;have hag:=At hr3 hr1;have hld:eY prog Y 35 (.ptr q (i*3))=some (.agg row):=by
   rw[pS,hq3];exact hag
  have hnd:=Oq (S:=fun k=>S k\/bc J k) n.op n.au vi fun k j=>.inr j;have hcx:cJ (fun k=>S k\/bc J k) 2 Y row x.cells:=hr4.keep (fun k j=>.inl j.1) (aO _) fun _ _ _=>rfl;repeat' (first
   |(apply aj ?_;clear hK K)|apply Ry.o ?_|apply b8 ?_|(apply bq (fun O g=>?_) (fun O g=>?_)<;>try(cases O;done))|apply ah ?_|(apply ai fun K hK=>?_)|(apply au 5 [(3,8),(6,8),(7,8)] fun K hK=>?_)|(apply au 7 [(4,7),(5,7),(6,7)] fun K hK=>?_)|(apply aS ?_;try intro _)|(apply aT ?_ ?_<;>clear hK K)|apply aR ?_|apply bD rfl ?_|apply ak ?_|apply am ?_|apply aq ?_|apply aw ?_)
  refine qc ?_;refine bb ?_ (zdx hG (n:=2) ac hcx hnd ac);rintro _ Hj ⟨rfl,hI⟩;have Rj:=I.b4 hI fun k V h2=>by
   rcases V with V|V
   .exact⟨(I.sS k V).1,(I.sS k V).2.2,fun e=>(I.nS k e).2.2.1 V⟩
   .have:=Z k V;exact⟨ac,fun e=>by have:=(C.vS k e).2;omega,fun e=>by have:=(C.nS k e).2.1;omega⟩
  have mj:=Rj.m;have vj:=vi.b4 hI;have gj:Hj.get z.next=some (.cells [.int .i64 n.op,.int .i64 n.au,J] 0 true):=by
   rw[hI.out _ (fun e=>by
    rcases e with e|e
    .have:=(C.sS _ e).2.1;omega
    .have:=(Z _ e).2;omega)]
   exact gi
  have oj:∀k,k<H.next->¬S k->Hj.get k=H.get k:=fun k V h2=>by
   rw[hI.out _ (fun e=>by
    rcases e with e|e
    .exact h2 e
    .have:=(Z _ e).1;omega)]
   exact oi k V h2
  have hldj:eY prog Hj 35 (.ptr q (i*3))=some (.agg row):=by
   rcases hI.same q with e|⟨cs,a,b,tip,e1,e2,_⟩
   .rw[pS,<-e,hq3];exact hag
   .rw[hq3]at e1;simp only[aJ,HB.cells.injEq]at e1;obtain⟨rfl,rfl,rfl⟩:=e1;rw[pS,e2];exact hag
  have nj:=hI.next
  unfold bV at mj;dsimp only[aZ];by_cases he:x=n
  .rw[ay he]at L;repeat' (first
    |(apply aj ?_;clear hK K)|apply Ry.o ?_|apply b8 ?_|(apply bq (fun O g=>?_) (fun O g=>?_)<;>try(cases O;done))|apply ah ?_|(apply ai fun K hK=>?_)|(apply au 5 [(3,8),(6,8),(7,8)] fun K hK=>?_)|(apply au 7 [(4,7),(5,7),(6,7)] fun K hK=>?_)|(apply aS ?_;try intro _)|(apply aT ?_ ?_<;>clear hK K)|apply aR ?_|apply bD rfl ?_|apply ak ?_|apply am ?_|apply aq ?_|apply aw ?_)
   .exact di
   all_goals refine qq ?_
   have e1:ax n s=(((iB s.l n:Nat):Int),s):=by rw[ax,jy,ay ac]
   rw[rk,e1,L];exact⟨az,S,_,Rj,⟨ac,fun k V _ h3 _=>oj k V h3,fun k h=>.inl h,fun k h=>.inl h⟩⟩
  .rw[af he]at L;repeat' (first
    |(apply aj ?_;clear hK K)|apply Ry.o ?_|apply b8 ?_|(apply bq (fun O g=>?_) (fun O g=>?_)<;>try(cases O;done))|apply ah ?_|(apply ai fun K hK=>?_)|(apply au 5 [(3,8),(6,8),(7,8)] fun K hK=>?_)|(apply au 7 [(4,7),(5,7),(6,7)] fun K hK=>?_)|(apply aS ?_;try intro _)|(apply aT ?_ ?_<;>clear hK K)|apply aR ?_|apply bD rfl ?_|apply ak ?_|apply am ?_|apply aq ?_|apply aw ?_)
   .exact di
   refine⟨ac,a2,a2,ce,(by simp only[aF,Nat.reduceBEq, *];exact gQ (n:=s.l.length) ac ac),?_⟩;exact⟨Rj,gj,vj,oj,ac⟩
 .have hlt':¬(i:Int)<s.l.length:=by omega
  have hd:s.l.drop i=[]:=oB ac;rw[hd]at L;have hi0:iB [] n=0:=rfl;have hixl:iB s.l n=s.l.length:=ac;have hadd:jy s.l n=s.l++[n]:=by rw[jy,af ac]
  have hpo:ax n s=(((iB s.l n:Nat):Int),{s with l:=s.l++[n] }):=by rw[ax,hadd]
  have hSk:∀k,S k->X.b<k/\k<H.next:=fun k h=>⟨(C.sS k h).1,(C.sS k h).2.1⟩
  have hlS:∀k o m z',lv=.sl k o m z'->S k:=fun k o m z' e=>by
   rcases I.ag with⟨V,_⟩|⟨q,im,rows,V,h2,_⟩
   .rw[V]at e;cases e
   .rw[V]at e;simp only[AV.sl.injEq]at e;rw[<-e.1];exact h2
  have hbs:∀H,dW prog H 30 1 [(0,.agg [.int .i64 n.op,.int .i64 n.au,J])]=some (.sl H.next 0 1 3,H.alloc (.cells [.int .i64 n.op,.int .i64 n.au,J] 0 true)):=fun H=>wo H rfl Pp;have g4:∀k,k<Y.next->(Y.alloc (.cells [.int .i64 n.op,.int .i64 n.au,J] 0 true)).get k=Y.get k:=fun k j=>eG
  obtain⟨H6,a6,s6,n6,q6⟩:=HR (P:=prog) (t:=30) underlying30 ze FV FW rfl aG (S':=fun k=>S k\/bc J k\/k=Y.next+1)
   (I.ag.keep (S':=S) (H':=Y.alloc (.cells [.int .i64 n.op,.int .i64 n.au,J] 0 true)) (fun _ _ h=>h) (dH _) fun k j h6=>g4 k h6)
   (fun k _ h=>.inl h) (.inr (.inr rfl)) (r:=Y.next) (imm:=0) (row:=[.int .i64 n.op,.int .i64 n.au,J]) (w:=n.cells) gD rfl Pp
   (Oq n.op n.au (lo:=H.next) (vi.keep (dH _) fun k j=>g4 k (vi.lt j).2) fun k hk2=>⟨.inr (.inl hk2),fun o m z' e=>by have:=hSk k (hlS k o m z' e);have:=Z k hk2;omega⟩)
   DM DM
  rw[dx]at a6 s6;simp only[bj]at a6 s6 n6 q6;have hno:∀k,¬S k->∀o m z',lv≠.sl k o m z':=fun k j o m z' e=>j (hlS k o m z' e);have m4:(Y.alloc (.cells [.int .i64 n.op,.int .i64 n.au,J] 0 true)).get X.b=some (.cells (bV X s lv vv) 0 true):=by rw[g4 _ I.o5];exact I.m
  have ge4:(Y.alloc (.cells [.int .i64 n.op,.int .i64 n.au,J] 0 true)).get z.next=some (.cells [.int .i64 n.op,.int .i64 n.au,J] 0 true):=by rw[g4 _ ac];exact gi
  have U:∀k,k<Y.next->¬S k->H6.get k=Y.get k:=fun k V h2=>by rw[q6 k ac (hno k h2),g4 k V]
  have m6:H6.get X.b=some (.cells (bV X s lv vv) 0 true):=by rw[U _ I.o5 fun e=>by have:=hSk _ e;omega];exact I.m
  have ge6:H6.get z.next=some (.cells [.int .i64 n.op,.int .i64 n.au,J] 0 true):=by rw[U _ ac fun e=>by have:=hSk _ e;omega];exact gi
  have ew:IntKind.wrap .i64 (((s.l.length+1:Nat):Int)-1)=s.l.length:=CX;have fin:rk X S vv H (ax n s) (.int .i64 s.l.length) (H6.set X.b (.cells (bV X {s with l:=s.l++[n] } (.sl (Y.next+1) 0 (s.l.length+1) 3) vv) 0 true)):=by
   rw[rk,hpo,hixl];have g6:∀k,k≠X.b->(H6.set X.b (.cells (bV X {s with l:=s.l++[n] } (.sl (Y.next+1) 0 (s.l.length+1) 3) vv) 0 true)).get k=H6.get k:=fun k j=>uo;refine⟨rfl,fun k=>S k\/bc J k\/k=Y.next+1,_,⟨gL,I.nm.keep db fun k j=>?_,?_,I.vars.keep db fun k j=>?_,db,fun k j=>?_,?_,fun k j=>?_⟩,⟨db,fun k V h2 h3 h4=>?_,?_,fun k h=>.inl h⟩⟩
   .have:=I.nS k j;rw[g6 k ac,U k this.2.1 this.2.2.1]
   .have e:(s.l++[n]).map Nd.cells=s.l.map Nd.cells++[n.cells]:=by simp
    rw[e];refine s6.keep (fun _ _ h=>h) (aO _) fun k j _=>g6 k ?_;rcases j with j|j|j
    .have:=hSk k j;omega
    .have:=Z k j;omega
    .have:=I.o5;omega
   .have h9:=I.vS k j;rw[g6 k ac,U k h9.2 fun e=>(I.sS k e).2.2 j]
   .have h9:=I.nS k j;have h8:=C.nS k j;refine⟨h9.1,db,?_,h9.2.2.2⟩;rintro(e|e|e)
    .exact h9.2.2.1 e
    .have:=Z k e;omega
    .omega
   .rintro k (j|j|j)
    .have h9:=I.sS k j;exact⟨h9.1,db,h9.2.2⟩
    .have h8:=Z k j;exact⟨ac,db,fun e=>by have:=(C.vS k e).2;omega⟩
    .refine⟨by have:=I.o5;omega,db,fun e=>?_⟩;have:=(I.vS k e).2;omega
   .have:=I.vS k j;simp only[bE];omega
   .rw[g6 k h2,U k ac h3];exact oi k V h3
   .rintro k (j|j|j)
    .exact .inl j
    .exact .inr (Z k j).1
    .exact .inr ac
  unfold bV at m4 m6 fin;clear s6 U g4 q6 hno hlS;repeat' (first
   |(apply aj ?_;clear hK K)|apply Ry.o ?_|apply b8 ?_|(apply bq (fun O g=>?_) (fun O g=>?_)<;>try(cases O;done))|apply ah ?_|(apply ai fun K hK=>?_)|(apply au 5 [(3,8),(6,8),(7,8)] fun K hK=>?_)|(apply au 7 [(4,7),(5,7),(6,7)] fun K hK=>?_)|(apply aS ?_;try intro _)|(apply aT ?_ ?_<;>clear hK K)|apply aR ?_|apply bD rfl ?_|apply ak ?_|apply am ?_|apply aq ?_|apply aw ?_)
  all_goals first
   |exact di
   |skip
  all_goals refine qq ?_
  exact fin
def ly(V:zd5 tb){vv:AV}(o:zd1 X H S s O vv)(n:Nd){m:Nat}(U:n.ak.length=m)(J:H.get r=some (.cells (n.ak.map (.int .i64)) 0 true))(Z:r<H.next)(L:Fin (ax n s).2){op imm:Int}(M:n.op=op)(Y:n.au=imm):
 aY prog (aH pls tb) 37 [.ptr X.b 0,.int .i64 op,.int .i64 imm,.sl r 0 m 1] H (rk X S vv H (ax n s)):=by
 subst U;subst M;subst Y;exact DV (lo:=0) V o n (.inr ⟨r,0,rfl,J,dN _,dN _,Z⟩) L
def r0(V:zd5 tb){vv:AV}(o:zd1 X H S s O vv)(op imm:Int)(U:Fin (ax ⟨op,imm,[]⟩ s).2):
 aY prog (aH pls tb) 37 [.ptr X.b 0,.int .i64 op,.int .i64 imm,.ah] H (rk X S vv H (ax ⟨op,imm,[]⟩ s)):=
 DV (lo:=0) V o ⟨op,imm,[]⟩ (.inl ⟨rfl,rfl⟩) U
end
section
def tyQaC.tyF:=ad @cR (ad @dt (ad @fP (ad @gH (ad @iU (ad @iV (ad @gO (ad @ft (ad @l9 (ad @rF (ad @Ot (@z9)))))))))))
open tyQaC
noncomputable def DW:{c:SC // aI 19 (f77.body.getD .skip)=c}:=by
 refine⟨?_,?_⟩;rotate_left
 .simp only[f77,bS,aI,bM,bI,bT,bU,Nat.blt,Nat.ble];rfl
noncomputable def PJ:{c:SC // aI 35 (f76.body.getD .skip)=c}:=by
 refine⟨?_,?_⟩;rotate_left
 .simp only[f76,bS,aI,bM,bI,bT,bU,Nat.blt,Nat.ble];rfl
def xZ(V:zd5 tb){vv:AV}(Z:zd1 X H S s O vv)(c a b:Int)(U:Fin (bZ c a b s).2):
 aY prog (aH pls tb) 77 [.ptr X.b 0,.int .i64 c,.int .i64 a,.int .i64 b] H (rk X S vv H (bZ c a b s)):=by
 have L:zd0 (aH pls tb) 77:=V.plain ea;by_cases h:a=b
 .subst h;have e:bZ c a a s=(a,s):=by rw[bZ,ay rfl]
  rw[e];refine bF (M:=19) (rs:=[.tmp 8]) (L.call _) L.aD L.aq func77 rfl rfl DW.2 rfl ?_;dsimp only[DW,bA,Nat.reduceAdd];repeat' (first
   |(apply aj ?_;clear hK K)|apply Ry.o ?_|(apply bq (fun o g=>?_) (fun o g=>?_)<;>try(cases o;done))|apply ah ?_|(apply ai fun K hK=>?_)|apply am ?_|apply aq ?_)
  all_goals refine qq ?_
  exact⟨rfl,S,O,Z,fd _ _ _ _⟩
 .have e:bZ c a b s=ax ⟨22,0,[c,a,b]⟩ s:=by rw[bZ,af h]
  rw[e]at U⊢;refine bF (M:=19) (rs:=[.tmp 8]) (L.call _) L.aD L.aq func77 rfl rfl DW.2 rfl ?_;dsimp only[DW,bA,Nat.reduceAdd];repeat' (first
   |(apply aj ?_;clear hK K)|apply Ry.o ?_|(apply bq (fun o g=>?_) (fun o g=>?_)<;>try(cases o;done))|apply ah ?_|(apply ai fun K hK=>?_)|apply am ?_|apply aq ?_)
  refine qc ?_;refine bb ?_ (ly V (Z.alloc _) ⟨22,0,[c,a,b]⟩ rfl gR (cI _) U rfl rfl);intro w J Y;have m:=Y.cu ((fd X S vv H).alloc _);obtain⟨rfl,I⟩:=Y;dsimp only[aZ];repeat' (first
   |(apply aj ?_;clear hK K)|apply Rx.o ?_|apply ah ?_|(apply ai fun K hK=>?_)|apply am ?_|apply aq ?_)
  all_goals refine qq ?_
  exact m
def PK(V:zd5 tb){J vv:AV}(Z:zd1 X H S s J vv)(k:Nat)(i:Int){a:Ar}(ha:X.p.aa[k]?=some a)(U:Fin (fL a.len i s)):
 aY prog (aH pls tb) 76 [.ptr X.b 0,.int .i64 (k:Int),.int .i64 i] H (zbN X S vv H (fL a.len i s)):=by
 have L:zd0 (aH pls tb) 76:=V.plain ea;have cz:=Z.m;unfold bV at cz;have O:Fin (ax ⟨19,0,[i,(ax ⟨1,a.len,[]⟩ s).1]⟩ (ax ⟨1,a.len,[]⟩ s).2).2:=U.le (uA _ _ _).le;have I:Fin (ax ⟨1,a.len,[]⟩ s).2:=O.le (dB _ _).le;refine bF (M:=35) (rs:=[]) (L.call _) L.aD L.aq func76 rfl rfl PJ.2 rfl ?_;dsimp only[PJ,bA,Nat.reduceAdd];repeat' (first
  |(apply aj ?_;clear hK K)|apply Rx.o ?_|apply aE ?_|apply ah ?_|(apply ai fun K hK=>?_))
 refine qc ?_;refine bb ?_ (r0 V Z 1 a.len I);rintro w C ⟨rfl,z,lv2,R2,F2⟩;dsimp only[aZ];repeat' (first
  |(apply aj ?_;clear hK K)|apply Rx.o ?_|apply aE ?_|apply ah ?_|(apply ai fun K hK=>?_))
 refine qc ?_;refine bb ?_ (ly V (R2.alloc _) ⟨19,0,[i,(ax ⟨1,a.len,[]⟩ s).1]⟩ rfl gR (cI _) O rfl rfl);rintro w H3 ⟨rfl,S3,lv3,Y,F3⟩;have m:=F2.trans (((fd X z vv C).alloc _).trans F3);have m3:=Y.m;unfold bV at m3;dsimp only[aZ];repeat' (first
  |(apply aj ?_;clear hK K)|apply Rx.o ?_|apply aE ?_|apply ah ?_|(apply ai fun K hK=>?_))
 refine qc ?_;refine bb ?_ (ly V (Y.alloc _) ⟨27,2,[(ax ⟨19,0,[i,(ax ⟨1,a.len,[]⟩ s).1]⟩ (ax ⟨1,a.len,[]⟩ s).2).2.ab,(ax ⟨19,0,[i,(ax ⟨1,a.len,[]⟩ s).1]⟩ (ax ⟨1,a.len,[]⟩ s).2).1]⟩ rfl gR (cI _) (U.le ⟨uq _,aO _⟩) rfl rfl);rintro w H4 ⟨rfl,S4,g,j,F4⟩;have o:=m.trans (((fd X S3 vv H3).alloc _).trans F4);have m4:=j.m;unfold bV at m4;dsimp only[aZ];repeat' (first
  |(apply aj ?_;clear hK K)|apply Rx.o ?_|apply aE ?_|apply ah ?_|(apply ai fun K hK=>?_))
 all_goals first
  |exact di
  |skip
 all_goals refine qq ?_
 obtain⟨bK,b1⟩:=j.setS (ax ⟨27,2,[(ax ⟨19,0,[i,(ax ⟨1,a.len,[]⟩ s).1]⟩ (ax ⟨1,a.len,[]⟩ s).2).2.ab,(ax ⟨19,0,[i,(ax ⟨1,a.len,[]⟩ s).1]⟩ (ax ⟨1,a.len,[]⟩ s).2).1]⟩ (ax ⟨19,0,[i,(ax ⟨1,a.len,[]⟩ s).1]⟩ (ax ⟨1,a.len,[]⟩ s).2).2).1;exact⟨S4,g,bK,o.trans b1⟩
end
section
def tyQaD.tyF:=ad @ez (ad @cR (ad @dt (ad @fP (ad @iU (ad @gO (ad @fb (ad @eA (ad @ft (ad @rF (ad @z9 (@xQ)))))))))))
open tyQaD
noncomputable def pG:{c:SC // aI 166 (f39.body.getD .skip)=c}:=by
 refine⟨?_,?_⟩;rotate_left
 .simp only[f39,bS,aI,bM,bI,bT,bU,Nat.blt,Nat.ble];rfl
structure CxQ (X:Qx) (c:Cx):Prop where
 ar:X.p.aa=c.aa
 ns:X.ns=c.aw
 fs:X.p.funcs=c.funcs
 l1:c.aa.length<2^40
 l2:c.aw.length<2^40
 l3:c.funcs.length<2^40
def CxQ.ix(V:zd5 tb){c:Cx}(J:CxQ X c){vv:AV}(o:zd1 X H S s O vv)(nm:cc):
 aY prog (aH pls tb) 74 [.ptr X.b 0,.ai nm] H fun v H'=>v=.int .i64 ((cY c.aw nm:Nat):Int)/\H'=H:=by
 rw[<-J.ns];exact zdy V o nm (by rw[J.ns];exact J.l2)
def PL(V:zd5 tb){c:Cx}(J:CxQ X c){vv:AV}(o:zd1 X H S s O vv)(nm:cc):
 aY prog (aH pls tb) 75 [.ptr X.b 0,.ai nm] H fun v H'=>v=.int .i64 ((cY (c.aa.map (·.name)) nm:Nat):Int)/\H'=H:=by
 rw[<-J.ar];exact zdz V o nm (by rw[J.ar];exact J.l1)
set_option maxRecDepth 100000 in
theorem r1{tb:qA}(Y:zd5 tb){X:Qx}{c:Cx}(hX:CxQ X c):∀(n:Nat) (x:Ex) (s:Bd) (r:Int×Bd),eX c n x s=some r->Fin r.2->∀{H:Hp}{S:Nat->Prop}{lv vv:AV},zd1 X H S s lv vv ->
 aY prog (aH pls tb) 39 [.ptr X.b 0,.agg x.cells] H (rk X S vv H r)
 |0,x,s,r,h,_,_,_,_,_,_=>by simp[eX]at h
 |n+1,x,s,r,h,hF,H,S,lv,vv,hR=>by
  have IH:=r1 Y hX n;have L:zd0 (aH pls tb) 39:=Y.plain ea;have R1:=hR.alloc (.cells x.cells 0 true);have F1:=(fd X S vv H).alloc (.cells x.cells 0 true);have cz:=R1.m;unfold bV at cz;have gx:(H.alloc (.cells x.cells 0 true)).get H.next=some (.cells x.cells 0 true):=gD
  unfold eX at h;by_cases h1:x.am=1
  .rw[ay h1,aJ]at h;subst h;refine bF (M:=166) (rs:=[.tmp 4]) (L.call _) L.aD L.aq func39 rfl rfl pG.2 rfl ?_;dsimp only[pG,bA,Nat.reduceAdd];repeat' (first
    |(apply aj ?_;clear hK K)|apply Ry.o ?_|apply b8 ?_|(apply ct (fun J g=>?_) (fun J g=>?_)<;>try(cases J;done))|(apply bq (fun o Z=>?_) (fun o Z=>?_)<;>try(cases o;done))|apply ah ?_|(apply ai fun K hK=>?_)|(apply au 5 [(3,7),(3,11),(6,7),(9,11)] fun K hK=>?_)|(apply aS ?_;try intro _)|(apply aT ?_ ?_<;>clear hK K)|apply aR ?_|apply ak ?_|apply am ?_|apply aq ?_)
   refine qc ?_;refine bb ?_ (r0 Y R1 1 x.n hF);intro w H2 h2;have h4:=h2.cu F1;obtain⟨rfl,h3⟩:=h2;dsimp only[aZ];repeat' (first
    |(apply aj ?_;clear hK K)|apply Rx.o ?_|apply aE ?_|apply ah ?_|(apply ai fun K hK=>?_)|(apply au 5 [(3,7),(3,11),(6,7),(9,11)] fun K hK=>?_)|(apply aS ?_;try intro _)|(apply aT ?_ ?_<;>clear hK K)|apply aR ?_|apply ak ?_|apply am ?_|apply aq ?_)
   all_goals refine qq ?_
   exact h4
  rw[af h1]at h;by_cases h2:x.am=2
  .rw[ay h2]at h;obtain⟨v,hv,rfl⟩:=pK.1 h;have kix:=CxQ.ix Y hX R1 x.name;obtain⟨q,hix,hld⟩:=R1.atV hv;refine bF (M:=166) (rs:=[.tmp 4]) (L.call _) L.aD L.aq func39 rfl rfl pG.2 rfl ?_;dsimp only[pG,bA,Nat.reduceAdd];repeat' (first
    |(apply aj ?_;clear hK K)|apply Ry.o ?_|apply b8 ?_|(apply ee ?_;first|refine bi (kix) ?_)|(apply ct (fun J g=>?_) (fun J g=>?_)<;>try(cases J;done))|(apply bq (fun o Z=>?_) (fun o Z=>?_)<;>try(cases o;done))|apply ah ?_|(apply ai fun K hK=>?_)|(apply au 5 [(3,7),(3,11),(6,7),(9,11)] fun K hK=>?_)|(apply aS ?_;try intro _)|(apply aT ?_ ?_<;>clear hK K)|apply aR ?_|apply ak ?_|apply am ?_|apply aq ?_)
   .exact di
   all_goals refine qq ?_
   exact⟨rfl,S,lv,R1,F1⟩
  rw[af h2]at h;by_cases h3:x.am=3
  .rw[ay h3]at h;simp only[iA]at h;obtain⟨k,hk,aK,he,a,ha,rfl⟩:=h;have ha':X.p.aa[cY (c.aa.map (·.name)) x.name]?=some a:=by rw[hX.ar];exact ha
   have hFc:Fin (fL a.len aK.1 aK.2):=hF.le (dB _ _).le;refine bF (M:=166) (rs:=[.tmp 4]) (L.call _) L.aD L.aq func39 rfl rfl pG.2 rfl ?_;dsimp only[pG,bA,Nat.reduceAdd];repeat' (first
    |(apply aj ?_;clear hK K)|apply Ry.o ?_|apply b8 ?_|(apply ct (fun J g=>?_) (fun J g=>?_)<;>try(cases J;done))|(apply bq (fun o Z=>?_) (fun o Z=>?_)<;>try(cases o;done))|apply ah ?_|(apply ai fun K hK=>?_)|(apply au 5 [(3,7),(3,11),(6,7),(9,11)] fun K hK=>?_)|(apply aS ?_;try intro _)|(apply aT ?_ ?_<;>clear hK K)|apply aR ?_|apply ak ?_|apply am ?_|apply aq ?_)
   refine qc ?_;refine bb ?_ (IH k s aK he (hFc.le (uB _ _ _).le) R1);rintro v H2 ⟨rfl,S2,lv2,R2,O⟩;have g2:=fM hR O;have kax:=PL Y hX R2 x.name;dsimp only[aZ];repeat' (first
    |(apply aj ?_;clear hK K)|apply Rx.o ?_|apply aE ?_|(apply eC ?_;first|refine bi (kax) ?_)|apply ah ?_|(apply ai fun K hK=>?_)|(apply au 5 [(3,7),(3,11),(6,7),(9,11)] fun K hK=>?_)|(apply aS ?_;try intro _)|(apply aT ?_ ?_<;>clear hK K)|apply aR ?_|apply ak ?_|apply am ?_|apply aq ?_)
   refine qc ?_;refine bb ?_ (PK Y R2 (cY (c.aa.map (·.name)) x.name) aK.1 ha' hFc);rintro w H3 ⟨S3,lv3,R3,F3⟩;have m3:=R3.m;unfold bV at m3;dsimp only[aZ];repeat' (first
    |(apply aj ?_;clear hK K)|apply Rx.o ?_|apply aE ?_|apply ah ?_|(apply ai fun K hK=>?_)|(apply au 5 [(3,7),(3,11),(6,7),(9,11)] fun K hK=>?_)|(apply aS ?_;try intro _)|(apply aT ?_ ?_<;>clear hK K)|apply aR ?_|apply ak ?_|apply am ?_|apply aq ?_)
   refine qc ?_;refine bb ?_ (ly Y (R3.alloc _) ⟨23,cY (c.aa.map (·.name)) x.name,[(fL a.len aK.1 aK.2).ab,aK.1]⟩ rfl gR (cI _) hF rfl rfl);intro w H4 h4;have h5:=h4.cu (F1.trans (O.trans (F3.trans ((fd X S3 vv H3).alloc _))));obtain⟨rfl,h6⟩:=h4;dsimp only[aZ];repeat' (first
    |(apply aj ?_;clear hK K)|apply Rx.o ?_|apply aE ?_|apply ah ?_|(apply ai fun K hK=>?_)|(apply au 5 [(3,7),(3,11),(6,7),(9,11)] fun K hK=>?_)|(apply aS ?_;try intro _)|(apply aT ?_ ?_<;>clear hK K)|apply aR ?_|apply ak ?_|apply am ?_|apply aq ?_)
   all_goals refine qq ?_
   exact h5
  rw[af h3]at h;by_cases h5:x.am=5
  .rw[ay h5]at h;simp only[iA]at h;obtain⟨k0,hk0,b9,e0,k1,hk1,aK,e1,k2,hk2,bB,e2,rfl⟩:=h;have hFt:Fin (bZ b9.1 aK.2.ab (bZ b9.1 aK.1 bB.1 bB.2).2.ab (bZ b9.1 aK.1 bB.1 bB.2).2).2:=hF.le ⟨uq _,aO _⟩;have hFv:Fin (bZ b9.1 aK.1 bB.1 bB.2).2:=hFt.le (gT _ _ _ _).le;have hF2:Fin bB.2:=hFv.le (gT _ _ _ _).le;have m:Fin aK.2:=(hF2.le (ev c n _ _ _ e2).le).le ⟨uq _,aO _⟩;have j:Fin b9.2:=m.le (ev c n _ _ _ e1).le;refine bF (M:=166) (rs:=[.tmp 4]) (L.call _) L.aD L.aq func39 rfl rfl pG.2 rfl ?_;dsimp only[pG,bA,Nat.reduceAdd];repeat' (first
    |(apply aj ?_;clear hK K)|apply Ry.o ?_|apply b8 ?_|(apply ct (fun J g=>?_) (fun J g=>?_)<;>try(cases J;done))|(apply bq (fun o Z=>?_) (fun o Z=>?_)<;>try(cases o;done))|apply ah ?_|(apply ai fun K hK=>?_)|(apply au 5 [(3,7),(3,11),(6,7),(9,11)] fun K hK=>?_)|(apply aS ?_;try intro _)|(apply aT ?_ ?_<;>clear hK K)|apply aR ?_|apply ak ?_|apply am ?_|apply aq ?_)
   refine qc ?_;refine bb ?_ (IH k0 s b9 e0 j R1);rintro v H2 ⟨rfl,S2,lv2,R2,O⟩;have g2:=fM hR O;have m2:=R2.m;unfold bV at m2;dsimp only[aZ];repeat' (first
    |(apply aj ?_;clear hK K)|apply Ry.o ?_|apply b8 ?_|(apply ct (fun J g=>?_) (fun J g=>?_)<;>try(cases J;done))|(apply bq (fun o Z=>?_) (fun o Z=>?_)<;>try(cases o;done))|apply ah ?_|(apply ai fun K hK=>?_)|(apply au 5 [(3,7),(3,11),(6,7),(9,11)] fun K hK=>?_)|(apply aS ?_;try intro _)|(apply aT ?_ ?_<;>clear hK K)|apply aR ?_|apply ak ?_|apply am ?_|apply aq ?_)
   refine qc ?_;refine bb ?_ (IH k1 _ aK e1 m R2);rintro v H3 ⟨rfl,S3,lv3,R3,F3⟩;have g3:=fM hR (O.trans F3);have m3:=R3.m;obtain⟨R3s,F3s⟩:=R3.setS b9.2.ab;have g3s:=fM hR (O.trans (F3.trans F3s));unfold bV at m3;dsimp only[bV]at R3s F3s g3s;dsimp only[aZ];repeat' (first
    |(apply aj ?_;clear hK K)|apply Ry.o ?_|apply b8 ?_|(apply ct (fun J g=>?_) (fun J g=>?_)<;>try(cases J;done))|(apply bq (fun o Z=>?_) (fun o Z=>?_)<;>try(cases o;done))|apply ah ?_|(apply ai fun K hK=>?_)|(apply au 5 [(3,7),(3,11),(6,7),(9,11)] fun K hK=>?_)|(apply aS ?_;try intro _)|(apply aT ?_ ?_<;>clear hK K)|apply aR ?_|apply ak ?_|apply am ?_|apply aq ?_)
   refine qc ?_;refine bb ?_ (IH k2 _ bB e2 hF2 R3s);rintro v H4 ⟨rfl,S4,lv4,R4,F4⟩;dsimp only[aZ];repeat' (first
    |(apply aj ?_;clear hK K)|apply Rx.o ?_|apply aE ?_|apply ah ?_|(apply ai fun K hK=>?_)|(apply au 5 [(3,7),(3,11),(6,7),(9,11)] fun K hK=>?_)|(apply aS ?_;try intro _)|(apply aT ?_ ?_<;>clear hK K)|apply aR ?_|apply ak ?_|apply am ?_|apply aq ?_)
   refine qc ?_;refine bb ?_ (xZ Y R4 b9.1 aK.1 bB.1 hFv);rintro v H5 ⟨rfl,S5,lv5,R5,F5⟩;have m5:=R5.m;unfold bV at m5;dsimp only[aZ];repeat' (first
    |(apply aj ?_;clear hK K)|apply Rx.o ?_|apply aE ?_|apply ah ?_|(apply ai fun K hK=>?_)|(apply au 5 [(3,7),(3,11),(6,7),(9,11)] fun K hK=>?_)|(apply aS ?_;try intro _)|(apply aT ?_ ?_<;>clear hK K)|apply aR ?_|apply ak ?_|apply am ?_|apply aq ?_)
   refine qc ?_;refine bb ?_ (xZ Y R5 b9.1 aK.2.ab _ hFt);rintro v H6 ⟨rfl,S6,I,R6,F6⟩;have m6:=R6.m;unfold bV at m6;dsimp only[aZ];repeat' (first
    |(apply aj ?_;clear hK K)|apply Rx.o ?_|apply aE ?_|apply ah ?_|(apply ai fun K hK=>?_)|(apply au 5 [(3,7),(3,11),(6,7),(9,11)] fun K hK=>?_)|(apply aS ?_;try intro _)|(apply aT ?_ ?_<;>clear hK K)|apply aR ?_|apply ak ?_|apply am ?_|apply aq ?_)
   all_goals refine qq ?_
   obtain⟨R7,F7⟩:=R6.setS (bZ b9.1 aK.2.ab (bZ b9.1 aK.1 bB.1 bB.2).2.ab (bZ b9.1 aK.1 bB.1 bB.2).2).1;exact⟨rfl,S6,I,R7,F1.trans (O.trans (F3.trans (F3s.trans (F4.trans (F5.trans (F6.trans F7))))))⟩
  rw[af h5]at h;simp only[iS]at h;obtain⟨k0,hk0,b9,e0,h⟩:=h;by_cases hz:x.ak.length=1
  .rw[ay hz,aJ]at h;subst h;have j:Fin b9.2:=hF.le (dB _ _).le;have hz':((x.ak.length:Nat):Int)=1:=ac;refine bF (M:=166) (rs:=[.tmp 4]) (L.call _) L.aD L.aq func39 rfl rfl pG.2 rfl ?_;dsimp only[pG,bA,Nat.reduceAdd];repeat' (first
    |(apply aj ?_;clear hK K)|apply Ry.o ?_|apply b8 ?_|(apply ct (fun J g=>?_) (fun J g=>?_)<;>try(cases J;done))|(apply bq (fun o Z=>?_) (fun o Z=>?_)<;>try(cases o;done))|apply ah ?_|(apply ai fun K hK=>?_)|(apply au 5 [(3,7),(3,11),(6,7),(9,11)] fun K hK=>?_)|(apply aS ?_;try intro _)|(apply aT ?_ ?_<;>clear hK K)|apply aR ?_|apply ak ?_|apply am ?_|apply aq ?_)
   refine qc ?_;refine bb ?_ (IH k0 s b9 e0 j R1);rintro v H2 ⟨rfl,S2,lv2,R2,O⟩;have g2:=fM hR O;dsimp only[aZ];repeat' (first
    |(apply aj ?_;clear hK K)|apply Ry.o ?_|apply b8 ?_|(apply ct (fun J g=>?_) (fun J g=>?_)<;>try(cases J;done))|(apply bq (fun o Z=>?_) (fun o Z=>?_)<;>try(cases o;done))|apply ah ?_|(apply ai fun K hK=>?_)|(apply au 5 [(3,7),(3,11),(6,7),(9,11)] fun K hK=>?_)|(apply aS ?_;try intro _)|(apply aT ?_ ?_<;>clear hK K)|apply aR ?_|apply ak ?_|apply am ?_|apply aq ?_)
   refine qc ?_;refine bb ?_ (ly Y (R2.alloc _) ⟨x.op,0,[b9.1]⟩ rfl gR (cI _) hF rfl rfl);intro w H4 h4;have h5:=h4.cu (F1.trans (O.trans ((fd X S2 vv H2).alloc _)));obtain⟨rfl,h6⟩:=h4;dsimp only[aZ];repeat' (first
    |(apply aj ?_;clear hK K)|apply Rx.o ?_|apply aE ?_|apply ah ?_|(apply ai fun K hK=>?_)|(apply au 5 [(3,7),(3,11),(6,7),(9,11)] fun K hK=>?_)|(apply aS ?_;try intro _)|(apply aT ?_ ?_<;>clear hK K)|apply aR ?_|apply ak ?_|apply am ?_|apply aq ?_)
   all_goals refine qq ?_
   exact h5
  rw[af hz]at h;simp only[iA]at h;obtain⟨k1,hk1,aK,e1,rfl⟩:=h;have hz':¬((x.ak.length:Nat):Int)=1:=ac;have U:Fin (if x.op=7\/x.op=8 then mn aK.1 aK.2 else aK.2):=hF.le (dB _ _).le;have m:Fin aK.2:=by
   split at U
   .exact U.le (DD _ _).le
   .exact U
  have j:Fin b9.2:=m.le (ev c n _ _ _ e1).le;generalize hq:(if x.op=7\/x.op=8 then mn aK.1 aK.2 else aK.2)=q at *;refine bF (M:=166) (rs:=[.tmp 4]) (L.call _) L.aD L.aq func39 rfl rfl pG.2 rfl ?_;dsimp only[pG,bA,Nat.reduceAdd];repeat' (first
   |(apply aj ?_;clear hK K)|apply Ry.o ?_|apply b8 ?_|(apply ct (fun J g=>?_) (fun J g=>?_)<;>try(cases J;done))|(apply bq (fun o Z=>?_) (fun o Z=>?_)<;>try(cases o;done))|apply ah ?_|(apply ai fun K hK=>?_)|(apply au 5 [(3,7),(3,11),(6,7),(9,11)] fun K hK=>?_)|(apply aS ?_;try intro _)|(apply aT ?_ ?_<;>clear hK K)|apply aR ?_|apply ak ?_|apply am ?_|apply aq ?_)
  refine qc ?_;refine bb ?_ (IH k0 s b9 e0 j R1);rintro v H2 ⟨rfl,S2,lv2,R2,O⟩;have g2:=fM hR O;dsimp only[aZ];repeat' (first
   |(apply aj ?_;clear hK K)|apply Ry.o ?_|apply b8 ?_|(apply ct (fun J g=>?_) (fun J g=>?_)<;>try(cases J;done))|(apply bq (fun o Z=>?_) (fun o Z=>?_)<;>try(cases o;done))|apply ah ?_|(apply ai fun K hK=>?_)|(apply au 5 [(3,7),(3,11),(6,7),(9,11)] fun K hK=>?_)|(apply aS ?_;try intro _)|(apply aT ?_ ?_<;>clear hK K)|apply aR ?_|apply ak ?_|apply am ?_|apply aq ?_)
  refine qc ?_;refine bb ?_ (IH k1 _ aK e1 m R2);rintro v H3 ⟨rfl,S3,lv3,R3,F3⟩;have g3:=fM hR (O.trans F3);have i:=F1.trans (O.trans F3);dsimp only[aZ];by_cases hd:x.op=7\/x.op=8
  .rw[ay hd]at hq;subst hq;have hFq:Fin (ax ⟨16,0,[aK.1,(ax ⟨1,0,[]⟩ aK.2).1]⟩ (ax ⟨1,0,[]⟩ aK.2).2).2:=U.le (uA _ _ _).le;have hFz:Fin (ax ⟨1,0,[]⟩ aK.2).2:=hFq.le (dB _ _).le;have hdiv:mn aK.1 aK.2=lj 1 (ax ⟨16,0,[aK.1,(ax ⟨1,0,[]⟩ aK.2).1]⟩ (ax ⟨1,0,[]⟩ aK.2).2).1 (ax ⟨16,0,[aK.1,(ax ⟨1,0,[]⟩ aK.2).1]⟩ (ax ⟨1,0,[]⟩ aK.2).2).2:=rfl;have hor:x.op=7\/(¬x.op=7/\x.op=8):=ac;rcases hor with h7|⟨h7,h8⟩
   .repeat' (first
     |(apply aj ?_;clear hK K)|apply Ry.o ?_|apply b8 ?_|(apply ct (fun J g=>?_) (fun J g=>?_)<;>try(cases J;done))|(apply bq (fun o Z=>?_) (fun o Z=>?_)<;>try(cases o;done))|apply ah ?_|(apply ai fun K hK=>?_)|(apply au 5 [(3,7),(3,11),(6,7),(9,11)] fun K hK=>?_)|(apply aS ?_;try intro _)|(apply aT ?_ ?_<;>clear hK K)|apply aR ?_|apply ak ?_|apply am ?_|apply aq ?_)
    refine qc ?_;refine bb ?_ (r0 Y R3 1 0 hFz);rintro v H4 ⟨rfl,S4,lv4,R4,F4⟩;dsimp only[aZ];repeat' (first
     |(apply aj ?_;clear hK K)|apply Rx.o ?_|apply aE ?_|apply ah ?_|(apply ai fun K hK=>?_)|(apply au 5 [(3,7),(3,11),(6,7),(9,11)] fun K hK=>?_)|(apply aS ?_;try intro _)|(apply aT ?_ ?_<;>clear hK K)|apply aR ?_|apply ak ?_|apply am ?_|apply aq ?_)
    refine qc ?_;refine bb ?_ (ly Y (R4.alloc _) ⟨16,0,[aK.1,(ax ⟨1,0,[]⟩ aK.2).1]⟩ rfl gR (cI _) hFq rfl rfl);rintro v H5 ⟨rfl,S5,lv5,R5,F5⟩;have F35:=i.trans (F4.trans (((fd X S4 vv H4).alloc _).trans F5));have F25:=O.trans (F3.trans (F4.trans (((fd X S4 vv H4).alloc _).trans F5)));clear F4 F5;obtain⟨w,C⟩:∃w,ax ⟨16,0,[aK.1,(ax ⟨1,0,[]⟩ aK.2).1]⟩ (ax ⟨1,0,[]⟩ aK.2).2=w:=⟨_,rfl⟩;rw[C]at R5 hFq;have hdw:mn aK.1 aK.2=lj 1 w.1 w.2:=Ae;rw[hdw]at U hF;simp only[C];have m5:=R5.m;unfold bV at m5;dsimp only[aZ];repeat' (first
     |(apply aj ?_;clear hK K)|apply Rx.o ?_|apply aE ?_|apply ah ?_|(apply ai fun K hK=>?_)|(apply au 5 [(3,7),(3,11),(6,7),(9,11)] fun K hK=>?_)|(apply aS ?_;try intro _)|(apply aT ?_ ?_<;>clear hK K)|apply aR ?_|apply ak ?_|apply am ?_|apply aq ?_)
    refine qc ?_;refine bb ?_ (ly Y (R5.alloc _) ⟨27,1,[w.2.ab,w.1]⟩ rfl gR (cI _) (U.le ⟨uq _,aO _⟩) rfl rfl);rintro v H6 ⟨rfl,S6,I,R6,F6⟩;have F26:=F25.trans (((fd X S5 vv H5).alloc _).trans F6);have F36:=F35.trans (((fd X S5 vv H5).alloc _).trans F6);have m6:=R6.m;obtain⟨R7,F7⟩:=R6.setS (ax ⟨27,1,[w.2.ab,w.1]⟩ w.2).1;have g7:=fM hR (F26.trans F7);have R7':zd1 X (H6.set X.b (.cells (bV X { (ax ⟨27,1,[w.2.ab,w.1]⟩ w.2).2 with ab:=(ax ⟨27,1,[w.2.ab,w.1]⟩ w.2).1} I vv) 0 true)) S6 (lj 1 w.1 w.2) I vv:=R7;have V:=ly Y (R7'.alloc (.cells [.int .i64 b9.1,.int .i64 aK.1] 0 true)) ⟨x.op,0,[b9.1,aK.1]⟩ rfl gR (cI _) hF h7 rfl;unfold bV at m6;dsimp only[bV]at g7 V F7;simp only[bE]at V;dsimp only[aZ];repeat' (first
     |(apply aj ?_;clear hK K)|apply Rx.o ?_|apply aE ?_|apply ah ?_|(apply ai fun K hK=>?_)|(apply au 5 [(3,7),(3,11),(6,7),(9,11)] fun K hK=>?_)|(apply aS ?_;try intro _)|(apply aT ?_ ?_<;>clear hK K)|apply aR ?_|apply ak ?_|apply am ?_|apply aq ?_)
    refine qc ?_;refine bb ?_ V;intro v H8 z;have h9q:=z.cu (F36.trans (F7.trans ((fd X S6 vv _).alloc _)));obtain⟨rfl,h6q⟩:=z;dsimp only[aZ];repeat' (first
     |(apply aj ?_;clear hK K)|apply Rx.o ?_|apply aE ?_|apply ah ?_|(apply ai fun K hK=>?_)|(apply au 5 [(3,7),(3,11),(6,7),(9,11)] fun K hK=>?_)|(apply aS ?_;try intro _)|(apply aT ?_ ?_<;>clear hK K)|apply aR ?_|apply ak ?_|apply am ?_|apply aq ?_)
    all_goals refine qq ?_
    rw[hdw];rw[h7]at h9q⊢;exact h9q
   .repeat' (first
     |(apply aj ?_;clear hK K)|apply Ry.o ?_|apply b8 ?_|(apply ct (fun J g=>?_) (fun J g=>?_)<;>try(cases J;done))|(apply bq (fun o Z=>?_) (fun o Z=>?_)<;>try(cases o;done))|apply ah ?_|(apply ai fun K hK=>?_)|(apply au 5 [(3,7),(3,11),(6,7),(9,11)] fun K hK=>?_)|(apply aS ?_;try intro _)|(apply aT ?_ ?_<;>clear hK K)|apply aR ?_|apply ak ?_|apply am ?_|apply aq ?_)
    refine qc ?_;refine bb ?_ (r0 Y R3 1 0 hFz);rintro v H4 ⟨rfl,S4,lv4,R4,F4⟩;dsimp only[aZ];repeat' (first
     |(apply aj ?_;clear hK K)|apply Rx.o ?_|apply aE ?_|apply ah ?_|(apply ai fun K hK=>?_)|(apply au 5 [(3,7),(3,11),(6,7),(9,11)] fun K hK=>?_)|(apply aS ?_;try intro _)|(apply aT ?_ ?_<;>clear hK K)|apply aR ?_|apply ak ?_|apply am ?_|apply aq ?_)
    refine qc ?_;refine bb ?_ (ly Y (R4.alloc _) ⟨16,0,[aK.1,(ax ⟨1,0,[]⟩ aK.2).1]⟩ rfl gR (cI _) hFq rfl rfl);rintro v H5 ⟨rfl,S5,lv5,R5,F5⟩;have F35:=i.trans (F4.trans (((fd X S4 vv H4).alloc _).trans F5));have F25:=O.trans (F3.trans (F4.trans (((fd X S4 vv H4).alloc _).trans F5)));clear F4 F5;obtain⟨w,C⟩:∃w,ax ⟨16,0,[aK.1,(ax ⟨1,0,[]⟩ aK.2).1]⟩ (ax ⟨1,0,[]⟩ aK.2).2=w:=⟨_,rfl⟩;rw[C]at R5 hFq;have hdw:mn aK.1 aK.2=lj 1 w.1 w.2:=Ae;rw[hdw]at U hF;simp only[C];have m5:=R5.m;unfold bV at m5;dsimp only[aZ];repeat' (first
     |(apply aj ?_;clear hK K)|apply Rx.o ?_|apply aE ?_|apply ah ?_|(apply ai fun K hK=>?_)|(apply au 5 [(3,7),(3,11),(6,7),(9,11)] fun K hK=>?_)|(apply aS ?_;try intro _)|(apply aT ?_ ?_<;>clear hK K)|apply aR ?_|apply ak ?_|apply am ?_|apply aq ?_)
    refine qc ?_;refine bb ?_ (ly Y (R5.alloc _) ⟨27,1,[w.2.ab,w.1]⟩ rfl gR (cI _) (U.le ⟨uq _,aO _⟩) rfl rfl);rintro v H6 ⟨rfl,S6,I,R6,F6⟩;have F26:=F25.trans (((fd X S5 vv H5).alloc _).trans F6);have F36:=F35.trans (((fd X S5 vv H5).alloc _).trans F6);have m6:=R6.m;obtain⟨R7,F7⟩:=R6.setS (ax ⟨27,1,[w.2.ab,w.1]⟩ w.2).1;have g7:=fM hR (F26.trans F7);have R7':zd1 X (H6.set X.b (.cells (bV X { (ax ⟨27,1,[w.2.ab,w.1]⟩ w.2).2 with ab:=(ax ⟨27,1,[w.2.ab,w.1]⟩ w.2).1} I vv) 0 true)) S6 (lj 1 w.1 w.2) I vv:=R7;have V:=ly Y (R7'.alloc (.cells [.int .i64 b9.1,.int .i64 aK.1] 0 true)) ⟨x.op,0,[b9.1,aK.1]⟩ rfl gR (cI _) hF h8 rfl;unfold bV at m6;dsimp only[bV]at g7 V F7;simp only[bE]at V;dsimp only[aZ];repeat' (first
     |(apply aj ?_;clear hK K)|apply Rx.o ?_|apply aE ?_|apply ah ?_|(apply ai fun K hK=>?_)|(apply au 5 [(3,7),(3,11),(6,7),(9,11)] fun K hK=>?_)|(apply aS ?_;try intro _)|(apply aT ?_ ?_<;>clear hK K)|apply aR ?_|apply ak ?_|apply am ?_|apply aq ?_)
    refine qc ?_;refine bb ?_ V;intro v H8 z;have h9q:=z.cu (F36.trans (F7.trans ((fd X S6 vv _).alloc _)));obtain⟨rfl,h6q⟩:=z;dsimp only[aZ];repeat' (first
     |(apply aj ?_;clear hK K)|apply Rx.o ?_|apply aE ?_|apply ah ?_|(apply ai fun K hK=>?_)|(apply au 5 [(3,7),(3,11),(6,7),(9,11)] fun K hK=>?_)|(apply aS ?_;try intro _)|(apply aT ?_ ?_<;>clear hK K)|apply aR ?_|apply ak ?_|apply am ?_|apply aq ?_)
    all_goals refine qq ?_
    rw[hdw];rw[h8]at h9q⊢;exact h9q
  .rw[af hd]at hq;subst hq;have h7:¬x.op=7:=fun e=>hd (.inl e);have h8:¬x.op=8:=fun e=>hd (.inr e);repeat' (first
    |(apply aj ?_;clear hK K)|apply Ry.o ?_|apply b8 ?_|(apply ct (fun J g=>?_) (fun J g=>?_)<;>try(cases J;done))|(apply bq (fun o Z=>?_) (fun o Z=>?_)<;>try(cases o;done))|apply ah ?_|(apply ai fun K hK=>?_)|(apply au 5 [(3,7),(3,11),(6,7),(9,11)] fun K hK=>?_)|(apply aS ?_;try intro _)|(apply aT ?_ ?_<;>clear hK K)|apply aR ?_|apply ak ?_|apply am ?_|apply aq ?_)
   refine qc ?_;refine bb ?_ (ly Y (R3.alloc _) ⟨x.op,0,[b9.1,aK.1]⟩ rfl gR (cI _) hF rfl rfl);intro w H4 h4;have h5:=h4.cu (i.trans ((fd X S3 vv H3).alloc _));obtain⟨rfl,h6⟩:=h4;dsimp only[aZ];repeat' (first
    |(apply aj ?_;clear hK K)|apply Rx.o ?_|apply aE ?_|apply ah ?_|(apply ai fun K hK=>?_)|(apply au 5 [(3,7),(3,11),(6,7),(9,11)] fun K hK=>?_)|(apply aS ?_;try intro _)|(apply aT ?_ ?_<;>clear hK K)|apply aR ?_|apply ak ?_|apply am ?_|apply aq ?_)
   all_goals refine qq ?_
   exact h5
end
section
def tyQaE.tyF:=ad @cR (ad @vz (ad @dt (ad @fb (ad @eA (ad @fc (ad @Ci (@fG)))))))
open tyQaE
noncomputable def PM:{c:SC // aI 52 (f140.body.getD .skip)=c}:=by
 refine⟨?_,?_⟩;rotate_left
 .simp only[f140,bS,aI,bM,bI,bT,bU,Nat.blt,Nat.ble];rfl
def zd1.d8{Z:Hp}{vv:AV}(o:zd1 X H S s O vv)(C:H.next<=Z.next)(m:∀k,k<H.next->k≠q->Z.get k=H.get k)(L:X.b<q)(M:¬S q)(U:¬bc vv q)(Y:¬bc X.nv q):zd1 X Z S s O vv:=o.keep C fun k i g=>m k i fun e=>by
 subst e;rcases g with g|g|g|g
 .omega
 .exact M g
 .exact U g
 .exact Y g
set_option maxRecDepth 100000 in
theorem Ij{tb:qA}(hG:zd5 tb){X:Qx}{c:Cx}(hX:CxQ X c):∀(N n:Nat),n<N->∀(l:qD) (b b':qO),mS c.aw n l b=some b'->bN l<2^40->∀{H:Hp}{S:Nat->Prop}{s:Bd}{lv vv:AV}{q:Nat},zd1 X H S s lv vv->H.get q=some (.cells (b.map .bool) 0 true)->X.b<q->q<H.next->¬S q->¬bc vv q->¬bc X.nv q ->
 aY prog (aH pls tb) 140 [.ptr X.b 0,.sl q 0 b.length 1,.ao (l.map St.cells)] H (zbQ q H b')
 |0,n,hn,_,_,_,_,_,_,_,_,_,_,_,_,_,_,_,_,_,_=>by omega
 |N+1,n,hn,l,b,b',h,hz,H,S,s,lv,vv,q,hR,J,hq1,hq2,hq3,hq4,hq5=>by
  have hw:zd0 (aH pls tb) 140:=hG.plain ea;have hll:=tR l;refine bF (M:=52) (rs:=[]) (hw.call _) hw.aD hw.aq func140 rfl rfl PM.2 rfl ?_;dsimp only[PM,bA,Nat.reduceAdd];repeat' (first
   |(apply aj ?_;clear hK K)|apply Rx.o ?_|(apply aA (fun o g=>?_) (fun o g=>?_)<;>try(cases o;done))|apply ah ?_|(apply ai fun K hK=>?_)|apply ak ?_|apply am ?_|apply aw ?_)
  refine cA [0,1,2] [] 6 l.length (fun i E H2=>∃m O,m<=n/\O.length=b.length/\mS c.aw m (l.drop i) O=some b'/\H2.get q=some (.cells (O.map .bool) 0 true)/\Smq H.next q H H2) eE ⟨n,b,aO _,rfl,h,J,⟨fun _ _ _=>rfl⟩⟩ ?_;rintro i E H2 hi hcE hrH z hsI ⟨m,O,hm,hbl,U,I,L⟩;(try simp only[bp,bm,aU,aF,aW,Nat.reduceBEq,Nat.reduceAdd,Nat.reduceLeDiff,tyF, *]at hcE);(try simp only[bp,bm,aU,aF,aW,Nat.reduceBEq,Nat.reduceAdd,Nat.reduceLeDiff,tyF, *]at hrH);(try simp only[bj,bE,cm,bO,Nat.reduceAdd]at z);have R2:zd1 X H2 S s lv vv:=hR.d8 z L.get hq1 hq3 hq4 hq5;by_cases j:i<l.length
  .have hlt':(i:Int)<l.length:=by omega
   have hgx:l[i]?=some l[i]:=a0 j;have hmem:=pi (cL j);have hsz:=(l[i]).aM;cases m with
   |zero=>simp[mS]at U
   |succ m=>
   rw[eU j]at U;unfold mS at U;simp only[]at U;generalize l[i]=x at *;split at U
   .cases U
   rename_i hno;simp only[iS]at U;obtain⟨b2,j2,b3,j3,j4⟩:=U;repeat' (first
    |(apply aj ?_;clear hK K)|apply Ry.o ?_|apply b8 ?_|(apply ct (fun J Z=>?_) (fun J Z=>?_)<;>try(cases J;done))|apply ah ?_|(apply ai fun K hK=>?_)|apply ak ?_|apply am ?_|apply aw ?_)
   (apply aA (fun o g=>?_) (fun o g=>?_)<;>try(cases o;done));apply am ?_;apply ah ?_;apply ak ?_;apply ah ?_;have hix:=CxQ.ix hG hX R2 x.name;have C:(if x.am=1\/x.am=6 then O.set (cY c.aw x.name) true else O).length=b.length:=by split<;>simp[hbl]
   refine G4 (fun E' H'=>E'.at 0=.ptr X.b 0/\E'.at 1=.sl q 0 b.length 1/\E'.at 2=.ao (l.map St.cells)/\E'.at 6=.int .i64 i/\H'.get q=some (.cells ((if x.am=1\/x.am=6 then O.set (cY c.aw x.name) true else O).map .bool) 0 true)/\H'.next=H2.next/\Smq H.next q H H') ?_ ?_
   .by_cases hk:x.am=1\/x.am=6
    .have hixl:cY c.aw x.name<O.length:=by
      by_cases c2:cY c.aw x.name<O.length
      .exact c2
      .exact absurd ⟨hk,ac⟩ hno
     have hixa:=Ou (q:=q) (n:=b.length) (m:=cY c.aw x.name) ac;have hst:=zbR I hixl true;rcases hk with Y|h6
     .repeat' (first
       |(apply aj ?_;clear hK K)|apply Ry.o ?_|apply b8 ?_|(apply ee ?_;first|refine bi (hix) ?_)|(apply ct (fun J Z=>?_) (fun J Z=>?_)<;>try(cases J;done))|(apply bq (fun o g=>?_) (fun o g=>?_)<;>try(cases o;done))|apply ah ?_|(apply ai fun K hK=>?_)|apply ak ?_|apply am ?_|apply aw ?_)
      exact⟨rfl,eE,eE,eE,eE,by rw[a1,ay rfl,ay (.inl Y)],rfl,⟨fun k Y V=>by rw[a1,af V];exact L.get k Y V⟩⟩
     .have Y:¬x.am=1:=by omega
      repeat' (first
       |(apply aj ?_;clear hK K)|apply Ry.o ?_|apply b8 ?_|(apply ee ?_;first|refine bi (hix) ?_)|(apply ct (fun J Z=>?_) (fun J Z=>?_)<;>try(cases J;done))|(apply bq (fun o g=>?_) (fun o g=>?_)<;>try(cases o;done))|apply ah ?_|(apply ai fun K hK=>?_)|apply ak ?_|apply am ?_|apply aw ?_)
      exact⟨rfl,eE,eE,eE,eE,by rw[a1,ay rfl,ay (.inr h6)],rfl,⟨fun k Y V=>by rw[a1,af V];exact L.get k Y V⟩⟩
    .have Y:¬x.am=1:=fun e=>hk (.inl e);have h6:¬x.am=6:=fun e=>hk (.inr e);rw[af hk];repeat' (first
      |(apply aj ?_;clear hK K)|apply Ry.o ?_|apply b8 ?_|(apply ct (fun J Z=>?_) (fun J Z=>?_)<;>try(cases J;done))|(apply bq (fun o g=>?_) (fun o g=>?_)<;>try(cases o;done))|apply ah ?_|(apply ai fun K hK=>?_)|apply ak ?_|apply am ?_|apply aw ?_)
     exact⟨rfl,eE,eE,eE,eE,I,rfl,L⟩
   generalize (if x.am=1\/x.am=6 then O.set (cY c.aw x.name) true else O)=b1 at *;clear hix;rintro E3 H3 ⟨k0,k1,k2,k6,g3,n3,s3⟩;dsimp only[nr];have R3:zd1 X H3 S s lv vv:=hR.d8 ac s3.get hq1 hq3 hq4 hq5;have n3':H2.next<=H3.next:=ac
   clear n3;repeat' (first
    |(apply aj ?_;clear hK K)|apply Rx.o ?_|(apply aA (fun o g=>?_) (fun o g=>?_)<;>try(cases o;done))|apply ah ?_|(apply ai fun K hK=>?_)|apply ak ?_|apply am ?_|apply aw ?_)
   refine qc ?_;refine bb ?_ (by rw[<-C];exact Ij hG hX N m ac x.a5 b1 b2 j2 ac R3 g3 hq1 ac hq3 hq4 hq5);rintro v H4 ⟨g4,n4,s4⟩;have hbl2:=wt _ _ _ _ _ j2;have s4':Smq H.next q H H4:=⟨fun k Y V=>by rw[s4 k ac V];exact s3.get k Y V⟩
   have R4:zd1 X H4 S s lv vv:=hR.d8 ac s4'.get hq1 hq3 hq4 hq5;clear s4;dsimp only[aZ];repeat' (first
    |(apply aj ?_;clear hK K)|apply Rx.o ?_|(apply aA (fun o g=>?_) (fun o g=>?_)<;>try(cases o;done))|apply ah ?_|(apply ai fun K hK=>?_)|apply ak ?_|apply am ?_|apply aw ?_)
   refine qc ?_;refine bb ?_ (by rw[<-C,<-hbl2];exact Ij hG hX N m ac x.a6 b2 b3 j3 ac R4 g4 hq1 ac hq3 hq4 hq5);rintro v H5 ⟨g5,n5,s5⟩;have hbl3:=wt _ _ _ _ _ j3;have s5':Smq H.next q H H5:=⟨fun k Y V=>by rw[s5 k ac V];exact s4'.get k Y V⟩
   clear s5;dsimp only[aZ];repeat' (first
    |(apply aj ?_;clear hK K)|apply Rx.o ?_|(apply aA (fun o g=>?_) (fun o g=>?_)<;>try(cases o;done))|apply ah ?_|(apply ai fun K hK=>?_)|apply ak ?_|apply am ?_|apply aw ?_)
   refine⟨ac,a2,a2,ce,rJ,?_⟩;exact⟨m,b3,ac,ac,j4,g5,s5'⟩
  .have hlt':¬(i:Int)<l.length:=by omega
   repeat' (first
    |(apply aj ?_;clear hK K)|apply Ry.o ?_|apply b8 ?_|(apply ct (fun J Z=>?_) (fun J Z=>?_)<;>try(cases J;done))|(apply bq (fun o g=>?_) (fun o g=>?_)<;>try(cases o;done))|apply ah ?_|(apply ai fun K hK=>?_)|apply ak ?_|apply am ?_|apply aw ?_)
   all_goals refine qq ?_
   have hd:l.drop i=[]:=oB ac;rw[hd]at U;cases m with
   |zero=>simp[mS]at U
   |succ m=>
    cases U;exact⟨I,z,L.get⟩
end
end Go.Proofs.Ytbflaciihaijgaa
