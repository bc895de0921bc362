/- Lemmas for the last file. -/
import Derived.Test.YtbflaciihaijgaaGreatJEL
set_option linter.all false
set_option maxHeartbeats 32000000
namespace Go.Ab
set_option maxRecDepth 20000
open Go
variable{qf:Prop}
def Gb(h:qf:=by simp only[List.length_map,dL];omega):=h
def Su(h:qf:=by simp only[List.all_cons,List.all_nil,hone];rfl):=h
def Gc(h:qf:=by rw[List.length_map,show dL=70368744177664 from rfl];omega):=h
def eg(h:qf:=by simp only[br];omega):=h
def Sv(h:qf:=by rw[j _ ac ac,aD,if_neg ac];exact g2):=h
def Gd(h:qf:=by rw[Hp.get_set,if_neg ac,aD,if_pos rfl];simp):=h
def Ge:=@Int.tmod_nonneg
def KF:=@List.drop_length_add_append
end Go.Ab
namespace Go.Proofs.YtbflaciihaijgaaGreat
set_option maxRecDepth 20000
open Go Go.Ab Proofs.Tryz
variable(ρ:Nat->Int)
variable{l L:qu}{f:FuncId}{I:Type}{m c:Int}{cs V a v:qt}{S:Nat->Prop}{H H':Hp}{Z Y:AV}{lo i z q:Nat}{tb:qB}{X:Qx}{s:Bd}
section
def tyG3.tyF:=ad @ec (ad @cA (ad @dw (ad @eZ (ad @fU (ad @fM (ad @fb (ad @BQ (ad @oH (@th)))))))))
open tyG3
noncomputable def Sw:{c:SC // aC 115 (f34.body.getD .skip)=c}:=by
 refine⟨?_,?_⟩;rotate_left
 .simp only[f34,bz,aC,bw,bt,bA,bB,Nat.blt,Nat.ble];rfl
noncomputable def Gf:qB:=[tG,FJ,FK]
def Gg(f:FuncId):Bool:=Nat.beq f 32||Nat.beq f 34||Nat.beq f 33||Nat.beq f 58||Nat.beq f 12
structure zf2 (l:qB):Prop where
 pick:∀ar,cM l 25 ar=tG.sp ar
 eh:∀ar,cM l 27 ar=FJ.sp ar
 nms:∀ar,cM l 59 ar=FK.sp ar
 pl:∀f,Gg f=true->(∀ar,cM l f ar=none)/\jt l f=false
def zf2.plain{l:qB}(h:zf2 l)(C:Gg f=true):zd0 (ay pls l) f:=db (h.pl f C).1 (h.pl f C).2
def zg1(h:Gg f=true):f=32\/f=34\/f=33\/f=58\/f=12:=by
 simp only[Gg,rx]at h;rcases h with(((h|h)|h)|h)|h<;>have e:=kh h<;>subst e<;>simp
def Sy:zf2 Gf:=⟨fun _=>rfl,fun _=>rfl,fun _=>rfl,fun f C=>by rcases zg1 C with rfl|rfl|rfl|rfl|rfl<;>exact⟨fun _=>rfl,rfl⟩⟩
def zg2:eU prog ρ Gf:=⟨FI ρ,zfq ρ,zfu ρ,trivial⟩
def zC(m:Int):Int:=if m.tmod 2=0 then 20 else 21
def uM(m:Int):qx:=if m.tmod 2=0 then [97]else [98]
def bL(f:Int):Nat->Nat->qu->Ex×qu
 |0,_,L=>(.mk 0 0 [] 0 [],L)
 |k+1,deep,L=>
  let n:=(ca L).1
  let Z:=(ca L).2
  let q:=bO n 16
  let m:=bO (bS (n.tdiv 16)) 1000
  if q<4\/(3:Int)<deep then
   if q.tmod 2=0\/((3:Int)<deep/\8<q)then (.mk 2 0 ((cG f).getD (m.tmod (cG f).length).toNat []) 0 [],Z)
   else (.mk 1 (tH m n) [] 0 [],Z)
  else if q<6 then (.mk 3 0 (uM m) 0 [(bL f k (deep+1) Z).1],(bL f k (deep+1) Z).2)
  else if q<7 then
   let a:=bL f k (deep+1) Z
   let b:=bL f k (deep+1) a.2
   let c:=bL f k (deep+1) b.2
   (.mk 5 0 [] 0 [a.1,b.1,c.1],c.2)
  else if q<9 then (.mk 4 0 [] (zC m) [(bL f k (deep+1) Z).1],(bL f k (deep+1) Z).2)
  else
   let a:=bL f k (deep+1) Z
   let b:=bL f k (deep+1) a.2
   (.mk 4 0 [] (bS (4+m.tmod 15)) [a.1,b.1],b.2)
def nG(L:qu):(ca L).2.length<=L.length:=by cases L<;>simp[ca]
theorem fz(f:Int):∀(k g:Nat) (L:qu),(bL f k g L).2.length<=L.length
 |0,_,_=>aH _
 |k+1,g,L=>by
  have h:=nG L;have ih:=fun L=>fz f k (g+1) L;simp only[bL];split
  .split<;>exact h
  .split
   .exact dz (ih _) h
   .split
    .exact dz (ih _) (dz (ih _) (dz (ih _) h))
    .split
     .exact dz (ih _) h
     .exact dz (ih _) (dz (ih _) h)
def B4(z n lo:Nat)(H:Hp)(r:Nat)(C:qt)(L:qu)(c:Int)(v:AV)(H':Hp):Prop:=
 (∃g,v=.agg g/\g.length=z/\g.all AV.one=true/\cn (fun q=>H.next<=q) n H' g C)/\jo lo H' r L c/\H.next<=H'.next/\∀q,q<H.next->q≠r->H'.get q=H.get q
theorem tL(l:List I)(J:(l.length:Int)≠0)(O:0<=m)(d:I):0<=m.tmod l.length/\l[(m.tmod l.length).toNat]?=some (l.getD (m.tmod l.length).toNat d):=by
 have i:=Ge (l.length:Int) O;have g:=xW m (b:=(l.length:Int)) ac;refine⟨i,?_⟩;generalize m.tmod l.length=t at *;rw[cQ,aL ac];rfl
def Gi(h:0<=m):0<=m.tmod 2/\m.tmod 2<2:=⟨Ge _ h,xW _ ac⟩
def uN(h:0<=m)(r:Nat):ej prog 66 (.sl r 0 2 1) (.int .i64 (m.tmod 2))=some (.ptr r (m.tmod 2).toNat):=by
 obtain⟨i,g⟩:=Gi h;rw[NG _ _ _ _ i,dx (by omega:(m.tmod 2).toNat<2)];simp
def zg3(h:0<=m)(r:Nat):ej prog 26 (.sl r 0 2 1) (.int .i64 (m.tmod 2))=some (.ptr r (m.tmod 2).toNat):=by
 obtain⟨i,g⟩:=Gi h;rw[NE _ _ _ _ i,dx (by omega:(m.tmod 2).toNat<2)];simp
theorem KG(h:0<=m)(a b:I):[a,b][(m.tmod 2).toNat]?=some (if m.tmod 2=0 then a else b):=by
 obtain⟨i,g⟩:=Gi h;rcases(by omega:m.tmod 2=0\/m.tmod 2=1)with e|e<;>rw[e]<;>rfl
theorem uO(h:0<=m):[AV.aq [97],AV.aq [98]][(m.tmod 2).toNat]?=some (.aq (uM m)):=by
 rw[KG h,uM];split<;>rfl
theorem zg4(h:0<=m):[AV.int .i64 20,AV.int .i64 21][(m.tmod 2).toNat]?=some (.int .i64 (zC m)):=by
 rw[KG h,zC];split<;>rfl
def zg5(s:qx):dU prog 70 [(0,.int .i64 2),(2,.aq s)]=some (.agg [.int .i64 2,.int .i64 0,.aq s,.int .i64 0,.ak]):=aB
def zg6(n:Int):dU prog 70 [(0,.int .i64 1),(1,.int .i64 n)]=some (.agg [.int .i64 1,.int .i64 n,.aq [],.int .i64 0,.ak]):=aB
def zg7(s:qx)(r n:Nat):dU prog 70 [(0,.int .i64 3),(2,.aq s),(4,.sl r 0 n 5)]=some (.agg [.int .i64 3,.int .i64 0,.aq s,.int .i64 0,.sl r 0 n 5]):=aB
def zg8(r n:Nat):dU prog 70 [(0,.int .i64 5),(4,.sl r 0 n 5)]=some (.agg [.int .i64 5,.int .i64 0,.aq [],.int .i64 0,.sl r 0 n 5]):=aB
def Sz(o:Int)(r n:Nat):dU prog 70 [(0,.int .i64 4),(3,.int .i64 o),(4,.sl r 0 n 5)]=some (.agg [.int .i64 4,.int .i64 0,.aq [],.int .i64 o,.sl r 0 n 5]):=aB
def lN(h:cs.length=5):∃a b c d e,cs=[a,b,c,d,e]:=by
 match cs,h with
 |[a,b,c,d,e],_=>exact⟨a,b,c,d,e,rfl⟩
def KH(H:Hp)(h:cs.length=5)(h1:cs.all AV.one=true):et prog H 68 1 [(0,.agg cs)]=some (.sl H.next 0 1 5,H.alloc (.cells cs 0 true)):=by
 obtain⟨a,b,c,d,e,rfl⟩:=lN h;kernel_rfl
def zg9(H:Hp)(h:cs.length=5)(k:V.length=5):et prog H 68 2 [(0,.agg cs),(1,.agg V)]=some (.sl H.next 0 2 5,H.alloc (.cells (cs++V) 0 true)):=by
 obtain⟨a,b,c,d,e,rfl⟩:=lN h;obtain⟨Z,U,Y,m,M,rfl⟩:=lN k;kernel_rfl
def zha(H:Hp){Z:qt}(h:cs.length=5)(k:V.length=5)(l:Z.length=5):et prog H 68 3 [(0,.agg cs),(1,.agg V),(2,.agg Z)]=some (.sl H.next 0 3 5,H.alloc (.cells (cs++V++Z) 0 true)):=by
 obtain⟨a,b,c,d,e,rfl⟩:=lN h;obtain⟨Y,U,O,M,L,rfl⟩:=lN k;obtain⟨i,j,m,z,C,rfl⟩:=lN l;kernel_rfl
def SA(H:Hp)(a b:Int):et prog H 26 2 [(0,.int .i64 a),(1,.int .i64 b)]=some (.sl H.next 0 2 1,H.alloc (.cells [.int .i64 a,.int .i64 b] 0 true)):=aB
theorem B5(a b c d e:AV):cI 5 [a,b,c,d,e]=some (.agg [a,b,c,d,e]):=rfl
abbrev qs:HB:=.cells [.aq [97],.aq [98]] 0 true
set_option maxRecDepth 100000 in
theorem nH{lG:qB}(hG:zf2 lG):∀(k:Nat) (f:Int) (g:Nat),5<=g+k->g<=4->∀(lo:Nat) (H:Hp) (r:Nat) (L:qu) (c:Int),jo lo H r L c->L.length<2^60 ->
 aM prog (ay pls lG) 34 [.ptr r 0,.int .i64 f,.int .i64 g] H (B4 5 (k+1) lo H r (bL f k g L).1.cells (bL f k g L).2 c)
 |0,f,g,i,Z,_,_,_,_,_,_,_=>by omega
 |k+1,f,g,i,Z,lo,H,r,L,c,hrd,hL=>by
  have hw:zd0 (ay pls lG) 34:=hG.plain eN;have hnx:zd0 (ay pls lG) 32:=hG.plain eN;have hrl:=hrd.1;have hlo:=hrd.2.1;have hq16:(16:Int)≠0:=aE;generalize I:bL f (k+1) g L=R;rw[bL]at I;simp only[]at I;refine a0 (M:=115) (rs:=[.cell 6 70]) (hw.call _) hw.aG hw.az func34 rfl rfl Sw.2 rfl ?_;dsimp only[Sw,aW,Nat.reduceAdd];refine dY fun K hK=>?_;refine qd ?_;refine aY ?_ (FL hnx (hrd.keep (dA _) fun q V=>fq) hL);rintro v H2 ⟨rfl,Y,n2,o2⟩;simp only[aZ]at n2;have g2:H2.get H.next=some qk:=by rw[o2 _ ac,aD,ah rfl]
  have U:∀q,q<H.next->q≠r->H2.get q=H.get q:=fun q i Z=>by rw[o2 q Z,aD,af ac]
  have hL1:=nG L;generalize (ca L).1=n at *;generalize (ca L).2=L1 at *;have V:=iW (n:=n) (m:=16) ac ac;have hm:=iW (n:=bS (n.tdiv 16)) (m:=1000) ac ac;have hq2:(2:Int)≠0:=aE;have hq15:(15:Int)≠0:=aE;have hlen0:((cG f).length:Int)≠0:=by rcases uK f with h|h<;>rw[h]<;>decide
  have hwd:IntKind.wrap .i64 ((g:Int)+1)=((g+1:Nat):Int):=iT ac;clear o2;dsimp only[aU];obtain⟨hi0,hix⟩:=tL (cG f) hlen0 hm.1 [];have hxs:=uN hm.1;have hxi:=zg3 hm.1;have hxa:=uO hm.1;have hxo:=zg4 hm.1;have kf:∀(H3:Hp) (x:Ex),jo lo H3 r L1 c->H.next<=H3.next->(∀q,q<H.next->q≠r->H3.get q=H.get q)->∀cs,cs.length=5->cs.all AV.one=true->cn (fun q=>H.next<=q) (k+2) H3 cs x.cells->B4 5 (k+2) lo H r x.cells L1 c (.agg cs) H3:=fun H3 x q1 q2 q3 cs q4 q5 q6=>⟨⟨cs,rfl,q4,q5,q6⟩,q1,q2,q3⟩
  have gh0:=@zg5;have gh1:=@zg6;have gh2:=@B5;have gh3:=@SA;repeat' (first
   |(apply aj ?_;clear hK K)|apply aO ?_|(apply ez ?_;first|refine Rx.k (Q7 hG.nms _ _) ?_|refine Rx.k (oq hG.pick _ _ aE _) ?_|refine Rx.k (zfr hG.eh _ _ _) ?_)|(apply cD ?_ ?_<;>(intro hg hgp;try(cases hg;done)))|(apply bp ?_ ?_<;>(intro hb hbp;try(cases hb;done)))|(apply ak fun K hK=>?_)|(apply da 10 [(0,9),(0,12),(4,9),(4,12),(10,12)] fun K hK=>?_)|(apply da 14 [(0,9),(0,12),(4,9),(4,12),(10,12)] fun K hK=>?_)|(apply ce ?_;try intro _)|fail)
  .refine⟨aq,_,(by(try simp only[aG,aR,Nat.reduceBEq,tyF,cL,cY, *]);first|done|with_reducible rfl),?_⟩;try simp only[am]
   first
   |rw[ah ac,ah ac]at I
   |rw[ah ac,af ac]at I
   subst I;refine kf _ _ ?_ ?_ ?_ _ rfl rfl (v9 _ _ _ _)
   .exact Y.keep (aH _) fun q V=>jU
   .simp only[br];omega
   .intro q i Z;rw[aA,af ac];exact U q i Z
  .refine⟨aq,_,(by(try simp only[aG,aR,Nat.reduceBEq,tyF,cL,cY, *]);first|done|with_reducible rfl),?_⟩;try simp only[am]
   first
   |rw[ah ac,ah ac]at I
   |rw[ah ac,af ac]at I
   subst I;refine kf _ _ ?_ ?_ ?_ _ rfl rfl (v9 _ _ _ _)
   .exact Y.keep (aH _) fun q V=>jU
   .simp only[br];omega
   .intro q i Z;rw[aA,af ac];exact U q i Z
  .refine⟨aq,_,(by(try simp only[aG,aR,Nat.reduceBEq,tyF,cL,cY, *]);first|done|with_reducible rfl),?_⟩;try simp only[am]
   first
   |rw[ah ac,ah ac]at I
   |rw[ah ac,af ac]at I
   subst I;refine kf _ _ ?_ ?_ ?_ _ rfl rfl (v9 _ _ _ _)
   .exact Y.keep (aH _) fun q V=>jU
   .simp only[br];omega
   .intro q i Z;rw[aA,af ac];exact U q i Z
  ·-- one operand
   have er:(H.next == r)=false:=aX ac;refine qe ?_;refine aY ?_ (nH hG k f (g+1) ac ac lo _ r L1 c (Y.keep (dA _) fun q V=>fq) ac);rintro v J ⟨⟨cs,rfl,z,hc2,O⟩,C,n4,j⟩;simp only[aZ]at n4 j O;have g4:J.get H.next=some qk:=Sv
   have g4s:J.get (H.next+1)=some qs:=by rw[j _ ac ac,aD,ah ac]
   have kb:=fun H=>KH H z hc2;have e4:(H.next == J.next)=false:=aX ac;have e5:(H.next+1 == J.next)=false:=aX ac;dsimp only[aU];have gh0:=@B5;have gh1:=@zg7;repeat' (first
    |apply aO ?_|(apply ce ?_;try intro _)|(apply di ?_ ?_<;>clear hK K)|fail)
   .exact bN
   .refine⟨aq,_,(by(try simp only[aG,aR,Nat.reduceBEq,tyF,cL,cY, *]);first|done|with_reducible rfl),?_⟩;try simp only[am]
    rw[af ac,ah ac]at I;subst I;refine⟨⟨_,rfl,rfl,rfl,?_⟩,?_,?_,?_⟩
    .refine BR (n:=k+1) _ _ _ _ (ou (n:=k+1) (a:=[cs]) (imm:=0) (tip:=true) (by show H.next<=J.next;omega) iU Gd au ⟨⟨z,O.keep (fun q V=>ac) iU fun q i Z=>sD⟩,trivial⟩)
    .exact C.keep iU fun q V=>sD
    .simp only[br,aZ];omega
    .intro q i Z;rw[aA,af ac,aD,af ac,j _ ac Z,aD,af ac];exact U q i Z
  ·-- more operands
   have er:(H.next == r)=false:=aX ac;refine qd ?_;refine aY ?_ (nH hG k f (g+1) ac ac lo _ r L1 c Y ac);rintro v J ⟨⟨cs,rfl,z,hc2,O⟩,C,n4,j⟩;have hl4:=fz f k (g+1) L1;dsimp only[aU];refine eP ?_;refine qd ?_;refine aY ?_ (nH hG k f (g+1) ac ac lo J r (bL f k (g+1) L1).2 c C ac);rintro v H5 ⟨⟨ds,rfl,hd1,hd2,hd3⟩,hr5,n5,o5⟩;have hl5:=fz f k (g+1) (bL f k (g+1) L1).2;dsimp only[aU];refine eP ?_;refine qd ?_;refine aY ?_ (nH hG k f (g+1) ac ac lo H5 r (bL f k (g+1) (bL f k (g+1) L1).2).2 c hr5 ac);rintro v H6 ⟨⟨es,rfl,he1,he2,he3⟩,hr6,n6,o6⟩;have hl6:=fz f k (g+1) (bL f k (g+1) (bL f k (g+1) L1).2).2;dsimp only[aU];have gz:H6.get H.next=some qk:=by rw[o6 _ ac ac,o5 _ ac ac,j _ ac ac];exact g2
   have kb:=fun H=>zha H z hd1 he1;have e4:(H.next == H6.next)=false:=aX ac;have gh0:=@B5;have gh1:=@zg8;refine eP ?_;refine⟨aq,_,(by(try simp only[aG,aR,Nat.reduceBEq,tyF,cL,cY, *]);first|done|with_reducible rfl),?_⟩;try simp only[am]
   rw[af ac,af ac,ah ac]at I;subst I;refine⟨⟨_,rfl,rfl,rfl,?_⟩,?_,?_,?_⟩
   .refine BR (n:=k+1) _ _ _ _ (ou (n:=k+1) (a:=[cs,ds,es]) (imm:=0) (tip:=true) (by show H.next<=H6.next;omega) iU Gd au ⟨⟨z,O.keep (fun q V=>ac) iU fun q i Z=>by rw[aA,af ac,aD,af ac,o6 _ ac ac,o5 _ ac ac]⟩,⟨hd1,hd3.keep (fun q V=>ac) iU fun q i Z=>by rw[aA,af ac,aD,af ac,o6 _ ac ac]⟩,⟨he1,he3.keep (fun q V=>ac) iU fun q i Z=>sD⟩,trivial⟩)
   .exact hr6.keep iU fun q V=>sD
   .simp only[br,aZ];omega
   .intro q i Z;rw[aA,af ac,aD,af ac,o6 _ ac Z,o5 _ ac Z,j _ ac Z];exact U q i Z
  ·-- one operand
   have er:(H.next == r)=false:=aX ac;refine qe ?_;refine aY ?_ (nH hG k f (g+1) ac ac lo _ r L1 c (Y.keep (dA _) fun q V=>fq) ac);rintro v J ⟨⟨cs,rfl,z,hc2,O⟩,C,n4,j⟩;simp only[aZ]at n4 j O;have g4:J.get H.next=some qk:=Sv
   have g4s:J.get (H.next+1)=some (.cells [.int .i64 20,.int .i64 21] 0 true):=by rw[j _ ac ac,aD,ah ac]
   have kb:=fun H=>KH H z hc2;have e4:(H.next == J.next)=false:=aX ac;have e5:(H.next+1 == J.next)=false:=aX ac;dsimp only[aU];have gh0:=@SA;have gh1:=@B5;have gh2:=@Sz;repeat' (first
    |apply aO ?_|(apply ce ?_;try intro _)|(apply di ?_ ?_<;>clear hK K)|fail)
   .exact bN
   .refine⟨aq,_,(by(try simp only[aG,aR,Nat.reduceBEq,tyF,cL,cY, *]);first|done|with_reducible rfl),?_⟩;try simp only[am]
    rw[af ac,af ac,af ac,ah ac]at I;subst I;refine⟨⟨_,rfl,rfl,rfl,?_⟩,?_,?_,?_⟩
    .refine BR (n:=k+1) _ _ _ _ (ou (n:=k+1) (a:=[cs]) (imm:=0) (tip:=true) (by show H.next<=J.next;omega) iU Gd au ⟨⟨z,O.keep (fun q V=>ac) iU fun q i Z=>sD⟩,trivial⟩)
    .exact C.keep iU fun q V=>sD
    .simp only[br,aZ];omega
    .intro q i Z;rw[aA,af ac,aD,af ac,j _ ac Z,aD,af ac];exact U q i Z
  ·-- more operands
   have er:(H.next == r)=false:=aX ac;refine qd ?_;refine aY ?_ (nH hG k f (g+1) ac ac lo _ r L1 c Y ac);rintro v J ⟨⟨cs,rfl,z,hc2,O⟩,C,n4,j⟩;have hl4:=fz f k (g+1) L1;dsimp only[aU];refine eP ?_;refine qd ?_;refine aY ?_ (nH hG k f (g+1) ac ac lo J r (bL f k (g+1) L1).2 c C ac);rintro v H5 ⟨⟨ds,rfl,hd1,hd2,hd3⟩,hr5,n5,o5⟩;have hl5:=fz f k (g+1) (bL f k (g+1) L1).2;dsimp only[aU];have gz:H5.get H.next=some qk:=by rw[o5 _ ac ac,j _ ac ac];exact g2
   have kb:=fun H=>zg9 H z hd1;have e4:(H.next == H5.next)=false:=aX ac;have gh0:=@B5;have gh1:=@Sz;refine eP ?_;refine⟨aq,_,(by(try simp only[aG,aR,Nat.reduceBEq,tyF,cL,cY, *]);first|done|with_reducible rfl),?_⟩;try simp only[am]
   rw[af ac,af ac,af ac,af ac]at I;subst I;refine⟨⟨_,rfl,rfl,rfl,?_⟩,?_,?_,?_⟩
   .refine BR (n:=k+1) _ _ _ _ (ou (n:=k+1) (a:=[cs,ds]) (imm:=0) (tip:=true) (by show H.next<=H5.next;omega) iU Gd au ⟨⟨z,O.keep (fun q V=>ac) iU fun q i Z=>by rw[aA,af ac,aD,af ac,o5 _ ac ac]⟩,⟨hd1,hd3.keep (fun q V=>ac) iU fun q i Z=>sD⟩,trivial⟩)
   .exact hr5.keep iU fun q V=>sD
   .simp only[br,aZ];omega
   .intro q i Z;rw[aA,af ac,aD,af ac,o5 _ ac Z,j _ ac Z];exact U q i Z
  .refine⟨aq,_,(by(try simp only[aG,aR,Nat.reduceBEq,tyF,cL,cY, *]);first|done|with_reducible rfl),?_⟩;try simp only[am]
   first
   |rw[ah ac,ah ac]at I
   |rw[ah ac,af ac]at I
   subst I;refine kf _ _ ?_ ?_ ?_ _ rfl rfl (v9 _ _ _ _)
   .exact Y.keep (aH _) fun q V=>jU
   .simp only[br];omega
   .intro q i Z;rw[aA,af ac];exact U q i Z
  .refine⟨aq,_,(by(try simp only[aG,aR,Nat.reduceBEq,tyF,cL,cY, *]);first|done|with_reducible rfl),?_⟩;try simp only[am]
   first
   |rw[ah ac,ah ac]at I
   |rw[ah ac,af ac]at I
   subst I;refine kf _ _ ?_ ?_ ?_ _ rfl rfl (v9 _ _ _ _)
   .exact Y.keep (aH _) fun q V=>jU
   .simp only[br];omega
   .intro q i Z;rw[aA,af ac];exact U q i Z
  .refine⟨aq,_,(by(try simp only[aG,aR,Nat.reduceBEq,tyF,cL,cY, *]);first|done|with_reducible rfl),?_⟩;try simp only[am]
   first
   |rw[ah ac,ah ac]at I
   |rw[ah ac,af ac]at I
   subst I;refine kf _ _ ?_ ?_ ?_ _ rfl rfl (v9 _ _ _ _)
   .exact Y.keep (aH _) fun q V=>jU
   .simp only[br];omega
   .intro q i Z;rw[aA,af ac];exact U q i Z
  .refine⟨aq,_,(by(try simp only[aG,aR,Nat.reduceBEq,tyF,cL,cY, *]);first|done|with_reducible rfl),?_⟩;try simp only[am]
   first
   |rw[ah ac,ah ac]at I
   |rw[ah ac,af ac]at I
   subst I;refine kf _ _ ?_ ?_ ?_ _ rfl rfl (v9 _ _ _ _)
   .exact Y.keep (aH _) fun q V=>jU
   .simp only[br];omega
   .intro q i Z;rw[aA,af ac];exact U q i Z
end
section
def tyG4.tyF:=ad @cA (ad @eZ (ad @fL (ad @gF (ad @yR (ad @dw (ad @fU (ad @fM (@fb))))))))
open tyG4
noncomputable def SB:{c:SC // aC 36 (f33.body.getD .skip)=c}:=by
 refine⟨?_,?_⟩;rotate_left
 .simp only[f33,bz,aC,bw,bt,bA,bB,Nat.blt,Nat.ble];rfl
noncomputable def tM:{c:SC // aC 156 (f58.body.getD .skip)=c}:=by
 refine⟨?_,?_⟩;rotate_left
 .simp only[f58,bz,aC,bw,bt,bA,bB,Nat.blt,Nat.ble];rfl
abbrev cW:=qu×Int
def hZ(step:cW->St×cW):Nat->cW->qE×cW
 |0,s=>([],s)
 |n+1,s=>if s.1=[]then ([],s)else ((step s).1::(hZ step n (step s).2).1,(hZ step n (step s).2).2)
def iz(f:Int):Nat->qu->qH×qu
 |0,L=>([],L)
 |n+1,L=>((bL f 3 2 L).1::(iz f n (bL f 3 2 L).2).1,(iz f n (bL f 3 2 L).2).2)
def kJ:Ex:=.mk 0 0 [] 0 []
def mn(m:Int):qx:=if m.tmod 2=0 then [102]else [103]
def ib(U:Int->cW->qE×cW)(f:Int)(Z:qu)(c q m:Int):St×cW:=
 if q<6 then (.mk 1 ((cG f).getD (m.tmod (cG f).length).toNat []) [] 0 kJ (bL f 5 0 Z).1 [] [] [],((bL f 5 0 Z).2,c))
 else if q<8 then (.mk 2 (uM m) [] 0 (bL f 3 2 Z).1 (bL f 4 1 (bL f 3 2 Z).2).1 [] [] [],((bL f 4 1 (bL f 3 2 Z).2).2,c))
 else if q<10 then (.mk 3 [] [] 0 kJ (bL f 4 1 Z).1 [] (U 3 ((bL f 4 1 Z).2,c)).1 (U 2 (U 3 ((bL f 4 1 Z).2,c)).2).1,(U 2 (U 3 ((bL f 4 1 Z).2,c)).2).2)
 else if q<12 then (.mk 4 [] [] 0 kJ (bL f 4 1 Z).1 [] (U 3 ((bL f 4 1 Z).2,bS (c+1))).1 [],(U 3 ((bL f 4 1 Z).2,bS (c+1))).2)
 else if q<14 then (.mk 5 [] [] 0 kJ (bL f 4 1 Z).1 [] [] [],((bL f 4 1 Z).2,c))
 else if q<15 then (.mk 6 ((cG f).getD (m.tmod (cG f).length).toNat []) (mn m) 0 kJ kJ (iz f (2-m.tmod 2).toNat Z).1 [] [],((iz f (2-m.tmod 2).toNat Z).2,c))
 else (.mk 7 [] [] m kJ kJ [] [] [],(Z,c))
def ya(deep:Nat)(c q0:Int):Int:=if ((2:Int)<deep/\8<=q0/\q0<12)\/(10<=c/\10<=q0)then 0 else q0
def wm(U:Int->cW->qE×cW)(f:Int)(deep:Nat)(s:cW):St×cW:=
 ib U f (ca s.1).2 s.2 (ya deep s.2 (bO (ca s.1).1 16)) (bO (bS ((ca s.1).1.tdiv 16)) 1000)
def gT(f:Int):Nat->Nat->cW->St×cW
 |0,_,s=>(.mk 0 [] [] 0 kJ kJ [] [] [],s)
 |k+1,deep,s=>wm (fun L s=>hZ (gT f k (deep+1)) (bO (ca s.1).1 (L+1)).toNat ((ca s.1).2,s.2)) f deep s
def lO(f:Int)(k deep:Nat)(L:Int)(s:cW):qE×cW:=hZ (gT f k deep) (bO (ca s.1).1 (L+1)).toNat ((ca s.1).2,s.2)
theorem B6{step:cW->St×cW}(h:∀s,(step s).2.1.length<=s.1.length):∀(n:Nat) (s:cW),(hZ step n s).2.1.length<=s.1.length
 |0,_=>aH _
 |n+1,s=>by
  rw[hZ];split
  .exact aH _
  .exact dz (B6 h n _) (h s)
theorem KI(f:Int):∀(n:Nat) (L:qu),(iz f n L).2.length<=L.length
 |0,_=>aH _
 |n+1,L=>dz (KI f n _) (fz f 3 2 L)
def zhb{U:Int->cW->qE×cW}(h2:∀(L:Int) (s:cW),(U L s).2.1.length<=s.1.length)(f:Int)(deep:Nat)(s:cW):(wm U f deep s).2.1.length<=s.1.length:=by
 have h:=nG s.1;have C:=fz f 4 1 (ca s.1).2;have I:=fz f 5 0 (ca s.1).2;have J:=fz f 3 2 (ca s.1).2;have Z:=fz f 4 1 (bL f 3 2 (ca s.1).2).2;rw[wm,ib];generalize ya deep s.2 (bO (ca s.1).1 16)=q;by_cases c1:q<6
 .rw[ah c1];exact dz I h
 rw[af c1];by_cases Y:q<8
 .rw[ah Y];exact dz Z (dz J h)
 rw[af Y];by_cases m:q<10
 .rw[ah m];exact dz (h2 _ _) (dz (h2 _ _) (dz C h))
 rw[af m];by_cases V:q<12
 .rw[ah V];exact dz (h2 _ _) (dz C h)
 rw[af V];by_cases O:q<14
 .rw[ah O];exact dz C h
 rw[af O];by_cases M:q<15
 .rw[ah M];exact dz (KI f _ _) h
 rw[af M];exact h
theorem B7(f:Int):∀(k g:Nat) (s:cW),(gT f k g s).2.1.length<=s.1.length
 |0,_,_=>aH _
 |k+1,g,s=>zhb (fun L s=>dz (B6 (B7 f k (g+1)) _ _) (nG s.1)) f g s
def zD(k:Int)(nm J:qx)(n:Int)(a v:qt)(O Z g:AV):qt:=[.int .i64 k,.aq nm,.aq J,.int .i64 n]++a++v++[O,Z,g]
def yb{n:Nat}(k:Int)(nm J:qx)(U:Int){Y V:Ex}{O g:AV}{al:qH}{I M:qE}(z:cn S (n+1) H a Y.cells)(L:cn S (n+1) H v V.cells)(h1:dy S (n+1) H O (.aE (al.map Ex.cells)))(h2:dy S (n+1) H Z (.aE (I.map St.cells)))(m:dy S (n+1) H g (.aE (M.map St.cells))):
 cn S (n+1) H (zD k nm J U a v O Z g) (St.mk k nm J U Y V al I M).cells:=by
 have e:(St.mk k nm J U Y V al I M).cells=[.int .i64 k,.aq nm,.aq J,.int .i64 U]++Y.cells++V.cells++[.aE (al.map Ex.cells),.aE (I.map St.cells),.aE (M.map St.cells)]:=by
  rw[xh,so,so];rfl
 rw[e];exact(((cn.cons (.int _ _) (.cons (.aq _) (.cons (.aq _) (.cons (.int _ _) .nil)))).append z).append L).append (.cons h1 (.cons h2 (.cons m .nil)))
def yc:qt:=[.int .i64 0,.int .i64 0,.aq [],.int .i64 0,.ak]
def wn{n:Nat}:cn S (n+1) H yc kJ.cells:=v9 0 0 0 []
def zhc(nm:qx)(h:v.length=5):dU prog 78 [(0,.int .i64 1),(1,.aq nm),(5,.agg v)]=some (.agg (zD 1 nm [] 0 yc v .ak .ak .ak)):=by
 obtain⟨a,b,c,d,e,rfl⟩:=lN h;kernel_rfl
def zhd(nm:qx)(h:a.length=5)(k:v.length=5):dU prog 78 [(0,.int .i64 2),(1,.aq nm),(4,.agg a),(5,.agg v)]=some (.agg (zD 2 nm [] 0 a v .ak .ak .ak)):=by
 obtain⟨a,b,c,d,e,rfl⟩:=lN h;obtain⟨Z,U,Y,m,M,rfl⟩:=lN k;kernel_rfl
def zhe(k:Int)(h:v.length=5):dU prog 78 [(0,.int .i64 k),(5,.agg v)]=some (.agg (zD k [] [] 0 yc v .ak .ak .ak)):=by
 obtain⟨a,b,c,d,e,rfl⟩:=lN h;kernel_rfl
def zhf(nm J:qx):dU prog 78 [(0,.int .i64 6),(1,.aq nm),(2,.aq J)]=some (.agg (zD 6 nm J 0 yc yc .ak .ak .ak)):=aB
def zhg(n:Int):dU prog 78 [(0,.int .i64 7),(3,.int .i64 n)]=some (.agg (zD 7 [] [] n yc yc .ak .ak .ak)):=aB
def zhh(h:cs.length=17):∃c0 c1 I m L V Y Z U O M J C z j i g,cs=[c0,c1,I,m,L,V,Y,Z,U,O,M,J,C,z,j,i,g]:=by
 match cs,h with
 |[c0,c1,I,m,L,V,Y,Z,U,O,M,J,C,z,j,i,g],_=>exact⟨c0,c1,I,m,L,V,Y,Z,U,O,M,J,C,z,j,i,g,rfl⟩
def zhi(H:Hp)(h:cs.length=17):et prog H 67 1 [(0,.agg cs)]=some (.sl H.next 0 1 17,H.alloc (.cells cs 0 true)):=by
 obtain⟨c0,c1,I,m,L,V,Y,Z,U,O,M,J,C,z,j,i,g,rfl⟩:=zhh h;kernel_rfl
def zhj(z n lo:Nat)(H:Hp)(r:Nat)(C:List qt)(L:qu)(c:Int)(v:AV)(H':Hp):Prop:=
 eC (fun q=>H.next<=q) n H' z v C/\jo lo H' r L c/\H.next<=H'.next/\∀q,q<H.next->q≠r->H'.get q=H.get q
def jo.len{r:Nat}(h:jo lo H r L c):∃v,H.get r=some (.cells [v,.int .i64 c] 0 true)/\∀H',ij prog H' 26 v=some (.int .i64 L.length):=by
 obtain⟨_,_,v,i,g⟩:=h;refine⟨v,i,fun H'=>?_⟩;rcases g with⟨rfl,rfl⟩|⟨b,I,Z,V,rfl,_⟩
 .exact Nm underlying26 _
 .exact yM underlying26 _ _ _ _
def rY(Y:qB)(k:Nat)(f:Int)(deep:Nat):Prop:=∀(U:Nat) (H:Hp) (r:Nat) (s:cW),jo U H r s.1 s.2->s.1.length<2^60 ->
 aM prog (ay pls Y) 58 [.ptr r 0,.int .i64 f,.int .i64 deep] H (B4 17 (8+k) U H r (gT f k deep s).1.cells (gT f k deep s).2.1 (gT f k deep s).2.2)
set_option maxRecDepth 100000 in
theorem B8{lG:qB}(hG:zf2 lG){k:Nat}{f:Int}{deep:Nat}(hst:rY lG k f deep)(L:Int)(h0:0<=L)(h1:L<=5)(lo:Nat)(H:Hp)(r:Nat)(s:cW)(I:jo lo H r s.1 s.2)(hL:s.1.length<2^60):
 aM prog (ay pls lG) 33 [.ptr r 0,.int .i64 f,.int .i64 deep,.int .i64 L] H (zhj 17 (8+k) lo H r ((lO f k deep L s).1.map St.cells) (lO f k deep L s).2.1 (lO f k deep L s).2.2):=by
 have hw:zd0 (ay pls lG) 33:=hG.plain eN;have z:(ay pls lG).keep 33=false:=rfl;have hnx:zd0 (ay pls lG) 32:=hG.plain eN;have hrl:=I.1;have hlo:=I.2.1;have hw1:IntKind.wrap .i64 (L+1)=L+1:=eX ac ac;rw[lO];refine a0 (M:=36) (rs:=[.tmp 8]) (hw.call _) hw.aG hw.az func33 rfl rfl SB.2 rfl ?_;dsimp only[SB,aW,Nat.reduceAdd];refine zY fun K hK=>?_;refine qd ?_;refine aY ?_ (FL hnx I hL);rintro v H2 ⟨rfl,hr2,n2,o2⟩;have hL1:=nG s.1;generalize (ca s.1).1=n at *;generalize (ca s.1).2=L1 at *;have hm1:L+1≠0:=ac;have hp:=iW (n:=n) (m:=L+1) ac ac;generalize hc:(bO n (L+1)).toNat=U at *;have hpc:bO n (L+1)=(U:Int):=ac;dsimp only[aU];repeat' (first
  |(apply aj ?_;clear hK K)|apply aO ?_|(apply ez ?_;first|refine Rx.k (oq hG.pick _ _ hm1 _) ?_)|fail)
 refine zcj [0,1,2,8] [] (fun i E g=>i<=U/\E.at 10=.int .i64 i/\∃v l Y,E.at 9=v/\eC (fun q=>H.next<=q) (8+k) g 17 v (l.map St.cells)/\jo lo g r Y.1 Y.2/\(∀q,q<H.next->q≠r->g.get q=H.get q)/\l.length+i=U/\Y.1.length<2^60 /\
  hZ (gT f k deep) U (L1,s.2)=(l++(hZ (gT f k deep) i Y).1,(hZ (gT f k deep) i Y).2)) U ⟨aH _,Jb,.ak,[],(L1,s.2),eE,.inl ⟨rfl,rfl⟩,hr2,fun q h1 O=>o2 q O,au,uF,au⟩ ?_
 rintro i E g hcE hrH hnH ⟨hic,hsI,v,l,Y,k9,Z,C,o3,hli,hsl,hJ⟩;(try simp only[bq,aT,aN,aG,aR,Nat.reduceBEq, *]at hcE);obtain⟨lv,hgr,hlen⟩:=C.len;have hle:H.next<=g.next:=ac
 repeat' (first
  |(apply aj ?_;clear hK K)|apply aO ?_|(apply cD ?_ ?_<;>(intro hg hgp;try(cases hg;done)))|(apply bp ?_ ?_<;>(intro hb hbp;try(cases hb;done)))|(apply ak fun K hK=>?_)|fail)
 .refine qd ?_;refine aY ?_ (hst lo g r Y C hsl);rintro v' H4 ⟨⟨cs,rfl,hc1,hc2,hc3⟩,hr4,n4,o4⟩;have kb:=fun H=>zhi H hc1;dsimp only[aU];refine lQ ?_;have hvq:∀q o m J,v=.sl q o m J->H.next<=q/\q<g.next:=fun q o m J e=>by
   rcases Z with⟨rfl,_⟩|⟨q',imm,rows,rfl,e1,e2,_⟩
   .cases e
   .simp only[AV.sl.injEq]at e;rw[<-e.1];exact⟨e1,e2⟩
  have V:eC (fun q=>H.next<=q) (8+k) (H4.alloc (.cells cs 0 true)) 17 v (l.map St.cells):=Z.keep (fun q _ h=>h) dG fun q h1 O=>by rw[aD,af ac,o4 q O ac]
  obtain⟨v5,H5,a5,s5,n5,f5,q5⟩:=eC.push (P:=prog) (t:=67) underlying67 I0 NL NM rfl aB V dG (r:=H4.next) (imm:=0) (row:=cs) (w:=(gT f k deep Y).1.cells) fG hc1 hc2 (hc3.a0 (fun q h1 O=>⟨ac,fun o m J e=>by have:=(hvq q o m J e).2;omega⟩) (dA _) fun q h1 O=>fq) Gb Gb;refine jP cV cV (by rw[z];exact a5) ?_;have hi0:0<i:=ac;obtain⟨i,rfl⟩:∃j,i=j+1:=⟨i-1,ac⟩;have hwd:IntKind.wrap .i64 (((i+1:Nat):Int)-1)=(i:Int):=EN;simp only[aZ]at n5 f5;have n5':g.next<=H5.next:=ac
  have o5:∀q,q<H.next->q≠r->H5.get q=H.get q:=fun q h1 O=>by rw[f5 q ac (fun o m J e=>by have:=(hvq q o m J e).1;omega),aD,af ac,o4 q ac O,o3 q h1 O]
  have hr5:jo lo H5 r (gT f k deep Y).2.1 (gT f k deep Y).2.2:=hr4.keep ac fun q hq=>by rw[f5 q ac (fun o m J e=>by have:=(hvq q o m J e).1;omega),aD,af ac]
  clear n5 f5 a5 V o4 hr4;refine lQ ?_;have hne:Y.1≠[]:=by
   intro e;have:Y.1.length=0:=by rw[e];rfl
   omega
  have hsd:=B7 f k deep Y;refine⟨(by simp only[bq,aT,aN,aG,aR,Nat.reduceBEq, *]),(by simp only[aT]),ac,i,cC _,ac,eE,v5,l++[(gT f k deep Y).1],(gT f k deep Y).2,eE,by rw[tg];exact s5,hr5,o5,bW,ac,?_⟩;rw[hJ,hZ,af hne];simp
 all_goals
  all_goals refine qq ?_
  have hfin:hZ (gT f k deep) i Y=([],Y):=by
   rcases(by omega:i=0\/Y.1.length=0)with h|h
   .rw[h];rfl
   .cases i with
    |zero=>rfl
    |succ i=>rw[hZ,ah (AC h)]
  rw[hJ,hfin];exact⟨by rw[bm];exact Z,C,hle,o3⟩
end
section
theorem wo(h:0<=m):[AV.aq [102],AV.aq [103]][(m.tmod 2).toNat]?=some (.aq (mn m)):=by
 rw[KG h,mn];split<;>rfl
def zhk{P:Program}{cfg:Cfg}{f N:Nat}{a:SC}{E:ax}{Q:AX->ax->Hp->Prop}(F:ax->Hp->Prop)(h1:cb P cfg f N a E H fun x E' H'=>x=.normal/\F E' H')(h2:∀E' H',F E' H'->Q .normal E' H'):cb P cfg f N a E H Q:=
 cb.mono (fun x E' H' h=>by obtain⟨rfl,h⟩:=h;exact h2 E' H' h) h1
def jo.ew{r:Nat}(h:jo lo H r L c):∃v,H.get r=some (.cells [v,.int .i64 c] 0 true)/\∀Y,jo lo (H.set r (.cells [v,.int .i64 Y] 0 true)) r L Y:=by
 obtain⟨U,V,v,i,g⟩:=h;refine⟨v,i,fun Y=>⟨U,V,v,gC,?_⟩⟩;rcases g with g|⟨b,I,O,Z,M,m,C,J,z⟩
 .exact .inl g
 .exact .inr ⟨b,I,O,Z,M,by rw[aA,af J];exact m,C,J,z⟩
theorem zhl(nm:qx)(L g M m Z:AV):dU prog 78 [(0,.int .i64 1),(1,.aq nm),(5,.agg [L,g,M,m,Z])]=some (.agg [.int .i64 1,.aq nm,.aq [],.int .i64 0,.int .i64 0,.int .i64 0,.aq [],.int .i64 0,.ak,L,g,M,m,Z,.ak,.ak,.ak]):=zhc nm rfl
theorem zhm(nm:qx)(jI U Y j J L g M m Z:AV):dU prog 78 [(0,.int .i64 2),(1,.aq nm),(4,.agg [jI,U,Y,j,J]),(5,.agg [L,g,M,m,Z])]=some (.agg [.int .i64 2,.aq nm,.aq [],.int .i64 0,jI,U,Y,j,J,L,g,M,m,Z,.ak,.ak,.ak]):=zhd nm rfl rfl
theorem SD(k:Int)(L g M m Z:AV):dU prog 78 [(0,.int .i64 k),(5,.agg [L,g,M,m,Z])]=some (.agg [.int .i64 k,.aq [],.aq [],.int .i64 0,.int .i64 0,.int .i64 0,.aq [],.int .i64 0,.ak,L,g,M,m,Z,.ak,.ak,.ak]):=zhe k rfl
def zhn(nm J:qx):dU prog 78 [(0,.int .i64 6),(1,.aq nm),(2,.aq J)]=some (.agg [.int .i64 6,.aq nm,.aq J,.int .i64 0,.int .i64 0,.int .i64 0,.aq [],.int .i64 0,.ak,.int .i64 0,.int .i64 0,.aq [],.int .i64 0,.ak,.ak,.ak,.ak]):=zhf nm J
def SE(n:Int):dU prog 78 [(0,.int .i64 7),(3,.int .i64 n)]=some (.agg [.int .i64 7,.aq [],.aq [],.int .i64 n,.int .i64 0,.int .i64 0,.aq [],.int .i64 0,.ak,.int .i64 0,.int .i64 0,.aq [],.int .i64 0,.ak,.ak,.ak,.ak]):=zhg n
theorem SF(c0 c1 I m L V Y Z U O M J C z j i g:AV):cI 17 [c0,c1,I,m,L,V,Y,Z,U,O,M,J,C,z,j,i,g]=some (.agg [c0,c1,I,m,L,V,Y,Z,U,O,M,J,C,z,j,i,g]):=rfl
def SG:cS prog 78=some [.int .i64 0,.aq [],.aq [],.int .i64 0,.int .i64 0,.int .i64 0,.aq [],.int .i64 0,.ak,.int .i64 0,.int .i64 0,.aq [],.int .i64 0,.ak,.ak,.ak,.ak]:=aB
def wq{a b c d e:AV}(h:[a,b,c,d,e].all AV.one=true):AV.one a=true/\AV.one b=true/\AV.one c=true/\AV.one d=true/\AV.one e=true:=by
 simp only[oO,oK,gW,cj]at h;exact⟨h.1,h.2.1,h.2.2.1,h.2.2.2.1,h.2.2.2.2⟩
def yd{r n:Nat}{O:Hp}{x:St}(J:cs.length=17)(z:cs.all AV.one=true)(g:cn (fun q=>H.next<=q) n O cs x.cells)(hr:jo lo O r L c)(I:H.next<=O.next)(Z:∀q,q<H.next->q≠r->O.get q=H.get q):B4 17 n lo H r x.cells L c (.agg cs) O:=⟨⟨cs,rfl,J,z,g⟩,hr,I,Z⟩
def pR:SC->SC
 | .seq _ b=>b
 |x=>x
noncomputable def oY:SC:=pR (pR (pR (pR (pR (pR tM.1)))))
noncomputable def tN(f:Int)(k deep:Nat):Int->cW->qE×cW:=fun L s=>hZ (gT f k (deep+1)) (bO (ca s.1).1 (L+1)).toNat ((ca s.1).2,s.2)
abbrev qj:HB:=.cells [.int .i64 0,.aq [],.aq [],.int .i64 0,.int .i64 0,.int .i64 0,.aq [],.int .i64 0,.ak,.int .i64 0,.int .i64 0,.aq [],.int .i64 0,.ak,.ak,.ak,.ak] 0 true
structure AtT (f:Int) (deep lo:Nat) (H H2:Hp) (r:Nat) (L1:qu) (c q m:Int) (E2:ax):Prop where
 hd:deep<=3
 hrl:r<lo
 hlo:lo<=H.next
 n2:H2.next=H.next+1
 g2:H2.get H.next=some qj
 o2:∀q,q<H.next->q≠r->H2.get q=H.get q
 hr2:jo lo H2 r L1 c
 hL:L1.length<2^60
 hm:0<=m/\m<1000
 hqd:8<=q->q<12->deep<=2
 k0:E2.at 0=.ptr r 0
 k1:E2.at 1=.int .i64 f
 k2:E2.at 2=.int .i64 deep
 k6:E2.at 6=.ptr H.next 0
 k8:E2.at 8=cZ (cG f)
 k9:E2.at 9=.int .i64 m
 k10:E2.at 10=.int .i64 q
def oZ(k:Nat)(f:Int)(deep lo:Nat)(H:Hp)(r:Nat)(Z:qu)(c q m:Int):AX->ax->Hp->Prop:=fun x E' H'=>(x=.normal\/x=.ret)/\∃vs,cL prog E' H' [.cell 6 78]=some vs/\B4 17 (8+(k+1)) lo H r (ib (tN f k deep) f Z c q m).1.cells (ib (tN f k deep) f Z c q m).2.1 (ib (tN f k deep) f Z c q m).2.2 (am vs) H'
noncomputable def KJ:En:=⟨38,true,bQ (fun p=>p.sz<2^36) fD fun p=>.int .i64 (fx p)⟩
def zho:co prog ρ KJ:=cz fun p hp=>zg0 ρ p hp
namespace tyLoL
end tyLoL
open tyLoL
theorem zhp:∀(l:List b8) (J:b8),bu l J=false->dm l J=0
 |[],_,_=>rfl
 |a::l,J,h=>by
  have M:bu (a::l) J=(decide (a=J)||bu l J):=rfl;rw[M,kU,kB]at h;rw[dm,af h.1,h.2];rfl
def Gj(p:Pr)(n:Nat):Prop:=∀f∈p.funcs,∃s v,iH (nF p f) n f.body (ja f)=some s/\fE (nF p f) n f.value s=some v/\Fin v.2
def Gk(H':Hp)(u:Un)(e:Int)(v:AV):Prop:=∃g S,v=.aX [.agg g,.int .i64 e]/\cn S 5 H' g u.cells
def SH(H:Hp)(h:cs.length=5)(h1:cs.all AV.one=true):et prog H 35 1 [(0,.agg cs)]=some (.sl H.next 0 1 5,H.alloc (.cells cs 0 true)):=by
 obtain⟨a,b,c,d,e,rfl⟩:=lN h;kernel_rfl
def zhq{l:qy}(nm:qx)(np v st:Int)(h:eC S 2 H 3 Y (l.map Nd.cells)):cn S 3 H [.aq nm,.int .i64 np,Y,.int .i64 v,.int .i64 st] (Gr.mk nm np l v st).cells:=
 .cons (.aq _) (.cons (.int _ _) (.cons h.rd (.cons (.int _ _) (.cons (.int _ _) .nil))))
theorem Gk.wk{u:Un}{e:Int}{v:AV}(h:Gk H' u e v):∃m w,iceV H' m v=some w/\cp 60 w=.aX [.agg u.cells,.int .i64 e]:=by
 obtain⟨g,S,rfl,I,i,Z⟩:=h;have Y:dc S 100 H' (.agg g) (.agg I):=dc.up (n:=6) ⟨I,i,rfl⟩ ac;obtain⟨J,O⟩:=Ey (S:=S) (n:=100) (H:=H') (fun k=>dc.iceV k) (l:=[.agg g,.int .i64 e]) (k:=[.agg I,.int .i64 e]) ⟨Y,pD ⟨.int _ _,trivial⟩,trivial⟩;refine⟨J+1,.aX [.agg I,.int .i64 e],?_,?_⟩
 .have V:iceV H' (J+1) (.aX [.agg g,.int .i64 e])=match iceL (iceV H' J) [.agg g,.int .i64 e]with
   |some vs=>some (.aX vs)
   |none=>none:=rfl
  rw[V,O J (aH _)]
 .show AV.aX [.agg (I.map (cp 58)),.int .i64 e]=_;rw[Z 58 ac]
end
section
def tySnC.tyF:=ad @ec (ad @cA (ad @eZ (@jB)))
open tySnC
noncomputable def Gl:{c:SC // aC 45 (f53.body.getD .skip)=c}:=by
 refine⟨?_,?_⟩;rotate_left
 .simp only[f53,bz,aC,bw,bt,bA,bB,Nat.blt,Nat.ble];rfl
def sN(x:Nd×Nd):qt:=[.agg x.1.cells,.agg x.2.cells]
def SI(x y:Nd×Nd)(h:sN x=sN y):x=y:=by
 simp only[sN,dN,AV.agg.injEq,aN]at h;exact n1 (uw h.1) (uw h.2)
def zE(x:Nd×Nd):Prop:=x.1.aj.length<2^60
def zhr{s w:qu}(J:s.length=w.length)(C:i<s.length):decide (s.drop i=w.drop i)=(decide (s.getD i 0=w.getD i 0)&&decide (s.drop (i+1)=w.drop (i+1))):=by
 rw[ft C,ft (l:=w) ac];rw[cQ,cQ,aL C,aL (by omega:i<w.length)];simp only[bz,dN,Bool.decide_and]
theorem SJ(x:Nd×Nd)(g:zE x):bF prog ρ 53 (sN x) (.bool (decide (x.1=x.2))):=dE fit (pls:=pls) (l:=[]) trivial (.cons (.agg (yV _)) (.cons (.agg (yV _)) .nil)) (.bool _) (by
 obtain⟨⟨o1,i1,s⟩,⟨o2,i2,w⟩⟩:=x;have L:=fh 53;unfold zE at g;rw[sN];simp only[Nd.cells]at g⊢;have hd:decide ((⟨o1,i1,s⟩:Nd)=⟨o2,i2,w⟩)=(decide (o1=o2)&&decide (i1=i2)&&decide (s=w)):=by
  simp[Bool.decide_and,xy]
 rw[hd];by_cases J:w.length=s.length
 .clear hd;refine a0 (M:=45) (rs:=[.tmp 4]) (L.call _) L.aG L.az func53 rfl rfl Gl.2 rfl ?_;dsimp only[Gl,aW,Nat.reduceAdd];repeat' (first
   |(apply aj ?_;clear hK K)|apply aQ ?_|(apply bT ?_ ?_<;>(intro hg hgp;try(cases hg;done)))|(apply aV ?_ ?_<;>(intro hb hbp;try(cases hb;done)))|(apply ak fun K hK=>?_)|fail)
  all_goals first
   |(refine qc ?_
     simp_all;done)
   |skip
  refine bY [2,3] [0,1] 5 s.length (fun i E H=>decide (s=w)=decide (s.drop i=w.drop i)) eE au ?_;rintro i E Y hi V m z hsI U;(try simp only[bq,aT,aN,aG,aR,Nat.reduceBEq, *]at V);(try simp only[bq,aT,aN,aG,aR,Nat.reduceBEq, *]at m);(try simp only[aZ,bX,bK,Nat.reduceAdd]at z);have hB0:(0 == Y.next)=false:=aX ac;have hC0:(Y.next == 0)=false:=aX ac;have hB1:(1 == Y.next)=false:=aX ac;have hC1:(Y.next == 1)=false:=aX ac;repeat' (first
   |(apply aj ?_;clear hK K)|apply aO ?_|(apply bp ?_ ?_<;>(intro hb hbp;try(cases hb;done)))|(apply ak fun K hK=>?_)|(apply da 6 [(1,11),(4,11),(6,11),(9,11)] fun K hK=>?_)|(apply ce ?_;try intro _)|fail)
  .have j:i<s.length:=by simpa using hb
   have O:s[i]?=some s[i]:=aL j;have I:w[i]?=some (w[i]' ac):=aL ac;have Z:=zhr J.symm j;rw[cQ,cQ,O,I]at Z;simp only[bz]at Z;generalize s[i]=x at *;generalize w[i]' ac=y at *;refine LU ?_ (fun hb hbp=>?_) (fun hb hbp=>?_)
   .exact bN
   .all_goals refine qq ?_
    rw[U,Z];simp_all
   .refine⟨ac,aK,aK,bG,yY,?_⟩;rw[U,Z];simp_all
  .refine lQ ?_;all_goals refine qq ?_
   rw[U,show i=s.length by simp at hb;omega,gH,<-J,gH];simp_all
 .have C:¬s=w:=fun e=>J nQ;have hl2:¬(s.length:Int)=w.length:=ac;clear hd;refine a0 (M:=45) (rs:=[.tmp 4]) (L.call _) L.aG L.az func53 rfl rfl Gl.2 rfl ?_;dsimp only[Gl,aW,Nat.reduceAdd];repeat' (first
   |(apply aj ?_;clear hK K)|apply aQ ?_|(apply bT ?_ ?_<;>(intro hg hgp;try(cases hg;done)))|(apply aV ?_ ?_<;>(intro hb hbp;try(cases hb;done)))|(apply ak fun K hK=>?_)|fail)
  all_goals
   refine qc ?_
   rw[eA C,pC])
noncomputable def KK:En:=⟨53,false,bQ zE sN fun x=>.bool (decide (x.1=x.2))⟩
def zhs:co prog ρ KK:=cz fun x z=>SJ ρ x z
def zht{l:qB}(J:∀i,cM l 53 i=KK.sp i)(a b:Nd)(h:a.aj.length<2^60)(H:Hp):aM prog (ay pls l) 53 [.agg a.cells,.agg b.cells] H fun v H'=>v=.bool (decide (a=b))/\H'=H:=
 bZ (enc:=sN) (ok:=zE) (out:=fun x=>.bool (decide (x.1=x.2))) SI (x:=(a,b)) (J _) h
end
section
def tyQaB.tyF:=ad @ec (ad @cA (ad @iL (ad @eZ (ad @fX (ad @jB (ad @fU (ad @tl (ad @dw (ad @gQ (ad @jA (ad @lJ (@Rf))))))))))))
open tyQaB
noncomputable def SK:{c:SC // aC 52 (f67.body.getD .skip)=c}:=by
 refine⟨?_,?_⟩;rotate_left
 .simp only[f67,bz,aC,bw,bt,bA,bB,Nat.blt,Nat.ble];rfl
noncomputable def SL:{c:SC // aC 25 (f109.body.getD .skip)=c}:=by
 refine⟨?_,?_⟩;rotate_left
 .simp only[f109,bz,aC,bw,bt,bA,bB,Nat.blt,Nat.ble];rfl
noncomputable def SM:{c:SC // aC 28 (f110.body.getD .skip)=c}:=by
 refine⟨?_,?_⟩;rotate_left
 .simp only[f110,bz,aC,bw,bt,bA,bB,Nat.blt,Nat.ble];rfl
def KL(H:Hp):et prog H 26 0 []=some (.sl H.next 0 0 1,H.alloc qh):=aB
theorem SN{z:Nat}:∀{rows:List qt}{i:Nat}{r:qt},(∀x∈rows,x.length=z)->rows[i]?=some r->rows.flatten.drop (i*z)=r++(rows.drop (i+1)).flatten
 |[],i,r,_,e=>by simp at e
 |a::rows,0,r,h,e=>by
  simp only[nV,aI]at e;subst e;simp
 |a::rows,i+1,r,h,e=>by
  have Y:=h a ei;have ih:=SN (rows:=rows) (i:=i) (r:=r) (fun x Z=>h x (ev _ Z)) yU;have V:(i+1)*z=a.length+i*z:=by rw[ud,Y];omega
  rw[jL,V,KF,ih];rfl
def zhu{rows:List qt}{r:qt}(h:∀x∈rows,x.length=z)(e:rows[i]?=some r):cI z (rows.flatten.drop (i*z))=some (.agg r):=by
 have hr:=h r (jM e);rw[SN h e];unfold cI;rw[Aq ac,fI ac,ah hr]
def KM(f:FuncId):Bool:=Nat.beq f 67||Nat.beq f 109||Nat.beq f 110||Nat.beq f 112||Nat.beq f 111||Nat.beq f 69||Nat.beq f 193||Nat.beq f 68||Nat.beq f 108||Nat.beq f 160
noncomputable def B9:En:=⟨53,true,bQ zE sN fun x=>.bool (decide (x.1=x.2))⟩
def SO:co prog ρ B9:=cz fun x z=>SJ ρ x z
structure zd7 (tb:qB):Prop where
 pl:∀f,KM f=true->(∀ar,cM tb f ar=none)/\jt tb f=false
 sn:∀ar,cM tb 53 ar=(pE B9).sp ar
 sni:jt tb 53=true
 ff:∀ar,cM tb 55 ar=xR.sp ar
def zd7.plain(h:zd7 tb)(C:KM f=true):zd0 (ay pls tb) f:=db (h.pl f C).1 (h.pl f C).2
theorem zhv(y:Nd×Nd):(sN y).any (oQ 90)=false:=by obtain⟨⟨a,b,c⟩,⟨d,e,f⟩⟩:=y;rfl
def zhw(i:zd7 tb){n:Nat}{x y:Nd}(I:n<57)(Z:cn S n H cs x.cells)(hd:cn S n H V y.cells)(g:x.aj.length<2^60):
 aM prog (ay pls tb) 53 [.agg cs,.agg V] H fun w H'=>w=.bool (decide (x=y))/\Icy S H H':=by
 obtain⟨M,Y,U⟩:cn S (n+1) H [.agg cs,.agg V] (sN (x,y)):=.cons (.agg Z) (.cons (.agg hd) .nil);exact Bu (x:=((x,y):Nd×Nd)) (enc:=sN) (ok:=zE) (out:=fun x=>.bool (decide (x.1=x.2))) SI (fun O=>by rw[i.sn];rfl) i.sni zhv g ac Y (U 60 ac)
def eC.get{n:Nat}{v:AV}{C:List qt}(h:eC S n H z v C){w:qt}(Z:C[i]?=some w):∃(q V:Nat) (rows:List qt) (L:qt),v=.sl q 0 C.length z/\S q/\q<H.next/\H.get q=some (.cells rows.flatten V true)/\rows[i]?=some L/\L.length=z/\(∀x∈rows,x.length=z)/\cn (fun k=>S k/\k≠q) n H L w:=by
 rcases h with⟨_,g⟩|⟨q,V,rows,e,U,g,m,I,M⟩
 .subst g;simp at Z
 .have O:=cE.len M;have j:i<C.length:=by
   by_cases c:i<C.length
   .exact c
   .rw[gV ac]at Z;cases Z
  have hr:rows[i]?=some rows[i]:=aL ac;obtain⟨Y,J⟩:=cE.get M hr Z;exact⟨q,V,rows,_,by rw[e,O],U,g,m,hr,Y,fR.len M,J⟩
def zhx{n:Nat}(h:i<n):ej prog 42 (.sl q 0 n 3) (.int .i64 (i:Int))=some (.ptr q (i*3)):=by rw[pp underlying42 uq h];simp
def zd1.ch{O:Nat->Prop}{vv:AV}(h:zd1 X H S s Y vv)(C:Icy O H H')(hd:∀k,O k->k<H.next->X.b<k/\¬bc vv k/\¬bc X.nv k):zd1 X H' S s Y vv:=by
 have hg:∀k,k<H.next->(k<=X.b\/bc vv k\/bc X.nv k)->H'.get k=H.get k:=fun k j hc=>C.out k fun e=>by
  have:=hd k e j;rcases hc with hc|hc|hc
  .omega
  .exact this.2.1 hc
  .exact this.2.2 hc
 have I:=C.next
 refine⟨by rw[hg _ h.o5 (.inl (aH _))];exact h.m,h.nm.keep ac fun k j=>hg k (h.nS k j).2.1 (.inr (.inr j)),h.ag.dv ac fun k _ _=>C.same k,h.vars.keep ac fun k j=>hg k (h.vS k j).2 (.inr (.inl j)),by rw[I];exact h.o5,fun k j=>?_,fun k j=>?_,fun k j=>?_⟩
 .rw[I];exact h.nS k j
 .rw[I];exact h.sS k j
 .rw[I];exact h.vS k j
def KN{v:AV}(U:eL H v l lo)(I:l.length<2^38):∃O H',cX prog false (H.alloc qh) 26 26 (.sl H.next 0 0 1) v=some (O,H')/\i7 H' O l H.next/\H.next+1<=H'.next/\(∀k,k<H.next->H'.get k=H.get k):=by
 have j:∀k,k<H.next->(H.alloc qh).get k=H.get k:=fun k j=>fq
 have J:pF (H.alloc qh) (.sl H.next 0 0 1) [] H.next:=⟨H.next,rfl,iq,aH _,cC _⟩
 have V:eL (H.alloc qh) v l lo:=U.keep (dA _) fun k h=>j k (U.lt h).2;by_cases Y:l=[]
 .subst Y;refine⟨_,_,?_,.inr J,aH _,j⟩;rcases V with⟨rfl,_⟩|⟨r,Z,rfl,g,_⟩
  .simp only[cX,underlying26,jg,pw,px,show iR prog 26=true by kernel_rfl,eQ]
  .have M:=vI g;simp only[ik]at M;simp only[cX,underlying26,jg,pw,px,show iR prog 26=true by kernel_rfl,ik,M]
 .have z:eQ (H.alloc qh) 1 v=some (l.length,l.map (.int .i64)):=by
   rcases V with⟨_,h⟩|⟨r,Z,rfl,g,_⟩
   .exact(Y h).elim
   .exact vI g
  obtain⟨O,H',i,g,m,L,_⟩:=EB (v:=.sl H.next 0 0 1) (l:=[]) (lo:=H.next) (.inr J) dG z Y bW;rw[nN]at g;simp only[aZ]at m;exact⟨O,H',i,.inr g,ac,fun k h=>by rw[L k h,j k h]⟩
def pS(i:Nat)(l:List b8)(s:b8):Nat:=if bu l s=true then i+dm l s else 0
def SP(l:List b8)(s:b8):dm l s=pS 0 l s:=by
 unfold pS;split
 .omega
 .rename_i h;exact zhp l s jf
theorem SQ(i:Nat)(l:List b8)(s:b8):pS i (s::l) s=i:=by
 have h:bu (s::l) s=true:=by simp[bu]
 rw[pS,ah h,dm,ah rfl];rfl
def SR{a:b8}{l:List b8}{s:b8}(h:a≠s):pS i (a::l) s=pS (i+1) l s:=by
 have e:bu (a::l) s=bu l s:=by simp[bu,h]
 unfold pS;rw[e,dm,af h];split
 .omega
 .rfl
def zhy(g:zd7 tb){lv vv:AV}(I:zd1 X H S s lv vv)(nm:b8)(hl:X.ns.length<2^40):
 aM prog (ay pls tb) 109 [.ptr X.b 0,.aq nm] H fun v H'=>v=.int .i64 ((dm X.ns nm:Nat):Int)/\H'=H:=by
 have L:zd0 (ay pls tb) 109:=g.plain eN;have ct:=I.m;unfold bI at ct;have C:∀H',ij prog H' 66 X.nv=some (.int .i64 X.ns.length):=fun H'=>by
  rcases I.nm with⟨e,h⟩|h
  .rw[e,h];exact DR underlying66
  .exact h.len
 rw[SP];refine a0 (M:=25) (rs:=[.tmp 4]) (L.call _) L.aG L.az func109 rfl rfl SL.2 rfl ?_;dsimp only[SL,aW,Nat.reduceAdd];refine iX ?_;refine bY [0,1] [] 5 X.ns.length (fun i E Y=>Y=H/\pS 0 X.ns nm=pS i (X.ns.drop i) nm) eE ⟨rfl,au⟩ ?_;rintro i E Y hi U m z hsI ⟨O,V⟩;(try simp only[bq,aT,aN,aG,aR,Nat.reduceBEq, *]at U);(try simp only[aT, *]at m);(try simp only[aZ,br,bX,bK,Nat.reduceAdd]at z);subst O;by_cases j:i<X.ns.length
 .have Z:(i:Int)<X.ns.length:=by omega
  have hB:ed Y X.nv X.ns 0:=by
   rcases I.nm with⟨e,h⟩|h
   .rw[h]at j;simp at j
   .exact h
  obtain⟨r,hix,hld⟩:=hB.at j;rw[ft j]at V;generalize X.ns[i]=a at *;by_cases J:a=nm
  .subst J;rw[SQ]at V;refine CG (fun hb hbp=>?_);all_goals refine qq ?_
   refine⟨?_,trivial⟩;rw[V]
  .rw[SR J]at V;refine CG (fun hb hbp=>?_);refine⟨ac,aK,aK,bG,(by simp only[aG,Nat.reduceBEq, *];exact gX (n:=X.ns.length) ac ac),?_⟩;exact⟨rfl,V⟩
 .have Z:¬(i:Int)<X.ns.length:=by omega
  have hd:X.ns.drop i=[]:=ny ac;rw[hd]at V;refine Ho (fun hb hbp=>?_);all_goals refine qq ?_
  refine⟨?_,trivial⟩;rw[V];simp[pS,bu]
def zhz(I:zd7 tb){C vv:AV}(g:zd1 X H S s C vv)(nm:b8)(hl:X.p.aa.length<2^40):
 aM prog (ay pls tb) 110 [.ptr X.b 0,.aq nm] H fun v H'=>v=.int .i64 ((dm (X.p.aa.map (·.name)) nm:Nat):Int)/\H'=H:=by
 have L:zd0 (ay pls tb) 110:=I.plain eN;have ct:=g.m;unfold bI at ct;rw[SP];refine a0 (M:=28) (rs:=[.tmp 4]) (L.call _) L.aG L.az func110 rfl rfl SM.2 rfl ?_;dsimp only[SM,aW,Nat.reduceAdd];refine iX ?_;refine bY [0,1] [] 5 X.p.aa.length (fun i E O=>O=H/\pS 0 (X.p.aa.map (·.name)) nm=pS i ((X.p.aa.drop i).map (·.name)) nm) eE ⟨rfl,au⟩ ?_;rintro i E O hi Y m z hsI ⟨U,V⟩;(try simp only[bq,aT,aN,aG,aR,Nat.reduceBEq, *]at Y);(try simp only[aT, *]at m);(try simp only[aZ,br,bX,bK,Nat.reduceAdd]at z);subst U;by_cases j:i<X.p.aa.length
 .have Z:(i:Int)<X.p.aa.length:=by omega
  have hgx:X.p.aa[i]?=some X.p.aa[i]:=aL j;rw[ft j,dZ]at V;generalize X.p.aa[i]=a at *;by_cases J:a.name=nm
  .rw[<-J]at V;rw[SQ]at V;refine CG (fun hb hbp=>?_);all_goals refine qq ?_
   refine⟨?_,trivial⟩;rw[<-J,V]
  .rw[SR J]at V;refine CG (fun hb hbp=>?_);refine⟨ac,aK,aK,bG,(by simp only[aG,Nat.reduceBEq, *];exact gX (n:=X.p.aa.length) ac ac),?_⟩;exact⟨rfl,V⟩
 .have Z:¬(i:Int)<X.p.aa.length:=by omega
  have hd:X.p.aa.drop i=[]:=ny ac;rw[hd]at V;refine Ho (fun hb hbp=>?_);all_goals refine qq ?_
  refine⟨?_,trivial⟩;rw[V];simp[pS,bu]
set_option maxRecDepth 100000 in
theorem Gm(hG:zd7 tb){lv vv kv:AV}(I:zd1 X H S s lv vv)(n:Nd)(j:eL H kv n.aj lo)(hF:Fin (ai n s).2):
 aM prog (ay pls tb) 67 [.ptr X.b 0,.int .i64 n.op,.int .i64 n.aF,kv] H (sI X S vv H (ai n s)):=by
 have hw:zd0 (ay pls tb) 67:=hG.plain eN;have hkeep:(ay pls tb).keep 67=false:=rfl;have hr:=hF.r;have hn:NdR n:=hr n (uJ.2 (.inr rfl));have hnl:=hn.len;have hlen:s.l.length<2^36:=BP (xX s.l n).length_le hF.l;have o5:=I.o5;obtain⟨L,U,a5,s5,n5,f5⟩:=KN j ac;have hb3:=zfG s5.n n.op n.aF;have hone0:=s5.n.one;refine a0 (M:=52) (rs:=[.tmp 8]) (hw.call _) hw.aG hw.az func67 rfl rfl SK.2 rfl ?_;dsimp only[SK,aW,Nat.reduceAdd];have gh0:=@KL;refine eh ?_;generalize z:Hp.set (Hp.alloc U _) _ _=Hb;have nb:Hb.next=U.next+1:=by rw[<-z];rfl
 have gb:Hb.get U.next=some (.cells [.int .i64 n.op,.int .i64 n.aF,L] 0 true):=by rw[<-z,aA,ah rfl]
 have ob:∀k,k<U.next->Hb.get k=U.get k:=fun k j=>by rw[<-z,aA,af ac,aD,af ac]
 have oo:∀k,k<H.next->Hb.get k=H.get k:=fun k j=>by rw[ob k ac,f5 k j]
 clear z;have R1:zd1 X Hb S s lv vv:=I.keep ac fun k j _=>oo k j;have hv5:eL Hb L n.aj H.next:=s5.n.keep ac fun k j=>ob k (s5.n.lt j).2
 have hone:=hv5.one;have J:∀k,bc L k->H.next<=k/\k<U.next:=fun k j=>⟨(s5.n.lt j).1,(s5.n.lt j).2⟩
 clear a5 s5 f5 ob;refine bY [0,9] [] 10 s.l.length (fun i E O=>zd1 X O S s lv vv/\O.get U.next=some (.cells [.int .i64 n.op,.int .i64 n.aF,L] 0 true)/\eL O L n.aj H.next/\(∀k,k<H.next->¬S k->O.get k=H.get k)/\jl s.l n=i+jl (s.l.drop i) n) eE ⟨R1,gb,hv5,fun k Z _=>oo k Z,au⟩ ?_;clear gb hv5 R1;rintro i E O hi hcE hrH hnH hsI ⟨Y,gi,vi,oi,V⟩;(try simp only[bq,aT,aN,aG,aR,Nat.reduceBEq, *]at hcE);(try simp only[aT, *]at hrH);(try simp only[aZ,br,bX,bK,Nat.reduceAdd]at hnH);have ni:Hb.next<=O.next:=hnH
 have mi:=Y.m;have hll:∀H',ij prog H' 42 lv=some (.int .i64 s.l.length):=fun H'=>by
  have:=Y.ag.len (P:=prog) (t:=42) (H':=H') underlying42
  rwa [cN]at this
 unfold bI at mi;by_cases hlt:i<s.l.length
 .have hlt':(i:Int)<s.l.length:=by omega
  have hgx:s.l[i]?=some s.l[i]:=aL hlt;have hxr:NdR s.l[i]:=hr _ (uJ.2 (.inl (cB hlt)));rw[ft hlt,zfl]at V;generalize s.l[i]=x at *;have hxl:=hxr.len;obtain⟨q,imm,rows,row,hlv,hq1,hq2,hq3,hr1,hr2,hr3,hr4⟩:=Y.ag.get (i:=i) (w:=x.cells) (by rw[eu,hgx];rfl);rw[cN]at hlv;subst hlv;have hixa:=zhx (q:=q) hlt;have hag:=zhu hr3 hr1;have hld:gL prog O 58 (.ptr q (i*3))=some (.agg row):=by
   rw[yN,hq3];exact hag
  have hnd:=Rg (S:=fun k=>S k\/bc L k) n.op n.aF vi fun k j=>.inr j;have hcx:cn (fun k=>S k\/bc L k) 2 O row x.cells:=hr4.keep (fun k j=>.inl j.1) (aH _) fun _ _ _=>rfl;repeat' (first
   |(apply aj ?_;clear hK K)|apply aQ ?_|(apply aV ?_ ?_<;>(intro hb hbp;try(cases hb;done)))|(apply ak fun K hK=>?_)|(apply da 5 [(3,8),(6,8),(7,8)] fun K hK=>?_)|(apply ce ?_;try intro _)|fail)
  refine qe ?_;refine aY ?_ (zhw hG (n:=2) ac hcx hnd ac);rintro _ Hj ⟨rfl,hI⟩;have Rj:=Y.ch hI fun k Z C=>by
   rcases Z with Z|Z
   .exact⟨(Y.sS k Z).1,(Y.sS k Z).2.2,fun e=>(Y.nS k e).2.2.1 Z⟩
   .have:=J k Z;exact⟨ac,fun e=>by have:=(I.vS k e).2;omega,fun e=>by have:=(I.nS k e).2.1;omega⟩
  have mj:=Rj.m;have vj:=vi.ch hI;have gj:Hj.get U.next=some (.cells [.int .i64 n.op,.int .i64 n.aF,L] 0 true):=by
   rw[hI.out _ (fun e=>by
    rcases e with e|e
    .have:=(I.sS _ e).2.1;omega
    .have:=(J _ e).2;omega)]
   exact gi
  have oj:∀k,k<H.next->¬S k->Hj.get k=H.get k:=fun k Z C=>by
   rw[hI.out _ (fun e=>by
    rcases e with e|e
    .exact C e
    .have:=(J _ e).1;omega)]
   exact oi k Z C
  have hldj:gL prog Hj 58 (.ptr q (i*3))=some (.agg row):=by
   rcases hI.same q with e|⟨cs,a,b,tip,e1,e2,_⟩
   .rw[yN,<-e,hq3];exact hag
   .rw[hq3]at e1;simp only[aI,HB.cells.injEq]at e1;obtain⟨rfl,rfl,rfl⟩:=e1;rw[yN,e2];exact hag
  have nj:=hI.next
  unfold bI at mj;dsimp only[aU];by_cases he:x=n
  .rw[ah he]at V;refine LV ?_ ?_
   .exact bN
   all_goals refine qq ?_
   have e1:ai n s=(((jl s.l n:Nat):Int),s):=by rw[ai,kI,ah ac]
   rw[sI,e1,V];exact⟨au,S,_,Rj,⟨ac,fun k Z _ h3 _=>oj k Z h3,fun k h=>.inl h,fun k h=>.inl h⟩⟩
  .rw[af he]at V;refine LV ?_ ?_
   .exact bN
   refine⟨ac,aK,aK,bG,(by simp only[aG,Nat.reduceBEq, *];exact gX (n:=s.l.length) ac ac),?_⟩;exact⟨Rj,gj,vj,oj,ac⟩
 .have hlt':¬(i:Int)<s.l.length:=by omega
  have hd:s.l.drop i=[]:=ny ac;rw[hd]at V;have hi0:jl [] n=0:=rfl;have hixl:jl s.l n=s.l.length:=ac;have hadd:kI s.l n=s.l++[n]:=by rw[kI,af ac]
  have hpo:ai n s=(((jl s.l n:Nat):Int),{s with l:=s.l++[n] }):=by rw[ai,hadd]
  have hSk:∀k,S k->X.b<k/\k<H.next:=fun k h=>⟨(I.sS k h).1,(I.sS k h).2.1⟩
  have hlS:∀k o m z',lv=.sl k o m z'->S k:=fun k o m z' e=>by
   rcases Y.ag with⟨Z,_⟩|⟨q,im,rows,Z,C,_⟩
   .rw[Z]at e;cases e
   .rw[Z]at e;simp only[AV.sl.injEq]at e;rw[<-e.1];exact C
  have hbs:∀H,et prog H 42 1 [(0,.agg [.int .i64 n.op,.int .i64 n.aF,L])]=some (.sl H.next 0 1 3,H.alloc (.cells [.int .i64 n.op,.int .i64 n.aF,L] 0 true)):=fun H=>Re H rfl Su;have g4:∀k,k<O.next->(O.alloc (.cells [.int .i64 n.op,.int .i64 n.aF,L] 0 true)).get k=O.get k:=fun k j=>fq
  obtain⟨H6,a6,s6,n6,q6⟩:=Ks (P:=prog) (t:=42) underlying42 uq D2 D3 rfl aB (S':=fun k=>S k\/bc L k\/k=O.next+1)
   (Y.ag.keep (S':=S) (H':=O.alloc (.cells [.int .i64 n.op,.int .i64 n.aF,L] 0 true)) (fun _ _ h=>h) (dA _) fun k j h6=>g4 k h6)
   (fun k _ h=>.inl h) (.inr (.inr rfl)) (r:=O.next) (imm:=0) (row:=[.int .i64 n.op,.int .i64 n.aF,L]) (w:=n.cells) fG rfl Su
   (Rg n.op n.aF (lo:=H.next) (vi.keep (dA _) fun k j=>g4 k (vi.lt j).2) fun k hk2=>⟨.inr (.inl hk2),fun o m z' e=>by have:=hSk k (hlS k o m z' e);have:=J k hk2;omega⟩)
   Gc Gc
  rw[cN]at a6 s6;simp only[aZ]at a6 s6 n6 q6;have hno:∀k,¬S k->∀o m z',lv≠.sl k o m z':=fun k j o m z' e=>j (hlS k o m z' e);have m4:(O.alloc (.cells [.int .i64 n.op,.int .i64 n.aF,L] 0 true)).get X.b=some (.cells (bI X s lv vv) 0 true):=by rw[g4 _ Y.o5];exact Y.m
  have ge4:(O.alloc (.cells [.int .i64 n.op,.int .i64 n.aF,L] 0 true)).get U.next=some (.cells [.int .i64 n.op,.int .i64 n.aF,L] 0 true):=by rw[g4 _ ac];exact gi
  have g:∀k,k<O.next->¬S k->H6.get k=O.get k:=fun k Z C=>by rw[q6 k ac (hno k C),g4 k Z]
  have m6:H6.get X.b=some (.cells (bI X s lv vv) 0 true):=by rw[g _ Y.o5 fun e=>by have:=hSk _ e;omega];exact Y.m
  have ge6:H6.get U.next=some (.cells [.int .i64 n.op,.int .i64 n.aF,L] 0 true):=by rw[g _ ac fun e=>by have:=hSk _ e;omega];exact gi
  have ew:IntKind.wrap .i64 (((s.l.length+1:Nat):Int)-1)=s.l.length:=EN;have fin:sI X S vv H (ai n s) (.int .i64 s.l.length) (H6.set X.b (.cells (bI X {s with l:=s.l++[n] } (.sl (O.next+1) 0 (s.l.length+1) 3) vv) 0 true)):=by
   rw[sI,hpo,hixl];have g6:∀k,k≠X.b->(H6.set X.b (.cells (bI X {s with l:=s.l++[n] } (.sl (O.next+1) 0 (s.l.length+1) 3) vv) 0 true)).get k=H6.get k:=fun k j=>tF;refine⟨rfl,fun k=>S k\/bc L k\/k=O.next+1,_,⟨gC,Y.nm.keep eg fun k j=>?_,?_,Y.vars.keep eg fun k j=>?_,eg,fun k j=>?_,?_,fun k j=>?_⟩,⟨eg,fun k Z C h3 h4=>?_,?_,fun k h=>.inl h⟩⟩
   .have:=Y.nS k j;rw[g6 k ac,g k this.2.1 this.2.2.1]
   .have e:(s.l++[n]).map Nd.cells=s.l.map Nd.cells++[n.cells]:=by simp
    rw[e];refine s6.keep (fun _ _ h=>h) (aH _) fun k j _=>g6 k ?_;rcases j with j|j|j
    .have:=hSk k j;omega
    .have:=J k j;omega
    .have:=Y.o5;omega
   .have h9:=Y.vS k j;rw[g6 k ac,g k h9.2 fun e=>(Y.sS k e).2.2 j]
   .have h9:=Y.nS k j;have h8:=I.nS k j;refine⟨h9.1,eg,?_,h9.2.2.2⟩;rintro(e|e|e)
    .exact h9.2.2.1 e
    .have:=J k e;omega
    .omega
   .rintro k (j|j|j)
    .have h9:=Y.sS k j;exact⟨h9.1,eg,h9.2.2⟩
    .have h8:=J k j;exact⟨ac,eg,fun e=>by have:=(I.vS k e).2;omega⟩
    .refine⟨by have:=Y.o5;omega,eg,fun e=>?_⟩;have:=(Y.vS k e).2;omega
   .have:=Y.vS k j;simp only[br];omega
   .rw[g6 k C,g k ac h3];exact oi k Z h3
   .rintro k (j|j|j)
    .exact .inl j
    .exact .inr (J k j).1
    .exact .inr ac
  unfold bI at m4 m6 fin;clear s6 g g4 q6 hno hlS;repeat' (first
   |(apply aj ?_;clear hK K)|apply aQ ?_|(apply aV ?_ ?_<;>(intro hb hbp;try(cases hb;done)))|(apply ak fun K hK=>?_)|(apply da 7 [(4,7),(5,7),(6,7)] fun K hK=>?_)|(apply ce ?_;try intro _)|(apply di ?_ ?_<;>clear hK K)|fail)
  all_goals first
   |exact bN
   |skip
  all_goals refine qq ?_
  exact fin
def mo(i:zd7 tb){U vv:AV}(I:zd1 X H S s U vv)(n:Nd){r m:Nat}(O:n.aj.length=m)(hg:H.get r=some (.cells (n.aj.map (.int .i64)) 0 true))(Z:r<H.next)(M:Fin (ai n s).2){op imm:Int}(Y:n.op=op)(V:n.aF=imm):
 aM prog (ay pls tb) 67 [.ptr X.b 0,.int .i64 op,.int .i64 imm,.sl r 0 m 1] H (sI X S vv H (ai n s)):=by
 subst O;subst Y;subst V;exact Gm (lo:=0) i I n (.inr ⟨r,0,rfl,hg,de _,de _,Z⟩) M
def pT(i:zd7 tb){vv:AV}(I:zd1 X H S s Y vv)(op imm:Int)(Z:Fin (ai ⟨op,imm,[]⟩ s).2):
 aM prog (ay pls tb) 67 [.ptr X.b 0,.int .i64 op,.int .i64 imm,.ak] H (sI X S vv H (ai ⟨op,imm,[]⟩ s)):=
 Gm (lo:=0) i I ⟨op,imm,[]⟩ (.inl ⟨rfl,rfl⟩) Z
end
section
def tyQaC.tyF:=ad @cA (ad @dw (ad @gQ (ad @jA (ad @iL (ad @eZ (ad @fX (ad @fU (ad @lJ (ad @tl (ad @Rh (@BS)))))))))))
open tyQaC
noncomputable def Gn:{c:SC // aC 19 (f112.body.getD .skip)=c}:=by
 refine⟨?_,?_⟩;rotate_left
 .simp only[f112,bz,aC,bw,bt,bA,bB,Nat.blt,Nat.ble];rfl
noncomputable def SS:{c:SC // aC 35 (f111.body.getD .skip)=c}:=by
 refine⟨?_,?_⟩;rotate_left
 .simp only[f111,bz,aC,bw,bt,bA,bB,Nat.blt,Nat.ble];rfl
def zF(i:zd7 tb){vv:AV}(I:zd1 X H S s Y vv)(c a b:Int)(Z:Fin (b9 c a b s).2):
 aM prog (ay pls tb) 112 [.ptr X.b 0,.int .i64 c,.int .i64 a,.int .i64 b] H (sI X S vv H (b9 c a b s)):=by
 have L:zd0 (ay pls tb) 112:=i.plain eN;by_cases h:a=b
 .subst h;have e:b9 c a a s=(a,s):=by rw[b9,ah rfl]
  rw[e];refine a0 (M:=19) (rs:=[.tmp 8]) (L.call _) L.aG L.az func112 rfl rfl Gn.2 rfl ?_;dsimp only[Gn,aW,Nat.reduceAdd];refine LY ?_;all_goals refine qq ?_
  exact⟨rfl,S,Y,I,fS _ _ _ _⟩
 .have e:b9 c a b s=ai ⟨22,0,[c,a,b]⟩ s:=by rw[b9,af h]
  rw[e]at Z⊢;refine a0 (M:=19) (rs:=[.tmp 8]) (L.call _) L.aG L.az func112 rfl rfl Gn.2 rfl ?_;dsimp only[Gn,aW,Nat.reduceAdd];refine Wu fun K hK=>?_;refine qd ?_;refine aY ?_ (mo i (I.alloc _) ⟨22,0,[c,a,b]⟩ rfl iq (cC _) Z rfl rfl);intro w V g;have m:=g.cP ((fS X S vv H).alloc _);obtain⟨rfl,U⟩:=g;dsimp only[aU];refine lQ ?_;all_goals refine qq ?_
  exact m
def SU(Z:zd7 tb){m vv:AV}(I:zd1 X H S s m vv)(k:Nat)(i:Int){a:Ar}(ha:X.p.aa[k]?=some a)(U:Fin (gI a.len i s)):
 aM prog (ay pls tb) 111 [.ptr X.b 0,.int .i64 (k:Int),.int .i64 i] H (zfE X S vv H (gI a.len i s)):=by
 have L:zd0 (ay pls tb) 111:=Z.plain eN;have ct:=I.m;unfold bI at ct;have C:Fin (ai ⟨19,0,[i,(ai ⟨1,a.len,[]⟩ s).1]⟩ (ai ⟨1,a.len,[]⟩ s).2).2:=U.le (wc _ _ _).le;have J:Fin (ai ⟨1,a.len,[]⟩ s).2:=C.le (dS _ _).le;refine a0 (M:=35) (rs:=[]) (L.call _) L.aG L.az func111 rfl rfl SS.2 rfl ?_;dsimp only[SS,aW,Nat.reduceAdd];refine dY fun K hK=>?_;refine qd ?_;refine aY ?_ (pT Z I 1 a.len J);rintro w j ⟨rfl,S2,lv2,R2,F2⟩;dsimp only[aU];refine dY fun K hK=>?_;refine qd ?_;refine aY ?_ (mo Z (R2.alloc _) ⟨19,0,[i,(ai ⟨1,a.len,[]⟩ s).1]⟩ rfl iq (cC _) C rfl rfl);rintro w H3 ⟨rfl,S3,lv3,z,F3⟩;have Y:=F2.trans (((fS X S2 vv j).alloc _).trans F3);have m3:=z.m;unfold bI at m3;dsimp only[aU];refine dY fun K hK=>?_;refine qd ?_;refine aY ?_ (mo Z (z.alloc _) ⟨27,2,[(ai ⟨19,0,[i,(ai ⟨1,a.len,[]⟩ s).1]⟩ (ai ⟨1,a.len,[]⟩ s).2).2.ab,(ai ⟨19,0,[i,(ai ⟨1,a.len,[]⟩ s).1]⟩ (ai ⟨1,a.len,[]⟩ s).2).1]⟩ rfl iq (cC _) (U.le ⟨vY _,aH _⟩) rfl rfl);rintro w H4 ⟨rfl,S4,g,O,F4⟩;have V:=Y.trans (((fS X S3 vv H3).alloc _).trans F4);have m4:=O.m;unfold bI at m4;dsimp only[aU];refine Wx ?_;all_goals first
  |exact bN
  |skip
 all_goals refine qq ?_
 obtain⟨a1,b1⟩:=O.setS (ai ⟨27,2,[(ai ⟨19,0,[i,(ai ⟨1,a.len,[]⟩ s).1]⟩ (ai ⟨1,a.len,[]⟩ s).2).2.ab,(ai ⟨19,0,[i,(ai ⟨1,a.len,[]⟩ s).1]⟩ (ai ⟨1,a.len,[]⟩ s).2).1]⟩ (ai ⟨19,0,[i,(ai ⟨1,a.len,[]⟩ s).1]⟩ (ai ⟨1,a.len,[]⟩ s).2).2).1;exact⟨S4,g,a1,V.trans b1⟩
end
section
def tyQaD.tyF:=ad @ec (ad @cA (ad @dw (ad @iL (ad @eZ (ad @fX (ad @fU (ad @fM (ad @fb (ad @tl (ad @BS (@zr)))))))))))
open tyQaD
noncomputable def rZ:{c:SC // aC 166 (f69.body.getD .skip)=c}:=by
 refine⟨?_,?_⟩;rotate_left
 .simp only[f69,bz,aC,bw,bt,bA,bB,Nat.blt,Nat.ble];rfl
structure CxQ (X:Qx) (c:Cx):Prop where
 ar:X.p.aa=c.aa
 ns:X.ns=c.aK
 fs:X.p.funcs=c.funcs
 l1:c.aa.length<2^40
 l2:c.aK.length<2^40
 l3:c.funcs.length<2^40
def CxQ.ix(i:zd7 tb){c:Cx}(L:CxQ X c){vv:AV}(I:zd1 X H S s Y vv)(nm:b8):
 aM prog (ay pls tb) 109 [.ptr X.b 0,.aq nm] H fun v H'=>v=.int .i64 ((dm c.aK nm:Nat):Int)/\H'=H:=by
 rw[<-L.ns];exact zhy i I nm (by rw[L.ns];exact L.l2)
def SV(i:zd7 tb){c:Cx}(L:CxQ X c){vv:AV}(I:zd1 X H S s Y vv)(nm:b8):
 aM prog (ay pls tb) 110 [.ptr X.b 0,.aq nm] H fun v H'=>v=.int .i64 ((dm (c.aa.map (·.name)) nm:Nat):Int)/\H'=H:=by
 rw[<-L.ar];exact zhz i I nm (by rw[L.ar];exact L.l1)
set_option maxRecDepth 100000 in
theorem sO{tb:qB}(i:zd7 tb){X:Qx}{c:Cx}(hX:CxQ X c):∀(n:Nat) (x:Ex) (s:Bd) (r:Int×Bd),fE c n x s=some r->Fin r.2->∀{H:Hp}{S:Nat->Prop}{lv vv:AV},zd1 X H S s lv vv ->
 aM prog (ay pls tb) 69 [.ptr X.b 0,.agg x.cells] H (sI X S vv H r)
 |0,x,s,r,h,_,_,_,_,_,_=>by simp[fE]at h
 |n+1,x,s,r,h,hF,H,S,lv,vv,hR=>by
  have IH:=sO i hX n;have L:zd0 (ay pls tb) 69:=i.plain eN;have R1:=hR.alloc (.cells x.cells 0 true);have F1:=(fS X S vv H).alloc (.cells x.cells 0 true);have ct:=R1.m;unfold bI at ct;have gx:(H.alloc (.cells x.cells 0 true)).get H.next=some (.cells x.cells 0 true):=fG
  unfold fE at h;by_cases h1:x.aw=1
  .rw[ah h1,aI]at h;subst h;refine a0 (M:=166) (rs:=[.tmp 4]) (L.call _) L.aG L.az func69 rfl rfl rZ.2 rfl ?_;dsimp only[rZ,aW,Nat.reduceAdd];repeat' (first
    |(apply aj ?_;clear hK K)|apply aQ ?_|(apply aV ?_ ?_<;>(intro hb hbp;try(cases hb;done)))|(apply ak fun K hK=>?_)|fail)
   refine qd ?_;refine aY ?_ (pT i R1 1 x.n hF);intro w H2 h2;have h4:=h2.cP F1;obtain⟨rfl,h3⟩:=h2;dsimp only[aU];refine eP ?_;all_goals refine qq ?_
   exact h4
  rw[af h1]at h;by_cases h2:x.aw=2
  .rw[ah h2]at h;obtain⟨v,hv,rfl⟩:=sZ.1 h;have kix:=CxQ.ix i hX R1 x.name;obtain⟨q,hix,hld⟩:=R1.atV hv;refine a0 (M:=166) (rs:=[.tmp 4]) (L.call _) L.aG L.az func69 rfl rfl rZ.2 rfl ?_;dsimp only[rZ,aW,Nat.reduceAdd];repeat' (first
    |(apply aj ?_;clear hK K)|apply aQ ?_|(apply ch ?_;first|refine Rx.k (kix) ?_)|(apply aV ?_ ?_<;>(intro hb hbp;try(cases hb;done)))|(apply ak fun K hK=>?_)|(apply da 5 [(3,7),(3,11),(6,7),(9,11)] fun K hK=>?_)|(apply ce ?_;try intro _)|(apply di ?_ ?_<;>clear hK K)|fail)
   .exact bN
   all_goals refine qq ?_
   exact⟨rfl,S,lv,R1,F1⟩
  rw[af h2]at h;by_cases h3:x.aw=3
  .rw[ah h3]at h;simp only[jk]at h;obtain⟨k,hk,V,he,a,ha,rfl⟩:=h;have ha':X.p.aa[dm (c.aa.map (·.name)) x.name]?=some a:=by rw[hX.ar];exact ha
   have hFc:Fin (gI a.len V.1 V.2):=hF.le (dS _ _).le;refine a0 (M:=166) (rs:=[.tmp 4]) (L.call _) L.aG L.az func69 rfl rfl rZ.2 rfl ?_;dsimp only[rZ,aW,Nat.reduceAdd];repeat' (first
    |(apply aj ?_;clear hK K)|apply aQ ?_|(apply aV ?_ ?_<;>(intro hb hbp;try(cases hb;done)))|(apply ak fun K hK=>?_)|fail)
   refine qd ?_;refine aY ?_ (IH k s V he (hFc.le (wd _ _ _).le) R1);rintro v H2 ⟨rfl,S2,lv2,R2,Y⟩;have g2:=gJ hR Y;have kax:=SV i hX R2 x.name;dsimp only[aU];repeat' (first
    |(apply aj ?_;clear hK K)|apply aO ?_|(apply ez ?_;first|refine Rx.k (kax) ?_)|(apply ak fun K hK=>?_)|fail)
   refine qd ?_;refine aY ?_ (SU i R2 (dm (c.aa.map (·.name)) x.name) V.1 ha' hFc);rintro w H3 ⟨S3,lv3,R3,F3⟩;have m3:=R3.m;unfold bI at m3;dsimp only[aU];refine dY fun K hK=>?_;refine qd ?_;refine aY ?_ (mo i (R3.alloc _) ⟨23,dm (c.aa.map (·.name)) x.name,[(gI a.len V.1 V.2).ab,V.1]⟩ rfl iq (cC _) hF rfl rfl);intro w H4 h4;have h5:=h4.cP (F1.trans (Y.trans (F3.trans ((fS X S3 vv H3).alloc _))));obtain⟨rfl,h6⟩:=h4;dsimp only[aU];refine eP ?_;all_goals refine qq ?_
   exact h5
  rw[af h3]at h;by_cases h5:x.aw=5
  .rw[ah h5]at h;simp only[jk]at h;obtain⟨k0,hk0,bV,e0,k1,hk1,V,e1,k2,hk2,g,e2,rfl⟩:=h;have hFt:Fin (b9 bV.1 V.2.ab (b9 bV.1 V.1 g.1 g.2).2.ab (b9 bV.1 V.1 g.1 g.2).2).2:=hF.le ⟨vY _,aH _⟩;have hFv:Fin (b9 bV.1 V.1 g.1 g.2).2:=hFt.le (iO _ _ _ _).le;have hF2:Fin g.2:=hFv.le (iO _ _ _ _).le;have J:Fin V.2:=(hF2.le (eO c n _ _ _ e2).le).le ⟨vY _,aH _⟩;have O:Fin bV.2:=J.le (eO c n _ _ _ e1).le;refine a0 (M:=166) (rs:=[.tmp 4]) (L.call _) L.aG L.az func69 rfl rfl rZ.2 rfl ?_;dsimp only[rZ,aW,Nat.reduceAdd];repeat' (first
    |(apply aj ?_;clear hK K)|apply aQ ?_|(apply aV ?_ ?_<;>(intro hb hbp;try(cases hb;done)))|(apply ak fun K hK=>?_)|fail)
   refine qd ?_;refine aY ?_ (IH k0 s bV e0 O R1);rintro v H2 ⟨rfl,S2,lv2,R2,Y⟩;have g2:=gJ hR Y;have m2:=R2.m;unfold bI at m2;dsimp only[aU];refine CH fun K hK=>?_;refine qd ?_;refine aY ?_ (IH k1 _ V e1 J R2);rintro v H3 ⟨rfl,S3,lv3,R3,F3⟩;have g3:=gJ hR (Y.trans F3);have m3:=R3.m;obtain⟨R3s,F3s⟩:=R3.setS bV.2.ab;have g3s:=gJ hR (Y.trans (F3.trans F3s));unfold bI at m3;dsimp only[bI]at R3s F3s g3s;dsimp only[aU];refine Wv fun K hK=>?_;refine qd ?_;refine aY ?_ (IH k2 _ g e2 hF2 R3s);rintro v H4 ⟨rfl,S4,lv4,R4,F4⟩;dsimp only[aU];refine dY fun K hK=>?_;refine qd ?_;refine aY ?_ (zF i R4 bV.1 V.1 g.1 hFv);rintro v H5 ⟨rfl,S5,lv5,R5,F5⟩;have m5:=R5.m;unfold bI at m5;dsimp only[aU];refine dY fun K hK=>?_;refine qd ?_;refine aY ?_ (zF i R5 bV.1 V.2.ab _ hFt);rintro v H6 ⟨rfl,S6,U,R6,F6⟩;have m6:=R6.m;unfold bI at m6;dsimp only[aU];refine eP ?_;all_goals refine qq ?_
   obtain⟨R7,F7⟩:=R6.setS (b9 bV.1 V.2.ab (b9 bV.1 V.1 g.1 g.2).2.ab (b9 bV.1 V.1 g.1 g.2).2).1;exact⟨rfl,S6,U,R7,F1.trans (Y.trans (F3.trans (F3s.trans (F4.trans (F5.trans (F6.trans F7))))))⟩
  rw[af h5]at h;simp only[js]at h;obtain⟨k0,hk0,bV,e0,h⟩:=h;by_cases hz:x.aj.length=1
  .rw[ah hz,aI]at h;subst h;have O:Fin bV.2:=hF.le (dS _ _).le;have hz':((x.aj.length:Nat):Int)=1:=ac;refine a0 (M:=166) (rs:=[.tmp 4]) (L.call _) L.aG L.az func69 rfl rfl rZ.2 rfl ?_;dsimp only[rZ,aW,Nat.reduceAdd];repeat' (first
    |(apply aj ?_;clear hK K)|apply aQ ?_|(apply aV ?_ ?_<;>(intro hb hbp;try(cases hb;done)))|(apply ak fun K hK=>?_)|fail)
   refine qd ?_;refine aY ?_ (IH k0 s bV e0 O R1);rintro v H2 ⟨rfl,S2,lv2,R2,Y⟩;have g2:=gJ hR Y;dsimp only[aU];repeat' (first
    |(apply aj ?_;clear hK K)|apply aQ ?_|(apply aV ?_ ?_<;>(intro hb hbp;try(cases hb;done)))|(apply ak fun K hK=>?_)|fail)
   refine qd ?_;refine aY ?_ (mo i (R2.alloc _) ⟨x.op,0,[bV.1]⟩ rfl iq (cC _) hF rfl rfl);intro w H4 h4;have h5:=h4.cP (F1.trans (Y.trans ((fS X S2 vv H2).alloc _)));obtain⟨rfl,h6⟩:=h4;dsimp only[aU];refine eP ?_;all_goals refine qq ?_
   exact h5
  rw[af hz]at h;simp only[jk]at h;obtain⟨k1,hk1,V,e1,rfl⟩:=h;have hz':¬((x.aj.length:Nat):Int)=1:=ac;have Z:Fin (if x.op=7\/x.op=8 then nE V.1 V.2 else V.2):=hF.le (dS _ _).le;have J:Fin V.2:=by
   split at Z
   .exact Z.le (FT _ _).le
   .exact Z
  have O:Fin bV.2:=J.le (eO c n _ _ _ e1).le;generalize hq:(if x.op=7\/x.op=8 then nE V.1 V.2 else V.2)=q at *;refine a0 (M:=166) (rs:=[.tmp 4]) (L.call _) L.aG L.az func69 rfl rfl rZ.2 rfl ?_;dsimp only[rZ,aW,Nat.reduceAdd];repeat' (first
   |(apply aj ?_;clear hK K)|apply aQ ?_|(apply aV ?_ ?_<;>(intro hb hbp;try(cases hb;done)))|(apply ak fun K hK=>?_)|fail)
  refine qd ?_;refine aY ?_ (IH k0 s bV e0 O R1);rintro v H2 ⟨rfl,S2,lv2,R2,Y⟩;have g2:=gJ hR Y;dsimp only[aU];repeat' (first
   |(apply aj ?_;clear hK K)|apply aQ ?_|(apply aV ?_ ?_<;>(intro hb hbp;try(cases hb;done)))|(apply ak fun K hK=>?_)|fail)
  refine qd ?_;refine aY ?_ (IH k1 _ V e1 J R2);rintro v H3 ⟨rfl,S3,lv3,R3,F3⟩;have g3:=gJ hR (Y.trans F3);have I:=F1.trans (Y.trans F3);dsimp only[aU];by_cases hd:x.op=7\/x.op=8
  .rw[ah hd]at hq;subst hq;have z:Fin (ai ⟨16,0,[V.1,(ai ⟨1,0,[]⟩ V.2).1]⟩ (ai ⟨1,0,[]⟩ V.2).2).2:=Z.le (wc _ _ _).le;have hFz:Fin (ai ⟨1,0,[]⟩ V.2).2:=z.le (dS _ _).le;have hdiv:nE V.1 V.2=mh 1 (ai ⟨16,0,[V.1,(ai ⟨1,0,[]⟩ V.2).1]⟩ (ai ⟨1,0,[]⟩ V.2).2).1 (ai ⟨16,0,[V.1,(ai ⟨1,0,[]⟩ V.2).1]⟩ (ai ⟨1,0,[]⟩ V.2).2).2:=rfl;have hor:x.op=7\/(¬x.op=7/\x.op=8):=ac;rcases hor with h7|⟨h7,h8⟩
   .refine CH fun K hK=>?_;refine qd ?_;refine aY ?_ (pT i R3 1 0 hFz);rintro v H4 ⟨rfl,S4,lv4,R4,F4⟩;dsimp only[aU];refine dY fun K hK=>?_;refine qd ?_;refine aY ?_ (mo i (R4.alloc _) ⟨16,0,[V.1,(ai ⟨1,0,[]⟩ V.2).1]⟩ rfl iq (cC _) z rfl rfl);rintro v H5 ⟨rfl,S5,lv5,R5,F5⟩;have F35:=I.trans (F4.trans (((fS X S4 vv H4).alloc _).trans F5));have F25:=Y.trans (F3.trans (F4.trans (((fS X S4 vv H4).alloc _).trans F5)));clear F4 F5;obtain⟨w,C⟩:∃w,ai ⟨16,0,[V.1,(ai ⟨1,0,[]⟩ V.2).1]⟩ (ai ⟨1,0,[]⟩ V.2).2=w:=⟨_,rfl⟩;rw[C]at R5 z;have hdw:nE V.1 V.2=mh 1 w.1 w.2:=by rw[<-C];rfl
    rw[hdw]at Z hF;simp only[C];have m5:=R5.m;unfold bI at m5;dsimp only[aU];refine dY fun K hK=>?_;refine qd ?_;refine aY ?_ (mo i (R5.alloc _) ⟨27,1,[w.2.ab,w.1]⟩ rfl iq (cC _) (Z.le ⟨vY _,aH _⟩) rfl rfl);rintro v H6 ⟨rfl,S6,U,R6,F6⟩;have F26:=F25.trans (((fS X S5 vv H5).alloc _).trans F6);have F36:=F35.trans (((fS X S5 vv H5).alloc _).trans F6);have m6:=R6.m;obtain⟨R7,F7⟩:=R6.setS (ai ⟨27,1,[w.2.ab,w.1]⟩ w.2).1;have g7:=gJ hR (F26.trans F7);have R7':zd1 X (H6.set X.b (.cells (bI X { (ai ⟨27,1,[w.2.ab,w.1]⟩ w.2).2 with ab:=(ai ⟨27,1,[w.2.ab,w.1]⟩ w.2).1} U vv) 0 true)) S6 (mh 1 w.1 w.2) U vv:=R7;have m:=mo i (R7'.alloc (.cells [.int .i64 bV.1,.int .i64 V.1] 0 true)) ⟨x.op,0,[bV.1,V.1]⟩ rfl iq (cC _) hF h7 rfl;unfold bI at m6;dsimp only[bI]at g7 m F7;simp only[br]at m;dsimp only[aU];refine dY fun K hK=>?_;refine qd ?_;refine aY ?_ m;intro v H8 j;have h9q:=j.cP (F36.trans (F7.trans ((fS X S6 vv _).alloc _)));obtain⟨rfl,h6q⟩:=j;dsimp only[aU];refine eP ?_;all_goals refine qq ?_
    rw[hdw];rw[h7]at h9q⊢;exact h9q
   .refine CH fun K hK=>?_;refine qd ?_;refine aY ?_ (pT i R3 1 0 hFz);rintro v H4 ⟨rfl,S4,lv4,R4,F4⟩;dsimp only[aU];refine dY fun K hK=>?_;refine qd ?_;refine aY ?_ (mo i (R4.alloc _) ⟨16,0,[V.1,(ai ⟨1,0,[]⟩ V.2).1]⟩ rfl iq (cC _) z rfl rfl);rintro v H5 ⟨rfl,S5,lv5,R5,F5⟩;have F35:=I.trans (F4.trans (((fS X S4 vv H4).alloc _).trans F5));have F25:=Y.trans (F3.trans (F4.trans (((fS X S4 vv H4).alloc _).trans F5)));clear F4 F5;obtain⟨w,C⟩:∃w,ai ⟨16,0,[V.1,(ai ⟨1,0,[]⟩ V.2).1]⟩ (ai ⟨1,0,[]⟩ V.2).2=w:=⟨_,rfl⟩;rw[C]at R5 z;have hdw:nE V.1 V.2=mh 1 w.1 w.2:=by rw[<-C];rfl
    rw[hdw]at Z hF;simp only[C];have m5:=R5.m;unfold bI at m5;dsimp only[aU];refine dY fun K hK=>?_;refine qd ?_;refine aY ?_ (mo i (R5.alloc _) ⟨27,1,[w.2.ab,w.1]⟩ rfl iq (cC _) (Z.le ⟨vY _,aH _⟩) rfl rfl);rintro v H6 ⟨rfl,S6,U,R6,F6⟩;have F26:=F25.trans (((fS X S5 vv H5).alloc _).trans F6);have F36:=F35.trans (((fS X S5 vv H5).alloc _).trans F6);have m6:=R6.m;obtain⟨R7,F7⟩:=R6.setS (ai ⟨27,1,[w.2.ab,w.1]⟩ w.2).1;have g7:=gJ hR (F26.trans F7);have R7':zd1 X (H6.set X.b (.cells (bI X { (ai ⟨27,1,[w.2.ab,w.1]⟩ w.2).2 with ab:=(ai ⟨27,1,[w.2.ab,w.1]⟩ w.2).1} U vv) 0 true)) S6 (mh 1 w.1 w.2) U vv:=R7;have m:=mo i (R7'.alloc (.cells [.int .i64 bV.1,.int .i64 V.1] 0 true)) ⟨x.op,0,[bV.1,V.1]⟩ rfl iq (cC _) hF h8 rfl;unfold bI at m6;dsimp only[bI]at g7 m F7;simp only[br]at m;dsimp only[aU];refine dY fun K hK=>?_;refine qd ?_;refine aY ?_ m;intro v H8 j;have h9q:=j.cP (F36.trans (F7.trans ((fS X S6 vv _).alloc _)));obtain⟨rfl,h6q⟩:=j;dsimp only[aU];refine eP ?_;all_goals refine qq ?_
    rw[hdw];rw[h8]at h9q⊢;exact h9q
  .rw[af hd]at hq;subst hq;have h7:¬x.op=7:=fun e=>hd (.inl e);have h8:¬x.op=8:=fun e=>hd (.inr e);refine CH fun K hK=>?_;refine qd ?_;refine aY ?_ (mo i (R3.alloc _) ⟨x.op,0,[bV.1,V.1]⟩ rfl iq (cC _) hF rfl rfl);intro w H4 h4;have h5:=h4.cP (I.trans ((fS X S3 vv H3).alloc _));obtain⟨rfl,h6⟩:=h4;dsimp only[aU];refine eP ?_;all_goals refine qq ?_
   exact h5
end
section
def tyQaE.tyF:=ad @cA (ad @tj (ad @dw (ad @fL (ad @fM (ad @fb (ad @gF (@xl)))))))
open tyQaE
noncomputable def SW:{c:SC // aC 52 (f193.body.getD .skip)=c}:=by
 refine⟨?_,?_⟩;rotate_left
 .simp only[f193,bz,aC,bw,bt,bA,bB,Nat.blt,Nat.ble];rfl
def zd1.ez{i:Hp}{vv:AV}(I:zd1 X H S s Y vv)(V:H.next<=i.next)(O:∀k,k<H.next->k≠q->i.get k=H.get k)(L:X.b<q)(M:¬S q)(Z:¬bc vv q)(m:¬bc X.nv q):zd1 X i S s Y vv:=I.keep V fun k U g=>O k U fun e=>by
 subst e;rcases g with g|g|g|g
 .omega
 .exact M g
 .exact Z g
 .exact m g
set_option maxRecDepth 100000 in
theorem KO{tb:qB}(hG:zd7 tb){X:Qx}{c:Cx}(hX:CxQ X c):∀(N n:Nat),n<N->∀(l:qE) (b b':qL),ol c.aK n l b=some b'->bH l<2^40->∀{H:Hp}{S:Nat->Prop}{s:Bd}{lv vv:AV}{q:Nat},zd1 X H S s lv vv->H.get q=some (.cells (b.map .bool) 0 true)->X.b<q->q<H.next->¬S q->¬bc vv q->¬bc X.nv q ->
 aM prog (ay pls tb) 193 [.ptr X.b 0,.sl q 0 b.length 1,.aE (l.map St.cells)] H (zfH q H b')
 |0,n,hn,_,_,_,_,_,_,_,_,_,_,_,_,_,_,_,_,_,_=>by omega
 |N+1,n,hn,l,b,b',h,hz,H,S,s,lv,vv,q,hR,hg,hq1,hq2,hq3,hq4,hq5=>by
  have hw:zd0 (ay pls tb) 193:=hG.plain eN;have hll:=vA l;refine a0 (M:=52) (rs:=[]) (hw.call _) hw.aG hw.az func193 rfl rfl SW.2 rfl ?_;dsimp only[SW,aW,Nat.reduceAdd];refine eh ?_;refine bY [0,1,2] [] 6 l.length (fun i E I=>∃m Z,m<=n/\Z.length=b.length/\ol c.aK m (l.drop i) Z=some b'/\I.get q=some (.cells (Z.map .bool) 0 true)/\Smq H.next q H I) eE ⟨n,b,aH _,rfl,h,hg,⟨fun _ _ _=>rfl⟩⟩ ?_;rintro i E I hi hcE hrH U hsI ⟨m,Z,hm,hbl,V,L,O⟩;(try simp only[bq,aT,aN,aG,aR,Nat.reduceBEq, *]at hcE);(try simp only[aT, *]at hrH);(try simp only[aZ,br,bX,bK,Nat.reduceAdd]at U);have R2:zd1 X I S s lv vv:=hR.ez U O.get hq1 hq3 hq4 hq5;by_cases j:i<l.length
  .have C:(i:Int)<l.length:=by omega
   have hgx:l[i]?=some l[i]:=aL j;have hmem:=rF (cB j);have hsz:=(l[i]).aT;cases m with
   |zero=>simp[ol]at V
   |succ m=>
   rw[ft j]at V;unfold ol at V;simp only[]at V;generalize l[i]=x at *;split at V
   .cases V
   rename_i hno;simp only[js]at V;obtain⟨b2,j2,b3,j3,j4⟩:=V;refine yl ?_;(apply bp (fun hb hbp=>?_) (fun hb hbp=>?_)<;>try(cases hb;done));apply Je ?_;apply vp ?_;apply cb.block ?_;apply vp ?_;have J:=CxQ.ix hG hX R2 x.name;have z:(if x.aw=1\/x.aw=6 then Z.set (dm c.aK x.name) true else Z).length=b.length:=by split<;>simp[hbl]
   refine Bv (fun E' H'=>E'.at 0=.ptr X.b 0/\E'.at 1=.sl q 0 b.length 1/\E'.at 2=.aE (l.map St.cells)/\E'.at 6=.int .i64 i/\H'.get q=some (.cells ((if x.aw=1\/x.aw=6 then Z.set (dm c.aK x.name) true else Z).map .bool) 0 true)/\H'.next=I.next/\Smq H.next q H H') ?_ ?_
   .by_cases hk:x.aw=1\/x.aw=6
    .have hixl:dm c.aK x.name<Z.length:=by
      by_cases c2:dm c.aK x.name<Z.length
      .exact c2
      .exact absurd ⟨hk,ac⟩ hno
     have hixa:=zt (q:=q) (n:=b.length) (m:=dm c.aK x.name) ac;have hst:=FU L hixl true;rcases hk with Y|h6
     .repeat' (first
       |(apply aj ?_;clear hK K)|apply aQ ?_|(apply ch ?_;first|refine Rx.k (J) ?_)|(apply bT ?_ ?_<;>(intro hg hgp;try(cases hg;done)))|(apply aV ?_ ?_<;>(intro hb hbp;try(cases hb;done)))|(apply ak fun K hK=>?_)|fail)
      exact⟨rfl,eE,eE,eE,eE,by rw[aA,ah rfl,ah (.inl Y)],rfl,⟨fun k Y g=>by rw[aA,af g];exact O.get k Y g⟩⟩
     .have Y:¬x.aw=1:=by omega
      repeat' (first
       |(apply aj ?_;clear hK K)|apply aQ ?_|(apply ch ?_;first|refine Rx.k (J) ?_)|(apply bT ?_ ?_<;>(intro hg hgp;try(cases hg;done)))|(apply aV ?_ ?_<;>(intro hb hbp;try(cases hb;done)))|(apply ak fun K hK=>?_)|fail)
      exact⟨rfl,eE,eE,eE,eE,by rw[aA,ah rfl,ah (.inr h6)],rfl,⟨fun k Y g=>by rw[aA,af g];exact O.get k Y g⟩⟩
    .have Y:¬x.aw=1:=fun e=>hk (.inl e);have h6:¬x.aw=6:=fun e=>hk (.inr e);rw[af hk];repeat' (first
      |(apply aj ?_;clear hK K)|apply aQ ?_|(apply bT ?_ ?_<;>(intro hg hgp;try(cases hg;done)))|(apply aV ?_ ?_<;>(intro hb hbp;try(cases hb;done)))|(apply ak fun K hK=>?_)|fail)
     exact⟨rfl,eE,eE,eE,eE,L,rfl,O⟩
   generalize (if x.aw=1\/x.aw=6 then Z.set (dm c.aK x.name) true else Z)=b1 at *;clear J;rintro E3 H3 ⟨k0,k1,k2,k6,g3,n3,s3⟩;dsimp only[mX];have R3:zd1 X H3 S s lv vv:=hR.ez ac s3.get hq1 hq3 hq4 hq5;have n3':I.next<=H3.next:=ac
   clear n3;refine dY fun K hK=>?_;refine qd ?_;refine aY ?_ (by rw[<-z];exact KO hG hX N m ac x.a9 b1 b2 j2 ac R3 g3 hq1 ac hq3 hq4 hq5);rintro v H4 ⟨g4,n4,s4⟩;have hbl2:=xZ _ _ _ _ _ j2;have s4':Smq H.next q H H4:=⟨fun k Y g=>by rw[s4 k ac g];exact s3.get k Y g⟩
   have R4:zd1 X H4 S s lv vv:=hR.ez ac s4'.get hq1 hq3 hq4 hq5;clear s4;dsimp only[aU];refine dY fun K hK=>?_;refine qd ?_;refine aY ?_ (by rw[<-z,<-hbl2];exact KO hG hX N m ac x.bl b2 b3 j3 ac R4 g4 hq1 ac hq3 hq4 hq5);rintro v H5 ⟨g5,n5,s5⟩;have hbl3:=xZ _ _ _ _ _ j3;have s5':Smq H.next q H H5:=⟨fun k Y g=>by rw[s5 k ac g];exact s4'.get k Y g⟩
   clear s5;dsimp only[aU];refine eh ?_;refine⟨ac,aK,aK,bG,mF,?_⟩;exact⟨m,b3,ac,ac,j4,g5,s5'⟩
  .have C:¬(i:Int)<l.length:=by omega
   refine CI (fun hb hbp=>?_);all_goals refine qq ?_
   have hd:l.drop i=[]:=ny ac;rw[hd]at V;cases m with
   |zero=>simp[ol]at V
   |succ m=>
    cases V;exact⟨L,U,O.get⟩
end
section
def tyQaF.tyF:=ad @ec (ad @cA (ad @dw (ad @gQ (ad @jA (ad @iL (ad @eZ (ad @fX (ad @fU (ad @fL (ad @fM (ad @fb (ad @gF (ad @tl (ad @Rh (@BS)))))))))))))))
open tyQaF
noncomputable def nI:{c:SC // aC 241 (f108.body.getD .skip)=c}:=by
 refine⟨?_,?_⟩;rotate_left
 .simp only[f108,bz,aC,bw,bt,bA,bB,Nat.blt,Nat.ble];rfl
section
variable {tb:qB} (hG:zd7 tb) {X:Qx} {c:Cx} (hX:CxQ X c) {x:St} {s:Bd} {H:Hp} {S:Nat -> Prop} {lv vv:AV}
set_option maxRecDepth 100000 in
include hG hX in
def zhA(hk:x.aw=1){n:Nat}{r:Int×Bd}(V:fE c n x.value s=some r)(U:dm c.aK x.name<r.2.vars.length)(O:Fin r.2)(I:zd1 X H S s lv vv):
 aM prog (ay pls tb) 108 [.ptr X.b 0,.agg x.cells] H (pP X S vv H {r.2 with vars:=r.2.vars.set (dm c.aK x.name) r.1}):=by
 have L:zd0 (ay pls tb) 108:=hG.plain eN;have R1:=I.alloc (.cells x.cells 0 true);have F1:=(fS X S vv H).alloc (.cells x.cells 0 true);refine a0 (M:=241) (rs:=[]) (L.call _) L.aG L.az func108 rfl rfl nI.2 rfl ?_;dsimp only[nI,aW,Nat.reduceAdd];repeat' (first
  |(apply aj ?_;clear hK K)|apply aQ ?_|(apply aV ?_ ?_<;>(intro hb hbp;try(cases hb;done)))|(apply ak fun K hK=>?_)|fail)
 refine qd ?_;refine aY ?_ (sO hG hX n x.value s r V O R1);rintro v i ⟨rfl,C,j,J,m⟩;have g2:=gJ I m;have m2:=J.m;unfold bI at m2;have Y:=CxQ.ix hG hX J x.name;obtain⟨q,g,hld,H3,hst,hq1,hq2,Z,z,F3,o3,n3⟩:=J.setV U r.1;have n2:H.next+1<=i.next:=m.next
 have m3:=z.m;have g3:H3.get H.next=some (.cells x.cells 0 true):=by rw[o3 _ (by have:=I.new (aH _);intro e;subst e;rcases m.own _ Z with e|e;exact this.2.1 e;simp only[aZ]at e;omega)];exact g2
 dsimp only[bI]at m3;dsimp only[aU];repeat' (first
  |(apply aj ?_;clear hK K)|apply aO ?_|(apply ez ?_;first|refine Rx.k (Y) ?_)|(apply da 4 [(3,7),(3,10),(6,7)] fun K hK=>?_)|(apply ce ?_;try intro _)|(apply di ?_ ?_<;>clear hK K)|fail)
 .exact bN
 .all_goals refine qq ?_
  exact⟨C,j,vv,z,F1.trans (m.trans F3)⟩
set_option maxRecDepth 100000 in
include hG hX in
def zhB(hk:x.aw=2){n:Nat}{i v:Int×Bd}(h1:fE c n x.a6 s=some i)(h2:fE c n x.value i.2=some v){a:Ar}(ha:c.aa[dm (c.aa.map (·.name)) x.name]?=some a)
 (J:Fin (ai ⟨28,dm (c.aa.map (·.name)) x.name,[(gI a.len i.1 v.2).ab,i.1,v.1]⟩ (gI a.len i.1 v.2)).2) (I:zd1 X H S s lv vv) :
 aM prog (ay pls tb) 108 [.ptr X.b 0,.agg x.cells] H (pP X S vv H { (ai ⟨28,dm (c.aa.map (·.name)) x.name,[(gI a.len i.1 v.2).ab,i.1,v.1]⟩ (gI a.len i.1 v.2)).2 with ab:=(ai ⟨28,dm (c.aa.map (·.name)) x.name,[(gI a.len i.1 v.2).ab,i.1,v.1]⟩ (gI a.len i.1 v.2)).1}):=by
 have L:zd0 (ay pls tb) 108:=hG.plain eN;have R1:=I.alloc (.cells x.cells 0 true);have F1:=(fS X S vv H).alloc (.cells x.cells 0 true);have U:Fin (gI a.len i.1 v.2):=J.le (dS _ _).le;have z:Fin v.2:=U.le (wd _ _ _).le;have Y:Fin i.2:=z.le (eO c n _ _ _ h2).le;have O:X.p.aa[dm (c.aa.map (·.name)) x.name]?=some a:=by rw[hX.ar];exact ha
 refine a0 (M:=241) (rs:=[]) (L.call _) L.aG L.az func108 rfl rfl nI.2 rfl ?_;dsimp only[nI,aW,Nat.reduceAdd];refine CK fun K hK=>?_;refine qd ?_;refine aY ?_ (sO hG hX n x.a6 s i h1 Y R1);rintro w H2 ⟨rfl,S2,lv2,R2,m⟩;have g2:=gJ I m;dsimp only[aU];refine dY fun K hK=>?_;refine qd ?_;refine aY ?_ (sO hG hX n x.value i.2 v h2 z R2);rintro w H3 ⟨rfl,S3,lv3,C,j⟩;have g3:=gJ I (m.trans j);have V:=SV hG hX C x.name;dsimp only[aU];repeat' (first
  |(apply aj ?_;clear hK K)|apply aO ?_|(apply ez ?_;first|refine Rx.k (V) ?_)|(apply ak fun K hK=>?_)|fail)
 refine qd ?_;refine aY ?_ (SU hG C (dm (c.aa.map (·.name)) x.name) i.1 O U);rintro w H4 ⟨S4,lv4,g,F4⟩;have m4:=g.m;unfold bI at m4;dsimp only[aU];refine dY fun K hK=>?_;refine qd ?_;refine aY ?_ (mo hG (g.alloc _) ⟨28,dm (c.aa.map (·.name)) x.name,[(gI a.len i.1 v.2).ab,i.1,v.1]⟩ rfl iq (cC _) J rfl rfl);rintro w H5 ⟨rfl,S5,Z,R5,F5⟩;have m5:=R5.m;unfold bI at m5;dsimp only[aU];refine eh ?_;all_goals refine qq ?_
 obtain⟨R6,F6⟩:=R5.setS (ai ⟨28,dm (c.aa.map (·.name)) x.name,[(gI a.len i.1 v.2).ab,i.1,v.1]⟩ (gI a.len i.1 v.2)).1;exact⟨S5,Z,vv,R6,F1.trans (m.trans (j.trans (F4.trans (((fS X S4 vv H4).alloc _).trans (F5.trans F6)))))⟩
set_option maxRecDepth 100000 in
include hG hX in
def zhC(hk:x.aw=5){n:Nat}{v:Int×Bd}(h1:fE c n x.value s=some v)(Y:Fin (ai ⟨29,0,[v.2.ab,v.1]⟩ v.2).2)(I:zd1 X H S s lv vv):
 aM prog (ay pls tb) 108 [.ptr X.b 0,.agg x.cells] H (pP X S vv H { (ai ⟨29,0,[v.2.ab,v.1]⟩ v.2).2 with ab:=(ai ⟨29,0,[v.2.ab,v.1]⟩ v.2).1}):=by
 have L:zd0 (ay pls tb) 108:=hG.plain eN;have R1:=I.alloc (.cells x.cells 0 true);have F1:=(fS X S vv H).alloc (.cells x.cells 0 true);have z:Fin v.2:=Y.le (dS _ _).le;refine a0 (M:=241) (rs:=[]) (L.call _) L.aG L.az func108 rfl rfl nI.2 rfl ?_;dsimp only[nI,aW,Nat.reduceAdd];refine CK fun K hK=>?_;refine qd ?_;refine aY ?_ (sO hG hX n x.value s v h1 z R1);rintro w m ⟨rfl,U,g,V,O⟩;have m4:=V.m;unfold bI at m4;dsimp only[aU];refine dY fun K hK=>?_;refine qd ?_;refine aY ?_ (mo hG (V.alloc _) ⟨29,0,[v.2.ab,v.1]⟩ rfl iq (cC _) Y rfl rfl);rintro w H5 ⟨rfl,J,Z,C,i⟩;have m5:=C.m;unfold bI at m5;dsimp only[aU];refine eh ?_;all_goals refine qq ?_
 obtain⟨j,F6⟩:=C.setS (ai ⟨29,0,[v.2.ab,v.1]⟩ v.2).1;exact⟨J,Z,vv,j,F1.trans (O.trans (((fS X U vv m).alloc _).trans (i.trans F6)))⟩
set_option maxRecDepth 100000 in
include hG hX in
theorem zhD(hk:x.aw=7)(z:Fin (mh (bS (16+x.n)) (ai ⟨1,0,[]⟩ s).1 (ai ⟨1,0,[]⟩ s).2))(I:zd1 X H S s lv vv):
 aM prog (ay pls tb) 108 [.ptr X.b 0,.agg x.cells] H (pP X S vv H (mh (bS (16+x.n)) (ai ⟨1,0,[]⟩ s).1 (ai ⟨1,0,[]⟩ s).2)):=by
 have L:zd0 (ay pls tb) 108:=hG.plain eN;have R1:=I.alloc (.cells x.cells 0 true);have F1:=(fS X S vv H).alloc (.cells x.cells 0 true);have g:Fin (ai ⟨1,0,[]⟩ s).2:=z.le (wc _ _ _).le;refine a0 (M:=241) (rs:=[]) (L.call _) L.aG L.az func108 rfl rfl nI.2 rfl ?_;dsimp only[nI,aW,Nat.reduceAdd];refine CK fun K hK=>?_;refine qd ?_;refine aY ?_ (pT hG R1 1 0 g);rintro w m ⟨rfl,j,lv4,O,Y⟩;have g4:=gJ I Y;have m4:=O.m;have ew:IntKind.wrap .i64 (16+x.n)=bS (16+x.n):=rfl;unfold bI at m4;dsimp only[aU];have U:=mo hG (O.alloc (.cells [.int .i64 (ai ⟨1,0,[]⟩ s).2.ab,.int .i64 (ai ⟨1,0,[]⟩ s).1] 0 true)) ⟨27,bS (16+x.n),[(ai ⟨1,0,[]⟩ s).2.ab,(ai ⟨1,0,[]⟩ s).1]⟩ rfl iq (cC _) (z.le ⟨vY _,aH _⟩) rfl rfl;repeat' (first
  |(apply aj ?_;clear hK K)|apply aO ?_|(apply da 16 [(3,11),(8,11),(10,11)] fun K hK=>?_)|(apply ce ?_;try intro _)|fail)
 refine qe ?_;refine aY ?_ U;rintro w i ⟨rfl,S5,V,C,F5⟩;have Z:=((fS X j vv m).alloc _).trans F5;have g5:=gJ I (Y.trans Z);have n4:H.next+1<=m.next:=Y.next
 have n5:m.next+1<=i.next:=F5.next
 have g4a:(m.alloc (.cells [.int .i64 (ai ⟨1,0,[]⟩ s).2.ab,.int .i64 (ai ⟨1,0,[]⟩ s).1] 0 true)).get H.next=some (.cells x.cells 0 true):=gJ I (Y.trans ((fS X j vv m).alloc _))
 have m5:i.get X.b=some (.cells (bI X { (ai ⟨27,bS (16+x.n),[(ai ⟨1,0,[]⟩ s).2.ab,(ai ⟨1,0,[]⟩ s).1]⟩ (ai ⟨1,0,[]⟩ s).2).2 with ab:=(ai ⟨1,0,[]⟩ s).2.ab} V vv) 0 true):=C.m;have J:=(O.alloc (.cells [.int .i64 (ai ⟨1,0,[]⟩ s).2.ab,.int .i64 (ai ⟨1,0,[]⟩ s).1] 0 true)).m;have m6:=(C.setS (ai ⟨27,bS (16+x.n),[(ai ⟨1,0,[]⟩ s).2.ab,(ai ⟨1,0,[]⟩ s).1]⟩ (ai ⟨1,0,[]⟩ s).2).1).1.m;obtain⟨R6,F6⟩:=C.setS (ai ⟨27,bS (16+x.n),[(ai ⟨1,0,[]⟩ s).2.ab,(ai ⟨1,0,[]⟩ s).1]⟩ (ai ⟨1,0,[]⟩ s).2).1;have g6:=gJ I (Y.trans (Z.trans F6));dsimp only[bI]at J m5 m6 g6;dsimp only[aU];repeat' (first
  |apply aO ?_|(apply ce ?_;try intro _)|(apply di ?_ ?_<;>clear hK K)|fail)
 .exact bN
 .all_goals refine qq ?_
  exact⟨S5,V,vv,R6,F1.trans (Y.trans (Z.trans F6))⟩
set_option maxRecDepth 100000 in
include hG in
def zhE(h1:¬x.aw=1)(h2:¬x.aw=2)(m:¬x.aw=3)(U:¬x.aw=4)(Y:¬x.aw=5)(V:¬x.aw=6)(i:¬x.aw=7)(I:zd1 X H S s lv vv):
 aM prog (ay pls tb) 108 [.ptr X.b 0,.agg x.cells] H (pP X S vv H s):=by
 have L:zd0 (ay pls tb) 108:=hG.plain eN;have O:=I.alloc (.cells x.cells 0 true);have Z:=(fS X S vv H).alloc (.cells x.cells 0 true);refine a0 (M:=241) (rs:=[]) (L.call _) L.aG L.az func108 rfl rfl nI.2 rfl ?_;dsimp only[nI,aW,Nat.reduceAdd];refine Hr ?_;all_goals refine qq ?_
 exact⟨S,lv,vv,O,Z⟩
end
end
section
def tyQaG.tyF:=ad @ec (ad @cA (ad @dw (ad @gQ (ad @jA (ad @iL (ad @eZ (ad @fX (ad @fU (ad @fL (ad @fM (ad @fb (ad @gF (ad @tl (@zr))))))))))))))
open tyQaG
structure zd5 (X:Qx) (S:Nat->Prop) (vv:AV) (lo:Nat) (H:Hp) (av:AV) (l:qu):Prop where
 r:eL H av l lo
 n:∀k,bc av k->¬S k/\¬bc vv k/\¬bc X.nv k
def zd5.fr{S':Nat->Prop}{vv:AV}{L:AV}(h:zd5 X S vv lo H L l)(hb:X.b<lo)(f:FrQ X S vv H S' Z H'):zd5 X S' Z lo H' L l:=by
 refine⟨h.r.keep f.next fun k j=>?_,fun k j=>?_⟩
 .have a:=h.r.lt j;have b:=h.n k j;exact f.get k a.2 ac b.1 b.2.1
 .have a:=h.r.lt j;have b:=h.n k j;refine⟨fun e=>?_,fun e=>?_,b.2.2⟩
  .rcases f.sub k e with e|e
   .exact b.1 e
   .omega
  .rcases f.own k e with e|e
   .exact b.2.1 e
   .omega
def zd5.app{V vv:AV}{j:Hp}{L:AV}(h:zd5 X S vv lo H L l)(I:zd1 X j S s V vv)(Z:lo<=j.next)(M:H.next<=j.next)(hg:∀k,k<H.next->j.get k=H.get k)(x:Int){r imm:Nat}(z:j.get r=some (.cells [.int .i64 x] imm true))(hb:X.b<lo)(J:l.length<2^39):
 ∃O H',cX prog false j 26 26 L (.sl r 0 1 1)=some (O,H')/\zd5 X S vv lo H' O (l++[x])/\zd1 X H' S s V vv/\j.next<=H'.next/\(∀k,k<j.next->¬bc L k->H'.get k=j.get k)/\(∀k,bc O k->bc L k\/j.next<=k)/\ir H' O (l++[x]) lo:=by
 have hr:eL j L l lo:=h.r.keep M fun k Y=>hg k (h.r.lt Y).2;obtain⟨O,H',a1,U,a3,a4,i,C⟩:=xC x hr Z z J;refine⟨O,H',a1,⟨.inr U,fun k Y=>?_⟩,I.keep ac fun k m g=>i k m fun e=>?_,ac,i,C,U⟩
 .rcases C k Y with e|e
  .exact h.n k e
  .have:=I.new e;exact⟨this.1,this.2.1,fun e2=>by have:=(I.nS k e2).2.1;omega⟩
 .have b:=h.n k e;have c:=h.r.lt e;rcases g with g|g|g|g
  .omega
  .exact b.1 g
  .exact b.2.1 g
  .exact b.2.2 g
theorem zd1.dY{vv:AV}(h:zd1 X H S s Y vv):gL prog H 25 (.ptr X.b 0)=some (.agg X.p.cells):=by
 rw[yN,h.m,Pr.aO];show cI 2 (List.drop 0 (bI X s Y vv))=_;rfl
def zhF(i:zd7 tb)(p:Pr)(Z:p.funcs.length<2^60)(nm:b8)(H:Hp):aM prog (ay pls tb) 55 [.agg p.cells,.aq nm] H fun v H'=>v=.int .i64 (dr p.funcs nm 0)/\H'=H:=
 bZ (enc:=xQ) (ok:=fun x=>x.1.funcs.length<2^60) (out:=fun x=>.int .i64 (dr x.1.funcs x.2 0)) J6 (x:=(p,nm)) (i.ff _) Z
section
variable {tb:qB} (hG:zd7 tb) {X:Qx} {c:Cx} (hX:CxQ X c) {x:St} {s:Bd} {H:Hp} {S:Nat -> Prop} {lv vv:AV}
set_option maxRecDepth 100000 in
include hG hX in
theorem zhG(C:x.aw=6){n:Nat}{L:qu×Bd}(h1:pN c n x.args s=some L)(hl:dm c.aK x.name<L.2.vars.length)(hz:x.sz<2^36)
 (hF:Fin (ai ⟨24,0,[(ai ⟨30,dr c.funcs x.to 0,L.2.ab::L.1⟩ L.2).1]⟩ { (ai ⟨30,dr c.funcs x.to 0,L.2.ab::L.1⟩ L.2).2 with ab:=(ai ⟨30,dr c.funcs x.to 0,L.2.ab::L.1⟩ L.2).1}).2) (I:zd1 X H S s lv vv) :
 aM prog (ay pls tb) 108 [.ptr X.b 0,.agg x.cells] H (pP X S vv H (let r:=ai ⟨30,dr c.funcs x.to 0,L.2.ab::L.1⟩ L.2;let q:=ai ⟨24,0,[r.1]⟩ {r.2 with ab:=r.1};{q.2 with vars:=q.2.vars.set (dm c.aK x.name) q.1})):=by
 have hw:zd0 (ay pls tb) 108:=hG.plain eN;have hkeep:(ay pls tb).keep 108=false:=rfl;have R1:=I.alloc (.cells x.cells 0 true);have F1:=(fS X S vv H).alloc (.cells x.cells 0 true);have gx1:(H.alloc (.cells x.cells 0 true)).get H.next=some (.cells x.cells 0 true):=fG
 have o5:=I.o5;have hal:=rE x.args;have hsz:=x.aT;simp only[];generalize hr:ai ⟨30,dr c.funcs x.to 0,L.2.ab::L.1⟩ L.2=r at *;have hFr:Fin r.2:=hF.le ⟨(dS ⟨24,0,[r.1]⟩ {r.2 with ab:=r.1}).le.l,(dS ⟨24,0,[r.1]⟩ {r.2 with ab:=r.1}).le.n⟩;have hFa:Fin L.2:=by rw[<-hr]at hFr;exact hFr.le (dS _ _).le
 have happl:=(wh c n _ _ _ h1).2;refine a0 (M:=241) (rs:=[]) (hw.call _) hw.aG hw.az func108 rfl rfl nI.2 rfl ?_;dsimp only[nI,aW,Nat.reduceAdd];refine CI (fun hb hbp=>?_);refine bY [0,3] [] 11 x.args.length (fun i E Z=>∃U Y s2 z lv2 a,E.at 10=a/\pN c n (x.args.drop i) s2=some (Y,L.2)/\L.1=U++Y/\zd1 X Z z s2 lv2 vv/\FrQ X S vv (H.alloc (.cells x.cells 0 true)) z vv Z/\zd5 X z vv (H.next+1) Z a U/\U.length=i) eE ⟨[],L.1,s,S,lv,.ak,eE,h1,rfl,R1,fS _ _ _ _,⟨.inl ⟨rfl,rfl⟩,fun k C=>(sJ C).elim⟩,rfl⟩ ?_;rintro i E Z hi hcE hrH hnH hsI ⟨U,Y,s2,z,lv2,a,k8,hJ,V,R2,F2,W2,O⟩;(try simp only[bq,aT,aN,aG,aR,Nat.reduceBEq, *]at hcE);(try simp only[aT,aR, *]at hrH);(try simp only[aZ,]at hnH);have n2:H.next+1<=Z.next:=hnH
 have gb2:=gJ I F2;by_cases hlt:i<x.args.length
 .have hlt':(i:Int)<x.args.length:=by omega
  have hgx:x.args[i]?=some x.args[i]:=aL hlt;rw[ft hlt]at hJ;unfold pN at hJ;simp only[js,cT]at hJ;obtain⟨e1,he1,r2,hr2,rfl,j⟩:=hJ;generalize x.args[i]=y at *;have hFe:Fin e1.2:=by
   have:=(wh c n _ _ _ hr2).1.le;rw[j]at this;exact hFa.le this
  repeat' (first
   |(apply aj ?_;clear hK K)|apply aQ ?_|(apply aV ?_ ?_<;>(intro hb hbp;try(cases hb;done)))|(apply ak fun K hK=>?_)|fail)
  refine qd ?_;refine aY ?_ (sO hG hX n y s2 e1 he1 hFe R2);rintro w H3 ⟨rfl,S3,lv3,R3,F3⟩;have W3:=W2.fr ac F3;have n3:Z.next<=H3.next:=F3.next
  have R3a:=R3.alloc (.cells [.int .i64 e1.1] 0 true);obtain⟨v5,H5,a5,W5,R5,n5,q5,_,_⟩:=W3.app R3a dG (dA _) (fun k C=>fq) e1.1 (r:=H3.next) (imm:=0) fG ac ac;have F5:FrQ X S vv (H.alloc (.cells x.cells 0 true)) S3 vv H5:=by
   have F:=F2.trans F3;refine⟨by have:=F.next;simp only[aZ]at n5 this⊢;omega,fun k h1 h2 h4 h5=>?_,F.sub,F.own⟩;rw[q5 k (by simp only[aZ]at h1⊢;omega) (fun e=>by have:=W3.r.lt e;simp only[aZ]at h1;omega),aD,af (by simp only[aZ]at h1;omega)];exact F.get k h1 h2 h4 h5
  have n5':Z.next<=H5.next:=vL
  dsimp only[aU];refine eh ?_;refine⟨ac,aK,aK,bG,EO,?_⟩;exact⟨U++[e1.1],r2.1,e1.2,S3,lv3,v5,eE,by rw[<-j];exact hr2,by rw[V];simp,R5,F5,W5,by simp[O]⟩
 .have hlt':¬(i:Int)<x.args.length:=by omega
  have hd:x.args.drop i=[]:=ny ac;rw[hd]at hJ;simp only[pN,cT]at hJ;obtain⟨hJ1,hJ2⟩:=hJ;subst hJ2;rw[<-hJ1,bm]at V;rw[<-V]at W2 O;clear hd O;have m2:=R2.m;unfold bI at m2;have kf:=zhF hG X.p (by rw[hX.fs];exact Nat.lt_trans hX.l3 aE) x.to;rw[hX.fs]at kf;have Rb:=R2.alloc (.cells [.int .i64 L.2.ab] 0 true);obtain⟨v6,H6,a6,i6,n6,l6,f6,q6⟩:=zcH (H:=Z.alloc (.cells [.int .i64 L.2.ab] 0 true)) (v:=.sl Z.next 0 1 1) (l:=[L.2.ab]) (lo:=Z.next) ⟨Z.next,0,rfl,iq,de _,aH _,cC _⟩ (dA _) (W2.r.keep (dA _) fun k C=>by rw[aD,af (by have:=W2.r.lt C;omega)]) (by rw[happl];simp only[oF];omega);simp only[aZ]at n6 l6 f6 q6;have hf6:∀k,k<Z.next->H6.get k=Z.get k:=fun k C=>by rw[l6 k C,aD,af ac]
  have R6:zd1 X H6 z L.2 lv2 vv:=R2.keep ac fun k h1 _=>hf6 k h1;have F6:FrQ X z vv Z z vv H6:=⟨ac,fun k h1 _ _ _=>hf6 k h1,fun _ h=>.inl h,fun _ h=>.inl h⟩;have m:=Gm (lo:=Z.next) hG R6 ⟨30,dr c.funcs x.to 0,L.2.ab::L.1⟩ (.inr i6) (by rw[hr];exact hFr);have m6:=R6.m;have mb:=Rb.m;have gbb:(Z.alloc (.cells [.int .i64 L.2.ab] 0 true)).get H.next=some (.cells x.cells 0 true):=by rw[aD,af ac];exact gb2
  have gb6:H6.get H.next=some (.cells x.cells 0 true):=by rw[hf6 _ ac];exact gb2
  unfold bI at m6 mb;have p2:=R2.dY;have pb:=Rb.dY;have p6:=R6.dY;repeat' (first
   |(apply aj ?_;clear hK K)|apply aQ ?_|(apply ch ?_;first|refine Rx.k (kf _) ?_)|(apply aV ?_ ?_<;>(intro hb hbp;try(cases hb;done)))|(apply ak fun K hK=>?_)|(apply Rx.dP 23 [0,1,2,3,4,5,6,7,9,10,11,12,13,14,8,15,16,17,18,19] [(5,14),(7,14),(11,14),(11,15),(12,14),(12,15)] fun K hK=>?_)|(apply ce ?_;try intro _)|fail)
  refine qe ?_;refine aY ?_ m;intro w H7 h7;rw[hr]at h7;obtain⟨rfl,S7,lv7,R7,F7'⟩:=h7;have F7:=F6.trans F7';have n67:H6.next<=H7.next:=F7'.next
  have n7:Z.next<=H7.next:=F7.next
  clear m;have gb7:=gJ I (F2.trans F7);have m7:=R7.m;have p7:=R7.dY;unfold bI at m7;obtain⟨R8,F8⟩:=R7.setS r.1;have gb8:=gJ I (F2.trans (F7.trans F8));have m8:=R8.m;have p8:=R8.dY;have hv8:r.2.vars=L.2.vars:=by rw[<-hr];rfl
  have hst8:r.2.ab=L.2.ab:=by rw[<-hr];rfl
  have hl8:dm c.aK x.name<r.2.vars.length:=by rw[hv8];exact hl
  clear hv8;obtain⟨q,hix,hld,_⟩:=R8.setV hl8 0;have J:=R8.alloc (.cells [.int .i64 r.1] 0 true);have kix:=CxQ.ix hG hX J x.name;have m:=mo hG J ⟨24,0,[r.1]⟩ rfl iq (cC _) hF rfl rfl;have n8:(H7.set X.b (.cells (bI X {r.2 with ab:=r.1} lv7 vv) 0 true)).next=H7.next:=rfl
  have gb8a:=gJ I (F2.trans (F7.trans (F8.alloc (.cells [.int .i64 r.1] 0 true))));have m8a:=J.m;dsimp only[bI]at R8 F8 gb8 gb8a m8 m8a p8 J m hld n8 kix;rw[n8]at m;rw[hst8]at m7;dsimp only[aU];repeat' (first
   |apply aO ?_|(apply ez ?_;first|refine Rx.k (kix) ?_)|(apply Rx.dP 24 [0,1,2,3,4,5,6,8,9,10,11,12,13,7,14,15,16] [(3,13),(3,14),(3,16),(6,13),(11,13),(11,14),(12,13),(12,14)] fun K hK=>?_)|(apply ce ?_;try intro _)|(apply di ?_ ?_<;>clear hK K)|fail)
  .exact bN
  .refine qe ?_;refine aY ?_ m;rintro w H9 ⟨rfl,S9,lv9,R9,F9⟩;have hl9:dm c.aK x.name<(ai ⟨24,0,[r.1]⟩ {r.2 with ab:=r.1}).2.vars.length:=hl8;obtain⟨q',g,hld',H10,hst,hq1,hq2,hq3,R10,F10,o10,n10⟩:=R9.setV hl9 (ai ⟨24,0,[r.1]⟩ {r.2 with ab:=r.1}).1;have hqq:q'=q:=by
    rw[hix]at g;simp only[aI,AV.ptr.injEq]at g;exact g.1.symm
   subst hqq;have m9:H9.get X.b=some (.cells (bI X { (ai ⟨24,0,[r.1]⟩ {r.2 with ab:=r.1}).2 with ab:=r.1} lv9 vv) 0 true):=R9.m;have m10:H10.get X.b=some (.cells (bI X { (ai ⟨24,0,[r.1]⟩ {r.2 with ab:=r.1}).2 with ab:=r.1} lv9 vv) 0 true):=R10.m;have F89:=F2.trans (F7.trans (F8.trans (((fS X S7 vv _).alloc _).trans F9)));have gb9:=gJ I F89;have gb10:=gJ I (F89.trans F10);have n9:=F9.next
   dsimp only[bI]at m9 m10;simp only[aZ,br]at n9;dsimp only[aU];refine wH ?_;refine rA cV cV hst ?_;repeat' (first
    |(apply ce ?_;try intro _)|(apply di ?_ ?_<;>clear hK K)|fail)
   .exact bN
   .all_goals refine qq ?_
    exact⟨S9,lv9,vv,R10,F1.trans (F89.trans F10)⟩
end
end
end Go.Proofs.YtbflaciihaijgaaGreat
