/- Lemmas for the last file. -/
import Derived.Test.YtbflaciihaijgaaGreatUEJ
set_option linter.all false
set_option maxHeartbeats 32000000
namespace Go.Ab
set_option maxRecDepth 20000
open Go
variable{qn:Prop}
def Iq(h:qn:=by simp only[List.length_map,ej];omega):=h
def fQ(h:qn:=by unfold cX;omega):=h
def D2(h:qn:=by show cX (k:Int);unfold cX;omega):=h
def U8(h:qn:=by rw[mh,hr,Option.bind_some,O,Option.bind_some]):=h
def Bg(h:qn:=by simp only;omega):=h
def Nb(h:qn:=by rw[List.length_set];exact bt.vl):=h
def Nc(h:qn:=by rw[lu.2.2.2];show q.2.loops=_;rw[lq.n,hrn]):=h
def U9(h:qn:=by show s.loops<=(dS ar.len r.1 v.2).loops;omega):=h
def Va(h:qn:=by rw[o4 _ ac ac,aL,if_neg ac];exact g2):=h
def Vb(h:qn:=by rw[o4 _ ac ac,aL,if_pos ac]):=h
def Ir(h:qn:=by rw[Hp.get_set,if_neg ac,aL,if_pos rfl];simp):=h
def Is:=@Int.tmod_nonneg
def uX:=@List.mem_or_eq_of_mem_set
def Vc:=@Int.tmod_eq_emod_of_nonneg
end Go.Ab
namespace Go.Proofs.YtbflaciihaijgaaGreat
set_option maxRecDepth 20000
open Go Go.Ab Proofs.Tryz
variable{f:Fu}{J:Type}{cs:qB}{S A B:Nat->Prop}{H:Hp}{lo k:Nat}{r s:Bd}{L:qA}{c:Cx}{x:St}{l C:qF}{t b:Int}{N j:List aY}
section
def tyG3.tyF:=ad @dm (ad @cG (ad @eG (ad @ey (ad @jx (ad @jh (ad @iC (ad @DV (ad @sw (@xd)))))))))
open tyG3
noncomputable def Vd:=qd (M:=115) f34.eq_1
noncomputable def It:qH:=[wo,zD,Im]
def Iu(f:FuncId):Bool:=Nat.beq f 32||Nat.beq f 34||Nat.beq f 33||Nat.beq f 58||Nat.beq f 12
structure zf3 (l:qH):Prop where
 pick:∀ar,dU l 25 ar=wo.sp ar
 word:∀ar,dU l 27 ar=zD.sp ar
 nms:∀ar,dU l 59 ar=Im.sp ar
 pl:∀f,Iu f=true->(∀ar,dU l f ar=none)/\mc l f=false
def zf3.plain{l:qH}(h:zf3 l){f:FuncId}(z:Iu f=true):zd0 (aA pls l) f:=gY (h.pl f z).1 (h.pl f z).2
def ziV{f:FuncId}(h:Iu f=true):f=32\/f=34\/f=33\/f=58\/f=12:=by
 simp only[Iu,nU]at h;rcases h with(((h|h)|h)|h)|h<;>have e:=tm h<;>subst e<;>simp
def Ve:zf3 It:=⟨fun _=>rfl,fun _=>rfl,fun _=>rfl,fun f z=>by rcases ziV z with rfl|rfl|rfl|rfl|rfl<;>exact⟨fun _=>rfl,rfl⟩⟩
def ziW(ρ:Nat->Int):gX prog ρ It:=⟨Il ρ,UV ρ,ziA ρ,trivial⟩
def Bh(m:Int):Int:=if m.tmod 2=0 then 20 else 21
def wu(m:Int):qD:=if m.tmod 2=0 then [97]else [98]
def bC(f:Int):Nat->Nat->qA->Ex×qA
 |0,_,L=>(.mk 0 0 [] 0 [],L)
 |k+1,deep,L=>
  let n:=(bO L).1
  let j:=(bO L).2
  let q:=cK n 16
  let m:=cK (cy (n.tdiv 16)) 1000
  if q<4\/(3:Int)<deep then
   if q.tmod 2=0\/((3:Int)<deep/\8<q)then (.mk 2 0 ((cB f).getD (m.tmod (cB f).length).toNat []) 0 [],j)
   else (.mk 1 (jW m n) [] 0 [],j)
  else if q<6 then (.mk 3 0 (wu m) 0 [(bC f k (deep+1) j).1],(bC f k (deep+1) j).2)
  else if q<7 then
   let a:=bC f k (deep+1) j
   let b:=bC f k (deep+1) a.2
   let c:=bC f k (deep+1) b.2
   (.mk 5 0 [] 0 [a.1,b.1,c.1],c.2)
  else if q<9 then (.mk 4 0 [] (Bh m) [(bC f k (deep+1) j).1],(bC f k (deep+1) j).2)
  else
   let a:=bC f k (deep+1) j
   let b:=bC f k (deep+1) a.2
   (.mk 4 0 [] (cy (4+m.tmod 15)) [a.1,b.1],b.2)
def ou(L:qA):(bO L).2.length<=L.length:=by cases L<;>simp[bO]
theorem ft(f:Int):∀(k Y:Nat) (L:qA),(bC f k Y L).2.length<=L.length
 |0,_,_=>aG _
 |k+1,Y,L=>by
  have h:=ou L;have ih:=fun L=>ft f k (Y+1) L;simp only[bC];split
  .split<;>exact h
  .split
   .exact dt (ih _) h
   .split
    .exact dt (ih _) (dt (ih _) (dt (ih _) h))
    .split
     .exact dt (ih _) h
     .exact dt (ih _) (dt (ih _) h)
def D3(z n lo:Nat)(H:Hp)(r:Nat)(ws:qB)(L:qA)(c:Int)(v:AV)(H':Hp):Prop:=
 (∃O,v=.agg O/\O.length=z/\O.all AV.one=true/\cY (fun q=>H.next<=q) n H' O ws)/\jL lo H' r L c/\H.next<=H'.next/\∀q,q<H.next->q≠r->H'.get q=H.get q
theorem uY(l:List J)(L:(l.length:Int)≠0){m:Int}(Y:0<=m)(d:J):0<=m.tmod l.length/\l[(m.tmod l.length).toNat]?=some (l.getD (m.tmod l.length).toNat d):=by
 have j:=Is (l.length:Int) Y;have Z:=zC m (b:=(l.length:Int)) ac;refine⟨j,?_⟩;generalize m.tmod l.length=t at *;rw[dC,aX ac];rfl
def Iv{m:Int}(h:0<=m):0<=m.tmod 2/\m.tmod 2<2:=⟨Is _ h,zC _ ac⟩
def ww{m:Int}(h:0<=m)(r:Nat):dK prog 66 (.sl r 0 2 1) (.int .i64 (m.tmod 2))=some (.ptr r (m.tmod 2).toNat):=by
 obtain⟨j,Z⟩:=Iv h;rw[Rh _ _ _ _ j,jT (by omega:(m.tmod 2).toNat<2)];simp
def ziX{m:Int}(h:0<=m)(r:Nat):dK prog 26 (.sl r 0 2 1) (.int .i64 (m.tmod 2))=some (.ptr r (m.tmod 2).toNat):=by
 obtain⟨j,Z⟩:=Iv h;rw[Q6 _ _ _ _ j,jT (by omega:(m.tmod 2).toNat<2)];simp
theorem Nf{m:Int}(h:0<=m)(a b:J):[a,b][(m.tmod 2).toNat]?=some (if m.tmod 2=0 then a else b):=by
 obtain⟨j,Z⟩:=Iv h;rcases(by omega:m.tmod 2=0\/m.tmod 2=1)with e|e<;>rw[e]<;>rfl
theorem wx{m:Int}(h:0<=m):[AV.ay [97],AV.ay [98]][(m.tmod 2).toNat]?=some (.ay (wu m)):=by
 rw[Nf h,wu];split<;>rfl
theorem ziY{m:Int}(h:0<=m):[AV.int .i64 20,AV.int .i64 21][(m.tmod 2).toNat]?=some (.int .i64 (Bh m)):=by
 rw[Nf h,Bh];split<;>rfl
def ziZ(s:qD):eg prog 70 [(0,.int .i64 2),(2,.ay s)]=some (.agg [.int .i64 2,.int .i64 0,.ay s,.int .i64 0,.ao]):=ax
def zi0(n:Int):eg prog 70 [(0,.int .i64 1),(1,.int .i64 n)]=some (.agg [.int .i64 1,.int .i64 n,.ay [],.int .i64 0,.ao]):=ax
def zi1(s:qD)(r n:Nat):eg prog 70 [(0,.int .i64 3),(2,.ay s),(4,.sl r 0 n 5)]=some (.agg [.int .i64 3,.int .i64 0,.ay s,.int .i64 0,.sl r 0 n 5]):=ax
def zi2(r n:Nat):eg prog 70 [(0,.int .i64 5),(4,.sl r 0 n 5)]=some (.agg [.int .i64 5,.int .i64 0,.ay [],.int .i64 0,.sl r 0 n 5]):=ax
def Vf(o:Int)(r n:Nat):eg prog 70 [(0,.int .i64 4),(3,.int .i64 o),(4,.sl r 0 n 5)]=some (.agg [.int .i64 4,.int .i64 0,.ay [],.int .i64 o,.sl r 0 n 5]):=ax
def mo(h:cs.length=5):∃a b c d e,cs=[a,b,c,d,e]:=by
 match cs,h with
 |[a,b,c,d,e],_=>exact⟨a,b,c,d,e,rfl⟩
def Ng(H:Hp)(h:cs.length=5)(j:cs.all AV.one=true):eW prog H 68 1 [(0,.agg cs)]=some (.sl H.next 0 1 5,H.alloc (.cells cs 0 true)):=by
 obtain⟨a,b,c,d,e,rfl⟩:=mo h;kernel_rfl
def zi3(H:Hp){J:qB}(h:cs.length=5)(k:J.length=5):eW prog H 68 2 [(0,.agg cs),(1,.agg J)]=some (.sl H.next 0 2 5,H.alloc (.cells (cs++J) 0 true)):=by
 obtain⟨a,b,c,d,e,rfl⟩:=mo h;obtain⟨C,Z,Y,V,O,rfl⟩:=mo k;kernel_rfl
def zi4(H:Hp){J V:qB}(h:cs.length=5)(k:J.length=5)(l:V.length=5):eW prog H 68 3 [(0,.agg cs),(1,.agg J),(2,.agg V)]=some (.sl H.next 0 3 5,H.alloc (.cells (cs++J++V) 0 true)):=by
 obtain⟨a,b,c,d,e,rfl⟩:=mo h;obtain⟨Y,z,m,j,e',rfl⟩:=mo k;obtain⟨C,I,Z,L,O,rfl⟩:=mo l;kernel_rfl
def Vg(H:Hp)(a b:Int):eW prog H 26 2 [(0,.int .i64 a),(1,.int .i64 b)]=some (.sl H.next 0 2 1,H.alloc (.cells [.int .i64 a,.int .i64 b] 0 true)):=ax
theorem D5(a b c d e:AV):cr 5 [a,b,c,d,e]=some (.agg [a,b,c,d,e]):=rfl
abbrev qt:HB:=.cells [.int .i64 0,.int .i64 0,.ay [],.int .i64 0,.ao] 0 true
abbrev qw:HB:=.cells [.ay [97],.ay [98]] 0 true
set_option maxRecDepth 100000 in
theorem ow{lG:qH}(hG:zf3 lG):∀(k:Nat) (f:Int) (Y:Nat),5<=Y+k->Y<=4->∀(lo:Nat) (H:Hp) (r:Nat) (L:qA) (c:Int),jL lo H r L c->L.length<2^60 ->
 aR prog (aA pls lG) 34 [.ptr r 0,.int .i64 f,.int .i64 Y] H (D3 5 (k+1) lo H r (bC f k Y L).1.cells (bC f k Y L).2 c)
 |0,f,Y,j,Z,_,_,_,_,_,_,_=>by omega
 |k+1,f,Y,j,Z,lo,H,r,L,c,hrd,hL=>by
  have hw:zd0 (aA pls lG) 34:=hG.plain cN;have hnx:zd0 (aA pls lG) 32:=hG.plain cN;have hrl:=hrd.1;have hlo:=hrd.2.1;have hq16:(16:Int)≠0:=aF;generalize C:bC f (k+1) Y L=R;rw[bC]at C;simp only[]at C;refine qe hw func34 Vd ?_;dsimp only[Vd,qd,a1,Nat.reduceAdd];refine fT fun K hK=>?_;refine qj ?_;refine a8 ?_ (In hnx (hrd.keep (dg _) fun q I=>dT) hL);rintro v H2 ⟨rfl,O,n2,o2⟩;simp only[aS]at n2;have g2:H2.get H.next=some qt:=by rw[o2 _ ac,aL,ai rfl]
  have J:∀q,q<H.next->q≠r->H2.get q=H.get q:=fun q j Z=>by rw[o2 q Z,aL,ah ac]
  have hL1:=ou L;generalize (bO L).1=n at *;generalize (bO L).2=L1 at *;have I:=mO (n:=n) (m:=16) ac ac;have hm:=mO (n:=cy (n.tdiv 16)) (m:=1000) ac ac;have hq2:(2:Int)≠0:=aF;have hq15:(15:Int)≠0:=aF;have hlen0:((cB f).length:Int)≠0:=by rcases wq f with h|h<;>rw[h]<;>decide
  have hwd:IntKind.wrap .i64 ((Y:Int)+1)=((Y+1:Nat):Int):=uw ac;clear o2;dsimp only[a0];obtain⟨hi0,hix⟩:=uY (cB f) hlen0 hm.1 [];have hxs:=ww hm.1;have hxi:=ziX hm.1;have hxa:=wx hm.1;have hxo:=ziY hm.1;have kf:∀(H3:Hp) (x:Ex),jL lo H3 r L1 c->H.next<=H3.next->(∀q,q<H.next->q≠r->H3.get q=H.get q)->∀cs,cs.length=5->cs.all AV.one=true->cY (fun q=>H.next<=q) (k+2) H3 cs x.cells->D3 5 (k+2) lo H r x.cells L1 c (.agg cs) H3:=fun H3 x q1 q2 q3 cs q4 q5 q6=>⟨⟨cs,rfl,q4,q5,q6⟩,q1,q2,q3⟩
  have gh0:=@ziZ;have gh1:=@zi0;have gh2:=@D5;have gh3:=@Vg;repeat' (first
   |(apply ay ?_;clear hK K)|apply a9 ?_|(apply fq ?_;first|refine Rx.k (UX hG.nms _ _) ?_|refine Rx.k (xV hG.pick _ _ aF _) ?_|refine Rx.k (UW hG.word _ _ _) ?_)|(apply gL ?_ ?_<;>(intro hg hgp;try(cases hg;done)))|(apply bU ?_ ?_<;>(intro hb hbp;try(cases hb;done)))|(apply az fun K hK=>?_)|(apply bV 10 [(0,9),(0,12),(4,9),(4,12),(10,12)] fun K hK=>?_)|(apply bV 14 [(0,9),(0,12),(4,9),(4,12),(10,12)] fun K hK=>?_)|(apply bB ?_;try intro _)|fail)
  .refine⟨aE,_,(by(try simp only[aK,bb,Nat.reduceBEq,tyF,dR,eh, *]);first|done|with_reducible rfl),?_⟩;try simp only[aD]
   first
   |rw[ai ac,ai ac]at C
   |rw[ai ac,ah ac]at C
   subst C;refine kf _ _ ?_ ?_ ?_ _ rfl rfl (xY _ _ _ _)
   .exact O.keep (aG _) fun q I=>kK
   .simp only[bK];omega
   .intro q j Z;rw[aQ,ah ac];exact J q j Z
  .refine⟨aE,_,(by(try simp only[aK,bb,Nat.reduceBEq,tyF,dR,eh, *]);first|done|with_reducible rfl),?_⟩;try simp only[aD]
   first
   |rw[ai ac,ai ac]at C
   |rw[ai ac,ah ac]at C
   subst C;refine kf _ _ ?_ ?_ ?_ _ rfl rfl (xY _ _ _ _)
   .exact O.keep (aG _) fun q I=>kK
   .simp only[bK];omega
   .intro q j Z;rw[aQ,ah ac];exact J q j Z
  .refine⟨aE,_,(by(try simp only[aK,bb,Nat.reduceBEq,tyF,dR,eh, *]);first|done|with_reducible rfl),?_⟩;try simp only[aD]
   first
   |rw[ai ac,ai ac]at C
   |rw[ai ac,ah ac]at C
   subst C;refine kf _ _ ?_ ?_ ?_ _ rfl rfl (xY _ _ _ _)
   .exact O.keep (aG _) fun q I=>kK
   .simp only[bK];omega
   .intro q j Z;rw[aQ,ah ac];exact J q j Z
  ·-- one operand
   have er:(H.next == r)=false:=aZ ac;refine qk ?_;refine a8 ?_ (ow hG k f (Y+1) ac ac lo _ r L1 c (O.keep (dg _) fun q I=>dT) ac);rintro v H4 ⟨⟨cs,rfl,V,hc2,z⟩,hr4,n4,o4⟩;simp only[aS]at n4 o4 z;have g4:H4.get H.next=some qt:=Va
   have g4s:H4.get (H.next+1)=some qw:=Vb;have kb:=fun H=>Ng H V hc2;have e4:(H.next == H4.next)=false:=aZ ac;have e5:(H.next+1 == H4.next)=false:=aZ ac;dsimp only[a0];have gh0:=@D5;have gh1:=@zi1;repeat' (first
    |apply a9 ?_|(apply bB ?_;try intro _)|(apply bY ?_ ?_<;>clear hK K)|fail)
   .exact bM
   .refine⟨aE,_,(by(try simp only[aK,bb,Nat.reduceBEq,tyF,dR,eh, *]);first|done|with_reducible rfl),?_⟩;try simp only[aD]
    rw[ah ac,ai ac]at C;subst C;refine⟨⟨_,rfl,rfl,rfl,?_⟩,?_,?_,?_⟩
    .refine DW (n:=k+1) _ _ _ _ (xX (n:=k+1) (a:=[cs]) (imm:=0) (tip:=true) (by show H.next<=H4.next;omega) mL Ir aB ⟨⟨V,z.keep (fun q I=>ac) mL fun q j Z=>uO⟩,trivial⟩)
    .exact hr4.keep mL fun q I=>uO
    .simp only[bK,aS];omega
    .intro q j Z;rw[aQ,ah ac,aL,ah ac,o4 _ ac Z,aL,ah ac];exact J q j Z
  ·-- more operands
   have er:(H.next == r)=false:=aZ ac;refine qj ?_;refine a8 ?_ (ow hG k f (Y+1) ac ac lo _ r L1 c O ac);rintro v H4 ⟨⟨cs,rfl,V,hc2,z⟩,hr4,n4,o4⟩;have hl4:=ft f k (Y+1) L1;dsimp only[a0];refine ru ?_;refine qj ?_;refine a8 ?_ (ow hG k f (Y+1) ac ac lo H4 r (bC f k (Y+1) L1).2 c hr4 ac);rintro v H5 ⟨⟨ds,rfl,hd1,hd2,hd3⟩,hr5,n5,o5⟩;have hl5:=ft f k (Y+1) (bC f k (Y+1) L1).2;dsimp only[a0];refine ru ?_;refine qj ?_;refine a8 ?_ (ow hG k f (Y+1) ac ac lo H5 r (bC f k (Y+1) (bC f k (Y+1) L1).2).2 c hr5 ac);rintro v H6 ⟨⟨es,rfl,he1,he2,he3⟩,hr6,n6,o6⟩;have hl6:=ft f k (Y+1) (bC f k (Y+1) (bC f k (Y+1) L1).2).2;dsimp only[a0];have gz:H6.get H.next=some qt:=by rw[o6 _ ac ac,o5 _ ac ac,o4 _ ac ac];exact g2
   have kb:=fun H=>zi4 H V hd1 he1;have e4:(H.next == H6.next)=false:=aZ ac;have gh0:=@D5;have gh1:=@zi2;refine ru ?_;refine⟨aE,_,(by(try simp only[aK,bb,Nat.reduceBEq,tyF,dR,eh, *]);first|done|with_reducible rfl),?_⟩;try simp only[aD]
   rw[ah ac,ah ac,ai ac]at C;subst C;refine⟨⟨_,rfl,rfl,rfl,?_⟩,?_,?_,?_⟩
   .refine DW (n:=k+1) _ _ _ _ (xX (n:=k+1) (a:=[cs,ds,es]) (imm:=0) (tip:=true) (by show H.next<=H6.next;omega) mL Ir aB ⟨⟨V,z.keep (fun q I=>ac) mL fun q j Z=>by rw[aQ,ah ac,aL,ah ac,o6 _ ac ac,o5 _ ac ac]⟩,⟨hd1,hd3.keep (fun q I=>ac) mL fun q j Z=>by rw[aQ,ah ac,aL,ah ac,o6 _ ac ac]⟩,⟨he1,he3.keep (fun q I=>ac) mL fun q j Z=>uO⟩,trivial⟩)
   .exact hr6.keep mL fun q I=>uO
   .simp only[bK,aS];omega
   .intro q j Z;rw[aQ,ah ac,aL,ah ac,o6 _ ac Z,o5 _ ac Z,o4 _ ac Z];exact J q j Z
  ·-- one operand
   have er:(H.next == r)=false:=aZ ac;refine qk ?_;refine a8 ?_ (ow hG k f (Y+1) ac ac lo _ r L1 c (O.keep (dg _) fun q I=>dT) ac);rintro v H4 ⟨⟨cs,rfl,V,hc2,z⟩,hr4,n4,o4⟩;simp only[aS]at n4 o4 z;have g4:H4.get H.next=some qt:=Va
   have g4s:H4.get (H.next+1)=some (.cells [.int .i64 20,.int .i64 21] 0 true):=Vb;have kb:=fun H=>Ng H V hc2;have e4:(H.next == H4.next)=false:=aZ ac;have e5:(H.next+1 == H4.next)=false:=aZ ac;dsimp only[a0];have gh0:=@Vg;have gh1:=@D5;have gh2:=@Vf;repeat' (first
    |apply a9 ?_|(apply bB ?_;try intro _)|(apply bY ?_ ?_<;>clear hK K)|fail)
   .exact bM
   .refine⟨aE,_,(by(try simp only[aK,bb,Nat.reduceBEq,tyF,dR,eh, *]);first|done|with_reducible rfl),?_⟩;try simp only[aD]
    rw[ah ac,ah ac,ah ac,ai ac]at C;subst C;refine⟨⟨_,rfl,rfl,rfl,?_⟩,?_,?_,?_⟩
    .refine DW (n:=k+1) _ _ _ _ (xX (n:=k+1) (a:=[cs]) (imm:=0) (tip:=true) (by show H.next<=H4.next;omega) mL Ir aB ⟨⟨V,z.keep (fun q I=>ac) mL fun q j Z=>uO⟩,trivial⟩)
    .exact hr4.keep mL fun q I=>uO
    .simp only[bK,aS];omega
    .intro q j Z;rw[aQ,ah ac,aL,ah ac,o4 _ ac Z,aL,ah ac];exact J q j Z
  ·-- more operands
   have er:(H.next == r)=false:=aZ ac;refine qj ?_;refine a8 ?_ (ow hG k f (Y+1) ac ac lo _ r L1 c O ac);rintro v H4 ⟨⟨cs,rfl,V,hc2,z⟩,hr4,n4,o4⟩;have hl4:=ft f k (Y+1) L1;dsimp only[a0];refine ru ?_;refine qj ?_;refine a8 ?_ (ow hG k f (Y+1) ac ac lo H4 r (bC f k (Y+1) L1).2 c hr4 ac);rintro v H5 ⟨⟨ds,rfl,hd1,hd2,hd3⟩,hr5,n5,o5⟩;have hl5:=ft f k (Y+1) (bC f k (Y+1) L1).2;dsimp only[a0];have gz:H5.get H.next=some qt:=by rw[o5 _ ac ac,o4 _ ac ac];exact g2
   have kb:=fun H=>zi3 H V hd1;have e4:(H.next == H5.next)=false:=aZ ac;have gh0:=@D5;have gh1:=@Vf;refine ru ?_;refine⟨aE,_,(by(try simp only[aK,bb,Nat.reduceBEq,tyF,dR,eh, *]);first|done|with_reducible rfl),?_⟩;try simp only[aD]
   rw[ah ac,ah ac,ah ac,ah ac]at C;subst C;refine⟨⟨_,rfl,rfl,rfl,?_⟩,?_,?_,?_⟩
   .refine DW (n:=k+1) _ _ _ _ (xX (n:=k+1) (a:=[cs,ds]) (imm:=0) (tip:=true) (by show H.next<=H5.next;omega) mL Ir aB ⟨⟨V,z.keep (fun q I=>ac) mL fun q j Z=>by rw[aQ,ah ac,aL,ah ac,o5 _ ac ac]⟩,⟨hd1,hd3.keep (fun q I=>ac) mL fun q j Z=>uO⟩,trivial⟩)
   .exact hr5.keep mL fun q I=>uO
   .simp only[bK,aS];omega
   .intro q j Z;rw[aQ,ah ac,aL,ah ac,o5 _ ac Z,o4 _ ac Z];exact J q j Z
  .refine⟨aE,_,(by(try simp only[aK,bb,Nat.reduceBEq,tyF,dR,eh, *]);first|done|with_reducible rfl),?_⟩;try simp only[aD]
   first
   |rw[ai ac,ai ac]at C
   |rw[ai ac,ah ac]at C
   subst C;refine kf _ _ ?_ ?_ ?_ _ rfl rfl (xY _ _ _ _)
   .exact O.keep (aG _) fun q I=>kK
   .simp only[bK];omega
   .intro q j Z;rw[aQ,ah ac];exact J q j Z
  .refine⟨aE,_,(by(try simp only[aK,bb,Nat.reduceBEq,tyF,dR,eh, *]);first|done|with_reducible rfl),?_⟩;try simp only[aD]
   first
   |rw[ai ac,ai ac]at C
   |rw[ai ac,ah ac]at C
   subst C;refine kf _ _ ?_ ?_ ?_ _ rfl rfl (xY _ _ _ _)
   .exact O.keep (aG _) fun q I=>kK
   .simp only[bK];omega
   .intro q j Z;rw[aQ,ah ac];exact J q j Z
  .refine⟨aE,_,(by(try simp only[aK,bb,Nat.reduceBEq,tyF,dR,eh, *]);first|done|with_reducible rfl),?_⟩;try simp only[aD]
   first
   |rw[ai ac,ai ac]at C
   |rw[ai ac,ah ac]at C
   subst C;refine kf _ _ ?_ ?_ ?_ _ rfl rfl (xY _ _ _ _)
   .exact O.keep (aG _) fun q I=>kK
   .simp only[bK];omega
   .intro q j Z;rw[aQ,ah ac];exact J q j Z
  .refine⟨aE,_,(by(try simp only[aK,bb,Nat.reduceBEq,tyF,dR,eh, *]);first|done|with_reducible rfl),?_⟩;try simp only[aD]
   first
   |rw[ai ac,ai ac]at C
   |rw[ai ac,ah ac]at C
   subst C;refine kf _ _ ?_ ?_ ?_ _ rfl rfl (xY _ _ _ _)
   .exact O.keep (aG _) fun q I=>kK
   .simp only[bK];omega
   .intro q j Z;rw[aQ,ah ac];exact J q j Z
end
section
def tyG4.tyF:=ad @cG (ad @ey (ad @i7 (ad @kg (ad @AE (ad @eG (ad @jx (ad @jh (@iC))))))))
open tyG4
noncomputable def Vh:=qd (M:=36) f33.eq_1
noncomputable def uZ:=qd (M:=156) f58.eq_1
abbrev cO:=qA×Int
def iq(step:cO->St×cO):Nat->cO->qJ×cO
 |0,s=>([],s)
 |n+1,s=>if s.1=[]then ([],s)else ((step s).1::(iq step n (step s).2).1,(iq step n (step s).2).2)
def iI(f:Int):Nat->qA->qM×qA
 |0,L=>([],L)
 |n+1,L=>((bC f 3 2 L).1::(iI f n (bC f 3 2 L).2).1,(iI f n (bC f 3 2 L).2).2)
def k5:Ex:=.mk 0 0 [] 0 []
def mP(m:Int):qD:=if m.tmod 2=0 then [102]else [103]
def ir(Z:Int->cO->qJ×cO)(f:Int)(j:qA)(c q m:Int):St×cO:=
 if q<6 then (.mk 1 ((cB f).getD (m.tmod (cB f).length).toNat []) [] 0 k5 (bC f 5 0 j).1 [] [] [],((bC f 5 0 j).2,c))
 else if q<8 then (.mk 2 (wu m) [] 0 (bC f 3 2 j).1 (bC f 4 1 (bC f 3 2 j).2).1 [] [] [],((bC f 4 1 (bC f 3 2 j).2).2,c))
 else if q<10 then (.mk 3 [] [] 0 k5 (bC f 4 1 j).1 [] (Z 3 ((bC f 4 1 j).2,c)).1 (Z 2 (Z 3 ((bC f 4 1 j).2,c)).2).1,(Z 2 (Z 3 ((bC f 4 1 j).2,c)).2).2)
 else if q<12 then (.mk 4 [] [] 0 k5 (bC f 4 1 j).1 [] (Z 3 ((bC f 4 1 j).2,cy (c+1))).1 [],(Z 3 ((bC f 4 1 j).2,cy (c+1))).2)
 else if q<14 then (.mk 5 [] [] 0 k5 (bC f 4 1 j).1 [] [] [],((bC f 4 1 j).2,c))
 else if q<15 then (.mk 6 ((cB f).getD (m.tmod (cB f).length).toNat []) (mP m) 0 k5 k5 (iI f (2-m.tmod 2).toNat j).1 [] [],((iI f (2-m.tmod 2).toNat j).2,c))
 else (.mk 7 [] [] m k5 k5 [] [] [],(j,c))
def zH(deep:Nat)(c q0:Int):Int:=if ((2:Int)<deep/\8<=q0/\q0<12)\/(10<=c/\10<=q0)then 0 else q0
def x4(j:Int->cO->qJ×cO)(f:Int)(deep:Nat)(s:cO):St×cO:=
 ir j f (bO s.1).2 s.2 (zH deep s.2 (cK (bO s.1).1 16)) (cK (cy ((bO s.1).1.tdiv 16)) 1000)
def gZ(f:Int):Nat->Nat->cO->St×cO
 |0,_,s=>(.mk 0 [] [] 0 k5 k5 [] [] [],s)
 |k+1,deep,s=>x4 (fun V s=>iq (gZ f k (deep+1)) (cK (bO s.1).1 (V+1)).toNat ((bO s.1).2,s.2)) f deep s
def mp(f:Int)(k deep:Nat)(V:Int)(s:cO):qJ×cO:=iq (gZ f k deep) (cK (bO s.1).1 (V+1)).toNat ((bO s.1).2,s.2)
theorem D6{step:cO->St×cO}(h:∀s,(step s).2.1.length<=s.1.length):∀(n:Nat) (s:cO),(iq step n s).2.1.length<=s.1.length
 |0,_=>aG _
 |n+1,s=>by
  rw[iq];split
  .exact aG _
  .exact dt (D6 h n _) (h s)
theorem Nh(f:Int):∀(n:Nat) (L:qA),(iI f n L).2.length<=L.length
 |0,_=>aG _
 |n+1,L=>dt (Nh f n _) (ft f 3 2 L)
def zi5{j:Int->cO->qJ×cO}(m:∀(V:Int) (s:cO),(j V s).2.1.length<=s.1.length)(f:Int)(deep:Nat)(s:cO):(x4 j f deep s).2.1.length<=s.1.length:=by
 have h:=ou s.1;have Z:=ft f 4 1 (bO s.1).2;have Y:=ft f 5 0 (bO s.1).2;have O:=ft f 3 2 (bO s.1).2;have L:=ft f 4 1 (bC f 3 2 (bO s.1).2).2;rw[x4,ir];generalize zH deep s.2 (cK (bO s.1).1 16)=q;by_cases c1:q<6
 .rw[ai c1];exact dt Y h
 rw[ah c1];by_cases c2:q<8
 .rw[ai c2];exact dt L (dt O h)
 rw[ah c2];by_cases c3:q<10
 .rw[ai c3];exact dt (m _ _) (dt (m _ _) (dt Z h))
 rw[ah c3];by_cases c4:q<12
 .rw[ai c4];exact dt (m _ _) (dt Z h)
 rw[ah c4];by_cases c5:q<14
 .rw[ai c5];exact dt Z h
 rw[ah c5];by_cases c6:q<15
 .rw[ai c6];exact dt (Nh f _ _) h
 rw[ah c6];exact h
theorem D7(f:Int):∀(k Y:Nat) (s:cO),(gZ f k Y s).2.1.length<=s.1.length
 |0,_,_=>aG _
 |k+1,Y,s=>zi5 (fun V s=>dt (D6 (D7 f k (Y+1)) _ _) (ou s.1)) f Y s
def Bi(k:Int)(nm O:qD)(n:Int)(a v:qB)(args z C:AV):qB:=[.int .i64 k,.ay nm,.ay O,.int .i64 n]++a++v++[args,z,C]
def zI{n:Nat}(k:Int)(nm O:qD)(Y:Int){a v:qB}{m Z:Ex}{args z C:AV}{al:qM}{L V:qJ}(J:cY S (n+1) H a m.cells)(j:cY S (n+1) H v Z.cells)(I:jm S (n+1) H args (.aE (al.map Ex.cells)))(h2:jm S (n+1) H z (.aE (L.map St.cells)))(h3:jm S (n+1) H C (.aE (V.map St.cells))):
 cY S (n+1) H (Bi k nm O Y a v args z C) (St.mk k nm O Y m Z al L V).cells:=by
 have e:(St.mk k nm O Y m Z al L V).cells=[.int .i64 k,.ay nm,.ay O,.int .i64 Y]++m.cells++Z.cells++[.aE (al.map Ex.cells),.aE (L.map St.cells),.aE (V.map St.cells)]:=by
  rw[yK,tx,tx];rfl
 rw[e];exact(((cY.cons (.int _ _) (.cons (.ay _) (.cons (.ay _) (.cons (.int _ _) .nil)))).append J).append j).append (.cons I (.cons h2 (.cons h3 .nil)))
def zJ:qB:=[.int .i64 0,.int .i64 0,.ay [],.int .i64 0,.ao]
def x5{n:Nat}:cY S (n+1) H zJ k5.cells:=xY 0 0 0 []
def zi6(nm:qD){v:qB}(h:v.length=5):eg prog 78 [(0,.int .i64 1),(1,.ay nm),(5,.agg v)]=some (.agg (Bi 1 nm [] 0 zJ v .ao .ao .ao)):=by
 obtain⟨a,b,c,d,e,rfl⟩:=mo h;kernel_rfl
def zi7(nm:qD){a v:qB}(h:a.length=5)(k:v.length=5):eg prog 78 [(0,.int .i64 2),(1,.ay nm),(4,.agg a),(5,.agg v)]=some (.agg (Bi 2 nm [] 0 a v .ao .ao .ao)):=by
 obtain⟨a,b,c,d,e,rfl⟩:=mo h;obtain⟨C,J,Z,Y,V,rfl⟩:=mo k;kernel_rfl
def zi8(k:Int){v:qB}(h:v.length=5):eg prog 78 [(0,.int .i64 k),(5,.agg v)]=some (.agg (Bi k [] [] 0 zJ v .ao .ao .ao)):=by
 obtain⟨a,b,c,d,e,rfl⟩:=mo h;kernel_rfl
def zi9(nm O:qD):eg prog 78 [(0,.int .i64 6),(1,.ay nm),(2,.ay O)]=some (.agg (Bi 6 nm O 0 zJ zJ .ao .ao .ao)):=ax
def zja(n:Int):eg prog 78 [(0,.int .i64 7),(3,.int .i64 n)]=some (.agg (Bi 7 [] [] n zJ zJ .ao .ao .ao)):=ax
def zjb(h:cs.length=17):∃c0 c1 c2 c3 c4 c5 c6 c7 c8 c9 O L j I Y Z z,cs=[c0,c1,c2,c3,c4,c5,c6,c7,c8,c9,O,L,j,I,Y,Z,z]:=by
 match cs,h with
 |[c0,c1,c2,c3,c4,c5,c6,c7,c8,c9,O,L,j,I,Y,Z,z],_=>exact⟨c0,c1,c2,c3,c4,c5,c6,c7,c8,c9,O,L,j,I,Y,Z,z,rfl⟩
def zjc(H:Hp)(h:cs.length=17):eW prog H 67 1 [(0,.agg cs)]=some (.sl H.next 0 1 17,H.alloc (.cells cs 0 true)):=by
 obtain⟨c0,c1,c2,c3,c4,c5,c6,c7,c8,c9,O,L,j,I,Y,Z,z,rfl⟩:=zjb h;kernel_rfl
def zjd(z n lo:Nat)(H:Hp)(r:Nat)(ws:List qB)(L:qA)(c:Int)(v:AV)(H':Hp):Prop:=
 eN (fun q=>H.next<=q) n H' z v ws/\jL lo H' r L c/\H.next<=H'.next/\∀q,q<H.next->q≠r->H'.get q=H.get q
def jL.len{r:Nat}{c:Int}(h:jL lo H r L c):∃v,H.get r=some (.cells [v,.int .i64 c] 0 true)/\∀H',jP prog H' 26 v=some (.int .i64 L.length):=by
 obtain⟨_,_,v,j,m⟩:=h;refine⟨v,j,fun H'=>?_⟩;rcases m with⟨rfl,rfl⟩|⟨b,Z,O,Y,rfl,_⟩
 .exact Qd underlying26 _
 .exact CI underlying26 _ _ _ _
def sT(J:qH)(k:Nat)(f:Int)(deep:Nat):Prop:=∀(V:Nat) (H:Hp) (r:Nat) (s:cO),jL V H r s.1 s.2->s.1.length<2^60 ->
 aR prog (aA pls J) 58 [.ptr r 0,.int .i64 f,.int .i64 deep] H (D3 17 (8+k) V H r (gZ f k deep s).1.cells (gZ f k deep s).2.1 (gZ f k deep s).2.2)
set_option maxRecDepth 100000 in
theorem D8{lG:qH}(hG:zf3 lG){f:Int}{deep:Nat}(hst:sT lG k f deep)(V:Int)(h0:0<=V)(h1:V<=5)(lo:Nat)(H:Hp)(r:Nat)(s:cO)(J:jL lo H r s.1 s.2)(hL:s.1.length<2^60):
 aR prog (aA pls lG) 33 [.ptr r 0,.int .i64 f,.int .i64 deep,.int .i64 V] H (zjd 17 (8+k) lo H r ((mp f k deep V s).1.map St.cells) (mp f k deep V s).2.1 (mp f k deep V s).2.2):=by
 have hw:zd0 (aA pls lG) 33:=hG.plain cN;have hkeep:(aA pls lG).keep 33=false:=rfl;have hnx:zd0 (aA pls lG) 32:=hG.plain cN;have hrl:=J.1;have hlo:=J.2.1;have hw1:IntKind.wrap .i64 (V+1)=V+1:=fN ac ac;rw[mp];refine qe hw func33 Vh ?_;dsimp only[Vh,qd,a1,Nat.reduceAdd];refine OS fun K hK=>?_;refine qj ?_;refine a8 ?_ (In hnx J hL);rintro v H2 ⟨rfl,hr2,n2,o2⟩;have hL1:=ou s.1;generalize (bO s.1).1=n at *;generalize (bO s.1).2=L1 at *;have hm1:V+1≠0:=ac;have hp:=mO (n:=n) (m:=V+1) ac ac;generalize hc:(cK n (V+1)).toNat=Z at *;have hpc:cK n (V+1)=(Z:Int):=ac;dsimp only[a0];repeat' (first
  |(apply ay ?_;clear hK K)|apply a9 ?_|(apply fq ?_;first|refine Rx.k (xV hG.pick _ _ hm1 _) ?_)|fail)
 refine G3 [0,1,2,8] [] (fun i E z=>i<=Z/\E.at 10=.int .i64 i/\∃v l C,E.at 9=v/\eN (fun q=>H.next<=q) (8+k) z 17 v (l.map St.cells)/\jL lo z r C.1 C.2/\(∀q,q<H.next->q≠r->z.get q=H.get q)/\l.length+i=Z/\C.1.length<2^60 /\
  iq (gZ f k deep) Z (L1,s.2)=(l++(iq (gZ f k deep) i C).1,(iq (gZ f k deep) i C).2)) Z ⟨aG _,Lo,.ao,[],(L1,s.2),eE,.inl ⟨rfl,rfl⟩,hr2,fun q h1 Y=>o2 q Y,aB,xN,aB⟩ ?_
 rintro i E z hcE hrH hnH ⟨hic,hsI,v,l,C,k9,I,hr3,o3,hli,hsl,hJ⟩;(try simp only[bz,a7,aV,aK,bb,Nat.reduceBEq, *]at hcE);obtain⟨lv,hgr,hlen⟩:=hr3.len;have hle:H.next<=z.next:=ac
 repeat' (first
  |(apply ay ?_;clear hK K)|apply a9 ?_|(apply gL ?_ ?_<;>(intro hg hgp;try(cases hg;done)))|(apply bU ?_ ?_<;>(intro hb hbp;try(cases hb;done)))|(apply az fun K hK=>?_)|fail)
 .refine qj ?_;refine a8 ?_ (hst lo z r C hr3 hsl);rintro v' H4 ⟨⟨cs,rfl,hc1,hc2,hc3⟩,hr4,n4,o4⟩;have kb:=fun H=>zjc H hc1;dsimp only[a0];refine vx ?_;have hvq:∀q o m O,v=.sl q o m O->H.next<=q/\q<z.next:=fun q o m O e=>by
   rcases I with⟨rfl,_⟩|⟨q',imm,rows,rfl,e1,e2,_⟩
   .cases e
   .simp only[AV.sl.injEq]at e;rw[<-e.1];exact⟨e1,e2⟩
  have L:eN (fun q=>H.next<=q) (8+k) (H4.alloc (.cells cs 0 true)) 17 v (l.map St.cells):=I.keep (fun q _ h=>h) iF fun q h1 Y=>by rw[aL,ah ac,o4 q Y ac]
  obtain⟨v5,H5,cI,s5,n5,f5,q5⟩:=eN.push (P:=prog) (t:=67) underlying67 LH Ro Rp rfl ax L iF (r:=H4.next) (imm:=0) (row:=cs) (w:=(gZ f k deep C).1.cells) fw hc1 hc2 (hc3.bC (fun q h1 Y=>⟨ac,fun o m O e=>by have:=(hvq q o m O e).2;omega⟩) (dg _) fun q h1 Y=>dT) Iq Iq;refine mG cS cS (by rw[hkeep];exact cI) ?_;have hi0:0<i:=ac;obtain⟨i,rfl⟩:∃j,i=j+1:=⟨i-1,ac⟩;have hwd:IntKind.wrap .i64 (((i+1:Nat):Int)-1)=(i:Int):=Hn;simp only[aS]at n5 f5;have n5':z.next<=H5.next:=ac
  have o5:∀q,q<H.next->q≠r->H5.get q=H.get q:=fun q h1 Y=>by rw[f5 q ac (fun o m O e=>by have:=(hvq q o m O e).1;omega),aL,ah ac,o4 q ac Y,o3 q h1 Y]
  have hr5:jL lo H5 r (gZ f k deep C).2.1 (gZ f k deep C).2.2:=hr4.keep ac fun q hq=>by rw[f5 q ac (fun o m O e=>by have:=(hvq q o m O e).1;omega),aL,ah ac]
  clear n5 f5 cI L o4 hr4;refine vx ?_;have hne:C.1≠[]:=by
   intro e;have:C.1.length=0:=by rw[e];rfl
   omega
  have hsd:=D7 f k deep C;refine⟨(by simp only[bz,a7,aV,aK,bb,Nat.reduceBEq, *]),(by simp only[a7]),ac,i,cn _,ac,eE,v5,l++[(gZ f k deep C).1],(gZ f k deep C).2,eE,by rw[rF];exact s5,hr5,o5,cZ,ac,?_⟩;rw[hJ,iq,ah hne];simp
 all_goals
  all_goals refine qi ?_
  have hfin:iq (gZ f k deep) i C=([],C):=by
   rcases(by omega:i=0\/C.1.length=0)with h|h
   .rw[h];rfl
   .cases i with
    |zero=>rfl
    |succ i=>rw[iq,ai (Co h)]
  rw[hJ,hfin];exact⟨by rw[bq];exact I,hr3,hle,o3⟩
end
section
theorem x6{m:Int}(h:0<=m):[AV.ay [102],AV.ay [103]][(m.tmod 2).toNat]?=some (.ay (mP m)):=by
 rw[Nf h,mP];split<;>rfl
def zje{P:Program}{cfg:Cfg}{f N:Nat}{a:SC}{E:aw}{Q:AX->aw->Hp->Prop}(F:aw->Hp->Prop)(j:bX P cfg f N a E H fun x E' H'=>x=.normal/\F E' H')(m:∀E' H',F E' H'->Q .normal E' H'):bX P cfg f N a E H Q:=
 Ao (fun x E' H' h=>by obtain⟨rfl,h⟩:=h;exact m E' H' h) j
def jL.eb{r:Nat}{c:Int}(h:jL lo H r L c):∃v,H.get r=some (.cells [v,.int .i64 c] 0 true)/\∀C,jL lo (H.set r (.cells [v,.int .i64 C] 0 true)) r L C:=by
 obtain⟨J,Z,v,j,m⟩:=h;refine⟨v,j,fun C=>⟨J,Z,v,iW,?_⟩⟩;rcases m with m|⟨b,Y,I,V,z,e2,e3,O,e5⟩
 .exact .inl m
 .exact .inr ⟨b,Y,I,V,z,by rw[aQ,ah O];exact e2,e3,O,e5⟩
theorem zjf(nm:qD)(O m Z z C:AV):eg prog 78 [(0,.int .i64 1),(1,.ay nm),(5,.agg [O,m,Z,z,C])]=some (.agg [.int .i64 1,.ay nm,.ay [],.int .i64 0,.int .i64 0,.int .i64 0,.ay [],.int .i64 0,.ao,O,m,Z,z,C,.ao,.ao,.ao]):=zi6 nm rfl
theorem zjg(nm:qD)(fD aI a6 cp dO O m Z z C:AV):eg prog 78 [(0,.int .i64 2),(1,.ay nm),(4,.agg [fD,aI,a6,cp,dO]),(5,.agg [O,m,Z,z,C])]=some (.agg [.int .i64 2,.ay nm,.ay [],.int .i64 0,fD,aI,a6,cp,dO,O,m,Z,z,C,.ao,.ao,.ao]):=zi7 nm rfl rfl
theorem Vi(k:Int)(O m Z z C:AV):eg prog 78 [(0,.int .i64 k),(5,.agg [O,m,Z,z,C])]=some (.agg [.int .i64 k,.ay [],.ay [],.int .i64 0,.int .i64 0,.int .i64 0,.ay [],.int .i64 0,.ao,O,m,Z,z,C,.ao,.ao,.ao]):=zi8 k rfl
def zjh(nm O:qD):eg prog 78 [(0,.int .i64 6),(1,.ay nm),(2,.ay O)]=some (.agg [.int .i64 6,.ay nm,.ay O,.int .i64 0,.int .i64 0,.int .i64 0,.ay [],.int .i64 0,.ao,.int .i64 0,.int .i64 0,.ay [],.int .i64 0,.ao,.ao,.ao,.ao]):=zi9 nm O
def Vj(n:Int):eg prog 78 [(0,.int .i64 7),(3,.int .i64 n)]=some (.agg [.int .i64 7,.ay [],.ay [],.int .i64 n,.int .i64 0,.int .i64 0,.ay [],.int .i64 0,.ao,.int .i64 0,.int .i64 0,.ay [],.int .i64 0,.ao,.ao,.ao,.ao]):=zja n
theorem Vk(c0 c1 c2 c3 c4 c5 c6 c7 c8 c9 O L j I Y Z z:AV):cr 17 [c0,c1,c2,c3,c4,c5,c6,c7,c8,c9,O,L,j,I,Y,Z,z]=some (.agg [c0,c1,c2,c3,c4,c5,c6,c7,c8,c9,O,L,j,I,Y,Z,z]):=rfl
def Vl:cC prog 78=some [.int .i64 0,.ay [],.ay [],.int .i64 0,.int .i64 0,.int .i64 0,.ay [],.int .i64 0,.ao,.int .i64 0,.int .i64 0,.ay [],.int .i64 0,.ao,.ao,.ao,.ao]:=ax
def x7{a b c d e:AV}(h:[a,b,c,d,e].all AV.one=true):AV.one a=true/\AV.one b=true/\AV.one c=true/\AV.one d=true/\AV.one e=true:=by
 simp only[oX,pO,fV,bT]at h;exact⟨h.1,h.2.1,h.2.2.1,h.2.2.2.1,h.2.2.2.2⟩
def zK{r n:Nat}{Y:Hp}{c:Int}(Z:cs.length=17)(m:cs.all AV.one=true)(V:cY (fun q=>H.next<=q) n Y cs x.cells)(hr:jL lo Y r L c)(J:H.next<=Y.next)(I:∀q,q<H.next->q≠r->Y.get q=H.get q):D3 17 n lo H r x.cells L c (.agg cs) Y:=⟨⟨cs,rfl,Z,m,V⟩,hr,J,I⟩
def r5:SC->SC
 | .seq _ b=>b
 |x=>x
noncomputable def pZ:SC:=r5 (r5 (r5 (r5 (r5 (r5 uZ.1.1)))))
noncomputable def u5(f:Int)(k deep:Nat):Int->cO->qJ×cO:=fun V s=>iq (gZ f k (deep+1)) (cK (bO s.1).1 (V+1)).toNat ((bO s.1).2,s.2)
abbrev qr:HB:=.cells [.int .i64 0,.ay [],.ay [],.int .i64 0,.int .i64 0,.int .i64 0,.ay [],.int .i64 0,.ao,.int .i64 0,.int .i64 0,.ay [],.int .i64 0,.ao,.ao,.ao,.ao] 0 true
structure AtT (f:Int) (deep lo:Nat) (H H2:Hp) (r:Nat) (L1:qA) (c q m:Int) (E2:aw):Prop where
 hd:deep<=3
 hrl:r<lo
 hlo:lo<=H.next
 n2:H2.next=H.next+1
 g2:H2.get H.next=some qr
 o2:∀q,q<H.next->q≠r->H2.get q=H.get q
 hr2:jL lo H2 r L1 c
 hL:L1.length<2^60
 hm:0<=m/\m<1000
 hqd:8<=q->q<12->deep<=2
 k0:E2.at 0=.ptr r 0
 k1:E2.at 1=.int .i64 f
 k2:E2.at 2=.int .i64 deep
 k6:E2.at 6=.ptr H.next 0
 k8:E2.at 8=gV (cB f)
 k9:E2.at 9=.int .i64 m
 k10:E2.at 10=.int .i64 q
def rc(k:Nat)(f:Int)(deep lo:Nat)(H:Hp)(r:Nat)(j:qA)(c q m:Int):AX->aw->Hp->Prop:=fun x E' H'=>(x=.normal\/x=.ret)/\∃vs,dR prog E' H' [.cell 6 78]=some vs/\D3 17 (8+(k+1)) lo H r (ir (u5 f k deep) f j c q m).1.cells (ir (u5 f k deep) f j c q m).2.1 (ir (u5 f k deep) f j c q m).2.2 (aD vs) H'
def tyLoL.tyF:=ad @cG (ad @eG (ad @ij (ad @l8 (ad @jU (ad @ey (ad @oQ (ad @jJ (ad @gC (ad @rO (ad @LA (ad @ik (ad @jx (ad @i7 (ad @iC (ad @tG (ad @nZ (ad @C0 (@C1))))))))))))))))))
open tyLoL
theorem zji:∀(l:List aY) (L:aY),bL l L=false->bS l L=0
 |[],_,_=>rfl
 |a::l,L,h=>by
  have V:bL (a::l) L=(decide (a=L)||bL l L):=rfl;rw[V,jG,oP]at h;rw[bS,ah h.1,h.2];rfl
def zd7.fnNames{p:Pr}(h:zd7 p)(z:f∈p.funcs):(f.params++f.aK).Nodup:=by
 have hd:=h.du;rw[nK,MQ,jG,jG]at hd;have:=uB.1 hd.2.2 f z;exact M0 _ _ (by simpa using this)
def Nk(p:Pr)(n:Nat):Prop:=∀f∈p.funcs,∃s v,fH (bu p f) n f.body (i9 f)=some s/\ei (bu p f) n f.value s=some v/\Fin v.2
def Iw(H':Hp)(u:Un)(e:Int)(v:AV):Prop:=∃O S,v=.bH [.agg O,.int .i64 e]/\cY S 5 H' O u.cells
def zjj(H:Hp)(h:cs.length=5)(j:cs.all AV.one=true):eW prog H 35 1 [(0,.agg cs)]=some (.sl H.next 0 1 5,H.alloc (.cells cs 0 true)):=by
 obtain⟨a,b,c,d,e,rfl⟩:=mo h;kernel_rfl
def zjk{lv:AV}(nm:qD)(np v st:Int)(h:eN S 2 H 3 lv (l.map Nd.cells)):cY S 3 H [.ay nm,.int .i64 np,lv,.int .i64 v,.int .i64 st] (Gr.mk nm np l v st).cells:=
 .cons (.ay _) (.cons (.int _ _) (.cons h.rd (.cons (.int _ _) (.cons (.int _ _) .nil))))
theorem Iw.wk{H':Hp}{u:Un}{e:Int}{v:AV}(h:Iw H' u e v):∃m w,iceV H' m v=some w/\cW 60 w=.bH [.agg u.cells,.int .i64 e]:=by
 obtain⟨O,S,rfl,Z,j,Y⟩:=h;have C:dc S 100 H' (.agg O) (.agg Z):=dc.up (n:=6) ⟨Z,j,rfl⟩ ac;obtain⟨L,V⟩:=Hu (S:=S) (n:=100) (H:=H') (fun k=>dc.iceV k) (l:=[.agg O,.int .i64 e]) (k:=[.agg Z,.int .i64 e]) ⟨C,xE ⟨.int _ _,trivial⟩,trivial⟩;refine⟨L+1,.bH [.agg Z,.int .i64 e],?_,?_⟩
 .have J:iceV H' (L+1) (.bH [.agg O,.int .i64 e])=match iceL (iceV H' L) [.agg O,.int .i64 e]with
   |some vs=>some (.bH vs)
   |none=>none:=rfl
  rw[J,V L (aG _)]
 .show AV.bH [.agg (Z.map (cW 58)),.int .i64 e]=_;rw[Y 58 ac]
end
section
structure NdP (c:Cx) (np:Nat) (x:Nd):Prop where
 op:0<=x.op/\x.op<256
 aP:cX x.aP
 len:x.ak.length<=40
 pa:x.op=2->x.aP<np
 ar:x.op=23\/x.op=28->x.aP<c.ab.length
 fn:x.op=30->0<=x.aP/\∃f,c.funcs[x.aP.toNat]?=some f/\x.ak.length=1+f.params.length
structure zd4 (c:Cx):Prop where
 a:∀x∈c.ab,1<=x.len/\x.len<=16
 al:c.ab.length<=4
 fl:c.funcs.length<=8
 fp:∀f∈c.funcs,f.params.length<=6
 nl:c.aO.length<=14
structure LI (c:Cx) (np:Nat) (s:Bd):Prop where
 nd:s.l.Nodup
 wf:DU s.l
 p:∀x∈s.l,NdP c np x
 v:∀x∈s.vars,IsT s.l 1 x
 vl:s.vars.length=c.aO.length
 st:IsT s.l 2 s.aa
def Vm{n:Nd}(h:l.Nodup):(ku l n).Nodup:=by
 unfold ku;split
 .exact h
 .rename_i c;exact List.nodup_append.2 ⟨h,aB,fun a m b hb=>by
   simp only[od]at hb;subst hb;rintro rfl;exact c (Uw.2 m)⟩
def Vn(l:qF)(n:Nd):(ku l n).length<=l.length+1:=by
 rw[Uy];split<;>omega
section
variable {c:Cx} {np:Nat} {s:Bd}
def LI.setS(h:LI c np s){x:Int}(I:IsT s.l 2 x):LI c np {s with aa:=x}:=⟨h.nd,h.wf,h.p,h.v,h.vl,I⟩
def LI.setV(h:LI c np s){x:qA}(I:∀y∈x,IsT s.l 1 y)(L:x.length=c.aO.length):LI c np {s with vars:=x}:=⟨h.nd,h.wf,h.p,I,L,h.st⟩
def LI.dX(h:LI c np s)(x:Nat):LI c np {s with loops:=x}:=⟨h.nd,h.wf,h.p,h.v,h.vl,h.st⟩
def k7(h:LI c np s){n:Nd}(V:fY s.l n=t)(m:t≠0)(Z:NdP c np n):LI c np (aj n s).2/\IsT (aj n s).2.l t (aj n s).1/\(aj n s).2.l.length<=s.l.length+1:=by
 obtain⟨a,b⟩:=M5 h.wf V m;refine⟨⟨Vm h.nd,b,fun x I=>?_,fun x I=>(h.v x I).le (wn _ _),h.vl,h.st.le (wn _ _)⟩,a,Vn _ _⟩;rcases uS.1 I with I|rfl
 .exact h.p x I
 .exact Z
def jB(c:Cx)(np:Nat){op imm:Int}{kids:qA}(I:0<=op/\op<256)(Z:cX imm)(z:kids.length<=40)(m:op≠2)(O:op≠23)(V:op≠28)(J:op≠30):NdP c np ⟨op,imm,kids⟩:=
 ⟨I,Z,z,fun e=>absurd e m,fun e=>e.elim (fun e=>absurd e O) fun e=>absurd e V,fun e=>absurd e J⟩
theorem Bj(h:LI c np s){k a:Int}(z:IsT s.l 1 k)(m:IsT s.l t a)(hb:IsT s.l t b)(Z:t=1\/t=2):LI c np (a5 k a b s).2/\IsT (a5 k a b s).2.l t (a5 k a b s).1/\(a5 k a b s).2.l.length<=s.l.length+1:=by
 unfold a5;split
 .simp_all
 .exact k7 h (UH z m hb Z) ac (jB _ _ aF fQ aB aF aF aF aF)
def Nl(h:LI c np s){v:Int}(j:IsT s.l 1 v)(L:1<=t)(Z:t<=1000016):LI c np (kM t v s)/\(kM t v s).l.length<=s.l.length+1:=by
 have:=k7 h (n:=⟨27,t,[s.aa,v]⟩) (UJ h.st j L Z) aF (jB _ _ aF fQ aB aF aF aF aF);exact⟨this.1.setS this.2.1,this.2.2⟩
def D9(h:LI c np s){n:Int}(J:cX n):LI c np (aj ⟨1,n,[]⟩ s).2/\IsT (aj ⟨1,n,[]⟩ s).2.l 1 (aj ⟨1,n,[]⟩ s).1/\(aj ⟨1,n,[]⟩ s).2.l.length<=s.l.length+1:=
 k7 h (UC n) aF (jB _ _ aF J aB aF aF aF aF)
def Ix(h:LI c np s){op a:Int}(m:IsT s.l 1 a)(hb:IsT s.l 1 b)(L:4<=op)(j:op<=19):LI c np (aj ⟨op,0,[a,b]⟩ s).2/\IsT (aj ⟨op,0,[a,b]⟩ s).2.l 1 (aj ⟨op,0,[a,b]⟩ s).1/\(aj ⟨op,0,[a,b]⟩ s).2.l.length<=s.l.length+1:=
 k7 h (UF m hb L j) aF (jB _ _ ac fQ aB ac ac ac ac)
def Vo(h:LI c np s){n i:Int}(J:cX n)(O:IsT s.l 1 i):LI c np (dS n i s)/\(dS n i s).l.length<=s.l.length+3:=by
 obtain⟨aI,a6,cp⟩:=D9 h J;have C:=O.le (b9 ⟨1,n,[]⟩ s).le.l;obtain⟨j,z,Y⟩:=Ix aI (op:=19) C a6 aF aF;obtain⟨c1,c2⟩:=Nl j (t:=2) z aF aF;exact⟨c1,by have:(dS n i s).l.length<=_:=c2;omega⟩
def zjl(h:LI c np s){i:Int}(O:IsT s.l 1 i):LI c np (lJ i s)/\(lJ i s).l.length<=s.l.length+3:=by
 obtain⟨aI,a6,cp⟩:=D9 h (n:=0) fQ;have C:=O.le (b9 ⟨1,0,[]⟩ s).le.l;obtain⟨j,z,Y⟩:=Ix aI (op:=16) C a6 aF aF;obtain⟨c1,c2⟩:=Nl j (t:=1) z aF aF;exact⟨c1,by have:(lJ i s).l.length<=_:=c2;omega⟩
def Vp(L:zd4 c)(h:LI c np s){i:Int}(O:IsT s.l 1 i)(z:k<c.ab.length):LI c np (aj ⟨23,k,[s.aa,i]⟩ s).2/\IsT (aj ⟨23,k,[s.aa,i]⟩ s).2.l 1 (aj ⟨23,k,[s.aa,i]⟩ s).1/\(aj ⟨23,k,[s.aa,i]⟩ s).2.l.length<=s.l.length+1:=by
 have al:=L.al;exact k7 h (UI h.st O ac ac) aF ⟨aU,D2,aU,fun e=>absurd e aU,fun _=>aU,fun e=>absurd e aU⟩
def Vq(L:zd4 c)(h:LI c np s){i v:Int}(O:IsT s.l 1 i)(j:IsT s.l 1 v)(z:k<c.ab.length):LI c np (aj ⟨28,k,[s.aa,i,v]⟩ s).2/\IsT (aj ⟨28,k,[s.aa,i,v]⟩ s).2.l 2 (aj ⟨28,k,[s.aa,i,v]⟩ s).1/\(aj ⟨28,k,[s.aa,i,v]⟩ s).2.l.length<=s.l.length+1:=by
 have al:=L.al;exact k7 h (UL h.st O j ac ac) aF ⟨aU,D2,aU,fun e=>absurd e aU,fun _=>aU,fun e=>absurd e aU⟩
def zjm(h:LI c np s){v:Int}(j:IsT s.l 1 v):LI c np (aj ⟨29,0,[s.aa,v]⟩ s).2/\IsT (aj ⟨29,0,[s.aa,v]⟩ s).2.l 2 (aj ⟨29,0,[s.aa,v]⟩ s).1/\(aj ⟨29,0,[s.aa,v]⟩ s).2.l.length<=s.l.length+1:=
 k7 h (UK h.st j) aF (jB _ _ aF fQ aB aF aF aF aF)
def zjn(h:LI c np s){v:Int}(j:IsT s.l 2 v):LI c np (aj ⟨24,0,[v]⟩ s).2/\IsT (aj ⟨24,0,[v]⟩ s).2.l 1 (aj ⟨24,0,[v]⟩ s).1/\(aj ⟨24,0,[v]⟩ s).2.l.length<=s.l.length+1:=
 k7 h (UM j) aF (jB _ _ aF fQ aB aF aF aF aF)
theorem Vr(L:zd4 c)(h:LI c np s){m:qA}(Z:∀a∈m,IsT s.l 1 a)(z:c.funcs[k]?=some f)(Y:m.length=f.params.length):LI c np (aj ⟨30,k,s.aa::m⟩ s).2/\IsT (aj ⟨30,k,s.aa::m⟩ s).2.l 2 (aj ⟨30,k,s.aa::m⟩ s).1/\(aj ⟨30,k,s.aa::m⟩ s).2.l.length<=s.l.length+1:=by
 have V:=L.fl;have O:=L.fp f (cV z);have J:k<c.funcs.length:=by
  grind
 exact k7 h (UN h.st Z ac ac ac) aF ⟨aU,D2,cU,fun e=>absurd e aU,fun e=>aU,fun _=>⟨aU,f,aU,cU⟩⟩
end
theorem zjo{l:qM}{i:Nat}{k:Ex}(j:jA l)(h:l[i]?=some k):kx k:=by
 induction l generalizing i with
 |nil=>simp at h
 |cons e V ih=>
  rw[jA]at j
  grind
theorem zjp{vs Y:List aY}{l:qM}{i:Nat}{k:Ex}(j:fW vs Y l=true)(h:l[i]?=some k):fC vs Y k=true:=by
 induction l generalizing i with
 |nil=>simp at h
 |cons e V ih=>
  rw[fW,bT]at j
  grind
def Ea{l:qM}{i:Nat}{k:Ex}(h:l[i]?=some k):1+k.sz<=fg l:=by
 have:=ux (cV h);omega
def Nm{l:qM}{a b:Ex}(L:l[0]?=some a)(j:l[1]?=some b):2+a.sz+b.sz<=fg l:=by
 cases l with
 |nil=>simp at L
 |cons x l=>
  simp at L j;subst L;have:=Ea j;rw[fg];omega
def Vs{l:qM}{a b d:Ex}(L:l[0]?=some a)(j:l[1]?=some b)(m:l[2]?=some d):3+a.sz+b.sz+d.sz<=fg l:=by
 cases l with
 |nil=>simp at L
 |cons x l=>
  simp at L j m;subst L;have:=Nm (l:=l) j m;rw[fg];omega
theorem u7:∀{l:List aY}{s:aY},bL l s=true->bS l s<l.length
 |[],s,h=>by simp[bL]at h
 |a::l,s,h=>by
  rw[bS];split
  .simp
  .rename_i c;have V:bL (a::l) s=(decide (a=s)||bL l s):=rfl;rw[V,kS c,l5]at h;rw[ai h,fc];exact Nat.succ_lt_succ (u7 h)
structure XOk (c:Cx) (x:Ex):Prop where
 wf:fB x=true
 df:fC c.aO (c.ab.map (·.name)) x=true
 rg:kx x
def XOk.bM{x k:Ex}{i:Nat}(h:XOk c x)(z:x.ak[i]?=some k):XOk c k:=by
 obtain⟨j,m,C⟩:=h;rw[xQ,bT]at j;rw[zt,bT]at m;rw[Ij]at C;exact⟨Uf j.1 z,zjp m.1 z,zjo C.2 z⟩
theorem u9{c:Cx}(hc:zd4 c){np:Nat}:∀(n:Nat) (x:Ex) (s:Bd),XOk c x->x.sz<n->LI c np s->∃r,ei c n x s=some r/\LI c np r.2/\IsT r.2.l 1 r.1/\r.2.l.length<=s.l.length+6*x.sz
 |0,x,s,hx,hd,hs=>by omega
 |n+1,x,s,hx,hd,hs=>by
  have Y:=u9 hc (np:=np) n;have hwf:=hx.wf;have Z:=hx.df;have hrg:=(Ij x).1 hx.rg;rw[xQ,bT,ph]at hwf;rw[zt,bT,pj]at Z;have hw:=hwf.2;have hsz:=x.a9;unfold ei;by_cases e1:x.az=1
  .rw[ai e1];obtain⟨a,b,d⟩:=D9 hs hrg.1;exact⟨_,rfl,a,b,ac⟩
  rw[ah e1]at hw⊢;by_cases e2:x.az=2
  .rw[ai e2];have hn:bL c.aO x.name=true:=by have:=Z.2;simp[e2]at this;exact this
   have C:bS c.aO x.name<s.vars.length:=by rw[hs.vl];exact u7 hn
   rw[aX C,lB];exact⟨_,rfl,hs,hs.v _ (dE C),by show s.l.length<=_;omega⟩
  rw[ah e2]at hw⊢;by_cases e3:x.az=3
  .rw[ai e3]at hw⊢;simp only[lX]at hw;have hn:bL (c.ab.map (·.name)) x.name=true:=by have:=Z.2;simp[e3]at this;exact this
   have C:=u7 hn;rw[dk]at C;obtain⟨k,z⟩:=oq x.ak (i:=0) ac;have hks:=Ea z;obtain⟨r,hr,aq,r2,r8⟩:=Y k s (hx.bM z) ac hs;rw[z,aN,hr,aN,aX C,aN];have ha:=hc.a _ (dE C);generalize c.ab[bS (c.ab.map (·.name)) x.name]=ar at ha⊢;obtain⟨aI,a6⟩:=Vo aq (n:=ar.len) fQ r2;obtain⟨V,L,b3⟩:=Vp hc aI (r2.le (pX ar.len r.1 r.2).le.l) C;exact⟨_,rfl,V,L,ac⟩
  rw[ah e3]at hw⊢;by_cases e5:x.az=5
  .have e4:¬x.az=4:=by omega
   rw[ah e4,ai e5]at hw;rw[ai e5];simp only[lX]at hw;obtain⟨k,z⟩:=oq x.ak (i:=0) ac;obtain⟨k1,O⟩:=oq x.ak (i:=1) ac;obtain⟨k2,I⟩:=oq x.ak (i:=2) ac;have hks:=Vs z O I;obtain⟨r,hr,J,p2,p3⟩:=Y k s (hx.bM z) ac hs;obtain⟨aq,j,q1,q2,q3⟩:=Y k1 r.2 (hx.bM O) ac J;have l1:=cD c n _ _ _ j;obtain⟨r2,m,t1,t2,t3⟩:=Y k2 {aq.2 with aa:=r.2.aa} (hx.bM I) ac (q1.setS (J.st.le l1.le.l));have l2:=cD c n _ _ _ m;rw[z,aN,hr,aN,O,aN,j,aN,I,aN,m,aN];have pc:IsT r2.2.l 1 r.1:=(p2.le l1.le.l).le l2.le.l;obtain⟨bt,m2,m3⟩:=Bj t1 pc (q2.le l2.le.l) t2 (.inl rfl);have lm:=eB r.1 aq.1 r2.1 r2.2;obtain⟨dd,n2,n3⟩:=Bj bt (pc.le lm.le.l) ((q1.st.le l2.le.l).le lm.le.l) bt.st (.inr rfl);have ln:=eB r.1 aq.2.aa (a5 r.1 aq.1 r2.1 r2.2).2.aa (a5 r.1 aq.1 r2.1 r2.2).2;refine⟨_,rfl,dd.setS n2,m2.le ln.le.l,?_⟩;simp only at t3⊢;omega
  rw[ah e5]at hw⊢;by_cases e4:x.az=4
  .rw[ai e4]at hw;simp only[bT,nU,kE]at hw;have hl:x.ak.length=2\/x.ak.length=1:=by rcases hw.2 with h|h<;>omega
   obtain⟨k,z⟩:=oq x.ak (i:=0) ac;have hks:=Ea z;obtain⟨r,hr,J,p2,p3⟩:=Y k s (hx.bM z) ac hs;rw[z,aN,hr,aN];by_cases e6:x.ak.length=1
   .rw[ai e6];have ho:x.op=20\/x.op=21:=by
     rcases hw.2 with h|h
     .omega
     .exact h.2
    obtain⟨a,b,d⟩:=k7 J (UG p2 ho) aF (jB _ _ ac fQ aB ac ac ac ac);exact⟨_,rfl,a,b,ac⟩
   .rw[ah e6];obtain⟨k1,O⟩:=oq x.ak (i:=1) ac;have hks2:=Nm z O;obtain⟨aq,j,q1,q2,q3⟩:=Y k1 r.2 (hx.bM O) ac J;have l1:=cD c n _ _ _ j;rw[O,aN,j,aN];have ho:4<=x.op/\x.op<=18:=by
     rcases hw.2 with h|h
     .have:=h.2;simp[sM]at this;exact this
     .omega
    have p2':=p2.le l1.le.l;by_cases e7:x.op=7\/x.op=8
    .rw[ai e7];obtain⟨aI,a6⟩:=zjl q1 q2;have ld:=Bb aq.1 aq.2;obtain⟨V,L,b3⟩:=Ix aI (p2'.le ld.le.l) (q2.le ld.le.l) (by omega:4<=x.op) ac;exact⟨_,rfl,V,L,ac⟩
    .rw[ah e7];obtain⟨V,L,b3⟩:=Ix q1 p2' q2 (by omega:4<=x.op) ac;exact⟨_,rfl,V,L,ac⟩
  simp_all
theorem Vt{c:Cx}(L:zd4 c){np n:Nat}:∀(l:qM) (s:Bd),(∀x∈l,XOk c x)->fg l<n->LI c np s->∃r,mh c n l s=some r/\LI c np r.2/\(∀a∈r.1,IsT r.2.l 1 a)/\r.2.l.length<=s.l.length+6*fg l
 |[],s,hx,hd,hs=>⟨_,rfl,hs,aB,aU⟩
 |x::l,s,hx,hd,hs=>by
  rw[fg]at hd⊢;obtain⟨r,hr,Y,V,J⟩:=u9 L n x s (hx x dM) ac hs;obtain⟨r2,O,q1,q2,j⟩:=Vt (n:=n) L l r.2 (fun y Z=>hx y (dh _ Z)) ac Y;have l2:=(r3 c n _ _ _ O).1;refine⟨(r.1::r2.1,r2.2),U8,q1,fun a m=>?_,Bg⟩;rcases eJ.1 m with rfl|m
  .exact V.le l2.le.l
  .exact q2 a m
def tT(c:Cx):Sc:=⟨c.aO,some (c.ab.map (·.name)),⟨c.ab,c.funcs⟩⟩
structure SOk (c:Cx) (x:St):Prop where
 wf:pV x=true
 df:i8 (tT c) false x=true
 ar:i8 (tT c) true x=true
 rg:pY x
structure zf6 (c:Cx) (l:qJ):Prop where
 wf:gN l=true
 df:dJ (tT c) false l=true
 ar:dJ (tT c) true l=true
 rg:kN l
section
variable {c:Cx}
def zf6.cons{l:qJ}(h:zf6 c (x::l)):SOk c x/\zf6 c l:=by
 obtain⟨j,m,C,Z⟩:=h;rw[gN,bT]at j;rw[dJ,bT]at m C;rw[kN]at Z;exact⟨⟨j.1,m.1,C.1,Z.1⟩,⟨j.2,m.2,C.2,Z.2⟩⟩
def SOk.bD(h:SOk c x):zf6 c x.bm/\zf6 c x.bO:=by
 obtain⟨j,m,C,Z⟩:=h;rw[tN]at j;rw[zx]at m C;rw[Ik]at Z;simp only[bT]at j m C;exact⟨⟨j.1.2,m.1.2,C.1.2,Z.2.2.2.1⟩,⟨j.2,m.2,C.2,Z.2.2.2.2⟩⟩
theorem Vu:∀{l:qM}{x:Ex},jA l->x∈l->kx x
 |[],x,_,h=>by simp at h
 |e::l,x,hw,h=>by
  rw[jA]at hw;rcases eJ.1 h with rfl|h
  .exact hw.1
  .exact Vu hw.2 h
theorem Vv:∀{l:qM}{x:Ex},fO l=true->x∈l->fB x=true
 |[],x,_,h=>by simp at h
 |e::l,x,hw,h=>by
  rw[fO,bT]at hw;rcases eJ.1 h with rfl|h
  .exact hw.1
  .exact Vv hw.2 h
theorem Vw{vs Y:List aY}:∀{l:qM}{x:Ex},fW vs Y l=true->x∈l->fC vs Y x=true
 |[],x,_,h=>by simp at h
 |e::l,x,hw,h=>by
  rw[fW,bT]at hw;rcases eJ.1 h with rfl|h
  .exact hw.1
  .exact Vw hw.2 h
def SOk.def(h:SOk c x):fW c.aO (c.ab.map (·.name)) x.args=true/\fC c.aO (c.ab.map (·.name)) x.bz=true/\fC c.aO (c.ab.map (·.name)) x.value=true/\mN (tT c) x=true:=by
 have m:=h.df;rw[zx]at m;simp only[bT,HU,k4]at m;exact⟨m.1.1.1.1.1,m.1.1.1.1.2,m.1.1.1.2,m.1.1.2⟩
def SOk.args(h:SOk c x):∀a∈x.args,XOk c a:=fun a m=>by
 have j:=h.wf;have Z:=h.rg;rw[tN,kh]at j;rw[Ik]at Z;simp only[bT]at j;exact⟨Vv j.1.1.1 m,Vw h.def.1 m,Vu Z.2.2.1 m⟩
theorem SOk.value(h:SOk c x)(z:x.az=1\/x.az=2\/x.az=3\/x.az=4\/x.az=5):XOk c x.value:=by
 have j:=h.wf;have Z:=h.rg;rw[tN,kh,pi]at j;rw[Ik]at Z;simp only[bT]at j;refine⟨?_,h.def.2.2.1,Z.2.1⟩
 grind
theorem SOk.bz(h:SOk c x)(z:x.az=2):XOk c x.bz:=by
 have j:=h.wf;have Z:=h.rg;rw[tN,kh,pi]at j;rw[Ik]at Z;simp only[bT]at j;refine⟨?_,h.def.2.1,Z.1⟩;simp_all
theorem SOk.eY(h:SOk c x)(z:x.az=7):0<=x.n/\x.n<=1000000:=by
 have j:=h.wf;rw[tN,kh,pi]at j;simp_all
theorem SOk.kd(h:SOk c x):1<=x.az/\x.az<=7:=by
 have j:=h.wf;rw[tN,kh,pi]at j
 grind
def SOk.name(h:SOk c x)(z:x.az=1\/x.az=6):bS c.aO x.name<c.aO.length:=by
 have:=h.def.2.2.2;rw[mN]at this;rcases z with e|e<;>simp[e,tT]at this
 .exact u7 this
 .exact u7 this.1
theorem SOk.arr(h:SOk c x)(z:x.az=2):bS (c.ab.map (·.name)) x.name<c.ab.length:=by
 have:=h.def.2.2.2;rw[mN]at this;simp[z,tT,Sc.an]at this;have:=u7 this;simp_all
theorem SOk.call{x:St}(h:SOk c x)(z:x.az=6):0<=bW c.funcs x.to 0/\x.args.length=tQ ⟨c.ab,c.funcs⟩ x.to:=by
 have j:=h.def.2.2.2;have C:=h.ar;rw[mN]at j;simp[z,tT]at j;rw[zx]at C;simp only[bT,MM,pn,z]at C;simp[tT]at C
 grind
end
theorem Bk{c:Cx}:∀(n:Nat) (l:qJ) (b:qR),zf6 c l->2*bF l<n->b.length=c.aO.length->∃J,jK c.aO n l b=some J/\J.length=c.aO.length
 |0,l,b,_,h,_=>by omega
 |n+1,[],b,_,_,hb=>⟨b,rfl,hb⟩
 |n+1,x::l,b,L,h,hb=>by
  obtain⟨I,L⟩:=L.cons;rw[bF]at h;have j:=x.a9;unfold jK;simp only;rw[ah (fun q=>by have:=I.name q.1;omega)];have z:(if x.az=1\/x.az=6 then b.set (bS c.aO x.name) true else b).length=c.aO.length:=by split<;>simp[hb]
  obtain⟨Z,V,l2⟩:=Bk n x.bm _ I.bD.1 ac z;obtain⟨Y,O,l3⟩:=Bk n x.bO Z I.bD.2 ac l2;obtain⟨C,m,l4⟩:=Bk n l Y L ac l3;simp_all
theorem Vx{c:Cx}{np:Nat}{k:Int}{a:qA}:∀(m i:Nat) (s:Bd),LI c np s->IsT s.l 1 k->(∀y∈a,IsT s.l 1 y)->a.length=c.aO.length->i+m=c.aO.length->∃r,lK k a m i s=some r/\LI c np r/\r.l.length<=s.l.length+m
 |0,i,s,h,_,_,_,_=>⟨s,rfl,h,aG _⟩
 |m+1,i,s,h,hk,ha,hl,hi=>by
  have L:=h.vl;have j:i<a.length:=ac;have Z:i<s.vars.length:=ac;unfold lK;rw[aX j,aN,aX Z,aN];obtain⟨bt,J,I⟩:=Bj h hk (ha _ (dE j)) (h.v _ (dE Z)) (.inl rfl);have lv:=eB k a[i] s.vars[i] s;obtain⟨r,e,aq,r2⟩:=Vx m (i+1) { (a5 k a[i] s.vars[i] s).2 with vars:=(a5 k a[i] s.vars[i] s).2.vars.set i (a5 k a[i] s.vars[i] s).1} (bt.setV (fun y O=>by
   rcases uX O with O|rfl
   .exact bt.v y O
   .exact J) Nb) (hk.le lv.le.l) (fun y O=>(ha y O).le lv.le.l) hl ac
  grind
theorem Vy{c:Cx}{np:Nat}{k:Nat}(z:k<=15):∀(O:qG) (j:Nat) (s:Bd),LI c np s->j+O.length<=15->LI c np (fX (16*(k:Int)+1) O j s)/\(fX (16*(k:Int)+1) O j s).l.length<=s.l.length+O.length
 |[],j,s,h,_=>⟨h,aG _⟩
 |w::O,j,s,h,hj=>by
  rw[fc]at hj;have Y:(16*(k:Int)+1+j).tmod 16=1+j:=by
   rw[Vc ac];omega
  obtain⟨bt,J,I⟩:=k7 h (n:=⟨3,16*(k:Int)+1+j,[]⟩) (DT ac ac) (by split<;>decide) (jB _ _ aF fQ aB aF aF aF aF);rw[Y,ah ac]at J;unfold fX;obtain⟨aq,r2⟩:=Vy z O (j+1) { (aj ⟨3,16*(k:Int)+1+j,[]⟩ s).2 with vars:=(aj ⟨3,16*(k:Int)+1+j,[]⟩ s).2.vars.set w (aj ⟨3,16*(k:Int)+1+j,[]⟩ s).1} (bt.setV (fun y Z=>by
   rcases uX Z with Z|rfl
   .exact bt.v y Z
   .exact J) Nb) ac
  grind
theorem Vz{c:Cx}{np:Nat}{lp k:Int}{old:qA}{q:Nd}:∀(O:qG) (j:Nat) (s:Bd),LI c np s->IsT s.l 3 lp->s.l[lp.toNat]?=some q->IsT s.l 1 k->(∀y∈old,IsT s.l 1 y)->(∀w∈O,w<old.length)->1<=j->((j+O.length:Nat):Int)<=dy q.ak.length->j+O.length<=16 ->
 LI c np (fj lp k old O j s)/\(fj lp k old O j s).l.length<=s.l.length+2*O.length
 |[],j,s,h,_,_,_,_,_,_,_,_=>⟨h,aG _⟩
 |w::O,j,s,h,hlp,hq,hk,ho,hw,hj,hlv,h16=>by
  rw[fc]at hlv h16;obtain⟨bt,I,m3⟩:=k7 h (n:=⟨25,j,[lp]⟩) (Ih hlp hq ac ac) (by split<;>decide) (jB _ _ aF fQ aB aF aF aF aF);rw[ah ac]at I;have V:=b9 ⟨25,j,[lp]⟩ s;have m:=hw w dM;have L:old.getD w 0∈old:=by rw[dC,aX m];exact dE m
  obtain⟨dd,C,n3⟩:=Bj bt (hk.le V.le.l) I ((ho _ L).le V.le.l) (.inl rfl);have Y:=V.trans (eB k (aj ⟨25,j,[lp]⟩ s).1 (old.getD w 0) (aj ⟨25,j,[lp]⟩ s).2);unfold fj;simp only[];generalize a5 k (aj ⟨25,j,[lp]⟩ s).1 (old.getD w 0) (aj ⟨25,j,[lp]⟩ s).2=z at *;have J:z.2.l[lp.toNat]?=some q:=by
   obtain⟨t,ht⟩:=Y.le.l;rw[<-ht,nQ,hq];have:=hlp.hi;have:=hlp.lo;omega
  obtain⟨aq,r2⟩:=Vz (q:=q) (lp:=lp) (k:=k) (old:=old) O (j+1) {z.2 with vars:=z.2.vars.set w z.1} (dd.setV (fun y Z=>by
   rcases uX Z with Z|rfl
   .exact dd.v y Z
   .exact C) (by rw[iB];exact dd.vl)) (hlp.le Y.le.l) J (hk.le Y.le.l) (fun y Z=>(ho y Z).le Y.le.l) (fun y Z=>hw y (dh _ Z)) ac ac ac
  grind
def Eb(b:qR):(bD b).length<=b.length:=by
 have:=List.length_filter_le (fun i=>b.getD i false) (List.range b.length)
 rwa [List.length_range]at this
def Nn(c:Cx)(np n:Nat):Prop:=∀x s,SOk c x->2*x.sz<n->LI c np s->s.loops+dI x<=16->∃r,lL c n x s=some r/\LI c np r/\r.loops<=s.loops+dI x/\r.l.length<=s.l.length+64*x.sz
def Ec(c:Cx)(np n:Nat):Prop:=∀l s,zf6 c l->2*bF l<n->LI c np s->s.loops+eV l<=16->∃r,fH c n l s=some r/\LI c np r/\r.loops<=s.loops+eV l/\r.l.length<=s.l.length+64*bF l
def No(c:Cx)(np n:Nat):Prop:=∀x s,SOk c x->x.az=4->2*x.sz<=n->LI c np s->s.loops+dI x<=16->∃r,mn c n x s=some r/\LI c np r/\r.loops<=s.loops+dI x/\r.l.length<=s.l.length+64*x.sz
theorem zjq(hc:zd4 c){np n:Nat}(IS:Ec c np n):No c np (n+1):=fun x s hx hk hsz h hw=>by
 have hs:=x.a9;have hw1:=xH x;rw[ai hk]at hw1;have hv:=hx.value (.inr (.inr (.inr (.inl hk))));unfold mn;obtain⟨r,hr,Y,p2,p3⟩:=u9 hc n x.value {s with loops:=s.loops+1} hv ac (h.dX _);have lr:=cD c n _ _ _ hr;have hrn:r.2.loops=s.loops+1:=lr.n;obtain⟨b,hb,hbl⟩:=Bk n x.bm (List.replicate r.2.vars.length false) hx.bD.1 ac (by rw[j9];exact Y.vl);rw[hr,aN,hb,aN];simp only[];have hwl:=Eb b;have hnl:=hc.nl;have j:∀i∈bD b,i<r.2.vars.length:=fun i J=>by have:=Bf J;have:=Y.vl;omega
 generalize bD b=O at *;have hm:(16*(s.loops:Int)).tmod 16=0:=LV;obtain⟨q1,q2,q3⟩:=k7 Y (n:=⟨3,16*(s.loops:Int),[]⟩) (DT ac ac) (by split<;>decide) (jB _ _ aF fQ aB aF aF aF aF);rw[hm,ai rfl]at q2;have lq:=b9 ⟨3,16*(s.loops:Int),[]⟩ r.2;generalize aj ⟨3,16*(s.loops:Int),[]⟩ r.2=q at *;obtain⟨u1,u2⟩:=Vy (k:=s.loops) ac O 0 {q.2 with aa:=q.1} (q1.setS q2) ac;have lu:=r4 (16*(s.loops:Int)+1) O 0 {q.2 with aa:=q.1};generalize fX (16*(s.loops:Int)+1) O 0 {q.2 with aa:=q.1}=u at *;have hun:u.loops=s.loops+1:=Nc;obtain⟨t,ht,t1,t2,t3⟩:=IS x.bm u hx.bD.1 ac u1 ac;have lt:=(jl c n).2.1 _ _ _ ht;rw[ht,aN];obtain⟨d,hd,d1,d2,d3⟩:=u9 hc n x.value t hv ac t1;have ld:=cD c n _ _ _ hd;rw[hd,aN];have C:eD r.2 d.2:=(lq.le.setS q.1).trans (lu.1.trans (lt.1.trans ld.le));have Z:∀y∈r.2.vars,IsT d.2.l 1 y:=fun y I=>(Y.v y I).le C.l;have ho:∀a∈O.map fun i=>r.2.vars.getD i 0,IsT d.2.l 1 a:=fun a ha=>by
  obtain⟨i,J,rfl⟩:=so.1 ha;rw[dC,aX (j i J)];exact Z _ (dE _)
 have hn:∀a∈O.map fun i=>d.2.vars.getD i 0,IsT d.2.l 1 a:=fun a ha=>by
  obtain⟨i,J,rfl⟩:=so.1 ha;have:=j i J;have e1:=d1.vl;have e2:=Y.vl;rw[dC,aX (show i<d.2.vars.length by omega)];exact d1.v _ (dE _)
 have V:(r.2.aa::(O.map fun i=>r.2.vars.getD i 0)++[d.1,d.2.aa]++O.map fun i=>d.2.vars.getD i 0).length=2*O.length+3:=cZ;obtain⟨k1,k2,ee⟩:=k7 d1 (n:=⟨31,s.loops,r.2.aa::(O.map fun i=>r.2.vars.getD i 0)++[d.1,d.2.aa]++O.map fun i=>d.2.vars.getD i 0⟩) (UO (Y.st.le C.l) ho d2 d1.st hn aB cZ ac ac) aF (jB _ _ aF fQ (by rw[V];omega) aF aF aF aF);have lk:=b9 ⟨31,s.loops,r.2.aa::(O.map fun i=>r.2.vars.getD i 0)++[d.1,d.2.aa]++O.map fun i=>d.2.vars.getD i 0⟩ d.2;have hq:(aj ⟨31,s.loops,r.2.aa::(O.map fun i=>r.2.vars.getD i 0)++[d.1,d.2.aa]++O.map fun i=>d.2.vars.getD i 0⟩ d.2).2.l[(aj ⟨31,s.loops,r.2.aa::(O.map fun i=>r.2.vars.getD i 0)++[d.1,d.2.aa]++O.map fun i=>d.2.vars.getD i 0⟩ d.2).1.toNat]?=some ⟨31,s.loops,r.2.aa::(O.map fun i=>r.2.vars.getD i 0)++[d.1,d.2.aa]++O.map fun i=>d.2.vars.getD i 0⟩:=Ie _ _;generalize aj ⟨31,s.loops,r.2.aa::(O.map fun i=>r.2.vars.getD i 0)++[d.1,d.2.aa]++O.map fun i=>d.2.vars.getD i 0⟩ d.2=k at *;have hlv:dy (2*O.length+3:Nat)=((O.length+1:Nat):Int):=CO;have k1':=k1.setV (x:=r.2.vars) (fun y I=>(Z y I).le lk.le.l) Y.vl;obtain⟨f1,f2,f3⟩:=k7 k1' (n:=⟨25,0,[k.1]⟩) (Ih (n:=0) k2 hq ac (by rw[V,hlv];omega)) aF (jB _ _ aF fQ aB aF aF aF aF);rw[ai rfl]at f2;have lf:=b9 ⟨25,0,[k.1]⟩ {k.2 with vars:=r.2.vars};have L:r.2.l<+:(aj ⟨25,0,[k.1]⟩ {k.2 with vars:=r.2.vars}).2.l:=(C.l.trans lk.le.l).trans lf.le.l;have hfv:(aj ⟨25,0,[k.1]⟩ {k.2 with vars:=r.2.vars}).2.vars=r.2.vars:=lf.v;obtain⟨bt,m2,m3⟩:=Bj f1 (p2.le L) f2 (Y.st.le L) (.inr rfl);have lm:=eB r.1 (aj ⟨25,0,[k.1]⟩ {k.2 with vars:=r.2.vars}).1 r.2.aa (aj ⟨25,0,[k.1]⟩ {k.2 with vars:=r.2.vars}).2;generalize aj ⟨25,0,[k.1]⟩ {k.2 with vars:=r.2.vars}=f at *;generalize a5 r.1 f.1 r.2.aa f.2=m at *;have lkm:k.2.l<+:m.2.l:=lf.le.l.trans lm.le.l;have hqm:m.2.l[k.1.toNat]?=some ⟨31,s.loops,r.2.aa::(O.map fun i=>r.2.vars.getD i 0)++[d.1,d.2.aa]++O.map fun i=>d.2.vars.getD i 0⟩:=by
  obtain⟨z,hz⟩:=lkm;rw[<-hz,nQ,hq];have:=k2.hi;have:=k2.lo;omega
 obtain⟨z1,z2⟩:=Vz (lp:=k.1) (k:=r.1) (old:=r.2.vars) O 1 {m.2 with aa:=m.1} (bt.setS m2) (k2.le lkm) hqm (p2.le (L.trans lm.le.l)) (fun y I=>(Y.v y I).le (L.trans lm.le.l)) j (aG _) (by rw[V,hlv];omega) ac;have lz:=uU k.1 r.1 r.2.vars O 1 {m.2 with aa:=m.1};refine⟨_,rfl,z1,?_,?_⟩
 .rw[lz.2.2.2];show m.2.loops<=_;rw[lm.n,lf.n];show k.2.loops<=_;rw[lk.n,ld.n];omega
 grind
theorem zjr(L:zd4 c){np n:Nat}(IS:Ec c np n)(IW:No c np n):Nn c np (n+1):=fun x s I hsz h hw=>by
 have hs:=x.a9;have hw1:=xH x;have hkd:=I.kd;unfold lL;by_cases k1:x.az=1
 .rw[ai k1];obtain⟨r,hr,Y,Z,p3⟩:=u9 L n x.value s (I.value (.inl k1)) ac h;have J:=cD c n _ _ _ hr;have hn:=I.name (.inl k1);have hvl:=Y.vl;rw[hr,aN,ai ac];exact⟨_,rfl,Y.setV (fun y O=>by
   rcases uX O with O|rfl
   .exact Y.v y O
   .exact Z) aU,by show r.2.loops<=_;rw[J.n];omega,Bg⟩
 rw[ah k1];by_cases k2:x.az=2
 .rw[ai k2];obtain⟨r,hr,Y,Z,p3⟩:=u9 L n x.bz s (I.bz k2) ac h
  obtain⟨v,hv,q1,q2,q3⟩:=u9 L n x.value r.2 (I.value (.inr (.inl k2))) ac Y;have J:=cD c n _ _ _ hr;have lv:=cD c n _ _ _ hv;have hlt:=I.arr k2;rw[hr,aN,hv,aN,aX hlt,aN];have ha:=L.a _ (dE hlt);generalize c.ab[bS (c.ab.map (·.name)) x.name]=ar at ha⊢;have p2':=Z.le lv.le.l;obtain⟨aI,a6⟩:=Vo q1 (n:=ar.len) fQ p2';have lc:=pX ar.len r.1 v.2;obtain⟨j,V,b3⟩:=Vq L aI (p2'.le lc.le.l) (q2.le lc.le.l) hlt;exact⟨_,rfl,j.setS V,by show(dS ar.len r.1 v.2).loops<=_;rw[lc.n,lv.n,J.n];omega,Bg⟩
 rw[ah k2];by_cases ee:x.az=3
 .rw[ai ee];rw[ah ac]at hw1;obtain⟨r,hr,Y,Z,p3⟩:=u9 L n x.value s (I.value (.inr (.inr (.inl ee)))) ac h;have J:=cD c n _ _ _ hr;have hrn:=J.n;obtain⟨a,ha,aI,a6,cp⟩:=IS x.bm r.2 I.bD.1 ac Y ac;have la:=(jl c n).2.1 _ _ _ ha;have hal:a.vars.length=c.aO.length:=aI.vl;obtain⟨b,hb,j,V,b3⟩:=IS x.bO {a with aa:=r.2.aa,vars:=r.2.vars} I.bD.2 ac ((aI.setS (Y.st.le la.1.l)).setV (fun y O=>(Y.v y O).le la.1.l) Y.vl) (by show a.loops+_<=_;omega);have lb:=(jl c n).2.1 _ _ _ hb;have lab:a.l<+:b.l:=lb.1.l;have kb:IsT b.l 1 r.1:=(Z.le la.1.l).le lab;have hbl:=j.vl;obtain⟨m,hm,bt,m2⟩:=Vx (k:=r.1) (a:=a.vars) b.vars.length 0 b j kb (fun y O=>(aI.v y O).le lab) hal ac;have lm:=uT _ _ _ _ _ _ hm;rw[hr,aN,ha,aN,hb,aN,hm,aN];obtain⟨t1,t2,t3⟩:=Bj bt (kb.le lm.1.l) ((aI.st.le lab).le lm.1.l) bt.st (.inr rfl);have lt:=eB r.1 a.aa m.aa m;have hnl:=L.nl;refine⟨_,rfl,t1.setS t2,?_,?_⟩
  .show(a5 r.1 a.aa m.aa m).2.loops<=_;rw[lt.n,lm.2.2.2];simp only at V;omega
  grind
 rw[ah ee];by_cases fm:x.az=4
 .rw[ai fm];exact IW x s I fm ac h hw
 rw[ah fm];by_cases dF:x.az=5
 .rw[ai dF];obtain⟨r,hr,Y,Z,p3⟩:=u9 L n x.value s (I.value (.inr (.inr (.inr (.inr dF))))) ac h;have J:=cD c n _ _ _ hr;rw[hr,aN];obtain⟨j,V,b3⟩:=zjm Y Z;exact⟨_,rfl,j.setS V,by show r.2.loops<=_;rw[J.n];omega,Bg⟩
 rw[ah dF];by_cases k6:x.az=6
 .rw[ai k6];obtain⟨r,hr,Y,Z,p3⟩:=Vt L (n:=n) x.args s I.args ac h;obtain⟨J,hlr⟩:=r3 c n _ _ _ hr;obtain⟨c1,c2⟩:=I.call k6;obtain⟨i,hi,hfe⟩:=A4 c.funcs x.to 0 c1;obtain⟨f,hfn⟩:=oq c.funcs hi;have C:bW c.funcs x.to 0=(i:Int):=by simpa using hfe
  have hn:=I.name (.inr k6);have hvl:=Y.vl;have hpar:r.1.length=f.params.length:=by
   rw[hlr,c2,tQ,C,eM,hfn];rfl
  rw[hr,aN,ai ⟨c1,ac⟩];simp only[];rw[C];obtain⟨j,V,b3⟩:=Vr L Y Z hfn hpar;have lb:=b9 ⟨30,i,r.2.aa::r.1⟩ r.2;generalize aj ⟨30,i,r.2.aa::r.1⟩ r.2=z at *;obtain⟨d1,d2,d3⟩:=zjn (j.setS V) V;have ld:=b9 ⟨24,0,[z.1]⟩ {z.2 with aa:=z.1};generalize aj ⟨24,0,[z.1]⟩ {z.2 with aa:=z.1}=w at *;refine⟨_,rfl,d1.setV (fun y O=>?_) (by rw[iB];exact d1.vl),?_,?_⟩
  .rcases uX O with O|rfl
   .exact d1.v y O
   .exact d2
  .show w.2.loops<=_;rw[ld.n];show z.2.loops<=_;rw[lb.n,J.n];omega
  grind
 rw[ah k6];by_cases iU:x.az=7
 .rw[ai iU];have ht:=I.eY iU;have hw:cy (16+x.n)=16+x.n:=fN ac ac;rw[hw];obtain⟨aI,a6,cp⟩:=D9 h (n:=0) fQ;obtain⟨j,V⟩:=Nl aI (t:=16+x.n) a6 ac ac;have lb:=r1 (16+x.n) (aj ⟨1,0,[]⟩ s).1 (aj ⟨1,0,[]⟩ s).2;exact⟨_,rfl,j,by rw[lb.n];show s.loops<=_;omega,ac⟩
 .omega
theorem zjs{np n:Nat}(O:Nn c np n)(z:Ec c np n):Ec c np (n+1):=fun l s L J h hw=>by
 cases l with
 |nil=>exact⟨s,by unfold fH;rfl,h,ac,ac⟩
 |cons x l=>
  obtain⟨I,L⟩:=L.cons;rw[bF]at J⊢;rw[eV]at hw⊢;unfold fH;simp only[];obtain⟨r,hr,Y,Z,V⟩:=O x s I ac h ac;obtain⟨t,m,q1,q2,j⟩:=z l r L ac Y ac
  grind
theorem VA{c:Cx}(L:zd4 c){np:Nat}:∀n:Nat,Nn c np n/\Ec c np n/\No c np n
 |0=>⟨fun x s _ h=>ac,fun l s _ h=>ac,fun x s I _ h=>by have:=x.a9;omega⟩
 |n+1=>by
  obtain⟨a,b,d⟩:=VA L (np:=np) n;exact⟨zjr L b d,zjs a b,zjq L b⟩
section
variable {A:qT} {F:qV} {np:Nat}
def NdP.aO{x:Nd}(h:NdP ⟨A,F,N⟩ np x):NdP ⟨A,F,j⟩ np x:=⟨h.op,h.aP,h.len,h.pa,h.ar,h.fn⟩
def LI.aO(h:LI ⟨A,F,N⟩ np s)(L:j.length=N.length):LI ⟨A,F,j⟩ np s:=⟨h.nd,h.wf,fun x I=>(h.p x I).aO,h.v,h.vl.trans L.symm,h.st⟩
theorem LI.push(h:LI ⟨A,F,N⟩ np s){x:Int}(I:IsT s.l 1 x)(L:j.length=N.length+1):LI ⟨A,F,j⟩ np {s with vars:=s.vars++[x] }:=
 ⟨h.nd,h.wf,fun y O=>(h.p y O).aO,fun y O=>by
  rcases uk.1 O with O|O
  .exact h.v y O
  simp_all,by
  have:=h.vl;simp_all,h.st⟩
theorem Np(O:np<=6):∀(m k:Nat) (s:Bd) (N j:List aY),LI ⟨A,F,N⟩ np s->j.length=N.length+m->k+m<=np->LI ⟨A,F,j⟩ np (gH m k s)/\(gH m k s).loops=s.loops/\(gH m k s).l.length<=s.l.length+m
 |0,k,s,N,j,h,hl,_=>⟨h.aO hl,rfl,aG _⟩
 |m+1,k,s,N,j,h,hl,hk=>by
  obtain⟨aI,a6,cp⟩:=k7 h (n:=⟨2,k,[]⟩) (UD ac ac) aF ⟨aU,D2,aU,fun _=>cU,fun e=>aU,fun e=>absurd e aU⟩;obtain⟨Z,z,Y⟩:=Np O m (k+1) { (aj ⟨2,k,[]⟩ s).2 with vars:=(aj ⟨2,k,[]⟩ s).2.vars++[(aj ⟨2,k,[]⟩ s).1] } ([]::N) j (aI.push a6 rfl) cU ac;exact⟨Z,z,by have V:(gH (m+1) k s).l.length<=(aj ⟨2,k,[]⟩ s).2.l.length+m:=Y;omega⟩
theorem Nq:∀(m:Nat) (s:Bd) (N j:List aY),LI ⟨A,F,N⟩ np s->j.length=N.length+m->LI ⟨A,F,j⟩ np (iS m s)/\(iS m s).loops=s.loops/\(iS m s).l.length<=s.l.length+m
 |0,s,N,j,h,hl=>⟨h.aO hl,rfl,aG _⟩
 |m+1,s,N,j,h,hl=>by
  obtain⟨aI,a6,cp⟩:=D9 h (n:=0) fQ;obtain⟨Z,z,Y⟩:=Nq m { (aj ⟨1,0,[]⟩ s).2 with vars:=(aj ⟨1,0,[]⟩ s).2.vars++[(aj ⟨1,0,[]⟩ s).1] } ([]::N) j (aI.push a6 rfl) cU;exact⟨Z,z,by have V:(iS (m+1) s).l.length<=(aj ⟨1,0,[]⟩ s).2.l.length+m:=Y;omega⟩
def Nr:LI ⟨A,F,[]⟩ np { (aj ⟨26,0,[]⟩ ⟨[],[],0,0⟩).2 with aa:=(aj ⟨26,0,[]⟩ ⟨[],[],0,0⟩).1}:=by
 obtain⟨a,b⟩:=M5 (l:=[]) (n:=⟨26,0,[]⟩) (fun i O=>by simp at O) UE aF;refine⟨Vm List.nodup_nil,b,fun x I=>?_,(fun y Z=>by cases Z),rfl,a⟩;rcases(uS (l:=[]) (n:=⟨26,0,[]⟩)).1 I with I|rfl
 .cases I
 .exact jB _ _ aF fQ aB aF aF aF aF
end
structure zf4 (p:Pr):Prop where
 ck:fP p=0
 rg:∀f∈p.funcs,kN f.body/\kx f.value
theorem Nt{p:Pr}(h:fP p=0):k3 p=false/\mM p=true/\nK p=false/\p.funcs.any (kq p)=false/\p.funcs.any (mg p)=false:=by
 unfold fP at h
 grind
theorem Iy{J:Type}{l:List J}{p:J->Bool}(h:l.any p=false){x:J}(I:x∈l):p x=false:=by
 simp_all
theorem zf4.e9{p:Pr}(h:zf4 p):(∀a∈p.ab,1<=a.len/\a.len<=16)/\p.ab.length<=4/\p.funcs.length<=8/\∀f∈p.funcs,f.params.length<=6/\f.aK.length<=8/\eV f.body<=16:=by
 have I:=(Nt h.ck).1;unfold k3 at I;simp only[jG,oP]at I;obtain⟨⟨⟨j,Y⟩,C⟩,Z⟩:=I;refine⟨fun a m=>?_,ac,ac,fun f z=>?_⟩
 .have:=Iy C m;unfold wi at this;simp_all
 .have:=Iy Z z;unfold rX at this
  grind
theorem zf4.cx{p:Pr}(h:zf4 p)(z:f∈p.funcs):zd4 (bu p f):=by
 obtain⟨j,m,C,Z⟩:=h.e9;have:=Z f z;exact⟨j,m,C,fun g hg=>(Z g hg).1,by show(f.params++f.aK).length<=14;grind⟩
def zf4.body{p:Pr}(h:zf4 p)(z:f∈p.funcs):zf6 (bu p f) f.body/\XOk (bu p f) f.value:=by
 obtain⟨_,m,_,Z,Y⟩:=Nt h.ck;unfold mM at m;rw[bT,js,js]at m;have w:=m.2 f z;have u:=Iy Z z;have b:=Iy Y z;unfold rY at w;unfold kq at u;unfold mg at b;simp only[bT,kY]at w u b;obtain⟨aq,r2⟩:=h.rg f z;exact⟨⟨w.1.2,u.1,b,aq⟩,⟨w.2,u.2,r2⟩⟩
theorem Nu{p:Pr}(h:zf4 p){n:Nat}(hn:2*p.sz<n)(z:f∈p.funcs):
 ∃s v,fH (bu p f) n f.body (i9 f)=some s/\ei (bu p f) n f.value s=some v/\LI (bu p f) f.params.length v.2/\IsT v.2.l 1 v.1/\v.2.loops<=16/\v.2.l.length<=64*p.sz:=by
 obtain⟨_,_,_,Z⟩:=h.e9;obtain⟨l1,l2,l3⟩:=Z f z;obtain⟨hb,j⟩:=h.body z;have hc:=h.cx z;have L:=uy z;have J:p.sz=1+jt p.ab+iA p.funcs:=rfl;have I:f.sz=1+f.name.length+gl f.params+gl f.aK+bF f.body+f.value.sz:=rfl;have C:=Nr (A:=p.ab) (F:=p.funcs) (np:=f.params.length);obtain⟨aI,a6,cp⟩:=Np l1 f.params.length 0 _ [] f.params C aB ac;obtain⟨Y,V,O⟩:=Nq f.aK.length _ f.params (f.params++f.aK) aI aU;have m:LI (bu p f) f.params.length (i9 f):=Y;have hs2:(i9 f).loops=0:=V.trans a6;have hs3:(i9 f).l.length<=15:=by
  have e1:(i9 f).l.length<=(gH f.params.length 0 { (aj ⟨26,0,[]⟩ ⟨[],[],0,0⟩).2 with aa:=(aj ⟨26,0,[]⟩ ⟨[],[],0,0⟩).1}).l.length+f.aK.length:=O;have e2:(gH f.params.length 0 { (aj ⟨26,0,[]⟩ ⟨[],[],0,0⟩).2 with aa:=(aj ⟨26,0,[]⟩ ⟨[],[],0,0⟩).1}).l.length<=1+f.params.length:=cp;omega
 obtain⟨s,q1,q2,q3,q4⟩:=(VA hc (np:=f.params.length) n).2.1 f.body (i9 f) hb ac m ac;obtain⟨v,aq,r2,r8,wI⟩:=u9 hc n f.value s j ac q2;have lv:=cD _ n _ _ _ aq;exact⟨s,v,q1,aq,r2,r8,by rw[lv.n];omega,ac⟩
def LI.a4{np:Nat}(h:LI c np s)(L:s.l.length<2^36)(J:s.loops<=16):Fin s:=by
 refine⟨fun x I=>?_,L,ac⟩;have hp:=h.p x I;obtain⟨i,O,e⟩:=z9 I;have hg:s.l[i]?=some x:=aU;have hw:=h.wf i O;rw[yS O]at hw;obtain⟨t,z,_,_⟩:=GH hg hw;refine⟨hp.op,hp.aP,fun k Y=>?_,by have:=hp.len;omega⟩;have:=xh z k Y;omega
def zjt{p:Pr}(h:zf4 p)(Y:p.sz<2^30){n:Nat}(J:2*p.sz<n):Nk p n:=fun f z=>by
 obtain⟨s,v,j,m,C,V,Z,O⟩:=Nu h J z;exact⟨s,v,j,m,C.a4 ac Z⟩
def jn(l:qF)(A:Nat->Prop)(k:Int):Prop:=∀t,(iR l k).testBit t=true->A t
theorem Bl(l:qF):∀{i j:Nat},j<i->(cA l i).getD j 0=(match l[j]? with|some n=>mI n (cA l j)|none=>0)
 |0,j,h=>by omega
 |i+1,j,h=>by
  rw[cA];by_cases e:j<i
  .rw[GK (by rw[rI];exact e)];exact Bl l e
  .obtain rfl:j=i:=by omega
   rw[GL (rI l j).symm]
   grind
theorem VB{l m:qF}:∀{i:Nat},i<=l.length->cA (l++m) i=cA l i
 |0,_=>rfl
 |i+1,h=>by
  have ih:=VB (l:=l) (m:=m) (i:=i) ac;rw[cA,cA,ih,nQ ac]
theorem VC{n:Nd}{h C:qG}:∀(L:qA) (j m:Nat),(∀k∈L,h.getD k.toNat 0=C.getD k.toNat 0)->kV n h j L m=kV n C j L m
 |[],j,m,_=>rfl
 |k::L,j,m,e=>by
  rw[kV,kV,VC L _ _ fun q J=>e q (dh _ J)];unfold oN;simp_all
theorem zju{i:Nat}{n:Nd}(J:l[i]?=some n)(z:∀k∈n.ak,0<=k/\k<i):iR l i=mI n (cA l l.length):=by
 have O:i<l.length:=by
  grind
 unfold iR;rw[eM,Bl l O,J];simp only;unfold mI;refine VC _ _ _ fun k Y=>?_;have:=z k Y;rw[Bl l (show k.toNat<i by omega),Bl l (show k.toNat<l.length by omega)]
theorem VD{m:qF}{k:Int}(L:0<=k)(j:k<l.length):iR (l++m) k=iR l k:=by
 unfold iR;rw[Bl _ (show k.toNat<(l++m).length by grind),Bl _ (show k.toNat<l.length by omega),nQ ac,VB ac]
def jn.le{k:Int}(h:jn l A k)(L:0<=k)(j:k<l.length)(Y:l<+:C):jn C A k:=by
 obtain⟨m,rfl⟩:=Y;intro t Z;rw[VD L j]at Z;exact h t Z
def jn.mono{k:Int}(h:jn l A k)(V:∀t,A t->B t):jn l B k:=fun t m=>V t (h t m)
theorem zjv{n:Nd}{h:qG}(C:n.op=3->A (n.aP.tdiv 16).toNat)(z:∀(j:Nat) (k:Int),n.ak[j]?=some k->∀t,(h.getD k.toNat 0).testBit t=true->A t\/(n.op=31/\dy n.ak.length<=j/\t=n.aP.toNat))(t:Nat)(m:(mI n h).testBit t=true):A t:=by
 unfold mI at m;rw[CQ,nU]at m;rcases m with m|m
 .grind
 .obtain⟨⟨k,j⟩,Y,hb⟩:=At.1 m;have hg:n.ak[j]?=some k:=by
   have:=Qp.1 Y;simpa using this
  simp only at hb;unfold oN at hb;split at hb
  .rename_i c;rw[Ax,bT,Ay]at hb;rcases z j k hg t hb.1 with a|⟨_,_,e⟩
   .exact a
   .rw[e]at hb;simp at hb
  grind
def zjw{n:Nd}(h:fY l n≠0):∀k∈n.ak,0<=k/\k<l.length:=by
 unfold fY at h;split at h
 .omega
 .rename_i s V;intro k z;have:=xh V k z;omega
def Eg{n:Nd}(L:DU l)(O:fY l n≠0)(z:n.op=3->A (n.aP.tdiv 16).toNat)(hk:∀(j:Nat) (k:Int),n.ak[j]?=some k->∀t,(iR l k).testBit t=true->A t\/(n.op=31/\dy n.ak.length<=j/\t=n.aP.toNat)):jn (ku l n) A (fG l n):=by
 obtain⟨a,b⟩:=M5 L rfl O;have hg:=Ie l n;have C:=zir l n;have J:=b _ C;rw[yS C]at J;obtain⟨s,h1,_,_⟩:=GH hg J;have Z:=xh h1;intro t V;rw[zju hg fun k Y=>⟨(Z k Y).1,(Z k Y).2.1⟩]at V;refine zjv z (fun j k I t V=>?_) t V;have hr:=zjw O k (cV I);obtain⟨m,Y⟩:=wn l n;refine hk j k I t ?_;rw[<-VD (m:=m) hr.1 hr.2,Y];exact V
def Eh{n:Nd}(Z:DU l)(V:fY l n≠0)(C:n.op≠3)(z:∀k∈n.ak,jn l A k):jn (ku l n) A (fG l n):=
 Eg Z V (fun e=>absurd e C) fun j k I t m=>.inl (z k (cV I) t m)
structure IsM (A:Nat->Prop) (l:qF) (t k:Int):Prop where
 i:IsT l t k
 m:jn l A k
def IsM.le{k:Int}(h:IsM A l t k)(L:l<+:C):IsM A C t k:=⟨h.i.le L,h.m.le h.i.lo h.i.hi L⟩
def IsM.mono{t k:Int}(h:IsM A l t k)(V:∀t,A t->B t):IsM B l t k:=⟨h.i,h.m.mono V⟩
structure LG (c:Cx) (np:Nat) (A:Nat->Prop) (s:Bd):Prop where
 i:LI c np s
 v:∀y∈s.vars,IsM A s.l 1 y
 st:IsM A s.l 2 s.aa
structure Ql (s r:Bd):Prop where
 q:∀x∈r.l,x∈s.l\/(x.op≠3/\x.op≠31)
def Ql.refl(s:Bd):Ql s s:=⟨fun x h=>.inl h⟩
def zL:=@Ql.refl
def Ql.trans{a b d:Bd}(h:Ql a b)(k:Ql b d):Ql a d:=⟨fun x I=>(k.q x I).elim (fun m=>h.q x m) .inr⟩
def Ql.setS{a b:Bd}(h:Ql a b)(x:Int):Ql a {b with aa:=x}:=⟨h.q⟩
def Ql.ofS{a b:Bd}{x:Int}(h:Ql {a with aa:=x} b):Ql a b:=⟨h.q⟩
section
variable {c:Cx} {np:Nat} {A:Nat -> Prop} {s:Bd}
def LG.setS(h:LG c np A s){x:Int}(I:IsM A s.l 2 x):LG c np A {s with aa:=x}:=⟨h.i.setS I.i,h.v,I⟩
def LG.setV(h:LG c np A s){x:qA}(I:∀y∈x,IsM A s.l 1 y)(L:x.length=c.aO.length):LG c np A {s with vars:=x}:=⟨h.i.setV (fun y O=>(I y O).i) L,I,h.st⟩
def LG.dX(h:LG c np A s)(x:Nat):LG c np A {s with loops:=x}:=⟨h.i.dX x,h.v,h.st⟩
def LG.mono(h:LG c np A s)(V:∀t,A t->B t):LG c np B s:=⟨h.i,fun y O=>(h.v y O).mono V,h.st.mono V⟩
def LG.put(h:LG c np A s){n:Nd}(m:LI c np (aj n s).2):LG c np A (aj n s).2:=⟨m,fun y O=>(h.v y O).le (wn _ _),h.st.le (wn _ _)⟩
def Iz(s:Bd){n:Nd}(Z:n.op≠3)(C:n.op≠31):Ql s (aj n s).2:=⟨fun x I=>by
 rcases uS.1 I with I|rfl
 .exact .inl I
 omega⟩
def vc(h:LG c np A s){n:Nd}(V:fY s.l n=t)(m:t≠0)(Y:NdP c np n)(Z:n.op≠3)(C:n.op≠31)(z:∀k∈n.ak,jn s.l A k):LG c np A (aj n s).2/\IsM A (aj n s).2.l t (aj n s).1/\Ql s (aj n s).2:=by
 obtain⟨a,b,_⟩:=k7 h.i V m Y;exact⟨h.put a,⟨b,Eh h.i.wf (by rw[V];exact m) Z z⟩,Iz s Z C⟩
theorem IA{a:Int}(h:jn l A a):∀k∈[a],jn l A k:=fun k z=>by
 simp_all
theorem IB{a:Int}(h:jn l A a)(m:jn l A b):∀k∈[a,b],jn l A k:=fun k z=>by
 grind
theorem VE{a d:Int}(h:jn l A a)(m:jn l A b)(C:jn l A d):∀k∈[a,b,d],jn l A k:=fun k z=>by
 grind
def Bm(h:LG c np A s){k a:Int}(z:IsM A s.l 1 k)(m:IsM A s.l t a)(hb:IsM A s.l t b)(Z:t=1\/t=2):LG c np A (a5 k a b s).2/\IsM A (a5 k a b s).2.l t (a5 k a b s).1/\Ql s (a5 k a b s).2:=by
 unfold a5;split
 .exact⟨h,m,zL s⟩
 .exact vc h (UH z.i m.i hb.i Z) ac (jB _ _ aF fQ aB aF aF aF aF) aB aB (VE z.m m.m hb.m)
def Nv(h:LG c np A s){v:Int}(j:IsM A s.l 1 v)(L:1<=t)(Z:t<=1000016):LG c np A (kM t v s)/\Ql s (kM t v s):=by
 have:=vc h (n:=⟨27,t,[s.aa,v]⟩) (UJ h.st.i j.i L Z) aF (jB _ _ aF fQ aB aF aF aF aF) aB aB (IB h.st.m j.m);exact⟨this.1.setS this.2.1,this.2.2.setS _⟩
def Ei(h:LG c np A s){n:Int}(J:cX n):LG c np A (aj ⟨1,n,[]⟩ s).2/\IsM A (aj ⟨1,n,[]⟩ s).2.l 1 (aj ⟨1,n,[]⟩ s).1/\Ql s (aj ⟨1,n,[]⟩ s).2:=
 vc h (UC n) aF (jB _ _ aF J aB aF aF aF aF) aB aB aB
def IC(h:LG c np A s){op a:Int}(m:IsM A s.l 1 a)(hb:IsM A s.l 1 b)(L:4<=op)(j:op<=19):LG c np A (aj ⟨op,0,[a,b]⟩ s).2/\IsM A (aj ⟨op,0,[a,b]⟩ s).2.l 1 (aj ⟨op,0,[a,b]⟩ s).1/\Ql s (aj ⟨op,0,[a,b]⟩ s).2:=
 vc h (UF m.i hb.i L j) aF (jB _ _ ac fQ aB ac ac ac ac) cU cU (IB m.m hb.m)
def VF(h:LG c np A s){n i:Int}(J:cX n)(O:IsM A s.l 1 i):LG c np A (dS n i s)/\Ql s (dS n i s):=by
 obtain⟨aI,a6,cp⟩:=Ei h J;have C:=O.le (b9 ⟨1,n,[]⟩ s).le.l;obtain⟨j,z,Y⟩:=IC aI (op:=19) C a6 aF aF;obtain⟨c1,c2⟩:=Nv j (t:=2) z aF aF;exact⟨c1,cp.trans (Y.trans c2)⟩
def zjx(h:LG c np A s){i:Int}(O:IsM A s.l 1 i):LG c np A (lJ i s)/\Ql s (lJ i s):=by
 obtain⟨aI,a6,cp⟩:=Ei h (n:=0) fQ;have C:=O.le (b9 ⟨1,0,[]⟩ s).le.l;obtain⟨j,z,Y⟩:=IC aI (op:=16) C a6 aF aF;obtain⟨c1,c2⟩:=Nv j (t:=1) z aF aF;exact⟨c1,cp.trans (Y.trans c2)⟩
def zjy(L:zd4 c)(h:LG c np A s){i:Int}(O:IsM A s.l 1 i)(z:k<c.ab.length):LG c np A (aj ⟨23,k,[s.aa,i]⟩ s).2/\IsM A (aj ⟨23,k,[s.aa,i]⟩ s).2.l 1 (aj ⟨23,k,[s.aa,i]⟩ s).1/\Ql s (aj ⟨23,k,[s.aa,i]⟩ s).2:=by
 obtain⟨a,b,_⟩:=Vp L h.i O.i z;have al:=L.al;exact⟨h.put a,⟨b,Eh h.i.wf (by rw[UI h.st.i O.i ac ac];decide) aU (IB h.st.m O.m)⟩,Iz s aU aU⟩
def zjz(L:zd4 c)(h:LG c np A s){i v:Int}(O:IsM A s.l 1 i)(j:IsM A s.l 1 v)(z:k<c.ab.length):LG c np A (aj ⟨28,k,[s.aa,i,v]⟩ s).2/\IsM A (aj ⟨28,k,[s.aa,i,v]⟩ s).2.l 2 (aj ⟨28,k,[s.aa,i,v]⟩ s).1/\Ql s (aj ⟨28,k,[s.aa,i,v]⟩ s).2:=by
 obtain⟨a,b,_⟩:=Vq L h.i O.i j.i z;have al:=L.al;exact⟨h.put a,⟨b,Eh h.i.wf (by rw[UL h.st.i O.i j.i ac ac];decide) aU (VE h.st.m O.m j.m)⟩,Iz s aU aU⟩
def zjA(h:LG c np A s){v:Int}(j:IsM A s.l 1 v):LG c np A (aj ⟨29,0,[s.aa,v]⟩ s).2/\IsM A (aj ⟨29,0,[s.aa,v]⟩ s).2.l 2 (aj ⟨29,0,[s.aa,v]⟩ s).1/\Ql s (aj ⟨29,0,[s.aa,v]⟩ s).2:=
 vc h (UK h.st.i j.i) aF (jB _ _ aF fQ aB aF aF aF aF) aB aB (IB h.st.m j.m)
def zjB(h:LG c np A s){v:Int}(j:IsM A s.l 2 v):LG c np A (aj ⟨24,0,[v]⟩ s).2/\IsM A (aj ⟨24,0,[v]⟩ s).2.l 1 (aj ⟨24,0,[v]⟩ s).1/\Ql s (aj ⟨24,0,[v]⟩ s).2:=
 vc h (UM j.i) aF (jB _ _ aF fQ aB aF aF aF aF) aB aB (IA j.m)
theorem zjC(L:zd4 c)(h:LG c np A s){m:qA}(Z:∀a∈m,IsM A s.l 1 a)(z:c.funcs[k]?=some f)(Y:m.length=f.params.length):LG c np A (aj ⟨30,k,s.aa::m⟩ s).2/\IsM A (aj ⟨30,k,s.aa::m⟩ s).2.l 2 (aj ⟨30,k,s.aa::m⟩ s).1/\Ql s (aj ⟨30,k,s.aa::m⟩ s).2:=by
 obtain⟨a,b,_⟩:=Vr L h.i (fun a h=>(Z a h).i) z Y;have V:=L.fl;have O:=L.fp f (cV z);have I:k<c.funcs.length:=by
  grind
 refine⟨h.put a,⟨b,Eh h.i.wf (by rw[UN h.st.i (fun a h=>(Z a h).i) ac ac ac];decide) aU fun q J=>?_⟩,Iz s aU aU⟩;rcases eJ.1 J with rfl|J
 .exact h.st.m
 .exact(Z q J).m
end
theorem sU{c:Cx}(hc:zd4 c){np:Nat}{A:Nat->Prop}:∀(n:Nat) (x:Ex) (s:Bd),XOk c x->x.sz<n->LG c np A s->∃r,ei c n x s=some r/\LG c np A r.2/\IsM A r.2.l 1 r.1/\Ql s r.2
 |0,x,s,hx,hd,hs=>by omega
 |n+1,x,s,hx,hd,hs=>by
  have Y:=sU hc (np:=np) (A:=A) n;have hwf:=hx.wf;have Z:=hx.df;have hrg:=(Ij x).1 hx.rg;rw[xQ,bT,ph]at hwf;rw[zt,bT,pj]at Z;have hw:=hwf.2;have hsz:=x.a9;unfold ei;by_cases e1:x.az=1
  .rw[ai e1];obtain⟨a,b,d⟩:=Ei hs hrg.1;exact⟨_,rfl,a,b,d⟩
  rw[ah e1]at hw⊢;by_cases e2:x.az=2
  .rw[ai e2];have hn:bL c.aO x.name=true:=by have:=Z.2;simp[e2]at this;exact this
   have C:bS c.aO x.name<s.vars.length:=by rw[hs.i.vl];exact u7 hn
   rw[aX C,lB];exact⟨_,rfl,hs,hs.v _ (dE C),zL s⟩
  rw[ah e2]at hw⊢;by_cases e3:x.az=3
  .rw[ai e3]at hw⊢;simp only[lX]at hw;have hn:bL (c.ab.map (·.name)) x.name=true:=by have:=Z.2;simp[e3]at this;exact this
   have C:=u7 hn;rw[dk]at C;obtain⟨k,z⟩:=oq x.ak (i:=0) ac;have hks:=Ea z;obtain⟨r,hr,aq,r2,r8⟩:=Y k s (hx.bM z) ac hs;rw[z,aN,hr,aN,aX C,aN];have ha:=hc.a _ (dE C);generalize c.ab[bS (c.ab.map (·.name)) x.name]=ar at ha⊢;obtain⟨aI,a6⟩:=VF aq (n:=ar.len) fQ r2;obtain⟨V,L,J⟩:=zjy hc aI (r2.le (pX ar.len r.1 r.2).le.l) C;exact⟨_,rfl,V,L,r8.trans (a6.trans J)⟩
  rw[ah e3]at hw⊢;by_cases e5:x.az=5
  .have e4:¬x.az=4:=by omega
   rw[ah e4,ai e5]at hw;rw[ai e5];simp only[lX]at hw;obtain⟨k,z⟩:=oq x.ak (i:=0) ac;obtain⟨k1,O⟩:=oq x.ak (i:=1) ac;obtain⟨k2,I⟩:=oq x.ak (i:=2) ac;have hks:=Vs z O I;obtain⟨r,hr,m,p2,p3⟩:=Y k s (hx.bM z) ac hs;obtain⟨aq,j,q1,q2,q3⟩:=Y k1 r.2 (hx.bM O) ac m;have l1:=cD c n _ _ _ j;obtain⟨r2,hr2,t1,t2,t3⟩:=Y k2 {aq.2 with aa:=r.2.aa} (hx.bM I) ac (q1.setS (m.st.le l1.le.l));have l2:=cD c n _ _ _ hr2;rw[z,aN,hr,aN,O,aN,j,aN,I,aN,hr2,aN];have pc:IsM A r2.2.l 1 r.1:=(p2.le l1.le.l).le l2.le.l;obtain⟨bt,m2,m3⟩:=Bm t1 pc (q2.le l2.le.l) t2 (.inl rfl);have lm:=eB r.1 aq.1 r2.1 r2.2;obtain⟨dd,n2,n3⟩:=Bm bt (pc.le lm.le.l) ((q1.st.le l2.le.l).le lm.le.l) bt.st (.inr rfl);have ln:=eB r.1 aq.2.aa (a5 r.1 aq.1 r2.1 r2.2).2.aa (a5 r.1 aq.1 r2.1 r2.2).2;exact⟨_,rfl,dd.setS n2,m2.le ln.le.l,(p3.trans (q3.trans (t3.ofS.trans (m3.trans n3)))).setS _⟩
  rw[ah e5]at hw⊢;by_cases e4:x.az=4
  .rw[ai e4]at hw;simp only[bT,nU,kE]at hw;have hl:x.ak.length=2\/x.ak.length=1:=by rcases hw.2 with h|h<;>omega
   obtain⟨k,z⟩:=oq x.ak (i:=0) ac;have hks:=Ea z;obtain⟨r,hr,m,p2,p3⟩:=Y k s (hx.bM z) ac hs;rw[z,aN,hr,aN];by_cases e6:x.ak.length=1
   .rw[ai e6];have ho:x.op=20\/x.op=21:=by
     rcases hw.2 with h|h
     .omega
     .exact h.2
    obtain⟨a,b,d⟩:=vc m (UG p2.i ho) aF (jB _ _ ac fQ aB ac ac ac ac) (by show x.op≠3;omega) (by show x.op≠31;omega) (IA p2.m);exact⟨_,rfl,a,b,p3.trans d⟩
   .rw[ah e6];obtain⟨k1,O⟩:=oq x.ak (i:=1) ac;have hks2:=Nm z O;obtain⟨aq,j,q1,q2,q3⟩:=Y k1 r.2 (hx.bM O) ac m;have l1:=cD c n _ _ _ j;rw[O,aN,j,aN];have ho:4<=x.op/\x.op<=18:=by
     rcases hw.2 with h|h
     .have:=h.2;simp[sM]at this;exact this
     .omega
    have p2':=p2.le l1.le.l;by_cases e7:x.op=7\/x.op=8
    .rw[ai e7];obtain⟨aI,a6⟩:=zjx q1 q2;have ld:=Bb aq.1 aq.2;obtain⟨V,L,J⟩:=IC aI (p2'.le ld.le.l) (q2.le ld.le.l) (by omega:4<=x.op) ac;exact⟨_,rfl,V,L,p3.trans (q3.trans (a6.trans J))⟩
    .rw[ah e7];obtain⟨V,L,J⟩:=IC q1 p2' q2 (by omega:4<=x.op) ac;exact⟨_,rfl,V,L,p3.trans (q3.trans J)⟩
  simp_all
theorem VG{c:Cx}(L:zd4 c){np n:Nat}{A:Nat->Prop}:∀(l:qM) (s:Bd),(∀x∈l,XOk c x)->fg l<n->LG c np A s->∃r,mh c n l s=some r/\LG c np A r.2/\(∀a∈r.1,IsM A r.2.l 1 a)/\Ql s r.2
 |[],s,hx,hd,hs=>⟨_,rfl,hs,aB,zL s⟩
 |x::l,s,hx,hd,hs=>by
  rw[fg]at hd;obtain⟨r,hr,Y,V,J⟩:=sU L n x s (hx x dM) ac hs;obtain⟨r2,O,q1,q2,j⟩:=VG (n:=n) L l r.2 (fun y Z=>hx y (dh _ Z)) ac Y;have l2:=(r3 c n _ _ _ O).1;refine⟨(r.1::r2.1,r2.2),U8,q1,fun a m=>?_,J.trans j⟩;rcases eJ.1 m with rfl|m
  .exact V.le l2.le.l
  .exact q2 a m
structure LP (s:Bd):Prop where
 l1:∀x∈s.l,x.op=31->0<=x.aP/\x.aP<s.loops
 l2:∀x∈s.l,∀y∈s.l,x.op=31->y.op=31->x.aP=y.aP->x=y
 l3:∀x∈s.l,x.op=3->0<=x.aP/\x.aP<16*s.loops
 l4:∀x∈s.l,∀y∈s.l,x.op=31->y.op=3->y.aP.tdiv 16=x.aP->y.aP.tmod 16<dy x.ak.length
structure Dl (s r:Bd):Prop where
 d:∀x∈r.l,x∈s.l\/((x.op=31->(s.loops:Int)<=x.aP)/\(x.op=3->16*(s.loops:Int)<=x.aP))
 n:s.loops<=r.loops
def Dl.refl(s:Bd):Dl s s:=⟨fun x h=>.inl h,aG _⟩
def Dl.trans{a b e:Bd}(h:Dl a b)(k:Dl b e):Dl a e:=⟨fun x I=>by
 have J:=h.n;rcases k.d x I with j|⟨j,m⟩
 .exact h.d x j
 omega,dt h.n k.n⟩
def Ql.dl(h:Ql s r)(J:s.loops<=r.loops):Dl s r:=⟨fun x I=>(h.q x I).imp id fun q=>⟨fun e=>absurd e q.2,fun e=>absurd e q.1⟩,J⟩
def Ql.fL(h:Ql s r){x:Nd}(I:x∈r.l)(e:x.op=31):x∈s.l:=(h.q x I).elim id fun q=>absurd e q.2
def Ql.m3(h:Ql s r){x:Nd}(I:x∈r.l)(e:x.op=3):x∈s.l:=(h.q x I).elim id fun q=>absurd e q.1
def LP.ql(h:LP s)(q:Ql s r)(J:s.loops<=r.loops):LP r:=
 ⟨fun x I e=>by have:=h.l1 x (q.fL I e) e;omega,fun x I y O ex Y=>h.l2 x (q.fL I ex) y (q.fL O Y) ex Y,fun x I e=>by have:=h.l3 x (q.m3 I e) e;omega,fun x I y O ex Y=>h.l4 x (q.fL I ex) y (q.m3 O Y) ex Y⟩
def LP.setS(h:LP s)(x:Int):LP {s with aa:=x}:=⟨h.l1,h.l2,h.l3,h.l4⟩
def LP.setV(h:LP s)(x:qA):LP {s with vars:=x}:=⟨h.l1,h.l2,h.l3,h.l4⟩
def Dl.setS(h:Dl s r)(x:Int):Dl s {r with aa:=x}:=⟨h.d,h.n⟩
def Dl.setV(h:Dl s r)(x:qA):Dl s {r with vars:=x}:=⟨h.d,h.n⟩
theorem zjD(k a b:Int)(s:Bd)(z:Int):a5 k a b {s with aa:=z}=((a5 k a b s).1,{ (a5 k a b s).2 with aa:=z}):=by
 unfold a5;split<;>rfl
section
variable {c:Cx} {np:Nat} {A:Nat -> Prop}
theorem VH{k:Int}{a:qA}:∀(m i:Nat) (s:Bd),LG c np A s->IsM A s.l 1 k->(∀y∈a,IsM A s.l 1 y)->a.length=c.aO.length->i+m=c.aO.length->∃r,lK k a m i s=some r/\LG c np A r/\Ql s r
 |0,i,s,h,_,_,_,_=>⟨s,rfl,h,zL s⟩
 |m+1,i,s,h,hk,ha,hl,hi=>by
  have L:=h.i.vl;have j:i<a.length:=ac;have Z:i<s.vars.length:=ac;unfold lK;rw[aX j,aN,aX Z,aN];obtain⟨bt,J,I⟩:=Bm h hk (ha _ (dE j)) (h.v _ (dE Z)) (.inl rfl);have lv:=eB k a[i] s.vars[i] s;obtain⟨r,e,aq,r2⟩:=VH m (i+1) { (a5 k a[i] s.vars[i] s).2 with vars:=(a5 k a[i] s.vars[i] s).2.vars.set i (a5 k a[i] s.vars[i] s).1} (bt.setV (fun y O=>by
   rcases uX O with O|rfl
   .exact bt.v y O
   .exact J) (by rw[iB];exact bt.i.vl)) (hk.le lv.le.l) (fun y O=>(ha y O).le lv.le.l) hl ac
  exact⟨r,e,aq,I.trans ⟨r2.q⟩⟩
def zjE(k m:Nat)(s r:Bd):Prop:=∀x∈r.l,x∈s.l\/(x.op=3/\16*(k:Int)<=x.aP/\x.aP<16*(k:Int)+m)
theorem Nw{k m:Nat}(z:k<=15)(J:A k)(C:m<=16):∀(O:qG) (j:Nat) (s:Bd),LG c np A s->j+O.length+1<=m->LG c np A (fX (16*(k:Int)+1) O j s)/\zjE k m s (fX (16*(k:Int)+1) O j s)
 |[],j,s,h,_=>⟨h,fun x I=>.inl I⟩
 |w::O,j,s,h,Z=>by
  rw[fc]at Z;have V:(16*(k:Int)+1+j).tmod 16=1+j:=by
   grind
  have hdi:(16*(k:Int)+1+j).tdiv 16=k:=by
   grind
  have L:fY s.l ⟨3,16*(k:Int)+1+j,[]⟩=1:=by rw[DT ac ac,V,ah ac]
  obtain⟨bt,m2,m3⟩:=k7 h.i (n:=⟨3,16*(k:Int)+1+j,[]⟩) L aF (jB _ _ aF fQ aB aF aF aF aF);have mm:jn (aj ⟨3,16*(k:Int)+1+j,[]⟩ s).2.l A (aj ⟨3,16*(k:Int)+1+j,[]⟩ s).1:=Eg h.i.wf (by rw[L];decide) (fun _=>aU) (fun j k Z=>by simp at Z);have hg:=h.put bt;unfold fX;obtain⟨aq,r2⟩:=Nw z J C O (j+1) { (aj ⟨3,16*(k:Int)+1+j,[]⟩ s).2 with vars:=(aj ⟨3,16*(k:Int)+1+j,[]⟩ s).2.vars.set w (aj ⟨3,16*(k:Int)+1+j,[]⟩ s).1} (hg.setV (fun y Y=>by
   rcases uX Y with Y|rfl
   .exact hg.v y Y
   .exact⟨m2,mm⟩) Nb) ac
  refine⟨aq,fun x I=>?_⟩;rcases r2 x I with I|I
  .rcases uS.1 I with I|rfl
   .exact .inl I
   grind
  .exact .inr I
theorem VI{lp k:Int}{old:qA}{q:Nd}:∀(Z:qG) (j:Nat) (s:Bd),LG c np A s->IsM A s.l 3 lp->s.l[lp.toNat]?=some q->IsM A s.l 1 k->(∀y∈old,IsM A s.l 1 y)->(∀w∈Z,w<old.length)->1<=j->((j+Z.length:Nat):Int)<=dy q.ak.length->j+Z.length<=16 ->
 LG c np A (fj lp k old Z j s)/\Ql s (fj lp k old Z j s)
 |[],j,s,h,_,_,_,_,_,_,_,_=>⟨h,zL s⟩
 |w::Z,j,s,h,hlp,hq,hk,ho,hw,hj,hlv,h16=>by
  rw[fc]at hlv h16;have hs:fY s.l ⟨25,j,[lp]⟩=1:=by rw[Ih hlp.i hq ac ac,ah ac]
  obtain⟨bt,J,I⟩:=vc h (n:=⟨25,j,[lp]⟩) hs aF (jB _ _ aF fQ aB aF aF aF aF) aB aB (IA hlp.m);have V:=b9 ⟨25,j,[lp]⟩ s;have hwo:=hw w dM;have L:old.getD w 0∈old:=aU;obtain⟨dd,C,n3⟩:=Bm bt (hk.le V.le.l) J ((ho _ L).le V.le.l) (.inl rfl);have Y:=V.trans (eB k (aj ⟨25,j,[lp]⟩ s).1 (old.getD w 0) (aj ⟨25,j,[lp]⟩ s).2);unfold fj;simp only[];generalize a5 k (aj ⟨25,j,[lp]⟩ s).1 (old.getD w 0) (aj ⟨25,j,[lp]⟩ s).2=z at *;have m:z.2.l[lp.toNat]?=some q:=by
   obtain⟨t,ht⟩:=Y.le.l
   grind
  obtain⟨aq,r2⟩:=VI (q:=q) (lp:=lp) (k:=k) (old:=old) Z (j+1) {z.2 with vars:=z.2.vars.set w z.1} (dd.setV (fun y O=>by
   rcases uX O with O|rfl
   .exact dd.v y O
   .exact C) (by rw[iB];exact dd.i.vl)) (hlp.le Y.le.l) m (hk.le Y.le.l) (fun y O=>(ho y O).le Y.le.l) (fun y O=>hw y (dh _ O)) ac ac ac
  exact⟨aq,I.trans (n3.trans ⟨r2.q⟩)⟩
end
def Nx(c:Cx)(np n:Nat):Prop:=∀A x s,SOk c x->2*x.sz<n->LG c np A s->LP s->s.loops+dI x<=16->∃r,lL c n x s=some r/\LG c np A r/\LP r/\r.loops<=s.loops+dI x/\Dl s r
def Ej(c:Cx)(np n:Nat):Prop:=∀A l s,zf6 c l->2*bF l<n->LG c np A s->LP s->s.loops+eV l<=16->∃r,fH c n l s=some r/\LG c np A r/\LP r/\r.loops<=s.loops+eV l/\Dl s r
def Ny(c:Cx)(np n:Nat):Prop:=∀A x s,SOk c x->x.az=4->2*x.sz<=n->LG c np A s->LP s->s.loops+dI x<=16->∃r,mn c n x s=some r/\LG c np A r/\LP r/\r.loops<=s.loops+dI x/\Dl s r
theorem zjF{np:Nat}{d:Bd}{ws:qG}{dv:Int}(hk:k<=15)(hwl:ws.length<=14)(hr:LG c np A r)(hd:LG c np (fun t=>A t\/t=k) d)(hv:IsM (fun t=>A t\/t=k) d.l 1 dv)(z:r.l<+:d.l)(Z:∀i∈ws,i<r.vars.length)(N:Nd)
 (L:N=⟨31,k,r.aa::(ws.map fun i=>r.vars.getD i 0)++[dv,d.aa]++ws.map fun i=>d.vars.getD i 0⟩) :
 LG c np A { (aj N d).2 with vars:=r.vars,aa:=r.aa} /\ IsM A (aj N d).2.l 3 (aj N d).1/\N.ak.length=2*ws.length+3:=by
 have ho:∀a∈ws.map fun i=>r.vars.getD i 0,IsM A d.l 1 a:=fun a m=>by
  obtain⟨i,hi,rfl⟩:=so.1 m;rw[dC,aX (Z i hi)];exact(hr.v _ (dE _)).le z
 have hn:∀a∈ws.map fun i=>d.vars.getD i 0,IsM (fun t=>A t\/t=k) d.l 1 a:=fun a m=>by
  obtain⟨i,hi,rfl⟩:=so.1 m;have:=Z i hi;have e1:=hd.i.vl;have e2:=hr.i.vl;rw[dC,aX (show i<d.vars.length by omega)];exact hd.v _ (dE _)
 have V:N.ak.length=2*ws.length+3:=cU;have hs:fY d.l N=3:=by
  rw[L];exact UO (hr.st.i.le z) (fun a h=>(ho a h).i) hv.i hd.st.i (fun a h=>(hn a h).i) aB cZ ac ac
 have ho31:N.op=31:=by rw[L]
 have him:N.aP=k:=by rw[L]
 have hp:NdP c np N:=by
  have:=jB c np (op:=31) (imm:=k) (kids:=N.ak) aF fQ ac aF aF aF aF;simp_all
 obtain⟨k1,k2,_⟩:=k7 hd.i hs aF hp;have km:jn (aj N d).2.l A (aj N d).1:=Eg hd.i.wf (by rw[hs];decide) (fun e=>ac) (fun j q hj t J=>by
  by_cases c1:dy N.ak.length<=j
  .have Y:q∈N.ak:=cV hj;have hq:jn d.l (fun t=>A t\/t=k) q:=by
    rw[L]at Y;simp only[uk,od]at Y;rcases Y with((rfl|Y)|rfl|rfl)|Y
    .exact(hr.st.le z).m.mono fun _=>.inl
    .exact(ho q Y).m.mono fun _=>.inl
    .exact hv.m
    .exact hd.st.m
    .exact(hn q Y).m
   rcases hq t J with h|h
   .exact .inl h
   omega
  .rw[V,CP _ ac]at c1;have hlt:j<(r.aa::(ws.map fun i=>r.vars.getD i 0)).length:=cZ;have Y:q∈r.aa::(ws.map fun i=>r.vars.getD i 0):=by
    grind
   rcases eJ.1 Y with rfl|Y
   .exact .inl ((hr.st.le z).m t J)
   .exact .inl ((ho q Y).m t J))
 have lk:=(b9 N d).le.l;have O:IsM A (aj N d).2.l 2 r.aa:=(hr.st.le z).le lk;have C:∀y∈r.vars,IsM A (aj N d).2.l 1 y:=fun y I=>((hr.v y I).le z).le lk;exact⟨⟨(k1.setV (fun y I=>(C y I).i) hr.i.vl).setS O.i,C,O⟩,⟨k2,km⟩,V⟩
theorem zjG(hc:zd4 c){np n:Nat}(IS:Ej c np n):Ny c np (n+1):=fun A x s hx hk hsz h hP hw=>by
 have hs:=x.a9;have hw1:=xH x;rw[ai hk]at hw1;have hv:=hx.value (.inr (.inr (.inr (.inl hk))));unfold mn;obtain⟨r,hr,p1,p2,p3⟩:=sU hc n x.value {s with loops:=s.loops+1} hv ac (h.dX _);have lr:=cD c n _ _ _ hr;have hrn:r.2.loops=s.loops+1:=lr.n;obtain⟨b,hb,hbl⟩:=Bk n x.bm (List.replicate r.2.vars.length false) hx.bD.1 ac (by rw[j9];exact p1.i.vl);rw[hr,aN,hb,aN];simp only[];have hwl:=Eb b;have hnl:=hc.nl;have hwm:∀i∈bD b,i<r.2.vars.length:=fun i hi=>by have:=Bf hi;have:=p1.i.vl;omega
 generalize bD b=Y at *;have hm:(16*(s.loops:Int)).tmod 16=0:=aU;have hdv:(16*(s.loops:Int)).tdiv 16=s.loops:=aU;have hsq:fY r.2.l ⟨3,16*(s.loops:Int),[]⟩=2:=by rw[DT ac ac,hm,ai rfl]
 have p1':LG c np (fun t=>A t\/t=s.loops) r.2:=p1.mono fun _=>.inl;obtain⟨q1,q2,_⟩:=k7 p1.i (n:=⟨3,16*(s.loops:Int),[]⟩) hsq aF (jB _ _ aF fQ aB aF aF aF aF);have qm:jn (aj ⟨3,16*(s.loops:Int),[]⟩ r.2).2.l (fun t=>A t\/t=s.loops) (aj ⟨3,16*(s.loops:Int),[]⟩ r.2).1:=Eg p1.i.wf (by rw[hsq];decide) (fun _=>.inr aU) (fun j k hj=>by simp at hj);have qg:=p1'.put q1;have lq:=b9 ⟨3,16*(s.loops:Int),[]⟩ r.2;have vq:∀y∈(aj ⟨3,16*(s.loops:Int),[]⟩ r.2).2.l,y∈r.2.l\/(y.op=3/\y.aP=16*(s.loops:Int)):=fun y O=>by
  rcases uS.1 O with O|rfl
  .exact .inl O
  simp_all
 generalize aj ⟨3,16*(s.loops:Int),[]⟩ r.2=q at *;obtain⟨u1,u2⟩:=Nw (k:=s.loops) (m:=Y.length+1) (A:=fun t=>A t\/t=s.loops) ac (.inr rfl) ac Y 0 {q.2 with aa:=q.1} (qg.setS ⟨q2,qm⟩) ac;have lu:=r4 (16*(s.loops:Int)+1) Y 0 {q.2 with aa:=q.1};generalize fX (16*(s.loops:Int)+1) Y 0 {q.2 with aa:=q.1}=u at *;have hun:u.loops=s.loops+1:=Nc
 -- what is in u: nodes of s,quiet ones,variables of this loop
 have hu:∀y∈u.l,y∈s.l\/(y.op≠3/\y.op≠31)\/(y.op=3/\16*(s.loops:Int)<=y.aP/\y.aP<16*(s.loops:Int)+(Y.length+1:Nat)):=fun y O=>by
  rcases u2 y O with O|O
  .rcases vq y O with O|⟨e1,e2⟩
   .rcases p3.q y O with O|O
    .exact .inl O
    .exact .inr (.inl O)
   .exact .inr (.inr ⟨e1,ac,ac⟩)
  omega
 have J:∀y∈u.l,y.op=31->y∈s.l:=fun y O e=>by
  grind
 have uP:LP u:=by
  refine⟨fun y O e=>?_,fun y O z L I C=>hP.l2 y (J y O I) z (J z L C) I C,fun y O e=>?_,fun y O z L I C e=>?_⟩
  .have:=hP.l1 y (J y O e) e;omega
  .rcases hu y O with Z|Z|Z
   .have:=hP.l3 y Z e;omega
   .omega
   .omega
  .rcases hu z L with Z|Z|Z
   .exact hP.l4 y (J y O I) z Z I C e
   .omega
   .have:=hP.l1 y (J y O I) I
    grind
 obtain⟨t,ht,t1,tP,t2,t3⟩:=IS _ x.bm u hx.bD.1 ac u1 uP ac;have lt:=(jl c n).2.1 _ _ _ ht;rw[ht,aN];obtain⟨d,hd,d1,d2,d3⟩:=sU hc n x.value t hv ac t1;have ld:=cD c n _ _ _ hd;have dP:=tP.ql d3 (by rw[ld.n];omega);rw[hd,aN];have le1:eD r.2 d.2:=(lq.le.setS q.1).trans (lu.1.trans (lt.1.trans ld.le));have tn:=t3.n;have hdn:s.loops+1<=d.2.loops:=by rw[ld.n];omega
 -- what is in d
 have hd31:∀y∈d.2.l,y.op=31->y∈s.l\/(s.loops:Int)+1<=y.aP:=fun y O e=>by
  rcases t3.d y (d3.fL O e)with Z|Z
  .exact .inl (J y Z e)
  omega
 have hd3:∀y∈d.2.l,y.op=3->y∈s.l\/(16*(s.loops:Int)<=y.aP/\y.aP<16*(s.loops:Int)+(Y.length+1:Nat))\/16*((s.loops:Int)+1)<=y.aP:=fun y O e=>by
  rcases t3.d y (d3.m3 O e)with Z|Z
  .rcases hu y Z with Z|Z|Z
   .exact .inl Z
   .exact absurd e Z.1
   .exact .inr (.inl Z.2)
  omega
 obtain⟨g1,g2,hkl⟩:=zjF (k:=s.loops) (dv:=d.1) ac ac p1 d1 d2 le1.l hwm ⟨31,s.loops,r.2.aa::(Y.map fun i=>r.2.vars.getD i 0)++[d.1,d.2.aa]++Y.map fun i=>d.2.vars.getD i 0⟩ rfl;have hop:(⟨31,s.loops,r.2.aa::(Y.map fun i=>r.2.vars.getD i 0)++[d.1,d.2.aa]++Y.map fun i=>d.2.vars.getD i 0⟩:Nd).op=31:=rfl;have him:(⟨31,s.loops,r.2.aa::(Y.map fun i=>r.2.vars.getD i 0)++[d.1,d.2.aa]++Y.map fun i=>d.2.vars.getD i 0⟩:Nd).aP=s.loops:=rfl;have lk:=b9 ⟨31,s.loops,r.2.aa::(Y.map fun i=>r.2.vars.getD i 0)++[d.1,d.2.aa]++Y.map fun i=>d.2.vars.getD i 0⟩ d.2;generalize (⟨31,s.loops,r.2.aa::(Y.map fun i=>r.2.vars.getD i 0)++[d.1,d.2.aa]++Y.map fun i=>d.2.vars.getD i 0⟩:Nd)=N at *;have hq:(aj N d.2).2.l[(aj N d.2).1.toNat]?=some N:=Ie _ _;have V:∀y∈(aj N d.2).2.l,y∈d.2.l\/y=N:=fun y O=>uS.1 O;have kn:(aj N d.2).2.loops=d.2.loops:=rfl;generalize aj N d.2=k at *;have hlv:dy (2*Y.length+3:Nat)=((Y.length+1:Nat):Int):=CO;have no31:∀y∈d.2.l,y.op=31->y.aP≠s.loops:=fun y O e e2=>by
  rcases hd31 y O e with Z|Z
  .have:=hP.l1 y Z e;omega
  .omega
 have kP:LP k.2:=by
  refine⟨fun y O e=>?_,fun y O z L I C e=>?_,fun y O e=>?_,fun y O z L I C e=>?_⟩
  .rcases V y O with O|rfl
   .have:=dP.l1 y O e;omega
   .omega
  .rcases V y O with O|rfl
   .rcases V z L with L|rfl
    .exact dP.l2 y O z L I C e
    .exact absurd (e.trans him) (no31 y O I)
   grind
  .rcases V y O with O|rfl
   .have:=dP.l3 y O e;omega
   omega
  .rcases V z L with L|rfl
   .rcases V y O with O|rfl
    .exact dP.l4 y O z L I C e
    .rw[hkl,hlv];rcases hd3 z L C with Z|Z|Z
     .have:=hP.l3 z Z C;rw[sD ac]at e;omega
     .rw[Vc ac];omega
     .rw[sD ac]at e;omega
   omega
 have kD:Dl s k.2:=by
  refine⟨fun y O=>?_,ac⟩
  grind
 -- the nodes behind it
 have hlr:fY k.2.l ⟨25,0,[k.1]⟩=2:=by rw[Ih (n:=0) g2.i hq ac aU,ai rfl]
 obtain⟨f1,f2,f3⟩:=vc g1 (n:=⟨25,0,[k.1]⟩) hlr aF (jB _ _ aF fQ aB aF aF aF aF) aB aB (IA g2.m);have lf:=b9 ⟨25,0,[k.1]⟩ {k.2 with vars:=r.2.vars,aa:=r.2.aa};have ef:aj ⟨25,0,[k.1]⟩ {k.2 with vars:=r.2.vars}=((aj ⟨25,0,[k.1]⟩ {k.2 with vars:=r.2.vars,aa:=r.2.aa}).1,{ (aj ⟨25,0,[k.1]⟩ {k.2 with vars:=r.2.vars,aa:=r.2.aa}).2 with aa:=k.2.aa}):=rfl;rw[ef];generalize aj ⟨25,0,[k.1]⟩ {k.2 with vars:=r.2.vars,aa:=r.2.aa}=f at *;have le2:r.2.l<+:f.2.l:=(le1.l.trans lk.le.l).trans lf.le.l;obtain⟨bt,m2,m3⟩:=Bm f1 (p2.le le2) f2 (p1.st.le le2) (.inr rfl);have lm:=eB r.1 f.1 r.2.aa f.2;simp only[zjD];generalize a5 r.1 f.1 r.2.aa f.2=m at *;have lkm:k.2.l<+:m.2.l:=lf.le.l.trans lm.le.l;have hqm:m.2.l[k.1.toNat]?=some N:=by
  obtain⟨z,L⟩:=lkm
  grind
 obtain⟨z1,z2⟩:=VI (lp:=k.1) (k:=r.1) (old:=r.2.vars) Y 1 {m.2 with aa:=m.1} (bt.setS m2) (g2.le lkm) hqm (p2.le (le2.trans lm.le.l)) (fun y O=>(p1.v y O).le (le2.trans lm.le.l)) hwm (aG _) cU ac;have lz:=uU k.1 r.1 r.2.vars Y 1 {m.2 with aa:=m.1};have hzn:(fj k.1 r.1 r.2.vars Y 1 {m.2 with aa:=m.1}).loops=d.2.loops:=by
  rw[lz.2.2.2];show m.2.loops=_;rw[lm.n,lf.n];exact kn
 have qz:Ql k.2 (fj k.1 r.1 r.2.vars Y 1 {m.2 with aa:=m.1}):=(Ql.mk f3.q:Ql k.2 f.2).trans (m3.trans ⟨z2.q⟩);have hkz:k.2.loops<=(fj k.1 r.1 r.2.vars Y 1 {m.2 with aa:=m.1}).loops:=ac;have hzb:(fj k.1 r.1 r.2.vars Y 1 {m.2 with aa:=m.1}).loops<=s.loops+dI x:=by rw[hzn,ld.n];omega
 exact⟨_,rfl,z1,kP.ql qz hkz,hzb,kD.trans (qz.dl hkz)⟩
def zjH(hc:zd4 c){np n:Nat}(IS:Ej c np n)(IW:Ny c np n):Nx c np (n+1):=fun A x s I hsz h hP hw=>by
 have hs:=x.a9;have hw1:=xH x;have hkd:=I.kd;unfold lL;by_cases k1:x.az=1
 .rw[ai k1];obtain⟨r,hr,Y,p2,V⟩:=sU hc n x.value s (I.value (.inl k1)) ac h;have L:=cD c n _ _ _ hr;have hn:=I.name (.inl k1);have hvl:=Y.i.vl;rw[hr,aN,ai ac];exact⟨_,rfl,Y.setV (fun y O=>by
   rcases uX O with O|rfl
   .exact Y.v y O
   .exact p2) aU,(hP.ql V (kX L.n.symm)).setV _,by show r.2.loops<=_;rw[L.n];omega,(V.dl (kX L.n.symm)).setV _⟩
 rw[ah k1];by_cases k2:x.az=2
 .rw[ai k2];obtain⟨r,hr,Y,p2,V⟩:=sU hc n x.bz s (I.bz k2) ac h
  obtain⟨v,hv,q1,q2,q3⟩:=sU hc n x.value r.2 (I.value (.inr (.inl k2))) ac Y;have L:=cD c n _ _ _ hr;have lv:=cD c n _ _ _ hv;have hlt:=I.arr k2;rw[hr,aN,hv,aN,aX hlt,aN];have ha:=hc.a _ (dE hlt);generalize c.ab[bS (c.ab.map (·.name)) x.name]=ar at ha⊢;have p2':=p2.le lv.le.l;obtain⟨aI,a6⟩:=VF q1 (n:=ar.len) fQ p2';have lc:=pX ar.len r.1 v.2;obtain⟨j,C,b3⟩:=zjz hc aI (p2'.le lc.le.l) (q2.le lc.le.l) hlt;have Z:=V.trans (q3.trans (a6.trans b3));have J:(dS ar.len r.1 v.2).loops=s.loops:=by rw[lc.n,lv.n,L.n]
  exact⟨_,rfl,j.setS C,(hP.ql Z U9).setS _,by show(dS ar.len r.1 v.2).loops<=_;omega,(Z.dl U9).setS _⟩
 rw[ah k2];by_cases ee:x.az=3
 .rw[ai ee];rw[ah ac]at hw1;obtain⟨r,hr,Y,p2,V⟩:=sU hc n x.value s (I.value (.inr (.inr (.inl ee)))) ac h;have L:=cD c n _ _ _ hr;have hrn:=L.n;have rP:=hP.ql V (kX hrn.symm);obtain⟨a,ha,aI,aP,a6,cp⟩:=IS A x.bm r.2 I.bD.1 ac Y rP ac;have la:=(jl c n).2.1 _ _ _ ha;have hal:a.vars.length=c.aO.length:=aI.i.vl;obtain⟨b,hb,j,bP,C,b3⟩:=IS A x.bO {a with aa:=r.2.aa,vars:=r.2.vars} I.bD.2 ac ((aI.setS (Y.st.le la.1.l)).setV (fun y O=>(Y.v y O).le la.1.l) Y.i.vl) ⟨aP.l1,aP.l2,aP.l3,aP.l4⟩ cU;have lb:=(jl c n).2.1 _ _ _ hb;have lab:a.l<+:b.l:=lb.1.l;have kb:IsM A b.l 1 r.1:=(p2.le la.1.l).le lab;have hbl:=j.i.vl;obtain⟨m,hm,bt,m2⟩:=VH (k:=r.1) (a:=a.vars) b.vars.length 0 b j kb (fun y O=>(aI.v y O).le lab) hal ac;have lm:=uT _ _ _ _ _ _ hm;rw[hr,aN,ha,aN,hb,aN,hm,aN];obtain⟨t1,t2,t3⟩:=Bm bt (kb.le lm.1.l) ((aI.st.le lab).le lm.1.l) bt.st (.inr rfl);have lt:=eB r.1 a.aa m.aa m;have hbn:(a5 r.1 a.aa m.aa m).2.loops=b.loops:=by rw[lt.n,lm.2.2.2]
  have Z:=m2.trans t3;have b2':b.loops<=a.loops+eV x.bO:=C;have dab:Dl a b:=⟨b3.d,b3.n⟩;exact⟨_,rfl,t1.setS t2,(bP.ql Z (kX hbn.symm)).setS _,cU,((V.dl (kX hrn.symm)).trans (cp.trans (dab.trans (Z.dl (kX hbn.symm))))).setS _⟩
 rw[ah ee];by_cases fm:x.az=4
 .rw[ai fm];exact IW A x s I fm ac h hP hw
 rw[ah fm];by_cases dF:x.az=5
 .rw[ai dF];obtain⟨r,hr,Y,p2,V⟩:=sU hc n x.value s (I.value (.inr (.inr (.inr (.inr dF))))) ac h;have L:=cD c n _ _ _ hr;have hrn:=L.n;rw[hr,aN];obtain⟨j,C,b3⟩:=zjA Y p2;have Z:=V.trans b3;exact⟨_,rfl,j.setS C,(hP.ql Z (by show s.loops<=r.2.loops;omega)).setS _,by show r.2.loops<=_;omega,(Z.dl (by show s.loops<=r.2.loops;omega)).setS _⟩
 rw[ah dF];by_cases k6:x.az=6
 .rw[ai k6];obtain⟨r,hr,Y,p2,V⟩:=VG hc (n:=n) x.args s I.args ac h;obtain⟨L,hlr⟩:=r3 c n _ _ _ hr;obtain⟨c1,c2⟩:=I.call k6;obtain⟨i,hi,hfe⟩:=A4 c.funcs x.to 0 c1;obtain⟨f,hfn⟩:=oq c.funcs hi;have hfe':bW c.funcs x.to 0=(i:Int):=by simpa using hfe
  have hn:=I.name (.inr k6);have hvl:=Y.i.vl;have hpar:r.1.length=f.params.length:=by
   rw[hlr,c2,tQ,hfe',eM,hfn];rfl
  rw[hr,aN,ai ⟨c1,ac⟩];simp only[];rw[hfe'];obtain⟨j,C,b3⟩:=zjC hc Y p2 hfn hpar;have lb:=b9 ⟨30,i,r.2.aa::r.1⟩ r.2;generalize aj ⟨30,i,r.2.aa::r.1⟩ r.2=z at *;obtain⟨d1,d2,d3⟩:=zjB (j.setS C) C;have ld:=b9 ⟨24,0,[z.1]⟩ {z.2 with aa:=z.1};generalize aj ⟨24,0,[z.1]⟩ {z.2 with aa:=z.1}=w at *;have Z:Ql s w.2:=V.trans (b3.trans d3.ofS);have J:w.2.loops=s.loops:=by rw[ld.n];show z.2.loops=_;rw[lb.n,L.n]
  refine⟨_,rfl,d1.setV (fun y O=>?_) (by rw[iB];exact d1.i.vl),(hP.ql Z (kX J.symm)).setV _,aU,(Z.dl (kX J.symm)).setV _⟩;rcases uX O with O|rfl
  .exact d1.v y O
  .exact d2
 rw[ah k6];by_cases iU:x.az=7
 .rw[ai iU];have ht:=I.eY iU;have hw:cy (16+x.n)=16+x.n:=fN ac ac;rw[hw];obtain⟨aI,a6,cp⟩:=Ei h (n:=0) fQ;obtain⟨j,C⟩:=Nv aI (t:=16+x.n) a6 ac ac;have lb:=r1 (16+x.n) (aj ⟨1,0,[]⟩ s).1 (aj ⟨1,0,[]⟩ s).2;have J:(kM (16+x.n) (aj ⟨1,0,[]⟩ s).1 (aj ⟨1,0,[]⟩ s).2).loops=s.loops:=lb.n;have Z:=cp.trans C;exact⟨_,rfl,j,hP.ql Z (kX J.symm),ac,Z.dl (kX J.symm)⟩
 .omega
def zjI{np n:Nat}(O:Nx c np n)(z:Ej c np n):Ej c np (n+1):=fun A l s L J h hP hw=>by
 cases l with
 |nil=>exact⟨s,by unfold fH;rfl,h,hP,ac,Dl.refl s⟩
 |cons x l=>
  obtain⟨I,L⟩:=L.cons;rw[bF]at J;rw[eV]at hw⊢;unfold fH;simp only[];obtain⟨r,hr,Y,Z,p2,V⟩:=O A x s I ac h hP ac;obtain⟨t,m,q1,C,q2,j⟩:=z A l r L ac Y Z ac;rw[hr,aN,m];exact⟨t,rfl,q1,C,ac,V.trans j⟩
theorem ID{c:Cx}(L:zd4 c){np:Nat}:∀n:Nat,Nx c np n/\Ej c np n/\Ny c np n
 |0=>⟨fun A x s _ h=>ac,fun A l s _ h=>ac,fun A x s I _ h=>by have:=x.a9;omega⟩
 |n+1=>by
  obtain⟨a,b,d⟩:=ID L (np:=np) n;exact⟨zjH L b d,zjI a b,zjG L b⟩
end
end Go.Proofs.YtbflaciihaijgaaGreat
