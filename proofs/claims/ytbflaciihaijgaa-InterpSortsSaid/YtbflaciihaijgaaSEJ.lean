/- Lemmas for the last file. -/
import Derived.IntWalk
import Derived.Test.YtbflaciihaijgaaSEI
set_option linter.all false
set_option maxHeartbeats 32000000
namespace Go.Ab
set_option maxRecDepth 20000
open Go
variable{qb:Prop}
def mP(h:qb:=by rw[p3];decide):=h
def mQ(h:qb:=by rw[p4];decide):=h
def zl(h:qb:=by simp only[fJ,Bool.or_eq_true,decide_eq_true_eq];omega):=h
def uP(h:qb:=by simp only[cH,cb];omega):=h
def zm(h:qb:=by show(if _ then _ else _)=0;rw[if_neg aa];exact U q hq):=h
def zn(h:qb:=by unfold fJ;rw[decide_eq_false aa,decide_eq_false aa];rfl):=h
def zp(h:qb:=by first|rfl|(have e0:aC.1=0:=aa;simp only[e0])):=h
def mR:=@cond_true
def se:=@of_decide_eq_true
def sf:=@decide_eq_true
def lO:=@Nat.ne_of_lt
end Go.Ab
namespace Go.Proofs.Ytbflaciihaijgaa
set_option maxRecDepth 20000
open Go Go.Ab Proofs.Try
variable{z b L k j N:Nat}{K H' H:Hp}{p:Pr}{a c:Ex}{x:Int}{s:UInt8}{W:MS}{r:List (aQ×Int)×MS}{l:qm}
section
def tyPzI.tyF:=ac @dF (ac @eV (ac @my (ac @mz (ac @iS (ac @lq (ac @iT (ac @mA (ac @xp (ac @jD (ac @lw (ac @lA (ac @oT (ac @oU (@yn))))))))))))))
open tyPzI
noncomputable def zq:{c:SC // aI 77 (f10.body.getD .skip)=c}:=by
 refine⟨?_,?_⟩;rotate_left
 .simp only[f10,bQ,aI,bL,bB,bV,bW,Nat.blt,Nat.ble];rfl
theorem o4:∀(n:Nat) (s:qi) (i:Nat) (l:qn),ge n s i=some l->l.length<=s.length
 |0,_,_,_,h=>by rw[ge]at h;cases h
 |n+1,[],i,l,h=>by
  rw[ge]at h;obtain rfl:=io h;exact aA _
 |n+1,c::r,i,l,h=>by
  rw[ge]at h;split at h
  .have:=o4 n r (i+1) l h;simp only[de];omega
  split at h
  .cases h
  split at h
  .rename_i m;have Z:1<=cz (c::r):=by rw[cz,aD m];omega
   have hd:((c::r).drop (cz (c::r))).length+1<=(c::r).length:=by rw[gn];simp only[de];omega
   split at h
   .obtain⟨_,_,h⟩:=aX.1 h;obtain⟨cU,o,rfl⟩:=dC.1 h;have:=o4 n _ _ cU o;simp only[de]at *;omega
   split at h
   .cases h
   obtain⟨cU,o,rfl⟩:=dC.1 h;have:=o4 n _ _ cU o;simp only[de]at *;omega
  .obtain⟨t,_,h⟩:=aX.1 h;obtain⟨cU,o,rfl⟩:=dC.1 h;have:=o4 n r (i+1) cU o;simp only[de];omega
def Gx(l:qn)(n m i:Nat)(M:List Ar)(fs:List Fu):ik l n (m+1) i M fs=if l.length<=i then some ⟨M,fs⟩
 else if a3 l i 0 [97,114,114,97,121]then (fk l (i+1)).bind fun s=>(rG l s.2).bind fun k=>(bY l k.2 [59]).bind fun i=>ik l n m i (M++[⟨s.1,k.1⟩]) fs
 else (bY l i [102,117,110,99]).bind fun i=>(rH l n i).bind fun f=>ik l n m f.2 M (fs++[f.1]):=by rw[ik]
noncomputable def jN:qs:=[zk,uh,jH,ux,uy]
def Gy(ρ:Nat->Int):iX prog ρ jN:=⟨Gu ρ,Fh ρ,um ρ,FG ρ,FJ ρ,trivial⟩
def Gz:PzL jN:=⟨fun _=>rfl,fun _=>rfl,fun _=>rfl,fun _=>rfl,fun f Z=>by
 unfold uz at Z;simp only[List.any_cons,List.any_nil,Bool.or_false,fZ,Nat.beq_eq]at Z;obtain h|h|h|h|h|h|h|h|h|h|h|h|h|h|h|h|h:=Z<;>subst h<;>exact⟨fun _=>rfl,rfl⟩⟩
def zr(xs:List qh)(n a b:Int):dA prog 77 [(0,.af xs),(2,.int .i64 n),(3,.agg [.int .i64 a,.int .i64 b])]=some (.agg [.af xs,.int .i64 0,.int .i64 n,.int .i64 a,.int .i64 b]):=az
theorem zt(a b:AV):b8 2 [a,b]=some (.agg [a,b]):=rfl
def GA(s:qi)(n:Int):dA prog 71 [(0,.ad s),(1,.int .i64 n)]=some (.agg [.ad s,.int .i64 n]):=az
def GB(H:Hp)(s:qi)(n:Int):eu prog H 23 1 [(0,.agg [.ad s,.int .i64 n])]=some (.sl H.next 0 1 2,H.alloc (.cells [.ad s,.int .i64 n] 0 true)):=az
def GC(H:Hp){cs:qh}(h:cs.length=9):eu prog H 39 1 [(0,.agg cs)]=some (.sl H.next 0 1 9,H.alloc (.cells cs 0 true)):=by
 obtain⟨c0,c1,c2,c3,c4,c5,c6,c7,F,rfl⟩:∃c0 c1 c2 c3 c4 c5 c6 c7 F,cs=[c0,c1,c2,c3,c4,c5,c6,c7,F]:=by
  match cs,h with
  |[c0,c1,c2,c3,c4,c5,c6,c7,F],_=>exact⟨c0,c1,c2,c3,c4,c5,c6,c7,F,rfl⟩
 kernel_rfl
def zu{P:Program}{t e:TypeId}{M:qh}(F:P.underlying t=some (.slice e))(hs:aZ P e=some z)(hb:bT P e=some b)(hz:bM P e=some M)(J:M.length=z)(A:gE P t=true)
 {O:Nat->Nat}{n:Nat}{Kc:Hp}{v:AV}{W:List qh} (h:br (fun q=>O q=L) n K z v W) (hn:K.next<=Kc.next) (hk:∀q,q<K.next->q≠3->Kc.get q=K.get q) (p3:O 3≠L) (p4:O 4≠L) (h4:4<K.next) {row w:qh} (C:row.length=z) (Y:row.all AV.one=true) (hw:bp (fun q=>K.next<=q) n Kc row w)
 (I:(W.length+1)*b<=cm) (V:W.length+1<=cm) :
 ∃Z H',dh P false (Kc.alloc (.cells row 0 true)) t t v (.sl Kc.next 0 1 z)=some (Z,H')/\Kc.next+2<=H'.next/\(∀q,q<Kc.next->(K.next<=q\/O q≠L)->H'.get q=Kc.get q)/\(AV.one Z=true/\Z.cells=[Z])/\∀x,br (fun q=>(if K.next<=q then L else O q)=L) n (H'.set 4 x) z Z (W++[w]):=by
 obtain⟨H',U,S,cE,cK,fM,er,dz,ee,hO⟩:=Gv F hs hb hz J A (Hb:=Kc.alloc (.cells row 0 true)) (r:=Kc.next) (imm:=0) (row:=row) h (by rw[cb];omega) (fun q m o=>by rw[aP,aw aa];exact hk q m (fun e=>by subst e;exact p3 o)) gK C Y I V;rw[cb]at cE er dz ee hO;refine⟨_,H',cE,aa,fun q m o=>by rw[ee q aa o,aP,aw aa],⟨rfl,rfl⟩,fun x=>?_⟩;exact hO (H'.set 4 x) 4 row w (by rw[cH];omega) (fun q m o=>by rw[a0,aw m]) p4 h4 (by rw[a0,aw aa];exact er) C (hw.ao (fun k m o=>⟨o,aa⟩) (fB _) fun k m o=>hZ)
def br.oth{Z:Nat->Nat}{O n:Nat}{v:AV}{C:List qh}(h:br (fun q=>Z q=O) n K z v C)(S:K.next<=H'.next)(I:Z 3≠O)(F:Z 4≠O)(A:O≠L)(Y:∀q,q<K.next->q≠3->Z q≠L->H'.get q=K.get q)(x:HB):br (fun q=>(if K.next<=q then L else Z q)=O) n (H'.set 4 x) z v C:=
 h.az (fun k m o=>by show(if _ then _ else _)=O;rw[aw aa];exact o) S fun k m o=>by
  rw[a0,aw (fun e=>by subst e;exact F m)];exact Y k o (fun e=>by subst e;exact I m) (fun e=>A (m.symm.trans e))
set_option maxRecDepth 100000 in
theorem GD(s:qi)(hs:mO s){n:Nat}(hn20:n<2^20)(h:ik (gC s) n n 0 [] []=some p):
 aL prog (a1 pls jN) 10 [.ad s] bA fun v H'=>∃N av fv,v=.aC [.agg [av,fv],.agg [.int .i64 0,.int .i64 0]]/\bX (fun _=>True) N H' av (.af (p.ag.map Ar.cells))/\bX (fun _=>True) N H' fv (.af (p.funcs.map Fu.cells)):=by
 have hG:=Gz;have hw:zac (a1 pls jN) 10:=hG.plain dH;have hkeep:(a1 pls jN).az 10=false:=rfl;have ksc:∀H:Hp,aL prog (a1 pls jN) 23 [.ad s] H fun v H'=>v=.aC [o0 (gC s),.agg [.int .i64 0,.int .i64 0]]/\H'=H:=fun H=>iY (enc:=fun s:qi=>[.ad s]) (ok:=mO) (out:=fun s=>.aC [o0 (gC s),.agg [.int .i64 0,.int .i64 0]]) (fun x y h=>eF) (x:=s) rfl hs;have hl:(gC s).length<2^40:=by
  obtain⟨I,l,o⟩:=hs;have:gC s=l:=by unfold gC;rw[o];rfl
  rw[this];have:=o4 _ _ _ _ o;omega
 obtain⟨l,hll⟩:∃l,l=gC s:=⟨_,rfl⟩;rw[<-hll]at h hl ksc;unfold o0 at ksc;clear hll;refine bz (M:=77) (rs:=[.cell 2 41,.cell 3 44]) (hw.call _) hw.aB hw.an func10 rfl rfl zq.2 rfl ?_;dsimp only[zq,ba,Nat.reduceAdd];have gh0:=@zr;repeat' (first
  |(apply ai ?_;clear hK K)|apply Rx.o ?_|apply aU ?_|(apply oI ?_;first|refine Rx.k (ksc _) ?_)|apply ag ?_|(apply ah fun K hK=>?_)|(apply ad 4 [(6,14),(10,14),(11,14)] fun K hK=>?_)|(apply ad 12 [(1,3),(1,5),(4,5)] fun K hK=>?_)|(apply ad 14 [(4,5),(4,6)] fun K hK=>?_)|(apply aG ?_;try intro _)|(apply aH ?_ ?_<;>clear hK K)|apply aF ?_|apply a9 rfl ?_|apply au ?_|apply aj ?_|apply aq ?_|apply aB ?_)
 generalize A:Hp.set _ 2 _=O;have fx:O.get 0=some (.cells [.ab,.ab] 0 true):=by rw[<-A];rfl
 have cE:O.get 1=some qd:=by rw[<-A];rfl
 have cK:O.get 2=some qd:=by rw[<-A];rfl
 have an:O.next=3:=by rw[<-A];rfl
 clear A;have hld:dq prog O 44 (.ptr 2 0)=some (.agg [.int .i64 0,.int .i64 0]):=by rw[rA,cK];kernel_rfl
 have gh0:=@zr;repeat' (first
  |(apply ai ?_;clear hK K)|apply Rx.o ?_|apply aU ?_|apply ag ?_|(apply ah fun K hK=>?_)|(apply ad 4 [(6,14),(10,14),(11,14)] fun K hK=>?_)|(apply ad 12 [(1,3),(1,5),(4,5)] fun K hK=>?_)|(apply ad 14 [(4,5),(4,6)] fun K hK=>?_)|(apply aG ?_;try intro _)|(apply aH ?_ ?_<;>clear hK K)|apply aF ?_|apply a9 rfl ?_|apply au ?_|apply aj ?_|apply aq ?_|apply aB ?_)
 rw[an];generalize S:(O.alloc _).alloc _=Kb;have b0:Kb.get 0=some (.cells [.ab,.ab] 0 true):=by rw[<-S];simp only[aP,cb,an];exact fx
 have b1:Kb.get 1=some qd:=by rw[<-S];simp only[aP,cb,an];exact cE
 have b3:Kb.get 3=some (.cells (cM l 0 (s.length:Int)) 0 true):=by rw[<-S];simp only[aP,cb,an];rfl
 have b4:Kb.get 4=some (.cells [.ab,.ab] 0 true):=by rw[<-S];simp only[aP,cb,an];rfl
 have bn:Kb.next=5:=by rw[<-S];simp only[cb,an]
 clear S fx cE cK hld an;refine lC [2,3,6,7] [0,1] (fun nn E Z=>∃(pt:Nat->Nat) (W:List Ar) (fs:List Fu) (V n4:Nat) (av fv:AV),nn<=n/\ik l n nn V W fs=some p/\Z.get 3=some (.cells (cM l V (s.length:Int)) 0 true)/\Z.get 4=some (.cells [av,fv] 0 true)/\(∀q,q<5->pt q=0)/\br (fun q=>pt q=1) n4 Z 2 av (W.map Ar.cells)/\br (fun q=>pt q=2) n4 Z 9 fv (fs.map Fu.cells)/\V<=l.length/\W.length+fs.length+nn<=n) n ⟨fun _=>0,[],[],0,0,.ab,.ab,aA _,h,b3,b4,fun _ _=>rfl,.inl ⟨rfl,rfl⟩,.inl ⟨rfl,rfl⟩,eC _,aK⟩ ?_;rintro nn E Z hcE hrH hnH ⟨pt,W,fs,V,n4,av,fv,hnn,h,gi,iA,U,F,C,hi',hlen⟩;(try simp only[em,ep,df,a2,bG,Nat.reduceBEq,Nat.reduceAdd,Nat.reduceLeDiff,tyF, *]at hcE);have fw:=(hrH 0 aK).trans b0;have bD:=(hrH 1 aK).trans b1;have hnx:5<=Z.next:=aa
 clear hrH b3 b4;cases nn with
 |zero=>rw[ik]at h;cases h
 |succ nn=>
 rw[Gx]at h;have ko:=jI hG gi;have gb:Z.get 3=some (.cells [.af (l.map Tk.cells),.int .i64 (V:Int),.int .i64 s.length,.int .i64 0,.int .i64 0] 0 true):=gi;have ka:aL prog (a1 pls jN) 25 [.ptr 3 0,.int .i64 0,.ad [97,114,114,97,121]] Z fun v H'=>v=.bool (a3 l V 0 [97,114,114,97,121])/\H'=Z:=fI hG gi hl aa 0 bO [97,114,114,97,121];clear gi;have p3:=U 3 bO;have p4:=U 4 bO;split at h
 .rename_i hge;have hge':¬(V:Int)<l.length:=aa;obtain rfl:=io h;repeat' (first
   |(apply ai ?_;clear hK K)|apply Ry.o ?_|apply aY ?_|(apply bu ?_;first|refine Rx.k (ko) ?_)|(apply aE (fun hb L=>?_) (fun hb L=>?_)<;>try(cases hb;done))|apply ag ?_|(apply ah fun K hK=>?_)|(apply ad 4 [(6,14),(10,14),(11,14)] fun K hK=>?_)|(apply ad 12 [(1,3),(1,5),(4,5)] fun K hK=>?_)|(apply ad 14 [(4,5),(4,6)] fun K hK=>?_)|(apply aG ?_;try intro _)|(apply aH ?_ ?_<;>clear hK K)|apply aF ?_|apply a9 rfl ?_|(apply cW (fun hg J=>?_) (fun hg J=>?_)<;>try(cases hg;done))|apply au ?_|apply aj ?_|apply aq ?_|apply aB ?_)
  .exact cC
  .obtain⟨ova,cva⟩:=F.one;obtain⟨ovf,cvf⟩:=C.one;have gh0:=@zt;repeat' (first
    |(apply ai ?_;clear hK K)|apply Rx.o ?_|apply aU ?_|apply ag ?_|(apply ah fun K hK=>?_)|(apply ad 4 [(6,14),(10,14),(11,14)] fun K hK=>?_)|(apply ad 12 [(1,3),(1,5),(4,5)] fun K hK=>?_)|(apply ad 14 [(4,5),(4,6)] fun K hK=>?_)|(apply aG ?_;try intro _)|(apply aH ?_ ?_<;>clear hK K)|apply aF ?_|apply a9 rfl ?_|apply au ?_|apply aj ?_|apply aq ?_|apply aB ?_)
   refine⟨aN,_,(by(try simp only[a2,bG,Nat.reduceBEq,Nat.reduceAdd,Nat.reduceLeDiff,tyF,cu,cG,zt, *]);first|done|with_reducible rfl),?_⟩;try simp only[aM]
   have hfin:∀k,pt k≠0->((Z.set 0 (.cells [av,fv] 0 true)).set 1 qd).get k=Z.get k:=fun k hk=>by rw[a0,aw (fun e=>by subst e;exact hk (U 1 bO)),a0,aw (fun e=>by subst e;exact hk (U 0 bO))]
   exact⟨n4+1,av,fv,rfl,F.rd.ao (fun _ _ _=>trivial) (aA _) fun k I _=>hfin k (by rw[I];decide),C.rd.ao (fun _ _ _=>trivial) (aA _) fun k I _=>hfin k (by rw[I];decide)⟩
 .rename_i hge;have hge':(V:Int)<l.length:=aa;split at h
  .rename_i har;obtain⟨nm,e1,h⟩:=aX.1 h;obtain⟨kk,e2,h⟩:=aX.1 h;obtain⟨i2,e3,h⟩:=aX.1 h;have ea:IntKind.wrap .i64 ((V:Int)+1)=((V+1:Nat):Int):=dl;repeat' (first
    |(apply ai ?_;clear hK K)|apply Ry.o ?_|apply aY ?_|(apply bu ?_;first|refine Rx.k (ko) ?_|refine Rx.k (ka) ?_)|(apply aE (fun hb L=>?_) (fun hb L=>?_)<;>try(cases hb;done))|apply ag ?_|(apply ah fun K hK=>?_)|(apply ad 4 [(6,14),(10,14),(11,14)] fun K hK=>?_)|(apply ad 12 [(1,3),(1,5),(4,5)] fun K hK=>?_)|(apply ad 14 [(4,5),(4,6)] fun K hK=>?_)|(apply aG ?_;try intro _)|(apply aH ?_ ?_<;>clear hK K)|apply aF ?_|apply a9 rfl ?_|(apply cW (fun hg J=>?_) (fun hg J=>?_)<;>try(cases hg;done))|apply au ?_|apply aj ?_|apply aq ?_|apply aB ?_)
   .exact cC
   generalize S:Hp.set Z 3 _=O;have ga:O.get 3=some (.cells (cM l (V+1) (s.length:Int)) 0 true):=by rw[<-S,a0,aD rfl];rfl
   have na:Z.next<=O.next:=by rw[<-S];exact aA _
   have oa:∀q,q≠3->O.get q=Z.get q:=fun q hq=>by rw[<-S,a0,aw hq]
   clear S;refine qa ?_;refine aR ?_ (lL hG ga hl e1);rintro v Kc ⟨rfl,p1⟩;have n1:=p1.next
   dsimp only[aJ];repeat' (first
    |(apply ai ?_;clear hK K)|apply Rx.o ?_|apply aU ?_|apply ag ?_|(apply ah fun K hK=>?_)|(apply ad 4 [(6,14),(10,14),(11,14)] fun K hK=>?_)|(apply ad 12 [(1,3),(1,5),(4,5)] fun K hK=>?_)|(apply ad 14 [(4,5),(4,6)] fun K hK=>?_)|(apply aG ?_;try intro _)|(apply aH ?_ ?_<;>clear hK K)|apply aF ?_|apply a9 rfl ?_|apply au ?_|apply aj ?_|apply aq ?_|apply aB ?_)
   refine qa ?_;refine aR ?_ (FR hG p1.get hl e2);rintro v Kd ⟨rfl,p2⟩;have n2:=p2.next
   dsimp only[aJ];repeat' (first
    |(apply ai ?_;clear hK K)|apply Rx.o ?_|apply aU ?_|apply ag ?_|(apply ah fun K hK=>?_)|(apply ad 4 [(6,14),(10,14),(11,14)] fun K hK=>?_)|(apply ad 12 [(1,3),(1,5),(4,5)] fun K hK=>?_)|(apply ad 14 [(4,5),(4,6)] fun K hK=>?_)|(apply aG ?_;try intro _)|(apply aH ?_ ?_<;>clear hK K)|apply aF ?_|apply a9 rfl ?_|apply au ?_|apply aj ?_|apply aq ?_|apply aB ?_)
   refine qa ?_;refine aR ?_ (dy hG p2.get hl e3);rintro v Ke p3';have n3:=p3'.next
   have oe:∀q,q<Z.next->q≠3->Ke.get q=Z.get q:=fun q I o=>(p3'.av q aa o).trans ((p2.av q aa o).trans ((p1.av q aa o).trans (oa q o)))
   dsimp only[aJ];obtain⟨rv,Kf,af,nf,ff,⟨orv,crv⟩,rwn⟩:=zu (P:=prog) (t:=23) underlying23 tS xn xo rfl az (F.up (m:=n4+3) aa) (Kc:=Ke) aa oe mP mQ aa (row:=[.ad nm.1,.int .i64 kk.1]) (w:=(⟨nm.1,kk.1⟩:Ar).cells) rfl rfl (.cons (.ad _) (.cons (.int _ _) .nil)) iZ iZ;have g4e:=(oe 4 aa bO).trans iA;have g4f:=(ff 4 aa (.inr mQ)).trans g4e;obtain⟨ovf,cvf⟩:=C.one;have gh0:=@GA;have gh1:=@GB;repeat' (first
    |(apply ai ?_;clear hK K)|apply Rx.o ?_|apply aU ?_|apply ag ?_|(apply ah fun K hK=>?_)|(apply ad 4 [(6,14),(10,14),(11,14)] fun K hK=>?_)|(apply ad 12 [(1,3),(1,5),(4,5)] fun K hK=>?_)|(apply ad 14 [(4,5),(4,6)] fun K hK=>?_)|(apply aG ?_;try intro _)|(apply aH ?_ ?_<;>clear hK K)|apply aF ?_|apply a9 rfl ?_|apply au ?_|apply aj ?_|apply aq ?_|apply aB ?_)
   refine⟨cj,fun r hr=>?_,?_,nn,eI _,fun q=>if Z.next<=q then 1 else pt q,W++[⟨nm.1,kk.1⟩],fs,i2,n4+3,rv,fv,aa,h,?_,eN,fun q hq=>zm,by rw[iO];exact rwn _,(C.up aa).oth aa mP mQ bO (fun q I o h3=>(ff q aa (.inr h3)).trans (oe q I o)) _,p3'.le,mI⟩
   .have Y:r<5/\r≠3/\r≠4:=by simp only[fg,List.not_mem_nil,or_false]at hr;omega
    rw[a0,aw Y.2.2,ff r aa (.inr (by rw[U r Y.1];decide)),oe r aa Y.2.1];rcases fg.1 hr with rfl|hr
    .exact fw.trans b0.symm
    .obtain rfl:=oN.1 hr;exact bD.trans b1.symm
   .simp only[cH];omega
   .rw[a0,aw bO,ff 3 aa (.inr mP)];exact p3'.get
  .rename_i har;have har:a3 l V 0 [97,114,114,97,121]=false:=by simpa using har
   obtain⟨i2,e1,h⟩:=aX.1 h;obtain⟨f,e2,h⟩:=aX.1 h;repeat' (first
    |(apply ai ?_;clear hK K)|apply Ry.o ?_|apply aY ?_|(apply bu ?_;first|refine Rx.k (ko) ?_|refine Rx.k (ka) ?_)|(apply aE (fun hb L=>?_) (fun hb L=>?_)<;>try(cases hb;done))|apply ag ?_|(apply ah fun K hK=>?_)|(apply ad 4 [(6,14),(10,14),(11,14)] fun K hK=>?_)|(apply ad 12 [(1,3),(1,5),(4,5)] fun K hK=>?_)|(apply ad 14 [(4,5),(4,6)] fun K hK=>?_)|(apply aG ?_;try intro _)|(apply aH ?_ ?_<;>clear hK K)|apply aF ?_|apply a9 rfl ?_|(apply cW (fun hg J=>?_) (fun hg J=>?_)<;>try(cases hg;done))|apply au ?_|apply aj ?_|apply aq ?_|apply aB ?_)
   .exact cC
   refine qa ?_;refine aR ?_ (dy hG gb hl e1);rintro v O p1;have n1:=p1.next
   have k4a:=(p1.av 4 aa bO).trans iA;dsimp only[aJ];repeat' (first
    |(apply ai ?_;clear hK K)|apply Rx.o ?_|apply aU ?_|apply ag ?_|(apply ah fun K hK=>?_)|(apply ad 4 [(6,14),(10,14),(11,14)] fun K hK=>?_)|(apply ad 12 [(1,3),(1,5),(4,5)] fun K hK=>?_)|(apply ad 14 [(4,5),(4,6)] fun K hK=>?_)|(apply aG ?_;try intro _)|(apply aH ?_ ?_<;>clear hK K)|apply aF ?_|apply a9 rfl ?_|apply au ?_|apply aj ?_|apply aq ?_|apply aB ?_)
   refine qa ?_;refine aR ?_ (Gb hG hl hn20 p1.le e2 O ⟨p1.get,aa⟩);rintro v Kc ⟨⟨n5,cs,rfl,c1,c2,c3⟩,p2⟩;have n2:=p2.next
   have oe:∀q,q<Z.next->q≠3->Kc.get q=Z.get q:=fun q I o=>(p2.av q aa o).trans (p1.av q I o)
   dsimp only[aJ];have kbf:=fun H=>GC H c1;obtain⟨rv,Kf,af,nf,ff,⟨orv,crv⟩,rwn⟩:=zu (P:=prog) (t:=39) underlying39 tR xl xm rfl az (C.up (m:=max n4 n5) aa) (Kc:=Kc) aa oe mP mQ aa (row:=cs) (w:=f.1.cells) c1 c2 ((c3.up aa).ao (fun k _ h=>aa) (aA _) fun _ _ _=>rfl) iZ iZ;have g4e:=(oe 4 aa bO).trans iA;have g4f:=(ff 4 aa (.inr mQ)).trans g4e;obtain⟨ova,cva⟩:=F.one;have ma1:(4 == Kc.next)=false:=bH aa;have ma2:(Kc.next == 4)=false:=bH aa;repeat' (first
    |(apply ai ?_;clear hK K)|apply Rx.o ?_|apply aU ?_|apply ag ?_|(apply ah fun K hK=>?_)|(apply ad 4 [(6,14),(10,14),(11,14)] fun K hK=>?_)|(apply ad 12 [(1,3),(1,5),(4,5)] fun K hK=>?_)|(apply ad 14 [(4,5),(4,6)] fun K hK=>?_)|(apply aG ?_;try intro _)|(apply aH ?_ ?_<;>clear hK K)|apply aF ?_|apply a9 rfl ?_|apply au ?_|apply aj ?_|apply aq ?_|apply aB ?_)
   .exact cC
   refine⟨cj,fun r hr=>?_,?_,nn,eI _,fun q=>if Z.next<=q then 2 else pt q,W,fs++[f.1],f.2,max n4 n5,av,rv,aa,h,?_,eN,fun q hq=>zm,(F.up aa).oth aa mP mQ bO (fun q I o h3=>(ff q aa (.inr h3)).trans (oe q I o)) _,by rw[iO];exact rwn _,p2.le,mI⟩
   .have Y:r<5/\r≠3/\r≠4:=by simp only[fg,List.not_mem_nil,or_false]at hr;omega
    rw[a0,aw Y.2.2,ff r aa (.inr (by rw[U r Y.1];decide)),oe r aa Y.2.1];rcases fg.1 hr with rfl|hr
    .exact fw.trans b0.symm
    .obtain rfl:=oN.1 hr;exact bD.trans b1.symm
   .simp only[cH];omega
   .rw[a0,aw bO,ff 3 aa (.inr mP)];exact p2.get
def GE{cfg:Cfg}(fit:Fit prog){ρ:Nat->Int}(F:fV cfg.bC ρ)(Z:∀f o r,cfg.call f o=some r->bN prog ρ f o r){g:FuncId}{o:qh}{r:AV}
 (J:eW o) (h:aL prog cfg g o bA fun v H'=>∃n m u,iceV H' m v=some u/\dX n u=r):bN prog ρ g o r:=by
 unfold aL at h;obtain⟨v,H',Y,n,W⟩:=h;exact ye (n:=n) fit F Z J (by unfold aL;exact⟨v,H',Y,W⟩)
theorem GF(ρ:Nat->Int)(s:qi)(J:mO s){n:Nat}(M:n<2^20)(h:ik (gC s) n n 0 [] []=some p):bN prog ρ 10 [.ad s] (.aC [.agg p.cells,.agg [.int .i64 0,.int .i64 0]]):=by
 refine GE (cfg:=a1 pls jN) fit (p7 ρ) (fun g Z r L=>iX.bV (l:=jN) (Gy ρ) g Z r L) (.cons (.ad _) .nil) (aR (fun v H' h=>?_) (GD s J M h));obtain⟨N,m,O,rfl,⟨o,cE,cK⟩,⟨A,Y,V⟩⟩:=h;obtain⟨U,I⟩:=oP (S:=fun _=>True) (n:=N) (H:=H') (fun k=>b7.iceV k) (l:=[m,O]) (k:=[o,A]) ⟨cE,Y,trivial⟩;have C:dX N (.int .i64 0)=.int .i64 0:=by cases N<;>rfl
 refine⟨N+2,U+3,.aC [.agg [o,A],.agg [.int .i64 0,.int .i64 0]],?_,?_⟩
 .have F:iceV H' (U+3) (.aC [.agg [m,O],.agg [.int .i64 0,.int .i64 0]])=match iceL (iceV H' (U+2)) [.agg [m,O],.agg [.int .i64 0,.int .i64 0]]with
   |some vs=>some (.aC vs)
   |none=>none:=rfl
  have W:iceV H' (U+2) (.agg [m,O])=match iceL (iceV H' (U+1)) [m,O]with
   |some vs=>some (.agg vs)
   |none=>none:=rfl
  have e3:iceV H' (U+2) (.agg [.int .i64 0,.int .i64 0])=some (.agg [.int .i64 0,.int .i64 0]):=rfl;rw[I (U+1) (fB _)]at W;rw[F];simp only[iceL,W,e3]
 .show AV.aC [.agg [dX N o,dX N A],.agg [dX N (.int .i64 0),dX N (.int .i64 0)]]=_;rw[cK N (aA _),V N (aA _),C];rfl
end
section
def fK(s:UInt8):Ex:=.mk 2 0 [s] 0 []
def eK(n:Int):Ex:=.mk 1 n [] 0 []
def fp(e:Ex):Ex:=.mk 3 0 [97] 0 [e]
def jb(o:Int)(a b:Ex):Ex:=.mk 4 0 [] o [a,b]
def mS(s:UInt8)(v:Ex):St:=.mk 1 [s] [] 0 fD v [] [] []
def lP(a v:Ex):St:=.mk 2 [97] [] 0 a v [] [] []
def iy(c:Ex)(b:qw):St:=.mk 4 [] [] 0 fD c [] b []
def ky(v:Ex):St:=.mk 5 [] [] 0 fD v [] [] []
def kz:Ex:=jb 4 (fK 106) (eK 1)
def uQ:qw:=[mS 116 (fp (fK 106)),lP (fK 106) (fp kz),lP kz (fK 116)]
def uR:St:=.mk 3 [] [] 0 fD (jb 17 (fp kz) (fp (fK 106))) [] uQ []
def mT:St:=iy (jb 17 (fK 106) (eK 2)) [uR,mS 106 kz]
def mU:St:=iy (jb 17 (fK 105) (eK 3)) [mS 106 (eK 0),mT,mS 105 (jb 4 (fK 105) (eK 1))]
def uS:qw:=[lP (eK 0) (fK 120),lP (eK 1) (fK 121),lP (eK 2) (fK 122),mU,ky (fp (eK 0)),ky (fp (eK 1)),ky (fp (eK 2))]
def zw:Fu:=⟨[102],[[120],[121],[122]],[[105],[106],[116]],uS,eK 0⟩
def bw:Pr:=⟨[⟨[97],3⟩],[zw]⟩
def sg:qi:=[97,114,114,97,121,32,97,32,51,59,32,102,117,110,99,32,102,40,120,44,32,121,44,32,122,41,32,118,97,114,32,105,44,32,106,44,32,116,32,123,32,97,91,48,93,32,61,32,120,59,32,97,91,49,93,32,61,32,121,59,32,97,91,50,93,32,61,32,122,59,32,119,104,105,108,101,32,40,105,32,60,32,51,41,32,123,32,106,32,61,32,48,59,32,119,104,105,108,101,32,40,106,32,60,32,50,41,32,123,32,105,102,32,40,97,91,106,93,32,62,32,97,91,106,32,43,32,49,93,41,32,123,32,116,32,61,32,97,91,106,93,59,32,97,91,106,93,32,61,32,97,91,106,32,43,32,49,93,59,32,97,91,106,32,43,32,49,93,32,61,32,116,59,32,125,32,106,32,61,32,106,32,43,32,49,59,32,125,32,105,32,61,32,105,32,43,32,49,59,32,125,32,111,117,116,32,97,91,48,93,59,32,111,117,116,32,97,91,49,93,59,32,111,117,116,32,97,91,50,93,59,32,114,101,116,117,114,110,32,48,59,32,125]
def GG:ik (gC sg) 500 500 0 [] []=some bw:=az
def GH:mO sg:=⟨se az,vY.1 az⟩
def aO(fu:Nat)(l:qm)(out:qm):MS:=⟨(fu:Int),0,0,[([97],l)],out⟩
abbrev ca:List (aQ×Int):=eJ bw.funcs 0 []
section
variable {n:Nat} {vs:List (aQ × Int)} {fu:Nat} {l out:qm}
theorem lQ(s:UInt8):bC (n+1) (fK s) vs (aO fu l out)=some (bJ vs [s],aO fu l out):=rfl
theorem jc(k:Int):bC (n+1) (eK k) vs (aO fu l out)=some (k,aO fu l out):=rfl
theorem lR{e:Ex}(h:bC n e vs (aO fu l out)=some ((k:Int),aO fu l out))(Z:k<l.length):bC (n+1) (fp e) vs (aO fu l out)=some (l.getD k 0,aO fu l out):=by
 have A:bC (n+1) (fp e) vs (aO fu l out)=(bC n e vs (aO fu l out)).bind fun r=>if fJ r.1 (cq r.2.cells [97])=true then some (0,ec 2 r.2)else some ((cq r.2.cells [97]).getD r.1.toNat 0,r.2):=rfl
 rw[A,h,cD];have C:fJ (k:Int) l=false:=zn;show(if fJ (k:Int) l=true then _ else _)=_;rw[aw (by rw[C];decide)];rfl
theorem sh{o:Int}{b:Ex}{y:Int}(J:o=4\/o=17)(m:bC n a vs (aO fu l out)=some (x,aO fu l out))(Z:bC n b vs (aO fu l out)=some (y,aO fu l out)):bC (n+1) (jb o a b) vs (aO fu l out)=some (cQ o x y,aO fu l out):=by
 have A:bC (n+1) (jb o a b) vs (aO fu l out)=(bC n a vs (aO fu l out)).bind fun r=>(bC n b vs r.2).bind fun aC=>if aC.1=0/\(o=7\/o=8)then some (0,ec 1 aC.2)else some (cQ o r.1 aC.1,aC.2):=rfl
 rw[A,m,cD,Z,cD,aw aa]
theorem zx(x y:Int):cQ 17 x y=jK (decide (x<y)):=rfl
def zy(V:j<100):cQ 4 (j:Int) 1=((j+1:Nat):Int):=by
 show gQ ((j:Int)+1)=_;rw[show(j:Int)+1=((j+1:Nat):Int) by omega];exact l3 _ aa
def si(V:j<100)(h:bJ vs [106]=(j:Int)):bC (n+2) kz vs (aO fu l out)=some (((j+1:Nat):Int),aO fu l out):=by
 rw[kz,sh (.inl rfl) (lQ 106) (jc 1),h,zy V]
theorem fL{x:St}{r:qw}:dg bw ca (n+1) (x::r) vs (aO fu l out)=(dm bw ca n x vs (aO fu l out)).bind fun q=>dg bw ca n r q.1 q.2:=rfl
theorem o7:dg bw ca (n+1) [] vs (aO fu l out)=some (vs,aO fu l out):=rfl
theorem sj{v:Ex}(h:bC n v vs (aO fu l out)=some (x,aO fu l out)):dm bw ca (n+1) (mS s v) vs (aO fu l out)=some (setV vs [s] x,aO fu l out):=by
 have A:dm bw ca (n+1) (mS s v) vs (aO fu l out)=(bC n v vs (aO fu l out)).bind fun r=>some (setV vs [s] r.1,r.2):=rfl;rw[A,h,cD]
theorem o8{v:Ex}(m:bC n a vs (aO fu l out)=some ((k:Int),aO fu l out))(o:bC n v vs (aO fu l out)=some (x,aO fu l out))(Z:k<l.length):dm bw ca (n+1) (lP a v) vs (aO fu l out)=some (vs,aO fu (l.set k x) out):=by
 have A:dm bw ca (n+1) (lP a v) vs (aO fu l out)=(bC n a vs (aO fu l out)).bind fun r=>(bC n v vs r.2).bind fun aC=>some (vs,g9 [97] r.1 aC.1 aC.2):=rfl;rw[A,m,cD,o,cD];have C:fJ (k:Int) l=false:=zn;have W:g9 [97] (k:Int) x (aO fu l out)=aO fu (l.set k x) out:=by
  unfold g9;rw[show cq (aO fu l out).cells [97]=l from rfl,C];rfl
 rw[W]
theorem uT{v:Ex}(h:bC n v vs (aO fu l out)=some (x,aO fu l out)):dm bw ca (n+1) (ky v) vs (aO fu l out)=some (vs,aO fu l (out++[x])):=by
 have A:dm bw ca (n+1) (ky v) vs (aO fu l out)=(bC n v vs (aO fu l out)).bind fun r=>some (vs,fl r.1 r.2):=rfl;rw[A,h,cD];rfl
def sk{W:UInt8}(h:W≠s):bJ (setV vs [s] x) [W]=bJ vs [W]:=by rw[uM,aw eF]
def sm:bJ (setV vs [s] x) [s]=x:=by rw[uM,aD rfl]
def hC(j:Nat)(l:qm):qm:=if l.getD (j+1) 0<l.getD j 0 then (l.set j (l.getD (j+1) 0)).set (j+1) (l.getD j 0)else l
def uU(j:Nat)(l:qm):(hC j l).length=l.length:=by unfold hC;split<;>simp
theorem GI(V:j+1<l.length)(Z:j<100)(h:bJ vs [106]=(j:Int)):∃I,dm bw ca (n+12) uR vs (aO fu l out)=some (I,aO fu (hC j l) out)/\∀s,s≠116->bJ I [s]=bJ vs [s]:=by
 have A:dm bw ca (n+12) uR vs (aO fu l out)=(bC (n+11) (jb 17 (fp kz) (fp (fK 106))) vs (aO fu l out)).bind fun r=>if r.1≠0 then dg bw ca (n+11) uQ vs r.2 else dg bw ca (n+11) [] vs r.2:=rfl
 have c:bC (n+11) (jb 17 (fp kz) (fp (fK 106))) vs (aO fu l out)=some (cQ 17 (l.getD (j+1) 0) (l.getD j 0),aO fu l out):=sh (.inr rfl) (lR (si Z h) V) (lR (by rw[lQ,h]) aa);rw[A,c,cD,zx];simp only[];by_cases m:l.getD (j+1) 0<l.getD j 0
 .rw[sf m,aD bO,hC,aD m];refine⟨setV vs [116] (l.getD j 0),?_,fun s J=>sk J⟩;rw[uQ,fL,sj (n:=n+9) (x:=l.getD j 0) (lR (k:=j) (by rw[lQ,h]) aa),cD];have U:bJ (setV vs [116] (l.getD j 0)) [106]=(j:Int):=by rw[sk bO,h]
  rw[fL,o8 (n:=n+8) (k:=j) (x:=l.getD (j+1) 0) (by rw[lQ,U]) (lR (si Z U) V) aa,cD];rw[fL,o8 (n:=n+7) (k:=j+1) (x:=l.getD j 0) (si Z U) (by rw[lQ,sm]) (by rw[List.length_set];exact V),cD];exact o7
 .rw[decide_eq_false m,aw bO,hC,aw m];exact⟨vs,o7,fun _ _=>rfl⟩
def GJ(h:fu<100):cZ (aO (fu+1) l out)=aO fu l out:=by
 unfold cZ aO;rw[aw aK,aw (by simp only[];omega)];simp only[]
 congr 1
 rw[show((fu+1:Nat):Int)-1=(fu:Int) by omega];exact l3 _ aa
theorem zA{b:qw}{I:List (aQ×Int)}(Z:fu<100)(h:bC n c vs (aO (fu+1) l out)=some (1,aO (fu+1) l out))(C:dg bw ca n b vs (aO fu l out)=some (I,W)):da bw ca (n+1) (iy c b) vs (aO (fu+1) l out)=da bw ca n (iy c b) I W:=by
 have A:da bw ca (n+1) (iy c b) vs (aO (fu+1) l out)=(bC n c vs (aO (fu+1) l out)).bind fun r=>if r.1≠0/\r.2.fin=0 then if (cZ r.2).fin=0 then (dg bw ca n b vs (cZ r.2)).bind fun aC=>da bw ca n (iy c b) aC.1 aC.2 else da bw ca n (iy c b) vs (cZ r.2)else some (vs,r.2):=rfl
 rw[A,h,cD];simp only[GJ Z];rw[aD ⟨bO,rfl⟩,aD (show(aO fu l out).fin=0 from rfl),C,cD]
theorem zB{b:qw}(h:bC n c vs (aO fu l out)=some (0,aO fu l out)):da bw ca (n+1) (iy c b) vs (aO fu l out)=some (vs,aO fu l out):=by
 have A:da bw ca (n+1) (iy c b) vs (aO fu l out)=(bC n c vs (aO fu l out)).bind fun r=>if r.1≠0/\r.2.fin=0 then if (cZ r.2).fin=0 then (dg bw ca n b vs (cZ r.2)).bind fun aC=>da bw ca n (iy c b) aC.1 aC.2 else da bw ca n (iy c b) vs (cZ r.2)else some (vs,r.2):=rfl
 rw[A,h,cD];rw[aw (fun h=>h.1 rfl)]
def sn{k:Int}(h:bJ vs [s]=(j:Int)):bC (n+2) (jb 17 (fK s) (eK k)) vs (aO fu l out)=some (jK (decide ((j:Int)<k)),aO fu l out):=by
 rw[sh (.inr rfl) (lQ s) (jc k),h,zx]
def zC(V:j<2)(O:l.length=3)(Z:fu<100)(h:bJ vs [106]=(j:Int)):∃I,da bw ca (n+16) mT vs (aO (fu+1) l out)=da bw ca (n+15) mT I (aO fu (hC j l) out)/\bJ I [106]=((j+1:Nat):Int)/\bJ I [105]=bJ vs [105]:=by
 obtain⟨U,m,o⟩:=GI (n:=n+2) (fu:=fu) (l:=l) (out:=out) aa aa h;have F:bJ U [106]=(j:Int):=by rw[o 106 bO,h]
 refine⟨setV U [106] ((j+1:Nat):Int),zA Z ?_ ?_,sm,by rw[sk bO,o 105 bO]⟩
 .rw[sn (n:=n+13) h,sf aa];rfl
 .rw[fL,m,cD,fL,sj (n:=n+12) (si (n:=n+10) aa F),cD];exact o7
theorem GK(O:l.length=3)(Y:fu<90)(h:bJ vs [106]=0):∃I,dm bw ca (n+20) mT vs (aO (fu+2) l out)=some (I,aO fu (hC 1 (hC 0 l)) out)/\bJ I [105]=bJ vs [105]:=by
 obtain⟨U,cE,cK,fM⟩:=zC (n:=n+3) (j:=0) bO O (show fu+1<100 by omega) (out:=out) h;obtain⟨V,L,Z,m⟩:=zC (n:=n+2) (j:=1) bO ((uU 0 l).trans O) (show fu<100 by omega) (out:=out) cK;refine⟨V,?_,m.trans fM⟩;have A:dm bw ca (n+20) mT vs (aO (fu+2) l out)=da bw ca (n+19) mT vs (aO (fu+2) l out):=rfl;rw[A,cE,L];exact zB (n:=n+16) (by rw[sn (n:=n+14) Z];rfl)
def dn(l:qm):qm:=hC 1 (hC 0 l)
def mV(l:qm):(dn l).length=l.length:=by unfold dn;rw[uU,uU]
def uV{i:Nat}(Z:i<3)(O:l.length=3)(Y:fu<80)(h:bJ vs [105]=(i:Int)):∃I,da bw ca (n+24) mU vs (aO (fu+3) l out)=da bw ca (n+23) mU I (aO fu (dn l) out)/\bJ I [105]=((i+1:Nat):Int):=by
 obtain⟨U,cE,cK⟩:=GK (n:=n+1) (vs:=setV vs [106] 0) (out:=out) O (show fu<90 by omega) sm;have F:bJ U [105]=(i:Int):=by rw[cK,sk bO,h]
 refine⟨setV U [105] ((i+1:Nat):Int),zA aa ?_ ?_,sm⟩
 .rw[sn (n:=n+21) h,sf aa];rfl
 .rw[fL,sj (n:=n+21) (jc 0),cD,fL,cE,cD,fL,sj (n:=n+19) (x:=((i+1:Nat):Int)) (by rw[sh (.inl rfl) (lQ 105) (jc 1),F,zy aa]),cD];exact o7
theorem GL(O:l.length=3)(h:bJ vs [105]=0):∃I,dm bw ca (n+30) mU vs (aO 20 l out)=some (I,aO 11 (dn (dn (dn l))) out):=by
 obtain⟨U,cE,cK⟩:=uV (n:=n+5) (i:=0) bO O (show 17<80 by decide) (out:=out) h;obtain⟨V,L,Z⟩:=uV (n:=n+4) (i:=1) bO ((mV l).trans O) (show 14<80 by decide) (out:=out) cK;obtain⟨M,c1,c2⟩:=uV (n:=n+3) (i:=2) bO ((mV _).trans ((mV l).trans O)) (show 11<80 by decide) (out:=out) Z;refine⟨M,?_⟩;have A:dm bw ca (n+30) mU vs (aO 20 l out)=da bw ca (n+29) mU vs (aO 20 l out):=rfl;rw[A,cE,L,c1];exact zB (n:=n+25) (by rw[sn (n:=n+23) c2];rfl)
end
theorem GM(a b c:Int):∃bi ao aC,dn (dn (dn [a,b,c]))=[bi,ao,aC]/\ir bw ca 50 0 [a,b,c] (oZ bw 20)=some (0,aO 11 [bi,ao,aC] [bi,ao,aC]):=by
 have O:(dn (dn (dn [a,b,c]))).length=3:=by rw[mV,mV,mV];rfl
 obtain⟨bi,ao,aC,hr⟩:∃bi ao aC,dn (dn (dn [a,b,c]))=[bi,ao,aC]:=by
  match dn (dn (dn [a,b,c])),O with
  |[x,y,z],_=>exact⟨x,y,z,rfl⟩
 refine⟨bi,ao,aC,hr,?_⟩;have A:ir bw ca 50 0 [a,b,c] (oZ bw 20)=(dg bw ca 49 uS [([120],a),([121],b),([122],c)] (aO 20 [0,0,0] [])).bind fun r=>bC 49 (eK 0) r.1 r.2:=az;obtain⟨U,m⟩:=GL (n:=15) (vs:=[([120],a),([121],b),([122],c)]) (l:=[a,b,c]) (out:=[]) rfl rfl;have J:∀n out,dm bw ca (n+3) (ky (fp (eK 0))) U (aO 11 [bi,ao,aC] out)=some (U,aO 11 [bi,ao,aC] (out++[bi])):=fun n out=>uT (lR (k:=0) (jc 0) aK);have Z:∀n out,dm bw ca (n+3) (ky (fp (eK 1))) U (aO 11 [bi,ao,aC] out)=some (U,aO 11 [bi,ao,aC] (out++[ao])):=fun n out=>uT (lR (k:=1) (jc 1) aK);have Y:∀n out,dm bw ca (n+3) (ky (fp (eK 2))) U (aO 11 [bi,ao,aC] out)=some (U,aO 11 [bi,ao,aC] (out++[aC])):=fun n out=>uT (lR (k:=2) (jc 2) aK);rw[A,uS,fL (n:=48),o8 (n:=47) (k:=0) (x:=a) (jc 0) rfl aK,cD,fL (n:=47),o8 (n:=46) (k:=1) (x:=b) (jc 1) rfl aK,cD,fL (n:=46),o8 (n:=45) (k:=2) (x:=c) (jc 2) rfl aK,cD];simp only[List.set_cons_zero,List.set_cons_succ];rw[fL (n:=45),m,cD,hr,fL (n:=44),J 41,cD,fL (n:=43),Z 40,cD,fL (n:=42),Y 39,cD,o7 (n:=41),cD];rfl
def GN(n:Int):BitVec.ofInt 64 (IntKind.wrap .i64 n)=BitVec.ofInt 64 n:=by
 apply BitVec.eq_of_toInt_eq;rw[BitVec.toInt_ofInt,BitVec.toInt_ofInt];have h:IntKind.wrap .i64 n=if n%18446744073709551616>=9223372036854775808 then n%18446744073709551616-18446744073709551616 else n%18446744073709551616:=by
  unfold IntKind.wrap;simp only[IntKind.signed,IntKind.bits,oA];show(if decide (n%18446744073709551616>=9223372036854775808)=true then n%18446744073709551616-18446744073709551616 else n%18446744073709551616)=_;by_cases c:n%18446744073709551616>=9223372036854775808
  .rw[aD (sf c),aD c]
  .rw[aw (by simpa using c),aw c]
 rw[h];simp only[Int.bmod];split<;>omega
theorem o9(a b:Int):cQ 11 a b=IntKind.wrap .i64 ((BitVec.ofInt 64 a^^^ BitVec.ofInt 64 b).toNat:Int):=rfl
def zD(a b:Int):BitVec.ofInt 64 (cQ 11 a b)=BitVec.ofInt 64 a^^^ BitVec.ofInt 64 b:=by
 rw[o9,GN,BitVec.ofInt_natCast,BitVec.ofNat_toNat,BitVec.setWidth_eq]
def zE(p q r:Int):cQ 11 (cQ 11 q p) r=cQ 11 (cQ 11 p q) r:=by
 rw[o9 q p,o9 p q,BitVec.xor_comm]
def zF(p q r:Int):cQ 11 (cQ 11 p r) q=cQ 11 (cQ 11 p q) r:=by
 rw[o9 (cQ 11 p r),o9 (cQ 11 p q),zD,zD,BitVec.xor_assoc,BitVec.xor_assoc,BitVec.xor_comm (BitVec.ofInt 64 r)]
theorem GO(p q r:Int):hC 0 [p,q,r]=if q<p then [q,p,r]else [p,q,r]:=rfl
theorem zG(p q r:Int):hC 1 [p,q,r]=if r<q then [p,r,q]else [p,q,r]:=rfl
def uW(p q r:Int):∃x y z,dn [p,q,r]=[x,y,z]/\x=min p q/\y=min (max p q) r/\z=max (max p q) r/\cQ 11 (cQ 11 x y) z=cQ 11 (cQ 11 p q) r:=by
 rw[dn,GO];by_cases m:q<p
 .rw[aD m,zG];by_cases o:r<p
  .rw[aD o];exact⟨q,r,p,rfl,aa,aa,aa,by rw[zF,zE]⟩
  .rw[aw o];exact⟨q,p,r,rfl,aa,aa,aa,by rw[zE]⟩
 .rw[aw m,zG];by_cases o:r<q
  .rw[aD o];exact⟨p,r,q,rfl,aa,aa,aa,by rw[zF]⟩
  .rw[aw o];exact⟨p,q,r,rfl,aa,aa,aa,rfl⟩
def pc{a b c bi ao aC:Int}(h:dn (dn (dn [a,b,c]))=[bi,ao,aC]):bi<=ao/\ao<=aC/\bi=min (min a b) c/\aC=max (max a b) c/\cQ 11 (cQ 11 bi ao) aC=cQ 11 (cQ 11 a b) c:=by
 obtain⟨x,y,z,A,cE,cK,fM,er⟩:=uW a b c;obtain⟨L,C,V,W,Y,S,m,U⟩:=uW x y z;obtain⟨F,I,J,Z,c1,c2,c3,c4⟩:=uW L C V;rw[A,W,Z]at h;simp only[nR,df]at h;obtain⟨rfl,rfl,rfl⟩:=h;refine⟨aa,aa,aa,aa,c4.trans (U.trans er)⟩
def dp(f:FuncId):Bool:=f == 10||f == 15||f == 99999999||f == 18
structure Std (cfg:Cfg):Prop where
 plain:∀f,dp f=false->zac cfg f
 az:∀f,cfg.az f=false
 bS:cfg.bS=ml pls
theorem GP{l:List (FuncId×qh×AV)}(h:(l.all fun p=>dp p.1)=true):Std (xM [] pls l) where
 plain f hf:=by
  have O:∀p∈l,Nat.beq p.1 f=false:=fun p hp=>by
   have:=fU.1 h p hp;cases C:Nat.beq p.1 f with
   |false=>rfl
   |true=>rw[dN C,hf]at this;simp at this
  refine⟨fun o=>?_,?_,rfl⟩
  .show ji l f o=none;clear h;induction l with
   |nil=>rfl
   |cons p l ih=>
    simp only[ji,O p gN];exact ih fun q A=>O q (iN _ A)
  .show(l.any fun p=>Nat.beq p.1 f)=false;rw[List.any_eq_false];intro p hp;simp[O p hp]
 az _:=rfl
 bS:=rfl
def tyW6a.tyF:=ac @fE (ac @dF (ac @rP (ac @ES (ac @ET (ac @EU (ac @xz (ac @BP (@Gc))))))))
open tyW6a
noncomputable def zH:{c:SC // aI 4 (f67.body.getD .skip)=c}:=by
 refine⟨?_,?_⟩;rotate_left
 .simp only[f67,bQ,aI,bL,bB,bV,bW,Nat.blt,Nat.ble];rfl
noncomputable def zI:{c:SC // aI 15 (f33.body.getD .skip)=c}:=by
 refine⟨?_,?_⟩;rotate_left
 .simp only[f33,bQ,aI,bL,bB,bV,bW,Nat.blt,Nat.ble];rfl
noncomputable def zJ:{c:SC // aI 14 (f110.body.getD .skip)=c}:=by
 refine⟨?_,?_⟩;rotate_left
 .simp only[f110,bQ,aI,bL,bB,bV,bW,Nat.blt,Nat.ble];rfl
noncomputable def zK:{c:SC // aI 61 (f34.body.getD .skip)=c}:=by
 refine⟨?_,?_⟩;rotate_left
 .simp only[f34,bQ,aI,bL,bB,bV,bW,Nat.blt,Nat.ble];rfl
noncomputable def zL:{c:SC // aI 58 (f14.body.getD .skip)=c}:=by
 refine⟨?_,?_⟩;rotate_left
 .simp only[f14,bQ,aI,bL,bB,bV,bW,Nat.blt,Nat.ble];rfl
def GQ{cfg:Cfg}(ax:Std cfg)(b:Bool)(H:Hp):aL prog cfg 67 [.bool b] H fun v H'=>v=.int .i64 (jK b)/\H'=H:=by
 cases b<;>
 .refine bz (M:=4) (rs:=[.tmp 2]) ((ax.plain _ rfl).call _) (ax.plain _ rfl).aB (ax.plain _ rfl).an func67 rfl rfl zH.2 rfl ?_;dsimp only[zH,ba,Nat.reduceAdd];repeat' (first
   |(apply ai ?_;clear hK K)|apply Rx.o ?_|(apply bt (fun C Z=>?_) (fun C Z=>?_)<;>try(cases C;done))|apply ag ?_|(apply ah fun K hK=>?_)|apply aj ?_|apply aq ?_)
  all_goals refine qq ?_
  simp[jK]
theorem GR{cfg:Cfg}(ax:Std cfg)(a b:Int)(H:Hp):aL prog cfg 33 [.int .i64 a,.int .i64 b] H fun v H'=>v=.int .i64 (mM a b)/\H'=H:=by
 refine bz (M:=15) (rs:=[.tmp 4]) ((ax.plain _ rfl).call _) (ax.plain _ rfl).aB (ax.plain _ rfl).an func33 rfl rfl zI.2 rfl ?_;dsimp only[zI,ba,Nat.reduceAdd];repeat' (first
  |(apply ai ?_;clear hK K)|apply Rx.o ?_|(apply bt (fun C Z=>?_) (fun C Z=>?_)<;>try(cases C;done))|apply ag ?_|(apply ah fun K hK=>?_)|apply au ?_|apply aj ?_|apply aq ?_)
 .all_goals refine qq ?_
  simp_all[mM]
 .all_goals refine qq ?_
  simp_all[mM]
 .have A:b≠0:=by assumption
  repeat' (first
   |(apply ai ?_;clear hK K)|apply Rx.o ?_|(apply bt (fun C Z=>?_) (fun C Z=>?_)<;>try(cases C;done))|apply ag ?_|(apply ah fun K hK=>?_)|apply au ?_|apply aj ?_|apply aq ?_)
  all_goals refine qq ?_
  simp_all[mM]
theorem GS{cfg:Cfg}(ax:Std cfg)(op a:Int)(H:Hp):aL prog cfg 110 [.int .i64 op,.int .i64 a] H fun v H'=>v=.int .i64 (uH op a)/\H'=H:=by
 refine bz (M:=14) (rs:=[.tmp 4]) ((ax.plain _ rfl).call _) (ax.plain _ rfl).aB (ax.plain _ rfl).an func110 rfl rfl zJ.2 rfl ?_;dsimp only[zJ,ba,Nat.reduceAdd];repeat' (first
  |(apply ai ?_;clear hK K)|apply Rx.o ?_|(apply bt (fun C Z=>?_) (fun C Z=>?_)<;>try(cases C;done))|apply ag ?_|(apply ah fun K hK=>?_)|apply au ?_|apply aj ?_|apply aq ?_)
 all_goals refine qq ?_
 all_goals simp_all[uH]
theorem GT{cfg:Cfg}(ax:Std cfg)(op a b:Int)(H:Hp):aL prog cfg 34 [.int .i64 op,.int .i64 a,.int .i64 b] H fun v H'=>v=.int .i64 (uG op a b)/\H'=H:=by
 have L:=Ge b;have V:ct prog cfg.bC .shl 2 (.int .i64 a) (.int .u64 (jJ b))=_:=Gf L;have A:ct prog cfg.bC .shr 2 (.int .i64 a) (.int .u64 (jJ b))=_:=Ab.bin_shr L;have I:ct prog cfg.bC .shr 118 (.int .u64 (IntKind.wrap .u64 a)) (.int .u64 (jJ b))=_:=Ab.bin_shr L;unfold jJ at V A I;refine bz (M:=61) (rs:=[.tmp 6]) ((ax.plain _ rfl).call _) (ax.plain _ rfl).aB (ax.plain _ rfl).an func34 rfl rfl zK.2 rfl ?_;dsimp only[zK,ba,Nat.reduceAdd];repeat' (first
  |(apply ai ?_;clear hK K)|apply Rx.o ?_|(apply oI ?_;first|refine Rx.k (GQ ax _ _) ?_)|(apply bt (fun C Z=>?_) (fun C Z=>?_)<;>try(cases C;done))|apply ag ?_|(apply ah fun K hK=>?_)|apply au ?_|apply aj ?_|apply aq ?_)
 all_goals refine qq ?_
 all_goals simp_all[uG,jJ]
theorem zM{cfg:Cfg}(ax:Std cfg)(op a b:Int)(H:Hp):aL prog cfg 14 [.int .i64 op,.int .i64 a,.int .i64 b] H fun v H'=>v=.int .i64 (cQ op a b)/\H'=H:=by
 refine bz (M:=58) (rs:=[.tmp 6]) ((ax.plain _ rfl).call _) (ax.plain _ rfl).aB (ax.plain _ rfl).an func14 rfl rfl zL.2 rfl ?_;dsimp only[zL,ba,Nat.reduceAdd];repeat' (first
  |(apply ai ?_;clear hK K)|apply Rx.o ?_|(apply oI ?_;first|refine Rx.k (GR ax _ _ _) ?_|refine Rx.k (GT ax _ _ _ _) ?_)|(apply bt (fun C Z=>?_) (fun C Z=>?_)<;>try(cases C;done))|apply ag ?_|(apply ah fun K hK=>?_)|apply au ?_|apply aj ?_|apply aq ?_)
 all_goals refine qq ?_
 all_goals simp_all[cQ]
end
section
def tyW6b.tyF:=ac @dF (ac @iS (ac @kf (ac @lx (ac @ly (ac @lz (ac @fE (ac @uI (@zb))))))))
open tyW6b
noncomputable def so:{c:SC // aI 16 (f109.body.getD .skip)=c}:=by
 refine⟨?_,?_⟩;rotate_left
 .simp only[f109,bQ,aI,bL,bB,bV,bW,Nat.blt,Nat.ble];rfl
noncomputable def mW:{c:SC // aI 22 (f136.body.getD .skip)=c}:=by
 refine⟨?_,?_⟩;rotate_left
 .simp only[f136,bQ,aI,bL,bB,bV,bW,Nat.blt,Nat.ble];rfl
noncomputable def mX:{c:SC // aI 27 (f135.body.getD .skip)=c}:=by
 refine⟨?_,?_⟩;rotate_left
 .simp only[f135,bQ,aI,bL,bB,bV,bW,Nat.blt,Nat.ble];rfl
def lS{cfg:Cfg}(ax:Std cfg)(X:Mx)(s:MS)(ov:AV)(c:Int)(H:Hp)(A:zaa X H s ov):
 aL prog cfg 109 [.ptr X.rm 0,.int .i64 c] H fun v H'=>zaa X H' (ec c s) ov/\FrE X H H':=by
 have W:=A.m;unfold cJ at W;by_cases Y:s.fin=0
 .refine bz (M:=16) (rs:=[]) ((ax.plain _ rfl).call _) (ax.plain _ rfl).aB (ax.plain _ rfl).an func109 rfl rfl so.2 rfl ?_;dsimp only[so,ba,Nat.reduceAdd];repeat' (first
   |(apply ai ?_;clear hK K)|apply Ry.o ?_|apply aY ?_|(apply aE (fun C Z=>?_) (fun C Z=>?_)<;>try(cases C;done))|apply ag ?_|(apply ah fun K hK=>?_)|apply aj ?_)
  all_goals refine qq ?_
  have L:∀a b,FrE X H ((H.set X.rm a).set X.rm b):=fun a b=>((hy _ _).set (.inl rfl) _).set (.inl rfl) _;refine⟨A.dx (L _ _) ?_ ?_ ?_,L _ _⟩
  .simp only[a0,cy,cJ,ec,Y]
  .simp only[ec,Y,cy]
  .simp only[ec,Y,cy]
 .refine bz (M:=16) (rs:=[]) ((ax.plain _ rfl).call _) (ax.plain _ rfl).aB (ax.plain _ rfl).an func109 rfl rfl so.2 rfl ?_;dsimp only[so,ba,Nat.reduceAdd];repeat' (first
   |(apply ai ?_;clear hK K)|apply Ry.o ?_|apply aY ?_|(apply aE (fun C Z=>?_) (fun C Z=>?_)<;>try(cases C;done))|apply ag ?_|(apply ah fun K hK=>?_)|apply aj ?_)
  all_goals refine qq ?_
  rw[ec,aw Y];exact⟨A,hy _ _⟩
def zN{cfg:Cfg}(ax:Std cfg)(X:Mx)(s:MS)(ov:AV)(H:Hp)(A:zaa X H s ov):
 aL prog cfg 136 [.ptr X.rm 0] H fun v H'=>zaa X H' (cZ s) ov/\FrE X H H':=by
 have W:=A.m;unfold cJ at W;by_cases Y:s.fin=0
 .by_cases m:s.bG=0
  .refine bz (M:=22) (rs:=[]) ((ax.plain _ rfl).call _) (ax.plain _ rfl).aB (ax.plain _ rfl).an func136 rfl rfl mW.2 rfl ?_;dsimp only[mW,ba,Nat.reduceAdd];repeat' (first
    |(apply ai ?_;clear hK K)|apply Ry.o ?_|apply aY ?_|(apply aE (fun C Z=>?_) (fun C Z=>?_)<;>try(cases C;done))|apply ag ?_|(apply ah fun K hK=>?_)|apply aj ?_|apply aq ?_)
   all_goals refine qq ?_
   have L:∀a,FrE X H (H.set X.rm a):=fun a=>(hy _ _).set (.inl rfl) _;refine⟨A.dx (L _) ?_ ?_ ?_,L _⟩<;>simp[cZ,Y,m,cJ,a0]
  .refine bz (M:=22) (rs:=[]) ((ax.plain _ rfl).call _) (ax.plain _ rfl).aB (ax.plain _ rfl).an func136 rfl rfl mW.2 rfl ?_;dsimp only[mW,ba,Nat.reduceAdd];repeat' (first
    |(apply ai ?_;clear hK K)|apply Ry.o ?_|apply aY ?_|(apply aE (fun C Z=>?_) (fun C Z=>?_)<;>try(cases C;done))|apply ag ?_|(apply ah fun K hK=>?_)|apply aj ?_|apply aq ?_)
   all_goals refine qq ?_
   have L:∀a,FrE X H (H.set X.rm a):=fun a=>(hy _ _).set (.inl rfl) _;refine⟨A.dx (L _) ?_ ?_ ?_,L _⟩<;>simp[cZ,Y,m,cJ,a0]
 .refine bz (M:=22) (rs:=[]) ((ax.plain _ rfl).call _) (ax.plain _ rfl).aB (ax.plain _ rfl).an func136 rfl rfl mW.2 rfl ?_;dsimp only[mW,ba,Nat.reduceAdd];repeat' (first
   |(apply ai ?_;clear hK K)|apply Ry.o ?_|apply aY ?_|(apply aE (fun C Z=>?_) (fun C Z=>?_)<;>try(cases C;done))|apply ag ?_|(apply ah fun K hK=>?_)|apply aj ?_|apply aq ?_)
  all_goals refine qq ?_
  rw[cZ,aD Y];exact⟨A,hy _ _⟩
def GU{cfg:Cfg}(ax:Std cfg)(X:Mx)(s:MS)(ov:AV)(nm:aQ)(J:AV)(a x:Int)(H:Hp)(A:zaa X H s ov)(hL:jM X s nm J):
 aL prog cfg 135 [.ptr X.rm 0,J,.int .i64 a,.int .i64 x] H fun v H'=>zaa X H' (g9 nm a x s) ov/\FrA X H H':=by
 have hlen:dr prog H 50 J=_:=hL.len underlying50;by_cases O:a<0\/((cq s.cells nm).length:Int)<=a
 .rw[Gg O];have hbad2:¬a<0->((cq s.cells nm).length:Int)<=a:=fun h=>aa;refine bz (M:=27) (rs:=[]) ((ax.plain _ rfl).call _) (ax.plain _ rfl).aB (ax.plain _ rfl).an func135 rfl rfl mX.2 rfl ?_;dsimp only[mX,ba,Nat.reduceAdd];repeat' (first
   |(apply ai ?_;clear hK K)|apply Rx.o ?_|(apply gg (fun L U=>?_) (fun L U=>?_)<;>try(cases L;done))|(apply bt (fun C Z=>?_) (fun C Z=>?_)<;>try(cases C;done))|apply ag ?_|(apply ah fun K hK=>?_)|apply aj ?_)
  .refine qa ?_;refine aR ?_ (lS ax X s ov 2 H A);rintro v H2 ⟨Y,W⟩;dsimp only[aJ];have V:=Y.m;unfold cJ at V;have o:=uK 2 s;repeat' (first
    |(apply ai ?_;clear hK K)|apply Ry.o ?_|apply aY ?_|(apply a6 (fun L U=>?_) (fun L U=>?_)<;>try(cases L;done))|(apply aE (fun C Z=>?_) (fun C Z=>?_)<;>try(cases C;done))|apply ag ?_|(apply ah fun K hK=>?_)|apply aj ?_)
   all_goals refine qq ?_
   exact⟨Y,W.dM⟩
  .refine qa ?_;refine aR ?_ (lS ax X s ov 2 H A);rintro v H2 ⟨Y,W⟩;dsimp only[aJ];have V:=Y.m;unfold cJ at V;have o:=uK 2 s;repeat' (first
    |(apply ai ?_;clear hK K)|apply Ry.o ?_|apply aY ?_|(apply a6 (fun L U=>?_) (fun L U=>?_)<;>try(cases L;done))|(apply aE (fun C Z=>?_) (fun C Z=>?_)<;>try(cases C;done))|apply ag ?_|(apply ah fun K hK=>?_)|apply aj ?_)
   all_goals refine qq ?_
   exact⟨Y,W.dM⟩
 .have ha0:0<=a:=by omega
  have S:a<(cq s.cells nm).length:=aa;rw[Gi ha0 S];have h1:¬a<0:=aa;have h2:¬((cq s.cells nm).length:Int)<=a:=aa;have hm:=A.m;unfold cJ at hm;by_cases h0:s.fin=0
  .rcases hL with⟨rfl,h4,_⟩|⟨j,r,nm',hr,hc,rfl,F⟩
   .rw[h4]at S;simp at S;omega
   .have L:=A.cell j r nm' _ hr hc;have m:a.toNat<(cq s.cells nm).length:=aa;have hle:a.toNat+1<=(cq s.cells nm).length:=m;refine bz (M:=27) (rs:=[]) ((ax.plain _ rfl).call _) (ax.plain _ rfl).aB (ax.plain _ rfl).an func135 rfl rfl mX.2 rfl ?_;dsimp only[mX,ba,Nat.reduceAdd];repeat' (first
     |(apply ai ?_;clear hK K)|apply Ry.o ?_|apply aY ?_|(apply a6 (fun L U=>?_) (fun L U=>?_)<;>try(cases L;done))|(apply aE (fun C Z=>?_) (fun C Z=>?_)<;>try(cases C;done))|apply ag ?_|(apply ah fun K hK=>?_)|apply aj ?_)
    all_goals refine qq ?_
    rw[aD h0,F,jm,lD,j0,zb m];refine⟨A.cG hr hc aK,aA _,fun k hk I=>?_⟩;rw[a0,aw (fun e=>I (.inr (by rw[e];exact fY hr)))]
  .refine bz (M:=27) (rs:=[]) ((ax.plain _ rfl).call _) (ax.plain _ rfl).aB (ax.plain _ rfl).an func135 rfl rfl mX.2 rfl ?_;dsimp only[mX,ba,Nat.reduceAdd];repeat' (first
    |(apply ai ?_;clear hK K)|apply Ry.o ?_|apply aY ?_|(apply a6 (fun L U=>?_) (fun L U=>?_)<;>try(cases L;done))|(apply aE (fun C Z=>?_) (fun C Z=>?_)<;>try(cases C;done))|apply ag ?_|(apply ah fun K hK=>?_)|apply aj ?_)
   all_goals refine qq ?_
   rw[aw h0];exact⟨A,FrA.refl _ _⟩
end
section
def tyW6c.tyF:=ac @fE (ac @dF (ac @eV (ac @iS (ac @kf (ac @gV (ac @gy (ac @lx (ac @ly (ac @lz (@oE))))))))))
open tyW6c
noncomputable def hI:{c:SC // aI 123 (f66.body.getD .skip)=c}:=by
 refine⟨?_,?_⟩;rotate_left
 .simp only[f66,bQ,aI,bL,bB,bV,bW,Nat.blt,Nat.ble];rfl
def iz:fP prog 9=some .string:=az
def zO:fN prog 50=some .ab:=az
def GV:fN prog 2=some (.int .i64 0):=az
def GW(X:Mx)(r:Int×MS)(ov:AV)(H:Hp)(v:AV)(H':Hp):Prop:=v=.int .i64 r.1/\zaa X H' r.2 ov/\FrE X H H'
set_option maxRecDepth 100000 in
theorem jO{cfg:Cfg}(ax:Std cfg)(X:Mx):∀(n:Nat) (x:Ex) (vs:List (aQ×Int)) (s:MS) (r:Int×MS),bC n x vs s=some r ->
 ∀(rv:Nat) (ov:AV) (H:Hp),zaa X H s ov->H.get rv=some (.map (b9 vs))->rv<H.next->rv≠X.rm ->
 aL prog cfg 66 [.ptr X.rm 0,.agg x.cells,.map rv] H (GW X r ov H)
 |0,x,vs,s,r,h,rv,ov,H,hR,hv,hvl,hvm=>by simp[bC]at h
 |n+1,x,vs,s,r,h,rv,ov,H,hR,hv,hvl,hvm=>by
  have IH:=jO ax X n;have hm:=hR.m;unfold cJ at hm;have e1:(X.rm == H.next)=false:=gh (lO hR.lm);have e2:(rv == H.next)=false:=gh (lO hvl);have O:zaa X (H.alloc (.cells x.cells 0 true)) s ov:=hR.alloc _;have hv1:(H.alloc (.cells x.cells 0 true)).get rv=some (.map (b9 vs)):=by rw[wQ,e2];exact hv
  have I:rv<(H.alloc (.cells x.cells 0 true)).next:=dW
  have W:FrE X H (H.alloc (.cells x.cells 0 true)):=(hy _ _).alloc _;have hlook:=fun nm=>uL (P:=prog) underlying129 iz GV hv1 nm;have F:∀{r:Int×MS}{A:Hp},zaa X A r.2 ov->FrE X (H.alloc (.cells x.cells 0 true)) A->A.get H.next=some (.cells x.cells 0 true)/\A.get rv=some (.map (b9 vs))/\rv<A.next/\A.get X.rm=some (.cells (cJ X r.2 ov) 0 true):=fun{r A} L Y=>by
   have h1:=Y.next
   simp only[cb]at h1;refine⟨?_,?_,aa,L.m⟩
   .rw[Y.get _ dW (by have:=hR.lm;omega),aP,aD rfl]
   .rw[Y.get _ I hvm];exact hv1
  unfold bC at h;by_cases h0:s.fin≠0
  .rw[aD h0,ak]at h;subst h;refine bz (M:=123) (rs:=[.tmp 6]) ((ax.plain _ rfl).call _) (ax.plain _ rfl).aB (ax.plain _ rfl).an func66 rfl rfl hI.2 rfl ?_;dsimp only[hI,ba,Nat.reduceAdd];repeat' (first
    |(apply ai ?_;clear hK K)|apply Ry.o ?_|(apply aE (fun C Z=>?_) (fun C Z=>?_)<;>try(cases C;done))|apply ag ?_|(apply ah fun K hK=>?_)|(apply ad 9 [(2,6),(4,6),(10,6),(10,16),(12,6),(12,16),(13,6),(13,16)] fun K hK=>?_)|(apply aG ?_;try intro _)|(apply aH ?_ ?_<;>clear hK K)|apply aF ?_|apply au ?_|apply aj ?_|apply aq ?_)
   all_goals refine qq ?_
   exact⟨rfl,O,W⟩
  rw[aw h0]at h;have h0':s.fin=0:=aa;by_cases h1:x.ai=1
  .rw[aD h1,ak]at h;subst h;refine bz (M:=123) (rs:=[.tmp 6]) ((ax.plain _ rfl).call _) (ax.plain _ rfl).aB (ax.plain _ rfl).an func66 rfl rfl hI.2 rfl ?_;dsimp only[hI,ba,Nat.reduceAdd];repeat' (first
    |(apply ai ?_;clear hK K)|apply Ry.o ?_|(apply aE (fun C Z=>?_) (fun C Z=>?_)<;>try(cases C;done))|apply ag ?_|(apply ah fun K hK=>?_)|(apply ad 9 [(2,6),(4,6),(10,6),(10,16),(12,6),(12,16),(13,6),(13,16)] fun K hK=>?_)|(apply aG ?_;try intro _)|(apply aH ?_ ?_<;>clear hK K)|apply aF ?_|apply au ?_|apply aj ?_|apply aq ?_)
   all_goals refine qq ?_
   exact⟨rfl,O,W⟩
  rw[aw h1]at h;by_cases h2:x.ai=2
  .rw[aD h2,ak]at h;subst h;refine bz (M:=123) (rs:=[.tmp 6]) ((ax.plain _ rfl).call _) (ax.plain _ rfl).aB (ax.plain _ rfl).an func66 rfl rfl hI.2 rfl ?_;dsimp only[hI,ba,Nat.reduceAdd];repeat' (first
    |(apply ai ?_;clear hK K)|apply Ry.o ?_|(apply aE (fun C Z=>?_) (fun C Z=>?_)<;>try(cases C;done))|apply ag ?_|(apply ah fun K hK=>?_)|(apply ad 9 [(2,6),(4,6),(10,6),(10,16),(12,6),(12,16),(13,6),(13,16)] fun K hK=>?_)|(apply aG ?_;try intro _)|(apply aH ?_ ?_<;>clear hK K)|apply aF ?_|apply au ?_|apply aj ?_|apply aq ?_)
   all_goals refine qq ?_
   exact⟨rfl,O,W⟩
  rw[aw h2]at h;by_cases h3:x.ai=3
  .rw[aD h3]at h;simp only[aX]at h;obtain⟨k,hk,ao,he,h⟩:=h;refine bz (M:=123) (rs:=[.tmp 6]) ((ax.plain _ rfl).call _) (ax.plain _ rfl).aB (ax.plain _ rfl).an func66 rfl rfl hI.2 rfl ?_;dsimp only[hI,ba,Nat.reduceAdd];repeat' (first
    |(apply ai ?_;clear hK K)|apply Ry.o ?_|(apply aE (fun C Z=>?_) (fun C Z=>?_)<;>try(cases C;done))|apply ag ?_|(apply ah fun K hK=>?_)|(apply ad 9 [(2,6),(4,6),(10,6),(10,16),(12,6),(12,16),(13,6),(13,16)] fun K hK=>?_)|(apply aG ?_;try intro _)|(apply aH ?_ ?_<;>clear hK K)|apply aF ?_|apply au ?_|apply aj ?_|apply aq ?_)
   refine qa ?_;refine aR ?_ (IH k vs s ao he rv ov _ O hv1 I hvm);rintro v A ⟨rfl,L,Y⟩;obtain⟨g1,g2,g3,g4⟩:=F L Y;unfold cJ at g4;have hn2:H.next+1<=A.next:=Y.next
   obtain⟨lv,hl2,hL⟩:=L.bV (P:=prog) underlying90 iz zO x.name;have hl1:di prog (H.alloc (.cells x.cells 0 true)) 90 (.map X.rc) (.ad x.name) false=some lv:=by
    rw[<-hl2];exact(sc (Y.get _ O.lc hR.cD.symm) _ _ _).symm
   have hlen:∀H,dr prog H 50 lv=_:=fun H=>hL.len underlying50;dsimp only[aJ];repeat' (first
    |(apply ai ?_;clear hK K)|apply Rx.o ?_|apply gW ?_|(apply gg (fun V U=>?_) (fun V U=>?_)<;>try(cases V;done))|(apply bt (fun C Z=>?_) (fun C Z=>?_)<;>try(cases C;done))|apply ag ?_|(apply ah fun K hK=>?_)|(apply ad 9 [(2,6),(4,6),(10,6),(10,16),(12,6),(12,16),(13,6),(13,16)] fun K hK=>?_)|(apply aG ?_;try intro _)|(apply aH ?_ ?_<;>clear hK K)|apply aF ?_|apply au ?_|apply aj ?_|apply aq ?_)
   .exact cC
   .refine qa ?_;refine aR ?_ (lS ax X ao.2 ov 2 A L);rintro v H3 ⟨J,S⟩;dsimp only[aJ];repeat' (first
     |(apply ai ?_;clear hK K)|apply Rx.o ?_|apply gW ?_|(apply gg (fun V U=>?_) (fun V U=>?_)<;>try(cases V;done))|(apply bt (fun C Z=>?_) (fun C Z=>?_)<;>try(cases C;done))|apply ag ?_|(apply ah fun K hK=>?_)|(apply ad 9 [(2,6),(4,6),(10,6),(10,16),(12,6),(12,16),(13,6),(13,16)] fun K hK=>?_)|(apply aG ?_;try intro _)|(apply aH ?_ ?_<;>clear hK K)|apply aF ?_|apply au ?_|apply aj ?_|apply aq ?_)
    all_goals refine qq ?_
    have C:fJ ao.1 (cq ao.2.cells x.name)=true:=zl;rw[aD C,ak]at h;subst h;exact⟨rfl,J,W.trans (Y.trans S)⟩
   .have ha0:0<=ao.1:=by omega
    have hal:ao.1<(cq ao.2.cells x.name).length:=aa;have C:fJ ao.1 (cq ao.2.cells x.name)=false:=yY;rw[C,aw aK,ak]at h;subst h;rcases hL with⟨rfl,h4,_⟩|⟨j,r,nm',hr,hc,rfl,hset⟩
    .rw[h4]at hal;simp at hal;omega
    .have V:=L.cell j r nm' _ hr hc;have hlt:ao.1.toNat<(cq ao.2.cells x.name).length:=aa;have hga:=zd hlt;repeat' (first
      |(apply ai ?_;clear hK K)|apply Ry.o ?_|(apply aE (fun C Z=>?_) (fun C Z=>?_)<;>try(cases C;done))|apply ag ?_|(apply ah fun K hK=>?_)|(apply ad 9 [(2,6),(4,6),(10,6),(10,16),(12,6),(12,16),(13,6),(13,16)] fun K hK=>?_)|(apply aG ?_;try intro _)|(apply aH ?_ ?_<;>clear hK K)|apply aF ?_|apply au ?_|apply aj ?_|apply aq ?_)
     all_goals refine qq ?_
     exact⟨rfl,L,W.trans Y⟩
   .refine qa ?_;refine aR ?_ (lS ax X ao.2 ov 2 A L);rintro v H3 ⟨J,S⟩;dsimp only[aJ];repeat' (first
     |(apply ai ?_;clear hK K)|apply Rx.o ?_|apply gW ?_|(apply gg (fun V U=>?_) (fun V U=>?_)<;>try(cases V;done))|(apply bt (fun C Z=>?_) (fun C Z=>?_)<;>try(cases C;done))|apply ag ?_|(apply ah fun K hK=>?_)|(apply ad 9 [(2,6),(4,6),(10,6),(10,16),(12,6),(12,16),(13,6),(13,16)] fun K hK=>?_)|(apply aG ?_;try intro _)|(apply aH ?_ ?_<;>clear hK K)|apply aF ?_|apply au ?_|apply aj ?_|apply aq ?_)
    all_goals refine qq ?_
    have C:fJ ao.1 (cq ao.2.cells x.name)=true:=zl;rw[aD C,ak]at h;subst h;exact⟨rfl,J,W.trans (Y.trans S)⟩
  rw[aw h3]at h;by_cases h5:x.ai=5
  .rw[aD h5]at h;simp only[aX]at h;obtain⟨k,hk,ao,he,h⟩:=h;refine bz (M:=123) (rs:=[.tmp 6]) ((ax.plain _ rfl).call _) (ax.plain _ rfl).aB (ax.plain _ rfl).an func66 rfl rfl hI.2 rfl ?_;dsimp only[hI,ba,Nat.reduceAdd];repeat' (first
    |(apply ai ?_;clear hK K)|apply Ry.o ?_|(apply aE (fun C Z=>?_) (fun C Z=>?_)<;>try(cases C;done))|apply ag ?_|(apply ah fun K hK=>?_)|(apply ad 9 [(2,6),(4,6),(10,6),(10,16),(12,6),(12,16),(13,6),(13,16)] fun K hK=>?_)|(apply aG ?_;try intro _)|(apply aH ?_ ?_<;>clear hK K)|apply aF ?_|apply au ?_|apply aj ?_|apply aq ?_)
   refine qa ?_;refine aR ?_ (IH k vs s ao he rv ov _ O hv1 I hvm);rintro v A ⟨rfl,L,Y⟩;obtain⟨g1,g2,g3,g4⟩:=F L Y;dsimp only[aJ];by_cases hz:ao.1=0
   .rw[aw (by simp[hz])]at h;simp only[aX]at h;obtain⟨a4,hk2,o⟩:=h;repeat' (first
     |(apply ai ?_;clear hK K)|apply Ry.o ?_|(apply aE (fun C Z=>?_) (fun C Z=>?_)<;>try(cases C;done))|apply ag ?_|(apply ah fun K hK=>?_)|(apply ad 9 [(2,6),(4,6),(10,6),(10,16),(12,6),(12,16),(13,6),(13,16)] fun K hK=>?_)|(apply aG ?_;try intro _)|(apply aH ?_ ?_<;>clear hK K)|apply aF ?_|apply au ?_|apply aj ?_|apply aq ?_)
    refine qa ?_;refine aR ?_ (IH a4 vs ao.2 r o rv ov _ L g2 g3 hvm);rintro v H3 ⟨rfl,J,S⟩;dsimp only[aJ];repeat' (first
     |(apply ai ?_;clear hK K)|apply Rx.o ?_|apply gW ?_|(apply gg (fun V U=>?_) (fun V U=>?_)<;>try(cases V;done))|(apply bt (fun C Z=>?_) (fun C Z=>?_)<;>try(cases C;done))|apply ag ?_|(apply ah fun K hK=>?_)|(apply ad 9 [(2,6),(4,6),(10,6),(10,16),(12,6),(12,16),(13,6),(13,16)] fun K hK=>?_)|(apply aG ?_;try intro _)|(apply aH ?_ ?_<;>clear hK K)|apply aF ?_|apply au ?_|apply aj ?_|apply aq ?_)
    all_goals refine qq ?_
    exact⟨rfl,J,W.trans (Y.trans S)⟩
   .rw[aD hz]at h;simp only[aX]at h;obtain⟨a4,hk2,o⟩:=h;repeat' (first
     |(apply ai ?_;clear hK K)|apply Ry.o ?_|(apply aE (fun C Z=>?_) (fun C Z=>?_)<;>try(cases C;done))|apply ag ?_|(apply ah fun K hK=>?_)|(apply ad 9 [(2,6),(4,6),(10,6),(10,16),(12,6),(12,16),(13,6),(13,16)] fun K hK=>?_)|(apply aG ?_;try intro _)|(apply aH ?_ ?_<;>clear hK K)|apply aF ?_|apply au ?_|apply aj ?_|apply aq ?_)
    refine qa ?_;refine aR ?_ (IH a4 vs ao.2 r o rv ov _ L g2 g3 hvm);rintro v H3 ⟨rfl,J,S⟩;dsimp only[aJ];repeat' (first
     |(apply ai ?_;clear hK K)|apply Rx.o ?_|apply gW ?_|(apply gg (fun V U=>?_) (fun V U=>?_)<;>try(cases V;done))|(apply bt (fun C Z=>?_) (fun C Z=>?_)<;>try(cases C;done))|apply ag ?_|(apply ah fun K hK=>?_)|(apply ad 9 [(2,6),(4,6),(10,6),(10,16),(12,6),(12,16),(13,6),(13,16)] fun K hK=>?_)|(apply aG ?_;try intro _)|(apply aH ?_ ?_<;>clear hK K)|apply aF ?_|apply au ?_|apply aj ?_|apply aq ?_)
    all_goals refine qq ?_
    exact⟨rfl,J,W.trans (Y.trans S)⟩
  rw[aw h5]at h;simp only[aX]at h;obtain⟨k,hk,ao,he,h⟩:=h;refine bz (M:=123) (rs:=[.tmp 6]) ((ax.plain _ rfl).call _) (ax.plain _ rfl).aB (ax.plain _ rfl).an func66 rfl rfl hI.2 rfl ?_;dsimp only[hI,ba,Nat.reduceAdd];repeat' (first
   |(apply ai ?_;clear hK K)|apply Ry.o ?_|(apply aE (fun C Z=>?_) (fun C Z=>?_)<;>try(cases C;done))|apply ag ?_|(apply ah fun K hK=>?_)|(apply ad 9 [(2,6),(4,6),(10,6),(10,16),(12,6),(12,16),(13,6),(13,16)] fun K hK=>?_)|(apply aG ?_;try intro _)|(apply aH ?_ ?_<;>clear hK K)|apply aF ?_|apply au ?_|apply aj ?_|apply aq ?_)
  refine qa ?_;refine aR ?_ (IH k vs s ao he rv ov _ O hv1 I hvm);rintro v A ⟨rfl,L,Y⟩;obtain⟨g1,g2,g3,g4⟩:=F L Y;dsimp only[aJ];by_cases hz:x.aH.length=1
  .rw[aD hz,ak]at h;subst h;have hz':((x.aH.length:Nat):Int)=1:=aa;repeat' (first
    |(apply ai ?_;clear hK K)|apply Ry.o ?_|(apply bu ?_;first|refine Rx.k (GS ax _ _ _) ?_)|(apply aE (fun C Z=>?_) (fun C Z=>?_)<;>try(cases C;done))|apply ag ?_|(apply ah fun K hK=>?_)|(apply ad 9 [(2,6),(4,6),(10,6),(10,16),(12,6),(12,16),(13,6),(13,16)] fun K hK=>?_)|(apply aG ?_;try intro _)|(apply aH ?_ ?_<;>clear hK K)|apply aF ?_|apply au ?_|apply aj ?_|apply aq ?_)
   all_goals refine qq ?_
   exact⟨rfl,L,W.trans Y⟩
  rw[aw hz]at h;have hz':¬((x.aH.length:Nat):Int)=1:=aa;simp only[aX]at h;obtain⟨a4,hk2,aC,o,h⟩:=h;repeat' (first
   |(apply ai ?_;clear hK K)|apply Ry.o ?_|(apply aE (fun C Z=>?_) (fun C Z=>?_)<;>try(cases C;done))|apply ag ?_|(apply ah fun K hK=>?_)|(apply ad 9 [(2,6),(4,6),(10,6),(10,16),(12,6),(12,16),(13,6),(13,16)] fun K hK=>?_)|(apply aG ?_;try intro _)|(apply aH ?_ ?_<;>clear hK K)|apply aF ?_|apply au ?_|apply aj ?_|apply aq ?_)
  refine qa ?_;refine aR ?_ (IH a4 vs ao.2 aC o rv ov _ L g2 g3 hvm);rintro v H3 ⟨rfl,J,S⟩;have m:=Y.trans S;obtain⟨g5,g6,g7,g8⟩:=F J m;dsimp only[aJ];have key:(aC.1=0/\(x.op=7\/x.op=8)->r=(0,ec 1 aC.2))/\(¬(aC.1=0/\(x.op=7\/x.op=8))->r=(cQ x.op ao.1 aC.1,aC.2)):=by
   split at h
   .rename_i hc;exact⟨fun _=>oL,fun hn=>(hn hc).elim⟩
   .rename_i hc;exact⟨fun hn=>(hc hn).elim,fun _=>oL⟩
  clear h;repeat' (first
   |(apply ai ?_;clear hK K)|apply Rx.o ?_|(apply oI ?_;first|refine Rx.k (zM ax _ _ _ _) ?_)|apply gW ?_|(apply gg (fun V U=>?_) (fun V U=>?_)<;>try(cases V;done))|(apply bt (fun C Z=>?_) (fun C Z=>?_)<;>try(cases C;done))|apply ag ?_|(apply ah fun K hK=>?_)|(apply ad 9 [(2,6),(4,6),(10,6),(10,16),(12,6),(12,16),(13,6),(13,16)] fun K hK=>?_)|(apply aG ?_;try intro _)|(apply aH ?_ ?_<;>clear hK K)|apply aF ?_|apply au ?_|apply aj ?_|apply aq ?_)
  .refine qa ?_;refine aR ?_ (lS ax X aC.2 ov 1 H3 J);rintro v H4 ⟨hR4,hf4⟩;dsimp only[aJ];repeat' (first
    |(apply ai ?_;clear hK K)|apply Rx.o ?_|apply gW ?_|(apply gg (fun V U=>?_) (fun V U=>?_)<;>try(cases V;done))|(apply bt (fun C Z=>?_) (fun C Z=>?_)<;>try(cases C;done))|apply ag ?_|(apply ah fun K hK=>?_)|(apply ad 9 [(2,6),(4,6),(10,6),(10,16),(12,6),(12,16),(13,6),(13,16)] fun K hK=>?_)|(apply aG ?_;try intro _)|(apply aH ?_ ?_<;>clear hK K)|apply aF ?_|apply au ?_|apply aj ?_|apply aq ?_)
   all_goals refine qq ?_
   rw[key.1 aa];exact⟨rfl,hR4,W.trans (m.trans hf4)⟩
  .all_goals refine qq ?_
   rw[key.2 aa];exact⟨zp,J,W.trans m⟩
  .refine qa ?_;refine aR ?_ (lS ax X aC.2 ov 1 H3 J);rintro v H4 ⟨hR4,hf4⟩;dsimp only[aJ];repeat' (first
    |(apply ai ?_;clear hK K)|apply Rx.o ?_|apply gW ?_|(apply gg (fun V U=>?_) (fun V U=>?_)<;>try(cases V;done))|(apply bt (fun C Z=>?_) (fun C Z=>?_)<;>try(cases C;done))|apply ag ?_|(apply ah fun K hK=>?_)|(apply ad 9 [(2,6),(4,6),(10,6),(10,16),(12,6),(12,16),(13,6),(13,16)] fun K hK=>?_)|(apply aG ?_;try intro _)|(apply aH ?_ ?_<;>clear hK K)|apply aF ?_|apply au ?_|apply aj ?_|apply aq ?_)
   all_goals refine qq ?_
   rw[key.1 aa];exact⟨rfl,hR4,W.trans (m.trans hf4)⟩
  .all_goals refine qq ?_
   rw[key.2 aa];exact⟨zp,J,W.trans m⟩
end
section
def tyW6d.tyF:=ac @fE (ac @dF (ac @eV (ac @iS (ac @kf (ac @gV (ac @gy (ac @jC (ac @lx (ac @ly (ac @lz (ac @lB (@oE))))))))))))
open tyW6d
noncomputable def ft:{c:SC // aI 154 (f108.body.getD .skip)=c}:=by
 refine⟨?_,?_⟩;rotate_left
 .simp only[f108,bQ,aI,bL,bB,bV,bW,Nat.blt,Nat.ble];rfl
def jd(X:Mx)(W:Nat)(ov:AV)(H:Hp)(r:List (aQ×Int)×MS)(v:AV)(H':Hp):Prop:=∃Y,zaa X H' r.2 Y/\zab X H' W r.1 Y/\FrS X (·=W) ov H Y H'
def uX(cfg:Cfg)(X:Mx)(N:Nat):Prop:=∀x vs s r,dm X.p X.fi N x vs s=some r->x.sz<2^40->r.2.out.length<2^40->∀rv ov H,zaa X H s ov->zab X H rv vs ov ->
 aL prog cfg 108 [.ptr X.rm 0,.agg x.cells,.map rv] H (jd X rv ov H r)
def mY(cfg:Cfg)(X:Mx)(N:Nat):Prop:=∀l vs s r,dg X.p X.fi N l vs s=some r->gx l<2^40->r.2.out.length<2^40->∀rv ov H,zaa X H s ov->zab X H rv vs ov ->
 aL prog cfg 65 [.ptr X.rm 0,.af (l.map St.cells),.map rv] H (jd X rv ov H r)
def sq(cfg:Cfg)(X:Mx)(N:Nat):Prop:=∀k al s r,ir X.p X.fi N k al s=some r->r.2.out.length<2^40->al.length<2^40->∀m ov H,zaa X H s ov->iu H m al->(∀b,lN m b->b<H.next) ->
 aL prog cfg 32 [.ptr X.rm 0,.int .i64 k,m] H fun v H'=>v=.int .i64 r.1/\∃Y,zaa X H' r.2 Y/\FrS X (fun _=>False) ov H Y H'
def zP(H:Hp)(n:Int):eu prog H 50 1 [(0,.int .i64 n)]=some (.sl H.next 0 1 1,H.alloc (.cells [.int .i64 n] 0 true)):=az
def jM.congr{X:Mx}{s:MS}{nm:aQ}{A:AV}(h:jM X s nm A)(e:W.cells=s.cells):jM X W nm A:=by unfold jM;rw[e];exact h
section
variable {cfg:Cfg} (ax:Std cfg) (X:Mx) {x:St} {vs:List (aQ × Int)} {s:MS} {rv:Nat} {ov:AV} {H:Hp}
structure zag (X:Mx) (x:St) (vs:List (aQ×Int)) (s:MS) (rv:Nat) (ov:AV) (H H1:Hp):Prop where
 R:zaa X H1 s ov
 v:zab X H1 rv vs ov
 fr:FrS X (·=rv) ov H ov H1
 box:H1.get H.next=some (.cells x.cells 0 true)
 n:H.next+1<=H1.next
 m:H1.get X.rm=some (.cells (cJ X s ov) 0 true)
def zag.start(A:zaa X H s ov)(M:zab X H rv vs ov):zag X x vs s rv ov H (H.alloc (.cells x.cells 0 true)) where
 R:=A.alloc _
 v:=M.cQ ((hy _ _).alloc _)
 fr:=((hy _ _).alloc _).b2 _ _
 box:=gK
 n:=aA _
 m:=(A.alloc _).m
def kA:=@zag.start
def zag.expr{C H2:Hp}{o U:MS}(A:zaa X H o ov)(b:zag X x vs s rv ov H C)(L:zaa X H2 U ov)(f:FrE X C H2):zag X x vs U rv ov H H2 where
 R:=L
 v:=b.v.cQ f
 fr:=b.fr.trans (f.b2 _ _)
 box:=by rw[f.get _ (by have:=b.n;omega) (by have:=A.lm;omega)];exact b.box
 n:=dB b.n f.next
 m:=L.m
set_option maxRecDepth 100000 in
include ax in
def GX(o:x.ai=1){n:Nat}{ao:Int×MS}(F:bC n x.value vs s=some ao)(A:zaa X H s ov)(U:zab X H rv vs ov):
 aL prog cfg 108 [.ptr X.rm 0,.agg x.cells,.map rv] H (jd X rv ov H (setV vs x.name ao.1,ao.2)):=by
 have L:=kA (x:=x) X A U;have e1:(X.rm == H.next)=false:=gh (lO A.lm);refine bz (M:=154) (rs:=[]) ((ax.plain _ rfl).call _) (ax.plain _ rfl).aB (ax.plain _ rfl).an func108 rfl rfl ft.2 rfl ?_;dsimp only[ft,ba,Nat.reduceAdd];repeat' (first
  |(apply ai ?_;clear hK K)|apply Ry.o ?_|(apply aE (fun C Y=>?_) (fun C Y=>?_)<;>try(cases C;done))|apply ag ?_|(apply ah fun K hK=>?_)|(apply ad 3 [(2,7),(2,8),(5,7)] fun K hK=>?_)|(apply ad 5 [(4,12),(4,17),(4,18),(6,12),(6,17),(6,18),(7,12),(7,17),(7,18),(10,12),(15,12),(15,17)] fun K hK=>?_)|(apply ad 28 [(2,12),(2,13),(7,12),(9,12),(10,12)] fun K hK=>?_)|(apply aG ?_;try intro _)|(apply aH ?_ ?_<;>clear hK K)|apply aF ?_|apply a9 rfl ?_|apply au ?_)
 refine qa ?_;refine aR ?_ (jO ax X n x.value vs s ao F rv ov _ L.R L.v.get L.v.lt L.v.nm);rintro v m ⟨rfl,W,V⟩;have Z:=L.expr X A W V;have g2:=Z.box;have I:=Z.n;have hu:=sa (P:=prog) underlying129 iz Z.v.get x.name ao.1;dsimp only[aJ];repeat' (first
  |(apply ai ?_;clear hK K)|apply aU ?_|apply ag ?_|(apply ah fun K hK=>?_)|(apply ad 3 [(2,7),(2,8),(5,7)] fun K hK=>?_)|(apply ad 5 [(4,12),(4,17),(4,18),(6,12),(6,17),(6,18),(7,12),(7,17),(7,18),(10,12),(15,12),(15,17)] fun K hK=>?_)|(apply ad 28 [(2,12),(2,13),(7,12),(9,12),(10,12)] fun K hK=>?_)|(apply aG ?_;try intro _)|(apply aH ?_ ?_<;>clear hK K)|apply aF ?_|apply a9 rfl ?_|apply au ?_)
 .exact cC
 .all_goals refine qq ?_
  obtain⟨S,O,J⟩:=Z.R.setV Z.v (setV vs x.name ao.1);exact⟨ov,S,O,Z.fr.trans J⟩
set_option maxRecDepth 100000 in
include ax in
def GY(hk:x.ai=2){n:Nat}{ao aC:Int×MS}(he:bC n x.aU vs s=some ao)(V:bC n x.value vs ao.2=some aC)(A:zaa X H s ov)(hv:zab X H rv vs ov):
 aL prog cfg 108 [.ptr X.rm 0,.agg x.cells,.map rv] H (jd X rv ov H (vs,g9 x.name ao.1 aC.1 aC.2)):=by
 have W:=kA (x:=x) X A hv;have e1:(X.rm == H.next)=false:=gh (lO A.lm);have hm:=A.m;unfold cJ at hm;obtain⟨O,o,hL⟩:=W.R.bV (P:=prog) underlying90 iz zO x.name;refine bz (M:=154) (rs:=[]) ((ax.plain _ rfl).call _) (ax.plain _ rfl).aB (ax.plain _ rfl).an func108 rfl rfl ft.2 rfl ?_;dsimp only[ft,ba,Nat.reduceAdd];repeat' (first
  |(apply ai ?_;clear hK K)|apply Ry.o ?_|(apply aE (fun hb I=>?_) (fun hb I=>?_)<;>try(cases hb;done))|apply ag ?_|(apply ah fun K hK=>?_)|(apply ad 3 [(2,7),(2,8),(5,7)] fun K hK=>?_)|(apply ad 5 [(4,12),(4,17),(4,18),(6,12),(6,17),(6,18),(7,12),(7,17),(7,18),(10,12),(15,12),(15,17)] fun K hK=>?_)|(apply ad 28 [(2,12),(2,13),(7,12),(9,12),(10,12)] fun K hK=>?_)|(apply aG ?_;try intro _)|(apply aH ?_ ?_<;>clear hK K)|apply aF ?_|apply au ?_)
 refine qa ?_;refine aR ?_ (jO ax X n x.aU vs s ao he rv ov _ W.R W.v.get W.v.lt W.v.nm);rintro v H2 ⟨rfl,F,U⟩;have Y:=W.expr X A F U;have g2:=Y.box;have m2:=Y.m;unfold cJ at m2;have hn2:=Y.n;have hl2:di prog H2 90 (.map X.rc) (.ad x.name) false=some O:=by
  rw[<-o];exact sc (U.get _ W.R.lc A.cD.symm) _ _ _
 dsimp only[aJ];repeat' (first
  |(apply ai ?_;clear hK K)|apply Rx.o ?_|apply ag ?_|(apply ah fun K hK=>?_)|(apply ad 3 [(2,7),(2,8),(5,7)] fun K hK=>?_)|(apply ad 5 [(4,12),(4,17),(4,18),(6,12),(6,17),(6,18),(7,12),(7,17),(7,18),(10,12),(15,12),(15,17)] fun K hK=>?_)|(apply ad 28 [(2,12),(2,13),(7,12),(9,12),(10,12)] fun K hK=>?_)|(apply aG ?_;try intro _)|(apply aH ?_ ?_<;>clear hK K)|apply aF ?_|apply au ?_)
 refine qa ?_;refine aR ?_ (jO ax X n x.value vs ao.2 aC V rv ov _ Y.R Y.v.get Y.v.lt Y.v.nm);rintro v H3 ⟨rfl,J,L⟩;have m:=Y.expr X A J L;have g3:=m.box;have m3:=m.m;unfold cJ at m3;have hn3:=L.next
 have hl3:di prog H3 90 (.map X.rc) (.ad x.name) false=some O:=by
  rw[<-hl2];exact sc (L.get _ Y.R.lc A.cD.symm) _ _ _
 have hc:aC.2.cells=s.cells:=((hB _ _ _ _ _ V).2.1).trans (hB _ _ _ _ _ he).2.1;dsimp only[aJ];repeat' (first
  |(apply ai ?_;clear hK K)|apply Rx.o ?_|apply ag ?_|(apply ah fun K hK=>?_)|(apply ad 3 [(2,7),(2,8),(5,7)] fun K hK=>?_)|(apply ad 5 [(4,12),(4,17),(4,18),(6,12),(6,17),(6,18),(7,12),(7,17),(7,18),(10,12),(15,12),(15,17)] fun K hK=>?_)|(apply ad 28 [(2,12),(2,13),(7,12),(9,12),(10,12)] fun K hK=>?_)|(apply aG ?_;try intro _)|(apply aH ?_ ?_<;>clear hK K)|apply aF ?_|apply au ?_)
 refine qa ?_;refine aR ?_ (GU ax X aC.2 ov x.name O ao.1 aC.1 H3 J (jM.congr hL hc));rintro v C ⟨S,Z⟩;have hn4:=Z.next
 have f4:FrS X (·=rv) ov H ov C:=m.fr.trans (Z.b2 _ _);have g4:C.get H.next=some (.cells x.cells 0 true):=by
  rw[(Z.b2 (·=rv) ov).az A (aA _) aa (fun e=>by have:=hv.lt;omega)];exact g3
 have m4:=S.m;unfold cJ at m4;have hl4:di prog C 90 (.map X.rc) (.ad x.name) false=some O:=by
  rw[<-hl3];refine sc (Z.get _ m.R.lc ?_) _ _ _;rintro(e|e)
  .exact A.cD e.symm
  .exact A.cs e
 dsimp only[aJ];repeat' (first
  |(apply ai ?_;clear hK K)|apply Rx.o ?_|apply ag ?_|(apply ah fun K hK=>?_)|(apply ad 3 [(2,7),(2,8),(5,7)] fun K hK=>?_)|(apply ad 5 [(4,12),(4,17),(4,18),(6,12),(6,17),(6,18),(7,12),(7,17),(7,18),(10,12),(15,12),(15,17)] fun K hK=>?_)|(apply ad 28 [(2,12),(2,13),(7,12),(9,12),(10,12)] fun K hK=>?_)|(apply aG ?_;try intro _)|(apply aH ?_ ?_<;>clear hK K)|apply aF ?_|apply au ?_)
 .exact cC
 .all_goals refine qq ?_
  exact⟨ov,S,m.v.frA Z,f4⟩
end
end
variable{n:Nat}{v:AV}
section
def tyW6e.tyF:=ac @fE (ac @dF (ac @eV (ac @iS (ac @kf (ac @gV (ac @gy (ac @jC (ac @lx (ac @ly (ac @lz (ac @lB (ac @oE (@zP)))))))))))))
open tyW6e
section
variable {cfg:Cfg} (ax:Std cfg) (X:Mx) {x:St} {vs:List (aQ × Int)} {s:MS} {rv:Nat} {ov:AV} {H:Hp}
set_option maxRecDepth 100000 in
include ax in
def GZ(hk:x.ai=3){ao:Int×MS}(he:bC n x.value vs s=some ao)(o:(if ao.1≠0 then dg X.p X.fi n x.cC vs ao.2 else dg X.p X.fi n x.cS vs ao.2)=some r)
 (O:mY cfg X n) (hz:x.sz<2^40) (I:r.2.out.length<2^40) (A:zaa X H s ov) (hv:zab X H rv vs ov) :
 aL prog cfg 108 [.ptr X.rm 0,.agg x.cells,.map rv] H (jd X rv ov H r):=by
 have W:=kA (x:=x) X A hv;have e1:(X.rm == H.next)=false:=gh (lO A.lm);have hsz:=x.co;refine bz (M:=154) (rs:=[]) ((ax.plain _ rfl).call _) (ax.plain _ rfl).aB (ax.plain _ rfl).an func108 rfl rfl ft.2 rfl ?_;dsimp only[ft,ba,Nat.reduceAdd];repeat' (first
  |(apply ai ?_;clear hK K)|apply Ry.o ?_|(apply aE (fun C Z=>?_) (fun C Z=>?_)<;>try(cases C;done))|apply ag ?_|(apply ah fun K hK=>?_)|apply au ?_)
 refine qa ?_;refine aR ?_ (jO ax X n x.value vs s ao he rv ov _ W.R W.v.get W.v.lt W.v.nm);rintro v F ⟨rfl,V,S⟩;have Y:=W.expr X A V S;have g2:=Y.box;dsimp only[aJ];by_cases hc:ao.1=0
 .rw[aw (by simp[hc])]at o;repeat' (first
   |(apply ai ?_;clear hK K)|apply Ry.o ?_|(apply aE (fun C Z=>?_) (fun C Z=>?_)<;>try(cases C;done))|apply ag ?_|(apply ah fun K hK=>?_)|apply au ?_)
  refine qa ?_;refine aR ?_ (O x.cS vs ao.2 r o aa I rv ov F Y.R Y.v);rintro v H3 ⟨U,J,m,L⟩;dsimp only[aJ];repeat' (first
   |(apply ai ?_;clear hK K)|apply ag ?_|(apply ah fun K hK=>?_)|apply au ?_)
  all_goals refine qq ?_
  exact⟨U,J,m,Y.fr.trans L⟩
 .rw[aD hc]at o;repeat' (first
   |(apply ai ?_;clear hK K)|apply Ry.o ?_|(apply aE (fun C Z=>?_) (fun C Z=>?_)<;>try(cases C;done))|apply ag ?_|(apply ah fun K hK=>?_)|apply au ?_)
  refine qa ?_;refine aR ?_ (O x.cC vs ao.2 r o aa I rv ov F Y.R Y.v);rintro v H3 ⟨U,J,m,L⟩;dsimp only[aJ];repeat' (first
   |(apply ai ?_;clear hK K)|apply ag ?_|(apply ah fun K hK=>?_)|apply au ?_)
  all_goals refine qq ?_
  exact⟨U,J,m,Y.fr.trans L⟩
set_option maxRecDepth 100000 in
include ax in
def G3(hk:x.ai=5){ao:Int×MS}(he:bC n x.value vs s=some ao)(ho:(fl ao.1 ao.2).out.length<2^40)(A:zaa X H s ov)(hv:zab X H rv vs ov):
 aL prog cfg 108 [.ptr X.rm 0,.agg x.cells,.map rv] H (jd X rv ov H (vs,fl ao.1 ao.2)):=by
 have O:=kA (x:=x) X A hv;have e1:(X.rm == H.next)=false:=gh (lO A.lm);have o:cfg.az 108=false:=ax.az _;refine bz (M:=154) (rs:=[]) ((ax.plain _ rfl).call _) (ax.plain _ rfl).aB (ax.plain _ rfl).an func108 rfl rfl ft.2 rfl ?_;dsimp only[ft,ba,Nat.reduceAdd];repeat' (first
  |(apply ai ?_;clear hK K)|apply Ry.o ?_|apply aY ?_|(apply aE (fun Y Z=>?_) (fun Y Z=>?_)<;>try(cases Y;done))|apply ag ?_|(apply ah fun K hK=>?_)|apply au ?_|apply aj ?_)
 refine qa ?_;refine aR ?_ (jO ax X n x.value vs s ao he rv ov _ O.R O.v.get O.v.lt O.v.nm);rintro v V ⟨rfl,L,J⟩;have W:=O.expr X A L J;have g2:=W.box;have m2:=W.m;unfold cJ at m2;dsimp only[aJ];by_cases h0:ao.2.fin=0
 .have hlen:=zj ao.1 ao.2;have C:=L.alloc (.cells [.int .i64 ao.1] 0 true);obtain⟨H6,U,I,F,S⟩:=ze (P:=prog) (t:=50) underlying50 oD rL rM C.out.ints (r':=V.next) (x:=ao.1) gK aa;obtain⟨q1,q2⟩:=C.cY (x:=ao.1) h0 (aA _) I F S;have nb:¬gB ov X.rm:=fun⟨k,e⟩=>by
   rcases L.out with⟨m,_⟩|⟨ro,m,_,_,h4,_⟩
   .rw[m]at e;simp at e
   .rw[m]at e;simp only[AV.sl.injEq]at e;exact h4 (.inl e.1)
  have m6:H6.get X.rm=some (.cells (cJ X ao.2 ov) 0 true):=by rw[S _ C.lm nb];exact C.m
  have e2:(X.rm == V.next)=false:=gh (lO L.lm);have happ2:dh prog false (V.alloc (.cells [.int .i64 ao.1] 0 true)) 50 50 ov (.sl V.next 0 1 1)=some (.sl (V.next+1) 0 (ao.2.out.length+1) 1,H6):=U;unfold cJ at m6;repeat' (first
   |(apply ai ?_;clear hK K)|apply Ry.o ?_|apply aY ?_|(apply aE (fun Y Z=>?_) (fun Y Z=>?_)<;>try(cases Y;done))|apply ag ?_|(apply ah fun K hK=>?_)|apply au ?_|apply aj ?_)
  all_goals refine qq ?_
  have e3:HB.cells [AV.af (List.map Ar.cells X.p.ag),AV.af (List.map Fu.cells X.p.funcs),AV.map X.rc,AV.map X.rf,AV.int .i64 ao.2.bG,AV.int .i64 0,AV.int .i64 ao.2.aj,AV.sl (V.next+1) 0 (ao.2.out.length+1) 1] 0 true=.cells (cJ X (fl ao.1 ao.2) (.sl (V.next+1) 0 (ao.2.out.length+1) 1)) 0 true:=by
   simp only[cJ,fl,h0,cy]
  have hfr:FrS X (·=rv) ov V ov (V.alloc (.cells [.int .i64 ao.1] 0 true)):=((hy _ _).alloc _).b2 _ _;first|rw[e3]|trace_state
  refine⟨_,q1,(W.v.cQ ((hy _ _).alloc _)).dy q2 (fun e=>e),W.fr.trans (hfr.trans (q2.dl fun r _ e=>e.elim))⟩
 .have ho':fl ao.1 ao.2=ao.2:=by simp only[fl,h0,cT]
  repeat' (first
   |(apply ai ?_;clear hK K)|apply Ry.o ?_|apply aY ?_|(apply aE (fun Y Z=>?_) (fun Y Z=>?_)<;>try(cases Y;done))|apply ag ?_|(apply ah fun K hK=>?_)|apply au ?_|apply aj ?_)
  all_goals refine qq ?_
  rw[ho'];exact⟨ov,L,W.v,W.fr⟩
set_option maxRecDepth 100000 in
include ax in
def G4(S:x.ai=7)(A:zaa X H s ov)(U:zab X H rv vs ov):
 aL prog cfg 108 [.ptr X.rm 0,.agg x.cells,.map rv] H (jd X rv ov H (vs,ec (gQ (16+x.n)) s)):=by
 have W:=kA (x:=x) X A U;refine bz (M:=154) (rs:=[]) ((ax.plain _ rfl).call _) (ax.plain _ rfl).aB (ax.plain _ rfl).an func108 rfl rfl ft.2 rfl ?_;dsimp only[ft,ba,Nat.reduceAdd];repeat' (first
  |(apply ai ?_;clear hK K)|apply Ry.o ?_|(apply aE (fun C Z=>?_) (fun C Z=>?_)<;>try(cases C;done))|apply ag ?_|(apply ah fun K hK=>?_)|apply au ?_)
 refine qa ?_;refine aR ?_ (lS ax X s ov _ _ W.R);rintro v O ⟨L,Y⟩;have V:=W.expr X A L Y;dsimp only[aJ];repeat' (first
  |(apply ai ?_;clear hK K)|apply ag ?_|(apply ah fun K hK=>?_)|apply au ?_)
 all_goals refine qq ?_
 exact⟨ov,L,V.v,V.fr⟩
set_option maxRecDepth 100000 in
include ax in
def G5(m:¬x.ai=1)(o:¬x.ai=2)(F:¬x.ai=3)(W:¬x.ai=4)(J:¬x.ai=5)(O:¬x.ai=6)(V:¬x.ai=7)(A:zaa X H s ov)(Y:zab X H rv vs ov):
 aL prog cfg 108 [.ptr X.rm 0,.agg x.cells,.map rv] H (jd X rv ov H (vs,s)):=by
 have L:=kA (x:=x) X A Y;refine bz (M:=154) (rs:=[]) ((ax.plain _ rfl).call _) (ax.plain _ rfl).aB (ax.plain _ rfl).an func108 rfl rfl ft.2 rfl ?_;dsimp only[ft,ba,Nat.reduceAdd];repeat' (first
  |(apply ai ?_;clear hK K)|apply Ry.o ?_|(apply aE (fun C Z=>?_) (fun C Z=>?_)<;>try(cases C;done))|apply ag ?_|(apply ah fun K hK=>?_)|apply au ?_|apply aj ?_)
 all_goals refine qq ?_
 exact⟨ov,L.R,L.v,L.fr⟩
set_option maxRecDepth 100000 in
include ax in
def G6(hk:x.ai=4)(h:da X.p X.fi n x vs s=some r)(IH:∀m,m<n->mY cfg X m)(hz:x.sz<2^40)(ho:r.2.out.length<2^40)(hR:zaa X H s ov)(hv:zab X H rv vs ov):
 aL prog cfg 108 [.ptr X.rm 0,.agg x.cells,.map rv] H (jd X rv ov H r):=by
 have b1:=kA (x:=x) X hR hv;have hsz:=x.co;have box:∀{o:AV}{I:Hp},FrS X (·=rv) ov (H.alloc (.cells x.cells 0 true)) o I->I.get H.next=some (.cells x.cells 0 true):=fun{o I} f=>by
  rw[f.az hR (aA _) (eI _) (fun e=>by have:=hv.lt;omega)];exact b1.box
 refine bz (M:=154) (rs:=[]) ((ax.plain _ rfl).call _) (ax.plain _ rfl).aB (ax.plain _ rfl).an func108 rfl rfl ft.2 rfl ?_;dsimp only[ft,ba,Nat.reduceAdd];repeat' (first
  |(apply ai ?_;clear hK K)|apply Ry.o ?_|(apply a6 (fun L U=>?_) (fun L U=>?_)<;>try(cases L;done))|(apply aE (fun C Z=>?_) (fun C Z=>?_)<;>try(cases C;done))|apply ag ?_|(apply ah fun K hK=>?_)|apply au ?_|apply aj ?_|apply aB ?_)
 refine bc.loop (fun m E I=>∃W s2 o,m<=n/\da X.p X.fi m x W s2=some r/\E.at 0=.ptr X.rm 0/\E.at 2=.map rv/\E.at 4=.ptr H.next 0/\zaa X I s2 o/\zab X I rv W o/\FrS X (·=rv) ov (H.alloc (.cells x.cells 0 true)) o I) ?_ (n:=n) ?_
 .rintro m E I ⟨W,s2,o,hmn,Y,fw,a4,iA,hR2,O,hf2⟩;cases m with
  |zero=>simp[da]at Y
  |succ m=>
   unfold da at Y;simp only[aX]at Y;obtain⟨ao,he,Y⟩:=Y;have kb:=box hf2;repeat' (first
    |(apply ai ?_;clear hK K)|apply Rx.o ?_|apply ag ?_|(apply ah fun K hK=>?_)|apply au ?_|apply aj ?_|apply aB ?_)
   refine qa ?_;refine aR ?_ (jO ax X m x.value W s2 ao he rv o _ hR2 O.get O.lt O.nm);rintro v H3 ⟨rfl,J,hf3⟩;have hv3:=O.cQ hf3;have V:=hf2.trans (hf3.b2 _ _);have m3:=J.m;unfold cJ at m3;dsimp only[aJ];by_cases hc:ao.1≠0/\ao.2.fin=0
   .obtain⟨A,hc2⟩:=hc;rw[aD ⟨A,hc2⟩]at Y;repeat' (first
     |(apply ai ?_;clear hK K)|apply Ry.o ?_|(apply a6 (fun L U=>?_) (fun L U=>?_)<;>try(cases L;done))|(apply aE (fun C Z=>?_) (fun C Z=>?_)<;>try(cases C;done))|apply ag ?_|(apply ah fun K hK=>?_)|apply au ?_|apply aj ?_|apply aB ?_)
    refine qa ?_;refine aR ?_ (zN ax X ao.2 o H3 J);rintro v H4 ⟨F,hf4⟩;have hv4:=hv3.cQ hf4;have S:=V.trans (hf4.b2 _ _);have kb4:=box S;have m4:=F.m;unfold cJ at m4;dsimp only[aJ];by_cases ht:(cZ ao.2).fin=0
    .rw[aD ht]at Y;simp only[aX]at Y;obtain⟨aC,hs2,Y⟩:=Y;repeat' (first
      |(apply ai ?_;clear hK K)|apply Ry.o ?_|(apply a6 (fun L U=>?_) (fun L U=>?_)<;>try(cases L;done))|(apply aE (fun C Z=>?_) (fun C Z=>?_)<;>try(cases C;done))|apply ag ?_|(apply ah fun K hK=>?_)|apply au ?_|apply aj ?_|apply aB ?_)
     refine qa ?_;refine aR ?_ (IH m aa x.cC W _ aC hs2 aa (Nat.lt_of_le_of_lt ((uO _ _ _).2.2.1 _ _ _ _ Y) ho) rv o H4 F hv4);rintro v H5 ⟨ov5,hR5,hv5,hf5⟩;dsimp only[aJ];repeat' (first
      |(apply ai ?_;clear hK K)|apply Rx.o ?_|apply ag ?_|(apply ah fun K hK=>?_)|apply au ?_|apply aj ?_|apply aB ?_)
     exact⟨m,eI m,aC.1,aC.2,ov5,aa,Y,eE,eE,eE,hR5,hv5,S.trans hf5⟩
    .rw[aw ht]at Y;repeat' (first
      |(apply ai ?_;clear hK K)|apply Ry.o ?_|(apply a6 (fun L U=>?_) (fun L U=>?_)<;>try(cases L;done))|(apply aE (fun C Z=>?_) (fun C Z=>?_)<;>try(cases C;done))|apply ag ?_|(apply ah fun K hK=>?_)|apply au ?_|apply aj ?_|apply aB ?_)
     exact⟨m,eI m,W,_,o,aa,Y,eE,eE,eE,F,hv4,S⟩
   .rw[aw hc]at Y;simp only[ak]at Y;subst Y;have fr0:FrS X (·=rv) ov H ov (H.alloc (.cells x.cells 0 true)):=b1.fr;by_cases A:ao.1=0
    .repeat' (first
      |(apply ai ?_;clear hK K)|apply Ry.o ?_|(apply a6 (fun L U=>?_) (fun L U=>?_)<;>try(cases L;done))|(apply aE (fun C Z=>?_) (fun C Z=>?_)<;>try(cases C;done))|apply ag ?_|(apply ah fun K hK=>?_)|apply au ?_|apply aj ?_|apply aB ?_)
     all_goals refine qq ?_
     exact⟨o,J,hv3,fr0.trans V⟩
    .have hc2:¬ao.2.fin=0:=fun e=>hc ⟨A,e⟩;repeat' (first
      |(apply ai ?_;clear hK K)|apply Ry.o ?_|(apply a6 (fun L U=>?_) (fun L U=>?_)<;>try(cases L;done))|(apply aE (fun C Z=>?_) (fun C Z=>?_)<;>try(cases C;done))|apply ag ?_|(apply ah fun K hK=>?_)|apply au ?_|apply aj ?_|apply aB ?_)
     all_goals refine qq ?_
     exact⟨o,J,hv3,fr0.trans V⟩
 .exact⟨vs,s,ov,aA _,h,eE,eE,eE,b1.R,b1.v,FrS.refl _ _ _ _⟩
end
end
section
def tyW6f.tyF:=ac @fE (ac @dF (ac @eV (ac @my (ac @mz (ac @iS (ac @kf (ac @gV (ac @gy (ac @lr (ac @jC (ac @mA (ac @lx (ac @ly (ac @lz (ac @lB (ac @oE (@zP)))))))))))))))))
open tyW6f
noncomputable def zQ:{c:SC // aI 27 (f65.body.getD .skip)=c}:=by
 refine⟨?_,?_⟩;rotate_left
 .simp only[f65,bQ,aI,bL,bB,bV,bW,Nat.blt,Nat.ble];rfl
noncomputable def zR:{c:SC // aI 45 (f32.body.getD .skip)=c}:=by
 refine⟨?_,?_⟩;rotate_left
 .simp only[f32,bQ,aI,bL,bB,bV,bW,Nat.blt,Nat.ble];rfl
def je(b:Nat)(H:Hp)(v:AV)(l:qm):Prop:=(v=.ab/\l=[])\/∃r,v=.sl r 0 l.length 1/\H.get r=some (.cells (ints l) 0 true)/\b<=r/\r<H.next
def je.ints(h:je b H v l):kw H v l:=by
 rcases h with h|⟨r,m,o,_⟩
 .exact .inl h
 .exact .inr ⟨r,m,o⟩
def je.lt(h:je b H v l):∀k,gB v k->b<=k/\k<H.next:=fun k ⟨n,e⟩=>by
 rcases h with⟨h,_⟩|⟨r,m,o,F,Y⟩
 .rw[h]at e;simp at e
 .rw[m]at e;simp only[AV.sl.injEq]at e;omega
def je.slb(h:je b H v l):∀k,lN v k->k<H.next:=fun k ⟨o,n,z,e⟩=>by
 rcases h with⟨h,_⟩|⟨r,m,Z,F,Y⟩
 .rw[h]at e;simp at e
 .rw[m]at e;simp only[AV.sl.injEq]at e;omega
def je.mono(h:je b H v l)(S:H.next<=H'.next)(L:∀k,b<=k->k<H.next->H'.get k=H.get k):je b H' v l:=by
 rcases h with h|⟨r,m,o,F,Y⟩
 .exact .inl h
 .exact .inr ⟨r,m,by rw[L r F Y];exact o,F,aa⟩
section
variable {cfg:Cfg} (ax:Std cfg) (X:Mx) {x:St} {vs:List (aQ × Int)} {s:MS} {rv:Nat} {ov:AV} {H:Hp}
set_option maxRecDepth 100000 in
include ax in
def G7(hk:x.ai=6){W:qm×MS}(ha:jL n x.args vs s=some W)
 (o:(if (cZ W.2).fin=0 then (ir X.p X.fi n (bJ X.fi x.to) W.1 (cZ W.2)).bind fun aC=>some (setV vs x.name aC.1,aC.2)else some (vs,cZ W.2))=some r)
 (IH:sq cfg X n) (hz:x.sz<2^40) (ho:r.2.out.length<2^40) (A:zaa X H s ov) (hv:zab X H rv vs ov) :
 aL prog cfg 108 [.ptr X.rm 0,.agg x.cells,.map rv] H (jd X rv ov H r):=by
 have b1:=kA (x:=x) X A hv;have hsz:=x.co;have hal:=wV x.args;have hral:=(uN _ _ _ _ ha).2.2.2;have hkeep:cfg.az 108=false:=ax.az _;refine bz (M:=154) (rs:=[]) ((ax.plain _ rfl).call _) (ax.plain _ rfl).aB (ax.plain _ rfl).an func108 rfl rfl ft.2 rfl ?_;dsimp only[ft,ba,Nat.reduceAdd];repeat' (first
  |(apply ai ?_;clear hK K)|apply Ry.o ?_|(apply aE (fun C Z=>?_) (fun C Z=>?_)<;>try(cases C;done))|apply ag ?_|(apply ah fun K hK=>?_)|(apply ad 3 [(2,7),(2,8),(5,7)] fun K hK=>?_)|(apply ad 5 [(4,12),(4,17),(4,18),(6,12),(6,17),(6,18),(7,12),(7,17),(7,18),(10,12),(15,12),(15,17)] fun K hK=>?_)|(apply ad 28 [(2,12),(2,13),(7,12),(9,12),(10,12)] fun K hK=>?_)|(apply aG ?_;try intro _)|(apply aH ?_ ?_<;>clear hK K)|apply aF ?_|apply a9 rfl ?_|apply au ?_|apply aj ?_|apply aB ?_)
 refine j7 (fun i E U=>∃s2,jL n (x.args.drop i) vs s2=some (W.1.drop i,W.2)/\E.at 0=.ptr X.rm 0/\E.at 2=.map rv/\E.at 4=.ptr H.next 0/\E.at 113=.af (x.args.map Ex.cells)/\E.at 114=.int .i64 x.args.length/\E.at 115=.int .i64 i /\
  je (H.next+1) U (E.at 7) (W.1.take i)/\zaa X U s2 ov/\FrE X (H.alloc (.cells x.cells 0 true)) U) x.args.length ?_ ?_
 .rintro i E U hi ⟨s2,V,fw,a4,iA,k113,k114,k115,jf,hR2,S⟩;repeat' (first
   |(apply ai ?_;clear hK K)|apply Rx.o ?_|apply aU ?_|(apply bt (fun C Z=>?_) (fun C Z=>?_)<;>try(cases C;done))|apply ag ?_|(apply ah fun K hK=>?_)|(apply ad 3 [(2,7),(2,8),(5,7)] fun K hK=>?_)|(apply ad 5 [(4,12),(4,17),(4,18),(6,12),(6,17),(6,18),(7,12),(7,17),(7,18),(10,12),(15,12),(15,17)] fun K hK=>?_)|(apply ad 28 [(2,12),(2,13),(7,12),(9,12),(10,12)] fun K hK=>?_)|(apply aG ?_;try intro _)|(apply aH ?_ ?_<;>clear hK K)|apply aF ?_|apply a9 rfl ?_|apply au ?_|apply aj ?_|apply aB ?_)
  .have hlt:i<x.args.length:=by simpa using C
   have hgx:x.args[i]?=some x.args[i]:=bq hlt;have hxm:=w3 (jn hlt);rw[il hlt]at V;simp only[jL,aX,bm]at V;obtain⟨ao,he,aC,V,hd,h22⟩:=V;repeat' (first
    |(apply ai ?_;clear hK K)|apply Rx.o ?_|apply aU ?_|(apply bt (fun C Z=>?_) (fun C Z=>?_)<;>try(cases C;done))|apply ag ?_|(apply ah fun K hK=>?_)|(apply ad 3 [(2,7),(2,8),(5,7)] fun K hK=>?_)|(apply ad 5 [(4,12),(4,17),(4,18),(6,12),(6,17),(6,18),(7,12),(7,17),(7,18),(10,12),(15,12),(15,17)] fun K hK=>?_)|(apply ad 28 [(2,12),(2,13),(7,12),(9,12),(10,12)] fun K hK=>?_)|(apply aG ?_;try intro _)|(apply aH ?_ ?_<;>clear hK K)|apply aF ?_|apply a9 rfl ?_|apply au ?_|apply aj ?_|apply aB ?_)
   generalize hH3:Hp.set _ U.next _=F
   have hn3:F.next=U.next+1:=by rw[<-hH3];rfl
   have hg3:∀k,k<U.next->F.get k=U.get k:=fun k hk=>by rw[<-hH3,a0,aw aa,aP,aw aa]
   have hb3:F.get U.next=some (.cells x.args[i].cells 0 true):=by rw[<-hH3,a0,aD rfl]
   have J:zaa X F s2 ov:=hR2.av aa hg3;have L:FrE X (H.alloc (.cells x.cells 0 true)) F:=S.trans ⟨aa,fun k h1 _=>hg3 k h1⟩;have m:=b1.v.cQ L;have k73:=jf.mono (H':=F) aa fun k _ h=>hg3 k h;repeat' (first
    |(apply ai ?_;clear hK K)|apply Rx.o ?_|apply aU ?_|(apply bt (fun C Z=>?_) (fun C Z=>?_)<;>try(cases C;done))|apply ag ?_|(apply ah fun K hK=>?_)|(apply ad 3 [(2,7),(2,8),(5,7)] fun K hK=>?_)|(apply ad 5 [(4,12),(4,17),(4,18),(6,12),(6,17),(6,18),(7,12),(7,17),(7,18),(10,12),(15,12),(15,17)] fun K hK=>?_)|(apply ad 28 [(2,12),(2,13),(7,12),(9,12),(10,12)] fun K hK=>?_)|(apply aG ?_;try intro _)|(apply aH ?_ ?_<;>clear hK K)|apply aF ?_|apply a9 rfl ?_|apply au ?_|apply aj ?_|apply aB ?_)
   refine qa ?_;refine aR ?_ (jO ax X n x.args[i] vs s2 ao he rv ov _ J m.get m.lt m.nm);rintro v O ⟨rfl,I,Y⟩;have hn4:=Y.next
   have hlm:=A.lm;have k74:=k73.mono (H':=O) Y.next fun k h1 o=>Y.get k o aa
   have k75:=k74.mono (H':=O.alloc (.cells [.int .i64 ao.1] 0 true)) (fB _) fun k h1 o=>hZ;obtain⟨H6,happ,hn6,hg6,hk6⟩:=ze (P:=prog) (t:=50) underlying50 oD rL rM k75.ints (r':=O.next) (x:=ao.1) gK nN;have hlt2:i<W.1.length:=aa;have htl:(W.1.take i).length=i:=nN;rw[htl]at happ;have happ2:dh prog false (O.alloc (.cells [.int .i64 ao.1] 0 true)) 50 50 (E.at 7) (.sl O.next 0 1 1)=some (.sl (O.next+1) 0 (i+1) 1,H6):=happ;have hk6':∀k,k<H.next+1->H6.get k=O.get k:=fun k hk=>by
    rw[hk6 k (by simp only[cb];have:=L.next;simp only[cb]at this;omega) (fun e=>by have:=(k75.lt k e).1;omega),aP,aw (by have:=L.next;simp only[cb]at this;omega)]
   have hn6':H6.next=O.next+2:=hn6
   have hR6:zaa X H6 ao.2 ov:=by
    refine I.cz aa fun k h1 o=>hk6' k ?_;rcases o with o|o|o|o
    .have:=A.bt o;omega
    .have:=A.lc;omega
    .have:=A.lf;omega
    .have:=A.bU o;omega
   have hdrop:W.1.drop (i+1)=aC.1:=by
    rw[<-List.tail_drop,<-hd,List.tail_cons]
   have hget:W.1[i]?=some ao.1:=by
    rw[<-List.head?_drop,<-hd];rfl
   dsimp only[aJ];repeat' (first
    |(apply ai ?_;clear hK K)|apply Rx.o ?_|apply aU ?_|(apply bt (fun C Z=>?_) (fun C Z=>?_)<;>try(cases C;done))|apply ag ?_|(apply ah fun K hK=>?_)|(apply ad 3 [(2,7),(2,8),(5,7)] fun K hK=>?_)|(apply ad 5 [(4,12),(4,17),(4,18),(6,12),(6,17),(6,18),(7,12),(7,17),(7,18),(10,12),(15,12),(15,17)] fun K hK=>?_)|(apply ad 28 [(2,12),(2,13),(7,12),(9,12),(10,12)] fun K hK=>?_)|(apply aG ?_;try intro _)|(apply aH ?_ ?_<;>clear hK K)|apply aF ?_|apply a9 rfl ?_|apply au ?_|apply aj ?_|apply aB ?_)
   refine⟨hlt,ao.2,?_,eE,eE,eE,eE,eE,?_,?_,hR6,⟨by have:=L.next;omega,fun k h1 o=>?_⟩⟩
   .rw[hdrop,V,<-h22]
   .simp only[jw,Nat.reduceBEq,mR,mp (show i<2^62 by omega)]
   .refine .inr ⟨O.next+1,?_,?_,by have:=L.next;simp only[cb]at this;omega,aa⟩
    .simp only[jw,Nat.reduceBEq,mR,rl,kQ];rw[Nat.min_eq_left aa]
    .rw[show W.1.take (i+1)=W.1.take i++[ao.1] by rw[l1,hget];rfl];exact hg6
   .have h1':k<H.next+1:=h1
    have h3':=L.next
    rw[hk6' k h1',Y.get k aa o];exact L.get k h1 o
  .have hia:i=x.args.length:=by simp at C;omega
   subst hia;have hd0:W.1.drop x.args.length=[]:=kP aa;rw[kP (aA _)]at V;simp only[jL,bm]at V;obtain⟨_,rfl⟩:=V;rw[iI aa]at jf;clear C Z;have hf2':FrS X (·=rv) ov H ov U:=b1.fr.trans (S.b2 _ _);have hv2:=b1.v.cQ S;have kb2:U.get H.next=some (.cells x.cells 0 true):=by rw[S.get _ (eI _) (by have:=A.lm;omega)];exact b1.box
   have hn2:=S.next
   simp only[cb]at hn2;refine qa ?_;refine aR ?_ (zN ax X W.2 ov U hR2);rintro v F ⟨J,L⟩;have hn3:=L.next
   have m:=hv2.cQ L;have hf3':=hf2'.trans (L.b2 _ _);have kb3:F.get H.next=some (.cells x.cells 0 true):=by rw[L.get _ aa (by have:=A.lm;omega)];exact kb2
   have hlm:=A.lm;have k73:=jf.mono (H':=F) L.next fun k h1 o=>L.get k o aa
   have m3:=J.m;unfold cJ at m3;dsimp only[aJ];by_cases ht:(cZ W.2).fin=0
   .rw[aD ht]at o;simp only[aX,ak]at o;obtain⟨aC,hc,rfl⟩:=o;have hlf:=uL (P:=prog) underlying83 iz (show fN prog 3=some (.int .i64 0) by kernel_rfl) J.f x.to;repeat' (first
     |(apply ai ?_;clear hK K)|apply Ry.o ?_|(apply aE (fun C Z=>?_) (fun C Z=>?_)<;>try(cases C;done))|apply ag ?_|(apply ah fun K hK=>?_)|(apply ad 3 [(2,7),(2,8),(5,7)] fun K hK=>?_)|(apply ad 5 [(4,12),(4,17),(4,18),(6,12),(6,17),(6,18),(7,12),(7,17),(7,18),(10,12),(15,12),(15,17)] fun K hK=>?_)|(apply ad 28 [(2,12),(2,13),(7,12),(9,12),(10,12)] fun K hK=>?_)|(apply aG ?_;try intro _)|(apply aH ?_ ?_<;>clear hK K)|apply aF ?_|apply a9 rfl ?_|apply au ?_|apply aj ?_|apply aB ?_)
    refine qa ?_;refine aR ?_ (IH _ _ _ aC hc ho aa (E.at 7) ov F J k73.ints.cW (fun b C=>k73.slb b C));rintro v O ⟨rfl,ov4,I,Y⟩;have hn4:=Y.next
    have hv4:=m.dy Y (fun e=>e);have m4:=I.m;unfold cJ at m4;have kb4:O.get H.next=some (.cells x.cells 0 true):=by
     rw[Y.az A (aA _) aa (fun e=>e)];exact kb3
    have hlf4:=uL (P:=prog) underlying83 iz (show fN prog 3=some (.int .i64 0) by kernel_rfl) I.f x.to;have hu:=sa (P:=prog) underlying129 iz hv4.get x.name aC.1;dsimp only[aJ];repeat' (first
     |(apply ai ?_;clear hK K)|apply Rx.o ?_|apply aU ?_|(apply bt (fun C Z=>?_) (fun C Z=>?_)<;>try(cases C;done))|apply ag ?_|(apply ah fun K hK=>?_)|(apply ad 3 [(2,7),(2,8),(5,7)] fun K hK=>?_)|(apply ad 5 [(4,12),(4,17),(4,18),(6,12),(6,17),(6,18),(7,12),(7,17),(7,18),(10,12),(15,12),(15,17)] fun K hK=>?_)|(apply ad 28 [(2,12),(2,13),(7,12),(9,12),(10,12)] fun K hK=>?_)|(apply aG ?_;try intro _)|(apply aH ?_ ?_<;>clear hK K)|apply aF ?_|apply a9 rfl ?_|apply au ?_|apply aj ?_|apply aB ?_)
    .exact cC
    .all_goals refine qq ?_
     obtain⟨q1,q2,q3⟩:=I.setV hv4 (setV vs x.name aC.1);exact⟨ov4,q1,q2,(hf3'.trans (Y.dl fun r _ e=>e.elim)).trans q3⟩
   .rw[aw ht,ak]at o;subst o;repeat' (first
     |(apply ai ?_;clear hK K)|apply Ry.o ?_|(apply aE (fun C Z=>?_) (fun C Z=>?_)<;>try(cases C;done))|apply ag ?_|(apply ah fun K hK=>?_)|(apply ad 3 [(2,7),(2,8),(5,7)] fun K hK=>?_)|(apply ad 5 [(4,12),(4,17),(4,18),(6,12),(6,17),(6,18),(7,12),(7,17),(7,18),(10,12),(15,12),(15,17)] fun K hK=>?_)|(apply ad 28 [(2,12),(2,13),(7,12),(9,12),(10,12)] fun K hK=>?_)|(apply aG ?_;try intro _)|(apply aH ?_ ?_<;>clear hK K)|apply aF ?_|apply a9 rfl ?_|apply au ?_|apply aj ?_|apply aB ?_)
    all_goals refine qq ?_
    exact⟨ov,J,m,hf3'⟩
 .refine⟨s,ha,eE,eE,eE,eE,eE,eE,.inl ⟨eE,rfl⟩,b1.R,hy _ _⟩
set_option maxRecDepth 100000 in
include ax in
def G8(IH:∀m,m<N->uX cfg X m):mY cfg X N:=by
 intro l vs s r h hz ho rv ov H hR hv;have hlen:=wW l;refine bz (M:=27) (rs:=[]) ((ax.plain _ rfl).call _) (ax.plain _ rfl).aB (ax.plain _ rfl).an func65 rfl rfl zQ.2 rfl ?_;dsimp only[zQ,ba,Nat.reduceAdd];repeat' (first
  |(apply ai ?_;clear hK K)|apply Rx.o ?_|apply ag ?_|(apply ah fun K hK=>?_)|apply au ?_|apply aj ?_|apply aB ?_)
 refine j7 (fun i E I=>∃m W A o,m<=N/\dg X.p X.fi m (l.drop i) W A=some r/\E.at 0=.ptr X.rm 0/\E.at 1=.af (l.map St.cells)/\E.at 2=.map rv/\E.at 6=.int .i64 i/\zaa X I A o/\zab X I rv W o/\FrS X (·=rv) ov H o I) l.length ?_ ?_
 .rintro i E I hi ⟨m,W,A,o,hmN,Z,fw,bD,a4,lT,L,O,J⟩;have m2:=L.m;unfold cJ at m2;cases m with
  |zero=>simp[dg]at Z
  |succ m=>
   by_cases V:i<l.length
   .have hgx:l[i]?=some l[i]:=bq V;have hxm:=w4 (jn V);rw[il V]at Z;unfold dg at Z;simp only[]at Z;by_cases h0:A.fin=0
    .rw[aw (by simp[h0])]at Z;simp only[aX]at Z;obtain⟨ao,hs1,Z⟩:=Z;have F:(i:Int)<(l.length:Int):=aa;repeat' (first
      |(apply ai ?_;clear hK K)|apply Ry.o ?_|(apply a6 (fun S U=>?_) (fun S U=>?_)<;>try(cases S;done))|(apply aE (fun C Y=>?_) (fun C Y=>?_)<;>try(cases C;done))|apply ag ?_|(apply ah fun K hK=>?_)|apply au ?_|apply aj ?_|apply aB ?_)
     refine qa ?_;refine aR ?_ (IH m aa l[i] W A ao hs1 aa (Nat.lt_of_le_of_lt ((uO _ _ _).2.1 _ _ _ _ Z) ho) rv o I L O);rintro v H3 ⟨ov3,hR3,hv3,hf3⟩;dsimp only[aJ];repeat' (first
      |(apply ai ?_;clear hK K)|apply Rx.o ?_|apply ag ?_|(apply ah fun K hK=>?_)|apply au ?_|apply aj ?_|apply aB ?_)
     refine⟨V,m,ao.1,ao.2,ov3,aa,Z,eE,eE,eE,?_,hR3,hv3,J.trans hf3⟩;simp only[jw,Nat.reduceBEq,mR,mp (show i<2^62 by omega)]
    .rw[aD h0,ak]at Z;subst Z;have F:(i:Int)<(l.length:Int):=aa;repeat' (first
      |(apply ai ?_;clear hK K)|apply Ry.o ?_|(apply a6 (fun S U=>?_) (fun S U=>?_)<;>try(cases S;done))|(apply aE (fun C Y=>?_) (fun C Y=>?_)<;>try(cases C;done))|apply ag ?_|(apply ah fun K hK=>?_)|apply au ?_|apply aj ?_|apply aB ?_)
     all_goals refine qq ?_
     exact⟨o,L,O,J⟩
   .rw[kP aa]at Z;simp only[dg,ak]at Z;subst Z;have F:¬(i:Int)<(l.length:Int):=aa;repeat' (first
     |(apply ai ?_;clear hK K)|apply Ry.o ?_|(apply a6 (fun S U=>?_) (fun S U=>?_)<;>try(cases S;done))|(apply aE (fun C Y=>?_) (fun C Y=>?_)<;>try(cases C;done))|apply ag ?_|(apply ah fun K hK=>?_)|apply au ?_|apply aj ?_|apply aB ?_)
    all_goals refine qq ?_
    exact⟨o,L,O,J⟩
 .exact⟨N,vs,s,ov,aA _,eF,eE,eE,eE,eE,hR,hv,FrS.refl _ _ _ _⟩
end
end
section
def tyW6g.tyF:=ac @fE (ac @dF (ac @eV (ac @my (ac @mz (ac @iS (ac @kf (ac @gV (ac @gy (ac @lr (ac @jC (ac @mA (ac @lx (ac @ly (ac @lz (ac @lB (@oE))))))))))))))))
open tyW6g
theorem zS:∀{W:List aQ}{al:qm}{vs r:List (aQ×Int)},ku W al vs=some r->W.length<=al.length
 |[],_,_,_,_=>eC _
 |_::_,[],_,_,h=>by simp[ku]at h
 |p::W,a::al,vs,r,h=>by
  simp only[ku]at h;have:=zS h;simp;omega
section
variable {cfg:Cfg} (ax:Std cfg) (X:Mx)
set_option maxRecDepth 100000 in
include ax in
theorem G9(hpz:X.p.sz<2^40)(IH:mY cfg X N):sq cfg X (N+1):=by
 intro k al s r h ho hal av ov H A hav halt;unfold ir at h;by_cases hk0:k<0
 .rw[aD hk0]at h;simp at h
 rw[aw hk0]at h;simp only[aX]at h;obtain⟨f,hf,vs,hv,ao,hs,he⟩:=h;have hk0':0<=k:=aa;have hm:=A.m;unfold cJ at hm;have hpsz:X.p.sz=1+mr X.p.ag+jA X.p.funcs:=rfl;have hfm:=w5 (fY hf);have hfsz:f.sz=1+f.name.length+lb f.params+lb f.bv+gx f.body+f.value.sz:=rfl;have hpl:=wX f.params;have hpal:=zS hv;refine bz (M:=45) (rs:=[.tmp 6]) ((ax.plain _ rfl).call _) (ax.plain _ rfl).aB (ax.plain _ rfl).an func32 rfl rfl zR.2 rfl ?_;dsimp only[zR,ba,Nat.reduceAdd];repeat' (first
  |(apply ai ?_;clear hK K)|apply Rx.o ?_|apply aU ?_|(apply bt (fun C Z=>?_) (fun C Z=>?_)<;>try(cases C;done))|apply ag ?_|(apply ah fun K hK=>?_)|apply au ?_|apply aj ?_|apply aq ?_|apply aB ?_)
 generalize S:Hp.alloc _ (HB.map [])=H1;have hn1:H1.next=H.next+2:=by rw[<-S];rfl
 have hg1:∀r,r<H.next->H1.get r=H.get r:=fun r hr=>by rw[<-S,aP,aw uP,a0,aw aa,aP,aw aa]
 have hbox1:H1.get H.next=some (.cells f.cells 0 true):=by rw[<-S,aP,aw uP,a0,aD rfl]
 have hmap1:H1.get (H.next+1)=some (.map (b9 [])):=by rw[<-S,aP,aD dH];rfl
 have hR1:zaa X H1 s ov:=A.av aa hg1;have hvo:∀V o,V.get (H.next+1)=some (.map (b9 o))->H1.next<=V.next->zab X V (H.next+1) o ov:=fun V o m Y=>
  ⟨m,aa,fun e=>by have:=A.bt e;omega,by have:=A.lc;omega,by have:=A.lf;omega,fun e=>by have:=A.bU e;omega⟩
 repeat' (first
  |(apply ai ?_;clear hK K)|apply Rx.o ?_|apply aU ?_|(apply bt (fun C Z=>?_) (fun C Z=>?_)<;>try(cases C;done))|apply ag ?_|(apply ah fun K hK=>?_)|apply au ?_|apply aj ?_|apply aq ?_|apply aB ?_)
 refine j7 (fun i E V=>∃o,ku (f.params.drop i) (al.drop i) o=some vs/\E.at 0=.ptr X.rm 0/\E.at 2=av/\E.at 7=.ptr H.next 0/\E.at 8=.map (H.next+1)/\E.at 21=jy f.params/\E.at 22=.int .i64 f.params.length/\E.at 23=.int .i64 i /\
  V.get (H.next+1)=some (.map (b9 o))/\H1.next<=V.next/\∀r,r<H1.next->r≠H.next+1->V.get r=H1.get r) f.params.length ?_ ?_
 .rintro i E V hi ⟨o,O,fw,a4,jf,k8,k21,k22,k23,F,J,W⟩;repeat' (first
   |(apply ai ?_;clear hK K)|apply Rx.o ?_|apply aU ?_|(apply bt (fun C Z=>?_) (fun C Z=>?_)<;>try(cases C;done))|apply ag ?_|(apply ah fun K hK=>?_)|apply au ?_|apply aj ?_|apply aq ?_|apply aB ?_)
  .have hlt:i<f.params.length:=by simpa using C
   have U:i<al.length:=aa;have hgx:f.params[i]?=some f.params[i]:=bq hlt;rw[il hlt,il U]at O;simp only[ku]at O;obtain⟨a,hia,hld⟩:=hav.at (P:=prog) (t:=50) underlying50 underlying2 oD U;have hld2:=hld V fun r hr=>by
    have:=halt r hr;rw[W r aa aa];exact hg1 r this
   have hu:=sa (P:=prog) underlying129 iz F f.params[i] (al.getD i 0);have hgd:al[i]=al.getD i 0:=by rw[uC,bq U,bQ]
   rw[hgd]at O;repeat' (first
    |(apply ai ?_;clear hK K)|apply Rx.o ?_|apply aU ?_|(apply bt (fun C Z=>?_) (fun C Z=>?_)<;>try(cases C;done))|apply ag ?_|(apply ah fun K hK=>?_)|apply au ?_|apply aj ?_|apply aq ?_|apply aB ?_)
   refine⟨hlt,_,O,eE,eE,eE,eE,eE,eE,?_,eN,J,fun r m Y=>?_⟩
   .simp only[jw,Nat.reduceBEq,mR,mp (show i<2^62 by omega)]
   .rw[a0,aw Y];exact W r m Y
  .have hie:f.params.length<=i:=by simp at C;omega
   rw[kP hie]at O;simp only[ku,ak]at O;subst O;clear hie C Z;have hbox2:V.get H.next=some (.cells f.cells 0 true):=by rw[W _ aa aa];exact hbox1
   have hR2:zaa X V s ov:=hR1.cz J fun r m Y=>W r m (by
    rcases Y with Y|Y|Y|Y
    .have:=A.bt Y;omega
    .have:=A.lc;omega
    .have:=A.lf;omega
    .have:=A.bU Y;omega)
   have hv2:=hvo V o F J;have f02:FrS X (fun _=>False) ov H ov V:=⟨aa,fun r m Y h3 h4=>by rw[W r aa aa];exact hg1 r m,fun r h=>.inl h⟩;repeat' (first
    |(apply ai ?_;clear hK K)|apply Rx.o ?_|apply aU ?_|(apply bt (fun C Z=>?_) (fun C Z=>?_)<;>try(cases C;done))|apply ag ?_|(apply ah fun K hK=>?_)|apply au ?_|apply aj ?_|apply aq ?_|apply aB ?_)
   refine qa ?_;refine aR ?_ (IH f.body o s ao hs aa (by rw[<-(hB _ _ _ _ _ he).1];exact ho) (H.next+1) ov V hR2 hv2);rintro v H3 ⟨ov3,hR3,I,L⟩;have hn3:=L.next
   have hbox3:H3.get H.next=some (.cells f.cells 0 true):=by rw[L.az A (aA _) aa aa];exact hbox2
   dsimp only[aJ];repeat' (first
    |(apply ai ?_;clear hK K)|apply Rx.o ?_|apply aU ?_|(apply bt (fun C Z=>?_) (fun C Z=>?_)<;>try(cases C;done))|apply ag ?_|(apply ah fun K hK=>?_)|apply au ?_|apply aj ?_|apply aq ?_|apply aB ?_)
   refine qa ?_;refine aR ?_ (jO ax X N f.value ao.1 ao.2 r he (H.next+1) ov3 H3 hR3 I.get I.lt I.nm);rintro v H4 ⟨rfl,hR4,hf4⟩;have hn4:=hf4.next
   dsimp only[aJ];repeat' (first
    |(apply ai ?_;clear hK K)|apply Rx.o ?_|apply aU ?_|(apply bt (fun C Z=>?_) (fun C Z=>?_)<;>try(cases C;done))|apply ag ?_|(apply ah fun K hK=>?_)|apply au ?_|apply aj ?_|apply aq ?_|apply aB ?_)
   all_goals refine qq ?_
   refine⟨by first|rfl|trivial,ov3,hR4,aa,fun r m Y h3 h4=>?_,fun r m=>?_⟩
   .rw[hf4.get r aa (fun e=>Y (.inl e)),L.get r aa Y h3 aa];exact f02.get r m Y h3 h4
   .rcases L.out r m with e|e
    .exact .inl e
    .exact .inr aa
 .refine⟨[],by simpa using hv,eE,eE,eE,eE,eE,eE,eE,hmap1,aA _,fun _ _ _=>rfl⟩
include ax in
def He(o:∀m,m<N->mY cfg X m)(S:∀m,m<N->sq cfg X m):uX cfg X N:=by
 intro x vs s r h C J rv ov H A M;cases N with
 |zero=>simp[dm]at h
 |succ n=>
  unfold dm at h;by_cases Z:x.ai=1
  .rw[aD Z]at h;simp only[aX,ak]at h;obtain⟨ao,F,rfl⟩:=h;exact GX ax X Z F A M
  rw[aw Z]at h;by_cases Y:x.ai=2
  .rw[aD Y]at h;simp only[aX,ak]at h;obtain⟨ao,F,aC,I,rfl⟩:=h;exact GY ax X Y F I A M
  rw[aw Y]at h;by_cases W:x.ai=3
  .rw[aD W]at h;simp only[aX]at h;obtain⟨ao,F,h⟩:=h;exact GZ ax X W F h (o n (eI n)) C J A M
  rw[aw W]at h;by_cases V:x.ai=4
  .rw[aD V]at h;exact G6 ax X V h (fun m hm=>o m aa) C J A M
  rw[aw V]at h;by_cases U:x.ai=5
  .rw[aD U]at h;simp only[aX,ak]at h;obtain⟨ao,F,rfl⟩:=h;exact G3 ax X U F J A M
  rw[aw U]at h;by_cases O:x.ai=6
  .rw[aD O]at h;simp only[aX]at h;obtain⟨ra,ha,h⟩:=h;exact G7 ax X O ha h (S n (eI n)) C J A M
  rw[aw O]at h;by_cases L:x.ai=7
  .rw[aD L,ak]at h;subst h;exact G4 ax X L A M
  rw[aw L,ak]at h;subst h;exact G5 ax X Z Y W V U O L A M
include ax in
def Hg(V:X.p.sz<2^40)(N:Nat):uX cfg X N/\mY cfg X N/\sq cfg X N:=by
 induction N using Nat.strongRecOn with
 |_ N U=>
  refine⟨He ax X (fun m W=>(U m W).2.1) (fun m W=>(U m W).2.2),G8 ax X (fun m W=>(U m W).1),?_⟩;cases N with
  |zero=>intro k al s r h;simp[ir]at h
  |succ n=>exact G9 ax X V (U n (eI n)).2.1
end
end
end Go.Proofs.Ytbflaciihaijgaa
