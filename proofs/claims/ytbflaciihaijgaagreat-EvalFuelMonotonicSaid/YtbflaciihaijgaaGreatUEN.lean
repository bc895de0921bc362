/- Lemmas for the last file. -/
import Derived.Test.YtbflaciihaijgaaGreatUEM
set_option linter.all false
set_option maxHeartbeats 32000000
namespace Go.Ab
set_option maxRecDepth 20000
open Go
variable{qn:Prop}
def zQ(h:qn:=by rw[aS];omega):=h
def BD(h:qn:=by rw[<- Y];rfl):=h
def BE(h:qn:=by rw[<- Y,Hp.get_set,if_pos rfl]):=h
def I8(h:qn:=by show H.next≠c.rp;omega):=h
def NX(h:qn:=by show H.next≠c.xp;omega):=h
def I9(h:qn:=by show J.next≠c.rp;omega):=h
def Ja(h:qn:=by show J.next≠c.xp;omega):=h
def WT(h:qn:=by rw[<- show r=((c.aW J.next).aW V.next).rp from e];exact hr):=h
def WU(h:qn:=by rw[<- show r=((c.aW J.next).aW V.next).xp from e];exact hr):=h
def BF(h:qn:=by rw[bK];omega):=h
def Jb(h:qn:=by rw[aS,aS];omega):=h
def NY(h:qn:=by rw[Hp.get_set,if_neg hr.2]):=h
def WV(h:qn:=by simp only[aK,Nat.reduceBEq, *];exact il (n:=c.x.g.af.length) ac ac):=h
def Jc(h:qn:=by simp only[aK,Nat.reduceBEq, *];exact il (n:=Z.length) ac ac):=h
def WW(h:qn:=by rw[<- Y];simp only[Hp.get_set,aL,if_neg (show ¬ r=J.next by omega)]):=h
def WX(h:qn:=by simp only[aL,aS,if_neg (show ¬ r=H.next+1 by omega),if_neg (show ¬ r=H.next by omega)]):=h
def WY(h:qn:=by rw[Hp.get_set,if_neg ac];exact E3.get r trivial hr):=h
end Go.Ab
namespace Go.Proofs.YtbflaciihaijgaaGreat
set_option maxRecDepth 20000
open Go Go.Ab Proofs.Tryz
variable{n:Nd}{i m f:Nat}{c:Cq}{H H':Hp}{rows:List qB}{a:A9}{x:Int}{l:Option L9}{S:Nat->Prop}{s t:S9}{v:AV}{Z:qB}
section
def tyEwA.tyF:=ad @cG (ad @dm (ad @l7 (ad @kJ (ad @jJ (ad @nF (ad @oR (ad @oS (ad @pM (ad @oT (ad @oU (ad @oV (ad @ey (ad @ik (ad @rQ (ad @pL (ad @rR (ad @xq (ad @C2 (ad @AF (ad @Da (ad @sw (@EG))))))))))))))))))))))
open tyEwA
noncomputable def Jd:=qd (M:=15) f202.eq_1
noncomputable def Je:=qd (M:=6) f89.eq_1
noncomputable def WZ:=qd (M:=36) f203.eq_1
def Jf(f:FuncId):Bool:=Nat.beq f 202||Nat.beq f 89||Nat.beq f 203||Nat.beq f 205||Nat.beq f 180
structure EwT (tb:qH):Prop extends EvT tb where
 pl2:∀f,Jf f=true->(∀ar,dU tb f ar=none)/\mc tb f=false
def EwT.cF{tb:qH}(h:EwT tb){f:FuncId}(z:Jf f=true):zd0 (aA pls tb) f:=gY (h.pl2 f z).1 (h.pl2 f z).2
theorem zlf{h n:Nat}(J:n<32)(D:BinOp->Sx->Sx->qK)(t:TypeId):dQ prog D .shr t (.int .u32 (h:Int)) (.int .u64 (n:Int))=some (.int .u32 ((h/2^ n:Nat):Int)):=by
 rw[Ab.bin_shr ac];unfold CN;rw[eM,show min n (IntKind.bits .u32)=n by show min n 32=n;omega]
 congr 2
 rw[HV _ (by exact_mod_cast eR _)]
 push_cast;rfl
theorem zlg{a:Nat}(m:a<2^32)(D:BinOp->Sx->Sx->qK)(t:TypeId):dQ prog D .and t (.int .u32 (a:Int)) (.int .u32 1)=some (.int .u32 ((a%2:Nat):Int)):=by
 have e:dQ prog D .and t (.int .u32 (a:Int)) (.int .u32 ((1:Nat):Int))=some (.int .u32 (IntKind.wrap .u32 (((BitVec.ofInt 32 (a:Int) &&& BitVec.ofInt 32 ((1:Nat):Int)).toNat:Nat):Int))):=rfl;have V:(BitVec.ofInt 32 (a:Int) &&& BitVec.ofInt 32 ((1:Nat):Int)).toNat=a%2:=by
  rw[BitVec.toNat_and,AR m,AR ac,Nat.and_one_is_mod]
 rw[V,HI ac]at e;exact e
def Jg{J:Type}{l:List J}{x:J}(h:l[i]?=some x):i<l.length:=by
 by_cases c:i<l.length
 .exact c
 .rw[ng ac]at h;cases h
def zlh(h n:Nat):h/2^ n%2=if h.testBit n=true then 1 else 0:=by
 rw[Nat.testBit_eq_decide_div_mod_eq];by_cases c:h/2^ n%2=1
 .simp[c]
 .simp[c];omega
def Fq.upd(L:c.Ok){m:qB}(h:Fq c H rows m a){k:Bool}{sv lv:AV}{s:Option S9}(I:lh c.S H sv s)(Z:my c.S H lv l):Fq c (H.set c.rp (.cells (rows.set i [.bool k,.int .i64 x,sv,lv]).flatten 0 true)) (rows.set i [.bool k,.int .i64 x,sv,lv]) m ⟨a.bJ.set i ⟨k,x,s,l⟩,a.vars⟩:=by
 have E:zd2 c.S H (H.set c.rp (.cells (rows.set i [.bool k,.int .i64 x,sv,lv]).flatten 0 true)):=⟨aG _,fun k z _=>by rw[aQ,ah (fun e:k=c.rp=>L.sr (by rw[<-e];exact z))]⟩;refine⟨?_,iW,h.lx,h.lr,h.st.keep E,h.ag.keep E,h.hd.keep E,?_,h.vars.mono fun _ _ hr=>hr.keep E,h.eL,h.up,by simp only[iB];exact h.len⟩
 .rw[aQ,ah L.ne];simp only[iB];exact h.x
 .exact bN.set (h.rows.mono fun a b hr=>hr.keep E) ⟨sv,lv,rfl,I.keep E,Z.keep E⟩
theorem Fq.fj{m:qB}(h:Fq c H rows m a)(O:i<a.bJ.length){k:Bool}{sv lv:AV}(j:AV.one sv=true)(Z:AV.one lv=true):jY prog H 162 (.ptr c.rp (i*4)) (.agg [.bool k,.int .i64 x,sv,lv])=some (H.set c.rp (.cells (rows.set i [.bool k,.int .i64 x,sv,lv]).flatten 0 true)):=
 zk2 AG h.r (RowsQ.len h.rows) (by rw[bN.len h.rows];exact O) rfl (by simp only[oX,pO,j,Z,fV];rfl)
def zli:eg prog 162 []=some (.agg [.bool false,.int .i64 0,.aF,.aF]):=ax
def zlj{r n:Nat}(h:i<n):dK prog 155 (.sl r 0 n 4) (.int .i64 (i:Int))=some (.ptr r (i*4)):=by rw[pG underlying155 AG h];simp
def zlk(Z:List Q9)(Y:qG)(n i:Nat):(Z.mapIdx fun j r=>if j<i+1/\(Y.getD j 0).testBit n=true then tB else r)=if (Y.getD i 0).testBit n=true then (Z.mapIdx fun j r=>if j<i/\(Y.getD j 0).testBit n=true then tB else r).set i tB else Z.mapIdx fun j r=>if j<i/\(Y.getD j 0).testBit n=true then tB else r:=by
 apply GA;intro k;by_cases hb:(Y.getD i 0).testBit n=true
 .rw[ai hb,oG,xg,xg,GC];by_cases c:i=k
  .subst c;rw[ai rfl];by_cases L:i<Z.length
   .rw[ai L,aX L,lB,ai ⟨ac,hb⟩]
   .rw[ah L,ng ac];rfl
  .rw[ah c]
   congr 1
   funext r
   by_cases c2:k<i
   .simp only[show k<i+1 by omega,c2]
   .simp only[show ¬k<i+1 by omega,c2]
 .rw[ah hb,xg,xg]
  congr 1
  funext r
  by_cases c:k=i
  .subst c;rw[ah (fun e=>hb e.2),ah (fun e=>hb e.2)]
  .by_cases c2:k<i
   .simp only[show k<i+1 by omega,c2]
   .simp only[show ¬k<i+1 by omega,c2]
theorem zll(Y:List Q9)(Z:qG)(n:Nat):(Y.mapIdx fun j r=>if j<0/\(Z.getD j 0).testBit n=true then tB else r)=Y:=by
 apply GA;intro k;rw[xg];cases Y[k]? with
 |none=>rfl
 |some r=>rw[lB,ah (fun e=>absurd e.1 (Nat.not_lt_zero _))]
theorem zlm{Y:List Q9}{Z:qG}{n:Nat}(h:Y.length<=m):(Y.mapIdx fun j r=>if j<m/\(Z.getD j 0).testBit n=true then tB else r)=tC Z n Y:=by
 unfold tC;apply GA;intro k;rw[xg,xg];by_cases c:k<Y.length
 .simp only[show k<m by omega,j6]
 .rw[ng ac];rfl
def EI{cv ov:AV}{p:Nat}(j:sX S H cv s.cells)(m:mr S H ov s.out)(E:zd2 S H H')(C:S p)(Z:p<H'.next)(z:H'.get p=some (.cells [cv,ov,.int .i64 s.a2,.int .i64 s.ed,.int .i64 s.aT,.int .i64 s.bI] 0 true)):eI S H' (.ptr p 0) s:=
 ⟨p,cv,ov,rfl,C,Z,z,j.keep E,m.keep E⟩
section
variable {tb:qH} (hT:EwT tb) {c:Cq} {H:Hp} {rows:List qB} {vvs:qB} {a:A9}
include hT
def zln(Z:Fq c H rows vvs a){k:Int}{r:Q9}(z:a.get k=some r):aR prog (aA pls tb) 177 [.ptr c.xp 0,.int .i64 k] H fun v H'=>v=.int .i64 (if r.k=true then -1 else k)/\H'=H:=by
 have hw:zd0 (aA pls tb) 177:=hT.plain cN;obtain⟨n,rfl⟩:∃n:Nat,k=n:=⟨k.toNat,by obtain⟨_,_,V,_⟩:=Z.get z;omega⟩;obtain⟨O,lv,I,C,J,m,Y⟩:=Z.at z;have L:=Z.x;unfold ib at L;have fD:=(Y H Z.r).l0;obtain⟨j,rv,rs,rl⟩:=r;cases j<;>
 .refine qe hw func177 IZ ?_;dsimp only[IZ,qd,a1,Nat.reduceAdd];repeat' (first
   |(apply ay ?_;clear hK K)|apply a9 ?_|(apply bU ?_ ?_<;>(intro hb hbp;try(cases hb;done)))|(apply az fun K hK=>?_)|fail)
  all_goals refine qi ?_
  exact⟨rfl,trivial⟩
theorem W0(V:Fq c H rows vvs a){n:Nd}(J:n.ak.length<2^30){k:Int}(L:pK a.get n=some k):aR prog (aA pls tb) 178 [.ptr c.xp 0,.agg n.cells] H fun v H'=>v=.int .i64 k/\H'=H.alloc (.cells n.cells 0 true):=by
 have hw:zd0 (aA pls tb) 178:=hT.plain cN;unfold pK at L;obtain⟨r,j,O⟩:=aC.1 L;obtain⟨m,sv,lv,C,h4,hn,ho,I,hx,hA⟩:=V.bM j;obtain⟨op,Y,Z⟩:=n;simp only at C O J;have ec:(Nd.mk op Y Z).cells=[.int .i64 op,.int .i64 Y,.aE (Z.map fun k=>[.int .i64 k])]:=rfl;rw[ec];have z:=V.alloc (.cells [.int .i64 op,.int .i64 Y,.aE (Z.map fun k=>[.int .i64 k])] 0 true);have gx:=z.x;unfold ib at gx;have aI:=(hA _ z.r).l1;have y0:(c.xp == H.next)=false:=aZ (by have:=V.lx;omega);by_cases hv:r.v=0
 .rw[ah ac]at O;refine qe hw func178 I0 ?_;dsimp only[I0,qd,a1,Nat.reduceAdd];refine Y6 ?_ ?_
  .exact bM
  all_goals refine qi ?_
  exact⟨trivial,trivial⟩
 .rw[ai hv]at O;refine qe hw func178 I0 ?_;dsimp only[I0,qd,a1,Nat.reduceAdd];refine Y7 ?_ (fun hb hbp=>?_)
  .exact bM
  all_goals refine qi ?_
  exact⟨trivial,trivial⟩
def W1(n:Nat)(J:n<2^30)(H:Hp):aR prog (aA pls tb) 89 [.int .i64 n] H fun v H'=>v=.int .i64 (if n=0 then 0 else db n:Nat)/\H'=H:=by
 have hw:zd0 (aA pls tb) 89:=hT.cF cN;have Z:(2:Int)≠0:=aF;have C:IntKind.wrap .i64 ((n:Int)-1)=(n:Int)-1:=fN ac ac;have V:IntKind.wrap .i64 (((n:Int)-1).tdiv 2)=((if n=0 then 0 else db n:Nat):Int):=by
  have m:((n:Int)-1).tdiv 2=((if n=0 then 0 else db n:Nat):Int):=by
   by_cases L:n=0
   .subst L;rfl
   .rw[ah L,sD ac];unfold db;omega
  rw[m];have:(if n=0 then 0 else db n)<=n:=by unfold db;split<;>omega
  exact fN ac ac
 refine qe hw func89 Je ?_;dsimp only[Je,qd,a1,Nat.reduceAdd];refine BU ?_;all_goals refine qi ?_
 exact⟨trivial,trivial⟩
def W9(hS:eI S H v s):aR prog (aA pls tb) 202 [v] H fun w H'=>∃cv O,w=.ptr H.next 0/\sX S H cv (ct s).cells/\mr S H O (ct s).out/\H'.get H.next=some (.cells [cv,O,.int .i64 (ct s).a2,.int .i64 (ct s).ed,.int .i64 (ct s).aT,.int .i64 (ct s).bI] 0 true)/\H'.next=H.next+1/\∀r,r<H.next->H'.get r=H.get r:=by
 have hw:zd0 (aA pls tb) 202:=hT.cF cN;have np:∀E:aw,aM E (.const (.pointer none))=some .aF:=fun _=>rfl;obtain⟨p,cv,O,rfl,hp⟩:=hS;have I:=hp.get;obtain⟨Y,V⟩:=hp.cells.one;obtain⟨L,J⟩:=hp.out.one;have C:=hp.lt;have j:(p == H.next)=false:=aZ ac;by_cases c0:s.a2=0
 .have m:ct s={s with ed:=3}:=by unfold ct;rw[ai c0]
  refine qe hw func202 Jd ?_;dsimp only[Jd,qd,a1,Nat.reduceAdd];refine BS (fun hb hbp=>?_);all_goals refine qi ?_
  generalize z:Hp.set _ H.next _=Z
  have dd:Z.next=H.next+1:=by rw[<-z];rfl
  refine⟨cv,O,trivial,by rw[m];exact hp.cells,by rw[m];exact hp.out,?_,dd,fun r hr=>?_⟩
  .rw[<-z,aQ,ai rfl,m];try rw[c0]
  .rw[<-z];simp only[aQ,aL,ah (show ¬r=H.next by omega)]
 .have m:ct s={s with a2:=cy (s.a2-1) }:=by unfold ct;rw[ah c0]
  refine qe hw func202 Jd ?_;dsimp only[Jd,qd,a1,Nat.reduceAdd];refine BS (fun hb hbp=>?_);all_goals refine qi ?_
  generalize z:Hp.set _ H.next _=Z
  have dd:Z.next=H.next+1:=by rw[<-z];rfl
  refine⟨cv,O,trivial,by rw[m];exact hp.cells,by rw[m];exact hp.out,?_,dd,fun r hr=>?_⟩
  .rw[<-z,aQ,ai rfl,m]
  .rw[<-z];simp only[aQ,aL,ah (show ¬r=H.next by omega)]
def Xa(z:c.Ok)(hF:Fq c H rows vvs a){L:Int}(h0:0<=L)(h16:L<16):aR prog (aA pls tb) 203 [.ptr c.xp 0,.int .i64 L] H fun _ H'=>∃C,Fq c H' C vvs (a.eu (c.M.getD c.x.f []) L.toNat)/\H.next<=H'.next/\∀r,r<H.next->r≠c.rp->H'.get r=H.get r:=by
 have hw:zd0 (aA pls tb) 203:=hT.cF cN;obtain⟨n,rfl⟩:=jR h0;obtain⟨q,imm,tip,ehv,_,hq,gq⟩:=hF.hd;have gx:=hF.x;unfold ib at gx;rw[ehv]at gx;have hml:=z.ml;have hmb:=z.mb;have hmf:(c.M.map tK)[c.x.f]?=some (.aE ((c.M.getD c.x.f []).map fun(m:Nat)=>[AV.int .u32 (m:Int)])):=by rw[fd,z.m];rfl
 have hfl:c.x.f<c.M.length:=Jg z.m;have hlen:=z.len;generalize c.M.getD c.x.f []=Y at *;have ixm:dK prog 103 (.sl q 0 c.M.length 1) (.int .i64 (c.x.f:Int))=some (.ptr q c.x.f):=by rw[pG underlying103 LJ hfl];simp
 have ew:IntKind.wrap .u64 ((n:Nat):Int)=n:=zo _ ac;refine qe hw func203 WZ ?_;dsimp only[WZ,qd,a1,Nat.reduceAdd];repeat' (first
  |apply a9 ?_|(apply bV 0 [(3,12),(7,12),(9,12),(10,12)] fun K hK=>?_)|(apply bB ?_;try intro _)|(apply bY ?_ ?_<;>clear hK K)|fail)
 .exact bM
 refine cP [0,1,15,16] [] 17 c.x.g.af.length (fun i E H2=>∃C,Fq c H2 C vvs ⟨a.bJ.mapIdx fun j r=>if j<i/\(Y.getD j 0).testBit n=true then tB else r,a.vars⟩/\H.next<=H2.next/\∀r,r<H.next->r≠c.rp->H2.get r=H.get r) eE ⟨rows,by rw[zll];exact hF,aG _,fun _ _ _=>rfl⟩ ?_;clear gx gq ixm hmf;rintro i E H2 hi hcE hrH hnH hsI ⟨C,Z,n2,J⟩;(try simp only[bz,a7,aV,aK,bb,Nat.reduceBEq, *]at hcE);(try simp only[a7, *]at hrH);(try simp only[aS,bK,cL,bR,Nat.reduceAdd]at hnH);have gx2:=Z.x;unfold ib at gx2;simp only[GC]at gx2;have V:=zlk a.bJ Y n i;by_cases hlt:i<c.x.g.af.length
 .have hlt':(i:Int)<c.x.g.af.length:=by omega
  have hgd:Y[i]?=some (Y.getD i 0):=SV;have hb1:=hmb _ (cV hgd);have hil:i<a.bJ.length:=by have:=hF.len;omega
  have hsr:=zlf (h:=Y.getD i 0) (n:=n) ac;have I:=zlg (a:=Y.getD i 0/2^ n) (xR (Nat.div_le_self _ _) ac);rw[zlh]at I;have ixr:=zlj (r:=c.rp) hil;have hsr2:=Z.fj (i:=i) (k:=false) (x:=0) (sv:=.aF) (lv:=.aF) (by simp only[GC];exact hil) rfl rfl;by_cases O:(Y.getD i 0).testBit n=true
  .rw[ai O]at I V;have gh0:=@zli;refine uc (fun hb hbp=>?_);refine⟨ac,aW,aW,b8,WV,?_⟩;refine⟨_,by rw[V];exact Z.upd z (i:=i) (k:=false) (x:=0) (s:=none) (l:=none) rfl rfl,by rw[bK];exact n2,fun r hr hne=>?_⟩;rw[aQ,ah hne];exact J r hr hne
  .rw[ah O]at I V;refine uc (fun hb hbp=>?_);refine⟨ac,aW,aW,b8,WV,?_⟩;exact⟨C,by rw[V];exact Z,n2,J⟩
 .have hlt':¬(i:Int)<c.x.g.af.length:=by omega
  refine uc (fun hb hbp=>?_);all_goals refine qi ?_
  refine⟨C,?_,n2,J⟩;have hln:=hF.len;rw[zlm ac]at Z;exact Z
end
end
section
def tyEwB.tyF:=ad @cG (ad @eG (ad @ij (ad @kJ (ad @oQ (ad @jJ (ad @gC (ad @rO (ad @ik (ad @nF (ad @oR (ad @oS (ad @oT (ad @oU (ad @oV (ad @dm (ad @l7 (ad @pM (@wA))))))))))))))))))
open tyEwB
def zlo(x y:List qB)(a b Z d p q n:Nat)(f:Int):eg prog 159 [(0,.agg [.aE x,.aE y]),(1,.sl a b Z d),(2,.int .i64 f),(3,.ptr p 0),(4,.ao),(5,.sl q 0 n 4)]=some (.agg [.aE x,.aE y,.sl a b Z d,.int .i64 f,.ptr p 0,.ao,.sl q 0 n 4,.aF,.aF,.aF,.aF,.aF,.aF,.aF,.aF,.aF,.aF,.aF,.aF,.aF,.aF,.aF,.aF]):=ax
def zlp(x y:List qB)(a b Z d p q n C J c' Y:Nat)(f:Int):eg prog 159 [(0,.agg [.aE x,.aE y]),(1,.sl a b Z d),(2,.int .i64 f),(3,.ptr p 0),(4,.sl C J c' Y),(5,.sl q 0 n 4)]=some (.agg [.aE x,.aE y,.sl a b Z d,.int .i64 f,.ptr p 0,.sl C J c' Y,.sl q 0 n 4,.aF,.aF,.aF,.aF,.aF,.aF,.aF,.aF,.aF,.aF,.aF,.aF,.aF,.aF,.aF,.aF]):=ax
def zlq{m:AV}{l:qA}(h:re S H m l)(x y:List qB)(a b Z d p q n:Nat)(f:Int):eg prog 159 [(0,.agg [.aE x,.aE y]),(1,.sl a b Z d),(2,.int .i64 f),(3,.ptr p 0),(4,m),(5,.sl q 0 n 4)]=some (.agg [.aE x,.aE y,.sl a b Z d,.int .i64 f,.ptr p 0,m,.sl q 0 n 4,.aF,.aF,.aF,.aF,.aF,.aF,.aF,.aF,.aF,.aF,.aF,.aF,.aF,.aF,.aF,.aF]):=by
 rcases h with rfl|⟨rfl,_⟩|⟨q2,V,Y,z,rfl,_⟩
 .exact zk8 _ _ _ _ _ _ _ _ _ _ _
 .exact zlo _ _ _ _ _ _ _ _ _ _
 .exact zlp _ _ _ _ _ _ _ _ _ _ _ _ _ _
def yb(tb:qH)(u:Un)(M:List qG)(bG:X9->A9->Int->Option A9):Prop:=∀(c:Cq) (H:Hp) (a:A9) (i:Int) (b:A9),c.u=u->c.M=M->c.Ok->rh c H a->bG c.x a i=some b->aR prog (aA pls tb) 90 [.ptr c.xp 0,.int .i64 i] H fun _ H'=>rh c H' b/\H.next<=H'.next/\∀r,r<H.next->r≠c.rp->r≠c.xp->H'.get r=H.get r
section
variable {tb:qH} (hT:EwT tb) {H:Hp}
include hT
theorem Xb{u:Un}{M:List qG}{g:Gr}(hg:u.funcs[f]?=some g)(hlen:g.af.length<2^30){j sv Z:AV}{args:qA}(hs:eI S H sv s)(Y:re S H Z args)(hh:wC S H j M)(up:∀q,H.next<=q->S q)(hu:UmOk u M):aR prog (aA pls tb) 47 [.agg u.cells,j,.int .i64 f,sv,Z] H fun w H'=>∃I O,w=.ptr I 0/\H.next<=I/\H.next<=O/\(⟨fun q=>S q/\q≠I/\q≠O,I,O,u,M,j,sv,Z,⟨f,g,s,args⟩⟩:Cq).Ok/\rh ⟨fun q=>S q/\q≠I/\q≠O,I,O,u,M,j,sv,Z,⟨f,g,s,args⟩⟩ H' (vP g.af.length)/\H.next<=H'.next/\∀r,r<H.next->H'.get r=H.get r:=by
 have hw:zd0 (aA pls tb) 47:=hT.plain cN;have np:∀E:aw,aM E (.const (.pointer none))=some .aF:=fun _=>rfl;have eu:u.cells=[.aE (u.ab.map Ar.cells),.aE (u.funcs.map Gr.cells)]:=rfl;have hgc:g.cells=[.ay g.name,.int .i64 g.params,.aE (g.af.map Nd.cells),.int .i64 g.value,.int .i64 g.aa]:=rfl;have L:=hs;obtain⟨p,cv,ov,rfl,hp⟩:=L;have C:=hh;obtain⟨J,himm,htip,rfl,_,hql,V⟩:=C;have hmk:=fun H:Hp=>zk7 (H:=H) g.af.length ac;have hb:=fun q=>zlq Y (u.ab.map Ar.cells) (u.funcs.map Gr.cells) J 0 M.length 1 p q g.af.length f;obtain⟨av1,av2⟩:=Y.one;rw[eu];have wA:∀a b:AV,cr 2 [a,b]=some (.agg [a,b]):=fun _ _=>rfl;have y9:(H.next == H.next+1)=false:=aZ ac;have y8:(H.next == H.next+2)=false:=aZ ac;have y7:(H.next+1 == H.next+2)=false:=aZ ac;clear V;refine qe hw func47 WO ?_;dsimp only[WO,qd,a1,Nat.reduceAdd];refine Y9 ?_ ?_
 .exact bM
 all_goals refine qi ?_
 generalize z:Hp.alloc (Hp.alloc (Hp.alloc H _) _) _=m;have nc:H.next+3<=m.next:=NH
 have gx:m.get (H.next+2)=some (.cells ([.aE (u.ab.map Ar.cells),.aE (u.funcs.map Gr.cells),.sl J 0 M.length 1,.int .i64 f,.ptr p 0,Z,.sl (H.next+1) 0 g.af.length 4]++List.replicate 16 .aF) 0 true):=by rw[<-z,aL,ai cN];try rfl
 have gr:m.get (H.next+1)=some (.cells (List.replicate g.af.length [AV.bool false,.int .i64 0,.aF,.aF]).flatten 0 true):=by
  rw[<-z];simp only[aL,aS,ah (show ¬H.next+1=H.next+1+1 by omega),dG]
 have kc:∀r,r<H.next->m.get r=H.get r:=fun r hr=>by
  rw[<-z];simp only[aL,aS,ah (show ¬r=H.next+1+1 by omega),ah (show ¬r=H.next+1 by omega),ah (show ¬r=H.next by omega)]
 clear z;have E:zd2 (fun q=>S q/\q≠H.next+2/\q≠H.next+1) H m:=⟨ac,fun r _ hr=>kc r hr⟩;have hS:∀q,q<H.next->S q->S q/\q≠H.next+2/\q≠H.next+1:=fun q J h=>⟨h,ac,ac⟩
 refine⟨H.next+2,H.next+1,rfl,ac,ac,⟨hg,hu,by show H.next+2≠H.next+1;omega,fun h=>h.2.1 rfl,fun h=>h.2.2 rfl⟩,⟨List.replicate g.af.length [.bool false,.int .i64 0,.aF,.aF],List.replicate 16 .aF,⟨?_,gr,by show H.next+2<_;omega,by show H.next+1<_;omega,(hs.sub hS).keep E,(Y.sub hS).keep E,(hh.sub hS).keep E,?_,?_,j9,fun q J=>⟨up q ac,by show q≠H.next+2;omega,by show q≠H.next+1;omega⟩,j9⟩⟩,ac,kc⟩
 .unfold vP ib;simp only[j9];exact gx
 .have:∀n:Nat,bN (tV (fun q=>S q/\q≠H.next+2/\q≠H.next+1) m) (List.replicate n [AV.bool false,.int .i64 0,.aF,.aF]) (List.replicate n tB):=by
   intro n;induction n with
   |zero=>trivial
   |succ n ih=>rw[vY,vY];exact⟨⟨.aF,.aF,rfl,rfl,rfl⟩,ih⟩
  exact this _
 .have:∀n:Nat,bN (my (fun q=>S q/\q≠H.next+2/\q≠H.next+1) m) (List.replicate n AV.aF) (List.replicate n none):=by
   intro n;induction n with
   |zero=>trivial
   |succ n ih=>rw[vY,vY];exact⟨rfl,ih⟩
  exact this _
variable {u:Un} {M:List qG} {bG:X9 -> A9 -> Int -> Option A9} (hE:yb tb u M bG) {c:Cq} {a:A9}
include hE
def Jh(V:c.u=u)(O:c.M=M)(J:c.Ok)(I:rh c H a){i:Int}{r:Int×A9}(h:sE (bG c.x) a i=some r):aR prog (aA pls tb) 50 [.ptr c.xp 0,.int .i64 i] H fun w H'=>w=.int .i64 r.1/\rh c H' r.2/\H.next<=H'.next/\∀q,q<H.next->q≠c.rp->q≠c.xp->H'.get q=H.get q:=by
 have hw:zd0 (aA pls tb) 50:=hT.plain cN;unfold sE at h;obtain⟨b,h1,h2⟩:=aC.1 h;obtain⟨q,Z,Y⟩:=aC.1 h2;rw[am]at Y;subst Y;refine qe hw func50 WP ?_;dsimp only[WP,qd,a1,Nat.reduceAdd];refine OT fun K hK=>?_;refine qj ?_;refine a8 ?_ (hE c H a i b V O J I h1);rintro v H2 ⟨⟨C,z,L⟩,n2,j⟩;dsimp only[a0];obtain⟨i,rfl⟩:∃m:Nat,i=m:=⟨i.toNat,by obtain⟨_,_,h0,_⟩:=L.get Z;omega⟩;obtain⟨sv,lv,hn,ho,ho2,hx,hA⟩:=L.at Z;have gx:=L.x;unfold ib at gx;have aI:=(hA _ L.r).l1;refine BU ?_;all_goals refine qi ?_
 exact⟨su,⟨C,z,L⟩,n2,j⟩
def NZ(Y:c.u=u)(V:c.M=M)(J:c.Ok)(hF:rh c H a){i:Int}{r:S9×A9}(h:tD (bG c.x) a i=some r):aR prog (aA pls tb) 48 [.ptr c.xp 0,.int .i64 i] H fun w H'=>eI c.S H' w r.1/\rh c H' r.2/\H.next<=H'.next/\∀q,q<H.next->q≠c.rp->q≠c.xp->H'.get q=H.get q:=by
 have hw:zd0 (aA pls tb) 48:=hT.plain cN;have np:∀E:aw,aM E (.const (.pointer none))=some .aF:=fun _=>rfl;unfold tD at h;obtain⟨b,h1,h2⟩:=aC.1 h;obtain⟨q,Z,h4⟩:=aC.1 h2;obtain⟨s,h5,O⟩:=aC.1 h4;rw[am]at O;subst O;refine qe hw func48 WQ ?_;dsimp only[WQ,qd,a1,Nat.reduceAdd];refine OT fun K hK=>?_;refine qj ?_;refine a8 ?_ (hE c H a i b Y V J hF h1);rintro v H2 ⟨⟨C,z,L⟩,n2,j⟩;dsimp only[a0];obtain⟨i,rfl⟩:∃m:Nat,i=m:=⟨i.toNat,by obtain⟨_,_,h0,_⟩:=L.get Z;omega⟩;obtain⟨sv,lv,hn,I,ho2,hx,hA⟩:=L.at Z;have gx:=L.x;unfold ib at gx;have a6:=(hA _ L.r).l2;rw[h5]at I;refine BU ?_;all_goals refine qi ?_
 exact⟨I,⟨C,z,L⟩,n2,j⟩
end
end
section
def tyEwC.tyF:=ad @dm (ad @cG (ad @l7 (ad @eG (ad @ij (ad @ey (ad @kJ (ad @oQ (ad @jJ (ad @gC (ad @rO (ad @ik (ad @nF (ad @xq (ad @oR (ad @rQ (ad @pL (ad @rR (ad @oS (ad @pM (ad @oT (ad @oU (ad @oV (ad @wA (@EG))))))))))))))))))))))))
open tyEwC
noncomputable def Xc:=qd (M:=93) f205.eq_1
theorem zlr(k0:Int)(ks:qA):jZ prog 26 (.aE ([.int .i64 k0]::ks.map fun k=>[.int .i64 k])) (some (.int .i64 1)) none=some (.aE (ks.map fun k=>[.int .i64 k])):=by
 show jZ prog 26 (.aE ([.int .i64 k0]::ks.map fun k=>[.int .i64 k])) (some (.int .i64 (Int.ofNat 1))) none=_;have e:((([.int .i64 k0]:qB)::ks.map fun k=>([.int .i64 k]:qB)).drop 1).take ((([.int .i64 k0]:qB)::ks.map fun k=>([.int .i64 k]:qB)).length-1)=ks.map fun k=>([.int .i64 k]:qB):=by
  simp only[Aq,gm,fc,Nat.add_sub_cancel,List.take_length]
 simp only[jZ,underlying26,jI,jc];rw[ai aB,e];cases ks<;>rfl
theorem Xd(g:ev)(k0:Int)(ks:qA):∀(m j:Nat),gK g (k0::ks) m (j+1)=gK g ks m j
 |0,_=>rfl
 |m+1,j=>by rw[gK,gK,sG,Xd g k0 ks m (j+1)]
def zls(H:Hp)(a:Int):eW prog H 27 1 [(0,.int .i64 a)]=some (.sl H.next 0 1 1,H.alloc (.cells [.int .i64 a] 0 true)):=ax
theorem mw.ag{l:qA}{Z:Nat}(h:mw H v (cM l))(I:∀q,q<Z->∀o m z,v≠.sl q o m z)(Y:∀q,Z<=q->S q):re S H v l:=by
 rcases h with⟨j,rfl⟩|⟨q,rfl,V,C⟩
 .have:l=[]:=by
   cases l with
   |nil=>rfl
   |cons a l=>simp[cM]at j
  exact .inr (.inl ⟨rfl,this⟩)
 .refine .inr (.inr ⟨q,[],0,true,by rw[vN],Y q ?_,V,by rw[bq];exact C⟩);by_cases c:Z<=q
  .exact c
  .exact absurd rfl (I q ac _ _ _)
section
variable {tb:qH} (hT:EwT tb) {H:Hp} {u:Un} {M:List qG} {bG:X9 -> A9 -> Int -> Option A9} (hE:yb tb u M bG) {c:Cq} {rows:List qB} {vvs:qB} {a:A9}
include hT hE
theorem zlt(hu:c.u=u)(hM:c.M=M)(hc:c.Ok)(hF:Fq c H rows vvs a)(hl:n.ak.length<2^30)(hne:n.ak≠[])(hs:eI c.S H v s)(h:uF u bG a.get n s=some t):aR prog (aA pls tb) 205 [.ptr c.xp 0,.agg n.cells,v] H fun w H'=>eI c.S H' w t/\H.next<=H'.next/\∀r,r<H.next->H'.get r=H.get r:=by
 subst hu;subst hM;have hw:zd0 (aA pls tb) 205:=hT.cF cN;have hkeep:(aA pls tb).keep 205=false:=rfl;have np:∀E:aw,aM E (.const (.pointer none))=some .aF:=fun _=>rfl;obtain⟨op,j,kids⟩:=n;simp only at hl hne;obtain⟨k0,Z,rfl⟩:∃k0 Z,kids=k0::Z:=by
  cases kids with
  |nil=>exact absurd rfl hne
  |cons a b=>exact⟨a,b,rfl⟩
 rw[fc]at hl;have ec:(Nd.mk op j (k0::Z)).cells=[.int .i64 op,.int .i64 j,.aE ([.int .i64 k0]::Z.map fun k=>[.int .i64 k])]:=rfl;rw[ec];have hF1:=hF.alloc (.cells [.int .i64 op,.int .i64 j,.aE ([.int .i64 k0]::Z.map fun k=>[.int .i64 k])] 0 true);have E1:zd2 c.S H (H.alloc (.cells [.int .i64 op,.int .i64 j,.aE ([.int .i64 k0]::Z.map fun k=>[.int .i64 k])] 0 true)):=⟨dg _,fun q _ hq=>dT⟩;have gn:(H.alloc (.cells [.int .i64 op,.int .i64 j,.aE ([.int .i64 k0]::Z.map fun k=>[.int .i64 k])] 0 true)).get H.next=some (.cells [.int .i64 op,.int .i64 j,.aE ([.int .i64 k0]::Z.map fun k=>[.int .i64 k])] 0 true):=fw
 have kt:=W9 hT (hs.keep E1);rw[aS]at kt;obtain⟨p0,cv0,ov0,rfl,hp0⟩:=hs;unfold uF at h;refine qe hw func205 Xc ?_;dsimp only[Xc,qd,a1,Nat.reduceAdd];refine fT fun K hK=>?_;refine qj ?_;refine a8 ?_ kt;rintro v2 H2 ⟨cv,ov,rfl,hcv,hov,gp,n2,fr2⟩;dsimp only[a0];have gn2:=(fr2 H.next (cn _)).trans gn;have K2:Kp9 H.next H H2:=⟨fun r hr=>by rw[fr2 r ac,aL,ah ac]⟩
 have K2a:Kp9 (H.next+1) (H.alloc (.cells [.int .i64 op,.int .i64 j,.aE ([.int .i64 k0]::Z.map fun k=>[.int .i64 k])] 0 true)) H2:=⟨fr2⟩;clear fr2;have n2':H.next+2<=H2.next:=ac
 have hF2:=hF.keep (H':=H2) ac K2.k;clear n2;by_cases ce:(ct s).ed≠0
 .rw[ai ce,am]at h;subst h;refine jp (fun hb hbp=>?_);all_goals refine qi ?_
  exact⟨EI hcv hov ⟨zQ,fun r _ hr=>K2a.k r hr⟩ (hF.up _ ac) ac gp,ac,K2.k⟩
 rw[ah ce]at h;obtain⟨args,ha,h⟩:=aC.1 h;split at h
 .rename_i hi0;simp only at hi0;obtain⟨G,hG,h⟩:=aC.1 h;obtain⟨r,hr,h⟩:=aC.1 h;have hsl:=zlr k0 Z;have ce':(ct s).ed=0:=ac;simp only[fc,Nat.add_sub_cancel]at ha;rw[Xd]at ha;refine jp (fun hb hbp=>?_);refine cP [0,2,4,6,24,25] [H.next,H.next+1] 26 Z.length (fun i E H3=>∃av done rest,E.at 7=av/\mw H3 av (cM done)/\(∀q,q<H.next+2->∀o m z,av≠.sl q o m z)/\gK a.get Z (Z.length-i) i=some rest/\done++rest=args/\done.length=i/\H2.next<=H3.next/\Kp9 (H.next+2) H2 H3) eE ⟨.ao,[],args,eE,.inl ⟨rfl,rfl⟩,(fun _ _ _ _ _ e=>by cases e),ha,rfl,rfl,aG _,⟨fun _ _=>rfl⟩⟩ ?_;rintro i E3 H3 hi hcE hrH hnH hsI ⟨av,done,rest,iU,own,hno,L,C,hdl,n3,K3⟩;(try simp only[bz,a7,aV,aK,bb,Nat.reduceBEq, *]at hcE);(try simp only[bz,a7,aV, *]at hrH);(try simp only[aS,bK,cL,bR,Nat.reduceAdd]at hnH);obtain⟨o1,o2⟩:=own.one;have K3':Kp9 H.next H H3:=K2.trans K3 ac
  have hF3:=hF.keep (H':=H3) ac K3'.k;have gx3:=hF3.x;unfold ib at gx3;have lx:=hF.lx;have lr:=hF.lr;by_cases hlt:i<Z.length
  .have hlt':(i:Int)<Z.length:=by omega
   have hgk:Z[i]?=some Z[i]:=aX hlt;obtain⟨m,hm⟩:∃m,Z.length-i=m+1:=⟨Z.length-i-1,ac⟩;rw[hm,gK,hgk,aN]at L;generalize Z[i]=kk at *;obtain⟨q,hq,L⟩:=aC.1 L;obtain⟨rest2,hr2,L⟩:=aC.1 L;rw[am]at L;subst L;obtain⟨kn,rfl⟩:∃m:Nat,kk=m:=⟨kk.toNat,by obtain⟨_,_,h0,_⟩:=hF.get hq;omega⟩;obtain⟨svk,lvk,hnk,hok,hok2,hxk,hAk⟩:=hF3.at hq;have aI:=(hAk _ hF3.r).l1;have gB:∀b,mw (H3.alloc b) av (cM done):=fun b=>own.keep (dg _) fun p hp _=>dT;obtain⟨H5,ap,own5,n5,dF⟩:=mw.push (P:=prog) (t:=27) underlying27 AB GT GU rfl ax (gB (.cells [.int .i64 q.v] 0 true)) (r:=H3.next) (x:=.int .i64 q.v) fw rfl (by rw[vN];show _<=70368744177664;omega) (by rw[vN];show _<=70368744177664;omega);rw[aS]at ap own5 n5 dF;have kp:∀p,p<H.next+2->H5.get p=H3.get p:=fun p hp=>by rw[dF p ac (hno p hp),aL,ah ac]
   have g5a:=kp H.next ac
   have g5b:=kp (H.next+1) ac;have K5:Kp9 (H.next+2) H2 H5:=K3.trans ⟨kp⟩ (aG _);clear kp dF;have gh0:=@zls;refine jp (fun hb hbp=>?_);refine⟨ac,aW,aW,b8,Jc,?_⟩;refine⟨.sl (H3.next+1) 0 ((cM done).length+1) 1,done++[q.v],rest2,eE,?_,fun q' hq' o m z e=>?_,?_,by rw[<-C,kI];rfl,by rw[fx,hdl];rfl,ac,K5⟩
   .rw[show cM (done++[q.v])=cM done++[.int .i64 q.v] by simp[cM]];exact own5
   .simp only[AV.sl.injEq]at e;omega
   .rw[show Z.length-(i+1)=m by omega];exact hr2
  .have hlt':¬(i:Int)<Z.length:=by omega
   rw[show Z.length-i=0 by omega,gK,am]at L;subst L;rw[bq]at C;subst C;have hag:=own.ag (S:=c.S) hno fun q hq=>hF.up q ac;obtain⟨f,rfl⟩:=jR hi0;simp only[eM]at hG hr h;obtain⟨Hs,hHs⟩:∃Hs,H3.set (H.next+1) (.cells [cv,ov,.int .i64 (ct s).a2,.int .i64 0,.int .i64 (ct s).aT,.int .i64 0] 0 true)=Hs:=⟨_,rfl⟩;have ns:H3.next<=Hs.next:=by rw[<-hHs];exact aG _
   have ks1:∀r,r≠H.next+1->Hs.get r=H3.get r:=fun r hr=>by rw[<-hHs,aQ,ah hr]
   have gs:Hs.get (H.next+1)=some (.cells [cv,ov,.int .i64 (ct s).a2,.int .i64 0,.int .i64 (ct s).aT,.int .i64 0] 0 true):=by rw[<-hHs,aQ,ai rfl]
   have Ks:Kp9 H.next H Hs:=K3'.trans ⟨fun r hr=>ks1 r ac⟩ (aG _)
   have Ks1:Kp9 (H.next+1) H2 Hs:=(Kp9.trans (n:=H.next+1) (m:=H.next+1) ⟨fun r hr=>K3.k r ac⟩ ⟨fun r hr=>ks1 r ac⟩ (aG _));have hsn:eI c.S Hs (.ptr (H.next+1) 0) ((ct s).bb 0):=EI (s:=(ct s).bb 0) hcv hov ⟨zQ,fun r _ hr=>(K2a.trans Ks1 (aG _)).k r hr⟩ (hF.up _ ac) ac (by rw[gs];show _=some (HB.cells [cv,ov,.int .i64 (ct s).a2,.int .i64 (ct s).ed,.int .i64 (ct s).aT,.int .i64 0] 0 true);rw[ce']);have hags:re c.S Hs av done:=by
    rcases hag with e|e|⟨q,tl,im,tp,e,e1,e2,e3⟩
    .exact .inl e
    .exact .inr (.inl e)
    .exact .inr (.inr ⟨q,tl,im,tp,e,e1,ac,by rw[ks1 q (fun e'=>hno q ac _ _ _ e)];exact e3⟩)
   have hFs:=hF.keep (H':=Hs) ac Ks.k;obtain⟨_,_,_,hlenG,_⟩:=hc.um.m f G hG;have kent:=Xb hT (u:=c.u) (M:=c.M) (f:=f) (g:=G) hG hlenG hsn hags hFs.hd hFs.up hc.um;have ns2:H.next+2<=Hs.next:=ac
   have kent2:aR prog (aA pls tb) 47 [.agg c.u.cells,c.hv,.int .i64 f,.ptr (H.next+1) 0,av] Hs fun w H'=>∃I O,w=.ptr I 0/\H.next+2<=I/\H.next+2<=O/\(⟨fun q=>c.S q/\q≠I/\q≠O,I,O,c.u,c.M,c.hv,.ptr (H.next+1) 0,av,⟨f,G,(ct s).bb 0,done⟩⟩:Cq).Ok/\rh ⟨fun q=>c.S q/\q≠I/\q≠O,I,O,c.u,c.M,c.hv,.ptr (H.next+1) 0,av,⟨f,G,(ct s).bb 0,done⟩⟩ H' (vP G.af.length)/\H3.next<=H'.next/\Kp9 H.next H H':=a8 (fun w H' ⟨I,O,h1,h2,h3,h4,h5,h6,h7⟩=>⟨I,O,h1,ac,ac,h4,h5,ac,Ks.trans ⟨fun r hr=>h7 r hr⟩ (show H.next<=Hs.next by omega)⟩) kent
   clear kent;rw[show c.u.cells=[.aE (c.u.ab.map Ar.cells),.aE (c.u.funcs.map Gr.cells)]from rfl,<-hHs]at kent2;have y1:(c.xp == H.next+1)=false:=aZ ac;have wA:∀(a b:AV) (l:qB),cr 2 (a::b::l)=some (.agg [a,b]):=fun _ _ _=>rfl;clear hHs ks1;repeat' (first
    |(apply ay ?_;clear hK K)|apply aT ?_|(apply a2 ?_ ?_<;>(intro hb hbp;try(cases hb;done)))|(apply az fun K hK=>?_)|(apply bV 13 [(3,11),(7,11)] fun K hK=>?_)|(apply bB ?_;try intro _)|fail)
   refine qk ?_;refine a8 ?_ kent2;rintro v H6 ⟨I,O,rfl,hxp,hrp,hok,hFV,n6,K6⟩;dsimp only[a0];have hF6:=hF.keep (H':=H6) ac K6.k;have gx6:=hF6.x;unfold ib at gx6;have hgc:G.cells=[.ay G.name,.int .i64 G.params,.aE (G.af.map Nd.cells),.int .i64 G.value,.int .i64 G.aa]:=rfl;refine Ze ?_ (fun K hK=>?_)
   .exact bM
   refine qj ?_;refine a8 ?_ (NZ hT hE (c:=⟨fun q=>c.S q/\q≠I/\q≠O,I,O,c.u,c.M,c.hv,.ptr (H.next+1) 0,av,⟨f,G,(ct s).bb 0,done⟩⟩) rfl rfl hok hFV hr);rintro v J ⟨hst7,hFV7,n67,fr7⟩;dsimp only[a0];have K7:Kp9 H.next H J:=K6.trans (m:=H.next) ⟨fun r hr=>fr7 r ac (by show r≠O;omega) (by show r≠I;omega)⟩ (aG _)
   clear fr7;have hF7:=hF.keep (H':=J) ac K7.k;have gx7:=hF7.x;unfold ib at gx7;obtain⟨p7,cv7,ov7,rfl,V⟩:=hst7;have gp7:=V.get;have lp7:=V.lt;obtain⟨q1,q2⟩:=V.cells.one;obtain⟨q3,q4⟩:=V.out.one;have y7:(p7 == J.next)=false:=aZ ac;have y8:(c.xp == J.next)=false:=aZ ac;by_cases c7:r.1.ed=0
   .rw[ai c7]at h;obtain⟨r2,hr2,h⟩:=aC.1 h;rw[am]at h;subst h;repeat' (first
     |(apply ay ?_;clear hK K)|apply aT ?_|(apply a2 ?_ ?_<;>(intro hb hbp;try(cases hb;done)))|(apply az fun K hK=>?_)|fail)
    generalize Y:Hp.set _ J.next _=Hb
    have nb:J.next+1=Hb.next:=BD
    have Kb:Kp9 J.next J Hb:=⟨fun r hr=>WW⟩
    have gb:Hb.get J.next=some (.cells [cv7,ov7,.int .i64 r.1.a2,.int .i64 0,.int .i64 r.1.aT,.int .i64 (ct s).bI] 0 true):=BE
    clear Y;have nb':J.next+1<=Hb.next:=ac
    clear nb;obtain⟨rows7,vvs7,hFq7⟩:=hFV7;have hFb:=hFq7.keep (H':=Hb) ac Kb.k;refine qj ?_;refine a8 ?_ (Jh hT hE (c:=⟨fun q=>c.S q/\q≠I/\q≠O,I,O,c.u,c.M,c.hv,.ptr (H.next+1) 0,av,⟨f,G,(ct s).bb 0,done⟩⟩) rfl rfl hok ⟨rows7,vvs7,hFb⟩ hr2);rintro v H8 ⟨rfl,hFV8,n8,fr8⟩;dsimp only[a0];have lx7:I<J.next:=hFq7.lx
    have lr7:O<J.next:=hFq7.lr
    have g8:=(fr8 J.next ac (by show J.next≠O;omega) (by show J.next≠I;omega)).trans gb;have K8:Kp9 H.next H H8:=(K7.trans Kb ac).trans (m:=H.next) ⟨fun r hr=>fr8 r ac (by show r≠O;omega) (by show r≠I;omega)⟩ (aG _)
    have E8:zd2 (fun q=>c.S q/\q≠I/\q≠O) J H8:=⟨ac,fun r hr hl=>by rw[fr8 r ac hr.2.2 hr.2.1,Kb.k r hl]⟩;clear fr8;refine dX ?_;all_goals refine qi ?_
    generalize hHc:Hp.set _ J.next _=Hc
    have nc:Hc.next=H8.next:=by rw[<-hHc];rfl
    have gc:Hc.get J.next=some (.cells [cv7,ov7,.int .i64 r.1.a2,.int .i64 0,.int .i64 r.1.aT,.int .i64 r2.1] 0 true):=by rw[<-hHc,aQ,ai rfl]
    have Kc:∀r,r≠J.next->Hc.get r=H8.get r:=fun r hr=>by rw[<-hHc,aQ,ah hr]
    clear hHc;have E9:zd2 (fun q=>c.S q/\q≠I/\q≠O) J Hc:=⟨ac,fun r hr hl=>by rw[Kc r ac];exact E8.get r hr hl⟩;have h9:eI (fun q=>c.S q/\q≠I/\q≠O) Hc (.ptr J.next 0) (r.1.bb r2.1):=EI (s:=r.1.bb r2.1) V.cells V.out E9 ⟨hF.up _ ac,ac,ac⟩ ac (by rw[gc];show _=some (HB.cells [cv7,ov7,.int .i64 r.1.a2,.int .i64 r.1.ed,.int .i64 r.1.aT,.int .i64 r2.1] 0 true);rw[c7]);exact⟨h9.sub fun _ _ h=>h.1,ac,fun r hr=>by rw[Kc r ac,K8.k r hr]⟩
   .rw[ah c7,am]at h;subst h;refine jp (fun hb hbp=>?_);all_goals refine qi ?_
    generalize Y:Hp.set _ J.next _=Hb
    have nb:J.next+1=Hb.next:=BD
    have Kb:Kp9 J.next J Hb:=⟨fun r hr=>WW⟩
    have gb:Hb.get J.next=some (.cells [cv7,ov7,.int .i64 r.1.a2,.int .i64 r.1.ed,.int .i64 r.1.aT,.int .i64 (ct s).bI] 0 true):=BE
    clear Y;have htl:(ct s).bI=s.bI:=by unfold ct;split<;>rfl
    rw[htl]at gb;have lx7:I<J.next:=by obtain⟨_,_,hz⟩:=hFV7;exact hz.lx
    have lr7:O<J.next:=by obtain⟨_,_,hz⟩:=hFV7;exact hz.lr
    have h9:eI (fun q=>c.S q/\q≠I/\q≠O) Hb (.ptr J.next 0) (r.1.bb s.bI):=EI (s:=r.1.bb s.bI) V.cells V.out ⟨ac,fun r _ hr=>Kb.k r hr⟩ ⟨hF.up _ ac,ac,ac⟩ ac gb;exact⟨h9.sub fun _ _ h=>h.1,ac,(K7.trans Kb ac).k⟩
 .cases h
end
end
section
def tyEwE.tyF:=ad @dm (ad @cG (ad @l7 (ad @ey (ad @kJ (ad @jJ (ad @ik (ad @nF (ad @oR (ad @rQ (ad @pL (ad @rR (ad @oS (ad @pM (ad @oT (ad @oU (ad @oV (ad @LK (ad @EG (@I7)))))))))))))))))))
open tyEwE
section
variable {tb:qH} (hT:EwT tb) {c:Cq} {H:Hp} {rows:List qB} {vvs:qB} {a:A9}
include hT
theorem zlu(O:Fq c H rows vvs a)(hl:n.ak.length<2^30){s2:S9}(h:nC c.x.start a.get n=some s2):aR prog (aA pls tb) 181 [.ptr c.xp 0,.agg n.cells] H fun w H'=>eI c.S H' w s2/\zd2 (fun _=>True) H H':=by
 have hw:zd0 (aA pls tb) 181:=hT.plain cN;have np:∀E:aw,aM E (.const (.pointer none))=some .aF:=fun _=>rfl;obtain⟨op,Y,Z⟩:=n;simp only at hl;have ec:(Nd.mk op Y Z).cells=[.int .i64 op,.int .i64 Y,.aE (Z.map fun k=>[.int .i64 k])]:=rfl;rw[ec];have z:=O.alloc (.cells [.int .i64 op,.int .i64 Y,.aE (Z.map fun k=>[.int .i64 k])] 0 true);have gx:=z.x;unfold ib at gx;have lx:=O.lx;have lr:=O.lr;have y0:(c.xp == H.next)=false:=aZ ac;have gn:(H.alloc (.cells [.int .i64 op,.int .i64 Y,.aE (Z.map fun k=>[.int .i64 k])] 0 true)).get H.next=some (.cells [.int .i64 op,.int .i64 Y,.aE (Z.map fun k=>[.int .i64 k])] 0 true):=fw
 have E1:zd2 (fun _=>True) H (H.alloc (.cells [.int .i64 op,.int .i64 Y,.aE (Z.map fun k=>[.int .i64 k])] 0 true)):=⟨dg _,fun q _ hq=>dT⟩;unfold nC at h;simp only at h;by_cases c26:op=26
 .subst c26;simp only[dG,am]at h;subst h;have hst:=z.st;refine qe hw func181 oz ?_;dsimp only[oz,qd,a1,Nat.reduceAdd];refine BS (fun hb hbp=>?_);all_goals refine qi ?_
  exact⟨hst,E1⟩
 rw[ah c26]at h;obtain⟨r,h1,h⟩:=aC.1 h;obtain⟨s,h2,h⟩:=aC.1 h;obtain⟨m,sv,lv,k0,_,hm,ho,_,ix,hA⟩:=O.bM h1;simp only at k0;rw[h2]at ho;have ho1:eI c.S (H.alloc (.cells [.int .i64 op,.int .i64 Y,.aE (Z.map fun k=>[.int .i64 k])] 0 true)) sv s:=x9 ho (E1.sub fun _ _ _=>trivial);have a6:=(hA _ z.r).l2;obtain⟨p,cv,L,rfl,hp⟩:=ho1;have gp:=hp.get;obtain⟨p1,p2⟩:=hp.cells.one;obtain⟨p3,p4⟩:=hp.out.one;have plt:=hp.lt;rw[aS]at plt;have y1:(p == H.next+1)=false:=aZ ac;have y2:(H.next == H.next+1)=false:=aZ ac;by_cases c28:op=28
 .subst c28;simp only[dG]at h;obtain⟨ra,h3,h⟩:=aC.1 h;obtain⟨rb,h4,h⟩:=aC.1 h;obtain⟨ma,sva,lva,ka,_,hma,_,_,ixa,j⟩:=O.bM h3;obtain⟨mb,svb,lvb,kb,_,hmb,_,_,ixb,hAb⟩:=O.bM h4;have aa:=(j _ z.r).l1;have ab:=(hAb _ z.r).l1;simp only at ka kb;refine qe hw func181 oz ?_;dsimp only[oz,qd,a1,Nat.reduceAdd];refine JD ?_ (fun K hK=>?_)
  .exact bM
  refine qk ?_;refine a8 ?_ (zkX hT.toEvT ⟨p,cv,L,rfl,hp⟩ (fun q hq=>z.up q hq) h);rintro v H4 ⟨hv,E4⟩;dsimp only[a0];have hF4:=z.keep E4.next fun q hq=>E4.get q trivial hq
  have gx4:=hF4.x;unfold ib at gx4;have aa4:=(j _ hF4.r).l1;have ab4:=(hAb _ hF4.r).l1;have gn4:=(E4.get _ trivial (show H.next<(H.alloc _).next from cn _)).trans gn;have n4:=E4.next
  have hov:=hv.one;refine BR ?_ ?_
  .exact bM
  all_goals refine qi ?_
  exact⟨hv,E1.trans E4⟩
 rw[ah c28]at h;by_cases ce:s.ed=0
 .rw[ah ac]at h;by_cases c27:op=27
  .subst c27;rw[ai rfl]at h;obtain⟨ra,h3,h⟩:=aC.1 h;obtain⟨ma,sva,lva,ka,_,hma,_,_,ixa,j⟩:=O.bM h3;have aa:=(j _ z.r).l1;simp only at ka;simp only[am]at h;by_cases cv0:ra.v=0
   .rw[ah ac]at h;subst h;refine qe hw func181 oz ?_;dsimp only[oz,qd,a1,Nat.reduceAdd];repeat' (first
     |(apply ay ?_;clear hK K)|apply aT ?_|(apply a2 ?_ ?_<;>(intro hb hbp;try(cases hb;done)))|(apply az fun K hK=>?_)|(apply bV 3 [(3,12),(5,12),(7,12),(10,12)] fun K hK=>?_)|(apply bV 10 [(3,12),(5,12),(7,12),(10,12)] fun K hK=>?_)|(apply bV 13 [(1,3),(1,5)] fun K hK=>?_)|(apply bB ?_;try intro _)|(apply bY ?_ ?_<;>clear hK K)|fail)
    .exact bM
    .exact bM
    .exact bM
    all_goals refine qi ?_
    generalize V:Hp.set _ (H.next+1) _=C;have nc:H.next+2<=C.next:=by rw[<-V];exact aG _
    have gc:C.get (H.next+1)=some (.cells [cv,L,.int .i64 s.a2,.int .i64 2,.int .i64 Y,.int .i64 s.bI] 0 true):=by rw[<-V,aQ,ai rfl]
    have EC:zd2 (fun _=>True) (H.alloc (.cells [.int .i64 27,.int .i64 Y,.aE (Z.map fun k=>[.int .i64 k])] 0 true)) C:=⟨zQ,fun r _ hr=>by
     rw[aS]at hr;rw[<-V];simp only[aQ,aL,aS,ah (show ¬r=H.next+1 by omega)]⟩
    clear V;exact⟨⟨H.next+1,cv,L,rfl,⟨O.up _ ac,ac,gc,hp.cells.keep (EC.sub fun _ _ _=>trivial),hp.out.keep (EC.sub fun _ _ _=>trivial)⟩⟩,E1.trans EC⟩
   .rw[ai cv0]at h;subst h;refine qe hw func181 oz ?_;dsimp only[oz,qd,a1,Nat.reduceAdd];refine Y5 (fun hb hbp=>?_) (fun hb hbp=>?_) (fun hb hbp=>?_)
    .exact bM
    .exact bM
    all_goals refine qi ?_
    exact⟨⟨p,cv,L,rfl,hp⟩,E1⟩
  rw[ah c27]at h;by_cases c29:op=29
  .subst c29;rw[ai rfl]at h;obtain⟨ra,h3,h⟩:=aC.1 h;obtain⟨ma,sva,lva,ka,_,hma,_,_,ixa,j⟩:=O.bM h3;have aa:=(j _ z.r).l1;simp only at ka;simp only[am]at h;subst h;refine qe hw func181 oz ?_;dsimp only[oz,qd,a1,Nat.reduceAdd];refine JD ?_ (fun K hK=>?_)
   .exact bM
   generalize J:Hp.set (Hp.alloc (H.alloc _) _) (H.next+1) _=I;have nb:H.next+2<=I.next:=by rw[<-J];exact aG _
   have gb:I.get (H.next+1)=some (.cells [cv,L,.int .i64 s.a2,.int .i64 0,.int .i64 s.aT,.int .i64 s.bI] 0 true):=by rw[<-J,aQ,ai rfl]
   have EB:zd2 (fun _=>True) (H.alloc (.cells [.int .i64 29,.int .i64 Y,.aE (Z.map fun k=>[.int .i64 k])] 0 true)) I:=⟨zQ,fun r _ hr=>by
    rw[aS]at hr;rw[<-J];simp only[aQ,aL,aS,ah (show ¬r=H.next+1 by omega)]⟩
   clear J;have hFb:=z.keep EB.next fun q hq=>EB.get q trivial hq
   have gxb:=hFb.x;unfold ib at gxb;have aab:=(j _ hFb.r).l1;have gnb:=(EB.get _ trivial (show H.next<(H.alloc _).next from cn _)).trans gn;have gpb:=(EB.get _ trivial hp.lt).trans gp;have y3:(H.next+1 == I.next)=false:=aZ ac;have y4:(p == I.next)=false:=aZ ac;have y5:(H.next == I.next)=false:=aZ ac;have y6:(c.xp == I.next)=false:=aZ ac;have y7:(c.rp == I.next)=false:=aZ ac;have hbo:=zkY hp.out ra.v;have aabb:=(j _ (hFb.alloc (.cells [.int .i64 ra.v,L] 0 true)).r).l1;repeat' (first
    |(apply ay ?_;clear hK K)|apply aT ?_|(apply az fun K hK=>?_)|(apply bB ?_;try intro _)|(apply bY ?_ ?_<;>clear hK K)|fail)
   .exact bM
   all_goals refine qi ?_
   generalize V:Hp.set _ (H.next+1) _=C;have nc:I.next+1<=C.next:=by rw[<-V];exact aG _
   have gc:C.get (H.next+1)=some (.cells [cv,.ptr I.next 0,.int .i64 s.a2,.int .i64 0,.int .i64 s.aT,.int .i64 s.bI] 0 true):=by rw[<-V,aQ,ai rfl]
   have gd:C.get I.next=some (.cells [.int .i64 ra.v,L] 0 true):=by
    rw[<-V];simp only[aQ,aL,ah (show ¬I.next=H.next+1 by omega),dG]
   have EC:zd2 (fun _=>True) (H.alloc (.cells [.int .i64 29,.int .i64 Y,.aE (Z.map fun k=>[.int .i64 k])] 0 true)) C:=⟨zQ,fun r _ hr=>by
    have hr2:=hr;rw[aS]at hr2;rw[<-EB.get r trivial hr,<-V];simp only[aQ,aL,ah (show ¬r=H.next+1 by omega),ah (show ¬r=I.next by omega)]⟩
   clear V;refine⟨⟨H.next+1,cv,.ptr I.next 0,rfl,⟨O.up _ ac,ac,?_,hp.cells.keep (EC.sub fun _ _ _=>trivial),⟨I.next,L,rfl,O.up _ ac,ac,gd,hp.out.keep (EC.sub fun _ _ _=>trivial)⟩⟩⟩,E1.trans EC⟩;rw[gc,ce]
  .rw[ah c29]at h;cases h
 .rw[ai ce]at h;simp only[am]at h;subst h;refine qe hw func181 oz ?_;dsimp only[oz,qd,a1,Nat.reduceAdd];refine OL ?_ ?_
  .exact bM
  all_goals refine qi ?_
  exact⟨⟨p,cv,L,rfl,hp⟩,E1⟩
variable {u:Un} {M:List qG} {bG:X9 -> A9 -> Int -> Option A9} (hE:yb tb u M bG)
include hE
theorem zlv(hu:c.u=u)(hM:c.M=M)(hc:c.Ok)(V:Fq c H rows vvs a)(hl:n.ak.length<2^30)(O:n.op=30){r:Q9}(h1:da a.get n 0=some r)(h2:r.s=some s)(h:(s.ed≠0->t=s)/\(s.ed=0->uF u bG a.get n s=some t)):aR prog (aA pls tb) 181 [.ptr c.xp 0,.agg n.cells] H fun w H'=>eI c.S H' w t/\zd2 (fun _=>True) H H':=by
 have hw:zd0 (aA pls tb) 181:=hT.plain cN;have np:∀E:aw,aM E (.const (.pointer none))=some .aF:=fun _=>rfl;have I:=V.alloc (.cells n.cells 0 true);have L:=fun(v:AV) (hs:eI c.S (H.alloc (.cells n.cells 0 true)) v s) (ht:s.ed=0)=>zlt hT hE hu hM hc I hl (fun e=>by unfold da at h1;rw[e]at h1;simp at h1) hs (h.2 ht);obtain⟨op,Y,Z⟩:=n;simp only at hl O;subst O;have ec:(Nd.mk 30 Y Z).cells=[.int .i64 30,.int .i64 Y,.aE (Z.map fun k=>[.int .i64 k])]:=rfl;rw[ec]at L⊢;have z:=V.alloc (.cells [.int .i64 30,.int .i64 Y,.aE (Z.map fun k=>[.int .i64 k])] 0 true);have gx:=z.x;unfold ib at gx;have lx:=V.lx;have lr:=V.lr;have y0:(c.xp == H.next)=false:=aZ ac;have gn:(H.alloc (.cells [.int .i64 30,.int .i64 Y,.aE (Z.map fun k=>[.int .i64 k])] 0 true)).get H.next=some (.cells [.int .i64 30,.int .i64 Y,.aE (Z.map fun k=>[.int .i64 k])] 0 true):=fw
 have E1:zd2 (fun _=>True) H (H.alloc (.cells [.int .i64 30,.int .i64 Y,.aE (Z.map fun k=>[.int .i64 k])] 0 true)):=⟨dg _,fun q _ hq=>dT⟩;obtain⟨m,sv,lv,k0,_,hm,ho,_,ix,hA⟩:=V.bM h1;simp only at k0;rw[h2]at ho;have C:eI c.S (H.alloc (.cells [.int .i64 30,.int .i64 Y,.aE (Z.map fun k=>[.int .i64 k])] 0 true)) sv s:=x9 ho (E1.sub fun _ _ _=>trivial);have a6:=(hA _ z.r).l2;have j:=L sv C;obtain⟨p,cv,ov,rfl,hp⟩:=C;have gp:=hp.get;have plt:=hp.lt;clear L I;by_cases ce:s.ed=0
 .have j:=j ce;refine qe hw func181 oz ?_;dsimp only[oz,qd,a1,Nat.reduceAdd];refine JD ?_ (fun K hK=>?_)
  .exact bM
  refine qj ?_;refine a8 ?_ j;rintro v H4 ⟨hv,n4,J⟩;dsimp only[a0];have E4:zd2 (fun _=>True) (H.alloc (.cells [.int .i64 30,.int .i64 Y,.aE (Z.map fun k=>[.int .i64 k])] 0 true)) H4:=⟨n4,fun r _ hr=>J r hr⟩;clear J;have hov:=hv.one;refine vx ?_;all_goals refine qi ?_
  exact⟨hv,E1.trans E4⟩
 .rw[h.1 ce];refine qe hw func181 oz ?_;dsimp only[oz,qd,a1,Nat.reduceAdd];refine OL ?_ ?_
  .exact bM
  all_goals refine qi ?_
  exact⟨⟨p,cv,ov,rfl,hp⟩,E1⟩
end
end
section
def tyEwF.tyF:=ad @dm (ad @cG (ad @l7 (ad @ey (ad @kJ (ad @jJ (ad @ik (ad @nF (ad @oR (ad @rQ (ad @pL (ad @rR (ad @oS (ad @pM (ad @oT (ad @oU (ad @oV (ad @EH (@I7))))))))))))))))))
open tyEwF
theorem zlw(ks:qA){n:Nat}(h:n<=ks.length):jZ prog 26 (.aE (ks.map fun k=>[.int .i64 k])) none (some (.int .i64 (n:Int)))=some (.aE ((ks.take n).map fun k=>[.int .i64 k])):=by
 show jZ prog 26 (.aE (ks.map fun k=>[.int .i64 k])) none (some (.int .i64 (Int.ofNat n)))=_;have e:((ks.map fun k=>([.int .i64 k]:qB)).drop 0).take (n-0)=(ks.take n).map fun k=>([.int .i64 k]:qB):=by
  rw[gm,FW,JY]
 simp only[jZ,underlying26,jI,jc];rw[ai ⟨eR _,by rw[dk];exact h⟩,e];cases ks.take n<;>rfl
section
variable {tb:qH} (hT:EwT tb) {c:Cq} {H:Hp} {rows:List qB} {vvs:qB} {a:A9}
include hT
theorem zlx(hF:Fq c H rows vvs a)(hl:n.ak.length<2^30){k:Int}(h:jv a.get n=some k):aR prog (aA pls tb) 136 [.ptr c.xp 0,.agg n.cells] H fun w H'=>w=.int .i64 k/\zd2 (fun _=>True) H H':=by
 have hw:zd0 (aA pls tb) 136:=hT.plain cN;obtain⟨op,Y,Z⟩:=n;simp only at hl;have ec:(Nd.mk op Y Z).cells=[.int .i64 op,.int .i64 Y,.aE (Z.map fun k=>[.int .i64 k])]:=rfl;rw[ec];have V:=hF.alloc (.cells [.int .i64 op,.int .i64 Y,.aE (Z.map fun k=>[.int .i64 k])] 0 true);have gx:=V.x;unfold ib at gx;have lx:=hF.lx;have lr:=hF.lr;have y0:(c.xp == H.next)=false:=aZ ac;have y8:(c.xp == H.next+1)=false:=aZ ac;have y9:(H.next == H.next+1)=false:=aZ ac;have gn:(H.alloc (.cells [.int .i64 op,.int .i64 Y,.aE (Z.map fun k=>[.int .i64 k])] 0 true)).get H.next=some (.cells [.int .i64 op,.int .i64 Y,.aE (Z.map fun k=>[.int .i64 k])] 0 true):=fw
 have E1:zd2 (fun _=>True) H (H.alloc (.cells [.int .i64 op,.int .i64 Y,.aE (Z.map fun k=>[.int .i64 k])] 0 true)):=⟨dg _,fun q _ hq=>dT⟩;unfold jv at h;simp only at h;obtain⟨HX,hHX⟩:∃HX,HX=H:=⟨_,rfl⟩;have dd:AV.one .aF=true:=rfl;have n2:AV.cells .aF=[.aF]:=rfl;have n3:∀b,AV.one (.bool b)=true:=fun _=>rfl;refine qe hw func136 WH ?_;dsimp only[WH,qd,a1,Nat.reduceAdd];refine mT ?_;refine zkZ (fun E' H'=>∃L:qA,E'.at 0=.ptr c.xp 0/\E'.at 5=.aE (L.map fun k=>[.int .i64 k])/\Fq c H' rows vvs a/\zd2 (fun _=>True) H H'/\jf a.get L=some k/\L.length<2^30) ?_ ?_
 .by_cases c31:op=31
  .subst c31;rw[ai rfl]at h;have hlv:(if Z.length=0 then 0 else db Z.length)=db Z.length:=by split<;>simp_all[db]
   have kl:=W1 hT Z.length hl;rw[hlv]at kl;have hsl:=zlw Z (n:=db Z.length) (by unfold db;omega);repeat' (first
    |(apply ay ?_;clear hK K)|apply Ry.o ?_|(apply eA ?_;first|refine Rx.k (kl _) ?_)|(apply a2 ?_ ?_<;>(intro hb hbp;try(cases hb;done)))|(apply az fun K hK=>?_)|fail)
   exact⟨Z.take (db Z.length),eE,eE,V,E1,h,FT⟩
  rw[ah c31]at h;by_cases c22:op=22
  .subst c22;rw[ai rfl]at h;obtain⟨k0,h1,h⟩:=aC.1 h;obtain⟨r,h2,h⟩:=aC.1 h;obtain⟨m,sv,lv,kd,hg,hm,ho,ho2,ix,hA⟩:=hF.bM (n:=⟨22,Y,Z⟩) (j:=0) (r:=r) (by unfold da;rw[h1];exact h2);simp only at kd;rw[h1]at kd;simp only[am]at kd;subst kd;have ar:=(hA _ V.r).lr;have arA:=fun b=>(hA _ (V.alloc b).r).lr;obtain⟨rk,rv,rs,rl⟩:=r;obtain⟨ho1,ho1'⟩:=ho.dA;obtain⟨ho3,ho3'⟩:=ho2.dA;cases rk with
   |false=>
    rw[ah aB]at h;simp only[am]at h;subst h;repeat' (first
     |(apply ay ?_;clear hK K)|apply aT ?_|(apply a2 ?_ ?_<;>(intro hb hbp;try(cases hb;done)))|(apply az fun K hK=>?_)|(apply bV 6 [(3,10),(6,10),(8,10),(9,10)] fun K hK=>?_)|(apply bB ?_;try intro _)|(apply bY ?_ ?_<;>clear hK K)|fail)
    .exact bM
    all_goals refine qi ?_
    exact⟨su,WI _ _ _ _⟩
   |true=>
    rw[ai rfl]at h;obtain⟨k2,h3,h⟩:=aC.1 h;obtain⟨t,h4,h⟩:=aC.1 h;simp only[am]at h;repeat' (first
     |(apply ay ?_;clear hK K)|apply aT ?_|(apply a2 ?_ ?_<;>(intro hb hbp;try(cases hb;done)))|(apply az fun K hK=>?_)|(apply bV 6 [(3,10),(6,10),(8,10),(9,10)] fun K hK=>?_)|(apply bB ?_;try intro _)|(apply bY ?_ ?_<;>clear hK K)|fail)
    .exact bM
    generalize z:Hp.set (Hp.alloc (H.alloc _) _) (H.next+1) _=Hb;have nb:H.next+2<=Hb.next:=NH
    have O:zd2 (fun _=>True) (H.alloc (.cells [.int .i64 22,.int .i64 Y,.aE (Z.map fun k=>[.int .i64 k])] 0 true)) Hb:=⟨zQ,fun r _ hr=>by
     rw[aS]at hr;rw[<-z];simp only[aQ,aL,aS,ah (show ¬r=H.next+1 by omega)]⟩
    clear z;have hFb:=V.keep O.next fun q hq=>O.get q trivial hq
    have gnb:=(O.get _ trivial (show H.next<(H.alloc _).next from cn _)).trans gn;have C:=W0 hT hFb (n:=⟨22,Y,Z⟩) hl h3;rw[ec]at C;refine dX ?_;refine qj ?_;refine a8 ?_ C;rintro v H4 ⟨rfl,rfl⟩;dsimp only[a0];repeat' (first
     |(apply ay ?_;clear hK K)|apply a9 ?_|(apply fq ?_;first|refine Rx.k (zln hT (hFb.alloc _) h4) ?_)|fail)
    all_goals refine qi ?_
    exact⟨by first|trivial|rw[h],(E1.trans O).trans ⟨dg _,fun r _ hr=>dT⟩⟩
  rw[ah c22]at h;by_cases cg:op=27\/op=29\/op=30
  .rw[ai cg]at h;obtain⟨r,h1,h5⟩:=aC.1 h;clear h;obtain⟨m,sv,lv,k0,_,hm,ho,ho2,ix,hA⟩:=hF.bM h1;simp only at k0;have ar:=(hA _ V.r).lr;have arA:=fun b=>(hA _ (V.alloc b).r).lr;obtain⟨rk,rv,rs,rl⟩:=r;obtain⟨ho1,ho1'⟩:=ho.dA;obtain⟨ho3,ho3'⟩:=ho2.dA;cases rk with
   |false=>
    rw[ah aB]at h5;rcases cg with rfl|rfl|rfl;all_goals
     repeat' (first
      |(apply ay ?_;clear hK K)|apply aT ?_|(apply cR ?_ ?_<;>(intro hg hgp;try(cases hg;done)))|(apply a2 ?_ ?_<;>(intro hb hbp;try(cases hb;done)))|(apply az fun K hK=>?_)|(apply bV 13 [(3,10),(6,10),(8,10),(9,10)] fun K hK=>?_)|(apply bB ?_;try intro _)|(apply bY ?_ ?_<;>clear hK K)|fail)
     .exact bM
     generalize z:Hp.set (Hp.alloc (H.alloc _) _) (H.next+1) _=Hb;have O:zd2 (fun _=>True) H Hb:=⟨by rw[<-z,bK,aS,aS];omega,fun r _ hr=>by
      rw[<-z];simp only[aQ,aL,aS,ah (show ¬r=H.next+1 by omega),ah (show ¬r=H.next by omega)]⟩
     exact⟨Z,eE,eE,hF.keep O.next (fun q hq=>O.get q trivial hq),O,h5,hl⟩
   |true=>
    rw[ai rfl]at h5;obtain⟨s,hrs,h6⟩:=aC.1 h5;clear h5;simp only at hrs;subst hrs;obtain⟨p,cv,ov,rfl,hp⟩:=(ho:eI c.S H sv s);have gp:=hp.get;have plt:=hp.lt;have y1:(p == H.next)=false:=aZ ac;have y2:(p == H.next+1)=false:=aZ ac;by_cases ce:s.ed=0
    .rw[ah (show ¬s.ed≠0 by omega)]at h6;rcases cg with rfl|rfl|rfl;all_goals
      repeat' (first
       |(apply ay ?_;clear hK K)|apply aT ?_|(apply cR ?_ ?_<;>(intro hg hgp;try(cases hg;done)))|(apply a2 ?_ ?_<;>(intro hb hbp;try(cases hb;done)))|(apply az fun K hK=>?_)|(apply bV 13 [(3,10),(6,10),(8,10),(9,10)] fun K hK=>?_)|(apply bB ?_;try intro _)|(apply bY ?_ ?_<;>clear hK K)|fail)
      .exact bM
      generalize z:Hp.set (Hp.alloc (H.alloc _) _) (H.next+1) _=Hb;have O:zd2 (fun _=>True) H Hb:=⟨by rw[<-z,bK,aS,aS];omega,fun r _ hr=>by
       rw[<-z];simp only[aQ,aL,aS,ah (show ¬r=H.next+1 by omega),ah (show ¬r=H.next by omega)]⟩
      exact⟨Z,eE,eE,hF.keep O.next (fun q hq=>O.get q trivial hq),O,h6,hl⟩
    .rw[ai ce,am]at h6;subst h6;rcases cg with rfl|rfl|rfl;all_goals
      repeat' (first
       |(apply ay ?_;clear hK K)|apply aT ?_|(apply cR ?_ ?_<;>(intro hg hgp;try(cases hg;done)))|(apply a2 ?_ ?_<;>(intro hb hbp;try(cases hb;done)))|(apply az fun K hK=>?_)|(apply bV 13 [(3,10),(6,10),(8,10),(9,10)] fun K hK=>?_)|(apply bB ?_;try intro _)|(apply bY ?_ ?_<;>clear hK K)|fail)
      .exact bM
      all_goals refine qi ?_
      exact⟨su,WI _ _ _ _⟩
  .rw[ah cg]at h;have c27:¬op=27:=ac;have c29:¬op=29:=ac;have c30:¬op=30:=ac;refine jp (fun hb hbp=>?_);exact⟨Z,eE,eE,V,E1,h,hl⟩
 .rintro E' H2 ⟨L,k0,dF,hF2,E2,hm,hksl⟩;clear h gx gn y0;dsimp only[oJ,uu];refine dX ?_;subst hHX;refine cP [0,65,66] [] 67 L.length (fun i E Hx=>jf a.get (L.drop i)=some k/\Fq c Hx rows vvs a/\zd2 (fun _=>True) HX Hx) eE ⟨hm,hF2,E2⟩ ?_;clear hm hF2 E2;rintro i E3 H3 hi hcE hrH hnH hsI ⟨hJ,I,E3'⟩;(try simp only[bz,a7,aV,aK,bb,Nat.reduceBEq, *]at hcE);(try simp only[a7, *]at hrH);(try simp only[aS,bK,cL,bR,Nat.reduceAdd]at hnH);by_cases hlt:i<L.length
  .have hlt':(i:Int)<L.length:=by omega
   have hgx:L[i]?=some L[i]:=aX hlt;rw[i4 hlt,jf]at hJ;generalize L[i]=q at *;obtain⟨r,hr,J⟩:=aC.1 hJ;clear hJ;obtain⟨m,rfl⟩:∃m:Nat,q=m:=⟨q.toNat,by obtain⟨_,_,h0,_⟩:=I.get hr;omega⟩;obtain⟨sv,lv,hn,ho,_,hx,hA⟩:=I.at hr;have gx:=I.x;unfold ib at gx;have fD:=(hA _ I.r).l0;obtain⟨rk,rv,rs,rl⟩:=r;cases rk with
   |true=>
    rw[ai rfl]at J;refine jp (fun hb hbp=>?_);refine⟨ac,aW,aW,b8,(by simp only[aK,Nat.reduceBEq, *];exact il (n:=L.length) ac ac),?_⟩;exact⟨J,I,E3'⟩
   |false=>
    rw[ah aB,am]at J;subst J;refine jp (fun hb hbp=>?_);all_goals refine qi ?_
    exact⟨su,E3'⟩
  .have hlt':¬(i:Int)<L.length:=by omega
   rw[oc ac,jf,am]at hJ;subst hJ;refine jp (fun hb hbp=>?_);all_goals refine qi ?_
   exact⟨su,E3'⟩
end
end
section
def tyEwG.tyF:=ad @dm (ad @cG (ad @l7 (ad @ey (ad @kJ (ad @jJ (ad @ik (ad @nF (ad @oR (ad @rQ (ad @pL (ad @rR (ad @oS (ad @pM (ad @oT (ad @oU (ad @oV (ad @LM (@wA))))))))))))))))))
open tyEwG
noncomputable def Xe:=qd (M:=138) f180.eq_1
structure Kf9 (c:Cq) (n:Nat) (H H':Hp):Prop where
 k:∀r,r<n->r≠c.rp->r≠c.xp->H'.get r=H.get r
def Kf9.trans{n:Nat}{Z Y z:Hp}(h:Kf9 c n Z Y)(k:Kf9 c m Y z)(V:n<=m):Kf9 c n Z z:=⟨fun r hr a b=>(k.k r (iy hr V) a b).trans (h.k r hr a b)⟩
def Kp9.kf{n:Nat}(h:Kp9 n H H'):Kf9 c n H H':=⟨fun r hr _ _=>h.k r hr⟩
def Xf{xp o:Nat}(h:m<16):dK prog 157 (.ptr xp o) (.int .i64 (m:Int))=some (.ptr xp (o+m)):=by
 show dK prog 157 (.ptr xp o) (.int .i64 (Int.ofNat m))=_;have e:prog.underlying 157=some (.array 16 156):=ax;have V:bp prog 156=some 1:=ax;simp only[dK,e,V,h,dG,lW]
theorem zly(c:Cq)(n:Nat)(Z:qB)(m:Nat)(v:AV):(ib c n Z).set (7+m) v=ib c n (Z.set m v):=by
 rw[Nat.add_comm];rfl
def Fq.fu(L:c.Ok)(h:Fq c H rows Z a)(Y:my c.S H v l):Fq c (H.set c.xp (.cells (ib c a.bJ.length (Z.set m v)) 0 true)) rows (Z.set m v) ⟨a.bJ,a.vars.set m l⟩:=by
 have E:zd2 c.S H (H.set c.xp (.cells (ib c a.bJ.length (Z.set m v)) 0 true)):=⟨aG _,fun k z _=>by rw[aQ,ah (fun e:k=c.xp=>L.sx (by rw[<-e];exact z))]⟩;exact⟨iW,by rw[aQ,ah (Ne.symm L.ne)];exact h.r,h.lx,h.lr,h.st.keep E,h.ag.keep E,h.hd.keep E,h.rows.mono fun _ _ hr=>hr.keep E,bN.set (h.vars.mono fun _ _ hr=>hr.keep E) (Y.keep E),by simp only[iB];exact h.eL,h.up,h.len⟩
theorem zlz{xp:Nat}{cs:qB}(hg:H.get xp=some (.cells cs 0 true))(Y:7+m<cs.length)(j:AV.one v=true/\v.cells=[v]):jY prog H 156 (.ptr xp (7+m)) v=some (H.set xp (.cells (cs.set (7+m) v) 0 true)):=by
 have V:bp prog 156=some 1:=ax;rw[yJ,hg,V,CK,j.2,NT Y]
 grind
def Xg(p q n:Nat):eg prog 234 [(0,.ptr p 0),(1,.sl q 0 n 1)]=some (.agg [.ptr p 0,.sl q 0 n 1]):=ax
theorem Xh(done:qA)(x:Int)(i:Nat):((0::done)++List.replicate (i+1) (0:Int)).set (done.length+1) x=(0::(done++[x]))++List.replicate i 0:=by
 grind
theorem zlA{P:Program}{cfg:Cfg}{N id:Nat}{a:SC}{E:aw}{R:AX->aw->Hp->Prop}(F:aw->Hp->Prop)(j:bX P cfg f N a E H (uu id fun x E' H'=>x=.normal/\F E' H'))(m:∀E' H',F E' H'->R .normal E' H'):bX P cfg f N a E H (uu id R):=
 Ao (fun x E' H' h=>by
  cases x with
  |normal=>exact m _ _ h.2
  |exit i=>
   simp only[uu]at h⊢;simp_all
  |ret=>cases h.1) j
structure znU (c:Cq) (n0:Nat) (H:Hp) (p q k:Nat) (sv:AV) (now:L9):Prop where
 p0:n0<p
 q0:n0<q
 p1:p<H.next
 q1:q<H.next
 ne:p≠q
 gp:H.get p=some (.cells [sv,.sl q 0 k 1] 0 true)
 gq:H.get q=some (.cells (cM now.v) 0 true)
 vl:now.v.length=k
 st:eI ((c.aW q).aW p).S H sv now.s
section
variable {tb:qH} (hT:EwT tb) {H:Hp} {u:Un} {M:List qG} {bG:X9 -> A9 -> Int -> Option A9} (hE:yb tb u M bG) {c:Cq} {rows:List qB} {vvs:qB} {a:A9}
include hT hE
theorem zlB(hu:c.u=u)(hM:c.M=M)(hc:c.Ok)(hF:Fq c H rows vvs a)(hl:n.ak.length<2^30)(hi:0<=n.aP/\n.aP<16/\1<=db n.ak.length){q:Q9}{vs:qA}{fin:L9}{b:A9}(h1:da a.get n 0=some q)(h2:q.s=some s)(h3:gK a.get n.ak (db n.ak.length-1) 1=some vs)(h:rJ (bG c.x) (c.M.getD c.x.f []) n m ⟨s,0::vs⟩ a=some (fin,b)):aR prog (aA pls tb) 180 [.ptr c.xp 0,.agg n.cells] H fun w H'=>oA c.S H' w fin/\rh c H' b/\H.next<=H'.next/\∀r,r<H.next->r≠c.rp->r≠c.xp->H'.get r=H.get r:=by
 subst hu;subst hM;have hw:zd0 (aA pls tb) 180:=hT.cF cN;have np:∀E:aw,aM E (.const (.pointer none))=some .aF:=fun _=>rfl;obtain⟨mk,sv,lv,k0,_,hmk,ho,_,ix,hA⟩:=hF.bM h1;rw[h2]at ho;obtain⟨op,imm,Y⟩:=n;simp only at hl hi k0 h3;have ec:(Nd.mk op imm Y).cells=[.int .i64 op,.int .i64 imm,.aE (Y.map fun k=>[.int .i64 k])]:=rfl;rw[ec];have hkl:Y.length≠0:=cU;have klv:=W1 hT Y.length hl;rw[ah hkl]at klv;obtain⟨L,rfl⟩:=jR hi.1;have hL:L<16:=by have:=hi.2.1;omega
 have hk1:=hi.2.2;have hkb:2*db Y.length<=Y.length:=by unfold db;omega
 clear hi;generalize hk:db Y.length=k at *;have hF1:=hF.alloc (.cells [.int .i64 op,.int .i64 (L:Int),.aE (Y.map fun k=>[.int .i64 k])] 0 true);have gx:=hF1.x;unfold ib at gx;have lx:=hF.lx;have lr:=hF.lr;have y0:(c.xp == H.next)=false:=aZ ac;have gn:(H.alloc (.cells [.int .i64 op,.int .i64 (L:Int),.aE (Y.map fun k=>[.int .i64 k])] 0 true)).get H.next=some (.cells [.int .i64 op,.int .i64 (L:Int),.aE (Y.map fun k=>[.int .i64 k])] 0 true):=fw
 have E1:zd2 (fun _=>True) H (H.alloc (.cells [.int .i64 op,.int .i64 (L:Int),.aE (Y.map fun k=>[.int .i64 k])] 0 true)):=⟨dg _,fun q _ hq=>dT⟩;have ho1:eI c.S (H.alloc (.cells [.int .i64 op,.int .i64 (L:Int),.aE (Y.map fun k=>[.int .i64 k])] 0 true)) sv s:=x9 ho (E1.sub fun _ _ _=>trivial);have a6:=(hA _ hF1.r).l2;obtain⟨p0,cv0,ov0,rfl,hp0⟩:=ho;have hmk:=fun H:Hp=>NU (H:=H) k ac;have hbl:=fun q=>Xg p0 q k;have wA:∀a b:AV,cr 2 [a,b]=some (.agg [a,b]):=fun _ _=>rfl;have y8:(c.xp == H.next+1)=false:=aZ ac;have y9:(H.next == H.next+1)=false:=aZ ac;have y10:(H.next+1 == H.next+2)=false:=aZ ac;have y11:(c.xp == H.next+2)=false:=aZ ac;have y12:(H.next == H.next+2)=false:=aZ ac;have a2A:=fun b b2=>(hA _ ((hF1.alloc b).alloc b2).r).l2;clear hkl;refine qe hw func180 Xe ?_;dsimp only[Xe,qd,a1,Nat.reduceAdd];repeat' (first
  |(apply ay ?_;clear hK K)|apply aT ?_|(apply eA ?_;first|refine Rx.k (klv _) ?_)|(apply az fun K hK=>?_)|(apply bV 2 [(3,16),(5,16),(7,16),(10,16),(12,16),(14,16)] fun K hK=>?_)|(apply bB ?_;try intro _)|(apply bY ?_ ?_<;>clear hK K)|fail)
 .exact bM
 generalize hHb:Hp.alloc (Hp.alloc (H.alloc _) _) _=Hb;have nb:H.next+3<=Hb.next:=Dz
 have Kb:Kp9 H.next H Hb:=⟨fun r hr=>by rw[<-hHb];simp only[aL,aS,ah (show ¬r=H.next+1+1 by omega),ah (show ¬r=H.next+1 by omega),ah (show ¬r=H.next by omega)]⟩
 have gnb:Hb.get H.next=some (.cells [.int .i64 op,.int .i64 (L:Int),.aE (Y.map fun k=>[.int .i64 k])] 0 true):=by rw[<-hHb];simp only[aL,aS,ah (show ¬H.next=H.next+1+1 by omega),ah (show ¬H.next=H.next+1 by omega),dG]
 have gvb:Hb.get (H.next+1)=some (.cells (cM (List.replicate k 0)) 0 true):=by rw[<-hHb];simp only[aL,aS,ah (show ¬H.next+1=H.next+1+1 by omega),dG]
 have gpb:Hb.get (H.next+2)=some (.cells [.ptr p0 0,.sl (H.next+1) 0 k 1] 0 true):=by rw[<-hHb,aL,ai cN]
 clear hHb a2A a6 gn gx ho1 E1 hF1 y8 y9 y10 y11 y12;refine G3 [0,3,4,5,6] [H.next,H.next+2] (fun i E H2=>∃done rest,i+done.length+1=k/\E.at 7=.int .i64 ((done.length+1:Nat):Int)/\H2.get (H.next+1)=some (.cells (cM ((0::done)++List.replicate i 0)) 0 true)/\gK a.get Y i (done.length+1)=some rest/\done++rest=vs/\Kp9 H.next H H2) (k-1) ⟨[],vs,cZ,eE,by rw[gvb,show k=(k-1)+1 by omega];rfl,h3,rfl,Kb⟩ ?_;rintro i E2 H2 hcE hrH hnH ⟨done,rest,hik,iU,gv2,Z,C,K2⟩;(try simp only[bz,a7,aV,aK,bb,Nat.reduceBEq, *]at hcE);(try simp only[bz,a7,aV, *]at hrH);have hF2:=hF.keep (H':=H2) ac K2.k;have gx2:=hF2.x;unfold ib at gx2;cases i with
 |succ i=>
  have hlt':((done.length+1:Nat):Int)<(k:Int):=ac;rw[gK]at Z;obtain⟨kk,hgk,Z⟩:=aC.1 Z;obtain⟨q2,hq2,Z⟩:=aC.1 Z;obtain⟨rest2,hr2,Z⟩:=aC.1 Z;rw[am]at Z;subst Z;obtain⟨kn,rfl⟩:∃m:Nat,kk=m:=⟨kk.toNat,by obtain⟨_,_,h0,_⟩:=hF.get hq2;omega⟩;obtain⟨svk,lvk,hnk,hok,hok2,hxk,hAk⟩:=hF2.at hq2;have aI:=(hAk _ hF2.r).l1;have xj:=ya (q:=H.next+1) (n:=k) (m:=done.length+1) ac;have st1:=I6 (H:=H2) (q:=H.next+1) (j:=done.length+1) q2.v gv2 aU;rw[Xh]at st1;have ew:IntKind.wrap .i64 (((done.length+1:Nat):Int)+1)=(((done++[q2.v]).length+1:Nat):Int):=by
   rw[fx,zg];have:=fN (z:=(((done.length+1+1:Nat)):Int)) ac ac;rw[<-this];rfl
  repeat' (first
   |(apply ay ?_;clear hK K)|apply aT ?_|(apply a2 ?_ ?_<;>(intro hb hbp;try(cases hb;done)))|(apply az fun K hK=>?_)|(apply uH 6 fun K hK=>?_)|fail)
  refine⟨aW,aW,aU,i,cn _,done++[q2.v],rest2,cU,eE,by rw[aQ,ai rfl];simp_all,aU,aU,⟨fun r hr=>by rw[aQ,ah ac];exact K2.k r hr⟩⟩
 |zero=>
  have hlt':¬((done.length+1:Nat):Int)<(k:Int):=ac;rw[gK,am]at Z;subst Z;rw[bq]at C;subst C;rw[Mx,bq]at gv2;refine jp (fun hb hbp=>?_);have hS0:eI ((c.aW (H.next+1)).aW (H.next+2)).S H2 (.ptr p0 0) s:=(eI.sub (S:=c.S) (T:=((c.aW (H.next+1)).aW (H.next+2)).S) ⟨p0,cv0,ov0,rfl,hp0⟩ fun r hr hS=>⟨⟨hS,ac⟩,ac⟩).keep ⟨ac,fun r _ hr=>K2.k r hr⟩;have hF0:Fq ((c.aW (H.next+1)).aW (H.next+2)) H2 rows vvs a:=hF.to (T:=((c.aW (H.next+1)).aW (H.next+2)).S) ⟨ac,fun r _ hr=>K2.k r hr⟩ (fun r hr hS=>⟨⟨hS,ac⟩,ac⟩) fun r hr=>⟨⟨hF.up r ac,ac⟩,ac⟩;have hI0:znU c H.next H2 (H.next+2) (H.next+1) k (.ptr p0 0) ⟨s,0::done⟩:=⟨ac,ac,ac,ac,ac,hrH.2,gv2,aU,hS0⟩
  have gn2:H2.get H.next=some (.cells [.int .i64 op,.int .i64 (L:Int),.aE (Y.map fun k=>[.int .i64 k])] 0 true):=hrH.1
  clear gx2 gv2 gpb gnb hS0 hF2;refine zlA (fun E' H'=>∃p q sv a',E'.at 0=.ptr c.xp 0/\E'.at 3=.ptr H.next 0/\E'.at 6=.ptr p 0/\znU c H.next H' p q k sv fin/\rh ((c.aW q).aW p) H' a'/\a'.eu (c.M.getD c.x.f []) L=b/\H'.get H.next=some (.cells [.int .i64 op,.int .i64 (L:Int),.aE (Y.map fun k=>[.int .i64 k])] 0 true)/\H.next<=H'.next/\Kf9 c H.next H H') ?_ ?_
  .refine G3 [0,3,4,5] [H.next] (fun mm E' H'=>∃on O p q sv a',E'.at 6=.ptr p 0/\E'.at 8=.bool on/\(on=true->rJ (bG c.x) (c.M.getD c.x.f []) ⟨op,L,Y⟩ mm O a'=some (fin,b))/\(on=false->O=fin/\a'.eu (c.M.getD c.x.f []) L=b)/\znU c H.next H' p q k sv O/\rh ((c.aW q).aW p) H' a'/\Kf9 c H.next H H') m ⟨true,_,_,_,_,a,eE,eE,fun _=>h,(fun e=>by cases e),hI0,⟨rows,vvs,hF0⟩,K2.kf⟩ ?_;clear h hI0 hF0;rintro mm E3 H3 hcE3 hrH3 hnH3 ⟨on,O,p,q3,sv3,cp,k6,k8,hon,hoff,hI,⟨rows3,I,hF3⟩,K3⟩;(try simp only[bz,a7,aV,aK,Nat.reduceBEq, *]at hcE3);(try simp only[bz,a7,aV, *]at hrH3);have lp3:=hI.p1;have lq3:=hI.q1;have lp0:=hI.p0;have lq0:=hI.q0;have hnpq:=hI.ne;have gp3:=hI.gp;obtain⟨ps,cvs,ovs,rfl,hps⟩:=hI.st;have gps:=hps.get;have lps:=hps.lt;cases on with
   |false=>
    obtain⟨rfl,hinv⟩:=hoff rfl;repeat' (first
     |(apply ay ?_;clear hK K)|apply aT ?_|(apply cR ?_ ?_<;>(intro hg hgp;try(cases hg;done)))|(apply a2 ?_ ?_<;>(intro hb hbp;try(cases hb;done)))|(apply az fun K hK=>?_)|fail)
    exact⟨su,p,q3,_,cp,eE,eE,eE,hI,⟨rows3,I,hF3⟩,hinv,hrH3,ac,K3⟩
   |true=>
    have hq:=hon rfl;clear hon hoff;cases mm with
    |zero=>cases hq
    |succ mm=>
     rw[rJ]at hq;simp only[eM]at hq;rw[hk]at hq;by_cases c1:O.s.ed≠0
     .rw[ai c1,am,iX]at hq;obtain⟨rfl,hinv⟩:=hq;repeat' (first
       |(apply ay ?_;clear hK K)|apply aT ?_|(apply cR ?_ ?_<;>(intro hg hgp;try(cases hg;done)))|(apply a2 ?_ ?_<;>(intro hb hbp;try(cases hb;done)))|(apply az fun K hK=>?_)|fail)
      exact⟨su,p,q3,_,cp,eE,eE,eE,hI,⟨rows3,I,hF3⟩,hinv,hrH3,ac,K3⟩
     rw[ah c1]at hq;have c1':O.s.ed=0:=ac;repeat' (first
      |(apply ay ?_;clear hK K)|apply aT ?_|(apply cR ?_ ?_<;>(intro hg hgp;try(cases hg;done)))|(apply a2 ?_ ?_<;>(intro hb hbp;try(cases hb;done)))|(apply az fun K hK=>?_)|fail)
     have kt:=W9 hT (H:=H3) ⟨ps,cvs,ovs,rfl,hps⟩;refine qj ?_;refine a8 ?_ kt;rintro v H4 ⟨cv,ov,rfl,hcv,hov,gs4,n4,fr4⟩;dsimp only[a0];have gp4:=(fr4 p lp3).trans gp3;have gn4:=(fr4 H.next ac).trans hrH3;have gq4:=(fr4 q3 lq3).trans hI.gq;have K4:Kp9 H3.next H3 H4:=⟨fr4⟩
     clear fr4;have n4':H3.next+1<=H4.next:=ac
     clear n4;have hF4:=hF3.keep (H':=H4) ac K4.k;obtain⟨H5,hH5⟩:∃H5,H4.set p (.cells [.ptr H3.next 0,.sl q3 0 k 1] 0 true)=H5:=⟨_,rfl⟩;have n5:H4.next<=H5.next:=by rw[<-hH5];exact aG _
     have K5:∀r,r≠p->H5.get r=H4.get r:=fun r hr=>by rw[<-hH5,aQ,ah hr]
     have gp5:H5.get p=some (.cells [.ptr H3.next 0,.sl q3 0 k 1] 0 true):=by rw[<-hH5,aQ,ai rfl]
     have hF5:Fq ((c.aW q3).aW p) H5 rows3 I cp:=by rw[<-hH5];exact hF4.fh (by show p≠c.xp;omega) (by show p≠c.rp;omega) _
     have E5:zd2 ((c.aW q3).aW p).S H3 H5:=⟨ac,fun r hr hl=>by rw[K5 r hr.2,K4.k r hl]⟩;have gs5:=(K5 H3.next ac).trans gs4;have gn5:=(K5 H.next ac).trans gn4;have gq5:=(K5 q3 (Ne.symm hnpq)).trans gq4;have hst5:eI ((c.aW q3).aW p).S H5 (.ptr H3.next 0) (ct O.s):=EI hcv hov E5 (hF3.up _ (aG _)) ac gs5;have K35:Kf9 c H.next H H5:=K3.trans (m:=H.next) ⟨fun r hr _ _=>by rw[K5 r ac,K4.k r ac]⟩ (aG _)
     have hI5:znU c H.next H5 p q3 k (.ptr H3.next 0) ⟨ct O.s,O.v⟩:=⟨ac,ac,ac,ac,hnpq,gp5,gq5,hI.vl,hst5⟩
     clear K5 E5 K4;by_cases c2:(ct O.s).ed≠0
     .rw[ai c2,am,iX]at hq;obtain⟨rfl,hinv⟩:=hq;refine jp (fun hb hbp=>?_);rw[ah (show ¬(2:Nat)=3 by decide)];exact⟨su,p,q3,_,cp,eE,eE,eE,hI5,⟨rows3,I,hF5⟩,hinv,gn5,ac,K35⟩
     rw[ah c2]at hq;have c2':(ct O.s).ed=0:=ac;have kinv:=Xa hT ((hc.aW q3).aW p) hF5 (L:=(L:Int)) ac ac;repeat' (first
      |(apply ay ?_;clear hK K)|apply aT ?_|(apply a2 ?_ ?_<;>(intro hb hbp;try(cases hb;done)))|(apply az fun K hK=>?_)|fail)
     refine qj ?_;refine a8 ?_ kinv;rintro v H6 ⟨rows6,hF6,n6,fr6⟩;dsimp only[a0];have K6:Kf9 c H5.next H5 H6:=⟨fun r hr h1 _=>fr6 r hr h1⟩
     have gp6:=(fr6 p ac (by show p≠c.rp;omega)).trans gp5;have gq6:=(fr6 q3 ac (by show q3≠c.rp;omega)).trans gq5;have gn6:=(fr6 H.next ac I8).trans gn5;clear fr6;rw[eM]at hF6;have hF6c:Fq c H6 rows6 I (cp.eu (c.M.getD c.x.f []) L):=hF6.sub (T:=c.S) (fun r _ h=>h.1.1) fun r hr=>(hF6.up r hr).1.1;have hl6:oA c.S H6 (.ptr p 0) ⟨ct O.s,O.v⟩:=⟨p,q3,.ptr H3.next 0,rfl,hF.up p ac,ac,by rw[show(L9.mk (ct O.s) O.v).v.length=k from hI.vl];exact gp6,(hst5.keep ⟨n6,fun r hr hl=>K6.k r hl (fun e=>by subst e;exact hc.sr hr.1.1) (fun e=>by subst e;exact hc.sx hr.1.1)⟩).sub (fun r _ h=>h.1.1),hF.up q3 ac,ac,gq6,by show O.v.length<_;rw[hI.vl];omega⟩;have hF7:=hF6c.fu hc (m:=L) (v:=.ptr p 0) (l:=some ⟨ct O.s,O.v⟩) hl6;have gx6:=hF6c.x;have hvl:I.length=16:=(bN.len hF6c.vars).trans hF6c.eL;have st6:=zlz (m:=L) (v:=.ptr p 0) gx6 (by unfold ib;simp only[fc];omega) ⟨rfl,rfl⟩;rw[zly]at st6;obtain⟨J,hH7⟩:∃J,H6.set c.xp (.cells (ib c (cp.eu (c.M.getD c.x.f []) L).bJ.length (I.set L (.ptr p 0))) 0 true)=J:=⟨_,rfl⟩;rw[hH7]at st6 hF7;have ixv:=Xf (xp:=c.xp) (o:=7) (m:=L) hL;have n7:H6.next<=J.next:=by rw[<-hH7];exact aG _
     have K7:Kf9 c H6.next H6 J:=⟨fun r _ _ h=>by rw[<-hH7,aQ,ah h]⟩
     have gn7:=(K7.k H.next ac ac ac).trans gn6;clear hH7 gx6;obtain⟨si,hsi,hq⟩:=aC.1 hq;obtain⟨r,hr,hq⟩:=aC.1 hq;obtain⟨vr,hvr,hq⟩:=aC.1 hq;obtain⟨ci,hci,hq⟩:=aC.1 hq;obtain⟨cc,hcc,hq⟩:=aC.1 hq;have hF8:Fq (c.aW J.next) (J.alloc (.cells (cM (List.replicate k 0)) 0 true)) rows6 _ _:=hF7.aW ⟨dg _,fun r _ hr=>dT⟩ (aG _) (cn _);have kst:=NZ hT hE (c:=c.aW J.next) rfl rfl (hc.aW _) ⟨rows6,_,hF8⟩ hr;rw[aS]at kst;have gn8:(J.alloc (.cells (cM (List.replicate k 0)) 0 true)).get H.next=_:=(by rw[aL,ah ac]:_=J.get H.next).trans gn7
     have gv8:(J.alloc (.cells (cM (List.replicate k 0)) 0 true)).get J.next=some (.cells (cM (List.replicate k 0)) 0 true):=fw
     have ew1:IntKind.wrap .i64 ((k:Int)+1)=((k+1:Nat):Int):=by
      have:=fN (z:=((k+1:Nat):Int)) ac ac;rw[<-this];rfl
     repeat' (first
      |(apply ay ?_;clear hK K)|apply aT ?_|(apply uH 12 fun K hK=>?_)|(apply l9 13 [0,1,2,3,4,5,6,8,9,7,10,11,12] [(2,9),(6,9),(8,9),(8,13),(11,13)] fun K hK=>?_)|(apply bB ?_;try intro _)|fail)
     refine qk ?_;refine a8 ?_ kst;rintro v9 V ⟨⟨p9,cv9,ov9,rfl,hp9⟩,⟨rows9,vvs9,hF9⟩,n9,zP⟩;dsimp only[a0];have gn9:=(zP H.next ac I8 NX).trans gn8;have gv9:=(zP J.next ac I9 Ja).trans gv8;have K9:Kf9 c H.next H V:=((K35.trans K6 ac).trans K7 ac).trans (m:=H.next) ⟨fun r hr h1 h2=>by rw[zP r ac h1 h2,aL,ah ac]⟩ (aG _)
     clear zP;have hbl9:=Xg p9 J.next k
     have y1:(H.next == J.next)=false:=aZ ac;have y2:(H.next == V.next)=false:=aZ ac;have y3:(J.next == V.next)=false:=aZ ac;refine BR ?_ ?_
     .exact bM
     have lx7:c.xp<J.next:=ac
     have lr7:c.rp<J.next:=ac
     generalize hHd:Hp.alloc V _=Hd;have nd:V.next+1<=Hd.next:=MK
     have Kd:Kp9 V.next V Hd:=⟨fun r hr=>by rw[<-hHd,aL,ah ac]⟩
     have gpd:Hd.get V.next=some (.cells [.ptr p9 0,.sl J.next 0 k 1] 0 true):=by rw[<-hHd,aL,ai rfl]
     clear hHd;have gvd:=(Kd.k J.next ac).trans gv9;have gnd:=(Kd.k H.next ac).trans gn9;have hFd:Fq ((c.aW J.next).aW V.next) Hd rows9 vvs9 r.2:=Fq.aW (c:=c.aW J.next) hF9 ⟨ac,fun r _ hr=>Kd.k r hr⟩ (aG _) ac;have hsd:eI ((c.aW J.next).aW V.next).S Hd (.ptr p9 0) r.1:=(eI.sub (T:=((c.aW J.next).aW V.next).S) ⟨p9,cv9,ov9,rfl,hp9⟩ fun r hr hS=>⟨hS,ac⟩).keep ⟨ac,fun r _ hr=>Kd.k r hr⟩;have K9d:Kf9 c H.next H Hd:=K9.trans (m:=H.next) ⟨fun r hr _ _=>Kd.k r ac⟩ (aG _)
     have hok2:=(hc.aW J.next).aW V.next
     refine G3 [0,3,4,5,9] [H.next] (fun i E H'=>∃done rest aa,i+done.length+1=k/\E.at 10=.int .i64 ((done.length+1:Nat):Int)/\H'.get V.next=some (.cells [.ptr p9 0,.sl J.next 0 k 1] 0 true)/\H'.get J.next=some (.cells (cM ((0::done)++List.replicate i 0)) 0 true)/\uE (bG c.x) Y i (k+2+done.length) aa=some (rest,vr.2)/\done++rest=vr.1/\rh ((c.aW J.next).aW V.next) H' aa/\eI ((c.aW J.next).aW V.next).S H' (.ptr p9 0) r.1/\Kf9 c H.next H H') (k-1) ⟨[],vr.1,r.2,cZ,(show aw.at _ 10=AV.int .i64 1 from eE),gpd,by rw[gvd,show k=(k-1)+1 by omega];rfl,hvr,rfl,⟨rows9,vvs9,hFd⟩,hsd,K9d⟩ ?_;clear gpd gvd hFd hsd K9d Kd;rintro i Ee He hcEe hrHe hnHe ⟨done,rest,aa,hik,k10,gpe,gve,Z,C,⟨rowse,vvse,hFe⟩,hse,Ke⟩;(try simp only[bz,a7,aV,aK,bb,Nat.reduceBEq, *]at hcEe);(try simp only[bz,a7,aV, *]at hrHe);have nxe:V.next+1<=He.next:=ac
     cases i with
     |succ i=>
      have hlt':((done.length+1:Nat):Int)<(k:Int):=ac;rw[uE]at Z;obtain⟨kk,hgk,Z⟩:=aC.1 Z;obtain⟨rv,hrv,Z⟩:=aC.1 Z;obtain⟨rest2,hr2,Z⟩:=aC.1 Z;rw[am,iX]at Z;obtain⟨Z,hr2b⟩:=Z;subst Z;have kvl:=Jh hT hE (c:=(c.aW J.next).aW V.next) rfl rfl hok2 ⟨rowse,vvse,hFe⟩ hrv;have ewa:IntKind.wrap .i64 ((k:Int)+1)=((k+1:Nat):Int):=ew1;have ewb:IntKind.wrap .i64 (((k+1:Nat):Int)+((done.length+1:Nat):Int))=((k+2+done.length:Nat):Int):=by
       have:=fN (z:=((k+2+done.length:Nat):Int)) ac ac
       grind
      have xj:=ya (q:=J.next) (n:=k) (m:=done.length+1) ac;rw[lS]at hgk ewb;repeat' (first
       |(apply ay ?_;clear hK K)|apply aT ?_|(apply a2 ?_ ?_<;>(intro hb hbp;try(cases hb;done)))|(apply az fun K hK=>?_)|(apply bV 17 [(3,14),(3,16),(7,14),(13,14)] fun K hK=>?_)|(apply bB ?_;try intro _)|fail)
      refine qk ?_;refine a8 ?_ kvl;rintro vv Hf ⟨rfl,⟨rowsf,vvsf,hFf⟩,nf,frf⟩;dsimp only[a0];have gpf:=(frf V.next ac (by show V.next≠c.rp;omega) (by show V.next≠c.xp;omega)).trans gpe;have gvf:=(frf J.next ac I9 Ja).trans gve;have gnf:=(frf H.next ac I8 NX).trans hrHe;have Kf:Kf9 c H.next H Hf:=Ke.trans (m:=H.next) ⟨fun r hr h1 h2=>frf r ac h1 h2⟩ (aG _)
      have hsf:eI ((c.aW J.next).aW V.next).S Hf (.ptr p9 0) r.1:=hse.keep ⟨nf,fun r hr hl=>frf r hl (fun e=>hok2.sr WT) (fun e=>hok2.sx WU)⟩;clear frf;have st1:=I6 (H:=Hf) (q:=J.next) (j:=done.length+1) rv.1 gvf (by simp only[fx,fc,j9];omega);rw[Xh]at st1;have ew:IntKind.wrap .i64 (((done.length+1:Nat):Int)+1)=(((done++[rv.1]).length+1:Nat):Int):=by
       rw[fx,zg];have:=fN (z:=(((done.length+1+1:Nat)):Int)) ac ac;rw[<-this];rfl
      have y4:(V.next == J.next)=false:=aZ ac;have y5:(H.next == J.next)=false:=aZ ac;repeat' (first
       |(apply ay ?_;clear hK K)|apply a9 ?_|(apply az fun K hK=>?_)|(apply bB ?_;try intro _)|(apply bY ?_ ?_<;>clear hK K)|fail)
      .exact bM
      refine⟨aW,fun r hr=>by rw[oM]at hr;subst hr;rw[aQ,ah ac,gnf,gnd],BF,i,cn _,done++[rv.1],rest2.1,rv.2,by rw[fx,zg];omega,eE,by rw[aQ,ah ac];exact gpf,by rw[aQ,ai rfl];simp only[yN],?_,by rw[<-C,kI];rfl,⟨rowsf,vvsf,hFf.wr (fun h=>h.1.2 rfl) Ja I9 _⟩,hsf.keep ⟨aG _,fun r hr hl=>by rw[aQ,ah (fun e=>hr.1.2 e)]⟩,Kf.trans (m:=H.next) ⟨fun r hr _ _=>kK⟩ (aG _)⟩;rw[fx,zg,show k+2+(done.length+1)=k+2+done.length+1 by omega,hr2,<-hr2b]
     |zero=>
      have hlt':¬((done.length+1:Nat):Int)<(k:Int):=ac;rw[uE,am,iX]at Z;obtain⟨Z,hr2b⟩:=Z;subst Z;rw[bq]at C;subst C;rw[Mx,bq]at gve;rw[hr2b]at hFe;have kvl:=Jh hT hE (c:=(c.aW J.next).aW V.next) rfl rfl hok2 ⟨rowse,vvse,hFe⟩ hcc;repeat' (first
       |(apply ay ?_;clear hK K)|apply aT ?_|(apply a2 ?_ ?_<;>(intro hb hbp;try(cases hb;done)))|(apply az fun K hK=>?_)|fail)
      refine qj ?_;refine a8 ?_ kvl;rintro vv Hf ⟨rfl,⟨rowsf,vvsf,hFf⟩,nf,frf⟩;dsimp only[a0];have gpf:=(frf V.next ac (by show V.next≠c.rp;omega) (by show V.next≠c.xp;omega)).trans gpe;have gvf:=(frf J.next ac I9 Ja).trans gve;have gnf:=(frf H.next ac I8 NX).trans hrHe;have Kf:Kf9 c H.next H Hf:=Ke.trans (m:=H.next) ⟨fun r hr h1 h2=>frf r ac h1 h2⟩ (aG _)
      have hsf:eI ((c.aW J.next).aW V.next).S Hf (.ptr p9 0) r.1:=hse.keep ⟨nf,fun r hr hl=>frf r hl (fun e=>hok2.sr WT) (fun e=>hok2.sx WU)⟩;clear frf;have hIf:znU c H.next Hf V.next J.next k (.ptr p9 0) ⟨r.1,0::vr.1⟩:=⟨ac,ac,ac,ac,ac,gpf,gvf,Hl,hsf⟩
      by_cases c0:cc.1=0
      .rw[ah ac,am,iX]at hq;obtain⟨e1,e2⟩:=hq;refine yg ?_;refine⟨aW,fun r hr=>by rw[oM]at hr;grind,ac,mm,cn _,false,_,V.next,J.next,_,cc.2,eE,eE,(fun e=>by cases e),fun _=>⟨e1,e2⟩,hIf,⟨rowsf,vvsf,hFf⟩,Kf⟩
      .rw[ai c0]at hq;refine yg ?_;refine⟨aW,fun r hr=>by rw[oM]at hr;grind,ac,mm,cn _,true,_,V.next,J.next,_,cc.2,eE,eE,fun _=>hq,(fun e=>by cases e),hIf,⟨rowsf,vvsf,hFf⟩,Kf⟩
  .rintro E3 H3 ⟨p,q3,sv3,cp,k0',k3',k6,hI,⟨rows3,I,hF3⟩,hinv,gn3,n3,K3⟩;dsimp only[oJ];have lp3:=hI.p1;have lq3:=hI.q1;have lp0:=hI.p0;have lq0:=hI.q0;have kinv:=Xa hT ((hc.aW q3).aW p) hF3 (L:=(L:Int)) ac ac;refine fT fun K hK=>?_;refine qj ?_;refine a8 ?_ kinv;rintro v H4 ⟨rows4,hF4,n4,fr4⟩;dsimp only[a0];have K4:Kf9 c H3.next H3 H4:=⟨fun r hr h1 _=>fr4 r hr h1⟩
   have gp4:=(fr4 p lp3 (by show p≠c.rp;omega)).trans hI.gp;have gq4:=(fr4 q3 lq3 (by show q3≠c.rp;omega)).trans hI.gq;clear fr4;refine dX ?_;all_goals refine qi ?_
   rw[eM]at hF4;have hS:∀r,r<H4.next->((c.aW q3).aW p).S r->c.S r:=fun r _ h=>h.1.1
   have st4:=(hI.st.keep ⟨n4,fun r hr hl=>K4.k r hl (fun e=>by subst e;exact hc.sr hr.1.1) (fun e=>by subst e;exact hc.sx hr.1.1)⟩).sub hS;refine⟨⟨p,q3,sv3,rfl,hF.up p ac,ac,by rw[hI.vl];exact gp4,st4,hF.up q3 ac,ac,gq4,by rw[hI.vl];omega⟩,⟨rows4,I,?_⟩,ac,fun r hr h1 h2=>(K3.trans K4 ac).k r hr h1 h2⟩;have:=hF4.sub (T:=c.S) (fun r _ h=>h.1.1) fun r hr=>(hF4.up r hr).1.1;rw[<-hinv];exact this
end
end
section
def tyEwH.tyF:=ad @cG (ad @eG (ad @ij (ad @kJ (ad @oQ (ad @jJ (ad @gC (ad @rO (ad @ik (ad @nF (ad @oR (ad @oS (ad @oT (ad @oU (ad @dm (ad @l7 (ad @ey (ad @rQ (ad @pL (ad @rR (ad @pM (ad @oV (ad @LM (ad @zk0 (ad @sw (ad @xd (ad @zk1 (ad @I7 (@EH))))))))))))))))))))))))))))
open tyEwH
def zlC(p:Nat):eg prog 162 [(3,.ptr p 0)]=some (.agg [.bool false,.int .i64 0,.aF,.ptr p 0]):=ax
def zlD{xp:Nat}{L J z Y V I C lv:AV}(hg:H.get xp=some (.cells (L::J::z::Y::V::I::C::Z) 0 true))(j:Z[m]?=some lv):eP prog H 156 (.ptr xp (7+m))=some lv:=by
 have p0:∀(O:qB) (o:Nat),sy prog 156 o (some (.cells O 0 true))=O[o]?:=fun _ _=>ax;rw[nr,hg,p0,Nat.add_comm];exact j
theorem zlE(Y:Fq c H rows Z a){l:L9}(h:a.var m=some l):∃lv,m<16/\Z[m]?=some lv/\oA c.S H lv l:=by
 unfold A9.var at h;rw[dC]at h;have V:m<a.vars.length:=by
  grind
 have L:=bN.len Y.vars;rw[aX V]at h;have C:a.vars[m]=some l:=h;have j:Z[m]?=some (Z[m]' ac):=aX ac;exact⟨_,by rw[<-Y.eL];exact V,j,by have:=bN.get Y.vars j (aX V);rw[C]at this;exact this⟩
section
variable {tb:qH} (hT:EwT tb) {c:Cq} {H:Hp} {rows:List qB} {vvs:qB} {a:A9}
include hT
theorem Xi(L:c.Ok)(Z:Fq c H rows vvs a):aR prog (aA pls tb) 137 [.ptr c.xp 0] H fun w H'=>w=.aE (c.x.g.af.map Nd.cells)/\H'=H:=by
 have hw:zd0 (aA pls tb) 137:=hT.plain cN;have Y:=Z.x;unfold ib at Y;have hg:=L.g;refine qe hw func137 WJ ?_;dsimp only[WJ,qd,a1,Nat.reduceAdd];refine Y8 ?_ ?_
 .exact bM
 all_goals refine qi ?_
 simp_all
theorem zlF(I:Fq c H rows vvs a)(hl:n.ak.length<2^30){t:Q9}(h:iO c.x.start c.x.args a.var a.get n=some t):aR prog (aA pls tb) 138 [.ptr c.xp 0,.agg n.cells] H fun w H'=>∃sv lv,w=.agg [.bool t.k,.int .i64 t.v,sv,lv]/\lh c.S H' sv t.s/\my c.S H' lv t.l/\zd2 (fun _=>True) H H':=by
 have hw:zd0 (aA pls tb) 138:=hT.plain cN;obtain⟨op,Y,Z⟩:=n;simp only at hl;have ec:(Nd.mk op Y Z).cells=[.int .i64 op,.int .i64 Y,.aE (Z.map fun k=>[.int .i64 k])]:=rfl;rw[ec];have lx:=I.lx;have lr:=I.lr;have y0:(c.xp == H.next)=false:=aZ ac;have y8:(c.xp == H.next+1)=false:=aZ ac;have y9:(H.next == H.next+1)=false:=aZ ac;have hF1:=I.alloc (.cells [.int .i64 op,.int .i64 Y,.aE (Z.map fun k=>[.int .i64 k])] 0 true);have L:=hF1.alloc (.cells [.bool false,.int .i64 0,.aF,.aF] 0 true);have gx:=L.x;unfold ib at gx;have dd:AV.one .aF=true:=rfl;have n2:AV.cells .aF=[.aF]:=rfl;generalize hH2:(H.alloc (.cells [.int .i64 op,.int .i64 Y,.aE (Z.map fun k=>[.int .i64 k])] 0 true)).alloc (.cells [.bool false,.int .i64 0,.aF,.aF] 0 true)=H2 at *;have gn:H2.get H.next=some (.cells [.int .i64 op,.int .i64 Y,.aE (Z.map fun k=>[.int .i64 k])] 0 true):=by
  rw[<-hH2];simp only[aL,aS,ah (show ¬H.next=H.next+1 by omega),dG]
 have gt:H2.get (H.next+1)=some (.cells [.bool false,.int .i64 0,.aF,.aF] 0 true):=by rw[<-hH2,aL,ai cN]
 have E2:zd2 (fun _=>True) H H2:=⟨by rw[<-hH2,aS,aS];omega,fun r _ hr=>by
  rw[<-hH2];simp only[aL,aS,ah (show ¬r=H.next+1 by omega),ah (show ¬r=H.next by omega)]⟩
 have Ed:∀b,zd2 (fun _=>True) H (H2.set (H.next+1) b):=fun b=>⟨E2.next,fun r _ hr=>by
  rw[aQ,ah ac];exact E2.get r trivial hr⟩
 have Ed2:∀b2 b,zd2 (fun _=>True) H ((H2.alloc b2).set (H.next+1) b):=fun b2 b=>⟨by rw[bK,aS];have:=E2.next;omega,fun r _ hr=>by
  rw[aQ,ah ac,aL,ah (by have:=E2.next;omega)];exact E2.get r trivial hr⟩
 subst hH2;unfold iO at h;simp only at h;by_cases c1:op=1
 .rw[ai c1,am]at h;subst c1;subst h;refine qe hw func138 iJ ?_;dsimp only[iJ,qd,a1,Nat.reduceAdd];refine EU (fun hb hbp=>?_);all_goals (refine⟨aE,_,(by(try simp only[aK,Nat.reduceBEq,dR,eh,pw, *]);first|done|with_reducible rfl),?_⟩;try simp only[aD])
  exact⟨.aF,.aF,rfl,rfl,rfl,Ed _⟩
 rw[ah c1]at h;by_cases c2:op=2
 .rw[ai c2]at h;subst c2;split at h
  .rename_i h0;obtain⟨m,rfl⟩:∃m:Nat,Y=m:=⟨Y.toNat,ac⟩;rw[eM]at h;obtain⟨v,hv,V⟩:=aC.1 h;rw[am]at V;subst V;have O:=L.ag;have hml:=Jg hv;rcases O with O|⟨_,O⟩|⟨qa,tl,im,tp,O,qs,ql,gq⟩
   .unfold hY at O;rw[O]at gx;refine qe hw func138 iJ ?_;dsimp only[iJ,qd,a1,Nat.reduceAdd];refine EU (fun hb hbp=>?_);all_goals (refine⟨aE,_,(by(try simp only[aK,Nat.reduceBEq,dR,eh,pw, *]);first|done|with_reducible rfl),?_⟩;try simp only[aD])
    exact⟨.aF,.aF,rfl,rfl,rfl,Ed _⟩
   .simp_all
   .rw[O]at gx;have ixa:=ya (q:=qa) (n:=c.x.args.length) (m:=m) hml;have gqa:(cM c.x.args++tl)[m]?=some (.int .i64 v):=by rw[nQ (by rw[vN];exact hml),cM,fd,hv];rfl
    refine qe hw func138 iJ ?_;dsimp only[iJ,qd,a1,Nat.reduceAdd];refine EU (fun hb hbp=>?_);all_goals (refine⟨aE,_,(by(try simp only[aK,Nat.reduceBEq,dR,eh,pw, *]);first|done|with_reducible rfl),?_⟩;try simp only[aD])
    exact⟨.aF,.aF,rfl,rfl,rfl,Ed _⟩
  .cases h
 rw[ah c2]at h;by_cases c3:op=3
 .rw[ai c3]at h;subst c3;split at h
  .rename_i h0;obtain⟨m,rfl⟩:∃m:Nat,Y=m:=⟨Y.toNat,ac⟩;rw[eM]at h;obtain⟨l,hl9,V⟩:=aC.1 h;obtain⟨lv,hm16,hvm,p,q,svl,rfl,_,lp,gp0,hsl,_,lq,gq0,hlb⟩:=zlE I hl9;have gp:=(E2.get p trivial lp).trans gp0;have gq:=(E2.get q trivial lq).trans gq0;clear gp0 gq0;have ldv:=zlD gx hvm;have ixv:=Xf (xp:=c.xp) (o:=7) hm16;have q16:(16:Int)≠0:=aF;have ewd:IntKind.wrap .i64 ((m:Int).tdiv 16)=((m/16:Nat):Int):=by
    rw[sD ac];have:=fN (z:=((m/16:Nat):Int)) ac ac;rw[<-this];rfl
   have etm:(m:Int).tmod 16=((m%16:Nat):Int):=rfl;by_cases cm:m%16=0
   .rw[ai cm,am]at V;subst V;obtain⟨ps,cvs,ovs,rfl,hps⟩:=hsl;refine qe hw func138 iJ ?_;dsimp only[iJ,qd,a1,Nat.reduceAdd];have cm':((m%16:Nat):Int)=0:=ac;refine JC ?_ ?_
    .exact bM
    all_goals (refine⟨aE,_,(by(try simp only[aK,Nat.reduceBEq,dR,eh,pw, *]);first|done|with_reducible rfl),?_⟩;try simp only[aD])
    exact⟨.ptr ps 0,.aF,rfl,x9 (S:=c.S) ⟨ps,cvs,ovs,rfl,hps⟩ ((Ed _).sub fun _ _ _=>trivial),rfl,Ed _⟩
   .rw[ah cm]at V;obtain⟨v,hv,h3⟩:=aC.1 V;rw[am]at h3;subst h3;refine qe hw func138 iJ ?_;dsimp only[iJ,qd,a1,Nat.reduceAdd];have cm':¬((m%16:Nat):Int)=0:=ac;have hvl:=Jg hv;have ixq:=ya (q:=q) (n:=l.v.length) (m:=m%16) hvl;have gqv:(cM l.v)[m%16]?=some (.int .i64 v):=by rw[cM,fd,hv];rfl
    refine JC ?_ ?_
    .exact bM
    all_goals (refine⟨aE,_,(by(try simp only[aK,Nat.reduceBEq,dR,eh,pw, *]);first|done|with_reducible rfl),?_⟩;try simp only[aD])
    exact⟨.aF,.aF,rfl,rfl,rfl,Ed _⟩
  .cases h
 rw[ah c3]at h;have d3:¬op=3:=c3;by_cases c30:op=30\/op=31
 .simp_all
 rw[ah c30]at h;have d30:¬op=30:=ac;have d31:¬op=31:=ac;clear c30 c3;by_cases c22:op=22
 .rw[ai c22]at h;subst c22;obtain⟨k,j,V⟩:=aC.1 h;obtain⟨m,rfl⟩:∃m:Nat,k=m:=⟨k.toNat,by obtain⟨_,_,h0,_⟩:=I.get V;omega⟩;obtain⟨sv,lv,hn,ho,J,hx,hA⟩:=I.at V;obtain⟨ho1,ho1'⟩:=ho.dA;obtain⟨ho3,ho3'⟩:=J.dA;have hsel:=W0 hT L (n:=⟨22,Y,Z⟩) hl j;rw[ec]at hsel;refine qe hw func138 iJ ?_;dsimp only[iJ,qd,a1,Nat.reduceAdd];repeat' (first
   |(apply ay ?_;clear hK K)|apply aT ?_|(apply a2 ?_ ?_<;>(intro hb hbp;try(cases hb;done)))|(apply az fun K hK=>?_)|(apply bV 12 [(3,6),(3,9),(5,6),(8,9)] fun K hK=>?_)|(apply bB ?_;try intro _)|fail)
  refine qk ?_;refine a8 ?_ hsel;rintro v H4 ⟨rfl,rfl⟩;dsimp only[a0];have hF4:=L.alloc (.cells [.int .i64 22,.int .i64 Y,.aE (Z.map fun k=>[.int .i64 k])] 0 true);have gx4:=hF4.x;unfold ib at gx4;have dO:=(hA _ hF4.r).lr;have gt4:((((H.alloc (.cells [.int .i64 22,.int .i64 Y,.aE (Z.map fun k=>[.int .i64 k])] 0 true)).alloc (.cells [.bool false,.int .i64 0,.aF,.aF] 0 true)).alloc (.cells [.int .i64 22,.int .i64 Y,.aE (Z.map fun k=>[.int .i64 k])] 0 true))).get (H.next+1)=some (.cells [.bool false,.int .i64 0,.aF,.aF] 0 true):=by rw[aL,ah aU];exact gt
  have gn4:((((H.alloc (.cells [.int .i64 22,.int .i64 Y,.aE (Z.map fun k=>[.int .i64 k])] 0 true)).alloc (.cells [.bool false,.int .i64 0,.aF,.aF] 0 true)).alloc (.cells [.int .i64 22,.int .i64 Y,.aE (Z.map fun k=>[.int .i64 k])] 0 true))).get H.next=some (.cells [.int .i64 22,.int .i64 Y,.aE (Z.map fun k=>[.int .i64 k])] 0 true):=by rw[aL,ah iF];exact gn
  repeat' (first
   |apply a9 ?_|(apply bB ?_;try intro _)|(apply bY ?_ ?_<;>clear hK K)|fail)
  .exact bM
  all_goals (refine⟨aE,_,(by(try simp only[aK,Nat.reduceBEq,dR,eh,pw, *]);first|done|with_reducible rfl),?_⟩;try simp only[aD])
  exact⟨sv,lv,rfl,ho.keep ((Ed2 _ _).sub fun _ _ _=>trivial),J.keep ((Ed2 _ _).sub fun _ _ _=>trivial),Ed2 _ _⟩
 rw[ah c22]at h;by_cases c23:op=23
 .rw[ai c23]at h;subst c23;obtain⟨r,j,V⟩:=aC.1 h;obtain⟨s,h3,C⟩:=aC.1 V;obtain⟨ra,h5,h6⟩:=aC.1 C;obtain⟨x,h7,h8⟩:=aC.1 h6;rw[am]at h8;subst h8;clear h V C h6;obtain⟨m,sv,lv,k0,_,hm,ho,J,ix,hA⟩:=I.bM j;obtain⟨ma,sva,lva,ka,_,hma,_,_,ixa,hAa⟩:=I.bM h5;simp only at k0 ka;rw[h3]at ho;have a6:=(hA _ L.r).l2;have aa:=(hAa _ L.r).l1;have kld:=zkS hT.toEvT (x9 ho (E2.sub fun _ _ _=>trivial)) h7;refine qe hw func138 iJ ?_;dsimp only[iJ,qd,a1,Nat.reduceAdd];repeat' (first
   |(apply ay ?_;clear hK K)|apply aT ?_|(apply eA ?_;first|refine Rx.k (kld) ?_)|(apply a2 ?_ ?_<;>(intro hb hbp;try(cases hb;done)))|(apply az fun K hK=>?_)|(apply bV 14 [(3,24),(5,24),(7,24),(10,24),(12,24),(16,24),(18,24),(20,24),(23,24)] fun K hK=>?_)|(apply bB ?_;try intro _)|(apply bY ?_ ?_<;>clear hK K)|fail)
  .exact bM
  all_goals (refine⟨aE,_,(by(try simp only[aK,Nat.reduceBEq,dR,eh,pw, *]);first|done|with_reducible rfl),?_⟩;try simp only[aD])
  exact⟨.aF,.aF,rfl,rfl,rfl,Ed _⟩
 rw[ah c23]at h;by_cases c24:op=24
 .rw[ai c24]at h;subst c24;obtain⟨r,j,V⟩:=aC.1 h;obtain⟨s,h3,C⟩:=aC.1 V;rw[am]at C;subst C;clear h V;obtain⟨m,sv,lv,k0,_,hm,ho,J,ix,hA⟩:=I.bM j;simp only at k0;rw[h3]at ho;have a6:=(hA _ L.r).l2;obtain⟨p,cv,ov,rfl,hp⟩:=x9 ho (E2.sub fun _ _ _=>trivial);have gp:=hp.get;refine qe hw func138 iJ ?_;dsimp only[iJ,qd,a1,Nat.reduceAdd];refine EU (fun hb hbp=>?_);all_goals (refine⟨aE,_,(by(try simp only[aK,Nat.reduceBEq,dR,eh,pw, *]);first|done|with_reducible rfl),?_⟩;try simp only[aD])
  exact⟨.aF,.aF,rfl,rfl,rfl,Ed _⟩
 rw[ah c24]at h;by_cases c25:op=25
 .rw[ai c25]at h;subst c25;split at h
  .rename_i h0;obtain⟨r,j,V⟩:=aC.1 h;obtain⟨l,h3,C⟩:=aC.1 V;clear h V;obtain⟨mk,sv,lv,k0,_,hm,ho,J,ix,hA⟩:=I.bM j;simp only at k0;rw[h3]at J;have cp:=(hA _ L.r).l3;obtain⟨p,q,svl,rfl,_,lp,gp0,hsl,_,lq,gq0,hlb⟩:=(J:oA c.S H lv l);have gp:=(E2.get p trivial lp).trans gp0;have gq:=(E2.get q trivial lq).trans gq0;clear gp0 gq0;by_cases cm:Y=0
   .rw[ai cm,am]at C;subst C;subst cm;obtain⟨ps,cvs,ovs,rfl,hps⟩:=hsl;refine qe hw func138 iJ ?_;dsimp only[iJ,qd,a1,Nat.reduceAdd];refine JC ?_ ?_
    .exact bM
    all_goals (refine⟨aE,_,(by(try simp only[aK,Nat.reduceBEq,dR,eh,pw, *]);first|done|with_reducible rfl),?_⟩;try simp only[aD])
    exact⟨.ptr ps 0,.aF,rfl,x9 (S:=c.S) ⟨ps,cvs,ovs,rfl,hps⟩ ((Ed _).sub fun _ _ _=>trivial),rfl,Ed _⟩
   .rw[ah cm]at C;obtain⟨v,hv,h5⟩:=aC.1 C;rw[am]at h5;subst h5;obtain⟨m,rfl⟩:∃m:Nat,Y=m:=⟨Y.toNat,ac⟩;rw[eM]at hv;have hvl:=Jg hv;have ixq:=ya (q:=q) (n:=l.v.length) (m:=m) hvl;have gqv:(cM l.v)[m]?=some (.int .i64 v):=by rw[cM,fd,hv];rfl
    refine qe hw func138 iJ ?_;dsimp only[iJ,qd,a1,Nat.reduceAdd];repeat' (first
     |(apply ay ?_;clear hK K)|apply aT ?_|(apply a2 ?_ ?_<;>(intro hb hbp;try(cases hb;done)))|(apply az fun K hK=>?_)|(apply bV 18 [(3,12),(5,12),(7,12),(10,12)] fun K hK=>?_)|(apply uH 21 fun K hK=>?_)|(apply bB ?_;try intro _)|(apply bY ?_ ?_<;>clear hK K)|fail)
    .exact bM
    all_goals (refine⟨aE,_,(by(try simp only[aK,Nat.reduceBEq,dR,eh,pw, *]);first|done|with_reducible rfl),?_⟩;try simp only[aD])
    exact⟨.aF,.aF,rfl,rfl,rfl,Ed _⟩
  .cases h
 rw[ah c25]at h;have d25:¬op=25:=c25;by_cases c20:op=20\/op=21
 .rw[ai c20]at h;obtain⟨r,j,V⟩:=aC.1 h;rw[am]at V;subst V;clear h;obtain⟨m,sv,lv,k0,_,hm,ho,J,ix,hA⟩:=I.bM j;simp only at k0;have aI:=(hA _ L.r).l1;rcases c20 with rfl|rfl;all_goals
   refine qe hw func138 iJ ?_;dsimp only[iJ,qd,a1,Nat.reduceAdd];repeat' (first
    |(apply ay ?_;clear hK K)|apply aT ?_|(apply eA ?_;first|refine Rx.k (hT.kUn _ _ _) ?_)|(apply a2 ?_ ?_<;>(intro hb hbp;try(cases hb;done)))|(apply az fun K hK=>?_)|(apply bV 26 [(1,13),(5,13),(7,13),(9,13),(12,13)] fun K hK=>?_)|(apply bB ?_;try intro _)|(apply bY ?_ ?_<;>clear hK K)|fail)
   .exact bM
   all_goals (refine⟨aE,_,(by(try simp only[aK,Nat.reduceBEq,dR,eh,pw, *]);first|done|with_reducible rfl),?_⟩;try simp only[aD])
   exact⟨.aF,.aF,rfl,rfl,rfl,Ed _⟩
 rw[ah c20]at h;have d20:¬op=20:=ac;have d21:¬op=21:=ac;by_cases c26:op=26\/op=27\/op=28\/op=29
 .rw[ai c26]at h;obtain⟨s,j,V⟩:=aC.1 h;rw[am]at V;subst V;clear h;have hF3:Fq (c.aW (H.next+1)) ((H.alloc (.cells [.int .i64 op,.int .i64 Y,.aE (Z.map fun k=>[.int .i64 k])] 0 true)).alloc (.cells [.bool false,.int .i64 0,.aF,.aF] 0 true)) rows vvs a:=I.aW E2 (dg _) aU;have kn:=zlu hT hF3 (n:=⟨op,Y,Z⟩) hl j;rw[ec]at kn;rcases c26 with rfl|rfl|rfl|rfl;all_goals
   refine qe hw func138 iJ ?_;dsimp only[iJ,qd,a1,Nat.reduceAdd];repeat' (first
    |(apply ay ?_;clear hK K)|apply aT ?_|(apply a2 ?_ ?_<;>(intro hb hbp;try(cases hb;done)))|(apply az fun K hK=>?_)|fail)
   refine qj ?_;refine a8 ?_ kn;rintro v H4 ⟨hv,E4⟩;dsimp only[a0];have gt4:=(E4.get _ trivial Jb).trans gt;have hv0:=hv;obtain⟨p,cv,ov,rfl,hp⟩:=hv0;have n4:=E4.next
   rw[aS,aS]at n4;repeat' (first
    |(apply ay ?_;clear hK K)|apply a9 ?_|fail)
   all_goals (refine⟨aE,_,(by(try simp only[aK,Nat.reduceBEq,dR,eh,pw, *]);first|done|with_reducible rfl),?_⟩;try simp only[aD])
   have Ef:zd2 (fun k=>c.S k/\k≠H.next+1) H4 (H4.set (H.next+1) (.cells [.bool false,.int .i64 0,.ptr p 0,.aF] 0 true)):=⟨aG _,fun r hr _=>NY⟩;refine⟨.ptr p 0,.aF,rfl,(hv.keep (S:=fun k=>c.S k/\k≠H.next+1) Ef).sub fun k _ hk=>hk.1,rfl,⟨BF,fun r _ hr=>?_⟩⟩;rw[aQ,ah ac,E4.get r trivial Jb];exact E2.get r trivial hr
 rw[ah c26]at h;obtain⟨ra,j,V⟩:=aC.1 h;obtain⟨rb,h3,C⟩:=aC.1 V;rw[am]at C;subst C;clear h V;have d26:¬op=26:=ac;have d27:¬op=27:=ac;have d28:¬op=28:=ac;have d29:¬op=29:=ac;obtain⟨ma,sva,lva,ka,_,hma,_,_,ixa,hAa⟩:=I.bM j;obtain⟨mb,svb,lvb,kb,_,hmb,_,_,ixb,hAb⟩:=I.bM h3;simp only at ka kb;have aa:=(hAa _ L.r).l1;have ab:=(hAb _ L.r).l1;refine qe hw func138 iJ ?_;dsimp only[iJ,qd,a1,Nat.reduceAdd];repeat' (first
  |(apply ay ?_;clear hK K)|apply aT ?_|(apply eA ?_;first|refine Rx.k (hT.kBi _ _ _ _) ?_)|(apply a2 ?_ ?_<;>(intro hb hbp;try(cases hb;done)))|(apply az fun K hK=>?_)|(apply bV 33 [(1,24),(5,24),(7,24),(9,24),(12,24),(16,24),(18,24),(20,24),(23,24)] fun K hK=>?_)|(apply bB ?_;try intro _)|(apply bY ?_ ?_<;>clear hK K)|fail)
 .exact bM
 all_goals (refine⟨aE,_,(by(try simp only[aK,Nat.reduceBEq,dR,eh,pw, *]);first|done|with_reducible rfl),?_⟩;try simp only[aD])
 exact⟨.aF,.aF,rfl,rfl,rfl,Ed _⟩
variable {u:Un} {M:List qG} {bG:X9 -> A9 -> Int -> Option A9} (hE:yb tb u M bG)
include hE
theorem zlG(hu:c.u=u)(hM:c.M=M)(hc:c.Ok)(O:Fq c H rows vvs a)(hl:n.ak.length<2^30){r:Q9×A9}(h:tE u bG m c.x (c.M.getD c.x.f []) a n=some r):aR prog (aA pls tb) 138 [.ptr c.xp 0,.agg n.cells] H fun w H'=>∃sv lv,w=.agg [.bool r.1.k,.int .i64 r.1.v,sv,lv]/\lh c.S H' sv r.1.s/\my c.S H' lv r.1.l/\rh c H' r.2/\H.next<=H'.next/\Kf9 c H.next H H':=by
 unfold tE at h;by_cases j:n.op=31
 .rw[ai j]at h;split at h
  .rename_i hi;obtain⟨q,C,h⟩:=aC.1 h;obtain⟨s,z,h⟩:=aC.1 h;obtain⟨vs,h3,h⟩:=aC.1 h;obtain⟨fb,h4,h⟩:=aC.1 h;rw[am]at h;subst h;have hw:zd0 (aA pls tb) 138:=hT.plain cN;have lx:=O.lx;have lr:=O.lr;have I:Fq (c.aW (H.next+1)) ((H.alloc (.cells n.cells 0 true)).alloc (.cells [.bool false,.int .i64 0,.aF,.aF] 0 true)) rows vvs a:=O.aW ⟨Jb,fun r _ hr=>WX⟩ (dg _) aU;have kl:=zlB hT hE (c:=c.aW (H.next+1)) hu hM (hc.aW _) I hl hi C z h3 (fin:=fb.1) (b:=fb.2) h4;obtain⟨op,Y,Z⟩:=n;simp only at j;subst j;have ec:(Nd.mk 31 Y Z).cells=[.int .i64 31,.int .i64 Y,.aE (Z.map fun k=>[.int .i64 k])]:=rfl;rw[ec]at kl⊢;refine qe hw func138 iJ ?_;dsimp only[iJ,qd,a1,Nat.reduceAdd];repeat' (first
    |(apply ay ?_;clear hK K)|apply aT ?_|(apply a2 ?_ ?_<;>(intro hb hbp;try(cases hb;done)))|(apply az fun K hK=>?_)|fail)
   refine qj ?_;refine a8 ?_ kl;rintro v J ⟨⟨p,q',sv',rfl,hz⟩,⟨rows4,vvs4,hF4⟩,n4,L⟩;rw[aS,aS]at n4 L;dsimp only[a0];have gt4:=(L (H.next+1) ac (by show H.next+1≠c.rp;omega) (by show H.next+1≠c.xp;omega)).trans (by rw[aL,ai cN]:_=some (HB.cells [.bool false,.int .i64 0,.aF,.aF] 0 true));have K4:Kf9 c H.next H J:=⟨fun r hr C z=>by
    rw[L r ac C z];simp only[aL,aS,ah (show ¬r=H.next+1 by omega),ah (show ¬r=H.next by omega)]⟩
   clear L;have dd:AV.one .aF=true:=rfl;have n2:AV.cells .aF=[.aF]:=rfl;have gh0:=@zlC;refine JH ?_;all_goals (refine⟨aE,_,(by(try simp only[aK,Nat.reduceBEq,dR,eh,pw, *]);first|done|with_reducible rfl),?_⟩;try simp only[aD])
   have Ef:zd2 (c.aW (H.next+1)).S J (J.set (H.next+1) (.cells [.bool false,.int .i64 0,.aF,.ptr p 0] 0 true)):=⟨aG _,fun r hr _=>NY⟩;have hlp:oA c.S (J.set (H.next+1) (.cells [.bool false,.int .i64 0,.aF,.ptr p 0] 0 true)) (.ptr p 0) fb.1:=(oA.keep (S:=(c.aW (H.next+1)).S) ⟨p,q',sv',rfl,hz⟩ Ef).sub fun _ _ h=>h.1;exact⟨.aF,.ptr p 0,rfl,rfl,hlp,⟨rows4,vvs4,(hF4.fh ac ac _).more⟩,BF,K4.trans (m:=H.next) ⟨fun r hr _ _=>kK⟩ (aG _)⟩
  .cases h
 rw[ah j]at h;by_cases V:n.op=30
 .rw[ai V]at h;obtain⟨q,C,h⟩:=aC.1 h;obtain⟨s,z,h⟩:=aC.1 h;obtain⟨t,hr,ht⟩:∃t,r=(⟨false,0,some t,none⟩,a)/\((s.ed≠0->t=s)/\(s.ed=0->uF u bG a.get n s=some t)):=by
   split at h
   .simp_all
   .rename_i he;obtain⟨t,h3,h4⟩:=aC.1 h;simp_all
  subst hr;have hw:zd0 (aA pls tb) 138:=hT.plain cN;have lx:=O.lx;have lr:=O.lr;have E2:zd2 (fun _=>True) H ((H.alloc (.cells n.cells 0 true)).alloc (.cells [.bool false,.int .i64 0,.aF,.aF] 0 true)):=⟨Jb,fun r _ hr=>WX⟩;have I:Fq (c.aW (H.next+1)) ((H.alloc (.cells n.cells 0 true)).alloc (.cells [.bool false,.int .i64 0,.aF,.aF] 0 true)) rows vvs a:=O.aW E2 (dg _) aU;have kn:=zlv hT hE (c:=c.aW (H.next+1)) hu hM (hc.aW _) I hl V C z ht;have gt:((H.alloc (.cells n.cells 0 true)).alloc (.cells [.bool false,.int .i64 0,.aF,.aF] 0 true)).get (H.next+1)=some (.cells [.bool false,.int .i64 0,.aF,.aF] 0 true):=by rw[aL,ai cN]
  obtain⟨op,Y,Z⟩:=n;simp only at V;subst V;have ec:(Nd.mk 30 Y Z).cells=[.int .i64 30,.int .i64 Y,.aE (Z.map fun k=>[.int .i64 k])]:=rfl;rw[ec]at kn E2 gt I⊢;refine qe hw func138 iJ ?_;dsimp only[iJ,qd,a1,Nat.reduceAdd];repeat' (first
   |(apply ay ?_;clear hK K)|apply aT ?_|(apply a2 ?_ ?_<;>(intro hb hbp;try(cases hb;done)))|(apply az fun K hK=>?_)|fail)
  refine qj ?_;refine a8 ?_ kn;rintro v J ⟨hv,E4⟩;dsimp only[a0];have gt4:=(E4.get _ trivial aU).trans gt;have hv0:=hv;obtain⟨p,cv,ov,rfl,hp⟩:=hv0;have n4:=E4.next
  rw[aS,aS]at n4;have dd:AV.one .aF=true:=rfl;have n2:AV.cells .aF=[.aF]:=rfl;refine JH ?_;all_goals (refine⟨aE,_,(by(try simp only[aK,Nat.reduceBEq,dR,eh,pw, *]);first|done|with_reducible rfl),?_⟩;try simp only[aD])
  have Ef:zd2 (fun k=>c.S k/\k≠H.next+1) J (J.set (H.next+1) (.cells [.bool false,.int .i64 0,.ptr p 0,.aF] 0 true)):=⟨aG _,fun r hr _=>NY⟩;have E3:=E2.trans E4;have hF4:Fq c (J.set (H.next+1) (.cells [.bool false,.int .i64 0,.ptr p 0,.aF] 0 true)) rows vvs a:=O.keep BF fun r hr=>WY;exact⟨.ptr p 0,.aF,rfl,(hv.keep (S:=fun k=>c.S k/\k≠H.next+1) Ef).sub fun k _ hk=>hk.1,rfl,⟨rows,vvs,hF4⟩,BF,⟨fun r hr _ _=>WY⟩⟩
 .rw[ah V]at h;obtain⟨t,C,h⟩:=aC.1 h;rw[am]at h;subst h;refine a8 ?_ (zlF hT O hl C);rintro w H' ⟨sv,lv,rfl,z,h3,E⟩;exact⟨sv,lv,rfl,z,h3,⟨rows,vvs,O.keep E.next fun r hr=>E.get r trivial hr⟩,E.next,⟨fun r hr _ _=>E.get r trivial hr⟩⟩
end
end
end Go.Proofs.YtbflaciihaijgaaGreat
