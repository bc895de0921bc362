/- Lemmas for the last file. -/
import Derived.Test.YtbflaciihaijgaaGreatUEN
set_option linter.all false
set_option maxHeartbeats 32000000
namespace Go.Ab
set_option maxRecDepth 20000
open Go
variable{qn:Prop}
def N0(h:qn:=by rw[Hp.get_set,if_pos rfl,I]):=h
def N8(h:qn:=by first|assumption|simp only[*]):=h
def N9(h:qn:=by rw[<- J];simp only[bK];omega):=h
def Xj(h:qn:=by simp only[List.all_cons,List.all_nil,w0,dI,w2,w3,w4,Bool.and_true];rfl):=h
def eZ(h:qn:=by simp only[bK];omega):=h
def Xk(h:qn:=by rw[<- O,Hp.get_set,if_neg ac,aL,if_neg ac]):=h
def Ji(h:qn:=by rw[Hp.get_set,if_neg ac,Hp.get_set,if_neg ac]):=h
def Oa:=@of_decide_eq_true
end Go.Ab
namespace Go.Proofs.YtbflaciihaijgaaGreat
set_option maxRecDepth 20000
open Go Go.Ab Proofs.Tryz
variable{n i n' k lo r:Nat}{u U:Un}{g:Gr}{x:X9}{o:Oc}{J:qH}{f c q m:Int}{H H2:Hp}{j:qA}{E2:aw}
section
def tyEwI.tyF:=ad @dm (ad @cG (ad @l7 (ad @ey (ad @kJ (ad @jJ (ad @gC (ad @ik (ad @nF (ad @oR (ad @oS (ad @pM (ad @oT (ad @oU (ad @oV (@EH)))))))))))))))
open tyEwI
section
variable {tb:qH} (hT:EwT tb) {u:Un} {M:List qG} {bG:X9 -> A9 -> Int -> Option A9} (hE:yb tb u M bG)
include hT hE
theorem zlH(kb n:Nat):yb tb u M fun x a i=>lD u bG kb x (M.getD x.f []) n a [i]:=by
 rintro c H a i0 b hu hM hc ⟨rows,vvs,hF⟩ h;simp only at h;have hw:zd0 (aA pls tb) 90:=hT.plain cN;have hkeep:(aA pls tb).keep 90=false:=rfl;have bs1:∀H k,eW prog H 26 1 [(0,.int .i64 k)]=some (.sl H.next 0 1 1,H.alloc (.cells [.int .i64 k] 0 true)):=fun _ _=>ax;refine qe hw func90 WK ?_;dsimp only[WK,qd,a1,Nat.reduceAdd];refine mT ?_;refine CG (fun m E I=>∃st aI q v,lD u bG kb c.x (M.getD c.x.f []) m aI st=some b/\E.at 0=.ptr c.xp 0/\E.at 4=v/\Stk9 I q v st/\H.next<=q/\rh (c.aW q) I aI/\st.length<2^20+2/\Kf9 c H.next H I) ?_ (n:=n) ?_
 .rintro m E I ⟨st,aI,q,v,V,k0,fm,hst,hq,⟨O,Z,z⟩,hlen,L⟩;have C:=hst.lt;cases m with
  |zero=>cases V
  |succ m=>
   cases st with
   |nil=>
    rcases hst.v with⟨_,rfl⟩|⟨J,_⟩
    .rw[lD,am]at V;subst V;refine uc (fun hb hbp=>?_);all_goals refine qi ?_
     exact⟨⟨O,Z,z.more⟩,ac,L.k⟩
    .exact absurd rfl J
   |cons i st=>
    rcases hst.v with⟨J,_⟩|⟨_,rfl,junk,gq⟩
    .cases J
    rw[fc]at hlen fm;rw[lD]at V;obtain⟨r,hr,V⟩:=aC.1 V;obtain⟨i,rfl⟩:∃m:Nat,i=m:=⟨i.toNat,by obtain⟨_,_,h0,_⟩:=z.get hr;omega⟩;obtain⟨sv,lv,hn,ho,ho2,hx,hA⟩:=z.at hr;have gx:I.get c.xp=some (.cells (ib c aI.bJ.length Z) 0 true):=z.x;unfold ib at gx;have hx:dK prog 155 (.sl c.rp 0 aI.bJ.length 4) (.int .i64 (i:Int))=some (.ptr c.rp (i*4)):=hx;have fD:eP prog I 4 (.ptr c.rp (i*4))=some (.bool r.k):=(hA _ z.r).l0;have gi:(cM ((i:Int)::st).reverse++junk)[st.length]?=some (.int .i64 (i:Int)):=by
     rw[NI,cM,rF,kI,tf (by rw[dk,zN];exact aG _),dk,zN,rz];rfl
    have e1:IntKind.wrap .i64 (((st.length+1:Nat):Int)-1)=(st.length:Int):=by rw[show((st.length+1:Nat):Int)-1=(st.length:Int) by omega];exact fN ac ac
    have ixq:dK prog 26 (.sl q 0 (st.length+1) 1) (.int .i64 (st.length:Int))=some (.ptr q st.length):=by rw[pG underlying26 jI (cn _)];simp
    have p0:((0:Int)<((st.length+1:Nat):Int)):=ac;have sq:=zk4 q st.length;obtain⟨rk,rv,rs,rl⟩:=r;cases rk with
    |true=>
     rw[ai rfl]at V;refine uc (fun hb hbp=>?_);refine⟨m,cn _,st,aI,q,(if 0=st.length then .aE []else .sl q 0 st.length 1),V,eE,eE,⟨C,?_⟩,hq,⟨O,Z,z⟩,ac,L⟩;by_cases hz:st=[]
     .subst hz;exact .inl ⟨rfl,rfl⟩
     .refine .inr ⟨hz,ah (fun e=>hz (Co e.symm)),.int .i64 (i:Int)::junk,?_⟩;rw[gq,NI,cM,cM,rF,kI];rfl
    |false=>
     rw[ah aB]at V;obtain⟨nd,hnd,V⟩:=aC.1 V;obtain⟨k,hk,V⟩:=aC.1 V;rw[eM]at hnd;have hkl:=hc.kl nd (cV hnd);have kn:aR prog (aA pls tb) 137 [.ptr c.xp 0] I fun w H'=>w=.aE (c.x.g.af.map Nd.cells)/\H'=I:=Xi (c:=c.aW q) hT (hc.aW q) z;have hnw:=Nd.bB nd;repeat' (first
      |(apply ay ?_;clear hK K)|apply aT ?_|(apply eA ?_;first|refine Rx.k (kn) ?_)|(apply a2 ?_ ?_<;>(intro hb hbp;try(cases hb;done)))|(apply az fun K hK=>?_)|fail)
     refine qj ?_;refine a8 ?_ (zlx hT z hkl hk);rintro v H3 ⟨rfl,E3⟩;dsimp only[a0];have hF3:=z.keep E3.next fun r hr=>E3.get r trivial hr
     have gq3:=(E3.get q trivial C).trans gq;have n3:=E3.next
     have lx:=hF.lx;have lr:=hF.lr;by_cases hk0:0<=k
     .rw[ai hk0]at V;split at V
      .rename_i hl2;obtain⟨H5,ap,n5,g5,dF⟩:=zk3 (H:=H3.alloc (.cells [.int .i64 k] 0 true)) (q:=q) (r:=H3.next) (k:=k) (st:=(i:Int)::st) (junk:=junk) (by rw[aL,ah ac];exact gq3) fw ac (by rw[fc];omega) zQ;rw[fc]at ap;rw[aS]at ap n5 g5 dF;refine uc (fun hb hbp=>?_);refine⟨m,cn _,k::(i:Int)::st,aI,H3.next+1,.sl (H3.next+1) 0 (st.length+1+1) 1,V,eE,eE,⟨ac,.inr ⟨aB,rfl,[],by rw[bq];exact g5⟩⟩,ac,⟨O,Z,hF3.move ac (fun r hr J=>by rw[dF r ac J,aL,ah ac]) ac ac ac ac⟩,Hl,L.trans (m:=H.next) ⟨fun r hr _ _=>?_⟩ (aG _)⟩;rw[dF r ac ac,aL,ah ac,E3.get r trivial ac]
      .cases V
     .rw[ah hk0]at V;obtain⟨t,ht,V⟩:=aC.1 V;rw[eM]at V;have kn3:aR prog (aA pls tb) 137 [.ptr c.xp 0] H3 fun w H'=>w=.aE (c.x.g.af.map Nd.cells)/\H'=H3:=Xi (c:=c.aW q) hT (hc.aW q) hF3;have kc:=zlG hT hE (c:=c.aW q) hu hM (hc.aW q) hF3 hkl (by rw[show(c.aW q).M=M from hM];exact ht);repeat' (first
       |(apply ay ?_;clear hK K)|apply aT ?_|(apply eA ?_;first|refine Rx.k (kn3) ?_)|(apply a2 ?_ ?_<;>(intro hb hbp;try(cases hb;done)))|(apply az fun K hK=>?_)|fail)
      refine qj ?_;refine a8 ?_ kc;rintro v H4 ⟨sv4,lv4,rfl,ho4,j,⟨rows4,vvs4,hF4⟩,n4,K4⟩;dsimp only[a0];have gq4:=(K4.k q ac (by show q≠c.rp;omega) (by show q≠c.xp;omega)).trans gq3;obtain⟨u1,u2⟩:=ho4.dA;obtain⟨u3,u4⟩:=j.dA;have gx4:H4.get c.xp=some (.cells (ib c t.2.bJ.length vvs4) 0 true):=hF4.x;unfold ib at gx4;have y4:(c.xp == H4.next)=false:=aZ ac;have Y:t.2.bJ.length=aI.bJ.length:=hF4.len.trans z.len.symm;have hx4:dK prog 155 (.sl c.rp 0 t.2.bJ.length 4) (.int .i64 (i:Int))=some (.ptr c.rp (i*4)):=by rw[Y];exact hx
      refine Zf fun K hK=>?_;generalize hHb:Hp.set (Hp.set (Hp.alloc H4 _) _ _) _ _=Hb;have nb:H4.next+1<=Hb.next:=Dz
      have Kb:Kp9 H4.next H4 Hb:=⟨fun r hr=>by
       rw[<-hHb];simp only[aQ,aL,ah (show ¬r=H4.next by omega)]⟩
      clear hHb;have hFb:=hF4.keep (H':=Hb) ac Kb.k;have hob:=ho4.keep (H':=Hb) ⟨ac,fun r _ hr=>Kb.k r hr⟩;have holb:=j.keep (H':=Hb) ⟨ac,fun r _ hr=>Kb.k r hr⟩;have gqb:=(Kb.k q ac).trans gq4;have stR:=hFb.fj (i:=i) (k:=true) (x:=t.1.v) (sv:=sv4) (lv:=lv4) (by rw[Y];exact hn) u1 u3;have hFu:=hFb.upd (hc.aW q) (i:=i) (k:=true) (x:=t.1.v) hob holb;have Kb2:Kf9 c H.next H Hb:=(L.trans (m:=H.next) ⟨fun r hr h1 h2=>by rw[K4.k r ac h1 h2,E3.get r trivial ac]⟩ (aG _)).trans (m:=H.next) ⟨fun r hr _ _=>Kb.k r ac⟩ (aG _)
      have stR':jY prog Hb 162 (.ptr c.rp (i*4)) (.agg [.bool true,.int .i64 t.1.v,sv4,lv4])=some (Hb.set c.rp (.cells (rows4.set i [.bool true,.int .i64 t.1.v,sv4,lv4]).flatten 0 true)):=stR;refine mT ?_;refine⟨m,cn _,(i:Int)::st,_,q,.sl q 0 (st.length+1) 1,V,eE,eE,⟨BF,.inr ⟨aB,rfl,junk,?_⟩⟩,hq,⟨_,_,hFu⟩,Hl,Kb2.trans (m:=H.next) ⟨fun r hr J _=>by rw[aQ,ah J]⟩ (aG _)⟩;rw[aQ,ah ac];exact gqb
 .exact⟨[i0],a,H.next,_,h,eE,eE,⟨cn _,.inr ⟨aB,rfl,[],iE⟩⟩,aG _,⟨rows,vvs,hF.aW ⟨dg _,fun r _ hr=>dT⟩ (aG _) (cn _)⟩,by show 1<_;omega,⟨fun r hr _ _=>dT⟩⟩
end
theorem Ob{tb:qH}(C:EwT tb)(u:Un)(M:List qG):∀n,yb tb u M (kW u M n)
 |0=>fun c H a i b _ _ _ _ h=>by cases h
 |n+1=>fun c H a i b m L hc Z h=>zlH C (Ob C u M n) n n c H a i b m L hc Z (by rw[kW]at h;exact h)
end
variable(ρ:Nat->Int)
section
def tyEwJ.tyF:=ad @dm (ad @cG (ad @ey (ad @gC (ad @ik (ad @xq (ad @C2 (ad @AF (ad @Da (ad @sw (@Tm))))))))))
open tyEwJ
def zlI(n:Nat)(J:n<2^60):bA prog ρ 89 [.int .i64 n] (.int .i64 (dy n)):=fF fit (pls:=pls) (l:=[]) trivial (.cons (.int _ _) .nil) (.int _ _) (by
 have hw:=lH 89;have Z:(2:Int)≠0:=aF;have C:IntKind.wrap .i64 ((n:Int)-1)=(n:Int)-1:=fN ac ac;refine qe hw func89 Je ?_;dsimp only[Je,qd,a1,Nat.reduceAdd];refine BU ?_;all_goals refine qi ?_
 rw[dy];rw[fN RT RU])
noncomputable def Jj:En:=⟨89,false,co (fun n=>n<2^60) wh fun n=>.int .i64 (dy n)⟩
def zlJ:de prog ρ Jj:=dA fun n J=>zlI ρ n J
def Xl{l:qH}(L:∀m,dU l 89 m=Jj.sp m)(n:Nat)(J:n<2^60)(H:Hp):aR prog (aA pls l) 89 [.int .i64 n] H fun v H'=>v=.int .i64 (dy n)/\H'=H:=
 cQ (enc:=wh) (ok:=fun n=>n<2^60) (out:=fun n=>.int .i64 (dy n)) Mg (x:=n) (L _) J
structure LdE (l:qF):Prop where
 ok:AS l
 lv:∀n∈l,n.op=3->n.ak=[]
set_option maxRecDepth 100000 in
theorem zlK(l:qF)(hle:LdE l):bA prog ρ 46 [jV l] (tK (cA l l.length)):=xu (m:=3) (cfg:=aA pls [Jj]) fit (rG ρ) (gX.cu ⟨zlJ ρ,trivial⟩) (.cons (AN _) .nil) (by
 have hl:=hle.ok;have hl1:=hl.1.1;have hw:zd0 (aA pls [Jj]) 46:=gY (fun _=>rfl) rfl;have q16:(16:Int)≠0:=aF;have hmk:∀H:Hp,jq prog H 104 (.int .i64 l.length) (.int .i64 l.length)=some (.sl H.next 0 l.length 1,H.alloc (.cells (ji (List.replicate l.length 0)) 0 true)):=fun H=>Tn _ ac;refine qe hw func46 WM ?_;dsimp only[WM,qd,a1,Nat.reduceAdd];refine dX ?_;refine cP [2,3,12,13] [] 14 l.length (fun i E H=>H.get 0=some (.cells (ji (cA l i++List.replicate (l.length-i) 0)) 0 true)) eE (by rw[aL,ai cN];simp[cA]) ?_;rintro i E H2 hi hcE hrH hnH hsI hg;(try simp only[bz,a7,aV,aK,bb,Nat.reduceBEq, *]at hcE);(try simp only[a7,bb, *]at hrH);(try simp only[aS,cL,bR]at hnH);have hB0:(0 == H2.next)=false:=aZ ac;have hC0:(H2.next == 0)=false:=aZ ac;have hn2:1<=H2.next:=hnH
 by_cases hlt:i<l.length
 .have hlt':(i:Int)<l.length:=by omega
  have hgx:l[i]?=some l[i]:=aX hlt;have hok:=hl.2 i _ hgx;have hnk:=hl.1.2 _ (dE hlt);have hlv3:=hle.lv _ (dE hlt);have hms:cA l (i+1)=cA l i++[mI l[i] (cA l i)]:=by rw[cA,hgx]
  have hmlt:∀j,j<i->(cA l i).getD j 0<2^16:=fun j hj=>MD hl ac hj;have hml:=rI l i;generalize l[i]=n at *;generalize cA l i=h at *;have hrep:List.replicate (l.length-i) (0:Nat)=0::List.replicate (l.length-(i+1)) 0:=Mr;rw[hrep]at hg;have hzl:(h++0::List.replicate (l.length-(i+1)) (0:Nat)).length=l.length:=cZ;generalize List.replicate (l.length-(i+1)) (0:Nat)=z at *;have hgA:∀b c,((H2.alloc b).set H2.next c).get 0=some (.cells (ji (h++0::z)) 0 true):=fun b c=>Ms;have hix:dK prog 104 (.sl 0 0 l.length 1) (.int .i64 (i:Int))=some (.ptr 0 i):=HM hlt;obtain⟨op,Y,Z⟩:=n;simp only at hlv3 hnk;have ec:(Nd.mk op Y Z).cells=[.int .i64 op,.int .i64 Y,.aE (Z.map fun k=>[.int .i64 k])]:=rfl;have hkd:∀k∈Z,0<=k/\k<i:=hok.ak;have ha3:∀a b c:AV,cr 3 [a,b,c]=some (.agg [a,b,c]):=fun _ _ _=>rfl;refine jp (fun hb hbp=>?_);generalize hHb:Hp.set (H2.alloc _) _ _=Hb;have nb:H2.next+1<=Hb.next:=Dz
  have gb:Hb.get 0=some (.cells (ji (h++0::z)) 0 true):=by rw[<-hHb];exact hgA _ _
  have g5:Hb.get H2.next=some (.cells [.int .i64 op,.int .i64 Y,.aE (Z.map fun k=>[.int .i64 k])] 0 true):=DA
  clear hHb hgA;have I:∀(x y:Nat),(h++y::z).set i x=h++x::z:=fun x y=>Mu;have hlc:∀x:Nat,(h++x::z).length=l.length:=fun x=>by rw[<-hzl];simp
  refine cP [2,3,4,5,12,13,14,20,21] [] 22 Z.length (fun j E H=>∃C,H.get 0=some (.cells (ji (h++C::z)) 0 true)/\H.get H2.next=some (.cells [.int .i64 op,.int .i64 Y,.aE (Z.map fun k=>[.int .i64 k])] 0 true)/\C<2^32/\kV ⟨op,Y,Z⟩ h 0 Z 0=kV ⟨op,Y,Z⟩ h j (Z.drop j) C) eE ⟨0,gb,g5,ac,by rw[gm]⟩ ?_;clear gb g5;rintro j E4 H4 hj hcE hrH hnH hsI ⟨C,J,g45,O,hJ⟩;(try simp only[bz,a7,aV,aK,bb,Nat.reduceBEq, *]at hcE);(try simp only[a7, *]at hrH);(try simp only[aS,bK,cL,bR,Nat.reduceAdd]at hnH);by_cases hjt:j<Z.length
  .have hjt':(j:Int)<Z.length:=by omega
   have hgy:Z[j]?=some Z[j]:=aX hjt;obtain⟨d0,d1⟩:=hkd _ (dE hjt);have V:kV ⟨op,Y,Z⟩ h j (Z.drop j) C=kV ⟨op,Y,Z⟩ h (j+1) (Z.drop (j+1)) (C |||oN ⟨op,Y,Z⟩ h j Z[j]):=by rw[i4 hjt,kV]
   generalize Z[j]=kd at *;obtain⟨d,rfl⟩:=jR d0;have hdi:d<i:=ac;have hixd:dK prog 104 (.sl 0 0 l.length 1) (.int .i64 (d:Int))=some (.ptr 0 d):=HM ac;have hldi:=HN J (m:=i) tJ;have hldd:=HN J (m:=d) tJ;have hgi:(h++C::z).getD i 0=C:=SX;have hgd:(h++C::z).getD d 0=h.getD d 0:=SY;rw[hgi]at hldi;rw[hgd]at hldd;have hdl:=hmlt d hdi;have hkdm:oN ⟨op,Y,Z⟩ h j (d:Int)=if op=31/\dy Z.length<=j then uD (h.getD d 0) (2^ Y.toNat)else h.getD d 0:=by rw[oN,eM]
   rw[hkdm]at V;generalize h.getD d 0=y at *;have hy:y<2^32:=ac;have e1:=HJ O hy;by_cases h31:op=31
   .obtain⟨m0,bt,_⟩:=hok.lp h31;simp only at m0 bt;obtain⟨L,rfl⟩:=jR m0;have hL:L<32:=ac;have ew2:IntKind.wrap .u64 (L:Int)=L:=zo _ ac;have hsh:∀(D:BinOp->Sx->Sx->qK) (t:TypeId),dQ prog D .shl t (.int .u32 1) (.int .u64 (L:Int))=some (.int .u32 ((2^ L:Nat):Int)):=fun D t=>HL hL;rw[eM]at V;have hown:2^ L<2^32:=HH ac hL;by_cases hlv:dy Z.length<=j
    .rw[ai ⟨h31,hlv⟩]at V;have e2:=Tl hy hown;have e3:=HJ O (HK (b:=2^ L) hy);repeat' (first
      |(apply ay ?_;clear hK K)|apply aT ?_|(apply eA ?_;first|refine Rx.k (Xl (fun _=>rfl) _ ac _) ?_)|(apply cR ?_ ?_<;>(intro hg hgp;try(cases hg;done)))|(apply a2 ?_ ?_<;>(intro hb hbp;try(cases hb;done)))|(apply az fun K hK=>?_)|fail)
     refine oK cS cS (xP J tJ _) ?_;refine dX ?_;refine⟨ac,aW,aW,b8,Jc,?_⟩;exact⟨_,N0,AO,zn O (HK hy),by rw[hJ,V]⟩
    .rw[ah (fun c=>hlv c.2)]at V;repeat' (first
      |(apply ay ?_;clear hK K)|apply aT ?_|(apply eA ?_;first|refine Rx.k (Xl (fun _=>rfl) _ ac _) ?_)|(apply cR ?_ ?_<;>(intro hg hgp;try(cases hg;done)))|(apply a2 ?_ ?_<;>(intro hb hbp;try(cases hb;done)))|(apply az fun K hK=>?_)|fail)
     refine oK cS cS (xP J tJ _) ?_;refine dX ?_;refine⟨ac,aW,aW,b8,Jc,?_⟩;exact⟨_,N0,AO,zn O hy,by rw[hJ,V]⟩
   .rw[ah (fun c=>h31 c.1)]at V;repeat' (first
     |(apply ay ?_;clear hK K)|apply aT ?_|(apply cR ?_ ?_<;>(intro hg hgp;try(cases hg;done)))|(apply a2 ?_ ?_<;>(intro hb hbp;try(cases hb;done)))|(apply az fun K hK=>?_)|fail)
    refine oK cS cS (xP J tJ _) ?_;refine dX ?_;refine⟨ac,aW,aW,b8,Jc,?_⟩;exact⟨_,N0,AO,zn O hy,by rw[hJ,V]⟩
  .have hjt':¬(j:Int)<Z.length:=by omega
   have hjd:Z.drop j=[]:=oc ac;rw[hjd]at hJ;have hJ2:kV ⟨op,Y,Z⟩ h 0 Z 0=C:=hJ;by_cases h3:op=3
   .have hk0:=hlv3 h3;subst hk0;obtain⟨m0,bt⟩:=hok.lv h3;simp only at m0 bt;have hd:Y.tdiv 16=Y/16:=sD m0;have hd0:0<=Y.tdiv 16:=by rw[hd];omega
    obtain⟨m,hm⟩:=jR hd0;have hm16:m<16:=ac;have hmm:mI ⟨op,Y,[]⟩ h=2^ m:=by
     unfold mI;simp only[ai h3,kV,hm,eM]
    have ew:IntKind.wrap .i64 (Y.tdiv 16)=m:=Mt;have ew2:IntKind.wrap .u64 (m:Int)=m:=zo _ ac;have hsh:∀(D:BinOp->Sx->Sx->qK) (t:TypeId),dQ prog D .shl t (.int .u32 1) (.int .u64 (m:Int))=some (.int .u32 ((2^ m:Nat):Int)):=fun D t=>HL ac;clear hd hm hd0;repeat' (first
     |(apply ay ?_;clear hK K)|apply aT ?_|(apply a2 ?_ ?_<;>(intro hb hbp;try(cases hb;done)))|(apply az fun K hK=>?_)|fail)
    refine oK cS cS (xP J tJ _) ?_;refine dX ?_;refine⟨ac,aW,aW,b8,sJ,?_⟩;rw[hms,hmm,aQ,ai rfl,I,kI];rfl
   .have hmm:mI ⟨op,Y,Z⟩ h=C:=by
     unfold mI;simp only[ah h3];exact hJ2
    refine jp (fun hb hbp=>?_);refine⟨ac,aW,aW,b8,sJ,?_⟩;rw[hms,hmm,kI];exact J
 .have hlt':¬(i:Int)<l.length:=by omega
  refine jp (fun hb hbp=>?_);all_goals refine qi ?_
  have hie:i=l.length:=ac;rw[hie,rz]at hg;exact Tp hg)
end
section
def zlL(H:Hp)(q:Nat):eW prog H 151 1 [(0,.sl q 0 16 1)]=some (.sl H.next 0 1 1,H.alloc (.cells [.sl q 0 16 1] 0 true)):=ax
def tyVdB.tyF:=ad @dm (ad @cG (ad @l7 (ad @ey (ad @gC (ad @ik (ad @C3 (ad @zeM (ad @sw (@zlL)))))))))
open tyVdB
theorem chunk_rows:∀(V:qB),iw 1 V.length V=V.map fun x=>[x]
 |[]=>rfl
 |x::b=>by
  have:=chunk_rows b;simp only[eC,fc,iw,S1,AP,Aq,gm,this]
end
section
structure zd9 (n:Nd):Prop where
 i0:0<=n.aP
 i1:n.aP<=15
 odd:n.ak.length%2=1
 three:3<=n.ak.length
theorem zd9.lv{n:Nd}(h:zd9 n):dy n.ak.length=(n.ak.length:Int).tdiv 2/\0<dy n.ak.length:=by
 have:=h.odd;have:=h.three;unfold dy
 grind
theorem rep_get(m:Nat):(List.replicate 16 (0:Int)).getD m 0=0:=by
 grind
def zlM(h:jj u g=true):(0<=g.params/\g.params<=6)/\(g.af.length:Int)<=2000:=by
 unfold jj at h;simp only[lX]at h;exact h.1.1.1
def Xm(h:jj u g=true){n:Nd}(J:g.af[i]?=some n):em g.af i≠0/\pU u g n=true:=by
 unfold jj at h;simp only[bT]at h;have O:i<g.af.length:=by
  by_cases c:i<g.af.length
  .exact c
  .rw[ng ac]at J;cases J
 have:=js.1 h.1.1.2 i (tq.2 O);rw[r0,J,bT,kE]at this;exact this
def zlN(h:jj u g=true):sQ g.af=true/\pT g.af=true/\em g.af g.value=1/\em g.af g.aa=2/\iR g.af g.value=0/\iR g.af g.aa=0:=by
 unfold jj at h;simp only[lX]at h;obtain⟨⟨_,⟨⟨⟨⟨⟨aI,a6⟩,_⟩,_⟩,_⟩,_⟩⟩,⟨⟨cp,dO⟩,cI⟩,eO⟩:=h;exact⟨aI,a6,cp,dO,cI,eO⟩
def zlO{l:qF}(h:∀(i:Nat) (n:Nd),l[i]?=some n->em l i≠0):(∀(i:Nat) (n:Nd),l[i]?=some n->znR n i)/\∀n∈l,(n.op=31->zd9 n)/\(n.op=3->0<=n.aP/\n.aP<=255)/\(n.op=30->0<=n.aP):=by
 refine⟨fun i n J=>(DR J (h i n J)).1,fun n J=>?_⟩;obtain⟨j,I,e⟩:=z9 J;have hg:l[j]?=some n:=by rw[aX I,e]
 obtain⟨a,b,c⟩:=DR hg (h j n hg);refine⟨fun e=>?_,a.lv,fun e=>(b e).1⟩;obtain⟨Z,z,Y,V⟩:=a.lp e;exact⟨Z,z,Y,V⟩
def tySnC.tyF:=ad @dm (ad @cG (ad @ey (@ik)))
open tySnC
noncomputable def Jk:=qd (M:=45) f53.eq_1
def wD(x:Nd×Nd):qB:=[.agg x.1.cells,.agg x.2.cells]
def zlP(x y:Nd×Nd)(h:wD x=wD y):x=y:=by
 simp only[wD,eX,AV.agg.injEq,aV]at h;exact sK (xw h.1) (xw h.2)
def Jl(x:Nd×Nd):Prop:=x.1.ak.length<2^60
def zlQ{s w:qA}(L:s.length=w.length)(O:i<s.length):decide (s.drop i=w.drop i)=(decide (s.getD i 0=w.getD i 0)&&decide (s.drop (i+1)=w.drop (i+1))):=by
 rw[i4 O,i4 (l:=w) ac];rw[dC,dC,aX O,aX (by omega:i<w.length)];simp only[bH,eX,Bool.decide_and]
theorem zlR(x:Nd×Nd)(hx:Jl x):bA prog ρ 53 (wD x) (.bool (decide (x.1=x.2))):=fF fit (pls:=pls) (l:=[]) trivial (.cons (.agg (Dh _)) (.cons (.agg (Dh _)) .nil)) (.bool _) (by
 obtain⟨⟨o1,i1,s⟩,⟨o2,i2,w⟩⟩:=x;have hw:=lH 53;unfold Jl at hx;rw[wD];simp only[Nd.cells]at hx⊢;have hd:decide ((⟨o1,i1,s⟩:Nd)=⟨o2,i2,w⟩)=(decide (o1=o2)&&decide (i1=i2)&&decide (s=w)):=by
  simp[Bool.decide_and,GB]
 rw[hd];by_cases V:w.length=s.length
 .clear hd;refine qe hw func53 Jk ?_;dsimp only[Jk,qd,a1,Nat.reduceAdd];repeat' (first
   |(apply ay ?_;clear hK K)|apply aT ?_|(apply cR ?_ ?_<;>(intro hg hgp;try(cases hg;done)))|(apply a2 ?_ ?_<;>(intro hb hbp;try(cases hb;done)))|(apply az fun K hK=>?_)|fail)
  all_goals first
   |(refine⟨aE,_,rS,?_⟩;try simp only[aD]
     simp_all;done)
   |skip
  refine cP [2,3] [0,1] 5 s.length (fun i E H=>decide (s=w)=decide (s.drop i=w.drop i)) eE aB ?_;rintro i E Z hi I J L hsI Y;(try simp only[bz,a7,aV,aK,bb,Nat.reduceBEq, *]at I);(try simp only[bz,a7,aV,aK,bb,Nat.reduceBEq, *]at J);(try simp only[aS,cL,bR,Nat.reduceAdd]at L);have hB0:(0 == Z.next)=false:=aZ ac;have hC0:(Z.next == 0)=false:=aZ ac;have hB1:(1 == Z.next)=false:=aZ ac;have hC1:(Z.next == 1)=false:=aZ ac;repeat' (first
   |(apply ay ?_;clear hK K)|apply a9 ?_|(apply bU ?_ ?_<;>(intro hb hbp;try(cases hb;done)))|(apply az fun K hK=>?_)|(apply bV 6 [(1,11),(4,11),(6,11),(9,11)] fun K hK=>?_)|(apply bB ?_;try intro _)|fail)
  .have C:i<s.length:=by simpa using hb
   have O:s[i]?=some s[i]:=aX C;have m:w[i]?=some (w[i]' ac):=aX ac;have z:=zlQ V.symm C;rw[dC,dC,O,m]at z;simp only[bH]at z;generalize s[i]=x at *;generalize w[i]' ac=y at *;refine OM ?_ (fun hb hbp=>?_) (fun hb hbp=>?_)
   .exact bM
   .all_goals refine qi ?_
    rw[Y,z];simp_all
   .refine⟨ac,aW,aW,b8,Dj,?_⟩;rw[Y,z];simp_all
  .refine vx ?_;all_goals refine qi ?_
   rw[Y,show i=s.length by simp at hb;omega,kL,<-V,kL];simp_all
 .have j:¬s=w:=fun e=>V oF;have hl2:¬(s.length:Int)=w.length:=ac;clear hd;refine qe hw func53 Jk ?_;dsimp only[Jk,qd,a1,Nat.reduceAdd];repeat' (first
   |(apply ay ?_;clear hK K)|apply aT ?_|(apply cR ?_ ?_<;>(intro hg hgp;try(cases hg;done)))|(apply a2 ?_ ?_<;>(intro hb hbp;try(cases hb;done)))|(apply az fun K hK=>?_)|fail)
  all_goals
   refine⟨aE,_,rS,?_⟩;try simp only[aD]
   rw[kS j,AI])
end
section
theorem Od:∀(l:qF) (t V:qA),t.length=16->(∀n∈l,n.op=31->zd9 n)->nI l t=some V->∀n∈l,n.op=31->t.getD n.aP.toNat 0<=0
 |[],t,V,hl,hok,h,n,J,ho=>by cases J
 |m::l,t,V,hl,hok,h,n,J,ho=>by
  rw[nI]at h;by_cases c:m.op=31
  .rw[ai c]at h;split at h
   .cases h
   .rename_i L;rcases eJ.1 J with rfl|J
    .omega
    .have ih:=Od l _ V Nz (fun n J=>hok n (dh _ J)) h n J ho
     grind
  .rw[ah c]at h;rcases eJ.1 J with rfl|J
   .exact absurd ho c
   .exact Od l t V hl (fun n J=>hok n (dh _ J)) h n J ho
theorem Oe:∀(l:qF) (t V:qA),t.length=16->(∀n∈l,n.op=31->zd9 n)->nI l t=some V->∀(i j:Nat) (n C:Nd),i<j->l[i]?=some n->l[j]?=some C->n.op=31->C.op=31->n.aP=C.aP->False
 |[],t,V,hl,hok,h,i,j,n,C,hij,hi,hj,ho,ho',e=>by simp at hi
 |m::l,t,V,hl,hok,h,i,j,n,C,hij,hi,hj,ho,ho',e=>by
  rw[nI]at h;have L:∀n∈l,n.op=31->zd9 n:=fun n J=>hok n (dh _ J);cases j with
  |zero=>omega
  |succ j=>
   rw[sG]at hj;cases i with
   |zero=>
    simp only[nH]at hi;subst hi;rw[ai ho]at h;split at h
    .cases h
    .have ih:=Od l _ V Nz L h C (cV hj) ho';have Y:=hok m dM ho;have Z:=Y.lv.2;rw[dC,oG,ai oF,ai (by have:=Y.i1;have:=Y.i0;omega)]at ih
     grind
   |succ i=>
    rw[sG]at hi;by_cases c:m.op=31
    .rw[ai c]at h;split at h
     .cases h
     .exact Oe l _ V aU L h i j n C ac hi hj ho ho' e
    .rw[ah c]at h;exact Oe l t V hl L h i j n C ac hi hj ho ho' e
theorem Of(h:jj u g=true):Wg g.af/\gw g.af g.aa.toNat=0/\gw g.af g.value.toNat=0:=by
 obtain⟨_,m,h3,h4,Z,O⟩:=zlN h;have V:∀(i:Nat) (n:Nd),g.af[i]?=some n->em g.af i≠0:=fun i n J=>(Xm h J).1;obtain⟨aI,a6⟩:=zlO V;have z:∀n∈g.af,n.op=31->zd9 n:=fun n J=>(a6 n J).1;unfold pT at m;cases L:nI g.af (List.replicate 16 0)with
 |none=>simp_all
 |some t=>
  refine⟨⟨aI,fun i j n C hi hj ho Y e=>?_,by have:=(zlM h).2;omega⟩,O,Z⟩;have I:=Oe g.af _ t aB z L
  grind
theorem zlS(h:jj u g=true)(J:pS g.af):LdE g.af:=by
 have hw:=(Of h).1;refine⟨⟨J,hw.ok⟩,fun n J e=>?_⟩;obtain⟨i,O⟩:=kT J;have V:=(Xm h O).1;have Z:=jg O;rw[yS Z]at V;obtain⟨s,j,m,C⟩:=GH O V;have L:=Aw j;have a:eK 3=(0,true):=aF;rw[e,dY,a]at m;simp only[FG,fK]at m;split at m
 .cases m
 .rename_i hc;have:s.length=0:=by
   by_cases c:s.length=0
   .exact c
   .exact absurd ⟨aF,fun e=>c ac⟩ hc
  grind
def zlT(h:mR u=true):UOk9 u:=by
 unfold mR at h;rw[bT,js]at h;exact⟨fun g hg=>(Of (h.2 g hg)).1,fun g hg=>(Of (h.2 g hg)).2⟩
def zlU(h:mR u=true)(I:znK u):∀g∈u.funcs,LdE g.af:=fun g hg=>by
 unfold mR at h;rw[bT,js]at h;exact zlS (h.2 g hg) (I.g g hg)
theorem Xn(J:n<=n')(h:vQ U n x=some o):vQ U n' x=some o:=by
 unfold vQ at h⊢;refine dZ (fun _ e=>Lf (fun a i b e=>CS J e) e) (fun r e=>?_) h;by_cases c:r.1.ed=0
 .rw[ai c]at e⊢;exact dZ (fun _ e=>GN (fun a i b e=>CS J e) e) (fun _ e=>e) e
 simp_all
theorem zlV{j:Oc}(h:vQ U n x=some o)(C:vQ U n' x=some j):j=o:=by
 have a:=Xn (yG n n') h;have b:=Xn (Am n n') C;simp_all
def tyEwK.tyF:=ad @dm (ad @cG (ad @eG (ad @ij (ad @kJ (ad @oQ (ad @jJ (ad @gC (ad @rO (ad @GW (ad @ik (ad @nZ (ad @nF (ad @xq (ad @rQ (ad @pL (ad @rR (@wA)))))))))))))))))
open tyEwK
noncomputable def Xo:En:=⟨46,false,co LdE rV fun l=>tK (cA l l.length)⟩
def zlW:de prog ρ Xo:=dA fun l L=>zlK ρ l L
noncomputable def wE:qH:=[Wf,Xo,NQ,NR]
def zlX:gX prog ρ wE:=⟨zkj ρ,zlW ρ,zkP ρ,zkQ ρ,trivial⟩
def zlY{f:FuncId}(h:Jf f=true):f=202\/f=89\/f=203\/f=205\/f=180:=by
 simp only[Jf,nU]at h;rcases h with(((h|h)|h)|h)|h<;>have e:=tm h<;>subst e<;>simp
def BG:EwT wE:=⟨⟨fun f z=>by rcases zla z with rfl|rfl|rfl|rfl|rfl|rfl|rfl|rfl|rfl|rfl|rfl|rfl|rfl<;>exact⟨fun _=>rfl,rfl⟩,fun _=>rfl,fun _=>rfl⟩,fun f z=>by rcases zlY z with rfl|rfl|rfl|rfl|rfl<;>exact⟨fun _=>rfl,rfl⟩⟩
structure zd3 (x:znI) (o:Oc):Prop where
 uok:znK x.u
 chk:wz (jC x.u)
 fH:mR x.u=true
 f0:0<=x.a2
 f1:x.a2<=1000
 ld:∀g∈x.u.funcs,LdE g.af
 fn:∃(f:Nat) (g:Gr) (n:Nat),rH x.name x.args.length x.u.funcs 0 (-1)=(f:Int)/\x.u.funcs[f]?=some g/\vQ x.u n ⟨f,g,yR x.u.ab x.a2,x.args⟩=some o
 arr:∀a∈x.u.ab,0<=a.len/\a.len<2^20
 args:x.args.length<2^30
 out:o.out.length<2^30
def zd3.um{x:znI}(h:zd3 x o):UmOk x.u (jw x.u):=⟨fun f G hG=>by
 have L:=h.ld G (cV hG);have e:(jw x.u).getD f []=cA G.af G.af.length:=QN (x:=⟨f,G,⟨[],[],0,0,0,0⟩,[]⟩) hG;rw[e];refine⟨by unfold jw;rw[fd,hG];rfl,rI _ _,fun m Y=>?_,L.ok.1.1,L.ok.1.2⟩;obtain⟨j,Z⟩:=kT Y;have I:=jg Z;rw[rI]at I;have:=MD L.ok (aG _) I;rw[dC,Z]at this;exact this⟩
structure VsM (u:Un) (i:Nat) (vs:qB):Prop where
 e:vs=((u.funcs.take i).map fun g=>tK (cA g.af g.af.length))
abbrev qy:HB:=.cells [.int .i64 0,.int .i64 0,.ao,.int .i64 0] 0 true
set_option maxRecDepth 100000 in
theorem zlZ(x:znI)(o:Oc)(h:zd3 x o):bA prog ρ 22 (wB x) (ky o):=
 M8 (n:=60) (cfg:=aA pls wE) fit (rG ρ) (fun g I r hg=>gX.cu (l:=wE) (zlX ρ) g I r hg) (.cons (.agg (Di _)) (.cons (.ay _) (.cons (Es _) (.cons (.int _ _) .nil)))) (by
 have hum:=h.um;obtain⟨u,name,I,O⟩:=x;obtain⟨huok,hckn,hval,f0,f1,hflat,⟨f,g,n,hfind,hgf,hent⟩,harr,hargs,hout⟩:=h;simp only at huok hckn hval f0 f1 hflat hfind hgf hent harr hargs hum;have hw:zd0 (aA pls wE) 22:=gY (fun _=>rfl) rfl;have hkeep:(aA pls wE).keep 22=false:=rfl;have np:∀E:aw,aM E (.const (.pointer none))=some .aF:=fun _=>rfl;have kiv:∀H,aR prog (aA pls wE) 17 [.agg u.cells] H fun v H'=>v=.bool true/\H'=H:=fun H=>by
  have:aR prog (aA pls wE) 17 [.agg u.cells] H fun v H'=>v=.bool (mR u)/\H'=H:=cQ (enc:=fun u:Un=>[.agg u.cells]) (ok:=fun u=>znK u/\wz (jC u)) (out:=fun u=>.bool (mR u)) (fun x y h=>Un.inj lV) (x:=u) rfl ⟨huok,hckn⟩;rw[hval]at this;exact this
 have kld:∀l,LdE l->∀H,aR prog (aA pls wE) 46 [jV l] H fun v H'=>v=.aE ((cA l l.length).map fun(m:Nat)=>[AV.int .u32 (m:Int)])/\H'=H:=fun l hl H=>cQ (enc:=rV) (ok:=LdE) (out:=fun l=>tK (cA l l.length)) DB (x:=l) rfl hl;have eu:u.cells=[.aE (u.ab.map Ar.cells),.aE (u.funcs.map Gr.cells)]:=rfl;have wA:∀a b:AV,cr 2 [a,b]=some (.agg [a,b]):=fun _ _=>rfl;have hul:=huok.f;have hua:=huok.a;have hf0':¬O<0:=ac;have hf1':¬(1000:Int)<O:=ac;rw[eu]at kiv;show aR _ _ _ [.agg u.cells,.ay name,.aE (I.map fun n=>[AV.int .i64 n]),.int .i64 O] _ _;rw[eu];refine qe hw func22 WR ?_;dsimp only[WR,qd,a1,Nat.reduceAdd];repeat' (first
  |(apply ay ?_;clear hK K)|apply aT ?_|(apply eA ?_;first|refine Rx.k (kiv _) ?_)|(apply cR ?_ ?_<;>(intro hg hgp;try(cases hg;done)))|(apply a2 ?_ ?_<;>(intro hb hbp;try(cases hb;done)))|(apply az fun K hK=>?_)|(apply bV 18 [(4,9),(6,9),(7,9),(8,9)] fun K hK=>?_)|(apply l9 22 [0,1,2,3,4,5,6,7,10,8,9,11] [(3,9),(3,11),(7,9),(8,9),(8,11)] fun K hK=>?_)|(apply bB ?_;try intro _)|(apply bY ?_ ?_<;>clear hK K)|fail)
 refine cP [1,2,3,4,8,31,32] [0,1] 33 u.funcs.length (fun i E H=>∃hv fi vs,E.at 9=.int .i64 fi/\E.at 10=hv/\rH name I.length (u.funcs.drop i) i fi=rH name I.length u.funcs 0 (-1)/\VsM u i vs/\mw H hv vs/\∀q,q<2->∀o m z,hv≠.sl q o m z) eE ⟨.ao,-1,[],eE,eE,aB,⟨rfl⟩,.inl ⟨rfl,rfl⟩,fun _ _ _ _ _ e=>by cases e⟩ ?_;rintro i E V hi hcE hrH hnH hsI ⟨hv,fi,vs,k9,k10,hJ,hvM,hown,hno⟩;(try simp only[bz,a7,aV,aK,bb,Nat.reduceBEq,Nat.reduceAdd,Nat.reduceLeDiff,tyF, *]at hcE);(try simp only[bz,a7,aV,aK,bb,Nat.reduceBEq,Nat.reduceAdd,Nat.reduceLeDiff,tyF, *]at hrH);(try simp only[aS,bK,cL,bR,Nat.reduceAdd]at hnH);have hB0:(0 == V.next)=false:=aZ ac;have hC0:(V.next == 0)=false:=aZ ac;have hB1:(1 == V.next)=false:=aZ ac;have hC1:(V.next == 1)=false:=aZ ac;have hvs:vs.length=i:=by rw[hvM.e,dk,oE];omega
 have n2:2<=V.next:=hnH
 obtain⟨o1,o2⟩:=hown.one;by_cases hlt:i<u.funcs.length
 .have hlt':(i:Int)<u.funcs.length:=by omega
  have hgx:u.funcs[i]?=some u.funcs[i]:=aX hlt;have hfl:=hflat _ (dE hlt);rw[i4 hlt,rH]at hJ;have htk:u.funcs.take (i+1)=u.funcs.take i++[u.funcs[i]]:=by rw[wX,hgx];rfl
  generalize u.funcs[i]=q at *;obtain⟨nm,pa,ns,va,st⟩:=q;simp only at hfl hJ;have hgc:(Gr.mk nm pa ns va st).cells=[.ay nm,.int .i64 pa,jV ns,.int .i64 va,.int .i64 st]:=rfl;have agg5':∀a b c d e:AV,cr 5 [a,b,c,d,e]=some (.agg [a,b,c,d,e]):=fun _ _ _ _ _=>rfl;have kl:=kld ns hfl;have hvM2:VsM u (i+1) (vs++[.aE ((cA ns ns.length).map fun(m:Nat)=>[AV.int .u32 (m:Int)])]):=⟨by rw[htk,rF,hvM.e];rfl⟩;clear htk;have hbd:=fun H=>zlc H ((cA ns ns.length).map fun(m:Nat)=>[AV.int .u32 (m:Int)]);repeat' (first
   |(apply ay ?_;clear hK K)|apply aT ?_|(apply eA ?_;first|refine Rx.k (kl _) ?_)|(apply cR ?_ ?_<;>(intro hg hgp;try(cases hg;done)))|(apply a2 ?_ ?_<;>(intro hb hbp;try(cases hb;done)))|(apply az fun K hK=>?_)|(apply bV 18 [(4,9),(6,9),(7,9),(8,9)] fun K hK=>?_)|(apply l9 22 [0,1,2,3,4,5,6,7,10,8,9,11] [(3,9),(3,11),(7,9),(8,9),(8,11)] fun K hK=>?_)|(apply bB ?_;try intro _)|(apply bY ?_ ?_<;>clear hK K)|fail)
  generalize L:Hp.alloc (Hp.set (V.alloc _) _ _) _=Hb;have nb:V.next+2<=Hb.next:=by rw[<-L];exact aG _
  have kb:∀r,r<V.next->Hb.get r=V.get r:=fun r hr=>by
   rw[<-L];simp only[aQ,aL,bK,aS,ah (show ¬r=V.next by omega),ah (show ¬r=V.next+1 by omega)]
  have gb:Hb.get V.next=some (.cells [.ay nm,.int .i64 pa,jV ns,.int .i64 va,.int .i64 st] 0 true):=by
   rw[<-L];simp only[aQ,aL,bK,aS,ah (show ¬V.next=V.next+1 by omega),dG]
  have gr:Hb.get (V.next+1)=some (.cells [.aE ((cA ns ns.length).map fun(m:Nat)=>[AV.int .u32 (m:Int)])] 0 true):=by rw[<-L,aL,ai cN]
  clear L;have hownb:=hown.keep (H':=Hb) ac fun p hp _=>kb p hp;obtain⟨Y,ap,C,n5,dF⟩:=mw.push (P:=prog) (t:=103) underlying103 LJ Rs Rt rfl ax hownb gr rfl ve ve;have kp:∀p,p<2->Y.get p=V.get p:=fun p hp=>by rw[dF p ac (hno p hp),kb p ac]
  have g50:=kp 0 ac;have g51:=kp 1 ac;have g5n:Y.get V.next=some (.cells [.ay nm,.int .i64 pa,jV ns,.int .i64 va,.int .i64 st] 0 true):=by rw[dF _ ac (hown.not (aG _))];exact gb
  have n5':V.next+2<=Y.next:=ac
  have hno5:∀q,q<2->∀o m z,AV.sl Hb.next 0 (vs.length+1) 1≠.sl q o m z:=fun q hq o m z e=>by
   simp only[AV.sl.injEq]at e;omega
  by_cases e1:nm=name
  .subst e1;by_cases e2:pa=(I.length:Int)
   .subst e2;rw[ai ⟨rfl,rfl⟩]at hJ;repeat' (first
     |(apply ay ?_;clear hK K)|apply aT ?_|(apply cR ?_ ?_<;>(intro hg hgp;try(cases hg;done)))|(apply a2 ?_ ?_<;>(intro hb hbp;try(cases hb;done)))|(apply az fun K hK=>?_)|(apply bV 18 [(4,9),(6,9),(7,9),(8,9)] fun K hK=>?_)|(apply l9 22 [0,1,2,3,4,5,6,7,10,8,9,11] [(3,9),(3,11),(7,9),(8,9),(8,11)] fun K hK=>?_)|(apply bB ?_;try intro _)|(apply bY ?_ ?_<;>clear hK K)|fail)
    refine⟨ac,aW,aW,b8,El,?_⟩;exact⟨_,(i:Int),vs++[_],eE,eE,hJ,hvM2,C,hno5⟩
   .rw[ah (fun c=>e2 c.2)]at hJ;repeat' (first
     |(apply ay ?_;clear hK K)|apply aT ?_|(apply cR ?_ ?_<;>(intro hg hgp;try(cases hg;done)))|(apply a2 ?_ ?_<;>(intro hb hbp;try(cases hb;done)))|(apply az fun K hK=>?_)|(apply bV 18 [(4,9),(6,9),(7,9),(8,9)] fun K hK=>?_)|(apply l9 22 [0,1,2,3,4,5,6,7,10,8,9,11] [(3,9),(3,11),(7,9),(8,9),(8,11)] fun K hK=>?_)|(apply bB ?_;try intro _)|(apply bY ?_ ?_<;>clear hK K)|fail)
    refine⟨ac,aW,aW,b8,El,?_⟩;exact⟨_,fi,vs++[_],eE,eE,hJ,hvM2,C,hno5⟩
  .rw[ah (fun c=>e1 c.1)]at hJ;repeat' (first
    |(apply ay ?_;clear hK K)|apply aT ?_|(apply cR ?_ ?_<;>(intro hg hgp;try(cases hg;done)))|(apply a2 ?_ ?_<;>(intro hb hbp;try(cases hb;done)))|(apply az fun K hK=>?_)|(apply bV 18 [(4,9),(6,9),(7,9),(8,9)] fun K hK=>?_)|(apply l9 22 [0,1,2,3,4,5,6,7,10,8,9,11] [(3,9),(3,11),(7,9),(8,9),(8,11)] fun K hK=>?_)|(apply bB ?_;try intro _)|(apply bY ?_ ?_<;>clear hK K)|fail)
   refine⟨ac,aW,aW,b8,El,?_⟩;exact⟨_,fi,vs++[_],eE,eE,hJ,hvM2,C,hno5⟩
 .have hlt':¬(i:Int)<u.funcs.length:=by omega
  rw[oc ac,rH,hfind]at hJ;subst hJ;have hff:f<u.funcs.length:=(gR.1 hgf).1;obtain⟨hq,rfl,hqlt,hqg⟩:∃q,hv=.sl q 0 vs.length 1/\q<V.next/\V.get q=some (.cells vs 0 true):=by
   rcases hown with⟨rfl,_⟩|h
   .simp at hvs;omega
   .exact h
  have hfneg:¬(f:Int)<0:=ac;have yq:(hq == V.next)=false:=aZ ac;have bst:=zlb O;refine Y3 (fun hb hbp=>?_);refine cP [2,4,8,9,10,13,64,65] [0,1,hq] 66 u.ab.length (fun j E H=>∃cv vs2,H.get V.next=some (.cells [cv,.aF,.int .i64 O,.int .i64 0,.int .i64 0,.int .i64 0] 0 true)/\mw H cv vs2/\bN (vk (fun q=>V.next<q/\∀o m z,cv≠.sl q o m z) H) vs2 ((u.ab.take j).map fun a=>List.replicate a.len.toNat 0)/\(∀q,q<=V.next->∀o m z,cv≠.sl q o m z)/\V.next<H.next) eE ⟨.ao,[],fw,.inl ⟨rfl,rfl⟩,trivial,(fun _ _ _ _ _ e=>by cases e),cn _⟩ ?_;rintro j E3 Z hj hcE hrH hnH hsI ⟨cv,vs2,g3,own3,al3,no3,n3⟩;(try simp only[bz,a7,aV,aK,bb,Nat.reduceBEq,Nat.reduceAdd,Nat.reduceLeDiff,tyF, *]at hcE);(try simp only[bz,a7,aV,aK,bb,Nat.reduceBEq,Nat.reduceAdd,Nat.reduceLeDiff,tyF, *]at hrH);(try simp only[aS,bK,cL,bR,Nat.reduceAdd]at hnH);have hB0:(0 == Z.next)=false:=aZ ac;have hC0:(Z.next == 0)=false:=aZ ac;have hB1:(1 == Z.next)=false:=aZ ac;have hC1:(Z.next == 1)=false:=aZ ac;obtain⟨p1,p2⟩:=own3.one;have hv2:vs2.length=j:=by
   have:=bN.len al3;rw[dk,oE]at this;omega
  by_cases hjt:j<u.ab.length
  .have hjt':(j:Int)<u.ab.length:=by omega
   have hgy:u.ab[j]?=some u.ab[j]:=aX hjt;obtain⟨fD,aI⟩:=harr _ (dE hjt);have htk:u.ab.take (j+1)=u.ab.take j++[u.ab[j]]:=by rw[wX,hgy];rfl
   generalize u.ab[j]=y at *;obtain⟨anm,al⟩:=y;simp only at fD aI;obtain⟨k,rfl⟩:∃k:Nat,al=k:=⟨al.toNat,ac⟩;have hac:(Ar.mk anm (k:Int)).cells=[.ay anm,.int .i64 (k:Int)]:=rfl;have hmk:=fun H:Hp=>NU (H:=H) k ac;have hbc:=fun H q=>zld H q k;have y1:(V.next == Z.next)=false:=aZ ac;have y2:(V.next == Z.next+1)=false:=aZ ac;have y3:(V.next == Z.next+2)=false:=aZ ac;have y4:(Z.next == Z.next+1)=false:=aZ ac;have y5:(Z.next == Z.next+2)=false:=aZ ac;repeat' (first
    |(apply ay ?_;clear hK K)|apply aT ?_|(apply cR ?_ ?_<;>(intro hg hgp;try(cases hg;done)))|(apply a2 ?_ ?_<;>(intro hb hbp;try(cases hb;done)))|(apply az fun K hK=>?_)|(apply bV 18 [(4,9),(6,9),(7,9),(8,9)] fun K hK=>?_)|(apply l9 22 [0,1,2,3,4,5,6,7,10,8,9,11] [(3,9),(3,11),(7,9),(8,9),(8,11)] fun K hK=>?_)|(apply bB ?_;try intro _)|(apply bY ?_ ?_<;>clear hK K)|fail)
   generalize L:Hp.alloc (Hp.alloc (Hp.set (Z.alloc _) _ _) _) _=Hb;have nb:Z.next+3<=Hb.next:=by rw[<-L];exact aG _
   have kb:∀r,r<Z.next->Hb.get r=Z.get r:=fun r hr=>by
    rw[<-L];simp only[aQ,aL,bK,aS,ah (show ¬r=Z.next by omega),ah (show ¬r=Z.next+1 by omega),ah (show ¬r=Z.next+1+1 by omega)]
   have gy:Hb.get Z.next=some (.cells [.ay anm,.int .i64 (k:Int)] 0 true):=by
    rw[<-L];simp only[aQ,aL,bK,aS,ah (show ¬Z.next=Z.next+1 by omega),ah (show ¬Z.next=Z.next+1+1 by omega),dG]
   have gi:Hb.get (Z.next+1)=some (.cells (cM (List.replicate k 0)) 0 true):=by
    rw[<-L];simp only[aQ,aL,bK,aS,ah (show ¬Z.next+1=Z.next+1+1 by omega),dG]
   have gr:Hb.get (Z.next+2)=some (.cells [.sl (Z.next+1) 0 k 1] 0 true):=by rw[<-L,aL,ai cN]
   clear L;have g3b:=(kb V.next n3).trans g3;obtain⟨Y,ap,C,n5,dF⟩:=mw.push (P:=prog) (t:=107) underlying107 CZ Lw Ly rfl ax (own3.keep (H':=Hb) ac fun p hp _=>kb p hp) gr rfl ve ve;have g35:Y.get V.next=some (.cells [cv,.aF,.int .i64 O,.int .i64 0,.int .i64 0,.int .i64 0] 0 true):=by rw[dF _ ac (no3 _ (aG _))];exact g3b
   have nof:∀p,Z.next<=p->∀o m z,cv≠.sl p o m z:=fun p hp=>own3.not hp
   have gy5:Y.get Z.next=some (.cells [.ay anm,.int .i64 (k:Int)] 0 true):=by rw[dF _ ac (nof _ (aG _))];exact gy
   have gi5:Y.get (Z.next+1)=some (.cells (cM (List.replicate k 0)) 0 true):=by rw[dF _ ac (nof _ ac)];exact gi
   have gr5:Y.get (Z.next+2)=some (.cells [.sl (Z.next+1) 0 k 1] 0 true):=by rw[dF _ ac (nof _ ac)];exact gr
   have n5':Z.next+3<=Y.next:=ac
   have n5b:Hb.next<=Y.next:=ac
   repeat' (first
    |(apply ay ?_;clear hK K)|apply a9 ?_|(apply az fun K hK=>?_)|(apply bV 18 [(4,9),(6,9),(7,9),(8,9)] fun K hK=>?_)|(apply l9 22 [0,1,2,3,4,5,6,7,10,8,9,11] [(3,9),(3,11),(7,9),(8,9),(8,11)] fun K hK=>?_)|(apply bB ?_;try intro _)|(apply bY ?_ ?_<;>clear hK K)|fail)
   .exact bM
   generalize hH6:Hp.set Y _ _=H6;have n6:Y.next<=H6.next:=by rw[<-hH6];exact aG _
   have k6:∀r,r≠V.next->H6.get r=Y.get r:=fun r hr=>by rw[<-hH6,aQ,ah hr]
   have g6:H6.get V.next=some (.cells [.sl Hb.next 0 (vs2.length+1) 1,.aF,.int .i64 O,.int .i64 0,.int .i64 0,.int .i64 0] 0 true):=by rw[<-hH6,aQ,ai rfl,hv2]
   clear hH6;have kk:∀r,r<Z.next->r≠V.next->(∀o m z,cv≠.sl r o m z)->H6.get r=Z.get r:=fun r h1 h2 h3=>by rw[k6 r h2,dF r ac h3,kb r h1]
   have g60:=kk 0 ac ac (no3 0 ac);have g61:=kk 1 ac ac (no3 1 ac);have g6q:=kk hq ac ac (no3 hq ac);refine⟨ac,aW,aW,b8,(by simp only[aK,Nat.reduceBEq, *];exact il (n:=u.ab.length) ac ac),?_⟩;refine⟨_,vs2++[.sl (Z.next+1) 0 k 1],g6,C.keep n6 (fun p _ hp=>k6 p fun e=>?_),?_,fun q hq o m z e=>?_,ac⟩
   .obtain⟨o,m,z,e2⟩:=hp;simp only[AV.sl.injEq]at e2;omega
   .rw[htk,rF];refine bN.append (al3.mono fun a b hab=>?_) ⟨⟨Z.next+1,0,aB,⟨ac,fun o m z e=>by simp only[AV.sl.injEq]at e;omega⟩,ac,?_,cZ⟩,trivial⟩
    .obtain⟨q,im,e,⟨h1,h2⟩,h3,h4,h5⟩:=hab;exact⟨q,im,e,⟨h1,fun o m z e=>by simp only[AV.sl.injEq]at e;omega⟩,ac,by rw[kk q h3 ac h2];exact h4,h5⟩
    .rw[k6 _ ac];simpa using gi5
   .simp only[AV.sl.injEq]at e;omega
  .have hjt':¬(j:Int)<u.ab.length:=by omega
   rw[je ac]at al3;have hst:eI (fun _=>True) Z (.ptr V.next 0) (yR u.ab O):=by
    refine⟨V.next,cv,.aF,rfl,trivial,n3,g3,?_,rfl⟩;rcases own3 with⟨rfl,rfl⟩|⟨q,rfl,h2,h3⟩
    .have e:u.ab=[]:=by
      have:=bN.len al3;exact Co (by rw[dk]at this;exact this.symm)
     exact .inl ⟨by show u.ab.map _=[];rw[e];rfl,rfl⟩
    .exact .inr ⟨q,0,vs2,rfl,trivial,h2,h3,ac,al3.mono fun a b hab=>hab.sub fun _ _ _=>trivial⟩
   have hfl:=hflat g (cV hgf);have hvM3:vs=(jw u).map tK:=by rw[hvM.e,je ac];unfold jw;rw[Gf];rfl
   have hql:Z.get hq=some (.cells vs 0 true):=N8;have hhd:wC (fun _=>True) Z (.sl hq 0 i 1) (jw u):=⟨hq,0,true,by rw[show(jw u).length=i by rw[<-hvs,hvM3,dk]],trivial,ac,by rw[hql,hvM3]⟩;have hent2:=Xb BG (S:=fun _=>True) hgf hfl.ok.1.1 hst (.inl rfl:re (fun _=>True) Z (hY I) I) hhd (fun _ _=>trivial) hum;rw[eu]at hent2;unfold hY at hent2;have hgc:g.cells=[.ay g.name,.int .i64 g.params,.aE (g.af.map Nd.cells),.int .i64 g.value,.int .i64 g.aa]:=rfl;repeat' (first
    |(apply ay ?_;clear hK K)|apply aT ?_|(apply cR ?_ ?_<;>(intro hg hgp;try(cases hg;done)))|(apply a2 ?_ ?_<;>(intro hb hbp;try(cases hb;done)))|(apply az fun K hK=>?_)|(apply bV 18 [(4,9),(6,9),(7,9),(8,9)] fun K hK=>?_)|(apply l9 22 [0,1,2,3,4,5,6,7,10,8,9,11] [(3,9),(3,11),(7,9),(8,9),(8,11)] fun K hK=>?_)|(apply bB ?_;try intro _)|(apply bY ?_ ?_<;>clear hK K)|fail)
   refine qk ?_;refine a8 ?_ hent2;rintro v H4 ⟨xp,rp,rfl,hxp,hrp,hok,hFV4,n34',fr4⟩;have E4:zd2 (fun _=>True) Z H4:=⟨n34',fun r _ h=>fr4 r h⟩;clear fr4 n34';dsimp only[a0];have g03:Z.get 0=some (.cells [.aE (u.ab.map Ar.cells),.aE (u.funcs.map Gr.cells)] 0 true):=N8;have g13:Z.get 1=some qy:=N8;have n34:=E4.next
   have g04:=(E4.get 0 trivial ac).trans g03;have g14:=(E4.get 1 trivial ac).trans g13;unfold vQ at hent;obtain⟨⟨s,cI⟩,q1,q6⟩:=aC.1 hent;clear hent;simp only at q6;have hcx:(⟨fun q=>True/\q≠xp/\q≠rp,xp,rp,u,jw u,.sl hq 0 i 1,.ptr V.next 0,hY I,⟨f,g,yR u.ab O,I⟩⟩:Cq).Ok:=hok;refine OK fun K hK=>?_;refine qk ?_;refine a8 ?_ (NZ BG (Ob BG u (jw u) n) rfl rfl hok hFV4 q1);rintro v Y ⟨⟨p,cv5,ov5,rfl,hp5⟩,⟨rows5,vvs5,hF5⟩,n45,fr5⟩;dsimp only[a0];simp only at hp5;have gp5:=hp5.get;have g05:=(fr5 0 ac (by show 0≠rp;omega) (by show 0≠xp;omega)).trans g04;have g15:=(fr5 1 ac (by show 1≠rp;omega) (by show 1≠xp;omega)).trans g14;have hout5:s.out.length<2^30:=by
    have e:o.out=s.out.reverse:=by
     split at q6
     .obtain⟨res2,_,q9⟩:=aC.1 q6;rw[am]at q9;rw[<-q9,WS]
     .rw[am]at q6;rw[<-q6,WS]
    rw[e,zN]at hout;exact hout
   have EA:zd2 (fun _=>True) Y (Y.alloc qy):=⟨dg _,fun r _ hr=>dT⟩;have kvl:=zk9 BG.toEvT (hp5.out.keep (EA.sub fun _ _ _=>trivial)) hout5;have y6:(p == Y.next)=false:=aZ (by have:=hp5.lt;omega);refine OK fun K hK=>?_;refine qk ?_;refine a8 ?_ kvl;rintro v H6 ⟨rfl,n56,g6,fr6⟩;rw[aS]at n56 g6 fr6;dsimp only[a0];have plt:=hp5.lt;have gp6:=(fr6 p ac).trans ((EA.get p trivial plt).trans gp5);have g06:=(fr6 0 ac).trans ((EA.get 0 trivial ac).trans g05);have g16:=(fr6 1 ac).trans ((EA.get 1 trivial ac).trans g15);have gt6:H6.get Y.next=some qy:=(fr6 _ ac).trans fw
   have boc:=NV s.ed (Y.next+1) s.out.length;have agg4':∀a b c d:AV,cr 4 [a,b,c,d]=some (.agg [a,b,c,d]):=fun _ _ _ _=>rfl;have y01:(0 == Y.next)=false:=aZ ac;have y11:(1 == Y.next)=false:=aZ ac;have y7:(Y.next == 1)=false:=aZ ac;have hg6:H6.get (Y.next+1)=some (.cells (cM s.out.reverse) 0 true):=g6;by_cases e0:s.ed=0
   .rw[ai e0]at q6;obtain⟨t,q7,q10⟩:=aC.1 q6;rw[am]at q10;have he:pJ s t.1=⟨1,0,s.out.reverse,t.1⟩:=by unfold pJ;rw[ah ac,ai e0]
    rw[he]at q10;have boc0:=NV 0 (Y.next+1) s.out.length;clear q6 he;repeat' (first
     |(apply ay ?_;clear hK K)|apply aT ?_|(apply cR ?_ ?_<;>(intro hg hgp;try(cases hg;done)))|(apply a2 ?_ ?_<;>(intro hb hbp;try(cases hb;done)))|(apply az fun K hK=>?_)|(apply bV 18 [(4,9),(6,9),(7,9),(8,9)] fun K hK=>?_)|(apply l9 22 [0,1,2,3,4,5,6,7,10,8,9,11] [(3,9),(3,11),(7,9),(8,9),(8,11)] fun K hK=>?_)|(apply bB ?_;try intro _)|(apply bY ?_ ?_<;>clear hK K)|fail)
    .exact bM
    generalize hH7:Hp.set H6 _ _=H7;have n7:H6.next<=H7.next:=by rw[<-hH7];exact aG _
    have g7:H7.get Y.next=some (.cells [.int .i64 0,.int .i64 0,.sl (Y.next+1) 0 s.out.length 1,.int .i64 0] 0 true):=by rw[<-hH7,aQ,ai rfl]
    have iU:∀r,r≠Y.next->H7.get r=H6.get r:=fun r hr=>by rw[<-hH7,aQ,ah hr]
    clear hH7;have hF7:=hF5.keep (H':=H7) ac fun q hq=>by rw[iU q ac,fr6 q ac];exact EA.get q trivial hq
    have lr4:rp<Y.next:=hF5.lr
    have lx4:xp<Y.next:=hF5.lx
    refine qk ?_;refine a8 ?_ (Jh BG (Ob BG u (jw u) n) rfl rfl hok ⟨rows5,vvs5,hF7⟩ q7);rintro v H8 ⟨rfl,hFV8,n78,fr8⟩;dsimp only[a0];have g8:=(fr8 Y.next ac (by show Y.next≠rp;omega) (by show Y.next≠xp;omega)).trans g7;have g18:=(fr8 1 ac (by show 1≠rp;omega) (by show 1≠xp;omega)).trans ((iU 1 ac).trans g16);have hg8:=(fr8 (Y.next+1) ac (by show Y.next+1≠rp;omega) (by show Y.next+1≠xp;omega)).trans ((iU _ ac).trans hg6);refine Y4 ?_;refine⟨aE,_,(by(try simp only[aK,bb,Nat.reduceBEq,Nat.reduceAdd,Nat.reduceLeDiff,tyF,dR,eh,agg4', *]);first|done|with_reducible rfl),?_⟩;try simp only[aD]
    rw[<-q10];generalize J:Hp.set _ 1 _=Hf;have nf:Y.next+2<=Hf.next:=N9
    have gf:Hf.get (Y.next+1)=some (.cells (cM s.out.reverse) 0 true):=by
     rw[<-J];simp only[aQ,ah (show ¬Y.next+1=1 by omega),ah (show ¬Y.next+1=Y.next by omega)];exact hg8
    clear J;have:=NW 1 0 t.1 s.out.reverse ac gf;rw[zN]at this;exact this
   .rw[ah e0,am]at q6;by_cases e2:s.ed=2
    .have he:pJ s 0=⟨2,s.aT,s.out.reverse,0⟩:=by unfold pJ;rw[ai e2]
     rw[he]at q6;have boc2:=NV 2 (Y.next+1) s.out.length;clear he;repeat' (first
      |(apply ay ?_;clear hK K)|apply aT ?_|(apply cR ?_ ?_<;>(intro hg hgp;try(cases hg;done)))|(apply a2 ?_ ?_<;>(intro hb hbp;try(cases hb;done)))|(apply az fun K hK=>?_)|(apply bV 18 [(4,9),(6,9),(7,9),(8,9)] fun K hK=>?_)|(apply l9 22 [0,1,2,3,4,5,6,7,10,8,9,11] [(3,9),(3,11),(7,9),(8,9),(8,11)] fun K hK=>?_)|(apply bB ?_;try intro _)|(apply bY ?_ ?_<;>clear hK K)|fail)
     .exact bM
     refine⟨aE,_,(by(try simp only[aK,bb,Nat.reduceBEq,Nat.reduceAdd,Nat.reduceLeDiff,tyF,dR,eh,agg4', *]);first|done|with_reducible rfl),?_⟩;try simp only[aD]
     rw[<-q6];generalize J:Hp.set _ 1 _=Hf;have nf:Y.next+2<=Hf.next:=N9
     have gf:Hf.get (Y.next+1)=some (.cells (cM s.out.reverse) 0 true):=by
      rw[<-J];simp only[aQ,ah (show ¬Y.next+1=1 by omega),ah (show ¬Y.next+1=Y.next by omega)];exact hg6
     clear J;have:=NW 2 s.aT 0 s.out.reverse ac gf;rw[zN]at this;exact this
    .have he:pJ s 0=⟨s.ed,0,s.out.reverse,0⟩:=by unfold pJ;rw[ah e2,ah e0]
     rw[he]at q6;clear he;repeat' (first
      |(apply ay ?_;clear hK K)|apply aT ?_|(apply cR ?_ ?_<;>(intro hg hgp;try(cases hg;done)))|(apply a2 ?_ ?_<;>(intro hb hbp;try(cases hb;done)))|(apply az fun K hK=>?_)|(apply bV 18 [(4,9),(6,9),(7,9),(8,9)] fun K hK=>?_)|(apply l9 22 [0,1,2,3,4,5,6,7,10,8,9,11] [(3,9),(3,11),(7,9),(8,9),(8,11)] fun K hK=>?_)|(apply bB ?_;try intro _)|(apply bY ?_ ?_<;>clear hK K)|fail)
     .exact bM
     refine⟨aE,_,(by(try simp only[aK,bb,Nat.reduceBEq,Nat.reduceAdd,Nat.reduceLeDiff,tyF,dR,eh,agg4', *]);first|done|with_reducible rfl),?_⟩;try simp only[aD]
     rw[<-q6];generalize J:Hp.set _ 1 _=Hf;have nf:Y.next+2<=Hf.next:=N9
     have gf:Hf.get (Y.next+1)=some (.cells (cM s.out.reverse) 0 true):=by
      rw[<-J];simp only[aQ,ah (show ¬Y.next+1=1 by omega),ah (show ¬Y.next+1=Y.next by omega)];exact hg6
     clear J;have:=NW s.ed 0 0 s.out.reverse ac gf;rw[zN]at this;exact this)
end
section
def tyG5a.tyF:=ad @cG (ad @eG (ad @ey (ad @jx (ad @i7 (ad @jh (ad @iC (ad @kg (ad @AE (ad @xd (ad @Vj (ad @Vk (ad @DV (ad @zjf (ad @zjg (@Vi)))))))))))))))
open tyG5a
set_option maxRecDepth 100000 in
theorem zl0(hG:zf3 J){deep:Nat}(hst:deep<=2->sT J k f (deep+1))(Z:AtT f deep lo H H2 r j c q m E2) (hp0:q<6):bX prog (aA pls J) 58 156 pZ E2 H2 (rc k f deep lo H r j c q m):=by
 obtain⟨hd,hrl,hlo,n2,g2,o2',hr2,hL1,Y,hqd,k0,k1,k2,k6,k8,k9,k10⟩:=Z;have hkeep:(aA pls J).keep 58=false:=rfl;have hq2:(2:Int)≠0:=aF;have z:((cB f).length:Int)≠0:=by rcases wq f with h|h<;>rw[h]<;>decide
 obtain⟨hi0,hix⟩:=uY (cB f) z Y.1 [];have hxs:=ww Y.1;have hxa:=wx Y.1;have hxf:=x6 Y.1;have er:(H.next == r)=false:=aZ ac;have e41:=ft f 4 1 j;have e50:=ft f 5 0 j;have e32:=ft f 3 2 j;have hwd:IntKind.wrap .i64 ((deep:Int)+1)=((deep+1:Nat):Int):=uw ac;unfold rc;generalize hR:ir (u5 f k deep) f j c q m=R;rw[ir]at hR;dsimp only[pZ,r5,uZ];repeat' (first
  |(apply ay ?_;clear hK K)|apply aT ?_|(apply a2 ?_ ?_<;>(intro hb hbp;try(cases hb;done)))|(apply az fun K hK=>?_)|(apply bV 8 [(3,9),(3,11),(6,9),(6,11)] fun K hK=>?_)|(apply bB ?_;try intro _)|fail)
 refine qk ?_;refine a8 ?_ (ow hG 5 f 0 ac ac lo _ r j c hr2 ac);rintro v H4 ⟨⟨cs,rfl,O,L,I⟩,C,n4,o4⟩;obtain⟨v0,v1,v2,v3,v4,rfl⟩:=mo O;obtain⟨w0,dI,w2,w3,w4⟩:=x7 L;have g4:H4.get H.next=some qr:=by rw[o4 _ ac ac];exact g2
 dsimp only[a0];repeat' (first
  |apply a9 ?_|(apply bB ?_;try intro _)|(apply bY ?_ ?_<;>clear hK K)|fail)
 .exact bM
 .refine⟨aE,_,(by(try simp only[aK,bb,Nat.reduceBEq,tyF,dR,eh, *]);first|done|with_reducible rfl),?_⟩;try simp only[aD]
  rw[ai ac]at hR;subst hR;refine zK rfl Xj (zI (n:=8+k) 1 _ [] 0 x5 ((I.up ac).bC (fun q _ hq=>ac) eZ fun q h1 V=>kK) .ao .ao .ao) ?_ ?_ ?_
  .exact C.keep eZ fun q hq=>kK
  .simp only[bK];omega
  .intro q h1 V;rw[aQ,ah ac,o4 _ ac V];exact o2' q h1 V
set_option maxRecDepth 100000 in
theorem zl1{Y:qH}(hG:zf3 Y){deep:Nat}(hst:deep<=2->sT Y k f (deep+1))(L:AtT f deep lo H H2 r j c q m E2)(hn0:¬q<6)(hp0:q<8):bX prog (aA pls Y) 58 156 pZ E2 H2 (rc k f deep lo H r j c q m):=by
 obtain⟨hd,hrl,hlo,n2,g2,o2',hr2,hL1,O,hqd,k0,k1,k2,k6,k8,k9,k10⟩:=L;have hkeep:(aA pls Y).keep 58=false:=rfl;have hq2:(2:Int)≠0:=aF;have z:((cB f).length:Int)≠0:=by rcases wq f with h|h<;>rw[h]<;>decide
 obtain⟨hi0,hix⟩:=uY (cB f) z O.1 [];have hxs:=ww O.1;have hxa:=wx O.1;have hxf:=x6 O.1;have er:(H.next == r)=false:=aZ ac;have e41:=ft f 4 1 j;have e50:=ft f 5 0 j;have e32:=ft f 3 2 j;have hwd:IntKind.wrap .i64 ((deep:Int)+1)=((deep+1:Nat):Int):=uw ac;unfold rc;generalize hR:ir (u5 f k deep) f j c q m=R;rw[ir]at hR;dsimp only[pZ,r5,uZ];repeat' (first
  |(apply ay ?_;clear hK K)|apply aT ?_|(apply a2 ?_ ?_<;>(intro hb hbp;try(cases hb;done)))|(apply az fun K hK=>?_)|(apply bV 10 [(0,7),(0,10),(0,12),(4,7),(4,10),(4,12)] fun K hK=>?_)|(apply bB ?_;try intro _)|fail)
 refine qk ?_;refine a8 ?_ (ow hG 3 f 2 ac ac lo _ r j c (hr2.keep (dg _) fun q I=>dT) ac);rintro v H4 ⟨⟨al,rfl,ha1,ha2,J⟩,hr4,n4,C⟩;simp only[aS]at n4 C J;obtain⟨fD,aI,a6,cp,dO,rfl⟩:=mo ha1;obtain⟨u0,u1,u2,u3,u4⟩:=x7 ha2;have g4s:H4.get (H.next+1)=some qw:=by rw[C _ ac ac,aL,ai ac]
 dsimp only[a0];refine yh ?_;refine qk ?_;refine a8 ?_ (ow hG 4 f 1 ac ac lo H4 r _ c hr4 ac);rintro v H5 ⟨⟨cs,rfl,hc1,hc2,hc3⟩,hr5,n5,V⟩;obtain⟨v0,v1,v2,v3,v4,rfl⟩:=mo hc1;obtain⟨w0,dI,w2,w3,w4⟩:=x7 hc2;have g5s:H5.get (H.next+1)=some qw:=by rw[V _ ac ac];exact g4s
 have g5:H5.get H.next=some qr:=by rw[V _ ac ac,C _ ac ac,aL,ah ac];exact g2
 dsimp only[a0];repeat' (first
  |apply a9 ?_|(apply bB ?_;try intro _)|(apply bY ?_ ?_<;>clear hK K)|fail)
 .exact bM
 .refine⟨aE,_,(by(try simp only[aK,bb,Nat.reduceBEq,tyF,dR,eh, *]);first|done|with_reducible rfl),?_⟩;try simp only[aD]
  rw[ah ac,ai ac]at hR;subst hR;refine zK rfl (by simp only[oX,pO,u0,u1,u2,u3,u4,w0,dI,w2,w3,w4,fV];rfl) (zI (n:=8+k) 2 _ [] 0 ((J.up ac).bC (fun q _ I=>ac) eZ fun q h1 Z=>by rw[aQ,ah ac,V _ ac ac]) ((hc3.up ac).bC (fun q _ I=>ac) eZ fun q h1 Z=>kK) .ao .ao .ao) ?_ ?_ ?_
  .exact hr5.keep eZ fun q I=>kK
  .simp only[bK];omega
  .intro q h1 Z;rw[aQ,ah ac,V _ ac Z,C _ ac Z,aL,ah ac];exact o2' q h1 Z
set_option maxRecDepth 100000 in
theorem zl2(hG:zf3 J){deep:Nat}(hst:deep<=2->sT J k f (deep+1))(Z:AtT f deep lo H H2 r j c q m E2)(hn0:¬q<6)(hn1:¬q<8)(hn2:¬q<10)(hn3:¬q<12)(hp0:q<14):bX prog (aA pls J) 58 156 pZ E2 H2 (rc k f deep lo H r j c q m):=by
 obtain⟨hd,hrl,hlo,n2,g2,o2',hr2,hL1,Y,hqd,k0,k1,k2,k6,k8,k9,k10⟩:=Z;have hkeep:(aA pls J).keep 58=false:=rfl;have hq2:(2:Int)≠0:=aF;have z:((cB f).length:Int)≠0:=by rcases wq f with h|h<;>rw[h]<;>decide
 obtain⟨hi0,hix⟩:=uY (cB f) z Y.1 [];have hxs:=ww Y.1;have hxa:=wx Y.1;have hxf:=x6 Y.1;have er:(H.next == r)=false:=aZ ac;have e41:=ft f 4 1 j;have e50:=ft f 5 0 j;have e32:=ft f 3 2 j;have hwd:IntKind.wrap .i64 ((deep:Int)+1)=((deep+1:Nat):Int):=uw ac;unfold rc;generalize hR:ir (u5 f k deep) f j c q m=R;rw[ir]at hR;dsimp only[pZ,r5,uZ];repeat' (first
  |(apply ay ?_;clear hK K)|apply aT ?_|(apply a2 ?_ ?_<;>(intro hb hbp;try(cases hb;done)))|(apply az fun K hK=>?_)|fail)
 refine qj ?_;refine a8 ?_ (ow hG 4 f 1 ac ac lo _ r j c hr2 ac);rintro v H4 ⟨⟨cs,rfl,O,L,I⟩,C,n4,o4⟩;obtain⟨v0,v1,v2,v3,v4,rfl⟩:=mo O;obtain⟨w0,dI,w2,w3,w4⟩:=x7 L;have g4:H4.get H.next=some qr:=by rw[o4 _ ac ac];exact g2
 dsimp only[a0];refine dX ?_;refine⟨aE,_,(by(try simp only[aK,bb,Nat.reduceBEq,tyF,dR,eh, *]);first|done|with_reducible rfl),?_⟩;try simp only[aD]
 rw[ah ac,ah ac,ah ac,ah ac,ai ac]at hR;subst hR;refine zK rfl Xj (zI (n:=8+k) 5 [] [] 0 x5 ((I.up ac).bC (fun q _ hq=>ac) eZ fun q h1 V=>kK) .ao .ao .ao) ?_ ?_ ?_
 .exact C.keep eZ fun q hq=>kK
 .simp only[bK];omega
 .intro q h1 V;rw[aQ,ah ac,o4 _ ac V];exact o2' q h1 V
set_option maxRecDepth 100000 in
theorem zl3(hG:zf3 J){deep:Nat}{I:Hp}(hst:deep<=2->sT J k f (deep+1))(Z:AtT f deep lo H I r j c q m E2)(hn0:¬q<6)(hn1:¬q<8)(hn2:¬q<10)(hn3:¬q<12)(hn4:¬q<14)(hn5:¬q<15) : bX prog (aA pls J) 58 156 pZ E2 I (rc k f deep lo H r j c q m):=by
 obtain⟨hd,hrl,hlo,n2,g2,V,O,hL1,Y,hqd,k0,k1,k2,k6,k8,k9,k10⟩:=Z;have L:(aA pls J).keep 58=false:=rfl;have hq2:(2:Int)≠0:=aF;have z:((cB f).length:Int)≠0:=by rcases wq f with h|h<;>rw[h]<;>decide
 obtain⟨hi0,hix⟩:=uY (cB f) z Y.1 [];have hxs:=ww Y.1;have hxa:=wx Y.1;have hxf:=x6 Y.1;have er:(H.next == r)=false:=aZ ac;have e41:=ft f 4 1 j;have e50:=ft f 5 0 j;have e32:=ft f 3 2 j;have hwd:IntKind.wrap .i64 ((deep:Int)+1)=((deep+1:Nat):Int):=uw ac;unfold rc;generalize C:ir (u5 f k deep) f j c q m=R;rw[ir]at C;dsimp only[pZ,r5,uZ];refine jp (fun hb hbp=>?_)
 refine⟨aE,_,(by(try simp only[aK,bb,Nat.reduceBEq,tyF,dR,eh, *]);first|done|with_reducible rfl),?_⟩;try simp only[aD]
 rw[ah ac,ah ac,ah ac,ah ac,ah ac,ah ac]at C;subst C;refine zK rfl rfl (zI (n:=8+k) 7 [] [] _ x5 x5 .ao .ao .ao) ?_ ?_ ?_
 .exact O.keep eZ fun q hq=>kK
 .simp only[bK];omega
 .intro q h1 h2;rw[aQ,ah ac];exact V q h1 h2
end
section
def tyG5b.tyF:=ad @cG (ad @eG (ad @ey (ad @jx (ad @i7 (ad @jh (ad @iC (ad @kg (ad @AE (ad @xd (ad @Vj (ad @Vk (ad @DV (ad @Vi (ad @Vl (@zjh)))))))))))))))
open tyG5b
set_option maxRecDepth 100000 in
theorem zl4{lG:qH}(hG:zf3 lG){deep:Nat}{Z:qA}(hst:deep<=2->sT lG k f (deep+1))(hat:AtT f deep lo H H2 r Z c q m E2)(hn0:¬q<6)(hn1:¬q<8)(hp0:q<10):bX prog (aA pls lG) 58 156 pZ E2 H2 (rc k f deep lo H r Z c q m):=by
 obtain⟨hd,hrl,hlo,n2,g2,o2',hr2,hL1,hm,hqd,k0,k1,k2,k6,k8,k9,k10⟩:=hat;have hkeep:(aA pls lG).keep 58=false:=rfl;have hq2:(2:Int)≠0:=aF;have hlen0:((cB f).length:Int)≠0:=by rcases wq f with h|h<;>rw[h]<;>decide
 obtain⟨hi0,hix⟩:=uY (cB f) hlen0 hm.1 [];have hxs:=ww hm.1;have hxa:=wx hm.1;have hxf:=x6 hm.1;have er:(H.next == r)=false:=aZ ac;have e41:=ft f 4 1 Z;have e50:=ft f 5 0 Z;have e32:=ft f 3 2 Z;have hwd:IntKind.wrap .i64 ((deep:Int)+1)=((deep+1:Nat):Int):=uw ac;unfold rc;generalize hR:ir (u5 f k deep) f Z c q m=R;rw[ir]at hR;dsimp only[pZ,r5,uZ];repeat' (first
  |(apply ay ?_;clear hK K)|apply aT ?_|(apply a2 ?_ ?_<;>(intro hb hbp;try(cases hb;done)))|(apply az fun K hK=>?_)|fail)
 refine qj ?_;refine a8 ?_ (ow hG 4 f 1 ac ac lo _ r Z c hr2 ac);rintro v j ⟨⟨cs,rfl,hc1,hc2,hc3⟩,hr4,n4,o4⟩;obtain⟨C,v1,v2,v3,v4,rfl⟩:=mo hc1;obtain⟨w0,dI,w2,w3,w4⟩:=x7 hc2;dsimp only[a0];refine fT fun K hK=>?_;generalize O:Hp.set (Hp.alloc j _) j.next _=Ha
 have na:Ha.next=j.next+1:=by rw[<-O];rfl
 have oa:∀q,q<j.next->Ha.get q=j.get q:=fun q J=>Xk
 have ga:Ha.get j.next=some (.cells [.int .i64 3,.ay [],.ay [],.int .i64 0,.int .i64 0,.int .i64 0,.ay [],.int .i64 0,.ao,C,v1,v2,v3,v4,.ao,.ao,.ao] 0 true):=by rw[<-O,aQ,ai rfl]
 clear O;refine qj ?_;refine a8 ?_ (D8 hG (hst ac) 3 ac ac lo Ha r ((bC f 4 1 Z).2,c) (hr4.keep ac fun q J=>oa q ac) xN);rintro tv H5 ⟨V,hr5,n5,o5⟩;have hl5:(mp f k (deep+1) 3 ((bC f 4 1 Z).2,c)).2.1.length<=(bC f 4 1 Z).2.length:=dt (D6 (D7 f k (deep+1)) _ _) (ou _);obtain⟨t1,t2⟩:=V.one;have g5:H5.get j.next=some (.cells [.int .i64 3,.ay [],.ay [],.int .i64 0,.int .i64 0,.int .i64 0,.ay [],.int .i64 0,.ao,C,v1,v2,v3,v4,.ao,.ao,.ao] 0 true):=by rw[o5 _ ac ac];exact ga
 dsimp only[a0];refine fT fun K hK=>?_;generalize z:Hp.set H5 j.next _=Hb
 have nb:Hb.next=H5.next:=by rw[<-z];rfl
 have ob:∀q,q≠j.next->Hb.get q=H5.get q:=fun q J=>by rw[<-z,aQ,ah J]
 have gb:Hb.get j.next=some (.cells [.int .i64 3,.ay [],.ay [],.int .i64 0,.int .i64 0,.int .i64 0,.ay [],.int .i64 0,.ao,C,v1,v2,v3,v4,.ao,tv,.ao] 0 true):=by rw[<-z,aQ,ai rfl]
 clear z;refine qj ?_;refine a8 ?_ (D8 hG (hst ac) 2 ac ac lo Hb r (mp f k (deep+1) 3 ((bC f 4 1 Z).2,c)).2 (hr5.keep ac fun q J=>ob q ac) ac);rintro uv H6 ⟨L,hr6,n6,o6⟩;obtain⟨p1,p2⟩:=L.one;have g6t:H6.get j.next=some (.cells [.int .i64 3,.ay [],.ay [],.int .i64 0,.int .i64 0,.int .i64 0,.ay [],.int .i64 0,.ao,C,v1,v2,v3,v4,.ao,tv,.ao] 0 true):=by rw[o6 _ ac ac];exact gb
 have g6:H6.get H.next=some qr:=by rw[o6 _ ac ac,ob _ ac,o5 _ ac ac,oa _ ac,o4 _ ac ac];exact g2
 have e46:(H.next == j.next)=false:=aZ ac;have e64:(j.next == H.next)=false:=aZ ac;dsimp only[a0];refine dX ?_;refine⟨aE,_,(by(try simp only[aK,bb,Nat.reduceBEq,tyF,dR,eh, *]);first|done|with_reducible rfl),?_⟩;try simp only[aD]
 rw[ah ac,ah ac,ai ac]at hR;subst hR;have hk6:∀q,Hb.next<=q->q<H6.next->((H6.set j.next (.cells [.int .i64 3,.ay [],.ay [],.int .i64 0,.int .i64 0,.int .i64 0,.ay [],.int .i64 0,.ao,C,v1,v2,v3,v4,.ao,tv,uv] 0 true)).set H.next (.cells [.int .i64 3,.ay [],.ay [],.int .i64 0,.int .i64 0,.int .i64 0,.ay [],.int .i64 0,.ao,C,v1,v2,v3,v4,.ao,tv,uv] 0 true)).get q=H6.get q:=fun q I Y=>Ji
 have hk5:∀q,Ha.next<=q->q<H5.next->((H6.set j.next (.cells [.int .i64 3,.ay [],.ay [],.int .i64 0,.int .i64 0,.int .i64 0,.ay [],.int .i64 0,.ao,C,v1,v2,v3,v4,.ao,tv,uv] 0 true)).set H.next (.cells [.int .i64 3,.ay [],.ay [],.int .i64 0,.int .i64 0,.int .i64 0,.ay [],.int .i64 0,.ao,C,v1,v2,v3,v4,.ao,tv,uv] 0 true)).get q=H5.get q:=fun q I Y=>by rw[aQ,ah ac,aQ,ah ac,o6 _ ac ac,ob _ ac]
 refine zK rfl (by simp only[oX,pO,w0,dI,w2,w3,w4,t1,p1,fV];rfl) (zI (n:=8+k) 3 [] [] 0 x5 ((hc3.up ac).bC (fun q _ J=>ac) eZ fun q I Y=>by rw[aQ,ah ac,aQ,ah ac,o6 _ ac ac,ob _ ac,o5 _ ac ac,oa _ ac]) .ao (V.keep (fun q _ J=>ac) eZ fun q I Y=>hk5 q I Y).rd (L.keep (fun q _ J=>ac) eZ fun q I Y=>hk6 q I Y).rd) ?_ ?_ ?_
 .exact hr6.keep eZ fun q J=>Ji
 .simp only[bK];omega
 .intro q I Y;rw[aQ,ah ac,aQ,ah ac,o6 _ ac Y,ob _ ac,o5 _ ac Y,oa _ ac,o4 _ ac Y];exact o2' q I Y
set_option maxRecDepth 100000 in
theorem zl5{lG:qH}(hG:zf3 lG){deep:Nat}{Y:qA}(hst:deep<=2->sT lG k f (deep+1))(hat:AtT f deep lo H H2 r Y c q m E2)(hn0:¬q<6)(hn1:¬q<8)(hn2:¬q<10)(hp0:q<12):bX prog (aA pls lG) 58 156 pZ E2 H2 (rc k f deep lo H r Y c q m):=by
 obtain⟨hd,hrl,hlo,n2,g2,o2',hr2,hL1,hm,hqd,k0,k1,k2,k6,k8,k9,k10⟩:=hat;have hkeep:(aA pls lG).keep 58=false:=rfl;have hq2:(2:Int)≠0:=aF;have z:((cB f).length:Int)≠0:=by rcases wq f with h|h<;>rw[h]<;>decide
 obtain⟨hi0,hix⟩:=uY (cB f) z hm.1 [];have hxs:=ww hm.1;have hxa:=wx hm.1;have hxf:=x6 hm.1;have er:(H.next == r)=false:=aZ ac;have e41:=ft f 4 1 Y;have e50:=ft f 5 0 Y;have e32:=ft f 3 2 Y;have hwd:IntKind.wrap .i64 ((deep:Int)+1)=((deep+1:Nat):Int):=uw ac;unfold rc;generalize hR:ir (u5 f k deep) f Y c q m=R;rw[ir]at hR;dsimp only[pZ,r5,uZ];repeat' (first
  |(apply ay ?_;clear hK K)|apply aT ?_|(apply a2 ?_ ?_<;>(intro hb hbp;try(cases hb;done)))|(apply az fun K hK=>?_)|fail)
 obtain⟨lv,hg,J⟩:=hr2.eb;have hcw:IntKind.wrap .i64 (c+1)=cy (c+1):=rfl;refine fT fun K hK=>?_;generalize V:Hp.set _ r _=Ht;have nt:Ht.next=H.next+1:=by rw[<-V];simpa using n2
 have ot:∀q,q≠r->Ht.get q=_:=fun q I=>by rw[<-V,aQ,ah I]
 have hrt:jL lo Ht r Y (cy (c+1)):=by rw[<-V];exact J _
 have gt:Ht.get H.next=some qr:=by rw[ot _ ac];exact g2
 clear V;refine qj ?_;refine a8 ?_ (ow hG 4 f 1 ac ac lo Ht r Y _ hrt ac);rintro v j ⟨⟨cs,rfl,hc1,hc2,hc3⟩,hr4,n4,o4⟩;obtain⟨v0,v1,v2,v3,v4,rfl⟩:=mo hc1;obtain⟨w0,dI,w2,w3,w4⟩:=x7 hc2;dsimp only[a0];refine fT fun K hK=>?_;generalize O:Hp.set (Hp.alloc j _) j.next _=Ha
 have na:Ha.next=j.next+1:=by rw[<-O];rfl
 have oa:∀q,q<j.next->Ha.get q=j.get q:=fun q I=>Xk
 have ga:Ha.get j.next=some (.cells [.int .i64 4,.ay [],.ay [],.int .i64 0,.int .i64 0,.int .i64 0,.ay [],.int .i64 0,.ao,v0,v1,v2,v3,v4,.ao,.ao,.ao] 0 true):=by rw[<-O,aQ,ai rfl]
 clear O;refine qj ?_;refine a8 ?_ (D8 hG (hst ac) 3 ac ac lo Ha r ((bC f 4 1 Y).2,cy (c+1)) (hr4.keep ac fun q I=>oa q ac) xN);rintro tv H5 ⟨Z,hr5,n5,o5⟩;obtain⟨t1,t2⟩:=Z.one;have g5:H5.get j.next=some (.cells [.int .i64 4,.ay [],.ay [],.int .i64 0,.int .i64 0,.int .i64 0,.ay [],.int .i64 0,.ao,v0,v1,v2,v3,v4,.ao,.ao,.ao] 0 true):=by rw[o5 _ ac ac];exact ga
 have g6:H5.get H.next=some qr:=by rw[o5 _ ac ac,oa _ ac,o4 _ ac ac];exact gt
 have e46:(H.next == j.next)=false:=aZ ac;have e64:(j.next == H.next)=false:=aZ ac;dsimp only[a0];refine dX ?_;refine⟨aE,_,(by(try simp only[aK,bb,Nat.reduceBEq,tyF,dR,eh, *]);first|done|with_reducible rfl),?_⟩;try simp only[aD]
 rw[ah ac,ah ac,ah ac,ai ac]at hR;subst hR;have hk5:∀q,Ha.next<=q->q<H5.next->((H5.set j.next (.cells [.int .i64 4,.ay [],.ay [],.int .i64 0,.int .i64 0,.int .i64 0,.ay [],.int .i64 0,.ao,v0,v1,v2,v3,v4,.ao,tv,.ao] 0 true)).set H.next (.cells [.int .i64 4,.ay [],.ay [],.int .i64 0,.int .i64 0,.int .i64 0,.ay [],.int .i64 0,.ao,v0,v1,v2,v3,v4,.ao,tv,.ao] 0 true)).get q=H5.get q:=fun q C L=>Ji
 refine zK rfl (by simp only[oX,pO,w0,dI,w2,w3,w4,t1,fV];rfl) (zI (n:=8+k) 4 [] [] 0 x5 ((hc3.up ac).bC (fun q _ I=>ac) eZ fun q C L=>by rw[aQ,ah ac,aQ,ah ac,o5 _ ac ac,oa _ ac]) .ao (Z.keep (fun q _ I=>ac) eZ fun q C L=>hk5 q C L).rd .ao) ?_ ?_ ?_
 .exact hr5.keep eZ fun q I=>Ji
 .simp only[bK];omega
 .intro q C L;rw[aQ,ah ac,aQ,ah ac,o5 _ ac L,oa _ ac,o4 _ ac L,ot _ L];exact o2' q C L
set_option maxRecDepth 100000 in
theorem zl6{lG:qH}(hG:zf3 lG){deep:Nat}{C:qA}(hst:deep<=2->sT lG k f (deep+1))(hat:AtT f deep lo H H2 r C c q m E2)(hn0:¬q<6)(hn1:¬q<8)(hn2:¬q<10)(hn3:¬q<12)(hn4:¬q<14)(hp0:q<15):bX prog (aA pls lG) 58 156 pZ E2 H2 (rc k f deep lo H r C c q m):=by
 obtain⟨hd,hrl,hlo,n2,g2,o2',hr2,hL1,hm,hqd,k0,k1,k2,k6,k8,k9,k10⟩:=hat;have hkeep:(aA pls lG).keep 58=false:=rfl;have hq2:(2:Int)≠0:=aF;have hlen0:((cB f).length:Int)≠0:=by rcases wq f with h|h<;>rw[h]<;>decide
 obtain⟨hi0,hix⟩:=uY (cB f) hlen0 hm.1 [];have hxs:=ww hm.1;have hxa:=wx hm.1;have hxf:=x6 hm.1;have er:(H.next == r)=false:=aZ ac;have e41:=ft f 4 1 C;have e50:=ft f 5 0 C;have e32:=ft f 3 2 C;have hwd:IntKind.wrap .i64 ((deep:Int)+1)=((deep+1:Nat):Int):=uw ac;unfold rc;generalize hR:ir (u5 f k deep) f C c q m=R;rw[ir]at hR;dsimp only[pZ,r5,uZ];repeat' (first
  |(apply ay ?_;clear hK K)|apply aT ?_|(apply a2 ?_ ?_<;>(intro hb hbp;try(cases hb;done)))|(apply az fun K hK=>?_)|(apply bV 24 [(3,14),(6,14),(7,14),(11,14),(13,14)] fun K hK=>?_)|(apply bB ?_;try intro _)|(apply bY ?_ ?_<;>clear hK K)|fail)
 repeat' (first
  |(apply ay ?_;clear hK K)|apply a9 ?_|(apply az fun K hK=>?_)|(apply bB ?_;try intro _)|(apply bY ?_ ?_<;>clear hK K)|fail)
 .exact bM
 generalize O:Hp.set (Hp.alloc (Hp.alloc _ _) _) _ _=Ha;have na:Ha.next=H.next+3:=by rw[<-O];simp only[bK,aS];omega
 have oa:∀q,q<H.next->q≠r->Ha.get q=H.get q:=fun q L Z=>by
  rw[<-O,aQ,ah ac,aL,ah iF,aL,ah ac];exact o2' q L Z
 have gz:Ha.get H.next=some qr:=by
  rw[<-O,aQ,ah ac,aL,ah iF,aL,ah ac];exact g2
 have hra:jL lo Ha r C c:=by
  rw[<-O];exact hr2.keep mL fun q hq=>by rw[aQ,ah ac,aL,ah iF,aL,ah ac]
 have ga:Ha.get (H.next+2)=some (.cells [.int .i64 6,.ay ((cB f).getD (m.tmod (cB f).length).toNat []),.ay (mP m),.int .i64 0,.int .i64 0,.int .i64 0,.ay [],.int .i64 0,.ao,.int .i64 0,.int .i64 0,.ay [],.int .i64 0,.ao,.ao,.ao,.ao] 0 true):=by rw[<-O,aQ,ai ac]
 clear O;have htm:0<=m.tmod 2/\m.tmod 2<2:=Iv hm.1;have hw2:IntKind.wrap .i64 (2-m.tmod 2)=2-m.tmod 2:=fN ac ac;generalize hcnt:(2-m.tmod 2).toNat=V at *;have hcn:2-m.tmod 2=(V:Int):=ac;rw[hcn]at hw2;refine cP [0,1,6,9,13] [H.next] 14 V (fun j E H'=>∃v es z,H'.get (H.next+2)=some (.cells [.int .i64 6,.ay ((cB f).getD (m.tmod (cB f).length).toNat []),.ay (mP m),.int .i64 0,.int .i64 0,.int .i64 0,.ay [],.int .i64 0,.ao,.int .i64 0,.int .i64 0,.ay [],.int .i64 0,.ao,v,.ao,.ao] 0 true)/\eN (fun q=>H.next+3<=q) 4 H' 5 v (es.map Ex.cells)/\jL lo H' r z c/\(∀q,q<H.next->q≠r->H'.get q=H.get q)/\es.length=j/\z.length<=C.length/\iI f V C=(es++(iI f (V-j) z).1,(iI f (V-j) z).2)) eE ⟨.ao,[],C,ga,.inl ⟨rfl,rfl⟩,hra,oa,rfl,aG _,aB⟩ ?_;clear ga hra oa g2 hr2 o2';rintro j E3 H3 hj hcE hrH hnH hsI ⟨v,es,z,g3,I,hr3,o3,hel,hLj,hJ⟩;(try simp only[bz,a7,aV,aK,bb,Nat.reduceBEq,Nat.reduceAdd, *]at hcE);(try simp only[bz,a7,aV, *]at hrH);(try simp only[aS,bK,cL,bR,Nat.reduceAdd]at hnH);have hB0:(H.next == H3.next)=false:=aZ ac;have hC0:(H3.next == H.next)=false:=aZ ac;have hle:H.next+3<=H3.next:=ac
 have e02:(H.next == H.next+2)=false:=aZ ac;have e20:(H.next+2 == H.next)=false:=aZ ac;obtain⟨v1,v2⟩:=I.one;repeat' (first
  |(apply ay ?_;clear hK K)|apply a9 ?_|(apply bU ?_ ?_<;>(intro hb hbp;try(cases hb;done)))|(apply az fun K hK=>?_)|(apply bV 28 [(1,4),(1,6),(5,6)] fun K hK=>?_)|(apply bB ?_;try intro _)|fail)
 .have hlt:j<V:=by omega
  refine qk ?_;refine a8 ?_ (ow hG 3 f 2 ac ac lo H3 r z c hr3 ac);rintro v' Y ⟨⟨cs,rfl,hc1,hc2,hc3⟩,hr4,n4,o4⟩;have hl4:=ft f 3 2 z;have g4:Y.get (H.next+2)=some (.cells [.int .i64 6,.ay ((cB f).getD (m.tmod (cB f).length).toNat []),.ay (mP m),.int .i64 0,.int .i64 0,.int .i64 0,.ay [],.int .i64 0,.ao,.int .i64 0,.int .i64 0,.ay [],.int .i64 0,.ao,v,.ao,.ao] 0 true):=by rw[o4 _ ac ac];exact g3
  have g40:Y.get H.next=some qr:=by rw[o4 _ ac ac];exact hrH
  have kb:=fun H=>Ng H hc1 hc2;have hvq:∀q o m z',v=.sl q o m z'->H.next+3<=q/\q<H3.next:=fun q o m z' e=>by
   rcases I with⟨rfl,_⟩|⟨q',imm,rows,rfl,e1,e2,_⟩
   .cases e
   .simp only[AV.sl.injEq]at e;rw[<-e.1];exact⟨e1,e2⟩
  have ob:∀q,q<Y.next->(Y.alloc (.cells cs 0 true)).get q=Y.get q:=fun q hq=>dT
  have J:eN (fun q=>H.next+3<=q) 4 (Y.alloc (.cells cs 0 true)) 5 v (es.map Ex.cells):=I.keep (fun q _ h=>h) iF fun q L Z=>by rw[ob _ ac,o4 q Z ac]
  have gcs:(Y.alloc (.cells cs 0 true)).get Y.next=some (.cells cs 0 true):=fw
  have g4b:(Y.alloc (.cells cs 0 true)).get (H.next+2)=some (.cells [.int .i64 6,.ay ((cB f).getD (m.tmod (cB f).length).toNat []),.ay (mP m),.int .i64 0,.int .i64 0,.int .i64 0,.ay [],.int .i64 0,.ao,.int .i64 0,.int .i64 0,.ay [],.int .i64 0,.ao,v,.ao,.ao] 0 true):=by rw[ob _ ac];exact g4
  obtain⟨v5,H5,cI,s5,n5,f5,q5⟩:=eN.push (P:=prog) (t:=68) underlying68 LB Rk Rl rfl ax J iF (r:=Y.next) (imm:=0) (row:=cs) (w:=(bC f 3 2 z).1.cells) gcs hc1 hc2 (hc3.bC (fun q L Z=>⟨ac,fun o m z' e=>by have:=(hvq q o m z' e).2;omega⟩) (dg _) fun q L Z=>ob q Z) Iq Iq;simp only[aS]at n5 f5;have o5:∀q,q<Y.next->q<H.next+3->H5.get q=Y.get q:=fun q L Z=>by rw[f5 q ac (fun o m z' e=>by have:=(hvq q o m z' e).1;omega),ob q L]
  have g5:H5.get (H.next+2)=some (.cells [.int .i64 6,.ay ((cB f).getD (m.tmod (cB f).length).toNat []),.ay (mP m),.int .i64 0,.int .i64 0,.int .i64 0,.ay [],.int .i64 0,.ao,.int .i64 0,.int .i64 0,.ay [],.int .i64 0,.ao,v,.ao,.ao] 0 true):=by rw[o5 _ ac ac];exact g4
  have n5':Y.next+2<=H5.next:=ac
  obtain⟨p1,p2⟩:=s5.one;clear f5 q5 I J hr3;dsimp only[a0];repeat' (first
   |(apply ay ?_;clear hK K)|apply a9 ?_|(apply az fun K hK=>?_)|(apply bB ?_;try intro _)|(apply bY ?_ ?_<;>clear hK K)|fail)
  .exact bM
  .have o6:∀q,q≠H.next+2->(H5.set (H.next+2) (.cells [.int .i64 6,.ay ((cB f).getD (m.tmod (cB f).length).toNat []),.ay (mP m),.int .i64 0,.int .i64 0,.int .i64 0,.ay [],.int .i64 0,.ao,.int .i64 0,.int .i64 0,.ay [],.int .i64 0,.ao,v5,.ao,.ao] 0 true)).get q=H5.get q:=fun q hq=>by rw[aQ,ah hq]
   have g60:H5.get H.next=some qr:=by rw[o5 _ ac ac];exact g40
   refine⟨ac,(by simp only[bz,a7,aV,aK,bb,Nat.reduceBEq,Nat.reduceAdd, *]),(by simp only[bz,a7,aV,aK,bb, *]),b8,(by simp only[aK,Nat.reduceBEq, *];exact il (n:=V) ac ac),?_⟩;refine⟨v5,es++[(bC f 3 2 z).1],(bC f 3 2 z).2,iW,by rw[rF];exact s5.keep (fun q _ h=>h) eZ fun q L Z=>o6 q ac,hr4.keep eZ fun q hq=>by rw[o6 q ac,o5 q ac ac],fun q L Z=>by rw[o6 q ac,o5 q ac ac,o4 q ac Z,o3 q L Z],by simp[hel],ac,?_⟩;rw[hJ,show V-j=(V-(j+1))+1 by omega,iI];simp
 .have hje:j=V:=by omega
  subst hje;refine dX ?_;refine⟨aE,_,(by(try simp only[aK,bb,Nat.reduceBEq,tyF,dR,eh, *]);first|done|with_reducible rfl),?_⟩;try simp only[aD]
  rw[ah ac,ah ac,ah ac,ah ac,ah ac,ai ac,hJ,rz]at hR;subst hR;simp only[iI,bq];refine zK rfl (by simp only[oX,pO,v1,fV];rfl) (zI (n:=8+k) 6 _ _ 0 x5 x5 ((I.keep (fun q _ hq=>ac) eZ fun q L Z=>kK).rd.up ac) .ao .ao) ?_ ?_ ?_
  .exact hr3.keep eZ fun q hq=>kK
  .simp only[bK];omega
  .intro q L Z;rw[aQ,ah ac];exact o3 q L Z
end
section
def tyG5.tyF:=ad @cG (ad @eG (ad @ey (ad @jx (ad @i7 (ad @jh (ad @iC (ad @kg (ad @AE (ad @Vl (@sw))))))))))
open tyG5
set_option maxRecDepth 100000 in
theorem zl7(C:zf3 J){deep:Nat}(hd:deep<=3)(V:deep<=2->sT J k f (deep+1)):sT J (k+1) f deep:=by
 intro lo H r s O hL;have hw:zd0 (aA pls J) 58:=C.plain cN;have hnx:zd0 (aA pls J) 32:=C.plain cN;have hkeep:(aA pls J).keep 58=false:=rfl;have hrl:=O.1;have hlo:=O.2.1;have hq16:(16:Int)≠0:=aF;have hq2:(2:Int)≠0:=aF;have z:((cB f).length:Int)≠0:=by rcases wq f with h|h<;>rw[h]<;>decide
 rw[gZ,x4];refine qe hw func58 uZ ?_;dsimp only[uZ,qd,a1,Nat.reduceAdd];refine fT fun K hK=>?_;refine qj ?_;refine a8 ?_ (In hnx (O.keep (dg _) fun q hq=>dT) hL);rintro v H2 ⟨rfl,hr2,n2,o2⟩;simp only[aS]at n2;have g2:H2.get H.next=some qr:=by rw[o2 _ ac,aL,ai rfl]
 have o2':∀q,q<H.next->q≠r->H2.get q=H.get q:=fun q h1 h2=>by rw[o2 q h2,aL,ah ac]
 have hL1:=ou s.1;generalize (bO s.1).1=n at *;generalize (bO s.1).2=L1 at *;obtain⟨sL,c⟩:=s;simp only[]at *;have hq:=mO (n:=n) (m:=16) ac ac;have hm:=mO (n:=cy (n.tdiv 16)) (m:=1000) ac ac;obtain⟨hi0,hix⟩:=uY (cB f) z hm.1 [];have hxs:=ww hm.1;have hxa:=wx hm.1;have hxf:=x6 hm.1;clear o2;dsimp only[a0];repeat' (first
  |(apply ay ?_;clear hK K)|apply a9 ?_|(apply fq ?_;first|refine Rx.k (UX C.nms _ _) ?_|refine Rx.k (xV C.pick _ 1000 aF _) ?_)|(apply az fun K hK=>?_)|fail)
 refine qj ?_;refine a8 ?_ (xV C.pick n 16 aF _);rintro _ _ ⟨rfl,rfl⟩;dsimp only[a0];refine Rx.o ?_;refine CH (hK _ _ ?_);clear hK K;dsimp only[oJ,uu];generalize cK n 16=q0 at *;generalize cK (cy (n.tdiv 16)) 1000=m at *;obtain⟨lv,hgr,hlen⟩:=hr2.len;rename_i H2;simp only[sG,xo,aN];refine Ap ?_;refine Ap ?_;refine az fun K j=>?_;have hK:∀I H3,(I.at 0=.ptr r 0/\I.at 1=.int .i64 f/\I.at 2=.int .i64 deep/\I.at 6=.ptr H.next 0/\I.at 8=gV (cB f)/\I.at 9=.int .i64 m/\I.at 10=.int .i64 q0/\(∃b,I.at 44=.bool b/\(b=true↔(((2:Int)<deep/\8<=q0/\q0<12)\/(10<=c/\10<=q0))))/\H3=H2)->K I H3:=by
  rintro I H3 ⟨k0,k1,k2,k6,k8,k9,L,⟨b,k44,hb⟩,rfl⟩;apply j;clear j K;dsimp only[oJ,uu];have Y:zH deep c q0=if ((2:Int)<deep/\8<=q0/\q0<12)\/(10<=c/\10<=q0)then 0 else q0:=rfl
  generalize zH deep c q0=q at *;have hqr:0<=q/\q<16:=by rw[Y];split<;>omega
  have hqd:8<=q->q<12->deep<=2:=by rw[Y];split<;>omega
  refine zje (fun E' H'=>E'.at 0=.ptr r 0/\E'.at 1=.int .i64 f/\E'.at 2=.int .i64 deep/\E'.at 6=.ptr H.next 0/\E'.at 8=gV (cB f)/\E'.at 9=.int .i64 m/\E'.at 10=.int .i64 q/\H'=H3) ?_ ?_
  .cases b with
   |true=>
    rw[ai (hb.1 rfl)]at Y;refine BT (fun hb hbp=>?_);exact⟨rfl,eE,eE,eE,eE,eE,eE,Lo,rfl⟩
   |false=>
    rw[ah (fun h=>by have:=hb.2 h;cases this)]at Y;refine BT (fun hb hbp=>?_);exact⟨rfl,eE,eE,eE,eE,eE,eE,(by first|(simp only[*];done)|rfl),rfl⟩
  clear k0 k1 k2 k6 k8 k9 L k44 hb Y hq;rintro E3 H' ⟨k0,k1,k2,k6,k8,k9,L,rfl⟩;have Z:AtT f deep lo H H' r L1 c q m E3:=⟨hd,hrl,hlo,n2,g2,o2',hr2,ac,hm,hqd,k0,k1,k2,k6,k8,k9,L⟩;by_cases c1:q<6
  .exact zl0 C V Z c1
  by_cases c2:q<8
  .exact zl1 C V Z c1 c2
  by_cases c3:q<10
  .exact zl4 C V Z c1 c2 c3
  by_cases c4:q<12
  .exact zl5 C V Z c1 c2 c3 c4
  by_cases c5:q<14
  .exact zl2 C V Z c1 c2 c3 c4 c5
  by_cases c6:q<15
  .exact zl6 C V Z c1 c2 c3 c4 c5 c6
  exact zl3 C V Z c1 c2 c3 c4 c5 c6
 clear j;repeat' (first
  |(apply ay ?_;clear hK K)|apply a9 ?_|(apply gL ?_ ?_<;>(intro hg hgp;try(cases hg;done)))|fail)
 all_goals
  refine⟨eE,eE,eE,eE,eE,eE,eE,⟨_,eE,?_⟩,rfl⟩;first
  |exact⟨fun _=>ac,fun _=>rfl⟩
  |exact⟨fun h=>(by cases h),fun h=>(by omega:False).elim⟩
  |exact⟨fun h=>by(have h:=Oa h;omega),fun h=>jT ac⟩
theorem Xp{J:qH}(C:zf3 J)(f:Int):∀(k Y:Nat),4<=Y+k->Y<=3->sT J k f Y
 |0,Y,h1,h2=>by omega
 |k+1,Y,h1,h2=>zl7 C h2 fun h=>Xp C f k (Y+1) ac ac
end
end Go.Proofs.YtbflaciihaijgaaGreat
