/- Parts: GOk, GRg, GSz, SpecC, Std, GX, KuC, AbRaw, RawP, RawN. -/
import Derived.Test.YtpbcimfiofmoeaaGreatRCR
import Derived.Test.YtpbcimfiofmoeaaGreatRows
set_option linter.unusedSimpArgs false
set_option linter.unusedVariables false
set_option linter.unusedSectionVars false
set_option linter.defProp false
set_option maxHeartbeats 32000000
namespace Go.Ab
set_option maxRecDepth 20000
open Go
theorem NR{P:Prop}(h:P:=by simp only[mw,gV,iL,and_true,true_and];exact⟨rL,a.1⟩):P:=h
def Ge:=@List.sum_cons
end Go.Ab
namespace Go.Proofs.YtpbcimfiofmoeaaGreat
set_option maxRecDepth 20000
open Go Go.Ab
section
def yH:List (List UInt8):=[[97],[98]]
theorem NS(f:Int){m:Int}(h:0<=m):(zeD f).getD (m.tmod (zeD f).length).toNat []∈zeD f:=by
 have hl:((zeD f).length:Int)≠0:=by unfold zeD;split<;>simp
 have:=(qp (zeD f) hl h []).2;exact lw this
theorem NT(f:Int){s:List UInt8}(h:s∈zeD f):zfG s=true/\ze2 (zeD f) s=true:=by
 unfold zeD at h⊢;split at h<;>simp only[jC]at h
 .rename_i e;rw[aE e];rcases h with rfl|rfl|rfl|rfl<;>exact⟨aC,aC⟩
 .rename_i e;rw[ah e];rcases h with rfl|rfl<;>exact⟨aC,aC⟩
theorem NU(m:Int):zfG (rF m)=true/\ze2 yH (rF m)=true:=by
 unfold rF;split<;>exact⟨aC,aC⟩
theorem zc3(m:Int):zfG (jX m)=true:=by
 unfold jX;split<;>kernel_rfl
structure ExOk (f:Int) (k:Nat) (x:Ex):Prop where
 wf:fI x=true
 df:eZ (zeD f) yH x=true
 dp:zfb x<=k
theorem sX(f:Int):∀(k deep:Nat) (L:List Int),5<=deep+k->deep<=4->ExOk f k (zeh f k deep L).1
 |0,deep,L,h1,h2=>by omega
 |k+1,deep,L,h1,h2=>by
  have ih:deep<=3->∀L,ExOk f k (zeh f k (deep+1) L).1:=fun hd L=>sX f k (deep+1) L ac ac;have hq:=zfP (n:=(zes L).1) (m:=16) ac ac;have hm:=zfP (n:=cq ((zes L).1.tdiv 16)) (m:=1000) ac ac;simp only[zeh];generalize zei (zes L).1 16=q at hq⊢;generalize zei (cq ((zes L).1.tdiv 16)) 1000=m at hm⊢;split
  .split
   .obtain⟨zfm,n2⟩:=NT f (NS f hm.1);generalize (zeD f).getD (m.tmod (zeD f).length).toNat []=nm at zfm n2⊢;refine⟨?_,?_,by simp[zfb,kS]⟩
    .simp[fI,fO,qh,Ex.kind,Ex.kids,Ex.n,Ex.op,Ex.name,zfm]
    .simp[eZ,zfA,py,Ex.kind,Ex.name,n2]
   .exact⟨by simp[fI,fO,qh,Ex.kind,Ex.kids,Ex.n,Ex.op,Ex.name],by simp[eZ,zfA,py,Ex.kind,Ex.name],by simp[zfb,kS]⟩
  .rename_i hn;have hd:deep<=3:=ac;have ih:=ih hd;obtain⟨a1,a2⟩:=NU m;split
   .have i1:=ih (zes L).2;refine⟨?_,?_,?_⟩
    .simp[fI,fO,qh,Ex.kind,Ex.kids,Ex.n,Ex.op,Ex.name,a1,i1.wf]
    .simp[eZ,zfA,py,Ex.kind,Ex.name,a2,i1.df]
    .have:=i1.dp;simp only[zfb,kS];omega
   .split
    .have i1:=ih (zes L).2;have i2:=ih (zeh f k (deep+1) (zes L).2).2;have i3:=ih (zeh f k (deep+1) (zeh f k (deep+1) (zes L).2).2).2;refine⟨?_,?_,?_⟩
     .simp[fI,fO,qh,Ex.kind,Ex.kids,Ex.n,Ex.op,Ex.name,i1.wf,i2.wf,i3.wf]
     .simp[eZ,zfA,py,Ex.kind,Ex.name,i1.df,i2.df,i3.df]
     .have:=i1.dp;have:=i2.dp;have:=i3.dp;simp only[zfb,kS];omega
    .split
     .have i1:=ih (zes L).2;have ho:wo m=20\/wo m=21:=by unfold wo;split<;>simp
      refine⟨?_,?_,?_⟩
      .rcases ho with ho|ho<;>simp[fI,fO,qh,Ex.kind,Ex.kids,Ex.n,Ex.op,Ex.name,i1.wf,ho]
      .simp[eZ,zfA,py,Ex.kind,Ex.name,i1.df]
      .have:=i1.dp;simp only[zfb,kS];omega
     .have i1:=ih (zes L).2;have i2:=ih (zeh f k (deep+1) (zes L).2).2;have t1:=BK 15 hm.1;have t2:=uj m (show(0:Int)<15 by omega);have ho:qY (cq (4+m.tmod 15))=true:=by
       unfold cq;rw[zft ac ac];simp only[qY,cJ,jt];omega
      refine⟨?_,?_,?_⟩
      .simp[fI,fO,qh,Ex.kind,Ex.kids,Ex.n,Ex.op,Ex.name,i1.wf,i2.wf,ho]
      .simp[eZ,zfA,py,Ex.kind,Ex.name,i1.df,i2.df]
      .have:=i1.dp;have:=i2.dp;simp only[zfb,kS];omega
theorem NV(f:Int):∀(n:Nat) (L:List Int),fO (zfH f n L).1=true/\zfA (zeD f) yH (zfH f n L).1=true/\((zfH f n L).1.any fun e=>decide ((20:Int)<zfb e))=false/\(zfH f n L).1.length=n
 |0,_=>⟨rfl,rfl,rfl,rfl⟩
 |n+1,L=>by
  obtain⟨h1,h2,h3,h4⟩:=NV f n (zeh f 3 2 L).2;have h:=sX f 3 2 L ac ac;have hd:¬(20:Int)<zfb (zeh f 3 2 L).1:=by have:=h.dp;omega
  refine⟨?_,?_,?_,?_⟩
  .rw[zfH,fO,h.wf,h1];rfl
  .rw[zfH,zfA,h.df,h2];rfl
  .rw[zfH,qV,h3,pd hd];rfl
  .rw[zfH,fj,h4]
structure ScG (f:Int) (c:Sc):Prop where
 vars:c.vars=zeD f
 an:c.an=yH
 to:∀m:Int,0<=m->0<=zfc c.p.funcs (jX m) 0/\((2-m.tmod 2).toNat=um c.p (jX m))
structure StOk (c:Sc) (k:Nat) (s:zeK) (x:St) (t:zeK):Prop where
 wf:mU x=true
 df:hY c false x=true
 ar:hY c true x=true
 dp:od x=false
 n:zfm x+t.1.length<=s.1.length
 w:(zfp x:Int)+s.2=t.2
 wb:t.2<=10
 m:∀d,zeX x d<=d+k
structure StsOk (c:Sc) (k:Nat) (s:zeK) (l:List St) (t:zeK):Prop where
 wf:fY l=true
 df:zfd c false l=true
 ar:zfd c true l=true
 dp:j0 l=false
 n:nS l+t.1.length<=s.1.length
 w:(zfE l:Int)+s.2=t.2
 wb:t.2<=10
 m:∀d,zfO l d<=d+k
theorem Gf{c:Sc}{k:Nat}{step:zeK->St×zeK}(h:∀s:zeK,s.1≠[]->0<=s.2->s.2<=10->StOk c k s (step s).1 (step s).2):∀(n:Nat) (s:zeK),0<=s.2->s.2<=10->StsOk c k s (fT step n s).1 (fT step n s).2
 |0,s,h0,h1=>⟨rfl,rfl,rfl,rfl,by simp[fT,nS],by simp[fT,zfE],h1,fun d=>by simp[fT,zfO]⟩
 |n+1,s,h0,h1=>by
  rw[fT];by_cases hs:s.1=[]
  .rw[aE hs];exact⟨rfl,rfl,rfl,rfl,by simp[nS],by simp[zfE],h1,fun d=>by simp[zfO]⟩
  .rw[ah hs];have a:=h s hs h0 h1;have aw:=a.w;have b:=Gf h n (step s).2 ac a.wb;have bw:=b.w;have an:=a.n;have bn:=b.n;refine⟨?_,?_,?_,?_,?_,?_,b.wb,fun d=>?_⟩
   .simp only[fY,a.wf,b.wf];rfl
   .simp only[zfd,a.df,b.df];rfl
   .simp only[zfd,a.ar,b.ar];rfl
   .simp only[j0,a.dp,b.dp];rfl
   .simp only[nS];omega
   .simp only[zfE];omega
   .have:=a.m d;have:=b.m d;simp only[zfO];omega
theorem zc4(f:Int):zeroE zf4=true/\eZ (zeD f) yH zf4=true/\zfb zf4=0:=⟨by simp[zeroE,zf4,Ex.kind,Ex.n,Ex.op,Ex.name,Ex.kids],by simp[zf4,eZ,zfA,py,Ex.kind],by simp[zf4,zfb,kS]⟩
theorem ztR{f:Int}{c:Sc}(hc:ScG f c){k:Nat}{sub:Int->zeK->List St×zeK}{s:zeK}{L1:List Int}{q m:Int}(hL:L1.length<s.1.length)(hm:0<=m)(hm1:m<1000)(h0:0<=s.2)(h1:s.2<=10)(hq:10<=q->s.2<10)(hq0:0<=q)
 (hs:8<=q->q<12->1<=k/\∀(most:Int) (s:zeK),0<=s.2->s.2<=10->StsOk c (k-1) s (sub most s).1 (sub most s).2):StOk c k s (jH sub f L1 s.2 q m).1 (jH sub f L1 s.2 q m).2:=by
 obtain⟨z1,z2,z3⟩:=zc4 f;obtain⟨n1',n2'⟩:=NT f (NS f hm);obtain⟨a1,a2⟩:=NU m;have g1:=zc3 m;obtain⟨g2,g3⟩:=hc.to m hm;have e50:=sX f 5 0 L1 ac ac;have e32:=sX f 3 2 L1 ac ac;have e41:=sX f 4 1 L1 ac ac;have e43:=sX f 4 1 (zeh f 3 2 L1).2 ac ac;have l50:=zfr f 5 0 L1;have l32:=zfr f 3 2 L1;have l41:=zfr f 4 1 L1;have l43:=zfr f 4 1 (zeh f 3 2 L1).2;obtain⟨r1,r2,r3,r4⟩:=NV f (2-m.tmod 2).toNat L1;have lar:=FR f (2-m.tmod 2).toNat L1;have d50:¬(20:Int)<zfb (zeh f 5 0 L1).1:=by have:=e50.dp;omega
 have d32:¬(20:Int)<zfb (zeh f 3 2 L1).1:=by have:=e32.dp;omega
 have d41:¬(20:Int)<zfb (zeh f 4 1 L1).1:=by have:=e41.dp;omega
 have d43:¬(20:Int)<zfb (zeh f 4 1 (zeh f 3 2 L1).2).1:=by have:=e43.dp;omega
 rw[jH];generalize (zeD f).getD (m.tmod (zeD f).length).toNat []=nm at n1' n2'⊢;have hv:=hc.vars;have ha:=hc.an;by_cases c1:q<6
 .rw[aE c1];refine⟨?_,?_,?_,?_,?_,?_,h1,fun d=>?_⟩
  .simp[mU,fY,jn,fO,mT,pw,St.kind,St.thn,St.els,St.name,St.to,St.n,St.at_,St.value,St.args,n1',z1,e50.wf]
  .simp[hY,zfd,jo,zfA,lM,St.kind,St.name,St.at_,St.value,St.args,hv,ha,n2',z2,e50.df]
  .simp[hY,zfd,mg,St.kind]
  .simp[od,j0,z3,d50]
  .simp only[zfm,nS];omega
  .simp[zfp,zfE]
  .simp[zeX,zfO]
 rw[ah c1];by_cases c2:q<8
 .rw[aE c2];refine⟨?_,?_,?_,?_,?_,?_,h1,fun d=>?_⟩
  .simp[mU,fY,jn,fO,mT,pw,St.kind,St.thn,St.els,St.name,St.to,St.n,St.at_,St.value,St.args,a1,e32.wf,e43.wf]
  .simp[hY,zfd,jo,zfA,lM,St.kind,St.name,St.at_,St.value,St.args,hv,ha,a2,e32.df,e43.df]
  .simp[hY,zfd,mg,St.kind]
  .simp[od,j0,d32,d43]
  .simp only[zfm,nS];omega
  .simp[zfp,zfE]
  .simp[zeX,zfO]
 rw[ah c2];by_cases c3:q<10
 .rw[aE c3];obtain⟨hk,hsub⟩:=hs ac ac;have sa:=hsub 3 ((zeh f 4 1 L1).2,s.2) h0 h1;have saw:=sa.w;have san:=sa.n;have sb:=hsub 2 (sub 3 ((zeh f 4 1 L1).2,s.2)).2 (by simp only at saw;omega) sa.wb;have sbw:=sb.w;have sbn:=sb.n;refine⟨?_,?_,?_,?_,?_,?_,sb.wb,fun d=>?_⟩
  .simp[mU,jn,fO,mT,pr,St.kind,St.thn,St.els,St.name,St.to,St.n,St.at_,St.value,St.args,z1,e41.wf,sa.wf,sb.wf]
  .simp[hY,jo,zfA,lM,St.kind,St.name,St.at_,St.value,St.args,hv,ha,z2,e41.df,sa.df,sb.df]
  .simp[hY,mg,St.kind,sa.ar,sb.ar]
  .simp[od,z3,d41,sa.dp,sb.dp]
  .simp only[zfm];simp only at san;omega
  .simp only[zfp];simp only at saw;rw[ah ac];omega
  .have:=sa.m (d+1);have:=sb.m (d+1);simp only[zeX];omega
 rw[ah c3];by_cases c4:q<12
 .rw[aE c4];obtain⟨hk,hsub⟩:=hs ac ac;have hlt:=hq ac;have hw:cq (s.2+1)=s.2+1:=by unfold cq;rw[zft ac ac]
  rw[hw];have sa:=hsub 3 ((zeh f 4 1 L1).2,s.2+1) wx wx;have saw:=sa.w;have san:=sa.n;refine⟨?_,?_,?_,?_,?_,?_,sa.wb,fun d=>?_⟩
  .simp[mU,fY,jn,fO,mT,pr,St.kind,St.thn,St.els,St.name,St.to,St.n,St.at_,St.value,St.args,z1,e41.wf,sa.wf]
  .simp[hY,zfd,jo,zfA,lM,St.kind,St.name,St.at_,St.value,St.args,hv,ha,z2,e41.df,sa.df]
  .simp[hY,zfd,mg,St.kind,sa.ar]
  .simp[od,j0,z3,d41,sa.dp]
  .simp only[zfm,nS];simp only at san;omega
  .simp only[zfp,zfE];simp only at saw;simp only[bN];omega
  .have:=sa.m (d+1);simp only[zeX,zfO];omega
 rw[ah c4];by_cases c5:q<14
 .rw[aE c5];refine⟨?_,?_,?_,?_,?_,?_,h1,fun d=>?_⟩
  .simp[mU,fY,jn,fO,mT,pw,pr,St.kind,St.thn,St.els,St.name,St.to,St.n,St.at_,St.value,St.args,z1,e41.wf]
  .simp[hY,zfd,jo,zfA,lM,St.kind,St.name,St.at_,St.value,St.args,hv,ha,z2,e41.df]
  .simp[hY,zfd,mg,St.kind]
  .simp[od,j0,z3,d41]
  .simp only[zfm,nS];omega
  .simp[zfp,zfE]
  .simp[zeX,zfO]
 rw[ah c5];by_cases c6:q<15
 .rw[aE c6];refine⟨?_,?_,?_,?_,?_,?_,h1,fun d=>?_⟩
  .simp[mU,fY,jn,mT,pw,St.kind,St.thn,St.els,St.name,St.to,St.n,St.at_,St.value,St.args,n1',z1,g1,r1]
  .simp[hY,zfd,jo,lM,St.kind,St.name,St.to,St.at_,St.value,St.args,hv,ha,z2,n2',g2,r2]
  .have:(((zfH f (2-m.tmod 2).toNat L1).1.length:Nat):Int)=um c.p (jX m):=by rw[r4,g3]
   simp[hY,zfd,mg,St.kind,St.args,St.to,this]
  .simp only[od,j0,z3,r3];decide
  .simp only[zfm,nS];omega
  .simp[zfp,zfE]
  .simp[zeX,zfO]
 rw[ah c6];refine⟨?_,?_,?_,?_,?_,?_,h1,fun d=>?_⟩
 .have e:m<=1000000:=by omega
  simp[mU,fY,jn,fO,mT,pw,St.kind,St.thn,St.els,St.name,St.to,St.n,St.at_,St.value,St.args,z1,hm,e]
 .simp[hY,zfd,jo,zfA,lM,St.kind,St.name,St.at_,St.value,St.args,hv,ha,z2]
 .simp[hY,zfd,mg,St.kind]
 .simp[od,j0,z3]
 .simp only[zfm,nS];omega
 .simp[zfp,zfE]
 .simp[zeX,zfO]
theorem ztS{L:List Int}(h:L≠[]):(zes L).2.length<L.length:=by
 cases L with
 |nil=>exact absurd rfl h
 |cons a l=>simp[zes]
theorem StsOk.more{c:Sc}{k:Nat}{s s':zeK}{l:List St}{t:zeK}(h:StsOk c k s' l t)(h1:s'.1.length<=s.1.length)(h2:s'.2=s.2):StsOk c k s l t:=⟨h.wf,h.df,h.ar,h.dp,dr h.n h1,h2▸h.w,h.wb,h.m⟩
theorem NW{f:Int}{c:Sc}(hc:ScG f c):∀(k deep:Nat),4<=deep+k->deep<=3->∀s:zeK,s.1≠[]->0<=s.2->s.2<=10->StOk c (k-1) s (zfF f k deep s).1 (zfF f k deep s).2
 |0,deep,h1,h2=>by omega
 |k+1,deep,h1,h2=>fun s hs h0 h10=>by
  have hm:=zfP (n:=cq ((zes s.1).1.tdiv 16)) (m:=1000) ac ac;have hq:=zfP (n:=(zes s.1).1) (m:=16) ac ac;rw[zfF,sT];refine ztR hc (ztS hs) hm.1 hm.2 h0 h10 ?_ ?_ ?_
  .unfold uC;split<;>omega
  .unfold uC;split<;>omega
  .intro a b;have hd:deep<=2:=by
    unfold uC at a b;split at a<;>omega
   have e:k+1-1-1=k-1:=ac;rw[e];refine⟨ac,fun most s g0 g1=>StsOk.more (Gf (fun s hs h0 h1=>?_) _ ((zes s.1).2,s.2) g0 g1) (zgi _) rfl⟩;exact NW hc k (deep+1) ac ac s hs h0 h1
theorem NX{f:Int}{c:Sc}(hc:ScG f c){k deep:Nat}(h1:4<=deep+k)(h2:deep<=3)(most:Int){s:zeK}(h3:0<=s.2)(h4:s.2<=10):StsOk c (k-1) s (jF f k deep most s).1 (jF f k deep most s).2:=
 StsOk.more (Gf (fun s hs h0 h1'=>NW hc k deep h1 h2 s hs h0 h1') _ ((zes s.1).2,s.2) h3 h4) (zgi _) rfl
theorem NY(L:List Int):zfc [gT L,gU L] [102] 0=0/\zfc [gT L,gU L] [103] 0=1:=⟨rfl,rfl⟩
theorem NZ(f:Int)(l:List Int){F:Fu}(h:F.params++F.locals=zeD f):ScG f (i4 (zeQ l) F):=by
 refine⟨h,rfl,fun m hm=>?_⟩;have h1:=BK 2 hm;have h2:=uj m (show(0:Int)<2 by omega);show 0<=zfc [gT (l.take 60),gU (l.take 60)] (jX m) 0/\_;unfold jX;by_cases e:m.tmod 2=0
 .rw[aE e,e];exact⟨by rw[(NY _).1];omega,rfl⟩
 .rw[ah e,show m.tmod 2=1 by omega];exact⟨by rw[(NY _).2];omega,rfl⟩
theorem Gg(l:List Int):zfY (zeQ l)=0:=by
 have hl:(l.take 60).length<=60:=cT;have c0:ScG 0 (i4 (zeQ l) (gT (l.take 60))):=NZ 0 l rfl;have c1:ScG 1 (i4 (zeQ l) (gU (l.take 60))):=NZ 1 l rfl;obtain⟨L,hL⟩:∃L,l.take 60=L:=⟨_,rfl⟩;rw[hL]at hl c0 c1;have b1:StsOk (i4 (zeQ l) (gT L)) 3 ((zes L).2,0) (ib L).1 (ib L).2:=NX c0 (k:=4) (deep:=0) ac ac 5 (s:=((zes L).2,0)) aK aK;have v1:ExOk 0 4 (jp L).1:=sX 0 4 1 _ ac ac;have b1w:=b1.w;have b2:StsOk (i4 (zeQ l) (gU L)) 2 ((jp L).2,(ib L).2.2) (kC L).1 (kC L).2:=NX c1 (k:=3) (deep:=1) ac ac 3 (s:=((jp L).2,(ib L).2.2)) (by simp only at b1w⊢;omega) b1.wb;have v2:ExOk 1 4 (rJ L).1:=sX 1 4 1 _ ac ac;have b1n:=b1.n;have b2n:=b2.n;have b2w:=b2.w;have b1b:=b1.wb;have b2b:=b2.wb;simp only at b1n b2n b1w b2w;have n0:=zgi L;have zfm:(jp L).2.length<=(ib L).2.1.length:=zfr 0 4 1 _;have p1:=zfP (n:=(zes L).1) (m:=4) ac ac;have p2:=zfP (n:=cq ((zes L).1.tdiv 4)) (m:=4) ac ac;have hp:zeQ l=⟨mr L,[gT L,gU L]⟩:=by rw[zeQ,hL]
 have zeX:=b1.m 0;have m2:=b2.m 0;have d1:=v1.dp;have d2:=v2.dp;have hex:kT (zeQ l)=false:=by
  rw[hp];simp only[kT,mr,List.any_cons,List.any_nil,rp,qg,gT,gU,List.length_cons,List.length_nil,b1.dp,b2.dp,Bool.or_false,Bool.or_eq_false_iff,decide_eq_false_iff_not];refine⟨⟨⟨pd ac,?_⟩,?_⟩,?_⟩<;>omega
 have hwf:mV (zeQ l)=true:=by
  rw[hp];have q:∀s∈([[102],[103],[120],[121],[105],[106],[110],[97],[98]]:List (List UInt8)),zfG s=true:=by
   intro s hs;simp only[jC]at hs;rcases hs with rfl|rfl|rfl|rfl|rfl|rfl|rfl|rfl|rfl<;>kernel_rfl
  simp only[mV,mr,sF,nT,rq,ui,gT,gU,DM,b1.wf,b2.wf,v1.wf,v2.wf,l5,cJ];simp[q]
 have hdu:px (zeQ l)=false:=by rw[hp];kernel_rfl
 have hun:(zeQ l).funcs.any (km (zeQ l))=false:=by
  have e:(zeQ l).funcs=[gT L,gU L]:=by rw[hp]
  rw[e];have zfp:eZ (i4 (zeQ l) (gT L)).vars (i4 (zeQ l) (gT L)).an (gT L).value=true:=by rw[c0.vars,c0.an];exact v1.df
  have w2:eZ (i4 (zeQ l) (gU L)).vars (i4 (zeQ l) (gU L)).an (gU L).value=true:=by rw[c1.vars,c1.an];exact v2.df
  have x1:zfd (i4 (zeQ l) (gT L)) false (gT L).body=true:=b1.df;have x2:zfd (i4 (zeQ l) (gU L)) false (gU L).body=true:=b2.df;simp only[qV,so,km,zfp,w2,x1,x2];rfl
 have hba:(zeQ l).funcs.any (mh (zeQ l))=false:=by
  have e:(zeQ l).funcs=[gT L,gU L]:=by rw[hp]
  rw[e];have x1:zfd (i4 (zeQ l) (gT L)) true (gT L).body=true:=b1.ar;have x2:zfd (i4 (zeQ l) (gU L)) true (gU L).body=true:=b2.ar;simp only[qV,so,mh,x1,x2];rfl
 rw[zfY,hex,hwf,hdu,hun,hba];rfl
def gp(L:List Int):Prop:=∀n∈L,zf0 n
theorem yI{L:List Int}(h:gp L):zf0 (zes L).1/\gp (zes L).2:=by
 cases L with
 |nil=>exact⟨by show zf0 0;unfold zf0;omega,h⟩
 |cons a l=>exact⟨h a fm,fun n hn=>h n (gF _ hn)⟩
theorem zc7(n:Int):zf0 (cq n):=by
 unfold cq zf0;rw[IntKind.wrap_i64];omega
theorem ztT{n raw:Int}(h:zf0 raw):zf0 (mY n raw):=by
 unfold mY;split
 .have e:∀k,zf0 (sI.getD k 0):=fun k=>by
   by_cases c:k<10
   .have:∀k:_root_.Fin 10,zf0 (sI.getD k.1 0):=by unfold zf0;decide
    exact this ⟨k,c⟩
   .rw[dM,iY (by simp[sI];omega)];show zf0 0;unfold zf0;omega
  exact e _
 split
 .exact zc7 _
 .exact h
theorem uH:zf0 0:=jZ
theorem qw(f:Int):∀(k deep:Nat) (L:List Int),gp L->iK (zeh f k deep L).1/\gp (zeh f k deep L).2
 |0,deep,L,h=>⟨by simp[zeh,iK,gV,uH],h⟩
 |k+1,deep,L,h=>by
  have ih:=qw f k (deep+1);obtain⟨h1,h2⟩:=yI h;simp only[zeh];generalize zei (zes L).1 16=q;generalize zei (cq ((zes L).1.tdiv 16)) 1000=m;split
  .split
   .exact⟨by simp[iK,gV,uH],h2⟩
   .exact⟨by simp only[iK,gV,aX];exact ztT h1,h2⟩
  .have a:=ih _ h2;have b:=ih _ a.2;have c:=ih _ b.2;split
   .exact⟨by simp only[iK,gV,aX];exact⟨uH,a.1⟩,a.2⟩
   .split
    .exact⟨by simp only[iK,gV,aX];exact⟨uH,a.1,b.1,c.1⟩,c.2⟩
    .split
     .exact⟨by simp only[iK,gV,aX];exact⟨uH,a.1⟩,a.2⟩
     .exact⟨by simp only[iK,gV,aX];exact⟨uH,a.1,b.1⟩,b.2⟩
theorem N0(f:Int):∀(n:Nat) (L:List Int),gp L->gV (zfH f n L).1/\gp (zfH f n L).2
 |0,L,h=>⟨by simp[zfH,gV],h⟩
 |n+1,L,h=>by
  have a:=qw f 3 2 L h;have b:=N0 f n _ a.2;rw[zfH];exact⟨by rw[gV];exact⟨a.1,b.1⟩,b.2⟩
theorem rL:iK zf4:=by simp[zf4,iK,gV,uH]
theorem ztU{sub:Int->zeK->List St×zeK}(hs:∀most s,gp s.1->iL (sub most s).1/\gp (sub most s).2.1)(f:Int)(L1:List Int)(c q m:Int)(h:gp L1):mw (jH sub f L1 c q m).1/\gp (jH sub f L1 c q m).2.1:=by
 unfold jH;split
 .have a:=qw f 5 0 L1 h;exact⟨NR,a.2⟩
 split
 .have a:=qw f 3 2 L1 h;have b:=qw f 4 1 _ a.2;exact⟨by simp only[mw,gV,iL,lH];exact⟨a.1,b.1⟩,b.2⟩
 split
 .have a:=qw f 4 1 L1 h;have b:=hs 3 ((zeh f 4 1 L1).2,c) a.2;have d:=hs 2 (sub 3 ((zeh f 4 1 L1).2,c)).2 b.2;exact⟨by simp only[mw,gV,iL,lH];exact⟨rL,a.1,b.1,d.1⟩,d.2⟩
 split
 .have a:=qw f 4 1 L1 h;have b:=hs 3 ((zeh f 4 1 L1).2,cq (c+1)) a.2;exact⟨by simp only[mw,gV,iL,lH];exact⟨rL,a.1,b.1⟩,b.2⟩
 split
 .have a:=qw f 4 1 L1 h;exact⟨NR,a.2⟩
 split
 .have a:=N0 f (2-m.tmod 2).toNat L1 h;exact⟨by simp only[mw,gV,iL,lH];exact⟨rL,rL,a.1⟩,a.2⟩
 .exact⟨by simp only[mw,gV,iL,lH];exact⟨rL,rL⟩,h⟩
theorem Gi{step:zeK->St×zeK}(hs:∀s,gp s.1->mw (step s).1/\gp (step s).2.1):∀(n:Nat) (s:zeK),gp s.1->iL (fT step n s).1/\gp (fT step n s).2.1
 |0,s,h=>⟨by simp[fT,iL],h⟩
 |n+1,s,h=>by
  have a:=hs s h;have b:=Gi hs n _ a.2;rw[fT];split
  .exact⟨by simp[iL],h⟩
  .exact⟨by rw[iL];exact⟨a.1,b.1⟩,b.2⟩
theorem N2(f:Int):∀(k deep:Nat) (s:zeK),gp s.1->mw (zfF f k deep s).1/\gp (zfF f k deep s).2.1
 |0,deep,s,h=>⟨by simp only[zfF,mw,gV,iL,lH];exact⟨rL,rL⟩,h⟩
 |k+1,deep,s,h=>by
  have ih:=N2 f k (deep+1);rw[zfF,sT];exact ztU (fun most s hs=>Gi ih _ ((zes s.1).2,s.2) (yI hs).2) f _ _ _ _ (yI h).2
theorem N4(f:Int)(k deep:Nat)(most:Int)(s:zeK)(h:gp s.1):iL (jF f k deep most s).1/\gp (jF f k deep most s).2.1:=
 Gi (N2 f k deep) _ ((zes s.1).2,s.2) (yI h).2
theorem N8{l:List Int}(h:gp l):∀f∈(zeQ l).funcs,iL f.body/\iK f.value:=by
 have h60:gp (l.take 60):=fun n hn=>h n (El hn);have b1:=N4 0 4 0 5 ((zes (l.take 60)).2,0) (yI h60).2;have v1:=qw 0 4 1 (ib (l.take 60)).2.1 b1.2;have b2:=N4 1 3 1 3 ((jp (l.take 60)).2,(ib (l.take 60)).2.2) v1.2;have v2:=qw 1 4 1 (kC (l.take 60)).2.1 b2.2;intro f hf;simp only[zeQ,jC]at hf;rcases hf with rfl|rfl
 .exact⟨b1.1,v1.1⟩
 .exact⟨b2.1,v2.1⟩
theorem N9(f:Int)(i:Nat):((zeD f).getD i []).length<=1:=by
 have h:∀s∈zeD f,s.length<=1:=by
  intro s hs;unfold zeD at hs;split at hs<;>simp only[jC]at hs
  .rcases hs with rfl|rfl|rfl|rfl<;>simp
  .rcases hs with rfl|rfl<;>simp
 rw[dM];cases e:(zeD f)[i]? with
 |none=>simp
 |some s=>exact h s (lw e)
theorem Oa(m:Int):(rF m).length=1:=by unfold rF;split<;>rfl
theorem zda(m:Int):(jX m).length=1:=by unfold jX;split<;>rfl
def zgx:Nat->Nat
 |0=>2
 |k+1=>5+3*zgx k
theorem sY(f:Int):∀(k deep:Nat) (L:List Int),(zeh f k deep L).1.sz<=zgx k
 |0,deep,L=>by simp[zeh,Ex.sz,zfs,zgx]
 |k+1,deep,L=>by
  have ih:=sY f k (deep+1);simp only[zeh,zgx];generalize zei (zes L).1 16=q;generalize zei (cq ((zes L).1.tdiv 16)) 1000=m;split
  .split
   .have:=N9 f (m.tmod (zeD f).length).toNat;simp only[Ex.sz,zfs];omega
   .simp only[Ex.sz,zfs,fV];omega
  .split
   .have:=Oa m;have:=ih (zes L).2;simp only[Ex.sz,zfs];omega
   .split
    .have:=ih (zes L).2;have:=ih (zeh f k (deep+1) (zes L).2).2;have:=ih (zeh f k (deep+1) (zeh f k (deep+1) (zes L).2).2).2;simp only[Ex.sz,zfs,fV];omega
    .split
     .have:=ih (zes L).2;simp only[Ex.sz,zfs,fV];omega
     .have:=ih (zes L).2;have:=ih (zeh f k (deep+1) (zes L).2).2;simp only[Ex.sz,zfs,fV];omega
theorem Ob(f:Int):∀(n:Nat) (L:List Int),zfs (zfH f n L).1<=200*n
 |0,_=>by simp[zfH,zfs]
 |n+1,L=>by
  have:=Ob f n (zeh f 3 2 L).2;have:=sY f 3 2 L;have:zgx 3<=150:=aY;rw[zfH,zfs];omega
theorem ztW{sub:Int->zeK->List St×zeK}(hs:∀most s,zep (sub most s).1<=10000*nS (sub most s).1)(f:Int)(L1:List Int)(c q m:Int):(jH sub f L1 c q m).1.sz+1<=10000*zfm (jH sub f L1 c q m).1:=by
 have e5:zgx 5<=1200:=aY;have e4:zgx 4<=1200:=aY;have e3:zgx 3<=1200:=aY;have e50:=sY f 5 0 L1;have e32:=sY f 3 2 L1;have e41:=sY f 4 1 L1;have e43:=sY f 4 1 (zeh f 3 2 L1).2;have z:zf4.sz=1:=rfl;have n1':=N9 f (m.tmod (zeD f).length).toNat;have a1:=Oa m;have g1:=zda m;have r:=Ob f (2-m.tmod 2).toNat L1;have r2:(2-m.tmod 2).toNat<=4:=by
  have:-2<m.tmod 2:=by
   have:=uj (-m) (show(0:Int)<2 by omega);rw[Int.neg_tmod]at this;omega
  omega
 rw[jH];split
 .simp only[St.sz,zfm,nS,zfs,zep,fV];omega
 split
 .simp only[St.sz,zfm,nS,zfs,zep,fV];omega
 split
 .have s1:=hs 3 ((zeh f 4 1 L1).2,c);have s2:=hs 2 (sub 3 ((zeh f 4 1 L1).2,c)).2;simp only[St.sz,zfm,nS,zfs,zep,fV];omega
 split
 .have s1:=hs 3 ((zeh f 4 1 L1).2,cq (c+1));simp only[St.sz,zfm,nS,zfs,zep,fV];omega
 split
 .simp only[St.sz,zfm,nS,zfs,zep,fV];omega
 split
 .simp only[St.sz,zfm,nS,zfs,zep,fV];omega
 .simp only[St.sz,zfm,nS,zfs,zep,fV];omega
theorem Gj{step:zeK->St×zeK}(h:∀s,(step s).1.sz+1<=10000*zfm (step s).1):∀(n:Nat) (s:zeK),zep (fT step n s).1<=10000*nS (fT step n s).1
 |0,s=>by simp[fT,zep,nS]
 |n+1,s=>by
  rw[fT];split
  .simp[zep,nS]
  .have:=h s;have:=Gj h n (step s).2;simp only[zep,nS];omega
theorem Oc(f:Int):∀(k deep:Nat) (s:zeK),(zfF f k deep s).1.sz+1<=10000*zfm (zfF f k deep s).1
 |0,deep,s=>by
  have z:zf4.sz=1:=rfl;simp only[zfF,St.sz,zfm,nS,zfs,zep,fV];omega
 |k+1,deep,s=>by
  rw[zfF,sT];exact ztW (fun most s=>Gj (Oc f k (deep+1)) _ _) f _ _ _ _
theorem Od(f:Int)(k deep:Nat)(most:Int)(s:zeK):zep (jF f k deep most s).1<=10000*nS (jF f k deep most s).1:=Gj (Oc f k deep) _ _
theorem ztX(l:List Int):(zeQ l).sz<2^24:=by
 have hex:kT (zeQ l)=false:=by
  have h:=Gg l;rw[zfY]at h;cases e:kT (zeQ l)with
  |false=>rfl
  |true=>rw[aE e]at h;omega
 have b1:=Od 0 4 0 5 ((zes (l.take 60)).2,0);have b2:=Od 1 3 1 3 ((jp (l.take 60)).2,(ib (l.take 60)).2.2);have v1:(jp (l.take 60)).1.sz<=zgx 4:=sY 0 4 1 _;have v2:(rJ (l.take 60)).1.sz<=zgx 4:=sY 1 4 1 _;have e4:zgx 4<=1200:=aY;rw[zeQ]at hex⊢;generalize l.take 60=L at *;change zep (ib L).1<=10000*nS (ib L).1 at b1;change zep (kC L).1<=10000*nS (kC L).1 at b2;simp only[kT,qV,so,Ai,pO,qg,gT,gU,nQ]at hex;obtain⟨_,h1,h2⟩:=hex;have zfm:¬(200:Int)<nS (ib L).1:=h1.1.1.1.1.2;have n2:¬(200:Int)<nS (kC L).1:=h2.1.1.1.1.2;simp only[Pr.sz,zf2,iZ,mr,gT,gU,Fu.sz,zfR,mF];omega
mutual
def cE:Ex->Nat
 | .mk k _ _ _ ks=>if k=1 then 1 else if k=2 then 0 else 4+cEs ks
def cEs:List Ex->Nat
 |[]=>0
 |e::es=>cE e+cEs es
end
theorem zdd(x:Ex):cE x=if x.kind=1 then 1 else if x.kind=2 then 0 else 4+cEs x.kids:=by cases x;rw[cE];rfl
mutual
def c1:St->Nat
 | .mk k _ _ _ a v args th el=>if k=1 then cE v else if k=2 then cE a+cE v+4 else if k=3 then cE v+iM th+iM el+5 else if k=4 then 2*cE v+iM th+16 else if k=5 then cE v+1 else if k=6 then cEs args+2 else if k=7 then 2 else 0
def iM:List St->Nat
 |[]=>0
 |x::l=>c1 x+iM l
end
theorem zde(x:St):c1 x=if x.kind=1 then cE x.value else if x.kind=2 then cE x.at_+cE x.value+4 else if x.kind=3 then cE x.value+iM x.thn+iM x.els+5 else if x.kind=4 then 2*cE x.value+iM x.thn+16 else if x.kind=5 then cE x.value+1 else if x.kind=6 then cEs x.args+2 else if x.kind=7 then 2 else 0:=by cases x;rw[c1];rfl
theorem Gk{ks:List Ex}{a:Ex}(h:ks[0]?=some a):cE a<=cEs ks:=by
 match ks,h with
 |x::l,h=>
  simp only[nP,aQ]at h;subst h;rw[cEs];omega
theorem Oe{ks:List Ex}{a b:Ex}(h:ks[0]?=some a)(k:ks[1]?=some b):cE a+cE b<=cEs ks:=by
 match ks,h,k with
 |x::l,h,k=>
  simp only[nP,sc,aQ]at h k;subst h;rw[cEs];have:=Gk k;omega
theorem zdf{ks:List Ex}{a b c:Ex}(h:ks[0]?=some a)(k:ks[1]?=some b)(m:ks[2]?=some c):cE a+cE b+cE c<=cEs ks:=by
 match ks,h,k,m with
 |x::l,h,k,m=>
  simp only[nP,sc,aQ]at h k m;subst h;rw[cEs];have:=Oe k m;omega
theorem jI(n:Nd)(s:Bd):(zdS n s).2.l.length<=s.l.length+1:=NB _ _
theorem wA(c a b:Int)(s:Bd):(zet c a b s).2.l.length<=s.l.length+1:=by
 unfold zet;split
 .exact cZ _
 .exact jI _ _
theorem Gl(t v:Int)(s:Bd):(ky t v s).l.length<=s.l.length+1:=jI _ _
theorem Of(n i:Int)(s:Bd):(fQ n i s).l.length<=s.l.length+3:=by
 have a:=jI ⟨1,n,[]⟩ s;have b:=jI ⟨19,0,[i,(zdS ⟨1,n,[]⟩ s).1]⟩ (zdS ⟨1,n,[]⟩ s).2;have c:=Gl 2 (zdS ⟨19,0,[i,(zdS ⟨1,n,[]⟩ s).1]⟩ (zdS ⟨1,n,[]⟩ s).2).1 (zdS ⟨19,0,[i,(zdS ⟨1,n,[]⟩ s).1]⟩ (zdS ⟨1,n,[]⟩ s).2).2;have e:(fQ n i s).l.length<=_:=c;omega
theorem zdg(v:Int)(s:Bd):(jT v s).l.length<=s.l.length+3:=by
 have a:=jI ⟨1,0,[]⟩ s;have b:=jI ⟨16,0,[v,(zdS ⟨1,0,[]⟩ s).1]⟩ (zdS ⟨1,0,[]⟩ s).2;have c:=Gl 1 (zdS ⟨16,0,[v,(zdS ⟨1,0,[]⟩ s).1]⟩ (zdS ⟨1,0,[]⟩ s).2).1 (zdS ⟨16,0,[v,(zdS ⟨1,0,[]⟩ s).1]⟩ (zdS ⟨1,0,[]⟩ s).2).2;have e:(jT v s).l.length<=_:=c;omega
theorem qx(c:Cx):∀(n:Nat) (x:Ex) (s:Bd) (r:Int×Bd),eL c n x s=some r->r.2.l.length<=s.l.length+cE x
 |0,_,_,_,h=>by simp[eL]at h
 |n+1,x,s,r,h=>by
  have IH:=qx c n;rw[zdd];unfold eL at h;by_cases h1:x.kind=1
  .rw[aE h1]at h⊢;cases h;exact jI _ s
  rw[ah h1]at h⊢;by_cases h2:x.kind=2
  .rw[aE h2]at h⊢;obtain⟨v,_,rfl⟩:=mD.1 h;exact aM _
  rw[ah h2]at h⊢;split at h
  .simp only[gL]at h;obtain⟨k,hk,r1,h1,a,_,rfl⟩:=h;have e1:=IH _ _ _ h1;have e2:=Of a.len r1.1 r1.2;have e3:=jI ⟨23,cR (c.arrays.map (·.name)) x.name,[(fQ a.len r1.1 r1.2).state,r1.1]⟩ (fQ a.len r1.1 r1.2);have e4:=Gk hk;show(zdS _ _).2.l.length<=_;omega
  split at h
  .simp only[gL]at h;obtain⟨k0,q0,zee,h0,k1,q1,r1,h1,k2,q2,r2,h2,rfl⟩:=h;have e0:=IH _ _ _ h0;have e1:=IH _ _ _ h1;have e2':=IH _ _ _ h2;have e2:r2.2.l.length<=r1.2.l.length+cE k2:=e2';have e3:=wA zee.1 r1.1 r2.1 r2.2;have e4:=wA zee.1 r1.2.state (zet zee.1 r1.1 r2.1 r2.2).2.state (zet zee.1 r1.1 r2.1 r2.2).2;have e5:=zdf q0 q1 q2;show(zet _ _ _ _).2.l.length<=_;omega
  .simp only[ir]at h;obtain⟨k0,q0,zee,h0,h⟩:=h;have a:=IH _ _ _ h0;split at h
   .cases h;have e1:=jI ⟨x.op,0,[zee.1]⟩ zee.2;have e4:=Gk q0;show(zdS _ _).2.l.length<=_;omega
   .simp only[gL]at h;obtain⟨k1,q1,r1,h1,rfl⟩:=h;have b:=IH _ _ _ h1;have e4:=Oe q0 q1;have e5:(if x.op=7\/x.op=8 then jT r1.1 r1.2 else r1.2).l.length<=r1.2.l.length+3:=by
     split
     .exact zdg _ _
     .omega
    have e6:=jI ⟨x.op,0,[zee.1,r1.1]⟩ (if x.op=7\/x.op=8 then jT r1.1 r1.2 else r1.2);show(zdS _ _).2.l.length<=_;omega
theorem Og(c:Cx)(n:Nat):∀(l:List Ex) (s:Bd) (r:List Int×Bd),ou c n l s=some r->r.2.l.length<=s.l.length+cEs l
 |[],s,r,h=>by cases h;exact aM _
 |x::l,s,r,h=>by
  unfold ou at h;simp only[gL]at h;obtain⟨r1,h1,r2,h2,rfl⟩:=h;have a:=qx c n _ _ _ h1;have b:=Og c n l _ _ h2;rw[cEs];show r2.2.l.length<=_;omega
theorem Oh(c:Int)(a:List Int):∀(k i:Nat) (s r:Bd),ow c a k i s=some r->r.l.length<=s.l.length+k
 |0,i,s,r,h=>by cases h;exact aM _
 |k+1,i,s,r,h=>by
  unfold ow at h;simp only[ir]at h;obtain⟨x,_,y,_,h⟩:=h;have e':=Oh c a k (i+1) _ r h;have e:r.l.length<=(zet c x y s).2.l.length+k:=e';have:=wA c x y s;omega
theorem Oi(base:Int):∀(ws:List Nat) (j:Nat) (s:Bd),(jU base ws j s).l.length<=s.l.length+ws.length
 |[],j,s=>aM _
 |w::ws,j,s=>by
  rw[MH];have a:=Oi base ws (j+1) { (zdS ⟨3,base+j,[]⟩ s).2 with vars:=(zdS ⟨3,base+j,[]⟩ s).2.vars.set w (zdS ⟨3,base+j,[]⟩ s).1};have b:=jI ⟨3,base+j,[]⟩ s;rw[fj];have e:({ (zdS ⟨3,base+j,[]⟩ s).2 with vars:=(zdS ⟨3,base+j,[]⟩ s).2.vars.set w (zdS ⟨3,base+j,[]⟩ s).1}:Bd).l.length=(zdS ⟨3,base+j,[]⟩ s).2.l.length:=rfl;omega
theorem Oj(lp c:Int)(old:List Int):∀(ws:List Nat) (j:Nat) (s:Bd),(jV lp c old ws j s).l.length<=s.l.length+2*ws.length
 |[],j,s=>aM _
 |w::ws,j,s=>by
  rw[MI];have a:=Oj lp c old ws (j+1) { (zet c (zdS ⟨25,j,[lp]⟩ s).1 (old.getD w 0) (zdS ⟨25,j,[lp]⟩ s).2).2 with vars:=(zet c (zdS ⟨25,j,[lp]⟩ s).1 (old.getD w 0) (zdS ⟨25,j,[lp]⟩ s).2).2.vars.set w (zet c (zdS ⟨25,j,[lp]⟩ s).1 (old.getD w 0) (zdS ⟨25,j,[lp]⟩ s).2).1};have b:=jI ⟨25,j,[lp]⟩ s;have d:=wA c (zdS ⟨25,j,[lp]⟩ s).1 (old.getD w 0) (zdS ⟨25,j,[lp]⟩ s).2;rw[fj];have e:({ (zet c (zdS ⟨25,j,[lp]⟩ s).1 (old.getD w 0) (zdS ⟨25,j,[lp]⟩ s).2).2 with vars:=(zet c (zdS ⟨25,j,[lp]⟩ s).1 (old.getD w 0) (zdS ⟨25,j,[lp]⟩ s).2).2.vars.set w (zet c (zdS ⟨25,j,[lp]⟩ s).1 (old.getD w 0) (zdS ⟨25,j,[lp]⟩ s).2).1}:Bd).l.length=(zet c (zdS ⟨25,j,[lp]⟩ s).1 (old.getD w 0) (zdS ⟨25,j,[lp]⟩ s).2).2.l.length:=rfl;omega
theorem Ok(c:Cx):∀n:Nat,(∀x s r,oz c n x s=some r->s.vars.length<=4->r.l.length<=s.l.length+c1 x)/\(∀l s r,ij c n l s=some r->s.vars.length<=4->r.l.length<=s.l.length+iM l)/\(∀x s r,pE c n x s=some r->s.vars.length<=4->r.l.length<=s.l.length+(2*cE x.value+iM x.thn+16))
 |0=>⟨fun _ _ _ h=>by simp[oz]at h,fun _ _ _ h=>by simp[ij]at h,fun _ _ _ h=>by simp[pE]at h⟩
 |n+1=>by
  obtain⟨I1,I2,I3⟩:=Ok c n;refine⟨fun x s r h hv=>?_,fun l s r h hv=>?_,fun x s r h hv=>?_⟩
  .rw[zde];unfold oz at h;by_cases k1:x.kind=1
   .rw[aE k1]at h⊢;simp only[ir]at h;obtain⟨r1,h1,h⟩:=h;split at h
    .cases h;exact qx c n _ _ _ h1
    .cases h
   rw[ah k1]at h⊢;by_cases k2:x.kind=2
   .rw[aE k2]at h⊢;simp only[gL]at h;obtain⟨i,h1,v,h2,a,_,rfl⟩:=h;have e1:=qx c n _ _ _ h1;have e2:=qx c n _ _ _ h2;have e3:=Of a.len i.1 v.2;have e4:=jI ⟨28,cR (c.arrays.map (·.name)) x.name,[(fQ a.len i.1 v.2).state,i.1,v.1]⟩ (fQ a.len i.1 v.2);show(zdS _ _).2.l.length<=_;omega
   rw[ah k2]at h⊢;by_cases k3:x.kind=3
   .rw[aE k3]at h⊢;simp only[gL]at h;obtain⟨v,h1,a,h2,b,h3,m,h4,rfl⟩:=h;have e1:=qx c n _ _ _ h1;have v1:=(zfx c n _ _ _ h1).v;have e2:=I2 _ _ _ h2 (by rw[v1];exact hv);have e3':=I2 _ _ _ h3 (by show v.2.vars.length<=4;rw[v1];exact hv);have e3:b.l.length<=a.l.length+iM x.els:=e3';have v3':=((ml c n).2.1 _ _ _ h3).2;have v3:b.vars.length=v.2.vars.length:=v3';have e4:=Oh _ _ _ _ _ _ h4;have e5:=wA v.1 a.state m.state m;rw[v1]at v3;show(zet _ _ _ _).2.l.length<=_;omega
   rw[ah k3]at h⊢;by_cases k4:x.kind=4
   .rw[aE k4]at h⊢;exact I3 _ _ _ h hv
   rw[ah k4]at h⊢;by_cases k5:x.kind=5
   .rw[aE k5]at h⊢;simp only[gL]at h;obtain⟨v,h1,rfl⟩:=h;have e1:=qx c n _ _ _ h1;have e2:=jI ⟨29,0,[v.2.state,v.1]⟩ v.2;show(zdS _ _).2.l.length<=_;omega
   rw[ah k5]at h⊢;by_cases k6:x.kind=6
   .rw[aE k6]at h⊢;simp only[ir]at h;obtain⟨av,h1,h⟩:=h;split at h
    .cases h;have e1:=Og c n _ _ _ h1;have e2:=jI ⟨30,zfc c.funcs x.to 0,av.2.state::av.1⟩ av.2;generalize zdS ⟨30,zfc c.funcs x.to 0,av.2.state::av.1⟩ av.2=q at *;have e3:=jI ⟨24,0,[q.1]⟩ ⟨q.2.l,q.2.vars,q.1,q.2.loops⟩;simp only at e3⊢;omega
    .cases h
   rw[ah k6]at h⊢;by_cases k7:x.kind=7
   .rw[aE k7]at h⊢;cases h;have e2:=jI ⟨1,0,[]⟩ s;have e3:=Gl (cq (16+x.n)) (zdS ⟨1,0,[]⟩ s).1 (zdS ⟨1,0,[]⟩ s).2;show(ky _ _ _).l.length<=_;omega
   rw[ah k7]at h⊢;cases h;exact aM _
  .unfold ij at h;cases l with
   |nil=>cases h;exact aM _
   |cons x l=>
    simp only[ir]at h;obtain⟨a,h1,h2⟩:=h;have e1:=I1 _ _ _ h1 hv;have v1:=((ml c n).1 _ _ _ h1).2;have e2:=I2 _ _ _ h2 (by rw[v1];exact hv);rw[iM];omega
  .unfold pE at h;simp only[gL]at h;obtain⟨v,h1,b,h2,t,h3,d,h4,rfl⟩:=h;have e1':=qx c n _ _ _ h1;have e1:v.2.l.length<=s.l.length+cE x.value:=e1';clear e1';have v1':=(zfx c n _ _ _ h1).v;have v1:v.2.vars=s.vars:=v1';have hb:b.length=v.2.vars.length:=M3;have hw:=NL b;rw[hb,v1]at hw;have e2:=jI ⟨3,16*(s.loops:Int),[]⟩ v.2;have v2:(zdS ⟨3,16*(s.loops:Int),[]⟩ v.2).2.vars=v.2.vars:=rfl;generalize zdS ⟨3,16*(s.loops:Int),[]⟩ v.2=q0 at *;have e3:=Oi (16*(s.loops:Int)+1) (zfS b) 0 ⟨q0.2.l,q0.2.vars,q0.1,q0.2.loops⟩;have v3:=(sR (16*(s.loops:Int)+1) (zfS b) 0 ⟨q0.2.l,q0.2.vars,q0.1,q0.2.loops⟩).2.2.1;simp only at e3 v3;have e4:=I2 _ _ _ h3 (by rw[v3,v2,v1];exact hv);have e5:=qx c n _ _ _ h4;generalize hk:zdS ⟨31,s.loops,v.2.state::((zfS b).map fun i=>v.2.vars.getD i 0)++[d.1,d.2.state]++((zfS b).map fun i=>d.2.vars.getD i 0)⟩ d.2=k;have e6:k.2.l.length<=d.2.l.length+1:=by rw[<-hk];exact jI _ _
   have e7:=jI ⟨25,0,[k.1]⟩ ⟨k.2.l,v.2.vars,k.2.state,k.2.loops⟩;simp only at e7;generalize zdS ⟨25,0,[k.1]⟩ ⟨k.2.l,v.2.vars,k.2.state,k.2.loops⟩=q at *;have e8:=wA v.1 q.1 v.2.state q.2;generalize zet v.1 q.1 v.2.state q.2=m at *;have e9:=Oj k.1 v.1 v.2.vars (zfS b) 1 ⟨m.2.l,m.2.vars,m.1,m.2.loops⟩;simp only at e9;omega
theorem Ol{L:List Int}(h:L≠[]):(zes L).2.length+1=L.length:=by
 cases L with
 |nil=>exact absurd rfl h
 |cons a l=>simp[zes]
theorem qy(f:Int):∀(k deep:Nat) (L:List Int),k+deep=5->deep<=4->cE (zeh f k deep L).1+4*(zeh f k deep L).2.length<=4*L.length
 |0,deep,L,h,hd=>by omega
 |k+1,deep,L,h,hd=>by
  have IH:=fun L (hd:¬(3:Int)<deep)=>qy f k (deep+1) L ac ac;by_cases hL:L=[]
  .subst hL;have e:zei (zes []).1 16=0:=aY;simp only[zeh];rw[e,aE (.inl aY),aE (.inl aY)];simp[cE,zes]
  .have hn:=Ol hL;simp only[zeh];generalize zei (zes L).1 16=q;generalize zei (cq ((zes L).1.tdiv 16)) 1000=m;generalize (zes L).2=L1 at *;by_cases hc:q<4\/(3:Int)<deep
   .rw[aE hc];split
    .simp only[cE,Int.reduceEq,reduceIte];omega
    .simp only[cE,Int.reduceEq,reduceIte];omega
   have hd3:¬(3:Int)<deep:=fun e=>hc (.inr e);rw[ah hc];split
   .have a:=IH L1 hd3;simp only[cE,cEs,Int.reduceEq,reduceIte];omega
   split
   .have a:=IH L1 hd3;have b:=IH (zeh f k (deep+1) L1).2 hd3;have c:=IH (zeh f k (deep+1) (zeh f k (deep+1) L1).2).2 hd3;simp only[cE,cEs,Int.reduceEq,reduceIte];omega
   split
   .have a:=IH L1 hd3;simp only[cE,cEs,Int.reduceEq,reduceIte];omega
   .have a:=IH L1 hd3;have b:=IH (zeh f k (deep+1) L1).2 hd3;simp only[cE,cEs,Int.reduceEq,reduceIte];omega
theorem Om(f:Int):∀(n:Nat) (L:List Int),cEs (zfH f n L).1+4*(zfH f n L).2.length<=4*L.length
 |0,L=>by simp[zfH,cEs]
 |n+1,L=>by
  have a:=qy f 3 2 L ac ac;have b:=Om f n (zeh f 3 2 L).2;simp only[zfH,cEs];omega
theorem zxE{sub:Int->zeK->List St×zeK}(hs:∀most s,iM (sub most s).1+16*(sub most s).2.1.length<=16*s.1.length)(f:Int)(L1:List Int)(c q m:Int):c1 (jH sub f L1 c q m).1+16*(jH sub f L1 c q m).2.1.length<=16*(L1.length+1):=by
 unfold jH;split
 .have a:=qy f 5 0 L1 ac ac;simp only[c1,Int.reduceEq,reduceIte];omega
 split
 .have a:=qy f 3 2 L1 ac ac;have b:=qy f 4 1 (zeh f 3 2 L1).2 ac ac;simp only[c1,Int.reduceEq,reduceIte];omega
 split
 .have a:=qy f 4 1 L1 ac ac;have b:=hs 3 ((zeh f 4 1 L1).2,c);have d:=hs 2 (sub 3 ((zeh f 4 1 L1).2,c)).2;simp only at b;simp only[c1,Int.reduceEq,reduceIte];omega
 split
 .have a:=qy f 4 1 L1 ac ac;have b:=hs 3 ((zeh f 4 1 L1).2,cq (c+1));simp only at b;simp only[c1,Int.reduceEq,reduceIte];omega
 split
 .have a:=qy f 4 1 L1 ac ac;simp only[c1,Int.reduceEq,reduceIte];omega
 split
 .have a:=Om f (2-m.tmod 2).toNat L1;simp only[c1,Int.reduceEq,reduceIte];omega
 .simp only[c1,Int.reduceEq,reduceIte];omega
theorem Gm{step:zeK->St×zeK}(hs:∀s,s.1≠[]->c1 (step s).1+16*(step s).2.1.length<=16*s.1.length):∀(n:Nat) (s:zeK),iM (fT step n s).1+16*(fT step n s).2.1.length<=16*s.1.length
 |0,s=>by simp[fT,iM]
 |n+1,s=>by
  rw[fT];split
  .simp[iM]
  .rename_i h;have a:=hs s h;have b:=Gm hs n (step s).2;simp only[iM];omega
theorem On(f:Int):∀(k deep:Nat) (s:zeK),s.1≠[]->c1 (zfF f k deep s).1+16*(zfF f k deep s).2.1.length<=16*s.1.length
 |0,deep,s,h=>by simp[zfF,c1]
 |k+1,deep,s,h=>by
  rw[zfF,sT];have e:=Ol h;rw[<-e];exact zxE (fun most s=>by
   have a:=Gm (On f k (deep+1)) (zei (zes s.1).1 (most+1)).toNat ((zes s.1).2,s.2);have b:=zgi s.1;simp only at a;omega) _ _ _ _ _
theorem Oo(f:Int)(k deep:Nat)(most:Int)(s:zeK):iM (jF f k deep most s).1+16*(jF f k deep most s).2.1.length<=16*s.1.length:=by
 have a:=Gm (On f k deep) (zei (zes s.1).1 (most+1)).toNat ((zes s.1).2,s.2);have b:=zgi s.1;simp only at a;unfold jF;omega
theorem zdi(l:List Int):∀f∈(zeQ l).funcs,iM f.body+cE f.value<=960/\f.params.length+f.locals.length<=4:=by
 have h0:(l.take 60).length<=60:=pQ;have h1:=zgi (l.take 60);have b1:iM (ib (l.take 60)).1+16*(ib (l.take 60)).2.1.length<=16*(zes (l.take 60)).2.length:=Oo 0 4 0 5 ((zes (l.take 60)).2,0);have v1:cE (jp (l.take 60)).1+4*(jp (l.take 60)).2.length<=4*(ib (l.take 60)).2.1.length:=qy 0 4 1 _ ac ac;have b2:iM (kC (l.take 60)).1+16*(kC (l.take 60)).2.1.length<=16*(jp (l.take 60)).2.length:=Oo 1 3 1 3 ((jp (l.take 60)).2,(ib (l.take 60)).2.2);have v2:cE (rJ (l.take 60)).1+4*(rJ (l.take 60)).2.length<=4*(kC (l.take 60)).2.1.length:=qy 1 4 1 _ ac ac;intro f hf;simp only[zeQ,jC]at hf;rcases hf with rfl|rfl
 .exact⟨by show iM (ib (l.take 60)).1+cE (jp (l.take 60)).1<=960;omega,by show 2+2<=4;omega⟩
 .exact⟨by show iM (kC (l.take 60)).1+cE (rJ (l.take 60)).1<=960;omega,by show 1+1<=4;omega⟩
theorem Oq:∀(m k:Nat) (s:Bd),(iC m k s).l.length<=s.l.length+m
 |0,k,s=>aM _
 |m+1,k,s=>by
  have a:(iC (m+1) k s).l.length<=(zdS ⟨2,k,[]⟩ s).2.l.length+m:=Oq m (k+1) _;have b:=jI ⟨2,k,[]⟩ s;omega
theorem Ot:∀(m:Nat) (s:Bd),(jW m s).l.length<=s.l.length+m
 |0,s=>aM _
 |m+1,s=>by
  have a:(jW (m+1) s).l.length<=(zdS ⟨1,0,[]⟩ s).2.l.length+m:=Ot m _;have b:=jI ⟨1,0,[]⟩ s;omega
theorem zt1(f:Fu):(kA f).l.length<=1+f.params.length+f.locals.length/\(kA f).vars.length=f.params.length+f.locals.length:=by
 have e0:(zdS ⟨26,0,[]⟩ ⟨[],[],0,0⟩).2.l.length<=1:=jI _ _;have e1:(iC f.params.length 0 { (zdS ⟨26,0,[]⟩ ⟨[],[],0,0⟩).2 with state:=(zdS ⟨26,0,[]⟩ ⟨[],[],0,0⟩).1}).l.length<=(zdS ⟨26,0,[]⟩ ⟨[],[],0,0⟩).2.l.length+f.params.length:=Oq _ _ _;have e2:(kA f).l.length<=_:=Ot f.locals.length _;have v1:=(yy f.params.length 0 { (zdS ⟨26,0,[]⟩ ⟨[],[],0,0⟩).2 with state:=(zdS ⟨26,0,[]⟩ ⟨[],[],0,0⟩).1}).2;have v2:(kA f).vars.length=_:=(yz f.locals.length _).2;have v0:({ (zdS ⟨26,0,[]⟩ ⟨[],[],0,0⟩).2 with state:=(zdS ⟨26,0,[]⟩ ⟨[],[],0,0⟩).1}:Bd).vars.length=0:=rfl;exact⟨ac,ac⟩
theorem zdk{p:Pr}{n:Nat}{f:Fu}{g:Gr}(h:lS p n f=some g)(hv:f.params.length+f.locals.length<=4):g.nodes.length<=5+iM f.body+cE f.value:=by
 unfold lS at h;simp only[gL]at h;obtain⟨s,h1,v,h2,rfl⟩:=h;obtain⟨a,b⟩:=zt1 f;have e1:=(Ok _ n).2.1 _ _ _ h1 ac;have e2:=qx _ n _ _ _ h2;show v.2.l.length<=_;omega
theorem Ou{p:Pr}{n:Nat}:∀(l:List Fu) (gs:List Gr),(∀f∈l,∃g,lS p n f=some g/\g.nodes.length<=2000)->∃hs,oB p n l gs=some (⟨p.arrays,gs++hs⟩,0)/\dk (fun f g=>lS p n f=some g/\g.nodes.length<=2000) l hs
 |[],gs,_=>⟨[],by rw[oB,ll],trivial⟩
 |f::l,gs,h=>by
  obtain⟨g,h1,h2⟩:=h f fm;obtain⟨hs,h3,h4⟩:=Ou l (gs++[g]) fun x hx=>h x (gF _ hx)
  refine⟨g::hs,?_,⟨h1,h2⟩,h4⟩;rw[oB,h1,ee,ah ac,h3,kH];rfl
theorem zt2{l:List Int}(hr:gp l):PrIn (zeQ l):=⟨Gg l,N8 hr⟩
theorem zt3{l:List Int}(hr:gp l):LwOk (zeQ l):=⟨by have:=ztX l;omega,fun _=>N8 hr⟩
theorem zxF{l:List Int}(hr:gp l):∃f g,nu (zeQ l)=(⟨mr (l.take 60),[f,g]⟩,0)/\lS (zeQ l) (2*(zeQ l).sz+1) (gT (l.take 60))=some f/\lS (zeQ l) (2*(zeQ l).sz+1) (gU (l.take 60))=some g/\f.nodes.length<=965/\g.nodes.length<=965/\(∀n∈f.nodes,n.kids.length<=40)/\∀n∈g.nodes,n.kids.length<=40:=by
 have hp:=zt2 hr;have key:∀f∈(zeQ l).funcs,∃g,lS (zeQ l) (2*(zeQ l).sz+1) f=some g/\g.nodes.length<=2000/\g.nodes.length<=965/\∀n∈g.nodes,n.kids.length<=40:=fun f hf=>by
  obtain⟨s,v,e1,e2,hi,_⟩:=Gd hp (cL _) hf;obtain⟨c1,c2⟩:=zdi l f hf;have e:lS (zeQ l) (2*(zeQ l).sz+1) f=some ⟨f.name,f.params.length,v.2.l,v.1,v.2.state⟩:=by rw[lS,e1,ee,e2,ee]
  have:=zdk e c2;exact⟨_,e,ac,ac,fun n hn=>(hi.p n hn).len⟩
 obtain⟨hs,h1,h2⟩:=Ou (p:=zeQ l) (n:=2*(zeQ l).sz+1) (zeQ l).funcs [] fun f hf=>by obtain⟨g,a,b,_⟩:=key f hf;exact⟨g,a,b⟩
 have hlow:nu (zeQ l)=(⟨mr (l.take 60),hs⟩,0):=by
  rw[nu,sP,aE (Gg l),h1];rfl
 have hf:(zeQ l).funcs=[gT (l.take 60),gU (l.take 60)]:=rfl;rw[hf]at h2 key
 match hs,h2,hlow with
 |[f,g],h2,hlow=>
  obtain⟨⟨a1,_⟩,⟨a2,_⟩,_⟩:=h2;obtain⟨f',b1,_,b2,b5⟩:=key _ fm;obtain⟨g',b3,_,b4,b6⟩:=key _ (gF _ fm);rw[a1]at b1;rw[a2]at b3;cases b1;cases b3;exact⟨f,g,hlow,a1,a2,b2,b4,b5,b6⟩
def kn(f:FuncId):Bool:=f == 57||f == 36||f == 99999999||f == 44
structure Std (cfg:Cfg):Prop where
 plain:∀f,kn f=false->Plain cfg f
 keep:∀f,cfg.keep f=false
 plan:cfg.plan=vd pls
namespace tyGX
end tyGX
open tyGX
theorem znb(ρ:Nat->Int)(l:List Int)(hl:l.length<2^63):bV Tryz.prog ρ 25 [zgb l] (.agg (zeQ l).cells):=by
 refine Bm (n:=60) (cfg:=zdW pls BL) fit (ly ρ) (fun g ar r hg=>fH.look (l:=BL) (zxp ρ) g ar r hg) (.cons (Bw l) .nil) ?_;refine bp (fun v H' h=>?_) (zoC ML (zch ML) l hl zeo);obtain⟨ra,rf,x,y,cf,cg,rfl,hP,_,_⟩:=h;obtain⟨us,h1,h2⟩:=hP.cells;have h3:zeS (fun q=>zeo.next<=q) 100 H' (.agg [.sl ra 0 2 2,.sl rf 0 2 9]) (.agg us):=zeS.up (n:=16) ⟨us,h1,rfl⟩ ac;obtain⟨m0,hm⟩:=zeS.iceV h3;refine⟨m0,.agg us,hm m0 (aM _),?_⟩;show AV.agg (us.map (cP 59))=_;rw[h2 59 ac]
noncomputable def Ov:En:=⟨25,false,cy (fun l=>l.length<2^63) (fun l=>[zgb l]) fun l=>.agg (zeQ l).cells⟩
theorem zq3(ρ:Nat->Int):zeO Tryz.prog ρ Ov:=zeV fun x hx=>znb ρ x hx
end
section
def tyKuC.tyF:=ad @jO (ad @DB (ad @DC (ad @BW (ad @mc (@md)))))
open tyKuC
noncomputable def Ow:{c:SC // aS 12 (Tryz.f9.body.getD .skip)=c}:=by
 refine⟨?_,?_⟩;rotate_left
 .simp only[Tryz.f9,cj,aS,zen,zel,zeu,zev,Nat.blt,Nat.ble];rfl
noncomputable def Oz:En:=⟨28,false,cy LwOk me fun p=>.tup [.agg (nu p).1.cells,.int .i64 (nu p).2]⟩
theorem zxG(ρ:Nat->Int):zeO Tryz.prog ρ Oz:=zeV fun p hp=>zoD ρ p (n:=2*p.sz+1) (by have:=hp.sz;omega) (fun hc=>zc2 ⟨hc,hp.rg hc⟩ hp.sz (cL _)) hp.low
noncomputable def B7:List En:=[Ov,Oz]
theorem zt5(ρ:Nat->Int):fH Tryz.prog ρ B7:=⟨zq3 ρ,zxG ρ,trivial⟩
def pH(l:List Int):Un:=(nu (zeQ l)).1
theorem zt6(ρ:Nat->Int)(l:List Int)(h:l.length<2^63/\gp l):bV Tryz.prog ρ 9 [zgb l] (.agg (pH l).cells):=zfq fit (pls:=pls) (zt5 ρ) (.cons (Bw l) .nil) (.agg (Un.pure _)) (by
 have hw:Plain (zdW pls B7) 9:=zfv (fun _=>rfl) rfl;have kp:∀H,zd5 Tryz.prog (zdW pls B7) 25 [zgb l] H fun v H'=>v=.agg (zeQ l).cells/\H'=H:=fun H=>zeJ (enc:=fun l=>[zgb l]) (ok:=fun l=>l.length<2^63) (out:=fun l=>.agg (zeQ l).cells) (fun x y h=>L0 jM) (x:=l) rfl h.1;have kl:∀H,zd5 Tryz.prog (zdW pls B7) 28 [.agg (zeQ l).cells] H fun v H'=>v=.tup [.agg (pH l).cells,.int .i64 (nu (zeQ l)).2]/\H'=H:=fun H=>zeJ (enc:=me) (ok:=LwOk) (out:=fun p=>.tup [.agg (nu p).1.cells,.int .i64 (nu p).2]) x9 (x:=zeQ l) rfl (zt3 h.2);have huc:(pH l).cells=[.lst ((pH l).arrays.map Ar.cells),.lst ((pH l).funcs.map Gr.cells)]:=rfl;have hres:∀(H:Hp) (a b:AV),zfC Tryz.prog (H.set 0 (.cells [a,b] 0 true)) 27 (.ptr 0 0)=some (.agg [a,b]):=fun H a b=>by
  rw[vk,bz,aE rfl];exact(Iy [a,b] 0).trans rfl
 generalize (nu (zeQ l)).2=e at *;rw[huc]at kl⊢;refine zed (M:=12) (rs:=[.cell 2 27]) (hw.call _) hw.ice hw.froz Tryz.func9 rfl rfl Ow.2 rfl ?_;dsimp only[Ow,zd8,Nat.reduceAdd];repeat' (first
  |(apply au ?_;clear hK K)|apply Rx.o ?_|apply ba ?_|(apply eu ?_;first|refine Rx.k (kp _) ?_|refine Rx.k (kl _) ?_)|apply am ?_|(apply zdQ fun K hK=>?_)|apply aB ?_)
 all_goals (refine⟨zdZ,_,(by(try simp only[zdX,Nat.reduceBEq,zfD,zfI,hres, *]);first|done|with_reducible rfl),?_⟩;try simp only[zdY]))
noncomputable def OA:En:=⟨9,false,cy (fun l=>l.length<2^63/\gp l) (fun l=>[zgb l]) fun l=>.agg (pH l).cells⟩
theorem zxH(ρ:Nat->Int):zeO Tryz.prog ρ OA:=zeV fun x hx=>zt6 ρ x hx
end
end Go.Proofs.YtpbcimfiofmoeaaGreat
namespace Go.Ab
set_option maxRecDepth 20000
open Go Go.WideShapes Go.Deep Go.RowKit Go.ChangeShapes Go.Proofs.YtpbcimfiofmoeaaGreat
inductive Sh (P:Program):Nat->TypeId->List AV->Prop
 |int {t:TypeId}{k:IntKind} (n:Int) (ht:P.underlying t=some (.int k)) (hw:(Lit.int k n).wf=true):Sh P 1 t [.int k n]
 |bool {t:TypeId} (b:Bool) (ht:P.underlying t=some .bool):Sh P 1 t [.bool b]
 |str {t:TypeId} (s:List UInt8) (ht:P.underlying t=some .string):Sh P (s.length+1) t [.str s]
 |rows {t e:TypeId} (l:List (List AV×Nat)) (ht:P.underlying t=some (.slice e)) (h:∀r∈l,Sh P r.2 e r.1):Sh P ((l.map (·.2)).sum+1) t [.lst (l.map (·.1))]
 |struct {t:TypeId}{fs:Array Field} (l:List (List AV×Nat)) (ht:P.underlying t=some (.struct fs)) (hl:l.length=fs.size) (h:∀(i:Nat) f r,fs[i]?=some f->l[i]?=some r->Sh P r.2 f.type r.1):Sh P ((l.map (·.2)).sum+1) t (l.map (·.1)).flatten
def yJ(P:Program):List Field->Nat->Nat->Bool
 |[],i,n=>i == n
 |f::fs,i,n=>f.offset == i&&yJ P fs (i+P.cellsOf f.type) n
def OB(P:Program)(S:List TypeId):Bool:=S.all fun t=>match P.underlying t with
 |some (.int _)|some .bool|some .string=>true
 |some (.slice e)=>S.contains e&&Nat.blt 0 (P.cellsOf e)
 |some (.struct fs)=>fs.toList.all (fun f=>S.contains f.type)&&yJ P fs.toList 0 (P.cellsOf t)
 |_=>false
theorem OC{P:Program}{α:Type}{cs:List α}{n:Nat}(hl:cs.length=n):∀(fs:List Field) (i:Nat),yJ P fs i n=true->(fs.map fun f=>(cs.drop f.offset).take (P.cellsOf f.type)).flatten=cs.drop i
 |[],i,h=>by
  have:i=n:=by simpa [yJ]using h
  subst this;rw[<-hl,gR];rfl
 |f::fs,i,h=>by
  simp only[yJ,cJ,mE]at h;rw[eF,kK,OC hl fs _ h.2,h.1,<-Ci,zn]
section
variable {H:Type} {enc:TypeId × Value -> H} {P:Program} {W:World}
theorem cr.flat{G:Gh}:∀{l:List (List AV)}{m:List (List Value)},l.length=m.length->(∀(i:Nat) a b,l[i]?=some a->m[i]?=some b->cr G a b)->cr G l.flatten m.flatten
 |[],[],_,_=>j8 G
 |a::l,b::m,hl,h=>by
  rw[kK,kK];exact(h 0 a b rfl rfl).append (cr.flat (by simpa using hl) fun i x y hx hy=>h (i+1) x y zm (by simpa using hy))
theorem Gn:∀{l:List (DataW H)}{m:List Nat},l.length=m.length->(∀(i:Nat) d n,l[i]?=some d->m[i]?=some n->n<=Rows.uptoBulk d)->m.sum<=Rows.uptoBulkAll l
 |[],[],_,_=>aM _
 |d::l,n::m,hl,h=>by
  have h1:=h 0 d n rfl rfl;have h2:=Gn (l:=l) (m:=m) (by simpa using hl) fun i x y hx hy=>h (i+1) x y zm (by simpa using hy);simp only[Rows.uptoBulkAll,Ge];omega
theorem OD{a:Addr}{i:Nat}(h:a.spot=none):a.add i=⟨a.block,a.off+i,none⟩:=by
 obtain⟨b,o,s⟩:=a;simp only at h;subst h;unfold Addr.add;split
 .rename_i h;subst h;rfl
 .rfl
theorem B8{a:Addr}{n:Nat}{cs:List Value}(h:W.cells? 0 a n=some cs):cs.length=n/\∀j,j<n->W.cell? (a.add j)=cs[j]?:=by
 unfold World.cells? at h;rw[aE (dE _)]at h;refine⟨by have:=mapM_some_length h;simpa using this,fun j hj=>?_⟩;have:=mapM_some_get h j j (by rw[tw hj]);exact this
theorem Gp{S:List TypeId}(hS:OB P S=true)(ρ:Nat->Int){sp:Nat->Bool}{held:Bool}:∀(fuel:Nat) (t:TypeId) (cs:List Value) (x:DataW H×List MemPlace),t∈S->DataW.trod enc P W 0 sp held fuel t cs=some x ->
 ∃az n,cr ⟨fun _=>none,oq W,ρ⟩ az cs/\Sh P n t az/\n<=Rows.uptoBulk x.1
 |0,_,_,_,_,h=>by simp[DataW.trod]at h
 |fuel+1,t,cs,x,ht,h=>by
  have hg:=jL.1 hS t ht;split at hg
  .rename_i k hu;obtain⟨n,rfl,rfl,hw⟩:=DataW.trod_int hu h;exact⟨[.int _ n],1,iE (.int _ _) (j8 _),.int n hu hw,aM _⟩
  .rename_i hu;obtain⟨n,rfl,rfl⟩:=DataW.trod_bool hu h;exact⟨[.bool n],1,iE (.bool _) (j8 _),.bool n hu,aM _⟩
  .rename_i hu;obtain⟨s,rfl,rfl,_⟩:=DataW.trod_string hu h;exact⟨[.str s.data.toList],_,iE (.str s _ rfl) (j8 _),.str _ hu,by simp[Rows.uptoBulk]⟩
  .rename_i e hu;rw[cJ,iW]at hg;have he:e∈S:=by simpa using hg.1
   have hz0:=hg.2;rcases DataW.trod_slice hu h with⟨rfl,rfl⟩|⟨a,len,cap,elems,rest,n,hn,rfl,rfl,_,hl,hm,hlen,hel,_,_⟩
   .exact⟨[.lst []],_,iE (.lst0 none 0) (j8 _),.rows [] hu aK,by simp[Rows.uptoBulk]⟩
   .obtain rfl:n=fuel:=by omega
    have key:∀i:Nat,∃r:List AV×Nat,i<len->∃cs',W.cells? 0 (a.add (i*P.cellsOf e)) (P.cellsOf e)=some cs'/\cr ⟨fun _=>none,oq W,ρ⟩ r.1 cs'/\Sh P r.2 e r.1/\∀y:DataW H×List MemPlace,elems[i]?=some y->r.2<=Rows.uptoBulk y.1:=fun i=>by
     by_cases hi:i<len
     .have hb:=hel i hi;rw[br ac]at hb;obtain⟨cs',h1,h2⟩:=ir.1 hb;obtain⟨a',k,v1,v2,v3⟩:=Gp hS ρ n e cs' _ he h2;exact⟨(a',k),fun _=>⟨cs',h1,v1,v2,fun y hy=>by
       rw[br ac]at hy;cases hy;exact v3⟩⟩
     .exact⟨([],0),fun h=>absurd h hi⟩
    obtain⟨R,hR⟩:=Fw key;have hLl:(((List.range len).map R).map (·.1)).length=len:=aK;refine⟨[.lst (((List.range len).map R).map (·.1))],_,iE ?_ (j8 _),.rows ((List.range len).map R) hu ?_,?_⟩
    .by_cases h0:len=0
     .subst h0;exact .lst0 _ _
     obtain⟨cs0,c1,c2,_⟩:=hR 0 ac;obtain⟨zgI,c3⟩:=B8 c1;have hspot:a.spot=none:=by
      have h4:=c3 0 hz0;rw[br ac]at h4;simp only[Addr.add,rV,bN,World.cell?]at h4;split at h4
      .split at h4
       .cases h4
       .rename_i hn;cases hq:a.spot with
        |none=>rfl
        |some s=>rw[hq]at hn;simp at hn
      .cases h4
     have hat:∀i j,i<len->j<P.cellsOf e->∃cs' v,W.cells? 0 (a.add (i*P.cellsOf e)) (P.cellsOf e)=some cs'/\cs'[j]?=some v/\W.cell? ⟨a.block,a.off+i*P.cellsOf e+j,none⟩=some v:=fun i j hi hj=>by
      obtain⟨cs',d1,_⟩:=hR i hi;obtain⟨l1,d3⟩:=B8 d1;refine⟨cs',cs'[j]' ac,d1,br ac,?_⟩;have:=d3 j hj;rw[br ac]at this;rw[<-this,OD hspot,OD rfl]
     have hfin:=VR.lst (G:=⟨fun _=>none,oq W,ρ⟩) (xs:=((List.range len).map R).map (·.1)) (b:=a.block) (o:=a.off) (cap:=cap) (z:=P.cellsOf e) (fun i j=>(W.cell? ⟨a.block,a.off+i*P.cellsOf e+j,none⟩).getD .nilFunc) ?_ ?_ ?_ (by rw[hLl];exact hl)
     .rw[hLl]at hfin;obtain⟨ab,ao,asp⟩:=a;simp only at hspot;subst hspot;exact hfin
     .intro i row hr;rw[fF,fF]at hr;by_cases hi:i<len
      .rw[tw hi]at hr;simp only[ju]at hr;subst hr;obtain⟨cs',d1,d2,_⟩:=hR i hi;rw[d2.1,(B8 d1).1]
      .rw[iY cT]at hr;simp at hr
     .intro i j hi hj;rw[hLl]at hi;obtain⟨cs',v,_,_,d3⟩:=hat i j hi hj;show W.cell? ⟨a.block,a.off+i*P.cellsOf e+j,none⟩=_;rw[d3];rfl
     .intro i j row c hr hc;rw[fF,fF]at hr;by_cases hi:i<len
      .rw[tw hi]at hr;simp only[ju]at hr;subst hr;obtain⟨cs',d1,d2,_⟩:=hR i hi;have hj:j<P.cellsOf e:=by
        have:=(eS.1 hc).1;rw[d2.1,(B8 d1).1]at this;exact this
       obtain⟨cs2,v,e1,e2,e3⟩:=hat i j hi hj;rw[d1]at e1;cases e1;rw[e3];exact d2.2 j c v hc e2
      .rw[iY cT]at hr;simp at hr
    .intro r hr;obtain⟨i,hi,rfl⟩:=l0.1 hr;exact(hR i (nK.1 hi)).choose_spec.2.2.1
    .have h1:(((List.range len).map R).map (·.2)).sum<=Rows.uptoBulkAll (elems.map (·.1)):=by
      refine Gn (by simp[hlen]) fun i d m hd hm=>?_;rw[fF,fF]at hm;rw[fF]at hd;by_cases hi:i<len
      .rw[tw hi]at hm;simp only[ju]at hm;subst hm;rw[br ac]at hd;simp only[ju]at hd;subst hd;exact(hR i hi).choose_spec.2.2.2 _ (br ac)
      .rw[iY cT]at hm;simp at hm
     show _<=Rows.uptoBulkAll (elems.map (·.1))+Rows.uptoBulkAll (rest.map (·.1))+1;omega
  .rename_i fs hu;rw[cJ,jL]at hg;obtain⟨xs,n,hn,rfl,hcl,hxl,hf⟩:=DataW.trod_struct hu h;obtain rfl:n=fuel:=ac;have key:∀i:Nat,∃r:List AV×Nat,∀f:Field,fs[i]?=some f->cr ⟨fun _=>none,oq W,ρ⟩ r.1 ((cs.drop f.offset).take (P.cellsOf f.type))/\Sh P r.2 f.type r.1/\∀y:DataW H×List MemPlace,xs[i]?=some y->r.2<=Rows.uptoBulk y.1:=fun i=>by
    cases hi:fs[i]? with
    |none=>exact⟨([],0),fun f h=>by cases h⟩
    |some f=>
     have h1:=hf i f hi;have hil:i<fs.size:=(Array.getElem?_eq_some_iff.1 hi).1;rw[br ac]at h1;have hfS:f.type∈S:=by
      have:=hg.1 f (by rw[<-tz]at hi;exact lw hi);simpa using this
     obtain⟨a',k,v1,v2,v3⟩:=Gp hS ρ n f.type _ _ hfS h1;refine⟨(a',k),fun f' h'=>?_⟩;cases h';exact⟨v1,v2,fun y hy=>by
      rw[br ac]at hy;cases hy;exact v3⟩
   obtain⟨R,hR⟩:=Fw key;have htile:=OC hcl fs.toList 0 hg.2;rw[gD]at htile;have hat:∀i r,(((List.range fs.size).map R))[i]?=some r->r=R i/\i<fs.size:=fun i r hr=>by
    rw[fF]at hr;by_cases hi:i<fs.size
    .rw[tw hi]at hr;simp only[ju]at hr;exact⟨hr.symm,hi⟩
    .rw[iY cT]at hr;simp at hr
   refine⟨(((List.range fs.size).map R).map (·.1)).flatten,_,?_,.struct ((List.range fs.size).map R) hu aK ?_,?_⟩
   .rw[<-htile];refine cr.flat aK fun i r c hr hc=>?_;rw[fF]at hr hc;cases hq:((List.range fs.size).map R)[i]? with
    |none=>rw[hq]at hr;simp at hr
    |some q=>
     rw[hq]at hr;simp only[ju]at hr;obtain⟨rfl,hi⟩:=hat i q hq;cases hg2:fs.toList[i]? with
     |none=>rw[hg2]at hc;simp at hc
     |some f=>
      rw[hg2]at hc;simp only[ju]at hc;subst hr;subst hc;exact(hR i f (by rw[<-tz];exact hg2)).1
   .intro i f r hi hr;obtain⟨rfl,_⟩:=hat i r hr;exact(hR i f hi).2.1
   .have h1:(((List.range fs.size).map R).map (·.2)).sum<=Rows.uptoBulkAll (xs.map (·.1)):=by
     refine Gn (by simp[hxl]) fun i d m hd hm=>?_;rw[fF]at hm hd;cases hq:((List.range fs.size).map R)[i]? with
     |none=>rw[hq]at hm;simp at hm
     |some q=>
      rw[hq]at hm;simp only[ju]at hm;obtain⟨rfl,hi⟩:=hat i q hq;cases hy:xs[i]? with
      |none=>rw[hy]at hd;simp at hd
      |some y=>
       rw[hy]at hd;simp only[ju]at hd;subst hd;subst hm;exact(hR i fs[i] (oP hi)).2.2 y hy
    show _<=Rows.uptoBulkAll (xs.map (·.1))+1;omega
  .cases hg
theorem Sh.inv_int{P:Program}{n:Nat}{t:TypeId}{k:IntKind}{az:List AV}(h:Sh P n t az)(ht:P.underlying t=some (.int k)):∃x,az=[.int k x]/\(Lit.int k x).wf=true/\n=1:=by
 cases h with
 |int x hu hw=>rw[ht]at hu;cases hu;exact⟨x,rfl,hw,rfl⟩
 |bool b hu=>rw[ht]at hu;cases hu
 |str s hu=>rw[ht]at hu;cases hu
 |rows l hu _=>rw[ht]at hu;cases hu
 |struct l hu _ _=>rw[ht]at hu;cases hu
theorem Sh.inv_rows{P:Program}{n:Nat}{t e:TypeId}{az:List AV}(h:Sh P n t az)(ht:P.underlying t=some (.slice e)):∃l:List (List AV×Nat),az=[.lst (l.map (·.1))]/\n=(l.map (·.2)).sum+1/\∀r∈l,Sh P r.2 e r.1:=by
 cases h with
 |int x hu hw=>rw[ht]at hu;cases hu
 |bool b hu=>rw[ht]at hu;cases hu
 |str s hu=>rw[ht]at hu;cases hu
 |rows l hu h=>rw[ht]at hu;cases hu;exact⟨l,rfl,rfl,h⟩
 |struct l hu _ _=>rw[ht]at hu;cases hu
theorem Sh.inv_struct{P:Program}{n:Nat}{t:TypeId}{fs:Array Field}{az:List AV}(h:Sh P n t az)(ht:P.underlying t=some (.struct fs)):∃l:List (List AV×Nat),az=(l.map (·.1)).flatten/\n=(l.map (·.2)).sum+1/\l.length=fs.size/\∀(i:Nat) f r,fs[i]?=some f->l[i]?=some r->Sh P r.2 f.type r.1:=by
 cases h with
 |int x hu hw=>rw[ht]at hu;cases hu
 |bool b hu=>rw[ht]at hu;cases hu
 |str s hu=>rw[ht]at hu;cases hu
 |rows l hu h=>rw[ht]at hu;cases hu
 |struct l hu hl h=>rw[ht]at hu;cases hu;exact⟨l,rfl,rfl,hl,h⟩
end
end Go.Ab
namespace Go.Proofs.YtpbcimfiofmoeaaGreat
set_option maxRecDepth 20000
open Go Go.Ab Go.WideShapes
theorem Gq{α:Type}{f:α->List AV}{sz:List α->Nat}{s1:α->Nat}(hn:sz []=0)(hc:∀a l,sz (a::l)=1+s1 a+sz l):∀l:List (List AV×Nat),(∀r∈l,∃x,r.1=f x/\s1 x+1<=r.2)->∃xs:List α,l.map (·.1)=xs.map f/\sz xs<=(l.map (·.2)).sum
 |[],_=>⟨[],rfl,qT⟩
 |r::l,h=>by
  obtain⟨x,e1,h1⟩:=h r fm;obtain⟨xs,e2,h2⟩:=Gq (f:=f) hn hc l fun q hq=>h q (gF _ hq)
  exact⟨x::xs,by rw[eF,eF,e1,e2],by rw[hc,eF,Ge];omega⟩
def qz:List Int->Nat
 |[]=>0
 |_::l=>1+0+qz l
def sZ:List Nd->Nat
 |[]=>0
 |n::l=>1+qz n.kids+sZ l
theorem OE:∀l:List Int,qz l=l.length
 |[]=>rfl
 |_::l=>by rw[qz,OE l,fj];omega
theorem OF:∀l:List Nd,l.length<=sZ l/\∀n∈l,n.kids.length<=sZ l
 |[]=>⟨aM _,fun n hn=>by cases hn⟩
 |x::l=>by
  obtain⟨a,b⟩:=OF l;rw[sZ,OE,fj];refine⟨ac,fun n hn=>?_⟩;rcases iu.1 hn with rfl|hn
  .omega
  .have:=b n hn;omega
theorem zxI{n:Nat}{az:List AV}(h:Sh Tryz.prog n 23 az):∃l:List Int,az=[zeG l]/\qz l+1<=n:=by
 obtain⟨k,rfl,rfl,hk⟩:=h.inv_rows Tryz.underlying23;obtain⟨xs,e1,h1⟩:=Gq (f:=fun s:Int=>[AV.int .i64 s]) (sz:=qz) (s1:=fun _=>0) (by rw[qz]) (fun a l=>by rw[qz]) k fun r hr=>by
  obtain⟨s,e,_,h⟩:=(hk r hr).inv_int Tryz.underlying3;exact⟨s,e,ac⟩
 exact⟨xs,by rw[e1],ac⟩
theorem zdw{n:Nat}{az:List AV}(h:Sh Tryz.prog n 67 az):∃x:Nd,az=x.cells/\qz x.kids+1<=n:=by
 obtain⟨l,rfl,rfl,hl,hf⟩:=h.inv_struct Tryz.underlying67
 match l,hl with
 |[zee,r1,r2],_=>
  obtain⟨a,ea,_,na⟩:=(hf 0 _ _ rfl rfl).inv_int Tryz.underlying3;obtain⟨b,eb,_,nb⟩:=(hf 1 _ _ rfl rfl).inv_int Tryz.underlying2;obtain⟨c,ec,nc⟩:=zxI (hf 2 _ _ rfl rfl);refine⟨⟨a,b,c⟩,?_,?_⟩
  .rw[Nd.cells_eq];simp only[eF,kP,kK,List.flatten_nil,ea,eb,ec];rfl
  .simp only[eF,kP,Ge,List.sum_nil];omega
theorem zdx{n:Nat}{az:List AV}(h:Sh Tryz.prog n 22 az):∃l:List Nd,az=[zfe l]/\sZ l+1<=n:=by
 obtain⟨k,rfl,rfl,hk⟩:=h.inv_rows Tryz.underlying22;obtain⟨xs,e1,h1⟩:=Gq (f:=Nd.cells) (sz:=sZ) (s1:=fun n=>qz n.kids) (by rw[sZ]) (fun a l=>by rw[sZ]) k fun r hr=>zdw (hk r hr)
 exact⟨xs,by rw[e1],ac⟩
def zdy:List TypeId:=[22,67,3,2,23]
theorem zq4:OB Tryz.prog zdy=true:=aC
set_option maxRecDepth 100000 in
theorem zq5{H:Type}{enc:TypeId×Value->H}{W:World}{v0:Value}{r:Reach}{b0:Nat}(k0:Value.okWide Tryz.prog W r b0 22 v0){d:DataW H}{ps:List MemPlace}{sp:Nat->Bool}{held:Bool}(h0:DataW.Trod enc Tryz.prog W 0 sp held 22 v0 d ps):∃l:List Nd,VR ⟨fun _=>none,oq W,fun _=>0⟩ (zfe l) v0/\l.length<=Rows.uptoBulk d/\∀n∈l,n.kids.length<=Rows.uptoBulk d:=by
 obtain⟨fuel,hf⟩:=h0;obtain⟨az,n,h1,h2,h3⟩:=Gp zq4 (fun _=>0) fuel _ _ _ fm hf;obtain⟨l,rfl,hp⟩:=zdx h2;obtain⟨a,b⟩:=OF l;have h4:n<=Rows.uptoBulk d:=h3;obtain⟨a0,ng,cap0,rfl⟩:=okWide_slice Tryz.underlying22 k0;exact⟨l,h1.2 0 _ _ rfl rfl,ac,fun n hn=>by have:=b n hn;omega⟩
end Go.Proofs.YtpbcimfiofmoeaaGreat
