/- Parts: GOk, GRg, GSz, SpecC, SpecD, GF, SglA, SglM, ShZ, SnC, SuC, AbArg, Seeds, PgX. -/
import Derived.Deep.Slices
import Derived.Test.YtpbcimfiofmoeaaSIP
import Derived.WideKeyArgs
import Derived.WideShapes
set_option linter.unusedSimpArgs false
set_option linter.unusedVariables false
set_option linter.unusedSectionVars false
set_option linter.defProp false
set_option maxHeartbeats 32000000
namespace Go.Proofs.Ytpbcimfiofmoeaa
set_option maxRecDepth 20000
open Go Go.Ab
def anG:List (List UInt8):=[[97],[98]]
theorem zrS (f:Int) {m:Int} (h:0≤m):(yF f).getD (m.tmod (yF f).length).toNat []∈yF f:=by
 have hl:((yF f).length:Int)≠0:=by unfold yF;split<;>simp
 have:=(zai (yF f) hl h []).2
 exact List.mem_of_getElem? this
theorem zrT (f:Int) {s:List UInt8} (h:s∈yF f):yA s=true∧yC (yF f) s=true:=by
 unfold yF at h ⊢
 split at h<;>simp only[List.mem_cons,List.not_mem_nil,or_false]at h
 ·rename_i e
  rw[if_pos e]
  rcases h with rfl|rfl|rfl|rfl<;>exact⟨by kernel_rfl,by kernel_rfl⟩
 ·rename_i e
  rw[if_neg e]
  rcases h with rfl|rfl<;>exact⟨by kernel_rfl,by kernel_rfl⟩
theorem zrU (m:Int):yA (zkv m)=true∧yC anG (zkv m)=true:=by
 unfold zkv
 split<;>exact⟨by kernel_rfl,by kernel_rfl⟩
theorem fg_ok (m:Int):yA (fgG m)=true:=by
 unfold fgG
 split<;>kernel_rfl
structure ExOk (f:Int) (k:Nat) (x:Ex):Prop where
 wf:wfE x=true
 df:zaw (yF f) anG x=true
 dp:zau x≤k
theorem zaN (f:Int):∀ (k deep:Nat) (L:List Int),5≤deep+k→deep≤4→ExOk f k (zG f k deep L).1
 | 0,deep,L,h1,h2=>by omega
 | k+1,deep,L,h1,h2=>by
   have ih:deep≤3→∀ L,ExOk f k (zG f k (deep+1) L).1:=fun hd L=>zaN f k (deep+1) L (by omega) (by omega)
   have hq:=yB (n:=(zI L).1) (m:=16) (by omega) (by omega)
   have hm:=yB (n:=w64 ((zI L).1.tdiv 16)) (m:=1000) (by omega) (by omega)
   simp only[zG]
   generalize ym (zI L).1 16=q at hq ⊢
   generalize ym (w64 ((zI L).1.tdiv 16)) 1000=m at hm ⊢
   split
   ·split
    ·obtain⟨n1,n2⟩:=zrT f (zrS f hm.1)
     generalize (yF f).getD (m.tmod (yF f).length).toNat []=nm at n1 n2 ⊢
     refine⟨?_,?_,by simp[zau,zc0]⟩
     ·simp[wfE,zaJ,wfX,Ex.kind,Ex.kids,Ex.n,Ex.op,Ex.name,n1]
     ·simp[zaw,jS,zcq,Ex.kind,Ex.name,n2]
    ·exact⟨by simp[wfE,zaJ,wfX,Ex.kind,Ex.kids,Ex.n,Ex.op,Ex.name],by simp[zaw,jS,zcq,Ex.kind,Ex.name],by simp[zau,zc0]⟩
   ·rename_i hn
    have hd:deep≤3:=by omega
    have ih:=ih hd
    obtain⟨a1,a2⟩:=zrU m
    split
    ·have i1:=ih (zI L).2
     refine⟨?_,?_,?_⟩
     ·simp[wfE,zaJ,wfX,Ex.kind,Ex.kids,Ex.n,Ex.op,Ex.name,a1,i1.wf]
     ·simp[zaw,jS,zcq,Ex.kind,Ex.name,a2,i1.df]
     ·have:=i1.dp;simp only[zau,zc0];omega
    ·split
     ·have i1:=ih (zI L).2
      have i2:=ih (zG f k (deep+1) (zI L).2).2
      have i3:=ih (zG f k (deep+1) (zG f k (deep+1) (zI L).2).2).2
      refine⟨?_,?_,?_⟩
      ·simp[wfE,zaJ,wfX,Ex.kind,Ex.kids,Ex.n,Ex.op,Ex.name,i1.wf,i2.wf,i3.wf]
      ·simp[zaw,jS,zcq,Ex.kind,Ex.name,i1.df,i2.df,i3.df]
      ·have:=i1.dp;have:=i2.dp;have:=i3.dp;simp only[zau,zc0];omega
     ·split
      ·have i1:=ih (zI L).2
       have ho:op2G m=20∨op2G m=21:=by unfold op2G;split<;>simp
       refine⟨?_,?_,?_⟩
       ·rcases ho with ho|ho<;>simp[wfE,zaJ,wfX,Ex.kind,Ex.kids,Ex.n,Ex.op,Ex.name,i1.wf,ho]
       ·simp[zaw,jS,zcq,Ex.kind,Ex.name,i1.df]
       ·have:=i1.dp;simp only[zau,zc0];omega
      ·have i1:=ih (zI L).2
       have i2:=ih (zG f k (deep+1) (zI L).2).2
       have t1:=Int.tmod_nonneg 15 hm.1
       have t2:=Int.tmod_lt_of_pos m (show(0:Int) < 15 by omega)
       have ho:zgp (w64 (4+m.tmod 15))=true:=by
        unfold w64;rw[zav (by omega) (by omega)]
        simp only[zgp,Bool.and_eq_true,decide_eq_true_eq];omega
       refine⟨?_,?_,?_⟩
       ·simp[wfE,zaJ,wfX,Ex.kind,Ex.kids,Ex.n,Ex.op,Ex.name,i1.wf,i2.wf,ho]
       ·simp[zaw,jS,zcq,Ex.kind,Ex.name,i1.df,i2.df]
       ·have:=i1.dp;have:=i2.dp;simp only[zau,zc0];omega
theorem zl9 (f:Int):∀ (n:Nat) (L:List Int),zaJ (jK f n L).1=true∧jS (yF f) anG (jK f n L).1=true∧((jK f n L).1.any fun e=>decide ((20:Int) < zau e))=false∧(jK f n L).1.length=n
 | 0,_=>⟨rfl,rfl,rfl,rfl⟩
 | n+1,L=>by
   obtain⟨h1,h2,h3,h4⟩:=zl9 f n (zG f 3 2 L).2
   have h:=zaN f 3 2 L (by omega) (by omega)
   have hd:¬ (20:Int) < zau (zG f 3 2 L).1:=by have:=h.dp;omega
   refine⟨?_,?_,?_,?_⟩
   ·rw[jK,zaJ,h.wf,h1];rfl
   ·rw[jK,jS,h.df,h2];rfl
   ·rw[jK,List.any_cons,h3,decide_eq_false hd];rfl
   ·rw[jK,List.length_cons,h4]
structure ScG (f:Int) (c:Sc):Prop where
 vars:c.vars=yF f
 an:c.an=anG
 to:∀ m:Int,0≤m→0≤yn c.p.funcs (fgG m) 0∧((2 - m.tmod 2).toNat=zi4 c.p (fgG m))
structure StOk (c:Sc) (k:Nat) (s:Sd) (x:St) (t:Sd):Prop where
 wf:ze8 x=true
 df:zbA c false x=true
 ar:zbA c true x=true
 dp:zdD x=false
 n:n1 x+t.1.length≤s.1.length
 w:(w1 x:Int)+s.2=t.2
 wb:t.2≤10
 m:∀ d,m1 x d≤d+k
structure StsOk (c:Sc) (k:Nat) (s:Sd) (l:List St) (t:Sd):Prop where
 wf:zaK l=true
 df:je c false l=true
 ar:je c true l=true
 dp:j6 l=false
 n:nS l+t.1.length≤s.1.length
 w:(wS l:Int)+s.2=t.2
 wb:t.2≤10
 m:∀ d,mS l d≤d+k
theorem zkB {c:Sc}{k:Nat}{step:Sd→St×Sd} (h:∀ s:Sd,s.1≠[]→0≤s.2→s.2≤10→StOk c k s (step s).1 (step s).2):∀ (n:Nat) (s:Sd),0≤s.2→s.2≤10→StsOk c k s (zaX step n s).1 (zaX step n s).2
 | 0,s,h0,h1=>⟨rfl,rfl,rfl,rfl,by simp[zaX,nS],by simp[zaX,wS],h1,fun d=>by simp[zaX,mS]⟩
 | n+1,s,h0,h1=>by
   rw[zaX]
   by_cases hs:s.1=[]
   ·rw[if_pos hs]
    exact⟨rfl,rfl,rfl,rfl,by simp[nS],by simp[wS],h1,fun d=>by simp[mS]⟩
   ·rw[if_neg hs]
    have a:=h s hs h0 h1
    have aw:=a.w
    have b:=zkB h n (step s).2 (by omega) a.wb
    have bw:=b.w
    have an:=a.n
    have bn:=b.n
    refine⟨?_,?_,?_,?_,?_,?_,b.wb,fun d=>?_⟩
    ·simp only[zaK,a.wf,b.wf];rfl
    ·simp only[je,a.df,b.df];rfl
    ·simp only[je,a.ar,b.ar];rfl
    ·simp only[j6,a.dp,b.dp];rfl
    ·simp only[nS];omega
    ·simp only[wS];omega
    ·have:=a.m d;have:=b.m d
     simp only[mS];omega
theorem zE_ok (f:Int):zeroE zE=true∧zaw (yF f) anG zE=true∧zau zE=0:=⟨by simp[zeroE,zE,Ex.kind,Ex.n,Ex.op,Ex.name,Ex.kids],by simp[zE,zaw,jS,zcq,Ex.kind],by simp[zE,zau,zc0]⟩
theorem zrV {f:Int}{c:Sc} (hc:ScG f c) {k:Nat}{sub:Int→Sd→List St×Sd}{s:Sd}{L1:List Int}{q m:Int} (hL:L1.length < s.1.length) (hm:0≤m) (hm1:m < 1000) (h0:0≤s.2) (h1:s.2≤10) (hq:10≤q→s.2 < 10) (hq0:0≤q)
 (hs:8≤q→q < 12→1≤k∧∀ (most:Int) (s:Sd),0≤s.2→s.2≤10→StsOk c (k - 1) s (sub most s).1 (sub most s).2):StOk c k s (jH sub f L1 s.2 q m).1 (jH sub f L1 s.2 q m).2:=by
 obtain⟨z1,z2,z3⟩:=zE_ok f
 obtain⟨n1',n2'⟩:=zrT f (zrS f hm)
 obtain⟨a1,a2⟩:=zrU m
 have g1:=fg_ok m
 obtain⟨g2,g3⟩:=hc.to m hm
 have e50:=zaN f 5 0 L1 (by omega) (by omega)
 have e32:=zaN f 3 2 L1 (by omega) (by omega)
 have e41:=zaN f 4 1 L1 (by omega) (by omega)
 have e43:=zaN f 4 1 (zG f 3 2 L1).2 (by omega) (by omega)
 have l50:=zL f 5 0 L1
 have l32:=zL f 3 2 L1
 have l41:=zL f 4 1 L1
 have l43:=zL f 4 1 (zG f 3 2 L1).2
 obtain⟨r1,r2,r3,r4⟩:=zl9 f (2 - m.tmod 2).toNat L1
 have lar:=zgF f (2 - m.tmod 2).toNat L1
 have d50:¬ (20:Int) < zau (zG f 5 0 L1).1:=by have:=e50.dp;omega
 have d32:¬ (20:Int) < zau (zG f 3 2 L1).1:=by have:=e32.dp;omega
 have d41:¬ (20:Int) < zau (zG f 4 1 L1).1:=by have:=e41.dp;omega
 have d43:¬ (20:Int) < zau (zG f 4 1 (zG f 3 2 L1).2).1:=by have:=e43.dp;omega
 rw[jH]
 generalize (yF f).getD (m.tmod (yF f).length).toNat []=nm at n1' n2' ⊢
 have hv:=hc.vars
 have ha:=hc.an
 by_cases c1:q < 6
 ·rw[if_pos c1]
  refine⟨?_,?_,?_,?_,?_,?_,h1,fun d=>?_⟩
  ·simp[ze8,zaK,zbp,zaJ,zck,zd1,St.kind,St.thn,St.els,St.name,St.to,St.n,St.at_,St.value,St.args,n1',z1,e50.wf]
  ·simp[zbA,je,zcl,jS,zak,St.kind,St.name,St.at_,St.value,St.args,hv,ha,n2',z2,e50.df]
  ·simp[zbA,je,arK,St.kind]
  ·simp[zdD,j6,z3,d50]
  ·simp only[n1,nS];omega
  ·simp[w1,wS]
  ·simp[m1,mS]
 rw[if_neg c1]
 by_cases c2:q < 8
 ·rw[if_pos c2]
  refine⟨?_,?_,?_,?_,?_,?_,h1,fun d=>?_⟩
  ·simp[ze8,zaK,zbp,zaJ,zck,zd1,St.kind,St.thn,St.els,St.name,St.to,St.n,St.at_,St.value,St.args,a1,e32.wf,e43.wf]
  ·simp[zbA,je,zcl,jS,zak,St.kind,St.name,St.at_,St.value,St.args,hv,ha,a2,e32.df,e43.df]
  ·simp[zbA,je,arK,St.kind]
  ·simp[zdD,j6,d32,d43]
  ·simp only[n1,nS];omega
  ·simp[w1,wS]
  ·simp[m1,mS]
 rw[if_neg c2]
 by_cases c3:q < 10
 ·rw[if_pos c3]
  obtain⟨hk,hsub⟩:=hs (by omega) (by omega)
  have sa:=hsub 3 ((zG f 4 1 L1).2,s.2) h0 h1
  have saw:=sa.w
  have san:=sa.n
  have sb:=hsub 2 (sub 3 ((zG f 4 1 L1).2,s.2)).2 (by simp only at saw;omega) sa.wb
  have sbw:=sb.w
  have sbn:=sb.n
  refine⟨?_,?_,?_,?_,?_,?_,sb.wb,fun d=>?_⟩
  ·simp[ze8,zbp,zaJ,zck,zik,St.kind,St.thn,St.els,St.name,St.to,St.n,St.at_,St.value,St.args,z1,e41.wf,sa.wf,sb.wf]
  ·simp[zbA,zcl,jS,zak,St.kind,St.name,St.at_,St.value,St.args,hv,ha,z2,e41.df,sa.df,sb.df]
  ·simp[zbA,arK,St.kind,sa.ar,sb.ar]
  ·simp[zdD,z3,d41,sa.dp,sb.dp]
  ·simp only[n1];simp only at san;omega
  ·simp only[w1];simp only at saw;rw[if_neg (by omega)];omega
  ·have:=sa.m (d+1);have:=sb.m (d+1)
   simp only[m1];omega
 rw[if_neg c3]
 by_cases c4:q < 12
 ·rw[if_pos c4]
  obtain⟨hk,hsub⟩:=hs (by omega) (by omega)
  have hlt:=hq (by omega)
  have hw:w64 (s.2+1)=s.2+1:=by unfold w64;rw[zav (by omega) (by omega)]
  rw[hw]
  have sa:=hsub 3 ((zG f 4 1 L1).2,s.2+1) (by simp only;omega) (by simp only;omega)
  have saw:=sa.w
  have san:=sa.n
  refine⟨?_,?_,?_,?_,?_,?_,sa.wb,fun d=>?_⟩
  ·simp[ze8,zaK,zbp,zaJ,zck,zik,St.kind,St.thn,St.els,St.name,St.to,St.n,St.at_,St.value,St.args,z1,e41.wf,sa.wf]
  ·simp[zbA,je,zcl,jS,zak,St.kind,St.name,St.at_,St.value,St.args,hv,ha,z2,e41.df,sa.df]
  ·simp[zbA,je,arK,St.kind,sa.ar]
  ·simp[zdD,j6,z3,d41,sa.dp]
  ·simp only[n1,nS];simp only at san;omega
  ·simp only[w1,wS];simp only at saw;simp only[if_true];omega
  ·have:=sa.m (d+1)
   simp only[m1,mS];omega
 rw[if_neg c4]
 by_cases c5:q < 14
 ·rw[if_pos c5]
  refine⟨?_,?_,?_,?_,?_,?_,h1,fun d=>?_⟩
  ·simp[ze8,zaK,zbp,zaJ,zck,zd1,zik,St.kind,St.thn,St.els,St.name,St.to,St.n,St.at_,St.value,St.args,z1,e41.wf]
  ·simp[zbA,je,zcl,jS,zak,St.kind,St.name,St.at_,St.value,St.args,hv,ha,z2,e41.df]
  ·simp[zbA,je,arK,St.kind]
  ·simp[zdD,j6,z3,d41]
  ·simp only[n1,nS];omega
  ·simp[w1,wS]
  ·simp[m1,mS]
 rw[if_neg c5]
 by_cases c6:q < 15
 ·rw[if_pos c6]
  refine⟨?_,?_,?_,?_,?_,?_,h1,fun d=>?_⟩
  ·simp[ze8,zaK,zbp,zck,zd1,St.kind,St.thn,St.els,St.name,St.to,St.n,St.at_,St.value,St.args,n1',z1,g1,r1]
  ·simp[zbA,je,zcl,zak,St.kind,St.name,St.to,St.at_,St.value,St.args,hv,ha,z2,n2',g2,r2]
  ·have:(((jK f (2 - m.tmod 2).toNat L1).1.length:Nat):Int)=zi4 c.p (fgG m):=by rw[r4,g3]
   simp[zbA,je,arK,St.kind,St.args,St.to,this]
  ·simp only[zdD,j6,z3,r3];decide
  ·simp only[n1,nS];omega
  ·simp[w1,wS]
  ·simp[m1,mS]
 rw[if_neg c6]
 refine⟨?_,?_,?_,?_,?_,?_,h1,fun d=>?_⟩
 ·have e:m≤1000000:=by omega
  simp[ze8,zaK,zbp,zaJ,zck,zd1,St.kind,St.thn,St.els,St.name,St.to,St.n,St.at_,St.value,St.args,z1,hm,e]
 ·simp[zbA,je,zcl,jS,zak,St.kind,St.name,St.at_,St.value,St.args,hv,ha,z2]
 ·simp[zbA,je,arK,St.kind]
 ·simp[zdD,j6,z3]
 ·simp only[n1,nS];omega
 ·simp[w1,wS]
 ·simp[m1,mS]
theorem zrW {L:List Int} (h:L≠[]):(zI L).2.length < L.length:=by
 cases L with
 | nil=>exact absurd rfl h
 | cons a l=>simp[zI]
theorem StsOk.more {c:Sc}{k:Nat}{s s':Sd}{l:List St}{t:Sd} (h:StsOk c k s' l t) (h1:s'.1.length≤s.1.length) (h2:s'.2=s.2):StsOk c k s l t:=⟨h.wf,h.df,h.ar,h.dp,Nat.le_trans h.n h1,h2 ▸ h.w,h.wb,h.m⟩
theorem zma {f:Int}{c:Sc} (hc:ScG f c):∀ (k deep:Nat),4≤deep+k→deep≤3→∀ s:Sd,s.1≠[]→0≤s.2→s.2≤10→StOk c (k - 1) s (jw f k deep s).1 (jw f k deep s).2
 | 0,deep,h1,h2=>by omega
 | k+1,deep,h1,h2=>fun s hs h0 h10=>by
   have hm:=yB (n:=w64 ((zI s.1).1.tdiv 16)) (m:=1000) (by omega) (by omega)
   have hq:=yB (n:=(zI s.1).1) (m:=16) (by omega) (by omega)
   rw[jw,zg9]
   refine zrV hc (zrW hs) hm.1 hm.2 h0 h10 ?_ ?_ ?_
   ·unfold ziK;split<;>omega
   ·unfold ziK;split<;>omega
   ·intro a b
    have hd:deep≤2:=by
     unfold ziK at a b
     split at a<;>omega
    have e:k+1 - 1 - 1=k - 1:=by omega
    rw[e]
    refine⟨by omega,fun most s g0 g1=>StsOk.more (zkB (fun s hs h0 h1=>?_) _ ((zI s.1).2,s.2) g0 g1) (yN _) rfl⟩
    exact zma hc k (deep+1) (by omega) (by omega) s hs h0 h1
theorem zev {f:Int}{c:Sc} (hc:ScG f c) {k deep:Nat} (h1:4≤deep+k) (h2:deep≤3) (most:Int) {s:Sd} (h3:0≤s.2) (h4:s.2≤10):StsOk c (k - 1) s (zae f k deep most s).1 (zae f k deep most s).2:=
 StsOk.more (zkB (fun s hs h0 h1'=>zma hc k deep h1 h2 s hs h0 h1') _ ((zI s.1).2,s.2) h3 h4) (yN _) rfl
theorem findG (L:List Int):yn [jP L,z8 L] [102] 0=0∧yn [jP L,z8 L] [103] 0=1:=⟨rfl,rfl⟩
theorem scG (f:Int) (l:List Int) {F:Fu} (h:F.params++F.locals=yF f):ScG f (j7 (yG l) F):=by
 refine⟨h,rfl,fun m hm=>?_⟩
 have h1:=Int.tmod_nonneg 2 hm
 have h2:=Int.tmod_lt_of_pos m (show(0:Int) < 2 by omega)
 show 0≤yn [jP (l.take 60),z8 (l.take 60)] (fgG m) 0∧_
 unfold fgG
 by_cases e:m.tmod 2=0
 ·rw[if_pos e,e];exact⟨by rw[(findG _).1];omega,rfl⟩
 ·rw[if_neg e,show m.tmod 2=1 by omega];exact⟨by rw[(findG _).2];omega,rfl⟩
theorem zkC (l:List Int):yH (yG l)=0:=by
 have hl:(l.take 60).length≤60:=by simp;omega
 have c0:ScG 0 (j7 (yG l) (jP (l.take 60))):=scG 0 l rfl
 have c1:ScG 1 (j7 (yG l) (z8 (l.take 60))):=scG 1 l rfl
 obtain⟨L,hL⟩:∃ L,l.take 60=L:=⟨_,rfl⟩
 rw[hL]at hl c0 c1
 have b1:StsOk (j7 (yG l) (jP L)) 3 ((zI L).2,0) (yx L).1 (yx L).2:=zev c0 (k:=4) (deep:=0) (by omega) (by omega) 5 (s:=((zI L).2,0)) (by simp) (by simp)
 have v1:ExOk 0 4 (jI L).1:=zaN 0 4 1 _ (by omega) (by omega)
 have b1w:=b1.w
 have b2:StsOk (j7 (yG l) (z8 L)) 2 ((jI L).2,(yx L).2.2) (jx L).1 (jx L).2:=zev c1 (k:=3) (deep:=1) (by omega) (by omega) 3 (s:=((jI L).2,(yx L).2.2)) (by simp only at b1w ⊢;omega) b1.wb
 have v2:ExOk 1 4 (zdE L).1:=zaN 1 4 1 _ (by omega) (by omega)
 have b1n:=b1.n
 have b2n:=b2.n
 have b2w:=b2.w
 have b1b:=b1.wb
 have b2b:=b2.wb
 simp only at b1n b2n b1w b2w
 have n0:=yN L
 have n1:(jI L).2.length≤(yx L).2.1.length:=zL 0 4 1 _
 have p1:=yB (n:=(zI L).1) (m:=4) (by omega) (by omega)
 have p2:=yB (n:=w64 ((zI L).1.tdiv 4)) (m:=4) (by omega) (by omega)
 have hp:yG l=⟨za9 L,[jP L,z8 L]⟩:=by rw[yG,hL]
 have m1:=b1.m 0
 have m2:=b2.m 0
 have d1:=v1.dp
 have d2:=v2.dp
 have hex:exB (yG l)=false:=by
  rw[hp]
  simp only[exB,za9,List.any_cons,List.any_nil,exAr,zgv,jP,z8,List.length_cons,List.length_nil,b1.dp,b2.dp,Bool.or_false,Bool.or_eq_false_iff,decide_eq_false_iff_not]
  refine⟨⟨⟨decide_eq_false (by omega),?_⟩,?_⟩,?_⟩<;>omega
 have hwf:wfP (yG l)=true:=by
  rw[hp]
  have q:∀ s∈([[102],[103],[120],[121],[105],[106],[110],[97],[98]]:List (List UInt8)),yA s=true:=by
   intro s hs
   simp only[List.mem_cons,List.not_mem_nil,or_false]at hs
   rcases hs with rfl|rfl|rfl|rfl|rfl|rfl|rfl|rfl|rfl<;>kernel_rfl
  simp only[wfP,za9,List.all_cons,List.all_nil,zd2,fnNames,jP,z8,List.cons_append,List.nil_append,b1.wf,b2.wf,v1.wf,v2.wf,Bool.and_true,Bool.and_eq_true]
  simp[q]
 have hdu:zgw (yG l)=false:=by rw[hp];kernel_rfl
 have hun:(yG l).funcs.any (zbS (yG l))=false:=by
  have e:(yG l).funcs=[jP L,z8 L]:=by rw[hp]
  rw[e]
  have w1:zaw (j7 (yG l) (jP L)).vars (j7 (yG l) (jP L)).an (jP L).value=true:=by rw[c0.vars,c0.an];exact v1.df
  have w2:zaw (j7 (yG l) (z8 L)).vars (j7 (yG l) (z8 L)).an (z8 L).value=true:=by rw[c1.vars,c1.an];exact v2.df
  have x1:je (j7 (yG l) (jP L)) false (jP L).body=true:=b1.df
  have x2:je (j7 (yG l) (z8 L)) false (z8 L).body=true:=b2.df
  simp only[List.any_cons,List.any_nil,zbS,w1,w2,x1,x2];rfl
 have hba:(yG l).funcs.any (zcD (yG l))=false:=by
  have e:(yG l).funcs=[jP L,z8 L]:=by rw[hp]
  rw[e]
  have x1:je (j7 (yG l) (jP L)) true (jP L).body=true:=b1.ar
  have x2:je (j7 (yG l) (z8 L)) true (z8 L).body=true:=b2.ar
  simp only[List.any_cons,List.any_nil,zcD,x1,x2];rfl
 rw[yH,hex,hwf,hdu,hun,hba];rfl
def RgL (L:List Int):Prop:=∀ n∈L,jG n
theorem zeb {L:List Int} (h:RgL L):jG (zI L).1∧RgL (zI L).2:=by
 cases L with
 | nil=>exact⟨by show jG 0;unfold jG;omega,h⟩
 | cons a l=>exact⟨h a List.mem_cons_self,fun n hn=>h n (List.mem_cons_of_mem _ hn)⟩
theorem w64_rg (n:Int):jG (w64 n):=by
 unfold w64 jG
 rw[IntKind.wrap_i64];omega
theorem zrX {n raw:Int} (h:jG raw):jG (zeL n raw):=by
 unfold zeL
 split
 ·have e:∀ k,jG (znb.getD k 0):=fun k=>by
   by_cases c:k < 10
   ·have:∀ k:_root_.Fin 10,jG (znb.getD k.1 0):=by unfold jG;decide
    exact this ⟨k,c⟩
   ·rw[List.getD_eq_getElem?_getD,List.getElem?_eq_none (by simp[znb];omega)]
    show jG 0;unfold jG;omega
  exact e _
 split
 ·exact w64_rg _
 ·exact h
theorem in0:jG 0:=by unfold jG;omega
theorem zaO (f:Int):∀ (k deep:Nat) (L:List Int),RgL L→rgE (zG f k deep L).1∧RgL (zG f k deep L).2
 | 0,deep,L,h=>⟨by simp[zG,rgE,zbj,in0],h⟩
 | k+1,deep,L,h=>by
   have ih:=zaO f k (deep+1)
   obtain⟨h1,h2⟩:=zeb h
   simp only[zG]
   generalize ym (zI L).1 16=q
   generalize ym (w64 ((zI L).1.tdiv 16)) 1000=m
   split
   ·split
    ·exact⟨by simp[rgE,zbj,in0],h2⟩
    ·exact⟨by simp only[rgE,zbj,and_true];exact zrX h1,h2⟩
   ·have a:=ih _ h2
    have b:=ih _ a.2
    have c:=ih _ b.2
    split
    ·exact⟨by simp only[rgE,zbj,and_true];exact⟨in0,a.1⟩,a.2⟩
    ·split
     ·exact⟨by simp only[rgE,zbj,and_true];exact⟨in0,a.1,b.1,c.1⟩,c.2⟩
     ·split
      ·exact⟨by simp only[rgE,zbj,and_true];exact⟨in0,a.1⟩,a.2⟩
      ·exact⟨by simp only[rgE,zbj,and_true];exact⟨in0,a.1,b.1⟩,b.2⟩
theorem zmb (f:Int):∀ (n:Nat) (L:List Int),RgL L→zbj (jK f n L).1∧RgL (jK f n L).2
 | 0,L,h=>⟨by simp[jK,zbj],h⟩
 | n+1,L,h=>by
   have a:=zaO f 3 2 L h
   have b:=zmb f n _ a.2
   rw[jK]
   exact⟨by rw[zbj];exact⟨a.1,b.1⟩,b.2⟩
theorem zeN:rgE zE:=by simp[zE,rgE,zbj,in0]
theorem zrY {sub:Int→Sd→List St×Sd} (hs:∀ most s,RgL s.1→rgS (sub most s).1∧RgL (sub most s).2.1) (f:Int) (L1:List Int) (c q m:Int) (h:RgL L1):rg1 (jH sub f L1 c q m).1∧RgL (jH sub f L1 c q m).2.1:=by
 unfold jH
 split
 ·have a:=zaO f 5 0 L1 h
  exact⟨by simp only[rg1,zbj,rgS,and_true,true_and];exact⟨zeN,a.1⟩,a.2⟩
 split
 ·have a:=zaO f 3 2 L1 h
  have b:=zaO f 4 1 _ a.2
  exact⟨by simp only[rg1,zbj,rgS,and_true,true_and];exact⟨a.1,b.1⟩,b.2⟩
 split
 ·have a:=zaO f 4 1 L1 h
  have b:=hs 3 ((zG f 4 1 L1).2,c) a.2
  have d:=hs 2 (sub 3 ((zG f 4 1 L1).2,c)).2 b.2
  exact⟨by simp only[rg1,zbj,rgS,and_true,true_and];exact⟨zeN,a.1,b.1,d.1⟩,d.2⟩
 split
 ·have a:=zaO f 4 1 L1 h
  have b:=hs 3 ((zG f 4 1 L1).2,w64 (c+1)) a.2
  exact⟨by simp only[rg1,zbj,rgS,and_true,true_and];exact⟨zeN,a.1,b.1⟩,b.2⟩
 split
 ·have a:=zaO f 4 1 L1 h
  exact⟨by simp only[rg1,zbj,rgS,and_true,true_and];exact⟨zeN,a.1⟩,a.2⟩
 split
 ·have a:=zmb f (2 - m.tmod 2).toNat L1 h
  exact⟨by simp only[rg1,zbj,rgS,and_true,true_and];exact⟨zeN,zeN,a.1⟩,a.2⟩
 ·exact⟨by simp only[rg1,zbj,rgS,and_true,true_and];exact⟨zeN,zeN⟩,h⟩
theorem zkD {step:Sd→St×Sd} (hs:∀ s,RgL s.1→rg1 (step s).1∧RgL (step s).2.1):∀ (n:Nat) (s:Sd),RgL s.1→rgS (zaX step n s).1∧RgL (zaX step n s).2.1
 | 0,s,h=>⟨by simp[zaX,rgS],h⟩
 | n+1,s,h=>by
   have a:=hs s h
   have b:=zkD hs n _ a.2
   rw[zaX]
   split
   ·exact⟨by simp[rgS],h⟩
   ·exact⟨by rw[rgS];exact⟨a.1,b.1⟩,b.2⟩
theorem zmc (f:Int):∀ (k deep:Nat) (s:Sd),RgL s.1→rg1 (jw f k deep s).1∧RgL (jw f k deep s).2.1
 | 0,deep,s,h=>⟨by simp only[jw,rg1,zbj,rgS,and_true,true_and];exact⟨zeN,zeN⟩,h⟩
 | k+1,deep,s,h=>by
   have ih:=zmc f k (deep+1)
   rw[jw,zg9]
   exact zrY (fun most s hs=>zkD ih _ ((zI s.1).2,s.2) (zeb hs).2) f _ _ _ _ (zeb h).2
theorem zjH (f:Int) (k deep:Nat) (most:Int) (s:Sd) (h:RgL s.1):rgS (zae f k deep most s).1∧RgL (zae f k deep most s).2.1:=
 zkD (zmc f k deep) _ ((zI s.1).2,s.2) (zeb h).2
theorem zkE {l:List Int} (h:RgL l):∀ f∈(yG l).funcs,rgS f.body∧rgE f.value:=by
 have h60:RgL (l.take 60):=fun n hn=>h n (List.mem_of_mem_take hn)
 have b1:=zjH 0 4 0 5 ((zI (l.take 60)).2,0) (zeb h60).2
 have v1:=zaO 0 4 1 (yx (l.take 60)).2.1 b1.2
 have b2:=zjH 1 3 1 3 ((jI (l.take 60)).2,(yx (l.take 60)).2.2) v1.2
 have v2:=zaO 1 4 1 (jx (l.take 60)).2.1 b2.2
 intro f hf
 simp only[yG,List.mem_cons,List.not_mem_nil,or_false]at hf
 rcases hf with rfl|rfl
 ·exact⟨b1.1,v1.1⟩
 ·exact⟨b2.1,v2.1⟩
theorem zop:∀ {a b:List St},rgS a→rgS b→rgS (a++b)
 | [],b,_,h=>h
 | x::a,b,h,k=>by rw[rgS]at h;rw[List.cons_append,rgS];exact⟨h.1,zop h.2 k⟩
theorem zrZ (f:Int) (i:Nat):((yF f).getD i []).length≤1:=by
 have h:∀ s∈yF f,s.length≤1:=by
  intro s hs
  unfold yF at hs
  split at hs<;>simp only[List.mem_cons,List.not_mem_nil,or_false]at hs
  ·rcases hs with rfl|rfl|rfl|rfl<;>simp
  ·rcases hs with rfl|rfl<;>simp
 rw[List.getD_eq_getElem?_getD]
 cases e:(yF f)[i]? with
 | none=>simp
 | some s=>exact h s (List.mem_of_getElem? e)
theorem zoq (m:Int):(zkv m).length=1:=by unfold zkv;split<;>rfl
theorem fg_len (m:Int):(fgG m).length=1:=by unfold fgG;split<;>rfl
def bE:Nat→Nat
 | 0=>2
 | k+1=>5+3 * bE k
theorem zbM (f:Int):∀ (k deep:Nat) (L:List Int),(zG f k deep L).1.sz≤bE k
 | 0,deep,L=>by simp[zG,Ex.sz,yk,bE]
 | k+1,deep,L=>by
   have ih:=zbM f k (deep+1)
   simp only[zG,bE]
   generalize ym (zI L).1 16=q
   generalize ym (w64 ((zI L).1.tdiv 16)) 1000=m
   split
   ·split
    ·have:=zrZ f (m.tmod (yF f).length).toNat
     simp only[Ex.sz,yk];omega
    ·simp only[Ex.sz,yk,List.length_nil];omega
   ·split
    ·have:=zoq m
     have:=ih (zI L).2
     simp only[Ex.sz,yk];omega
    ·split
     ·have:=ih (zI L).2
      have:=ih (zG f k (deep+1) (zI L).2).2
      have:=ih (zG f k (deep+1) (zG f k (deep+1) (zI L).2).2).2
      simp only[Ex.sz,yk,List.length_nil];omega
     ·split
      ·have:=ih (zI L).2
       simp only[Ex.sz,yk,List.length_nil];omega
      ·have:=ih (zI L).2
       have:=ih (zG f k (deep+1) (zI L).2).2
       simp only[Ex.sz,yk,List.length_nil];omega
theorem zmd (f:Int):∀ (n:Nat) (L:List Int),yk (jK f n L).1≤200 * n
 | 0,_=>by simp[jK,yk]
 | n+1,L=>by
   have:=zmd f n (zG f 3 2 L).2
   have:=zbM f 3 2 L
   have:bE 3≤150:=by decide
   rw[jK,yk];omega
theorem zr0 {sub:Int→Sd→List St×Sd} (hs:∀ most s,zy (sub most s).1≤10000 * nS (sub most s).1) (f:Int) (L1:List Int) (c q m:Int):(jH sub f L1 c q m).1.sz+1≤10000 * n1 (jH sub f L1 c q m).1:=by
 have e5:bE 5≤1200:=by decide
 have e4:bE 4≤1200:=by decide
 have e3:bE 3≤1200:=by decide
 have e50:=zbM f 5 0 L1
 have e32:=zbM f 3 2 L1
 have e41:=zbM f 4 1 L1
 have e43:=zbM f 4 1 (zG f 3 2 L1).2
 have z:zE.sz=1:=rfl
 have n1':=zrZ f (m.tmod (yF f).length).toNat
 have a1:=zoq m
 have g1:=fg_len m
 have r:=zmd f (2 - m.tmod 2).toNat L1
 have r2:(2 - m.tmod 2).toNat≤4:=by
  have:-2 < m.tmod 2:=by
   have:=Int.tmod_lt_of_pos (-m) (show(0:Int) < 2 by omega)
   rw[Int.neg_tmod]at this
   omega
  omega
 rw[jH]
 split
 ·simp only[St.sz,n1,nS,yk,zy,List.length_nil];omega
 split
 ·simp only[St.sz,n1,nS,yk,zy,List.length_nil];omega
 split
 ·have s1:=hs 3 ((zG f 4 1 L1).2,c)
  have s2:=hs 2 (sub 3 ((zG f 4 1 L1).2,c)).2
  simp only[St.sz,n1,nS,yk,zy,List.length_nil];omega
 split
 ·have s1:=hs 3 ((zG f 4 1 L1).2,w64 (c+1))
  simp only[St.sz,n1,nS,yk,zy,List.length_nil];omega
 split
 ·simp only[St.sz,n1,nS,yk,zy,List.length_nil];omega
 split
 ·simp only[St.sz,n1,nS,yk,zy,List.length_nil];omega
 ·simp only[St.sz,n1,nS,yk,zy,List.length_nil];omega
theorem zkF {step:Sd→St×Sd} (h:∀ s,(step s).1.sz+1≤10000 * n1 (step s).1):∀ (n:Nat) (s:Sd),zy (zaX step n s).1≤10000 * nS (zaX step n s).1
 | 0,s=>by simp[zaX,zy,nS]
 | n+1,s=>by
   rw[zaX]
   split
   ·simp[zy,nS]
   ·have:=h s
    have:=zkF h n (step s).2
    simp only[zy,nS];omega
theorem zme (f:Int):∀ (k deep:Nat) (s:Sd),(jw f k deep s).1.sz+1≤10000 * n1 (jw f k deep s).1
 | 0,deep,s=>by
   have z:zE.sz=1:=rfl
   simp only[jw,St.sz,n1,nS,yk,zy,List.length_nil];omega
 | k+1,deep,s=>by
   rw[jw,zg9]
   exact zr0 (fun most s=>zkF (zme f k (deep+1)) _ _) f _ _ _ _
theorem zjI (f:Int) (k deep:Nat) (most:Int) (s:Sd):zy (zae f k deep most s).1≤10000 * nS (zae f k deep most s).1:=zkF (zme f k deep) _ _
theorem ziO (l:List Int):(yG l).sz < 2 ^ 24:=by
 have hex:exB (yG l)=false:=by
  have h:=zkC l
  rw[yH]at h
  cases e:exB (yG l)with
  | false=>rfl
  | true=>rw[if_pos e]at h;omega
 have b1:=zjI 0 4 0 5 ((zI (l.take 60)).2,0)
 have b2:=zjI 1 3 1 3 ((jI (l.take 60)).2,(yx (l.take 60)).2.2)
 have v1:(jI (l.take 60)).1.sz≤bE 4:=zbM 0 4 1 _
 have v2:(zdE (l.take 60)).1.sz≤bE 4:=zbM 1 4 1 _
 have e4:bE 4≤1200:=by decide
 rw[yG]at hex ⊢
 generalize l.take 60=L at *
 change zy (yx L).1≤10000 * nS (yx L).1 at b1
 change zy (jx L).1≤10000 * nS (jx L).1 at b2
 simp only[exB,List.any_cons,List.any_nil,Bool.or_false,Bool.or_eq_false_iff,zgv,jP,z8,decide_eq_false_iff_not]at hex
 obtain⟨_,h1,h2⟩:=hex
 have n1:¬ (200:Int) < nS (yx L).1:=h1.1.1.1.1.2
 have n2:¬ (200:Int) < nS (jx L).1:=h2.1.1.1.1.2
 simp only[Pr.sz,zaj,za0,za9,jP,z8,Fu.sz,yL,List.length_cons,List.length_nil]
 omega
mutual
def cE:Ex→Nat
 | .mk k _ _ _ ks=>if k=1 then 1 else if k=2 then 0 else 4+cEs ks
def cEs:List Ex→Nat
 | []=>0
 | e::es=>cE e+cEs es
end
theorem cE_eq (x:Ex):cE x=if x.kind=1 then 1 else if x.kind=2 then 0 else 4+cEs x.kids:=by cases x;rw[cE];rfl
mutual
def c1:St→Nat
 | .mk k _ _ _ a v args th el=>if k=1 then cE v else if k=2 then cE a+cE v+4 else if k=3 then cE v+cSs th+cSs el+5 else if k=4 then 2 * cE v+cSs th+16 else if k=5 then cE v+1 else if k=6 then cEs args+2 else if k=7 then 2 else 0
def cSs:List St→Nat
 | []=>0
 | x::l=>c1 x+cSs l
end
theorem c1_eq (x:St):c1 x=if x.kind=1 then cE x.value else if x.kind=2 then cE x.at_+cE x.value+4 else if x.kind=3 then cE x.value+cSs x.thn+cSs x.els+5 else if x.kind=4 then 2 * cE x.value+cSs x.thn+16 else if x.kind=5 then cE x.value+1 else if x.kind=6 then cEs x.args+2 else if x.kind=7 then 2 else 0:=by cases x;rw[c1];rfl
theorem zr1 {ks:List Ex}{a:Ex} (h:ks[0]?=some a):cE a≤cEs ks:=by
 match ks,h with
 | x::l,h=>
   simp only[List.getElem?_cons_zero,Option.some.injEq]at h
   subst h;rw[cEs];omega
theorem cEs_2 {ks:List Ex}{a b:Ex} (h:ks[0]?=some a) (k:ks[1]?=some b):cE a+cE b≤cEs ks:=by
 match ks,h,k with
 | x::l,h,k=>
   simp only[List.getElem?_cons_zero,List.getElem?_cons_succ,Option.some.injEq]at h k
   subst h;rw[cEs];have:=zr1 k;omega
theorem cEs_3 {ks:List Ex}{a b c:Ex} (h:ks[0]?=some a) (k:ks[1]?=some b) (m:ks[2]?=some c):cE a+cE b+cE c≤cEs ks:=by
 match ks,h,k,m with
 | x::l,h,k,m=>
   simp only[List.getElem?_cons_zero,List.getElem?_cons_succ,Option.some.injEq]at h k m
   subst h;rw[cEs];have:=cEs_2 k m;omega
theorem jJ (n:Nd) (s:Bd):(zn n s).2.l.length≤s.l.length+1:=ziL _ _
theorem zc6 (c a b:Int) (s:Bd):(zw c a b s).2.l.length≤s.l.length+1:=by
 unfold zw
 split
 ·exact Nat.le_succ _
 ·exact jJ _ _
theorem ziP (t v:Int) (s:Bd):(zbQ t v s).l.length≤s.l.length+1:=jJ _ _
theorem zr6 (n i:Int) (s:Bd):(zbi n i s).l.length≤s.l.length+3:=by
 have a:=jJ ⟨1,n,[]⟩ s
 have b:=jJ ⟨19,0,[i,(zn ⟨1,n,[]⟩ s).1]⟩ (zn ⟨1,n,[]⟩ s).2
 have c:=ziP 2 (zn ⟨19,0,[i,(zn ⟨1,n,[]⟩ s).1]⟩ (zn ⟨1,n,[]⟩ s).2).1 (zn ⟨19,0,[i,(zn ⟨1,n,[]⟩ s).1]⟩ (zn ⟨1,n,[]⟩ s).2).2
 have e:(zbi n i s).l.length≤_:=c
 omega
theorem divB_n (v:Int) (s:Bd):(zgy v s).l.length≤s.l.length+3:=by
 have a:=jJ ⟨1,0,[]⟩ s
 have b:=jJ ⟨16,0,[v,(zn ⟨1,0,[]⟩ s).1]⟩ (zn ⟨1,0,[]⟩ s).2
 have c:=ziP 1 (zn ⟨16,0,[v,(zn ⟨1,0,[]⟩ s).1]⟩ (zn ⟨1,0,[]⟩ s).2).1 (zn ⟨16,0,[v,(zn ⟨1,0,[]⟩ s).1]⟩ (zn ⟨1,0,[]⟩ s).2).2
 have e:(zgy v s).l.length≤_:=c
 omega
theorem zeO (c:Cx):∀ (n:Nat) (x:Ex) (s:Bd) (r:Int×Bd),exL c n x s=some r→r.2.l.length≤s.l.length+cE x
 | 0,_,_,_,h=>by simp[exL]at h
 | n+1,x,s,r,h=>by
   have IH:=zeO c n
   rw[cE_eq]
   unfold exL at h
   by_cases h1:x.kind=1
   ·rw[if_pos h1]at h ⊢
    cases h;exact jJ _ s
   rw[if_neg h1]at h ⊢
   by_cases h2:x.kind=2
   ·rw[if_pos h2]at h ⊢
    obtain⟨v,_,rfl⟩:=Option.map_eq_some_iff.1 h;exact Nat.le_refl _
   rw[if_neg h2]at h ⊢
   split at h
   ·simp only[Option.bind_eq_some_iff,Option.some.injEq]at h
    obtain⟨k,hk,r1,h1,a,_,rfl⟩:=h
    have e1:=IH _ _ _ h1
    have e2:=zr6 a.len r1.1 r1.2
    have e3:=jJ ⟨23,ixS (c.arrays.map (·.name)) x.name,[(zbi a.len r1.1 r1.2).state,r1.1]⟩ (zbi a.len r1.1 r1.2)
    have e4:=zr1 hk
    show(zn _ _).2.l.length≤_
    omega
   split at h
   ·simp only[Option.bind_eq_some_iff,Option.some.injEq]at h
    obtain⟨k0,q0,r0,h0,k1,q1,r1,h1,k2,q2,r2,h2,rfl⟩:=h
    have e0:=IH _ _ _ h0
    have e1:=IH _ _ _ h1
    have e2':=IH _ _ _ h2
    have e2:r2.2.l.length≤r1.2.l.length+cE k2:=e2'
    have e3:=zc6 r0.1 r1.1 r2.1 r2.2
    have e4:=zc6 r0.1 r1.2.state (zw r0.1 r1.1 r2.1 r2.2).2.state (zw r0.1 r1.1 r2.1 r2.2).2
    have e5:=cEs_3 q0 q1 q2
    show(zw _ _ _ _).2.l.length≤_
    omega
   ·simp only[Option.bind_eq_some_iff]at h
    obtain⟨k0,q0,r0,h0,h⟩:=h
    have a:=IH _ _ _ h0
    split at h
    ·cases h
     have e1:=jJ ⟨x.op,0,[r0.1]⟩ r0.2
     have e4:=zr1 q0
     show(zn _ _).2.l.length≤_
     omega
    ·simp only[Option.bind_eq_some_iff,Option.some.injEq]at h
     obtain⟨k1,q1,r1,h1,rfl⟩:=h
     have b:=IH _ _ _ h1
     have e4:=cEs_2 q0 q1
     have e5:(if x.op=7∨x.op=8 then zgy r1.1 r1.2 else r1.2).l.length≤r1.2.l.length+3:=by
      split
      ·exact divB_n _ _
      ·omega
     have e6:=jJ ⟨x.op,0,[r0.1,r1.1]⟩ (if x.op=7∨x.op=8 then zgy r1.1 r1.2 else r1.2)
     show(zn _ _).2.l.length≤_
     omega
theorem zr7 (c:Cx) (n:Nat):∀ (l:List Ex) (s:Bd) (r:List Int×Bd),zfd c n l s=some r→r.2.l.length≤s.l.length+cEs l
 | [],s,r,h=>by cases h;exact Nat.le_refl _
 | x::l,s,r,h=>by
   unfold zfd at h
   simp only[Option.bind_eq_some_iff,Option.some.injEq]at h
   obtain⟨r1,h1,r2,h2,rfl⟩:=h
   have a:=zeO c n _ _ _ h1
   have b:=zr7 c n l _ _ h2
   rw[cEs]
   show r2.2.l.length≤_
   omega
theorem mvL_n (c:Int) (a:List Int):∀ (k i:Nat) (s r:Bd),mvL c a k i s=some r→r.l.length≤s.l.length+k
 | 0,i,s,r,h=>by cases h;exact Nat.le_refl _
 | k+1,i,s,r,h=>by
   unfold mvL at h
   simp only[Option.bind_eq_some_iff]at h
   obtain⟨x,_,y,_,h⟩:=h
   have e':=mvL_n c a k (i+1) _ r h
   have e:r.l.length≤(zw c x y s).2.l.length+k:=e'
   have:=zc6 c x y s
   omega
theorem lvL_n (base:Int):∀ (ws:List Nat) (j:Nat) (s:Bd),(lvL base ws j s).l.length≤s.l.length+ws.length
 | [],j,s=>Nat.le_refl _
 | w::ws,j,s=>by
   rw[zlT]
   have a:=lvL_n base ws (j+1) { (zn ⟨3,base+j,[]⟩ s).2 with vars:=(zn ⟨3,base+j,[]⟩ s).2.vars.set w (zn ⟨3,base+j,[]⟩ s).1 }
   have b:=jJ ⟨3,base+j,[]⟩ s
   rw[List.length_cons]
   have e:({ (zn ⟨3,base+j,[]⟩ s).2 with vars:=(zn ⟨3,base+j,[]⟩ s).2.vars.set w (zn ⟨3,base+j,[]⟩ s).1 }:Bd).l.length=(zn ⟨3,base+j,[]⟩ s).2.l.length:=rfl
   omega
theorem lrL_n (lp c:Int) (old:List Int):∀ (ws:List Nat) (j:Nat) (s:Bd),(lrL lp c old ws j s).l.length≤s.l.length+2 * ws.length
 | [],j,s=>Nat.le_refl _
 | w::ws,j,s=>by
   rw[zf1]
   have a:=lrL_n lp c old ws (j+1) { (zw c (zn ⟨25,j,[lp]⟩ s).1 (old.getD w 0) (zn ⟨25,j,[lp]⟩ s).2).2 with vars:=(zw c (zn ⟨25,j,[lp]⟩ s).1 (old.getD w 0) (zn ⟨25,j,[lp]⟩ s).2).2.vars.set w (zw c (zn ⟨25,j,[lp]⟩ s).1 (old.getD w 0) (zn ⟨25,j,[lp]⟩ s).2).1 }
   have b:=jJ ⟨25,j,[lp]⟩ s
   have d:=zc6 c (zn ⟨25,j,[lp]⟩ s).1 (old.getD w 0) (zn ⟨25,j,[lp]⟩ s).2
   rw[List.length_cons]
   have e:({ (zw c (zn ⟨25,j,[lp]⟩ s).1 (old.getD w 0) (zn ⟨25,j,[lp]⟩ s).2).2 with vars:=(zw c (zn ⟨25,j,[lp]⟩ s).1 (old.getD w 0) (zn ⟨25,j,[lp]⟩ s).2).2.vars.set w (zw c (zn ⟨25,j,[lp]⟩ s).1 (old.getD w 0) (zn ⟨25,j,[lp]⟩ s).2).1 }:Bd).l.length=(zw c (zn ⟨25,j,[lp]⟩ s).1 (old.getD w 0) (zn ⟨25,j,[lp]⟩ s).2).2.l.length:=rfl
   omega
theorem stL_n (c:Cx):∀ n:Nat,(∀ x s r,stL c n x s=some r→s.vars.length≤4→r.l.length≤s.l.length+c1 x)∧(∀ l s r,jA c n l s=some r→s.vars.length≤4→r.l.length≤s.l.length+cSs l)∧(∀ x s r,whL c n x s=some r→s.vars.length≤4→r.l.length≤s.l.length+(2 * cE x.value+cSs x.thn+16))
 | 0=>⟨fun _ _ _ h=>by simp[stL]at h,fun _ _ _ h=>by simp[jA]at h,fun _ _ _ h=>by simp[whL]at h⟩
 | n+1=>by
   obtain⟨I1,I2,I3⟩:=stL_n c n
   refine⟨fun x s r h hv=>?_,fun l s r h hv=>?_,fun x s r h hv=>?_⟩
   ·rw[c1_eq]
    unfold stL at h
    by_cases k1:x.kind=1
    ·rw[if_pos k1]at h ⊢
     simp only[Option.bind_eq_some_iff]at h
     obtain⟨r1,h1,h⟩:=h
     split at h
     ·cases h
      exact zeO c n _ _ _ h1
     ·cases h
    rw[if_neg k1]at h ⊢
    by_cases k2:x.kind=2
    ·rw[if_pos k2]at h ⊢
     simp only[Option.bind_eq_some_iff,Option.some.injEq]at h
     obtain⟨i,h1,v,h2,a,_,rfl⟩:=h
     have e1:=zeO c n _ _ _ h1
     have e2:=zeO c n _ _ _ h2
     have e3:=zr6 a.len i.1 v.2
     have e4:=jJ ⟨28,ixS (c.arrays.map (·.name)) x.name,[(zbi a.len i.1 v.2).state,i.1,v.1]⟩ (zbi a.len i.1 v.2)
     show(zn _ _).2.l.length≤_
     omega
    rw[if_neg k2]at h ⊢
    by_cases k3:x.kind=3
    ·rw[if_pos k3]at h ⊢
     simp only[Option.bind_eq_some_iff,Option.some.injEq]at h
     obtain⟨v,h1,a,h2,b,h3,m,h4,rfl⟩:=h
     have e1:=zeO c n _ _ _ h1
     have v1:=(yu c n _ _ _ h1).v
     have e2:=I2 _ _ _ h2 (by rw[v1];exact hv)
     have e3':=I2 _ _ _ h3 (by show v.2.vars.length≤4;rw[v1];exact hv)
     have e3:b.l.length≤a.l.length+cSs x.els:=e3'
     have v3':=((zaV c n).2.1 _ _ _ h3).2
     have v3:b.vars.length=v.2.vars.length:=v3'
     have e4:=mvL_n _ _ _ _ _ _ h4
     have e5:=zc6 v.1 a.state m.state m
     rw[v1]at v3
     show(zw _ _ _ _).2.l.length≤_
     omega
    rw[if_neg k3]at h ⊢
    by_cases k4:x.kind=4
    ·rw[if_pos k4]at h ⊢
     exact I3 _ _ _ h hv
    rw[if_neg k4]at h ⊢
    by_cases k5:x.kind=5
    ·rw[if_pos k5]at h ⊢
     simp only[Option.bind_eq_some_iff,Option.some.injEq]at h
     obtain⟨v,h1,rfl⟩:=h
     have e1:=zeO c n _ _ _ h1
     have e2:=jJ ⟨29,0,[v.2.state,v.1]⟩ v.2
     show(zn _ _).2.l.length≤_
     omega
    rw[if_neg k5]at h ⊢
    by_cases k6:x.kind=6
    ·rw[if_pos k6]at h ⊢
     simp only[Option.bind_eq_some_iff]at h
     obtain⟨av,h1,h⟩:=h
     split at h
     ·cases h
      have e1:=zr7 c n _ _ _ h1
      have e2:=jJ ⟨30,yn c.funcs x.to 0,av.2.state::av.1⟩ av.2
      generalize zn ⟨30,yn c.funcs x.to 0,av.2.state::av.1⟩ av.2=q at *
      have e3:=jJ ⟨24,0,[q.1]⟩ ⟨q.2.l,q.2.vars,q.1,q.2.loops⟩
      simp only at e3 ⊢
      omega
     ·cases h
    rw[if_neg k6]at h ⊢
    by_cases k7:x.kind=7
    ·rw[if_pos k7]at h ⊢
     cases h
     have e2:=jJ ⟨1,0,[]⟩ s
     have e3:=ziP (w64 (16+x.n)) (zn ⟨1,0,[]⟩ s).1 (zn ⟨1,0,[]⟩ s).2
     show(zbQ _ _ _).l.length≤_
     omega
    rw[if_neg k7]at h ⊢
    cases h;exact Nat.le_refl _
   ·unfold jA at h
    cases l with
    | nil=>cases h;exact Nat.le_refl _
    | cons x l=>
      simp only[Option.bind_eq_some_iff]at h
      obtain⟨a,h1,h2⟩:=h
      have e1:=I1 _ _ _ h1 hv
      have v1:=((zaV c n).1 _ _ _ h1).2
      have e2:=I2 _ _ _ h2 (by rw[v1];exact hv)
      rw[cSs]
      omega
   ·unfold whL at h
    simp only[Option.bind_eq_some_iff,Option.some.injEq]at h
    obtain⟨v,h1,b,h2,t,h3,d,h4,rfl⟩:=h
    have e1':=zeO c n _ _ _ h1
    have e1:v.2.l.length≤s.l.length+cE x.value:=e1'
    clear e1'
    have v1':=(yu c n _ _ _ h1).v
    have v1:v.2.vars=s.vars:=v1'
    have hb:b.length=v.2.vars.length:=by rw[zcm _ _ _ _ _ h2,List.length_replicate]
    have hw:=zjG b
    rw[hb,v1]at hw
    have e2:=jJ ⟨3,16 * (s.loops:Int),[]⟩ v.2
    have v2:(zn ⟨3,16 * (s.loops:Int),[]⟩ v.2).2.vars=v.2.vars:=rfl
    generalize zn ⟨3,16 * (s.loops:Int),[]⟩ v.2=q0 at *
    have e3:=lvL_n (16 * (s.loops:Int)+1) (yE b) 0 ⟨q0.2.l,q0.2.vars,q0.1,q0.2.loops⟩
    have v3:=(zdv (16 * (s.loops:Int)+1) (yE b) 0 ⟨q0.2.l,q0.2.vars,q0.1,q0.2.loops⟩).2.2.1
    simp only at e3 v3
    have e4:=I2 _ _ _ h3 (by rw[v3,v2,v1];exact hv)
    have e5:=zeO c n _ _ _ h4
    generalize hk:zn ⟨31,s.loops,v.2.state::((yE b).map fun i=>v.2.vars.getD i 0)++[d.1,d.2.state]++((yE b).map fun i=>d.2.vars.getD i 0)⟩ d.2=k
    have e6:k.2.l.length≤d.2.l.length+1:=by rw[← hk];exact jJ _ _
    have e7:=jJ ⟨25,0,[k.1]⟩ ⟨k.2.l,v.2.vars,k.2.state,k.2.loops⟩
    simp only at e7
    generalize zn ⟨25,0,[k.1]⟩ ⟨k.2.l,v.2.vars,k.2.state,k.2.loops⟩=q at *
    have e8:=zc6 v.1 q.1 v.2.state q.2
    generalize zw v.1 q.1 v.2.state q.2=m at *
    have e9:=lrL_n k.1 v.1 v.2.vars (yE b) 1 ⟨m.2.l,m.2.vars,m.1,m.2.loops⟩
    simp only at e9
    omega
theorem ziQ {L:List Int} (h:L≠[]):(zI L).2.length+1=L.length:=by
 cases L with
 | nil=>exact absurd rfl h
 | cons a l=>simp[zI]
theorem zbD (f:Int):∀ (k deep:Nat) (L:List Int),k+deep=5→deep≤4→cE (zG f k deep L).1+4 * (zG f k deep L).2.length≤4 * L.length
 | 0,deep,L,h,hd=>by omega
 | k+1,deep,L,h,hd=>by
   have IH:=fun L (hd:¬ (3:Int) < deep)=>zbD f k (deep+1) L (by omega) (by omega)
   by_cases hL:L=[]
   ·subst hL
    have e:ym (zI []).1 16=0:=by decide
    simp only[zG]
    rw[e,if_pos (.inl (by decide)),if_pos (.inl (by decide))]
    simp[cE,zI]
   ·have hn:=ziQ hL
    simp only[zG]
    generalize ym (zI L).1 16=q
    generalize ym (w64 ((zI L).1.tdiv 16)) 1000=m
    generalize (zI L).2=L1 at *
    by_cases hc:q < 4∨(3:Int) < deep
    ·rw[if_pos hc]
     split
     ·simp only[cE,Int.reduceEq,reduceIte];omega
     ·simp only[cE,Int.reduceEq,reduceIte];omega
    have hd3:¬ (3:Int) < deep:=fun e=>hc (.inr e)
    rw[if_neg hc]
    split
    ·have a:=IH L1 hd3
     simp only[cE,cEs,Int.reduceEq,reduceIte]
     omega
    split
    ·have a:=IH L1 hd3
     have b:=IH (zG f k (deep+1) L1).2 hd3
     have c:=IH (zG f k (deep+1) (zG f k (deep+1) L1).2).2 hd3
     simp only[cE,cEs,Int.reduceEq,reduceIte]
     omega
    split
    ·have a:=IH L1 hd3
     simp only[cE,cEs,Int.reduceEq,reduceIte]
     omega
    ·have a:=IH L1 hd3
     have b:=IH (zG f k (deep+1) L1).2 hd3
     simp only[cE,cEs,Int.reduceEq,reduceIte]
     omega
theorem zor (f:Int):∀ (n:Nat) (L:List Int),cEs (jK f n L).1+4 * (jK f n L).2.length≤4 * L.length
 | 0,L=>by simp[jK,cEs]
 | n+1,L=>by
   have a:=zbD f 3 2 L (by omega) (by omega)
   have b:=zor f n (zG f 3 2 L).2
   simp only[jK,cEs]
   omega
theorem zvS {sub:Int→Sd→List St×Sd} (hs:∀ most s,cSs (sub most s).1+16 * (sub most s).2.1.length≤16 * s.1.length) (f:Int) (L1:List Int) (c q m:Int):c1 (jH sub f L1 c q m).1+16 * (jH sub f L1 c q m).2.1.length≤16 * (L1.length+1):=by
 unfold jH
 split
 ·have a:=zbD f 5 0 L1 (by omega) (by omega)
  simp only[c1,Int.reduceEq,reduceIte];omega
 split
 ·have a:=zbD f 3 2 L1 (by omega) (by omega)
  have b:=zbD f 4 1 (zG f 3 2 L1).2 (by omega) (by omega)
  simp only[c1,Int.reduceEq,reduceIte];omega
 split
 ·have a:=zbD f 4 1 L1 (by omega) (by omega)
  have b:=hs 3 ((zG f 4 1 L1).2,c)
  have d:=hs 2 (sub 3 ((zG f 4 1 L1).2,c)).2
  simp only at b
  simp only[c1,Int.reduceEq,reduceIte];omega
 split
 ·have a:=zbD f 4 1 L1 (by omega) (by omega)
  have b:=hs 3 ((zG f 4 1 L1).2,w64 (c+1))
  simp only at b
  simp only[c1,Int.reduceEq,reduceIte];omega
 split
 ·have a:=zbD f 4 1 L1 (by omega) (by omega)
  simp only[c1,Int.reduceEq,reduceIte];omega
 split
 ·have a:=zor f (2 - m.tmod 2).toNat L1
  simp only[c1,Int.reduceEq,reduceIte];omega
 ·simp only[c1,Int.reduceEq,reduceIte];omega
theorem znx {step:Sd→St×Sd} (hs:∀ s,s.1≠[]→c1 (step s).1+16 * (step s).2.1.length≤16 * s.1.length):∀ (n:Nat) (s:Sd),cSs (zaX step n s).1+16 * (zaX step n s).2.1.length≤16 * s.1.length
 | 0,s=>by simp[zaX,cSs]
 | n+1,s=>by
   rw[zaX]
   split
   ·simp[cSs]
   ·rename_i h
    have a:=hs s h
    have b:=znx hs n (step s).2
    simp only[cSs]
    omega
theorem zos (f:Int):∀ (k deep:Nat) (s:Sd),s.1≠[]→c1 (jw f k deep s).1+16 * (jw f k deep s).2.1.length≤16 * s.1.length
 | 0,deep,s,h=>by simp[jw,c1]
 | k+1,deep,s,h=>by
   rw[jw,zg9]
   have e:=ziQ h
   rw[← e]
   exact zvS (fun most s=>by
    have a:=znx (zos f k (deep+1)) (ym (zI s.1).1 (most+1)).toNat ((zI s.1).2,s.2)
    have b:=yN s.1
    simp only at a
    omega) _ _ _ _ _
theorem zmf (f:Int) (k deep:Nat) (most:Int) (s:Sd):cSs (zae f k deep most s).1+16 * (zae f k deep most s).2.1.length≤16 * s.1.length:=by
 have a:=znx (zos f k deep) (ym (zI s.1).1 (most+1)).toNat ((zI s.1).2,s.2)
 have b:=yN s.1
 simp only at a
 unfold zae
 omega
theorem genP_c (l:List Int):∀ f∈(yG l).funcs,cSs f.body+cE f.value≤960∧f.params.length+f.locals.length≤4:=by
 have h0:(l.take 60).length≤60:=by rw[List.length_take];omega
 have h1:=yN (l.take 60)
 have b1:cSs (yx (l.take 60)).1+16 * (yx (l.take 60)).2.1.length≤16 * (zI (l.take 60)).2.length:=zmf 0 4 0 5 ((zI (l.take 60)).2,0)
 have v1:cE (jI (l.take 60)).1+4 * (jI (l.take 60)).2.length≤4 * (yx (l.take 60)).2.1.length:=zbD 0 4 1 _ (by omega) (by omega)
 have b2:cSs (jx (l.take 60)).1+16 * (jx (l.take 60)).2.1.length≤16 * (jI (l.take 60)).2.length:=zmf 1 3 1 3 ((jI (l.take 60)).2,(yx (l.take 60)).2.2)
 have v2:cE (zdE (l.take 60)).1+4 * (zdE (l.take 60)).2.length≤4 * (jx (l.take 60)).2.1.length:=zbD 1 4 1 _ (by omega) (by omega)
 intro f hf
 simp only[yG,List.mem_cons,List.not_mem_nil,or_false]at hf
 rcases hf with rfl|rfl
 ·exact⟨by show cSs (yx (l.take 60)).1+cE (jI (l.take 60)).1≤960;omega,by show 2+2≤4;omega⟩
 ·exact⟨by show cSs (jx (l.take 60)).1+cE (zdE (l.take 60)).1≤960;omega,by show 1+1≤4;omega⟩
theorem prL_n:∀ (m k:Nat) (s:Bd),(prL m k s).l.length≤s.l.length+m
 | 0,k,s=>Nat.le_refl _
 | m+1,k,s=>by
   have a:(prL (m+1) k s).l.length≤(zn ⟨2,k,[]⟩ s).2.l.length+m:=prL_n m (k+1) _
   have b:=jJ ⟨2,k,[]⟩ s
   omega
theorem loL_n:∀ (m:Nat) (s:Bd),(loL m s).l.length≤s.l.length+m
 | 0,s=>Nat.le_refl _
 | m+1,s=>by
   have a:(loL (m+1) s).l.length≤(zn ⟨1,0,[]⟩ s).2.l.length+m:=loL_n m _
   have b:=jJ ⟨1,0,[]⟩ s
   omega
theorem zmg (f:Fu):(zad f).l.length≤1+f.params.length+f.locals.length∧(zad f).vars.length=f.params.length+f.locals.length:=by
 have e0:(zn ⟨26,0,[]⟩ ⟨[],[],0,0⟩).2.l.length≤1:=jJ _ _
 have e1:(prL f.params.length 0 { (zn ⟨26,0,[]⟩ ⟨[],[],0,0⟩).2 with state:=(zn ⟨26,0,[]⟩ ⟨[],[],0,0⟩).1 }).l.length≤(zn ⟨26,0,[]⟩ ⟨[],[],0,0⟩).2.l.length+f.params.length:=prL_n _ _ _
 have e2:(zad f).l.length≤_:=loL_n f.locals.length _
 have v1:=(ziE f.params.length 0 { (zn ⟨26,0,[]⟩ ⟨[],[],0,0⟩).2 with state:=(zn ⟨26,0,[]⟩ ⟨[],[],0,0⟩).1 }).2
 have v2:(zad f).vars.length=_:=(ziF f.locals.length _).2
 have v0:({ (zn ⟨26,0,[]⟩ ⟨[],[],0,0⟩).2 with state:=(zn ⟨26,0,[]⟩ ⟨[],[],0,0⟩).1 }:Bd).vars.length=0:=rfl
 exact⟨by omega,by omega⟩
theorem fnL_n {p:Pr}{n:Nat}{f:Fu}{g:Gr} (h:fnL p n f=some g) (hv:f.params.length+f.locals.length≤4):g.nodes.length≤5+cSs f.body+cE f.value:=by
 unfold fnL at h
 simp only[Option.bind_eq_some_iff,Option.some.injEq]at h
 obtain⟨s,h1,v,h2,rfl⟩:=h
 obtain⟨a,b⟩:=zmg f
 have e1:=(stL_n _ n).2.1 _ _ _ h1 (by omega)
 have e2:=zeO _ n _ _ _ h2
 show v.2.l.length≤_
 omega
theorem zot {p:Pr}{n:Nat}:∀ (l:List Fu) (gs:List Gr),(∀ f∈l,∃ g,fnL p n f=some g∧g.nodes.length≤2000)→∃ hs,zez p n l gs=some (⟨p.arrays,gs++hs⟩,0)∧zbm (fun f g=>fnL p n f=some g∧g.nodes.length≤2000) l hs
 | [],gs,_=>⟨[],by rw[zez,List.append_nil],trivial⟩
 | f::l,gs,h=>by
   obtain⟨g,h1,h2⟩:=h f List.mem_cons_self
   obtain⟨hs,h3,h4⟩:=zot l (gs++[g]) fun x hx=>h x (List.mem_cons_of_mem _ hx)
   refine⟨g::hs,?_,⟨h1,h2⟩,h4⟩
   rw[zez,h1,Option.bind_some,if_neg (by omega),h3,List.append_assoc];rfl
theorem zr8 {l:List Int} (hr:RgL l):PrIn (yG l):=⟨zkC l,zkE hr⟩
theorem zsa {l:List Int} (hr:RgL l):LwOk (yG l):=⟨by have:=ziO l;omega,fun _=>zkE hr⟩
theorem zou {l:List Int} (hr:RgL l):∃ f g,zfh (yG l)=(⟨za9 (l.take 60),[f,g]⟩,0)∧fnL (yG l) (2 * (yG l).sz+1) (jP (l.take 60))=some f∧fnL (yG l) (2 * (yG l).sz+1) (z8 (l.take 60))=some g∧f.nodes.length≤965∧g.nodes.length≤965∧(∀ n∈f.nodes,n.kids.length≤40)∧∀ n∈g.nodes,n.kids.length≤40:=by
 have hp:=zr8 hr
 have key:∀ f∈(yG l).funcs,∃ g,fnL (yG l) (2 * (yG l).sz+1) f=some g∧g.nodes.length≤2000∧g.nodes.length≤965∧∀ n∈g.nodes,n.kids.length≤40:=fun f hf=>by
  obtain⟨s,v,e1,e2,hi,_⟩:=zkA hp (Nat.lt_succ_self _) hf
  obtain⟨c1,c2⟩:=genP_c l f hf
  have e:fnL (yG l) (2 * (yG l).sz+1) f=some ⟨f.name,f.params.length,v.2.l,v.1,v.2.state⟩:=by rw[fnL,e1,Option.bind_some,e2,Option.bind_some]
  have:=fnL_n e c2
  exact⟨_,e,by omega,by omega,fun n hn=>(hi.p n hn).len⟩
 obtain⟨hs,h1,h2⟩:=zot (p:=yG l) (n:=2 * (yG l).sz+1) (yG l).funcs [] fun f hf=>by obtain⟨g,a,b,_⟩:=key f hf;exact⟨g,a,b⟩
 have hlow:zfh (yG l)=(⟨za9 (l.take 60),hs⟩,0):=by
  rw[zfh,zki,if_pos (zkC l),h1];rfl
 have hf:(yG l).funcs=[jP (l.take 60),z8 (l.take 60)]:=rfl
 rw[hf]at h2 key
 match hs,h2,hlow with
 | [f,g],h2,hlow=>
   obtain⟨⟨a1,_⟩,⟨a2,_⟩,_⟩:=h2
   obtain⟨f',b1,_,b2,b5⟩:=key _ List.mem_cons_self
   obtain⟨g',b3,_,b4,b6⟩:=key _ (List.mem_cons_of_mem _ List.mem_cons_self)
   rw[a1]at b1;rw[a2]at b3
   cases b1;cases b3
   exact⟨f,g,hlow,a1,a2,b2,b4,b5,b6⟩
section
variable {c c':Cx} (ha:c'.arrays=c.arrays) (hn:c'.names=c.names) (hf:∀ s,yn c'.funcs s 0=yn c.funcs s 0)
include ha hn in
theorem zec:∀ (n m:Nat),n≤m→∀ (x:Ex) (s:Bd) (r:Int×Bd),exL c n x s=some r→exL c' m x s=some r
 | 0,_,_,_,_,_,h=>by simp[exL]at h
 | n+1,0,hm,_,_,_,_=>by omega
 | n+1,m+1,hm,x,s,r,h=>by
   have IH:=zec n m (by omega)
   unfold exL at h ⊢
   by_cases h1:x.kind=1
   ·rw[if_pos h1]at h ⊢;exact h
   rw[if_neg h1]at h ⊢
   by_cases h2:x.kind=2
   ·rw[if_pos h2]at h ⊢;rw[hn];exact h
   rw[if_neg h2]at h ⊢
   by_cases h3:x.kind=3
   ·rw[if_pos h3]at h ⊢
    rw[ha]
    simp only[Option.bind_eq_some_iff]at h ⊢
    obtain⟨k,q,r1,h1,rest⟩:=h
    exact⟨k,q,r1,IH _ _ _ h1,rest⟩
   rw[if_neg h3]at h ⊢
   by_cases h5:x.kind=5
   ·rw[if_pos h5]at h ⊢
    simp only[Option.bind_eq_some_iff]at h ⊢
    obtain⟨k0,q0,r0,e0,k1,q1,r1,e1,k2,q2,r2,e2,rest⟩:=h
    exact⟨k0,q0,r0,IH _ _ _ e0,k1,q1,r1,IH _ _ _ e1,k2,q2,r2,IH _ _ _ e2,rest⟩
   rw[if_neg h5]at h ⊢
   simp only[Option.bind_eq_some_iff]at h ⊢
   obtain⟨k0,q0,r0,e0,rest⟩:=h
   refine⟨k0,q0,r0,IH _ _ _ e0,?_⟩
   by_cases hz:x.kids.length=1
   ·rw[if_pos hz]at rest ⊢;exact rest
   ·rw[if_neg hz]at rest ⊢
    simp only[Option.bind_eq_some_iff]at rest ⊢
    obtain⟨k1,q1,r1,e1,rest⟩:=rest
    exact⟨k1,q1,r1,IH _ _ _ e1,rest⟩
include ha hn in
theorem zjJ {n m:Nat} (hm:n≤m):∀ (l:List Ex) (s:Bd) (r:List Int×Bd),zfd c n l s=some r→zfd c' m l s=some r
 | [],s,r,h=>h
 | x::l,s,r,h=>by
   unfold zfd at h ⊢
   simp only[Option.bind_eq_some_iff]at h ⊢
   obtain⟨r1,h1,r2,h2,rest⟩:=h
   exact⟨r1,zec ha hn n m hm _ _ _ h1,r2,zjJ hm l _ _ h2,rest⟩
theorem zjK (ns:List Nm):∀ (n m:Nat),n≤m→∀ (l:List St) (b r:List Bool),zaG ns n l b=some r→zaG ns m l b=some r
 | 0,_,_,_,_,_,h=>by simp[zaG]at h
 | n+1,0,hm,_,_,_,_=>by omega
 | n+1,m+1,hm,l,b,r,h=>by
   have IH:=zjK ns n m (by omega)
   unfold zaG at h ⊢
   cases l with
   | nil=>exact h
   | cons x l=>
     simp only at h ⊢
     split at h
     ·cases h
     ·rename_i hc
      rw[if_neg hc]
      simp only[Option.bind_eq_some_iff]at h ⊢
      obtain⟨b2,h2,b3,h3,h4⟩:=h
      exact⟨b2,IH _ _ _ h2,b3,IH _ _ _ h3,IH _ _ _ h4⟩
include ha hn hf in
theorem zed:∀ (n m:Nat),n≤m→(∀ x s r,stL c n x s=some r→stL c' m x s=some r)∧(∀ l s r,jA c n l s=some r→jA c' m l s=some r)∧(∀ x s r,whL c n x s=some r→whL c' m x s=some r)
 | 0,_,_=>⟨fun _ _ _ h=>by simp[stL]at h,fun _ _ _ h=>by simp[jA]at h,fun _ _ _ h=>by simp[whL]at h⟩
 | n+1,0,hm=>by omega
 | n+1,m+1,hm=>by
   obtain⟨I1,I2,I3⟩:=zed n m (by omega)
   have hE:=zec ha hn n m (by omega)
   refine⟨fun x s r h=>?_,fun l s r h=>?_,fun x s r h=>?_⟩
   ·unfold stL at h ⊢
    by_cases k1:x.kind=1
    ·rw[if_pos k1]at h ⊢
     rw[hn]
     simp only[Option.bind_eq_some_iff]at h ⊢
     obtain⟨v,h1,rest⟩:=h
     exact⟨v,hE _ _ _ h1,rest⟩
    rw[if_neg k1]at h ⊢
    by_cases k2:x.kind=2
    ·rw[if_pos k2]at h ⊢
     rw[ha]
     simp only[Option.bind_eq_some_iff]at h ⊢
     obtain⟨i,h1,v,h2,rest⟩:=h
     exact⟨i,hE _ _ _ h1,v,hE _ _ _ h2,rest⟩
    rw[if_neg k2]at h ⊢
    by_cases k3:x.kind=3
    ·rw[if_pos k3]at h ⊢
     simp only[Option.bind_eq_some_iff]at h ⊢
     obtain⟨v,h1,a,h2,b,h3,rest⟩:=h
     exact⟨v,hE _ _ _ h1,a,I2 _ _ _ h2,b,I2 _ _ _ h3,rest⟩
    rw[if_neg k3]at h ⊢
    by_cases k4:x.kind=4
    ·rw[if_pos k4]at h ⊢
     exact I3 _ _ _ h
    rw[if_neg k4]at h ⊢
    by_cases k5:x.kind=5
    ·rw[if_pos k5]at h ⊢
     simp only[Option.bind_eq_some_iff]at h ⊢
     obtain⟨v,h1,rest⟩:=h
     exact⟨v,hE _ _ _ h1,rest⟩
    rw[if_neg k5]at h ⊢
    by_cases k6:x.kind=6
    ·rw[if_pos k6]at h ⊢
     rw[hn,hf]
     simp only[Option.bind_eq_some_iff]at h ⊢
     obtain⟨v,h1,rest⟩:=h
     exact⟨v,zjJ ha hn (by omega) _ _ _ h1,rest⟩
    rw[if_neg k6]at h ⊢
    exact h
   ·unfold jA at h ⊢
    cases l with
    | nil=>exact h
    | cons x l=>
      simp only[Option.bind_eq_some_iff]at h ⊢
      obtain⟨a,h1,h2⟩:=h
      exact⟨a,I1 _ _ _ h1,I2 _ _ _ h2⟩
   ·unfold whL at h ⊢
    rw[hn]
    simp only[Option.bind_eq_some_iff]at h ⊢
    obtain⟨v,h1,b,h2,t,h3,d,h4,rest⟩:=h
    exact⟨v,hE _ _ _ h1,b,zjK _ _ _ (by omega) _ _ _ h2,t,I2 _ _ _ h3,d,hE _ _ _ h4,rest⟩
end
theorem zmh {c:Cx}{k:Nat}{l2:List St}:∀ (l:List St) (n:Nat) (s r r2:Bd),jA c n l s=some r→jA c k l2 r=some r2→jA c (n+k) (l++l2) s=some r2
 | [],n,s,r,r2,h,h2=>by
   cases n with
   | zero=>simp[jA]at h
   | succ n=>
     have e:s=r:=by unfold jA at h;simpa using h
     subst e
     exact(zed rfl rfl (fun _=>rfl) k (n+1+k) (by omega)).2.1 _ _ _ h2
 | x::l,n,s,r,r2,h,h2=>by
   cases n with
   | zero=>simp[jA]at h
   | succ n=>
     unfold jA at h
     simp only[Option.bind_eq_some_iff]at h
     obtain⟨q,h3,h4⟩:=h
     rw[show n+1+k=(n+k)+1 by omega,List.cons_append]
     unfold jA
     simp only[Option.bind_eq_some_iff]
     exact⟨q,(zed rfl rfl (fun _=>rfl) n (n+k) (by omega)).1 _ _ _ h3,zmh l n q r r2 h4 h2⟩
structure GenF (L:List Int):Prop where
 len:L.length≤60
 b1:∀ c,ScG 0 c→zaK (yx L).1=true∧je c false (yx L).1=true∧je c true (yx L).1=true∧j6 (yx L).1=false∧nS (yx L).1≤60∧wS (yx L).1≤10∧mS (yx L).1 0≤3
 v1:ExOk 0 4 (jI L).1
 b2:∀ c,ScG 1 c→zaK (jx L).1=true∧je c false (jx L).1=true∧je c true (jx L).1=true∧j6 (jx L).1=false∧nS (jx L).1≤60∧wS (jx L).1≤10∧mS (jx L).1 0≤3
 v2:ExOk 1 4 (zdE L).1
 x1:1≤1+ym (zI L).1 4∧1+ym (zI L).1 4≤4
 x2:1≤1+ym (w64 ((zI L).1.tdiv 4)) 4∧1+ym (w64 ((zI L).1.tdiv 4)) 4≤4
theorem zsb (l:List Int):GenF (l.take 60):=by
 have hl:(l.take 60).length≤60:=by simp;omega
 have c0:ScG 0 (j7 (yG l) (jP (l.take 60))):=scG 0 l rfl
 have c1:ScG 1 (j7 (yG l) (z8 (l.take 60))):=scG 1 l rfl
 generalize l.take 60=L at hl c0 c1 ⊢
 have n0:=yN L
 have f1:∀ c,ScG 0 c→StsOk c 3 ((zI L).2,0) (yx L).1 (yx L).2:=fun c hc=>zev hc (k:=4) (deep:=0) (by omega) (by omega) 5 (s:=((zI L).2,0)) (by simp) (by simp)
 have b1w:=(f1 _ c0).w
 have b1b:=(f1 _ c0).wb
 have b1n:=(f1 _ c0).n
 simp only at b1w b1n
 have f2:∀ c,ScG 1 c→StsOk c 2 ((jI L).2,(yx L).2.2) (jx L).1 (jx L).2:=fun c hc=>zev hc (k:=3) (deep:=1) (by omega) (by omega) 3 (s:=((jI L).2,(yx L).2.2)) (by simp only at b1w ⊢;omega) b1b
 have b2w:=(f2 _ c1).w
 have b2b:=(f2 _ c1).wb
 have b2n:=(f2 _ c1).n
 simp only at b2w b2n
 have n1:(jI L).2.length≤(yx L).2.1.length:=zL 0 4 1 _
 have p1:=yB (n:=(zI L).1) (m:=4) (by omega) (by omega)
 have p2:=yB (n:=w64 ((zI L).1.tdiv 4)) (m:=4) (by omega) (by omega)
 refine⟨hl,fun c hc=>?_,zaN 0 4 1 _ (by omega) (by omega),fun c hc=>?_,zaN 1 4 1 _ (by omega) (by omega),⟨by omega,by omega⟩,⟨by omega,by omega⟩⟩
 ·have f:=f1 c hc
  have m:=f.m 0
  exact⟨f.wf,f.df,f.ar,f.dp,by omega,by omega,by omega⟩
 ·have f:=f2 c hc
  have m:=f.m 0
  exact⟨f.wf,f.df,f.ar,f.dp,by omega,by omega,by omega⟩
theorem zmi:∀ a b:List St,zaK (a++b)=(zaK a&&zaK b)
 | [],b=>by simp[zaK]
 | x::a,b=>by rw[List.cons_append,zaK,zaK,zmi a b,Bool.and_assoc]
theorem ziR (c:Sc) (t:Bool):∀ a b:List St,je c t (a++b)=(je c t a&&je c t b)
 | [],b=>by simp[je]
 | x::a,b=>by rw[List.cons_append,je,je,ziR c t a b,Bool.and_assoc]
theorem zjL:∀ a b:List St,j6 (a++b)=(j6 a||j6 b)
 | [],b=>by simp[j6]
 | x::a,b=>by rw[List.cons_append,j6,j6,zjL a b,Bool.or_assoc]
theorem zsc:∀ a b:List St,nS (a++b)=nS a+nS b
 | [],b=>by simp[nS]
 | x::a,b=>by rw[List.cons_append,nS,nS,zsc a b,Nat.add_assoc]
theorem zsd:∀ a b:List St,wS (a++b)=wS a+wS b
 | [],b=>by simp[wS]
 | x::a,b=>by rw[List.cons_append,wS,wS,zsd a b,Nat.add_assoc]
theorem zse:∀ (a b:List St) (d:Nat),mS (a++b) d=max (mS a d) (mS b d)
 | [],b,d=>by simp[mS]
 | x::a,b,d=>by rw[List.cons_append,mS,mS,zse a b d,Nat.max_assoc]
def arG2 (x y:Int):List Ar:=[⟨[97],x⟩,⟨[98],y⟩]
def pr2 (x y:Int) (F G:Fu):Pr:=⟨arG2 x y,[F,G]⟩
theorem zov {f:Fu} (h1:f.params.length≤6) (h2:f.locals.length≤8) (h3:nS f.body≤200) (h4:wS f.body≤16) (h5:mS f.body 0≤20) (h6:j6 f.body=false) (h7:zau f.value≤20):zgv f=false:=by
 simp only[zgv,h6,Bool.or_false,Bool.or_eq_false_iff,decide_eq_false_iff_not]
 omega
theorem exB_of {x y:Int}{F G:Fu} (hx:1≤x∧x≤4) (hy:1≤y∧y≤4) (hF:zgv F=false) (hG:zgv G=false):exB (pr2 x y F G)=false:=by
 simp[exB,pr2,arG2,exAr,hF,hG]
 omega
theorem zew:∀ s∈([[102],[103],[120],[121],[105],[106],[110],[97],[98]]:List (List UInt8)),yA s=true:=by
 intro s hs
 simp only[List.mem_cons,List.not_mem_nil,or_false]at hs
 rcases hs with rfl|rfl|rfl|rfl|rfl|rfl|rfl|rfl|rfl<;>kernel_rfl
theorem wfP_of {x y:Int}{F G:Fu} (hF:zd2 F=true) (hG:zd2 G=true):wfP (pr2 x y F G)=true:=by
 simp only[wfP,pr2,arG2,List.all_cons,List.all_nil,hF,hG,zew [97] (by simp),zew [98] (by simp)];rfl
theorem zvT (x y:Int) (F G:Fu):zgw (pr2 x y F G)=(yC [] F.name||zO anG (F.params++F.locals)||(yC [F.name] G.name||zO anG (G.params++G.locals))):=by
 have e:zO [] (zD (pr2 x y F G))=false:=by kernel_rfl
 simp only[zgw,e,Bool.false_or,pr2,zim,Bool.or_false,List.nil_append]
 rfl
theorem scPr {f:Int}{x y:Int}{F G H:Fu} (n1:F.name=[102]) (n2:G.name=[103]) (p1:F.params.length=2) (p2:G.params.length=1) (hv:H.params++H.locals=yF f):ScG f (j7 (pr2 x y F G) H):=by
 refine⟨hv,rfl,fun m hm=>?_⟩
 have h1:=Int.tmod_nonneg 2 hm
 have h2:=Int.tmod_lt_of_pos m (show(0:Int) < 2 by omega)
 have f0:yn [F,G] [102] 0=0:=by rw[yn,if_pos n1]
 have f1:yn [F,G] [103] 0=1:=by rw[yn,if_neg (by rw[n1];decide),yn,if_pos n2];rfl
 show 0≤yn [F,G] (fgG m) 0∧(2 - m.tmod 2).toNat=(([F,G][(yn [F,G] (fgG m) 0).toNat]?).map fun f=>f.params.length).getD 0
 unfold fgG
 by_cases e:m.tmod 2=0
 ·rw[if_pos e,e,f0];exact⟨by omega,by simp[p1]⟩
 ·rw[if_neg e,show m.tmod 2=1 by omega,f1];exact⟨by omega,by simp[p2]⟩
section
variable {L:List Int} (h:GenF L)
include h
theorem GenF.exG:zgv (z8 L)=false:=by
 have c1:ScG 1 (j7 (pr2 0 0 (jP L) (z8 L)) (z8 L)):=scPr rfl rfl rfl rfl rfl
 obtain⟨_,_,_,b4,b5,b6,b7⟩:=h.b2 _ c1
 have:=h.v2.dp
 exact zov (by show 1≤6;omega) (by show 1≤8;omega) (by show nS (jx L).1≤200;omega) (by show wS (jx L).1≤16;omega) (by show mS (jx L).1 0≤20;omega) b4 (by show zau (zdE L).1≤20;omega)
theorem GenF.wfG:zd2 (z8 L)=true:=by
 have c1:ScG 1 (j7 (pr2 0 0 (jP L) (z8 L)) (z8 L)):=scPr rfl rfl rfl rfl rfl
 obtain⟨b1,_⟩:=h.b2 _ c1
 show((fnNames (z8 L)).all yA&&zaK (jx L).1&&wfE (zdE L).1)=true
 rw[b1,h.v2.wf]
 have:(fnNames (z8 L)).all yA=true:=by
  show([[103],[110],[105]]:List (List UInt8)).all yA=true
  simp[zew]
 rw[this];rfl
theorem GenF.wfF {b:List St}{v:Ex}:zd2 ⟨[102],[[120],[121]],[[105],[106]],(yx L).1++b,v⟩=(zaK b&&wfE v):=by
 have c0:ScG 0 (j7 (pr2 0 0 (jP L) (z8 L)) (jP L)):=scPr rfl rfl rfl rfl rfl
 obtain⟨b1,_⟩:=h.b1 _ c0
 show((fnNames _).all yA&&zaK ((yx L).1++b)&&wfE v)=_
 rw[zmi,b1]
 have:(fnNames ⟨[102],[[120],[121]],[[105],[106]],(yx L).1++b,v⟩).all yA=true:=by
  show([[102],[120],[121],[105],[106]]:List (List UInt8)).all yA=true
  simp[zew]
 rw[this];rfl
theorem GenF.undG {x y:Int}{F:Fu} (hn:F.name=[102]) (hp:F.params.length=2):zbS (pr2 x y F (z8 L)) (z8 L)=false∧zcD (pr2 x y F (z8 L)) (z8 L)=false:=by
 have c1:ScG 1 (j7 (pr2 x y F (z8 L)) (z8 L)):=scPr hn rfl hp rfl rfl
 obtain⟨_,b2,b3,_⟩:=h.b2 _ c1
 have e:zaw (j7 (pr2 x y F (z8 L)) (z8 L)).vars (j7 (pr2 x y F (z8 L)) (z8 L)).an (z8 L).value=true:=by rw[c1.vars,c1.an];exact h.v2.df
 refine⟨?_,?_⟩
 ·simp only[zbS,e,Bool.and_true]
  show(!je _ false (jx L).1)=false
  rw[b2];rfl
 ·show(!je _ true (jx L).1)=false
  rw[b3];rfl
end
abbrev fuF (L:List Int) (nm:List UInt8) (ls:List (List UInt8)) (b:List St) (v:Ex):Fu:=⟨nm,[[120],[121]],ls,(yx L).1++b,v⟩
section
variable {L:List Int} (h:GenF L) {x y:Int} (hx:1 ≤ x ∧ x ≤ 4) (hy:1 ≤ y ∧ y ≤ 4)
include h hx hy
end
theorem zhc:∀ a b:List St,zy (a++b)=zy a+zy b
 | [],b=>by rw[List.nil_append,zy];omega
 | x::a,b=>by rw[List.cons_append,zy,zy,zhc a b];omega
def tSh:St:=.mk 3 [] [] 0 zE (.mk 2 0 [120] 0 []) [] [] []
def bSh:List St:=[tSh,tSh,tSh]
def fSh (L:List Int):Fu:=fuF L [102] [[105],[106]] bSh (jI L).1
def pSh (l:List Int):Pr:=⟨za9 (l.take 60),[fSh (l.take 60),z8 (l.take 60)]⟩
theorem sh_ok (l:List Int):yH (pSh l)=0:=by
 have h:=zsb l
 have hp:pSh l=pr2 (1+ym (zI (l.take 60)).1 4) (1+ym (w64 ((zI (l.take 60)).1.tdiv 4)) 4) (fSh (l.take 60)) (z8 (l.take 60)):=rfl
 rw[hp]
 have hx:=h.x1
 have hy:=h.x2
 generalize 1+ym (zI (l.take 60)).1 4=x at *
 generalize 1+ym (w64 ((zI (l.take 60)).1.tdiv 4)) 4=y at *
 generalize l.take 60=L at *
 have hd2:=h.v1.dp
 obtain⟨u1,u2⟩:=h.undG (x:=x) (y:=y) (F:=fSh L) rfl rfl
 have c0:ScG 0 (j7 (pr2 x y (fSh L) (z8 L)) (fSh L)):=scPr rfl rfl rfl rfl rfl
 obtain⟨b1,b2,b3,b4,b5,b6,b7⟩:=h.b1 _ c0
 have ev:zaw (j7 (pr2 x y (fSh L) (z8 L)) (fSh L)).vars (j7 (pr2 x y (fSh L) (z8 L)) (fSh L)).an (jI L).1=true:=h.v1.df
 have k1:je (j7 (pr2 x y (fSh L) (z8 L)) (fSh L)) false bSh=true:=by kernel_rfl
 have k2:je (j7 (pr2 x y (fSh L) (z8 L)) (fSh L)) true bSh=true:=by kernel_rfl
 have e1:zgv (fSh L)=false:=by
  refine zov (by show 2≤6;omega) (by show 2≤8;omega) ?_ ?_ ?_ ?_ (by show zau (jI L).1≤20;omega)
  ·show nS ((yx L).1++bSh)≤200
   have e:nS bSh=3:=by kernel_rfl
   rw[zsc,e];omega
  ·show wS ((yx L).1++bSh)≤16
   have e:wS bSh=0:=by kernel_rfl
   rw[zsd,e];omega
  ·show mS ((yx L).1++bSh) 0≤20
   have e:mS bSh 0≤5:=Nat.le_of_ble_eq_true (by kernel_rfl)
   rw[zse];omega
  ·show j6 ((yx L).1++bSh)=false
   have e:j6 bSh=false:=by kernel_rfl
   rw[zjL,b4,e];rfl
 have e2:zd2 (fSh L)=true:=by
  have e:zaK bSh=true:=by kernel_rfl
  show zd2 ⟨[102],[[120],[121]],[[105],[106]],(yx L).1++bSh,(jI L).1⟩=true
  rw[h.wfF,e,h.v1.wf];rfl
 have e3:zgw (pr2 x y (fSh L) (z8 L))=false:=by rw[zvT];kernel_rfl
 have e4:zbS (pr2 x y (fSh L) (z8 L)) (fSh L)=false:=by
  show(!(je _ false ((yx L).1++bSh)&&zaw _ _ (jI L).1))=false
  rw[ziR,b2,k1,ev];rfl
 have e5:zcD (pr2 x y (fSh L) (z8 L)) (fSh L)=false:=by
  show(!je _ true ((yx L).1++bSh))=false
  rw[ziR,b3,k2];rfl
 have q4:(pr2 x y (fSh L) (z8 L)).funcs.any (zbS (pr2 x y (fSh L) (z8 L)))=false:=by
  show(zbS _ _||(zbS _ _||false))=false
  rw[e4,u1];rfl
 have q5:(pr2 x y (fSh L) (z8 L)).funcs.any (zcD (pr2 x y (fSh L) (z8 L)))=false:=by
  show(zcD _ _||(zcD _ _||false))=false
  rw[e5,u2];rfl
 rw[yH,exB_of hx hy e1 h.exG,wfP_of e2 h.wfG,e3,q4,q5];rfl
theorem sh_sz (l:List Int):(pSh l).sz=(yG l).sz+zy bSh:=by
 show 1+zaj (za9 (l.take 60))+za0 [fSh (l.take 60),z8 (l.take 60)]=1+zaj (za9 (l.take 60))+za0 [jP (l.take 60),z8 (l.take 60)]+zy bSh
 have e:(fSh (l.take 60)).sz=(jP (l.take 60)).sz+zy bSh:=by
  show 1+[102].length+yL [[120],[121]]+yL [[105],[106]]+zy ((yx (l.take 60)).1++bSh)+(jI (l.take 60)).1.sz=1+[102].length+yL [[120],[121]]+yL [[105],[106]]+zy (yx (l.take 60)).1+(jI (l.take 60)).1.sz+zy bSh
  rw[zhc];omega
 simp only[za0,e]
 omega
theorem sh_rg {l:List Int} (hr:RgL l):∀ f∈(pSh l).funcs,rgS f.body∧rgE f.value:=by
 have h:=zkE hr
 intro f hf
 simp only[pSh,List.mem_cons,List.not_mem_nil,or_false]at hf
 rcases hf with rfl|rfl
 ·have:=h (jP (l.take 60)) (by simp[yG])
  refine⟨zop this.1 ?_,this.2⟩
  simp only[bSh,tSh,rgS,rg1,zE,rgE,zbj,and_true,true_and]
  unfold jG
  omega
 ·exact h _ (by simp[yG])
theorem sh_st {c:Cx}{s:Bd}{v:Int} (hn:c.names=[[120],[121],[105],[106]]) (hv:s.vars.length=4) (n:Nat):jA c (n+8) bSh s=some s:=by
 obtain⟨l,vs,st,lp⟩:=s
 match vs,hv with
 | [a,b,d,e],_=>
 have k:∀ m,stL c (m+2) tSh ⟨l,[a,b,d,e],st,lp⟩=some ⟨l,[a,b,d,e],st,lp⟩:=fun m=>by
  have e1:exL c (m+1) (.mk 2 0 [120] 0 []) ⟨l,[a,b,d,e],st,lp⟩=some (a,⟨l,[a,b,d,e],st,lp⟩):=by
   unfold exL
   rw[hn]
   rfl
  unfold stL
  simp only[tSh,St.kind,St.value,St.thn,St.els,Int.reduceEq,reduceIte]
  rw[e1]
  simp only[Option.bind_some,jA,List.length_cons,List.length_nil,mvL,List.getElem?_cons_zero,List.getElem?_cons_succ,zw,if_true,List.set_cons_zero,List.set_cons_succ,Nat.zero_add,Nat.reduceAdd,reduceIte]
 unfold bSh
 rw[show n+8=(n+7)+1 by omega,jA]
 simp only[show n+7=(n+5)+2 by omega,k,Option.bind_some]
 rw[show n+5+2=(n+6)+1 by omega,jA]
 simp only[show n+6=(n+4)+2 by omega,k,Option.bind_some]
 rw[show n+4+2=(n+5)+1 by omega,jA]
 simp only[show n+5=(n+3)+2 by omega,k,Option.bind_some]
 rw[show n+3+2=(n+4)+1 by omega,jA]
theorem sh_low {l:List Int} (hr:RgL l):zfh (pSh l)=zfh (yG l):=by
 obtain⟨f,g,h1,h2,h3,h4,h5,_⟩:=zou hr
 rw[h1]
 have hsz:=sh_sz l
 have hs3:3≤zy bSh:=by
  have:=za2 bSh
  have e:bSh.length=3:=rfl
  omega
 have hs8:8≤2 * zy bSh:=by
  have e:zy bSh=zy bSh:=rfl
  have:4≤zy bSh:=by
   have h:(4:Nat).ble (zy bSh)=true:=by kernel_rfl
   exact Nat.le_of_ble_eq_true h
  omega
 have hfind:∀ s,yn (pSh l).funcs s 0=yn (yG l).funcs s 0:=fun s=>rfl
 have key1:fnL (pSh l) (2 * (pSh l).sz+1) (fSh (l.take 60))=some f:=by
  unfold fnL at h2 ⊢
  simp only[Option.bind_eq_some_iff]at h2 ⊢
  obtain⟨s,a1,v,a2,rest⟩:=h2
  have hv:s.vars.length=4:=by
   rw[((zaV _ _).2.1 _ _ _ a1).2,(zmg _).2];rfl
  have a3:=zmh (yx (l.take 60)).1 (2 * (yG l).sz+1) (zad (jP (l.take 60))) s s a1 (sh_st (c:=cxL (yG l) (jP (l.take 60))) (s:=s) (v:=0) rfl hv 0)
  refine⟨s,(zed (c:=cxL (yG l) (jP (l.take 60))) (c':=cxL (pSh l) (fSh (l.take 60))) rfl rfl hfind _ _ (by omega)).2.1 _ _ _ a3,v,zec (c:=cxL (yG l) (jP (l.take 60))) (c':=cxL (pSh l) (fSh (l.take 60))) rfl rfl _ _ (by omega) _ _ _ a2,rest⟩
 have key2:fnL (pSh l) (2 * (pSh l).sz+1) (z8 (l.take 60))=some g:=by
  unfold fnL at h3 ⊢
  simp only[Option.bind_eq_some_iff]at h3 ⊢
  obtain⟨s,a1,v,a2,rest⟩:=h3
  refine⟨s,(zed (c:=cxL (yG l) (z8 (l.take 60))) (c':=cxL (pSh l) (z8 (l.take 60))) rfl rfl hfind _ _ (by omega)).2.1 _ _ _ a1,v,zec (c:=cxL (yG l) (z8 (l.take 60))) (c':=cxL (pSh l) (z8 (l.take 60))) rfl rfl _ _ (by omega) _ _ _ a2,rest⟩
 rw[zfh,zki,if_pos (sh_ok l)]
 show(zez (pSh l) (2 * (pSh l).sz+1) [fSh (l.take 60),z8 (l.take 60)] []).getD _=_
 rw[zez,key1,Option.bind_some,if_neg (by omega),zez,key2,Option.bind_some,if_neg (by omega),zez]
 rfl
theorem zvU {l:List Int} (hr:RgL l):LwOk (pSh l):=⟨by
 have h1:=ziO l
 have h2:=sh_sz l
 have h3:zy bSh≤200:=Nat.le_of_ble_eq_true (by kernel_rfl)
 omega,fun _=>sh_rg hr⟩
namespace tySnC
def tyF:=And.intro @tq2 (And.intro @tq3 (And.intro @zcf (@zmQ)))
end tySnC
open tySnC
noncomputable def zsf:{ c:SC // slim 45 (Try.f34.body.getD .skip)=c }:=by
 refine⟨?_,?_⟩
 rotate_left
 ·simp only[Try.f34,Option.getD_some,slim,zT,zR,zY,zZ,Nat.blt,Nat.ble]
  rfl
def snE (x:Nd×Nd):List AV:=[.agg x.1.cells,.agg x.2.cells]
theorem zvV (x y:Nd×Nd) (h:snE x=snE y):x=y:=by
 simp only[snE,List.cons.injEq,AV.agg.injEq,and_true]at h
 exact Prod.ext (Nd.inj h.1) (Nd.inj h.2)
def snOk (x:Nd×Nd):Prop:=x.1.kids.length < 2 ^ 60
theorem zvW {s w:List Int} (hl:s.length=w.length) {i:Nat} (hi:i < s.length):decide (s.drop i=w.drop i)=(decide (s.getD i 0=w.getD i 0)&&decide (s.drop (i+1)=w.drop (i+1))):=by
 rw[List.drop_eq_getElem_cons hi,List.drop_eq_getElem_cons (l:=w) (by omega)]
 rw[List.getD_eq_getElem?_getD,List.getD_eq_getElem?_getD,List.getElem?_eq_getElem hi,List.getElem?_eq_getElem (by omega:i < w.length)]
 simp only[Option.getD_some,List.cons.injEq,Bool.decide_and]
theorem zkG (ρ:Nat→Int) (x:Nd×Nd) (hx:snOk x):Con Try.prog ρ 34 (snE x) (.bool (decide (x.1=x.2))):=yO fit (pls:=pls) (l:=[]) trivial (.cons (.agg (Nd.pure _)) (.cons (.agg (Nd.pure _)) .nil)) (.bool _) (by
 obtain⟨⟨o1,i1,s⟩,⟨o2,i2,w⟩⟩:=x
 have hw:=ju 34
 unfold snOk at hx
 rw[snE]
 simp only[Nd.cells]at hx ⊢
 have hd:decide ((⟨o1,i1,s⟩:Nd)=⟨o2,i2,w⟩)=(decide (o1=o2)&&decide (i1=i2)&&decide (s=w)):=by
  simp[Bool.decide_and,Bool.and_assoc]
 rw[hd]
 by_cases hl:w.length=s.length
 ·clear hd
  refine zi (M:=45) (rs:=[.tmp 4]) (hw.call _) hw.ice hw.froz Try.func34 rfl rfl zsf.2 rfl ?_;dsimp only[zsf,zH,Nat.reduceAdd]
  repeat' (first
   | (apply Rx.nl ?_;clear hK K)|apply Ry.o ?_|(apply Ry.gd (fun hg hgp=>?_) (fun hg hgp=>?_)<;>try (cases hg;done))|(apply Ry.cd (fun hb hbp=>?_) (fun hb hbp=>?_)<;>try (cases hb;done))|apply Wp.seq ?_|(apply zd fun K hK=>?_)|(apply zf 6 [(1,11),(4,11),(6,11),(9,11)] fun K hK=>?_)|(apply zr ?_;try intro _)|(apply zt ?_ ?_<;>clear hK K)|apply WpT.step ?_|apply Wp.block ?_|apply zh ?_|apply Rx.rt ?_|apply zj ?_)
  all_goals first
   | (refine⟨eI,_,eRW,?_⟩;try simp only[zp]
      simp_all;done)
   | skip
  refine yj [2,3] [0,1] 5 s.length (fun i E H=>decide (s=w)=decide (s.drop i=w.drop i)) eE (by simp) ?_
  rintro i E H2 hi hcE hrH hnH hsI hJ
  (try simp only[zk,zl,and_true,sB,sO,Nat.reduceBEq,Nat.reduceAdd,Nat.reduceLeDiff,tyF, *]at hcE)
  (try simp only[zk,zl,and_true,sB,sO,Nat.reduceBEq,Nat.reduceAdd,Nat.reduceLeDiff,tyF, *]at hrH)
  (try simp only[zb,ze,zM,Nat.zero_add,Nat.reduceAdd]at hnH)
  have hB0:(0 == H2.next)=false:=zF (by omega)
  have hC0:(H2.next == 0)=false:=zF (by omega)
  have hB1:(1 == H2.next)=false:=zF (by omega)
  have hC1:(H2.next == 1)=false:=zF (by omega)
  repeat' (first
   | (apply Rx.nl ?_;clear hK K)|apply Rx.o ?_|(apply Rx.cd (fun hb hbp=>?_) (fun hb hbp=>?_)<;>try (cases hb;done))|apply Wp.seq ?_|(apply zd fun K hK=>?_)|(apply zf 6 [(1,11),(4,11),(6,11),(9,11)] fun K hK=>?_)|(apply zr ?_;try intro _)|(apply zt ?_ ?_<;>clear hK K)|apply WpT.step ?_|apply Wp.block ?_|apply zh ?_|apply Rx.rt ?_|apply zj ?_)
  ·have hlt:i < s.length:=by simpa using hb
   have hgx:s[i]?=some s[i]:=List.getElem?_eq_getElem hlt
   have hgy:w[i]?=some (w[i]'(by omega)):=List.getElem?_eq_getElem (by omega)
   have hdr:=zvW hl.symm hlt
   rw[List.getD_eq_getElem?_getD,List.getD_eq_getElem?_getD,hgx,hgy]at hdr
   simp only[Option.getD_some]at hdr
   generalize s[i]=x at *
   generalize w[i]'(by omega)=y at *
   repeat' (first
    | (apply Rx.nl ?_;clear hK K)|apply Rx.o ?_|(apply Rx.cd (fun hb hbp=>?_) (fun hb hbp=>?_)<;>try (cases hb;done))|apply Wp.seq ?_|(apply zd fun K hK=>?_)|(apply zf 6 [(1,11),(4,11),(6,11),(9,11)] fun K hK=>?_)|(apply zr ?_;try intro _)|(apply zt ?_ ?_<;>clear hK K)|apply WpT.step ?_|apply Wp.block ?_|apply zh ?_|apply Rx.rt ?_|apply zj ?_)
   ·exact eK
   ·all_goals (refine⟨eI,_,eR,?_⟩;try simp only[zp])
    rw[hJ,hdr];simp_all
   ·refine⟨by omega,eL,eL,eN,(by simp only[sB,Nat.reduceBEq, *];exact z7 (n:=s.length) (by omega) (by omega)),?_⟩
    rw[hJ,hdr];simp_all
  ·repeat' (first
    | (apply Rx.nl ?_;clear hK K)|apply Rx.o ?_|(apply Rx.cd (fun hb hbp=>?_) (fun hb hbp=>?_)<;>try (cases hb;done))|apply Wp.seq ?_|(apply zd fun K hK=>?_)|(apply zf 6 [(1,11),(4,11),(6,11),(9,11)] fun K hK=>?_)|(apply zr ?_;try intro _)|(apply zt ?_ ?_<;>clear hK K)|apply WpT.step ?_|apply Wp.block ?_|apply zh ?_|apply Rx.rt ?_|apply zj ?_)
   all_goals (refine⟨eI,_,eR,?_⟩;try simp only[zp])
   rw[hJ,show i=s.length by simp at hb;omega,List.drop_length,← hl,List.drop_length]
   simp_all
 ·have hne:¬ s=w:=fun e=>hl (by rw[e])
  have hl2:¬ (s.length:Int)=w.length:=by omega
  clear hd
  refine zi (M:=45) (rs:=[.tmp 4]) (hw.call _) hw.ice hw.froz Try.func34 rfl rfl zsf.2 rfl ?_;dsimp only[zsf,zH,Nat.reduceAdd]
  repeat' (first
   | (apply Rx.nl ?_;clear hK K)|apply Ry.o ?_|(apply Ry.gd (fun hg hgp=>?_) (fun hg hgp=>?_)<;>try (cases hg;done))|(apply Ry.cd (fun hb hbp=>?_) (fun hb hbp=>?_)<;>try (cases hb;done))|apply Wp.seq ?_|(apply zd fun K hK=>?_)|(apply zf 6 [(1,11),(4,11),(6,11),(9,11)] fun K hK=>?_)|(apply zr ?_;try intro _)|(apply zt ?_ ?_<;>clear hK K)|apply WpT.step ?_|apply Wp.block ?_|apply zh ?_|apply Rx.rt ?_|apply zj ?_)
  all_goals
   refine⟨eI,_,eRW,?_⟩;try simp only[zp]
   rw[decide_eq_false hne,Bool.and_false])
noncomputable def enSn:En:=⟨34,false,spP snOk snE fun x=>.bool (decide (x.1=x.2))⟩
theorem zvX (ρ:Nat→Int):zaF Try.prog ρ enSn:=yW fun x hx=>zkG ρ x hx
theorem sn_en {l:List En} (hl:∀ ar,yJ l 34 ar=enSn.sp ar) (a b:Nd) (h:a.kids.length < 2 ^ 60) (H:Hp):zu Try.prog (zJ pls l) 34 [.agg a.cells,.agg b.cells] H fun v H'=>v=.bool (decide (a=b))∧H'=H:=
 yd (enc:=snE) (ok:=snOk) (out:=fun x=>.bool (decide (x.1=x.2))) zvV (x:=(a,b)) (hl _) h
end Go.Proofs.Ytpbcimfiofmoeaa
namespace Go.Proofs.Ytpbcimfiofmoeaa
set_option maxRecDepth 20000
set_option maxRecDepth 20000
open Go Go.Ab
namespace tySuC
def tyF:=And.intro @tq3 (And.intro @tq9 (And.intro @zmQ (And.intro @zgj (And.intro @tq28 (And.intro @tq31 (And.intro @zfG (And.intro @tq34 (And.intro @zj7 (And.intro @tq2 (@zcf))))))))))
end tySuC
open tySuC
noncomputable def code19:{ c:SC // slim 27 (Try.f19.body.getD .skip)=c }:=by
 refine⟨?_,?_⟩
 rotate_left
 ·simp only[Try.f19,Option.getD_some,slim,zT,zR,zY,zZ,Nat.blt,Nat.ble]
  rfl
noncomputable def code16:{ c:SC // slim 94 (Try.f16.body.getD .skip)=c }:=by
 refine⟨?_,?_⟩
 rotate_left
 ·simp only[Try.f16,Option.getD_some,slim,zT,zR,zY,zZ,Nat.blt,Nat.ble]
  rfl
theorem neqAr (D:BinOp→Sx→Sx→Option Bool) (m:Ar):jB Try.prog D .neq 74 (.agg m.cells) (.agg m.cells)=some (.bool false):=by
 obtain⟨s,n⟩:=m
 have e:jB Try.prog D .neq 74 (.agg [.str s,.int .i64 n]) (.agg [.str s,.int .i64 n])=(match (match zbU Try.prog 9 (.str s) (.str s)with
  | some true=>(match zbU Try.prog 3 (.int .i64 n) (.int .i64 n)with
    | some true=>some true
    | some false=>some false
    | none=>none)
  | some false=>some false
  | none=>none)with
  | some b=>some (.bool (!b))
  | none=>none):=by kernel_rfl
 have e1:zbU Try.prog 9 (.str s) (.str s)=some true:=by simp[zbU]
 have e2:zbU Try.prog 3 (.int .i64 n) (.int .i64 n)=some true:=by simp[zbU]
 show jB Try.prog D .neq 74 (.agg [.str s,.int .i64 n]) (.agg [.str s,.int .i64 n])=_
 rw[e,e1,e2];rfl
def zny (l:List Nd):List AV:=[zkb l,zkb l]
theorem zsg (x y:List Nd) (h:zny x=zny y):x=y:=by
 simp only[zny,List.cons.injEq,and_true]at h;exact zqL h.1
theorem zi9 (ρ:Nat→Int) (l:List Nd) (hl:zn1 l):Con Try.prog ρ 19 (zny l) (.bool true):=yO fit (pls:=pls) (l:=[enSn]) ⟨zvX ρ,trivial⟩ (.cons (zig _) (.cons (zig _) .nil)) (.bool _) (by
 obtain⟨hl1,hl2⟩:=hl
 have hw:Plain (zJ pls [enSn]) 19:=yD (fun _=>rfl) rfl
 rw[zny]
 refine zi (M:=27) (rs:=[.tmp 4]) (hw.call _) hw.ice hw.froz Try.func19 rfl rfl code19.2 rfl ?_;dsimp only[code19,zH,Nat.reduceAdd]
 repeat' (first
  | (apply Rx.nl ?_;clear hK K)|apply Ry.o ?_|(apply Ry.cd (fun hb hbp=>?_) (fun hb hbp=>?_)<;>try (cases hb;done))|apply Wp.seq ?_|(apply zd fun K hK=>?_)|(apply zf 6 [(3,8),(7,8)] fun K hK=>?_)|(apply zr ?_;try intro _)|(apply zt ?_ ?_<;>clear hK K)|apply WpT.step ?_|apply Wp.block ?_|apply zh ?_|apply Rx.rt ?_|apply zj ?_)
 refine yj [0,1] [] 5 l.length (fun i E H=>True) eE trivial ?_
 rintro i E H2 hi hcE hrH hnH hsI hJ
 (try simp only[zk,zl,and_true,sB,sO,Nat.reduceBEq,Nat.reduceAdd,Nat.reduceLeDiff,tyF, *]at hcE)
 (try simp only[zk,zl,and_true,sB,sO,Nat.reduceBEq,Nat.reduceAdd,Nat.reduceLeDiff,tyF, *]at hrH)
 (try simp only[zb,ze,zM,Nat.zero_add,Nat.reduceAdd]at hnH)
 by_cases hlt:i < l.length
 ·have hlt':(i:Int) < l.length:=by omega
  have hgx:l[i]?=some l[i]:=List.getElem?_eq_getElem hlt
  have hkb:l[i].kids.length < 2 ^ 60:=by have:=hl2 _ (List.getElem_mem hlt);omega
  have ks:=fun H=>sn_en (l:=[enSn]) (fun _=>rfl) l[i] l[i] hkb H
  generalize l[i]=m at *
  simp only[decide_true]at ks
  repeat' (first
   | (apply Rx.nl ?_;clear hK K)|apply Ry.o ?_|(apply Ry.call ?_;first|refine jM (ks _) ?_)|(apply Ry.cd (fun hb hbp=>?_) (fun hb hbp=>?_)<;>try (cases hb;done))|apply Wp.seq ?_|(apply zd fun K hK=>?_)|(apply zf 6 [(3,8),(7,8)] fun K hK=>?_)|(apply zr ?_;try intro _)|(apply zt ?_ ?_<;>clear hK K)|apply WpT.step ?_|apply Wp.block ?_|apply zh ?_|apply Rx.rt ?_|apply zj ?_)
  all_goals first
   | exact eK
   | skip
  refine⟨by omega,eL,eL,eN,(by simp only[sB,Nat.reduceBEq, *];exact z7 (n:=l.length) (by omega) (by omega)),?_⟩
  trivial
 ·have hlt':¬ (i:Int) < l.length:=by omega
  repeat' (first
   | (apply Rx.nl ?_;clear hK K)|apply Ry.o ?_|(apply Ry.cd (fun hb hbp=>?_) (fun hb hbp=>?_)<;>try (cases hb;done))|apply Wp.seq ?_|(apply zd fun K hK=>?_)|(apply zf 6 [(3,8),(7,8)] fun K hK=>?_)|(apply zr ?_;try intro _)|(apply zt ?_ ?_<;>clear hK K)|apply WpT.step ?_|apply Wp.block ?_|apply zh ?_|apply Rx.rt ?_|apply zj ?_)
  all_goals (refine⟨eI,_,eR,?_⟩;try simp only[zp]))
noncomputable def zmj:En:=⟨19,false,spP zn1 zny fun _=>.bool true⟩
theorem zsh (ρ:Nat→Int):zaF Try.prog ρ zmj:=yW fun x hx=>zi9 ρ x hx
structure SuOk (u:Un):Prop where
 a:u.arrays.length < 2 ^ 30
 f:u.funcs.length < 2 ^ 30
 g:∀ g∈u.funcs,zn1 g.nodes
def suE (u:Un):List AV:=[.agg u.cells,.agg u.cells]
theorem zvY (x y:Un) (h:suE x=suE y):x=y:=by
 simp only[suE,List.cons.injEq,AV.agg.injEq,and_true]at h;exact Un.inj h.1
set_option maxRecDepth 100000 in
theorem zkH (ρ:Nat→Int) (u:Un) (hu:SuOk u):Con Try.prog ρ 16 (suE u) (.bool true):=yO fit (pls:=pls) (l:=[zmj]) ⟨zsh ρ,trivial⟩ (.cons (.agg (Un.pure _)) (.cons (.agg (Un.pure _)) .nil)) (.bool _) (by
 obtain⟨ha,hf,hgr⟩:=hu
 have hw:Plain (zJ pls [zmj]) 16:=yD (fun _=>rfl) rfl
 have huc:u.cells=[.lst (u.arrays.map Ar.cells),.lst (u.funcs.map Gr.cells)]:=rfl
 rw[suE,huc]
 refine zi (M:=94) (rs:=[.tmp 4]) (hw.call _) hw.ice hw.froz Try.func16 rfl rfl code16.2 rfl ?_;dsimp only[code16,zH,Nat.reduceAdd]
 repeat' (first
  | (apply Rx.nl ?_;clear hK K)|apply Ry.o ?_|apply Ry.on ?_|(apply Ry.gd (fun hg hgp=>?_) (fun hg hgp=>?_)<;>try (cases hg;done))|(apply Ry.cd (fun hb hbp=>?_) (fun hb hbp=>?_)<;>try (cases hb;done))|apply Wp.seq ?_|(apply zd fun K hK=>?_)|(apply zf 6 [(1,11),(4,11),(6,11),(9,11)] fun K hK=>?_)|(apply zr ?_;try intro _)|(apply zt ?_ ?_<;>clear hK K)|apply WpT.step ?_|apply Wp.block ?_|apply zh ?_|apply Rx.rt ?_|apply zj ?_)
 refine yj [2,3] [0,1] 5 u.arrays.length (fun i E H=>True) eE trivial ?_
 rintro i E H2 hi hcE hrH hnH hsI hJ
 (try simp only[zk,zl,and_true,sB,sO,Nat.reduceBEq,Nat.reduceAdd,Nat.reduceLeDiff,tyF, *]at hcE)
 (try simp only[zk,zl,and_true,sB,sO,Nat.reduceBEq,Nat.reduceAdd,Nat.reduceLeDiff,tyF, *]at hrH)
 (try simp only[zb,ze,zM,Nat.zero_add,Nat.reduceAdd]at hnH)
 have hB0:(0 == H2.next)=false:=zF (by omega)
 have hC0:(H2.next == 0)=false:=zF (by omega)
 have hB1:(1 == H2.next)=false:=zF (by omega)
 have hC1:(H2.next == 1)=false:=zF (by omega)
 by_cases hlt:i < u.arrays.length
 ·have hlt':(i:Int) < u.arrays.length:=by omega
  have hgx:u.arrays[i]?=some u.arrays[i]:=List.getElem?_eq_getElem hlt
  generalize u.arrays[i]=m at *
  have gh0:=@neqAr
  repeat' (first
   | (apply Rx.nl ?_;clear hK K)|apply Ry.o ?_|apply Ry.on ?_|(apply Ry.gd (fun hg hgp=>?_) (fun hg hgp=>?_)<;>try (cases hg;done))|(apply Ry.cd (fun hb hbp=>?_) (fun hb hbp=>?_)<;>try (cases hb;done))|apply Wp.seq ?_|(apply zd fun K hK=>?_)|(apply zf 6 [(1,11),(4,11),(6,11),(9,11)] fun K hK=>?_)|(apply zr ?_;try intro _)|(apply zt ?_ ?_<;>clear hK K)|apply WpT.step ?_|apply Wp.block ?_|apply zh ?_|apply Rx.rt ?_|apply zj ?_)
  ·exact eK
  refine⟨by omega,eL,eL,eN,(by simp only[sB,Nat.reduceBEq, *];exact z7 (n:=u.arrays.length) (by omega) (by omega)),?_⟩
  trivial
 ·have hlt':¬ (i:Int) < u.arrays.length:=by omega
  repeat' (first
   | (apply Rx.nl ?_;clear hK K)|apply Ry.o ?_|apply Ry.on ?_|(apply Ry.gd (fun hg hgp=>?_) (fun hg hgp=>?_)<;>try (cases hg;done))|(apply Ry.cd (fun hb hbp=>?_) (fun hb hbp=>?_)<;>try (cases hb;done))|apply Wp.seq ?_|(apply zd fun K hK=>?_)|(apply zf 6 [(1,11),(4,11),(6,11),(9,11)] fun K hK=>?_)|(apply zr ?_;try intro _)|(apply zt ?_ ?_<;>clear hK K)|apply WpT.step ?_|apply Wp.block ?_|apply zh ?_|apply Rx.rt ?_|apply zj ?_)
  refine yj [2,3] [0,1] 6 u.funcs.length (fun i E H=>True) eE trivial ?_
  rintro j E3 H3 hj hcE hrH hnH hsI hJ2
  (try simp only[zk,zl,and_true,sB,sO,Nat.reduceBEq,Nat.reduceAdd,Nat.reduceLeDiff,tyF, *]at hcE)
  (try simp only[zk,zl,and_true,sB,sO,Nat.reduceBEq,Nat.reduceAdd,Nat.reduceLeDiff,tyF, *]at hrH)
  (try simp only[zb,ze,zM,Nat.zero_add,Nat.reduceAdd]at hnH)
  have hB0:(0 == H3.next)=false:=zF (by omega)
  have hC0:(H3.next == 0)=false:=zF (by omega)
  have hB1:(1 == H3.next)=false:=zF (by omega)
  have hC1:(H3.next == 1)=false:=zF (by omega)
  have z0:(0 == H3.next+1)=false:=zF (by omega)
  have z1:(1 == H3.next+1)=false:=zF (by omega)
  by_cases hlt2:j < u.funcs.length
  ·have hlt2':(j:Int) < u.funcs.length:=by omega
   have hgx:u.funcs[j]?=some u.funcs[j]:=List.getElem?_eq_getElem hlt2
   have hok:=hgr _ (List.getElem_mem hlt2)
   have ks:∀ H:Hp,zu Try.prog (zJ pls [zmj]) 19 [zkb u.funcs[j].nodes,zkb u.funcs[j].nodes] H fun v H'=>v=.bool true∧H'=H:=fun H=>yd (P:=Try.prog) (pls:=pls) (l:=[zmj]) (g:=19) (enc:=zny) (ok:=zn1) (out:=fun _=>.bool true) zsg (x:=u.funcs[j].nodes) rfl hok (H:=H)
   generalize u.funcs[j]=g at *
   repeat' (first
    | (apply Rx.nl ?_;clear hK K)|apply Ry.o ?_|apply Ry.on ?_|(apply Ry.call ?_;first|refine jM (ks _) ?_)|(apply Ry.gd (fun hg hgp=>?_) (fun hg hgp=>?_)<;>try (cases hg;done))|(apply Ry.cd (fun hb hbp=>?_) (fun hb hbp=>?_)<;>try (cases hb;done))|apply Wp.seq ?_|(apply zd fun K hK=>?_)|(apply zf 6 [(1,11),(4,11),(6,11),(9,11)] fun K hK=>?_)|(apply zr ?_;try intro _)|(apply zt ?_ ?_<;>clear hK K)|apply WpT.step ?_|apply Wp.block ?_|apply zh ?_|apply Rx.rt ?_|apply zj ?_)
   refine⟨by omega,eL,eL,eN,(by simp only[sB,Nat.reduceBEq, *];exact z7 (n:=u.funcs.length) (by omega) (by omega)),?_⟩
   trivial
  ·have hlt2':¬ (j:Int) < u.funcs.length:=by omega
   repeat' (first
    | (apply Rx.nl ?_;clear hK K)|apply Ry.o ?_|apply Ry.on ?_|(apply Ry.gd (fun hg hgp=>?_) (fun hg hgp=>?_)<;>try (cases hg;done))|(apply Ry.cd (fun hb hbp=>?_) (fun hb hbp=>?_)<;>try (cases hb;done))|apply Wp.seq ?_|(apply zd fun K hK=>?_)|(apply zf 6 [(1,11),(4,11),(6,11),(9,11)] fun K hK=>?_)|(apply zr ?_;try intro _)|(apply zt ?_ ?_<;>clear hK K)|apply WpT.step ?_|apply Wp.block ?_|apply zh ?_|apply Rx.rt ?_|apply zj ?_)
   all_goals (refine⟨eI,_,eR,?_⟩;try simp only[zp]))
noncomputable def enSu:En:=⟨16,false,spP SuOk suE fun _=>.bool true⟩
theorem zvZ (ρ:Nat→Int):zaF Try.prog ρ enSu:=yW fun x hx=>zkH ρ x hx
end Go.Proofs.Ytpbcimfiofmoeaa
namespace Go.Ab
set_option maxRecDepth 20000
open Go Go.WideShapes Go.Deep Go.RowKit Go.ChangeShapes
def memF (W:World):Nat→Nat→Option Value:=fun b o=>W.cell? ⟨b,o,none⟩
theorem zv0 (W:World):∀ b o v,memF W b o=some v→W.cell? ⟨b,o,none⟩=some v:=fun _ _ _ h=>h
section
variable {H:Type} {enc:TypeId × Value → H} {P:Program} {W:World}
theorem zpD {r:Reach}{b0:Nat}{t e:TypeId}{k:IntKind}{v:Value}{d:DataW H}{ps:List MemPlace}{sp:Nat→Bool}{held:Bool} (ht:P.underlying t=some (.slice e)) (he:P.underlying e=some (.int k)) (hc:P.cellsOf e=1) (hval:Value.okWide P W r b0 t v) (hd:DataW.Trod enc P W 0 sp held t v d ps) (β:Nat→Option (Nat×Nat×Nat)) (ρ:Nat→Int) :
 ∃ l:List Int,VR ⟨β,memF W,ρ⟩ (.lst (l.map fun n=>[AV.int k n])) v∧l.length≤maxLen∧∀ n∈l,(Lit.int k n).wf=true:=by
 obtain⟨a0,zgD,cap0,rfl⟩:=okWide_slice ht hval
 obtain⟨fuel,hf⟩:=hd
 rcases open_slice1 ht hc hf with ⟨h,_⟩|⟨a,len,cap,m,n,V,D,Pl,h,hb,hl,hm,hmm,hx,hV⟩
 ·simp[Value.cells]at h
  obtain⟨rfl,rfl,rfl⟩:=h
  exact⟨[],.lst0 _ _,Nat.zero_le _,fun _ h=>absurd h (by simp)⟩
 ·simp[Value.cells]at h
  obtain⟨rfl,rfl,rfl⟩:=h
  have hlm:zgD≤m:=by rw[hmm];split<;>omega
  have hint:∀ i,∃ n:Int,i < zgD→V i=.int k n∧(Lit.int k n).wf=true:=fun i=>by
   by_cases hi:i < zgD
   ·obtain⟨n',h1,_,h2⟩:=DataW.trod_int he (hV i (by omega)).2
    simp at h1
    exact⟨n',fun _=>⟨h1,h2⟩⟩
   ·exact⟨0,fun h=>absurd h hi⟩
  obtain⟨N,hN0⟩:=Classical.axiomOfChoice hint
  have hN:∀ i,i < zgD→V i=.int k (N i):=fun i h=>(hN0 i h).1
  refine⟨(List.range zgD).map N,?_,by simp;omega,fun n hn=>by
   obtain⟨i,hi,rfl⟩:=List.mem_map.1 hn
   exact(hN0 i (List.mem_range.1 hi)).2⟩
  by_cases h0:zgD=0
  ·subst h0;exact .lst0 _ _
  obtain⟨ab,ao,asp⟩:=a
  have hspot:asp=none:=by
   have:=(hV 0 (by omega)).1
   simp only[Addr.add,if_true,World.cell?]at this
   split at this
   ·split at this
    ·cases this
    ·rename_i hn
     cases asp with
     | none=>rfl
     | some s=>simp at hn
   ·cases this
  subst hspot
  have hlen:(((List.range zgD).map N).map fun n=>[AV.int k n]).length=zgD:=by simp
  have key:=VR.lst (G:=⟨β,memF W,ρ⟩) (xs:=((List.range zgD).map N).map fun n=>[AV.int k n]) (b:=ab) (o:=ao) (cap:=cap0) (z:=1) (fun i _=>V i) ?_ ?_ ?_ (by rw[hlen];omega)
  ·rw[hlen]at key;exact key
  ·intro i row hr
   rw[List.getElem?_map]at hr
   cases hq:((List.range zgD).map N)[i]? with
   | none=>rw[hq]at hr;simp at hr
   | some q=>rw[hq]at hr;simp only[Option.map_some,Option.some.injEq]at hr;rw[← hr];rfl
  ·intro i j hi hj
   rw[hlen]at hi
   have h2:=(hV i (by omega)).1
   show W.cell? ⟨ab,ao+i * 1+j,none⟩=some (V i)
   have hj0:j=0:=by omega
   subst hj0
   rw[← h2]
   congr 1
   unfold Addr.add
   split
   ·rename_i h;subst h;rfl
   ·simp
  ·intro i j row c hr hcj
   rw[List.getElem?_map,List.getElem?_map]at hr
   by_cases hi:i < zgD
   ·rw[List.getElem?_range hi]at hr
    simp only[Option.map_some,Option.some.injEq]at hr
    subst hr
    cases j with
    | zero=>
      simp only[List.getElem?_cons_zero,Option.some.injEq]at hcj
      subst hcj
      show VR _ _ (V i)
      rw[hN i hi]
      exact .int k _
    | succ j=>simp at hcj
   ·rw[List.getElem?_eq_none (by simp;omega)]at hr
    simp at hr
theorem zpE {t:TypeId} (hl:laidOutB P=true) (hr:P.readableRec t=true) (hrow:t < P.types.size) {W':World}{v:Value}{d:DataW H}{ps before:List MemPlace}
 (h:DataW.Trod enc P W 0 (fun _=>true) true t v d ps) (hb:Below W.heap.size W W') (hlt:∀ p∈before,p.block < W.heap.size) (hps:∀ p∈ps,p∈before) {sp:Nat→Bool} (hsp:∀ p∈before,sp p.block=true) :
 DataW.Trod enc P W' 0 sp true t v d ps:=
 WideElems.Trod_stays hl hr hrow h (fun x hx=>hb.same (hlt x (hps x hx))) fun x hx=>hsp x (hps x hx)
end
end Go.Ab
namespace Go.Proofs.Ytpbcimfiofmoeaa
set_option maxRecDepth 20000
open Go Go.Ab
def zkI (l:List Int):AV:=.lst (l.map fun n=>[.int .i64 n])
theorem zkJ (l:List Int):zar (zkI l):=.map fun n _=>.cons (.int _ _) .nil
theorem zpF {n:Nat} (h:n≤maxLen):n < 2 ^ 63:=Nat.lt_of_le_of_lt h (by decide)
theorem cells_int:Try.prog.cellsOf 3=1:=by kernel_rfl
set_option maxRecDepth 100000 in
theorem znz {H:Type}{enc:TypeId×Value→H}{W:World}{v0:Value}{r:Reach}{b0:Nat} (k0:Value.okWide Try.prog W r b0 23 v0) {d:DataW H}{ps:List MemPlace}{sp:Nat→Bool}{held:Bool} (h0:DataW.Trod enc Try.prog W 0 sp held 23 v0 d ps):∃ l:List Int,VR ⟨fun _=>none,memF W,fun _=>0⟩ (zkI l) v0∧l.length < 2 ^ 63∧∀ n∈l,-9223372036854775808≤n∧n < 9223372036854775808:=by
 obtain⟨l,hv,hl,hr⟩:=zpD Try.underlying23 Try.underlying3 cells_int k0 h0 (fun _=>none) (fun _=>0)
 refine⟨l,hv,zpF hl,fun n hn=>?_⟩
 have h:=hr n hn
 have e1:IntKind.min .i64=-9223372036854775808:=by decide
 have e2:IntKind.max .i64=9223372036854775807:=by decide
 simp only[Lit.wf,Bool.and_eq_true,decide_eq_true_eq,e1,e2]at h
 omega
def ordC (i:Nat) (a b:List AV):List AV:=match i with
 | 0=>a++b
 | _+1=>b++a
structure ProgX (i:Nat) (pt:Nat→Nat) (lo b b' n:Nat) (H:Hp) (ra rf:Nat) (x y:Int) (f g:Fu) (pf lf bf:AV) (vf:List AV) (pg lg bg:AV) (vg:List AV):Prop where
 hb:3≤b∧3≤b'∧(b+4≤b'∨b'+4≤b)
 hlo:lo≤H.next
 lab:∀ q,q < lo→pt q=0
 ga:H.get ra=some (.cells [.str [97],.int .i64 x,.str [98],.int .i64 y] 0 true)
 gf:H.get rf=some (.cells (ordC i (fnC f.name pf lf bf vf) (fnC g.name pg lg bg vg)) 0 true)
 ltA:ra < H.next
 ltF:rf < H.next
 lra:pt ra=1
 lrf:pt rf=2
 F:FnL pt b n H f pf lf bf vf
 G:FnL pt b' n H g pg lg bg vg
section
variable {i:Nat} {pt:Nat → Nat} {lo b b' n:Nat} {H:Hp} {ra rf:Nat} {x y:Int} {f g:Fu} {pf lf bf:AV} {vf:List AV} {pg lg bg:AV} {vg:List AV} (h:ProgX i pt lo b b' n H ra rf x y f g pf lf bf vf pg lg bg vg)
include h
omit h in
end
theorem zba {H:Hp}{b:HB}{q:Nat} (h:q < H.next):(H.alloc b).get q=H.get q:=by rw[za,if_neg (by omega)]
end Go.Proofs.Ytpbcimfiofmoeaa
