/- Lemmas for the last file. -/
import Derived.Deep.Slices
import Derived.Test.YtbflaciihaijgaaGreatUEK
import Derived.WideKeyArgs
import Derived.WideShapes
set_option linter.all false
set_option maxHeartbeats 32000000
namespace Go.Ab
set_option maxRecDepth 20000
open Go
variable{qn:Prop}
def Ek(h:qn:=by simp only[IN];omega):=h
def Nz(h:qn:=by rw[List.length_set];exact hl):=h
def NA(h:qn:=by simp only[aS,bK];omega):=h
def VJ(h:qn:=by rw[L,show ej=70368744177664 from rfl];omega):=h
def El(h:qn:=by simp only[aK,Nat.reduceBEq, *];exact il (n:=u.funcs.length) ac ac):=h
def IE:=@Classical.choose_spec
end Go.Ab
namespace Go.Proofs.YtbflaciihaijgaaGreat
set_option maxRecDepth 20000
open Go Go.Ab Proofs.Tryz
variable(ρ:Nat->Int)
variable{b y x w t i cs:Int}{U u:Un}{e:E9}{n:Nd}{k j L:Nat}{q:Q9}{r:List (aY×Int)×MS}{c:Cx}{l:L9}{vs:List (aY×Int)}{m:MS}{p:Pr}{N:List aY}{S:Nat->Prop}{H:Hp}{cfg:Cfg}
section
def sV(n:Int):cX (IntKind.wrap .i64 n):=by
 unfold cX;rw[IntKind.wrap_i64];omega
def Bn:cX 0:=fQ
def Em(b:Bool):cX (pH b):=by unfold pH cX;split<;>omega
def zjJ(a b:Int):cX (xf a b):=by
 unfold xf;split
 .exact Bn
 .split<;>exact sV _
def zjK{a:Int}(h:cX a)(k:Nat):cX (a.fdiv (2^ k)):=by
 have hp:(0:Int)<2^ k:=by exact_mod_cast Nat.two_pow_pos k
 unfold cX at *;rw[HV _ (Int.le_of_lt hp)];have Y:(9223372036854775808:Int)*1<=9223372036854775808*2^ k:=Int.mul_le_mul_of_nonneg_left ac ac;refine⟨(Int.le_ediv_iff_mul_le hp).2 ?_,Int.ediv_lt_of_lt_mul hp ?_⟩
 .omega
 .omega
def VK{op a:Int}(m:cX a):cX (lZ op a b):=by
 unfold lZ;split
 .exact sV _
 split
 .exact sV _
 split
 .exact sV _
 split
 .exact zjJ _ _
 split
 .split
  .exact Bn
  .exact sV _
 split
 .exact sV _
 split
 .exact sV _
 split
 .exact sV _
 unfold Gz;split
 .exact sV _
 split
 .exact sV _
 split
 .exact zjK m _
 split
 .exact Em _
 split
 .exact Em _
 split
 .exact Em _
 split
 .exact Em _
 split
 .exact Em _
 .exact Bn
def zjL(op a:Int):cX (sA op a):=by
 unfold sA;split
 .exact sV _
 split
 .exact sV _
 .exact Bn
noncomputable def jX(U:Un)(e:E9)(n:Nd):ev:=fun k=>open Classical in if h:k∈n.ak/\∃q,Dn U (.nd e k q)then some (Classical.choose h.2)else none
theorem NB{k:Int}(h:jX U e n k=some q):k∈n.ak/\Dn U (.nd e k q):=by
 unfold jX at h;split at h
 .grind
 .cases h
def NC(k:Int)(q:Q9)(h:jX U e n k=some q):k∈n.ak/\q.k=true:=⟨(NB h).1,(NB h).2.bj.1⟩
def IF(k:Int)(q:Q9)(h:jX U e n k=some q):Dn U (.nd e k q):=(NB h).2
def fk(U:Un)(e:E9)(y v:Int):Prop:=∃q,Dn U (.nd e y q)/\q.v=v
def jM(U:Un)(e:E9)(y:Int)(s:S9):Prop:=∃q,Dn U (.nd e y q)/\q.s=some s
def ja(U:Un)(e:E9)(y:Int):Prop:=∃q,Dn U (.nd e y q)
def fk.d{v:Int}(h:fk U e y v):ja U e y:=by obtain⟨q,h,_⟩:=h;exact⟨q,h⟩
def jM.d{s:S9}(h:jM U e y s):ja U e y:=by obtain⟨q,h,_⟩:=h;exact⟨q,h⟩
section
variable {U:Un} (hU:∀ G ∈ U.funcs,Wg G.af) {e:E9} (hw:Wg e.x.g.af) {i:Nat}
include hU hw
def Bo{k:Int}(z:k∈n.ak)(h:Dn U (.nd e k q)):jX U e n k=some q:=by
 unfold jX;have hc:k∈n.ak/\∃q,Dn U (.nd e k q):=⟨z,q,h⟩;rw[dif_pos hc]
 congr 1
 exact GP hU hw h (IE hc.2)
def lM{k:Int}(I:n.ak[j]?=some k)(h:Dn U (.nd e k q)):da (jX U e n) n j=some q:=rK I (Bo hU hw (cV I) h)
theorem IG{n:Nd}:∀{L:qA},(∀k∈L,k∈n.ak/\ja U e k)->jf (jX U e n) L=some (-1)
 |[],_=>rfl
 |k::L,h=>by
  obtain⟨j,q,m⟩:=h k dM;rw[jf,Bo hU hw j m,aN,ai m.bj.1];exact IG fun k z=>h k (dh _ z)
theorem Bp{r:Q9}(h:e.x.g.af[i]?=some n)(Y:jv (jX U e n) n=some (-1))(L:eF e.x.start e.x.args e.var (jX U e n) n=some r):Dn U (.nd e i r.bj):=
 .op (Cg _) aU NC IF Y L
def sW{r:Q9}(h:e.x.g.af[i]?=some n)(C:n.op≠31)(Y:n.op≠22)(j:¬(n.op=27\/n.op=29\/n.op=30))(Z:∀k∈n.ak,ja U e k)(L:eF e.x.start e.x.args e.var (jX U e n) n=some r):Dn U (.nd e i r.bj):=
 Bp hU hw h (by unfold jv;rw[ah C,ah Y,ah j];exact IG hU hw fun k z=>⟨z,Z k z⟩) L
theorem Bq{c:Int}(h:e.x.g.af[i]?=some ⟨1,c,[]⟩):fk U e i c:=
 ⟨_,sW hU hw h aU aU aU (fun k z=>by cases z) (r:=⟨false,c,none,none⟩) (by unfold eF iO;simp_all),rfl⟩
theorem zjM{v:Int}(h:e.x.g.af[i]?=some ⟨2,k,[]⟩)(j:e.x.args[k]?=some v):fk U e i v:=
 ⟨_,sW hU hw h aU aU aU (fun k z=>by cases z) (r:=⟨false,v,none,none⟩) (by
  unfold eF iO;simp_all),rfl⟩
def zjN(h:e.x.g.af[i]?=some ⟨26,0,[]⟩):jM U e i e.x.start:=
 ⟨_,sW hU hw h aU aU aU (fun k z=>by cases z) (r:=⟨false,0,some e.x.start,none⟩) (by
  unfold eF iO nC;simp),rfl⟩
theorem Br{op a:Int}(h:e.x.g.af[i]?=some ⟨op,0,[a,b]⟩)(L:4<=op)(V:op<=19)(m:fk U e a x)(hb:fk U e b y):fk U e i (lZ op x y):=by
 obtain⟨Z,aI,rfl⟩:=m;obtain⟨I,Y,rfl⟩:=hb;refine⟨_,sW hU hw h cU cU cU (fun k z=>?_) (r:=⟨false,lZ op Z.v I.v,none,none⟩) ?_,rfl⟩
 .rcases eJ.1 z with rfl|z
  .exact⟨Z,aI⟩
  .obtain rfl:=oM.1 z;exact⟨I,Y⟩
 .have O:=lM hU hw (n:=⟨op,0,[a,b]⟩) (j:=0) rfl aI;have C:=lM hU hw (n:=⟨op,0,[a,b]⟩) (j:=1) rfl Y;unfold eF iO;simp only;rw[ah ac,ah ac,ah ac,ah ac,ah ac,ah ac,ah ac,ah ac,ah ac,ah ac,ah ac,O,aN,C,aN]
theorem VL{op a:Int}(h:e.x.g.af[i]?=some ⟨op,0,[a]⟩)(I:op=20\/op=21)(m:fk U e a x):fk U e i (sA op x):=by
 obtain⟨z,aI,rfl⟩:=m;refine⟨_,sW hU hw h cU cU cU (fun k Z=>?_) (r:=⟨false,sA op z.v,none,none⟩) ?_,rfl⟩
 .obtain rfl:=oM.1 Z;exact⟨z,aI⟩
 .have Y:=lM hU hw (n:=⟨op,0,[a]⟩) (j:=0) rfl aI;unfold eF iO
  grind
theorem VM{a:Int}{s:S9}(h:e.x.g.af[i]?=some ⟨23,k,[a,b]⟩)(m:jM U e a s)(hb:fk U e b x)(L:yP s k x=some w):fk U e i w:=by
 obtain⟨Y,aI,a6⟩:=m;obtain⟨I,Z,rfl⟩:=hb;refine⟨_,sW hU hw h aU aU aU (fun k z=>?_) (r:=⟨false,w,none,none⟩) ?_,rfl⟩
 .rcases eJ.1 z with rfl|z
  .exact⟨Y,aI⟩
  .obtain rfl:=oM.1 z;exact⟨I,Z⟩
 .have V:=lM hU hw (n:=⟨23,k,[a,b]⟩) (j:=0) rfl aI;have C:=lM hU hw (n:=⟨23,k,[a,b]⟩) (j:=1) rfl Z;unfold eF iO;simp_all
theorem II{a:Int}{s:S9}(h:e.x.g.af[i]?=some ⟨24,0,[a]⟩)(m:jM U e a s):fk U e i s.bI:=by
 obtain⟨Z,aI,a6⟩:=m;refine⟨_,sW hU hw h aU aU aU (fun k z=>?_) (r:=⟨false,s.bI,none,none⟩) ?_,rfl⟩
 .obtain rfl:=oM.1 z;exact⟨Z,aI⟩
 .have Y:=lM hU hw (n:=⟨24,0,[a]⟩) (j:=0) rfl aI;unfold eF iO;simp_all
theorem VN{a d:Int}{s L:S9}(h:e.x.g.af[i]?=some ⟨28,k,[a,b,d]⟩)(m:jM U e a s)(hb:fk U e b x)(hd:fk U e d w)(J:yQ s k x w=some L):jM U e i L:=by
 obtain⟨V,aI,a6⟩:=m;obtain⟨I,Z,rfl⟩:=hb;obtain⟨O,Y,rfl⟩:=hd;refine⟨_,sW hU hw h aU aU aU (fun k z=>?_) (r:=⟨false,0,some L,none⟩) ?_,rfl⟩
 .rcases eJ.1 z with rfl|z
  .exact⟨V,aI⟩
  .rcases eJ.1 z with rfl|z
   .exact⟨I,Z⟩
   .obtain rfl:=oM.1 z;exact⟨O,Y⟩
 .have C:=lM hU hw (n:=⟨28,k,[a,b,d]⟩) (j:=0) rfl aI;have e1:=lM hU hw (n:=⟨28,k,[a,b,d]⟩) (j:=1) rfl Z;have e2:=lM hU hw (n:=⟨28,k,[a,b,d]⟩) (j:=2) rfl Y;unfold eF iO nC;simp_all
theorem zjO{c a v:Int}(h:e.x.g.af[i]?=some ⟨22,0,[c,a,b]⟩)(V:fk U e c v)(m:v≠0->Dn U (.nd e a q))(hb:v=0->Dn U (.nd e b q)):Dn U (.nd e i q):=by
 obtain⟨br,c1,rfl⟩:=V;have Y:=Bo hU hw (n:=⟨22,0,[c,a,b]⟩) dM c1;have O:=lM hU hw (n:=⟨22,0,[c,a,b]⟩) (j:=0) rfl c1;obtain⟨k,z,I,hd⟩:∃k,pK (jX U e ⟨22,0,[c,a,b]⟩) ⟨22,0,[c,a,b]⟩=some k/\k∈[c,a,b]/\Dn U (.nd e k q):=by
  unfold pK
  grind
 have L:=Bo hU hw (n:=⟨22,0,[c,a,b]⟩) I hd;have Z:=hd.bj.1;have:=Bp hU hw (r:=q) h (by
  unfold jv;simp only;rw[ah ac,ai trivial,xo,aN,Y,aN,ai c1.bj.1,z,aN,L,aN,ai Z]) (by
  unfold eF iO;simp_all)
 rw[show q.bj=q by cases q;cases Z;rfl]at this;exact this
theorem Eo{a:Int}{s:S9}(h:e.x.g.af[i]?=some n)(j:n.op=27\/n.op=29\/n.op=30)(z:n.ak[0]?=some a)(m:jM U e a s)(V:s.ed≠0):jM U e i s:=by
 obtain⟨Y,aI,a6⟩:=m;have Z:=lM hU hw (n:=n) z aI;refine⟨_,Bp hU hw (r:=⟨false,0,some s,none⟩) h ?_ ?_,rfl⟩
 .unfold jv;rw[ah ac,ah ac,ai j,Z,aN,ai aI.bj.1,a6,aN,ai V]
 .unfold eF iO nC;by_cases c:n.op=30
  .simp_all
  .rw[ah c,ah ac,ah ac,ah ac,ah ac,ah ac,ah ac,ah ac,ah ac,ah ac,ai ac,ah ac,Z,aN,a6,aN,ah ac,ai V,aN]
def IJ{a:Int}{s:S9}(j:n.op=27\/n.op=29\/n.op=30)(Y:n.ak[0]?=some a){Z:Q9}(aI:Dn U (.nd e a Z))(a6:Z.s=some s)(O:s.ed=0)(J:∀k∈n.ak,ja U e k):jv (jX U e n) n=some (-1):=by
 have V:=lM hU hw (n:=n) Y aI;unfold jv;rw[ah ac,ah ac,ai j,V,aN,ai aI.bj.1,a6,aN,ah ac];exact IG hU hw fun k z=>⟨z,J k z⟩
theorem zjP{a:Int}{s:S9}(h:e.x.g.af[i]?=some ⟨27,t,[a,b]⟩)(m:jM U e a s)(V:s.ed=0)(hb:fk U e b x):jM U e i (if x≠0 then s else {s with ed:=2,aT:=t}):=by
 obtain⟨Y,aI,a6⟩:=m;obtain⟨I,Z,rfl⟩:=hb;have O:=lM hU hw (n:=⟨27,t,[a,b]⟩) (j:=0) rfl aI;have C:=lM hU hw (n:=⟨27,t,[a,b]⟩) (j:=1) rfl Z;refine⟨_,Bp hU hw (r:=⟨false,0,some (if I.v≠0 then s else {s with ed:=2,aT:=t}),none⟩) h (IJ hU hw (.inl rfl) rfl aI a6 V fun k z=>?_) ?_,rfl⟩
 .rcases eJ.1 z with rfl|z
  .exact⟨Y,aI⟩
  .obtain rfl:=oM.1 z;exact⟨I,Z⟩
 .unfold eF iO nC;simp_all
theorem zjQ{a:Int}{s:S9}(h:e.x.g.af[i]?=some ⟨29,0,[a,b]⟩)(m:jM U e a s)(V:s.ed=0)(hb:fk U e b x):jM U e i {s with out:=x::s.out}:=by
 obtain⟨Y,aI,a6⟩:=m;obtain⟨I,Z,rfl⟩:=hb;have O:=lM hU hw (n:=⟨29,0,[a,b]⟩) (j:=0) rfl aI;have C:=lM hU hw (n:=⟨29,0,[a,b]⟩) (j:=1) rfl Z;refine⟨_,Bp hU hw (r:=⟨false,0,some {s with out:=I.v::s.out},none⟩) h (IJ hU hw (.inr (.inl rfl)) rfl aI a6 V fun k z=>?_) ?_,rfl⟩
 .rcases eJ.1 z with rfl|z
  .exact⟨Y,aI⟩
  .obtain rfl:=oM.1 z;exact⟨I,Z⟩
 .unfold eF iO nC;simp_all
theorem zjR{a:Int}{s:S9}(h:e.x.g.af[i]?=some n)(I:n.op=30)(z:n.ak[0]?=some a)(m:jM U e a s)(V:s.ed=0)(Z:(ct s).ed≠0)(J:∀k∈n.ak,ja U e k):jM U e i (ct s):=by
 obtain⟨Y,aI,a6⟩:=m;have O:=lM hU hw (n:=n) z aI;refine⟨_,Bp hU hw (r:=⟨false,0,some (ct s),none⟩) h (IJ hU hw (.inr (.inr I)) z aI a6 V J) ?_,rfl⟩;unfold eF;simp_all
theorem IK{n:Nd}:∀{m j:Nat}{vs:qA},vs.length=m->(∀t v,vs[t]?=some v->∃k,n.ak[j+t]?=some k/\fk U e k v)->gK (jX U e n) n.ak m j=some vs
 |0,j,vs,hl,_=>by rw[Co hl];rfl
 |m+1,j,vs,hl,h=>by
  cases vs with
  |nil=>cases hl
  |cons v vs=>
   obtain⟨k,Z,q,V,O⟩:=h 0 v rfl;rw[gK,show n.ak[j]?=some k from Z,aN,Bo hU hw (cV Z) V,aN,IK (m:=m) (j:=j+1) (vs:=vs) (by simpa using hl) fun t C Y=>by
    obtain⟨k',L,J⟩:=h (t+1) C FC
    grind,aN,O]
def zjS{a:Int}{s st:S9}{args:qA}{G:Gr}{v:Int}(h:e.x.g.af[i]?=some n)(V:n.op=30)(z:n.ak[0]?=some a)(C:jM U e a s)(O:s.ed=0)(ht:(ct s).ed=0)(hl:n.ak.length=1+args.length)(J:∀t v,args[t]?=some v->∃k,n.ak[1+t]?=some k/\fk U e k v)(hi:0<=n.aP)(hG:U.funcs[n.aP.toNat]?=some G)(hf:Dn U (.fn ⟨n.aP.toNat,G,(ct s).bb 0,args⟩ st v)):jM U e i (st.bb (if st.ed=0 then v else s.bI)):=by
 obtain⟨qa,aI,a6⟩:=C;have e0:=lM hU hw (n:=n) z aI;have Y:∀k∈n.ak,ja U e k:=fun k Z=>by
  obtain⟨j,I⟩:=kT Z;have hjl:=jg I;cases j with
  |zero=>rw[z,am]at I;subst I;exact⟨qa,aI⟩
  |succ j=>
   obtain⟨k',L,p2⟩:=J j (args[j]' ac) (aX ac);rw[show 1+j=j+1 by omega,I,am]at L;subst L;exact p2.d
 exact⟨_,.call (Cg _) aU NC IF (IJ hU hw (.inr (.inr V)) z aI a6 O Y) V e0 a6 O ht (IK hU hw (n:=n) (m:=n.ak.length-1) (j:=1) ac J) hi hG hf,rfl⟩
theorem zjT(h:e.x.g.af[i]?=some ⟨3,16*(L:Int),[]⟩)(Z:e.var L=some l):jM U e i l.s:=
 ⟨_,sW hU hw h aU aU aU (fun k z=>by cases z) (r:=⟨false,0,some l.s,none⟩) (by
  unfold eF iO
  grind),rfl⟩
theorem zjU{v:Int}(h:e.x.g.af[i]?=some ⟨3,16*(L:Int)+1+j,[]⟩)(I:j<15)(Z:e.var L=some l)(Y:l.v[j+1]?=some v):fk U e i v:=
 ⟨_,sW hU hw h aU aU aU (fun k z=>by cases z) (r:=⟨false,v,none,none⟩) (by
  unfold eF iO
  grind),rfl⟩
theorem zjV{a:Int}(h:e.x.g.af[i]?=some ⟨25,0,[a]⟩)(m:Dn U (.nd e a q))(L:q.l=some l):jM U e i l.s:=by
 have Z:=lM hU hw (n:=⟨25,0,[a]⟩) (j:=0) rfl m;exact⟨_,sW hU hw h aU aU aU (fun k z=>by obtain rfl:=oM.1 z;exact⟨q,m⟩) (r:=⟨false,0,some l.s,none⟩) (by
  unfold eF iO;simp_all),rfl⟩
theorem zjW{a:Int}{v:Int}(h:e.x.g.af[i]?=some ⟨25,j,[a]⟩)(I:1<=j)(m:Dn U (.nd e a q))(L:q.l=some l)(Z:l.v[j]?=some v):fk U e i v:=by
 have Y:=lM hU hw (n:=⟨25,j,[a]⟩) (j:=0) rfl m;exact⟨_,sW hU hw h aU aU aU (fun k z=>by obtain rfl:=oM.1 z;exact⟨q,m⟩) (r:=⟨false,v,none,none⟩) (by
  unfold eF iO
  grind),rfl⟩
theorem VO{a:Int}{s:S9}{vs:qA}{fin:L9}(h:e.x.g.af[i]?=some n)(ho:n.op=31)(hi:0<=n.aP/\n.aP<16/\1<=db n.ak.length)(z:n.ak[0]?=some a)(ha:jM U e a s)(hl:vs.length=db n.ak.length-1)(J:∀t v,vs[t]?=some v->∃k,n.ak[1+t]?=some k/\fk U e k v)(hf:Dn U (.lp e n ⟨s,0::vs⟩ fin)):Dn U (.nd e i ⟨true,0,none,some fin⟩):=by
 obtain⟨qa,aI,a6⟩:=ha;have hd:∀k∈n.ak.take (db n.ak.length),k∈n.ak/\ja U e k:=fun k Z=>by
  obtain⟨j,I⟩:=kT Z;have m:=jg I;rw[oE]at m;rw[ry,ai ac]at I;refine⟨cV I,?_⟩;cases j with
  |zero=>rw[z,am]at I;subst I;exact⟨qa,aI⟩
  |succ j=>
   obtain⟨k',p1,p2⟩:=J j (vs[j]' ac) (aX ac);rw[show 1+j=j+1 by omega,I,am]at p1;subst p1;exact p2.d
 have hm:jf (jX U e n) (n.ak.take (db n.ak.length))=some (-1):=IG hU hw hd
 let g:ev:=fun k=>if k∈n.ak.take (db n.ak.length)then jX U e n k else none
 have hg:∀k∈n.ak.take (db n.ak.length),g k=jX U e n k:=fun k z=>ai z;have Y:∀k q,g k=some q->k∈n.ak.take (db n.ak.length)/\jX U e n k=some q:=fun k q V=>by
  grind
 have C:∀L:qA,(∀k∈L,g k=jX U e n k)->jf g L=jf (jX U e n) L:=by
  intro L;induction L with
  |nil=>intro _;rfl
  |cons k L ih=>
   intro z;rw[jf,jf,z k dM,ih fun k' Z=>z k' (dh _ Z)]
 have h0t:n.ak.take (db n.ak.length)=n.ak.take (db n.ak.length):=rfl;have O:∀(j:Nat) (k:Int),j<db n.ak.length->n.ak[j]?=some k->k∈n.ak.take (db n.ak.length):=fun j k I z=>cV (i:=j) aU;refine .loop (g:=g) (Cg _) aU (fun k q V=>⟨(Y k q V).1,(NC k q (Y k q V).2).2⟩) (fun k q V=>IF k q (Y k q V).2) ?_ ho hi (q:=qa) ?_ a6 (vs:=vs) ?_ hf
 .unfold jv;simp_all
 .refine rK z ?_;rw[hg a (O 0 a ac z)];exact Bo hU hw (cV z) aI
 .rw[yV (a:=jX U e n) fun t k h1 h2 h3=>hg k (O t k ac h3)];exact IK hU hw (n:=n) hl J
end
structure StR (ar:qT) (st:S9) (m:MS):Prop where
 ed:st.ed=m.a4
 out:st.out=m.out.reverse
 aT:m.a4=2->st.aT=m.aT
 cl:st.cells.length=ar.length
 a2:m.a4=0->st.a2=m.a2
 cells:m.a4=0->∀(j:Nat) a,ar[j]?=some a->st.cells[j]?=some (iZ m.cells a.name)/\((iZ m.cells a.name).length:Int)=a.len/\∀x∈iZ m.cells a.name,cX x
def fR(U:Un)(e:E9)(ar:qT)(y:Int)(m:MS):Prop:=∃st,jM U e y st/\StR ar st m
structure VaR (U:Un) (e:E9) (c:Cx) (vars:qA) (vs:List (aY×Int)) (m:MS):Prop where
 len:vars.length=c.aO.length
 v:∀(i:Nat) y nm,vars[i]?=some y->c.aO[i]?=some nm->∃v,fk U e y v/\(m.a4=0->v=di vs nm/\cX v)
def VaR.d{vars:qA}(h:VaR U e c vars vs m):∀y∈vars,ja U e y:=fun y Z=>by
 obtain⟨i,O⟩:=kT Z;have L:=jg O;obtain⟨v,j,_⟩:=h.v i y (c.aO[i]'(by rw[<-h.len];exact L)) O (aX _);exact j.d
theorem VaR.a4{vars:qA}{z:List (aY×Int)}{m':MS}(h:VaR U e c vars vs m)(Y:m'.a4≠0):VaR U e c vars z m':=⟨h.len,fun i y L j Z=>by
 obtain⟨v,C,_⟩:=h.v i y L j Z
 grind⟩
theorem zM:∀{l:List aY}{s:aY},bL l s=true->l[bS l s]?=some s
 |[],s,h=>by simp[bL]at h
 |a::l,s,h=>by
  rw[bS];by_cases c:a=s
  .simp_all
  .rw[ah c];have m:bL l s=true:=by
    have e:bL (a::l) s=(decide (a=s)||bL l s):=rfl;simp_all
   rw[ai m,sG];exact zM m
theorem fI{s:Bd}{L:qF}(h:(aj n s).2.l<+:L):L[fG s.l n]?=some n:=by
 obtain⟨t,rfl⟩:=h;have j:(ku s.l n)[fG s.l n]?=some n:=Ie s.l n;have Z:=jg j;show(ku s.l n++t)[fG s.l n]?=some n
 grind
theorem VP{s:S9}(h:k<s.cells.length)(x:Int):∃w,yP s k x=some w:=by
 unfold yP;simp_all
theorem VQ{s:S9}(h:k<s.cells.length)(x w:Int):∃L,yQ s k x w=some L/\L.ed=s.ed/\L.out=s.out/\L.aT=s.aT/\L.a2=s.a2/\L.cells.length=s.cells.length:=by
 unfold yQ
 grind
theorem zjX{len:Int}(I:cX x)(L:0<=len)(j:len<2^62):lZ 19 x len=pH (decide (0<=x/\x<len)):=by
 have e:lZ 19 x len=pH (decide (IntKind.wrap .u64 x<IntKind.wrap .u64 len)):=rfl;rw[e]
 congr 1
 rw[As];unfold cX at I;have C:IntKind.wrap .u64 len=len:=zo _ ac;rw[C];by_cases c:0<=x
 .rw[zo x ac];omega
 .have:IntKind.wrap .u64 x=x+18446744073709551616:=by
   unfold IntKind.wrap;simp only[IntKind.signed,nh,dV,fK,IntKind.bits];omega
  rw[this];omega
theorem zjY(x:Int):lZ 16 x 0=pH (!decide (x=0)):=rfl
def VS(b:Bool):pH b=0↔b=false:=by cases b<;>simp[pH]
def StR.eY{ar:qT}{st:S9}(h:StR ar st m)(L:m.a4=0)(t:Int):StR ar {st with ed:=2,aT:=t} (fo t m):=by
 unfold fo;rw[ai L];exact⟨rfl,h.out,fun _=>rfl,h.cl,(fun e=>aU),fun e=>aU⟩
section
variable {U:Un} (hU:∀ G ∈ U.funcs,Wg G.af) {e:E9} (hw:Wg e.x.g.af)
include hU hw
theorem Bt{ar:qT}{s:Bd}{v:Int}(Y:(kM t v s).l<+:e.x.g.af)(V:fR U e ar s.aa m)(O:m.a4=0->fk U e v x):fR U e ar (kM t v s).aa (if m.a4=0/\x=0 then fo t m else m):=by
 obtain⟨st,j,Z⟩:=V;have J:=fI (s:=s) (n:=⟨27,t,[s.aa,v]⟩) Y;by_cases c0:m.a4=0
 .have:=zjP hU hw J j (by rw[Z.ed];exact c0) (O c0);by_cases cx:x=0
  .rw[ai ⟨c0,cx⟩];rw[ah ac]at this;exact⟨_,this,Z.eY c0 t⟩
  .rw[ah (fun h=>cx h.2)];rw[ai cx]at this;exact⟨_,this,Z⟩
 .rw[ah (fun h=>c0 h.1)];exact⟨st,Eo hU hw J (.inl rfl) rfl j (by rw[Z.ed];exact c0),Z⟩
theorem VT{ar:qT}{s:Bd}{len:Int}(Y:(dS len i s).l<+:e.x.g.af)(O:fR U e ar s.aa m)(j:m.a4=0->fk U e i x/\cX x)(L:0<=len)(J:len<2^62):fR U e ar (dS len i s).aa (if m.a4=0/\(x<0\/len<=x)then fo 2 m else m):=by
 have l1:=b9 ⟨1,len,[]⟩ s;have l2:=b9 ⟨19,0,[i,(aj ⟨1,len,[]⟩ s).1]⟩ (aj ⟨1,len,[]⟩ s).2;have l3:=r1 2 (aj ⟨19,0,[i,(aj ⟨1,len,[]⟩ s).1]⟩ (aj ⟨1,len,[]⟩ s).2).1 (aj ⟨19,0,[i,(aj ⟨1,len,[]⟩ s).1]⟩ (aj ⟨1,len,[]⟩ s).2).2;have V:(kM 2 (aj ⟨19,0,[i,(aj ⟨1,len,[]⟩ s).1]⟩ (aj ⟨1,len,[]⟩ s).2).1 (aj ⟨19,0,[i,(aj ⟨1,len,[]⟩ s).1]⟩ (aj ⟨1,len,[]⟩ s).2).2).l<+:e.x.g.af:=Y;have Z:=l3.le.l.trans V;have I:=l2.le.l.trans Z;have hc:=Bq hU hw (fI (s:=s) (n:=⟨1,len,[]⟩) I);have:=Bt hU hw (ar:=ar) (m:=m) (x:=lZ 19 x len) V O fun c0=>Br hU hw (fI Z) ac ac (j c0).1 hc;by_cases c0:m.a4=0
 .have C:=zjX (j c0).2 L J;have z:(m.a4=0/\lZ 19 x len=0)↔(m.a4=0/\(x<0\/len<=x)):=by
   rw[C,VS,oP];omega
  simp only[z]at this;exact this
 .rw[ah (fun h=>c0 h.1)]at this⊢;exact this
theorem VU{ar:qT}{s:Bd}(Y:(lJ i s).l<+:e.x.g.af)(O:fR U e ar s.aa m)(j:m.a4=0->fk U e i x):fR U e ar (lJ i s).aa (if m.a4=0/\x=0 then fo 1 m else m):=by
 have l1:=b9 ⟨1,0,[]⟩ s;have l2:=b9 ⟨16,0,[i,(aj ⟨1,0,[]⟩ s).1]⟩ (aj ⟨1,0,[]⟩ s).2;have l3:=r1 1 (aj ⟨16,0,[i,(aj ⟨1,0,[]⟩ s).1]⟩ (aj ⟨1,0,[]⟩ s).2).1 (aj ⟨16,0,[i,(aj ⟨1,0,[]⟩ s).1]⟩ (aj ⟨1,0,[]⟩ s).2).2;have V:(kM 1 (aj ⟨16,0,[i,(aj ⟨1,0,[]⟩ s).1]⟩ (aj ⟨1,0,[]⟩ s).2).1 (aj ⟨16,0,[i,(aj ⟨1,0,[]⟩ s).1]⟩ (aj ⟨1,0,[]⟩ s).2).2).l<+:e.x.g.af:=Y;have Z:=l3.le.l.trans V;have L:=l2.le.l.trans Z;have hc:=Bq hU hw (fI (s:=s) (n:=⟨1,0,[]⟩) L);have:=Bt hU hw (ar:=ar) (m:=m) (x:=lZ 16 x 0) V O fun c0=>Br hU hw (fI Z) ac ac (j c0) hc;have J:(m.a4=0/\lZ 16 x 0=0)↔(m.a4=0/\x=0):=by
  rw[zjY,VS];simp
 simp only[J]at this;exact this
theorem mQ{c a v:Int}{s:Bd}(m:(a5 c a b s).2.l<+:e.x.g.af)(L:fk U e c v)(Z:v≠0->Dn U (.nd e a q))(hb:v=0->Dn U (.nd e b q)):Dn U (.nd e (a5 c a b s).1 q):=by
 unfold a5 at m⊢;by_cases z:a=b
 .grind
 .rw[ah z]at m⊢;exact zjO hU hw (fI m) L Z hb
theorem tU{c:Cx}{m:MS}(hm:m.a4≠0):∀(n:Nat) (x:Ex) (s:Bd) (r:Int×Bd),XOk c x->ei c n x s=some r->r.2.l<+:e.x.g.af->fR U e c.ab s.aa m->(∀y∈s.vars,ja U e y)->ja U e r.1/\fR U e c.ab r.2.aa m
 |0,x,s,r,hx,h,hp,hs,hv=>by simp[ei]at h
 |n+1,x,s,r,hx,h,hp,hs,hv=>by
  have I:=tU (c:=c) hm n;have hwf:=hx.wf;have hdf:=hx.df;rw[xQ,bT,ph]at hwf;rw[zt,bT,pj]at hdf;have Z:=hwf.2;unfold ei at h;by_cases e1:x.az=1
  .rw[ai e1,am]at h;subst h;exact⟨(Bq hU hw (fI hp)).d,hs⟩
  rw[ah e1]at Z h;by_cases e2:x.az=2
  .rw[ai e2]at h;obtain⟨y,h1,h2⟩:=uj.1 h;subst h2;exact⟨hv y (cV h1),hs⟩
  rw[ah e2]at Z h;by_cases e3:x.az=3
  .rw[ai e3]at Z h;have hn:bL (c.ab.map (·.name)) x.name=true:=by have:=hdf.2;simp[e3]at this;exact this
   have hlt:=u7 hn;rw[dk]at hlt;obtain⟨k,hk,h⟩:=aC.1 h;obtain⟨aq,j,h⟩:=aC.1 h;obtain⟨a,ha,h⟩:=aC.1 h;rw[am]at h;subst h;have lp:=b9 ⟨23,bS (c.ab.map (·.name)) x.name,[(dS a.len aq.1 aq.2).aa,aq.1]⟩ (dS a.len aq.1 aq.2);have pc:=lp.le.l.trans hp;have V:=(pX a.len aq.1 aq.2).le.l.trans pc;obtain⟨⟨q,hq⟩,hs1⟩:=I k s aq (hx.bM hk) j V hs hv;obtain⟨st,t1,t2⟩:=hs1;have hg:fR U e c.ab (dS a.len aq.1 aq.2).aa m:=by
    have h3:=Bt hU hw (ar:=c.ab) (m:=m) (x:=0) (t:=2) (s:=(aj ⟨19,0,[aq.1,(aj ⟨1,a.len,[]⟩ aq.2).1]⟩ (aj ⟨1,a.len,[]⟩ aq.2).2).2) pc ⟨st,t1,t2⟩ fun c0=>absurd c0 hm;rw[ah (fun h=>hm h.1)]at h3;exact h3
   obtain⟨O,u1,u2⟩:=hg;obtain⟨w,hl⟩:=VP (s:=O) (k:=bS (c.ab.map (·.name)) x.name) (by rw[u2.cl];exact hlt) q.v;exact⟨(VM hU hw (fI hp) u1 ⟨q,hq,rfl⟩ hl).d,O,u1,u2⟩
  rw[ah e3]at Z h;by_cases e5:x.az=5
  .rw[ai e5]at h;obtain⟨k0,C,h⟩:=aC.1 h;obtain⟨au,L,h⟩:=aC.1 h;obtain⟨k1,J,h⟩:=aC.1 h;obtain⟨aq,j,h⟩:=aC.1 h;obtain⟨k2,hk2,h⟩:=aC.1 h;obtain⟨r2,hr2,h⟩:=aC.1 h;simp only[am]at h;subst h;have l0:=cD c n _ _ _ L;have l1:=cD c n _ _ _ j;have l2:=cD c n _ _ _ hr2;have lv:=eB au.1 aq.1 r2.1 r2.2;have lt:=eB au.1 aq.2.aa (a5 au.1 aq.1 r2.1 r2.2).2.aa (a5 au.1 aq.1 r2.1 r2.2).2;have pt:(a5 au.1 aq.2.aa (a5 au.1 aq.1 r2.1 r2.2).2.aa (a5 au.1 aq.1 r2.1 r2.2).2).2.l<+:e.x.g.af:=hp;have pv:=lt.le.l.trans pt;have p2:=lv.le.l.trans pv;have V:aq.2.l<+:e.x.g.af:=l2.le.l.trans p2;have p0:=l1.le.l.trans V;obtain⟨⟨q0,Y⟩,z⟩:=I k0 s au (hx.bM C) L p0 hs hv;have v0:∀y∈au.2.vars,ja U e y:=by rw[l0.v];exact hv
   obtain⟨⟨q1,h1⟩,s1⟩:=I k1 au.2 aq (hx.bM J) j V z v0;obtain⟨⟨q2,h2⟩,s2⟩:=I k2 {aq.2 with aa:=au.2.aa} r2 (hx.bM hk2) hr2 p2 z (by show ∀y∈aq.2.vars,_;rw[l1.v];exact v0);have hst2:(a5 au.1 aq.1 r2.1 r2.2).2.aa=r2.2.aa:=by
    unfold a5;split<;>rfl
   obtain⟨st1,t1,t2⟩:=s1;obtain⟨O,u1,u2⟩:=s2;obtain⟨qa,ta,tb⟩:=t1;obtain⟨qb,ua,ub⟩:=u1;by_cases cv:q0.v=0
   .exact⟨⟨q2,mQ hU hw pv ⟨q0,Y,rfl⟩ (fun e=>absurd cv e) fun _=>h2⟩,O,⟨qb,mQ hU hw pt ⟨q0,Y,rfl⟩ (fun e=>absurd cv e) fun _=>by rw[hst2];exact ua,ub⟩,u2⟩
   .exact⟨⟨q1,mQ hU hw pv ⟨q0,Y,rfl⟩ (fun _=>h1) fun e=>absurd e cv⟩,st1,⟨qa,mQ hU hw pt ⟨q0,Y,rfl⟩ (fun _=>ta) fun e=>absurd e cv,tb⟩,t2⟩
  rw[ah e5]at h;by_cases e4:x.az=4
  .rw[ai e4]at Z;simp only[bT,nU,kE]at Z;obtain⟨k0,C,h⟩:=aC.1 h;obtain⟨au,L,h⟩:=aC.1 h;by_cases e6:x.ak.length=1
   .rw[ai e6,am]at h;have ho:x.op=20\/x.op=21:=by
     rcases Z.2 with h|h
     .omega
     .exact h.2
    subst h;have lp:=b9 ⟨x.op,0,[au.1]⟩ au.2;obtain⟨⟨q0,Y⟩,z⟩:=I k0 s au (hx.bM C) L (lp.le.l.trans hp) hs hv;exact⟨(VL hU hw (fI hp) ho ⟨q0,Y,rfl⟩).d,z⟩
   .rw[ah e6]at h;have ho:4<=x.op/\x.op<=18:=by
     rcases Z.2 with h|h
     .have:=h.2;simp[sM]at this;exact this
     .omega
    obtain⟨k1,J,h⟩:=aC.1 h;obtain⟨aq,j,h⟩:=aC.1 h;rw[am]at h;subst h;have l0:=cD c n _ _ _ L;have l1:=cD c n _ _ _ j;by_cases e7:x.op=7\/x.op=8
    .simp only[ai e7]at hp⊢;have lp:=b9 ⟨x.op,0,[au.1,aq.1]⟩ (lJ aq.1 aq.2);have pd:=lp.le.l.trans hp;have V:=(Bb aq.1 aq.2).le.l.trans pd;obtain⟨⟨q0,Y⟩,z⟩:=I k0 s au (hx.bM C) L (l1.le.l.trans V) hs hv;obtain⟨⟨q1,h1⟩,s1⟩:=I k1 au.2 aq (hx.bM J) j V z (by rw[l0.v];exact hv);have hd:=VU hU hw (ar:=c.ab) (m:=m) (x:=0) pd s1 fun c0=>absurd c0 hm;rw[ah (fun h=>hm h.1)]at hd;exact⟨(Br hU hw (fI hp) ac ac ⟨q0,Y,rfl⟩ ⟨q1,h1,rfl⟩).d,hd⟩
    .simp only[ah e7]at hp⊢;have lp:=b9 ⟨x.op,0,[au.1,aq.1]⟩ aq.2;have V:=lp.le.l.trans hp;obtain⟨⟨q0,Y⟩,z⟩:=I k0 s au (hx.bM C) L (l1.le.l.trans V) hs hv;obtain⟨⟨q1,h1⟩,s1⟩:=I k1 au.2 aq (hx.bM J) j V z (by rw[l0.v];exact hv);exact⟨(Br hU hw (fI hp) ac ac ⟨q0,Y,rfl⟩ ⟨q1,h1,rfl⟩).d,s1⟩
  simp_all
end
def wy{n:Nat}{x:Ex}{r:Int×MS}(h:eL n x vs m=some r)(Y:m.a4≠0):r=(0,m):=by
 cases n with
 |zero=>simp[eL]at h
 |succ n=>rw[eL,ai Y,am]at h;exact h.symm
structure XR (U:Un) (e:E9) (c:Cx) (r:Int×Bd) (rm:Int×MS):Prop where
 v:∃v,fk U e r.1 v/\(rm.2.a4=0->v=rm.1/\cX v)
 s:fR U e c.ab r.2.aa rm.2
section
variable {U:Un} (hU:∀ G ∈ U.funcs,Wg G.af) {e:E9} (hw:Wg e.x.g.af)
include hU hw
def zjZ{n:Nat}{x:Ex}{s:Bd}{r:Int×Bd}(I:XOk c x)(h:ei c n x s=some r)(Z:r.2.l<+:e.x.g.af)(V:fR U e c.ab s.aa m)(j:VaR U e c s.vars vs m){n':Nat}{J:Int×MS}(Y:eL n' x vs m=some J)(z:m.a4≠0):XR U e c r J:=by
 have C:=wy Y z;subst C;obtain⟨⟨q,a⟩,b⟩:=tU hU hw z n x s r I h Z V j.d;exact⟨⟨q.v,⟨q,a,rfl⟩,fun e=>absurd e z⟩,b⟩
theorem vd{c:Cx}(hc:zd4 c):∀(n n':Nat) (x:Ex) (s:Bd) (r:Int×Bd) (vs:List (aY×Int)) (m:MS) (J:Int×MS),XOk c x->ei c n x s=some r->r.2.l<+:e.x.g.af->fR U e c.ab s.aa m->VaR U e c s.vars vs m->eL n' x vs m=some J->XR U e c r J
 |0,_,x,s,r,vs,m,J,hx,h,hp,hs,hv,Y=>by simp[ei]at h
 |n+1,0,x,s,r,vs,m,J,hx,h,hp,hs,hv,Y=>by simp[eL]at Y
 |n+1,n'+1,x,s,r,vs,m,J,hx,h,hp,hs,hv,Y=>by
  by_cases hf:m.a4=0
  case neg=>exact zjZ hU hw hx h hp hs hv Y hf
  have IH:=vd (c:=c) hc n n';have hwf:=hx.wf;have hdf:=hx.df;have hrg:=(Ij x).1 hx.rg;rw[xQ,bT,ph]at hwf;rw[zt,bT,pj]at hdf;have I:=hwf.2;unfold ei at h;unfold eL at Y;rw[ah ac]at Y;by_cases e1:x.az=1
  .rw[ai e1,am]at h Y;subst h;subst Y;exact⟨⟨x.n,Bq hU hw (fI hp),fun _=>⟨rfl,hrg.1⟩⟩,hs⟩
  rw[ah e1]at I h Y;by_cases e2:x.az=2
  .rw[ai e2]at h Y;obtain⟨y,h1,h2⟩:=uj.1 h;rw[am]at Y;subst h2;subst Y;have hn:bL c.aO x.name=true:=aU;obtain⟨v,h3,h4⟩:=hv.v _ y _ h1 (zM hn);exact⟨⟨v,h3,h4⟩,hs⟩
  rw[ah e2]at I h Y;by_cases e3:x.az=3
  .rw[ai e3]at I h Y;have hn:bL (c.ab.map (·.name)) x.name=true:=aU;have hlt:=u7 hn;have hat:=zM hn;rw[dk]at hlt;obtain⟨k,hk,h⟩:=aC.1 h;obtain⟨aq,j,h⟩:=aC.1 h;obtain⟨a,ha,h⟩:=aC.1 h;rw[am]at h;subst h;rw[hk,aN]at Y;obtain⟨bt,z,Y⟩:=aC.1 Y;have lp:=b9 ⟨23,bS (c.ab.map (·.name)) x.name,[(dS a.len aq.1 aq.2).aa,aq.1]⟩ (dS a.len aq.1 aq.2);have pc:=lp.le.l.trans hp;have p1:=(pX a.len aq.1 aq.2).le.l.trans pc;obtain⟨⟨v,hv1,hv2⟩,hs1⟩:=IH k s aq vs m bt (hx.bM hk) j p1 hs hv z;have hal:=hc.a _ (cV ha);have hg:=VT hU hw (ar:=c.ab) (len:=a.len) (i:=aq.1) (x:=v) (m:=bt.2) pc hs1 (fun c0=>⟨hv1,(hv2 c0).2⟩) ac ac;have hnm:a.name=x.name:=by
    simp_all
   obtain⟨st2,u1,u2⟩:=hg;obtain⟨w,hl⟩:=VP (s:=st2) (k:=bS (c.ab.map (·.name)) x.name) (by rw[u2.cl];exact hlt) v;have hld:=VM hU hw (fI hp) u1 hv1 hl;by_cases c1:bt.2.a4=0
   .obtain⟨e1,hv3⟩:=hv2 c1;obtain⟨st1,_,t2⟩:=hs1;obtain⟨_,hln,hrg2⟩:=t2.cells c1 _ a ha;rw[hnm]at hln hrg2;have hbad:sB bt.1 (iZ bt.2.cells x.name)=true↔(v<0\/a.len<=v):=by
     unfold sB;simp_all
    by_cases cb:sB bt.1 (iZ bt.2.cells x.name)=true
    .rw[ai cb,am]at Y;subst Y;rw[ai ⟨c1,hbad.1 cb⟩]at u2;have hft:(fo 2 bt.2).a4≠0:=by unfold fo;simp_all
     exact⟨⟨w,hld,fun e=>absurd e hft⟩,st2,u1,u2⟩
    .rw[ah cb,am]at Y;subst Y;have hnb:¬(v<0\/a.len<=v):=fun h=>cb (hbad.2 h);rw[ah (fun h=>hnb h.2)]at u2;refine⟨⟨w,hld,fun _=>?_⟩,st2,u1,u2⟩;obtain⟨g1,_,_⟩:=u2.cells c1 _ a ha;rw[hnm]at g1;unfold yP at hl
     grind
   .obtain⟨st1,_,t2⟩:=hs1;rw[ah (fun h=>c1 h.1)]at u2;have hf2:J.2.a4≠0/\J.2=bt.2:=by
     split at Y
     .rw[am]at Y;subst Y;unfold fo;simp only[ah c1];exact⟨c1,trivial⟩
     grind
    exact⟨⟨w,hld,fun e=>absurd e hf2.1⟩,st2,u1,aU⟩
  rw[ah e3]at I h Y;by_cases e5:x.az=5
  .rw[ai e5]at h Y;obtain⟨k0,C,h⟩:=aC.1 h;obtain⟨au,Z,h⟩:=aC.1 h;obtain⟨k1,O,h⟩:=aC.1 h;obtain⟨aq,j,h⟩:=aC.1 h;obtain⟨k2,hk2,h⟩:=aC.1 h;obtain⟨r2,hr2,h⟩:=aC.1 h;simp only[am]at h;subst h;rw[C,aN]at Y;obtain⟨L,hm0,Y⟩:=aC.1 Y;rw[O,hk2,aN,aN]at Y;have l0:=cD c n _ _ _ Z;have l1:=cD c n _ _ _ j;have l2:=cD c n _ _ _ hr2;have lv:=eB au.1 aq.1 r2.1 r2.2;have lt:=eB au.1 aq.2.aa (a5 au.1 aq.1 r2.1 r2.2).2.aa (a5 au.1 aq.1 r2.1 r2.2).2;have pt:(a5 au.1 aq.2.aa (a5 au.1 aq.1 r2.1 r2.2).2.aa (a5 au.1 aq.1 r2.1 r2.2).2).2.l<+:e.x.g.af:=hp;have pv:=lt.le.l.trans pt;have p2:=lv.le.l.trans pv;have p1:aq.2.l<+:e.x.g.af:=l2.le.l.trans p2;have p0:=l1.le.l.trans p1;obtain⟨⟨v0,h0,V⟩,s0⟩:=IH k0 s au vs m L (hx.bM C) Z p0 hs hv hm0;have hst2:(a5 au.1 aq.1 r2.1 r2.2).2.aa=r2.2.aa:=by
    unfold a5;split<;>rfl
   have vv0:VaR U e c au.2.vars vs L.2:=by
    rw[l0.v];by_cases c0:L.2.a4=0
    .exact⟨hv.len,fun i y nm a b=>by obtain⟨v,p,q⟩:=hv.v i y nm a b;grind⟩
    .exact hv.a4 c0
   have vv1:VaR U e c aq.2.vars vs L.2:=by rw[l1.v];exact vv0
   have big:∀(rr:Int×Bd) (st:Int),XR U e c rr J->rr.2.aa=st->(v0≠0->rr=aq)->(v0=0->rr=r2)->XR U e c ((a5 au.1 aq.1 r2.1 r2.2).1,{ (a5 au.1 aq.2.aa (a5 au.1 aq.1 r2.1 r2.2).2.aa (a5 au.1 aq.1 r2.1 r2.2).2).2 with aa:=(a5 au.1 aq.2.aa (a5 au.1 aq.1 r2.1 r2.2).2.aa (a5 au.1 aq.1 r2.1 r2.2).2).1}) J:=fun rr st hX _ ha hb=>by
    obtain⟨⟨v,⟨q,q1,q2⟩,q3⟩,st',⟨q',q1',q2'⟩,q3'⟩:=hX;refine⟨⟨v,⟨q,mQ hU hw pv h0 (fun e=>?_) (fun e=>?_),q2⟩,q3⟩,st',⟨q',mQ hU hw pt h0 (fun e=>?_) (fun e=>?_),q2'⟩,q3'⟩
    .rw[<-ha e];exact q1
    .rw[<-hb e];exact q1
    .rw[<-ha e];exact q1'
    simp_all
   by_cases c0:L.2.a4=0
   .obtain⟨e0,_⟩:=V c0;by_cases cv:v0=0
    .rw[ah ac]at Y;exact big r2 _ (IH k2 {aq.2 with aa:=au.2.aa} r2 vs L.2 J (hx.bM hk2) hr2 p2 s0 vv1 Y) rfl (fun e=>absurd cv e) fun _=>rfl
    .rw[ai ac]at Y;exact big aq _ (IH k1 au.2 aq vs L.2 J (hx.bM O) j p1 s0 vv0 Y) rfl (fun _=>rfl) fun e=>absurd e cv
   .have hrm:J.2.a4≠0/\J.2=L.2:=by
     split at Y
     .rw[wy Y c0];exact⟨c0,rfl⟩
     .rw[wy Y c0];exact⟨c0,rfl⟩
    by_cases cv:v0=0
    .obtain⟨⟨q,a⟩,b⟩:=tU hU hw c0 n k2 {aq.2 with aa:=au.2.aa} r2 (hx.bM hk2) hr2 p2 s0 vv1.d;exact big r2 _ ⟨⟨q.v,⟨q,a,rfl⟩,fun e=>absurd e hrm.1⟩,aU⟩ rfl (fun e=>absurd cv e) fun _=>rfl
    .obtain⟨⟨q,a⟩,b⟩:=tU hU hw c0 n k1 au.2 aq (hx.bM O) j p1 s0 vv0.d;exact big aq _ ⟨⟨q.v,⟨q,a,rfl⟩,fun e=>absurd e hrm.1⟩,aU⟩ rfl (fun _=>rfl) fun e=>absurd e cv
  rw[ah e5]at h Y;by_cases e4:x.az=4
  case neg=>simp_all
  rw[ai e4]at I;simp only[bT,nU,kE]at I;obtain⟨k0,C,h⟩:=aC.1 h;obtain⟨au,Z,h⟩:=aC.1 h;rw[C,aN]at Y;obtain⟨L,hm0,Y⟩:=aC.1 Y;by_cases e6:x.ak.length=1
  .rw[ai e6,am]at h Y;have ho:x.op=20\/x.op=21:=by
    omega
   subst h;subst Y;have lp:=b9 ⟨x.op,0,[au.1]⟩ au.2;obtain⟨⟨v0,h0,V⟩,s0⟩:=IH k0 s au vs m L (hx.bM C) Z (lp.le.l.trans hp) hs hv hm0;exact⟨⟨_,VL hU hw (fI hp) ho h0,fun c0=>⟨by rw[(V c0).1],zjL _ _⟩⟩,s0⟩
  .rw[ah e6]at h Y;have ho:4<=x.op/\x.op<=18:=by
    rcases I.2 with h|h
    .have:=h.2;simp[sM]at this;exact this
    .omega
   obtain⟨k1,O,h⟩:=aC.1 h;obtain⟨aq,j,h⟩:=aC.1 h;rw[am]at h;subst h;rw[O,aN]at Y;obtain⟨bt,z,Y⟩:=aC.1 Y;have l0:=cD c n _ _ _ Z;have l1:=cD c n _ _ _ j;have vv0:∀{m':MS},VaR U e c au.2.vars vs m':=fun{m'}=>by
    rw[l0.v];by_cases c0:m'.a4=0
    .exact⟨hv.len,fun i y nm a b=>by obtain⟨v,p,q⟩:=hv.v i y nm a b;grind⟩
    .exact hv.a4 c0
   by_cases e7:x.op=7\/x.op=8
   .simp only[ai e7]at hp⊢;have lp:=b9 ⟨x.op,0,[au.1,aq.1]⟩ (lJ aq.1 aq.2);have pd:=lp.le.l.trans hp;have p1:=(Bb aq.1 aq.2).le.l.trans pd;obtain⟨⟨v0,h0,V⟩,s0⟩:=IH k0 s au vs m L (hx.bM C) Z (l1.le.l.trans p1) hs hv hm0;obtain⟨⟨v1,h1,h1'⟩,s1⟩:=IH k1 au.2 aq vs L.2 bt (hx.bM O) j p1 s0 vv0 z;have hd:=VU hU hw (ar:=c.ab) (m:=bt.2) (x:=v1) pd s1 fun _=>h1;have hb:=Br hU hw (fI hp) ac ac h0 h1;by_cases c1:bt.2.a4=0
    .have c0:L.2.a4=0:=by
      by_cases c0:L.2.a4=0
      .exact c0
      .rw[wy z c0]at c1;exact c1
     obtain⟨e0,r0'⟩:=V c0;obtain⟨e1',r1'⟩:=h1' c1;by_cases cz:bt.1=0
     .rw[ai ⟨cz,e7⟩,am]at Y;subst Y;rw[ai ⟨c1,ac⟩]at hd;have hft:(fo 1 bt.2).a4≠0:=by unfold fo;simp_all
      exact⟨⟨_,hb,fun e=>absurd e hft⟩,hd⟩
     .rw[ah (fun h=>cz h.1),am]at Y;subst Y;rw[ah (fun h=>cz ac)]at hd;exact⟨⟨_,hb,fun _=>⟨by rw[e0,e1'],VK r0'⟩⟩,hd⟩
    .rw[ah (fun h=>c1 h.1)]at hd;have hrm:J.2.a4≠0/\J.2=bt.2:=by
      split at Y
      .rw[am]at Y;subst Y;unfold fo;simp only[ah c1];exact⟨c1,trivial⟩
      grind
     exact⟨⟨_,hb,fun e=>absurd e hrm.1⟩,by rw[hrm.2];exact hd⟩
   .simp only[ah e7]at hp⊢;rw[ah (fun h=>e7 h.2),am]at Y;subst Y;have lp:=b9 ⟨x.op,0,[au.1,aq.1]⟩ aq.2;have p1:=lp.le.l.trans hp;obtain⟨⟨v0,h0,V⟩,s0⟩:=IH k0 s au vs m L (hx.bM C) Z (l1.le.l.trans p1) hs hv hm0;obtain⟨⟨v1,h1,h1'⟩,s1⟩:=IH k1 au.2 aq vs L.2 bt (hx.bM O) j p1 s0 vv0 z;refine⟨⟨_,Br hU hw (fI hp) ac ac h0 h1,fun c1=>?_⟩,s1⟩;have c0:L.2.a4=0:=by
     by_cases c0:L.2.a4=0
     .exact c0
     .have c1':bt.2.a4=0:=c1;rw[wy z c0]at c1';exact c1'
    exact⟨aU,VK (V c0).2⟩
end
def zj0(base:Int):∀(O:qG) (j:Nat) (s:Bd),s.l<+:(fX base O j s).l:=fun O j s=>(r4 base O j s).1.l
theorem VV{L:qF}{base:Int}:∀(O:qG) (j:Nat) (s:Bd),(fX base O j s).l<+:L->O.Nodup->(∀w∈O,w<s.vars.length)->∀(t w:Nat),O[t]?=some w->∃i:Nat,(fX base O j s).vars[w]?=some (i:Int)/\L[i]?=some ⟨3,base+(j+t:Nat),[]⟩
 |[],j,s,_,_,_,t,w,h=>by simp at h
 |a::O,j,s,hp,hn,hl,t,w,h=>by
  rw[zw]at hn;have e:fX base (a::O) j s=fX base O (j+1) { (aj ⟨3,base+j,[]⟩ s).2 with vars:=(aj ⟨3,base+j,[]⟩ s).2.vars.set a (aj ⟨3,base+j,[]⟩ s).1}:=rfl;rw[e]at hp⊢;cases t with
  |zero=>
   simp only[nH]at h;subst h;have z:=(zj0 base O (j+1) _).trans hp;refine⟨fG s.l ⟨3,base+j,[]⟩,?_,fI (s:=s) z⟩;rw[M2 base O (j+1) _ a hn.1];show(s.vars.set a _)[a]?=_;rw[oG,ai rfl,ai (hl a dM)];rfl
  |succ t=>
   obtain⟨i,Z,m⟩:=VV O (j+1) _ hp hn.2 (fun w hw=>by show w<(s.vars.set a _).length;rw[iB];exact hl w (dh _ hw)) t w lV
   grind
def IL(lp c:Int)(old:qA)(ws:qG)(j:Nat)(s:Bd):s.l<+:(fj lp c old ws j s).l:=(uU lp c old ws j s).1.l
theorem VW{L:qF}{lp c:Int}{old:qA}:∀(O:qG) (j:Nat) (s:Bd),(fj lp c old O j s).l<+:L->O.Nodup->(∀w∈O,w<s.vars.length)->∀(t w:Nat),O[t]?=some w->∃(y:Int) (I:Bd) (f:Nat),(fj lp c old O j s).vars[w]?=some y/\L[f]?=some ⟨25,(j+t:Nat),[lp]⟩/\y=(a5 c f (old.getD w 0) I).1/\(a5 c f (old.getD w 0) I).2.l<+:L
 |[],j,s,_,_,_,t,w,h=>by simp at h
 |a::O,j,s,hp,hn,hl,t,w,h=>by
  rw[zw]at hn;have e:fj lp c old (a::O) j s=fj lp c old O (j+1) { (a5 c (aj ⟨25,j,[lp]⟩ s).1 (old.getD a 0) (aj ⟨25,j,[lp]⟩ s).2).2 with vars:=(a5 c (aj ⟨25,j,[lp]⟩ s).1 (old.getD a 0) (aj ⟨25,j,[lp]⟩ s).2).2.vars.set a (a5 c (aj ⟨25,j,[lp]⟩ s).1 (old.getD a 0) (aj ⟨25,j,[lp]⟩ s).2).1}:=rfl;rw[e]at hp⊢;have Y:=(eB c (aj ⟨25,j,[lp]⟩ s).1 (old.getD a 0) (aj ⟨25,j,[lp]⟩ s).2).v;have C:(aj ⟨25,j,[lp]⟩ s).2.vars=s.vars:=rfl;cases t with
  |zero=>
   simp only[nH]at h;subst h;have Z:=(IL lp c old O (j+1) _).trans hp;refine⟨_,(aj ⟨25,j,[lp]⟩ s).2,fG s.l ⟨25,j,[lp]⟩,?_,fI (s:=s) ((eB _ _ _ _).le.l.trans Z),rfl,Z⟩;rw[M3 lp c old O (j+1) _ a hn.1];show(List.set _ a _)[a]?=_;rw[Y,C,oG,ai rfl,ai (hl a dM)];rfl
  |succ t=>
   obtain⟨y,I,f,V,m,J⟩:=VW O (j+1) _ hp hn.2 (fun w hw=>by show w<(List.set _ a _).length;rw[iB,Y,C];exact hl w (dh _ hw)) t w lV
   grind
theorem IM{c:Int}{a:qA}:∀(m i:Nat) (s r:Bd),lK c a m i s=some r->r.vars.length=s.vars.length/\∀j,j<i->r.vars[j]?=s.vars[j]?
 |0,i,s,r,h=>by cases h;simp_all
 |m+1,i,s,r,h=>by
  unfold lK at h;simp only[aC]at h;obtain⟨x,V,y,O,h⟩:=h;obtain⟨Z,Y⟩:=IM m (i+1) _ r h;refine⟨by rw[Z];show(List.set _ i _).length=_;rw[iB,(eB c x y s).v],fun j I=>?_⟩;rw[Y j ac];show(List.set _ i _)[j]?=_;rw[oG,ah ac,(eB c x y s).v]
theorem ND{L:qF}{c:Int}{a:qA}:∀(m i:Nat) (s r:Bd),lK c a m i s=some r->r.l<+:L->∀t,i<=t->t<i+m->∃(x z y:Int) (I:Bd),a[t]?=some x/\s.vars[t]?=some z/\r.vars[t]?=some y/\y=(a5 c x z I).1/\(a5 c x z I).2.l<+:L
 |0,i,s,r,h,hp,t,h1,h2=>by omega
 |m+1,i,s,r,h,hp,t,h1,h2=>by
  unfold lK at h;simp only[aC]at h;obtain⟨x,Y,z,j,h⟩:=h;have pl:=(uT _ _ _ _ _ _ h).1.l.trans hp;by_cases e:t=i
  .subst e;refine⟨x,z,_,s,Y,j,?_,rfl,pl⟩;rw[(IM m (t+1) _ r h).2 t ac];show(List.set _ t _)[t]?=_;rw[oG,ai rfl,ai (by rw[(eB c x z s).v];grind)]
  .obtain⟨V,Z,O,I,J,C,p3⟩:=ND m (i+1) _ r h hp t ac ac;refine⟨V,Z,O,I,J,?_,p3⟩;have:(List.set (a5 c x z s).2.vars i (a5 c x z s).1)[t]?=some Z:=C;rw[oG,ah (fun h=>e h.symm),(eB c x z s).v]at this;exact this
def NE(b:qR):(bD b).Nodup:=by
 unfold bD;exact List.Nodup.sublist List.filter_sublist List.nodup_range
def gO(st:Int)(old:qA)(ws:qG)(cv cs:Int)(L:qA):qA:=st::(ws.map fun i=>old.getD i 0)++[cv,cs]++(ws.map fun i=>L.getD i 0)
def IN(st:Int)(old:qA)(ws:qG)(cv cs:Int)(L:qA):db (gO st old ws cv cs L).length=ws.length+1:=by
 unfold db gO;simp;omega
theorem VX{st:Int}{old:qA}{ws:qG}{cv:Int}{L:qA}{t w:Nat}(h:ws[t]?=some w):(gO st old ws cv cs L)[1+t]?=some (old.getD w 0):=by
 unfold gO
 grind
theorem zj1(st:Int)(old:qA)(ws:qG)(cv cs:Int)(L:qA):(gO st old ws cv cs L)[ws.length+1]?=some cv/\(gO st old ws cv cs L)[ws.length+1+1]?=some cs:=by
 unfold gO;simp_all
theorem zj2{st:Int}{old:qA}{ws:qG}{cv:Int}{L:qA}{t w:Nat}(h:ws[t]?=some w):(gO st old ws cv cs L)[ws.length+1+2+t]?=some (L.getD w 0):=by
 unfold gO;have e:((st::ws.map fun i=>old.getD i 0)++[cv,cs]).length=ws.length+1+2:=aB;rw[tf ac,e,show ws.length+1+2+t-(ws.length+1+2)=t by omega,fd,h];rfl
section
variable {U:Un} (hU:∀ G ∈ U.funcs,Wg G.af) {e:E9} (hw:Wg e.x.g.af)
include hU hw
theorem VY{lp cv v:Int}{s:Bd}{old:qA}{ws:qG}{st0:S9}{y0:Int}{fin:L9}(C:s.vars=old)(m:(fj lp cv old ws 1 { (a5 cv (aj ⟨25,0,[lp]⟩ s).1 y0 (aj ⟨25,0,[lp]⟩ s).2).2 with aa:=(a5 cv (aj ⟨25,0,[lp]⟩ s).1 y0 (aj ⟨25,0,[lp]⟩ s).2).1}).l<+:e.x.g.af)(L:fk U e cv v)(J:v≠0->∃q,Dn U (.nd e lp q)/\q.l=some fin)(h0:jM U e y0 st0)(hn:ws.Nodup)(hws:∀w∈ws,w<old.length):
 jM U e (fj lp cv old ws 1 { (a5 cv (aj ⟨25,0,[lp]⟩ s).1 y0 (aj ⟨25,0,[lp]⟩ s).2).2 with aa:=(a5 cv (aj ⟨25,0,[lp]⟩ s).1 y0 (aj ⟨25,0,[lp]⟩ s).2).1}).aa (if v≠0 then fin.s else st0) /\
 ∀(i:Nat) y,(fj lp cv old ws 1 { (a5 cv (aj ⟨25,0,[lp]⟩ s).1 y0 (aj ⟨25,0,[lp]⟩ s).2).2 with aa:=(a5 cv (aj ⟨25,0,[lp]⟩ s).1 y0 (aj ⟨25,0,[lp]⟩ s).2).1}).vars[i]?=some y->(i∉ws->old[i]?=some y)/\∀t,ws[t]?=some i->(v≠0->∀x,fin.v[t+1]?=some x->fk U e y x)/\(v=0->∀q,Dn U (.nd e (old.getD i 0) q)->Dn U (.nd e y q)):=by
 have hmv:=(eB cv (aj ⟨25,0,[lp]⟩ s).1 y0 (aj ⟨25,0,[lp]⟩ s).2).v;have hpv:(aj ⟨25,0,[lp]⟩ s).2.vars=old:=C;have pz:=(IL lp cv old ws 1 _).trans m;have I:(a5 cv (aj ⟨25,0,[lp]⟩ s).1 y0 (aj ⟨25,0,[lp]⟩ s).2).2.l<+:e.x.g.af:=pz;have pf:=(eB cv (aj ⟨25,0,[lp]⟩ s).1 y0 (aj ⟨25,0,[lp]⟩ s).2).le.l.trans I;have V:(fj lp cv old ws 1 { (a5 cv (aj ⟨25,0,[lp]⟩ s).1 y0 (aj ⟨25,0,[lp]⟩ s).2).2 with aa:=(a5 cv (aj ⟨25,0,[lp]⟩ s).1 y0 (aj ⟨25,0,[lp]⟩ s).2).1}).aa=(a5 cv (aj ⟨25,0,[lp]⟩ s).1 y0 (aj ⟨25,0,[lp]⟩ s).2).1:=by
  have Y:∀(ws:qG) (j:Nat) (s:Bd),(fj lp cv old ws j s).aa=s.aa:=by
   intro ws;induction ws with
   |nil=>intro j s;rfl
   |cons a ws ih=>
    intro j s;show(fj lp cv old ws (j+1) _).aa=_;rw[ih];show(a5 _ _ _ _).2.aa=_;unfold a5;split<;>rfl
  rw[Y]
 refine⟨?_,fun i y z=>⟨fun hi=>?_,fun t ht=>?_⟩⟩
 .rw[V];obtain⟨q0,fD,b0⟩:=h0;by_cases O:v=0
  .rw[ah ac];exact⟨q0,mQ hU hw I L (fun h=>absurd O h) fun _=>fD,b0⟩
  .rw[ai O];obtain⟨q,a,b⟩:=J O;obtain⟨q1,aI,Z⟩:=zjV hU hw (fI (s:=s) pf) a b;exact⟨q1,mQ hU hw I L (fun _=>aI) fun h=>absurd h O,Z⟩
 .rw[M3 _ _ _ _ _ _ i hi]at z;simp_all
 .obtain⟨y',s',f,p1,p2,p3,p4⟩:=VW ws 1 _ m hn (fun w hw=>aU) t i ht;rw[z,am]at p1;subst p1;refine⟨fun O x hx=>?_,fun O q hq=>?_⟩
  .obtain⟨q,a,b⟩:=J O;obtain⟨q1,aI,Z⟩:=zjW hU hw p2 ac a b (by rw[show 1+t=t+1 by omega];exact hx);exact⟨q1,by rw[p3];exact mQ hU hw p4 L (fun _=>aI) fun h=>absurd h O,Z⟩
  .rw[p3];exact mQ hU hw p4 L (fun h=>absurd O h) fun _=>hq
theorem VZ{c:Cx}{m:MS}(Y:m.a4≠0){n:Nat}:∀(l:qM) (s:Bd) (r:qA×Bd),(∀x∈l,XOk c x)->mh c n l s=some r->r.2.l<+:e.x.g.af->fR U e c.ab s.aa m->(∀y∈s.vars,ja U e y)->(∀y∈r.1,ja U e y)/\fR U e c.ab r.2.aa m
 |[],s,r,hx,h,hp,hs,hv=>by
  rw[mh,am]at h
  grind
 |x::l,s,r,hx,h,hp,hs,hv=>by
  rw[mh]at h;obtain⟨aq,j,h⟩:=aC.1 h;obtain⟨r2,Z,h⟩:=aC.1 h;rw[am]at h;subst h;have l1:=cD c n _ _ _ j;have l2:=(r3 c n _ _ _ Z).1;obtain⟨aI,V⟩:=tU hU hw Y n x s aq (hx x dM) j (l2.le.l.trans hp) hs hv;obtain⟨a6,z⟩:=VZ Y l aq.2 r2 (fun y O=>hx y (dh _ O)) Z hp V (by rw[l1.v];exact hv);simp_all
theorem V0{l:qA}(h:∀x∈l,ja U e x)(O:ja U e y):∀x∈l.set k y,ja U e x:=fun x I=>by
 grind
theorem V3{l:qA}(h:∀x∈l,ja U e x)(z:k<l.length):ja U e (l.getD k 0):=by
 simp_all
theorem IP{c:Cx}{m:MS}(V:m.a4≠0):∀n:Nat,(∀x s r,SOk c x->lL c n x s=some r->r.l<+:e.x.g.af->s.vars.length=c.aO.length->fR U e c.ab s.aa m->(∀y∈s.vars,ja U e y)->fR U e c.ab r.aa m/\∀y∈r.vars,ja U e y) /\
 (∀l s r,zf6 c l->fH c n l s=some r->r.l<+:e.x.g.af->s.vars.length=c.aO.length->fR U e c.ab s.aa m->(∀y∈s.vars,ja U e y)->fR U e c.ab r.aa m/\∀y∈r.vars,ja U e y) /\
 (∀x s r,SOk c x->x.az=4->mn c n x s=some r->r.l<+:e.x.g.af->s.vars.length=c.aO.length->fR U e c.ab s.aa m->(∀y∈s.vars,ja U e y)->fR U e c.ab r.aa m/\∀y∈r.vars,ja U e y)
 |0=>⟨fun _ _ _ _ h=>by simp[lL]at h,fun _ _ _ _ h=>by simp[fH]at h,fun _ _ _ _ _ h=>by simp[mn]at h⟩
 |n+1=>by
  obtain⟨I1,I2,I3⟩:=IP (c:=c) V n;refine⟨fun x s r I h hp hl C Y=>?_,fun l s r I h hp hl C Y=>?_,fun x s r I hk h hp hl C Y=>?_⟩
  .unfold lL at h;by_cases k1:x.az=1
   .rw[ai k1]at h;obtain⟨aq,j,h⟩:=aC.1 h;split at h
    .rw[am]at h;subst h;have l1:=cD c n _ _ _ j;obtain⟨a,b⟩:=tU hU hw V n x.value s aq (I.value (.inl k1)) j hp C Y;exact⟨b,V0 hU hw (by rw[l1.v];exact Y) a⟩
    .cases h
   rw[ah k1]at h;by_cases k2:x.az=2
   .rw[ai k2]at h;obtain⟨i,j,h⟩:=aC.1 h;obtain⟨v,J,h⟩:=aC.1 h;obtain⟨a,h3,h⟩:=aC.1 h;rw[am]at h;subst h;have hlt:=jg h3;have l1:=cD c n _ _ _ j;have l2:=cD c n _ _ _ J;have lp:=b9 ⟨28,bS (c.ab.map (·.name)) x.name,[(dS a.len i.1 v.2).aa,i.1,v.1]⟩ (dS a.len i.1 v.2);have O:(aj ⟨28,bS (c.ab.map (·.name)) x.name,[(dS a.len i.1 v.2).aa,i.1,v.1]⟩ (dS a.len i.1 v.2)).2.l<+:e.x.g.af:=hp;have pc:=lp.le.l.trans O;have p2:=(pX a.len i.1 v.2).le.l.trans pc;obtain⟨⟨q1,aI⟩,b1⟩:=tU hU hw V n x.bz s i (I.bz k2) j (l2.le.l.trans p2) C Y
    obtain⟨⟨q2,a6⟩,b2⟩:=tU hU hw V n x.value i.2 v (I.value (.inr (.inl k2))) J p2 b1 (by rw[l1.v];exact Y);have hg:=Bt hU hw (ar:=c.ab) (m:=m) (x:=0) (t:=2) (s:=(aj ⟨19,0,[i.1,(aj ⟨1,a.len,[]⟩ v.2).1]⟩ (aj ⟨1,a.len,[]⟩ v.2).2).2) pc b2 fun c0=>absurd c0 V;rw[ah (fun h=>V h.1)]at hg;obtain⟨st,u1,L⟩:=hg;obtain⟨st2,h4,e1,e2,e3,e4,e5⟩:=VQ (s:=st) (k:=bS (c.ab.map (·.name)) x.name) (by rw[L.cl];exact hlt) q1.v q2.v;refine⟨⟨st2,VN hU hw (fI O) u1 ⟨q1,aI,rfl⟩ ⟨q2,a6,rfl⟩ h4,⟨by rw[e1];exact L.ed,by rw[e2];exact L.out,fun e=>by rw[e3];exact L.aT e,by rw[e5];exact L.cl,fun e=>absurd e V,fun e=>absurd e V⟩⟩,?_⟩;show ∀y∈(dS a.len i.1 v.2).vars,_;rw[(pX a.len i.1 v.2).v,l2.v,l1.v];exact Y
   rw[ah k2]at h;by_cases ee:x.az=3
   .rw[ai ee]at h;obtain⟨au,h0,h⟩:=aC.1 h;obtain⟨a,j,h⟩:=aC.1 h;obtain⟨b,J,h⟩:=aC.1 h;obtain⟨mm,h3,h⟩:=aC.1 h;simp only[am]at h;subst h;have l0:=cD c n _ _ _ h0;have la:=(jl c n).2.1 _ _ _ j;have lb:=(jl c n).2.1 _ _ _ J;have lm:=uT _ _ _ _ _ _ h3;have lt:=eB au.1 a.aa mm.aa mm;have pt:(a5 au.1 a.aa mm.aa mm).2.l<+:e.x.g.af:=hp;have pm:=lt.le.l.trans pt;have pb:=lm.1.l.trans pm;have pa:a.l<+:e.x.g.af:=lb.1.l.trans pb;have p0:=la.1.l.trans pa;obtain⟨⟨q0,fD⟩,b0⟩:=tU hU hw V n x.value s au (I.value (.inr (.inr (.inl ee)))) h0 p0 C Y;have v0:∀y∈au.2.vars,ja U e y:=by rw[l0.v];exact Y
    have e0:au.2.vars.length=c.aO.length:=by rw[l0.v];exact hl
    obtain⟨⟨sa,⟨qa,ta,ua⟩,wa⟩,va⟩:=I2 x.bm au.2 a I.bD.1 j pa e0 b0 v0;obtain⟨⟨sb,⟨qb,tb,ub⟩,wb⟩,vb⟩:=I2 x.bO {a with aa:=au.2.aa,vars:=au.2.vars} b I.bD.2 J pb e0 b0 v0;have hms:mm.aa=b.aa:=by
     have key:∀(k i:Nat) (s r:Bd),lK au.1 a.vars k i s=some r->r.aa=s.aa:=by
      intro k;induction k with
      |zero=>intro i s r h;cases h;rfl
      |succ k ih=>
       intro i s r h;unfold lK at h;simp only[aC]at h;obtain⟨x,I,y,hy,h⟩:=h;rw[ih _ _ _ h];show(a5 _ _ _ _).2.aa=_;unfold a5;split<;>rfl
     exact key _ _ _ _ h3
    have hml:=IM _ _ _ _ h3;refine⟨?_,fun y hy=>?_⟩
    .by_cases cv:q0.v=0
     .exact⟨sb,⟨qb,mQ hU hw pt ⟨q0,fD,rfl⟩ (fun e=>absurd cv e) fun _=>by rw[hms];exact tb,ub⟩,wb⟩
     .exact⟨sa,⟨qa,mQ hU hw pt ⟨q0,fD,rfl⟩ (fun _=>ta) fun e=>absurd e cv,ua⟩,wa⟩
    .have hy2:y∈mm.vars:=by
      have:y∈(a5 au.1 a.aa mm.aa mm).2.vars:=hy;rw[lt.v]at this;exact this
     obtain⟨i,hi⟩:=kT hy2;have hil:=jg hi;rw[hml.1]at hil;obtain⟨xx,z,y',s',p1,p2,p3,p4,p5⟩:=ND _ _ _ _ h3 pm i (eR _) ac;rw[hi,am]at p3;subst p3;obtain⟨qx,dx⟩:=va xx (cV p1);obtain⟨qz,dz⟩:=vb z (cV p2);by_cases cv:q0.v=0
     .exact⟨qz,by rw[p4];exact mQ hU hw p5 ⟨q0,fD,rfl⟩ (fun e=>absurd cv e) fun _=>dz⟩
     .exact⟨qx,by rw[p4];exact mQ hU hw p5 ⟨q0,fD,rfl⟩ (fun _=>dx) fun e=>absurd e cv⟩
   rw[ah ee]at h;by_cases fm:x.az=4
   .rw[ai fm]at h;exact I3 x s r I fm h hp hl C Y
   rw[ah fm]at h;by_cases dF:x.az=5
   .rw[ai dF]at h;obtain⟨v,j,h⟩:=aC.1 h;simp only[am]at h;subst h;have l1:=cD c n _ _ _ j;have lp:=b9 ⟨29,0,[v.2.aa,v.1]⟩ v.2;have O:(aj ⟨29,0,[v.2.aa,v.1]⟩ v.2).2.l<+:e.x.g.af:=hp;obtain⟨⟨q1,aI⟩,st,u1,L⟩:=tU hU hw V n x.value s v (I.value (.inr (.inr (.inr (.inr dF))))) j (lp.le.l.trans O) C Y;refine⟨⟨st,Eo hU hw (fI O) (.inr (.inl rfl)) rfl u1 (by rw[L.ed];exact V),L⟩,?_⟩;show ∀y∈v.2.vars,_;rw[l1.v];exact Y
   rw[ah dF]at h;by_cases k6:x.az=6
   .rw[ai k6]at h;obtain⟨Z,j,h⟩:=aC.1 h;split at h
    .simp only[am]at h;subst h;have l1:=(r3 c n _ _ _ j).1;have lp:=b9 ⟨30,bW c.funcs x.to 0,Z.2.aa::Z.1⟩ Z.2;have lq:=b9 ⟨24,0,[(aj ⟨30,bW c.funcs x.to 0,Z.2.aa::Z.1⟩ Z.2).1]⟩ { (aj ⟨30,bW c.funcs x.to 0,Z.2.aa::Z.1⟩ Z.2).2 with aa:=(aj ⟨30,bW c.funcs x.to 0,Z.2.aa::Z.1⟩ Z.2).1};have hq:(aj ⟨24,0,[(aj ⟨30,bW c.funcs x.to 0,Z.2.aa::Z.1⟩ Z.2).1]⟩ { (aj ⟨30,bW c.funcs x.to 0,Z.2.aa::Z.1⟩ Z.2).2 with aa:=(aj ⟨30,bW c.funcs x.to 0,Z.2.aa::Z.1⟩ Z.2).1}).2.l<+:e.x.g.af:=hp;have O:(aj ⟨30,bW c.funcs x.to 0,Z.2.aa::Z.1⟩ Z.2).2.l<+:e.x.g.af:=lq.le.l.trans hq;obtain⟨aI,st,u1,L⟩:=VZ hU hw V x.args s Z I.args j (lp.le.l.trans O) C Y;have hso:=Eo hU hw (fI O) (.inr (.inr rfl)) rfl u1 (by rw[L.ed];exact V);refine⟨⟨st,hso,L⟩,V0 hU hw ?_ (II hU hw (fI hq) hso).d⟩;show ∀y∈Z.2.vars,_;rw[l1.v];exact Y
    .cases h
   rw[ah k6]at h;by_cases iU:x.az=7
   .rw[ai iU]at h;simp only[am]at h;subst h;have hg:=Bt hU hw (ar:=c.ab) (m:=m) (x:=0) hp (show fR U e c.ab (aj ⟨1,0,[]⟩ s).2.aa m from C) fun c0=>absurd c0 V;rw[ah (fun h=>V h.1)]at hg;refine⟨hg,?_⟩;rw[(r1 (cy (16+x.n)) (aj ⟨1,0,[]⟩ s).1 (aj ⟨1,0,[]⟩ s).2).v];exact Y
   simp_all
  .unfold fH at h;cases l with
   |nil=>simp_all
   |cons x l=>
    obtain⟨q,j,J⟩:=aC.1 h;obtain⟨x1,x2⟩:=I.cons;have l1:=(jl c n).1 _ _ _ j;have l2:=(jl c n).2.1 _ _ _ J;obtain⟨a,b⟩:=I1 x s q x1 j (l2.1.l.trans hp) hl C Y
    grind
  .unfold mn at h;obtain⟨au,h0,h⟩:=aC.1 h;obtain⟨b,hb,h⟩:=aC.1 h;obtain⟨t,j,h⟩:=aC.1 h;obtain⟨d,J,h⟩:=aC.1 h;simp only[am]at h;subst h;have l0:=cD c n _ _ _ h0;have lu:=r4 (16*(s.loops:Int)+1) (bD b) 0 { (aj ⟨3,16*(s.loops:Int),[]⟩ au.2).2 with aa:=(aj ⟨3,16*(s.loops:Int),[]⟩ au.2).1};have lt:=(jl c n).2.1 _ _ _ j;have ld:=cD c n _ _ _ J;have lq:=b9 ⟨3,16*(s.loops:Int),[]⟩ au.2;have hkk:(au.2.aa::((bD b).map fun i=>au.2.vars.getD i 0)++[d.1,d.2.aa]++((bD b).map fun i=>d.2.vars.getD i 0))=gO au.2.aa au.2.vars (bD b) d.1 d.2.aa d.2.vars:=rfl;rw[hkk]at hp⊢;have lk:=b9 ⟨31,s.loops,gO au.2.aa au.2.vars (bD b) d.1 d.2.aa d.2.vars⟩ d.2;generalize hkn:aj ⟨31,s.loops,gO au.2.aa au.2.vars (bD b) d.1 d.2.aa d.2.vars⟩ d.2=k at *;have hwl:∀w∈bD b,w<au.2.vars.length:=fun w hw=>by
    have j:=Bf hw;have J:=wt c.aO n _ _ _ hb;rw[j9]at J;omega
   have pz:=(IL k.1 au.1 au.2.vars (bD b) 1 _).trans hp;have pkk:k.2.l<+:e.x.g.af:=((b9 ⟨25,0,[k.1]⟩ {k.2 with vars:=au.2.vars}).le.l.trans (eB au.1 (aj ⟨25,0,[k.1]⟩ {k.2 with vars:=au.2.vars}).1 au.2.aa (aj ⟨25,0,[k.1]⟩ {k.2 with vars:=au.2.vars}).2).le.l).trans pz;have pd:=lk.le.l.trans pkk;have p0:au.2.l<+:e.x.g.af:=(lq.le.l.trans (lu.1.l.trans (lt.1.l.trans ld.le.l))).trans pd;obtain⟨⟨q0,fD⟩,st,u1,L⟩:=tU hU hw V n x.value {s with loops:=s.loops+1} au (I.value (.inr (.inr (.inr (.inl hk))))) h0 p0 C Y;have v0:∀y∈au.2.vars,ja U e y:=by rw[l0.v];exact Y
   have hkat:e.x.g.af[fG d.2.l ⟨31,s.loops,gO au.2.aa au.2.vars (bD b) d.1 d.2.aa d.2.vars⟩]?=some ⟨31,s.loops,gO au.2.aa au.2.vars (bD b) d.1 d.2.aa d.2.vars⟩:=fI (s:=d.2) (by rw[hkn];exact pkk);have hk1:k.1=(fG d.2.l ⟨31,s.loops,gO au.2.aa au.2.vars (bD b) d.1 d.2.aa d.2.vars⟩:Nat):=by rw[<-hkn];rfl
   have hlo:=(hw.ok _ _ hkat).lp rfl;simp only at hlo
   -- the old values
   obtain⟨vs,hvl,hvv⟩:∃vs:qA,vs.length=(bD b).length/\∀(t w:Nat),(bD b)[t]?=some w->∃v,vs[t]?=some v/\fk U e (au.2.vars.getD w 0) v:=by
    have key:∀ws:qG,(∀w∈ws,w<au.2.vars.length)->∃vs:qA,vs.length=ws.length/\∀(t w:Nat),ws[t]?=some w->∃v,vs[t]?=some v/\fk U e (au.2.vars.getD w 0) v:=by
     intro ws;induction ws with
     |nil=>intro _;exact⟨[],rfl,fun t w h=>rD⟩
     |cons a ws ih=>
      intro hw';obtain⟨vs,j,J⟩:=ih fun w hw=>hw' w (dh _ hw)
      obtain⟨q,hq⟩:=V3 hU hw v0 (hw' a dM);refine⟨q.v::vs,by simp[j],fun t w h=>?_⟩;cases t with
      |zero=>
       simp only[nH]at h;subst h;exact⟨q.v,rfl,q,hq,rfl⟩
      |succ t=>exact J t w lV
    exact key _ hwl
   have hloop:=VO hU hw (i:=fG d.2.l ⟨31,s.loops,gO au.2.aa au.2.vars (bD b) d.1 d.2.aa d.2.vars⟩) (a:=au.2.aa) (s:=st) (vs:=vs) (fin:=⟨st,0::vs⟩) hkat rfl ⟨by show 0<=(s.loops:Int);omega,by show(s.loops:Int)<16;omega,Ek⟩ rfl u1 Ek (fun t v Y=>by
    have htl:=jg Y;have hwt:(bD b)[t]?=some ((bD b)[t]' ac):=aX ac;obtain⟨v',p1,p2⟩:=hvv t _ hwt;rw[Y,am]at p1;subst p1;exact⟨_,VX hwt,p2⟩) (.f4 (by unfold tF;rw[ai (by rw[L.ed];exact V)]))
   rw[<-hk1]at hloop;obtain⟨e1,e2⟩:=VY hU hw (s:={k.2 with vars:=au.2.vars}) (lp:=k.1) (cv:=au.1) (v:=q0.v) (old:=au.2.vars) (ws:=bD b) (st0:=st) (y0:=au.2.aa) (fin:=⟨st,0::vs⟩) rfl hp ⟨q0,fD,rfl⟩ (fun _=>⟨_,hloop,rfl⟩) u1 (NE b) hwl;have eq1:(if q0.v≠0 then (L9.mk st (0::vs)).s else st)=st:=by split<;>rfl
   rw[eq1]at e1;refine⟨⟨st,e1,L⟩,fun y hy=>?_⟩;obtain⟨i,hi⟩:=kT hy;obtain⟨g1,g2⟩:=e2 i y hi;by_cases ci:i∈bD b
   .obtain⟨t,ht⟩:=kT ci;obtain⟨f1,f2⟩:=g2 t ht;by_cases cv:q0.v=0
    .obtain⟨q,hq⟩:=V3 hU hw v0 (hwl i ci);exact⟨q,f2 cv q hq⟩
    .obtain⟨v,hv1,_⟩:=hvv t i ht;exact(f1 cv v (by simpa using hv1)).d
   grind
end
theorem zj3(hc:zd4 c){np n:Nat}{A:Nat->Prop}{x:St}{s:Bd}(hx:SOk c x)(hk:x.az=4)(hsz:2*x.sz<=n+1)(h:LG c np A s)(L:LP s)(hw:s.loops+dI x<=16):∃r b,ei c n x.value {s with loops:=s.loops+1}=some r/\jK c.aO n x.bm (List.replicate r.2.vars.length false)=some b/\LG c np A r.2/\LG c np (fun t=>A t\/t=s.loops) (fX (16*(s.loops:Int)+1) (bD b) 0 { (aj ⟨3,16*(s.loops:Int),[]⟩ r.2).2 with aa:=(aj ⟨3,16*(s.loops:Int),[]⟩ r.2).1})/\LP (fX (16*(s.loops:Int)+1) (bD b) 0 { (aj ⟨3,16*(s.loops:Int),[]⟩ r.2).2 with aa:=(aj ⟨3,16*(s.loops:Int),[]⟩ r.2).1})/\(fX (16*(s.loops:Int)+1) (bD b) 0 { (aj ⟨3,16*(s.loops:Int),[]⟩ r.2).2 with aa:=(aj ⟨3,16*(s.loops:Int),[]⟩ r.2).1}).loops=s.loops+1:=by
 have hs:=x.a9;have hw1:=xH x;rw[ai hk]at hw1;have hv:=hx.value (.inr (.inr (.inr (.inl hk))));obtain⟨r,hr,V,p2,p3⟩:=sU hc n x.value {s with loops:=s.loops+1} hv ac (h.dX _);have lr:=cD c n _ _ _ hr;have hrn:r.2.loops=s.loops+1:=lr.n;obtain⟨b,hb,hbl⟩:=Bk n x.bm (List.replicate r.2.vars.length false) hx.bD.1 ac (by rw[j9];exact V.i.vl);refine⟨r,b,hr,hb,V,?_⟩;have hwl:=Eb b;have hnl:=hc.nl;have hwm:∀i∈bD b,i<r.2.vars.length:=fun i hi=>by have:=Bf hi;have:=V.i.vl;omega
 generalize bD b=ws at *;have hm:(16*(s.loops:Int)).tmod 16=0:=LV;have hdv:(16*(s.loops:Int)).tdiv 16=s.loops:=by rw[sD ac];omega
 have C:fY r.2.l ⟨3,16*(s.loops:Int),[]⟩=2:=by rw[DT ac ac,hm,ai rfl]
 have p1':LG c np (fun t=>A t\/t=s.loops) r.2:=V.mono fun _=>.inl;obtain⟨q1,q2,_⟩:=k7 V.i (n:=⟨3,16*(s.loops:Int),[]⟩) C aF (jB _ _ aF fQ aB aF aF aF aF);have qm:jn (aj ⟨3,16*(s.loops:Int),[]⟩ r.2).2.l (fun t=>A t\/t=s.loops) (aj ⟨3,16*(s.loops:Int),[]⟩ r.2).1:=Eg V.i.wf (by rw[C];decide) (fun _=>.inr (by show((16*(s.loops:Int)).tdiv 16).toNat=_;rw[hdv,eM])) (fun j k hj=>by simp at hj);have qg:=p1'.put q1;have lq:=b9 ⟨3,16*(s.loops:Int),[]⟩ r.2;have vq:∀y∈(aj ⟨3,16*(s.loops:Int),[]⟩ r.2).2.l,y∈r.2.l\/(y.op=3/\y.aP=16*(s.loops:Int)):=fun y O=>by
  rcases uS.1 O with O|rfl
  .exact .inl O
  .exact .inr ⟨rfl,rfl⟩
 generalize aj ⟨3,16*(s.loops:Int),[]⟩ r.2=q at *;obtain⟨u1,u2⟩:=Nw (k:=s.loops) (m:=ws.length+1) (A:=fun t=>A t\/t=s.loops) ac (.inr rfl) ac ws 0 {q.2 with aa:=q.1} (qg.setS ⟨q2,qm⟩) ac;have lu:=r4 (16*(s.loops:Int)+1) ws 0 {q.2 with aa:=q.1};generalize fX (16*(s.loops:Int)+1) ws 0 {q.2 with aa:=q.1}=u at *;have hun:u.loops=s.loops+1:=Nc
 -- what is in u: nodes of s,quiet ones,variables of this loop
 have hu:∀y∈u.l,y∈s.l\/(y.op≠3/\y.op≠31)\/(y.op=3/\16*(s.loops:Int)<=y.aP/\y.aP<16*(s.loops:Int)+(ws.length+1:Nat)):=fun y O=>by
  rcases u2 y O with O|O
  .rcases vq y O with O|⟨e1,e2⟩
   .rcases p3.q y O with O|O
    .exact .inl O
    .exact .inr (.inl O)
   .exact .inr (.inr ⟨e1,ac,ac⟩)
  .exact .inr (.inr O)
 have J:∀y∈u.l,y.op=31->y∈s.l:=fun y O e=>by
  rcases hu y O with Z|Z|Z
  .exact Z
  .exact absurd e Z.2
  .rw[Z.1]at e;cases e
 have uP:LP u:=by
  refine⟨fun y O e=>?_,fun y O z hz Y I=>L.l2 y (J y O Y) z (J z hz I) Y I,fun y O e=>?_,fun y O z hz Y I e=>?_⟩
  .have:=L.l1 y (J y O e) e;omega
  .rcases hu y O with Z|Z|Z
   .have:=L.l3 y Z e;omega
   .exact absurd e Z.1
   .omega
  .rcases hu z hz with Z|Z|Z
   .exact L.l4 y (J y O Y) z Z Y I e
   .exact absurd I Z.1
   .have:=L.l1 y (J y O Y) Y;rw[sD ac]at e;omega
 simp_all
theorem Bu:∀(vs:List (aY×Int)) (L O:aY) (x:Int),di (setV vs L x) O=if O=L then x else di vs O
 |[],L,O,x=>by
  unfold setV di;split
  .rfl
  .rfl
 |p::l,L,O,x=>by
  unfold setV;by_cases c:L=p.1
  .rw[ai c];unfold di;simp_all
  .rw[ah c];unfold di;by_cases c2:O=p.1
   .grind
   .rw[ah c2,ah c2];exact Bu l L O x
theorem V4:∀(Z:List (aY×qA)) (L O:aY) (i:Nat) (x:Int),iZ (vM Z L i x) O=if O=L then (iZ Z L).set i x else iZ Z O
 |[],L,O,i,x=>by
  unfold vM iZ;simp
 |p::l,L,O,i,x=>by
  unfold vM;by_cases c:L=p.1
  .rw[ai c];unfold iZ;simp_all
  .rw[ah c];unfold iZ;by_cases c2:O=p.1
   .grind
   .rw[ah c2,ah c2,ah c];exact V4 l L O i x
theorem IQ{l:List aY}(h:l.Nodup){i:Nat}{s:aY}(O:l[i]?=some s)(I:l[j]?=some s):i=j:=by
 have Z:=jg O;have m:=jg I;rw[aX Z,am]at O;rw[aX m,am]at I;have hp:=List.pairwise_iff_getElem.1 h
 grind
def SOk.ez{x:St}(h:SOk c x)(z:x.az=1\/x.az=6):bL c.aO x.name=true:=by
 have:=h.def.2.2.2;rw[mN]at this;rcases z with e|e<;>simp[e,tT]at this
 .exact this
 .exact this.1
def SOk.f8{x:St}(h:SOk c x)(z:x.az=2):bL (c.ab.map (·.name)) x.name=true:=by
 have:=h.def.2.2.2;rw[mN]at this;simp[z,tT,Sc.an]at this;exact this
theorem V7{p:Pr}{fi:List (aY×Int)}{c:Cx}(C:c.aO.Nodup):∀n:Nat,(∀x vs m r,SOk c x->jS p fi n x vs m=some r->∀(i:Nat) L,c.aO[i]?=some L->(x.az=1\/x.az=6->i≠bS c.aO x.name)->uV c.aO x.bm i->uV c.aO x.bO i->di r.1 L=di vs L) /\
 (∀l vs m r,zf6 c l->fL p fi n l vs m=some r->∀(i:Nat) L,c.aO[i]?=some L->uV c.aO l i->di r.1 L=di vs L) /\
 (∀x vs m r,SOk c x->fE p fi n x vs m=some r->∀(i:Nat) L,c.aO[i]?=some L->uV c.aO x.bm i->di r.1 L=di vs L)
 |0=>⟨fun _ _ _ _ _ h=>A0,fun _ _ _ _ _ h=>A1,fun _ _ _ _ _ h=>A2⟩
 |n+1=>by
  obtain⟨I1,V,J⟩:=V7 (p:=p) (fi:=fi) C n;refine⟨fun x vs m r I h i L O hk Y he=>?_,fun l vs m r I h i L O hl=>?_,fun x vs m r I h i L O Y=>?_⟩
  .have Z:(x.az=1\/x.az=6)->∀v,di (setV vs x.name v) L=di vs L:=fun j v=>by
    rw[Bu,ah (fun e=>hk j (IQ C O (by rw[e];exact zM (I.ez j))))]
   unfold jS at h;by_cases k1:x.az=1
   .rw[ai k1]at h;obtain⟨q,_,h⟩:=aC.1 h;rw[am]at h;subst h;exact Z (.inl k1) _
   rw[ah k1]at h;by_cases k2:x.az=2
   .rw[ai k2]at h;obtain⟨q,_,h⟩:=aC.1 h;obtain⟨q2,_,h⟩:=aC.1 h;rw[am]at h;subst h;rfl
   rw[ah k2]at h;by_cases ee:x.az=3
   .rw[ai ee]at h;obtain⟨q,_,h⟩:=aC.1 h;split at h
    .exact V _ _ _ _ I.bD.1 h i L O Y
    .exact V _ _ _ _ I.bD.2 h i L O he
   rw[ah ee]at h;by_cases fm:x.az=4
   .rw[ai fm]at h;exact J _ _ _ _ I h i L O Y
   rw[ah fm]at h;by_cases dF:x.az=5
   .rw[ai dF]at h;obtain⟨q,_,h⟩:=aC.1 h;rw[am]at h;subst h;rfl
   rw[ah dF]at h;by_cases k6:x.az=6
   .rw[ai k6]at h;obtain⟨q,_,h⟩:=aC.1 h;split at h
    .obtain⟨q2,_,h⟩:=aC.1 h;rw[am]at h;subst h;exact Z (.inr k6) _
    .rw[am]at h;subst h;rfl
   grind
  .unfold fL at h;cases l with
   |nil=>cases h;rfl
   |cons x l=>
    simp only at h;split at h
    .cases h;rfl
    .obtain⟨q,z,h2⟩:=aC.1 h;obtain⟨x1,x2⟩:=I.cons;obtain⟨aI,a6,cp,dO⟩:=hl.cons
     grind
  .unfold fE at h;obtain⟨q,_,h⟩:=aC.1 h;split at h
   .split at h
    .obtain⟨q2,z,h2⟩:=aC.1 h;rw[J _ _ _ _ I h2 i L O Y,V _ _ _ _ I.bD.1 z i L O Y]
    .exact J _ _ _ _ I h i L O Y
   grind
def StR.eb{ar:qT}{st:S9}(h:StR ar st m)(L:m.a4=0):StR ar (ct st) (dw m):=by
 unfold ct dw;rw[h.a2 L,ah (c:=m.a4≠0) ac];split
 .exact⟨rfl,h.out,fun e=>aU,h.cl,(fun e=>aU),fun e=>aU⟩
 .exact⟨h.ed,h.out,h.aT,h.cl,fun _=>rfl,fun e=>h.cells L⟩
def StR.bI{ar:qT}{st:S9}(h:StR ar st m)(v:Int):StR ar (st.bb v) m:=⟨h.ed,h.out,h.aT,h.cl,h.a2,h.cells⟩
def StR.put{ar:qT}{st:S9}(h:StR ar st m)(L:m.a4=0)(v:Int):StR ar {st with out:=v::st.out} (nu v m):=by
 unfold nu;rw[ai L];exact⟨h.ed,by show v::st.out=(m.out++[v]).reverse;rw[h.out,List.reverse_append];rfl,h.aT,h.cl,h.a2,h.cells⟩
theorem V8{fi:List (aY×Int)}{n:Nat}{l:qJ}(h:fL p fi n l vs m=some r)(Y:m.a4≠0):r=(vs,m):=by
 cases n with
 |zero=>simp[fL]at h
 |succ n=>
  cases l with
  |nil=>rw[fL,am]at h;exact h.symm
  |cons x l=>rw[fL]at h;simp_all
theorem zj4{fi:List (aY×Int)}{n:Nat}{x:St}(h:fE p fi n x vs m=some r)(Y:m.a4≠0):r=(vs,m):=by
 cases n with
 |zero=>simp[fE]at h
 |succ n=>
  rw[fE]at h;obtain⟨q,j,Z⟩:=aC.1 h;have:=wy j Y;simp_all
section
variable {U:Un} (hU:∀ G ∈ U.funcs,Wg G.af) {e:E9}
include hU
theorem zj5(j:Wg e.x.g.af){O fin:L9}{s:S9}{vs:qA}{si ci cv:Int}(h:tF O=none)(Y:n.ak[db n.ak.length+1]?=some si)(m:jM U (e.it n O) si s)(L:vs.length=db n.ak.length-1)(C:∀t v,vs[t]?=some v->∃k,n.ak[db n.ak.length+2+t]?=some k/\fk U (e.it n O) k v)(V:n.ak[db n.ak.length]?=some ci)(z:fk U (e.it n O) ci cv)(I:cv=0->fin=⟨s,0::vs⟩)(h7:cv≠0->Dn U (.lp e n ⟨s,0::vs⟩ fin)):Dn U (.lp e n O fin):=by
 obtain⟨qs,aI,a6⟩:=m;obtain⟨br,b1,rfl⟩:=z
 let g:ev:=fun k=>if k∈n.ak.drop (db n.ak.length)then jX U (e.it n O) n k else none
 have J:∀k q,g k=some q->k∈n.ak.drop (db n.ak.length)/\jX U (e.it n O) n k=some q:=fun k q Z=>by
  grind
 refine .lpS (g:=g) (vs:=vs) h Y aI a6 (fun k q Z=>(J k q Z).1) (fun k q Z=>IF k q (J k q Z).2) ?_ V b1 I h7;rw[yV (a:=jX U (e.it n O) n) fun t k t1 t2 t3=>ai (cV (i:=t-db n.ak.length) cU)];exact IK hU (e:=e.it n O) j (n:=n) L C
end
section
variable {A:qT} {F:qV} {np:Nat} {B:Nat -> Prop}
def LG.aO{j:List aY}{s:Bd}(h:LG ⟨A,F,N⟩ np B s)(L:j.length=N.length):LG ⟨A,F,j⟩ np B s:=⟨h.i.aO L,h.v,h.st⟩
theorem LG.push{j:List aY}{s:Bd}(h:LG ⟨A,F,N⟩ np B s)(I:IsM B s.l 1 x)(L:j.length=N.length+1):LG ⟨A,F,j⟩ np B {s with vars:=s.vars++[x] }:=
 ⟨h.i.push I.i L,fun y O=>by
  rcases uk.1 O with O|O
  .exact h.v y O
  simp_all,h.st⟩
theorem V9(O:np<=6):∀(m k:Nat) (s:Bd) (N j:List aY),LG ⟨A,F,N⟩ np B s->j.length=N.length+m->k+m<=np->LG ⟨A,F,j⟩ np B (gH m k s)/\Ql s (gH m k s)
 |0,k,s,N,j,h,hl,_=>⟨h.aO hl,zL s⟩
 |m+1,k,s,N,j,h,hl,hk=>by
  have V:fY s.l ⟨2,k,[]⟩=1:=UD ac ac;obtain⟨aI,a6,cp⟩:=vc h (n:=⟨2,k,[]⟩) V aF ⟨aU,D2,aU,fun _=>cU,fun e=>aU,fun e=>absurd e aU⟩ aB aB aB;obtain⟨Z,z⟩:=V9 O m (k+1) { (aj ⟨2,k,[]⟩ s).2 with vars:=(aj ⟨2,k,[]⟩ s).2.vars++[(aj ⟨2,k,[]⟩ s).1] } ([]::N) j (aI.push a6 rfl) cU ac;exact⟨Z,cp.trans ⟨z.q⟩⟩
theorem Wa:∀(m:Nat) (s:Bd) (N j:List aY),LG ⟨A,F,N⟩ np B s->j.length=N.length+m->LG ⟨A,F,j⟩ np B (iS m s)/\Ql s (iS m s)
 |0,s,N,j,h,hl=>⟨h.aO hl,zL s⟩
 |m+1,s,N,j,h,hl=>by
  obtain⟨aI,a6,cp⟩:=Ei h (n:=0) fQ;obtain⟨Z,z⟩:=Wa m { (aj ⟨1,0,[]⟩ s).2 with vars:=(aj ⟨1,0,[]⟩ s).2.vars++[(aj ⟨1,0,[]⟩ s).1] } ([]::N) j (aI.push a6 rfl) cU;exact⟨Z,cp.trans ⟨z.q⟩⟩
def zj6:LG ⟨A,F,[]⟩ np B { (aj ⟨26,0,[]⟩ ⟨[],[],0,0⟩).2 with aa:=(aj ⟨26,0,[]⟩ ⟨[],[],0,0⟩).1}:=by
 have h:=Nr (A:=A) (F:=F) (np:=np);refine⟨h,(fun y O=>by cases O),h.st,?_⟩;exact Eh (l:=[]) (n:=⟨26,0,[]⟩) (fun i Z=>by simp at Z) (by rw[UE];decide) aB aB
end
theorem Wb(h:zf4 p){f:Fu}(z:f∈p.funcs)(B:Nat->Prop):LG (bu p f) f.params.length B (i9 f)/\LP (i9 f)/\(i9 f).loops=0:=by
 obtain⟨_,_,_,Z⟩:=h.e9;obtain⟨l1,l2,l3⟩:=Z f z;have L:=zj6 (A:=p.ab) (F:=p.funcs) (np:=f.params.length) (B:=B);obtain⟨aI,a6⟩:=V9 l1 f.params.length 0 _ [] f.params L aB ac;obtain⟨Y,V⟩:=Wa f.aK.length _ f.params (f.params++f.aK) aI aU;have c1:=Nr (A:=p.ab) (F:=p.funcs) (np:=f.params.length);obtain⟨c2,c3,_⟩:=Np l1 f.params.length 0 _ [] f.params c1 aB ac;obtain⟨_,c4,_⟩:=Nq f.aK.length _ f.params (f.params++f.aK) c2 aU;have J:∀x∈(i9 f).l,x.op≠3/\x.op≠31:=fun x I=>by
  rcases(a6.trans V).q x I with j|j
  .rcases(uS (l:=[]) (n:=⟨26,0,[]⟩)).1 j with m|rfl
   .cases m
   simp_all
  .exact j
 exact⟨Y,⟨fun x I e=>absurd e (J x I).2,fun x I y O e=>absurd e (J x I).2,fun x I e=>absurd e (J x I).1,fun x I y O e=>absurd e (J x I).2⟩,c4.trans c3⟩
theorem Wc(h:zf4 p){n:Nat}(I:2*p.sz<n){f:Fu}(z:f∈p.funcs):
 ∃s v,fH (bu p f) n f.body (i9 f)=some s/\ei (bu p f) n f.value s=some v/\LG (bu p f) f.params.length (fun _=>False) v.2/\IsM (fun _=>False) v.2.l 1 v.1/\LP v.2/\v.2.loops<=eV f.body:=by
 obtain⟨_,_,_,Z⟩:=h.e9;obtain⟨l1,l2,l3⟩:=Z f z;obtain⟨hb,j⟩:=h.body z;have hc:=h.cx z;have O:=uy z;have J:p.sz=1+jt p.ab+iA p.funcs:=rfl;have L:f.sz=1+f.name.length+gl f.params+gl f.aK+bF f.body+f.value.sz:=rfl;obtain⟨C,Y,m⟩:=Wb h z fun _=>False
 obtain⟨s,q1,q2,V,q3,q4⟩:=(ID hc (np:=f.params.length) n).2.1 _ f.body (i9 f) hb ac C Y ac;obtain⟨v,aq,r2,r8,wI⟩:=sU hc n f.value s j ac q2;have lv:=cD _ n _ _ _ aq;exact⟨s,v,q1,aq,r2,r8,V.ql wI (kX lv.n.symm),by rw[lv.n];omega⟩
theorem NF:∀(l:qF) (t:qA),l.Nodup->(∀x∈l,x.op=31->0<=x.aP/\x.aP<16)->(∀x∈l,∀y∈l,x.op=31->y.op=31->x.aP=y.aP->x=y)->(∀x∈l,x.op=31->t.getD x.aP.toNat 0<=0)->t.length=16 ->
 ∃Z,nI l t=some Z/\∀k:Nat,0<Z.getD k 0->(Z.getD k 0=t.getD k 0)\/∃x∈l,x.op=31/\x.aP=k/\Z.getD k 0=dy x.ak.length
 |[],t,_,_,_,_,_=>⟨t,rfl,fun k _=>.inl rfl⟩
 |n::l,t,hnd,h0,h1,h2,hl=>by
  rw[zw]at hnd;have V:=fun x I=>h0 x (dh n I);have Y:∀x∈l,∀y∈l,x.op=31->y.op=31->x.aP=y.aP->x=y:=fun x I y L=>h1 x (dh n I) y (dh n L);rw[nI];by_cases c:n.op=31
  .have j:=h2 n dM c;have hr:=h0 n dM c;rw[ai c,ah ac];have O:∀k:Nat,(t.set n.aP.toNat (dy n.ak.length)).getD k 0=if n.aP.toNat=k then dy n.ak.length else t.getD k 0:=fun k=>by
    rw[dC,oG,dC];split
    .rw[ai ac];rfl
    .rfl
   obtain⟨Z,e,m⟩:=NF l (t.set n.aP.toNat (dy n.ak.length)) hnd.2 V Y (fun x I e=>by
    have J:=V x I e;rw[O,ah (fun q=>hnd.1 (by rw[h1 n dM x (dh n I) c e ac];exact I))];exact h2 x (dh n I) e) Nz
   grind
  .rw[ah c];obtain⟨Z,e,m⟩:=NF l t hnd.2 V Y (fun x I=>h2 x (dh n I)) hl
   grind
theorem zj7{s:Bd}(Y:LP s)(Z:s.l.Nodup)(z:s.loops<=16):pT s.l=true:=by
 have j:∀k:Nat,(List.replicate 16 (0:Int)).getD k 0=0:=fun k=>by
  rw[dC,Qq];split<;>rfl
 obtain⟨t,e,m⟩:=NF s.l (List.replicate 16 0) Z (fun x I e=>by have:=Y.l1 x I e;omega) Y.l2 (fun x I e=>by rw[j];exact Int.le_refl _) rfl;unfold pT;rw[e];simp only;rw[js];intro y O;unfold sO;by_cases c:y.op=3
 .have C:=Y.l3 y O c;by_cases c2:0<t.getD (y.aP.tdiv 16).toNat 0
  .rcases m _ c2 with V|⟨x,I,ex,L,J⟩
   .rw[V,j]at c2;omega
   .have:=Y.l4 x I y O ex c (by rw[L];have:=Int.tdiv_nonneg C.1 (show(0:Int)<=16 by omega);omega);rw[J];rw[kS (show ¬dy x.ak.length<=y.aP.tmod 16 by omega),AI];rfl
  .rw[kS c2,AI,nh];rfl
 simp_all
theorem jn.zero{l:qF}{k:Int}(h:jn l (fun _=>False) k):iR l k=0:=
 Nat.eq_of_testBit_eq fun t=>by
  rw[Nat.zero_testBit];cases e:(iR l k).testBit t with
  |false=>rfl
  |true=>exact(h t e).elim
def tyV7.tyF:=ad @dm (ad @cG (ad @eG (ad @ij (ad @l8 (ad @jU (ad @oQ (ad @jJ (ad @gC (ad @rO (ad @LA (ad @jx (ad @i7 (ad @jh (ad @iC (ad @tG (@nZ))))))))))))))))
open tyV7
noncomputable def Wd:=qd (M:=43) f17.eq_1
def jN(g:Gr):Fu:=⟨g.name,[],[],[],.mk 1 0 [] 0 []⟩
def jC(u:Un):Pr:=⟨u.ab,u.funcs.map jN⟩
def mR(u:Un):Bool:=decide (fP (jC u)=0)&&u.funcs.all (jj u)
structure znK (u:Un):Prop where
 a:u.ab.length<2^30
 f:u.funcs.length<2^30
 g:∀g∈u.funcs,pS g.af
 z:(jC u).sz<2^36
noncomputable def We:En:=⟨39,false,co MV zA fun x=>.bool (jj x.u x.g)⟩
def zj8:de prog ρ We:=dA fun x I=>zih ρ x I
def wz(p:Pr):Prop:=∀Z:Nat->Int,bA prog Z 38 [.agg p.cells] (.int .i64 (fP p))
noncomputable def NG:En:=⟨38,true,co wz nJ fun p=>.int .i64 (fP p)⟩
def zj9:de prog ρ NG:=dA fun p hp=>hp ρ
theorem zka(p:Pr):(nJ p).any (rU 90)=false:=rfl
theorem zkb{l:qH}(L:∀m,dU l 38 m=(xF NG).sp m)(O:mc l 38=true){n:Nat}{cs:qB}(J:n<59)(Z:cY S n H cs p.cells)(j:wz p):
 aR prog (aA pls l) 38 [.agg cs] H fun v H'=>v=.int .i64 (fP p)/\Icy S H H':=by
 obtain⟨us,Y,V⟩:=Z;refine Mo (x:=p) (enc:=nJ) (ok:=wz) (out:=fun p=>.int .i64 (fP p)) (us:=[.agg us]) (n:=n+1) AT (fun m=>by rw[L];rfl) O zka j ac ⟨⟨us,Y,rfl⟩,trivial⟩ ?_;show [AV.agg (us.map (cW 59))]=_;rw[V 59 ac];rfl
noncomputable def Ep:qH:=[xF NG,We]
def zkc:gX prog ρ Ep:=⟨L4 (zj9 ρ),zj8 ρ,trivial⟩
def zkd(s:qD):eg prog 72 [(0,.ay s),(4,.agg [.int .i64 1,.int .i64 0,.ay [],.int .i64 0,.ao])]=some (.agg [.ay s,.ao,.ao,.ao,.int .i64 1,.int .i64 0,.ay [],.int .i64 0,.ao]):=ax
def zke:eg prog 70 [(0,.int .i64 1)]=some (.agg [.int .i64 1,.int .i64 0,.ay [],.int .i64 0,.ao]):=ax
def zkf(a:AV)(xs:List qB)(h:a=.aE xs):eg prog 25 [(0,a)]=some (.agg [a,.ao]):=by subst h;kernel_rfl
def zkg(H:Hp)(s:qD):eW prog H 23 1 [(0,.agg [.ay s,.ao,.ao,.ao,.int .i64 1,.int .i64 0,.ay [],.int .i64 0,.ao])]=some (.sl H.next 0 1 9,H.alloc (.cells [.ay s,.ao,.ao,.ao,.int .i64 1,.int .i64 0,.ay [],.int .i64 0,.ao] 0 true)):=ax
def zkh(g:Gr):cY S 2 H [.ay g.name,.ao,.ao,.ao,.int .i64 1,.int .i64 0,.ay [],.int .i64 0,.ao] (jN g).cells:=
 .cons (.ay _) (.cons .ao (.cons .ao (.cons .ao (.cons (.int _ _) (.cons (.int _ _) (.cons (.ay _) (.cons (.int _ _) (.cons .ao .nil))))))))
set_option maxRecDepth 100000 in
theorem zki(u:Un)(hu:znK u)(Z:wz (jC u)):bA prog ρ 17 [.agg u.cells] (.bool (mR u)):=fF fit (pls:=pls) (zkc ρ) (.cons (.agg (Di _)) .nil) (.bool _) (by
 obtain⟨ha,hf,hg,hz⟩:=hu;have hw:zd0 (aA pls Ep) 17:=gY (fun _=>rfl) rfl;have hkeep:(aA pls Ep).keep 17=false:=rfl;have bP:=zkf (.aE (u.ab.map Ar.cells)) _ rfl;refine qe hw func17 Wd ?_;dsimp only[Wd,qd,a1,Nat.reduceAdd];refine dX ?_;refine cP [1,2,3,12,13] [0] 14 u.funcs.length (fun i E z=>∃Y,z.get 1=some (.cells [.aE (u.ab.map Ar.cells),Y] 0 true)/\eN (fun k=>2<=k) 2 z 9 Y (((u.funcs.map jN).take i).map Fu.cells)) eE ⟨.ao,ML,.inl ⟨rfl,rfl⟩⟩ ?_;rintro i E z hi hcE hrH V hsI ⟨Y,g1,rf⟩;(try simp only[bz,a7,aV,aK,bb,Nat.reduceBEq,Nat.reduceAdd,Nat.reduceLeDiff,tyF, *]at hcE);(try simp only[bz,a7,aV,aK,bb,Nat.reduceBEq,Nat.reduceAdd,Nat.reduceLeDiff,tyF, *]at hrH);(try simp only[aS,bK,cL,bR,Nat.reduceAdd]at V);have hB0:(0 == z.next)=false:=aZ ac;have hC0:(z.next == 0)=false:=aZ ac;have ni:2<=z.next:=V
 obtain⟨hf1,hf2⟩:=rf.one;by_cases hlt:i<u.funcs.length
 .have hlt':(i:Int)<u.funcs.length:=by omega
  have hgx:u.funcs[i]?=some u.funcs[i]:=aX hlt;have htk:((u.funcs.map jN).take (i+1)).map Fu.cells=((u.funcs.map jN).take i).map Fu.cells++[(jN u.funcs[i]).cells]:=by
   rw[wX,fd,hgx,rF];rfl
  have L:(((u.funcs.map jN).take i).map Fu.cells).length=i:=by rw[dk,oE,dk];omega
  generalize u.funcs[i]=g at *;have g1a:∀b c,((z.alloc b).set z.next c).get 1=some (.cells [.aE (u.ab.map Ar.cells),Y] 0 true):=fun b c=>by rw[aQ,ah ac,aL,ah ac];exact g1
  generalize hcells:((u.funcs.map jN).take i).map Fu.cells=fs at *;have gh0:=@zke;have gh1:=@zkd;have gh2:=@zkg;repeat' (first
   |(apply ay ?_;clear hK K)|apply aT ?_|(apply a2 ?_ ?_<;>(intro hb hbp;try(cases hb;done)))|(apply az fun K hK=>?_)|fail)
  generalize O:Hp.alloc (Hp.set (z.alloc _) _ _) _=Hb;have nb:Hb.next=z.next+2:=by rw[<-O];rfl
  have C:∀k,k<z.next->Hb.get k=z.get k:=fun k Z=>by rw[<-O,aL,ah NA,aQ,ah ac,aL,ah ac]
  have gr:Hb.get (z.next+1)=some (.cells [.ay g.name,.ao,.ao,.ao,.int .i64 1,.int .i64 0,.ay [],.int .i64 0,.ao] 0 true):=by rw[<-O,aL,ai cN]
  clear O;have hfq:∀k,k<=1->∀o m z',Y≠.sl k o m z':=fun k Z o m z' e=>by
   rcases rf with⟨h1,_⟩|⟨q,im,rows,h1,h2,h3,_⟩
   .rw[h1]at e;cases e
   .rw[h1]at e;simp only[AV.sl.injEq]at e;omega
  obtain⟨H7,nN,EO,n7,q7⟩:=M9 (P:=prog) (t:=23) underlying23 LC Rm Rn rfl ax (S':=fun k=>2<=k)
   (rf.keep (S':=fun k=>2<=k) (H':=Hb) (fun _ _ h=>h) ac fun k _ Z=>C k Z) (fun _ _ h=>h) ac (r:=z.next+1) (imm:=0) (row:=[.ay g.name,.ao,.ao,.ao,.int .i64 1,.int .i64 0,.ay [],.int .i64 0,.ao]) (w:=(jN g).cells) gr rfl rfl (zkh g)
   VJ VJ
  rw[L]at nN EO;have g17:H7.get 1=some (.cells [.aE (u.ab.map Ar.cells),Y] 0 true):=by rw[q7 1 ac (hfq 1 ac),C 1 ac];exact g1
  have g07:H7.get 0=z.get 0:=by rw[q7 0 ac (hfq 0 ac),C 0 ac]
  have n7':z.next<=H7.next:=ac
  clear C gr q7 hfq nb;refine dX ?_;refine⟨ac,aW,aW,b8,El,?_⟩;refine⟨.sl Hb.next 0 (i+1) 9,ML,?_⟩;rw[htk];exact EO.keep (fun _ _ h=>h) (aG _) fun k Z _=>kK
 .have hlt':¬(i:Int)<u.funcs.length:=by omega
  have hti:(u.funcs.map jN).take i=u.funcs.map jN:=je (by rw[dk];omega);rw[hti]at rf;have hcw:cY (fun k=>2<=k) 3 z [.aE (u.ab.map Ar.cells),Y] (jC u).cells:=.cons (.dE ⟨.map fun x _=>x.pure,trivial⟩ fun m=>ziF (f:=Ar.cells) Ar.wk u.ab m) (.cons rf.rd .nil);have ag:cr 2 [.aE (u.ab.map Ar.cells),Y]=some (.agg [.aE (u.ab.map Ar.cells),Y]):=rfl;repeat' (first
   |(apply ay ?_;clear hK K)|apply aT ?_|(apply a2 ?_ ?_<;>(intro hb hbp;try(cases hb;done)))|(apply az fun K hK=>?_)|fail)
  refine qk ?_;refine a8 ?_ (zkb (l:=Ep) (fun _=>rfl) rfl ac hcw Z);rintro v H4 ⟨rfl,hy⟩;have g04:H4.get 0=z.get 0:=hy.out 0 ac;have n4:=hy.next
  clear hcw g1 rf;dsimp only[a0];by_cases hc:fP (jC u)=0
  .have hU:mR u=u.funcs.all (jj u):=by rw[mR,hc];rfl
   refine jp (fun hb hbp=>?_);refine cP [1,32,33] [0] 34 u.funcs.length (fun j E Hj=>∀k,k<j->∀g,u.funcs[k]?=some g->jj u g=true) eE (fun k Z=>ac) ?_;rintro j E3 Hj hj hcE hrH V hsI hJ;(try simp only[bz,a7,aV,aK,bb,Nat.reduceBEq,Nat.reduceAdd,Nat.reduceLeDiff,tyF, *]at hcE);(try simp only[bz,a7,aV,aK,bb,Nat.reduceBEq,Nat.reduceAdd,Nat.reduceLeDiff,tyF, *]at hrH);(try simp only[aS,bK,cL,bR,Nat.reduceAdd]at V);have hB0:(0 == Hj.next)=false:=aZ ac;have hC0:(Hj.next == 0)=false:=aZ ac;by_cases J:j<u.funcs.length
   .have hlt3':(j:Int)<u.funcs.length:=by omega
    have hgx:u.funcs[j]?=some u.funcs[j]:=aX J;have I:=dE J;have hgk:=hg _ I;generalize u.funcs[j]=g at *;have kv:∀H,aR prog (aA pls Ep) 39 [.agg u.cells,.agg g.cells] H fun v H'=>v=.bool (jj u g)/\H'=H:=fun H=>cQ (enc:=zA) (ok:=MV) (out:=fun x=>.bool (jj x.u x.g)) zig (x:=⟨u,g⟩) rfl ⟨hgk,ha,hf⟩;by_cases hv:jj u g=true
    .repeat' (first
      |(apply ay ?_;clear hK K)|apply aT ?_|(apply eA ?_;first|refine Rx.k (kv _) ?_)|(apply a2 ?_ ?_<;>(intro hb hbp;try(cases hb;done)))|(apply az fun K hK=>?_)|fail)
     refine⟨ac,aW,aW,b8,El,?_⟩;intro k Z g' hg';by_cases e:k=j
     .subst e;rw[hgx]at hg';cases hg';exact hv
     .exact hJ k ac g' hg'
    .have hv':jj u g=false:=by simpa using hv
     have hR:u.funcs.all (jj u)=false:=by
      rw[List.all_eq_false];exact⟨g,I,hv⟩
     rw[hR]at hU;clear hJ hR;repeat' (first
      |(apply ay ?_;clear hK K)|apply aT ?_|(apply eA ?_;first|refine Rx.k (kv _) ?_)|(apply a2 ?_ ?_<;>(intro hb hbp;try(cases hb;done)))|(apply az fun K hK=>?_)|fail)
     all_goals refine qi ?_
     rw[hU]
   .have hlt3':¬(j:Int)<u.funcs.length:=by omega
    have hR:u.funcs.all (jj u)=true:=js.2 fun g hm=>by
     obtain⟨k,Z,e⟩:=z9 hm;exact hJ k ac g (by rw[aX Z,e])
    rw[hR]at hU;clear hJ hR;refine yg ?_;all_goals refine qi ?_
    rw[hU]
  .have hU:mR u=false:=by rw[mR,kS hc];rfl
   refine yg ?_;all_goals refine qi ?_
   rw[hU])
noncomputable def Wf:En:=⟨17,true,co (fun u=>znK u/\wz (jC u)) (fun u=>[.agg u.cells]) fun u=>.bool (mR u)⟩
def zkj:de prog ρ Wf:=dA fun u m=>zki ρ u m.1 m.2
end
variable{g:Gr}
section
theorem Wh:∀(l:qF) (seen:qC),l.Nodup->(∀x∈l,NdR x)->(∀x∈l,bL seen (jz x)=false)->gE seen (l.map jz)=false
 |[],_,_,_,_=>rfl
 |a::l,seen,hnd,hr,hs=>by
  rw[zw]at hnd;rw[eC,gE,hs a dM,l5];refine Wh l _ hnd.2 (fun x I=>hr x (dh _ I)) fun x I=>?_;have e:bL (seen++[jz a]) (jz x)=(bL seen (jz x)||bL [jz a] (jz x)):=by unfold bL;simp_all
  rw[e,hs x (dh _ I),l5];have V:bL [jz a] (jz x)=decide (jz a=jz x):=by simp[bL]
  rw[V,oP];exact fun C=>hnd.1 (by rw[zip (hr a dM) (hr x (dh _ I)) C];exact I)
theorem zkk{l:qF}(Y:l.Nodup)(hr:∀x∈l,NdR x):sQ l=true:=by
 unfold sQ;rw[Wh l [] Y hr fun x _=>rfl];rfl
theorem zkl(h:zf4 p)(hz:p.sz<2^30){n:Nat}(I:2*p.sz<n){f:Fu}(z:f∈p.funcs)(hg:jk p n f=some g)(L:g.af.length<=2000)(ha:u.ab.length=p.ab.length)(m:u.funcs.map Gr.params=p.funcs.map fun f=>(f.params.length:Int)):jj u g=true:=by
 obtain⟨_,_,_,h4⟩:=h.e9;obtain⟨l1,l2,l3⟩:=h4 f z;obtain⟨s,v,e1,e2,C,V,gP,gn⟩:=Wc h I z;have J:g=⟨f.name,f.params.length,v.2.l,v.1,v.2.aa⟩:=by
  unfold jk at hg;rw[e1,aN,e2,aN]at hg;exact(Option.some.inj hg).symm
 subst J;simp only at L;have Y:=C.i.a4 ac ac;have ok:((List.range v.2.l.length).all (r0 u ⟨f.name,f.params.length,v.2.l,v.1,v.2.aa⟩))=true:=by
  rw[js];intro i O;rw[tq]at O;have hx:v.2.l[i]?=some v.2.l[i]:=aX O;have hm:v.2.l[i]∈v.2.l:=dE O;have hw:=C.i.wf i O;have hp:=C.i.p _ hm;unfold r0;simp only;rw[hx];simp only;rw[jT hw,gW];generalize v.2.l[i]=x at hp;unfold pU;by_cases c2:x.op=2
  .rw[ai c2,jT (hp.pa c2)]
  rw[ah c2];by_cases c3:x.op=23\/x.op=28
  .rw[ai c3,ha];exact jT (hp.ar c3)
  rw[ah c3];by_cases c4:x.op=30
  .obtain⟨q1,fn,q2,q3⟩:=hp.fn c4;have Z:p.funcs[x.aP.toNat]?=some fn:=q2;have hlt:x.aP.toNat<p.funcs.length:=by
    by_cases q:x.aP.toNat<p.funcs.length
    .exact q
    .rw[ng ac]at Z;cases Z
   have j:u.funcs.length=p.funcs.length:=by have:=pC List.length m;simpa using this
   rw[ai c4,j,jT (show x.aP<(p.funcs.length:Int) by omega),gW,m,dC,fd,Z];simp only[lB,bH,kE];omega
  .rw[ah c4]
 unfold jj;simp only;rw[ok,zkk C.i.nd Y.r,zj7 gP C.i.nd ac,V.m.zero,C.st.m.zero,V.i.s,C.st.i.s];have b1:=V.i.lo;have b2:=V.i.hi;have b3:=C.st.i.lo;have b4:=C.st.i.hi
 grind
theorem Wi{p:Pr}{n:Nat}:∀(l:qV) (V:List Gr) (u:Un) (e:Int),po p n l V=some (u,e)->(e=6/\u=⟨[],[]⟩)\/(e=0/\∃Z,u=⟨p.ab,V++Z⟩/\bN (fun f g=>jk p n f=some g/\g.af.length<=2000) l Z)
 |[],V,u,e,h=>by
  rw[po]at h;cases h;exact .inr ⟨rfl,[],aU,trivial⟩
 |f::l,V,u,e,h=>by
  rw[po]at h;simp only[aC]at h;obtain⟨g,hg,h⟩:=h;split at h
  .simp_all
  .rename_i c;rcases Wi l _ u e h with j|⟨j,Z,m,C⟩
   .exact .inl j
   .exact .inr ⟨j,g::Z,aU,⟨hg,ac⟩,C⟩
theorem Wk(Y:qC):∀(l:qV) (V:List Gr) (seen:qC),bN (fun f g=>g.name=f.name) l V->pW Y seen l=false->pW Y seen (V.map jN)=false
 |[],[],seen,_,_=>rfl
 |f::l,g::V,seen,ha,h=>by
  rw[pW]at h;simp only[jG]at h;rw[eC,pW];show(bL seen g.name||gE Y []||pW Y (seen++[g.name]) (V.map jN))=false;rw[ha.1,h.1.1,Wk Y l V _ ha.2 h.2];rfl
theorem IR{J β:Type}{q:J->β->Prop}:∀{a:List J}{b:List β},bN q a b->∀y∈b,∃x∈a,q x y
 |[],[],_,y,O=>by simp at O
 |x::a,z::b,h,y,O=>by
  rcases eJ.1 O with rfl|O
  .exact⟨x,dM,h.1⟩
  .obtain⟨w,hw,Z⟩:=IR h.2 y O
   grind
theorem Wl{n:Nat}{f:Fu}(h:jk p n f=some g):g.name=f.name/\g.params=f.params.length:=by
 unfold jk at h;simp only[iG]at h
 grind
theorem Wm{p:Pr}{n:Nat}:∀{l:qV}{V:List Gr},bN (fun f g=>jk p n f=some g/\g.af.length<=2000) l V->V.map Gr.params=l.map fun f=>(f.params.length:Int)
 |[],[],_=>rfl
 |f::l,g::V,h=>by rw[eC,eC,Wm h.2,(Wl h.1.1).2]
theorem zkm(h:fP p=0){V:List Gr}(Z:bN (fun f g=>g.name=f.name) p.funcs V):fP (jC ⟨p.ab,V⟩)=0:=by
 obtain⟨j,m,C,O,L⟩:=Nt h;have I:V.length=p.funcs.length:=Z.len.symm;have e1:k3 (jC ⟨p.ab,V⟩)=false:=by
  unfold k3 at j⊢;simp only[jG,oP]at j⊢;obtain⟨⟨⟨aI,a6⟩,cp⟩,dO⟩:=j;refine⟨⟨⟨aI,by simp only[jC,dk];omega⟩,cp⟩,?_⟩;simp only[jC,List.any_map,uB];intro g _;have:rX (jN g)=false:=by
   simp[rX,jN,nS,eV,iQ,ip,dn,md]
  simp[this]
 have e2:mM (jC ⟨p.ab,V⟩)=true:=by
  unfold mM at m⊢;rw[bT]at m⊢;refine⟨m.1,?_⟩;have Y:=js.1 m.2;simp only[jC,List.all_map,js];intro g hg;obtain⟨f,z,J⟩:=IR Z g hg;have:=Y f z;unfold rY fnNames at this;simp only[bT,J9,oX,pO,fV]at this;show rY (jN g)=true;simp[rY,fnNames,jN,gN,fB,fO,ph,Ex.az,Ex.ak,Ex.name,Ex.op,J,this.1.1.1.1]
 have e3:nK (jC ⟨p.ab,V⟩)=false:=by
  unfold nK at C⊢;rw[jG]at C⊢;exact⟨C.1,Wk _ _ _ _ Z C.2⟩
 have e4:(jC ⟨p.ab,V⟩).funcs.any (kq (jC ⟨p.ab,V⟩))=false:=by
  simp only[jC,List.any_map,uB];intro g _;simp[kq,jN,dJ,fC,fW,pj,Ex.az]
 have e5:(jC ⟨p.ab,V⟩).funcs.any (mg (jC ⟨p.ab,V⟩))=false:=by
  simp only[jC,List.any_map,uB];intro g _;simp[mg,jN,dJ]
 unfold fP
 grind
theorem zkn(h:zf4 p)(hz:p.sz<2^30){n:Nat}(hn:2*p.sz<n){e:Int}(L:uR p n=some (u,e)):(e=6/\u=⟨[],[]⟩)\/(e=0/\mR u=true/\u.ab=p.ab/\u.funcs.length=p.funcs.length/\znK u):=by
 unfold uR at L;rw[ai h.ck]at L;rcases Wi _ _ _ _ L with j|⟨j,V,h2,C⟩
 .exact .inl j
 rw[tg]at h2;subst h2;have Z:=Wm C;have hlen:=C.len;have hpz:p.sz=1+jt p.ab+iA p.funcs:=rfl;have Y:bN (fun f g=>g.name=f.name) p.funcs V:=C.mono fun f g k=>(Wl k.1).1;refine .inr ⟨j,?_,rfl,aU,?_⟩
 .unfold mR;rw[zkm h.ck Y,bT];refine⟨rfl,js.2 fun g hg=>?_⟩;obtain⟨f,O,J,z⟩:=IR C g hg;exact zkl h hz hn O J z rfl Z
 .obtain⟨aI,a6,cp,dO⟩:=h.e9;refine⟨cU,cU,fun g hg=>?_,?_⟩
  .obtain⟨f,O,J,z⟩:=IR C g hg;obtain⟨s,v,e1,e2,g1,_⟩:=Wc h hn O;have I:g=⟨f.name,f.params.length,v.2.l,v.1,v.2.aa⟩:=by
    unfold jk at J;simp_all
   refine⟨ac,fun x hx=>?_⟩;rw[I]at hx;have:=(g1.i.p x hx).len;omega
  .have hsz:∀{l:qV}{V:List Gr},bN (fun f g=>g.name=f.name) l V->iA (V.map jN)<=4*iA l:=by
    intro l;induction l with
    |nil=>
     intro V m;cases V with
     |nil=>simp[iA]
     |cons g V=>exact m.elim
    |cons f l ih=>
     intro V m;cases V with
     |nil=>exact m.elim
     |cons g V=>
      have:=ih m.2;have e:(jN g).sz=1+g.name.length+0+0+0+1:=by simp[Fu.sz,jN,gl,bF,Ex.sz,fg]
      have e2:f.sz=1+f.name.length+gl f.params+gl f.aK+bF f.body+f.value.sz:=rfl;rw[eC,iA,iA,e,m.1];omega
   have:=hsz Y;show 1+jt p.ab+iA (V.map jN)<_;omega
def kn(f:FuncId):Bool:=f == 35||f == 14||f == 99999999||f == 38
structure Std (cfg:Cfg):Prop where
 plain:∀f,kn f=false->zd0 cfg f
 keep:∀f,cfg.keep f=false
 cD:cfg.cD=yH pls
def tyW6a.tyF:=ad @cG (ad @dm (ad @AF (ad @RG (ad @Da (ad @RK (ad @zfJ (ad @sw (@zbG))))))))
open tyW6a
noncomputable def Wn:=qd (M:=4) f206.eq_1
noncomputable def Wo:=qd (M:=15) f184.eq_1
noncomputable def Wp:=qd (M:=14) f141.eq_1
noncomputable def Wq:=qd (M:=61) f185.eq_1
noncomputable def Wr:=qd (M:=58) f142.eq_1
def zko(hS:Std cfg)(b:Bool)(H:Hp):aR prog cfg 206 [.bool b] H fun v H'=>v=.int .i64 (pH b)/\H'=H:=by
 cases b<;>
 .refine qe (hS.plain _ rfl) func206 Wn ?_;dsimp only[Wn,qd,a1,Nat.reduceAdd];repeat' (first
   |(apply ay ?_;clear hK K)|apply a9 ?_|(apply bU ?_ ?_<;>(intro hb hbp;try(cases hb;done)))|(apply az fun K hK=>?_)|fail)
  all_goals refine qi ?_
  simp[pH]
theorem zkp(hS:Std cfg)(a b:Int)(H:Hp):aR prog cfg 184 [.int .i64 a,.int .i64 b] H fun v H'=>v=.int .i64 (xf a b)/\H'=H:=by
 refine qe (hS.plain _ rfl) func184 Wo ?_;dsimp only[Wo,qd,a1,Nat.reduceAdd];repeat' (first
  |(apply ay ?_;clear hK K)|apply a9 ?_|(apply bU ?_ ?_<;>(intro hb hbp;try(cases hb;done)))|(apply az fun K hK=>?_)|fail)
 .all_goals refine qi ?_
  simp_all[xf]
 .all_goals refine qi ?_
  simp_all[xf]
 .have m:b≠0:=by assumption
  refine vx ?_;all_goals refine qi ?_
  simp_all[xf]
theorem zkq(hS:Std cfg)(op a:Int)(H:Hp):aR prog cfg 141 [.int .i64 op,.int .i64 a] H fun v H'=>v=.int .i64 (sA op a)/\H'=H:=by
 refine qe (hS.plain _ rfl) func141 Wp ?_;dsimp only[Wp,qd,a1,Nat.reduceAdd];repeat' (first
  |(apply ay ?_;clear hK K)|apply a9 ?_|(apply bU ?_ ?_<;>(intro hb hbp;try(cases hb;done)))|(apply az fun K hK=>?_)|fail)
 all_goals refine qi ?_
 all_goals simp_all[sA]
theorem zkr(hS:Std cfg)(op a b:Int)(H:Hp):aR prog cfg 185 [.int .i64 op,.int .i64 a,.int .i64 b] H fun v H'=>v=.int .i64 (Gz op a b)/\H'=H:=by
 have V:=zbI b;have C:dQ prog cfg.cS .shl 2 (.int .i64 a) (.int .u64 (vL b))=_:=zbJ V;have Z:dQ prog cfg.cS .shr 2 (.int .i64 a) (.int .u64 (vL b))=_:=Ab.bin_shr V;have j:dQ prog cfg.cS .shr 180 (.int .u64 (IntKind.wrap .u64 a)) (.int .u64 (vL b))=_:=Ab.bin_shr V;unfold vL at C Z j;refine qe (hS.plain _ rfl) func185 Wq ?_;dsimp only[Wq,qd,a1,Nat.reduceAdd];repeat' (first
  |(apply ay ?_;clear hK K)|apply a9 ?_|(apply fq ?_;first|refine Rx.k (zko hS _ _) ?_)|(apply bU ?_ ?_<;>(intro hb hbp;try(cases hb;done)))|(apply az fun K hK=>?_)|fail)
 all_goals refine qi ?_
 all_goals simp_all[Gz,vL]
theorem zks(hS:Std cfg)(op a b:Int)(H:Hp):aR prog cfg 142 [.int .i64 op,.int .i64 a,.int .i64 b] H fun v H'=>v=.int .i64 (lZ op a b)/\H'=H:=by
 refine qe (hS.plain _ rfl) func142 Wr ?_;dsimp only[Wr,qd,a1,Nat.reduceAdd];repeat' (first
  |(apply ay ?_;clear hK K)|apply a9 ?_|(apply fq ?_;first|refine Rx.k (zkp hS _ _ _) ?_|refine Rx.k (zkr hS _ _ _ _) ?_)|(apply bU ?_ ?_<;>(intro hb hbp;try(cases hb;done)))|(apply az fun K hK=>?_)|fail)
 all_goals refine qi ?_
 all_goals simp_all[lZ]
end
section
namespace tyW6h
end tyW6h
open tyW6h
theorem wA(a b:AV):cr 2 [a,b]=some (.agg [a,b]):=rfl
end
end Go.Proofs.YtbflaciihaijgaaGreat
namespace Go.Ab
set_option maxRecDepth 20000
open Go Go.WideShapes Go.Deep Go.RowKit Go.ChangeShapes
variable{t:TypeId}{v:Value}
def Er(W:World):Nat->Nat->qW:=fun b o=>W.cell? ⟨b,o,none⟩
def zkt(W:World):∀b o v,Er W b o=some v->W.cell? ⟨b,o,none⟩=some v:=fun _ _ _ h=>h
section
variable {H:Type} {enc:TypeId × Value -> H} {P:Program} {W:World}
theorem zku{r:Reach}{b0:Nat}{e:TypeId}{k:IntKind}{d:DataW H}{ps:List MemPlace}{sp:Nat->Bool}{I:Bool}(ht:P.underlying t=some (.slice e))(he:P.underlying e=some (.int k))(hc:P.cellsOf e=1)(C:Value.okWide P W r b0 t v)(hd:DataW.Trod enc P W 0 sp I t v d ps)(β:Nat->Option (Nat×Nat×Nat))(ρ:Nat->Int):
 ∃l:qA,VR ⟨β,Er W,ρ⟩ (.aE (l.map fun n=>[AV.int k n])) v/\l.length<=maxLen/\∀n∈l,(Lit.int k n).wf=true:=by
 obtain⟨fD,Y,cap0,rfl⟩:=okWide_slice ht C;obtain⟨fuel,hf⟩:=hd;rcases open_slice1 ht hc hf with⟨h,_⟩|⟨a,len,cap,m,n,V,D,Pl,h,hb,hl,hm,hmm,hx,hV⟩
 .simp[Value.cells]at h;obtain⟨rfl,rfl,rfl⟩:=h;exact⟨[],.cL _ _,eR _,fun _ h=>absurd h aB⟩
 .simp[Value.cells]at h;obtain⟨rfl,rfl,rfl⟩:=h;have hlm:Y<=m:=cU;have hint:∀i,∃n:Int,i<Y->V i=.int k n/\(Lit.int k n).wf=true:=fun i=>by
   by_cases O:i<Y
   .obtain⟨n',h1,_,h2⟩:=DataW.trod_int he (hV i ac).2;simp_all
   .exact⟨0,fun h=>absurd h O⟩
  obtain⟨N,hN0⟩:=Classical.axiomOfChoice hint;have hN:∀i,i<Y->V i=.int k (N i):=fun i h=>(hN0 i h).1;refine⟨(List.range Y).map N,?_,cZ,fun n hn=>by
   grind⟩
  by_cases h0:Y=0
  .subst h0;exact .cL _ _
  obtain⟨ab,ao,asp⟩:=a;have J:asp=none:=by
   have:=(hV 0 ac).1;simp only[Addr.add,dG,World.cell?]at this;split at this
   .simp_all
   .cases this
  subst J;have L:(((List.range Y).map N).map fun n=>[AV.int k n]).length=Y:=aB;have key:=VR.aE (G:=⟨β,Er W,ρ⟩) (xs:=((List.range Y).map N).map fun n=>[AV.int k n]) (b:=ab) (o:=ao) (cap:=cap0) (z:=1) (fun i _=>V i) ?_ ?_ ?_ (by rw[L];omega)
  .simp_all
  .simp_all
  .intro i j O hj;rw[L]at O;have h2:=(hV i ac).1;show W.cell? ⟨ab,ao+i*1+j,none⟩=some (V i);have hj0:j=0:=ac;subst hj0;rw[<-h2]
   congr 1
   unfold Addr.add;simp_all
  .intro i j row c hr Z;rw[fd,fd]at hr;by_cases O:i<Y
   .rw[JW O]at hr;simp only[lB,am]at hr;subst hr;cases j with
    |zero=>
     simp only[nH]at Z;subst Z;show VR _ _ (V i);rw[hN i O];exact .int k _
    |succ j=>simp at Z
   simp_all
def zkv(L:laidOutB P=true)(hr:P.readableRec t=true)(I:t<P.types.size){Y:World}{d:DataW H}{ps O:List MemPlace}
 (h:DataW.Trod enc P W 0 (fun _=>true) true t v d ps) (hb:Below W.heap.size W Y) (C:∀p∈O,p.block<W.heap.size) (j:∀p∈ps,p∈O) {J:Nat->Bool} (z:∀p∈O,J p.block=true) :
 DataW.Trod enc P Y 0 J true t v d ps:=
 WideElems.Trod_stays L hr I h (fun x Z=>hb.same (C x (j x Z))) fun x Z=>z x (j x Z)
end
end Go.Ab
namespace Go.Proofs.YtbflaciihaijgaaGreat
set_option maxRecDepth 20000
open Go Go.Ab
def hY(l:qA):AV:=.aE (l.map fun n=>[.int .i64 n])
theorem IT:∀{a b:qA},(a.map fun n=>[AV.int .i64 n])=(b.map fun n=>[AV.int .i64 n])->a=b
 |[],[],_=>rfl
 |[],_::_,h=>by simp at h
 |_::_,[],h=>by simp at h
 |x::a,y::b,h=>by
  simp only[eC,eX,AV.int.injEq,aV,j6]at h;rw[h.1,IT h.2]
def Ws{a b:qA}(h:hY a=hY b):a=b:=IT (by simpa only[hY,AV.aE.injEq]using h)
def Es(l:qA):gD (hY l):=.map fun n _=>.cons (.int _ _) .nil
def zkw{n:Nat}(h:n<=maxLen):n<2^63:=xR h aF
def zkx:Tryz.prog.cellsOf 3=1:=ax
set_option maxRecDepth 100000 in
def zky{H:Type}{enc:TypeId×Value->H}{W:World}{O:Value}{r:Reach}{j:Nat}(k0:Value.okWide Tryz.prog W r j 26 O){d:DataW H}{ps:List MemPlace}{J:Nat->Bool}{I:Bool}(L:DataW.Trod enc Tryz.prog W 0 J I 26 O d ps):∃l:qA,VR ⟨fun _=>none,Er W,fun _=>0⟩ (hY l) O/\l.length<2^63/\∀n∈l,-9223372036854775808<=n/\n<9223372036854775808:=by
 obtain⟨l,Y,V,hr⟩:=zku Tryz.underlying26 Tryz.underlying3 zkx k0 L (fun _=>none) (fun _=>0);refine⟨l,Y,zkw V,fun n Z=>?_⟩;have h:=hr n Z;have C:IntKind.min .i64=-9223372036854775808:=aF;have z:IntKind.max .i64=9223372036854775807:=aF;simp only[Lit.wf,lX,C,z]at h;omega
structure zf7 where
 p:Pr
 nm:aY
 al:qA
 a2:Int
def pr(p:Pr):List (aY×Int):=ny p.funcs 0 []
structure zf7.ok (x:zf7):Prop where
 v:zd7 x.p
 sz:x.p.sz<2^36
 f0:0<=x.a2
 f1:x.a2<=1000
 has:KZ (pr x.p) x.nm=true
 k0:0<=di (pr x.p) x.nm
 fn:∃f,x.p.funcs[(di (pr x.p) x.nm).toNat]?=some f/\f.params.length=x.al.length
 al:x.al.length<2^36
def zf7.ok.eA{x:zf7}(h:x.ok):∃r:Int×MS,∃n,fM x.p (pr x.p) n (di (pr x.p) x.nm) x.al (pI x.p x.a2)=some r/\r.2.out.length<=300000:=by
 obtain⟨f,j,m⟩:=h.fn;obtain⟨n,r,C⟩:=h.v.run h.k0 j m h.f0 h.f1;exact⟨r,n,C⟩
noncomputable def nL(x:zf7):Oc:=open Classical in
 if h:∃r:Int×MS,∃n,fM x.p (pr x.p) n (di (pr x.p) x.nm) x.al (pI x.p x.a2)=some r/\r.2.out.length<=300000 then mH (Classical.choose h)else ⟨0,0,[],0⟩
def ky(o:Oc):AV:=.agg [.int .i64 o.az,.int .i64 o.aT,hY o.out,.int .i64 o.value]
end Go.Proofs.YtbflaciihaijgaaGreat
