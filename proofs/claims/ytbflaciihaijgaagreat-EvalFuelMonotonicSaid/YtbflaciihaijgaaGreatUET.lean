/- Lemmas for the last file. -/
import Derived.Test.YtbflaciihaijgaaGreatUES
set_option linter.all false
set_option maxHeartbeats 32000000
namespace Go.Proofs.YtbflaciihaijgaaGreat
set_option maxRecDepth 20000
open Go Go.Ab
def znq(x y:znI)(h:wB x=wB y):x=y:=by
 obtain⟨u,Z,al,f⟩:=x;obtain⟨I,O,L,j⟩:=y;simp only[wB,hY,eX,AV.agg.injEq,AV.ay.injEq,AV.aE.injEq,AV.int.injEq,j6,aV]at h;rw[Un.inj h.1,h.2.1,IT h.2.2.1,h.2.2.2]
noncomputable def YO:En:=⟨24,false,fun I=>wU knEvEx.list 24 I⟩
def znr(ρ:Nat->Int):de Tryz.prog ρ YO:=fun I r hr=>CE (knEvEx.ok ρ) _ I r hr
section
variable {tb:qH} {S:Nat -> Prop} {n:Nat} {H:Hp}
def zns(x y:Oc)(h:([ky x,ky x]:qB)=[ky y,ky y]):x=y:=by
 obtain⟨a,b,c,d⟩:=x;obtain⟨C,J,Z,Y⟩:=y;simp only[ky,hY,eX,AV.agg.injEq,AV.aE.injEq,AV.int.injEq,j6,aV,sC]at h;rw[h.1,h.2.1,IT h.2.2.1,h.2.2.2]
end
end Go.Proofs.YtbflaciihaijgaaGreat
namespace Go.Ab
set_option maxRecDepth 20000
open Go
variable{J:Type}{s t:MS}{A:Option Ex}{c:Prop}{n m:Nat}{v d k:Int}{p:Pr}{r z:Int×MS}
abbrev ig(d:Int)(s:MS):MS:={s with a2:=s.a2+d}
structure Rdy (d:Int) (s:MS):Prop where
 a4:s.a4≠3
 lo:0<=s.a2
 hi:s.a2+d<=1000
def YP(d:Int)(s I:MS):Prop:=(Rdy d s/\I=ig d s)\/(s.a4=3/\s.out<+:I.out)
def iu(d:Int)(A B:Option (J×MS)):Prop:=∀r z,A=some r->B=some z->YP d r.2 z.2/\(r.2.a4≠3->r.1=z.1)
def ge(s:MS)(A:Option (J×MS)):Prop:=∀q,A=some q->s.out<+:q.2.out
def jb(s:MS)(A:Option (J×MS)):Prop:=s.a4≠0->∀q,A=some q->q.2=s
def ge.none(s:MS):ge s (Option.none:Option (J×MS)):=fun _ h=>by cases h
def ge.pure(s:MS)(v:J):ge s (some (v,s)):=fun q h=>cU
def mz:=@ge.pure
def ge.cz(v:J)(h:s.out<+:t.out):ge s (some (v,t)):=fun q e=>by cases e;exact h
def tc:=@ge.cz
def ge.trans{J:Type}{A:Option (J×MS)}(h:s.out<+:t.out)(k:ge t A):ge s A:=fun q e=>h.trans (k q e)
def BM:=@ge.trans
def ge.bind{J β:Type}{A:Option (J×MS)}{f:J×MS->Option (β×MS)}(h:ge s A)(k:∀r,ge r.2 (f r)):ge s (A.bind f):=fun q e=>by
 obtain⟨x,I,z⟩:=aC.1 e;exact(h x I).trans (k x q z)
def r9:=@ge.bind
def ge.dP{β:Type}{f:Ex->Option (β×MS)}(k:∀r,ge s (f r)):ge s (A.bind f):=fun q e=>by
 obtain⟨x,I,z⟩:=aC.1 e;exact k x q z
def Jz:=@ge.dP
theorem ge.ite{J:Type}[Decidable c]{A B:Option (J×MS)}(h:ge s A)(k:ge s B):ge s (if c then A else B):=by
 grind
def rq:=@ge.ite
theorem BN(c:Int)(s:MS):s.out<+:(fo c s).out:=by unfold fo;grind
theorem ye(s:MS):s.out<+:(dw s).out:=by unfold dw;grind
theorem YQ(v:Int)(s:MS):s.out<+:(nu v s).out:=by
 unfold nu
 grind
theorem OF(nm:aY)(a v:Int)(s:MS):s.out<+:(kG nm a v s).out:=by
 unfold kG;simp only;have h:s.out<+:(if sB a (iZ s.cells nm)=true then fo 2 s else s).out:=by
  split
  .exact BN _ _
  .exact tO _
 grind
theorem vu:∀(n:Nat) (x:Ex) (vs:List (aY×Int)) (s:MS),ge s (eL n x vs s)
 |0,x,vs,s=>.none s
 |n+1,x,vs,s=>by
  have Z:=vu n;unfold eL;repeat' (first|exact mz _ _|exact Z _ _ _|exact tc _ (BN _ _)|apply rq|apply r9|apply Jz|intro _)
theorem OG(n:Nat):∀(l:qM) (vs:List (aY×Int)) (s:MS),ge s (j8 n l vs s)
 |[],vs,s=>mz _ _
 |x::l,vs,s=>by
  have Z:=OG n l;unfold j8;repeat' (first|exact mz _ _|exact Z _ _|exact vu _ _ _ _|apply r9|intro _)
theorem YR(p:Pr)(fi:List (aY×Int)):∀n:Nat,
 (∀x vs s,ge s (jS p fi n x vs s))/\(∀l vs s,ge s (fL p fi n l vs s))/\(∀x vs s,ge s (fE p fi n x vs s))/\(∀k al s,ge s (fM p fi n k al s))
 |0=>⟨fun x vs s r h=>A0,fun l vs s r h=>A1,fun x vs s r h=>A2,fun k al s r h=>DJ⟩
 |n+1=>by
  obtain⟨O,V,L,Y⟩:=YR p fi n;refine⟨fun x vs s=>?_,fun l vs s=>?_,fun x vs s=>?_,fun k al s=>?_⟩
  .unfold jS;repeat' (first|exact mz _ _|exact tc _ (BN _ _)|exact tc _ (ye _)|exact tc _ (YQ _ _)|exact tc _ (OF _ _ _ _)|exact vu _ _ _ _|exact OG _ _ _ _|exact V _ _ _|exact L _ _ _|exact BM (ye _) (Y _ _ _)|apply rq|apply r9|intro _)
  .unfold fL;cases l with
   |nil=>exact mz _ _
   |cons x l=>
    simp only;repeat' (first|exact mz _ _|exact O _ _ _|exact V _ _ _|apply rq|apply r9|intro _)
  .unfold fE;repeat' (first|exact mz _ _|exact vu _ _ _ _|exact BM (ye _) (V _ _ _)|exact BM (ye _) (L _ _ _)|exact L _ _ _|apply rq|apply r9|intro _)
  .unfold fM;refine rq (.none _) fun q e=>?_;obtain⟨f,z,e⟩:=aC.1 e;obtain⟨vs,j,e⟩:=aC.1 e;exact r9 (V _ _ _) (fun r=>vu _ _ _ _) q e
theorem yf{x:Ex}{vs:List (aY×Int)}:jb s (eL n x vs s):=fun h q e=>by
 cases n with
 |zero=>cases e
 |succ n=>rw[eL,ai h]at e;cases e;rfl
theorem OH{n:Nat}:∀{l:qM}{vs:List (aY×Int)}{s:MS},jb s (j8 n l vs s)
 |[],vs,s=>fun h q e=>by cases e;rfl
 |x::l,vs,s=>fun h q e=>by
  rw[j8]at e;obtain⟨r,hr,e⟩:=aC.1 e;obtain⟨r2,O,e⟩:=aC.1 e;cases e;have:=yf h r hr;show r2.2=s;rw[this]at O;exact OH h r2 O
def EP(h:s.a4≠0):dw s=s:=by unfold dw;rw[ai h]
def EQ{c:Int}(h:s.a4≠0):fo c s=s:=by unfold fo;rw[ah h]
def YS(h:s.a4≠0):nu v s=s:=by unfold nu;rw[ah h]
theorem OI{nm:aY}{a:Int}(h:s.a4≠0):kG nm a v s=s:=by
 unfold kG;rw[EQ h,ite_self];simp_all
theorem jb.pure(s:MS)(v:J):jb s (some (v,s)):=fun h q e=>by cases e;rfl
def px:=@jb.pure
def jb.cz(v:J)(h:s.a4≠0->t=s):jb s (some (v,t)):=fun k q e=>cU
def tY:=@jb.cz
def jb.bind{J β:Type}{A:Option (J×MS)}{f:J×MS->Option (β×MS)}(h:jb s A)(k:∀r,jb r.2 (f r)):jb s (A.bind f):=fun V q e=>by
 obtain⟨x,I,z⟩:=aC.1 e;have C:=h V x I;have:=k x (by rw[C];exact V) q z;rw[this,C]
def wJ:=@jb.bind
theorem jb.ite{J:Type}[Decidable c]{A B:Option (J×MS)}(h:jb s A)(k:jb s B):jb s (if c then A else B):=by
 grind
def td:=@jb.ite
def jb.eb{J:Type}{A:Option (J×MS)}(h:jb (dw s) A):jb s A:=fun V q e=>by
 rw[EP V]at h;exact h V q e
def BO:=@jb.eb
theorem YT(p:Pr)(fi:List (aY×Int)):∀n:Nat,
 (∀x vs s,jb s (jS p fi n x vs s))/\(∀l vs s,jb s (fL p fi n l vs s))/\(∀x vs s,jb s (fE p fi n x vs s))/\(∀k al s,jb s (fM p fi n k al s))
 |0=>⟨fun x vs s h r e=>by simp[jS]at e,fun l vs s h r e=>by simp[fL]at e,fun x vs s h r e=>by simp[fE]at e,fun k al s h r e=>by simp[fM]at e⟩
 |n+1=>by
  obtain⟨O,V,L,Y⟩:=YT p fi n;refine⟨fun x vs s=>?_,fun l vs s=>?_,fun x vs s=>?_,fun k al s=>?_⟩
  .unfold jS;repeat' (first|exact px _ _|exact tY _ EQ|exact tY _ EP|exact tY _ YS|exact tY _ OI|exact yf|exact OH|exact V _ _ _|exact L _ _ _|exact BO (Y _ _ _)|apply td|apply wJ|intro _)
  .unfold fL;cases l with
   |nil=>exact px _ _
   |cons x l=>
    simp only;repeat' (first|exact px _ _|exact O _ _ _|exact V _ _ _|apply td|apply wJ|intro _)
  .unfold fE;repeat' (first|exact px _ _|exact yf|exact BO (V _ _ _)|exact BO (L _ _ _)|exact L _ _ _|apply td|apply wJ|intro _)
  .unfold fM;intro Z q e;split at e
   .cases e
   obtain⟨f,z,e⟩:=aC.1 e;obtain⟨vs,j,e⟩:=aC.1 e;exact wJ (V _ _ _) (fun r=>yf) Z q e
section
variable {d:Int}
def iu.none{J:Type}{B:Option (J×MS)}:iu d Option.none B:=fun _ _ h=>by cases h
def iu.pure(v:J)(h:Rdy d s):iu d (some (v,s)) (some (v,ig d s)):=fun r z e V=>by
 cases e;cases V;exact⟨.inl ⟨h,rfl⟩,fun _=>rfl⟩
def py:=@iu.pure
def iu.cz(v:J)(h:Rdy d s)(m:t=ig d s):iu d (some (v,s)) (some (v,t)):=by subst m;exact .pure v h
def ER:=@iu.cz
theorem iu.ite{Z:Type}[Decidable c]{A B J O:Option (Z×MS)}(h:iu d A J)(k:iu d B O):iu d (if c then A else B) (if c then J else O):=by
 grind
def lO:=@iu.ite
def iu.dP{β:Type}{f g:Ex->Option (β×MS)}(k:∀r,iu d (f r) (g r)):iu d (A.bind f) (A.bind g):=fun q Z e V=>by
 obtain⟨x,I,z⟩:=aC.1 e;obtain⟨L,j,m⟩:=aC.1 V;rw[I]at j;cases j;exact k x q Z z m
def BP:=@iu.dP
def iu.bind{J β:Type}{A B:Option (J×MS)}{f:J×MS->Option (β×MS)}(h:iu d A B)(hd:∀r,jb r.2 (f r))(hg:∀r,ge r.2 (f r))(I:∀v s,Rdy d s->iu d (f (v,s)) (f (v,ig d s))):iu d (A.bind f) (B.bind f):=fun q V e m=>by
 obtain⟨x,hx,O⟩:=aC.1 e;obtain⟨L,Y,j⟩:=aC.1 m;obtain⟨h1,h2⟩:=h x L hx Y;rcases h1 with⟨C,Z⟩|⟨C,Z⟩
 .have z:=h2 C.a4;obtain⟨v,s⟩:=x;obtain⟨v',s'⟩:=L;simp only at Z z;subst Z;subst z;exact I v s C q V O j
 .have z:=hd x ac q O;have h6:=hg L V j;rw[z];exact⟨.inr ⟨C,Z.trans h6⟩,fun hn=>absurd C hn⟩
def nO:=@iu.bind
theorem JA(c:Int)(h:Rdy d s):Rdy d (fo c s)/\fo c (ig d s)=ig d (fo c s):=by
 unfold fo;by_cases e:s.a4=0
 .simp only[ai e];exact⟨⟨aB,h.lo,h.hi⟩,trivial⟩
 simp_all
theorem znt(v:Int)(h:Rdy d s):Rdy d (nu v s)/\nu v (ig d s)=ig d (nu v s):=by
 unfold nu;by_cases e:s.a4=0
 .simp only[ai e];exact⟨⟨h.a4,h.lo,h.hi⟩,trivial⟩
 simp_all
theorem znu(nm:aY)(a v:Int)(h:Rdy d s):Rdy d (kG nm a v s)/\kG nm a v (ig d s)=ig d (kG nm a v s):=by
 obtain⟨m,J⟩:=JA (d:=d) 2 h;unfold kG;simp only;by_cases e:sB a (iZ s.cells nm)=true
 .simp only[ai e,J];by_cases V:(fo 2 s).a4=0
  .simp only[ai V];exact⟨⟨m.a4,m.lo,m.hi⟩,trivial⟩
  simp_all
 .simp only[ah e];by_cases V:s.a4=0
  .simp only[ai V];exact⟨⟨h.a4,h.lo,h.hi⟩,trivial⟩
  simp_all
theorem YU(hd:0<=d){I:Type}{F G:MS->Option (I×MS)}{s:MS}(h:Rdy d s)(hF:∀s,Rdy d s->iu d (F s) (F (ig d s)))(hG:∀s,Rdy d s->iu d (G s) (G (ig d s)))
 (gF:∀s,ge s (F s)) (gG:∀s,ge s (G s)) (L:∀s,jb s (G s)) :
 iu d (if (dw s).a4=0 then F (dw s)else G (dw s)) (if (dw (ig d s)).a4=0 then F (dw (ig d s))else G (dw (ig d s))):=by
 by_cases e:s.a4=0
 .have V:(ig d s).a4=0:=e;by_cases f:s.a2=0
  .have O:dw s={s with a4:=3}:=by unfold dw;simp_all
   rw[O];simp only[Int.reduceEq,fK];by_cases hd0:d=0
   .have J:dw (ig d s)={ig d s with a4:=3}:=by unfold dw;simp_all
    rw[J];simp only[Int.reduceEq,fK];intro r z j m;have C:=L _ aB r j;have Z:=gG _ z m;rw[C];exact⟨.inr ⟨rfl,Z⟩,fun Y=>absurd rfl Y⟩
   .intro r z j m;have C:=L _ aB r j;rw[C];have J:dw (ig d s)={ig d s with a2:=cy ((ig d s).a2-1) }:=by unfold dw;simp_all
    rw[J]at m;rw[ai (by exact e)]at m;have Z:=gF _ z m;change s.out<+:z.2.out at Z;exact⟨.inr ⟨rfl,Z⟩,fun Y=>absurd rfl Y⟩
  .have hlo:=h.lo;have hhi:=h.hi;have O:dw s={s with a2:=s.a2-1}:=by
    unfold dw;rw[ah (by simp[e]),ah f];unfold cy;rw[vD _ ac]
   have J:dw (ig d s)=ig d {s with a2:=s.a2-1}:=by
    unfold dw;rw[ah (by simp[e]),ah (by show ¬s.a2+d=0;omega)];unfold cy ig;simp only;rw[vD _ ac]
    congr 1;omega
   rw[O,J];have hr:Rdy d {s with a2:=s.a2-1}:=⟨h.a4,by show 0<=s.a2-1;omega,by show s.a2-1+d<=1000;omega⟩;simp_all
 .have V:(ig d s).a4≠0:=e;rw[EP e,EP V,ah e,ah V];exact hG _ h
theorem wK:∀(n:Nat) (x:Ex) (vs:List (aY×Int)) (s:MS),Rdy d s->iu d (eL n x vs s) (eL n x vs (ig d s))
 |0,x,vs,s,h=>.none
 |n+1,x,vs,s,h=>by
  have Z:=wK n;unfold eL;refine lO (py _ h) (lO (py _ h) (lO (py _ h) (lO ?_ (lO ?_ ?_))))
  .refine BP fun k=>nO (Z _ _ _ h) (fun r=>?_) (fun r=>?_) fun v s h=>?_
   .exact td (tY _ EQ) (px _ _)
   .exact rq (tc _ (BN _ _)) (mz _ _)
   .obtain⟨m,J⟩:=JA (d:=d) 2 h;exact lO (ER _ m J) (py _ h)
  .refine BP fun k=>nO (Z _ _ _ h) (fun r=>?_) (fun r=>?_) fun v s h=>?_
   .refine td (fun V q e=>?_) (fun V q e=>?_)<;>(obtain⟨f,z,e⟩:=aC.1 e;exact yf V q e)
   .exact rq (Jz fun _=>vu _ _ _ _) (Jz fun _=>vu _ _ _ _)
   .exact lO (BP fun _=>Z _ _ _ h) (BP fun _=>Z _ _ _ h)
  .refine BP fun k=>nO (Z _ _ _ h) (fun r=>?_) (fun r=>?_) fun v s h=>?_
   .refine td (px _ _) (fun V q e=>?_);obtain⟨f,z,e⟩:=aC.1 e;exact wJ yf (fun r=>td (tY _ EQ) (px _ _)) V q e
   .exact rq (mz _ _) (Jz fun _=>r9 (vu _ _ _ _) fun r=>rq (tc _ (BN _ _)) (mz _ _))
   .refine lO (py _ h) (BP fun _=>nO (Z _ _ _ h) (fun r=>?_) (fun r=>?_) fun v s h=>?_)
    .exact td (tY _ EQ) (px _ _)
    .exact rq (tc _ (BN _ _)) (mz _ _)
    .obtain⟨m,J⟩:=JA (d:=d) 1 h;exact lO (ER _ m J) (py _ h)
theorem YV(n:Nat):∀(l:qM) (vs:List (aY×Int)) (s:MS),Rdy d s->iu d (j8 n l vs s) (j8 n l vs (ig d s))
 |[],vs,s,h=>py _ h
 |x::l,vs,s,h=>by
  unfold j8;refine nO (wK n x vs s h) (fun r=>?_) (fun r=>?_) fun v s h=>?_
  .exact wJ OH fun r=>px _ _
  .exact r9 (OG _ _ _ _) fun r=>mz _ _
  .exact nO (YV n l vs s h) (fun r=>px _ _) (fun r=>mz _ _) fun v s h=>py _ h
theorem YW(hd:0<=d)(p:Pr)(fi:List (aY×Int)):∀n:Nat,
 (∀x vs s,Rdy d s->iu d (jS p fi n x vs s) (jS p fi n x vs (ig d s)))/\(∀l vs s,Rdy d s->iu d (fL p fi n l vs s) (fL p fi n l vs (ig d s))) /\
 (∀x vs s,Rdy d s->iu d (fE p fi n x vs s) (fE p fi n x vs (ig d s)))/\(∀k al s,Rdy d s->iu d (fM p fi n k al s) (fM p fi n k al (ig d s)))
 |0=>⟨fun x vs s h r z e=>by simp[jS]at e,fun l vs s h r z e=>by simp[fL]at e,fun x vs s h r z e=>by simp[fE]at e,fun k al s h r z e=>by simp[fM]at e⟩
 |n+1=>by
  obtain⟨I1,Z,I3,I4⟩:=YW hd p fi n;obtain⟨G1,Y,j,G4⟩:=YR p fi n;obtain⟨D1,C,I,D4⟩:=YT p fi n;refine⟨fun x vs s h=>?_,fun l vs s h=>?_,fun x vs s h=>?_,fun k al s h=>?_⟩
  .unfold jS;refine lO ?_ (lO ?_ (lO ?_ (lO (I3 _ _ _ h) (lO ?_ (lO ?_ (lO ?_ (py _ h)))))))
   .exact nO (wK _ _ _ _ h) (fun r=>px _ _) (fun r=>mz _ _) fun v s h=>py _ h
   .refine nO (wK _ _ _ _ h) (fun r=>?_) (fun r=>?_) fun v s h=>?_
    .exact wJ yf fun r=>tY _ OI
    .exact r9 (vu _ _ _ _) fun r=>tc _ (OF _ _ _ _)
    .refine nO (wK _ _ _ _ h) (fun r=>tY _ OI) (fun r=>tc _ (OF _ _ _ _)) fun v2 s h=>?_;obtain⟨m,J⟩:=znu (d:=d) x.name v v2 h;exact ER _ m J
   .exact nO (wK _ _ _ _ h) (fun r=>td (C _ _ _) (C _ _ _)) (fun r=>rq (Y _ _ _) (Y _ _ _)) fun v s h=>lO (Z _ _ _ h) (Z _ _ _ h)
   .refine nO (wK _ _ _ _ h) (fun r=>tY _ YS) (fun r=>tc _ (YQ _ _)) fun v s h=>?_;obtain⟨m,J⟩:=znt (d:=d) v h;exact ER _ m J
   .refine nO (YV _ _ _ _ h) (fun r=>?_) (fun r=>?_) fun v s h=>?_
    .exact td (BO (wJ (D4 _ _ _) fun _=>px _ _)) (tY _ EP)
    .exact rq (BM (ye _) (r9 (G4 _ _ _) fun _=>mz _ _)) (tc _ (ye _))
    .exact YU hd (F:=fun t=>(fM p fi n (di fi x.to) v t).bind fun r2=>some (setV vs x.name r2.1,r2.2)) (G:=fun t=>some (vs,t)) h
      (fun s h=>nO (I4 _ _ _ h) (fun _=>px _ _) (fun _=>mz _ _) fun v s h=>py _ h) (fun s h=>py _ h)
      (fun s=>r9 (G4 _ _ _) fun _=>mz _ _) (fun s=>mz _ _) (fun s=>px _ _)
   .obtain⟨m,J⟩:=JA (d:=d) (cy (16+x.n)) h;exact ER _ m J
  .unfold fL;cases l with
   |nil=>exact py _ h
   |cons x l=>
    simp only;exact lO (py _ h) (nO (I1 _ _ _ h) (fun r=>C _ _ _) (fun r=>Y _ _ _) fun v s h=>Z _ _ _ h)
  .unfold fE;refine nO (wK _ _ _ _ h) (fun r=>?_) (fun r=>?_) fun v s h=>?_
   .exact td (td (BO (wJ (C _ _ _) fun _=>I _ _ _)) (BO (I _ _ _))) (px _ _)
   .exact rq (rq (BM (ye _) (r9 (Y _ _ _) fun _=>j _ _ _)) (BM (ye _) (j _ _ _))) (mz _ _)
   .refine lO ?_ (py _ h);exact YU hd (F:=fun t=>(fL p fi n x.bm vs t).bind fun r2=>fE p fi n x r2.1 r2.2) (G:=fun t=>fE p fi n x vs t) h
     (fun s h=>nO (Z _ _ _ h) (fun _=>I _ _ _) (fun _=>j _ _ _) fun v s h=>I3 _ _ _ h) (fun s h=>I3 _ _ _ h)
     (fun s=>r9 (Y _ _ _) fun _=>j _ _ _) (fun s=>j _ _ _) (fun s=>I _ _ _)
  .unfold fM;refine lO .none fun q q' e V=>?_;obtain⟨f,hf,e⟩:=aC.1 e;obtain⟨f',O,V⟩:=aC.1 V;rw[hf]at O;cases O;obtain⟨vs,hv,e⟩:=aC.1 e;obtain⟨vs',L,V⟩:=aC.1 V;rw[hv]at L;cases L;exact nO (f:=fun r=>eL n f.value r.1 r.2) (Z f.body vs s h) (fun r=>yf) (fun r=>vu _ _ _ _) (fun v s h=>wK _ _ _ _ h) q q' e V
end
def znv(hd:0<=d){fi:List (aY×Int)}{al:qA}(V:Rdy d s)(h:fM p fi n k al s=some r)(C:fM p fi m k al (ig d s)=some z):YP d r.2 z.2/\(r.2.a4≠3->r.1=z.1):=by
 have a:=Ez h m;have b:=Ez C n;rw[Nat.add_comm]at b;exact(YW hd p fi (n+m)).2.2.2 _ _ _ V r z a b
theorem znw{f:Int}(hd:0<=d)(V:0<=f)(j:f+d<=1000){fi:List (aY×Int)}{al:qA}(h:fM p fi n k al (pI p f)=some r)(C:fM p fi m k al (pI p (f+d))=some z):
 ((mH r).az=3/\(mH r).aT=0/\(mH r).value=0/\(mH r).out<+:(mH z).out)\/(((mH r).az=1\/(mH r).az=2)/\mH z=mH r):=by
 have L:∀r:Int×MS,(mH r).out=r.2.out:=fun r=>by unfold mH;grind
 obtain⟨J,I⟩:=znv hd (s:=pI p f) ⟨by show(0:Int)≠3;omega,V,j⟩ h C;rcases J with⟨Z,Y⟩|⟨Z,Y⟩
 .right
  have O:=I Z.a4;obtain⟨v,s⟩:=r;obtain⟨v',s'⟩:=z;simp only at Y O;subst Y;subst O;have h7:=Z.a4;simp only at h7;unfold mH
  grind
 .left
  rw[L,L];refine⟨?_,?_,?_,Y⟩<;>unfold mH<;>rw[ah ac,ai Z]
end Go.Ab
