/- Lemmas for the last file. -/
import Derived.Deep.Slices
import Derived.Test.YtbflaciihaijgaaGreatJEP
import Derived.WideKeyArgs
import Derived.WideShapes
set_option linter.all false
set_option maxHeartbeats 32000000
namespace Go.Ab
set_option maxRecDepth 20000
open Go
variable{qf:Prop}
def UB(h:qf:=by simp only[pe,jc,j6,and_true];exact⟨uS,a.1⟩):=h
def Li(h:qf:=by rw[Hp.get_set,if_pos rfl,zjw C]):=h
def r8(h:qf:=by rw[Z];simp):=h
def GQ(h:qf:=by simp_all;done):=h
def zO(h:qf:=by simp only[aG,Nat.reduceBEq, *];exact gX (n:=16) ac ac):=h
def zP:=@List.any_map
def Lj:=@Classical.axiomOfChoice
def Lk:=@Nat.lt_succ_of_lt
def Ll:=@List.map_drop
end Go.Ab
namespace Go.Proofs.YtbflaciihaijgaaGreat
set_option maxRecDepth 20000
open Go Go.Ab
variable{p:Pr}{g:Gr}{u:Un}{f:Int}{c:Sc}{k:Nat}{s:cW}{L l:qu}{U:Int->cW->qE×cW}{z:qH}{a b:Ex}
theorem UC:∀(l:qy) (seen:qw),l.Nodup->(∀x∈l,NdR x)->(∀x∈l,bu seen (gS x)=false)->bU seen (l.map gS)=false
 |[],_,_,_,_=>rfl
 |a::l,seen,hnd,hr,hs=>by
  rw[Cc]at hnd;rw[dZ,bU,hs a ei,il];refine UC l _ hnd.2 (fun x z=>hr x (ev _ z)) fun x z=>?_;have e:bu (seen++[gS a]) (gS x)=(bu seen (gS x)||bu [gS a] (gS x)):=by unfold bu;rw[BF]
  rw[e,hs x (ev _ z),il];have Z:bu [gS a] (gS x)=decide (gS a=gS x):=by simp[bu]
  rw[Z,kB];exact fun m=>hnd.1 (by rw[zfk (hr a ei) (hr x (ev _ z)) m];exact z)
theorem UD{l:qy}(g:l.Nodup)(hr:∀x∈l,NdR x):nD l=true:=by
 unfold nD;rw[UC l [] g hr fun x _=>rfl];rfl
def ziW(h:zf4 p)(hz:p.sz<2^30){n:Nat}(hn:2*p.sz<n){f:Fu}(z:f∈p.funcs)(hg:jE p n f=some g)(C:g.ag.length<=2000)(ha:u.aa.length=p.aa.length)(j:u.funcs.map Gr.params=p.funcs.map fun f=>(f.params.length:Int)):gh u g=true:=by
 obtain⟨_,_,_,h4⟩:=h.dF;obtain⟨l1,l2,l3⟩:=h4 f z;obtain⟨s,v,e1,e2,L,V,gP,gn⟩:=Ux h hn z;have I:g=⟨f.name,f.params.length,v.2.l,v.1,v.2.ab⟩:=by
  unfold jE at hg;rw[e1,cy,e2,cy]at hg;exact(Option.some.inj hg).symm
 subst I;simp only at C;have m:=L.i.fin ac ac;have ok:((List.range v.2.l.length).all (ow u ⟨f.name,f.params.length,v.2.l,v.1,v.2.ab⟩))=true:=by
  rw[gM];intro i Y;rw[lF]at Y;have hx:v.2.l[i]?=some v.2.l[i]:=aL Y;have hm:v.2.l[i]∈v.2.l:=cB Y;have hw:=L.i.wf i Y;have hp:=L.i.p _ hm;unfold ow;simp only;rw[hx];simp only;rw[dx hw,el];generalize v.2.l[i]=x at hp;unfold iu;by_cases U:x.op=2
  .rw[ah U,dx (hp.pa U)]
  rw[af U];by_cases O:x.op=23\/x.op=28
  .rw[ah O,ha];exact dx (hp.ar O)
  rw[af O];by_cases M:x.op=30
  .obtain⟨q1,fn,q2,q3⟩:=hp.fn M;have Z:p.funcs[x.aF.toNat]?=some fn:=q2;have hlt:x.aF.toNat<p.funcs.length:=by
    by_cases q:x.aF.toNat<p.funcs.length
    .exact q
    .rw[gV ac]at Z;cases Z
   have J:u.funcs.length=p.funcs.length:=by have:=kV List.length j;simpa using this
   rw[ah M,J,dx (show x.aF<(p.funcs.length:Int) by omega),el,j,cQ,eu,Z];simp only[rq,bz,kA];omega
  .rw[af M]
 unfold gh;simp only;rw[ok,UD L.i.nd m.r,ziK gP L.i.nd ac,V.m.zero,L.st.m.zero,V.i.s,L.st.i.s];have b1:=V.i.lo;have b2:=V.i.hi;have b3:=L.st.i.lo;have b4:=L.st.i.hi;simp only[kA,cj,i4,tz];refine⟨⟨⟨ac,ac⟩,ac⟩,⟨⟨b1,b2⟩,b3⟩,b4⟩
theorem UE{p:Pr}{n:Nat}:∀(l:qQ) (z:qT) (u:Un) (e:Int),lj p n l z=some (u,e)->(e=6/\u=⟨[],[]⟩)\/(e=0/\∃M,u=⟨p.aa,z++M⟩/\cE (fun f g=>jE p n f=some g/\g.ag.length<=2000) l M)
 |[],z,u,e,h=>by
  rw[lj]at h;cases h;exact .inr ⟨rfl,[],by rw[bm],trivial⟩
 |f::l,z,u,e,h=>by
  rw[lj]at h;simp only[js]at h;obtain⟨g,hg,h⟩:=h;split at h
  .cases h;exact .inl ⟨rfl,rfl⟩
  .rename_i c;rcases UE l _ u e h with i|⟨i,M,Z,m⟩
   .exact .inl i
   .exact .inr ⟨i,g::M,by rw[Z,lU];rfl,⟨hg,ac⟩,m⟩
theorem UF(U:qw):∀(l:qQ) (M:qT) (seen:qw),cE (fun f g=>g.name=f.name) l M->md U seen l=false->md U seen (M.map eD)=false
 |[],[],seen,_,_=>rfl
 |f::l,g::M,seen,ha,h=>by
  rw[md]at h;simp only[kU]at h;rw[dZ,md];show(bu seen g.name||bU U []||md U (seen++[g.name]) (M.map eD))=false;rw[ha.1,h.1.1,UF U l M _ ha.2 h.2];rfl
theorem GR{I β:Type}{q:I->β->Prop}:∀{a:List I}{b:List β},cE q a b->∀y∈b,∃x∈a,q x y
 |[],[],_,y,Y=>by simp at Y
 |x::a,z::b,h,y,Y=>by
  rcases gE.1 Y with rfl|Y
  .exact⟨x,ei,h.1⟩
  .obtain⟨w,L,Z⟩:=GR h.2 y Y;exact⟨w,ev _ L,Z⟩
def GS{n:Nat}{f:Fu}(h:jE p n f=some g):g.name=f.name/\g.params=f.params.length:=by
 unfold jE at h;simp only[jk]at h;obtain⟨s,_,v,_,rfl⟩:=h;exact⟨rfl,rfl⟩
theorem UG{p:Pr}{n:Nat}:∀{l:qQ}{M:qT},cE (fun f g=>jE p n f=some g/\g.ag.length<=2000) l M->M.map Gr.params=l.map fun f=>(f.params.length:Int)
 |[],[],_=>rfl
 |f::l,g::M,h=>by rw[dZ,dZ,UG h.2,(GS h.1.1).2]
theorem ziX(h:fx p=0){M:qT}(z:cE (fun f g=>g.name=f.name) p.funcs M):fx (gK ⟨p.aa,M⟩)=0:=by
 obtain⟨i,Z,m,h4,h5⟩:=Lb h;have hl:M.length=p.funcs.length:=z.len.symm;have V:jD (gK ⟨p.aa,M⟩)=false:=by
  unfold jD at i⊢;simp only[kU,kB]at i⊢;obtain⟨⟨⟨Y,a2⟩,j⟩,a4⟩:=i;refine⟨⟨⟨Y,by simp only[gK,cN];omega⟩,j⟩,?_⟩;simp only[gK,zP,uk];intro g _;have:mc (eD g)=false:=by
   simp[mc,eD,nS,dk,fj,ge,dg,jV]
  simp[this]
 have O:iM (gK ⟨p.aa,M⟩)=true:=by
  unfold iM at Z⊢;rw[cj]at Z⊢;refine⟨Z.1,?_⟩;have U:=gM.1 Z.2;simp only[gK,List.all_map,gM];intro g hg;obtain⟨f,C,I⟩:=GR z g hg;have:=U f C;unfold jY rU at this;simp only[cj,yF,oO,oK,gW]at this;show jY (eD g)=true;simp[jY,rU,eD,fQ,fk,eM,mG,Ex.aw,Ex.aj,Ex.name,Ex.op,I,this.1.1.1.1]
 have L:me (gK ⟨p.aa,M⟩)=false:=by
  unfold me at m⊢;rw[kU]at m⊢;exact⟨m.1,UF _ _ _ _ z m.2⟩
 have J:(gK ⟨p.aa,M⟩).funcs.any (jj (gK ⟨p.aa,M⟩))=false:=by
  simp only[gK,zP,uk];intro g _;simp[jj,eD,dq,en,fo,i9,Ex.aw]
 have e5:(gK ⟨p.aa,M⟩).funcs.any (li (gK ⟨p.aa,M⟩))=false:=by
  simp only[gK,zP,uk];intro g _;simp[li,eD,dq]
 unfold fx;rw[V,O,L,J,e5];rfl
theorem ziY(h:zf4 p)(hz:p.sz<2^30){n:Nat}(L:2*p.sz<n){e:Int}(J:rX p n=some (u,e)):(e=6/\u=⟨[],[]⟩)\/(e=0/\iI u=true/\u.aa=p.aa/\u.funcs.length=p.funcs.length/\zlf u):=by
 unfold rX at J;rw[ah h.ck]at J;rcases UE _ _ _ _ J with i|⟨i,M,h2,Z⟩
 .exact .inl i
 rw[nN]at h2;subst h2;have Y:=UG Z;have hlen:=Z.len;have hpz:p.sz=1+eV p.aa+fg p.funcs:=rfl;have O:cE (fun f g=>g.name=f.name) p.funcs M:=Z.mono fun f g k=>(GS k.1).1;refine .inr ⟨i,?_,rfl,by show M.length=_;omega,?_⟩
 .unfold iI;rw[ziX h.ck O,cj];refine⟨rfl,gM.2 fun g hg=>?_⟩;obtain⟨f,C,m,U⟩:=GR Z g hg;exact ziW h hz L C m U rfl Y
 .obtain⟨a1,a2,a3,a4⟩:=h.dF;refine⟨by show p.aa.length<_;omega,by show M.length<_;omega,fun g hg=>?_,?_⟩
  .obtain⟨f,C,m,U⟩:=GR Z g hg;obtain⟨s,v,e1,e2,g1,_⟩:=Ux h L C;have I:g=⟨f.name,f.params.length,v.2.l,v.1,v.2.ab⟩:=by
    unfold jE at m;rw[e1,cy,e2,cy]at m;exact(Option.some.inj m).symm
   refine⟨ac,fun x j=>?_⟩;rw[I]at j;have:=(g1.i.p x j).len;omega
  .have V:∀{l:qQ}{M:qT},cE (fun f g=>g.name=f.name) l M->fg (M.map eD)<=4*fg l:=by
    intro l;induction l with
    |nil=>
     intro M z;cases M with
     |nil=>simp[fg]
     |cons g M=>exact z.elim
    |cons f l ih=>
     intro M z;cases M with
     |nil=>exact z.elim
     |cons g M=>
      have:=ih z.2;have e:(eD g).sz=1+g.name.length+0+0+0+1:=by simp[Fu.sz,eD,dB,bH,Ex.sz,fu]
      have e2:f.sz=1+f.name.length+dB f.params+dB f.ao+bH f.body+f.value.sz:=rfl;rw[dZ,fg,fg,e,z.1];omega
   have:=V O;show 1+eV p.aa+fg (M.map eD)<_;omega
structure zlj (p:Pr):Prop where
 sz:p.sz<2^30
 rg:fx p=0->∀f∈p.funcs,j6 f.body/\jF f.value
def pU(p:Pr):Un×Int:=(rX p (2*p.sz+1)).getD (⟨[],[]⟩,0)
theorem UH{p:Pr}(h:zf4 p){n:Nat}(I:2*p.sz<n):∀(l:qQ) (z:qT),(∀f∈l,f∈p.funcs)->∃r,lj p n l z=some r
 |[],z,_=>⟨_,rfl⟩
 |f::l,z,hl=>by
  obtain⟨s,v,Y,m,_⟩:=Lc h I (hl f ei);rw[lj,jE,Y,cy,m,cy,cy];split
  .exact⟨_,rfl⟩
  .exact UH h I l _ fun g hg=>hl g (ev _ hg)
theorem zlj.bY(h:zlj p):rX p (2*p.sz+1)=some ((pU p).1,(pU p).2):=by
 have:∃r,rX p (2*p.sz+1)=some r:=by
  unfold rX;split
  .rename_i c;exact UH ⟨c,h.rg c⟩ (cC _) _ _ fun f C=>C
  .exact⟨_,rfl⟩
 obtain⟨r,hr⟩:=this;rw[pU,hr];rfl
def Cp:qw:=[[97],[98]]
def UI(f:Int){m:Int}(h:0<=m):(cG f).getD (m.tmod (cG f).length).toNat []∈cG f:=by
 have J:((cG f).length:Int)≠0:=by unfold cG;split<;>simp
 have:=(tL (cG f) J h []).2;exact jM this
def UJ(f:Int){s:qx}(h:s∈cG f):ci s=true/\bu (cG f) s=true:=by
 unfold cG at h⊢;split at h<;>simp only[j5]at h
 .rename_i e;rw[ah e];rcases h with rfl|rfl|rfl|rfl<;>exact⟨aB,aB⟩
 .rename_i e;rw[af e];rcases h with rfl|rfl<;>exact⟨aB,aB⟩
def UK(m:Int):ci (uM m)=true/\bu Cp (uM m)=true:=by
 unfold uM;split<;>exact⟨aB,aB⟩
def ziZ(m:Int):ci (mn m)=true:=by
 unfold mn;split<;>kernel_rfl
structure ExOk (f:Int) (k:Nat) (x:Ex):Prop where
 wf:fk x=true
 df:en (cG f) Cp x=true
 dp:dg x<=k
theorem wu(f:Int):∀(k g:Nat) (L:qu),5<=g+k->g<=4->ExOk f k (bL f k g L).1
 |0,g,L,h1,h2=>by omega
 |k+1,g,L,h1,h2=>by
  have ih:g<=3->∀L,ExOk f k (bL f k (g+1) L).1:=fun hd L=>wu f k (g+1) L ac ac;have J:=iW (n:=(ca L).1) (m:=16) ac ac;have Z:=iW (n:=bS ((ca L).1.tdiv 16)) (m:=1000) ac ac;simp only[bL];generalize bO (ca L).1 16=q at J⊢;generalize bO (bS ((ca L).1.tdiv 16)) 1000=m at Z⊢;split
  .split
   .obtain⟨cF,V⟩:=UJ f (UI f Z.1);generalize (cG f).getD (m.tmod (cG f).length).toNat []=nm at cF V⊢;refine⟨?_,?_,by simp[dg,jV]⟩
    .simp[fk,eM,mG,Ex.aw,Ex.aj,Ex.n,Ex.op,Ex.name,cF]
    .simp[en,fo,i9,Ex.aw,Ex.name,V]
   .exact⟨by simp[fk,eM,mG,Ex.aw,Ex.aj,Ex.op,Ex.name],by simp[en,fo,i9,Ex.aw,Ex.name],by simp[dg,jV]⟩
  .rename_i z;have hd:g<=3:=ac;have ih:=ih hd;obtain⟨U,M⟩:=UK m;split
   .have I:=ih (ca L).2;refine⟨?_,?_,?_⟩
    .simp[fk,eM,mG,Ex.aw,Ex.aj,Ex.n,Ex.op,Ex.name,U,I.wf]
    .simp[en,fo,i9,Ex.aw,Ex.name,M,I.df]
    .have:=I.dp;simp only[dg,jV];omega
   .split
    .have I:=ih (ca L).2;have C:=ih (bL f k (g+1) (ca L).2).2;have Y:=ih (bL f k (g+1) (bL f k (g+1) (ca L).2).2).2;refine⟨?_,?_,?_⟩
     .simp[fk,eM,mG,Ex.aw,Ex.aj,Ex.n,Ex.op,Ex.name,I.wf,C.wf,Y.wf]
     .simp[en,fo,i9,Ex.aw,Ex.name,I.df,C.df,Y.df]
     .have:=I.dp;have:=C.dp;have:=Y.dp;simp only[dg,jV];omega
    .split
     .have I:=ih (ca L).2;have O:zC m=20\/zC m=21:=by unfold zC;split<;>simp
      refine⟨?_,?_,?_⟩
      .rcases O with O|O<;>simp[fk,eM,mG,Ex.aw,Ex.aj,Ex.n,Ex.op,Ex.name,I.wf,O]
      .simp[en,fo,i9,Ex.aw,Ex.name,I.df]
      .have:=I.dp;simp only[dg,jV];omega
     .have I:=ih (ca L).2;have C:=ih (bL f k (g+1) (ca L).2).2;have j:=Ge 15 Z.1;have i:=xW m (show(0:Int)<15 by omega);have O:rK (bS (4+m.tmod 15))=true:=by
       unfold bS;rw[eX ac ac];simp only[rK,jN];omega
      refine⟨?_,?_,?_⟩
      .simp[fk,eM,mG,Ex.aw,Ex.aj,Ex.n,Ex.op,Ex.name,I.wf,C.wf,O]
      .simp[en,fo,i9,Ex.aw,Ex.name,I.df,C.df]
      .have:=I.dp;have:=C.dp;simp only[dg,jV];omega
theorem UL(f:Int):∀(n:Nat) (L:qu),eM (iz f n L).1=true/\fo (cG f) Cp (iz f n L).1=true/\((iz f n L).1.any fun e=>decide ((20:Int)<dg e))=false/\(iz f n L).1.length=n
 |0,_=>⟨rfl,rfl,rfl,rfl⟩
 |n+1,L=>by
  obtain⟨i,g,m,U⟩:=UL f n (bL f 3 2 L).2;have h:=wu f 3 2 L ac ac;have hd:¬(20:Int)<dg (bL f 3 2 L).1:=by have:=h.dp;omega
  refine⟨?_,?_,?_,?_⟩
  .rw[iz,eM,h.wf,i];rfl
  .rw[iz,fo,h.df,g];rfl
  .rw[iz,sr,m,eA hd];rfl
  .rw[iz,eF,U]
structure ScG (f:Int) (c:Sc):Prop where
 vars:c.vars=cG f
 an:c.an=Cp
 to:∀m:Int,0<=m->0<=dr c.p.funcs (mn m) 0/\((2-m.tmod 2).toNat=pJ c.p (mn m))
structure StOk (c:Sc) (k:Nat) (s:cW) (x:St) (t:cW):Prop where
 wf:nC x=true
 df:gR c false x=true
 ar:gR c true x=true
 dp:oh x=false
 n:cF x+t.1.length<=s.1.length
 w:(dC x:Int)+s.2=t.2
 wb:t.2<=10
 m:∀d,ct x d<=d+k
structure zd9 (c:Sc) (k:Nat) (s:cW) (l:qE) (t:cW):Prop where
 wf:fQ l=true
 df:dq c false l=true
 ar:dq c true l=true
 dp:ge l=false
 n:nS l+t.1.length<=s.1.length
 w:(dk l:Int)+s.2=t.2
 wb:t.2<=10
 m:∀d,fj l d<=d+k
theorem Lm{c:Sc}{k:Nat}{step:cW->St×cW}(h:∀s:cW,s.1≠[]->0<=s.2->s.2<=10->StOk c k s (step s).1 (step s).2):∀(n:Nat) (s:cW),0<=s.2->s.2<=10->zd9 c k s (hZ step n s).1 (hZ step n s).2
 |0,s,h0,h1=>⟨rfl,rfl,rfl,rfl,by simp[hZ,nS],by simp[hZ,dk],h1,fun d=>by simp[hZ,fj]⟩
 |n+1,s,h0,h1=>by
  rw[hZ];by_cases M:s.1=[]
  .rw[ah M];exact⟨rfl,rfl,rfl,rfl,by simp[nS],by simp[dk],h1,fun d=>by simp[fj]⟩
  .rw[af M];have a:=h s M h0 h1;have I:=a.w;have b:=Lm h n (step s).2 ac a.wb;have j:=b.w;have an:=a.n;have bn:=b.n;refine⟨?_,?_,?_,?_,?_,?_,b.wb,fun d=>?_⟩
   .simp only[fQ,a.wf,b.wf];rfl
   .simp only[dq,a.df,b.df];rfl
   .simp only[dq,a.ar,b.ar];rfl
   .simp only[ge,a.dp,b.dp];rfl
   .simp only[nS];omega
   .simp only[dk];omega
   .have:=a.m d;have:=b.m d;simp only[fj];omega
def zi0(f:Int):zeroE kJ=true/\en (cG f) Cp kJ=true/\dg kJ=0:=⟨by simp[zeroE,kJ,Ex.aw,Ex.n,Ex.op,Ex.name,Ex.aj],by simp[kJ,en,fo,i9,Ex.aw],by simp[kJ,dg,jV]⟩
def zi1(hc:ScG f c){V:Int->cW->qE×cW}{Z:qu}{q m:Int}(hL:Z.length<s.1.length)(hm:0<=m)(hm1:m<1000)(h0:0<=s.2)(h1:s.2<=10)(hq:10<=q->s.2<10)(hq0:0<=q)
 (hs:8<=q->q<12->1<=k/\∀(L:Int) (s:cW),0<=s.2->s.2<=10->zd9 c (k-1) s (V L s).1 (V L s).2):StOk c k s (ib V f Z s.2 q m).1 (ib V f Z s.2 q m).2:=by
 obtain⟨z1,z2,z3⟩:=zi0 f;obtain⟨M,J⟩:=UJ f (UI f hm);obtain⟨a1,a2⟩:=UK m;have g1:=ziZ m;obtain⟨g2,g3⟩:=hc.to m hm;have I:=wu f 5 0 Z ac ac;have j:=wu f 3 2 Z ac ac;have C:=wu f 4 1 Z ac ac;have i:=wu f 4 1 (bL f 3 2 Z).2 ac ac;have l50:=fz f 5 0 Z;have l32:=fz f 3 2 Z;have l41:=fz f 4 1 Z;have l43:=fz f 4 1 (bL f 3 2 Z).2;obtain⟨r1,r2,r3,r4⟩:=UL f (2-m.tmod 2).toNat Z;have lar:=KI f (2-m.tmod 2).toNat Z;have d50:¬(20:Int)<dg (bL f 5 0 Z).1:=by have:=I.dp;omega
 have d32:¬(20:Int)<dg (bL f 3 2 Z).1:=by have:=j.dp;omega
 have g:¬(20:Int)<dg (bL f 4 1 Z).1:=by have:=C.dp;omega
 have d43:¬(20:Int)<dg (bL f 4 1 (bL f 3 2 Z).2).1:=by have:=i.dp;omega
 rw[ib];generalize (cG f).getD (m.tmod (cG f).length).toNat []=nm at M J⊢;have hv:=hc.vars;have ha:=hc.an;by_cases c1:q<6
 .rw[ah c1];refine⟨?_,?_,?_,?_,?_,?_,h1,fun d=>?_⟩
  .simp[nC,fQ,jw,eM,nA,rT,St.aw,St.a9,St.bl,St.name,St.to,St.n,St.a6,St.value,St.args,M,z1,I.wf]
  .simp[gR,dq,kH,fo,kG,St.aw,St.name,St.a6,St.value,St.args,hv,ha,J,z2,I.df]
  .simp[gR,dq,lM,St.aw]
  .simp[oh,ge,z3,d50]
  .simp only[cF,nS];omega
  .simp[dC,dk]
  .simp[ct,fj]
 rw[af c1];by_cases c2:q<8
 .rw[ah c2];refine⟨?_,?_,?_,?_,?_,?_,h1,fun d=>?_⟩
  .simp[nC,fQ,jw,eM,nA,rT,St.aw,St.a9,St.bl,St.name,St.to,St.n,St.a6,St.value,St.args,a1,j.wf,i.wf]
  .simp[gR,dq,kH,fo,kG,St.aw,St.name,St.a6,St.value,St.args,hv,ha,a2,j.df,i.df]
  .simp[gR,dq,lM,St.aw]
  .simp[oh,ge,d32,d43]
  .simp only[cF,nS];omega
  .simp[dC,dk]
  .simp[ct,fj]
 rw[af c2];by_cases c3:q<10
 .rw[ah c3];obtain⟨hk,Y⟩:=hs ac ac;have U:=Y 3 ((bL f 4 1 Z).2,s.2) h0 h1;have O:=U.w;have san:=U.n;have z:=Y 2 (V 3 ((bL f 4 1 Z).2,s.2)).2 (by simp only at O;omega) U.wb;have sbw:=z.w;have sbn:=z.n;refine⟨?_,?_,?_,?_,?_,?_,z.wb,fun d=>?_⟩
  .simp[nC,jw,eM,nA,rS,St.aw,St.name,St.to,St.n,St.a6,St.value,St.args,z1,C.wf,U.wf,z.wf]
  .simp[gR,kH,fo,kG,St.aw,St.a6,St.value,St.args,hv,ha,z2,C.df,U.df,z.df]
  .simp[gR,lM,St.aw,U.ar,z.ar]
  .simp[oh,z3,g,U.dp,z.dp]
  .simp only[cF];simp only at san;omega
  .simp only[dC];simp only at O;rw[af ac];omega
  .have:=U.m (d+1);have:=z.m (d+1);simp only[ct];omega
 rw[af c3];by_cases c4:q<12
 .rw[ah c4];obtain⟨hk,Y⟩:=hs ac ac;have hlt:=hq ac;have hw:bS (s.2+1)=s.2+1:=by unfold bS;rw[eX ac ac]
  rw[hw];have U:=Y 3 ((bL f 4 1 Z).2,s.2+1) zK zK;have O:=U.w;have san:=U.n;refine⟨?_,?_,?_,?_,?_,?_,U.wb,fun d=>?_⟩
  .simp[nC,fQ,jw,eM,nA,rS,St.aw,St.bl,St.name,St.to,St.n,St.a6,St.value,St.args,z1,C.wf,U.wf]
  .simp[gR,dq,kH,fo,kG,St.aw,St.a6,St.value,St.args,hv,ha,z2,C.df,U.df]
  .simp[gR,dq,lM,St.aw,U.ar]
  .simp[oh,ge,z3,g,U.dp]
  .simp only[cF,nS];simp only at san;omega
  .simp only[dC,dk];simp only at O;simp only[dh];omega
  .have:=U.m (d+1);simp only[ct,fj];omega
 rw[af c4];by_cases c5:q<14
 .rw[ah c5];refine⟨?_,?_,?_,?_,?_,?_,h1,fun d=>?_⟩
  .simp[nC,fQ,jw,eM,nA,rT,rS,St.aw,St.a9,St.bl,St.name,St.to,St.n,St.a6,St.value,St.args,z1,C.wf]
  .simp[gR,dq,kH,fo,kG,St.aw,St.a6,St.value,St.args,hv,ha,z2,C.df]
  .simp[gR,dq,lM,St.aw]
  .simp[oh,ge,z3,g]
  .simp only[cF,nS];omega
  .simp[dC,dk]
  .simp[ct,fj]
 rw[af c5];by_cases c6:q<15
 .rw[ah c6];refine⟨?_,?_,?_,?_,?_,?_,h1,fun d=>?_⟩
  .simp[nC,fQ,jw,nA,rT,St.aw,St.a9,St.bl,St.name,St.to,St.n,St.a6,St.value,St.args,M,z1,g1,r1]
  .simp[gR,dq,kH,kG,St.aw,St.name,St.to,St.a6,St.value,St.args,hv,ha,z2,J,g2,r2]
  .have:(((iz f (2-m.tmod 2).toNat Z).1.length:Nat):Int)=pJ c.p (mn m):=by rw[r4,g3]
   simp[gR,dq,lM,St.aw,St.args,St.to,this]
  .simp only[oh,ge,z3,r3];decide
  .simp only[cF,nS];omega
  .simp[dC,dk]
  .simp[ct,fj]
 rw[af c6];refine⟨?_,?_,?_,?_,?_,?_,h1,fun d=>?_⟩
 .have e:m<=1000000:=by omega
  simp[nC,fQ,jw,eM,nA,rT,St.aw,St.a9,St.bl,St.name,St.to,St.n,St.a6,St.value,St.args,z1,hm,e]
 .simp[gR,dq,kH,fo,kG,St.aw,St.a6,St.value,St.args,hv,ha,z2]
 .simp[gR,dq,lM,St.aw]
 .simp[oh,ge,z3]
 .simp only[cF,nS];omega
 .simp[dC,dk]
 .simp[ct,fj]
def zi2(h:L≠[]):(ca L).2.length<L.length:=by
 cases L with
 |nil=>exact absurd rfl h
 |cons a l=>simp[ca]
def zd9.more{M:cW}{l:qE}{t:cW}(h:zd9 c k M l t)(h1:M.1.length<=s.1.length)(h2:M.2=s.2):zd9 c k s l t:=⟨h.wf,h.df,h.ar,h.dp,dz h.n h1,h2▸h.w,h.wb,h.m⟩
theorem UM{f:Int}{c:Sc}(Z:ScG f c):∀(k g:Nat),4<=g+k->g<=3->∀s:cW,s.1≠[]->0<=s.2->s.2<=10->StOk c (k-1) s (gT f k g s).1 (gT f k g s).2
 |0,g,i,h2=>by omega
 |k+1,g,i,h2=>fun s M U Y=>by
  have O:=iW (n:=bS ((ca s.1).1.tdiv 16)) (m:=1000) ac ac;have J:=iW (n:=(ca s.1).1) (m:=16) ac ac;rw[gT,wm];refine zi1 Z (zi2 M) O.1 O.2 U Y ?_ ?_ ?_
  .unfold ya;split<;>omega
  .unfold ya;split<;>omega
  .intro a b;have hd:g<=2:=by
    unfold ya at a b;split at a<;>omega
   have e:k+1-1-1=k-1:=ac;rw[e];refine⟨ac,fun L s z V=>zd9.more (Lm (fun s M U i=>?_) _ ((ca s.1).2,s.2) z V) (nG _) rfl⟩;exact UM Z k (g+1) ac ac s M U i
theorem UN(g:ScG f c){deep:Nat}(h1:4<=deep+k)(h2:deep<=3)(L:Int)(m:0<=s.2)(U:s.2<=10):zd9 c (k-1) s (lO f k deep L s).1 (lO f k deep L s).2:=
 zd9.more (Lm (fun s M Z O=>UM g k deep h1 h2 s M Z O) _ ((ca s.1).2,s.2) m U) (nG _) rfl
def UO(L:qu):dr [iP L,iQ L] [102] 0=0/\dr [iP L,iQ L] [103] 0=1:=⟨rfl,rfl⟩
def UP(f:Int)(l:qu){F:Fu}(h:F.params++F.ao=cG f):ScG f (iw (cH l) F):=by
 refine⟨h,rfl,fun m O=>?_⟩;have i:=Ge 2 O;have g:=xW m (show(0:Int)<2 by omega);show 0<=dr [iP (l.take 60),iQ (l.take 60)] (mn m) 0/\_;unfold mn;by_cases e:m.tmod 2=0
 .rw[ah e,e];exact⟨by rw[(UO _).1];omega,rfl⟩
 .rw[af e,show m.tmod 2=1 by omega];exact⟨by rw[(UO _).2];omega,rfl⟩
theorem Ln(l:qu):fx (cH l)=0:=by
 have hl:(l.take 60).length<=60:=bW;have c0:ScG 0 (iw (cH l) (iP (l.take 60))):=UP 0 l rfl;have c1:ScG 1 (iw (cH l) (iQ (l.take 60))):=UP 1 l rfl;obtain⟨L,hL⟩:∃L,l.take 60=L:=⟨_,rfl⟩;rw[hL]at hl c0 c1;have z:zd9 (iw (cH l) (iP L)) 3 ((ca L).2,0) (jb L).1 (jb L).2:=UN c0 (k:=4) (deep:=0) ac ac 5 (s:=((ca L).2,0)) au au;have g:ExOk 0 4 (ll L).1:=wu 0 4 1 _ ac ac;have j:=z.w;have C:zd9 (iw (cH l) (iQ L)) 2 ((ll L).2,(jb L).2.2) (mI L).1 (mI L).2:=UN c1 (k:=3) (deep:=1) ac ac 3 (s:=((ll L).2,(jb L).2.2)) (by simp only at j⊢;omega) z.wb;have M:ExOk 1 4 (uQ L).1:=wu 1 4 1 _ ac ac;have Z:=z.n;have Y:=C.n;have V:=C.w;have b1b:=z.wb;have b2b:=C.wb;simp only at Z Y j V;have n0:=nG L;have cF:(ll L).2.length<=(jb L).2.1.length:=fz 0 4 1 _;have p1:=iW (n:=(ca L).1) (m:=4) ac ac;have p2:=iW (n:=bS ((ca L).1.tdiv 4)) (m:=4) ac ac;have hp:cH l=⟨pd L,[iP L,iQ L]⟩:=by rw[cH,hL]
 have ct:=z.m 0;have m2:=C.m 0;have d1:=g.dp;have d2:=M.dp;have U:jD (cH l)=false:=by
  rw[hp];simp only[jD,pd,List.any_cons,List.any_nil,pI,mc,iP,iQ,List.length_cons,List.length_nil,z.dp,C.dp,Bool.or_false,Bool.or_eq_false_iff,decide_eq_false_iff_not];refine⟨⟨⟨decide_eq_false ac,?_⟩,?_⟩,?_⟩<;>omega
 have O:iM (cH l)=true:=by
  rw[hp];have q:∀s∈([[102],[103],[120],[121],[105],[106],[110],[97],[98]]:qw),ci s=true:=by
   intro s hs;simp only[List.mem_cons,List.not_mem_nil,or_false]at hs;rcases hs with rfl|rfl|rfl|rfl|rfl|rfl|rfl|rfl|rfl<;>kernel_rfl
  simp only[iM,pd,List.all_cons,List.all_nil,jY,rU,iP,iQ,List.cons_append,List.nil_append,z.wf,C.wf,g.wf,M.wf,Bool.and_true,Bool.and_eq_true];simp[q]
 have J:me (cH l)=false:=by rw[hp];kernel_rfl
 have I:(cH l).funcs.any (jj (cH l))=false:=by
  have e:(cH l).funcs=[iP L,iQ L]:=by rw[hp]
  rw[e];have dC:en (iw (cH l) (iP L)).vars (iw (cH l) (iP L)).an (iP L).value=true:=by rw[c0.vars,c0.an];exact g.df
  have w2:en (iw (cH l) (iQ L)).vars (iw (cH l) (iQ L)).an (iQ L).value=true:=by rw[c1.vars,c1.an];exact M.df
  have i:dq (iw (cH l) (iP L)) false (iP L).body=true:=z.df;have x2:dq (iw (cH l) (iQ L)) false (iQ L).body=true:=C.df;simp only[List.any_cons,List.any_nil,jj,dC,w2,i,x2];rfl
 have hba:(cH l).funcs.any (li (cH l))=false:=by
  have e:(cH l).funcs=[iP L,iQ L]:=by rw[hp]
  rw[e];have i:dq (iw (cH l) (iP L)) true (iP L).body=true:=z.ar;have x2:dq (iw (cH l) (iQ L)) true (iQ L).body=true:=C.ar;simp only[List.any_cons,List.any_nil,li,i,x2];rfl
 rw[fx,U,O,J,I,hba];rfl
def gp(L:qu):Prop:=∀n∈L,eJ n
def Cq(h:gp L):eJ (ca L).1/\gp (ca L).2:=by
 cases L with
 |nil=>exact⟨by show eJ 0;unfold eJ;omega,h⟩
 |cons a l=>exact⟨h a ei,fun n I=>h n (ev _ I)⟩
def zi3(n:Int):eJ (bS n):=by
 unfold bS eJ;rw[IntKind.wrap_i64];omega
def zi4{n V:Int}(h:eJ V):eJ (tH n V):=by
 unfold tH;split
 .have e:∀k,eJ (v8.getD k 0):=fun k=>by
   by_cases c:k<10
   .have:∀k:_root_.Fin 10,eJ (v8.getD k.1 0):=by unfold eJ;decide
    exact this ⟨k,c⟩
   .rw[cQ,gV (by simp[v8];omega)];show eJ 0;unfold eJ;omega
  exact e _
 split
 .exact zi3 _
 .exact h
def yg:eJ 0:=gl
theorem tT(f:Int):∀(k g:Nat) (L:qu),gp L->jF (bL f k g L).1/\gp (bL f k g L).2
 |0,g,L,h=>⟨by simp[bL,jF,jc,yg],h⟩
 |k+1,g,L,h=>by
  have ih:=tT f k (g+1);obtain⟨i,Z⟩:=Cq h;simp only[bL];generalize bO (ca L).1 16=q;generalize bO (bS ((ca L).1.tdiv 16)) 1000=m;split
  .split
   .exact⟨by simp[jF,jc,yg],Z⟩
   .exact⟨by simp only[jF,jc,aN];exact zi4 i,Z⟩
  .have a:=ih _ Z;have b:=ih _ a.2;have c:=ih _ b.2;split
   .exact⟨by simp only[jF,jc,aN];exact⟨yg,a.1⟩,a.2⟩
   .split
    .exact⟨by simp only[jF,jc,aN];exact⟨yg,a.1,b.1,c.1⟩,c.2⟩
    .split
     .exact⟨by simp only[jF,jc,aN];exact⟨yg,a.1⟩,a.2⟩
     .exact⟨by simp only[jF,jc,aN];exact⟨yg,a.1,b.1⟩,b.2⟩
theorem UQ(f:Int):∀(n:Nat) (L:qu),gp L->jc (iz f n L).1/\gp (iz f n L).2
 |0,L,h=>⟨by simp[iz,jc],h⟩
 |n+1,L,h=>by
  have a:=tT f 3 2 L h;have b:=UQ f n _ a.2;rw[iz];exact⟨by rw[jc];exact⟨a.1,b.1⟩,b.2⟩
def uS:jF kJ:=by simp[kJ,jF,jc,yg]
def zi5(M:∀L s,gp s.1->j6 (U L s).1/\gp (U L s).2.1)(f:Int)(Z:qu)(c q m:Int)(h:gp Z):pe (ib U f Z c q m).1/\gp (ib U f Z c q m).2.1:=by
 unfold ib;split
 .have a:=tT f 5 0 Z h;exact⟨UB,a.2⟩
 split
 .have a:=tT f 3 2 Z h;have b:=tT f 4 1 _ a.2;exact⟨by simp only[pe,jc,j6,aN];exact⟨a.1,b.1⟩,b.2⟩
 split
 .have a:=tT f 4 1 Z h;have b:=M 3 ((bL f 4 1 Z).2,c) a.2;have d:=M 2 (U 3 ((bL f 4 1 Z).2,c)).2 b.2;exact⟨by simp only[pe,jc,jy];exact⟨uS,a.1,b.1,d.1⟩,d.2⟩
 split
 .have a:=tT f 4 1 Z h;have b:=M 3 ((bL f 4 1 Z).2,bS (c+1)) a.2;exact⟨by simp only[pe,jc,j6,aN,jy];exact⟨uS,a.1,b.1⟩,b.2⟩
 split
 .have a:=tT f 4 1 Z h;exact⟨UB,a.2⟩
 split
 .have a:=UQ f (2-m.tmod 2).toNat Z h;exact⟨by simp only[pe,j6,aN];exact⟨uS,uS,a.1⟩,a.2⟩
 .exact⟨by simp only[pe,jc,j6,aN];exact⟨uS,uS⟩,h⟩
theorem Lo{step:cW->St×cW}(M:∀s,gp s.1->pe (step s).1/\gp (step s).2.1):∀(n:Nat) (s:cW),gp s.1->j6 (hZ step n s).1/\gp (hZ step n s).2.1
 |0,s,h=>⟨by simp[hZ,j6],h⟩
 |n+1,s,h=>by
  have a:=M s h;have b:=Lo M n _ a.2;rw[hZ];split
  .exact⟨by simp[j6],h⟩
  .exact⟨by rw[j6];exact⟨a.1,b.1⟩,b.2⟩
theorem UR(f:Int):∀(k g:Nat) (s:cW),gp s.1->pe (gT f k g s).1/\gp (gT f k g s).2.1
 |0,g,s,h=>⟨by simp only[gT,pe,jc,j6,aN];exact⟨uS,uS⟩,h⟩
 |k+1,g,s,h=>by
  have ih:=UR f k (g+1);rw[gT,wm];exact zi5 (fun L s M=>Lo ih _ ((ca s.1).2,s.2) (Cq M).2) f _ _ _ _ (Cq h).2
def US(f:Int)(k deep:Nat)(L:Int)(s:cW)(h:gp s.1):j6 (lO f k deep L s).1/\gp (lO f k deep L s).2.1:=
 Lo (UR f k deep) _ ((ca s.1).2,s.2) (Cq h).2
def UT(h:gp l):∀f∈(cH l).funcs,j6 f.body/\jF f.value:=by
 have J:gp (l.take 60):=fun n I=>h n (List.mem_of_mem_take I);have z:=US 0 4 0 5 ((ca (l.take 60)).2,0) (Cq J).2;have g:=tT 0 4 1 (jb (l.take 60)).2.1 z.2;have Z:=US 1 3 1 3 ((ll (l.take 60)).2,(jb (l.take 60)).2.2) g.2;have M:=tT 1 4 1 (mI (l.take 60)).2.1 Z.2;intro f C;simp only[cH,j5]at C;rcases C with rfl|rfl
 .exact⟨z.1,g.1⟩
 .exact⟨Z.1,M.1⟩
def UU(f:Int)(i:Nat):((cG f).getD i []).length<=1:=by
 have h:∀s∈cG f,s.length<=1:=by
  intro s M;unfold cG at M;split at M<;>simp only[j5]at M
  .rcases M with rfl|rfl|rfl|rfl<;>simp
  .rcases M with rfl|rfl<;>simp
 rw[cQ];cases e:(cG f)[i]? with
 |none=>simp
 |some s=>exact h s (jM e)
theorem UV(m:Int):(uM m).length=1:=by unfold uM;split<;>rfl
theorem zi6(m:Int):(mn m).length=1:=by unfold mn;split<;>rfl
def sQ:Nat->Nat
 |0=>2
 |k+1=>5+3*sQ k
theorem ww(f:Int):∀(k g:Nat) (L:qu),(bL f k g L).1.sz<=sQ k
 |0,g,L=>by simp[bL,Ex.sz,fu,sQ]
 |k+1,g,L=>by
  have ih:=ww f k (g+1);simp only[bL,sQ];generalize bO (ca L).1 16=q;generalize bO (bS ((ca L).1.tdiv 16)) 1000=m;split
  .split
   .have:=UU f (m.tmod (cG f).length).toNat;simp only[Ex.sz,fu];omega
   .simp only[Ex.sz,fu,ik];omega
  .split
   .have:=UV m;have:=ih (ca L).2;simp only[Ex.sz,fu];omega
   .split
    .have:=ih (ca L).2;have:=ih (bL f k (g+1) (ca L).2).2;have:=ih (bL f k (g+1) (bL f k (g+1) (ca L).2).2).2;simp only[Ex.sz,fu,ik];omega
    .split
     .have:=ih (ca L).2;simp only[Ex.sz,fu,ik];omega
     .have:=ih (ca L).2;have:=ih (bL f k (g+1) (ca L).2).2;simp only[Ex.sz,fu,ik];omega
theorem UW(f:Int):∀(n:Nat) (L:qu),fu (iz f n L).1<=200*n
 |0,_=>by simp[iz,fu]
 |n+1,L=>by
  have:=UW f n (bL f 3 2 L).2;have:=ww f 3 2 L;have:sQ 3<=150:=aE;rw[iz,fu];omega
theorem zi7(M:∀L s,bH (U L s).1<=10000*nS (U L s).1)(f:Int)(Z:qu)(c q m:Int):(ib U f Z c q m).1.sz+1<=10000*cF (ib U f Z c q m).1:=by
 have j:sQ 5<=1200:=aE;have i:sQ 4<=1200:=aE;have g:sQ 3<=1200:=aE;have I:=ww f 5 0 Z;have J:=ww f 3 2 Z;have C:=ww f 4 1 Z;have Y:=ww f 4 1 (bL f 3 2 Z).2;have z:kJ.sz=1:=rfl;have V:=UU f (m.tmod (cG f).length).toNat;have a1:=UV m;have g1:=zi6 m;have r:=UW f (2-m.tmod 2).toNat Z;have r2:(2-m.tmod 2).toNat<=4:=by
  have:-2<m.tmod 2:=by
   have:=xW (-m) (show(0:Int)<2 by omega);rw[Int.neg_tmod]at this;omega
  omega
 rw[ib];split
 .simp only[St.sz,cF,nS,fu,bH,ik];omega
 split
 .simp only[St.sz,cF,nS,fu,bH,ik];omega
 split
 .have O:=M 3 ((bL f 4 1 Z).2,c);have s2:=M 2 (U 3 ((bL f 4 1 Z).2,c)).2;simp only[St.sz,cF,fu,ik];omega
 split
 .have O:=M 3 ((bL f 4 1 Z).2,bS (c+1));simp only[St.sz,cF,nS,fu,bH,ik];omega
 split
 .simp only[St.sz,cF,nS,fu,bH,ik];omega
 split
 .simp only[St.sz,cF,nS,bH];omega
 .simp only[St.sz,cF,nS,fu,bH,ik];omega
theorem Lp{step:cW->St×cW}(h:∀s,(step s).1.sz+1<=10000*cF (step s).1):∀(n:Nat) (s:cW),bH (hZ step n s).1<=10000*nS (hZ step n s).1
 |0,s=>by simp[hZ,bH,nS]
 |n+1,s=>by
  rw[hZ];split
  .simp[bH,nS]
  .have:=h s;have:=Lp h n (step s).2;simp only[bH,nS];omega
theorem UX(f:Int):∀(k g:Nat) (s:cW),(gT f k g s).1.sz+1<=10000*cF (gT f k g s).1
 |0,g,s=>by
  have z:kJ.sz=1:=rfl;simp only[gT,St.sz,cF,nS,fu,bH,ik];omega
 |k+1,g,s=>by
  rw[gT,wm];exact zi7 (fun L s=>Lp (UX f k (g+1)) _ _) f _ _ _ _
def UY(f:Int)(k deep:Nat)(L:Int)(s:cW):bH (lO f k deep L s).1<=10000*nS (lO f k deep L s).1:=Lp (UX f k deep) _ _
theorem zi8(l:qu):(cH l).sz<2^24:=by
 have m:jD (cH l)=false:=by
  have h:=Ln l;rw[fx]at h;cases e:jD (cH l)with
  |false=>rfl
  |true=>rw[ah e]at h;omega
 have z:=UY 0 4 0 5 ((ca (l.take 60)).2,0);have C:=UY 1 3 1 3 ((ll (l.take 60)).2,(jb (l.take 60)).2.2);have Z:(ll (l.take 60)).1.sz<=sQ 4:=ww 0 4 1 _;have M:(uQ (l.take 60)).1.sz<=sQ 4:=ww 1 4 1 _;have J:sQ 4<=1200:=aE;rw[cH]at m⊢;generalize l.take 60=L at *;change bH (jb L).1<=10000*nS (jb L).1 at z;change bH (mI L).1<=10000*nS (mI L).1 at C;simp only[jD,sr,yZ,io,kU,mc,iP,iQ,kB]at m;obtain⟨_,i,g⟩:=m;have cF:¬(200:Int)<nS (jb L).1:=i.1.1.1.1.2;have Y:¬(200:Int)<nS (mI L).1:=g.1.1.1.1.2;simp only[Pr.sz,eV,fg,pd,iP,iQ,Fu.sz,dB,oF];omega
mutual
def fA:Ex->Nat
 | .mk k _ _ _ z=>if k=1 then 1 else if k=2 then 0 else 4+cEs z
def cEs:qH->Nat
 |[]=>0
 |e::es=>fA e+cEs es
end
theorem zi9(x:Ex):fA x=if x.aw=1 then 1 else if x.aw=2 then 0 else 4+cEs x.aj:=by cases x;rw[fA];rfl
mutual
def c1:St->Nat
 | .mk k _ _ _ a v O j m=>if k=1 then fA v else if k=2 then fA a+fA v+4 else if k=3 then fA v+jG j+jG m+5 else if k=4 then 2*fA v+jG j+16 else if k=5 then fA v+1 else if k=6 then cEs O+2 else if k=7 then 2 else 0
def jG:qE->Nat
 |[]=>0
 |x::l=>c1 x+jG l
end
theorem zja(x:St):c1 x=if x.aw=1 then fA x.value else if x.aw=2 then fA x.a6+fA x.value+4 else if x.aw=3 then fA x.value+jG x.a9+jG x.bl+5 else if x.aw=4 then 2*fA x.value+jG x.a9+16 else if x.aw=5 then fA x.value+1 else if x.aw=6 then cEs x.args+2 else if x.aw=7 then 2 else 0:=by cases x;rw[c1];rfl
def Lq(h:z[0]?=some a):fA a<=cEs z:=by
 match z,h with
 |x::l,h=>
  simp only[nV,aI]at h;subst h;rw[cEs];omega
def UZ(h:z[0]?=some a)(k:z[1]?=some b):fA a+fA b<=cEs z:=by
 match z,h,k with
 |x::l,h,k=>
  simp only[nV,xm,aI]at h k;subst h;rw[cEs];have:=Lq k;omega
def zjb{c:Ex}(h:z[0]?=some a)(k:z[1]?=some b)(m:z[2]?=some c):fA a+fA b+fA c<=cEs z:=by
 match z,h,k,m with
 |x::l,h,k,m=>
  simp only[nV,xm,aI]at h k m;subst h;rw[cEs];have:=UZ k m;omega
def jH(n:Nd)(s:Bd):(ai n s).2.l.length<=s.l.length+1:=T6 _ _
def zQ(c a b:Int)(s:Bd):(b9 c a b s).2.l.length<=s.l.length+1:=by
 unfold b9;split
 .exact dA _
 .exact jH _ _
def Lr(t v:Int)(s:Bd):(mh t v s).l.length<=s.l.length+1:=jH _ _
def U2(n i:Int)(s:Bd):(gI n i s).l.length<=s.l.length+3:=by
 have a:=jH ⟨1,n,[]⟩ s;have b:=jH ⟨19,0,[i,(ai ⟨1,n,[]⟩ s).1]⟩ (ai ⟨1,n,[]⟩ s).2;have c:=Lr 2 (ai ⟨19,0,[i,(ai ⟨1,n,[]⟩ s).1]⟩ (ai ⟨1,n,[]⟩ s).2).1 (ai ⟨19,0,[i,(ai ⟨1,n,[]⟩ s).1]⟩ (ai ⟨1,n,[]⟩ s).2).2;have e:(gI n i s).l.length<=_:=c;omega
def zjc(v:Int)(s:Bd):(nE v s).l.length<=s.l.length+3:=by
 have a:=jH ⟨1,0,[]⟩ s;have b:=jH ⟨16,0,[v,(ai ⟨1,0,[]⟩ s).1]⟩ (ai ⟨1,0,[]⟩ s).2;have c:=Lr 1 (ai ⟨16,0,[v,(ai ⟨1,0,[]⟩ s).1]⟩ (ai ⟨1,0,[]⟩ s).2).1 (ai ⟨16,0,[v,(ai ⟨1,0,[]⟩ s).1]⟩ (ai ⟨1,0,[]⟩ s).2).2;have e:(nE v s).l.length<=_:=c;omega
theorem tU(c:Cx):∀(n:Nat) (x:Ex) (s:Bd) (r:Int×Bd),fE c n x s=some r->r.2.l.length<=s.l.length+fA x
 |0,_,_,_,h=>by simp[fE]at h
 |n+1,x,s,r,h=>by
  have I:=tU c n;rw[zi9];unfold fE at h;by_cases i:x.aw=1
  .rw[ah i]at h⊢;cases h;exact jH _ s
  rw[af i]at h⊢;by_cases Z:x.aw=2
  .rw[ah Z]at h⊢;obtain⟨v,_,rfl⟩:=sZ.1 h;exact aH _
  rw[af Z]at h⊢;split at h
  .simp only[jk]at h;obtain⟨k,j,V,i,a,_,rfl⟩:=h;have Y:=I _ _ _ i;have m:=U2 a.len V.1 V.2;have C:=jH ⟨23,dm (c.aa.map (·.name)) x.name,[(gI a.len V.1 V.2).ab,V.1]⟩ (gI a.len V.1 V.2);have J:=Lq j;show(ai _ _).2.l.length<=_;omega
  split at h
  .simp only[jk]at h;obtain⟨k0,q0,bV,U,M,q1,V,i,L,q2,g,Z,rfl⟩:=h;have e0:=I _ _ _ U;have Y:=I _ _ _ i;have O:=I _ _ _ Z;have m:g.2.l.length<=V.2.l.length+fA L:=O;have C:=zQ bV.1 V.1 g.1 g.2;have J:=zQ bV.1 V.2.ab (b9 bV.1 V.1 g.1 g.2).2.ab (b9 bV.1 V.1 g.1 g.2).2;have z:=zjb q0 q1 q2;show(b9 _ _ _ _).2.l.length<=_;omega
  .simp only[js]at h;obtain⟨k0,q0,bV,U,h⟩:=h;have a:=I _ _ _ U;split at h
   .cases h;have Y:=jH ⟨x.op,0,[bV.1]⟩ bV.2;have J:=Lq q0;show(ai _ _).2.l.length<=_;omega
   .simp only[jk]at h;obtain⟨M,q1,V,i,rfl⟩:=h;have b:=I _ _ _ i;have J:=UZ q0 q1;have z:(if x.op=7\/x.op=8 then nE V.1 V.2 else V.2).l.length<=V.2.l.length+3:=by
     split
     .exact zjc _ _
     .omega
    have e6:=jH ⟨x.op,0,[bV.1,V.1]⟩ (if x.op=7\/x.op=8 then nE V.1 V.2 else V.2);show(ai _ _).2.l.length<=_;omega
theorem U3(c:Cx)(n:Nat):∀(l:qH) (s:Bd) (r:qu×Bd),pN c n l s=some r->r.2.l.length<=s.l.length+cEs l
 |[],s,r,h=>by cases h;exact aH _
 |x::l,s,r,h=>by
  unfold pN at h;simp only[jk]at h;obtain⟨V,i,g,Z,rfl⟩:=h;have a:=tU c n _ _ _ i;have b:=U3 c n l _ _ Z;rw[cEs];show g.2.l.length<=_;omega
theorem U4(c:Int)(a:qu):∀(k i:Nat) (s r:Bd),oV c a k i s=some r->r.l.length<=s.l.length+k
 |0,i,s,r,h=>by cases h;exact aH _
 |k+1,i,s,r,h=>by
  unfold oV at h;simp only[js]at h;obtain⟨x,_,y,_,h⟩:=h;have M:=U4 c a k (i+1) _ r h;have e:r.l.length<=(b9 c x y s).2.l.length+k:=M;have:=zQ c x y s;omega
theorem U5(base:Int):∀(C:qD) (j:Nat) (s:Bd),(j0 base C j s).l.length<=s.l.length+C.length
 |[],j,s=>aH _
 |w::C,j,s=>by
  rw[Rm];have a:=U5 base C (j+1) { (ai ⟨3,base+j,[]⟩ s).2 with vars:=(ai ⟨3,base+j,[]⟩ s).2.vars.set w (ai ⟨3,base+j,[]⟩ s).1};have b:=jH ⟨3,base+j,[]⟩ s;rw[eF];have e:({ (ai ⟨3,base+j,[]⟩ s).2 with vars:=(ai ⟨3,base+j,[]⟩ s).2.vars.set w (ai ⟨3,base+j,[]⟩ s).1}:Bd).l.length=(ai ⟨3,base+j,[]⟩ s).2.l.length:=rfl;omega
theorem U6(lp c:Int)(old:qu):∀(C:qD) (j:Nat) (s:Bd),(jm lp c old C j s).l.length<=s.l.length+2*C.length
 |[],j,s=>aH _
 |w::C,j,s=>by
  rw[Rn];have a:=U6 lp c old C (j+1) { (b9 c (ai ⟨25,j,[lp]⟩ s).1 (old.getD w 0) (ai ⟨25,j,[lp]⟩ s).2).2 with vars:=(b9 c (ai ⟨25,j,[lp]⟩ s).1 (old.getD w 0) (ai ⟨25,j,[lp]⟩ s).2).2.vars.set w (b9 c (ai ⟨25,j,[lp]⟩ s).1 (old.getD w 0) (ai ⟨25,j,[lp]⟩ s).2).1};have b:=jH ⟨25,j,[lp]⟩ s;have d:=zQ c (ai ⟨25,j,[lp]⟩ s).1 (old.getD w 0) (ai ⟨25,j,[lp]⟩ s).2;rw[eF];have e:({ (b9 c (ai ⟨25,j,[lp]⟩ s).1 (old.getD w 0) (ai ⟨25,j,[lp]⟩ s).2).2 with vars:=(b9 c (ai ⟨25,j,[lp]⟩ s).1 (old.getD w 0) (ai ⟨25,j,[lp]⟩ s).2).2.vars.set w (b9 c (ai ⟨25,j,[lp]⟩ s).1 (old.getD w 0) (ai ⟨25,j,[lp]⟩ s).2).1}:Bd).l.length=(b9 c (ai ⟨25,j,[lp]⟩ s).1 (old.getD w 0) (ai ⟨25,j,[lp]⟩ s).2).2.l.length:=rfl;omega
theorem U7(c:Cx):∀n:Nat,(∀x s r,oW c n x s=some r->s.vars.length<=4->r.l.length<=s.l.length+c1 x)/\(∀l s r,iH c n l s=some r->s.vars.length<=4->r.l.length<=s.l.length+jG l)/\(∀x s r,pO c n x s=some r->s.vars.length<=4->r.l.length<=s.l.length+(2*fA x.value+jG x.a9+16))
 |0=>⟨fun _ _ _ h=>by simp[oW]at h,fun _ _ _ h=>by simp[iH]at h,fun _ _ _ h=>by simp[pO]at h⟩
 |n+1=>by
  obtain⟨I1,j,I3⟩:=U7 c n;refine⟨fun x s r h V=>?_,fun l s r h V=>?_,fun x s r h V=>?_⟩
  .rw[zja];unfold oW at h;by_cases k1:x.aw=1
   .rw[ah k1]at h⊢;simp only[js]at h;obtain⟨r1,Z,h⟩:=h;split at h
    .cases h;exact tU c n _ _ _ Z
    .cases h
   rw[af k1]at h⊢;by_cases k2:x.aw=2
   .rw[ah k2]at h⊢;simp only[jk]at h;obtain⟨i,Z,v,Y,a,_,rfl⟩:=h;have O:=tU c n _ _ _ Z;have U:=tU c n _ _ _ Y;have M:=U2 a.len i.1 v.2;have e4:=jH ⟨28,dm (c.aa.map (·.name)) x.name,[(gI a.len i.1 v.2).ab,i.1,v.1]⟩ (gI a.len i.1 v.2);show(ai _ _).2.l.length<=_;omega
   rw[af k2]at h⊢;by_cases k3:x.aw=3
   .rw[ah k3]at h⊢;simp only[jk]at h;obtain⟨v,Z,a,Y,b,J,m,C,rfl⟩:=h;have O:=tU c n _ _ _ Z;have g:=(eO c n _ _ _ Z).v;have U:=j _ _ _ Y (by rw[g];exact V);have e3':=j _ _ _ J (by show v.2.vars.length<=4;rw[g];exact V);have M:b.l.length<=a.l.length+jG x.bl:=e3';have v3':=((mH c n).2.1 _ _ _ J).2;have I:b.vars.length=v.2.vars.length:=v3';have e4:=U4 _ _ _ _ _ _ C;have e5:=zQ v.1 a.ab m.ab m;rw[g]at I;show(b9 _ _ _ _).2.l.length<=_;omega
   rw[af k3]at h⊢;by_cases k4:x.aw=4
   .rw[ah k4]at h⊢;exact I3 _ _ _ h V
   rw[af k4]at h⊢;by_cases k5:x.aw=5
   .rw[ah k5]at h⊢;simp only[jk]at h;obtain⟨v,Z,rfl⟩:=h;have O:=tU c n _ _ _ Z;have U:=jH ⟨29,0,[v.2.ab,v.1]⟩ v.2;show(ai _ _).2.l.length<=_;omega
   rw[af k5]at h⊢;by_cases k6:x.aw=6
   .rw[ah k6]at h⊢;simp only[js]at h;obtain⟨L,Z,h⟩:=h;split at h
    .cases h;have O:=U3 c n _ _ _ Z;have U:=jH ⟨30,dr c.funcs x.to 0,L.2.ab::L.1⟩ L.2;generalize ai ⟨30,dr c.funcs x.to 0,L.2.ab::L.1⟩ L.2=q at *;have M:=jH ⟨24,0,[q.1]⟩ ⟨q.2.l,q.2.vars,q.1,q.2.loops⟩;simp only at M⊢;omega
    .cases h
   rw[af k6]at h⊢;by_cases k7:x.aw=7
   .rw[ah k7]at h⊢;cases h;have U:=jH ⟨1,0,[]⟩ s;have M:=Lr (bS (16+x.n)) (ai ⟨1,0,[]⟩ s).1 (ai ⟨1,0,[]⟩ s).2;show(mh _ _ _).l.length<=_;omega
   rw[af k7]at h⊢;cases h;exact aH _
  .unfold iH at h;cases l with
   |nil=>cases h;exact aH _
   |cons x l=>
    simp only[js]at h;obtain⟨a,Z,Y⟩:=h;have O:=I1 _ _ _ Z V;have g:=((mH c n).1 _ _ _ Z).2;have U:=j _ _ _ Y (by rw[g];exact V);rw[jG];omega
  .unfold pO at h;simp only[jk]at h;obtain⟨v,Z,b,Y,t,J,d,C,rfl⟩:=h;have z:=tU c n _ _ _ Z;have O:v.2.l.length<=s.l.length+fA x.value:=z;clear z;have v1':=(eO c n _ _ _ Z).v;have g:v.2.vars=s.vars:=v1';have hb:b.length=v.2.vars.length:=by rw[xZ _ _ _ _ _ Y,rJ]
   have hw:=K4 b;rw[hb,g]at hw;have U:=jH ⟨3,16*(s.loops:Int),[]⟩ v.2;have v2:(ai ⟨3,16*(s.loops:Int),[]⟩ v.2).2.vars=v.2.vars:=rfl;generalize ai ⟨3,16*(s.loops:Int),[]⟩ v.2=q0 at *;have M:=U5 (16*(s.loops:Int)+1) (iG b) 0 ⟨q0.2.l,q0.2.vars,q0.1,q0.2.loops⟩;have I:=(uL (16*(s.loops:Int)+1) (iG b) 0 ⟨q0.2.l,q0.2.vars,q0.1,q0.2.loops⟩).2.2.1;simp only at M I;have e4:=j _ _ _ J (by rw[I,v2,g];exact V);have e5:=tU c n _ _ _ C;generalize hk:ai ⟨31,s.loops,v.2.ab::((iG b).map fun i=>v.2.vars.getD i 0)++[d.1,d.2.ab]++((iG b).map fun i=>d.2.vars.getD i 0)⟩ d.2=k;have e6:k.2.l.length<=d.2.l.length+1:=by rw[<-hk];exact jH _ _
   have e7:=jH ⟨25,0,[k.1]⟩ ⟨k.2.l,v.2.vars,k.2.ab,k.2.loops⟩;simp only at e7;generalize ai ⟨25,0,[k.1]⟩ ⟨k.2.l,v.2.vars,k.2.ab,k.2.loops⟩=q at *;have e8:=zQ v.1 q.1 v.2.ab q.2;generalize b9 v.1 q.1 v.2.ab q.2=m at *;have e9:=U6 k.1 v.1 v.2.vars (iG b) 1 ⟨m.2.l,m.2.vars,m.1,m.2.loops⟩;simp only at e9;omega
def U8(h:L≠[]):(ca L).2.length+1=L.length:=by
 cases L with
 |nil=>exact absurd rfl h
 |cons a l=>simp[ca]
theorem tV(f:Int):∀(k g:Nat) (L:qu),k+g=5->g<=4->fA (bL f k g L).1+4*(bL f k g L).2.length<=4*L.length
 |0,g,L,h,hd=>by omega
 |k+1,g,L,h,hd=>by
  have I:=fun L (hd:¬(3:Int)<g)=>tV f k (g+1) L ac ac;by_cases M:L=[]
  .subst M;have e:bO (ca []).1 16=0:=aE;simp only[bL];rw[e,ah (.inl aE),ah (.inl aE)];simp[fA,ca]
  .have V:=U8 M;simp only[bL];generalize bO (ca L).1 16=q;generalize bO (bS ((ca L).1.tdiv 16)) 1000=m;generalize (ca L).2=Y at *;by_cases hc:q<4\/(3:Int)<g
   .rw[ah hc];split
    .simp only[fA,Int.reduceEq,reduceIte];omega
    .simp only[fA,Int.reduceEq,reduceIte];omega
   have Z:¬(3:Int)<g:=fun e=>hc (.inr e);rw[af hc];split
   .have a:=I Y Z;simp only[fA,cEs,Int.reduceEq,reduceIte];omega
   split
   .have a:=I Y Z;have b:=I (bL f k (g+1) Y).2 Z;have c:=I (bL f k (g+1) (bL f k (g+1) Y).2).2 Z;simp only[fA,cEs,Int.reduceEq,reduceIte];omega
   split
   .have a:=I Y Z;simp only[fA,cEs,Int.reduceEq,reduceIte];omega
   .have a:=I Y Z;have b:=I (bL f k (g+1) Y).2 Z;simp only[fA,cEs,Int.reduceEq,reduceIte];omega
theorem U9(f:Int):∀(n:Nat) (L:qu),cEs (iz f n L).1+4*(iz f n L).2.length<=4*L.length
 |0,L=>by simp[iz,cEs]
 |n+1,L=>by
  have a:=tV f 3 2 L ac ac;have b:=U9 f n (bL f 3 2 L).2;simp only[iz,cEs];omega
def zjd(M:∀L s,jG (U L s).1+16*(U L s).2.1.length<=16*s.1.length)(f:Int)(Z:qu)(c q m:Int):c1 (ib U f Z c q m).1+16*(ib U f Z c q m).2.1.length<=16*(Z.length+1):=by
 unfold ib;split
 .have a:=tV f 5 0 Z ac ac;simp only[c1,Int.reduceEq,reduceIte];omega
 split
 .have a:=tV f 3 2 Z ac ac;have b:=tV f 4 1 (bL f 3 2 Z).2 ac ac;simp only[c1,Int.reduceEq,reduceIte];omega
 split
 .have a:=tV f 4 1 Z ac ac;have b:=M 3 ((bL f 4 1 Z).2,c);have d:=M 2 (U 3 ((bL f 4 1 Z).2,c)).2;simp only at b;simp only[c1,Int.reduceEq,reduceIte];omega
 split
 .have a:=tV f 4 1 Z ac ac;have b:=M 3 ((bL f 4 1 Z).2,bS (c+1));simp only at b;simp only[c1,Int.reduceEq,reduceIte];omega
 split
 .have a:=tV f 4 1 Z ac ac;simp only[c1,Int.reduceEq,reduceIte];omega
 split
 .have a:=U9 f (2-m.tmod 2).toNat Z;simp only[c1,Int.reduceEq,reduceIte];omega
 .simp only[c1,Int.reduceEq,reduceIte];omega
theorem Ls{step:cW->St×cW}(M:∀s,s.1≠[]->c1 (step s).1+16*(step s).2.1.length<=16*s.1.length):∀(n:Nat) (s:cW),jG (hZ step n s).1+16*(hZ step n s).2.1.length<=16*s.1.length
 |0,s=>by simp[hZ,jG]
 |n+1,s=>by
  rw[hZ];split
  .simp[jG]
  .rename_i h;have a:=M s h;have b:=Ls M n (step s).2;simp only[jG];omega
theorem Va(f:Int):∀(k g:Nat) (s:cW),s.1≠[]->c1 (gT f k g s).1+16*(gT f k g s).2.1.length<=16*s.1.length
 |0,g,s,h=>by simp[gT,c1]
 |k+1,g,s,h=>by
  rw[gT,wm];have e:=U8 h;rw[<-e];exact zjd (fun L s=>by
   have a:=Ls (Va f k (g+1)) (bO (ca s.1).1 (L+1)).toNat ((ca s.1).2,s.2);have b:=nG s.1;simp only at a;omega) _ _ _ _ _
def Vb(f:Int)(k deep:Nat)(L:Int)(s:cW):jG (lO f k deep L s).1+16*(lO f k deep L s).2.1.length<=16*s.1.length:=by
 have a:=Ls (Va f k deep) (bO (ca s.1).1 (L+1)).toNat ((ca s.1).2,s.2);have b:=nG s.1;simp only at a;unfold lO;omega
def zje(l:qu):∀f∈(cH l).funcs,jG f.body+fA f.value<=960/\f.params.length+f.ao.length<=4:=by
 have U:(l.take 60).length<=60:=td;have i:=nG (l.take 60);have z:jG (jb (l.take 60)).1+16*(jb (l.take 60)).2.1.length<=16*(ca (l.take 60)).2.length:=Vb 0 4 0 5 ((ca (l.take 60)).2,0);have g:fA (ll (l.take 60)).1+4*(ll (l.take 60)).2.length<=4*(jb (l.take 60)).2.1.length:=tV 0 4 1 _ ac ac;have Z:jG (mI (l.take 60)).1+16*(mI (l.take 60)).2.1.length<=16*(ll (l.take 60)).2.length:=Vb 1 3 1 3 ((ll (l.take 60)).2,(jb (l.take 60)).2.2);have M:fA (uQ (l.take 60)).1+4*(uQ (l.take 60)).2.length<=4*(mI (l.take 60)).2.1.length:=tV 1 4 1 _ ac ac;intro f C;simp only[cH,j5]at C;rcases C with rfl|rfl
 .exact⟨by show jG (jb (l.take 60)).1+fA (ll (l.take 60)).1<=960;omega,by show 2+2<=4;omega⟩
 .exact⟨by show jG (mI (l.take 60)).1+fA (uQ (l.take 60)).1<=960;omega,by show 1+1<=4;omega⟩
theorem Vc:∀(m k:Nat) (s:Bd),(gg m k s).l.length<=s.l.length+m
 |0,k,s=>aH _
 |m+1,k,s=>by
  have a:(gg (m+1) k s).l.length<=(ai ⟨2,k,[]⟩ s).2.l.length+m:=Vc m (k+1) _;have b:=jH ⟨2,k,[]⟩ s;omega
theorem Vd:∀(m:Nat) (s:Bd),(jn m s).l.length<=s.l.length+m
 |0,s=>aH _
 |m+1,s=>by
  have a:(jn (m+1) s).l.length<=(ai ⟨1,0,[]⟩ s).2.l.length+m:=Vd m _;have b:=jH ⟨1,0,[]⟩ s;omega
theorem zjf(f:Fu):(ja f).l.length<=1+f.params.length+f.ao.length/\(ja f).vars.length=f.params.length+f.ao.length:=by
 have I:(ai ⟨26,0,[]⟩ ⟨[],[],0,0⟩).2.l.length<=1:=jH _ _;have Y:(gg f.params.length 0 { (ai ⟨26,0,[]⟩ ⟨[],[],0,0⟩).2 with ab:=(ai ⟨26,0,[]⟩ ⟨[],[],0,0⟩).1}).l.length<=(ai ⟨26,0,[]⟩ ⟨[],[],0,0⟩).2.l.length+f.params.length:=Vc _ _ _;have m:(ja f).l.length<=_:=Vd f.ao.length _;have g:=(x5 f.params.length 0 { (ai ⟨26,0,[]⟩ ⟨[],[],0,0⟩).2 with ab:=(ai ⟨26,0,[]⟩ ⟨[],[],0,0⟩).1}).2;have M:(ja f).vars.length=_:=(x6 f.ao.length _).2;have L:({ (ai ⟨26,0,[]⟩ ⟨[],[],0,0⟩).2 with ab:=(ai ⟨26,0,[]⟩ ⟨[],[],0,0⟩).1}:Bd).vars.length=0:=rfl;exact⟨ac,ac⟩
def zjg{n:Nat}{f:Fu}(h:jE p n f=some g)(V:f.params.length+f.ao.length<=4):g.ag.length<=5+jG f.body+fA f.value:=by
 unfold jE at h;simp only[jk]at h;obtain⟨s,i,v,Z,rfl⟩:=h;obtain⟨a,b⟩:=zjf f;have Y:=(U7 _ n).2.1 _ _ _ i ac;have m:=tU _ n _ _ _ Z;show v.2.l.length<=_;omega
theorem Ve{p:Pr}{n:Nat}:∀(l:qQ) (z:qT),(∀f∈l,∃g,jE p n f=some g/\g.ag.length<=2000)->∃M,lj p n l z=some (⟨p.aa,z++M⟩,0)/\cE (fun f g=>jE p n f=some g/\g.ag.length<=2000) l M
 |[],z,_=>⟨[],by rw[lj,bm],trivial⟩
 |f::l,z,h=>by
  obtain⟨g,i,Y⟩:=h f ei;obtain⟨M,m,U⟩:=Ve l (z++[g]) fun x Z=>h x (ev _ Z)
  refine⟨g::M,?_,⟨i,Y⟩,U⟩;rw[lj,i,cy,af ac,m,lU];rfl
def Vf(hr:gp l):zf4 (cH l):=⟨Ln l,UT hr⟩
def Lt(hr:gp l):zlj (cH l):=⟨by have:=zi8 l;omega,fun _=>UT hr⟩
theorem zjh(hr:gp l):∃f g,pU (cH l)=(⟨pd (l.take 60),[f,g]⟩,0)/\jE (cH l) (2*(cH l).sz+1) (iP (l.take 60))=some f/\jE (cH l) (2*(cH l).sz+1) (iQ (l.take 60))=some g/\f.ag.length<=965/\g.ag.length<=965/\(∀n∈f.ag,n.aj.length<=40)/\∀n∈g.ag,n.aj.length<=40:=by
 have hp:=Vf hr;have Y:∀f∈(cH l).funcs,∃g,jE (cH l) (2*(cH l).sz+1) f=some g/\g.ag.length<=2000/\g.ag.length<=965/\∀n∈g.ag,n.aj.length<=40:=fun f C=>by
  obtain⟨s,v,J,m,j,_⟩:=Lc hp (cC _) C;obtain⟨c1,i⟩:=zje l f C;have e:jE (cH l) (2*(cH l).sz+1) f=some ⟨f.name,f.params.length,v.2.l,v.1,v.2.ab⟩:=by rw[jE,J,cy,m,cy]
  have:=zjg e i;exact⟨_,e,ac,ac,fun n I=>(j.p n I).len⟩
 obtain⟨M,h1,Z⟩:=Ve (p:=cH l) (n:=2*(cH l).sz+1) (cH l).funcs [] fun f C=>by obtain⟨g,a,b,_⟩:=Y f C;exact⟨g,a,b⟩
 have U:pU (cH l)=(⟨pd (l.take 60),M⟩,0):=by
  rw[pU,rX,ah (Ln l),h1];rfl
 have C:(cH l).funcs=[iP (l.take 60),iQ (l.take 60)]:=rfl;rw[C]at Z Y
 match M,Z,U with
 |[f,g],Z,U=>
  obtain⟨⟨V,_⟩,⟨O,_⟩,_⟩:=Z;obtain⟨f',z,_,b2,b5⟩:=Y _ ei;obtain⟨g',L,_,b4,b6⟩:=Y _ (ev _ ei);rw[V]at z;rw[O]at L;cases z;cases L;exact⟨f,g,U,V,O,b2,b4,b5,b6⟩
end Go.Proofs.YtbflaciihaijgaaGreat
namespace Go.Ab
set_option maxRecDepth 20000
open Go Go.WideShapes Go.Deep Go.RowKit Go.ChangeShapes
variable{t:TypeId}{v:Value}
def sR(W:World):Nat->Nat->qS:=fun b o=>W.cell? ⟨b,o,none⟩
def zji(W:World):∀b o v,sR W b o=some v->W.cell? ⟨b,o,none⟩=some v:=fun _ _ _ h=>h
section
variable {H:Type} {enc:TypeId × Value -> H} {P:Program} {W:World}
theorem zjj{r:Reach}{b0:Nat}{e:TypeId}{k:IntKind}{d:DataW H}{ps:List MemPlace}{sp:Nat->Bool}{L:Bool}(ht:P.underlying t=some (.slice e))(he:P.underlying e=some (.int k))(hc:P.cellsOf e=1)(O:Value.okWide P W r b0 t v)(hd:DataW.Trod enc P W 0 sp L t v d ps)(β:Nat->Option (Nat×Nat×Nat))(ρ:Nat->Int):
 ∃l:qu,VR ⟨β,sR W,ρ⟩ (.aE (l.map fun n=>[AV.int k n])) v/\l.length<=maxLen/\∀n∈l,(Lit.int k n).wf=true:=by
 obtain⟨jI,pQ,M,rfl⟩:=okWide_slice ht O;obtain⟨fuel,hf⟩:=hd;rcases open_slice1 ht hc hf with⟨h,_⟩|⟨a,len,cap,m,n,V,D,Pl,h,hb,hl,hm,hmm,hx,hV⟩
 .simp[Value.cells]at h;obtain⟨rfl,rfl,rfl⟩:=h;exact⟨[],.bQ _ _,de _,fun _ h=>absurd h au⟩
 .simp[Value.cells]at h;obtain⟨rfl,rfl,rfl⟩:=h;have hlm:pQ<=m:=by rw[hmm];split<;>omega
  have I:∀i,∃n:Int,i<pQ->V i=.int k n/\(Lit.int k n).wf=true:=fun i=>by
   by_cases Z:i<pQ
   .obtain⟨n',h1,_,h2⟩:=DataW.trod_int he (hV i ac).2;simp at h1;exact⟨n',fun _=>⟨h1,h2⟩⟩
   .exact⟨0,fun h=>absurd h Z⟩
  obtain⟨N,g⟩:=Lj I;have hN:∀i,i<pQ->V i=.int k (N i):=fun i h=>(g i h).1;refine⟨(List.range pQ).map N,?_,bW,fun n hn=>by
   obtain⟨i,Z,rfl⟩:=mT.1 hn;exact(g i (lF.1 Z)).2⟩
  by_cases h0:pQ=0
  .subst h0;exact .bQ _ _
  obtain⟨ab,ao,J⟩:=a;have U:J=none:=by
   have:=(hV 0 ac).1;simp only[Addr.add,dh,World.cell?]at this;split at this
   .split at this
    .cases this
    .rename_i hn;cases J with
     |none=>rfl
     |some s=>simp at hn
   .cases this
  subst U;have C:(((List.range pQ).map N).map fun n=>[AV.int k n]).length=pQ:=au;have key:=VR.aE (G:=⟨β,sR W,ρ⟩) (xs:=((List.range pQ).map N).map fun n=>[AV.int k n]) (b:=ab) (o:=ao) (cap:=M) (z:=1) (fun i _=>V i) ?_ ?_ ?_ wT
  .rw[C]at key;exact key
  .intro i row hr;rw[eu]at hr;cases hq:((List.range pQ).map N)[i]? with
   |none=>rw[hq]at hr;simp at hr
   |some q=>rw[hq]at hr;simp only[lC]at hr;rw[<-hr];rfl
  .intro i j Z hj;rw[C]at Z;have h2:=(hV i ac).1;show W.cell? ⟨ab,ao+i*1+j,none⟩=some (V i);have hj0:j=0:=ac;subst hj0;rw[<-h2]
   congr 1
   unfold Addr.add;split
   .rename_i h;subst h;rfl
   .simp
  .intro i j row c hr Y;rw[eu,eu]at hr;by_cases Z:i<pQ
   .rw[ue Z]at hr;simp only[lC]at hr;subst hr;cases j with
    |zero=>
     simp only[nV,aI]at Y;subst Y;show VR _ _ (V i);rw[hN i Z];exact .int k _
    |succ j=>simp at Y
   .rw[gV bW]at hr;simp at hr
def Vg(J:laidOutB P=true)(hr:P.readableRec t=true)(j:t<P.types.size){V:World}{d:DataW H}{ps I:List MemPlace}
 (h:DataW.Trod enc P W 0 (fun _=>true) true t v d ps) (hb:Below W.heap.size W V) (Z:∀p∈I,p.block<W.heap.size) (i:∀p∈ps,p∈I) {U:Nat->Bool} (Y:∀p∈I,U p.block=true) :
 DataW.Trod enc P V 0 U true t v d ps:=
 WideElems.Trod_stays J hr j h (fun x z=>hb.same (Z x (i x z))) fun x z=>Y x (i x z)
end
end Go.Ab
namespace Go.Proofs.YtbflaciihaijgaaGreat
set_option maxRecDepth 20000
open Go Go.Ab Proofs.Tryz
variable(ρ:Nat->Int)
variable{H:Hp}{v:AV}{M:qK}{b:qL}{i j a:Nat}{P C:Nat->Bool}{t:qu}
section
def kK(l:qu):AV:=.aE (l.map fun n=>[.int .i64 n])
theorem Vh:∀{a b:qu},(a.map fun n=>[AV.int .i64 n])=(b.map fun n=>[AV.int .i64 n])->a=b
 |[],[],_=>rfl
 |[],_::_,h=>by simp at h
 |_::_,[],h=>by simp at h
 |x::a,y::b,h=>by
  simp only[dZ,dN,AV.int.injEq,aN,jy]at h;rw[h.1,Vh h.2]
def GT{a b:qu}(h:kK a=kK b):a=b:=Vh (by simpa only[kK,AV.aE.injEq]using h)
def GU(l:qu):fY (kK l):=.map fun n _=>.cons (.int _ _) .nil
def zjk{n:Nat}(h:n<=maxLen):n<2^63:=BP h aE
def zjl:prog.cellsOf 3=1:=aB
set_option maxRecDepth 100000 in
def zjm{H:Type}{enc:TypeId×Value->H}{W:World}{Z:Value}{r:Reach}{U:Nat}(k0:Value.okWide prog W r U 26 Z){d:DataW H}{ps:List MemPlace}{Y:Nat->Bool}{L:Bool}(V:DataW.Trod enc prog W 0 Y L 26 Z d ps):∃l:qu,VR ⟨fun _=>none,sR W,fun _=>0⟩ (kK l) Z/\l.length<2^63/\∀n∈l,-9223372036854775808<=n/\n<9223372036854775808:=by
 obtain⟨l,O,J,hr⟩:=zjj underlying26 underlying3 zjl k0 V (fun _=>none) (fun _=>0);refine⟨l,O,zjk J,fun n I=>?_⟩;have h:=hr n I;have M:IntKind.min .i64=-9223372036854775808:=aE;have m:IntKind.max .i64=9223372036854775807:=aE;simp only[Lit.wf,jN,M,m]at h;omega
namespace tyGX
end tyGX
open tyGX
def zjn(l:qu)(Z:l.length<2^63):bF prog ρ 12 [kK l] (.agg (cH l).cells):=by
 refine FO (n:=60) (cfg:=ay pls Gf) fit (nU ρ) (fun g i r hg=>eU.bR (l:=Gf) (zg2 ρ) g i r hg) (.cons (GU l) .nil) ?_;refine aY (fun v H' h=>?_) (zh6 Sy (zhV Sy) l Z bM);obtain⟨Y,L,x,y,j,C,rfl,V,_,_⟩:=h;obtain⟨I,U,O⟩:=V.cells;have m:dc (fun q=>bM.next<=q) 100 H' (.agg [.sl Y 0 2 2,.sl L 0 2 9]) (.agg I):=dc.up (n:=16) ⟨I,U,rfl⟩ ac;obtain⟨J,M⟩:=dc.iceV m;refine⟨J,.agg I,M J (aH _),?_⟩;show AV.agg (I.map (cp 59))=_;rw[O 59 ac]
noncomputable def GV:En:=⟨12,false,bQ (fun l=>l.length<2^63) (fun l=>[kK l]) fun l=>.agg (cH l).cells⟩
def Vi:co prog ρ GV:=cz fun x z=>zjn ρ x z
end
section
def tyKuC.tyF:=ad @gQ (ad @rB (ad @rC (ad @KS (ad @rO (@rQ)))))
open tyKuC
noncomputable def GW:{c:SC // aC 12 (f15.body.getD .skip)=c}:=by
 refine⟨?_,?_⟩;rotate_left
 .simp only[f15,bz,aC,bw,bt,bA,bB,Nat.blt,Nat.ble];rfl
noncomputable def Vj:En:=⟨36,false,bQ zlj fD fun p=>.aX [.agg (pU p).1.cells,.int .i64 (pU p).2]⟩
def zjo:co prog ρ Vj:=cz fun p hp=>zia ρ p (n:=2*p.sz+1) (by have:=hp.sz;omega) (fun hc=>Ld ⟨hc,hp.rg hc⟩ hp.sz (cC _)) hp.bY
noncomputable def GX:qB:=[GV,Vj]
def zjp:eU prog ρ GX:=⟨Vi ρ,zjo ρ,trivial⟩
def lP(l:qu):Un:=(pU (cH l)).1
theorem zjq(l:qu)(h:l.length<2^63/\gp l):bF prog ρ 15 [kK l] (.agg (lP l).cells):=dE fit (pls:=pls) (zjp ρ) (.cons (GU l) .nil) (.agg (xu _)) (by
 have L:zd0 (ay pls GX) 15:=db (fun _=>rfl) rfl;have Y:∀H,aM prog (ay pls GX) 12 [kK l] H fun v H'=>v=.agg (cH l).cells/\H'=H:=fun H=>bZ (enc:=fun l=>[kK l]) (ok:=fun l=>l.length<2^63) (out:=fun l=>.agg (cH l).cells) (fun x y h=>GT jf) (x:=l) rfl h.1;have V:∀H,aM prog (ay pls GX) 36 [.agg (cH l).cells] H fun v H'=>v=.aX [.agg (lP l).cells,.int .i64 (pU (cH l)).2]/\H'=H:=fun H=>bZ (enc:=fD) (ok:=zlj) (out:=fun p=>.aX [.agg (pU p).1.cells,.int .i64 (pU p).2]) pH (x:=cH l) rfl (Lt h.2);have m:(lP l).cells=[.aE ((lP l).aa.map Ar.cells),.aE ((lP l).funcs.map Gr.cells)]:=rfl;have J:∀(H:Hp) (a b:AV),gL prog (H.set 0 (.cells [a,b] 0 true)) 37 (.ptr 0 0)=some (.agg [a,b]):=fun H a b=>by
  rw[yN,aA,ah rfl];exact(NF [a,b] 0).trans rfl
 generalize (pU (cH l)).2=e at *;rw[m]at V⊢;refine a0 (M:=12) (rs:=[.cell 2 37]) (L.call _) L.aG L.az func15 rfl rfl GW.2 rfl ?_;dsimp only[GW,aW,Nat.reduceAdd];repeat' (first
  |(apply aj ?_;clear hK K)|apply aO ?_|(apply ez ?_;first|refine Rx.k (Y _) ?_|refine Rx.k (V _) ?_)|(apply ak fun K hK=>?_)|fail)
 all_goals (refine⟨aq,_,(by(try simp only[aG,Nat.reduceBEq,cL,cY, *]);first|done|with_reducible rfl),?_⟩;try simp only[am]))
noncomputable def Vk:En:=⟨15,false,bQ (fun l=>l.length<2^63/\gp l) (fun l=>[kK l]) fun l=>.agg (lP l).cells⟩
def zjr:co prog ρ Vk:=cz fun x z=>zjq ρ x z
end
section
def j7(f:Nat->Bool):qL:=(List.range 16).map f
def zR(f:Nat->Bool):(j7 f).length=16:=by simp[j7]
def Cr{f g:Nat->Bool}(h:∀t,t<16->f t=g t):j7 f=j7 g:=List.map_congr_left fun t J=>h t (lF.1 J)
def Vl(f:Nat->Bool)(j:Nat)(x:Bool):(j7 f).set j x=j7 (fun t=>if t=j then x else f t):=by
 apply List.ext_getElem?;intro t;by_cases h:t<16
 .rw[yG,zR,j7,j7,eu,eu,ue h];by_cases e:j=t
  .subst e;simp[h]
  .rw[af e];have M:¬t=j:=fun h=>e h.symm;simp[M]
 .rw[gV (by rw[jv,zR];omega),gV (by rw[zR];omega)]
def zS(n:Nd)(h:qK)(p:Int×Nat)(t:Nat):Bool:=(h.getD p.1.toNat []).getD t false&&(!decide (n.op=31) || !decide ((t:Int)=n.aF)||decide ((p.2:Int)<(n.aj.length:Int).tdiv 2))
def uT(n:Nd)(h:qK)(k t:Nat):Bool:=(n.aj.zipIdx.take k).any fun p=>zS n h p t
def zjs{n:Nd}{h:qK}{k t:Nat}{x:Int}(z:n.aj[k]?=some x):uT n h (k+1) t=(uT n h k t||zS n h (x,k) t):=by
 unfold uT;rw[sd,List.getElem?_zipIdx,z];simp
def Vm(n:Nd)(h:qK)(t:Nat):(uT n h n.aj.length t||(decide (n.op=3)&&decide ((t:Int)=n.aF.tdiv 16)))=xL n h t:=by
 unfold uT xL zS;rw[fI au]
def nK(H:Hp)(v:AV)(M:qK):Prop:=(v=.ak/\M=[])\/∃(q:Nat) (Z:qD),v=.sl q 0 M.length 1/\q<H.next/\H.get q=some (.cells (Z.map fun k=>AV.sl k 0 16 1) 0 true)/\Z.length=M.length /\
 ∀(i k:Nat) (b:qL),Z[i]?=some k->M[i]?=some b->k<H.next/\k≠q/\b.length=16/\H.get k=some (.cells (b.map .bool) 0 true)
def nK.keep{H':Hp}(h:nK H v M)(z:H.next<=H'.next)(hg:∀k,k<H.next->H'.get k=H.get k):nK H' v M:=by
 rcases h with h|⟨q,V,O,g,L,I,C⟩
 .exact .inl h
 .refine .inr ⟨q,V,O,ac,by rw[hg q g];exact L,I,fun i k b Y m=>?_⟩;obtain⟨U,Z,j,J⟩:=C i k b Y m;exact⟨ac,Z,j,by rw[hg k U];exact J⟩
def nK.lt(h:nK H v M){q o m z:Nat}(e:v=.sl q o m z):q<H.next:=by
 rcases h with⟨h,_⟩|⟨U,Z,i,g,_⟩
 .rw[h]at e;cases e
 .rw[i]at e;cases e;exact g
theorem nK.push(h:nK H v M){x r imm:Nat}(I:x<H.next)(C:∀q o m z,v=.sl q o m z->x≠q)(U:H.get x=some (.cells (b.map .bool) 0 true))(hb:b.length=16)(hr:H.get r=some (.cells [.sl x 0 16 1] imm true))(hl:M.length<2^30):
 ∃v' H',cX prog false H 151 151 v (.sl r 0 1 1)=some (v',H')/\nK H' v' (M++[b])/\H'.next=H.next+1:=by
 have J:dL=70368744177664:=rfl;have V:eQ H 1 (.sl r 0 1 1)=some (0+1,[.sl x 0 16 1]):=by
  have:=pq (H:=H) (r:=r) (o:=0) (n:=1) (z:=1) (s:=1) hr au;rw[this];rfl
 rcases h with⟨rfl,rfl⟩|⟨q,L,rfl,h2,h3,g,h5⟩
 .refine⟨.sl H.next 0 1 1,H.alloc (.cells [.sl x 0 16 1] 0 true),append_nil underlying151 D6 I5 I6 aB V rfl rfl (by rw[J];omega) (by rw[J];omega),.inr ⟨H.next,[x],rfl,cC _,iq,rfl,fun i k c Y Z=>?_⟩,rfl⟩;cases i with
  |zero=>
   simp only[nV,aI,nN]at Y Z;subst Y;subst Z;exact⟨Lk I,ac,hb,by rw[aD,af ac];exact U⟩
  |succ i=>simp at Y
 .have hxq:=C q 0 M.length 1 rfl;refine⟨_,_,xf underlying151 D6 I5 I6 aB V rfl rfl h3 (by rw[cN,g,lE]) (by rw[J];omega) (by rw[J];omega),.inr ⟨H.next,L++[x],by rw[fB];rfl,cC _,?_,by rw[fB,fB,g];rfl,fun i k c Y Z=>?_⟩,rfl⟩
  .show((H.aR q).alloc _).get (H.aR q).next=_
   rw[aD,ah rfl,tg];rfl
  .have O:∀k,k<H.next->k≠q->((H.aR q).alloc (.cells ((L.map fun k=>AV.sl k 0 16 1)++[.sl x 0 16 1]) 0 true)).get k=H.get k:=fun k e3 e4=>by
    rw[aD,af nh,gN,af e4]
   by_cases hi:i<L.length
   .rw[je hi]at Y;rw[je ac]at Z;obtain⟨a1,a2,a3,a4⟩:=h5 i k c Y Z;exact⟨Lk a1,ac,a3,by rw[O k a1 a2];exact a4⟩
   .rw[lT ac]at Y;rw[lT ac,<-g]at Z;cases hj:i-L.length with
    |zero=>
     rw[hj]at Y Z;simp only[nV,aI]at Y Z;subst Y;subst Z;exact⟨Lk I,ac,hb,by rw[O _ I hxq];exact U⟩
    |succ j=>rw[hj]at Y;simp at Y
def zjt(H:Hp)(q:Nat):et prog H 151 1 [(0,.sl q 0 16 1)]=some (.sl H.next 0 1 1,H.alloc (.cells [.sl q 0 16 1] 0 true)):=aB
def nK.at(h:nK H v M)(C:i<M.length):∃r k,ej prog 151 v (.int .i64 (i:Int))=some (.ptr r i)/\gL prog H 149 (.ptr r i)=some (.sl k 0 16 1) /\
 H.get k=some (.cells ((M.getD i []).map .bool) 0 true)/\(M.getD i []).length=16:=by
 rcases h with⟨_,rfl⟩|⟨q,Z,rfl,g,m,O,Y⟩
 .simp at C
 .have L:i<Z.length:=by omega
  obtain⟨U,V,j,J⟩:=Y i Z[i] M[i] (aL L) (aL C);refine⟨q,Z[i],by rw[pp underlying151 D6 C];simp,?_,?_⟩
  .rw[vr underlying149 rfl m,eu,aL L];rfl
  .rw[cQ,aL C];exact⟨J,j⟩
def GY(M:qK):AV:=.aE (M.map fun b=>[AV.aE (b.map fun x=>[AV.bool x])])
def tyVdB.tyF:=ad @ec (ad @cA (ad @tj (ad @eZ (ad @fX (ad @jB (ad @xl (ad @NV (ad @oH (@zjt)))))))))
open tyVdB
noncomputable def Vn:{c:SC // aC 77 (f84.body.getD .skip)=c}:=by
 refine⟨?_,?_⟩;rotate_left
 .simp only[f84,bz,aC,bw,bt,bA,bB,Nat.blt,Nat.ble];rfl
def Lu(l:qy):Prop:=xN l/\0<l.length
theorem zju{l:qy}{n:Nd}(I:l[i]?=some n):iF l (i+1)=iF l i++[j7 (xL n (iF l i))]:=by rw[iF,I];rfl
theorem Vo(H:Hp)(n:Nat):∀b:qL,iceL (iceV H (n+1)) (b.map .bool)=some (b.map .bool)
 |[]=>rfl
 |x::b=>by
  have:=Vo H n b;have e:iceV H (n+1) (.bool x)=some (.bool x):=rfl;simp only[dZ,iceL,e,this]
theorem Vp:∀b:qL,fP 1 b.length (b.map AV.bool)=b.map fun x=>[AV.bool x]
 |[]=>rfl
 |x::b=>by
  have:=Vp b;simp only[dZ,eF,fP,JL,vM,xn,eS,this]
theorem zjv{k:Nat}(h:H.get k=some (.cells (b.map .bool) 0 true))(hb:b.length=16)(n:Nat):iceV H (n+2) (.sl k 0 16 1)=some (.aE (b.map fun x=>[AV.bool x])):=by
 have e:iceV H (n+2) (.sl k 0 16 1)=match H.get k with
  |some (.cells g _ _)=>match iceL (iceV H (n+1)) ((g.drop 0).take (16*1))with
   |some C=>if C.length=16*1 then some (.aE (fP 1 16 C))else none
   |none=>none
  |_=>none:=rfl
 rw[e,h];simp only[eS,lE];rw[fI (by rw[cN,hb];omega),Vo];simp only[cN,hb,dh];rw[<-hb,Vp]
theorem Vq{H:Hp}(n:Nat):∀(Z:qD) (M:qK),Z.length=M.length->(∀(i k:Nat) (b:qL),Z[i]?=some k->M[i]?=some b->b.length=16/\H.get k=some (.cells (b.map .bool) 0 true)) ->
 iceL (iceV H (n+2)) (Z.map fun k=>AV.sl k 0 16 1)=some (M.map fun b=>AV.aE (b.map fun x=>[AV.bool x]))
 |[],[],_,_=>rfl
 |[],_::_,h,_=>by simp at h
 |_::_,[],h,_=>by simp at h
 |q::Z,b::M,h,hr=>by
  obtain⟨V,g⟩:=hr 0 q b rfl rfl;have ih:=Vq n Z M jf (fun i k b Y m=>hr (i+1) k b sX Dc);simp only[dZ,iceL,zjv g V n,ih]
theorem chunk_rows:∀(M:qt),fP 1 M.length M=M.map fun x=>[x]
 |[]=>rfl
 |x::b=>by
  have:=chunk_rows b;simp only[dZ,eF,fP,JL,vM,xn,eS,this]
theorem nK.aG(h:nK H v M)(V:0<M.length):iceV H 4 v=some (GY M):=by
 rcases h with⟨_,rfl⟩|⟨q,U,rfl,J,O,L,Z⟩
 .simp at V
 .have e:iceV H 4 (.sl q 0 M.length 1)=match H.get q with
   |some (.cells g _ _)=>match iceL (iceV H 3) ((g.drop 0).take (M.length*1))with
    |some C=>if C.length=M.length*1 then some (.aE (fP 1 M.length C))else none
    |none=>none
   |_=>none:=rfl
  rw[e,O];simp only[eS,lE];rw[fI KW,Vq 1 U M L (fun i k b Y m=>⟨(Z i k b Y m).2.2.1,(Z i k b Y m).2.2.2⟩)];simp only[cN,dh];have m:M.length=(M.map fun b=>AV.aE (b.map fun x=>[AV.bool x])).length:=by rw[cN]
  rw[m,chunk_rows,vm];rfl
def zjw(h:C j=true):(j7 fun t=>P t||(decide (t<j)&&C t)).set j true=j7 fun t=>P t||(decide (t<j+1)&&C t):=by
 rw[Vl];apply Cr;intro t _;by_cases e:t=j
 .subst e;rw[ah rfl,h];simp
 .rw[af e];have:decide (t<j)=decide (t<j+1):=by rw[pB];omega
  rw[this]
def Vr(h:C j=false):(j7 fun t=>P t||(decide (t<j)&&C t))=j7 fun t=>P t||(decide (t<j+1)&&C t):=by
 apply Cr;intro t _;by_cases e:t=j
 .subst e;rw[h];simp
 .have:decide (t<j)=decide (t<j+1):=by rw[pB];omega
  rw[this]
def Vs:(List.replicate 16 false:qL)=j7 fun _=>false:=aE
set_option maxRecDepth 100000 in
theorem zjx(l:qy)(hl:Lu l):bF prog ρ 84 [dR l] (GY (iF l l.length)):=ur (m:=4) (cfg:=ay pls []) fit (nU ρ) (eU.bR trivial) (.cons (rN _) .nil) (by
 obtain⟨⟨hnd,hok⟩,hpos⟩:=hl;have hl1:=hnd.1;have hw:=fh 84;have hkeep:(ay pls []).keep 84=false:=rfl;have q2:(2:Int)≠0:=aE;have q16:(16:Int)≠0:=aE;have hmk:∀H:Hp,j9 prog H 149 (.int .i64 16) (.int .i64 16)=some (.sl H.next 0 16 1,H.alloc (.cells ((j7 fun _=>false).map .bool) 0 true)):=fun H=>by rw[<-Vs];exact Jv 16 ac
 refine a0 (M:=77) (rs:=[.tmp 2]) (hw.call _) hw.aG hw.az func84 rfl rfl Vn.2 rfl ?_;dsimp only[Vn,aW,Nat.reduceAdd];refine eP ?_;refine bY [0,2] [] 4 l.length (fun i E H=>∃v,E.at 3=v/\nK H v (iF l i)) eE ⟨.ak,eE,.inl ⟨rfl,rfl⟩⟩ ?_;rintro i E Z hi Y V U hsI ⟨v,k3,hv⟩;(try simp only[bq,aT,aN,aG,aR,Nat.reduceBEq, *]at Y);(try simp only[aT, *]at V);(try simp only[bX,]at U);by_cases hlt:i<l.length
 .have hlt':(i:Int)<l.length:=by omega
  have hgx:l[i]?=some l[i]:=aL hlt;have hon:=hok i _ hgx;have hnk:=hnd.2 _ (cB hlt);have hrow:=zju hgx;have hhl:=vQ l i;generalize l[i]=n at *;generalize iF l i=h at *;refine fy (fun hb hbp=>?_);generalize O:Hp.set (Hp.alloc _ _) _ _=Hb;have nb:Z.next+2<=Hb.next:=by rw[<-O];exact aH _
  have L:Hb.get Z.next=some (.cells ((j7 fun t=>uT n h 0 t).map .bool) 0 true):=by
   rw[<-O,aA,af BY,aD,af BY,aD,ah rfl]
   congr 2
  have g5:Hb.get (Z.next+1)=some (.cells n.cells 0 true):=KC;have J:∀x,x<Z.next->Hb.get x=Z.get x:=fun x hx=>by rw[<-O,aA,af BY,aD,af BY,aD,af ac]
  clear O;refine bY [0,2,3,4,5,6] [] 7 n.aj.length (fun k E H=>H.get Z.next=some (.cells ((j7 fun t=>uT n h k t).map .bool) 0 true)/\H.get (Z.next+1)=some (.cells n.cells 0 true)/\∀x,x<Z.next->H.get x=Z.get x) eE ⟨L,g5,J⟩ ?_;clear L g5 J;rintro k E3 H3 hk Y V U hsI ⟨L,g5,J⟩;(try simp only[bq,aT,aN,aG,aR,Nat.reduceBEq, *]at Y);(try simp only[aT, *]at V);(try simp only[aZ,br,bX,bK,Nat.reduceAdd]at U);have hv3:nK H3 v h:=hv.keep ac J;by_cases hkt:k<n.aj.length
  .have hkt':(k:Int)<n.aj.length:=by omega
   have hgy:n.aj[k]?=some n.aj[k]:=aL hkt;obtain⟨d0,d1⟩:=hon.aj _ (cB hkt);have g:=fun t=>zjs (n:=n) (h:=h) (t:=t) hgy;generalize n.aj[k]=kd at *;obtain⟨d,rfl⟩:=gO d0;refine fy (fun hb hbp=>?_);refine bY [0,2,3,4,5,6,7] [] 8 16 (fun j E H=>H.get Z.next=some (.cells ((j7 fun t=>uT n h k t||(decide (t<j)&&zS n h ((d:Int),k) t)).map .bool) 0 true)/\H.get (Z.next+1)=some (.cells n.cells 0 true)/\∀x,x<Z.next->H.get x=Z.get x) eE ⟨by simpa using L,g5,J⟩ ?_;clear L g5 J hv3;rintro j E4 H4 hj Y V U hsI ⟨gc,g6,fc⟩;(try simp only[bq,aT,aN,aG,Nat.reduceBEq, *]at Y);(try simp only[aT, *]at V);(try simp only[aZ,br,bX,bK,Nat.reduceAdd]at U);have n4:Z.next+2<=H4.next:=ac
   have hv4:nK H4 v h:=hv.keep ac fc;obtain⟨r,w,hix,hld,hgw,hbl⟩:=hv4.at (i:=d) ac;have e1:IntKind.wrap .i64 ((n.aj.length:Int).tdiv 2)=(n.aj.length:Int).tdiv 2:=by
    rw[l9 ac];exact eX ac ac
   by_cases hjt:j<16
   .have hjt':(j:Int)<16:=by omega
    have hixw:=zt (q:=w) hjt;have hlw:=Ku hgw (m:=j) ac;have hixq:=zt (q:=Z.next) hjt;have hst:=FU gc (m:=j) (by rw[zR];exact hjt) true;have C:zS n h ((d:Int),k) j=((h.getD d []).getD j false&&(!decide (n.op=31) || !decide ((j:Int)=n.aF)||decide ((k:Int)<(n.aj.length:Int).tdiv 2))):=by rw[zS,fK]
    generalize (h.getD d []).getD j false=b at *;have hgo:∀x,((H4.set Z.next x).get (Z.next+1)=some (.cells n.cells 0 true))/\∀y,y<Z.next->(H4.set Z.next x).get y=Z.get y:=fun x=>⟨by rw[aA,af ac];exact g6,fun y hy=>by rw[aA,af ac];exact fc y hy⟩
    cases b with
    |false=>
     rw[em]at C;repeat' (first
      |(apply aj ?_;clear hK K)|apply aQ ?_|(apply bT ?_ ?_<;>(intro hg hgp;try(cases hg;done)))|(apply aV ?_ ?_<;>(intro hb hbp;try(cases hb;done)))|(apply ak fun K hK=>?_)|fail)
     refine⟨ac,aK,aK,bG,zO,?_⟩;exact⟨by rw[<-Vr C];exact gc,g6,fc⟩
    |true=>
    rw[el]at C;by_cases h31:n.op=31
    .by_cases hji:n.aF=(j:Int)
     .by_cases hlv:(k:Int)<(n.aj.length:Int).tdiv 2
      .rw[dx hlv,zg]at C;repeat' (first
        |(apply aj ?_;clear hK K)|apply aQ ?_|(apply bT ?_ ?_<;>(intro hg hgp;try(cases hg;done)))|(apply aV ?_ ?_<;>(intro hb hbp;try(cases hb;done)))|(apply ak fun K hK=>?_)|fail)
       refine⟨ac,aK,aK,bG,zO,?_⟩;exact⟨Li,hgo _⟩
      .rw[dx h31,dx hji.symm,eA hlv]at C;repeat' (first
        |(apply aj ?_;clear hK K)|apply aQ ?_|(apply bT ?_ ?_<;>(intro hg hgp;try(cases hg;done)))|(apply aV ?_ ?_<;>(intro hb hbp;try(cases hb;done)))|(apply ak fun K hK=>?_)|fail)
       refine⟨ac,aK,aK,bG,zO,?_⟩;exact⟨by rw[<-Vr C];exact gc,g6,fc⟩
     .have hji':¬(j:Int)=n.aF:=fun e=>hji e.symm;rw[eA hji',iC,zg,mU]at C;clear hji;repeat' (first
       |(apply aj ?_;clear hK K)|apply aQ ?_|(apply bT ?_ ?_<;>(intro hg hgp;try(cases hg;done)))|(apply aV ?_ ?_<;>(intro hb hbp;try(cases hb;done)))|(apply ak fun K hK=>?_)|fail)
      refine⟨ac,aK,aK,bG,zO,?_⟩;exact⟨Li,hgo _⟩
    .rw[eA h31,iC,mU,mU]at C;repeat' (first
      |(apply aj ?_;clear hK K)|apply aQ ?_|(apply bT ?_ ?_<;>(intro hg hgp;try(cases hg;done)))|(apply aV ?_ ?_<;>(intro hb hbp;try(cases hb;done)))|(apply ak fun K hK=>?_)|fail)
     refine⟨ac,aK,aK,bG,zO,?_⟩;exact⟨Li,hgo _⟩
   .have hjt':¬(j:Int)<16:=by omega
    have hj16:j=16:=ac;subst hj16;refine fy (fun hb hbp=>?_);refine⟨ac,aK,aK,bG,xG,?_⟩;refine⟨?_,g6,fc⟩;rw[gc]
    congr 3
    apply Cr;intro t ht;rw[g,dx ht,el]
  .have hkt':¬(k:Int)<n.aj.length:=by omega
   have L:H3.get Z.next=some (.cells ((j7 fun t=>uT n h n.aj.length t).map .bool) 0 true):=by
    rw[show n.aj.length=k by omega];exact L
   have n3:Z.next+2<=H3.next:=ac
   refine yl ?_;(apply bp (fun hb hbp=>?_) (fun hb hbp=>?_)<;>try(cases hb;done));refine eh ?_;refine Bv (fun E' H'=>E'.at 2=.ak/\E'.at 0=dR l/\E'.at 3=v/\E'.at 4=.int .i64 i/\E'.at 5=.sl Z.next 0 16 1/\H'.get Z.next=some (.cells ((j7 (xL n h)).map .bool) 0 true)/\H'.next=H3.next/\∀x,x<Z.next->H'.get x=Z.get x) ?_ ?_
   .by_cases h3:n.op=3
    .obtain⟨m0,ct⟩:=hon.lv h3;have hd:n.aF.tdiv 16=n.aF/16:=l9 m0;obtain⟨m,hm⟩:=gO (show 0<=n.aF.tdiv 16 by omega);have I:m<16:=ac;have ew:IntKind.wrap .i64 (m:Int)=m:=eX ac ac;have hixq:=zt (q:=Z.next) I;have hst:=FU L (m:=m) (by rw[zR];exact I) true;clear hd;refine fy (fun hb hbp=>?_);refine⟨rfl,eE,eE,eE,eE,eE,?_,rfl,fun x hx=>by rw[aA,af ac];exact J x hx⟩;rw[aA,ah rfl,Vl]
     congr 3
     apply Cr;intro t ht;rw[<-Vm,dx h3,hm,el];by_cases e:t=m
     .subst e;simp
     .rw[af e,eA (show ¬(t:Int)=(m:Int) by omega),io]
    .refine fy (fun hb hbp=>?_);refine⟨rfl,eE,eE,eE,eE,eE,?_,rfl,J⟩;rw[L]
     congr 3
     apply Cr;intro t ht;rw[<-Vm,eA h3,em,io]
   clear L g5 J;rintro E5 H5 ⟨k2,k0,k3',k4,k5,g6,n5,f6⟩;dsimp only[mX];have n5':Z.next+2<=H5.next:=ac
   clear n5;have hv5:nK (H5.alloc (.cells [.sl Z.next 0 16 1] 0 true)) v h:=hv.keep dG fun x hx=>by rw[aD,af ac];exact f6 x hx
   obtain⟨v',H6,a6,o6,n6⟩:=hv5.push (x:=Z.next) (r:=H5.next) (imm:=0) (b:=j7 (xL n h)) dG (fun q o m z e=>by have:=hv.lt e;omega) (by rw[aD,af ac];exact g6) (zR _) fG ac;have n6':Z.next<=H6.next:=by simp only[aZ]at n6;omega
   clear n6 hv5;refine eP ?_;refine⟨ac,aK,aK,bG,mF,?_⟩;exact⟨v',eE,by rw[hrow];exact o6⟩
 .have hlt':¬(i:Int)<l.length:=by omega
  refine fy (fun hb hbp=>?_);all_goals refine qq ?_
  have hie:i=l.length:=ac;subst hie;exact hv.aG (by rw[vQ];exact hpos))
end
section
def pV(a:Ar):Bool:=ci a.name&&(decide (1<=a.len)&&decide (a.len<=16))
def GZ(u:Un):Bool:=(decide ((u.aa.length:Int)<=4)&&decide ((u.funcs.length:Int)<=8))&&(u.aa.all pV && !bU [] (u.aa.map Ar.name))&&(u.funcs.all (fun g=>ci g.name) && !bU [] (u.funcs.map Gr.name))
theorem Vt(U:qw):∀(M:qT) (seen:qw),md U seen (M.map eD)=bU seen (M.map Gr.name)
 |[],seen=>rfl
 |g::M,seen=>by
  rw[dZ,md,dZ,bU];show(bu seen g.name||bU U []||md U (seen++[g.name]) (M.map eD))=_;rw[Vt U M];cases bu seen g.name<;>simp[bU]
theorem Vu(u:Un):decide (fx (gK u)=0)=GZ u:=by
 have Y:jD (gK u)=!(decide ((u.aa.length:Int)<=4)&&decide ((u.funcs.length:Int)<=8)&&u.aa.all fun a=>decide (1<=a.len)&&decide (a.len<=16)):=by
  unfold jD;have U:(gK u).aa=u.aa:=rfl;have Z:(gK u).funcs.length=u.funcs.length:=by simp[gK]
  have j:(gK u).funcs.any mc=false:=by
   simp only[gK,zP,uk];intro g _;have:mc (eD g)=false:=by simp[mc,eD,nS,dk,fj,ge,dg,jV]
   simp[this]
  rw[U,Z,j,io,F0,F0];have J:u.aa.any pI=!(u.aa.all fun a=>decide (1<=a.len)&&decide (a.len<=16)):=by
   rw[List.not_all_eq_any_not]
   congr 1
   funext a
   unfold pI;rw[F0]
   congr 1
   .rw[<-Bo,pB];omega
   .rw[<-Bo,pB];omega
  rw[J]
  congr 1
  congr 1
  .rw[<-Bo,pB];omega
  .rw[<-Bo,pB];omega
 have m:iM (gK u)=(u.aa.all (fun a=>ci a.name)&&u.funcs.all fun g=>ci g.name):=by
  unfold iM;show(u.aa.all _&&(u.funcs.map eD).all jY)=_;rw[List.all_map]
  congr 1
  congr 1
  funext g
  simp[jY,rU,eD,fQ,fk,eM,mG,Ex.aw,Ex.aj,Ex.name,Ex.op]
 have M:me (gK u)=(bU [] (u.aa.map Ar.name)||bU [] (u.funcs.map Gr.name)):=by
  unfold me;show(_||md _ [] (u.funcs.map eD))=_;rw[Vt];rfl
 have V:(gK u).funcs.any (jj (gK u))=false:=by
  simp only[gK,zP,uk];intro g _;simp[jj,eD,dq,en,fo,i9,Ex.aw]
 have L:(gK u).funcs.any (li (gK u))=false:=by
  simp only[gK,zP,uk];intro g _;simp[li,eD,dq]
 have O:u.aa.all pV=(u.aa.all (fun a=>ci a.name)&&u.aa.all fun a=>decide (1<=a.len)&&decide (a.len<=16)):=by
  generalize u.aa=i;induction i with
  |nil=>rfl
  |cons a i ih=>
   simp only[oO,ih,pV];cases ci a.name<;>cases (decide (1<=a.len)&&decide (a.len<=16))<;>simp
 unfold fx GZ;rw[Y,m,M,V,L,O];generalize decide ((u.aa.length:Int)<=4)=z;generalize decide ((u.funcs.length:Int)<=8)=C;generalize (u.aa.all fun a=>decide (1<=a.len)&&decide (a.len<=16))=I;generalize u.aa.all (fun a=>ci a.name)=b4;generalize u.funcs.all (fun g=>ci g.name)=b5;generalize bU [] (u.aa.map Ar.name)=b6;generalize bU [] (u.funcs.map Gr.name)=b7;revert z C I b4 b5 b6 b7;decide
def kL:qy->Int->Int
 |[],_=>0
 |n::l,m=>if n.op=31/\n.aF=m then (n.aj.length:Int).tdiv 2 else kL l m
structure zd6 (n:Nd):Prop where
 i0:0<=n.aF
 i1:n.aF<=15
 odd:n.aj.length%2=1
 three:3<=n.aj.length
def zd6.lv{n:Nd}(h:zd6 n):ee n.aj.length=(n.aj.length:Int).tdiv 2/\0<ee n.aj.length:=by
 have:=h.odd;have:=h.three;unfold ee;rw[l9 ac,l9 ac];omega
theorem Lw:∀(l:qy) (t Z:qu),t.length=16->(∀n∈l,n.op=31->zd6 n)->jh l t=some Z->Z.length=16/\∀m:Nat,m<16->Z.getD m 0=if 0<t.getD m 0 then t.getD m 0 else if kL l m=0 then t.getD m 0 else kL l m
 |[],t,Z,hl,_,h=>by
  cases h;refine⟨hl,fun m O=>?_⟩;simp[kL]
 |n::l,t,Z,hl,hok,h=>by
  have J:∀n∈l,n.op=31->zd6 n:=fun x z=>hok x (ev _ z);rw[jh]at h;by_cases c:n.op=31
  .rw[ah c]at h;have U:=hok n ei c;have L:=U.i0;have C:=U.i1;obtain⟨k,j⟩:=gO L;obtain⟨Y,V⟩:=U.lv;split at h
   .cases h
   .rename_i I;obtain⟨i,g⟩:=Lw l _ Z Db J h;refine⟨i,fun m O=>?_⟩;rw[j,fK]at I g;have M:=g m O;rw[cQ (l:=t.set _ _),yG]at M;rw[M,kL];by_cases e:k=m
    .subst e;rw[ah rfl,ah (show k<t.length by omega),af I,ah (show n.op=31/\n.aF=(k:Int)from⟨c,j⟩)];simp only[bz];rw[ah V,<-Y,af ac]
    .rw[af e,af (fun h:n.op=31/\n.aF=(m:Int)=>e (by have:=h.2;omega)),<-cQ]
  .rw[af c]at h;obtain⟨i,g⟩:=Lw l t Z hl J h;refine⟨i,fun m O=>?_⟩;rw[g m O,kL,af (fun h:n.op=31/\n.aF=(m:Int)=>c h.1)]
theorem rep_get(m:Nat):(List.replicate 16 (0:Int)).getD m 0=0:=by
 rw[cQ,y1];split<;>rfl
def pW(l:qy)(n:Nd):Bool:=decide (n.op=3)&&decide (0<kL l (n.aF.tdiv 16))&&decide (kL l (n.aF.tdiv 16)<=n.aF.tmod 16)
def Vv{l:qy}(g:∀n∈l,n.op=31->zd6 n)(h:jh l (List.replicate 16 0)=some t){n:Nd}(I:n.op=3->0<=n.aF/\n.aF<=255):oS t n=pW l n:=by
 obtain⟨_,Y⟩:=Lw l _ t au g h;unfold oS pW;by_cases c:n.op=3
 .obtain⟨a,b⟩:=I c;obtain⟨k,Z⟩:∃k:Nat,n.aF.tdiv 16=k:=gO (JM a ac);have j:k<16:=by rw[l9 a]at Z;omega
  have e:t.getD (n.aF.tdiv 16).toNat 0=kL l (n.aF.tdiv 16):=by
   rw[Z,fK,Y k j,rep_get,af ac];split
   .omega
   .rfl
  rw[e]
 .rw[eA c,em,em,em,em]
def zjy{l:qy}(g:∀n∈l,n.op=31->zd6 n){n:Nd}(O:n∈l)(I:n.op=3->0<=n.aF/\n.aF<=255)(h:pW l n=true):jW l=false:=by
 unfold jW;split
 .rfl
 .rename_i t J;rw[KQ];exact⟨n,O,by rw[Vv g J I,h];simp⟩
theorem zjz{l:qy}(g:∀n∈l,n.op=31->zd6 n)(J:jh l (List.replicate 16 0)=some t)(h:∀n∈l,(n.op=3->0<=n.aF/\n.aF<=255)/\pW l n=false):jW l=true:=by
 unfold jW;rw[J];simp only[gM];intro n I;obtain⟨i,Z⟩:=h n I;rw[Vv g J i,Z];rfl
def zjA{l:qy}(h:jh l (List.replicate 16 0)=none):jW l=false:=by
 unfold jW;rw[h]
theorem Vw:∀(l:qy) (seen:qw),(∀x∈l,NdR x)->bU seen (l.map gS)=false->l.Nodup/\∀x∈l,bu seen (gS x)=false
 |[],seen,_,_=>⟨KY,fun x z=>by simp at z⟩
 |a::l,seen,hr,h=>by
  rw[dZ,bU]at h;have j:bu seen (gS a)=false/\bU (seen++[gS a]) (l.map gS)=false:=by
   cases U:bu seen (gS a)<;>simp_all
  obtain⟨i,g⟩:=Vw l _ (fun x z=>hr x (ev _ z)) j.2;refine⟨Cc.2 ⟨fun O=>?_,i⟩,fun x z=>?_⟩
  .have:=g a O;simp[bu]at this
  .rcases gE.1 z with rfl|z
   .exact j.1
   .have:=g x z;simp only[bu,BF,kU]at this⊢;exact this.1
def zjB{l:qy}(hr:∀x∈l,NdR x):nD l=true->l.Nodup:=fun h=>by
 unfold nD at h;exact(Vw l [] hr jf).1
def mask_zero{l:qy}(g:∀i n,l[i]?=some n->zli n i)(Z:∀j,j<l.length->(fO l l.length).getD j 0<2^16){j:Nat}(Y:j<l.length):eY l j=0↔∀t,t<16->((iF l l.length).getD j []).getD t false=false:=by
 have hb:=fun t=>E6 l.length (aH _) (fun j n _ h=>g j n h) j Y t;have e:eY l j=(fO l l.length).getD j 0:=by rw[eY,fK]
 rw[e];constructor
 .intro h t J;have:=hb t;rw[h,dx J,el,Bp]at this;exact this.symm
 .intro h;apply ER;intro t;rw[hb t,Bp];by_cases J:t<16
  .rw[h t J,pC]
  .rw[eA J,em]
def tyK1.tyF:=ad @cA (ad @ec (@eZ))
open tyK1
noncomputable def Vx:{c:SC // aC 67 (f170.body.getD .skip)=c}:=by
 refine⟨?_,?_⟩;rotate_left
 .simp only[f170,bz,aC,bw,bt,bA,bB,Nat.blt,Nat.ble];rfl
noncomputable def Vy:{c:SC // aC 19 (f200.body.getD .skip)=c}:=by
 refine⟨?_,?_⟩;rotate_left
 .simp only[f200,bz,aC,bw,bt,bA,bB,Nat.blt,Nat.ble];rfl
noncomputable def Vz:{c:SC // aC 29 (f171.body.getD .skip)=c}:=by
 refine⟨?_,?_⟩;rotate_left
 .simp only[f171,bz,aC,bw,bt,bA,bB,Nat.blt,Nat.ble];rfl
noncomputable def VA:{c:SC // aC 7 (f172.body.getD .skip)=c}:=by
 refine⟨?_,?_⟩;rotate_left
 .simp only[f172,bz,aC,bw,bt,bA,bB,Nat.blt,Nat.ble];rfl
noncomputable def VB:{c:SC // aC 15 (f173.body.getD .skip)=c}:=by
 refine⟨?_,?_⟩;rotate_left
 .simp only[f173,bz,aC,bw,bt,bA,bB,Nat.blt,Nat.ble];rfl
def zjC(op:Int):bF prog ρ 170 [.int .i64 op] (gY op):=dE fit (pls:=pls) (l:=[]) trivial (.cons (.int _ _) .nil) (O3 op) (by
 have L:=fh 170;refine a0 (M:=67) (rs:=[.tmp 2,.tmp 3]) (L.call _) L.aG L.az func170 rfl rfl Vx.2 rfl ?_;dsimp only[Vx,aW,Nat.reduceAdd];repeat' (first
  |(apply aj ?_;clear hK K)|apply aO ?_|(apply cD ?_ ?_<;>(intro hg hgp;try(cases hg;done)))|(apply bp ?_ ?_<;>(intro hb hbp;try(cases hb;done)))|(apply ak fun K hK=>?_)|fail)
 all_goals
  refine qc ?_
  unfold gY bC;first
  |(rw[ah ac];done)
  |(rw[af ac,ah ac];done)
  |(rw[af ac,af ac,ah ac];done)
  |(rw[af ac,af ac,af ac,ah ac];done)
  |(rw[af ac,af ac,af ac,af ac,ah ac];done)
  |(rw[af ac,af ac,af ac,af ac,af ac,ah ac];done)
  |(rw[af ac,af ac,af ac,af ac,af ac,af ac];done))
theorem zjD(op:Int):bF prog ρ 200 [.int .i64 op] (.int .i64 (eW op)):=dE fit (pls:=pls) (l:=[]) trivial (.cons (.int _ _) .nil) (.int _ _) (by
 have L:=fh 200;refine a0 (M:=19) (rs:=[.tmp 2]) (L.call _) L.aG L.az func200 rfl rfl Vy.2 rfl ?_;dsimp only[Vy,aW,Nat.reduceAdd];repeat' (first
  |(apply aj ?_;clear hK K)|apply aO ?_|(apply bp ?_ ?_<;>(intro hb hbp;try(cases hb;done)))|(apply ak fun K hK=>?_)|fail)
 all_goals
  refine qc ?_
  simp_all[eW])
noncomputable def G3:En:=⟨200,false,bQ (fun _=>True) (fun n:Int=>[.int .i64 n]) fun n=>.int .i64 (eW n)⟩
def zjE:co prog ρ G3:=cz fun n _=>zjD ρ n
def zjF{l:qB}(J:∀i,cM l 200 i=G3.sp i)(n:Int)(H:Hp):aM prog (ay pls l) 200 [.int .i64 n] H fun v H'=>v=.int .i64 (eW n)/\H'=H:=
 bZ (enc:=fun n:Int=>[.int .i64 n]) (ok:=fun _=>True) (out:=fun n=>.int .i64 (eW n)) EJ (x:=n) (J _) trivial
def yh(x:Int×Int):qt:=[.int .i64 x.1,.int .i64 x.2]
def zjG(x y:Int×Int)(h:yh x=yh y):x=y:=by
 simp only[yh,dN,AV.int.injEq,aN,jy]at h;exact n1 h.1 h.2
theorem zjH(x:Int×Int):bF prog ρ 171 (yh x) (.bool (dX x.1 x.2)):=dE fit (pls:=pls) (l:=[G3]) ⟨zjE ρ,trivial⟩ (.cons (.int _ _) (.cons (.int _ _) .nil)) (.bool _) (by
 obtain⟨V,n⟩:=x;have L:zd0 (ay pls [G3]) 171:=db (fun _=>rfl) rfl;rw[yh];simp only[];refine a0 (M:=29) (rs:=[.tmp 4]) (L.call _) L.aG L.az func171 rfl rfl Vz.2 rfl ?_;dsimp only[Vz,aW,Nat.reduceAdd];repeat' (first
  |(apply aj ?_;clear hK K)|apply aO ?_|(apply ez ?_;first|refine Rx.k (zjF (fun _=>rfl) _ _) ?_)|(apply cD ?_ ?_<;>(intro hg hgp;try(cases hg;done)))|(apply bp ?_ ?_<;>(intro hb hbp;try(cases hb;done)))|(apply ak fun K hK=>?_)|fail)
 all_goals
  refine qc ?_
  unfold dX;first
  |(rw[ah iZ];done)
  |(rw[af iZ,ah iZ];done)
  |(rw[af iZ,af ac]
    have O:¬eW V<0:=ac;first
    |(simp_all;done)
    |(generalize eW V=q at *;simp_all;done)
    |(generalize eW V=q at *;simp_all;omega)))
noncomputable def Ly:En:=⟨171,false,bQ (fun _=>True) yh fun x=>.bool (dX x.1 x.2)⟩
def zjI:co prog ρ Ly:=cz fun n _=>zjH ρ n
def oy{l:qB}(J:∀i,cM l 171 i=Ly.sp i)(a b:Int)(H:Hp):aM prog (ay pls l) 171 [.int .i64 a,.int .i64 b] H fun v H'=>v=.bool (dX a b)/\H'=H:=
 bZ (enc:=yh) (ok:=fun _=>True) (out:=fun x=>.bool (dX x.1 x.2)) zjG (x:=(a,b)) (J _) trivial
def yj(x:Bool×Int):qt:=[.bool x.1,.int .i64 x.2]
def zjJ(x y:Bool×Int)(h:yj x=yj y):x=y:=by
 simp only[yj,dN,AV.int.injEq,AV.bool.injEq,aN,jy]at h;exact n1 h.1 h.2
theorem zjK(x:Bool×Int):bF prog ρ 172 (yj x) (.int .i64 (dF x.1 x.2)):=dE fit (pls:=pls) (l:=[]) trivial (.cons (.bool _) (.cons (.int _ _) .nil)) (.int _ _) (by
 obtain⟨b,n⟩:=x;have L:=fh 172;rw[yj];simp only[];cases b;all_goals
  refine a0 (M:=7) (rs:=[.tmp 4]) (L.call _) L.aG L.az func172 rfl rfl VA.2 rfl ?_;dsimp only[VA,aW,Nat.reduceAdd];repeat' (first
   |(apply aj ?_;clear hK K)|apply aO ?_|(apply bp ?_ ?_<;>(intro hb hbp;try(cases hb;done)))|(apply ak fun K hK=>?_)|fail)
  refine qc ?_
  rfl)
noncomputable def Lz:En:=⟨172,false,bQ (fun _=>True) yj fun x=>.int .i64 (dF x.1 x.2)⟩
def zjL:co prog ρ Lz:=cz fun n _=>zjK ρ n
def pX{l:qB}(J:∀i,cM l 172 i=Lz.sp i)(a:Bool)(b:Int)(H:Hp):aM prog (ay pls l) 172 [.bool a,.int .i64 b] H fun v H'=>v=.int .i64 (dF a b)/\H'=H:=
 bZ (enc:=yj) (ok:=fun _=>True) (out:=fun x=>.int .i64 (dF x.1 x.2)) zjJ (x:=(a,b)) (J _) trivial
def yk(s:qu):qt:=[dJ s]
def zjM(x y:qu)(h:yk x=yk y):x=y:=by
 simp only[yk,dN,aN]at h;exact Bm h
theorem zjN(s:qu)(O:s.length<2^60):bF prog ρ 173 (yk s) (.bool (eB s)):=dE fit (pls:=pls) (l:=[]) trivial (.cons (uu _) .nil) (.bool _) (by
 have L:=fh 173;rw[yk];refine a0 (M:=15) (rs:=[.tmp 2]) (L.call _) L.aG L.az func173 rfl rfl VB.2 rfl ?_;dsimp only[VB,aW,Nat.reduceAdd];refine iX ?_;refine bY [0] [] 3 s.length (fun i E H=>eB s=eB (s.drop i)) eE au ?_;rintro i E J I Y m z C V;(try simp only[bq,aT,aN,aG,aR,Nat.reduceBEq, *]at Y);(try simp only[aT, *]at m);(try simp only[bX,]at z);repeat' (first
  |(apply aj ?_;clear hK K)|apply aO ?_|(apply bp ?_ ?_<;>(intro hb hbp;try(cases hb;done)))|(apply ak fun K hK=>?_)|fail)
 .have j:i<s.length:=by simpa using hb
  have U:s[i]?=some s[i]:=aL j;have Z:eB (s.drop i)=(decide (s[i]=1)&&eB (s.drop (i+1))):=ng;refine nM (fun hb hbp=>?_) (fun hb hbp=>?_)
  .all_goals refine qq ?_
   rw[V,Z];(try simp only[lH]at *);simp only[*,em,]
  .refine⟨ac,aK,aK,bG,yY,?_⟩;rw[V,Z];(try simp only[i8]at *);simp only[*,el,]
 .refine lQ ?_;all_goals refine qq ?_
  rw[V,show i=s.length by simp at hb;omega,gH];rfl)
noncomputable def LA:En:=⟨173,false,bQ (fun s=>s.length<2^60) yk fun s=>.bool (eB s)⟩
def zjO:co prog ρ LA:=cz fun n h=>zjN ρ n h
def G4{l:qB}(J:∀i,cM l 173 i=LA.sp i)(s:qu)(M:s.length<2^60)(H:Hp):aM prog (ay pls l) 173 [dJ s] H fun v H'=>v=.bool (eB s)/\H'=H:=
 bZ (enc:=yk) (ok:=fun s=>s.length<2^60) (out:=fun s=>.bool (eB s)) zjM (x:=s) (J _) M
noncomputable def LB:En:=⟨170,false,bQ (fun _=>True) (fun n:Int=>[.int .i64 n]) gY⟩
def zjP:co prog ρ LB:=cz fun n _=>zjC ρ n
def mJ{l:qB}(J:∀i,cM l 170 i=LB.sp i)(n:Int)(H:Hp):aM prog (ay pls l) 170 [.int .i64 n] H fun v H'=>v=gY n/\H'=H:=
 bZ (enc:=fun n:Int=>[.int .i64 n]) (ok:=fun _=>True) (out:=gY) EJ (x:=n) (J _) trivial
end
section
def tyK2a.tyF:=ad @ec (ad @cA (ad @eZ (ad @fX (ad @jB (ad @rO (ad @rQ (@oH)))))))
open tyK2a
noncomputable def gw:{c:SC // aC 221 (f130.body.getD .skip)=c}:=by
 refine⟨?_,?_⟩;rotate_left
 .simp only[f130,bz,aC,bw,bt,bA,bB,Nat.blt,Nat.ble];rfl
structure NsX where
 l:qy
 n:Nd
 k:qu
def wy(x:NsX):qt:=[dR x.l,.agg x.n.cells,dJ x.k]
def zjQ(x y:NsX)(h:wy x=wy y):x=y:=by
 obtain⟨a,b,c⟩:=x;obtain⟨Z,U,Y⟩:=y;simp only[wy,dN,AV.agg.injEq,aN]at h;rw[Bq h.1,uw h.2.1,Bm h.2.2]
def Ct(x:NsX):Prop:=x.k.length=x.n.aj.length/\x.k.length<2^30/\(x.n.op=25->x.n.aj.length=1->∃(k:Nat) (m:Nd),x.n.aj=[(k:Int)]/\x.l[k]?=some m/\m.aj.length<2^30)
noncomputable def wz:qB:=[LB,Ly,Lz,LA]
def zjR:eU prog ρ wz:=⟨zjP ρ,zjI ρ,zjL ρ,zjO ρ,trivial⟩
def zjS{l:qy}{n:Nd}{k:qu}(h:(bC n.op).2=false):cr l n k=0:=by rw[cr,ah h]
def zjT{l:qy}{n:Nd}{k:qu}(h:(bC n.op).2=true)(h2:0<=(bC n.op).1)(m:(n.aj.length:Int)≠(bC n.op).1):cr l n k=0:=by rw[cr,af (by rw[h];simp),ah ⟨h2,m⟩]
def zjU{l:qy}{n:Nd}{k:qu}(h:dX n.op n.aF=false):cr l n k=0:=by
 rw[cr];by_cases c1:(bC n.op).2=false
 .rw[ah c1]
 .rw[af c1];by_cases I:0<=(bC n.op).1/\(n.aj.length:Int)≠(bC n.op).1
  .rw[ah I]
  .rw[af I,ah h]
def zjV{l:qy}{n:Nd}{k:qu}(h:(bC n.op).2=true)(h2:¬(0<=(bC n.op).1/\(n.aj.length:Int)≠(bC n.op).1))(m:dX n.op n.aF=true):cr l n k =
 if n.op=3 then (if n.aF.tmod 16=0 then 2 else 1)
 else if n.op=26 then 2
 else if n.op=22 then (if k.headD 0≠1\/k.getD 1 0≠k.getD 2 0\/k.getD 1 0=3 then 0 else k.getD 1 0)
 else if n.op=23 then dF (decide (k.headD 0=2)&&decide (k.getD 1 0=1)) 1
 else if n.op=24 then dF (decide (k.headD 0=2)) 1
 else if n.op=25 then (if k.headD 0≠3\/(nu l (n.aj.headD 0)).tdiv 2<=n.aF then 0 else dF (decide (n.aF=0)) 1+1)
 else if n.op=27\/n.op=29 then dF (decide (k.headD 0=2)&&decide (k.getD 1 0=1)) 2
 else if n.op=28 then dF (decide (k.headD 0=2)&&decide (k.getD 1 0=1)&&decide (k.getD 2 0=1)) 2
 else if n.op=30 then dF (decide (1<=k.length)&&decide (k.length<=7)&&decide (k.headD 0=2)&&eB (k.drop 1)) 2
 else if n.op=31 then dF (decide (k.length%2=1)&&decide (1<=k.length/2)&&decide (k.length/2<=16)&&decide (k.headD 0=2)&&eB ((k.drop 1).take (k.length/2))&&decide (k.getD (k.length/2+1) 0=2)&&eB (k.drop (k.length/2+2))) 3
 else dF (eB k) 1:=by
 rw[cr,af (by rw[h];simp),af h2,af (by rw[m];simp)]
theorem zjW{l:qy}{imm:Int}{kids k:qu}(I:k.length=kids.length)(O:k.length<2^30)(V:dX 30 imm=true)(Z:cr l ⟨30,imm,kids⟩ k=dF (decide (1<=k.length)&&decide (k.length<=7)&&decide (k.headD 0=2)&&eB (k.drop 1)) 2):
 aM prog (ay pls wz) 130 [dR l,.agg [.int .i64 30,.int .i64 imm,dJ kids],dJ k] bM fun v _=>v=.int .i64 (cr l ⟨30,imm,kids⟩ k):=by
 have L:zd0 (ay pls wz) 130:=db (fun _=>rfl) rfl;have Y:(2:Int)≠0:=aE;have z:gY 30=.aX [.int .i64 (-1),.bool true]:=rfl;clear I;cases k with
 |nil=>
  have U:cr l ⟨30,imm,kids⟩ []=dF false 2:=r8;refine a0 (M:=221) (rs:=[.tmp 6]) (L.call _) L.aG L.az func130 rfl rfl gw.2 rfl ?_;dsimp only[gw,aW,Nat.reduceAdd];repeat' (first
   |(apply aj ?_;clear hK K)|apply aQ ?_|(apply ch ?_;first|refine Rx.k (mJ (fun _=>rfl) _ _) ?_|refine Rx.k (oy (fun _=>rfl) _ _ _) ?_|refine Rx.k (pX (fun _=>rfl) _ _ _) ?_)|(apply bT ?_ ?_<;>(intro hg hgp;try(cases hg;done)))|(apply aV ?_ ?_<;>(intro hb hbp;try(cases hb;done)))|(apply ak fun K hK=>?_)|fail)
  all_goals first
   |exact bN
   |((refine qc ?_);rw[U];done)
 |cons a k=>
  have J:=fun a=>Pg a k;simp only[eF]at O;have i:k.length<2^60:=ac;have U:cr l ⟨30,imm,kids⟩ (a::k)=dF (decide (((k.length+1:Nat):Int)<=7)&&decide (a=2)&&eB k) 2:=by
   have C:decide (((k.length+1:Nat):Int)<=7)=decide (k.length+1<=7):=pB.2 ac;rw[Z,C];simp
  have j:(1:Int)<=((k.length+1:Nat):Int):=ac;refine a0 (M:=221) (rs:=[.tmp 6]) (L.call _) L.aG L.az func130 rfl rfl gw.2 rfl ?_;dsimp only[gw,aW,Nat.reduceAdd];repeat' (first
   |(apply aj ?_;clear hK K)|apply aQ ?_|(apply ch ?_;first|refine Rx.k (mJ (fun _=>rfl) _ _) ?_|refine Rx.k (oy (fun _=>rfl) _ _ _) ?_|refine Rx.k (G4 (fun _=>rfl) _ i _) ?_|refine Rx.k (pX (fun _=>rfl) _ _ _) ?_)|(apply bT ?_ ?_<;>(intro hg hgp;try(cases hg;done)))|(apply aV ?_ ?_<;>(intro hb hbp;try(cases hb;done)))|(apply ak fun K hK=>?_)|fail)
  all_goals first
   |exact bN
   |((refine qc ?_);rw[U];(try simp only[dH]at *);simp only[ *,i4,gD,pG,];done)
theorem zjX{l:qy}{imm:Int}{kids k:qu}(I:k.length=kids.length)(J:k.length<2^30)(Y:kids.length=1->∃(k:Nat) (m:Nd),kids=[(k:Int)]/\l[k]?=some m/\m.aj.length<2^30)(h1:k.length=1)(C:dX 25 imm=true)(V:cr l ⟨25,imm,kids⟩ k=(if k.headD 0≠3\/(nu l (kids.headD 0)).tdiv 2<=imm then 0 else dF (decide (imm=0)) 1+1)):
 aM prog (ay pls wz) 130 [dR l,.agg [.int .i64 25,.int .i64 imm,dJ kids],dJ k] bM fun v _=>v=.int .i64 (cr l ⟨25,imm,kids⟩ k):=by
 have L:zd0 (ay pls wz) 130:=db (fun _=>rfl) rfl;have g:(2:Int)≠0:=aE;obtain⟨a,rfl⟩:=rL h1;have O:kids.length=1:=by rw[<-I];exact h1
 obtain⟨i,m,rfl,z,j⟩:=Y O;have hv:gY 25=.aX [.int .i64 1,.bool true]:=rfl;have Z:nu l (i:Int)=m.aj.length:=by rw[nu,fK,z]
 have U:cr l ⟨25,imm,[(i:Int)]⟩ [a]=if a≠3\/(m.aj.length:Int).tdiv 2<=imm then 0 else dF (decide (imm=0)) 1+1:=by rw[V];simp[Z]
 have e1:IntKind.wrap .i64 ((m.aj.length:Int).tdiv 2)=(m.aj.length:Int).tdiv 2:=by
  rw[l9 ac];exact eX ac ac
 have hgk:([(i:Int)]:qu)[0]?=some (i:Int):=rfl;have e2:IntKind.wrap .i64 (dF (decide (imm=0)) 1+1)=dF (decide (imm=0)) 1+1:=by
  unfold dF;split<;>rfl
 refine a0 (M:=221) (rs:=[.tmp 6]) (L.call _) L.aG L.az func130 rfl rfl gw.2 rfl ?_;dsimp only[gw,aW,Nat.reduceAdd];repeat' (first
  |(apply aj ?_;clear hK K)|apply aQ ?_|(apply ch ?_;first|refine Rx.k (mJ (fun _=>rfl) _ _) ?_|refine Rx.k (oy (fun _=>rfl) _ _ _) ?_|refine Rx.k (pX (fun _=>rfl) _ _ _) ?_)|(apply bT ?_ ?_<;>(intro hg hgp;try(cases hg;done)))|(apply aV ?_ ?_<;>(intro hb hbp;try(cases hb;done)))|(apply ak fun K hK=>?_)|(apply da 20 [(2,19),(6,19),(9,19),(11,19),(14,19),(15,19)] fun K hK=>?_)|(apply ce ?_;try intro _)|(apply di ?_ ?_<;>clear hK K)|(apply rD ?_ ?_<;>(intro hg hgp;try(cases hg;done)))|fail)
 clear I Z V Y;all_goals first
  |exact bN
  |((refine qc ?_);rw[U,ah GQ];done)
  |((refine qc ?_);rw[U,af GQ];done)
end
section
def tyK2b.tyF:=ad @ec (ad @cA (ad @eZ (ad @fX (ad @jB (ad @rO (ad @rQ (ad @th (@oH))))))))
open tyK2b
theorem zjY(s:qu){b:Nat}(h1:a<=b)(h2:b<=s.length):gU prog 26 (.aE (s.map fun n=>[AV.int .i64 n])) (some (.int .i64 (a:Int))) (some (.int .i64 (b:Int)))=some (.aE (((s.drop a).take (b-a)).map fun n=>[AV.int .i64 n])):=by
 have Y:(a:Int)=Int.ofNat a:=rfl;have m:(b:Int)=Int.ofNat b:=rfl;simp only[gU,underlying26,jg,ig];rw[ah ⟨h1,by rw[cN];exact h2⟩,<-Ll,<-Dh];cases (s.drop a).take (b-a)with
 |nil=>rfl
 |cons x l=>rfl
theorem zjZ(s:qu)(h1:a<=s.length):gU prog 26 (.aE (s.map fun n=>[AV.int .i64 n])) (some (.int .i64 (a:Int))) none=some (.aE ((s.drop a).map fun n=>[AV.int .i64 n])):=by
 have Y:(a:Int)=Int.ofNat a:=rfl;simp only[gU,underlying26,jg,ig];rw[ah ⟨by rw[cN];exact h1,aH _⟩,fI au,<-Ll];cases s.drop a with
 |nil=>rfl
 |cons x l=>rfl
theorem zj0{l:qy}{imm:Int}{kids k:qu}(j:k.length<2^30)(him:dX 31 imm=true)(Z:cr l ⟨31,imm,kids⟩ k=dF (decide (k.length%2=1)&&decide (1<=k.length/2)&&decide (k.length/2<=16)&&decide (k.headD 0=2)&&eB ((k.drop 1).take (k.length/2))&&decide (k.getD (k.length/2+1) 0=2)&&eB (k.drop (k.length/2+2))) 3):
 aM prog (ay pls wz) 130 [dR l,.agg [.int .i64 31,.int .i64 imm,dJ kids],dJ k] bM fun v _=>v=.int .i64 (cr l ⟨31,imm,kids⟩ k):=by
 have L:zd0 (ay pls wz) 130:=db (fun _=>rfl) rfl;have hq2:(2:Int)≠0:=aE;have hv:gY 31=.aX [.int .i64 (-1),.bool true]:=rfl;have e1:IntKind.wrap .i64 ((k.length:Int).tdiv 2)=((k.length/2:Nat):Int):=by
  rw[l9 ac,eX ac ac];omega
 have O:(k.length:Int).tmod 2=((k.length%2:Nat):Int):=EM;by_cases hc:k.length%2=1/\1<=k.length/2/\k.length/2<=16
 .obtain⟨h1,g,V⟩:=hc;have e3:IntKind.wrap .i64 (((k.length/2:Nat):Int)+1)=((k.length/2+1:Nat):Int):=eX ac ac;have e4:IntKind.wrap .i64 (((k.length/2:Nat):Int)+2)=((k.length/2+2:Nat):Int):=eX ac ac;obtain⟨x,hx⟩:∃x,k[0]?=some x:=⟨_,aL ac⟩;obtain⟨y,hy⟩:∃y,k[k.length/2+1]?=some y:=⟨_,aL ac⟩;have J:k.headD 0=x:=by rw[List.headD_eq_head?_getD,List.head?_eq_getElem?,hx];rfl
  have i:k.getD (k.length/2+1) 0=y:=by rw[cQ,hy];rfl
  have z:=zjY k (a:=1) (b:=k.length/2+1) ac ac;have hs2:=zjZ k (a:=k.length/2+2) ac;have Y:((k.drop 1).take (k.length/2+1-1)).length<2^60:=td;have C:(k.drop (k.length/2+2)).length<2^60:=AH;have U:cr l ⟨31,imm,kids⟩ k=dF (decide (x=2)&&eB ((k.drop 1).take (k.length/2+1-1))&&decide (y=2)&&eB (k.drop (k.length/2+2))) 3:=by
   rw[Z,J,i,dx h1,dx g,dx V,Nat.add_sub_cancel];rfl
  clear Z J i;have e5:(k.length:Int).tmod 2=1:=oC;have h2':(1:Int)<=((k.length/2:Nat):Int):=ac;have h3':((k.length/2:Nat):Int)<=16:=ac;have I:gU prog 26 (.aE (k.map fun n=>[AV.int .i64 n])) (some (.int .i64 1)) (some (.int .i64 ((k.length/2+1:Nat):Int)))=some (.aE (((k.drop 1).take (k.length/2+1-1)).map fun n=>[AV.int .i64 n])):=z;clear z O g V;generalize (k.drop 1).take (k.length/2+1-1)=p at *;generalize k.drop (k.length/2+2)=q at *;generalize k.length/2+1=u at *;generalize k.length/2+2=w at *;generalize k.length/2=m at *;refine a0 (M:=221) (rs:=[.tmp 6]) (L.call _) L.aG L.az func130 rfl rfl gw.2 rfl ?_;dsimp only[gw,aW,Nat.reduceAdd];repeat' (first
   |(apply aj ?_;clear hK K)|apply aQ ?_|(apply ch ?_;first|refine Rx.k (mJ (fun _=>rfl) _ _) ?_|refine Rx.k (oy (fun _=>rfl) _ _ _) ?_|refine Rx.k (G4 (fun _=>rfl) _ Y _) ?_|refine Rx.k (G4 (fun _=>rfl) _ C _) ?_|refine Rx.k (pX (fun _=>rfl) _ _ _) ?_)|(apply bT ?_ ?_<;>(intro hg hgp;try(cases hg;done)))|(apply aV ?_ ?_<;>(intro hb hbp;try(cases hb;done)))|(apply ak fun K hK=>?_)|fail)
  all_goals first
   |exact bN
   |((refine qc ?_);rw[U];(try simp only[dH]at *);simp only[ *,i4,gD,pG,];done)
 .have U:cr l ⟨31,imm,kids⟩ k=dF false 3:=by
   have hf:(decide (k.length%2=1)&&decide (1<=k.length/2)&&decide (k.length/2<=16))=false:=by
    rw[vH,vH,kB,kB,kB];omega
   rw[Z,hf];rfl
  clear Z;generalize k.length/2=m at *;generalize k.length%2=r at *;refine a0 (M:=221) (rs:=[.tmp 6]) (L.call _) L.aG L.az func130 rfl rfl gw.2 rfl ?_;dsimp only[gw,aW,Nat.reduceAdd];repeat' (first
   |(apply aj ?_;clear hK K)|apply aQ ?_|(apply ch ?_;first|refine Rx.k (mJ (fun _=>rfl) _ _) ?_|refine Rx.k (oy (fun _=>rfl) _ _ _) ?_|refine Rx.k (pX (fun _=>rfl) _ _ _) ?_)|(apply bT ?_ ?_<;>(intro hg hgp;try(cases hg;done)))|(apply aV ?_ ?_<;>(intro hb hbp;try(cases hb;done)))|(apply ak fun K hK=>?_)|fail)
  all_goals first
   |exact bN
   |((refine qc ?_);rw[U];done)
   |(exfalso;omega)
end
end Go.Proofs.YtbflaciihaijgaaGreat
