/- Lemmas for the last file. -/
import Derived.Test.YtbflaciihaijgaaPEI
set_option linter.all false
set_option maxHeartbeats 32000000
namespace Go.Ab
set_option maxRecDepth 20000
open Go
variable{qd:Prop}
def gS(h:qd:=by first|rfl|trivial):=h
def Dp(h:qd:=by rw[Hp.get_set,if_pos rfl];rfl):=h
def NE(h:qd:=by rw[List.drop_zero,List.length_take];omega):=h
def NF(h:qd:=by rw[List.flatten_append,List.length_append];omega):=h
def Dq(h:qd:=by unfold uz;(repeat' split)<;>omega):=h
def uo(h:qd:=by rw[Hp.get_set,if_neg j]):=h
def Hy(h:qd:=by have:=h.nS k j;omega):=h
def HA(h:qd:=by have:=h.sS k j;omega):=h
def NG(h:qd:=by simp only[aF,Nat.reduceBEq, *];exact gQ (n:=Y.length) ac ac):=h
def zX(h:qd:=by rw[Hp.get_set,if_pos ea]):=h
def NH(h:qd:=by rw[<- Z,aQ,if_neg ip,Hp.get_set,if_neg ac,aQ,if_neg ac]):=h
def HC:=@List.any_append
def wa:=@List.mem_singleton
def zY:=@Go.IntKind.wrap_u8
def NI:=@Int.fdiv_eq_ediv_of_nonneg
def zZ:=@Go.IntKind.wrap_u64
def uq:=@List.prefix_refl
def wc:=@Int.tmod_lt_of_pos
def ur:=@List.length_pos_iff
def z5:=@Nat.lt_of_le_of_lt
def iA:=And.intro @iS.{0,0} @aJ.{0}
end Go.Ab
namespace Go.Proofs.Ytbflaciihaijgaa
set_option maxRecDepth 20000
open Go Go.Ab Proofs.Try
variable(ρ:Nat->Int)
variable{H H':Hp}{x:Int}{i a:List qs}{J:Type}{S S' o:Nat->Prop}{w cs:qs}{z c q M k:Nat}{L:qu}{cfg:Cfg}{P:Program}{t e:TypeId}{Y O:AV}
section
def fX(p:Pr):qt:=p.funcs.map (·.name)
def pD(p:Pr):Bool:=cG [] (bG p)||cG [] (fX p)||p.funcs.any fun f=>cG [] (bG p++(f.params++f.aj))
theorem NJ:∀(a b seen:qt),cG seen (a++b)=(cG seen a||cG (seen++a) b)
 |[],b,seen=>by simp[cG]
 |x::a,b,seen=>by rw[sE,cG,cG,NJ a b,lT,Fh,Gn]
theorem NK(U:qt):∀(M:qN) (seen:qt),nN U seen M=(cG seen (M.map (·.name))||M.any fun f=>cG U (f.params++f.aj))
 |[],seen=>rfl
 |f::M,seen=>by
  rw[nN,dS,cG,pp,NK U M];cases bJ seen f.name<;>cases cG U (f.params++f.aj)<;>cases cG (seen++[f.name]) (M.map (·.name))<;>rfl
def NL(p:Pr):pD p=mh p:=by
 rw[pD,mh,NK];cases h:cG [] (bG p)
 .have e:(fun f:Fu=>cG [] (bG p++(f.params++f.aj)))=fun f=>cG (bG p) (f.params++f.aj):=by
   funext f;rw[NJ,h];rfl
  rw[e];rfl
 .rfl
def fY:qN->List (cc×Int)->List (cc×Int)
 |[],m=>m
 |f::l,m=>fY l (setV m f.name f.params.length)
theorem HD(s a:cc)(x:Int):∀m:List (cc×Int),hY (setV m a x) s=if s=a then x else hY m s
 |[]=>by simp[setV,hY]
 |q::l=>by
  by_cases h:a=q.1
  .simp only[setV,h,bC,hY];split<;>rfl
  .simp only[setV,h,bH,hY,HD s a x l];by_cases g:s=q.1
   .rw[ay g,ay g,af (fun e=>h (by rw[<-e,g]))]
   .rw[af g,af g]
theorem NM(s a:cc)(x:Int):∀m:List (cc×Int),ji (setV m a x) s=(decide (s=a)||ji m s)
 |[]=>by
  by_cases h:s=a<;>simp[setV,ji,h]
 |q::l=>by
  by_cases h:a=q.1
  .by_cases g:s=q.1<;>simp[setV,ji,h,g]
  .have e:=NM s a x l;by_cases g:s=q.1
   .simp[setV,ji,h,g]
   .simp[setV,ji,h,g,e]
def sU(a b:qt)(s:qw):bJ (a++b) s=(bJ a s||bJ b s):=by unfold bJ;rw[HC]
def wd(a s:qw):bJ [a] s=decide (s=a):=by
 unfold bJ;simp only[pp,xA,pe];by_cases h:s=a
 .simp[h]
 .have:¬a=s:=fun e=>h e.symm;simp[h,this]
theorem NN(s:cc):∀(l:qN) (m:List (cc×Int)),ji (fY l m) s=(ji m s||bJ (l.map (·.name)) s)
 |[],m=>by simp[fY,bJ]
 |f::l,m=>by
  rw[fY,NN s l,NM,dS,show f.name::l.map (·.name)=[f.name]++l.map (·.name)from rfl,sU,wd];cases decide (s=f.name)<;>cases ji m s<;>simp
theorem NO(s:cc):∀(l:qN) (m:List (cc×Int)),bJ (l.map (·.name)) s=false->hY (fY l m) s=hY m s
 |[],m,_=>rfl
 |f::l,m,h=>by
  rw[dS,show f.name::l.map (·.name)=[f.name]++l.map (·.name)from rfl,sU,wd,kS,lH]at h;rw[fY,NO s l _ h.2,HD,af h.1]
theorem NP:∀(l seen:qt),cG seen l=false->∀s,bJ seen s=true->bJ l s=false
 |[],_,_,_,_=>rfl
 |a::l,seen,h,s,hs=>by
  rw[cG,kS]at h;rw[show a::l=[a]++l from rfl,sU,wd,NP l _ h.2 s (by rw[sU,hs];rfl),pe,lH];intro e;rw[<-e]at h;rw[hs]at h;simp at h
theorem NQ:∀(l:qN) (s:qw) (i:Int),0<=i->(bJ (l.map (·.name)) s=decide (0<=dc l s i))
 |[],s,i,_=>by simp[bJ,dc]
 |f::l,s,i,hi=>by
  rw[dS,show f.name::l.map (·.name)=[f.name]++l.map (·.name)from rfl,sU,wd,dc];by_cases h:f.name=s
  .rw[ay h,io h.symm,xi];simpa using hi
  .rw[af h,iy (fun e=>h e.symm),lZ,NQ l s (i+1) ac]
theorem NR(p:Pr)(s:cc):∀(l:qN) (seen:qt) (m:List (cc×Int)) (i:Nat),p.funcs.drop i=l->cG seen (l.map (·.name))=false->0<=dc l s i ->
 ∃f,p.funcs[(dc l s i).toNat]?=some f/\hY (fY l m) s=f.params.length
 |[],_,_,i,_,_,h=>by simp[dc]at h
 |f::l,seen,m,i,hd,hn,h=>by
  have z:i<p.funcs.length:=by
   have:=jH List.length hd;simp at this;omega
  rw[eU z,dR]at hd;rw[dS,cG,kS]at hn;rw[dc]at h⊢;by_cases e:f.name=s
  .rw[ay e];refine⟨f,?_,?_⟩
   .rw[iK,a0 z,hd.1]
   .have Z:bJ (l.map (·.name)) s=false:=NP _ _ hn.2 s (by rw[sU,wd,io e.symm,Gs]);rw[fY,NO s l _ Z,HD,ay e.symm]
  .rw[af e]at h⊢;exact NR p s l (seen++[f.name]) _ (i+1) hd.2 hn.2 h
theorem za2(p:Pr)(s:cc):ji (fY p.funcs []) s=decide (0<=dc p.funcs s 0):=by
 rw[NN,NQ _ _ 0 ac];rfl
theorem za3{p:Pr}(hd:cG [] (fX p)=false){s:cc}(h:0<=dc p.funcs s 0):hY (fY p.funcs []) s=oD p s:=by
 obtain⟨f,i,g⟩:=NR p s p.funcs [] [] 0 rfl hd h;have C:p.funcs[(dc p.funcs s 0).toNat]?=some f:=i;rw[g,oD,C];rfl
def nO(m:List (cc×Int))(vs U:qt)(x:St)(_:Int)(w:Bool):Bool×Bool:=
 if x.am=1 then (bJ vs x.name,w)
 else if x.am=2 then (bJ U x.name,w)
 else if x.am=6 then (ji m x.to&&bJ vs x.name,w||(ji m x.to && !decide (hY m x.to=(x.args.length:Int))))
 else (true,w)
def sV(m:List (cc×Int))(U:qt):qN->Bool->Int
 |[],w=>if w=true then 5 else 0
 |f::fs,w=>if pm (fun x _=>iz (f.params++f.aj) U x) f=true/\(eV (nO m (f.params++f.aj) U) f.body 0 w).1=true then sV m U fs (eV (nO m (f.params++f.aj) U) f.body 0 w).2 else 3
def wh(p:Pr):Int:=sV (fY p.funcs []) (bG p) p.funcs false
def HE(p:Pr):Int:=if lI p=false then 6 else if iq p=false then 2 else if pD p=true then 4 else wh p
mutual
theorem HF(vs U:qt):∀(x:Ex) (d:Int),mI (fun x _=>iz vs U x) x d=dO vs U x
 | .mk k n s o L,d=>by rw[mI,dO,HG vs U L,Bool.and_comm]
theorem HG(vs U:qt):∀(l:qG) (d:Int),jb (fun x _=>iz vs U x) l d=eL vs U l
 |[],_=>rfl
 |x::l,d=>by rw[jb,eL,HF vs U x,HG vs U l]
end
section
variable (c:Sc)
mutual
def wi:St->Bool
 | .mk _ _ _ _ a v C L M=>dO c.vars c.an a&&dO c.vars c.an v&&eL c.vars c.an C&&oF L&&oF M
def oF:qD->Bool
 |[]=>true
 |x::l=>wi x&&oF l
end
mutual
def ut:St->Bool
 | .mk k o z n a v C L M=>jw c (.mk k o z n a v C L M)&&li L&&li M
def li:qD->Bool
 |[]=>true
 |x::l=>ut x&&li l
end
mutual
theorem za4:∀(x:St) (d:Int),kX (pj fun x _=>iz c.vars c.an x) x d ()=(wi c x,())
 | .mk k o z n a v C L M,d=>by
   rw[kX,pj,wi];simp only[St.aW,St.value,St.args,HF,HG];cases h:dO c.vars c.an a&&dO c.vars c.an v&&eL c.vars c.an C
   .simp
   .simp only[Dr L,fT];cases g:oF c L
    .simp
    .simp only[Dr M,fT]
theorem Dr:∀(l:qD) (d:Int),eV (pj fun x _=>iz c.vars c.an x) l d ()=(oF c l,())
 |[],_=>rfl
 |x::l,d=>by
  rw[eV,za4 x,oF];cases h:wi c x
  .simp
  .simp only[Dr l,fT]
end
mutual
theorem za5:∀x:St,fQ c false x=(wi c x&&ut c x)
 | .mk k o z n a v C L M=>by
   rw[fQ,wi,ut,Ds L,Ds M,sy,jx];simp only[St.aW,St.value,St.args];cases dO c.vars c.an a<;>cases dO c.vars c.an v<;>cases eL c.vars c.an C<;>cases jw c (.mk k o z n a v C L M)<;>cases oF c L<;>cases li c L<;>cases oF c M<;>cases li c M<;>rfl
theorem Ds:∀l:qD,de c false l=(oF c l&&li c l)
 |[]=>rfl
 |x::l=>by
  rw[de,oF,li,za5 x,Ds l];cases wi c x<;>cases ut c x<;>cases oF c l<;>cases li c l<;>rfl
end
end
def za6{p:Pr}(hd:cG [] (fX p)=false)(c:Sc)(V:c.p=p)(x:St)(d:Int)(w:Bool):
 (jw c x=true->nO (fY p.funcs []) c.vars c.an x d w=(true,w || !kE p x))/\(jw c x=false->(nO (fY p.funcs []) c.vars c.an x d w).1=false):=by
 unfold nO jw kE;rw[V];by_cases i:x.am=1
 .have K:¬x.am=6:=by omega
  simp only[i,bC,Int.reduceEq,j7,jS,oh,rB,pe];exact⟨fun h=>by rw[h],fun h=>h⟩
 .by_cases K:x.am=6
  .simp only[K,Int.reduceEq,bH,bC,oV,fT,Bool.not_not,za2];cases h:decide (0<=dc p.funcs x.to 0)
   .simp
   .rw[za3 hd (sR h),kW,fT,fT];refine⟨fun h=>?_,fun h=>h⟩;rw[h];have e:decide ((oD p x.to:Int)=(x.args.length:Int))=decide ((x.args.length:Int)=(oD p x.to:Int)):=by
     by_cases q:(oD p x.to:Int)=(x.args.length:Int)
     .rw[io q,io q.symm]
     .rw[iy q,iy (fun e=>q e.symm)]
    rw[e]
  .by_cases g:x.am=2
   .simp only[g,Int.reduceEq,bH,bC,j7,jS,oh,rB,pe];exact⟨fun h=>by rw[h],fun h=>h⟩
   .simp only[i,g,K,bH,j7,jS,oh,rB,pe];exact⟨fun _=>az,fun h=>lY⟩
section
variable {p:Pr} (hd:cG [] (fX p)=false) (c:Sc) (hc:c.p=p)
include hd hc
mutual
theorem za7:∀(x:St) (d:Int) (w:Bool),(ut c x=true->kX (nO (fY p.funcs []) c.vars c.an) x d w=(true,w || !fQ c true x))/\(ut c x=false->(kX (nO (fY p.funcs []) c.vars c.an) x d w).1=false)
 | .mk k o z n a v C L M,d,w=>by
   have O:=za6 hd c hc (.mk k o z n a v C L M) d w;rw[kX,ut,fQ,jg,hc];cases Y:jw c (.mk k o z n a v C L M)
   .have:=O.2 Y;generalize nO _ _ _ _ _ _=r at this⊢;obtain⟨b,s⟩:=r;simp only at this;subst this;simp
   .rw[O.1 Y];simp only[fT];have i:=Dt L (cC (d+1)) (w || !kE p (.mk k o z n a v C L M));cases Z:li c L
    .have:=i.2 Z;generalize eV _ L _ _=r at this⊢;obtain⟨b,s⟩:=r;simp only at this;subst this;simp
    .rw[i.1 Z];simp only[fT];have g:=Dt M (cC (d+1)) ((w || !kE p (.mk k o z n a v C L M)) || !de c true L);cases J:li c M
     .exact⟨fun h=>lY,fun _=>g.2 J⟩
     .refine⟨fun _=>?_,fun h=>lY⟩;rw[g.1 J]
      congr 1
      cases w<;>cases kE p (.mk k o z n a v C L M)<;>cases de c true L<;>cases de c true M<;>rfl
theorem Dt:∀(l:qD) (d:Int) (w:Bool),(li c l=true->eV (nO (fY p.funcs []) c.vars c.an) l d w=(true,w || !de c true l))/\(li c l=false->(eV (nO (fY p.funcs []) c.vars c.an) l d w).1=false)
 |[],d,w=>by
  rw[eV,li,de];exact⟨fun _=>az,fun h=>lY⟩
 |x::l,d,w=>by
  have O:=za7 x d w;rw[eV,li,de];cases Y:ut c x
  .have:=O.2 Y;generalize kX _ x _ _=r at this⊢;obtain⟨b,s⟩:=r;simp only at this;subst this;simp
  .rw[O.1 Y];simp only[fT];have g:=Dt l d (w || !fQ c true x);cases J:li c l
   .exact⟨fun h=>lY,fun _=>g.2 J⟩
   .refine⟨fun _=>?_,fun h=>lY⟩;rw[g.1 J]
    congr 1
    cases w<;>cases fQ c true x<;>cases de c true l<;>rfl
end
end
theorem NS{p:Pr}(hd:cG [] (fX p)=false):∀(l:qN) (w:Bool),sV (fY p.funcs []) (bG p) l w=if l.any (jh p)=true then 3 else if (w||l.any (lh p))=true then 5 else 0
 |[],w=>by simp[sV]
 |f::fs,w=>by
  have j:=Dt hd (fV p f) rfl f.body 0 w;have V:(fV p f).vars=f.params++f.aj:=rfl;have Z:(fV p f).an=bG p:=rfl;rw[V,Z]at j;have Y:pm (fun x _=>iz (f.params++f.aj) (bG p) x) f=(dO (f.params++f.aj) (bG p) f.value&&oF (fV p f) f.body):=by
   rw[pm,HF];have:=Dr (fV p f) f.body 0;rw[V,Z]at this;rw[this]
  have m:jh p f=!(pm (fun x _=>iz (f.params++f.aj) (bG p) x) f&&li (fV p f) f.body):=by
   rw[jh,Y,Ds,V,Z];cases dO (f.params++f.aj) (bG p) f.value<;>cases oF (fV p f) f.body<;>cases li (fV p f) f.body<;>rfl
  rw[sV,pp,pp,m];cases i:pm (fun x _=>iz (f.params++f.aj) (bG p) x) f
  .simp
  .cases g:li (fV p f) f.body
   .simp[j.2 g]
   .rw[j.1 g];simp only[pP,bC,vn,rB,lZ];rw[NS hd fs]
    congr 2
    rw[lh];cases w<;>simp
def za8(p:Pr):HE p=fK p:=by
 unfold HE fK;rw[zaq,NL];cases i:jv p
 .simp only[oh,sk,dC,bH];cases g:iq p
  .rfl
  .simp only[sk,bH];cases m:mh p
   .simp only[dC,bH];have hd:cG [] (fX p)=false:=by
     rw[<-NL,pD,kS,kS]at m;exact m.1.2
    rw[wh,NS hd];simp
   .rfl
 .rfl
def tyP4e.tyF:=ad @cR (ad @dt (ad @gH (ad @iV (ad @gO (ad @eA (ad @ft (ad @fc (ad @l8 (ad @Ge (ad @l9 (ad @Cm (@Di))))))))))))
open tyP4e
noncomputable def NT:{c:SC // aI 28 (f91.body.getD .skip)=c}:=by
 refine⟨?_,?_⟩;rotate_left
 .simp only[f91,bS,aI,bM,bI,bT,bU,Nat.blt,Nat.ble];rfl
noncomputable def NU:{c:SC // aI 38 (f90.body.getD .skip)=c}:=by
 refine⟨?_,?_⟩;rotate_left
 .simp only[f90,bS,aI,bM,bI,bT,bU,Nat.blt,Nat.ble];rfl
noncomputable def NV:{c:SC // aI 35 (f45.body.getD .skip)=c}:=by
 refine⟨?_,?_⟩;rotate_left
 .simp only[f45,bS,aI,bM,bI,bT,bU,Nat.blt,Nat.ble];rfl
def gw(l:qt):qL:=l.map fun s=>(.ai s,.bool true)
def rR(l:qt)(s:qw):qt:=if bJ l s=true then l else l++[s]
theorem z6(s:qw):∀(l:qt) (i:Nat),(bJ l s=false->fD .string (.ai s) (gw l) i=some none)/\(bJ l s=true->∃j,fD .string (.ai s) (gw l) i=some (some (i+j,.bool true))/\(gw l).set j (.ai s,.bool true)=gw l)
 |[],i=>⟨fun _=>rfl,fun h=>by simp[bJ]at h⟩
 |a::l,i=>by
  have Z:bJ (a::l) s=(decide (s=a)||bJ l s):=by rw[show a::l=[a]++l from rfl,sU,wd]
  by_cases h:s=a
  .subst h;rw[Z,io rfl,xi];refine⟨fun h=>lY,fun _=>⟨0,?_,?_⟩⟩
   .simp[gw,fD,oN]
   .simp[gw]
  .have O:fD .string (.ai s) (gw (a::l)) i=fD .string (.ai s) (gw l) (i+1):=by
    show fD .string (.ai s) ((.ai a,.bool true)::gw l) i=_;have:(s == a)=false:=i9;simp[fD,oN,this]
   rw[Z,iy h,lZ,O];obtain⟨K,Y⟩:=z6 s l (i+1);refine⟨K,fun q=>?_⟩;obtain⟨j,U,V⟩:=Y q;exact⟨j+1,by rw[U,show i+1+j=i+(j+1) by omega],by show(AV.ai a,AV.bool true)::(gw l).set j _=_;rw[V];rfl⟩
def wj{r:Nat}{l:qt}(J:H.get r=some (.map (gw l)))(s:qw):lO prog H 155 (.map r) (.ai s) false=some (.bool (bJ l s)):=by
 obtain⟨l1,l2⟩:=zaZ (P:=prog) (H:=H) (t:=155) (nm:=s) (z:=.bool false) underlying155 aG aG J;cases h:bJ l s with
 |false=>rw[l1 ((z6 s l 0).1 h)]
 |true=>obtain⟨j,i,g⟩:=(z6 s l 0).2 h;rw[l2 _ _ i]
def HH{r:Nat}{l:qt}(J:H.get r=some (.map (gw l)))(s:qw):oP prog H 155 (.map r) (.ai s) (.bool true)=some (H.set r (.map (gw (rR l s)))):=by
 obtain⟨l1,l2⟩:=NC (P:=prog) (H:=H) (t:=155) (nm:=s) (x:=.bool true) underlying155 aG J;cases h:bJ l s with
 |false=>rw[l1 ((z6 s l 0).1 h),rR,h];simp[gw]
 |true=>obtain⟨j,i,g⟩:=(z6 s l 0).2 h;rw[l2 _ _ i,bO,g,rR,ay h]
def rS(x:List qt):qs:=[.ao (x.map fun l=>[cM l])]
def za9(x y:List qt)(h:rS x=rS y):x=y:=by
 simp only[rS,dR,AV.ao.injEq,aU]at h;exact mJ (fun a _ b e=>by simp only[dR,AV.ao.injEq,aU]at e;exact vH e) h
def Du(x:List qt):Prop:=x.length<2^60/\∀l∈x,l.length<2^60
def zba(x:List qt):fu (.ao (x.map fun l=>[cM l])):=.map fun l _=>.cons (tS l) .nil
theorem zbb(x:List qt)(hx:Du x):bX prog ρ 91 (rS x) (.bool (cG [] x.flatten)):=eg fit (pls:=pls) (l:=[]) trivial (.cons (zba x) .nil) (.bool _) (by
 have hw:=fj 91;obtain⟨hx1,I⟩:=hx;rw[rS];refine bF (M:=28) (rs:=[.tmp 2]) (hw.call _) hw.aD hw.aq func91 rfl rfl NT.2 rfl ?_;dsimp only[NT,bA,Nat.reduceAdd];repeat' (first
  |(apply aj ?_;clear hK K)|apply Rx.o ?_|apply aE ?_|(apply aA (fun o g=>?_) (fun o g=>?_)<;>try(cases o;done))|apply ah ?_|(apply ai fun K hK=>?_)|apply ak ?_|apply am ?_|apply aq ?_|apply aw ?_)
 refine cA [3,9,10] [] 11 x.length (fun i E H=>∃seen,H.get 0=some (.map (gw seen))/\cG [] x.flatten=cG seen (x.drop i).flatten) eE ⟨[],sP,rfl⟩ ?_;rintro i E H2 hi m O z C ⟨seen,J,V⟩;(try simp only[bp,bm,aU,aF,aW,Nat.reduceBEq,Nat.reduceAdd,Nat.reduceLeDiff,tyF, *]at m);(try simp only[bp,bm,aU,aF,aW,Nat.reduceBEq,Nat.reduceAdd,Nat.reduceLeDiff,tyF, *]at O);(try simp only[bj,bE,cm,bO,Nat.reduceAdd]at z);repeat' (first
  |(apply aj ?_;clear hK K)|apply Rx.o ?_|apply aE ?_|(apply aA (fun o g=>?_) (fun o g=>?_)<;>try(cases o;done))|apply ah ?_|(apply ai fun K hK=>?_)|apply ak ?_|apply am ?_|apply aq ?_|apply aw ?_)
 .have L:i<x.length:=by simpa using o
  have hgx:x[i]?=some x[i]:=a0 L;have hsm:=I _ (cL L);have Z:(x.drop i).flatten=x[i]++(x.drop (i+1)).flatten:=by rw[eU L,od]
  rw[Z]at V;clear Z;generalize x[i]=Y at *;repeat' (first
   |(apply aj ?_;clear hK K)|apply Rx.o ?_|apply aE ?_|(apply aA (fun o g=>?_) (fun o g=>?_)<;>try(cases o;done))|apply ah ?_|(apply ai fun K hK=>?_)|apply ak ?_|apply am ?_|apply aq ?_|apply aw ?_)
  refine cA [3,9,10,11,15,16] [] 17 Y.length (fun j E H=>∃seen,H.get 0=some (.map (gw seen))/\cG [] x.flatten=cG seen (Y.drop j++(x.drop (i+1)).flatten)) eE ⟨seen,J,V⟩ ?_;clear J V seen;rintro j E3 H3 hj m O z C ⟨seen,J,V⟩;(try simp only[bp,bm,aU,aF,aW,Nat.reduceBEq,Nat.reduceAdd,Nat.reduceLeDiff,tyF, *]at m);(try simp only[bp,bm,aU,aF,aW,Nat.reduceBEq,Nat.reduceAdd,Nat.reduceLeDiff,tyF, *]at O);(try simp only[bj,bE,cm,bO,Nat.reduceAdd]at z);repeat' (first
   |(apply aj ?_;clear hK K)|apply Rx.o ?_|apply aE ?_|(apply aA (fun o g=>?_) (fun o g=>?_)<;>try(cases o;done))|apply ah ?_|(apply ai fun K hK=>?_)|apply ak ?_|apply am ?_|apply aq ?_|apply aw ?_)
  .have U:j<Y.length:=by simpa using o
   have hgx2:Y[j]?=some Y[j]:=a0 U;have Z:cG seen (Y.drop j++(x.drop (i+1)).flatten)=(bJ seen Y[j]||cG (seen++[Y[j]]) (Y.drop (j+1)++(x.drop (i+1)).flatten)):=by rw[eU U];rfl
   have hlk:=wj J Y[j];have hup:=HH J Y[j];repeat' (first
    |(apply aj ?_;clear hK K)|apply Rx.o ?_|apply aE ?_|(apply aA (fun o g=>?_) (fun o g=>?_)<;>try(cases o;done))|apply ah ?_|(apply ai fun K hK=>?_)|apply ak ?_|apply am ?_|apply aq ?_|apply aw ?_)
   .all_goals refine qq ?_
    rw[V,Z];(try simp only[ci]at *);simp only[ *,cj,bC,bH,Int.reduceEq]
   .refine⟨ac,a2,a2,ce,NG,?_⟩;refine⟨rR seen Y[j],zX,?_⟩;rw[V,Z,rR];(try simp only[ci]at *);simp only[ *,cj,bC,bH,Int.reduceEq];rfl
  .have hje:j=Y.length:=by simp at o;omega
   repeat' (first
    |(apply aj ?_;clear hK K)|apply Rx.o ?_|apply aE ?_|(apply aA (fun o g=>?_) (fun o g=>?_)<;>try(cases o;done))|apply ah ?_|(apply ai fun K hK=>?_)|apply ak ?_|apply am ?_|apply aq ?_|apply aw ?_)
   refine⟨ac,a2,a2,ce,tX,?_⟩;exact⟨seen,J,by rw[V,hje,fU,pJ]⟩
 .all_goals refine qq ?_
  have hie:i=x.length:=p9;rw[V,hie,fU];rfl)
def uu(l:qt):AV:=if l=[]then .ah else cM l
def rT(H:Hp)(v:AV)(l:qt)(lo:Nat):Prop:=(v=.ah/\l=[])\/(l≠[]/\dI H v l lo)
def rT.n{v:AV}{l:qt}{lo:Nat}(h:rT H v l lo):dZ H v l lo:=h.imp id fun h=>h.2
def rT.keep{v:AV}{l:qt}{lo:Nat}(h:rT H v l lo)(C:H.next<=H'.next)(J:∀k,bc v k->H'.get k=H.get k):rT H' v l lo:=h.imp id fun h=>⟨h.1,h.2.keep C J⟩
theorem NW(H:Hp)(n:Nat):∀l:qt,iceL (iceV H (n+1)) (l.map .ai)=some (l.map .ai)
 |[]=>rfl
 |a::l=>by
  have:=NW H n l;have e:iceV H (n+1) (.ai a)=some (.ai a):=rfl;simp only[dS,iceL,e,this]
theorem rT.iceV{H:Hp}{v:AV}{l:qt}{lo:Nat}(h:rT H v l lo)(n:Nat):iceV H (n+2) v=some (uu l):=by
 rcases h with⟨rfl,rfl⟩|⟨O,r,L,rfl,g,_⟩
 .rfl
 .have e:Ab.iceV H (n+2) (.sl r 0 l.length 1)=match H.get r with
   |some (.cells Y _ _)=>match iceL (Ab.iceV H (n+1)) ((Y.drop 0).take (l.length*1))with
    |some j=>if j.length=l.length*1 then some (.ao (gC 1 l.length j))else none
    |none=>none
   |_=>none:=rfl
  rw[e,g];simp only[fF,lW];rw[gZ az,NW];simp only[dx,bC,LK];rw[uu,af O]
theorem NX(n:Nat)(l:qt):cq (n+2) (uu l)=cM l:=by
 unfold uu;split
 .rename_i h;subst h;rfl
 .show AV.ao ((l.map fun s=>[AV.ai s]).map fun Y=>Y.map (cq (n+1)))=_;rw[yN];rfl
set_option maxRecDepth 100000 in
theorem zbc(p:Pr)(hz:p.sz<2^36):bX prog ρ 90 (fA p) (.aS [cM (bG p),cM (fX p)]):=LM (n:=3) (vF (r:=.aS [uu (bG p),uu (fX p)]) (m:=3) (cfg:=aH pls []) fit (rD ρ) (fun f args r h=>by simp[aH,cV]at h) (.cons (.agg p.pure) .nil) (by
 have hw:=fj 90;have V:(aH pls []).keep 90=false:=rfl;have hpz:p.sz=1+gp p.aa+fw p.funcs:=rfl;have hla:=nF p.aa;have hlf:=nE p.funcs;rw[fA];refine bF (M:=38) (rs:=[.tmp 2,.tmp 3]) (hw.call _) hw.aD hw.aq func90 rfl rfl NU.2 rfl ?_;dsimp only[NU,bA,Nat.reduceAdd];repeat' (first
  |(apply aj ?_;clear hK K)|apply Rx.o ?_|apply aE ?_|(apply aA (fun o g=>?_) (fun o g=>?_)<;>try(cases o;done))|apply ah ?_|(apply ai fun K hK=>?_)|apply ak ?_|apply am ?_|apply aq ?_|apply aw ?_)
 refine cA [1,2,3,5,11,12] [0] 13 p.aa.length (fun i E H=>∃v,E.at 4=v/\rT H v ((bG p).take i) 1) eE ⟨.ah,eE,.inl ⟨rfl,rfl⟩⟩ ?_;rintro i E L hi z Y hnH hsI ⟨v,k4,hv⟩;(try simp only[bp,bm,aU,aF,aW,Nat.reduceBEq,Nat.reduceAdd,Nat.reduceLeDiff,tyF, *]at z);(try simp only[bp,bm,aU,aF,aW,Nat.reduceBEq,Nat.reduceAdd,Nat.reduceLeDiff,tyF, *]at Y);(try simp only[bj,bE,cm,bO,Nat.reduceAdd]at hnH);have hB0:(0 == L.next)=false:=bz ac;have hC0:(L.next == 0)=false:=bz ac;repeat' (first
  |(apply aj ?_;clear hK K)|apply Rx.o ?_|apply aE ?_|(apply aA (fun o g=>?_) (fun o g=>?_)<;>try(cases o;done))|apply ah ?_|(apply ai fun K hK=>?_)|apply ak ?_|apply am ?_|apply aq ?_|apply aw ?_)
 .have hlt:i<p.aa.length:=by simpa using o
  have hgx:p.aa[i]?=some p.aa[i]:=a0 hlt;have U:(bG p).take (i+1)=(bG p).take i++[p.aa[i].name]:=by rw[bG,ry,fO,hgx];rfl
  repeat' (first
   |(apply aj ?_;clear hK K)|apply Rx.o ?_|apply aE ?_|(apply aA (fun o g=>?_) (fun o g=>?_)<;>try(cases o;done))|apply ah ?_|(apply ai fun K hK=>?_)|apply ak ?_|apply am ?_|apply aq ?_|apply aw ?_)
  generalize Z:Hp.alloc (Hp.set _ _ _) _=C;have nb:C.next=L.next+2:=by rw[<-Z];rfl
  have O:∀k,k<L.next->C.get k=L.get k:=fun k j=>NH
  have gb:C.get (L.next+1)=some (.cells [.ai p.aa[i].name] 0 true):=by rw[<-Z,aQ,ay ea]
  clear Z;have hvb:dZ C v ((bG p).take i) 1:=hv.n.keep ac fun k j=>O k (hv.n.lt j).2;obtain⟨v5,H5,a5,s5,n5,f5,o5⟩:=vM (r:=L.next+1) (imm:=0) p.aa[i].name hvb ac gb ca;have n5':C.next<=H5.next:=ac
  clear n5;have g50:H5.get 0=some (.cells p.cells 0 true):=by rw[f5 0 ac,O 0 ac];exact Y
  refine jr cS cS (by rw[V];exact a5) ?_;repeat' (first
   |(apply aj ?_;clear hK K)|apply Rx.o ?_|apply aE ?_|(apply aA (fun o g=>?_) (fun o g=>?_)<;>try(cases o;done))|apply ah ?_|(apply ai fun K hK=>?_)|apply ak ?_|apply am ?_|apply aq ?_|apply aw ?_)
  refine⟨ac,a2,a2,ce,xH,?_⟩;exact⟨v5,eE,.inr ⟨xm,by rw[U];exact s5⟩⟩
 .have hie:i=p.aa.length:=by simp at o;omega
  have J:(bG p).take i=bG p:=gZ (by simp[bG];omega);rw[J]at hv;clear J hie hsI hi;repeat' (first
   |(apply aj ?_;clear hK K)|apply Rx.o ?_|apply aE ?_|(apply aA (fun o g=>?_) (fun o g=>?_)<;>try(cases o;done))|apply ah ?_|(apply ai fun K hK=>?_)|apply ak ?_|apply am ?_|apply aq ?_|apply aw ?_)
  have c3:∀k,bc v k->k<L.next:=fun k j=>(hv.n.lt j).2
  refine cA [2,3,4,24,25] [0] 26 p.funcs.length (fun i E H=>∃u,E.at 5=u/\rT H u ((fX p).take i) L.next/\rT H v (bG p) 1) eE ⟨.ah,eE,.inl ⟨rfl,rfl⟩,hv⟩ ?_;rintro i E I hi z Y hnH hsI ⟨u,k5,hu,hv3⟩;(try simp only[bp,bm,aU,aF,aW,Nat.reduceBEq,Nat.reduceAdd,Nat.reduceLeDiff,tyF, *]at z);(try simp only[bp,bm,aU,aF,aW,Nat.reduceBEq,Nat.reduceAdd,Nat.reduceLeDiff,tyF, *]at Y);(try simp only[bj,bE,cm,bO,Nat.reduceAdd]at hnH);have hB0:(0 == I.next)=false:=bz ac;have hC0:(I.next == 0)=false:=bz ac;repeat' (first
   |(apply aj ?_;clear hK K)|apply Rx.o ?_|apply aE ?_|(apply aA (fun o g=>?_) (fun o g=>?_)<;>try(cases o;done))|apply ah ?_|(apply ai fun K hK=>?_)|apply ak ?_|apply am ?_|apply aq ?_|apply aw ?_)
  .have hlt:i<p.funcs.length:=by simpa using o
   have hgx:p.funcs[i]?=some p.funcs[i]:=a0 hlt;have U:(fX p).take (i+1)=(fX p).take i++[p.funcs[i].name]:=by rw[fX,ry,fO,hgx];rfl
   repeat' (first
    |(apply aj ?_;clear hK K)|apply Rx.o ?_|apply aE ?_|(apply aA (fun o g=>?_) (fun o g=>?_)<;>try(cases o;done))|apply ah ?_|(apply ai fun K hK=>?_)|apply ak ?_|apply am ?_|apply aq ?_|apply aw ?_)
   generalize Z:Hp.alloc (Hp.set _ _ _) _=C;have nb:C.next=I.next+2:=by rw[<-Z];rfl
   have O:∀k,k<I.next->C.get k=I.get k:=fun k j=>NH
   have gb:C.get (I.next+1)=some (.cells [.ai p.funcs[i].name] 0 true):=by rw[<-Z,aQ,ay ea]
   clear Z;have hub:dZ C u ((fX p).take i) L.next:=hu.n.keep ac fun k j=>O k (hu.n.lt j).2
   obtain⟨v5,H5,a5,s5,n5,f5,o5⟩:=vM (r:=I.next+1) (imm:=0) p.funcs[i].name hub ac gb ca;have n5':C.next<=H5.next:=ac
   clear n5;have g50:H5.get 0=some (.cells p.cells 0 true):=by rw[f5 0 ac,O 0 ac];exact Y
   refine jr cS cS (by rw[V];exact a5) ?_;repeat' (first
    |(apply aj ?_;clear hK K)|apply Rx.o ?_|apply aE ?_|(apply aA (fun o g=>?_) (fun o g=>?_)<;>try(cases o;done))|apply ah ?_|(apply ai fun K hK=>?_)|apply ak ?_|apply am ?_|apply aq ?_|apply aw ?_)
   refine⟨ac,a2,a2,ce,po,?_⟩;exact⟨v5,eE,.inr ⟨xm,by rw[U];exact s5⟩,hv3.keep ac fun k j=>by rw[f5 k (c3 k j),O k (by have:=c3 k j;omega)]⟩
  .have hie:i=p.funcs.length:=by simp at o;omega
   have J:(fX p).take i=fX p:=gZ (by simp[fX];omega);rw[J]at hu;repeat' (first
    |(apply aj ?_;clear hK K)|apply Rx.o ?_|apply aE ?_|(apply aA (fun o g=>?_) (fun o g=>?_)<;>try(cases o;done))|apply ah ?_|(apply ai fun K hK=>?_)|apply ak ?_|apply am ?_|apply aq ?_|apply aw ?_)
   all_goals refine qq ?_
   have e1:=hv3.iceV (n:=0);have e2:=hu.iceV (n:=0);show(match iceL (iceV I 2) [v,u]with|some ds=>some (AV.aS ds)|none=>none)=_;simp only[iceL,e1,e2])) (by
 show AV.aS [cq 2 (uu (bG p)),cq 2 (uu (fX p))]=_;rw[NX,NX])
noncomputable def HI:En:=⟨90,false,ch (fun p=>p.sz<2^36) fA fun p=>.aS [cM (bG p),cM (fX p)]⟩
def NY:cT prog ρ HI:=dg fun p hp=>zbc ρ p hp
noncomputable def HJ:En:=⟨91,true,ch Du rS fun x=>.bool (cG [] x.flatten)⟩
def zbd:cT prog ρ HJ:=dg fun x I=>zbb ρ x I
theorem NZ(x:List qt):(x.map fun l=>[cM l]).flatten=x.map cM:=by
 induction x with
 |nil=>rfl
 |cons a l ih=>simp[ih]
def zbe{r imm:Nat}{x:List qt}(J:H.get r=some (.cells (x.map cM) imm true))(hr:r<H.next)(Z:imm<=x.length):
 ∃H',gg (eR 100) [.sl r 0 x.length 1] H=some (rS x,H')/\Icy (fun k=>k=r) H H':=by
 refine cW.iceL (S:=fun k=>k=r) (n:=100) (m:=rS x) ⟨?_,trivial⟩;have h:=cW.rows (S:=fun k=>k=r) (n:=99) (H:=H) (r:=r) (z:=1) (imm:=imm) (tip:=true) (a:=x.map fun l=>[cM l]) (b:=x.map fun l=>[cM l]) rfl hr (by rw[NZ];exact J) (by rw[NZ];simpa using Z) az (cy.refl fun a j=>cy.refl fun c hc=>by
  obtain⟨l,_,rfl⟩:=nh.1 j;rw[wa]at hc;subst hc;exact tY ⟨tS l,trivial⟩)
 rw[dx]at h;exact h
def HK{l:qA}(K:∀o,cV l 91 o=HJ.sp o)(z:iL l 91=true){r imm:Nat}{x:List qt}(J:H.get r=some (.cells (x.map cM) imm true))(hr:r<H.next)(Y:imm<=x.length)(I:Du x):
 aY prog (aH pls l) 91 [.sl r 0 x.length 1] H fun v H'=>v=.bool (cG [] x.flatten)/\Icy (fun k=>k=r) H H':=by
 obtain⟨H',i,g⟩:=zbe J hr Y;refine bb ?_ (Cu (enc:=rS) (out:=fun x=>.bool (cG [] x.flatten)) za9 (x:=x) K z I (H':=H') (fun y _ e=>by simp[rS]at e) i);rintro v _ ⟨rfl,rfl|rfl⟩
 .exact⟨rfl,g⟩
 .exact⟨rfl,zw _ _⟩
def HL(H:Hp)(a:List qs):dW prog H 179 1 [(0,.ao a)]=some (.sl H.next 0 1 1,H.alloc (.cells [.ao a] 0 true)):=aG
def zbf(H:Hp)(a b:List qs):dW prog H 179 2 [(0,.ao a),(1,.ao b)]=some (.sl H.next 0 2 1,H.alloc (.cells [.ao a,.ao b] 0 true)):=aG
def zbg(H:Hp)(a b c:List qs):dW prog H 179 3 [(0,.ao a),(1,.ao b),(2,.ao c)]=some (.sl H.next 0 3 1,H.alloc (.cells [.ao a,.ao b,.ao c] 0 true)):=aG
noncomputable def HM:qA:=[HI,HJ]
def zbh:gm prog ρ HM:=⟨NY ρ,zbd ρ,trivial⟩
set_option maxRecDepth 100000 in
theorem zbi(p:Pr)(hz:p.sz<2^36):bX prog ρ 45 (fA p) (.bool (pD p)):=eg fit (pls:=pls) (zbh ρ) (.cons (.agg p.pure) .nil) (.bool _) (by
 have j:zd0 (aH pls HM) 45:=dG (fun _=>rfl) rfl;have kd:∀H,aY prog (aH pls HM) 90 [.agg p.cells] H fun v H'=>v=.aS [cM (bG p),cM (fX p)]/\H'=H:=fun H=>cF (enc:=fA) (out:=fun p=>.aS [cM (bG p),cM (fX p)]) rc (x:=p) rfl hz;have hpz:p.sz=1+gp p.aa+fw p.funcs:=rfl;have hla:=nF p.aa;have hlf:=nE p.funcs;have hal:(bG p).length=p.aa.length:=uj;have hfl:(fX p).length=p.funcs.length:=by simp[fX]
 have hx0:∀a b,Ab.extract (.aS [a,b]) 0=some a:=fun _ _=>rfl;have hx1:∀a b,Ab.extract (.aS [a,b]) 1=some b:=fun _ _=>rfl;rw[fA];refine bF (M:=35) (rs:=[.tmp 2]) (j.call _) j.aD j.aq func45 rfl rfl NV.2 rfl ?_;dsimp only[NV,bA,Nat.reduceAdd];have I:=@HL;repeat' (first
  |(apply aj ?_;clear hK K)|apply Rx.o ?_|apply aE ?_|(apply eC ?_;first|refine bi (kd _) ?_)|(apply aX (fun J g=>?_) (fun J g=>?_)<;>try(cases J;done))|(apply aA (fun o Z=>?_) (fun o Z=>?_)<;>try(cases o;done))|apply ah ?_|(apply ai fun K hK=>?_)|apply ak ?_|apply am ?_|apply aq ?_|apply aw ?_)
 refine qc ?_;refine bb ?_ (HK (x:=[bG p]) (imm:=0) (fun _=>rfl) rfl sP (cI _) az ⟨az,ca⟩);rintro v H2 ⟨rfl,Y⟩;have n2:=Y.next
 simp only[bj,cm]at n2;have g20:H2.get 0=some (.cells p.cells 0 true):=by rw[Y.out 0 az,aQ,af az,aQ,ay ea]
 have n2':2<=H2.next:=ac
 clear Y n2;rw[show([bG p]:List qt).flatten=bG p by simp];dsimp only[aZ];have I:=@HL;repeat' (first
  |(apply aj ?_;clear hK K)|apply Rx.o ?_|apply aE ?_|(apply aX (fun J g=>?_) (fun J g=>?_)<;>try(cases J;done))|(apply aA (fun o Z=>?_) (fun o Z=>?_)<;>try(cases o;done))|apply ah ?_|(apply ai fun K hK=>?_)|apply ak ?_|apply am ?_|apply aq ?_|apply aw ?_)
 .refine qc ?_;refine bb ?_ (HK (x:=[fX p]) (imm:=0) (fun _=>rfl) rfl sP (cI _) az ⟨az,ca⟩);rintro v H3 ⟨rfl,Y⟩;have n3:=Y.next
  simp only[bj]at n3;have g30:H3.get 0=some (.cells p.cells 0 true):=by rw[Y.out 0 ac,aQ,af ac];exact g20
  have n3':2<=H3.next:=ac
  clear Y n3;rw[show([fX p]:List qt).flatten=fX p by simp];dsimp only[aZ];repeat' (first
   |(apply aj ?_;clear hK K)|apply Rx.o ?_|apply aE ?_|(apply aX (fun J g=>?_) (fun J g=>?_)<;>try(cases J;done))|(apply aA (fun o Z=>?_) (fun o Z=>?_)<;>try(cases o;done))|apply ah ?_|(apply ai fun K hK=>?_)|apply ak ?_|apply am ?_|apply aq ?_|apply aw ?_)
  .all_goals refine qq ?_
   rw[pD];(try simp only[ci]at *);simp only[ *,cj,bC,bH,Int.reduceEq]
  .refine cA [3,21,22] [0] 23 p.funcs.length (fun i E H=>(p.funcs.any fun f=>cG [] (bG p++(f.params++f.aj)))=((p.funcs.drop i).any fun f=>cG [] (bG p++(f.params++f.aj)))) eE az ?_;rintro i E C hi m V L hsI O;(try simp only[bp,bm,aU,aF,aW,Nat.reduceBEq,Nat.reduceAdd,Nat.reduceLeDiff,tyF, *]at m);(try simp only[bp,bm,aU,aF,aW,Nat.reduceBEq,Nat.reduceAdd,Nat.reduceLeDiff,tyF, *]at V);(try simp only[bj,bE,cm,bO,Nat.reduceAdd]at L);have hB0:(0 == C.next)=false:=bz ac;have hC0:(C.next == 0)=false:=bz ac;repeat' (first
    |(apply aj ?_;clear hK K)|apply Rx.o ?_|apply aE ?_|(apply aX (fun J g=>?_) (fun J g=>?_)<;>try(cases J;done))|(apply aA (fun o Z=>?_) (fun o Z=>?_)<;>try(cases o;done))|apply ah ?_|(apply ai fun K hK=>?_)|apply ak ?_|apply am ?_|apply aq ?_|apply aw ?_)
   .have z:i<p.funcs.length:=by simpa using o
    have hgx:p.funcs[i]?=some p.funcs[i]:=a0 z;have hsm:=ow (cL z);have hsz:p.funcs[i].sz=1+p.funcs[i].name.length+dU p.funcs[i].params+dU p.funcs[i].aj+bN p.funcs[i].body+p.funcs[i].value.sz:=rfl;have hpl:=jO p.funcs[i].params;have hll:=jO p.funcs[i].aj;have U:((p.funcs.drop i).any fun f=>cG [] (bG p++(f.params++f.aj)))=(cG [] (bG p++(p.funcs[i].params++p.funcs[i].aj))||((p.funcs.drop (i+1)).any fun f=>cG [] (bG p++(f.params++f.aj)))):=GW;have I:=@zbg;repeat' (first
     |(apply aj ?_;clear hK K)|apply Rx.o ?_|apply aE ?_|(apply aX (fun J g=>?_) (fun J g=>?_)<;>try(cases J;done))|(apply aA (fun o Z=>?_) (fun o Z=>?_)<;>try(cases o;done))|apply ah ?_|(apply ai fun K hK=>?_)|apply ak ?_|apply am ?_|apply aq ?_|apply aw ?_)
    refine qc ?_;refine bb ?_ (HK (x:=[bG p,p.funcs[i].params,p.funcs[i].aj]) (imm:=0) (fun _=>rfl) rfl sP (cI _) az ⟨az,ca⟩);rintro v H5 ⟨rfl,Y⟩;have n5:=Y.next
    simp only[bj,bE]at n5;have g50:H5.get 0=some (.cells p.cells 0 true):=by rw[Y.out 0 (by intro e;change (0:Nat)=_ at e;(try simp only[bE,bj]at e);omega),aQ,af (by(try simp only[bE,bj]);omega),a1,af ac,aQ,af ac];exact V
    have n5':C.next<=H5.next:=ac
    clear Y n5;rw[show([bG p,p.funcs[i].params,p.funcs[i].aj]:List qt).flatten=bG p++(p.funcs[i].params++p.funcs[i].aj) by simp];dsimp only[aZ];repeat' (first
     |(apply aj ?_;clear hK K)|apply Rx.o ?_|apply aE ?_|(apply aX (fun J g=>?_) (fun J g=>?_)<;>try(cases J;done))|(apply aA (fun o Z=>?_) (fun o Z=>?_)<;>try(cases o;done))|apply ah ?_|(apply ai fun K hK=>?_)|apply ak ?_|apply am ?_|apply aq ?_|apply aw ?_)
    .all_goals refine qq ?_
     rw[pD,O,U];(try simp only[ci]at *);simp only[ *,cj,bC,bH,Int.reduceEq]
    .refine⟨ac,a2,a2,ce,po,?_⟩;rw[O,U];(try simp only[ci]at *);simp only[ *,cj,bC,bH,Int.reduceEq]
   .all_goals refine qq ?_
    have hie:i=p.funcs.length:=p9;rw[hie,fU]at O;have hJ2:(p.funcs.any fun f=>cG [] (bG p++(f.params++f.aj)))=false:=O;rw[pD,hJ2];(try simp only[ci]at *);simp only[ *,cj,bC,bH,Int.reduceEq]
 .repeat' (first
   |(apply aj ?_;clear hK K)|apply Rx.o ?_|apply aE ?_|(apply aX (fun J g=>?_) (fun J g=>?_)<;>try(cases J;done))|(apply aA (fun o Z=>?_) (fun o Z=>?_)<;>try(cases o;done))|apply ah ?_|(apply ai fun K hK=>?_)|apply ak ?_|apply am ?_|apply aq ?_|apply aw ?_)
  all_goals refine qq ?_
  rw[pD];(try simp only[ci]at *);simp only[ *,cj,bC,bH,Int.reduceEq])
end
section
def tyV5.tyF:=ad @ez (ad @cR (ad @fP (ad @iU (ad @ol (@Cm)))))
open tyV5
noncomputable def N0:{c:SC // aI 22 (f49.body.getD .skip)=c}:=by
 refine⟨?_,?_⟩;rotate_left
 .simp only[f49,bS,aI,bM,bI,bT,bU,Nat.blt,Nat.ble];rfl
def fR(n:Nd):qw:=sK (uf n)
noncomputable def Dv:En:=⟨96,false,ch (fun n=>n.ak.length<2^30) zH fun n=>.ai (fR n)⟩
def zbj:cT prog ρ Dv:=dg fun n C=>ZM ρ n C
def zbk{tb:qA}(U:∀o,cV tb 96 o=Dv.sp o)(n:Nd)(C:n.ak.length<2^30)(H:Hp):aY prog (aH pls tb) 96 [.agg n.cells] H fun v H'=>v=.ai (fR n)/\H'=H:=
 cF (enc:=zH) (ok:=fun n=>n.ak.length<2^30) (out:=fun n=>.ai (fR n)) ZL (x:=n) (U _) C
def mR(l:qy):Bool:=!cG [] (l.map fR)
theorem zbl(l:qy)(hl:mO l):bX prog ρ 49 [kB l] (.bool (mR l)):=eg fit (pls:=pls) (l:=[Dv]) ⟨zbj ρ,trivial⟩ (.cons (zC _) .nil) (.bool _) (by
 obtain⟨hl1,L⟩:=hl;have I:zd0 (aH pls [Dv]) 49:=dG (fun _=>rfl) rfl;refine bF (M:=22) (rs:=[.tmp 2]) (I.call _) I.aD I.aq func49 rfl rfl N0.2 rfl ?_;dsimp only[N0,bA,Nat.reduceAdd];repeat' (first
  |(apply aj ?_;clear hK K)|apply Rx.o ?_|apply ah ?_|(apply ai fun K hK=>?_)|apply ak ?_|apply am ?_|apply aq ?_|apply aw ?_)
 refine cA [3,8,9] [] 10 l.length (fun i E H=>∃seen,H.get 0=some (.map (gw seen))/\cG [] (l.map fR)=cG seen ((l.drop i).map fR)) eE ⟨[],sP,rfl⟩ ?_;rintro i E H2 hi m U O hsI ⟨seen,hm,V⟩;(try simp only[bp,bm,aU,aF,aW,Nat.reduceBEq,Nat.reduceAdd,Nat.reduceLeDiff,tyF, *]at m);(try simp only[bp,bm,aU,aF,aW,Nat.reduceBEq,Nat.reduceAdd,Nat.reduceLeDiff,tyF, *]at U);(try simp only[bj,bE,cm,bO,Nat.reduceAdd]at O);by_cases z:i<l.length
 .have Y:(i:Int)<l.length:=by omega
  have hgx:l[i]?=some l[i]:=a0 z;have C:=L _ (cL z);have Z:cG seen ((l.drop i).map fR)=(bJ seen (fR l[i])||cG (seen++[fR l[i]]) ((l.drop (i+1)).map fR)):=nH;generalize l[i]=n at *;have J:∀b c,((H2.alloc b).set H2.next c).get 0=some (.map (gw seen)):=fun b c=>by rw[a1,af ac,aQ,af ac];exact hm
  have hlk:=fun b c=>wj (J b c) (fR n);have hup:=fun b c=>HH (J b c) (fR n);repeat' (first
   |(apply aj ?_;clear hK K)|apply Ry.o ?_|apply b8 ?_|(apply ee ?_;first|refine bi (zbk (fun _=>rfl) _ C _) ?_)|(apply bq (fun o g=>?_) (fun o g=>?_)<;>try(cases o;done))|apply ah ?_|(apply ai fun K hK=>?_)|apply ak ?_|apply am ?_|apply aq ?_|apply aw ?_)
  .all_goals refine qq ?_
   rw[mR,V,Z];(try simp only[ci]at *);simp only[ *,cj,bC,bH,Int.reduceEq]
  .refine⟨ac,a2,a2,ce,rJ,?_⟩;refine⟨rR seen (fR n),zX,?_⟩;rw[V,Z,rR];(try simp only[ci]at *);simp only[ *,cj,bC,bH,Int.reduceEq];rfl
 .have Y:¬(i:Int)<l.length:=by omega
  have j:l.drop i=[]:=oB ac;rw[j]at V;repeat' (first
   |(apply aj ?_;clear hK K)|apply Ry.o ?_|apply b8 ?_|(apply bq (fun o g=>?_) (fun o g=>?_)<;>try(cases o;done))|apply ah ?_|(apply ai fun K hK=>?_)|apply ak ?_|apply am ?_|apply aq ?_|apply aw ?_)
  all_goals refine qq ?_
  rw[mR,V];rfl)
end
section
def zbm{l:qG}{i:Nat}{k:Ex}(L:el l=true)(h:l[i]?=some k):eK k=true:=by
 induction l generalizing i with
 |nil=>simp at h
 |cons e g ih=>
  rw[el,co]at L;cases i with
  |zero=>simp at h;subst h;exact L.1
  |succ i=>exact ih L.2 i9
def nP(l:List J){i:Nat}(h:i<l.length):∃k,l[i]?=some k:=⟨l[i],a0 h⟩
section
variable (p:Pr) (fi:List (cc × Int))
end
structure Bd where
 l:qy
 vars:qu
 ab:Int
 loops:Nat
structure Cx where
 aa:qP
 funcs:qN
 aw:List cc
def iB(l:qy)(n:Nd):Nat:=l.findIdx fun x=>decide (x=n)
def jy(l:qy)(n:Nd):qy:=if iB l n<l.length then l else l++[n]
def ax(n:Nd)(s:Bd):Int×Bd:=(iB s.l n,{s with l:=jy s.l n})
def cY:List cc->cc->Nat
 |[],_=>0
 |a::l,s=>if a=s then 0 else if bJ l s=true then cY l s+1 else 0
def bZ(c a b:Int)(s:Bd):Int×Bd:=if a=b then (a,s)else ax ⟨22,0,[c,a,b]⟩ s
def lj(K v:Int)(s:Bd):Bd:=let r:=ax ⟨27,K,[s.ab,v]⟩ s;{r.2 with ab:=r.1}
def fL(len i:Int)(s:Bd):Bd:=
 let aK:=ax ⟨1,len,[]⟩ s
 let bB:=ax ⟨19,0,[i,aK.1]⟩ aK.2
 lj 2 bB.1 bB.2
def mn(v:Int)(s:Bd):Bd:=
 let z:=ax ⟨1,0,[]⟩ s
 let c:=ax ⟨16,0,[v,z.1]⟩ z.2
 lj 1 c.1 c.2
def eX(c:Cx):Nat->Ex->Bd->Option (Int×Bd)
 |0,_,_=>none
 |n+1,x,s=>
  if x.am=1 then some (ax ⟨1,x.n,[]⟩ s)
  else if x.am=2 then (s.vars[cY c.aw x.name]?).map fun v=>(v,s)
  else if x.am=3 then
   (x.ak[0]?).bind fun k=>(eX c n k s).bind fun r=>(c.aa[cY (c.aa.map (·.name)) x.name]?).bind fun a=>
     let L:=fL a.len r.1 r.2
     some (ax ⟨23,cY (c.aa.map (·.name)) x.name,[L.ab,r.1]⟩ L)
  else if x.am=5 then
   (x.ak[0]?).bind fun k0=>(eX c n k0 s).bind fun b9=>
   (x.ak[1]?).bind fun k1=>(eX c n k1 b9.2).bind fun aK=>
   (x.ak[2]?).bind fun k2=>(eX c n k2 {aK.2 with ab:=b9.2.ab}).bind fun bB=>
     let v:=bZ b9.1 aK.1 bB.1 bB.2
     let t:=bZ b9.1 aK.2.ab v.2.ab v.2
     some (v.1,{t.2 with ab:=t.1})
  else
   (x.ak[0]?).bind fun k0=>(eX c n k0 s).bind fun b9=>
     if x.ak.length=1 then some (ax ⟨x.op,0,[b9.1]⟩ b9.2)
     else (x.ak[1]?).bind fun k1=>(eX c n k1 b9.2).bind fun aK=>
      some (ax ⟨x.op,0,[b9.1,aK.1]⟩ (if x.op=7\/x.op=8 then mn aK.1 aK.2 else aK.2))
def oG(c:Cx)(n:Nat):qG->Bd->Option (qu×Bd)
 |[],s=>some ([],s)
 |x::l,s=>(eX c n x s).bind fun r=>(oG c n l r.2).bind fun bB=>some (r.1::bB.1,bB.2)
def mS(K:List cc):Nat->qD->qO->Option qO
 |0,_,_=>none
 |n+1,l,b=>match l with
  |[]=>some b
  |x::l=>
   if (x.am=1\/x.am=6)/\b.length<=cY K x.name then none
   else (mS K n x.a5 (if x.am=1\/x.am=6 then b.set (cY K x.name) true else b)).bind fun i=>(mS K n x.a6 i).bind fun U=>mS K n l U
def gJ(b:qO):qC:=(List.range b.length).filter fun i=>b.getD i false
def nQ(c:Int)(a:qu):Nat->Nat->Bd->Option Bd
 |0,_,s=>some s
 |k+1,i,s=>(a[i]?).bind fun x=>(s.vars[i]?).bind fun y=>
  let r:=bZ c x y s
  nQ c a k (i+1) {r.2 with vars:=r.2.vars.set i r.1}
def jj(base:Int):qC->Nat->Bd->Bd
 |[],_,s=>s
 |w::ws,j,s=>let r:=ax ⟨3,base+j,[]⟩ s;jj base ws (j+1) {r.2 with vars:=r.2.vars.set w r.1}
def iC(loop c:Int)(old:qu):qC->Nat->Bd->Bd
 |[],_,s=>s
 |w::ws,j,s=>
  let f:=ax ⟨25,j,[loop]⟩ s
  let m:=bZ c f.1 (old.getD w 0) f.2
  iC loop c old ws (j+1) {m.2 with vars:=m.2.vars.set w m.1}
section
variable (c:Cx)
mutual
def nR:Nat->St->Bd->Option Bd
 |0,_,_=>none
 |n+1,x,s=>
  if x.am=1 then (eX c n x.value s).bind fun r=>if cY c.aw x.name<r.2.vars.length then some {r.2 with vars:=r.2.vars.set (cY c.aw x.name) r.1}else none
  else if x.am=2 then (eX c n x.aW s).bind fun i=>(eX c n x.value i.2).bind fun v=>(c.aa[cY (c.aa.map (·.name)) x.name]?).bind fun a=>
   let L:=fL a.len i.1 v.2
   let r:=ax ⟨28,cY (c.aa.map (·.name)) x.name,[L.ab,i.1,v.1]⟩ L
   some {r.2 with ab:=r.1}
  else if x.am=3 then (eX c n x.value s).bind fun r=>(gK n x.a5 r.2).bind fun a=>(gK n x.a6 {a with ab:=r.2.ab,vars:=r.2.vars}).bind fun b=>
   (nQ r.1 a.vars b.vars.length 0 b).bind fun m=>
     let t:=bZ r.1 a.ab m.ab m
     some {t.2 with ab:=t.1}
  else if x.am=4 then oH n x s
  else if x.am=5 then (eX c n x.value s).bind fun v=>
   let r:=ax ⟨29,0,[v.2.ab,v.1]⟩ v.2
   some {r.2 with ab:=r.1}
  else if x.am=6 then (oG c n x.args s).bind fun Y=>
   if 0<=dc c.funcs x.to 0/\cY c.aw x.name<Y.2.vars.length then
    let r:=ax ⟨30,dc c.funcs x.to 0,Y.2.ab::Y.1⟩ Y.2
    let q:=ax ⟨24,0,[r.1]⟩ {r.2 with ab:=r.1}
    some {q.2 with vars:=q.2.vars.set (cY c.aw x.name) q.1}
   else none
  else if x.am=7 then let z:=ax ⟨1,0,[]⟩ s;some (lj (cC (16+x.n)) z.1 z.2)
  else some s
def gK:Nat->qD->Bd->Option Bd
 |0,_,_=>none
 |n+1,l,s=>match l with
  |[]=>some s
  |x::l=>(nR n x s).bind fun r=>gK n l r
def oH:Nat->St->Bd->Option Bd
 |0,_,_=>none
 |n+1,x,s=>(eX c n x.value {s with loops:=s.loops+1}).bind fun r=>(mS c.aw n x.a5 (List.replicate r.2.vars.length false)).bind fun b=>
  let p:=ax ⟨3,16*(s.loops:Int),[]⟩ r.2
  (gK n x.a5 (jj (16*(s.loops:Int)+1) (gJ b) 0 {p.2 with ab:=p.1})).bind fun t=>(eX c n x.value t).bind fun d=>
    let k:=ax ⟨31,s.loops,r.2.ab::((gJ b).map fun i=>r.2.vars.getD i 0)++[d.1,d.2.ab]++((gJ b).map fun i=>d.2.vars.getD i 0)⟩ d.2
    let f:=ax ⟨25,0,[k.1]⟩ {k.2 with vars:=r.2.vars}
    let m:=bZ r.1 f.1 r.2.ab f.2
    some (iC k.1 r.1 r.2.vars (gJ b) 1 {m.2 with ab:=m.1})
end
end
def iD:Nat->Nat->Bd->Bd
 |0,_,s=>s
 |n+1,k,s=>let r:=ax ⟨2,k,[]⟩ s;iD n (k+1) {r.2 with vars:=r.2.vars++[r.1] }
def kH:Nat->Bd->Bd
 |0,s=>s
 |n+1,s=>let r:=ax ⟨1,0,[]⟩ s;kH n {r.2 with vars:=r.2.vars++[r.1] }
def jk(f:Fu):Bd:=let e:=ax ⟨26,0,[]⟩ ⟨[],[],0,0⟩;kH f.aj.length (iD f.params.length 0 {e.2 with ab:=e.1})
def mo(p:Pr)(f:Fu):Cx:=⟨p.aa,p.funcs,f.params++f.aj⟩
def jl(p:Pr)(n:Nat)(f:Fu):Option Gr:=(gK (mo p f) n f.body (jk f)).bind fun s=>(eX (mo p f) n f.value s).bind fun v=>some ⟨f.name,f.params.length,v.2.l,v.1,v.2.ab⟩
def mT(p:Pr)(n:Nat):qN->List Gr->Option (Un×Int)
 |[],gs=>some (⟨p.aa,gs⟩,0)
 |f::l,gs=>(jl p n f).bind fun g=>if (2000:Int)<g.ag.length then some (⟨[],[]⟩,6)else mT p n l (gs++[g])
def sW(p:Pr)(n:Nat):Option (Un×Int):=if fK p=0 then mT p n p.funcs []else some (⟨[],[]⟩,fK p)
structure NdR (n:Nd):Prop where
 op:0<=n.op/\n.op<256
 au:-9223372036854775808<=n.au/\n.au<9223372036854775808
 ak:∀k∈n.ak,0<=k/\k<2^60
 len:n.ak.length<2^30
def N2(n:Int):mL n 0=n%256:=by
 rw[mL,zY];simp[Int.fdiv_one]
def N4(n:Int)(i:Nat):mL n (i+1)=mL (n/256) i:=by
 rw[mL,mL];have e:(2:Int)^ (8*(i+1))=256*2^ (8*i):=by
  rw[Nat.mul_add,Int.pow_add];omega
 have p:(0:Int)<=2^ (8*i):=Int.le_of_lt (Int.pow_pos aM);rw[e,NI _ ac,NI _ p,Int.ediv_ediv_of_nonneg aM]
def zbn(n:Int)(i:Nat):0<=mL n i/\mL n i<256:=by
 rw[mL,zY];omega
theorem N8:∀(k:Nat) (n m:Int),0<=n->n<256^ k->0<=m->m<256^ k->(∀i,i<k->mL n i=mL m i)->n=m
 |0,n,m,h1,h2,h3,h4,_=>by simp at h2 h4;omega
 |k+1,n,m,h1,h2,h3,h4,h=>by
  have e:(256:Int)^ (k+1)=256*256^ k:=by rw[Int.pow_succ];omega
  rw[e]at h2 h4;have O:=h 0 ac;rw[N2,N2]at O;have ih:=N8 k (n/256) (m/256) ac (by generalize (256:Int)^ k=P at *;omega) ac (by generalize (256:Int)^ k=P at *;omega) (fun i z=>by rw[<-N4,<-N4];exact h (i+1) ac);omega
theorem N9:∀{l m:qu},(∀x∈l,0<=x/\x<256)->(∀x∈m,0<=x/\x<256)->sK l=sK m->l=m
 |[],[],_,_,_=>rfl
 |[],_::_,_,_,h=>by simp[sK]at h
 |_::_,[],_,_,h=>by simp[sK]at h
 |a::l,b::m,hl,hm,h=>by
  simp only[sK,dS,dR]at h;have i:=hl a ei;have g:=hm b ei;have e:a=b:=by
   have:=jH UInt8.toNat h.1;rw[UInt8.toNat_ofNat',UInt8.toNat_ofNat']at this;omega
  rw[e,N9 (fun x I=>hl x (ej _ I)) (fun x I=>hm x (ej _ I)) h.2]
def Oa(n:Int)(k:Nat):∀x∈js n k,0<=x/\x<256:=fun x I=>by
 obtain⟨i,_,rfl⟩:=nh.1 I;exact zbn n i
def Ob(n:Nd):∀x∈uf n,0<=x/\x<256:=fun x I=>by
 rw[uf,gE,kU,Fa]at I;rcases I with rfl|I|⟨k,_,I⟩
 .rw[zY];omega
 .exact Oa _ _ x I
 .exact Oa _ _ x I
def Oc{n m:Int}(h1:0<=n)(h2:n<18446744073709551616)(Z:0<=m)(U:m<18446744073709551616)(h:js n 8=js m 8):n=m:=
 N8 8 n m h1 ac Z ac fun i z=>List.map_inj_left.1 h i (mF.2 z)
def uw(n:Int):0<=IntKind.wrap .u64 n/\IntKind.wrap .u64 n<18446744073709551616:=by rw[zZ];omega
theorem Od:∀{L ms:qu},(∀k∈L,0<=k/\k<2^60)->(∀k∈ms,0<=k/\k<2^60)->(L.flatMap fun k=>js (IntKind.wrap .u64 k) 8)=(ms.flatMap fun k=>js (IntKind.wrap .u64 k) 8)->L=ms
 |[],[],_,_,_=>rfl
 |[],m::ms,_,_,h=>by
  have:=jH List.length h;rw[vD,fg,sJ]at this;simp at this;omega
 |k::L,[],_,_,h=>by
  have:=jH List.length h;rw[vD,fg,sJ]at this;simp at this
 |k::L,m::ms,hk,hm,h=>by
  rw[vD,vD]at h;obtain⟨i,g⟩:=List.append_inj h (by rw[sJ,sJ]);have e:=Oc (uw k).1 (uw k).2 (uw m).1 (uw m).2 i;have bK:=hk k ei;have bW:=hm m ei;rw[zZ,zZ]at e;have J:k=m:=ac;rw[J,Od (fun x I=>hk x (ej _ I)) (fun x I=>hm x (ej _ I)) g]
def zbo{a b:Nd}(j:NdR a)(o:NdR b)(h:fR a=fR b):a=b:=by
 have h:=N9 (Ob a) (Ob b) h;rw[uf,uf,dR]at h;obtain⟨i,g⟩:=h;obtain⟨m,U⟩:=List.append_inj g (by rw[sJ,sJ]);have Y:=Oc (uw _).1 (uw _).2 (uw _).1 (uw _).2 m;have V:=Od j.ak o.ak U;have I:=j.op;have C:=o.op;have z:=j.au;have i2:=o.au;rw[zY,zY]at i;rw[zZ,zZ]at Y;obtain⟨L,Z,K⟩:=a;obtain⟨M,O,J⟩:=b;simp only at *;rw[show L=M by omega,show Z=O by omega,V]
def zbp(x:Nd)(l:qy)(n:Nd):iB (x::l) n=if x=n then 0 else iB l n+1:=by
 unfold iB;rw[List.findIdx_cons];by_cases h:x=n<;>simp[h]
def HN(l:qy)(n:Nd):iB l n<=l.length:=by unfold iB;exact List.findIdx_le_length
def Oe{l:qy}{n:Nd}:iB l n<l.length↔n∈l:=by
 unfold iB;rw[List.findIdx_lt_length];simp
def Of{l:qy}{n:Nd}(h:iB l n<l.length):l[iB l n]?=some n:=by
 rw[a0 h];have:=List.findIdx_getElem (p:=fun x=>decide (x=n)) (xs:=l) (w:=h);simp only[jq]at this;exact jH some this
def Og(l:qy)(n:Nd):(jy l n).length=if iB l n<l.length then l.length else l.length+1:=by
 unfold jy;split<;>simp[*]
def wl(l:qy)(n:Nd):l<+:jy l n:=by
 unfold jy;split
 .exact uq l
 .exact List.prefix_append l [n]
theorem HO(l:qy)(n:Nd):(jy l n)[iB l n]?=some n:=by
 unfold jy;split
 .rename_i h;exact Of h
 .rename_i h;have:=HN l n;have e:iB l n=l.length:=ac;rw[e,kN (aO _),lU];rfl
def sX{l:qy}{n x:Nd}:x∈jy l n↔x∈l\/x=n:=by
 unfold jy;split
 .rename_i h;have:=Oe.1 h;constructor
  .exact .inl
  .rintro(h|rfl)
   .exact h
   .exact this
 .simp
def zbq(l:qy)(n:Nd):iB l n<(jy l n).length:=by
 have:=HN l n;rw[Og];split<;>omega
def tyG1.tyF:=ad @cR (ad @dt (ad @ft (ad @ez (ad @Wz (ad @vr (@tL))))))
open tyG1
noncomputable def Oh:{c:SC // aI 14 (f8.body.getD .skip)=c}:=by
 refine⟨?_,?_⟩;rotate_left
 .simp only[f8,bS,aI,bM,bI,bT,bU,Nat.blt,Nat.ble];rfl
noncomputable def Oi:{c:SC // aI 25 (f80.body.getD .skip)=c}:=by
 refine⟨?_,?_⟩;rotate_left
 .simp only[f80,bS,aI,bM,bI,bT,bU,Nat.blt,Nat.ble];rfl
noncomputable def Oj:{c:SC // aI 7 (f79.body.getD .skip)=c}:=by
 refine⟨?_,?_⟩;rotate_left
 .simp only[f79,bS,aI,bM,bI,bT,bU,Nat.blt,Nat.ble];rfl
def dr(n m:Int):Int:=if n.tmod m<0 then cC (n.tmod m+m)else n.tmod m
def ll{n m:Int}(h:0<m)(h2:m<2^62):0<=dr n m/\dr n m<m:=by
 unfold dr;have Z:=wc n h;have U:-m<n.tmod m:=by
  have:=wc (-n) h;rw[Int.neg_tmod]at this;omega
 split
 .unfold cC;rw[yx _ ac];omega
 .omega
def rj(x:Int×Int):qs:=[.int .i64 x.1,.int .i64 x.2]
def Ok(x y:Int×Int)(h:rj x=rj y):x=y:=by
 simp only[rj,dR,AV.int.injEq,px]at h;exact pw h.1 h.2
theorem zbr(x:Int×Int)(I:x.2≠0):bX prog ρ 8 (rj x) (.int .i64 (dr x.1 x.2)):=eg fit (pls:=pls) (l:=[]) trivial (.cons (.int _ _) (.cons (.int _ _) .nil)) (.int _ _) (by
 have L:=fj 8;obtain⟨n,m⟩:=x;rw[rj];simp only[]at I⊢;refine bF (M:=14) (rs:=[.tmp 4]) (L.call _) L.aD L.aq func8 rfl rfl Oh.2 rfl ?_;dsimp only[Oh,bA,Nat.reduceAdd];repeat' (first
  |(apply aj ?_;clear hK K)|apply Rx.o ?_|(apply aA (fun o g=>?_) (fun o g=>?_)<;>try(cases o;done))|apply ah ?_|(apply ai fun K hK=>?_)|apply am ?_|apply aq ?_)
 all_goals refine qq ?_
 all_goals (simp_all[dr];try omega))
noncomputable def wm:En:=⟨8,false,ch (fun x=>x.2≠0) rj fun x=>.int .i64 (dr x.1 x.2)⟩
def HP:cT prog ρ wm:=dg fun x I=>zbr ρ x I
def wn{l:qA}(K:∀o,cV l 8 o=wm.sp o)(n m:Int)(O:m≠0)(H:Hp):aY prog (aH pls l) 8 [.int .i64 n,.int .i64 m] H fun v H'=>v=.int .i64 (dr n m)/\H'=H:=
 cF (enc:=rj) (ok:=fun x=>x.2≠0) (out:=fun x=>.int .i64 (dr x.1 x.2)) Ok (x:=(n,m)) (K _) O
def ux:qu:=[0,1,-1,2,-9223372036854775808,9223372036854775807,4294967296,-2147483648,63,64]
def rU(n U:Int):Int:=if dr n 24<10 then ux.getD (dr n 24).toNat 0 else if dr n 24<22 then cC (dr (cC (n.tdiv 24)) 17-6)else U
def zbs(H:Hp):dW prog H 50 10 [(0,.int .i64 0),(1,.int .i64 1),(2,.int .i64 (-1)),(3,.int .i64 2),(4,.int .i64 (-9223372036854775808)),(5,.int .i64 9223372036854775807),(6,.int .i64 4294967296),(7,.int .i64 (-2147483648)),(8,.int .i64 63),(9,.int .i64 64)]=some (.sl H.next 0 10 1,H.alloc (.cells (ux.map fun n=>.int .i64 n) 0 true)):=aG
def zbt(x:Int×Int):bX prog ρ 80 (rj x) (.int .i64 (rU x.1 x.2)):=eg fit (pls:=pls) (l:=[wm]) ⟨HP ρ,trivial⟩ (.cons (.int _ _) (.cons (.int _ _) .nil)) (.int _ _) (by
 have L:zd0 (aH pls [wm]) 80:=dG (fun _=>rfl) rfl;obtain⟨n,m⟩:=x;have hr:=ll (n:=n) (m:=24) ac ac;have hp:0<=dr n 24:=hr.1;rw[rj];simp only[];have Z:(24:Int)≠0:=aM;refine bF (M:=25) (rs:=[.tmp 4]) (L.call _) L.aD L.aq func80 rfl rfl Oi.2 rfl ?_;dsimp only[Oi,bA,Nat.reduceAdd];have I:=@zbs;repeat' (first
  |(apply aj ?_;clear hK K)|apply Rx.o ?_|(apply eC ?_;first|refine bi (wn (fun _=>rfl) _ _ aM _) ?_)|(apply aA (fun o g=>?_) (fun o g=>?_)<;>try(cases o;done))|apply ah ?_|(apply ai fun K hK=>?_)|apply ak ?_|apply am ?_|apply aq ?_)
 .have z:(dr n 24).toNat<10:=by omega
  have J:ux[(dr n 24).toNat]?=some (ux.getD (dr n 24).toNat 0):=by
   rw[dF,a0 (by simpa [ux]using z)];rfl
  repeat' (first
   |(apply aj ?_;clear hK K)|apply Ry.o ?_|apply ah ?_|(apply ai fun K hK=>?_)|apply ak ?_|apply am ?_|apply aq ?_)
  all_goals refine qq ?_
  rw[rU,ay jm]
 .all_goals refine qq ?_
  rw[rU,af jm,ay jm]
 .all_goals refine qq ?_
  rw[rU,af jm,af jm])
noncomputable def Dw:En:=⟨80,false,ch (fun _=>True) rj fun x=>.int .i64 (rU x.1 x.2)⟩
def zbu:cT prog ρ Dw:=dg fun x I=>zbt ρ x
def zbv{l:qA}(K:∀o,cV l 80 o=Dw.sp o)(n m:Int)(H:Hp):aY prog (aH pls l) 80 [.int .i64 n,.int .i64 m] H fun v H'=>v=.int .i64 (rU n m)/\H'=H:=
 cF (enc:=rj) (ok:=fun _=>True) (out:=fun x=>.int .i64 (rU x.1 x.2)) Ok (x:=(n,m)) (K _) trivial
def cr(f:Int):qt:=if f=0 then [[120],[121],[105],[106]]else [[110],[105]]
def sY(f:Int):(cr f).length=4\/(cr f).length=2:=by unfold cr;split<;>simp
def zbw(H:Hp)(a b c d:qw):dW prog H 60 4 [(0,.ai a),(1,.ai b),(2,.ai c),(3,.ai d)]=some (.sl H.next 0 4 1,H.alloc (.cells [.ai a,.ai b,.ai c,.ai d] 0 true)):=aG
def z7(H:Hp)(a b:qw):dW prog H 60 2 [(0,.ai a),(1,.ai b)]=some (.sl H.next 0 2 1,H.alloc (.cells [.ai a,.ai b] 0 true)):=aG
theorem zbx(f:Int):bX prog ρ 79 [.int .i64 f] (cM (cr f)):=vF (m:=3) (cfg:=aH pls []) fit (rD ρ) (fun f C r h=>by simp[aH,cV]at h) (.cons (.int _ _) .nil) (by
 have L:=fj 79;refine bF (M:=7) (rs:=[.tmp 2]) (L.call _) L.aD L.aq func79 rfl rfl Oj.2 rfl ?_;dsimp only[Oj,bA,Nat.reduceAdd];have I:=@zbw;have U:=@z7;repeat' (first
  |(apply aj ?_;clear hK K)|apply Rx.o ?_|(apply aA (fun o g=>?_) (fun o g=>?_)<;>try(cases o;done))|apply ah ?_|(apply ai fun K hK=>?_)|apply am ?_|apply aq ?_)
 .all_goals refine qq ?_
  rw[cr,ay jm];rfl
 .all_goals refine qq ?_
  rw[cr,af jm];rfl)
noncomputable def Dx:En:=⟨79,false,ch (fun _=>True) (fun n:Int=>[.int .i64 n]) fun f=>cM (cr f)⟩
def zby:cT prog ρ Dx:=dg fun x I=>zbx ρ x
def Ol{l:qA}(K:∀o,cV l 79 o=Dx.sp o)(f:Int)(H:Hp):aY prog (aH pls l) 79 [.int .i64 f] H fun v H'=>v=cM (cr f)/\H'=H:=
 cF (enc:=fun n:Int=>[.int .i64 n]) (ok:=fun _=>True) (out:=fun f=>cM (cr f)) Hm (x:=f) (K _) trivial
end
variable{s:Bd}
section
def tyG2.tyF:=ad @cR (ad @fP (@xr))
open tyG2
def ec(S:Nat->Prop)(n:Nat)(H:Hp)(v w:AV):Prop:=∃u,cW S n H v u/\∀m,n<=m->cq m u=w
def cJ(S:Nat->Prop)(n:Nat)(H:Hp)(cs i:qs):Prop:=∃J,cy (cW S n H) cs J/\∀m,n<=m->J.map (cq m)=i
def ec.frame(hS:∀k,S k->S' k){n:Nat}{v w:AV}(h:ec S n H v w)(C:H.next<=H'.next)(i:∀k,S k->k<H.next->pX (H.get k) (H'.get k)):ec S' n H' v w:=by
 obtain⟨u,Z,g⟩:=h;exact⟨u,Z.frame hS C i,g⟩
def cJ.frame(hS:∀k,S k->S' k){n:Nat}{v:qs}(h:cJ S n H v w)(C:H.next<=H'.next)(i:∀k,S k->k<H.next->pX (H.get k) (H'.get k)):cJ S' n H' v w:=by
 obtain⟨u,Z,g⟩:=h;exact⟨u,Z.mono fun a b k=>k.frame hS C i,g⟩
def cJ.keep(hS:∀k,S k->S' k){n:Nat}{v:qs}(h:cJ S n H v w)(C:H.next<=H'.next)(i:∀k,S k->k<H.next->H'.get k=H.get k):cJ S' n H' v w:=h.frame hS C fun k Z g=>.inl (i k Z g).symm
def ec.keep(hS:∀k,S k->S' k){n:Nat}{v w:AV}(h:ec S n H v w)(C:H.next<=H'.next)(i:∀k,S k->k<H.next->H'.get k=H.get k):ec S' n H' v w:=h.frame hS C fun k Z g=>.inl (i k Z g).symm
def ec.up{n m:Nat}{v w:AV}(h:ec S n H v w)(O:n<=m):ec S m H v w:=by
 obtain⟨u,i,g⟩:=h;exact⟨u,i.up O,fun k j=>g k ac⟩
def cJ.up{n m:Nat}{v:qs}(h:cJ S n H v w)(O:n<=m):cJ S m H v w:=by
 obtain⟨u,i,g⟩:=h;exact⟨u,i.mono fun a b k=>k.up O,fun k j=>g k ac⟩
def cJ.nil{n:Nat}:cJ S n H [] []:=⟨[],trivial,fun _ _=>rfl⟩
def cJ.cons{n:Nat}{v w:AV}{i:qs}(h:ec S n H v w)(k:cJ S n H cs i):cJ S n H (v::cs) (w::i):=by
 obtain⟨u,Z,g⟩:=h;obtain⟨J,Y,U⟩:=k;exact⟨u::J,⟨Z,Y⟩,fun m O=>by rw[dS,g m O,U m O]⟩
def cJ.append{S:Nat->Prop}{n:Nat}{H:Hp}:∀{a b c d:qs},cJ S n H a b->cJ S n H c d->cJ S n H (a++c) (b++d)
 |a,b,c,d,⟨u,i,g⟩,⟨v,Z,U⟩=>⟨u++v,i.append Z,fun m O=>by rw[sw,g m O,U m O]⟩
def ec.b8{n:Nat}{v:AV}(h:LN v)(j:∀m,cq m v=v):ec S (n+1) H v v:=⟨v,tY h,fun m _=>j m⟩
theorem ec.int{n:Nat}(k:IntKind)(x:Int):ec S (n+1) H (.int k x) (.int k x):=.b8 ⟨.int _ _,trivial⟩ fun m=>by cases m<;>rfl
theorem ec.ai{n:Nat}(s:qw):ec S (n+1) H (.ai s) (.ai s):=.b8 ⟨.ai _,trivial⟩ fun m=>by cases m<;>rfl
def ec.ah{n:Nat}:ec S (n+1) H .ah (.ao []):=⟨.ah,tY ⟨.ah,trivial⟩,fun m O=>by
 obtain⟨m,rfl⟩:∃k,m=k+1:=⟨m-1,ac⟩;rfl⟩
def eO(S:Nat->Prop)(n:Nat)(H:Hp)(z:Nat):List qs->List qs->Prop:=cy fun a b=>a.length=z/\cJ S n H a b
theorem Om{S:Nat->Prop}{n z:Nat}{H:Hp}:∀{a b:List qs},eO S n H z a b->∃u,cy (cy (cW S n H)) a u/\(∀m,n<=m->u.map (List.map (cq m))=b)/\∀x∈a,x.length=z
 |[],[],_=>⟨[],trivial,fun _ _=>rfl,az⟩
 |x::a,y::b,⟨⟨hz,v,h1,h2⟩,h⟩=>by
  obtain⟨u,Z,U,M⟩:=Om (a:=a) (b:=b) h;exact⟨v::u,⟨h1,Z⟩,fun m O=>by rw[dS,h2 m O,U m O],fun q K=>by
   rcases gE.1 K with rfl|K
   .exact hz
   .exact M q K⟩
def ec.rows{n:Nat}{r imm:Nat}{tip:Bool}{b:List qs}(hS:S r)(hr:r<H.next)(J:H.get r=some (.cells a.flatten imm tip))(Z:imm<=a.flatten.length)(h:eO S n H z a b):ec S (n+1) H (.sl r 0 a.length z) (.ao b):=by
 obtain⟨u,i,g,V⟩:=Om h;refine⟨.ao u,cW.rows hS hr J Z V i,fun m O=>?_⟩;obtain⟨m,rfl⟩:∃k,m=k+1:=⟨m-1,ac⟩;show AV.ao (u.map fun Y=>Y.map (cq m))=_;rw[<-g m ac]
def sZ:=@ec.rows
def eO.frame(hS:∀k,S k->S' k){n:Nat}{b:List qs}(h:eO S n H z a b)(C:H.next<=H'.next)(i:∀k,S k->k<H.next->H'.get k=H.get k):eO S' n H' z a b:=cy.mono (fun x y k=>⟨k.1,k.2.keep hS C i⟩) h
def eO.up{n m:Nat}{b:List qs}(h:eO S n H z a b)(O:n<=m):eO S m H z a b:=cy.mono (fun x y k=>⟨k.1,k.2.up O⟩) h
def cJ.cE{n:Nat}(s:qw):cJ S (n+1) H [.ai s] [.ai s]:=.cons (.ai s) .nil
theorem eO.cE{S:Nat->Prop}{n:Nat}{H:Hp}:∀l:qt,eO S (n+1) H 1 (l.map fun s=>[AV.ai s]) (l.map fun s=>[AV.ai s])
 |[]=>trivial
 |a::l=>⟨⟨rfl,cJ.cE a⟩,eO.cE l⟩
def z8{n:Nat}(k i o:Int)(s:qw){kv:AV}{g:qG}(h:ec S (n+1) H kv (.ao (g.map Ex.cells))):cJ S (n+1) H [.int .i64 k,.int .i64 i,.ai s,.int .i64 o,kv] (Ex.mk k i s o g).cells:=by
 rw[pT];exact .cons (.int _ _) (.cons (.int _ _) (.cons (.ai _) (.cons (.int _ _) (.cons h .nil))))
def uy{n:Nat}(k i o:Int)(s:qw):cJ S (n+1) H [.int .i64 k,.int .i64 i,.ai s,.int .i64 o,.ah] (Ex.mk k i s o []).cells:=z8 k i o s .ah
def b7:qu->Int×qu
 |[]=>(0,[])
 |a::l=>(a,l)
def zbz(lo:Nat)(H:Hp)(r:Nat)(v:AV)(L:qu):Prop:=(v=.ao []/\L=[])\/∃b I Y Z,v=.sl b I L.length 1/\H.get b=some (.cells Y Z true)/\Y.drop I=L.map (fun n=>AV.int .i64 n)/\b≠r/\b<lo
def iE(lo:Nat)(H:Hp)(r:Nat)(L:qu)(c:Int):Prop:=r<lo/\lo<=H.next/\∃v,H.get r=some (.cells [v,.int .i64 c] 0 true)/\zbz lo H r v L
def iE.keep{lo:Nat}{r:Nat}{c:Int}(h:iE lo H r L c)(C:H.next<=H'.next)(J:∀k,k<lo->H'.get k=H.get k):iE lo H' r L c:=by
 obtain⟨O,j,v,i,g⟩:=h;refine⟨O,ac,v,by rw[J _ O];exact i,?_⟩;rcases g with g|⟨b,I,V,Z,o,U,M,m,Y⟩
 .exact .inl g
 .exact .inr ⟨b,I,V,Z,o,by rw[J _ Y];exact U,M,m,Y⟩
noncomputable def xP:{c:SC // aI 25 (f40.body.getD .skip)=c}:=by
 refine⟨?_,?_⟩;rotate_left
 .simp only[f40,bS,aI,bM,bI,bT,bU,Nat.blt,Nat.ble];rfl
def Dy(Z:zd0 cfg 40){lo:Nat}{r:Nat}{c:Int}(h:iE lo H r L c)(hL:L.length<2^60):
 aY prog cfg 40 [.ptr r 0] H fun v H'=>v=.int .i64 (b7 L).1/\iE lo H' r (b7 L).2 c/\H'.next=H.next/\∀k,k≠r->H'.get k=H.get k:=by
 obtain⟨O,j,v,h1,h2⟩:=h;rcases h2 with⟨rfl,rfl⟩|⟨b,I,J,V,rfl,e2,i,m,e5⟩
 .refine bF (M:=25) (rs:=[.tmp 2]) (Z.call _) Z.aD Z.aq func40 rfl rfl xP.2 rfl ?_;dsimp only[xP,bA,Nat.reduceAdd];repeat' (first
   |(apply aj ?_;clear hK K)|apply Rx.o ?_|(apply aA (fun o g=>?_) (fun o g=>?_)<;>try(cases o;done))|apply ah ?_|(apply ai fun K hK=>?_)|apply am ?_|apply aq ?_)
  all_goals refine qq ?_
  exact⟨gS,⟨O,j,_,h1,.inl ⟨rfl,rfl⟩⟩,gS,fun _ _=>gS⟩
 .cases L with
  |nil=>
   refine bF (M:=25) (rs:=[.tmp 2]) (Z.call _) Z.aD Z.aq func40 rfl rfl xP.2 rfl ?_;dsimp only[xP,bA,Nat.reduceAdd];repeat' (first
    |(apply aj ?_;clear hK K)|apply Rx.o ?_|(apply aA (fun o g=>?_) (fun o g=>?_)<;>try(cases o;done))|apply ah ?_|(apply ai fun K hK=>?_)|apply am ?_|apply aq ?_)
   all_goals refine qq ?_
   exact⟨gS,⟨O,j,_,h1,.inr ⟨b,I,J,V,rfl,e2,i,m,e5⟩⟩,gS,fun _ _=>gS⟩
  |cons a L=>
   have hg:J[I]?=some (.int .i64 a):=by
    have:=jH (fun l=>l[0]?) i;simpa using this
   have hd:J.drop (I+1)=L.map (fun n=>AV.int .i64 n):=by
    have:=jH (List.drop 1) i;rw[Ez]at this;simpa using this
   have U:0<L.length+1:=ac;have Y:jA prog 22 (.sl b I (L.length+1) 1) (some (.int .i64 1)) none=if L=[]then some (.ao [])else some (.sl b (I+1) L.length 1):=by
    simp only[jA,underlying22,jL,ig];by_cases C:L=[]
    .subst C;rfl
    .have:0<L.length:=ur.2 C;rw[af C,ay ⟨ac,aO _,trivial⟩,af ac];rfl
   have hne:¬(((L.length+1:Nat):Int)=0):=ac;have hrb:(b == r)=false:=bz m;refine bF (M:=25) (rs:=[.tmp 2]) (Z.call _) Z.aD Z.aq func40 rfl rfl xP.2 rfl ?_;dsimp only[xP,bA,Nat.reduceAdd];by_cases C:L=[]
   .subst C;have hsl':jA prog 22 (.sl b I 1 1) (some (.int .i64 1)) none=some (.ao []):=Y;have hne':¬(((1:Nat):Int)=0):=aM;have hp':0<1:=aM;clear Y hne U;repeat' (first
     |(apply aj ?_;clear hK K)|apply Ry.o ?_|apply b8 ?_|(apply bq (fun o g=>?_) (fun o g=>?_)<;>try(cases o;done))|apply ah ?_|(apply ai fun K hK=>?_)|apply am ?_|apply aq ?_)
    all_goals refine qq ?_
    refine⟨gS,⟨O,j,_,gL,.inl ⟨rfl,rfl⟩⟩,gS,fun k z=>by rw[a1,af z]⟩
   .rw[af C]at Y;repeat' (first
     |(apply aj ?_;clear hK K)|apply Ry.o ?_|apply b8 ?_|(apply bq (fun o g=>?_) (fun o g=>?_)<;>try(cases o;done))|apply ah ?_|(apply ai fun K hK=>?_)|apply am ?_|apply aq ?_)
    all_goals refine qq ?_
    refine⟨gS,⟨O,j,_,Dp,.inr ⟨b,I+1,J,V,rfl,by rw[a1,af m];exact e2,hd,m,e5⟩⟩,gS,fun k z=>by rw[a1,af z]⟩
end
variable{rows:List qs}
section
def cJ.aR{n:Nat}{v:qs}(h:cJ S n H v w)(hS:∀k,k<H.next->S k->S' k)(C:H.next<=H'.next)(i:∀k,S k->k<H.next->H'.get k=H.get k):cJ S' n H' v w:=by
 obtain⟨u,Z,g⟩:=h;exact⟨u,Z.mono fun a b k=>k.bQ hS C fun q m U=>.inl (i q m U).symm,g⟩
def ec.aR{n:Nat}{v w:AV}(h:ec S n H v w)(hS:∀k,k<H.next->S k->S' k)(C:H.next<=H'.next)(i:∀k,S k->k<H.next->H'.get k=H.get k):ec S' n H' v w:=by
 obtain⟨u,Z,g⟩:=h;exact⟨u,Z.bQ hS C fun q m U=>.inl (i q m U).symm,g⟩
def eO.aR{n:Nat}{b:List qs}(h:eO S n H z a b)(hS:∀k,k<H.next->S k->S' k)(C:H.next<=H'.next)(i:∀k,S k->k<H.next->H'.get k=H.get k):eO S' n H' z a b:=cy.mono (fun x y k=>⟨k.1,k.2.aR hS C i⟩) h
theorem eO.len{S:Nat->Prop}{n z:Nat}{H:Hp}:∀{a b:List qs},eO S n H z a b->∀x∈a,x.length=z
 |[],[],_,x,I=>by simp at I
 |y::a,w::b,h,x,I=>by
  rcases gE.1 I with rfl|I
  .exact h.1.1
  .exact eO.len h.2 x I
def dQ(S:Nat->Prop)(n:Nat)(H:Hp)(z:Nat)(v:AV)(i:List qs):Prop:=
 (v=.ah/\i=[])\/∃q L Z,v=.sl q 0 Z.length z/\S q/\q<H.next/\H.get q=some (.cells Z.flatten L true)/\L<=Z.flatten.length/\eO (fun k=>S k/\k≠q) n H z Z i
theorem dQ.rd{n:Nat}{v:AV}(h:dQ S n H z v i):ec S (n+1) H v (.ao i):=by
 rcases h with⟨rfl,rfl⟩|⟨q,L,Z,rfl,Y,g,m,U,M⟩
 .exact .ah
 .exact .rows Y g m U (M.frame (fun k j=>j.1) (aO _) fun _ _ _=>rfl)
def dQ.up{n m:Nat}{v:AV}(h:dQ S n H z v i)(O:n<=m):dQ S m H z v i:=by
 rcases h with h|⟨q,L,Z,e,Y,g,V,U,M⟩
 .exact .inl h
 .exact .inr ⟨q,L,Z,e,Y,g,V,U,eO.up M O⟩
def dQ.keep{n:Nat}{v:AV}(h:dQ S n H z v i)(hS:∀k,k<H.next->S k->S' k)(C:H.next<=H'.next)(Y:∀k,S k->k<H.next->H'.get k=H.get k):dQ S' n H' z v i:=by
 rcases h with h|⟨q,L,Z,e,V,g,m,M,J⟩
 .exact .inl h
 .exact .inr ⟨q,L,Z,e,hS q g V,ac,by rw[Y q V g];exact m,M,J.aR (fun k j K=>⟨hS k j K.1,K.2⟩) C fun k U O=>Y k U.1 O⟩
def dQ.one{S:Nat->Prop}{n:Nat}{H:Hp}{z:Nat}{v:AV}{i:List qs}(h:dQ S n H z v i):AV.one v=true/\v.cells=[v]:=by
 rcases h with⟨rfl,rfl⟩|⟨q,L,Z,rfl,_⟩<;>exact⟨rfl,rfl⟩
def dQ.len(U:P.underlying t=some (.slice e)){n:Nat}{v:AV}(h:dQ S n H z v i):ij P H' t v=some (.int .i64 i.length):=by
 rcases h with⟨rfl,rfl⟩|⟨q,L,Z,rfl,Y,g,m,V,M⟩
 .exact BZ U
 .rw[y0 U,show Z.length=i.length from cy.len M]
theorem dQ.push{b:Nat}{zz:qs}(ht:P.underlying t=some (.slice e))(hs:bR P e=some z)(hb:dk P e=some b)(hz:cP P e=some zz)(i:zz.length=z)(U:iR P t=true)
 {lo n:Nat}{v:AV}{I:List qs} (h:dQ (fun k=>lo<=k) n H z v I) (C:lo<=H.next) {r imm:Nat}{row:qs} (hg:H.get r=some (.cells row imm true)) (O:row.length=z) (M:row.all AV.one=true)
 (hw:cJ (fun k=>lo<=k/\∀o m J,v≠.sl k o m J) n H row w) (j:(I.length+1)*b<=dX) (g:I.length+1<=dX) :
 ∃v' H',dm P false H t t v (.sl r 0 1 z)=some (v',H')/\dQ (fun k=>lo<=k) n H' z v' (I++[w])/\H'.next=H.next+1/\(∀k,k<H.next->(∀o m J,v≠.sl k o m J)->H'.get k=H.get k)/\∀k o m J,v'=.sl k o m J->k=H.next:=by
 have hx:fN H z (.sl r 0 1 z)=some (1,row):=by
  have:=tN (H:=H) (r:=r) (o:=0) (n:=1) (z:=z) (s:=z) hg NE;rw[this,fF,gZ ac]
 rcases h with⟨rfl,rfl⟩|⟨q,Y,Z,rfl,h1,h2,h3,h4,h5⟩
 .refine⟨.sl H.next 0 1 z,H.alloc (.cells row 0 true),append_nil ht hs hb hz U hx M i (by simpa using j) BG,.inr ⟨H.next,0,[row],rfl,C,cI _,by rw[aQ,ay rfl];simp,az,⟨⟨O,hw.aR (fun k h1 h2=>⟨h2.1,ac⟩) (dH _) fun k h1 h2=>eG⟩,trivial⟩⟩,rfl,fun k hk _=>eG,fun k o m J e=>?_⟩;simp only[AV.sl.injEq]at e;exact e.1.symm
 .have hrl:=CK (eO.len h5);have hwl:Z.length=I.length:=cy.len h5;have htr:ii false H z (.sl q 0 Z.length z)=H:=by
   unfold ii;simp only[h3,bO];have:Nat.blt (Z.length*z) Z.flatten.length=false:=by
    cases hb:Nat.blt (Z.length*z) Z.flatten.length with
    |false=>rfl
    |true=>rw[j8]at hb;omega
   simp only[oh,fT,this,jS]
  refine⟨.sl H.next 0 (Z.length+1) z,(H.aP q).alloc (.cells (Z.flatten++row) (Y-0) true),?_,.inr ⟨H.next,Y-0,Z++[row],az,C,cI _,?_,NF,?_⟩,rfl,fun k hk hno=>?_,fun k o m J e=>?_⟩
  .simp only[dm,ht,hs,hb,hz,U,hx,M,htr,i,pP,bC,mW,h3,bO,fF,dC,bH];rw[ay ⟨by rw[hwl];exact j,by rw[hwl];exact g,ac,trivial,h4⟩]
  .show((H.aP q).alloc _).get (H.aP q).next=_
   rw[aQ,ay rfl];simp
  .have L:∀k,k<H.next->k≠q->((H.aP q).alloc (.cells (Z.flatten++row) (Y-0) true)).get k=H.get k:=fun k K V=>by rw[aQ,af nI,hO,af V]
   refine cy.append (h5.aR (fun k K V=>⟨V.1,ac⟩) (dH _) fun k K V=>L k V K.2) ⟨⟨O,hw.aR (fun k K V=>⟨V.1,ac⟩) (dH _) fun k K V=>L k V fun e=>K.2 0 Z.length z mE⟩,trivial⟩
  .rw[aQ,af nI,hO,af (fun e=>hno 0 Z.length z mE)]
  .simp only[AV.sl.injEq]at e;exact e.1.symm
def On(h:∀r∈rows,r.length=z):fN H z (.ao rows)=some (rows.length,rows.flatten):=by
 simp only[fN];rw[ay (by rw[hM];intro r hr;simp[h r hr])]
def cJ.ar{n:Nat}(x:Ar):cJ S (n+1) H x.cells x.cells:=.cons (.ai _) (.cons (.int _ _) .nil)
theorem Oo{S:Nat->Prop}{n:Nat}{H:Hp}:∀l:qP,eO S (n+1) H 2 (l.map Ar.cells) (l.map Ar.cells)
 |[]=>trivial
 |a::l=>⟨⟨rfl,cJ.ar a⟩,Oo l⟩
theorem HQ:∀l:qP,(l.map Ar.cells).flatten.all AV.one=true
 |[]=>rfl
 |a::l=>by rw[dS,od,xd,a.one,HQ l];rfl
theorem zbA(m:Nat)(k:IntKind)(n:Int):cq m (.int k n)=.int k n:=by cases m<;>rfl
theorem zbB(m:Nat)(s:qw):cq m (.ai s)=.ai s:=by cases m<;>rfl
def Ar.wk(m:Nat)(x:Ar):x.cells.map (cq m)=x.cells:=by
 rw[Ar.aA];simp only[dS,mK,zbB,zbA]
theorem zbC{f:J->qs}(h:∀m x,(f x).map (cq m)=f x)(l:List J)(m:Nat):cq m (.ao (l.map f))=.ao (l.map f):=by
 cases m with
 |zero=>rfl
 |succ m=>
  simp only[cq,yN];have:(fun Y=>List.map (cq m) Y) ∘ f=f:=funext fun y=>h m y;rw[this]
def ec.agg{n:Nat}{i:qs}(h:cJ S n H cs i):ec S (n+1) H (.agg cs) (.agg i):=by
 obtain⟨J,Z,g⟩:=h;refine⟨.agg J,⟨J,Z,rfl⟩,fun m O=>?_⟩;obtain⟨m,rfl⟩:∃k,m=k+1:=⟨m-1,ac⟩;show AV.agg (J.map (cq m))=_;rw[g m ac]
theorem zbD{n:Nat}{imm:Nat}{tip:Bool}(l:qu)(hS:S q)(K:q<H.next)(J:H.get q=some (.cells (l.map fun n=>.int .i64 n) imm tip))(z:imm<=l.length):ec S (n+2) H (.sl q 0 l.length 1) (.ao (l.map fun n=>[.int .i64 n])):=by
 have i:(l.map fun n=>[AV.int .i64 n]).flatten=l.map fun n=>AV.int .i64 n:=by
  clear J z;induction l with
  |nil=>rfl
  |cons a l ih=>rw[dS,od,ih];rfl
 have hr:∀l:qu,eO S (n+1) H 1 (l.map fun n=>[AV.int .i64 n]) (l.map fun n=>[AV.int .i64 n]):=fun l=>by
  induction l with
  |nil=>trivial
  |cons a l ih=>exact⟨⟨rfl,.cons (.int _ _) .nil⟩,ih⟩
 have:=sZ (n:=n+1) (a:=l.map fun n=>[AV.int .i64 n]) (imm:=imm) (tip:=tip) hS K (by rw[i];exact J) (by rw[i,dx];exact z) (hr l);rw[dx]at this;exact this
def zbE(fit:Fit prog){ρ:Nat->Int}(j:oX cfg.b7 ρ)(V:∀f C r,cfg.call f C=some r->bX prog ρ f C r){g:FuncId}{C:qs}{r:AV}{n:Nat}
 (Z:gl C) (h:aY prog cfg g C bY fun v H'=>∃m u,iceV H' m v=some u/\cq n u=r):bX prog ρ g C r:=by
 unfold aY at h;obtain⟨v,H',i,m,u,Y,U⟩:=h;refine LM n (vF (m:=m) fit j V Z ?_) U;unfold aY;exact⟨v,H',i,Y⟩
theorem zbF{b:Nat}{zz:qs}(ht:P.underlying t=some (.slice e))(hs:bR P e=some z)(J:dk P e=some b)(hz:cP P e=some zz)(O:zz.length=z)(V:iR P t=true)
 {n:Nat}{v:AV} (h:dQ S n H z v i) (C:∀k,k<H.next->S k->S' k) (hN:S' H.next) {r imm:Nat}{row:qs} (hg:H.get r=some (.cells row imm true)) (hrow:row.length=z) (U:row.all AV.one=true)
 (L:(i.length+1)*b<=dX) (K:i.length+1<=dX) :
 ∃H' Z Y,dm P false H t t v (.sl r 0 1 z)=some (.sl H.next 0 (i.length+1) z,H')/\Z.length=i.length/\(∀x∈Z,x.length=z)/\H'.get H.next=some (.cells (Z.flatten++row) Y true)/\Y<=Z.flatten.length/\H'.next=H.next+1/\(∀k,k<H.next->(∀o m z',v≠.sl k o m z')->H'.get k=H.get k) /\
  eO (fun k=>S' k/\k≠H.next) n H' z Z i:=by
 have hx:fN H z (.sl r 0 1 z)=some (1,row):=by
  have:=tN (H:=H) (r:=r) (o:=0) (n:=1) (z:=z) (s:=z) hg NE;rw[this,fF,gZ ac]
 rcases h with⟨rfl,rfl⟩|⟨q,Y,Z,rfl,h1,h2,h3,h4,I⟩
 .exact⟨H.alloc (.cells row 0 true),[],0,append_nil ht hs J hz V hx U O (by simpa using L) wU,rfl,az,by rw[aQ,ay rfl];simp,dN _,rfl,fun k hk _=>eG,trivial⟩
 .have hrl:=CK (eO.len I);have M:Z.length=i.length:=cy.len I;have htr:ii false H z (.sl q 0 Z.length z)=H:=by
   unfold ii;simp only[h3,bO];have:Nat.blt (Z.length*z) Z.flatten.length=false:=by
    cases J:Nat.blt (Z.length*z) Z.flatten.length with
    |false=>rfl
    |true=>rw[j8]at J;omega
   simp only[oh,fT,this,jS]
  refine⟨(H.aP q).alloc (.cells (Z.flatten++row) (Y-0) true),Z,Y-0,?_,M,eO.len I,?_,ac,rfl,fun k hk g=>?_,?_⟩
  .simp only[dm,ht,hs,J,hz,V,hx,U,htr,O,pP,bC,mW,h3,bO,fF,dC,bH];rw[ay ⟨by rw[M];exact L,by rw[M];exact K,ac,trivial,h4⟩,M]
  .show((H.aP q).alloc _).get (H.aP q).next=_
   rw[aQ,ay rfl]
  .rw[aQ,af nI,hO,af (fun e=>g 0 Z.length z mE)]
  .exact I.aR (fun k j h7=>⟨C k j h7.1,ac⟩) (dH _) fun k j h7=>by rw[aQ,af nI,hO,af j.2]
def dQ.of{n imm:Nat}{row:qs}(hS:S q)(K:q<H.next)(I:∀x∈rows,x.length=z)(Z:row.length=z)(J:H.get q=some (.cells (rows.flatten++row) imm true))(V:imm<=rows.flatten.length)(hr:eO (fun k=>S k/\k≠q) n H z rows i)(L:cJ (fun k=>S k/\k≠q) n H row w):dQ S n H z (.sl q 0 (i.length+1) z) (i++[w]):=by
 have Y:rows.length=i.length:=cy.len hr;exact .inr ⟨q,imm,rows++[row],by rw[fg,Y];rfl,hS,K,by rw[J];simp,NF,hr.append ⟨⟨Z,L⟩,trivial⟩⟩
def Dz{n:Nat}{r:Nat}(l:qt)(hS:S r)(hr:r<H.next)(J:H.get r=some (.cells (l.map .ai) 0 true)):dQ S (n+1) H 1 (.sl r 0 l.length 1) (l.map fun s=>[AV.ai s]):=
 .inr ⟨r,0,l.map fun s=>[AV.ai s],by rw[dx],hS,hr,by rw[CI];exact J,dN _,eO.cE l⟩
structure FnL (pt:Nat->Nat) (b n:Nat) (H:Hp) (f:Fu) (p l bo:AV) (v:qs):Prop where
 len:v.length=5
 one:v.all AV.one=true
 ps:dQ (fun q=>pt q=b) n H 1 p (f.params.map fun s=>[AV.ai s])
 ls:dQ (fun q=>pt q=b+1) n H 1 l (f.aj.map fun s=>[AV.ai s])
 bo:dQ (fun q=>pt q=b+2) n H 17 bo (f.body.map St.cells)
 vw:cJ (fun q=>pt q=b+3) n H v f.value.cells
def DA(nm:qw)(p l M:AV)(v:qs):qs:=[.ai nm,p,l,M]++v
structure ProgL (pt:Nat->Nat) (n:Nat) (H:Hp) (ra rf:Nat) (x y:Int) (f g:Fu) (pf lf bf:AV) (vf:qs) (pg lg bg:AV) (vg:qs):Prop where
 ga:H.get ra=some (.cells [.ai [97],.int .i64 x,.ai [98],.int .i64 y] 0 true)
 gf:H.get rf=some (.cells (DA f.name pf lf bf vf++DA g.name pg lg bg vg) 0 true)
 ltA:ra<H.next
 ltF:rf<H.next
 lra:pt ra=1
 lrf:pt rf=2
 F:FnL pt 3 n H f pf lf bf vf
 G:FnL pt 7 n H g pg lg bg vg
def uz(M a b c q:Nat):Nat:=if q<=M then 0 else if q=M+1 then 1 else if q=M+7 then 2 else if q=M+3 then 3 else if q=M+4 then 4 else if q=M+5 then 7 else if q=M+6 then 8 else if q<a then 5 else if q<b then 6 else if q<c then 9 else 10
def zbG{a b:Nat}(h:M+8<=q)(h1:q<a):uz M a b c q=5:=Dq
def zbH{a b:Nat}(h:M+8<=q)(h1:a<=q)(h2:q<b):uz M a b c q=6:=Dq
def zbI{a b:Nat}(h:M+8<=q)(O:a<=q)(h1:b<=q)(h2:q<c):uz M a b c q=9:=Dq
def zbJ{a b:Nat}(h:M+8<=q)(O:a<=q)(h1:b<=q)(h2:c<=q):uz M a b c q=10:=Dq
def HR{b:Nat}{K:qs}(ht:P.underlying t=some (.slice e))(hs:bR P e=some z)(hb:dk P e=some b)(hz:cP P e=some K)(U:K.length=z)(Y:iR P t=true)
 {n:Nat}{v:AV} (h:dQ S n H z v i) (O:∀k,k<H.next->S k->S' k) (I:S' H.next) {r imm:Nat}{row:qs} (hg:H.get r=some (.cells row imm true)) (Z:row.length=z) (V:row.all AV.one=true)
 (hw:cJ (fun k=>S' k/\∀o m J,v≠.sl k o m J) n H row w) (M:(i.length+1)*b<=dX) (L:i.length+1<=dX) :
 ∃H',dm P false H t t v (.sl r 0 1 z)=some (.sl H.next 0 (i.length+1) z,H')/\dQ S' n H' z (.sl H.next 0 (i.length+1) z) (i++[w])/\H'.next=H.next+1/\(∀k,k<H.next->(∀o m J,v≠.sl k o m J)->H'.get k=H.get k):=by
 obtain⟨H',j,imm',bK,bW,a3,a4,a5,a6,a7,a8⟩:=zbF (P:=P) ht hs hb hz U Y h O I hg Z V M L;refine⟨H',bK,?_,a6,a7⟩;exact dQ.of I ac a3 Z a4 a5 a8 (hw.aR (fun k C g=>⟨g.1,ac⟩) ac fun k C g=>a7 k g C.2)
def zbK(a b:Int):dK prog 35 [(0,.int .i64 a),(1,.int .i64 b)]=some (.agg [.int .i64 a,.int .i64 b,.ah]):=aG
def zbL{J:Type}{s:List J}(h:s.length=3):∃a b c,s=[a,b,c]:=by
 match s,h with
 |[a,b,c],_=>exact⟨a,b,c,rfl⟩
def wo(H:Hp)(K:cs.length=3)(I:cs.all AV.one=true):dW prog H 30 1 [(0,.agg cs)]=some (.sl H.next 0 1 3,H.alloc (.cells cs 0 true)):=by
 obtain⟨a,b,c,rfl⟩:=zbL K;kernel_rfl
theorem zbM(a b c:AV):cQ 3 [a,b,c]=some (.agg [a,b,c]):=rfl
def eO.cZ{n:Nat}{b:List qs}(h:eO S n H z a b)(C:H.next<=H'.next)(i:∀k,S k->k<H.next->pX (H.get k) (H'.get k)):eO S n H' z a b:=cy.mono (fun x y k=>⟨k.1,k.2.frame (fun _ q=>q) C i⟩) h
def dQ.cZ{n:Nat}{v:AV}{U:List qs}(h:dQ S n H z v U)(C:H.next<=H'.next)(O:∀k,S k->k<H.next->pX (H.get k) (H'.get k)):dQ S n H' z v U:=by
 rcases h with h|⟨q,L,Z,e,V,g,m,M,I⟩
 .exact .inl h
 .have Y:=I.cZ C fun k K J=>O k K.1 J;rcases O q V g with o|⟨cs,i,j,tip,o,e2,e3⟩
  .exact .inr ⟨q,L,Z,e,V,ac,by rw[<-o];exact m,M,Y⟩
  .rw[m]at o;simp only[aJ,HB.cells.injEq]at o;obtain⟨rfl,rfl,rfl⟩:=o;exact .inr ⟨q,j,Z,e,V,ac,e2,e3 M,Y⟩
def DB(op imm:Int):cJ S 2 H [.int .i64 op,.int .i64 imm,.ah] (Nd.mk op imm []).cells:=.cons (.int _ _) (.cons (.int _ _) (.cons .ah .nil))
structure dY (a b:Bd):Prop where
 l:a.l<+:b.l
 n:a.loops<=b.loops
def dY.refl(a:Bd):dY a a:=⟨uq _,aO _⟩
def pE:=@dY.refl
def dY.trans{a b c:Bd}(h:dY a b)(k:dY b c):dY a c:=⟨h.l.trans k.l,dq h.n k.n⟩
def DC:=@dY.trans
structure Fin (s:Bd):Prop where
 r:∀x∈s.l,NdR x
 l:s.l.length<2^36
 n:s.loops<2^36
def Fin.le{a b:Bd}(h:Fin b)(k:dY a b):Fin a:=⟨fun x I=>h.r x (k.l.subset I),z5 k.l.length_le h.l,z5 k.n h.n⟩
structure Lv (a b:Bd):Prop where
 le:dY a b
 v:b.vars=a.vars
 n:b.loops=a.loops
def Lv.refl(a:Bd):Lv a a:=⟨pE a,rfl,rfl⟩
def Lv.trans{a b c:Bd}(h:Lv a b)(k:Lv b c):Lv a c:=⟨h.le.trans k.le,k.v.trans h.v,k.n.trans h.n⟩
def Lv.setS{a b:Bd}(h:Lv a b)(x:Int):Lv a {b with ab:=x}:=⟨⟨h.le.l,h.le.n⟩,h.v,h.n⟩
def dY.setS{a b:Bd}(h:dY a b)(x:Int):dY a {b with ab:=x}:=⟨h.l,h.n⟩
def dY.setV{a b:Bd}(h:dY a b)(x:qu):dY a {b with vars:=x}:=⟨h.l,h.n⟩
def dB(n:Nd)(s:Bd):Lv s (ax n s).2:=⟨⟨wl s.l n,aO _⟩,rfl,rfl⟩
def gT(c a b:Int)(s:Bd):Lv s (bZ c a b s).2:=by
 unfold bZ;split
 .exact Lv.refl s
 .exact dB _ s
def uA(t v:Int)(s:Bd):Lv s (lj t v s):=(dB _ s).setS _
def uB(t v:Int)(s:Bd):Lv s (fL t v s):=(dB _ s).trans ((dB _ _).trans (uA _ _ _))
def DD(v:Int)(s:Bd):Lv s (mn v s):=(dB _ s).trans ((dB _ _).trans (uA _ _ _))
theorem ev(c:Cx):∀(n:Nat) (x:Ex) (s:Bd) (r:Int×Bd),eX c n x s=some r->Lv s r.2
 |0,_,_,_,h=>by simp[eX]at h
 |n+1,x,s,r,h=>by
  have Z:=ev c n;unfold eX at h;split at h
  .cases h;exact dB _ s
  split at h
  .obtain⟨v,_,rfl⟩:=pK.1 h;exact Lv.refl s
  split at h
  .simp only[iA]at h;obtain⟨k,_,aK,i,a,_,rfl⟩:=h;exact(Z _ _ _ i).trans ((uB _ _ _).trans (dB _ _))
  split at h
  .simp only[iA]at h;obtain⟨k0,_,b9,O,k1,_,aK,i,k2,_,bB,g,rfl⟩:=h;have a:=(Z _ _ _ O).trans (Z _ _ _ i);have b:=(a.setS b9.2.ab).trans (Z _ _ _ g);exact(b.trans ((gT _ _ _ _).trans (gT _ _ _ _))).setS _
  .simp only[iS]at h;obtain⟨k0,_,b9,O,h⟩:=h;have a:=Z _ _ _ O;split at h
   .cases h;exact a.trans (dB _ _)
   .simp only[iA]at h;obtain⟨k1,_,aK,i,rfl⟩:=h;have b:=a.trans (Z _ _ _ i);refine Lv.trans ?_ (dB _ _);split
    .exact b.trans (DD _ _)
    .exact b
theorem uC(c:Cx)(n:Nat):∀(l:qG) (s:Bd) (r:qu×Bd),oG c n l s=some r->Lv s r.2/\r.1.length=l.length
 |[],s,r,h=>by cases h;exact⟨Lv.refl s,rfl⟩
 |x::l,s,r,h=>by
  unfold oG at h;simp only[iA]at h;obtain⟨aK,i,bB,g,rfl⟩:=h;obtain⟨a,b⟩:=uC c n l _ _ g;exact⟨(ev c n _ _ _ i).trans a,by simp[b]⟩
theorem wq(c:Int)(a:qu):∀(k i:Nat) (s r:Bd),nQ c a k i s=some r->dY s r/\r.ab=s.ab/\r.vars.length=s.vars.length/\r.loops=s.loops
 |0,i,s,r,h=>by cases h;exact⟨pE s,rfl,rfl,rfl⟩
 |k+1,i,s,r,h=>by
  unfold nQ at h;simp only[iS]at h;obtain⟨x,_,y,_,h⟩:=h;have e:=wq c a k (i+1) _ _ h;have m:=gT c x y s;have M:(bZ c x y s).2.ab=s.ab:=by unfold bZ;split<;>rfl
  refine⟨(m.le.setV _).trans e.1,e.2.1.trans M,?_,e.2.2.2.trans m.n⟩;rw[e.2.2.1,ky,m.v]
theorem ta(base:Int):∀(i:qC) (j:Nat) (s:Bd),dY s (jj base i j s)/\(jj base i j s).ab=s.ab/\(jj base i j s).vars.length=s.vars.length/\(jj base i j s).loops=s.loops
 |[],j,s=>⟨pE s,rfl,rfl,rfl⟩
 |w::i,j,s=>by
  unfold jj;have e:=ta base i (j+1) { (ax ⟨3,base+j,[]⟩ s).2 with vars:=(ax ⟨3,base+j,[]⟩ s).2.vars.set w (ax ⟨3,base+j,[]⟩ s).1};refine⟨((dB _ s).le.setV _).trans e.1,e.2.1,?_,e.2.2.2⟩;rw[e.2.2.1,ky];rfl
theorem uD(lp c:Int)(old:qu):∀(i:qC) (j:Nat) (s:Bd),dY s (iC lp c old i j s)/\(iC lp c old i j s).ab=s.ab/\(iC lp c old i j s).vars.length=s.vars.length/\(iC lp c old i j s).loops=s.loops
 |[],j,s=>⟨pE s,rfl,rfl,rfl⟩
 |w::i,j,s=>by
  unfold iC;simp only[];have m:=(dB ⟨25,j,[lp]⟩ s).trans (gT c (ax ⟨25,j,[lp]⟩ s).1 (old.getD w 0) (ax ⟨25,j,[lp]⟩ s).2);have M:(bZ c (ax ⟨25,j,[lp]⟩ s).1 (old.getD w 0) (ax ⟨25,j,[lp]⟩ s).2).2.ab=s.ab:=by unfold bZ;split<;>rfl
  generalize bZ c (ax ⟨25,j,[lp]⟩ s).1 (old.getD w 0) (ax ⟨25,j,[lp]⟩ s).2=q at *;have e:=uD lp c old i (j+1) {q.2 with vars:=q.2.vars.set w q.1};refine⟨(m.le.setV _).trans e.1,e.2.1.trans M,?_,e.2.2.2.trans m.n⟩;rw[e.2.2.1,ky,m.v]
theorem mp(c:Cx):∀n:Nat,(∀x s r,nR c n x s=some r->dY s r/\r.vars.length=s.vars.length)/\(∀l s r,gK c n l s=some r->dY s r/\r.vars.length=s.vars.length)/\(∀x s r,oH c n x s=some r->dY s r/\r.vars.length=s.vars.length)
 |0=>⟨fun _ _ _ h=>by simp[nR]at h,fun _ _ _ h=>by simp[gK]at h,fun _ _ _ h=>by simp[oH]at h⟩
 |n+1=>by
  obtain⟨K,Y,C⟩:=mp c n;refine⟨fun x s r h=>?_,fun l s r h=>?_,fun x s r h=>?_⟩
  .unfold nR at h;split at h
   .simp only[iS]at h;obtain⟨v,Z,h⟩:=h;split at h
    .cases h;have a:=ev c n _ _ _ Z;exact⟨a.le.setV _,by rw[ky,a.v]⟩
    .cases h
   split at h
   .simp only[iA]at h;obtain⟨i,Z,v,g,a,_,rfl⟩:=h;have a:=(ev c n _ _ _ Z).trans ((ev c n _ _ _ g).trans ((uB a.len i.1 v.2).trans (dB ⟨28,cY (c.aa.map (·.name)) x.name,[(fL a.len i.1 v.2).ab,i.1,v.1]⟩ _)));exact⟨a.le.setS _,by show List.length (Bd.vars _)=_;rw[a.v]⟩
   split at h
   .simp only[iA]at h;obtain⟨q,Z,a,g,b,U,m,z,rfl⟩:=h;have o:=ev c n _ _ _ Z;have J:=Y _ _ _ g;have L:=Y _ _ _ U;have V:=wq _ _ _ _ _ _ z;have I:=gT q.1 a.ab m.ab m;have k:dY a b:=⟨L.1.l,L.1.n⟩;refine⟨(o.le.trans (J.1.trans (k.trans (V.1.trans I.le)))).setS _,?_⟩;show(bZ q.1 a.ab m.ab m).2.vars.length=_;rw[I.v,V.2.2.1,L.2];show q.2.vars.length=_;rw[o.v]
   split at h
   .exact C _ _ _ h
   split at h
   .simp only[iA]at h;obtain⟨v,Z,rfl⟩:=h;have a:=(ev c n _ _ _ Z).trans (dB ⟨29,0,[v.2.ab,v.1]⟩ v.2);exact⟨a.le.setS _,by show List.length (Bd.vars _)=_;rw[a.v]⟩
   split at h
   .simp only[iS]at h;obtain⟨O,Z,h⟩:=h;split at h
    .cases h;have a:=(uC c n _ _ _ Z).1;have b:=a.le.trans (dB ⟨30,dc c.funcs x.to 0,O.2.ab::O.1⟩ O.2).le;refine⟨dY.setV (DC (b.setS _) (dB _ _).le) _,?_⟩;rw[ky];exact jH List.length a.v
    .cases h
   split at h
   .cases h;have a:=(dB ⟨1,0,[]⟩ s).trans (uA (cC (16+x.n)) (ax ⟨1,0,[]⟩ s).1 _);exact⟨a.le,by rw[a.v]⟩
   .cases h;exact⟨pE s,rfl⟩
  .unfold gK at h;cases l with
   |nil=>cases h;exact⟨pE s,rfl⟩
   |cons x l=>
    simp only[iS]at h;obtain⟨q,Z,g⟩:=h;have a:=K _ _ _ Z;have b:=Y _ _ _ g;exact⟨a.1.trans b.1,b.2.trans a.2⟩
  .unfold oH at h;simp only[iA]at h;obtain⟨q,Z,b,_,t,g,d,U,rfl⟩:=h;have o:=ev c n _ _ _ Z;have M:dY s q.2:=⟨o.le.l,dq (dH _) o.le.n⟩;have p:=dB ⟨3,16*(s.loops:Int),[]⟩ q.2;have J:=ta (16*(s.loops:Int)+1) (gJ b) 0 { (ax ⟨3,16*(s.loops:Int),[]⟩ q.2).2 with ab:=(ax ⟨3,16*(s.loops:Int),[]⟩ q.2).1};have L:=Y _ _ _ g;have V:=ev c n _ _ _ U;have bK:dY s d.2:=M.trans ((p.le.setS _).trans (J.1.trans (L.1.trans V.le)));refine⟨?_,?_⟩
   .refine DC ?_ (uD _ _ _ _ _ _).1;refine dY.setS ?_ _;refine DC (DC ?_ (dB _ _).le) (gT _ _ _ _).le;refine dY.setV ?_ _;exact bK.trans (dB _ _).le
   .rw[(uD _ _ _ _ _ _).2.2.1];show(bZ _ _ _ _).2.vars.length=_;rw[(gT _ _ _ _).v];show q.2.vars.length=_;rw[o.v]
structure Qx where
 p:Pr
 b:Nat
 nv:AV
 ns:List cc
def bV(X:Qx)(s:Bd)(O vv:AV):qs:=[.ao (X.p.aa.map Ar.cells),.ao (X.p.funcs.map Fu.cells),O,X.nv,vv,.int .i64 s.ab,.int .i64 s.loops]
structure zd1 (X:Qx) (H:Hp) (S:Nat->Prop) (s:Bd) (lv vv:AV):Prop where
 m:H.get X.b=some (.cells (bV X s lv vv) 0 true)
 nm:dZ H X.nv X.ns 0
 ag:dQ S 2 H 3 lv (s.l.map Nd.cells)
 vars:ik H vv s.vars 0
 o5:X.b<H.next
 nS:∀k,bc X.nv k->X.b<k/\k<H.next/\¬S k/\¬bc vv k
 sS:∀k,S k->X.b<k/\k<H.next/\¬bc vv k
 vS:∀k,bc vv k->X.b<k/\k<H.next
structure FrQ (X:Qx) (S:Nat->Prop) (vv:AV) (H:Hp) (S':Nat->Prop) (vv':AV) (H':Hp):Prop where
 next:H.next<=H'.next
 get:∀k,k<H.next->k≠X.b->¬S k->¬bc vv k->H'.get k=H.get k
 sub:∀k,S' k->S k\/H.next<=k
 own:∀k,bc vv' k->bc vv k\/H.next<=k
def FrQ.refl(X:Qx)(S:Nat->Prop)(vv:AV)(H:Hp):FrQ X S vv H S vv H:=⟨aO _,fun _ _ _ _ _=>rfl,fun _ h=>.inl h,fun _ h=>.inl h⟩
def fd:=@FrQ.refl
def FrQ.trans{X:Qx}{Z:Nat->Prop}{v z:AV}{K:Hp}(h:FrQ X S v H S' z H')(k:FrQ X S' z H' Z Y K):FrQ X S v H Z Y K where
 next:=dq h.next k.next
 get r h1 h2 h4 h5:=by
  rw[k.get r (mZ h1 h.next) h2 (fun e=>?_) (fun e=>?_)]
  .exact h.get r h1 h2 h4 h5
  .rcases h.sub r e with e|e
   .exact h4 e
   .omega
  .rcases h.own r e with e|e
   .exact h5 e
   .omega
 sub r e:=by
  rcases k.sub r e with e|e
  .exact h.sub r e
  .exact .inr (dq h.next e)
 own r e:=by
  rcases k.own r e with e|e
  .exact h.own r e
  .exact .inr (dq h.next e)
section
variable {X:Qx} {H H':Hp} {S:Nat -> Prop} {s:Bd} {lv vv:AV}
def zd1.keep(h:zd1 X H S s lv vv)(C:H.next<=H'.next)(J:∀k,k<H.next->(k<=X.b\/S k\/bc vv k\/bc X.nv k)->H'.get k=H.get k):zd1 X H' S s lv vv:=by
 have I:=h.o5;refine⟨by rw[J _ I (.inl (aO _))];exact h.m,h.nm.keep C fun k j=>J k (h.nS k j).2.1 (.inr (.inr (.inr j))),h.ag.keep (fun _ _ h=>h) C fun k j K=>J k K (.inr (.inl j)),h.vars.keep C fun k j=>J k (h.vS k j).2 (.inr (.inr (.inl j))),ac,fun k j=>?_,fun k j=>?_,fun k j=>?_⟩
 .have:=h.nS k j;exact⟨this.1,ac,this.2.2⟩
 .have:=h.sS k j;exact⟨this.1,ac,this.2.2⟩
 .have:=h.vS k j;omega
def zd1.alloc(h:zd1 X H S s lv vv)(b:HB):zd1 X (H.alloc b) S s lv vv:=h.keep (dH _) fun k j _=>eG
def FrQ.alloc{bY:Hp}(h:FrQ X o O bY S vv H)(b:HB):FrQ X o O bY S vv (H.alloc b):=h.trans ⟨dH _,fun k j _ _ _=>eG,fun _ h=>.inl h,fun _ h=>.inl h⟩
def zd1.setS(h:zd1 X H S s lv vv)(x:Int):zd1 X (H.set X.b (.cells (bV X {s with ab:=x} lv vv) 0 true)) S {s with ab:=x} lv vv/\FrQ X S vv H S vv (H.set X.b (.cells (bV X {s with ab:=x} lv vv) 0 true)):=by
 have I:=h.o5;have J:∀k,k≠X.b->(H.set X.b (.cells (bV X {s with ab:=x} lv vv) 0 true)).get k=H.get k:=fun k j=>uo;refine⟨⟨gL,h.nm.keep (aO _) fun k j=>J k Hy,h.ag.keep (fun _ _ h=>h) (aO _) fun k j K=>J k HA,h.vars.keep (aO _) fun k j=>J k (by have:=h.vS k j;omega),I,h.nS,h.sS,h.vS⟩,⟨aO _,fun k _ g _ _=>J k g,fun _ h=>.inl h,fun _ h=>.inl h⟩⟩
def zd1.cn(h:zd1 X H S s lv vv)(x:Nat):zd1 X (H.set X.b (.cells (bV X {s with loops:=x} lv vv) 0 true)) S {s with loops:=x} lv vv/\FrQ X S vv H S vv (H.set X.b (.cells (bV X {s with loops:=x} lv vv) 0 true)):=by
 have I:=h.o5;have J:∀k,k≠X.b->(H.set X.b (.cells (bV X {s with loops:=x} lv vv) 0 true)).get k=H.get k:=fun k j=>uo;refine⟨⟨gL,h.nm.keep (aO _) fun k j=>J k Hy,h.ag.keep (fun _ _ h=>h) (aO _) fun k j K=>J k HA,h.vars.keep (aO _) fun k j=>J k (by have:=h.vS k j;omega),I,h.nS,h.sS,h.vS⟩,⟨aO _,fun k _ g _ _=>J k g,fun _ h=>.inl h,fun _ h=>.inl h⟩⟩
def zd1.setV(h:zd1 X H S s lv vv){i:Nat}(z:i<s.vars.length)(x:Int):∃r,ey prog 22 vv (.int .i64 (i:Int))=some (.ptr r i)/\eY prog H 3 (.ptr r i)=some (.int .i64 (s.vars.getD i 0)) /\
 ∃H',mB prog H 3 (.ptr r i) (.int .i64 x)=some H'/\X.b<r/\r<H.next/\bc vv r/\zd1 X H' S {s with vars:=s.vars.set i x} lv vv/\FrQ X S vv H S vv H'/\(∀k,k≠r->H'.get k=H.get k)/\H'.next=H.next:=by
 rcases h.vars with⟨_,O⟩|⟨r,V,J,g,hr⟩
 .rw[O]at z;simp at z
 .have Z:bc vv r:=⟨_,V⟩;have Y:=(h.vS r Z).1;refine⟨r,?_,?_,H.set r (.cells ((s.vars.set i x).map (.int .i64)) 0 true),?_,Y,hr,Z,?_,⟨aO _,fun k _ _ _ M=>?_,fun _ h=>.inl h,fun _ h=>.inl h⟩,fun k j=>uo,rfl⟩
  .rw[V,tM underlying22 jL z];simp
  .rw[vt underlying3 rfl J,fO,dF,a0 z];rfl
  .rw[zx J (by rw[dx];exact z),vI]
  .have I:=h.o5;have j:∀k,k≠r->(H.set r (.cells ((s.vars.set i x).map (.int .i64)) 0 true)).get k=H.get k:=fun k j=>uo;refine⟨by rw[j _ ac];exact h.m,h.nm.keep (aO _) fun k U=>j k fun e=>(h.nS k U).2.2.2 (by rw[e];exact Z),h.ag.keep (fun _ _ h=>h) (aO _) fun k hS _=>j k fun e=>(h.sS k hS).2.2 (by rw[e];exact Z),.inr ⟨r,by rw[V,ky],gL,g,hr⟩,I,h.nS,h.sS,h.vS⟩
  .rw[a1,af (fun e=>M (by rw[e];exact Z))]
def zd1.swapV(h:zd1 X H S s lv vv){vw:AV}{l:qu}(L:ik H vw l 0)(h1:∀k,bc vw k->X.b<k/\k<H.next/\¬S k/\¬bc X.nv k):zd1 X (H.set X.b (.cells (bV X {s with vars:=l} lv vw) 0 true)) S {s with vars:=l} lv vw:=by
 have I:=h.o5;have J:∀k,k≠X.b->(H.set X.b (.cells (bV X {s with vars:=l} lv vw) 0 true)).get k=H.get k:=fun k j=>uo;exact⟨gL,h.nm.keep (aO _) fun k j=>J k Hy,h.ag.keep (fun _ _ h=>h) (aO _) fun k j K=>J k HA,L.keep (aO _) fun k j=>J k (by have:=h1 k j;omega),I,fun k j=>⟨(h.nS k j).1,(h.nS k j).2.1,(h.nS k j).2.2.1,fun e=>(h1 k e).2.2.2 j⟩,fun k j=>⟨(h.sS k j).1,(h.sS k j).2.1,fun e=>(h1 k e).2.2.1 j⟩,fun k j=>⟨(h1 k j).1,(h1 k j).2.1⟩⟩
end
def rk(X:Qx)(S:Nat->Prop)(vv:AV)(H:Hp)(r:Int×Bd)(v:AV)(H':Hp):Prop:=v=.int .i64 r.1/\∃g z,zd1 X H' g r.2 z vv/\FrQ X S vv H g vv H'
def oI(X:Qx)(S:Nat->Prop)(vv:AV)(H:Hp)(r:Bd)(v:AV)(H':Hp):Prop:=∃g z i,zd1 X H' g r z i/\FrQ X S vv H g i H'
def zbN(X:Qx)(S:Nat->Prop)(vv:AV)(H:Hp)(r:Bd)(v:AV)(H':Hp):Prop:=∃g z,zd1 X H' g r z vv/\FrQ X S vv H g vv H'
def zd1.new{X:Qx}{vv:AV}(h:zd1 X H S s O vv){r:Nat}(hr:H.next<=r):¬S r/\¬bc vv r/\X.b<r:=⟨fun e=>by have:=(h.sS r e).2.1;omega,fun e=>by have:=(h.vS r e).2;omega,by have:=h.o5;omega⟩
def rk.cu{X:Qx}{vv:AV}{bY:Hp}{r:Int×Bd}{v:AV}(h:rk X S vv H r v H')(i:FrQ X o vv bY S vv H):rk X o vv bY r v H':=by
 obtain⟨Z,g,z,Y,m⟩:=h;exact⟨Z,g,z,Y,i.trans m⟩
def oI.cu{X:Qx}{vv:AV}{bY:Hp}{r:Bd}{v:AV}(h:oI X S vv H r v H')(Z:FrQ X o O bY S vv H):oI X o O bY r v H':=by
 obtain⟨g,z,i,Y,m⟩:=h;exact⟨g,z,i,Y,Z.trans m⟩
def FrQ.box{X:Qx}{I Z:Hp}{g:Nat->Prop}{vv i:AV}(o:zd1 X I S s O vv){b:HB}(h:FrQ X S vv (I.alloc b) g i Z):Z.get I.next=some b:=by
 have n:=o.new (aO _);rw[h.get _ (cI _) (by have:=n.2.2;omega) n.1 n.2.1,aQ,ay rfl]
def fM:=@FrQ.box
theorem zd1.atV{X:Qx}{vv:AV}(h:zd1 X H S s O vv){i:Nat}(z:s.vars[i]?=some x):∃r,ey prog 22 vv (.int .i64 (i:Int))=some (.ptr r i)/\eY prog H 3 (.ptr r i)=some (.int .i64 x):=by
 have Z:i<s.vars.length:=by
  by_cases c:i<s.vars.length
  .exact c
  .rw[kV ac]at z;cases z
 obtain⟨r,Y,g,_⟩:=h.setV Z 0;refine⟨r,Y,?_⟩;rw[g,dF,z];rfl
structure Lx where
 p:Pr
 b:Nat
 ra:Nat
 rf:Nat
 rt:Nat
 rn:Nat
 ae:List (cc×Int)
 fe:List (cc×Int)
 ne:List (cc×Int)
structure Sm (n:Nat) (H H':Hp):Prop where
 get:∀k,k<n->H'.get k=H.get k
section
variable {X:Lx} {H H':Hp} {S:Nat -> Prop} {s:Bd} {lv vv:AV}
end
namespace tyLoB
end tyLoB
open tyLoB
def zbO(f:FuncId):Bool:=Nat.beq f 103||Nat.beq f 60||Nat.beq f 61||Nat.beq f 62||Nat.beq f 63||Nat.beq f 104||Nat.beq f 105||Nat.beq f 106||Nat.beq f 107||Nat.beq f 132||Nat.beq f 133||Nat.beq f 134||Nat.beq f 150||Nat.beq f 30
structure LowT (tb:qA):Prop where
 pl:∀f,zbO f=true->(∀ar,cV tb f ar=none)/\iL tb f=false
def fI.len'{v:AV}{l:qu}{lo:Nat}(h:fI H v l lo)(H':Hp):ij prog H' 22 v=some (.int .i64 l.length):=by
 rcases h with⟨rfl,rfl⟩|h
 .exact BZ underlying22
 .exact h.len
def Oq{kv:AV}{kids:qu}{lo:Nat}(op imm:Int)(j:fI H kv kids lo)(hS:∀k,bc kv k->S k):cJ S 2 H [.int .i64 op,.int .i64 imm,kv] (Nd.mk op imm kids).cells:=by
 refine .cons (.int _ _) (.cons (.int _ _) (.cons ?_ .nil));rcases j with⟨rfl,rfl⟩|⟨r,i,rfl,g,m,U,M⟩
 .exact .ah
 .exact zbD kids (hS r ⟨_,rfl⟩) M g m
def zbP{kv:AV}{l:qu}{lo:Nat}(h:fI H kv l lo)(a b:Int):dK prog 35 [(0,.int .i64 a),(1,.int .i64 b),(2,kv)]=some (.agg [.int .i64 a,.int .i64 b,kv]):=by
 rcases h with⟨rfl,rfl⟩|⟨r,i,rfl,_⟩<;>kernel_rfl
theorem fI.one{H:Hp}{kv:AV}{l:qu}{lo:Nat}(h:fI H kv l lo):AV.one kv=true:=by
 rcases h with⟨rfl,rfl⟩|⟨r,i,rfl,_⟩<;>rfl
end
variable{v:AV}{m:Nat}{l:qu}{b:qO}
section
def tyLoC.tyF:=ad @cR (ad @dt (ad @fP (ad @gH (ad @iU (ad @iV (ad @gO (ad @l9 (ad @xq (@Cg)))))))))
open tyLoC
def HS{r o n:Nat}(h:bc (.sl r o n z) k):k=r:=by
 obtain⟨m,e⟩:=h;simp only[AV.sl.injEq]at e;exact e.1.symm
def wr(h:bc .ah k):False:=by
 obtain⟨m,e⟩:=h;cases e
def z9(H:Hp)(a b:Int):dW prog H 22 2 [(0,.int .i64 a),(1,.int .i64 b)]=some (.sl H.next 0 2 1,H.alloc (.cells [.int .i64 a,.int .i64 b] 0 true)):=aG
def Ot(H:Hp)(a b c:Int):dW prog H 22 3 [(0,.int .i64 a),(1,.int .i64 b),(2,.int .i64 c)]=some (.sl H.next 0 3 1,H.alloc (.cells [.int .i64 a,.int .i64 b,.int .i64 c] 0 true)):=aG
def xQ(H:Hp)(a:Int):dW prog H 22 1 [(0,.int .i64 a)]=some (.sl H.next 0 1 1,H.alloc (.cells [.int .i64 a] 0 true)):=aG
end
section
namespace tyLoD
end tyLoD
open tyLoD
structure CxOk (X:Lx) (c:Cx):Prop where
 ar:c.aa=X.p.aa
 ae:∀nm,hY X.ae nm=cY (c.aa.map (·.name)) nm
 ne:∀nm,hY X.ne nm=cY c.aw nm
 fe:∀nm,0<=dc c.funcs nm 0->hY X.fe nm=dc c.funcs nm 0
end
section
def tyLoE.tyF:=ad @cR (ad @vz (ad @dt (ad @fP (ad @iU (ad @gO (ad @fb (ad @eA (ad @fc (ad @xq (ad @Cg (ad @Ci (@fG))))))))))))
open tyLoE
def zbQ(q:Nat)(H:Hp)(b:qO)(v:AV)(H':Hp):Prop:=H'.get q=some (.cells (b.map .bool) 0 true)/\H.next<=H'.next/\∀k,k<H.next->k≠q->H'.get k=H.get k
structure Smq (n q:Nat) (H H':Hp):Prop where
 get:∀k,k<n->k≠q->H'.get k=H.get k
theorem wt(K:List cc):∀(n:Nat) (l:qD) (b I:qO),mS K n l b=some I->I.length=b.length
 |0,_,_,_,h=>by simp[mS]at h
 |n+1,[],b,I,h=>by cases h;rfl
 |n+1,x::l,b,I,h=>by
  unfold mS at h;simp only[]at h;split at h
  .cases h
  .simp only[iS]at h;obtain⟨i,g,Z,m,U⟩:=h;rw[wt K n _ _ _ U,wt K n _ _ _ m,wt K n _ _ _ g];split<;>simp
def Ou{n:Nat}(O:m<n):ey prog 114 (.sl q 0 n 1) (.int .i64 (m:Int))=some (.ptr q m):=by rw[tM underlying114 Cb O];simp
def zbR{r:Nat}(J:H.get r=some (.cells (b.map .bool) 0 true))(O:m<b.length)(x:Bool):mB prog H 4 (.ptr r m) (.bool x)=some (H.set r (.cells ((b.set m x).map .bool) 0 true)):=by
 rw[YZ J (by rw[dx];exact O),vI]
end
section
namespace tyLoF6
end tyLoF6
open tyLoF6
structure RowL (S:Nat->Prop) (vv:AV) (lo:Nat) (H:Hp) (av:AV) (l:qu):Prop where
 r:fI H av l lo
 n:∀k,bc av k->¬S k/\¬bc vv k
section
variable {tb:qA} (hG:LowT tb) {X:Lx} {c:Cx} (hX:CxOk X c) {x:St} {s:Bd} {H:Hp} {S:Nat -> Prop} {lv vv:AV}
set_option maxRecDepth 100000 in
include hG hX in
end
end
section
def tyLoG.tyF:=ad @ez (ad @cR (ad @dt (ad @fP (ad @iU (ad @gO (ad @fb (ad @eA (ad @fc (ad @xq (ad @Cg (@fG)))))))))))
open tyLoG
structure RowZ (S:Nat->Prop) (vv:AV) (lo:Nat) (H:Hp) (av:AV) (l:qu):Prop where
 r:ik H av l lo
 n:∀k,bc av k->¬S k/\¬bc vv k
def ik.lt{lo:Nat}(h:ik H v l lo)(j:bc v k):lo<=k/\k<H.next:=h.n.lt j
def ik.lo{lo lo':Nat}(h:ik H v l lo)(K:∀k,bc v k->lo'<=k):ik H v l lo':=by
 rcases h with h|⟨r,i,g,m,U⟩
 .exact .inl h
 .exact .inr ⟨r,i,g,K r ⟨_,i⟩,U⟩
def ik.one{H:Hp}{v:AV}{l:qu}{lo:Nat}(h:ik H v l lo):AV.one v=true/\v.cells=[v]:=by
 rcases h with⟨rfl,_⟩|⟨r,rfl,_⟩<;>exact⟨rfl,rfl⟩
def RowZ.at{vv:AV}{lo:Nat}(h:RowZ S vv lo H Y l){i:Nat}(Z:l[i]?=some x):∃r,ey prog 22 Y (.int .i64 (i:Int))=some (.ptr r i)/\eY prog H 3 (.ptr r i)=some (.int .i64 x)/\bc Y r:=by
 have z:i<l.length:=by
  by_cases c:i<l.length
  .exact c
  .rw[kV ac]at Z;cases Z
 rcases h.r with⟨_,rfl⟩|g
 .simp at z
 .obtain⟨r,m,U⟩:=g.b.at z;rw[a0 z]at Z;simp only[aJ]at Z;rw[Z]at U;refine⟨r,m,U,?_⟩;obtain⟨q,e,_⟩:=g;subst e;rw[tM underlying22 jL z]at m;simp only[aJ,AV.ptr.injEq]at m;exact⟨_,by rw[m.1]⟩
section
variable {tb:qA} (hG:LowT tb) {X:Lx} {c:Cx} (hX:CxOk X c) {x:St} {s:Bd} {H:Hp} {S:Nat -> Prop} {lv vv:AV}
set_option maxRecDepth 100000 in
include hG hX in
end
end
section
def tyLoH.tyF:=ad @ez (ad @cR (ad @vz (ad @dt (ad @fP (ad @iU (ad @gO (ad @fb (ad @eA (ad @fc (ad @xq (ad @Cg (ad @Ci (ad @fG (ad @xQ (@z9)))))))))))))))
open tyLoH
abbrev wu(l:qC):qu:=l.map fun(i:Nat)=>(i:Int)
theorem zbS{r imm:Nat}(J:H.get r=some (.cells (b.map .bool) imm true))(O:m<b.length):eY prog H 4 (.ptr r m)=some (.bool (b.getD m false)):=by
 rw[vt underlying4 rfl J,fO,dF,a0 O];rfl
def ww(b:qO)(i:Nat):qC:=(List.range i).filter fun i=>b.getD i false
theorem zbT(b:qO)(i:Nat):ww b (i+1)=ww b i++(if b.getD i false=true then [i]else []):=by
 unfold ww;rw[List.range_succ,List.filter_append]
 congr 1
 by_cases h:b.getD i false=true
 .rw[ay h];simp only[List.filter_cons,h,bC,List.filter_nil]
 .rw[af h];simp only[List.filter_cons,h,List.filter_nil];rfl
def HT{i:Nat}(h:i∈gJ b):i<b.length:=by
 unfold gJ at h;exact mF.1 (xf.1 h).1
def Ov(b:qO)(i:Nat):(ww b i).length<=i:=by
 have:=List.length_filter_le (fun i=>b.getD i false) (List.range i);rw[List.length_range]at this;exact this
def RowL.at{vv:AV}{lo:Nat}(h:RowL S vv lo H Y l){i:Nat}(Z:l[i]?=some x):∃r,ey prog 22 Y (.int .i64 (i:Int))=some (.ptr r i)/\eY prog H 3 (.ptr r i)=some (.int .i64 x):=by
 have z:i<l.length:=by
  by_cases c:i<l.length
  .exact c
  .rw[kV ac]at Z;cases Z
 rcases h.r with⟨_,rfl⟩|g
 .simp at z
 .obtain⟨r,m,U⟩:=g.at z;rw[a0 z]at Z;simp only[aJ]at Z;rw[Z]at U;exact⟨r,m,U⟩
def Ow{L j:Nat}(J:L<2^36)(m:j<2^36):IntKind.wrap .i64 (16*(L:Int))=16*(L:Int)/\IntKind.wrap .i64 (16*(L:Int)+j)=16*(L:Int)+j/\IntKind.wrap .i64 (16*(L:Int)+j+1)=16*(L:Int)+1+j:=by
 refine⟨iN ac ac,iN ac ac,?_⟩;rw[iN ac ac];omega
theorem Oz(base:Int)(w:Nat)(i:qC)(j:Nat)(s:Bd):jj base (w::i) j s=jj base i (j+1) { (ax ⟨3,base+j,[]⟩ s).2 with vars:=(ax ⟨3,base+j,[]⟩ s).2.vars.set w (ax ⟨3,base+j,[]⟩ s).1}:=rfl
theorem OA(lp c:Int)(old:qu)(w:Nat)(i:qC)(j:Nat)(s:Bd):iC lp c old (w::i) j s=iC lp c old i (j+1) { (bZ c (ax ⟨25,j,[lp]⟩ s).1 (old.getD w 0) (ax ⟨25,j,[lp]⟩ s).2).2 with vars:=(bZ c (ax ⟨25,j,[lp]⟩ s).1 (old.getD w 0) (ax ⟨25,j,[lp]⟩ s).2).2.vars.set w (bZ c (ax ⟨25,j,[lp]⟩ s).1 (old.getD w 0) (ax ⟨25,j,[lp]⟩ s).2).1}:=rfl
def zbU(b:qO):(gJ b).Nodup:=List.nodup_range.filter _
section
variable {tb:qA} (hG:LowT tb) {X:Lx} {c:Cx} (hX:CxOk X c) {x:St} {s:Bd} {H:Hp} {S:Nat -> Prop} {lv vv:AV}
set_option maxRecDepth 100000 in
include hG hX in
end
end
section
namespace tyLoJ
end tyLoJ
open tyLoJ
theorem Ac:∀(n k:Nat) (s:Bd),dY s (iD n k s)/\(iD n k s).vars.length=s.vars.length+n
 |0,k,s=>⟨pE s,rfl⟩
 |n+1,k,s=>by
  have e:=Ac n (k+1) { (ax ⟨2,k,[]⟩ s).2 with vars:=(ax ⟨2,k,[]⟩ s).2.vars++[(ax ⟨2,k,[]⟩ s).1] };refine⟨(((dB ⟨2,k,[]⟩ s).le.setV _)).trans e.1,?_⟩;show(iD n (k+1) _).vars.length=_;rw[e.2,fg];show s.vars.length+1+n=_;omega
theorem Ad:∀(n:Nat) (s:Bd),dY s (kH n s)/\(kH n s).vars.length=s.vars.length+n
 |0,s=>⟨pE s,rfl⟩
 |n+1,s=>by
  have e:=Ad n { (ax ⟨1,0,[]⟩ s).2 with vars:=(ax ⟨1,0,[]⟩ s).2.vars++[(ax ⟨1,0,[]⟩ s).1] };refine⟨(((dB ⟨1,0,[]⟩ s).le.setV _)).trans e.1,?_⟩;show(kH n _).vars.length=_;rw[e.2,fg];show s.vars.length+1+n=_;omega
end
end Go.Proofs.Ytbflaciihaijgaa
