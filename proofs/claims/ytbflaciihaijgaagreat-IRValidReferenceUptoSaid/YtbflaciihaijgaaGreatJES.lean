/- Lemmas for the last file. -/
import Derived.Test.YtbflaciihaijgaaGreatJER
import Derived.Test.YtbflaciihaijgaaGreatRows
set_option linter.all false
set_option maxHeartbeats 32000000
namespace Go.Ab
set_option maxRecDepth 20000
open Go
variable{qf:Prop}
def Hf(h:qf:=by simp only[aZ,tc];omega):=h
def Cy(h:qf:=by have:=hf3 n C;omega):=h
def Cz(h:qf:=by have:=hg3 n C;omega):=h
def Wa(h:qf:=by rw[aD,if_neg zG,gN,if_neg ac,Z k M]):=h
def zX:=@List.sum_cons
def Hg:=@List.flatten_nil
def Hh:=@List.sum_nil
end Go.Ab
namespace Go.Ab
set_option maxRecDepth 20000
open Go Go.WideShapes Go.Deep Go.RowKit Go.ChangeShapes Go.Proofs.YtbflaciihaijgaaGreat
inductive Sh (P:Program):Nat->TypeId->qt->Prop
 |int {t:TypeId}{k:IntKind} (n:Int) (ht:P.underlying t=some (.int k)) (hw:(Lit.int k n).wf=true):Sh P 1 t [.int k n]
 |bool {t:TypeId} (b:Bool) (ht:P.underlying t=some .bool):Sh P 1 t [.bool b]
 |aq {t:TypeId} (s:qx) (ht:P.underlying t=some .string):Sh P (s.length+1) t [.aq s]
 |rows {t e:TypeId} (l:List (qt×Nat)) (ht:P.underlying t=some (.slice e)) (h:∀r∈l,Sh P r.2 e r.1):Sh P ((l.map (·.2)).sum+1) t [.aE (l.map (·.1))]
 |struct {t:TypeId}{fs:Array Field} (l:List (qt×Nat)) (ht:P.underlying t=some (.struct fs)) (hl:l.length=fs.size) (h:∀(i:Nat) f r,fs[i]?=some f->l[i]?=some r->Sh P r.2 f.type r.1):Sh P ((l.map (·.2)).sum+1) t (l.map (·.1)).flatten
variable{a:Addr}{n:Nat}{t:TypeId}{Z:qt}
def CA(P:Program):List Field->Nat->Nat->Bool
 |[],i,n=>i == n
 |f::fs,i,n=>f.offset == i&&CA P fs (i+P.cellsOf f.type) n
def Wb(P:Program)(S:List TypeId):Bool:=S.all fun t=>match P.underlying t with
 |some (.int _)|some .bool|some .string=>true
 |some (.slice e)=>S.contains e&&Nat.blt 0 (P.cellsOf e)
 |some (.struct O)=>O.toList.all (fun f=>S.contains f.type)&&CA P O.toList 0 (P.cellsOf t)
 |_=>false
theorem Wc{P:Program}{I:Type}{cs:List I}{n:Nat}(J:cs.length=n):∀(O:List Field) (i:Nat),CA P O i n=true->(O.map fun f=>(cs.drop f.offset).take (P.cellsOf f.type)).flatten=cs.drop i
 |[],i,h=>by
  have:i=n:=by simpa [CA]using h
  subst this;rw[<-J,gH];rfl
 |f::O,i,h=>by
  simp only[CA,cj,pj]at h;rw[dZ,jL,Wc J O _ h.2,h.1,<-Df,Dg]
section
variable {H:Type} {enc:TypeId × Value -> H} {P:Program} {W:World}
theorem cc.bN{G:Gh}:∀{l:List qt}{m:List qF},l.length=m.length->(∀(i:Nat) a b,l[i]?=some a->m[i]?=some b->cc G a b)->cc G l.flatten m.flatten
 |[],[],_,_=>mQ G
 |a::l,b::m,hl,h=>by
  rw[jL,jL];exact(h 0 a b rfl rfl).append (cc.bN Db fun i x y z Y=>h (i+1) x y (by simpa using z) sX)
theorem LR:∀{l:List (DataW H)}{m:qD},l.length=m.length->(∀(i:Nat) d n,l[i]?=some d->m[i]?=some n->n<=Rows.uptoBulk d)->m.sum<=Rows.uptoBulkAll l
 |[],[],_,_=>aH _
 |d::l,n::m,hl,h=>by
  have Z:=h 0 d n rfl rfl;have g:=LR (l:=l) (m:=m) Db fun i x y z Y=>h (i+1) x y (by simpa using z) sX;simp only[Rows.uptoBulkAll,zX];omega
def Wd{i:Nat}(h:a.spot=none):a.add i=⟨a.block,a.off+i,none⟩:=by
 obtain⟨b,o,s⟩:=a;simp only at h;subst h;unfold Addr.add;split
 .rename_i h;subst h;rfl
 .rfl
def Hk{cs:qF}(h:W.cells? 0 a n=some cs):cs.length=n/\∀j,j<n->W.cell? (a.add j)=cs[j]?:=by
 unfold World.cells? at h;rw[ah (de _)]at h;refine⟨by have:=mapM_some_length h;simpa using this,fun j Z=>?_⟩;have:=mapM_some_get h j j (by rw[ue Z]);exact this
theorem LS{S:List TypeId}(hS:Wb P S=true)(ρ:Nat->Int){sp:Nat->Bool}{held:Bool}:∀(M:Nat) (t:TypeId) (cs:qF) (x:DataW H×List MemPlace),t∈S->DataW.trod enc P W 0 sp held M t cs=some x ->
 ∃az n,cc ⟨fun _=>none,sR W,ρ⟩ az cs/\Sh P n t az/\n<=Rows.uptoBulk x.1
 |0,_,_,_,_,h=>by simp[DataW.trod]at h
 |M+1,t,cs,x,ht,h=>by
  have hg:=gM.1 hS t ht;split at hg
  .rename_i k Z;obtain⟨n,rfl,rfl,hw⟩:=DataW.trod_int Z h;exact⟨[.int _ n],1,kq (.int _ _) (mQ _),.int n Z hw,aH _⟩
  .rename_i Z;obtain⟨n,rfl,rfl⟩:=DataW.trod_bool Z h;exact⟨[.bool n],1,kq (.bool _) (mQ _),.bool n Z,aH _⟩
  .rename_i Z;obtain⟨s,rfl,rfl,_⟩:=DataW.trod_string Z h;exact⟨[.aq s.data.toList],_,kq (.aq s _ rfl) (mQ _),.aq _ Z,by simp[Rows.uptoBulk]⟩
  .rename_i e Z;rw[cj,jK]at hg;have he:e∈S:=by simpa using hg.1
   have hz0:=hg.2;rcases DataW.trod_slice Z h with⟨rfl,rfl⟩|⟨a,V,cap,Y,rest,n,hn,rfl,rfl,_,hl,O,hlen,hel,_,_⟩
   .exact⟨[.aE []],_,kq (.bQ none 0) (mQ _),.rows [] Z au,by simp[Rows.uptoBulk]⟩
   .obtain rfl:n=M:=by omega
    have key:∀i:Nat,∃r:qt×Nat,i<V->∃I,W.cells? 0 (a.add (i*P.cellsOf e)) (P.cellsOf e)=some I/\cc ⟨fun _=>none,sR W,ρ⟩ r.1 I/\Sh P r.2 e r.1/\∀y:DataW H×List MemPlace,Y[i]?=some y->r.2<=Rows.uptoBulk y.1:=fun i=>by
     by_cases C:i<V
     .have hb:=hel i C;rw[aL ac]at hb;obtain⟨I,h1,h2⟩:=js.1 hb;obtain⟨a',k,v1,v2,v3⟩:=LS hS ρ n e I _ he h2;exact⟨(a',k),fun _=>⟨I,h1,v1,v2,fun y hy=>by
       rw[aL ac]at hy;cases hy;exact v3⟩⟩
     .exact⟨([],0),fun h=>absurd h C⟩
    obtain⟨R,hR⟩:=Lj key;have hLl:(((List.range V).map R).map (·.1)).length=V:=au;refine⟨[.aE (((List.range V).map R).map (·.1))],_,kq ?_ (mQ _),.rows ((List.range V).map R) Z ?_,?_⟩
    .by_cases h0:V=0
     .subst h0;exact .bQ _ _
     obtain⟨cs0,c1,c2,_⟩:=hR 0 ac;obtain⟨nL,c3⟩:=Hk c1;have U:a.spot=none:=by
      have h4:=c3 0 hz0;rw[aL ac]at h4;simp only[Addr.add,te,dh,World.cell?]at h4;split at h4
      .split at h4
       .cases h4
       .rename_i hn;cases hq:a.spot with
        |none=>rfl
        |some s=>rw[hq]at hn;simp at hn
      .cases h4
     have J:∀i j,i<V->j<P.cellsOf e->∃I v,W.cells? 0 (a.add (i*P.cellsOf e)) (P.cellsOf e)=some I/\I[j]?=some v/\W.cell? ⟨a.block,a.off+i*P.cellsOf e+j,none⟩=some v:=fun i j C hj=>by
      obtain⟨I,d1,_⟩:=hR i C;obtain⟨l1,d3⟩:=Hk d1;refine⟨I,I[j]' ac,d1,aL ac,?_⟩;have:=d3 j hj;rw[aL ac]at this;rw[<-this,Wd U,Wd rfl]
     have hfin:=VR.aE (G:=⟨fun _=>none,sR W,ρ⟩) (xs:=((List.range V).map R).map (·.1)) (b:=a.block) (o:=a.off) (cap:=cap) (z:=P.cellsOf e) (fun i j=>(W.cell? ⟨a.block,a.off+i*P.cellsOf e+j,none⟩).getD .nilFunc) ?_ ?_ ?_ (by rw[hLl];exact hl)
     .rw[hLl]at hfin;obtain⟨ab,ao,asp⟩:=a;simp only at U;subst U;exact hfin
     .intro i row hr;rw[eu,eu]at hr;by_cases C:i<V
      .rw[ue C]at hr;simp only[lC]at hr;subst hr;obtain⟨I,d1,d2,_⟩:=hR i C;rw[d2.1,(Hk d1).1]
      .rw[gV bW]at hr;simp at hr
     .intro i j C hj;rw[hLl]at C;obtain⟨I,v,_,_,d3⟩:=J i j C hj;show W.cell? ⟨a.block,a.off+i*P.cellsOf e+j,none⟩=_;rw[d3];rfl
     .intro i j row c hr hc;rw[eu,eu]at hr;by_cases C:i<V
      .rw[ue C]at hr;simp only[lC]at hr;subst hr;obtain⟨I,d1,d2,_⟩:=hR i C;have hj:j<P.cellsOf e:=by
        have:=(fH.1 hc).1;rw[d2.1,(Hk d1).1]at this;exact this
       obtain⟨cs2,v,e1,e2,e3⟩:=J i j C hj;rw[d1]at e1;cases e1;rw[e3];exact d2.2 j c v hc e2
      .rw[gV bW]at hr;simp at hr
    .intro r hr;obtain⟨i,C,rfl⟩:=mT.1 hr;exact(hR i (lF.1 C)).choose_spec.2.2.1
    .have h1:(((List.range V).map R).map (·.2)).sum<=Rows.uptoBulkAll (Y.map (·.1)):=by
      refine LR (by simp[hlen]) fun i d m hd O=>?_;rw[eu,eu]at O;rw[eu]at hd;by_cases C:i<V
      .rw[ue C]at O;simp only[lC]at O;subst O;rw[aL ac]at hd;simp only[lC]at hd;subst hd;exact(hR i C).choose_spec.2.2.2 _ (aL ac)
      .rw[gV bW]at O;simp at O
     show _<=Rows.uptoBulkAll (Y.map (·.1))+Rows.uptoBulkAll (rest.map (·.1))+1;omega
  .rename_i L Z;rw[cj,gM]at hg;obtain⟨xs,n,hn,rfl,hcl,hxl,hf⟩:=DataW.trod_struct Z h;obtain rfl:n=M:=ac;have key:∀i:Nat,∃r:qt×Nat,∀f:Field,L[i]?=some f->cc ⟨fun _=>none,sR W,ρ⟩ r.1 ((cs.drop f.offset).take (P.cellsOf f.type))/\Sh P r.2 f.type r.1/\∀y:DataW H×List MemPlace,xs[i]?=some y->r.2<=Rows.uptoBulk y.1:=fun i=>by
    cases C:L[i]? with
    |none=>exact⟨([],0),fun f h=>by cases h⟩
    |some f=>
     have h1:=hf i f C;have hil:i<L.size:=(Array.getElem?_eq_some_iff.1 C).1;rw[aL ac]at h1;have hfS:f.type∈S:=by
      have:=hg.1 f (by rw[<-wZ]at C;exact jM C);simpa using this
     obtain⟨a',k,v1,v2,v3⟩:=LS hS ρ n f.type _ _ hfS h1;refine⟨(a',k),fun f' h'=>?_⟩;cases h';exact⟨v1,v2,fun y hy=>by
      rw[aL ac]at hy;cases hy;exact v3⟩
   obtain⟨R,hR⟩:=Lj key;have g:=Wc hcl L.toList 0 hg.2;rw[eS]at g;have J:∀i r,(((List.range L.size).map R))[i]?=some r->r=R i/\i<L.size:=fun i r hr=>by
    rw[eu]at hr;by_cases C:i<L.size
    .rw[ue C]at hr;simp only[lC]at hr;exact⟨hr.symm,C⟩
    .rw[gV bW]at hr;simp at hr
   refine⟨(((List.range L.size).map R).map (·.1)).flatten,_,?_,.struct ((List.range L.size).map R) Z au ?_,?_⟩
   .rw[<-g];refine cc.bN au fun i r c hr hc=>?_;rw[eu]at hr hc;cases hq:((List.range L.size).map R)[i]? with
    |none=>rw[hq]at hr;simp at hr
    |some q=>
     rw[hq]at hr;simp only[lC]at hr;obtain⟨rfl,C⟩:=J i q hq;cases hg2:L.toList[i]? with
     |none=>rw[hg2]at hc;simp at hc
     |some f=>
      rw[hg2]at hc;simp only[lC]at hc;subst hr;subst hc;exact(hR i f (by rw[<-wZ];exact hg2)).1
   .intro i f r C hr;obtain⟨rfl,_⟩:=J i r hr;exact(hR i f C).2.1
   .have h1:(((List.range L.size).map R).map (·.2)).sum<=Rows.uptoBulkAll (xs.map (·.1)):=by
     refine LR (by simp[hxl]) fun i d m hd O=>?_;rw[eu]at O hd;cases hq:((List.range L.size).map R)[i]? with
     |none=>rw[hq]at O;simp at O
     |some q=>
      rw[hq]at O;simp only[lC]at O;obtain⟨rfl,C⟩:=J i q hq;cases hy:xs[i]? with
      |none=>rw[hy]at hd;simp at hd
      |some y=>
       rw[hy]at hd;simp only[lC]at hd;subst hd;subst O;exact(hR i L[i] (sg C)).2.2 y hy
    show _<=Rows.uptoBulkAll (xs.map (·.1))+1;omega
  .cases hg
def Sh.bq{P:Program}{k:IntKind}(h:Sh P n t Z)(J:P.underlying t=some (.int k)):∃x,Z=[.int k x]/\(Lit.int k x).wf=true/\n=1:=by
 cases h with
 |int x z L=>rw[J]at z;cases z;exact⟨x,rfl,L,rfl⟩
 |bool b z=>rw[J]at z;cases z
 |aq s z=>rw[J]at z;cases z
 |rows l z _=>rw[J]at z;cases z
 |struct l z _ _=>rw[J]at z;cases z
def Sh.cz{P:Program}(h:Sh P n t Z)(J:P.underlying t=some .string):∃s,Z=[.aq s]/\n=s.length+1:=by
 cases h with
 |int x z L=>rw[J]at z;cases z
 |bool b z=>rw[J]at z;cases z
 |aq s z=>exact⟨s,rfl,rfl⟩
 |rows l z _=>rw[J]at z;cases z
 |struct l z _ _=>rw[J]at z;cases z
def Sh.bS{P:Program}{e:TypeId}(h:Sh P n t Z)(J:P.underlying t=some (.slice e)):∃l:List (qt×Nat),Z=[.aE (l.map (·.1))]/\n=(l.map (·.2)).sum+1/\∀r∈l,Sh P r.2 e r.1:=by
 cases h with
 |int x z L=>rw[J]at z;cases z
 |bool b z=>rw[J]at z;cases z
 |aq s z=>rw[J]at z;cases z
 |rows l z h=>rw[J]at z;cases z;exact⟨l,rfl,rfl,h⟩
 |struct l z _ _=>rw[J]at z;cases z
def Sh.bp{P:Program}{fs:Array Field}(h:Sh P n t Z)(J:P.underlying t=some (.struct fs)):∃l:List (qt×Nat),Z=(l.map (·.1)).flatten/\n=(l.map (·.2)).sum+1/\l.length=fs.size/\∀(i:Nat) f r,fs[i]?=some f->l[i]?=some r->Sh P r.2 f.type r.1:=by
 cases h with
 |int x z L=>rw[J]at z;cases z
 |bool b z=>rw[J]at z;cases z
 |aq s z=>rw[J]at z;cases z
 |rows l z h=>rw[J]at z;cases z
 |struct l z Y h=>rw[J]at z;cases z;exact⟨l,rfl,rfl,Y,h⟩
end
end Go.Ab
namespace Go.Proofs.YtbflaciihaijgaaGreat
set_option maxRecDepth 20000
open Go Go.Ab Go.WideShapes Proofs.Tryz
variable{x m J L Y s1:Int}{n q:Nat}{z:qt}{H:Hp}{l1:qy}
def zkK(h:(Lit.int .i64 x).wf=true):eJ x:=by
 have Y:IntKind.min .i64=-9223372036854775808:=aE;have m:IntKind.max .i64=9223372036854775807:=aE;simp only[Lit.wf,jN,Y,m]at h;unfold eJ;omega
theorem CB{I:Type}{f:I->qt}{sz:List I->Nat}{s1:I->Nat}{g:List I->Prop}{g1:I->Prop}(Z:sz []=0)(Y:∀a l,sz (a::l)=1+s1 a+sz l)(hg:g [])(L:∀a l,g1 a->g l->g (a::l)):∀l:List (qt×Nat),(∀r∈l,∃x,r.1=f x/\s1 x+1<=r.2/\g1 x)->∃C:List I,l.map (·.1)=C.map f/\sz C<=(l.map (·.2)).sum/\g C
 |[],_=>⟨[],rfl,by simp[Z],hg⟩
 |r::l,h=>by
  obtain⟨x,U,i,m⟩:=h r ei;obtain⟨C,O,J,M⟩:=CB (f:=f) Z Y hg L l fun q V=>h q (ev _ V)
  exact⟨x::C,by rw[dZ,dZ,U,O],by rw[Y,dZ,zX];omega,L _ _ m M⟩
def zkL(h:Sh prog n 75 z):∃a:Ar,z=a.cells/\a.name.length+1<=n:=by
 obtain⟨l,rfl,rfl,J,C⟩:=h.bp underlying75
 match l,J with
 |[bV,r1],_=>
  obtain⟨a,Z,O⟩:=(C 0 _ _ rfl rfl).cz underlying9;obtain⟨b,g,_,i⟩:=(C 1 _ _ rfl rfl).bq underlying3;refine⟨⟨a,b⟩,?_,?_⟩
  .rw[IN];simp only[lL,jL,Hg,Z,g];rfl
  .simp only[lL,zX,Hh];omega
def tX:qu->Nat
 |[]=>0
 |_::l=>1+0+tX l
def sa:qy->Nat
 |[]=>0
 |n::l=>1+tX n.aj+sa l
theorem We:∀l:qu,tX l=l.length
 |[]=>rfl
 |_::l=>by rw[tX,We l,eF];omega
theorem Wf:∀l:qy,l.length<=sa l/\∀n∈l,n.aj.length<=sa l
 |[]=>⟨aH _,fun n I=>by cases I⟩
 |x::l=>by
  obtain⟨a,b⟩:=Wf l;rw[sa,We,eF];refine⟨ac,fun n I=>?_⟩;rcases gE.1 I with rfl|I
  .omega
  .have:=b n I;omega
def zkM(h:Sh prog n 26 z):∃l:qu,z=[dJ l]/\tX l+1<=n:=by
 obtain⟨k,rfl,rfl,j⟩:=h.bS underlying26;obtain⟨C,Y,i,_⟩:=CB (f:=fun s:Int=>[AV.int .i64 s]) (sz:=tX) (s1:=fun _=>0) (g:=fun _=>True) (g1:=fun _=>True) (by rw[tX]) (fun a l=>by rw[tX]) trivial (fun _ _ _ _=>trivial) k fun r hr=>by
  obtain⟨s,e,_,h⟩:=(j r hr).bq underlying3;exact⟨s,e,ac,trivial⟩
 exact⟨C,by rw[Y],ac⟩
def zkN(h:Sh prog n 58 z):∃x:Nd,z=x.cells/\tX x.aj+1<=n/\eJ x.aF:=by
 obtain⟨l,rfl,rfl,J,C⟩:=h.bp underlying58
 match l,J with
 |[bV,r1,r2],_=>
  obtain⟨a,Z,_,O⟩:=(C 0 _ _ rfl rfl).bq underlying3;obtain⟨b,g,M,i⟩:=(C 1 _ _ rfl rfl).bq underlying2;obtain⟨c,m,nc⟩:=zkM (C 2 _ _ rfl rfl);refine⟨⟨a,b,c⟩,?_,?_,zkK M⟩
  .rw[IP];simp only[lL,jL,Hg,Z,g,m];rfl
  .simp only[lL,zX,Hh];omega
def zkO(h:Sh prog n 42 z):∃l:qy,z=[dR l]/\sa l+1<=n/\∀x∈l,eJ x.aF:=by
 obtain⟨k,rfl,rfl,j⟩:=h.bS underlying42;obtain⟨C,Y,i,hg⟩:=CB (f:=Nd.cells) (sz:=sa) (s1:=fun n=>tX n.aj) (g:=fun l=>∀x∈l,eJ x.aF) (g1:=fun x=>eJ x.aF) (by rw[sa]) (fun a l=>by rw[sa]) (fun _ h=>by cases h) (fun a l i Z=>DN.2 ⟨i,Z⟩) k fun r hr=>zkN (j r hr)
 exact⟨C,by rw[Y],ac,hg⟩
def sT:qT->Nat
 |[]=>0
 |g::l=>1+(g.name.length+sa g.ag)+sT l
def zkP(h:Sh prog n 44 z):∃g:Gr,z=g.cells/\g.name.length+sa g.ag+1<=n/\∀x∈g.ag,eJ x.aF:=by
 obtain⟨l,rfl,rfl,J,C⟩:=h.bp underlying44
 match l,J with
 |[bV,r1,r2,r3,r4],_=>
  obtain⟨a,Z,M⟩:=(C 0 _ _ rfl rfl).cz underlying9;obtain⟨b,Y,_,i⟩:=(C 1 _ _ rfl rfl).bq underlying3;obtain⟨c,m,nc,V⟩:=zkO (C 2 _ _ rfl rfl);obtain⟨d,O,_,L⟩:=(C 3 _ _ rfl rfl).bq underlying3;obtain⟨e,U,_,ne⟩:=(C 4 _ _ rfl rfl).bq underlying3;refine⟨⟨a,b,c,d,e⟩,?_,?_,V⟩
  .rw[Gr.aO];simp only[lL,jL,Hg,Z,Y,m,O,U];rfl
  .simp only[lL,zX,Hh];omega
def zkQ(h:Sh prog n 37 z):∃u:Un,z=u.cells/\eV u.aa+sT u.funcs<=n/\∀g∈u.funcs,∀x∈g.ag,eJ x.aF:=by
 obtain⟨l,rfl,rfl,J,C⟩:=h.bp underlying37
 match l,J with
 |[bV,r1],_=>
  obtain⟨k,V,nk,j⟩:=(C 0 _ _ rfl rfl).bS underlying22;obtain⟨q,Y,nq,L⟩:=(C 1 _ _ rfl rfl).bS underlying35;obtain⟨U,O,i,_⟩:=CB (f:=Ar.cells) (sz:=eV) (s1:=fun a=>a.name.length) (g:=fun _=>True) (g1:=fun _=>True) (by rw[eV]) (fun a l=>by rw[eV]) trivial (fun _ _ _ _=>trivial) k fun r hr=>by
   obtain⟨x,i,Z⟩:=zkL (j r hr);exact⟨x,i,Z,trivial⟩
  obtain⟨M,m,Z,I⟩:=CB (f:=Gr.cells) (sz:=sT) (s1:=fun g=>g.name.length+sa g.ag) (g:=fun l=>∀g∈l,∀x∈g.ag,eJ x.aF) (g1:=fun g=>∀x∈g.ag,eJ x.aF) (by rw[sT]) (fun a l=>by rw[sT]) (fun _ h=>by cases h) (fun a l i Z=>DN.2 ⟨i,Z⟩) q fun r hr=>zkP (L r hr)
  refine⟨⟨U,M⟩,?_,?_,I⟩
  .rw[IQ];simp only[lL,jL,Hg,V,Y,O,m];rfl
  .simp only[lL,zX,Hh];omega
def zkR:List TypeId:=[37,22,75,9,35,44,42,58,3,2,26]
def zkS:Wb prog zkR=true:=aB
theorem Wg:∀l:qT,l.length<=sT l/\∀g∈l,g.name.length+sa g.ag<=sT l
 |[]=>⟨aH _,fun n I=>by cases I⟩
 |x::l=>by
  obtain⟨a,b⟩:=Wg l;rw[sT,eF];refine⟨ac,fun n I=>?_⟩;rcases gE.1 I with rfl|I
  .omega
  .have:=b n I;omega
theorem Wh:∀l:qT,fg (l.map eD)<=8*sT l
 |[]=>de _
 |g::l=>by
  have:=Wh l;have Z:(eD g).sz=1+g.name.length+dB []+dB []+bH []+(eD g).value.sz:=rfl;have m:(eD g).value.sz<=4:=by show Ex.sz (.mk 1 0 [] 0 [])<=4;decide
  have U:dB []=0:=rfl;have M:bH []=0:=rfl;rw[dZ,fg,sT];omega
def zkT{u:Un}(h:eV u.aa+sT u.funcs<=n)(I:n<2^29)(hg:∀g∈u.funcs,∀x∈g.ag,eJ x.aF):zd2 u:=by
 obtain⟨U,Y⟩:=Wg u.funcs;have O:=mC u.aa;have i:=Wh u.funcs;refine⟨⟨ac,ac,fun g Z=>?_,?_⟩,fun g Z n I=>hg g Z n I⟩
 .have M:=Y g Z;obtain⟨cF,V⟩:=Wf g.ag;exact⟨ac,fun x z=>by have:=V x z;omega⟩
 .show 1+eV u.aa+fg (u.funcs.map eD)<2^36;omega
set_option maxRecDepth 100000 in
def zkU{H:Type}{enc:TypeId×Value->H}{W:World}{Z:Value}{r:Reach}{U:Nat}(k0:Value.okWide prog W r U 37 Z){d:DataW H}{ps:List MemPlace}{Y:Nat->Bool}{L:Bool}(V:DataW.Trod enc prog W 0 Y L 37 Z d ps)(M:Rows.uptoBulk d<=1048576):∃u:Un,VR ⟨fun _=>none,sR W,fun _=>0⟩ (.agg u.cells) Z/\zd2 u:=by
 obtain⟨z,C⟩:=V;obtain⟨O,n,i,g,m⟩:=LS zkS (fun _=>0) z _ _ _ ei C;obtain⟨u,rfl,hp,hg⟩:=zkQ g;have J:n<=Rows.uptoBulk d:=m;refine⟨u,?_,zkT hp ac hg⟩;obtain⟨cs,rfl,_⟩:=okWide_struct underlying37 k0;have:=VR.agg (G:=⟨fun _=>none,sR W,fun _=>0⟩) (cs:=u.cells) (vs:=cs.toList) i.1 i.2;rw[wU]at this;exact this
open Go Go.Ab
def tyMtU.tyF:=ad @cA (ad @dw (ad @gQ (ad @rB (ad @rC (ad @fX (ad @tk (ad @jB (ad @fU (ad @lJ (@oH))))))))))
open tyMtU
noncomputable def Wi:{c:SC // aC 112 (f16.body.getD .skip)=c}:=by
 refine⟨?_,?_⟩;rotate_left
 .simp only[f16,bz,aC,bw,bt,bA,bB,Nat.blt,Nat.ble];rfl
noncomputable def tY:qB:=[zI,pE B9,xR,GV,tG,pE LQ]
def zkV(ρ:Nat->Int):eU prog ρ tY:=⟨TA ρ,y4 (SO ρ),Fs ρ,Vi ρ,FI ρ,y4 (zkD ρ),trivial⟩
theorem zkW:KuT tY where
 tozd7:=zd7.of (fun e J=>by
  simp only[tY,j5]at J;rcases J with rfl|rfl|rfl|rfl|rfl|rfl<;>rfl) (fun _=>rfl) rfl (fun _=>rfl)
 ck:=fun _=>rfl
 lo:=db (fun _=>rfl) rfl
 un:=db (fun _=>rfl) rfl
 pr:=fun _=>rfl
def Wk{l:qy}(h:∀n∈l,eJ n.aF)(i a:Int):∀n∈j8 l i a,eJ n.aF:=fun n I=>by
 unfold j8 at I;split at I
 .simp at I
 .rename_i Z;have hg:∀x,l[(bO a l.length).toNat]?=some x->eJ x.aF:=fun x z=>h x (jM z);have U:eJ (l.getD (bO a l.length).toNat ⟨0,0,[]⟩).aF:=by
   rw[cQ];cases e:l[(bO a l.length).toNat]? with
   |none=>exact⟨aE,aE⟩
   |some x=>exact hg x e
  rcases r0 I with I|rfl
  .split at I
   .rcases nR.1 I with I|I
    .exact h n I
    .rw[BG]at I;subst I;exact U
   .exact h n I
  .generalize l.getD (bO a l.length).toNat ⟨0,0,[]⟩=x at U;have Y:=iW (n:=bS (i.tdiv 10)) (m:=300) ac ac;have J:=iW (n:=bS (i.tdiv 10)) (m:=40) ac ac;unfold wB;unfold eJ at U⊢;repeat' split
   all_goals first|exact U|(simp only[];omega)
def CC{M j V:AV}{g cF:qx}{Z:Int}{nL:qy}{ar:qR}(C:q<H.next)(hg:H.get q=some (.cells [.aq g,.int .i64 m,j,.int .i64 L,.int .i64 Y,.aq cF,.int .i64 J,V,.int .i64 Z,.int .i64 s1] 0 true))
 (i:dy (fun _=>True) 5 H M (.aE (ar.map Ar.cells))) (U:dy (fun _=>True) 4 H j (.aE (nL.map Nd.cells))) (z:dy (fun _=>True) 4 H V (.aE (l1.map Nd.cells))) (O:zd2 ⟨ar,[⟨g,m,nL,L,Y⟩,⟨cF,J,l1,Z,s1⟩]⟩) :
 ∃I u,AV.agg [M,.sl q 0 2 5]=.agg I/\cn (fun _=>True) 5 H I u.cells/\zd2 u:=by
 refine⟨_,⟨ar,[⟨g,m,nL,L,Y⟩,⟨cF,J,l1,Z,s1⟩]⟩,rfl,.cons i (.cons ?_ .nil),O⟩;refine ou (S:=fun _=>True) (n:=4) (a:=[[.aq g,.int .i64 m,j,.int .i64 L,.int .i64 Y],[.aq cF,.int .i64 J,V,.int .i64 Z,.int .i64 s1]]) (b:=[(Gr.mk g m nL L Y).cells,(Gr.mk cF J l1 Z s1).cells]) trivial C hg (de _) ⟨⟨rfl,?_⟩,⟨rfl,?_⟩,trivial⟩
 .exact .cons (.aq _) (.cons (.int _ _) (.cons U (.cons (.int _ _) (.cons (.int _ _) .nil))))
 .exact .cons (.aq _) (.cons (.int _ _) (.cons z (.cons (.int _ _) (.cons (.int _ _) .nil))))
theorem zkX{L:qt}(hg:H.get q=some (.cells L 0 true))(J:L.length=10)(h1:L.all AV.one=true)(Z:q<H.next):
 ∃H',cX prog false (H.alloc qh) 35 35 (.sl H.next 0 0 5) (.sl q 0 2 5)=some (.sl (H.next+1) 0 2 5,H')/\H'.next=H.next+2/\H'.get (H.next+1)=some (.cells L 0 true)/\∀k,k<H.next->H'.get k=H.get k:=by
 have O:dL=70368744177664:=rfl;have U:(H.alloc qh).get q=some (.cells L 0 true):=JJ;have V:eQ (H.alloc qh) 5 (.sl q 0 2 5)=some (1+1,L):=by
  have:=pq (H:=H.alloc qh) (r:=q) (o:=0) (n:=2) (z:=5) (s:=5) U FC;rw[this,eS,fI ac]
 refine⟨_,xf underlying35 yQ A4 A5 aB V h1 rfl fG rfl oC oC,rfl,?_,fun k j=>by rw[aD,af zG,gN,af ac,aD,af ac]⟩;show(((H.alloc qh).aR H.next).alloc _).get ((H.alloc qh).aR H.next).next=_
 rw[aD,ah rfl];rfl
def wD{tb:qB}(J:∀Z,cM tb 37 Z=(pE LQ).sp Z)(C:jt tb 37=true){S:Nat->Prop}{Y:AV}{l:qy}(V:gZ l/\l≠[])(U:dy S 4 H Y (.aE (l.map Nd.cells)))(i a:Int):
 aM prog (ay pls tb) 37 [Y,.int .i64 i,.int .i64 a] H fun v H'=>v=dR (j8 l i a)/\Icy S H H':=by
 obtain⟨I,O,g⟩:cn S 4 H [Y,.int .i64 i,.int .i64 a] (wC ⟨l,i,a⟩):=.cons U (.cons (.int _ _) (.cons (.int _ _) .nil));exact Bu (x:=⟨l,i,a⟩) (enc:=wC) (ok:=LO) (out:=fun x=>dR (j8 x.l x.how x.a)) zkB (fun Z=>by rw[J];rfl) C (fun y=>rfl) V ac O (g 60 ac)
structure MuA where
 l:qu
 how:Int
 a6:Int
def Wl(m:Nat)(x:Nd):x.cells.map (cp m)=x.cells:=by
 rw[IP];simp only[lL,Kq,Ra]
def uU(x:MuA):qt:=[kK x.l,.int .i64 x.how,.int .i64 x.a6]
def zkY(x y:MuA)(h:uU x=uU y):x=y:=by
 obtain⟨a,b,c⟩:=x;obtain⟨Z,U,Y⟩:=y;simp only[uU,dN,AV.int.injEq,aN,jy]at h;obtain⟨i,rfl,rfl⟩:=h;rw[GT i]
structure MuA.ok (x:MuA):Prop where
 l:x.l.length<2^63
 r:gp x.l
theorem CD{ar:qR}{Z cF:qx}{V:Int}{nL:qy}(j:eV ar<=100)(O:Z.length<=8)(M:cF.length<=8)(U:nL.length<=1000/\(∀n∈nL,n.aj.length<=50)/\∀n∈nL,eJ n.aF)(h1:l1.length<=1000/\(∀n∈l1,n.aj.length<=50)/\∀n∈l1,eJ n.aF):zd2 ⟨ar,[⟨Z,m,nL,L,V⟩,⟨cF,J,l1,Y,s1⟩]⟩:=by
 have i:=mC ar;refine⟨⟨by show ar.length<_;omega,by show 2<2^30;decide,fun g hg=>?_,?_⟩,fun g hg n I=>?_⟩
 .simp only[j5]at hg;rcases hg with rfl|rfl
  .exact⟨by show nL.length<_;omega,fun n I=>by have:=U.2.1 n I;omega⟩
  .exact⟨by show l1.length<_;omega,fun n I=>by have:=h1.2.1 n I;omega⟩
 .have e:∀g:Gr,(eD g).sz<=g.name.length+5:=fun g=>by
   have h2:(eD g).sz=1+g.name.length+dB []+dB []+bH []+(eD g).value.sz:=rfl;have h3:(eD g).value.sz<=4:=by show Ex.sz (.mk 1 0 [] 0 [])<=4;decide
   have h4:dB []=0:=rfl;have h5:bH []=0:=rfl;omega
  have C:=e ⟨Z,m,nL,L,V⟩;have z:=e ⟨cF,J,l1,Y,s1⟩;simp only[]at C z;show 1+eV ar+fg [eD ⟨Z,m,nL,L,V⟩,eD ⟨cF,J,l1,Y,s1⟩]<2^36;simp only[fg];omega
 .simp only[j5]at hg;rcases hg with rfl|rfl
  .exact U.2.2 n I
  .exact h1.2.2 n I
theorem zkZ{Y j:Nat}{y:Int}(hg:H.get Y=some (.cells [.aq [97],.int .i64 x,.aq [98],.int .i64 y] 0 true))(m:Y<H.next)(i:j<=2){C:AV}(U:(j=0/\C=.aE [])\/(1<=j/\C=.sl Y 0 j 2)):
 ∃I H',cX prog false (H.alloc qh) 22 22 (.sl H.next 0 0 2) C=some (I,H')/\H.next+1<=H'.next/\(∀k,k<H.next->H'.get k=H.get k)/\AV.one I=true/\I.cells=[I]/\dy (fun k=>H.next<=k) 5 H' I (.aE ((([⟨[97],x⟩,⟨[98],y⟩]:qR).take j).map Ar.cells)):=by
 have L:dL=70368744177664:=rfl;have hb:(H.alloc qh).get H.next=some qh:=fG
 have O:(H.alloc qh).get Y=some (.cells [.aq [97],.int .i64 x,.aq [98],.int .i64 y] 0 true):=JJ;have Z:∀k,k<H.next->(H.alloc qh).get k=H.get k:=fun k M=>fq
 rcases(by omega:j=0\/j=1\/j=2)with rfl|rfl|rfl
 .rcases U with⟨_,rfl⟩|⟨h,_⟩;rotate_left
  .omega
  have V:eQ (H.alloc qh) 2 (.aE [])=some (0,[]):=FM (rows:=[]) (fun x J=>by cases J);exact⟨.sl H.next 0 0 2,_,by simp only[cX,underlying22,vx,xi,xj,show iR prog 22=true by kernel_rfl,V],aH _,Z,rfl,rfl,ou (n:=4) (a:=[]) (b:=[]) (aH _) (cC _) hb (aH _) trivial⟩
 .obtain rfl:C=.sl Y 0 1 2:=by rcases U with⟨h,_⟩|⟨_,h⟩
                               ·omega
                               .exact h
  have V:eQ (H.alloc qh) 2 (.sl Y 0 1 2)=some (0+1,[.aq [97],.int .i64 x]):=by
   have:=pq (H:=H.alloc qh) (r:=Y) (o:=0) (n:=1) (z:=2) (s:=2) O rfl;rw[this];rfl
  refine⟨_,_,xf underlying22 vx xi xj aB V rfl rfl hb rfl jT jT,Hf,fun k M=>Wa,rfl,rfl,?_⟩;exact ou (n:=4) (a:=[[.aq [97],.int .i64 x]]) (b:=[Ar.cells ⟨[97],x⟩]) (dA _) Hf sC (de _) ⟨⟨rfl,.cons (.aq _) (.cons (.int _ _) .nil)⟩,trivial⟩
 .obtain rfl:C=.sl Y 0 2 2:=by rcases U with⟨h,_⟩|⟨_,h⟩
                               ·omega
                               .exact h
  have V:eQ (H.alloc qh) 2 (.sl Y 0 2 2)=some (1+1,[.aq [97],.int .i64 x,.aq [98],.int .i64 y]):=by
   have:=pq (H:=H.alloc qh) (r:=Y) (o:=0) (n:=2) (z:=2) (s:=2) O rfl;rw[this];rfl
  refine⟨_,_,xf underlying22 vx xi xj aB V rfl rfl hb rfl jT jT,Hf,fun k M=>Wa,rfl,rfl,?_⟩;exact ou (n:=4) (a:=[[.aq [97],.int .i64 x],[.aq [98],.int .i64 y]]) (b:=[Ar.cells ⟨[97],x⟩,Ar.cells ⟨[98],y⟩]) (dA _) Hf sC (de _) ⟨⟨rfl,.cons (.aq _) (.cons (.int _ _) .nil)⟩,⟨rfl,.cons (.aq _) (.cons (.int _ _) .nil)⟩,trivial⟩
set_option maxRecDepth 100000 in
theorem zk0(l:qu)(hl:l.length<2^63)(hr:gp l)(Z O:Int):
 aM prog (ay pls tY) 16 [kK l,.int .i64 Z,.int .i64 O] bM fun v H'=>∃cs u,v=.agg cs/\cn (fun _=>True) 5 H' cs u.cells/\zd2 u:=by
 have hw:zd0 (ay pls tY) 16:=db (fun _=>rfl) rfl;have hkeep:(ay pls tY).keep 16=false:=rfl;obtain⟨f,g,hu,hf1,hg1,hf2,hg2,hf3,hg3,hf4,hg4,_,huo,hfn,hgn⟩:=VL hr;have k12:=iW (n:=Z) (m:=12) ac ac;have k2:=iW (n:=O) (m:=2) ac ac;have kk:=fun n m hm H=>oq (l:=tY) (fun _=>rfl) n m hm H;refine a0 (M:=112) (rs:=[.cell 6 37]) (hw.call _) hw.aG hw.az func16 rfl rfl Wi.2 rfl ?_;dsimp only[Wi,aW,Nat.reduceAdd];refine dY fun K hK=>?_;refine qd ?_;refine aY ?_ (zkq zkW l hl hr _);rintro v i ⟨av,fv,m,pt,lvs,rfl,hU⟩;rw[hu]at hU;have n2:1<=i.next:=hU.next
 have g20:i.get 0=some qi:=by rw[hU.get 0 aE];rfl
 obtain⟨lf,lg,rfl⟩:∃lf lg,lvs=[lf,lg]:=by
  have hl:=hU.fs.len
  match lvs,hl with
  |[a,b],_=>exact⟨a,b,rfl⟩
 rcases hU.fs.own with⟨_,e⟩|⟨q,(rfl:fv=.sl q 0 2 5),hq1,hq2,hq3,hq⟩
 .cases e
 have hlf:=hU.fs.nd 0 f lf rfl rfl;have hlg:=hU.fs.nd 1 g lg rfl rfl;have hqL:i.get q=some (.cells [.aq f.name,.int .i64 f.params,lf,.int .i64 f.value,.int .i64 f.ab,.aq g.name,.int .i64 g.params,lg,.int .i64 g.value,.int .i64 g.ab] 0 true):=hq;obtain⟨lf1,lf2⟩:=hlf.one;obtain⟨lg1,lg2⟩:=hlg.one;obtain⟨x,y,hga⟩:∃x y,pd (l.take 60)=[⟨[97],x⟩,⟨[98],y⟩]:=⟨_,_,rfl⟩;rw[hga]at hU;obtain⟨J,(rfl:av=.sl J 0 2 2),hqa1,hqa2,hqa3,(hqaG:i.get J=some (.cells [.aq [97],.int .i64 x,.aq [98],.int .i64 y] 0 true))⟩:=hU.arx au;have hlo:1<=m:=hU.lo;obtain⟨H4,a4,n4,g4,o4⟩:=zkX (H:=(i.alloc qi).set i.next (.cells [.sl J 0 2 2,.sl q 0 2 5] 0 true)) (q:=q) (by rw[aA,af ac,aD,af ac];exact hqL) rfl (by simp only[oO,oK,lf1,lg1];rfl) iU;simp only[br,aZ,ki,Nat.reduceAdd]at a4 n4 g4 o4;have g40:H4.get 0=some qi:=by rw[o4 0 ac,aA,af ac,aD,af ac];exact g20
 have g47:H4.get i.next=some (.cells [.sl J 0 2 2,.sl q 0 2 5] 0 true):=by rw[o4 _ ac,aA,ah rfl]
 have ag0:cI 2 [.sl J 0 2 2,.sl q 0 2 5]=some (.agg [.sl J 0 2 2,.sl q 0 2 5]):=rfl;have old4:∀k,k<i.next->H4.get k=i.get k:=fun k hk=>by rw[o4 k ac,aA,af ac,aD,af ac]
 have bs0:∀H:Hp,et prog H 35 0 []=some (.sl H.next 0 0 5,H.alloc qh):=fun H=>aB;clear o4 hq hU;dsimp only[aU];repeat' (first
  |(apply aj ?_;clear hK K)|apply aQ ?_|(apply ch ?_;first|refine Rx.k (kk O 2 aE _) ?_)|(apply ak fun K hK=>?_)|(apply da 3 [(1,3),(1,6)] fun K hK=>?_)|(apply ce ?_;try intro _)|fail)
 clear a4;have hk2:=k2;generalize bO O 2=k at *;generalize hH5:H4.set i.next (.cells [.sl J 0 2 2,.sl (i.next+2) 0 2 5] 0 true)=I
 have n5:I.next=i.next+3:=by rw[<-hH5];exact n4
 have g5:∀r,r≠i.next->I.get r=H4.get r:=fun r hr=>by rw[<-hH5,aA,af hr]
 have g57:I.get i.next=some (.cells [.sl J 0 2 2,.sl (i.next+2) 0 2 5] 0 true):=by rw[<-hH5,aA,ah rfl]
 have g50:=(g5 0 ac).trans g40;have g5q:=(g5 (i.next+2) ac).trans g4;have old5:∀r,r<i.next->I.get r=i.get r:=fun r hr=>(g5 r ac).trans (old4 r hr)
 clear hH5 g5 old4 g47 g40 g4 n4 hqL;have ag2:cI 2 [.sl J 0 2 2,.sl (i.next+2) 0 2 5]=some (.agg [.sl J 0 2 2,.sl (i.next+2) 0 2 5]):=rfl;have n5':i.next+3<=I.next:=kC n5.symm
 clear n5;have hgqa:I.get J=some (.cells [.aq [97],.int .i64 x,.aq [98],.int .i64 y] 0 true):=(old5 J hqa3).trans hqaG;have hlfR:dy (fun k=>1<=k/\k<i.next) 4 I lf (.aE (f.ag.map Nd.cells)):=(hlf.rd.a0 (S':=fun k=>1<=k/\k<i.next) (fun k V L=>⟨ac,V⟩) ac fun k _ hk=>old5 k hk).up ac;have hlgR:dy (fun k=>1<=k/\k<i.next) 4 I lg (.aE (g.ag.map Nd.cells)):=(hlg.rd.a0 (S':=fun k=>1<=k/\k<i.next) (fun k V L=>⟨ac,V⟩) ac fun k _ hk=>old5 k hk).up ac;have hlfQ:dy (fun k=>1<=k/\k<i.next/\k≠J) 3 I lf (.aE (f.ag.map Nd.cells)):=hlf.rd.a0 (S':=fun k=>1<=k/\k<i.next/\k≠J) (fun k V L=>⟨ac,V,ac⟩) ac fun k _ hk=>old5 k hk;have hlgQ:dy (fun k=>1<=k/\k<i.next/\k≠J) 3 I lg (.aE (g.ag.map Nd.cells)):=hlg.rd.a0 (S':=fun k=>1<=k/\k<i.next/\k≠J) (fun k V L=>⟨ac,V,ac⟩) ac fun k _ hk=>old5 k hk;have hlenf:∀H',ij prog H' 42 lf=some (.int .i64 f.ag.length):=fun H'=>by have:=hlf.len (H':=H') underlying42;rwa [cN]at this
 have hleng:∀H',ij prog H' 42 lg=some (.int .i64 g.ag.length):=fun H'=>by have:=hlg.len (H':=H') underlying42;rwa [cN]at this
 have hsf:IntKind.wrap .i64 ((f.ag.length:Int)+2)=f.ag.length+2:=eX ac ac;have hsg:IntKind.wrap .i64 ((g.ag.length:Int)+2)=g.ag.length+2:=eX ac ac;have q12:(12:Int)≠0:=aE;have q2:(2:Int)≠0:=aE;have kf:∀U:Hp,I.next<=U.next->(∀k,1<=k->k<i.next->oN (I.get k) (U.get k))->dy (fun _=>True) 4 U lf (.aE (f.ag.map Nd.cells))/\dy (fun _=>True) 4 U lg (.aE (g.ag.map Nd.cells))/\dy (fun _=>True) 5 U (.sl J 0 2 2) (.aE (([⟨[97],x⟩,⟨[98],y⟩]:qR).map Ar.cells)):=fun U V L=>by
  have har:dy (fun k=>1<=k/\k<i.next) 5 I (.sl J 0 2 2) (.aE (([⟨[97],x⟩,⟨[98],y⟩]:qR).map Ar.cells)):=ou (n:=4) (a:=[[.aq [97],.int .i64 x],[.aq [98],.int .i64 y]]) (b:=[Ar.cells ⟨[97],x⟩,Ar.cells ⟨[98],y⟩]) ⟨hqa1,hqa3⟩ ac hgqa (de _) ⟨⟨rfl,.cons (.aq _) (.cons (.int _ _) .nil)⟩,⟨rfl,.cons (.aq _) (.cons (.int _ _) .nil)⟩,trivial⟩;exact⟨hlfR.frame (fun _ _=>trivial) V fun k hk _=>L k hk.1 hk.2,hlgR.frame (fun _ _=>trivial) V fun k hk _=>L k hk.1 hk.2,har.frame (fun _ _=>trivial) V fun k hk _=>L k hk.1 hk.2⟩
 have hqa1':1<=J:=hqa1;have hS:eV ([⟨[97],x⟩,⟨[98],y⟩]:qR)<=100:=by show 1+1+(1+1+0)<=100;decide
 have hF:f.ag.length<=1000/\(∀n∈f.ag,n.aj.length<=50)/\∀n∈f.ag,eJ n.aF:=⟨ac,fun n C=>Cy,fun n C=>(hf2 n C).aF⟩;have hG:g.ag.length<=1000/\(∀n∈g.ag,n.aj.length<=50)/\∀n∈g.ag,eJ n.aF:=⟨ac,fun n C=>Cz,fun n C=>(hg2 n C).aF⟩;have ne0:(0 == i.next+2)=false:=aX ac;have ne1:(i.next+2 == 0)=false:=aX ac;have ne2:(0 == i.next)=false:=aX ac;have ne3:(i.next == 0)=false:=aX ac;have ne4:(0 == J)=false:=aX ac;have ne5:(i.next == J)=false:=aX ac;have ne6:(I.next == i.next+2)=false:=aX ac;have ne7:(i.next+2 == I.next)=false:=aX ac;have ne8:(I.next == i.next)=false:=aX ac;have ne9:(i.next == I.next)=false:=aX ac;have nea:(0 == I.next)=false:=aX ac;have neb:(I.next == 0)=false:=aX ac;have nec:(J == 0)=false:=aX ac;have ned:(J == i.next)=false:=aX ac;have fin:∀(U:Hp) (n0 cF:qx) (p0 p1 v0 v1 s0 s1:Int),I.next<=U.next->U.get (i.next+2)=some (.cells [.aq n0,.int .i64 p0,lf,.int .i64 v0,.int .i64 s0,.aq cF,.int .i64 p1,lg,.int .i64 v1,.int .i64 s1] 0 true)->n0.length<=8->cF.length<=8->(∀k,1<=k->k<i.next->U.get k=I.get k)->∃cs u,AV.agg [.sl J 0 2 2,.sl (i.next+2) 0 2 5]=.agg cs/\cn (fun _=>True) 5 U cs u.cells/\zd2 u:=fun U n0 cF p0 p1 v0 v1 s0 s1 V L h3 h4 h5=>by
  obtain⟨r1,r2,r3⟩:=kf U V fun k a b=>.inl (h5 k a b).symm
  exact CC ac L r3 r1 r2 (CD hS h3 h4 hF hG)
 have hMf:=VO f.ag (IntKind.wrap .i64 (Z.tdiv 12)) (IntKind.wrap .i64 (O.tdiv 2));have hMg:=VO g.ag (IntKind.wrap .i64 (Z.tdiv 12)) (IntKind.wrap .i64 (O.tdiv 2));have hKf:=VP (c:=40) (l:=f.ag) hf3 (IntKind.wrap .i64 (Z.tdiv 12)) (IntKind.wrap .i64 (O.tdiv 2));have hKg:=VP (c:=40) (l:=g.ag) hg3 (IntKind.wrap .i64 (Z.tdiv 12)) (IntKind.wrap .i64 (O.tdiv 2));have hNf:=Wk hF.2.2 (IntKind.wrap .i64 (Z.tdiv 12)) (IntKind.wrap .i64 (O.tdiv 2));have hNg:=Wk hG.2.2 (IntKind.wrap .i64 (Z.tdiv 12)) (IntKind.wrap .i64 (O.tdiv 2));have bs4:∀H:Hp,et prog H 66 4 [(0,.aq [103]),(1,.aq [102]),(2,.aq []),(3,.aq [111,117,116])]=some (.sl H.next 0 4 1,H.alloc (.cells [.aq [103],.aq [102],.aq [],.aq [111,117,116]] 0 true)):=fun H=>aB;obtain⟨j4,hj4,hj4l⟩:∃j:Nat,bO (IntKind.wrap .i64 (Z.tdiv 12)) 4=(j:Int)/\j<4:=by
  have:=iW (n:=IntKind.wrap .i64 (Z.tdiv 12)) (m:=4) ac ac;exact⟨(bO (IntKind.wrap .i64 (Z.tdiv 12)) 4).toNat,ac,ac⟩
 have hix4:∀r:Nat,ej prog 66 (.sl r 0 4 1) (.int .i64 (bO (IntKind.wrap .i64 (Z.tdiv 12)) 4))=some (.ptr r j4):=fun r=>by rw[hj4,pp underlying66 vt hj4l];simp
 obtain⟨nm4,hs4,hn4⟩:∃nm:qx,[AV.aq [103],.aq [102],.aq [],.aq [111,117,116]][j4]?=some (.aq nm)/\nm.length<=8:=by
  rcases(by omega:j4=0\/j4=1\/j4=2\/j4=3)with rfl|rfl|rfl|rfl
  .exact⟨_,rfl,aE⟩
  .exact⟨_,rfl,aE⟩
  .exact⟨_,rfl,aE⟩
  .exact⟨_,rfl,aE⟩
 have bsA0:∀H:Hp,et prog H 22 0 []=some (.sl H.next 0 0 2,H.alloc qh):=fun H=>aB;have hixa:ej prog 22 (.sl J 0 2 2) (.int .i64 0)=some (.ptr J 0):=aB;obtain⟨j3,hj3,hj3l⟩:∃j:Nat,bO (IntKind.wrap .i64 (Z.tdiv 12)) 3=(j:Int)/\j<=2:=by
  have:=iW (n:=IntKind.wrap .i64 (Z.tdiv 12)) (m:=3) ac ac;exact⟨(bO (IntKind.wrap .i64 (Z.tdiv 12)) 3).toNat,ac,ac⟩
 obtain⟨sv,hsv,hsl⟩:∃sv,((j3=0/\sv=.aE [])\/(1<=j3/\sv=.sl J 0 j3 2))/\gU prog 22 (.sl J 0 2 2) none (some (.int .i64 (bO (IntKind.wrap .i64 (Z.tdiv 12)) 3)))=some sv:=by
  rw[hj3];rcases(by omega:j3=0\/j3=1\/j3=2)with rfl|rfl|rfl
  .exact⟨_,.inl ⟨rfl,rfl⟩,aB⟩
  .exact⟨_,.inr ⟨ac,rfl⟩,aB⟩
  .exact⟨_,.inr ⟨ac,rfl⟩,aB⟩
 obtain⟨aw,H6,a6,n6,o6,dC,w2,r6⟩:=zkZ (H:=I) hgqa ac hj3l hsv;have g60:=(o6 0 ac).trans g50;have g67:=(o6 i.next ac).trans g57;have g6q:=(o6 (i.next+2) ac).trans g5q;have ag6:cI 2 [aw,.sl (i.next+2) 0 2 5]=some (.agg [aw,.sl (i.next+2) 0 2 5]):=rfl;have gb7:(I.alloc qh).get i.next=some (.cells [.sl J 0 2 2,.sl (i.next+2) 0 2 5] 0 true):=by rw[aD,af ac];exact g57
 have hS3:eV (([⟨[97],x⟩,⟨[98],y⟩]:qR).take j3)<=100:=by
  rcases(by omega:j3=0\/j3=1\/j3=2)with e|e|e<;>rw[e]
  .show 0<=100;decide
  .show 1+1+0<=100;decide
  .exact hS
 have finA:∀(U:Hp),H6.next<=U.next->U.get (i.next+2)=some (.cells [.aq f.name,.int .i64 f.params,lf,.int .i64 f.value,.int .i64 f.ab,.aq g.name,.int .i64 g.params,lg,.int .i64 g.value,.int .i64 g.ab] 0 true)->(∀k,k≠0->k≠i.next->k<H6.next->U.get k=H6.get k)->∃cs u,AV.agg [aw,.sl (i.next+2) 0 2 5]=.agg cs/\cn (fun _=>True) 5 U cs u.cells/\zd2 u:=fun U V L h3=>by
  obtain⟨r1,r2,_⟩:=kf U ac fun k a b=>.inl (by rw[h3 k ac ac ac,o6 k ac])
  have r7:dy (fun _=>True) 5 (U) aw (.aE ((([⟨[97],x⟩,⟨[98],y⟩]:qR).take j3).map Ar.cells)):=r6.a0 (fun _ _ _=>trivial) V fun k hk hl=>h3 k ac ac hl;exact CC ac L r7 r1 r2 (CD hS3 hfn hgn hF hG)
 have finL:∀(U:Hp) (z:Int),I.next<=U.next->U.get (i.next+2)=some (.cells [.aq f.name,.int .i64 f.params,lf,.int .i64 f.value,.int .i64 f.ab,.aq g.name,.int .i64 g.params,lg,.int .i64 g.value,.int .i64 g.ab] 0 true)->U.get J=some (.cells [.aq [97],.int .i64 z,.aq [98],.int .i64 y] 0 true)->(∀k,1<=k->k<i.next->k≠J->U.get k=I.get k)->∃cs u,AV.agg [.sl J 0 2 2,.sl (i.next+2) 0 2 5]=.agg cs/\cn (fun _=>True) 5 U cs u.cells/\zd2 u:=fun U z V L h3 h4=>by
  have har:dy (fun _=>True) 5 U (.sl J 0 2 2) (.aE (([⟨[97],z⟩,⟨[98],y⟩]:qR).map Ar.cells)):=ou (n:=4) (a:=[[.aq [97],.int .i64 z],[.aq [98],.int .i64 y]]) (b:=[Ar.cells ⟨[97],z⟩,Ar.cells ⟨[98],y⟩]) trivial ac h3 (de _) ⟨⟨rfl,.cons (.aq _) (.cons (.int _ _) .nil)⟩,⟨rfl,.cons (.aq _) (.cons (.int _ _) .nil)⟩,trivial⟩;exact CC ac L har ((hlfQ.keep (fun _ _=>trivial) V fun k hk _=>h4 k hk.1 hk.2.1 hk.2.2).up ac) ((hlgQ.keep (fun _ _=>trivial) V fun k hk _=>h4 k hk.1 hk.2.1 hk.2.2).up ac) (CD (by show 1+1+(1+1+0)<=100;decide) hfn hgn hF hG)
 have finF:∀(U:Hp),I.next<=U.next->U.get (i.next+2)=some (.cells [.aq f.name,.int .i64 f.params,(.aE ((j8 f.ag (IntKind.wrap .i64 (Z.tdiv 12)) (IntKind.wrap .i64 (O.tdiv 2))).map Nd.cells)),.int .i64 f.value,.int .i64 f.ab,.aq g.name,.int .i64 g.params,lg,.int .i64 g.value,.int .i64 g.ab] 0 true)->(∀k,1<=k->k<i.next->oN (I.get k) (U.get k))->∃cs u,AV.agg [.sl J 0 2 2,.sl (i.next+2) 0 2 5]=.agg cs/\cn (fun _=>True) 5 U cs u.cells/\zd2 u:=fun U V L h3=>by
  obtain⟨r1,r2,r3⟩:=kf U V h3;exact CC ac L r3 (.bN ⟨.map fun y _=>y.pure,trivial⟩ (FN Wl _)) r2 (CD hS hfn hgn ⟨ac,fun n C=>by have:=hKf n C;omega,hNf⟩ hG)
 have finG:∀(U:Hp),I.next<=U.next->U.get (i.next+2)=some (.cells [.aq f.name,.int .i64 f.params,lf,.int .i64 f.value,.int .i64 f.ab,.aq g.name,.int .i64 g.params,(.aE ((j8 g.ag (IntKind.wrap .i64 (Z.tdiv 12)) (IntKind.wrap .i64 (O.tdiv 2))).map Nd.cells)),.int .i64 g.value,.int .i64 g.ab] 0 true)->(∀k,1<=k->k<i.next->oN (I.get k) (U.get k))->∃cs u,AV.agg [.sl J 0 2 2,.sl (i.next+2) 0 2 5]=.agg cs/\cn (fun _=>True) 5 U cs u.cells/\zd2 u:=fun U V L h3=>by
  obtain⟨r1,r2,r3⟩:=kf U V h3;exact CC ac L r3 r1 (.bN ⟨.map fun y _=>y.pure,trivial⟩ (FN Wl _)) (CD hS hfn hgn hF ⟨ac,fun n C=>by have:=hKg n C;omega,hNg⟩)
 clear hj3 hj4;rcases(by omega:k=0\/k=1)with rfl|rfl
 .have hix:ej prog 35 (.sl (i.next+2) 0 2 5) (.int .i64 0)=some (.ptr (i.next+2) 0):=by kernel_rfl
  repeat' (first
   |(apply aj ?_;clear hK K)|apply aQ ?_|(apply ch ?_;first|refine Rx.k (kk _ _ aE _) ?_|refine Rx.k (kk _ _ ac _) ?_)|(apply aV ?_ ?_<;>(intro hb hbp;try(cases hb;done)))|(apply ak fun K hK=>?_)|(apply da 14 [(0,5),(0,7),(2,5),(2,7),(6,7)] fun K hK=>?_)|(apply da 16 [(1,4),(1,8)] fun K hK=>?_)|(apply ce ?_;try intro _)|(apply di ?_ ?_<;>clear hK K)|fail)
  .exact bN
  ·-- the value
   refine⟨aq,_,(by(try simp only[aG,aR,Nat.reduceBEq,tyF,cL,cY, *]);first|done|with_reducible rfl),?_⟩;try simp only[am]
   refine fin _ _ _ ?_ ?_ ?_ ?_ ?_ ?_ ?_ ?_ hfn hgn ?_;rotate_left 6
   .simp only[br];omega
   .rw[aA,af ac,aA,ah rfl]
   .intro k V L;rw[aA,af ac,aA,af ac]
  ·-- the state
   refine⟨aq,_,(by(try simp only[aG,aR,Nat.reduceBEq,tyF,cL,cY, *]);first|done|with_reducible rfl),?_⟩;try simp only[am]
   refine fin _ _ _ ?_ ?_ ?_ ?_ ?_ ?_ ?_ ?_ hfn hgn ?_;rotate_left 6
   .simp only[br];omega
   .rw[aA,af ac,aA,ah rfl]
   .intro k V L;rw[aA,af ac,aA,af ac]
  ·-- the parameters
   refine⟨aq,_,(by(try simp only[aG,aR,Nat.reduceBEq,tyF,cL,cY, *]);first|done|with_reducible rfl),?_⟩;try simp only[am]
   refine fin _ _ _ ?_ ?_ ?_ ?_ ?_ ?_ ?_ ?_ hfn hgn ?_;rotate_left 6
   .simp only[br];omega
   .rw[aA,af ac,aA,ah rfl]
   .intro k V L;rw[aA,af ac,aA,af ac]
  ·-- the name
   refine⟨aq,_,(by(try simp only[aG,aR,Nat.reduceBEq,tyF,cL,cY, *]);first|done|with_reducible rfl),?_⟩;try simp only[am]
   refine fin _ _ _ ?_ ?_ ?_ ?_ ?_ ?_ ?_ ?_ hn4 hgn ?_;rotate_left 6
   .simp only[br,aZ];omega
   .rw[aA,af ac,aA,ah rfl]
   .intro k V L;rw[aA,af ac,aA,af ac,aD,af ac]
  ·-- the arrays
   exact bN
  .refine⟨aq,_,(by(try simp only[aG,aR,Nat.reduceBEq,tyF,cL,cY, *]);first|done|with_reducible rfl),?_⟩;try simp only[am]
   refine finA _ ?_ ?_ ?_
   .simp only[br];omega
   .rw[aA,af ac,aA,af ac];exact g6q
   .intro k V L h3;rw[aA,af V,aA,af L]
  ·-- a length
   exact bN
  .refine⟨aq,_,(by(try simp only[aG,aR,Nat.reduceBEq,tyF,cL,cY, *]);first|done|with_reducible rfl),?_⟩;try simp only[am]
   refine finL _ ?_ ?_ ?_ ?_ ?_;rotate_left
   .simp only[br];omega
   .rw[aA,af ac,aA,af ac];exact g5q
   .rw[aA,af ac,aA,ah rfl]
   .intro k V L h3;rw[aA,af ac,aA,af h3]
  .refine qd ?_;refine aY ?_ (wD (fun _=>rfl) rfl ⟨⟨ac,fun n C=>Cy⟩,hf4⟩ hlfR _ _);rintro v H7 ⟨rfl,Y⟩;have n7:=Y.next
   have g77:=(Y.out i.next ac).trans g57;have g70:=(Y.out 0 ac).trans g50;have g7q:=(Y.out (i.next+2) ac).trans g5q;have l7:AV.one (dR (j8 f.ag (IntKind.wrap .i64 (Z.tdiv 12)) (IntKind.wrap .i64 (O.tdiv 2))))=true:=rfl;dsimp only[aU];refine pZ ?_;refine⟨aq,_,(by(try simp only[aG,aR,Nat.reduceBEq,tyF,cL,cY, *]);first|done|with_reducible rfl),?_⟩;try simp only[am]
   refine finF _ ?_ ?_ fun k V L=>?_
   .simp only[br];omega
   .rw[aA,af ac,aA,ah rfl]
   .rw[aA,af ac,aA,af ac];exact Y.same k
  .refine qd ?_;refine aY ?_ (wD (fun _=>rfl) rfl ⟨⟨ac,fun n C=>Cy⟩,hf4⟩ hlfR _ _);rintro v H7 ⟨rfl,Y⟩;have n7:=Y.next
   have g77:=(Y.out i.next ac).trans g57;have g70:=(Y.out 0 ac).trans g50;have g7q:=(Y.out (i.next+2) ac).trans g5q;have l7:AV.one (dR (j8 f.ag (IntKind.wrap .i64 (Z.tdiv 12)) (IntKind.wrap .i64 (O.tdiv 2))))=true:=rfl;dsimp only[aU];refine pZ ?_;refine⟨aq,_,(by(try simp only[aG,aR,Nat.reduceBEq,tyF,cL,cY, *]);first|done|with_reducible rfl),?_⟩;try simp only[am]
   refine finF _ ?_ ?_ fun k V L=>?_
   .simp only[br];omega
   .rw[aA,af ac,aA,ah rfl]
   .rw[aA,af ac,aA,af ac];exact Y.same k
  .refine qd ?_;refine aY ?_ (wD (fun _=>rfl) rfl ⟨⟨ac,fun n C=>Cy⟩,hf4⟩ hlfR _ _);rintro v H7 ⟨rfl,Y⟩;have n7:=Y.next
   have g77:=(Y.out i.next ac).trans g57;have g70:=(Y.out 0 ac).trans g50;have g7q:=(Y.out (i.next+2) ac).trans g5q;have l7:AV.one (dR (j8 f.ag (IntKind.wrap .i64 (Z.tdiv 12)) (IntKind.wrap .i64 (O.tdiv 2))))=true:=rfl;dsimp only[aU];refine pZ ?_;refine⟨aq,_,(by(try simp only[aG,aR,Nat.reduceBEq,tyF,cL,cY, *]);first|done|with_reducible rfl),?_⟩;try simp only[am]
   refine finF _ ?_ ?_ fun k V L=>?_
   .simp only[br];omega
   .rw[aA,af ac,aA,ah rfl]
   .rw[aA,af ac,aA,af ac];exact Y.same k
  .refine qd ?_;refine aY ?_ (wD (fun _=>rfl) rfl ⟨⟨ac,fun n C=>Cy⟩,hf4⟩ hlfR _ _);rintro v H7 ⟨rfl,Y⟩;have n7:=Y.next
   have g77:=(Y.out i.next ac).trans g57;have g70:=(Y.out 0 ac).trans g50;have g7q:=(Y.out (i.next+2) ac).trans g5q;have l7:AV.one (dR (j8 f.ag (IntKind.wrap .i64 (Z.tdiv 12)) (IntKind.wrap .i64 (O.tdiv 2))))=true:=rfl;dsimp only[aU];refine pZ ?_;refine⟨aq,_,(by(try simp only[aG,aR,Nat.reduceBEq,tyF,cL,cY, *]);first|done|with_reducible rfl),?_⟩;try simp only[am]
   refine finF _ ?_ ?_ fun k V L=>?_
   .simp only[br];omega
   .rw[aA,af ac,aA,ah rfl]
   .rw[aA,af ac,aA,af ac];exact Y.same k
  .refine⟨aq,_,(by(try simp only[aG,aR,Nat.reduceBEq,tyF,cL,cY, *]);first|done|with_reducible rfl),?_⟩;try simp only[am]
   refine fin _ _ _ ?_ ?_ ?_ ?_ ?_ ?_ ?_ ?_ hfn hgn ?_;rotate_left 6
   .simp only[br];omega
   .rw[aA,af ac];exact g5q
   .intro k V L;rw[aA,af ac]
 .have hix:ej prog 35 (.sl (i.next+2) 0 2 5) (.int .i64 1)=some (.ptr (i.next+2) 5):=by kernel_rfl
  repeat' (first
   |(apply aj ?_;clear hK K)|apply aQ ?_|(apply ch ?_;first|refine Rx.k (kk _ _ aE _) ?_|refine Rx.k (kk _ _ ac _) ?_)|(apply aV ?_ ?_<;>(intro hb hbp;try(cases hb;done)))|(apply ak fun K hK=>?_)|(apply da 14 [(0,5),(0,7),(2,5),(2,7),(6,7)] fun K hK=>?_)|(apply da 16 [(1,4),(1,8)] fun K hK=>?_)|(apply ce ?_;try intro _)|(apply di ?_ ?_<;>clear hK K)|fail)
  .exact bN
  ·-- the value
   refine⟨aq,_,(by(try simp only[aG,aR,Nat.reduceBEq,tyF,cL,cY, *]);first|done|with_reducible rfl),?_⟩;try simp only[am]
   refine fin _ _ _ ?_ ?_ ?_ ?_ ?_ ?_ ?_ ?_ hfn hgn ?_;rotate_left 6
   .simp only[br];omega
   .rw[aA,af ac,aA,ah rfl]
   .intro k V L;rw[aA,af ac,aA,af ac]
  ·-- the state
   refine⟨aq,_,(by(try simp only[aG,aR,Nat.reduceBEq,tyF,cL,cY, *]);first|done|with_reducible rfl),?_⟩;try simp only[am]
   refine fin _ _ _ ?_ ?_ ?_ ?_ ?_ ?_ ?_ ?_ hfn hgn ?_;rotate_left 6
   .simp only[br];omega
   .rw[aA,af ac,aA,ah rfl]
   .intro k V L;rw[aA,af ac,aA,af ac]
  ·-- the parameters
   refine⟨aq,_,(by(try simp only[aG,aR,Nat.reduceBEq,tyF,cL,cY, *]);first|done|with_reducible rfl),?_⟩;try simp only[am]
   refine fin _ _ _ ?_ ?_ ?_ ?_ ?_ ?_ ?_ ?_ hfn hgn ?_;rotate_left 6
   .simp only[br];omega
   .rw[aA,af ac,aA,ah rfl]
   .intro k V L;rw[aA,af ac,aA,af ac]
  ·-- the name
   refine⟨aq,_,(by(try simp only[aG,aR,Nat.reduceBEq,tyF,cL,cY, *]);first|done|with_reducible rfl),?_⟩;try simp only[am]
   refine fin _ _ _ ?_ ?_ ?_ ?_ ?_ ?_ ?_ ?_ hfn hn4 ?_;rotate_left 6
   .simp only[br,aZ];omega
   .rw[aA,af ac,aA,ah rfl]
   .intro k V L;rw[aA,af ac,aA,af ac,aD,af ac]
  ·-- the arrays
   exact bN
  .refine⟨aq,_,(by(try simp only[aG,aR,Nat.reduceBEq,tyF,cL,cY, *]);first|done|with_reducible rfl),?_⟩;try simp only[am]
   refine finA _ ?_ ?_ ?_
   .simp only[br];omega
   .rw[aA,af ac,aA,af ac];exact g6q
   .intro k V L h3;rw[aA,af V,aA,af L]
  ·-- a length
   exact bN
  .refine⟨aq,_,(by(try simp only[aG,aR,Nat.reduceBEq,tyF,cL,cY, *]);first|done|with_reducible rfl),?_⟩;try simp only[am]
   refine finL _ ?_ ?_ ?_ ?_ ?_;rotate_left
   .simp only[br];omega
   .rw[aA,af ac,aA,af ac];exact g5q
   .rw[aA,af ac,aA,ah rfl]
   .intro k V L h3;rw[aA,af ac,aA,af h3]
  .refine qd ?_;refine aY ?_ (wD (fun _=>rfl) rfl ⟨⟨ac,fun n C=>Cz⟩,hg4⟩ hlgR _ _);rintro v H7 ⟨rfl,Y⟩;have n7:=Y.next
   have g77:=(Y.out i.next ac).trans g57;have g70:=(Y.out 0 ac).trans g50;have g7q:=(Y.out (i.next+2) ac).trans g5q;have l7:AV.one (dR (j8 g.ag (IntKind.wrap .i64 (Z.tdiv 12)) (IntKind.wrap .i64 (O.tdiv 2))))=true:=rfl;dsimp only[aU];refine pZ ?_;refine⟨aq,_,(by(try simp only[aG,aR,Nat.reduceBEq,tyF,cL,cY, *]);first|done|with_reducible rfl),?_⟩;try simp only[am]
   refine finG _ ?_ ?_ fun k V L=>?_
   .simp only[br];omega
   .rw[aA,af ac,aA,ah rfl]
   .rw[aA,af ac,aA,af ac];exact Y.same k
  .refine qd ?_;refine aY ?_ (wD (fun _=>rfl) rfl ⟨⟨ac,fun n C=>Cz⟩,hg4⟩ hlgR _ _);rintro v H7 ⟨rfl,Y⟩;have n7:=Y.next
   have g77:=(Y.out i.next ac).trans g57;have g70:=(Y.out 0 ac).trans g50;have g7q:=(Y.out (i.next+2) ac).trans g5q;have l7:AV.one (dR (j8 g.ag (IntKind.wrap .i64 (Z.tdiv 12)) (IntKind.wrap .i64 (O.tdiv 2))))=true:=rfl;dsimp only[aU];refine pZ ?_;refine⟨aq,_,(by(try simp only[aG,aR,Nat.reduceBEq,tyF,cL,cY, *]);first|done|with_reducible rfl),?_⟩;try simp only[am]
   refine finG _ ?_ ?_ fun k V L=>?_
   .simp only[br];omega
   .rw[aA,af ac,aA,ah rfl]
   .rw[aA,af ac,aA,af ac];exact Y.same k
  .refine qd ?_;refine aY ?_ (wD (fun _=>rfl) rfl ⟨⟨ac,fun n C=>Cz⟩,hg4⟩ hlgR _ _);rintro v H7 ⟨rfl,Y⟩;have n7:=Y.next
   have g77:=(Y.out i.next ac).trans g57;have g70:=(Y.out 0 ac).trans g50;have g7q:=(Y.out (i.next+2) ac).trans g5q;have l7:AV.one (dR (j8 g.ag (IntKind.wrap .i64 (Z.tdiv 12)) (IntKind.wrap .i64 (O.tdiv 2))))=true:=rfl;dsimp only[aU];refine pZ ?_;refine⟨aq,_,(by(try simp only[aG,aR,Nat.reduceBEq,tyF,cL,cY, *]);first|done|with_reducible rfl),?_⟩;try simp only[am]
   refine finG _ ?_ ?_ fun k V L=>?_
   .simp only[br];omega
   .rw[aA,af ac,aA,ah rfl]
   .rw[aA,af ac,aA,af ac];exact Y.same k
  .refine qd ?_;refine aY ?_ (wD (fun _=>rfl) rfl ⟨⟨ac,fun n C=>Cz⟩,hg4⟩ hlgR _ _);rintro v H7 ⟨rfl,Y⟩;have n7:=Y.next
   have g77:=(Y.out i.next ac).trans g57;have g70:=(Y.out 0 ac).trans g50;have g7q:=(Y.out (i.next+2) ac).trans g5q;have l7:AV.one (dR (j8 g.ag (IntKind.wrap .i64 (Z.tdiv 12)) (IntKind.wrap .i64 (O.tdiv 2))))=true:=rfl;dsimp only[aU];refine pZ ?_;refine⟨aq,_,(by(try simp only[aG,aR,Nat.reduceBEq,tyF,cL,cY, *]);first|done|with_reducible rfl),?_⟩;try simp only[am]
   refine finG _ ?_ ?_ fun k V L=>?_
   .simp only[br];omega
   .rw[aA,af ac,aA,ah rfl]
   .rw[aA,af ac,aA,af ac];exact Y.same k
  .refine⟨aq,_,(by(try simp only[aG,aR,Nat.reduceBEq,tyF,cL,cY, *]);first|done|with_reducible rfl),?_⟩;try simp only[am]
   refine fin _ _ _ ?_ ?_ ?_ ?_ ?_ ?_ ?_ ?_ hfn hgn ?_;rotate_left 6
   .simp only[br];omega
   .rw[aA,af ac];exact g5q
   .intro k V L;rw[aA,af ac]
def zk1(x:MuA)(Z:x.ok):∃u,zd2 u/\∀M,bF prog M 16 (uU x) (.agg u.cells):=by
 have Y:=zk0 x.l Z.l Z.r x.how x.a6
 have z:∃u,zd2 u/\aM prog (ay pls tY) 16 (uU x) bM fun v H'=>∃m w,iceV H' m v=some w/\cp 60 w=.agg u.cells:=by
  unfold aM at Y;obtain⟨v,H',i,U,u,rfl,hc,O⟩:=Y;refine⟨u,O,?_⟩;unfold aM;refine⟨_,H',i,?_⟩;obtain⟨I,q1,q2⟩:=hc;have j:dc (fun _=>True) 100 H' (.agg U) (.agg I):=dc.up (n:=6) ⟨I,q1,rfl⟩ ac;obtain⟨J,L⟩:=dc.iceV j;refine⟨J,.agg I,L J (aH _),?_⟩;show AV.agg (I.map (cp 59))=_;rw[q2 59 ac]
 obtain⟨u,i,C⟩:=z;exact⟨u,i,fun M=>FO (n:=60) (cfg:=ay pls tY) fit (nU M) (fun g V r hg=>eU.bR (l:=tY) (zkV M) g V r hg) (.cons (GU _) (.cons (.int _ _) (.cons (.int _ _) .nil))) C⟩
noncomputable def wE(x:MuA):Un:=open Classical in if h:∃u,zd2 u/\∀M,bF prog M 16 (uU x) (.agg u.cells)then Classical.choose h else ⟨[],[]⟩
def Wm{x:MuA}(z:x.ok):zd2 (wE x)/\∀M,bF prog M 16 (uU x) (.agg (wE x).cells):=by
 have h:=zk1 x z;have e:wE x=Classical.choose h:=by unfold wE;rw[dif_pos h]
 rw[e];exact Eb h
noncomputable def Wn:En:=⟨16,false,bQ MuA.ok uU fun x=>.agg (wE x).cells⟩
def zk2(ρ:Nat->Int):co prog ρ Wn:=cz fun x z=>(Wm z).2 ρ
end Go.Proofs.YtbflaciihaijgaaGreat
