/- Lemmas for the last file. -/
import Derived.KernelRfl
import Derived.Test.YtbflaciihaijgaaGreatRows
import Derived.Test.YtbflaciihaijgaaGreatUED
set_option linter.all false
set_option maxHeartbeats 32000000
namespace Go.Ab
set_option maxRecDepth 20000
open Go
abbrev qR:=List Bool
variable{qn:Prop}
def aF(h:qn:=by decide):=h
def cN(h:qn:=by rfl):=h
def Qk(h:qn:=by show ¬ (gw x.g.af _).testBit t=true;rw[aq];exact nob t):=h
def Qm(h:qn:=by show ¬ (gw x.g.af _).testBit t=true;rw[r2];exact nob t):=h
def Qn(h:qn:=by simp only[a0,KR,beq_self_eq_true,cond_true]):=h
def ax(h:qn:=by kernel_rfl):=h
def CO(h:qn:=by rw[CP _ ac];omega):=h
def Qo(h:qn:=by rw[List.getElem?_take,if_pos ac];exact hz):=h
def fV:=@Bool.and_true
def uz:=@Bool.not_true
def l5:=@Bool.false_or
def sC:=@and_self
def gm:=@List.drop_zero
def dC:=@List.getD_eq_getElem?_getD
def KU:=@List.headD_cons
def eM:=@Int.toNat_natCast
def cn:=@Nat.lt_succ_self
def GA:=@List.ext_getElem?
def yN:=@List.cons_append
def GB:=@Bool.and_assoc
def KV:=@List.set_cons_zero
def Aq:=@List.drop_succ_cons
def KW:=@List.eq_of_mem_replicate
def i4:=@List.drop_eq_getElem_cons
def uA:=@List.any_cons
def jT:=@decide_eq_true
def gW:=@Bool.true_and
def As:=@decide_eq_decide
def kS:=@decide_eq_false
def At:=@List.any_eq_true
def KX:=@List.fst_mem_of_mem_zipIdx
def sD:=@Int.tdiv_eq_ediv_of_nonneg
def uB:=@List.any_eq_false
def aN:=@Option.bind_some
def Au:=@List.mem_of_mem_take
def Qp:=@List.mem_zipIdx_iff_getElem?
def kT:=@List.getElem?_of_mem
def oM:=@List.mem_singleton
def xg:=@List.getElem?_mapIdx
def iB:=@List.length_set
def GC:=@List.length_mapIdx
def j9:=@List.length_replicate
def Qq:=@List.getElem?_replicate
end Go.Ab
namespace Go.Ab
set_option maxRecDepth 20000
open Go
variable{ih:zd5->Res}{E:aw}{o:Oper}{v x:AV}{H H':Hp}{r n s b:Nat}{cs z L:qB}
theorem Sx.beq_refl:∀a:Sx,Sx.beq a a=true
 | .var i=>by simp[Sx.beq]
 | .lit n=>by simp[Sx.beq]
 | .de o k a b=>by simp[Sx.beq,Sx.beq_refl a,Sx.beq_refl b]
 | .eB k a=>by simp[Sx.beq,Sx.beq_refl a]
mutual
theorem AV.beq_refl:∀a:AV,AV.beq a a=true
 | .int k n=>by simp[AV.beq]
 | .sx k e=>by simp[AV.beq,Sx.beq_refl]
 | .bool b=>by simp[AV.beq]
 | .ay s=>by simp[AV.beq]
 | .aF=>rfl
 | .bV=>rfl
 | .cj=>rfl
 | .ao=>rfl
 | .ptr r o=>by simp[AV.beq]
 | .bP O=>by simp only[AV.beq];exact vO O
 | .sl r o l z=>by simp[AV.beq]
 | .aE Z=>by simp only[AV.beq];exact Qr Z
 | .map r=>by simp[AV.beq]
 | .cw f O=>by simp only[AV.beq,vO O,fV];simp
 | .agg O=>by simp only[AV.beq];exact vO O
 | .bH O=>by simp only[AV.beq];exact vO O
theorem vO:∀a:qB,nP a a=true
 |[]=>rfl
 |a::l=>by simp only[nP,AV.beq_refl a,vO l,fV]
theorem Qr:∀a:List qB,yo a a=true
 |[]=>rfl
 |a::l=>by simp only[yo,vO a,Qr l,fV]
end
def yO(o:Oper):Bool:=vI o.op||uo o.op
def GD(o:Oper):Bool:=yO o||(match o.op with|.store ..|.mapUpdate ..=>true |_=>false)
def GE(ops:qE):Bool:=
 ug ops&&(List.range ops.length).all (fun i=>match ops[i]? with|some o=>if Nat.blt (i+1) ops.length then yO o else GD o|none=>true)&&(sg ops).all (fun p=>Nat.blt p.2 ops.length)
section
variable {P:Program} {cfg:Cfg} {f N:Nat}
theorem KY{ih:zd5->Res}{C:qE}:∀{l:qE}{E E':aw}{H H':Hp},lR P cfg ih f N C l E H=.done .normal E' H'->∃rs,lw P cfg ih f N C l E H=.done E' H' rs
 |[],E,E',H,H',h=>by
  simp only[lR,Res.done.injEq,j6]at h;obtain⟨rfl,rfl⟩:=h;exact⟨[],rfl⟩
 |o::l,E,E',H,H',h=>by
  rw[CF]at h;simp only[lw];cases hw:lj C E o with
  |true=>
   rw[hw]at h;simp only[]at h⊢;cases J:eQ P cfg ih f E H o.op with
   |val v H1=>
    rw[J]at h;simp only[]at h⊢;cases hp:gI N E o.dst v with
    |none=>rw[hp]at h;simp[mD]at h
    |some E1=>
     rw[hp]at h;simp only[mD]at h;obtain⟨rs,hr⟩:=KY h;exact⟨_,by simp only[sf,hr,se];rfl⟩
   |done _ _ _=>simp_all
   |a5=>simp_all
  |false=>
   rw[hw]at h;simp only[]at h⊢;cases hp:gI N E o.dst dq with
   |none=>rw[hp]at h;simp[mD]at h
   |some E1=>
    rw[hp]at h;simp only[mD]at h;obtain⟨rs,hr⟩:=KY h;exact⟨_,by simp only[sf,hr,se];rfl⟩
theorem Qs(z:yO o=true)(h:eQ P cfg ih f E H o.op=.val v H'):H'=H:=by
 unfold yO at z;rw[nU]at z;rcases z with z|z
 .have J:∀c,o.op≠.call c:=fun c e=>by
   rw[e]at z;simp only[vI,jd]at z
   grind
  exact(Kt z ((yE J).1 h)).1
 .exact Ku z h
def zbM(z:GD o=true)(h:eQ P cfg ih f E H o.op=.val v H'):H.next<=H'.next:=by
 unfold GD at z;rw[nU]at z;rcases z with z|z
 .rw[Qs z h];omega
 .obtain⟨J,op,Y,Z,C,guard⟩:=o;simp only[]at z h;cases op<;>simp only[dV]at z
  case store t a x=>
   simp only[eQ,dL,Fe]at h;split at h
   .split at h
    .rename_i V;simp only[jr,Res.val.injEq]at h;obtain⟨rfl,rfl⟩:=h;unfold jY at V;split at V
     .split at V
      .split at V
       .simp only[am]at V;rw[<-V];exact aG _
       .simp at V
      .simp at V
     .simp at V
    .simp[jr]at h
   .simp[jr]at h
  case mapUpdate t m k x=>
   simp only[eQ,dL,Fv]at h;split at h
   .split at h
    .rename_i V;simp only[jr,Res.val.injEq]at h;obtain⟨rfl,rfl⟩:=h;unfold te at V;split at V
     .split at V
      .split at V
       .split at V
        .simp only[am]at V;rw[<-V];exact aG _
        .simp only[am]at V;rw[<-V];exact aG _
        .simp at V
       .simp at V
      .simp at V
     .simp at V
    .simp[jr]at h
   .simp[jr]at h
theorem zbN{ih':zd5->Res}{f':FuncId}{op:Op}(z:uo op=true):eQ P cfg ih f E H op=eQ P cfg ih' f' E H op:=by
 cases op<;>simp only[uo,jd,dV]at z<;>try rfl
 rename_i c;simp only[eQ,wP];cases hc:c.callee with
 |value g=>simp_all
 |invoke g m=>rfl
 |builtin b=>
  rw[hc]at z;simp only[];cases b<;>simp only[dV]at z<;>rfl
theorem zbO{ops:qE}{E':aw}(hp:GE ops=true)(h:lR P cfg ih f N ops ops E H=.done .normal E' H'):pB P cfg ih f N ops E H=.done .normal E' H':=by
 unfold GE at hp;simp only[bT,js,tq]at hp;obtain⟨⟨V,O⟩,L⟩:=hp;obtain⟨rs,hr⟩:=KY h;have j:=Cv hr;have hlen:=Kq j;obtain⟨_,z2⟩:=Kr j;have Z:∀(i:Nat) o,ops[i]?=some o->i+1<ops.length->yO o=true:=fun i o I hi=>by
  have:=O i ac;simp_all
 have Y:∀i,i+1<=ops.length->cH rs H' i=H:=fun i=>by
  induction i with
  |zero=>intro _;exact z2
  |succ i ih=>
   intro hi;have hri:=aX (show i<rs.length by omega);obtain⟨o,I,m⟩:=yD j hri;have h1:=ih ac;have h2:cH rs H' (i+1)=cH rs H' i:=by
    cases hd:(rs[i]' ac).did with
    |true=>exact Qs (Z i o I ac) (m.f2 hd)
    |false=>exact(m.no hd).2
   rw[h2,h1]
 unfold pB;rw[V];simp only[hr];have C:yp P cfg (sg ops) rs H'=true:=by
  unfold yp;simp only[bT,js];refine⟨fun r hm=>?_,fun p hpm=>?_⟩
  .obtain⟨i,hi⟩:=KB.1 hm;obtain⟨o,I,m⟩:=yD j hi;have z:i<ops.length:=(gR.1 I).1;rw[m.eH,m.eH'];refine Nat.ble_eq_true_of_le ?_;cases hd:r.did with
   |false=>rw[(m.no hd).2];omega
   |true=>
    by_cases hl:i+1<ops.length
    .grind
    .have:=O i z;rw[I]at this;have hb:Nat.blt (i+1) ops.length=false:=by
      cases hx:Nat.blt (i+1) ops.length with
      |false=>rfl
      |true=>exact(hl aU).elim
     simp only[hb,dV,fK]at this;exact zbM this (m.f2 hd)
  .have hm:p.2<ops.length:=by simpa [ur]using L p hpm
   cases hrp:rs[p.1]? with
   |none=>rfl
   |some r=>
    obtain⟨o,I,m⟩:=yD j hrp;have z:p.1<ops.length:=(gR.1 I).1;simp only[];cases hd:r.did with
    |false=>rfl
    |true=>
     simp only[uz,l5];have hH:r.H=cH rs H' p.2:=by rw[m.eH,Y _ ac,Y _ ac]
     unfold ze6;cases hk:jd r.o.op with
     |cR=>rfl
     |eh=>rfl
     |read=>
      simp only[];have J:=m.f2 hd;rw[<-m.eE,<-m.eo,<-m.eH,hH]at J;rw[zbN (P:=P) (cfg:=cfg) (f:=f) (ih:=ih) (ih':=fun _=>.a5) (f':=0) (by simp[uo,hk])]at J;rw[J];simp only[AV.beq_refl]
     |make=>
      exfalso;rw[m.eo]at hk;by_cases hl:p.1+1<ops.length
      .have:=Z _ o I hl;unfold yO vI uo at this;simp_all
      .have h3:=O p.1 z;rw[I]at h3;have hb:Nat.blt (p.1+1) ops.length=false:=by
        cases hx:Nat.blt (p.1+1) ops.length with
        |false=>rfl
        |true=>exact(hl aU).elim
       simp only[hb,dV,fK,GD,yO,vI,uo,hk,Bool.or_self,l5]at h3;split at h3
       .rename_i J;rw[J]at hk;simp[jd]at hk
       .rename_i J;rw[J]at hk;simp[jd]at hk
       .simp at h3
 rw[C]
theorem bX.co{id:Nat}{ops:qE}{l:List SOp}{E:aw}{H:Hp}{Q:AX->aw->Hp->Prop}(Z:cfg.cD f id=.text)(m:GE ops=true)(V:bw N ops ops=some l)
 (h:∀K:aw->Hp->Prop,(∀E' H',Q .normal E' H'->K E' H')->aH P cfg f l E H K):bX P cfg f N (.co id ops) E H Q:=by
 unfold bX;intro code hc;cases code with
 |region O I draw=>
  cases draw with
  |false=>simp only[aJ,bE]at hc;grind
  |true=>
   simp only[aJ,SC.co.injEq]at hc;obtain⟨rfl,rfl⟩:=hc;obtain⟨n,E',H',j,Y⟩:=aH.run V (h (Q .normal) fun _ _ h=>h);refine⟨_,_,_,dH.co (n:=n) (r:=.done .normal E' H') ?_ aB,Y⟩;rw[Z];simp only[lQ];exact zbO m j
 |_=>simp[aJ]at hc
end
section
variable {P:Program} {H:Hp} {t u e:TypeId} {keep:Bool}
theorem uC{o z:Nat}{imm:Nat}{tip:Bool}(hg:H.get r=some (.cells cs imm tip))(L:((cs.drop o).take (n*s)).length=n*s):gg H s (.sl r o n z)=some (n,(cs.drop o).take (n*s)):=by
 unfold gg;simp_all
def append_nil(m:P.underlying t=some (.slice e))(V:bp P e=some s)(hb:cT P e=some b)(j:cC P e=some z)(Z:jF P u=true)
 (Y:gg H s x=some (n+1,L)) (I:L.all AV.one=true) (J:z.length=s) (O:(n+1)*b<=ej) (C:n+1<=ej) :
 dr P keep H t u .ao x=some (.sl H.next 0 (n+1) s,H.alloc (.cells L 0 true)):=by
 simp only[dr,m,V,hb,j,Z,Y,I,J,sC,dG,iM,oD,O,C]
theorem zbP{len:Nat}(m:P.underlying t=some (.slice e))(V:bp P e=some s)(hb:cT P e=some b)(j:cC P e=some z)(Z:jF P u=true)
 (Y:gg H s x=some (n+1,L)) (I:L.all AV.one=true) (J:z.length=s) (hg:H.get r=some (.cells cs 0 true)) (O:cs.length=len*s) (h1:(len+(n+1))*b<=ej) (h2:len+(n+1)<=ej) :
 dr P false H t u (.sl r 0 len s) x=some (.sl H.next 0 (len+(n+1)) s,(H.bh r).alloc (.cells (cs++L) 0 true)):=by
 have C:iM false H s (.sl r 0 len s)=H:=by
  unfold iM;simp only[hg,bR];have:Nat.blt (len*s) cs.length=false:=by
   cases hb:Nat.blt (len*s) cs.length with
   |false=>rfl
   |true=>simp_all
  simp[this]
 simp only[dr,m,V,hb,j,Z,Y,I,J,sC,dG,C,oD,hg,h1,h2,bR,O,eR,rz,gm,dV,fK]
end
theorem zbQ(E:aw):aM E (.const (.slice none 0 0))=some .ao:=rfl
def GF(l:qT):List (aY×qA):=l.map fun a=>(a.name,List.replicate a.len.toNat 0)
def ny:qV->Nat->List (aY×Int)->List (aY×Int)
 |[],_,m=>m
 |f::l,i,m=>ny l (i+1) (setV m f.name i)
def KZ:List (aY×Int)->aY->Bool
 |[],_=>false
 |p::l,nm=>if nm=p.1 then true else KZ l nm
structure Oc where
 az:Int
 aT:Int
 out:qA
 value:Int
def mH(r:Int×MS):Oc:=if r.2.a4=2 then ⟨2,r.2.aT,r.2.out,0⟩else if r.2.a4=3 then ⟨3,0,r.2.out,0⟩else ⟨1,0,r.2.out,r.1⟩
def pI(p:Pr)(fuel:Int):MS:=⟨fuel,0,0,GF p.ab,[]⟩
end Go.Ab
namespace Go.Proofs.YtbflaciihaijgaaGreat
set_option maxRecDepth 20000
open Go Go.Ab
structure S9 where
 cells:List qA
 out:qA
 a2:Int
 ed:Int
 aT:Int
 bI:Int
structure R9 where
 k:Bool
 v:Int
 s:Option S9
def GG(Y:List R9)(k:Int):Option R9:=if 0<=k then Y[k.toNat]? else none
def yP(s:S9)(a i:Int):Option Int:=if 0<=a then s.cells[a.toNat]?.bind fun l=>some (if i<0\/(l.length:Int)<=i then 0 else l.getD i.toNat 0)else none
def yQ(s:S9)(a i v:Int):Option S9:=if 0<=a then s.cells[a.toNat]?.bind fun l=>some (if i<0\/(l.length:Int)<=i then s else {s with cells:=s.cells.set a.toNat (l.set i.toNat v) })else none
def rH(J:qD)(k:Nat):List Gr->Nat->Int->Int
 |[],_,f=>f
 |g::l,i,f=>rH J k l (i+1) (if g.name=J/\g.params=k then (i:Int)else f)
def yR(ar:qT)(fuel:Int):S9:=⟨ar.map fun a=>List.replicate a.len.toNat 0,[],fuel,0,0,0⟩
def pJ(s:S9)(v:Int):Oc:=if s.ed=2 then ⟨2,s.aT,s.out.reverse,0⟩else if s.ed=0 then ⟨1,0,s.out.reverse,v⟩else ⟨s.ed,0,s.out.reverse,0⟩
end Go.Proofs.YtbflaciihaijgaaGreat
namespace Go.Ab
set_option maxRecDepth 20000
open Go
instance:DecidableEq Nd:=fun x y=>decidable_of_iff (x.op=y.op/\x.aP=y.aP/\x.ak=y.ak) (by cases x;cases y;simp)
variable{l:qF}{i m j:Nat}{n:Nd}
def eK(op:Int):Int×Bool:=
 if op=1\/op=2\/op=3\/op=26 then (0,true)
 else if op=20\/op=21\/op=24\/op=25 then (1,true)
 else if op=23\/op=27\/op=29 then (2,true)
 else if op=22\/op=28 then (3,true)
 else if op=30\/op=31 then (-1,true)
 else if 4<=op/\op<=19 then (2,true)
 else (0,false)
def dy(n:Int):Int:=(n-1).tdiv 2
def Av(l:qF)(k:Int):Int:=match l[k.toNat]? with
 |some n=>n.ak.length
 |none=>0
def kH(l:qF)(n:Nd):Int:=
 if n.op=2 then 5 else if n.op=3 then 255 else if n.op=23\/n.op=28 then 3 else if n.op=30 then 7 else if n.op=31 then 15
 else if n.op=25 then dy (Av l (n.ak.headD 0))-1 else 0
def fh(l:qF)(n:Nd):Bool:=
 if n.op=1 then true
 else if n.op=27 then decide (1<=n.aP)&&decide (n.aP<=1000016)
 else decide (0<=n.aP)&&decide (n.aP<=kH l n)
def ju(op:Int):qA:=
 if op=22 then [1,1,1]else if op=23\/op=27\/op=29 then [2,1]else if op=28 then [2,1,1]else if op=24 then [2]else if op=25 then [3]else [1,1]
def fy:qA->qA->Bool
 |[],_=>true
 |a::s,w=>decide (a=w.headD 0)&&fy s w.tail
def nA(n:Nat):qA:=((List.replicate n (1:Int)).set 0 2).set (dy n+1).toNat 2
def dY(op:Int)(s:qA):Bool:=
 if (eK op).2=false then false
 else if 0<=(eK op).1/\(eK op).1≠s.length then false
 else if op=31 then decide (3<=s.length)&&decide (s.length%2=1)&&decide (dy s.length<=16)&&fy s (nA s.length)
 else if op=30 then decide (1<=s.length)&&decide (s.length<=7)&&decide (s.headD 0=2)&&s.tail.all fun x=>decide (x=1)
 else if op=22/\s.getD 1 0=2 then decide (s.headD 0=1)&&decide (s.getD 2 0=2)
 else fy s (ju op)
def gJ(i:Nat)(L:qA):qA->Option qA
 |[]=>some []
 |k::ks=>if k<0\/(i:Int)<=k\/L.getD k.toNat 0=0 then none else (gJ i L ks).map fun s=>L.getD k.toNat 0::s
def kU(n:Nd)(s:qA):Int:=
 if n.op=31 then 3
 else if n.op=26\/n.op=27\/n.op=28\/n.op=29\/n.op=30 then 2
 else if n.op=22 then s.getD 1 0
 else if n.op=3/\n.aP.tmod 16=0 then 2
 else if n.op=25/\n.aP=0 then 2
 else 1
def l6(l:qF)(i:Nat)(L:qA):Int:=match l[i]? with
 |none=>0
 |some n=>match gJ i L n.ak with
  |none=>0
  |some s=>if dY n.op s&&fh l n then kU n s else 0
def eY(l:qF):Nat->qA
 |0=>[]
 |i+1=>eY l i++[l6 l i (eY l i)]
def em(l:qF)(i:Int):Int:=if i<0\/(l.length:Int)<=i then 0 else (eY (l.take (i.toNat+1)) (i.toNat+1)).getD i.toNat 0
theorem tA(l:qF):∀i,(eY l i).length=i
 |0=>rfl
 |i+1=>by rw[eY,fx,tA l i];rfl
theorem K0(l:qF):∀{i j:Nat},j<i->(eY l i).getD j 0=l6 l j (eY l j)
 |0,j,h=>by omega
 |i+1,j,h=>by
  rw[eY];by_cases e:j<i
  .rw[dC,nQ (by rw[tA];exact e),<-dC];exact K0 l e
  .obtain rfl:j=i:=by omega
   rw[dC,tf (by rw[tA];omega),tA,rz];rfl
theorem xh{i:Nat}{L:qA}:∀{Z s:qA},gJ i L Z=some s->∀k∈Z,0<=k/\k<i/\L.getD k.toNat 0≠0
 |[],s,_,k,h=>by simp at h
 |a::Z,s,h,k,z=>by
  rw[gJ]at h;split at h
  .cases h
  .rename_i c;obtain⟨t,m,_⟩:=uj.1 h;rcases eJ.1 z with rfl|z
   .omega
   .exact xh m k z
theorem Aw{i:Nat}{L:qA}:∀{Z s:qA},gJ i L Z=some s->s.length=Z.length
 |[],s,h=>by cases h;rfl
 |a::Z,s,h=>by
  rw[gJ]at h;split at h
  .cases h
  .obtain⟨t,m,rfl⟩:=uj.1 h;rw[fc,fc,Aw m]
theorem GH{L:qA}(J:l[i]?=some n)(h:l6 l i L≠0):∃s,gJ i L n.ak=some s/\dY n.op s=true/\fh l n=true:=by
 unfold l6 at h
 grind
def Qt(h:n.op=25->∃k L,n.ak=k::L/\k.toNat<m):fh (l.take m) n=fh l n:=by
 have e:kH (l.take m) n=kH l n:=by
  unfold kH;by_cases c:n.op=25
  .obtain⟨k,L,j,Z⟩:=h c;rw[c];simp only[j,KU,Av,ry,Z,dG]
  omega
 unfold fh;rw[e]
theorem zbR(V:i<m)(L:qA):l6 (l.take m) i L=l6 l i L:=by
 unfold l6;rw[ry,ai V];cases I:l[i]? with
 |none=>rfl
 |some n=>
  simp only;cases z:gJ i L n.ak with
  |none=>rfl
  |some s=>
   simp only;by_cases c:dY n.op s=true
   .have e:fh (l.take m) n=fh l n:=Qt fun J=>by
     have Z:=Aw z;have j:s.length=1:=by
      have c2:=c;unfold dY at c2;rw[J]at c2;have:eK 25=(1,true):=aF;rw[this]at c2;simp only at c2;split at c2
      .cases c2
      .split at c2
       .cases c2
       .omega
     cases Y:n.ak with
     |nil=>rw[Y,j]at Z;simp at Z
     |cons k O=>
      refine⟨k,O,rfl,?_⟩;have:=xh z k (by rw[Y];exact dM);omega
    rw[e]
   simp_all
theorem La{l:qF}{m:Nat}:∀{i:Nat},i<=m->eY (l.take m) i=eY l i
 |0,_=>rfl
 |i+1,h=>by rw[eY,eY,La (by omega:i<=m),zbR ac]
def yS(h:i<l.length):em l i=l6 l i (eY l i):=by
 unfold em;rw[ah ac,eM,La (aG _),K0 l (cn i)]
def GI(I:j<i)(O:i<=l.length):(eY l i).getD j 0=em l j:=by
 rw[K0 l I,yS ac]
theorem Qu{m:qF}(h:i<l.length):em (l++m) i=em l i:=by
 unfold em
 grind
def yT(k:qA):Bool:=k.all fun x=>decide (x=1)
theorem Lb:∀(s w:qA),s.length<=w.length->(∀x∈w,x=1)->fy s w=yT s
 |[],w,_,_=>by simp[fy,yT]
 |a::s,[],h,_=>by simp at h
 |a::s,b::w,h,hw=>by
  have hb:=hw b dM;subst hb;rw[fy,KU,List.tail_cons,Lb s w lV (fun x I=>hw x (dh _ I))];simp[yT]
theorem GJ(a b:Int)(s w:qA):fy (a::s) (b::w)=(decide (a=b)&&fy s w):=rfl
theorem zbS(n m:Nat)(h:m<n):(List.replicate n (1:Int)).set m 2=List.replicate m 1++2::List.replicate (n-m-1) 1:=by
 apply GA
 grind
theorem Qv:∀(a s w v:qA),a.length=w.length->fy (a++s) (w++v)=(fy a w&&fy s v)
 |[],s,[],v,_=>by simp[fy]
 |x::a,s,y::w,v,h=>by
  rw[yN,yN,GJ,GJ,Qv a s w v lV,GB]
 |[],_,_::_,_,h=>by simp at h
 |_::_,_,[],_,h=>rD
theorem CP(n:Nat)(h:1<=n):dy n=((n-1)/2:Nat):=by
 unfold dy
 grind
theorem zbT(s:qA)(h:3<=s.length)(ho:s.length%2=1):fy s (nA s.length)=(decide (s.headD 0=2)&&yT ((s.drop 1).take (s.length/2))&&decide (s.getD (s.length/2+1) 0=2)&&yT (s.drop (s.length/2+2))):=by
 obtain⟨m,Y⟩:∃m,s.length=2*m+1:=⟨s.length/2,ac⟩;have L:1<=m:=ac;have C:s.length/2=m:=ac;have O:(dy s.length+1).toNat=m+1:=CO;have J:nA s.length=2::(List.replicate m 1++2::List.replicate (m-1) 1):=by
  unfold nA;rw[O,Y];have j:List.replicate (2*m+1) (1:Int)=1::List.replicate (2*m) 1:=rfl;rw[j,KV,List.set_cons_succ,zbS _ _ ac]
  congr 4;omega
 rw[J,C]
 match s,Y with
 |a::t,Y=>
  have ht:t.length=2*m:=FC;rw[GJ,KU,Aq,gm];have hd:t=t.take m++t.drop m:=(JX m t).symm;have Z:(t.take m).length=m:=cU
  conv=>lhs;rw[hd]
  rw[Qv _ _ _ _ (by rw[Z];simp),Lb (t.take m) _ (by rw[Z];simp) (fun x I=>KW I)];have hg:(a::t).getD (m+1) 0=t.getD m 0:=rfl;have z:(a::t).drop (m+2)=t.drop (m+1):=rfl;rw[hg,z];have V:t.drop m=t.getD m 0::t.drop (m+1):=by
   rw[i4 ac,dC,aX ac];rfl
  rw[V,GJ,Lb (t.drop (m+1)) _ cZ (fun x I=>KW I),GB,GB]
def zbU{J:Type}{s:List J}(h:s.length=1):∃a,s=[a]:=by
 match s,h with
 |[a],_=>exact⟨a,rfl⟩
theorem zbV{J:Type}{s:List J}(h:s.length=3):∃a b c,s=[a,b,c]:=by
 match s,h with
 |[a,b,c],_=>simp_all
def uD(a b:Nat):Nat:=a^^^ (a &&& b)
def oN(n:Nd)(h:qG)(j:Nat)(k:Int):Nat:=if n.op=31/\dy n.ak.length<=j then uD (h.getD k.toNat 0) (2^ n.aP.toNat)else h.getD k.toNat 0
def kV(n:Nd)(h:qG):Nat->qA->Nat->Nat
 |_,[],m=>m
 |j,k::ks,m=>kV n h (j+1) ks (m |||oN n h j k)
def mI(n:Nd)(h:qG):Nat:=kV n h 0 n.ak (if n.op=3 then 2^ (n.aP.tdiv 16).toNat else 0)
def cA(l:qF):Nat->qG
 |0=>[]
 |i+1=>cA l i++[match l[i]? with|some n=>mI n (cA l i)|none=>0]
def Qw(n:Nd)(h:List qR)(j:Nat):Bool:=
 (n.ak.zipIdx.any fun p=>(h.getD p.1.toNat []).getD j false&&(!decide (n.op=31) || !decide ((j:Int)=n.aP)||decide ((p.2:Int)<(n.ak.length:Int).tdiv 2)))||(decide (n.op=3)&&decide ((j:Int)=n.aP.tdiv 16))
def yU(l:qF):Nat->List qR
 |0=>[]
 |i+1=>yU l i++[(List.range 16).map fun j=>match l[i]? with|some n=>Qw n (yU l i) j|none=>false]
theorem rI(l:qF):∀i,(cA l i).length=i
 |0=>rfl
 |i+1=>by rw[cA,fx,rI l i];rfl
theorem Lc(l:qF):∀i,(yU l i).length=i
 |0=>rfl
 |i+1=>by rw[yU,fx,Lc l i];rfl
theorem Ax(a b j:Nat):(uD a b).testBit j=(a.testBit j && !b.testBit j):=by
 unfold uD
 grind
theorem CQ(n:Nd)(h:qG)(t:Nat):∀(L:qA) (j m:Nat),(kV n h j L m).testBit t=(m.testBit t||(L.zipIdx j).any fun p=>(oN n h p.2 p.1).testBit t)
 |[],j,m=>by simp[kV]
 |k::L,j,m=>by
  rw[kV,CQ n h t L,Nat.testBit_or,List.zipIdx_cons,uA,Bool.or_assoc]
structure znR (n:Nd) (i:Nat):Prop where
 ak:∀k∈n.ak,0<=k/\k<i
 lv:n.op=3->0<=n.aP/\n.aP<=255
 lp:n.op=31->0<=n.aP/\n.aP<=15/\n.ak.length%2=1/\3<=n.ak.length
def Ay(a t:Nat):(2^ a).testBit t=decide (a=t):=Nat.testBit_two_pow
theorem GK{J:Type}{a:List J}{x d:J}(h:j<a.length):(a++[x]).getD j d=a.getD j d:=by
 grind
theorem GL{J:Type}{a:List J}{x d:J}(h:j=a.length):(a++[x]).getD j d=x:=by
 simp_all
theorem Qy{l:qF}:∀(i:Nat),i<=l.length->(∀j n,j<i->l[j]?=some n->znR n j)->∀j,j<i->∀t,((cA l i).getD j 0).testBit t=(decide (t<16)&&((yU l i).getD j []).getD t false)
 |0,_,_,j,h,_=>by omega
 |i+1,hi,hok,j,hj,t=>by
  have ih:=Qy i ac (fun j n h1 m=>hok j n ac m);rw[cA,yU];by_cases e:j<i
  .rw[GK (by rw[rI];exact e),GK (by rw[Lc];exact e)];exact ih j e t
  .obtain rfl:j=i:=by omega
   rw[GL (rI l j).symm,GL (Lc l j).symm];obtain⟨n,J⟩:∃n,l[j]?=some n:=⟨l[j],aX ac⟩;have ok:=hok j n (cn _) J;rw[J];simp only;by_cases c:t<16
   .rw[jT c,gW,dC,fd,JW c];simp only[lB,bH];unfold mI Qw;rw[CQ];have C:(if n.op=3 then 2^ (n.aP.tdiv 16).toNat else 0).testBit t=(decide (n.op=3)&&decide ((t:Int)=n.aP.tdiv 16)):=by
     by_cases c3:n.op=3
     .have:=ok.lv c3;rw[ai c3,Ay,jT c3,gW,As];have O:0<=n.aP.tdiv 16:=Int.tdiv_nonneg this.1 ac;omega
     .rw[ah c3,kS c3];simp
    rw[C,Bool.or_comm]
    congr 1
    rw[Bool.eq_iff_iff,At,At];have I:∀p∈n.ak.zipIdx,(oN n (cA l j) p.2 p.1).testBit t=(((yU l j).getD p.1.toNat []).getD t false&&(!decide (n.op=31) || !decide ((t:Int)=n.aP)||decide ((p.2:Int)<(n.ak.length:Int).tdiv 2))):=fun p hp=>by
     have Y:p.1∈n.ak:=KX hp;have hk:=ok.ak _ Y;have hb:=ih p.1.toNat ac t;rw[jT c,gW]at hb;unfold oN;by_cases Z:n.op=31
     .obtain⟨i0,z,ho,h3⟩:=ok.lp Z;have e2:dy n.ak.length=((n.ak.length/2:Nat):Int):=CO;have e3:(n.ak.length:Int).tdiv 2=((n.ak.length/2:Nat):Int):=rfl;rw[e3,jT Z];by_cases L:dy n.ak.length<=p.2
      .rw[ai ⟨Z,L⟩,Ax,hb,Ay];have V:decide ((p.2:Int)<((n.ak.length/2:Nat):Int))=false:=kS ac;have e5:decide (n.aP.toNat=t)=decide ((t:Int)=n.aP):=by rw[As];omega
       rw[V,e5];simp
      .rw[ah (fun h=>L h.2),hb];have V:decide ((p.2:Int)<((n.ak.length/2:Nat):Int))=true:=jT ac;rw[V];simp
     .rw[ah (fun h=>Z h.1),hb,kS Z];simp
    grind
   .rw[kS c,nh];unfold mI;rw[CQ];have C:(if n.op=3 then 2^ (n.aP.tdiv 16).toNat else 0).testBit t=false:=by
     by_cases c3:n.op=3
     .have:=ok.lv c3;rw[ai c3,Ay];refine kS ?_;have O:n.aP.tdiv 16<16:=by rw[sD this.1];omega
      omega
     simp_all
    rw[C,l5,uB];intro p hp;have Y:p.1∈n.ak:=KX hp;have hk:=ok.ak _ Y;have hb:=ih p.1.toNat ac t;rw[kS c,nh]at hb;unfold oN;split
    .rw[Ax,hb];simp
    .rw[hb];simp
end Go.Ab
namespace Go.Proofs.YtbflaciihaijgaaGreat
set_option maxRecDepth 20000
open Go Go.Ab
structure L9 where
 s:S9
 v:qA
structure Q9 where
 k:Bool
 v:Int
 s:Option S9
 l:Option L9
variable{n:Nd}{j i m t L:Nat}{r q:Q9}{c k:Int}{U:Un}{s:S9}{Y:qG}{l:qF}{v:List (Option L9)}
def tB:Q9:=⟨false,0,none,none⟩
def Q9.bj(r:Q9):Q9:=⟨true,r.v,r.s,r.l⟩
abbrev ev:=Int->Option Q9
variable{O:ev}
def da(g:ev)(n:Nd)(j:Nat):Option Q9:=n.ak[j]?.bind g
def jf(g:ev):qA->Option Int
 |[]=>some (-1)
 |k::l=>(g k).bind fun r=>if r.k=true then jf g l else some k
def pK(g:ev)(n:Nd):Option Int:=(da g n 0).bind fun r=>if r.v≠0 then n.ak[1]? else n.ak[2]?
def db(k:Nat):Nat:=(k-1)/2
def jv(g:ev)(n:Nd):Option Int:=
 if n.op=31 then jf g (n.ak.take (db n.ak.length))
 else if n.op=22 then n.ak[0]?.bind fun c=>(g c).bind fun r=>if r.k=true then (pK g n).bind fun k=>(g k).bind fun t=>some (if t.k=true then -1 else k)else some c
 else if n.op=27\/n.op=29\/n.op=30 then (da g n 0).bind fun r=>if r.k=true then r.s.bind fun s=>if s.ed≠0 then some (-1)else jf g n.ak else jf g n.ak
 else jf g n.ak
def nC(start:S9)(g:ev)(n:Nd):Option S9:=
 if n.op=26 then some start else
 (da g n 0).bind fun r=>r.s.bind fun s=>
   if n.op=28 then (da g n 1).bind fun a=>(da g n 2).bind fun b=>yQ s n.aP a.v b.v
   else if s.ed≠0 then some s
   else if n.op=27 then (da g n 1).bind fun a=>some (if a.v≠0 then s else {s with ed:=2,aT:=n.aP})
   else if n.op=29 then (da g n 1).bind fun a=>some {s with out:=a.v::s.out}
   else none
def iO(start:S9)(args:qA)(vars:Nat->Option L9)(g:ev)(n:Nd):Option Q9:=
 if n.op=1 then some ⟨false,n.aP,none,none⟩
 else if n.op=2 then (if 0<=n.aP then args[n.aP.toNat]?.bind fun v=>some ⟨false,v,none,none⟩else none)
 else if n.op=3 then (if 0<=n.aP then (vars (n.aP.toNat/16)).bind fun l=>if n.aP.toNat%16=0 then some ⟨false,0,some l.s,none⟩else l.v[n.aP.toNat%16]?.bind fun v=>some ⟨false,v,none,none⟩else none)
 else if n.op=30\/n.op=31 then none
 else if n.op=22 then (pK g n).bind g
 else if n.op=23 then (da g n 0).bind fun r=>r.s.bind fun s=>(da g n 1).bind fun a=>(yP s n.aP a.v).bind fun v=>some ⟨false,v,none,none⟩
 else if n.op=24 then (da g n 0).bind fun r=>r.s.bind fun s=>some ⟨false,s.bI,none,none⟩
 else if n.op=25 then (if 0<=n.aP then (da g n 0).bind fun r=>r.l.bind fun l=>if n.aP=0 then some ⟨false,0,some l.s,none⟩else l.v[n.aP.toNat]?.bind fun v=>some ⟨false,v,none,none⟩else none)
 else if n.op=20\/n.op=21 then (da g n 0).bind fun r=>some ⟨false,sA n.op r.v,none,none⟩
 else if n.op=26\/n.op=27\/n.op=28\/n.op=29 then (nC start g n).bind fun s=>some ⟨false,0,some s,none⟩
 else (da g n 0).bind fun a=>(da g n 1).bind fun b=>some ⟨false,lZ n.op a.v b.v,none,none⟩
def S9.bb(s:S9)(v:Int):S9:=⟨s.cells,s.out,s.a2,s.ed,s.aT,v⟩
def ct(s:S9):S9:=if s.a2=0 then {s with ed:=3}else {s with a2:=cy (s.a2-1) }
def gK(g:ev)(ks:qA):Nat->Nat->Option qA
 |0,_=>some []
 |m+1,j=>ks[j]?.bind fun k=>(g k).bind fun r=>(gK g ks m (j+1)).bind fun l=>some (r.v::l)
structure A9 where
 bJ:List Q9
 vars:List (Option L9)
variable{a b:A9}
def A9.get(a:A9):ev:=fun k=>if 0<=k then a.bJ[k.toNat]? else none
def A9.var(a:A9)(i:Nat):Option L9:=a.vars.getD i none
def vP(n:Nat):A9:=⟨List.replicate n tB,List.replicate 16 none⟩
structure X9 where
 f:Nat
 g:Gr
 start:S9
 args:qA
variable{g:ev}{args:qA}
def tC(Y:qG)(L:Nat)(Z:List Q9):List Q9:=Z.mapIdx fun i r=>if (Y.getD i 0).testBit L=true then tB else r
def A9.eu(a:A9)(Y:qG)(L:Nat):A9:=⟨tC Y L a.bJ,a.vars⟩
section
variable (bG:A9 -> Int -> Option A9)
def sE(a:A9)(i:Int):Option (Int×A9):=(bG a i).bind fun b=>(b.get i).bind fun r=>some (r.v,b)
def tD(a:A9)(i:Int):Option (S9×A9):=(bG a i).bind fun b=>(b.get i).bind fun r=>r.s.bind fun s=>some (s,b)
def uE(ks:qA):Nat->Nat->A9->Option (qA×A9)
 |0,_,a=>some ([],a)
 |m+1,j,a=>ks[j]?.bind fun i=>(sE bG a i).bind fun r=>(uE ks m (j+1) r.2).bind fun q=>some (r.1::q.1,q.2)
def rJ(Y:qG)(nd:Nd):Nat->L9->A9->Option (L9×A9)
 |0,_,_=>none
 |m+1,now,a=>
  if now.s.ed≠0 then some (now,a.eu Y nd.aP.toNat)
  else if (ct now.s).ed≠0 then some (⟨ct now.s,now.v⟩,a.eu Y nd.aP.toNat)
  else nd.ak[db nd.ak.length+1]?.bind fun I=>
   (tD bG ⟨tC Y nd.aP.toNat a.bJ,a.vars.set nd.aP.toNat (some ⟨ct now.s,now.v⟩)⟩ I).bind fun r=>
   (uE bG nd.ak (db nd.ak.length-1) (db nd.ak.length+2) r.2).bind fun vs=>
   nd.ak[db nd.ak.length]?.bind fun Z=>(sE bG vs.2 Z).bind fun c=>
    if c.1≠0 then rJ Y nd m ⟨r.1,0::vs.1⟩ c.2 else some (⟨r.1,0::vs.1⟩,c.2.eu Y nd.aP.toNat)
end
section
variable (U:Un) (bG:X9 -> A9 -> Int -> Option A9)
def uF(g:ev)(nd:Nd)(s:S9):Option S9:=
 if (ct s).ed≠0 then some (ct s)
 else (gK g nd.ak (nd.ak.length-1) 1).bind fun I=>if 0<=nd.aP then U.funcs[nd.aP.toNat]?.bind fun G=>
  (tD (bG ⟨nd.aP.toNat,G,(ct s).bb 0,I⟩) (vP G.af.length) G.aa).bind fun r=>
    if r.1.ed=0 then (sE (bG ⟨nd.aP.toNat,G,(ct s).bb 0,I⟩) r.2 G.value).bind fun v=>some (r.1.bb v.1)
    else some (r.1.bb s.bI)
  else none
def tE(m:Nat)(x:X9)(Y:qG)(a:A9)(nd:Nd):Option (Q9×A9):=
 if nd.op=31 then
  if 0<=nd.aP/\nd.aP<16/\1<=db nd.ak.length then (da a.get nd 0).bind fun r=>r.s.bind fun s=>(gK a.get nd.ak (db nd.ak.length-1) 1).bind fun vs=>
   (rJ (bG x) Y nd m ⟨s,0::vs⟩ a).bind fun r=>some (⟨false,0,none,some r.1⟩,r.2)
  else none
 else if nd.op=30 then (da a.get nd 0).bind fun r=>r.s.bind fun s=>if s.ed≠0 then some (⟨false,0,some s,none⟩,a)else (uF U bG a.get nd s).bind fun t=>some (⟨false,0,some t,none⟩,a)
 else (iO x.start x.args a.var a.get nd).bind fun r=>some (r,a)
def lD(k:Nat)(x:X9)(Y:qG):Nat->A9->qA->Option A9
 |0,_,_=>none
 |_+1,a,[]=>some a
 |m+1,a,i::st=>(a.get i).bind fun r=>
  if r.k=true then lD k x Y m a st
  else x.g.af[i.toNat]?.bind fun nd=>(jv a.get nd).bind fun c=>
   if 0<=c then (if st.length<2^20 then lD k x Y m a (c::i::st)else none)
   else (tE U bG k x Y a nd).bind fun t=>lD k x Y m ⟨t.2.bJ.set i.toNat t.1.bj,t.2.vars⟩ (i::st)
end
def kW(U:Un)(M:List qG):Nat->X9->A9->Int->Option A9
 |0,_,_,_=>none
 |n+1,x,a,i=>lD U (kW U M n) n x (M.getD x.f []) n a [i]
def jw(U:Un):List qG:=U.funcs.map fun g=>cA g.af g.af.length
def vQ(U:Un)(n:Nat)(x:X9):Option Oc:=
 (tD (kW U (jw U) n x) (vP x.g.af.length) x.g.aa).bind fun r=>
   if r.1.ed=0 then (sE (kW U (jw U) n x) r.2 x.g.value).bind fun v=>some (pJ r.1 v.1)else some (pJ r.1 0)
structure E9 where
 x:X9
 var:Nat->Option L9
variable{e:E9}{x:X9}
def E9.set(e:E9)(L:Nat)(z:L9):E9:=⟨e.x,fun i=>if i=L then some z else e.var i⟩
inductive T9 where
 |nd (e:E9) (i:Int) (r:Q9)
 |lp (e:E9) (n:Nd) (now fin:L9)
 |fn (x:X9) (s:S9) (v:Int)
def eF(start:S9)(args:qA)(vars:Nat->Option L9)(g:ev)(n:Nd):Option Q9:=
 if n.op=30 then (da g n 0).bind fun r=>r.s.bind fun s=>if s.ed≠0 then some ⟨false,0,some s,none⟩else if (ct s).ed≠0 then some ⟨false,0,some (ct s),none⟩else none
 else iO start args vars g n
def tF(O:L9):Option L9:=if O.s.ed≠0 then some O else if (ct O.s).ed≠0 then some ⟨ct O.s,O.v⟩else none
def E9.it(e:E9)(n:Nd)(O:L9):E9:=e.set n.aP.toNat ⟨ct O.s,O.v⟩
inductive Dn (U:Un):T9->Prop
 |op {e:E9}{i:Int}{n:Nd}{g:ev}{r:Q9} (h0:0<=i) (hn:e.x.g.af[i.toNat]?=some n) (hk:∀k q,g k=some q->k∈n.ak/\q.k=true) (hd:∀k q,g k=some q->Dn U (.nd e k q)) (hm:jv g n=some (-1)) (hc:eF e.x.start e.x.args e.var g n=some r):Dn U (.nd e i r.bj)
 |call {e:E9}{i:Int}{n:Nd}{g:ev}{q:Q9}{s st:S9}{args:qA}{G:Gr}{v:Int} (h0:0<=i) (hn:e.x.g.af[i.toNat]?=some n) (hk:∀k q,g k=some q->k∈n.ak/\q.k=true) (hd:∀k q,g k=some q->Dn U (.nd e k q)) (hm:jv g n=some (-1)) (ho:n.op=30) (hq:da g n 0=some q) (hs:q.s=some s) (he:s.ed=0) (ht:(ct s).ed=0) (ha:gK g n.ak (n.ak.length-1) 1=some args) (hi:0<=n.aP) (hG:U.funcs[n.aP.toNat]?=some G) (hf:Dn U (.fn ⟨n.aP.toNat,G,(ct s).bb 0,args⟩ st v)):Dn U (.nd e i ⟨true,0,some (st.bb (if st.ed=0 then v else s.bI)),none⟩)
 |loop {e:E9}{i:Int}{n:Nd}{g:ev}{q:Q9}{s:S9}{vs:qA}{fin:L9} (h0:0<=i) (hn:e.x.g.af[i.toNat]?=some n) (hk:∀k q,g k=some q->k∈n.ak.take (db n.ak.length)/\q.k=true) (hd:∀k q,g k=some q->Dn U (.nd e k q)) (hm:jv g n=some (-1)) (ho:n.op=31) (hi:0<=n.aP/\n.aP<16/\1<=db n.ak.length) (hq:da g n 0=some q) (hs:q.s=some s) (ha:gK g n.ak (db n.ak.length-1) 1=some vs) (hf:Dn U (.lp e n ⟨s,0::vs⟩ fin)):Dn U (.nd e i ⟨true,0,none,some fin⟩)
 |f4 {e:E9}{n:Nd}{now fin:L9} (h:tF now=some fin):Dn U (.lp e n now fin)
 |lpS {e:E9}{n:Nd}{now fin:L9}{si ci:Int}{qs br:Q9}{s:S9}{g:ev}{vs:qA} (h:tF now=none) (hsi:n.ak[db n.ak.length+1]?=some si) (hqs:Dn U (.nd (e.it n now) si qs)) (hs:qs.s=some s) (hk:∀k q,g k=some q->k∈n.ak.drop (db n.ak.length)) (hd:∀k q,g k=some q->Dn U (.nd (e.it n now) k q)) (ha:gK g n.ak (db n.ak.length-1) (db n.ak.length+2)=some vs) (hci:n.ak[db n.ak.length]?=some ci) (hqc:Dn U (.nd (e.it n now) ci br)) (h0:br.v=0->fin=⟨s,0::vs⟩) (h1:br.v≠0->Dn U (.lp e n ⟨s,0::vs⟩ fin)):Dn U (.lp e n now fin)
 |fn {x:X9}{q q2:Q9}{st:S9}{v:Int} (hq:Dn U (.nd ⟨x,fun _=>none⟩ x.g.aa q)) (hs:q.s=some st) (h2:st.ed=0->Dn U (.nd ⟨x,fun _=>none⟩ x.g.value q2)) (hv:v=if st.ed=0 then q2.v else 0):Dn U (.fn x st v)
theorem zbW(h:da g n j=some r):∃c,n.ak[j]?=some c/\g c=some r:=by
 unfold da at h
 grind
theorem rK(h:n.ak[j]?=some c)(hg:g c=some r):da g n j=some r:=by unfold da;simp_all
theorem zbX(g:ev)(n:Nd):(pK g n).bind g=(da g n 0).bind fun r=>if r.v≠0 then da g n 1 else da g n 2:=by
 unfold pK;rw[Option.bind_assoc]
 congr 1
 funext r
 split<;>rfl
def zbY{start:S9}{vars:Nat->Option L9}(h:∀j,da g n j=da O n j):eF start args vars g n=eF start args vars O n:=by
 have J:nC start g n=nC start O n:=by unfold nC;simp only[h]
 unfold eF iO;simp only[zbX,h,J]
theorem Qz{start:S9}{v v':Nat->Option L9}(h:n.op=3->0<=n.aP->v (n.aP.toNat/16)=v' (n.aP.toNat/16)):eF start args v g n=eF start args v' g n:=by
 unfold eF iO
 grind
theorem GM{g:ev}:∀{L:qA},(∀k∈L,0<=k)->jf g L=some (-1)->∀k∈L,∃q,g k=some q/\q.k=true
 |[],_,_,k,z=>by cases z
 |c::L,h0,h,k,z=>by
  rw[jf]at h;obtain⟨r,j,m⟩:=aC.1 h;by_cases hr:r.k=true
  .rw[ai hr]at m;rcases eJ.1 z with rfl|z
   .exact⟨r,j,hr⟩
   .exact GM (fun k z=>h0 k (dh _ z)) m k z
  simp_all
theorem Ld{g:ev}:∀{ks:qA},(∀k∈ks,∃r,g k=some r)->∃c,jf g ks=some c/\((c=-1/\∀k∈ks,∃r,g k=some r/\r.k=true)\/(c∈ks/\∃r,g c=some r/\r.k=false))
 |[],_=>⟨-1,rfl,.inl ⟨rfl,fun j I=>by cases I⟩⟩
 |c::ks,h=>by
  obtain⟨r,hr⟩:=h c dM;rw[jf,hr,aN];by_cases z:r.k=true
  .rw[ai z];obtain⟨k,e,m⟩:=Ld (ks:=ks) fun k z=>h k (dh _ z)
   refine⟨k,e,?_⟩;rcases m with⟨e,m⟩|⟨m,C⟩
   .exact .inl ⟨e,fun j I=>by
     rcases eJ.1 I with rfl|I
     .exact⟨r,hr,z⟩
     .exact m j I⟩
   .exact .inr ⟨dh _ m,C⟩
  simp_all
def QA(n:Nd):Prop:=n.op=27\/n.op=29\/n.op=30
instance (n:Nd):Decidable (QA n):=by unfold QA;infer_instance
structure Two (g a:ev) (n:Nd):Prop where
 pos:∀k∈n.ak,0<=k
 kn:∀k q,g k=some q->q.k=true
 f3:∀k∈n.ak,∃r,a k=some r
 eq:∀k∈n.ak,∀q r,g k=some q->a k=some r->r.k=true->r=q
 ms:jv g n=some (-1)
theorem Two.full{a:ev}(h:Two g a n){ks:qA}(V:∀k∈ks,k∈n.ak)(hg:∀k∈ks,∃q,g k=some q):∃c,jf a ks=some c/\((c=-1/\∀k∈ks,g k=a k)\/(c∈n.ak/\(∃q,g c=some q)/\∃r,a c=some r/\r.k=false)):=by
 obtain⟨c,e,j|⟨j,m⟩⟩:=Ld (g:=a) (ks:=ks) fun k z=>h.f3 k (V k z)
 .refine⟨c,e,.inl ⟨j.1,fun k z=>?_⟩⟩;obtain⟨r,C,Y⟩:=j.2 k z;obtain⟨q,Z⟩:=hg k z;rw[Z,C,h.eq k (V k z) q r Z C Y]
 simp_all
theorem QB{a:ev}(h:∀k∈n.ak,g k=a k)(j:Nat):da g n j=da a n j:=by
 unfold da
 grind
theorem Two.go{start:S9}{vars:Nat->Option L9}{a:ev}(h:Two g a n)(h31:n.op≠31):∃c,jv a n=some c/\((c=-1/\eF start args vars a n=eF start args vars g n/\da a n 0=da g n 0/\(n.op=30->∀q s,da g n 0=some q->q.s=some s->s.ed=0->∀k∈n.ak,g k=a k))\/(c∈n.ak/\(∃q,g c=some q)/\∃r,a c=some r/\r.k=false)):=by
 have V:=h.ms;unfold jv at V⊢;rw[ah h31]at V⊢;by_cases I:n.op=22
 .rw[ai I]at V⊢;obtain⟨c,j,h2⟩:=aC.1 V;obtain⟨q,C,Y⟩:=aC.1 h2;have Z:=cV j;obtain⟨r,hr⟩:=h.f3 c Z;rw[j,aN,hr,aN];by_cases z:r.k=true
  .obtain rfl:=h.eq c Z q r C hr z;rw[ai z]at Y⊢;obtain⟨k',O,h6⟩:=aC.1 Y;obtain⟨t,h7,h8⟩:=aC.1 h6;have e0:da a n 0=da g n 0:=by rw[rK j hr,rK j C]
   have hs:pK a n=some k':=by
    unfold pK at O⊢;rw[e0];exact O
   have m:k'∈n.ak:=by
    unfold pK at O;obtain⟨r2,_,h9⟩:=aC.1 O;split at h9
    .exact cV h9
    .exact cV h9
   obtain⟨t',ht⟩:=h.f3 k' m;rw[hs,aN,ht,aN];by_cases L:t'.k=true
   .rw[ai L];refine⟨-1,rfl,.inl ⟨rfl,?_,e0,fun e=>ac⟩⟩;have hc:∀R,eF start args vars R n=(pK R n).bind R:=fun R=>by
     unfold eF iO;rw[ah ac,ah ac,ah ac,ah ac,ah ac,ai I]
    rw[hc,hc,hs,O,aN,aN,ht,h7,h.eq k' m t t' h7 ht L]
   .rw[ah L];exact⟨k',rfl,.inr ⟨m,⟨t,h7⟩,t',ht,wV⟩⟩
  .rw[ah z];exact⟨c,rfl,.inr ⟨Z,⟨q,C⟩,r,hr,by simpa using z⟩⟩
 rw[ah I]at V⊢;have scan:jf g n.ak=some (-1)->∃c,jf a n.ak=some c/\((c=-1/\eF start args vars a n=eF start args vars g n/\da a n 0=da g n 0/\(n.op=30->∀q s,da g n 0=some q->q.s=some s->s.ed=0->∀k∈n.ak,g k=a k))\/(c∈n.ak/\(∃q,g c=some q)/\∃r,a c=some r/\r.k=false)):=fun hm=>by
  obtain⟨c,e,j|j⟩:=h.full (ks:=n.ak) (fun _ k=>k) fun k z=>by
   obtain⟨q,j,_⟩:=GM h.pos hm k z;exact⟨q,j⟩
  .exact⟨c,e,.inl ⟨j.1,(zbY (QB j.2)).symm,(QB j.2 0).symm,fun _ _ _ _ _ _=>j.2⟩⟩
  .exact⟨c,e,.inr j⟩
 by_cases hz:n.op=27\/n.op=29\/n.op=30
 .rw[ai hz]at V⊢;obtain⟨q,j,h2⟩:=aC.1 V;obtain⟨c,C,Y⟩:=zbW j;have hq:=h.kn c q Y;rw[ai hq]at h2;obtain⟨s,O,h6⟩:=aC.1 h2;have Z:=cV C;obtain⟨r,hr⟩:=h.f3 c Z;rw[rK C hr,aN];by_cases z:r.k=true
  .obtain rfl:=h.eq c Z q r Y hr z;rw[ai z,O,aN];by_cases he:s.ed≠0
   .rw[ai he];have e0:da a n 0=da g n 0:=by rw[rK C hr,rK C Y]
    refine⟨-1,rfl,.inl ⟨rfl,?_,by rw[<-rK C hr];exact e0,fun _ q' s' h7 h8 h9=>?_⟩⟩
    .have hc:∀R,eF start args vars R n=if n.op=30 then ((da R n 0).bind fun r=>r.s.bind fun s=>if s.ed≠0 then some ⟨false,0,some s,none⟩else if (ct s).ed≠0 then some ⟨false,0,some (ct s),none⟩else none)else (nC start R n).bind fun s=>some ⟨false,0,some s,none⟩:=fun R=>by
      unfold eF iO;by_cases J:n.op=30
      .rw[ai J,ai J]
      .rw[ah J,ah J,ah ac,ah ac,ah ac,ah ac,ah ac,ah ac,ah ac,ah ac,ah ac,ai ac]
     have hn:∀R,da R n 0=some r->nC start R n=some s:=fun R hR=>by
      unfold nC;rw[ah ac,hR,aN,O,aN,ah ac,ai he]
     rw[hc,hc,e0,rK C Y,hn a (rK C hr),hn g (rK C Y)]
    .rw[rK C Y,am]at h7;subst h7;rw[O,am]at h8;subst h8;exact absurd h9 he
   .rw[ah he]at h6⊢;have:=scan h6;rw[rK C hr]at this;exact this
  .rw[ah z];obtain⟨ks,hks⟩:∃ks,n.ak=c::ks:=by
    cases hl:n.ak with
    |nil=>rw[hl]at C;simp at C
    |cons x y=>rw[hl]at C;simp at C;exact⟨y,by rw[C]⟩
   refine⟨c,?_,.inr ⟨Z,⟨q,Y⟩,r,hr,by simpa using z⟩⟩;rw[hks,jf,hr,aN,ah z]
 simp_all
theorem Two.f9{a:ev}(h:Two g a n)(C:n.op=31):∃c,jv a n=some c/\((c=-1/\∀k∈n.ak.take (db n.ak.length),g k=a k)\/(c∈n.ak.take (db n.ak.length)/\(∃q,g c=some q)/\∃r,a c=some r/\r.k=false)):=by
 have V:=h.ms;unfold jv at V⊢;rw[ai C]at V⊢;have Y:∀k∈n.ak.take (db n.ak.length),k∈n.ak:=fun k z=>Au z;obtain⟨c,e,j|⟨j,m⟩⟩:=Ld (g:=a) (ks:=n.ak.take (db n.ak.length)) fun k z=>h.f3 k (Y k z)
 .refine⟨c,e,.inl ⟨j.1,fun k z=>?_⟩⟩;obtain⟨r,O,L⟩:=j.2 k z;obtain⟨q,Z,_⟩:=GM (fun k z=>h.pos k (Y k z)) V k z;rw[Z,O,h.eq k (Y k z) q r Z O L]
 .obtain⟨q,Z,_⟩:=GM (fun k z=>h.pos k (Y k z)) V c j;simp_all
theorem yV{g a:ev}{ks:qA}:∀{m j:Nat},(∀i k,j<=i->i<j+m->ks[i]?=some k->g k=a k)->gK g ks m j=gK a ks m j
 |0,_,_=>rfl
 |m+1,j,h=>by
  rw[gK,gK];cases I:ks[j]? with
  |none=>rfl
  |some k=>
   rw[aN,aN,h j k (aG _) ac I,yV (m:=m) (j:=j+1) fun i k Z Y=>h i k ac ac]
theorem Le{g a:ev}{ks:qA}(h:∀k q,g k=some q->∃Z,a k=some Z/\Z.v=q.v):∀{m j:Nat}{l:qA},gK g ks m j=some l->gK a ks m j=some l
 |0,_,_,e=>e
 |m+1,j,l,e=>by
  rw[gK]at e⊢;obtain⟨k,Y,V⟩:=aC.1 e;obtain⟨q,C,O⟩:=aC.1 V;obtain⟨l',z,L⟩:=aC.1 O;obtain⟨Z,J,I⟩:=h k q C;rw[Y,aN,J,aN,Le h z,aN,I];exact L
theorem Dn.bj{i:Int}(h:Dn U (.nd e i r)):r.k=true/\0<=i/\∃n,e.x.g.af[i.toNat]?=some n:=by
 cases h with
 |op L J=>exact⟨rfl,L,_,J⟩
 |call L J=>simp_all
 |loop L J=>simp_all
theorem dZ{J β:Type}{x L:Option J}{f f':J->Option β}{r:β}(I:∀a,x=some a->L=some a)(z:∀a,f a=some r->f' a=some r)(h:x.bind f=some r):L.bind f'=some r:=by
 obtain⟨a,j,m⟩:=aC.1 h;simp_all
section
variable {bG ev':A9 -> Int -> Option A9} (h:∀ a i b,bG a i=some b -> ev' a i=some b)
include h
def GN{i:Int}{r:Int×A9}(e:sE bG a i=some r):sE ev' a i=some r:=dZ (fun b hb=>h _ _ _ hb) (fun _ e=>e) e
def Lf{i:Int}{r:S9×A9}(e:tD bG a i=some r):tD ev' a i=some r:=dZ (fun b hb=>h _ _ _ hb) (fun _ e=>e) e
theorem QC{ks:qA}:∀{m j:Nat}{a:A9}{r:qA×A9},uE bG ks m j a=some r->uE ev' ks m j a=some r
 |0,_,_,_,e=>e
 |m+1,j,a,r,e=>by
  rw[uE]at e⊢;exact dZ (fun _ e=>e) (fun i e=>dZ (fun b hb=>GN h hb) (fun b e=>dZ (fun q J=>QC J) (fun _ e=>e) e) e) e
theorem QD{Y:qG}{nd:Nd}:∀{m z:Nat}{O:L9}{a:A9}{r:L9×A9},m<=z->rJ bG Y nd m O a=some r->rJ ev' Y nd z O a=some r
 |0,_,_,_,_,_,e=>by cases e
 |m+1,0,_,_,_,hm,_=>by omega
 |m+1,z+1,O,a,r,hm,e=>by
  rw[rJ]at e⊢;by_cases c1:O.s.ed≠0
  .rw[ai c1]at e⊢;exact e
  rw[ah c1]at e⊢;by_cases c2:(ct O.s).ed≠0
  .rw[ai c2]at e⊢;exact e
  rw[ah c2]at e⊢;refine dZ (fun _ e=>e) (fun I e=>?_) e;refine dZ (fun _ e=>Lf h e) (fun r e=>?_) e;refine dZ (fun _ e=>QC h e) (fun vs e=>?_) e;refine dZ (fun _ e=>e) (fun Z e=>?_) e;refine dZ (fun _ e=>GN h e) (fun c e=>?_) e;by_cases c3:c.1≠0
  .rw[ai c3]at e⊢;exact QD ac e
  simp_all
end
section
variable {U:Un} {bG ev':X9 -> A9 -> Int -> Option A9} (h:∀ x a i b,bG x a i=some b -> ev' x a i=some b)
include h
theorem zbZ{nd:Nd}{t:S9}(e:uF U bG g nd s=some t):uF U ev' g nd s=some t:=by
 unfold uF at e⊢;by_cases c1:(ct s).ed≠0
 .rw[ai c1]at e⊢;exact e
 rw[ah c1]at e⊢;refine dZ (fun _ e=>e) (fun I e=>?_) e;by_cases c2:0<=nd.aP
 .rw[ai c2]at e⊢;refine dZ (fun _ e=>e) (fun G e=>?_) e;refine dZ (fun _ e=>Lf (h _) e) (fun r e=>?_) e;by_cases c3:r.1.ed=0
  .rw[ai c3]at e⊢;exact dZ (fun _ e=>GN (h _) e) (fun _ e=>e) e
  .rw[ah c3]at e⊢;exact e
 simp_all
theorem zb0{m':Nat}(Z:m<=m'){nd:Nd}{r:Q9×A9}(e:tE U bG m x Y a nd=some r):tE U ev' m' x Y a nd=some r:=by
 unfold tE at e⊢;by_cases c1:nd.op=31
 .rw[ai c1]at e⊢;split at e
  .rename_i c2;rw[ai c2];refine dZ (fun _ e=>e) (fun _ e=>?_) e;refine dZ (fun _ e=>e) (fun _ e=>?_) e;refine dZ (fun _ e=>e) (fun _ e=>?_) e;exact dZ (fun _ e=>QD (h _) Z e) (fun _ e=>e) e
  .cases e
 rw[ah c1]at e⊢;by_cases c2:nd.op=30
 .rw[ai c2]at e⊢;refine dZ (fun _ e=>e) (fun _ e=>?_) e;refine dZ (fun _ e=>e) (fun s e=>?_) e;by_cases c3:s.ed≠0
  .rw[ai c3]at e⊢;exact e
  .rw[ah c3]at e⊢;exact dZ (fun _ e=>zbZ h e) (fun _ e=>e) e
 simp_all
theorem CR{k I:Nat}(z:k<=I){x:X9}{Y:qG}:∀{m Z:Nat}{a b:A9}{st:qA},m<=Z->lD U bG k x Y m a st=some b->lD U ev' I x Y Z a st=some b
 |0,_,_,_,_,_,e=>by cases e
 |m+1,0,_,_,_,hm,_=>by omega
 |m+1,Z+1,a,b,[],hm,e=>e
 |m+1,Z+1,a,b,i::st,hm,e=>by
  rw[lD]at e⊢;refine dZ (fun _ e=>e) (fun r e=>?_) e;by_cases c1:r.k=true
  .rw[ai c1]at e⊢;exact CR z ac e
  rw[ah c1]at e⊢;refine dZ (fun _ e=>e) (fun nd e=>?_) e;refine dZ (fun _ e=>e) (fun c e=>?_) e;by_cases c2:0<=c
  .rw[ai c2]at e⊢;split at e
   .rename_i c3;rw[ai c3];exact CR z ac e
   .cases e
  .rw[ah c2]at e⊢;exact dZ (fun _ e=>zb0 h z e) (fun _ e=>CR z ac e) e
end
theorem CS{U:Un}{M:List qG}:∀{n n':Nat}{x:X9}{a b:A9}{i:Int},n<=n'->kW U M n x a i=some b->kW U M n' x a i=some b
 |0,_,_,_,_,_,_,e=>by cases e
 |n+1,0,_,_,_,_,h,_=>by omega
 |n+1,n'+1,x,a,b,i,h,e=>by
  rw[kW]at e⊢;exact CR (fun x a i b=>CS (n:=n) (n':=n') ac) ac ac e
def gw(l:qF)(i:Nat):Nat:=(cA l l.length).getD i 0
theorem GO(l:qF)(i:Nat):∀n,i<n->(cA l n).getD i 0=(cA l (i+1)).getD i 0
 |0,h=>by omega
 |n+1,h=>by
  by_cases c:i=n
  .rw[c]
  .rw[cA,GK (by rw[rI];omega)];exact GO l i n ac
structure Wg (l:qF):Prop where
 ok:∀(i:Nat) (n:Nd),l[i]?=some n->znR n i
 uq:∀(i j:Nat) (n n':Nd),l[i]?=some n->l[j]?=some n'->n.op=31->n'.op=31->n.aP=n'.aP->i=j
 ln:l.length<=2000
def jg{J:Type}{l:List J}{x:J}(h:l[i]?=some x):i<l.length:=by
 by_cases c:i<l.length
 .exact c
 .rw[ng ac]at h;cases h
def QE(Z:Wg l)(J:l[i]?=some n)(t:Nat):(gw l i).testBit t=((if n.op=3 then 2^ (n.aP.tdiv 16).toNat else 0).testBit t||n.ak.zipIdx.any fun p=>(if n.op=31/\dy n.ak.length<=p.2 then uD (gw l p.1.toNat) (2^ n.aP.toNat)else gw l p.1.toNat).testBit t):=by
 have O:=jg J;unfold gw;rw[GO l i l.length O,cA,GL (rI l i).symm,J];simp only;unfold mI;rw[CQ]
 congr 1
 rw[Bool.eq_iff_iff,At,At];have j:∀p∈n.ak.zipIdx,(oN n (cA l i) p.2 p.1).testBit t=(if n.op=31/\dy n.ak.length<=p.2 then uD ((cA l l.length).getD p.1.toNat 0) (2^ n.aP.toNat)else (cA l l.length).getD p.1.toNat 0).testBit t:=fun p hp=>by
  have Y:p.1∈n.ak:=KX hp;have z:=(Z.ok i n J).ak _ Y;unfold oN;rw[GO l p.1.toNat i ac,GO l p.1.toNat l.length ac]
 constructor
 .rintro⟨p,hp,h⟩;exact⟨p,hp,by rw[<-j p hp];exact h⟩
 .rintro⟨p,hp,h⟩;exact⟨p,hp,by rw[j p hp];exact h⟩
def vR(Z:Wg l)(J:l[i]?=some n)(z:n.ak[j]?=some k)(m:(gw l k.toNat).testBit t=true)(h:n.op=31->j<db n.ak.length\/t≠n.aP.toNat):(gw l i).testBit t=true:=by
 rw[QE Z J,nU];refine .inr (At.2 ⟨(k,j),Qp.2 (by simpa using z),?_⟩);simp only;by_cases c:n.op=31/\dy n.ak.length<=j
 .have L:=jg z;rw[ai c,Ax,m,Ay];have e:=CP n.ak.length ac;rcases h c.1 with h|h
  .have:=c.2;unfold db at h;omega
  .rw[kS (fun e=>h e.symm)];rfl
 .rw[ah c];exact m
def QF(j:Wg l)(J:l[i]?=some n)(C:n.op=3)(L:0<=n.aP):(gw l i).testBit (n.aP.toNat/16)=true:=by
 rw[QE j J,ai C,Ay,nU];refine .inl (jT ?_);rw[sD L];omega
def xi(l:qF)(i t:Nat):Prop:=∃j n,i<j/\l[j]?=some n/\n.op=31/\n.aP.toNat=t
def xl(l:qF)(i:Nat):Prop:=∀t,(gw l i).testBit t=true->xi l i t
def xi.le(h:xi l i t)(I:j<=i):xi l j t:=by
 obtain⟨k,n,a,b⟩:=h;exact⟨k,n,ac,b⟩
def QG(Z:Wg l)(J:l[i]?=some n)(L:xl l i)(z:k∈n.ak)(m:(gw l k.toNat).testBit t=true){c:Nat}(Y:c<i):xi l c t:=by
 obtain⟨j,I⟩:=kT z;by_cases c1:n.op=31/\t=n.aP.toNat
 .exact⟨i,n,Y,J,c1.1,c1.2.symm⟩
 .exact(L t (vR Z J I m fun C=>.inr fun e=>c1 ⟨C,e⟩)).le ac
def QH(j:Wg l)(J:l[i]?=some n)(L:xl l i)(z:k∈n.ak):xl l k.toNat:=fun t m=>by
 have:=(j.ok i n J).ak k z;exact QG j J L z m ac
def QI(Z:Wg l)(J:l[i]?=some n)(C:n.op=31):¬xi l i n.aP.toNat:=by
 rintro⟨j,Y,O,m,V,L⟩;have I:=(Z.ok i n J).lp C;have z:=(Z.ok j Y m).lp V;have:=Z.uq i j n Y J m C V ac;omega
def zb1(U:Un):T9->Prop
 | .nd e i r=>Wg e.x.g.af->∀V:E9,V.x=e.x->(∀t,(gw e.x.g.af i.toNat).testBit t=true->V.var t=e.var t)->Dn U (.nd V i r)
 | .lp e n O Z=>Wg e.x.g.af->∀j:Nat,e.x.g.af[j]?=some n->n.op=31->∀V:E9,V.x=e.x->(∀t,(gw e.x.g.af j).testBit t=true->V.var t=e.var t)->Dn U (.lp V n O Z)
 | .fn ..=>True
def Dn.gj{t:T9}(h:Dn U t):zb1 U t:=by
 induction h with
 | @op e i n g r h0 J z hd hm hc ih=>
   intro hw V I Z;refine .op h0 (by rw[I];exact J) z (fun k q hg=>?_) hm ?_
   .obtain⟨j,Y⟩:=kT (z k q hg).1;by_cases c1:n.op=31
    .rw[eF,ah ac,iO,ah ac,ah ac,ah ac,ai (.inr c1)]at hc;cases hc
    .exact ih k q hg hw V I fun t m=>Z t (vR hw J Y m fun h=>absurd h c1)
   .rw[I,<-hc];exact Qz fun h3 hi=>Z _ (QF hw J h3 hi)
 | @call e i n g q s st args G v h0 J z hd hm ho hq hs he m L hi hG hf ih O=>
   intro hw V I Z;refine .call h0 (by rw[I];exact J) z (fun k q hg=>?_) hm ho hq hs he m L hi hG hf;obtain⟨j,Y⟩:=kT (z k q hg).1;exact ih k q hg hw V I fun t m=>Z t (vR hw J Y m fun h=>ac)
 | @loop e i n g q s vs fin h0 J z hd hm ho hi hq hs L hf ih O=>
   intro hw V I Z;refine .loop h0 (by rw[I];exact J) z (fun k q hg=>?_) hm ho hi hq hs L (O hw i.toNat J ho V I Z);obtain⟨j,Y⟩:=kT (z k q hg).1;have hjl:=jg Y;rw[oE]at hjl;rw[ry,ai ac]at Y;exact ih k q hg hw V I fun t m=>Z t (vR hw J Y m fun h=>.inl ac)
 |f4 h=>exact fun _ _ _ _ _ _ _=>.f4 h
 | @lpS e n now fin si ci qs br s g vs h hsi hqs hs z hd L hci hqc h0 h1 ih1 O ih3 ih4=>
   intro hw j Y ho V I Z;have C:∀(a:Nat) (k:Int),n.ak[a]?=some k->∀t,(gw e.x.g.af k.toNat).testBit t=true->(V.it n now).var t=(e.it n now).var t:=fun a k z t m=>by
    show(if t=n.aP.toNat then _ else V.var t)=if t=n.aP.toNat then _ else e.var t
    by_cases c:t=n.aP.toNat
    .rw[ai c,ai c]
    .rw[ah c,ah c];exact Z t (vR hw Y z m fun _=>.inr c)
   refine .lpS h hsi (ih1 hw _ I (C _ _ hsi)) hs z (fun k q hg=>?_) L hci (ih3 hw _ I (C _ _ hci)) h0 fun hz=>ih4 hz hw j Y ho V I Z;obtain⟨a,L⟩:=kT (z k q hg);rw[wW]at L;exact O k q hg hw _ I (C _ _ L)
 |fn=>exact trivial
def Dn.fA{V:E9}{i:Int}(h:Dn U (.nd e i r))(j:Wg e.x.g.af)(I:V.x=e.x)(Z:∀t,(gw e.x.g.af i.toNat).testBit t=true->V.var t=e.var t):Dn U (.nd V i r):=h.gj j V I Z
def rL{a:ev}(h:∀k q,g k=some q->a k=some q)(e:da g n j=some r):da a n j=some r:=dZ (fun _ e=>e) (fun k e=>h k r e) e
theorem CT{g a:ev}(h:∀k q,g k=some q->a k=some q):∀{L:qA}{c:Int},jf g L=some c->jf a L=some c
 |[],_,e=>e
 |k::L,c,e=>by
  rw[jf]at e⊢;refine dZ (fun q e=>h k q e) (fun r e=>?_) e;split at e
  .rename_i c1;rw[ai c1];exact CT h e
  .rename_i c1;rw[ah c1];exact e
def QJ{a:ev}(h:∀k q,g k=some q->a k=some q){k:Int}(e:pK g n=some k):pK a n=some k:=dZ (fun _ e=>rL h e) (fun _ e=>e) e
def CU{a:ev}(h:∀k q,g k=some q->a k=some q)(e:jv g n=some c):jv a n=some c:=by
 unfold jv at e⊢;split at e
 .rename_i c1;rw[ai c1];exact CT h e
 rename_i c1;rw[ah c1];split at e
 .rename_i c2;rw[ai c2];refine dZ (fun _ e=>e) (fun k e=>?_) e;refine dZ (fun q e=>h k q e) (fun r e=>?_) e;split at e
  .rename_i c3;rw[ai c3];exact dZ (fun _ e=>QJ h e) (fun k e=>dZ (fun q e=>h k q e) (fun _ e=>e) e) e
  .rename_i c3;rw[ah c3];exact e
 rename_i c2;rw[ah c2];split at e
 .rename_i c3;rw[ai c3];refine dZ (fun _ e=>rL h e) (fun r e=>?_) e;split at e
  .rename_i c4;rw[ai c4];refine dZ (fun _ e=>e) (fun s e=>?_) e;split at e
   .rename_i c5;rw[ai c5];exact e
   .rename_i c5;rw[ah c5];exact CT h e
  .rename_i c4;rw[ah c4];exact CT h e
 .rename_i c3;rw[ah c3];exact CT h e
def zb2{start:S9}{a:ev}(h:∀k q,g k=some q->a k=some q)(e:nC start g n=some s):nC start a n=some s:=by
 unfold nC at e⊢;split at e
 .rename_i c1;rw[ai c1];exact e
 rename_i c1;rw[ah c1];refine dZ (fun _ e=>rL h e) (fun r e=>dZ (fun _ e=>e) (fun I e=>?_) e) e;split at e
 .rename_i c2;rw[ai c2];exact dZ (fun _ e=>rL h e) (fun r e=>dZ (fun _ e=>rL h e) (fun _ e=>e) e) e
 rename_i c2;rw[ah c2];split at e
 .rename_i c3;rw[ai c3];exact e
 rename_i c3;rw[ah c3];split at e
 .rename_i c4;rw[ai c4];exact dZ (fun _ e=>rL h e) (fun _ e=>e) e
 rename_i c4;rw[ah c4];split at e
 .rename_i c5;rw[ai c5];exact dZ (fun _ e=>rL h e) (fun _ e=>e) e
 .cases e
def QK{start:S9}{vars:Nat->Option L9}{a:ev}(h:∀k q,g k=some q->a k=some q)(e:eF start args vars g n=some r):eF start args vars a n=some r:=by
 have k1:∀{j:Nat}{f:Q9->Option Q9},(da g n j).bind f=some r->(da a n j).bind f=some r:=fun e=>dZ (fun _ e=>rL h e) (fun _ e=>e) e;unfold eF iO at e⊢;by_cases c0:n.op=30
 .rw[ai c0]at e⊢;exact k1 e
 rw[ah c0]at e⊢;by_cases c1:n.op=1
 .rw[ai c1]at e⊢;exact e
 rw[ah c1]at e⊢;by_cases c2:n.op=2
 .rw[ai c2]at e⊢;exact e
 rw[ah c2]at e⊢;by_cases c3:n.op=3
 .rw[ai c3]at e⊢;exact e
 rw[ah c3]at e⊢;by_cases c4:n.op=30\/n.op=31
 .rw[ai c4]at e⊢;cases e
 rw[ah c4]at e⊢;by_cases c5:n.op=22
 .rw[ai c5]at e⊢;exact dZ (fun _ e=>QJ h e) (fun k e=>h k r e) e
 rw[ah c5]at e⊢;by_cases c6:n.op=23
 .rw[ai c6]at e⊢;exact dZ (fun _ e=>rL h e) (fun _ e=>dZ (fun _ e=>e) (fun _ e=>k1 e) e) e
 rw[ah c6]at e⊢;by_cases c7:n.op=24
 .rw[ai c7]at e⊢;exact k1 e
 rw[ah c7]at e⊢;by_cases c8:n.op=25
 .rw[ai c8]at e⊢;by_cases c:0<=n.aP
  .rw[ai c]at e⊢;exact k1 e
  .rw[ah c]at e;cases e
 rw[ah c8]at e⊢;by_cases c9:n.op=20\/n.op=21
 .rw[ai c9]at e⊢;exact k1 e
 rw[ah c9]at e⊢;by_cases J:n.op=26\/n.op=27\/n.op=28\/n.op=29
 .rw[ai J]at e⊢;exact dZ (fun _ e=>zb2 h e) (fun _ e=>e) e
 rw[ah J]at e⊢;exact dZ (fun _ e=>rL h e) (fun _ e=>k1 e) e
def Az(g:ev):ev:=fun k=>some ((g k).getD tB)
theorem sF(k:Int)(q:Q9)(h:g k=some q):Az g k=some q:=by unfold Az;rw[h];rfl
theorem zb3(h:Az g k=some r)(hr:r.k=true):g k=some r:=by
 unfold Az at h;cases hg:g k with
 |none=>rw[hg,am]at h;subst h;cases hr
 |some q=>rw[hg,am]at h;subst h;rfl
def QL(U:Un):T9->Prop
 | .nd e i r=>Wg e.x.g.af->∀z,Dn U (.nd e i z)->z=r
 | .lp e n Z Y=>Wg e.x.g.af->∀O,Dn U (.lp e n Z O)->O=Y
 | .fn x st v=>Wg x.g.af->∀j C,Dn U (.fn x j C)->j=st/\C=v
def Dn.dA(j:Wg e.x.g.af)(J:e.x.g.af[i]?=some n)(z:∀k q,g k=some q->q.k=true)(ih:∀k q,g k=some q->QL U (.nd e k q))(Z:∀k q,O k=some q->Dn U (.nd e k q))(Y:jv g n=some (-1)):Two g (Az O) n:=
 ⟨fun k z=>((j.ok i n J).ak k z).1,z,fun k _=>⟨_,rfl⟩,fun k _ q r hg m hr=>ih k q hg j r (Z k r (zb3 m hr)),Y⟩
def xm(j:Wg l)(J:l[i]?=some n)(L:c=-1)(z:c∈n.ak):False:=by
 have:=(j.ok i n J).ak c z;omega
theorem Dn.gh(hU:∀G∈U.funcs,Wg G.af){t:T9}(h:Dn U t):QL U t:=by
 induction h with
 | @op e i n g r h0 J hk hd hm hc ih=>
   intro hw r' h';have I:n.op≠31:=fun c1=>by
    rw[eF,ah ac,iO,ah ac,ah ac,ah ac,ai (.inr c1)]at hc;cases hc
   cases h' with
   | @op _ _ n' g' r' _ Z O z L hc'=>
     rw[J,am]at Z;subst Z;obtain⟨c,C,V|V⟩:=(Dn.dA hw J (fun k q h=>(hk k q h).2) ih z hm).go (start:=e.x.start) (args:=e.x.args) (vars:=e.var) I
     .have:=QK sF hc';rw[V.2.1,hc,am]at this;rw[this]
     .rw[CU sF L,am]at C;exact(xm hw J C.symm V.1).elim
   | @call _ _ n' g' q s st args G v _ Z O z L ho hq hs he ht ha hi hG hf=>
     rw[J,am]at Z;subst Z;obtain⟨c,C,V|V⟩:=(Dn.dA hw J (fun k q h=>(hk k q h).2) ih z hm).go (start:=e.x.start) (args:=e.x.args) (vars:=e.var) I
     .rw[eF,ai ho,V.2.2.1.symm.trans (rL sF hq),aN,hs,aN,ah ac,ah ac]at hc;cases hc
     .rw[CU sF L,am]at C;exact(xm hw J C.symm V.1).elim
   | @loop _ _ n' g' q s vs fin _ Z O z L ho=>
     rw[J,am]at Z;subst Z;exact absurd ho I
 | @call e i n g q s st args G v h0 J hk hd hm ho hq hs he ht ha hi hG hf ih ih2=>
   intro hw r' h';have I:n.op≠31:=ac;cases h' with
   | @op _ _ n' g' r' _ Z O z L hc'=>
     rw[J,am]at Z;subst Z;obtain⟨c,C,V|V⟩:=(Dn.dA hw J (fun k q h=>(hk k q h).2) ih z hm).go (start:=e.x.start) (args:=e.x.args) (vars:=e.var) I
     .have:=QK sF hc';rw[eF,ai ho,V.2.2.1,hq,aN,hs,aN,ah ac,ah ac]at this;cases this
     .rw[CU sF L,am]at C;exact(xm hw J C.symm V.1).elim
   | @call _ _ n' g' q' s' st' args' G' v' _ Z O z L ho' hq' Y he' ht' ha' hi' hG' hf'=>
     rw[J,am]at Z;subst Z;obtain⟨c,C,V|V⟩:=(Dn.dA hw J (fun k q h=>(hk k q h).2) ih z hm).go (start:=e.x.start) (args:=e.x.args) (vars:=e.var) I
     .have e2:=V.2.2.1.symm.trans (rL sF hq');rw[hq,am]at e2;subst e2;rw[hs,am]at Y;subst Y;have e3:=yV (ks:=n.ak) (m:=n.ak.length-1) (j:=1) fun i k _ _ hk=>V.2.2.2 ho _ _ hq hs he k (cV hk);rw[ha,Le (fun k q h=>⟨q,sF k q h,rfl⟩) ha',am]at e3;subst e3;rw[hG,am]at hG';subst hG';obtain⟨e4,e5⟩:=ih2 (hU G (cV hG)) st' v' hf';rw[e4,e5]
     .rw[CU sF L,am]at C;exact(xm hw J C.symm V.1).elim
   | @loop _ _ n' g' q s vs fin _ Z O z L ho'=>
     rw[J,am]at Z;subst Z;exact absurd ho' I
 | @loop e i n g q s vs fin h0 J hk hd hm ho hi hq hs ha hf ih ih2=>
   intro hw r' h';cases h' with
   | @op _ _ n' g' r' _ Z O z L hc=>
     rw[J,am]at Z;subst Z;rw[eF,ah ac,iO,ah ac,ah ac,ah ac,ai (.inr ho)]at hc;cases hc
   | @call _ _ n' g' q s st args G v _ Z O z L ho'=>
     rw[J,am]at Z;subst Z;omega
   | @loop _ _ n' g' q' s' vs' fin' _ Z O z L ho' hi' hq' Y ha' hf'=>
     rw[J,am]at Z;subst Z;obtain⟨c,C,V|V⟩:=(Dn.dA hw J (fun k q h=>(hk k q h).2) ih z hm).f9 ho
     .have e2:da g n 0=da (Az g') n 0:=by
       unfold da;cases hz:n.ak[0]? with
       |none=>rfl
       |some k=>exact V.2 k (cV (i:=0) Qo)
      rw[hq,rL sF hq',am]at e2;subst e2;rw[hs,am]at Y;subst Y;have e3:=yV (ks:=n.ak) (m:=db n.ak.length-1) (j:=1) fun i k _ h2 hk=>V.2 k (cV (i:=i) (by rw[ry,ai ac];exact hk));rw[ha,Le (fun k q h=>⟨q,sF k q h,rfl⟩) ha',am]at e3;subst e3;rw[ih2 hw fin' hf']
     .rw[CU sF L,am]at C;exact(xm hw J C.symm (Au V.1)).elim
 | @f4 e n now fin h=>
   intro hw fin' h';cases h' with
   |f4 h2=>rw[h,am]at h2;exact h2.symm
   |lpS h2=>rw[h]at h2;cases h2
 | @lpS e n now fin si ci qs br s g vs h hsi hqs hs hk hd ha hci hqc h0 V ih1 ih2 ih3 ih4=>
   intro hw fin' h';cases h' with
   |f4 h2=>rw[h]at h2;cases h2
   | @lpS _ _ _ _ si' ci' qs' qc' s' g' vs' h' hsi' hqs' Y O z ha' hci' hqc' h0' h1'=>
     rw[hsi,am]at hsi';subst hsi';rw[hci,am]at hci';subst hci';have C:=ih1 hw _ hqs';subst C;rw[hs,am]at Y;subst Y;have e2:=ih3 hw _ hqc';subst e2;have key:∀{m j:Nat}{l l':qA},gK g n.ak m j=some l->gK g' n.ak m j=some l'->l=l':=by
      intro m;induction m with
      |zero=>intro j l l' a b;rw[gK,am]at a b;rw[<-a,<-b]
      |succ m ihm=>
       intro j l l' a b;rw[gK]at a b;obtain⟨k,aI,a6⟩:=aC.1 a;obtain⟨k',b1,b2⟩:=aC.1 b;rw[aI,am]at b1;subst b1;obtain⟨q,cp,dO⟩:=aC.1 a6;obtain⟨q',b3,b4⟩:=aC.1 b2;have:=ih2 k q cp hw q' (z k q' b3);subst this;obtain⟨t,cI,eO⟩:=aC.1 dO;obtain⟨t',b5,b6⟩:=aC.1 b4;rw[ihm cI b5,b6,am]at eO;exact eO.symm
     have e3:=key ha ha';subst e3;by_cases c:qc'.v=0
     .rw[h0 c,h0' c]
     .exact ih4 c hw _ (h1' c)
 | @fn x q q2 st v hq hs h2 hv ih ih2=>
   intro hw st' v' h';cases h' with
   | @fn _ q' q2' _ _ hq' Y h2' hv'=>
     have C:=ih hw _ hq';subst C;rw[hs,am]at Y;subst Y;refine⟨rfl,?_⟩;by_cases c:st.ed=0
     .rw[hv,hv',ai c,ai c,ih2 c hw _ (h2' c)]
     .rw[hv,hv',ah c,ah c]
def GP(V:∀G∈U.funcs,Wg G.af){i:Int}{z:Q9}(j:Wg e.x.g.af)(h:Dn U (.nd e i r))(C:Dn U (.nd e i z)):z=r:=h.gh V j z C
theorem CV(h:a.get k=some q):0<=k/\a.bJ[k.toNat]?=some q:=by
 unfold A9.get at h;simp_all
def CW(L:0<=k)(h:a.bJ[k.toNat]?=some q):a.get k=some q:=by rw[A9.get,ai L];exact h
def Lg(L:0<=k)(h:k<a.bJ.length):∃r,a.get k=some r:=⟨_,CW L (aX ac)⟩
structure Okv (U:Un) (x:X9) (a:A9):Prop where
 len:a.bJ.length=x.g.af.length
 vl:a.vars.length=16
 ok:∀k q,a.get k=some q->q.k=true->Dn U (.nd ⟨x,a.var⟩ k q)
structure EvX (l:qF) (i:Nat) (a a':A9):Prop where
 var:∀t,xi l i t->a'.var t=a.var t
 keep:∀k q,a.get k=some q->q.k=true->(∀t,(gw l k.toNat).testBit t=true->xi l i t)->a'.get k=some q
def EvX.refl(l:qF)(i:Nat)(a:A9):EvX l i a a:=⟨fun _ _=>rfl,fun _ _ h _ _=>h⟩
def CX:=@EvX.refl
def EvX.trans{c:A9}(h:EvX l i a b)(k:EvX l i b c):EvX l i a c:=⟨fun t o=>(k.var t o).trans (h.var t o),fun j q e f o=>k.keep j q (h.keep j q e f o) f o⟩
def EvX.up(h:EvX l j a b)(I:j<=i):EvX l i a b:=⟨fun t o=>h.var t (o.le I),fun k q e f o=>h.keep k q e f fun t m=>(o t m).le I⟩
def oO(a:A9):qA->Nat
 |[]=>0
 |k::l=>(match a.get k with
  |some r=>if r.k=true then 0 else 1
  |none=>0)+oO a l
theorem Lh{a b:A9}(Z:b.bJ.length=a.bJ.length):∀{l:qA},(∀k∈l,∀r,a.get k=some r->r.k=true->b.get k=some r)->oO b l<=oO a l
 |[],_=>aG _
 |k::l,h=>by
  have:=Lh Z (l:=l) fun k z=>h k (dh _ z);rw[oO,oO];cases m:a.get k with
  |none=>
   have:b.get k=none:=by
    unfold A9.get at m⊢;split at m
    .rename_i L;rw[ai L];rw[List.getElem?_eq_none_iff]at m⊢;omega
    .rename_i L;rw[ah L]
   simp_all
  |some r=>
   grind
theorem Li{a b:A9}(L:b.bJ.length=a.bJ.length){c:Int}{r r2:Q9}(j:a.get c=some r)(m:r.k=false)(C:b.get c=some r2)(Z:r2.k=true):∀{l:qA},(∀k∈l,∀r,a.get k=some r->r.k=true->b.get k=some r)->c∈l->oO b l<oO a l
 |k::l,h,Y=>by
  rw[oO,oO];rcases eJ.1 Y with rfl|Y
  .have:=Lh L (l:=l) fun k z=>h k (dh _ z)
   grind
  .have:=Li L j m C Z (fun k z=>h k (dh _ z)) Y;have:=Lh L (l:=[k]) fun k' z=>h k' (by rw[oM]at z;subst z;exact dM);rw[oO,oO,oO,oO]at this;omega
theorem QM(O:i<a.bJ.length)(k:Int):(A9.mk (a.bJ.set i r) v).get k=if k=i then some r else a.get k:=by
 unfold A9.get
 grind
def zb4(h:(A9.mk (tC Y L a.bJ) v).get k=some q)(z:q.k=true):a.get k=some q/\(Y.getD k.toNat 0).testBit L=false:=by
 obtain⟨Z,h⟩:=CV h;unfold tC at h;simp only at h;rw[xg]at h;obtain⟨r,j,m⟩:=uj.1 h;split at m
 .subst m;cases z
 .rename_i c;subst m;exact⟨CW Z j,by simpa using c⟩
theorem zb5(h:a.get k=some q)(hb:(Y.getD k.toNat 0).testBit L=false):(A9.mk (tC Y L a.bJ) v).get k=some q:=by
 obtain⟨Z,h⟩:=CV h;refine CW Z ?_;unfold tC;simp_all
theorem zb6{bG:X9->A9->Int->Option A9}(C:n.op≠31)(h:eF x.start x.args a.var a.get n=some r):tE U bG m x Y a n=some (r,a):=by
 unfold tE;rw[ah C];unfold eF at h;by_cases c:n.op=30
 .rw[ai c]at h⊢;obtain⟨q,j,V⟩:=aC.1 h;obtain⟨s,O,Z⟩:=aC.1 V;rw[j,aN,O,aN];by_cases c1:s.ed≠0
  .rw[ai c1]at Z⊢;rw[am]at Z;rw[Z]
  .rw[ah c1]at Z⊢;split at Z
   .rename_i c2;rw[uF,ai c2,aN];rw[am]at Z;rw[Z]
   .cases Z
 simp_all
structure UOk9 (U:Un):Prop where
 wg:∀G∈U.funcs,Wg G.af
 rt:∀G∈U.funcs,gw G.af G.aa.toNat=0/\gw G.af G.value.toNat=0
def vT(U:Un)(x:X9):Prop:=U.funcs[x.f]?=some x.g
theorem QN(h:vT U x):(jw U).getD x.f []=cA x.g.af x.g.af.length:=by
 unfold jw;rw[dC,fd,h];rfl
section
variable {U:Un}
def xn(U:Un)(x:X9)(i:Int)(a C:A9)(n:Nat):Prop:=∀m (st:qA) b,st.length+i.toNat<2^20->lD U (kW U (jw U) n) n x (cA x.g.af x.g.af.length) m C st=some b->∃z,lD U (kW U (jw U) n) n x (cA x.g.af x.g.af.length) z a (i::st)=some b
def GQ(U:Un):T9->Prop
 | .nd e i r=>vT U e.x->xl e.x.g.af i.toNat->∀a,Okv U e.x a->(∀t,(gw e.x.g.af i.toNat).testBit t=true->a.var t=e.var t)->∃N C,Okv U e.x C/\C.get i=some r/\EvX e.x.g.af i.toNat a C/\∀n,N<=n->xn U e.x i a C n
 | .lp e n O Z=>vT U e.x->∀j,e.x.g.af[j]?=some n->n.op=31->xl e.x.g.af j->∀a,Okv U e.x a->(∀t,(gw e.x.g.af j).testBit t=true->a.var t=e.var t)->∃N C,Okv U e.x C/\EvX e.x.g.af j a C/\∀Y,N<=Y->∀m,N<=m->rJ (kW U (jw U) Y e.x) (cA e.x.g.af e.x.g.af.length) n m O a=some (Z,C)
 | .fn x st v=>vT U x->∃N b J,∀n,N<=n->tD (kW U (jw U) n x) (vP x.g.af.length) x.g.aa=some (st,b)/\(st.ed=0->sE (kW U (jw U) n x) b x.g.value=some (v,J))
def Lj(I:vT U x){i:Int}{C:A9}{N:Nat}(O:i.toNat<2^20)(h:∀n,N<=n->xn U x i a C n):∃K,∀n,K<=n->kW U (jw U) n x a i=some C:=by
 obtain⟨z,e⟩:=h N (aG _) 1 [] C yB (by rw[lD]);refine⟨max N z+1,fun n J=>?_⟩;refine CS (n:=max N z+1) J ?_;rw[kW,QN I];exact CR (fun x a i b=>CS (yG _ _)) (yG _ _) (Am _ _) e
def xn.bj{i:Int}(h:a.get i=some r)(z:r.k=true)(n:Nat):xn U x i a a n:=fun m st b _ hb=>⟨m+1,by rw[lD,h,aN,ai z];exact hb⟩
variable (hU:UOk9 U)
include hU
theorem Lk{i:Int}{n:Nd}{r:Q9}(hx:vT U e.x)(h0:0<=i)(hn:e.x.g.af[i.toNat]?=some n)(hL:xl e.x.g.af i.toNat)(hD:Dn U (.nd e i r))(hk:∀k q,g k=some q->k∈n.ak/\q.k=true/\∀t,(gw e.x.g.af k.toNat).testBit t=true->(gw e.x.g.af i.toNat).testBit t=true)(hd:∀k q,g k=some q->Dn U (.nd e k q))(ih:∀k q,g k=some q->GQ U (.nd e k q))(hm:jv g n=some (-1))
 (C:∀a,Two g a n->∃c,jv a n=some c/\(c=-1\/(c∈n.ak/\(∃q,g c=some q)/\∃r,a c=some r/\r.k=false)))
 (hcomp:∀a:A9,Okv U e.x a->(∀t,(gw e.x.g.af i.toNat).testBit t=true->a.var t=e.var t)->Two g a.get n->jv a.get n=some (-1)->∃N aI t,r=t.bj/\Okv U e.x aI/\EvX e.x.g.af i.toNat a aI/\∀n',N<=n'->tE U (kW U (jw U) n') n' e.x (cA e.x.g.af e.x.g.af.length) a n=some (t,aI)) :
 ∀u a,oO a n.ak<=u->Okv U e.x a->(∀t,(gw e.x.g.af i.toNat).testBit t=true->a.var t=e.var t)->∃N a',Okv U e.x a'/\a'.get i=some r/\EvX e.x.g.af i.toNat a a'/\∀n,N<=n->xn U e.x i a a' n:=by
 have hw:=hU.wg _ (cV hx);have hil:=jg hn;have hl2:=hw.ln;have hrk:=hD.bj.1;have two:∀a,Okv U e.x a->(∀t,(gw e.x.g.af i.toNat).testBit t=true->a.var t=e.var t)->Two g a.get n:=fun a Y j=>⟨fun k hk=>((hw.ok _ n hn).ak k hk).1,fun k q h=>(hk k q h).2.1,fun k hk=>Lg ((hw.ok _ n hn).ak k hk).1 (by have:=((hw.ok _ n hn).ak k hk).2;rw[Y.len];omega),fun k _ q r' hg ha hr'=>GP hU.wg hw (hd k q hg) ((Y.ok k r' ha hr').fA hw rfl fun t I=>(j t ((hk k q hg).2.2 t I)).symm),hm⟩;intro u;induction u with
 |zero=>
  intro a hu Y j;have done:∀au,a.get i=some au->au.k=false->jv a.get n=some (-1)->∃N a',Okv U e.x a'/\a'.get i=some r/\EvX e.x.g.af i.toNat a a'/\∀n,N<=n->xn U e.x i a a' n:=fun au L hrk0 hms=>by
   obtain⟨N,aI,t,rfl,Z,z,hc⟩:=hcomp a Y j (two a Y j) hms;have hil1:i.toNat<aI.bJ.length:=by rw[Z.len];exact hil
   have O:=fun k=>QM (v:=aI.vars) (r:=t.bj) hil1 k;have hDi:Dn U (.nd ⟨e.x,aI.var⟩ i t.bj):=hD.fA hw rfl fun t' ht'=>by
    show aI.var t'=e.var t';rw[z.var t' (hL t' ht'),j t' ht']
   refine⟨N,⟨aI.bJ.set i.toNat t.bj,aI.vars⟩,⟨by rw[iB];exact Z.len,Z.vl,fun k q J V=>?_⟩,?_,⟨z.var,fun k q J V ho=>?_⟩,fun n' hn' m st b hs hb=>⟨m+2,?_⟩⟩
   .rw[O]at J;split at J
    .rename_i ek;rw[am]at J;subst J;rw[ek,show((i.toNat:Nat):Int)=i by omega];exact hDi
    .exact Z.ok k q J V
   .grind
   .rw[O];split
    .grind
    .exact z.keep k q J V ho
   .rw[lD,L,aN,ah (by rw[hrk0];simp),hn,aN,hms,aN,ah ac,hc n' hn',aN,lD,O,ai ac,aN,ai cN];exact hb
  obtain⟨au,L⟩:=Lg (a:=a) h0 (by rw[Y.len];omega);by_cases c1:au.k=true
  .have:au=r:=GP hU.wg hw hD ((Y.ok i au L c1).fA hw rfl fun t I=>(j t I).symm);subst this;exact⟨0,a,Y,L,CX _ _ _,fun n _=>xn.bj L c1 n⟩
  .obtain⟨c,e1,h1|⟨h1,⟨q,h2⟩,r2,h3,h4⟩⟩:=C a.get (two a Y j)
   .simp_all
   .have hb:=Li (a:=a) (b:=⟨a.bJ.map Q9.bj,a.vars⟩) aB h3 h4 (r2:=r2.bj) (by
     obtain⟨p0,p1⟩:=CV h3;refine CW p0 ?_;simp_all) rfl (l:=n.ak) (fun k hk r ha hr=>by
      obtain⟨p0,p1⟩:=CV ha;refine CW p0 ?_;simp only[fd,p1];cases r;cases hr;rfl) h1
    omega
 |succ u ihu=>
  intro a hu Y j;obtain⟨au,L⟩:=Lg (a:=a) h0 (by rw[Y.len];omega);by_cases c1:au.k=true
  .have:au=r:=GP hU.wg hw hD ((Y.ok i au L c1).fA hw rfl fun t I=>(j t I).symm);subst this;exact⟨0,a,Y,L,CX _ _ _,fun n _=>xn.bj L c1 n⟩
  .by_cases hz:oO a n.ak<=u
   .simp_all
   obtain⟨c,e1,h1|⟨h1,⟨q,h2⟩,r2,h3,h4⟩⟩:=C a.get (two a Y j)
   .subst h1;obtain⟨N,aI,t,rfl,Z,z,hc⟩:=hcomp a Y j (two a Y j) e1;have hil1:i.toNat<aI.bJ.length:=by rw[Z.len];exact hil
    have O:=fun k=>QM (v:=aI.vars) (r:=t.bj) hil1 k;have hDi:Dn U (.nd ⟨e.x,aI.var⟩ i t.bj):=hD.fA hw rfl fun t' ht'=>by
     show aI.var t'=e.var t';rw[z.var t' (hL t' ht'),j t' ht']
    refine⟨N,⟨aI.bJ.set i.toNat t.bj,aI.vars⟩,⟨by rw[iB];exact Z.len,Z.vl,fun k q J V=>?_⟩,?_,⟨z.var,fun k q J V ho=>?_⟩,fun n' hn' m st b hs hb=>⟨m+2,?_⟩⟩
    .rw[O]at J;split at J
     .rename_i ek;rw[am]at J;subst J;rw[ek,show((i.toNat:Nat):Int)=i by omega];exact hDi
     .exact Z.ok k q J V
    .grind
    .rw[O];split
     .grind
     .exact z.keep k q J V ho
    .rw[lD,L,aN,ah c1,hn,aN,e1,aN,ah ac,hc n' hn',aN,lD,O,ai ac,aN,ai cN];exact hb
   .obtain⟨k0,k1⟩:=(hw.ok _ n hn).ak c h1;obtain⟨N1,aI,Z,hg1,z,hR1⟩:=ih c q h2 hx (QH hw hn hL h1) a Y fun t I=>j t ((hk c q h2).2.2 t I)
    have J:=(hk c q h2).2.1;have hkeep:∀k∈n.ak,∀r,a.get k=some r->r.k=true->aI.get k=some r:=fun k hkm r ha hr=>z.keep k r ha hr fun t I=>QG hw hn hL hkm I ac;have hlt:=Li (by rw[Z.len,Y.len]) h3 h4 hg1 J hkeep h1;have hE1':EvX e.x.g.af i.toNat a aI:=z.up ac;obtain⟨N2,a6,hA2,hg2,hE2,hR2⟩:=ihu aI ac Z fun t I=>by rw[hE1'.var t (hL t I),j t I]
    refine⟨max N1 N2,a6,hA2,hg2,hE1'.trans hE2,fun n' hn' m st b hs hb=>?_⟩;obtain⟨bt,e2⟩:=hR2 n' ac m st b hs hb;obtain⟨m2,e3⟩:=hR1 n' ac bt (i::st) b cU e2;refine⟨m2+1,?_⟩;rw[lD,L,aN,ah c1,hn,aN,e1,aN,ai k0,ai ac];exact e3
end
def QO{r:List Q9}(Z:L<v.length)(z:L9)(t:Nat):(A9.mk r (v.set L (some z))).var t=if t=L then some z else (A9.mk r v).var t:=by
 unfold A9.var;simp only;rw[dC,oG];by_cases c:L=t
 .subst c;rw[ai rfl,ai Z,ai rfl];rfl
 .rw[ah c,ah (fun e=>c e.symm),dC]
def Ll(h:Okv U x a)(j:Wg x.g.af)(Z:v.length=16)(V:∀t,t≠L->(A9.mk a.bJ v).var t=a.var t):Okv U x ⟨tC (cA x.g.af x.g.af.length) L a.bJ,v⟩:=
 ⟨by unfold tC;simp only[GC];exact h.len,Z,fun k q J z=>by
  obtain⟨Y,O⟩:=zb4 J z;refine(h.ok k q Y z).fA j rfl fun t m=>V t fun e=>?_;subst e;unfold gw at m;rw[O]at m;cases m⟩
def Lm(Z:Wg x.g.af)(Y:x.g.af[j]?=some n)(C:n.op=31)(V:∀t,t≠n.aP.toNat->(A9.mk a.bJ v).var t=a.var t):EvX x.g.af j a ⟨tC (cA x.g.af x.g.af.length) n.aP.toNat a.bJ,v⟩:=
 ⟨fun t I=>V t fun e=>QI Z Y C (by rw[<-e];exact I),fun k q h _ I=>zb5 h (by
  have:¬(gw x.g.af k.toNat).testBit n.aP.toNat=true:=fun e=>QI Z Y C (I _ e);unfold gw at this;simpa using this)⟩
section
variable {U:Un} (hU:UOk9 U)
include hU
def Ln(Y:vT U e.x)(I:e.x.g.af[j]?=some n)(V:n.op=31)(J:xl e.x.g.af j){O:L9}{b:Nat}(z:n.ak[b]?=some k)(ih:GQ U (.nd (e.it n O) k q))(hA:Okv U e.x a)(h1:a.var n.aP.toNat=some ⟨ct O.s,O.v⟩)(h2:∀t,(gw e.x.g.af j).testBit t=true->a.var t=e.var t):
 ∃N C,Okv U e.x C/\C.var n.aP.toNat=some ⟨ct O.s,O.v⟩/\(∀t,(gw e.x.g.af j).testBit t=true->C.var t=e.var t)/\EvX e.x.g.af j a C/\C.get k=some q/\∀n',N<=n'->kW U (jw U) n' e.x a k=some C:=by
 have hw:=hU.wg _ (cV Y);have Z:=cV z;obtain⟨k0,k1⟩:=(hw.ok _ n I).ak k Z;have hjl:=jg I;have hl2:=hw.ln;obtain⟨N,C,L,hg,hE,hR⟩:=ih Y (QH hw I J Z) a hA fun t m=>by
  show a.var t=if t=n.aP.toNat then _ else e.var t
  by_cases c:t=n.aP.toNat
  .rw[ai c,c,h1]
  .rw[ah c];exact h2 t (vR hw I z m fun _=>.inr c)
 obtain⟨K,hK⟩:=Lj (U:=U) Y ac hR;exact⟨K,C,L,(hE.var _ ⟨j,n,ac,I,V,rfl⟩).trans h1,fun t m=>(hE.var t ((J t m).le ac)).trans (h2 t m),hE.up ac,hg,hK⟩
theorem QP{e:E9}(I:vT U e.x){j:Nat}{n:Nd}(V:e.x.g.af[j]?=some n)(C:n.op=31)(L:xl e.x.g.af j){O:L9}{g:ev}(ih:∀k q,g k=some q->GQ U (.nd (e.it n O) k q)):∀(m b:Nat) (vs:qA) (a:A9),gK g n.ak m b=some vs->Okv U e.x a->a.var n.aP.toNat=some ⟨ct O.s,O.v⟩->(∀t,(gw e.x.g.af j).testBit t=true->a.var t=e.var t) ->
 ∃N Y,Okv U e.x Y/\Y.var n.aP.toNat=some ⟨ct O.s,O.v⟩/\(∀t,(gw e.x.g.af j).testBit t=true->Y.var t=e.var t)/\EvX e.x.g.af j a Y/\∀Z,N<=Z->uE (kW U (jw U) Z e.x) n.ak m b a=some (vs,Y)
 |0,b,vs,a,h,hA,h1,h2=>by
  rw[gK,am]at h;subst h;exact⟨0,a,hA,h1,h2,CX _ _ _,fun _ _=>rfl⟩
 |m+1,b,vs,a,h,hA,h1,h2=>by
  rw[gK]at h;obtain⟨k,z,h⟩:=aC.1 h;obtain⟨q,J,h⟩:=aC.1 h;obtain⟨l,hl,h⟩:=aC.1 h;rw[am]at h;subst h;obtain⟨N1,aI,p1,p2,p3,p4,p5,p6⟩:=Ln hU I V C L z (ih k q J) hA h1 h2;obtain⟨N2,a6,q1,q2,q3,q4,q5⟩:=QP I V C L ih m (b+1) l aI hl p1 p2 p3;refine⟨max N1 N2,a6,q1,q2,q3,p4.trans q4,fun Z hn=>?_⟩;rw[uE,z,aN,sE,p6 Z ac,aN,p5,aN,aN,q5 Z ac,aN]
theorem Dn.evP{t:T9}(h:Dn U t):GQ U t:=by
 induction h with
 | @op e i n g r h0 J z hd hm hc ih=>
   intro I hL a L hv;have hw:=hU.wg _ (cV I);have C:n.op≠31:=fun c1=>by
    rw[eF,ah ac,iO,ah ac,ah ac,ah ac,ai (.inr c1)]at hc;cases hc
   refine Lk hU I h0 J hL (.op h0 J z hd hm hc) (fun k q hg=>⟨(z k q hg).1,(z k q hg).2,fun t V=>?_⟩) hd ih hm (fun a h2=>?_) (fun a L hv h2 hms=>?_) _ a (aG _) L hv
   .obtain⟨j,hj⟩:=kT (z k q hg).1;exact vR hw J hj V fun h=>absurd h C
   .obtain⟨c,O,Z|Z⟩:=h2.go (start:=e.x.start) (args:=e.x.args) (vars:=e.var) C
    .exact⟨c,O,.inl Z.1⟩
    .exact⟨c,O,.inr Z⟩
   .obtain⟨c,O,Z|Z⟩:=h2.go (start:=e.x.start) (args:=e.x.args) (vars:=e.var) C
    .refine⟨0,a,r,rfl,L,CX _ _ _,fun Y _=>zb6 C ?_⟩;rw[Qz (v:=a.var) (v':=e.var) fun h3 hi=>hv _ (QF hw J h3 hi),Z.2.1,hc]
    .rw[hms,am]at O;exact(xm hw J O.symm Z.1).elim
 | @call e i n g q s st args G v h0 J z hd hm ho hq hs he V ha hi hG hf ih ih2=>
   intro I hL a L hv;have hw:=hU.wg _ (cV I);have C:n.op≠31:=ac;refine Lk hU I h0 J hL (.call h0 J z hd hm ho hq hs he V ha hi hG hf) (fun k q hg=>⟨(z k q hg).1,(z k q hg).2,fun t V=>?_⟩) hd ih hm (fun a h2=>?_) (fun a L hv h2 hms=>?_) _ a (aG _) L hv
   .obtain⟨j,hj⟩:=kT (z k q hg).1;exact vR hw J hj V fun h=>absurd h C
   .obtain⟨c,O,Z|Z⟩:=h2.go (start:=e.x.start) (args:=e.x.args) (vars:=e.var) C
    .exact⟨c,O,.inl Z.1⟩
    .exact⟨c,O,.inr Z⟩
   .obtain⟨c,O,Z|Z⟩:=h2.go (start:=e.x.start) (args:=e.x.args) (vars:=e.var) C
    .obtain⟨N,b,b',hN⟩:=ih2 hG;refine⟨N,a,⟨false,0,some (st.bb (if st.ed=0 then v else s.bI)),none⟩,rfl,L,CX _ _ _,fun Y hn'=>?_⟩;obtain⟨p1,p2⟩:=hN Y hn';have e3:=yV (ks:=n.ak) (m:=n.ak.length-1) (j:=1) fun i k _ _ z=>Z.2.2.2 ho _ _ hq hs he k (cV z);rw[tE,ah C,ai ho,Z.2.2.1,hq,aN,hs,aN,ah ac,uF,ah ac,<-e3,ha,aN,ai hi,hG,aN,p1,aN];by_cases c:st.ed=0
     .rw[ai c,ai c,p2 c,aN,aN]
     .rw[ah c,ah c,aN]
    .rw[hms,am]at O;exact(xm hw J O.symm Z.1).elim
 | @loop e i n g q s vs fin h0 J z hd hm ho hi hq hs ha hf ih ih2=>
   intro I hL a L hv;have hw:=hU.wg _ (cV I);refine Lk hU I h0 J hL (.loop h0 J z hd hm ho hi hq hs ha hf) (fun k q hg=>⟨Au (z k q hg).1,(z k q hg).2,fun t V=>?_⟩) hd ih hm (fun a h2=>?_) (fun a L hv h2 hms=>?_) _ a (aG _) L hv
   .obtain⟨j,hj⟩:=kT (z k q hg).1;have hjl:=jg hj;rw[oE]at hjl;rw[ry,ai ac]at hj;exact vR hw J hj V fun h=>.inl ac
   .obtain⟨c,O,Z|Z⟩:=h2.f9 ho
    .exact⟨c,O,.inl Z.1⟩
    .exact⟨c,O,.inr ⟨Au Z.1,Z.2⟩⟩
   .obtain⟨c,O,Z|Z⟩:=h2.f9 ho
    .obtain⟨N,aI,p1,p2,p3⟩:=ih2 I i.toNat J ho hL a L hv;refine⟨N,aI,⟨false,0,none,some fin⟩,rfl,p1,p2,fun Y hn'=>?_⟩;have e2:da a.get n 0=da g n 0:=by
      unfold da;cases hz:n.ak[0]? with
      |none=>rfl
      |some k=>exact(Z.2 k (cV (i:=0) Qo)).symm
     have e3:=yV (ks:=n.ak) (m:=db n.ak.length-1) (j:=1) fun i k _ h2 z=>Z.2 k (cV (i:=i) (by rw[ry,ai ac];exact z));rw[tE,ai ho,ai hi,e2,hq,aN,hs,aN,<-e3,ha,aN,p3 Y hn' Y hn',aN]
    .rw[hms,am]at O;exact(xm hw J O.symm (Au Z.1)).elim
 | @f4 e n now fin h=>
   intro I j hj C hL a L hv;have hw:=hU.wg _ (cV I);refine⟨1,a.eu (cA e.x.g.af e.x.g.af.length) n.aP.toNat,Ll L hw L.vl fun _ _=>rfl,Lm hw hj C fun _ _=>rfl,fun Y hn' m hm=>?_⟩;obtain⟨m,rfl⟩:∃k,m=k+1:=⟨m-1,ac⟩;rw[rJ];unfold tF at h;split at h
   .rename_i c;rw[am]at h;rw[ai c,h]
   .rename_i c;rw[ah c];split at h
    .rename_i c2;rw[am]at h;rw[ai c2,h]
    .cases h
 | @lpS e n now fin si ci qs br s g vs h hsi hqs hs z hd ha hci hqc hz0 hz1 ih1 ih2 ih3 ih4=>
   intro I j hj C hL a L hv;have hw:=hU.wg _ (cV I);have hvl:=L.vl;have hLb:n.aP.toNat<a.vars.length:=by
    have:=(hw.ok _ n hj).lp C;omega
   have hs1:∀t,t≠n.aP.toNat->(A9.mk a.bJ (a.vars.set n.aP.toNat (some ⟨ct now.s,now.v⟩))).var t=a.var t:=fun t V=>by rw[QO hLb,ah V]
   have hA1:=Ll (v:=a.vars.set n.aP.toNat (some ⟨ct now.s,now.v⟩)) L hw (by rw[iB];exact hvl) hs1;have hE1:=Lm (v:=a.vars.set n.aP.toNat (some ⟨ct now.s,now.v⟩)) hw hj C hs1;obtain⟨N1,a6,hA2,hv2,hm2,hE2,hg2,hR2⟩:=Ln hU I hj C hL hsi ih1 hA1 (by rw[QO hLb,ai rfl]) fun t V=>(hE1.var t (hL t V)).trans (hv t V)
   obtain⟨N2,cp,hA3,hv3,hm3,hE3,hR3⟩:=QP hU I hj C hL ih2 _ _ vs a6 ha hA2 hv2 hm2;obtain⟨N3,dO,hA4,hv4,hm4,hE4,hg4,hR4⟩:=Ln hU I hj C hL hci ih3 hA3 hv3 hm3;have hun:∀Y m,N1<=Y->N2<=Y->N3<=Y->rJ (kW U (jw U) Y e.x) (cA e.x.g.af e.x.g.af.length) n (m+1) now a=if br.v≠0 then rJ (kW U (jw U) Y e.x) (cA e.x.g.af e.x.g.af.length) n m ⟨s,0::vs⟩ dO else some (⟨s,0::vs⟩,dO.eu (cA e.x.g.af e.x.g.af.length) n.aP.toNat):=fun Y m k1 k2 ee=>by
    unfold tF at h;split at h
    .cases h
    rename_i c1;split at h
    .cases h
    rename_i c2;rw[rJ,ah c1,ah c2,hsi,aN,tD,hR2 Y k1,aN,hg2,aN,hs,aN,aN,hR3 Y k2,aN,hci,aN,sE,hR4 Y ee,aN,hg4,aN,aN]
   by_cases c:br.v=0
   .refine⟨N1+N2+N3+1,dO.eu (cA e.x.g.af e.x.g.af.length) n.aP.toNat,Ll hA4 hw hA4.vl fun _ _=>rfl,((hE1.trans hE2).trans (hE3.trans hE4)).trans (Lm hw hj C fun _ _=>rfl),fun Y hn' m hm=>?_⟩;obtain⟨m,rfl⟩:∃k,m=k+1:=⟨m-1,ac⟩;rw[hun Y m ac ac ac,ah ac,hz0 c]
   .obtain⟨N4,cI,hA5,hE5,hR5⟩:=ih4 c I j hj C hL dO hA4 hm4;refine⟨N1+N2+N3+N4+1,cI,hA5,((hE1.trans hE2).trans (hE3.trans hE4)).trans hE5,fun Y hn' m hm=>?_⟩;obtain⟨m,rfl⟩:∃k,m=k+1:=⟨m-1,ac⟩;rw[hun Y m ac ac ac,ai c];exact hR5 Y ac m ac
 | @fn x q q2 st v hq hs h2 hv ih ih2=>
   intro I;have hw:=hU.wg _ (cV I);have hl2:=hw.ln;obtain⟨aq,r2⟩:=hU.rt _ (cV I);have nob:∀t,¬(0:Nat).testBit t=true:=fun t=>by rw[Nat.zero_testBit];simp
   have L:Okv U x (vP x.g.af.length):=⟨j9,j9,fun k q hq z=>by
    obtain⟨_,Z⟩:=CV hq;unfold vP at Z;simp only at Z;rw[Qq]at Z;split at Z
    .rw[am]at Z;subst Z;cases z
    .cases Z⟩
   obtain⟨_,s0,n0,hn0⟩:=hq.bj;have hn0':=jg hn0;obtain⟨N1,aI,hA1,hg1,hE1,hR1⟩:=ih I (fun t V=>absurd V Qk) _ L fun t V=>absurd V Qk
   obtain⟨K1,hK1⟩:=Lj (U:=U) I (by show _<_;simp only at hn0';omega) hR1;have O:∀n,K1<=n->tD (kW U (jw U) n x) (vP x.g.af.length) x.g.aa=some (st,aI):=fun n J=>by
    rw[tD,hK1 n J,aN,hg1,aN,hs,aN]
   by_cases c:st.ed=0
   .obtain⟨_,s1,dd,hn1⟩:=(h2 c).bj;have hn1':=jg hn1;obtain⟨N2,a6,hA2,hg2,hE2,hR2⟩:=ih2 c I (fun t V=>absurd V Qm) aI hA1 fun t V=>absurd V Qm
    obtain⟨K2,hK2⟩:=Lj (U:=U) I (by show _<_;simp only at hn1';omega) hR2;refine⟨max K1 K2,aI,a6,fun n J=>⟨O n ac,fun _=>?_⟩⟩;rw[sE,hK2 n ac,aN,hg2,aN,hv,ai c]
   .exact⟨K1,aI,aI,fun n J=>⟨O n J,fun h=>absurd h c⟩⟩
def Dn.enter(I:vT U x){st:S9}{v:Int}(h:Dn U (.fn x st v)):∃n,vQ U n x=some (pJ st (if st.ed=0 then v else 0)):=by
 obtain⟨N,b,J,V⟩:=Dn.evP hU h I;obtain⟨C,Z⟩:=V N (aG _);refine⟨N,?_⟩;rw[vQ,C,aN];by_cases c:st.ed=0
 .rw[ai c,ai c,Z c,aN]
 .rw[ah c,ah c]
end
end Go.Proofs.YtbflaciihaijgaaGreat
namespace Go.Ab
set_option maxRecDepth 20000
open Go
structure Rc where
 op:Op
 did:Bool
 E:aw
 H:Hp
 val:AV
 H':Hp
variable{H' H I:Hp}{ops:qE}{l:List SOp}{E:aw}{Q:List Rc->aw->Hp->Prop}{Z:List Rc}{d:qN}{s:Nat}{b:Bool}{t:TypeId}{x:Operand}{v a:AV}
section
variable (P:Program) (cfg:Cfg) (f:FuncId)
def dD:List SOp->List Rc->aw->Hp->(List Rc->aw->Hp->Prop)->Prop
 |[],tr,E,H,Q=>Q tr E H
 |o::l,tr,E,H,Q=>match o.g with
  |none=>j7 P cfg f o.op E H fun v H'=>dD l (tr++[⟨o.op,true,E,H,v,H'⟩]) (a0 E o.d v) H' Q
  |some (s,b)=>(E.at s=.bool b/\j7 P cfg f o.op E H fun v H'=>dD l (tr++[⟨o.op,true,E,H,v,H'⟩]) (a0 E o.d v) H' Q)\/((E.at s=.bool (!b)\/E.at s=dq)/\dD l (tr++[⟨o.op,false,E,H,dq,H⟩]) (a0 E o.d dq) H Q)
def CY(Z:List Rc)(H':Hp)(m:Nat):Hp:=match Z[m]? with
 |some r=>r.H
 |none=>H'
def uG(r:Rc)(H:Hp):Prop:=match jd r.op with
 | .read=>∃Z,eQ P cfg (fun _=>.a5) 0 r.E H r.op=.val r.val Z
 | .make=>∃b,H.get r.H.next=some b/\r.H'.get r.H.next=some b
 |_=>True
def GR(Z:List Rc)(H':Hp)(i m:Nat):Prop:=match Z[i]? with
 |some r=>r.did=true->uG P cfg r (CY Z H' m)
 |none=>True
def vU(need:qS)(Z:List Rc)(H':Hp):Prop:=(∀r∈Z,r.H.next<=r.H'.next)/\∀p∈need,GR P cfg Z H' p.1 p.2
end
section
variable {P:Program} {cfg:Cfg} {f N:Nat}
def yW(r:Rec):Rc:=⟨r.o.op,r.did,r.E,r.H,r.val,r.H'⟩
def HB.beq_refl(b:HB):HB.beq b b=true:=by
 cases b with
 |cells a i t=>simp[HB.beq,vO]
 |map V=>simp[HB.beq,vO]
theorem dD.run{C:qE}{Q:List Rc->aw->Hp->Prop}:∀{l:qE}{r:List SOp}{Z:List Rc}{E:aw}{H:Hp},bw N C l=some r->dD P cfg f r Z E H Q ->
 ∃n E' H' rs,lw P cfg (bG P cfg n) f N C l E H=.done E' H' rs/\Q (Z++rs.map yW) E' H'
 |[],r,Z,E,H,hs,J=>by
  simp only[bw,am]at hs;subst hs;unfold dD at J;exact⟨0,E,H,[],rfl,by simpa using J⟩
 |o::l,r,Z,E,H,hs,J=>by
  simp only[bw]at hs;split at hs
  .rename_i d g r' j h2 h3;simp only[am]at hs;subst hs;obtain⟨dI,w2⟩:=P3 (E:=E) h2;have Y:∀k k',k<=k'->eD (bG P cfg k) (bG P cfg k'):=fun k k' hk t ht=>KQ hk ht;have hop:j7 P cfg f o.op E H (fun v H'=>dD P cfg f r' (Z++[⟨o.op,true,E,H,v,H'⟩]) (a0 E d v) H' Q)->lj C E o=true->∃n E' H' rs,lw P cfg (bG P cfg n) f N C (o::l) E H=.done E' H' rs/\Q (Z++rs.map yW) E' H':=fun hw I=>by
    unfold j7 at hw;obtain⟨n,v,H1,g1,g2⟩:=hw;obtain⟨m,V,L,rs,O,z⟩:=dD.run h3 g2;refine⟨max n m,V,L,⟨o,true,E,H,v,H1⟩::rs,?_,by simpa [yW]using z⟩;simp only[lw,I];rw[Gl (Y n (max n m) (yG _ _)) (by rw[g1];simp),g1];simp only[Gs j,sf];rw[Gn (Y m (max n m) (Am _ _)) (by rw[O];simp),O];rfl
   unfold dD at J;cases hg:g with
   |none=>
    simp_all
   |some sb=>
    obtain⟨s,b⟩:=sb;rw[hg]at J;simp only[]at J;rcases J with⟨e,J⟩|⟨e,J⟩
    .simp_all
    .obtain⟨m,V,L,rs,O,z⟩:=dD.run h3 J;refine⟨m,V,L,⟨o,false,E,H,dq,H⟩::rs,?_,by simpa [yW]using z⟩;simp only[lw,(w2 s b hg).2 e,Gs j,sf,O,se]
  .simp at hs
theorem zb7{need:qS}{rs:List Rec}(h:vU P cfg need (rs.map yW) H'):yp P cfg need rs H'=true:=by
 unfold yp;simp only[bT,js];refine⟨fun r Y=>Nat.ble_eq_true_of_le (h.1 _ (so.2 ⟨r,Y,rfl⟩)),fun p hp=>?_⟩;have V:=h.2 p hp;have Z:CY (rs.map yW) H' p.2=cH rs H' p.2:=by
  unfold CY cH;rw[fd];cases rs[p.2]? <;>rfl
 unfold GR at V;rw[fd,Z]at V;cases hr:rs[p.1]? with
 |none=>rfl
 |some r=>
  rw[hr]at V;simp only[lB,yW]at V;simp only[nU,ul];cases hd:r.did with
  |false=>exact .inl rfl
  |true=>
   right
   have V:=V hd;unfold uG at V;unfold ze6;cases z:jd r.o.op with
   |cR=>rfl
   |eh=>rfl
   |read=>
    rw[z]at V;simp only[]at V⊢;obtain⟨O,m⟩:=V;rw[m];exact AV.beq_refl _
   |make=>
    rw[z]at V;simp only[]at V⊢;obtain⟨b,j,m⟩:=V;rw[j,m];exact HB.beq_refl b
theorem QQ{id:Nat}{z:qE}{need:qS}{Q:AX->aw->Hp->Prop}
 (Y:∀ih:zd5->Res,lQ P cfg ih f N E H (cfg.cD f id) ops=pB P cfg ih f N z E H) (m:ug z=true) (V:bw N z z=some l) (J:sg z=need)
 (h:∀K:List Rc->aw->Hp->Prop,(∀Z E' H',vU P cfg need Z H'->Q .normal E' H'->K Z E' H')->dD P cfg f l [] E H K):bX P cfg f N (.co id ops) E H Q:=by
 unfold bX;intro code hc;cases code with
 |region id' I draw=>
  cases draw with
  |false=>simp only[aJ,bE]at hc;grind
  |true=>
   simp only[aJ,SC.co.injEq]at hc;obtain⟨rfl,rfl⟩:=hc;obtain⟨n,E',H',rs,j,O,L⟩:=dD.run V (h (fun Z E' H'=>vU P cfg need Z H'/\Q .normal E' H') fun _ _ _ h C=>⟨h,C⟩);refine⟨_,_,_,dH.co (n:=n) (r:=.done .normal E' H') ?_ aB,L⟩;rw[Y];unfold pB;rw[m];simp only[j];rw[J,zb7 yB]
 |_=>simp[aJ]at hc
def zb8{id:Nat}{need:qS}{Q:AX->aw->Hp->Prop}(Z:cfg.cD f id=.text)(m:ug ops=true)(V:bw N ops ops=some l)(J:sg ops=need)
 (h:∀K:List Rc->aw->Hp->Prop,(∀Y E' H',vU P cfg need Y H'->Q .normal E' H'->K Y E' H')->dD P cfg f l [] E H K):bX P cfg f N (.co id ops) E H Q:=
 QQ (fun ih=>by rw[Z];rfl) m V J h
def QR{id:Nat}{ord:qG}{need:qS}{Q:AX->aw->Hp->Prop}(Z:cfg.cD f id=.b7 ord)(hb:Cb ord ops=true)(m:ug (j5 ord ops)=true)(V:bw N (j5 ord ops) (j5 ord ops)=some l)(J:sg (j5 ord ops)=need)
 (h:∀K:List Rc->aw->Hp->Prop,(∀Y E' H',vU P cfg need Y H'->Q .normal E' H'->K Y E' H')->dD P cfg f l [] E H K):bX P cfg f N (.co id ops) E H Q:=
 QQ (fun ih=>by rw[Z];simp only[lQ,hb]) m V J h
def dD.nil(h:Q Z E H):dD P cfg f [] Z E H Q:=h
theorem dD.step{d:Nat}{op:Op}
 (h:aH P cfg f [⟨some d,op,none⟩] E H fun E' H'=>dD P cfg f l (Z++[⟨op,true,E,H,E'.at d,H'⟩]) E' H' Q):dD P cfg f (⟨some d,op,none⟩::l) Z E H Q:=by
 unfold aH at h;simp only[]at h;unfold dD;refine j7.mono (fun v H' J=>?_) h;unfold aH at J;have:(a0 E (some d) v).at d=v:=Qn;simp_all
def QS{op:Op}(z:jd op=.eh)
 (h:aH P cfg f [⟨none,op,none⟩] E H fun E' H'=>∀v,dD P cfg f l (Z++[⟨op,true,E,H,v,H'⟩]) E' H' Q):dD P cfg f (⟨none,op,none⟩::l) Z E H Q:=by
 unfold aH at h;simp only[]at h;unfold dD;refine j7.mono (fun v H' J=>?_) h;unfold aH at J;exact J v
theorem dD.guard{op:Op}{t:Bool}(h:E.at s=.bool t)(j:t=b->dD P cfg f (⟨d,op,none⟩::l) Z E H Q)(m:t=!b->dD P cfg f l (Z++[⟨op,false,E,H,dq,H⟩]) (a0 E d dq) H Q):
 dD P cfg f (⟨d,op,some (s,b)⟩::l) Z E H Q:=by
 unfold dD;simp only[];by_cases e:t=b
 .left
  refine⟨by rw[h,e],?_⟩;have:=j e;unfold dD at this;exact this
 .right
  have V:t=!b:=by cases t<;>cases b<;>simp_all
  simp_all
theorem dD.cN{op:Op}(h:E.at s=dq)(m:dD P cfg f l (Z++[⟨op,false,E,H,dq,H⟩]) (a0 E d dq) H Q):
 dD P cfg f (⟨d,op,some (s,b)⟩::l) Z E H Q:=by
 unfold dD;simp_all
def zb9{bZ:Hp}(h:aM E x=some a)(j:eP P H t a=some v):uG P cfg ⟨.load t x,true,E,bZ,v,I⟩ H:=
 ⟨H,by simp only[eQ,dL,B4,Go.Ab.ret,h,j,jr]⟩
def zca{y:Operand}{ok:Bool}{bZ:Hp}{b:AV}(h:aM E x=some a)(j:aM E y=some b)(m:sd P H t a b ok=some v):uG P cfg ⟨.lookup t x y ok,true,E,bZ,v,I⟩ H:=
 ⟨H,by simp only[eQ,dL,B9,Go.Ab.ret,h,j,m,jr]⟩
def zcb{bZ:Hp}(h:aM E x=some a)(j:jP P H t a=some v):uG P cfg ⟨.call ⟨.builtin .len,#[x],#[t]⟩,true,E,bZ,v,I⟩ H:=
 ⟨H,by simp only[eQ,wP,jE,h,uf,j]⟩
def zcc{s:TypeId}{bZ:Hp}(h:aM E x=some a)(j:mW P H s t a=some v):uG P cfg ⟨.convert s t x,true,E,bZ,v,I⟩ H:=
 ⟨H,by simp only[eQ,dL,B5,Go.Ab.ret,h,j,jr]⟩
def zcd{lo O:Option Operand}{lv j:qI}{bZ:Hp}(h:aM E x=some a)(Z:mB E lo=some lv)(m:mB E O=some j)(C:sc P H t a lv j=some v):uG P cfg ⟨.slice t x lo O none,true,E,bZ,v,I⟩ H:=
 ⟨H,by simp only[eQ,dL,B8,Go.Ab.ret,h,Z,m,C,jr]⟩
theorem zce{op:Op}{bZ:Hp}{b:HB}(z:jd op=.make)(h:H.get bZ.next=some b)(m:I.get bZ.next=some b):uG P cfg ⟨op,true,E,bZ,v,I⟩ H:=by
 unfold uG;simp_all
theorem zcf{i m:Nat}{r:Rc}(h:Z[i]?=some r)(V:r.did=true->uG P cfg r (CY Z H' m)):GR P cfg Z H' i m:=by
 unfold GR;simp_all
end
section
variable {P:Program} {cfg:Cfg} {f:FuncId} {l:List SOp} {E:aw} {H:Hp} {Q:aw -> Hp -> Prop} {d:Nat} {x y:Operand} {ts:Array TypeId} {k k':IntKind} {a b:Int}
def aH.min2(h:aM E x=some (.int k a))(j:aM E y=some (.int k' b))(z:aH P cfg f l (T.set E d (some (.int k (min a b)))) H Q):aH P cfg f (⟨some d,.call ⟨.builtin .min,#[x,y],ts⟩,none⟩::l) E H Q:=
 Gu (c:=⟨.builtin .min,#[x,y],ts⟩) rfl (vs:=[.int k a,.int k' b]) (by simp only[jE,h,j]) (v:=.int k (min a b)) (by
  simp only[uf,wO,mm,dV,fK,kE]
  congr 3;omega) z
def aH.max2(h:aM E x=some (.int k a))(j:aM E y=some (.int k' b))(z:aH P cfg f l (T.set E d (some (.int k (max a b)))) H Q):aH P cfg f (⟨some d,.call ⟨.builtin .max,#[x,y],ts⟩,none⟩::l) E H Q:=
 Gu (c:=⟨.builtin .max,#[x,y],ts⟩) rfl (vs:=[.int k a,.int k' b]) (by simp only[jE,h,j]) (v:=.int k (max a b)) (by
  simp only[uf,wO,mm,dG,kE]
  congr 3;omega) z
end
attribute [irreducible] dD
end Go.Ab
namespace Go.Proofs.YtbflaciihaijgaaGreat
set_option maxRecDepth 20000
open Go Go.Ab
def fit:Fit Tryz.prog:=Fit.of ax
def pls:List (Nat×Nat×zf1):=[(6,4,(.b7 [0,1,2,4,5,6,7,11,12,3,8,9,10,13,14])),
 (7,9,(.b7 [0,1,2,4,5,8,10,3,6,7,9,11])),
 (7,10,(.b7 [0,1,2,4,5,8,10,3,6,7,9,11])),
 (10,36,(.split 10 13 .text (.b7 [0,1,2,3,4,5,6,7,8,9,11,12,13,10]))),
 (10,41,(.split 11 14 .text (.b7 [0,1,2,3,4,5,6,7,8,9,10,12,13,14,11]))),
 (22,22,(.b7 [0,1,2,3,4,5,6,7,10,8,9,11])),
 (54,14,(.b7 [0,1,2,4,5,7,9,3,6,8,10])),
 (56,4,(.b7 [0,1,2,4,5,7,8,10,11,12,3,6,9,13,14,15,16])),
 (108,23,(.b7 [0,1,2,3,4,5,6,7,9,10,11,12,13,14,8,15,16,17,18,19])),
 (108,24,(.b7 [0,1,2,3,4,5,6,8,9,10,11,12,13,7,14,15,16])),
 (175,23,(.b7 [0,2,3,4,5,6,7,1,8,9])),
 (180,13,(.b7 [0,1,2,3,4,5,6,8,9,7,10,11,12]))]
end Go.Proofs.YtbflaciihaijgaaGreat
