/- Lemmas for the last file. -/
import Derived.Test.YtbflaciihaijgaaGreatJEI
set_option linter.all false
set_option maxHeartbeats 32000000
namespace Go.Ab
set_option maxRecDepth 20000
open Go
variable{qf:Prop}
def BM(h:qf:=by cases m<;>rfl):=h
def iN(h:qf:=by first|rfl|trivial):=h
def tF(h:qf:=by rw[Hp.get_set,if_neg j]):=h
def FC(h:qf:=by rw[List.drop_zero,List.length_take];omega):=h
def QO(h:qf:=by rw[List.flatten_append,List.length_append];omega):=h
def FD(h:qf:=by unfold wa;(repeat' split)<;>omega):=h
def Kl(h:qf:=by have:=h.nS k j;omega):=h
def Km(h:qf:=by have:=h.sS k j;omega):=h
def FE(h:qf:=by simp only[aZ,br];omega):=h
def zp(h:qf:=by rw[<- Y];rfl):=h
def FF(h:qf:=by rw[aD,if_pos eN]):=h
def FG:=@beq_self_eq_true
def BN:=@Go.IntKind.wrap_u8
def QP:=@Int.fdiv_eq_ediv_of_nonneg
def BO:=@Go.IntKind.wrap_u64
def vY:=@List.prefix_refl
def xW:=@Int.tmod_lt_of_pos
def BP:=@Nat.lt_of_le_of_lt
def jk:=And.intro @js.{0,0} @aI.{0}
end Go.Ab
namespace Go.Proofs.YtbflaciihaijgaaGreat
set_option maxRecDepth 20000
open Go Go.Ab Proofs.Tryz
variable(ρ:Nat->Int)
variable{i z c q M k:Nat}{I:Hp->Prop}{S S' O:Nat->Prop}{H H':Hp}{w cs:qt}{C a:List qt}{L Y:AV}{cfg:Cfg}{P:Program}{t e:TypeId}{g:FuncId}{x:Int}{vs U:qw}
section
def tyV5.tyF:=ad @ec (ad @cA (ad @eZ (ad @fX (ad @jB (@D9)))))
open tyV5
noncomputable def QQ:{c:SC // aC 22 (f76.body.getD .skip)=c}:=by
 refine⟨?_,?_⟩;rotate_left
 .simp only[f76,bz,aC,bw,bt,bA,bB,Nat.blt,Nat.ble];rfl
def gS(n:Nd):qx:=uA (vO n)
noncomputable def FH:En:=⟨128,false,bQ (fun n=>n.aj.length<2^30) Bt fun n=>.aq (gS n)⟩
def zff:co prog ρ FH:=cz fun n I=>zdz ρ n I
def zfg{tb:qB}(J:∀i,cM tb 128 i=FH.sp i)(n:Nd)(I:n.aj.length<2^30)(H:Hp):aM prog (ay pls tb) 128 [.agg n.cells] H fun v H'=>v=.aq (gS n)/\H'=H:=
 bZ (enc:=Bt) (ok:=fun n=>n.aj.length<2^30) (out:=fun n=>.aq (gS n)) zdy (x:=n) (J _) I
def nD(l:qy):Bool:=!bU [] (l.map gS)
theorem zfh(l:qy)(hl:gZ l):bF prog ρ 76 [dR l] (.bool (nD l)):=dE fit (pls:=pls) (l:=[FH]) ⟨zff ρ,trivial⟩ (.cons (rN _) .nil) (.bool _) (by
 obtain⟨hl1,g⟩:=hl;have L:zd0 (ay pls [FH]) 76:=db (fun _=>rfl) rfl;refine a0 (M:=22) (rs:=[.tmp 2]) (L.call _) L.aG L.az func76 rfl rfl QQ.2 rfl ?_;dsimp only[QQ,aW,Nat.reduceAdd];refine eh ?_;refine bY [3,8,9] [] 10 l.length (fun i E H=>∃seen,H.get 0=some (.map (iy seen))/\bU [] (l.map gS)=bU seen ((l.drop i).map gS)) eE ⟨[],sC,rfl⟩ ?_;rintro i E C hi O m z hsI ⟨seen,hm,V⟩;(try simp only[bq,aT,aN,aG,aR,Nat.reduceBEq, *]at O);(try simp only[aT,aR, *]at m);(try simp only[aZ,bX,bK]at z);by_cases j:i<l.length
 .have Z:(i:Int)<l.length:=by omega
  have hgx:l[i]?=some l[i]:=aL j;have J:=g _ (cB j);have Y:bU seen ((l.drop i).map gS)=(bu seen (gS l[i])||bU (seen++[gS l[i]]) ((l.drop (i+1)).map gS)):=ng;generalize l[i]=n at *;have U:∀b c,((C.alloc b).set C.next c).get 0=some (.map (iy seen)):=fun b c=>by rw[aA,af ac,aD,af ac];exact hm
  have hlk:=fun b c=>xV (U b c) (gS n);have hup:=fun b c=>Ke (U b c) (gS n);repeat' (first
   |(apply aj ?_;clear hK K)|apply aQ ?_|(apply ch ?_;first|refine Rx.k (zfg (fun _=>rfl) _ J _) ?_)|(apply aV ?_ ?_<;>(intro hb hbp;try(cases hb;done)))|(apply ak fun K hK=>?_)|fail)
  .all_goals refine qq ?_
   rw[nD,V,Y];(try simp only[dH]at *);simp only[*,mU,lX,]
  .refine⟨ac,aK,aK,bG,mF,?_⟩;refine⟨tC seen (gS n),BE,?_⟩;rw[V,Y,tC];(try simp only[dH]at *);simp only[*,il,];rfl
 .have Z:¬(i:Int)<l.length:=by omega
  have I:l.drop i=[]:=ny ac;rw[I]at V;refine wG ?_;all_goals refine qq ?_
  rw[nD,V];rfl)
end
section
def zfi{l:qH}{k:Ex}(L:eM l=true)(h:l[i]?=some k):fk k=true:=by
 induction l generalizing i with
 |nil=>simp at h
 |cons e V ih=>
  rw[eM,cj]at L;cases i with
  |zero=>simp at h;subst h;exact L.1
  |succ i=>exact ih L.2 jf
def oU{I:Type}(l:List I)(h:i<l.length):∃k,l[i]?=some k:=⟨l[i],aL h⟩
section
variable (p:Pr) (fi:List (b8 × Int))
end
structure Bd where
 l:qy
 vars:qu
 ab:Int
 loops:Nat
structure Cx where
 aa:qR
 funcs:qQ
 aK:List b8
def jl(l:qy)(n:Nd):Nat:=l.findIdx fun x=>decide (x=n)
def kI(l:qy)(n:Nd):qy:=if jl l n<l.length then l else l++[n]
def ai(n:Nd)(s:Bd):Int×Bd:=(jl s.l n,{s with l:=kI s.l n})
def dm:List b8->b8->Nat
 |[],_=>0
 |a::l,s=>if a=s then 0 else if bu l s=true then dm l s+1 else 0
def b9(c a b:Int)(s:Bd):Int×Bd:=if a=b then (a,s)else ai ⟨22,0,[c,a,b]⟩ s
def mh(O v:Int)(s:Bd):Bd:=let r:=ai ⟨27,O,[s.ab,v]⟩ s;{r.2 with ab:=r.1}
def gI(len i:Int)(s:Bd):Bd:=
 let V:=ai ⟨1,len,[]⟩ s
 let g:=ai ⟨19,0,[i,V.1]⟩ V.2
 mh 2 g.1 g.2
def nE(v:Int)(s:Bd):Bd:=
 let z:=ai ⟨1,0,[]⟩ s
 let c:=ai ⟨16,0,[v,z.1]⟩ z.2
 mh 1 c.1 c.2
def fE(c:Cx):Nat->Ex->Bd->Option (Int×Bd)
 |0,_,_=>none
 |n+1,x,s=>
  if x.aw=1 then some (ai ⟨1,x.n,[]⟩ s)
  else if x.aw=2 then (s.vars[dm c.aK x.name]?).map fun v=>(v,s)
  else if x.aw=3 then
   (x.aj[0]?).bind fun k=>(fE c n k s).bind fun r=>(c.aa[dm (c.aa.map (·.name)) x.name]?).bind fun a=>
     let m:=gI a.len r.1 r.2
     some (ai ⟨23,dm (c.aa.map (·.name)) x.name,[m.ab,r.1]⟩ m)
  else if x.aw=5 then
   (x.aj[0]?).bind fun k0=>(fE c n k0 s).bind fun bV=>
   (x.aj[1]?).bind fun i=>(fE c n i bV.2).bind fun V=>
   (x.aj[2]?).bind fun J=>(fE c n J {V.2 with ab:=bV.2.ab}).bind fun g=>
     let v:=b9 bV.1 V.1 g.1 g.2
     let t:=b9 bV.1 V.2.ab v.2.ab v.2
     some (v.1,{t.2 with ab:=t.1})
  else
   (x.aj[0]?).bind fun k0=>(fE c n k0 s).bind fun bV=>
     if x.aj.length=1 then some (ai ⟨x.op,0,[bV.1]⟩ bV.2)
     else (x.aj[1]?).bind fun i=>(fE c n i bV.2).bind fun V=>
      some (ai ⟨x.op,0,[bV.1,V.1]⟩ (if x.op=7\/x.op=8 then nE V.1 V.2 else V.2))
def pN(c:Cx)(n:Nat):qH->Bd->Option (qu×Bd)
 |[],s=>some ([],s)
 |x::l,s=>(fE c n x s).bind fun r=>(pN c n l r.2).bind fun g=>some (r.1::g.1,g.2)
def ol(V:List b8):Nat->qE->qL->Option qL
 |0,_,_=>none
 |n+1,l,b=>match l with
  |[]=>some b
  |x::l=>
   if (x.aw=1\/x.aw=6)/\b.length<=dm V x.name then none
   else (ol V n x.a9 (if x.aw=1\/x.aw=6 then b.set (dm V x.name) true else b)).bind fun C=>(ol V n x.bl C).bind fun z=>ol V n l z
def iG(b:qL):qD:=(List.range b.length).filter fun i=>b.getD i false
def oV(c:Int)(a:qu):Nat->Nat->Bd->Option Bd
 |0,_,s=>some s
 |k+1,i,s=>(a[i]?).bind fun x=>(s.vars[i]?).bind fun y=>
  let r:=b9 c x y s
  oV c a k (i+1) {r.2 with vars:=r.2.vars.set i r.1}
def j0(base:Int):qD->Nat->Bd->Bd
 |[],_,s=>s
 |w::ws,j,s=>let r:=ai ⟨3,base+j,[]⟩ s;j0 base ws (j+1) {r.2 with vars:=r.2.vars.set w r.1}
def jm(loop c:Int)(old:qu):qD->Nat->Bd->Bd
 |[],_,s=>s
 |w::ws,j,s=>
  let f:=ai ⟨25,j,[loop]⟩ s
  let m:=b9 c f.1 (old.getD w 0) f.2
  jm loop c old ws (j+1) {m.2 with vars:=m.2.vars.set w m.1}
section
variable (c:Cx)
mutual
def oW:Nat->St->Bd->Option Bd
 |0,_,_=>none
 |n+1,x,s=>
  if x.aw=1 then (fE c n x.value s).bind fun r=>if dm c.aK x.name<r.2.vars.length then some {r.2 with vars:=r.2.vars.set (dm c.aK x.name) r.1}else none
  else if x.aw=2 then (fE c n x.a6 s).bind fun i=>(fE c n x.value i.2).bind fun v=>(c.aa[dm (c.aa.map (·.name)) x.name]?).bind fun a=>
   let Z:=gI a.len i.1 v.2
   let r:=ai ⟨28,dm (c.aa.map (·.name)) x.name,[Z.ab,i.1,v.1]⟩ Z
   some {r.2 with ab:=r.1}
  else if x.aw=3 then (fE c n x.value s).bind fun r=>(iH n x.a9 r.2).bind fun a=>(iH n x.bl {a with ab:=r.2.ab,vars:=r.2.vars}).bind fun b=>
   (oV r.1 a.vars b.vars.length 0 b).bind fun m=>
     let t:=b9 r.1 a.ab m.ab m
     some {t.2 with ab:=t.1}
  else if x.aw=4 then pO n x s
  else if x.aw=5 then (fE c n x.value s).bind fun v=>
   let r:=ai ⟨29,0,[v.2.ab,v.1]⟩ v.2
   some {r.2 with ab:=r.1}
  else if x.aw=6 then (pN c n x.args s).bind fun L=>
   if 0<=dr c.funcs x.to 0/\dm c.aK x.name<L.2.vars.length then
    let r:=ai ⟨30,dr c.funcs x.to 0,L.2.ab::L.1⟩ L.2
    let q:=ai ⟨24,0,[r.1]⟩ {r.2 with ab:=r.1}
    some {q.2 with vars:=q.2.vars.set (dm c.aK x.name) q.1}
   else none
  else if x.aw=7 then let z:=ai ⟨1,0,[]⟩ s;some (mh (bS (16+x.n)) z.1 z.2)
  else some s
def iH:Nat->qE->Bd->Option Bd
 |0,_,_=>none
 |n+1,l,s=>match l with
  |[]=>some s
  |x::l=>(oW n x s).bind fun r=>iH n l r
def pO:Nat->St->Bd->Option Bd
 |0,_,_=>none
 |n+1,x,s=>(fE c n x.value {s with loops:=s.loops+1}).bind fun r=>(ol c.aK n x.a9 (List.replicate r.2.vars.length false)).bind fun b=>
  let p:=ai ⟨3,16*(s.loops:Int),[]⟩ r.2
  (iH n x.a9 (j0 (16*(s.loops:Int)+1) (iG b) 0 {p.2 with ab:=p.1})).bind fun t=>(fE c n x.value t).bind fun d=>
    let k:=ai ⟨31,s.loops,r.2.ab::((iG b).map fun i=>r.2.vars.getD i 0)++[d.1,d.2.ab]++((iG b).map fun i=>d.2.vars.getD i 0)⟩ d.2
    let f:=ai ⟨25,0,[k.1]⟩ {k.2 with vars:=r.2.vars}
    let m:=b9 r.1 f.1 r.2.ab f.2
    some (jm k.1 r.1 r.2.vars (iG b) 1 {m.2 with ab:=m.1})
end
end
def gg:Nat->Nat->Bd->Bd
 |0,_,s=>s
 |n+1,k,s=>let r:=ai ⟨2,k,[]⟩ s;gg n (k+1) {r.2 with vars:=r.2.vars++[r.1] }
def jn:Nat->Bd->Bd
 |0,s=>s
 |n+1,s=>let r:=ai ⟨1,0,[]⟩ s;jn n {r.2 with vars:=r.2.vars++[r.1] }
def ja(f:Fu):Bd:=let e:=ai ⟨26,0,[]⟩ ⟨[],[],0,0⟩;jn f.ao.length (gg f.params.length 0 {e.2 with ab:=e.1})
def nF(p:Pr)(f:Fu):Cx:=⟨p.aa,p.funcs,f.params++f.ao⟩
def jE(p:Pr)(n:Nat)(f:Fu):Option Gr:=(iH (nF p f) n f.body (ja f)).bind fun s=>(fE (nF p f) n f.value s).bind fun v=>some ⟨f.name,f.params.length,v.2.l,v.1,v.2.ab⟩
def lj(p:Pr)(n:Nat):qQ->qT->Option (Un×Int)
 |[],gs=>some (⟨p.aa,gs⟩,0)
 |f::l,gs=>(jE p n f).bind fun g=>if (2000:Int)<g.ag.length then some (⟨[],[]⟩,6)else lj p n l (gs++[g])
def rX(p:Pr)(n:Nat):Option (Un×Int):=if fx p=0 then lj p n p.funcs []else some (⟨[],[]⟩,fx p)
structure NdR (n:Nd):Prop where
 op:0<=n.op/\n.op<256
 aF:-9223372036854775808<=n.aF/\n.aF<9223372036854775808
 aj:∀k∈n.aj,0<=k/\k<2^60
 len:n.aj.length<2^30
def QR(n:Int):oc n 0=n%256:=by
 rw[oc,BN];simp[Int.fdiv_one]
def QS(n:Int)(i:Nat):oc n (i+1)=oc (n/256) i:=by
 rw[oc,oc];have e:(2:Int)^ (8*(i+1))=256*2^ (8*i):=by
  rw[Nat.mul_add,Int.pow_add];omega
 have p:(0:Int)<=2^ (8*i):=Int.le_of_lt (Int.pow_pos aE);rw[e,QP _ ac,QP _ p,Int.ediv_ediv_of_nonneg aE]
def zfj(n:Int)(i:Nat):0<=oc n i/\oc n i<256:=by
 rw[oc,BN];omega
theorem QT:∀(k:Nat) (n m:Int),0<=n->n<256^ k->0<=m->m<256^ k->(∀i,i<k->oc n i=oc m i)->n=m
 |0,n,m,h1,h2,h3,h4,_=>by simp at h2 h4;omega
 |k+1,n,m,h1,h2,h3,h4,h=>by
  have e:(256:Int)^ (k+1)=256*256^ k:=by rw[Int.pow_succ];omega
  rw[e]at h2 h4;have U:=h 0 ac;rw[QR,QR]at U;have ih:=QT k (n/256) (m/256) ac (by generalize (256:Int)^ k=P at *;omega) ac (by generalize (256:Int)^ k=P at *;omega) (fun i C=>by rw[<-QS,<-QS];exact h (i+1) ac);omega
theorem QU:∀{l m:qu},(∀x∈l,0<=x/\x<256)->(∀x∈m,0<=x/\x<256)->uA l=uA m->l=m
 |[],[],_,_,_=>rfl
 |[],_::_,_,_,h=>by simp[uA]at h
 |_::_,[],_,_,h=>by simp[uA]at h
 |a::l,b::m,hl,hm,h=>by
  simp only[uA,dZ,dN]at h;have i:=hl a ei;have g:=hm b ei;have e:a=b:=by
   have:=kV UInt8.toNat h.1;rw[UInt8.toNat_ofNat',UInt8.toNat_ofNat']at this;omega
  rw[e,QU (fun x z=>hl x (ev _ z)) (fun x z=>hm x (ev _ z)) h.2]
def QV(n:Int)(k:Nat):∀x∈kE n k,0<=x/\x<256:=fun x z=>by
 obtain⟨i,_,rfl⟩:=mT.1 z;exact zfj n i
def QW(n:Nd):∀x∈vO n,0<=x/\x<256:=fun x z=>by
 rw[vO,gE,nR,Ih]at z;rcases z with rfl|z|⟨k,_,z⟩
 .rw[BN];omega
 .exact QV _ _ x z
 .exact QV _ _ x z
def QX{n m:Int}(h1:0<=n)(h2:n<18446744073709551616)(Z:0<=m)(U:m<18446744073709551616)(h:kE n 8=kE m 8):n=m:=
 QT 8 n m h1 ac Z ac fun i C=>List.map_inj_left.1 h i (lF.2 C)
def vZ(n:Int):0<=IntKind.wrap .u64 n/\IntKind.wrap .u64 n<18446744073709551616:=by rw[BO];omega
theorem QY:∀{z ms:qu},(∀k∈z,0<=k/\k<2^60)->(∀k∈ms,0<=k/\k<2^60)->(z.flatMap fun k=>kE (IntKind.wrap .u64 k) 8)=(ms.flatMap fun k=>kE (IntKind.wrap .u64 k) 8)->z=ms
 |[],[],_,_,_=>rfl
 |[],m::ms,_,_,h=>by
  have:=kV List.length h;rw[xo,fB,uz]at this;simp at this;omega
 |k::z,[],_,_,h=>by
  have:=kV List.length h;rw[xo,fB,uz]at this;simp at this
 |k::z,m::ms,hk,hm,h=>by
  rw[xo,xo]at h;obtain⟨i,g⟩:=List.append_inj h (by rw[uz,uz]);have e:=QX (vZ k).1 (vZ k).2 (vZ m).1 (vZ m).2 i;have U:=hk k ei;have V:=hm m ei;rw[BO,BO]at e;have Y:k=m:=ac;rw[Y,QY (fun x Z=>hk x (ev _ Z)) (fun x Z=>hm x (ev _ Z)) g]
def zfk{a b:Nd}(z:NdR a)(hb:NdR b)(h:gS a=gS b):a=b:=by
 have h:=QU (QW a) (QW b) h;rw[vO,vO,dN]at h;obtain⟨i,g⟩:=h;obtain⟨m,U⟩:=List.append_inj g (by rw[uz,uz]);have M:=QX (vZ _).1 (vZ _).2 (vZ _).1 (vZ _).2 m;have J:=QY z.aj hb.aj U;have C:=z.op;have j:=hb.op;have i1:=z.aF;have i2:=hb.aF;rw[BN,BN]at i;rw[BO,BO]at M;obtain⟨O,Z,L⟩:=a;obtain⟨Y,V,I⟩:=b;simp only at *;rw[show O=Y by omega,show Z=V by omega,J]
def zfl(x:Nd)(l:qy)(n:Nd):jl (x::l) n=if x=n then 0 else jl l n+1:=by
 unfold jl;rw[List.findIdx_cons];by_cases h:x=n<;>simp[h]
def Kn(l:qy)(n:Nd):jl l n<=l.length:=by unfold jl;exact List.findIdx_le_length
def QZ{l:qy}{n:Nd}:jl l n<l.length↔n∈l:=by
 unfold jl;rw[List.findIdx_lt_length];simp
def Q0{l:qy}{n:Nd}(h:jl l n<l.length):l[jl l n]?=some n:=by
 rw[aL h];have:=List.findIdx_getElem (p:=fun x=>decide (x=n)) (xs:=l) (w:=h);simp only[kA]at this;exact kV some this
def Q1(l:qy)(n:Nd):(kI l n).length=if jl l n<l.length then l.length else l.length+1:=by
 unfold kI;split<;>simp[*]
def xX(l:qy)(n:Nd):l<+:kI l n:=by
 unfold kI;split
 .exact vY l
 .exact List.prefix_append l [n]
theorem Ko(l:qy)(n:Nd):(kI l n)[jl l n]?=some n:=by
 unfold kI;split
 .rename_i h;exact Q0 h
 .rename_i h;have:=Kn l n;have e:jl l n=l.length:=ac;rw[e,lT (aH _),nP];rfl
def uJ{l:qy}{n x:Nd}:x∈kI l n↔x∈l\/x=n:=by
 unfold kI;split
 .rename_i h;have:=QZ.1 h;constructor
  .exact .inl
  .rintro(h|rfl)
   .exact h
   .exact this
 .simp
def zfm(l:qy)(n:Nd):jl l n<(kI l n).length:=by
 have:=Kn l n;rw[Q1];split<;>omega
def tyG1.tyF:=ad @cA (ad @ec (ad @ZR (ad @dw (ad @fU (ad @th (@oH))))))
open tyG1
noncomputable def Q3:{c:SC // aC 14 (f25.body.getD .skip)=c}:=by
 refine⟨?_,?_⟩;rotate_left
 .simp only[f25,bz,aC,bw,bt,bA,bB,Nat.blt,Nat.ble];rfl
noncomputable def Q4:{c:SC // aC 25 (f27.body.getD .skip)=c}:=by
 refine⟨?_,?_⟩;rotate_left
 .simp only[f27,bz,aC,bw,bt,bA,bB,Nat.blt,Nat.ble];rfl
noncomputable def Q5:{c:SC // aC 7 (f59.body.getD .skip)=c}:=by
 refine⟨?_,?_⟩;rotate_left
 .simp only[f59,bz,aC,bw,bt,bA,bB,Nat.blt,Nat.ble];rfl
def bO(n m:Int):Int:=if n.tmod m<0 then bS (n.tmod m+m)else n.tmod m
def iW{n m:Int}(h:0<m)(h2:m<2^62):0<=bO n m/\bO n m<m:=by
 unfold bO;have Z:=xW n h;have U:-m<n.tmod m:=by
  have:=xW (-n) h;rw[Int.neg_tmod]at this;omega
 split
 .unfold bS;rw[At _ ac];omega
 .omega
def sH(x:Int×Int):qt:=[.int .i64 x.1,.int .i64 x.2]
def Q6(x y:Int×Int)(h:sH x=sH y):x=y:=by
 simp only[sH,dN,AV.int.injEq,aN,jy]at h;exact n1 h.1 h.2
theorem zfn(x:Int×Int)(z:x.2≠0):bF prog ρ 25 (sH x) (.int .i64 (bO x.1 x.2)):=dE fit (pls:=pls) (l:=[]) trivial (.cons (.int _ _) (.cons (.int _ _) .nil)) (.int _ _) (by
 have L:=fh 25;obtain⟨n,m⟩:=x;rw[sH];simp only[]at z⊢;refine a0 (M:=14) (rs:=[.tmp 4]) (L.call _) L.aG L.az func25 rfl rfl Q3.2 rfl ?_;dsimp only[Q3,aW,Nat.reduceAdd];refine LX (fun hb hbp=>?_) (fun hb hbp=>?_);all_goals refine qq ?_
 all_goals (simp_all[bO];try omega))
noncomputable def tG:En:=⟨25,false,bQ (fun x=>x.2≠0) sH fun x=>.int .i64 (bO x.1 x.2)⟩
def FI:co prog ρ tG:=cz fun x z=>zfn ρ x z
def oq{l:qB}(J:∀i,cM l 25 i=tG.sp i)(n m:Int)(O:m≠0)(H:Hp):aM prog (ay pls l) 25 [.int .i64 n,.int .i64 m] H fun v H'=>v=.int .i64 (bO n m)/\H'=H:=
 bZ (enc:=sH) (ok:=fun x=>x.2≠0) (out:=fun x=>.int .i64 (bO x.1 x.2)) Q6 (x:=(n,m)) (J _) O
def v8:qu:=[0,1,-1,2,-9223372036854775808,9223372036854775807,4294967296,-2147483648,63,64]
def tH(n V:Int):Int:=if bO n 24<10 then v8.getD (bO n 24).toNat 0 else if bO n 24<22 then bS (bO (bS (n.tdiv 24)) 17-6)else V
def zfo(H:Hp):et prog H 27 10 [(0,.int .i64 0),(1,.int .i64 1),(2,.int .i64 (-1)),(3,.int .i64 2),(4,.int .i64 (-9223372036854775808)),(5,.int .i64 9223372036854775807),(6,.int .i64 4294967296),(7,.int .i64 (-2147483648)),(8,.int .i64 63),(9,.int .i64 64)]=some (.sl H.next 0 10 1,H.alloc (.cells (v8.map fun n=>.int .i64 n) 0 true)):=aB
def zfp(x:Int×Int):bF prog ρ 27 (sH x) (.int .i64 (tH x.1 x.2)):=dE fit (pls:=pls) (l:=[tG]) ⟨FI ρ,trivial⟩ (.cons (.int _ _) (.cons (.int _ _) .nil)) (.int _ _) (by
 have L:zd0 (ay pls [tG]) 27:=db (fun _=>rfl) rfl;obtain⟨n,m⟩:=x;have hr:=iW (n:=n) (m:=24) ac ac;have hp:0<=bO n 24:=hr.1;rw[sH];simp only[];have Y:(24:Int)≠0:=aE;refine a0 (M:=25) (rs:=[.tmp 4]) (L.call _) L.aG L.az func27 rfl rfl Q4.2 rfl ?_;dsimp only[Q4,aW,Nat.reduceAdd];have Z:=@zfo;repeat' (first
  |(apply aj ?_;clear hK K)|apply aO ?_|(apply ez ?_;first|refine Rx.k (oq (fun _=>rfl) _ _ aE _) ?_)|(apply bp ?_ ?_<;>(intro hb hbp;try(cases hb;done)))|(apply ak fun K hK=>?_)|fail)
 .have j:(bO n 24).toNat<10:=by omega
  have hg:v8[(bO n 24).toNat]?=some (v8.getD (bO n 24).toNat 0):=by
   rw[cQ,aL (by simpa [v8]using j)];rfl
  refine LY ?_;all_goals refine qq ?_
  rw[tH,ah iZ]
 .all_goals refine qq ?_
  rw[tH,af iZ,ah iZ]
 .all_goals refine qq ?_
  rw[tH,af iZ,af iZ])
noncomputable def FJ:En:=⟨27,false,bQ (fun _=>True) sH fun x=>.int .i64 (tH x.1 x.2)⟩
def zfq:co prog ρ FJ:=cz fun x z=>zfp ρ x
def zfr{l:qB}(J:∀i,cM l 27 i=FJ.sp i)(n m:Int)(H:Hp):aM prog (ay pls l) 27 [.int .i64 n,.int .i64 m] H fun v H'=>v=.int .i64 (tH n m)/\H'=H:=
 bZ (enc:=sH) (ok:=fun _=>True) (out:=fun x=>.int .i64 (tH x.1 x.2)) Q6 (x:=(n,m)) (J _) trivial
def cG(f:Int):qw:=if f=0 then [[120],[121],[105],[106]]else [[110],[105]]
def uK(f:Int):(cG f).length=4\/(cG f).length=2:=by unfold cG;split<;>simp
def zfs(H:Hp)(a b c d:qx):et prog H 66 4 [(0,.aq a),(1,.aq b),(2,.aq c),(3,.aq d)]=some (.sl H.next 0 4 1,H.alloc (.cells [.aq a,.aq b,.aq c,.aq d] 0 true)):=aB
def BQ(H:Hp)(a b:qx):et prog H 66 2 [(0,.aq a),(1,.aq b)]=some (.sl H.next 0 2 1,H.alloc (.cells [.aq a,.aq b] 0 true)):=aB
theorem zft(f:Int):bF prog ρ 59 [.int .i64 f] (cZ (cG f)):=ur (m:=3) (cfg:=ay pls []) fit (nU ρ) (fun f O r h=>by simp[ay,cM]at h) (.cons (.int _ _) .nil) (by
 have L:=fh 59;refine a0 (M:=7) (rs:=[.tmp 2]) (L.call _) L.aG L.az func59 rfl rfl Q5.2 rfl ?_;dsimp only[Q5,aW,Nat.reduceAdd];have Z:=@zfs;have Y:=@BQ;refine LX (fun hb hbp=>?_) (fun hb hbp=>?_)
 .all_goals refine qq ?_
  rw[cG,ah iZ];rfl
 .all_goals refine qq ?_
  rw[cG,af iZ];rfl)
noncomputable def FK:En:=⟨59,false,bQ (fun _=>True) (fun n:Int=>[.int .i64 n]) fun f=>cZ (cG f)⟩
def zfu:co prog ρ FK:=cz fun x z=>zft ρ x
def Q7{l:qB}(J:∀i,cM l 59 i=FK.sp i)(f:Int)(H:Hp):aM prog (ay pls l) 59 [.int .i64 f] H fun v H'=>v=cZ (cG f)/\H'=H:=
 bZ (enc:=fun n:Int=>[.int .i64 n]) (ok:=fun _=>True) (out:=fun f=>cZ (cG f)) J1 (x:=f) (J _) trivial
end
variable{s:Bd}
section
def tyG2.tyF:=ad @cA (ad @eZ (@yR))
open tyG2
def dy(S:Nat->Prop)(n:Nat)(H:Hp)(v w:AV):Prop:=∃u,dc S n H v u/\∀m,n<=m->cp m u=w
def cn(S:Nat->Prop)(n:Nat)(H:Hp)(cs C:qt):Prop:=∃I,cE (dc S n H) cs I/\∀m,n<=m->I.map (cp m)=C
def dy.frame(hS:∀k,S k->S' k){n:Nat}{v w:AV}(h:dy S n H v w)(I:H.next<=H'.next)(C:∀k,S k->k<H.next->oN (H.get k) (H'.get k)):dy S' n H' v w:=by
 obtain⟨u,i,g⟩:=h;exact⟨u,i.frame hS I C,g⟩
def cn.frame(hS:∀k,S k->S' k){n:Nat}{v:qt}(h:cn S n H v w)(I:H.next<=H'.next)(C:∀k,S k->k<H.next->oN (H.get k) (H'.get k)):cn S' n H' v w:=by
 obtain⟨u,i,g⟩:=h;exact⟨u,i.mono fun a b k=>k.frame hS I C,g⟩
def cn.keep(hS:∀k,S k->S' k){n:Nat}{v:qt}(h:cn S n H v w)(I:H.next<=H'.next)(C:∀k,S k->k<H.next->H'.get k=H.get k):cn S' n H' v w:=h.frame hS I fun k i g=>.inl (C k i g).symm
def dy.keep(hS:∀k,S k->S' k){n:Nat}{v w:AV}(h:dy S n H v w)(I:H.next<=H'.next)(C:∀k,S k->k<H.next->H'.get k=H.get k):dy S' n H' v w:=h.frame hS I fun k i g=>.inl (C k i g).symm
def dy.up{n m:Nat}{v w:AV}(h:dy S n H v w)(O:n<=m):dy S m H v w:=by
 obtain⟨u,i,g⟩:=h;exact⟨u,i.up O,fun k j=>g k ac⟩
def cn.up{n m:Nat}{v:qt}(h:cn S n H v w)(O:n<=m):cn S m H v w:=by
 obtain⟨u,i,g⟩:=h;exact⟨u,i.mono fun a b k=>k.up O,fun k j=>g k ac⟩
def cn.nil{n:Nat}:cn S n H [] []:=⟨[],trivial,fun _ _=>rfl⟩
def cn.cons{n:Nat}{v w:AV}{C:qt}(h:dy S n H v w)(k:cn S n H cs C):cn S n H (v::cs) (w::C):=by
 obtain⟨u,i,g⟩:=h;obtain⟨I,Z,U⟩:=k;exact⟨u::I,⟨i,Z⟩,fun m O=>by rw[dZ,g m O,U m O]⟩
def cn.append{S:Nat->Prop}{n:Nat}{H:Hp}:∀{a b c d:qt},cn S n H a b->cn S n H c d->cn S n H (a++c) (b++d)
 |a,b,c,d,⟨u,i,g⟩,⟨v,Z,U⟩=>⟨u++v,i.append Z,fun m O=>by rw[tg,g m O,U m O]⟩
def dy.bN{n:Nat}{v:AV}(h:OJ v)(j:∀m,cp m v=v):dy S (n+1) H v v:=⟨v,pD h,fun m _=>j m⟩
def dy.int{n:Nat}(k:IntKind)(x:Int):dy S (n+1) H (.int k x) (.int k x):=.bN ⟨.int _ _,trivial⟩ fun m=>BM
def dy.aq{n:Nat}(s:qx):dy S (n+1) H (.aq s) (.aq s):=.bN ⟨.aq _,trivial⟩ fun m=>BM
def dy.ak{n:Nat}:dy S (n+1) H .ak (.aE []):=⟨.ak,pD ⟨.ak,trivial⟩,fun m O=>by
 obtain⟨m,rfl⟩:∃k,m=k+1:=⟨m-1,ac⟩;rfl⟩
def dy.bQ{n:Nat}:dy S (n+1) H (.aE []) (.aE []):=.bN ⟨.aE au,trivial⟩ fun m=>BM
def fR(S:Nat->Prop)(n:Nat)(H:Hp)(z:Nat):List qt->List qt->Prop:=cE fun a b=>a.length=z/\cn S n H a b
theorem Q8{S:Nat->Prop}{n z:Nat}{H:Hp}:∀{a b:List qt},fR S n H z a b->∃u,cE (cE (dc S n H)) a u/\(∀m,n<=m->u.map (List.map (cp m))=b)/\∀x∈a,x.length=z
 |[],[],_=>⟨[],trivial,fun _ _=>rfl,au⟩
 |x::a,y::b,⟨⟨hz,v,h1,h2⟩,h⟩=>by
  obtain⟨u,Z,U,M⟩:=Q8 (a:=a) (b:=b) h;exact⟨v::u,⟨h1,Z⟩,fun m O=>by rw[dZ,h2 m O,U m O],fun q L=>by
   rcases gE.1 L with rfl|L
   .exact hz
   .exact M q L⟩
def dy.rows{n:Nat}{r imm:Nat}{tip:Bool}{b:List qt}(hS:S r)(hr:r<H.next)(hg:H.get r=some (.cells a.flatten imm tip))(C:imm<=a.flatten.length)(h:fR S n H z a b):dy S (n+1) H (.sl r 0 a.length z) (.aE b):=by
 obtain⟨u,i,g,Z⟩:=Q8 h;refine⟨.aE u,dc.rows hS hr hg C Z i,fun m O=>?_⟩;obtain⟨m,rfl⟩:∃k,m=k+1:=⟨m-1,ac⟩;show AV.aE (u.map fun L=>L.map (cp m))=_;rw[<-g m ac]
def ou:=@dy.rows
def fR.frame(hS:∀k,S k->S' k){n:Nat}{b:List qt}(h:fR S n H z a b)(I:H.next<=H'.next)(C:∀k,S k->k<H.next->H'.get k=H.get k):fR S' n H' z a b:=cE.mono (fun x y k=>⟨k.1,k.2.keep hS I C⟩) h
def fR.up{n m:Nat}{b:List qt}(h:fR S n H z a b)(O:n<=m):fR S m H z a b:=cE.mono (fun x y k=>⟨k.1,k.2.up O⟩) h
def cn.cY{n:Nat}(s:qx):cn S (n+1) H [.aq s] [.aq s]:=.cons (.aq s) .nil
theorem fR.cY{S:Nat->Prop}{n:Nat}{H:Hp}:∀l:qw,fR S (n+1) H 1 (l.map fun s=>[AV.aq s]) (l.map fun s=>[AV.aq s])
 |[]=>trivial
 |a::l=>⟨⟨rfl,cn.cY a⟩,fR.cY l⟩
def BR{n:Nat}(k U o:Int)(s:qx){kv:AV}{V:qH}(h:dy S (n+1) H kv (.aE (V.map Ex.cells))):cn S (n+1) H [.int .i64 k,.int .i64 U,.aq s,.int .i64 o,kv] (Ex.mk k U s o V).cells:=by
 rw[so];exact .cons (.int _ _) (.cons (.int _ _) (.cons (.aq _) (.cons (.int _ _) (.cons h .nil))))
def v9{n:Nat}(k U o:Int)(s:qx):cn S (n+1) H [.int .i64 k,.int .i64 U,.aq s,.int .i64 o,.ak] (Ex.mk k U s o []).cells:=BR k U o s .ak
def ca:qu->Int×qu
 |[]=>(0,[])
 |a::l=>(a,l)
def zfv(lo:Nat)(H:Hp)(r:Nat)(v:AV)(L:qu):Prop:=(v=.aE []/\L=[])\/∃b I g V,v=.sl b I L.length 1/\H.get b=some (.cells g V true)/\g.drop I=L.map (fun n=>AV.int .i64 n)/\b≠r/\b<lo
def jo(lo:Nat)(H:Hp)(r:Nat)(L:qu)(c:Int):Prop:=r<lo/\lo<=H.next/\∃v,H.get r=some (.cells [v,.int .i64 c] 0 true)/\zfv lo H r v L
def jo.keep{lo:Nat}{r:Nat}{L:qu}{c:Int}(h:jo lo H r L c)(z:H.next<=H'.next)(hg:∀k,k<lo->H'.get k=H.get k):jo lo H' r L c:=by
 obtain⟨U,Y,v,i,g⟩:=h;refine⟨U,ac,v,by rw[hg _ U];exact i,?_⟩;rcases g with g|⟨b,I,O,V,M,m,J,C,Z⟩
 .exact .inl g
 .exact .inr ⟨b,I,O,V,M,by rw[hg _ Z];exact m,J,C,Z⟩
noncomputable def zq:{c:SC // aC 25 (f32.body.getD .skip)=c}:=by
 refine⟨?_,?_⟩;rotate_left
 .simp only[f32,bz,aC,bw,bt,bA,bB,Nat.blt,Nat.ble];rfl
def FL(Z:zd0 cfg 32){lo:Nat}{r:Nat}{L:qu}{c:Int}(h:jo lo H r L c)(hL:L.length<2^60):
 aM prog cfg 32 [.ptr r 0] H fun v H'=>v=.int .i64 (ca L).1/\jo lo H' r (ca L).2 c/\H'.next=H.next/\∀k,k≠r->H'.get k=H.get k:=by
 obtain⟨O,V,v,h1,h2⟩:=h;rcases h2 with⟨rfl,rfl⟩|⟨b,I,g,U,rfl,e2,m,z,e5⟩
 .refine a0 (M:=25) (rs:=[.tmp 2]) (Z.call _) Z.aG Z.az func32 rfl rfl zq.2 rfl ?_;dsimp only[zq,aW,Nat.reduceAdd];refine CJ (fun hb hbp=>?_);all_goals refine qq ?_
  exact⟨iN,⟨O,V,_,h1,.inl ⟨rfl,rfl⟩⟩,iN,fun _ _=>iN⟩
 .cases L with
  |nil=>
   refine a0 (M:=25) (rs:=[.tmp 2]) (Z.call _) Z.aG Z.az func32 rfl rfl zq.2 rfl ?_;dsimp only[zq,aW,Nat.reduceAdd];refine CJ (fun hb hbp=>?_);all_goals refine qq ?_
   exact⟨iN,⟨O,V,_,h1,.inr ⟨b,I,g,U,rfl,e2,m,z,e5⟩⟩,iN,fun _ _=>iN⟩
  |cons a L=>
   have hg:g[I]?=some (.int .i64 a):=by
    have:=kV (fun l=>l[0]?) m;simpa using this
   have hd:g.drop (I+1)=L.map (fun n=>AV.int .i64 n):=by
    have:=kV (List.drop 1) m;rw[Df]at this;simpa using this
   have C:0<L.length+1:=ac;have J:gU prog 26 (.sl b I (L.length+1) 1) (some (.int .i64 1)) none=if L=[]then some (.aE [])else some (.sl b (I+1) L.length 1):=by
    simp only[gU,underlying26,jg,ig];by_cases Y:L=[]
    .subst Y;rfl
    .have:0<L.length:=tq.2 Y;rw[af Y,ah ⟨ac,aH _,trivial⟩,af ac];rfl
   have i:¬(((L.length+1:Nat):Int)=0):=ac;have hrb:(b == r)=false:=aX z;refine a0 (M:=25) (rs:=[.tmp 2]) (Z.call _) Z.aG Z.az func32 rfl rfl zq.2 rfl ?_;dsimp only[zq,aW,Nat.reduceAdd];by_cases Y:L=[]
   .subst Y;have hsl':gU prog 26 (.sl b I 1 1) (some (.int .i64 1)) none=some (.aE []):=J;have hne':¬(((1:Nat):Int)=0):=aE;have hp':0<1:=aE;clear J i C;refine wF (fun hb hbp=>?_);all_goals refine qq ?_
    refine⟨iN,⟨O,V,_,gC,.inl ⟨rfl,rfl⟩⟩,iN,fun k j=>tF⟩
   .rw[af Y]at J;refine wF (fun hb hbp=>?_);all_goals refine qq ?_
    refine⟨iN,⟨O,V,_,by rw[aA,ah rfl];rfl,.inr ⟨b,I+1,g,U,rfl,by rw[aA,af z];exact e2,hd,z,e5⟩⟩,iN,fun k j=>tF⟩
end
variable{rows:List qt}
section
def cn.a0{n:Nat}{v:qt}(h:cn S n H v w)(hS:∀k,k<H.next->S k->S' k)(I:H.next<=H'.next)(C:∀k,S k->k<H.next->H'.get k=H.get k):cn S' n H' v w:=by
 obtain⟨u,i,g⟩:=h;exact⟨u,i.mono fun a b k=>k.b1 hS I fun q m U=>.inl (C q m U).symm,g⟩
def dy.a0{n:Nat}{v w:AV}(h:dy S n H v w)(hS:∀k,k<H.next->S k->S' k)(I:H.next<=H'.next)(C:∀k,S k->k<H.next->H'.get k=H.get k):dy S' n H' v w:=by
 obtain⟨u,i,g⟩:=h;exact⟨u,i.b1 hS I fun q m U=>.inl (C q m U).symm,g⟩
def fR.a0{n:Nat}{b:List qt}(h:fR S n H z a b)(hS:∀k,k<H.next->S k->S' k)(I:H.next<=H'.next)(C:∀k,S k->k<H.next->H'.get k=H.get k):fR S' n H' z a b:=cE.mono (fun x y k=>⟨k.1,k.2.a0 hS I C⟩) h
theorem fR.len{S:Nat->Prop}{n z:Nat}{H:Hp}:∀{a b:List qt},fR S n H z a b->∀x∈a,x.length=z
 |[],[],_,x,Z=>by simp at Z
 |y::a,w::b,h,x,Z=>by
  rcases gE.1 Z with rfl|Z
  .exact h.1.1
  .exact fR.len h.2 x Z
def eC(S:Nat->Prop)(n:Nat)(H:Hp)(z:Nat)(v:AV)(C:List qt):Prop:=
 (v=.ak/\C=[])\/∃q V rows,v=.sl q 0 rows.length z/\S q/\q<H.next/\H.get q=some (.cells rows.flatten V true)/\V<=rows.flatten.length/\fR (fun k=>S k/\k≠q) n H z rows C
theorem eC.rd{n:Nat}{v:AV}(h:eC S n H z v C):dy S (n+1) H v (.aE C):=by
 rcases h with⟨rfl,rfl⟩|⟨q,V,rows,rfl,i,g,m,U,M⟩
 .exact .ak
 .exact .rows i g m U (M.frame (fun k j=>j.1) (aH _) fun _ _ _=>rfl)
def eC.up{n m:Nat}{v:AV}(h:eC S n H z v C)(O:n<=m):eC S m H z v C:=by
 rcases h with h|⟨q,V,rows,e,i,g,Z,U,M⟩
 .exact .inl h
 .exact .inr ⟨q,V,rows,e,i,g,Z,U,fR.up M O⟩
def eC.keep{n:Nat}{v:AV}(h:eC S n H z v C)(hS:∀k,k<H.next->S k->S' k)(I:H.next<=H'.next)(Z:∀k,S k->k<H.next->H'.get k=H.get k):eC S' n H' z v C:=by
 rcases h with h|⟨q,V,rows,e,i,g,m,O,M⟩
 .exact .inl h
 .exact .inr ⟨q,V,rows,e,hS q g i,ac,by rw[Z q i g];exact m,O,M.a0 (fun k j L=>⟨hS k j L.1,L.2⟩) I fun k U Y=>Z k U.1 Y⟩
def eC.one{S:Nat->Prop}{n:Nat}{H:Hp}{z:Nat}{v:AV}{C:List qt}(h:eC S n H z v C):AV.one v=true/\v.cells=[v]:=by
 rcases h with⟨rfl,rfl⟩|⟨q,V,rows,rfl,_⟩<;>exact⟨rfl,rfl⟩
def eC.len(J:P.underlying t=some (.slice e)){n:Nat}{v:AV}(h:eC S n H z v C):ij P H' t v=some (.int .i64 C.length):=by
 rcases h with⟨rfl,rfl⟩|⟨q,V,rows,rfl,i,g,m,U,M⟩
 .exact DR J
 .rw[yM J,show rows.length=C.length from cE.len M]
theorem eC.push{b:Nat}{zz:qt}(ht:P.underlying t=some (.slice e))(hs:bE P e=some z)(hb:dt P e=some b)(hz:cS P e=some zz)(J:zz.length=z)(V:iR P t=true)
 {lo n:Nat}{v:AV} (h:eC (fun k=>lo<=k) n H z v C) (L:lo<=H.next) {r imm:Nat}{row:qt} (hg:H.get r=some (.cells row imm true)) (j:row.length=z) (Z:row.all AV.one=true)
 (hw:cn (fun k=>lo<=k/\∀o m U,v≠.sl k o m U) n H row w) (M:(C.length+1)*b<=dL) (I:C.length+1<=dL) :
 ∃v' H',cX P false H t t v (.sl r 0 1 z)=some (v',H')/\eC (fun k=>lo<=k) n H' z v' (C++[w])/\H'.next=H.next+1/\(∀k,k<H.next->(∀o m U,v≠.sl k o m U)->H'.get k=H.get k)/\∀k o m U,v'=.sl k o m U->k=H.next:=by
 have hx:eQ H z (.sl r 0 1 z)=some (1,row):=by
  have:=pq (H:=H) (r:=r) (o:=0) (n:=1) (z:=z) (s:=z) hg FC;rw[this,eS,fI ac]
 rcases h with⟨rfl,rfl⟩|⟨q,g,rows,rfl,h1,h2,h3,h4,h5⟩
 .refine⟨.sl H.next 0 1 z,H.alloc (.cells row 0 true),append_nil ht hs hb hz V hx Z J (by simpa using M) (by simpa using I),.inr ⟨H.next,0,[row],rfl,L,cC _,by rw[aD,ah rfl];simp,au,⟨⟨j,hw.a0 (fun k h1 h2=>⟨h2.1,ac⟩) (dA _) fun k h1 h2=>fq⟩,trivial⟩⟩,rfl,fun k hk _=>fq,fun k o m U e=>?_⟩;simp only[AV.sl.injEq]at e;exact e.1.symm
 .have hrl:=y3 (fR.len h5);have hwl:rows.length=C.length:=cE.len h5;have htr:ii false H z (.sl q 0 rows.length z)=H:=by
   unfold ii;simp only[h3,bK];have:Nat.blt (rows.length*z) rows.flatten.length=false:=by
    cases hb:Nat.blt (rows.length*z) rows.flatten.length with
    |false=>rfl
    |true=>rw[jK]at hb;omega
   simp only[iC,el,this,em]
  refine⟨.sl H.next 0 (rows.length+1) z,(H.aR q).alloc (.cells (rows.flatten++row) (g-0) true),?_,.inr ⟨H.next,g-0,rows++[row],au,L,cC _,?_,QO,?_⟩,rfl,fun k hk hno=>?_,fun k o m U e=>?_⟩
  .simp only[cX,ht,hs,hb,hz,V,hx,Z,htr,J,po,dh,mK,h3,bK,eS,dI,dD];rw[ah ⟨by rw[hwl];exact M,by rw[hwl];exact I,ac,trivial,h4⟩]
  .show((H.aR q).alloc _).get (H.aR q).next=_
   rw[aD,ah rfl];simp
  .have Y:∀k,k<H.next->k≠q->((H.aR q).alloc (.cells (rows.flatten++row) (g-0) true)).get k=H.get k:=fun k O i=>by rw[aD,af nh,gN,af i]
   refine cE.append (h5.a0 (fun k O i=>⟨i.1,ac⟩) (dA _) fun k O i=>Y k i O.2) ⟨⟨j,hw.a0 (fun k O i=>⟨i.1,ac⟩) (dA _) fun k O i=>Y k i fun e=>O.2 0 rows.length z nQ⟩,trivial⟩
  .rw[aD,af nh,gN,af (fun e=>hno 0 rows.length z nQ)]
  .simp only[AV.sl.injEq]at e;exact e.1.symm
def FM(h:∀r∈rows,r.length=z):eQ H z (.aE rows)=some (rows.length,rows.flatten):=by
 simp only[eQ];rw[ah (by rw[gM];intro r hr;simp[h r hr])]
def cn.ar{n:Nat}(x:Ar):cn S (n+1) H x.cells x.cells:=.cons (.aq _) (.cons (.int _ _) .nil)
theorem Q9{S:Nat->Prop}{n:Nat}{H:Hp}:∀l:qR,fR S (n+1) H 2 (l.map Ar.cells) (l.map Ar.cells)
 |[]=>trivial
 |a::l=>⟨⟨rfl,cn.ar a⟩,Q9 l⟩
theorem Kp:∀l:qR,(l.map Ar.cells).flatten.all AV.one=true
 |[]=>rfl
 |a::l=>by rw[dZ,jL,yF,a.one,Kp l];rfl
def Kq(m:Nat)(k:IntKind)(n:Int):cp m (.int k n)=.int k n:=BM
def zfw(m:Nat)(s:qx):cp m (.aq s)=.aq s:=BM
def Ar.wk(m:Nat)(x:Ar):x.cells.map (cp m)=x.cells:=by
 rw[IN];simp only[lL,zfw,Kq]
theorem FN{I:Type}{f:I->qt}(h:∀m x,(f x).map (cp m)=f x)(l:List I)(m:Nat):cp m (.aE (l.map f))=.aE (l.map f):=by
 cases m with
 |zero=>rfl
 |succ m=>
  simp only[cp,vm];have:(fun L=>List.map (cp m) L) ∘ f=f:=funext fun y=>h m y;rw[this]
def Ra(l:qu)(m:Nat):cp m (.aE (l.map fun n=>[AV.int .i64 n]))=.aE (l.map fun n=>[AV.int .i64 n]):=FN (f:=fun n:Int=>[AV.int .i64 n]) (fun m x=>by simp only[lL,Kq]) l m
def dy.agg{n:Nat}{C:qt}(h:cn S n H cs C):dy S (n+1) H (.agg cs) (.agg C):=by
 obtain⟨I,i,g⟩:=h;refine⟨.agg I,⟨I,i,rfl⟩,fun m O=>?_⟩;obtain⟨m,rfl⟩:∃k,m=k+1:=⟨m-1,ac⟩;show AV.agg (I.map (cp m))=_;rw[g m ac]
theorem Kr{n:Nat}{imm:Nat}{tip:Bool}(l:qu)(hS:S q)(L:q<H.next)(hg:H.get q=some (.cells (l.map fun n=>.int .i64 n) imm tip))(C:imm<=l.length):dy S (n+2) H (.sl q 0 l.length 1) (.aE (l.map fun n=>[.int .i64 n])):=by
 have Z:(l.map fun n=>[AV.int .i64 n]).flatten=l.map fun n=>AV.int .i64 n:=by
  clear hg C;induction l with
  |nil=>rfl
  |cons a l ih=>rw[dZ,jL,ih];rfl
 have hr:∀l:qu,fR S (n+1) H 1 (l.map fun n=>[AV.int .i64 n]) (l.map fun n=>[AV.int .i64 n]):=fun l=>by
  induction l with
  |nil=>trivial
  |cons a l ih=>exact⟨⟨rfl,.cons (.int _ _) .nil⟩,ih⟩
 have:=ou (n:=n+1) (a:=l.map fun n=>[AV.int .i64 n]) (imm:=imm) (tip:=tip) hS L (by rw[Z];exact hg) (by rw[Z,cN];exact C) (hr l);rw[cN]at this;exact this
def FO(fit:Fit prog){ρ:Nat->Int}(Z:ru cfg.cl ρ)(Y:∀f O r,cfg.call f O=some r->bF prog ρ f O r){O:qt}{r:AV}{n:Nat}
 (i:ip O) (h:aM prog cfg g O bM fun v H'=>∃m u,iceV H' m v=some u/\cp n u=r):bF prog ρ g O r:=by
 unfold aM at h;obtain⟨v,H',V,m,u,U,M⟩:=h;refine Jt n (ur (m:=m) fit Z Y i ?_) M;unfold aM;exact⟨v,H',V,U⟩
theorem zfx{b:Nat}{zz:qt}(ht:P.underlying t=some (.slice e))(hs:bE P e=some z)(hb:dt P e=some b)(hz:cS P e=some zz)(J:zz.length=z)(V:iR P t=true)
 {n:Nat}{v:AV} (h:eC S n H z v C) (O:∀k,k<H.next->S k->S' k) (hN:S' H.next) {r imm:Nat}{row:qt} (hg:H.get r=some (.cells row imm true)) (hrow:row.length=z) (Z:row.all AV.one=true)
 (Y:(C.length+1)*b<=dL) (U:C.length+1<=dL) :
 ∃H' rows g,cX P false H t t v (.sl r 0 1 z)=some (.sl H.next 0 (C.length+1) z,H')/\rows.length=C.length/\(∀x∈rows,x.length=z)/\H'.get H.next=some (.cells (rows.flatten++row) g true)/\g<=rows.flatten.length/\H'.next=H.next+1/\(∀k,k<H.next->(∀o m z',v≠.sl k o m z')->H'.get k=H.get k) /\
  fR (fun k=>S' k/\k≠H.next) n H' z rows C:=by
 have hx:eQ H z (.sl r 0 1 z)=some (1,row):=by
  have:=pq (H:=H) (r:=r) (o:=0) (n:=1) (z:=z) (s:=z) hg FC;rw[this,eS,fI ac]
 rcases h with⟨rfl,rfl⟩|⟨q,g,rows,rfl,h1,h2,h3,h4,M⟩
 .exact⟨H.alloc (.cells row 0 true),[],0,append_nil ht hs hb hz V hx Z J sX (by simpa using U),rfl,au,by rw[aD,ah rfl];simp,de _,rfl,fun k hk _=>fq,trivial⟩
 .have hrl:=y3 (fR.len M);have i:rows.length=C.length:=cE.len M;have j:ii false H z (.sl q 0 rows.length z)=H:=by
   unfold ii;simp only[h3,bK];have:Nat.blt (rows.length*z) rows.flatten.length=false:=by
    cases hb:Nat.blt (rows.length*z) rows.flatten.length with
    |false=>rfl
    |true=>rw[jK]at hb;omega
   simp only[iC,el,this,em]
  refine⟨(H.aR q).alloc (.cells (rows.flatten++row) (g-0) true),rows,g-0,?_,i,fR.len M,?_,ac,rfl,fun k hk L=>?_,?_⟩
  .simp only[cX,ht,hs,hb,hz,V,hx,Z,j,J,po,dh,mK,h3,bK,eS,dI,dD];rw[ah ⟨by rw[i];exact Y,by rw[i];exact U,ac,trivial,h4⟩,i]
  .show((H.aR q).alloc _).get (H.aR q).next=_
   rw[aD,ah rfl]
  .rw[aD,af nh,gN,af (fun e=>L 0 rows.length z nQ)]
  .exact M.a0 (fun k I h7=>⟨O k I h7.1,ac⟩) (dA _) fun k I h7=>by rw[aD,af nh,gN,af I.2]
def eC.of{n imm:Nat}{row:qt}(hS:S q)(L:q<H.next)(I:∀x∈rows,x.length=z)(j:row.length=z)(hg:H.get q=some (.cells (rows.flatten++row) imm true))(Y:imm<=rows.flatten.length)(hr:fR (fun k=>S k/\k≠q) n H z rows C)(Z:cn (fun k=>S k/\k≠q) n H row w):eC S n H z (.sl q 0 (C.length+1) z) (C++[w]):=by
 have J:rows.length=C.length:=cE.len hr;exact .inr ⟨q,imm,rows++[row],by rw[fB,J];rfl,hS,L,by rw[hg];simp,QO,hr.append ⟨⟨j,Z⟩,trivial⟩⟩
def FP{n:Nat}{r:Nat}(l:qw)(hS:S r)(hr:r<H.next)(hg:H.get r=some (.cells (l.map .aq) 0 true)):eC S (n+1) H 1 (.sl r 0 l.length 1) (l.map fun s=>[AV.aq s]):=
 .inr ⟨r,0,l.map fun s=>[AV.aq s],by rw[cN],hS,hr,by rw[Ev];exact hg,de _,fR.cY l⟩
structure FnL (pt:Nat->Nat) (b n:Nat) (H:Hp) (f:Fu) (p l bo:AV) (v:qt):Prop where
 len:v.length=5
 one:v.all AV.one=true
 ps:eC (fun q=>pt q=b) n H 1 p (f.params.map fun s=>[AV.aq s])
 ls:eC (fun q=>pt q=b+1) n H 1 l (f.ao.map fun s=>[AV.aq s])
 bo:eC (fun q=>pt q=b+2) n H 17 bo (f.body.map St.cells)
 vw:cn (fun q=>pt q=b+3) n H v f.value.cells
def FQ(nm:qx)(p l Y:AV)(v:qt):qt:=[.aq nm,p,l,Y]++v
structure ProgL (pt:Nat->Nat) (n:Nat) (H:Hp) (ra rf:Nat) (x y:Int) (f g:Fu) (pf lf bf:AV) (vf:qt) (pg lg bg:AV) (vg:qt):Prop where
 ga:H.get ra=some (.cells [.aq [97],.int .i64 x,.aq [98],.int .i64 y] 0 true)
 gf:H.get rf=some (.cells (FQ f.name pf lf bf vf++FQ g.name pg lg bg vg) 0 true)
 ltA:ra<H.next
 ltF:rf<H.next
 lra:pt ra=1
 lrf:pt rf=2
 F:FnL pt 3 n H f pf lf bf vf
 G:FnL pt 7 n H g pg lg bg vg
def wa(M a b c q:Nat):Nat:=if q<=M then 0 else if q=M+1 then 1 else if q=M+7 then 2 else if q=M+3 then 3 else if q=M+4 then 4 else if q=M+5 then 7 else if q=M+6 then 8 else if q<a then 5 else if q<b then 6 else if q<c then 9 else 10
def zfy{a b:Nat}(h:M+8<=q)(h1:q<a):wa M a b c q=5:=FD
def zfz{a b:Nat}(h:M+8<=q)(h1:a<=q)(h2:q<b):wa M a b c q=6:=FD
def zfA{a b:Nat}(h:M+8<=q)(U:a<=q)(h1:b<=q)(h2:q<c):wa M a b c q=9:=FD
def zfB{a b:Nat}(h:M+8<=q)(U:a<=q)(h1:b<=q)(h2:c<=q):wa M a b c q=10:=FD
def Ks{b:Nat}{M:qt}(ht:P.underlying t=some (.slice e))(hs:bE P e=some z)(hb:dt P e=some b)(hz:cS P e=some M)(J:M.length=z)(V:iR P t=true)
 {n:Nat}{v:AV} (h:eC S n H z v C) (i:∀k,k<H.next->S k->S' k) (L:S' H.next) {r imm:Nat}{row:qt} (hg:H.get r=some (.cells row imm true)) (j:row.length=z) (g:row.all AV.one=true)
 (hw:cn (fun k=>S' k/\∀o m O,v≠.sl k o m O) n H row w) (Z:(C.length+1)*b<=dL) (Y:C.length+1<=dL) :
 ∃H',cX P false H t t v (.sl r 0 1 z)=some (.sl H.next 0 (C.length+1) z,H')/\eC S' n H' z (.sl H.next 0 (C.length+1) z) (C++[w])/\H'.next=H.next+1/\(∀k,k<H.next->(∀o m O,v≠.sl k o m O)->H'.get k=H.get k):=by
 obtain⟨H',rows,imm',a1,a2,a3,a4,a5,a6,a7,a8⟩:=zfx (P:=P) ht hs hb hz J V h i L hg j g Z Y;refine⟨H',a1,?_,a6,a7⟩;exact eC.of L ac a3 j a4 a5 a8 (hw.a0 (fun k I U=>⟨U.1,ac⟩) ac fun k I U=>a7 k U I.2)
def Rd{I:Type}{s:List I}(h:s.length=3):∃a b c,s=[a,b,c]:=by
 match s,h with
 |[a,b,c],_=>exact⟨a,b,c,rfl⟩
def Re(H:Hp)(J:cs.length=3)(O:cs.all AV.one=true):et prog H 42 1 [(0,.agg cs)]=some (.sl H.next 0 1 3,H.alloc (.cells cs 0 true)):=by
 obtain⟨a,b,c,rfl⟩:=Rd J;kernel_rfl
theorem Rf(a b c:AV):cI 3 [a,b,c]=some (.agg [a,b,c]):=rfl
def fR.dv{n:Nat}{b:List qt}(h:fR S n H z a b)(I:H.next<=H'.next)(C:∀k,S k->k<H.next->oN (H.get k) (H'.get k)):fR S n H' z a b:=cE.mono (fun x y k=>⟨k.1,k.2.frame (fun _ q=>q) I C⟩) h
def eC.dv{n:Nat}{v:AV}(h:eC S n H z v C)(I:H.next<=H'.next)(O:∀k,S k->k<H.next->oN (H.get k) (H'.get k)):eC S n H' z v C:=by
 rcases h with h|⟨q,V,rows,e,Z,g,m,M,h5⟩
 .exact .inl h
 .have U:=h5.dv I fun k L J=>O k L.1 J;rcases O q Z g with Y|⟨cs,i,j,tip,Y,e2,e3⟩
  .exact .inr ⟨q,V,rows,e,Z,ac,by rw[<-Y];exact m,M,U⟩
  .rw[m]at Y;simp only[aI,HB.cells.injEq]at Y;obtain⟨rfl,rfl,rfl⟩:=Y;exact .inr ⟨q,j,rows,e,Z,ac,e2,e3 M,U⟩
def zfC(op imm:Int):cn S 2 H [.int .i64 op,.int .i64 imm,.ak] (Nd.mk op imm []).cells:=.cons (.int _ _) (.cons (.int _ _) (.cons .ak .nil))
def zfD{kv:AV}{kids:qu}{lo:Nat}(op imm:Int)(j:eL H kv kids lo)(hS:∀k,lo<=k->S k):cn S 2 H [.int .i64 op,.int .i64 imm,kv] (Nd.mk op imm kids).cells:=by
 refine .cons (.int _ _) (.cons (.int _ _) (.cons ?_ .nil));rcases j with⟨rfl,rfl⟩|⟨r,i,rfl,g,m,U,M⟩
 .exact .ak
 .exact Kr kids (hS r U) M g m
structure ey (a b:Bd):Prop where
 l:a.l<+:b.l
 n:a.loops<=b.loops
def ey.refl(a:Bd):ey a a:=⟨vY _,aH _⟩
def tI:=@ey.refl
def ey.trans{a b c:Bd}(h:ey a b)(k:ey b c):ey a c:=⟨h.l.trans k.l,dz h.n k.n⟩
def FR:=@ey.trans
structure Fin (s:Bd):Prop where
 r:∀x∈s.l,NdR x
 l:s.l.length<2^36
 n:s.loops<2^36
def Fin.le{a b:Bd}(h:Fin b)(k:ey a b):Fin a:=⟨fun x z=>h.r x (k.l.subset z),BP k.l.length_le h.l,BP k.n h.n⟩
structure Lv (a b:Bd):Prop where
 le:ey a b
 v:b.vars=a.vars
 n:b.loops=a.loops
def Lv.refl(a:Bd):Lv a a:=⟨tI a,rfl,rfl⟩
def Lv.trans{a b c:Bd}(h:Lv a b)(k:Lv b c):Lv a c:=⟨h.le.trans k.le,k.v.trans h.v,k.n.trans h.n⟩
def Lv.setS{a b:Bd}(h:Lv a b)(x:Int):Lv a {b with ab:=x}:=⟨⟨h.le.l,h.le.n⟩,h.v,h.n⟩
def ey.setS{a b:Bd}(h:ey a b)(x:Int):ey a {b with ab:=x}:=⟨h.l,h.n⟩
def ey.setV{a b:Bd}(h:ey a b)(x:qu):ey a {b with vars:=x}:=⟨h.l,h.n⟩
def dS(n:Nd)(s:Bd):Lv s (ai n s).2:=⟨⟨xX s.l n,aH _⟩,rfl,rfl⟩
def iO(c a b:Int)(s:Bd):Lv s (b9 c a b s).2:=by
 unfold b9;split
 .exact Lv.refl s
 .exact dS _ s
def wc(t v:Int)(s:Bd):Lv s (mh t v s):=(dS _ s).setS _
def wd(t v:Int)(s:Bd):Lv s (gI t v s):=(dS _ s).trans ((dS _ _).trans (wc _ _ _))
def FT(v:Int)(s:Bd):Lv s (nE v s):=(dS _ s).trans ((dS _ _).trans (wc _ _ _))
theorem eO(c:Cx):∀(n:Nat) (x:Ex) (s:Bd) (r:Int×Bd),fE c n x s=some r->Lv s r.2
 |0,_,_,_,h=>by simp[fE]at h
 |n+1,x,s,r,h=>by
  have I:=eO c n;unfold fE at h;split at h
  .cases h;exact dS _ s
  split at h
  .obtain⟨v,_,rfl⟩:=sZ.1 h;exact Lv.refl s
  split at h
  .simp only[jk]at h;obtain⟨k,_,V,i,a,_,rfl⟩:=h;exact(I _ _ _ i).trans ((wd _ _ _).trans (dS _ _))
  split at h
  .simp only[jk]at h;obtain⟨k0,_,bV,U,Z,_,V,i,J,_,Y,g,rfl⟩:=h;have a:=(I _ _ _ U).trans (I _ _ _ i);have b:=(a.setS bV.2.ab).trans (I _ _ _ g);exact(b.trans ((iO _ _ _ _).trans (iO _ _ _ _))).setS _
  .simp only[js]at h;obtain⟨k0,_,bV,U,h⟩:=h;have a:=I _ _ _ U;split at h
   .cases h;exact a.trans (dS _ _)
   .simp only[jk]at h;obtain⟨Z,_,V,i,rfl⟩:=h;have b:=a.trans (I _ _ _ i);refine Lv.trans ?_ (dS _ _);split
    .exact b.trans (FT _ _)
    .exact b
theorem wh(c:Cx)(n:Nat):∀(l:qH) (s:Bd) (r:qu×Bd),pN c n l s=some r->Lv s r.2/\r.1.length=l.length
 |[],s,r,h=>by cases h;exact⟨Lv.refl s,rfl⟩
 |x::l,s,r,h=>by
  unfold pN at h;simp only[jk]at h;obtain⟨V,i,Z,g,rfl⟩:=h;obtain⟨a,b⟩:=wh c n l _ _ g;exact⟨(eO c n _ _ _ i).trans a,by simp[b]⟩
theorem xY(c:Int)(a:qu):∀(k i:Nat) (s r:Bd),oV c a k i s=some r->ey s r/\r.ab=s.ab/\r.vars.length=s.vars.length/\r.loops=s.loops
 |0,i,s,r,h=>by cases h;exact⟨tI s,rfl,rfl,rfl⟩
 |k+1,i,s,r,h=>by
  unfold oV at h;simp only[js]at h;obtain⟨x,_,y,_,h⟩:=h;have e:=xY c a k (i+1) _ _ h;have m:=iO c x y s;have M:(b9 c x y s).2.ab=s.ab:=by unfold b9;split<;>rfl
  refine⟨(m.le.setV _).trans e.1,e.2.1.trans M,?_,e.2.2.2.trans m.n⟩;rw[e.2.2.1,jv,m.v]
theorem uL(base:Int):∀(C:qD) (j:Nat) (s:Bd),ey s (j0 base C j s)/\(j0 base C j s).ab=s.ab/\(j0 base C j s).vars.length=s.vars.length/\(j0 base C j s).loops=s.loops
 |[],j,s=>⟨tI s,rfl,rfl,rfl⟩
 |w::C,j,s=>by
  unfold j0;have e:=uL base C (j+1) { (ai ⟨3,base+j,[]⟩ s).2 with vars:=(ai ⟨3,base+j,[]⟩ s).2.vars.set w (ai ⟨3,base+j,[]⟩ s).1};refine⟨((dS _ s).le.setV _).trans e.1,e.2.1,?_,e.2.2.2⟩;rw[e.2.2.1,jv];rfl
theorem wi(lp c:Int)(old:qu):∀(C:qD) (j:Nat) (s:Bd),ey s (jm lp c old C j s)/\(jm lp c old C j s).ab=s.ab/\(jm lp c old C j s).vars.length=s.vars.length/\(jm lp c old C j s).loops=s.loops
 |[],j,s=>⟨tI s,rfl,rfl,rfl⟩
 |w::C,j,s=>by
  unfold jm;simp only[];have m:=(dS ⟨25,j,[lp]⟩ s).trans (iO c (ai ⟨25,j,[lp]⟩ s).1 (old.getD w 0) (ai ⟨25,j,[lp]⟩ s).2);have M:(b9 c (ai ⟨25,j,[lp]⟩ s).1 (old.getD w 0) (ai ⟨25,j,[lp]⟩ s).2).2.ab=s.ab:=by unfold b9;split<;>rfl
  generalize b9 c (ai ⟨25,j,[lp]⟩ s).1 (old.getD w 0) (ai ⟨25,j,[lp]⟩ s).2=q at *;have e:=wi lp c old C (j+1) {q.2 with vars:=q.2.vars.set w q.1};refine⟨(m.le.setV _).trans e.1,e.2.1.trans M,?_,e.2.2.2.trans m.n⟩;rw[e.2.2.1,jv,m.v]
theorem mH(c:Cx):∀n:Nat,(∀x s r,oW c n x s=some r->ey s r/\r.vars.length=s.vars.length)/\(∀l s r,iH c n l s=some r->ey s r/\r.vars.length=s.vars.length)/\(∀x s r,pO c n x s=some r->ey s r/\r.vars.length=s.vars.length)
 |0=>⟨fun _ _ _ h=>by simp[oW]at h,fun _ _ _ h=>by simp[iH]at h,fun _ _ _ h=>by simp[pO]at h⟩
 |n+1=>by
  obtain⟨I,j,C⟩:=mH c n;refine⟨fun x s r h=>?_,fun l s r h=>?_,fun x s r h=>?_⟩
  .unfold oW at h;split at h
   .simp only[js]at h;obtain⟨v,Z,h⟩:=h;split at h
    .cases h;have a:=eO c n _ _ _ Z;exact⟨a.le.setV _,by rw[jv,a.v]⟩
    .cases h
   split at h
   .simp only[jk]at h;obtain⟨i,Z,v,g,a,_,rfl⟩:=h;have a:=(eO c n _ _ _ Z).trans ((eO c n _ _ _ g).trans ((wd a.len i.1 v.2).trans (dS ⟨28,dm (c.aa.map (·.name)) x.name,[(gI a.len i.1 v.2).ab,i.1,v.1]⟩ _)));exact⟨a.le.setS _,by show List.length (Bd.vars _)=_;rw[a.v]⟩
   split at h
   .simp only[jk]at h;obtain⟨q,Z,a,g,b,V,m,h4,rfl⟩:=h;have Y:=eO c n _ _ _ Z;have U:=j _ _ _ g;have M:=j _ _ _ V;have J:=xY _ _ _ _ _ _ h4;have O:=iO q.1 a.ab m.ab m;have k:ey a b:=⟨M.1.l,M.1.n⟩;refine⟨(Y.le.trans (U.1.trans (k.trans (J.1.trans O.le)))).setS _,?_⟩;show(b9 q.1 a.ab m.ab m).2.vars.length=_;rw[O.v,J.2.2.1,M.2];show q.2.vars.length=_;rw[Y.v]
   split at h
   .exact C _ _ _ h
   split at h
   .simp only[jk]at h;obtain⟨v,Z,rfl⟩:=h;have a:=(eO c n _ _ _ Z).trans (dS ⟨29,0,[v.2.ab,v.1]⟩ v.2);exact⟨a.le.setS _,by show List.length (Bd.vars _)=_;rw[a.v]⟩
   split at h
   .simp only[js]at h;obtain⟨L,Z,h⟩:=h;split at h
    .cases h;have a:=(wh c n _ _ _ Z).1;have b:=a.le.trans (dS ⟨30,dr c.funcs x.to 0,L.2.ab::L.1⟩ L.2).le;refine⟨ey.setV (FR (b.setS _) (dS _ _).le) _,?_⟩;rw[jv];exact kV List.length a.v
    .cases h
   split at h
   .cases h;have a:=(dS ⟨1,0,[]⟩ s).trans (wc (bS (16+x.n)) (ai ⟨1,0,[]⟩ s).1 _);exact⟨a.le,by rw[a.v]⟩
   .cases h;exact⟨tI s,rfl⟩
  .unfold iH at h;cases l with
   |nil=>cases h;exact⟨tI s,rfl⟩
   |cons x l=>
    simp only[js]at h;obtain⟨q,Z,g⟩:=h;have a:=I _ _ _ Z;have b:=j _ _ _ g;exact⟨a.1.trans b.1,b.2.trans a.2⟩
  .unfold pO at h;simp only[jk]at h;obtain⟨q,Z,b,_,t,g,d,V,rfl⟩:=h;have Y:=eO c n _ _ _ Z;have z:ey s q.2:=⟨Y.le.l,dz (dA _) Y.le.n⟩;have p:=dS ⟨3,16*(s.loops:Int),[]⟩ q.2;have U:=uL (16*(s.loops:Int)+1) (iG b) 0 { (ai ⟨3,16*(s.loops:Int),[]⟩ q.2).2 with ab:=(ai ⟨3,16*(s.loops:Int),[]⟩ q.2).1};have M:=j _ _ _ g;have J:=eO c n _ _ _ V;have a1:ey s d.2:=z.trans ((p.le.setS _).trans (U.1.trans (M.1.trans J.le)));refine⟨?_,?_⟩
   .refine FR ?_ (wi _ _ _ _ _ _).1;refine ey.setS ?_ _;refine FR (FR ?_ (dS _ _).le) (iO _ _ _ _).le;refine ey.setV ?_ _;exact a1.trans (dS _ _).le
   .rw[(wi _ _ _ _ _ _).2.2.1];show(b9 _ _ _ _).2.vars.length=_;rw[(iO _ _ _ _).v];show q.2.vars.length=_;rw[Y.v]
structure Qx where
 p:Pr
 b:Nat
 nv:AV
 ns:List b8
def bI(X:Qx)(s:Bd)(Y vv:AV):qt:=[.aE (X.p.aa.map Ar.cells),.aE (X.p.funcs.map Fu.cells),Y,X.nv,vv,.int .i64 s.ab,.int .i64 s.loops]
structure zd1 (X:Qx) (H:Hp) (S:Nat->Prop) (s:Bd) (lv vv:AV):Prop where
 m:H.get X.b=some (.cells (bI X s lv vv) 0 true)
 nm:eI H X.nv X.ns 0
 ag:eC S 2 H 3 lv (s.l.map Nd.cells)
 vars:i7 H vv s.vars 0
 o5:X.b<H.next
 nS:∀k,bc X.nv k->X.b<k/\k<H.next/\¬S k/\¬bc vv k
 sS:∀k,S k->X.b<k/\k<H.next/\¬bc vv k
 vS:∀k,bc vv k->X.b<k/\k<H.next
structure FrQ (X:Qx) (S:Nat->Prop) (vv:AV) (H:Hp) (S':Nat->Prop) (vv':AV) (H':Hp):Prop where
 next:H.next<=H'.next
 get:∀k,k<H.next->k≠X.b->¬S k->¬bc vv k->H'.get k=H.get k
 sub:∀k,S' k->S k\/H.next<=k
 own:∀k,bc vv' k->bc vv k\/H.next<=k
def FrQ.refl(X:Qx)(S:Nat->Prop)(vv:AV)(H:Hp):FrQ X S vv H S vv H:=⟨aH _,fun _ _ _ _ _=>rfl,fun _ h=>.inl h,fun _ h=>.inl h⟩
def fS:=@FrQ.refl
def FrQ.trans{X:Qx}{i:Nat->Prop}{v O I:AV}{Z:Hp}(h:FrQ X S v H S' O H')(k:FrQ X S' O H' i I Z):FrQ X S v H i I Z where
 next:=dz h.next k.next
 get r h1 h2 h4 h5:=by
  rw[k.get r (oD h1 h.next) h2 (fun e=>?_) (fun e=>?_)]
  .exact h.get r h1 h2 h4 h5
  .rcases h.sub r e with e|e
   .exact h4 e
   .omega
  .rcases h.own r e with e|e
   .exact h5 e
   .omega
 sub r e:=by
  rcases k.sub r e with e|e
  .exact h.sub r e
  .exact .inr (dz h.next e)
 own r e:=by
  rcases k.own r e with e|e
  .exact h.own r e
  .exact .inr (dz h.next e)
section
variable {X:Qx} {H H':Hp} {S:Nat -> Prop} {s:Bd} {lv vv:AV}
def zd1.keep(h:zd1 X H S s lv vv)(I:H.next<=H'.next)(hg:∀k,k<H.next->(k<=X.b\/S k\/bc vv k\/bc X.nv k)->H'.get k=H.get k):zd1 X H' S s lv vv:=by
 have C:=h.o5;refine⟨by rw[hg _ C (.inl (aH _))];exact h.m,h.nm.keep I fun k j=>hg k (h.nS k j).2.1 (.inr (.inr (.inr j))),h.ag.keep (fun _ _ h=>h) I fun k j U=>hg k U (.inr (.inl j)),h.vars.keep I fun k j=>hg k (h.vS k j).2 (.inr (.inr (.inl j))),ac,fun k j=>?_,fun k j=>?_,fun k j=>?_⟩
 .have:=h.nS k j;exact⟨this.1,ac,this.2.2⟩
 .have:=h.sS k j;exact⟨this.1,ac,this.2.2⟩
 .have:=h.vS k j;omega
def zd1.alloc(h:zd1 X H S s lv vv)(b:HB):zd1 X (H.alloc b) S s lv vv:=h.keep (dA _) fun k j _=>fq
def FrQ.alloc{bM:Hp}(h:FrQ X O L bM S vv H)(b:HB):FrQ X O L bM S vv (H.alloc b):=h.trans ⟨dA _,fun k j _ _ _=>fq,fun _ h=>.inl h,fun _ h=>.inl h⟩
def zd1.setS(h:zd1 X H S s lv vv)(x:Int):zd1 X (H.set X.b (.cells (bI X {s with ab:=x} lv vv) 0 true)) S {s with ab:=x} lv vv/\FrQ X S vv H S vv (H.set X.b (.cells (bI X {s with ab:=x} lv vv) 0 true)):=by
 have C:=h.o5;have hg:∀k,k≠X.b->(H.set X.b (.cells (bI X {s with ab:=x} lv vv) 0 true)).get k=H.get k:=fun k j=>tF;refine⟨⟨gC,h.nm.keep (aH _) fun k j=>hg k Kl,h.ag.keep (fun _ _ h=>h) (aH _) fun k j U=>hg k Km,h.vars.keep (aH _) fun k j=>hg k (by have:=h.vS k j;omega),C,h.nS,h.sS,h.vS⟩,⟨aH _,fun k _ g _ _=>hg k g,fun _ h=>.inl h,fun _ h=>.inl h⟩⟩
def zd1.cH(h:zd1 X H S s lv vv)(x:Nat):zd1 X (H.set X.b (.cells (bI X {s with loops:=x} lv vv) 0 true)) S {s with loops:=x} lv vv/\FrQ X S vv H S vv (H.set X.b (.cells (bI X {s with loops:=x} lv vv) 0 true)):=by
 have C:=h.o5;have hg:∀k,k≠X.b->(H.set X.b (.cells (bI X {s with loops:=x} lv vv) 0 true)).get k=H.get k:=fun k j=>tF;refine⟨⟨gC,h.nm.keep (aH _) fun k j=>hg k Kl,h.ag.keep (fun _ _ h=>h) (aH _) fun k j U=>hg k Km,h.vars.keep (aH _) fun k j=>hg k (by have:=h.vS k j;omega),C,h.nS,h.sS,h.vS⟩,⟨aH _,fun k _ g _ _=>hg k g,fun _ h=>.inl h,fun _ h=>.inl h⟩⟩
def zd1.setV(h:zd1 X H S s lv vv)(C:i<s.vars.length)(x:Int):∃r,ej prog 26 vv (.int .i64 (i:Int))=some (.ptr r i)/\gL prog H 3 (.ptr r i)=some (.int .i64 (s.vars.getD i 0)) /\
 ∃H',mr prog H 3 (.ptr r i) (.int .i64 x)=some H'/\X.b<r/\r<H.next/\bc vv r/\zd1 X H' S {s with vars:=s.vars.set i x} lv vv/\FrQ X S vv H S vv H'/\(∀k,k≠r->H'.get k=H.get k)/\H'.next=H.next:=by
 rcases h.vars with⟨_,g⟩|⟨r,V,hg,z,hr⟩
 .rw[g]at C;simp at C
 .have J:bc vv r:=⟨_,V⟩;have Z:=(h.vS r J).1;refine⟨r,?_,?_,H.set r (.cells ((s.vars.set i x).map (.int .i64)) 0 true),?_,Z,hr,J,?_,⟨aH _,fun k _ _ _ M=>?_,fun _ h=>.inl h,fun _ h=>.inl h⟩,fun k j=>tF,rfl⟩
  .rw[V,pp underlying26 jg C];simp
  .rw[vr underlying3 rfl hg,eu,cQ,aL C];rfl
  .rw[y5 hg (by rw[cN];exact C),tt]
  .have U:=h.o5;have j:∀k,k≠r->(H.set r (.cells ((s.vars.set i x).map (.int .i64)) 0 true)).get k=H.get k:=fun k j=>tF;refine⟨by rw[j _ ac];exact h.m,h.nm.keep (aH _) fun k Y=>j k fun e=>(h.nS k Y).2.2.2 (by rw[e];exact J),h.ag.keep (fun _ _ h=>h) (aH _) fun k hS _=>j k fun e=>(h.sS k hS).2.2 (by rw[e];exact J),.inr ⟨r,by rw[V,jv],gC,z,hr⟩,U,h.nS,h.sS,h.vS⟩
  .rw[aA,af (fun e=>M (by rw[e];exact J))]
def zd1.swapV(h:zd1 X H S s lv vv){vw:AV}{l:qu}(L:i7 H vw l 0)(h1:∀k,bc vw k->X.b<k/\k<H.next/\¬S k/\¬bc X.nv k):zd1 X (H.set X.b (.cells (bI X {s with vars:=l} lv vw) 0 true)) S {s with vars:=l} lv vw:=by
 have C:=h.o5;have hg:∀k,k≠X.b->(H.set X.b (.cells (bI X {s with vars:=l} lv vw) 0 true)).get k=H.get k:=fun k j=>tF;exact⟨gC,h.nm.keep (aH _) fun k j=>hg k Kl,h.ag.keep (fun _ _ h=>h) (aH _) fun k j U=>hg k Km,L.keep (aH _) fun k j=>hg k (by have:=h1 k j;omega),C,fun k j=>⟨(h.nS k j).1,(h.nS k j).2.1,(h.nS k j).2.2.1,fun e=>(h1 k e).2.2.2 j⟩,fun k j=>⟨(h.sS k j).1,(h.sS k j).2.1,fun e=>(h1 k e).2.2.1 j⟩,fun k j=>⟨(h1 k j).1,(h1 k j).2.1⟩⟩
end
def sI(X:Qx)(S:Nat->Prop)(vv:AV)(H:Hp)(r:Int×Bd)(v:AV)(H':Hp):Prop:=v=.int .i64 r.1/\∃Y I,zd1 X H' Y r.2 I vv/\FrQ X S vv H Y vv H'
def pP(X:Qx)(S:Nat->Prop)(vv:AV)(H:Hp)(r:Bd)(v:AV)(H':Hp):Prop:=∃Y I Z,zd1 X H' Y r I Z/\FrQ X S vv H Y Z H'
def zfE(X:Qx)(S:Nat->Prop)(vv:AV)(H:Hp)(r:Bd)(v:AV)(H':Hp):Prop:=∃Y I,zd1 X H' Y r I vv/\FrQ X S vv H Y vv H'
def zd1.new{X:Qx}{vv:AV}(h:zd1 X H S s Y vv){r:Nat}(hr:H.next<=r):¬S r/\¬bc vv r/\X.b<r:=⟨fun e=>by have:=(h.sS r e).2.1;omega,fun e=>by have:=(h.vS r e).2;omega,by have:=h.o5;omega⟩
def sI.cP{X:Qx}{vv:AV}{bM:Hp}{r:Int×Bd}{v:AV}(h:sI X S vv H r v H')(C:FrQ X O vv bM S vv H):sI X O vv bM r v H':=by
 obtain⟨i,Y,I,g,m⟩:=h;exact⟨i,Y,I,g,C.trans m⟩
def pP.cP{X:Qx}{vv:AV}{bM:Hp}{r:Bd}{v:AV}(h:pP X S vv H r v H')(C:FrQ X O L bM S vv H):pP X O L bM r v H':=by
 obtain⟨Y,I,Z,g,m⟩:=h;exact⟨Y,I,Z,g,C.trans m⟩
def FrQ.box{X:Qx}{Y i:Hp}{I:Nat->Prop}{Z vv m:AV}(V:zd1 X Y S s Z vv){b:HB}(h:FrQ X S vv (Y.alloc b) I m i):i.get Y.next=some b:=by
 have n:=V.new (aH _);rw[h.get _ (cC _) (by have:=n.2.2;omega) n.1 n.2.1,aD,ah rfl]
def gJ:=@FrQ.box
theorem zd1.atV{X:Qx}{vv:AV}(h:zd1 X H S s Y vv)(C:s.vars[i]?=some x):∃r,ej prog 26 vv (.int .i64 (i:Int))=some (.ptr r i)/\gL prog H 3 (.ptr r i)=some (.int .i64 x):=by
 have j:i<s.vars.length:=by
  by_cases c:i<s.vars.length
  .exact c
  .rw[gV ac]at C;cases C
 obtain⟨r,Z,g,_⟩:=h.setV j 0;refine⟨r,Z,?_⟩;rw[g,cQ,C];rfl
structure Lx where
 p:Pr
 b:Nat
 ra:Nat
 rf:Nat
 rt:Nat
 rn:Nat
 ae:List (b8×Int)
 fe:List (b8×Int)
 ne:List (b8×Int)
structure Sm (n:Nat) (H H':Hp):Prop where
 get:∀k,k<n->H'.get k=H.get k
section
variable {X:Lx} {H H':Hp} {S:Nat -> Prop} {s:Bd} {lv vv:AV}
end
namespace tyLoB
end tyLoB
open tyLoB
def zfF(f:FuncId):Bool:=Nat.beq f 131||Nat.beq f 85||Nat.beq f 86||Nat.beq f 87||Nat.beq f 88||Nat.beq f 132||Nat.beq f 133||Nat.beq f 134||Nat.beq f 135||Nat.beq f 174||Nat.beq f 175||Nat.beq f 176||Nat.beq f 201||Nat.beq f 45
structure LowT (tb:qB):Prop where
 pl:∀f,zfF f=true->(∀ar,cM tb f ar=none)/\jt tb f=false
def eL.len'{v:AV}{l:qu}{lo:Nat}(h:eL H v l lo)(H':Hp):ij prog H' 26 v=some (.int .i64 l.length):=by
 rcases h with⟨rfl,rfl⟩|h
 .exact DR underlying26
 .exact h.len
def Rg{kv:AV}{kids:qu}{lo:Nat}(op imm:Int)(j:eL H kv kids lo)(hS:∀k,bc kv k->S k):cn S 2 H [.int .i64 op,.int .i64 imm,kv] (Nd.mk op imm kids).cells:=by
 refine .cons (.int _ _) (.cons (.int _ _) (.cons ?_ .nil));rcases j with⟨rfl,rfl⟩|⟨r,i,rfl,g,m,U,M⟩
 .exact .ak
 .exact Kr kids (hS r ⟨_,rfl⟩) M g m
def zfG{kv:AV}{l:qu}{lo:Nat}(h:eL H kv l lo)(a b:Int):dU prog 58 [(0,.int .i64 a),(1,.int .i64 b),(2,kv)]=some (.agg [.int .i64 a,.int .i64 b,kv]):=by
 rcases h with⟨rfl,rfl⟩|⟨r,i,rfl,_⟩<;>kernel_rfl
theorem eL.one{H:Hp}{kv:AV}{l:qu}{lo:Nat}(h:eL H kv l lo):AV.one kv=true:=by
 rcases h with⟨rfl,rfl⟩|⟨r,i,rfl,_⟩<;>rfl
end
variable{v:AV}{m:Nat}{l:qu}{b:qL}
section
def tyLoC.tyF:=ad @cA (ad @dw (ad @gQ (ad @jA (ad @iL (ad @eZ (ad @fX (ad @lJ (ad @yS (@D4)))))))))
open tyLoC
def Kt{r o n:Nat}(h:bc (.sl r o n z) k):k=r:=by
 obtain⟨m,e⟩:=h;simp only[AV.sl.injEq]at e;exact e.1.symm
def sJ(h:bc .ak k):False:=by
 obtain⟨m,e⟩:=h;cases e
def BS(H:Hp)(a b:Int):et prog H 26 2 [(0,.int .i64 a),(1,.int .i64 b)]=some (.sl H.next 0 2 1,H.alloc (.cells [.int .i64 a,.int .i64 b] 0 true)):=aB
def Rh(H:Hp)(a b c:Int):et prog H 26 3 [(0,.int .i64 a),(1,.int .i64 b),(2,.int .i64 c)]=some (.sl H.next 0 3 1,H.alloc (.cells [.int .i64 a,.int .i64 b,.int .i64 c] 0 true)):=aB
def zr(H:Hp)(a:Int):et prog H 26 1 [(0,.int .i64 a)]=some (.sl H.next 0 1 1,H.alloc (.cells [.int .i64 a] 0 true)):=aB
end
section
namespace tyLoD
end tyLoD
open tyLoD
structure CxOk (X:Lx) (c:Cx):Prop where
 ar:c.aa=X.p.aa
 ae:∀nm,iV X.ae nm=dm (c.aa.map (·.name)) nm
 ne:∀nm,iV X.ne nm=dm c.aK nm
 fe:∀nm,0<=dr c.funcs nm 0->iV X.fe nm=dr c.funcs nm 0
end
section
def tyLoE.tyF:=ad @cA (ad @tj (ad @dw (ad @iL (ad @eZ (ad @fX (ad @fL (ad @fM (ad @fb (ad @gF (ad @yS (ad @D4 (@xl))))))))))))
open tyLoE
def zfH(q:Nat)(H:Hp)(b:qL)(v:AV)(H':Hp):Prop:=H'.get q=some (.cells (b.map .bool) 0 true)/\H.next<=H'.next/\∀k,k<H.next->k≠q->H'.get k=H.get k
structure Smq (n q:Nat) (H H':Hp):Prop where
 get:∀k,k<n->k≠q->H'.get k=H.get k
theorem xZ(V:List b8):∀(n:Nat) (l:qE) (b U:qL),ol V n l b=some U->U.length=b.length
 |0,_,_,_,h=>by simp[ol]at h
 |n+1,[],b,U,h=>by cases h;rfl
 |n+1,x::l,b,U,h=>by
  unfold ol at h;simp only[]at h;split at h
  .cases h
  .simp only[js]at h;obtain⟨C,g,z,m,Z⟩:=h;rw[xZ V n _ _ _ Z,xZ V n _ _ _ m,xZ V n _ _ _ g];split<;>simp
def zt{n:Nat}(O:m<n):ej prog 149 (.sl q 0 n 1) (.int .i64 (m:Int))=some (.ptr q m):=by rw[pp underlying149 D0 O];simp
def FU{r:Nat}(hg:H.get r=some (.cells (b.map .bool) 0 true))(O:m<b.length)(x:Bool):mr prog H 4 (.ptr r m) (.bool x)=some (H.set r (.cells ((b.set m x).map .bool) 0 true)):=by
 rw[zcM hg (by rw[cN];exact O),tt]
end
section
namespace tyLoF6
end tyLoF6
open tyLoF6
structure RowL (S:Nat->Prop) (vv:AV) (lo:Nat) (H:Hp) (av:AV) (l:qu):Prop where
 r:eL H av l lo
 n:∀k,bc av k->¬S k/\¬bc vv k
section
variable {tb:qB} (hG:LowT tb) {X:Lx} {c:Cx} (hX:CxOk X c) {x:St} {s:Bd} {H:Hp} {S:Nat -> Prop} {lv vv:AV}
set_option maxRecDepth 100000 in
include hG hX in
end
end
section
def tyLoG.tyF:=ad @ec (ad @cA (ad @dw (ad @iL (ad @eZ (ad @fX (ad @fL (ad @fM (ad @fb (ad @gF (ad @yS (@D4)))))))))))
open tyLoG
structure RowZ (S:Nat->Prop) (vv:AV) (lo:Nat) (H:Hp) (av:AV) (l:qu):Prop where
 r:i7 H av l lo
 n:∀k,bc av k->¬S k/\¬bc vv k
def i7.lt{lo:Nat}(h:i7 H v l lo)(j:bc v k):lo<=k/\k<H.next:=h.n.lt j
def i7.lo{lo lo':Nat}(h:i7 H v l lo)(J:∀k,bc v k->lo'<=k):i7 H v l lo':=by
 rcases h with h|⟨r,i,g,m,U⟩
 .exact .inl h
 .exact .inr ⟨r,i,g,J r ⟨_,i⟩,U⟩
def i7.one{H:Hp}{v:AV}{l:qu}{lo:Nat}(h:i7 H v l lo):AV.one v=true/\v.cells=[v]:=by
 rcases h with⟨rfl,_⟩|⟨r,rfl,_⟩<;>exact⟨rfl,rfl⟩
def RowZ.at{vv:AV}{lo:Nat}(h:RowZ S vv lo H L l)(C:l[i]?=some x):∃r,ej prog 26 L (.int .i64 (i:Int))=some (.ptr r i)/\gL prog H 3 (.ptr r i)=some (.int .i64 x)/\bc L r:=by
 have j:i<l.length:=by
  by_cases c:i<l.length
  .exact c
  .rw[gV ac]at C;cases C
 rcases h.r with⟨_,rfl⟩|g
 .simp at j
 .obtain⟨r,m,U⟩:=g.b.at j;rw[aL j]at C;simp only[aI]at C;rw[C]at U;refine⟨r,m,U,?_⟩;obtain⟨q,e,_⟩:=g;subst e;rw[pp underlying26 jg j]at m;simp only[aI,AV.ptr.injEq]at m;exact⟨_,by rw[m.1]⟩
section
variable {tb:qB} (hG:LowT tb) {X:Lx} {c:Cx} (hX:CxOk X c) {x:St} {s:Bd} {H:Hp} {S:Nat -> Prop} {lv vv:AV}
set_option maxRecDepth 100000 in
include hG hX in
end
end
variable{r:Nat}
section
def tyLoH.tyF:=ad @ec (ad @cA (ad @tj (ad @dw (ad @iL (ad @eZ (ad @fX (ad @fL (ad @fM (ad @fb (ad @gF (ad @yS (ad @D4 (ad @xl (ad @zr (@BS)))))))))))))))
open tyLoH
abbrev x3(l:qD):qu:=l.map fun(i:Nat)=>(i:Int)
theorem Ku{imm:Nat}(hg:H.get r=some (.cells (b.map .bool) imm true))(O:m<b.length):gL prog H 4 (.ptr r m)=some (.bool (b.getD m false)):=by
 rw[vr underlying4 rfl hg,eu,cQ,aL O];rfl
def x4(b:qL)(i:Nat):qD:=(List.range i).filter fun i=>b.getD i false
theorem zfI(b:qL)(i:Nat):x4 b (i+1)=x4 b i++(if b.getD i false=true then [i]else []):=by
 unfold x4;rw[List.range_succ,List.filter_append]
 congr 1
 by_cases h:b.getD i false=true
 .rw[ah h];simp only[List.filter_cons,h,dh,List.filter_nil]
 .rw[af h];simp only[List.filter_cons,h,List.filter_nil];rfl
def Kv(h:i∈iG b):i<b.length:=by
 unfold iG at h;exact lF.1 (yI.1 h).1
def Rk(b:qL)(i:Nat):(x4 b i).length<=i:=by
 have:=List.length_filter_le (fun i=>b.getD i false) (List.range i);rw[List.length_range]at this;exact this
def RowL.at{vv:AV}{lo:Nat}(h:RowL S vv lo H L l)(C:l[i]?=some x):∃r,ej prog 26 L (.int .i64 (i:Int))=some (.ptr r i)/\gL prog H 3 (.ptr r i)=some (.int .i64 x):=by
 have j:i<l.length:=by
  by_cases c:i<l.length
  .exact c
  .rw[gV ac]at C;cases C
 rcases h.r with⟨_,rfl⟩|g
 .simp at j
 .obtain⟨r,m,U⟩:=g.at j;rw[aL j]at C;simp only[aI]at C;rw[C]at U;exact⟨r,m,U⟩
def Rl{L j:Nat}(M:L<2^36)(Z:j<2^36):IntKind.wrap .i64 (16*(L:Int))=16*(L:Int)/\IntKind.wrap .i64 (16*(L:Int)+j)=16*(L:Int)+j/\IntKind.wrap .i64 (16*(L:Int)+j+1)=16*(L:Int)+1+j:=by
 refine⟨eX ac ac,eX ac ac,?_⟩;rw[eX ac ac];omega
theorem Rm(base:Int)(w:Nat)(C:qD)(j:Nat)(s:Bd):j0 base (w::C) j s=j0 base C (j+1) { (ai ⟨3,base+j,[]⟩ s).2 with vars:=(ai ⟨3,base+j,[]⟩ s).2.vars.set w (ai ⟨3,base+j,[]⟩ s).1}:=rfl
theorem Rn(lp c:Int)(old:qu)(w:Nat)(C:qD)(j:Nat)(s:Bd):jm lp c old (w::C) j s=jm lp c old C (j+1) { (b9 c (ai ⟨25,j,[lp]⟩ s).1 (old.getD w 0) (ai ⟨25,j,[lp]⟩ s).2).2 with vars:=(b9 c (ai ⟨25,j,[lp]⟩ s).1 (old.getD w 0) (ai ⟨25,j,[lp]⟩ s).2).2.vars.set w (b9 c (ai ⟨25,j,[lp]⟩ s).1 (old.getD w 0) (ai ⟨25,j,[lp]⟩ s).2).1}:=rfl
def zfJ(b:qL):(iG b).Nodup:=List.nodup_range.filter _
section
variable {tb:qB} (hG:LowT tb) {X:Lx} {c:Cx} (hX:CxOk X c) {x:St} {s:Bd} {H:Hp} {S:Nat -> Prop} {lv vv:AV}
set_option maxRecDepth 100000 in
include hG hX in
end
end
section
namespace tyLoJ
end tyLoJ
open tyLoJ
theorem x5:∀(n k:Nat) (s:Bd),ey s (gg n k s)/\(gg n k s).vars.length=s.vars.length+n
 |0,k,s=>⟨tI s,rfl⟩
 |n+1,k,s=>by
  have e:=x5 n (k+1) { (ai ⟨2,k,[]⟩ s).2 with vars:=(ai ⟨2,k,[]⟩ s).2.vars++[(ai ⟨2,k,[]⟩ s).1] };refine⟨(((dS ⟨2,k,[]⟩ s).le.setV _)).trans e.1,?_⟩;show(gg n (k+1) _).vars.length=_;rw[e.2,fB];show s.vars.length+1+n=_;omega
theorem x6:∀(n:Nat) (s:Bd),ey s (jn n s)/\(jn n s).vars.length=s.vars.length+n
 |0,s=>⟨tI s,rfl⟩
 |n+1,s=>by
  have e:=x6 n { (ai ⟨1,0,[]⟩ s).2 with vars:=(ai ⟨1,0,[]⟩ s).2.vars++[(ai ⟨1,0,[]⟩ s).1] };refine⟨(((dS ⟨1,0,[]⟩ s).le.setV _)).trans e.1,?_⟩;show(jn n _).vars.length=_;rw[e.2,fB];show s.vars.length+1+n=_;omega
end
section
def tyW4a.tyF:=ad @cA (ad @dw (ad @fL (ad @fM (ad @fb (ad @gF (@ec))))))
open tyW4a
noncomputable def Ro:{c:SC // aC 28 (f119.body.getD .skip)=c}:=by
 refine⟨?_,?_⟩;rotate_left
 .simp only[f119,bz,aC,bw,bt,bA,bB,Nat.blt,Nat.ble];rfl
noncomputable def Rp:{c:SC // aC 39 (f113.body.getD .skip)=c}:=by
 refine⟨?_,?_⟩;rotate_left
 .simp only[f113,bz,aC,bw,bt,bA,bB,Nat.blt,Nat.ble];rfl
def zu(cfg:Cfg)(base:Nat)(I:Hp->Prop)(g:FuncId)(cap:qt)(q:Ex->Int->Bool):Prop:=
 ∀(x:Ex) (d:Int) (H:Hp),x.sz<2^60->base<=H.next->I H->aM prog cfg g (.agg x.cells::.int .i64 d::cap) H fun v H'=>v=.bool (q x d)/\FrB base H H'/\I H'
def wj(base:Nat)(I:Hp->Prop):Prop:=∀H H',I H->ju base H H'->I H'
abbrev qk:HB:=.cells [.int .i64 0,.int .i64 0,.aq [],.int .i64 0,.ak] 0 true
theorem zw{cfg:Cfg}(hw:zd0 cfg 119){base:Nat}{I:Hp->Prop}(hI:wj base I){g:FuncId}{cap:qt}{q:Ex->Int->Bool}(hq:zu cfg base I g cap q):
 ∀(n:Nat) (x:Ex),x.sz<n->∀(d:Int) (H:Hp),x.sz<2^60->base<=H.next->I H->aM prog cfg 119 [.agg x.cells,.int .i64 d,.bm g cap] H fun v H'=>v=.bool (nW q x d)/\FrB base H H'/\I H'
 |0,x,hx,_,_,_,_,_=>by omega
 |n+1,x,hx,d,H,hz,hbase,hi=>by
  refine a0 (M:=28) (rs:=[.tmp 6]) (hw.call _) hw.aG hw.az func119 rfl rfl Ro.2 rfl ?_;dsimp only[Ro,aW,Nat.reduceAdd];refine dY fun K hK=>?_;refine bb rfl bi bj ?_;simp only[Ec];have O:FrB base H (H.alloc (.cells x.cells 0 true)):=(jS _ _).alloc _;refine aY ?_ (hq x d (H.alloc (.cells x.cells 0 true)) hz dG (hI _ _ hi ((sq _ _).alloc hbase _)));rintro v H1 ⟨rfl,L,Y⟩;have hg1:H1.get H.next=some (.cells x.cells 0 true):=by
   rw[L.get _ hbase (by simp[aZ]),aD,ah rfl]
  have hn1:H.next<H1.next:=by have:=L.next;simp only[aZ]at this;omega
  dsimp only[aU];refine nM (fun hb hbp=>?_) (fun hb hbp=>?_)
  .all_goals refine qq ?_
   refine⟨?_,O.trans L,Y⟩;rw[Jh];simp_all
  have hl:x.aj.length<2^60:=by have:=rE x.aj;have:=x.aT;omega
  refine sm (fun i E Z=>jQ q x.aj (bS (d+1))=jQ q (x.aj.drop i) (bS (d+1))/\E.at 1=.int .i64 d/\E.at 2=.bm g cap/\E.at 15=.aE (x.aj.map Ex.cells)/\E.at 16=.int .i64 x.aj.length/\E.at 17=.int .i64 i/\FrB base H Z/\I Z) x.aj.length ?_ ?_
  .rintro i E Z hi2 ⟨hc,h1,h2,h15,h16,h17,V,C⟩;repeat' (first
    |(apply aj ?_;clear hK K)|apply aO ?_|(apply bp ?_ ?_<;>(intro hb hbp;try(cases hb;done)))|(apply ak fun K hK=>?_)|fail)
   .have j:i<x.aj.length:=by simpa using hb
    have hgx:x.aj[i]?=some x.aj[i]:=aL j;refine dY fun K hK=>?_;have hxm:x.aj[i]∈x.aj:=cB j;have hsm:=py hxm;have hsx:=x.aT;have z:FrB base Z ((Z.alloc qk).set Z.next (.cells x.aj[i].cells 0 true)):=((jS _ _).alloc _).set (.inl (aH _)) _;have m:base<=Z.next:=dz hbase (V.next)
    have hlow:ju base Z ((Z.alloc qk).set Z.next (.cells x.aj[i].cells 0 true)):=((sq _ _).alloc m _).set m _;refine qd ?_;refine aY ?_ (zw hw hI hq n x.aj[i] ac _ _ ac FE (hI _ _ C hlow));rintro v H3 ⟨rfl,J,U⟩;dsimp only[aU];refine nM (fun hb hbp=>?_) (fun hb hbp=>?_)
    .all_goals refine qq ?_
     refine⟨?_,(V.trans z).trans J,U⟩;rw[Jh,hc,Eg q j];simp_all
    .refine⟨j,?_,eE,eE,eE,eE,?_,(V.trans z).trans J,U⟩
     .rw[hc,Eg q j];simp_all
     .simp only[kW,Nat.reduceBEq,ji,iT (show i<2^62 by omega)]
   .have hi3:i=x.aj.length:=by simp at hb;omega
    all_goals refine qq ?_
    refine⟨?_,V,C⟩;rw[Jh,hc,hi3];simp_all[jQ]
  .exact⟨rfl,eE,eE,eE,eE,eE,O.trans L,Y⟩
end
section
def tyW4b.tyF:=ad @cA (ad @dw (ad @fL (ad @fM (ad @fb (@gF)))))
open tyW4b
def BT{J:Type}(cfg:Cfg)(base:Nat)(I:J->Hp->Prop)(g:FuncId)(cap:qt)(q:St->Int->J->Bool×J):Prop:=
 ∀(x:St) (d:Int) (s:J) (H:Hp),x.sz<2^60->base<=H.next->I s H->aM prog cfg g (.agg x.cells::.int .i64 d::cap) H fun v H'=>v=.bool (q x d s).1/\FrB base H H'/\I (q x d s).2 H'
theorem zx{cfg:Cfg}(hw:zd0 cfg 113){σ:Type}{base:Nat}{I:σ->Hp->Prop}(hI:∀s,wj base (I s)){g:FuncId}{cap:qt}{q:St->Int->σ->Bool×σ}(hq:BT cfg base I g cap q):
 ∀(n:Nat) (l:qE),bH l<n->∀(d:Int) (s:σ) (H:Hp),bH l<2^60->base<=H.next->I s H->aM prog cfg 113 [.aE (l.map St.cells),.int .i64 d,.bm g cap] H fun v H'=>v=.bool (fC q l d s).1/\FrB base H H'/\I (fC q l d s).2 H'
 |0,l,hx,_,_,_,_,_,_=>by omega
 |n+1,l,hx,d,s,H,hz,hbase,hi=>by
  refine a0 (M:=39) (rs:=[.tmp 6]) (hw.call _) hw.aG hw.az func113 rfl rfl Rp.2 rfl ?_;dsimp only[Rp,aW,Nat.reduceAdd];refine eP ?_;have hl:l.length<2^60:=by have:=vA l;omega
  refine sm (fun i E Z=>∃m,fC q l d s=fC q (l.drop i) d m/\E.at 1=.int .i64 d/\E.at 2=.bm g cap/\E.at 9=.aE (l.map St.cells)/\E.at 10=.int .i64 l.length/\E.at 11=.int .i64 i/\FrB base H Z/\I m Z) l.length ?_ ?_
  .rintro i E Z hi2 ⟨m,hc,h1,h2,h9,h10,h11,V,hI2⟩;repeat' (first
    |(apply aj ?_;clear hK K)|apply aO ?_|(apply bp ?_ ?_<;>(intro hb hbp;try(cases hb;done)))|(apply ak fun K hK=>?_)|fail)
   .have j:i<l.length:=by simpa using hb
    have hgx:l[i]?=some l[i]:=aL j;refine dY fun K hK=>?_;have hxm:l[i]∈l:=cB j;have hsm:=rF hxm;have hsx:=l[i].aT;generalize hx0:l[i]=x at *;have C:base<=Z.next:=dz hbase V.next
    generalize U:(Z.alloc _).set Z.next _=H3
    have O:FrB base Z H3:=by rw[<-U];exact((jS _ _).alloc _).set (.inl (aH _)) _
    have hlow:ju base Z H3:=by rw[<-U];exact((sq _ _).alloc C _).set C _
    have hn3:Z.next<H3.next:=by rw[<-U];simp only[aZ,br];omega
    have hg3:H3.get Z.next=some (.cells x.cells 0 true):=by rw[<-U,aA,ah rfl]
    have hI3:=hI _ _ _ hI2 hlow;have hwd:=zcl q j d m;rw[hx0,zck]at hwd;rw[hwd]at hc;refine bb rfl bi bj ?_;simp only[Ec];refine aY ?_ (hq x d m H3 ac ac hI3);rintro v H4 ⟨rfl,J,hI4⟩;generalize hq1:q x d m=r1 at *;obtain⟨ok1,s3⟩:=r1;have hg4:H4.get Z.next=some (.cells x.cells 0 true):=by rw[J.get _ C hn3];exact hg3
    have hn4:Z.next<H4.next:=oD hn3 J.next
    dsimp only[aU];cases ok1 with
    |false=>
     repeat' (first
      |(apply aj ?_;clear hK K)|apply aO ?_|(apply cD ?_ ?_<;>(intro hg hgp;try(cases hg;done)))|(apply bp ?_ ?_<;>(intro hb hbp;try(cases hb;done)))|(apply ak fun K hK=>?_)|fail)
     all_goals refine qq ?_
     dsimp only at hc;rw[hc];exact⟨rfl,(V.trans O).trans J,hI4⟩
    |true=>
     repeat' (first
      |apply Rx.o ?_|(apply cD ?_ ?_<;>(intro hg hgp;try(cases hg;done)))|fail)
     refine qd ?_;have hrec:=zx hw hI hq n x.a9 ac (bS (d+1)) s3 H4 ac ac hI4;refine aY ?_ hrec;rintro v H5 ⟨rfl,Y,hI5⟩;generalize L:fC q x.a9 (bS (d+1)) s3=r2 at *;obtain⟨ok2,s4⟩:=r2;have hg5:H5.get Z.next=some (.cells x.cells 0 true):=by rw[Y.get _ C hn4];exact hg4
     have hn5:Z.next<H5.next:=oD hn4 Y.next
     dsimp only[aU];cases ok2 with
     |false=>
      repeat' (first
       |(apply aj ?_;clear hK K)|apply aO ?_|(apply cD ?_ ?_<;>(intro hg hgp;try(cases hg;done)))|(apply bp ?_ ?_<;>(intro hb hbp;try(cases hb;done)))|(apply ak fun K hK=>?_)|fail)
      all_goals refine qq ?_
      simp only[L]at hc;rw[hc];exact⟨rfl,((V.trans O).trans J).trans Y,hI5⟩
     |true=>
      repeat' (first
       |apply Rx.o ?_|(apply cD ?_ ?_<;>(intro hg hgp;try(cases hg;done)))|fail)
      refine qd ?_;have z:=zx hw hI hq n x.bl ac (bS (d+1)) s4 H5 ac ac hI5;refine aY ?_ z;rintro v H6 ⟨rfl,hf6,hI6⟩;generalize hq3:fC q x.bl (bS (d+1)) s4=r3 at *;obtain⟨ok3,s5⟩:=r3;dsimp only[aU];have hf7:FrB base H H6:=(((V.trans O).trans J).trans Y).trans hf6;cases ok3 with
      |false=>
       repeat' (first
        |(apply aj ?_;clear hK K)|apply aO ?_|(apply cD ?_ ?_<;>(intro hg hgp;try(cases hg;done)))|(apply bp ?_ ?_<;>(intro hb hbp;try(cases hb;done)))|(apply ak fun K hK=>?_)|fail)
       all_goals refine qq ?_
       simp only[L,hq3]at hc;rw[hc];exact⟨rfl,hf7,hI6⟩
      |true=>
       repeat' (first
        |(apply aj ?_;clear hK K)|apply aO ?_|(apply cD ?_ ?_<;>(intro hg hgp;try(cases hg;done)))|(apply bp ?_ ?_<;>(intro hb hbp;try(cases hb;done)))|(apply ak fun K hK=>?_)|fail)
       refine⟨j,s5,?_,eE,eE,eE,eE,?_,hf7,hI6⟩
       .simp only[L,hq3]at hc;exact hc
       .simp only[kW,Nat.reduceBEq,ji,iT (show i<2^62 by omega)]
   .have hi3:i=l.length:=by simp at hb;omega
    all_goals refine qq ?_
    rw[hc,hi3];simp only[gH,fC];exact⟨trivial,V,hI2⟩
  .exact⟨s,rfl,eE,eE,eE,eE,eE,jS _ _,hi⟩
end
section
def tyW4c.tyF:=ad @cA (ad @dw (ad @fL (ad @fM (ad @fb (ad @gF (ad @ec (ad @fU (ad @nf (@NY)))))))))
open tyW4c
noncomputable def Rq:{c:SC // aC 24 (f114.body.getD .skip)=c}:=by
 refine⟨?_,?_⟩;rotate_left
 .simp only[f114,bz,aC,bw,bt,bA,bB,Nat.blt,Nat.ble];rfl
noncomputable def Rr:{c:SC // aC 7 (f116.body.getD .skip)=c}:=by
 refine⟨?_,?_⟩;rotate_left
 .simp only[f116,bz,aC,bw,bt,bA,bB,Nat.blt,Nat.ble];rfl
noncomputable def Rt:{c:SC // aC 32 (f161.body.getD .skip)=c}:=by
 refine⟨?_,?_⟩;rotate_left
 .simp only[f161,bz,aC,bw,bt,bA,bB,Nat.blt,Nat.ble];rfl
noncomputable def Ru:{c:SC // aC 15 (f115.body.getD .skip)=c}:=by
 refine⟨?_,?_⟩;rotate_left
 .simp only[f115,bz,aC,bw,bt,bA,bB,Nat.blt,Nat.ble];rfl
theorem zfK(L:zd0 cfg 114){base rn rl:Nat}(I:rn<base)(J:rl<base)(m:rn≠rl)(j:Hp):
 BT cfg base (fun(s:Int×Int) H=>H.get rn=some (.cells [.int .i64 s.1] 0 true)/\H.get rl=some (.cells [.int .i64 s.2] 0 true)/\∀r,r<base->r≠rn->r≠rl->H.get r=j.get r) 114 [.ptr rn 0,.ptr rl 0] pz:=by
 intro x d s H O Z ⟨V,U,Y⟩;have C:(rn == H.next)=false:=bW;have i:(rl == H.next)=false:=bW;have g:(rl == rn)=false:=bW;have e4:(rn == rl)=false:=bW;have e5:(H.next == rn)=false:=bW;have e6:(H.next == rl)=false:=bW;refine a0 (M:=24) (rs:=[.tmp 6]) (L.call _) L.aG L.az func114 rfl rfl Rq.2 rfl ?_;dsimp only[Rq,aW,Nat.reduceAdd];repeat' (first
  |(apply aj ?_;clear hK K)|apply aO ?_|(apply cD ?_ ?_<;>(intro hg hgp;try(cases hg;done)))|(apply bp ?_ ?_<;>(intro hb hbp;try(cases hb;done)))|(apply ak fun K hK=>?_)|fail)
 all_goals refine qq ?_
 all_goals (refine⟨?_,?_,?_,?_,?_⟩)
 all_goals first
  |(intro r q1 q2 z;simp only[aA,aD,q2,z,show ¬r=H.next by omega,dD];exact Y r q1 q2 z)
  |exact(((jS _ _).alloc _).set (.inr I) _).set (.inr J) _
  |exact((jS _ _).alloc _).set (.inr I) _
  |(simp only[get_set,xd,pz, *,ji,rz,FG,pG,dh,dD];done)
  |(simp_all[pz,get_set,xd];done)
  |skip
def zfL(L:zd0 cfg 116){base:Nat}(Y:wj base I):zu cfg base I 116 [] ut:=by
 intro x d H V Z C;refine a0 (M:=7) (rs:=[.tmp 4]) (L.call _) L.aG L.az func116 rfl rfl Rr.2 rfl ?_;dsimp only[Rr,aW,Nat.reduceAdd];refine Hu ?_;all_goals refine qq ?_
 exact⟨rfl,(jS _ _).alloc _,Y _ _ C ((sq _ _).alloc Z _)⟩
theorem zfM(hw:zd0 cfg 161)(hwe:zd0 cfg 119){base L:Nat}(Y:base<=L)(hI:wj base I){cap:qt}{q:Ex->Int->Bool}(hq:zu cfg base I g cap q)
 {Z:Nat} (hr1:base<=Z) (hr2:Z<L) (H1:Hp) :
 BT cfg L (fun(_:Unit) H=>I H/\H.get Z=some (.cells [.bm g cap] 0 true)/\∀r,base<=r->r<L->H.get r=H1.get r) 161 [.ptr Z 0] (rG q):=by
 intro x d s H hz hbase ⟨hi,hi3,hi1⟩;have hsz:=x.aT;have e1:(Z == H.next)=false:=bW;have e2:(H.next == Z)=false:=bW;refine a0 (M:=32) (rs:=[.tmp 5]) (hw.call _) hw.aG hw.az func161 rfl rfl Rt.2 rfl ?_;dsimp only[Rt,aW,Nat.reduceAdd];refine dY fun K hK=>?_;have hIa:=hI _ _ hi ((sq base H).alloc (dz Y hbase) (.cells x.cells 0 true));refine qd ?_;refine aY ?_ (zw hwe hI hq (x.a6.sz+1) x.a6 ac 0 _ ac dG hIa);rintro v C ⟨rfl,m,hi2⟩;have hn2:H.next<C.next:=by have:=m.next;simp only[aZ]at this;omega
 have hg2:C.get H.next=some (.cells x.cells 0 true):=by rw[m.get _ ac (by simp[aZ]),aD,ah rfl]
 have hr3:C.get Z=some (.cells [.bm g cap] 0 true):=by rw[m.get _ hr1 dG,aD,af ac];exact hi3
 have hF2:FrB base H C:=((jS _ _).alloc _).trans m;have z:∀r,base<=r->r<L->C.get r=H1.get r:=fun r h1 h2=>by rw[hF2.get r h1 ac];exact hi1 r h1 h2
 dsimp only[aU];repeat' (first
  |(apply aj ?_;clear hK K)|apply aO ?_|(apply cD ?_ ?_<;>(intro hg hgp;try(cases hg;done)))|(apply bp ?_ ?_<;>(intro hb hbp;try(cases hb;done)))|(apply ak fun K hK=>?_)|fail)
 .refine qd ?_;refine aY ?_ (zw hwe hI hq (x.value.sz+1) x.value ac 0 _ ac ac hi2);rintro v H3 ⟨rfl,J,hi3'⟩;have hn3:H.next<H3.next:=oD hn2 J.next
  have hg3:H3.get H.next=some (.cells x.cells 0 true):=by rw[J.get _ ac hn2];exact hg2
  have hr3b:H3.get Z=some (.cells [.bm g cap] 0 true):=by rw[J.get _ hr1 ac];exact hr3
  have hF3:FrB base H H3:=hF2.trans J;have V:∀r,base<=r->r<L->H3.get r=H1.get r:=fun r h1 h2=>by rw[J.get r h1 ac];exact z r h1 h2
  dsimp only[aU];repeat' (first
   |(apply aj ?_;clear hK K)|apply aO ?_|(apply cD ?_ ?_<;>(intro hg hgp;try(cases hg;done)))|(apply bp ?_ ?_<;>(intro hb hbp;try(cases hb;done)))|(apply ak fun K hK=>?_)|fail)
  .all_goals refine qq ?_
   exact⟨by simp_all[rG],hF3.cD Y,hi3',hr3b,V⟩
  have hl:x.args.length<2^60:=by have:=rE x.args;omega
  refine sm (fun i E C=>jQ q x.args 0=jQ q (x.args.drop i) 0/\E.at 2=.ptr Z 0/\E.at 21=.aE (x.args.map Ex.cells)/\E.at 22=.int .i64 x.args.length/\E.at 23=.int .i64 i/\FrB base H C/\I C/\C.get Z=some (.cells [.bm g cap] 0 true)/\(∀r,base<=r->r<L->C.get r=H1.get r)) x.args.length ?_ ?_
  .rintro i E H4 hi2 ⟨hc,h2,h21,h22,h23,hf4,hI4,hr4,j⟩;have hn4:=hf4.next
   have e3:(Z == H4.next)=false:=bW;repeat' (first
    |(apply aj ?_;clear hK K)|apply aO ?_|(apply bp ?_ ?_<;>(intro hb hbp;try(cases hb;done)))|(apply ak fun K hK=>?_)|fail)
   .have U:i<x.args.length:=by simpa using hb
    have hgx:x.args[i]?=some x.args[i]:=aL U;refine dY fun K hK=>?_;have hxm:x.args[i]∈x.args:=cB U;have hsm:=py hxm;have hb4:base<=H4.next:=ac
    generalize hH5:(H4.alloc _).set H4.next _=H5
    have hf5:FrB base H4 H5:=by rw[<-hH5];exact((jS _ _).alloc _).set (.inl (aH _)) _
    have hlow5:ju base H4 H5:=by rw[<-hH5];exact((sq _ _).alloc hb4 _).set hb4 _
    have hn5:H4.next<H5.next:=by rw[<-hH5];simp only[aZ,br];omega
    refine qd ?_;refine aY ?_ (zw hwe hI hq (x.args[i].sz+1) x.args[i] ac 0 _ ac ac (hI _ _ hI4 hlow5));rintro v H6 ⟨rfl,hf6,hi6⟩;have hF6:FrB base H4 H6:=hf5.trans hf6;have hr6:H6.get Z=some (.cells [.bm g cap] 0 true):=by rw[hF6.get _ hr1 ac];exact hr4
    have O:∀r,base<=r->r<L->H6.get r=H1.get r:=fun r h1 h2=>by rw[hF6.get r h1 ac];exact j r h1 h2
    dsimp only[aU];refine nM (fun hb hbp=>?_) (fun hb hbp=>?_)
    .all_goals refine qq ?_
     refine⟨?_,(hf4.trans hF6).cD Y,hi6,hr6,O⟩;have:=Eg q U 0;simp_all[rG]
    .refine⟨U,?_,eE,eE,eE,?_,hf4.trans hF6,hi6,hr6,O⟩
     .rw[hc,Eg q U];simp_all
     .simp only[kW,Nat.reduceBEq,ji,iT (show i<2^62 by omega)]
   .have hi3:i=x.args.length:=by simp at hb;omega
    all_goals refine qq ?_
    refine⟨?_,hf4.cD Y,hI4,hr4,j⟩;rw[hi3]at hc;simp_all[rG,jQ]
  .exact⟨rfl,eE,eE,eE,eE,hF3,hi3',hr3b,V⟩
 .all_goals refine qq ?_
  exact⟨by simp_all[rG],hF2.cD Y,hi2,hr3,z⟩
end
section
def tyW4d.tyF:=ad @ec (ad @cA (ad @dw (ad @fU (ad @fL (ad @fM (ad @fb (ad @nf (ad @gF (@NY)))))))))
open tyW4d
structure zf6 (cfg:Cfg):Prop where
 we:zd0 cfg 119
 ws:zd0 cfg 113
 wx:zd0 cfg 115
 wx1:zd0 cfg 161
theorem Rv(O:zf6 cfg){base:Nat}(j:wj base I){cap:qt}{q:Ex->Int->Bool}(hq:zu cfg base I g cap q)(x:Fu)(H:Hp)(hz:x.sz<2^60)(Z:base<=H.next)(hi:I H):
 aM prog cfg 115 [.agg x.cells,.bm g cap] H fun v H'=>v=.bool (rH q x)/\FrB base H H'/\I H':=by
 have hw:=O.wx;have hsz:x.sz=1+x.name.length+dB x.params+dB x.ao+bH x.body+x.value.sz:=rfl;refine a0 (M:=15) (rs:=[.tmp 4]) (hw.call _) hw.aG hw.az func115 rfl rfl Ru.2 rfl ?_;dsimp only[Ru,aW,Nat.reduceAdd];refine Ww fun K hK=>?_;generalize Y:(H.alloc (.cells x.cells 0 true)).alloc (.cells [.bm g cap] 0 true)=H1;have z:FrB base H H1:=by rw[<-Y];exact((jS _ _).alloc _).alloc _
 have hl1:ju base H H1:=by rw[<-Y];exact((sq _ _).alloc Z _).alloc dG _
 have hn1:H1.next=H.next+2:=zp
 have hga:H1.get H.next=some (.cells x.cells 0 true):=by rw[<-Y,aD,af (by simp[aZ]),aD,ah rfl]
 have hgb:H1.get (H.next+1)=some (.cells [.bm g cap] 0 true):=by rw[<-Y,aD,ah (by simp[aZ])]
 refine qd ?_;refine aY ?_ (zw O.we j hq (x.value.sz+1) x.value ac 0 H1 ac ac (j _ _ hi hl1));rintro v i ⟨rfl,V,L⟩;have hn2:=V.next
 have hga2:i.get H.next=some (.cells x.cells 0 true):=by rw[V.get _ Z ac];exact hga
 have m:i.get (H.next+1)=some (.cells [.bm g cap] 0 true):=by rw[V.get _ ac ac];exact hgb
 dsimp only[aU];repeat' (first
  |(apply aj ?_;clear hK K)|apply aO ?_|(apply cD ?_ ?_<;>(intro hg hgp;try(cases hg;done)))|fail)
 .refine qd ?_;refine aY ?_ (zx O.ws (base:=H.next+2) (I:=fun(_:Unit) H'=>I H'/\H'.get (H.next+1)=some (.cells [.bm g cap] 0 true)/\∀r,base<=r->r<H.next+2->H'.get r=i.get r) ?_ (zfM O.wx1 O.we ac j hq ac ac i) (bH x.body+1) x.body ac 0 () i ac ac ⟨L,m,fun _ _ _=>rfl⟩)
  .rintro v H3 ⟨rfl,J,hi3,hg3,C⟩;have hF3:FrB base i H3:=⟨J.next,fun r h1 h2=>by
    by_cases hr:r<H.next+2
    .exact C r h1 hr
    .exact J.get r ac h2⟩
   dsimp only[aU];refine Hu ?_;all_goals refine qq ?_
   exact⟨by simp_all[rH],(z.trans V).trans hF3,hi3⟩
  .intro _ Ha Hb ⟨h1,h2,h3⟩ U;exact⟨j _ _ h1 (U.cD ac),by rw[U _ ac];exact h2,fun r q1 q2=>by rw[U _ q2];exact h3 r q1 q2⟩
 .all_goals refine qq ?_
  exact⟨by simp_all[rH],z.trans V,L⟩
end
section
def tyP4f.tyF:=ad @cA (ad @dw (ad @fU (ad @D9 (ad @Ja (ad @ec (ad @fM (ad @fb (ad @vu (ad @fL (ad @gF (@yS)))))))))))
open tyP4f
noncomputable def Rw:{c:SC // aC 26 (f124.body.getD .skip)=c}:=by
 refine⟨?_,?_⟩;rotate_left
 .simp only[f124,bz,aC,bw,bt,bA,bB,Nat.blt,Nat.ble];rfl
noncomputable def Rz:{c:SC // aC 27 (f125.body.getD .skip)=c}:=by
 refine⟨?_,?_⟩;rotate_left
 .simp only[f125,bz,aC,bw,bt,bA,bB,Nat.blt,Nat.ble];rfl
noncomputable def RA:{c:SC // aC 49 (f126.body.getD .skip)=c}:=by
 refine⟨?_,?_⟩;rotate_left
 .simp only[f126,bz,aC,bw,bt,bA,bB,Nat.blt,Nat.ble];rfl
def zfN(l:qw)(a s:qx):bu (tC l a) s=(bu l s||bu [a] s):=by
 unfold tC;split
 .rename_i h;rw[xS];by_cases e:s=a
  .rw[e,h];rfl
  .rw[eA e,io]
 .rw[uH]
def RB(hw:zd0 cfg 124){imm:Nat}{x:List qw}(hg:H.get r=some (.cells (x.map cZ) imm true))(hr:r<H.next)(hx:FB x):
 aM prog cfg 124 [.sl r 0 x.length 1] H fun v H'=>v=.map H.next/\(∃l,H'.get H.next=some (.map (iy l))/\∀s,bu l s=bu x.flatten s)/\(∀k,k<H.next->H'.get k=H.get k)/\H.next<H'.next:=by
 obtain⟨hx1,hx2⟩:=hx;have hnm:=Nv;refine a0 (M:=26) (rs:=[.tmp 2]) (hw.call _) hw.aG hw.az func124 rfl rfl Rw.2 rfl ?_;dsimp only[Rw,aW,Nat.reduceAdd];refine eh ?_;refine bY [2,3,9,10] [] 11 x.length (fun i E g=>(∃l,g.get H.next=some (.map (iy l))/\∀s,bu l s=bu (x.take i).flatten s)/\∀k,k<H.next->g.get k=H.get k) eE ⟨⟨[],sC,fun s=>rfl⟩,fun k hk=>fq⟩ ?_;rintro i E g hi Z m z hsI ⟨⟨l,O,J⟩,V⟩;(try simp only[bq,aT,aN,aG,aR,Nat.reduceBEq, *]at Z);(try simp only[aT,aR, *]at m);(try simp only[aZ,]at z);repeat' (first
  |(apply aj ?_;clear hK K)|apply aO ?_|(apply bp ?_ ?_<;>(intro hb hbp;try(cases hb;done)))|(apply ak fun K hK=>?_)|fail)
 .have Y:i<x.length:=by simpa using hb
  have hgx:x[i]?=some x[i]:=aL Y;have hsm:=hx2 _ (cB Y);have hg2:g.get r=some (.cells (x.map cZ) imm true):=by rw[V r hr];exact hg
  have htk:(x.take (i+1)).flatten=(x.take i).flatten++x[i]:=by rw[sd,hgx,List.flatten_append];simp
  generalize x[i]=L at *;refine wG ?_;refine bY [2,3,9,10,11,15,16] [] 17 L.length (fun j E H3=>(∃l,H3.get H.next=some (.map (iy l))/\∀s,bu l s=bu ((x.take i).flatten++L.take j) s)/\∀k,k<H.next->H3.get k=H.get k) eE ⟨⟨l,O,fun s=>by rw[J,vM,bm]⟩,V⟩ ?_;clear O J l V hg2;rintro j E3 H3 hj Z m z hsI ⟨⟨l,O,J⟩,V⟩;(try simp only[bq,aT,aN,aG,aR,Nat.reduceBEq, *]at Z);(try simp only[aT, *]at m);(try simp only[aZ,br,bX,bK,Nat.reduceAdd]at z);repeat' (first
   |(apply aj ?_;clear hK K)|apply aO ?_|(apply bp ?_ ?_<;>(intro hb hbp;try(cases hb;done)))|(apply ak fun K hK=>?_)|fail)
  .have U:j<L.length:=by simpa using hb
   have I:L[j]?=some L[j]:=aL U;have hup:=Ke O L[j];have C:L.take (j+1)=L.take j++[L[j]]:=by rw[sd,I];rfl
   refine eh ?_;refine⟨ac,aK,aK,bG,P4,?_⟩;refine⟨⟨tC l L[j],BE,fun s=>?_⟩,fun k hk=>by rw[aA,af ac];exact V k hk⟩;rw[zfN,J,C,<-lU,uH ((x.take i).flatten++L.take j)]
  .have hje:j=L.length:=by simp at hb;omega
   refine eh ?_;refine⟨ac,aK,aK,bG,vG,?_⟩;exact⟨⟨l,O,fun s=>by rw[J,htk,hje,AA]⟩,V⟩
 .refine eh ?_;all_goals refine qq ?_
  have hie:i=x.length:=sB;refine⟨trivial,⟨l,O,fun s=>by rw[J,hie,AA]⟩,V,ac⟩
structure Rs where
 cK:Nat
 mv:Nat
 r5:Nat
 ma:Nat
 r6:Nat
 mf:Nat
 r9:Nat
structure zf5 (X:Rs) (vs an:qw) (fm:List (b8×Int)) (H:Hp):Prop where
 b12:H.get X.cK=some (.cells [.map X.mv] 0 true)
 bv:∃l,H.get X.mv=some (.map (iy l))/\∀s,bu l s=bu vs s
 b5:H.get X.r5=some (.cells [.map X.ma] 0 true)
 ba:∃l,H.get X.ma=some (.map (iy l))/\∀s,bu l s=bu an s
 b6:H.get X.r6=some (.cells [.map X.mf] 0 true)
 bf:H.get X.mf=some (.map (hM fm))
structure RsLt (X:Rs) (n:Nat):Prop where
 ef:X.cK<n
 lv:X.mv<n
 l5:X.r5<n
 la:X.ma<n
 l6:X.r6<n
 lf:X.mf<n
structure RsNe (X:Rs):Prop where
 ef:X.cK≠X.r9
 lv:X.mv≠X.r9
 l5:X.r5≠X.r9
 la:X.ma≠X.r9
 l6:X.r6≠X.r9
 lf:X.mf≠X.r9
def zf5.keep{X:Rs}{z:List (b8×Int)}(h:zf5 X vs U z H)(J:H'.get X.cK=H.get X.cK)(V:H'.get X.mv=H.get X.mv)(M:H'.get X.r5=H.get X.r5)(Z:H'.get X.ma=H.get X.ma)(Y:H'.get X.r6=H.get X.r6)(C:H'.get X.mf=H.get X.mf):zf5 X vs U z H' where
 b12:=by rw[J];exact h.b12
 bv:=by rw[V];exact h.bv
 b5:=by rw[M];exact h.b5
 ba:=by rw[Z];exact h.ba
 b6:=by rw[Y];exact h.b6
 bf:=by rw[C];exact h.bf
def zf5.bY{X:Rs}{z:List (b8×Int)}{n:Nat}(h:zf5 X vs U z H)(J:RsLt X n)(k:ju n H H'):zf5 X vs U z H':=
 h.keep (k _ J.ef) (k _ J.lv) (k _ J.l5) (k _ J.la) (k _ J.l6) (k _ J.lf)
def zfO(L:zd0 cfg 125){X:Rs}{O:qw}{g:List (b8×Int)}{base:Nat}(U:RsLt X base)(hI:wj base I)(hR:∀H,I H->zf5 X vs O g H):
 zu cfg base I 125 [.ptr X.cK 0,.ptr X.r5 0] fun x _=>i9 vs O x:=by
 intro x d H hz Z C;obtain⟨J,⟨lv,Y,V⟩,j,⟨la,z,m⟩,h6,hf⟩:=hR H C;have l12:=U.ef;have llv:=U.lv;have l5:=U.l5;have lla:=U.la;have g12:(H.alloc (.cells x.cells 0 true)).get X.cK=some (.cells [.map X.mv] 0 true):=by rw[aD,af ac];exact J
 have g5:(H.alloc (.cells x.cells 0 true)).get X.r5=some (.cells [.map X.ma] 0 true):=by rw[aD,af ac];exact j
 have gv:(H.alloc (.cells x.cells 0 true)).get X.mv=some (.map (iy lv)):=by rw[aD,af ac];exact Y
 have i:(H.alloc (.cells x.cells 0 true)).get X.ma=some (.map (iy la)):=by rw[aD,af ac];exact z
 have kv:=xV gv x.name;have ka:=xV i x.name;rw[V]at kv;rw[m]at ka;clear J j Y z gv i V m hf h6;have e12:(X.cK == H.next)=false:=aX ac;have e5:(X.r5 == H.next)=false:=aX ac;simp only[];refine a0 (M:=27) (rs:=[.tmp 6]) (L.call _) L.aG L.az func125 rfl rfl Rz.2 rfl ?_;dsimp only[Rz,aW,Nat.reduceAdd];repeat' (first
  |(apply aj ?_;clear hK K)|apply aO ?_|(apply cD ?_ ?_<;>(intro hg hgp;try(cases hg;done)))|(apply ak fun K hK=>?_)|fail)
 all_goals
  all_goals refine qq ?_
  refine⟨?_,(jS _ _).alloc _,hI _ _ C ((sq _ _).alloc Z _)⟩;rw[i9];(try simp only[dH]at *);simp only[ *,il,io,rM,em,tz,lX,iC,]
def RC:rc prog 9=some .string:=aB
def sK(w:Bool):Int:=if w=true then 5 else 0
abbrev qn:HB:=.cells [.int .i64 5] 0 true
theorem zfP(hw:zd0 cfg 126){X:Rs}{an:qw}{z:List (b8×Int)}{base:Nat}(J:RsLt X base)(h9:X.r9<base)(m:RsNe X):
 BT cfg base (fun(w:Bool) H=>zf5 X vs an z H/\H.get X.r9=some (.cells [.int .i64 (sK w)] 0 true)) 126 [.ptr X.cK 0,.ptr X.r5 0,.ptr X.r6 0,.ptr X.r9 0] (oT z vs an):=by
 intro x d w H hz O hi;obtain⟨g,I⟩:=hi;have Y:=g;obtain⟨C,⟨lv,i,hv2⟩,h5,⟨la,ha1,ha2⟩,h6,hf⟩:=g;have l12:=J.ef;have llv:=J.lv;have l5:=J.l5;have lla:=J.la;have l6:=J.l6;have llf:=J.lf;have U:ju base H (H.alloc (.cells x.cells 0 true)):=(sq _ _).alloc O _;have g12:(H.alloc (.cells x.cells 0 true)).get X.cK=some (.cells [.map X.mv] 0 true):=by rw[U _ l12];exact C
 have g5:(H.alloc (.cells x.cells 0 true)).get X.r5=some (.cells [.map X.ma] 0 true):=by rw[U _ l5];exact h5
 have g6:(H.alloc (.cells x.cells 0 true)).get X.r6=some (.cells [.map X.mf] 0 true):=by rw[U _ l6];exact h6
 have g9:(H.alloc (.cells x.cells 0 true)).get X.r9=some (.cells [.int .i64 (sK w)] 0 true):=by rw[U _ h9];exact I
 have gv:(H.alloc (.cells x.cells 0 true)).get X.mv=some (.map (iy lv)):=by rw[U _ llv];exact i
 have ga:(H.alloc (.cells x.cells 0 true)).get X.ma=some (.map (iy la)):=by rw[U _ lla];exact ha1
 have gf:(H.alloc (.cells x.cells 0 true)).get X.mf=some (.map (hM z)):=by rw[U _ llf];exact hf
 have gb:(H.alloc (.cells x.cells 0 true)).get H.next=some (.cells x.cells 0 true):=FF
 have kv:=xV gv x.name;have ka:=xV ga x.name;have kf:=zeX (P:=prog) (t:=98) underlying98 RC aB gf x.to;rw[hv2]at kv;rw[ha2]at ka;have hlen:=rE x.args;have hsz:=x.aT;have j:zf5 X vs an z (H.alloc (.cells x.cells 0 true)):=Y.bY J U;have hx0:∀a b,Ab.extract (.aX [a,b]) 0=some a:=fun _ _=>rfl;have hx1:∀a b,Ab.extract (.aX [a,b]) 1=some b:=fun _ _=>rfl;have L:FrB base H (H.alloc (.cells x.cells 0 true)):=(jS _ _).alloc _;have V:FrB base H ((H.alloc (.cells x.cells 0 true)).set X.r9 qn):=L.set (.inr h9) _;have Z:zf5 X vs an z ((H.alloc (.cells x.cells 0 true)).set X.r9 qn):=j.keep (by rw[aA,af m.ef]) (by rw[aA,af m.lv]) (by rw[aA,af m.l5]) (by rw[aA,af m.la]) (by rw[aA,af m.l6]) (by rw[aA,af m.lf]);have hw2:((H.alloc (.cells x.cells 0 true)).set X.r9 qn).get X.r9=some (.cells [.int .i64 (sK true)] 0 true):=by rw[aA,ah rfl];rfl
 have s12:((H.alloc (.cells x.cells 0 true)).set X.r9 qn).get X.cK=some (.cells [.map X.mv] 0 true):=Z.b12;have sb:((H.alloc (.cells x.cells 0 true)).set X.r9 qn).get H.next=some (.cells x.cells 0 true):=by rw[aA,af ac];exact gb
 have sv:mL prog ((H.alloc (.cells x.cells 0 true)).set X.r9 qn) 200 (.map X.mv) (.aq x.name) false=some (.bool (bu vs x.name)):=by
  obtain⟨l,q1,q2⟩:=Z.bv;rw[xV q1,q2]
 clear C i hv2 h5 ha1 ha2 h6 hf gv ga gf Y I U;have e12:(X.cK == H.next)=false:=aX ac;have e5:(X.r5 == H.next)=false:=aX ac;have e6:(X.r6 == H.next)=false:=aX ac;have e9:(X.r9 == H.next)=false:=aX ac;have d12:(X.cK == X.r9)=false:=aX m.ef;have dn:(H.next == X.r9)=false:=aX ac;simp only[];refine a0 (M:=49) (rs:=[.tmp 8]) (hw.call _) hw.aG hw.az func126 rfl rfl RA.2 rfl ?_;dsimp only[RA,aW,Nat.reduceAdd];repeat' (first
  |(apply aj ?_;clear hK K)|apply aO ?_|(apply cD ?_ ?_<;>(intro hg hgp;try(cases hg;done)))|(apply bp ?_ ?_<;>(intro hb hbp;try(cases hb;done)))|(apply ak fun K hK=>?_)|fail)
 all_goals
  all_goals refine qq ?_
  first
  |refine⟨?_,L,j,?_⟩
  |refine⟨?_,V,Z,?_⟩
  all_goals
   (try rw[g9]);(try rw[hw2]);clear g12 g5 g6 g9 kv ka kf hx0 hx1 gb s12 sb sv j Z L V hw2 e12 e5 e6 e9 d12 dn J m hlen hsz;simp_all[oT,sK]
end
end Go.Proofs.YtbflaciihaijgaaGreat
