/- Parts: R3d, R3e, R3f, R3g, R3h, R3i, R3j, L4b, P4e, V5, V6, W4a, W4b, W4c, W4d. -/
import Derived.Test.YtljebeflbbgibaaGreatZCJ
set_option linter.unusedSimpArgs false
set_option linter.unusedVariables false
set_option linter.unusedSectionVars false
set_option linter.defProp false
set_option maxHeartbeats 32000000
namespace Go.Ab
set_option maxRecDepth 20000
open Go
theorem sw{P:Prop}(h:P:=by simp only[zcS,zcB];omega):P:=h
theorem uJ{P:Prop}(h:P:=by simp at z;omega):P:=h
theorem xz{P:Prop}(h:P:=by rw[List.getElem?_eq_getElem hj,e]):P:=h
theorem BD{P:Prop}(h:P:=by simp only[zcB,zcS];omega):P:=h
theorem Hk{P:Prop}(h:P:=by simp only[zcz,Nat.reduceBEq, *];exact zeB (n:=z.length) ac ac):P:=h
theorem uK{P:Prop}(h:P:=by rw[Hp.get_set,if_pos db]):P:=h
theorem Hl{P:Prop}(h:P:=by simp only[zcz,Nat.reduceBEq, *];exact zeB (n:=x.length) ac ac):P:=h
theorem Hm{P:Prop}(h:P:=by rw[<- j,zcu,if_neg sw,Hp.get_set,if_neg ac,zcu,if_neg ac]):P:=h
theorem Hn{P:Prop}(h:P:=by simp only[zcz,Nat.reduceBEq, *];exact zeB (n:=p.arrays.length) ac ac):P:=h
theorem uL{P:Prop}(h:P:=by simp only[zcz,Nat.reduceBEq, *];exact zeB (n:=p.funcs.length) ac ac):P:=h
theorem m1{P:Prop}(h:P:=by simp only[zcz,Nat.reduceBEq, *];exact zeB (n:=g.nodes.length) ac ac):P:=h
def fM:=@cond_true
def xA:=@beq_self_eq_true
def uM:=@List.any_append
def xB:=@Bool.or_true
def BE:=@List.all_eq_false
def Ho:=And.intro @mC @xB
def Hr:=And.intro @jx Ho
def Ht:=And.intro @jc Hr
def Hu:=And.intro Ht w5
def Hv:=And.intro @k8 @gL
def Yz:=And.intro qm Hu
def lB:=And.intro Yz Hv
end Go.Ab
namespace Go.Proofs.YtljebeflbbgibaaGreat
set_option maxRecDepth 20000
open Go Go.Ab
section
def tyR3d.tyF:=ad @cI (ad @bZ (ad @dl (ad @iB (ad @gk (ad @iA (@jv))))))
open tyR3d
def sy(x:Ex):Bool:=
 if x.kind=1 then decide ((x.kids.length:Int)=0)&&decide (x.name=[])&&decide (x.op=0)
 else if x.kind=2 then decide ((x.kids.length:Int)=0)&&decide (x.n=0)&&decide (x.op=0)&&zc9 x.name
 else if x.kind=3 then decide ((x.kids.length:Int)=1)&&decide (x.n=0)&&decide (x.op=0)&&zc9 x.name
 else if x.kind=4 then decide (x.n=0)&&decide (x.name=[])&&((decide ((x.kids.length:Int)=2)&&AL x.op)||(decide ((x.kids.length:Int)=1)&&(decide (x.op=20)||decide (x.op=21))))
 else if x.kind=5 then decide ((x.kids.length:Int)=3)&&decide (x.n=0)&&decide (x.name=[])&&decide (x.op=0)
 else false
mutual
def jA:Ex->Bool
 | .mk k n s o V=>jZ V&&sy (.mk k n s o V)
def jZ:List Ex->Bool
 |[]=>true
 |e::es=>jA e&&jZ es
end
noncomputable def BF:En:=⟨29,false,bX (fun s=>s.length<2^60) kE fun s=>.bool (zc9 s)⟩
theorem Hw(ρ:Nat->Int):zdd Tryz.prog ρ BF:=zdk fun x F=>Ww ρ x F
theorem YA(x y:Int)(h:([.int .i64 x]:List AV)=[.int .i64 y]):x=y:=iQ
end
section
namespace tyR3e
end tyR3e
open tyR3e
def xC(x:St):Bool:=decide (x.name=[])&&decide (x.to=[])&&decide (x.n=0)&&zeroE x.at_&&decide ((x.args.length:Int)=0)
def sA(x:St):Bool:=decide ((x.thn.length:Int)=0)&&decide ((x.els.length:Int)=0)
def xD(x:St):Bool:=
 if x.kind=1 then sA x&&zc9 x.name&&decide (x.to=[])&&decide (x.n=0)&&zeroE x.at_&&decide ((x.args.length:Int)=0)&&jA x.value
 else if x.kind=2 then sA x&&zc9 x.name&&decide (x.to=[])&&decide (x.n=0)&&jA x.at_&&decide ((x.args.length:Int)=0)&&jA x.value
 else if x.kind=3 then xC x&&jA x.value
 else if x.kind=4 then xC x&&jA x.value&&decide ((x.els.length:Int)=0)
 else if x.kind=5 then sA x&&xC x&&jA x.value
 else if x.kind=6 then sA x&&zc9 x.name&&zc9 x.to&&decide (x.n=0)&&zeroE x.at_&&zeroE x.value
 else if x.kind=7 then sA x&&decide (x.name=[])&&decide (x.to=[])&&decide (0<=x.n)&&decide (x.n<=1000000)&&zeroE x.at_&&zeroE x.value&&decide ((x.args.length:Int)=0)
 else false
def uN(x:St):Bool:=jZ x.args&&xD x
end
section
def tyR3f.tyF:=ad @cI (ad @bZ (ad @dl (ad @hM (ad @lm (ad @mM (ad @jP (ad @jQ (ad @iA (ad @iB (ad @gk (ad @mN (@jv))))))))))))
open tyR3f
mutual
def xE:St->Bool
 | .mk k K g n a v args Y Z=>uN (.mk k K g n a v args Y Z)&&n8 Y&&n8 Z
def n8:List St->Bool
 |[]=>true
 |x::l=>xE x&&n8 l
end
theorem BG:∀{l:List Ar}{a:Ar},a∈l->a.name.length<kB l
 |[],_,h=>by simp at h
 |e::es,x,h=>by
  rcases fk.1 h with rfl|h
  .simp only[kB];omega
  .have:=BG h;simp only[kB];omega
def xF(f:Fu):List (List UInt8):=[f.name]++f.params++f.locals
def md(f:Fu):Bool:=(xF f).all zc9&&n8 f.body&&jA f.value
def j0(p:Pr):Bool:=p.arrays.all (fun a=>zc9 a.name)&&p.funcs.all md
theorem YB(H:Hp)(s:List UInt8):zdS Tryz.prog H 100 1 [(0,.str s)]=some (.sl H.next 0 1 1,H.alloc (.cells [.str s] 0 true)):=af
end
section
namespace tyR3g
end tyR3g
open tyR3g
def zcQ:List (List UInt8)->List (List UInt8)->Bool
 |_,[]=>false
 |seen,s::l=>zcP seen s||zcQ (seen++[s]) l
def o8(M:List (List UInt8)):List (List UInt8)->List Fu->Bool
 |_,[]=>false
 |seen,f::fs=>zcP seen f.name||zcQ M (f.params++f.locals)||o8 M (seen++[f.name]) fs
def zda(p:Pr):List (List UInt8):=p.arrays.map (·.name)
def sB(p:Pr):Bool:=zcQ [] (zda p)||o8 (zda p) [] p.funcs
end
section
namespace tyR3h
end tyR3h
open tyR3h
structure Sc where
 vars:List (List UInt8)
 arrays:Option (List (List UInt8))
 p:Pr
def Sc.an(x:Sc):List (List UInt8):=x.arrays.getD []
section
variable (vs an:List (List UInt8))
def j4(x:Ex):Bool:=(!decide (x.kind=2)||zcP vs x.name)&&(!decide (x.kind=3)||zcP an x.name)
mutual
def jB:Ex->Bool
 | .mk k n s o V=>n9 V&&j4 vs an (.mk k n s o V)
def n9:List Ex->Bool
 |[]=>true
 |e::es=>jB e&&n9 es
end
end
def qC(c:Sc)(x:St):Bool:=
 if x.kind=1 then zcP c.vars x.name
 else if x.kind=6 then zcP c.vars x.name&&decide (0<=jh c.p.funcs x.to 0)
 else if x.kind=2 then zcP c.an x.name
 else true
def Hy(c:Sc)(x:St):Bool:=n9 c.vars c.an x.args&&jB c.vars c.an x.at_&&jB c.vars c.an x.value&&qC c x
end
section
namespace tyR3i
end tyR3i
open tyR3i
def sC(p:Pr)(s:List UInt8):Nat:=((p.funcs[(jh p.funcs s 0).toNat]?).map fun f=>f.params.length).getD 0
def sD(p:Pr)(x:St):Bool:=!(decide (x.kind=6) && !decide ((x.args.length:Int)=sC p x.to))
section
variable (c:Sc)
mutual
def qD(b:Bool):St->Bool
 | .mk k K g n a v args Y Z=>(bif b then sD c.p (.mk k K g n a v args Y Z)else Hy c (.mk k K g n a v args Y Z))&&jl b Y&&jl b Z
def jl(b:Bool):List St->Bool
 |[]=>true
 |x::l=>qD b x&&jl b l
end
end
section
variable (p:Pr)
end
end
section
namespace tyR3j
end tyR3j
open tyR3j
def kI(p:Pr)(f:Fu):Sc:=⟨f.params++f.locals,some (zda p),p⟩
def sE(p:Pr)(f:Fu):Bool:=!(jl (kI p f) false f.body&&jB (kI p f).vars (kI p f).an f.value)
def uO(p:Pr)(f:Fu):Bool:=!jl (kI p f) true f.body
def m7(p:Pr):Int:=if su p=true then 6 else if j0 p=false then 2 else if sB p=true then 4 else if p.funcs.any (sE p)=true then 3 else if p.funcs.any (uO p)=true then 5 else 0
end
section
def zd0(p:Pr):List (List UInt8):=p.funcs.map (·.name)
def lC(p:Pr):Bool:=zcQ [] (zda p)||zcQ [] (zd0 p)||p.funcs.any fun f=>zcQ [] (zda p++(f.params++f.locals))
theorem Hz:∀(a b seen:List (List UInt8)),zcQ seen (a++b)=(zcQ seen a||zcQ (seen++a) b)
 |[],b,seen=>by simp[zcQ]
 |x::a,b,seen=>by rw[nT,zcQ,zcQ,Hz a b,f8,List.singleton_append,AK]
theorem HA(M:List (List UInt8)):∀(A:List Fu) (seen:List (List UInt8)),o8 M seen A=(zcQ seen (A.map (·.name))||A.any fun f=>zcQ M (f.params++f.locals))
 |[],seen=>rfl
 |f::A,seen=>by
  rw[o8,dJ,zcQ,mS,HA M A];cases zcP seen f.name<;>cases zcQ M (f.params++f.locals)<;>cases zcQ (seen++[f.name]) (A.map (·.name))<;>rfl
theorem HC(p:Pr):lC p=sB p:=by
 rw[lC,sB,HA];cases h:zcQ [] (zda p)
 .have e:(fun f:Fu=>zcQ [] (zda p++(f.params++f.locals)))=fun f=>zcQ (zda p) (f.params++f.locals):=by
   funext f;rw[Hz,h];rfl
  rw[e];rfl
 .rfl
def zd1:List Fu->List (zdb×Int)->List (zdb×Int)
 |[],m=>m
 |f::l,m=>zd1 l (setV m f.name f.params.length)
theorem BH(s a:zdb)(x:Int):∀m:List (zdb×Int),eg (setV m a x) s=if s=a then x else eg m s
 |[]=>by simp[setV,eg]
 |q::l=>by
  by_cases h:a=q.1
  .simp only[setV,h,bT,eg];split<;>rfl
  .simp only[setV,h,ck,eg,BH s a x l];by_cases g:s=q.1
   .rw[ax g,ax g,ah (fun e=>h (by rw[<-e,g]))]
   .rw[ah g,ah g]
theorem HD(s a:zdb)(x:Int):∀m:List (zdb×Int),fl (setV m a x) s=(decide (s=a)||fl m s)
 |[]=>by
  by_cases h:s=a<;>simp[setV,fl,h]
 |q::l=>by
  by_cases h:a=q.1
  .by_cases g:s=q.1<;>simp[setV,fl,h,g]
  .have e:=HD s a x l;by_cases g:s=q.1
   .simp[setV,fl,h,g]
   .simp[setV,fl,h,g,e]
theorem jF(a b:List (List UInt8))(s:List UInt8):zcP (a++b) s=(zcP a s||zcP b s):=by unfold zcP;rw[uM]
theorem qE(a s:List UInt8):zcP [a] s=decide (s=a):=by
 unfold zcP;simp only[mS,List.any_nil,jx];by_cases h:s=a
 .simp[h]
 .have:¬a=s:=fun e=>h e.symm;simp[h,this]
theorem HE(s:zdb):∀(l:List Fu) (m:List (zdb×Int)),fl (zd1 l m) s=(fl m s||zcP (l.map (·.name)) s)
 |[],m=>by simp[zd1,zcP]
 |f::l,m=>by
  rw[zd1,HE s l,HD,dJ,show f.name::l.map (·.name)=[f.name]++l.map (·.name)from rfl,jF,qE];cases decide (s=f.name)<;>cases fl m s<;>simp
theorem HF(s:zdb):∀(l:List Fu) (m:List (zdb×Int)),zcP (l.map (·.name)) s=false->eg (zd1 l m) s=eg m s
 |[],m,_=>rfl
 |f::l,m,h=>by
  rw[dJ,show f.name::l.map (·.name)=[f.name]++l.map (·.name)from rfl,jF,qE,k3,jw]at h;rw[zd1,HF s l _ h.2,BH,ah h.1]
theorem HG:∀(l seen:List (List UInt8)),zcQ seen l=false->∀s,zcP seen s=true->zcP l s=false
 |[],_,_,_,_=>rfl
 |a::l,seen,h,s,hs=>by
  rw[zcQ,k3]at h;rw[show a::l=[a]++l from rfl,jF,qE,HG l _ h.2 s (by rw[jF,hs];rfl),jx,jw];intro e;rw[<-e]at h;rw[hs]at h;simp at h
theorem HH:∀(l:List Fu) (s:List UInt8) (i:Int),0<=i->(zcP (l.map (·.name)) s=decide (0<=jh l s i))
 |[],s,i,_=>by simp[zcP,jh]
 |f::l,s,i,hi=>by
  rw[dJ,show f.name::l.map (·.name)=[f.name]++l.map (·.name)from rfl,jF,qE,jh];by_cases h:f.name=s
  .rw[ax h,cB h.symm,mC];simpa using hi
  .rw[ah h,cX (fun e=>h e.symm),jc,HH l s (i+1) ac]
theorem HI(p:Pr)(s:zdb):∀(l:List Fu) (seen:List (List UInt8)) (m:List (zdb×Int)) (i:Nat),p.funcs.drop i=l->zcQ seen (l.map (·.name))=false->0<=jh l s i ->
 ∃f,p.funcs[(jh l s i).toNat]?=some f/\eg (zd1 l m) s=f.params.length
 |[],_,_,i,_,_,h=>by simp[jh]at h
 |f::l,seen,m,i,hd,hn,h=>by
  have z:i<p.funcs.length:=by
   have:=ku List.length hd;simp at this;omega
  rw[d7 z,cM]at hd;rw[dJ,zcQ,k3]at hn;rw[jh]at h⊢;by_cases e:f.name=s
  .rw[ax e];refine⟨f,?_,?_⟩
   .rw[dL,aO z,hd.1]
   .have o:zcP (l.map (·.name)) s=false:=HG _ _ hn.2 s (by rw[jF,qE,cB e.symm,xB]);rw[zd1,HF s l _ o,BH,ax e.symm]
  .rw[ah e]at h⊢;exact HI p s l (seen++[f.name]) _ (i+1) hd.2 hn.2 h
theorem YC(p:Pr)(s:zdb):fl (zd1 p.funcs []) s=decide (0<=jh p.funcs s 0):=by
 rw[HE,HH _ _ 0 ac];rfl
theorem YD{p:Pr}(hd:zcQ [] (zd0 p)=false){s:zdb}(h:0<=jh p.funcs s 0):eg (zd1 p.funcs []) s=sC p s:=by
 obtain⟨f,i,g⟩:=HI p s p.funcs [] [] 0 rfl hd h;have L:p.funcs[(jh p.funcs s 0).toNat]?=some f:=i;rw[g,sC,L];rfl
def j5(M:List (zdb×Int))(vs Z:List (List UInt8))(x:St)(_:Int)(w:Bool):Bool×Bool:=
 if x.kind=1 then (zcP vs x.name,w)
 else if x.kind=2 then (zcP Z x.name,w)
 else if x.kind=6 then (fl M x.to&&zcP vs x.name,w||(fl M x.to && !decide (eg M x.to=(x.args.length:Int))))
 else (true,w)
def ob(Z:List (zdb×Int))(M:List (List UInt8)):List Fu->Bool->Int
 |[],w=>if w=true then 5 else 0
 |f::fs,w=>if lh (fun x _=>j4 (f.params++f.locals) M x) f=true/\(zdG (j5 Z (f.params++f.locals) M) f.body 0 w).1=true then ob Z M fs (zdG (j5 Z (f.params++f.locals) M) f.body 0 w).2 else 3
def qF(p:Pr):Int:=ob (zd1 p.funcs []) (zda p) p.funcs false
def BI(p:Pr):Int:=if iS p=false then 6 else if j0 p=false then 2 else if lC p=true then 4 else qF p
mutual
theorem BJ(vs M:List (List UInt8)):∀(x:Ex) (d:Int),js (fun x _=>j4 vs M x) x d=jB vs M x
 | .mk k n s o V,d=>by rw[js,jB,BK vs M V,Bool.and_comm]
theorem BK(vs M:List (List UInt8)):∀(l:List Ex) (d:Int),zew (fun x _=>j4 vs M x) l d=n9 vs M l
 |[],_=>rfl
 |x::l,d=>by rw[zew,n9,BJ vs M x,BK vs M l]
end
section
variable (c:Sc)
mutual
def qG:St->Bool
 | .mk _ _ _ _ a v args Y Z=>jB c.vars c.an a&&jB c.vars c.an v&&n9 c.vars c.an args&&kJ Y&&kJ Z
def kJ:List St->Bool
 |[]=>true
 |x::l=>qG x&&kJ l
end
mutual
def o9:St->Bool
 | .mk k K g n a v args Y Z=>qC c (.mk k K g n a v args Y Z)&&iH Y&&iH Z
def iH:List St->Bool
 |[]=>true
 |x::l=>o9 x&&iH l
end
mutual
theorem YE:∀(x:St) (d:Int),iw (lg fun x _=>j4 c.vars c.an x) x d ()=(qG c x,())
 | .mk k K W n a v args Y Z,d=>by
   rw[iw,lg,qG];simp only[St.at_,St.value,St.args,BJ,BK];cases h:jB c.vars c.an a&&jB c.vars c.an v&&n9 c.vars c.an args
   .simp
   .simp only[xG Y,de];cases g:kJ c Y
    .simp
    .simp only[xG Z,de]
theorem xG:∀(l:List St) (d:Int),zdG (lg fun x _=>j4 c.vars c.an x) l d ()=(kJ c l,())
 |[],_=>rfl
 |x::l,d=>by
  rw[zdG,YE x,kJ];cases h:qG c x
  .simp
  .simp only[xG l,de]
end
mutual
theorem YF:∀x:St,qD c false x=(qG c x&&o9 c x)
 | .mk k K g n a v args Y Z=>by
   rw[qD,qG,o9,xH Y,xH Z,nK,Hy];simp only[St.at_,St.value,St.args];cases jB c.vars c.an a<;>cases jB c.vars c.an v<;>cases n9 c.vars c.an args<;>cases qC c (.mk k K g n a v args Y Z)<;>cases kJ c Y<;>cases iH c Y<;>cases kJ c Z<;>cases iH c Z<;>rfl
theorem xH:∀l:List St,jl c false l=(kJ c l&&iH c l)
 |[]=>rfl
 |x::l=>by
  rw[jl,kJ,iH,YF x,xH l];cases qG c x<;>cases o9 c x<;>cases kJ c l<;>cases iH c l<;>rfl
end
end
theorem YG{p:Pr}(hd:zcQ [] (zd0 p)=false)(c:Sc)(O:c.p=p)(x:St)(d:Int)(w:Bool):
 (qC c x=true->j5 (zd1 p.funcs []) c.vars c.an x d w=(true,w || !sD p x))/\(qC c x=false->(j5 (zd1 p.funcs []) c.vars c.an x d w).1=false):=by
 unfold j5 qC sD;rw[O];by_cases i:x.kind=1
 .have A:¬x.kind=6:=by omega
  simp only[i,bT,Int.reduceEq,f4,dK,gL,k8,jx];exact⟨fun h=>by rw[h],fun h=>h⟩
 .by_cases A:x.kind=6
  .simp only[A,Int.reduceEq,ck,bT,kZ,de,Bool.not_not,YC];cases h:decide (0<=jh p.funcs x.to 0)
   .simp
   .rw[YD hd (uD h),jN,de,de];refine⟨fun h=>?_,fun h=>h⟩;rw[h];have e:decide ((sC p x.to:Int)=(x.args.length:Int))=decide ((x.args.length:Int)=(sC p x.to:Int)):=by
     by_cases q:(sC p x.to:Int)=(x.args.length:Int)
     .rw[cB q,cB q.symm]
     .rw[cX q,cX (fun e=>q e.symm)]
    rw[e]
  .by_cases g:x.kind=2
   .simp only[g,Int.reduceEq,ck,bT,f4,dK,gL,k8,jx];exact⟨fun h=>by rw[h],fun h=>h⟩
   .simp only[i,g,A,ck,f4,dK,gL,k8,jx];exact⟨fun _=>aD,fun h=>iR⟩
section
variable {p:Pr} (hd:zcQ [] (zd0 p)=false) (c:Sc) (hc:c.p=p)
include hd hc
mutual
theorem YH:∀(x:St) (d:Int) (w:Bool),(o9 c x=true->iw (j5 (zd1 p.funcs []) c.vars c.an) x d w=(true,w || !qD c true x))/\(o9 c x=false->(iw (j5 (zd1 p.funcs []) c.vars c.an) x d w).1=false)
 | .mk k K g n a v args Y Z,d,w=>by
   have o:=YG hd c hc (.mk k K g n a v args Y Z) d w;rw[iw,o9,qD,fM,hc];cases z:qC c (.mk k K g n a v args Y Z)
   .have:=o.2 z;generalize j5 _ _ _ _ _ _=r at this⊢;obtain⟨b,s⟩:=r;simp only at this;subst this;simp
   .rw[o.1 z];simp only[de];have i:=xI Y (eA (d+1)) (w || !sD p (.mk k K g n a v args Y Z));cases W:iH c Y
    .have:=i.2 W;generalize zdG _ Y _ _=r at this⊢;obtain⟨b,s⟩:=r;simp only at this;subst this;simp
    .rw[i.1 W];simp only[de];have V:=xI Z (eA (d+1)) ((w || !sD p (.mk k K g n a v args Y Z)) || !jl c true Y);cases A:iH c Z
     .exact⟨fun h=>iR,fun _=>V.2 A⟩
     .refine⟨fun _=>?_,fun h=>iR⟩;rw[V.1 A]
      congr 1
      cases w<;>cases sD p (.mk k K g n a v args Y Z)<;>cases jl c true Y<;>cases jl c true Z<;>rfl
theorem xI:∀(l:List St) (d:Int) (w:Bool),(iH c l=true->zdG (j5 (zd1 p.funcs []) c.vars c.an) l d w=(true,w || !jl c true l))/\(iH c l=false->(zdG (j5 (zd1 p.funcs []) c.vars c.an) l d w).1=false)
 |[],d,w=>by
  rw[zdG,iH,jl];exact⟨fun _=>aD,fun h=>iR⟩
 |x::l,d,w=>by
  have o:=YH x d w;rw[zdG,iH,jl];cases z:o9 c x
  .have:=o.2 z;generalize iw _ x _ _=r at this⊢;obtain⟨b,s⟩:=r;simp only at this;subst this;simp
  .rw[o.1 z];simp only[de];have g:=xI l d (w || !qD c true x);cases A:iH c l
   .exact⟨fun h=>iR,fun _=>g.2 A⟩
   .refine⟨fun _=>?_,fun h=>iR⟩;rw[g.1 A]
    congr 1
    cases w<;>cases qD c true x<;>cases jl c true l<;>rfl
end
end
theorem HJ{p:Pr}(hd:zcQ [] (zd0 p)=false):∀(l:List Fu) (w:Bool),ob (zd1 p.funcs []) (zda p) l w=if l.any (sE p)=true then 3 else if (w||l.any (uO p))=true then 5 else 0
 |[],w=>by simp[ob]
 |f::fs,w=>by
  have j:=xI hd (kI p f) rfl f.body 0 w;have L:(kI p f).vars=f.params++f.locals:=rfl;have F:(kI p f).an=zda p:=rfl;rw[L,F]at j;have Z:lh (fun x _=>j4 (f.params++f.locals) (zda p) x) f=(jB (f.params++f.locals) (zda p) f.value&&kJ (kI p f) f.body):=by
   rw[lh,BJ];have:=xG (kI p f) f.body 0;rw[L,F]at this;rw[this]
  have I:sE p f=!(lh (fun x _=>j4 (f.params++f.locals) (zda p) x) f&&iH (kI p f) f.body):=by
   rw[sE,Z,xH,L,F];cases jB (f.params++f.locals) (zda p) f.value<;>cases kJ (kI p f) f.body<;>cases iH (kI p f) f.body<;>rfl
  rw[ob,mS,mS,I];cases i:lh (fun x _=>j4 (f.params++f.locals) (zda p) x) f
  .simp
  .cases g:iH (kI p f) f.body
   .simp[j.2 g]
   .rw[j.1 g];simp only[mE,bT,pM,k8,jc];rw[HJ hd fs]
    congr 2
    rw[uO];cases w<;>simp
theorem YI(p:Pr):BI p=m7 p:=by
 unfold BI m7;rw[Yy,HC];cases i:su p
 .simp only[gL,k2,cr,ck];cases g:j0 p
  .rfl
  .simp only[k2,ck];cases o:sB p
   .simp only[cr,ck];have hd:zcQ [] (zd0 p)=false:=by
     rw[<-HC,lC,k3,k3]at o;exact o.1.2
    rw[qF,HJ hd];simp
   .rfl
 .rfl
def tyP4e.tyF:=ad @bZ (ad @dl (ad @hM (ad @mM (ad @jP (ad @jQ (ad @iA (ad @gk (ad @mN (ad @Ay (ad @lm (ad @wM (@YB))))))))))))
open tyP4e
noncomputable def HK:{c:SC // aA 28 (Tryz.f133.body.getD .skip)=c}:=by
 refine⟨?_,?_⟩;rotate_left
 .simp only[Tryz.f133,a3,aA,zcG,zcE,zcJ,zcK,Nat.blt,Nat.ble];rfl
noncomputable def HL:{c:SC // aA 38 (Tryz.f132.body.getD .skip)=c}:=by
 refine⟨?_,?_⟩;rotate_left
 .simp only[Tryz.f132,a3,aA,zcG,zcE,zcJ,zcK,Nat.blt,Nat.ble];rfl
noncomputable def HM:{c:SC // aA 35 (Tryz.f87.body.getD .skip)=c}:=by
 refine⟨?_,?_⟩;rotate_left
 .simp only[Tryz.f87,a3,aA,zcG,zcE,zcJ,zcK,Nat.blt,Nat.ble];rfl
def ep(l:List (List UInt8)):List (AV×AV):=l.map fun s=>(.str s,.bool true)
def m8(l:List (List UInt8))(s:List UInt8):List (List UInt8):=if zcP l s=true then l else l++[s]
theorem uP(s:List UInt8):∀(l:List (List UInt8)) (i:Nat),(zcP l s=false->zdT .string (.str s) (ep l) i=some none)/\(zcP l s=true->∃j,zdT .string (.str s) (ep l) i=some (some (i+j,.bool true))/\(ep l).set j (.str s,.bool true)=ep l)
 |[],i=>⟨fun _=>rfl,fun h=>by simp[zcP]at h⟩
 |a::l,i=>by
  have Y:zcP (a::l) s=(decide (s=a)||zcP l s):=by rw[show a::l=[a]++l from rfl,jF,qE]
  by_cases h:s=a
  .subst h;rw[Y,cB rfl,mC];refine⟨fun h=>iR,fun _=>⟨0,?_,?_⟩⟩
   .simp[ep,zdT,kS]
   .simp[ep]
  .have U:zdT .string (.str s) (ep (a::l)) i=zdT .string (.str s) (ep l) (i+1):=by
    show zdT .string (.str s) ((.str a,.bool true)::ep l) i=_;have:(s == a)=false:=iQ;simp[zdT,kS,this]
   rw[Y,cX h,jc,U];obtain⟨W,Z⟩:=uP s l (i+1);refine⟨W,fun q=>?_⟩;obtain⟨j,V,I⟩:=Z q;exact⟨j+1,by rw[V,show i+1+j=i+(j+1) by omega],by show(AV.str a,AV.bool true)::(ep l).set j _=_;rw[I];rfl⟩
theorem qH{H:Hp}{r:Nat}{l:List (List UInt8)}(A:H.get r=some (.map (ep l)))(s:List UInt8):zeD Tryz.prog H 198 (.map r) (.str s) false=some (.bool (zcP l s)):=by
 obtain⟨l1,l2⟩:=DZ (P:=Tryz.prog) (H:=H) (t:=198) (nm:=s) (z:=.bool false) Tryz.underlying198 af af A;cases h:zcP l s with
 |false=>rw[l1 ((uP s l 0).1 h)]
 |true=>obtain⟨j,i,g⟩:=(uP s l 0).2 h;rw[l2 _ _ i]
theorem BL{H:Hp}{r:Nat}{l:List (List UInt8)}(A:H.get r=some (.map (ep l)))(s:List UInt8):ze2 Tryz.prog H 198 (.map r) (.str s) (.bool true)=some (H.set r (.map (ep (m8 l s)))):=by
 obtain⟨l1,l2⟩:=zT (P:=Tryz.prog) (H:=H) (t:=198) (nm:=s) (x:=.bool true) Tryz.underlying198 af A;cases h:zcP l s with
 |false=>rw[l1 ((uP s l 0).1 h),m8,h];simp[ep]
 |true=>obtain⟨j,i,g⟩:=(uP s l 0).2 h;rw[l2 _ _ i,bw,g,m8,ax h]
def m9(x:List (List (List UInt8))):List AV:=[.lst (x.map fun l=>[zdE l])]
theorem YJ(x y:List (List (List UInt8)))(h:m9 x=m9 y):x=y:=by
 simp only[m9,cM,AV.lst.injEq,aY]at h;exact zeX (fun a _ b e=>by simp only[cM,AV.lst.injEq,aY]at e;exact wD e) h
def xJ(x:List (List (List UInt8))):Prop:=x.length<2^60/\∀l∈x,l.length<2^60
theorem YK(x:List (List (List UInt8))):zdU (.lst (x.map fun l=>[zdE l])):=.map fun l _=>.cons (ua l) .nil
theorem YL(ρ:Nat->Int)(x:List (List (List UInt8)))(hx:xJ x):a9 Tryz.prog ρ 133 (m9 x) (.bool (zcQ [] x.flatten)):=zdv fit (pls:=pls) (l:=[]) trivial (.cons (YK x) .nil) (.bool _) (by
 have F:=zdM 133;obtain⟨hx1,I⟩:=hx;rw[m9];refine zcv (M:=28) (rs:=[.tmp 2]) (F.call _) F.ice F.froz Tryz.func133 rfl rfl HK.2 rfl ?_;dsimp only[HK,zcr,Nat.reduceAdd];repeat' (first
  |(apply zcl ?_;clear hK K)|apply Rx.o ?_|apply ak ?_|(apply zcm fun K hK=>?_)|apply ay ?_|fail)
 refine zdl [3,9,10] [] 11 x.length (fun i E H=>∃seen,H.get 0=some (.map (ep seen))/\zcQ [] x.flatten=zcQ seen (x.drop i).flatten) eE ⟨[],nX,rfl⟩ ?_;rintro i E H2 hi W O m o ⟨seen,J,g⟩;(try simp only[zcO,zcI,aY,zcz,zcL,Nat.reduceBEq, *]at W);(try simp only[zcI,zcL, *]at O);(try simp only[zcB,zdg,bw]at m);repeat' (first
  |(apply zcl ?_;clear hK K)|apply Rx.o ?_|(apply aS (fun Z V=>?_) (fun Z V=>?_)<;>try(cases Z;done))|apply ak ?_|(apply zcm fun K hK=>?_)|apply ay ?_|apply zco ?_|apply am ?_|apply zcA ?_)
 .have L:i<x.length:=by simpa using Z
  have hgx:x[i]?=some x[i]:=aO L;have hsm:=I _ (dj L);have U:(x.drop i).flatten=x[i]++(x.drop (i+1)).flatten:=by rw[d7 L,lN]
  rw[U]at g;clear U;generalize x[i]=z at *;repeat' (first
   |(apply zcl ?_;clear hK K)|apply Rx.o ?_|apply ak ?_|(apply zcm fun K hK=>?_)|apply ay ?_|fail)
  refine zdl [3,9,10,11,15,16] [] 17 z.length (fun j E H=>∃seen,H.get 0=some (.map (ep seen))/\zcQ [] x.flatten=zcQ seen (z.drop j++(x.drop (i+1)).flatten)) eE ⟨seen,J,g⟩ ?_;clear J g seen;rintro j E3 H3 hj W O m o ⟨seen,J,g⟩;(try simp only[zcO,zcI,aY,zcz,zcL,Nat.reduceBEq, *]at W);(try simp only[zcI, *]at O);(try simp only[zcB,zcS,zdg,bw,Nat.reduceAdd]at m);repeat' (first
   |(apply zcl ?_;clear hK K)|apply Rx.o ?_|(apply aS (fun Z V=>?_) (fun Z V=>?_)<;>try(cases Z;done))|apply ak ?_|(apply zcm fun K hK=>?_)|apply ay ?_|apply zco ?_|apply zcA ?_)
  .have Y:j<z.length:=by simpa using Z
   have hgx2:z[j]?=some z[j]:=aO Y;have U:zcQ seen (z.drop j++(x.drop (i+1)).flatten)=(zcP seen z[j]||zcQ (seen++[z[j]]) (z.drop (j+1)++(x.drop (i+1)).flatten)):=by rw[d7 Y];rfl
   have hlk:=qH J z[j];have hup:=BL J z[j];repeat' (first
    |(apply zcl ?_;clear hK K)|apply Rx.o ?_|apply b8 ?_|(apply aS (fun Z V=>?_) (fun Z V=>?_)<;>try(cases Z;done))|apply ak ?_|(apply zcm fun K hK=>?_)|apply zco ?_|apply am ?_|fail)
   .all_goals (refine⟨eI,_,eR,?_⟩;try simp only[zcn])
    rw[g,U];(try simp only[fo]at *);simp only[*,mC,]
   .refine⟨ac,zcy,zcy,zcT,Hk,?_⟩;refine⟨m8 seen z[j],uK,?_⟩;rw[g,U,m8];(try simp only[fo]at *);simp only[*,jc,];rfl
  .have C:j=z.length:=by simp at Z;omega
   repeat' (first
    |(apply zcl ?_;clear hK K)|fail)
   refine⟨ac,zcy,zcy,zcT,Hl,?_⟩;exact⟨seen,J,by rw[g,C,jy,lK]⟩
 .all_goals (refine⟨eI,_,eR,?_⟩;try simp only[zcn])
  have A:i=x.length:=by simp at Z;omega
  rw[g,A,jy];rfl)
def pc(l:List (List UInt8)):AV:=if l=[]then .nilS else zdE l
def na(H:Hp)(v:AV)(l:List (List UInt8))(lo:Nat):Prop:=(v=.nilS/\l=[])\/(l≠[]/\lw H v l lo)
theorem na.n{H:Hp}{v:AV}{l:List (List UInt8)}{lo:Nat}(h:na H v l lo):mV H v l lo:=h.imp id fun h=>h.2
theorem na.keep{H H':Hp}{v:AV}{l:List (List UInt8)}{lo:Nat}(h:na H v l lo)(m:H.next<=H'.next)(A:∀k,zdF v k->H'.get k=H.get k):na H' v l lo:=h.imp id fun h=>⟨h.1,h.2.keep m A⟩
theorem HN(H:Hp)(n:Nat):∀l:List (List UInt8),iceL (iceV H (n+1)) (l.map .str)=some (l.map .str)
 |[]=>rfl
 |a::l=>by
  have:=HN H n l;have e:iceV H (n+1) (.str a)=some (.str a):=rfl;simp only[dJ,iceL,e,this]
theorem na.iceV{H:Hp}{v:AV}{l:List (List UInt8)}{lo:Nat}(h:na H v l lo)(n:Nat):iceV H (n+2) v=some (pc l):=by
 rcases h with⟨rfl,rfl⟩|⟨o,r,g,rfl,Z,_⟩
 .rfl
 .have e:Ab.iceV H (n+2) (.sl r 0 l.length 1)=match H.get r with
   |some (.cells W _ _)=>match iceL (Ab.iceV H (n+1)) ((W.drop 0).take (l.length*1))with
    |some j=>if j.length=l.length*1 then some (.lst (zdP 1 l.length j))else none
    |none=>none
   |_=>none:=rfl
  rw[e,Z];simp only[dQ,gg];rw[ev aD,HN];simp only[cR,bT,WN];rw[pc,ah o]
theorem HO(n:Nat)(l:List (List UInt8)):bE (n+2) (pc l)=zdE l:=by
 unfold pc;split
 .rename_i h;subst h;rfl
 .show AV.lst ((l.map fun s=>[AV.str s]).map fun z=>z.map (bE (n+1)))=_;rw[oD];rfl
set_option maxRecDepth 100000 in
theorem YM(ρ:Nat->Int)(p:Pr)(hz:p.sz<2^36):a9 Tryz.prog ρ 132 (fd p) (.tup [zdE (zda p),zdE (zd0 p)]):=z8 (n:=3) (zfi (r:=.tup [pc (zda p),pc (zd0 p)]) (m:=3) (cfg:=zcq pls []) fit (lc ρ) (fun f args r h=>by simp[zcq,zdn]at h) (.cons (.agg p.pure) .nil) (by
 have hw:=zdM 132;have C:(zcq pls []).keep 132=false:=rfl;have hpz:p.sz=1+kB p.arrays+kA p.funcs:=rfl;have hla:=rK p.arrays;have hlf:=rJ p.funcs;rw[fd];refine zcv (M:=38) (rs:=[.tmp 2,.tmp 3]) (hw.call _) hw.ice hw.froz Tryz.func132 rfl rfl HL.2 rfl ?_;dsimp only[HL,zcr,Nat.reduceAdd];repeat' (first
  |(apply zcl ?_;clear hK K)|apply Rx.o ?_|apply ak ?_|(apply zcm fun K hK=>?_)|apply ay ?_|fail)
 refine zdl [1,2,3,5,11,12] [0] 13 p.arrays.length (fun i E H=>∃v,E.at 4=v/\na H v ((zda p).take i) 1) eE ⟨.nilS,eE,.inl ⟨rfl,rfl⟩⟩ ?_;rintro i E W hi F Z A hsI ⟨v,k4,hv⟩;(try simp only[zcO,zcI,aY,zcz,zcL,Nat.reduceBEq, *]at F);(try simp only[zcO,zcI,aY,zcz,zcL, *]at Z);(try simp only[zcB,zdg,bw]at A);have hB0:(0 == W.next)=false:=zcD ac;have hC0:(W.next == 0)=false:=zcD ac;repeat' (first
  |(apply zcl ?_;clear hK K)|apply Rx.o ?_|(apply aS (fun z J=>?_) (fun z J=>?_)<;>try(cases z;done))|apply ak ?_|(apply zcm fun K hK=>?_)|apply ay ?_|apply zco ?_|apply zcA ?_)
 .have o:i<p.arrays.length:=by simpa using z
  have g:p.arrays[i]?=some p.arrays[i]:=aO o;have L:(zda p).take (i+1)=(zda p).take i++[p.arrays[i].name]:=by rw[zda,mw,dX,g];rfl
  repeat' (first
   |(apply zcl ?_;clear hK K)|apply Rx.o ?_|apply b8 ?_|(apply zcm fun K hK=>?_)|fail)
  generalize j:Hp.alloc (Hp.set _ _ _) _=V;have nb:V.next=W.next+2:=by rw[<-j];rfl
  have I:∀k,k<W.next->V.get k=W.get k:=fun k Y=>Hm
  have gb:V.get (W.next+1)=some (.cells [.str p.arrays[i].name] 0 true):=by rw[<-j,zcu,ax db]
  clear j;have hvb:mV V v ((zda p).take i) 1:=hv.n.keep ac fun k Y=>I k (hv.n.lt Y).2;obtain⟨v5,H5,a5,s5,n5,f5,o5⟩:=FE (r:=W.next+1) (imm:=0) p.arrays[i].name hvb ac gb co;have n5':V.next<=H5.next:=ac
  clear n5;have g50:H5.get 0=some (.cells p.cells 0 true):=by rw[f5 0 ac,I 0 ac];exact Z
  refine nL eV eV ut ?_;repeat' (first
   |(apply zcl ?_;clear hK K)|apply Rx.o ?_|(apply zcm fun K hK=>?_)|fail)
  refine⟨ac,zcy,zcy,zcT,Hn,?_⟩;exact⟨v5,eE,.inr ⟨by rw[L];simp,by rw[L];exact s5⟩⟩
 .have hie:i=p.arrays.length:=by simp at z;omega
  have U:(zda p).take i=zda p:=ev (by simp[zda];omega);rw[U]at hv;clear U hie hsI hi;repeat' (first
   |(apply zcl ?_;clear hK K)|fail)
  have c3:∀k,zdF v k->k<W.next:=fun k Y=>(hv.n.lt Y).2
  refine zdl [2,3,4,24,25] [0] 26 p.funcs.length (fun i E H=>∃u,E.at 5=u/\na H u ((zd0 p).take i) W.next/\na H v (zda p) 1) eE ⟨.nilS,eE,.inl ⟨rfl,rfl⟩,hv⟩ ?_;rintro i E O hi F Z A hsI ⟨u,zep,hu,hv3⟩;(try simp only[zcO,zcI,aY,zcz,zcL,Nat.reduceBEq, *]at F);(try simp only[zcO,zcI,aY, *]at Z);(try simp only[zcB,zcS,zdg,bw,Nat.reduceAdd]at A);have hB0:(0 == O.next)=false:=zcD ac;have hC0:(O.next == 0)=false:=zcD ac;repeat' (first
   |(apply zcl ?_;clear hK K)|apply Rx.o ?_|(apply aS (fun z J=>?_) (fun z J=>?_)<;>try(cases z;done))|apply ak ?_|(apply zcm fun K hK=>?_)|apply ay ?_|apply zco ?_|apply am ?_|apply zcA ?_)
  .have o:i<p.funcs.length:=by simpa using z
   have g:p.funcs[i]?=some p.funcs[i]:=aO o;have L:(zd0 p).take (i+1)=(zd0 p).take i++[p.funcs[i].name]:=by rw[zd0,mw,dX,g];rfl
   repeat' (first
    |(apply zcl ?_;clear hK K)|apply Rx.o ?_|apply b8 ?_|(apply zcm fun K hK=>?_)|fail)
   generalize j:Hp.alloc (Hp.set _ _ _) _=V;have nb:V.next=O.next+2:=by rw[<-j];rfl
   have I:∀k,k<O.next->V.get k=O.get k:=fun k Y=>Hm
   have gb:V.get (O.next+1)=some (.cells [.str p.funcs[i].name] 0 true):=by rw[<-j,zcu,ax db]
   clear j;have hub:mV V u ((zd0 p).take i) W.next:=hu.n.keep ac fun k Y=>I k (hu.n.lt Y).2
   obtain⟨v5,H5,a5,s5,n5,f5,o5⟩:=FE (r:=O.next+1) (imm:=0) p.funcs[i].name hub ac gb co;have n5':V.next<=H5.next:=ac
   clear n5;have g50:H5.get 0=some (.cells p.cells 0 true):=by rw[f5 0 ac,I 0 ac];exact Z
   refine nL eV eV ut ?_;repeat' (first
    |(apply zcl ?_;clear hK K)|apply Rx.o ?_|(apply zcm fun K hK=>?_)|fail)
   refine⟨ac,zcy,zcy,zcT,uL,?_⟩;exact⟨v5,eE,.inr ⟨by rw[L];simp,by rw[L];exact s5⟩,hv3.keep ac fun k Y=>by rw[f5 k (c3 k Y),I k (by have:=c3 k Y;omega)]⟩
  .have hie:i=p.funcs.length:=by simp at z;omega
   have U:(zd0 p).take i=zd0 p:=ev (by simp[zd0];omega);rw[U]at hu;repeat' (first
    |(apply zcl ?_;clear hK K)|fail)
   all_goals (refine⟨eI,_,eR,?_⟩;try simp only[zcn])
   have e1:=hv3.iceV (n:=0);have e2:=hu.iceV (n:=0);show(match iceL (iceV O 2) [v,u]with|some ds=>some (AV.tup ds)|none=>none)=_;simp only[iceL,e1,e2])) (by
 show AV.tup [bE 2 (pc (zda p)),bE 2 (pc (zd0 p))]=_;rw[HO,HO])
noncomputable def BM:En:=⟨132,false,bX (fun p=>p.sz<2^36) fd fun p=>.tup [zdE (zda p),zdE (zd0 p)]⟩
theorem HP(ρ:Nat->Int):zdd Tryz.prog ρ BM:=zdk fun p hp=>YM ρ p hp
noncomputable def BN:En:=⟨133,true,bX xJ m9 fun x=>.bool (zcQ [] x.flatten)⟩
theorem YN(ρ:Nat->Int):zdd Tryz.prog ρ BN:=zdk fun x F=>YL ρ x F
theorem HQ(x:List (List (List UInt8))):(x.map fun l=>[zdE l]).flatten=x.map zdE:=by
 induction x with
 |nil=>rfl
 |cons a l ih=>simp[ih]
theorem YO{H:Hp}{r imm:Nat}{x:List (List (List UInt8))}(A:H.get r=some (.cells (x.map zdE) imm true))(hr:r<H.next)(C:imm<=x.length):
 ∃H',ii (fw 100) [.sl r 0 x.length 1] H=some (m9 x,H')/\Icy (fun k=>k=r) H H':=by
 refine zdf.iceL (S:=fun k=>k=r) (n:=100) (m:=m9 x) ⟨?_,trivial⟩;have h:=zdf.rows (S:=fun k=>k=r) (n:=99) (H:=H) (r:=r) (z:=1) (imm:=imm) (tip:=true) (a:=x.map fun l=>[zdE l]) (b:=x.map fun l=>[zdE l]) rfl hr (by rw[HQ];exact A) (by rw[HQ];simpa using C) aD (zcW.refl fun a F=>zcW.refl fun c hc=>by
  obtain⟨l,_,rfl⟩:=mB.1 F;rw[List.mem_singleton]at hc;subst hc;exact lj ⟨ua l,trivial⟩)
 rw[cR]at h;exact h
theorem BO{l:List En}(I:∀z,zdn l 133 z=BN.sp z)(C:iz l 133=true){H:Hp}{r imm:Nat}{x:List (List (List UInt8))}(A:H.get r=some (.cells (x.map zdE) imm true))(hr:r<H.next)(K:imm<=x.length)(F:xJ x):
 zcx Tryz.prog (zcq pls l) 133 [.sl r 0 x.length 1] H fun v H'=>v=.bool (zcQ [] x.flatten)/\Icy (fun k=>k=r) H H':=by
 obtain⟨H',i,g⟩:=YO A hr K;refine a7 ?_ (Nz (enc:=m9) (out:=fun x=>.bool (zcQ [] x.flatten)) YJ (x:=x) I C F (H':=H') (fun y _ e=>by simp[m9]at e) i);rintro v _ ⟨rfl,rfl⟩;exact⟨rfl,g⟩
theorem BP(H:Hp)(a:List (List AV)):zdS Tryz.prog H 230 1 [(0,.lst a)]=some (.sl H.next 0 1 1,H.alloc (.cells [.lst a] 0 true)):=af
theorem YP(H:Hp)(a b:List (List AV)):zdS Tryz.prog H 230 2 [(0,.lst a),(1,.lst b)]=some (.sl H.next 0 2 1,H.alloc (.cells [.lst a,.lst b] 0 true)):=af
theorem YQ(H:Hp)(a b c:List (List AV)):zdS Tryz.prog H 230 3 [(0,.lst a),(1,.lst b),(2,.lst c)]=some (.sl H.next 0 3 1,H.alloc (.cells [.lst a,.lst b,.lst c] 0 true)):=af
noncomputable def BQ:List En:=[BM,BN]
theorem YR(ρ:Nat->Int):eX Tryz.prog ρ BQ:=⟨HP ρ,YN ρ,trivial⟩
set_option maxRecDepth 100000 in
theorem YS(ρ:Nat->Int)(p:Pr)(hz:p.sz<2^36):a9 Tryz.prog ρ 87 (fd p) (.bool (lC p)):=zdv fit (pls:=pls) (YR ρ) (.cons (.agg p.pure) .nil) (.bool _) (by
 have J:Plain (zcq pls BQ) 87:=zdm (fun _=>rfl) rfl;have kd:∀H,zcx Tryz.prog (zcq pls BQ) 132 [.agg p.cells] H fun v H'=>v=.tup [zdE (zda p),zdE (zd0 p)]/\H'=H:=fun H=>zds (enc:=fd) (out:=fun p=>.tup [zdE (zda p),zdE (zd0 p)]) qA (x:=p) rfl hz;have hpz:p.sz=1+kB p.arrays+kA p.funcs:=rfl;have hla:=rK p.arrays;have hlf:=rJ p.funcs;have hal:(zda p).length=p.arrays.length:=by simp[zda]
 have hfl:(zd0 p).length=p.funcs.length:=by simp[zd0]
 have hx0:∀a b,Ab.extract (.tup [a,b]) 0=some a:=fun _ _=>rfl;have hx1:∀a b,Ab.extract (.tup [a,b]) 1=some b:=fun _ _=>rfl;rw[fd];refine zcv (M:=35) (rs:=[.tmp 2]) (J.call _) J.ice J.froz Tryz.func87 rfl rfl HM.2 rfl ?_;dsimp only[HM,zcr,Nat.reduceAdd];have U:=@BP;repeat' (first
  |(apply zcl ?_;clear hK K)|apply Rx.o ?_|(apply iU ?_;first|refine Rx.k (kd _) ?_)|apply ak ?_|(apply zcm fun K hK=>?_)|fail)
 refine bg rfl bh bj ?_;simp only[br];refine a7 ?_ (BO (x:=[zda p]) (imm:=0) (fun _=>rfl) rfl nX (cL _) aD ⟨aD,co⟩);rintro v H2 ⟨rfl,Z⟩;have n2:=Z.next
 simp only[zcB,zdg]at n2;have F:H2.get 0=some (.cells p.cells 0 true):=by rw[Z.out 0 aD,zcu,ah aD,zcu,ax db]
 have n2':2<=H2.next:=ac
 clear Z n2;rw[show([zda p]:List (List (List UInt8))).flatten=zda p by simp];dsimp only[zcF];have U:=@BP;repeat' (first
  |(apply zcl ?_;clear hK K)|apply Rx.o ?_|(apply b0 (fun o I=>?_) (fun o I=>?_)<;>try(cases o;done))|(apply aS (fun z V=>?_) (fun z V=>?_)<;>try(cases z;done))|apply ak ?_|(apply zcm fun K hK=>?_)|apply am ?_|fail)
 .refine bg rfl bh bj ?_;simp only[br];refine a7 ?_ (BO (x:=[zd0 p]) (imm:=0) (fun _=>rfl) rfl nX (cL _) aD ⟨aD,co⟩);rintro v H3 ⟨rfl,Z⟩;have n3:=Z.next
  simp only[zcB]at n3;have g30:H3.get 0=some (.cells p.cells 0 true):=by rw[Z.out 0 ac,zcu,ah ac];exact F
  have n3':2<=H3.next:=ac
  clear Z n3;rw[show([zd0 p]:List (List (List UInt8))).flatten=zd0 p by simp];dsimp only[zcF];repeat' (first
   |(apply zcl ?_;clear hK K)|apply Rx.o ?_|(apply aS (fun z V=>?_) (fun z V=>?_)<;>try(cases z;done))|apply ak ?_|(apply zcm fun K hK=>?_)|apply ay ?_|apply zco ?_|apply am ?_|fail)
  .all_goals (refine⟨eI,_,eR,?_⟩;try simp only[zcn])
   rw[lC];(try simp only[fo]at *);simp only[ *,Ho,]
  .refine zdl [3,21,22] [0] 23 p.funcs.length (fun i E H=>(p.funcs.any fun f=>zcQ [] (zda p++(f.params++f.locals)))=((p.funcs.drop i).any fun f=>zcQ [] (zda p++(f.params++f.locals)))) eE aD ?_;rintro i E O hi L j m hsI g;(try simp only[zcO,zcI,aY,zcz,zcL,Nat.reduceBEq, *]at L);(try simp only[zcO,zcI,aY, *]at j);(try simp only[zcB,zcS,zdg,bw,Nat.reduceAdd]at m);have hB0:(0 == O.next)=false:=zcD ac;have hC0:(O.next == 0)=false:=zcD ac;repeat' (first
    |(apply zcl ?_;clear hK K)|apply Rx.o ?_|(apply aS (fun z V=>?_) (fun z V=>?_)<;>try(cases z;done))|apply ak ?_|(apply zcm fun K hK=>?_)|apply ay ?_|apply zco ?_|apply am ?_|apply zcA ?_)
   .have Y:i<p.funcs.length:=by simpa using z
    have hgx:p.funcs[i]?=some p.funcs[i]:=aO Y;have hsm:=rN (dj Y);have hsz:p.funcs[i].sz=1+p.funcs[i].name.length+zen p.funcs[i].params+zen p.funcs[i].locals+zes p.funcs[i].body+p.funcs[i].value.sz:=rfl;have hpl:=rI p.funcs[i].params;have hll:=rI p.funcs[i].locals;have W:((p.funcs.drop i).any fun f=>zcQ [] (zda p++(f.params++f.locals)))=(zcQ [] (zda p++(p.funcs[i].params++p.funcs[i].locals))||((p.funcs.drop (i+1)).any fun f=>zcQ [] (zda p++(f.params++f.locals)))):=by rw[d7 Y,mS]
    have U:=@YQ;repeat' (first
     |(apply zcl ?_;clear hK K)|apply Rx.o ?_|apply b8 ?_|apply ak ?_|(apply zcm fun K hK=>?_)|fail)
    refine bg rfl bh bj ?_;simp only[br];refine a7 ?_ (BO (x:=[zda p,p.funcs[i].params,p.funcs[i].locals]) (imm:=0) (fun _=>rfl) rfl nX (cL _) aD ⟨aD,co⟩);rintro v H5 ⟨rfl,Z⟩;have n5:=Z.next
    simp only[zcB,zcS]at n5;have g50:H5.get 0=some (.cells p.cells 0 true):=by rw[Z.out 0 (by intro e;change (0:Nat)=_ at e;(try simp only[zcS,zcB]at e);omega),zcu,ah (by(try simp only[zcS,zcB]);omega),aU,ah ac,zcu,ah ac];exact j
    have n5':O.next<=H5.next:=ac
    clear Z n5;rw[show([zda p,p.funcs[i].params,p.funcs[i].locals]:List (List (List UInt8))).flatten=zda p++(p.funcs[i].params++p.funcs[i].locals) by simp];dsimp only[zcF];repeat' (first
     |(apply zcl ?_;clear hK K)|apply Rx.o ?_|(apply aS (fun z V=>?_) (fun z V=>?_)<;>try(cases z;done))|apply ak ?_|(apply zcm fun K hK=>?_)|apply zco ?_|apply am ?_|fail)
    .all_goals (refine⟨eI,_,eR,?_⟩;try simp only[zcn])
     rw[lC,g,W];(try simp only[fo]at *);simp only[ *,Hr,]
    .refine⟨ac,zcy,zcy,zcT,uL,?_⟩;rw[g,W];(try simp only[fo]at *);simp only[*,jc,]
   .all_goals (refine⟨eI,_,eR,?_⟩;try simp only[zcn])
    have C:i=p.funcs.length:=uJ;rw[C,jy]at g;have A:(p.funcs.any fun f=>zcQ [] (zda p++(f.params++f.locals)))=false:=g;rw[lC,A];(try simp only[fo]at *);simp only[*,jx,]
 .repeat' (first
   |(apply zcl ?_;clear hK K)|fail)
  all_goals (refine⟨eI,_,eR,?_⟩;try simp only[zcn])
  rw[lC];(try simp only[fo]at *);simp only[*,mC,])
end
section
def tyV5.tyF:=ad @cI (ad @bZ (ad @d8 (ad @eY (ad @eL (@wM)))))
open tyV5
noncomputable def HR:{c:SC // aA 22 (Tryz.f99.body.getD .skip)=c}:=by
 refine⟨?_,?_⟩;rotate_left
 .simp only[Tryz.f99,a3,aA,zcG,zcE,zcJ,zcK,Nat.blt,Nat.ble];rfl
def zdu(n:Nd):List UInt8:=nZ (o0 n)
noncomputable def xK:En:=⟨147,false,bX (fun n=>n.kids.length<2^30) uH fun n=>.str (zdu n)⟩
theorem YT(ρ:Nat->Int):zdd Tryz.prog ρ xK:=zdk fun n m=>Ys ρ n m
theorem YU{tb:List En}(C:∀z,zdn tb 147 z=xK.sp z)(n:Nd)(m:n.kids.length<2^30)(H:Hp):zcx Tryz.prog (zcq pls tb) 147 [.agg n.cells] H fun v H'=>v=.str (zdu n)/\H'=H:=
 zds (enc:=uH) (ok:=fun n=>n.kids.length<2^30) (out:=fun n=>.str (zdu n)) Yr (x:=n) (C _) m
def jm(l:List Nd):Bool:=!zcQ [] (l.map zdu)
theorem YV(ρ:Nat->Int)(l:List Nd)(A:jK l):a9 Tryz.prog ρ 99 [zdy l] (.bool (jm l)):=zdv fit (pls:=pls) (l:=[xK]) ⟨YT ρ,trivial⟩ (.cons (ze8 _) .nil) (.bool _) (by
 obtain⟨hl1,C⟩:=A;have J:Plain (zcq pls [xK]) 99:=zdm (fun _=>rfl) rfl;refine zcv (M:=22) (rs:=[.tmp 2]) (J.call _) J.ice J.froz Tryz.func99 rfl rfl HR.2 rfl ?_;dsimp only[HR,zcr,Nat.reduceAdd];repeat' (first
  |(apply zcl ?_;clear hK K)|apply Rx.o ?_|apply ak ?_|(apply zcm fun K hK=>?_)|apply ay ?_|apply zco ?_|apply am ?_|apply zcA ?_)
 refine zdl [3,8,9] [] 10 l.length (fun i E H=>∃seen,H.get 0=some (.map (ep seen))/\zcQ [] (l.map zdu)=zcQ seen ((l.drop i).map zdu)) eE ⟨[],nX,rfl⟩ ?_;rintro i E F hi W j O o ⟨seen,hm,g⟩;(try simp only[zcO,zcI,aY,zcz,zcL,Nat.reduceBEq,Nat.reduceAdd,Nat.reduceLeDiff,tyF, *]at W);(try simp only[zcO,zcI,aY,zcz,zcL,Nat.reduceBEq,Nat.reduceAdd,Nat.reduceLeDiff,tyF, *]at j);(try simp only[zcB,zcS,zdg,bw,Nat.reduceAdd]at O);by_cases z:i<l.length
 .have m:(i:Int)<l.length:=by omega
  have hgx:l[i]?=some l[i]:=aO z;have I:=C _ (dj z);have U:zcQ seen ((l.drop i).map zdu)=(zcP seen (zdu l[i])||zcQ (seen++[zdu l[i]]) ((l.drop (i+1)).map zdu)):=by rw[d7 z];rfl
  generalize l[i]=n at *;have Y:∀b c,((F.alloc b).set F.next c).get 0=some (.map (ep seen)):=fun b c=>by rw[aU,ah ac,zcu,ah ac];exact hm
  have hlk:=fun b c=>qH (Y b c) (zdu n);have hup:=fun b c=>BL (Y b c) (zdu n);repeat' (first
   |(apply zcl ?_;clear hK K)|apply Ry.o ?_|apply b7 ?_|(apply bK ?_;first|refine Rx.k (YU (fun _=>rfl) _ I _) ?_)|(apply aB (fun Z V=>?_) (fun Z V=>?_)<;>try(cases Z;done))|apply ak ?_|(apply zcm fun K hK=>?_)|apply ay ?_|apply zco ?_|apply am ?_|apply zcA ?_)
  .all_goals (refine⟨eI,_,eR,?_⟩;try simp only[zcn])
   rw[jm,g,U];(try simp only[fo]at *);simp only[ *,lB,bT,ck,Int.reduceEq]
  .refine⟨ac,zcy,zcy,zcT,jz,?_⟩;refine⟨m8 seen (zdu n),uK,?_⟩;rw[g,U,m8];(try simp only[fo]at *);simp only[ *,lB,bT,ck,Int.reduceEq];rfl
 .have m:¬(i:Int)<l.length:=by omega
  have L:l.drop i=[]:=oQ ac;rw[L]at g;repeat' (first
   |(apply zcl ?_;clear hK K)|apply Ry.o ?_|apply b7 ?_|(apply aB (fun Z V=>?_) (fun Z V=>?_)<;>try(cases Z;done))|apply ak ?_|(apply zcm fun K hK=>?_)|apply ay ?_|apply zco ?_|apply am ?_|apply zcA ?_)
  all_goals (refine⟨eI,_,eR,?_⟩;try simp only[zcn])
  rw[jm,g];rfl)
end
section
def tyV6.tyF:=ad @cI (ad @bZ (ad @dl (ad @d8 (ad @eY (ad @eL (ad @mK (ad @mL (ad @hM (ad @ju (ad @wG (@At)))))))))))
open tyV6
noncomputable def xL:{c:SC // aA 114 (Tryz.f63.body.getD .skip)=c}:=by
 refine⟨?_,?_⟩;rotate_left
 .simp only[Tryz.f63,a3,aA,zcG,zcE,zcJ,zcK,Nat.blt,Nat.ble];rfl
theorem uQ{l:List Nd}{i:Nat}{n:Nd}(m:l[i]?=some n)(h:zdq l i≠0):NdOk n i/\(n.op=30->0<=n.imm/\n.imm<=7)/\uE n:=by
 have C:i<l.length:=by
  by_cases c:i<l.length
  .exact c
  .rw[fG ac]at m;cases m
 have U:=h;rw[Ga C]at h;obtain⟨s,W,Z,o⟩:=Xi m h;have I:=oU W;have j:=sg W;have V:n.op=3->0<=n.imm/\n.imm<=255:=fun e=>by
  rw[zdi,ah ac,ah ac,zdH,ah ac,ax e,dp,jq,jq]at o;exact o
 have Y:n.op=30->0<=n.imm/\n.imm<=7:=fun e=>by
  rw[zdi,ah ac,ah ac,zdH,ah ac,ah ac,ah ac,ax e,dp,jq,jq]at o;exact o
 have g:n.op=31->0<=n.imm/\n.imm<=15:=fun e=>by
  rw[zdi,ah ac,ah ac,zdH,ah ac,ah ac,ah ac,ah ac,ax e,dp,jq,jq]at o;exact o
 refine⟨⟨fun k z=>⟨(j k z).1,(j k z).2.1⟩,V,fun e=>?_⟩,Y,g,V⟩;have a:bc 31=(-1,true):=dr;rw[e,zc1,a]at Z;simp only[k2,ck]at Z;rw[ah ac,ax trivial]at Z;simp only[kw]at Z;exact⟨(g e).1,(g e).2,ac,ac⟩
theorem xM{l:List Nd}{i:Nat}(h:i<l.length):(zcZ l l.length)[i]?=some (zdq l i):=by
 have:=Xl (l:=l) h (aM _);rw[cJ]at this;have I:i<(zcZ l l.length).length:=by rw[zfb];exact h
 rw[aO I]at this⊢;exact ku some this
def kK(u:Un)(g:Gr)(i:Nat):Bool:=match g.nodes[i]? with
 |some n=>decide (zdq g.nodes i≠0)&&eF u g n
 |none=>true
def zdW(l:List Nd)(i:Int):Nat:=(zd4 l l.length).getD i.toNat 0
def ee(u:Un)(g:Gr):Bool:=
 (decide (0<=g.params)&&decide (g.params<=6)&&decide ((g.nodes.length:Int)<=2000))&&((List.range g.nodes.length).all (kK u g)) &&
 (jm g.nodes&&zeC g.nodes&&decide (0<=g.value)&&decide (g.value<g.nodes.length)&&decide (0<=g.state)&&decide (g.state<g.nodes.length)) &&
 (decide (zdq g.nodes g.value=1)&&decide (zdq g.nodes g.state=2)&&decide (zdW g.nodes g.value=0)&&decide (zdW g.nodes g.state=0))
noncomputable def HS:En:=⟨98,false,bX By qy fun x=>.bool (eF x.u x.g x.n)⟩
theorem YW(ρ:Nat->Int):zdd Tryz.prog ρ HS:=zdk fun x F=>X9 ρ x F
noncomputable def HT:En:=⟨99,false,bX jK iX fun l=>.bool (jm l)⟩
theorem YX(ρ:Nat->Int):zdd Tryz.prog ρ HT:=zdk fun l I=>YV ρ l I
noncomputable def HU:En:=⟨100,false,bX (fun l=>jK l/\∀n∈l,uE n) iX fun l=>.bool (zeC l)⟩
theorem YY(ρ:Nat->Int):zdd Tryz.prog ρ HU:=zdk fun l I=>X7 ρ l I.1 I.2
noncomputable def HV:En:=⟨101,false,bX qz iX fun l=>uF (zd4 l l.length)⟩
theorem YZ(ρ:Nat->Int):zdd Tryz.prog ρ HV:=zdk fun l I=>Ye ρ l I
noncomputable def qI:List En:=[Bt,HS,HT,HU,HV]
theorem Y0(ρ:Nat->Int):eX Tryz.prog ρ qI:=⟨X2 ρ,YW ρ,YX ρ,YY ρ,YZ ρ,trivial⟩
structure VgX where
 u:Un
 g:Gr
def me(x:VgX):List AV:=[.agg x.u.cells,.agg x.g.cells]
theorem HW(x y:VgX)(h:me x=me y):x=y:=by
 obtain⟨a,b⟩:=x;obtain⟨M,i⟩:=y;simp only[me,cM,AV.agg.injEq,aY]at h;rw[Un.inj h.1,Gr.inj h.2]
def xN(x:VgX):Prop:=jK x.g.nodes/\x.u.arrays.length<2^30/\x.u.funcs.length<2^30
theorem HY{l:List Nd}{i:Nat}(h:i<l.length):((zd4 l l.length).map fun(m:Nat)=>[AV.int .u32 (m:Int)])[i]?=some [.int .u32 ((zdW l i:Nat):Int)]:=by
 have I:i<(zd4 l l.length).length:=by rw[so];exact h
 rw[dX,zdW,dL,cJ,aO I];rfl
set_option maxRecDepth 100000 in
theorem Y1(ρ:Nat->Int)(x:VgX)(hx:xN x):a9 Tryz.prog ρ 63 (me x) (.bool (ee x.u x.g)):=zdv fit (pls:=pls) (Y0 ρ) (.cons (.agg (rS _)) (.cons (.agg (Gr.pure _)) .nil)) (.bool _) (by
 obtain⟨u,g⟩:=x;obtain⟨W,hua,huf⟩:=hx;have hw:Plain (zcq pls qI) 63:=zdm (fun _=>rfl) rfl;rw[me];simp only[]at W hua huf⊢;have hnl:=W.1;have ks:∀H,zcx Tryz.prog (zcq pls qI) 78 [zdy g.nodes] H fun v H'=>v=jk (zcZ g.nodes g.nodes.length)/\H'=H:=fun H=>X3 (fun _=>rfl) _ W H;by_cases c1:0<=g.params/\g.params<=6/\(g.nodes.length:Int)<=2000
 .obtain⟨c11,c12,c13⟩:=c1;have d1:¬g.params<0:=ac;have d2:¬(6:Int)<g.params:=ac;have d3:¬(2000:Int)<g.nodes.length:=ac;refine zcv (M:=114) (rs:=[.tmp 4]) (hw.call _) hw.ice hw.froz Tryz.func63 rfl rfl xL.2 rfl ?_;dsimp only[xL,zcr,Nat.reduceAdd];repeat' (first
   |(apply zcl ?_;clear hK K)|apply Ry.o ?_|(apply bK ?_;first|refine Rx.k (ks _) ?_)|(apply a8 (fun A I=>?_) (fun A I=>?_)<;>try(cases A;done))|(apply aB (fun z V=>?_) (fun z V=>?_)<;>try(cases z;done))|apply ak ?_|(apply zcm fun K hK=>?_)|apply ay ?_|apply zco ?_|fail)
  have o:∀i,i<g.nodes.length->kK u g i=false->ee u g=false:=fun i hi h=>by
   have:((List.range g.nodes.length).all (kK u g))=false:=by
    rw[BE];exact⟨i,jb.2 hi,by rw[h];simp⟩
   rw[ee,this];simp
  refine zdl [2,3,5,27,28] [0,1] 29 g.nodes.length (fun i E H=>∀j,j<i->kK u g j=true) eE (fun j hj=>ac) ?_;rintro i E Hi hi hcE hrH hnH hsI hJ;(try simp only[zcO,zcI,aY,zcz,zcL,Nat.reduceBEq, *]at hcE);(try simp only[zcO,zcI,aY,zcz,zcL,Nat.reduceBEq, *]at hrH);(try simp only[zcB,zdg,bw,Nat.reduceAdd]at hnH);have hB0:(0 == Hi.next)=false:=zcD ac;have hC0:(Hi.next == 0)=false:=zcD ac;have hB1:(1 == Hi.next)=false:=zcD ac;have hC1:(Hi.next == 1)=false:=zcD ac;have ni:2<=Hi.next:=hnH
  by_cases L:i<g.nodes.length
  .have hlt':(i:Int)<g.nodes.length:=by omega
   have hgx:g.nodes[i]?=some g.nodes[i]:=aO L;have hnk:=W.2 _ (dj L);have hsg:=xM L;have hsf:=fun h=>uQ hgx (l:=g.nodes) (i:=i) h;have C:kK u g i=(decide (zdq g.nodes i≠0)&&eF u g g.nodes[i]):=by rw[kK,hgx]
   have vf:=o i L;clear o;generalize g.nodes[i]=n at *;by_cases hs0:zdq g.nodes i=0
   .have vf2:=vf (by rw[C,hs0];rfl);clear C vf hJ hsf;rw[hs0]at hsg;repeat' (first
     |(apply zcl ?_;clear hK K)|apply Ry.o ?_|apply b7 ?_|(apply a8 (fun A I=>?_) (fun A I=>?_)<;>try(cases A;done))|(apply aB (fun z V=>?_) (fun z V=>?_)<;>try(cases z;done))|apply ak ?_|(apply zcm fun K hK=>?_)|apply ay ?_|apply zco ?_|apply am ?_|fail)
    all_goals (refine⟨eI,_,eR,?_⟩;try simp only[zcn])
    rw[vf2]
   .have O:kK u g i=eF u g n:=by rw[C,cB hs0,de]
    obtain⟨f1,f2,f3⟩:=hsf hs0;have kr:∀H,zcx Tryz.prog (zcq pls qI) 98 [.agg u.cells,.agg g.cells,.agg n.cells] H fun v H'=>v=.bool (eF u g n)/\H'=H:=fun H=>zds (enc:=qy) (ok:=By) (out:=fun x=>.bool (eF x.u x.g x.n)) X8 (x:=⟨u,g,n⟩) rfl ⟨fun h=>(f2 h).1,hnk,hua,huf⟩;clear C hsf f1 f2 f3;by_cases hr:eF u g n=true
    .repeat' (first
      |(apply zcl ?_;clear hK K)|apply Ry.o ?_|apply b7 ?_|(apply bK ?_;first|refine Rx.k (kr _) ?_)|(apply a8 (fun A I=>?_) (fun A I=>?_)<;>try(cases A;done))|(apply aB (fun z V=>?_) (fun z V=>?_)<;>try(cases z;done))|apply ak ?_|(apply zcm fun K hK=>?_)|apply ay ?_|apply zco ?_|fail)
     refine⟨ac,zcy,zcy,zcT,m1,?_⟩;intro j hj;by_cases e:j=i
     .rw[e,O,hr]
     .exact hJ j ac
    .have hr':eF u g n=false:=by simpa using hr
     have vf2:=vf (by rw[O,hr']);clear vf hJ O;repeat' (first
      |(apply zcl ?_;clear hK K)|apply Ry.o ?_|apply b7 ?_|(apply bK ?_;first|refine Rx.k (kr _) ?_)|(apply a8 (fun A I=>?_) (fun A I=>?_)<;>try(cases A;done))|(apply aB (fun z V=>?_) (fun z V=>?_)<;>try(cases z;done))|apply ak ?_|(apply zcm fun K hK=>?_)|apply ay ?_|apply zco ?_|apply am ?_|fail)
     all_goals (refine⟨eI,_,eR,?_⟩;try simp only[zcn])
     rw[vf2]
  .have hlt':¬(i:Int)<g.nodes.length:=by omega
   have U:∀j,j<g.nodes.length->kK u g j=true:=fun j hj=>hJ j ac;have F:∀(j:Nat) (n:Nd),g.nodes[j]?=some n->zdq g.nodes j≠0:=fun j n h=>by
    have hj:j<g.nodes.length:=by
     by_cases c:j<g.nodes.length
     .exact c
     .rw[fG ac]at h;cases h
    have:=U j hj;rw[kK,h,dp,jq]at this;exact this.1
   have hlp:∀n∈g.nodes,uE n:=fun n hn=>by
    obtain⟨j,hj,e⟩:=oA hn;have h:g.nodes[j]?=some n:=xz;exact(uQ h (F j n h)).2.2
   have hld:qz g.nodes:=⟨W,fun j n h=>(uQ h (F j n h)).1⟩;have J:((List.range g.nodes.length).all (kK u g))=true:=f9.2 fun j hj=>U j (jb.1 hj);have hvg:ee u g=((jm g.nodes&&zeC g.nodes&&decide (0<=g.value)&&decide (g.value<g.nodes.length)&&decide (0<=g.state)&&decide (g.state<g.nodes.length)) &&
    (decide (zdq g.nodes g.value=1)&&decide (zdq g.nodes g.state=2)&&decide (zdW g.nodes g.value=0)&&decide (zdW g.nodes g.state=0))):=by
    rw[ee,J,cB c11,cB c12,cB c13];simp
   rw[hvg];clear hvg J U F o hJ;have ka:∀H,zcx Tryz.prog (zcq pls qI) 99 [zdy g.nodes] H fun v H'=>v=.bool (jm g.nodes)/\H'=H:=fun H=>zds (enc:=iX) (ok:=jK) (out:=fun l=>.bool (jm l)) qu (x:=g.nodes) rfl W;have kl:∀H,zcx Tryz.prog (zcq pls qI) 100 [zdy g.nodes] H fun v H'=>v=.bool (zeC g.nodes)/\H'=H:=fun H=>zds (enc:=iX) (ok:=fun l=>jK l/\∀n∈l,uE n) (out:=fun l=>.bool (zeC l)) qu (x:=g.nodes) rfl ⟨W,hlp⟩;have kd:∀H,zcx Tryz.prog (zcq pls qI) 101 [zdy g.nodes] H fun v H'=>v=.lst ((zd4 g.nodes g.nodes.length).map fun(m:Nat)=>[AV.int .u32 (m:Int)])/\H'=H:=fun H=>zds (enc:=iX) (ok:=qz) (out:=fun l=>uF (zd4 l l.length)) qu (x:=g.nodes) rfl hld;have hsl:=zfb g.nodes g.nodes.length;clear hlp hld;generalize hdv:jm g.nodes=dv at *;generalize hvv:zeC g.nodes=vl at *;by_cases cg:dv=true/\vl=true/\0<=g.value/\g.value<g.nodes.length/\0<=g.state/\g.state<g.nodes.length
   .obtain⟨rfl,rfl,v0,v1,s0,s1⟩:=cg;obtain⟨a,ha⟩:=ez v0;obtain⟨b,hb0⟩:=ez s0;have hal:a<g.nodes.length:=ac;have hbl:b<g.nodes.length:=ac;have q1:=xM hal;have q2:=xM hbl;have q3:=HY hal;have q4:=HY hbl;have e1:¬((a:Int)<0):=ac;have e2:¬((g.nodes.length:Int)<=a):=ac;have e3:¬((b:Int)<0):=ac;have e4:¬((g.nodes.length:Int)<=b):=ac;rw[cB v0,cB v1,cB s0,cB s1];simp only[pM,de];rw[ha,hb0];clear v0 v1 s0 s1;repeat' (first
     |(apply zcl ?_;clear hK K)|apply Ry.o ?_|(apply bK ?_;first|refine Rx.k (ka _) ?_|refine Rx.k (kl _) ?_|refine Rx.k (kd _) ?_)|(apply a8 (fun A I=>?_) (fun A I=>?_)<;>try(cases A;done))|(apply aB (fun z V=>?_) (fun z V=>?_)<;>try(cases z;done))|apply ak ?_|(apply zcm fun K hK=>?_)|apply zco ?_|apply am ?_|apply zcA ?_)
    all_goals first
     |exact eK
     |skip
    all_goals
     refine⟨eI,_,dA,?_⟩;simp only[zcn]
    all_goals
     first
     |(congr 1;simp_all[Int.natCast_eq_zero];done)
     |trace_state
   .have Z:∀(b:Bool),¬b=false->b=true:=fun b h=>by simpa using h
    by_cases a1:dv=false
    .have Y:((dv&&vl&&decide (0<=g.value)&&decide (g.value<g.nodes.length)&&decide (0<=g.state)&&decide (g.state<g.nodes.length)) &&
     (decide (zdq g.nodes g.value=1)&&decide (zdq g.nodes g.state=2)&&decide (zdW g.nodes g.value=0)&&decide (zdW g.nodes g.state=0)))=false:=by rw[a1];rfl
     rw[Y];clear Y Z cg;repeat' (first
      |(apply zcl ?_;clear hK K)|apply Ry.o ?_|(apply bK ?_;first|refine Rx.k (ka _) ?_|refine Rx.k (kl _) ?_|refine Rx.k (kd _) ?_)|(apply a8 (fun A I=>?_) (fun A I=>?_)<;>try(cases A;done))|(apply aB (fun z V=>?_) (fun z V=>?_)<;>try(cases z;done))|apply ak ?_|(apply zcm fun K hK=>?_)|apply am ?_|apply zcA ?_)
     all_goals first
      |exact eK
      |skip
     all_goals (refine⟨eI,_,eR,?_⟩;try simp only[zcn])
    have b1:=Z _ a1;by_cases a2:vl=false
    .have Y:((dv&&vl&&decide (0<=g.value)&&decide (g.value<g.nodes.length)&&decide (0<=g.state)&&decide (g.state<g.nodes.length)) &&
     (decide (zdq g.nodes g.value=1)&&decide (zdq g.nodes g.state=2)&&decide (zdW g.nodes g.value=0)&&decide (zdW g.nodes g.state=0)))=false:=by rw[a2];simp
     rw[Y];clear Y Z cg;repeat' (first
      |(apply zcl ?_;clear hK K)|apply Ry.o ?_|(apply bK ?_;first|refine Rx.k (ka _) ?_|refine Rx.k (kl _) ?_|refine Rx.k (kd _) ?_)|(apply a8 (fun A I=>?_) (fun A I=>?_)<;>try(cases A;done))|(apply aB (fun z V=>?_) (fun z V=>?_)<;>try(cases z;done))|apply ak ?_|(apply zcm fun K hK=>?_)|apply am ?_|apply zcA ?_)
     all_goals first
      |exact eK
      |skip
     all_goals (refine⟨eI,_,eR,?_⟩;try simp only[zcn])
    have b2:=Z _ a2;by_cases zd9:g.value<0
    .have Y:((dv&&vl&&decide (0<=g.value)&&decide (g.value<g.nodes.length)&&decide (0<=g.state)&&decide (g.state<g.nodes.length)) &&
     (decide (zdq g.nodes g.value=1)&&decide (zdq g.nodes g.state=2)&&decide (zdW g.nodes g.value=0)&&decide (zdW g.nodes g.state=0)))=false:=by rw[cX (by omega:¬0<=g.value)];simp
     rw[Y];clear Y Z cg;repeat' (first
      |(apply zcl ?_;clear hK K)|apply Ry.o ?_|(apply bK ?_;first|refine Rx.k (ka _) ?_|refine Rx.k (kl _) ?_|refine Rx.k (kd _) ?_)|(apply a8 (fun A I=>?_) (fun A I=>?_)<;>try(cases A;done))|(apply aB (fun z V=>?_) (fun z V=>?_)<;>try(cases z;done))|apply ak ?_|(apply zcm fun K hK=>?_)|apply am ?_|apply zcA ?_)
     all_goals first
      |exact eK
      |skip
     all_goals (refine⟨eI,_,eR,?_⟩;try simp only[zcn])
    by_cases zea:(g.nodes.length:Int)<=g.value
    .have Y:((dv&&vl&&decide (0<=g.value)&&decide (g.value<g.nodes.length)&&decide (0<=g.state)&&decide (g.state<g.nodes.length)) &&
     (decide (zdq g.nodes g.value=1)&&decide (zdq g.nodes g.state=2)&&decide (zdW g.nodes g.value=0)&&decide (zdW g.nodes g.state=0)))=false:=by rw[cX (by omega:¬g.value<g.nodes.length)];simp
     rw[Y];clear Y Z cg;repeat' (first
      |(apply zcl ?_;clear hK K)|apply Ry.o ?_|(apply bK ?_;first|refine Rx.k (ka _) ?_|refine Rx.k (kl _) ?_|refine Rx.k (kd _) ?_)|(apply a8 (fun A I=>?_) (fun A I=>?_)<;>try(cases A;done))|(apply aB (fun z V=>?_) (fun z V=>?_)<;>try(cases z;done))|apply ak ?_|(apply zcm fun K hK=>?_)|apply am ?_|apply zcA ?_)
     all_goals first
      |exact eK
      |skip
     all_goals (refine⟨eI,_,eR,?_⟩;try simp only[zcn])
    by_cases a5:g.state<0
    .have Y:((dv&&vl&&decide (0<=g.value)&&decide (g.value<g.nodes.length)&&decide (0<=g.state)&&decide (g.state<g.nodes.length)) &&
     (decide (zdq g.nodes g.value=1)&&decide (zdq g.nodes g.state=2)&&decide (zdW g.nodes g.value=0)&&decide (zdW g.nodes g.state=0)))=false:=by rw[cX (by omega:¬0<=g.state)];simp
     rw[Y];clear Y Z cg;repeat' (first
      |(apply zcl ?_;clear hK K)|apply Ry.o ?_|(apply bK ?_;first|refine Rx.k (ka _) ?_|refine Rx.k (kl _) ?_|refine Rx.k (kd _) ?_)|(apply a8 (fun A I=>?_) (fun A I=>?_)<;>try(cases A;done))|(apply aB (fun z V=>?_) (fun z V=>?_)<;>try(cases z;done))|apply ak ?_|(apply zcm fun K hK=>?_)|apply am ?_|apply zcA ?_)
     all_goals first
      |exact eK
      |skip
     all_goals (refine⟨eI,_,eR,?_⟩;try simp only[zcn])
    have a6:(g.nodes.length:Int)<=g.state:=by
     by_cases c:(g.nodes.length:Int)<=g.state
     .exact c
     .exact absurd ⟨b1,b2,ac,ac,ac,ac⟩ cg
    have Y:((dv&&vl&&decide (0<=g.value)&&decide (g.value<g.nodes.length)&&decide (0<=g.state)&&decide (g.state<g.nodes.length)) &&
     (decide (zdq g.nodes g.value=1)&&decide (zdq g.nodes g.state=2)&&decide (zdW g.nodes g.value=0)&&decide (zdW g.nodes g.state=0)))=false:=by rw[cX (by omega:¬g.state<g.nodes.length)];simp
    rw[Y];clear Y Z cg;repeat' (first
     |(apply zcl ?_;clear hK K)|apply Ry.o ?_|(apply bK ?_;first|refine Rx.k (ka _) ?_|refine Rx.k (kl _) ?_|refine Rx.k (kd _) ?_)|(apply a8 (fun A I=>?_) (fun A I=>?_)<;>try(cases A;done))|(apply aB (fun z V=>?_) (fun z V=>?_)<;>try(cases z;done))|apply ak ?_|(apply zcm fun K hK=>?_)|apply am ?_|apply zcA ?_)
    all_goals first
     |exact eK
     |skip
    all_goals (refine⟨eI,_,eR,?_⟩;try simp only[zcn])
 .have hv:ee u g=false:=by
   rw[ee];cases h:(decide (0<=g.params)&&decide (g.params<=6)&&decide ((g.nodes.length:Int)<=2000))with
   |false=>simp
   |true=>
    simp only[kw]at h;exact absurd ⟨h.1.1,h.1.2,h.2⟩ c1
  rw[hv];refine zcv (M:=114) (rs:=[.tmp 4]) (hw.call _) hw.ice hw.froz Tryz.func63 rfl rfl xL.2 rfl ?_;dsimp only[xL,zcr,Nat.reduceAdd];by_cases d1:g.params<0
  .repeat' (first
    |(apply zcl ?_;clear hK K)|apply Ry.o ?_|(apply a8 (fun A I=>?_) (fun A I=>?_)<;>try(cases A;done))|(apply aB (fun z V=>?_) (fun z V=>?_)<;>try(cases z;done))|apply ak ?_|(apply zcm fun K hK=>?_)|apply am ?_|fail)
   all_goals (refine⟨eI,_,eR,?_⟩;try simp only[zcn])
  .by_cases d2:(6:Int)<g.params
   .repeat' (first
     |(apply zcl ?_;clear hK K)|apply Ry.o ?_|(apply a8 (fun A I=>?_) (fun A I=>?_)<;>try(cases A;done))|(apply aB (fun z V=>?_) (fun z V=>?_)<;>try(cases z;done))|apply ak ?_|(apply zcm fun K hK=>?_)|apply am ?_|fail)
    all_goals (refine⟨eI,_,eR,?_⟩;try simp only[zcn])
   .have d3:(2000:Int)<g.nodes.length:=by omega
    repeat' (first
     |(apply zcl ?_;clear hK K)|apply Ry.o ?_|(apply a8 (fun A I=>?_) (fun A I=>?_)<;>try(cases A;done))|(apply aB (fun z V=>?_) (fun z V=>?_)<;>try(cases z;done))|apply ak ?_|(apply zcm fun K hK=>?_)|apply am ?_|fail)
    all_goals (refine⟨eI,_,eR,?_⟩;try simp only[zcn]))
end
section
def tyW4a.tyF:=ad @bZ (ad @dl (ad @iA (ad @iB (ad @gk (ad @jv (@cI))))))
open tyW4a
noncomputable def HZ:{c:SC // aA 28 (Tryz.f129.body.getD .skip)=c}:=by
 refine⟨?_,?_⟩;rotate_left
 .simp only[Tryz.f129,a3,aA,zcG,zcE,zcJ,zcK,Nat.blt,Nat.ble];rfl
noncomputable def H0:{c:SC // aA 39 (Tryz.f123.body.getD .skip)=c}:=by
 refine⟨?_,?_⟩;rotate_left
 .simp only[Tryz.f123,a3,aA,zcG,zcE,zcJ,zcK,Nat.blt,Nat.ble];rfl
def sF(cfg:Cfg)(base:Nat)(I:Hp->Prop)(g:FuncId)(cap:List AV)(q:Ex->Int->Bool):Prop:=
 ∀(x:Ex) (d:Int) (H:Hp),x.sz<2^60->base<=H.next->I H->zcx Tryz.prog cfg g (.agg x.cells::.int .i64 d::cap) H fun v H'=>v=.bool (q x d)/\FrB base H H'/\I H'
def pd(base:Nat)(I:Hp->Prop):Prop:=∀H H',I H->fz base H H'->I H'
theorem sG{cfg:Cfg}(j:Plain cfg 129){base:Nat}{I:Hp->Prop}(hI:pd base I){g:FuncId}{cap:List AV}{q:Ex->Int->Bool}(hq:sF cfg base I g cap q):
 ∀(n:Nat) (x:Ex),x.sz<n->∀(d:Int) (H:Hp),x.sz<2^60->base<=H.next->I H->zcx Tryz.prog cfg 129 [.agg x.cells,.int .i64 d,.clo g cap] H fun v H'=>v=.bool (js q x d)/\FrB base H H'/\I H'
 |0,x,hx,_,_,_,_,_=>by omega
 |n+1,x,hx,d,H,hz,hbase,hi=>by
  refine zcv (M:=28) (rs:=[.tmp 6]) (j.call _) j.ice j.froz Tryz.func129 rfl rfl HZ.2 rfl ?_;dsimp only[HZ,zcr,Nat.reduceAdd];repeat' (first
   |(apply zcl ?_;clear hK K)|apply Rx.o ?_|apply b8 ?_|(apply aS (fun z V=>?_) (fun z V=>?_)<;>try(cases z;done))|apply ak ?_|(apply zcm fun K hK=>?_)|apply ay ?_|apply zco ?_|apply am ?_|apply zcA ?_)
  refine bg rfl bh bj ?_;simp only[eM];have J:FrB base H (H.alloc (.cells x.cells 0 true)):=(fT _ _).alloc _;refine a7 ?_ (hq x d (H.alloc (.cells x.cells 0 true)) hz gR (hI _ _ hi ((lS _ _).alloc hbase _)));rintro v H1 ⟨rfl,o,U⟩;have hg1:H1.get H.next=some (.cells x.cells 0 true):=by
   rw[o.get _ hbase sm,zcu,ax rfl]
  have hn1:H.next<H1.next:=by have:=o.next;simp only[zcB]at this;omega
  dsimp only[zcF];repeat' (first
   |(apply zcl ?_;clear hK K)|apply Rx.o ?_|apply b8 ?_|(apply aS (fun z V=>?_) (fun z V=>?_)<;>try(cases z;done))|apply ak ?_|(apply zcm fun K hK=>?_)|apply ay ?_|apply zco ?_|apply am ?_|apply zcA ?_)
  .all_goals (refine⟨eI,_,eR,?_⟩;try simp only[zcn])
   refine⟨?_,J.trans o,U⟩;rw[zP];simp_all
  have hl:x.kids.length<2^60:=by have:=t6 x.kids;have:=x.sz_eq;omega
  refine lR (fun i E Y=>zew q x.kids (eA (d+1))=zew q (x.kids.drop i) (eA (d+1))/\E.at 1=.int .i64 d/\E.at 2=.clo g cap/\E.at 15=.lst (x.kids.map Ex.cells)/\E.at 16=.int .i64 x.kids.length/\E.at 17=.int .i64 i/\FrB base H Y/\I Y) x.kids.length ?_ ?_
  .rintro i E Y hi2 ⟨hc,h1,h2,h15,h16,h17,W,O⟩;repeat' (first
    |(apply zcl ?_;clear hK K)|apply Rx.o ?_|apply b8 ?_|(apply aS (fun z V=>?_) (fun z V=>?_)<;>try(cases z;done))|apply ak ?_|(apply zcm fun K hK=>?_)|apply ay ?_|apply zco ?_|apply am ?_|apply zcA ?_)
   .have Z:i<x.kids.length:=by simpa using z
    have hgx:x.kids[i]?=some x.kids[i]:=aO Z;repeat' (first
     |(apply zcl ?_;clear hK K)|apply Rx.o ?_|apply b8 ?_|(apply aS (fun z V=>?_) (fun z V=>?_)<;>try(cases z;done))|apply ak ?_|(apply zcm fun K hK=>?_)|apply ay ?_|apply zco ?_|apply am ?_|apply zcA ?_)
    have hxm:x.kids[i]∈x.kids:=dj Z;have hsm:=rL hxm;have hsx:=x.sz_eq;have F:FrB base Y ((Y.alloc (.cells [.int .i64 0,.int .i64 0,.str [],.int .i64 0,.nilS] 0 true)).set Y.next (.cells x.kids[i].cells 0 true)):=((fT _ _).alloc _).set (.inl (aM _)) _;have C:base<=Y.next:=eG hbase (W.next)
    have m:fz base Y ((Y.alloc (.cells [.int .i64 0,.int .i64 0,.str [],.int .i64 0,.nilS] 0 true)).set Y.next (.cells x.kids[i].cells 0 true)):=((lS _ _).alloc C _).set C _;refine bg rfl bh bj ?_;simp only[eM];refine a7 ?_ (sG j hI hq n x.kids[i] ac _ _ ac BD (hI _ _ O m));rintro v H3 ⟨rfl,A,L⟩;dsimp only[zcF];repeat' (first
     |(apply zcl ?_;clear hK K)|apply Rx.o ?_|apply b8 ?_|(apply aS (fun z V=>?_) (fun z V=>?_)<;>try(cases z;done))|apply ak ?_|(apply zcm fun K hK=>?_)|apply ay ?_|apply zco ?_|apply am ?_|apply zcA ?_)
    .all_goals (refine⟨eI,_,eR,?_⟩;try simp only[zcn])
     refine⟨?_,(W.trans F).trans A,L⟩;rw[zP,hc,wo q Z];simp_all
    .refine⟨Z,?_,eE,eE,eE,eE,?_,(W.trans F).trans A,L⟩
     .rw[hc,wo q Z];simp_all
     .simp only[gH,Nat.reduceBEq,fM,zeL (show i<2^62 by omega)]
   .have hi3:i=x.kids.length:=by simp at z;omega
    all_goals (refine⟨eI,_,eR,?_⟩;try simp only[zcn])
    refine⟨?_,W,O⟩;rw[zP,hc,hi3];simp_all[zew]
  .exact⟨rfl,eE,eE,eE,eE,eE,J.trans o,U⟩
end
section
def tyW4b.tyF:=ad @bZ (ad @dl (ad @iA (ad @iB (ad @gk (@jv)))))
open tyW4b
def uR{Z:Type}(cfg:Cfg)(base:Nat)(I:Z->Hp->Prop)(g:FuncId)(cap:List AV)(q:St->Int->Z->Bool×Z):Prop:=
 ∀(x:St) (d:Int) (s:Z) (H:Hp),x.sz<2^60->base<=H.next->I s H->zcx Tryz.prog cfg g (.agg x.cells::.int .i64 d::cap) H fun v H'=>v=.bool (q x d s).1/\FrB base H H'/\I (q x d s).2 H'
theorem sH{cfg:Cfg}(hw:Plain cfg 123){σ:Type}{base:Nat}{I:σ->Hp->Prop}(hI:∀s,pd base (I s)){g:FuncId}{cap:List AV}{q:St->Int->σ->Bool×σ}(hq:uR cfg base I g cap q):
 ∀(n:Nat) (l:List St),zes l<n->∀(d:Int) (s:σ) (H:Hp),zes l<2^60->base<=H.next->I s H->zcx Tryz.prog cfg 123 [.lst (l.map St.cells),.int .i64 d,.clo g cap] H fun v H'=>v=.bool (zdG q l d s).1/\FrB base H H'/\I (zdG q l d s).2 H'
 |0,l,hx,_,_,_,_,_,_=>by omega
 |n+1,l,hx,d,s,H,hz,hbase,hi=>by
  refine zcv (M:=39) (rs:=[.tmp 6]) (hw.call _) hw.ice hw.froz Tryz.func123 rfl rfl H0.2 rfl ?_;dsimp only[H0,zcr,Nat.reduceAdd];repeat' (first
   |(apply zcl ?_;clear hK K)|apply Rx.o ?_|apply ak ?_|(apply zcm fun K hK=>?_)|apply ay ?_|fail)
  have hl:l.length<2^60:=by have:=DX l;omega
  refine lR (fun i E Y=>∃j,zdG q l d s=zdG q (l.drop i) d j/\E.at 1=.int .i64 d/\E.at 2=.clo g cap/\E.at 9=.lst (l.map St.cells)/\E.at 10=.int .i64 l.length/\E.at 11=.int .i64 i/\FrB base H Y/\I j Y) l.length ?_ ?_
  .rintro i E Y hi2 ⟨j,hc,h1,h2,h9,h10,h11,W,hI2⟩;repeat' (first
    |(apply zcl ?_;clear hK K)|apply Rx.o ?_|(apply aS (fun z V=>?_) (fun z V=>?_)<;>try(cases z;done))|apply ak ?_|(apply zcm fun K hK=>?_)|apply ay ?_|apply zco ?_|apply am ?_|apply zcA ?_)
   .have O:i<l.length:=by simpa using z
    have hgx:l[i]?=some l[i]:=aO O;repeat' (first
     |(apply zcl ?_;clear hK K)|apply Rx.o ?_|apply b8 ?_|apply ak ?_|(apply zcm fun K hK=>?_)|fail)
    have hxm:l[i]∈l:=dj O;have hsm:=rM hxm;have hsx:=l[i].sz_eq;generalize hx0:l[i]=x at *;have C:base<=Y.next:=eG hbase W.next
    generalize L:(Y.alloc _).set Y.next _=H3
    have J:FrB base Y H3:=by rw[<-L];exact((fT _ _).alloc _).set (.inl (aM _)) _
    have hlow:fz base Y H3:=by rw[<-L];exact((lS _ _).alloc C _).set C _
    have hn3:Y.next<H3.next:=by rw[<-L];simp only[zcB,zcS];omega
    have hg3:H3.get Y.next=some (.cells x.cells 0 true):=by rw[<-L,aU,ax rfl]
    have hI3:=hI _ _ _ hI2 hlow;have hwd:=Nb q O d j;rw[hx0,Na]at hwd;rw[hwd]at hc;refine bg rfl bh bj ?_;simp only[AD];refine a7 ?_ (hq x d j H3 ac ac hI3);rintro v H4 ⟨rfl,U,hI4⟩;generalize hq1:q x d j=zct at *;obtain⟨ok1,s3⟩:=zct;have hg4:H4.get Y.next=some (.cells x.cells 0 true):=by rw[U.get _ C hn3];exact hg3
    have hn4:Y.next<H4.next:=fZ hn3 U.next
    dsimp only[zcF];cases ok1 with
    |false=>
     repeat' (first
      |(apply zcl ?_;clear hK K)|apply Rx.o ?_|(apply b0 (fun A Z=>?_) (fun A Z=>?_)<;>try(cases A;done))|(apply aS (fun z V=>?_) (fun z V=>?_)<;>try(cases z;done))|apply ak ?_|(apply zcm fun K hK=>?_)|apply am ?_|fail)
     all_goals (refine⟨eI,_,eR,?_⟩;try simp only[zcn])
     dsimp only at hc;rw[hc];exact⟨rfl,(W.trans J).trans U,hI4⟩
    |true=>
     repeat' (first
      |apply Rx.o ?_|(apply b0 (fun A Z=>?_) (fun A Z=>?_)<;>try(cases A;done))|fail)
     refine bg rfl bh bj ?_;simp only[br];have hrec:=sH hw hI hq n x.thn ac (eA (d+1)) s3 H4 ac ac hI4;refine a7 ?_ hrec;rintro v H5 ⟨rfl,F,hI5⟩;generalize o:zdG q x.thn (eA (d+1)) s3=r2 at *;obtain⟨ok2,s4⟩:=r2;have hg5:H5.get Y.next=some (.cells x.cells 0 true):=by rw[F.get _ C hn4];exact hg4
     have hn5:Y.next<H5.next:=fZ hn4 F.next
     dsimp only[zcF];cases ok2 with
     |false=>
      repeat' (first
       |(apply zcl ?_;clear hK K)|apply Rx.o ?_|(apply b0 (fun A Z=>?_) (fun A Z=>?_)<;>try(cases A;done))|(apply aS (fun z V=>?_) (fun z V=>?_)<;>try(cases z;done))|apply ak ?_|(apply zcm fun K hK=>?_)|apply am ?_|fail)
      all_goals (refine⟨eI,_,eR,?_⟩;try simp only[zcn])
      simp only[o]at hc;rw[hc];exact⟨rfl,((W.trans J).trans U).trans F,hI5⟩
     |true=>
      repeat' (first
       |apply Rx.o ?_|(apply b0 (fun A Z=>?_) (fun A Z=>?_)<;>try(cases A;done))|fail)
      refine bg rfl bh bj ?_;simp only[br];have m:=sH hw hI hq n x.els ac (eA (d+1)) s4 H5 ac ac hI5;refine a7 ?_ m;rintro v H6 ⟨rfl,hf6,hI6⟩;generalize hq3:zdG q x.els (eA (d+1)) s4=r3 at *;obtain⟨ok3,s5⟩:=r3;dsimp only[zcF];have hf7:FrB base H H6:=(((W.trans J).trans U).trans F).trans hf6;cases ok3 with
      |false=>
       repeat' (first
        |(apply zcl ?_;clear hK K)|apply Rx.o ?_|(apply b0 (fun A Z=>?_) (fun A Z=>?_)<;>try(cases A;done))|(apply aS (fun z V=>?_) (fun z V=>?_)<;>try(cases z;done))|apply ak ?_|(apply zcm fun K hK=>?_)|apply am ?_|fail)
       all_goals (refine⟨eI,_,eR,?_⟩;try simp only[zcn])
       simp only[o,hq3]at hc;rw[hc];exact⟨rfl,hf7,hI6⟩
      |true=>
       repeat' (first
        |(apply zcl ?_;clear hK K)|apply Rx.o ?_|(apply b0 (fun A Z=>?_) (fun A Z=>?_)<;>try(cases A;done))|(apply aS (fun z V=>?_) (fun z V=>?_)<;>try(cases z;done))|(apply zcm fun K hK=>?_)|apply zco ?_|fail)
       refine⟨O,s5,?_,eE,eE,eE,eE,?_,hf7,hI6⟩
       .simp only[o,hq3]at hc;exact hc
       .simp only[gH,Nat.reduceBEq,fM,zeL (show i<2^62 by omega)]
   .have hi3:i=l.length:=by simp at z;omega
    all_goals (refine⟨eI,_,eR,?_⟩;try simp only[zcn])
    rw[hc,hi3];simp only[jy,zdG];exact⟨trivial,W,hI2⟩
  .exact⟨s,rfl,eE,eE,eE,eE,eE,fT _ _,hi⟩
end
section
def tyW4c.tyF:=ad @bZ (ad @dl (ad @iA (ad @iB (ad @gk (ad @jv (ad @cI (ad @jQ (ad @mN (@EM)))))))))
open tyW4c
noncomputable def H9:{c:SC // aA 24 (Tryz.f124.body.getD .skip)=c}:=by
 refine⟨?_,?_⟩;rotate_left
 .simp only[Tryz.f124,a3,aA,zcG,zcE,zcJ,zcK,Nat.blt,Nat.ble];rfl
noncomputable def Ia:{c:SC // aA 7 (Tryz.f126.body.getD .skip)=c}:=by
 refine⟨?_,?_⟩;rotate_left
 .simp only[Tryz.f126,a3,aA,zcG,zcE,zcJ,zcK,Nat.blt,Nat.ble];rfl
noncomputable def Ib:{c:SC // aA 32 (Tryz.f169.body.getD .skip)=c}:=by
 refine⟨?_,?_⟩;rotate_left
 .simp only[Tryz.f169,a3,aA,zcG,zcE,zcJ,zcK,Nat.blt,Nat.ble];rfl
noncomputable def Ic:{c:SC // aA 15 (Tryz.f125.body.getD .skip)=c}:=by
 refine⟨?_,?_⟩;rotate_left
 .simp only[Tryz.f125,a3,aA,zcG,zcE,zcJ,zcK,Nat.blt,Nat.ble];rfl
theorem Y2{cfg:Cfg}(J:Plain cfg 124){base rn rl:Nat}(m:rn<base)(Y:rl<base)(W:rn≠rl)(U:Hp):
 uR cfg base (fun(s:Int×Int) H=>H.get rn=some (.cells [.int .i64 s.1] 0 true)/\H.get rl=some (.cells [.int .i64 s.2] 0 true)/\∀r,r<base->r≠rn->r≠rl->H.get r=U.get r) 124 [.ptr rn 0,.ptr rl 0] kC:=by
 intro x d s H i A ⟨o,O,C⟩;have g:(rn == H.next)=false:=co;have e2:(rl == H.next)=false:=co;have e3:(rl == rn)=false:=co;have e4:(rn == rl)=false:=co;have e5:(H.next == rn)=false:=co;have e6:(H.next == rl)=false:=co;refine zcv (M:=24) (rs:=[.tmp 6]) (J.call _) J.ice J.froz Tryz.func124 rfl rfl H9.2 rfl ?_;dsimp only[H9,zcr,Nat.reduceAdd];repeat' (first
  |(apply zcl ?_;clear hK K)|apply Rx.o ?_|apply b8 ?_|(apply b0 (fun Z I=>?_) (fun Z I=>?_)<;>try(cases Z;done))|(apply aS (fun z V=>?_) (fun z V=>?_)<;>try(cases z;done))|apply ak ?_|(apply zcm fun K hK=>?_)|apply zco ?_|apply am ?_)
 all_goals (refine⟨eI,_,eR,?_⟩;try simp only[zcn])
 all_goals (refine⟨?_,?_,?_,?_,?_⟩)
 all_goals first
  |(intro r j L F;simp only[aU,zcu,L,F,show ¬r=H.next by omega,ck];exact C r j L F)
  |exact(((fT _ _).alloc _).set (.inr m) _).set (.inr Y) _
  |exact((fT _ _).alloc _).set (.inr m) _
  |(simp only[get_set,pT,kC, *,fM,nK,xA,w5,bT,ck];done)
  |(simp_all[kC,get_set,pT];done)
  |skip
theorem Y3{cfg:Cfg}(J:Plain cfg 126){base:Nat}{I:Hp->Prop}(Z:pd base I):sF cfg base I 126 [] nM:=by
 intro x d H m A C;refine zcv (M:=7) (rs:=[.tmp 4]) (J.call _) J.ice J.froz Tryz.func126 rfl rfl Ia.2 rfl ?_;dsimp only[Ia,zcr,Nat.reduceAdd];repeat' (first
  |(apply zcl ?_;clear hK K)|apply Rx.o ?_|apply ak ?_|(apply zcm fun K hK=>?_)|apply am ?_)
 all_goals (refine⟨eI,_,eR,?_⟩;try simp only[zcn])
 exact⟨rfl,(fT _ _).alloc _,Z _ _ C ((lS _ _).alloc A _)⟩
theorem Y4{cfg:Cfg}(hw:Plain cfg 169)(hwe:Plain cfg 129){base A:Nat}(Z:base<=A){I:Hp->Prop}(hI:pd base I){g:FuncId}{cap:List AV}{q:Ex->Int->Bool}(hq:sF cfg base I g cap q)
 {r3:Nat} (hr1:base<=r3) (hr2:r3<A) (H1:Hp) :
 uR cfg A (fun(_:Unit) H=>I H/\H.get r3=some (.cells [.clo g cap] 0 true)/\∀r,base<=r->r<A->H.get r=H1.get r) 169 [.ptr r3 0] (lg q):=by
 intro x d s H hz hbase ⟨hi,hi3,hi1⟩;have hsz:=x.sz_eq;have e1:(r3 == H.next)=false:=co;have e2:(H.next == r3)=false:=co;refine zcv (M:=32) (rs:=[.tmp 5]) (hw.call _) hw.ice hw.froz Tryz.func169 rfl rfl Ib.2 rfl ?_;dsimp only[Ib,zcr,Nat.reduceAdd];repeat' (first
  |(apply zcl ?_;clear hK K)|apply Rx.o ?_|apply ak ?_|(apply zcm fun K hK=>?_)|fail)
 have hIa:=hI _ _ hi ((lS base H).alloc (eG Z hbase) (.cells x.cells 0 true));refine bg rfl bh bj ?_;simp only[br];refine a7 ?_ (sG hwe hI hq (x.at_.sz+1) x.at_ ac 0 _ ac gR hIa);rintro v F ⟨rfl,C,hi2⟩;have hn2:H.next<F.next:=by have:=C.next;simp only[zcB]at this;omega
 have hg2:F.get H.next=some (.cells x.cells 0 true):=by rw[C.get _ ac sm,zcu,ax rfl]
 have hr3:F.get r3=some (.cells [.clo g cap] 0 true):=by rw[C.get _ hr1 gR,zcu,ah ac];exact hi3
 have hF2:FrB base H F:=((fT _ _).alloc _).trans C;have L:∀r,base<=r->r<A->F.get r=H1.get r:=fun r j h2=>by rw[hF2.get r j ac];exact hi1 r j h2
 dsimp only[zcF];repeat' (first
  |(apply zcl ?_;clear hK K)|apply Rx.o ?_|(apply b0 (fun hg hgp=>?_) (fun hg hgp=>?_)<;>try(cases hg;done))|(apply aS (fun z V=>?_) (fun z V=>?_)<;>try(cases z;done))|apply ak ?_|(apply zcm fun K hK=>?_)|apply am ?_|fail)
 .refine bg rfl bh bj ?_;simp only[br];refine a7 ?_ (sG hwe hI hq (x.value.sz+1) x.value ac 0 _ ac ac hi2);rintro v H3 ⟨rfl,Y,hi3'⟩;have hn3:H.next<H3.next:=fZ hn2 Y.next
  have hg3:H3.get H.next=some (.cells x.cells 0 true):=by rw[Y.get _ ac hn2];exact hg2
  have hr3b:H3.get r3=some (.cells [.clo g cap] 0 true):=by rw[Y.get _ hr1 ac];exact hr3
  have hF3:FrB base H H3:=hF2.trans Y;have O:∀r,base<=r->r<A->H3.get r=H1.get r:=fun r j h2=>by rw[Y.get r j ac];exact L r j h2
  dsimp only[zcF];repeat' (first
   |(apply zcl ?_;clear hK K)|apply Rx.o ?_|(apply b0 (fun hg hgp=>?_) (fun hg hgp=>?_)<;>try(cases hg;done))|(apply aS (fun z V=>?_) (fun z V=>?_)<;>try(cases z;done))|apply ak ?_|(apply zcm fun K hK=>?_)|apply ay ?_|apply zco ?_|apply am ?_|fail)
  .all_goals (refine⟨eI,_,eR,?_⟩;try simp only[zcn])
   exact⟨by simp_all[lg],hF3.weak Z,hi3',hr3b,O⟩
  have hl:x.args.length<2^60:=by have:=t6 x.args;omega
  refine lR (fun i E F=>zew q x.args 0=zew q (x.args.drop i) 0/\E.at 2=.ptr r3 0/\E.at 21=.lst (x.args.map Ex.cells)/\E.at 22=.int .i64 x.args.length/\E.at 23=.int .i64 i/\FrB base H F/\I F/\F.get r3=some (.cells [.clo g cap] 0 true)/\(∀r,base<=r->r<A->F.get r=H1.get r)) x.args.length ?_ ?_
  .rintro i E H4 hi2 ⟨hc,h2,h21,h22,h23,o,hI4,hr4,W⟩;have hn4:=o.next
   have e3:(r3 == H4.next)=false:=co;repeat' (first
    |(apply zcl ?_;clear hK K)|apply Rx.o ?_|(apply aS (fun z V=>?_) (fun z V=>?_)<;>try(cases z;done))|apply ak ?_|(apply zcm fun K hK=>?_)|apply ay ?_|apply zco ?_|apply am ?_|apply zcA ?_)
   .have U:i<x.args.length:=by simpa using z
    have hgx:x.args[i]?=some x.args[i]:=aO U;repeat' (first
     |(apply zcl ?_;clear hK K)|apply Rx.o ?_|apply b8 ?_|apply ak ?_|(apply zcm fun K hK=>?_)|fail)
    have hxm:x.args[i]∈x.args:=dj U;have hsm:=rL hxm;have hb4:base<=H4.next:=ac
    generalize hH5:(H4.alloc _).set H4.next _=H5
    have hf5:FrB base H4 H5:=by rw[<-hH5];exact((fT _ _).alloc _).set (.inl (aM _)) _
    have hlow5:fz base H4 H5:=by rw[<-hH5];exact((lS _ _).alloc hb4 _).set hb4 _
    have hn5:H4.next<H5.next:=by rw[<-hH5];simp only[zcB,zcS];omega
    refine bg rfl bh bj ?_;simp only[br];refine a7 ?_ (sG hwe hI hq (x.args[i].sz+1) x.args[i] ac 0 _ ac ac (hI _ _ hI4 hlow5));rintro v H6 ⟨rfl,hf6,hi6⟩;have m:FrB base H4 H6:=hf5.trans hf6;have hr6:H6.get r3=some (.cells [.clo g cap] 0 true):=by rw[m.get _ hr1 ac];exact hr4
    have J:∀r,base<=r->r<A->H6.get r=H1.get r:=fun r j h2=>by rw[m.get r j ac];exact W r j h2
    dsimp only[zcF];repeat' (first
     |(apply zcl ?_;clear hK K)|apply Rx.o ?_|(apply aS (fun z V=>?_) (fun z V=>?_)<;>try(cases z;done))|apply ak ?_|(apply zcm fun K hK=>?_)|apply zco ?_|apply am ?_|fail)
    .all_goals (refine⟨eI,_,eR,?_⟩;try simp only[zcn])
     refine⟨?_,(o.trans m).weak Z,hi6,hr6,J⟩;have:=wo q U 0;simp_all[lg]
    .refine⟨U,?_,eE,eE,eE,?_,o.trans m,hi6,hr6,J⟩
     .rw[hc,wo q U];simp_all
     .simp only[gH,Nat.reduceBEq,fM,zeL (show i<2^62 by omega)]
   .have hi3:i=x.args.length:=by simp at z;omega
    all_goals (refine⟨eI,_,eR,?_⟩;try simp only[zcn])
    refine⟨?_,o.weak Z,hI4,hr4,W⟩;rw[hi3]at hc;simp_all[lg,zew]
  .exact⟨rfl,eE,eE,eE,eE,hF3,hi3',hr3b,O⟩
 .all_goals (refine⟨eI,_,eR,?_⟩;try simp only[zcn])
  exact⟨by simp_all[lg],hF2.weak Z,hi2,hr3,L⟩
end
section
def tyW4d.tyF:=ad @cI (ad @bZ (ad @dl (ad @jQ (ad @iA (ad @iB (ad @gk (ad @mN (ad @jv (@EM)))))))))
open tyW4d
structure Plains (cfg:Cfg):Prop where
 we:Plain cfg 129
 ws:Plain cfg 123
 wx:Plain cfg 125
 wx1:Plain cfg 169
theorem Ie{cfg:Cfg}(O:Plains cfg){base:Nat}{I:Hp->Prop}(C:pd base I){g:FuncId}{cap:List AV}{q:Ex->Int->Bool}(hq:sF cfg base I g cap q)(x:Fu)(H:Hp)(hz:x.sz<2^60)(A:base<=H.next)(hi:I H):
 zcx Tryz.prog cfg 125 [.agg x.cells,.clo g cap] H fun v H'=>v=.bool (lh q x)/\FrB base H H'/\I H':=by
 have hw:=O.wx;have hsz:x.sz=1+x.name.length+zen x.params+zen x.locals+zes x.body+x.value.sz:=rfl;refine zcv (M:=15) (rs:=[.tmp 4]) (hw.call _) hw.ice hw.froz Tryz.func125 rfl rfl Ic.2 rfl ?_;dsimp only[Ic,zcr,Nat.reduceAdd];repeat' (first
  |(apply zcl ?_;clear hK K)|apply Rx.o ?_|(apply b0 (fun V Z=>?_) (fun V Z=>?_)<;>try(cases V;done))|apply ak ?_|(apply zcm fun K hK=>?_)|apply am ?_)
 generalize W:(H.alloc (.cells x.cells 0 true)).alloc (.cells [.clo g cap] 0 true)=H1;have o:FrB base H H1:=by rw[<-W];exact((fT _ _).alloc _).alloc _
 have hl1:fz base H H1:=by rw[<-W];exact((lS _ _).alloc A _).alloc gR _
 have hn1:H1.next=H.next+2:=by rw[<-W];rfl
 have hga:H1.get H.next=some (.cells x.cells 0 true):=by rw[<-W,zcu,ah sm,zcu,ax rfl]
 have hgb:H1.get (H.next+1)=some (.cells [.clo g cap] 0 true):=by rw[<-W,zcu,ax sm]
 refine bg rfl bh bj ?_;simp only[eM];refine a7 ?_ (sG O.we C hq (x.value.sz+1) x.value ac 0 H1 ac ac (C _ _ hi hl1));rintro v U ⟨rfl,Y,J⟩;have hn2:=Y.next
 have hga2:U.get H.next=some (.cells x.cells 0 true):=by rw[Y.get _ A ac];exact hga
 have F:U.get (H.next+1)=some (.cells [.clo g cap] 0 true):=by rw[Y.get _ ac ac];exact hgb
 dsimp only[zcF];repeat' (first
  |(apply zcl ?_;clear hK K)|apply Rx.o ?_|(apply b0 (fun V Z=>?_) (fun V Z=>?_)<;>try(cases V;done))|apply ak ?_|(apply zcm fun K hK=>?_)|apply am ?_)
 .refine bg rfl bh bj ?_;simp only[eM];refine a7 ?_ (sH O.ws (base:=H.next+2) (I:=fun(_:Unit) H'=>I H'/\H'.get (H.next+1)=some (.cells [.clo g cap] 0 true)/\∀r,base<=r->r<H.next+2->H'.get r=U.get r) ?_ (Y4 O.wx1 O.we ac C hq ac ac U) (zes x.body+1) x.body ac 0 () U ac ac ⟨J,F,fun _ _ _=>rfl⟩)
  .rintro v H3 ⟨rfl,z,hi3,hg3,m⟩;have hF3:FrB base U H3:=⟨z.next,fun r i j=>by
    by_cases hr:r<H.next+2
    .exact m r i hr
    .exact z.get r ac j⟩
   dsimp only[zcF];repeat' (first
    |(apply zcl ?_;clear hK K)|apply Rx.o ?_|(apply b0 (fun V Z=>?_) (fun V Z=>?_)<;>try(cases V;done))|apply ak ?_|(apply zcm fun K hK=>?_)|apply am ?_)
   all_goals (refine⟨eI,_,eR,?_⟩;try simp only[zcn])
   exact⟨by simp_all[lh],(o.trans Y).trans hF3,hi3⟩
  .intro _ Ha Hb ⟨i,j,h3⟩ L;exact⟨C _ _ i (L.weak ac),by rw[L _ ac];exact j,fun r q1 q2=>by rw[L _ q2];exact h3 r q1 q2⟩
 .all_goals (refine⟨eI,_,eR,?_⟩;try simp only[zcn])
  exact⟨by simp_all[lh],o.trans Y,J⟩
end
end Go.Proofs.YtljebeflbbgibaaGreat
