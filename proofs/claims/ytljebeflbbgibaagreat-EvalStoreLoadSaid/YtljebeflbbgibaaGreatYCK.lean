/- Parts: R3d, R3e, R3f, R3g, R3h, R3i, R3j, L4b, P4e, V5, V6, W4a, W4b, W4c, W4d. -/
import Derived.Test.YtljebeflbbgibaaGreatYCJ
set_option linter.unusedSimpArgs false
set_option linter.unusedVariables false
set_option linter.unusedSectionVars false
set_option linter.defProp false
set_option maxHeartbeats 32000000
namespace Go.Ab
set_option maxRecDepth 20000
open Go
theorem rj{P:Prop}(h:P:=by simp at z;omega):P:=h
theorem ta{P:Prop}(h:P:=by simp only[zdm,zc6];omega):P:=h
theorem yg{P:Prop}(h:P:=by rw[List.getElem?_eq_getElem hj,e]):P:=h
theorem Ce{P:Prop}(h:P:=by simp only[zc6,zdm];omega):P:=h
theorem Ic{P:Prop}(h:P:=by simp only[zc3,Nat.reduceBEq, *];exact zeX (n:=A.length) ac ac):P:=h
theorem vh{P:Prop}(h:P:=by rw[Hp.get_set,if_pos dt]):P:=h
theorem Ie{P:Prop}(h:P:=by simp only[zc3,Nat.reduceBEq, *];exact zeX (n:=x.length) ac ac):P:=h
theorem If{P:Prop}(h:P:=by rw[<- A,zcY,if_neg ta,Hp.get_set,if_neg ac,zcY,if_neg ac]):P:=h
theorem Cf{P:Prop}(h:P:=by rw[<- A,zcY,if_pos dt]):P:=h
theorem Ig{P:Prop}(h:P:=by simp only[zc3,Nat.reduceBEq, *];exact zeX (n:=p.arrays.length) ac ac):P:=h
theorem vi{P:Prop}(h:P:=by simp only[zc3,Nat.reduceBEq, *];exact zeX (n:=p.funcs.length) ac ac):P:=h
theorem nh{P:Prop}(h:P:=by simp only[zc3,Nat.reduceBEq, *];exact zeX (n:=g.nodes.length) ac ac):P:=h
def f8:=@cond_true
def Cg:=@beq_self_eq_true
def vj:=@List.any_append
def yh:=@Bool.or_true
def Ch:=@List.all_eq_false
def Ih:=And.intro @mF @yh
def Ii:=And.intro @jH Ih
def Ij:=And.intro @ji Ii
def Ik:=And.intro Ij xN
def Il:=And.intro @lj @gR
def YZ:=And.intro qN Ik
def j9:=And.intro YZ Il
end Go.Ab
namespace Go.Proofs.YtljebeflbbgibaaGreat
set_option maxRecDepth 20000
open Go Go.Ab
section
def tyR3d.tyF:=ad @cP (ad @b7 (ad @dz (ad @iH (ad @gC (ad @iG (@jF))))))
open tyR3d
def tc(x:Ex):Bool:=
 if x.kind=1 then decide ((x.kids.length:Int)=0)&&decide (x.name=[])&&decide (x.op=0)
 else if x.kind=2 then decide ((x.kids.length:Int)=0)&&decide (x.n=0)&&decide (x.op=0)&&zdC x.name
 else if x.kind=3 then decide ((x.kids.length:Int)=1)&&decide (x.n=0)&&decide (x.op=0)&&zdC x.name
 else if x.kind=4 then decide (x.n=0)&&decide (x.name=[])&&((decide ((x.kids.length:Int)=2)&&Bp x.op)||(decide ((x.kids.length:Int)=1)&&(decide (x.op=20)||decide (x.op=21))))
 else if x.kind=5 then decide ((x.kids.length:Int)=3)&&decide (x.n=0)&&decide (x.name=[])&&decide (x.op=0)
 else false
mutual
def jK:Ex->Bool
 | .mk k n s o V=>ke V&&tc (.mk k n s o V)
def ke:List Ex->Bool
 |[]=>true
 |e::es=>jK e&&ke es
end
noncomputable def Ci:En:=⟨29,false,b0 (fun s=>s.length<2^60) kL fun s=>.bool (zdC s)⟩
theorem Im(ρ:Nat->Int):zdF Tryz.prog ρ Ci:=zdM fun x F=>WV ρ x F
theorem Y0(x y:Int)(h:([.int .i64 x]:List AV)=[.int .i64 y]):x=y:=iW
end
section
namespace tyR3e
end tyR3e
open tyR3e
def yi(x:St):Bool:=decide (x.name=[])&&decide (x.to=[])&&decide (x.n=0)&&zeroE x.at_&&decide ((x.args.length:Int)=0)
def td(x:St):Bool:=decide ((x.thn.length:Int)=0)&&decide ((x.els.length:Int)=0)
def yj(x:St):Bool:=
 if x.kind=1 then td x&&zdC x.name&&decide (x.to=[])&&decide (x.n=0)&&zeroE x.at_&&decide ((x.args.length:Int)=0)&&jK x.value
 else if x.kind=2 then td x&&zdC x.name&&decide (x.to=[])&&decide (x.n=0)&&jK x.at_&&decide ((x.args.length:Int)=0)&&jK x.value
 else if x.kind=3 then yi x&&jK x.value
 else if x.kind=4 then yi x&&jK x.value&&decide ((x.els.length:Int)=0)
 else if x.kind=5 then td x&&yi x&&jK x.value
 else if x.kind=6 then td x&&zdC x.name&&zdC x.to&&decide (x.n=0)&&zeroE x.at_&&zeroE x.value
 else if x.kind=7 then td x&&decide (x.name=[])&&decide (x.to=[])&&decide (0<=x.n)&&decide (x.n<=1000000)&&zeroE x.at_&&zeroE x.value&&decide ((x.args.length:Int)=0)
 else false
def vk(x:St):Bool:=ke x.args&&yj x
end
section
def tyR3f.tyF:=ad @cP (ad @b7 (ad @dz (ad @ii (ad @kJ (ad @mP (ad @jY (ad @jZ (ad @iG (ad @iH (ad @gC (ad @mQ (@jF))))))))))))
open tyR3f
mutual
def yk:St->Bool
 | .mk k m Z n a v args g i=>vk (.mk k m Z n a v args g i)&&od g&&od i
def od:List St->Bool
 |[]=>true
 |x::l=>yk x&&od l
end
theorem Cj:∀{l:List Ar}{a:Ar},a∈l->a.name.length<jC l
 |[],_,h=>by simp at h
 |e::es,x,h=>by
  rcases fk.1 h with rfl|h
  .simp only[jC];omega
  .have:=Cj h;simp only[jC];omega
def yl(f:Fu):List (List UInt8):=[f.name]++f.params++f.locals
def mg(f:Fu):Bool:=(yl f).all zdC&&od f.body&&jK f.value
def kh(p:Pr):Bool:=p.arrays.all (fun a=>zdC a.name)&&p.funcs.all mg
theorem Y1(H:Hp)(s:List UInt8):zej Tryz.prog H 100 1 [(0,.str s)]=some (.sl H.next 0 1 1,H.alloc (.cells [.str s] 0 true)):=af
end
section
namespace tyR3g
end tyR3g
open tyR3g
def zdk:List (List UInt8)->List (List UInt8)->Bool
 |_,[]=>false
 |seen,s::l=>zdi seen s||zdk (seen++[s]) l
def pj(U:List (List UInt8)):List (List UInt8)->List Fu->Bool
 |_,[]=>false
 |seen,f::fs=>zdi seen f.name||zdk U (f.params++f.locals)||pj U (seen++[f.name]) fs
def zdD(p:Pr):List (List UInt8):=p.arrays.map (·.name)
def te(p:Pr):Bool:=zdk [] (zdD p)||pj (zdD p) [] p.funcs
end
section
namespace tyR3h
end tyR3h
open tyR3h
structure Sc where
 vars:List (List UInt8)
 arrays:Option (List (List UInt8))
 p:Pr
def Sc.an(x:Sc):List (List UInt8):=x.arrays.getD []
section
variable (vs an:List (List UInt8))
def ki(x:Ex):Bool:=(!decide (x.kind=2)||zdi vs x.name)&&(!decide (x.kind=3)||zdi an x.name)
mutual
def jL:Ex->Bool
 | .mk k n s o V=>og V&&ki vs an (.mk k n s o V)
def og:List Ex->Bool
 |[]=>true
 |e::es=>jL e&&og es
end
end
def ro(c:Sc)(x:St):Bool:=
 if x.kind=1 then zdi c.vars x.name
 else if x.kind=6 then zdi c.vars x.name&&decide (0<=jo c.p.funcs x.to 0)
 else if x.kind=2 then zdi c.an x.name
 else true
def In(c:Sc)(x:St):Bool:=og c.vars c.an x.args&&jL c.vars c.an x.at_&&jL c.vars c.an x.value&&ro c x
end
section
namespace tyR3i
end tyR3i
open tyR3i
def tf(p:Pr)(s:List UInt8):Nat:=((p.funcs[(jo p.funcs s 0).toNat]?).map fun f=>f.params.length).getD 0
def tg(p:Pr)(x:St):Bool:=!(decide (x.kind=6) && !decide ((x.args.length:Int)=tf p x.to))
section
variable (c:Sc)
mutual
def rq(b:Bool):St->Bool
 | .mk k m Z n a v args g i=>(bif b then tg c.p (.mk k m Z n a v args g i)else In c (.mk k m Z n a v args g i))&&js b g&&js b i
def js(b:Bool):List St->Bool
 |[]=>true
 |x::l=>rq b x&&js b l
end
end
section
variable (p:Pr)
end
end
section
namespace tyR3j
end tyR3j
open tyR3j
def kP(p:Pr)(f:Fu):Sc:=⟨f.params++f.locals,some (zdD p),p⟩
def th(p:Pr)(f:Fu):Bool:=!(js (kP p f) false f.body&&jL (kP p f).vars (kP p f).an f.value)
def vm(p:Pr)(f:Fu):Bool:=!js (kP p f) true f.body
def nj(p:Pr):Int:=if s9 p=true then 6 else if kh p=false then 2 else if te p=true then 4 else if p.funcs.any (th p)=true then 3 else if p.funcs.any (vm p)=true then 5 else 0
end
section
def zer(p:Pr):List (List UInt8):=p.funcs.map (·.name)
def lF(p:Pr):Bool:=zdk [] (zdD p)||zdk [] (zer p)||p.funcs.any fun f=>zdk [] (zdD p++(f.params++f.locals))
theorem Io:∀(a b seen:List (List UInt8)),zdk seen (a++b)=(zdk seen a||zdk (seen++a) b)
 |[],b,seen=>by simp[zdk]
 |x::a,b,seen=>by rw[nY,zdk,zdk,Io a b,gw,List.singleton_append,Bo]
theorem Ip(U:List (List UInt8)):∀(J:List Fu) (seen:List (List UInt8)),pj U seen J=(zdk seen (J.map (·.name))||J.any fun f=>zdk U (f.params++f.locals))
 |[],seen=>rfl
 |f::J,seen=>by
  rw[pj,dO,zdk,mW,Ip U J];cases zdi seen f.name<;>cases zdk U (f.params++f.locals)<;>cases zdk (seen++[f.name]) (J.map (·.name))<;>rfl
theorem Iq(p:Pr):lF p=te p:=by
 rw[lF,te,Ip];cases h:zdk [] (zdD p)
 .have e:(fun f:Fu=>zdk [] (zdD p++(f.params++f.locals)))=fun f=>zdk (zdD p) (f.params++f.locals):=by
   funext f;rw[Io,h];rfl
  rw[e];rfl
 .rfl
def zes:List Fu->List (zdE×Int)->List (zdE×Int)
 |[],m=>m
 |f::l,m=>zes l (setV m f.name f.params.length)
theorem Ck(s a:zdE)(x:Int):∀m:List (zdE×Int),en (setV m a x) s=if s=a then x else en m s
 |[]=>by simp[setV,en]
 |q::l=>by
  by_cases h:a=q.1
  .simp only[setV,h,bS,en];split<;>rfl
  .simp only[setV,h,cb,en,Ck s a x l];by_cases g:s=q.1
   .rw[ay g,ay g,ah (fun e=>h (by rw[<-e,g]))]
   .rw[ah g,ah g]
theorem Ir(s a:zdE)(x:Int):∀m:List (zdE×Int),fw (setV m a x) s=(decide (s=a)||fw m s)
 |[]=>by
  by_cases h:s=a<;>simp[setV,fw,h]
 |q::l=>by
  by_cases h:a=q.1
  .by_cases g:s=q.1<;>simp[setV,fw,h,g]
  .have e:=Ir s a x l;by_cases g:s=q.1
   .simp[setV,fw,h,g]
   .simp[setV,fw,h,g,e]
theorem zfF(a b:List (List UInt8))(s:List UInt8):zdi (a++b) s=(zdi a s||zdi b s):=by unfold zdi;rw[vj]
theorem rr(a s:List UInt8):zdi [a] s=decide (s=a):=by
 unfold zdi;simp only[mW,List.any_nil,jH];by_cases h:s=a
 .simp[h]
 .have:¬a=s:=fun e=>h e.symm;simp[h,this]
theorem Is(s:zdE):∀(l:List Fu) (m:List (zdE×Int)),fw (zes l m) s=(fw m s||zdi (l.map (·.name)) s)
 |[],m=>by simp[zes,zdi]
 |f::l,m=>by
  rw[zes,Is s l,Ir,dO,show f.name::l.map (·.name)=[f.name]++l.map (·.name)from rfl,zfF,rr];cases decide (s=f.name)<;>cases fw m s<;>simp
theorem It(s:zdE):∀(l:List Fu) (m:List (zdE×Int)),zdi (l.map (·.name)) s=false->en (zes l m) s=en m s
 |[],m,_=>rfl
 |f::l,m,h=>by
  rw[dO,show f.name::l.map (·.name)=[f.name]++l.map (·.name)from rfl,zfF,rr,lb,jG]at h;rw[zes,It s l _ h.2,Ck,ah h.1]
theorem Iu:∀(l seen:List (List UInt8)),zdk seen l=false->∀s,zdi seen s=true->zdi l s=false
 |[],_,_,_,_=>rfl
 |a::l,seen,h,s,hs=>by
  rw[zdk,lb]at h;rw[show a::l=[a]++l from rfl,zfF,rr,Iu l _ h.2 s (by rw[zfF,hs];rfl),jH,jG];intro e;rw[<-e]at h;rw[hs]at h;simp at h
theorem Iv:∀(l:List Fu) (s:List UInt8) (i:Int),0<=i->(zdi (l.map (·.name)) s=decide (0<=jo l s i))
 |[],s,i,_=>by simp[zdi,jo]
 |f::l,s,i,hi=>by
  rw[dO,show f.name::l.map (·.name)=[f.name]++l.map (·.name)from rfl,zfF,rr,jo];by_cases h:f.name=s
  .rw[ay h,cI h.symm,mF];simpa using hi
  .rw[ah h,dd (fun e=>h e.symm),ji,Iv l s (i+1) ac]
theorem Iw(p:Pr)(s:zdE):∀(l:List Fu) (seen:List (List UInt8)) (m:List (zdE×Int)) (i:Nat),p.funcs.drop i=l->zdk seen (l.map (·.name))=false->0<=jo l s i ->
 ∃f,p.funcs[(jo l s i).toNat]?=some f/\en (zes l m) s=f.params.length
 |[],_,_,i,_,_,h=>by simp[jo]at h
 |f::l,seen,m,i,hd,hn,h=>by
  have z:i<p.funcs.length:=by
   have:=kD List.length hd;simp at this;omega
  rw[eJ z,cS]at hd;rw[dO,zdk,lb]at hn;rw[jo]at h⊢;by_cases e:f.name=s
  .rw[ay e];refine⟨f,?_,?_⟩
   .rw[dQ,aO z,hd.1]
   .have Z:zdi (l.map (·.name)) s=false:=Iu _ _ hn.2 s (by rw[zfF,rr,cI e.symm,yh]);rw[zes,It s l _ Z,Ck,ay e.symm]
  .rw[ah e]at h⊢;exact Iw p s l (seen++[f.name]) _ (i+1) hd.2 hn.2 h
theorem Y2(p:Pr)(s:zdE):fw (zes p.funcs []) s=decide (0<=jo p.funcs s 0):=by
 rw[Is,Iv _ _ 0 ac];rfl
theorem Y3{p:Pr}(hd:zdk [] (zer p)=false){s:zdE}(h:0<=jo p.funcs s 0):en (zes p.funcs []) s=tf p s:=by
 obtain⟨f,i,g⟩:=Iw p s p.funcs [] [] 0 rfl hd h;have U:p.funcs[(jo p.funcs s 0).toNat]?=some f:=i;rw[g,tf,U];rfl
def kj(V:List (zdE×Int))(vs U:List (List UInt8))(x:St)(_:Int)(w:Bool):Bool×Bool:=
 if x.kind=1 then (zdi vs x.name,w)
 else if x.kind=2 then (zdi U x.name,w)
 else if x.kind=6 then (fw V x.to&&zdi vs x.name,w||(fw V x.to && !decide (en V x.to=(x.args.length:Int))))
 else (true,w)
def ol(V:List (zdE×Int))(U:List (List UInt8)):List Fu->Bool->Int
 |[],w=>if w=true then 5 else 0
 |f::fs,w=>if lq (fun x _=>ki (f.params++f.locals) U x) f=true/\(zea (kj V (f.params++f.locals) U) f.body 0 w).1=true then ol V U fs (zea (kj V (f.params++f.locals) U) f.body 0 w).2 else 3
def ru(p:Pr):Int:=ol (zes p.funcs []) (zdD p) p.funcs false
def Cl(p:Pr):Int:=if iZ p=false then 6 else if kh p=false then 2 else if lF p=true then 4 else ru p
mutual
theorem Cm(vs U:List (List UInt8)):∀(x:Ex) (d:Int),jB (fun x _=>ki vs U x) x d=jL vs U x
 | .mk k n s o V,d=>by rw[jB,jL,Cn vs U V,Bool.and_comm]
theorem Cn(vs U:List (List UInt8)):∀(l:List Ex) (d:Int),zeS (fun x _=>ki vs U x) l d=og vs U l
 |[],_=>rfl
 |x::l,d=>by rw[zeS,og,Cm vs U x,Cn vs U l]
end
section
variable (c:Sc)
mutual
def rx:St->Bool
 | .mk _ _ _ _ a v args g i=>jL c.vars c.an a&&jL c.vars c.an v&&og c.vars c.an args&&kQ g&&kQ i
def kQ:List St->Bool
 |[]=>true
 |x::l=>rx x&&kQ l
end
mutual
def pm:St->Bool
 | .mk k m Z n a v args g i=>ro c (.mk k m Z n a v args g i)&&iN g&&iN i
def iN:List St->Bool
 |[]=>true
 |x::l=>pm x&&iN l
end
mutual
theorem Y4:∀(x:St) (d:Int),iE (lm fun x _=>ki c.vars c.an x) x d ()=(rx c x,())
 | .mk k m Y n a v args g i,d=>by
   rw[iE,lm,rx];simp only[St.at_,St.value,St.args,Cm,Cn];cases h:jL c.vars c.an a&&jL c.vars c.an v&&og c.vars c.an args
   .simp
   .simp only[ym g,dq];cases Z:kQ c g
    .simp
    .simp only[ym i,dq]
theorem ym:∀(l:List St) (d:Int),zea (lm fun x _=>ki c.vars c.an x) l d ()=(kQ c l,())
 |[],_=>rfl
 |x::l,d=>by
  rw[zea,Y4 x,kQ];cases h:rx c x
  .simp
  .simp only[ym l,dq]
end
mutual
theorem Y5:∀x:St,rq c false x=(rx c x&&pm c x)
 | .mk k m Z n a v args g i=>by
   rw[rq,rx,pm,yn g,yn i,oM,In];simp only[St.at_,St.value,St.args];cases jL c.vars c.an a<;>cases jL c.vars c.an v<;>cases og c.vars c.an args<;>cases ro c (.mk k m Z n a v args g i)<;>cases kQ c g<;>cases iN c g<;>cases kQ c i<;>cases iN c i<;>rfl
theorem yn:∀l:List St,js c false l=(kQ c l&&iN c l)
 |[]=>rfl
 |x::l=>by
  rw[js,kQ,iN,Y5 x,yn l];cases rx c x<;>cases pm c x<;>cases kQ c l<;>cases iN c l<;>rfl
end
end
theorem Y6{p:Pr}(hd:zdk [] (zer p)=false)(c:Sc)(O:c.p=p)(x:St)(d:Int)(w:Bool):
 (ro c x=true->kj (zes p.funcs []) c.vars c.an x d w=(true,w || !tg p x))/\(ro c x=false->(kj (zes p.funcs []) c.vars c.an x d w).1=false):=by
 unfold kj ro tg;rw[O];by_cases i:x.kind=1
 .have F:¬x.kind=6:=by omega
  simp only[i,bS,Int.reduceEq,gl,dX,gR,lj,jH];exact⟨fun h=>by rw[h],fun h=>h⟩
 .by_cases F:x.kind=6
  .simp only[F,Int.reduceEq,cb,bS,k6,dq,Bool.not_not,Y2];cases h:decide (0<=jo p.funcs x.to 0)
   .simp
   .rw[Y3 hd (u9 h),jW,dq,dq];refine⟨fun h=>?_,fun h=>h⟩;rw[h];have e:decide ((tf p x.to:Int)=(x.args.length:Int))=decide ((x.args.length:Int)=(tf p x.to:Int)):=by
     by_cases q:(tf p x.to:Int)=(x.args.length:Int)
     .rw[cI q,cI q.symm]
     .rw[dd q,dd (fun e=>q e.symm)]
    rw[e]
  .by_cases g:x.kind=2
   .simp only[g,Int.reduceEq,cb,bS,gl,dX,gR,lj,jH];exact⟨fun h=>by rw[h],fun h=>h⟩
   .simp only[i,g,F,cb,gl,dX,gR,lj,jH];exact⟨fun _=>aE,fun h=>iX⟩
section
variable {p:Pr} (hd:zdk [] (zer p)=false) (c:Sc) (hc:c.p=p)
include hd hc
mutual
theorem Y7:∀(x:St) (d:Int) (w:Bool),(pm c x=true->iE (kj (zes p.funcs []) c.vars c.an) x d w=(true,w || !rq c true x))/\(pm c x=false->(iE (kj (zes p.funcs []) c.vars c.an) x d w).1=false)
 | .mk k m Z n a v args g i,d,w=>by
   have o:=Y6 hd c hc (.mk k m Z n a v args g i) d w;rw[iE,pm,rq,f8,hc];cases Y:ro c (.mk k m Z n a v args g i)
   .have:=o.2 Y;generalize kj _ _ _ _ _ _=r at this⊢;obtain⟨b,s⟩:=r;simp only at this;subst this;simp
   .rw[o.1 Y];simp only[dq];have W:=yo g (eK (d+1)) (w || !tg p (.mk k m Z n a v args g i));cases V:iN c g
    .have:=W.2 V;generalize zea _ g _ _=r at this⊢;obtain⟨b,s⟩:=r;simp only at this;subst this;simp
    .rw[W.1 V];simp only[dq];have U:=yo i (eK (d+1)) ((w || !tg p (.mk k m Z n a v args g i)) || !js c true g);cases A:iN c i
     .exact⟨fun h=>iX,fun _=>U.2 A⟩
     .refine⟨fun _=>?_,fun h=>iX⟩;rw[U.1 A]
      congr 1
      cases w<;>cases tg p (.mk k m Z n a v args g i)<;>cases js c true g<;>cases js c true i<;>rfl
theorem yo:∀(l:List St) (d:Int) (w:Bool),(iN c l=true->zea (kj (zes p.funcs []) c.vars c.an) l d w=(true,w || !js c true l))/\(iN c l=false->(zea (kj (zes p.funcs []) c.vars c.an) l d w).1=false)
 |[],d,w=>by
  rw[zea,iN,js];exact⟨fun _=>aE,fun h=>iX⟩
 |x::l,d,w=>by
  have o:=Y7 x d w;rw[zea,iN,js];cases Y:pm c x
  .have:=o.2 Y;generalize iE _ x _ _=r at this⊢;obtain⟨b,s⟩:=r;simp only at this;subst this;simp
  .rw[o.1 Y];simp only[dq];have g:=yo l d (w || !rq c true x);cases A:iN c l
   .exact⟨fun h=>iX,fun _=>g.2 A⟩
   .refine⟨fun _=>?_,fun h=>iX⟩;rw[g.1 A]
    congr 1
    cases w<;>cases rq c true x<;>cases js c true l<;>rfl
end
end
theorem Ix{p:Pr}(hd:zdk [] (zer p)=false):∀(l:List Fu) (w:Bool),ol (zes p.funcs []) (zdD p) l w=if l.any (th p)=true then 3 else if (w||l.any (vm p))=true then 5 else 0
 |[],w=>by simp[ol]
 |f::fs,w=>by
  have j:=yo hd (kP p f) rfl f.body 0 w;have L:(kP p f).vars=f.params++f.locals:=rfl;have F:(kP p f).an=zdD p:=rfl;rw[L,F]at j;have Z:lq (fun x _=>ki (f.params++f.locals) (zdD p) x) f=(jL (f.params++f.locals) (zdD p) f.value&&kQ (kP p f) f.body):=by
   rw[lq,Cm];have:=ym (kP p f) f.body 0;rw[L,F]at this;rw[this]
  have I:th p f=!(lq (fun x _=>ki (f.params++f.locals) (zdD p) x) f&&iN (kP p f) f.body):=by
   rw[th,Z,yn,L,F];cases jL (f.params++f.locals) (zdD p) f.value<;>cases kQ (kP p f) f.body<;>cases iN (kP p f) f.body<;>rfl
  rw[ol,mW,mW,I];cases i:lq (fun x _=>ki (f.params++f.locals) (zdD p) x) f
  .simp
  .cases g:iN (kP p f) f.body
   .simp[j.2 g]
   .rw[j.1 g];simp only[mH,bS,qj,lj,ji];rw[Ix hd fs]
    congr 2
    rw[vm];cases w<;>simp
theorem Y8(p:Pr):Cl p=nj p:=by
 unfold Cl nj;rw[YY,Iq];cases i:s9 p
 .simp only[gR,k9,ct,cb];cases g:kh p
  .rfl
  .simp only[k9,cb];cases m:te p
   .simp only[ct,cb];have hd:zdk [] (zer p)=false:=by
     rw[<-Iq,lF,lb,lb]at m;exact m.1.2
    rw[ru,Ix hd];simp
   .rfl
 .rfl
def tyP4e.tyF:=ad @b7 (ad @dz (ad @ii (ad @mP (ad @jY (ad @jZ (ad @iG (ad @gC (ad @mQ (ad @Be (ad @kJ (ad @xu (@Y1))))))))))))
open tyP4e
noncomputable def Iy:{c:SC // aB 28 (Tryz.f133.body.getD .skip)=c}:=by
 refine⟨?_,?_⟩;rotate_left
 .simp only[Tryz.f133,a8,aB,zda,zc9,zdc,zdd,Nat.blt,Nat.ble];rfl
noncomputable def Iz:{c:SC // aB 38 (Tryz.f132.body.getD .skip)=c}:=by
 refine⟨?_,?_⟩;rotate_left
 .simp only[Tryz.f132,a8,aB,zda,zc9,zdc,zdd,Nat.blt,Nat.ble];rfl
noncomputable def IA:{c:SC // aB 35 (Tryz.f87.body.getD .skip)=c}:=by
 refine⟨?_,?_⟩;rotate_left
 .simp only[Tryz.f87,a8,aB,zda,zc9,zdc,zdd,Nat.blt,Nat.ble];rfl
def eB(l:List (List UInt8)):List (AV×AV):=l.map fun s=>(.str s,.bool true)
def nk(l:List (List UInt8))(s:List UInt8):List (List UInt8):=if zdi l s=true then l else l++[s]
theorem vn(s:List UInt8):∀(l:List (List UInt8)) (i:Nat),(zdi l s=false->zek .string (.str s) (eB l) i=some none)/\(zdi l s=true->∃j,zek .string (.str s) (eB l) i=some (some (i+j,.bool true))/\(eB l).set j (.str s,.bool true)=eB l)
 |[],i=>⟨fun _=>rfl,fun h=>by simp[zdi]at h⟩
 |a::l,i=>by
  have Y:zdi (a::l) s=(decide (s=a)||zdi l s):=by rw[show a::l=[a]++l from rfl,zfF,rr]
  by_cases h:s=a
  .subst h;rw[Y,cI rfl,mF];refine⟨fun h=>iX,fun _=>⟨0,?_,?_⟩⟩
   .simp[eB,zek,kZ]
   .simp[eB]
  .have U:zek .string (.str s) (eB (a::l)) i=zek .string (.str s) (eB l) (i+1):=by
    show zek .string (.str s) ((.str a,.bool true)::eB l) i=_;have:(s == a)=false:=iW;simp[zek,kZ,this]
   rw[Y,dd h,ji,U];obtain⟨W,Z⟩:=vn s l (i+1);refine⟨W,fun q=>?_⟩;obtain⟨j,V,J⟩:=Z q;exact⟨j+1,by rw[V,show i+1+j=i+(j+1) by omega],by show(AV.str a,AV.bool true)::(eB l).set j _=_;rw[J];rfl⟩
theorem ry{H:Hp}{r:Nat}{l:List (List UInt8)}(A:H.get r=some (.map (eB l)))(s:List UInt8):zeY Tryz.prog H 198 (.map r) (.str s) false=some (.bool (zdi l s)):=by
 obtain⟨l1,l2⟩:=EJ (P:=Tryz.prog) (H:=H) (t:=198) (nm:=s) (z:=.bool false) Tryz.underlying198 af af A;cases h:zdi l s with
 |false=>rw[l1 ((vn s l 0).1 h)]
 |true=>obtain⟨j,i,g⟩:=(vn s l 0).2 h;rw[l2 _ _ i]
theorem Co{H:Hp}{r:Nat}{l:List (List UInt8)}(A:H.get r=some (.map (eB l)))(s:List UInt8):zfl Tryz.prog H 198 (.map r) (.str s) (.bool true)=some (H.set r (.map (eB (nk l s)))):=by
 obtain⟨l1,l2⟩:=AC (P:=Tryz.prog) (H:=H) (t:=198) (nm:=s) (x:=.bool true) Tryz.underlying198 af A;cases h:zdi l s with
 |false=>rw[l1 ((vn s l 0).1 h),nk,h];simp[eB]
 |true=>obtain⟨j,i,g⟩:=(vn s l 0).2 h;rw[l2 _ _ i,bz,g,nk,ay h]
def nl(x:List (List (List UInt8))):List AV:=[.lst (x.map fun l=>[zd7 l])]
theorem Y9(x y:List (List (List UInt8)))(h:nl x=nl y):x=y:=by
 simp only[nl,cS,AV.lst.injEq,a1]at h;exact zfg (fun a _ b e=>by simp only[cS,AV.lst.injEq,a1]at e;exact xi e) h
def yp(x:List (List (List UInt8))):Prop:=x.length<2^60/\∀l∈x,l.length<2^60
theorem Za(x:List (List (List UInt8))):ee (.lst (x.map fun l=>[zd7 l])):=.map fun l _=>.cons (uG l) .nil
theorem Zb(ρ:Nat->Int)(x:List (List (List UInt8)))(hx:yp x):bh Tryz.prog ρ 133 (nl x) (.bool (zdk [] x.flatten)):=zdZ fit (pls:=pls) (l:=[]) trivial (.cons (Za x) .nil) (.bool _) (by
 have I:=zed 133;obtain⟨hx1,J⟩:=hx;rw[nl];refine zf (M:=28) (rs:=[.tmp 2]) (I.call _) I.ice I.froz Tryz.func133 rfl rfl Iy.2 rfl ?_;dsimp only[Iy,zcX,Nat.reduceAdd];repeat' (first
  |(apply zcP ?_;clear hK K)|apply Rx.o ?_|apply ak ?_|(apply zcQ fun K hK=>?_)|apply ax ?_|fail)
 refine zdN [3,9,10] [] 11 x.length (fun i E H=>∃seen,H.get 0=some (.map (eB seen))/\zdk [] x.flatten=zdk seen (x.drop i).flatten) eE ⟨[],n9,rfl⟩ ?_;rintro i E H2 hi Y W m o ⟨seen,L,g⟩;(try simp only[zdh,zdb,a1,zc3,zde,Nat.reduceBEq, *]at Y);(try simp only[zdb,zde, *]at W);(try simp only[zc6,zdK,bz]at m);repeat' (first
  |(apply zcP ?_;clear hK K)|apply Rx.o ?_|(apply aU (fun z V=>?_) (fun z V=>?_)<;>try(cases z;done))|apply ak ?_|(apply zcQ fun K hK=>?_)|apply ax ?_|apply zcR ?_|apply am ?_|apply zc4 ?_)
 .have O:i<x.length:=by simpa using z
  have hgx:x[i]?=some x[i]:=aO O;have hsm:=J _ (dx O);have U:(x.drop i).flatten=x[i]++(x.drop (i+1)).flatten:=by rw[eJ O,lQ]
  rw[U]at g;clear U;generalize x[i]=A at *;repeat' (first
   |(apply zcP ?_;clear hK K)|apply Rx.o ?_|apply ak ?_|(apply zcQ fun K hK=>?_)|apply ax ?_|fail)
  refine zdN [3,9,10,11,15,16] [] 17 A.length (fun j E H=>∃seen,H.get 0=some (.map (eB seen))/\zdk [] x.flatten=zdk seen (A.drop j++(x.drop (i+1)).flatten)) eE ⟨seen,L,g⟩ ?_;clear L g seen;rintro j E3 H3 hj Y W m o ⟨seen,L,g⟩;(try simp only[zdh,zdb,a1,zc3,zde,Nat.reduceBEq, *]at Y);(try simp only[zdb, *]at W);(try simp only[zc6,zdm,zdK,bz,Nat.reduceAdd]at m);repeat' (first
   |(apply zcP ?_;clear hK K)|apply Rx.o ?_|(apply aU (fun z V=>?_) (fun z V=>?_)<;>try(cases z;done))|apply ak ?_|(apply zcQ fun K hK=>?_)|apply ax ?_|apply zcR ?_|apply zc4 ?_)
  .have Z:j<A.length:=by simpa using z
   have hgx2:A[j]?=some A[j]:=aO Z;have U:zdk seen (A.drop j++(x.drop (i+1)).flatten)=(zdi seen A[j]||zdk (seen++[A[j]]) (A.drop (j+1)++(x.drop (i+1)).flatten)):=Bk;have hlk:=ry L A[j];have hup:=Co L A[j];repeat' (first
    |(apply zcP ?_;clear hK K)|apply Rx.o ?_|apply bE ?_|(apply aU (fun z V=>?_) (fun z V=>?_)<;>try(cases z;done))|apply ak ?_|(apply zcQ fun K hK=>?_)|apply zcR ?_|apply am ?_|fail)
   .all_goals (refine⟨zcT,_,zcU,?_⟩;try simp only[zcS])
    rw[g,U];(try simp only[ff]at *);simp only[*,mF,]
   .refine⟨ac,eL,eL,eN,Ic,?_⟩;refine⟨nk seen A[j],vh,?_⟩;rw[g,U,nk];(try simp only[ff]at *);simp only[*,ji,];rfl
  .have F:j=A.length:=by simp at z;omega
   repeat' (first
    |(apply zcP ?_;clear hK K)|fail)
   refine⟨ac,eL,eL,eN,Ie,?_⟩;exact⟨seen,L,by rw[g,F,jI,lN]⟩
 .all_goals (refine⟨zcT,_,zcU,?_⟩;try simp only[zcS])
  have C:i=x.length:=rj;rw[g,C,jI];rfl)
def pn(l:List (List UInt8)):AV:=if l=[]then .nilS else zd7 l
def nn(H:Hp)(v:AV)(l:List (List UInt8))(lo:Nat):Prop:=(v=.nilS/\l=[])\/(l≠[]/\lB H v l lo)
theorem nn.n{H:Hp}{v:AV}{l:List (List UInt8)}{lo:Nat}(h:nn H v l lo):m1 H v l lo:=h.imp id fun h=>h.2
theorem nn.keep{H H':Hp}{v:AV}{l:List (List UInt8)}{lo:Nat}(h:nn H v l lo)(o:H.next<=H'.next)(A:∀k,zd9 v k->H'.get k=H.get k):nn H' v l lo:=h.imp id fun h=>⟨h.1,h.2.keep o A⟩
theorem IB(H:Hp)(n:Nat):∀l:List (List UInt8),iceL (iceV H (n+1)) (l.map .str)=some (l.map .str)
 |[]=>rfl
 |a::l=>by
  have:=IB H n l;have e:iceV H (n+1) (.str a)=some (.str a):=rfl;simp only[dO,iceL,e,this]
theorem nn.iceV{H:Hp}{v:AV}{l:List (List UInt8)}{lo:Nat}(h:nn H v l lo)(n:Nat):iceV H (n+2) v=some (pn l):=by
 rcases h with⟨rfl,rfl⟩|⟨o,r,g,rfl,Z,_⟩
 .rfl
 .have e:Ab.iceV H (n+2) (.sl r 0 l.length 1)=match H.get r with
   |some (.cells W _ _)=>match iceL (Ab.iceV H (n+1)) ((W.drop 0).take (l.length*1))with
    |some m=>if m.length=l.length*1 then some (.lst (zeg 1 l.length m))else none
    |none=>none
   |_=>none:=rfl
  rw[e,Z];simp only[dW,gA];rw[eF aE,IB];simp only[cX,bS,Xc];rw[pn,ah o]
theorem IC(n:Nat)(l:List (List UInt8)):bF (n+2) (pn l)=zd7 l:=by
 unfold pn;split
 .rename_i h;subst h;rfl
 .show AV.lst ((l.map fun s=>[AV.str s]).map fun A=>A.map (bF (n+1)))=_;rw[oL];rfl
set_option maxRecDepth 100000 in
theorem Zc(ρ:Nat->Int)(p:Pr)(hz:p.sz<2^36):bh Tryz.prog ρ 132 (fp p) (.tup [zd7 (zdD p),zd7 (zer p)]):=AN (n:=3) (zfE (r:=.tup [pn (zdD p),pn (zer p)]) (m:=3) (cfg:=zcW pls []) fit (ll ρ) (fun f args r h=>by simp[zcW,zdS]at h) (.cons (.agg p.pure) .nil) (by
 have hw:=zed 132;have Z:(zcW pls []).keep 132=false:=rfl;have hpz:p.sz=1+jC p.arrays+jX p.funcs:=rfl;have hla:=sk p.arrays;have hlf:=sj p.funcs;rw[fp];refine zf (M:=38) (rs:=[.tmp 2,.tmp 3]) (hw.call _) hw.ice hw.froz Tryz.func132 rfl rfl Iz.2 rfl ?_;dsimp only[Iz,zcX,Nat.reduceAdd];repeat' (first
  |(apply zcP ?_;clear hK K)|apply Rx.o ?_|apply ak ?_|(apply zcQ fun K hK=>?_)|apply ax ?_|fail)
 refine zdN [1,2,3,5,11,12] [0] 13 p.arrays.length (fun i E H=>∃v,E.at 4=v/\nn H v ((zdD p).take i) 1) eE ⟨.nilS,eE,.inl ⟨rfl,rfl⟩⟩ ?_;rintro i E U hi J j C hsI ⟨v,zfs,hv⟩;(try simp only[zdh,zdb,a1,zc3,zde,Nat.reduceBEq, *]at J);(try simp only[zdh,zdb,a1,zc3,zde, *]at j);(try simp only[zc6,zdK,bz]at C);have hB0:(0 == U.next)=false:=zc7 ac;have hC0:(U.next == 0)=false:=zc7 ac;repeat' (first
  |(apply zcP ?_;clear hK K)|apply Rx.o ?_|(apply aU (fun z L=>?_) (fun z L=>?_)<;>try(cases z;done))|apply ak ?_|(apply zcQ fun K hK=>?_)|apply ax ?_|apply zcR ?_|apply zc4 ?_)
 .have o:i<p.arrays.length:=by simpa using z
  have g:p.arrays[i]?=some p.arrays[i]:=aO o;have Y:(zdD p).take (i+1)=(zdD p).take i++[p.arrays[i].name]:=by rw[zdD,mz,ea,g];rfl
  repeat' (first
   |(apply zcP ?_;clear hK K)|apply Rx.o ?_|apply bE ?_|(apply zcQ fun K hK=>?_)|fail)
  generalize A:Hp.alloc (Hp.set _ _ _) _=W;have nb:W.next=U.next+2:=by rw[<-A];rfl
  have F:∀k,k<U.next->W.get k=U.get k:=fun k V=>If
  have gb:W.get (U.next+1)=some (.cells [.str p.arrays[i].name] 0 true):=Cf;clear A;have hvb:m1 W v ((zdD p).take i) 1:=hv.n.keep ac fun k V=>F k (hv.n.lt V).2;obtain⟨v5,H5,a5,s5,n5,f5,o5⟩:=Gq (r:=U.next+1) (imm:=0) p.arrays[i].name hvb ac gb cp;have n5':W.next<=H5.next:=ac
  clear n5;have g50:H5.get 0=some (.cells p.cells 0 true):=by rw[f5 0 ac,F 0 ac];exact j
  refine nQ eV eV (by rw[Z];exact a5) ?_;repeat' (first
   |(apply zcP ?_;clear hK K)|apply Rx.o ?_|(apply zcQ fun K hK=>?_)|fail)
  refine⟨ac,eL,eL,eN,Ig,?_⟩;exact⟨v5,eE,.inr ⟨by rw[Y];simp,by rw[Y];exact s5⟩⟩
 .have hie:i=p.arrays.length:=by simp at z;omega
  have O:(zdD p).take i=zdD p:=eF (by simp[zdD];omega);rw[O]at hv;clear O hie hsI hi;repeat' (first
   |(apply zcP ?_;clear hK K)|fail)
  have c3:∀k,zd9 v k->k<U.next:=fun k V=>(hv.n.lt V).2
  refine zdN [2,3,4,24,25] [0] 26 p.funcs.length (fun i E H=>∃u,E.at 5=u/\nn H u ((zer p).take i) U.next/\nn H v (zdD p) 1) eE ⟨.nilS,eE,.inl ⟨rfl,rfl⟩,hv⟩ ?_;rintro i E I hi J j C hsI ⟨u,zeL,hu,hv3⟩;(try simp only[zdh,zdb,a1,zc3,zde,Nat.reduceBEq, *]at J);(try simp only[zdh,zdb,a1, *]at j);(try simp only[zc6,zdm,zdK,bz,Nat.reduceAdd]at C);have hB0:(0 == I.next)=false:=zc7 ac;have hC0:(I.next == 0)=false:=zc7 ac;repeat' (first
   |(apply zcP ?_;clear hK K)|apply Rx.o ?_|(apply aU (fun z L=>?_) (fun z L=>?_)<;>try(cases z;done))|apply ak ?_|(apply zcQ fun K hK=>?_)|apply ax ?_|apply zcR ?_|apply am ?_|apply zc4 ?_)
  .have o:i<p.funcs.length:=by simpa using z
   have g:p.funcs[i]?=some p.funcs[i]:=aO o;have Y:(zer p).take (i+1)=(zer p).take i++[p.funcs[i].name]:=by rw[zer,mz,ea,g];rfl
   repeat' (first
    |(apply zcP ?_;clear hK K)|apply Rx.o ?_|apply bE ?_|(apply zcQ fun K hK=>?_)|fail)
   generalize A:Hp.alloc (Hp.set _ _ _) _=W;have nb:W.next=I.next+2:=by rw[<-A];rfl
   have F:∀k,k<I.next->W.get k=I.get k:=fun k V=>If
   have gb:W.get (I.next+1)=some (.cells [.str p.funcs[i].name] 0 true):=Cf;clear A;have hub:m1 W u ((zer p).take i) U.next:=hu.n.keep ac fun k V=>F k (hu.n.lt V).2
   obtain⟨v5,H5,a5,s5,n5,f5,o5⟩:=Gq (r:=I.next+1) (imm:=0) p.funcs[i].name hub ac gb cp;have n5':W.next<=H5.next:=ac
   clear n5;have g50:H5.get 0=some (.cells p.cells 0 true):=by rw[f5 0 ac,F 0 ac];exact j
   refine nQ eV eV (by rw[Z];exact a5) ?_;repeat' (first
    |(apply zcP ?_;clear hK K)|apply Rx.o ?_|(apply zcQ fun K hK=>?_)|fail)
   refine⟨ac,eL,eL,eN,vi,?_⟩;exact⟨v5,eE,.inr ⟨by rw[Y];simp,by rw[Y];exact s5⟩,hv3.keep ac fun k V=>by rw[f5 k (c3 k V),F k (by have:=c3 k V;omega)]⟩
  .have hie:i=p.funcs.length:=by simp at z;omega
   have O:(zer p).take i=zer p:=eF (by simp[zer];omega);rw[O]at hu;repeat' (first
    |(apply zcP ?_;clear hK K)|fail)
   all_goals (refine⟨zcT,_,zcU,?_⟩;try simp only[zcS])
   have e1:=hv3.iceV (n:=0);have e2:=hu.iceV (n:=0);show(match iceL (iceV I 2) [v,u]with|some ds=>some (AV.tup ds)|none=>none)=_;simp only[iceL,e1,e2])) (by
 show AV.tup [bF 2 (pn (zdD p)),bF 2 (pn (zer p))]=_;rw[IC,IC])
noncomputable def Cp:En:=⟨132,false,b0 (fun p=>p.sz<2^36) fp fun p=>.tup [zd7 (zdD p),zd7 (zer p)]⟩
theorem ID(ρ:Nat->Int):zdF Tryz.prog ρ Cp:=zdM fun p hp=>Zc ρ p hp
noncomputable def Cq:En:=⟨133,true,b0 yp nl fun x=>.bool (zdk [] x.flatten)⟩
theorem Zd(ρ:Nat->Int):zdF Tryz.prog ρ Cq:=zdM fun x F=>Zb ρ x F
theorem IE(x:List (List (List UInt8))):(x.map fun l=>[zd7 l]).flatten=x.map zd7:=by
 induction x with
 |nil=>rfl
 |cons a l ih=>simp[ih]
theorem Ze{H:Hp}{r imm:Nat}{x:List (List (List UInt8))}(A:H.get r=some (.cells (x.map zd7) imm true))(hr:r<H.next)(C:imm<=x.length):
 ∃H',ir (fB 100) [.sl r 0 x.length 1] H=some (nl x,H')/\Icy (fun k=>k=r) H H':=by
 refine zdI.iceL (S:=fun k=>k=r) (n:=100) (m:=nl x) ⟨?_,trivial⟩;have h:=zdI.rows (S:=fun k=>k=r) (n:=99) (H:=H) (r:=r) (z:=1) (imm:=imm) (tip:=true) (a:=x.map fun l=>[zd7 l]) (b:=x.map fun l=>[zd7 l]) rfl hr (by rw[IE];exact A) (by rw[IE];simpa using C) aE (zdo.refl fun a F=>zdo.refl fun c hc=>by
  obtain⟨l,_,rfl⟩:=mE.1 F;rw[List.mem_singleton]at hc;subst hc;exact ls ⟨uG l,trivial⟩)
 rw[cX]at h;exact h
theorem Cr{l:List En}(I:∀z,zdS l 133 z=Cq.sp z)(C:iF l 133=true){H:Hp}{r imm:Nat}{x:List (List (List UInt8))}(A:H.get r=some (.cells (x.map zd7) imm true))(hr:r<H.next)(K:imm<=x.length)(F:yp x):
 zc2 Tryz.prog (zcW pls l) 133 [.sl r 0 x.length 1] H fun v H'=>v=.bool (zdk [] x.flatten)/\Icy (fun k=>k=r) H H':=by
 obtain⟨H',i,g⟩:=Ze A hr K;refine aZ ?_ (NY (enc:=nl) (out:=fun x=>.bool (zdk [] x.flatten)) Y9 (x:=x) I C F (H':=H') (fun y _ e=>by simp[nl]at e) i);rintro v _ ⟨rfl,rfl⟩;exact⟨rfl,g⟩
theorem Cs(H:Hp)(a:List (List AV)):zej Tryz.prog H 230 1 [(0,.lst a)]=some (.sl H.next 0 1 1,H.alloc (.cells [.lst a] 0 true)):=af
theorem Zf(H:Hp)(a b:List (List AV)):zej Tryz.prog H 230 2 [(0,.lst a),(1,.lst b)]=some (.sl H.next 0 2 1,H.alloc (.cells [.lst a,.lst b] 0 true)):=af
theorem Zg(H:Hp)(a b c:List (List AV)):zej Tryz.prog H 230 3 [(0,.lst a),(1,.lst b),(2,.lst c)]=some (.sl H.next 0 3 1,H.alloc (.cells [.lst a,.lst b,.lst c] 0 true)):=af
noncomputable def Ct:List En:=[Cp,Cq]
theorem Zh(ρ:Nat->Int):fb Tryz.prog ρ Ct:=⟨ID ρ,Zd ρ,trivial⟩
set_option maxRecDepth 100000 in
theorem Zi(ρ:Nat->Int)(p:Pr)(hz:p.sz<2^36):bh Tryz.prog ρ 87 (fp p) (.bool (lF p)):=zdZ fit (pls:=pls) (Zh ρ) (.cons (.agg p.pure) .nil) (.bool _) (by
 have J:Plain (zcW pls Ct) 87:=zdO (fun _=>rfl) rfl;have kd:∀H,zc2 Tryz.prog (zcW pls Ct) 132 [.agg p.cells] H fun v H'=>v=.tup [zd7 (zdD p),zd7 (zer p)]/\H'=H:=fun H=>zdW (enc:=fp) (out:=fun p=>.tup [zd7 (zdD p),zd7 (zer p)]) rg (x:=p) rfl hz;have hpz:p.sz=1+jC p.arrays+jX p.funcs:=rfl;have hla:=sk p.arrays;have hlf:=sj p.funcs;have hal:(zdD p).length=p.arrays.length:=by simp[zdD]
 have hfl:(zer p).length=p.funcs.length:=by simp[zer]
 have hx0:∀a b,Ab.extract (.tup [a,b]) 0=some a:=fun _ _=>rfl;have hx1:∀a b,Ab.extract (.tup [a,b]) 1=some b:=fun _ _=>rfl;rw[fp];refine zf (M:=35) (rs:=[.tmp 2]) (J.call _) J.ice J.froz Tryz.func87 rfl rfl IA.2 rfl ?_;dsimp only[IA,zcX,Nat.reduceAdd];have Y:=@Cs;repeat' (first
  |(apply zcP ?_;clear hK K)|apply Rx.o ?_|(apply i5 ?_;first|refine Rx.k (kd _) ?_)|apply ak ?_|(apply zcQ fun K hK=>?_)|fail)
 refine a4 rfl a6 a7 ?_;simp only[bB];refine aZ ?_ (Cr (x:=[zdD p]) (imm:=0) (fun _=>rfl) rfl n9 (cQ _) aE ⟨aE,cp⟩);rintro v H2 ⟨rfl,C⟩;have n2:=C.next
 simp only[zc6,zdK]at n2;have L:H2.get 0=some (.cells p.cells 0 true):=by rw[C.out 0 aE,zcY,ah aE,zcY,ay dt]
 have n2':2<=H2.next:=ac
 clear C n2;rw[show([zdD p]:List (List (List UInt8))).flatten=zdD p by simp];dsimp only[zc5];have Y:=@Cs;repeat' (first
  |(apply zcP ?_;clear hK K)|apply Rx.o ?_|(apply bW (fun o I=>?_) (fun o I=>?_)<;>try(cases o;done))|(apply aU (fun z V=>?_) (fun z V=>?_)<;>try(cases z;done))|apply ak ?_|(apply zcQ fun K hK=>?_)|apply am ?_|fail)
 .refine a4 rfl a6 a7 ?_;simp only[bB];refine aZ ?_ (Cr (x:=[zer p]) (imm:=0) (fun _=>rfl) rfl n9 (cQ _) aE ⟨aE,cp⟩);rintro v H3 ⟨rfl,C⟩;have n3:=C.next
  simp only[zc6]at n3;have g30:H3.get 0=some (.cells p.cells 0 true):=by rw[C.out 0 ac,zcY,ah ac];exact L
  have n3':2<=H3.next:=ac
  clear C n3;rw[show([zer p]:List (List (List UInt8))).flatten=zer p by simp];dsimp only[zc5];repeat' (first
   |(apply zcP ?_;clear hK K)|apply Rx.o ?_|(apply aU (fun z V=>?_) (fun z V=>?_)<;>try(cases z;done))|apply ak ?_|(apply zcQ fun K hK=>?_)|apply ax ?_|apply zcR ?_|apply am ?_|fail)
  .all_goals (refine⟨zcT,_,zcU,?_⟩;try simp only[zcS])
   rw[lF];(try simp only[ff]at *);simp only[ *,Ih,]
  .refine zdN [3,21,22] [0] 23 p.funcs.length (fun i E H=>(p.funcs.any fun f=>zdk [] (zdD p++(f.params++f.locals)))=((p.funcs.drop i).any fun f=>zdk [] (zdD p++(f.params++f.locals)))) eE aE ?_;rintro i E W hi O j m hsI g;(try simp only[zdh,zdb,a1,zc3,zde,Nat.reduceBEq, *]at O);(try simp only[zdh,zdb,a1, *]at j);(try simp only[zc6,zdm,zdK,bz,Nat.reduceAdd]at m);have hB0:(0 == W.next)=false:=zc7 ac;have hC0:(W.next == 0)=false:=zc7 ac;repeat' (first
    |(apply zcP ?_;clear hK K)|apply Rx.o ?_|(apply aU (fun z V=>?_) (fun z V=>?_)<;>try(cases z;done))|apply ak ?_|(apply zcQ fun K hK=>?_)|apply ax ?_|apply zcR ?_|apply am ?_|apply zc4 ?_)
   .have Z:i<p.funcs.length:=by simpa using z
    have hgx:p.funcs[i]?=some p.funcs[i]:=aO Z;have hsm:=so (dx Z);have hsz:p.funcs[i].sz=1+p.funcs[i].name.length+zeJ p.funcs[i].params+zeJ p.funcs[i].locals+zeO p.funcs[i].body+p.funcs[i].value.sz:=rfl;have hpl:=si p.funcs[i].params;have hll:=si p.funcs[i].locals;have U:((p.funcs.drop i).any fun f=>zdk [] (zdD p++(f.params++f.locals)))=(zdk [] (zdD p++(p.funcs[i].params++p.funcs[i].locals))||((p.funcs.drop (i+1)).any fun f=>zdk [] (zdD p++(f.params++f.locals)))):=by rw[eJ Z,mW]
    have Y:=@Zg;repeat' (first
     |(apply zcP ?_;clear hK K)|apply Rx.o ?_|apply bE ?_|apply ak ?_|(apply zcQ fun K hK=>?_)|fail)
    refine a4 rfl a6 a7 ?_;simp only[bB];refine aZ ?_ (Cr (x:=[zdD p,p.funcs[i].params,p.funcs[i].locals]) (imm:=0) (fun _=>rfl) rfl n9 (cQ _) aE ⟨aE,cp⟩);rintro v H5 ⟨rfl,C⟩;have n5:=C.next
    simp only[zc6,zdm]at n5;have g50:H5.get 0=some (.cells p.cells 0 true):=by rw[C.out 0 (by intro e;change (0:Nat)=_ at e;(try simp only[zdm,zc6]at e);omega),zcY,ah (by(try simp only[zdm,zc6]);omega),aX,ah ac,zcY,ah ac];exact j
    have n5':W.next<=H5.next:=ac
    clear C n5;rw[show([zdD p,p.funcs[i].params,p.funcs[i].locals]:List (List (List UInt8))).flatten=zdD p++(p.funcs[i].params++p.funcs[i].locals) by simp];dsimp only[zc5];repeat' (first
     |(apply zcP ?_;clear hK K)|apply Rx.o ?_|(apply aU (fun z V=>?_) (fun z V=>?_)<;>try(cases z;done))|apply ak ?_|(apply zcQ fun K hK=>?_)|apply zcR ?_|apply am ?_|fail)
    .all_goals (refine⟨zcT,_,zcU,?_⟩;try simp only[zcS])
     rw[lF,g,U];(try simp only[ff]at *);simp only[ *,Ii,]
    .refine⟨ac,eL,eL,eN,vi,?_⟩;rw[g,U];(try simp only[ff]at *);simp only[*,ji,]
   .all_goals (refine⟨zcT,_,zcU,?_⟩;try simp only[zcS])
    have F:i=p.funcs.length:=rj;rw[F,jI]at g;have A:(p.funcs.any fun f=>zdk [] (zdD p++(f.params++f.locals)))=false:=g;rw[lF,A];(try simp only[ff]at *);simp only[*,jH,]
 .repeat' (first
   |(apply zcP ?_;clear hK K)|fail)
  all_goals (refine⟨zcT,_,zcU,?_⟩;try simp only[zcS])
  rw[lF];(try simp only[ff]at *);simp only[*,mF,])
end
section
def tyV5.tyF:=ad @cP (ad @b7 (ad @ei (ad @fd (ad @eT (@xu)))))
open tyV5
noncomputable def IF:{c:SC // aB 22 (Tryz.f99.body.getD .skip)=c}:=by
 refine⟨?_,?_⟩;rotate_left
 .simp only[Tryz.f99,a8,aB,zda,zc9,zdc,zdd,Nat.blt,Nat.ble];rfl
def zdY(n:Nd):List UInt8:=ob (ph n)
noncomputable def yq:En:=⟨147,false,b0 (fun n=>n.kids.length<2^30) ve fun n=>.str (zdY n)⟩
theorem Zj(ρ:Nat->Int):zdF Tryz.prog ρ yq:=zdM fun n o=>YS ρ n o
theorem Zk{tb:List En}(C:∀z,zdS tb 147 z=yq.sp z)(n:Nd)(o:n.kids.length<2^30)(H:Hp):zc2 Tryz.prog (zcW pls tb) 147 [.agg n.cells] H fun v H'=>v=.str (zdY n)/\H'=H:=
 zdW (enc:=ve) (ok:=fun n=>n.kids.length<2^30) (out:=fun n=>.str (zdY n)) YR (x:=n) (C _) o
def jt(l:List Nd):Bool:=!zdk [] (l.map zdY)
theorem Zl(ρ:Nat->Int)(l:List Nd)(F:zeu l):bh Tryz.prog ρ 99 [zd2 l] (.bool (jt l)):=zdZ fit (pls:=pls) (l:=[yq]) ⟨Zj ρ,trivial⟩ (.cons (zfr _) .nil) (.bool _) (by
 obtain⟨hl1,C⟩:=F;have J:Plain (zcW pls [yq]) 99:=zdO (fun _=>rfl) rfl;refine zf (M:=22) (rs:=[.tmp 2]) (J.call _) J.ice J.froz Tryz.func99 rfl rfl IF.2 rfl ?_;dsimp only[IF,zcX,Nat.reduceAdd];repeat' (first
  |(apply zcP ?_;clear hK K)|apply Rx.o ?_|apply ak ?_|(apply zcQ fun K hK=>?_)|apply ax ?_|apply zcR ?_|apply am ?_|apply zc4 ?_)
 refine zdN [3,8,9] [] 10 l.length (fun i E H=>∃seen,H.get 0=some (.map (eB seen))/\zdk [] (l.map zdY)=zdk seen ((l.drop i).map zdY)) eE ⟨[],n9,rfl⟩ ?_;rintro i E L hi Y j W o ⟨seen,hm,g⟩;(try simp only[zdh,zdb,a1,zc3,zde,Nat.reduceBEq,Nat.reduceAdd,Nat.reduceLeDiff,tyF, *]at Y);(try simp only[zdh,zdb,a1,zc3,zde,Nat.reduceBEq,Nat.reduceAdd,Nat.reduceLeDiff,tyF, *]at j);(try simp only[zc6,zdm,zdK,bz,Nat.reduceAdd]at W);by_cases z:i<l.length
 .have m:(i:Int)<l.length:=by omega
  have hgx:l[i]?=some l[i]:=aO z;have I:=C _ (dx z);have U:zdk seen ((l.drop i).map zdY)=(zdi seen (zdY l[i])||zdk (seen++[zdY l[i]]) ((l.drop (i+1)).map zdY)):=by rw[eJ z];rfl
  generalize l[i]=n at *;have A:∀b c,((L.alloc b).set L.next c).get 0=some (.map (eB seen)):=fun b c=>by rw[aX,ah ac,zcY,ah ac];exact hm
  have hlk:=fun b c=>ry (A b c) (zdY n);have hup:=fun b c=>Co (A b c) (zdY n);repeat' (first
   |(apply zcP ?_;clear hK K)|apply Ry.o ?_|apply bl ?_|(apply bq ?_;first|refine Rx.k (Zk (fun _=>rfl) _ I _) ?_)|(apply az (fun Z V=>?_) (fun Z V=>?_)<;>try(cases Z;done))|apply ak ?_|(apply zcQ fun K hK=>?_)|apply ax ?_|apply zcR ?_|apply am ?_|apply zc4 ?_)
  .all_goals (refine⟨zcT,_,zcU,?_⟩;try simp only[zcS])
   rw[jt,g,U];(try simp only[ff]at *);simp only[ *,j9,bS,cb,Int.reduceEq]
  .refine⟨ac,eL,eL,eN,jJ,?_⟩;refine⟨nk seen (zdY n),vh,?_⟩;rw[g,U,nk];(try simp only[ff]at *);simp only[ *,j9,bS,cb,Int.reduceEq];rfl
 .have m:¬(i:Int)<l.length:=by omega
  have O:l.drop i=[]:=o0 ac;rw[O]at g;repeat' (first
   |(apply zcP ?_;clear hK K)|apply Ry.o ?_|apply bl ?_|(apply az (fun Z V=>?_) (fun Z V=>?_)<;>try(cases Z;done))|apply ak ?_|(apply zcQ fun K hK=>?_)|apply ax ?_|apply zcR ?_|apply am ?_|apply zc4 ?_)
  all_goals (refine⟨zcT,_,zcU,?_⟩;try simp only[zcS])
  rw[jt,g];rfl)
end
section
def tyV6.tyF:=ad @cP (ad @b7 (ad @dz (ad @ei (ad @fd (ad @eT (ad @mN (ad @mO (ad @ii (ad @jE (ad @xm (@A8)))))))))))
open tyV6
noncomputable def yr:{c:SC // aB 114 (Tryz.f63.body.getD .skip)=c}:=by
 refine⟨?_,?_⟩;rotate_left
 .simp only[Tryz.f63,a8,aB,zda,zc9,zdc,zdd,Nat.blt,Nat.ble];rfl
theorem vo{l:List Nd}{i:Nat}{n:Nd}(o:l[i]?=some n)(h:zdV l i≠0):NdOk n i/\(n.op=30->0<=n.imm/\n.imm<=7)/\vb n:=by
 have C:i<l.length:=by
  by_cases c:i<l.length
  .exact c
  .rw[fL ac]at o;cases o
 have W:=h;rw[GQ C]at h;obtain⟨s,Z,g,m⟩:=XI o h;have V:=o9 Z;have j:=sU Z;have Y:n.op=3->0<=n.imm/\n.imm<=255:=fun e=>by
  rw[jc,ah ac,ah ac,zd6,ah ac,ay e,dB,jz,jz]at m;exact m
 have z:n.op=30->0<=n.imm/\n.imm<=7:=fun e=>by
  rw[jc,ah ac,ah ac,zd6,ah ac,ah ac,ah ac,ay e,dB,jz,jz]at m;exact m
 have A:n.op=31->0<=n.imm/\n.imm<=15:=fun e=>by
  rw[jc,ah ac,ah ac,zd6,ah ac,ah ac,ah ac,ah ac,ay e,dB,jz,jz]at m;exact m
 refine⟨⟨fun k I=>⟨(j k I).1,(j k I).2.1⟩,Y,fun e=>?_⟩,z,A,Y⟩;have a:bj 31=(-1,true):=dD;rw[e,zdv,a]at g;simp only[k9,cb]at g;rw[ah ac,ay trivial]at g;simp only[kE]at g;exact⟨(A e).1,(A e).2,ac,ac⟩
theorem yu{l:List Nd}{i:Nat}(h:i<l.length):(zds l l.length)[i]?=some (zdV l i):=by
 have:=XL (l:=l) h (aM _);rw[cH]at this;have I:i<(zds l l.length).length:=by rw[zfw];exact h
 rw[aO I]at this⊢;exact kD some this
def kR(u:Un)(g:Gr)(i:Nat):Bool:=match g.nodes[i]? with
 |some n=>decide (zdV g.nodes i≠0)&&eO u g n
 |none=>true
def zem(l:List Nd)(i:Int):Nat:=(zev l l.length).getD i.toNat 0
def el(u:Un)(g:Gr):Bool:=
 (decide (0<=g.params)&&decide (g.params<=6)&&decide ((g.nodes.length:Int)<=2000))&&((List.range g.nodes.length).all (kR u g)) &&
 (jt g.nodes&&ya g.nodes&&decide (0<=g.value)&&decide (g.value<g.nodes.length)&&decide (0<=g.state)&&decide (g.state<g.nodes.length)) &&
 (decide (zdV g.nodes g.value=1)&&decide (zdV g.nodes g.state=2)&&decide (zem g.nodes g.value=0)&&decide (zem g.nodes g.state=0))
noncomputable def IG:En:=⟨98,false,b0 B9 qZ fun x=>.bool (eO x.u x.g x.n)⟩
theorem Zm(ρ:Nat->Int):zdF Tryz.prog ρ IG:=zdM fun x F=>Yz ρ x F
noncomputable def II:En:=⟨99,false,b0 zeu i8 fun l=>.bool (jt l)⟩
theorem Zn(ρ:Nat->Int):zdF Tryz.prog ρ II:=zdM fun l I=>Zl ρ l I
noncomputable def IJ:En:=⟨100,false,b0 (fun l=>zeu l/\∀n∈l,vb n) i8 fun l=>.bool (ya l)⟩
theorem Zo(ρ:Nat->Int):zdF Tryz.prog ρ IJ:=zdM fun l I=>Yx ρ l I.1 I.2
noncomputable def IK:En:=⟨101,false,b0 re i8 fun l=>vc (zev l l.length)⟩
theorem Zp(ρ:Nat->Int):zdF Tryz.prog ρ IK:=zdM fun l I=>YE ρ l I
noncomputable def rz:List En:=[B4,IG,II,IJ,IK]
theorem Zq(ρ:Nat->Int):fb Tryz.prog ρ rz:=⟨Ys ρ,Zm ρ,Zn ρ,Zo ρ,Zp ρ,trivial⟩
structure VgX where
 u:Un
 g:Gr
def mh(x:VgX):List AV:=[.agg x.u.cells,.agg x.g.cells]
theorem IL(x y:VgX)(h:mh x=mh y):x=y:=by
 obtain⟨a,b⟩:=x;obtain⟨O,i⟩:=y;simp only[mh,cS,AV.agg.injEq,a1]at h;rw[Un.inj h.1,Gr.inj h.2]
def yw(x:VgX):Prop:=zeu x.g.nodes/\x.u.arrays.length<2^30/\x.u.funcs.length<2^30
theorem IM{l:List Nd}{i:Nat}(h:i<l.length):((zev l l.length).map fun(m:Nat)=>[AV.int .u32 (m:Int)])[i]?=some [.int .u32 ((zem l i:Nat):Int)]:=by
 have I:i<(zev l l.length).length:=by rw[s7];exact h
 rw[ea,zem,dQ,cH,aO I];rfl
set_option maxRecDepth 100000 in
theorem Zr(ρ:Nat->Int)(x:VgX)(hx:yw x):bh Tryz.prog ρ 63 (mh x) (.bool (el x.u x.g)):=zdZ fit (pls:=pls) (Zq ρ) (.cons (.agg (sA _)) (.cons (.agg (Gr.pure _)) .nil)) (.bool _) (by
 obtain⟨u,g⟩:=x;obtain⟨C,hua,huf⟩:=hx;have hw:Plain (zcW pls rz) 63:=zdO (fun _=>rfl) rfl;rw[mh];simp only[]at C hua huf⊢;have hnl:=C.1;have ks:∀H,zc2 Tryz.prog (zcW pls rz) 78 [zd2 g.nodes] H fun v H'=>v=zdR (zds g.nodes g.nodes.length)/\H'=H:=fun H=>Yt (fun _=>rfl) _ C H;by_cases c1:0<=g.params/\g.params<=6/\(g.nodes.length:Int)<=2000
 .obtain⟨c11,c12,c13⟩:=c1;have d1:¬g.params<0:=ac;have d2:¬(6:Int)<g.params:=ac;have d3:¬(2000:Int)<g.nodes.length:=ac;refine zf (M:=114) (rs:=[.tmp 4]) (hw.call _) hw.ice hw.froz Tryz.func63 rfl rfl yr.2 rfl ?_;dsimp only[yr,zcX,Nat.reduceAdd];repeat' (first
   |(apply zcP ?_;clear hK K)|apply Ry.o ?_|(apply bq ?_;first|refine Rx.k (ks _) ?_)|(apply aT (fun A I=>?_) (fun A I=>?_)<;>try(cases A;done))|(apply az (fun z V=>?_) (fun z V=>?_)<;>try(cases z;done))|apply ak ?_|(apply zcQ fun K hK=>?_)|apply ax ?_|apply zcR ?_|fail)
  have J:∀i,i<g.nodes.length->kR u g i=false->el u g=false:=fun i hi h=>by
   have:((List.range g.nodes.length).all (kR u g))=false:=by
    rw[Ch];exact⟨i,iY.2 hi,by rw[h];simp⟩
   rw[el,this];simp
  refine zdN [2,3,5,27,28] [0,1] 29 g.nodes.length (fun i E H=>∀j,j<i->kR u g j=true) eE (fun j hj=>ac) ?_;rintro i E Hi hi hcE hrH hnH hsI hJ;(try simp only[zdh,zdb,a1,zc3,zde,Nat.reduceBEq, *]at hcE);(try simp only[zdh,zdb,a1,zc3,zde,Nat.reduceBEq, *]at hrH);(try simp only[zc6,zdK,bz,Nat.reduceAdd]at hnH);have hB0:(0 == Hi.next)=false:=zc7 ac;have hC0:(Hi.next == 0)=false:=zc7 ac;have hB1:(1 == Hi.next)=false:=zc7 ac;have hC1:(Hi.next == 1)=false:=zc7 ac;have ni:2<=Hi.next:=hnH
  by_cases F:i<g.nodes.length
  .have hlt':(i:Int)<g.nodes.length:=by omega
   have hgx:g.nodes[i]?=some g.nodes[i]:=aO F;have hnk:=C.2 _ (dx F);have hsg:=yu F;have hsf:=fun h=>vo hgx (l:=g.nodes) (i:=i) h;have o:kR u g i=(decide (zdV g.nodes i≠0)&&eO u g g.nodes[i]):=by rw[kR,hgx]
   have vf:=J i F;clear J;generalize g.nodes[i]=n at *;by_cases hs0:zdV g.nodes i=0
   .have vf2:=vf (by rw[o,hs0];rfl);clear o vf hJ hsf;rw[hs0]at hsg;repeat' (first
     |(apply zcP ?_;clear hK K)|apply Ry.o ?_|apply bl ?_|(apply aT (fun A I=>?_) (fun A I=>?_)<;>try(cases A;done))|(apply az (fun z V=>?_) (fun z V=>?_)<;>try(cases z;done))|apply ak ?_|(apply zcQ fun K hK=>?_)|apply ax ?_|apply zcR ?_|apply am ?_|fail)
    all_goals (refine⟨zcT,_,zcU,?_⟩;try simp only[zcS])
    rw[vf2]
   .have U:kR u g i=eO u g n:=by rw[o,cI hs0,dq]
    obtain⟨f1,f2,f3⟩:=hsf hs0;have kr:∀H,zc2 Tryz.prog (zcW pls rz) 98 [.agg u.cells,.agg g.cells,.agg n.cells] H fun v H'=>v=.bool (eO u g n)/\H'=H:=fun H=>zdW (enc:=qZ) (ok:=B9) (out:=fun x=>.bool (eO x.u x.g x.n)) Yy (x:=⟨u,g,n⟩) rfl ⟨fun h=>(f2 h).1,hnk,hua,huf⟩;clear o hsf f1 f2 f3;by_cases hr:eO u g n=true
    .repeat' (first
      |(apply zcP ?_;clear hK K)|apply Ry.o ?_|apply bl ?_|(apply bq ?_;first|refine Rx.k (kr _) ?_)|(apply aT (fun A I=>?_) (fun A I=>?_)<;>try(cases A;done))|(apply az (fun z V=>?_) (fun z V=>?_)<;>try(cases z;done))|apply ak ?_|(apply zcQ fun K hK=>?_)|apply ax ?_|apply zcR ?_|fail)
     refine⟨ac,eL,eL,eN,nh,?_⟩;intro j hj;by_cases e:j=i
     .rw[e,U,hr]
     .exact hJ j ac
    .have hr':eO u g n=false:=by simpa using hr
     have vf2:=vf (by rw[U,hr']);clear vf hJ U;repeat' (first
      |(apply zcP ?_;clear hK K)|apply Ry.o ?_|apply bl ?_|(apply bq ?_;first|refine Rx.k (kr _) ?_)|(apply aT (fun A I=>?_) (fun A I=>?_)<;>try(cases A;done))|(apply az (fun z V=>?_) (fun z V=>?_)<;>try(cases z;done))|apply ak ?_|(apply zcQ fun K hK=>?_)|apply ax ?_|apply zcR ?_|apply am ?_|fail)
     all_goals (refine⟨zcT,_,zcU,?_⟩;try simp only[zcS])
     rw[vf2]
  .have hlt':¬(i:Int)<g.nodes.length:=by omega
   have O:∀j,j<g.nodes.length->kR u g j=true:=fun j hj=>hJ j ac;have L:∀(j:Nat) (n:Nd),g.nodes[j]?=some n->zdV g.nodes j≠0:=fun j n h=>by
    have hj:j<g.nodes.length:=by
     by_cases c:j<g.nodes.length
     .exact c
     .rw[fL ac]at h;cases h
    have:=O j hj;rw[kR,h,dB,jz]at this;exact this.1
   have hlp:∀n∈g.nodes,vb n:=fun n hn=>by
    obtain⟨j,hj,e⟩:=oJ hn;have h:g.nodes[j]?=some n:=yg;exact(vo h (L j n h)).2.2
   have hld:re g.nodes:=⟨C,fun j n h=>(vo h (L j n h)).1⟩;have Y:((List.range g.nodes.length).all (kR u g))=true:=fT.2 fun j hj=>O j (iY.1 hj);have hvg:el u g=((jt g.nodes&&ya g.nodes&&decide (0<=g.value)&&decide (g.value<g.nodes.length)&&decide (0<=g.state)&&decide (g.state<g.nodes.length)) &&
    (decide (zdV g.nodes g.value=1)&&decide (zdV g.nodes g.state=2)&&decide (zem g.nodes g.value=0)&&decide (zem g.nodes g.state=0))):=by
    rw[el,Y,cI c11,cI c12,cI c13];simp
   rw[hvg];clear hvg Y O L J hJ;have ka:∀H,zc2 Tryz.prog (zcW pls rz) 99 [zd2 g.nodes] H fun v H'=>v=.bool (jt g.nodes)/\H'=H:=fun H=>zdW (enc:=i8) (ok:=zeu) (out:=fun l=>.bool (jt l)) qV (x:=g.nodes) rfl C;have kl:∀H,zc2 Tryz.prog (zcW pls rz) 100 [zd2 g.nodes] H fun v H'=>v=.bool (ya g.nodes)/\H'=H:=fun H=>zdW (enc:=i8) (ok:=fun l=>zeu l/\∀n∈l,vb n) (out:=fun l=>.bool (ya l)) qV (x:=g.nodes) rfl ⟨C,hlp⟩;have kd:∀H,zc2 Tryz.prog (zcW pls rz) 101 [zd2 g.nodes] H fun v H'=>v=.lst ((zev g.nodes g.nodes.length).map fun(m:Nat)=>[AV.int .u32 (m:Int)])/\H'=H:=fun H=>zdW (enc:=i8) (ok:=re) (out:=fun l=>vc (zev l l.length)) qV (x:=g.nodes) rfl hld;have hsl:=zfw g.nodes g.nodes.length;clear hlp hld;generalize hdv:jt g.nodes=dv at *;generalize hvv:ya g.nodes=vl at *;by_cases cg:dv=true/\vl=true/\0<=g.value/\g.value<g.nodes.length/\0<=g.state/\g.state<g.nodes.length
   .obtain⟨rfl,rfl,v0,v1,s0,s1⟩:=cg;obtain⟨a,ha⟩:=eI v0;obtain⟨b,hb0⟩:=eI s0;have hal:a<g.nodes.length:=ac;have hbl:b<g.nodes.length:=ac;have q1:=yu hal;have q2:=yu hbl;have q3:=IM hal;have q4:=IM hbl;have e1:¬((a:Int)<0):=ac;have e2:¬((g.nodes.length:Int)<=a):=ac;have e3:¬((b:Int)<0):=ac;have e4:¬((g.nodes.length:Int)<=b):=ac;rw[cI v0,cI v1,cI s0,cI s1];simp only[qj,dq];rw[ha,hb0];clear v0 v1 s0 s1;repeat' (first
     |(apply zcP ?_;clear hK K)|apply Ry.o ?_|(apply bq ?_;first|refine Rx.k (ka _) ?_|refine Rx.k (kl _) ?_|refine Rx.k (kd _) ?_)|(apply aT (fun A I=>?_) (fun A I=>?_)<;>try(cases A;done))|(apply az (fun z V=>?_) (fun z V=>?_)<;>try(cases z;done))|apply ak ?_|(apply zcQ fun K hK=>?_)|apply zcR ?_|apply am ?_|apply zc4 ?_)
    all_goals first
     |exact zdj
     |skip
    all_goals
     refine⟨zcT,_,dG,?_⟩;simp only[zcS]
    all_goals
     first
     |(congr 1;simp_all[Int.natCast_eq_zero];done)
     |trace_state
   .have W:∀(b:Bool),¬b=false->b=true:=fun b h=>by simpa using h
    by_cases zd0:dv=false
    .have Z:((dv&&vl&&decide (0<=g.value)&&decide (g.value<g.nodes.length)&&decide (0<=g.state)&&decide (g.state<g.nodes.length)) &&
     (decide (zdV g.nodes g.value=1)&&decide (zdV g.nodes g.state=2)&&decide (zem g.nodes g.value=0)&&decide (zem g.nodes g.state=0)))=false:=by rw[zd0];rfl
     rw[Z];clear Z W cg;repeat' (first
      |(apply zcP ?_;clear hK K)|apply Ry.o ?_|(apply bq ?_;first|refine Rx.k (ka _) ?_|refine Rx.k (kl _) ?_|refine Rx.k (kd _) ?_)|(apply aT (fun A I=>?_) (fun A I=>?_)<;>try(cases A;done))|(apply az (fun z V=>?_) (fun z V=>?_)<;>try(cases z;done))|apply ak ?_|(apply zcQ fun K hK=>?_)|apply am ?_|apply zc4 ?_)
     all_goals first
      |exact zdj
      |skip
     all_goals (refine⟨zcT,_,zcU,?_⟩;try simp only[zcS])
    have b1:=W _ zd0;by_cases a2:vl=false
    .have Z:((dv&&vl&&decide (0<=g.value)&&decide (g.value<g.nodes.length)&&decide (0<=g.state)&&decide (g.state<g.nodes.length)) &&
     (decide (zdV g.nodes g.value=1)&&decide (zdV g.nodes g.state=2)&&decide (zem g.nodes g.value=0)&&decide (zem g.nodes g.state=0)))=false:=by rw[a2];simp
     rw[Z];clear Z W cg;repeat' (first
      |(apply zcP ?_;clear hK K)|apply Ry.o ?_|(apply bq ?_;first|refine Rx.k (ka _) ?_|refine Rx.k (kl _) ?_|refine Rx.k (kd _) ?_)|(apply aT (fun A I=>?_) (fun A I=>?_)<;>try(cases A;done))|(apply az (fun z V=>?_) (fun z V=>?_)<;>try(cases z;done))|apply ak ?_|(apply zcQ fun K hK=>?_)|apply am ?_|apply zc4 ?_)
     all_goals first
      |exact zdj
      |skip
     all_goals (refine⟨zcT,_,zcU,?_⟩;try simp only[zcS])
    have b2:=W _ a2;by_cases a3:g.value<0
    .have Z:((dv&&vl&&decide (0<=g.value)&&decide (g.value<g.nodes.length)&&decide (0<=g.state)&&decide (g.state<g.nodes.length)) &&
     (decide (zdV g.nodes g.value=1)&&decide (zdV g.nodes g.state=2)&&decide (zem g.nodes g.value=0)&&decide (zem g.nodes g.state=0)))=false:=by rw[dd (by omega:¬0<=g.value)];simp
     rw[Z];clear Z W cg;repeat' (first
      |(apply zcP ?_;clear hK K)|apply Ry.o ?_|(apply bq ?_;first|refine Rx.k (ka _) ?_|refine Rx.k (kl _) ?_|refine Rx.k (kd _) ?_)|(apply aT (fun A I=>?_) (fun A I=>?_)<;>try(cases A;done))|(apply az (fun z V=>?_) (fun z V=>?_)<;>try(cases z;done))|apply ak ?_|(apply zcQ fun K hK=>?_)|apply am ?_|apply zc4 ?_)
     all_goals first
      |exact zdj
      |skip
     all_goals (refine⟨zcT,_,zcU,?_⟩;try simp only[zcS])
    by_cases zeh:(g.nodes.length:Int)<=g.value
    .have Z:((dv&&vl&&decide (0<=g.value)&&decide (g.value<g.nodes.length)&&decide (0<=g.state)&&decide (g.state<g.nodes.length)) &&
     (decide (zdV g.nodes g.value=1)&&decide (zdV g.nodes g.state=2)&&decide (zem g.nodes g.value=0)&&decide (zem g.nodes g.state=0)))=false:=by rw[dd (by omega:¬g.value<g.nodes.length)];simp
     rw[Z];clear Z W cg;repeat' (first
      |(apply zcP ?_;clear hK K)|apply Ry.o ?_|(apply bq ?_;first|refine Rx.k (ka _) ?_|refine Rx.k (kl _) ?_|refine Rx.k (kd _) ?_)|(apply aT (fun A I=>?_) (fun A I=>?_)<;>try(cases A;done))|(apply az (fun z V=>?_) (fun z V=>?_)<;>try(cases z;done))|apply ak ?_|(apply zcQ fun K hK=>?_)|apply am ?_|apply zc4 ?_)
     all_goals first
      |exact zdj
      |skip
     all_goals (refine⟨zcT,_,zcU,?_⟩;try simp only[zcS])
    by_cases a5:g.state<0
    .have Z:((dv&&vl&&decide (0<=g.value)&&decide (g.value<g.nodes.length)&&decide (0<=g.state)&&decide (g.state<g.nodes.length)) &&
     (decide (zdV g.nodes g.value=1)&&decide (zdV g.nodes g.state=2)&&decide (zem g.nodes g.value=0)&&decide (zem g.nodes g.state=0)))=false:=by rw[dd (by omega:¬0<=g.state)];simp
     rw[Z];clear Z W cg;repeat' (first
      |(apply zcP ?_;clear hK K)|apply Ry.o ?_|(apply bq ?_;first|refine Rx.k (ka _) ?_|refine Rx.k (kl _) ?_|refine Rx.k (kd _) ?_)|(apply aT (fun A I=>?_) (fun A I=>?_)<;>try(cases A;done))|(apply az (fun z V=>?_) (fun z V=>?_)<;>try(cases z;done))|apply ak ?_|(apply zcQ fun K hK=>?_)|apply am ?_|apply zc4 ?_)
     all_goals first
      |exact zdj
      |skip
     all_goals (refine⟨zcT,_,zcU,?_⟩;try simp only[zcS])
    have zfu:(g.nodes.length:Int)<=g.state:=by
     by_cases c:(g.nodes.length:Int)<=g.state
     .exact c
     .exact absurd ⟨b1,b2,ac,ac,ac,ac⟩ cg
    have Z:((dv&&vl&&decide (0<=g.value)&&decide (g.value<g.nodes.length)&&decide (0<=g.state)&&decide (g.state<g.nodes.length)) &&
     (decide (zdV g.nodes g.value=1)&&decide (zdV g.nodes g.state=2)&&decide (zem g.nodes g.value=0)&&decide (zem g.nodes g.state=0)))=false:=by rw[dd (by omega:¬g.state<g.nodes.length)];simp
    rw[Z];clear Z W cg;repeat' (first
     |(apply zcP ?_;clear hK K)|apply Ry.o ?_|(apply bq ?_;first|refine Rx.k (ka _) ?_|refine Rx.k (kl _) ?_|refine Rx.k (kd _) ?_)|(apply aT (fun A I=>?_) (fun A I=>?_)<;>try(cases A;done))|(apply az (fun z V=>?_) (fun z V=>?_)<;>try(cases z;done))|apply ak ?_|(apply zcQ fun K hK=>?_)|apply am ?_|apply zc4 ?_)
    all_goals first
     |exact zdj
     |skip
    all_goals (refine⟨zcT,_,zcU,?_⟩;try simp only[zcS])
 .have hv:el u g=false:=by
   rw[el];cases h:(decide (0<=g.params)&&decide (g.params<=6)&&decide ((g.nodes.length:Int)<=2000))with
   |false=>simp
   |true=>
    simp only[kE]at h;exact absurd ⟨h.1.1,h.1.2,h.2⟩ c1
  rw[hv];refine zf (M:=114) (rs:=[.tmp 4]) (hw.call _) hw.ice hw.froz Tryz.func63 rfl rfl yr.2 rfl ?_;dsimp only[yr,zcX,Nat.reduceAdd];by_cases d1:g.params<0
  .repeat' (first
    |(apply zcP ?_;clear hK K)|apply Ry.o ?_|(apply aT (fun A I=>?_) (fun A I=>?_)<;>try(cases A;done))|(apply az (fun z V=>?_) (fun z V=>?_)<;>try(cases z;done))|apply ak ?_|(apply zcQ fun K hK=>?_)|apply am ?_|fail)
   all_goals (refine⟨zcT,_,zcU,?_⟩;try simp only[zcS])
  .by_cases d2:(6:Int)<g.params
   .repeat' (first
     |(apply zcP ?_;clear hK K)|apply Ry.o ?_|(apply aT (fun A I=>?_) (fun A I=>?_)<;>try(cases A;done))|(apply az (fun z V=>?_) (fun z V=>?_)<;>try(cases z;done))|apply ak ?_|(apply zcQ fun K hK=>?_)|apply am ?_|fail)
    all_goals (refine⟨zcT,_,zcU,?_⟩;try simp only[zcS])
   .have d3:(2000:Int)<g.nodes.length:=by omega
    repeat' (first
     |(apply zcP ?_;clear hK K)|apply Ry.o ?_|(apply aT (fun A I=>?_) (fun A I=>?_)<;>try(cases A;done))|(apply az (fun z V=>?_) (fun z V=>?_)<;>try(cases z;done))|apply ak ?_|(apply zcQ fun K hK=>?_)|apply am ?_|fail)
    all_goals (refine⟨zcT,_,zcU,?_⟩;try simp only[zcS]))
end
section
def tyW4a.tyF:=ad @b7 (ad @dz (ad @iG (ad @iH (ad @gC (ad @jF (@cP))))))
open tyW4a
noncomputable def IN:{c:SC // aB 28 (Tryz.f129.body.getD .skip)=c}:=by
 refine⟨?_,?_⟩;rotate_left
 .simp only[Tryz.f129,a8,aB,zda,zc9,zdc,zdd,Nat.blt,Nat.ble];rfl
noncomputable def IP:{c:SC // aB 39 (Tryz.f123.body.getD .skip)=c}:=by
 refine⟨?_,?_⟩;rotate_left
 .simp only[Tryz.f123,a8,aB,zda,zc9,zdc,zdd,Nat.blt,Nat.ble];rfl
def ti(cfg:Cfg)(base:Nat)(I:Hp->Prop)(g:FuncId)(cap:List AV)(q:Ex->Int->Bool):Prop:=
 ∀(x:Ex) (d:Int) (H:Hp),x.sz<2^60->base<=H.next->I H->zc2 Tryz.prog cfg g (.agg x.cells::.int .i64 d::cap) H fun v H'=>v=.bool (q x d)/\FrB base H H'/\I H'
def po(base:Nat)(I:Hp->Prop):Prop:=∀H H',I H->fE base H H'->I H'
theorem tj{cfg:Cfg}(j:Plain cfg 129){base:Nat}{I:Hp->Prop}(hI:po base I){g:FuncId}{cap:List AV}{q:Ex->Int->Bool}(hq:ti cfg base I g cap q):
 ∀(n:Nat) (x:Ex),x.sz<n->∀(d:Int) (H:Hp),x.sz<2^60->base<=H.next->I H->zc2 Tryz.prog cfg 129 [.agg x.cells,.int .i64 d,.clo g cap] H fun v H'=>v=.bool (jB q x d)/\FrB base H H'/\I H'
 |0,x,hx,_,_,_,_,_=>by omega
 |n+1,x,hx,d,H,hz,hbase,hi=>by
  refine zf (M:=28) (rs:=[.tmp 6]) (j.call _) j.ice j.froz Tryz.func129 rfl rfl IN.2 rfl ?_;dsimp only[IN,zcX,Nat.reduceAdd];repeat' (first
   |(apply zcP ?_;clear hK K)|apply Rx.o ?_|apply bE ?_|(apply aU (fun z V=>?_) (fun z V=>?_)<;>try(cases z;done))|apply ak ?_|(apply zcQ fun K hK=>?_)|apply ax ?_|apply zcR ?_|apply am ?_|apply zc4 ?_)
  refine a4 rfl a6 a7 ?_;simp only[cG];have J:FrB base H (H.alloc (.cells x.cells 0 true)):=(fY _ _).alloc _;refine aZ ?_ (hq x d (H.alloc (.cells x.cells 0 true)) hz gX (hI _ _ hi ((lW _ _).alloc hbase _)));rintro v H1 ⟨rfl,C,F⟩;have hg1:H1.get H.next=some (.cells x.cells 0 true):=by
   rw[C.get _ hbase sZ,zcY,ay rfl]
  have hn1:H.next<H1.next:=by have:=C.next;simp only[zc6]at this;omega
  dsimp only[zc5];repeat' (first
   |(apply zcP ?_;clear hK K)|apply Rx.o ?_|apply bE ?_|(apply aU (fun z V=>?_) (fun z V=>?_)<;>try(cases z;done))|apply ak ?_|(apply zcQ fun K hK=>?_)|apply ax ?_|apply zcR ?_|apply am ?_|apply zc4 ?_)
  .all_goals (refine⟨zcT,_,zcU,?_⟩;try simp only[zcS])
   refine⟨?_,J.trans C,F⟩;rw[Ay];simp_all
  have hl:x.kids.length<2^60:=by have:=uC x.kids;have:=x.sz_eq;omega
  refine lV (fun i E Y=>zeS q x.kids (eK (d+1))=zeS q (x.kids.drop i) (eK (d+1))/\E.at 1=.int .i64 d/\E.at 2=.clo g cap/\E.at 15=.lst (x.kids.map Ex.cells)/\E.at 16=.int .i64 x.kids.length/\E.at 17=.int .i64 i/\FrB base H Y/\I Y) x.kids.length ?_ ?_
  .rintro i E Y hi2 ⟨hc,h1,h2,h15,h16,h17,W,U⟩;repeat' (first
    |(apply zcP ?_;clear hK K)|apply Rx.o ?_|apply bE ?_|(apply aU (fun z V=>?_) (fun z V=>?_)<;>try(cases z;done))|apply ak ?_|(apply zcQ fun K hK=>?_)|apply ax ?_|apply zcR ?_|apply am ?_|apply zc4 ?_)
   .have Z:i<x.kids.length:=by simpa using z
    have hgx:x.kids[i]?=some x.kids[i]:=aO Z;repeat' (first
     |(apply zcP ?_;clear hK K)|apply Rx.o ?_|apply bE ?_|(apply aU (fun z V=>?_) (fun z V=>?_)<;>try(cases z;done))|apply ak ?_|(apply zcQ fun K hK=>?_)|apply ax ?_|apply zcR ?_|apply am ?_|apply zc4 ?_)
    have hxm:x.kids[i]∈x.kids:=dx Z;have hsm:=sm hxm;have hsx:=x.sz_eq;have A:FrB base Y ((Y.alloc (.cells [.int .i64 0,.int .i64 0,.str [],.int .i64 0,.nilS] 0 true)).set Y.next (.cells x.kids[i].cells 0 true)):=((fY _ _).alloc _).set (.inl (aM _)) _;have o:base<=Y.next:=eP hbase (W.next)
    have m:fE base Y ((Y.alloc (.cells [.int .i64 0,.int .i64 0,.str [],.int .i64 0,.nilS] 0 true)).set Y.next (.cells x.kids[i].cells 0 true)):=((lW _ _).alloc o _).set o _;refine a4 rfl a6 a7 ?_;simp only[cG];refine aZ ?_ (tj j hI hq n x.kids[i] ac _ _ ac Ce (hI _ _ U m));rintro v H3 ⟨rfl,O,L⟩;dsimp only[zc5];repeat' (first
     |(apply zcP ?_;clear hK K)|apply Rx.o ?_|apply bE ?_|(apply aU (fun z V=>?_) (fun z V=>?_)<;>try(cases z;done))|apply ak ?_|(apply zcQ fun K hK=>?_)|apply ax ?_|apply zcR ?_|apply am ?_|apply zc4 ?_)
    .all_goals (refine⟨zcT,_,zcU,?_⟩;try simp only[zcS])
     refine⟨?_,(W.trans A).trans O,L⟩;rw[Ay,hc,w6 q Z];simp_all
    .refine⟨Z,?_,eE,eE,eE,eE,?_,(W.trans A).trans O,L⟩
     .rw[hc,w6 q Z];simp_all
     .simp only[gN,Nat.reduceBEq,f8,ze6 (show i<2^62 by omega)]
   .have hi3:i=x.kids.length:=by simp at z;omega
    all_goals (refine⟨zcT,_,zcU,?_⟩;try simp only[zcS])
    refine⟨?_,W,U⟩;rw[Ay,hc,hi3];simp_all[zeS]
  .exact⟨rfl,eE,eE,eE,eE,eE,J.trans C,F⟩
end
section
def tyW4b.tyF:=ad @b7 (ad @dz (ad @iG (ad @iH (ad @gC (@jF)))))
open tyW4b
def vp{Z:Type}(cfg:Cfg)(base:Nat)(I:Z->Hp->Prop)(g:FuncId)(cap:List AV)(q:St->Int->Z->Bool×Z):Prop:=
 ∀(x:St) (d:Int) (s:Z) (H:Hp),x.sz<2^60->base<=H.next->I s H->zc2 Tryz.prog cfg g (.agg x.cells::.int .i64 d::cap) H fun v H'=>v=.bool (q x d s).1/\FrB base H H'/\I (q x d s).2 H'
theorem tk{cfg:Cfg}(hw:Plain cfg 123){σ:Type}{base:Nat}{I:σ->Hp->Prop}(hI:∀s,po base (I s)){g:FuncId}{cap:List AV}{q:St->Int->σ->Bool×σ}(hq:vp cfg base I g cap q):
 ∀(n:Nat) (l:List St),zeO l<n->∀(d:Int) (s:σ) (H:Hp),zeO l<2^60->base<=H.next->I s H->zc2 Tryz.prog cfg 123 [.lst (l.map St.cells),.int .i64 d,.clo g cap] H fun v H'=>v=.bool (zea q l d s).1/\FrB base H H'/\I (zea q l d s).2 H'
 |0,l,hx,_,_,_,_,_,_=>by omega
 |n+1,l,hx,d,s,H,hz,hbase,hi=>by
  refine zf (M:=39) (rs:=[.tmp 6]) (hw.call _) hw.ice hw.froz Tryz.func123 rfl rfl IP.2 rfl ?_;dsimp only[IP,zcX,Nat.reduceAdd];repeat' (first
   |(apply zcP ?_;clear hK K)|apply Rx.o ?_|apply bE ?_|(apply bW (fun A Z=>?_) (fun A Z=>?_)<;>try(cases A;done))|(apply aU (fun z V=>?_) (fun z V=>?_)<;>try(cases z;done))|apply ak ?_|(apply zcQ fun K hK=>?_)|apply ax ?_|apply zcR ?_|apply am ?_|apply zc4 ?_)
  have hl:l.length<2^60:=by have:=EH l;omega
  refine lV (fun i E Y=>∃j,zea q l d s=zea q (l.drop i) d j/\E.at 1=.int .i64 d/\E.at 2=.clo g cap/\E.at 9=.lst (l.map St.cells)/\E.at 10=.int .i64 l.length/\E.at 11=.int .i64 i/\FrB base H Y/\I j Y) l.length ?_ ?_
  .rintro i E Y hi2 ⟨j,hc,h1,h2,h9,h10,h11,W,hI2⟩;repeat' (first
    |(apply zcP ?_;clear hK K)|apply Rx.o ?_|apply bE ?_|(apply bW (fun A Z=>?_) (fun A Z=>?_)<;>try(cases A;done))|(apply aU (fun z V=>?_) (fun z V=>?_)<;>try(cases z;done))|apply ak ?_|(apply zcQ fun K hK=>?_)|apply ax ?_|apply zcR ?_|apply am ?_|apply zc4 ?_)
   .have U:i<l.length:=by simpa using z
    have hgx:l[i]?=some l[i]:=aO U;repeat' (first
     |(apply zcP ?_;clear hK K)|apply Rx.o ?_|apply bE ?_|(apply bW (fun A Z=>?_) (fun A Z=>?_)<;>try(cases A;done))|(apply aU (fun z V=>?_) (fun z V=>?_)<;>try(cases z;done))|apply ak ?_|(apply zcQ fun K hK=>?_)|apply ax ?_|apply zcR ?_|apply am ?_|apply zc4 ?_)
    have hxm:l[i]∈l:=dx U;have hsm:=sn hxm;have hsx:=l[i].sz_eq;generalize hx0:l[i]=x at *;have O:base<=Y.next:=eP hbase W.next
    generalize C:(Y.alloc _).set Y.next _=H3
    have L:FrB base Y H3:=by rw[<-C];exact((fY _ _).alloc _).set (.inl (aM _)) _
    have hlow:fE base Y H3:=by rw[<-C];exact((lW _ _).alloc O _).set O _
    have hn3:Y.next<H3.next:=by rw[<-C];simp only[zc6,zdm];omega
    have hg3:H3.get Y.next=some (.cells x.cells 0 true):=by rw[<-C,aX,ay rfl]
    have hI3:=hI _ _ _ hI2 hlow;have hwd:=NC q U d j;rw[hx0,NB]at hwd;rw[hwd]at hc;refine a4 rfl a6 a7 ?_;simp only[cG];refine aZ ?_ (hq x d j H3 ac ac hI3);rintro v H4 ⟨rfl,F,hI4⟩;generalize hq1:q x d j=zc0 at *;obtain⟨ok1,s3⟩:=zc0;have hg4:H4.get Y.next=some (.cells x.cells 0 true):=by rw[F.get _ O hn3];exact hg3
    have hn4:Y.next<H4.next:=gk hn3 F.next
    dsimp only[zc5];cases ok1 with
    |false=>
     repeat' (first
      |(apply zcP ?_;clear hK K)|apply Rx.o ?_|apply bE ?_|(apply bW (fun A Z=>?_) (fun A Z=>?_)<;>try(cases A;done))|(apply aU (fun z V=>?_) (fun z V=>?_)<;>try(cases z;done))|apply ak ?_|(apply zcQ fun K hK=>?_)|apply ax ?_|apply zcR ?_|apply am ?_|apply zc4 ?_)
     all_goals (refine⟨zcT,_,zcU,?_⟩;try simp only[zcS])
     dsimp only at hc;rw[hc];exact⟨rfl,(W.trans L).trans F,hI4⟩
    |true=>
     repeat' (first
      |(apply zcP ?_;clear hK K)|apply Rx.o ?_|apply bE ?_|(apply bW (fun A Z=>?_) (fun A Z=>?_)<;>try(cases A;done))|(apply aU (fun z V=>?_) (fun z V=>?_)<;>try(cases z;done))|apply ak ?_|(apply zcQ fun K hK=>?_)|apply ax ?_|apply zcR ?_|apply am ?_|apply zc4 ?_)
     refine a4 rfl a6 a7 ?_;simp only[cG];have hrec:=tk hw hI hq n x.thn ac (eK (d+1)) s3 H4 ac ac hI4;refine aZ ?_ hrec;rintro v H5 ⟨rfl,J,hI5⟩;generalize o:zea q x.thn (eK (d+1)) s3=r2 at *;obtain⟨ok2,s4⟩:=r2;have hg5:H5.get Y.next=some (.cells x.cells 0 true):=by rw[J.get _ O hn4];exact hg4
     have hn5:Y.next<H5.next:=gk hn4 J.next
     dsimp only[zc5];cases ok2 with
     |false=>
      repeat' (first
       |(apply zcP ?_;clear hK K)|apply Rx.o ?_|apply bE ?_|(apply bW (fun A Z=>?_) (fun A Z=>?_)<;>try(cases A;done))|(apply aU (fun z V=>?_) (fun z V=>?_)<;>try(cases z;done))|apply ak ?_|(apply zcQ fun K hK=>?_)|apply ax ?_|apply zcR ?_|apply am ?_|apply zc4 ?_)
      all_goals (refine⟨zcT,_,zcU,?_⟩;try simp only[zcS])
      simp only[o]at hc;rw[hc];exact⟨rfl,((W.trans L).trans F).trans J,hI5⟩
     |true=>
      repeat' (first
       |(apply zcP ?_;clear hK K)|apply Rx.o ?_|apply bE ?_|(apply bW (fun A Z=>?_) (fun A Z=>?_)<;>try(cases A;done))|(apply aU (fun z V=>?_) (fun z V=>?_)<;>try(cases z;done))|apply ak ?_|(apply zcQ fun K hK=>?_)|apply ax ?_|apply zcR ?_|apply am ?_|apply zc4 ?_)
      refine a4 rfl a6 a7 ?_;simp only[cG];have m:=tk hw hI hq n x.els ac (eK (d+1)) s4 H5 ac ac hI5;refine aZ ?_ m;rintro v H6 ⟨rfl,hf6,hI6⟩;generalize hq3:zea q x.els (eK (d+1)) s4=r3 at *;obtain⟨ok3,s5⟩:=r3;dsimp only[zc5];have hf7:FrB base H H6:=(((W.trans L).trans F).trans J).trans hf6;cases ok3 with
      |false=>
       repeat' (first
        |(apply zcP ?_;clear hK K)|apply Rx.o ?_|apply bE ?_|(apply bW (fun A Z=>?_) (fun A Z=>?_)<;>try(cases A;done))|(apply aU (fun z V=>?_) (fun z V=>?_)<;>try(cases z;done))|apply ak ?_|(apply zcQ fun K hK=>?_)|apply ax ?_|apply zcR ?_|apply am ?_|apply zc4 ?_)
       all_goals (refine⟨zcT,_,zcU,?_⟩;try simp only[zcS])
       simp only[o,hq3]at hc;rw[hc];exact⟨rfl,hf7,hI6⟩
      |true=>
       repeat' (first
        |(apply zcP ?_;clear hK K)|apply Rx.o ?_|apply bE ?_|(apply bW (fun A Z=>?_) (fun A Z=>?_)<;>try(cases A;done))|(apply aU (fun z V=>?_) (fun z V=>?_)<;>try(cases z;done))|apply ak ?_|(apply zcQ fun K hK=>?_)|apply ax ?_|apply zcR ?_|apply am ?_|apply zc4 ?_)
       refine⟨U,s5,?_,eE,eE,eE,eE,?_,hf7,hI6⟩
       .simp only[o,hq3]at hc;exact hc
       .simp only[gN,Nat.reduceBEq,f8,ze6 (show i<2^62 by omega)]
   .have hi3:i=l.length:=by simp at z;omega
    all_goals (refine⟨zcT,_,zcU,?_⟩;try simp only[zcS])
    rw[hc,hi3];simp only[jI,zea];exact⟨trivial,W,hI2⟩
  .exact⟨s,rfl,eE,eE,eE,eE,eE,fY _ _,hi⟩
end
section
def tyW4c.tyF:=ad @b7 (ad @dz (ad @iG (ad @iH (ad @gC (ad @jF (ad @cP (ad @jZ (ad @mQ (@FA)))))))))
open tyW4c
noncomputable def IQ:{c:SC // aB 24 (Tryz.f124.body.getD .skip)=c}:=by
 refine⟨?_,?_⟩;rotate_left
 .simp only[Tryz.f124,a8,aB,zda,zc9,zdc,zdd,Nat.blt,Nat.ble];rfl
noncomputable def IR:{c:SC // aB 7 (Tryz.f126.body.getD .skip)=c}:=by
 refine⟨?_,?_⟩;rotate_left
 .simp only[Tryz.f126,a8,aB,zda,zc9,zdc,zdd,Nat.blt,Nat.ble];rfl
noncomputable def IS:{c:SC // aB 32 (Tryz.f169.body.getD .skip)=c}:=by
 refine⟨?_,?_⟩;rotate_left
 .simp only[Tryz.f169,a8,aB,zda,zc9,zdc,zdd,Nat.blt,Nat.ble];rfl
noncomputable def IT:{c:SC // aB 15 (Tryz.f125.body.getD .skip)=c}:=by
 refine⟨?_,?_⟩;rotate_left
 .simp only[Tryz.f125,a8,aB,zda,zc9,zdc,zdd,Nat.blt,Nat.ble];rfl
theorem Zs{cfg:Cfg}(J:Plain cfg 124){base rn rl:Nat}(o:rn<base)(Y:rl<base)(W:rn≠rl)(U:Hp):
 vp cfg base (fun(s:Int×Int) H=>H.get rn=some (.cells [.int .i64 s.1] 0 true)/\H.get rl=some (.cells [.int .i64 s.2] 0 true)/\∀r,r<base->r≠rn->r≠rl->H.get r=U.get r) 124 [.ptr rn 0,.ptr rl 0] kH:=by
 intro x d s H j C ⟨F,O,Z⟩;have g:(rn == H.next)=false:=cp;have e2:(rl == H.next)=false:=cp;have e3:(rl == rn)=false:=cp;have e4:(rn == rl)=false:=cp;have e5:(H.next == rn)=false:=cp;have e6:(H.next == rl)=false:=cp;refine zf (M:=24) (rs:=[.tmp 6]) (J.call _) J.ice J.froz Tryz.func124 rfl rfl IQ.2 rfl ?_;dsimp only[IQ,zcX,Nat.reduceAdd];repeat' (first
  |(apply zcP ?_;clear hK K)|apply Rx.o ?_|apply bE ?_|(apply bW (fun A I=>?_) (fun A I=>?_)<;>try(cases A;done))|(apply aU (fun z V=>?_) (fun z V=>?_)<;>try(cases z;done))|apply ak ?_|(apply zcQ fun K hK=>?_)|apply zcR ?_|apply am ?_)
 all_goals (refine⟨zcT,_,zcU,?_⟩;try simp only[zcS])
 all_goals (refine⟨?_,?_,?_,?_,?_⟩)
 all_goals first
  |(intro r m L i;simp only[aX,zcY,L,i,show ¬r=H.next by omega,cb];exact Z r m L i)
  |exact(((fY _ _).alloc _).set (.inr o) _).set (.inr Y) _
  |exact((fY _ _).alloc _).set (.inr o) _
  |(simp only[get_set,sf,kH, *,f8,oM,Cg,xN,bS,cb];done)
  |(simp_all[kH,get_set,sf];done)
  |skip
theorem Zt{cfg:Cfg}(J:Plain cfg 126){base:Nat}{I:Hp->Prop}(Z:po base I):ti cfg base I 126 [] nR:=by
 intro x d H m C Y;refine zf (M:=7) (rs:=[.tmp 4]) (J.call _) J.ice J.froz Tryz.func126 rfl rfl IR.2 rfl ?_;dsimp only[IR,zcX,Nat.reduceAdd];repeat' (first
  |(apply zcP ?_;clear hK K)|apply Rx.o ?_|apply ak ?_|(apply zcQ fun K hK=>?_)|apply am ?_)
 all_goals (refine⟨zcT,_,zcU,?_⟩;try simp only[zcS])
 exact⟨rfl,(fY _ _).alloc _,Z _ _ Y ((lW _ _).alloc C _)⟩
theorem Zu{cfg:Cfg}(hw:Plain cfg 169)(hwe:Plain cfg 129){base Z:Nat}(L:base<=Z){I:Hp->Prop}(hI:po base I){g:FuncId}{cap:List AV}{q:Ex->Int->Bool}(hq:ti cfg base I g cap q)
 {r3:Nat} (hr1:base<=r3) (hr2:r3<Z) (H1:Hp) :
 vp cfg Z (fun(_:Unit) H=>I H/\H.get r3=some (.cells [.clo g cap] 0 true)/\∀r,base<=r->r<Z->H.get r=H1.get r) 169 [.ptr r3 0] (lm q):=by
 intro x d s H hz hbase ⟨hi,hi3,hi1⟩;have hsz:=x.sz_eq;have e1:(r3 == H.next)=false:=cp;have e2:(H.next == r3)=false:=cp;refine zf (M:=32) (rs:=[.tmp 5]) (hw.call _) hw.ice hw.froz Tryz.func169 rfl rfl IS.2 rfl ?_;dsimp only[IS,zcX,Nat.reduceAdd];repeat' (first
  |(apply zcP ?_;clear hK K)|apply Rx.o ?_|apply ak ?_|(apply zcQ fun K hK=>?_)|fail)
 have hIa:=hI _ _ hi ((lW base H).alloc (eP L hbase) (.cells x.cells 0 true));refine a4 rfl a6 a7 ?_;simp only[bB];refine aZ ?_ (tj hwe hI hq (x.at_.sz+1) x.at_ ac 0 _ ac gX hIa);rintro v F ⟨rfl,C,hi2⟩;have hn2:H.next<F.next:=by have:=C.next;simp only[zc6]at this;omega
 have hg2:F.get H.next=some (.cells x.cells 0 true):=by rw[C.get _ ac sZ,zcY,ay rfl]
 have hr3:F.get r3=some (.cells [.clo g cap] 0 true):=by rw[C.get _ hr1 gX,zcY,ah ac];exact hi3
 have hF2:FrB base H F:=((fY _ _).alloc _).trans C;have Y:∀r,base<=r->r<Z->F.get r=H1.get r:=fun r j h2=>by rw[hF2.get r j ac];exact hi1 r j h2
 dsimp only[zc5];repeat' (first
  |(apply zcP ?_;clear hK K)|apply Rx.o ?_|(apply bW (fun hg hgp=>?_) (fun hg hgp=>?_)<;>try(cases hg;done))|(apply aU (fun z V=>?_) (fun z V=>?_)<;>try(cases z;done))|apply ak ?_|(apply zcQ fun K hK=>?_)|apply am ?_|fail)
 .refine a4 rfl a6 a7 ?_;simp only[bB];refine aZ ?_ (tj hwe hI hq (x.value.sz+1) x.value ac 0 _ ac ac hi2);rintro v H3 ⟨rfl,A,hi3'⟩;have hn3:H.next<H3.next:=gk hn2 A.next
  have hg3:H3.get H.next=some (.cells x.cells 0 true):=by rw[A.get _ ac hn2];exact hg2
  have hr3b:H3.get r3=some (.cells [.clo g cap] 0 true):=by rw[A.get _ hr1 ac];exact hr3
  have hF3:FrB base H H3:=hF2.trans A;have W:∀r,base<=r->r<Z->H3.get r=H1.get r:=fun r j h2=>by rw[A.get r j ac];exact Y r j h2
  dsimp only[zc5];repeat' (first
   |(apply zcP ?_;clear hK K)|apply Rx.o ?_|(apply bW (fun hg hgp=>?_) (fun hg hgp=>?_)<;>try(cases hg;done))|(apply aU (fun z V=>?_) (fun z V=>?_)<;>try(cases z;done))|apply ak ?_|(apply zcQ fun K hK=>?_)|apply ax ?_|apply zcR ?_|apply am ?_|fail)
  .all_goals (refine⟨zcT,_,zcU,?_⟩;try simp only[zcS])
   exact⟨by simp_all[lm],hF3.weak L,hi3',hr3b,W⟩
  have hl:x.args.length<2^60:=by have:=uC x.args;omega
  refine lV (fun i E F=>zeS q x.args 0=zeS q (x.args.drop i) 0/\E.at 2=.ptr r3 0/\E.at 21=.lst (x.args.map Ex.cells)/\E.at 22=.int .i64 x.args.length/\E.at 23=.int .i64 i/\FrB base H F/\I F/\F.get r3=some (.cells [.clo g cap] 0 true)/\(∀r,base<=r->r<Z->F.get r=H1.get r)) x.args.length ?_ ?_
  .rintro i E H4 hi2 ⟨hc,h2,h21,h22,h23,o,hI4,hr4,U⟩;have hn4:=o.next
   have e3:(r3 == H4.next)=false:=cp;repeat' (first
    |(apply zcP ?_;clear hK K)|apply Rx.o ?_|(apply aU (fun z V=>?_) (fun z V=>?_)<;>try(cases z;done))|apply ak ?_|(apply zcQ fun K hK=>?_)|apply ax ?_|apply zcR ?_|apply am ?_|apply zc4 ?_)
   .have O:i<x.args.length:=by simpa using z
    have hgx:x.args[i]?=some x.args[i]:=aO O;repeat' (first
     |(apply zcP ?_;clear hK K)|apply Rx.o ?_|apply bE ?_|apply ak ?_|(apply zcQ fun K hK=>?_)|fail)
    have hxm:x.args[i]∈x.args:=dx O;have hsm:=sm hxm;have hb4:base<=H4.next:=ac
    generalize hH5:(H4.alloc _).set H4.next _=H5
    have hf5:FrB base H4 H5:=by rw[<-hH5];exact((fY _ _).alloc _).set (.inl (aM _)) _
    have hlow5:fE base H4 H5:=by rw[<-hH5];exact((lW _ _).alloc hb4 _).set hb4 _
    have hn5:H4.next<H5.next:=by rw[<-hH5];simp only[zc6,zdm];omega
    refine a4 rfl a6 a7 ?_;simp only[bB];refine aZ ?_ (tj hwe hI hq (x.args[i].sz+1) x.args[i] ac 0 _ ac ac (hI _ _ hI4 hlow5));rintro v H6 ⟨rfl,hf6,hi6⟩;have m:FrB base H4 H6:=hf5.trans hf6;have hr6:H6.get r3=some (.cells [.clo g cap] 0 true):=by rw[m.get _ hr1 ac];exact hr4
    have J:∀r,base<=r->r<Z->H6.get r=H1.get r:=fun r j h2=>by rw[m.get r j ac];exact U r j h2
    dsimp only[zc5];repeat' (first
     |(apply zcP ?_;clear hK K)|apply Rx.o ?_|(apply aU (fun z V=>?_) (fun z V=>?_)<;>try(cases z;done))|apply ak ?_|(apply zcQ fun K hK=>?_)|apply zcR ?_|apply am ?_|fail)
    .all_goals (refine⟨zcT,_,zcU,?_⟩;try simp only[zcS])
     refine⟨?_,(o.trans m).weak L,hi6,hr6,J⟩;have:=w6 q O 0;simp_all[lm]
    .refine⟨O,?_,eE,eE,eE,?_,o.trans m,hi6,hr6,J⟩
     .rw[hc,w6 q O];simp_all
     .simp only[gN,Nat.reduceBEq,f8,ze6 (show i<2^62 by omega)]
   .have hi3:i=x.args.length:=by simp at z;omega
    all_goals (refine⟨zcT,_,zcU,?_⟩;try simp only[zcS])
    refine⟨?_,o.weak L,hI4,hr4,U⟩;rw[hi3]at hc;simp_all[lm,zeS]
  .exact⟨rfl,eE,eE,eE,eE,hF3,hi3',hr3b,W⟩
 .all_goals (refine⟨zcT,_,zcU,?_⟩;try simp only[zcS])
  exact⟨by simp_all[lm],hF2.weak L,hi2,hr3,Y⟩
end
section
def tyW4d.tyF:=ad @cP (ad @b7 (ad @dz (ad @jZ (ad @iG (ad @iH (ad @gC (ad @mQ (ad @jF (@FA)))))))))
open tyW4d
structure Plains (cfg:Cfg):Prop where
 we:Plain cfg 129
 ws:Plain cfg 123
 wx:Plain cfg 125
 wx1:Plain cfg 169
theorem IU{cfg:Cfg}(U:Plains cfg){base:Nat}{I:Hp->Prop}(m:po base I){g:FuncId}{cap:List AV}{q:Ex->Int->Bool}(hq:ti cfg base I g cap q)(x:Fu)(H:Hp)(hz:x.sz<2^60)(C:base<=H.next)(hi:I H):
 zc2 Tryz.prog cfg 125 [.agg x.cells,.clo g cap] H fun v H'=>v=.bool (lq q x)/\FrB base H H'/\I H':=by
 have hw:=U.wx;have hsz:x.sz=1+x.name.length+zeJ x.params+zeJ x.locals+zeO x.body+x.value.sz:=rfl;refine zf (M:=15) (rs:=[.tmp 4]) (hw.call _) hw.ice hw.froz Tryz.func125 rfl rfl IT.2 rfl ?_;dsimp only[IT,zcX,Nat.reduceAdd];repeat' (first
  |(apply zcP ?_;clear hK K)|apply Rx.o ?_|(apply bW (fun A Z=>?_) (fun A Z=>?_)<;>try(cases A;done))|apply ak ?_|(apply zcQ fun K hK=>?_)|apply am ?_)
 generalize W:(H.alloc (.cells x.cells 0 true)).alloc (.cells [.clo g cap] 0 true)=H1;have z:FrB base H H1:=by rw[<-W];exact((fY _ _).alloc _).alloc _
 have hl1:fE base H H1:=by rw[<-W];exact((lW _ _).alloc C _).alloc gX _
 have hn1:H1.next=H.next+2:=by rw[<-W];rfl
 have hga:H1.get H.next=some (.cells x.cells 0 true):=by rw[<-W,zcY,ah sZ,zcY,ay rfl]
 have hgb:H1.get (H.next+1)=some (.cells [.clo g cap] 0 true):=by rw[<-W,zcY,ay sZ]
 refine a4 rfl a6 a7 ?_;simp only[cG];refine aZ ?_ (tj U.we m hq (x.value.sz+1) x.value ac 0 H1 ac ac (m _ _ hi hl1));rintro v V ⟨rfl,Y,L⟩;have hn2:=Y.next
 have hga2:V.get H.next=some (.cells x.cells 0 true):=by rw[Y.get _ C ac];exact hga
 have o:V.get (H.next+1)=some (.cells [.clo g cap] 0 true):=by rw[Y.get _ ac ac];exact hgb
 dsimp only[zc5];repeat' (first
  |(apply zcP ?_;clear hK K)|apply Rx.o ?_|(apply bW (fun A Z=>?_) (fun A Z=>?_)<;>try(cases A;done))|apply ak ?_|(apply zcQ fun K hK=>?_)|apply am ?_)
 .refine a4 rfl a6 a7 ?_;simp only[cG];refine aZ ?_ (tk U.ws (base:=H.next+2) (I:=fun(_:Unit) H'=>I H'/\H'.get (H.next+1)=some (.cells [.clo g cap] 0 true)/\∀r,base<=r->r<H.next+2->H'.get r=V.get r) ?_ (Zu U.wx1 U.we ac m hq ac ac V) (zeO x.body+1) x.body ac 0 () V ac ac ⟨L,o,fun _ _ _=>rfl⟩)
  .rintro v H3 ⟨rfl,J,hi3,hg3,F⟩;have hF3:FrB base V H3:=⟨J.next,fun r i j=>by
    by_cases hr:r<H.next+2
    .exact F r i hr
    .exact J.get r ac j⟩
   dsimp only[zc5];repeat' (first
    |(apply zcP ?_;clear hK K)|apply Rx.o ?_|(apply bW (fun A Z=>?_) (fun A Z=>?_)<;>try(cases A;done))|apply ak ?_|(apply zcQ fun K hK=>?_)|apply am ?_)
   all_goals (refine⟨zcT,_,zcU,?_⟩;try simp only[zcS])
   exact⟨by simp_all[lq],(z.trans Y).trans hF3,hi3⟩
  .intro _ Ha Hb ⟨i,j,h3⟩ O;exact⟨m _ _ i (O.weak ac),by rw[O _ ac];exact j,fun r q1 q2=>by rw[O _ q2];exact h3 r q1 q2⟩
 .all_goals (refine⟨zcT,_,zcU,?_⟩;try simp only[zcS])
  exact⟨by simp_all[lq],z.trans Y,L⟩
end
end Go.Proofs.YtljebeflbbgibaaGreat
