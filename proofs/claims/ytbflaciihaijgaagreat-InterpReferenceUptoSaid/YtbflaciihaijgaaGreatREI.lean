/- Lemmas for the last file. -/
import Derived.Test.YtbflaciihaijgaaGreatREH
set_option linter.all false
set_option maxHeartbeats 32000000
namespace Go.Ab
set_option maxRecDepth 20000
open Go
variable{qb:Prop}
def B9(h:qb:=by rw[e];exact V):=h
def Ca(h:qb:=by simp only[mW,Bool.or_eq_true,decide_eq_true_eq];omega):=h
def Cb(h:qb:=by simpa using h.symm):=h
def FM(h:qb:=by have:=j.lm;omega):=h
def Ll(h:qb:=by rw[f.get _ (by have:=b.n;omega) FM];exact b.box):=h
def tK:=@Nat.ne_of_lt
def wN:=@Nat.lt_of_le_of_lt
def kF:=And.intro @dI.{0,0} @aH.{0}
end Go.Ab
namespace Go.Proofs.YtbflaciihaijgaaGreat
set_option maxRecDepth 20000
open Go Go.Ab Proofs.Tryz
variable{l Z S:List aS}{s:MS}{a:aS}{i r A I V:Nat}{vs:List (aS×Int)}{M:qp}{X:Mx}{H H':Hp}{J z:AV}{cfg:Cfg}{tb:qu}
section
def et:List aS->aS->Nat
 |[],_=>0
 |a::l,s=>if a=s then 0 else et l s+1
theorem vq(a:aS)(l:List aS)(s:aS):bC (a::l) s=(decide (a=s)||bC l s):=rfl
theorem wO:∀{l:List aS}{s:aS},bC l s=true->l[et l s]?=some s
 |[],s,h=>by simp[bC]at h
 |a::l,s,h=>by
  rw[vq,ky,kR]at h;rw[et];by_cases e:a=s
  .rw[au e,e];rfl
  .rw[ad e,uX];exact wO (h.resolve_left e)
def vr{s:aS}(h:bC l s=true):et l s<l.length:=(eu.1 (wO h)).1
theorem Lm:∀{l:List aS}{s:aS}{i:Nat},l[i]?=some s->et l s<=i
 |[],s,i,h=>by simp at h
 |a::l,s,0,h=>by
  simp only[kW,aH]at h;rw[et,au h];exact aT _
 |a::l,s,i+1,h=>by
  rw[et];split
  .omega
  .have:=Lm (l:=l) (i:=i) fQ;omega
def Ln{s:aS}(S:bC l s=true)(F:i<=et l s)(h:l[i]?=some a):(a=s->et l s=i)/\(¬a=s->i+1<=et l s):=by
 refine⟨fun e=>?_,fun e=>?_⟩
 .have:=Lm (l:=l) (s:=s) (i:=i) (by rw[h,e]);omega
 .have m:=wO S;rcases Nat.eq_or_lt_of_le F with A|A
  .rw[<-A,h]at m;exact(e (by simpa using m)).elim
  .exact A
def Xk{b:aS}(V:bC l a=true)(z:bC l b=true)(h:et l a=et l b):a=b:=by
 have j:=wO V;rw[h,wO z]at j;simpa using j.symm
theorem Lo:∀{l m:List aS}{s:aS},bC l s=true->et (l++m) s=et l s
 |[],_,s,h=>by simp[bC]at h
 |a::l,m,s,h=>by
  rw[vq,ky,kR]at h;rw[jW,et,et];by_cases e:a=s
  .rw[au e,au e]
  .rw[ad e,ad e,Lo (h.resolve_left e)]
theorem Lp:∀{l m:List aS}{s:aS},bC l s=false->et (l++m) s=l.length+et m s
 |[],m,s,h=>by simp
 |a::l,m,s,h=>by
  rw[vq,fP,iX]at h;rw[jW,et,ad h.1,Lp h.2,gN];omega
def iP(Z:List aS)(vs:List (aS×Int))(M:qp):Prop:=∀C,bC Z C=true->de vs C=M.getD (et Z C) 0
def iP.set(h:iP Z vs M)(K:M.length=Z.length){nm:aS}(I:bC Z nm=true)(x:Int):iP Z (setV vs nm x) (M.set (et Z nm) x):=fun a V=>by
 have z:=vr I;rw[tI,iY,AI];by_cases e:a=nm
 .subst e;rw[au rfl,au rfl,au aa,bE]
 .rw[ad e,ad (fun h=>e (Xk I V h).symm),<-iY];exact h a V
theorem Lq:∀{J:List aS}{al:qp}{v0 vs:List (aS×Int)},mh J al v0=some vs->J.Nodup->(∀C,bC J C=true->de vs C=al.getD (et J C) 0)/\∀C,bC J C=false->de vs C=de v0 C
 |[],al,v0,vs,h,_=>by
  simp only[mh,aH]at h;subst h;exact⟨fun C h=>by simp[bC]at h,fun _ _=>rfl⟩
 |p::J,[],_,_,h,_=>by simp[mh]at h
 |p::J,a::al,v0,vs,h,hn=>by
  rw[mh]at h;obtain⟨j,m⟩:=List.nodup_cons.1 hn;obtain⟨F,I⟩:=Lq h m;have hp:bC J p=false:=by
   cases z:bC J p with
   |false=>rfl
   |true=>exact(j (fq (wO z))).elim
  refine⟨fun C M=>?_,fun C M=>?_⟩
  .rw[vq,ky,kR]at M;rw[et];by_cases e:p=C
   .subst e;rw[au rfl,I _ hp,tI,au rfl];rfl
   .rw[ad e,F C (M.resolve_left e)];rfl
  .rw[vq,fP,iX]at M;rw[I C M.2,tI,ad fun e=>M.1 e.symm]
theorem iP.start{ps ls:List aS}{al:qp}(h:mh ps al []=some vs)(I:ps.Nodup)(K:ps.length=al.length):iP (ps++ls) vs (al++List.replicate ls.length 0):=fun C M=>by
 obtain⟨F,Z⟩:=Lq h I;cases hp:bC ps C with
 |true=>
  have z:=vr hp;rw[F C hp,Lo hp,iY,iY,lY aa]
 |false=>
  have Y:de ([]:List (aS×Int)) C=0:=rfl;rw[Z C hp,Lp hp,Y,iY,nJ aa,List.getElem?_replicate];split<;>rfl
def i8:List (aS×qp)->qx->qm
 |p::l,r::rs=>.sl r 0 p.2.length 1::i8 l rs
 |_,_=>[]
theorem Lr:∀(cs:List (aS×qp)) (rs:qx) (j:Nat) (C:aS) (l M:qp),cs[j]?=some (C,l)->M.length=l.length->i8 (cs.set j (C,M)) rs=i8 cs rs
 |[],_,_,_,_,_,h,_=>by simp at h
 |p::cs,[],j,C,l,M,h,hl=>by cases j<;>rfl
 |p::cs,r::rs,0,C,l,M,h,hl=>by
  simp only[kW,aH]at h;subst h;simp[i8,hl]
 |p::cs,r::rs,j+1,C,l,M,h,hl=>by
  simp only[BF,i8];rw[Lr cs rs j C l M fQ hl]
theorem Ls:∀{cs:List (aS×qp)}{rs:qx}{j r:Nat}{c:aS×qp},rs[j]?=some r->cs[j]?=some c->(i8 cs rs)[j]?=some (.sl r 0 c.2.length 1)
 |[],_,_,_,_,_,h=>by simp at h
 |_::_,[],_,_,_,h,_=>by simp at h
 |p::cs,q::rs,0,r,c,h1,h2=>by
  simp only[kW,aH]at h1 h2;subst h1;subst h2;rfl
 |p::cs,q::rs,j+1,r,c,h1,h2=>by
  rw[i8,uX];exact Ls (by simpa using h1) (by simpa using h2)
theorem Lt:∀{cs:List (aS×qp)}{rs:qx},rs.length=cs.length->(i8 cs rs).length=rs.length
 |[],[],_=>rfl
 |[],_::_,h=>by simp at h
 |_::_,[],h=>by simp at h
 |p::cs,q::rs,h=>by rw[i8,gN,gN,Lt fQ]
theorem Lu:∀(cs:List (aS×qp)) (rs:qx) (c:aS×qp) (r:Nat),rs.length=cs.length->i8 (cs++[c]) (rs++[r])=i8 cs rs++[.sl r 0 c.2.length 1]
 |[],[],_,_,_=>rfl
 |[],_::_,_,_,h=>by simp at h
 |_::_,[],_,_,h=>by simp at h
 |p::l,q::rs,c,r,h=>by
  simp only[jW,i8];rw[Lu l rs c r fQ]
theorem Lv:∀(cs:List (aS×qp)) (C:aS),bC (cs.map (·.1)) C=true->cs[et (cs.map (·.1)) C]?=some (C,dA cs C)/\∀k x,lM cs C k x=cs.set (et (cs.map (·.1)) C) (C,(dA cs C).set k x)
 |[],C,h=>by simp[bC]at h
 |p::cs,C,h=>by
  rw[el,vq,ky,kR]at h;rw[el,et,dA];by_cases e:p.1=C
  .subst e;rw[au rfl,au rfl];exact⟨rfl,fun k x=>by rw[lM,au rfl];rfl⟩
  .obtain⟨F,I⟩:=Lv cs C (h.resolve_left e);rw[ad e,ad (fun h=>e h.symm)];exact⟨by rw[uX];exact F,fun k x=>by rw[lM,ad (fun h=>e h.symm),I];rfl⟩
def nc(X:Mx)(s:MS)(cv ov:AV)(fu:Int):qm:=[.ai (X.p.af.map Ar.cells),.ai (X.p.funcs.map Fu.cells),cv,ov,.int .i64 fu,.int .i64 s.aK,.int .i64 s.aw,.ab,.int .i64 0]
structure zdb (X:Mx) (cv:AV) (H:Hp) (s:MS) (ov:AV) (fu:Int):Prop where
 m:H.get X.rm=some (.cells (nc X s cv ov fu) 0 true)
 c:(cv=.ab/\X.rs=[])\/(cv=.sl X.rc 0 X.rs.length 1/\H.get X.rc=some (.cells (i8 s.cells X.rs) 0 true))
 nm:s.cells.map (·.1)=a7 X.p
 len:X.rs.length=s.cells.length
 cell:∀(j r:Nat) (nm:aS) (l:qp),X.rs[j]?=some r->s.cells[j]?=some (nm,l)->H.get r=some (.cells (ints l) 0 true)
 out:vi X H ov s.out
 fu:s.aK=0->fu=s.aC
 cz:(s.aK≠2->s.aw=0)/\(s.aK=0\/s.aK=2\/s.aK=3)
 lm:X.rm<H.next
 lc:X.rc<H.next
 ls:∀r∈X.rs,r<H.next
 dQ:X.rm≠X.rc
 ms:X.rm∉X.rs
 cs:X.rc∉X.rs
 nd:X.rs.Nodup
 rf:X.rf=X.rc
def zdb.dG{cv:AV}{Y:MS}{ov:AV}{fu M:Int}(h:zdb X cv H s ov fu)(fr:FrE X H H')(U:H'.get X.rm=some (.cells (nc X Y cv ov M) 0 true))(K:Y.cells=s.cells)(S:Y.out=s.out)(O:Y.aK=0->M=Y.aC)(J:(Y.aK≠2->Y.aw=0)/\(Y.aK=0\/Y.aK=2\/Y.aK=3)):zdb X cv H' Y ov M where
 m:=U
 c:=by
  rcases h.c with Z|⟨Z,V⟩
  .exact .inl Z
  .exact .inr ⟨Z,by rw[fr.get _ h.lc h.dQ.symm,K];exact V⟩
 nm:=by rw[K];exact h.nm
 len:=by rw[K];exact h.len
 cell j r nm l Z V:=by
  have hr:=fq Z;rw[fr.get _ (h.ls r hr) (fun e=>h.ms (e▸hr))];exact h.cell j r nm l Z (K▸V)
 out:=by rw[S];exact h.out.mono fr.next fr.get
 fu:=O
 cz:=J
 lm:=fO h.lm fr.next
 lc:=fO h.lc fr.next
 ls r hr:=fO (h.ls r hr) fr.next
 dQ:=h.dQ
 ms:=h.ms
 cs:=h.cs
 nd:=h.nd
 rf:=h.rf
def zdb.a8{cv:AV}{ov:AV}{fu:Int}(h:zdb X cv H s ov fu)(hr:X.own r):r<H.next:=by
 rcases hr with rfl|hr
 .exact h.lm
 .exact h.ls r hr
def zdb.a9{cv:AV}{ov:AV}{fu:Int}(h:zdb X cv H s ov fu)(hr:iL ov r):r<H.next:=by
 obtain⟨n,rfl⟩:=hr;rcases h.out with⟨j,_⟩|⟨K,j,m,A,_⟩
 .simp at j
 .simp only[AV.sl.injEq]at j;omega
def zdb.b4{cv:AV}{ov:AV}{fu:Int}(h:zdb X cv H s ov fu)(I:H.next<=H'.next)(C:∀r,r<H.next->(X.own r\/r=X.rc\/iL ov r)->H'.get r=H.get r):zdb X cv H' s ov fu where
 m:=by rw[C _ h.lm (.inl (.inl rfl))];exact h.m
 c:=by
  rcases h.c with Z|⟨Z,Y⟩
  .exact .inl Z
  .exact .inr ⟨Z,by rw[C _ h.lc (.inr (.inl rfl))];exact Y⟩
 nm:=h.nm
 len:=h.len
 cell j r nm l Z Y:=by
  have hr:=fq Z;rw[C _ (h.ls r hr) (.inl (.inr hr))];exact h.cell j r nm l Z Y
 out:=by
  rcases h.out with Z|⟨K,Z,Y,A,O,J,V⟩
  .exact .inl Z
  .exact .inr ⟨K,Z,by rw[C K A (.inr (.inr ⟨_,Z⟩))];exact Y,fO A I,O,J,V⟩
 fu:=h.fu
 cz:=h.cz
 lm:=fO h.lm I
 lc:=fO h.lc I
 ls r hr:=fO (h.ls r hr) I
 dQ:=h.dQ
 ms:=h.ms
 cs:=h.cs
 nd:=h.nd
 rf:=h.rf
def zdb.alloc{cv:AV}{ov:AV}{fu:Int}(h:zdb X cv H s ov fu)(b:HB):zdb X cv (H.alloc b) s ov fu:=
 h.b4 (eT _) fun r hr _=>fX
def zdb.at{cv:AV}{ov:AV}{fu:Int}(h:zdb X cv H s ov fu){nm:aS}(I:bC (a7 X.p) nm=true):
 ∃r,X.rs[et (a7 X.p) nm]?=some r/\s.cells[et (a7 X.p) nm]?=some (nm,dA s.cells nm)/\H.get r=some (.cells (ints (dA s.cells nm)) 0 true)/\(∀k x,lM s.cells nm k x=s.cells.set (et (a7 X.p) nm) (nm,(dA s.cells nm).set k x)) /\
  cv=.sl X.rc 0 X.rs.length 1/\et (a7 X.p) nm<X.rs.length/\H.get X.rc=some (.cells (i8 s.cells X.rs) 0 true)/\(i8 s.cells X.rs)[et (a7 X.p) nm]?=some (.sl r 0 (dA s.cells nm).length 1):=by
 obtain⟨j,m⟩:=Lv s.cells nm (by rw[h.nm];exact I);rw[h.nm]at j m;have z:et (a7 X.p) nm<X.rs.length:=by rw[h.len];exact(eu.1 j).1
 have hr:=bt z;rcases h.c with⟨_,A⟩|⟨A,O⟩
 .rw[A]at z;simp at z
 .exact⟨_,hr,j,h.cell _ _ _ _ hr j,m,A,z,O,Ls hr j⟩
def zdb.dj{cv:AV}{ov:AV}{fu:Int}(h:zdb X cv H s ov fu){j:Nat}{nm:aS}{l:qp}(hr:X.rs[j]?=some r)(K:s.cells[j]?=some (nm,l))(J:M.length=l.length):
 zdb X cv (H.set r (.cells (ints M) 0 true)) {s with cells:=s.cells.set j (nm,M) } ov fu:=by
 have V:=fq hr;have F:j<X.rs.length:=(eu.1 hr).1;have o:∀k,k≠r->(H.set r (.cells (ints M) 0 true)).get k=H.get k:=fun k I=>by rw[aO,ad I]
 refine{m:=?_,c:=?_,nm:=?_,len:=?_,cell:=?_,out:=?_,fu:=h.fu,cz:=h.cz,lm:=h.lm,lc:=h.lc,ls:=h.ls,dQ:=h.dQ,ms:=h.ms,cs:=h.cs,nd:=h.nd,rf:=h.rf}
 .rw[o _ (fun e=>h.ms B9)];exact h.m
 .rcases h.c with Z|⟨Z,Y⟩
  .exact .inl Z
  .exact .inr ⟨Z,by rw[o _ (fun e=>h.cs B9),Lr _ _ _ _ _ _ K J];exact Y⟩
 .rw[<-h.nm];refine Em fun i=>?_;simp only[ev,AI];by_cases e:j=i
  .subst e;rw[au rfl,K,au EX];rfl
  .rw[ad e]
 .simp[h.len]
 .intro S C U l2 Z Y;by_cases A:S=j
  .subst A;rw[hr]at Z;simp only[aH]at Z;subst Z;rw[Aq EX]at Y;simp only[cC]at Y;rw[aO,au rfl,Y.2]
  .rw[D0 (fun e=>A e.symm)]at Y;rw[o _ (fun e=>?_)]
   .exact h.cell S C U l2 Z Y
   .subst e;exact A ((List.getElem?_inj JM h.nd).1 (Z.trans hr.symm))
 .rcases h.out with Z|⟨z,Z,Y,h3,O,h5,h6⟩
  .exact .inl Z
  .exact .inr ⟨z,Z,by rw[o _ (fun e=>O (.inr B9))];exact Y,h3,O,h5,h6⟩
def zdb.dM{cv:AV}{F:Hp}{ov:AV}{fu x:Int}(h:zdb X cv H s ov fu)(I:s.aK=0)(z:H.next<=A)(S:F.next=A+1)(V:F.get A=some (.cells (ints (s.out++[x])) 0 true))(o:∀k,k<H.next->¬iL ov k->F.get k=H.get k):
 zdb X cv (F.set X.rm (.cells (nc X (gh x s) cv (.sl A 0 (s.out.length+1) 1) fu) 0 true)) (gh x s) (.sl A 0 (s.out.length+1) 1) fu/\FrS X (fun _=>False) ov H (.sl A 0 (s.out.length+1) 1) (F.set X.rm (.cells (nc X (gh x s) cv (.sl A 0 (s.out.length+1) 1) fu) 0 true)):=by
 have M:gh x s={s with out:=s.out++[x] }:=by simp only[gh,I,bw]
 have J:∀r,(X.own r\/r=X.rc)->¬iL ov r:=fun r hr ⟨n,e⟩=>by
  rcases h.out with⟨Z,_⟩|⟨ro,Z,Y,U,O,K,h6⟩
  .rw[Z]at e;simp at e
  .rw[Z]at e;simp only[AV.sl.injEq]at e;obtain⟨rfl,_⟩:=e;rcases hr with hr|hr
   .exact O hr
   .exact K hr
 have g:∀r,r<H.next->r≠X.rm->¬iL ov r->(F.set X.rm (.cells (nc X (gh x s) cv (.sl A 0 (s.out.length+1) 1) fu) 0 true)).get r=H.get r:=fun r Z Y U=>by
  rw[aO,ad Y,o r Z U]
 have C:=h.lm;refine⟨?_,⟨by show H.next<=F.next;omega,fun r Z Y U _=>g r Z (fun e=>Y (.inl e)) U,fun r ⟨n,e⟩=>.inr BD⟩⟩;refine{m:=?_,c:=?_,nm:=?_,len:=?_,cell:=?_,out:=?_,fu:=?_,cz:=?_,lm:=?_,lc:=?_,ls:=?_,dQ:=h.dQ,ms:=h.ms,cs:=h.cs,nd:=h.nd,rf:=h.rf}
 .rw[aO,au rfl]
 .rcases h.c with Z|⟨Z,Y⟩
  .exact .inl Z
  .exact .inr ⟨Z,by rw[g _ h.lc h.dQ.symm (J _ (.inr rfl)),M];exact Y⟩
 .rw[M];exact h.nm
 .rw[M];exact h.len
 .intro j r nm l Z Y;rw[M]at Y;have hr:=fq Z;rw[g _ (h.ls r hr) (fun e=>h.ms (e▸hr)) (J _ (.inl (.inr hr)))];exact h.cell j r nm l Z Y
 .refine .inr ⟨A,by rw[M];simp,?_,by show A<F.next;omega,fun e=>EY,by have:=h.lc;omega,by rw[h.rf];have:=h.lc;omega⟩;rw[aO,ad aa,V,M]
 .rw[M];exact h.fu
 .rw[M];exact h.cz
 .show X.rm<F.next;omega
 .show X.rc<F.next;have:=h.lc;omega
 .intro r hr;show r<F.next;have:=h.ls r hr;omega
structure zde (X:Mx) (H:Hp) (fp vb:Nat) (nv:AV) (ns:List aS) (vals:qp) (ov:AV):Prop where
 f:H.get fp=some (.cells [nv,.sl vb 0 vals.length 1] 0 true)
 v:H.get vb=some (.cells (ints vals) 0 true)
 n:dH H nv ns 0
 len:vals.length=ns.length
 fv:fp≠vb
 fn:¬dk nv fp
 vn:¬dk nv vb
 o:∀k,(k=fp\/k=vb\/dk nv k)->k<H.next/\¬X.own k/\k≠X.rc/\¬iL ov k
def zde.eX{ex:Nat->Prop}{ov:AV}(h:zde X H I V J Z M ov)(f:FrS X ex ov H z H')(Y:∀k,(k=I\/k=V\/dk J k)->¬ex k):zde X H' I V J Z M z:=by
 have g:∀k,(k=I\/k=V\/dk J k)->H'.get k=H.get k:=fun k o=>by
  obtain⟨j,m,A,O⟩:=h.o k o;exact f.get k j m O (Y k o)
 refine⟨by rw[g I (.inl rfl)];exact h.f,by rw[g V (.inr (.inl rfl))];exact h.v,h.n.aj f.next fun k o=>g k (.inr (.inr o)),h.len,h.fv,h.fn,h.vn,fun k o=>?_⟩;obtain⟨j,m,A,O⟩:=h.o k o;refine⟨fO j f.next,m,A,fun e=>?_⟩;rcases f.out _ e with e|e
 .exact O e
 .omega
def zde.cW{ov:AV}(h:zde X H I V J Z M ov)(f:FrE X H H'):zde X H' I V J Z M ov:=h.eX (f.b8 (fun _=>False) ov) fun _ _ e=>e
def zde.gx{ov:AV}(h:zde X H I V J Z M ov)(f:FrA X H H'):zde X H' I V J Z M ov:=h.eX (f.b8 (fun _=>False) ov) fun _ _ e=>e
def zde.lt{ov:AV}(h:zde X H I V J Z M ov):I<H.next/\V<H.next:=⟨(h.o I (.inl rfl)).1,(h.o V (.inr (.inl rfl))).1⟩
def zdb.setV{cv:AV}{ov:AV}{fu:Int}{Y:AV}(h:zdb X cv H s ov fu)(U:zde X H I V Y S M ov)(J:qp)(K:J.length=M.length):
 zdb X cv (H.set V (.cells (ints J) 0 true)) s ov fu/\zde X (H.set V (.cells (ints J) 0 true)) I V Y S J ov/\FrS X (·=V) ov H ov (H.set V (.cells (ints J) 0 true)):=by
 have o:∀r,r≠V->(H.set V (.cells (ints J) 0 true)).get r=H.get r:=fun r hr=>by rw[aO,ad hr]
 obtain⟨o1,C,A,z⟩:=U.o V (.inr (.inl rfl));refine⟨h.b4 (aT _) fun r hr Z=>o r fun e=>?_,⟨by rw[o _ U.fv,K];exact U.f,iG,U.n.aj (aT _) fun k O=>o k fun e=>U.vn (by rw[<-e];exact O),by rw[K];exact U.len,U.fv,U.fn,U.vn,U.o⟩,⟨aT _,fun r j m h3 F=>o r F,fun r j=>.inl j⟩⟩;subst e;rcases Z with Z|Z|Z
 .exact C Z
 .exact A Z
 .exact z Z
def Cc(f:FuncId):Bool:=f == 35||f == 14||f == 99999999||f == 38
structure Std (cfg:Cfg):Prop where
 plain:∀f,Cc f=false->zc7 cfg f
 aj:∀f,cfg.aj f=false
 bI:cfg.bI=wj pls
def tyW6a.tyF:=ac @cI (ac @dF (ac @Jf (ac @Ji (ac @Jn (ac @Jo (ac @Jp (ac @oV (@J5))))))))
open tyW6a
noncomputable def Lw:{c:SC // aG 4 (f206.body.getD .skip)=c}:=by
 refine⟨?_,?_⟩;rotate_left
 .simp only[f206,bE,aG,bz,bq,bF,bB,Nat.blt,Nat.ble];rfl
noncomputable def Lx:{c:SC // aG 15 (f184.body.getD .skip)=c}:=by
 refine⟨?_,?_⟩;rotate_left
 .simp only[f184,bE,aG,bz,bq,bF,bB,Nat.blt,Nat.ble];rfl
noncomputable def Ly:{c:SC // aG 14 (f141.body.getD .skip)=c}:=by
 refine⟨?_,?_⟩;rotate_left
 .simp only[f141,bE,aG,bz,bq,bF,bB,Nat.blt,Nat.ble];rfl
noncomputable def Lz:{c:SC // aG 61 (f185.body.getD .skip)=c}:=by
 refine⟨?_,?_⟩;rotate_left
 .simp only[f185,bE,aG,bz,bq,bF,bB,Nat.blt,Nat.ble];rfl
noncomputable def LA:{c:SC // aG 58 (f142.body.getD .skip)=c}:=by
 refine⟨?_,?_⟩;rotate_left
 .simp only[f142,bE,aG,bz,bq,bF,bB,Nat.blt,Nat.ble];rfl
def Xl(hS:Std cfg)(b:Bool)(H:Hp):aU prog cfg 206 [.bool b] H fun v H'=>v=.int .i64 (sd b)/\H'=H:=by
 cases b<;>
 .refine a5 (M:=4) (rs:=[.tmp 2]) ((hS.plain _ rfl).call _) (hS.plain _ rfl).ao (hS.plain _ rfl).am func206 rfl rfl Lw.2 rfl ?_;dsimp only[Lw,a3,Nat.reduceAdd];repeat' (first
   |(apply ai ?_;clear hK K)|apply Rx.o ?_|(apply aE (fun z V=>?_) (fun z V=>?_)<;>try(cases z;done))|apply ae ?_|(apply ah fun K hK=>?_)|apply ak ?_|apply am ?_)
  all_goals refine qq ?_
  simp[sd]
theorem Xm(hS:Std cfg)(a b:Int)(H:Hp):aU prog cfg 184 [.int .i64 a,.int .i64 b] H fun v H'=>v=.int .i64 (pd a b)/\H'=H:=by
 refine a5 (M:=15) (rs:=[.tmp 4]) ((hS.plain _ rfl).call _) (hS.plain _ rfl).ao (hS.plain _ rfl).am func184 rfl rfl Lx.2 rfl ?_;dsimp only[Lx,a3,Nat.reduceAdd];repeat' (first
  |(apply ai ?_;clear hK K)|apply Rx.o ?_|(apply aE (fun z V=>?_) (fun z V=>?_)<;>try(cases z;done))|apply ae ?_|(apply ah fun K hK=>?_)|apply aj ?_|apply ak ?_|apply am ?_)
 .all_goals refine qq ?_
  simp_all[pd]
 .all_goals refine qq ?_
  simp_all[pd]
 .have Z:b≠0:=by assumption
  repeat' (first
   |(apply ai ?_;clear hK K)|apply Rx.o ?_|(apply aE (fun z V=>?_) (fun z V=>?_)<;>try(cases z;done))|apply ae ?_|(apply ah fun K hK=>?_)|apply aj ?_|apply ak ?_|apply am ?_)
  all_goals refine qq ?_
  simp_all[pd]
theorem Xn(hS:Std cfg)(op a:Int)(H:Hp):aU prog cfg 141 [.int .i64 op,.int .i64 a] H fun v H'=>v=.int .i64 (se op a)/\H'=H:=by
 refine a5 (M:=14) (rs:=[.tmp 4]) ((hS.plain _ rfl).call _) (hS.plain _ rfl).ao (hS.plain _ rfl).am func141 rfl rfl Ly.2 rfl ?_;dsimp only[Ly,a3,Nat.reduceAdd];repeat' (first
  |(apply ai ?_;clear hK K)|apply Rx.o ?_|(apply aE (fun z V=>?_) (fun z V=>?_)<;>try(cases z;done))|apply ae ?_|(apply ah fun K hK=>?_)|apply aj ?_|apply ak ?_|apply am ?_)
 all_goals refine qq ?_
 all_goals simp_all[se]
theorem Xo(hS:Std cfg)(op a b:Int)(H:Hp):aU prog cfg 185 [.int .i64 op,.int .i64 a,.int .i64 b] H fun v H'=>v=.int .i64 (BI op a b)/\H'=H:=by
 have Z:=J6 b;have O:dP prog cfg.cj .shl 2 (.int .i64 a) (.int .u64 (mg b))=_:=J7 Z;have Y:dP prog cfg.cj .shr 2 (.int .i64 a) (.int .u64 (mg b))=_:=Ab.bin_shr Z;have S:dP prog cfg.cj .shr 180 (.int .u64 (IntKind.wrap .u64 a)) (.int .u64 (mg b))=_:=Ab.bin_shr Z;unfold mg at O Y S;refine a5 (M:=61) (rs:=[.tmp 6]) ((hS.plain _ rfl).call _) (hS.plain _ rfl).ao (hS.plain _ rfl).am func185 rfl rfl Lz.2 rfl ?_;dsimp only[Lz,a3,Nat.reduceAdd];repeat' (first
  |(apply ai ?_;clear hK K)|apply Rx.o ?_|(apply dJ ?_;first|refine aY (Xl hS _ _) ?_)|(apply aE (fun z V=>?_) (fun z V=>?_)<;>try(cases z;done))|apply ae ?_|(apply ah fun K hK=>?_)|apply aj ?_|apply ak ?_|apply am ?_)
 all_goals refine qq ?_
 all_goals simp_all[BI,mg]
theorem Xp(hS:Std cfg)(op a b:Int)(H:Hp):aU prog cfg 142 [.int .i64 op,.int .i64 a,.int .i64 b] H fun v H'=>v=.int .i64 (kY op a b)/\H'=H:=by
 refine a5 (M:=58) (rs:=[.tmp 6]) ((hS.plain _ rfl).call _) (hS.plain _ rfl).ao (hS.plain _ rfl).am func142 rfl rfl LA.2 rfl ?_;dsimp only[LA,a3,Nat.reduceAdd];repeat' (first
  |(apply ai ?_;clear hK K)|apply Rx.o ?_|(apply dJ ?_;first|refine aY (Xm hS _ _ _) ?_|refine aY (Xo hS _ _ _ _) ?_)|(apply aE (fun z V=>?_) (fun z V=>?_)<;>try(cases z;done))|apply ae ?_|(apply ah fun K hK=>?_)|apply aj ?_|apply ak ?_|apply am ?_)
 all_goals refine qq ?_
 all_goals simp_all[kY]
end
variable(ρ:Nat->Int)
section
def tyN6w.tyF:=ac @cI (ac @dF (ac @Jf (ac @Ji (ac @Jn (ac @Jo (ac @Jp (ac @oV (@J5))))))))
open tyN6w
noncomputable def LB:{c:SC // aG 4 (f190.body.getD .skip)=c}:=by
 refine⟨?_,?_⟩;rotate_left
 .simp only[f190,bE,aG,bz,bq,bF,bB,Nat.blt,Nat.ble];rfl
noncomputable def LC:{c:SC // aG 16 (f189.body.getD .skip)=c}:=by
 refine⟨?_,?_⟩;rotate_left
 .simp only[f189,bE,aG,bz,bq,bF,bB,Nat.blt,Nat.ble];rfl
noncomputable def LD:{c:SC // aG 14 (f154.body.getD .skip)=c}:=by
 refine⟨?_,?_⟩;rotate_left
 .simp only[f154,bE,aG,bz,bq,bF,bB,Nat.blt,Nat.ble];rfl
noncomputable def LF:{c:SC // aG 108 (f155.body.getD .skip)=c}:=by
 refine⟨?_,?_⟩;rotate_left
 .simp only[f155,bE,aG,bz,bq,bF,bB,Nat.blt,Nat.ble];rfl
def wP(x:Int×Int):qm:=[.int .i64 x.1,.int .i64 x.2]
def Xq(x y:Int×Int)(h:wP x=wP y):x=y:=by
 simp only[wP,ew,AV.int.injEq,iw]at h;exact pc h.1 h.2
def wQ(x:Int×Int×Int):qm:=[.int .i64 x.1,.int .i64 x.2.1,.int .i64 x.2.2]
def Xr(x y:Int×Int×Int)(h:wQ x=wQ y):x=y:=by
 simp only[wQ,ew,AV.int.injEq,iw]at h;exact pc h.1 (pc h.2.1 h.2.2)
def Xs(b:Bool)(H:Hp):aU prog (aF pls []) 190 [.bool b] H fun v H'=>v=.int .i64 (sd b)/\H'=H:=by
 have J:=eZ 190;cases b<;>
 .refine a5 (M:=4) (rs:=[.tmp 2]) (J.call _) J.ao J.am func190 rfl rfl LB.2 rfl ?_;dsimp only[LB,a3,Nat.reduceAdd];repeat' (first
   |(apply ai ?_;clear hK K)|apply Rx.o ?_|(apply aE (fun z V=>?_) (fun z V=>?_)<;>try(cases z;done))|apply ae ?_|(apply ah fun K hK=>?_)|apply ak ?_|apply am ?_)
  all_goals refine qq ?_
  simp[sd]
theorem Xt(a b:Int)(H:Hp):aU prog (aF pls []) 189 [.int .i64 a,.int .i64 b] H fun v H'=>v=.int .i64 (pd a b)/\H'=H:=by
 have J:=eZ 189;refine a5 (M:=16) (rs:=[.tmp 4]) (J.call _) J.ao J.am func189 rfl rfl LC.2 rfl ?_;dsimp only[LC,a3,Nat.reduceAdd];repeat' (first
  |(apply ai ?_;clear hK K)|apply Rx.o ?_|(apply aE (fun z V=>?_) (fun z V=>?_)<;>try(cases z;done))|apply ae ?_|(apply ah fun K hK=>?_)|apply aj ?_|apply ak ?_|apply am ?_)
 .all_goals refine qq ?_
  simp_all[pd]
 .all_goals refine qq ?_
  simp_all[pd]
 .have Z:b≠0:=by assumption
  repeat' (first
   |(apply ai ?_;clear hK K)|apply Rx.o ?_|(apply aE (fun z V=>?_) (fun z V=>?_)<;>try(cases z;done))|apply ae ?_|(apply ah fun K hK=>?_)|apply aj ?_|apply ak ?_|apply am ?_)
  all_goals refine qq ?_
  simp_all[pd]
theorem Xu(op a:Int)(H:Hp):aU prog (aF pls []) 154 [.int .i64 op,.int .i64 a] H fun v H'=>v=.int .i64 (se op a)/\H'=H:=by
 have J:=eZ 154;refine a5 (M:=14) (rs:=[.tmp 4]) (J.call _) J.ao J.am func154 rfl rfl LD.2 rfl ?_;dsimp only[LD,a3,Nat.reduceAdd];repeat' (first
  |(apply ai ?_;clear hK K)|apply Rx.o ?_|(apply aE (fun z V=>?_) (fun z V=>?_)<;>try(cases z;done))|apply ae ?_|(apply ah fun K hK=>?_)|apply aj ?_|apply ak ?_|apply am ?_)
 all_goals refine qq ?_
 all_goals simp_all[se]
theorem Xv(op a b:Int)(H:Hp):aU prog (aF pls []) 155 [.int .i64 op,.int .i64 a,.int .i64 b] H fun v H'=>v=.int .i64 (kY op a b)/\H'=H:=by
 have J:=eZ 155;have Z:=J6 b;have O:dP prog (aF pls []).cj .shl 2 (.int .i64 a) (.int .u64 (mg b))=_:=J7 Z;have Y:dP prog (aF pls []).cj .shr 2 (.int .i64 a) (.int .u64 (mg b))=_:=Ab.bin_shr Z;have S:dP prog (aF pls []).cj .shr 180 (.int .u64 (IntKind.wrap .u64 a)) (.int .u64 (mg b))=_:=Ab.bin_shr Z;unfold mg at O Y S;refine a5 (M:=108) (rs:=[.tmp 6]) (J.call _) J.ao J.am func155 rfl rfl LF.2 rfl ?_;dsimp only[LF,a3,Nat.reduceAdd];repeat' (first
  |(apply ai ?_;clear hK K)|apply Rx.o ?_|(apply dJ ?_;first|refine aY (Xs _ _) ?_|refine aY (Xt _ _ _) ?_)|(apply aE (fun z V=>?_) (fun z V=>?_)<;>try(cases z;done))|apply ae ?_|(apply ah fun K hK=>?_)|apply aj ?_|apply ak ?_|apply am ?_)
 all_goals refine qq ?_
 all_goals simp_all[kY,BI,mg]
def Xw(x:Int×Int):bJ prog ρ 154 (wP x) (.int .i64 (se x.1 x.2)):=eG fit (pls:=pls) (l:=[]) trivial (.cons (.int _ _) (.cons (.int _ _) .nil)) (.int _ _) (a4 (fun v H' h=>h.1) (Xu x.1 x.2 bV))
def Xx(x:Int×Int×Int):bJ prog ρ 155 (wQ x) (.int .i64 (kY x.1 x.2.1 x.2.2)):=eG fit (pls:=pls) (l:=[]) trivial (.cons (.int _ _) (.cons (.int _ _) (.cons (.int _ _) .nil))) (.int _ _) (a4 (fun v H' h=>h.1) (Xv x.1 x.2.1 x.2.2 bV))
noncomputable def FN:En:=⟨154,false,bS (fun _=>True) wP fun x=>.int .i64 (se x.1 x.2)⟩
def Xy:cS prog ρ FN:=cZ fun x _=>Xw ρ x
noncomputable def FO:En:=⟨155,false,bS (fun _=>True) wQ fun x=>.int .i64 (kY x.1 x.2.1 x.2.2)⟩
def Xz:cS prog ρ FO:=cZ fun x _=>Xx ρ x
end
section
def tyN6b.tyF:=ac @dF (ac @cI (ac @eL (ac @jH (ac @pR (ac @uV (ac @uW (ac @cY (ac @dW (ac @wu (ac @fg (ac @fh (@iW))))))))))))
open tyN6b
noncomputable def LG:{c:SC // aG 25 (f151.body.getD .skip)=c}:=by
 refine⟨?_,?_⟩;rotate_left
 .simp only[f151,bE,aG,bz,bq,bF,bB,Nat.blt,Nat.ble];rfl
noncomputable def LH:{c:SC // aG 9 (f57.body.getD .skip)=c}:=by
 refine⟨?_,?_⟩;rotate_left
 .simp only[f57,bE,aG,bz,bq,bF,bB,Nat.blt,Nat.ble];rfl
noncomputable def Cd:{c:SC // aG 11 (f153.body.getD .skip)=c}:=by
 refine⟨?_,?_⟩;rotate_left
 .simp only[f153,bE,aG,bz,bq,bF,bB,Nat.blt,Nat.ble];rfl
noncomputable def wR:{c:SC // aG 22 (f188.body.getD .skip)=c}:=by
 refine⟨?_,?_⟩;rotate_left
 .simp only[f188,bE,aG,bz,bq,bF,bB,Nat.blt,Nat.ble];rfl
noncomputable def LI:{c:SC // aG 28 (f152.body.getD .skip)=c}:=by
 refine⟨?_,?_⟩;rotate_left
 .simp only[f152,bE,aG,bz,bq,bF,bB,Nat.blt,Nat.ble];rfl
def LJ(f:FuncId):Bool:=Nat.beq f 151||Nat.beq f 57||Nat.beq f 153||Nat.beq f 188||Nat.beq f 152||Nat.beq f 99||Nat.beq f 98||Nat.beq f 150||Nat.beq f 56||Nat.beq f 31
structure RnT (tb:qu):Prop where
 pl:∀f,LJ f=true->(∀ar,dD tb f ar=none)/\ir tb f=false
 un:∀ar,dD tb 154 ar=FN.sp ar
 bi:∀ar,dD tb 155 ar=FO.sp ar
 ff:∀ar,dD tb 55 ar=y6.sp ar
def RnT.plain(h:RnT tb){f:FuncId}(m:LJ f=true):zc7 (aF pls tb) f:=dZ (h.pl f m).1 (h.pl f m).2
def RnT.una(h:RnT tb)(op a:Int)(H:Hp):aU prog (aF pls tb) 154 [.int .i64 op,.int .i64 a] H fun v H'=>v=.int .i64 (se op a)/\H'=H:=cp (enc:=wP) (ok:=fun _=>True) (out:=fun x=>.int .i64 (se x.1 x.2)) Xq (x:=(op,a)) (h.un _) trivial
def RnT.cq(h:RnT tb)(op a b:Int)(H:Hp):aU prog (aF pls tb) 155 [.int .i64 op,.int .i64 a,.int .i64 b] H fun v H'=>v=.int .i64 (kY op a b)/\H'=H:=cp (enc:=wQ) (ok:=fun _=>True) (out:=fun x=>.int .i64 (kY x.1 x.2.1 x.2.2)) Xr (x:=(op,a,b)) (h.bi _) trivial
def RnT.find(h:RnT tb)(p:Pr)(s:aS)(J:p.funcs.length<2^60)(H:Hp):aU prog (aF pls tb) 55 [.agg p.cells,.ae s] H fun v H'=>v=.int .i64 (cm p.funcs s 0)/\H'=H:=cp (enc:=vm) (ok:=fun x=>x.1.funcs.length<2^60) (out:=fun x=>.int .i64 (cm x.1.funcs x.2 0)) FD (x:=(p,s)) (h.ff _) J
section
variable {tb:qu} (hT:RnT tb) {X:Mx} {cv:AV} {s:MS} {ov:AV} {fu:Int} {H:Hp}
include hT in
def Ce{vb:Nat}{Y:qp}(U:zde X H A vb z Z Y ov){nm:aS}(o:bC Z nm=true)(hl:Z.length<2^40):
 aU prog (aF pls tb) 151 [.ptr A 0,.ae nm] H fun v H'=>v=.int .i64 (et Z nm)/\H'=H:=by
 have F:zc7 (aF pls tb) 151:=hT.plain rfl;have hf:=U.f;have hlt:=vr o;have j:∀H',gj prog H' 66 z=some (.int .i64 Z.length):=fun H'=>U.n.len;refine a5 (M:=25) (rs:=[.tmp 4]) (F.call _) F.ao F.am func151 rfl rfl LG.2 rfl ?_;dsimp only[LG,a3,Nat.reduceAdd];repeat' (first
  |(apply ai ?_;clear hK K)|apply Rx.o ?_|apply ae ?_|(apply ah fun K hK=>?_)|apply aj ?_|apply ak ?_|apply am ?_)
 refine dG [0,1] [] 5 Z.length (fun i E H'=>i<=et Z nm/\H'=H) eE ⟨dx _,rfl⟩ ?_;rintro i E H' hi O J I hsI ⟨hJ,hH⟩;(try simp only[bL,bK,bb,aK,aW,Nat.reduceBEq,Nat.reduceAdd,Nat.reduceLeDiff,tyF, *]at O);(try simp only[bL,bK,bb,aK,aW,Nat.reduceBEq,Nat.reduceAdd,Nat.reduceLeDiff,tyF, *]at J);(try simp only[br,bG,cR,bR,Nat.reduceAdd]at I);subst hH;have V:i<Z.length:=aa;have hi3:(i:Int)<Z.length:=aa;have C:Z[i]?=some Z[i]:=bt V;obtain⟨k1,k2⟩:=Ln o hJ C;obtain⟨a,hia,hld⟩:=U.n.at V;generalize Z[i]=x at *;repeat' (first
  |(apply ai ?_;clear hK K)|apply Ry.o ?_|(apply a2 (fun m S=>?_) (fun m S=>?_)<;>try(cases m;done))|apply ae ?_|(apply ah fun K hK=>?_)|apply aj ?_|apply ak ?_|apply am ?_)
 .all_goals refine qq ?_
  exact⟨by rw[k1 jh],pH⟩
 .refine⟨aa,bM,bM,dr,(by simp only[aK,Nat.reduceBEq, *];exact jV (n:=Z.length) aa aa),?_⟩;exact⟨k2 jh,pH⟩
include hT in
theorem Cf(j:zdb X cv H s ov fu){nm:aS}(F:bC (a7 X.p) nm=true)(hl:X.p.sz<2^40):
 aU prog (aF pls tb) 152 [.ptr X.rm 0,.ae nm] H fun v H'=>v=.int .i64 (et (a7 X.p) nm)/\H'=H:=by
 have J:zc7 (aF pls tb) 152:=hT.plain rfl;have hm:=j.m;unfold nc at hm;have hlt:=vr F;have hla:=lJ X.p.af;have C:X.p.sz=1+ez X.p.af+dY X.p.funcs:=rfl;have hal:(a7 X.p).length=X.p.af.length:=ec _;refine a5 (M:=28) (rs:=[.tmp 4]) (J.call _) J.ao J.am func152 rfl rfl LI.2 rfl ?_;dsimp only[LI,a3,Nat.reduceAdd];repeat' (first
  |(apply ai ?_;clear hK K)|apply Rx.o ?_|apply ae ?_|(apply ah fun K hK=>?_)|apply aj ?_|apply ak ?_|apply am ?_)
 refine dG [0,1] [] 5 X.p.af.length (fun i E H'=>i<=et (a7 X.p) nm/\H'=H) eE ⟨dx _,rfl⟩ ?_;rintro i E H' hi Z Y U A ⟨o,m⟩;(try simp only[bL,bK,bb,aK,aW,Nat.reduceBEq,Nat.reduceAdd,Nat.reduceLeDiff,tyF, *]at Z);(try simp only[bL,bK,bb,aK,aW,Nat.reduceBEq,Nat.reduceAdd,Nat.reduceLeDiff,tyF, *]at Y);(try simp only[br,bG,cR,bR,Nat.reduceAdd]at U);subst m;have S:i<X.p.af.length:=aa;have hi3:(i:Int)<X.p.af.length:=aa;have I:X.p.af[i]?=some X.p.af[i]:=bt S;have O:(a7 X.p)[i]?=some (X.p.af[i]).name:=by unfold a7;rw[ev,I];rfl
 obtain⟨k1,k2⟩:=Ln F o O;generalize X.p.af[i]=x at *;repeat' (first
  |(apply ai ?_;clear hK K)|apply Ry.o ?_|(apply a2 (fun z V=>?_) (fun z V=>?_)<;>try(cases z;done))|apply ae ?_|(apply ah fun K hK=>?_)|apply aj ?_|apply ak ?_|apply am ?_)
 .all_goals refine qq ?_
  exact⟨by rw[k1 jh],pH⟩
 .refine⟨aa,bM,bM,dr,(by simp only[aK,Nat.reduceBEq, *];exact jV (n:=X.p.af.length) aa aa),?_⟩;exact⟨k2 jh,pH⟩
include hT in
def gZ(j:zdb X cv H s ov fu):aU prog (aF pls tb) 57 [.ptr X.rm 0] H fun v H'=>v=.bool (decide (s.aK=0))/\H'=H:=by
 have J:zc7 (aF pls tb) 57:=hT.plain rfl;have Z:=j.m;unfold nc at Z;refine a5 (M:=9) (rs:=[.tmp 2]) (J.call _) J.ao J.am func57 rfl rfl LH.2 rfl ?_;dsimp only[LH,a3,Nat.reduceAdd];repeat' (first
  |(apply ai ?_;clear hK K)|apply Rx.o ?_|apply ae ?_|(apply ah fun K hK=>?_)|apply am ?_)
 all_goals refine qq ?_
 exact⟨pH,pH⟩
def XA(c:Int):cQ prog 51 [(0,.int .i64 2),(1,.int .i64 c)]=some (.agg [.int .i64 2,.int .i64 c,.ab,.int .i64 0]):=aA
def XB:cQ prog 51 [(0,.int .i64 3)]=some (.agg [.int .i64 3,.int .i64 0,.ab,.int .i64 0]):=aA
include hT in
def y8(j:zdb X cv H s ov fu)(c:Int):
 aU prog (aF pls tb) 153 [.ptr X.rm 0,.int .i64 c] H fun v H'=>zdb X cv H' (iy c s) ov fu/\FrE X H H':=by
 have J:zc7 (aF pls tb) 153:=hT.plain rfl;have Y:=j.m;unfold nc at Y;by_cases I:s.aK=0
 .refine a5 (M:=11) (rs:=[]) (J.call _) J.ao J.am func153 rfl rfl Cd.2 rfl ?_;dsimp only[Cd,a3,Nat.reduceAdd];have U:=@XA;repeat' (first
   |(apply ai ?_;clear hK K)|apply Ry.o ?_|apply bP ?_|(apply cU ?_;first|refine aY (gZ hT j) ?_)|(apply a2 (fun z V=>?_) (fun z V=>?_)<;>try(cases z;done))|apply ae ?_|(apply ah fun K hK=>?_)|apply ak ?_)
  all_goals refine qq ?_
  have Z:∀a,FrE X H (H.set X.rm a):=fun a=>(iz _ _).set (.inl rfl) _;refine⟨j.dG (Z _) ?_ ?_ ?_ ?_ ?_,Z _⟩<;>simp[aO,nc,iy,I]
 .refine a5 (M:=11) (rs:=[]) (J.call _) J.ao J.am func153 rfl rfl Cd.2 rfl ?_;dsimp only[Cd,a3,Nat.reduceAdd];repeat' (first
   |(apply ai ?_;clear hK K)|apply Ry.o ?_|apply bP ?_|(apply cU ?_;first|refine aY (gZ hT j) ?_)|(apply a2 (fun z V=>?_) (fun z V=>?_)<;>try(cases z;done))|apply ae ?_|(apply ah fun K hK=>?_)|apply ak ?_)
  all_goals refine qq ?_
  rw[iy,ad I];exact⟨j,iz _ _⟩
include hT in
def LK(j:zdb X cv H s ov fu):
 aU prog (aF pls tb) 188 [.ptr X.rm 0] H fun v H'=>(∃O,zdb X cv H' (ed s) ov O)/\FrE X H H':=by
 have J:zc7 (aF pls tb) 188:=hT.plain rfl;have F:=j.m;unfold nc at F;have U:=j.fu;by_cases I:s.aK=0
 .have U:=U I;have S:=j.cz.1 aa;by_cases A:fu=0
  .have m:s.aC=0:=by omega
   refine a5 (M:=22) (rs:=[]) (J.call _) J.ao J.am func188 rfl rfl wR.2 rfl ?_;dsimp only[wR,a3,Nat.reduceAdd];have o:=@XB;repeat' (first
    |(apply ai ?_;clear hK K)|apply Ry.o ?_|apply bP ?_|(apply cU ?_;first|refine aY (gZ hT j) ?_)|(apply cE (fun C Y=>?_) (fun C Y=>?_)<;>try(cases C;done))|(apply a2 (fun z V=>?_) (fun z V=>?_)<;>try(cases z;done))|apply ae ?_|(apply ah fun K hK=>?_)|apply ak ?_)
   all_goals refine qq ?_
   have Z:∀a b,FrE X H ((H.set X.rm a).set X.rm b):=fun a b=>((iz _ _).set (.inl rfl) _).set (.inl rfl) _;refine⟨⟨IntKind.wrap .i64 (fu-1),j.dG (Z _ _) ?_ ?_ ?_ ?_ ?_⟩,Z _ _⟩
   .simp[aO,nc,ed,I,A,m,S]
   all_goals simp[ed,I,m,S]
  .have m:¬s.aC=0:=by omega
   refine a5 (M:=22) (rs:=[]) (J.call _) J.ao J.am func188 rfl rfl wR.2 rfl ?_;dsimp only[wR,a3,Nat.reduceAdd];repeat' (first
    |(apply ai ?_;clear hK K)|apply Ry.o ?_|apply bP ?_|(apply cU ?_;first|refine aY (gZ hT j) ?_)|(apply cE (fun C Y=>?_) (fun C Y=>?_)<;>try(cases C;done))|(apply a2 (fun z V=>?_) (fun z V=>?_)<;>try(cases z;done))|apply ae ?_|(apply ah fun K hK=>?_)|apply ak ?_)
   all_goals refine qq ?_
   have Z:∀a,FrE X H (H.set X.rm a):=fun a=>(iz _ _).set (.inl rfl) _;refine⟨⟨IntKind.wrap .i64 (fu-1),j.dG (Z _) ?_ ?_ ?_ ?_ ?_⟩,Z _⟩
   .simp[aO,nc,ed,I,m,U,S]
   all_goals simp[ed,I,m,S,U]
 .refine a5 (M:=22) (rs:=[]) (J.call _) J.ao J.am func188 rfl rfl wR.2 rfl ?_;dsimp only[wR,a3,Nat.reduceAdd];repeat' (first
   |(apply ai ?_;clear hK K)|apply Ry.o ?_|apply bP ?_|(apply cU ?_;first|refine aY (gZ hT j) ?_)|(apply cE (fun C Y=>?_) (fun C Y=>?_)<;>try(cases C;done))|(apply a2 (fun z V=>?_) (fun z V=>?_)<;>try(cases z;done))|apply ae ?_|(apply ah fun K hK=>?_)|apply ak ?_)
  all_goals refine qq ?_
  have Z:∀a,FrE X H (H.set X.rm a):=fun a=>(iz _ _).set (.inl rfl) _;have ht:ed s=s:=by rw[ed,au I]
  rw[ht];refine⟨⟨IntKind.wrap .i64 (fu-1),j.dG (Z _) ?_ rfl rfl (fun e=>(I e).elim) j.cz⟩,Z _⟩;simp only[aO,bw,nc]
end
end
section
def tyN6c.tyF:=ac @dF (ac @cI (ac @cY (ac @eL (ac @jH (ac @pR (ac @dW (ac @dX (ac @dy (ac @uV (ac @uW (@wu)))))))))))
open tyN6c
noncomputable def mp:{c:SC // aG 143 (f99.body.getD .skip)=c}:=by
 refine⟨?_,?_⟩;rotate_left
 .simp only[f99,bE,aG,bz,bq,bF,bB,Nat.blt,Nat.ble];rfl
def defEs_get{vs:List aS}{l:qz}{k:Ex}(J:eM vs S l=true)(h:l[i]?=some k):dN vs S k=true:=by
 induction l generalizing i with
 |nil=>simp at h
 |cons a l ih=>
  rw[eM,cN]at J;cases i with
  |zero=>simp only[kW,aH]at h;rw[<-h];exact J.1
  |succ i=>exact ih J.2 fQ
def XC(X:Mx)(cv:AV)(r:Int×MS)(ov:AV)(fu:Int)(H:Hp)(v:AV)(H':Hp):Prop:=v=.int .i64 r.1/\zdb X cv H' r.2 ov fu/\FrE X H H'
set_option maxRecDepth 100000 in
theorem sm{tb:qu}(I:RnT tb)(X:Mx)(hpz:X.p.sz<2^40)(cv:AV)(ns:List aS)(hnl:ns.length<2^40):∀(n:Nat) (x:Ex) (vs:List (aS×Int)) (s:MS) (r:Int×MS),en n x vs s=some r->dN ns (a7 X.p) x=true ->
 ∀(fp vb:Nat) (nv:AV) (vals:qp) (ov:AV) (fu:Int) (H:Hp),zdb X cv H s ov fu->zde X H fp vb nv ns vals ov->(s.aK=0->iP ns vs vals) ->
 aU prog (aF pls tb) 99 [.ptr X.rm 0,.ptr fp 0,.agg x.cells] H (XC X cv r ov fu H)
 |0,x,vs,s,r,h,_,fp,vb,nv,vals,ov,fu,H,hR,hv,hvs=>by simp[en]at h
 |n+1,x,vs,s,r,h,hd,fp,vb,nv,vals,ov,fu,H,hR,hv,hvs=>by
  have IH:=sm I X hpz cv ns hnl n;have J:zc7 (aF pls tb) 99:=I.plain rfl;have U:zdb X cv (H.alloc (.cells x.cells 0 true)) s ov fu:=hR.alloc _;have j:FrE X H (H.alloc (.cells x.cells 0 true)):=(iz _ _).alloc _;have A:=hv.cW j;have b1:(H.alloc (.cells x.cells 0 true)).get H.next=some (.cells x.cells 0 true):=fN
  have m:∀{r:Int×MS}{H2:Hp},zdb X cv H2 r.2 ov fu->FrE X (H.alloc (.cells x.cells 0 true)) H2->H2.get H.next=some (.cells x.cells 0 true)/\zde X H2 fp vb nv ns vals ov/\H2.get X.rm=some (.cells (nc X r.2 cv ov fu) 0 true):=fun{r H2} Z o=>by
   refine⟨?_,A.cW o,Z.m⟩;rw[o.get _ bY (by have:=hR.lm;omega)];exact b1
  rw[FB,cN]at hd;obtain⟨hdk,hdx⟩:=hd;simp only[iA,cN,ky,th,iX]at hdx;unfold en at h;by_cases h0:s.aK≠0
  .rw[au h0,aH]at h;subst h;refine a5 (M:=143) (rs:=[.tmp 6]) (J.call _) J.ao J.am func99 rfl rfl mp.2 rfl ?_;dsimp only[mp,a3,Nat.reduceAdd];repeat' (first
    |(apply ai ?_;clear hK K)|apply Ry.o ?_|(apply cU ?_;first|refine aY (gZ I U) ?_)|apply kX ?_|(apply cE (fun C Y=>?_) (fun C Y=>?_)<;>try(cases C;done))|(apply a2 (fun z V=>?_) (fun z V=>?_)<;>try(cases z;done))|apply ae ?_|(apply ah fun K hK=>?_)|(apply aq 6 [(3,7),(3,11),(6,7),(9,11)] fun K hK=>?_)|(apply aq 9 [(3,7),(3,11),(6,7),(9,11)] fun K hK=>?_)|(apply aq 19 [(1,8),(1,9),(5,8),(7,8)] fun K hK=>?_)|(apply aM ?_;try intro _)|(apply aR ?_ ?_<;>clear hK K)|apply aL ?_|apply aj ?_|apply ak ?_|apply am ?_)
   all_goals refine qq ?_
   exact⟨rfl,U,j⟩
  rw[ad h0]at h;have h0':s.aK=0:=aa;have hvr:=hvs h0';by_cases h1:x.ag=1
  .rw[au h1,aH]at h;subst h;refine a5 (M:=143) (rs:=[.tmp 6]) (J.call _) J.ao J.am func99 rfl rfl mp.2 rfl ?_;dsimp only[mp,a3,Nat.reduceAdd];repeat' (first
    |(apply ai ?_;clear hK K)|apply Ry.o ?_|(apply cU ?_;first|refine aY (gZ I U) ?_)|apply kX ?_|(apply cE (fun C Y=>?_) (fun C Y=>?_)<;>try(cases C;done))|(apply a2 (fun z V=>?_) (fun z V=>?_)<;>try(cases z;done))|apply ae ?_|(apply ah fun K hK=>?_)|(apply aq 6 [(3,7),(3,11),(6,7),(9,11)] fun K hK=>?_)|(apply aq 9 [(3,7),(3,11),(6,7),(9,11)] fun K hK=>?_)|(apply aq 19 [(1,8),(1,9),(5,8),(7,8)] fun K hK=>?_)|(apply aM ?_;try intro _)|(apply aR ?_ ?_<;>clear hK K)|apply aL ?_|apply aj ?_|apply ak ?_|apply am ?_)
   all_goals refine qq ?_
   exact⟨rfl,U,j⟩
  rw[ad h1]at h;by_cases h2:x.ag=2
  .rw[au h2,aH]at h;subst h;have hn:=hdx.1.resolve_left (fun e=>e h2);have hlt:=vr hn;have hvl:=hv.len;have hlt2:et ns x.name<vals.length:=aa;have hga:=yT hlt2;have hf1:=A.f;have hg1:=A.v;have hval:=hvr _ hn;refine a5 (M:=143) (rs:=[.tmp 6]) (J.call _) J.ao J.am func99 rfl rfl mp.2 rfl ?_;dsimp only[mp,a3,Nat.reduceAdd];repeat' (first
    |(apply ai ?_;clear hK K)|apply Ry.o ?_|(apply cU ?_;first|refine aY (gZ I U) ?_|refine aY (Ce I A hn hnl) ?_)|apply kX ?_|(apply cE (fun C Y=>?_) (fun C Y=>?_)<;>try(cases C;done))|(apply a2 (fun z V=>?_) (fun z V=>?_)<;>try(cases z;done))|apply ae ?_|(apply ah fun K hK=>?_)|(apply aq 6 [(3,7),(3,11),(6,7),(9,11)] fun K hK=>?_)|(apply aq 9 [(3,7),(3,11),(6,7),(9,11)] fun K hK=>?_)|(apply aq 19 [(1,8),(1,9),(5,8),(7,8)] fun K hK=>?_)|(apply aM ?_;try intro _)|(apply aR ?_ ?_<;>clear hK K)|apply aL ?_|apply aj ?_|apply ak ?_|apply am ?_)
   .exact di
   all_goals refine qq ?_
   exact⟨by rw[hval],U,j⟩
  rw[ad h2]at h;by_cases h3:x.ag=3
  .rw[au h3]at h;simp only[dI]at h;obtain⟨k,hk,aw,he,h⟩:=h;have hn:=hdx.2.resolve_left (fun e=>e h3);refine a5 (M:=143) (rs:=[.tmp 6]) (J.call _) J.ao J.am func99 rfl rfl mp.2 rfl ?_;dsimp only[mp,a3,Nat.reduceAdd];repeat' (first
    |(apply ai ?_;clear hK K)|apply Ry.o ?_|(apply cU ?_;first|refine aY (gZ I U) ?_)|apply kX ?_|(apply cE (fun C Y=>?_) (fun C Y=>?_)<;>try(cases C;done))|(apply a2 (fun z V=>?_) (fun z V=>?_)<;>try(cases z;done))|apply ae ?_|(apply ah fun K hK=>?_)|(apply aq 6 [(3,7),(3,11),(6,7),(9,11)] fun K hK=>?_)|(apply aq 9 [(3,7),(3,11),(6,7),(9,11)] fun K hK=>?_)|(apply aq 19 [(1,8),(1,9),(5,8),(7,8)] fun K hK=>?_)|(apply aM ?_;try intro _)|(apply aR ?_ ?_<;>clear hK K)|apply aL ?_|apply aj ?_|apply ak ?_|apply am ?_)
   refine qa ?_;refine a4 ?_ (IH k vs s aw he (defEs_get hdk hk) fp vb nv vals ov fu _ U A hvs);rintro v H2 ⟨rfl,Z,o⟩;obtain⟨g1,hv2,g4⟩:=m Z o;unfold nc at g4;obtain⟨rr,b7,ci,bX,bQ,rfl,dt,fD,hY⟩:=Z.at hn;dsimp only[a0];repeat' (first
    |(apply ai ?_;clear hK K)|apply Ry.o ?_|(apply cU ?_;first|refine aY (Cf I Z hn hpz) ?_)|apply kX ?_|(apply cE (fun C Y=>?_) (fun C Y=>?_)<;>try(cases C;done))|(apply a2 (fun z V=>?_) (fun z V=>?_)<;>try(cases z;done))|apply ae ?_|(apply ah fun K hK=>?_)|(apply aq 6 [(3,7),(3,11),(6,7),(9,11)] fun K hK=>?_)|(apply aq 9 [(3,7),(3,11),(6,7),(9,11)] fun K hK=>?_)|(apply aq 19 [(1,8),(1,9),(5,8),(7,8)] fun K hK=>?_)|(apply aM ?_;try intro _)|(apply aR ?_ ?_<;>clear hK K)|apply aL ?_|apply aj ?_|apply ak ?_|apply am ?_)
   .exact di
   .refine qa ?_;refine a4 ?_ (y8 I Z 2);rintro v H3 ⟨S,O⟩;dsimp only[a0];repeat' (first
     |(apply ai ?_;clear hK K)|apply Rx.o ?_|apply ae ?_|(apply ah fun K hK=>?_)|(apply aq 6 [(3,7),(3,11),(6,7),(9,11)] fun K hK=>?_)|(apply aq 9 [(3,7),(3,11),(6,7),(9,11)] fun K hK=>?_)|(apply aq 19 [(1,8),(1,9),(5,8),(7,8)] fun K hK=>?_)|(apply aM ?_;try intro _)|(apply aR ?_ ?_<;>clear hK K)|apply aL ?_|apply aj ?_|apply ak ?_|apply am ?_)
    all_goals refine qq ?_
    have z:mW aw.1 (dA aw.2.cells x.name)=true:=Ca;rw[au z,aH]at h;subst h;exact⟨rfl,S,j.trans (o.trans O)⟩
   .have ha0:0<=aw.1:=by omega
    have hal:aw.1<(dA aw.2.cells x.name).length:=aa;have z:mW aw.1 (dA aw.2.cells x.name)=false:=EW;rw[z,ad aI,aH]at h;subst h;have hlt:aw.1.toNat<(dA aw.2.cells x.name).length:=aa;have hga:=yT hlt;repeat' (first
     |(apply ai ?_;clear hK K)|apply Ry.o ?_|apply kX ?_|(apply cE (fun C Y=>?_) (fun C Y=>?_)<;>try(cases C;done))|(apply a2 (fun z V=>?_) (fun z V=>?_)<;>try(cases z;done))|apply ae ?_|(apply ah fun K hK=>?_)|(apply aq 6 [(3,7),(3,11),(6,7),(9,11)] fun K hK=>?_)|(apply aq 9 [(3,7),(3,11),(6,7),(9,11)] fun K hK=>?_)|(apply aq 19 [(1,8),(1,9),(5,8),(7,8)] fun K hK=>?_)|(apply aM ?_;try intro _)|(apply aR ?_ ?_<;>clear hK K)|apply aL ?_|apply aj ?_|apply ak ?_|apply am ?_)
    all_goals refine qq ?_
    exact⟨rfl,Z,j.trans o⟩
   .refine qa ?_;refine a4 ?_ (y8 I Z 2);rintro v H3 ⟨S,O⟩;dsimp only[a0];repeat' (first
     |(apply ai ?_;clear hK K)|apply Rx.o ?_|apply ae ?_|(apply ah fun K hK=>?_)|(apply aq 6 [(3,7),(3,11),(6,7),(9,11)] fun K hK=>?_)|(apply aq 9 [(3,7),(3,11),(6,7),(9,11)] fun K hK=>?_)|(apply aq 19 [(1,8),(1,9),(5,8),(7,8)] fun K hK=>?_)|(apply aM ?_;try intro _)|(apply aR ?_ ?_<;>clear hK K)|apply aL ?_|apply aj ?_|apply ak ?_|apply am ?_)
    all_goals refine qq ?_
    have z:mW aw.1 (dA aw.2.cells x.name)=true:=Ca;rw[au z,aH]at h;subst h;exact⟨rfl,S,j.trans (o.trans O)⟩
  rw[ad h3]at h;by_cases h5:x.ag=5
  .rw[au h5]at h;simp only[dI]at h;obtain⟨k,hk,aw,he,h⟩:=h;refine a5 (M:=143) (rs:=[.tmp 6]) (J.call _) J.ao J.am func99 rfl rfl mp.2 rfl ?_;dsimp only[mp,a3,Nat.reduceAdd];repeat' (first
    |(apply ai ?_;clear hK K)|apply Ry.o ?_|(apply cU ?_;first|refine aY (gZ I U) ?_)|apply kX ?_|(apply cE (fun C Y=>?_) (fun C Y=>?_)<;>try(cases C;done))|(apply a2 (fun z V=>?_) (fun z V=>?_)<;>try(cases z;done))|apply ae ?_|(apply ah fun K hK=>?_)|(apply aq 6 [(3,7),(3,11),(6,7),(9,11)] fun K hK=>?_)|(apply aq 9 [(3,7),(3,11),(6,7),(9,11)] fun K hK=>?_)|(apply aq 19 [(1,8),(1,9),(5,8),(7,8)] fun K hK=>?_)|(apply aM ?_;try intro _)|(apply aR ?_ ?_<;>clear hK K)|apply aL ?_|apply aj ?_|apply ak ?_|apply am ?_)
   refine qa ?_;refine a4 ?_ (IH k vs s aw he (defEs_get hdk hk) fp vb nv vals ov fu _ U A hvs);rintro v H2 ⟨rfl,Z,o⟩;obtain⟨g1,hv2,g4⟩:=m Z o;have hvs2:aw.2.aK=0->iP ns vs vals:=fun _=>hvr;dsimp only[a0];by_cases hz:aw.1=0
   .rw[ad (by simp[hz])]at h;simp only[dI]at h;obtain⟨k2,hk2,he2⟩:=h;repeat' (first
     |(apply ai ?_;clear hK K)|apply Ry.o ?_|apply kX ?_|(apply cE (fun C Y=>?_) (fun C Y=>?_)<;>try(cases C;done))|(apply a2 (fun z V=>?_) (fun z V=>?_)<;>try(cases z;done))|apply ae ?_|(apply ah fun K hK=>?_)|(apply aq 6 [(3,7),(3,11),(6,7),(9,11)] fun K hK=>?_)|(apply aq 9 [(3,7),(3,11),(6,7),(9,11)] fun K hK=>?_)|(apply aq 19 [(1,8),(1,9),(5,8),(7,8)] fun K hK=>?_)|(apply aM ?_;try intro _)|(apply aR ?_ ?_<;>clear hK K)|apply aL ?_|apply aj ?_|apply ak ?_|apply am ?_)
    refine qa ?_;refine a4 ?_ (IH k2 vs aw.2 r he2 (defEs_get hdk hk2) fp vb nv vals ov fu _ Z hv2 hvs2);rintro v H3 ⟨rfl,S,O⟩;dsimp only[a0];repeat' (first
     |(apply ai ?_;clear hK K)|apply Rx.o ?_|apply ae ?_|(apply ah fun K hK=>?_)|(apply aq 6 [(3,7),(3,11),(6,7),(9,11)] fun K hK=>?_)|(apply aq 9 [(3,7),(3,11),(6,7),(9,11)] fun K hK=>?_)|(apply aq 19 [(1,8),(1,9),(5,8),(7,8)] fun K hK=>?_)|(apply aM ?_;try intro _)|(apply aR ?_ ?_<;>clear hK K)|apply aL ?_|apply aj ?_|apply ak ?_|apply am ?_)
    all_goals refine qq ?_
    exact⟨rfl,S,j.trans (o.trans O)⟩
   .rw[au hz]at h;simp only[dI]at h;obtain⟨k2,hk2,he2⟩:=h;repeat' (first
     |(apply ai ?_;clear hK K)|apply Ry.o ?_|apply kX ?_|(apply cE (fun C Y=>?_) (fun C Y=>?_)<;>try(cases C;done))|(apply a2 (fun z V=>?_) (fun z V=>?_)<;>try(cases z;done))|apply ae ?_|(apply ah fun K hK=>?_)|(apply aq 6 [(3,7),(3,11),(6,7),(9,11)] fun K hK=>?_)|(apply aq 9 [(3,7),(3,11),(6,7),(9,11)] fun K hK=>?_)|(apply aq 19 [(1,8),(1,9),(5,8),(7,8)] fun K hK=>?_)|(apply aM ?_;try intro _)|(apply aR ?_ ?_<;>clear hK K)|apply aL ?_|apply aj ?_|apply ak ?_|apply am ?_)
    refine qa ?_;refine a4 ?_ (IH k2 vs aw.2 r he2 (defEs_get hdk hk2) fp vb nv vals ov fu _ Z hv2 hvs2);rintro v H3 ⟨rfl,S,O⟩;dsimp only[a0];repeat' (first
     |(apply ai ?_;clear hK K)|apply Rx.o ?_|apply ae ?_|(apply ah fun K hK=>?_)|(apply aq 6 [(3,7),(3,11),(6,7),(9,11)] fun K hK=>?_)|(apply aq 9 [(3,7),(3,11),(6,7),(9,11)] fun K hK=>?_)|(apply aq 19 [(1,8),(1,9),(5,8),(7,8)] fun K hK=>?_)|(apply aM ?_;try intro _)|(apply aR ?_ ?_<;>clear hK K)|apply aL ?_|apply aj ?_|apply ak ?_|apply am ?_)
    all_goals refine qq ?_
    exact⟨rfl,S,j.trans (o.trans O)⟩
  rw[ad h5]at h;simp only[dI]at h;obtain⟨k,hk,aw,he,h⟩:=h;by_cases hz:x.ak.length=1
  .rw[au hz,aH]at h;subst h;have hz':((x.ak.length:Nat):Int)=1:=aa;refine a5 (M:=143) (rs:=[.tmp 6]) (J.call _) J.ao J.am func99 rfl rfl mp.2 rfl ?_;dsimp only[mp,a3,Nat.reduceAdd];repeat' (first
    |(apply ai ?_;clear hK K)|apply Ry.o ?_|(apply cU ?_;first|refine aY (gZ I U) ?_)|apply kX ?_|(apply cE (fun C Y=>?_) (fun C Y=>?_)<;>try(cases C;done))|(apply a2 (fun z V=>?_) (fun z V=>?_)<;>try(cases z;done))|apply ae ?_|(apply ah fun K hK=>?_)|(apply aq 6 [(3,7),(3,11),(6,7),(9,11)] fun K hK=>?_)|(apply aq 9 [(3,7),(3,11),(6,7),(9,11)] fun K hK=>?_)|(apply aq 19 [(1,8),(1,9),(5,8),(7,8)] fun K hK=>?_)|(apply aM ?_;try intro _)|(apply aR ?_ ?_<;>clear hK K)|apply aL ?_|apply aj ?_|apply ak ?_|apply am ?_)
   refine qa ?_;refine a4 ?_ (IH k vs s aw he (defEs_get hdk hk) fp vb nv vals ov fu _ U A hvs);rintro v H2 ⟨rfl,Z,o⟩;obtain⟨g1,hv2,g4⟩:=m Z o;dsimp only[a0];repeat' (first
    |(apply ai ?_;clear hK K)|apply Rx.o ?_|(apply dJ ?_;first|refine aY (I.una _ _ _) ?_)|apply ae ?_|(apply ah fun K hK=>?_)|(apply aq 6 [(3,7),(3,11),(6,7),(9,11)] fun K hK=>?_)|(apply aq 9 [(3,7),(3,11),(6,7),(9,11)] fun K hK=>?_)|(apply aq 19 [(1,8),(1,9),(5,8),(7,8)] fun K hK=>?_)|(apply aM ?_;try intro _)|(apply aR ?_ ?_<;>clear hK K)|apply aL ?_|apply aj ?_|apply ak ?_|apply am ?_)
   .have hn2:=o.next
    simp only[br]at hn2;exact di
   all_goals refine qq ?_
   exact⟨rfl,Z,j.trans o⟩
  rw[ad hz]at h;have hz':¬((x.ak.length:Nat):Int)=1:=aa;simp only[dI]at h;obtain⟨k2,hk2,a1,he2,h⟩:=h;refine a5 (M:=143) (rs:=[.tmp 6]) (J.call _) J.ao J.am func99 rfl rfl mp.2 rfl ?_;dsimp only[mp,a3,Nat.reduceAdd];repeat' (first
   |(apply ai ?_;clear hK K)|apply Ry.o ?_|(apply cU ?_;first|refine aY (gZ I U) ?_)|apply kX ?_|(apply cE (fun C Y=>?_) (fun C Y=>?_)<;>try(cases C;done))|(apply a2 (fun z V=>?_) (fun z V=>?_)<;>try(cases z;done))|apply ae ?_|(apply ah fun K hK=>?_)|(apply aq 6 [(3,7),(3,11),(6,7),(9,11)] fun K hK=>?_)|(apply aq 9 [(3,7),(3,11),(6,7),(9,11)] fun K hK=>?_)|(apply aq 19 [(1,8),(1,9),(5,8),(7,8)] fun K hK=>?_)|(apply aM ?_;try intro _)|(apply aR ?_ ?_<;>clear hK K)|apply aL ?_|apply aj ?_|apply ak ?_|apply am ?_)
  refine qa ?_;refine a4 ?_ (IH k vs s aw he (defEs_get hdk hk) fp vb nv vals ov fu _ U A hvs);rintro v H2 ⟨rfl,Z,o⟩;obtain⟨g1,hv2,g4⟩:=m Z o;dsimp only[a0];repeat' (first
   |(apply ai ?_;clear hK K)|apply Ry.o ?_|apply kX ?_|(apply cE (fun C Y=>?_) (fun C Y=>?_)<;>try(cases C;done))|(apply a2 (fun z V=>?_) (fun z V=>?_)<;>try(cases z;done))|apply ae ?_|(apply ah fun K hK=>?_)|(apply aq 6 [(3,7),(3,11),(6,7),(9,11)] fun K hK=>?_)|(apply aq 9 [(3,7),(3,11),(6,7),(9,11)] fun K hK=>?_)|(apply aq 19 [(1,8),(1,9),(5,8),(7,8)] fun K hK=>?_)|(apply aM ?_;try intro _)|(apply aR ?_ ?_<;>clear hK K)|apply aL ?_|apply aj ?_|apply ak ?_|apply am ?_)
  refine qa ?_;refine a4 ?_ (IH k2 vs aw.2 a1 he2 (defEs_get hdk hk2) fp vb nv vals ov fu _ Z hv2 fun _=>hvr);rintro v H3 ⟨rfl,S,O⟩;have F:=o.trans O;obtain⟨g5,hv3,g8⟩:=m S F;dsimp only[a0];have b0:∀a,kY 7 a 0=0/\kY 8 a 0=0:=fun a=>⟨by simp[kY,pd],by simp[kY]⟩;have key:(a1.1=0/\(x.op=7\/x.op=8)->r=(0,iy 1 a1.2)/\kY x.op aw.1 a1.1=0)/\(¬(a1.1=0/\(x.op=7\/x.op=8))->r=(kY x.op aw.1 a1.1,a1.2)):=by
   split at h
   .rename_i hc;refine⟨fun _=>⟨Cb,?_⟩,fun hn=>(hn hc).elim⟩;obtain⟨e1,e2|e2⟩:=hc<;>rw[e1,e2]<;>simp[b0]
   .rename_i hc;exact⟨fun hn=>(hc hn).elim,fun _=>Cb⟩
  clear h b0;by_cases hq:a1.1=0/\(x.op=7\/x.op=8)
  .obtain⟨rfl,hv0⟩:=key.1 hq;clear key;obtain⟨hq1,hq2⟩:=hq;rcases hq2 with hq2|hq2<;>
   .repeat' (first
     |(apply ai ?_;clear hK K)|apply Ry.o ?_|apply kX ?_|(apply cE (fun C Y=>?_) (fun C Y=>?_)<;>try(cases C;done))|(apply a2 (fun z V=>?_) (fun z V=>?_)<;>try(cases z;done))|apply ae ?_|(apply ah fun K hK=>?_)|(apply aq 6 [(3,7),(3,11),(6,7),(9,11)] fun K hK=>?_)|(apply aq 9 [(3,7),(3,11),(6,7),(9,11)] fun K hK=>?_)|(apply aq 19 [(1,8),(1,9),(5,8),(7,8)] fun K hK=>?_)|(apply aM ?_;try intro _)|(apply aR ?_ ?_<;>clear hK K)|apply aL ?_|apply aj ?_|apply ak ?_|apply am ?_)
    refine qa ?_;refine a4 ?_ (y8 I S 1);rintro v H4 ⟨hR4,hf4⟩;have g9:H4.get H.next=some (.cells x.cells 0 true):=by rw[hf4.get _ (by have:=F.next;simp only[br]at this;omega) (by have:=hR.lm;omega)];exact g5
    dsimp only[a0];rw[hq1]at hv0;repeat' (first
     |(apply ai ?_;clear hK K)|apply Rx.o ?_|(apply dJ ?_;first|refine aY (I.cq _ _ _ _) ?_)|apply ae ?_|(apply ah fun K hK=>?_)|(apply aq 6 [(3,7),(3,11),(6,7),(9,11)] fun K hK=>?_)|(apply aq 9 [(3,7),(3,11),(6,7),(9,11)] fun K hK=>?_)|(apply aq 19 [(1,8),(1,9),(5,8),(7,8)] fun K hK=>?_)|(apply aM ?_;try intro _)|(apply aR ?_ ?_<;>clear hK K)|apply aL ?_|apply aj ?_|apply ak ?_|apply am ?_)
    all_goals refine qq ?_
    exact⟨by first|rfl|(rw[hv0]),hR4,j.trans (F.trans hf4)⟩
  .obtain rfl:=key.2 hq;clear key;have hq':a1.1=0->¬x.op=7/\¬x.op=8:=fun e=>⟨fun e2=>hq ⟨e,.inl e2⟩,fun e2=>hq ⟨e,.inr e2⟩⟩;by_cases hq1:a1.1=0
   .obtain⟨hq2,hq3⟩:=hq' hq1;repeat' (first
     |(apply ai ?_;clear hK K)|apply Ry.o ?_|(apply cU ?_;first|refine aY (I.cq _ _ _ _) ?_)|apply kX ?_|(apply cE (fun C Y=>?_) (fun C Y=>?_)<;>try(cases C;done))|(apply a2 (fun z V=>?_) (fun z V=>?_)<;>try(cases z;done))|apply ae ?_|(apply ah fun K hK=>?_)|(apply aq 6 [(3,7),(3,11),(6,7),(9,11)] fun K hK=>?_)|(apply aq 9 [(3,7),(3,11),(6,7),(9,11)] fun K hK=>?_)|(apply aq 19 [(1,8),(1,9),(5,8),(7,8)] fun K hK=>?_)|(apply aM ?_;try intro _)|(apply aR ?_ ?_<;>clear hK K)|apply aL ?_|apply aj ?_|apply ak ?_|apply am ?_)
    all_goals refine qq ?_
    exact⟨by first|rfl|(simp only[hq1]),S,j.trans F⟩
   .repeat' (first
     |(apply ai ?_;clear hK K)|apply Ry.o ?_|(apply cU ?_;first|refine aY (I.cq _ _ _ _) ?_)|apply kX ?_|(apply cE (fun C Y=>?_) (fun C Y=>?_)<;>try(cases C;done))|(apply a2 (fun z V=>?_) (fun z V=>?_)<;>try(cases z;done))|apply ae ?_|(apply ah fun K hK=>?_)|(apply aq 6 [(3,7),(3,11),(6,7),(9,11)] fun K hK=>?_)|(apply aq 9 [(3,7),(3,11),(6,7),(9,11)] fun K hK=>?_)|(apply aq 19 [(1,8),(1,9),(5,8),(7,8)] fun K hK=>?_)|(apply aM ?_;try intro _)|(apply aR ?_ ?_<;>clear hK K)|apply aL ?_|apply aj ?_|apply ak ?_|apply am ?_)
    all_goals refine qq ?_
    exact⟨rfl,S,j.trans F⟩
end
end Go.Proofs.YtbflaciihaijgaaGreat
namespace Go.Ab
set_option maxRecDepth 20000
open Go
def vt(c:Int)(s:MS):(iy c s).out=s.out/\(iy c s).cells=s.cells/\(iy c s).aC=s.aC:=by unfold iy;split<;>simp
theorem y9(s:MS):(ed s).out=s.out:=by unfold ed;split<;>(try split)<;>rfl
def LL(nm:aS)(a v:Int)(s:MS):(od nm a v s).out=s.out:=by
 unfold od;simp only[];split<;>split<;>simp[vt]
theorem mq:∀(n:Nat) (x:Ex) (vs:List (aS×Int)) (s:MS) (r:Int×MS),en n x vs s=some r->r.2.out=s.out/\r.2.cells=s.cells/\r.2.aC=s.aC
 |0,x,vs,s,r,h=>by simp[en]at h
 |n+1,x,vs,s,r,h=>by
  have S:=mq n;unfold en at h;split at h
  .simp only[aH]at h;subst h;exact⟨rfl,rfl,rfl⟩
  split at h
  .simp only[aH]at h;subst h;exact⟨rfl,rfl,rfl⟩
  split at h
  .simp only[aH]at h;subst h;exact⟨rfl,rfl,rfl⟩
  split at h
  .simp only[dI]at h;obtain⟨k,o,aw,C,h⟩:=h;have j:=S _ _ _ _ C;split at h<;>simp only[aH]at h<;>subst h
   .have:=vt 2 aw.2;simp only[];rw[this.1,this.2.1,this.2.2];exact j
   .exact j
  split at h
  .simp only[dI]at h;obtain⟨k,o,aw,C,h⟩:=h;have j:=S _ _ _ _ C;split at h<;>simp only[dI]at h<;>obtain⟨k2,Z,I⟩:=h<;>have m:=S _ _ _ _ I<;>exact⟨m.1.trans j.1,m.2.1.trans j.2.1,m.2.2.trans j.2.2⟩
  .simp only[dI]at h;obtain⟨k,o,aw,C,h⟩:=h;have j:=S _ _ _ _ C;split at h
   .simp only[aH]at h;subst h;exact j
   .simp only[dI]at h;obtain⟨k2,Z,a1,I,h⟩:=h;have m:=S _ _ _ _ I;split at h<;>simp only[aH]at h<;>subst h
    .have:=vt 1 a1.2;simp only[];rw[this.1,this.2.1,this.2.2];exact⟨m.1.trans j.1,m.2.1.trans j.2.1,m.2.2.trans j.2.2⟩
    .exact⟨m.1.trans j.1,m.2.1.trans j.2.1,m.2.2.trans j.2.2⟩
theorem wS{n:Nat}:∀(l:qz) (vs:List (aS×Int)) (s:MS) (r:qp×MS),kZ n l vs s=some r->r.2.out=s.out/\r.2.cells=s.cells/\r.2.aC=s.aC/\r.1.length=l.length
 |[],vs,s,r,h=>by simp only[kZ,aH]at h;subst h;exact⟨rfl,rfl,rfl,rfl⟩
 |x::l,vs,s,r,h=>by
  simp only[kZ,kF]at h;obtain⟨aw,C,a1,V,rfl⟩:=h;have j:=mq _ _ _ _ _ C;have m:=wS l vs _ _ V;exact⟨m.1.trans j.1,m.2.1.trans j.2.1,m.2.2.1.trans j.2.2,by simp[m.2.2.2]⟩
def FP(v:Int)(s:MS):s.out.length<=(gh v s).out.length:=by unfold gh;split<;>simp
theorem wT(p:Pr)(fi:List (aS×Int)):∀n:Nat,
 (∀x vs s r,lN p fi n x vs s=some r->s.out.length<=r.2.out.length)/\(∀l vs s r,fE p fi n l vs s=some r->s.out.length<=r.2.out.length) /\
 (∀x vs s r,iZ p fi n x vs s=some r->s.out.length<=r.2.out.length)/\(∀k j s r,i3 p fi n k j s=some r->s.out.length<=r.2.out.length)
 |0=>⟨fun x vs s r h=>by simp[lN]at h,fun l vs s r h=>by simp[fE]at h,fun x vs s r h=>by simp[iZ]at h,fun k j s r h=>by simp[i3]at h⟩
 |n+1=>by
  obtain⟨A,Z,F,Y⟩:=wT p fi n;refine⟨fun x vs s r h=>?_,fun l vs s r h=>?_,fun x vs s r h=>?_,fun k j s r h=>?_⟩
  .unfold lN at h;split at h
   .simp only[kF]at h;obtain⟨aw,C,rfl⟩:=h;rw[(mq _ _ _ _ _ C).1];exact aT _
   split at h
   .simp only[kF]at h;obtain⟨aw,C,a1,I,rfl⟩:=h;simp only[LL];rw[(mq _ _ _ _ _ I).1,(mq _ _ _ _ _ C).1];exact aT _
   split at h
   .simp only[dI]at h;obtain⟨aw,C,h⟩:=h;rw[<-(mq _ _ _ _ _ C).1];split at h
    .exact Z _ _ _ _ h
    .exact Z _ _ _ _ h
   split at h
   .exact F _ _ _ _ h
   split at h
   .simp only[kF]at h;obtain⟨aw,C,rfl⟩:=h;rw[<-(mq _ _ _ _ _ C).1];exact FP _ _
   split at h
   .simp only[dI]at h;obtain⟨aw,C,h⟩:=h;rw[<-(wS _ _ _ _ C).1,<-y9 aw.2];split at h
    .simp only[kF]at h;obtain⟨a1,hc,rfl⟩:=h;exact Y _ _ _ _ hc
    .simp only[aH]at h;subst h;exact aT _
   split at h
   .simp only[aH]at h;subst h;rw[(vt _ _).1];exact aT _
   .simp only[aH]at h;subst h;exact aT _
  .unfold fE at h;split at h
   .simp only[aH]at h;subst h;exact aT _
   .split at h
    .simp only[aH]at h;subst h;exact aT _
    .simp only[dI]at h;obtain⟨aw,C,h⟩:=h;exact dC (A _ _ _ _ C) (Z _ _ _ _ h)
  .unfold iZ at h;simp only[dI]at h;obtain⟨aw,C,h⟩:=h;rw[<-(mq _ _ _ _ _ C).1];split at h
   .rw[<-y9 aw.2];split at h
    .simp only[dI]at h;obtain⟨a1,hc,h⟩:=h;exact dC (Z _ _ _ _ hc) (F _ _ _ _ h)
    .exact F _ _ _ _ h
   .simp only[aH]at h;subst h;exact aT _
  .unfold i3 at h;split at h
   .simp at h
   .simp only[dI]at h;obtain⟨f,m,vs,U,aw,S,C⟩:=h;rw[(mq _ _ _ _ _ C).1];exact Z _ _ _ _ S
end Go.Ab
namespace Go.Proofs.YtbflaciihaijgaaGreat
set_option maxRecDepth 20000
open Go Go.Ab Proofs.Tryz
variable{x:St}{vs:List (aS×Int)}{s t:MS}{r:List (aS×Int)×MS}{c d i:Nat}{l:qz}{k:Ex}{p:Pr}
section
def tyN6d.tyF:=ac @dF (ac @cI (ac @cY (ac @fg (ac @fh (ac @eL (ac @jH (ac @pR (ac @dW (ac @dR (ac @dX (ac @dy (ac @eD (ac @uV (ac @uW (@wu)))))))))))))))
open tyN6d
noncomputable def lb:{c:SC // aG 176 (f150.body.getD .skip)=c}:=by
 refine⟨?_,?_⟩;rotate_left
 .simp only[f150,bE,aG,bz,bq,bF,bB,Nat.blt,Nat.ble];rfl
def pn{n:Nat}{x:Ex}{r:Int×MS}(h:en n x vs s=some r)(I:r.2.aK=0):s.aK=0:=by
 cases n with
 |zero=>simp[en]at h
 |succ n=>
  unfold en at h;by_cases e:s.aK≠0
  .rw[au e,aH]at h;rw[<-h]at I;exact I
  .omega
structure Fn (X:Mx) (ns:List aS):Prop where
 pz:X.p.sz<2^40
 nl:ns.length<2^40
def Cg(X:Mx)(M:List aS):Sc:=⟨M,some (a7 X.p),X.p⟩
structure NOk (X:Mx) (ns:List aS) (x:St):Prop where
 u:fl (Cg X ns) false x=true
 b:fl (Cg X ns) true x=true
structure zdB (X:Mx) (ns:List aS) (l:qt):Prop where
 u:cO (Cg X ns) false l=true
 b:cO (Cg X ns) true l=true
section
variable {X:Mx} {ns:List aS}
def NOk.parts(h:NOk X ns x):eM ns (a7 X.p) x.args=true/\dN ns (a7 X.p) x.aL=true/\dN ns (a7 X.p) x.value=true/\zdB X ns x.a1/\zdB X ns x.bh/\(x.ag=1\/x.ag=6->bC ns x.name=true)/\(x.ag=2->bC (a7 X.p) x.name=true)/\(x.ag=6->0<=cm X.p.funcs x.to 0/\x.args.length=j3 X.p x.to):=by
 obtain⟨j,m⟩:=h;rw[y7]at j m;simp only[cN,fF,nS,iO]at j m;obtain⟨⟨⟨⟨⟨b7,ci⟩,bX⟩,bQ⟩,dt⟩,fD⟩:=j;obtain⟨⟨F,z⟩,O⟩:=m;refine⟨b7,ci,bX,⟨dt,z⟩,⟨fD,O⟩,fun e=>?_,fun e=>?_,fun e=>?_⟩
 .rcases e with e|e<;>rw[i7,e]at bQ<;>simp at bQ
  .exact bQ
  .exact bQ.1
 .rw[i7,e]at bQ;simp at bQ;exact bQ
 .rw[i7,e]at bQ;simp at bQ;rw[jt,e]at F;simp at F;exact⟨bQ.2,Int.ofNat_inj.1 F⟩
theorem zdB.mem:∀{l:qt}{x:St},zdB X ns l->x∈l->NOk X ns x
 |[],x,_,hx=>by simp at hx
 |y::l,x,⟨h1,h2⟩,hx=>by
  rw[cO,cN]at h1 h2;rcases fY.1 hx with rfl|hx
  .exact⟨h1.1,h2.1⟩
  .exact zdB.mem ⟨h1.2,h2.2⟩ hx
end
def ri(X:Mx)(cv:AV)(I V:Nat)(Y:AV)(Z:List aS)(ov:AV)(H:Hp)(r:List (aS×Int)×MS)(v:AV)(H':Hp):Prop:=
 ∃J z M,zdb X cv H' r.2 z M/\zde X H' I V Y Z J z/\(r.2.aK=0->iP Z r.1 J)/\FrS X (·=V) ov H z H'
def FQ(tb:qu)(X:Mx)(cv:AV)(M:List aS)(N:Nat):Prop:=∀x vs s r,lN X.p X.fi N x vs s=some r->x.sz<2^36->r.2.out.length<2^40->NOk X M x->s.aK=0->∀fp vb nv vals ov fu H,zdb X cv H s ov fu->zde X H fp vb nv M vals ov->(s.aK=0->iP M vs vals) ->
 aU prog (aF pls tb) 150 [.ptr X.rm 0,.ptr fp 0,.agg x.cells] H (ri X cv fp vb nv M ov H r)
def wU(tb:qu)(X:Mx)(cv:AV)(M:List aS)(N:Nat):Prop:=∀l vs s r,fE X.p X.fi N l vs s=some r->a6 l<2^36->r.2.out.length<2^40->zdB X M l->∀fp vb nv vals ov fu H,zdb X cv H s ov fu->zde X H fp vb nv M vals ov->(s.aK=0->iP M vs vals) ->
 aU prog (aF pls tb) 98 [.ptr X.rm 0,.ptr fp 0,.ai (l.map St.cells)] H (ri X cv fp vb nv M ov H r)
def Ch(tb:qu)(X:Mx)(cv:AV)(N:Nat):Prop:=∀k al s r,i3 X.p X.fi N k al s=some r->r.2.out.length<2^40->al.length<2^36->0<=k->(∃f,X.p.funcs[k.toNat]?=some f/\f.params.length=al.length)->s.aK=0->∀M ov fu H,zdb X cv H s ov fu->mj H M al->(∀b,pe M b->b<H.next) ->
 aU prog (aF pls tb) 56 [.ptr X.rm 0,.int .i64 k,M] H fun v H'=>v=.int .i64 r.1/\∃z Z,zdb X cv H' r.2 z Z/\FrS X (fun _=>False) ov H z H'
def Ci{H:Hp}{r o:Nat}{l:qp}(C:H.get r=some (.cells (ints l) 0 true))(M:o<l.length)(n:Int):mD prog H 2 (.ptr r o) (.int .i64 n)=some (H.set r (.cells (ints (l.set o n)) 0 true)):=by
 have F:o<(ints l).length:=by rw[og];exact M
 rw[Kc,Er,C,oW,Ep,Ab.cells_int,Wj _ _ _ F,au ⟨rfl,dx _,F,rfl⟩]
section
variable {tb:qu} (hT:RnT tb) {X:Mx} {cv:AV} {ns:List aS} (hF:Fn X ns) {x:St} {vs:List (aS × Int)} {s:MS} {fp vb:Nat} {nv:AV} {vals:qp} {ov:AV} {fu:Int} {H:Hp}
structure zdD (X:Mx) (cv:AV) (ns:List aS) (x:St) (s:MS) (fp vb:Nat) (nv:AV) (vals:qp) (ov:AV) (fu:Int) (H H1:Hp):Prop where
 R:zdb X cv H1 s ov fu
 v:zde X H1 fp vb nv ns vals ov
 fr:FrS X (·=vb) ov H ov H1
 box:H1.get H.next=some (.cells x.cells 0 true)
 n:H.next+1<=H1.next
def zdD.start(j:zdb X cv H s ov fu)(U:zde X H fp vb nv ns vals ov):zdD X cv ns x s fp vb nv vals ov fu H (H.alloc (.cells x.cells 0 true)) where
 R:=j.alloc _
 v:=U.cW ((iz _ _).alloc _)
 fr:=((iz _ _).alloc _).b8 _ _
 box:=fN
 n:=aT _
def tL:=@zdD.start
def zdD.expr{z Z:Hp}{V K:MS}{O:Int}(j:zdb X cv H V ov fu)(b:zdD X cv ns x s fp vb nv vals ov fu H z)(Y:zdb X cv Z K ov O)(f:FrE X z Z):zdD X cv ns x K fp vb nv vals ov O H Z where
 R:=Y
 v:=b.v.cW f
 fr:=b.fr.trans (f.b8 _ _)
 box:=Ll
 n:=dC b.n f.next
set_option maxRecDepth 100000 in
include hT hF in
def XD(m:x.ag=1){n:Nat}{aw:Int×MS}(C:en n x.value vs s=some aw)(ho:NOk X ns x)(j:zdb X cv H s ov fu)(A:zde X H fp vb nv ns vals ov)(S:s.aK=0->iP ns vs vals):
 aU prog (aF pls tb) 150 [.ptr X.rm 0,.ptr fp 0,.agg x.cells] H (ri X cv fp vb nv ns ov H (setV vs x.name aw.1,aw.2)):=by
 obtain⟨_,_,d3,_,_,d6,_,_⟩:=ho.parts;have I:=d6 (.inl m);have F:=tL (x:=x) j A;have J:zc7 (aF pls tb) 150:=hT.plain rfl;have hlt:=vr I;have U:=A.len;have O:et ns x.name<vals.length:=aa;refine a5 (M:=176) (rs:=[]) (J.call _) J.ao J.am func150 rfl rfl lb.2 rfl ?_;dsimp only[lb,a3,Nat.reduceAdd];repeat' (first
  |(apply ai ?_;clear hK K)|apply Ry.o ?_|apply bP ?_|(apply a2 (fun Z V=>?_) (fun Z V=>?_)<;>try(cases Z;done))|apply ae ?_|(apply ah fun K hK=>?_)|(apply aq 4 [(3,7),(3,10),(6,7)] fun K hK=>?_)|(apply aq 8 [(3,7),(3,11),(6,7),(9,11)] fun K hK=>?_)|(apply aq 34 [(4,7),(6,7)] fun K hK=>?_)|(apply aq 35 [(3,7),(3,10),(6,7)] fun K hK=>?_)|(apply aM ?_;try intro _)|(apply aR ?_ ?_<;>clear hK K)|apply aL ?_|apply bu rfl ?_|apply aj ?_)
 refine qa ?_;refine a4 ?_ (sm hT X hF.pz cv ns hF.nl n x.value vs s aw C d3 fp vb nv vals ov fu _ F.R F.v S);rintro v H2 ⟨rfl,Y,o⟩;have z:=F.expr j Y o;have g2:=z.box;have f2:=z.v.f;have v2:=z.v.v;have hst:=Ci v2 O aw.1;dsimp only[a0];repeat' (first
  |(apply ai ?_;clear hK K)|apply Ry.o ?_|apply bP ?_|(apply cU ?_;first|refine aY (Ce hT z.v I hF.nl) ?_)|(apply a2 (fun Z V=>?_) (fun Z V=>?_)<;>try(cases Z;done))|apply ae ?_|(apply ah fun K hK=>?_)|(apply aq 4 [(3,7),(3,10),(6,7)] fun K hK=>?_)|(apply aq 8 [(3,7),(3,11),(6,7),(9,11)] fun K hK=>?_)|(apply aq 34 [(4,7),(6,7)] fun K hK=>?_)|(apply aq 35 [(3,7),(3,10),(6,7)] fun K hK=>?_)|(apply aM ?_;try intro _)|(apply aR ?_ ?_<;>clear hK K)|apply aL ?_|apply bu rfl ?_|apply aj ?_)
 .exact di
 .all_goals refine qq ?_
  obtain⟨q1,q2,q3⟩:=z.R.setV z.v (vals.set (et ns x.name) aw.1) aI;exact⟨_,ov,fu,q1,q2,fun e=>(S (pn C e)).set U I aw.1,z.fr.trans q3⟩
set_option maxRecDepth 100000 in
include hT hF in
def XE(hk:x.ag=2){n:Nat}{aw a1:Int×MS}(he:en n x.aL vs s=some aw)(I:en n x.value vs aw.2=some a1)(ho:NOk X ns x)(o:zdb X cv H s ov fu)(hv:zde X H fp vb nv ns vals ov)(S:s.aK=0->iP ns vs vals):
 aU prog (aF pls tb) 150 [.ptr X.rm 0,.ptr fp 0,.agg x.cells] H (ri X cv fp vb nv ns ov H (vs,od x.name aw.1 a1.1 a1.2)):=by
 obtain⟨_,d2,d3,_,_,_,d7,_⟩:=ho.parts;have hn:=d7 hk;have b1:=tL (x:=x) o hv;have hw:zc7 (aF pls tb) 150:=hT.plain rfl;have hlm:=o.lm;refine a5 (M:=176) (rs:=[]) (hw.call _) hw.ao hw.am func150 rfl rfl lb.2 rfl ?_;dsimp only[lb,a3,Nat.reduceAdd];repeat' (first
  |(apply ai ?_;clear hK K)|apply Ry.o ?_|apply bP ?_|(apply cE (fun C Y=>?_) (fun C Y=>?_)<;>try(cases C;done))|(apply a2 (fun z V=>?_) (fun z V=>?_)<;>try(cases z;done))|apply ae ?_|(apply ah fun K hK=>?_)|(apply aq 4 [(3,7),(3,10),(6,7)] fun K hK=>?_)|(apply aq 8 [(3,7),(3,11),(6,7),(9,11)] fun K hK=>?_)|(apply aq 34 [(4,7),(6,7)] fun K hK=>?_)|(apply aq 35 [(3,7),(3,10),(6,7)] fun K hK=>?_)|(apply aM ?_;try intro _)|(apply aR ?_ ?_<;>clear hK K)|apply aL ?_|apply aj ?_|apply ak ?_)
 refine qa ?_;refine a4 ?_ (sm hT X hF.pz cv ns hF.nl n x.aL vs s aw he d2 fp vb nv vals ov fu _ b1.R b1.v S);rintro v H2 ⟨rfl,hR2,hf2⟩;have b2:=b1.expr o hR2 hf2;have g2:=b2.box;dsimp only[a0];repeat' (first
  |(apply ai ?_;clear hK K)|apply Rx.o ?_|apply ae ?_|(apply ah fun K hK=>?_)|(apply aq 4 [(3,7),(3,10),(6,7)] fun K hK=>?_)|(apply aq 8 [(3,7),(3,11),(6,7),(9,11)] fun K hK=>?_)|(apply aq 34 [(4,7),(6,7)] fun K hK=>?_)|(apply aq 35 [(3,7),(3,10),(6,7)] fun K hK=>?_)|(apply aM ?_;try intro _)|(apply aR ?_ ?_<;>clear hK K)|apply aL ?_|apply aj ?_|apply ak ?_)
 refine qa ?_;refine a4 ?_ (sm hT X hF.pz cv ns hF.nl n x.value vs aw.2 a1 I d3 fp vb nv vals ov fu _ b2.R b2.v fun e=>S (pn he e));rintro v H3 ⟨rfl,U,hf3⟩;have O:=b2.expr o U hf3;have g3:=O.box;have m3:=U.m;unfold nc at m3;obtain⟨rr,b7,ci,bX,bQ,a8,dt,fD,hY⟩:=U.at hn;rw[a8]at m3;dsimp only[a0];have j:∀e:a1.2.aK=0,s.aK=0:=fun e=>pn he (pn I e);by_cases A:aw.1<0\/((dA a1.2.cells x.name).length:Int)<=aw.1
 .have Z:=Ka (v:=a1.1) A;have hbad2:¬aw.1<0->((dA a1.2.cells x.name).length:Int)<=aw.1:=fun h=>aa;have j:=yR 2 a1.2;repeat' (first
   |(apply ai ?_;clear hK K)|apply Ry.o ?_|apply bP ?_|(apply cU ?_;first|refine aY (Cf hT U hn hF.pz) ?_)|(apply cE (fun C Y=>?_) (fun C Y=>?_)<;>try(cases C;done))|(apply a2 (fun z V=>?_) (fun z V=>?_)<;>try(cases z;done))|apply ae ?_|(apply ah fun K hK=>?_)|(apply aq 4 [(3,7),(3,10),(6,7)] fun K hK=>?_)|(apply aq 8 [(3,7),(3,11),(6,7),(9,11)] fun K hK=>?_)|(apply aq 34 [(4,7),(6,7)] fun K hK=>?_)|(apply aq 35 [(3,7),(3,10),(6,7)] fun K hK=>?_)|(apply aM ?_;try intro _)|(apply aR ?_ ?_<;>clear hK K)|apply aL ?_|apply aj ?_|apply ak ?_)
  .exact di
  all_goals
   refine qa ?_;refine a4 ?_ (y8 hT U 2);rintro v H4 ⟨J,F⟩;dsimp only[a0];repeat' (first
    |(apply ai ?_;clear hK K)|apply Ry.o ?_|apply bP ?_|(apply cU ?_;first|refine aY (gZ hT J) ?_)|(apply cE (fun C Y=>?_) (fun C Y=>?_)<;>try(cases C;done))|(apply a2 (fun z V=>?_) (fun z V=>?_)<;>try(cases z;done))|apply ae ?_|(apply ah fun K hK=>?_)|(apply aq 4 [(3,7),(3,10),(6,7)] fun K hK=>?_)|(apply aq 8 [(3,7),(3,11),(6,7),(9,11)] fun K hK=>?_)|(apply aq 34 [(4,7),(6,7)] fun K hK=>?_)|(apply aq 35 [(3,7),(3,10),(6,7)] fun K hK=>?_)|(apply aM ?_;try intro _)|(apply aR ?_ ?_<;>clear hK K)|apply aL ?_|apply aj ?_|apply ak ?_)
   all_goals refine qq ?_
   rw[Z];exact⟨vals,ov,fu,J,O.v.cW F,fun e=>(j e).elim,O.fr.trans (F.b8 _ _)⟩
 .have ha0:0<=aw.1:=by omega
  have hal:aw.1<(dA a1.2.cells x.name).length:=aa;have Z:=Kb (v:=a1.1) ha0 hal;have h1:¬aw.1<0:=aa;have h2:¬((dA a1.2.cells x.name).length:Int)<=aw.1:=aa;by_cases h0:a1.2.aK=0
  .have hlt:aw.1.toNat<(dA a1.2.cells x.name).length:=by omega
   have hst:=Ci bX hlt a1.1;repeat' (first
    |(apply ai ?_;clear hK K)|apply Ry.o ?_|apply bP ?_|(apply cU ?_;first|refine aY (Cf hT U hn hF.pz) ?_|refine aY (gZ hT U) ?_)|(apply cE (fun C Y=>?_) (fun C Y=>?_)<;>try(cases C;done))|(apply a2 (fun z V=>?_) (fun z V=>?_)<;>try(cases z;done))|apply ae ?_|(apply ah fun K hK=>?_)|(apply aq 4 [(3,7),(3,10),(6,7)] fun K hK=>?_)|(apply aq 8 [(3,7),(3,11),(6,7),(9,11)] fun K hK=>?_)|(apply aq 34 [(4,7),(6,7)] fun K hK=>?_)|(apply aq 35 [(3,7),(3,10),(6,7)] fun K hK=>?_)|(apply aM ?_;try intro _)|(apply aR ?_ ?_<;>clear hK K)|apply aL ?_|apply aj ?_|apply ak ?_)
   .exact di
   all_goals refine qq ?_
   rw[Z,au h0,bQ];have m:FrA X H3 (H3.set rr (.cells (ints ((dA a1.2.cells x.name).set aw.1.toNat a1.1)) 0 true)):=⟨aT _,fun k hk hno=>by
    rw[aO,ad (fun e=>hno (.inr (by rw[e];exact fq b7)))]⟩
   exact⟨vals,ov,fu,U.dj b7 ci aI,O.v.gx m,fun _=>S (j h0),O.fr.trans (m.b8 _ _)⟩
  .repeat' (first
    |(apply ai ?_;clear hK K)|apply Ry.o ?_|apply bP ?_|(apply cU ?_;first|refine aY (Cf hT U hn hF.pz) ?_|refine aY (gZ hT U) ?_)|(apply cE (fun C Y=>?_) (fun C Y=>?_)<;>try(cases C;done))|(apply a2 (fun z V=>?_) (fun z V=>?_)<;>try(cases z;done))|apply ae ?_|(apply ah fun K hK=>?_)|(apply aq 4 [(3,7),(3,10),(6,7)] fun K hK=>?_)|(apply aq 8 [(3,7),(3,11),(6,7),(9,11)] fun K hK=>?_)|(apply aq 34 [(4,7),(6,7)] fun K hK=>?_)|(apply aq 35 [(3,7),(3,10),(6,7)] fun K hK=>?_)|(apply aM ?_;try intro _)|(apply aR ?_ ?_<;>clear hK K)|apply aL ?_|apply aj ?_|apply ak ?_)
   .exact di
   all_goals refine qq ?_
   rw[Z,ad h0];exact⟨vals,ov,fu,U,O.v,fun e=>(h0 e).elim,O.fr⟩
end
end
variable{n:Nat}{u:MS}
section
def tyN6e.tyF:=ac @dF (ac @cI (ac @cY (ac @fg (ac @fh (ac @eL (ac @jH (ac @pR (ac @dW (ac @dR (ac @dX (ac @dy (ac @eD (ac @uV (ac @uW (@wu)))))))))))))))
open tyN6e
section
variable {tb:qu} (hT:RnT tb) {X:Mx} {cv:AV} {ns:List aS} (hF:Fn X ns) {x:St} {vs:List (aS × Int)} {s:MS} {fp vb:Nat} {nv:AV} {vals:qp} {ov:AV} {fu:Int} {H:Hp}
set_option maxRecDepth 100000 in
include hT hF in
def XF(hk:x.ag=3){aw:Int×MS}(C:en n x.value vs s=some aw)(h2:(if aw.1≠0 then fE X.p X.fi n x.a1 vs aw.2 else fE X.p X.fi n x.bh vs aw.2)=some r)
 (IH:wU tb X cv ns n) (hz:x.sz<2^36) (F:r.2.out.length<2^40) (ho:NOk X ns x) (hR:zdb X cv H s ov fu) (hv:zde X H fp vb nv ns vals ov) (S:s.aK=0->iP ns vs vals) :
 aU prog (aF pls tb) 150 [.ptr X.rm 0,.ptr fp 0,.agg x.cells] H (ri X cv fp vb nv ns ov H r):=by
 obtain⟨_,_,d3,d4,d5,_,_,_⟩:=ho.parts;have b1:=tL (x:=x) hR hv;have hw:zc7 (aF pls tb) 150:=hT.plain rfl;have hsz:=x.aJ;refine a5 (M:=176) (rs:=[]) (hw.call _) hw.ao hw.am func150 rfl rfl lb.2 rfl ?_;dsimp only[lb,a3,Nat.reduceAdd];repeat' (first
  |(apply ai ?_;clear hK K)|apply Ry.o ?_|(apply a2 (fun z V=>?_) (fun z V=>?_)<;>try(cases z;done))|apply ae ?_|(apply ah fun K hK=>?_)|apply aj ?_)
 refine qa ?_;refine a4 ?_ (sm hT X hF.pz cv ns hF.nl n x.value vs s aw C d3 fp vb nv vals ov fu _ b1.R b1.v S);rintro v H2 ⟨rfl,o,j⟩;have I:=b1.expr hR o j;have g2:=I.box;dsimp only[a0];by_cases hc:aw.1=0
 .rw[ad (by simp[hc])]at h2;repeat' (first
   |(apply ai ?_;clear hK K)|apply Ry.o ?_|(apply a2 (fun z V=>?_) (fun z V=>?_)<;>try(cases z;done))|apply ae ?_|(apply ah fun K hK=>?_)|apply aj ?_)
  refine qa ?_;refine a4 ?_ (IH x.bh vs aw.2 r h2 aa F d5 fp vb nv vals ov fu H2 I.R I.v fun e=>S (pn C e));rintro v H3 ⟨O,m,Y,U,A,Z,J⟩;dsimp only[a0];repeat' (first
   |(apply ai ?_;clear hK K)|apply ae ?_|(apply ah fun K hK=>?_)|apply aj ?_)
  all_goals refine qq ?_
  exact⟨O,m,Y,U,A,Z,I.fr.trans J⟩
 .rw[au hc]at h2;repeat' (first
   |(apply ai ?_;clear hK K)|apply Ry.o ?_|(apply a2 (fun z V=>?_) (fun z V=>?_)<;>try(cases z;done))|apply ae ?_|(apply ah fun K hK=>?_)|apply aj ?_)
  refine qa ?_;refine a4 ?_ (IH x.a1 vs aw.2 r h2 aa F d4 fp vb nv vals ov fu H2 I.R I.v fun e=>S (pn C e));rintro v H3 ⟨O,m,Y,U,A,Z,J⟩;dsimp only[a0];repeat' (first
   |(apply ai ?_;clear hK K)|apply ae ?_|(apply ah fun K hK=>?_)|apply aj ?_)
  all_goals refine qq ?_
  exact⟨O,m,Y,U,A,Z,I.fr.trans J⟩
def LM(H:Hp)(n:Int):dc prog H 27 1 [(0,.int .i64 n)]=some (.sl H.next 0 1 1,H.alloc (.cells [.int .i64 n] 0 true)):=aA
set_option maxRecDepth 100000 in
include hT hF in
theorem XG(hk:x.ag=5){aw:Int×MS}(C:en n x.value vs s=some aw)(hlo:(gh aw.1 aw.2).out.length<2^40)(ho:NOk X ns x)(hR:zdb X cv H s ov fu)(hv:zde X H fp vb nv ns vals ov)(U:s.aK=0->iP ns vs vals):
 aU prog (aF pls tb) 150 [.ptr X.rm 0,.ptr fp 0,.agg x.cells] H (ri X cv fp vb nv ns ov H (vs,gh aw.1 aw.2)):=by
 obtain⟨_,_,d3,_,_,_,_,_⟩:=ho.parts;have b1:=tL (x:=x) hR hv;have hw:zc7 (aF pls tb) 150:=hT.plain rfl;have hkeep:(aF pls tb).aj 150=false:=rfl;refine a5 (M:=176) (rs:=[]) (hw.call _) hw.ao hw.am func150 rfl rfl lb.2 rfl ?_;dsimp only[lb,a3,Nat.reduceAdd];repeat' (first
  |(apply ai ?_;clear hK K)|apply Ry.o ?_|apply bP ?_|(apply a2 (fun z V=>?_) (fun z V=>?_)<;>try(cases z;done))|apply ae ?_|(apply ah fun K hK=>?_)|apply aj ?_|apply ak ?_)
 refine qa ?_;refine a4 ?_ (sm hT X hF.pz cv ns hF.nl n x.value vs s aw C d3 fp vb nv vals ov fu _ b1.R b1.v U);rintro v Z ⟨rfl,Y,o⟩;have J:=b1.expr hR Y o;have g2:=J.box;have m2:=Y.m;unfold nc at m2;dsimp only[a0];by_cases I:aw.2.aK=0
 .have hlen:=FP aw.1 aw.2;have S:=Y.alloc (.cells [.int .i64 aw.1] 0 true);obtain⟨H6,O,A,m,F⟩:=BL (P:=prog) (t:=27) underlying27 oW rW rX S.out.ints (r':=Z.next) (x:=aw.1) fN aa;obtain⟨q1,q2⟩:=S.dM (x:=aw.1) I (aT _) A m F;have nb:¬iL ov X.rm:=fun⟨k,e⟩=>by
   rcases Y.out with⟨j,_⟩|⟨ro,j,_,_,h4,_⟩
   .rw[j]at e;simp at e
   .rw[j]at e;simp only[AV.sl.injEq]at e;exact h4 (.inl e.1)
  have m6:H6.get X.rm=some (.cells (nc X aw.2 cv ov fu) 0 true):=by rw[F _ S.lm nb];exact S.m
  have e2:(X.rm == Z.next)=false:=lO (tK Y.lm);have happ2:dh prog false (Z.alloc (.cells [.int .i64 aw.1] 0 true)) 27 27 ov (.sl Z.next 0 1 1)=some (.sl (Z.next+1) 0 (aw.2.out.length+1) 1,H6):=O;unfold nc at m6;have gh0:=@LM;repeat' (first
   |(apply ai ?_;clear hK K)|apply Ry.o ?_|apply bP ?_|(apply cU ?_;first|refine aY (gZ hT Y) ?_)|(apply a2 (fun z V=>?_) (fun z V=>?_)<;>try(cases z;done))|apply ae ?_|(apply ah fun K hK=>?_)|apply aj ?_|apply ak ?_)
  all_goals refine qq ?_
  have e3:HB.cells [AV.ai (List.map Ar.cells X.p.af),AV.ai (List.map Fu.cells X.p.funcs),cv,AV.sl (Z.next+1) 0 (aw.2.out.length+1) 1,.int .i64 fu,.int .i64 0,.int .i64 aw.2.aw,.ab,.int .i64 0] 0 true=.cells (nc X (gh aw.1 aw.2) cv (.sl (Z.next+1) 0 (aw.2.out.length+1) 1) fu) 0 true:=by
   simp only[nc,gh,I,bw]
  have hfr:FrS X (·=vb) ov Z ov (Z.alloc (.cells [.int .i64 aw.1] 0 true)):=((iz _ _).alloc _).b8 _ _;rw[e3];refine⟨vals,_,fu,q1,(J.v.cW ((iz _ _).alloc _)).eX q2 (fun _ _ e=>e),fun _=>U (pn C I),J.fr.trans (hfr.trans (q2.cw fun r _ e=>e.elim))⟩
 .have ho':gh aw.1 aw.2=aw.2:=by simp only[gh,I,bH]
  repeat' (first
   |(apply ai ?_;clear hK K)|apply Ry.o ?_|apply bP ?_|(apply cU ?_;first|refine aY (gZ hT Y) ?_)|(apply a2 (fun z V=>?_) (fun z V=>?_)<;>try(cases z;done))|apply ae ?_|(apply ah fun K hK=>?_)|apply aj ?_|apply ak ?_)
  all_goals refine qq ?_
  rw[ho'];exact⟨vals,ov,fu,Y,J.v,fun e=>U (pn C e),J.fr⟩
set_option maxRecDepth 100000 in
include hT hF in
theorem XH(O:x.ag=7)(j:zdb X cv H s ov fu)(U:zde X H fp vb nv ns vals ov)(S:s.aK=0->iP ns vs vals):
 aU prog (aF pls tb) 150 [.ptr X.rm 0,.ptr fp 0,.agg x.cells] H (ri X cv fp vb nv ns ov H (vs,iy (bA (16+x.n)) s)):=by
 have F:=tL (x:=x) j U;have J:zc7 (aF pls tb) 150:=hT.plain rfl;refine a5 (M:=176) (rs:=[]) (J.call _) J.ao J.am func150 rfl rfl lb.2 rfl ?_;dsimp only[lb,a3,Nat.reduceAdd];repeat' (first
  |(apply ai ?_;clear hK K)|apply Ry.o ?_|(apply a2 (fun z V=>?_) (fun z V=>?_)<;>try(cases z;done))|apply ae ?_|(apply ah fun K hK=>?_)|apply aj ?_)
 refine qa ?_;refine a4 ?_ (y8 hT F.R _);rintro v I ⟨Y,o⟩;have Z:=F.expr j Y o;dsimp only[a0];repeat' (first
  |(apply ai ?_;clear hK K)|apply ae ?_|(apply ah fun K hK=>?_)|apply aj ?_)
 all_goals refine qq ?_
 exact⟨vals,ov,fu,Y,Z.v,fun e=>(yR _ _ e).elim,Z.fr⟩
set_option maxRecDepth 100000 in
include hT hF in
theorem XI(h1:¬x.ag=1)(h2:¬x.ag=2)(A:¬x.ag=3)(O:¬x.ag=4)(Z:¬x.ag=5)(C:¬x.ag=6)(Y:¬x.ag=7)(j:zdb X cv H s ov fu)(U:zde X H fp vb nv ns vals ov)(S:s.aK=0->iP ns vs vals):
 aU prog (aF pls tb) 150 [.ptr X.rm 0,.ptr fp 0,.agg x.cells] H (ri X cv fp vb nv ns ov H (vs,s)):=by
 have F:=tL (x:=x) j U;have J:zc7 (aF pls tb) 150:=hT.plain rfl;refine a5 (M:=176) (rs:=[]) (J.call _) J.ao J.am func150 rfl rfl lb.2 rfl ?_;dsimp only[lb,a3,Nat.reduceAdd];repeat' (first
  |(apply ai ?_;clear hK K)|apply Ry.o ?_|(apply a2 (fun z V=>?_) (fun z V=>?_)<;>try(cases z;done))|apply ae ?_|(apply ah fun K hK=>?_)|apply aj ?_|apply ak ?_)
 all_goals refine qq ?_
 exact⟨vals,ov,fu,F.R,F.v,S,F.fr⟩
set_option maxRecDepth 100000 in
include hT hF in
theorem XJ(hk:x.ag=4)(h:iZ X.p X.fi n x vs s=some r)(IH:∀m,m<n->wU tb X cv ns m)(hz:x.sz<2^36)(hlo:r.2.out.length<2^40)(ho:NOk X ns x)(hR:zdb X cv H s ov fu)(hv:zde X H fp vb nv ns vals ov)(hvs:s.aK=0->iP ns vs vals):
 aU prog (aF pls tb) 150 [.ptr X.rm 0,.ptr fp 0,.agg x.cells] H (ri X cv fp vb nv ns ov H r):=by
 obtain⟨_,_,d3,d4,_,_,_,_⟩:=ho.parts;have b1:=tL (x:=x) hR hv;have hw:zc7 (aF pls tb) 150:=hT.plain rfl;have hsz:=x.aJ;have box:∀{j:AV}{H2:Hp},FrS X (·=vb) ov (H.alloc (.cells x.cells 0 true)) j H2->H2.get H.next=some (.cells x.cells 0 true):=fun{j H2} f=>by
  rw[f.get _ (dq _) (fun e=>by have:=hR.a8 e;omega) (fun e=>by have:=hR.a9 e;omega) (fun e=>by have:=hv.lt;omega)];exact b1.box
 refine a5 (M:=176) (rs:=[]) (hw.call _) hw.ao hw.am func150 rfl rfl lb.2 rfl ?_;dsimp only[lb,a3,Nat.reduceAdd];repeat' (first
  |(apply ai ?_;clear hK K)|apply Ry.o ?_|(apply cE (fun C Y=>?_) (fun C Y=>?_)<;>try(cases C;done))|(apply a2 (fun z U=>?_) (fun z U=>?_)<;>try(cases z;done))|apply ae ?_|(apply ah fun K hK=>?_)|apply aj ?_|apply ak ?_|apply ax ?_)
 refine uN (fun m E H2=>∃o s2 j Z O,m<=n/\iZ X.p X.fi m x o s2=some r/\E.at 0=.ptr X.rm 0/\E.at 1=.ptr fp 0/\E.at 5=.ptr H.next 0/\zdb X cv H2 s2 j O/\zde X H2 fp vb nv ns Z j/\(s2.aK=0->iP ns o Z)/\FrS X (·=vb) ov (H.alloc (.cells x.cells 0 true)) j H2) ?_ (n:=n) ?_
 .rintro m E H2 ⟨o,s2,j,Z,O,hmn,V,k0,k1,sM,hR2,hv2,hs2,hf2⟩;cases m with
  |zero=>simp[iZ]at V
  |succ m=>
   unfold iZ at V;simp only[dI]at V;obtain⟨aw,he,V⟩:=V;have kb:=box hf2;repeat' (first
    |(apply ai ?_;clear hK K)|apply Rx.o ?_|apply ae ?_|(apply ah fun K hK=>?_)|apply aj ?_|apply ak ?_|apply ax ?_)
   refine qa ?_;refine a4 ?_ (sm hT X hF.pz cv ns hF.nl m x.value o s2 aw he d3 fp vb nv Z j O _ hR2 hv2 hs2);rintro v H3 ⟨rfl,J,hf3⟩;have hv3:=hv2.cW hf3;have F:=hf2.trans (hf3.b8 _ _);dsimp only[a0];by_cases hc:aw.1≠0/\aw.2.aK=0
   .obtain⟨hc1,hc2⟩:=hc;rw[au ⟨hc1,hc2⟩]at V;repeat' (first
     |(apply ai ?_;clear hK K)|apply Ry.o ?_|(apply cU ?_;first|refine aY (gZ hT J) ?_)|(apply cE (fun C Y=>?_) (fun C Y=>?_)<;>try(cases C;done))|(apply a2 (fun z U=>?_) (fun z U=>?_)<;>try(cases z;done))|apply ae ?_|(apply ah fun K hK=>?_)|apply aj ?_|apply ak ?_|apply ax ?_)
    refine qa ?_;refine a4 ?_ (LK hT J);rintro v H4 ⟨⟨fu4,hR4⟩,hf4⟩;have hv4:=hv3.cW hf4;have A:=F.trans (hf4.b8 _ _);have kb4:=box A;dsimp only[a0];repeat' (first
     |(apply ai ?_;clear hK K)|apply Rx.o ?_|apply ae ?_|(apply ah fun K hK=>?_)|apply aj ?_|apply ak ?_|apply ax ?_)
    refine qa ?_;by_cases ht:(ed aw.2).aK=0
    .rw[au ht]at V;simp only[dI]at V;obtain⟨a1,I,V⟩:=V;refine a4 ?_ (IH m aa x.a1 o _ a1 I aa (wN ((wT _ _ _).2.2.1 _ _ _ _ V) hlo) d4 fp vb nv Z j fu4 H4 hR4 hv4 fun _=>hs2 (pn he hc2));rintro v H5 ⟨S,ov5,fu5,hR5,hv5,hs5,hf5⟩;dsimp only[a0];repeat' (first
      |(apply ai ?_;clear hK K)|apply Rx.o ?_|apply ae ?_|(apply ah fun K hK=>?_)|apply aj ?_|apply ak ?_|apply ax ?_)
     exact⟨m,dq m,a1.1,a1.2,ov5,S,fu5,aa,V,eE,eE,eE,hR5,hv5,hs5,A.trans hf5⟩
    .rw[ad ht]at V;have I:∃m',m'<n/\fE X.p X.fi (m'+1-1) x.a1 o (ed aw.2)=some (o,ed aw.2):=by
      cases m with
      |zero=>simp[iZ]at V
      |succ m=>
       refine⟨m+1,aa,?_⟩;show fE X.p X.fi (m+1) x.a1 o (ed aw.2)=_;unfold fE;cases x.a1 with
       |nil=>rfl
       |cons y l=>simp only[au (show(ed aw.2).aK≠0 from ht)]
     obtain⟨m',hm',I⟩:=I;have hlo2:(ed aw.2).out.length<2^40:=wN ((wT _ _ _).2.2.1 _ _ _ _ V) hlo;refine a4 ?_ (IH m' hm' x.a1 o _ _ I aa hlo2 d4 fp vb nv Z j fu4 H4 hR4 hv4 fun e=>(ht e).elim);rintro v H5 ⟨S,ov5,fu5,hR5,hv5,hs5,hf5⟩;dsimp only[a0];repeat' (first
      |(apply ai ?_;clear hK K)|apply Rx.o ?_|apply ae ?_|(apply ah fun K hK=>?_)|apply aj ?_|apply ak ?_|apply ax ?_)
     exact⟨m,dq m,o,_,ov5,S,fu5,aa,V,eE,eE,eE,hR5,hv5,hs5,A.trans hf5⟩
   .rw[ad hc]at V;simp only[aH]at V;subst V;have fr0:FrS X (·=vb) ov H ov (H.alloc (.cells x.cells 0 true)):=b1.fr;by_cases hc1:aw.1=0
    .repeat' (first
      |(apply ai ?_;clear hK K)|apply Ry.o ?_|(apply cE (fun C Y=>?_) (fun C Y=>?_)<;>try(cases C;done))|(apply a2 (fun z U=>?_) (fun z U=>?_)<;>try(cases z;done))|apply ae ?_|(apply ah fun K hK=>?_)|apply aj ?_|apply ak ?_|apply ax ?_)
     all_goals refine qq ?_
     exact⟨Z,j,O,J,hv3,fun e=>hs2 (pn he e),fr0.trans F⟩
    .have hc2:¬aw.2.aK=0:=fun e=>hc ⟨hc1,e⟩;repeat' (first
      |(apply ai ?_;clear hK K)|apply Ry.o ?_|(apply cU ?_;first|refine aY (gZ hT J) ?_)|(apply cE (fun C Y=>?_) (fun C Y=>?_)<;>try(cases C;done))|(apply a2 (fun z U=>?_) (fun z U=>?_)<;>try(cases z;done))|apply ae ?_|(apply ah fun K hK=>?_)|apply aj ?_|apply ak ?_|apply ax ?_)
     all_goals refine qq ?_
     exact⟨Z,j,O,J,hv3,fun e=>hs2 (pn he e),fr0.trans F⟩
 .exact⟨vs,s,ov,vals,fu,aT _,h,eE,eE,eE,b1.R,b1.v,hvs,BK _ _ _ _⟩
end
end
section
def ju(s:MS):Prop:=0<=s.aC/\s.aC<=1000
def fS(c:Nat)(s t:MS):Prop:=0<=t.aC/\t.aC<=s.aC/\(t.out.length:Int)<=s.out.length+c+200*(s.aC-t.aC)
def fS.fz(h:fS c s t)(S:ju s):ju t:=⟨h.1,Int.le_trans h.2.1 S.2⟩
def fS.trans(h:fS c s t)(h2:fS d t u):fS (c+d) s u:=by
 unfold fS at *;omega
def fS.mono(h:fS c s t)(K:c<=d):fS d s t:=by
 unfold fS at *;omega
def fS.d0(h:fS c s t)(h1:u.out=t.out)(h2:u.aC=t.aC):fS c s u:=by
 unfold fS at *;rw[h1,h2];exact h
def vu(h:ju s):fS c s s:=by unfold fS ju at *;omega
def za(h:ju s):((ed s).aK=0/\s.aK=0/\0<s.aC/\(ed s).aC=s.aC-1)\/((ed s).aK≠0/\(ed s).aC=s.aC):=by
 obtain⟨j,m⟩:=h;unfold ed;by_cases e:s.aK≠0
 .rw[au e];exact .inr ⟨e,rfl⟩
 rw[ad e];by_cases K:s.aC=0
 .rw[au K];exact .inr ⟨aI,rfl⟩
 rw[ad K];have o:s.aK=0:=Bp;exact .inl ⟨o,o,aa,by show bA (s.aC-1)=_;unfold bA;rw[k3 aa aa]⟩
def Cj(h:ju s):fS 0 s (ed s):=by
 have M:=y9 s;unfold fS ju at *;rw[M];rcases za h with⟨_,_,a,b⟩|⟨_,b⟩<;>rw[b]<;>omega
def XK(nm:aS)(a v:Int)(s:MS):(od nm a v s).aC=s.aC:=by
 unfold od;simp only[];split<;>split<;>simp[vt]
def XL(v:Int)(h:ju s):fS 1 s (gh v s):=by
 unfold gh;split
 .unfold fS ju at *;simp;omega
 .exact vu h
def sn{x:Ex}{r:Int×MS}(C:en n x vs s=some r)(h:ju s):fS 0 s r.2:=by
 have k:=mq _ _ _ _ _ C;exact(vu h).d0 k.1 k.2.2
def LN{r:qp×MS}(C:kZ n l vs s=some r)(h:ju s):fS 0 s r.2:=by
 have k:=wS _ _ _ _ C;exact(vu h).d0 k.1 k.2.2.1
theorem Ck(p:Pr)(fi:List (aS×Int))(J:∀f∈p.funcs,b9 f.body<=200):∀n:Nat,
 (∀x vs s r,lN p fi n x vs s=some r->dl x<=200->ju s->fS (dl x) s r.2)/\(∀l vs s r,fE p fi n l vs s=some r->b9 l<=200->ju s->fS (b9 l) s r.2) /\
 (∀x vs s r,iZ p fi n x vs s=some r->dl x<=200->ju s->fS 0 s r.2)/\(∀k al s r,i3 p fi n k al s=some r->ju s->fS 200 s r.2)
 |0=>⟨fun x vs s r h=>by simp[lN]at h,fun l vs s r h=>by simp[fE]at h,fun x vs s r h=>by simp[iZ]at h,fun k al s r h=>by simp[i3]at h⟩
 |n+1=>by
  obtain⟨A,Z,F,S⟩:=Ck p fi J n;refine⟨fun x vs s r h I Y=>?_,fun l vs s r h I Y=>?_,fun x vs s r h I Y=>?_,fun k al s r h Y=>?_⟩
  .have hx:=vk x;unfold lN at h;split at h
   .simp only[kF]at h;obtain⟨aw,C,rfl⟩:=h;exact(sn C Y).mono aa
   split at h
   .simp only[kF]at h;obtain⟨aw,C,a1,U,rfl⟩:=h;have a:=sn C Y;have b:=sn U (a.fz Y);exact((a.trans b).d0 (LL _ _ _ _) (XK _ _ _ _)).mono aa
   split at h
   .simp only[dI]at h;obtain⟨aw,C,h⟩:=h;have a:=sn C Y;split at h
    .exact(a.trans (Z _ _ _ _ h aa (a.fz Y))).mono aa
    .exact(a.trans (Z _ _ _ _ h aa (a.fz Y))).mono aa
   split at h
   .exact(F _ _ _ _ h I Y).mono aa
   split at h
   .simp only[kF]at h;obtain⟨aw,C,rfl⟩:=h;have a:=sn C Y;exact(a.trans (XL _ (a.fz Y))).mono aa
   split at h
   .simp only[dI]at h;obtain⟨aw,C,h⟩:=h;have a:=LN C Y;have b:=Cj (a.fz Y);split at h
    .rename_i m;simp only[kF]at h;obtain⟨a1,hc,rfl⟩:=h;have c:=S _ _ _ _ hc (b.fz (a.fz Y));have M:=y9 aw.2;rcases za (a.fz Y)with⟨_,_,V,o⟩|⟨V,_⟩
     .unfold fS at a c⊢;rw[M,o]at c;simp only;omega
     .exact absurd m V
    .simp only[aH]at h;subst h;exact(a.trans b).mono aa
   split at h
   .simp only[aH]at h;subst h;exact((vu Y).d0 (vt _ _).1 (vt _ _).2.2)
   .simp only[aH]at h;subst h;exact vu Y
  .unfold fE at h;split at h
   .simp only[aH]at h;subst h;exact vu Y
   .rename_i x l;rw[b9]at I⊢;split at h
    .simp only[aH]at h;subst h;exact vu Y
    .simp only[dI]at h;obtain⟨aw,C,h⟩:=h;have a:=A _ _ _ _ C aa Y;exact a.trans (Z _ _ _ _ h aa (a.fz Y))
  .have hx:=vk x;unfold iZ at h;simp only[dI]at h;obtain⟨aw,C,h⟩:=h;have a:=sn C Y;split at h
   .have b:=Cj (a.fz Y);have M:=y9 aw.2;split at h
    .rename_i m;simp only[dI]at h;obtain⟨a1,hc,h⟩:=h;have c:=Z _ _ _ _ hc aa (b.fz (a.fz Y));have d:=F _ _ _ _ h I (c.fz (b.fz (a.fz Y)));rcases za (a.fz Y)with⟨_,_,V,o⟩|⟨V,_⟩
     .unfold fS at a c d⊢;rw[M,o]at c;omega
     .exact absurd m V
    .exact(a.trans (b.trans (F _ _ _ _ h I (b.fz (a.fz Y))))).mono aa
   .simp only[aH]at h;subst h;exact a
  .unfold i3 at h;split at h
   .simp at h
   .simp only[dI]at h;obtain⟨f,m,vs,K,aw,O,C⟩:=h;have z:=J f (fq m);have a:=Z _ _ _ _ O z Y;exact((a.mono z).trans (sn C (a.fz Y))).mono aa
def XM(h:l[i]?=some k):1+cG k<=iM l:=by
 induction l generalizing i with
 |nil=>simp at h
 |cons e U ih=>
  rw[iM];cases i with
  |zero=>simp at h;subst h;omega
  |succ i=>have:=ih fQ;omega
def XN(J:eh l=true)(h:l[i]?=some k):eB k=true:=by
 induction l generalizing i with
 |nil=>simp at h
 |cons e U ih=>
  rw[eh,cN]at J;cases i with
  |zero=>simp at h;subst h;exact J.1
  |succ i=>exact ih J.2 fQ
def LO{A:Type}(l:List A)(h:i<l.length):∃k,l[i]?=some k:=⟨l[i],bt h⟩
theorem so:∀(n:Nat) (x:Ex) (vs:List (aS×Int)) (s:MS),eB x=true->cG x<n->∃r,en n x vs s=some r
 |0,x,vs,s,hw,hd=>by omega
 |n+1,x,vs,s,hw,hd=>by
  rw[Ft,cN]at hw;rw[Km]at hd;have M:∀i,i<x.ak.length->∃k,x.ak[i]?=some k/\∀s,∃r,en n k vs s=some r:=fun i I=>by
   obtain⟨k,o⟩:=LO x.ak I;have:=XM o;exact⟨k,o,fun s=>so n k vs s (XN hw.1 o) aa⟩
  have hx:=hw.2;rw[ml]at hx;unfold en;by_cases F:s.aK≠0
  .rw[au F];exact⟨_,rfl⟩
  rw[ad F];by_cases Y:x.ag=1
  .rw[au Y];exact⟨_,rfl⟩
  rw[ad Y]at hx⊢;by_cases U:x.ag=2
  .rw[au U];exact⟨_,rfl⟩
  rw[ad U]at hx⊢;by_cases m:x.ag=3
  .rw[au m]at hx⊢;simp only[jj]at hx;obtain⟨k,o,hr⟩:=M 0 aa;obtain⟨r,hr⟩:=hr s;rw[o,gX,hr,gX];split<;>exact⟨_,rfl⟩
  rw[ad m]at hx⊢;by_cases Z:x.ag=5
  .have O:¬x.ag=4:=by omega
   rw[ad O,au Z]at hx;rw[au Z];simp only[jj]at hx;obtain⟨k,o,hr⟩:=M 0 aa;obtain⟨k1,S,V⟩:=M 1 aa;obtain⟨k2,j,K⟩:=M 2 aa;obtain⟨r,hr⟩:=hr s;rw[o,gX,hr,gX];split
   .rw[S,gX];exact V _
   .rw[j,gX];exact K _
  rw[ad Z]at hx⊢;by_cases O:x.ag=4
  .rw[au O]at hx;simp only[cN,ky,kR]at hx;have C:x.ak.length=2\/x.ak.length=1:=by rcases hx.2 with h|h<;>omega
   obtain⟨k,o,hr⟩:=M 0 aa;obtain⟨r,hr⟩:=hr s;rw[o,gX,hr,gX];by_cases J:x.ak.length=1
   .rw[au J];exact⟨_,rfl⟩
   .rw[ad J];obtain⟨k1,S,V⟩:=M 1 aa;obtain⟨aw,V⟩:=V r.2;rw[S,gX,V,gX];split<;>exact⟨_,rfl⟩
  .rw[ad O]at hx;cases hx
theorem LP{n:Nat}(I:22<=n):∀(l:qz) (vs:List (aS×Int)) (s:MS),eh l=true->(l.any fun e=>decide ((20:Int)<cG e))=false->∃r,kZ n l vs s=some r
 |[],vs,s,_,_=>⟨_,rfl⟩
 |x::l,vs,s,hw,hd=>by
  rw[eh,cN]at hw;rw[oc,fP,iX]at hd;obtain⟨r,hr⟩:=so n x vs s hw.1 aa;obtain⟨a1,K⟩:=LP I l vs r.2 hw.2 hd.2;rw[kZ,hr,gX,K,gX];exact⟨_,rfl⟩
theorem LQ:∀(l:List aS) (al:qp) (vs:List (aS×Int)),l.length=al.length->∃r,mh l al vs=some r
 |[],_,vs,_=>⟨_,rfl⟩
 |nm::l,[],vs,h=>by simp at h
 |nm::l,a::al,vs,h=>LQ l al _ fQ
structure zdv (p:Pr) (l:qt):Prop where
 wf:eW l=true
 dp:eV l=false
 ch:∃c:Sc,c.p=p/\cO c false l=true/\cO c true l=true
structure EOk (p:Pr) (x:St):Prop where
 wf:k5 x=true
 dp:k4 x=false
 ch:∃c:Sc,c.p=p/\fl c false x=true/\fl c true x=true
def zdv.cons{l:qt}(h:zdv p (x::l)):EOk p x/\zdv p l:=by
 obtain⟨j,m,c,hc,A,O⟩:=h;rw[eW,cN]at j;rw[eV,fP]at m;rw[cO,cN]at A O;exact⟨⟨j.1,m.1,c,hc,A.1,O.1⟩,⟨j.2,m.2,c,hc,A.2,O.2⟩⟩
def EOk.fe(h:EOk p x):zdv p x.a1/\zdv p x.bh:=by
 obtain⟨j,m,c,hc,A,O⟩:=h;rw[yY]at j;rw[yU]at m;rw[y7]at A O;simp only[cN,fP]at j m A O;exact⟨⟨j.1.2,m.1.1.2,c,hc,A.1.2,O.1.2⟩,⟨j.2,m.1.2,c,hc,A.2,O.2⟩⟩
def EOk.args(h:EOk p x):eh x.args=true/\(x.args.any fun e=>decide ((20:Int)<cG e))=false:=by
 have j:=h.wf;have m:=h.dp;rw[yY,iN]at j;rw[yU]at m;simp only[cN,fP]at j m;exact⟨j.1.1.1,m.2⟩
def EOk.value(h:EOk p x)(o:x.ag=1\/x.ag=2\/x.ag=3\/x.ag=4\/x.ag=5):eB x.value=true/\cG x.value<22:=by
 have j:=h.wf;have m:=h.dp;rw[yY,iN,mn]at j;rw[yU]at m;simp only[cN,fP,iX]at j m;refine⟨?_,aa⟩;have A:=j.1.1.2;rcases o with e|e|e|e|e<;>rw[e]at A<;>simp at A<;>simp[A]
def EOk.aL(h:EOk p x)(o:x.ag=2):eB x.aL=true/\cG x.aL<22:=by
 have j:=h.wf;have m:=h.dp;rw[yY,iN,mn]at j;rw[yU]at m;simp only[cN,fP,iX]at j m;refine⟨?_,aa⟩;have A:=j.1.1.2;rw[o]at A;simp at A;simp[A]
def EOk.call(h:EOk p x)(o:x.ag=6):0<=cm p.funcs x.to 0/\x.args.length=j3 p x.to:=by
 obtain⟨c,hc,A,O⟩:=h.ch;rw[y7]at A O;simp only[cN,fF,nS,iO,i7,jt,o,hc]at A O;simp at A O;exact⟨A.1.1.2.2,by have:=O.1.1;omega⟩
section
variable (p:Pr) (fi:List (aS × Int))
def FR(g m N:Nat):Prop:=∀n,N<=n->∀l vs s,zdv p l->b9 l<=m->ju s->s.aC<=g->∃r,fE p fi n l vs s=some r
def Cl(g N:Nat):Prop:=∀n,N<=n->∀f k al s,0<=k->p.funcs[k.toNat]?=some f->f.params.length=al.length->ju s->s.aC+1<=g->∃r,i3 p fi n k al s=some r
end
structure zdw (p:Pr) (fi:List (aS×Int)):Prop where
 body:∀f∈p.funcs,zdv p f.body/\b9 f.body<=200/\eB f.value=true/\cG f.value<22
 fn:∀s,0<=cm p.funcs s 0->de fi s=cm p.funcs s 0
def zdw.fB{fi:List (aS×Int)}(h:zdw p fi):∀f∈p.funcs,b9 f.body<=200:=fun f m=>(h.body f m).2.1
theorem LR{p:Pr}{fi:List (aS×Int)}(J:zdw p fi){g m N:Nat}(M:m<=200)(O:22<=N)(hS:FR p fi g m N):∀(j:Nat),j<=g->∀n,N+j+3<=n->∀x vs s,EOk p x->x.ag=4->dl x<=m+1->dl x<=200->ju s->s.aC<=j->∃r,iZ p fi n x vs s=some r
 |j,hj,0,hn=>by omega
 |j,hj,n+1,hn=>fun x vs s hx K F A Y Z=>by
  have e1:=vk x;obtain⟨z,hd⟩:=hx.value aa;obtain⟨aw,C⟩:=so n x.value vs s z aa;have a:=sn C Y;have V:=a.fz Y;unfold iZ;rw[C,gX];split
  .split
   .rename_i U;rcases za V with⟨_,_,S,t2⟩|⟨S,_⟩
    .have b:=Cj V;have I:=b.fz V;have af:=a.2.1;obtain⟨a1,hc⟩:=hS n aa x.a1 vs (ed aw.2) hx.fe.1 aa I aa;have c:=(Ck p fi J.fB n).2.1 _ _ _ _ hc aa I;have cf:=c.2.1;rw[hc,gX]
     match j,hj,Z with
     |0,_,Z=>omega
     |j+1,hj,Z=>exact LR J M O hS j aa n aa x _ _ hx K F A (c.fz I) aa
    .exact absurd U S
   .rename_i U
    match n,hn with
    |0,hn=>omega
    |n+1,hn=>
     unfold iZ;have o:en n x.value vs (ed aw.2)=some (0,ed aw.2):=by
      match n,hn with
      |0,hn=>omega
      |n+1,hn=>unfold en;rw[au U]
     rw[o,gX,ad aI];exact⟨_,rfl⟩
  .exact⟨_,rfl⟩
def XO{fi:List (aS×Int)}(J:zdw p fi){g m N:Nat}(hm:m+1<=200)(F:22<=N)(hS:FR p fi g m N)(z:Cl p fi g N):∀n,N+g+4<=n->∀x vs s,EOk p x->dl x<=m+1->ju s->s.aC<=g->∃r,lN p fi n x vs s=some r
 |0,hn=>by omega
 |n+1,hn=>fun x vs s hx j Y o=>by
  have e1:=vk x;unfold lN;by_cases k1:x.ag=1
  .rw[au k1];obtain⟨U,hd⟩:=hx.value aa;obtain⟨aw,C⟩:=so n x.value vs s U aa;rw[C];exact⟨_,rfl⟩
  rw[ad k1];by_cases k2:x.ag=2
  .rw[au k2];obtain⟨ha,hda⟩:=hx.aL k2
   obtain⟨U,hd⟩:=hx.value aa;obtain⟨aw,C⟩:=so n x.aL vs s ha aa
   obtain⟨a1,I⟩:=so n x.value vs aw.2 U aa;rw[C,gX,I];exact⟨_,rfl⟩
  rw[ad k2];by_cases lT:x.ag=3
  .rw[au lT];obtain⟨U,hd⟩:=hx.value aa;obtain⟨aw,C⟩:=so n x.value vs s U aa;have a:=sn C Y;have V:=a.fz Y;have af:=a.2.1;rw[C,gX];split
   .exact hS n aa _ _ _ hx.fe.1 aa V aa
   .exact hS n aa _ _ _ hx.fe.2 aa V aa
  rw[ad lT];by_cases kK:x.ag=4
  .rw[au kK];exact LR J aa F hS g (aT _) n aa x vs s hx kK j aa Y o
  rw[ad kK];by_cases sM:x.ag=5
  .rw[au sM];obtain⟨U,hd⟩:=hx.value aa;obtain⟨aw,C⟩:=so n x.value vs s U aa;rw[C];exact⟨_,rfl⟩
  rw[ad sM];by_cases k6:x.ag=6
  .rw[au k6];obtain⟨hw,hd⟩:=hx.args;obtain⟨aw,C⟩:=LP (show 22<=n by omega) x.args vs s hw hd;have a:=LN C Y;have V:=a.fz Y;have af:=a.2.1;have hl:=(wS _ _ _ _ C).2.2.2;rw[C,gX];split
   .rename_i ht;rcases za V with⟨_,_,S,t2⟩|⟨S,_⟩
    .obtain⟨c1,c2⟩:=hx.call k6;obtain⟨i,hi,K⟩:=BY p.funcs x.to 0 c1;have A:=J.fn x.to c1;obtain⟨f,Z⟩:=LO p.funcs hi;have M:cm p.funcs x.to 0=(i:Int):=by simpa using K
     have O:f.params.length=aw.1.length:=by
      rw[hl,c2,j3,M,yD,Z];rfl
     obtain⟨a1,hc⟩:=z n aa f (de fi x.to) aw.1 (ed aw.2) aa (by rw[A,M,yD];exact Z) O ((Cj V).fz V) aa;rw[hc];exact⟨_,rfl⟩
    .exact absurd ht S
   .exact⟨_,rfl⟩
  rw[ad k6];split<;>exact⟨_,rfl⟩
theorem LS{p:Pr}{fi:List (aS×Int)}(J:zdw p fi){g N:Nat}(U:22<=N)(C:Cl p fi g N):∀m,m<=200->∃M,N<=M/\FR p fi g m M
 |0,_=>⟨N,aT _,fun n I l vs s K j Y Z=>by
  cases l with
  |nil=>
   cases n with
   |zero=>omega
   |succ n=>exact⟨_,by unfold fE;rfl⟩
  |cons x l=>have:=vk x;rw[b9]at j;omega⟩
 |m+1,hm=>by
  obtain⟨M,O,hS⟩:=LS J U C m aa;refine⟨M+g+6,aa,fun n I l vs s K j Y Z=>?_⟩;cases n with
  |zero=>omega
  |succ n=>
   cases l with
   |nil=>exact⟨_,by unfold fE;rfl⟩
   |cons x l=>
    obtain⟨hx,K⟩:=K.cons;have o:=vk x;rw[b9]at j;unfold fE;simp only;split
    .exact⟨_,rfl⟩
    .have S:Cl p fi g M:=fun n I=>C n aa;obtain⟨aw,V⟩:=XO J hm aa hS S n aa x vs s hx aa Y Z;have a:=(Ck p fi J.fB n).1 _ _ _ _ V aa Y;have z:=a.2.1;rw[V,gX];exact hS n aa l _ _ K aa (a.fz Y) aa
theorem LU{p:Pr}{fi:List (aS×Int)}(J:zdw p fi):∀g,∃N,22<=N/\Cl p fi g N
 |0=>⟨22,aT _,fun n I f k al s V m Z Y C=>by have:=Y.1;simp at C;omega⟩
 |g+1=>by
  obtain⟨N,U,S⟩:=LU J g;obtain⟨M,o,hS⟩:=LS J U S 200 (aT _);refine⟨M+1,aa,fun n I f k al s V m Z Y C=>?_⟩;cases n with
  |zero=>omega
  |succ n=>
   obtain⟨F,z,O,j⟩:=J.body f (fq m);obtain⟨vs,A⟩:=LQ f.params al [] Z;obtain⟨r,hr⟩:=hS n aa f.body vs s F z Y aa;obtain⟨a1,K⟩:=so n f.value r.1 r.2 O aa;unfold i3;rw[ad aa,m,gX,A,gX,hr,gX];exact⟨a1,K⟩
end
end Go.Proofs.YtbflaciihaijgaaGreat
