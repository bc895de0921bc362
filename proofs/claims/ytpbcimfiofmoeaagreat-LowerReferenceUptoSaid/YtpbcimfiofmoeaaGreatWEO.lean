/- Lemmas for the last file. -/
import Derived.Test.YtpbcimfiofmoeaaGreatWEN
set_option linter.all false
set_option maxHeartbeats 32000000
namespace Go.Ab
set_option maxRecDepth 20000
open Go
variable{qe:Prop}
def xu(h:qe:=by refine⟨rfl,rfl,rfl,rfl,rfl,rfl,rfl,rfl,rfl⟩):=h
end Go.Ab
namespace Go.Proofs.YtpbcimfiofmoeaaGreat
set_option maxRecDepth 20000
open Go Go.Ab Proofs.Tryz
variable(ρ:Nat->Int)
section
def tyP4b.tyF:=ad @dQ (ad @cr (ad @yb (ad @cK (ad @dV (ad @dR (ad @dD (ad @eh (@M3))))))))
open tyP4b
noncomputable def RQ:{c:SC // aE 111 (f124.body.getD .skip)=c}:=by
 refine⟨?_,?_⟩;rotate_left
 .simp only[f124,bN,aE,bH,bw,bM,bJ,Nat.blt,Nat.ble];rfl
mutual
theorem RR:∀(x:Ex) (d:Int),mX (fun x _=>mC x) x d=eW x
 | .mk k n s o C,d=>by rw[mX,eW,RS C,Bool.and_comm]
theorem RS:∀(l:qI) (d:Int),jz (fun x _=>mC x) l d=eB l
 |[],_=>rfl
 |x::l,d=>by rw[jz,eB,RR x,RS l]
end
def JW{l:qC}(Z:∀J,dE l 120 J=Bv.sp J)(M:∀J,dE l 157 J=Bx.sp J)(V:(∀J,dE l 123 J=none)/\iA l 123=false)(U:(∀J,dE l 122 J=none)/\iA l 122=false)
 (x:Ex) (C:x.sz<2^60) (H:Hp):aR prog (au pls l) 122 [.agg x.cells,.int .i64 0,.bJ 123 []] H fun v H'=>v=.bool (eW x)/\FrB 0 H H':=by
 have j:vO 0 fun _:Hp=>True:=fun _ _ _ _=>trivial;refine aF ?_ (yM (ei U.1 U.2) j (zdQ Z M V j) (x.sz+1) x (bT _) 0 H C (cZ _) trivial);rintro v H' ⟨rfl,Y,_⟩;exact⟨by rw[RR],Y⟩
def sh(x:Ex)(w:Bool):Bool:=bif w then eW x else zeroE x
noncomputable def JX:qC:=[Bv,Bx,RP]
def zdR:gT prog ρ JX:=⟨RN ρ,RO ρ,zdP ρ,trivial⟩
theorem zdS(x:Ex)(w:Bool)(C:x.sz<2^60):bX prog ρ 160 [.agg x.cells,.bool w] (.bool (sh x w)):=fB fit (pls:=pls) (zdR ρ) (.cons (.agg x.pure) (.cons (.bool _) .nil)) (.bool _) (by
 have Z:zd0 (au pls JX) 160:=ei (fun _=>rfl) rfl;have J:∀y:Ex,∀H,aR prog (au pls JX) 184 [.agg y.cells] H fun v H'=>v=.bool (zeroE y)/\H'=H:=fun y H=>cV (enc:=jO) (out:=fun x=>.bool (zeroE x)) rR (x:=y) rfl trivial;cases w
 .refine bp (M:=10) (rs:=[.tmp 4]) (Z.call _) Z.aG Z.aB func160 rfl rfl Fx.2 rfl ?_;dsimp only[Fx,bm,Nat.reduceAdd];repeat' (first
   |(apply aj ?_;clear hK K)|apply aV ?_|(apply eu ?_;first|refine bK (J _ _) ?_)|(apply bz ?_ ?_<;>(intro hb hbp;try(cases hb;done)))|(apply am fun K hK=>?_)|fail)
  all_goals refine qq ?_
  rfl
 .refine bp (M:=10) (rs:=[.tmp 4]) (Z.call _) Z.aG Z.aB func160 rfl rfl Fx.2 rfl ?_;dsimp only[Fx,bm,Nat.reduceAdd];refine wh fun K hK=>?_;refine qc ?_;refine aF ?_ (JW (fun _=>rfl) (fun _=>rfl) ⟨fun _=>rfl,rfl⟩ ⟨fun _=>rfl,rfl⟩ x C _);rintro v H ⟨rfl,_⟩;dsimp only[aC];refine jG ?_;all_goals refine qq ?_
  rfl)
def bI(k:Int)(i:Nat):Bool:=(xt k).getD i false
theorem zdT(k:Int):(xt k).map AV.bool=[.bool (bI k 0),.bool (bI k 1),.bool (bI k 2),.bool (bI k 3),.bool (bI k 4),.bool (bI k 5),.bool (bI k 6),.bool (bI k 7)]:=by
 have h:∃a b c d e f g h,xt k=[a,b,c,d,e,f,g,h]:=by
  unfold xt;repeat' split
  all_goals exact⟨_,_,_,_,_,_,_,_,rfl⟩
 obtain⟨a,b,c,d,e,f,g,h,m⟩:=h;simp only[bI,m];rfl
def sk(x:St):Bool:=
 lE x.am&&oD x.name (bI x.am 0)&&oD x.to (bI x.am 1)&&sh x.a8 (bI x.am 3)&&sh x.value (bI x.am 4) &&
 !decide (x.n<0) && !decide (1000000<x.n)&&(bI x.am 2||decide (x.n=0))&&(bI x.am 5 || !decide ((0:Int)<x.args.length))&&(bI x.am 6 || !decide ((0:Int)<x.bl.length))&&(bI x.am 7 || !decide ((0:Int)<x.bA.length))&&eB x.args
def By(x:St):Bool:=decide (x.n<0)||decide (1000000<x.n)||(!bI x.am 2 && !decide (x.n=0))||(!bI x.am 5&&decide ((0:Int)<x.args.length))||(!bI x.am 6&&decide ((0:Int)<x.bl.length))||(!bI x.am 7&&decide ((0:Int)<x.bA.length))
noncomputable def RT:En:=⟨158,false,co (fun _=>True) (fun n:Int=>[.int .i64 n]) yQ⟩
def zdU:dI prog ρ RT:=dT fun x _=>zdM ρ x
def Bz(x:qA×Bool):qu:=[.aj x.1,.bool x.2]
def zdV(x y:qA×Bool)(h:Bz x=Bz y):x=y:=by
 simp only[Bz,eJ,AV.aj.injEq,AV.bool.injEq,aW]at h;exact ub h.1 h.2
noncomputable def RU:En:=⟨159,false,co (fun x=>x.1.length<2^60) Bz fun x=>.bool (oD x.1 x.2)⟩
def zdW:dI prog ρ RU:=dT fun x hx=>zdK ρ x.1 x.2 hx
def BA(x:Ex×Bool):qu:=[.agg x.1.cells,.bool x.2]
def zdX(x y:Ex×Bool)(h:BA x=BA y):x=y:=by
 simp only[BA,eJ,AV.agg.injEq,AV.bool.injEq,aW]at h;exact ub (Ex.inj h.1) h.2
noncomputable def RV:En:=⟨160,false,co (fun x=>x.1.sz<2^60) BA fun x=>.bool (sh x.1 x.2)⟩
def zdY:dI prog ρ RV:=dT fun x hx=>zdS ρ x.1 x.2 hx
noncomputable def RW:En:=⟨121,false,co (fun l=>cP l<2^60) (fun l:qx=>[cH l]) fun l=>.bool (l.all db)⟩
def zdZ:dI prog ρ RW:=dT fun x hx=>zdJ ρ x hx
def zea(x y:qx)(h:([cH x]:qu)=[cH y]):x=y:=by
 simp only[eJ,AV.az.injEq,aW]at h;exact wW h
noncomputable def tg:qC:=[Bv,Bx,RT,RU,RV,RW]
def zeb:gT prog ρ tg:=⟨RN ρ,RO ρ,zdU ρ,zdW ρ,zdY ρ,zdZ ρ,trivial⟩
def zec:bI 1 0=true/\bI 1 1=false/\bI 1 2=false/\bI 1 3=false/\bI 1 4=true/\bI 1 5=false/\bI 1 6=false/\bI 1 7=false/\lE 1=true:=xu
def zed:bI 2 0=true/\bI 2 1=false/\bI 2 2=false/\bI 2 3=true/\bI 2 4=true/\bI 2 5=false/\bI 2 6=false/\bI 2 7=false/\lE 2=true:=xu
def zef:bI 3 0=false/\bI 3 1=false/\bI 3 2=false/\bI 3 3=false/\bI 3 4=true/\bI 3 5=false/\bI 3 6=true/\bI 3 7=true/\lE 3=true:=xu
def zeg:bI 4 0=false/\bI 4 1=false/\bI 4 2=false/\bI 4 3=false/\bI 4 4=true/\bI 4 5=false/\bI 4 6=true/\bI 4 7=false/\lE 4=true:=xu
def zeh:bI 5 0=false/\bI 5 1=false/\bI 5 2=false/\bI 5 3=false/\bI 5 4=true/\bI 5 5=false/\bI 5 6=false/\bI 5 7=false/\lE 5=true:=xu
def zei:bI 6 0=true/\bI 6 1=true/\bI 6 2=false/\bI 6 3=false/\bI 6 4=false/\bI 6 5=true/\bI 6 6=false/\bI 6 7=false/\lE 6=true:=xu
def zej:bI 7 0=false/\bI 7 1=false/\bI 7 2=true/\bI 7 3=false/\bI 7 4=false/\bI 7 5=false/\bI 7 6=false/\bI 7 7=false/\lE 7=true:=xu
set_option maxRecDepth 100000 in
def zek:Br (au pls tg) 0 (fun(_:Unit) _=>True) 124 [] fun x _ s=>(sk x,s):=by
 intro x d s H hz _ _;have hw:zd0 (au pls tg) 124:=ei (fun _=>rfl) rfl;have kf:∀k H,aR prog (au pls tg) 158 [.int .i64 k] H fun v H'=>v=.a6 [.agg [.bool (bI k 0),.bool (bI k 1),.bool (bI k 2),.bool (bI k 3),.bool (bI k 4),.bool (bI k 5),.bool (bI k 6),.bool (bI k 7)],.bool (lE k)]/\H'=H:=fun k H=>by
  have:=cV (P:=prog) (pls:=pls) (l:=tg) (enc:=fun n:Int=>[.int .i64 n]) (ok:=fun _=>True) (out:=yQ) I9 (g:=158) (x:=k) rfl trivial (H:=H);unfold yQ at this;rw[zdT]at this;exact this
 have km:∀(s:qA) (w:Bool),s.length<2^60->∀H,aR prog (au pls tg) 159 [.aj s,.bool w] H fun v H'=>v=.bool (oD s w)/\H'=H:=fun s w h H=>cV (enc:=Bz) (out:=fun x=>.bool (oD x.1 x.2)) zdV (x:=(s,w)) rfl h;have kx:∀(y:Ex) (w:Bool),y.sz<2^60->∀H,aR prog (au pls tg) 160 [.agg y.cells,.bool w] H fun v H'=>v=.bool (sh y w)/\H'=H:=fun y w h H=>cV (enc:=BA) (out:=fun x=>.bool (sh x.1 x.2)) zdX (x:=(y,w)) rfl h;have hsz:=x.aV;have hlen:=mY x.args;have hx0:∀a b,Ab.extract (.a6 [a,b]) 0=some a:=fun _ _=>rfl;have hx1:∀a b,Ab.extract (.a6 [a,b]) 1=some b:=fun _ _=>rfl;refine bp (M:=111) (rs:=[.tmp 4]) (hw.call _) hw.aG hw.aB func124 rfl rfl RQ.2 rfl ?_;dsimp only[RQ,bm,Nat.reduceAdd];repeat' (first
  |(apply aj ?_;clear hK K)|apply aV ?_|(apply eu ?_;first|refine bK (kf _ _) ?_|refine bK (km _ _ ac _) ?_|refine bK (kx _ _ ac _) ?_)|(apply cL ?_ ?_<;>(intro hg hgp;try(cases hg;done)))|(apply am fun K hK=>?_)|fail)
 all_goals (first|(refine bz (t:=true) (h1:=fun _ _=>?_) (h2:=fun hzz _=>?_)<;>try(cases hzz;done))|skip)
 all_goals
  repeat' (first
   |(apply aj ?_;clear hK K)|apply aV ?_|(apply am fun K hK=>?_)|fail)
 all_goals (first|(refine⟨aB,_,aO,?_⟩;(try simp only[aA]);refine⟨by rw[sk];(try simp only[iK]at *);simp only[ *,kT,hT,],(((jA _ _).alloc _).alloc _).set (.inl (by(try simp only[aU]);omega)) _,trivial⟩;done)|skip)
 have U:FrB 0 H (((H.alloc (.cells x.cells 0 true)).alloc (.cells [.bool false,.bool false,.bool false,.bool false,.bool false,.bool false,.bool false,.bool false] 0 true)).set (H.next+1) (.cells [.bool (bI x.am 0),.bool (bI x.am 1),.bool (bI x.am 2),.bool (bI x.am 3),.bool (bI x.am 4),.bool (bI x.am 5),.bool (bI x.am 6),.bool (bI x.am 7)] 0 true)):=(((jA _ _).alloc _).alloc _).set (.inl ac) _;refine zbd [2,4,5,48] fun E' Z=>?_;(try simp only[bC,aZ,aW,aG,aY,Nat.reduceBEq, *]at Z);generalize Y:Hp.set _ (H.next+1) _=m at U⊢;have gb:m.get H.next=some (.cells x.cells 0 true):=by rw[<-Y,aM,af ac,aD,af bb,aD,ai rfl]
 have gf:m.get (H.next+1)=some (.cells [.bool (bI x.am 0),.bool (bI x.am 1),.bool (bI x.am 2),.bool (bI x.am 3),.bool (bI x.am 4),.bool (bI x.am 5),.bool (bI x.am 6),.bool (bI x.am 7)] 0 true):=JK;have nb:H.next+2<=m.next:=by rw[<-Y];exact ay _
 clear Y;refine bz (h1:=fun hb hbp=>?_) (h2:=fun hb hbp=>?_)
 .refine Ce ?_;all_goals refine qq ?_
  refine⟨by rw[sk];simp_all,U,trivial⟩
 refine bS.skip ?_;dsimp only[lP,pR];refine cW ?_;first
 |refine am fun K V=>?_
 |(simp only[bH,bw,bM,bJ,Nat.blt,Nat.ble];refine am fun K V=>?_)
 |(refine cW ?_;refine am fun K V=>?_)
 have hK:∀C z,(C.at 2=.ptr H.next 0/\C.at 4=.bool false/\C.at 99=.bool (By x)/\z=m)->K C z:=by
  rintro C z ⟨k2,k4,k99,rfl⟩;apply V;clear V K;dsimp only[lP,pR];have hgood:(lE x.am&&oD x.name (bI x.am 0)&&oD x.to (bI x.am 1)&&sh x.a8 (bI x.am 3)&&sh x.value (bI x.am 4))=true:=bb;have j:sk x=(!By x&&eB x.args):=by
   have e:sk x=((lE x.am&&oD x.name (bI x.am 0)&&oD x.to (bI x.am 1)&&sh x.a8 (bI x.am 3)&&sh x.value (bI x.am 4))&&(!By x&&eB x.args)):=by
    simp only[sk,By,Bool.not_or,Bool.not_and,Bool.not_not,AK]
   simp_all
  refine tz (fun hb hbp=>?_) (fun hb hbp=>?_)
  .all_goals refine qq ?_
   simp_all
  refine cl [2,4,101,102] [] 103 x.args.length (fun i E z=>eB x.args=eB (x.args.drop i)/\FrB 0 H z) eE ⟨aw,U⟩ ?_;rintro i E H3 hi Z hrH hnH hsI ⟨hJ,O⟩;(try simp only[bC,aZ,aW,aG,aY,Nat.reduceBEq, *]at Z);(try simp only[aZ, *]at hrH);(try simp only[aU,bq,ce,bR,Nat.reduceAdd]at hnH);repeat' (first
   |(apply aj ?_;clear hK K)|apply aV ?_|(apply bz ?_ ?_<;>(intro hb hbp;try(cases hb;done)))|(apply am fun K hK=>?_)|fail)
  .have J:i<x.args.length:=by simpa using hb
   have hgx:x.args[i]?=some x.args[i]:=bj J;have hsm:=n1 (dm J);have hdr:eB (x.args.drop i)=(eW x.args[i]&&eB (x.args.drop (i+1))):=og;refine cY fun K hK=>?_;refine qc ?_;refine aF ?_ (JW (fun _=>rfl) (fun _=>rfl) ⟨fun _=>rfl,rfl⟩ ⟨fun _=>rfl,rfl⟩ x.args[i] ac _);rintro v H4 ⟨rfl,I⟩;dsimp only[aC];have hf5:FrB 0 H H4:=O.trans ((((jA _ _).alloc _).set (.inl (ay _)) _).trans I);have n4:=I.next
   simp only[bq,aU]at n4;refine tz (fun hb hbp=>?_) (fun hb hbp=>?_);all_goals (first|(refine⟨aB,_,aO,?_⟩;(try simp only[aA]);refine⟨by rw[j,hJ,hdr];(try simp only[iK]at *);simp only[ *,kT,ll,],hf5,trivial⟩;done)|skip)
   refine⟨ac,a0,a0,ca,AY,?_⟩;simp_all
  .all_goals refine qq ?_
   refine⟨by rw[j,hJ,show i=x.args.length by simp at hb;omega,iJ];(try simp only[uj]at *);simp only[eB, *,hT,ll,],O,trivial⟩
 clear V;repeat' (first
  |(apply aj ?_;clear hK K)|apply aV ?_|(apply cL ?_ ?_<;>(intro hg hgp;try(cases hg;done)))|fail)
 all_goals
  refine⟨eE,eE,?_,rfl⟩;rw[By];(try simp only[iK]at *);simp only[aG,Nat.reduceBEq, *,mp,mW,nU,uk,kT,p9,]
end
section
theorem rp(n:Nat):(!decide ((0:Int)<n))=decide ((n:Int)=0):=by
 cases n with
 |zero=>rfl
 |succ n=>simp;omega
def zel(n:Int):(!decide (n<0) && !decide (1000000<n)&&decide (n=0))=decide (n=0):=by
 by_cases h:n=0
 .subst h;rfl
 .simp[h]
def zem(n:Int):(!decide (n<0))=decide (0<=n):=by
 by_cases h:n<0
 .simp[h]
 .simp[h];omega
def zen(n:Int):(!decide (1000000<n))=decide (n<=1000000):=by
 by_cases h:1000000<n
 .simp[h]
 .simp[h];omega
def zeo(x:St):sk x=je x:=by
 have z:x.am=1\/x.am=2\/x.am=3\/x.am=4\/x.am=5\/x.am=6\/x.am=7\/lE x.am=false:=by
  simp only[lE,Bu,mU];omega
 rcases z with z|z|z|z|z|z|z|z
 case inr.inr.inr.inr.inr.inr.inr=>
  have h:mD x=false:=by
   simp only[lE,Bu,mU]at z;unfold mD;rw[af ac,af ac,af ac,af ac,af ac,af ac,af ac]
  rw[sk,je,z,h];simp
 all_goals
  have hr:=zel x.n;simp only[sk,je,mD,z,zec,zed,zef,zeg,zeh,zei,zej,rc,rb,oD,sh,iY,ui,ft,fG,Int.reduceEq,p9,mp,nU,rp,dM];first
  |(rw[zem,zen];ac_rfl)
  |(rw[<-hr];ac_rfl)
mutual
theorem zep:∀(x:St) (d:Int),mw (fun x _ (s:Unit)=>(sk x,s)) x d ()=(mE x,())
 | .mk k Z J n a v V M O,d=>by
   rw[mw,mE,zeo];cases h:je (.mk k Z J n a v V M O)with
   |false=>simp
   |true=>
    simp only[Fy M,ja];cases j:fx M with
    |false=>simp
    |true=>simp only[Fy O,ja]
theorem Fy:∀(l:qD) (d:Int),fw (fun x _ (s:Unit)=>(sk x,s)) l d ()=(fx l,())
 |[],_=>rfl
 |x::l,d=>by
  rw[fw,fx,zep x];cases h:mE x with
  |false=>simp
  |true=>simp only[Fy l,ja]
end
def tyP4d.tyF:=ad @dQ (ad @cr (ad @cK (ad @fW (ad @gh (ad @eL (ad @et (ad @dV (ad @dR (ad @dD (ad @jb (ad @jx (@eh))))))))))))
open tyP4d
noncomputable def RX:{c:SC // aE 55 (f73.body.getD .skip)=c}:=by
 refine⟨?_,?_⟩;rotate_left
 .simp only[f73,bN,aE,bH,bw,bM,bJ,Nat.blt,Nat.ble];rfl
def zeq(f:Fu)(b:qA->Bool):(fnNames f).all b=(b f.name&&f.params.all b&&f.ak.all b):=by
 rw[fnNames,xo,xo,rS,oY,hT]
set_option maxRecDepth 100000 in
theorem zer(p:Pr)(hz:p.sz<2^36):bX prog ρ 73 [.agg p.cells] (.bool (ib p)):=fB fit (pls:=pls) (zeb ρ) (.cons (.agg p.pure) .nil) (.bool _) (by
 have hw:zd0 (au pls tg) 73:=ei (fun _=>rfl) rfl;have kn:∀s:qA,s.length<2^60->∀H,aR prog (au pls tg) 120 [.aj s] H fun v H'=>v=.bool (db s)/\H'=H:=fun s h1 H=>cV (enc:=oq) (out:=fun x=>.bool (db x)) wZ (x:=s) rfl h1;have ks:∀l:qx,cP l<2^60->∀H,aR prog (au pls tg) 121 [cH l] H fun v H'=>v=.bool (l.all db)/\H'=H:=fun l h1 H=>cV (enc:=fun l:qx=>[cH l]) (out:=fun l=>.bool (l.all db)) zea (x:=l) rfl h1;have hpz:p.sz=1+eA p.aa+dO p.funcs:=rfl;have hla:=m1 p.aa;have hlf:=m0 p.funcs;refine bp (M:=55) (rs:=[.tmp 2]) (hw.call _) hw.aG hw.aB func73 rfl rfl RX.2 rfl ?_;dsimp only[RX,bm,Nat.reduceAdd];refine gW ?_;refine cl [1,8,9] [0] 10 p.aa.length (fun i E H=>p.aa.all (fun a=>db a.name)=(p.aa.drop i).all (fun a=>db a.name)) eE aw ?_;rintro i E H2 hi Y j V hsI U;(try simp only[bC,aZ,aW,aG,aY,Nat.reduceBEq, *]at Y);(try simp only[bC,aZ,aW,aG,aY, *]at j);(try simp only[aU,ce,bR]at V);have hB0:(0 == H2.next)=false:=ak ac;have hC0:(H2.next == 0)=false:=ak ac;repeat' (first
  |(apply aj ?_;clear hK K)|apply aV ?_|(apply bz ?_ ?_<;>(intro hb hbp;try(cases hb;done)))|(apply am fun K hK=>?_)|fail)
 .have J:i<p.aa.length:=by simpa using hb
  have hgx:p.aa[i]?=some p.aa[i]:=bj J;have hsm:=Jc (dm J);have Z:(p.aa.drop i).all (fun a=>db a.name)=(db p.aa[i].name&&(p.aa.drop (i+1)).all (fun a=>db a.name)):=xc;repeat' (first
   |(apply aj ?_;clear hK K)|apply aV ?_|(apply eu ?_;first|refine bK (kn _ ac _) ?_)|(apply bz ?_ ?_<;>(intro hb hbp;try(cases hb;done)))|(apply am fun K hK=>?_)|fail)
  all_goals (first|(refine⟨aB,_,aO,?_⟩;(try simp only[aA]);rw[ib,U,Z];(try simp only[sF]at *);simp only[*,mB,];done)|skip)
  refine⟨ac,a0,a0,ca,xd,?_⟩;rw[U,Z];(try simp only[uj]at *);simp only[*,ja,]
 .have O:i=p.aa.length:=by simp at hb;omega
  rw[O,iJ]at U;have m:p.aa.all (fun a=>db a.name)=true:=U;clear U O hsI hi;refine cl [20,21] [0] 22 p.funcs.length (fun i E H=>p.funcs.all ku=(p.funcs.drop i).all ku) eE aw ?_;rintro i E H3 hi Y j V hsI U;(try simp only[bC,aZ,aW,aG,aY,Nat.reduceBEq, *]at Y);(try simp only[bC,aZ,aW, *]at j);(try simp only[aU,bq,ce,bR,Nat.reduceAdd]at V);have hB0:(0 == H3.next)=false:=ak ac;have hC0:(H3.next == 0)=false:=ak ac;repeat' (first
   |(apply aj ?_;clear hK K)|apply aV ?_|(apply bz ?_ ?_<;>(intro hb hbp;try(cases hb;done)))|(apply am fun K hK=>?_)|fail)
  .have J:i<p.funcs.length:=by simpa using hb
   have hgx:p.funcs[i]?=some p.funcs[i]:=bj J;have hsm:=oc (dm J);have hsz:p.funcs[i].sz=1+p.funcs[i].name.length+cP p.funcs[i].params+cP p.funcs[i].ak+bi p.funcs[i].body+p.funcs[i].value.sz:=rfl;have Z:(p.funcs.drop i).all ku=(ku p.funcs[i]&&(p.funcs.drop (i+1)).all ku):=xc;have C:ku p.funcs[i]=(db p.funcs[i].name&&p.funcs[i].params.all db&&p.funcs[i].ak.all db&&fx p.funcs[i].body&&eW p.funcs[i].value):=by rw[ku,zeq]
   repeat' (first
    |(apply aj ?_;clear hK K)|apply aV ?_|(apply eu ?_;first|refine bK (kn _ ac _) ?_|refine bK (ks _ ac _) ?_)|(apply cL ?_ ?_<;>(intro hg hgp;try(cases hg;done)))|(apply bz ?_ ?_<;>(intro hb hbp;try(cases hb;done)))|(apply am fun K hK=>?_)|fail)
   .refine qc ?_;refine aF ?_ (JW (fun _=>rfl) (fun _=>rfl) ⟨fun _=>rfl,rfl⟩ ⟨fun _=>rfl,rfl⟩ p.funcs[i].value ac _);rintro v H4 ⟨rfl,z⟩;have hn4:=z.next
    simp only[bq,aU]at hn4;have g4:H4.get H3.next=some (.cells p.funcs[i].cells 0 true):=by rw[z.get _ (cZ _) iX,aM,ai rfl]
    have g40:H4.get 0=some (.cells p.cells 0 true):=by rw[z.get _ (cZ _) iX,aM,af ac,aD,af ac];exact j
    dsimp only[aC];repeat' (first
     |(apply aj ?_;clear hK K)|apply aV ?_|(apply cL ?_ ?_<;>(intro hg hgp;try(cases hg;done)))|(apply bz ?_ ?_<;>(intro hb hbp;try(cases hb;done)))|(apply am fun K hK=>?_)|fail)
    .refine qc ?_;refine aF ?_ (yN (ei (fun _=>rfl) rfl) (I:=fun(_:Unit) _=>True) (fun _ _ _ _ _=>trivial) zek (bi p.funcs[i].body+1) p.funcs[i].body ac 0 () H4 ac (cZ _) trivial);rintro v H5 ⟨rfl,hf5,_⟩;have hn5:=hf5.next
     have g50:H5.get 0=some (.cells p.cells 0 true):=by rw[hf5.get _ (cZ _) ac];exact g40
     rw[Fy];dsimp only[aC];repeat' (first
      |(apply aj ?_;clear hK K)|apply aV ?_|(apply cL ?_ ?_<;>(intro hg hgp;try(cases hg;done)))|(apply bz ?_ ?_<;>(intro hb hbp;try(cases hb;done)))|(apply am fun K hK=>?_)|fail)
     all_goals (first|(refine⟨aB,_,aO,?_⟩;(try simp only[aA]);rw[ib,m,U,Z,C];(try simp only[iK]at *);simp only[ *,kT,hT,];done)|skip)
     refine⟨ac,a0,a0,ca,oh,?_⟩;rw[U,Z,C];(try simp only[uj]at *);simp only[ *,p9,]
    all_goals skip
    all_goals (first|(refine⟨aB,_,aO,?_⟩;(try simp only[aA]);rw[ib,m,U,Z,C];(try simp only[iK]at *);simp only[ *,kT,p9,];done)|skip)
   all_goals skip
   all_goals (first|(refine⟨aB,_,aO,?_⟩;(try simp only[aA]);rw[ib,m,U,Z,C];(try simp only[iK]at *);simp only[ *,kT,hT,];done)|skip)
  .all_goals refine qq ?_
   have O:i=p.funcs.length:=uh;rw[O,iJ]at U;have hJ2:p.funcs.all ku=true:=U;rw[ib,m,hJ2];rfl)
end
section
def tyP4h.tyF:=ad @fW (ad @gh (@eL))
open tyP4h
noncomputable def RY:{c:SC // aE 16 (f44.body.getD .skip)=c}:=by
 refine⟨?_,?_⟩;rotate_left
 .simp only[f44,bN,aE,bH,bw,bM,bJ,Nat.blt,Nat.ble];rfl
noncomputable def RZ:En:=⟨72,false,co (fun p=>p.sz<2^36) eV fun p=>.bool (lQ p)⟩
def zes(p:Pr)(C:p.sz<2^36):bX prog ρ 72 (eV p) (.bool (lQ p)):=fB fit (pls:=pls) (l:=[]) trivial (.cons (.agg p.pure) .nil) (.bool _) (zdp ⟨iB _,iB _,iB _,iB _⟩ (iB _) (iB _) (iB _) p ac)
def zet:dI prog ρ RZ:=dT fun p hp=>zes ρ p hp
noncomputable def R0:En:=⟨73,false,co (fun p=>p.sz<2^36) eV fun p=>.bool (ib p)⟩
def zeu:dI prog ρ R0:=dT fun p hp=>zer ρ p hp
noncomputable def Sa:En:=⟨74,false,co (fun p=>p.sz<2^36) eV fun p=>.bool (rh p)⟩
def zev:dI prog ρ Sa:=dT fun p hp=>zcC ρ p hp
noncomputable def Sb:En:=⟨75,false,co (fun p=>p.sz<2^36) eV fun p=>.int .i64 (xj p)⟩
def zew:dI prog ρ Sb:=dT fun p hp=>zdo ρ p hp
noncomputable def yR:qC:=[RZ,R0,Sa,Sb]
def zex:gT prog ρ yR:=⟨zet ρ,zeu ρ,zev ρ,zew ρ,trivial⟩
def zey(p:Pr)(C:p.sz<2^36):bX prog ρ 44 (eV p) (.int .i64 (eN p)):=fB fit (pls:=pls) (zex ρ) (.cons (.agg p.pure) .nil) (.int _ _) (by
 have Z:zd0 (au pls yR) 44:=ei (fun _=>rfl) rfl;have Y:∀H,aR prog (au pls yR) 72 [.agg p.cells] H fun v H'=>v=.bool (lQ p)/\H'=H:=fun H=>cV (enc:=eV) (out:=fun p=>.bool (lQ p)) pd (x:=p) rfl C;have V:∀H,aR prog (au pls yR) 73 [.agg p.cells] H fun v H'=>v=.bool (ib p)/\H'=H:=fun H=>cV (enc:=eV) (out:=fun p=>.bool (ib p)) pd (x:=p) rfl C;have U:∀H,aR prog (au pls yR) 74 [.agg p.cells] H fun v H'=>v=.bool (rh p)/\H'=H:=fun H=>cV (enc:=eV) (out:=fun p=>.bool (rh p)) pd (x:=p) rfl C;have O:∀H,aR prog (au pls yR) 75 [.agg p.cells] H fun v H'=>v=.int .i64 (xj p)/\H'=H:=fun H=>cV (enc:=eV) (out:=fun p=>.int .i64 (xj p)) pd (x:=p) rfl C;rw[eV,<-zcs];refine bp (M:=16) (rs:=[.tmp 2]) (Z.call _) Z.aG Z.aB func44 rfl rfl RY.2 rfl ?_;dsimp only[RY,bm,Nat.reduceAdd];repeat' (first
  |(apply aj ?_;clear hK K)|apply aV ?_|(apply eu ?_;first|refine bK (Y _) ?_|refine bK (V _) ?_|refine bK (U _) ?_|refine bK (O _) ?_)|(apply bz ?_ ?_<;>(intro hb hbp;try(cases hb;done)))|(apply am fun K hK=>?_)|fail)
 all_goals
  all_goals refine qq ?_
  rw[Jn];(try simp only[iK]at *);simp only[zP,dM, *,ft,fG])
end
end Go.Proofs.YtpbcimfiofmoeaaGreat
