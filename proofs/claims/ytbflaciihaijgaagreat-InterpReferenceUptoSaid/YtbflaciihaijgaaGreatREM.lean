/- Lemmas for the last file. -/
import Derived.Test.YtbflaciihaijgaaGreatREL
set_option linter.all false
set_option maxHeartbeats 32000000
namespace Go.Ab
set_option maxRecDepth 20000
open Go
variable{qb:Prop}
def vE(h:qb:=by refine⟨rfl,rfl,rfl,rfl,rfl,rfl,rfl,rfl,rfl⟩):=h
def Nk(h:qb:=by rw[ru];(try simp only[Bool.not_eq_true',Bool.not_eq_false']at *);simp only[*,decide_true,decide_false,Bool.false_or,Bool.or_false,Bool.true_or,Bool.or_true,Bool.false_and,Bool.and_false,Bool.true_and,Bool.and_true,Bool.not_true,Bool.not_false,if_true,if_false,Int.reduceEq]):=h
end Go.Ab
namespace Go.Proofs.YtbflaciihaijgaaGreat
set_option maxRecDepth 20000
open Go Go.Ab Proofs.Tryz
variable(ρ:Nat->Int)
section
def tyP4b.tyF:=ac @dF (ac @cI (ac @IY (ac @cY (ac @dR (ac @dX (ac @dy (ac @eD (@Jl))))))))
open tyP4b
noncomputable def Nl:{c:SC // aG 111 (f121.body.getD .skip)=c}:=by
 refine⟨?_,?_⟩;rotate_left
 .simp only[f121,bE,aG,bz,bq,bF,bB,Nat.blt,Nat.ble];rfl
mutual
theorem Nm:∀(x:Ex) (d:Int),lF (fun x _=>ml x) x d=eB x
 | .mk k n s o M,d=>by rw[lF,eB,Nn M,Bool.and_comm]
theorem Nn:∀(l:qz) (d:Int),iK (fun x _=>ml x) l d=eh l
 |[],_=>rfl
 |x::l,d=>by rw[iK,eh,Nm x,Nn l]
end
def Gf{l:qu}(U:∀I,dD l 117 I=zp.sp I)(M:∀I,dD l 163 I=zr.sp I)(J:(∀I,dD l 120 I=none)/\ir l 120=false)(F:(∀I,dD l 119 I=none)/\ir l 119=false)
 (x:Ex) (Z:x.sz<2^60) (H:Hp):aU prog (aF pls l) 119 [.agg x.cells,.int .i64 0,.bl 120 []] H fun v H'=>v=.bool (eB x)/\FrB 0 H H':=by
 have O:tV 0 fun _:Hp=>True:=fun _ _ _ _=>trivial;refine a4 ?_ (xe (dZ F.1 F.2) O (Zp U M J O) (x.sz+1) x (dq _) 0 H Z (dx _) trivial);rintro v H' ⟨rfl,m,_⟩;exact⟨by rw[Nm],m⟩
def pr(x:Ex)(w:Bool):Bool:=bif w then eB x else zeroE x
noncomputable def Gg:qu:=[zp,zr,Nj]
def Zq:eU prog ρ Gg:=⟨Nh ρ,Ni ρ,Zo ρ,trivial⟩
theorem Zr(x:Ex)(w:Bool)(O:x.sz<2^60):bJ prog ρ 166 [.agg x.cells,.bool w] (.bool (pr x w)):=eG fit (pls:=pls) (Zq ρ) (.cons (.agg x.pure) (.cons (.bool _) .nil)) (.bool _) (by
 have J:zc7 (aF pls Gg) 166:=dZ (fun _=>rfl) rfl;have Z:∀y:Ex,∀H,aU prog (aF pls Gg) 196 [.agg y.cells] H fun v H'=>v=.bool (zeroE y)/\H'=H:=fun y H=>cp (enc:=i4) (out:=fun x=>.bool (zeroE x)) ph (x:=y) rfl trivial;cases w
 .refine a5 (M:=10) (rs:=[.tmp 4]) (J.call _) J.ao J.am func166 rfl rfl CD.2 rfl ?_;dsimp only[CD,a3,Nat.reduceAdd];repeat' (first
   |(apply ai ?_;clear hK K)|apply Rx.o ?_|(apply dJ ?_;first|refine aY (Z _ _) ?_)|(apply aE (fun z V=>?_) (fun z V=>?_)<;>try(cases z;done))|apply ae ?_|(apply ah fun K hK=>?_)|apply ak ?_|apply am ?_)
  all_goals refine qq ?_
  rfl
 .refine a5 (M:=10) (rs:=[.tmp 4]) (J.call _) J.ao J.am func166 rfl rfl CD.2 rfl ?_;dsimp only[CD,a3,Nat.reduceAdd];repeat' (first
   |(apply ai ?_;clear hK K)|apply Rx.o ?_|(apply aE (fun z V=>?_) (fun z V=>?_)<;>try(cases z;done))|apply ae ?_|(apply ah fun K hK=>?_)|apply ak ?_|apply am ?_)
  refine qa ?_;refine a4 ?_ (Gf (fun _=>rfl) (fun _=>rfl) ⟨fun _=>rfl,rfl⟩ ⟨fun _=>rfl,rfl⟩ x O _);rintro v H ⟨rfl,_⟩;dsimp only[a0];repeat' (first
   |(apply ai ?_;clear hK K)|apply Rx.o ?_|(apply aE (fun z V=>?_) (fun z V=>?_)<;>try(cases z;done))|apply ae ?_|(apply ah fun K hK=>?_)|apply ak ?_|apply am ?_)
  all_goals refine qq ?_
  rfl)
def bI(k:Int)(i:Nat):Bool:=(vD k).getD i false
theorem Zs(k:Int):(vD k).map AV.bool=[.bool (bI k 0),.bool (bI k 1),.bool (bI k 2),.bool (bI k 3),.bool (bI k 4),.bool (bI k 5),.bool (bI k 6),.bool (bI k 7)]:=by
 have h:∃a b c d e f g h,vD k=[a,b,c,d,e,f,g,h]:=by
  unfold vD;repeat' split
  all_goals exact⟨_,_,_,_,_,_,_,_,rfl⟩
 obtain⟨a,b,c,d,e,f,g,h,o⟩:=h;simp only[bI,o];rfl
def ru(x:St):Bool:=
 j7 x.ag&&mw x.name (bI x.ag 0)&&mw x.to (bI x.ag 1)&&pr x.aL (bI x.ag 3)&&pr x.value (bI x.ag 4) &&
 !decide (x.n<0) && !decide (1000000<x.n)&&(bI x.ag 2||decide (x.n=0))&&(bI x.ag 5 || !decide ((0:Int)<x.args.length))&&(bI x.ag 6 || !decide ((0:Int)<x.a1.length))&&(bI x.ag 7 || !decide ((0:Int)<x.bh.length))&&eh x.args
def zs(x:St):Bool:=decide (x.n<0)||decide (1000000<x.n)||(!bI x.ag 2 && !decide (x.n=0))||(!bI x.ag 5&&decide ((0:Int)<x.args.length))||(!bI x.ag 6&&decide ((0:Int)<x.a1.length))||(!bI x.ag 7&&decide ((0:Int)<x.bh.length))
noncomputable def No:En:=⟨164,false,bS (fun _=>True) (fun n:Int=>[.int .i64 n]) xh⟩
def Zt:cS prog ρ No:=cZ fun x _=>Zl ρ x
def zt(x:qr×Bool):qm:=[.ae x.1,.bool x.2]
def Zu(x y:qr×Bool)(h:zt x=zt y):x=y:=by
 simp only[zt,ew,AV.ae.injEq,AV.bool.injEq,bb]at h;exact pc h.1 h.2
noncomputable def Np:En:=⟨165,false,bS (fun x=>x.1.length<2^60) zt fun x=>.bool (mw x.1 x.2)⟩
def Zv:cS prog ρ Np:=cZ fun x hx=>Zj ρ x.1 x.2 hx
def zu(x:Ex×Bool):qm:=[.agg x.1.cells,.bool x.2]
def Zw(x y:Ex×Bool)(h:zu x=zu y):x=y:=by
 simp only[zu,ew,AV.agg.injEq,AV.bool.injEq,bb]at h;exact pc (Ex.inj h.1) h.2
noncomputable def Nq:En:=⟨166,false,bS (fun x=>x.1.sz<2^60) zu fun x=>.bool (pr x.1 x.2)⟩
def Zx:cS prog ρ Nq:=cZ fun x hx=>Zr ρ x.1 x.2 hx
noncomputable def Nr:En:=⟨118,false,bS (fun l=>db l<2^60) (fun l:qo=>[cD l]) fun l=>.bool (l.all cX)⟩
def Zy:cS prog ρ Nr:=cZ fun x hx=>Zi ρ x hx
def Zz(x y:qo)(h:([cD x]:qm)=[cD y]):x=y:=by
 simp only[ew,AV.ai.injEq,bb]at h;exact u9 h
noncomputable def rx:qu:=[zp,zr,No,Np,Nq,Nr]
def ZA:eU prog ρ rx:=⟨Nh ρ,Ni ρ,Zt ρ,Zv ρ,Zx ρ,Zy ρ,trivial⟩
def ZB:bI 1 0=true/\bI 1 1=false/\bI 1 2=false/\bI 1 3=false/\bI 1 4=true/\bI 1 5=false/\bI 1 6=false/\bI 1 7=false/\j7 1=true:=vE
def ZC:bI 2 0=true/\bI 2 1=false/\bI 2 2=false/\bI 2 3=true/\bI 2 4=true/\bI 2 5=false/\bI 2 6=false/\bI 2 7=false/\j7 2=true:=vE
def ZD:bI 3 0=false/\bI 3 1=false/\bI 3 2=false/\bI 3 3=false/\bI 3 4=true/\bI 3 5=false/\bI 3 6=true/\bI 3 7=true/\j7 3=true:=vE
def ZE:bI 4 0=false/\bI 4 1=false/\bI 4 2=false/\bI 4 3=false/\bI 4 4=true/\bI 4 5=false/\bI 4 6=true/\bI 4 7=false/\j7 4=true:=vE
def ZF:bI 5 0=false/\bI 5 1=false/\bI 5 2=false/\bI 5 3=false/\bI 5 4=true/\bI 5 5=false/\bI 5 6=false/\bI 5 7=false/\j7 5=true:=vE
def ZG:bI 6 0=true/\bI 6 1=true/\bI 6 2=false/\bI 6 3=false/\bI 6 4=false/\bI 6 5=true/\bI 6 6=false/\bI 6 7=false/\j7 6=true:=vE
def ZH:bI 7 0=false/\bI 7 1=false/\bI 7 2=true/\bI 7 3=false/\bI 7 4=false/\bI 7 5=false/\bI 7 6=false/\bI 7 7=false/\j7 7=true:=vE
set_option maxRecDepth 100000 in
def ZI:zn (aF pls rx) 0 (fun(_:Unit) _=>True) 121 [] fun x _ s=>(ru x,s):=by
 intro x d s H hz _ _;have hw:zc7 (aF pls rx) 121:=dZ (fun _=>rfl) rfl;have kf:∀k H,aU prog (aF pls rx) 164 [.int .i64 k] H fun v H'=>v=.aW [.agg [.bool (bI k 0),.bool (bI k 1),.bool (bI k 2),.bool (bI k 3),.bool (bI k 4),.bool (bI k 5),.bool (bI k 6),.bool (bI k 7)],.bool (j7 k)]/\H'=H:=fun k H=>by
  have:=cp (P:=prog) (pls:=pls) (l:=rx) (enc:=fun n:Int=>[.int .i64 n]) (ok:=fun _=>True) (out:=xh) Fw (g:=164) (x:=k) rfl trivial (H:=H);unfold xh at this;rw[Zs]at this;exact this
 have km:∀(s:qr) (w:Bool),s.length<2^60->∀H,aU prog (aF pls rx) 165 [.ae s,.bool w] H fun v H'=>v=.bool (mw s w)/\H'=H:=fun s w h H=>cp (enc:=zt) (out:=fun x=>.bool (mw x.1 x.2)) Zu (x:=(s,w)) rfl h;have kx:∀(y:Ex) (w:Bool),y.sz<2^60->∀H,aU prog (aF pls rx) 166 [.agg y.cells,.bool w] H fun v H'=>v=.bool (pr y w)/\H'=H:=fun y w h H=>cp (enc:=zu) (out:=fun x=>.bool (pr x.1 x.2)) Zw (x:=(y,w)) rfl h;have hsz:=x.aJ;have hlen:=lH x.args;have hx0:∀a b,Ab.extract (.aW [a,b]) 0=some a:=fun _ _=>rfl;have hx1:∀a b,Ab.extract (.aW [a,b]) 1=some b:=fun _ _=>rfl;refine a5 (M:=111) (rs:=[.tmp 4]) (hw.call _) hw.ao hw.am func121 rfl rfl Nl.2 rfl ?_;dsimp only[Nl,a3,Nat.reduceAdd];repeat' (first
  |(apply ai ?_;clear hK K)|apply Rx.o ?_|apply aN ?_|(apply dJ ?_;first|refine aY (kf _ _) ?_|refine aY (km _ _ aa _) ?_|refine aY (kx _ _ aa _) ?_)|apply cW ?_|(apply aX (fun C Y=>?_) (fun C Y=>?_)<;>try(cases C;done))|apply ae ?_|(apply ah fun K hK=>?_)|apply aj ?_|apply ak ?_|apply am ?_|apply ax ?_)
 all_goals (first|(refine aE (t:=true) (h1:=fun _ _=>?_) (h2:=fun hzz _=>?_)<;>try(cases hzz;done))|skip)
 all_goals
  repeat' (first
   |(apply ai ?_;clear hK K)|apply Rx.o ?_|apply aN ?_|apply cW ?_|(apply aX (fun C Y=>?_) (fun C Y=>?_)<;>try(cases C;done))|apply ae ?_|(apply ah fun K hK=>?_)|apply aj ?_|apply ak ?_|apply am ?_|apply ax ?_)
 all_goals (first|(refine⟨aC,_,aJ,?_⟩;(try simp only[aB]);refine⟨Nk,(((iu _ _).alloc _).alloc _).set (.inl (by(try simp only[br]);omega)) _,trivial⟩;done)|skip)
 have U:FrB 0 H (((H.alloc (.cells x.cells 0 true)).alloc (.cells [.bool false,.bool false,.bool false,.bool false,.bool false,.bool false,.bool false,.bool false] 0 true)).set (H.next+1) (.cells [.bool (bI x.ag 0),.bool (bI x.ag 1),.bool (bI x.ag 2),.bool (bI x.ag 3),.bool (bI x.ag 4),.bool (bI x.ag 5),.bool (bI x.ag 6),.bool (bI x.ag 7)] 0 true)):=(((iu _ _).alloc _).alloc _).set (.inl aa) _;refine X7 [2,4,5,48] fun E' S=>?_;(try simp only[bL,bK,bb,aK,aW,Nat.reduceBEq,Nat.reduceAdd,Nat.reduceLeDiff,tyF, *]at S);generalize J:Hp.set _ (H.next+1) _=Hb at U⊢;have gb:Hb.get H.next=some (.cells x.cells 0 true):=by rw[<-J,aO,ad aa,aP,ad bY,aP,au rfl]
 have gf:Hb.get (H.next+1)=some (.cells [.bool (bI x.ag 0),.bool (bI x.ag 1),.bool (bI x.ag 2),.bool (bI x.ag 3),.bool (bI x.ag 4),.bool (bI x.ag 5),.bool (bI x.ag 6),.bool (bI x.ag 7)] 0 true):=by rw[<-J,aO,au rfl]
 have nb:H.next+2<=Hb.next:=by rw[<-J];exact aT _
 clear J;refine aE (h1:=fun z V=>?_) (h2:=fun z V=>?_)
 .repeat' (first
   |(apply ai ?_;clear hK K)|apply Rx.o ?_|apply aN ?_|apply cW ?_|(apply aX (fun C Y=>?_) (fun C Y=>?_)<;>try(cases C;done))|apply ae ?_|(apply ah fun K hK=>?_)|apply aj ?_|apply ak ?_|apply am ?_|apply ax ?_)
  all_goals refine qq ?_
  refine⟨Nk,U,trivial⟩
 refine bN.skip ?_;dsimp only[lE,nU];refine ae ?_;first
 |refine ah fun K Z=>?_
 |(simp only[bz,bq,bF,bB,Nat.blt,Nat.ble];refine ah fun K Z=>?_)
 |(refine ae ?_;refine ah fun K Z=>?_)
 have hK:∀o A,(o.at 2=.ptr H.next 0/\o.at 4=.bool false/\o.at 99=.bool (zs x)/\A=Hb)->K o A:=by
  rintro o A ⟨k2,kK,k99,rfl⟩;apply Z;clear Z K;dsimp only[lE,nU];have O:(j7 x.ag&&mw x.name (bI x.ag 0)&&mw x.to (bI x.ag 1)&&pr x.aL (bI x.ag 3)&&pr x.value (bI x.ag 4))=true:=by(try simp only[cq]at *);simp only[ *,cr,bw,bH,Int.reduceEq]
  have I:ru x=(!zs x&&eh x.args):=by
   have e:ru x=((j7 x.ag&&mw x.name (bI x.ag 0)&&mw x.to (bI x.ag 1)&&pr x.aL (bI x.ag 3)&&pr x.value (bI x.ag 4))&&(!zs x&&eh x.args)):=by
    simp only[ru,zs,wF,Bool.not_and,Bool.not_not,Bool.and_assoc]
   rw[e,O,iV]
  repeat' (first
   |(apply ai ?_;clear hK K)|apply Rx.o ?_|apply aN ?_|apply cW ?_|(apply aX (fun C Y=>?_) (fun C Y=>?_)<;>try(cases C;done))|(apply aE (fun z V=>?_) (fun z V=>?_)<;>try(cases z;done))|apply ae ?_|(apply ah fun K hK=>?_)|apply aj ?_|apply ak ?_|apply am ?_|apply ax ?_)
  .all_goals refine qq ?_
   refine⟨by rw[I];(try simp only[cq]at *);simp only[ *,cr,bw,bH,Int.reduceEq],U,trivial⟩
  refine dG [2,4,101,102] [] 103 x.args.length (fun i E A=>eh x.args=eh (x.args.drop i)/\FrB 0 H A) eE ⟨aI,U⟩ ?_;rintro i E H3 hi S hrH hnH hsI ⟨hJ,m⟩;(try simp only[bL,bK,bb,aK,aW,Nat.reduceBEq,Nat.reduceAdd,Nat.reduceLeDiff,tyF, *]at S);(try simp only[bL,bK,bb,aK,aW,Nat.reduceBEq,Nat.reduceAdd,Nat.reduceLeDiff,tyF, *]at hrH);(try simp only[br,bG,cR,bR,Nat.reduceAdd]at hnH);repeat' (first
   |(apply ai ?_;clear hK K)|apply Rx.o ?_|apply aN ?_|apply cW ?_|(apply aX (fun C Y=>?_) (fun C Y=>?_)<;>try(cases C;done))|(apply aE (fun z V=>?_) (fun z V=>?_)<;>try(cases z;done))|apply ae ?_|(apply ah fun K hK=>?_)|apply aj ?_|apply ak ?_|apply am ?_|apply ax ?_)
  .have F:i<x.args.length:=by simpa using z
   have hgx:x.args[i]?=some x.args[i]:=bt F;have hsm:=lK (ek F);have hdr:eh (x.args.drop i)=(eB x.args[i]&&eh (x.args.drop (i+1))):=by rw[fR F];rfl
   repeat' (first
    |(apply ai ?_;clear hK K)|apply Rx.o ?_|apply aN ?_|apply cW ?_|(apply aX (fun C Y=>?_) (fun C Y=>?_)<;>try(cases C;done))|(apply aE (fun z V=>?_) (fun z V=>?_)<;>try(cases z;done))|apply ae ?_|(apply ah fun K hK=>?_)|apply aj ?_|apply ak ?_|apply am ?_|apply ax ?_)
   refine qa ?_;refine a4 ?_ (Gf (fun _=>rfl) (fun _=>rfl) ⟨fun _=>rfl,rfl⟩ ⟨fun _=>rfl,rfl⟩ x.args[i] aa _);rintro v H4 ⟨rfl,j⟩;dsimp only[a0];have hf5:FrB 0 H H4:=m.trans ((((iu _ _).alloc _).set (.inl (aT _)) _).trans j);have n4:=j.next
   simp only[bG,br]at n4;repeat' (first
    |(apply ai ?_;clear hK K)|apply Rx.o ?_|apply aN ?_|apply cW ?_|(apply aX (fun C Y=>?_) (fun C Y=>?_)<;>try(cases C;done))|(apply aE (fun z V=>?_) (fun z V=>?_)<;>try(cases z;done))|apply ae ?_|(apply ah fun K hK=>?_)|apply aj ?_|apply ak ?_|apply am ?_|apply ax ?_)
   all_goals (first|(refine⟨aC,_,aJ,?_⟩;(try simp only[aB]);refine⟨by rw[I,hJ,hdr];(try simp only[cq]at *);simp only[ *,cr,bw,bH,Int.reduceEq],hf5,trivial⟩;done)|skip)
   refine⟨aa,bM,bM,dr,E8,?_⟩;exact⟨KK,hf5⟩
  .all_goals refine qq ?_
   refine⟨by rw[I,hJ,show i=x.args.length by simp at z;omega,gy];(try simp only[cq]at *);simp only[eh, *,cr,bw,bH,Int.reduceEq],m,trivial⟩
 clear Z;repeat' (first
  |(apply ai ?_;clear hK K)|apply Rx.o ?_|apply aN ?_|apply cW ?_|(apply aX (fun C Y=>?_) (fun C Y=>?_)<;>try(cases C;done))|apply ae ?_|(apply ah fun K hK=>?_)|apply aj ?_|apply ak ?_|apply am ?_|apply ax ?_)
 all_goals
  refine⟨eE,eE,?_,rfl⟩;rw[zs];(try simp only[cq]at *);simp only[aK,Nat.reduceBEq, *,cr]
end
section
theorem ng(n:Nat):(!decide ((0:Int)<n))=decide ((n:Int)=0):=by
 cases n with
 |zero=>rfl
 |succ n=>simp;omega
def ZJ(n:Int):(!decide (n<0) && !decide (1000000<n)&&decide (n=0))=decide (n=0):=by
 by_cases h:n=0
 .subst h;rfl
 .simp[h]
def ZK(n:Int):(!decide (n<0))=decide (0<=n):=by
 by_cases h:n<0
 .simp[h]
 .simp[h];omega
def ZL(n:Int):(!decide (1000000<n))=decide (n<=1000000):=by
 by_cases h:1000000<n
 .simp[h]
 .simp[h];omega
def ZM(x:St):ru x=iN x:=by
 have o:x.ag=1\/x.ag=2\/x.ag=3\/x.ag=4\/x.ag=5\/x.ag=6\/x.ag=7\/j7 x.ag=false:=by
  simp only[j7,wC,iX];omega
 rcases o with o|o|o|o|o|o|o|o
 case inr.inr.inr.inr.inr.inr.inr=>
  have h:mn x=false:=by
   simp only[j7,wC,iX]at o;unfold mn;rw[ad aa,ad aa,ad aa,ad aa,ad aa,ad aa,ad aa]
  rw[ru,iN,o,h];simp
 all_goals
  have hr:=ZJ x.n;simp only[ru,iN,mn,o,ZB,ZC,ZD,ZE,ZF,ZG,ZH,ou,oq,mw,pr,fF,nS,bw,bH,Int.reduceEq,iV,jl,nP,wd,ng,dg,reduceCtorEq];first
  |(rw[ZK,ZL];ac_rfl)
  |(rw[<-hr];ac_rfl)
mutual
theorem ZN:∀(x:St) (d:Int),jX (fun x _ (s:Unit)=>(ru x,s)) x d ()=(k5 x,())
 | .mk k C S n a v j U V,d=>by
   rw[jX,k5,ZM];cases h:iN (.mk k C S n a v j U V)with
   |false=>simp
   |true=>
    simp only[CE U,iV];cases m:eW U with
    |false=>simp
    |true=>simp only[CE V,iV]
theorem CE:∀(l:qt) (d:Int),eO (fun x _ (s:Unit)=>(ru x,s)) l d ()=(eW l,())
 |[],_=>rfl
 |x::l,d=>by
  rw[eO,eW,ZN x];cases h:k5 x with
  |false=>simp
  |true=>simp only[CE l,iV]
end
def tyP4d.tyF:=ac @dF (ac @cI (ac @cY (ac @fg (ac @fh (ac @eL (ac @dW (ac @dR (ac @dX (ac @dy (ac @ge (ac @iW (@eD))))))))))))
open tyP4d
noncomputable def Ns:{c:SC // aG 55 (f71.body.getD .skip)=c}:=by
 refine⟨?_,?_⟩;rotate_left
 .simp only[f71,bE,aG,bz,bq,bF,bB,Nat.blt,Nat.ble];rfl
def ZO(f:Fu)(b:qr->Bool):(sh f).all b=(b f.name&&f.params.all b&&f.ah.all b):=by
 rw[sh,wa,wa,r4,pY,jl]
set_option maxRecDepth 100000 in
theorem ZP(p:Pr)(hz:p.sz<2^36):bJ prog ρ 71 [.agg p.cells] (.bool (gY p)):=eG fit (pls:=pls) (ZA ρ) (.cons (.agg p.pure) .nil) (.bool _) (by
 have hw:zc7 (aF pls rx) 71:=dZ (fun _=>rfl) rfl;have Cc:∀s:qr,s.length<2^60->∀H,aU prog (aF pls rx) 117 [.ae s] H fun v H'=>v=.bool (cX s)/\H'=H:=fun s h1 H=>cp (enc:=md) (out:=fun x=>.bool (cX x)) vh (x:=s) rfl h1;have ks:∀l:qo,db l<2^60->∀H,aU prog (aF pls rx) 118 [cD l] H fun v H'=>v=.bool (l.all cX)/\H'=H:=fun l h1 H=>cp (enc:=fun l:qo=>[cD l]) (out:=fun l=>.bool (l.all cX)) Zz (x:=l) rfl h1;have hpz:p.sz=1+ez p.af+dY p.funcs:=rfl;have hla:=lJ p.af;have hlf:=lI p.funcs;refine a5 (M:=55) (rs:=[.tmp 2]) (hw.call _) hw.ao hw.am func71 rfl rfl Ns.2 rfl ?_;dsimp only[Ns,a3,Nat.reduceAdd];repeat' (first
  |(apply ai ?_;clear hK K)|apply Rx.o ?_|apply aN ?_|(apply aX (fun C Y=>?_) (fun C Y=>?_)<;>try(cases C;done))|(apply aE (fun z V=>?_) (fun z V=>?_)<;>try(cases z;done))|apply ae ?_|(apply ah fun K hK=>?_)|apply aj ?_|apply ak ?_|apply am ?_|apply ax ?_)
 refine dG [1,8,9] [0] 10 p.af.length (fun i E H=>p.af.all (fun a=>cX a.name)=(p.af.drop i).all (fun a=>cX a.name)) eE aI ?_;rintro i E H2 hi A U o hsI J;(try simp only[bL,bK,bb,aK,aW,Nat.reduceBEq,Nat.reduceAdd,Nat.reduceLeDiff,tyF, *]at A);(try simp only[bL,bK,bb,aK,aW,Nat.reduceBEq,Nat.reduceAdd,Nat.reduceLeDiff,tyF, *]at U);(try simp only[br,bG,cR,bR,Nat.reduceAdd]at o);have hB0:(0 == H2.next)=false:=ay aa;have hC0:(H2.next == 0)=false:=ay aa;repeat' (first
  |(apply ai ?_;clear hK K)|apply Rx.o ?_|apply aN ?_|(apply aX (fun C Y=>?_) (fun C Y=>?_)<;>try(cases C;done))|(apply aE (fun z V=>?_) (fun z V=>?_)<;>try(cases z;done))|apply ae ?_|(apply ah fun K hK=>?_)|apply aj ?_|apply ak ?_|apply am ?_|apply ax ?_)
 .have Z:i<p.af.length:=by simpa using z
  have hgx:p.af[i]?=some p.af[i]:=bt Z;have hsm:=FA (ek Z);have j:(p.af.drop i).all (fun a=>cX a.name)=(cX p.af[i].name&&(p.af.drop (i+1)).all (fun a=>cX a.name)):=zl;repeat' (first
   |(apply ai ?_;clear hK K)|apply Rx.o ?_|apply aN ?_|(apply dJ ?_;first|refine aY (Cc _ aa _) ?_)|(apply aX (fun C Y=>?_) (fun C Y=>?_)<;>try(cases C;done))|(apply aE (fun z V=>?_) (fun z V=>?_)<;>try(cases z;done))|apply ae ?_|(apply ah fun K hK=>?_)|apply aj ?_|apply ak ?_|apply am ?_|apply ax ?_)
  all_goals (first|(refine⟨aC,_,aJ,?_⟩;(try simp only[aB]);rw[gY,J,j];(try simp only[cq]at *);simp only[ *,cr,bw,bH,Int.reduceEq];done)|skip)
  refine⟨aa,bM,bM,dr,vd,?_⟩;rw[J,j];(try simp only[cq]at *);simp only[ *,cr,bw,bH,Int.reduceEq]
 .have S:i=p.af.length:=by simp at z;omega
  rw[S,gy]at J;have O:p.af.all (fun a=>cX a.name)=true:=J;clear J S hsI hi;refine dG [20,21] [0] 22 p.funcs.length (fun i E H=>p.funcs.all kD=(p.funcs.drop i).all kD) eE aI ?_;rintro i E H3 hi A U o hsI J;(try simp only[bL,bK,bb,aK,aW,Nat.reduceBEq,Nat.reduceAdd,Nat.reduceLeDiff,tyF, *]at A);(try simp only[bL,bK,bb,aK,aW,Nat.reduceBEq,Nat.reduceAdd,Nat.reduceLeDiff,tyF, *]at U);(try simp only[br,bG,cR,bR,Nat.reduceAdd]at o);have hB0:(0 == H3.next)=false:=ay aa;have hC0:(H3.next == 0)=false:=ay aa;repeat' (first
   |(apply ai ?_;clear hK K)|apply Rx.o ?_|apply aN ?_|(apply aX (fun C Y=>?_) (fun C Y=>?_)<;>try(cases C;done))|(apply aE (fun z V=>?_) (fun z V=>?_)<;>try(cases z;done))|apply ae ?_|(apply ah fun K hK=>?_)|apply aj ?_|apply ak ?_|apply am ?_|apply ax ?_)
  .have Z:i<p.funcs.length:=by simpa using z
   have hgx:p.funcs[i]?=some p.funcs[i]:=bt Z;have hsm:=nX (ek Z);have hsz:p.funcs[i].sz=1+p.funcs[i].name.length+db p.funcs[i].params+db p.funcs[i].ah+a6 p.funcs[i].body+p.funcs[i].value.sz:=rfl;have j:(p.funcs.drop i).all kD=(kD p.funcs[i]&&(p.funcs.drop (i+1)).all kD):=zl;have F:kD p.funcs[i]=(cX p.funcs[i].name&&p.funcs[i].params.all cX&&p.funcs[i].ah.all cX&&eW p.funcs[i].body&&eB p.funcs[i].value):=by rw[kD,ZO]
   repeat' (first
    |(apply ai ?_;clear hK K)|apply Rx.o ?_|apply aN ?_|(apply dJ ?_;first|refine aY (Cc _ aa _) ?_|refine aY (ks _ aa _) ?_)|(apply aX (fun C Y=>?_) (fun C Y=>?_)<;>try(cases C;done))|(apply aE (fun z V=>?_) (fun z V=>?_)<;>try(cases z;done))|apply ae ?_|(apply ah fun K hK=>?_)|apply aj ?_|apply ak ?_|apply am ?_|apply ax ?_)
   .refine qa ?_;refine a4 ?_ (Gf (fun _=>rfl) (fun _=>rfl) ⟨fun _=>rfl,rfl⟩ ⟨fun _=>rfl,rfl⟩ p.funcs[i].value aa _);rintro v H4 ⟨rfl,m⟩;have hn4:=m.next
    simp only[bG,br]at hn4;have g4:H4.get H3.next=some (.cells p.funcs[i].cells 0 true):=by rw[m.get _ (dx _) gA,aO,au rfl]
    have g40:H4.get 0=some (.cells p.cells 0 true):=by rw[m.get _ (dx _) gA,aO,ad aa,aP,ad aa];exact U
    dsimp only[a0];repeat' (first
     |(apply ai ?_;clear hK K)|apply Rx.o ?_|apply aN ?_|(apply aX (fun C Y=>?_) (fun C Y=>?_)<;>try(cases C;done))|(apply aE (fun z V=>?_) (fun z V=>?_)<;>try(cases z;done))|apply ae ?_|(apply ah fun K hK=>?_)|apply aj ?_|apply ak ?_|apply am ?_|apply ax ?_)
    .refine qa ?_;refine a4 ?_ (xf (dZ (fun _=>rfl) rfl) (I:=fun(_:Unit) _=>True) (fun _ _ _ _ _=>trivial) ZI (a6 p.funcs[i].body+1) p.funcs[i].body aa 0 () H4 aa (dx _) trivial);rintro v H5 ⟨rfl,hf5,_⟩;have hn5:=hf5.next
     have g50:H5.get 0=some (.cells p.cells 0 true):=by rw[hf5.get _ (dx _) aa];exact g40
     rw[CE];dsimp only[a0];repeat' (first
      |(apply ai ?_;clear hK K)|apply Rx.o ?_|apply aN ?_|(apply aX (fun C Y=>?_) (fun C Y=>?_)<;>try(cases C;done))|(apply aE (fun z V=>?_) (fun z V=>?_)<;>try(cases z;done))|apply ae ?_|(apply ah fun K hK=>?_)|apply aj ?_|apply ak ?_|apply am ?_|apply ax ?_)
     all_goals (first|(refine⟨aC,_,aJ,?_⟩;(try simp only[aB]);rw[gY,O,J,j,F];(try simp only[cq]at *);simp only[ *,cr,bw,bH,Int.reduceEq];done)|skip)
     refine⟨aa,bM,bM,dr,o0,?_⟩;rw[J,j,F];(try simp only[cq]at *);simp only[ *,cr,bw,bH,Int.reduceEq]
    all_goals skip
    all_goals (first|(refine⟨aC,_,aJ,?_⟩;(try simp only[aB]);rw[gY,O,J,j,F];(try simp only[cq]at *);simp only[ *,cr,bw,bH,Int.reduceEq];done)|skip)
   all_goals skip
   all_goals (first|(refine⟨aC,_,aJ,?_⟩;(try simp only[aB]);rw[gY,O,J,j,F];(try simp only[cq]at *);simp only[ *,cr,bw,bH,Int.reduceEq];done)|skip)
  .all_goals refine qq ?_
   have S:i=p.funcs.length:=r3;rw[S,gy]at J;have hJ2:p.funcs.all kD=true:=J;rw[gY,O,hJ2];rfl)
end
section
def tyP4h.tyF:=ac @fg (ac @fh (@eL))
open tyP4h
noncomputable def Nt:{c:SC // aG 16 (f38.body.getD .skip)=c}:=by
 refine⟨?_,?_⟩;rotate_left
 .simp only[f38,bE,aG,bz,bq,bF,bB,Nat.blt,Nat.ble];rfl
noncomputable def Nu:En:=⟨70,false,bS (fun p=>p.sz<2^36) fB fun p=>.bool (kA p)⟩
def ZQ(p:Pr)(Y:p.sz<2^36):bJ prog ρ 70 (fB p) (.bool (kA p)):=eG fit (pls:=pls) (l:=[]) trivial (.cons (.agg p.pure) .nil) (.bool _) (YY ⟨eZ _,eZ _,eZ _,eZ _⟩ (eZ _) (eZ _) (eZ _) p aa)
def ZR:cS prog ρ Nu:=cZ fun p hp=>ZQ ρ p hp
noncomputable def Nv:En:=⟨71,false,bS (fun p=>p.sz<2^36) fB fun p=>.bool (gY p)⟩
def ZS:cS prog ρ Nv:=cZ fun p hp=>ZP ρ p hp
noncomputable def Nw:En:=⟨72,false,bS (fun p=>p.sz<2^36) fB fun p=>.bool (ox p)⟩
def ZT:cS prog ρ Nw:=cZ fun p hp=>YA ρ p hp
noncomputable def Nx:En:=⟨73,false,bS (fun p=>p.sz<2^36) fB fun p=>.int .i64 (vo p)⟩
def ZU:cS prog ρ Nx:=cZ fun p hp=>YX ρ p hp
noncomputable def xi:qu:=[Nu,Nv,Nw,Nx]
def ZV:eU prog ρ xi:=⟨ZR ρ,ZS ρ,ZT ρ,ZU ρ,trivial⟩
def ZW(p:Pr)(Y:p.sz<2^36):bJ prog ρ 38 (fB p) (.int .i64 (gK p)):=eG fit (pls:=pls) (ZV ρ) (.cons (.agg p.pure) .nil) (.int _ _) (by
 have J:zc7 (aF pls xi) 38:=dZ (fun _=>rfl) rfl;have Z:∀H,aU prog (aF pls xi) 70 [.agg p.cells] H fun v H'=>v=.bool (kA p)/\H'=H:=fun H=>cp (enc:=fB) (out:=fun p=>.bool (kA p)) pi (x:=p) rfl Y;have m:∀H,aU prog (aF pls xi) 71 [.agg p.cells] H fun v H'=>v=.bool (gY p)/\H'=H:=fun H=>cp (enc:=fB) (out:=fun p=>.bool (gY p)) pi (x:=p) rfl Y;have U:∀H,aU prog (aF pls xi) 72 [.agg p.cells] H fun v H'=>v=.bool (ox p)/\H'=H:=fun H=>cp (enc:=fB) (out:=fun p=>.bool (ox p)) pi (x:=p) rfl Y;have S:∀H,aU prog (aF pls xi) 73 [.agg p.cells] H fun v H'=>v=.int .i64 (vo p)/\H'=H:=fun H=>cp (enc:=fB) (out:=fun p=>.int .i64 (vo p)) pi (x:=p) rfl Y;rw[fB,<-Xj];refine a5 (M:=16) (rs:=[.tmp 2]) (J.call _) J.ao J.am func38 rfl rfl Nt.2 rfl ?_;dsimp only[Nt,a3,Nat.reduceAdd];repeat' (first
  |(apply ai ?_;clear hK K)|apply Rx.o ?_|(apply dJ ?_;first|refine aY (Z _) ?_|refine aY (m _) ?_|refine aY (U _) ?_|refine aY (S _) ?_)|(apply aE (fun z V=>?_) (fun z V=>?_)<;>try(cases z;done))|apply ae ?_|(apply ah fun K hK=>?_)|apply aj ?_|apply ak ?_|apply am ?_)
 all_goals
  all_goals refine qq ?_
  rw[FJ];(try simp only[cq]at *);simp only[x8,dg, *,cr,bw,bH,Int.reduceEq])
end
end Go.Proofs.YtbflaciihaijgaaGreat
