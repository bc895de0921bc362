/- Parts: P4b, P4c, P4d, P4h. -/
import Derived.Test.YtpbcimfiofmoeaaNCL
set_option linter.unusedSimpArgs false
set_option linter.unusedVariables false
set_option linter.unusedSectionVars false
set_option linter.defProp false
set_option maxHeartbeats 32000000
namespace Go.Ab
set_option maxRecDepth 20000
open Go
theorem sQ{P:Prop}(h:P:=by refine⟨rfl,rfl,rfl,rfl,rfl,rfl,rfl,rfl,rfl⟩):P:=h
theorem JJ{P:Prop}(h:P:=by rw[pj];(try simp only[Bool.not_eq_true',Bool.not_eq_false']at *);simp only[*,Bool.false_and,Bool.and_false,Bool.and_true,]):P:=h
def rr:=@List.all_nil
end Go.Ab
namespace Go.Proofs.Ytpbcimfiofmoeaa
set_option maxRecDepth 20000
open Go Go.Ab
section
def tyP4b.tyF:=ad @eJ (ad @cQ (ad @yd (ad @cW (ad @eK (ad @eA (ad @dX (ad @fj (@Gc))))))))
open tyP4b
noncomputable def JK:{c:SC // aD 111 (Try.f80.body.getD .skip)=c}:=by
 refine⟨?_,?_⟩;rotate_left
 .simp only[Try.f80,bP,aD,zby,zbt,zbA,zbB,Nat.blt,Nat.ble];rfl
mutual
theorem JL:∀(x:Ex) (d:Int),kU (fun x _=>kw x) x d=eM x
 | .mk k n s o L,d=>by rw[kU,eM,JM L,Bool.and_comm]
theorem JM:∀(l:List Ex) (d:Int),zc0 (fun x _=>kw x) l d=dZ l
 |[],_=>rfl
 |x::l,d=>by rw[zc0,dZ,JL x,JM l]
end
theorem Dg{l:List En}(M:∀L,zcu l 76 L=wt.sp L)(Y:∀L,zcu l 113 L=ww.sp L)(Z:(∀L,zcu l 79 L=none)/\lB l 79=false)(I:(∀L,zcu l 78 L=none)/\lB l 78=false)
 (x:Ex) (V:x.sz<2^60) (H:Hp):za9 Try.prog (za3 pls l) 78 [.agg x.cells,.int .i64 0,.clo 79 []] H fun v H'=>v=.bool (eM x)/\FrB 0 H H':=by
 have o:rp 0 fun _:Hp=>True:=fun _ _ _ _=>trivial;refine aI ?_ (t6 (zcB I.1 I.2) o (XU M Y Z o) (x.sz+1) x (cJ _) 0 H V (dg _) trivial);rintro v H' ⟨rfl,g,_⟩;exact⟨by rw[JL],g⟩
def oq(x:Ex)(w:Bool):Bool:=bif w then eM x else zeroE x
noncomputable def Dh:List En:=[wt,ww,JI]
theorem XV(ρ:Nat->Int):jc Try.prog ρ Dh:=⟨JG ρ,JH ρ,XT ρ,trivial⟩
theorem XW(ρ:Nat->Int)(x:Ex)(w:Bool)(I:x.sz<2^60):cn Try.prog ρ 116 [.agg x.cells,.bool w] (.bool (oq x w)):=zda fit (pls:=pls) (XV ρ) (.cons (.agg x.pure) (.cons (.bool _) .nil)) (.bool _) (by
 have O:Plain (za3 pls Dh) 116:=zcB (fun _=>rfl) rfl;have U:∀y:Ex,∀H,za9 Try.prog (za3 pls Dh) 135 [.agg y.cells] H fun v H'=>v=.bool (zeroE y)/\H'=H:=fun y H=>zcz (enc:=vL) (out:=fun x=>.bool (zeroE x)) Vv (x:=y) rfl trivial;cases w
 .refine zbs (M:=10) (rs:=[.tmp 4]) (O.call _) O.ice O.froz Try.func116 rfl rfl zK.2 rfl ?_;dsimp only[zK,zbj,Nat.reduceAdd];repeat' (first
   |(apply ai ?_;clear hK K)|apply Rx.o ?_|(apply mn ?_;first|refine zbV (U _ _) ?_)|(apply bu (fun o z=>?_) (fun o z=>?_)<;>try(cases o;done))|apply aq ?_|(apply zaW fun K hK=>?_)|apply za8 ?_|apply aN ?_)
  all_goals (refine⟨za2,_,za7,?_⟩;try simp only[za0])
  rfl
 .refine zbs (M:=10) (rs:=[.tmp 4]) (O.call _) O.ice O.froz Try.func116 rfl rfl zK.2 rfl ?_;dsimp only[zK,zbj,Nat.reduceAdd];repeat' (first
   |(apply ai ?_;clear hK K)|apply Rx.o ?_|(apply bu (fun o z=>?_) (fun o z=>?_)<;>try(cases o;done))|apply aq ?_|(apply zaW fun K hK=>?_)|fail)
  refine aK rfl aL aM ?_;simp only[aR];refine aI ?_ (Dg (fun _=>rfl) (fun _=>rfl) ⟨fun _=>rfl,rfl⟩ ⟨fun _=>rfl,rfl⟩ x I _);rintro v H ⟨rfl,_⟩;dsimp only[za1];repeat' (first
   |(apply ai ?_;clear hK K)|apply Rx.o ?_|apply aN ?_)
  all_goals (refine⟨za2,_,za7,?_⟩;try simp only[za0])
  rfl)
def a0(k:Int)(i:Nat):Bool:=(sP k).getD i false
theorem XX(k:Int):(sP k).map AV.bool=[.bool (a0 k 0),.bool (a0 k 1),.bool (a0 k 2),.bool (a0 k 3),.bool (a0 k 4),.bool (a0 k 5),.bool (a0 k 6),.bool (a0 k 7)]:=by
 have h:∃a b c d e f g h,sP k=[a,b,c,d,e,f,g,h]:=by
  unfold sP;repeat' split
  all_goals exact⟨_,_,_,_,_,_,_,_,rfl⟩
 obtain⟨a,b,c,d,e,f,g,h,i⟩:=h;simp only[a0,i];rfl
def pj(x:St):Bool:=
 jD x.kind&&lN x.name (a0 x.kind 0)&&lN x.to (a0 x.kind 1)&&oq x.at_ (a0 x.kind 3)&&oq x.value (a0 x.kind 4) &&
 !decide (x.n<0) && !decide (1000000<x.n)&&(a0 x.kind 2||decide (x.n=0))&&(a0 x.kind 5 || !decide ((0:Int)<x.args.length))&&(a0 x.kind 6 || !decide ((0:Int)<x.thn.length))&&(a0 x.kind 7 || !decide ((0:Int)<x.els.length))&&dZ x.args
def wy(x:St):Bool:=decide (x.n<0)||decide (1000000<x.n)||(!a0 x.kind 2 && !decide (x.n=0))||(!a0 x.kind 5&&decide ((0:Int)<x.args.length))||(!a0 x.kind 6&&decide ((0:Int)<x.thn.length))||(!a0 x.kind 7&&decide ((0:Int)<x.els.length))
noncomputable def JN:En:=⟨114,false,dA (fun _=>True) (fun n:Int=>[.int .i64 n]) t9⟩
theorem XY(ρ:Nat->Int):fk Try.prog ρ JN:=zcQ fun x _=>XQ ρ x
def wz(x:List UInt8×Bool):List AV:=[.str x.1,.bool x.2]
theorem XZ(x y:List UInt8×Bool)(h:wz x=wz y):x=y:=by
 simp only[wz,ez,AV.str.injEq,AV.bool.injEq,br]at h;exact vV h.1 h.2
noncomputable def JO:En:=⟨115,false,dA (fun x=>x.1.length<2^60) wz fun x=>.bool (lN x.1 x.2)⟩
theorem X0(ρ:Nat->Int):fk Try.prog ρ JO:=zcQ fun x I=>XO ρ x.1 x.2 I
def wA(x:Ex×Bool):List AV:=[.agg x.1.cells,.bool x.2]
theorem X1(x y:Ex×Bool)(h:wA x=wA y):x=y:=by
 simp only[wA,ez,AV.agg.injEq,AV.bool.injEq,br]at h;exact vV (Ex.inj h.1) h.2
noncomputable def JP:En:=⟨116,false,dA (fun x=>x.1.sz<2^60) wA fun x=>.bool (oq x.1 x.2)⟩
theorem X2(ρ:Nat->Int):fk Try.prog ρ JP:=zcQ fun x I=>XW ρ x.1 x.2 I
noncomputable def JQ:En:=⟨77,false,dA (fun l=>zco l<2^60) (fun l:List (List UInt8)=>[zbP l]) fun l=>.bool (l.all zb6)⟩
theorem X3(ρ:Nat->Int):fk Try.prog ρ JQ:=zcQ fun x I=>XN ρ x I
theorem X4(x y:List (List UInt8))(h:([zbP x]:List AV)=[zbP y]):x=y:=by
 simp only[ez,AV.lst.injEq,br]at h;exact yw h
noncomputable def pm:List En:=[wt,ww,JN,JO,JP,JQ]
theorem X5(ρ:Nat->Int):jc Try.prog ρ pm:=⟨JG ρ,JH ρ,XY ρ,X0 ρ,X2 ρ,X3 ρ,trivial⟩
theorem X6:a0 1 0=true/\a0 1 1=false/\a0 1 2=false/\a0 1 3=false/\a0 1 4=true/\a0 1 5=false/\a0 1 6=false/\a0 1 7=false/\jD 1=true:=sQ
theorem X7:a0 2 0=true/\a0 2 1=false/\a0 2 2=false/\a0 2 3=true/\a0 2 4=true/\a0 2 5=false/\a0 2 6=false/\a0 2 7=false/\jD 2=true:=sQ
theorem X8:a0 3 0=false/\a0 3 1=false/\a0 3 2=false/\a0 3 3=false/\a0 3 4=true/\a0 3 5=false/\a0 3 6=true/\a0 3 7=true/\jD 3=true:=sQ
theorem X9:a0 4 0=false/\a0 4 1=false/\a0 4 2=false/\a0 4 3=false/\a0 4 4=true/\a0 4 5=false/\a0 4 6=true/\a0 4 7=false/\jD 4=true:=sQ
theorem Ya:a0 5 0=false/\a0 5 1=false/\a0 5 2=false/\a0 5 3=false/\a0 5 4=true/\a0 5 5=false/\a0 5 6=false/\a0 5 7=false/\jD 5=true:=sQ
theorem Yb:a0 6 0=true/\a0 6 1=true/\a0 6 2=false/\a0 6 3=false/\a0 6 4=false/\a0 6 5=true/\a0 6 6=false/\a0 6 7=false/\jD 6=true:=sQ
theorem Yc:a0 7 0=false/\a0 7 1=false/\a0 7 2=true/\a0 7 3=false/\a0 7 4=false/\a0 7 5=false/\a0 7 6=false/\a0 7 7=false/\jD 7=true:=sQ
set_option maxRecDepth 100000 in
theorem Yd:wq (za3 pls pm) 0 (fun(_:Unit) _=>True) 80 [] fun x _ s=>(pj x,s):=by
 intro x d s H hz _ _;have hw:Plain (za3 pls pm) 80:=zcB (fun _=>rfl) rfl;have kf:∀k H,za9 Try.prog (za3 pls pm) 114 [.int .i64 k] H fun v H'=>v=.tup [.agg [.bool (a0 k 0),.bool (a0 k 1),.bool (a0 k 2),.bool (a0 k 3),.bool (a0 k 4),.bool (a0 k 5),.bool (a0 k 6),.bool (a0 k 7)],.bool (jD k)]/\H'=H:=fun k H=>by
  have:=zcz (P:=Try.prog) (pls:=pls) (l:=pm) (enc:=fun n:Int=>[.int .i64 n]) (ok:=fun _=>True) (out:=t9) G7 (g:=114) (x:=k) rfl trivial (H:=H);unfold t9 at this;rw[XX]at this;exact this
 have km:∀(s:List UInt8) (w:Bool),s.length<2^60->∀H,za9 Try.prog (za3 pls pm) 115 [.str s,.bool w] H fun v H'=>v=.bool (lN s w)/\H'=H:=fun s w h H=>zcz (enc:=wz) (out:=fun x=>.bool (lN x.1 x.2)) XZ (x:=(s,w)) rfl h;have kx:∀(y:Ex) (w:Bool),y.sz<2^60->∀H,za9 Try.prog (za3 pls pm) 116 [.agg y.cells,.bool w] H fun v H'=>v=.bool (oq y w)/\H'=H:=fun y w h H=>zcz (enc:=wA) (out:=fun x=>.bool (oq x.1 x.2)) X1 (x:=(y,w)) rfl h;have hsz:=x.sz_eq;have hlen:=zdH x.args;have hx0:∀a b,Ab.extract (.tup [a,b]) 0=some a:=fun _ _=>rfl;have hx1:∀a b,Ab.extract (.tup [a,b]) 1=some b:=fun _ _=>rfl;refine zbs (M:=111) (rs:=[.tmp 4]) (hw.call _) hw.ice hw.froz Try.func80 rfl rfl JK.2 rfl ?_;dsimp only[JK,zbj,Nat.reduceAdd];repeat' (first
  |(apply ai ?_;clear hK K)|apply Rx.o ?_|apply bN ?_|(apply mn ?_;first|refine zbV (kf _ _) ?_|refine zbV (km _ _ ac _) ?_|refine zbV (kx _ _ ac _) ?_)|(apply da (fun J Z=>?_) (fun J Z=>?_)<;>try(cases J;done))|apply aq ?_|(apply zaW fun K hK=>?_)|fail)
 all_goals (first|(refine bu (t:=true) (h1:=fun _ _=>?_) (h2:=fun hzz _=>?_)<;>try(cases hzz;done))|skip)
 all_goals
  repeat' (first
   |(apply ai ?_;clear hK K)|apply Rx.o ?_|apply aq ?_|(apply zaW fun K hK=>?_)|apply aN ?_|fail)
 all_goals (first|(refine⟨za2,_,za7,?_⟩;(try simp only[za0]);refine⟨JJ,(((gW _ _).alloc _).alloc _).set (.inl (by(try simp only[zbb]);omega)) _,trivial⟩;done)|skip)
 have m:FrB 0 H (((H.alloc (.cells x.cells 0 true)).alloc (.cells [.bool false,.bool false,.bool false,.bool false,.bool false,.bool false,.bool false,.bool false] 0 true)).set (H.next+1) (.cells [.bool (a0 x.kind 0),.bool (a0 x.kind 1),.bool (a0 x.kind 2),.bool (a0 x.kind 3),.bool (a0 x.kind 4),.bool (a0 x.kind 5),.bool (a0 x.kind 6),.bool (a0 x.kind 7)] 0 true)):=(((gW _ _).alloc _).alloc _).set (.inl ac) _;refine Vh [2,4,5,48] fun E' Y=>?_;(try simp only[zbR,zbq,br,za4,zbg,Nat.reduceBEq, *]at Y);generalize C:Hp.set _ (H.next+1) _=Hb at m⊢;have gb:Hb.get H.next=some (.cells x.cells 0 true):=by rw[<-C,aC,af ac,zaY,af eU,zaY,aj rfl]
 have gf:Hb.get (H.next+1)=some (.cells [.bool (a0 x.kind 0),.bool (a0 x.kind 1),.bool (a0 x.kind 2),.bool (a0 x.kind 3),.bool (a0 x.kind 4),.bool (a0 x.kind 5),.bool (a0 x.kind 6),.bool (a0 x.kind 7)] 0 true):=CZ;have nb:H.next+2<=Hb.next:=by rw[<-C];exact aA _
 clear C;refine bu (h1:=fun o z=>?_) (h2:=fun o z=>?_)
 .repeat' (first
   |(apply ai ?_;clear hK K)|apply Rx.o ?_|apply aq ?_|(apply zaW fun K hK=>?_)|apply aN ?_|fail)
  all_goals (refine⟨za2,_,za7,?_⟩;try simp only[za0])
  refine⟨JJ,m,trivial⟩
 refine zbu.skip ?_;dsimp only[kM,pN];refine aq ?_;first
 |refine zaW fun K V=>?_
 |(simp only[zby,zbt,zbA,zbB,Nat.blt,Nat.ble];refine zaW fun K V=>?_)
 |(refine aq ?_;refine zaW fun K V=>?_)
 have hK:∀j I,(j.at 2=.ptr H.next 0/\j.at 4=.bool false/\j.at 99=.bool (wy x)/\I=Hb)->K j I:=by
  rintro j I ⟨k2,k4,k99,rfl⟩;apply V;clear V K;dsimp only[kM,pN];have U:(jD x.kind&&lN x.name (a0 x.kind 0)&&lN x.to (a0 x.kind 1)&&oq x.at_ (a0 x.kind 3)&&oq x.value (a0 x.kind 4))=true:=by(try simp only[qc]at *);simp only[*,gm,]
  have O:pj x=(!wy x&&dZ x.args):=by
   have e:pj x=((jD x.kind&&lN x.name (a0 x.kind 0)&&lN x.to (a0 x.kind 1)&&oq x.at_ (a0 x.kind 3)&&oq x.value (a0 x.kind 4))&&(!wy x&&dZ x.args)):=by
    simp only[pj,wy,tI,Bool.not_and,Bool.not_not,vK]
   rw[e,U,fI]
  repeat' (first
   |(apply ai ?_;clear hK K)|apply Rx.o ?_|(apply bu (fun o z=>?_) (fun o z=>?_)<;>try(cases o;done))|apply aq ?_|(apply zaW fun K hK=>?_)|apply aO ?_|apply za8 ?_|apply aN ?_|fail)
  .all_goals (refine⟨za2,_,za7,?_⟩;try simp only[za0])
   refine⟨by rw[O];(try simp only[qc]at *);simp only[*,gX,mc,],m,trivial⟩
  refine zcj [2,4,101,102] [] 103 x.args.length (fun i E I=>dZ x.args=dZ (x.args.drop i)/\FrB 0 H I) eE ⟨aw,m⟩ ?_;rintro i E H3 hi Y hrH hnH hsI ⟨hJ,hf2⟩;(try simp only[zbR,zbq,br,za4,zbg,Nat.reduceBEq, *]at Y);(try simp only[zbq, *]at hrH);(try simp only[zbb,zbl,zb4,b4,Nat.reduceAdd]at hnH);repeat' (first
   |(apply ai ?_;clear hK K)|apply Rx.o ?_|(apply bu (fun o z=>?_) (fun o z=>?_)<;>try(cases o;done))|apply aq ?_|(apply zaW fun K hK=>?_)|apply aO ?_|apply za8 ?_|apply aN ?_|apply zbW ?_)
  .have L:i<x.args.length:=by simpa using o
   have hgx:x.args[i]?=some x.args[i]:=aY L;have hsm:=zdJ (dW L);have hdr:dZ (x.args.drop i)=(eM x.args[i]&&dZ (x.args.drop (i+1))):=by rw[hP L];rfl
   repeat' (first
    |(apply ai ?_;clear hK K)|apply Rx.o ?_|apply bN ?_|apply aq ?_|(apply zaW fun K hK=>?_)|fail)
   refine aK rfl aL aM ?_;simp only[aR];refine aI ?_ (Dg (fun _=>rfl) (fun _=>rfl) ⟨fun _=>rfl,rfl⟩ ⟨fun _=>rfl,rfl⟩ x.args[i] ac _);rintro v H4 ⟨rfl,hf4⟩;dsimp only[za1];have hf5:FrB 0 H H4:=hf2.trans ((((gW _ _).alloc _).set (.inl (aA _)) _).trans hf4);have n4:=hf4.next
   simp only[zbl,zbb]at n4;repeat' (first
    |(apply ai ?_;clear hK K)|apply Rx.o ?_|(apply bu (fun o z=>?_) (fun o z=>?_)<;>try(cases o;done))|apply aq ?_|(apply zaW fun K hK=>?_)|apply za8 ?_|apply aN ?_|fail)
   all_goals (first|(refine⟨za2,_,za7,?_⟩;(try simp only[za0]);refine⟨by rw[O,hJ,hdr];(try simp only[kW]at *);simp only[*,gX,oS,lw,],hf5,trivial⟩;done)|skip)
   refine⟨ac,zbw,zbw,eN,Iu,?_⟩;exact⟨by rw[hJ,hdr];(try simp only[qc]at *);simp only[*,fI,],hf5⟩
  .all_goals (refine⟨za2,_,za7,?_⟩;try simp only[za0])
   refine⟨by rw[O,hJ,show i=x.args.length by simp at o;omega,og];(try simp only[qc]at *);simp only[dZ, *,gm,lw,],hf2,trivial⟩
 clear V;repeat' (first
  |(apply ai ?_;clear hK K)|apply Rx.o ?_|apply Rx.gu ?_|(apply da (fun J Z=>?_) (fun J Z=>?_)<;>try(cases J;done))|fail)
 all_goals
  refine⟨eE,eE,?_,rfl⟩;rw[wy];(try simp only[kW]at *);simp only[za4,Nat.reduceBEq, *,jv,kS,nQ,vQ,gX,oS,fI,gm,]
end
section
theorem mG(n:Nat):(!decide ((0:Int)<n))=decide ((n:Int)=0):=by
 cases n with
 |zero=>rfl
 |succ n=>simp;omega
theorem Ye(n:Int):(!decide (n<0) && !decide (1000000<n)&&decide (n=0))=decide (n=0):=by
 by_cases h:n=0
 .subst h;rfl
 .simp[h]
theorem Yf(n:Int):(!decide (n<0))=decide (0<=n):=by
 by_cases h:n<0
 .simp[h]
 .simp[h];omega
theorem Yg(n:Int):(!decide (1000000<n))=decide (n<=1000000):=by
 by_cases h:1000000<n
 .simp[h]
 .simp[h];omega
theorem Yh(x:St):pj x=iO x:=by
 have j:x.kind=1\/x.kind=2\/x.kind=3\/x.kind=4\/x.kind=5\/x.kind=6\/x.kind=7\/jD x.kind=false:=by
  simp only[jD,wr,kR];omega
 rcases j with j|j|j|j|j|j|j|j
 case inr.inr.inr.inr.inr.inr.inr=>
  have h:jz x=false:=by
   simp only[jD,wr,kR]at j;unfold jz;rw[af ac,af ac,af ac,af ac,af ac,af ac,af ac]
  rw[pj,iO,j,h];simp
 all_goals
  have hr:=Ye x.n;simp only[pj,iO,jz,j,X6,X7,X8,X9,Ya,Yb,Yc,lF,oY,lN,oq,gy,nS,cZ,de,Int.reduceEq,fI,gm,jv,nQ,mG,cK];first
  |(rw[Yf,Yg];ac_rfl)
  |(rw[<-hr];ac_rfl)
mutual
theorem Yi:∀(x:St) (d:Int),jx (fun x _ (s:Unit)=>(pj x,s)) x d ()=(jg x,())
 | .mk k M U n a v Y Z V,d=>by
   rw[jx,jg,Yh];cases h:iO (.mk k M U n a v Y Z V)with
   |false=>simp
   |true=>
    simp only[zL Z,fI];cases g:fY Z with
    |false=>simp
    |true=>simp only[zL V,fI]
theorem zL:∀(l:List St) (d:Int),zcn (fun x _ (s:Unit)=>(pj x,s)) l d ()=(fY l,())
 |[],_=>rfl
 |x::l,d=>by
  rw[zcn,fY,Yi x];cases h:jg x with
  |false=>simp
  |true=>simp only[zL l,fI]
end
def tyP4d.tyF:=ad @eJ (ad @cQ (ad @cW (ad @kQ (ad @ly (ad @gI (ad @gJ (ad @eK (ad @eA (ad @dX (ad @lA (ad @fj (@oM))))))))))))
open tyP4d
noncomputable def JR:{c:SC // aD 55 (Try.f44.body.getD .skip)=c}:=by
 refine⟨?_,?_⟩;rotate_left
 .simp only[Try.f44,bP,aD,zby,zbt,zbA,zbB,Nat.blt,Nat.ble];rfl
theorem Yj(f:Fu)(b:List UInt8->Bool):(fnNames f).all b=(b f.name&&f.params.all b&&f.locals.all b):=by
 rw[fnNames,C5,C5,pV,rr,gm]
set_option maxRecDepth 100000 in
theorem Yk(ρ:Nat->Int)(p:Pr)(hz:p.sz<2^36):cn Try.prog ρ 44 [.agg p.cells] (.bool (iP p)):=zda fit (pls:=pls) (X5 ρ) (.cons (.agg p.pure) .nil) (.bool _) (by
 have hw:Plain (za3 pls pm) 44:=zcB (fun _=>rfl) rfl;have kn:∀s:List UInt8,s.length<2^60->∀H,za9 Try.prog (za3 pls pm) 76 [.str s] H fun v H'=>v=.bool (zb6 s)/\H'=H:=fun s h1 H=>zcz (enc:=tK) (out:=fun x=>.bool (zb6 x)) GH (x:=s) rfl h1;have ks:∀l:List (List UInt8),zco l<2^60->∀H,za9 Try.prog (za3 pls pm) 77 [zbP l] H fun v H'=>v=.bool (l.all zb6)/\H'=H:=fun l h1 H=>zcz (enc:=fun l:List (List UInt8)=>[zbP l]) (out:=fun l=>.bool (l.all zb6)) X4 (x:=l) rfl h1;have hpz:p.sz=1+zcU p.arrays+fV p.funcs:=rfl;have hla:=qP p.arrays;have hlf:=qO p.funcs;refine zbs (M:=55) (rs:=[.tmp 2]) (hw.call _) hw.ice hw.froz Try.func44 rfl rfl JR.2 rfl ?_;dsimp only[JR,zbj,Nat.reduceAdd];repeat' (first
  |(apply ai ?_;clear hK K)|apply Rx.o ?_|apply aq ?_|(apply zaW fun K hK=>?_)|apply aO ?_|fail)
 refine zcj [1,8,9] [0] 10 p.arrays.length (fun i E H=>p.arrays.all (fun a=>zb6 a.name)=(p.arrays.drop i).all (fun a=>zb6 a.name)) eE aw ?_;rintro i E H2 hi g O m hsI V;(try simp only[zbR,zbq,br,za4,zbg,Nat.reduceBEq, *]at g);(try simp only[zbR,zbq,br,za4,zbg, *]at O);(try simp only[zbb,zb4,b4]at m);have hB0:(0 == H2.next)=false:=zbn ac;have hC0:(H2.next == 0)=false:=zbn ac;repeat' (first
  |(apply ai ?_;clear hK K)|apply Rx.o ?_|(apply bu (fun o z=>?_) (fun o z=>?_)<;>try(cases o;done))|apply aq ?_|(apply zaW fun K hK=>?_)|apply aO ?_|apply za8 ?_|apply zbW ?_)
 .have Z:i<p.arrays.length:=by simpa using o
  have hgx:p.arrays[i]?=some p.arrays[i]:=aY Z;have hsm:=Ct (dW Z);have Y:(p.arrays.drop i).all (fun a=>zb6 a.name)=(zb6 p.arrays[i].name&&(p.arrays.drop (i+1)).all (fun a=>zb6 a.name)):=Db;repeat' (first
   |(apply ai ?_;clear hK K)|apply Rx.o ?_|apply bN ?_|(apply mn ?_;first|refine zbV (kn _ ac _) ?_)|(apply bu (fun o z=>?_) (fun o z=>?_)<;>try(cases o;done))|apply aq ?_|(apply zaW fun K hK=>?_)|apply za8 ?_|apply aN ?_|fail)
  all_goals (first|(refine⟨za2,_,za7,?_⟩;(try simp only[za0]);rw[iP,V,Y];(try simp only[r8]at *);simp only[*,gX,];done)|skip)
  refine⟨ac,zbw,zbw,eN,yV,?_⟩;rw[V,Y];(try simp only[qc]at *);simp only[*,fI,]
 .have j:i=p.arrays.length:=by simp at o;omega
  rw[j,og]at V;have J:p.arrays.all (fun a=>zb6 a.name)=true:=V;clear V j hsI hi;refine zcj [20,21] [0] 22 p.funcs.length (fun i E H=>p.funcs.all lH=(p.funcs.drop i).all lH) eE aw ?_;rintro i E H3 hi g O m hsI V;(try simp only[zbR,zbq,br,za4,zbg,Nat.reduceBEq, *]at g);(try simp only[zbR,zbq,br, *]at O);(try simp only[zbb,zbl,zb4,b4,Nat.reduceAdd]at m);have hB0:(0 == H3.next)=false:=zbn ac;have hC0:(H3.next == 0)=false:=zbn ac;repeat' (first
   |(apply ai ?_;clear hK K)|apply Rx.o ?_|(apply bu (fun o z=>?_) (fun o z=>?_)<;>try(cases o;done))|apply aq ?_|(apply zaW fun K hK=>?_)|apply aO ?_|apply za8 ?_|apply aN ?_|apply zbW ?_)
  .have Z:i<p.funcs.length:=by simpa using o
   have hgx:p.funcs[i]?=some p.funcs[i]:=aY Z;have hsm:=qQ (dW Z);have hsz:p.funcs[i].sz=1+p.funcs[i].name.length+zco p.funcs[i].params+zco p.funcs[i].locals+zbC p.funcs[i].body+p.funcs[i].value.sz:=rfl;have Y:(p.funcs.drop i).all lH=(lH p.funcs[i]&&(p.funcs.drop (i+1)).all lH):=Db;have L:lH p.funcs[i]=(zb6 p.funcs[i].name&&p.funcs[i].params.all zb6&&p.funcs[i].locals.all zb6&&fY p.funcs[i].body&&eM p.funcs[i].value):=by rw[lH,Yj]
   repeat' (first
    |(apply ai ?_;clear hK K)|apply Rx.o ?_|apply bN ?_|(apply mn ?_;first|refine zbV (kn _ ac _) ?_|refine zbV (ks _ ac _) ?_)|(apply da (fun C U=>?_) (fun C U=>?_)<;>try(cases C;done))|(apply bu (fun o z=>?_) (fun o z=>?_)<;>try(cases o;done))|apply aq ?_|(apply zaW fun K hK=>?_)|apply aN ?_|fail)
   .refine aK rfl aL aM ?_;simp only[aR];refine aI ?_ (Dg (fun _=>rfl) (fun _=>rfl) ⟨fun _=>rfl,rfl⟩ ⟨fun _=>rfl,rfl⟩ p.funcs[i].value ac _);rintro v H4 ⟨rfl,hf4⟩;have hn4:=hf4.next
    simp only[zbl,zbb]at hn4;have g4:H4.get H3.next=some (.cells p.funcs[i].cells 0 true):=by rw[hf4.get _ (dg _) f0,aC,aj rfl]
    have g40:H4.get 0=some (.cells p.cells 0 true):=by rw[hf4.get _ (dg _) f0,aC,af ac,zaY,af ac];exact O
    dsimp only[za1];repeat' (first
     |(apply ai ?_;clear hK K)|apply Rx.o ?_|(apply da (fun C U=>?_) (fun C U=>?_)<;>try(cases C;done))|(apply bu (fun o z=>?_) (fun o z=>?_)<;>try(cases o;done))|apply aq ?_|(apply zaW fun K hK=>?_)|apply aN ?_|fail)
    .refine aK rfl aL aM ?_;simp only[aR];refine aI ?_ (t7 (zcB (fun _=>rfl) rfl) (I:=fun(_:Unit) _=>True) (fun _ _ _ _ _=>trivial) Yd (zbC p.funcs[i].body+1) p.funcs[i].body ac 0 () H4 ac (dg _) trivial);rintro v H5 ⟨rfl,hf5,_⟩;have hn5:=hf5.next
     have g50:H5.get 0=some (.cells p.cells 0 true):=by rw[hf5.get _ (dg _) ac];exact g40
     rw[zL];dsimp only[za1];repeat' (first
      |(apply ai ?_;clear hK K)|apply Rx.o ?_|(apply da (fun C U=>?_) (fun C U=>?_)<;>try(cases C;done))|(apply bu (fun o z=>?_) (fun o z=>?_)<;>try(cases o;done))|apply aq ?_|(apply zaW fun K hK=>?_)|apply za8 ?_|apply aN ?_|fail)
     all_goals (first|(refine⟨za2,_,za7,?_⟩;(try simp only[za0]);rw[iP,J,V,Y,L];(try simp only[kW]at *);simp only[*,gX,oS,gm,];done)|skip)
     refine⟨ac,zbw,zbw,eN,qZ,?_⟩;rw[V,Y,L];(try simp only[qc]at *);simp only[*,fI,gm,]
    all_goals skip
    all_goals (first|(refine⟨za2,_,za7,?_⟩;(try simp only[za0]);rw[iP,J,V,Y,L];(try simp only[kW]at *);simp only[*,gX,oS,fI,gm,];done)|skip)
   all_goals skip
   all_goals (first|(refine⟨za2,_,za7,?_⟩;(try simp only[za0]);rw[iP,J,V,Y,L];(try simp only[kW]at *);simp only[*,gX,oS,gm,];done)|skip)
  .all_goals (refine⟨za2,_,za7,?_⟩;try simp only[za0])
   have j:i=p.funcs.length:=vO;rw[j,og]at V;have hJ2:p.funcs.all lH=true:=V;rw[iP,J,hJ2];rfl)
end
section
def tyP4h.tyF:=ad @kQ (ad @ly (@gI))
open tyP4h
noncomputable def JS:{c:SC // aD 16 (Try.f22.body.getD .skip)=c}:=by
 refine⟨?_,?_⟩;rotate_left
 .simp only[Try.f22,bP,aD,zby,zbt,zbA,zbB,Nat.blt,Nat.ble];rfl
noncomputable def JT:En:=⟨43,false,dA (fun p=>p.sz<2^36) fc fun p=>.bool (jL p)⟩
theorem Yl(ρ:Nat->Int)(p:Pr)(j:p.sz<2^36):cn Try.prog ρ 43 (fc p) (.bool (jL p)):=zda fit (pls:=pls) (l:=[]) trivial (.cons (.agg p.pure) .nil) (.bool _) (Xt ⟨zc4 _,zc4 _,zc4 _,zc4 _⟩ (zc4 _) (zc4 _) (zc4 _) p ac)
theorem Ym(ρ:Nat->Int):fk Try.prog ρ JT:=zcQ fun p hp=>Yl ρ p hp
noncomputable def JU:En:=⟨44,false,dA (fun p=>p.sz<2^36) fc fun p=>.bool (iP p)⟩
theorem Yn(ρ:Nat->Int):fk Try.prog ρ JU:=zcQ fun p hp=>Yk ρ p hp
noncomputable def JV:En:=⟨45,false,dA (fun p=>p.sz<2^36) fc fun p=>.bool (nr p)⟩
theorem Yo(ρ:Nat->Int):fk Try.prog ρ JV:=zcQ fun p hp=>Wa ρ p hp
noncomputable def JW:En:=⟨46,false,dA (fun p=>p.sz<2^36) fc fun p=>.int .i64 (sA p)⟩
theorem Yp(ρ:Nat->Int):fk Try.prog ρ JW:=zcQ fun p hp=>Xs ρ p hp
noncomputable def ua:List En:=[JT,JU,JV,JW]
theorem Yq(ρ:Nat->Int):jc Try.prog ρ ua:=⟨Ym ρ,Yn ρ,Yo ρ,Yp ρ,trivial⟩
theorem Yr(ρ:Nat->Int)(p:Pr)(j:p.sz<2^36):cn Try.prog ρ 22 (fc p) (.int .i64 (zc2 p)):=zda fit (pls:=pls) (Yq ρ) (.cons (.agg p.pure) .nil) (.int _ _) (by
 have O:Plain (za3 pls ua) 22:=zcB (fun _=>rfl) rfl;have Y:∀H,za9 Try.prog (za3 pls ua) 43 [.agg p.cells] H fun v H'=>v=.bool (jL p)/\H'=H:=fun H=>zcz (enc:=fc) (out:=fun p=>.bool (jL p)) p6 (x:=p) rfl j;have i:∀H,za9 Try.prog (za3 pls ua) 44 [.agg p.cells] H fun v H'=>v=.bool (iP p)/\H'=H:=fun H=>zcz (enc:=fc) (out:=fun p=>.bool (iP p)) p6 (x:=p) rfl j;have Z:∀H,za9 Try.prog (za3 pls ua) 45 [.agg p.cells] H fun v H'=>v=.bool (nr p)/\H'=H:=fun H=>zcz (enc:=fc) (out:=fun p=>.bool (nr p)) p6 (x:=p) rfl j;have V:∀H,za9 Try.prog (za3 pls ua) 46 [.agg p.cells] H fun v H'=>v=.int .i64 (sA p)/\H'=H:=fun H=>zcz (enc:=fc) (out:=fun p=>.int .i64 (sA p)) p6 (x:=p) rfl j;rw[fc,<-VU];refine zbs (M:=16) (rs:=[.tmp 2]) (O.call _) O.ice O.froz Try.func22 rfl rfl JS.2 rfl ?_;dsimp only[JS,zbj,Nat.reduceAdd];repeat' (first
  |(apply ai ?_;clear hK K)|apply Rx.o ?_|(apply mn ?_;first|refine zbV (Y _) ?_|refine zbV (i _) ?_|refine zbV (Z _) ?_|refine zbV (V _) ?_)|(apply bu (fun o z=>?_) (fun o z=>?_)<;>try(cases o;done))|apply aq ?_|(apply zaW fun K hK=>?_)|apply aO ?_|apply za8 ?_|apply aN ?_)
 all_goals
  all_goals (refine⟨za2,_,za7,?_⟩;try simp only[za0])
  rw[CA];(try simp only[kW]at *);simp only[qH,cK, *,cZ,de])
end
end Go.Proofs.Ytpbcimfiofmoeaa
