/- Lemmas for the last file. -/
import Derived.Test.YtbflaciihaijgaaGEM
set_option linter.all false
set_option maxHeartbeats 32000000
namespace Go.Ab
set_option maxRecDepth 20000
open Go
variable{qd:Prop}
def sY(h:qd:=by refine⟨rfl,rfl,rfl,rfl,rfl,rfl,rfl,rfl,rfl⟩):=h
def JH(h:qd:=by rw[nV];(try simp only[Bool.not_eq_true',Bool.not_eq_false']at *);simp only[*,decide_true,decide_false,Bool.false_or,Bool.or_false,Bool.true_or,Bool.or_true,Bool.false_and,Bool.and_false,Bool.true_and,Bool.and_true,Bool.not_true,Bool.not_false,if_true,if_false,Int.reduceEq]):=h
def CR(h:qd:=by rw[show cX=70368744177664 from rfl];omega):=h
def zD(h:qd:=by simp only[bj,cL];omega):=h
def JI(h:qd:=by rw[gB _ _ _ _ ac ac];exact W.get k h1 O):=h
end Go.Ab
namespace Go.Proofs.Ytbflaciihaijgaa
set_option maxRecDepth 20000
open Go Go.Ab Proofs.Try
variable(ρ:Nat->Int)
variable{l:List bB}{p:Pr}{f:Fu}{tb:qs}{i n z:Nat}{S:Nat->Prop}{H:Hp}{u:Un}{e:Int}{v:AV}
section
def tyP4b.tyF:=ad @ef (ad @cJ (ad @x7 (ad @cM (ad @eg (ad @dJ (ad @eC (ad @fw (@Fq))))))))
open tyP4b
noncomputable def JJ:{c:SC // aG 111 (f89.body.getD .skip)=c}:=by
 refine⟨?_,?_⟩;rotate_left
 .simp only[f89,bK,aG,bF,bw,bH,bI,Nat.blt,Nat.ble];rfl
mutual
theorem JK:∀(x:Ex) (d:Int),jF (fun x _=>sw x) x d=iq x
 | .mk k n s o C,d=>by rw[jF,iq,JL C,Bool.and_comm]
theorem JL:∀(l:qC) (d:Int),fT (fun x _=>sw x) l d=iO l
 |[],_=>rfl
 |x::l,d=>by rw[fT,iO,JK x,JL l]
end
def CS{l:qs}(Y:∀m,dR l 85 m=wj.sp m)(Z:∀m,dR l 123 m=wm.sp m)(V:(∀m,dR l 88 m=none)/\lW l 88=false)(o:(∀m,dR l 87 m=none)/\lW l 87=false)
 (x:Ex) (O:x.sz<2^60) (H:Hp):aX prog (aK pls l) 87 [.agg x.cells,.int .i64 0,.a9 88 []] H fun v H'=>v=.bool (iq x)/\FrB 0 H H':=by
 have I:rq 0 fun _:Hp=>True:=fun _ _ _ _=>trivial;refine aL ?_ (uq (dK o.1 o.2) I (UA Y Z V I) (x.sz+1) x (ct _) 0 H O (db _) trivial);rintro v H' ⟨rfl,W,_⟩;exact⟨by rw[JK],W⟩
def mU(x:Ex)(w:Bool):Bool:=bif w then iq x else zeroE x
noncomputable def CT:qs:=[wj,wm,JG]
def UB:iN prog ρ CT:=⟨JE ρ,JF ρ,Uz ρ,trivial⟩
theorem UC(x:Ex)(w:Bool)(O:x.sz<2^60):cp prog ρ 126 [.agg x.cells,.bool w] (.bool (mU x w)):=fI fit (pls:=pls) (UB ρ) (.cons (.agg x.pure) (.cons (.bool _) .nil)) (.bool _) (by
 have V:zaa (aK pls CT) 126:=dK (fun _=>rfl) rfl;have Z:∀y:Ex,∀H,aX prog (aK pls CT) 143 [.agg y.cells] H fun v H'=>v=.bool (zeroE y)/\H'=H:=fun y H=>ev (enc:=vI) (out:=fun x=>.bool (zeroE x)) QW (x:=y) rfl trivial;cases w
 .refine bA (M:=10) (rs:=[.tmp 4]) (V.call _) V.aF V.ak func126 rfl rfl zC.2 rfl ?_;dsimp only[zC,bt,Nat.reduceAdd];repeat' (first
   |(apply aj ?_;clear hK K)|apply Rx.o ?_|(apply mK ?_;first|refine Rx.k (Z _ _) ?_)|(apply aO (fun C L=>?_) (fun C L=>?_)<;>try(cases C;done))|apply ai ?_|(apply ah fun K hK=>?_)|apply am ?_|apply au ?_)
  all_goals refine qq ?_
  rfl
 .refine bA (M:=10) (rs:=[.tmp 4]) (V.call _) V.aF V.ak func126 rfl rfl zC.2 rfl ?_;dsimp only[zC,bt,Nat.reduceAdd];repeat' (first
   |(apply aj ?_;clear hK K)|apply Rx.o ?_|(apply aO (fun C L=>?_) (fun C L=>?_)<;>try(cases C;done))|apply ai ?_|(apply ah fun K hK=>?_)|apply am ?_|apply au ?_)
  refine qc ?_;refine aL ?_ (CS (fun _=>rfl) (fun _=>rfl) ⟨fun _=>rfl,rfl⟩ ⟨fun _=>rfl,rfl⟩ x O _);rintro v H ⟨rfl,_⟩;dsimp only[aI];repeat' (first
   |(apply aj ?_;clear hK K)|apply Rx.o ?_|(apply aO (fun C L=>?_) (fun C L=>?_)<;>try(cases C;done))|apply ai ?_|(apply ah fun K hK=>?_)|apply am ?_|apply au ?_)
  all_goals refine qq ?_
  rfl)
def bp(k:Int)(i:Nat):Bool:=(sX k).getD i false
theorem UD(k:Int):(sX k).map AV.bool=[.bool (bp k 0),.bool (bp k 1),.bool (bp k 2),.bool (bp k 3),.bool (bp k 4),.bool (bp k 5),.bool (bp k 6),.bool (bp k 7)]:=by
 have h:∃a b c d e f g h,sX k=[a,b,c,d,e,f,g,h]:=by
  unfold sX;repeat' split
  all_goals exact⟨_,_,_,_,_,_,_,_,rfl⟩
 obtain⟨a,b,c,d,e,f,g,h,M⟩:=h;simp only[bp,M];rfl
def nV(x:St):Bool:=
 iT x.ah&&kq x.name (bp x.ah 0)&&kq x.to (bp x.ah 1)&&mU x.aW (bp x.ah 3)&&mU x.value (bp x.ah 4) &&
 !decide (x.n<0) && !decide (1000000<x.n)&&(bp x.ah 2||decide (x.n=0))&&(bp x.ah 5 || !decide ((0:Int)<x.args.length))&&(bp x.ah 6 || !decide ((0:Int)<x.a8.length))&&(bp x.ah 7 || !decide ((0:Int)<x.bA.length))&&iO x.args
def wn(x:St):Bool:=decide (x.n<0)||decide (1000000<x.n)||(!bp x.ah 2 && !decide (x.n=0))||(!bp x.ah 5&&decide ((0:Int)<x.args.length))||(!bp x.ah 6&&decide ((0:Int)<x.a8.length))||(!bp x.ah 7&&decide ((0:Int)<x.bA.length))
noncomputable def JM:En:=⟨124,false,dA (fun _=>True) (fun n:Int=>[.int .i64 n]) ut⟩
def UE:eu prog ρ JM:=eY fun x _=>Uw ρ x
def wo(x:qn×Bool):ql:=[.ag x.1,.bool x.2]
def UF(x y:qn×Bool)(h:wo x=wo y):x=y:=by
 simp only[wo,eU,AV.ag.injEq,AV.bool.injEq,bu]at h;exact Prod.ext h.1 h.2
noncomputable def JN:En:=⟨125,false,dA (fun x=>x.1.length<2^60) wo fun x=>.bool (kq x.1 x.2)⟩
def UG:eu prog ρ JN:=eY fun x O=>Uu ρ x.1 x.2 O
def wq(x:Ex×Bool):ql:=[.agg x.1.cells,.bool x.2]
def UH(x y:Ex×Bool)(h:wq x=wq y):x=y:=by
 simp only[wq,eU,AV.agg.injEq,AV.bool.injEq,bu]at h;exact Prod.ext (Ex.inj h.1) h.2
noncomputable def JO:En:=⟨126,false,dA (fun x=>x.1.sz<2^60) wq fun x=>.bool (mU x.1 x.2)⟩
def UI:eu prog ρ JO:=eY fun x O=>UC ρ x.1 x.2 O
noncomputable def JP:En:=⟨86,false,dA (fun l=>eN l<2^60) (fun l:qm=>[cW l]) fun l=>.bool (l.all dt)⟩
def UJ:eu prog ρ JP:=eY fun x O=>Ut ρ x O
def UK(x y:qm)(h:([cW x]:ql)=[cW y]):x=y:=by
 simp only[eU,AV.aq.injEq,bu]at h;exact yn h
noncomputable def nW:qs:=[wj,wm,JM,JN,JO,JP]
def UL:iN prog ρ nW:=⟨JE ρ,JF ρ,UE ρ,UG ρ,UI ρ,UJ ρ,trivial⟩
def UM:bp 1 0=true/\bp 1 1=false/\bp 1 2=false/\bp 1 3=false/\bp 1 4=true/\bp 1 5=false/\bp 1 6=false/\bp 1 7=false/\iT 1=true:=sY
def UN:bp 2 0=true/\bp 2 1=false/\bp 2 2=false/\bp 2 3=true/\bp 2 4=true/\bp 2 5=false/\bp 2 6=false/\bp 2 7=false/\iT 2=true:=sY
def UO:bp 3 0=false/\bp 3 1=false/\bp 3 2=false/\bp 3 3=false/\bp 3 4=true/\bp 3 5=false/\bp 3 6=true/\bp 3 7=true/\iT 3=true:=sY
def UP:bp 4 0=false/\bp 4 1=false/\bp 4 2=false/\bp 4 3=false/\bp 4 4=true/\bp 4 5=false/\bp 4 6=true/\bp 4 7=false/\iT 4=true:=sY
def UQ:bp 5 0=false/\bp 5 1=false/\bp 5 2=false/\bp 5 3=false/\bp 5 4=true/\bp 5 5=false/\bp 5 6=false/\bp 5 7=false/\iT 5=true:=sY
def UR:bp 6 0=true/\bp 6 1=true/\bp 6 2=false/\bp 6 3=false/\bp 6 4=false/\bp 6 5=true/\bp 6 6=false/\bp 6 7=false/\iT 6=true:=sY
def US:bp 7 0=false/\bp 7 1=false/\bp 7 2=true/\bp 7 3=false/\bp 7 4=false/\bp 7 5=false/\bp 7 6=false/\bp 7 7=false/\iT 7=true:=sY
set_option maxRecDepth 100000 in
def UT:wi (aK pls nW) 0 (fun(_:Unit) _=>True) 89 [] fun x _ s=>(nV x,s):=by
 intro x d s H hz _ _;have hw:zaa (aK pls nW) 89:=dK (fun _=>rfl) rfl;have kf:∀k H,aX prog (aK pls nW) 124 [.int .i64 k] H fun v H'=>v=.aO [.agg [.bool (bp k 0),.bool (bp k 1),.bool (bp k 2),.bool (bp k 3),.bool (bp k 4),.bool (bp k 5),.bool (bp k 6),.bool (bp k 7)],.bool (iT k)]/\H'=H:=fun k H=>by
  have:=ev (P:=prog) (pls:=pls) (l:=nW) (enc:=fun n:Int=>[.int .i64 n]) (ok:=fun _=>True) (out:=ut) Ra (g:=124) (x:=k) rfl trivial (H:=H);unfold ut at this;rw[UD]at this;exact this
 have km:∀(s:qn) (w:Bool),s.length<2^60->∀H,aX prog (aK pls nW) 125 [.ag s,.bool w] H fun v H'=>v=.bool (kq s w)/\H'=H:=fun s w h H=>ev (enc:=wo) (out:=fun x=>.bool (kq x.1 x.2)) UF (x:=(s,w)) rfl h;have kx:∀(y:Ex) (w:Bool),y.sz<2^60->∀H,aX prog (aK pls nW) 126 [.agg y.cells,.bool w] H fun v H'=>v=.bool (mU y w)/\H'=H:=fun y w h H=>ev (enc:=wq) (out:=fun x=>.bool (mU x.1 x.2)) UH (x:=(y,w)) rfl h;have hsz:=x.aV;have hlen:=tC x.args;have hx0:∀a b,Ab.extract (.aO [a,b]) 0=some a:=fun _ _=>rfl;have hx1:∀a b,Ab.extract (.aO [a,b]) 1=some b:=fun _ _=>rfl;refine bA (M:=111) (rs:=[.tmp 4]) (hw.call _) hw.aF hw.ak func89 rfl rfl JJ.2 rfl ?_;dsimp only[JJ,bt,Nat.reduceAdd];repeat' (first
  |(apply aj ?_;clear hK K)|apply Rx.o ?_|apply aD ?_|(apply mK ?_;first|refine Rx.k (kf _ _) ?_|refine Rx.k (km _ _ ac _) ?_|refine Rx.k (kx _ _ ac _) ?_)|apply ip ?_|(apply bz (fun L C=>?_) (fun L C=>?_)<;>try(cases L;done))|apply ai ?_|(apply ah fun K hK=>?_)|apply aq ?_|apply am ?_|apply au ?_|apply aw ?_)
 all_goals (first|(refine aO (t:=true) (h1:=fun _ _=>?_) (h2:=fun hzz _=>?_)<;>try(cases hzz;done))|skip)
 all_goals
  repeat' (first
   |(apply aj ?_;clear hK K)|apply Rx.o ?_|apply aD ?_|apply ip ?_|(apply bz (fun L C=>?_) (fun L C=>?_)<;>try(cases L;done))|apply ai ?_|(apply ah fun K hK=>?_)|apply aq ?_|apply am ?_|apply au ?_|apply aw ?_)
 all_goals (first|(refine⟨aP,_,bb,?_⟩;(try simp only[aN]);refine⟨JH,(((fU _ _).alloc _).alloc _).set (.inl (by(try simp only[bj]);omega)) _,trivial⟩;done)|skip)
 have o:FrB 0 H (((H.alloc (.cells x.cells 0 true)).alloc (.cells [.bool false,.bool false,.bool false,.bool false,.bool false,.bool false,.bool false,.bool false] 0 true)).set (H.next+1) (.cells [.bool (bp x.ah 0),.bool (bp x.ah 1),.bool (bp x.ah 2),.bool (bp x.ah 3),.bool (bp x.ah 4),.bool (bp x.ah 5),.bool (bp x.ah 6),.bool (bp x.ah 7)] 0 true)):=(((fU _ _).alloc _).alloc _).set (.inl ac) _;refine Rl [2,4,5,48] fun E' W=>?_;(try simp only[bN,bO,bu,aM,a0,Nat.reduceBEq,Nat.reduceAdd,Nat.reduceLeDiff,tyF, *]at W);generalize z:Hp.set _ (H.next+1) _=Hb at o⊢;have gb:Hb.get H.next=some (.cells x.cells 0 true):=by rw[<-z,bi,ao ac,aJ,ao eh,aJ,aB rfl]
 have gf:Hb.get (H.next+1)=some (.cells [.bool (bp x.ah 0),.bool (bp x.ah 1),.bool (bp x.ah 2),.bool (bp x.ah 3),.bool (bp x.ah 4),.bool (bp x.ah 5),.bool (bp x.ah 6),.bool (bp x.ah 7)] 0 true):=by rw[<-z,bi,aB rfl]
 have nb:H.next+2<=Hb.next:=by rw[<-z];exact az _
 clear z;refine aO (h1:=fun Y Z=>?_) (h2:=fun Y Z=>?_)
 .repeat' (first
   |(apply aj ?_;clear hK K)|apply Rx.o ?_|apply aD ?_|apply ip ?_|(apply bz (fun L C=>?_) (fun L C=>?_)<;>try(cases L;done))|apply ai ?_|(apply ah fun K hK=>?_)|apply aq ?_|apply am ?_|apply au ?_|apply aw ?_)
  all_goals refine qq ?_
  refine⟨JH,o,trivial⟩
 refine bU.skip ?_;dsimp only[lN,tB];refine ai ?_;first
 |refine ah fun K I=>?_
 |(simp only[bF,bw,bH,bI,Nat.blt,Nat.ble];refine ah fun K I=>?_)
 |(refine ai ?_;refine ah fun K I=>?_)
 have hK:∀m J,(m.at 2=.ptr H.next 0/\m.at 4=.bool false/\m.at 99=.bool (wn x)/\J=Hb)->K m J:=by
  rintro m J ⟨k2,k4,k99,rfl⟩;apply I;clear I K;dsimp only[lN,tB];have O:(iT x.ah&&kq x.name (bp x.ah 0)&&kq x.to (bp x.ah 1)&&mU x.aW (bp x.ah 3)&&mU x.value (bp x.ah 4))=true:=by(try simp only[ge]at *);simp only[ *,gg,cg,cm,Int.reduceEq]
  have V:nV x=(!wn x&&iO x.args):=by
   have e:nV x=((iT x.ah&&kq x.name (bp x.ah 0)&&kq x.to (bp x.ah 1)&&mU x.aW (bp x.ah 3)&&mU x.value (bp x.ah 4))&&(!wn x&&iO x.args)):=by
    simp only[nV,wn,ua,Bool.not_and,Bool.not_not,yL]
   rw[e,O,gm]
  repeat' (first
   |(apply aj ?_;clear hK K)|apply Rx.o ?_|apply aD ?_|apply ip ?_|(apply bz (fun L C=>?_) (fun L C=>?_)<;>try(cases L;done))|(apply aO (fun Y Z=>?_) (fun Y Z=>?_)<;>try(cases Y;done))|apply ai ?_|(apply ah fun K hK=>?_)|apply aq ?_|apply am ?_|apply au ?_|apply aw ?_)
  .all_goals refine qq ?_
   refine⟨by rw[V];(try simp only[ge]at *);simp only[ *,gg,cg,cm,Int.reduceEq],o,trivial⟩
  refine dz [2,4,101,102] [] 103 x.args.length (fun i E J=>iO x.args=iO (x.args.drop i)/\FrB 0 H J) eE ⟨aE,o⟩ ?_;rintro i E H3 hi W hrH hnH hsI ⟨hJ,hf2⟩;(try simp only[bN,bO,bu,aM,a0,Nat.reduceBEq,Nat.reduceAdd,Nat.reduceLeDiff,tyF, *]at W);(try simp only[bN,bO,bu,aM,a0,Nat.reduceBEq,Nat.reduceAdd,Nat.reduceLeDiff,tyF, *]at hrH);(try simp only[bj,bJ,cL,bX,Nat.reduceAdd]at hnH);repeat' (first
   |(apply aj ?_;clear hK K)|apply Rx.o ?_|apply aD ?_|apply ip ?_|(apply bz (fun L C=>?_) (fun L C=>?_)<;>try(cases L;done))|(apply aO (fun Y Z=>?_) (fun Y Z=>?_)<;>try(cases Y;done))|apply ai ?_|(apply ah fun K hK=>?_)|apply aq ?_|apply am ?_|apply au ?_|apply aw ?_)
  .have U:i<x.args.length:=by simpa using Y
   have hgx:x.args[i]?=some x.args[i]:=bc U;have hsm:=sd (dU U);have hdr:iO (x.args.drop i)=(iq x.args[i]&&iO (x.args.drop (i+1))):=by rw[eM U];rfl
   repeat' (first
    |(apply aj ?_;clear hK K)|apply Rx.o ?_|apply aD ?_|apply ip ?_|(apply bz (fun L C=>?_) (fun L C=>?_)<;>try(cases L;done))|(apply aO (fun Y Z=>?_) (fun Y Z=>?_)<;>try(cases Y;done))|apply ai ?_|(apply ah fun K hK=>?_)|apply aq ?_|apply am ?_|apply au ?_|apply aw ?_)
   refine qc ?_;refine aL ?_ (CS (fun _=>rfl) (fun _=>rfl) ⟨fun _=>rfl,rfl⟩ ⟨fun _=>rfl,rfl⟩ x.args[i] ac _);rintro v H4 ⟨rfl,hf4⟩;dsimp only[aI];have hf5:FrB 0 H H4:=hf2.trans ((((fU _ _).alloc _).set (.inl (az _)) _).trans hf4);have n4:=hf4.next
   simp only[bJ,bj]at n4;repeat' (first
    |(apply aj ?_;clear hK K)|apply Rx.o ?_|apply aD ?_|apply ip ?_|(apply bz (fun L C=>?_) (fun L C=>?_)<;>try(cases L;done))|(apply aO (fun Y Z=>?_) (fun Y Z=>?_)<;>try(cases Y;done))|apply ai ?_|(apply ah fun K hK=>?_)|apply aq ?_|apply am ?_|apply au ?_|apply aw ?_)
   all_goals (first|(refine⟨aP,_,bb,?_⟩;(try simp only[aN]);refine⟨by rw[V,hJ,hdr];(try simp only[ge]at *);simp only[ *,gg,cg,cm,Int.reduceEq],hf5,trivial⟩;done)|skip)
   refine⟨ac,bm,bm,cN,II,?_⟩;exact⟨by rw[hJ,hdr];(try simp only[ge]at *);simp only[ *,gg,cg,cm,Int.reduceEq],hf5⟩
  .all_goals refine qq ?_
   refine⟨by rw[V,hJ,show i=x.args.length by simp at Y;omega,oQ];(try simp only[ge]at *);simp only[iO, *,gg,cg,cm,Int.reduceEq],hf2,trivial⟩
 clear I;repeat' (first
  |(apply aj ?_;clear hK K)|apply Rx.o ?_|apply aD ?_|apply ip ?_|(apply bz (fun L C=>?_) (fun L C=>?_)<;>try(cases L;done))|apply ai ?_|(apply ah fun K hK=>?_)|apply aq ?_|apply am ?_|apply au ?_|apply aw ?_)
 all_goals
  refine⟨eE,eE,?_,rfl⟩;rw[wn];(try simp only[ge]at *);simp only[aM,Nat.reduceBEq, *,gg]
end
section
theorem UU(n:Nat):(!decide ((0:Int)<n))=decide ((n:Int)=0):=by
 cases n with
 |zero=>rfl
 |succ n=>simp;omega
def UV(n:Int):(!decide (n<0) && !decide (1000000<n)&&decide (n=0))=decide (n=0):=by
 by_cases h:n=0
 .subst h;rfl
 .simp[h]
def UW(n:Int):(!decide (n<0))=decide (0<=n):=by
 by_cases h:n<0
 .simp[h]
 .simp[h];omega
def UX(n:Int):(!decide (1000000<n))=decide (n<=1000000):=by
 by_cases h:1000000<n
 .simp[h]
 .simp[h];omega
def UY(x:St):nV x=mL x:=by
 have z:x.ah=1\/x.ah=2\/x.ah=3\/x.ah=4\/x.ah=5\/x.ah=6\/x.ah=7\/iT x.ah=false:=by
  simp only[iT,sr,iL];omega
 rcases z with z|z|z|z|z|z|z|z
 case inr.inr.inr.inr.inr.inr.inr=>
  have h:pQ x=false:=by
   simp only[iT,sr,iL]at z;unfold pQ;rw[ao ac,ao ac,ao ac,ao ac,ao ac,ao ac,ao ac]
  rw[nV,mL,z,h];simp
 all_goals
  have hr:=UV x.n;simp only[nV,mL,pQ,z,UM,UN,UO,UP,UQ,UR,US,tR,yy,kq,mU,gy,rV,cg,cm,Int.reduceEq,gm,kJ,jC,tt,UU,cE,reduceCtorEq];first
  |(rw[UW,UX];ac_rfl)
  |(rw[<-hr];ac_rfl)
mutual
theorem UZ:∀(x:St) (d:Int),iJ (fun x _ (s:Unit)=>(nV x,s)) x d ()=(sy x,())
 | .mk k z Y n a v C U V,d=>by
   rw[iJ,sy,UY];cases h:mL (.mk k z Y n a v C U V)with
   |false=>simp
   |true=>
    simp only[zE U,gm];cases m:lY U with
    |false=>simp
    |true=>simp only[zE V,gm]
theorem zE:∀(l:qy) (d:Int),dk (fun x _ (s:Unit)=>(nV x,s)) l d ()=(lY l,())
 |[],_=>rfl
 |x::l,d=>by
  rw[dk,lY,UZ x];cases h:sy x with
  |false=>simp
  |true=>simp only[zE l,gm]
end
def tyP4d.tyF:=ad @ef (ad @cJ (ad @cM (ad @kQ (ad @kR (ad @fW (ad @eg (ad @dJ (ad @io (ad @eC (ad @kc (ad @pJ (@fw))))))))))))
open tyP4d
noncomputable def JQ:{c:SC // aG 55 (f44.body.getD .skip)=c}:=by
 refine⟨?_,?_⟩;rotate_left
 .simp only[f44,bK,aG,bF,bw,bH,bI,Nat.blt,Nat.ble];rfl
def U0(f:Fu)(b:qn->Bool):(fnNames f).all b=(b f.name&&f.params.all b&&f.ai.all b):=by
 rw[fnNames,u5,u5,nL,oL,kJ]
set_option maxRecDepth 100000 in
theorem U1(p:Pr)(hz:p.sz<2^36):cp prog ρ 44 [.agg p.cells] (.bool (js p)):=fI fit (pls:=pls) (UL ρ) (.cons (.agg p.pure) .nil) (.bool _) (by
 have hw:zaa (aK pls nW) 44:=dK (fun _=>rfl) rfl;have kn:∀s:qn,s.length<2^60->∀H,aX prog (aK pls nW) 85 [.ag s] H fun v H'=>v=.bool (dt s)/\H'=H:=fun s h1 H=>ev (enc:=pL) (out:=fun x=>.bool (dt x)) BP (x:=s) rfl h1;have ks:∀l:qm,eN l<2^60->∀H,aX prog (aK pls nW) 86 [cW l] H fun v H'=>v=.bool (l.all dt)/\H'=H:=fun l h1 H=>ev (enc:=fun l:qm=>[cW l]) (out:=fun l=>.bool (l.all dt)) UK (x:=l) rfl h1;have hpz:p.sz=1+j6 p.af+j5 p.funcs:=rfl;have hla:=r8 p.af;have hlf:=r0 p.funcs;refine bA (M:=55) (rs:=[.tmp 2]) (hw.call _) hw.aF hw.ak func44 rfl rfl JQ.2 rfl ?_;dsimp only[JQ,bt,Nat.reduceAdd];repeat' (first
  |(apply aj ?_;clear hK K)|apply Rx.o ?_|apply aD ?_|(apply bz (fun Y C=>?_) (fun Y C=>?_)<;>try(cases Y;done))|(apply aO (fun Z L=>?_) (fun Z L=>?_)<;>try(cases Z;done))|apply ai ?_|(apply ah fun K hK=>?_)|apply aq ?_|apply am ?_|apply au ?_|apply aw ?_)
 refine dz [1,8,9] [0] 10 p.af.length (fun i E H=>p.af.all (fun a=>dt a.name)=(p.af.drop i).all (fun a=>dt a.name)) eE aE ?_;rintro i E H2 hi m U hnH hsI V;(try simp only[bN,bO,bu,aM,a0,Nat.reduceBEq,Nat.reduceAdd,Nat.reduceLeDiff,tyF, *]at m);(try simp only[bN,bO,bu,aM,a0,Nat.reduceBEq,Nat.reduceAdd,Nat.reduceLeDiff,tyF, *]at U);(try simp only[bj,bJ,cL,bX,Nat.reduceAdd]at hnH);have hB0:(0 == H2.next)=false:=bQ ac;have hC0:(H2.next == 0)=false:=bQ ac;repeat' (first
  |(apply aj ?_;clear hK K)|apply Rx.o ?_|apply aD ?_|(apply bz (fun Y C=>?_) (fun Y C=>?_)<;>try(cases Y;done))|(apply aO (fun Z L=>?_) (fun Z L=>?_)<;>try(cases Z;done))|apply ai ?_|(apply ah fun K hK=>?_)|apply aq ?_|apply am ?_|apply au ?_|apply aw ?_)
 .have O:i<p.af.length:=by simpa using Z
  have hgx:p.af[i]?=some p.af[i]:=bc O;have hsm:=Gf (dU O);have W:(p.af.drop i).all (fun a=>dt a.name)=(dt p.af[i].name&&(p.af.drop (i+1)).all (fun a=>dt a.name)):=wg;repeat' (first
   |(apply aj ?_;clear hK K)|apply Rx.o ?_|apply aD ?_|(apply mK ?_;first|refine Rx.k (kn _ ac _) ?_)|(apply bz (fun Y C=>?_) (fun Y C=>?_)<;>try(cases Y;done))|(apply aO (fun Z L=>?_) (fun Z L=>?_)<;>try(cases Z;done))|apply ai ?_|(apply ah fun K hK=>?_)|apply aq ?_|apply am ?_|apply au ?_|apply aw ?_)
  all_goals (first|(refine⟨aP,_,bb,?_⟩;(try simp only[aN]);rw[js,V,W];(try simp only[ge]at *);simp only[ *,gg,cg,cm,Int.reduceEq];done)|skip)
  refine⟨ac,bm,bm,cN,Cs,?_⟩;rw[V,W];(try simp only[ge]at *);simp only[ *,gg,cg,cm,Int.reduceEq]
 .have J:i=p.af.length:=by simp at Z;omega
  rw[J,oQ]at V;have z:p.af.all (fun a=>dt a.name)=true:=V;clear V J hsI hi;refine dz [20,21] [0] 22 p.funcs.length (fun i E H=>p.funcs.all nI=(p.funcs.drop i).all nI) eE aE ?_;rintro i E H3 hi m U hnH hsI V;(try simp only[bN,bO,bu,aM,a0,Nat.reduceBEq,Nat.reduceAdd,Nat.reduceLeDiff,tyF, *]at m);(try simp only[bN,bO,bu,aM,a0,Nat.reduceBEq,Nat.reduceAdd,Nat.reduceLeDiff,tyF, *]at U);(try simp only[bj,bJ,cL,bX,Nat.reduceAdd]at hnH);have hB0:(0 == H3.next)=false:=bQ ac;have hC0:(H3.next == 0)=false:=bQ ac;repeat' (first
   |(apply aj ?_;clear hK K)|apply Rx.o ?_|apply aD ?_|(apply bz (fun Y C=>?_) (fun Y C=>?_)<;>try(cases Y;done))|(apply aO (fun Z L=>?_) (fun Z L=>?_)<;>try(cases Z;done))|apply ai ?_|(apply ah fun K hK=>?_)|apply aq ?_|apply am ?_|apply au ?_|apply aw ?_)
  .have O:i<p.funcs.length:=by simpa using Z
   have hgx:p.funcs[i]?=some p.funcs[i]:=bc O;have hsm:=se (dU O);have hsz:p.funcs[i].sz=1+p.funcs[i].name.length+eN p.funcs[i].params+eN p.funcs[i].ai+dQ p.funcs[i].body+p.funcs[i].value.sz:=rfl;have W:(p.funcs.drop i).all nI=(nI p.funcs[i]&&(p.funcs.drop (i+1)).all nI):=wg;have o:nI p.funcs[i]=(dt p.funcs[i].name&&p.funcs[i].params.all dt&&p.funcs[i].ai.all dt&&lY p.funcs[i].body&&iq p.funcs[i].value):=by rw[nI,U0]
   repeat' (first
    |(apply aj ?_;clear hK K)|apply Rx.o ?_|apply aD ?_|(apply mK ?_;first|refine Rx.k (kn _ ac _) ?_|refine Rx.k (ks _ ac _) ?_)|(apply bz (fun Y C=>?_) (fun Y C=>?_)<;>try(cases Y;done))|(apply aO (fun Z L=>?_) (fun Z L=>?_)<;>try(cases Z;done))|apply ai ?_|(apply ah fun K hK=>?_)|apply aq ?_|apply am ?_|apply au ?_|apply aw ?_)
   .refine qc ?_;refine aL ?_ (CS (fun _=>rfl) (fun _=>rfl) ⟨fun _=>rfl,rfl⟩ ⟨fun _=>rfl,rfl⟩ p.funcs[i].value ac _);rintro v H4 ⟨rfl,hf4⟩;have hn4:=hf4.next
    simp only[bJ,bj]at hn4;have g4:H4.get H3.next=some (.cells p.funcs[i].cells 0 true):=by rw[hf4.get _ (db _) uc,bi,aB rfl]
    have g40:H4.get 0=some (.cells p.cells 0 true):=by rw[hf4.get _ (db _) uc,bi,ao ac,aJ,ao ac];exact U
    dsimp only[aI];repeat' (first
     |(apply aj ?_;clear hK K)|apply Rx.o ?_|apply aD ?_|(apply bz (fun Y C=>?_) (fun Y C=>?_)<;>try(cases Y;done))|(apply aO (fun Z L=>?_) (fun Z L=>?_)<;>try(cases Z;done))|apply ai ?_|(apply ah fun K hK=>?_)|apply aq ?_|apply am ?_|apply au ?_|apply aw ?_)
    .refine qc ?_;refine aL ?_ (ur (dK (fun _=>rfl) rfl) (I:=fun(_:Unit) _=>True) (fun _ _ _ _ _=>trivial) UT (dQ p.funcs[i].body+1) p.funcs[i].body ac 0 () H4 ac (db _) trivial);rintro v H5 ⟨rfl,hf5,_⟩;have hn5:=hf5.next
     have g50:H5.get 0=some (.cells p.cells 0 true):=by rw[hf5.get _ (db _) ac];exact g40
     rw[zE];dsimp only[aI];repeat' (first
      |(apply aj ?_;clear hK K)|apply Rx.o ?_|apply aD ?_|(apply bz (fun Y C=>?_) (fun Y C=>?_)<;>try(cases Y;done))|(apply aO (fun Z L=>?_) (fun Z L=>?_)<;>try(cases Z;done))|apply ai ?_|(apply ah fun K hK=>?_)|apply aq ?_|apply am ?_|apply au ?_|apply aw ?_)
     all_goals (first|(refine⟨aP,_,bb,?_⟩;(try simp only[aN]);rw[js,z,V,W,o];(try simp only[ge]at *);simp only[ *,gg,cg,cm,Int.reduceEq];done)|skip)
     refine⟨ac,bm,bm,cN,sO,?_⟩;rw[V,W,o];(try simp only[ge]at *);simp only[ *,gg,cg,cm,Int.reduceEq]
    all_goals skip
    all_goals (first|(refine⟨aP,_,bb,?_⟩;(try simp only[aN]);rw[js,z,V,W,o];(try simp only[ge]at *);simp only[ *,gg,cg,cm,Int.reduceEq];done)|skip)
   all_goals skip
   all_goals (first|(refine⟨aP,_,bb,?_⟩;(try simp only[aN]);rw[js,z,V,W,o];(try simp only[ge]at *);simp only[ *,gg,cg,cm,Int.reduceEq];done)|skip)
  .all_goals refine qq ?_
   have J:i=p.funcs.length:=zb;rw[J,oQ]at V;have hJ2:p.funcs.all nI=true:=V;rw[js,z,hJ2];rfl)
end
section
def tyP4h.tyF:=ad @kQ (ad @kR (@fW))
open tyP4h
noncomputable def JR:{c:SC // aG 16 (f18.body.getD .skip)=c}:=by
 refine⟨?_,?_⟩;rotate_left
 .simp only[f18,bK,aG,bF,bw,bH,bI,Nat.blt,Nat.ble];rfl
noncomputable def JS:En:=⟨43,false,dA (fun p=>p.sz<2^36) ey fun p=>.bool (iZ p)⟩
def U2(p:Pr)(z:p.sz<2^36):cp prog ρ 43 (ey p) (.bool (iZ p)):=fI fit (pls:=pls) (l:=[]) trivial (.cons (.agg p.pure) .nil) (.bool _) (T8 ⟨fy _,fy _,fy _,fy _⟩ (fy _) (fy _) (fy _) p ac)
def U3:eu prog ρ JS:=eY fun p hp=>U2 ρ p hp
noncomputable def JT:En:=⟨44,false,dA (fun p=>p.sz<2^36) ey fun p=>.bool (js p)⟩
def U4:eu prog ρ JT:=eY fun p hp=>U1 ρ p hp
noncomputable def JU:En:=⟨45,false,dA (fun p=>p.sz<2^36) ey fun p=>.bool (l4 p)⟩
def U5:eu prog ρ JU:=eY fun p hp=>Tt ρ p hp
noncomputable def JV:En:=⟨46,false,dA (fun p=>p.sz<2^36) ey fun p=>.int .i64 (sM p)⟩
def U6:eu prog ρ JV:=eY fun p hp=>T7 ρ p hp
noncomputable def uu:qs:=[JS,JT,JU,JV]
def U7:iN prog ρ uu:=⟨U3 ρ,U4 ρ,U5 ρ,U6 ρ,trivial⟩
def U8(p:Pr)(z:p.sz<2^36):cp prog ρ 18 (ey p) (.int .i64 (jc p)):=fI fit (pls:=pls) (U7 ρ) (.cons (.agg p.pure) .nil) (.int _ _) (by
 have V:zaa (aK pls uu) 18:=dK (fun _=>rfl) rfl;have Z:∀H,aX prog (aK pls uu) 43 [.agg p.cells] H fun v H'=>v=.bool (iZ p)/\H'=H:=fun H=>ev (enc:=ey) (out:=fun p=>.bool (iZ p)) pO (x:=p) rfl z;have Y:∀H,aX prog (aK pls uu) 44 [.agg p.cells] H fun v H'=>v=.bool (js p)/\H'=H:=fun H=>ev (enc:=ey) (out:=fun p=>.bool (js p)) pO (x:=p) rfl z;have I:∀H,aX prog (aK pls uu) 45 [.agg p.cells] H fun v H'=>v=.bool (l4 p)/\H'=H:=fun H=>ev (enc:=ey) (out:=fun p=>.bool (l4 p)) pO (x:=p) rfl z;have W:∀H,aX prog (aK pls uu) 46 [.agg p.cells] H fun v H'=>v=.int .i64 (sM p)/\H'=H:=fun H=>ev (enc:=ey) (out:=fun p=>.int .i64 (sM p)) pO (x:=p) rfl z;rw[ey,<-Tb];refine bA (M:=16) (rs:=[.tmp 2]) (V.call _) V.aF V.ak func18 rfl rfl JR.2 rfl ?_;dsimp only[JR,bt,Nat.reduceAdd];repeat' (first
  |(apply aj ?_;clear hK K)|apply Rx.o ?_|(apply mK ?_;first|refine Rx.k (Z _) ?_|refine Rx.k (Y _) ?_|refine Rx.k (I _) ?_|refine Rx.k (W _) ?_)|(apply aO (fun C L=>?_) (fun C L=>?_)<;>try(cases C;done))|apply ai ?_|(apply ah fun K hK=>?_)|apply aq ?_|apply am ?_|apply au ?_)
 all_goals
  all_goals refine qq ?_
  rw[Cn];(try simp only[ge]at *);simp only[py,cE, *,gg,cg,cm,Int.reduceEq])
end
section
noncomputable def CU:En:=⟨18,true,dA (fun p=>p.sz<2^36) ey fun p=>.int .i64 (jc p)⟩
def U9:eu prog ρ CU:=eY fun p hp=>U8 ρ p hp
def tyLoL.tyF:=ad @cJ (ad @cM (ad @jH (ad @kQ (ad @ER (ad @ET (ad @lT (ad @Bu (ad @vD (ad @kR (ad @fW (ad @lU (ad @dJ (ad @io (ad @eC (ad @kc (ad @pJ (ad @kT (@mH))))))))))))))))))
open tyLoL
noncomputable def zF:{c:SC // aG 84 (f11.body.getD .skip)=c}:=by
 refine⟨?_,?_⟩;rotate_left
 .simp only[f11,bK,aG,bF,bw,bH,bI,Nat.blt,Nat.ble];rfl
theorem JW:∀(l:List bB) (i:Nat) (m:List (bB×Int)),l.Nodup->∀z,di (dp l i m) z=if bR l z=true then ((i+ce l z:Nat):Int)else di m z
 |[],i,m,_,z=>rfl
 |a::l,i,m,h,z=>by
  obtain⟨o,Z⟩:=List.nodup_cons.1 h;have U:bR (a::l) z=(decide (a=z)||bR l z):=rfl;rw[dp,JW l (i+1) _ Z z,U];by_cases e:a=z
  .subst e;have M:bR l a=false:=by
    rw[bR,xm];intro x O hd;exact o (by rw[<-p8 hd];exact O)
   rw[M,ao aE,sL,aB rfl,p7 rfl,tt,aB rfl,ce,aB rfl,kE]
  .rw[p9 e,jC,ce,ao e];by_cases c:bR l z=true
   .rw[aB c,aB c,aB c,show i+1+ce l z=i+(ce l z+1) by omega]
   .rw[ao c,ao c,sL,ao (fun h=>e h.symm)]
theorem Va:∀(l:List bB) (z:bB),bR l z=false->ce l z=0
 |[],_,_=>rfl
 |a::l,z,h=>by
  have U:bR (a::l) z=(decide (a=z)||bR l z):=rfl;rw[U,ig,iL]at h;rw[ce,ao h.1,h.2];rfl
theorem JX(h:l.Nodup)(nm:bB):di (dp l 0 []) nm=ce l nm:=by
 rw[JW l 0 [] h nm];by_cases c:bR l nm=true
 .rw[aB c,bX]
 .rw[ao c,Va l nm (by simpa using c)];rfl
def zah.fnNames(h:zah p)(o:f∈p.funcs):(f.params++f.ai).Nodup:=by
 have hd:=h.du;rw[oI,yX,ig,ig]at hd;have:=xm.1 hd.2.2 f o;exact CE _ _ (by simpa using this)
def Vb(Y:zah p)(o:f∈p.funcs){X:Lx}(V:X.p=p)(J:X.ae=dp (p.af.map (·.name)) 0 [])(W:X.fe=iw p.funcs 0 []):zak (X.nx (dp (f.params++f.ai) 0 [])) (jQ p f) where
 ar:=V▸rfl
 ae nm:=by
  show di X.ae nm=_;rw[J];exact JX Y.dL nm
 ne nm:=JX (Y.fnNames o) nm
 fe nm h:=by
  show di X.fe nm=_;rw[W];exact Ii nm p.funcs [] 0 [] Y.am.2 h
theorem zaf.of(h:∀e∈tb,CG e.f=false):zaf tb:=⟨fun f o=>by
 have z:∀e∈tb,Nat.beq e.f f=false:=fun e Z=>by
  cases W:Nat.beq e.f f with
  |false=>rfl
  |true=>rw[<-gM W,h e Z]at o;cases o
 clear h;induction tb with
 |nil=>exact⟨fun _=>rfl,rfl⟩
 |cons e l ih=>
  obtain⟨Y,C⟩:=ih fun x O=>z x (fR _ O)
  have Z:=z e eL;exact⟨fun m=>by simp only[dR,Z];exact Y m,by simp only[lW,nF]at C⊢;simp only[Z,jI,jC];exact C⟩⟩
def Vc(h:i<l.length):dp (l.take (i+1)) 0 []=setV (dp (l.take i) 0 []) l[i] (i:Int):=by
 rw[kD,bc h];show dp (l.take i++[l[i]]) 0 []=_;rw[zt,iD,th ac,bX]
theorem JY:∀(l:qH) (f:Fu) (i:Nat) (m:List (bB×Int)),iw (l++[f]) i m=setV (iw l i m) f.name ((i+l.length:Nat):Int)
 |[],f,i,m=>rfl
 |b::l,f,i,m=>by
  rw[mJ,iw,JY l f (i+1),iw,cy,show i+1+l.length=i+(l.length+1) by omega]
def Vd{l:qH}(h:i<l.length):iw (l.take (i+1)) 0 []=setV (iw (l.take i) 0 []) (l[i]).name (i:Int):=by
 rw[kD,bc h];show iw (l.take i++[l[i]]) 0 []=_;rw[JY,iD,th ac,bX]
def CV(p:Pr)(n:Nat):Prop:=∀f∈p.funcs,∃s v,eD (jQ p f) n f.body (ki f)=some s/\dE (jQ p f) n f.value s=some v/\Fin v.2
def zG(H':Hp)(u:Un)(e:Int)(v:AV):Prop:=∃cs S,v=.aO [.agg cs,.int .i64 e]/\bW S 5 H' cs u.cells
def Ve(H:Hp)(l:List Ar)(W:l.length<2^36):∃M H',cY prog false H 23 23 .aa (.aq (l.map Ar.cells))=some (M,H')/\b7 (fun k=>H.next<=k) 1 H' 2 M (l.map Ar.cells)/\H.next<=H'.next/\(∀k,k<H.next->H'.get k=H.get k):=by
 have z:∀x∈l.map Ar.cells,x.length=2:=fun x O=>by obtain⟨a,_,rfl⟩:=lJ.1 O;exact a.a7
 have O:=Rt (H:=H) z;rw[dh]at O;by_cases c:l=[]
 .subst c;refine⟨.aa,H,?_,.inl ⟨rfl,rfl⟩,az _,fun _ _=>rfl⟩;simp only[cY,underlying23,vE,ya,yb,show hB prog 23=true by kernel_rfl,fP,O]
 .obtain⟨m,Z⟩:∃m,l.length=m+1:=⟨l.length-1,by have:=vT.2 c;omega⟩;rw[Z]at O;refine⟨.sl H.next 0 (m+1) 2,H.alloc (.cells (l.map Ar.cells).flatten 0 true),append_nil underlying23 vE ya yb aF O (Gs l) rfl CR CR,.inr ⟨H.next,0,l.map Ar.cells,by rw[dh,Z],az _,ct _,jB,db _,Gq l⟩,dB _,fun k Y=>fC⟩
def Vf(H:Hp){cs:ql}(h:cs.length=5)(h1:cs.all AV.one=true):ec prog H 24 1 [(0,.agg cs)]=some (.sl H.next 0 1 5,H.alloc (.cells cs 0 true)):=by
 obtain⟨a,b,c,d,e,rfl⟩:=gw h;kernel_rfl
def Vg(p:Pr)(W rn:Nat):dF prog 86 [(0,.agg p.cells),(1,.map 2),(2,.map 3),(4,.map W),(5,.map rn)]=some (.agg [.aq (p.af.map Ar.cells),.aq (p.funcs.map Fu.cells),.map 2,.map 3,.aa,.map W,.map rn,.aa,.int .i64 0,.int .i64 0]):=aF
def Vh{O:AV}{l:qz}(nm:qn)(np v st:Int)(h:b7 S 2 H 3 O (l.map Nd.cells)):bW S 3 H [.ag nm,.int .i64 np,O,.int .i64 v,.int .i64 st] (Gr.mk nm np l v st).cells:=
 .cons (.ag _) (.cons (.int _ _) (.cons h.rd (.cons (.int _ _) (.cons (.int _ _) .nil))))
structure Smr (n:Nat) (H H':Hp):Prop where
 get:∀k,4<=k->k<n->H'.get k=H.get k
abbrev qg:HB:=.cells [.aa,.aa] 0 true
set_option maxRecDepth 100000 in
theorem Vi(hG:zaf tb)(hC:∀ar,dR tb 18 ar=CU.sp ar)(hL:zaa (aK pls tb) 11)(p:Pr)(hz:p.sz<2^34)(hok:jc p=0->CV p n)(h:sQ p n=some (u,e)):
 aX prog (aK pls tb) 11 [.agg p.cells] bE (fun v H'=>zG H' u e v):=by
 have hw:=hL;have hkeep:(aK pls tb).keep 11=false:=rfl;have hchk:∀H,aX prog (aK pls tb) 18 [.agg p.cells] H fun v H'=>v=.int .i64 (jc p)/\H'=H:=fun H=>ev (enc:=ey) (ok:=fun p=>p.sz<2^36) (out:=fun p=>.int .i64 (jc p)) pO (x:=p) (hC _) ac;have hpz:p.sz=1+j6 p.af+j5 p.funcs:=rfl;have hla:=r8 p.af;have hlf:=r0 p.funcs;unfold sQ at h;by_cases hc:jc p=0
 .rw[aB hc]at h;have hv:=Tv hc;have hok:=hok hc;obtain⟨av,V,aa,ra,na,qa⟩:=Ve ((((bE.alloc (.cells p.cells 0 true)).alloc qg).alloc (.map [])).alloc (.map [])) p.af ac;obtain⟨ha1,ha2⟩:=ra.one;have bUn:dF prog 26 [(0,av)]=some (.agg [av,.aa]):=by
   rcases ra with⟨rfl,_⟩|⟨q,im,rows,rfl,_⟩<;>kernel_rfl
  have bUn0:dF prog 26 []=some (.agg [.aa,.aa]):=aF;have na4:4<=V.next:=na
  have q0:V.get 0=some (.cells p.cells 0 true):=by rw[qa 0 zD];simp[aJ,bj,cL]
  have q1:V.get 1=some qg:=by rw[qa 1 zD];simp[aJ,bj,cL]
  have q2:V.get 2=some (.map []):=by rw[qa 2 zD];simp[aJ,bj,cL]
  have q3:V.get 3=some (.map []):=by rw[qa 3 zD];simp[aJ,bj,cL]
  have ra':b7 (fun k=>4<=k/\k<V.next) 1 V 2 av (p.af.map Ar.cells):=ra.keep (fun k h1 O=>⟨O,h1⟩) (az _) fun _ _ _=>rfl;have q0s:∀b c,((V.alloc b).set V.next c).get 0=some (.cells p.cells 0 true):=fun b c=>by rw[bi,ao ac,aJ,ao ac];exact q0
  refine bA (M:=84) (rs:=[.cell 2 26,.tmp 3]) (hw.call _) hw.aF hw.ak func11 rfl rfl zF.2 rfl ?_;dsimp only[zF,bt,Nat.reduceAdd];repeat' (first
   |(apply aj ?_;clear hK K)|apply Ry.o ?_|apply bq ?_|(apply ch ?_;first|refine Rx.k (hchk _) ?_)|(apply aY (fun C L=>?_) (fun C L=>?_)<;>try(cases C;done))|apply ai ?_|(apply ah fun K hK=>?_)|apply aq ?_|apply am ?_|apply au ?_|apply aw ?_)
  clear aa qa ra na q0s;have gs:∀k,k<V.next->((V.alloc qg).set V.next (.cells [av,.aa] 0 true)).get k=V.get k:=fun k z=>vY
  refine dz [1,2,3,5,6,7,29,30] [] 31 p.af.length (fun i E Hi=>Hi.get 0=some (.cells p.cells 0 true)/\Hi.get 1=some qg/\Hi.get 2=some (.map (cu (dp ((p.af.map (·.name)).take i) 0 [])))/\Hi.get 3=some (.map [])/\Hi.get V.next=some (.cells [av,.aa] 0 true)/\Smr V.next V Hi) eE ⟨by rw[gs _ ac];exact q0,by rw[gs _ ac];exact q1,by rw[gs _ ac];exact q2,by rw[gs _ ac];exact q3,eT,⟨fun k _ z=>gs k z⟩⟩ ?_;clear gs;rintro i E Hi hi hcE hrH hnH hsI ⟨g0,g1,g2,g3,g7,W⟩;(try simp only[bN,bO,bu,aM,a0,Nat.reduceBEq,Nat.reduceAdd,Nat.reduceLeDiff,tyF, *]at hcE);(try simp only[bN,bO,bu,aM,a0,Nat.reduceBEq,Nat.reduceAdd,Nat.reduceLeDiff,tyF, *]at hrH);(try simp only[bj,bJ,cL,bX,Nat.reduceAdd]at hnH);have ni:V.next+1<=Hi.next:=hnH
  by_cases J:i<p.af.length
  .have hlt':(i:Int)<p.af.length:=by omega
   have hgx:p.af[i]?=some p.af[i]:=bc J;have hne:dp ((p.af.map (·.name)).take (i+1)) 0 []=setV (dp ((p.af.map (·.name)).take i) 0 []) (p.af[i]).name (i:Int):=by
    rw[Vc (by rw[dh];exact J),List.getElem_map]
   generalize p.af[i]=ar at *;rw[hne];have gA:∀b c k,k<Hi.next->((Hi.alloc b).set Hi.next c).get k=Hi.get k:=fun b c k z=>vY
   have g2a:∀b c,((Hi.alloc b).set Hi.next c).get 2=some (.map (cu (dp ((p.af.map (·.name)).take i) 0 []))):=fun b c=>by rw[gA b c 2 ac];exact g2
   have hup:=fun b c=>vW (P:=prog) (t:=83) underlying83 oT (g2a b c) ar.name (i:Int);repeat' (first
    |(apply aj ?_;clear hK K)|apply Ry.o ?_|apply bq ?_|(apply aY (fun C L=>?_) (fun C L=>?_)<;>try(cases C;done))|apply ai ?_|(apply ah fun K hK=>?_)|apply aq ?_|apply am ?_|apply au ?_|apply aw ?_)
   refine⟨ac,bm,bm,cN,Cs,?_⟩;have gB:∀b c m k,k<Hi.next->k≠2->(((Hi.alloc b).set Hi.next c).set 2 m).get k=Hi.get k:=fun b c m k z O=>by rw[bi,ao O];exact gA b c k z
   exact⟨by rw[gB _ _ _ _ ac ac];exact g0,by rw[gB _ _ _ _ ac ac];exact g1,eT,by rw[gB _ _ _ _ ac ac];exact g3,by rw[gB _ _ _ _ ac ac];exact g7,⟨fun k h1 O=>JI⟩⟩
  .have hlt':¬(i:Int)<p.af.length:=by omega
   have hti:(p.af.map (·.name)).take i=p.af.map (·.name):=fk (by rw[dh];omega);rw[hti]at g2;repeat' (first
    |(apply aj ?_;clear hK K)|apply Ry.o ?_|apply bq ?_|(apply aY (fun C L=>?_) (fun C L=>?_)<;>try(cases C;done))|apply ai ?_|(apply ah fun K hK=>?_)|apply aq ?_|apply am ?_|apply au ?_|apply aw ?_)
   refine dz [1,2,3,5,6,7,42,43] [] 44 p.funcs.length (fun j E Hj=>Hj.get 0=some (.cells p.cells 0 true)/\Hj.get 1=some qg/\Hj.get 2=some (.map (cu (dp (p.af.map (·.name)) 0 [])))/\Hj.get 3=some (.map (cu (iw (p.funcs.take j) 0 [])))/\Hj.get V.next=some (.cells [av,.aa] 0 true)/\Smr V.next V Hj) eE ⟨g0,g1,g2,g3,g7,W⟩ ?_;clear g0 g1 g2 g3 g7 W hti;rintro j E3 Hj hj hcE hrH hnH hsI ⟨g0,g1,g2,g3,g7,W⟩;(try simp only[bN,bO,bu,aM,a0,Nat.reduceBEq,Nat.reduceAdd,Nat.reduceLeDiff,tyF, *]at hcE);(try simp only[bN,bO,bu,aM,a0,Nat.reduceBEq,Nat.reduceAdd,Nat.reduceLeDiff,tyF, *]at hrH);(try simp only[bj,bJ,cL,bX,Nat.reduceAdd]at hnH);have nj:V.next+1<=Hj.next:=ac
   by_cases J:j<p.funcs.length
   .have hlt':(j:Int)<p.funcs.length:=by omega
    have hgx:p.funcs[j]?=some p.funcs[j]:=bc J;have hne:=Vd J;generalize p.funcs[j]=f at *;rw[hne];have gA:∀b c k,k<Hj.next->((Hj.alloc b).set Hj.next c).get k=Hj.get k:=fun b c k z=>vY
    have g3a:∀b c,((Hj.alloc b).set Hj.next c).get 3=some (.map (cu (iw (p.funcs.take j) 0 []))):=fun b c=>by rw[gA b c 3 ac];exact g3
    have hup:=fun b c=>vW (P:=prog) (t:=83) underlying83 oT (g3a b c) f.name (j:Int);repeat' (first
     |(apply aj ?_;clear hK K)|apply Ry.o ?_|apply bq ?_|(apply aY (fun C L=>?_) (fun C L=>?_)<;>try(cases C;done))|apply ai ?_|(apply ah fun K hK=>?_)|apply aq ?_|apply am ?_|apply au ?_|apply aw ?_)
    refine⟨ac,bm,bm,cN,sO,?_⟩;have gB:∀b c m k,k<Hj.next->k≠3->(((Hj.alloc b).set Hj.next c).set 3 m).get k=Hj.get k:=fun b c m k z O=>by rw[bi,ao O];exact gA b c k z
    exact⟨by rw[gB _ _ _ _ ac ac];exact g0,by rw[gB _ _ _ _ ac ac];exact g1,by rw[gB _ _ _ _ ac ac];exact g2,eT,by rw[gB _ _ _ _ ac ac];exact g7,⟨fun k h1 O=>JI⟩⟩
   .have hlt':¬(j:Int)<p.funcs.length:=by omega
    have htj:p.funcs.take j=p.funcs:=fk ac;rw[htj]at g3;repeat' (first
     |(apply aj ?_;clear hK K)|apply Ry.o ?_|apply bq ?_|(apply aY (fun C L=>?_) (fun C L=>?_)<;>try(cases C;done))|apply ai ?_|(apply ah fun K hK=>?_)|apply aq ?_|apply am ?_|apply au ?_|apply aw ?_)
    have hfl:oS p n (p.funcs.drop 0) []=some (u,e):=h;refine dz [1,2,5,6,7,55,56] [] 57 p.funcs.length (fun i E Z=>∃gs fv,oS p n (p.funcs.drop i) gs=some (u,e)/\Z.get 0=some (.cells p.cells 0 true)/\Z.get 1=some qg/\Z.get 2=some (.map (cu (dp (p.af.map (·.name)) 0 [])))/\Z.get 3=some (.map (cu (iw p.funcs 0 [])))/\Z.get V.next=some (.cells [av,fv] 0 true)/\b7 (fun k=>V.next<k) 3 Z 5 fv (gs.map Gr.cells)/\Smr V.next V Z/\gs.length=i) eE ⟨[],.aa,hfl,g0,g1,g2,g3,g7,.inl ⟨rfl,rfl⟩,W,rfl⟩ ?_;clear g0 g1 g2 g3 g7 W htj hfl h;rintro i5 E5 Z hk5 hcE hrH hnH hsI ⟨gs,fv,hJ,g0,g1,g2,g3,g7,rf,W,hgl⟩;(try simp only[bN,bO,bu,aM,a0,Nat.reduceBEq,Nat.reduceAdd,Nat.reduceLeDiff,tyF, *]at hcE);(try simp only[bN,bO,bu,aM,a0,Nat.reduceBEq,Nat.reduceAdd,Nat.reduceLeDiff,tyF, *]at hrH);(try simp only[bj,bJ,cL,bX,Nat.reduceAdd]at hnH);have nk:V.next+1<=Z.next:=ac
    obtain⟨hf1,hf2⟩:=rf.one;by_cases J:i5<p.funcs.length
    .have hlt':(i5:Int)<p.funcs.length:=by omega
     have hgx:p.funcs[i5]?=some p.funcs[i5]:=bc J;have hmem:=dU J;have hfsz:=se hmem;rw[eM J]at hJ;unfold oS at hJ;obtain⟨s,v,e1,e2,hF⟩:=hok _ hmem;generalize p.funcs[i5]=f at *;have hfn:ze p n f=some ⟨f.name,f.params.length,v.2.l,v.1,v.2.ab⟩:=by unfold ze;rw[e1];simp only[cQ];rw[e2];rfl
     rw[hfn]at hJ;simp only[cQ]at hJ;have nB:=Vg p (Z.next+1) (Z.next+2);have gAll:∀b0 c0 cz m2 bx k,k<Z.next->(((((Z.alloc b0).set Z.next c0).alloc cz).alloc m2).alloc bx).get k=Z.get k:=fun b0 c0 cz m2 bx k z=>by
      rw[aJ,ao jO,aJ,ao jO,aJ,ao jO,bi,ao ac,aJ,ao ac]
     have g0m:∀b0 c0,((Z.alloc b0).set Z.next c0).get 0=some (.cells p.cells 0 true):=fun b0 c0=>by rw[bi,ao ac,aJ,ao ac];exact g0
     have hfx:∀b0 cz m2 bx,(((((Z.alloc b0).set Z.next (.cells f.cells 0 true)).alloc cz).alloc m2).alloc bx).get Z.next=some (.cells f.cells 0 true):=fun b0 cz m2 bx=>by
      rw[aJ,ao jO,aJ,ao jO,aJ,ao jO,bi,aB rfl]
     repeat' (first
      |(apply aj ?_;clear hK K)|apply Ry.o ?_|apply bq ?_|(apply aY (fun C L=>?_) (fun C L=>?_)<;>try(cases C;done))|apply ai ?_|(apply ah fun K hK=>?_)|apply aq ?_|apply am ?_|apply au ?_|apply aw ?_)
     refine qc ?_;generalize hHb:Hp.alloc (Hp.alloc _ _) (.cells [.aq (p.af.map Ar.cells),.aq (p.funcs.map Fu.cells),.map 2,.map 3,.aa,.map (Z.next+1),.map (Z.next+2),.aa,.int .i64 0,.int .i64 0] 0 true)=Hb;have nb:Hb.next=Z.next+4:=by rw[<-hHb];rfl
     have old:∀k,k<Z.next->Hb.get k=Z.get k:=fun k z=>by rw[<-hHb];exact gAll _ _ _ _ _ k z
     have gt:Hb.get (Z.next+1)=some (.map []):=by
      rw[<-hHb,aJ,ao jO,aJ,ao jO,aJ,aB cC]
     have gn:Hb.get (Z.next+2)=some (.map []):=by
      rw[<-hHb,aJ,ao jO,aJ,aB cC]
     have gb:Hb.get (Z.next+3)=some (.cells [.aq (p.af.map Ar.cells),.aq (p.funcs.map Fu.cells),.map 2,.map 3,.aa,.map (Z.next+1),.map (Z.next+2),.aa,.int .i64 0,.int .i64 0] 0 true):=by
      rw[<-hHb,aJ,aB cC]
     clear hHb gAll g0m hfx nB;have hRb:zab (Lx.mk p (Z.next+3) 2 3 (Z.next+1) (Z.next+2) (dp (p.af.map (·.name)) 0 []) (iw p.funcs 0 []) []) Hb (fun _=>False) ⟨[],[],0,0⟩ .aa .aa:=
      ⟨gb,by show Hb.get 2=_;rw[old 2 ac];exact g2,by show Hb.get 3=_;rw[old 3 ac];exact g3,gt,gn,.inl ⟨rfl,rfl⟩,.inl ⟨rfl,rfl⟩,by show 2<3;omega,by show 3<Z.next+1;omega,by show Z.next+1<Z.next+2;omega,by show Z.next+2<Z.next+3;omega,by show Z.next+3<Hb.next;omega,fun _ h=>h.elim,fun _ h=>(wb h).elim⟩
     refine aL ?_ (TZ (X:=Lx.mk p (Z.next+3) 2 3 (Z.next+1) (Z.next+2) (dp (p.af.map (·.name)) 0 []) (iw p.funcs 0 []) []) hG (Vb hv hmem rfl rfl rfl) rfl e1 e2 hF ac hRb);clear hRb gb gt gn;rintro w H4 ⟨S4,U,rfl,nd4,n4,s4,q4⟩;dsimp only at nd4 q4;have old4:∀k,k<Z.next->H4.get k=Z.get k:=fun k z=>by rw[q4 k ac ac ac ac];exact old k z
     have hlen4:∀H',gh prog H' 30 U=some (.int .i64 v.2.l.length):=fun H'=>by
      have:=nd4.len (P:=prog) (t:=30) (H':=H') underlying30
      rwa [dh]at this
     obtain⟨hl1,hl2⟩:=nd4.one;clear q4 old;have n4':Z.next+4<=H4.next:=ac
     by_cases hbig:(2000:Int)<v.2.l.length
     .rw[aB hbig]at hJ;simp only[b9]at hJ;obtain⟨rfl,rfl⟩:=hJ;have g1a:∀b c,((H4.alloc b).set H4.next c).get 1=some qg:=fun b c=>by rw[bi,ao ac,aJ,ao ac,old4 1 ac];exact g1
      have ag0:cr 2 [.aa,.aa]=some (.agg [.aa,.aa]):=rfl;dsimp only[aI];repeat' (first
       |(apply aj ?_;clear hK K)|apply Ry.o ?_|apply bq ?_|(apply aY (fun C L=>?_) (fun C L=>?_)<;>try(cases C;done))|apply ai ?_|(apply ah fun K hK=>?_)|apply aq ?_|apply am ?_|apply au ?_|apply aw ?_)
      refine⟨aP,_,(by(try simp only[aM,a0,Nat.reduceBEq,Nat.reduceAdd,Nat.reduceLeDiff,tyF,cU,da,ag0, *]);first|done|with_reducible rfl),?_⟩;try simp only[aN]
      exact⟨_,fun _=>True,rfl,.cons .aa (.cons .aa .nil)⟩
     .rw[ao hbig]at hJ;have hone:([.ag f.name,.int .i64 f.params.length,U,.int .i64 v.1,.int .i64 v.2.ab]:ql).all AV.one=true:=by simp only[nL,oL,hl1];rfl
      have ag:cr 5 [.ag f.name,.int .i64 f.params.length,U,.int .i64 v.1,.int .i64 v.2.ab]=some (.agg [.ag f.name,.int .i64 f.params.length,U,.int .i64 v.1,.int .i64 v.2.ab]):=rfl;have hbs:=fun H=>Vf H (cs:=[.ag f.name,.int .i64 f.params.length,U,.int .i64 v.1,.int .i64 v.2.ab]) rfl hone;have g7a:∀b c,((H4.alloc b).set H4.next c).get V.next=some (.cells [av,fv] 0 true):=fun b c=>by rw[bi,ao ac,aJ,ao ac,old4 _ ac];exact g7
      have I:∀k,k<H4.next->(((H4.alloc qh).set H4.next (.cells [.ag f.name,.int .i64 f.params.length,U,.int .i64 v.1,.int .i64 v.2.ab] 0 true)).alloc (.cells [.ag f.name,.int .i64 f.params.length,U,.int .i64 v.1,.int .i64 v.2.ab] 0 true)).get k=H4.get k:=fun k z=>by
       rw[aJ,ao jO,bi,ao ac,aJ,ao ac]
      have hfq:∀k o m z',fv=.sl k o m z'->k<Z.next/\V.next<k:=fun k o m z' e=>by
       rcases rf with⟨h1,_⟩|⟨q,im,rows,h1,O,h3,_⟩
       .rw[h1]at e;cases e
       .rw[h1]at e;simp only[AV.sl.injEq]at e;rw[<-e.1];exact⟨h3,O⟩
      obtain⟨H7,a7,r7,n7,q7⟩:=BU (P:=prog) (t:=24) underlying24 Bt EU EV rfl aF (S':=fun k=>V.next<k)
       (rf.keep (S':=fun k=>V.next<k) (H':=((H4.alloc qh).set H4.next (.cells [.ag f.name,.int .i64 f.params.length,U,.int .i64 v.1,.int .i64 v.2.ab] 0 true)).alloc (.cells [.ag f.name,.int .i64 f.params.length,U,.int .i64 v.1,.int .i64 v.2.ab] 0 true)) (fun _ _ h=>h) jO fun k _ z=>by rw[I k ac,old4 k z])
       (fun _ _ h=>h) jO (r:=H4.next+1) (imm:=0) (row:=[.ag f.name,.int .i64 f.params.length,U,.int .i64 v.1,.int .i64 v.2.ab]) (w:=(Gr.mk f.name f.params.length v.2.l v.1 v.2.ab).cells) Cy rfl hone
       (Vh f.name f.params.length v.1 v.2.ab (nd4.keep (S':=fun k=>V.next<k/\∀o m z',fv≠.sl k o m z') (fun k h1 O=>⟨by have:=s4 k O;omega,fun o m z' e=>by have:=(hfq k o m z' e).1;have:=s4 k O;omega⟩) jO fun k z O=>I k O))
       tJ tJ
      rw[dh]at a7 r7;simp only[bj,bJ]at a7 r7 n7 q7;have old7:∀k,k<Z.next->(∀o m z',fv≠.sl k o m z')->H7.get k=Z.get k:=fun k h1 O=>by rw[q7 k ac O,I k ac,old4 k h1]
      have hlow:∀k,k<=V.next->∀o m z',fv≠.sl k o m z':=fun k z o m z' e=>by have:=(hfq k o m z' e).2;omega
      have g77:H7.get V.next=some (.cells [av,fv] 0 true):=by rw[old7 _ ac (hlow _ (az _))];exact g7
      have hJ':oS p n (p.funcs.drop (i5+1)) (gs++[Gr.mk f.name f.params.length v.2.l v.1 v.2.ab])=some (u,e):=hJ;have hmapg:(gs++[Gr.mk f.name f.params.length v.2.l v.1 v.2.ab]).map Gr.cells=gs.map Gr.cells++[(Gr.mk f.name f.params.length v.2.l v.1 v.2.ab).cells]:=aE;have Y:∀k,k<V.next->H7.get k=Z.get k:=fun k z=>old7 k ac (hlow k ac)
      clear I old7 hlow hfq old4 q7 hJ;dsimp only[aI];repeat' (first
       |(apply aj ?_;clear hK K)|apply Ry.o ?_|apply bq ?_|(apply aY (fun C L=>?_) (fun C L=>?_)<;>try(cases C;done))|apply ai ?_|(apply ah fun K hK=>?_)|apply aq ?_|apply am ?_|apply au ?_|apply aw ?_)
      refine⟨ac,bm,bm,cN,sO,?_⟩;have hs7:∀m k,k≠V.next->(H7.set V.next m).get k=H7.get k:=fun m k z=>jV
      refine⟨gs++[Gr.mk f.name f.params.length v.2.l v.1 v.2.ab],.sl (H4.next+2) 0 (gs.length+1) 5,hJ',by rw[hs7 _ _ ac,Y _ ac];exact g0,by rw[hs7 _ _ ac,Y _ ac];exact g1,by rw[hs7 _ _ ac,Y _ ac];exact g2,by rw[hs7 _ _ ac,Y _ ac];exact g3,by rw[bi,aB rfl,hgl],?_,⟨fun k h1 O=>by rw[hs7 _ _ ac,Y _ ac];exact W.get k h1 O⟩,by rw[em,hgl];rfl⟩;rw[hmapg];exact r7.keep (fun _ _ h=>h) (az _) fun k z _=>hs7 _ k ac
    .have hlt':¬(i5:Int)<p.funcs.length:=by omega
     have hd:p.funcs.drop i5=[]:=nG ac;rw[hd]at hJ;simp only[oS,b9]at hJ;obtain⟨rfl,rfl⟩:=hJ;have ag:cr 2 [av,fv]=some (.agg [av,fv]):=rfl;have rd1:=ra'.keep (S':=fun _=>True) (H':=Z.set 1 (.cells [av,fv] 0 true)) (fun _ _ _=>trivial) jt fun k z _=>by rw[bi,ao ac];exact W.get k z.1 z.2
     have rd2:=rf.keep (S':=fun _=>True) (H':=Z.set 1 (.cells [av,fv] 0 true)) (fun _ _ _=>trivial) jt fun k z _=>yp;have fin:zG (Z.set 1 (.cells [av,fv] 0 true)) ⟨p.af,gs⟩ 0 (.aO [.agg [av,fv],.int .i64 0]):=⟨_,fun _=>True,rfl,.cons (rd1.rd.up ac) (.cons (rd2.rd.up ac) .nil)⟩;clear rd1 rd2;repeat' (first
      |(apply aj ?_;clear hK K)|apply Ry.o ?_|apply bq ?_|(apply aY (fun C L=>?_) (fun C L=>?_)<;>try(cases C;done))|apply ai ?_|(apply ah fun K hK=>?_)|apply aq ?_|apply am ?_|apply au ?_|apply aw ?_)
     refine⟨aP,_,(by(try simp only[aM,a0,Nat.reduceBEq,Nat.reduceAdd,Nat.reduceLeDiff,tyF,cU,da,ag, *]);first|done|with_reducible rfl),?_⟩;try simp only[aN]
     exact fin
 .rw[ao hc,aC,eG]at h;obtain⟨rfl,rfl⟩:=h;have bUn0:dF prog 26 []=some (.agg [.aa,.aa]):=aF;refine bA (M:=84) (rs:=[.cell 2 26,.tmp 3]) (hw.call _) hw.aF hw.ak func11 rfl rfl zF.2 rfl ?_;dsimp only[zF,bt,Nat.reduceAdd];repeat' (first
   |(apply aj ?_;clear hK K)|apply Ry.o ?_|apply bq ?_|(apply ch ?_;first|refine Rx.k (hchk _) ?_)|(apply aY (fun C L=>?_) (fun C L=>?_)<;>try(cases C;done))|apply ai ?_|(apply ah fun K hK=>?_)|apply aq ?_|apply am ?_|apply au ?_|apply aw ?_)
  have ag0:cr 2 [.aa,.aa]=some (.agg [.aa,.aa]):=rfl;refine⟨aP,_,(by(try simp only[aM,a0,Nat.reduceBEq,Nat.reduceAdd,Nat.reduceLeDiff,tyF,cU,da,ag0, *]);first|done|with_reducible rfl),?_⟩;try simp only[aN]
  exact⟨_,fun _=>True,rfl,.cons .aa (.cons .aa .nil)⟩
theorem zG.wk{H':Hp}(h:zG H' u e v):∃m w,iceV H' m v=some w/\eP 60 w=.aO [.agg u.cells,.int .i64 e]:=by
 obtain⟨cs,S,rfl,I,o,Y⟩:=h;have V:cH S 100 H' (.agg cs) (.agg I):=cH.up (n:=6) ⟨I,o,rfl⟩ ac;obtain⟨Z,W⟩:=tU (S:=S) (n:=100) (H:=H') (fun k=>cH.iceV k) (l:=[.agg cs,.int .i64 e]) (k:=[.agg I,.int .i64 e]) ⟨V,tT ⟨.int _ _,trivial⟩,trivial⟩;refine⟨Z+1,.aO [.agg I,.int .i64 e],?_,?_⟩
 .have M:iceV H' (Z+1) (.aO [.agg cs,.int .i64 e])=match iceL (iceV H' Z) [.agg cs,.int .i64 e]with
   |some vs=>some (.aO vs)
   |none=>none:=rfl
  rw[M,W Z (az _)]
 .show AV.aO [.agg (I.map (eP 58)),.int .i64 e]=_;rw[Y 58 ac]
noncomputable def wr:qs:=[CU]
def Vj:iN prog ρ wr:=⟨U9 ρ,trivial⟩
theorem Vk:zaf wr:=zaf.of fun e z=>by
 rw[wr,tM]at z;subst z;rfl
def Vl(p:Pr)(z:p.sz<2^34)(V:jc p=0->CV p n)(h:sQ p n=some (u,e)):cp prog ρ 11 (ey p) (.aO [.agg u.cells,.int .i64 e]):=
 BT (n:=60) (cfg:=aK pls wr) fit (tz ρ) (fun g m r L=>iN.cn (l:=wr) (Vj ρ) g m r L) (.cons (.agg p.pure) .nil) (aL (fun v H' h=>h.wk) (Vi Vk (fun _=>rfl) (dK (fun _=>rfl) rfl) p z V h))
end
section
def wt(l:qx):AV:=.aq (l.map Tk.cells)
def sZ(s:qn):Prop:=s.length<=20000/\∃l,jG 20001 s 0=some l
def jy(s:qn):qx:=(jG 20001 s 0).getD []
theorem Vm(s:qn)(O:sZ s):cp prog ρ 23 [.ag s] (.aO [wt (jy s),.agg [.int .i64 0,.int .i64 0]]):=by
 obtain⟨U,l,W⟩:=O;have e:jy s=l:=by unfold jy;rw[W];rfl
 rw[e];refine BT (n:=60) (cfg:=aK pls lZ) fit (tz ρ) (fun g V r L=>iN.cn (l:=lZ) (RF ρ) g V r L) (.cons (.ag _) .nil) (aL (fun v H' h=>?_) (RI s 20001 l W U));obtain⟨lv,rfl,Z⟩:=h;obtain⟨u,o,M⟩:=Z.rd;have I:=o.up (m:=100) ac;obtain⟨Y,J⟩:=tU (S:=fun k=>1<=k) (n:=100) (H:=H') (fun k=>cH.iceV k) (l:=[lv,.agg [.int .i64 0,.int .i64 0]]) (k:=[u,.agg [.int .i64 0,.int .i64 0]]) ⟨I,⟨[.int .i64 0,.int .i64 0],⟨tT ⟨.int _ _,trivial⟩,tT ⟨.int _ _,trivial⟩,trivial⟩,rfl⟩,trivial⟩;refine⟨Y+1,.aO [u,.agg [.int .i64 0,.int .i64 0]],?_,?_⟩
 .have C:iceV H' (Y+1) (.aO [lv,.agg [.int .i64 0,.int .i64 0]])=match iceL (iceV H' Y) [lv,.agg [.int .i64 0,.int .i64 0]]with
   |some vs=>some (.aO vs)
   |none=>none:=rfl
  rw[C,J Y (az _)]
 .show AV.aO [eP 59 u,.agg [.int .i64 0,.int .i64 0]]=_;rw[M 59 ac];rfl
noncomputable def JZ:En:=⟨23,false,dA sZ (fun s=>[.ag s]) fun s=>.aO [wt (jy s),.agg [.int .i64 0,.int .i64 0]]⟩
def Vn:eu prog ρ JZ:=eY fun x O=>Vm ρ x O
def b7.at{Z:List ql}(h:b7 S n H z v Z){k o m Y:Nat}(e:v=.sl k o m Y):S k/\k<H.next:=by
 rcases h with⟨rfl,_⟩|⟨q,W,C,rfl,V,U,_⟩
 .cases e
 .simp only[AV.sl.injEq]at e;obtain⟨rfl,_⟩:=e;exact⟨V,U⟩
def Vo{P:Program}{t e:TypeId}{b:Nat}{zz:ql}(ht:P.underlying t=some (.slice e))(hs:br P e=some z)(hb:cw P e=some b)(hz:cj P e=some zz)(hzz:zz.length=z)(hsrc:hB P t=true)
 {O:Nat->Nat}{L:Nat}{Hb:Hp}{M:List ql} (h:b7 (fun q=>O q=L) n H z v M) (hn:H.next<=Hb.next) (hk:∀q,q<H.next->O q=L->Hb.get q=H.get q) {r imm:Nat}{row:ql} (hg:Hb.get r=some (.cells row imm true)) (hrow:row.length=z) (hone:row.all AV.one=true)
 (hb1:(M.length+1)*b<=cX) (hb2:M.length+1<=cX) :
 ∃H' U Z,cY P false Hb t t v (.sl r 0 1 z)=some (.sl Hb.next 0 (M.length+1) z,H')/\U.length=M.length*z/\Z<=M.length*z/\H'.get Hb.next=some (.cells (U++row) Z true)/\H'.next=Hb.next+1/\(∀q,q<Hb.next->(H.next<=q\/O q≠L)->H'.get q=Hb.get q) /\
  ∀(V:Hp) (rf:Nat) (W w:ql),Hb.next<V.next->(∀q,q≠rf->q<Hb.next->V.get q=H'.get q)->O rf≠L->rf<H.next->V.get Hb.next=some (.cells (U++W) Z true)->W.length=z->bW (fun q=>H.next<=q/\q<Hb.next) n Hb W w ->
   b7 (fun q=>(if H.next<=q then L else O q)=L) n V z (.sl Hb.next 0 (M.length+1) z) (M++[w]):=by
 have h':b7 (fun q=>q<H.next/\O q=L) n Hb z v M:=h.keep (fun k I Y=>⟨I,Y⟩) hn fun k I Y=>hk k Y I;obtain⟨H',J,Z,a1,a2,a3,a4,a5,a6,a7,a8⟩:=Gt ht hs hb hz hzz hsrc (S':=fun q=>(if H.next<=q then L else O q)=L) h' (fun k _ hS=>by show(if _ then _ else _)=L;rw[ao ac];exact hS.2) (by show(if _ then _ else _)=L;rw[aB hn]) hg hrow hone hb1 hb2;have fr:∀q,q<Hb.next->(H.next<=q\/O q≠L)->H'.get q=Hb.get q:=fun q I Y=>a7 q I fun o m z' e=>by
  have h3:=(h'.at e).1;rcases Y with Y|Y
  .omega
  .exact Y h3.2
 have hfl:J.flatten.length=M.length*z:=by rw[vK a3,a2]
 refine⟨H',J.flatten,Z,a1,hfl,by rw[<-hfl];exact a5,a4,a6,fr,fun V rf W w I Y h3 h4 h5 h6 hw=>?_⟩;have ne:∀k,(if H.next<=k then L else O k)=L->k≠rf:=fun k C e=>by
  subst e;rw[ao ac]at C;exact h3 C
 refine b7.of (S:=fun q=>(if H.next<=q then L else O q)=L) (aB hn) I a3 h6 h5 a5 (a8.aD (fun k _ h8=>h8) ac fun k C h8=>Y k (ne k C.1) (by have:=C.2;omega)) ?_;exact hw.aD (fun k C h8=>⟨aB h8.1,ac⟩) ac fun k C h8=>by rw[Y k ac h8,fr k h8 (.inl C.1)]
def Vp(i:Nat)(a b:ql):ql:=match i with
 |0=>a++b
 |_+1=>b++a
structure ProgX (i:Nat) (pt:Nat->Nat) (lo b b' n:Nat) (H:Hp) (ra rf:Nat) (x y:Int) (f g:Fu) (pf lf bf:AV) (vf:ql) (pg lg bg:AV) (vg:ql):Prop where
 hb:3<=b/\3<=b'/\(b+4<=b'\/b'+4<=b)
 hlo:lo<=H.next
 lab:∀q,q<lo->pt q=0
 ga:H.get ra=some (.cells [.ag [97],.int .i64 x,.ag [98],.int .i64 y] 0 true)
 gf:H.get rf=some (.cells (Vp i (Gu f.name pf lf bf vf) (Gu g.name pg lg bg vg)) 0 true)
 ltA:ra<H.next
 ltF:rf<H.next
 lra:pt ra=1
 lrf:pt rf=2
 F:FnL pt b n H f pf lf bf vf
 G:FnL pt b' n H g pg lg bg vg
section
variable {i:Nat} {pt:Nat -> Nat} {lo b b' n:Nat} {H:Hp} {ra rf:Nat} {x y:Int} {f g:Fu} {pf lf bf:AV} {vf:ql} {pg lg bg:AV} {vg:ql} (h:ProgX i pt lo b b' n H ra rf x y f g pf lf bf vf pg lg bg vg)
include h
omit h in
end
end
end Go.Proofs.Ytbflaciihaijgaa
