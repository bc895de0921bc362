/- Lemmas for the last file. -/
import Derived.Test.YtbflaciihaijgaaPEL
set_option linter.all false
set_option maxHeartbeats 32000000
namespace Go.Ab
set_option maxRecDepth 20000
open Go
variable{qd:Prop}
def wA(h:qd:=by refine⟨rfl,rfl,rfl,rfl,rfl,rfl,rfl,rfl,rfl⟩):=h
def Pa(h:qd:=by rw[rV];(try simp only[Bool.not_eq_true',Bool.not_eq_false']at *);simp only[*,decide_true,decide_false,Bool.false_or,Bool.or_false,Bool.true_or,Bool.or_true,Bool.false_and,Bool.and_false,Bool.true_and,Bool.and_true,Bool.not_true,Bool.not_false,if_true,if_false,Int.reduceEq]):=h
end Go.Ab
namespace Go.Proofs.Ytbflaciihaijgaa
set_option maxRecDepth 20000
open Go Go.Ab Proofs.Try
variable(ρ:Nat->Int)
section
def tyP4b.tyF:=ad @ez (ad @cR (ad @vz (ad @dt (ad @fb (ad @eA (ad @fc (ad @fG (@K4))))))))
open tyP4b
noncomputable def Pb:{c:SC // aI 111 (f89.body.getD .skip)=c}:=by
 refine⟨?_,?_⟩;rotate_left
 .simp only[f89,bS,aI,bM,bI,bT,bU,Nat.blt,Nat.ble];rfl
mutual
theorem Pc:∀(x:Ex) (d:Int),mI (fun x _=>md x) x d=eK x
 | .mk k n s o L,d=>by rw[mI,eK,Pd L,Bool.and_comm]
theorem Pd:∀(l:qG) (d:Int),jb (fun x _=>md x) l d=el l
 |[],_=>rfl
 |x::l,d=>by rw[jb,el,Pc x,Pd l]
end
def HZ{l:qA}(V:∀o,cV l 85 o=Ah.sp o)(I:∀o,cV l 123 o=Ak.sp o)(Z:(∀o,cV l 88 o=none)/\iL l 88=false)(K:(∀o,cV l 87 o=none)/\iL l 87=false)
 (x:Ex) (Y:x.sz<2^60) (H:Hp):aY prog (aH pls l) 87 [.agg x.cells,.int .i64 0,.bb 88 []] H fun v H'=>v=.bool (eK x)/\FrB 0 H H':=by
 have C:uE 0 fun _:Hp=>True:=fun _ _ _ _=>trivial;refine bb ?_ (xS (dG K.1 K.2) C (zcu V I Z C) (x.sz+1) x (cI _) 0 H Y (dN _) trivial);rintro v H' ⟨rfl,g,_⟩;exact⟨by rw[Pc],g⟩
def ro(x:Ex)(w:Bool):Bool:=bif w then eK x else zeroE x
noncomputable def H0:qA:=[Ah,Ak,O9]
def zcv:gm prog ρ H0:=⟨O7 ρ,O8 ρ,zct ρ,trivial⟩
theorem zcw(x:Ex)(w:Bool)(I:x.sz<2^60):bX prog ρ 126 [.agg x.cells,.bool w] (.bool (ro x w)):=eg fit (pls:=pls) (zcv ρ) (.cons (.agg x.pure) (.cons (.bool _) .nil)) (.bool _) (by
 have L:zd0 (aH pls H0) 126:=dG (fun _=>rfl) rfl;have Z:∀y:Ex,∀H,aY prog (aH pls H0) 143 [.agg y.cells] H fun v H'=>v=.bool (zeroE y)/\H'=H:=fun y H=>cF (enc:=ju) (out:=fun x=>.bool (zeroE x)) pZ (x:=y) rfl trivial;cases w
 .refine bF (M:=10) (rs:=[.tmp 4]) (L.call _) L.aD L.aq func126 rfl rfl DJ.2 rfl ?_;dsimp only[DJ,bA,Nat.reduceAdd];repeat' (first
   |(apply aj ?_;clear hK K)|apply Rx.o ?_|(apply eC ?_;first|refine bi (Z _ _) ?_)|(apply aA (fun o g=>?_) (fun o g=>?_)<;>try(cases o;done))|apply ah ?_|(apply ai fun K hK=>?_)|apply am ?_|apply aq ?_)
  all_goals refine qq ?_
  rfl
 .refine bF (M:=10) (rs:=[.tmp 4]) (L.call _) L.aD L.aq func126 rfl rfl DJ.2 rfl ?_;dsimp only[DJ,bA,Nat.reduceAdd];repeat' (first
   |(apply aj ?_;clear hK K)|apply Rx.o ?_|(apply aA (fun o g=>?_) (fun o g=>?_)<;>try(cases o;done))|apply ah ?_|(apply ai fun K hK=>?_)|apply am ?_|apply aq ?_)
  refine qc ?_;refine bb ?_ (HZ (fun _=>rfl) (fun _=>rfl) ⟨fun _=>rfl,rfl⟩ ⟨fun _=>rfl,rfl⟩ x I _);rintro v H ⟨rfl,_⟩;dsimp only[aZ];repeat' (first
   |(apply aj ?_;clear hK K)|apply Rx.o ?_|(apply aA (fun o g=>?_) (fun o g=>?_)<;>try(cases o;done))|apply ah ?_|(apply ai fun K hK=>?_)|apply am ?_|apply aq ?_)
  all_goals refine qq ?_
  rfl)
def bL(k:Int)(i:Nat):Bool:=(wz k).getD i false
theorem zcx(k:Int):(wz k).map AV.bool=[.bool (bL k 0),.bool (bL k 1),.bool (bL k 2),.bool (bL k 3),.bool (bL k 4),.bool (bL k 5),.bool (bL k 6),.bool (bL k 7)]:=by
 have h:∃a b c d e f g h,wz k=[a,b,c,d,e,f,g,h]:=by
  unfold wz;repeat' split
  all_goals exact⟨_,_,_,_,_,_,_,_,rfl⟩
 obtain⟨a,b,c,d,e,f,g,h,o⟩:=h;simp only[bL,o];rfl
def rV(x:St):Bool:=
 lw x.am&&nT x.name (bL x.am 0)&&nT x.to (bL x.am 1)&&ro x.aW (bL x.am 3)&&ro x.value (bL x.am 4) &&
 !decide (x.n<0) && !decide (1000000<x.n)&&(bL x.am 2||decide (x.n=0))&&(bL x.am 5 || !decide ((0:Int)<x.args.length))&&(bL x.am 6 || !decide ((0:Int)<x.a5.length))&&(bL x.am 7 || !decide ((0:Int)<x.a6.length))&&el x.args
def Al(x:St):Bool:=decide (x.n<0)||decide (1000000<x.n)||(!bL x.am 2 && !decide (x.n=0))||(!bL x.am 5&&decide ((0:Int)<x.args.length))||(!bL x.am 6&&decide ((0:Int)<x.a5.length))||(!bL x.am 7&&decide ((0:Int)<x.a6.length))
noncomputable def Pe:En:=⟨124,false,ch (fun _=>True) (fun n:Int=>[.int .i64 n]) xV⟩
def zcy:cT prog ρ Pe:=dg fun x _=>zcq ρ x
def Am(x:qw×Bool):qs:=[.ai x.1,.bool x.2]
def zcz(x y:qw×Bool)(h:Am x=Am y):x=y:=by
 simp only[Am,dR,AV.ai.injEq,AV.bool.injEq,aU]at h;exact pw h.1 h.2
noncomputable def Pf:En:=⟨125,false,ch (fun x=>x.1.length<2^60) Am fun x=>.bool (nT x.1 x.2)⟩
def zcA:cT prog ρ Pf:=dg fun x I=>zco ρ x.1 x.2 I
def An(x:Ex×Bool):qs:=[.agg x.1.cells,.bool x.2]
def zcB(x y:Ex×Bool)(h:An x=An y):x=y:=by
 simp only[An,dR,AV.agg.injEq,AV.bool.injEq,aU]at h;exact pw (Ex.inj h.1) h.2
noncomputable def Pg:En:=⟨126,false,ch (fun x=>x.1.sz<2^60) An fun x=>.bool (ro x.1 x.2)⟩
def zcC:cT prog ρ Pg:=dg fun x I=>zcw ρ x.1 x.2 I
noncomputable def Ph:En:=⟨86,false,ch (fun l=>dU l<2^60) (fun l:qt=>[cM l]) fun l=>.bool (l.all cZ)⟩
def zcD:cT prog ρ Ph:=dg fun x I=>zcn ρ x I
def zcE(x y:qt)(h:([cM x]:qs)=[cM y]):x=y:=by
 simp only[dR,AV.ao.injEq,aU]at h;exact vH h
noncomputable def rW:qA:=[Ah,Ak,Pe,Pf,Pg,Ph]
def zcF:gm prog ρ rW:=⟨O7 ρ,O8 ρ,zcy ρ,zcA ρ,zcC ρ,zcD ρ,trivial⟩
def zcG:bL 1 0=true/\bL 1 1=false/\bL 1 2=false/\bL 1 3=false/\bL 1 4=true/\bL 1 5=false/\bL 1 6=false/\bL 1 7=false/\lw 1=true:=wA
def zcH:bL 2 0=true/\bL 2 1=false/\bL 2 2=false/\bL 2 3=true/\bL 2 4=true/\bL 2 5=false/\bL 2 6=false/\bL 2 7=false/\lw 2=true:=wA
def zcI:bL 3 0=false/\bL 3 1=false/\bL 3 2=false/\bL 3 3=false/\bL 3 4=true/\bL 3 5=false/\bL 3 6=true/\bL 3 7=true/\lw 3=true:=wA
def zcJ:bL 4 0=false/\bL 4 1=false/\bL 4 2=false/\bL 4 3=false/\bL 4 4=true/\bL 4 5=false/\bL 4 6=true/\bL 4 7=false/\lw 4=true:=wA
def zcK:bL 5 0=false/\bL 5 1=false/\bL 5 2=false/\bL 5 3=false/\bL 5 4=true/\bL 5 5=false/\bL 5 6=false/\bL 5 7=false/\lw 5=true:=wA
def zcL:bL 6 0=true/\bL 6 1=true/\bL 6 2=false/\bL 6 3=false/\bL 6 4=false/\bL 6 5=true/\bL 6 6=false/\bL 6 7=false/\lw 6=true:=wA
def zcM:bL 7 0=false/\bL 7 1=false/\bL 7 2=true/\bL 7 3=false/\bL 7 4=false/\bL 7 5=false/\bL 7 6=false/\bL 7 7=false/\lw 7=true:=wA
set_option maxRecDepth 100000 in
def zcN:Ag (aH pls rW) 0 (fun(_:Unit) _=>True) 89 [] fun x _ s=>(rV x,s):=by
 intro x d s H hz _ _;have hw:zd0 (aH pls rW) 89:=dG (fun _=>rfl) rfl;have kf:∀k H,aY prog (aH pls rW) 124 [.int .i64 k] H fun v H'=>v=.aS [.agg [.bool (bL k 0),.bool (bL k 1),.bool (bL k 2),.bool (bL k 3),.bool (bL k 4),.bool (bL k 5),.bool (bL k 6),.bool (bL k 7)],.bool (lw k)]/\H'=H:=fun k H=>by
  have:=cF (P:=prog) (pls:=pls) (l:=rW) (enc:=fun n:Int=>[.int .i64 n]) (ok:=fun _=>True) (out:=xV) Hm (g:=124) (x:=k) rfl trivial (H:=H);unfold xV at this;rw[zcx]at this;exact this
 have km:∀(s:qw) (w:Bool),s.length<2^60->∀H,aY prog (aH pls rW) 125 [.ai s,.bool w] H fun v H'=>v=.bool (nT s w)/\H'=H:=fun s w h H=>cF (enc:=Am) (out:=fun x=>.bool (nT x.1 x.2)) zcz (x:=(s,w)) rfl h;have kx:∀(y:Ex) (w:Bool),y.sz<2^60->∀H,aY prog (aH pls rW) 126 [.agg y.cells,.bool w] H fun v H'=>v=.bool (ro y w)/\H'=H:=fun y w h H=>cF (enc:=An) (out:=fun x=>.bool (ro x.1 x.2)) zcB (x:=(y,w)) rfl h;have hsz:=x.aM;have hlen:=ph x.args;have hx0:∀a b,Ab.extract (.aS [a,b]) 0=some a:=fun _ _=>rfl;have hx1:∀a b,Ab.extract (.aS [a,b]) 1=some b:=fun _ _=>rfl;refine bF (M:=111) (rs:=[.tmp 4]) (hw.call _) hw.aD hw.aq func89 rfl rfl Pb.2 rfl ?_;dsimp only[Pb,bA,Nat.reduceAdd];repeat' (first
  |(apply aj ?_;clear hK K)|apply Rx.o ?_|apply aE ?_|(apply eC ?_;first|refine bi (kf _ _) ?_|refine bi (km _ _ ac _) ?_|refine bi (kx _ _ ac _) ?_)|apply dE ?_|(apply aX (fun J Z=>?_) (fun J Z=>?_)<;>try(cases J;done))|apply ah ?_|(apply ai fun K hK=>?_)|apply ak ?_|apply am ?_|apply aq ?_|apply aw ?_)
 all_goals (first|(refine aA (t:=true) (h1:=fun _ _=>?_) (h2:=fun hzz _=>?_)<;>try(cases hzz;done))|skip)
 all_goals
  repeat' (first
   |(apply aj ?_;clear hK K)|apply Rx.o ?_|apply aE ?_|apply dE ?_|(apply aX (fun J Z=>?_) (fun J Z=>?_)<;>try(cases J;done))|apply ah ?_|(apply ai fun K hK=>?_)|apply ak ?_|apply am ?_|apply aq ?_|apply aw ?_)
 all_goals (first|(refine⟨aD,_,aN,?_⟩;(try simp only[aC]);refine⟨Pa,(((jc _ _).alloc _).alloc _).set (.inl (by(try simp only[bj]);omega)) _,trivial⟩;done)|skip)
 have V:FrB 0 H (((H.alloc (.cells x.cells 0 true)).alloc (.cells [.bool false,.bool false,.bool false,.bool false,.bool false,.bool false,.bool false,.bool false] 0 true)).set (H.next+1) (.cells [.bool (bL x.am 0),.bool (bL x.am 1),.bool (bL x.am 2),.bool (bL x.am 3),.bool (bL x.am 4),.bool (bL x.am 5),.bool (bL x.am 6),.bool (bL x.am 7)] 0 true)):=(((jc _ _).alloc _).alloc _).set (.inl ac) _;refine YS [2,4,5,48] fun E' m=>?_;(try simp only[bp,bm,aU,aF,aW,Nat.reduceBEq,Nat.reduceAdd,Nat.reduceLeDiff,tyF, *]at m);generalize U:Hp.set _ (H.next+1) _=Hb at V⊢;have gb:Hb.get H.next=some (.cells x.cells 0 true):=by rw[<-U,a1,af ac,aQ,af dL,aQ,ay rfl]
 have gf:Hb.get (H.next+1)=some (.cells [.bool (bL x.am 0),.bool (bL x.am 1),.bool (bL x.am 2),.bool (bL x.am 3),.bool (bL x.am 4),.bool (bL x.am 5),.bool (bL x.am 6),.bool (bL x.am 7)] 0 true):=by rw[<-U,a1,ay rfl]
 have nb:H.next+2<=Hb.next:=by rw[<-U];exact aO _
 clear U;refine aA (h1:=fun o Y=>?_) (h2:=fun o Y=>?_)
 .repeat' (first
   |(apply aj ?_;clear hK K)|apply Rx.o ?_|apply aE ?_|apply dE ?_|(apply aX (fun J Z=>?_) (fun J Z=>?_)<;>try(cases J;done))|apply ah ?_|(apply ai fun K hK=>?_)|apply ak ?_|apply am ?_|apply aq ?_|apply aw ?_)
  all_goals refine qq ?_
  refine⟨Pa,V,trivial⟩
 refine cb.skip ?_;dsimp only[nr,tK];refine ah ?_;first
 |refine ai fun K j=>?_
 |(simp only[bM,bI,bT,bU,Nat.blt,Nat.ble];refine ai fun K j=>?_)
 |(refine ah ?_;refine ai fun K j=>?_)
 have hK:∀C I,(C.at 2=.ptr H.next 0/\C.at 4=.bool false/\C.at 99=.bool (Al x)/\I=Hb)->K C I:=by
  rintro C I ⟨k2,k4,k99,rfl⟩;apply j;clear j K;dsimp only[nr,tK];have z:(lw x.am&&nT x.name (bL x.am 0)&&nT x.to (bL x.am 1)&&ro x.aW (bL x.am 3)&&ro x.value (bL x.am 4))=true:=by(try simp only[ci]at *);simp only[ *,cj,bC,bH,Int.reduceEq]
  have O:rV x=(!Al x&&el x.args):=by
   have e:rV x=((lw x.am&&nT x.name (bL x.am 0)&&nT x.to (bL x.am 1)&&ro x.aW (bL x.am 3)&&ro x.value (bL x.am 4))&&(!Al x&&el x.args)):=by
    simp only[rV,Al,xI,Bool.not_and,Bool.not_not,zo]
   rw[e,z,fT]
  repeat' (first
   |(apply aj ?_;clear hK K)|apply Rx.o ?_|apply aE ?_|apply dE ?_|(apply aX (fun J Z=>?_) (fun J Z=>?_)<;>try(cases J;done))|(apply aA (fun o Y=>?_) (fun o Y=>?_)<;>try(cases o;done))|apply ah ?_|(apply ai fun K hK=>?_)|apply ak ?_|apply am ?_|apply aq ?_|apply aw ?_)
  .all_goals refine qq ?_
   refine⟨by rw[O];(try simp only[ci]at *);simp only[ *,cj,bC,bH,Int.reduceEq],V,trivial⟩
  refine cA [2,4,101,102] [] 103 x.args.length (fun i E I=>el x.args=el (x.args.drop i)/\FrB 0 H I) eE ⟨az,V⟩ ?_;rintro i E H3 hi m hrH hnH hsI ⟨hJ,hf2⟩;(try simp only[bp,bm,aU,aF,aW,Nat.reduceBEq,Nat.reduceAdd,Nat.reduceLeDiff,tyF, *]at m);(try simp only[bp,bm,aU,aF,aW,Nat.reduceBEq,Nat.reduceAdd,Nat.reduceLeDiff,tyF, *]at hrH);(try simp only[bj,bE,cm,bO,Nat.reduceAdd]at hnH);repeat' (first
   |(apply aj ?_;clear hK K)|apply Rx.o ?_|apply aE ?_|apply dE ?_|(apply aX (fun J Z=>?_) (fun J Z=>?_)<;>try(cases J;done))|(apply aA (fun o Y=>?_) (fun o Y=>?_)<;>try(cases o;done))|apply ah ?_|(apply ai fun K hK=>?_)|apply ak ?_|apply am ?_|apply aq ?_|apply aw ?_)
  .have L:i<x.args.length:=by simpa using o
   have hgx:x.args[i]?=some x.args[i]:=a0 L;have hsm:=ou (cL L);have hdr:el (x.args.drop i)=(eK x.args[i]&&el (x.args.drop (i+1))):=by rw[eU L];rfl
   repeat' (first
    |(apply aj ?_;clear hK K)|apply Rx.o ?_|apply aE ?_|apply dE ?_|(apply aX (fun J Z=>?_) (fun J Z=>?_)<;>try(cases J;done))|(apply aA (fun o Y=>?_) (fun o Y=>?_)<;>try(cases o;done))|apply ah ?_|(apply ai fun K hK=>?_)|apply ak ?_|apply am ?_|apply aq ?_|apply aw ?_)
   refine qc ?_;refine bb ?_ (HZ (fun _=>rfl) (fun _=>rfl) ⟨fun _=>rfl,rfl⟩ ⟨fun _=>rfl,rfl⟩ x.args[i] ac _);rintro v H4 ⟨rfl,hf4⟩;dsimp only[aZ];have hf5:FrB 0 H H4:=hf2.trans ((((jc _ _).alloc _).set (.inl (aO _)) _).trans hf4);have n4:=hf4.next
   simp only[bE,bj]at n4;repeat' (first
    |(apply aj ?_;clear hK K)|apply Rx.o ?_|apply aE ?_|apply dE ?_|(apply aX (fun J Z=>?_) (fun J Z=>?_)<;>try(cases J;done))|(apply aA (fun o Y=>?_) (fun o Y=>?_)<;>try(cases o;done))|apply ah ?_|(apply ai fun K hK=>?_)|apply ak ?_|apply am ?_|apply aq ?_|apply aw ?_)
   all_goals (first|(refine⟨aD,_,aN,?_⟩;(try simp only[aC]);refine⟨by rw[O,hJ,hdr];(try simp only[ci]at *);simp only[ *,cj,bC,bH,Int.reduceEq],hf5,trivial⟩;done)|skip)
   refine⟨ac,a2,a2,ce,CY,?_⟩;exact⟨M2,hf5⟩
  .all_goals refine qq ?_
   refine⟨by rw[O,hJ,show i=x.args.length by simp at o;omega,fU];(try simp only[ci]at *);simp only[el, *,cj,bC,bH,Int.reduceEq],hf2,trivial⟩
 clear j;repeat' (first
  |(apply aj ?_;clear hK K)|apply Rx.o ?_|apply aE ?_|apply dE ?_|(apply aX (fun J Z=>?_) (fun J Z=>?_)<;>try(cases J;done))|apply ah ?_|(apply ai fun K hK=>?_)|apply ak ?_|apply am ?_|apply aq ?_|apply aw ?_)
 all_goals
  refine⟨eE,eE,?_,rfl⟩;rw[Al];(try simp only[ci]at *);simp only[aF,Nat.reduceBEq, *,cj]
end
section
theorem oJ(n:Nat):(!decide ((0:Int)<n))=decide ((n:Int)=0):=by
 cases n with
 |zero=>rfl
 |succ n=>simp;omega
def zcO(n:Int):(!decide (n<0) && !decide (1000000<n)&&decide (n=0))=decide (n=0):=by
 by_cases h:n=0
 .subst h;rfl
 .simp[h]
def zcP(n:Int):(!decide (n<0))=decide (0<=n):=by
 by_cases h:n<0
 .simp[h]
 .simp[h];omega
def zcQ(n:Int):(!decide (1000000<n))=decide (n<=1000000):=by
 by_cases h:1000000<n
 .simp[h]
 .simp[h];omega
def zcR(x:St):rV x=iO x:=by
 have j:x.am=1\/x.am=2\/x.am=3\/x.am=4\/x.am=5\/x.am=6\/x.am=7\/lw x.am=false:=by
  simp only[lw,xz,lH];omega
 rcases j with j|j|j|j|j|j|j|j
 case inr.inr.inr.inr.inr.inr.inr=>
  have h:me x=false:=by
   simp only[lw,xz,lH]at j;unfold me;rw[af ac,af ac,af ac,af ac,af ac,af ac,af ac]
  rw[rV,iO,j,h];simp
 all_goals
  have hr:=zcO x.n;simp only[rV,iO,me,j,zcG,zcH,zcI,zcJ,zcK,zcL,zcM,pB,pA,nT,ro,jg,sy,bC,bH,Int.reduceEq,Gt,lZ,xi,oJ,dC,reduceCtorEq];first
  |(rw[zcP,zcQ];ac_rfl)
  |(rw[<-hr];ac_rfl)
mutual
theorem zcS:∀(x:St) (d:Int),kX (fun x _ (s:Unit)=>(rV x,s)) x d ()=(mg x,())
 | .mk k o z n a v C L M,d=>by
   rw[kX,mg,zcR];cases h:iO (.mk k o z n a v C L M)with
   |false=>simp
   |true=>
    simp only[DK L,fT];cases g:fk L with
    |false=>simp
    |true=>simp only[DK M,fT]
theorem DK:∀(l:qD) (d:Int),eV (fun x _ (s:Unit)=>(rV x,s)) l d ()=(fk l,())
 |[],_=>rfl
 |x::l,d=>by
  rw[eV,fk,zcS x];cases h:mg x with
  |false=>simp
  |true=>simp only[DK l,fT]
end
def tyP4d.tyF:=ad @ez (ad @cR (ad @dt (ad @gH (ad @iV (ad @gO (ad @fb (ad @eA (ad @ft (ad @fc (ad @l8 (ad @l9 (@fG))))))))))))
open tyP4d
noncomputable def Pi:{c:SC // aI 55 (f44.body.getD .skip)=c}:=by
 refine⟨?_,?_⟩;rotate_left
 .simp only[f44,bS,aI,bM,bI,bT,bU,Nat.blt,Nat.ble];rfl
def zcT(f:Fu)(b:qw->Bool):(rh f).all b=(b f.name&&f.params.all b&&f.aj.all b):=by
 rw[rh,xd,xd,oy,oz,kW]
set_option maxRecDepth 100000 in
theorem zcU(p:Pr)(hz:p.sz<2^36):bX prog ρ 44 [.agg p.cells] (.bool (iq p)):=eg fit (pls:=pls) (zcF ρ) (.cons (.agg p.pure) .nil) (.bool _) (by
 have hw:zd0 (aH pls rW) 44:=dG (fun _=>rfl) rfl;have kn:∀s:qw,s.length<2^60->∀H,aY prog (aH pls rW) 85 [.ai s] H fun v H'=>v=.bool (cZ s)/\H'=H:=fun s h1 H=>cF (enc:=nJ) (out:=fun x=>.bool (cZ x)) vL (x:=s) rfl h1;have ks:∀l:qt,dU l<2^60->∀H,aY prog (aH pls rW) 86 [cM l] H fun v H'=>v=.bool (l.all cZ)/\H'=H:=fun l h1 H=>cF (enc:=fun l:qt=>[cM l]) (out:=fun l=>.bool (l.all cZ)) zcE (x:=l) rfl h1;have hpz:p.sz=1+gp p.aa+fw p.funcs:=rfl;have hla:=nF p.aa;have hlf:=nE p.funcs;refine bF (M:=55) (rs:=[.tmp 2]) (hw.call _) hw.aD hw.aq func44 rfl rfl Pi.2 rfl ?_;dsimp only[Pi,bA,Nat.reduceAdd];repeat' (first
  |(apply aj ?_;clear hK K)|apply Rx.o ?_|apply aE ?_|(apply aX (fun J g=>?_) (fun J g=>?_)<;>try(cases J;done))|(apply aA (fun o Z=>?_) (fun o Z=>?_)<;>try(cases o;done))|apply ah ?_|(apply ai fun K hK=>?_)|apply ak ?_|apply am ?_|apply aq ?_|apply aw ?_)
 refine cA [1,8,9] [0] 10 p.aa.length (fun i E H=>p.aa.all (fun a=>cZ a.name)=(p.aa.drop i).all (fun a=>cZ a.name)) eE az ?_;rintro i E H2 hi m U j hsI V;(try simp only[bp,bm,aU,aF,aW,Nat.reduceBEq,Nat.reduceAdd,Nat.reduceLeDiff,tyF, *]at m);(try simp only[bp,bm,aU,aF,aW,Nat.reduceBEq,Nat.reduceAdd,Nat.reduceLeDiff,tyF, *]at U);(try simp only[bj,bE,cm,bO,Nat.reduceAdd]at j);have hB0:(0 == H2.next)=false:=bz ac;have hC0:(H2.next == 0)=false:=bz ac;repeat' (first
  |(apply aj ?_;clear hK K)|apply Rx.o ?_|apply aE ?_|(apply aX (fun J g=>?_) (fun J g=>?_)<;>try(cases J;done))|(apply aA (fun o Z=>?_) (fun o Z=>?_)<;>try(cases o;done))|apply ah ?_|(apply ai fun K hK=>?_)|apply ak ?_|apply am ?_|apply aq ?_|apply aw ?_)
 .have z:i<p.aa.length:=by simpa using o
  have hgx:p.aa[i]?=some p.aa[i]:=a0 z;have hsm:=Hr (cL z);have Y:(p.aa.drop i).all (fun a=>cZ a.name)=(cZ p.aa[i].name&&(p.aa.drop (i+1)).all (fun a=>cZ a.name)):=vZ;repeat' (first
   |(apply aj ?_;clear hK K)|apply Rx.o ?_|apply aE ?_|(apply eC ?_;first|refine bi (kn _ ac _) ?_)|(apply aX (fun J g=>?_) (fun J g=>?_)<;>try(cases J;done))|(apply aA (fun o Z=>?_) (fun o Z=>?_)<;>try(cases o;done))|apply ah ?_|(apply ai fun K hK=>?_)|apply ak ?_|apply am ?_|apply aq ?_|apply aw ?_)
  all_goals (first|(refine⟨aD,_,aN,?_⟩;(try simp only[aC]);rw[iq,V,Y];(try simp only[ci]at *);simp only[ *,cj,bC,bH,Int.reduceEq];done)|skip)
  refine⟨ac,a2,a2,ce,xH,?_⟩;rw[V,Y];(try simp only[ci]at *);simp only[ *,cj,bC,bH,Int.reduceEq]
 .have O:i=p.aa.length:=by simp at o;omega
  rw[O,fU]at V;have L:p.aa.all (fun a=>cZ a.name)=true:=V;clear V O hsI hi;refine cA [20,21] [0] 22 p.funcs.length (fun i E H=>p.funcs.all jV=(p.funcs.drop i).all jV) eE az ?_;rintro i E H3 hi m U j hsI V;(try simp only[bp,bm,aU,aF,aW,Nat.reduceBEq,Nat.reduceAdd,Nat.reduceLeDiff,tyF, *]at m);(try simp only[bp,bm,aU,aF,aW,Nat.reduceBEq,Nat.reduceAdd,Nat.reduceLeDiff,tyF, *]at U);(try simp only[bj,bE,cm,bO,Nat.reduceAdd]at j);have hB0:(0 == H3.next)=false:=bz ac;have hC0:(H3.next == 0)=false:=bz ac;repeat' (first
   |(apply aj ?_;clear hK K)|apply Rx.o ?_|apply aE ?_|(apply aX (fun J g=>?_) (fun J g=>?_)<;>try(cases J;done))|(apply aA (fun o Z=>?_) (fun o Z=>?_)<;>try(cases o;done))|apply ah ?_|(apply ai fun K hK=>?_)|apply ak ?_|apply am ?_|apply aq ?_|apply aw ?_)
  .have z:i<p.funcs.length:=by simpa using o
   have hgx:p.funcs[i]?=some p.funcs[i]:=a0 z;have hsm:=ow (cL z);have hsz:p.funcs[i].sz=1+p.funcs[i].name.length+dU p.funcs[i].params+dU p.funcs[i].aj+bN p.funcs[i].body+p.funcs[i].value.sz:=rfl;have Y:(p.funcs.drop i).all jV=(jV p.funcs[i]&&(p.funcs.drop (i+1)).all jV):=vZ;have C:jV p.funcs[i]=(cZ p.funcs[i].name&&p.funcs[i].params.all cZ&&p.funcs[i].aj.all cZ&&fk p.funcs[i].body&&eK p.funcs[i].value):=by rw[jV,zcT]
   repeat' (first
    |(apply aj ?_;clear hK K)|apply Rx.o ?_|apply aE ?_|(apply eC ?_;first|refine bi (kn _ ac _) ?_|refine bi (ks _ ac _) ?_)|(apply aX (fun J g=>?_) (fun J g=>?_)<;>try(cases J;done))|(apply aA (fun o Z=>?_) (fun o Z=>?_)<;>try(cases o;done))|apply ah ?_|(apply ai fun K hK=>?_)|apply ak ?_|apply am ?_|apply aq ?_|apply aw ?_)
   .refine qc ?_;refine bb ?_ (HZ (fun _=>rfl) (fun _=>rfl) ⟨fun _=>rfl,rfl⟩ ⟨fun _=>rfl,rfl⟩ p.funcs[i].value ac _);rintro v H4 ⟨rfl,hf4⟩;have hn4:=hf4.next
    simp only[bE,bj]at hn4;have g4:H4.get H3.next=some (.cells p.funcs[i].cells 0 true):=by rw[hf4.get _ (dN _) ip,a1,ay rfl]
    have g40:H4.get 0=some (.cells p.cells 0 true):=by rw[hf4.get _ (dN _) ip,a1,af ac,aQ,af ac];exact U
    dsimp only[aZ];repeat' (first
     |(apply aj ?_;clear hK K)|apply Rx.o ?_|apply aE ?_|(apply aX (fun J g=>?_) (fun J g=>?_)<;>try(cases J;done))|(apply aA (fun o Z=>?_) (fun o Z=>?_)<;>try(cases o;done))|apply ah ?_|(apply ai fun K hK=>?_)|apply ak ?_|apply am ?_|apply aq ?_|apply aw ?_)
    .refine qc ?_;refine bb ?_ (xT (dG (fun _=>rfl) rfl) (I:=fun(_:Unit) _=>True) (fun _ _ _ _ _=>trivial) zcN (bN p.funcs[i].body+1) p.funcs[i].body ac 0 () H4 ac (dN _) trivial);rintro v H5 ⟨rfl,hf5,_⟩;have hn5:=hf5.next
     have g50:H5.get 0=some (.cells p.cells 0 true):=by rw[hf5.get _ (dN _) ac];exact g40
     rw[DK];dsimp only[aZ];repeat' (first
      |(apply aj ?_;clear hK K)|apply Rx.o ?_|apply aE ?_|(apply aX (fun J g=>?_) (fun J g=>?_)<;>try(cases J;done))|(apply aA (fun o Z=>?_) (fun o Z=>?_)<;>try(cases o;done))|apply ah ?_|(apply ai fun K hK=>?_)|apply ak ?_|apply am ?_|apply aq ?_|apply aw ?_)
     all_goals (first|(refine⟨aD,_,aN,?_⟩;(try simp only[aC]);rw[iq,L,V,Y,C];(try simp only[ci]at *);simp only[ *,cj,bC,bH,Int.reduceEq];done)|skip)
     refine⟨ac,a2,a2,ce,po,?_⟩;rw[V,Y,C];(try simp only[ci]at *);simp only[ *,cj,bC,bH,Int.reduceEq]
    all_goals skip
    all_goals (first|(refine⟨aD,_,aN,?_⟩;(try simp only[aC]);rw[iq,L,V,Y,C];(try simp only[ci]at *);simp only[ *,cj,bC,bH,Int.reduceEq];done)|skip)
   all_goals skip
   all_goals (first|(refine⟨aD,_,aN,?_⟩;(try simp only[aC]);rw[iq,L,V,Y,C];(try simp only[ci]at *);simp only[ *,cj,bC,bH,Int.reduceEq];done)|skip)
  .all_goals refine qq ?_
   have O:i=p.funcs.length:=p9;rw[O,fU]at V;have hJ2:p.funcs.all jV=true:=V;rw[iq,L,hJ2];rfl)
end
section
def tyP4h.tyF:=ad @gH (ad @iV (@gO))
open tyP4h
noncomputable def Pj:{c:SC // aI 16 (f18.body.getD .skip)=c}:=by
 refine⟨?_,?_⟩;rotate_left
 .simp only[f18,bS,aI,bM,bI,bT,bU,Nat.blt,Nat.ble];rfl
noncomputable def Pk:En:=⟨43,false,ch (fun p=>p.sz<2^36) fA fun p=>.bool (lI p)⟩
def zcV(p:Pr)(I:p.sz<2^36):bX prog ρ 43 (fA p) (.bool (lI p)):=eg fit (pls:=pls) (l:=[]) trivial (.cons (.agg p.pure) .nil) (.bool _) (zb3 ⟨fj _,fj _,fj _,fj _⟩ (fj _) (fj _) (fj _) p ac)
def zcW:cT prog ρ Pk:=dg fun p hp=>zcV ρ p hp
noncomputable def Pm:En:=⟨44,false,ch (fun p=>p.sz<2^36) fA fun p=>.bool (iq p)⟩
def zcX:cT prog ρ Pm:=dg fun p hp=>zcU ρ p hp
noncomputable def Pn:En:=⟨45,false,ch (fun p=>p.sz<2^36) fA fun p=>.bool (pD p)⟩
def zcY:cT prog ρ Pn:=dg fun p hp=>zbi ρ p hp
noncomputable def Po:En:=⟨46,false,ch (fun p=>p.sz<2^36) fA fun p=>.int .i64 (wh p)⟩
def zcZ:cT prog ρ Po:=dg fun p hp=>zb2 ρ p hp
noncomputable def xW:qA:=[Pk,Pm,Pn,Po]
def zc0:gm prog ρ xW:=⟨zcW ρ,zcX ρ,zcY ρ,zcZ ρ,trivial⟩
def zc1(p:Pr)(I:p.sz<2^36):bX prog ρ 18 (fA p) (.int .i64 (fK p)):=eg fit (pls:=pls) (zc0 ρ) (.cons (.agg p.pure) .nil) (.int _ _) (by
 have L:zd0 (aH pls xW) 18:=dG (fun _=>rfl) rfl;have Z:∀H,aY prog (aH pls xW) 43 [.agg p.cells] H fun v H'=>v=.bool (lI p)/\H'=H:=fun H=>cF (enc:=fA) (out:=fun p=>.bool (lI p)) rc (x:=p) rfl I;have Y:∀H,aY prog (aH pls xW) 44 [.agg p.cells] H fun v H'=>v=.bool (iq p)/\H'=H:=fun H=>cF (enc:=fA) (out:=fun p=>.bool (iq p)) rc (x:=p) rfl I;have z:∀H,aY prog (aH pls xW) 45 [.agg p.cells] H fun v H'=>v=.bool (pD p)/\H'=H:=fun H=>cF (enc:=fA) (out:=fun p=>.bool (pD p)) rc (x:=p) rfl I;have V:∀H,aY prog (aH pls xW) 46 [.agg p.cells] H fun v H'=>v=.int .i64 (wh p)/\H'=H:=fun H=>cF (enc:=fA) (out:=fun p=>.int .i64 (wh p)) rc (x:=p) rfl I;rw[fA,<-za8];refine bF (M:=16) (rs:=[.tmp 2]) (L.call _) L.aD L.aq func18 rfl rfl Pj.2 rfl ?_;dsimp only[Pj,bA,Nat.reduceAdd];repeat' (first
  |(apply aj ?_;clear hK K)|apply Rx.o ?_|(apply eC ?_;first|refine bi (Z _) ?_|refine bi (Y _) ?_|refine bi (z _) ?_|refine bi (V _) ?_)|(apply aA (fun o g=>?_) (fun o g=>?_)<;>try(cases o;done))|apply ah ?_|(apply ai fun K hK=>?_)|apply ak ?_|apply am ?_|apply aq ?_)
 all_goals
  all_goals refine qq ?_
  rw[HE];(try simp only[ci]at *);simp only[sk,dC, *,cj,bC,bH,Int.reduceEq])
end
end Go.Proofs.Ytbflaciihaijgaa
