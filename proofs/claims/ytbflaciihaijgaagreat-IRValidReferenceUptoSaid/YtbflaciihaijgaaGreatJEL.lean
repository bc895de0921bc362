/- Lemmas for the last file. -/
import Derived.Test.YtbflaciihaijgaaGreatJEK
set_option linter.all false
set_option maxHeartbeats 32000000
namespace Go.Ab
set_option maxRecDepth 20000
open Go
variable{qf:Prop}
def x9(h:qf:=by refine⟨rfl,rfl,rfl,rfl,rfl,rfl,rfl,rfl,rfl⟩):=h
def Sa(h:qf:=by rw[tJ];(try simp only[Bool.not_eq_true',Bool.not_eq_false']at *);simp only[*,Bool.false_and,Bool.and_false,Bool.and_true,]):=h
def BY(h:qf:=by (try simp only[aZ]);omega):=h
def KC(h:qf:=by rw[<- O,Hp.get_set,if_pos rfl]):=h
def F0:=@Bool.not_and
end Go.Ab
namespace Go.Proofs.YtbflaciihaijgaaGreat
set_option maxRecDepth 20000
open Go Go.Ab Proofs.Tryz
variable(ρ:Nat->Int)
section
def tyP4b.tyF:=ad @ec (ad @cA (ad @tj (ad @dw (ad @fL (ad @fM (ad @fb (ad @gF (@N2))))))))
open tyP4b
noncomputable def Sb:{c:SC // aC 111 (f121.body.getD .skip)=c}:=by
 refine⟨?_,?_⟩;rotate_left
 .simp only[f121,bz,aC,bw,bt,bA,bB,Nat.blt,Nat.ble];rfl
mutual
theorem Sd:∀(x:Ex) (d:Int),nW (fun x _=>mG x) x d=fk x
 | .mk k n s o z,d=>by rw[nW,fk,Se z,Bool.and_comm]
theorem Se:∀(l:qH) (d:Int),jQ (fun x _=>mG x) l d=eM l
 |[],_=>rfl
 |x::l,d=>by rw[jQ,eM,Sd x,Se l]
end
def KD{l:qB}(V:∀i,cM l 117 i=BV.sp i)(O:∀i,cM l 163 i=BX.sp i)(Y:(∀i,cM l 120 i=none)/\jt l 120=false)(L:(∀i,cM l 119 i=none)/\jt l 119=false)
 (x:Ex) (z:x.sz<2^60) (H:Hp):aM prog (ay pls l) 119 [.agg x.cells,.int .i64 0,.bm 120 []] H fun v H'=>v=.bool (fk x)/\FrB 0 H H':=by
 have Z:wj 0 fun _:Hp=>True:=fun _ _ _ _=>trivial;refine aY ?_ (zw (db L.1 L.2) Z (zgt V O Y Z) (x.sz+1) x (cC _) 0 H z (de _) trivial);rintro v H' ⟨rfl,g,_⟩;exact⟨by rw[Sd],g⟩
def sM(x:Ex)(w:Bool):Bool:=bif w then fk x else zeroE x
noncomputable def KE:qB:=[BV,BX,R0]
def zgu:eU prog ρ KE:=⟨RY ρ,RZ ρ,zgs ρ,trivial⟩
theorem zgv(x:Ex)(w:Bool)(z:x.sz<2^60):bF prog ρ 166 [.agg x.cells,.bool w] (.bool (sM x w)):=dE fit (pls:=pls) (zgu ρ) (.cons (.agg x.pure) (.cons (.bool _) .nil)) (.bool _) (by
 have L:zd0 (ay pls KE) 166:=db (fun _=>rfl) rfl;have Z:∀y:Ex,∀H,aM prog (ay pls KE) 196 [.agg y.cells] H fun v H'=>v=.bool (zeroE y)/\H'=H:=fun y H=>bZ (enc:=kF) (out:=fun x=>.bool (zeroE x)) sA (x:=y) rfl trivial;cases w
 .refine a0 (M:=10) (rs:=[.tmp 4]) (L.call _) L.aG L.az func166 rfl rfl FZ.2 rfl ?_;dsimp only[FZ,aW,Nat.reduceAdd];repeat' (first
   |(apply aj ?_;clear hK K)|apply aO ?_|(apply ez ?_;first|refine Rx.k (Z _ _) ?_)|(apply bp ?_ ?_<;>(intro hb hbp;try(cases hb;done)))|(apply ak fun K hK=>?_)|fail)
  all_goals refine qq ?_
  rfl
 .refine a0 (M:=10) (rs:=[.tmp 4]) (L.call _) L.aG L.az func166 rfl rfl FZ.2 rfl ?_;dsimp only[FZ,aW,Nat.reduceAdd];refine zY fun K hK=>?_;refine qd ?_;refine aY ?_ (KD (fun _=>rfl) (fun _=>rfl) ⟨fun _=>rfl,rfl⟩ ⟨fun _=>rfl,rfl⟩ x z _);rintro v H ⟨rfl,_⟩;dsimp only[aU];refine lQ ?_;all_goals refine qq ?_
  rfl)
def bJ(k:Int)(i:Nat):Bool:=(x8 k).getD i false
theorem zgw(k:Int):(x8 k).map AV.bool=[.bool (bJ k 0),.bool (bJ k 1),.bool (bJ k 2),.bool (bJ k 3),.bool (bJ k 4),.bool (bJ k 5),.bool (bJ k 6),.bool (bJ k 7)]:=by
 have h:∃a b c d e f g h,x8 k=[a,b,c,d,e,f,g,h]:=by
  unfold x8;repeat' split
  all_goals exact⟨_,_,_,_,_,_,_,_,rfl⟩
 obtain⟨a,b,c,d,e,f,g,h,Y⟩:=h;simp only[bJ,Y];rfl
def tJ(x:St):Bool:=
 ml x.aw&&oX x.name (bJ x.aw 0)&&oX x.to (bJ x.aw 1)&&sM x.a6 (bJ x.aw 3)&&sM x.value (bJ x.aw 4) &&
 !decide (x.n<0) && !decide (1000000<x.n)&&(bJ x.aw 2||decide (x.n=0))&&(bJ x.aw 5 || !decide ((0:Int)<x.args.length))&&(bJ x.aw 6 || !decide ((0:Int)<x.a9.length))&&(bJ x.aw 7 || !decide ((0:Int)<x.bl.length))&&eM x.args
def BZ(x:St):Bool:=decide (x.n<0)||decide (1000000<x.n)||(!bJ x.aw 2 && !decide (x.n=0))||(!bJ x.aw 5&&decide ((0:Int)<x.args.length))||(!bJ x.aw 6&&decide ((0:Int)<x.a9.length))||(!bJ x.aw 7&&decide ((0:Int)<x.bl.length))
noncomputable def Sf:En:=⟨164,false,bQ (fun _=>True) (fun n:Int=>[.int .i64 n]) zA⟩
def zgx:co prog ρ Sf:=cz fun x _=>zgp ρ x
def B0(x:qx×Bool):qt:=[.aq x.1,.bool x.2]
def zgy(x y:qx×Bool)(h:B0 x=B0 y):x=y:=by
 simp only[B0,dN,AV.aq.injEq,AV.bool.injEq,aN]at h;exact n1 h.1 h.2
noncomputable def Sg:En:=⟨165,false,bQ (fun x=>x.1.length<2^60) B0 fun x=>.bool (oX x.1 x.2)⟩
def zgz:co prog ρ Sg:=cz fun x z=>zgn ρ x.1 x.2 z
def B3(x:Ex×Bool):qt:=[.agg x.1.cells,.bool x.2]
def zgA(x y:Ex×Bool)(h:B3 x=B3 y):x=y:=by
 simp only[B3,dN,AV.agg.injEq,AV.bool.injEq,aN]at h;exact n1 (Ex.inj h.1) h.2
noncomputable def Sk:En:=⟨166,false,bQ (fun x=>x.1.sz<2^60) B3 fun x=>.bool (sM x.1 x.2)⟩
def zgB:co prog ρ Sk:=cz fun x z=>zgv ρ x.1 x.2 z
noncomputable def Sl:En:=⟨118,false,bQ (fun l=>dB l<2^60) (fun l:qw=>[cZ l]) fun l=>.bool (l.all ci)⟩
def zgC:co prog ρ Sl:=cz fun x z=>zgm ρ x z
def zgD(x y:qw)(h:([cZ x]:qt)=[cZ y]):x=y:=by
 simp only[dN,AV.aE.injEq,aN]at h;exact xr h
noncomputable def tK:qB:=[BV,BX,Sf,Sg,Sk,Sl]
def zgE:eU prog ρ tK:=⟨RY ρ,RZ ρ,zgx ρ,zgz ρ,zgB ρ,zgC ρ,trivial⟩
def zgF:bJ 1 0=true/\bJ 1 1=false/\bJ 1 2=false/\bJ 1 3=false/\bJ 1 4=true/\bJ 1 5=false/\bJ 1 6=false/\bJ 1 7=false/\ml 1=true:=x9
def zgG:bJ 2 0=true/\bJ 2 1=false/\bJ 2 2=false/\bJ 2 3=true/\bJ 2 4=true/\bJ 2 5=false/\bJ 2 6=false/\bJ 2 7=false/\ml 2=true:=x9
def zgH:bJ 3 0=false/\bJ 3 1=false/\bJ 3 2=false/\bJ 3 3=false/\bJ 3 4=true/\bJ 3 5=false/\bJ 3 6=true/\bJ 3 7=true/\ml 3=true:=x9
def zgI:bJ 4 0=false/\bJ 4 1=false/\bJ 4 2=false/\bJ 4 3=false/\bJ 4 4=true/\bJ 4 5=false/\bJ 4 6=true/\bJ 4 7=false/\ml 4=true:=x9
def zgJ:bJ 5 0=false/\bJ 5 1=false/\bJ 5 2=false/\bJ 5 3=false/\bJ 5 4=true/\bJ 5 5=false/\bJ 5 6=false/\bJ 5 7=false/\ml 5=true:=x9
def zgK:bJ 6 0=true/\bJ 6 1=true/\bJ 6 2=false/\bJ 6 3=false/\bJ 6 4=false/\bJ 6 5=true/\bJ 6 6=false/\bJ 6 7=false/\ml 6=true:=x9
def zgL:bJ 7 0=false/\bJ 7 1=false/\bJ 7 2=true/\bJ 7 3=false/\bJ 7 4=false/\bJ 7 5=false/\bJ 7 6=false/\bJ 7 7=false/\ml 7=true:=x9
set_option maxRecDepth 100000 in
def zgM:BT (ay pls tK) 0 (fun(_:Unit) _=>True) 121 [] fun x _ s=>(tJ x,s):=by
 intro x d s H hz _ _;have hw:zd0 (ay pls tK) 121:=db (fun _=>rfl) rfl;have kf:∀k H,aM prog (ay pls tK) 164 [.int .i64 k] H fun v H'=>v=.aX [.agg [.bool (bJ k 0),.bool (bJ k 1),.bool (bJ k 2),.bool (bJ k 3),.bool (bJ k 4),.bool (bJ k 5),.bool (bJ k 6),.bool (bJ k 7)],.bool (ml k)]/\H'=H:=fun k H=>by
  have:=bZ (P:=prog) (pls:=pls) (l:=tK) (enc:=fun n:Int=>[.int .i64 n]) (ok:=fun _=>True) (out:=zA) J1 (g:=164) (x:=k) rfl trivial (H:=H);unfold zA at this;rw[zgw]at this;exact this
 have km:∀(s:qx) (w:Bool),s.length<2^60->∀H,aM prog (ay pls tK) 165 [.aq s,.bool w] H fun v H'=>v=.bool (oX s w)/\H'=H:=fun s w h H=>bZ (enc:=B0) (out:=fun x=>.bool (oX x.1 x.2)) zgy (x:=(s,w)) rfl h;have kx:∀(y:Ex) (w:Bool),y.sz<2^60->∀H,aM prog (ay pls tK) 166 [.agg y.cells,.bool w] H fun v H'=>v=.bool (sM y w)/\H'=H:=fun y w h H=>bZ (enc:=B3) (out:=fun x=>.bool (sM x.1 x.2)) zgA (x:=(y,w)) rfl h;have hsz:=x.aT;have hlen:=rE x.args;have hx0:∀a b,Ab.extract (.aX [a,b]) 0=some a:=fun _ _=>rfl;have hx1:∀a b,Ab.extract (.aX [a,b]) 1=some b:=fun _ _=>rfl;refine a0 (M:=111) (rs:=[.tmp 4]) (hw.call _) hw.aG hw.az func121 rfl rfl Sb.2 rfl ?_;dsimp only[Sb,aW,Nat.reduceAdd];repeat' (first
  |(apply aj ?_;clear hK K)|apply aO ?_|(apply ez ?_;first|refine Rx.k (kf _ _) ?_|refine Rx.k (km _ _ ac _) ?_|refine Rx.k (kx _ _ ac _) ?_)|(apply cD ?_ ?_<;>(intro hg hgp;try(cases hg;done)))|(apply ak fun K hK=>?_)|fail)
 all_goals (first|(refine bp (t:=true) (h1:=fun _ _=>?_) (h2:=fun hzz _=>?_)<;>try(cases hzz;done))|skip)
 all_goals
  repeat' (first
   |(apply aj ?_;clear hK K)|apply aO ?_|(apply ak fun K hK=>?_)|fail)
 all_goals (first|(refine⟨aq,_,aF,?_⟩;(try simp only[am]);refine⟨Sa,(((jS _ _).alloc _).alloc _).set (.inl BY) _,trivial⟩;done)|skip)
 have L:FrB 0 H (((H.alloc (.cells x.cells 0 true)).alloc (.cells [.bool false,.bool false,.bool false,.bool false,.bool false,.bool false,.bool false,.bool false] 0 true)).set (H.next+1) (.cells [.bool (bJ x.aw 0),.bool (bJ x.aw 1),.bool (bJ x.aw 2),.bool (bJ x.aw 3),.bool (bJ x.aw 4),.bool (bJ x.aw 5),.bool (bJ x.aw 6),.bool (bJ x.aw 7)] 0 true)):=(((jS _ _).alloc _).alloc _).set (.inl ac) _;refine zcE [2,4,5,48] fun E' j=>?_;(try simp only[bq,aT,aN,aG,aR,Nat.reduceBEq, *]at j);generalize O:Hp.set _ (H.next+1) _=Hb at L⊢;have gb:Hb.get H.next=some (.cells x.cells 0 true):=by rw[<-O,aA,af ac,aD,af dG,aD,ah rfl]
 have gf:Hb.get (H.next+1)=some (.cells [.bool (bJ x.aw 0),.bool (bJ x.aw 1),.bool (bJ x.aw 2),.bool (bJ x.aw 3),.bool (bJ x.aw 4),.bool (bJ x.aw 5),.bool (bJ x.aw 6),.bool (bJ x.aw 7)] 0 true):=KC;have nb:H.next+2<=Hb.next:=by rw[<-O];exact aH _
 clear O;refine bp (h1:=fun hb hbp=>?_) (h2:=fun hb hbp=>?_)
 .refine pZ ?_;all_goals refine qq ?_
  refine⟨Sa,L,trivial⟩
 refine cb.skip ?_;dsimp only[mX,ul];refine vp ?_;first
 |refine ak fun K Z=>?_
 |(simp only[bw,bt,bA,bB,Nat.blt,Nat.ble];refine ak fun K Z=>?_)
 |(refine vp ?_;refine ak fun K Z=>?_)
 have hK:∀I J,(I.at 2=.ptr H.next 0/\I.at 4=.bool false/\I.at 99=.bool (BZ x)/\J=Hb)->K I J:=by
  rintro I J ⟨k2,k4,k99,rfl⟩;apply Z;clear Z K;dsimp only[mX,ul];have Y:(ml x.aw&&oX x.name (bJ x.aw 0)&&oX x.to (bJ x.aw 1)&&sM x.a6 (bJ x.aw 3)&&sM x.value (bJ x.aw 4))=true:=by(try simp only[i8]at *);simp only[*,gW,]
  have V:tJ x=(!BZ x&&eM x.args):=by
   have e:tJ x=((ml x.aw&&oX x.name (bJ x.aw 0)&&oX x.to (bJ x.aw 1)&&sM x.a6 (bJ x.aw 3)&&sM x.value (bJ x.aw 4))&&(!BZ x&&eM x.args)):=by
    simp only[tJ,BZ,zh,F0,Bool.not_not,xy]
   rw[e,Y,el]
  refine nM (fun hb hbp=>?_) (fun hb hbp=>?_)
  .all_goals refine qq ?_
   refine⟨by rw[V];(try simp only[i8]at *);simp only[*,em,lX,],L,trivial⟩
  refine bY [2,4,101,102] [] 103 x.args.length (fun i E J=>eM x.args=eM (x.args.drop i)/\FrB 0 H J) eE ⟨au,L⟩ ?_;rintro i E H3 hi j hrH hnH hsI ⟨hJ,C⟩;(try simp only[bq,aT,aN,aG,aR,Nat.reduceBEq, *]at j);(try simp only[aT, *]at hrH);(try simp only[aZ,br,bX,bK,Nat.reduceAdd]at hnH);repeat' (first
   |(apply aj ?_;clear hK K)|apply aO ?_|(apply bp ?_ ?_<;>(intro hb hbp;try(cases hb;done)))|(apply ak fun K hK=>?_)|fail)
  .have U:i<x.args.length:=by simpa using hb
   have hgx:x.args[i]?=some x.args[i]:=aL U;have hsm:=py (cB U);have m:eM (x.args.drop i)=(fk x.args[i]&&eM (x.args.drop (i+1))):=by rw[ft U];rfl
   refine dY fun K hK=>?_;refine qd ?_;refine aY ?_ (KD (fun _=>rfl) (fun _=>rfl) ⟨fun _=>rfl,rfl⟩ ⟨fun _=>rfl,rfl⟩ x.args[i] ac _);rintro v H4 ⟨rfl,z⟩;dsimp only[aU];have hf5:FrB 0 H H4:=C.trans ((((jS _ _).alloc _).set (.inl (aH _)) _).trans z);have n4:=z.next
   simp only[br,aZ]at n4;refine nM (fun hb hbp=>?_) (fun hb hbp=>?_);all_goals (first|(refine⟨aq,_,aF,?_⟩;(try simp only[am]);refine⟨by rw[V,hJ,m];(try simp only[dH]at *);simp only[ *,oL,iC,],hf5,trivial⟩;done)|skip)
   refine⟨ac,aK,aK,bG,EO,?_⟩;exact⟨by rw[hJ,m];(try simp only[i8]at *);simp only[*,el,],hf5⟩
  .all_goals refine qq ?_
   refine⟨by rw[V,hJ,show i=x.args.length by simp at hb;omega,gH];(try simp only[i8]at *);simp only[eM, *,gW,iC,],C,trivial⟩
 clear Z;repeat' (first
  |(apply aj ?_;clear hK K)|apply aO ?_|(apply cD ?_ ?_<;>(intro hg hgp;try(cases hg;done)))|fail)
 all_goals
  refine⟨eE,eE,?_,rfl⟩;rw[BZ];(try simp only[dH]at *);simp only[aG,Nat.reduceBEq, *,il,io,rM,pG,]
end
section
theorem pQ(n:Nat):(!decide ((0:Int)<n))=decide ((n:Int)=0):=by
 cases n with
 |zero=>rfl
 |succ n=>simp;omega
def zgN(n:Int):(!decide (n<0) && !decide (1000000<n)&&decide (n=0))=decide (n=0):=by
 by_cases h:n=0
 .subst h;rfl
 .simp[h]
def zgO(n:Int):(!decide (n<0))=decide (0<=n):=by
 by_cases h:n<0
 .simp[h]
 .simp[h];omega
def zgP(n:Int):(!decide (1000000<n))=decide (n<=1000000):=by
 by_cases h:1000000<n
 .simp[h]
 .simp[h];omega
def zgQ(x:St):tJ x=jw x:=by
 have j:x.aw=1\/x.aw=2\/x.aw=3\/x.aw=4\/x.aw=5\/x.aw=6\/x.aw=7\/ml x.aw=false:=by
  simp only[ml,vH,kB];omega
 rcases j with j|j|j|j|j|j|j|j
 case inr.inr.inr.inr.inr.inr.inr=>
  have h:nA x=false:=by
   simp only[ml,vH,kB]at j;unfold nA;rw[af ac,af ac,af ac,af ac,af ac,af ac,af ac]
  rw[tJ,jw,j,h];simp
 all_goals
  have hr:=zgN x.n;simp only[tJ,jw,nA,j,zgF,zgG,zgH,zgI,zgJ,zgK,zgL,rT,rS,oX,sM,ji,rz,dh,dD,Int.reduceEq,tz,il,mU,pQ,dI];first
  |(rw[zgO,zgP];ac_rfl)
  |(rw[<-hr];ac_rfl)
mutual
theorem zgR:∀(x:St) (d:Int),lZ (fun x _ (s:Unit)=>(tJ x,s)) x d ()=(nC x,())
 | .mk k J Z n a v O j m,d=>by
   rw[lZ,nC,zgQ];cases h:jw (.mk k J Z n a v O j m)with
   |false=>simp
   |true=>
    simp only[Ga j,el];cases g:fQ j with
    |false=>simp
    |true=>simp only[Ga m,el]
theorem Ga:∀(l:qE) (d:Int),fC (fun x _ (s:Unit)=>(tJ x,s)) l d ()=(fQ l,())
 |[],_=>rfl
 |x::l,d=>by
  rw[fC,fQ,zgR x];cases h:nC x with
  |false=>simp
  |true=>simp only[Ga l,el]
end
def tyP4d.tyF:=ad @ec (ad @cA (ad @dw (ad @gQ (ad @jA (ad @iL (ad @fU (ad @fL (ad @fM (ad @fb (ad @nf (ad @lJ (@gF))))))))))))
open tyP4d
noncomputable def Sn:{c:SC // aC 55 (f71.body.getD .skip)=c}:=by
 refine⟨?_,?_⟩;rotate_left
 .simp only[f71,bz,aC,bw,bt,bA,bB,Nat.blt,Nat.ble];rfl
def zgS(f:Fu)(b:qx->Bool):(rU f).all b=(b f.name&&f.params.all b&&f.ao.all b):=by
 rw[rU,yF,yF,oO,oK,gW]
set_option maxRecDepth 100000 in
theorem zgT(p:Pr)(hz:p.sz<2^36):bF prog ρ 71 [.agg p.cells] (.bool (iM p)):=dE fit (pls:=pls) (zgE ρ) (.cons (.agg p.pure) .nil) (.bool _) (by
 have hw:zd0 (ay pls tK) 71:=db (fun _=>rfl) rfl;have kn:∀s:qx,s.length<2^60->∀H,aM prog (ay pls tK) 117 [.aq s] H fun v H'=>v=.bool (ci s)/\H'=H:=fun s h1 H=>bZ (enc:=nn) (out:=fun x=>.bool (ci x)) ux (x:=s) rfl h1;have ks:∀l:qw,dB l<2^60->∀H,aM prog (ay pls tK) 118 [cZ l] H fun v H'=>v=.bool (l.all ci)/\H'=H:=fun l h1 H=>bZ (enc:=fun l:qw=>[cZ l]) (out:=fun l=>.bool (l.all ci)) zgD (x:=l) rfl h1;have hpz:p.sz=1+eV p.aa+fg p.funcs:=rfl;have hla:=mC p.aa;have hlf:=nX p.funcs;refine a0 (M:=55) (rs:=[.tmp 2]) (hw.call _) hw.aG hw.az func71 rfl rfl Sn.2 rfl ?_;dsimp only[Sn,aW,Nat.reduceAdd];refine eP ?_;refine bY [1,8,9] [0] 10 p.aa.length (fun i E H=>p.aa.all (fun a=>ci a.name)=(p.aa.drop i).all (fun a=>ci a.name)) eE au ?_;rintro i E H2 hi U m L C V;(try simp only[bq,aT,aN,aG,aR,Nat.reduceBEq, *]at U);(try simp only[bq,aT,aN,aG,aR, *]at m);(try simp only[aZ,bX,bK]at L);have hB0:(0 == H2.next)=false:=aX ac;have hC0:(H2.next == 0)=false:=aX ac;repeat' (first
  |(apply aj ?_;clear hK K)|apply aO ?_|(apply bp ?_ ?_<;>(intro hb hbp;try(cases hb;done)))|(apply ak fun K hK=>?_)|fail)
 .have j:i<p.aa.length:=by simpa using hb
  have hgx:p.aa[i]?=some p.aa[i]:=aL j;have hsm:=Fm (cB j);have Z:(p.aa.drop i).all (fun a=>ci a.name)=(ci p.aa[i].name&&(p.aa.drop (i+1)).all (fun a=>ci a.name)):=BU;repeat' (first
   |(apply aj ?_;clear hK K)|apply aO ?_|(apply ez ?_;first|refine Rx.k (kn _ ac _) ?_)|(apply bp ?_ ?_<;>(intro hb hbp;try(cases hb;done)))|(apply ak fun K hK=>?_)|fail)
  all_goals (first|(refine⟨aq,_,aF,?_⟩;(try simp only[am]);rw[iM,V,Z];(try simp only[lH]at *);simp only[*,em,];done)|skip)
  refine⟨ac,aK,aK,bG,zf,?_⟩;rw[V,Z];(try simp only[i8]at *);simp only[*,el,]
 .have O:i=p.aa.length:=by simp at hb;omega
  rw[O,gH]at V;have z:p.aa.all (fun a=>ci a.name)=true:=V;clear V O C hi;refine bY [20,21] [0] 22 p.funcs.length (fun i E H=>p.funcs.all jY=(p.funcs.drop i).all jY) eE au ?_;rintro i E H3 hi U m L C V;(try simp only[bq,aT,aN,aG,aR,Nat.reduceBEq, *]at U);(try simp only[bq,aT,aN, *]at m);(try simp only[aZ,br,bX,bK,Nat.reduceAdd]at L);have hB0:(0 == H3.next)=false:=aX ac;have hC0:(H3.next == 0)=false:=aX ac;repeat' (first
   |(apply aj ?_;clear hK K)|apply aO ?_|(apply bp ?_ ?_<;>(intro hb hbp;try(cases hb;done)))|(apply ak fun K hK=>?_)|fail)
  .have j:i<p.funcs.length:=by simpa using hb
   have hgx:p.funcs[i]?=some p.funcs[i]:=aL j;have hsm:=nY (cB j);have hsz:p.funcs[i].sz=1+p.funcs[i].name.length+dB p.funcs[i].params+dB p.funcs[i].ao+bH p.funcs[i].body+p.funcs[i].value.sz:=rfl;have Z:(p.funcs.drop i).all jY=(jY p.funcs[i]&&(p.funcs.drop (i+1)).all jY):=BU;have Y:jY p.funcs[i]=(ci p.funcs[i].name&&p.funcs[i].params.all ci&&p.funcs[i].ao.all ci&&fQ p.funcs[i].body&&fk p.funcs[i].value):=by rw[jY,zgS]
   repeat' (first
    |(apply aj ?_;clear hK K)|apply aO ?_|(apply ez ?_;first|refine Rx.k (kn _ ac _) ?_|refine Rx.k (ks _ ac _) ?_)|(apply cD ?_ ?_<;>(intro hg hgp;try(cases hg;done)))|(apply bp ?_ ?_<;>(intro hb hbp;try(cases hb;done)))|(apply ak fun K hK=>?_)|fail)
   .refine qd ?_;refine aY ?_ (KD (fun _=>rfl) (fun _=>rfl) ⟨fun _=>rfl,rfl⟩ ⟨fun _=>rfl,rfl⟩ p.funcs[i].value ac _);rintro v H4 ⟨rfl,J⟩;have hn4:=J.next
    simp only[br,aZ]at hn4;have g4:H4.get H3.next=some (.cells p.funcs[i].cells 0 true):=by rw[J.get _ (de _) iU,aA,ah rfl]
    have g40:H4.get 0=some (.cells p.cells 0 true):=by rw[J.get _ (de _) iU,aA,af ac,aD,af ac];exact m
    dsimp only[aU];repeat' (first
     |(apply aj ?_;clear hK K)|apply aO ?_|(apply cD ?_ ?_<;>(intro hg hgp;try(cases hg;done)))|(apply bp ?_ ?_<;>(intro hb hbp;try(cases hb;done)))|(apply ak fun K hK=>?_)|fail)
    .refine qd ?_;refine aY ?_ (zx (db (fun _=>rfl) rfl) (I:=fun(_:Unit) _=>True) (fun _ _ _ _ _=>trivial) zgM (bH p.funcs[i].body+1) p.funcs[i].body ac 0 () H4 ac (de _) trivial);rintro v H5 ⟨rfl,g,_⟩;have hn5:=g.next
     have g50:H5.get 0=some (.cells p.cells 0 true):=by rw[g.get _ (de _) ac];exact g40
     rw[Ga];dsimp only[aU];repeat' (first
      |(apply aj ?_;clear hK K)|apply aO ?_|(apply cD ?_ ?_<;>(intro hg hgp;try(cases hg;done)))|(apply bp ?_ ?_<;>(intro hb hbp;try(cases hb;done)))|(apply ak fun K hK=>?_)|fail)
     all_goals (first|(refine⟨aq,_,aF,?_⟩;(try simp only[am]);rw[iM,z,V,Z,Y];(try simp only[dH]at *);simp only[ *,oL,gW,];done)|skip)
     refine⟨ac,aK,aK,bG,pA,?_⟩;rw[V,Z,Y];(try simp only[i8]at *);simp only[ *,tz,]
    all_goals skip
    all_goals (first|(refine⟨aq,_,aF,?_⟩;(try simp only[am]);rw[iM,z,V,Z,Y];(try simp only[dH]at *);simp only[ *,pG,];done)|skip)
   all_goals skip
   all_goals (first|(refine⟨aq,_,aF,?_⟩;(try simp only[am]);rw[iM,z,V,Z,Y];(try simp only[dH]at *);simp only[ *,oL,gW,];done)|skip)
  .all_goals refine qq ?_
   have O:i=p.funcs.length:=sB;rw[O,gH]at V;have hJ2:p.funcs.all jY=true:=V;rw[iM,z,hJ2];rfl)
end
section
def tyP4h.tyF:=ad @gQ (ad @jA (@iL))
open tyP4h
noncomputable def So:{c:SC // aC 16 (f38.body.getD .skip)=c}:=by
 refine⟨?_,?_⟩;rotate_left
 .simp only[f38,bz,aC,bw,bt,bA,bB,Nat.blt,Nat.ble];rfl
noncomputable def Sp:En:=⟨70,false,bQ (fun p=>p.sz<2^36) fD fun p=>.bool (mD p)⟩
def zgU(p:Pr)(I:p.sz<2^36):bF prog ρ 70 (fD p) (.bool (mD p)):=dE fit (pls:=pls) (l:=[]) trivial (.cons (.agg p.pure) .nil) (.bool _) (zfS ⟨fh _,fh _,fh _,fh _⟩ (fh _) (fh _) (fh _) p ac)
def zgV:co prog ρ Sp:=cz fun p hp=>zgU ρ p hp
noncomputable def Sq:En:=⟨71,false,bQ (fun p=>p.sz<2^36) fD fun p=>.bool (iM p)⟩
def zgW:co prog ρ Sq:=cz fun p hp=>zgT ρ p hp
noncomputable def Sr:En:=⟨72,false,bQ (fun p=>p.sz<2^36) fD fun p=>.bool (rW p)⟩
def zgX:co prog ρ Sr:=cz fun p hp=>zfe ρ p hp
noncomputable def Ss:En:=⟨73,false,bQ (fun p=>p.sz<2^36) fD fun p=>.int .i64 (xT p)⟩
def zgY:co prog ρ Ss:=cz fun p hp=>zfR ρ p hp
noncomputable def zB:qB:=[Sp,Sq,Sr,Ss]
def zgZ:eU prog ρ zB:=⟨zgV ρ,zgW ρ,zgX ρ,zgY ρ,trivial⟩
def zg0(p:Pr)(I:p.sz<2^36):bF prog ρ 38 (fD p) (.int .i64 (fx p)):=dE fit (pls:=pls) (zgZ ρ) (.cons (.agg p.pure) .nil) (.int _ _) (by
 have L:zd0 (ay pls zB) 38:=db (fun _=>rfl) rfl;have V:∀H,aM prog (ay pls zB) 70 [.agg p.cells] H fun v H'=>v=.bool (mD p)/\H'=H:=fun H=>bZ (enc:=fD) (out:=fun p=>.bool (mD p)) pH (x:=p) rfl I;have Z:∀H,aM prog (ay pls zB) 71 [.agg p.cells] H fun v H'=>v=.bool (iM p)/\H'=H:=fun H=>bZ (enc:=fD) (out:=fun p=>.bool (iM p)) pH (x:=p) rfl I;have i:∀H,aM prog (ay pls zB) 72 [.agg p.cells] H fun v H'=>v=.bool (rW p)/\H'=H:=fun H=>bZ (enc:=fD) (out:=fun p=>.bool (rW p)) pH (x:=p) rfl I;have Y:∀H,aM prog (ay pls zB) 73 [.agg p.cells] H fun v H'=>v=.int .i64 (xT p)/\H'=H:=fun H=>bZ (enc:=fD) (out:=fun p=>.int .i64 (xT p)) pH (x:=p) rfl I;rw[fD,<-ze4];refine a0 (M:=16) (rs:=[.tmp 2]) (L.call _) L.aG L.az func38 rfl rfl So.2 rfl ?_;dsimp only[So,aW,Nat.reduceAdd];repeat' (first
  |(apply aj ?_;clear hK K)|apply aO ?_|(apply ez ?_;first|refine Rx.k (V _) ?_|refine Rx.k (Z _) ?_|refine Rx.k (i _) ?_|refine Rx.k (Y _) ?_)|(apply bp ?_ ?_<;>(intro hb hbp;try(cases hb;done)))|(apply ak fun K hK=>?_)|fail)
 all_goals
  all_goals refine qq ?_
  rw[Kb];(try simp only[dH]at *);simp only[nO,dI, *,dh,dD])
end
end Go.Proofs.YtbflaciihaijgaaGreat
