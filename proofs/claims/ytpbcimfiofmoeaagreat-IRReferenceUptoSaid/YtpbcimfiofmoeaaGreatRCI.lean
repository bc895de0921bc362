/- Parts: R3b, I1, I2, EnX, I3, I4, K1, K2a. -/
import Derived.Test.YtpbcimfiofmoeaaGreatRCH
set_option linter.unusedSimpArgs false
set_option linter.unusedVariables false
set_option linter.unusedSectionVars false
set_option linter.defProp false
set_option maxHeartbeats 32000000
namespace Go.Ab
set_option maxRecDepth 20000
open Go
theorem JK{P:Prop}(h:P:=by have:=(hv.n.lt hk).2;omega):P:=h
theorem t9{P:Prop}(h:P:=by rw[hkeep];exact a5):P:=h
theorem Ee{P:Prop}(h:P:=by rw[List.drop_eq_getElem_cons hlt,List.all_cons]):P:=h
theorem JL{P:Prop}(h:P:=by rw[hk1];exact List.mem_singleton_self _):P:=h
theorem Ef{P:Prop}(h:P:=by have:=(hv.lt hk).2;omega):P:=h
theorem fx{P:Prop}(h:P:=by simp only[zea];omega):P:=h
theorem pm{P:Prop}(h:P:=by simp only[zea]at n5;omega):P:=h
theorem ei{P:Prop}(h:P:=by rfl):P:=h
theorem nZ{P:Prop}(h:P:=by rw[hgo];simp):P:=h
theorem Ay{P:Prop}(h:P:=by simp_all;done):P:=h
theorem Eg{P:Prop}(h:P:=by simp only[zdX,Nat.reduceBEq, *];exact zfQ (n:=x.kids.length) ac ac):P:=h
theorem vF{P:Prop}(h:P:=by simp only[zdX,Nat.reduceBEq, *];exact zfQ (n:=x.length) ac ac):P:=h
theorem Eh{P:Prop}(h:P:=by rw[zd1,if_neg JK]):P:=h
theorem Ei{P:Prop}(h:P:=by rw[Int.tmod_eq_emod_of_nonneg ac];omega):P:=h
theorem pn{P:Prop}(h:P:=by rw[Hp.get_set,if_neg ac,zd1,if_neg ac]):P:=h
theorem xW{P:Prop}(h:P:=by simp only[zdX,Nat.reduceBEq, *];exact zfQ (n:=n.kids.length) ac ac):P:=h
theorem Ej{P:Prop}(h:P:=by rw[List.getD_eq_getElem?_getD,List.getElem?_eq_getElem ac];rfl):P:=h
theorem xX{P:Prop}(h:P:=by rw[zd1,if_pos ei]):P:=h
theorem JM{P:Prop}(h:P:=by rw[show(((m+1:Nat):Int) - 1)=m by omega];exact eE):P:=h
theorem Az{P:Prop}(h:P:=by simp only[zdX,Nat.reduceBEq, *];exact zfQ (n:=m+1) ac ac):P:=h
theorem JN{P:Prop}(h:P:=by rw[f5 0 ac,zd1,if_neg ac];exact hg3):P:=h
def gR:=@List.drop_length
def n1:=@Prod.ext
def re:=@List.map_set
def Ek:=@Bool.not_eq_false'
def JO:=@Bool.or_true
def xY:=@Int.not_lt
def El:=@List.mem_of_mem_take
def Em:=@List.range_succ
def AA:=@List.length_filter_le
def JP:=@Int.tdiv_eq_ediv_of_nonneg
def cW:=And.intro @u5 @Ek
def XM:=And.intro @pN @li
def XN:=And.intro XM @tE
def XO:=And.intro XN @Ai
def XP:=And.intro XO @CU
def XQ:=And.intro XP @JO
def XR:=And.intro XQ DZ
def XS:=And.intro XR @r6
def XT:=And.intro XS @l5
def XU:=And.intro XT @uZ
def cX:=And.intro XU @tL
def lH:=And.intro @aX @mJ
end Go.Ab
namespace Go.Proofs.YtpbcimfiofmoeaaGreat
set_option maxRecDepth 20000
open Go Go.Ab
section
def tyR3b.tyF:=ad @dC (ad @eU (ad @hO (ad @gg (ad @fW (ad @iz (@eI))))))
open tyR3b
noncomputable def JQ:{c:SC // aS 22 (Tryz.f104.body.getD .skip)=c}:=by
 refine⟨?_,?_⟩;rotate_left
 .simp only[Tryz.f104,cj,aS,zen,zel,zeu,zev,Nat.blt,Nat.ble];rfl
noncomputable def JR:{c:SC // aS 78 (Tryz.f102.body.getD .skip)=c}:=by
 refine⟨?_,?_⟩;rotate_left
 .simp only[Tryz.f102,cj,aS,zen,zel,zeu,zev,Nat.blt,Nat.ble];rfl
mutual
def zfb:Ex->Nat
 | .mk _ _ _ _ ks=>kS ks
def kS:List Ex->Nat
 |[]=>0
 |e::es=>max (1+zfb e) (kS es)
end
theorem XV(x:Ex):zfb x=kS x.kids:=by cases x;rw[zfb];rfl
mutual
theorem JS:∀x:Ex,zfb x<=x.sz
 | .mk _ _ _ _ ks=>by have:=JT ks;simp only[zfb,Ex.sz];omega
theorem JT:∀l:List Ex,kS l<=zfs l
 |[]=>aM _
 |e::es=>by have:=JS e;have:=JT es;simp only[kS,zfs];omega
end
def jy(x:Ex):List AV:=[.agg x.cells]
theorem qf(x y:Ex)(h:jy x=jy y):x=y:=by simp only[jy,eD,AV.agg.injEq,aX]at h;exact Ex.inj h
def lI(l:List St):List AV:=[.lst (l.map St.cells)]
theorem vG(x y:List St)(h:lI x=lI y):x=y:=by simp only[lI,eD,AV.lst.injEq,aX]at h;exact Ad h
theorem XW(ρ:Nat->Int):∀x:Ex,x.sz<2^60->bV Tryz.prog ρ 104 [.agg x.cells] (.int .i64 (zfb x)):=
 tS fit (pls:=pls) (l:=[]) trivial (fun x=>x.sz) (ok:=fun x=>x.sz<2^60) (enc:=jy) (out:=fun x=>.int .i64 (zfb x)) (fun x _=>.cons (.agg x.pure) .nil) (fun x _=>.int _ _) (fun x hx=>by
 have hw:=tY (sz:=fun x:Ex=>x.sz) (ok:=fun x=>x.sz<2^60) (out:=fun x=>.int .i64 (zfb x)) qf (f:=104) (l:=[]) x;generalize hl:(⟨104,false,cy (fun y=>y.sz<2^60/\y.sz<x.sz) jy fun x=>.int .i64 (zfb x)⟩:En)::[]=l at hw⊢;have kr:∀y:Ex,y.sz<2^60->y.sz<x.sz->∀H,zd5 Tryz.prog (zdW pls l) 104 [.agg y.cells] H fun v H'=>v=.int .i64 (zfb y)/\H'=H:=fun y h1 h2 H=>by
  subst hl;exact zeJ (enc:=jy) (out:=fun x=>.int .i64 (zfb x)) qf (x:=y) rfl ⟨h1,h2⟩
 have hsz:=x.sz_eq;have hlen:=sf x.kids;have hlk:x.kids.length<2^60:=ac;have hdl:=JS x;change zd5 _ _ _ [.agg x.cells] _ _;refine zed (M:=22) (rs:=[.tmp 2]) hw.call hw.ice hw.froz Tryz.func104 rfl rfl JQ.2 rfl ?_;dsimp only[JQ,zd8,Nat.reduceAdd];repeat' (first
  |(apply au ?_;clear hK K)|apply Rx.o ?_|(apply aT (fun hb hbp=>?_) (fun hb hbp=>?_)<;>try(cases hb;done))|apply am ?_|(apply zdQ fun K hK=>?_)|apply aA ?_|apply zdR ?_|apply aB ?_|apply zdT ?_)
 refine zeL [1] [0] 4 x.kids.length (fun i E H=>∃m:Nat,E.at 3=.int .i64 m/\max m (kS (x.kids.drop i))=zfb x) eE ⟨0,eE,by simp[XV]⟩ ?_;rintro i E H2 hi hcE hrH hnH hsI ⟨m,k3,hJ⟩;(try simp only[zec,zeb,aX,zdX,zd2,Nat.reduceBEq,Nat.reduceAdd,Nat.reduceLeDiff,tyF, *]at hcE);(try simp only[zec,zeb,aX,zdX,zd2,Nat.reduceBEq,Nat.reduceAdd,Nat.reduceLeDiff,tyF, *]at hrH);(try simp only[zea,zef,zeB,bT,Nat.reduceAdd]at hnH);have hB0:(0 == H2.next)=false:=zeq ac;have hC0:(H2.next == 0)=false:=zeq ac;repeat' (first
  |(apply au ?_;clear hK K)|apply Rx.o ?_|(apply aT (fun hb hbp=>?_) (fun hb hbp=>?_)<;>try(cases hb;done))|apply am ?_|(apply zdQ fun K hK=>?_)|apply aA ?_|apply zdR ?_|apply aB ?_|apply zdT ?_)
 .have hlt:i<x.kids.length:=by simpa using hb
  have hgx:x.kids[i]?=some x.kids[i]:=br hlt;have hm:=zgB (dX hlt);have hdr:kS (x.kids.drop i)=max (1+zfb x.kids[i]) (kS (x.kids.drop (i+1))):=ki;have hwr:IntKind.wrap .i64 (1+(zfb x.kids[i]:Int))=((1+zfb x.kids[i]:Nat):Int):=by rw[tx _ ac];omega
  repeat' (first
   |(apply au ?_;clear hK K)|apply Rx.o ?_|(apply eu ?_;first|refine Rx.k (kr _ ac ac _) ?_)|(apply aT (fun hb hbp=>?_) (fun hb hbp=>?_)<;>try(cases hb;done))|apply am ?_|(apply zdQ fun K hK=>?_)|apply aA ?_|apply zdR ?_|apply aB ?_|apply zdT ?_)
  refine⟨ac,zd7,zd7,eN,Eg,?_⟩;exact⟨max m (1+zfb x.kids[i]),by simp only[zdX,Nat.reduceBEq];congr 1;omega,by rw[<-hJ,hdr];omega⟩
 .all_goals (refine⟨zdZ,_,zd6,?_⟩;try simp only[zdY])
  rw[show i=x.kids.length by simp at hb;omega,gR]at hJ;simp[kS]at hJ;rw[hJ])
mutual
def zfm:St->Nat
 | .mk _ _ _ _ _ _ _ th el=>1+nS th+nS el
def nS:List St->Nat
 |[]=>0
 |x::l=>zfm x+nS l
end
mutual
def zfp:St->Nat
 | .mk k _ _ _ _ _ _ th el=>(if k=4 then 1 else 0)+zfE th+zfE el
def zfE:List St->Nat
 |[]=>0
 |x::l=>zfp x+zfE l
end
mutual
def zeX:St->Nat->Nat
 | .mk _ _ _ _ _ _ _ th el,d=>max d (max (zfO th (d+1)) (zfO el (d+1)))
def zfO:List St->Nat->Nat
 |[],_=>0
 |x::l,d=>max (zeX x d) (zfO l d)
end
theorem XX(x:St):zfm x=1+nS x.thn+nS x.els:=by cases x;rw[zfm];rfl
theorem Eo(x:St):zfp x=(if x.kind=4 then 1 else 0)+zfE x.thn+zfE x.els:=by cases x;rw[zfp];rfl
theorem XY(x:St)(d:Nat):zeX x d=max d (max (zfO x.thn (d+1)) (zfO x.els (d+1))):=by cases x;rw[zeX];rfl
mutual
theorem XZ:∀x:St,zfm x<=x.sz
 | .mk _ _ _ _ _ _ _ th el=>by have:=AB th;have:=AB el;simp only[zfm,St.sz];omega
theorem AB:∀l:List St,nS l<=zep l
 |[]=>aM _
 |x::l=>by have:=XZ x;have:=AB l;simp only[nS,zep];omega
end
mutual
theorem X0:∀x:St,zfp x<=x.sz
 | .mk k _ _ _ _ _ _ th el=>by have:=AC th;have:=AC el;simp only[zfp,St.sz];split<;>omega
theorem AC:∀l:List St,zfE l<=zep l
 |[]=>aM _
 |x::l=>by have:=X0 x;have:=AC l;simp only[zfE,zep];omega
end
mutual
theorem X1:∀(x:St) (d:Nat),zeX x d<=d+x.sz
 | .mk _ _ _ _ _ _ _ th el,d=>by have:=AD th (d+1);have:=AD el (d+1);simp only[zeX,St.sz];omega
theorem AD:∀(l:List St) (d:Nat),zfO l d<=d+zep l
 |[],_=>dE _
 |x::l,d=>by have:=X1 x d;have:=AD l d;simp only[zfO,zep];omega
end
theorem zft{z:Int}(h1:-9223372036854775808<=z)(h2:z<9223372036854775808):IntKind.wrap .i64 z=z:=tx _ ac
def rh(x:List St×Nat):List AV:=[.lst (x.1.map St.cells),.int .i64 x.2]
theorem Ep(x y:List St×Nat)(h:rh x=rh y):x=y:=by
 simp only[rh,eD,AV.lst.injEq,AV.int.injEq,lH]at h;exact n1 (Ad h.1) ac
def sy(x:List St×Nat):AV:=.tup [.int .i64 (nS x.1),.int .i64 (zfE x.1),.int .i64 (zfO x.1 x.2)]
theorem JU(a b c:AV):Ab.extract (.tup [a,b,c]) 0=some a:=rfl
theorem JV(a b c:AV):Ab.extract (.tup [a,b,c]) 1=some b:=rfl
theorem JW(a b c:AV):Ab.extract (.tup [a,b,c]) 2=some c:=rfl
theorem X2(ρ:Nat->Int):∀x:List St×Nat,zep x.1+x.2<2^60->bV Tryz.prog ρ 102 (rh x) (sy x):=
 tS fit (pls:=pls) (l:=[]) trivial (fun x=>zep x.1) (ok:=fun x=>zep x.1+x.2<2^60) (enc:=rh) (out:=sy) (fun x _=>.cons (xE _) (.cons (.int _ _) .nil)) (fun x _=>.tup (.cons (.int _ _) (.cons (.int _ _) (.cons (.int _ _) .nil)))) (fun x hx=>by
 have hw:=tY (sz:=fun x:List St×Nat=>zep x.1) (ok:=fun x=>zep x.1+x.2<2^60) (out:=sy) Ep (f:=102) (l:=[]) x;generalize hl:(⟨102,false,cy (fun y=>zep y.1+y.2<2^60/\zep y.1<zep x.1) rh sy⟩:En)::[]=l at hw⊢;obtain⟨x,d⟩:=x;have kr:∀(y:List St),zep y<zep x->∀H,zd5 Tryz.prog (zdW pls l) 102 [.lst (y.map St.cells),.int .i64 ((d+1:Nat):Int)] H fun v H'=>v=.tup [.int .i64 (nS y),.int .i64 (zfE y),.int .i64 (zfO y (d+1))]/\H'=H:=fun y h2 H=>by
  subst hl;exact zeJ (enc:=rh) (out:=sy) Ep (x:=(y,d+1)) rfl ⟨by simp only[]at hx⊢;omega,h2⟩
 simp only[]at hx;have hlen:=tT x;have hn:=AB x;have hwl:=AC x;have hm:=AD x d;have hwd:IntKind.wrap .i64 ((d:Int)+1)=((d+1:Nat):Int):=by rw[tx _ ac];omega
 change zd5 _ _ _ [.lst (x.map St.cells),.int .i64 d] _ _;refine zed (M:=78) (rs:=[.tmp 4,.tmp 5,.tmp 6]) hw.call hw.ice hw.froz Tryz.func102 rfl rfl JR.2 rfl ?_;dsimp only[JR,zd8,Nat.reduceAdd];repeat' (first
  |(apply au ?_;clear hK K)|apply Rx.o ?_|(apply aT (fun hb hbp=>?_) (fun hb hbp=>?_)<;>try(cases hb;done))|apply am ?_|(apply zdQ fun K hK=>?_)|apply aA ?_|apply zdR ?_|apply aB ?_|apply zdT ?_)
 refine zeL [0,1] [] 10 x.length (fun i E H=>∃a b m:Nat,E.at 7=.int .i64 a/\E.at 8=.int .i64 b/\E.at 9=.int .i64 m/\a+nS (x.drop i)=nS x/\b+zfE (x.drop i)=zfE x/\max m (zfO (x.drop i) d)=zfO x d) eE ⟨0,0,0,eE,eE,eE,aK,aK,aK⟩ ?_;rintro i E H2 hi hcE hrH hnH hsI ⟨a,b,m,k7,k8,k9,hJ1,hJ2,hJ3⟩;(try simp only[zec,zeb,aX,zdX,zd2,Nat.reduceBEq,Nat.reduceAdd,Nat.reduceLeDiff,tyF, *]at hcE);(try simp only[zec,zeb,aX,zdX,zd2,Nat.reduceBEq,Nat.reduceAdd,Nat.reduceLeDiff,tyF, *]at hrH);(try simp only[zea,zef,zeB,bT,Nat.reduceAdd]at hnH);repeat' (first
  |(apply au ?_;clear hK K)|apply Rx.o ?_|(apply aT (fun hb hbp=>?_) (fun hb hbp=>?_)<;>try(cases hb;done))|apply am ?_|(apply zdQ fun K hK=>?_)|apply aA ?_|apply zdR ?_|apply aB ?_|apply zdT ?_)
 .have hlt:i<x.length:=by simpa using hb
  have hgx:x[i]?=some x[i]:=br hlt;have hsm:=zgw (dX hlt);have hsz:=x[i].sz_eq;have d1:nS (x.drop i)=zfm x[i]+nS (x.drop (i+1)):=ki;have d2:zfE (x.drop i)=zfp x[i]+zfE (x.drop (i+1)):=ki;have d3:zfO (x.drop i) d=max (zeX x[i] d) (zfO (x.drop (i+1)) d):=ki;rw[XX]at d1;rw[Eo]at d2;rw[XY]at d3;have gh0:=@JU;have gh1:=@JV;have gh2:=@JW;repeat' (first
   |(apply au ?_;clear hK K)|apply Rx.o ?_|(apply eu ?_;first|refine Rx.k (kr _ ac _) ?_)|(apply aT (fun hb hbp=>?_) (fun hb hbp=>?_)<;>try(cases hb;done))|apply am ?_|(apply zdQ fun K hK=>?_)|apply aA ?_|apply zdR ?_|apply aB ?_|apply zdT ?_)
  all_goals
   refine⟨ac,zd7,zd7,eN,vF,?_⟩;refine⟨a+1+nS x[i].thn+nS x[i].els,b+(if x[i].kind=4 then 1 else 0)+zfE x[i].thn+zfE x[i].els,max (max m d) (max (zfO x[i].thn (d+1)) (zfO x[i].els (d+1))),?_,?_,?_,ac,ac,ac⟩
   .simp only[zdX,Nat.reduceBEq]
    congr 1
    simp (disch:=omega) only[zft];omega
   .simp only[zdX,Nat.reduceBEq]
    congr 1
    simp (disch:=omega) only[zft, *];simp;try omega
   .simp only[zdX,Nat.reduceBEq]
    congr 1
    omega
 .all_goals (refine⟨zdZ,_,zd6,?_⟩;try simp only[zdY])
  rw[show i=x.length by simp at hb;omega,gR]at hJ1 hJ2 hJ3;simp[nS,zfE,zfO]at hJ1 hJ2 hJ3;simp only[sy,hJ1,hJ2,hJ3])
end
section
def tyI1.tyF:=ad @dC (ad @en (@oT))
open tyI1
noncomputable def JX:{c:SC // aS 31 (Tryz.f19.body.getD .skip)=c}:=by
 refine⟨?_,?_⟩;rotate_left
 .simp only[Tryz.f19,cj,aS,zen,zel,zeu,zev,Nat.blt,Nat.ble];rfl
noncomputable def JY:{c:SC // aS 6 (Tryz.f131.body.getD .skip)=c}:=by
 refine⟨?_,?_⟩;rotate_left
 .simp only[Tryz.f131,cj,aS,zen,zel,zeu,zev,Nat.blt,Nat.ble];rfl
noncomputable def JZ:{c:SC // aS 22 (Tryz.f154.body.getD .skip)=c}:=by
 refine⟨?_,?_⟩;rotate_left
 .simp only[Tryz.f154,cj,aS,zen,zel,zeu,zev,Nat.blt,Nat.ble];rfl
noncomputable def J0:{c:SC // aS 21 (Tryz.f152.body.getD .skip)=c}:=by
 refine⟨?_,?_⟩;rotate_left
 .simp only[Tryz.f152,cj,aS,zen,zel,zeu,zev,Nat.blt,Nat.ble];rfl
noncomputable def J1:{c:SC // aS 21 (Tryz.f153.body.getD .skip)=c}:=by
 refine⟨?_,?_⟩;rotate_left
 .simp only[Tryz.f153,cj,aS,zen,zel,zeu,zev,Nat.blt,Nat.ble];rfl
def fy(op:Int):AV:=.tup [.int .i64 (bH op).1,.bool (bH op).2]
theorem J2(op:Int):fG (fy op):=.tup (.cons (.int _ _) (.cons (.bool _) .nil))
theorem X3(ρ:Nat->Int)(op:Int):bV Tryz.prog ρ 19 [.int .i64 op] (fy op):=zfq fit (pls:=pls) (l:=[]) trivial (.cons (.int _ _) .nil) (J2 op) (by
 have hw:=jm 19;refine zed (M:=31) (rs:=[.tmp 2,.tmp 3]) (hw.call _) hw.ice hw.froz Tryz.func19 rfl rfl JX.2 rfl ?_;dsimp only[JX,zd8,Nat.reduceAdd];repeat' (first
  |(apply au ?_;clear hK K)|apply Rx.o ?_|(apply bQ (fun hg hgp=>?_) (fun hg hgp=>?_)<;>try(cases hg;done))|(apply aT (fun hb hbp=>?_) (fun hb hbp=>?_)<;>try(cases hb;done))|apply am ?_|(apply zdQ fun K hK=>?_)|apply aA ?_|apply zdR ?_|apply aB ?_)
 all_goals
  refine⟨zdZ,_,fo,?_⟩;try simp only[zdY]
  first
  |(simp_all[fy,bH];done)
  |(unfold fy bH;rw[ah ac,ah ac,ah ac,ah ac,ah ac,ah ac];done))
theorem Er(n:Nat):(0:Int)<=hT n/\hT n<=n:=by
 by_cases h:n=0
 .subst h;decide
 .rw[xV n ac];omega
theorem X4(ρ:Nat->Int)(n:Nat)(hn:n<2^60):bV Tryz.prog ρ 131 [.int .i64 n] (.int .i64 (hT n)):=zfq fit (pls:=pls) (l:=[]) trivial (.cons (.int _ _) .nil) (.int _ _) (by
 have hw:=jm 131;have hq:(2:Int)≠0:=aY;have e1:IntKind.wrap .i64 ((n:Int)-1)=(n:Int)-1:=zft ac ac;refine zed (M:=6) (rs:=[.tmp 2]) (hw.call _) hw.ice hw.froz Tryz.func131 rfl rfl JY.2 rfl ?_;dsimp only[JY,zd8,Nat.reduceAdd];repeat' (first
  |(apply au ?_;clear hK K)|apply Rx.o ?_|apply am ?_|(apply zdQ fun K hK=>?_)|apply aB ?_)
 all_goals (refine⟨zdZ,_,zd6,?_⟩;try simp only[zdY])
 rw[hT];rw[zft (by have:=(Er n).1;unfold hT at this;omega) (by have:=(Er n).2;unfold hT at this;omega)])
theorem J3(H:Hp)(a b c:Int):zfn Tryz.prog H 23 3 [(0,.int .i64 a),(1,.int .i64 b),(2,.int .i64 c)]=some (.sl H.next 0 3 1,H.alloc (.cells [.int .i64 a,.int .i64 b,.int .i64 c] 0 true)):=aC
theorem X5(H:Hp)(a b:Int):zfn Tryz.prog H 23 2 [(0,.int .i64 a),(1,.int .i64 b)]=some (.sl H.next 0 2 1,H.alloc (.cells [.int .i64 a,.int .i64 b] 0 true)):=aC
theorem ri(H:Hp)(a:Int):zfn Tryz.prog H 23 1 [(0,.int .i64 a)]=some (.sl H.next 0 1 1,H.alloc (.cells [.int .i64 a] 0 true)):=aC
theorem X6(ρ:Nat->Int)(op:Int):bV Tryz.prog ρ 154 [.int .i64 op] (zeG (zeW op)):=se (m:=3) (cfg:=zdW pls []) fit (ly ρ) (fun f args r h=>by simp[zdW,zeN]at h) (.cons (.int _ _) .nil) (by
 have hw:=jm 154;refine zed (M:=22) (rs:=[.tmp 2]) (hw.call _) hw.ice hw.froz Tryz.func154 rfl rfl JZ.2 rfl ?_;dsimp only[JZ,zd8,Nat.reduceAdd];have gh0:=@J3;have gh1:=@X5;have gh2:=@ri;repeat' (first
  |(apply au ?_;clear hK K)|apply Rx.o ?_|(apply aT (fun hb hbp=>?_) (fun hb hbp=>?_)<;>try(cases hb;done))|apply am ?_|(apply zdQ fun K hK=>?_)|apply aA ?_|apply zdR ?_|apply aB ?_)
 all_goals
  all_goals (refine⟨zdZ,_,zd6,?_⟩;try simp only[zdY])
  simp_all[zeW];rfl)
theorem X7(s w:List Int)(i:Nat)(hi:i<s.length)(hl:s.length<=w.length):zeH (s.drop i) (w.drop i)=(decide (s.getD i 0=w.getD i 0)&&zeH (s.drop (i+1)) (w.drop (i+1))):=by
 rw[jl hi,jl (l:=w) ac,zeH];simp[dM,br hi,br (show i<w.length by omega)]
def pp(x:List Int×List Int):List AV:=[zeG x.1,zeG x.2]
theorem vH{a b:List Int}(h:zeG a=zeG b):a=b:=by
 simp only[zeG,AV.lst.injEq]at h;exact Jg h
theorem J4(x y:List Int×List Int)(h:pp x=pp y):x=y:=by
 simp only[pp,eD,aX]at h;exact n1 (vH h.1) (vH h.2)
theorem X8(ρ:Nat->Int)(x:List Int×List Int)(hx:x.1.length<=x.2.length/\x.2.length<2^60):bV Tryz.prog ρ 152 (pp x) (.bool (zeH x.1 x.2)):=zfq fit (pls:=pls) (l:=[]) trivial (.cons (zgt _) (.cons (zgt _) .nil)) (.bool _) (by
 obtain⟨s,w⟩:=x;obtain⟨hl,hb⟩:=hx;simp only[]at hl hb;have hw:=jm 152;rw[pp];simp only[];refine zed (M:=21) (rs:=[.tmp 4]) (hw.call _) hw.ice hw.froz Tryz.func152 rfl rfl J0.2 rfl ?_;dsimp only[J0,zd8,Nat.reduceAdd];repeat' (first
  |(apply au ?_;clear hK K)|apply Rx.o ?_|(apply aT (fun hb hbp=>?_) (fun hb hbp=>?_)<;>try(cases hb;done))|apply am ?_|(apply zdQ fun K hK=>?_)|(apply zdP 4 [(3,9),(7,9)] fun K hK=>?_)|(apply zdU ?_;try intro _)|(apply zdV ?_ ?_<;>clear hK K)|apply aH ?_|apply aA ?_|apply zdR ?_|apply aB ?_|apply zdT ?_)
 refine zeL [0,1] [] 5 s.length (fun i E H=>zeH s w=zeH (s.drop i) (w.drop i)) eE aK ?_;rintro i E H2 hi hcE hrH hnH hsI hJ;(try simp only[zec,zeb,aX,zdX,zd2,Nat.reduceBEq,Nat.reduceAdd,Nat.reduceLeDiff,tyF, *]at hcE);(try simp only[zec,zeb,aX,zdX,zd2,Nat.reduceBEq,Nat.reduceAdd,Nat.reduceLeDiff,tyF, *]at hrH);(try simp only[zea,zef,zeB,bT,Nat.reduceAdd]at hnH);repeat' (first
  |(apply au ?_;clear hK K)|apply Rx.o ?_|(apply aT (fun hb hbp=>?_) (fun hb hbp=>?_)<;>try(cases hb;done))|apply am ?_|(apply zdQ fun K hK=>?_)|(apply zdP 4 [(3,9),(7,9)] fun K hK=>?_)|(apply zdU ?_;try intro _)|(apply zdV ?_ ?_<;>clear hK K)|apply aH ?_|apply aA ?_|apply zdR ?_|apply aB ?_|apply zdT ?_)
 .have hlt:i<s.length:=by simpa using hb
  have hgx:s[i]?=some s[i]:=br hlt;have hgy:w[i]?=some w[i]:=br ac;have hdr:=X7 s w i hlt hl;repeat' (first
   |(apply au ?_;clear hK K)|apply Rx.o ?_|(apply aT (fun hb hbp=>?_) (fun hb hbp=>?_)<;>try(cases hb;done))|apply am ?_|(apply zdQ fun K hK=>?_)|(apply zdP 4 [(3,9),(7,9)] fun K hK=>?_)|(apply zdU ?_;try intro _)|(apply zdV ?_ ?_<;>clear hK K)|apply aH ?_|apply aA ?_|apply zdR ?_|apply aB ?_|apply zdT ?_)
  .exact eK
  .all_goals (refine⟨zdZ,_,zd6,?_⟩;try simp only[zdY])
   rw[hJ,hdr,dM,dM,hgx,hgy];simp_all
  .refine⟨ac,zd7,zd7,eN,tV,?_⟩;rw[hJ,hdr,dM,dM,hgx,hgy];simp_all
 .all_goals (refine⟨zdZ,_,zd6,?_⟩;try simp only[zdY])
  rw[hJ,show i=s.length by simp at hb;omega,gR];rfl)
noncomputable def AE:En:=⟨19,false,cy (fun _=>True) (fun n:Int=>[.int .i64 n]) fy⟩
theorem J5(ρ:Nat->Int):zeO Tryz.prog ρ AE:=zeV fun n _=>X3 ρ n
theorem xZ(x y:Int)(h:([.int .i64 x]:List AV)=[.int .i64 y]):x=y:=jM
def ua(n:Nat):List AV:=[.int .i64 n]
theorem J6(x y:Nat)(h:ua x=ua y):x=y:=by
 simp only[ua,eD,AV.int.injEq,lH]at h;omega
noncomputable def vI:En:=⟨131,false,cy (fun n=>n<2^60) ua fun n=>.int .i64 (hT n)⟩
theorem J7(ρ:Nat->Int):zeO Tryz.prog ρ vI:=zeV fun n hn=>X4 ρ n hn
theorem Es{l:List En}(hl:∀ar,zeN l 131 ar=vI.sp ar)(n:Nat)(hn:n<2^60)(H:Hp):zd5 Tryz.prog (zdW pls l) 131 [.int .i64 n] H fun v H'=>v=.int .i64 (hT n)/\H'=H:=
 zeJ (enc:=ua) (ok:=fun n=>n<2^60) (out:=fun n=>.int .i64 (hT n)) J6 (x:=n) (hl _) hn
noncomputable def Et:En:=⟨154,false,cy (fun _=>True) (fun n:Int=>[.int .i64 n]) fun n=>zeG (zeW n)⟩
theorem X9(ρ:Nat->Int):zeO Tryz.prog ρ Et:=zeV fun n _=>X6 ρ n
def vJ(x:List Int×List Int):Prop:=x.1.length<=x.2.length/\x.2.length<2^60
noncomputable def Eu:En:=⟨152,false,cy vJ pp fun x=>.bool (zeH x.1 x.2)⟩
theorem Ya(ρ:Nat->Int):zeO Tryz.prog ρ Eu:=zeV fun x hx=>X8 ρ x hx
theorem Yb(ρ:Nat->Int)(n:Nat)(h3:3<=n)(hn:n<2^30):bV Tryz.prog ρ 153 [.int .i64 n] (zeG (jR n)):=se (m:=3) (cfg:=zdW pls [vI]) fit (ly ρ) (fH.look ⟨J7 ρ,trivial⟩) (.cons (.int _ _) .nil) (by
 have hw:Plain (zdW pls [vI]) 153:=zfv (fun _=>rfl) rfl;have hlv:=xV n ac;refine zed (M:=21) (rs:=[.tmp 2]) (hw.call _) hw.ice hw.froz Tryz.func153 rfl rfl J1.2 rfl ?_;dsimp only[J1,zd8,Nat.reduceAdd];repeat' (first
  |(apply au ?_;clear hK K)|apply Rx.o ?_|(apply aT (fun hb hbp=>?_) (fun hb hbp=>?_)<;>try(cases hb;done))|apply am ?_|(apply zdQ fun K hK=>?_)|apply aA ?_|apply zdR ?_|apply aB ?_|apply zdT ?_)
 have hrl:∀i,(List.replicate i (1:Int)).length=i:=fun i=>qX;have hkeep:(zdW pls [vI]).keep 153=false:=rfl;refine zeL [0,2] [] 4 n (fun i E H=>∃v,E.at 3=v/\gQ H v (List.replicate i 1) 0) eE ⟨.nilS,eE,.inl ⟨rfl,rfl⟩⟩ ?_;rintro i E H2 hi hcE hrH hnH hsI ⟨v,k3,hv⟩;(try simp only[zec,zeb,aX,zdX,zd2,Nat.reduceBEq,Nat.reduceAdd,Nat.reduceLeDiff,tyF, *]at hcE);(try simp only[zec,zeb,aX,zdX,zd2,Nat.reduceBEq,Nat.reduceAdd,Nat.reduceLeDiff,tyF, *]at hrH);(try simp only[zea,zef,zeB,bT,Nat.reduceAdd]at hnH);repeat' (first
  |(apply au ?_;clear hK K)|apply Rx.o ?_|(apply aT (fun hb hbp=>?_) (fun hb hbp=>?_)<;>try(cases hb;done))|apply am ?_|(apply zdQ fun K hK=>?_)|apply aA ?_|apply zdR ?_|apply aB ?_|apply zdT ?_)
 .have hlt:i<n:=by simpa using hb
  have gh0:=@ri;repeat' (first
   |(apply au ?_;clear hK K)|apply Rx.o ?_|(apply aT (fun hb hbp=>?_) (fun hb hbp=>?_)<;>try(cases hb;done))|apply am ?_|(apply zdQ fun K hK=>?_)|apply aA ?_|apply zdR ?_|apply aB ?_|apply zdT ?_)
  have hvb:gQ (H2.alloc (.cells [.int .i64 1] 0 true)) v (List.replicate i 1) 0:=hv.keep (cZ _) fun k hk=>Eh;obtain⟨v5,H5,a5,s5,n5,f5,o5⟩:=XB (r:=H2.next) (imm:=0) 1 hvb (dE _) eR (by rw[hrl];omega);refine ji eV eV t9 ?_;repeat' (first
   |(apply au ?_;clear hK K)|apply Rx.o ?_|(apply aT (fun hb hbp=>?_) (fun hb hbp=>?_)<;>try(cases hb;done))|apply am ?_|(apply zdQ fun K hK=>?_)|apply aA ?_|apply zdR ?_|apply aB ?_|apply zdT ?_)
  refine⟨ac,zd7,zd7,eN,(by simp only[zdX,Nat.reduceBEq, *];exact zfQ (n:=n) ac ac),?_⟩;exact⟨v5,eE,.inr (by rw[List.replicate_succ'];exact s5)⟩
 .have hie:i=n:=by simp at hb;omega
  subst hie;rcases hv with⟨_,h⟩|⟨r,hve,h2,_,h4⟩
  .have:=lX List.length h;rw[hrl]at this;simp at this;omega
  subst hve;rw[hrl]at k3;have hcl:((List.replicate i (1:Int)).map (AV.int .i64)).length=i:=aK;generalize hcs:(List.replicate i (1:Int)).map (AV.int .i64)=cs at h2 hcl;have hi1:0<i:=ac;have hi2:(i-1)/2+1<i:=ac;have e1:IntKind.wrap .i64 (((i-1)/2:Nat)+1)=(((i-1)/2+1:Nat):Int):=zft ac ac;repeat' (first
   |(apply au ?_;clear hK K)|apply Ry.o ?_|(apply dq ?_;first|refine Rx.k (Es (fun _=>rfl) _ ac _) ?_)|apply am ?_|(apply zdQ fun K hK=>?_)|apply aA ?_|apply zdR ?_|apply aB ?_|apply zdT ?_)
  refine oS eV eV (vE h2 ac 2) ?_;repeat' (first
   |(apply au ?_;clear hK K)|apply Ry.o ?_|apply am ?_|(apply zdQ fun K hK=>?_)|apply aA ?_|apply zdR ?_|apply aB ?_|apply zdT ?_)
  refine oS eV eV (vE ft (by rw[iS];omega) 2) ?_;repeat' (first
   |(apply au ?_;clear hK K)|apply Rx.o ?_|(apply aT (fun hb hbp=>?_) (fun hb hbp=>?_)<;>try(cases hb;done))|apply am ?_|(apply zdQ fun K hK=>?_)|apply aA ?_|apply zdR ?_|apply aB ?_|apply zdT ?_)
  all_goals (refine⟨zdZ,_,zd6,?_⟩;try simp only[zdY])
  have hll:(jR i).length=i:=by simp[jR]
  have hb:fM ((H2.set r (.cells (cs.set 0 (.int .i64 2)) 0 true)).set r (.cells ((cs.set 0 (.int .i64 2)).set ((i-1)/2+1) (.int .i64 2)) 0 true)) (.sl r 0 (jR i).length 1) (jR i) 0:=⟨r,0,rfl,by
   rw[bz,aE rfl,jR,re,re,hcs,show(hT i+1).toNat=(i-1)/2+1 by omega],dE _,dE _,h4⟩
  have:=hb.iceV 1;rw[hll]at this;exact this)
noncomputable def Ev:En:=⟨153,false,cy (fun n=>3<=n/\n<2^30) ua fun n=>zeG (jR n)⟩
theorem Yc(ρ:Nat->Int):zeO Tryz.prog ρ Ev:=zeV fun n hn=>Yb ρ n hn.1 hn.2
end
section
def tyI2.tyF:=ad @eI (ad @dC (ad @en (ad @jP (ad @ge (@rZ)))))
open tyI2
noncomputable def J8:{c:SC // aS 53 (Tryz.f115.body.getD .skip)=c}:=by
 refine⟨?_,?_⟩;rotate_left
 .simp only[Tryz.f115,cj,aS,zen,zel,zeu,zev,Nat.blt,Nat.ble];rfl
noncomputable def l9:{c:SC // aS 106 (Tryz.f114.body.getD .skip)=c}:=by
 refine⟨?_,?_⟩;rotate_left
 .simp only[Tryz.f114,cj,aS,zen,zel,zeu,zev,Nat.blt,Nat.ble];rfl
noncomputable def Ew:List En:=[AE,vI,Et,Eu,Ev]
theorem J9(ρ:Nat->Int):fH Tryz.prog ρ Ew:=⟨J5 ρ,J7 ρ,X9 ρ,Ya ρ,Yc ρ,trivial⟩
abbrev zfe(l:List Nd):AV:=.lst (l.map Nd.cells)
theorem mR(l:List Nd):fG (zfe l):=.map fun x _=>x.pure
theorem vK{a b:List Nd}(h:zfe a=zfe b):a=b:=by
 simp only[zfe,AV.lst.injEq]at h;exact oY (fun _ _ _=>vA) h
def x3(x:List Nd×Nd):Prop:=x.2.op=25->∃(k:Nat) (m:Nd),x.2.kids[0]?=some (k:Int)/\x.1[k]?=some m/\m.kids.length<2^60
def ub(x:List Nd×Nd):List AV:=[zfe x.1,.agg x.2.cells]
theorem Ka(x y:List Nd×Nd)(h:ub x=ub y):x=y:=by
 simp only[ub,eD,AV.agg.injEq,aX]at h;exact n1 (vK h.1) (vA h.2)
theorem Yd(ρ:Nat->Int)(x:List Nd×Nd)(hx:x3 x):bV Tryz.prog ρ 115 (ub x) (.bool (zez x.1 x.2)):=zfq fit (pls:=pls) (J9 ρ) (.cons (mR _) (.cons (.agg (vz _)) .nil)) (.bool _) (by
 obtain⟨l,n⟩:=x;have hw:Plain (zdW pls Ew) 115:=zfv (fun _=>rfl) rfl;unfold x3 at hx;rw[ub];simp only[]at hx⊢;refine zed (M:=53) (rs:=[.tmp 4]) (hw.call _) hw.ice hw.froz Tryz.func115 rfl rfl J8.2 rfl ?_;dsimp only[J8,zd8,Nat.reduceAdd];repeat' (first
  |(apply au ?_;clear hK K)|apply Rx.o ?_|(apply bQ (fun hg hgp=>?_) (fun hg hgp=>?_)<;>try(cases hg;done))|(apply aT (fun hb hbp=>?_) (fun hb hbp=>?_)<;>try(cases hb;done))|apply am ?_|(apply zdQ fun K hK=>?_)|apply aA ?_|apply zdR ?_|apply aB ?_)
 all_goals (first|(refine⟨zdZ,_,zd6,?_⟩;(try simp only[zdY]);clear hx;simp_all[zez,ze3]<;>omega;done)|skip)
 all_goals trace_state
 have h25:n.op=25:=gC;obtain⟨k,m,h1,h2,h3⟩:=hx h25;have h1':n.kids.headD 0=k:=by
  cases hk:n.kids with
  |nil=>rw[hk]at h1;simp at h1
  |cons a b=>rw[hk]at h1;simpa using h1
 have hkl:kR l (n.kids.headD 0)=m.kids.length:=by rw[h1',kR,gH,h2]
 have hlr:=Er m.kids.length;have e1:IntKind.wrap .i64 (hT m.kids.length-1)=hT m.kids.length-1:=zft ac ac;repeat' (first
  |(apply au ?_;clear hK K)|apply Ry.o ?_|(apply dq ?_;first|refine Rx.k (Es (fun _=>rfl) _ ac _) ?_)|(apply bS (fun hg hgp=>?_) (fun hg hgp=>?_)<;>try(cases hg;done))|apply am ?_|(apply zdQ fun K hK=>?_)|apply aA ?_|apply zdR ?_|apply aB ?_)
 all_goals (first|(refine⟨zdZ,_,zd6,?_⟩;(try simp only[zdY]);clear hx;simp_all[zez,ze3]<;>omega;done)|skip)
 all_goals trace_state)
noncomputable def Kb:En:=⟨115,true,cy x3 ub fun x=>.bool (zez x.1 x.2)⟩
theorem Ye(ρ:Nat->Int):zeO Tryz.prog ρ Kb:=zeV fun x hx=>Yd ρ x hx
theorem Kc(a:Int)(s:List Int):zfW Tryz.prog 23 (.lst ((a::s).map fun n=>[AV.int .i64 n])) (some (.int .i64 1)) none=some (.lst (s.map fun n=>[AV.int .i64 n])):=by
 have e1:(1:Int)=Int.ofNat 1:=rfl;simp only[zfW,Tryz.underlying23,gN,e1,zfL];rw[aE ⟨aK,aM _⟩];rw[iq aK];cases s with
 |nil=>rfl
 |cons b s=>rfl
theorem Yf(op:Int)(h0:0<=(bH op).1):(bH op).1<=(zeW op).length:=by
 unfold bH at h0⊢;unfold zeW;repeat' split
 all_goals (first|(simp;done)|omega|(simp_all;done))
def sA(x:Nd×List Int):List AV:=[.agg x.1.cells,zeG x.2]
theorem Yg(x y:Nd×List Int)(h:sA x=sA y):x=y:=by
 simp only[sA,eD,AV.agg.injEq,aX]at h;exact n1 (vA h.1) (vH h.2)
theorem sB{l:List En}(hl:∀ar,zeN l 19 ar=AE.sp ar)(n:Int)(H:Hp):zd5 Tryz.prog (zdW pls l) 19 [.int .i64 n] H fun v H'=>v=fy n/\H'=H:=
 zeJ (enc:=fun n:Int=>[.int .i64 n]) (ok:=fun _=>True) (out:=fy) xZ (x:=n) (hl _) trivial
theorem Kd{l:List En}(hl:∀ar,zeN l 154 ar=Et.sp ar)(n:Int)(H:Hp):zd5 Tryz.prog (zdW pls l) 154 [.int .i64 n] H fun v H'=>v=zeG (zeW n)/\H'=H:=
 zeJ (enc:=fun n:Int=>[.int .i64 n]) (ok:=fun _=>True) (out:=fun n=>zeG (zeW n)) xZ (x:=n) (hl _) trivial
theorem Yh{l:List En}(hl:∀ar,zeN l 153 ar=Ev.sp ar)(n:Nat)(hn:3<=n/\n<2^30)(H:Hp):zd5 Tryz.prog (zdW pls l) 153 [.int .i64 n] H fun v H'=>v=zeG (jR n)/\H'=H:=
 zeJ (enc:=ua) (ok:=fun n=>3<=n/\n<2^30) (out:=fun n=>zeG (jR n)) J6 (x:=n) (hl _) hn
theorem Ey{l:List En}(hl:∀ar,zeN l 152 ar=Eu.sp ar)(s w:List Int)(h:vJ (s,w))(H:Hp):zd5 Tryz.prog (zdW pls l) 152 [zeG s,zeG w] H fun v H'=>v=.bool (zeH s w)/\H'=H:=
 zeJ (enc:=pp) (ok:=vJ) (out:=fun x=>.bool (zeH x.1 x.2)) J4 (x:=(s,w)) (hl _) h
theorem mc(a b:AV):Ab.extract (.tup [a,b]) 0=some a:=rfl
theorem md(a b:AV):Ab.extract (.tup [a,b]) 1=some b:=rfl
theorem Yi(s:List Int):zem 31 s=(decide ((3:Int)<=s.length)&&decide ((s.length:Int).tmod 2=1)&&decide (hT s.length<=16)&&zeH s (jR s.length)):=by
 have ht:(s.length:Int).tmod 2=((s.length%2:Nat):Int):=Ei;have e1:decide ((s.length:Int).tmod 2=1)=decide (s.length%2=1):=by rw[ht];exact xJ.2 ac
 have e2:decide ((3:Int)<=s.length)=decide (3<=s.length):=xJ.2 ac;rw[e1,e2];rfl
theorem AF(a:Int)(s:List Int):zem 30 (a::s)=(!decide ((7:Int)<((s.length+1:Nat):Int))&&decide (a=2)&&s.all fun x=>decide (x=1)):=by
 have e1:(!decide ((7:Int)<((s.length+1:Nat):Int)))=decide ((a::s).length<=7):=by
  rw[<-decide_not];exact xJ.2 (by simp only[fj];omega)
 have e2:decide (1<=(a::s).length)=true:=aK;rw[e1];show(decide (1<=(a::s).length)&&decide ((a::s).length<=7)&&decide (a=2)&&s.all fun x=>decide (x=1))=_;rw[e2,r6]
theorem Yj(a b c:Int):zem 22 [a,b,c]=if b=2 then (decide (a=1)&&decide (c=2))else zeH [a,b,c] [1,1,1]:=by
 have e:zem 22 [a,b,c]=if (22:Int)=22/\b=2 then (decide (a=1)&&decide (c=2))else zeH [a,b,c] [1,1,1]:=rfl
 rw[e];simp
theorem Yk{op:Int}(s:List Int)(h:(bH op).2=false):zem op s=false:=by rw[zem,aE h]
theorem Ez{op:Int}{s:List Int}(h:0<=(bH op).1)(h2:(bH op).1≠s.length):zem op s=false:=by
 unfold zem;split
 .rfl
 .rw[aE ⟨h,h2⟩]
theorem Yl{op:Int}{s:List Int}(h:(bH op).2=true)(h2:(bH op).1=s.length)(h1:op≠31)(h3:op≠30)(h4:op≠22):zem op s=zeH s (zeW op):=by
 unfold zem;rw[ah (by rw[h];simp),ah (fun k=>k.2 h2),ah h1,ah h3,ah (fun k=>h4 k.1)]
theorem Ke(op:Int):(zeW op).length<=3:=by
 unfold zeW;repeat' split
 all_goals decide
theorem EA{op:Int}(h1:op≠31)(h3:op≠30):0<=(bH op).1:=by
 unfold bH;repeat' split
 all_goals (first|decide|omega)
theorem Ym(ρ:Nat->Int)(x:Nd×List Int)(hx:x.2.length<2^30):bV Tryz.prog ρ 114 (sA x) (.bool (zem x.1.op x.2)):=zfq fit (pls:=pls) (J9 ρ) (.cons (.agg (vz _)) (.cons (zgt _) .nil)) (.bool _) (by
 obtain⟨⟨op,imm,kids⟩,s⟩:=x;have hw:Plain (zdW pls Ew) 114:=zfv (fun _=>rfl) rfl;rw[sA];simp only[Nd.cells]at hx⊢;have hq:(2:Int)≠0:=aY;by_cases h31:op=31
 .subst h31;have hv:fy 31=.tup [.int .i64 (-1),.bool true]:=rfl;have hmt:vJ (s,jR s.length):=⟨by simp[jR],by simp[jR];omega⟩;refine zed (M:=106) (rs:=[.tmp 4]) (hw.call _) hw.ice hw.froz Tryz.func114 rfl rfl l9.2 rfl ?_;dsimp only[l9,zd8,Nat.reduceAdd];have gh0:=@mc;have gh1:=@md;repeat' (first
   |(apply au ?_;clear hK K)|apply Ry.o ?_|(apply dq ?_;first|refine Rx.k (sB (fun _=>rfl) _ _) ?_|refine Rx.k (Es (fun _=>rfl) _ ac _) ?_|refine Rx.k (Yh (fun _=>rfl) _ ac _) ?_|refine Rx.k (Ey (fun _=>rfl) _ _ hmt _) ?_)|apply jw ?_|(apply bS (fun hg hgp=>?_) (fun hg hgp=>?_)<;>try(cases hg;done))|(apply aV (fun hb hbp=>?_) (fun hb hbp=>?_)<;>try(cases hb;done))|apply am ?_|(apply zdQ fun K hK=>?_)|apply aA ?_|apply zdR ?_|apply aB ?_|apply zdT ?_)
  all_goals
   refine⟨zdZ,_,fo,?_⟩;try simp only[zdY]
   rw[Yi];(try simp only[cW]at *);simp only[ *,cX,bN,bU,Int.reduceEq]
 by_cases h30:op=30
 .subst h30;have hv:fy 30=.tup [.int .i64 (-1),.bool true]:=rfl;cases s with
  |nil=>
   refine zed (M:=106) (rs:=[.tmp 4]) (hw.call _) hw.ice hw.froz Tryz.func114 rfl rfl l9.2 rfl ?_;dsimp only[l9,zd8,Nat.reduceAdd];have gh0:=@mc;have gh1:=@md;repeat' (first
    |(apply au ?_;clear hK K)|apply Ry.o ?_|(apply dq ?_;first|refine Rx.k (sB (fun _=>rfl) _ _) ?_)|apply jw ?_|(apply bS (fun hg hgp=>?_) (fun hg hgp=>?_)<;>try(cases hg;done))|(apply aV (fun hb hbp=>?_) (fun hb hbp=>?_)<;>try(cases hb;done))|apply am ?_|(apply zdQ fun K hK=>?_)|apply aA ?_|apply zdR ?_|apply aB ?_|apply zdT ?_)
   all_goals (refine⟨zdZ,_,zd6,?_⟩;try simp only[zdY])
   rfl
  |cons a s=>
   have hsl:=Kc a s;simp only[fj]at hx;refine zed (M:=106) (rs:=[.tmp 4]) (hw.call _) hw.ice hw.froz Tryz.func114 rfl rfl l9.2 rfl ?_;dsimp only[l9,zd8,Nat.reduceAdd];have gh0:=@mc;have gh1:=@md;repeat' (first
    |(apply au ?_;clear hK K)|apply Ry.o ?_|(apply dq ?_;first|refine Rx.k (sB (fun _=>rfl) _ _) ?_)|apply jw ?_|(apply bS (fun hg hgp=>?_) (fun hg hgp=>?_)<;>try(cases hg;done))|(apply aV (fun hb hbp=>?_) (fun hb hbp=>?_)<;>try(cases hb;done))|apply am ?_|(apply zdQ fun K hK=>?_)|apply aA ?_|apply zdR ?_|apply aB ?_|apply zdT ?_)
   .all_goals (refine⟨zdZ,_,zd6,?_⟩;try simp only[zdY])
    rw[AF];(try simp only[cW]at *);simp only[ *,cX,bN,bU,Int.reduceEq]
   .refine zeL [1,2,72,73] [] 74 s.length (fun i E H=>(s.all fun x=>decide (x=1))=(s.drop i).all fun x=>decide (x=1)) eE aK ?_;rintro i E H2 hi hcE hrH hnH hsI hJ;(try simp only[zec,zeb,aX,zdX,zd2,Nat.reduceBEq,Nat.reduceAdd,Nat.reduceLeDiff,tyF, *]at hcE);(try simp only[zec,zeb,aX,zdX,zd2,Nat.reduceBEq,Nat.reduceAdd,Nat.reduceLeDiff,tyF, *]at hrH);(try simp only[zea,zef,zeB,bT,Nat.reduceAdd]at hnH);repeat' (first
     |(apply au ?_;clear hK K)|apply Rx.o ?_|(apply aT (fun hb hbp=>?_) (fun hb hbp=>?_)<;>try(cases hb;done))|apply am ?_|(apply zdQ fun K hK=>?_)|apply aA ?_|apply zdR ?_|apply aB ?_|apply zdT ?_)
    .have hlt:i<s.length:=by simpa using hb
     have hgx:s[i]?=some s[i]:=br hlt;have hdr:((s.drop i).all fun x=>decide (x=1))=(decide (s[i]=1)&&(s.drop (i+1)).all fun x=>decide (x=1)):=Ee;repeat' (first
      |(apply au ?_;clear hK K)|apply Rx.o ?_|(apply aT (fun hb hbp=>?_) (fun hb hbp=>?_)<;>try(cases hb;done))|apply am ?_|(apply zdQ fun K hK=>?_)|apply aA ?_|apply zdR ?_|apply aB ?_|apply zdT ?_)
     .all_goals (refine⟨zdZ,_,zd6,?_⟩;try simp only[zdY])
      rw[AF,hJ,hdr];(try simp only[cW]at *);simp only[ *,cX,bN,bU,Int.reduceEq]
     .refine⟨ac,zd7,zd7,eN,tV,?_⟩;rw[hJ,hdr];(try simp only[cW]at *);simp only[ *,cX,bN,bU,Int.reduceEq]
    .repeat' (first
      |(apply au ?_;clear hK K)|apply Rx.o ?_|(apply aT (fun hb hbp=>?_) (fun hb hbp=>?_)<;>try(cases hb;done))|apply am ?_|(apply zdQ fun K hK=>?_)|apply aA ?_|apply zdR ?_|apply aB ?_|apply zdT ?_)
     all_goals (refine⟨zdZ,_,zd6,?_⟩;try simp only[zdY])
     rw[show i=s.length by simp at hb;omega,gR]at hJ;have hJ2:(s.all fun x=>decide (x=1))=true:=hJ;rw[AF,hJ2];(try simp only[cW]at *);simp only[ *,cX,bN,bU,Int.reduceEq]
   .all_goals (refine⟨zdZ,_,zd6,?_⟩;try simp only[zdY])
    rw[AF];(try simp only[cW]at *);simp only[ *,cX,bN,bU,Int.reduceEq]
 have hnn:=EA h31 h30;cases hok:(bH op).2 with
 |false=>
  have hv:fy op=.tup [.int .i64 (bH op).1,.bool false]:=by rw[fy,hok]
  refine zed (M:=106) (rs:=[.tmp 4]) (hw.call _) hw.ice hw.froz Tryz.func114 rfl rfl l9.2 rfl ?_;dsimp only[l9,zd8,Nat.reduceAdd];have gh0:=@mc;have gh1:=@md;repeat' (first
   |(apply au ?_;clear hK K)|apply Ry.o ?_|(apply dq ?_;first|refine Rx.k (sB (fun _=>rfl) _ _) ?_)|apply jw ?_|(apply bS (fun hg hgp=>?_) (fun hg hgp=>?_)<;>try(cases hg;done))|(apply aV (fun hb hbp=>?_) (fun hb hbp=>?_)<;>try(cases hb;done))|apply am ?_|(apply zdQ fun K hK=>?_)|apply aA ?_|apply zdR ?_|apply aB ?_|apply zdT ?_)
  all_goals
   refine⟨zdZ,_,fo,?_⟩;try simp only[zdY]
   rw[Yk s hok]
 |true=>
  by_cases hlen:(bH op).1=s.length
  .have hv:fy op=.tup [.int .i64 s.length,.bool true]:=by rw[fy,hok,hlen]
   by_cases h22:op=22
   .subst h22;obtain⟨a,b,c,rfl⟩:=rb (s:=s) (by have e:(bH 22).1=3:=rfl;rw[e]at hlen;omega);have hmt:vJ ([a,b,c],zeW 22):=⟨aM _,by have:=Ke 22;simp only[];omega⟩;refine zed (M:=106) (rs:=[.tmp 4]) (hw.call _) hw.ice hw.froz Tryz.func114 rfl rfl l9.2 rfl ?_;dsimp only[l9,zd8,Nat.reduceAdd];have gh0:=@mc;have gh1:=@md;repeat' (first
     |(apply au ?_;clear hK K)|apply Ry.o ?_|(apply dq ?_;first|refine Rx.k (sB (fun _=>rfl) _ _) ?_|refine Rx.k (Kd (fun _=>rfl) _ _) ?_|refine Rx.k (Ey (fun _=>rfl) _ _ hmt _) ?_)|apply jw ?_|(apply bS (fun hg hgp=>?_) (fun hg hgp=>?_)<;>try(cases hg;done))|(apply aV (fun hb hbp=>?_) (fun hb hbp=>?_)<;>try(cases hb;done))|apply am ?_|(apply zdQ fun K hK=>?_)|apply aA ?_|apply zdR ?_|apply aB ?_|apply zdT ?_)
    all_goals
     refine⟨zdZ,_,fo,?_⟩;try simp only[zdY]
     rw[Yj];first
     |(simp_all;done)
     |(rw[ah gC];rfl)
   .have hmt:vJ (s,zeW op):=⟨by have:=Yf op hnn;simp only[];omega,by have:=Ke op;simp only[];omega⟩;have hl0:(0:Int)<=s.length:=ac;refine zed (M:=106) (rs:=[.tmp 4]) (hw.call _) hw.ice hw.froz Tryz.func114 rfl rfl l9.2 rfl ?_;dsimp only[l9,zd8,Nat.reduceAdd];have gh0:=@mc;have gh1:=@md;repeat' (first
     |(apply au ?_;clear hK K)|apply Ry.o ?_|(apply dq ?_;first|refine Rx.k (sB (fun _=>rfl) _ _) ?_|refine Rx.k (Kd (fun _=>rfl) _ _) ?_|refine Rx.k (Ey (fun _=>rfl) _ _ hmt _) ?_)|apply jw ?_|(apply bS (fun hg hgp=>?_) (fun hg hgp=>?_)<;>try(cases hg;done))|(apply aV (fun hb hbp=>?_) (fun hb hbp=>?_)<;>try(cases hb;done))|apply am ?_|(apply zdQ fun K hK=>?_)|apply aA ?_|apply zdR ?_|apply aB ?_|apply zdT ?_)
    all_goals
     refine⟨zdZ,_,fo,?_⟩;try simp only[zdY]
     rw[Yl hok hlen h31 h30 h22]
  .have hv:fy op=.tup [.int .i64 (bH op).1,.bool true]:=by rw[fy,hok]
   refine zed (M:=106) (rs:=[.tmp 4]) (hw.call _) hw.ice hw.froz Tryz.func114 rfl rfl l9.2 rfl ?_;dsimp only[l9,zd8,Nat.reduceAdd];have gh0:=@mc;have gh1:=@md;repeat' (first
    |(apply au ?_;clear hK K)|apply Ry.o ?_|(apply dq ?_;first|refine Rx.k (sB (fun _=>rfl) _ _) ?_)|apply jw ?_|(apply bS (fun hg hgp=>?_) (fun hg hgp=>?_)<;>try(cases hg;done))|(apply aV (fun hb hbp=>?_) (fun hb hbp=>?_)<;>try(cases hb;done))|apply am ?_|(apply zdQ fun K hK=>?_)|apply aA ?_|apply zdR ?_|apply aB ?_|apply zdT ?_)
   all_goals
    refine⟨zdZ,_,fo,?_⟩;try simp only[zdY]
    rw[Ez hnn hlen])
end
section
def lJ:Nat->AV->Bool
 |0,_=>false
 |n+1,v=>match v with
  | .sl _ _ _ _=>true
  | .agg cs=>cs.any (lJ n)
  |_=>false
theorem AG{S:Nat->Prop}{H:Hp}{n m k:Nat}(ih:∀{v u:AV},zeS S n H v u->lJ m (cP k v)=false->cP k u=cP k v):∀{cs ds:List AV},dk (zeS S n H) cs ds->(cs.map (cP k)).any (lJ m)=false->ds.map (cP k)=cs.map (cP k)
 |[],[],_,_=>rfl
 |c::cs,d::ds,h,h2=>by
  simp only[eF,qV,pO]at h2;rw[eF,eF,ih h.1 h2.1,AG ih h.2 h2.2]
theorem EB{S:Nat->Prop}{H:Hp}:∀(n m k:Nat) {v u:AV},n<=m->zeS S n H v u->lJ m (cP k v)=false->cP k u=cP k v
 |0,_,_,_,_,_,h,_=>h.elim
 |n+1,0,_,_,_,h,_,_=>by omega
 |n+1,m+1,k,v,u,hm,h,h2=>by
  cases v with
  |sl r o l z=>cases k<;>simp[cP,lJ]at h2
  |agg cs=>
   obtain⟨ds,h1,rfl⟩:=h;cases k with
   |zero=>
    have e:∀v,cP 0 v=v:=fun v=>by cases v<;>rfl
    have h3:(cs.map (cP 0)).any (lJ m)=false:=by
     rw[show cs.map (cP 0)=cs by rw[show cP 0=id from funext e,List.map_id]];simpa [cP,lJ]using h2
    have:=AG (k:=0) (fun h4 h5=>EB n m 0 ac h4 h5) h1 h3;rw[show cP 0=id from funext e,List.map_id,List.map_id]at this;rw[this]
   |succ k=>
    have h3:(cs.map (cP k)).any (lJ m)=false:=by simpa [cP,lJ]using h2
    show AV.agg (ds.map (cP k))=AV.agg (cs.map (cP k));rw[AG (fun h4 h5=>EB n m k ac h4 h5) h1 h3]
  |_=>obtain⟨_,rfl⟩:=h;rfl
theorem x4{l:List En}{fn:FuncId}{α:Type}{ok:α->Prop}{enc:α->List AV}{out:α->AV}(inj:∀x y,enc x=enc y->x=y)(hl:∀ar,zeN l fn ar=cy ok enc out (ar.map (cP 60)))(hi:jx l fn=true)(hns:∀y,(enc y).any (lJ 90)=false){x:α}(hx:ok x){S:Nat->Prop}{n:Nat}(hn:n<=90){H:Hp}{args us:List AV}(h1:dk (zeS S n H) args us)(h2:us.map (cP 60)=enc x):
 zd5 Tryz.prog (zdW pls l) fn args H fun v H'=>v=out x/\Icy S H H':=by
 by_cases hd:∃y,ok y/\enc y=args.map (cP 60)
 .obtain⟨y,_,e⟩:=hd;have h3:us.map (cP 60)=args.map (cP 60):=AG (m:=90) (fun h4 h5=>EB n 90 60 hn h4 h5) h1 (by rw[<-e];exact hns y);refine bp ?_ (DP (r:=out x) (by show zeN l fn args=_;rw[hl,<-h3,h2];exact DN inj hx));rintro v H' ⟨rfl,rfl⟩;exact⟨rfl,Icy.refl _ _⟩
 .obtain⟨H',h4,h5⟩:=zeS.iceL (n:=100) (l:=args) (m:=us) (dk.mono (fun a b k=>zeS.up k ac) h1);refine HW (r:=out x) ?_ hi rfl h4 ?_ ⟨rfl,h5⟩
  .show zeN l fn args=none;rw[hl];exact DO fun y hy e=>hd ⟨y,hy,e⟩
  .show zeN l fn us=_;rw[hl,h2];exact DN inj hx
theorem vL{P:Program}{cfg:Cfg}{f N:Nat}{a:SC}{E:aG}{H:Hp}{Q:AX->aG->Hp->Prop}(F:aG->Hp->Prop)(h1:zex P cfg f N a E H fun x E' H'=>x=.normal/\F E' H')(h2:∀E' H',F E' H'->Q .normal E' H'):zex P cfg f N a E H Q:=
 zex.mono (fun x E' H' h=>by obtain⟨rfl,h⟩:=h;exact h2 E' H' h) h1
def tyI3.tyF:=ad @dC (ad @ge (ad @en (ad @jP (ad @eI (ad @ri (@rZ))))))
open tyI3
noncomputable def Kf:{c:SC // aS 80 (Tryz.f71.body.getD .skip)=c}:=by
 refine⟨?_,?_⟩;rotate_left
 .simp only[Tryz.f71,cj,aS,zen,zel,zeu,zev,Nat.blt,Nat.ble];rfl
noncomputable def Kg:{c:SC // aS 22 (Tryz.f43.body.getD .skip)=c}:=by
 refine⟨?_,?_⟩;rotate_left
 .simp only[Tryz.f43,cj,aS,zen,zel,zeu,zev,Nat.blt,Nat.ble];rfl
noncomputable def vM:{c:SC // aS 21 (Tryz.f14.body.getD .skip)=c}:=by
 refine⟨?_,?_⟩;rotate_left
 .simp only[Tryz.f14,cj,aS,zen,zel,zeu,zev,Nat.blt,Nat.ble];rfl
theorem EC(S:Nat->Prop)(n:Nat)(H:Hp):∀s:List Int,dk (zeS S (n+1) H) (s.map (.int .i64)) (s.map (.int .i64))
 |[]=>trivial
 |a::s=>⟨nV ⟨.int _ _,trivial⟩,EC S n H s⟩
theorem AH(n:Nat)(s:List Int):cP (n+2) (zeG s)=zeG s:=by
 show AV.lst ((s.map fun n=>[AV.int .i64 n]).map fun row=>row.map (cP (n+1)))=_;rw[u7];rfl
theorem ze0.ic{H:Hp}{v:AV}{s:List Int}{lo:Nat}(h:ze0 H v s lo):∃u,zeS (fun k=>lo<=k) 3 H v u/\cP 60 u=zeG s:=by
 rcases h with⟨rfl,rfl⟩|⟨r,imm,rfl,h2,h3,h4,h5⟩
 .exact⟨.nilS,nV ⟨.nilS,trivial⟩,rfl⟩
 .refine⟨.lst (gY 1 s.length (s.map (.int .i64))),⟨h4,h5,s.map (.int .i64),imm,true,s.map (.int .i64),h2,by simpa using h3,aK,?_,rfl⟩,?_⟩
  .rw[gD,lY,iq aK];exact EC _ _ _ _
  .rw[As];exact AH 58 s
theorem fM.icy{S:Nat->Prop}{H H':Hp}{v:AV}{s:List Int}{lo:Nat}(h:fM H v s lo)(k:Icy S H H'):fM H' v s lo:=by
 obtain⟨r,imm,rfl,h2,h3,h4,h5⟩:=h;rcases k.same r with e|⟨cs,i,j,tip,e1,e2,e3⟩
 .exact⟨r,imm,rfl,by rw[<-e];exact h2,h3,h4,by rw[k.next];exact h5⟩
 .rw[h2]at e1;simp only[aQ,HB.cells.injEq]at e1;obtain⟨rfl,rfl,rfl⟩:=e1;exact⟨r,j,rfl,e2,by have:=e3 (by simpa using h3);simpa using this,h4,by rw[k.next];exact h5⟩
theorem ze0.icy{S:Nat->Prop}{H H':Hp}{v:AV}{s:List Int}{lo:Nat}(h:ze0 H v s lo)(k:Icy S H H'):ze0 H' v s lo:=h.imp id fun h=>h.icy k
noncomputable def ED:En:=⟨114,true,cy (fun x=>x.2.length<2^30) sA fun x=>.bool (zem x.1.op x.2)⟩
theorem Yn(ρ:Nat->Int):zeO Tryz.prog ρ ED:=zeV fun x hx=>Ym ρ x hx
noncomputable def uc:List En:=[nW ED,Kb]
theorem Yo(ρ:Nat->Int):fH Tryz.prog ρ uc:=⟨xQ (Yn ρ),Ye ρ,trivial⟩
theorem Kh(n:Nat)(x:Nd):cP (n+4) (.agg x.cells)=.agg x.cells:=by
 show AV.agg (x.cells.map (cP (n+3)))=_;rw[Nd.cells];simp only[eF,kP,AH];rfl
theorem Yp(y:Nd×List Int):(sA y).any (lJ 90)=false:=by
 obtain⟨⟨op,imm,kids⟩,s⟩:=y;rfl
theorem Yq{l:List En}(hl:∀ar,zeN l 114 ar=(nW ED).sp ar)(hi:jx l 114=true){H:Hp}{v:AV}{s:List Int}{lo:Nat}(hv:ze0 H v s lo)(hs:s.length<2^30)(n:Nd):
 zd5 Tryz.prog (zdW pls l) 114 [.agg n.cells,v] H fun w H'=>w=.bool (zem n.op s)/\Icy (fun k=>lo<=k) H H':=by
 obtain⟨u,h1,h2⟩:=hv.ic;obtain⟨cs',h3⟩:∃us,dk (zeS (fun k=>lo<=k) 2 H) n.cells us/\us=n.cells:=by
  refine⟨n.cells,?_,rfl⟩;rw[Nd.cells];exact⟨nV ⟨.int _ _,trivial⟩,nV ⟨.int _ _,trivial⟩,nV ⟨zgt _,trivial⟩,trivial⟩
 obtain⟨h3,rfl⟩:=h3;refine x4 (x:=((n,s):Nd×List Int)) (enc:=sA) (ok:=fun x=>x.2.length<2^30) (out:=fun x=>.bool (zem x.1.op x.2)) (us:=[.agg n.cells,u]) (n:=3) Yg (fun ar=>by rw[hl];rfl) hi Yp hs ac ⟨⟨n.cells,h3,rfl⟩,h1,trivial⟩ ?_;show [cP 60 (.agg n.cells),cP 60 u]=_;rw[h2,Kh 56];rfl
theorem Ki{i:Nat}{kn kids:List Int}{j:Nat}(hj:j<kids.length):zfo i kn (kids.drop j)=if kids[j]<0\/(i:Int)<=kids[j]\/kn.getD kids[j].toNat 0=0 then none else (zfo i kn (kids.drop (j+1))).map fun s=>kn.getD kids[j].toNat 0::s:=by
 rw[jl hj,zfo]
def rj(i:Nat)(kn kids:List Int)(j:Nat)(s:List Int):Prop:=s.length=j/\zfo i kn kids=(zfo i kn (kids.drop j)).map fun t=>s++t
theorem rj.bad{i:Nat}{kn kids:List Int}{j:Nat}{s:List Int}(h:rj i kn kids j s){kd:Int}(hg:kids[j]?=some kd)(hb:kd<0\/(i:Int)<=kd\/kn.getD kd.toNat 0=0):zfo i kn kids=none:=by
 obtain⟨hj,e⟩:=eS.1 hg;rw[h.2,Ki hj,e,aE hb];rfl
theorem rj.next{i:Nat}{kn kids:List Int}{j:Nat}{s:List Int}(h:rj i kn kids j s){kd:Int}(hg:kids[j]?=some kd)(hb:¬(kd<0\/(i:Int)<=kd\/kn.getD kd.toNat 0=0)):rj i kn kids (j+1) (s++[kn.getD kd.toNat 0]):=by
 obtain⟨hj,e⟩:=eS.1 hg;refine⟨by simp[h.1],?_⟩;rw[h.2,Ki hj,e,ah hb];cases zfo i kn (kids.drop (j+1))with
 |none=>rfl
 |some t=>simp
theorem rj.done{i:Nat}{kn kids:List Int}{s:List Int}(h:rj i kn kids kids.length s):zfo i kn kids=some s:=by
 rw[h.2,gR];simp[zfo]
theorem AI{l:List Nd}{i:Nat}{kn:List Int}{n:Nd}(hn:l[i]?=some n)(h:zfo i kn n.kids=none):zfJ l i kn=0:=by
 rw[zfJ,hn];simp only[h]
theorem Yr{l:List Nd}{i:Nat}{kn:List Int}{n:Nd}{s:List Int}(hn:l[i]?=some n)(h:zfo i kn n.kids=some s):zfJ l i kn=if zem n.op s&&zez l n then zeT n s else 0:=by
 rw[zfJ,hn];simp only[h]
theorem Ys{op:Int}{s:List Int}(h:zem op s=true)(h25:op=25):s.length=1:=by
 subst h25;by_cases c:s.length=1
 .exact c
 .rw[Ez aY (by have e:(bH 25).1=1:=rfl;rw[e];omega)]at h;cases h
theorem Yt{op:Int}{s:List Int}(h:zem op s=true)(h22:op=22):s.length=3:=by
 subst h22;by_cases c:s.length=3
 .exact c
 .rw[Ez aY (by have e:(bH 22).1=3:=rfl;rw[e];omega)]at h;cases h
theorem Yu{l:List Nd}{i:Nat}{kn s:List Int}{n:Nd}(hi:i<l.length)(hkl:∀n∈l,n.kids.length<2^30)(hk:zfo i kn n.kids=some s)(hv:zem n.op s=true):x3 (l,n):=by
 intro h25;have h1:=Ys hv h25;rw[su hk]at h1;obtain⟨k,hk1⟩:=nY h1;simp only[]at hk1⊢;obtain⟨h3,h4,_⟩:=ss hk k JL;obtain⟨m,rfl⟩:=gG h3;have hm:m<l.length:=ac;exact⟨m,l[m],by rw[hk1];rfl,br hm,by have:=hkl _ (dX hm);omega⟩
set_option maxRecDepth 100000 in
theorem Yv{l:List Nd}{i:Nat}{kn:List Int}{r:Nat}{H:Hp}(hl:l.length<2^30)(hi:i<l.length)(hkl:∀n∈l,n.kids.length<2^30)(hkn:l.length<=kn.length)(hg:H.get r=some (.cells (kn.map (.int .i64)) 0 true))(hr:r<H.next):
 zd5 Tryz.prog (zdW pls uc) 71 [zfe l,.int .i64 i,.sl r 0 kn.length 1] H fun v H'=>v=.int .i64 (zfJ l i kn)/\H.next<=H'.next/\∀k,k<H.next->H'.get k=H.get k:=by
 have hw:Plain (zdW pls uc) 71:=zfv (fun _=>rfl) rfl;have hkeep:(zdW pls uc).keep 71=false:=rfl;have hgi:l[i]?=some l[i]:=br hi;have hnk:=hkl _ (dX hi);generalize l[i]=n at *;refine zed (M:=80) (rs:=[.tmp 6]) (hw.call _) hw.ice hw.froz Tryz.func71 rfl rfl Kf.2 rfl ?_;dsimp only[Kf,zd8,Nat.reduceAdd];repeat' (first
  |(apply au ?_;clear hK K)|apply Rx.o ?_|apply ba ?_|(apply bQ (fun hg hgp=>?_) (fun hg hgp=>?_)<;>try(cases hg;done))|(apply aT (fun hb hbp=>?_) (fun hb hbp=>?_)<;>try(cases hb;done))|apply am ?_|(apply zdQ fun K hK=>?_)|apply aA ?_|apply zdR ?_|apply aB ?_|apply zdT ?_)
 refine zeL [0,1,2,7,16,17] [] 18 n.kids.length (fun j E H2=>∃v s,E.at 8=v/\ze0 H2 v s (H.next+1)/\rj i kn n.kids j s/\H2.get H.next=some (.cells n.cells 0 true)/\∀k,k<H.next->H2.get k=H.get k) eE ⟨.nilS,[],eE,.inl ⟨rfl,rfl⟩,⟨rfl,aK⟩,ft,fun k hk=>pn⟩ ?_;rintro j E H2 hj hcE hrH hnH hsI ⟨v,s,k8,hv,hJ,hn7,hold⟩;(try simp only[zec,zeb,aX,zdX,zd2,Nat.reduceBEq,Nat.reduceAdd,Nat.reduceLeDiff,tyF, *]at hcE);(try simp only[zec,zeb,aX,zdX,zd2,Nat.reduceBEq,Nat.reduceAdd,Nat.reduceLeDiff,tyF, *]at hrH);(try simp only[zea,zef,zeB,bT,Nat.reduceAdd]at hnH);repeat' (first
  |(apply au ?_;clear hK K)|apply Rx.o ?_|apply ba ?_|(apply bQ (fun hg hgp=>?_) (fun hg hgp=>?_)<;>try(cases hg;done))|(apply aT (fun hb hbp=>?_) (fun hb hbp=>?_)<;>try(cases hb;done))|apply am ?_|(apply zdQ fun K hK=>?_)|apply aA ?_|apply zdR ?_|apply aB ?_|apply zdT ?_)
 .have hlt:j<n.kids.length:=by simpa using hb
  have hgx:n.kids[j]?=some n.kids[j]:=br hlt;generalize n.kids[j]=kd at *;have g2r:H2.get r=some (.cells (kn.map (.int .i64)) 0 true):=by rw[hold r hr];exact hg
  by_cases c1:kd<0
  .repeat' (first
    |(apply au ?_;clear hK K)|apply Ry.o ?_|(apply bS (fun hg hgp=>?_) (fun hg hgp=>?_)<;>try(cases hg;done))|(apply aV (fun hb hbp=>?_) (fun hb hbp=>?_)<;>try(cases hb;done))|apply am ?_|(apply zdQ fun K hK=>?_)|apply aA ?_|apply zdR ?_|apply aB ?_|apply zdT ?_)
   all_goals (refine⟨zdZ,_,zd6,?_⟩;try simp only[zdY])
   refine⟨?_,ac,hold⟩;rw[AI hgi (hJ.bad hgx (.inl c1))]
  by_cases c2:(i:Int)<=kd
  .have c1':¬kd<0:=c1;repeat' (first
    |(apply au ?_;clear hK K)|apply Ry.o ?_|(apply bS (fun hg hgp=>?_) (fun hg hgp=>?_)<;>try(cases hg;done))|(apply aV (fun hb hbp=>?_) (fun hb hbp=>?_)<;>try(cases hb;done))|apply am ?_|(apply zdQ fun K hK=>?_)|apply aA ?_|apply zdR ?_|apply aB ?_|apply zdT ?_)
   all_goals (refine⟨zdZ,_,zd6,?_⟩;try simp only[zdY])
   refine⟨?_,ac,hold⟩;rw[AI hgi (hJ.bad hgx (.inr (.inl c2)))]
  obtain⟨m,rfl⟩:=gG (xY.1 c1);have hml:m<kn.length:=ac;have hgk:kn[m]?=some kn[m]:=br hml;have hgd:kn.getD (m:Int).toNat 0=kn[m]:=by rw[gH,dM,hgk];rfl
  have hia:zeE Tryz.prog 23 (.sl r 0 kn.length 1) (.int .i64 (m:Int))=some (.ptr r m):=by rw[mL Tryz.underlying23 gN hml];simp
  have hld:zfC Tryz.prog H2 3 (.ptr r m)=some (.int .i64 kn[m]):=by rw[r0 Tryz.underlying3 rfl g2r,fF,hgk];rfl
  generalize kn[m]=x at *;repeat' (first
   |(apply au ?_;clear hK K)|apply Ry.o ?_|(apply bS (fun hg hgp=>?_) (fun hg hgp=>?_)<;>try(cases hg;done))|(apply aV (fun hb hbp=>?_) (fun hb hbp=>?_)<;>try(cases hb;done))|apply am ?_|(apply zdQ fun K hK=>?_)|apply aA ?_|apply zdR ?_|apply aB ?_|apply zdT ?_)
  .all_goals (refine⟨zdZ,_,zd6,?_⟩;try simp only[zdY])
   refine⟨?_,ac,hold⟩;rw[AI hgi (hJ.bad hgx (.inr (.inr (by rw[hgd];assumption))))]
  .have hvb:ze0 (H2.alloc (.cells [.int .i64 x] 0 true)) v s (H.next+1):=hv.keep (cZ _) fun k hk=>by rw[zd1,ah Ef]
   obtain⟨v5,H5,a5,s5,n5,f5,o5⟩:=pi (r:=H2.next) (imm:=0) x hvb fx eR (by have:=hJ.1;omega);have hJn:=hJ.next hgx (by rw[hgd];rintro(h|h|h)<;>contradiction)
   rw[hgd]at hJn;have n5':H2.next<=H5.next:=pm
   clear n5;have old5:∀k,k<H.next+1->H5.get k=H2.get k:=fun k hk=>by rw[f5 k hk,zd1,ah ac]
   refine ji eV eV t9 ?_;repeat' (first
    |(apply au ?_;clear hK K)|apply Rx.o ?_|apply ba ?_|(apply bQ (fun hg hgp=>?_) (fun hg hgp=>?_)<;>try(cases hg;done))|(apply aT (fun hb hbp=>?_) (fun hb hbp=>?_)<;>try(cases hb;done))|apply am ?_|(apply zdQ fun K hK=>?_)|apply aA ?_|apply zdR ?_|apply aB ?_|apply zdT ?_)
   clear f5 o5 a5;refine⟨ac,zd7,zd7,eN,xW,?_⟩;refine⟨v5,s++[x],eE,.inr s5,hJn,by rw[old5 _ ac];exact hn7,fun k hk=>by rw[old5 k ac,hold k hk]⟩
 .have hje:j=n.kids.length:=by simp at hb;omega
  rw[hje]at hJ;have hs1:=Yr hgi hJ.done;have hsl2:s.length<2^30:=by rw[hJ.1];exact hnk
  repeat' (first
   |(apply au ?_;clear hK K)|apply Rx.o ?_|apply ba ?_|(apply bQ (fun hg hgp=>?_) (fun hg hgp=>?_)<;>try(cases hg;done))|(apply aT (fun hb hbp=>?_) (fun hb hbp=>?_)<;>try(cases hb;done))|apply am ?_|(apply zdQ fun K hK=>?_)|apply aA ?_|apply zdR ?_|apply aB ?_|apply zdT ?_)
  refine bA rfl bE bF ?_;simp only[bB];refine bp ?_ (Yq (fun _=>rfl) rfl hv hsl2 n);rintro w H4 ⟨rfl,hy⟩;have n4:=hy.next
  have n4':H.next+1<=H4.next:=ac
  have hv4:=hv.icy hy;have g4:H4.get H.next=some (.cells n.cells 0 true):=by rw[hy.out _ ac];exact hn7
  have o4:∀k,k<H.next->H4.get k=H.get k:=fun k hk=>by rw[hy.out _ ac,hold k hk]
  clear hy n4 hv hold hn7;dsimp only[zd4];cases hvd:zem n.op s with
  |false=>
   repeat' (first
    |(apply au ?_;clear hK K)|apply Rx.o ?_|apply ba ?_|(apply bQ (fun hg hgp=>?_) (fun hg hgp=>?_)<;>try(cases hg;done))|(apply aT (fun hb hbp=>?_) (fun hb hbp=>?_)<;>try(cases hb;done))|apply am ?_|(apply zdQ fun K hK=>?_)|apply aA ?_|apply zdR ?_|apply aB ?_|apply zdT ?_)
   all_goals (refine⟨zdZ,_,zd6,?_⟩;try simp only[zdY])
   refine⟨?_,ac,o4⟩;rw[hs1,hvd];rfl
  |true=>
  have him2:=Yu hi hkl hJ.done hvd;rw[hvd,r6]at hs1;have kim:∀H,zd5 Tryz.prog (zdW pls uc) 115 [zfe l,.agg n.cells] H fun v H'=>v=.bool (zez l n)/\H'=H:=fun H=>zeJ (enc:=ub) (ok:=x3) (out:=fun x=>.bool (zez x.1 x.2)) Ka (x:=(l,n)) rfl him2;have hq:(16:Int)≠0:=aY;repeat' (first
   |(apply au ?_;clear hK K)|apply Rx.o ?_|apply ba ?_|(apply eu ?_;first|refine Rx.k (kim _) ?_)|(apply bQ (fun hg hgp=>?_) (fun hg hgp=>?_)<;>try(cases hg;done))|(apply aT (fun hb hbp=>?_) (fun hb hbp=>?_)<;>try(cases hb;done))|apply am ?_|(apply zdQ fun K hK=>?_)|apply aA ?_|apply zdR ?_|apply aB ?_|apply zdT ?_)
  all_goals (first|(refine⟨zdZ,_,zd6,?_⟩;(try simp only[zdY]);refine⟨?_,ac,o4⟩;rw[hs1];unfold zeT;clear him2 kim o4 hv4 hs1 hgi;simp_all;done)|skip)
  all_goals trace_state
  repeat' (first
   |(apply au ?_;clear hK K)|apply Rx.o ?_|apply ba ?_|(apply bQ (fun hg hgp=>?_) (fun hg hgp=>?_)<;>try(cases hg;done))|(apply aT (fun hb hbp=>?_) (fun hb hbp=>?_)<;>try(cases hb;done))|apply am ?_|(apply zdQ fun K hK=>?_)|apply aA ?_|apply zdR ?_|apply aB ?_|apply zdT ?_)
  have h22:n.op=22:=gC;have hl3:=Yt hvd h22;rcases hv4 with⟨_,hnil⟩|hv4
  .rw[hnil]at hl3;simp at hl3
  obtain⟨q,hix,hlo⟩:=hv4.at (i:=1) ac;have hix':zeE Tryz.prog 23 v (.int .i64 1)=some (.ptr q 1):=hix;repeat' (first
   |(apply au ?_;clear hK K)|apply Rx.o ?_|apply ba ?_|(apply bQ (fun hg hgp=>?_) (fun hg hgp=>?_)<;>try(cases hg;done))|(apply aT (fun hb hbp=>?_) (fun hb hbp=>?_)<;>try(cases hb;done))|apply am ?_|(apply zdQ fun K hK=>?_)|apply aA ?_|apply zdR ?_|apply aB ?_|apply zdT ?_)
  all_goals (refine⟨zdZ,_,zd6,?_⟩;try simp only[zdY])
  refine⟨?_,ac,o4⟩;have hgl:s.getD 1 0=s[1]' ac:=Ej;rw[hs1];unfold zeT;clear him2 kim o4 hv4 hs1 hgi;simp_all
theorem Kk{i:Nat}{a b:List Int}(ha:a.length=i):∀ks:List Int,zfo i (a++b) ks=zfo i a ks
 |[]=>rfl
 |k::ks=>by
  rw[zfo,zfo,Kk ha ks];by_cases h:k<0\/(i:Int)<=k
  .rw[aE ac,aE ac]
  .have e:(a++b).getD k.toNat 0=a.getD k.toNat 0:=by rw[dM,dM,kG ac]
   rw[e]
theorem Yw(l:List Nd){i:Nat}(b:List Int):zfJ l i (zew l i++b)=zfJ l i (zew l i):=by
 unfold zfJ;cases l[i]? with
 |none=>rfl
 |some n=>simp only[Kk (zgC l i)]
def zfi(l:List Nd):Prop:=l.length<2^30/\∀n∈l,n.kids.length<2^30
def ud(l:List Nd):List AV:=[zfe l]
theorem Kl(x y:List Nd)(h:ud x=ud y):x=y:=by
 simp only[ud,eD,aX]at h;exact vK h
theorem Yx(ρ:Nat->Int)(l:List Nd)(hl:zfi l):bV Tryz.prog ρ 43 [zfe l] (zeG (zew l l.length)):=se (m:=3) (cfg:=zdW pls uc) fit (ly ρ) (fH.look (Yo ρ)) (.cons (mR _) .nil) (by
 obtain⟨hl1,hl2⟩:=hl;have hw:Plain (zdW pls uc) 43:=zfv (fun _=>rfl) rfl;have hmk:∀H:Hp,zf9 Tryz.prog H 23 (.int .i64 l.length) (.int .i64 l.length)=some (.sl H.next 0 l.length 1,H.alloc (.cells ((List.replicate l.length (0:Int)).map (.int .i64)) 0 true)):=fun H=>Jz _ _ (aM _) ac;refine zed (M:=22) (rs:=[.tmp 2]) (hw.call _) hw.ice hw.froz Tryz.func43 rfl rfl Kg.2 rfl ?_;dsimp only[Kg,zd8,Nat.reduceAdd];repeat' (first
  |(apply au ?_;clear hK K)|apply Rx.o ?_|(apply aT (fun hb hbp=>?_) (fun hb hbp=>?_)<;>try(cases hb;done))|apply am ?_|(apply zdQ fun K hK=>?_)|apply aA ?_|apply zdR ?_|apply aB ?_|apply zdT ?_)
 refine zeL [0,2,3,9] [] 10 l.length (fun i E H=>H.get 0=some (.cells ((zew l i++List.replicate (l.length-i) 0).map (.int .i64)) 0 true)) eE (by rw[zd1,aE ei];simp[zew]) ?_;rintro i E H2 hi hcE hrH hnH hsI hJ;(try simp only[zec,zeb,aX,zdX,zd2,Nat.reduceBEq,Nat.reduceAdd,Nat.reduceLeDiff,tyF, *]at hcE);(try simp only[zec,zeb,aX,zdX,zd2,Nat.reduceBEq,Nat.reduceAdd,Nat.reduceLeDiff,tyF, *]at hrH);(try simp only[zea,zef,zeB,bT,Nat.reduceAdd]at hnH);repeat' (first
  |(apply au ?_;clear hK K)|apply Rx.o ?_|(apply aT (fun hb hbp=>?_) (fun hb hbp=>?_)<;>try(cases hb;done))|apply am ?_|(apply zdQ fun K hK=>?_)|apply aA ?_|apply zdR ?_|apply aB ?_|apply zdT ?_)
 .have hlt:i<l.length:=by simpa using hb
  refine bA rfl bE bF ?_;simp only[bB];have hkl:(zew l i++List.replicate (l.length-i) (0:Int)).length=l.length:=by rw[eO,zgC,qX];omega
  have hso:=Yv (l:=l) (i:=i) (kn:=zew l i++List.replicate (l.length-i) 0) (r:=0) (H:=H2) hl1 hlt hl2 ac hJ ac;rw[hkl]at hso;refine bp ?_ hso;rintro w H3 ⟨rfl,hn3,hold⟩;have g3:H3.get 0=_:=(hold 0 ac).trans hJ;have n3:1<=H3.next:=ac
  rw[Yw];dsimp only[zd4];generalize hx:zfJ l i (zew l i)=x;have hsi:zew l (i+1)=zew l i++[x]:=by rw[zew,hx]
  repeat' (first
   |(apply au ?_;clear hK K)|apply Ry.o ?_|apply am ?_|(apply zdQ fun K hK=>?_)|apply aA ?_|apply zdR ?_|apply aB ?_|apply zdT ?_)
  refine oS eV eV (vE g3 (by rw[dy,hkl];exact hlt) x) ?_;repeat' (first
   |(apply au ?_;clear hK K)|apply Rx.o ?_|(apply aT (fun hb hbp=>?_) (fun hb hbp=>?_)<;>try(cases hb;done))|apply am ?_|(apply zdQ fun K hK=>?_)|apply aA ?_|apply zdR ?_|apply aB ?_|apply zdT ?_)
  refine⟨ac,zd7,zd7,eN,oZ,?_⟩;rw[bz,aE rfl,hsi,<-re];have hrep:List.replicate (l.length-i) (0:Int)=0::List.replicate (l.length-(i+1)) 0:=by rw[show l.length-i=(l.length-(i+1))+1 by omega];rfl
  rw[hrep,List.set_append,ah qU,zgC,qJ,DX,kH];rfl
 .have hie:i=l.length:=by simp at hb;omega
  rw[hie,qJ]at hJ;repeat' (first
   |(apply au ?_;clear hK K)|apply Rx.o ?_|(apply aT (fun hb hbp=>?_) (fun hb hbp=>?_)<;>try(cases hb;done))|apply am ?_|(apply zdQ fun K hK=>?_)|apply aA ?_|apply zdR ?_|apply aB ?_|apply zdT ?_)
  all_goals (refine⟨zdZ,_,zd6,?_⟩;try simp only[zdY])
  have hb:fM H2 (.sl 0 0 (zew l l.length).length 1) (zew l l.length) 0:=⟨0,0,rfl,by rw[hJ];simp,dE _,dE _,ac⟩;have:=hb.iceV 1;rw[zgC]at this;exact this)
noncomputable def AJ:En:=⟨43,true,cy zfi ud fun l=>zeG (zew l l.length)⟩
theorem Yy(ρ:Nat->Int):zeO Tryz.prog ρ AJ:=zeV fun l hl=>Yx ρ l hl
theorem Yz{tb:List En}(ht:∀ar,zeN tb 43 ar=AJ.sp ar)(l:List Nd)(hl:zfi l)(H:Hp):zd5 Tryz.prog (zdW pls tb) 43 [zfe l] H fun v H'=>v=zeG (zew l l.length)/\H'=H:=
 zeJ (enc:=ud) (ok:=zfi) (out:=fun l=>zeG (zew l l.length)) Kl (x:=l) (ht _) hl
theorem zfi.take{l:List Nd}(h:zfi l)(k:Nat):zfi (l.take k):=⟨by rw[oK];have:=h.1;omega,fun n hn=>h.2 n (El hn)⟩
theorem EE(l:List Nd)(k:Nat)(hk:k<=l.length):zfW Tryz.prog 22 (.lst (l.map Nd.cells)) none (some (.int .i64 (k:Int)))=some (.lst ((l.take k).map Nd.cells)):=by
 have e1:(k:Int)=Int.ofNat k:=rfl;simp only[zfW,Tryz.underlying22,oW,e1,zfL];rw[aE ⟨dE _,by rw[dy];exact hk⟩];have e2:((l.map Nd.cells).drop 0).take (k-0)=(l.take k).map Nd.cells:=by rw[gD,w1,zo]
 rw[e2];cases l.take k with
 |nil=>rfl
 |cons a l=>simp only[eF,Nd.clen,bN]
def jz(x:List Nd×Int):List AV:=[zfe x.1,.int .i64 x.2]
theorem AK(x y:List Nd×Int)(h:jz x=jz y):x=y:=by
 simp only[jz,eD,AV.int.injEq,lH]at h;exact n1 (vK h.1) h.2
theorem YA(ρ:Nat->Int)(x:List Nd×Int)(hx:zfi x.1):bV Tryz.prog ρ 14 (jz x) (.int .i64 (zeY x.1 x.2)):=zfq fit (pls:=pls) (l:=[AJ]) ⟨Yy ρ,trivial⟩ (.cons (mR _) (.cons (.int _ _) .nil)) (.int _ _) (by
 obtain⟨l,i⟩:=x;simp only[]at hx;have hx1:=hx.1;have hw:Plain (zdW pls [AJ]) 14:=zfv (fun _=>rfl) rfl;rw[jz];simp only[];by_cases c1:i<0
 .refine zed (M:=21) (rs:=[.tmp 4]) (hw.call _) hw.ice hw.froz Tryz.func14 rfl rfl vM.2 rfl ?_;dsimp only[vM,zd8,Nat.reduceAdd];repeat' (first
   |(apply au ?_;clear hK K)|apply Ry.o ?_|(apply bS (fun hg hgp=>?_) (fun hg hgp=>?_)<;>try(cases hg;done))|(apply aV (fun hb hbp=>?_) (fun hb hbp=>?_)<;>try(cases hb;done))|apply am ?_|(apply zdQ fun K hK=>?_)|apply zdR ?_|apply aB ?_)
  all_goals (refine⟨zdZ,_,zd6,?_⟩;try simp only[zdY])
  rw[zeY,aE (.inl c1)]
 by_cases c2:(l.length:Int)<=i
 .refine zed (M:=21) (rs:=[.tmp 4]) (hw.call _) hw.ice hw.froz Tryz.func14 rfl rfl vM.2 rfl ?_;dsimp only[vM,zd8,Nat.reduceAdd];repeat' (first
   |(apply au ?_;clear hK K)|apply Ry.o ?_|(apply bS (fun hg hgp=>?_) (fun hg hgp=>?_)<;>try(cases hg;done))|(apply aV (fun hb hbp=>?_) (fun hb hbp=>?_)<;>try(cases hb;done))|apply am ?_|(apply zdQ fun K hK=>?_)|apply zdR ?_|apply aB ?_)
  all_goals (refine⟨zdZ,_,zd6,?_⟩;try simp only[zdY])
  rw[zeY,aE (.inr c2)]
 obtain⟨m,rfl⟩:=gG (xY.1 c1);have hm:m<l.length:=ac;have e1:IntKind.wrap .i64 ((m:Int)+1)=((m+1:Nat):Int):=zft ac ac;have hsl:=EE l (m+1) ac;have htl:(l.take (m+1)).length=m+1:=pQ;have hgs:(zew (l.take (m+1)) (m+1))[m]?=some (zeY l m):=by
  rw[zeY,ah ac,gH,dM,br qU];rfl
 refine zed (M:=21) (rs:=[.tmp 4]) (hw.call _) hw.ice hw.froz Tryz.func14 rfl rfl vM.2 rfl ?_;dsimp only[vM,zd8,Nat.reduceAdd];repeat' (first
  |(apply au ?_;clear hK K)|apply Ry.o ?_|(apply dq ?_;first|refine Rx.k (Yz (fun _=>rfl) _ (hx.take _) _) ?_)|(apply bS (fun hg hgp=>?_) (fun hg hgp=>?_)<;>try(cases hg;done))|(apply aV (fun hb hbp=>?_) (fun hb hbp=>?_)<;>try(cases hb;done))|apply am ?_|(apply zdQ fun K hK=>?_)|apply zdR ?_|apply aB ?_)
 all_goals (refine⟨zdZ,_,zd6,?_⟩;try simp only[zdY]))
end
section
def tyI4.tyF:=ad @eI (ad @dC (ad @tM (ad @ge (ad @en (ad @jP (ad @vr (@ri)))))))
open tyI4
noncomputable def AL:{c:SC // aS 65 (Tryz.f17.body.getD .skip)=c}:=by
 refine⟨?_,?_⟩;rotate_left
 .simp only[Tryz.f17,cj,aS,zen,zel,zeu,zev,Nat.blt,Nat.ble];rfl
theorem sC{r n m:Nat}(hm:m<n):zeE Tryz.prog 84 (.sl r 0 n 1) (.int .i64 (m:Int))=some (.ptr r m):=by rw[mL Tryz.underlying84 xC hm];simp
theorem x5{H:Hp}{r imm m:Nat}{bs:List Bool}(hg:H.get r=some (.cells (bs.map .bool) imm true))(hm:m<bs.length):zfC Tryz.prog H 4 (.ptr r m)=some (.bool (bs.getD m false)):=by
 rw[r0 Tryz.underlying4 rfl hg,fF,dM,br hm];rfl
theorem AM{H:Hp}{r m:Nat}{bs:List Bool}(hg:H.get r=some (.cells (bs.map .bool) 0 true))(hm:m<bs.length)(b:Bool):j5 Tryz.prog H 4 (.ptr r m) (.bool b)=some (H.set r (.cells ((bs.set m b).map .bool) 0 true)):=by
 rw[JA hg (by rw[dy];exact hm),re]
noncomputable def vN:En:=⟨14,true,cy (fun x=>zfi x.1) jz fun x=>.int .i64 (zeY x.1 x.2)⟩
theorem Km(ρ:Nat->Int):zeO Tryz.prog ρ vN:=zeV fun x hx=>YA ρ x hx
theorem AN{tb:List En}(ht:∀ar,zeN tb 14 ar=vN.sp ar)(l:List Nd)(i:Int)(hl:zfi l)(H:Hp):zd5 Tryz.prog (zdW pls tb) 14 [zfe l,.int .i64 i] H fun v H'=>v=.int .i64 (zeY l i)/\H'=H:=
 zeJ (enc:=jz) (ok:=fun x=>zfi x.1) (out:=fun x=>.int .i64 (zeY x.1 x.2)) AK (x:=(l,i)) (ht _) hl
structure DepJ (l:List Nd) (m k:Nat) (b:List Bool):Prop where
 ok:MarkOk l m k b
 eq:xT l k b=iU l m
theorem DepJ.start{l:List Nd}{m:Nat}(h:zeY l m≠0):DepJ l m (m+1) ((List.replicate (m+1) false).set m true):=⟨JG h,rfl⟩
theorem DepJ.step{l:List Nd}{m k:Nat}{b:List Bool}(h:DepJ l m (k+1) b)(hk:k<=m):DepJ l m k (if b.getD k false=true then lF (match l[k]? with|some n=>n.kids|none=>[]) b else b):=⟨h.ok.step hk,h.eq⟩
theorem DepJ.done{l:List Nd}{m:Nat}{b:List Bool}(h:DepJ l m 0 b):b=iU l m:=h.eq
theorem Kn(ks:List Int)(k:Int)(b:List Bool):lF (ks++[k]) b=(lF ks b).set k.toNat true:=by simp[lF,List.foldl_append]
def oc(b:List Bool)(i:Nat):List Int:=((List.range i).filter fun j=>b.getD j false).map fun(j:Nat)=>(j:Int)
theorem Ko(b:List Bool)(i:Nat):oc b (i+1)=if b.getD i false=true then oc b i++[(i:Int)]else oc b i:=by
 unfold oc;rw[Em,CV,pU];cases h:b.getD i false
 .rw[List.filter_cons_of_neg (by rw[h];simp)];simp
 .rw[List.filter_cons_of_pos (by rw[h])];simp
theorem Kp(b:List Bool)(i:Nat):(oc b i).length<=i:=by
 unfold oc;rw[dy];exact dr (AA _ _) aK
set_option maxRecDepth 100000 in
theorem YB(ρ:Nat->Int)(x:List Nd×Int)(hx:zfi x.1):bV Tryz.prog ρ 17 (jz x) (zeG (iT x.1 x.2)):=An (n:=3) (se (r:=sr (iT x.1 x.2)) (m:=3) (cfg:=zdW pls [vN]) fit (ly ρ) (fH.look ⟨Km ρ,trivial⟩) (.cons (mR _) (.cons (.int _ _) .nil)) (by
 obtain⟨l,i⟩:=x;simp only[]at hx;have hx1:=hx.1;have hw:Plain (zdW pls [vN]) 17:=zfv (fun _=>rfl) rfl;have hkeep:(zdW pls [vN]).keep 17=false:=rfl;rw[jz];simp only[];by_cases c0:zeY l i=0
 .refine zed (M:=65) (rs:=[.tmp 4]) (hw.call _) hw.ice hw.froz Tryz.func17 rfl rfl AL.2 rfl ?_;dsimp only[AL,zd8,Nat.reduceAdd];repeat' (first
   |(apply au ?_;clear hK K)|apply Ry.o ?_|(apply dq ?_;first|refine Rx.k (AN (fun _=>rfl) _ _ hx _) ?_)|(apply aV (fun hb hbp=>?_) (fun hb hbp=>?_)<;>try(cases hb;done))|apply am ?_|(apply zdQ fun K hK=>?_)|apply aA ?_|apply zdR ?_|apply aB ?_|apply zdT ?_)
  all_goals (refine⟨zdZ,_,zd6,?_⟩;try simp only[zdY])
  rw[iT,aE c0];rfl
 have hr:0<=i/\i<l.length:=by
  unfold zeY at c0;by_cases c:i<0\/(l.length:Int)<=i
  .rw[aE c]at c0;exact absurd rfl c0
  .omega
 obtain⟨m,rfl⟩:=gG hr.1;have hm:m<l.length:=ac;clear hr;have e1:IntKind.wrap .i64 ((m:Int)+1)=((m+1:Nat):Int):=zft ac ac;have hmk:∀H:Hp,zf9 Tryz.prog H 84 (.int .i64 ((m+1:Nat):Int)) (.int .i64 ((m+1:Nat):Int))=some (.sl H.next 0 (m+1) 1,H.alloc (.cells ((List.replicate (m+1) false).map .bool) 0 true)):=fun H=>D6 _ ac;have hixm:zeE Tryz.prog 84 (.sl 0 0 (m+1) 1) (.int .i64 (m:Int))=some (.ptr 0 m):=sC ac;refine zed (M:=65) (rs:=[.tmp 4]) (hw.call _) hw.ice hw.froz Tryz.func17 rfl rfl AL.2 rfl ?_;dsimp only[AL,zd8,Nat.reduceAdd];repeat' (first
  |(apply au ?_;clear hK K)|apply Ry.o ?_|(apply dq ?_;first|refine Rx.k (AN (fun _=>rfl) _ _ hx _) ?_)|(apply aV (fun hb hbp=>?_) (fun hb hbp=>?_)<;>try(cases hb;done))|apply am ?_|(apply zdQ fun K hK=>?_)|apply aA ?_|apply zdR ?_|apply aB ?_|apply zdT ?_)
 refine oS eV eV (AM (bs:=List.replicate (m+1) false) xX aK true) ?_;repeat' (first
  |(apply au ?_;clear hK K)|apply Rx.o ?_|(apply aT (fun hb hbp=>?_) (fun hb hbp=>?_)<;>try(cases hb;done))|apply am ?_|(apply zdQ fun K hK=>?_)|apply aA ?_|apply zdR ?_|apply aB ?_|apply zdT ?_)
 refine DJ [0,4,5] [] (fun k E H=>k<=m+1/\E.at 7=.int .i64 ((k:Int)-1)/\∃(b:List Bool) (c:Nat),H.get 0=some (.cells (b.map .bool) 0 true)/\DepJ l m k b/\E.at 6=.int .i64 c/\c+k<=m+1) (m+1) ⟨aM _,JM,_,0,by rw[bz,aE ei],DepJ.start c0,eE,ac⟩ ?_;rintro k E2 H2 hcE hrH hnH ⟨hk,k7,b,c,hgb,hJ,k6,hck⟩;(try simp only[zec,zeb,aX,zdX,zd2,Nat.reduceBEq,Nat.reduceAdd,Nat.reduceLeDiff,tyF, *]at hcE);have hn0:=hnH;have hn1:1<=H2.next:=hnH
 clear hnH;cases k with
 |zero=>
  have k7':E2.at 7=.int .i64 (-1):=k7;clear k7;have hmi:∀H:Hp,zf9 Tryz.prog H 23 (.int .i64 0) (.int .i64 c)=some (.sl H.next 0 0 1,H.alloc (.cells [] 0 true)):=fun H=>Jz 0 c (dE _) ac;have hbe:=hJ.done;have hbl:=hJ.ok.len;clear hJ;repeat' (first
   |(apply au ?_;clear hK K)|apply Ry.o ?_|(apply aV (fun hb hbp=>?_) (fun hb hbp=>?_)<;>try(cases hb;done))|apply am ?_|(apply zdQ fun K hK=>?_)|apply aA ?_|apply zdR ?_|apply aB ?_|apply zdT ?_)
  subst hbe;have hds:iT l m=oc (iU l m) (m+1):=by rw[Av,ah c0];rfl
  refine zeL [4,5,51] [] 52 (m+1) (fun i E H=>∃v,E.at 10=v/\fM H v (oc (iU l m) i) 1/\H.get 0=some (.cells ((iU l m).map .bool) 0 true)) eE ⟨.sl H2.next 0 0 1,eE,⟨H2.next,0,rfl,ev,dE _,hn1,cL _⟩,by rw[zd1,ah ac];exact hgb⟩ ?_;rintro i E3 H3 hi hcE hrH hnH hsI ⟨v,k10,hv,hg3⟩;(try simp only[zec,zeb,aX,zdX,zd2,Nat.reduceBEq,Nat.reduceAdd,Nat.reduceLeDiff,tyF, *]at hcE);(try simp only[zec,zeb,aX,zdX,zd2,Nat.reduceBEq,Nat.reduceAdd,Nat.reduceLeDiff,tyF, *]at hrH);(try simp only[zea,zef,zeB,bT,Nat.reduceAdd]at hnH);repeat' (first
   |(apply au ?_;clear hK K)|apply Rx.o ?_|(apply aT (fun hb hbp=>?_) (fun hb hbp=>?_)<;>try(cases hb;done))|apply am ?_|(apply zdQ fun K hK=>?_)|apply aA ?_|apply zdR ?_|apply aB ?_|apply zdT ?_)
  .have hlt:i<m+1:=by have:=mO hb;omega
   have hix:zeE Tryz.prog 84 (.sl 0 0 (m+1) 1) (.int .i64 (i:Int))=some (.ptr 0 i):=sC hlt;have hld:=x5 hg3 (m:=i) ac;have hos:=Ko (iU l m) i;have hol:=Kp (iU l m) i;cases hbq:(iU l m).getD i false with
   |false=>
    rw[hbq]at hld hos;rw[ah aK]at hos;repeat' (first
     |(apply au ?_;clear hK K)|apply Ry.o ?_|(apply aV (fun hb hbp=>?_) (fun hb hbp=>?_)<;>try(cases hb;done))|apply am ?_|(apply zdQ fun K hK=>?_)|apply aA ?_|apply zdR ?_|apply aB ?_|apply zdT ?_)
    refine⟨ac,zd7,zd7,eN,Az,?_⟩;exact⟨v,eE,by rw[hos];exact hv,hg3⟩
   |true=>
    rw[hbq]at hld hos;rw[aE rfl]at hos;repeat' (first
     |(apply au ?_;clear hK K)|apply Ry.o ?_|(apply aV (fun hb hbp=>?_) (fun hb hbp=>?_)<;>try(cases hb;done))|apply am ?_|(apply zdQ fun K hK=>?_)|apply aA ?_|apply zdR ?_|apply aB ?_|apply zdT ?_)
    have hvb:ze0 (H3.alloc (.cells [.int .i64 i] 0 true)) v (oc (iU l m) i) 1:=.inr (hv.keep (cZ _) fun k hk=>by rw[zd1,ah Ef]);obtain⟨v5,H5,a5,s5,n5,f5,o5⟩:=pi (r:=H3.next) (imm:=0) (i:Int) hvb fx eR ac;have n5':H3.next<=H5.next:=pm
    have g50:H5.get 0=some (.cells ((iU l m).map .bool) 0 true):=JN;clear n5 f5 o5;refine ji eV eV t9 ?_;repeat' (first
     |(apply au ?_;clear hK K)|apply Rx.o ?_|(apply aT (fun hb hbp=>?_) (fun hb hbp=>?_)<;>try(cases hb;done))|apply am ?_|(apply zdQ fun K hK=>?_)|apply aA ?_|apply zdR ?_|apply aB ?_|apply zdT ?_)
    refine⟨ac,zd7,zd7,eN,Az,?_⟩;exact⟨v5,eE,by rw[hos];exact s5,g50⟩
  .have hie:i=m+1:=by have:=of_decide_eq_false hb;omega
   repeat' (first
    |(apply au ?_;clear hK K)|apply Rx.o ?_|(apply aT (fun hb hbp=>?_) (fun hb hbp=>?_)<;>try(cases hb;done))|apply am ?_|(apply zdQ fun K hK=>?_)|apply aA ?_|apply zdR ?_|apply aB ?_|apply zdT ?_)
   all_goals (refine⟨zdZ,_,zd6,?_⟩;try simp only[zdY])
   rw[hds,sr,ah (by
    intro e;have h2:=(JH c0).top;have:(m:Int)∈iT l m:=XF.2 ⟨c0,m,rfl,h2⟩;rw[hds,e]at this;simp at this),<-hie]
   exact hv.iceV 1
 |succ q=>
  have k7':E2.at 7=.int .i64 (q:Int):=by rw[k7];congr 1;omega
  clear k7;have hbl:=hJ.ok.len;have hix:zeE Tryz.prog 84 (.sl 0 0 (m+1) 1) (.int .i64 (q:Int))=some (.ptr 0 q):=sC ac;have hld:=x5 hgb (m:=q) ac;have hqn:(0:Int)<=q:=ac;have hql:q<l.length:=ac;have hgx:l[q]?=some l[q]:=br hql;have hstep:=hJ.step ac;have e2:IntKind.wrap .i64 ((q:Int)-1)=(q:Int)-1:=zft ac ac;have e3:IntKind.wrap .i64 ((c:Int)+1)=((c+1:Nat):Int):=zft ac ac;rw[hgx]at hstep;simp only[]at hstep;cases hbq:b.getD q false with
  |false=>
   rw[hbq]at hld hstep;rw[ah aK]at hstep;repeat' (first
    |(apply au ?_;clear hK K)|apply Ry.o ?_|(apply aV (fun hb hbp=>?_) (fun hb hbp=>?_)<;>try(cases hb;done))|apply am ?_|(apply zdQ fun K hK=>?_)|apply aA ?_|apply zdR ?_|apply aB ?_|apply zdT ?_)
   refine⟨zd7,zd7,hn0,q,ac,ac,eE,b,c,hgb,hstep,eE,ac⟩
  |true=>
   rw[hbq]at hld hstep;rw[aE rfl]at hstep;have hkd:∀d∈l[q].kids,0<=d/\d<q/\zeY l d≠0:=D9 hgx (hJ.ok.wf q hbq).2;have hnk:=hx.2 _ (dX hql);clear hJ;generalize l[q]=n at *;repeat' (first
    |(apply au ?_;clear hK K)|apply Ry.o ?_|(apply aV (fun hb hbp=>?_) (fun hb hbp=>?_)<;>try(cases hb;done))|apply am ?_|(apply zdQ fun K hK=>?_)|apply aA ?_|apply zdR ?_|apply aB ?_|apply zdT ?_)
   refine zeL [0,4,5,6,7,38,39] [] 40 n.kids.length (fun j E H=>H.get 0=some (.cells ((lF (n.kids.take j) b).map .bool) 0 true)) eE hgb ?_;rintro j E3 H3 hj hcE hrH hnH hsI hgj;(try simp only[zec,zeb,aX,zdX,zd2,Nat.reduceBEq,Nat.reduceAdd,Nat.reduceLeDiff,tyF, *]at hcE);(try simp only[zec,zeb,aX,zdX,zd2,Nat.reduceBEq,Nat.reduceAdd,Nat.reduceLeDiff,tyF, *]at hrH);(try simp only[zea,zef,zeB,bT,Nat.reduceAdd]at hnH);repeat' (first
    |(apply au ?_;clear hK K)|apply Rx.o ?_|(apply aT (fun hb hbp=>?_) (fun hb hbp=>?_)<;>try(cases hb;done))|apply am ?_|(apply zdQ fun K hK=>?_)|apply aA ?_|apply zdR ?_|apply aB ?_|apply zdT ?_)
   .have hlt:j<n.kids.length:=by simpa using hb
    have hgy:n.kids[j]?=some n.kids[j]:=br hlt;obtain⟨d0,d1,d2⟩:=hkd _ (dX hlt);have htk:n.kids.take (j+1)=n.kids.take j++[n.kids[j]]:=by rw[tu,hgy];rfl
    generalize n.kids[j]=kd at *;obtain⟨d,rfl⟩:=gG d0;have hix2:zeE Tryz.prog 84 (.sl 0 0 (m+1) 1) (.int .i64 (d:Int))=some (.ptr 0 d):=sC ac;repeat' (first
     |(apply au ?_;clear hK K)|apply Rx.o ?_|(apply aT (fun hb hbp=>?_) (fun hb hbp=>?_)<;>try(cases hb;done))|apply am ?_|(apply zdQ fun K hK=>?_)|apply aA ?_|apply zdR ?_|apply aB ?_|apply zdT ?_)
    refine oS eV eV (AM hgj (by rw[xU];omega) true) ?_;repeat' (first
     |(apply au ?_;clear hK K)|apply Rx.o ?_|(apply aT (fun hb hbp=>?_) (fun hb hbp=>?_)<;>try(cases hb;done))|apply am ?_|(apply zdQ fun K hK=>?_)|apply aA ?_|apply zdR ?_|apply aB ?_|apply zdT ?_)
    refine⟨ac,zd7,zd7,eN,xW,?_⟩;rw[bz,aE rfl,htk,Kn,gH]
   .have hje:j=n.kids.length:=by simp at hb;omega
    rw[hje,CB]at hgj;repeat' (first
     |(apply au ?_;clear hK K)|apply Rx.o ?_|(apply aT (fun hb hbp=>?_) (fun hb hbp=>?_)<;>try(cases hb;done))|apply am ?_|(apply zdQ fun K hK=>?_)|apply aA ?_|apply zdR ?_|apply aB ?_|apply zdT ?_)
    refine⟨zd7,zd7,dr hn0 hnH,q,ac,ac,eE,_,c+1,hgj,hstep,eE,ac⟩)) (D7 1 _)
end
section
def tyK1.tyF:=ad @dC (ad @eI (@en))
open tyK1
noncomputable def Kq:{c:SC // aS 67 (Tryz.f20.body.getD .skip)=c}:=by
 refine⟨?_,?_⟩;rotate_left
 .simp only[Tryz.f20,cj,aS,zen,zel,zeu,zev,Nat.blt,Nat.ble];rfl
noncomputable def Kr:{c:SC // aS 19 (Tryz.f113.body.getD .skip)=c}:=by
 refine⟨?_,?_⟩;rotate_left
 .simp only[Tryz.f113,cj,aS,zen,zel,zeu,zev,Nat.blt,Nat.ble];rfl
noncomputable def Ks:{c:SC // aS 29 (Tryz.f68.body.getD .skip)=c}:=by
 refine⟨?_,?_⟩;rotate_left
 .simp only[Tryz.f68,cj,aS,zen,zel,zeu,zev,Nat.blt,Nat.ble];rfl
noncomputable def Kt:{c:SC // aS 7 (Tryz.f69.body.getD .skip)=c}:=by
 refine⟨?_,?_⟩;rotate_left
 .simp only[Tryz.f69,cj,aS,zen,zel,zeu,zev,Nat.blt,Nat.ble];rfl
noncomputable def Ku:{c:SC // aS 15 (Tryz.f70.body.getD .skip)=c}:=by
 refine⟨?_,?_⟩;rotate_left
 .simp only[Tryz.f70,cj,aS,zen,zel,zeu,zev,Nat.blt,Nat.ble];rfl
theorem YC(ρ:Nat->Int)(op:Int):bV Tryz.prog ρ 20 [.int .i64 op] (fy op):=zfq fit (pls:=pls) (l:=[]) trivial (.cons (.int _ _) .nil) (J2 op) (by
 have hw:=jm 20;refine zed (M:=67) (rs:=[.tmp 2,.tmp 3]) (hw.call _) hw.ice hw.froz Tryz.func20 rfl rfl Kq.2 rfl ?_;dsimp only[Kq,zd8,Nat.reduceAdd];repeat' (first
  |(apply au ?_;clear hK K)|apply Rx.o ?_|(apply bQ (fun hg hgp=>?_) (fun hg hgp=>?_)<;>try(cases hg;done))|(apply aT (fun hb hbp=>?_) (fun hb hbp=>?_)<;>try(cases hb;done))|apply am ?_|(apply zdQ fun K hK=>?_)|apply aA ?_|apply zdR ?_|apply aB ?_)
 all_goals
  refine⟨zdZ,_,fo,?_⟩;try simp only[zdY]
  unfold fy bH;first
  |(rw[aE ac];done)
  |(rw[ah ac,aE ac];done)
  |(rw[ah ac,ah ac,aE ac];done)
  |(rw[ah ac,ah ac,ah ac,aE ac];done)
  |(rw[ah ac,ah ac,ah ac,ah ac,aE ac];done)
  |(rw[ah ac,ah ac,ah ac,ah ac,ah ac,aE ac];done)
  |(rw[ah ac,ah ac,ah ac,ah ac,ah ac,ah ac];done))
theorem YD(ρ:Nat->Int)(op:Int):bV Tryz.prog ρ 113 [.int .i64 op] (.int .i64 (j6 op)):=zfq fit (pls:=pls) (l:=[]) trivial (.cons (.int _ _) .nil) (.int _ _) (by
 have hw:=jm 113;refine zed (M:=19) (rs:=[.tmp 2]) (hw.call _) hw.ice hw.froz Tryz.func113 rfl rfl Kr.2 rfl ?_;dsimp only[Kr,zd8,Nat.reduceAdd];repeat' (first
  |(apply au ?_;clear hK K)|apply Rx.o ?_|(apply aT (fun hb hbp=>?_) (fun hb hbp=>?_)<;>try(cases hb;done))|apply am ?_|(apply zdQ fun K hK=>?_)|apply aA ?_|apply zdR ?_|apply aB ?_)
 all_goals
  refine⟨zdZ,_,fo,?_⟩;try simp only[zdY]
  simp_all[j6])
noncomputable def AO:En:=⟨113,false,cy (fun _=>True) (fun n:Int=>[.int .i64 n]) fun n=>.int .i64 (j6 n)⟩
theorem YE(ρ:Nat->Int):zeO Tryz.prog ρ AO:=zeV fun n _=>YD ρ n
theorem YF{l:List En}(hl:∀ar,zeN l 113 ar=AO.sp ar)(n:Int)(H:Hp):zd5 Tryz.prog (zdW pls l) 113 [.int .i64 n] H fun v H'=>v=.int .i64 (j6 n)/\H'=H:=
 zeJ (enc:=fun n:Int=>[.int .i64 n]) (ok:=fun _=>True) (out:=fun n=>.int .i64 (j6 n)) xZ (x:=n) (hl _) trivial
def pq(x:Int×Int):List AV:=[.int .i64 x.1,.int .i64 x.2]
theorem Kv(x y:Int×Int)(h:pq x=pq y):x=y:=by
 simp only[pq,eD,AV.int.injEq,lH]at h;exact n1 h.1 h.2
theorem YG(ρ:Nat->Int)(x:Int×Int):bV Tryz.prog ρ 68 (pq x) (.bool (ze7 x.1 x.2)):=zfq fit (pls:=pls) (l:=[AO]) ⟨YE ρ,trivial⟩ (.cons (.int _ _) (.cons (.int _ _) .nil)) (.bool _) (by
 obtain⟨op,n⟩:=x;have hw:Plain (zdW pls [AO]) 68:=zfv (fun _=>rfl) rfl;rw[pq];simp only[];refine zed (M:=29) (rs:=[.tmp 4]) (hw.call _) hw.ice hw.froz Tryz.func68 rfl rfl Ks.2 rfl ?_;dsimp only[Ks,zd8,Nat.reduceAdd];repeat' (first
  |(apply au ?_;clear hK K)|apply Rx.o ?_|(apply eu ?_;first|refine Rx.k (YF (fun _=>rfl) _ _) ?_)|apply eJ ?_|(apply bQ (fun hg hgp=>?_) (fun hg hgp=>?_)<;>try(cases hg;done))|(apply aT (fun hb hbp=>?_) (fun hb hbp=>?_)<;>try(cases hb;done))|apply am ?_|(apply zdQ fun K hK=>?_)|apply zdR ?_|apply aB ?_)
 all_goals
  refine⟨zdZ,_,fo,?_⟩;try simp only[zdY]
  unfold ze7;first
  |(rw[aE gC];done)
  |(rw[ah gC,aE gC];done)
  |(rw[ah gC,ah ac]
    have hm:¬j6 op<0:=ac;first
    |(simp_all;done)
    |(generalize j6 op=q at *;simp_all;done)
    |(generalize j6 op=q at *;simp_all;omega)))
noncomputable def EF:En:=⟨68,false,cy (fun _=>True) pq fun x=>.bool (ze7 x.1 x.2)⟩
theorem YH(ρ:Nat->Int):zeO Tryz.prog ρ EF:=zeV fun n _=>YG ρ n
theorem lK{l:List En}(hl:∀ar,zeN l 68 ar=EF.sp ar)(a b:Int)(H:Hp):zd5 Tryz.prog (zdW pls l) 68 [.int .i64 a,.int .i64 b] H fun v H'=>v=.bool (ze7 a b)/\H'=H:=
 zeJ (enc:=pq) (ok:=fun _=>True) (out:=fun x=>.bool (ze7 x.1 x.2)) Kv (x:=(a,b)) (hl _) trivial
def ue(x:Bool×Int):List AV:=[.bool x.1,.int .i64 x.2]
theorem YI(x y:Bool×Int)(h:ue x=ue y):x=y:=by
 simp only[ue,eD,AV.int.injEq,AV.bool.injEq,lH]at h;exact n1 h.1 h.2
theorem YJ(ρ:Nat->Int)(x:Bool×Int):bV Tryz.prog ρ 69 (ue x) (.int .i64 (zeC x.1 x.2)):=zfq fit (pls:=pls) (l:=[]) trivial (.cons (.bool _) (.cons (.int _ _) .nil)) (.int _ _) (by
 obtain⟨b,n⟩:=x;have hw:=jm 69;rw[ue];simp only[];cases b;all_goals
  refine zed (M:=7) (rs:=[.tmp 4]) (hw.call _) hw.ice hw.froz Tryz.func69 rfl rfl Kt.2 rfl ?_;dsimp only[Kt,zd8,Nat.reduceAdd];repeat' (first
   |(apply au ?_;clear hK K)|apply Rx.o ?_|(apply aT (fun hb hbp=>?_) (fun hb hbp=>?_)<;>try(cases hb;done))|apply am ?_|(apply zdQ fun K hK=>?_)|apply zdR ?_|apply aB ?_)
  refine⟨zdZ,_,fo,?_⟩;try simp only[zdY]
  rfl)
noncomputable def EG:En:=⟨69,false,cy (fun _=>True) ue fun x=>.int .i64 (zeC x.1 x.2)⟩
theorem YK(ρ:Nat->Int):zeO Tryz.prog ρ EG:=zeV fun n _=>YJ ρ n
theorem mS{l:List En}(hl:∀ar,zeN l 69 ar=EG.sp ar)(a:Bool)(b:Int)(H:Hp):zd5 Tryz.prog (zdW pls l) 69 [.bool a,.int .i64 b] H fun v H'=>v=.int .i64 (zeC a b)/\H'=H:=
 zeJ (enc:=ue) (ok:=fun _=>True) (out:=fun x=>.int .i64 (zeC x.1 x.2)) YI (x:=(a,b)) (hl _) trivial
def uf(s:List Int):List AV:=[zeG s]
theorem YL(x y:List Int)(h:uf x=uf y):x=y:=by
 simp only[uf,eD,aX]at h;exact vH h
theorem YM(ρ:Nat->Int)(s:List Int)(hs:s.length<2^60):bV Tryz.prog ρ 70 (uf s) (.bool (zeF s)):=zfq fit (pls:=pls) (l:=[]) trivial (.cons (zgt _) .nil) (.bool _) (by
 have hw:=jm 70;rw[uf];refine zed (M:=15) (rs:=[.tmp 2]) (hw.call _) hw.ice hw.froz Tryz.func70 rfl rfl Ku.2 rfl ?_;dsimp only[Ku,zd8,Nat.reduceAdd];repeat' (first
  |(apply au ?_;clear hK K)|apply Rx.o ?_|(apply aT (fun hb hbp=>?_) (fun hb hbp=>?_)<;>try(cases hb;done))|apply am ?_|(apply zdQ fun K hK=>?_)|apply aA ?_|apply zdR ?_|apply aB ?_|apply zdT ?_)
 refine zeL [0] [] 3 s.length (fun i E H=>zeF s=zeF (s.drop i)) eE aK ?_;rintro i E H2 hi hcE hrH hnH hsI hJ;(try simp only[zec,zeb,aX,zdX,zd2,Nat.reduceBEq,Nat.reduceAdd,Nat.reduceLeDiff,tyF, *]at hcE);(try simp only[zec,zeb,aX,zdX,zd2,Nat.reduceBEq,Nat.reduceAdd,Nat.reduceLeDiff,tyF, *]at hrH);(try simp only[zea,zef,zeB,bT,Nat.reduceAdd]at hnH);repeat' (first
  |(apply au ?_;clear hK K)|apply Rx.o ?_|(apply aT (fun hb hbp=>?_) (fun hb hbp=>?_)<;>try(cases hb;done))|apply am ?_|(apply zdQ fun K hK=>?_)|apply aA ?_|apply zdR ?_|apply aB ?_|apply zdT ?_)
 .have hlt:i<s.length:=by simpa using hb
  have hgx:s[i]?=some s[i]:=br hlt;have hdr:zeF (s.drop i)=(decide (s[i]=1)&&zeF (s.drop (i+1))):=ki;repeat' (first
   |(apply au ?_;clear hK K)|apply Rx.o ?_|(apply aT (fun hb hbp=>?_) (fun hb hbp=>?_)<;>try(cases hb;done))|apply am ?_|(apply zdQ fun K hK=>?_)|apply aA ?_|apply zdR ?_|apply aB ?_|apply zdT ?_)
  .all_goals (refine⟨zdZ,_,zd6,?_⟩;try simp only[zdY])
   rw[hJ,hdr];(try simp only[cW]at *);simp only[ *,cX,bN,bU,Int.reduceEq]
  .refine⟨ac,zd7,zd7,eN,tV,?_⟩;rw[hJ,hdr];(try simp only[cW]at *);simp only[ *,cX,bN,bU,Int.reduceEq]
 .repeat' (first
   |(apply au ?_;clear hK K)|apply Rx.o ?_|(apply aT (fun hb hbp=>?_) (fun hb hbp=>?_)<;>try(cases hb;done))|apply am ?_|(apply zdQ fun K hK=>?_)|apply aA ?_|apply zdR ?_|apply aB ?_|apply zdT ?_)
  all_goals (refine⟨zdZ,_,zd6,?_⟩;try simp only[zdY])
  rw[hJ,show i=s.length by simp at hb;omega,gR];rfl)
noncomputable def EH:En:=⟨70,false,cy (fun s=>s.length<2^60) uf fun s=>.bool (zeF s)⟩
theorem YN(ρ:Nat->Int):zeO Tryz.prog ρ EH:=zeV fun n h=>YM ρ n h
theorem AP{l:List En}(hl:∀ar,zeN l 70 ar=EH.sp ar)(s:List Int)(hs:s.length<2^60)(H:Hp):zd5 Tryz.prog (zdW pls l) 70 [zeG s] H fun v H'=>v=.bool (zeF s)/\H'=H:=
 zeJ (enc:=uf) (ok:=fun s=>s.length<2^60) (out:=fun s=>.bool (zeF s)) YL (x:=s) (hl _) hs
noncomputable def x6:En:=⟨20,false,cy (fun _=>True) (fun n:Int=>[.int .i64 n]) fy⟩
theorem EI(ρ:Nat->Int):zeO Tryz.prog ρ x6:=zeV fun n _=>YC ρ n
theorem jA{l:List En}(hl:∀ar,zeN l 20 ar=x6.sp ar)(n:Int)(H:Hp):zd5 Tryz.prog (zdW pls l) 20 [.int .i64 n] H fun v H'=>v=fy n/\H'=H:=
 zeJ (enc:=fun n:Int=>[.int .i64 n]) (ok:=fun _=>True) (out:=fy) xZ (x:=n) (hl _) trivial
end
section
def tyK2a.tyF:=ad @eI (ad @dC (ad @ge (ad @en (ad @jP (ad @mc (ad @md (@oT)))))))
open tyK2a
noncomputable def fz:{c:SC // aS 221 (Tryz.f42.body.getD .skip)=c}:=by
 refine⟨?_,?_⟩;rotate_left
 .simp only[Tryz.f42,cj,aS,zen,zel,zeu,zev,Nat.blt,Nat.ble];rfl
structure NsX where
 l:List Nd
 n:Nd
 k:List Int
def sD(x:NsX):List AV:=[zfe x.l,.agg x.n.cells,zeG x.k]
theorem YO(x y:NsX)(h:sD x=sD y):x=y:=by
 obtain⟨a,b,c⟩:=x;obtain⟨a',b',c'⟩:=y;simp only[sD,eD,AV.agg.injEq,aX]at h;rw[vK h.1,vA h.2.1,vH h.2.2]
def x7(x:NsX):Prop:=x.k.length=x.n.kids.length/\x.k.length<2^30/\(x.n.op=25->x.n.kids.length=1->∃(k:Nat) (m:Nd),x.n.kids=[(k:Int)]/\x.l[k]?=some m/\m.kids.length<2^30)
noncomputable def sE:List En:=[x6,EF,EG,EH]
theorem YP(ρ:Nat->Int):fH Tryz.prog ρ sE:=⟨EI ρ,YH ρ,YK ρ,YN ρ,trivial⟩
theorem YQ{l:List Nd}{n:Nd}{k:List Int}(h:(bH n.op).2=false):zey l n k=0:=by rw[zey,aE h]
theorem YR{l:List Nd}{n:Nd}{k:List Int}(h:(bH n.op).2=true)(h2:0<=(bH n.op).1)(h3:(n.kids.length:Int)≠(bH n.op).1):zey l n k=0:=by rw[zey,ah (by rw[h];simp),aE ⟨h2,h3⟩]
theorem YS{l:List Nd}{n:Nd}{k:List Int}(h:ze7 n.op n.imm=false):zey l n k=0:=by
 rw[zey];by_cases c1:(bH n.op).2=false
 .rw[aE c1]
 .rw[ah c1];by_cases c2:0<=(bH n.op).1/\(n.kids.length:Int)≠(bH n.op).1
  .rw[aE c2]
  .rw[ah c2,aE h]
theorem YT{l:List Nd}{n:Nd}{k:List Int}(h:(bH n.op).2=true)(h2:¬(0<=(bH n.op).1/\(n.kids.length:Int)≠(bH n.op).1))(h3:ze7 n.op n.imm=true):zey l n k =
 if n.op=3 then (if n.imm.tmod 16=0 then 2 else 1)
 else if n.op=26 then 2
 else if n.op=22 then (if k.headD 0≠1\/k.getD 1 0≠k.getD 2 0\/k.getD 1 0=3 then 0 else k.getD 1 0)
 else if n.op=23 then zeC (decide (k.headD 0=2)&&decide (k.getD 1 0=1)) 1
 else if n.op=24 then zeC (decide (k.headD 0=2)) 1
 else if n.op=25 then (if k.headD 0≠3\/(kR l (n.kids.headD 0)).tdiv 2<=n.imm then 0 else zeC (decide (n.imm=0)) 1+1)
 else if n.op=27\/n.op=29 then zeC (decide (k.headD 0=2)&&decide (k.getD 1 0=1)) 2
 else if n.op=28 then zeC (decide (k.headD 0=2)&&decide (k.getD 1 0=1)&&decide (k.getD 2 0=1)) 2
 else if n.op=30 then zeC (decide (1<=k.length)&&decide (k.length<=7)&&decide (k.headD 0=2)&&zeF (k.drop 1)) 2
 else if n.op=31 then zeC (decide (k.length%2=1)&&decide (1<=k.length/2)&&decide (k.length/2<=16)&&decide (k.headD 0=2)&&zeF ((k.drop 1).take (k.length/2))&&decide (k.getD (k.length/2+1) 0=2)&&zeF (k.drop (k.length/2+2))) 3
 else zeC (zeF k) 1:=by
 rw[zey,ah (by rw[h];simp),ah h2,ah (by rw[h3];simp)]
theorem YU{l:List Nd}{imm:Int}{kids k:List Int}(hkl:k.length=kids.length)(hkb:k.length<2^30)(him:ze7 30 imm=true)(hgo:zey l ⟨30,imm,kids⟩ k=zeC (decide (1<=k.length)&&decide (k.length<=7)&&decide (k.headD 0=2)&&zeF (k.drop 1)) 2):
 zd5 Tryz.prog (zdW pls sE) 42 [zfe l,.agg [.int .i64 30,.int .i64 imm,zeG kids],zeG k] zeo fun v _=>v=.int .i64 (zey l ⟨30,imm,kids⟩ k):=by
 have hw:Plain (zdW pls sE) 42:=zfv (fun _=>rfl) rfl;have hq2:(2:Int)≠0:=aY;have hv:fy 30=.tup [.int .i64 (-1),.bool true]:=rfl;clear hkl;cases k with
 |nil=>
  have hg2:zey l ⟨30,imm,kids⟩ []=zeC false 2:=nZ;refine zed (M:=221) (rs:=[.tmp 6]) (hw.call _) hw.ice hw.froz Tryz.func42 rfl rfl fz.2 rfl ?_;dsimp only[fz,zd8,Nat.reduceAdd];repeat' (first
   |(apply au ?_;clear hK K)|apply Ry.o ?_|(apply dq ?_;first|refine Rx.k (jA (fun _=>rfl) _ _) ?_|refine Rx.k (lK (fun _=>rfl) _ _ _) ?_|refine Rx.k (mS (fun _=>rfl) _ _ _) ?_)|(apply bS (fun hg hgp=>?_) (fun hg hgp=>?_)<;>try(cases hg;done))|(apply aV (fun hb hbp=>?_) (fun hb hbp=>?_)<;>try(cases hb;done))|apply am ?_|(apply zdQ fun K hK=>?_)|apply aA ?_|apply zdR ?_|apply aB ?_)
  all_goals first
   |exact eK
   |((refine⟨zdZ,_,fo,?_⟩;try simp only[zdY]);rw[hg2];done)
 |cons a k=>
  have hsl:=fun a=>Kc a k;simp only[fj]at hkb;have hkb':k.length<2^60:=ac;have hg2:zey l ⟨30,imm,kids⟩ (a::k)=zeC (decide (((k.length+1:Nat):Int)<=7)&&decide (a=2)&&zeF k) 2:=by
   have e1:decide (((k.length+1:Nat):Int)<=7)=decide (k.length+1<=7):=xJ.2 ac;rw[hgo,e1];simp
  have hge:(1:Int)<=((k.length+1:Nat):Int):=ac;refine zed (M:=221) (rs:=[.tmp 6]) (hw.call _) hw.ice hw.froz Tryz.func42 rfl rfl fz.2 rfl ?_;dsimp only[fz,zd8,Nat.reduceAdd];repeat' (first
   |(apply au ?_;clear hK K)|apply Ry.o ?_|(apply dq ?_;first|refine Rx.k (jA (fun _=>rfl) _ _) ?_|refine Rx.k (lK (fun _=>rfl) _ _ _) ?_|refine Rx.k (AP (fun _=>rfl) _ hkb' _) ?_|refine Rx.k (mS (fun _=>rfl) _ _ _) ?_)|(apply bS (fun hg hgp=>?_) (fun hg hgp=>?_)<;>try(cases hg;done))|(apply aV (fun hb hbp=>?_) (fun hb hbp=>?_)<;>try(cases hb;done))|apply am ?_|(apply zdQ fun K hK=>?_)|apply aA ?_|apply zdR ?_|apply aB ?_)
  all_goals first
   |exact eK
   |((refine⟨zdZ,_,fo,?_⟩;try simp only[zdY]);rw[hg2];(try simp only[cW]at *);simp only[ *,cX,bN,bU,Int.reduceEq];done)
theorem YV{l:List Nd}{imm:Int}{kids k:List Int}(hkl:k.length=kids.length)(hkb:k.length<2^30)(h25:kids.length=1->∃(k:Nat) (m:Nd),kids=[(k:Int)]/\l[k]?=some m/\m.kids.length<2^30)(h1:k.length=1)(him:ze7 25 imm=true)(hgo:zey l ⟨25,imm,kids⟩ k=(if k.headD 0≠3\/(kR l (kids.headD 0)).tdiv 2<=imm then 0 else zeC (decide (imm=0)) 1+1)):
 zd5 Tryz.prog (zdW pls sE) 42 [zfe l,.agg [.int .i64 25,.int .i64 imm,zeG kids],zeG k] zeo fun v _=>v=.int .i64 (zey l ⟨25,imm,kids⟩ k):=by
 have hw:Plain (zdW pls sE) 42:=zfv (fun _=>rfl) rfl;have hq2:(2:Int)≠0:=aY;obtain⟨a,rfl⟩:=nY h1;have hk1:kids.length=1:=by rw[<-hkl];exact h1
 obtain⟨kd,m,rfl,hm,hmb⟩:=h25 hk1;have hv:fy 25=.tup [.int .i64 1,.bool true]:=rfl;have hkl2:kR l (kd:Int)=m.kids.length:=by rw[kR,gH,hm]
 have hg2:zey l ⟨25,imm,[(kd:Int)]⟩ [a]=if a≠3\/(m.kids.length:Int).tdiv 2<=imm then 0 else zeC (decide (imm=0)) 1+1:=by rw[hgo];simp[hkl2]
 have e1:IntKind.wrap .i64 ((m.kids.length:Int).tdiv 2)=(m.kids.length:Int).tdiv 2:=by
  rw[JP ac];exact zft ac ac
 have hgk:([(kd:Int)]:List Int)[0]?=some (kd:Int):=rfl;have e2:IntKind.wrap .i64 (zeC (decide (imm=0)) 1+1)=zeC (decide (imm=0)) 1+1:=by
  unfold zeC;split<;>rfl
 refine zed (M:=221) (rs:=[.tmp 6]) (hw.call _) hw.ice hw.froz Tryz.func42 rfl rfl fz.2 rfl ?_;dsimp only[fz,zd8,Nat.reduceAdd];repeat' (first
  |(apply au ?_;clear hK K)|apply Ry.o ?_|(apply dq ?_;first|refine Rx.k (jA (fun _=>rfl) _ _) ?_|refine Rx.k (lK (fun _=>rfl) _ _ _) ?_|refine Rx.k (mS (fun _=>rfl) _ _ _) ?_)|(apply bS (fun hg hgp=>?_) (fun hg hgp=>?_)<;>try(cases hg;done))|(apply aV (fun hb hbp=>?_) (fun hb hbp=>?_)<;>try(cases hb;done))|apply am ?_|(apply zdQ fun K hK=>?_)|(apply zdP 12 [(2,19),(7,19),(10,19),(16,19)] fun K hK=>?_)|(apply zdP 20 [(2,19),(6,19),(9,19),(11,19),(14,19),(15,19)] fun K hK=>?_)|(apply zdU ?_;try intro _)|(apply zdV ?_ ?_<;>clear hK K)|apply aH ?_|(apply lD (fun hg hgp=>?_) (fun hg hgp=>?_)<;>try(cases hg;done))|apply aA ?_|apply zdR ?_|apply aB ?_)
 clear hkl hkl2 hgo h25;all_goals first
  |exact eK
  |((refine⟨zdZ,_,fo,?_⟩;try simp only[zdY]);rw[hg2,aE Ay];done)
  |((refine⟨zdZ,_,fo,?_⟩;try simp only[zdY]);rw[hg2,ah Ay];done)
end
end Go.Proofs.YtpbcimfiofmoeaaGreat
