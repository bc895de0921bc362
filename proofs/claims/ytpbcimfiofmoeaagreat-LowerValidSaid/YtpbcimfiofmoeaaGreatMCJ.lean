/- Parts: L4a, R3d, R3e, R3f, R3g, R3h, R3i. -/
import Derived.Test.YtpbcimfiofmoeaaGreatMCI
set_option linter.unusedSimpArgs false
set_option linter.unusedVariables false
set_option linter.unusedSectionVars false
set_option linter.defProp false
set_option maxHeartbeats 32000000
namespace Go.Ab
set_option maxRecDepth 20000
open Go
theorem NX{P:Prop}(h:P:=by rw[List.drop_eq_getElem_cons Y,List.all_cons]):P:=h
theorem iI{P:Prop}(h:P:=by simp only[zli,zk9];omega):P:=h
theorem uw{P:Prop}(h:P:=by simp[zlj]):P:=h
theorem Ij{P:Prop}(h:P:=by have:=c3 k o;omega):P:=h
theorem ux{P:Prop}(h:P:=by simp only[];omega):P:=h
theorem Dk{P:Prop}(h:P:=by simp only[zk1,Nat.reduceBEq, *];exact zni (n:=x.args.length) ac ac):P:=h
def iV:=@cond_true
def xI:=@Bool.not_or
def rQ:=@of_decide_eq_true
end Go.Ab
namespace Go.Proofs.YtpbcimfiofmoeaaGreat
set_option maxRecDepth 20000
open Go Go.Ab
section
theorem Dm(d:Nat)(h:d<2^60):bE ((d:Int)+1)=((d+1:Nat):Int):=by unfold bE;rw[znj ac ac];omega
mutual
theorem NY:∀(x:Ex) (d:Nat),d<=21->m1 sT x d=decide (d+zl6 x<=20)
 | .mk k n s o M,d,hd=>by
   rw[m1,sT,zl6];by_cases h:d<=20
   .rw[Dm d ac,NZ M d h];simp only[show decide ((d:Int)<=20)=true by simpa using (by omega:(d:Int)<=20),fq]
   .have m:decide ((d:Int)<=20)=false:=by simp;omega
    rw[m,gy];symm;simp;omega
theorem NZ:∀(l:List Ex) (d:Nat),d<=20->jx sT l ((d+1:Nat):Int)=decide (d+jM l<=20)
 |[],d,hd=>by rw[jx,jM];symm;simpa using hd
 |e::es,d,hd=>by
  rw[jx,NY e (d+1) ac,NZ es d hd,jM];by_cases m:d+1+zl6 e<=20<;>by_cases j:d+jM es<=20;all_goals simp only[m,j,j0,ip,fR,uo,]
  all_goals (symm;simp;omega)
end
theorem Ik(x:Ex):m1 sT x 0=!decide ((20:Int)<zl6 x):=by
 have:=NY x 0 ac;rw[show((0:Nat):Int)=0 from rfl]at this;rw[this];by_cases h:zl6 x<=20
 .have:¬(20:Int)<zl6 x:=by omega
  simp[h,this]
 .have:(20:Int)<zl6 x:=by omega
  simp[h,this]
theorem N0:∀(l:List Ex),jx sT l 0=!(l.any fun e=>decide ((20:Int)<zl6 e))
 |[]=>rfl
 |e::es=>by rw[jx,Ik,N0 es,qT,xI]
mutual
theorem zqL:∀(x:St) (d:Int),lK (pW sT) x d ()=(!nu x,())
 | .mk k U O n a v M j m,d=>by
   rw[lK,pW,nu];simp only[St.at_,St.value,St.args,Ik,N0];cases Z:decide ((20:Int)<zl6 a)
   .cases Y:decide ((20:Int)<zl6 v)
    .cases z:M.any fun e=>decide ((20:Int)<zl6 e)
     .simp only[ir,fR,Dn j];cases V:zmN j
      .simp only[ir,Dn m,iu,gm]
      .simp
     .simp
    .simp
   .simp
theorem Dn:∀(l:List St) (d:Int),zmG (pW sT) l d ()=(!zmN l,())
 |[],_=>rfl
 |x::l,d=>by
  rw[zmG,zqL x,zmN];cases h:nu x
  .simp only[ir,Dn l,gm]
  .simp
end
def uy(k:Int):Nat:=if k=4 then 1 else 0
theorem zvO(x:St)(d n l:Nat)(J:n<2^60)(M:l<2^60):oW x d ((n:Int),(l:Int))=(decide ((d:Int)<=20)&&decide (((n+1:Nat):Int)<=200)&&decide (((l+uy x.kind:Nat):Int)<=16),(((n+1:Nat):Int),((l+uy x.kind:Nat):Int))):=by
 have O:(if x.kind=4 then bE ((l:Int)+1)else (l:Int))=((l+uy x.kind:Nat):Int):=by
  unfold uy;split
  .rw[Dm l ac]
  .rfl
 unfold oW;simp only[Dm n ac,O]
mutual
theorem zts:∀(x:St) (d n l:Nat),d<=21->n<=200->l<=16 ->
 ((zlH x d<=20/\n+zlQ x<=200/\l+zlG x<=16)->lK oW x d ((n:Int),(l:Int))=(true,(((n+zlQ x:Nat):Int),((l+zlG x:Nat):Int)))) /\
 (¬(zlH x d<=20/\n+zlQ x<=200/\l+zlG x<=16)->(lK oW x d ((n:Int),(l:Int))).1=false)
 | .mk k Z Y V a v M j m,d,n,l,hd,hn,hl=>by
   have U:uy (St.mk k Z Y V a v M j m).kind<=1:=by unfold uy;split<;>omega
   have e1:zlG (.mk k Z Y V a v M j m)=uy (St.mk k Z Y V a v M j m).kind+zl3 j+zl3 m:=by rw[zlG];rfl
   rw[lK,zvO _ _ _ _ ac ac,e1];obtain⟨z,hz⟩:∃z,uy (St.mk k Z Y V a v M j m).kind=z:=⟨_,rfl⟩;rw[hz]at U⊢;clear hz e1;simp only[Dm d ac,zlH,zlQ];by_cases h0:d<=20/\n+1<=200/\l+z<=16
   .have O:(decide ((d:Int)<=20)&&decide (((n+1:Nat):Int)<=200)&&decide (((l+z:Nat):Int)<=16))=true:=by
     rw[co,co];refine⟨⟨?_,?_⟩,?_⟩<;>apply fY<;>omega
    rw[O];simp only[];have t:=Do j (d+1) (n+1) (l+z) ac ac ac;by_cases K:zmB j (d+1)<=20/\n+1+nS j<=200/\l+z+zl3 j<=16
    .rw[t.1 K];simp only[];have u:=Do m (d+1) (n+1+nS j) (l+z+zl3 j) ac ac ac;by_cases J:zmB m (d+1)<=20/\n+1+nS j+nS m<=200/\l+z+zl3 j+zl3 m<=16
     .rw[u.1 J];refine⟨fun _=>?_,fun h=>(h ⟨ac,ac,ac⟩).elim⟩;rw[show n+1+nS j+nS m=n+(1+nS j+nS m) by omega,show l+z+zl3 j+zl3 m=l+(z+zl3 j+zl3 m) by omega]
     .refine⟨fun h=>(J ⟨ac,ac,ac⟩).elim,fun _=>u.2 J⟩
    .refine⟨fun h=>(K ⟨ac,ac,ac⟩).elim,fun _=>?_⟩;have:=t.2 K;generalize zmG oW j _ _=r at this⊢;obtain⟨b,s⟩:=r;simp only at this;subst this;rfl
   .have O:(decide ((d:Int)<=20)&&decide (((n+1:Nat):Int)<=200)&&decide (((l+z:Nat):Int)<=16))=false:=by
     rw[<-Bool.not_eq_true,co,co];rintro⟨⟨I,C⟩,o⟩;have I:=rQ I;have C:=rQ C;have o:=rQ o;exact h0 ⟨ac,ac,ac⟩
    rw[O];exact⟨fun h=>(h0 ⟨ac,ac,ac⟩).elim,fun _=>rfl⟩
theorem Do:∀(x:List St) (d n l:Nat),d<=21->n<=200->l<=16 ->
 ((zmB x d<=20/\n+nS x<=200/\l+zl3 x<=16)->zmG oW x d ((n:Int),(l:Int))=(true,(((n+nS x:Nat):Int),((l+zl3 x:Nat):Int)))) /\
 (¬(zmB x d<=20/\n+nS x<=200/\l+zl3 x<=16)->(zmG oW x d ((n:Int),(l:Int))).1=false)
 |[],d,n,l,hd,hn,hl=>by
  rw[zmG,zmB,nS,zl3];exact⟨fun _=>rfl,fun h=>(h ⟨ac,ac,ac⟩).elim⟩
 |x::r,d,n,l,hd,hn,hl=>by
  rw[zmG,zmB,nS,zl3];have t:=zts x d n l hd hn hl;by_cases m:zlH x d<=20/\n+zlQ x<=200/\l+zlG x<=16
  .rw[t.1 m];simp only[];have u:=Do r d (n+zlQ x) (l+zlG x) hd ac ac;by_cases j:zmB r d<=20/\n+zlQ x+nS r<=200/\l+zlG x+zl3 r<=16
   .rw[u.1 j];refine⟨fun _=>?_,fun h=>(h ⟨ac,ac,ac⟩).elim⟩;rw[show n+zlQ x+nS r=n+(zlQ x+nS r) by omega,show l+zlG x+zl3 r=l+(zlG x+zl3 r) by omega]
   .exact⟨fun h=>(j ⟨ac,ac,ac⟩).elim,fun _=>u.2 j⟩
  .refine⟨fun h=>(m ⟨ac,ac,ac⟩).elim,fun _=>?_⟩;have:=t.2 m;generalize lK oW x _ _=r at this⊢;obtain⟨b,s⟩:=r;simp only at this;subst this;rfl
end
theorem zqM(x:List St):(zmG oW x 0 (0,0)).1=(!decide ((200:Int)<nS x) && !decide ((16:Int)<zl3 x) && !decide ((20:Int)<zmB x 0)):=by
 have t:=Do x 0 0 0 ac ac ac;rw[show((0:Nat):Int)=0 from rfl]at t;simp only[bL]at t;by_cases h:zmB x 0<=20/\nS x<=200/\zl3 x<=16
 .rw[t.1 h];have m:¬(200:Int)<nS x:=ac;have Z:¬(16:Int)<zl3 x:=ac;have z:¬(20:Int)<zmB x 0:=ac;simp[m,Z,z]
 .rw[t.2 h]
  symm
  rw[<-Bool.not_eq_true,co,co];rintro⟨⟨J,V⟩,j⟩;simp only[nM,lJ]at J V j;exact h ⟨ac,ac,ac⟩
theorem zvP(f:Fu):kB f=!ny f:=by
 rw[kB,ny,pX,zqM,Ik,Dn];have m:decide ((f.params.length:Int)<=6)=!decide ((6:Int)<f.params.length):=by
  by_cases h:(6:Int)<f.params.length
  .have:¬(f.params.length:Int)<=6:=by omega
   simp[h,this]
  .have:(f.params.length:Int)<=6:=by omega
   simp[h,this]
 have j:decide ((f.locals.length:Int)<=8)=!decide ((8:Int)<f.locals.length):=by
  by_cases h:(8:Int)<f.locals.length
  .have:¬(f.locals.length:Int)<=8:=by omega
   simp[h,this]
  .have:(f.locals.length:Int)<=8:=by omega
   simp[h,this]
 rw[m,j];simp only[xI];generalize (!decide ((6:Int)<f.params.length))=a;generalize (!decide ((8:Int)<f.locals.length))=b;generalize (!decide ((200:Int)<nS f.body))=c;generalize (!decide ((16:Int)<zl3 f.body))=d;generalize (!decide ((20:Int)<zmB f.body 0))=e;generalize (!zmN f.body)=g;generalize (!decide ((20:Int)<zl6 f.value))=h;cases a<;>cases b<;>cases c<;>cases d<;>cases e<;>cases g<;>cases h<;>rfl
theorem N2{Z:Type}(l:List Z)(p q:Z->Bool)(h:∀x,p x=!q x):l.all p=!l.any q:=by
 induction l with
 |nil=>rfl
 |cons a l ih=>rw[nY,qT,xI,h,ih]
theorem zAg(p:Pr):md p=!jo p:=by
 rw[md,jo,N2 p.funcs kB ny zvP,N2 p.arrays _ rh (fun a=>by rw[rh,xI])];simp only[xI]
def tyR3d.tyF:=ad @ec (ad @cJ (ad @dd (ad @en (ad @zms (ad @em (@eY))))))
open tyR3d
noncomputable def N4:{c:SC // aC 128 (Tryz.f106.body.getD .skip)=c}:=by
 refine⟨?_,?_⟩;rotate_left
 .simp only[Tryz.f106,bI,aC,zll,zle,zlp,zln,Nat.blt,Nat.ble];rfl
noncomputable def N8:{c:SC // aC 27 (Tryz.f171.body.getD .skip)=c}:=by
 refine⟨?_,?_⟩;rotate_left
 .simp only[Tryz.f171,bI,aC,zll,zle,zlp,zln,Nat.blt,Nat.ble];rfl
def mJ(x:Ex):Bool:=
 if x.kind=1 then decide ((x.kids.length:Int)=0)&&decide (x.name=[])&&decide (x.op=0)
 else if x.kind=2 then decide ((x.kids.length:Int)=0)&&decide (x.n=0)&&decide (x.op=0)&&zl8 x.name
 else if x.kind=3 then decide ((x.kids.length:Int)=1)&&decide (x.n=0)&&decide (x.op=0)&&zl8 x.name
 else if x.kind=4 then decide (x.n=0)&&decide (x.name=[])&&((decide ((x.kids.length:Int)=2)&&p6 x.op)||(decide ((x.kids.length:Int)=1)&&(decide (x.op=20)||decide (x.op=21))))
 else if x.kind=5 then decide ((x.kids.length:Int)=3)&&decide (x.n=0)&&decide (x.name=[])&&decide (x.op=0)
 else false
mutual
def eO:Ex->Bool
 | .mk k n s o M=>ev M&&mJ (.mk k n s o M)
def ev:List Ex->Bool
 |[]=>true
 |e::es=>eO e&&ev es
end
theorem Ac(x:Ex):eO x=(ev x.kids&&mJ x):=by cases x;rw[eO];rfl
noncomputable def Dp:En:=⟨46,false,b7 (fun s=>s.length<2^60) nV fun s=>.bool (zl8 s)⟩
theorem Il(ρ:Nat->Int):zl0 Tryz.prog ρ Dp:=zl7 fun x hx=>zqx ρ x hx
noncomputable def N9:En:=⟨147,false,b7 (fun _=>True) (fun n:Int=>[.int .i64 n]) fun n=>.bool (p6 n)⟩
theorem zvQ(ρ:Nat->Int):zl0 Tryz.prog ρ N9:=zl7 fun x _=>zti ρ x
theorem Im(x y:Int)(h:([.int .i64 x]:List AV)=[.int .i64 y]):x=y:=j8
noncomputable def Ad:En:=⟨170,false,b7 (fun _=>True) jN fun x=>.bool (zeroE x)⟩
theorem Oa(ρ:Nat->Int):zl0 Tryz.prog ρ Ad:=zl7 fun x _=>ztj ρ x
noncomputable def In:List En:=[Dp,N9]
theorem zAj(ρ:Nat->Int):fK Tryz.prog ρ In:=⟨Il ρ,zvQ ρ,trivial⟩
theorem zqN(ρ:Nat->Int):∀x:Ex,x.sz<2^60->bM Tryz.prog ρ 106 (jN x) (.bool (eO x)):=
 vI fit (pls:=pls) (zAj ρ) (fun x=>x.sz) (ok:=fun x=>x.sz<2^60) (enc:=jN) (out:=fun x=>.bool (eO x)) (fun x _=>.cons (.agg x.pure) .nil) (fun x _=>.bool _) (fun x hx=>by
 have Y:=sW (sz:=fun x:Ex=>x.sz) (ok:=fun x=>x.sz<2^60) (out:=fun x=>.bool (eO x)) qZ (f:=106) (l:=In) x;generalize o:(⟨106,false,b7 (fun y=>y.sz<2^60/\y.sz<x.sz) jN fun x=>.bool (eO x)⟩:En)::In=l at Y⊢;have kr:∀y:Ex,y.sz<x.sz->∀H,zk5 Tryz.prog (zkY pls l) 106 [.agg y.cells] H fun v H'=>v=.bool (eO y)/\H'=H:=fun y h2 H=>by
  subst o;exact zlM (enc:=jN) (out:=fun x=>.bool (eO x)) qZ (x:=y) rfl ⟨ac,h2⟩
 have kv:∀s:List UInt8,s.length<2^60->∀H,zk5 Tryz.prog (zkY pls l) 46 [.str s] H fun v H'=>v=.bool (zl8 s)/\H'=H:=fun s h1 H=>by
  subst o;exact zlM (enc:=nV) (out:=fun x=>.bool (zl8 x)) vM (x:=s) rfl h1
 have kb:∀n:Int,∀H,zk5 Tryz.prog (zkY pls l) 147 [.int .i64 n] H fun v H'=>v=.bool (p6 n)/\H'=H:=fun n H=>by
  subst o;exact zlM (enc:=fun n:Int=>[.int .i64 n]) (out:=fun x=>.bool (p6 x)) Im (x:=n) rfl trivial
 have hsz:=x.sz_eq;have hlen:=znJ x.kids;change zk5 _ _ _ [.agg x.cells] _ _;refine zlf (M:=128) (rs:=[.tmp 2]) Y.call Y.ice Y.froz Tryz.func106 rfl rfl N4.2 rfl ?_;dsimp only[N4,zD,Nat.reduceAdd];repeat' (first
  |(apply ah ?_;clear hK K)|apply Rx.o ?_|apply ak ?_|(apply zkU fun K hK=>?_)|apply aG ?_|fail)
 refine zlL [1] [0] 3 x.kids.length (fun i E H=>ev x.kids=ev (x.kids.drop i)) eE ax ?_;rintro i E H2 hi U J I hsI z;(try simp only[zlm,zlb,aR,zk1,zk7,Nat.reduceBEq, *]at U);(try simp only[zlm,zlb,aR,zk1,zk7, *]at J);(try simp only[zk9,zlI,bL]at I);have hB0:(0 == H2.next)=false:=zkV ac;have hC0:(H2.next == 0)=false:=zkV ac;repeat' (first
  |(apply ah ?_;clear hK K)|apply Rx.o ?_|(apply eM ?_;first|refine zlc (kv _ ac _) ?_|refine zlc (kb _ _) ?_)|apply qP ?_|(apply cz (fun hg V=>?_) (fun hg V=>?_)<;>try(cases hg;done))|(apply a0 (fun Z j=>?_) (fun Z j=>?_)<;>try(cases Z;done))|apply ak ?_|(apply zkU fun K hK=>?_)|apply aG ?_|apply zk3 ?_|apply aF ?_|apply zlu ?_)
 .have C:i<x.kids.length:=by simpa using Z
  have hgx:x.kids[i]?=some x.kids[i]:=aT C;have hm:=znK (cR C);have O:ev (x.kids.drop i)=(eO x.kids[i]&&ev (x.kids.drop (i+1))):=sV;repeat' (first
   |(apply ah ?_;clear hK K)|apply Rx.o ?_|(apply eM ?_;first|refine zlc (kr _ ac _) ?_)|(apply a0 (fun Z j=>?_) (fun Z j=>?_)<;>try(cases Z;done))|apply ak ?_|(apply zkU fun K hK=>?_)|apply zk3 ?_|apply aF ?_|fail)
  all_goals (first|(refine⟨eI,_,eR,?_⟩;(try simp only[zkX]);rw[Ac,z,O];(try simp only[nM]at *);simp only[*,gy,];done)|skip)
  refine⟨ac,zk8,zk8,zlF,Hf,?_⟩;rw[z,O];(try simp only[iU]at *);simp only[*,fq,]
 all_goals
  have m:i=x.kids.length:=ac;rw[m,gT]at z;have hJ':ev x.kids=true:=z;clear z;all_goals (refine⟨eI,_,eR,?_⟩;try simp only[zkX])
  rw[Ac,hJ',mJ];(try simp only[dI]at *);simp only[ *,ip,gm,iu,Dc,jO,kZ,dB,dL,Int.reduceEq])
end
section
def tyR3e.tyF:=ad @ec (ad @cJ (ad @dd (ad @em (ad @en (ad @zms (@eY))))))
open tyR3e
noncomputable def Ob:{c:SC // aC 202 (Tryz.f146.body.getD .skip)=c}:=by
 refine⟨?_,?_⟩;rotate_left
 .simp only[Tryz.f146,bI,aC,zll,zle,zlp,zln,Nat.blt,Nat.ble];rfl
def qf(x:St):Bool:=decide (x.name=[])&&decide (x.to=[])&&decide (x.n=0)&&zeroE x.at_&&decide ((x.args.length:Int)=0)
def qh(x:St):Bool:=decide ((x.thn.length:Int)=0)&&decide ((x.els.length:Int)=0)
def mK(x:St):Bool:=
 if x.kind=1 then qh x&&zl8 x.name&&decide (x.to=[])&&decide (x.n=0)&&zeroE x.at_&&decide ((x.args.length:Int)=0)&&eO x.value
 else if x.kind=2 then qh x&&zl8 x.name&&decide (x.to=[])&&decide (x.n=0)&&eO x.at_&&decide ((x.args.length:Int)=0)&&eO x.value
 else if x.kind=3 then qf x&&eO x.value
 else if x.kind=4 then qf x&&eO x.value&&decide ((x.els.length:Int)=0)
 else if x.kind=5 then qh x&&qf x&&eO x.value
 else if x.kind=6 then qh x&&zl8 x.name&&zl8 x.to&&decide (x.n=0)&&zeroE x.at_&&zeroE x.value
 else if x.kind=7 then qh x&&decide (x.name=[])&&decide (x.to=[])&&decide (0<=x.n)&&decide (x.n<=1000000)&&zeroE x.at_&&zeroE x.value&&decide ((x.args.length:Int)=0)
 else false
def jg(x:St):Bool:=ev x.args&&mK x
def v7(x:St):List AV:=[.agg x.cells]
theorem Oc(x y:St)(h:v7 x=v7 y):x=y:=by simp only[v7,ea,AV.agg.injEq,aR]at h;exact St.inj h
theorem zvR(ρ:Nat->Int)(x:St):bM Tryz.prog ρ 171 [.agg x.cells] (.bool (qf x)):=zmy fit (pls:=pls) (l:=[Ad]) ⟨Oa ρ,trivial⟩ (.cons (.agg x.pure) .nil) (.bool _) (by
 have O:Plain (zkY pls [Ad]) 171:=zml (fun _=>rfl) rfl;have j:∀y:Ex,∀H,zk5 Tryz.prog (zkY pls [Ad]) 170 [.agg y.cells] H fun v H'=>v=.bool (zeroE y)/\H'=H:=fun y H=>zlM (enc:=jN) (out:=fun x=>.bool (zeroE x)) qZ (x:=y) rfl trivial;refine zlf (M:=27) (rs:=[.tmp 2]) (O.call _) O.ice O.froz Tryz.func171 rfl rfl N8.2 rfl ?_;dsimp only[N8,zD,Nat.reduceAdd];repeat' (first
  |(apply ah ?_;clear hK K)|apply Rx.o ?_|(apply eM ?_;first|refine zlc (j _ _) ?_)|(apply cz (fun Z Y=>?_) (fun Z Y=>?_)<;>try(cases Z;done))|apply ak ?_|(apply zkU fun K hK=>?_)|apply aF ?_)
 all_goals
  all_goals (refine⟨eI,_,eR,?_⟩;try simp only[zkX])
  rw[qf];(try simp only[dI]at *);simp only[ *,jO,kZ,])
noncomputable def Od:En:=⟨171,false,b7 (fun _=>True) v7 fun x=>.bool (qf x)⟩
theorem ztt(ρ:Nat->Int):zl0 Tryz.prog ρ Od:=zl7 fun x _=>zvR ρ x
noncomputable def Io:En:=⟨106,false,b7 (fun x=>x.sz<2^60) jN fun x=>.bool (eO x)⟩
theorem Oe(ρ:Nat->Int):zl0 Tryz.prog ρ Io:=zl7 fun x hx=>zqN ρ x hx
noncomputable def xJ:List En:=[Dp,Ad,Od,Io]
theorem zAl(ρ:Nat->Int):fK Tryz.prog ρ xJ:=⟨Il ρ,Oa ρ,ztt ρ,Oe ρ,trivial⟩
theorem zqO(ρ:Nat->Int)(x:St)(hx:x.sz<2^60):bM Tryz.prog ρ 146 [.agg x.cells] (.bool (jg x)):=zmy fit (pls:=pls) (zAl ρ) (.cons (.agg x.pure) .nil) (.bool _) (by
 have I:Plain (zkY pls xJ) 146:=zml (fun _=>rfl) rfl;have kz:∀y:Ex,∀H,zk5 Tryz.prog (zkY pls xJ) 170 [.agg y.cells] H fun v H'=>v=.bool (zeroE y)/\H'=H:=fun y H=>zlM (enc:=jN) (out:=fun x=>.bool (zeroE x)) qZ (x:=y) rfl trivial;have ko:∀y:St,∀H,zk5 Tryz.prog (zkY pls xJ) 171 [.agg y.cells] H fun v H'=>v=.bool (qf y)/\H'=H:=fun y H=>zlM (enc:=v7) (out:=fun x=>.bool (qf x)) Oc (x:=y) rfl trivial;have kv:∀s:List UInt8,s.length<2^60->∀H,zk5 Tryz.prog (zkY pls xJ) 46 [.str s] H fun v H'=>v=.bool (zl8 s)/\H'=H:=fun s m H=>zlM (enc:=nV) (out:=fun x=>.bool (zl8 x)) vM (x:=s) rfl m;have kw:∀y:Ex,y.sz<2^60->∀H,zk5 Tryz.prog (zkY pls xJ) 106 [.agg y.cells] H fun v H'=>v=.bool (eO y)/\H'=H:=fun y m H=>zlM (enc:=jN) (out:=fun x=>.bool (eO x)) qZ (x:=y) rfl m;have hsz:=x.sz_eq;have hlen:=znJ x.args;refine zlf (M:=202) (rs:=[.tmp 2]) (I.call _) I.ice I.froz Tryz.func146 rfl rfl Ob.2 rfl ?_;dsimp only[Ob,zD,Nat.reduceAdd];repeat' (first
  |(apply ah ?_;clear hK K)|apply Rx.o ?_|apply ak ?_|(apply zkU fun K hK=>?_)|apply aG ?_|fail)
 refine zlL [1] [0] 3 x.args.length (fun i E H=>ev x.args=ev (x.args.drop i)) eE ax ?_;rintro i E H2 hi V U J hsI z;(try simp only[zlm,zlb,aR,zk1,zk7,Nat.reduceBEq, *]at V);(try simp only[zlm,zlb,aR,zk1,zk7, *]at U);(try simp only[zk9,zlI,bL]at J);have hB0:(0 == H2.next)=false:=zkV ac;have hC0:(H2.next == 0)=false:=zkV ac;repeat' (first
  |(apply ah ?_;clear hK K)|apply Rx.o ?_|(apply eM ?_;first|refine zlc (kv _ ac _) ?_|refine zlc (kz _ _) ?_|refine zlc (ko _ _) ?_|refine zlc (kw _ ac _) ?_)|(apply cz (fun hg Y=>?_) (fun hg Y=>?_)<;>try(cases hg;done))|(apply a0 (fun Z j=>?_) (fun Z j=>?_)<;>try(cases Z;done))|apply ak ?_|(apply zkU fun K hK=>?_)|apply aG ?_|apply zk3 ?_|apply aF ?_|apply zlu ?_)
 .have C:i<x.args.length:=by simpa using Z
  have hgx:x.args[i]?=some x.args[i]:=aT C;have hm:=znK (cR C);have O:ev (x.args.drop i)=(eO x.args[i]&&ev (x.args.drop (i+1))):=sV;repeat' (first
   |(apply ah ?_;clear hK K)|apply Rx.o ?_|(apply eM ?_;first|refine zlc (kw _ ac _) ?_)|(apply a0 (fun Z j=>?_) (fun Z j=>?_)<;>try(cases Z;done))|apply ak ?_|(apply zkU fun K hK=>?_)|apply zk3 ?_|apply aF ?_|fail)
  all_goals (first|(refine⟨eI,_,eR,?_⟩;(try simp only[zkX]);rw[jg,z,O];(try simp only[nM]at *);simp only[*,gy,];done)|skip)
  refine⟨ac,zk8,zk8,zlF,Dk,?_⟩;rw[z,O];(try simp only[iU]at *);simp only[*,fq,]
 all_goals
  have o:i=x.args.length:=ac;rw[o,gT]at z;have hJ':ev x.args=true:=z;clear z;all_goals (refine⟨eI,_,eR,?_⟩;try simp only[zkX])
  rw[jg,hJ',mK,qh];(try simp only[dI]at *);simp only[ *,jO,kZ,dB,dL,Int.reduceEq])
end
section
def tyR3f.tyF:=ad @ec (ad @cJ (ad @dd (ad @gY (ad @iQ (ad @fI (ad @fx (ad @em (ad @en (ad @zms (ad @iR (ad @jw (@eY))))))))))))
open tyR3f
noncomputable def Of:{c:SC // aC 34 (Tryz.f105.body.getD .skip)=c}:=by
 refine⟨?_,?_⟩;rotate_left
 .simp only[Tryz.f105,bI,aC,zll,zle,zlp,zln,Nat.blt,Nat.ble];rfl
noncomputable def Og:{c:SC // aC 66 (Tryz.f59.body.getD .skip)=c}:=by
 refine⟨?_,?_⟩;rotate_left
 .simp only[Tryz.f59,bI,aC,zll,zle,zlp,zln,Nat.blt,Nat.ble];rfl
mutual
def mL:St->Bool
 | .mk k Z Y n a v M j m=>jg (.mk k Z Y n a v M j m)&&ft j&&ft m
def ft:List St->Bool
 |[]=>true
 |x::l=>mL x&&ft l
end
theorem v8(x:St):mL x=(jg x&&ft x.thn&&ft x.els):=by cases x;rw[mL];rfl
noncomputable def Dq:En:=⟨146,false,b7 (fun x=>x.sz<2^60) v7 fun x=>.bool (jg x)⟩
theorem zvU(ρ:Nat->Int):zl0 Tryz.prog ρ Dq:=zl7 fun x hx=>zqO ρ x hx
theorem zo0(ρ:Nat->Int):∀x:List St,zld x<2^60->bM Tryz.prog ρ 105 (nn x) (.bool (ft x)):=
 vI fit (pls:=pls) (l:=[Dq]) ⟨zvU ρ,trivial⟩ (fun x=>zld x) (ok:=fun x=>zld x<2^60) (enc:=nn) (out:=fun x=>.bool (ft x)) (fun x _=>.cons (xl _) .nil) (fun x _=>.bool _) (fun x hx=>by
 have Y:=sW (sz:=fun x:List St=>zld x) (ok:=fun x=>zld x<2^60) (out:=fun x=>.bool (ft x)) xA (f:=105) (l:=[Dq]) x;generalize m:(⟨105,false,b7 (fun y=>zld y<2^60/\zld y<zld x) nn fun x=>.bool (ft x)⟩:En)::[Dq]=l at Y⊢;have kr:∀(y:List St),zld y<zld x->∀H,zk5 Tryz.prog (zkY pls l) 105 [.lst (y.map St.cells)] H fun v H'=>v=.bool (ft y)/\H'=H:=fun y h2 H=>by
  subst m;exact zlM (enc:=nn) (out:=fun x=>.bool (ft x)) xA (x:=y) rfl ⟨ac,h2⟩
 have kd:∀y:St,y.sz<2^60->∀H,zk5 Tryz.prog (zkY pls l) 146 [.agg y.cells] H fun v H'=>v=.bool (jg y)/\H'=H:=fun y h1 H=>by
  subst m;exact zlM (enc:=v7) (out:=fun x=>.bool (jg x)) Oc (x:=y) rfl h1
 have hlen:=znP x;change zk5 _ _ _ [.lst (x.map St.cells)] _ _;refine zlf (M:=34) (rs:=[.tmp 2]) Y.call Y.ice Y.froz Tryz.func105 rfl rfl Of.2 rfl ?_;dsimp only[Of,zD,Nat.reduceAdd];repeat' (first
  |(apply ah ?_;clear hK K)|apply Rx.o ?_|apply ak ?_|(apply zkU fun K hK=>?_)|apply aG ?_|fail)
 refine zlL [0] [] 3 x.length (fun i E H=>ft x=ft (x.drop i)) eE ax ?_;rintro i E H2 hi U J I hsI z;(try simp only[zlm,zlb,aR,zk1,zk7,Nat.reduceBEq, *]at U);(try simp only[zlb, *]at J);(try simp only[zlI,]at I);repeat' (first
  |(apply ah ?_;clear hK K)|apply Rx.o ?_|(apply a0 (fun C j=>?_) (fun C j=>?_)<;>try(cases C;done))|apply ak ?_|(apply zkU fun K hK=>?_)|apply aG ?_|apply zk3 ?_|apply aF ?_|apply zlu ?_)
 .have Z:i<x.length:=by simpa using C
  have hgx:x[i]?=some x[i]:=aT Z;have hsm:=znL (cR Z);have hsz:=x[i].sz_eq;have O:ft (x.drop i)=(mL x[i]&&ft (x.drop (i+1))):=G7;rw[v8]at O;repeat' (first
   |(apply ah ?_;clear hK K)|apply Rx.o ?_|(apply eM ?_;first|refine zlc (kd _ ac _) ?_|refine zlc (kr _ ac _) ?_)|(apply cz (fun o V=>?_) (fun o V=>?_)<;>try(cases o;done))|(apply a0 (fun C j=>?_) (fun C j=>?_)<;>try(cases C;done))|apply ak ?_|(apply zkU fun K hK=>?_)|apply zk3 ?_|apply aF ?_|fail)
  all_goals (first|(refine⟨eI,_,eR,?_⟩;(try simp only[zkX]);rw[z,O];(try simp only[dI]at *);simp only[ *,jO,fR,];done)|skip)
  refine⟨ac,zk8,zk8,zlF,uj,?_⟩;rw[z,O];(try simp only[iU]at *);simp only[ *,kZ,]
 .all_goals (refine⟨eI,_,eR,?_⟩;try simp only[zkX])
  rw[z,show i=x.length by simp at C;omega];simp[ft])
noncomputable def Oh:En:=⟨105,false,b7 (fun x=>zld x<2^60) nn fun x=>.bool (ft x)⟩
theorem zvV(ρ:Nat->Int):zl0 Tryz.prog ρ Oh:=zl7 fun x hx=>zo0 ρ x hx
noncomputable def xK:List En:=[Dp,Io,Oh]
theorem zAn(ρ:Nat->Int):fK Tryz.prog ρ xK:=⟨Il ρ,Oe ρ,zvV ρ,trivial⟩
theorem Ip:∀{l:List Ar}{a:Ar},a∈l->a.name.length<zmL l
 |[],_,h=>by simp at h
 |e::es,x,h=>by
  rcases fX.1 h with rfl|h
  .simp only[zmL];omega
  .have:=Ip h;simp only[zmL];omega
def fnNames(f:Fu):List (List UInt8):=[f.name]++f.params++f.locals
def kH(f:Fu):Bool:=(fnNames f).all zl8&&ft f.body&&eO f.value
def hT(p:Pr):Bool:=p.arrays.all (fun a=>zl8 a.name)&&p.funcs.all kH
theorem Dr(H:Hp)(s:List UInt8):zmb Tryz.prog H 59 1 [(0,.str s)]=some (.sl H.next 0 1 1,H.alloc (.cells [.str s] 0 true)):=aj
theorem Oi(H:Hp):zmb Tryz.prog H 59 0 []=some (.sl H.next 0 0 1,H.alloc (.cells [] 0 true)):=aj
theorem ze9(ρ:Nat->Int)(p:Pr)(hz:p.sz<2^36):bM Tryz.prog ρ 59 [.agg p.cells] (.bool (hT p)):=zmy fit (pls:=pls) (zAn ρ) (.cons (.agg p.pure) .nil) (.bool _) (by
 have hw:Plain (zkY pls xK) 59:=zml (fun _=>rfl) rfl;have hkeep:(zkY pls xK).keep 59=false:=rfl;have kv:∀s:List UInt8,s.length<2^60->∀H,zk5 Tryz.prog (zkY pls xK) 46 [.str s] H fun v H'=>v=.bool (zl8 s)/\H'=H:=fun s h1 H=>zlM (enc:=nV) (out:=fun x=>.bool (zl8 x)) vM (x:=s) rfl h1;have kw:∀y:Ex,y.sz<2^60->∀H,zk5 Tryz.prog (zkY pls xK) 106 [.agg y.cells] H fun v H'=>v=.bool (eO y)/\H'=H:=fun y h1 H=>zlM (enc:=jN) (out:=fun x=>.bool (eO x)) qZ (x:=y) rfl h1;have ks:∀y:List St,zld y<2^60->∀H,zk5 Tryz.prog (zkY pls xK) 105 [.lst (y.map St.cells)] H fun v H'=>v=.bool (ft y)/\H'=H:=fun y h1 H=>zlM (enc:=nn) (out:=fun x=>.bool (ft x)) xA (x:=y) rfl h1;have hpz:p.sz=1+zmL p.arrays+zmv p.funcs:=rfl;have hla:=znR p.arrays;have hlf:=znQ p.funcs;refine zlf (M:=66) (rs:=[.tmp 2]) (hw.call _) hw.ice hw.froz Tryz.func59 rfl rfl Og.2 rfl ?_;dsimp only[Og,zD,Nat.reduceAdd];repeat' (first
  |(apply ah ?_;clear hK K)|apply Rx.o ?_|apply ak ?_|(apply zkU fun K hK=>?_)|apply aG ?_|fail)
 refine zlL [1] [0] 3 p.arrays.length (fun i E H=>p.arrays.all (fun a=>zl8 a.name)=(p.arrays.drop i).all (fun a=>zl8 a.name)) eE ax ?_;rintro i E I hi J V z hsI hJ;(try simp only[zlm,zlb,aR,zk1,zk7,Nat.reduceBEq, *]at J);(try simp only[zlm,zlb,aR,zk1,zk7, *]at V);(try simp only[zk9,zlI,bL]at z);have hB0:(0 == I.next)=false:=zkV ac;have hC0:(I.next == 0)=false:=zkV ac;repeat' (first
  |(apply ah ?_;clear hK K)|apply Rx.o ?_|(apply a0 (fun C Z=>?_) (fun C Z=>?_)<;>try(cases C;done))|apply ak ?_|(apply zkU fun K hK=>?_)|apply aG ?_|apply zk3 ?_|apply zlu ?_)
 .have Y:i<p.arrays.length:=by simpa using C
  have hgx:p.arrays[i]?=some p.arrays[i]:=aT Y;have O:(p.arrays.drop i).all (fun a=>zl8 a.name)=(zl8 p.arrays[i].name&&(p.arrays.drop (i+1)).all (fun a=>zl8 a.name)):=NX;have hsm:p.arrays[i].name.length<zmL p.arrays:=Ip (cR Y);repeat' (first
   |(apply ah ?_;clear hK K)|apply Rx.o ?_|(apply eM ?_;first|refine zlc (kv _ ac _) ?_)|(apply a0 (fun C Z=>?_) (fun C Z=>?_)<;>try(cases C;done))|apply ak ?_|(apply zkU fun K hK=>?_)|apply zk3 ?_|apply aF ?_|fail)
  all_goals (first|(refine⟨eI,_,eR,?_⟩;(try simp only[zkX]);rw[hT,hJ,O];(try simp only[nM]at *);simp only[*,gy,];done)|skip)
  refine⟨ac,zk8,zk8,zlF,vT,?_⟩;rw[hJ,O];(try simp only[iU]at *);simp only[*,fq,]
 .have hie:i=p.arrays.length:=by simp at C;omega
  rw[hie,gT,pZ]at hJ;clear C hie hsI hi;refine zlL [1] [0] 4 p.funcs.length (fun i E H=>p.funcs.all kH=(p.funcs.drop i).all kH) eE ax ?_;rintro i E I hi J V z hsI o;(try simp only[zlm,zlb,aR,zk1,Nat.reduceBEq, *]at J);(try simp only[zlm,zlb,aR, *]at V);(try simp only[zk9,zli,zlI,bL,Nat.reduceAdd]at z);have hB0:(0 == I.next)=false:=zkV ac;have hC0:(I.next == 0)=false:=zkV ac;repeat' (first
   |(apply ah ?_;clear hK K)|apply Rx.o ?_|(apply a0 (fun C Z=>?_) (fun C Z=>?_)<;>try(cases C;done))|apply ak ?_|(apply zkU fun K hK=>?_)|apply aG ?_|apply zk3 ?_|apply aF ?_|apply zlu ?_)
  .have Y:i<p.funcs.length:=by simpa using C
   have hgx:p.funcs[i]?=some p.funcs[i]:=aT Y;have O:(p.funcs.drop i).all kH=(kH p.funcs[i]&&(p.funcs.drop (i+1)).all kH):=NX;rw[kH]at O;have hsm:=pV (cR Y);have hsz:p.funcs[i].sz=1+p.funcs[i].name.length+zmd p.funcs[i].params+zmd p.funcs[i].locals+zld p.funcs[i].body+p.funcs[i].value.sz:=rfl;have gh0:=@Dr;repeat' (first
    |(apply ah ?_;clear hK K)|apply Rx.o ?_|apply bS ?_|apply ak ?_|(apply zmm 10 [(1,5),(2,5),(4,5),(7,5),(7,8)] fun K hK=>?_)|(apply zlC ?_;try intro _)|apply bZ ?_|fail)
   generalize U:Hp.alloc _ (HB.cells [AV.str p.funcs[i].name] 0 true)=H4;have n4:H4.next=I.next+2:=by rw[<-U];rfl
   have g4:H4.get I.next=some (.cells p.funcs[i].cells 0 true):=by rw[<-U];clear U;exact zn2
   have g40:H4.get 0=some (.cells p.cells 0 true):=by
    rw[<-U,zkZ,af iI,aJ,af ac,zkZ,af ac];exact V
   have g41:H4.get (I.next+1)=some (.cells [.str p.funcs[i].name] 0 true):=by rw[<-U];clear U;exact zn2
   have s4:dV H4 (.sl (I.next+1) 0 1 1) [p.funcs[i].name] (I.next+1):=⟨I.next+1,0,rfl,g41,ax,aB _,ac⟩;have hpl:=zno p.funcs[i].params;have hll:=zno p.funcs[i].locals;obtain⟨v5,H5,a5,s5,n5,f5,_⟩:=xt p.funcs[i].params s4 ac b9;have g5:H5.get I.next=some (.cells p.funcs[i].cells 0 true):=by rw[f5 _ (cE _)];exact g4
   have g50:H5.get 0=some (.cells p.cells 0 true):=by rw[f5 _ ac];exact g40
   refine jv eV eV HL ?_;repeat' (first
    |apply Rx.o ?_|(apply zlC ?_;try intro _)|apply bZ ?_|fail)
   obtain⟨v6,H6,a6,s6,n6,f6,_⟩:=xt p.funcs[i].locals s5 ac b9;have g6:H6.get I.next=some (.cells p.funcs[i].cells 0 true):=by rw[f6 _ (cE _)];exact g5
   have g60:H6.get 0=some (.cells p.cells 0 true):=by rw[f6 _ ac];exact g50
   refine jv eV eV (by rw[hkeep];exact a6) ?_;repeat' (first
    |(apply ah ?_;clear hK K)|apply Rx.o ?_|apply ak ?_|(apply zkU fun K hK=>?_)|(apply zlC ?_;try intro _)|(apply zmk ?_ ?_<;>clear hK K)|apply bZ ?_|apply aG ?_|fail)
   .exact zlU
   .have s6':dV H6 v6 (fnNames p.funcs[i]) (I.next+1):=s6;have hfl:(fnNames p.funcs[i]).length<2^61:=by simp[fnNames];omega
    have hfm:∀s∈fnNames p.funcs[i],s.length<2^60:=fun s hs=>by
     rcases mX.1 hs with hs|hs
     .rcases mX.1 hs with hs|hs
      .simp at hs;subst hs;omega
      .have:=CM hs;omega
     .have:=CM hs;omega
    clear s6 a6 f6 a5 f5 s5 s4;generalize fnNames p.funcs[i]=ns at *;have hln:=fun H'=>s6'.len (H':=H');refine zlL [1,4,5,6] [0,I.next] 7 ns.length (fun j E H=>ns.all zl8=(ns.drop j).all zl8/\dV H v6 ns (I.next+1)) eE ⟨ax,s6'⟩ ?_;rintro j E3 H3 hj J V z hsI ⟨m,s7⟩;(try simp only[zlm,zlb,aR,zk1,zk7,Nat.reduceBEq, *]at J);(try simp only[zlm,zlb,aR, *]at V);(try simp only[zk9,zli,zlI,bL,Nat.reduceAdd]at z);have hB0:(0 == H3.next)=false:=zkV ac;have hC0:(H3.next == 0)=false:=zkV ac;have hB1:(I.next == H3.next)=false:=zkV ac;have hC1:(H3.next == I.next)=false:=zkV ac;repeat' (first
     |(apply ah ?_;clear hK K)|apply Rx.o ?_|(apply eM ?_;first|refine zlc (kw _ ac _) ?_|refine zlc (ks _ ac _) ?_)|(apply cz (fun hg hgp=>?_) (fun hg hgp=>?_)<;>try(cases hg;done))|(apply a0 (fun C Z=>?_) (fun C Z=>?_)<;>try(cases C;done))|apply ak ?_|(apply zkU fun K hK=>?_)|apply aG ?_|apply zk3 ?_|apply aF ?_|apply zlu ?_)
    .have hlt2:j<ns.length:=by simpa using C
     obtain⟨q,ia,ld⟩:=s7.at hlt2;have hdr2:(ns.drop j).all zl8=(zl8 ns[j]&&(ns.drop (j+1)).all zl8):=by rw[fS hlt2,nY]
     have hq:=hfm _ (cR hlt2);repeat' (first
      |(apply ah ?_;clear hK K)|apply Rx.o ?_|(apply eM ?_;first|refine zlc (kv _ hq _) ?_)|(apply a0 (fun C Z=>?_) (fun C Z=>?_)<;>try(cases C;done))|apply ak ?_|(apply zkU fun K hK=>?_)|apply zk3 ?_|apply aF ?_|fail)
     all_goals (first|(refine⟨eI,_,eR,?_⟩;(try simp only[zkX]);rw[hT,hJ,o,O,m,hdr2];(try simp only[nM]at *);simp only[ *,jO,];done)|skip)
     refine⟨ac,zk8,zk8,zlF,(by simp only[zk1,Nat.reduceBEq, *];exact zni (n:=ns.length) ac ac),?_⟩;exact⟨by rw[m,hdr2];(try simp only[iU]at *);simp only[*,fq,],s7⟩
    all_goals
     have hje:j=ns.length:=ac;rw[hje,gT,pZ]at m
    all_goals (first|(refine⟨eI,_,eR,?_⟩;(try simp only[zkX]);rw[hT,hJ,o,O,m];(try simp only[dI]at *);simp only[ *,jO,fR,];done)|skip)
    refine⟨ac,zk8,zk8,zlF,oX,?_⟩;rw[o,O,m];(try simp only[iU]at *);simp only[ *,kZ,]
  .all_goals (refine⟨eI,_,eR,?_⟩;try simp only[zkX])
   have hie:i=p.funcs.length:=tc;rw[hie,gT,pZ]at o;rw[hT,hJ,o];(try simp only[dI]at *);simp only[*,fR,])
end
section
def tyR3g.tyF:=ad @cJ (ad @dd (ad @gY (ad @iQ (ad @fI (ad @fx (ad @em (ad @zms (ad @iR (ad @jw (ad @Dr (@Oi)))))))))))
open tyR3g
noncomputable def Oj:{c:SC // aC 85 (Tryz.f60.body.getD .skip)=c}:=by
 refine⟨?_,?_⟩;rotate_left
 .simp only[Tryz.f60,bI,aC,zll,zle,zlp,zln,Nat.blt,Nat.ble];rfl
def zlP:List (List UInt8)->List (List UInt8)->Bool
 |_,[]=>false
 |seen,s::l=>zlo seen s||zlP (seen++[s]) l
def oc(K:List (List UInt8)):List (List UInt8)->List Fu->Bool
 |_,[]=>false
 |seen,f::fs=>zlo seen f.name||zlP K (f.params++f.locals)||oc K (seen++[f.name]) fs
def zlj(p:Pr):List (List UInt8):=p.arrays.map (·.name)
def kI(p:Pr):Bool:=zlP [] (zlj p)||oc (zlj p) [] p.funcs
def th{Z:Type}(l seen:List Z)(i:Nat):Prop:=l=seen++l.drop i
theorem Ok{Z:Type}{l seen:List Z}{i:Nat}(h:i<l.length)(e:th l seen i):th l (seen++[l[i]]) (i+1):=by
 unfold th at *;rw[i8,FU,<-fS h];exact e
theorem zAo(ρ:Nat->Int)(p:Pr)(hz:p.sz<2^36):bM Tryz.prog ρ 60 [.agg p.cells] (.bool (kI p)):=zmy fit (pls:=pls) (l:=[rM]) ⟨Hr ρ,trivial⟩ (.cons (.agg p.pure) .nil) (.bool _) (by
 have hw:Plain (zkY pls [rM]) 60:=zml (fun _=>rfl) rfl;have I:(zkY pls [rM]).keep 60=false:=rfl;have hpz:p.sz=1+zmL p.arrays+zmv p.funcs:=rfl;have hla:=znR p.arrays;have hlf:=znQ p.funcs;have hal:(zlj p).length=p.arrays.length:=uw;refine zlf (M:=85) (rs:=[.tmp 2]) (hw.call _) hw.ice hw.froz Tryz.func60 rfl rfl Oj.2 rfl ?_;dsimp only[Oj,zD,Nat.reduceAdd];repeat' (first
  |(apply ah ?_;clear hK K)|apply Rx.o ?_|apply ak ?_|(apply zkU fun K hK=>?_)|apply aG ?_|fail)
 refine zlL [1] [0] 5 p.arrays.length (fun i E H=>E.at 4=.nilS/\∃v seen,E.at 3=v/\eB H v seen 1/\zlP [] (zlj p)=zlP seen ((zlj p).drop i)/\th (zlj p) seen i) eE ⟨eE,.nilS,[],eE,.inl ⟨rfl,rfl⟩,ax,by simp[th]⟩ ?_;rintro i E H2 hi hcE hrH hnH hsI ⟨k4,v,seen,k3,s2,hJ,hsn⟩;(try simp only[zlm,zlb,aR,zk1,zk7,Nat.reduceBEq, *]at hcE);(try simp only[zlm,zlb,aR,zk1,zk7, *]at hrH);(try simp only[zk9,zlI,bL]at hnH);have hB0:(0 == H2.next)=false:=zkV ac;have hC0:(H2.next == 0)=false:=zkV ac;have hsl:seen.length<=p.arrays.length:=by have:zlj p=seen++(zlj p).drop i:=hsn;have:=jm List.length this;rw[fj]at this;omega
 repeat' (first
  |(apply ah ?_;clear hK K)|apply Rx.o ?_|(apply a0 (fun C Z=>?_) (fun C Z=>?_)<;>try(cases C;done))|apply ak ?_|(apply zkU fun K hK=>?_)|apply aG ?_|apply zk3 ?_|apply zlu ?_)
 .have hlt:i<p.arrays.length:=by simpa using C
  have hgx:p.arrays[i]?=some p.arrays[i]:=aT hlt;have hgn:(zlj p)[i]' ac=p.arrays[i].name:=uw;have hdr:zlP seen ((zlj p).drop i)=(zlo seen p.arrays[i].name||zlP (seen++[p.arrays[i].name]) ((zlj p).drop (i+1))):=by rw[fS ac,hgn];rfl
  have hsn2:=Ok ac hsn;rw[hgn]at hsn2;repeat' (first
   |apply Rx.o ?_|fail)
  refine aZ rfl bc bi ?_;simp only[bj];refine aS ?_ (Ht (fun _=>rfl) rfl s2 ac p.arrays[i].name);rintro w H3 ⟨rfl,s3,n3,f3,o3⟩;have m3:H2.next<=H3.next:=ac
  clear n3;dsimp only[zk6];have g30:H3.get 0=some (.cells p.cells 0 true):=by rw[f3 0 ac];exact hrH
  have e1:(0 == H3.next)=false:=b9;have s4:eB (H3.alloc (.cells [.str p.arrays[i].name] 0 true)) v seen 1:=s3.keep (dQ _) fun k o=>by rw[zkZ,af (by have:=s3.lt o;omega)]
  repeat' (first
   |(apply ah ?_;clear hK K)|apply Rx.o ?_|(apply a0 (fun C Z=>?_) (fun C Z=>?_)<;>try(cases C;done))|apply ak ?_|(apply zkU fun K hK=>?_)|apply zk3 ?_|apply aF ?_|fail)
  .all_goals (refine⟨eI,_,eR,?_⟩;try simp only[zkX])
   rw[kI,hJ,hdr];(try simp only[dI]at *);simp only[*,nN,]
  .obtain⟨v5,H5,a5,s5,n5,f5,o5⟩:=xu (r:=H3.next) (imm:=0) p.arrays[i].name s4 cL gH ac;have g50:H5.get 0=some (.cells p.cells 0 true):=by rw[f5 0 ac,zkZ,af ac];exact g30
   simp only[zk9]at n5;have m5:H3.next+1<=H5.next:=ac
   clear n5;refine jv eV eV CT ?_;repeat' (first
    |(apply ah ?_;clear hK K)|apply Rx.o ?_|(apply zkU fun K hK=>?_)|fail)
   refine⟨ac,zk8,zk8,zlF,vT,?_⟩;exact⟨eE,v5,seen++[p.arrays[i].name],eE,.inr s5,by rw[hJ,hdr];(try simp only[dI]at *);simp only[*,gm,],hsn2⟩
 .have hie:i=(zlj p).length:=by simp at C;omega
  unfold th at hsn;rw[hie,gT]at hJ hsn;rw[bj]at hsn;have hJ':zlP [] (zlj p)=false:=hJ;rw[<-hsn]at s2;clear hJ hie hsI hi hsl hsn;clear seen;have c3:∀k,zlk v k->k<H2.next:=fun k o=>(s2.lt o).2
  refine zlL [1,3] [0] 6 p.funcs.length (fun i E H=>∃u seen,E.at 4=u/\eB H u seen H2.next/\eB H v (zlj p) 1/\oc (zlj p) [] p.funcs=oc (zlj p) seen (p.funcs.drop i)/\seen.length=i) eE ⟨.nilS,[],eE,.inl ⟨rfl,rfl⟩,s2,ax,rfl⟩ ?_;rintro i E H4 hi hcE hrH hnH hsI ⟨u,seen,k4',s4,t4,hJ2,hsl⟩;(try simp only[zlm,zlb,aR,zk1,Nat.reduceBEq, *]at hcE);(try simp only[zlm,zlb,aR, *]at hrH);(try simp only[zk9,zli,zlI,bL,Nat.reduceAdd]at hnH);have hB0:(0 == H4.next)=false:=zkV ac;have hC0:(H4.next == 0)=false:=zkV ac;repeat' (first
   |(apply ah ?_;clear hK K)|apply Rx.o ?_|(apply a0 (fun C Z=>?_) (fun C Z=>?_)<;>try(cases C;done))|apply ak ?_|(apply zkU fun K hK=>?_)|apply aG ?_|apply zk3 ?_|apply aF ?_|apply zlu ?_)
  .have hlt:i<p.funcs.length:=by simpa using C
   have hgx:p.funcs[i]?=some p.funcs[i]:=aT hlt;have hsm:=pV (cR hlt);have hsz:p.funcs[i].sz=1+p.funcs[i].name.length+zmd p.funcs[i].params+zmd p.funcs[i].locals+zld p.funcs[i].body+p.funcs[i].value.sz:=rfl;have hdr:oc (zlj p) seen (p.funcs.drop i)=(zlo seen p.funcs[i].name||zlP (zlj p) (p.funcs[i].params++p.funcs[i].locals)||oc (zlj p) (seen++[p.funcs[i].name]) (p.funcs.drop (i+1))):=by rw[fS hlt];rfl
   repeat' (first
    |(apply ah ?_;clear hK K)|apply Rx.o ?_|apply bS ?_|apply ak ?_|(apply zkU fun K hK=>?_)|fail)
   generalize hHb:Hp.set (Hp.alloc H4 _) H4.next _=Hb
   have nb:H4.next<Hb.next:=by rw[<-hHb];exact cE _
   have oldb:∀k,k<H4.next->Hb.get k=H4.get k:=fun k o=>by rw[<-hHb,aJ,af ac,zkZ,af ac]
   have gb:Hb.get H4.next=some (.cells p.funcs[i].cells 0 true):=HM
   have gb0:Hb.get 0=some (.cells p.cells 0 true):=by rw[oldb 0 ac];exact hrH
   have s4b:eB Hb u seen H2.next:=s4.keep ac fun k o=>oldb k (s4.lt o).2
   have t4b:eB Hb v (zlj p) 1:=t4.keep ac fun k o=>oldb k (t4.lt o).2;have nou:¬zlk u H4.next:=fun h=>by have:=(s4.lt h).2;omega
   clear hHb;refine aZ rfl bc bi ?_;simp only[bj];refine aS ?_ (Ht (fun _=>rfl) rfl s4b ac p.funcs[i].name);rintro w H5 ⟨rfl,s5,n5,f5,o5⟩;have m5:Hb.next<=H5.next:=ac
   clear n5;dsimp only[zk6];have g5:H5.get H4.next=some (.cells p.funcs[i].cells 0 true):=by rw[o5 _ nou];exact gb
   have g50:H5.get 0=some (.cells p.cells 0 true):=by rw[f5 0 ac];exact gb0
   have t5:eB H5 v (zlj p) 1:=t4b.keep ac fun k o=>f5 k (c3 k o);have e5:(H4.next == H5.next)=false:=b9;repeat' (first
    |(apply ah ?_;clear hK K)|apply Rx.o ?_|(apply a0 (fun C Z=>?_) (fun C Z=>?_)<;>try(cases C;done))|apply ak ?_|(apply zkU fun K hK=>?_)|apply zk3 ?_|apply aF ?_|fail)
   .all_goals (refine⟨eI,_,eR,?_⟩;try simp only[zkX])
    rw[kI,hJ',hJ2,hdr];(try simp only[dI]at *);simp only[ *,p7,]
   have old5:∀k,k<H5.next->(H5.alloc (.cells [.str p.funcs[i].name] 0 true)).get k=H5.get k:=fun k o=>gk
   have s5b:eB (H5.alloc (.cells [.str p.funcs[i].name] 0 true)) u seen H2.next:=s5.keep (dQ _) fun k o=>old5 k (s5.lt o).2
   obtain⟨u6,H6,a6,s6,n6,f6,o6⟩:=xu (r:=H5.next) (imm:=0) p.funcs[i].name s5b cL gH ac;simp only[zk9]at n6;have m6:H5.next+2<=H6.next:=ac
   clear n6;have g6:H6.get H4.next=some (.cells p.funcs[i].cells 0 true):=by rw[o6.1 _ cL nou,old5 _ ac];exact g5
   have g60:H6.get 0=some (.cells p.cells 0 true):=by rw[f6 0 ac,old5 _ ac];exact g50
   have t6:eB H6 v (zlj p) 1:=t5.keep ac fun k o=>by rw[f6 k (c3 k o),old5 _ (t5.lt o).2]
   refine jv eV eV (by rw[I];exact a6) ?_;repeat' (first
    |(apply ah ?_;clear hK K)|apply Rx.o ?_|apply ak ?_|(apply zkU fun K hK=>?_)|fail)
   have m:∀k,k<H6.next->(H6.alloc (.cells [] 0 true)).get k=H6.get k:=fun k o=>gk
   have s7:dV (H6.alloc (.cells [] 0 true)) (.sl H6.next 0 0 1) [] H6.next:=⟨H6.next,0,rfl,iT,ax,aB _,cE _⟩
   have t7:eB (H6.alloc (.cells [] 0 true)) v (zlj p) 1:=t6.keep (dQ _) fun k o=>m k (t6.lt o).2;obtain⟨w8,O,a8,s8,n8,f8,o8⟩:=zzL s7 (dQ _) t7 b9;simp only[zk9]at n8;have g8:O.get H4.next=some (.cells p.funcs[i].cells 0 true):=by rw[f8 _ ac,m _ ac];exact g6
   have g80:O.get 0=some (.cells p.cells 0 true):=by rw[f8 0 ac,m _ ac];exact g60
   have t8:eB O v (zlj p) 1:=t6.keep ac fun k o=>by rw[f8 k (by have:=(t6.lt o).2;omega),m _ (t6.lt o).2]
   have u8:dV O u6 (seen++[p.funcs[i].name]) H2.next:=s6.keep ac fun k o=>by rw[f8 k (s6.lt o).2,m _ (s6.lt o).2]
   refine jv eV eV (by rw[I];exact a8) ?_;have e8:(H4.next == O.next)=false:=b9;repeat' (first
    |(apply ah ?_;clear hK K)|apply Rx.o ?_|apply ak ?_|(apply zmm 16 [(0,3),(2,3),(5,3),(5,6)] fun K hK=>?_)|(apply zlC ?_;try intro _)|apply bZ ?_|fail)
   have old8:∀k,k<O.next->(O.alloc (.cells [] 0 true)).get k=O.get k:=fun k o=>gk
   have s9:dV (O.alloc (.cells [] 0 true)) (.sl O.next 0 0 1) [] O.next:=⟨O.next,0,rfl,iT,ax,aB _,cE _⟩
   have g9a:(O.alloc (.cells [] 0 true)).get H4.next=some (.cells p.funcs[i].cells 0 true):=by rw[old8 _ ac];exact g8
   have g9b:(O.alloc (.cells [] 0 true)).get O.next=some (.cells [] 0 true):=gH
   have hpl:=zno p.funcs[i].params;have hll:=zno p.funcs[i].locals;obtain⟨w9,H9,a9,s10,n9,f9,_⟩:=xt p.funcs[i].params s9 (dQ _) b9;simp only[zk9]at n9;have g9:H9.get H4.next=some (.cells p.funcs[i].cells 0 true):=by rw[f9 _ ac];exact g9a
   refine jv eV eV (by rw[I];exact a9) ?_;repeat' (first
    |apply Rx.o ?_|(apply zlC ?_;try intro _)|apply bZ ?_|fail)
   obtain⟨w11,H11,a11,s11,n11,f11,_⟩:=xt p.funcs[i].locals s10 ac b9;have g11:H11.get H4.next=some (.cells p.funcs[i].cells 0 true):=by rw[f11 _ ac];exact g9
   refine jv eV eV (by rw[I];exact a11) ?_;repeat' (first
    |(apply ah ?_;clear hK K)|apply Rx.o ?_|apply ak ?_|(apply zkU fun K hK=>?_)|(apply zlC ?_;try intro _)|(apply zmk ?_ ?_<;>clear hK K)|apply bZ ?_|apply aG ?_|fail)
   .exact zlU
   .have J:∀k,k<O.next->H11.get k=O.get k:=fun k o=>by rw[f11 k o,f9 k o,old8 k o]
    have g110:H11.get 0=some (.cells p.cells 0 true):=by rw[J 0 ac];exact g80
    have u11:dV H11 u6 (seen++[p.funcs[i].name]) H2.next:=u8.keep ac fun k o=>J k (u8.lt o).2
    have v11:eB H11 v (zlj p) 1:=t8.keep ac fun k o=>J k (t8.lt o).2;have q11:dV H11 w8 (zlj p) H6.next:=s8.keep ac fun k o=>J k (s8.lt o).2
    have c8:∀k,zlk w8 k->k<O.next:=fun k o=>(s8.lt o).2
    have cu:∀k,zlk u6 k->k<H6.next:=fun k o=>(s6.lt o).2
    have s11':dV H11 w11 (p.funcs[i].params++p.funcs[i].locals) O.next:=s11
    have hfl:(p.funcs[i].params++p.funcs[i].locals).length<2^38:=b9;have m11:O.next+1<=H11.next:=ac
    have m8:H6.next+1<=O.next:=ac
    clear s11 a11 f11 a9 f9 s10 s9 a8 f8 s8 a6 f6 s6 n9 n11 o8 o6 s7 t7 old8 m old5 s5b t8 u8 t6 t5 g9 g9a g9b g8 g6 g5 e8 e5;generalize p.funcs[i].params++p.funcs[i].locals=z at *;have hln:=fun H'=>s11'.len (H':=H');refine zlL [1,3,4,6,7,9] [0] 10 z.length (fun j E H=>∃w Y,E.at 8=w/\dV H w Y H6.next/\(∀k,zlk w k->¬zlk w11 k)/\dV H w11 z O.next/\eB H v (zlj p) 1/\dV H u6 (seen++[p.funcs[i].name]) H2.next/\zlP (zlj p) z=zlP Y (z.drop j)/\Y.length=(zlj p).length+j) eE ⟨w8,zlj p,eE,q11,fun k h1 h2=>by have:=c8 k h1;have:=(s11'.lt h2).1;omega,s11',v11,u11,ax,rfl⟩ ?_;rintro j E3 H12 hj hcE hrH hnH hsI ⟨w,Y,k8,q12,hno,r12,v12,u12,hJ3,hsl2⟩;(try simp only[zlm,zlb,aR,zk1,zk7,Nat.reduceBEq, *]at hcE);(try simp only[zlm,zlb,aR, *]at hrH);(try simp only[zk9,zli,zlI,bL,Nat.reduceAdd]at hnH);have hB0:(0 == H12.next)=false:=zkV ac;have hC0:(H12.next == 0)=false:=zkV ac;repeat' (first
     |(apply ah ?_;clear hK K)|apply Rx.o ?_|(apply a0 (fun C Z=>?_) (fun C Z=>?_)<;>try(cases C;done))|apply ak ?_|(apply zkU fun K hK=>?_)|apply aG ?_|apply zk3 ?_|apply zlu ?_)
    .have hlt2:j<z.length:=by simpa using C
     obtain⟨q,ia,ld⟩:=r12.at hlt2;have hdr2:zlP Y (z.drop j)=(zlo Y z[j]||zlP (Y++[z[j]]) (z.drop (j+1))):=by rw[fS hlt2];rfl
     repeat' (first
      |apply Rx.o ?_|fail)
     refine aZ rfl bc bi ?_;simp only[bj];refine aS ?_ (Ht (fun _=>rfl) rfl (.inr q12) ac z[j]);rintro w0 V ⟨rfl,s13,n13,f13,o13⟩;have m13:H12.next<=V.next:=ac
     clear n13;dsimp only[zk6];have g130:V.get 0=some (.cells p.cells 0 true):=by rw[f13 0 ac];exact hrH
     have r13:dV V w11 z O.next:=r12.keep m13 fun k o=>o13 k fun h=>hno k h o
     have v13:eB V v (zlj p) 1:=v12.keep m13 fun k o=>f13 k Ij;have u13:dV V u6 (seen++[p.funcs[i].name]) H2.next:=u12.keep m13 fun k o=>f13 k (cu k o)
     clear ia ld;obtain⟨q2,ia2,ld2⟩:=r13.at hlt2;repeat' (first
      |(apply ah ?_;clear hK K)|apply Rx.o ?_|(apply a0 (fun C Z=>?_) (fun C Z=>?_)<;>try(cases C;done))|apply ak ?_|(apply zkU fun K hK=>?_)|apply zk3 ?_|apply aF ?_|fail)
     .all_goals (refine⟨eI,_,eR,?_⟩;try simp only[zkX])
      rw[kI,hJ',hJ2,hdr,hJ3,hdr2];(try simp only[dI]at *);simp only[ *,p7,]
     have U:∀k,k<V.next->(V.alloc (.cells [.str z[j]] 0 true)).get k=V.get k:=fun k o=>gk
     have s13b:eB (V.alloc (.cells [.str z[j]] 0 true)) w Y H6.next:=s13.keep (dQ _) fun k o=>U k (s13.lt o).2
     obtain⟨w14,H14,a14,s14,n14,f14,o14⟩:=xu (r:=V.next) (imm:=0) z[j] s13b cL gH ac;simp only[zk9]at n14;have m14:V.next+2<=H14.next:=ac
     clear n14;have g140:H14.get 0=some (.cells p.cells 0 true):=by rw[f14 0 ac,U _ ac];exact g130
     refine jv eV eV (by rw[I];exact a14) ?_;repeat' (first
      |(apply ah ?_;clear hK K)|apply Rx.o ?_|(apply zkU fun K hK=>?_)|fail)
     refine⟨ac,zk8,zk8,zlF,(by simp only[zk1,Nat.reduceBEq, *];exact zni (n:=z.length) ac ac),?_⟩;refine⟨w14,Y++[z[j]],eE,s14,fun k h1 h2=>?_,?_,?_,?_,by rw[hJ3,hdr2];(try simp only[dI]at *);simp only[*,gm,],by simp[hsl2];omega⟩
     .have o:=(r13.lt h2).2;rcases o14.2 k h1 with h3|h3
      .exact hno k h3 h2
      .simp only[zk9]at h3;omega
     .refine r13.keep ac fun k o=>?_;have hl:=(r13.lt o).2;rw[o14.1 k cL (fun h=>hno k h o),U k hl]
     .exact v13.keep ac fun k o=>by rw[f14 k Ij,U k (v13.lt o).2]
     .exact u13.keep ac fun k o=>by rw[f14 k (cu k o),U k (u13.lt o).2]
    .have hje:j=z.length:=by simp at C;omega
     rw[hje,gT]at hJ3;have hJ3':zlP (zlj p) z=false:=hJ3;refine⟨ac,zk8,zk8,zlF,oX,?_⟩;exact⟨u6,seen++[p.funcs[i].name],eE,.inr u12,v12,by rw[hJ2,hdr,hJ3'];(try simp only[dI]at *);simp only[*,gm,iu,],by simp[hsl]⟩
  .all_goals (refine⟨eI,_,eR,?_⟩;try simp only[zkX])
   have hie:i=p.funcs.length:=tc;rw[hie,gT]at hJ2;have hJ2':oc (zlj p) [] p.funcs=false:=hJ2;rw[kI,hJ',hJ2'];rfl)
end
section
def tyR3h.tyF:=ad @ec (ad @cJ (ad @dd (ad @fI (ad @fx (ad @en (ad @zms (ad @GO (ad @gY (ad @iQ (ad @em (@eY)))))))))))
open tyR3h
noncomputable def Ol:{c:SC // aC 43 (Tryz.f62.body.getD .skip)=c}:=by
 refine⟨?_,?_⟩;rotate_left
 .simp only[Tryz.f62,bI,aC,zll,zle,zlp,zln,Nat.blt,Nat.ble];rfl
noncomputable def Om:{c:SC // aC 64 (Tryz.f109.body.getD .skip)=c}:=by
 refine⟨?_,?_⟩;rotate_left
 .simp only[Tryz.f109,bI,aC,zll,zle,zlp,zln,Nat.blt,Nat.ble];rfl
structure Sc where
 vars:List (List UInt8)
 arrays:Option (List (List UInt8))
 p:Pr
def Sc.an(x:Sc):List (List UInt8):=x.arrays.getD []
def rR:Option (List (List UInt8))->AV
 |none=>.nilS
 |some l=>zlY l
def Sc.cells(x:Sc):List AV:=[zlY x.vars,rR x.arrays,.lst (x.p.arrays.map Ar.cells),.lst (x.p.funcs.map Fu.cells)]
def Sc.ok(x:Sc):Prop:=x.vars.length<2^60/\x.an.length<2^60/\x.p.sz<2^60
theorem Sc.c0(x:Sc):x.cells[0]?=some (zlY x.vars):=rfl
theorem Sc.c1(x:Sc):x.cells[1]?=some (rR x.arrays):=rfl
theorem Sc.whole(x:Sc):zlT 4 x.cells=some (.agg x.cells):=rfl
def Ae:=@Sc.whole
theorem On(x:Sc):zlT 2 (x.cells.drop 2)=some (.agg x.p.cells):=rfl
theorem ztu(a:Option (List (List UInt8))):fJ (rR a):=by
 cases a with
 |none=>exact .nilS
 |some l=>exact ug l
theorem Sc.pure(x:Sc):gw x.cells:=.cons (ug _) (.cons (ztu _) x.p.pure)
theorem zvW{a b:Option (List (List UInt8))}(h:rR a=rR b):a=b:=by
 cases a<;>cases b<;>simp only[rR,reduceCtorEq,AV.lst.injEq]at h
 .rfl
 .rw[vJ h]
theorem Sc.inj{x y:Sc}(h:x.cells=y.cells):x=y:=by
 obtain⟨v,a,p⟩:=x;obtain⟨o,Z,J⟩:=y;simp only[Sc.cells,ea,AV.lst.injEq,aR]at h;obtain⟨m,j,z,Y⟩:=h;rw[vJ m,zvW j,Pr.inj (x:=p) (y:=J) (by simp[Pr.cells,z,Y])]
section
variable (vs an:List (List UInt8))
def iW(x:Ex):Bool:=(!decide (x.kind=2)||zlo vs x.name)&&(!decide (x.kind=3)||zlo an x.name)
mutual
def d8:Ex->Bool
 | .mk k n s o M=>zmD M&&iW vs an (.mk k n s o M)
def zmD:List Ex->Bool
 |[]=>true
 |e::es=>d8 e&&zmD es
end
theorem Af(x:Ex):d8 vs an x=(zmD vs an x.kids&&iW vs an x):=by cases x;rw[d8];rfl
end
def qi(x:Sc×Ex):List AV:=[.agg x.1.cells,.agg x.2.cells]
theorem Ds(x y:Sc×Ex)(h:qi x=qi y):x=y:=by
 simp only[qi,ea,AV.agg.injEq,aR]at h;exact qV (Sc.inj h.1) (Ex.inj h.2)
theorem Dt{l:List En}(Z:∀M,zme l 107 M=rM.sp M)(a:Option (List (List UInt8)))(O:(a.getD []).length<2^60)(s:List UInt8)(H:Hp):
 zk5 Tryz.prog (zkY pls l) 107 [rR a,.str s] H fun v H'=>v=.bool (zlo (a.getD []) s)/\H'=H:=by
 have:=zlM (P:=Tryz.prog) (pls:=pls) (l:=l) (enc:=sX) (ok:=fun x=>(x.1.getD []).length<2^60) (out:=fun x=>.bool (zlo (x.1.getD []) x.2)) Ho (g:=107) (x:=(a,s)) (Z _) O (H:=H);cases a<;>exact this
theorem zvX(ρ:Nat->Int):∀x:Sc×Ex,(x.1.ok/\x.2.sz<2^60)->bM Tryz.prog ρ 62 (qi x) (.bool (d8 x.1.vars x.1.an x.2)):=
 vI fit (pls:=pls) (l:=[rM]) ⟨Hr ρ,trivial⟩ (fun x=>x.2.sz) (ok:=fun x=>x.1.ok/\x.2.sz<2^60) (enc:=qi) (out:=fun x=>.bool (d8 x.1.vars x.1.an x.2)) (fun x _=>.cons (.agg x.1.pure) (.cons (.agg x.2.pure) .nil)) (fun x _=>.bool _) (fun x hx=>by
 have Y:=sW (sz:=fun x:Sc×Ex=>x.2.sz) (ok:=fun x=>x.1.ok/\x.2.sz<2^60) (out:=fun x=>.bool (d8 x.1.vars x.1.an x.2)) Ds (f:=62) (l:=[rM]) x;generalize m:(⟨62,false,b7 (fun y=>(y.1.ok/\y.2.sz<2^60)/\y.2.sz<x.2.sz) qi fun x=>.bool (d8 x.1.vars x.1.an x.2)⟩:En)::[rM]=l at Y⊢;obtain⟨c,x⟩:=x;obtain⟨hc,hx⟩:=hx;simp only[]at hx hc;have kr:∀y:Ex,y.sz<x.sz->∀H,zk5 Tryz.prog (zkY pls l) 62 [.agg c.cells,.agg y.cells] H fun v H'=>v=.bool (d8 c.vars c.an y)/\H'=H:=fun y h2 H=>by
  subst m;exact zlM (enc:=qi) (out:=fun x=>.bool (d8 x.1.vars x.1.an x.2)) Ds (x:=(c,y)) rfl ⟨⟨hc,ux⟩,h2⟩
 have kv:∀s H,zk5 Tryz.prog (zkY pls l) 107 [zlY c.vars,.str s] H fun v H'=>v=.bool (zlo c.vars s)/\H'=H:=fun s H=>by
  subst m;exact Dt (fun _=>rfl) (some c.vars) hc.1 s H
 have ka:∀s H,zk5 Tryz.prog (zkY pls l) 107 [rR c.arrays,.str s] H fun v H'=>v=.bool (zlo c.an s)/\H'=H:=fun s H=>by
  subst m;exact Dt (fun _=>rfl) c.arrays hc.2.1 s H
 have hsz:=x.sz_eq;have hlen:=znJ x.kids;change zk5 _ _ _ [.agg c.cells,.agg x.cells] _ _;refine zlf (M:=43) (rs:=[.tmp 4]) Y.call Y.ice Y.froz Tryz.func62 rfl rfl Ol.2 rfl ?_;dsimp only[Ol,zD,Nat.reduceAdd];repeat' (first
  |(apply ah ?_;clear hK K)|apply Rx.o ?_|apply ak ?_|(apply zkU fun K hK=>?_)|apply aG ?_|fail)
 refine zlL [2,3] [0,1] 5 x.kids.length (fun i E H=>zmD c.vars c.an x.kids=zmD c.vars c.an (x.kids.drop i)) eE ax ?_;rintro i E I hi U J o hsI z;(try simp only[zlm,zlb,aR,zk1,zk7,Nat.reduceBEq, *]at U);(try simp only[zlm,zlb,aR,zk1,zk7,Nat.reduceBEq, *]at J);(try simp only[zk9,zlI,bL,Nat.reduceAdd]at o);have hB0:(0 == I.next)=false:=zkV ac;have hC0:(I.next == 0)=false:=zkV ac;have hB1:(1 == I.next)=false:=zkV ac;have hC1:(I.next == 1)=false:=zkV ac;have gh0:=@Sc.c0;have gh1:=@Sc.c1;have gh2:=@Ae;repeat' (first
  |(apply ah ?_;clear hK K)|apply Rx.o ?_|(apply eM ?_;first|refine zlc (kv _ _) ?_|refine zlc (ka _ _) ?_)|apply qP ?_|(apply cz (fun hg V=>?_) (fun hg V=>?_)<;>try(cases hg;done))|(apply a0 (fun Z j=>?_) (fun Z j=>?_)<;>try(cases Z;done))|apply ak ?_|(apply zkU fun K hK=>?_)|(apply zmm 4 [(0,6),(2,6),(5,6)] fun K hK=>?_)|(apply zlC ?_;try intro _)|apply bZ ?_|apply aG ?_|apply zk3 ?_|apply aF ?_|apply zlu ?_)
 .have C:i<x.kids.length:=by simpa using Z
  have hgx:x.kids[i]?=some x.kids[i]:=aT C;have hm:=znK (cR C);have O:zmD c.vars c.an (x.kids.drop i)=(d8 c.vars c.an x.kids[i]&&zmD c.vars c.an (x.kids.drop (i+1))):=sV;have gh0:=@Ae;repeat' (first
   |(apply ah ?_;clear hK K)|apply Rx.o ?_|(apply eM ?_;first|refine zlc (kr _ ac _) ?_)|(apply a0 (fun Z j=>?_) (fun Z j=>?_)<;>try(cases Z;done))|apply ak ?_|(apply zkU fun K hK=>?_)|(apply zlC ?_;try intro _)|(apply zmk ?_ ?_<;>clear hK K)|apply bZ ?_|apply zk3 ?_|apply aF ?_|fail)
  .exact zlU
  all_goals (first|(refine⟨eI,_,eR,?_⟩;(try simp only[zkX]);rw[Af,z,O];(try simp only[nM]at *);simp only[*,gy,];done)|skip)
  refine⟨ac,zk8,zk8,zlF,Hf,?_⟩;rw[z,O];(try simp only[iU]at *);simp only[*,fq,]
 all_goals
  have hie:i=x.kids.length:=ac;rw[hie,gT]at z;have hJ':zmD c.vars c.an x.kids=true:=z;clear z;all_goals (refine⟨eI,_,eR,?_⟩;try simp only[zkX])
  rw[Af,hJ',iW];(try simp only[dI]at *);simp only[ *,gm,iu,p7,jO,kZ,lC,ir,])
def jP(c:Sc)(x:St):Bool:=
 if x.kind=1 then zlo c.vars x.name
 else if x.kind=6 then zlo c.vars x.name&&decide (0<=zl2 c.p.funcs x.to 0)
 else if x.kind=2 then zlo c.an x.name
 else true
def jQ(c:Sc)(x:St):Bool:=zmD c.vars c.an x.args&&d8 c.vars c.an x.at_&&d8 c.vars c.an x.value&&jP c x
def Ag(x:Sc×St):List AV:=[.agg x.1.cells,.agg x.2.cells]
theorem zAq(x y:Sc×St)(h:Ag x=Ag y):x=y:=by
 simp only[Ag,ea,AV.agg.injEq,aR]at h;exact qV (Sc.inj h.1) (St.inj h.2)
noncomputable def Iq:En:=⟨62,true,b7 (fun x=>x.1.ok/\x.2.sz<2^60) qi fun x=>.bool (d8 x.1.vars x.1.an x.2)⟩
theorem Oo(ρ:Nat->Int):zl0 Tryz.prog ρ Iq:=zl7 fun x hx=>zvX ρ x hx
def xL(x:Pr×List UInt8):List AV:=[.agg x.1.cells,.str x.2]
theorem Oq(x y:Pr×List UInt8)(h:xL x=xL y):x=y:=by
 simp only[xL,ea,AV.agg.injEq,AV.str.injEq,aR]at h;exact qV (Pr.inj h.1) h.2
noncomputable def Ir:En:=⟨108,false,b7 (fun x=>x.1.funcs.length<2^60) xL fun x=>.int .i64 (zl2 x.1.funcs x.2 0)⟩
theorem Ot(ρ:Nat->Int):zl0 Tryz.prog ρ Ir:=zl7 fun x hx=>zvn ρ x.1 x.2 hx
noncomputable def xM:List En:=[rM,Ir,Iq]
theorem zAr(ρ:Nat->Int):fK Tryz.prog ρ xM:=⟨Hr ρ,Ot ρ,Oo ρ,trivial⟩
theorem ztv(ρ:Nat->Int)(c:Sc)(x:St)(Y:c.ok)(hx:x.sz<2^60):bM Tryz.prog ρ 109 [.agg c.cells,.agg x.cells] (.bool (jQ c x)):=zmy fit (pls:=pls) (zAr ρ) (.cons (.agg c.pure) (.cons (.agg x.pure) .nil)) (.bool _) (by
 have m:Plain (zkY pls xM) 109:=zml (fun _=>rfl) rfl;have kr:∀y:Ex,y.sz<2^60->∀H,zk5 Tryz.prog (zkY pls xM) 62 [.agg c.cells,.agg y.cells] H fun v H'=>v=.bool (d8 c.vars c.an y)/\H'=H:=fun y h2 H=>zlM (enc:=qi) (out:=fun x=>.bool (d8 x.1.vars x.1.an x.2)) Ds (x:=(c,y)) rfl ⟨Y,h2⟩;have kv:∀s H,zk5 Tryz.prog (zkY pls xM) 107 [zlY c.vars,.str s] H fun v H'=>v=.bool (zlo c.vars s)/\H'=H:=fun s H=>Dt (fun _=>rfl) (some c.vars) Y.1 s H;have ka:∀s H,zk5 Tryz.prog (zkY pls xM) 107 [rR c.arrays,.str s] H fun v H'=>v=.bool (zlo c.an s)/\H'=H:=fun s H=>Dt (fun _=>rfl) c.arrays Y.2.1 s H;have hpf:c.p.funcs.length<2^60:=by have h:=Y.2.2;have h2:c.p.sz=1+zmL c.p.arrays+zmv c.p.funcs:=rfl;have:=znQ c.p.funcs;omega
 have kf:∀s H,zk5 Tryz.prog (zkY pls xM) 108 [.agg c.p.cells,.str s] H fun v H'=>v=.int .i64 (zl2 c.p.funcs s 0)/\H'=H:=fun s H=>zlM (enc:=xL) (out:=fun x=>.int .i64 (zl2 x.1.funcs x.2 0)) Oq (x:=(c.p,s)) rfl hpf;have hsz:=x.sz_eq;have hlen:=znJ x.args;refine zlf (M:=64) (rs:=[.tmp 4]) (m.call _) m.ice m.froz Tryz.func109 rfl rfl Om.2 rfl ?_;dsimp only[Om,zD,Nat.reduceAdd];repeat' (first
  |(apply ah ?_;clear hK K)|apply Rx.o ?_|apply ak ?_|(apply zkU fun K hK=>?_)|apply aG ?_|fail)
 refine zlL [2,3] [0,1] 5 x.args.length (fun i E H=>zmD c.vars c.an x.args=zmD c.vars c.an (x.args.drop i)) eE ax ?_;rintro i E I hi U J o hsI z;(try simp only[zlm,zlb,aR,zk1,zk7,Nat.reduceBEq, *]at U);(try simp only[zlm,zlb,aR,zk1,zk7,Nat.reduceBEq, *]at J);(try simp only[zk9,zlI,bL,Nat.reduceAdd]at o);have hB0:(0 == I.next)=false:=zkV ac;have hC0:(I.next == 0)=false:=zkV ac;have hB1:(1 == I.next)=false:=zkV ac;have hC1:(I.next == 1)=false:=zkV ac;have gh0:=@Sc.c0;have gh1:=@Sc.c1;have gh2:=@Ae;have gh3:=@On;repeat' (first
  |(apply ah ?_;clear hK K)|apply Rx.o ?_|(apply eM ?_;first|refine zlc (kr _ ac _) ?_|refine zlc (kf _ _) ?_|refine zlc (kv _ _) ?_|refine zlc (ka _ _) ?_)|(apply cz (fun hg V=>?_) (fun hg V=>?_)<;>try(cases hg;done))|(apply a0 (fun Z j=>?_) (fun Z j=>?_)<;>try(cases Z;done))|apply ak ?_|(apply zkU fun K hK=>?_)|(apply zmm 4 [(0,6),(2,6),(5,6)] fun K hK=>?_)|(apply zlC ?_;try intro _)|apply bZ ?_|apply aG ?_|apply zk3 ?_|apply aF ?_|apply zlu ?_)
 .have C:i<x.args.length:=by simpa using Z
  have hgx:x.args[i]?=some x.args[i]:=aT C;have hm:=znK (cR C);have O:zmD c.vars c.an (x.args.drop i)=(d8 c.vars c.an x.args[i]&&zmD c.vars c.an (x.args.drop (i+1))):=sV;have gh0:=@Ae;repeat' (first
   |(apply ah ?_;clear hK K)|apply Rx.o ?_|(apply eM ?_;first|refine zlc (kr _ ac _) ?_)|(apply a0 (fun Z j=>?_) (fun Z j=>?_)<;>try(cases Z;done))|apply ak ?_|(apply zkU fun K hK=>?_)|(apply zlC ?_;try intro _)|(apply zmk ?_ ?_<;>clear hK K)|apply bZ ?_|apply zk3 ?_|apply aF ?_|fail)
  .exact zlU
  all_goals (first|(refine⟨eI,_,eR,?_⟩;(try simp only[zkX]);rw[jQ,z,O];(try simp only[nM]at *);simp only[*,gy,];done)|skip)
  refine⟨ac,zk8,zk8,zlF,Dk,?_⟩;rw[z,O];(try simp only[iU]at *);simp only[*,fq,]
 all_goals
  have hie:i=x.args.length:=ac;rw[hie,gT]at z;have hJ':zmD c.vars c.an x.args=true:=z;clear z;all_goals (refine⟨eI,_,eR,?_⟩;try simp only[zkX])
  rw[jQ,hJ',jP];(try simp only[dI]at *);simp only[ *,jO,kZ,dB,dL,Int.reduceEq])
end
section
def tyR3i.tyF:=ad @cJ (ad @dd (ad @gY (ad @iQ (ad @fI (ad @fx (ad @em (ad @en (ad @zms (ad @iR (ad @eY (ad @GO (ad @On (@Ae)))))))))))))
open tyR3i
noncomputable def Ou:{c:SC // aC 59 (Tryz.f61.body.getD .skip)=c}:=by
 refine⟨?_,?_⟩;rotate_left
 .simp only[Tryz.f61,bI,aC,zll,zle,zlp,zln,Nat.blt,Nat.ble];rfl
def pe(p:Pr)(s:List UInt8):Nat:=((p.funcs[(zl2 p.funcs s 0).toNat]?).map fun f=>f.params.length).getD 0
def lh(p:Pr)(x:St):Bool:=!(decide (x.kind=6) && !decide ((x.args.length:Int)=pe p x.to))
section
variable (c:Sc)
mutual
def fZ(b:Bool):St->Bool
 | .mk k Z Y n a v M j m=>(bif b then lh c.p (.mk k Z Y n a v M j m)else jQ c (.mk k Z Y n a v M j m))&&zl4 b j&&zl4 b m
def zl4(b:Bool):List St->Bool
 |[]=>true
 |x::l=>fZ b x&&zl4 b l
end
theorem Ah(b:Bool)(x:St):fZ c b x=((bif b then lh c.p x else jQ c x)&&zl4 c b x.thn&&zl4 c b x.els):=by cases x;rw[fZ];rfl
end
section
variable (p:Pr)
mutual
def xN:St->Bool
 | .mk k Y Z n a v M j m=>(!decide (k=6)||decide (0<=zl2 p.funcs Z 0))&&ph j&&ph m
def ph:List St->Bool
 |[]=>true
 |x::l=>xN x&&ph l
end
theorem Ov(x:St):xN p x=((!decide (x.kind=6)||decide (0<=zl2 p.funcs x.to 0))&&ph p x.thn&&ph p x.els):=by cases x;rw[xN];rfl
end
theorem Ow{p:Pr}:∀{l:List St}{x:St},ph p l=true->x∈l->xN p x=true
 |[],_,_,h=>by simp at h
 |e::es,x,hc,h=>by
  simp only[ph,co]at hc;rcases fX.1 h with rfl|h
  .exact hc.1
  .exact Ow hc.2 h
theorem Du:∀(l:List Fu) (s:List UInt8) (i:Nat),0<=zl2 l s i->∃k,k<l.length/\zl2 l s i=((i+k:Nat):Int)
 |[],s,i,h=>by simp[zl2]at h
 |f::l,s,i,h=>by
  simp only[zl2]at h⊢;split
  .exact⟨0,ax,ax⟩
  .rename_i J;rw[af J]at h;obtain⟨k,m,j⟩:=Du l s (i+1) (by exact h);exact⟨k+1,yS,by rw[show((i:Int)+1)=((i+1:Nat):Int) by omega,j];omega⟩
theorem zAs{p:Pr}{s:List UInt8}(h:0<=zl2 p.funcs s 0):∃g,p.funcs[(zl2 p.funcs s 0).toNat]?=some g/\pe p s=g.params.length:=by
 obtain⟨k,m,j⟩:=Du p.funcs s 0 h;have e:(zl2 p.funcs s 0).toNat=k:=by
  have:zl2 p.funcs s ((0:Nat):Int)=zl2 p.funcs s 0:=rfl;rw[this]at j;omega
 refine⟨p.funcs[k],?_,?_⟩
 .rw[e];exact aT m
 .unfold pe;rw[e,aT m];rfl
theorem Sc.c3(x:Sc):x.cells[3]?=some (.lst (x.p.funcs.map Fu.cells)):=rfl
noncomputable def Oz:En:=⟨109,false,b7 (fun x=>x.1.ok/\x.2.sz<2^60) Ag fun x=>.bool (jQ x.1 x.2)⟩
theorem ztw(ρ:Nat->Int):zl0 Tryz.prog ρ Oz:=zl7 fun x hx=>ztv ρ x.1 x.2 hx.1 hx.2
structure Cs where
 c:Sc
 l:List St
 b:Bool
def ri(x:Cs):List AV:=[.agg x.c.cells,.lst (x.l.map St.cells),.bool x.b]
theorem Is(x y:Cs)(h:ri x=ri y):x=y:=by
 obtain⟨a,b,c⟩:=x;obtain⟨Z,b',Y⟩:=y;simp only[ri,ea,AV.agg.injEq,AV.lst.injEq,AV.bool.injEq,aR]at h;rw[Sc.inj h.1,CO h.2.1,h.2.2]
def Cs.ok(x:Cs):Prop:=x.c.ok/\zld x.l<2^60/\(x.b=true->ph x.c.p x.l=true)
noncomputable def It:List En:=[Ir,Oz]
theorem zAt(ρ:Nat->Int):fK Tryz.prog ρ It:=⟨Ot ρ,ztw ρ,trivial⟩
def uz(x:Cs):AV:=.bool (zl4 x.c x.b x.l)
set_option maxRecDepth 100000 in
theorem zAu(ρ:Nat->Int):∀x:Cs,x.ok->bM Tryz.prog ρ 61 (ri x) (uz x):=
 vI fit (pls:=pls) (zAt ρ) (fun x=>zld x.l) (ok:=Cs.ok) (enc:=ri) (out:=uz) (fun x _=>.cons (.agg x.c.pure) (.cons (xl _) (.cons (.bool _) .nil))) (fun x _=>.bool _) (fun x hx=>by
 have hw:=sW (sz:=fun x:Cs=>zld x.l) (ok:=Cs.ok) (out:=uz) Is (f:=61) (l:=It) x;generalize hl:(⟨61,false,b7 (fun y=>Cs.ok y/\zld y.l<zld x.l) ri uz⟩:En)::It=l at hw⊢;obtain⟨c,x,b⟩:=x;obtain⟨hc,hx,U⟩:=hx;simp only[]at hc hx U;have kr:∀y:List St,zld y<zld x->(b=true->ph c.p y=true)->∀H,zk5 Tryz.prog (zkY pls l) 61 [.agg c.cells,.lst (y.map St.cells),.bool b] H fun v H'=>v=.bool (zl4 c b y)/\H'=H:=fun y h2 h3 H=>by
  subst hl;exact zlM (enc:=ri) (out:=uz) Is (x:=⟨c,y,b⟩) rfl ⟨⟨hc,ux,h3⟩,h2⟩
 have kd:∀y:St,y.sz<2^60->∀H,zk5 Tryz.prog (zkY pls l) 109 [.agg c.cells,.agg y.cells] H fun v H'=>v=.bool (jQ c y)/\H'=H:=fun y h2 H=>by
  subst hl;exact zlM (enc:=Ag) (out:=fun x=>.bool (jQ x.1 x.2)) zAq (x:=(c,y)) rfl ⟨hc,h2⟩
 have hpf:c.p.funcs.length<2^60:=by have h:=hc.2.2;have h2:c.p.sz=1+zmL c.p.arrays+zmv c.p.funcs:=rfl;have:=znQ c.p.funcs;omega
 have kf:∀s H,zk5 Tryz.prog (zkY pls l) 108 [.agg c.p.cells,.str s] H fun v H'=>v=.int .i64 (zl2 c.p.funcs s 0)/\H'=H:=fun s H=>by
  subst hl;exact zlM (enc:=xL) (out:=fun x=>.int .i64 (zl2 x.1.funcs x.2 0)) Oq (x:=(c.p,s)) rfl hpf
 have hlen:=znP x;have hplan:∀id,(zkY pls l).plan 61 id=.text:=fun _=>by first|rfl|(simp[zkY,zl,pls])
 change zk5 _ _ _ [.agg c.cells,.lst (x.map St.cells),.bool b] _ _;refine zlf (M:=59) (rs:=[.tmp 6]) hw.call hw.ice hw.froz Tryz.func61 rfl rfl Ou.2 rfl ?_;dsimp only[Ou,zD,Nat.reduceAdd];repeat' (first
  |(apply ah ?_;clear hK K)|apply Rx.o ?_|apply ak ?_|(apply zkU fun K hK=>?_)|apply aG ?_|fail)
 refine zlL [1,2,3] [0] 7 x.length (fun i E H=>zl4 c b x=zl4 c b (x.drop i)) eE ax ?_;rintro i E H2 hi hcE hrH hnH hsI z;(try simp only[zlm,zlb,aR,zk1,zk7,Nat.reduceBEq, *]at hcE);(try simp only[zlm,zlb,aR,zk1,zk7, *]at hrH);(try simp only[zk9,zlI,bL]at hnH);have hB0:(0 == H2.next)=false:=zkV ac;have hC0:(H2.next == 0)=false:=zkV ac;repeat' (first
  |(apply ah ?_;clear hK K)|apply Rx.o ?_|(apply a0 (fun C j=>?_) (fun C j=>?_)<;>try(cases C;done))|apply ak ?_|(apply zkU fun K hK=>?_)|apply aG ?_|apply zk3 ?_|apply aF ?_|apply zlu ?_)
 .have V:i<x.length:=by simpa using C
  have hgx:x[i]?=some x[i]:=aT V;have hsm:=znL (cR V);have hsz:=x[i].sz_eq;have hcl:b=true->xN c.p x[i]=true:=fun h=>Ow (U h) (cR V);have O:zl4 c b (x.drop i)=(fZ c b x[i]&&zl4 c b (x.drop (i+1))):=by rw[fS V];rfl
  rw[Ah]at O;cases b with
  |false=>
   rw[pQ]at O;repeat' (first
    |(apply ah ?_;clear hK K)|apply Rx.o ?_|apply bS ?_|(apply eM ?_;first|refine zlc (kd _ ac _) ?_|refine zlc (kr _ ac (fun h=>lY) _) ?_)|(apply cz (fun Z Y=>?_) (fun Z Y=>?_)<;>try(cases Z;done))|(apply a0 (fun C j=>?_) (fun C j=>?_)<;>try(cases C;done))|apply ak ?_|(apply zkU fun K hK=>?_)|apply zk3 ?_|apply aF ?_|fail)
   all_goals (first|(refine⟨eI,_,eR,?_⟩;(try simp only[zkX]);change _=AV.bool (zl4 c _ x);rw[z,O];(try simp only[dI]at *);simp only[ *,jO,fR,];done)|skip)
   refine⟨ac,zk8,zk8,zlF,uj,?_⟩;rw[z,O];(try simp only[iU]at *);simp only[ *,kZ,]
  |true=>
   rw[iV]at O;have I:=hcl rfl;rw[Ov,co,co]at I;obtain⟨⟨hk6,o⟩,J⟩:=I;by_cases h6:x[i].kind=6
   .have hf0:0<=zl2 c.p.funcs x[i].to 0:=by simpa [h6]using hk6
    obtain⟨g,hg6,m⟩:=zAs hf0;have gh0:=@Sc.c3;repeat' (first
     |(apply ah ?_;clear hK K)|apply Ry.o ?_|apply dG ?_|(apply d7 ?_;first|refine zlc (kf _ _) ?_|refine zlc (kr _ ac (fun _=>o) _) ?_|refine zlc (kr _ ac (fun _=>J) _) ?_)|(apply eA (fun Z Y=>?_) (fun Z Y=>?_)<;>try(cases Z;done))|(apply bb (fun C j=>?_) (fun C j=>?_)<;>try(cases C;done))|apply ak ?_|(apply zkU fun K hK=>?_)|(apply zmm 6 [(1,14),(5,14),(5,21),(6,14),(6,21),(9,14),(9,21),(11,14),(13,14),(17,21),(18,21)] fun K hK=>?_)|(apply zlC ?_;try intro _)|(apply zmk ?_ ?_<;>clear hK K)|apply bZ ?_|(apply xj (fun Z Y=>?_) (fun Z Y=>?_)<;>try(cases Z;done))|apply zk3 ?_|apply aF ?_|fail)
    .exact zlU
    all_goals (first|(refine⟨eI,_,eR,?_⟩;(try simp only[zkX]);change _=AV.bool (zl4 c _ x);rw[z,O,lh,m];(try simp only[dI]at *);simp only[ *,j0,jO,fR,lC,ir,];done)|skip)
    refine⟨ac,zk8,zk8,zlF,uj,?_⟩;rw[z,O,lh,m];(try simp only[iU]at *);simp only[ *,j0,uo,kZ,lC,ir,]
   .have gh0:=@Sc.c3;repeat' (first
     |(apply ah ?_;clear hK K)|apply Ry.o ?_|apply dG ?_|(apply d7 ?_;first|refine zlc (kr _ ac (fun _=>o) _) ?_|refine zlc (kr _ ac (fun _=>J) _) ?_)|(apply eA (fun Z Y=>?_) (fun Z Y=>?_)<;>try(cases Z;done))|(apply bb (fun C j=>?_) (fun C j=>?_)<;>try(cases C;done))|apply ak ?_|(apply zkU fun K hK=>?_)|(apply zmm 6 [(1,14),(5,14),(5,21),(6,14),(6,21),(9,14),(9,21),(11,14),(13,14),(17,21),(18,21)] fun K hK=>?_)|(apply zlC ?_;try intro _)|(apply zmk ?_ ?_<;>clear hK K)|apply bZ ?_|(apply xj (fun Z Y=>?_) (fun Z Y=>?_)<;>try(cases Z;done))|apply zk3 ?_|apply aF ?_|fail)
    .exact zlU
    all_goals (first|(refine⟨eI,_,eR,?_⟩;(try simp only[zkX]);change _=AV.bool (zl4 c _ x);rw[z,O,lh];(try simp only[dI]at *);simp only[ *,ip,jO,fR,ir,];done)|skip)
    refine⟨ac,zk8,zk8,zlF,uj,?_⟩;rw[z,O,lh];(try simp only[iU]at *);simp only[ *,ip,gy,kZ,ir,]
 .all_goals (refine⟨eI,_,eR,?_⟩;try simp only[zkX])
  rw[uz,z,show i=x.length by simp at C;omega];simp[zl4])
end
end Go.Proofs.YtpbcimfiofmoeaaGreat
