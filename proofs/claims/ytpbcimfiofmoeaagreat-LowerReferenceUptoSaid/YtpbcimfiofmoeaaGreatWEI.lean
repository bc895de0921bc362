/- Lemmas for the last file. -/
import Derived.Test.YtpbcimfiofmoeaaGreatWEH
set_option linter.all false
set_option maxHeartbeats 32000000
namespace Go.Ab
set_option maxRecDepth 20000
open Go
variable{qe:Prop}
def I5(h:qe:=by rw[List.drop_eq_getElem_cons Z];rfl):=h
def I6(h:qe:=by rw[List.drop_eq_getElem_cons J,List.any_cons]):=h
def uh(h:qe:=by simp at hb;omega):=h
def xc(h:qe:=by rw[List.drop_eq_getElem_cons J,List.all_cons]):=h
def yr(h:qe:=by rw[<- U];rfl):=h
def iX(h:qe:=by simp only[bq,aU];omega):=h
def vy(h:qe:=by simp[bF]):=h
def cB(h:qe:=by simp only[aU];omega):=h
def vz(h:qe:=by simp only[];omega):=h
def xd(h:qe:=by simp only[aG,Nat.reduceBEq, *];exact hZ (n:=p.aa.length) ac ac):=h
def AY(h:qe:=by simp only[aG,Nat.reduceBEq, *];exact hZ (n:=x.args.length) ac ac):=h
def iY:=@cond_true
def ui:=@cond_false
def rS:=@List.all_cons
def uj:=@Bool.not_eq_false'
def uk:=@Bool.or_true
def kS:=@decide_eq_true
def mB:=@Bool.false_and
def xe:=@Bool.and_false
def iK:=And.intro @sF @uj
def kT:=And.intro @mB @xe
def p9:=And.intro @ja @hT
end Go.Ab
namespace Go.Proofs.YtpbcimfiofmoeaaGreat
set_option maxRecDepth 20000
open Go Go.Ab Proofs.Tryz
variable(ρ:Nat->Int)
variable{I:Type}
section
def tyR3c.tyF:=ad @dQ (ad @cr (ad @cK (ad @fW (ad @gh (ad @eL (ad @et (ad @dV (ad @dR (ad @dD (ad @jb (ad @jx (ad @eh (ad @N4 (ad @N8 (@N9)))))))))))))))
open tyR3c
noncomputable def Oi:{c:SC // aE 50 (f103.body.getD .skip)=c}:=by
 refine⟨?_,?_⟩;rotate_left
 .simp only[f103,bN,aE,bH,bw,bM,bJ,Nat.blt,Nat.ble];rfl
noncomputable def Oj:{c:SC // aE 94 (f58.body.getD .skip)=c}:=by
 refine⟨?_,?_⟩;rotate_left
 .simp only[f58,bN,aE,bH,bw,bM,bJ,Nat.blt,Nat.ble];rfl
mutual
def nu:St->Bool
 | .mk _ _ _ _ a v V M O=>decide ((20:Int)<dy a)||decide ((20:Int)<dy v)||fJ M||fJ O||V.any fun e=>decide ((20:Int)<dy e)
def fJ:qD->Bool
 |[]=>false
 |x::l=>nu x||fJ l
end
theorem zbD(x:St):nu x=(decide ((20:Int)<dy x.a8)||decide ((20:Int)<dy x.value)||fJ x.bl||fJ x.bA||x.args.any fun e=>decide ((20:Int)<dy e)):=by cases x;rw[nu];rfl
noncomputable def AZ:En:=⟨104,false,co (fun x=>x.sz<2^60) jO fun x=>.int .i64 (dy x)⟩
def Ok:dI prog ρ AZ:=dT fun x hx=>zbo ρ x hx
def zbE:∀x:qD,bi x<2^60->bX prog ρ 103 (nr x) (.bool (fJ x)):=
 wV fit (pls:=pls) (l:=[AZ]) ⟨Ok ρ,trivial⟩ (fun x=>bi x) (ok:=fun x=>bi x<2^60) (enc:=nr) (out:=fun x=>.bool (fJ x)) (fun x _=>.cons (yh _) .nil) (fun x _=>.bool _) (fun x hx=>by
 have O:=uc (sz:=fun x:qD=>bi x) (ok:=fun x=>bi x<2^60) (out:=fun x=>.bool (fJ x)) yp (f:=103) (l:=[AZ]) x;generalize hl:(⟨103,false,co (fun y=>bi y<2^60/\bi y<bi x) nr fun x=>.bool (fJ x)⟩:En)::[AZ]=l at O⊢;have kr:∀(y:qD),bi y<bi x->∀H,aR prog (au pls l) 103 [.az (y.map St.cells)] H fun v H'=>v=.bool (fJ y)/\H'=H:=fun y h2 H=>by
  subst hl;exact cV (enc:=nr) (out:=fun x=>.bool (fJ x)) yp (x:=y) rfl ⟨ac,h2⟩
 have kd:∀y:Ex,y.sz<2^60->∀H,aR prog (au pls l) 104 [.agg y.cells] H fun v H'=>v=.int .i64 (dy y)/\H'=H:=fun y h1 H=>by
  subst hl;exact cV (enc:=jO) (out:=fun x=>.int .i64 (dy x)) rR (x:=y) rfl h1
 have hlen:=mZ x;change aR _ _ _ [.az (x.map St.cells)] _ _;refine bp (M:=50) (rs:=[.tmp 2]) O.call O.aG O.aB func103 rfl rfl Oi.2 rfl ?_;dsimp only[Oi,bm,Nat.reduceAdd];refine gW ?_;refine cl [0] [] 3 x.length (fun i E H=>fJ x=fJ (x.drop i)) eE aw ?_;rintro i E z hi Y V m I C;(try simp only[bC,aZ,aW,aG,aY,Nat.reduceBEq, *]at Y);(try simp only[aZ, *]at V);(try simp only[ce,]at m);repeat' (first
  |(apply aj ?_;clear hK K)|apply aV ?_|(apply bz ?_ ?_<;>(intro hb hbp;try(cases hb;done)))|(apply am fun K hK=>?_)|fail)
 .have J:i<x.length:=by simpa using hb
  have hgx:x[i]?=some x[i]:=bj J;have hsm:=my (dm J);have hsz:=x[i].aV;have hla:=mY x[i].args;have U:fJ (x.drop i)=(nu x[i]||fJ (x.drop (i+1))):=og;rw[zbD]at U;repeat' (first
   |(apply aj ?_;clear hK K)|apply aV ?_|(apply eu ?_;first|refine bK (kd _ ac _) ?_|refine bK (kr _ ac _) ?_)|(apply cL ?_ ?_<;>(intro hg hgp;try(cases hg;done)))|(apply bz ?_ ?_<;>(intro hb hbp;try(cases hb;done)))|(apply am fun K hK=>?_)|fail)
  rotate_left
  .refine cl [0,3,4] [z.next] 5 x[i].args.length (fun j E H=>(x[i].args.any fun e=>decide ((20:Int)<dy e))=(x[i].args.drop j).any fun e=>decide ((20:Int)<dy e)) eE aw ?_;rintro j E3 H3 hj Y V m I hJ2;(try simp only[bC,aZ,aW,aG,aY,Nat.reduceBEq, *]at Y);(try simp only[bC,aZ,aW,aG,aY, *]at V);(try simp only[aU,bq,]at m);have hB0:(z.next == H3.next)=false:=ak ac;have hC0:(H3.next == z.next)=false:=ak ac;repeat' (first
    |(apply aj ?_;clear hK K)|apply aV ?_|(apply bz ?_ ?_<;>(intro hb hbp;try(cases hb;done)))|(apply am fun K hK=>?_)|fail)
   .have Z:j<x[i].args.length:=by simpa using hb
    have hgx2:x[i].args[j]?=some x[i].args[j]:=bj Z;have hsm2:=n1 (dm Z);have hdr2:((x[i].args.drop j).any fun e=>decide ((20:Int)<dy e))=(decide ((20:Int)<dy x[i].args[j])||(x[i].args.drop (j+1)).any fun e=>decide ((20:Int)<dy e)):=I5;repeat' (first
     |(apply aj ?_;clear hK K)|apply aV ?_|(apply eu ?_;first|refine bK (kd _ ac _) ?_)|(apply bz ?_ ?_<;>(intro hb hbp;try(cases hb;done)))|(apply am fun K hK=>?_)|fail)
    .all_goals refine qq ?_
     simp_all
    .refine⟨ac,a0,a0,ca,(by simp only[aG,Nat.reduceBEq, *];exact hZ (n:=x[i].args.length) ac ac),?_⟩;simp_all
   .refine⟨ac,a0,a0,ca,vn,?_⟩
    grind
  all_goals
   all_goals refine qq ?_
   rw[C,U];(try simp only[iK]at *);simp only[*,mW,nU,uk,]
 .all_goals refine qq ?_
  rw[C,show i=x.length by simp at hb;omega];simp[fJ])
def eV(p:Pr):qu:=[.agg p.cells]
def pd(x y:Pr)(h:eV x=eV y):x=y:=by simp only[eV,eJ,AV.agg.injEq,aW]at h;exact Pr.inj h
noncomputable def Ol:En:=⟨102,false,co (fun x=>bi x.1+x.2<2^60) uf vu⟩
def zbF:dI prog ρ Ol:=dT fun x hx=>zbu ρ x hx
noncomputable def Om:En:=⟨103,false,co (fun x=>bi x<2^60) nr fun x=>.bool (fJ x)⟩
def zbG:dI prog ρ Om:=dT fun x hx=>zbE ρ x hx
def nA(f:Fu):Bool:=decide ((6:Int)<f.params.length)||decide ((8:Int)<f.ak.length)||decide ((200:Int)<nS f.body)||decide ((16:Int)<dg f.body)||decide ((20:Int)<fd f.body 0)||fJ f.body||decide ((20:Int)<dy f.value)
def rT(a:Ar):Bool:=decide (a.len<1)||decide (16<a.len)
def jp(p:Pr):Bool:=decide ((4:Int)<p.aa.length)||decide ((8:Int)<p.funcs.length)||p.aa.any rT||p.funcs.any nA
noncomputable def A0:qC:=[AZ,Ol,Om]
def zbH:gT prog ρ A0:=⟨Ok ρ,zbF ρ,zbG ρ,trivial⟩
theorem zbI(p:Pr)(hz:p.sz<2^60):bX prog ρ 58 [.agg p.cells] (.bool (jp p)):=fB fit (pls:=pls) (zbH ρ) (.cons (.agg p.pure) .nil) (.bool _) (by
 have hw:zd0 (au pls A0) 58:=ei (fun _=>rfl) rfl;have kd:∀y:Ex,y.sz<2^60->∀H,aR prog (au pls A0) 104 [.agg y.cells] H fun v H'=>v=.int .i64 (dy y)/\H'=H:=fun y U H=>cV (enc:=jO) (out:=fun x=>.int .i64 (dy x)) rR (x:=y) rfl U;have kt:∀y:qD,bi y<2^60->∀H,aR prog (au pls A0) 103 [.az (y.map St.cells)] H fun v H'=>v=.bool (fJ y)/\H'=H:=fun y U H=>cV (enc:=nr) (out:=fun x=>.bool (fJ x)) yp (x:=y) rfl U;have kc:∀y:qD,bi y<2^60->∀H,aR prog (au pls A0) 102 [.az (y.map St.cells),.int .i64 0] H fun v H'=>v=.a6 [.int .i64 (nS y),.int .i64 (dg y),.int .i64 (fd y 0)]/\H'=H:=fun y U H=>cV (enc:=uf) (out:=vu) IY (x:=(y,0)) rfl Ac;have hpz:p.sz=1+eA p.aa+dO p.funcs:=rfl;have hla:=m1 p.aa;have hlf:=m0 p.funcs;refine bp (M:=94) (rs:=[.tmp 2]) (hw.call _) hw.aG hw.aB func58 rfl rfl Oj.2 rfl ?_;dsimp only[Oj,bm,Nat.reduceAdd];repeat' (first
  |(apply aj ?_;clear hK K)|apply aV ?_|(apply cL ?_ ?_<;>(intro hg hgp;try(cases hg;done)))|(apply bz ?_ ?_<;>(intro hb hbp;try(cases hb;done)))|(apply am fun K hK=>?_)|fail)
 all_goals (first|(refine⟨aB,_,aO,?_⟩;(try simp only[aA]);rw[jp];(try simp only[iK]at *);simp only[*,nP,nU,uk,];done)|skip)
 .refine cl [1] [0] 3 p.aa.length (fun i E H=>p.aa.any rT=(p.aa.drop i).any rT) eE aw ?_;rintro i E z hi Y j m I C;(try simp only[bC,aZ,aW,aG,aY,Nat.reduceBEq, *]at Y);(try simp only[bC,aZ,aW,aG,aY, *]at j);(try simp only[aU,ce,bR]at m);have hB0:(0 == z.next)=false:=ak ac;have hC0:(z.next == 0)=false:=ak ac;repeat' (first
   |(apply aj ?_;clear hK K)|apply aV ?_|(apply bz ?_ ?_<;>(intro hb hbp;try(cases hb;done)))|(apply am fun K hK=>?_)|fail)
  .have J:i<p.aa.length:=by simpa using hb
   have hgx:p.aa[i]?=some p.aa[i]:=bj J;have Z:(p.aa.drop i).any rT=(rT p.aa[i]||(p.aa.drop (i+1)).any rT):=I6;rw[rT]at Z;repeat' (first
    |(apply aj ?_;clear hK K)|apply aV ?_|(apply cL ?_ ?_<;>(intro hg hgp;try(cases hg;done)))|(apply bz ?_ ?_<;>(intro hb hbp;try(cases hb;done)))|(apply am fun K hK=>?_)|fail)
   all_goals (first|(refine⟨aB,_,aO,?_⟩;(try simp only[aA]);rw[jp,C,Z];(try simp only[iK]at *);simp only[*,nP,mW,nU,uk,];done)|skip)
   refine⟨ac,a0,a0,ca,xd,?_⟩;simp_all
  .have O:i=p.aa.length:=by simp at hb;omega
   rw[O,iJ,wX]at C;clear hb O I hi;refine cl [1] [0] 4 p.funcs.length (fun i E H=>p.funcs.any nA=(p.funcs.drop i).any nA) eE aw ?_;rintro i E z hi Y j m I V;(try simp only[bC,aZ,aW,aG,Nat.reduceBEq, *]at Y);(try simp only[bC,aZ,aW, *]at j);(try simp only[aU,bq,ce,bR,Nat.reduceAdd]at m);have hB0:(0 == z.next)=false:=ak ac;have hC0:(z.next == 0)=false:=ak ac;repeat' (first
    |(apply aj ?_;clear hK K)|apply aV ?_|(apply bz ?_ ?_<;>(intro hb hbp;try(cases hb;done)))|(apply am fun K hK=>?_)|fail)
   .have J:i<p.funcs.length:=by simpa using hb
    have hgx:p.funcs[i]?=some p.funcs[i]:=bj J;have Z:(p.funcs.drop i).any nA=(nA p.funcs[i]||(p.funcs.drop (i+1)).any nA):=I6;rw[nA]at Z;have hsm:=oc (dm J);have hsz:p.funcs[i].sz=1+p.funcs[i].name.length+cP p.funcs[i].params+cP p.funcs[i].ak+bi p.funcs[i].body+p.funcs[i].value.sz:=rfl;repeat' (first
     |(apply aj ?_;clear hK K)|apply aV ?_|(apply eu ?_;first|refine bK (kd _ ac _) ?_|refine bK (kt _ ac _) ?_|refine bK (kc _ ac _) ?_)|(apply cL ?_ ?_<;>(intro hg hgp;try(cases hg;done)))|(apply bz ?_ ?_<;>(intro hb hbp;try(cases hb;done)))|(apply am fun K hK=>?_)|fail)
    all_goals (first|(refine⟨aB,_,aO,?_⟩;(try simp only[aA]);rw[jp,C,V,Z];(try simp only[iK]at *);simp only[*,nP,mW,nU,uk,];done)|skip)
    refine⟨ac,a0,a0,ca,oh,?_⟩;simp_all
   .all_goals refine qq ?_
    have O:i=p.funcs.length:=uh;rw[O,iJ,wX]at V;rw[jp,C,V];simp_all)
end
section
def Ef(d:Nat)(h:d<2^60):bB ((d:Int)+1)=((d+1:Nat):Int):=by unfold bB;rw[kR ac ac];omega
mutual
theorem On:∀(x:Ex) (d:Nat),d<=21->mX tZ x d=decide (d+dy x<=20)
 | .mk k n s o C,d,hd=>by
   rw[mX,tZ,dy];by_cases h:d<=20
   .rw[Ef d ac,Oo C d h];simp only[show decide ((d:Int)<=20)=true by simpa using (by omega:(d:Int)<=20),ja]
   grind
theorem Oo:∀(l:qI) (d:Nat),d<=20->jz tZ l ((d+1:Nat):Int)=decide (d+ki l<=20)
 |[],d,hd=>by rw[jz,ki];simp_all
 |e::es,d,hd=>by
  rw[jz,On e (d+1) ac,Oo es d hd,ki]
  grind
end
def I7(x:Ex):mX tZ x 0=!decide ((20:Int)<dy x):=by
 have:=On x 0 ac
 grind
theorem Oq:∀(l:qI),jz tZ l 0=!(l.any fun e=>decide ((20:Int)<dy e))
 |[]=>rfl
 |e::es=>by rw[jz,I7,Oq es,pX,Bool.not_or]
mutual
theorem zbJ:∀(x:St) (d:Int),mw (pU tZ) x d ()=(!nu x,())
 | .mk k Y J n a v V M O,d=>by
   rw[mw,pU,nu];simp only[St.a8,St.value,St.args,I7,Oq];cases m:decide ((20:Int)<dy a)
   .cases j:decide ((20:Int)<dy v)
    .cases C:V.any fun e=>decide ((20:Int)<dy e)
     .simp only[ll,hT,Eg M];cases Z:fJ M
      .simp only[ll,Eg O,mW,mp]
      .simp
     .simp
    .simp
   .simp
theorem Eg:∀(l:qD) (d:Int),fw (pU tZ) l d ()=(!fJ l,())
 |[],_=>rfl
 |x::l,d=>by
  rw[fw,zbJ x,fJ];cases h:nu x
  .simp only[ll,Eg l,mp]
  .simp
end
def vA(k:Int):Nat:=if k=4 then 1 else 0
def zbK(x:St)(d n l:Nat)(J:n<2^60)(O:l<2^60):pT x d ((n:Int),(l:Int))=(decide ((d:Int)<=20)&&decide (((n+1:Nat):Int)<=200)&&decide (((l+vA x.am:Nat):Int)<=16),(((n+1:Nat):Int),((l+vA x.am:Nat):Int))):=by
 have M:(if x.am=4 then bB ((l:Int)+1)else (l:Int))=((l+vA x.am:Nat):Int):=by
  unfold vA;split
  .rw[Ef l ac]
  .rfl
 unfold pT;simp only[Ef n ac,M]
mutual
theorem zbL:∀(x:St) (d n l:Nat),d<=21->n<=200->l<=16 ->
 ((bZ x d<=20/\n+cS x<=200/\l+cm x<=16)->mw pT x d ((n:Int),(l:Int))=(true,(((n+cS x:Nat):Int),((l+cm x:Nat):Int)))) /\
 (¬(bZ x d<=20/\n+cS x<=200/\l+cm x<=16)->(mw pT x d ((n:Int),(l:Int))).1=false)
 | .mk k Z J I a v V M O,d,n,l,hd,hn,hl=>by
   have U:vA (St.mk k Z J I a v V M O).am<=1:=by unfold vA;split<;>omega
   have Y:cm (.mk k Z J I a v V M O)=vA (St.mk k Z J I a v V M O).am+dg M+dg O:=by rw[cm];rfl
   rw[mw,zbK _ _ _ _ ac ac,Y];obtain⟨z,C⟩:∃z,vA (St.mk k Z J I a v V M O).am=z:=⟨_,rfl⟩;rw[C]at U⊢;clear C Y;simp only[Ef d ac,bZ,cS];by_cases h0:d<=20/\n+1<=200/\l+z<=16
   .have e0:(decide ((d:Int)<=20)&&decide (((n+1:Nat):Int)<=200)&&decide (((l+z:Nat):Int)<=16))=true:=by
     rw[da,da];refine⟨⟨?_,?_⟩,?_⟩<;>apply kS<;>omega
    rw[e0];simp only[];have t:=Eh M (d+1) (n+1) (l+z) ac ac ac;by_cases m:fd M (d+1)<=20/\n+1+nS M<=200/\l+z+dg M<=16
    .rw[t.1 m];simp only[];have u:=Eh O (d+1) (n+1+nS M) (l+z+dg M) ac ac ac;by_cases j:fd O (d+1)<=20/\n+1+nS M+nS O<=200/\l+z+dg M+dg O<=16
     .rw[u.1 j];refine⟨fun _=>?_,fun h=>(h ⟨ac,ac,ac⟩).elim⟩;rw[show n+1+nS M+nS O=n+(1+nS M+nS O) by omega,show l+z+dg M+dg O=l+(z+dg M+dg O) by omega]
     .refine⟨fun h=>(j ⟨ac,ac,ac⟩).elim,fun _=>u.2 j⟩
    .refine⟨fun h=>(m ⟨ac,ac,ac⟩).elim,fun _=>?_⟩;have:=t.2 m;generalize fw pT M _ _=r at this⊢;obtain⟨b,s⟩:=r;simp only at this;subst this;rfl
   grind
theorem Eh:∀(x:qD) (d n l:Nat),d<=21->n<=200->l<=16 ->
 ((fd x d<=20/\n+nS x<=200/\l+dg x<=16)->fw pT x d ((n:Int),(l:Int))=(true,(((n+nS x:Nat):Int),((l+dg x:Nat):Int)))) /\
 (¬(fd x d<=20/\n+nS x<=200/\l+dg x<=16)->(fw pT x d ((n:Int),(l:Int))).1=false)
 |[],d,n,l,hd,hn,hl=>by
  rw[fw,fd,nS,dg];simp_all
 |x::r,d,n,l,hd,hn,hl=>by
  rw[fw,fd,nS,dg];have t:=zbL x d n l hd hn hl;by_cases m:bZ x d<=20/\n+cS x<=200/\l+cm x<=16
  .rw[t.1 m];simp only[];have u:=Eh r d (n+cS x) (l+cm x) hd ac ac;by_cases j:fd r d<=20/\n+cS x+nS r<=200/\l+cm x+dg r<=16
   .rw[u.1 j];refine⟨fun _=>?_,fun h=>(h ⟨ac,ac,ac⟩).elim⟩;rw[show n+cS x+nS r=n+(cS x+nS r) by omega,show l+cm x+dg r=l+(cm x+dg r) by omega]
   .exact⟨fun h=>(j ⟨ac,ac,ac⟩).elim,fun _=>u.2 j⟩
  grind
end
def zbM(x:qD):(fw pT x 0 (0,0)).1=(!decide ((200:Int)<nS x) && !decide ((16:Int)<dg x) && !decide ((20:Int)<fd x 0)):=by
 have t:=Eh x 0 0 0 ac ac ac
 grind
def zbN(f:Fu):j9 f=!nA f:=by
 rw[j9,nA,pV,zbM,I7,Eg]
 grind
def Ot(l:List I)(p q:I->Bool)(h:∀x,p x=!q x):l.all p=!l.any q:=by
 grind
def zbO(p:Pr):lQ p=!jp p:=by
 rw[lQ,jp,Ot p.funcs j9 nA zbN,Ot p.aa _ rT (fun a=>by rw[rT,Bool.not_or])];simp_all
def tyR3d.tyF:=ad @dQ (ad @cr (ad @cK (ad @dR (ad @dD (ad @dV (@eh))))))
open tyR3d
noncomputable def Ou:{c:SC // aE 128 (f106.body.getD .skip)=c}:=by
 refine⟨?_,?_⟩;rotate_left
 .simp only[f106,bN,aE,bH,bw,bM,bJ,Nat.blt,Nat.ble];rfl
noncomputable def Ov:{c:SC // aE 27 (f171.body.getD .skip)=c}:=by
 refine⟨?_,?_⟩;rotate_left
 .simp only[f171,bN,aE,bH,bw,bM,bJ,Nat.blt,Nat.ble];rfl
def mC(x:Ex):Bool:=
 if x.am=1 then decide ((x.ao.length:Int)=0)&&decide (x.name=[])&&decide (x.op=0)
 else if x.am=2 then decide ((x.ao.length:Int)=0)&&decide (x.n=0)&&decide (x.op=0)&&db x.name
 else if x.am=3 then decide ((x.ao.length:Int)=1)&&decide (x.n=0)&&decide (x.op=0)&&db x.name
 else if x.am=4 then decide (x.n=0)&&decide (x.name=[])&&((decide ((x.ao.length:Int)=2)&&pY x.op)||(decide ((x.ao.length:Int)=1)&&(decide (x.op=20)||decide (x.op=21))))
 else if x.am=5 then decide ((x.ao.length:Int)=3)&&decide (x.n=0)&&decide (x.name=[])&&decide (x.op=0)
 else false
mutual
def eW:Ex->Bool
 | .mk k n s o C=>eB C&&mC (.mk k n s o C)
def eB:qI->Bool
 |[]=>true
 |e::es=>eW e&&eB es
end
theorem A1(x:Ex):eW x=(eB x.ao&&mC x):=by cases x;rw[eW];rfl
noncomputable def Ei:En:=⟨46,false,co (fun s=>s.length<2^60) oq fun s=>.bool (db s)⟩
def I8:dI prog ρ Ei:=dT fun x hx=>za9 ρ x hx
noncomputable def Ow:En:=⟨147,false,co (fun _=>True) (fun n:Int=>[.int .i64 n]) fun n=>.bool (pY n)⟩
def zbP:dI prog ρ Ow:=dT fun x _=>za2 ρ x
def I9(x y:Int)(h:([.int .i64 x]:qu)=[.int .i64 y]):x=y:=mR
noncomputable def A2:En:=⟨170,false,co (fun _=>True) jO fun x=>.bool (zeroE x)⟩
def Oz:dI prog ρ A2:=dT fun x _=>za3 ρ x
noncomputable def Ja:qC:=[Ei,Ow]
def zbQ:gT prog ρ Ja:=⟨I8 ρ,zbP ρ,trivial⟩
def zbR:∀x:Ex,x.sz<2^60->bX prog ρ 106 (jO x) (.bool (eW x)):=
 wV fit (pls:=pls) (zbQ ρ) (fun x=>x.sz) (ok:=fun x=>x.sz<2^60) (enc:=jO) (out:=fun x=>.bool (eW x)) (fun x _=>.cons (.agg x.pure) .nil) (fun x _=>.bool _) (fun x hx=>by
 have Y:=uc (sz:=fun x:Ex=>x.sz) (ok:=fun x=>x.sz<2^60) (out:=fun x=>.bool (eW x)) rR (f:=106) (l:=Ja) x;generalize O:(⟨106,false,co (fun y=>y.sz<2^60/\y.sz<x.sz) jO fun x=>.bool (eW x)⟩:En)::Ja=l at Y⊢;have kr:∀y:Ex,y.sz<x.sz->∀H,aR prog (au pls l) 106 [.agg y.cells] H fun v H'=>v=.bool (eW y)/\H'=H:=fun y h2 H=>by
  subst O;exact cV (enc:=jO) (out:=fun x=>.bool (eW x)) rR (x:=y) rfl ⟨ac,h2⟩
 have kv:∀s:qA,s.length<2^60->∀H,aR prog (au pls l) 46 [.aj s] H fun v H'=>v=.bool (db s)/\H'=H:=fun s h1 H=>by
  subst O;exact cV (enc:=oq) (out:=fun x=>.bool (db x)) wZ (x:=s) rfl h1
 have kb:∀n:Int,∀H,aR prog (au pls l) 147 [.int .i64 n] H fun v H'=>v=.bool (pY n)/\H'=H:=fun n H=>by
  subst O;exact cV (enc:=fun n:Int=>[.int .i64 n]) (out:=fun x=>.bool (pY x)) I9 (x:=n) rfl trivial
 have hsz:=x.aV;have hlen:=mY x.ao;change aR _ _ _ [.agg x.cells] _ _;refine bp (M:=128) (rs:=[.tmp 2]) Y.call Y.aG Y.aB func106 rfl rfl Ou.2 rfl ?_;dsimp only[Ou,bm,Nat.reduceAdd];refine jH ?_;refine cl [1] [0] 3 x.ao.length (fun i E H=>eB x.ao=eB (x.ao.drop i)) eE aw ?_;rintro i E z hi V j m hsI U;(try simp only[bC,aZ,aW,aG,aY,Nat.reduceBEq, *]at V);(try simp only[bC,aZ,aW,aG,aY, *]at j);(try simp only[aU,ce,bR]at m);have hB0:(0 == z.next)=false:=ak ac;have hC0:(z.next == 0)=false:=ak ac;repeat' (first
  |(apply aj ?_;clear hK K)|apply aV ?_|(apply eu ?_;first|refine bK (kv _ ac _) ?_|refine bK (kb _ _) ?_)|(apply cL ?_ ?_<;>(intro hg hgp;try(cases hg;done)))|(apply bz ?_ ?_<;>(intro hb hbp;try(cases hb;done)))|(apply am fun K hK=>?_)|fail)
 .have J:i<x.ao.length:=by simpa using hb
  have hgx:x.ao[i]?=some x.ao[i]:=bj J;have hm:=n1 (dm J);have Z:eB (x.ao.drop i)=(eW x.ao[i]&&eB (x.ao.drop (i+1))):=og;repeat' (first
   |(apply aj ?_;clear hK K)|apply aV ?_|(apply eu ?_;first|refine bK (kr _ ac _) ?_)|(apply bz ?_ ?_<;>(intro hb hbp;try(cases hb;done)))|(apply am fun K hK=>?_)|fail)
  all_goals (first|(refine⟨aB,_,aO,?_⟩;(try simp only[aA]);rw[A1,U,Z];(try simp only[sF]at *);simp only[*,mB,];done)|skip)
  refine⟨ac,a0,a0,ca,IB,?_⟩;rw[U,Z];(try simp only[uj]at *);simp only[*,ja,]
 all_goals
  have I:i=x.ao.length:=ac;rw[I,iJ]at U;have C:eB x.ao=true:=U;clear U;all_goals refine qq ?_
  rw[A1,C,mC];(try simp only[iK]at *);simp only[ *,l0,mp,mW,uk,kT,p9,ft,fG,Int.reduceEq])
end
section
def tyR3e.tyF:=ad @dQ (ad @cr (ad @cK (ad @dV (ad @dR (ad @dD (@eh))))))
open tyR3e
noncomputable def OA:{c:SC // aE 202 (f146.body.getD .skip)=c}:=by
 refine⟨?_,?_⟩;rotate_left
 .simp only[f146,bN,aE,bH,bw,bM,bJ,Nat.blt,Nat.ble];rfl
def rb(x:St):Bool:=decide (x.name=[])&&decide (x.to=[])&&decide (x.n=0)&&zeroE x.a8&&decide ((x.args.length:Int)=0)
def rc(x:St):Bool:=decide ((x.bl.length:Int)=0)&&decide ((x.bA.length:Int)=0)
def mD(x:St):Bool:=
 if x.am=1 then rc x&&db x.name&&decide (x.to=[])&&decide (x.n=0)&&zeroE x.a8&&decide ((x.args.length:Int)=0)&&eW x.value
 else if x.am=2 then rc x&&db x.name&&decide (x.to=[])&&decide (x.n=0)&&eW x.a8&&decide ((x.args.length:Int)=0)&&eW x.value
 else if x.am=3 then rb x&&eW x.value
 else if x.am=4 then rb x&&eW x.value&&decide ((x.bA.length:Int)=0)
 else if x.am=5 then rc x&&rb x&&eW x.value
 else if x.am=6 then rc x&&db x.name&&db x.to&&decide (x.n=0)&&zeroE x.a8&&zeroE x.value
 else if x.am=7 then rc x&&decide (x.name=[])&&decide (x.to=[])&&decide (0<=x.n)&&decide (x.n<=1000000)&&zeroE x.a8&&zeroE x.value&&decide ((x.args.length:Int)=0)
 else false
def je(x:St):Bool:=eB x.args&&mD x
def xf(x:St):qu:=[.agg x.cells]
def OB(x y:St)(h:xf x=xf y):x=y:=by simp only[xf,eJ,AV.agg.injEq,aW]at h;exact St.inj h
def zbS(x:St):bX prog ρ 171 [.agg x.cells] (.bool (rb x)):=fB fit (pls:=pls) (l:=[A2]) ⟨Oz ρ,trivial⟩ (.cons (.agg x.pure) .nil) (.bool _) (by
 have Z:zd0 (au pls [A2]) 171:=ei (fun _=>rfl) rfl;have J:∀y:Ex,∀H,aR prog (au pls [A2]) 170 [.agg y.cells] H fun v H'=>v=.bool (zeroE y)/\H'=H:=fun y H=>cV (enc:=jO) (out:=fun x=>.bool (zeroE x)) rR (x:=y) rfl trivial;refine bp (M:=27) (rs:=[.tmp 2]) (Z.call _) Z.aG Z.aB func171 rfl rfl Ov.2 rfl ?_;dsimp only[Ov,bm,Nat.reduceAdd];repeat' (first
  |(apply aj ?_;clear hK K)|apply aV ?_|(apply eu ?_;first|refine bK (J _ _) ?_)|(apply cL ?_ ?_<;>(intro hg hgp;try(cases hg;done)))|(apply am fun K hK=>?_)|fail)
 all_goals
  all_goals refine qq ?_
  rw[rb];(try simp only[iK]at *);simp only[ *,kT,p9,])
noncomputable def OC:En:=⟨171,false,co (fun _=>True) xf fun x=>.bool (rb x)⟩
def zbT:dI prog ρ OC:=dT fun x _=>zbS ρ x
noncomputable def Jb:En:=⟨106,false,co (fun x=>x.sz<2^60) jO fun x=>.bool (eW x)⟩
def OD:dI prog ρ Jb:=dT fun x hx=>zbR ρ x hx
noncomputable def yu:qC:=[Ei,A2,OC,Jb]
def zbU:gT prog ρ yu:=⟨I8 ρ,Oz ρ,zbT ρ,OD ρ,trivial⟩
def zbV(x:St)(hx:x.sz<2^60):bX prog ρ 146 [.agg x.cells] (.bool (je x)):=fB fit (pls:=pls) (zbU ρ) (.cons (.agg x.pure) .nil) (.bool _) (by
 have O:zd0 (au pls yu) 146:=ei (fun _=>rfl) rfl;have kz:∀y:Ex,∀H,aR prog (au pls yu) 170 [.agg y.cells] H fun v H'=>v=.bool (zeroE y)/\H'=H:=fun y H=>cV (enc:=jO) (out:=fun x=>.bool (zeroE x)) rR (x:=y) rfl trivial;have ko:∀y:St,∀H,aR prog (au pls yu) 171 [.agg y.cells] H fun v H'=>v=.bool (rb y)/\H'=H:=fun y H=>cV (enc:=xf) (out:=fun x=>.bool (rb x)) OB (x:=y) rfl trivial;have kv:∀s:qA,s.length<2^60->∀H,aR prog (au pls yu) 46 [.aj s] H fun v H'=>v=.bool (db s)/\H'=H:=fun s m H=>cV (enc:=oq) (out:=fun x=>.bool (db x)) wZ (x:=s) rfl m;have kw:∀y:Ex,y.sz<2^60->∀H,aR prog (au pls yu) 106 [.agg y.cells] H fun v H'=>v=.bool (eW y)/\H'=H:=fun y m H=>cV (enc:=jO) (out:=fun x=>.bool (eW x)) rR (x:=y) rfl m;have hsz:=x.aV;have hlen:=mY x.args;refine bp (M:=202) (rs:=[.tmp 2]) (O.call _) O.aG O.aB func146 rfl rfl OA.2 rfl ?_;dsimp only[OA,bm,Nat.reduceAdd];refine jH ?_;refine cl [1] [0] 3 x.args.length (fun i E H=>eB x.args=eB (x.args.drop i)) eE aw ?_;rintro i E z hi Y j V hsI U;(try simp only[bC,aZ,aW,aG,aY,Nat.reduceBEq, *]at Y);(try simp only[bC,aZ,aW,aG,aY, *]at j);(try simp only[aU,ce,bR]at V);have hB0:(0 == z.next)=false:=ak ac;have hC0:(z.next == 0)=false:=ak ac;repeat' (first
  |(apply aj ?_;clear hK K)|apply aV ?_|(apply eu ?_;first|refine bK (kv _ ac _) ?_|refine bK (kz _ _) ?_|refine bK (ko _ _) ?_|refine bK (kw _ ac _) ?_)|(apply cL ?_ ?_<;>(intro hg hgp;try(cases hg;done)))|(apply bz ?_ ?_<;>(intro hb hbp;try(cases hb;done)))|(apply am fun K hK=>?_)|fail)
 .have J:i<x.args.length:=by simpa using hb
  have hgx:x.args[i]?=some x.args[i]:=bj J;have hm:=n1 (dm J);have Z:eB (x.args.drop i)=(eW x.args[i]&&eB (x.args.drop (i+1))):=og;repeat' (first
   |(apply aj ?_;clear hK K)|apply aV ?_|(apply eu ?_;first|refine bK (kw _ ac _) ?_)|(apply bz ?_ ?_<;>(intro hb hbp;try(cases hb;done)))|(apply am fun K hK=>?_)|fail)
  all_goals (first|(refine⟨aB,_,aO,?_⟩;(try simp only[aA]);rw[je,U,Z];(try simp only[sF]at *);simp only[*,mB,];done)|skip)
  refine⟨ac,a0,a0,ca,AY,?_⟩;rw[U,Z];(try simp only[uj]at *);simp only[*,ja,]
 all_goals
  have I:i=x.args.length:=ac;rw[I,iJ]at U;have C:eB x.args=true:=U;clear U;all_goals refine qq ?_
  rw[je,C,mD,rc];(try simp only[iK]at *);simp only[ *,kT,p9,ft,fG,Int.reduceEq])
end
section
def tyR3f.tyF:=ad @dQ (ad @cr (ad @cK (ad @fW (ad @gh (ad @eL (ad @et (ad @dV (ad @dR (ad @dD (ad @jb (ad @jx (@eh))))))))))))
open tyR3f
noncomputable def OE:{c:SC // aE 34 (f105.body.getD .skip)=c}:=by
 refine⟨?_,?_⟩;rotate_left
 .simp only[f105,bN,aE,bH,bw,bM,bJ,Nat.blt,Nat.ble];rfl
noncomputable def OF:{c:SC // aE 66 (f59.body.getD .skip)=c}:=by
 refine⟨?_,?_⟩;rotate_left
 .simp only[f59,bN,aE,bH,bw,bM,bJ,Nat.blt,Nat.ble];rfl
mutual
def mE:St->Bool
 | .mk k Z J n a v V M O=>je (.mk k Z J n a v V M O)&&fx M&&fx O
def fx:qD->Bool
 |[]=>true
 |x::l=>mE x&&fx l
end
theorem xg(x:St):mE x=(je x&&fx x.bl&&fx x.bA):=by cases x;rw[mE];rfl
noncomputable def Ej:En:=⟨146,false,co (fun x=>x.sz<2^60) xf fun x=>.bool (je x)⟩
def zbW:dI prog ρ Ej:=dT fun x hx=>zbV ρ x hx
def zbX:∀x:qD,bi x<2^60->bX prog ρ 105 (nr x) (.bool (fx x)):=
 wV fit (pls:=pls) (l:=[Ej]) ⟨zbW ρ,trivial⟩ (fun x=>bi x) (ok:=fun x=>bi x<2^60) (enc:=nr) (out:=fun x=>.bool (fx x)) (fun x _=>.cons (yh _) .nil) (fun x _=>.bool _) (fun x hx=>by
 have Y:=uc (sz:=fun x:qD=>bi x) (ok:=fun x=>bi x<2^60) (out:=fun x=>.bool (fx x)) yp (f:=105) (l:=[Ej]) x;generalize O:(⟨105,false,co (fun y=>bi y<2^60/\bi y<bi x) nr fun x=>.bool (fx x)⟩:En)::[Ej]=l at Y⊢;have kr:∀(y:qD),bi y<bi x->∀H,aR prog (au pls l) 105 [.az (y.map St.cells)] H fun v H'=>v=.bool (fx y)/\H'=H:=fun y I H=>by
  subst O;exact cV (enc:=nr) (out:=fun x=>.bool (fx x)) yp (x:=y) rfl ⟨ac,I⟩
 have kd:∀y:St,y.sz<2^60->∀H,aR prog (au pls l) 146 [.agg y.cells] H fun v H'=>v=.bool (je y)/\H'=H:=fun y C H=>by
  subst O;exact cV (enc:=xf) (out:=fun x=>.bool (je x)) OB (x:=y) rfl C
 have z:=mZ x;change aR _ _ _ [.az (x.map St.cells)] _ _;refine bp (M:=34) (rs:=[.tmp 2]) Y.call Y.aG Y.aB func105 rfl rfl OE.2 rfl ?_;dsimp only[OE,bm,Nat.reduceAdd];refine jH ?_;refine cl [0] [] 3 x.length (fun i E H=>fx x=fx (x.drop i)) eE aw ?_;rintro i E H2 hi V j m hsI U;(try simp only[bC,aZ,aW,aG,aY,Nat.reduceBEq, *]at V);(try simp only[aZ, *]at j);(try simp only[ce,]at m);repeat' (first
  |(apply aj ?_;clear hK K)|apply aV ?_|(apply bz ?_ ?_<;>(intro hb hbp;try(cases hb;done)))|(apply am fun K hK=>?_)|fail)
 .have J:i<x.length:=by simpa using hb
  have hgx:x[i]?=some x[i]:=bj J;have hsm:=my (dm J);have hsz:=x[i].aV;have Z:fx (x.drop i)=(mE x[i]&&fx (x.drop (i+1))):=og;rw[xg]at Z;repeat' (first
   |(apply aj ?_;clear hK K)|apply aV ?_|(apply eu ?_;first|refine bK (kd _ ac _) ?_|refine bK (kr _ ac _) ?_)|(apply cL ?_ ?_<;>(intro hg hgp;try(cases hg;done)))|(apply bz ?_ ?_<;>(intro hb hbp;try(cases hb;done)))|(apply am fun K hK=>?_)|fail)
  all_goals (first|(refine⟨aB,_,aO,?_⟩;(try simp only[aA]);rw[U,Z];(try simp only[iK]at *);simp only[ *,kT,hT,];done)|skip)
  refine⟨ac,a0,a0,ca,vn,?_⟩;simp_all
 .all_goals refine qq ?_
  rw[U,show i=x.length by simp at hb;omega];simp[fx])
noncomputable def OG:En:=⟨105,false,co (fun x=>bi x<2^60) nr fun x=>.bool (fx x)⟩
def zbY:dI prog ρ OG:=dT fun x hx=>zbX ρ x hx
noncomputable def levF:qC:=[Ei,Jb,OG]
def levF_ok:gT prog ρ levF:=⟨I8 ρ,OD ρ,zbY ρ,trivial⟩
theorem Jc:∀{l:List Ar}{a:Ar},a∈l->a.name.length<eA l
 |[],_,h=>by simp at h
 |e::es,x,h=>by
  rcases gH.1 h with rfl|h
  .simp only[eA];omega
  .have:=Jc h;simp only[eA];omega
def fnNames(f:Fu):qx:=[f.name]++f.params++f.ak
def ku(f:Fu):Bool:=(fnNames f).all db&&fx f.body&&eW f.value
def ib(p:Pr):Bool:=p.aa.all (fun a=>db a.name)&&p.funcs.all ku
def Ek(H:Hp)(s:qA):de prog H 59 1 [(0,.aj s)]=some (.sl H.next 0 1 1,H.alloc (.cells [.aj s] 0 true)):=ax
abbrev qf:HB:=.cells [] 0 true
def OH(H:Hp):de prog H 59 0 []=some (.sl H.next 0 0 1,H.alloc qf):=ax
theorem zbZ(p:Pr)(hz:p.sz<2^36):bX prog ρ 59 [.agg p.cells] (.bool (ib p)):=fB fit (pls:=pls) (levF_ok ρ) (.cons (.agg p.pure) .nil) (.bool _) (by
 have hw:zd0 (au pls levF) 59:=ei (fun _=>rfl) rfl;have V:(au pls levF).keep 59=false:=rfl;have kv:∀s:qA,s.length<2^60->∀H,aR prog (au pls levF) 46 [.aj s] H fun v H'=>v=.bool (db s)/\H'=H:=fun s h1 H=>cV (enc:=oq) (out:=fun x=>.bool (db x)) wZ (x:=s) rfl h1;have kw:∀y:Ex,y.sz<2^60->∀H,aR prog (au pls levF) 106 [.agg y.cells] H fun v H'=>v=.bool (eW y)/\H'=H:=fun y h1 H=>cV (enc:=jO) (out:=fun x=>.bool (eW x)) rR (x:=y) rfl h1;have ks:∀y:qD,bi y<2^60->∀H,aR prog (au pls levF) 105 [.az (y.map St.cells)] H fun v H'=>v=.bool (fx y)/\H'=H:=fun y h1 H=>cV (enc:=nr) (out:=fun x=>.bool (fx x)) yp (x:=y) rfl h1;have hpz:p.sz=1+eA p.aa+dO p.funcs:=rfl;have hla:=m1 p.aa;have hlf:=m0 p.funcs;refine bp (M:=66) (rs:=[.tmp 2]) (hw.call _) hw.aG hw.aB func59 rfl rfl OF.2 rfl ?_;dsimp only[OF,bm,Nat.reduceAdd];refine gW ?_;refine cl [1] [0] 3 p.aa.length (fun i E H=>p.aa.all (fun a=>db a.name)=(p.aa.drop i).all (fun a=>db a.name)) eE aw ?_;rintro i E z hi Y Z m hsI hJ;(try simp only[bC,aZ,aW,aG,aY,Nat.reduceBEq, *]at Y);(try simp only[bC,aZ,aW,aG,aY, *]at Z);(try simp only[aU,ce,bR]at m);have hB0:(0 == z.next)=false:=ak ac;have hC0:(z.next == 0)=false:=ak ac;repeat' (first
  |(apply aj ?_;clear hK K)|apply aV ?_|(apply bz ?_ ?_<;>(intro hb hbp;try(cases hb;done)))|(apply am fun K hK=>?_)|fail)
 .have J:i<p.aa.length:=by simpa using hb
  have hgx:p.aa[i]?=some p.aa[i]:=bj J;have O:(p.aa.drop i).all (fun a=>db a.name)=(db p.aa[i].name&&(p.aa.drop (i+1)).all (fun a=>db a.name)):=xc;have hsm:p.aa[i].name.length<eA p.aa:=Jc (dm J);repeat' (first
   |(apply aj ?_;clear hK K)|apply aV ?_|(apply eu ?_;first|refine bK (kv _ ac _) ?_)|(apply bz ?_ ?_<;>(intro hb hbp;try(cases hb;done)))|(apply am fun K hK=>?_)|fail)
  all_goals (first|(refine⟨aB,_,aO,?_⟩;(try simp only[aA]);rw[ib,hJ,O];(try simp only[sF]at *);simp only[*,mB,];done)|skip)
  refine⟨ac,a0,a0,ca,xd,?_⟩;simp_all
 .have hie:i=p.aa.length:=by simp at hb;omega
  rw[hie,iJ,oY]at hJ;clear hb hie hsI hi;refine cl [1] [0] 4 p.funcs.length (fun i E H=>p.funcs.all ku=(p.funcs.drop i).all ku) eE aw ?_;rintro i E z hi Y Z m hsI hJ2;(try simp only[bC,aZ,aW,aG,Nat.reduceBEq, *]at Y);(try simp only[bC,aZ,aW, *]at Z);(try simp only[aU,bq,ce,bR,Nat.reduceAdd]at m);have hB0:(0 == z.next)=false:=ak ac;have hC0:(z.next == 0)=false:=ak ac;repeat' (first
   |(apply aj ?_;clear hK K)|apply aV ?_|(apply bz ?_ ?_<;>(intro hb hbp;try(cases hb;done)))|(apply am fun K hK=>?_)|fail)
  .have J:i<p.funcs.length:=by simpa using hb
   have hgx:p.funcs[i]?=some p.funcs[i]:=bj J;have O:(p.funcs.drop i).all ku=(ku p.funcs[i]&&(p.funcs.drop (i+1)).all ku):=xc;rw[ku]at O;have hsm:=oc (dm J);have hsz:p.funcs[i].sz=1+p.funcs[i].name.length+cP p.funcs[i].params+cP p.funcs[i].ak+bi p.funcs[i].body+p.funcs[i].value.sz:=rfl;have gh0:=@Ek;repeat' (first
    |(apply aj ?_;clear hK K)|apply aV ?_|(apply ci 10 [(1,5),(2,5),(4,5),(7,5),(7,8)] fun K hK=>?_)|(apply bD ?_;try intro _)|fail)
   generalize U:Hp.alloc _ (HB.cells [AV.aj p.funcs[i].name] 0 true)=H4;have n4:H4.next=z.next+2:=yr
   have g4:H4.get z.next=some (.cells p.funcs[i].cells 0 true):=by rw[<-U];clear U;exact AH
   have g40:H4.get 0=some (.cells p.cells 0 true):=by
    rw[<-U,aD,af iX,aM,af ac,aD,af ac];exact Z
   have g41:H4.get (z.next+1)=some (.cells [.aj p.funcs[i].name] 0 true):=by rw[<-U];clear U;exact AH
   have s4:dU H4 (.sl (z.next+1) 0 1 1) [p.funcs[i].name] (z.next+1):=⟨z.next+1,0,rfl,g41,aw,ay _,ac⟩;have hpl:=iU p.funcs[i].params;have hll:=iU p.funcs[i].ak;obtain⟨v5,H5,a5,s5,n5,f5,_⟩:=yn p.funcs[i].params s4 ac cb;have g5:H5.get z.next=some (.cells p.funcs[i].cells 0 true):=by rw[f5 _ (bT _)];exact g4
   have g50:H5.get 0=some (.cells p.cells 0 true):=by rw[f5 _ ac];exact g40
   refine kO dY dY (by rw[V];exact a5) ?_;refine rB ?_;obtain⟨v6,H6,a6,s6,n6,f6,_⟩:=yn p.funcs[i].ak s5 ac cb;have g6:H6.get z.next=some (.cells p.funcs[i].cells 0 true):=by rw[f6 _ (bT _)];exact g5
   have g60:H6.get 0=some (.cells p.cells 0 true):=by rw[f6 _ ac];exact g50
   refine kO dY dY (by rw[V];exact a6) ?_;refine Cc ?_ ?_
   .exact cn
   .have s6':dU H6 v6 (fnNames p.funcs[i]) (z.next+1):=s6;have hfl:(fnNames p.funcs[i]).length<2^61:=by simp[fnNames];omega
    have hfm:∀s∈fnNames p.funcs[i],s.length<2^60:=fun s C=>by
     rcases nT.1 C with C|C
     .rcases nT.1 C with C|C
      .simp at C;subst C;omega
      .have:=DQ C;omega
     .have:=DQ C;omega
    clear s6 a6 f6 a5 f5 s5 s4;generalize fnNames p.funcs[i]=ns at *;have hln:=fun H'=>s6'.len (H':=H');refine cl [1,4,5,6] [0,z.next] 7 ns.length (fun j E H=>ns.all db=(ns.drop j).all db/\dU H v6 ns (z.next+1)) eE ⟨aw,s6'⟩ ?_;rintro j E3 H3 hj Y Z m hsI ⟨hJ3,s7⟩;(try simp only[bC,aZ,aW,aG,aY,Nat.reduceBEq, *]at Y);(try simp only[bC,aZ,aW, *]at Z);(try simp only[aU,bq,ce,bR,Nat.reduceAdd]at m);have hB0:(0 == H3.next)=false:=ak ac;have hC0:(H3.next == 0)=false:=ak ac;have hB1:(z.next == H3.next)=false:=ak ac;have hC1:(H3.next == z.next)=false:=ak ac;repeat' (first
     |(apply aj ?_;clear hK K)|apply aV ?_|(apply eu ?_;first|refine bK (kw _ ac _) ?_|refine bK (ks _ ac _) ?_)|(apply cL ?_ ?_<;>(intro hg hgp;try(cases hg;done)))|(apply bz ?_ ?_<;>(intro hb hbp;try(cases hb;done)))|(apply am fun K hK=>?_)|fail)
    .have I:j<ns.length:=by simpa using hb
     obtain⟨q,ia,ld⟩:=s7.at I;have hdr2:(ns.drop j).all db=(db ns[j]&&(ns.drop (j+1)).all db):=by rw[gI I,rS]
     have hq:=hfm _ (dm I);repeat' (first
      |(apply aj ?_;clear hK K)|apply aV ?_|(apply eu ?_;first|refine bK (kv _ hq _) ?_)|(apply bz ?_ ?_<;>(intro hb hbp;try(cases hb;done)))|(apply am fun K hK=>?_)|fail)
     all_goals (first|(refine⟨aB,_,aO,?_⟩;(try simp only[aA]);rw[ib,hJ,hJ2,O,hJ3,hdr2];(try simp only[sF]at *);simp only[ *,kT,];done)|skip)
     refine⟨ac,a0,a0,ca,(by simp only[aG,Nat.reduceBEq, *];exact hZ (n:=ns.length) ac ac),?_⟩;exact⟨by rw[hJ3,hdr2];(try simp only[uj]at *);simp only[*,ja,],s7⟩
    all_goals
     have hje:j=ns.length:=ac;rw[hje,iJ,oY]at hJ3
    all_goals (first|(refine⟨aB,_,aO,?_⟩;(try simp only[aA]);rw[ib,hJ,hJ2,O,hJ3];(try simp only[iK]at *);simp only[ *,kT,hT,];done)|skip)
    refine⟨ac,a0,a0,ca,oh,?_⟩;simp_all
  .all_goals refine qq ?_
   have hie:i=p.funcs.length:=uh;rw[hie,iJ,oY]at hJ2;rw[ib,hJ,hJ2];simp_all)
end
section
def tyR3g.tyF:=ad @cr (ad @cK (ad @fW (ad @gh (ad @eL (ad @et (ad @dV (ad @dD (ad @jb (ad @jx (ad @Ek (@OH)))))))))))
open tyR3g
noncomputable def OI:{c:SC // aE 85 (f60.body.getD .skip)=c}:=by
 refine⟨?_,?_⟩;rotate_left
 .simp only[f60,bN,aE,bH,bw,bM,bJ,Nat.blt,Nat.ble];rfl
def cT:qx->qx->Bool
 |_,[]=>false
 |seen,s::l=>bE seen s||cT (seen++[s]) l
def ow(I:qx):qx->qN->Bool
 |_,[]=>false
 |seen,f::fs=>bE seen f.name||cT I (f.params++f.ak)||ow I (seen++[f.name]) fs
def bF(p:Pr):qx:=p.aa.map (·.name)
def ky(p:Pr):Bool:=cT [] (bF p)||ow (bF p) [] p.funcs
def ul(l seen:List I)(i:Nat):Prop:=l=seen++l.drop i
def OJ{I:Type}{l seen:List I}{i:Nat}(h:i<l.length)(e:ul l seen i):ul l (seen++[l[i]]) (i+1):=by
 unfold ul at *;rw[mV,Hf,<-gI h];exact e
theorem zb0(p:Pr)(hz:p.sz<2^36):bX prog ρ 60 [.agg p.cells] (.bool (ky p)):=fB fit (pls:=pls) (l:=[sT]) ⟨IL ρ,trivial⟩ (.cons (.agg p.pure) .nil) (.bool _) (by
 have hw:zd0 (au pls [sT]) 60:=ei (fun _=>rfl) rfl;have Y:(au pls [sT]).keep 60=false:=rfl;have hpz:p.sz=1+eA p.aa+dO p.funcs:=rfl;have hla:=m1 p.aa;have hlf:=m0 p.funcs;have hal:(bF p).length=p.aa.length:=vy;refine bp (M:=85) (rs:=[.tmp 2]) (hw.call _) hw.aG hw.aB func60 rfl rfl OI.2 rfl ?_;dsimp only[OI,bm,Nat.reduceAdd];refine dJ ?_;refine cl [1] [0] 5 p.aa.length (fun i E H=>E.at 4=.ag/\∃v seen,E.at 3=v/\ej H v seen 1/\cT [] (bF p)=cT seen ((bF p).drop i)/\ul (bF p) seen i) eE ⟨eE,.ag,[],eE,.inl ⟨rfl,rfl⟩,aw,by simp[ul]⟩ ?_;rintro i E H2 hi hcE hrH hnH hsI ⟨k4,v,seen,k3,s2,hJ,I⟩;(try simp only[bC,aZ,aW,aG,aY,Nat.reduceBEq, *]at hcE);(try simp only[bC,aZ,aW,aG,aY, *]at hrH);(try simp only[aU,ce,bR]at hnH);have hB0:(0 == H2.next)=false:=ak ac;have hC0:(H2.next == 0)=false:=ak ac;have hsl:seen.length<=p.aa.length:=by have:bF p=seen++(bF p).drop i:=I;grind
 repeat' (first
  |(apply aj ?_;clear hK K)|apply aV ?_|(apply bz ?_ ?_<;>(intro hb hbp;try(cases hb;done)))|(apply am fun K hK=>?_)|fail)
 .have hlt:i<p.aa.length:=by simpa using hb
  have hgx:p.aa[i]?=some p.aa[i]:=bj hlt;have hgn:(bF p)[i]' ac=p.aa[i].name:=vy;have hdr:cT seen ((bF p).drop i)=(bE seen p.aa[i].name||cT (seen++[p.aa[i].name]) ((bF p).drop (i+1))):=by rw[gI ac,hgn];rfl
  have hsn2:=OJ ac I;rw[hgn]at hsn2;refine dJ ?_;refine qc ?_;refine aF ?_ (IM (fun _=>rfl) rfl s2 ac p.aa[i].name);rintro w H3 ⟨rfl,s3,n3,f3,o3⟩;have m3:H2.next<=H3.next:=ac
  clear n3;dsimp only[aC];have g30:H3.get 0=some (.cells p.cells 0 true):=aX;have e1:(0 == H3.next)=false:=cb;have s4:ej (H3.alloc (.cells [.aj p.aa[i].name] 0 true)) v seen 1:=s3.keep (cG _) fun k z=>by rw[aD,af (by have:=s3.lt z;omega)]
  repeat' (first
   |(apply aj ?_;clear hK K)|apply aV ?_|(apply bz ?_ ?_<;>(intro hb hbp;try(cases hb;done)))|(apply am fun K hK=>?_)|fail)
  .all_goals refine qq ?_
   rw[ky,hJ,hdr];simp_all
  .obtain⟨v5,H5,a5,s5,n5,f5,o5⟩:=w1 (r:=H3.next) (imm:=0) p.aa[i].name s4 cB fc ac;have g50:H5.get 0=some (.cells p.cells 0 true):=by rw[f5 0 ac,aD,af ac];exact g30
   simp only[aU]at n5;have m5:H3.next+1<=H5.next:=ac
   clear n5;refine kO dY dY (by rw[Y];exact a5) ?_;refine dJ ?_;refine⟨ac,a0,a0,ca,xd,?_⟩;exact⟨eE,v5,seen++[p.aa[i].name],eE,.inr s5,bb,hsn2⟩
 .have hie:i=(bF p).length:=by simp at hb;omega
  unfold ul at I;rw[hie,iJ]at hJ I;rw[aS]at I;have hJ':cT [] (bF p)=false:=hJ;rw[<-I]at s2;clear hJ hie hsI hi hsl I;clear seen;have c3:∀k,aN v k->k<H2.next:=fun k z=>(s2.lt z).2
  refine cl [1,3] [0] 6 p.funcs.length (fun i E H=>∃u seen,E.at 4=u/\ej H u seen H2.next/\ej H v (bF p) 1/\ow (bF p) [] p.funcs=ow (bF p) seen (p.funcs.drop i)/\seen.length=i) eE ⟨.ag,[],eE,.inl ⟨rfl,rfl⟩,s2,aw,rfl⟩ ?_;rintro i E m hi hcE hrH hnH hsI ⟨u,seen,k4',s4,t4,hJ2,hsl⟩;(try simp only[bC,aZ,aW,aG,Nat.reduceBEq, *]at hcE);(try simp only[bC,aZ,aW, *]at hrH);(try simp only[aU,bq,ce,bR,Nat.reduceAdd]at hnH);have hB0:(0 == m.next)=false:=ak ac;have hC0:(m.next == 0)=false:=ak ac;repeat' (first
   |(apply aj ?_;clear hK K)|apply aV ?_|(apply bz ?_ ?_<;>(intro hb hbp;try(cases hb;done)))|(apply am fun K hK=>?_)|fail)
  .have hlt:i<p.funcs.length:=by simpa using hb
   have hgx:p.funcs[i]?=some p.funcs[i]:=bj hlt;have hsm:=oc (dm hlt);have hsz:p.funcs[i].sz=1+p.funcs[i].name.length+cP p.funcs[i].params+cP p.funcs[i].ak+bi p.funcs[i].body+p.funcs[i].value.sz:=rfl;have hdr:ow (bF p) seen (p.funcs.drop i)=(bE seen p.funcs[i].name||cT (bF p) (p.funcs[i].params++p.funcs[i].ak)||ow (bF p) (seen++[p.funcs[i].name]) (p.funcs.drop (i+1))):=by rw[gI hlt];rfl
   refine GB fun K hK=>?_;generalize hHb:Hp.set (Hp.alloc m _) m.next _=Hb
   have nb:m.next<Hb.next:=by rw[<-hHb];exact bT _
   have oldb:∀k,k<m.next->Hb.get k=m.get k:=fun k z=>by rw[<-hHb,aM,af ac,aD,af ac]
   have gb:Hb.get m.next=some (.cells p.funcs[i].cells 0 true):=by rw[<-hHb,aM,ai rfl]
   have gb0:Hb.get 0=some (.cells p.cells 0 true):=aX;have s4b:ej Hb u seen H2.next:=s4.keep ac fun k z=>oldb k (s4.lt z).2
   have t4b:ej Hb v (bF p) 1:=t4.keep ac fun k z=>oldb k (t4.lt z).2;have nou:¬aN u m.next:=fun h=>by have:=(s4.lt h).2;omega
   clear hHb;refine qc ?_;refine aF ?_ (IM (fun _=>rfl) rfl s4b ac p.funcs[i].name);rintro w H5 ⟨rfl,s5,n5,f5,o5⟩;have m5:Hb.next<=H5.next:=ac
   clear n5;dsimp only[aC];have g5:H5.get m.next=some (.cells p.funcs[i].cells 0 true):=by rw[o5 _ nou];exact gb
   have g50:H5.get 0=some (.cells p.cells 0 true):=aX;have t5:ej H5 v (bF p) 1:=t4b.keep ac fun k z=>f5 k (c3 k z);have e5:(m.next == H5.next)=false:=cb;repeat' (first
    |(apply aj ?_;clear hK K)|apply aV ?_|(apply bz ?_ ?_<;>(intro hb hbp;try(cases hb;done)))|(apply am fun K hK=>?_)|fail)
   .all_goals refine qq ?_
    rw[ky,hJ',hJ2,hdr];simp_all
   have old5:∀k,k<H5.next->(H5.alloc (.cells [.aj p.funcs[i].name] 0 true)).get k=H5.get k:=fun k z=>em
   have s5b:ej (H5.alloc (.cells [.aj p.funcs[i].name] 0 true)) u seen H2.next:=s5.keep (cG _) fun k z=>old5 k (s5.lt z).2
   obtain⟨u6,O,a6,s6,n6,f6,o6⟩:=w1 (r:=H5.next) (imm:=0) p.funcs[i].name s5b cB fc ac;simp only[aU]at n6;have m6:H5.next+2<=O.next:=ac
   clear n6;have g6:O.get m.next=some (.cells p.funcs[i].cells 0 true):=by rw[o6.1 _ cB nou,old5 _ ac];exact g5
   have g60:O.get 0=some (.cells p.cells 0 true):=aX;have t6:ej O v (bF p) 1:=t5.keep ac fun k z=>aX;refine kO dY dY (by rw[Y];exact a6) ?_;refine GB fun K hK=>?_;have old6:∀k,k<O.next->(O.alloc qf).get k=O.get k:=fun k z=>em
   have s7:dU (O.alloc qf) (.sl O.next 0 0 1) [] O.next:=⟨O.next,0,rfl,dZ,aw,ay _,bT _⟩
   have t7:ej (O.alloc qf) v (bF p) 1:=t6.keep (cG _) fun k z=>old6 k (t6.lt z).2;obtain⟨w8,C,a8,s8,n8,f8,o8⟩:=zbb s7 (cG _) t7 cb;simp only[aU]at n8;have g8:C.get m.next=some (.cells p.funcs[i].cells 0 true):=aX
   have g80:C.get 0=some (.cells p.cells 0 true):=aX;have t8:ej C v (bF p) 1:=t6.keep ac fun k z=>aX;have u8:dU C u6 (seen++[p.funcs[i].name]) H2.next:=s6.keep ac fun k z=>by rw[f8 k (s6.lt z).2,old6 _ (s6.lt z).2]
   refine kO dY dY (by rw[Y];exact a8) ?_;have e8:(m.next == C.next)=false:=cb;refine GB fun K hK=>?_;have old8:∀k,k<C.next->(C.alloc qf).get k=C.get k:=fun k z=>em
   have s9:dU (C.alloc qf) (.sl C.next 0 0 1) [] C.next:=⟨C.next,0,rfl,dZ,aw,ay _,bT _⟩
   have g9a:(C.alloc qf).get m.next=some (.cells p.funcs[i].cells 0 true):=aX
   have g9b:(C.alloc qf).get C.next=some qf:=fc
   have hpl:=iU p.funcs[i].params;have hll:=iU p.funcs[i].ak;obtain⟨w9,H9,a9,s10,n9,f9,_⟩:=yn p.funcs[i].params s9 (cG _) cb;simp only[aU]at n9;have g9:H9.get m.next=some (.cells p.funcs[i].cells 0 true):=aX
   refine kO dY dY (by rw[Y];exact a9) ?_;refine rB ?_;obtain⟨w11,J,a11,s11,n11,f11,_⟩:=yn p.funcs[i].ak s10 ac cb;have g11:J.get m.next=some (.cells p.funcs[i].cells 0 true):=aX
   refine kO dY dY (by rw[Y];exact a11) ?_;refine Cc ?_ ?_
   .exact cn
   .have old11:∀k,k<C.next->J.get k=C.get k:=fun k z=>by simp_all
    have g110:J.get 0=some (.cells p.cells 0 true):=aX;have u11:dU J u6 (seen++[p.funcs[i].name]) H2.next:=u8.keep ac fun k z=>old11 k (u8.lt z).2
    have v11:ej J v (bF p) 1:=t8.keep ac fun k z=>old11 k (t8.lt z).2;have q11:dU J w8 (bF p) O.next:=s8.keep ac fun k z=>old11 k (s8.lt z).2
    have c8:∀k,aN w8 k->k<C.next:=fun k z=>(s8.lt z).2
    have cu:∀k,aN u6 k->k<O.next:=fun k z=>(s6.lt z).2
    have s11':dU J w11 (p.funcs[i].params++p.funcs[i].ak) C.next:=s11
    have hfl:(p.funcs[i].params++p.funcs[i].ak).length<2^38:=cb;have m11:C.next+1<=J.next:=ac
    have m8:O.next+1<=C.next:=ac
    clear s11 a11 f11 a9 f9 s10 s9 a8 f8 s8 a6 f6 s6 n9 n11 o8 o6 s7 t7 old8 old6 old5 s5b t8 u8 t6 t5 g9 g9a g9b g8 g6 g5 e8 e5;generalize p.funcs[i].params++p.funcs[i].ak=U at *;have hln:=fun H'=>s11'.len (H':=H');refine cl [1,3,4,6,7,9] [0] 10 U.length (fun j E H=>∃w Z,E.at 8=w/\dU H w Z O.next/\(∀k,aN w k->¬aN w11 k)/\dU H w11 U C.next/\ej H v (bF p) 1/\dU H u6 (seen++[p.funcs[i].name]) H2.next/\cT (bF p) U=cT Z (U.drop j)/\Z.length=(bF p).length+j) eE ⟨w8,bF p,eE,q11,fun k h1 h2=>by have:=c8 k h1;have:=(s11'.lt h2).1;omega,s11',v11,u11,aw,rfl⟩ ?_;rintro j E3 H12 hj hcE hrH hnH hsI ⟨w,Z,k8,q12,hno,r12,v12,u12,hJ3,hsl2⟩;(try simp only[bC,aZ,aW,aG,aY,Nat.reduceBEq, *]at hcE);(try simp only[bC,aZ,aW, *]at hrH);(try simp only[aU,bq,ce,bR,Nat.reduceAdd]at hnH);have hB0:(0 == H12.next)=false:=ak ac;have hC0:(H12.next == 0)=false:=ak ac;repeat' (first
     |(apply aj ?_;clear hK K)|apply aV ?_|(apply bz ?_ ?_<;>(intro hb hbp;try(cases hb;done)))|(apply am fun K hK=>?_)|fail)
    .have hlt2:j<U.length:=by simpa using hb
     obtain⟨q,ia,ld⟩:=r12.at hlt2;have hdr2:cT Z (U.drop j)=(bE Z U[j]||cT (Z++[U[j]]) (U.drop (j+1))):=by rw[gI hlt2];rfl
     refine dJ ?_;refine qc ?_;refine aF ?_ (IM (fun _=>rfl) rfl (.inr q12) ac U[j]);rintro w0 V ⟨rfl,s13,n13,f13,o13⟩;have m13:H12.next<=V.next:=ac
     clear n13;dsimp only[aC];have g130:V.get 0=some (.cells p.cells 0 true):=aX;have r13:dU V w11 U C.next:=r12.keep m13 fun k z=>o13 k fun h=>hno k h z
     have v13:ej V v (bF p) 1:=v12.keep m13 fun k z=>f13 k (by have:=c3 k z;omega);have u13:dU V u6 (seen++[p.funcs[i].name]) H2.next:=u12.keep m13 fun k z=>f13 k (cu k z)
     clear ia ld;obtain⟨q2,ia2,ld2⟩:=r13.at hlt2;repeat' (first
      |(apply aj ?_;clear hK K)|apply aV ?_|(apply bz ?_ ?_<;>(intro hb hbp;try(cases hb;done)))|(apply am fun K hK=>?_)|fail)
     .all_goals refine qq ?_
      rw[ky,hJ',hJ2,hdr,hJ3,hdr2];simp_all
     have old13:∀k,k<V.next->(V.alloc (.cells [.aj U[j]] 0 true)).get k=V.get k:=fun k z=>em
     have s13b:ej (V.alloc (.cells [.aj U[j]] 0 true)) w Z O.next:=s13.keep (cG _) fun k z=>old13 k (s13.lt z).2
     obtain⟨w14,H14,a14,s14,n14,f14,o14⟩:=w1 (r:=V.next) (imm:=0) U[j] s13b cB fc ac;simp only[aU]at n14;have m14:V.next+2<=H14.next:=ac
     clear n14;have g140:H14.get 0=some (.cells p.cells 0 true):=aX;refine kO dY dY (by rw[Y];exact a14) ?_;refine dJ ?_;refine⟨ac,a0,a0,ca,(by simp only[aG,Nat.reduceBEq, *];exact hZ (n:=U.length) ac ac),?_⟩;refine⟨w14,Z++[U[j]],eE,s14,fun k h1 h2=>?_,?_,?_,?_,bb,by simp[hsl2];omega⟩
     .have z:=(r13.lt h2).2;rcases o14.2 k h1 with h3|h3
      .exact hno k h3 h2
      .simp only[aU]at h3;omega
     .refine r13.keep ac fun k z=>?_;have hl:=(r13.lt z).2;rw[o14.1 k cB (fun h=>hno k h z),old13 k hl]
     .exact v13.keep ac fun k z=>aX
     .exact u13.keep ac fun k z=>aX
    .have hje:j=U.length:=by simp at hb;omega
     rw[hje,iJ]at hJ3;have hJ3':cT (bF p) U=false:=hJ3;refine⟨ac,a0,a0,ca,oh,?_⟩;exact⟨u6,seen++[p.funcs[i].name],eE,.inr u12,v12,bb,by simp[hsl]⟩
  .all_goals refine qq ?_
   have hie:i=p.funcs.length:=uh;rw[hie,iJ]at hJ2;have hJ2':ow (bF p) [] p.funcs=false:=hJ2;rw[ky,hJ',hJ2'];rfl)
end
section
def tyR3h.tyF:=ad @dQ (ad @cr (ad @cK (ad @eL (ad @et (ad @dR (ad @dD (ad @Ii (ad @fW (ad @gh (ad @dV (@eh)))))))))))
open tyR3h
noncomputable def OK:{c:SC // aE 43 (f62.body.getD .skip)=c}:=by
 refine⟨?_,?_⟩;rotate_left
 .simp only[f62,bN,aE,bH,bw,bM,bJ,Nat.blt,Nat.ble];rfl
noncomputable def OL:{c:SC // aE 64 (f109.body.getD .skip)=c}:=by
 refine⟨?_,?_⟩;rotate_left
 .simp only[f109,bN,aE,bH,bw,bM,bJ,Nat.blt,Nat.ble];rfl
structure Sc where
 vars:qx
 aa:Option qx
 p:Pr
def Sc.an(x:Sc):qx:=x.aa.getD []
def sW:Option qx->AV
 |none=>.ag
 |some l=>cH l
def Sc.cells(x:Sc):qu:=[cH x.vars,sW x.aa,.az (x.p.aa.map Ar.cells),.az (x.p.funcs.map Fu.cells)]
def Sc.ok(x:Sc):Prop:=x.vars.length<2^60/\x.an.length<2^60/\x.p.sz<2^60
theorem Sc.c0(x:Sc):x.cells[0]?=some (cH x.vars):=rfl
theorem Sc.c1(x:Sc):x.cells[1]?=some (sW x.aa):=rfl
theorem Sc.bu(x:Sc):cq 4 x.cells=some (.agg x.cells):=rfl
def A3:=@Sc.bu
theorem OM(x:Sc):cq 2 (x.cells.drop 2)=some (.agg x.p.cells):=rfl
def zb1(a:Option qx):fQ (sW a):=by
 cases a with
 |none=>exact .ag
 |some l=>exact vh l
def Sc.pure(x:Sc):gl x.cells:=.cons (vh _) (.cons (zb1 _) x.p.pure)
def zb2{a b:Option qx}(h:sW a=sW b):a=b:=by
 cases a<;>cases b<;>simp only[sW,reduceCtorEq,AV.az.injEq]at h
 .rfl
 .rw[wW h]
def Sc.inj{x y:Sc}(h:x.cells=y.cells):x=y:=by
 obtain⟨v,a,p⟩:=x;obtain⟨Z,U,Y⟩:=y;simp only[Sc.cells,eJ,AV.az.injEq,aW]at h;obtain⟨m,j,C,V⟩:=h;rw[wW m,zb2 j,Pr.inj (x:=p) (y:=Y) (by simp[Pr.cells,C,V])]
section
variable (vs an:qx)
def iZ(x:Ex):Bool:=(!decide (x.am=2)||bE vs x.name)&&(!decide (x.am=3)||bE an x.name)
mutual
def ev:Ex->Bool
 | .mk k n s o C=>fg C&&iZ vs an (.mk k n s o C)
def fg:qI->Bool
 |[]=>true
 |e::es=>ev e&&fg es
end
theorem A4(x:Ex):ev vs an x=(fg vs an x.ao&&iZ vs an x):=by cases x;rw[ev];rfl
end
def re(x:Sc×Ex):qu:=[.agg x.1.cells,.agg x.2.cells]
def El(x y:Sc×Ex)(h:re x=re y):x=y:=by
 simp only[re,eJ,AV.agg.injEq,aW]at h;exact ub (Sc.inj h.1) (Ex.inj h.2)
def Em{l:qC}(O:∀J,dE l 107 J=sT.sp J)(a:Option qx)(Z:(a.getD []).length<2^60)(s:qA)(H:Hp):
 aR prog (au pls l) 107 [sW a,.aj s] H fun v H'=>v=.bool (bE (a.getD []) s)/\H'=H:=by
 have:=cV (P:=prog) (pls:=pls) (l:=l) (enc:=ud) (ok:=fun x=>(x.1.getD []).length<2^60) (out:=fun x=>.bool (bE (x.1.getD []) x.2)) IK (g:=107) (x:=(a,s)) (O _) Z (H:=H);cases a<;>exact this
def zb3:∀x:Sc×Ex,(x.1.ok/\x.2.sz<2^60)->bX prog ρ 62 (re x) (.bool (ev x.1.vars x.1.an x.2)):=
 wV fit (pls:=pls) (l:=[sT]) ⟨IL ρ,trivial⟩ (fun x=>x.2.sz) (ok:=fun x=>x.1.ok/\x.2.sz<2^60) (enc:=re) (out:=fun x=>.bool (ev x.1.vars x.1.an x.2)) (fun x _=>.cons (.agg x.1.pure) (.cons (.agg x.2.pure) .nil)) (fun x _=>.bool _) (fun x hx=>by
 have Z:=uc (sz:=fun x:Sc×Ex=>x.2.sz) (ok:=fun x=>x.1.ok/\x.2.sz<2^60) (out:=fun x=>.bool (ev x.1.vars x.1.an x.2)) El (f:=62) (l:=[sT]) x;generalize O:(⟨62,false,co (fun y=>(y.1.ok/\y.2.sz<2^60)/\y.2.sz<x.2.sz) re fun x=>.bool (ev x.1.vars x.1.an x.2)⟩:En)::[sT]=l at Z⊢;obtain⟨c,x⟩:=x;obtain⟨hc,hx⟩:=hx;simp only[]at hx hc;have kr:∀y:Ex,y.sz<x.sz->∀H,aR prog (au pls l) 62 [.agg c.cells,.agg y.cells] H fun v H'=>v=.bool (ev c.vars c.an y)/\H'=H:=fun y h2 H=>by
  subst O;exact cV (enc:=re) (out:=fun x=>.bool (ev x.1.vars x.1.an x.2)) El (x:=(c,y)) rfl ⟨⟨hc,vz⟩,h2⟩
 have kv:∀s H,aR prog (au pls l) 107 [cH c.vars,.aj s] H fun v H'=>v=.bool (bE c.vars s)/\H'=H:=fun s H=>by
  subst O;exact Em (fun _=>rfl) (some c.vars) hc.1 s H
 have ka:∀s H,aR prog (au pls l) 107 [sW c.aa,.aj s] H fun v H'=>v=.bool (bE c.an s)/\H'=H:=fun s H=>by
  subst O;exact Em (fun _=>rfl) c.aa hc.2.1 s H
 have hsz:=x.aV;have hlen:=mY x.ao;change aR _ _ _ [.agg c.cells,.agg x.cells] _ _;refine bp (M:=43) (rs:=[.tmp 4]) Z.call Z.aG Z.aB func62 rfl rfl OK.2 rfl ?_;dsimp only[OK,bm,Nat.reduceAdd];refine jH ?_;refine cl [2,3] [0,1] 5 x.ao.length (fun i E H=>fg c.vars c.an x.ao=fg c.vars c.an (x.ao.drop i)) eE aw ?_;rintro i E z hi Y j m hsI U;(try simp only[bC,aZ,aW,aG,aY,Nat.reduceBEq, *]at Y);(try simp only[bC,aZ,aW,aG,aY,Nat.reduceBEq, *]at j);(try simp only[aU,ce,bR,Nat.reduceAdd]at m);have hB0:(0 == z.next)=false:=ak ac;have hC0:(z.next == 0)=false:=ak ac;have hB1:(1 == z.next)=false:=ak ac;have hC1:(z.next == 1)=false:=ak ac;have V:=@Sc.c0;have gh1:=@Sc.c1;have gh2:=@A3;repeat' (first
  |(apply aj ?_;clear hK K)|apply aV ?_|(apply eu ?_;first|refine bK (kv _ _) ?_|refine bK (ka _ _) ?_)|(apply cL ?_ ?_<;>(intro hg hgp;try(cases hg;done)))|(apply bz ?_ ?_<;>(intro hb hbp;try(cases hb;done)))|(apply am fun K hK=>?_)|(apply ci 4 [(0,6),(2,6),(5,6)] fun K hK=>?_)|(apply bD ?_;try intro _)|fail)
 .have J:i<x.ao.length:=by simpa using hb
  have hgx:x.ao[i]?=some x.ao[i]:=bj J;have hm:=n1 (dm J);have I:fg c.vars c.an (x.ao.drop i)=(ev c.vars c.an x.ao[i]&&fg c.vars c.an (x.ao.drop (i+1))):=og;have V:=@A3;repeat' (first
   |(apply aj ?_;clear hK K)|apply aV ?_|(apply eu ?_;first|refine bK (kr _ ac _) ?_)|(apply bz ?_ ?_<;>(intro hb hbp;try(cases hb;done)))|(apply am fun K hK=>?_)|(apply bD ?_;try intro _)|(apply ch ?_ ?_<;>clear hK K)|fail)
  .exact cn
  all_goals (first|(refine⟨aB,_,aO,?_⟩;(try simp only[aA]);rw[A4,U,I];(try simp only[sF]at *);simp only[*,mB,];done)|skip)
  refine⟨ac,a0,a0,ca,IB,?_⟩;simp_all
 all_goals
  have C:i=x.ao.length:=ac;rw[C,iJ]at U;have hJ':fg c.vars c.an x.ao=true:=U;clear U;all_goals refine qq ?_
  rw[A4,hJ',iZ];(try simp only[iK]at *);simp only[ *,mp,mW,nU,uk,kT,p9,wH,ll,])
def kA(c:Sc)(x:St):Bool:=
 if x.am=1 then bE c.vars x.name
 else if x.am=6 then bE c.vars x.name&&decide (0<=cJ c.p.funcs x.to 0)
 else if x.am=2 then bE c.an x.name
 else true
def jP(c:Sc)(x:St):Bool:=fg c.vars c.an x.args&&ev c.vars c.an x.a8&&ev c.vars c.an x.value&&kA c x
def A5(x:Sc×St):qu:=[.agg x.1.cells,.agg x.2.cells]
def zb4(x y:Sc×St)(h:A5 x=A5 y):x=y:=by
 simp only[A5,eJ,AV.agg.injEq,aW]at h;exact ub (Sc.inj h.1) (St.inj h.2)
noncomputable def Jd:En:=⟨62,true,co (fun x=>x.1.ok/\x.2.sz<2^60) re fun x=>.bool (ev x.1.vars x.1.an x.2)⟩
def ON:dI prog ρ Jd:=dT fun x hx=>zb3 ρ x hx
def xh(x:Pr×qA):qu:=[.agg x.1.cells,.aj x.2]
def Je(x y:Pr×qA)(h:xh x=xh y):x=y:=by
 simp only[xh,eJ,AV.agg.injEq,AV.aj.injEq,aW]at h;exact ub (Pr.inj h.1) h.2
noncomputable def yw:En:=⟨108,false,co (fun x=>x.1.funcs.length<2^60) xh fun x=>.int .i64 (cJ x.1.funcs x.2 0)⟩
def Jf:dI prog ρ yw:=dT fun x hx=>za4 ρ x.1 x.2 hx
noncomputable def yx:qC:=[sT,yw,Jd]
def zb5:gT prog ρ yx:=⟨IL ρ,Jf ρ,ON ρ,trivial⟩
theorem zb6(c:Sc)(x:St)(Z:c.ok)(hx:x.sz<2^60):bX prog ρ 109 [.agg c.cells,.agg x.cells] (.bool (jP c x)):=fB fit (pls:=pls) (zb5 ρ) (.cons (.agg c.pure) (.cons (.agg x.pure) .nil)) (.bool _) (by
 have V:zd0 (au pls yx) 109:=ei (fun _=>rfl) rfl;have kr:∀y:Ex,y.sz<2^60->∀H,aR prog (au pls yx) 62 [.agg c.cells,.agg y.cells] H fun v H'=>v=.bool (ev c.vars c.an y)/\H'=H:=fun y h2 H=>cV (enc:=re) (out:=fun x=>.bool (ev x.1.vars x.1.an x.2)) El (x:=(c,y)) rfl ⟨Z,h2⟩;have kv:∀s H,aR prog (au pls yx) 107 [cH c.vars,.aj s] H fun v H'=>v=.bool (bE c.vars s)/\H'=H:=fun s H=>Em (fun _=>rfl) (some c.vars) Z.1 s H;have ka:∀s H,aR prog (au pls yx) 107 [sW c.aa,.aj s] H fun v H'=>v=.bool (bE c.an s)/\H'=H:=fun s H=>Em (fun _=>rfl) c.aa Z.2.1 s H;have O:c.p.funcs.length<2^60:=by have h:=Z.2.2;have h2:c.p.sz=1+eA c.p.aa+dO c.p.funcs:=rfl;have:=m0 c.p.funcs;omega
 have kf:∀s H,aR prog (au pls yx) 108 [.agg c.p.cells,.aj s] H fun v H'=>v=.int .i64 (cJ c.p.funcs s 0)/\H'=H:=fun s H=>cV (enc:=xh) (out:=fun x=>.int .i64 (cJ x.1.funcs x.2 0)) Je (x:=(c.p,s)) rfl O;have hsz:=x.aV;have hlen:=mY x.args;refine bp (M:=64) (rs:=[.tmp 4]) (V.call _) V.aG V.aB func109 rfl rfl OL.2 rfl ?_;dsimp only[OL,bm,Nat.reduceAdd];refine jH ?_;refine cl [2,3] [0,1] 5 x.args.length (fun i E H=>fg c.vars c.an x.args=fg c.vars c.an (x.args.drop i)) eE aw ?_;rintro i E z hi Y j m hsI U;(try simp only[bC,aZ,aW,aG,aY,Nat.reduceBEq, *]at Y);(try simp only[bC,aZ,aW,aG,aY,Nat.reduceBEq, *]at j);(try simp only[aU,ce,bR,Nat.reduceAdd]at m);have hB0:(0 == z.next)=false:=ak ac;have hC0:(z.next == 0)=false:=ak ac;have hB1:(1 == z.next)=false:=ak ac;have hC1:(z.next == 1)=false:=ak ac;have I:=@Sc.c0;have gh1:=@Sc.c1;have gh2:=@A3;have gh3:=@OM;repeat' (first
  |(apply aj ?_;clear hK K)|apply aV ?_|(apply eu ?_;first|refine bK (kr _ ac _) ?_|refine bK (kf _ _) ?_|refine bK (kv _ _) ?_|refine bK (ka _ _) ?_)|(apply cL ?_ ?_<;>(intro hg hgp;try(cases hg;done)))|(apply bz ?_ ?_<;>(intro hb hbp;try(cases hb;done)))|(apply am fun K hK=>?_)|(apply ci 4 [(0,6),(2,6),(5,6)] fun K hK=>?_)|(apply bD ?_;try intro _)|fail)
 .have J:i<x.args.length:=by simpa using hb
  have hgx:x.args[i]?=some x.args[i]:=bj J;have hm:=n1 (dm J);have C:fg c.vars c.an (x.args.drop i)=(ev c.vars c.an x.args[i]&&fg c.vars c.an (x.args.drop (i+1))):=og;have I:=@A3;repeat' (first
   |(apply aj ?_;clear hK K)|apply aV ?_|(apply eu ?_;first|refine bK (kr _ ac _) ?_)|(apply bz ?_ ?_<;>(intro hb hbp;try(cases hb;done)))|(apply am fun K hK=>?_)|(apply bD ?_;try intro _)|(apply ch ?_ ?_<;>clear hK K)|fail)
  .exact cn
  all_goals (first|(refine⟨aB,_,aO,?_⟩;(try simp only[aA]);rw[jP,U,C];(try simp only[sF]at *);simp only[*,mB,];done)|skip)
  refine⟨ac,a0,a0,ca,AY,?_⟩;simp_all
 all_goals
  have hie:i=x.args.length:=ac;rw[hie,iJ]at U;have hJ':fg c.vars c.an x.args=true:=U;clear U;all_goals refine qq ?_
  rw[jP,hJ',kA];(try simp only[iK]at *);simp only[ *,kT,p9,ft,fG,Int.reduceEq])
end
section
def tyR3i.tyF:=ad @cr (ad @cK (ad @fW (ad @gh (ad @eL (ad @et (ad @dV (ad @dR (ad @dD (ad @jb (ad @eh (ad @Ii (ad @OM (@A3)))))))))))))
open tyR3i
noncomputable def OO:{c:SC // aE 59 (f61.body.getD .skip)=c}:=by
 refine⟨?_,?_⟩;rotate_left
 .simp only[f61,bN,aE,bH,bw,bM,bJ,Nat.blt,Nat.ble];rfl
def pe(p:Pr)(s:qA):Nat:=((p.funcs[(cJ p.funcs s 0).toNat]?).map fun f=>f.params.length).getD 0
def lB(p:Pr)(x:St):Bool:=!(decide (x.am=6) && !decide ((x.args.length:Int)=pe p x.to))
section
variable (c:Sc)
mutual
def gm(b:Bool):St->Bool
 | .mk k Z J n a v V M O=>(bif b then lB c.p (.mk k Z J n a v V M O)else jP c (.mk k Z J n a v V M O))&&dh b M&&dh b O
def dh(b:Bool):qD->Bool
 |[]=>true
 |x::l=>gm b x&&dh b l
end
theorem Ba(b:Bool)(x:St):gm c b x=((bif b then lB c.p x else jP c x)&&dh c b x.bl&&dh c b x.bA):=by cases x;rw[gm];rfl
end
section
variable (p:Pr)
mutual
def yy:St->Bool
 | .mk k Z J n a v V M O=>(!decide (k=6)||decide (0<=cJ p.funcs J 0))&&ph M&&ph O
def ph:qD->Bool
 |[]=>true
 |x::l=>yy x&&ph l
end
theorem OP(x:St):yy p x=((!decide (x.am=6)||decide (0<=cJ p.funcs x.to 0))&&ph p x.bl&&ph p x.bA):=by cases x;rw[yy];rfl
end
theorem OQ{p:Pr}:∀{l:qD}{x:St},ph p l=true->x∈l->yy p x=true
 |[],_,_,h=>by simp at h
 |e::es,x,hc,h=>by
  simp only[ph,da]at hc;rcases gH.1 h with rfl|h
  .exact hc.1
  .exact OQ hc.2 h
theorem Eo:∀(l:qN) (s:qA) (i:Nat),0<=cJ l s i->∃k,k<l.length/\cJ l s i=((i+k:Nat):Int)
 |[],s,i,h=>by simp[cJ]at h
 |f::l,s,i,h=>by
  simp only[cJ]at h⊢;split
  .exact⟨0,aw,aw⟩
  .rename_i J;rw[af J]at h;obtain⟨k,m,j⟩:=Eo l s (i+1) (by exact h);exact⟨k+1,by simpa using m,aX⟩
def zb7{p:Pr}{s:qA}(h:0<=cJ p.funcs s 0):∃g,p.funcs[(cJ p.funcs s 0).toNat]?=some g/\pe p s=g.params.length:=by
 obtain⟨k,m,j⟩:=Eo p.funcs s 0 h;have e:(cJ p.funcs s 0).toNat=k:=by
  simp_all
 refine⟨p.funcs[k],?_,?_⟩
 .simp_all
 .unfold pe;simp_all
theorem Sc.c3(x:Sc):x.cells[3]?=some (.az (x.p.funcs.map Fu.cells)):=rfl
noncomputable def OR:En:=⟨109,false,co (fun x=>x.1.ok/\x.2.sz<2^60) A5 fun x=>.bool (jP x.1 x.2)⟩
def zb8:dI prog ρ OR:=dT fun x hx=>zb6 ρ x.1 x.2 hx.1 hx.2
structure Cs where
 c:Sc
 l:qD
 b:Bool
def rU(x:Cs):qu:=[.agg x.c.cells,.az (x.l.map St.cells),.bool x.b]
def Jg(x y:Cs)(h:rU x=rU y):x=y:=by
 obtain⟨a,b,c⟩:=x;obtain⟨m,b',M⟩:=y;simp only[rU,eJ,AV.agg.injEq,AV.az.injEq,AV.bool.injEq,aW]at h;rw[Sc.inj h.1,DS h.2.1,h.2.2]
def Cs.ok(x:Cs):Prop:=x.c.ok/\bi x.l<2^60/\(x.b=true->ph x.c.p x.l=true)
noncomputable def Jh:qC:=[yw,OR]
def zb9:gT prog ρ Jh:=⟨Jf ρ,zb8 ρ,trivial⟩
def vB(x:Cs):AV:=.bool (dh x.c x.b x.l)
set_option maxRecDepth 100000 in
theorem zca:∀x:Cs,x.ok->bX prog ρ 61 (rU x) (vB x):=
 wV fit (pls:=pls) (zb9 ρ) (fun x=>bi x.l) (ok:=Cs.ok) (enc:=rU) (out:=vB) (fun x _=>.cons (.agg x.c.pure) (.cons (yh _) (.cons (.bool _) .nil))) (fun x _=>.bool _) (fun x hx=>by
 have z:=uc (sz:=fun x:Cs=>bi x.l) (ok:=Cs.ok) (out:=vB) Jg (f:=61) (l:=Jh) x;generalize hl:(⟨61,false,co (fun y=>Cs.ok y/\bi y.l<bi x.l) rU vB⟩:En)::Jh=l at z⊢;obtain⟨c,x,b⟩:=x;obtain⟨hc,hx,V⟩:=hx;simp only[]at hc hx V;have I:∀y:qD,bi y<bi x->(b=true->ph c.p y=true)->∀H,aR prog (au pls l) 61 [.agg c.cells,.az (y.map St.cells),.bool b] H fun v H'=>v=.bool (dh c b y)/\H'=H:=fun y C h3 H=>by
  subst hl;exact cV (enc:=rU) (out:=vB) Jg (x:=⟨c,y,b⟩) rfl ⟨⟨hc,vz,h3⟩,C⟩
 have kd:∀y:St,y.sz<2^60->∀H,aR prog (au pls l) 109 [.agg c.cells,.agg y.cells] H fun v H'=>v=.bool (jP c y)/\H'=H:=fun y C H=>by
  subst hl;exact cV (enc:=A5) (out:=fun x=>.bool (jP x.1 x.2)) zb4 (x:=(c,y)) rfl ⟨hc,C⟩
 have hpf:c.p.funcs.length<2^60:=by have h:=hc.2.2;have C:c.p.sz=1+eA c.p.aa+dO c.p.funcs:=rfl;have:=m0 c.p.funcs;omega
 have kf:∀s H,aR prog (au pls l) 108 [.agg c.p.cells,.aj s] H fun v H'=>v=.int .i64 (cJ c.p.funcs s 0)/\H'=H:=fun s H=>by
  subst hl;exact cV (enc:=xh) (out:=fun x=>.int .i64 (cJ x.1.funcs x.2 0)) Je (x:=(c.p,s)) rfl hpf
 have hlen:=mZ x;have hplan:∀id,(au pls l).ca 61 id=.text:=fun _=>by first|rfl|(simp[au,An,pls])
 change aR _ _ _ [.agg c.cells,.az (x.map St.cells),.bool b] _ _;refine bp (M:=59) (rs:=[.tmp 6]) z.call z.aG z.aB func61 rfl rfl OO.2 rfl ?_;dsimp only[OO,bm,Nat.reduceAdd];refine gW ?_;refine cl [1,2,3] [0] 7 x.length (fun i E H=>dh c b x=dh c b (x.drop i)) eE aw ?_;rintro i E H2 hi hcE hrH hnH hsI U;(try simp only[bC,aZ,aW,aG,aY,Nat.reduceBEq, *]at hcE);(try simp only[bC,aZ,aW,aG,aY, *]at hrH);(try simp only[aU,ce,bR]at hnH);have hB0:(0 == H2.next)=false:=ak ac;have hC0:(H2.next == 0)=false:=ak ac;repeat' (first
  |(apply aj ?_;clear hK K)|apply aV ?_|(apply bz ?_ ?_<;>(intro hb hbp;try(cases hb;done)))|(apply am fun K hK=>?_)|fail)
 .have Z:i<x.length:=by simpa using hb
  have hgx:x[i]?=some x[i]:=bj Z;have hsm:=my (dm Z);have hsz:=x[i].aV;have hcl:b=true->yy c.p x[i]=true:=fun h=>OQ (V h) (dm Z);have J:dh c b (x.drop i)=(gm c b x[i]&&dh c b (x.drop (i+1))):=I5;rw[Ba]at J;cases b with
  |false=>
   rw[ui]at J;repeat' (first
    |(apply aj ?_;clear hK K)|apply aV ?_|(apply eu ?_;first|refine bK (kd _ ac _) ?_|refine bK (I _ ac (fun h=>pP) _) ?_)|(apply cL ?_ ?_<;>(intro hg hgp;try(cases hg;done)))|(apply bz ?_ ?_<;>(intro hb hbp;try(cases hb;done)))|(apply am fun K hK=>?_)|fail)
   all_goals (first|(refine⟨aB,_,aO,?_⟩;(try simp only[aA]);change _=AV.bool (dh c _ x);rw[U,J];(try simp only[iK]at *);simp only[ *,kT,hT,];done)|skip)
   refine⟨ac,a0,a0,ca,vn,?_⟩;simp_all
  |true=>
   rw[iY]at J;have m:=hcl rfl;rw[OP,da,da]at m;obtain⟨⟨hk6,Y⟩,O⟩:=m;by_cases h6:x[i].am=6
   .have hf0:0<=cJ c.p.funcs x[i].to 0:=by simpa [h6]using hk6
    obtain⟨g,hg6,j⟩:=zb7 hf0;have gh0:=@Sc.c3;repeat' (first
     |(apply aj ?_;clear hK K)|apply bQ ?_|(apply iz ?_;first|refine bK (kf _ _) ?_|refine bK (I _ ac (fun _=>Y) _) ?_|refine bK (I _ ac (fun _=>O) _) ?_)|(apply jy ?_ ?_<;>(intro hg hgp;try(cases hg;done)))|(apply bu ?_ ?_<;>(intro hb hbp;try(cases hb;done)))|(apply am fun K hK=>?_)|(apply ci 6 [(1,14),(5,14),(5,21),(6,14),(6,21),(9,14),(9,21),(11,14),(13,14),(17,21),(18,21)] fun K hK=>?_)|(apply bD ?_;try intro _)|(apply ch ?_ ?_<;>clear hK K)|(apply Ry.gt ?_ ?_<;>(intro hg hgp;try(cases hg;done)))|fail)
    .exact cn
    all_goals (first|(refine⟨aB,_,aO,?_⟩;(try simp only[aA]);change _=AV.bool (dh c _ x);rw[U,J,lB,j];(try simp only[iK]at *);simp only[ *,nP,kT,hT,wH,ll,];done)|skip)
    refine⟨ac,a0,a0,ca,vn,?_⟩;rw[U,J,lB,j];simp_all
   .have gh0:=@Sc.c3;repeat' (first
     |(apply aj ?_;clear hK K)|apply bQ ?_|(apply iz ?_;first|refine bK (I _ ac (fun _=>Y) _) ?_|refine bK (I _ ac (fun _=>O) _) ?_)|(apply jy ?_ ?_<;>(intro hg hgp;try(cases hg;done)))|(apply bu ?_ ?_<;>(intro hb hbp;try(cases hb;done)))|(apply am fun K hK=>?_)|(apply ci 6 [(1,14),(5,14),(5,21),(6,14),(6,21),(9,14),(9,21),(11,14),(13,14),(17,21),(18,21)] fun K hK=>?_)|(apply bD ?_;try intro _)|(apply ch ?_ ?_<;>clear hK K)|(apply Ry.gt ?_ ?_<;>(intro hg hgp;try(cases hg;done)))|fail)
    .exact cn
    all_goals (first|(refine⟨aB,_,aO,?_⟩;(try simp only[aA]);change _=AV.bool (dh c _ x);rw[U,J,lB];(try simp only[iK]at *);simp only[ *,l0,kT,hT,ll,];done)|skip)
    refine⟨ac,a0,a0,ca,vn,?_⟩;rw[U,J,lB];simp_all
 .all_goals refine qq ?_
  rw[vB,U,show i=x.length by simp at hb;omega];simp[dh])
end
end Go.Proofs.YtpbcimfiofmoeaaGreat
