/- Lemmas for the last file. -/
import Derived.Test.YtbflaciihaijgaaGreatUEF
set_option linter.all false
set_option maxHeartbeats 32000000
namespace Go.Ab
set_option maxRecDepth 20000
open Go
variable{qn:Prop}
def oW(h:qn:=by rw[List.drop_eq_getElem_cons C];rfl):=h
def Hg(h:qn:=by rw[hg r ⟨_,rfl⟩];exact m):=h
def Hh(h:qn:=by have:=List.length_pos_iff.2 hm;omega):=h
def nG(h:qn:=by rw[Z];omega):=h
def xB(h:qn:=by simp[J]):=h
def iE(h:qn:=by rw[aL,if_pos rfl];rfl):=h
def rT(h:qn:=by simp only[rB];omega):=h
def LS(h:qn:=by rw[List.append_nil];exact j):=h
def Hk(h:qn:=by rw[Nat.ble_eq];omega):=h
def uJ(h:qn:=by rw[Y];omega):=h
def RT(h:qn:=by have:=(Mc n).1;unfold dy at this;omega):=h
def RU(h:qn:=by have:=(Mc n).2;unfold dy at this;omega):=h
def Hl(h:qn:=by simp only[List.length_cons];omega):=h
def iF(h:qn:=by simp only[aS];omega):=h
def Hm(h:qn:=by simp only[aS]at n5;omega):=h
def Dj(h:qn:=by simp only[aK,Nat.reduceBEq, *];exact il (n:=s.length) ac ac):=h
def sJ(h:qn:=by simp only[aK,Nat.reduceBEq, *];exact il (n:=l.length) ac ac):=h
def zf(h:qn:=by simp only[aK,Nat.reduceBEq, *];exact il (n:=p.funcs.length) ac ac):=h
def kK(h:qn:=by rw[Hp.get_set,if_neg ac]):=h
def LU(h:qn:=by simp only[aK,Nat.reduceBEq, *];exact il (n:=x.ak.length) ac ac):=h
def AH(h:qn:=by simp only[aK,Nat.reduceBEq, *];exact il (n:=x.length) ac ac):=h
def LV(h:qn:=by rw[Int.tmod_eq_emod_of_nonneg ac];omega):=h
def Hn(h:qn:=by rw[fN ac ac];omega):=h
def LW(h:qn:=by rw[aL,if_pos cN];rfl):=h
def Dk(h:qn:=by simp only[aK,Nat.reduceBEq, *];exact il (n:=n.ak.length) ac ac):=h
def dk:=@List.length_map
def oX:=@List.all_cons
def pO:=@List.all_nil
def xC:=@List.any_nil
def oY:=@Bool.or_false
def oZ:=@List.map_nil
def Dm:=@Bool.and_self
def kX:=@Nat.le_of_eq
def vY:=@List.replicate_succ
def RV:=@List.set_eq_take_append_cons_drop
def dE:=@List.getElem_mem
def kL:=@List.drop_length
def sK:=@Prod.ext
def LX:=@List.replicate_succ'
def xD:=@List.map_set
def kY:=@Bool.not_eq_false'
def AI:=@Bool.and_false
def zg:=@List.length_singleton
def Do:=@List.flatMap_cons
def fA:=And.intro @ul @kY
def nH:=And.intro @xo.{0} @am.{0}
def pP:=And.intro @nh @AI
end Go.Ab
namespace Go.Proofs.YtbflaciihaijgaaGreat
set_option maxRecDepth 20000
open Go Go.Ab Proofs.Tryz
variable{M lo k r:Nat}{P:Program}{H H':Hp}{l m:qC}{f:FuncId}{v:AV}
abbrev qc(M:Nat)(f:Func):=Subtype fun c:SC×List ResultVar=>aJ M (f.body.getD .skip)=c.1/\f.results.toList=c.2
def qd{f g:Func}(e:f=g)(h:qc M g:=by
  refine⟨(?_,?_),?_,?_⟩;rotate_left 2
  .simp only[bH,aJ,bE,bw,bI,bJ,Nat.blt,Nat.ble];rfl
  .simp only[List.toList_toArray];rfl):qc M f:=⟨h.1,e▸h.2⟩
def qe{cfg:Cfg}{g:FuncId}{args:qB}{fn:Func}{c:Code}{Q:AV->Hp->Prop}(hw:zd0 cfg g)(hf:P.funcs[g]?=some fn)(d:qc M fn)(h:bX P cfg g M d.1.1 (a1 0 args (yu M)) H (fun x E' H'=>(x=.normal\/x=.ret)/\∃vs,dR P E' H' d.1.2=some vs/\Q (aD vs) H'))(hb:fn.body=some c:=by exact rfl)(hM:max fn.ntmps args.length=M:=by exact rfl):aR P cfg g args H Q:=by
 obtain⟨⟨u,z⟩,a,b⟩:=d;rw[hb]at a;exact a4 (hw.call _) hw.bU hw.cm hf hb hM a b h
variable(ρ:Nat->Int)
section
def tyR3a.tyF:=ad @cG (ad @eG (ad @ij (ad @l8 (ad @jU (ad @jx (ad @i7 (ad @iC (ad @tG (ad @Q4 (ad @dm (@jh)))))))))))
open tyR3a
def lH(f:FuncId):zd0 (aA pls []) f:=⟨fun _=>rfl,rfl,rfl⟩
def gY{l:qH}(j:∀I,dU l f I=none)(m:mc l f=false):zd0 (aA pls l) f:=⟨j,m,rfl⟩
structure znT (cfg:Cfg) (f:FuncId) (args:qB):Prop where
 call:cfg.call f args=none
 bU:cfg.bU f=false
 cm:cfg.cm f=false
def zh{J:Type}{sz:J->Nat}{ok:J->Prop}{enc:J->qB}{out:J->AV}(j:∀x y,enc x=enc y->x=y){l:qH}(x:J):
 znT (aA pls (⟨f,false,co (fun y=>ok y/\sz y<sz x) enc out⟩::l)) f (enc x):=by
 have z:Nat.beq f f=true:=Nat.beq_refl f;refine⟨?_,?_,rfl⟩
 .show dU _ f (enc x)=none;simp only[dU,z];exact LQ fun y O e=>by rw[j _ _ e]at O;exact Nat.lt_irrefl _ O.2
 .show mc _ f=false;simp only[mc,z]
noncomputable def RW:=qd (M:=21) f100.eq_1
noncomputable def RX:=qd (M:=9) f101.eq_1
noncomputable def RY:=qd (M:=34) f79.eq_1
noncomputable def RZ:=qd (M:=18) f80.eq_1
noncomputable def R0:=qd (M:=10) f40.eq_1
noncomputable def Sa:=qd (M:=18) f148.eq_1
noncomputable def Sb:=qd (M:=9) f187.eq_1
noncomputable def Sd:=qd (M:=27) f207.eq_1
noncomputable def Se:=qd (M:=22) f55.eq_1
theorem zfP(n:Int):bA prog ρ 100 [.int .u8 n] (.bool (xy n)):=fF fit (pls:=pls) (l:=[]) trivial (.cons (.int _ _) .nil) (.bool _) (by
 have hw:=lH 100;refine qe hw func100 RW ?_;dsimp only[RW,qd,a1,Nat.reduceAdd];repeat' (first
  |(apply ay ?_;clear hK K)|apply a9 ?_|(apply gL ?_ ?_<;>(intro hg hgp;try(cases hg;done)))|(apply az fun K hK=>?_)|fail)
 all_goals refine qi ?_
 all_goals (simp_all[xy]<;>omega))
theorem zfQ(n:Int):bA prog ρ 101 [.int .u8 n] (.bool (vX n)):=fF fit (pls:=pls) (l:=[]) trivial (.cons (.int _ _) .nil) (.bool _) (by
 have hw:=lH 101;refine qe hw func101 RX ?_;dsimp only[RX,qd,a1,Nat.reduceAdd];repeat' (first
  |(apply ay ?_;clear hK K)|apply a9 ?_|(apply gL ?_ ?_<;>(intro hg hgp;try(cases hg;done)))|(apply az fun K hK=>?_)|fail)
 all_goals refine qi ?_
 all_goals (simp_all[vX]<;>omega))
def zi(n:Int):qB:=[.int .u8 n]
def Sf(x y:Int)(h:zi x=zi y):x=y:=by simpa [zi]using h
noncomputable def Dp:En:=⟨100,false,co (fun _=>True) zi fun n=>.bool (xy n)⟩
noncomputable def Dq:En:=⟨101,false,co (fun _=>True) zi fun n=>.bool (vX n)⟩
def zfR:de prog ρ Dp:=dA fun n _=>zfP ρ n
def zfS:de prog ρ Dq:=dA fun n _=>zfQ ρ n
theorem zfT(s:qD)(hs:s.length<2^60):bA prog ρ 79 [.ay s] (.bool (xA s)):=fF fit (pls:=pls) (l:=[Dp,Dq]) ⟨zfR ρ,zfS ρ,trivial⟩ (.cons (.ay _) .nil) (.bool _) (by
 have hw:zd0 (aA pls [Dp,Dq]) 79:=gY (fun _=>rfl) rfl;have kl:∀(n:Int) (H:Hp),aR prog (aA pls [Dp,Dq]) 100 [.int .u8 n] H fun v H'=>v=.bool (xy n)/\H'=H:=fun n H=>cQ (enc:=zi) (out:=fun n=>.bool (xy n)) Sf (x:=n) rfl trivial;have kd:∀(n:Int) (H:Hp),aR prog (aA pls [Dp,Dq]) 101 [.int .u8 n] H fun v H'=>v=.bool (vX n)/\H'=H:=fun n H=>cQ (enc:=zi) (out:=fun n=>.bool (vX n)) Sf (x:=n) rfl trivial;refine qe hw func79 RY ?_;dsimp only[RY,qd,a1,Nat.reduceAdd];refine mA ?_;refine cP [0] [] 3 s.length (fun i E H=>uI s=i+uI (s.drop i)/\(0<i->∀b,s[0]?=some b->vX b.toNat=false)) eE aB ?_;rintro i E H2 hi Y V L hsI ⟨I,j⟩;(try simp only[bz,a7,aV,aK,bb,Nat.reduceBEq, *]at Y);(try simp only[a7, *]at V);(try simp only[cL,]at L);repeat' (first
  |(apply ay ?_;clear hK K)|apply a9 ?_|(apply gL ?_ ?_<;>(intro hg hgp;try(cases hg;done)))|(apply bU ?_ ?_<;>(intro hb hbp;try(cases hb;done)))|(apply az fun K hK=>?_)|fail)
 .have Z:i<s.length:=by simpa using hb
  have O:s[i]?=some s[i]:=aX Z;have z:uI (s.drop i)=if xz s[i]then uI (s.drop (i+1))+1 else 0:=by rw[i4 Z,uI]
  repeat' (first
   |(apply ay ?_;clear hK K)|apply a9 ?_|(apply fq ?_;first|refine Rx.k (kl _ _) ?_|refine Rx.k (kd _ _) ?_)|(apply gL ?_ ?_<;>(intro hg hgp;try(cases hg;done)))|(apply bU ?_ ?_<;>(intro hb hbp;try(cases hb;done)))|(apply az fun K hK=>?_)|fail)
  .all_goals refine qi ?_
   have J:i=0:=ac;subst J;unfold xA;cases s<;>simp_all
  .refine⟨ac,aW,aW,b8,Dj,?_⟩;have C:xz s[i]=true:=by simp_all[xz]
   refine⟨by rw[I,z,C];simp;omega,fun _ b m=>j ac b m⟩
  .all_goals refine qi ?_
   have C:xz s[i]=false:=by simp_all[xz]
   rw[C]at z;simp at z;unfold xA;simp[show ¬uI s=s.length by omega]
  .refine⟨ac,aW,aW,b8,Dj,?_⟩;have C:xz s[i]=true:=by simp_all[xz]
   refine⟨by rw[I,z,C];simp;omega,fun _ b m=>?_⟩;by_cases h0:0<i
   .exact j h0 b m
   .have J:i=0:=by omega
    subst J;rw[O]at m;have:s[0]=b:=by simpa using m
    subst this;have hle:xy s[0].toNat=true:=aU;simp only[xy,vX]at *;simp only[nU,lX]at hle;simp only[Bool.and_eq_false_iff,oP];omega
 all_goals
  have hie:i=s.length:=ac;all_goals refine qi ?_
  rw[hie]at I;simp[uI]at I;unfold xA;cases s<;>simp_all<;>omega)
def bL(l:qC)(s:qD):Bool:=l.any fun x=>decide (x=s)
theorem Sg(l:qC)(s:qD)(O:l.length<2^60):bA prog ρ 148 [gV l,.ay s] (.bool (bL l s)):=fF fit (pls:=pls) (l:=[]) trivial (.cons (De _) (.cons (.ay _) .nil)) (.bool _) (by
 have hw:=lH 148;refine qe hw func148 Sa ?_;dsimp only[Sa,qd,a1,Nat.reduceAdd];refine mA ?_;refine cP [0,1] [] 5 l.length (fun i E H=>bL l s=bL (l.drop i) s) eE aB ?_;rintro i E m j I J L V Z;(try simp only[bz,a7,aV,aK,bb,Nat.reduceBEq, *]at I);(try simp only[a7, *]at J);(try simp only[cL,]at L);repeat' (first
  |(apply ay ?_;clear hK K)|apply a9 ?_|(apply bU ?_ ?_<;>(intro hb hbp;try(cases hb;done)))|(apply az fun K hK=>?_)|fail)
 .have C:i<l.length:=by simpa using hb
  have Y:l[i]?=some l[i]:=aX C;have z:bL (l.drop i) s=(decide (l[i]=s)||bL (l.drop (i+1)) s):=oW;refine ET (fun hb hbp=>?_) (fun hb hbp=>?_)
  .all_goals refine qi ?_
   rw[Z,z];simp_all
  .refine⟨ac,aW,aW,b8,sJ,?_⟩;rw[Z,z];simp_all
 .all_goals refine qi ?_
  rw[Z,show i=l.length by simp at hb;omega];simp[bL])
def sM(op:Int):Bool:=decide (4<=op)&&decide (op<=18)
theorem zfU(op:Int):bA prog ρ 187 [.int .i64 op] (.bool (sM op)):=fF fit (pls:=pls) (l:=[]) trivial (.cons (.int _ _) .nil) (.bool _) (by
 have hw:=lH 187;refine qe hw func187 Sb ?_;dsimp only[Sb,qd,a1,Nat.reduceAdd];repeat' (first
  |(apply ay ?_;clear hK K)|apply a9 ?_|(apply gL ?_ ?_<;>(intro hg hgp;try(cases hg;done)))|(apply az fun K hK=>?_)|fail)
 all_goals refine qi ?_
 all_goals (simp_all[sM]<;>omega))
def zeroE(x:Ex):Bool:=decide (x.az=0)&&decide (x.n=0)&&decide (x.name=[])&&decide (x.op=0)&&decide (x.ak.length=0)
theorem zfV(x:Ex):bA prog ρ 207 [.agg x.cells] (.bool (zeroE x)):=fF fit (pls:=pls) (l:=[]) trivial (.cons (.agg x.pure) .nil) (.bool _) (by
 have hw:=lH 207;refine qe hw func207 Sd ?_;dsimp only[Sd,qd,a1,Nat.reduceAdd];repeat' (first
  |(apply ay ?_;clear hK K)|apply a9 ?_|(apply gL ?_ ?_<;>(intro hg hgp;try(cases hg;done)))|(apply az fun K hK=>?_)|fail)
 all_goals
  all_goals refine qi ?_
 all_goals simp_all[zeroE])
def bW:qV->qD->Int->Int
 |[],_,_=>-1
 |f::l,s,i=>if f.name=s then i else bW l s (i+1)
def zfW(p:Pr)(s:qD)(hl:p.funcs.length<2^60):bA prog ρ 55 [.agg p.cells,.ay s] (.int .i64 (bW p.funcs s 0)):=fF fit (pls:=pls) (l:=[]) trivial (.cons (.agg p.pure) (.cons (.ay _) .nil)) (.int _ _) (by
 have hw:=lH 55;refine qe hw func55 Se ?_;dsimp only[Se,qd,a1,Nat.reduceAdd];refine mA ?_;refine cP [1,2] [0] 5 p.funcs.length (fun i E H=>bW p.funcs s 0=bW (p.funcs.drop i) s i) eE aB ?_;rintro i E Y hi I J L V Z;(try simp only[bz,a7,aV,aK,bb,Nat.reduceBEq, *]at I);(try simp only[bz,a7,aV,aK,bb, *]at J);(try simp only[aS,cL,bR]at L);have O:(0 == Y.next)=false:=aZ ac;have m:(Y.next == 0)=false:=aZ ac;repeat' (first
  |(apply ay ?_;clear hK K)|apply a9 ?_|(apply bU ?_ ?_<;>(intro hb hbp;try(cases hb;done)))|(apply az fun K hK=>?_)|fail)
 .have C:i<p.funcs.length:=by simpa using hb
  have j:p.funcs[i]?=some p.funcs[i]:=aX C;have z:bW (p.funcs.drop i) s i=if p.funcs[i].name=s then (i:Int)else bW (p.funcs.drop (i+1)) s (i+1):=oW
  refine ET (fun hb hbp=>?_) (fun hb hbp=>?_)
  .all_goals refine qi ?_
   rw[Z,z,ai aU]
  .refine⟨ac,aW,aW,b8,zf,?_⟩;rw[Z,z,ah aU];rfl
 .all_goals refine qi ?_
  rw[Z,show i=p.funcs.length by simp at hb;omega];simp[bW])
def pQ:qC:=[[97,114,114,97,121],[102,117,110,99],[118,97,114],[114,101,116,117,114,110],[105,102],[101,108,115,101],[119,104,105,108,101],[111,117,116],[116,114,97,112]]
def Sh(s:qD):bL pQ s=ze s:=by
 simp only[bL,pQ,ze,uA,xC,oY,<-Bool.or_assoc];simp only[eq_comm]
def zfX(H:Hp)(a b c d e f g h i:qD):eW prog H 66 9 [(0,.ay a),(1,.ay b),(2,.ay c),(3,.ay d),(4,.ay e),(5,.ay f),(6,.ay g),(7,.ay h),(8,.ay i)]=some (.sl H.next 0 9 1,H.alloc (.cells ([a,b,c,d,e,f,g,h,i].map .ay) 0 true)):=ax
theorem zfY(s:qD):bA prog ρ 80 [.ay s] (.bool (ze s)):=fF fit (pls:=pls) (l:=[]) trivial (.cons (.ay _) .nil) (.bool _) (by
 have hw:=lH 80;refine qe hw func80 RZ ?_;dsimp only[RZ,qd,a1,Nat.reduceAdd];have O:=@zfX;refine mA ?_;refine cP [0,3] [0] 4 9 (fun i E H=>bL pQ s=bL (pQ.drop i) s) eE aB ?_;rintro i E Z hi I J L V Y;(try simp only[bz,a7,aV,aK,bb,Nat.reduceBEq, *]at I);(try simp only[bz,a7,aV,aK,bb, *]at J);(try simp only[aS,cL,bR]at L);have m:(0 == Z.next)=false:=aZ ac;have j:(Z.next == 0)=false:=aZ ac;change Z.get 0=some (.cells (pQ.map .ay) 0 true)at J;have hr9:pQ.length=9:=rfl;repeat' (first
  |(apply ay ?_;clear hK K)|apply a9 ?_|(apply bU ?_ ?_<;>(intro hb hbp;try(cases hb;done)))|(apply az fun K hK=>?_)|fail)
 .have C:i<pQ.length:=by omega
  have hgx:pQ[i]?=some pQ[i]:=aX C;have z:bL (pQ.drop i) s=(decide (pQ[i]=s)||bL (pQ.drop (i+1)) s):=oW;have hi9:decide (i<9)=true:=cZ;refine Za (fun hb hbp=>?_) (fun hb hbp=>?_)
  .all_goals refine qi ?_
   rw[<-Sh,Y,z];simp_all
  .refine⟨ac,(by simp only[bz,a7,aV,aK,bb,Nat.reduceBEq,pQ, *]),(by simp only[bz,a7,aV,aK,bb,pQ, *]),b8,(by simp only[aK,Nat.reduceBEq, *];exact il (n:=9) ac ac),?_⟩;rw[Y,z];simp_all
 .all_goals refine qi ?_
  rw[<-Sh,Y,show i=9 by omega];rfl)
def tH(s:qD):qB:=[.ay s]
def Dr(x y:qD)(h:tH x=tH y):x=y:=by simpa [tH]using h
noncomputable def Ds:En:=⟨79,false,co (fun s=>s.length<2^60) tH fun s=>.bool (xA s)⟩
noncomputable def Dt:En:=⟨80,false,co (fun _=>True) tH fun s=>.bool (ze s)⟩
def zfZ:de prog ρ Ds:=dA fun s V=>zfT ρ s V
def zga:de prog ρ Dt:=dA fun s _=>zfY ρ s
theorem zgb(s:qD)(V:s.length<2^60):bA prog ρ 40 [.ay s] (.bool (io s)):=fF fit (pls:=pls) (l:=[Ds,Dt]) ⟨zfZ ρ,zga ρ,trivial⟩ (.cons (.ay _) .nil) (.bool _) (by
 have hw:zd0 (aA pls [Ds,Dt]) 40:=gY (fun _=>rfl) rfl;have m:∀(H:Hp),aR prog (aA pls [Ds,Dt]) 79 [.ay s] H fun v H'=>v=.bool (xA s)/\H'=H:=fun H=>cQ (enc:=tH) (out:=fun n=>.bool (xA n)) Dr (x:=s) rfl V;have Z:∀(H:Hp),aR prog (aA pls [Ds,Dt]) 80 [.ay s] H fun v H'=>v=.bool (ze s)/\H'=H:=fun H=>cQ (enc:=tH) (out:=fun n=>.bool (ze n)) Dr (x:=s) rfl trivial;refine qe hw func40 R0 ?_;dsimp only[R0,qd,a1,Nat.reduceAdd];repeat' (first
  |(apply ay ?_;clear hK K)|apply a9 ?_|(apply fq ?_;first|refine Rx.k (m _) ?_|refine Rx.k (Z _) ?_)|(apply gL ?_ ?_<;>(intro hg hgp;try(cases hg;done)))|(apply az fun K hK=>?_)|fail)
 all_goals refine qi ?_
 all_goals (simp_all[io]))
end
def dW(H:Hp)(v:AV)(l:qC)(lo:Nat):Prop:=∃r Y,v=.sl r 0 l.length 1/\H.get r=some (.cells (l.map .ay) Y true)/\Y<=l.length/\lo<=r/\r<H.next
def eU(H:Hp)(v:AV)(l:qC)(lo:Nat):Prop:=(v=.ao/\l=[])\/dW H v l lo
def dW.dj(h:dW H v l lo)(J:H.next<=H'.next)(hg:∀k,lo<=k->k<H.next->H'.get k=H.get k):dW H' v l lo:=by
 obtain⟨r,Y,j,m,C,Z,z⟩:=h;exact⟨r,Y,j,by rw[hg r Z z];exact m,C,Z,ac⟩
def a3(v:AV)(k:Nat):Prop:=∃n,v=.sl k 0 n 1
def tI(v v':AV)(H H':Hp):Prop:=(∀k,k<H.next->¬a3 v k->H'.get k=H.get k)/\∀k,a3 v' k->a3 v k\/H.next<=k
def dW.lt(h:dW H v l lo)(z:a3 v k):lo<=k/\k<H.next:=by
 obtain⟨r,Y,rfl,_,_,Z,V⟩:=h;obtain⟨n,e⟩:=z;simp only[AV.sl.injEq]at e;rw[<-e.1];exact⟨Z,V⟩
def eU.lt(h:eU H v l lo)(z:a3 v k):lo<=k/\k<H.next:=by
 rcases h with⟨rfl,_⟩|h
 .obtain⟨n,e⟩:=z;simp at e
 .exact h.lt z
def dW.keep(h:dW H v l lo)(J:H.next<=H'.next)(hg:∀k,a3 v k->H'.get k=H.get k):dW H' v l lo:=by
 obtain⟨r,Y,rfl,m,C,Z,z⟩:=h;exact⟨r,Y,rfl,Hg,C,Z,ac⟩
def eU.keep(h:eU H v l lo)(J:H.next<=H'.next)(hg:∀k,a3 v k->H'.get k=H.get k):eU H' v l lo:=h.imp id fun h=>h.keep J hg
def Sk(l:qC):(l.map AV.ay).all AV.one=true:=by simp[AV.one]
theorem Ho(m:qC):(m.map fun s=>[AV.ay s]).flatten=m.map .ay:=by induction m with
 |nil=>rfl
 |cons a m ih=>simp[ih]
theorem zgc(H:Hp)(m:qC):gg H 1 (gV m)=some (m.length,m.map .ay):=by
 have e:gg H 1 (gV m)=if ((m.map fun s=>[AV.ay s]).all fun Z=>Z.length == 1)then some ((m.map fun s=>[AV.ay s]).length,(m.map fun s=>[AV.ay s]).flatten)else none:=rfl
 rw[e,ai aB,Ho,dk]
def LY{imm:Nat}(h:H.get r=some (.cells (m.map .ay) imm true)):gg H 1 (.sl r 0 m.length 1)=some (m.length,m.map .ay):=by
 have:=uC (H:=H) (r:=r) (o:=0) (n:=m.length) (z:=1) (s:=1) h aB;rw[this,gm,je aB]
theorem LZ{x:AV}(hv:eU H v l lo)(V:lo<=H.next)(I:gg H 1 x=some (m.length,m.map .ay))(hm:m≠[])(hb:l.length+m.length<2^40):
 ∃C H',dr prog false H 66 66 v x=some (C,H')/\dW H' C (l++m) lo/\H'.next=H.next+1/\(∀k,k<lo->H'.get k=H.get k)/\tI v C H H':=by
 obtain⟨n,J⟩:∃n,m.length=n+1:=⟨m.length-1,Hh⟩;have Z:ej=70368744177664:=rfl;rw[J]at I;rcases hv with⟨rfl,rfl⟩|⟨r,Y,rfl,j,h3,h4,h5⟩
 .refine⟨.sl H.next 0 (n+1) 1,H.alloc (.cells (m.map .ay) 0 true),append_nil underlying66 yZ AC AD ax I (Sk m) rfl nG nG,⟨H.next,0,xB,iE,ac,V,cn _⟩,rfl,fun k z=>dT,fun k z _=>dT,fun k z=>.inr ?_⟩;obtain⟨n',e⟩:=z;simp only[AV.sl.injEq]at e;omega
 .have L:iM false H 1 (.sl r 0 l.length 1)=H:=by
   unfold iM;simp only[j,bR,dk,lW];have:Nat.blt l.length l.length=false:=by
    cases hb:Nat.blt l.length l.length with
    |false=>rfl
    |true=>rw[ur]at hb;omega
   simp[this]
  refine⟨.sl H.next 0 (l.length+(n+1)) 1,(H.bh r).alloc (.cells (l.map .ay++m.map .ay) (Y-0) true),?_,⟨H.next,Y,xB,?_,cZ,V,cn _⟩,rfl,fun k z=>?_,fun k z O=>?_,fun k z=>.inr ?_⟩
  .simp only[dr,underlying66,yZ,AC,AD,show jF prog 66=true by kernel_rfl,I,Sk,L,sC,dG,pD,oD,j,dk,bR,lW,gm];rw[ai ⟨nG,nG,trivial,trivial,h3⟩];simp
  .show((H.bh r).alloc _).get (H.bh r).next=_
   rw[aL,ai rfl];simp
  .rw[aL,ah rT,jH,ah ac]
  .rw[aL,ah rT,jH,ah (fun e=>O ⟨_,oF⟩)]
  .obtain⟨n',e⟩:=z;simp only[AV.sl.injEq]at e;omega
def AJ(m:qC)(j:dW H v l lo)(V:lo<=H.next)(hb:l.length+m.length<2^40):
 ∃C H',dr prog false H 66 66 v (gV m)=some (C,H')/\dW H' C (l++m) lo/\H.next<=H'.next/\(∀k,k<lo->H'.get k=H.get k)/\tI v C H H':=by
 by_cases Y:m=[]
 .subst Y;refine⟨v,H,?_,LS,aG _,fun _ _=>rfl,fun _ _ _=>rfl,fun _ h=>.inl h⟩;obtain⟨r,O,rfl,Z,_⟩:=j;simp only[dr,underlying66,yZ,AC,AD,show jF prog 66=true by kernel_rfl,oZ,gg,pO,dG,jQ]
 .obtain⟨C,H',L,Z,I,J⟩:=LZ (.inr j) V (zgc H m) Y hb;exact⟨C,H',L,Z,ac,J⟩
def Du{imm:Nat}(s:qD)(j:eU H v l lo)(V:lo<=H.next)(Z:H.get r=some (.cells [.ay s] imm true))(hb:l.length<2^39):
 ∃C H',dr prog false H 66 66 v (.sl r 0 1 1)=some (C,H')/\dW H' C (l++[s]) lo/\H'.next=H.next+1/\(∀k,k<lo->H'.get k=H.get k)/\tI v C H H':=
 LZ j V (LY (m:=[s]) Z) aB cZ
def zgd{w:AV}{L:Nat}(j:dW H v l lo)(V:lo<=H.next)(J:eU H w m L)(hb:l.length+m.length<2^40):
 ∃C H',dr prog false H 66 66 v w=some (C,H')/\dW H' C (l++m) lo/\H.next<=H'.next/\(∀k,k<lo->H'.get k=H.get k)/\tI v C H H':=by
 by_cases O:m=[]
 .subst O;refine⟨v,H,?_,LS,aG _,fun _ _=>rfl,fun _ _ _=>rfl,fun _ h=>.inl h⟩;obtain⟨r,imm,rfl,I,_⟩:=j;rcases J with⟨rfl,_⟩|⟨r',Y,rfl,Z,_⟩
  .simp only[dr,underlying66,yZ,AC,AD,show jF prog 66=true by kernel_rfl,gg]
  .have z:=LY Z;simp only[jQ]at z;simp only[dr,underlying66,yZ,AC,AD,show jF prog 66=true by kernel_rfl,jQ,z]
 .rcases J with⟨_,h⟩|⟨r',Y,rfl,Z,_⟩
  .exact(O h).elim
  .obtain⟨C,H',h1,I,h3,h4⟩:=LZ (.inr j) V (LY Z) O hb;exact⟨C,H',h1,I,ac,h4⟩
def dW.len(h:dW H v l lo):jP prog H' 66 v=some (.int .i64 l.length):=by
 obtain⟨r,Y,rfl,_⟩:=h;exact CI underlying66 _ _ _ _
theorem dW.at(h:dW H v l lo){i:Nat}(O:i<l.length):
 ∃r,dK prog 66 v (.int .i64 (i:Int))=some (.ptr r i)/\eP prog H 9 (.ptr r i)=some (.ay l[i]):=by
 obtain⟨r,Y,rfl,m,_⟩:=h;refine⟨r,?_,?_⟩
 .rw[pG underlying66 yZ O];simp
 .rw[yI underlying9 rfl m,fd,aX O];rfl
def dW.one{H:Hp}{v:AV}{l:qC}{lo:Nat}(h:dW H v l lo):AV.one v=true/\v.cells=[v]:=by
 obtain⟨r,Y,rfl,_⟩:=h;exact⟨rfl,rfl⟩
theorem zge(l:qC):iw 1 l.length (l.map .ay)=l.map fun s=>[AV.ay s]:=by
 induction l with
 |nil=>rfl
 |cons a l ih=>simp[iw,ih]
theorem Sl(n:Nat):∀(l:qC) (H:Hp),iV (fJ (n+1)) (l.map .ay) H=some (l.map .ay,H)
 |[],H=>rfl
 |a::l,H=>by
  have:=Sl n l H;have e:fJ (n+1) (.ay a) H=some (.ay a,H):=rfl;simp only[eC,iV,e,this]
theorem dW.bU(h:dW H v l lo)(n:Nat):
 ∃H',fJ (n+2) v H=some (gV l,H')/\dW H' v l lo/\H'.next=H.next/\(∀k,k<lo->H'.get k=H.get k)/\∀k,¬a3 v k->H'.get k=H.get k:=by
 obtain⟨r,Y,rfl,m,j,V,L⟩:=h;refine⟨H.set r (.cells (l.map .ay) (max Y l.length) true),?_,⟨r,max Y l.length,rfl,iW,ac,V,L⟩,rfl,fun k Z=>kK,fun k Z=>by rw[aQ,ah (fun e=>Z ⟨_,oF⟩)]⟩;have e:fJ (n+2) (.sl r 0 l.length 1) H=match H.get r with
  |some (.cells O Y z)=>match Nat.ble (0+l.length*1) O.length&&Nat.ble Y O.length with
   |true=>match iV (fJ (n+1)) ((O.drop 0).take (l.length*1)) (H.set r (.cells O (max Y (0+l.length*1)) z))with
    |some (C,H)=>some (.aE (iw 1 l.length C),H)
    |none=>none
   |false=>none
  |_=>none:=rfl
 rw[e,m];simp only[dk,bR,lW,gm];have J:Nat.ble l.length l.length=true:=Hk;have I:Nat.ble Y l.length=true:=Hk;rw[J,I];simp only[Dm];rw[je aB,Sl];simp only[zge]
def bA.args{ρ:Nat->Int}{args V:qB}{r:AV}(h:bA P ρ f args r)(j:∀(G:Gh) vs,cq G V vs->cq G args vs):bA P ρ f V r:=
 ⟨h.1,fun G w vs Z m C=>h.2 G w vs Z m (j G vs C)⟩
def zgf{G:Gh}{a:qB}{vs:qL}(h:cq G (.ao::a) vs):cq G (gV []::a) vs:=by
 cases vs with
 |nil=>have:=h.1;simp at this
 |cons v vs=>
  obtain⟨C,Y⟩:=h.bv;cases C;exact lT (.cL _ _) Y
def vZ(x:Option qC×qD):qB:=match x with
 |(none,s)=>[.ao,.ay s]
 |(some l,s)=>[gV l,.ay s]
def L0(x y:Option qC×qD)(h:vZ x=vZ y):x=y:=by
 obtain⟨a,s⟩:=x;obtain⟨b,u⟩:=y;cases a<;>cases b<;>simp only[vZ,eX,AV.ay.injEq,AV.aE.injEq,aV,reduceCtorEq,false_and,j6]at h
 .rw[h]
 .rw[Df h.1,h.2]
noncomputable def uK:En:=⟨148,true,co (fun x=>(x.1.getD []).length<2^60) vZ fun x=>.bool (bL (x.1.getD []) x.2)⟩
def L2:de prog ρ uK:=dA fun x I=>by
 obtain⟨a,s⟩:=x;cases a with
 |none=>exact bA.args (Sg ρ [] s aB) fun G vs h=>zgf h
 |some l=>exact Sg ρ l s I
theorem L3{l:qH}(L:∀m,dU l 148 m=uK.sp m)(O:mc l 148=true){r:qC}(j:eU H v r lo)(hr:r.length<2^60)(s:qD):
 aR prog (aA pls l) 148 [v,.ay s] H fun w H'=>w=.bool (bL r s)/\eU H' v r lo/\H'.next=H.next/\(∀k,k<lo->H'.get k=H.get k)/\∀k,¬a3 v k->H'.get k=H.get k:=by
 rcases j with⟨rfl,rfl⟩|j
 .refine a8 ?_ (cQ (enc:=vZ) (out:=fun x=>.bool (bL (x.1.getD []) x.2)) L0 (x:=(none,s)) (L _) hr);rintro w _ ⟨rfl,rfl⟩;exact⟨rfl,.inl ⟨rfl,rfl⟩,rfl,fun _ _=>rfl,fun _ _=>rfl⟩
 .obtain⟨H',Z,Y,C,V⟩:=j.bU 98;have J:∀y,(y.1.getD []).length<2^60->vZ y≠[v,.ay s]:=fun y _ e=>by
   obtain⟨q,I,rfl,_⟩:=j;obtain⟨a,u⟩:=y;cases a<;>simp[vZ]at e
  refine a8 ?_ (LR (enc:=vZ) (out:=fun x=>.bool (bL (x.1.getD []) x.2)) L0 (x:=(some r,s)) L O hr J (H':=H') ?_)
  .rintro w _ ⟨rfl,rfl|rfl⟩
   .exact⟨rfl,.inr Y,C,V⟩
   .exact⟨rfl,.inr j,rfl,fun _ _=>rfl,fun _ _=>rfl⟩
  .show iV (fJ 100) [v,.ay s] H=some ([gV r,.ay s],H');simp only[iV,Z];rfl
end Go.Proofs.YtbflaciihaijgaaGreat
namespace Go.Ab
set_option maxRecDepth 20000
open Go
variable{P:Program}{f:FuncId}{args:qB}{r v u:AV}{S S':Nat->Prop}{n:Nat}{H H':Hp}
def cW:Nat->AV->AV
 |0,v=>v
 |n+1,v=>match v with
  | .ao=>.aE []
  | .aE z=>.aE (z.map fun Z=>Z.map (cW n))
  | .agg O=>.agg (O.map (cW n))
  | .bH O=>.bH (O.map (cW n))
  |v=>v
theorem VR.wk{G:Gh}:∀(n:Nat) {v:AV}{x:Value},VR G v x->VR G (cW n v) x
 |0,_,_,h=>h
 |n+1,v,x,h=>by
  cases h with
  |ao=>exact .cL _ _
  |aE vs hz hF Y hc=>
   rename_i xs b o cap z;have:=VR.aE (G:=G) (xs:=xs.map fun V=>V.map (cW n)) (b:=b) (o:=o) (cap:=cap) (z:=z) vs ?_ ?_ ?_ ?_
   .rw[dk]at this;exact this
   .intro i V hr;rw[fd]at hr;cases I:xs[i]? with
    |none=>rw[I]at hr;simp at hr
    |some au=>rw[I]at hr;simp only[lB,am]at hr;rw[<-hr,dk];exact hz i au I
   .intro i j hi hj;rw[dk]at hi;exact hF i j hi hj
   .intro i j V c hr Z;rw[fd]at hr;cases I:xs[i]? with
    |none=>rw[I]at hr;simp at hr
    |some au=>
     rw[I]at hr;simp only[lB,am]at hr;rw[<-hr,fd]at Z;cases O:au[j]? with
     |none=>rw[O]at Z;simp at Z
     |some c0=>rw[O]at Z;simp only[lB,am]at Z;rw[<-Z];exact VR.wk n (Y i j au c0 I O)
   simp_all
  |cL a cap=>exact .cL a cap
  |agg J Y=>
   refine .agg aU fun i c v hc L=>?_;rw[fd]at hc;rename_i C vs;cases O:C[i]? with
   |none=>simp_all
   |some c0=>rw[O]at hc;simp only[lB,am]at hc;rw[<-hc];exact VR.wk n (Y i c0 v O L)
  |bH J Y=>
   refine .bH aU fun i c v hc L=>?_;rw[fd]at hc;rename_i C vs;cases O:C[i]? with
   |none=>simp_all
   |some c0=>rw[O]at hc;simp only[lB,am]at hc;rw[<-hc];exact VR.wk n (Y i c0 v O L)
  |int k m=>exact .int k m
  |sx k e=>exact .sx k e
  |bool b=>exact .bool b
  |ay s l h=>exact .ay s l h
  |aF=>exact .aF
  |bV=>exact .bV
  |cj=>exact .cj
  |ptr h=>exact .ptr h
  |bP vs hF Y=>exact .bP vs hF Y
  |sl h J hc=>exact .sl h J hc
  |map h=>exact .map h
  |cw J Y=>exact .cw J Y
def bA.wk{ρ:Nat->Int}(n:Nat)(h:bA P ρ f args r):bA P ρ f args (cW n r):=
 ⟨h.1,fun G w vs j m C=>(h.2 G w vs j m C).mono fun _ _ ⟨v,Y,Z,z,O⟩=>⟨v,Y,Z,z.wk n,O⟩⟩
def zgg{ρ:Nat->Int}{z:AV}(n:Nat)(h:bA P ρ f args r)(e:cW n r=z):bA P ρ f args z:=e▸h.wk n
def bN{J β:Type}(p:J->β->Prop):List J->List β->Prop
 |[],[]=>True
 |a::l,b::m=>p a b/\bN p l m
 |_,_=>False
theorem bN.len{J β:Type}{p:J->β->Prop}:∀{l:List J}{m:List β},bN p l m->l.length=m.length
 |[],[],_=>rfl
 |_::_,_::_,h=>by simp only[fc,bN.len h.2]
theorem bN.mono{J β:Type}{p q:J->β->Prop}(h:∀a b,p a b->q a b):∀{l:List J}{m:List β},bN p l m->bN q l m
 |[],[],_=>trivial
 |_::_,_::_,k=>⟨h _ _ k.1,bN.mono h k.2⟩
theorem bN.append{J β:Type}{p:J->β->Prop}:∀{l:List J}{m:List β}{C:List J}{z:List β},bN p l m->bN p C z->bN p (l++C) (m++z)
 |[],[],_,_,_,h=>h
 |_::_,_::_,_,_,h,k=>⟨h.1,bN.append h.2 k⟩
theorem bN.get{J β:Type}{p:J->β->Prop}:∀{l:List J}{m:List β},bN p l m->∀{i:Nat}{a:J}{b:β},l[i]?=some a->m[i]?=some b->p a b
 |[],[],_,i,_,_,h,_=>by simp at h
 |a::l,b::m,h,0,_,_,h1,h2=>by
  simp only[nH]at h1 h2;subst h1;subst h2;exact h.1
 |a::l,b::m,h,i+1,_,_,h1,h2=>bN.get h.2 (by simpa using h1) (by simpa using h2)
theorem bN.set{J β:Type}{p:J->β->Prop}:∀{l:List J}{m:List β},bN p l m->∀{i:Nat}{a:J}{b:β},p a b->bN p (l.set i a) (m.set i b)
 |[],[],_,i,_,_,_=>by simp[bN]
 |_::_,_::_,h,0,_,_,k=>⟨k,h.2⟩
 |_::_,_::_,h,i+1,_,_,k=>⟨h.1,bN.set h.2 k⟩
def Sn(v:AV):Prop:=gD v/\match v with
 | .sl _ _ _ _|.agg _=>False
 |_=>True
def dc(S:Nat->Prop):Nat->Hp->AV->AV->Prop
 |0,_,_,_=>False
 |n+1,H,v,u=>match v with
  | .sl r L Y z=>S r/\r<H.next/\∃O Z V l,H.get r=some (.cells O Z V)/\Z<=O.length/\L+Y*z<=O.length/\bN (dc S n H) ((O.drop L).take (Y*z)) l/\u=.aE (iw z Y l)
  | .agg O=>∃J,bN (dc S n H) O J/\u=.agg J
  |v=>gD v/\u=v
def dc.dE(h:Sn v):dc S (n+1) H v v:=by
 cases v<;>first|exact h.2.elim|exact⟨h.1,rfl⟩
def xE:=@dc.dE
theorem dc.up{S:Nat->Prop}{H:Hp}:∀{n m:Nat}{v u:AV},dc S n H v u->n<=m->dc S m H v u
 |0,_,_,_,h,_=>h.elim
 |n+1,0,_,_,_,hm=>by omega
 |n+1,m+1,v,u,h,hm=>by
  cases v with
  |sl r off len z=>
   obtain⟨j,L,O,Y,Z,l,V,C,J,I,h6⟩:=h;exact⟨j,L,O,Y,Z,l,V,C,J,I.mono fun a b k=>dc.up k ac,h6⟩
  |agg O=>
   obtain⟨ds,j,V⟩:=h;exact⟨ds,j.mono fun a b k=>dc.up k ac,V⟩
  |_=>exact h
def uL(a b:Option HB):Prop:=a=b\/∃O i j z,a=some (.cells O i z)/\b=some (.cells O j z)/\(i<=O.length->j<=O.length)
def uL.trans{a b c:Option HB}(h:uL a b)(k:uL b c):uL a c:=by
 rcases h with rfl|⟨O,i,j,z,rfl,rfl,h⟩
 .exact k
 .rcases k with rfl|⟨C,I,Z,V,e,rfl,k⟩
  .exact .inr ⟨O,i,j,z,rfl,rfl,h⟩
  .simp only[am,HB.cells.injEq]at e;obtain⟨rfl,rfl,rfl⟩:=e;exact .inr ⟨O,i,Z,z,rfl,rfl,fun q=>k (h q)⟩
theorem dc.dx{S S':Nat->Prop}{H H':Hp}(hS:∀k,k<H.next->S k->S' k)(hn:H.next<=H'.next)(V:∀k,S k->k<H.next->uL (H.get k) (H'.get k)):∀{n:Nat}{v u:AV},dc S n H v u->dc S' n H' v u
 |0,_,_,h=>h.elim
 |n+1,v,u,h=>by
  cases v with
  |sl r off len z=>
   obtain⟨Z,L,O,J,Y,l,m,h3,h4,h5,h6⟩:=h;have I:=h5.mono fun a b k=>dc.dx hS hn V k;rcases V r Z L with e|⟨cs',i,j,tip',C,e2,e3⟩
   .exact⟨hS r L Z,ac,O,J,Y,l,aU,h3,h4,I,h6⟩
   .rw[m]at C;simp only[am,HB.cells.injEq]at C;obtain⟨rfl,rfl,rfl⟩:=C;exact⟨hS r L Z,ac,O,j,Y,l,e2,e3 h3,h4,I,h6⟩
  |agg O=>
   obtain⟨ds,Z,m⟩:=h;exact⟨ds,Z.mono fun a b k=>dc.dx hS hn V k,m⟩
  |_=>exact h
def dc.frame(hS:∀k,S k->S' k)(J:H.next<=H'.next)(z:∀k,S k->k<H.next->uL (H.get k) (H'.get k))(h:dc S n H v u):dc S' n H' v u:=h.dx (fun k _ q=>hS k q) J z
structure Icy (S:Nat->Prop) (H H':Hp):Prop where
 next:H'.next=H.next
 out:∀k,¬S k->H'.get k=H.get k
 same:∀k,uL (H.get k) (H'.get k)
def Icy.refl(S:Nat->Prop)(H:Hp):Icy S H H:=⟨rfl,fun _ _=>rfl,fun _=>.inl rfl⟩
def Hq:=@Icy.refl
def Icy.trans{a b c:Hp}(h:Icy S a b)(k:Icy S b c):Icy S a c:=⟨k.next.trans h.next,fun r hr=>(k.out r hr).trans (h.out r hr),fun r=>(h.same r).trans (k.same r)⟩
def Icy.ic(h:Icy S H H')(k:dc S' n H v u):dc S' n H' v u:=k.frame (fun _ q=>q) (kX h.next.symm) fun r _ _=>h.same r
theorem Hr{S:Nat->Prop}{n:Nat}(ih:∀{v u:AV}{H:Hp},dc S n H v u->∃H',fJ n v H=some (u,H')/\Icy S H H'):∀{l m:qB}{H:Hp},bN (dc S n H) l m->∃H',iV (fJ n) l H=some (m,H')/\Icy S H H'
 |[],[],H,_=>⟨H,rfl,Hq S H⟩
 |a::l,b::m,H,h=>by
  obtain⟨H1,j,Z⟩:=ih h.1;obtain⟨Y,C,V⟩:=Hr ih (l:=l) (m:=m) (H:=H1) (h.2.mono fun a b k=>Z.ic k);exact⟨Y,by simp only[iV,j,C],Z.trans V⟩
theorem dc.bU{S:Nat->Prop}:∀{n:Nat}{v u:AV}{H:Hp},dc S n H v u->∃H',fJ n v H=some (u,H')/\Icy S H H'
 |0,_,_,_,h=>h.elim
 |n+1,v,u,H,h=>by
  cases v with
  |sl r L Y z=>
   obtain⟨j,h0,O,Z,V,l,m,C,h4,h5,rfl⟩:=h;have J:Icy S H (H.set r (.cells O (max Z (L+Y*z)) V)):=by
    refine⟨rfl,fun k I=>by rw[aQ,ah (fun e=>I (by rw[e];exact j))],fun k=>?_⟩;rw[aQ];split
    .rename_i e;subst e;exact .inr ⟨O,Z,max Z (L+Y*z),V,m,rfl,fun _=>ac⟩
    .exact .inl rfl
   obtain⟨H',h6,h7⟩:=Hr (fun k=>dc.bU k) (h5.mono fun a b k=>J.ic k);refine⟨H',?_,J.trans h7⟩;have e:fJ (n+1) (.sl r L Y z) H=match H.get r with
    |some (.cells O Z V)=>match Nat.ble (L+Y*z) O.length&&Nat.ble Z O.length with
     |true=>match iV (fJ n) ((O.drop L).take (Y*z)) (H.set r (.cells O (max Z (L+Y*z)) V))with
      |some (l',H)=>some (.aE (iw z Y l'),H)
      |none=>none
     |false=>none
    |_=>none:=rfl
   rw[e,m];have e1:Nat.ble (L+Y*z) O.length=true:=by rw[Nat.ble_eq];exact h4
   have e2:Nat.ble Z O.length=true:=by rw[Nat.ble_eq];exact C
   grind
  |agg O=>
   obtain⟨ds,j,rfl⟩:=h;obtain⟨H',m,C⟩:=Hr (fun k=>dc.bU k) j;refine⟨H',?_,C⟩;have e:fJ (n+1) (.agg O) H=match iV (fJ n) O H with
    |some (ds,H)=>some (.agg ds,H)
    |none=>none:=rfl
   rw[e,m]
  |ptr r o=>
   obtain⟨k,I⟩:=h.1;exact absurd (I (k+1) ac H) (by simp[iceV])
  |map r=>
   obtain⟨k,I⟩:=h.1;exact absurd (I (k+1) ac H) (by simp[iceV])
  |_=>exact⟨H,by rw[show u=_ from h.2];rfl,Hq S H⟩
def dc.iceL{l m:qB}(h:bN (dc S n H) l m):∃H',iV (fJ n) l H=some (m,H')/\Icy S H H':=Hr (fun k=>dc.bU k) h
theorem Hu{S:Nat->Prop}{n:Nat}{H:Hp}(ih:∀{v u:AV},dc S n H v u->∃L,∀m,L<=m->iceV H m v=some u):∀{l k:qB},bN (dc S n H) l k->∃L,∀m,L<=m->iceL (iceV H m) l=some k
 |[],[],_=>⟨0,fun _ _=>rfl⟩
 |a::l,b::k,h=>by
  obtain⟨bt,j⟩:=ih h.1;obtain⟨J,Z⟩:=Hu ih (l:=l) (k:=k) h.2;exact⟨max bt J,fun m Y=>by simp only[iceL,j m ac,Z m ac]⟩
theorem dc.iceV{S:Nat->Prop}{H:Hp}:∀{n:Nat}{v u:AV},dc S n H v u->∃L,∀m,L<=m->iceV H m v=some u
 |0,_,_,h=>h.elim
 |n+1,v,u,h=>by
  cases v with
  |sl r Z Y z=>
   obtain⟨j,h0,O,imm,tip,l,h2,h3,h4,I,rfl⟩:=h;obtain⟨L,J⟩:=Hu (fun k=>dc.iceV k) I;refine⟨L+1,fun m V=>?_⟩;obtain⟨m,rfl⟩:∃k,m=k+1:=⟨m-1,ac⟩;have e:Ab.iceV H (m+1) (.sl r Z Y z)=match H.get r with
    |some (.cells O _ _)=>match Ab.iceL (Ab.iceV H m) ((O.drop Z).take (Y*z))with
     |some l'=>if l'.length=Y*z then some (.aE (iw z Y l'))else none
     |none=>none
    |_=>none:=rfl
   have hl:l.length=Y*z:=by rw[<-I.len,oE,ui];omega
   simp_all
  |agg O=>
   obtain⟨C,j,rfl⟩:=h;obtain⟨L,J⟩:=Hu (fun k=>dc.iceV k) j;refine⟨L+1,fun m V=>?_⟩;obtain⟨m,rfl⟩:∃k,m=k+1:=⟨m-1,ac⟩;have e:Ab.iceV H (m+1) (.agg O)=match Ab.iceL (Ab.iceV H m) O with
    |some C=>some (.agg C)
    |none=>none:=rfl
   simp_all
  |_=>
   obtain⟨k,hk⟩:=h.1;exact⟨k,fun m V=>by rw[hk m V H,h.2]⟩
theorem chunk_rows(z:Nat):∀(rows:List qB),(∀r∈rows,r.length=z)->iw z rows.length rows.flatten=rows
 |[],_=>rfl
 |r::rows,h=>by
  have j:=h r dM;rw[pF,fc];show(r++rows.flatten).take z::iw z rows.length ((r++rows.flatten).drop z)=_;rw[FE ac,je ac,FV ac,FF ac,tg,chunk_rows z rows fun q J=>h q (dh _ J)]
theorem Dv{z:Nat}:∀{rows:List qB},(∀r∈rows,r.length=z)->rows.flatten.length=rows.length*z
 |[],_=>by simp
 |r::rows,h=>by
  rw[pF,fx,h r dM,Dv fun q J=>h q (dh _ J),fc,Ai];omega
theorem bN.dE{p:AV->AV->Prop}:∀{a b:List qB},bN (bN p) a b->bN p a.flatten b.flatten
 |[],[],_=>trivial
 |_::_,_::_,h=>by rw[pF,pF];exact h.1.append (bN.dE h.2)
theorem bN.er{p:AV->AV->Prop}{z:Nat}:∀{a b:List qB},bN (bN p) a b->(∀r∈a,r.length=z)->∀r∈b,r.length=z
 |[],[],_,_,r,hr=>by simp at hr
 |x::a,y::b,h,hz,r,hr=>by
  rcases eJ.1 hr with rfl|hr
  .rw[<-h.1.len];simp_all
  .exact bN.er h.2 (fun q J=>hz q (dh _ J)) r hr
def dc.rows{r z imm:Nat}{tip:Bool}{a b:List qB}(hS:S r)(hr:r<H.next)(hg:H.get r=some (.cells a.flatten imm tip))(O:imm<=a.flatten.length)(j:∀x∈a,x.length=z)(h:bN (bN (dc S n H)) a b):dc S (n+1) H (.sl r 0 a.length z) (.aE b):=by
 have L:=Dv j;refine⟨hS,hr,a.flatten,imm,tip,b.flatten,hg,O,ac,?_,?_⟩
 .rw[gm,je ac];exact h.dE
 .rw[h.len,chunk_rows z b (h.er j)]
theorem cq.wk{G:Gh}(n:Nat):∀{I:qB}{vs:qL},cq G I vs->cq G (I.map (cW n)) vs
 |[],vs,h=>h
 |a::l,[],h=>by have:=h.1;simp at this
 |a::l,v::vs,h=>by
  obtain⟨j,m⟩:=h.bv;exact lT (j.wk n) (cq.wk n m)
def bA.wkA{ρ:Nat->Int}(n:Nat)(h:bA P ρ f (args.map (cW n)) r):bA P ρ f args r:=⟨h.1,fun G w vs j m C=>h.2 G w vs j m (C.wk n)⟩
def xF(e:En):En:=⟨e.f,e.bU,fun I=>e.sp (I.map (cW 60))⟩
def L4{ρ:Nat->Int}{e:En}(h:de P ρ e):de P ρ (xF e):=fun I r hr=>(h _ r hr).wkA 60
end Go.Ab
namespace Go.Proofs.YtbflaciihaijgaaGreat
set_option maxRecDepth 20000
open Go Go.Ab Proofs.Tryz
variable(ρ:Nat->Int)
variable{H H':Hp}{v x:AV}{l m s:qA}{lo k r o:Nat}{cs:qB}{cfg:Cfg}
section
def iP(H:Hp)(v:AV)(l:qA)(lo:Nat):Prop:=∃r Y,v=.sl r 0 l.length 1/\H.get r=some (.cells (l.map (.int .i64)) Y true)/\Y<=l.length/\lo<=r/\r<H.next
def gM(H:Hp)(v:AV)(l:qA)(lo:Nat):Prop:=(v=.ao/\l=[])\/iP H v l lo
def iP.dj(h:iP H v l lo)(J:H.next<=H'.next)(hg:∀k,lo<=k->k<H.next->H'.get k=H.get k):iP H' v l lo:=by
 obtain⟨r,Y,j,m,C,Z,z⟩:=h;exact⟨r,Y,j,by rw[hg r Z z];exact m,C,Z,ac⟩
def iP.lt(h:iP H v l lo)(z:a3 v k):lo<=k/\k<H.next:=by
 obtain⟨r,Y,rfl,_,_,Z,V⟩:=h;obtain⟨n,e⟩:=z;simp only[AV.sl.injEq]at e;rw[<-e.1];exact⟨Z,V⟩
def gM.lt(h:gM H v l lo)(z:a3 v k):lo<=k/\k<H.next:=by
 rcases h with⟨rfl,_⟩|h
 .obtain⟨n,e⟩:=z;simp at e
 .exact h.lt z
def iP.keep(h:iP H v l lo)(J:H.next<=H'.next)(hg:∀k,a3 v k->H'.get k=H.get k):iP H' v l lo:=by
 obtain⟨r,Y,rfl,m,C,Z,z⟩:=h;exact⟨r,Y,rfl,Hg,C,Z,ac⟩
def gM.keep(h:gM H v l lo)(J:H.next<=H'.next)(hg:∀k,a3 v k->H'.get k=H.get k):gM H' v l lo:=h.imp id fun h=>h.keep J hg
def Hv(l:qA):(l.map (AV.int .i64)).all AV.one=true:=by simp[AV.one]
def xG{imm:Nat}(h:H.get r=some (.cells (m.map (.int .i64)) imm true)):gg H 1 (.sl r 0 m.length 1)=some (m.length,m.map (.int .i64)):=by
 have:=uC (H:=H) (r:=r) (o:=0) (n:=m.length) (z:=1) (s:=1) h aB;rw[this,gm,je aB]
theorem L5(hv:gM H v l lo)(V:lo<=H.next)(I:gg H 1 x=some (m.length,m.map (.int .i64)))(hm:m≠[])(hb:l.length+m.length<2^40):
 ∃C H',dr prog false H 26 26 v x=some (C,H')/\iP H' C (l++m) lo/\H'.next=H.next+1/\(∀k,k<lo->H'.get k=H.get k)/\tI v C H H':=by
 obtain⟨n,J⟩:∃n,m.length=n+1:=⟨m.length-1,Hh⟩;have Z:ej=70368744177664:=rfl;rw[J]at I;rcases hv with⟨rfl,rfl⟩|⟨r,Y,rfl,j,h3,h4,h5⟩
 .refine⟨.sl H.next 0 (n+1) 1,H.alloc (.cells (m.map (.int .i64)) 0 true),append_nil underlying26 jI rM rN ax I (Hv m) rfl nG nG,⟨H.next,0,xB,iE,ac,V,cn _⟩,rfl,fun k z=>dT,fun k z _=>dT,fun k z=>.inr ?_⟩;obtain⟨n',e⟩:=z;simp only[AV.sl.injEq]at e;omega
 .have L:iM false H 1 (.sl r 0 l.length 1)=H:=by
   unfold iM;simp only[j,bR,dk,lW];have:Nat.blt l.length l.length=false:=by
    cases hb:Nat.blt l.length l.length with
    |false=>rfl
    |true=>rw[ur]at hb;omega
   simp[this]
  refine⟨.sl H.next 0 (l.length+(n+1)) 1,(H.bh r).alloc (.cells (l.map (.int .i64)++m.map (.int .i64)) (Y-0) true),?_,⟨H.next,Y,xB,?_,cZ,V,cn _⟩,rfl,fun k z=>?_,fun k z O=>?_,fun k z=>.inr ?_⟩
  .simp only[dr,underlying26,jI,rM,rN,show jF prog 26=true by kernel_rfl,I,Hv,L,sC,dG,pD,oD,j,dk,bR,lW,gm];rw[ai ⟨nG,nG,trivial,trivial,h3⟩];simp
  .show((H.bh r).alloc _).get (H.bh r).next=_
   rw[aL,ai rfl];simp
  .rw[aL,ah rT,jH,ah ac]
  .rw[aL,ah rT,jH,ah (fun e=>O ⟨_,oF⟩)]
  .obtain⟨n',e⟩:=z;simp only[AV.sl.injEq]at e;omega
def L6{imm:Nat}(s:Int)(j:gM H v l lo)(V:lo<=H.next)(Z:H.get r=some (.cells [.int .i64 s] imm true))(hb:l.length<2^39):
 ∃C H',dr prog false H 26 26 v (.sl r 0 1 1)=some (C,H')/\iP H' C (l++[s]) lo/\H'.next=H.next+1/\(∀k,k<lo->H'.get k=H.get k)/\tI v C H H':=
 L5 j V (xG (m:=[s]) Z) aB cZ
def zgh{w:AV}{L:Nat}(j:iP H v l lo)(V:lo<=H.next)(J:gM H w m L)(hb:l.length+m.length<2^40):
 ∃C H',dr prog false H 26 26 v w=some (C,H')/\iP H' C (l++m) lo/\H.next<=H'.next/\(∀k,k<lo->H'.get k=H.get k)/\tI v C H H':=by
 by_cases O:m=[]
 .subst O;refine⟨v,H,?_,LS,aG _,fun _ _=>rfl,fun _ _ _=>rfl,fun _ h=>.inl h⟩;obtain⟨r,imm,rfl,I,_⟩:=j;rcases J with⟨rfl,_⟩|⟨r',Y,rfl,Z,_⟩
  .simp only[dr,underlying26,jI,rM,rN,show jF prog 26=true by kernel_rfl,gg]
  .have z:=xG Z;simp only[jQ]at z;simp only[dr,underlying26,jI,rM,rN,show jF prog 26=true by kernel_rfl,jQ,z]
 .rcases J with⟨_,h⟩|⟨r',Y,rfl,Z,_⟩
  .exact(O h).elim
  .obtain⟨C,H',h1,I,h3,h4⟩:=L5 (.inr j) V (xG Z) O hb;exact⟨C,H',h1,I,ac,h4⟩
def iP.len(h:iP H v l lo):jP prog H' 26 v=some (.int .i64 l.length):=by
 obtain⟨r,Y,rfl,_⟩:=h;exact CI underlying26 _ _ _ _
theorem iP.at(h:iP H v l lo){i:Nat}(O:i<l.length):
 ∃r,dK prog 26 v (.int .i64 (i:Int))=some (.ptr r i)/\eP prog H 3 (.ptr r i)=some (.int .i64 l[i]):=by
 obtain⟨r,Y,rfl,m,_⟩:=h;refine⟨r,?_,?_⟩
 .rw[pG underlying26 jI O];simp
 .rw[yI underlying3 rfl m,fd,aX O];rfl
theorem L7(l:qA):iw 1 l.length (l.map (.int .i64))=l.map fun s=>[AV.int .i64 s]:=by
 induction l with
 |nil=>rfl
 |cons a l ih=>simp[iw,ih]
theorem So(n:Nat):∀(l:qA) (H:Hp),iV (fJ (n+1)) (l.map (.int .i64)) H=some (l.map (.int .i64),H)
 |[],H=>rfl
 |a::l,H=>by
  have:=So n l H;have e:fJ (n+1) (.int .i64 a) H=some (.int .i64 a,H):=rfl;simp only[eC,iV,e,this]
theorem iP.bU(h:iP H v l lo)(n:Nat):
 ∃H',fJ (n+2) v H=some (iz l,H')/\iP H' v l lo/\H'.next=H.next/\(∀k,k<lo->H'.get k=H.get k)/\∀k,¬a3 v k->H'.get k=H.get k:=by
 obtain⟨r,Y,rfl,m,j,V,L⟩:=h;refine⟨H.set r (.cells (l.map (.int .i64)) (max Y l.length) true),?_,⟨r,max Y l.length,rfl,iW,ac,V,L⟩,rfl,fun k Z=>kK,fun k Z=>by rw[aQ,ah (fun e=>Z ⟨_,oF⟩)]⟩;have e:fJ (n+2) (.sl r 0 l.length 1) H=match H.get r with
  |some (.cells O Y z)=>match Nat.ble (0+l.length*1) O.length&&Nat.ble Y O.length with
   |true=>match iV (fJ (n+1)) ((O.drop 0).take (l.length*1)) (H.set r (.cells O (max Y (0+l.length*1)) z))with
    |some (C,H)=>some (.aE (iw 1 l.length C),H)
    |none=>none
   |false=>none
  |_=>none:=rfl
 rw[e,m];simp only[dk,bR,lW,gm];have J:Nat.ble l.length l.length=true:=Hk;have I:Nat.ble Y l.length=true:=Hk;rw[J,I];simp only[Dm];rw[je aB,So];simp only[L7]
def v8(H:Hp)(v:AV)(l:qA)(lo:Nat):Prop:=∃r,v=.sl r 0 l.length 1/\H.get r=some (.cells (l.map (.int .i64)) 0 true)/\lo<=r/\r<H.next
def jy(H:Hp)(v:AV)(l:qA)(lo:Nat):Prop:=(v=.ao/\l=[])\/v8 H v l lo
def v8.b(h:v8 H v l lo):iP H v l lo:=by
 obtain⟨r,j,m,C,Z⟩:=h;exact⟨r,0,j,m,eR _,C,Z⟩
def jy.n(h:jy H v l lo):gM H v l lo:=h.imp id fun h=>h.b
def v8.keep(h:v8 H v l lo)(J:H.next<=H'.next)(hg:∀k,a3 v k->H'.get k=H.get k):v8 H' v l lo:=by
 obtain⟨r,rfl,m,Z,z⟩:=h;exact⟨r,rfl,Hg,Z,ac⟩
def jy.keep(h:jy H v l lo)(J:H.next<=H'.next)(hg:∀k,a3 v k->H'.get k=H.get k):jy H' v l lo:=h.imp id fun h=>h.keep J hg
theorem L8(j:jy H v l lo)(V:lo<=H.next)(I:gg H 1 x=some (m.length,m.map (.int .i64)))(hm:m≠[])(hb:l.length+m.length<2^40):
 ∃C H',dr prog false H 26 26 v x=some (C,H')/\v8 H' C (l++m) lo/\H'.next=H.next+1/\(∀k,k<lo->H'.get k=H.get k)/\tI v C H H':=by
 obtain⟨n,J⟩:∃n,m.length=n+1:=⟨m.length-1,Hh⟩;have Z:ej=70368744177664:=rfl;rw[J]at I;rcases j with⟨rfl,rfl⟩|⟨r,rfl,L,h4,h5⟩
 .refine⟨.sl H.next 0 (n+1) 1,H.alloc (.cells (m.map (.int .i64)) 0 true),append_nil underlying26 jI rM rN ax I (Hv m) rfl nG nG,⟨H.next,xB,iE,V,cn _⟩,rfl,fun k z=>dT,fun k z _=>dT,fun k z=>.inr ?_⟩;obtain⟨n',e⟩:=z;simp only[AV.sl.injEq]at e;omega
 .have O:iM false H 1 (.sl r 0 l.length 1)=H:=by
   unfold iM;simp only[L,bR,dk,lW];have:Nat.blt l.length l.length=false:=by
    cases hb:Nat.blt l.length l.length with
    |false=>rfl
    |true=>rw[ur]at hb;omega
   simp[this]
  refine⟨.sl H.next 0 (l.length+(n+1)) 1,(H.bh r).alloc (.cells (l.map (.int .i64)++m.map (.int .i64)) (0-0) true),?_,⟨H.next,xB,?_,V,cn _⟩,rfl,fun k z=>?_,fun k z Y=>?_,fun k z=>.inr ?_⟩
  .simp only[dr,underlying26,jI,rM,rN,show jF prog 26=true by kernel_rfl,I,Hv,O,sC,dG,pD,oD,L,dk,bR,lW,gm];rw[ai ⟨nG,nG,trivial,trivial,eR _⟩];simp
  .show((H.bh r).alloc _).get (H.bh r).next=_
   rw[aL,ai rfl];simp
  .rw[aL,ah rT,jH,ah ac]
  .rw[aL,ah rT,jH,ah (fun e=>Y ⟨_,oF⟩)]
  .obtain⟨n',e⟩:=z;simp only[AV.sl.injEq]at e;omega
def zgi{imm:Nat}(s:Int)(j:jy H v l lo)(V:lo<=H.next)(Z:H.get r=some (.cells [.int .i64 s] imm true))(hb:l.length<2^39):
 ∃C H',dr prog false H 26 26 v (.sl r 0 1 1)=some (C,H')/\v8 H' C (l++[s]) lo/\H'.next=H.next+1/\(∀k,k<lo->H'.get k=H.get k)/\tI v C H H':=
 L8 j V (xG (m:=[s]) Z) aB cZ
theorem zgj(n:Nat):jO [.int .i64 0] n=(List.replicate n (0:Int)).map (.int .i64):=by
 induction n with
 |zero=>rfl
 |succ n ih=>simp only[jO,ih];simp[vY]
theorem zgk(n:Nat):jO [.bool false] n=(List.replicate n false).map .bool:=by
 induction n with
 |zero=>rfl
 |succ n ih=>simp only[jO,ih];simp[vY]
theorem zgl(n c:Nat)(h:n<=c)(L:c<2^40):jq prog H 26 (.int .i64 n) (.int .i64 c)=some (.sl H.next 0 n 1,H.alloc (.cells ((List.replicate n (0:Int)).map (.int .i64)) 0 true)):=by
 have Y:ej=70368744177664:=rfl;show jq prog H 26 (.int .i64 (Int.ofNat n)) (.int .i64 (Int.ofNat c))=_;simp only[jq,underlying26,jI,rM,rN];rw[ai ⟨h,uJ,uJ,rfl⟩,zgj]
theorem zgm(n:Nat)(L:n<2^40):jq prog H 149 (.int .i64 n) (.int .i64 n)=some (.sl H.next 0 n 1,H.alloc (.cells ((List.replicate n false).map .bool) 0 true)):=by
 have Y:ej=70368744177664:=rfl;show jq prog H 149 (.int .i64 (Int.ofNat n)) (.int .i64 (Int.ofNat n))=_;simp only[jq,underlying149,GV,Q1,Q3];rw[ai ⟨aG _,uJ,uJ,rfl⟩,zgk]
def splice_one(cs:qB)(I:o<cs.length)(x:AV):splice cs o [x]=cs.set o x:=by
 rw[Qf,RV,ai I];simp
def Dw(hg:H.get r=some (.cells cs 0 true))(I:o<cs.length)(n:Int):jY prog H 3 (.ptr r o) (.int .i64 n)=some (H.set r (.cells (cs.set o (.int .i64 n)) 0 true)):=by
 rw[yJ,hg,jI,CK,Ab.cells_int,splice_one cs I,ai ⟨rfl,eR _,I,rfl⟩]
def zgn(hg:H.get r=some (.cells cs 0 true))(I:o<cs.length)(b:Bool):jY prog H 4 (.ptr r o) (.bool b)=some (H.set r (.cells (cs.set o (.bool b)) 0 true)):=by
 rw[yJ,hg,GV,CK,Qg,splice_one cs I,ai ⟨rfl,eR _,I,rfl⟩]
theorem Sp(H:Hp)(n:Nat):∀l:qA,iceL (iceV H (n+1)) (l.map (.int .i64))=some (l.map (.int .i64))
 |[]=>rfl
 |a::l=>by
  have:=Sp H n l;have e:iceV H (n+1) (.int .i64 a)=some (.int .i64 a):=rfl;simp only[eC,iceL,e,this]
theorem iP.iceV{H:Hp}{v:AV}{l:qA}{lo:Nat}(h:iP H v l lo)(n:Nat):iceV H (n+2) v=some (iz l):=by
 obtain⟨r,Y,rfl,m,_⟩:=h;have e:Ab.iceV H (n+2) (.sl r 0 l.length 1)=match H.get r with
  |some (.cells O _ _)=>match iceL (Ab.iceV H (n+1)) ((O.drop 0).take (l.length*1))with
   |some C=>if C.length=l.length*1 then some (.aE (iw 1 l.length C))else none
   |none=>none
  |_=>none:=rfl
 rw[e,m];simp only[gm,lW];rw[je aB,Sp];simp only[dk,dG,L7]
def n1(H:Hp)(v:AV)(l:qA)(lo:Nat):Prop:=∃r Y,v=.sl r 0 l.length 1/\H.get r=some (.cells (l.map (.int .u8)) Y true)/\Y<=l.length/\lo<=r/\r<H.next
def Ma(H:Hp)(v:AV)(l:qA)(lo:Nat):Prop:=(v=.ao/\l=[])\/n1 H v l lo
def n1.dj(h:n1 H v l lo)(J:H.next<=H'.next)(hg:∀k,lo<=k->k<H.next->H'.get k=H.get k):n1 H' v l lo:=by
 obtain⟨r,Y,j,m,C,Z,z⟩:=h;exact⟨r,Y,j,by rw[hg r Z z];exact m,C,Z,ac⟩
def n1.lt(h:n1 H v l lo)(z:a3 v k):lo<=k/\k<H.next:=by
 obtain⟨r,Y,rfl,_,_,Z,V⟩:=h;obtain⟨n,e⟩:=z;simp only[AV.sl.injEq]at e;rw[<-e.1];exact⟨Z,V⟩
def n1.keep(h:n1 H v l lo)(J:H.next<=H'.next)(hg:∀k,a3 v k->H'.get k=H.get k):n1 H' v l lo:=by
 obtain⟨r,Y,rfl,m,C,Z,z⟩:=h;exact⟨r,Y,rfl,Hg,C,Z,ac⟩
def Sq(l:qA):(l.map (AV.int .u8)).all AV.one=true:=by simp[AV.one]
def zgo{imm:Nat}(h:H.get r=some (.cells (m.map (.int .u8)) imm true)):gg H 1 (.sl r 0 m.length 1)=some (m.length,m.map (.int .u8)):=by
 have:=uC (H:=H) (r:=r) (o:=0) (n:=m.length) (z:=1) (s:=1) h aB;rw[this,gm,je aB]
theorem zgp(hv:Ma H v l lo)(V:lo<=H.next)(I:gg H 1 x=some (m.length,m.map (.int .u8)))(hm:m≠[])(hb:l.length+m.length<2^40):
 ∃C H',dr prog false H 73 73 v x=some (C,H')/\n1 H' C (l++m) lo/\H'.next=H.next+1/\(∀k,k<lo->H'.get k=H.get k)/\tI v C H H':=by
 obtain⟨n,J⟩:∃n,m.length=n+1:=⟨m.length-1,Hh⟩;have Z:ej=70368744177664:=rfl;rw[J]at I;rcases hv with⟨rfl,rfl⟩|⟨r,Y,rfl,j,h3,h4,h5⟩
 .refine⟨.sl H.next 0 (n+1) 1,H.alloc (.cells (m.map (.int .u8)) 0 true),append_nil underlying73 Ls Lt Lu ax I (Sq m) rfl nG nG,⟨H.next,0,xB,iE,ac,V,cn _⟩,rfl,fun k z=>dT,fun k z _=>dT,fun k z=>.inr ?_⟩;obtain⟨n',e⟩:=z;simp only[AV.sl.injEq]at e;omega
 .have L:iM false H 1 (.sl r 0 l.length 1)=H:=by
   unfold iM;simp only[j,bR,dk,lW];have:Nat.blt l.length l.length=false:=by
    cases hb:Nat.blt l.length l.length with
    |false=>rfl
    |true=>rw[ur]at hb;omega
   simp[this]
  refine⟨.sl H.next 0 (l.length+(n+1)) 1,(H.bh r).alloc (.cells (l.map (.int .u8)++m.map (.int .u8)) (Y-0) true),?_,⟨H.next,Y,xB,?_,cZ,V,cn _⟩,rfl,fun k z=>?_,fun k z O=>?_,fun k z=>.inr ?_⟩
  .simp only[dr,underlying73,Ls,Lt,Lu,show jF prog 73=true by kernel_rfl,I,Sq,L,sC,dG,pD,oD,j,dk,bR,lW,gm];rw[ai ⟨nG,nG,trivial,trivial,h3⟩];simp
  .show((H.bh r).alloc _).get (H.bh r).next=_
   rw[aL,ai rfl];simp
  .rw[aL,ah rT,jH,ah ac]
  .rw[aL,ah rT,jH,ah (fun e=>O ⟨_,oF⟩)]
  .obtain⟨n',e⟩:=z;simp only[AV.sl.injEq]at e;omega
def zgq{imm:Nat}(s:Int)(j:Ma H v l lo)(V:lo<=H.next)(Z:H.get r=some (.cells [.int .u8 s] imm true))(hb:l.length<2^39):
 ∃C H',dr prog false H 73 73 v (.sl r 0 1 1)=some (C,H')/\n1 H' C (l++[s]) lo/\H'.next=H.next+1/\(∀k,k<lo->H'.get k=H.get k)/\tI v C H H':=
 zgp j V (zgo (m:=[s]) Z) aB cZ
def zgr(H:Hp)(n:Int):eW prog H 73 1 [(0,.int .u8 n)]=some (.sl H.next 0 1 1,H.alloc (.cells [.int .u8 n] 0 true)):=ax
theorem bin_shr{D:BinOp->Sx->Sx->qK}{t:TypeId}{k I:IntKind}{a:Int}{m:Nat}(h:m<64)(z:k=.u64):dQ prog D .shr t (.int k a) (.int I (m:Int))=some (.int k (a.fdiv (2^ m))):=by
 subst z;have e:dQ prog D .shr t (.int .u64 a) (.int I (Int.ofNat m))=some (.int .u64 (a.fdiv (2^ min m 64))):=rfl;rw[show min m 64=m by omega]at e;exact e
def o0(n:Int)(i:Nat):Int:=IntKind.wrap .u8 (n.fdiv (2^ (8*i)))
def kZ(n:Int)(i:Nat):qA:=(List.range i).map (o0 n)
def wc(n:Int)(i:Nat):(kZ n i).length=i:=by simp[kZ]
def zgs(n:Int)(i:Nat):kZ n (i+1)=kZ n i++[o0 n i]:=by simp[kZ,List.range_succ]
def wd(l:qA):qD:=l.map fun n=>UInt8.ofNat n.toNat
def tyR3b.tyF:=ad @cG (ad @eG (ad @i7 (ad @jh (ad @iC (ad @kg (@dm))))))
open tyR3b
noncomputable def Sr:=qd (M:=22) f145.eq_1
noncomputable def Ss:=qd (M:=78) f143.eq_1
mutual
def dn:Ex->Nat
 | .mk _ _ _ _ L=>md L
def md:qM->Nat
 |[]=>0
 |e::es=>max (1+dn e) (md es)
end
theorem Su(x:Ex):dn x=md x.ak:=by cases x;rw[dn];rfl
mutual
theorem Sv:∀x:Ex,dn x<=x.sz
 | .mk _ _ _ _ L=>by have:=Sw L;simp only[dn,Ex.sz];omega
theorem Sw:∀l:qM,md l<=fg l
 |[]=>aG _
 |e::es=>by have:=Sv e;have:=Sw es;simp only[md,fg];omega
end
def me(x:Ex):qB:=[.agg x.cells]
def uM(x y:Ex)(h:me x=me y):x=y:=by simp only[me,eX,AV.agg.injEq,aV]at h;exact Ex.inj h
def o7(l:qJ):qB:=[.aE (l.map St.cells)]
def AK(x y:qJ)(h:o7 x=o7 y):x=y:=by simp only[o7,eX,AV.aE.injEq,aV]at h;exact G9 h
def zgt:∀x:Ex,x.sz<2^60->bA prog ρ 145 [.agg x.cells] (.int .i64 (dn x)):=
 zd fit (pls:=pls) (l:=[]) trivial (fun x=>x.sz) (ok:=fun x=>x.sz<2^60) (enc:=me) (out:=fun x=>.int .i64 (dn x)) (fun x _=>.cons (.agg x.pure) .nil) (fun x _=>.int _ _) (fun x hx=>by
 have hw:=zh (sz:=fun x:Ex=>x.sz) (ok:=fun x=>x.sz<2^60) (out:=fun x=>.int .i64 (dn x)) uM (f:=145) (l:=[]) x;generalize hl:(⟨145,false,co (fun y=>y.sz<2^60/\y.sz<x.sz) me fun x=>.int .i64 (dn x)⟩:En)::[]=l at hw⊢;have kr:∀y:Ex,y.sz<2^60->y.sz<x.sz->∀H,aR prog (aA pls l) 145 [.agg y.cells] H fun v H'=>v=.int .i64 (dn y)/\H'=H:=fun y j O H=>by
  subst hl;exact cQ (enc:=me) (out:=fun x=>.int .i64 (dn x)) uM (x:=y) rfl ⟨j,O⟩
 have hsz:=x.a9;have V:=xe x.ak;have hlk:x.ak.length<2^60:=ac;have hdl:=Sv x;change aR _ _ _ [.agg x.cells] _ _;refine a4 (M:=22) (rs:=[.tmp 2]) hw.call hw.bU hw.cm func145 rfl rfl Sr.2.1 rfl ?_;dsimp only[Sr,qd,a1,Nat.reduceAdd];refine mA ?_;refine cP [1] [0] 4 x.ak.length (fun i E H=>∃m:Nat,E.at 3=.int .i64 m/\max m (md (x.ak.drop i))=dn x) eE ⟨0,eE,by simp[Su]⟩ ?_;rintro i E Y hi Z J L hsI ⟨m,ee,I⟩;(try simp only[bz,a7,aV,aK,bb,Nat.reduceBEq, *]at Z);(try simp only[bz,a7,aV,aK,bb, *]at J);(try simp only[aS,cL,bR]at L);have hB0:(0 == Y.next)=false:=aZ ac;have hC0:(Y.next == 0)=false:=aZ ac;repeat' (first
  |(apply ay ?_;clear hK K)|apply a9 ?_|(apply bU ?_ ?_<;>(intro hb hbp;try(cases hb;done)))|(apply az fun K hK=>?_)|fail)
 .have C:i<x.ak.length:=by simpa using hb
  have hgx:x.ak[i]?=some x.ak[i]:=aX C;have hm:=ux (dE C);have z:md (x.ak.drop i)=max (1+dn x.ak[i]) (md (x.ak.drop (i+1))):=oW;have hwr:IntKind.wrap .i64 (1+(dn x.ak[i]:Int))=((1+dn x.ak[i]:Nat):Int):=by rw[vD _ ac];omega
  repeat' (first
   |(apply ay ?_;clear hK K)|apply Rx.o ?_|(apply fq ?_;first|refine Rx.k (kr _ ac ac _) ?_)|(apply az fun K hK=>?_)|fail)
  refine⟨ac,aW,aW,b8,LU,?_⟩;exact⟨max m (1+dn x.ak[i]),by simp only[aK,Nat.reduceBEq];congr 1;omega,by rw[<-I,z];omega⟩
 .all_goals refine qi ?_
  rw[show i=x.ak.length by simp at hb;omega,kL]at I;simp[md]at I;rw[I])
mutual
def dd:St->Nat
 | .mk _ _ _ _ _ _ _ O V=>1+nS O+nS V
def nS:qJ->Nat
 |[]=>0
 |x::l=>dd x+nS l
end
mutual
def dI:St->Nat
 | .mk k _ _ _ _ _ _ O V=>(if k=4 then 1 else 0)+eV O+eV V
def eV:qJ->Nat
 |[]=>0
 |x::l=>dI x+eV l
end
mutual
def bt:St->Nat->Nat
 | .mk _ _ _ _ _ _ _ O V,d=>max d (max (iQ O (d+1)) (iQ V (d+1)))
def iQ:qJ->Nat->Nat
 |[],_=>0
 |x::l,d=>max (bt x d) (iQ l d)
end
theorem zj(x:St):dd x=1+nS x.bm+nS x.bO:=by cases x;rw[dd];rfl
theorem xH(x:St):dI x=(if x.az=4 then 1 else 0)+eV x.bm+eV x.bO:=by cases x;rw[dI];rfl
theorem zgu(x:St)(d:Nat):bt x d=max d (max (iQ x.bm (d+1)) (iQ x.bO (d+1))):=by cases x;rw[bt];rfl
mutual
theorem zgv:∀x:St,dd x<=x.sz
 | .mk _ _ _ _ _ _ _ O V=>by have:=Hw O;have:=Hw V;simp only[dd,St.sz];omega
theorem Hw:∀l:qJ,nS l<=bF l
 |[]=>aG _
 |x::l=>by have:=zgv x;have:=Hw l;simp only[nS,bF];omega
end
mutual
theorem zgw:∀x:St,dI x<=x.sz
 | .mk k _ _ _ _ _ _ O V=>by have:=Hy O;have:=Hy V;simp only[dI,St.sz];split<;>omega
theorem Hy:∀l:qJ,eV l<=bF l
 |[]=>aG _
 |x::l=>by have:=zgw x;have:=Hy l;simp only[eV,bF];omega
end
mutual
theorem zgx:∀(x:St) (d:Nat),bt x d<=d+x.sz
 | .mk _ _ _ _ _ _ _ O V,d=>by have:=HA O (d+1);have:=HA V (d+1);simp only[bt,St.sz];omega
theorem HA:∀(l:qJ) (d:Nat),iQ l d<=d+bF l
 |[],_=>eR _
 |x::l,d=>by have:=zgx x d;have:=HA l d;simp only[iQ,bF];omega
end
def fN{z:Int}(j:-9223372036854775808<=z)(m:z<9223372036854775808):IntKind.wrap .i64 z=z:=vD _ ac
def we(x:qJ×Nat):qB:=[.aE (x.1.map St.cells),.int .i64 x.2]
def Mb(x y:qJ×Nat)(h:we x=we y):x=y:=by
 simp only[we,eX,AV.aE.injEq,AV.int.injEq,aV,j6]at h;exact sK (G9 h.1) ac
def xI(x:qJ×Nat):AV:=.bH [.int .i64 (nS x.1),.int .i64 (eV x.1),.int .i64 (iQ x.1 x.2)]
theorem Sy(a b c:AV):Ab.extract (.bH [a,b,c]) 0=some a:=rfl
theorem Sz(a b c:AV):Ab.extract (.bH [a,b,c]) 1=some b:=rfl
theorem SA(a b c:AV):Ab.extract (.bH [a,b,c]) 2=some c:=rfl
def zgy:∀x:qJ×Nat,bF x.1+x.2<2^60->bA prog ρ 143 (we x) (xI x):=
 zd fit (pls:=pls) (l:=[]) trivial (fun x=>bF x.1) (ok:=fun x=>bF x.1+x.2<2^60) (enc:=we) (out:=xI) (fun x _=>.cons (Dd _) (.cons (.int _ _) .nil)) (fun x _=>.bH (.cons (.int _ _) (.cons (.int _ _) (.cons (.int _ _) .nil)))) (fun x O=>by
 have hw:=zh (sz:=fun x:qJ×Nat=>bF x.1) (ok:=fun x=>bF x.1+x.2<2^60) (out:=xI) Mb (f:=143) (l:=[]) x;generalize hl:(⟨143,false,co (fun y=>bF y.1+y.2<2^60/\bF y.1<bF x.1) we xI⟩:En)::[]=l at hw⊢;obtain⟨x,d⟩:=x;have kr:∀(y:qJ),bF y<bF x->∀H,aR prog (aA pls l) 143 [.aE (y.map St.cells),.int .i64 ((d+1:Nat):Int)] H fun v H'=>v=.bH [.int .i64 (nS y),.int .i64 (eV y),.int .i64 (iQ y (d+1))]/\H'=H:=fun y j H=>by
  subst hl;exact cQ (enc:=we) (out:=xI) Mb (x:=(y,d+1)) rfl ⟨by simp only[]at O⊢;omega,j⟩
 simp only[]at O;have z:=yL x;have hn:=Hw x;have hwl:=Hy x;have hm:=HA x d;have hwd:IntKind.wrap .i64 ((d:Int)+1)=((d+1:Nat):Int):=by rw[vD _ ac];omega
 change aR _ _ _ [.aE (x.map St.cells),.int .i64 d] _ _;refine a4 (M:=78) (rs:=[.tmp 4,.tmp 5,.tmp 6]) hw.call hw.bU hw.cm func143 rfl rfl Ss.2.1 rfl ?_;dsimp only[Ss,qd,a1,Nat.reduceAdd];refine mA ?_;refine cP [0,1] [] 10 x.length (fun i E H=>∃a b m:Nat,E.at 7=.int .i64 a/\E.at 8=.int .i64 b/\E.at 9=.int .i64 m/\a+nS (x.drop i)=nS x/\b+eV (x.drop i)=eV x/\max m (iQ (x.drop i) d)=iQ x d) eE ⟨0,0,0,eE,eE,eE,aB,aB,aB⟩ ?_;rintro i E H2 hi I J L hsI ⟨a,b,m,iU,k8,k9,V,Z,Y⟩;(try simp only[bz,a7,aV,aK,bb,Nat.reduceBEq, *]at I);(try simp only[a7, *]at J);(try simp only[cL,]at L);repeat' (first
  |(apply ay ?_;clear hK K)|apply a9 ?_|(apply bU ?_ ?_<;>(intro hb hbp;try(cases hb;done)))|(apply az fun K hK=>?_)|fail)
 .have C:i<x.length:=by simpa using hb
  have hgx:x[i]?=some x[i]:=aX C;have hsm:=tz (dE C);have hsz:=x[i].a9;have d1:nS (x.drop i)=dd x[i]+nS (x.drop (i+1)):=oW;have d2:eV (x.drop i)=dI x[i]+eV (x.drop (i+1)):=oW;have d3:iQ (x.drop i) d=max (bt x[i] d) (iQ (x.drop (i+1)) d):=oW;rw[zj]at d1;rw[xH]at d2;rw[zgu]at d3;have gh0:=@Sy;have gh1:=@Sz;have gh2:=@SA;repeat' (first
   |(apply ay ?_;clear hK K)|apply a9 ?_|(apply fq ?_;first|refine Rx.k (kr _ ac _) ?_)|(apply bU ?_ ?_<;>(intro hb hbp;try(cases hb;done)))|(apply az fun K hK=>?_)|fail)
  all_goals
   refine⟨ac,aW,aW,b8,AH,?_⟩;refine⟨a+1+nS x[i].bm+nS x[i].bO,b+(if x[i].az=4 then 1 else 0)+eV x[i].bm+eV x[i].bO,max (max m d) (max (iQ x[i].bm (d+1)) (iQ x[i].bO (d+1))),?_,?_,?_,ac,ac,ac⟩
   .simp only[aK,Nat.reduceBEq]
    congr 1
    simp (disch:=omega) only[fN];omega
   .simp only[aK,Nat.reduceBEq]
    congr 1
    simp (disch:=omega) only[fN, *];simp;try omega
   .simp only[aK,Nat.reduceBEq]
    congr 1
    omega
 .all_goals refine qi ?_
  rw[show i=x.length by simp at hb;omega,kL]at V Z Y;simp[nS,eV,iQ]at V Z Y;simp only[xI,V,Z,Y])
end
variable{b:qA}
section
def tyI1.tyF:=ad @cG (ad @ey (@sw))
open tyI1
noncomputable def SB:=qd (M:=31) f42.eq_1
noncomputable def SD:=qd (M:=6) f129.eq_1
noncomputable def SE:=qd (M:=22) f199.eq_1
noncomputable def SF:=qd (M:=21) f197.eq_1
noncomputable def SG:=qd (M:=21) f198.eq_1
def pe(op:Int):AV:=.bH [.int .i64 (eK op).1,.bool (eK op).2]
def zgz(op:Int):gD (pe op):=.bH (.cons (.int _ _) (.cons (.bool _) .nil))
theorem zgA(op:Int):bA prog ρ 42 [.int .i64 op] (pe op):=fF fit (pls:=pls) (l:=[]) trivial (.cons (.int _ _) .nil) (zgz op) (by
 have hw:=lH 42;refine qe hw func42 SB ?_;dsimp only[SB,qd,a1,Nat.reduceAdd];repeat' (first
  |(apply ay ?_;clear hK K)|apply a9 ?_|(apply gL ?_ ?_<;>(intro hg hgp;try(cases hg;done)))|(apply bU ?_ ?_<;>(intro hb hbp;try(cases hb;done)))|(apply az fun K hK=>?_)|fail)
 all_goals
  refine⟨aE,_,rS,?_⟩;try simp only[aD]
  first
  |(simp_all[pe,eK];done)
  |(unfold pe eK;rw[ah ac,ah ac,ah ac,ah ac,ah ac,ah ac];done))
def Mc(n:Nat):(0:Int)<=dy n/\dy n<=n:=by
 by_cases h:n=0
 .subst h;decide
 .rw[CP n ac];omega
def zgB(n:Nat)(J:n<2^60):bA prog ρ 129 [.int .i64 n] (.int .i64 (dy n)):=fF fit (pls:=pls) (l:=[]) trivial (.cons (.int _ _) .nil) (.int _ _) (by
 have hw:=lH 129;have Z:(2:Int)≠0:=aF;have C:IntKind.wrap .i64 ((n:Int)-1)=(n:Int)-1:=fN ac ac;refine qe hw func129 SD ?_;dsimp only[SD,qd,a1,Nat.reduceAdd];refine BU ?_;all_goals refine qi ?_
 rw[dy];rw[fN RT RU])
def zgC(H:Hp)(a b c:Int):eW prog H 26 3 [(0,.int .i64 a),(1,.int .i64 b),(2,.int .i64 c)]=some (.sl H.next 0 3 1,H.alloc (.cells [.int .i64 a,.int .i64 b,.int .i64 c] 0 true)):=ax
def zgD(H:Hp)(a b:Int):eW prog H 26 2 [(0,.int .i64 a),(1,.int .i64 b)]=some (.sl H.next 0 2 1,H.alloc (.cells [.int .i64 a,.int .i64 b] 0 true)):=ax
def Md(H:Hp)(a:Int):eW prog H 26 1 [(0,.int .i64 a)]=some (.sl H.next 0 1 1,H.alloc (.cells [.int .i64 a] 0 true)):=ax
theorem zgE(op:Int):bA prog ρ 199 [.int .i64 op] (iz (ju op)):=xu (m:=3) (cfg:=aA pls []) fit (rG ρ) (fun f I r h=>by simp[aA,dU]at h) (.cons (.int _ _) .nil) (by
 have hw:=lH 199;refine qe hw func199 SE ?_;dsimp only[SE,qd,a1,Nat.reduceAdd];have O:=@zgC;have V:=@zgD;have z:=@Md;repeat' (first
  |(apply ay ?_;clear hK K)|apply a9 ?_|(apply bU ?_ ?_<;>(intro hb hbp;try(cases hb;done)))|(apply az fun K hK=>?_)|fail)
 all_goals
  all_goals refine qi ?_
  simp_all[ju];rfl)
def zgF(s w:qA)(i:Nat)(O:i<s.length)(L:s.length<=w.length):fy (s.drop i) (w.drop i)=(decide (s.getD i 0=w.getD i 0)&&fy (s.drop (i+1)) (w.drop (i+1))):=by
 rw[i4 O,i4 (l:=w) ac,fy];simp[dC,aX O,aX (show i<w.length by omega)]
def zk(x:qA×qA):qB:=[iz x.1,iz x.2]
def Me{a:qA}(h:iz a=iz b):a=b:=by
 simp only[iz,AV.aE.injEq]at h;exact RS h
def zgG(x y:qA×qA)(h:zk x=zk y):x=y:=by
 simp only[zk,eX,aV]at h;exact sK (Me h.1) (Me h.2)
theorem zgH(x:qA×qA)(m:x.1.length<=x.2.length/\x.2.length<2^60):bA prog ρ 197 (zk x) (.bool (fy x.1 x.2)):=fF fit (pls:=pls) (l:=[]) trivial (.cons (Dg _) (.cons (Dg _) .nil)) (.bool _) (by
 obtain⟨s,w⟩:=x;obtain⟨O,hb⟩:=m;simp only[]at O hb;have hw:=lH 197;rw[zk];simp only[];refine qe hw func197 SF ?_;dsimp only[SF,qd,a1,Nat.reduceAdd];refine mA ?_;refine cP [0,1] [] 5 s.length (fun i E H=>fy s w=fy (s.drop i) (w.drop i)) eE aB ?_;rintro i E H2 hi Y J L j V;(try simp only[bz,a7,aV,aK,bb,Nat.reduceBEq, *]at Y);(try simp only[a7, *]at J);(try simp only[cL,]at L);repeat' (first
  |(apply ay ?_;clear hK K)|apply a9 ?_|(apply bU ?_ ?_<;>(intro hb hbp;try(cases hb;done)))|(apply az fun K hK=>?_)|(apply bV 4 [(3,9),(7,9)] fun K hK=>?_)|(apply bB ?_;try intro _)|fail)
 .have C:i<s.length:=by simpa using hb
  have Z:s[i]?=some s[i]:=aX C;have I:w[i]?=some w[i]:=aX ac;have z:=zgF s w i C O;refine OM ?_ (fun hb hbp=>?_) (fun hb hbp=>?_)
  .exact bM
  .all_goals refine qi ?_
   rw[V,z,dC,dC,Z,I];simp_all
  .refine⟨ac,aW,aW,b8,Dj,?_⟩;rw[V,z,dC,dC,Z,I];simp_all
 .all_goals refine qi ?_
  rw[V,show i=s.length by simp at hb;omega,kL];rfl)
noncomputable def Mf:En:=⟨42,false,co (fun _=>True) (fun n:Int=>[.int .i64 n]) pe⟩
def zgI:de prog ρ Mf:=dA fun n _=>zgA ρ n
def SH(x y:Int)(h:([.int .i64 x]:qB)=[.int .i64 y]):x=y:=lV
def wh(n:Nat):qB:=[.int .i64 n]
def Mg(x y:Nat)(h:wh x=wh y):x=y:=by
 simp only[wh,eX,AV.int.injEq,aV,j6]at h;omega
noncomputable def uN:En:=⟨129,false,co (fun n=>n<2^60) wh fun n=>.int .i64 (dy n)⟩
def HC:de prog ρ uN:=dA fun n J=>zgB ρ n J
def AL{l:qH}(L:∀m,dU l 129 m=uN.sp m)(n:Nat)(J:n<2^60)(H:Hp):aR prog (aA pls l) 129 [.int .i64 n] H fun v H'=>v=.int .i64 (dy n)/\H'=H:=
 cQ (enc:=wh) (ok:=fun n=>n<2^60) (out:=fun n=>.int .i64 (dy n)) Mg (x:=n) (L _) J
noncomputable def Mh:En:=⟨199,false,co (fun _=>True) (fun n:Int=>[.int .i64 n]) fun n=>iz (ju n)⟩
def zgJ:de prog ρ Mh:=dA fun n _=>zgE ρ n
def AM(x:qA×qA):Prop:=x.1.length<=x.2.length/\x.2.length<2^60
noncomputable def Mi:En:=⟨197,false,co AM zk fun x=>.bool (fy x.1 x.2)⟩
def zgK:de prog ρ Mi:=dA fun x I=>zgH ρ x I
theorem zgL(n:Nat)(h3:3<=n)(hn:n<2^30):bA prog ρ 198 [.int .i64 n] (iz (nA n)):=xu (m:=3) (cfg:=aA pls [uN]) fit (rG ρ) (gX.cu ⟨HC ρ,trivial⟩) (.cons (.int _ _) .nil) (by
 have hw:zd0 (aA pls [uN]) 198:=gY (fun _=>rfl) rfl;have hlv:=CP n ac;refine qe hw func198 SG ?_;dsimp only[SG,qd,a1,Nat.reduceAdd];refine dX ?_;have Z:∀i,(List.replicate i (1:Int)).length=i:=fun i=>j9;have j:(aA pls [uN]).keep 198=false:=rfl;refine cP [0,2] [] 4 n (fun i E H=>∃v,E.at 3=v/\jy H v (List.replicate i 1) 0) eE ⟨.ao,eE,.inl ⟨rfl,rfl⟩⟩ ?_;rintro i E Y hi I J L hsI ⟨v,ee,V⟩;(try simp only[bz,a7,aV,aK,bb,Nat.reduceBEq, *]at I);(try simp only[a7, *]at J);(try simp only[cL,]at L);repeat' (first
  |(apply ay ?_;clear hK K)|apply a9 ?_|(apply bU ?_ ?_<;>(intro hb hbp;try(cases hb;done)))|(apply az fun K hK=>?_)|fail)
 .have hlt:i<n:=by simpa using hb
  have gh0:=@Md;refine dX ?_;have C:jy (Y.alloc (.cells [.int .i64 1] 0 true)) v (List.replicate i 1) 0:=V.keep (dg _) fun k hk=>by rw[aL,ah (by have:=(V.n.lt hk).2;omega)]
  obtain⟨v5,H5,cI,s5,n5,f5,o5⟩:=zgi (r:=Y.next) (imm:=0) 1 C (eR _) fw nG;refine mG cS cS (by rw[j];exact cI) ?_;refine dX ?_;refine⟨ac,aW,aW,b8,(by simp only[aK,Nat.reduceBEq, *];exact il (n:=n) ac ac),?_⟩;exact⟨v5,eE,.inr (by rw[LX];exact s5)⟩
 .have z:i=n:=by simp at hb;omega
  subst z;rcases V with⟨_,h⟩|⟨r,O,h2,_,h4⟩
  .have:=pC List.length h;rw[Z]at this;simp at this;omega
  subst O;rw[Z]at ee;have hcl:((List.replicate i (1:Int)).map (AV.int .i64)).length=i:=aB;generalize hcs:(List.replicate i (1:Int)).map (AV.int .i64)=cs at h2 hcl;have hi1:0<i:=ac;have hi2:(i-1)/2+1<i:=ac;have e1:IntKind.wrap .i64 (((i-1)/2:Nat)+1)=(((i-1)/2+1:Nat):Int):=fN ac ac;repeat' (first
   |apply Ry.o ?_|(apply eA ?_;first|refine Rx.k (AL (fun _=>rfl) _ ac _) ?_)|fail)
  refine oK cS cS (Dw h2 ac 2) ?_;refine yg ?_;refine oK cS cS (Dw iW (by rw[iB];omega) 2) ?_;refine dX ?_;all_goals refine qi ?_
  have hll:(nA i).length=i:=by simp[nA]
  have hb:iP ((Y.set r (.cells (cs.set 0 (.int .i64 2)) 0 true)).set r (.cells ((cs.set 0 (.int .i64 2)).set ((i-1)/2+1) (.int .i64 2)) 0 true)) (.sl r 0 (nA i).length 1) (nA i) 0:=⟨r,0,rfl,by
   rw[aQ,ai rfl,nA,xD,xD,hcs,show(dy i+1).toNat=(i-1)/2+1 by omega],eR _,eR _,h4⟩
  have:=hb.iceV 1;rw[hll]at this;exact this)
noncomputable def Mj:En:=⟨198,false,co (fun n=>3<=n/\n<2^30) wh fun n=>iz (nA n)⟩
def zgM:de prog ρ Mj:=dA fun n J=>zgL ρ n J.1 J.2
end
section
def tyI2.tyF:=ad @dm (ad @cG (ad @ey (ad @ik (ad @gC (@xd)))))
open tyI2
noncomputable def SI:=qd (M:=53) f168.eq_1
noncomputable def pR:=qd (M:=106) f167.eq_1
noncomputable def Mk:qH:=[Mf,uN,Mh,Mi,Mj]
def SJ:gX prog ρ Mk:=⟨zgI ρ,HC ρ,zgJ ρ,zgK ρ,zgM ρ,trivial⟩
abbrev jV(l:qF):AV:=.aE (l.map Nd.cells)
def AN(l:qF):gD (jV l):=.map fun x _=>x.pure
def SK{a b:qF}(h:jV a=jV b):a=b:=by
 simp only[jV,AV.aE.injEq]at h;exact pN (fun _ _ _=>xw) h
def Dx(x:qF×Nd):Prop:=x.2.op=25->∃(k:Nat) (m:Nd),x.2.ak[0]?=some (k:Int)/\x.1[k]?=some m/\m.ak.length<2^60
def zl(x:qF×Nd):qB:=[jV x.1,.agg x.2.cells]
def zgN(x y:qF×Nd)(h:zl x=zl y):x=y:=by
 simp only[zl,eX,AV.agg.injEq,aV]at h;exact sK (SK h.1) (xw h.2)
theorem zgO(x:qF×Nd)(I:Dx x):bA prog ρ 168 (zl x) (.bool (fh x.1 x.2)):=fF fit (pls:=pls) (SJ ρ) (.cons (AN _) (.cons (.agg (Dh _)) .nil)) (.bool _) (by
 obtain⟨l,n⟩:=x;have hw:zd0 (aA pls Mk) 168:=gY (fun _=>rfl) rfl;unfold Dx at I;rw[zl];simp only[]at I⊢;refine qe hw func168 SI ?_;dsimp only[SI,qd,a1,Nat.reduceAdd];repeat' (first
  |(apply ay ?_;clear hK K)|apply a9 ?_|(apply gL ?_ ?_<;>(intro hg hgp;try(cases hg;done)))|(apply bU ?_ ?_<;>(intro hb hbp;try(cases hb;done)))|(apply az fun K hK=>?_)|fail)
 all_goals (first|(refine⟨aE,_,aO,?_⟩;(try simp only[aD]);clear I;simp_all[fh,kH]<;>omega;done)|skip)
 all_goals trace_state
 have J:n.op=25:=mX;obtain⟨k,m,j,Y,C⟩:=I J;have Z:n.ak.headD 0=k:=by
  cases z:n.ak with
  |nil=>rw[z]at j;simp at j
  |cons a b=>rw[z]at j;simpa using j
 have V:Av l (n.ak.headD 0)=m.ak.length:=by rw[Z,Av,eM,Y]
 have O:=Mc m.ak.length;have L:IntKind.wrap .i64 (dy m.ak.length-1)=dy m.ak.length-1:=fN ac ac;repeat' (first
  |(apply ay ?_;clear hK K)|apply aT ?_|(apply eA ?_;first|refine Rx.k (AL (fun _=>rfl) _ ac _) ?_)|(apply cR ?_ ?_<;>(intro hg hgp;try(cases hg;done)))|(apply az fun K hK=>?_)|fail)
 all_goals (first|(refine⟨aE,_,aO,?_⟩;(try simp only[aD]);clear I;simp_all[fh,kH]<;>omega;done)|skip)
 all_goals trace_state)
noncomputable def SL:En:=⟨168,true,co Dx zl fun x=>.bool (fh x.1 x.2)⟩
def zgP:de prog ρ SL:=dA fun x I=>zgO ρ x I
theorem zgQ(a:Int)(s:qA):jZ prog 26 (.aE ((a::s).map fun n=>[AV.int .i64 n])) (some (.int .i64 1)) none=some (.aE (s.map fun n=>[AV.int .i64 n])):=by
 have C:(1:Int)=Int.ofNat 1:=rfl;simp only[jZ,underlying26,jI,jc];rw[ai ⟨aB,aG _⟩];rw[je aB];cases s with
 |nil=>rfl
 |cons b s=>rfl
theorem zgR(op:Int)(L:0<=(eK op).1):(eK op).1<=(ju op).length:=by
 unfold eK at L⊢;unfold ju;repeat' split
 all_goals (first|(simp;done)|omega|(simp_all;done))
def xJ(x:Nd×qA):qB:=[.agg x.1.cells,iz x.2]
def zgS(x y:Nd×qA)(h:xJ x=xJ y):x=y:=by
 simp only[xJ,eX,AV.agg.injEq,aV]at h;exact sK (xw h.1) (Me h.2)
def zm{l:qH}(L:∀m,dU l 42 m=Mf.sp m)(n:Int)(H:Hp):aR prog (aA pls l) 42 [.int .i64 n] H fun v H'=>v=pe n/\H'=H:=
 cQ (enc:=fun n:Int=>[.int .i64 n]) (ok:=fun _=>True) (out:=pe) SH (x:=n) (L _) trivial
def SM{l:qH}(L:∀m,dU l 199 m=Mh.sp m)(n:Int)(H:Hp):aR prog (aA pls l) 199 [.int .i64 n] H fun v H'=>v=iz (ju n)/\H'=H:=
 cQ (enc:=fun n:Int=>[.int .i64 n]) (ok:=fun _=>True) (out:=fun n=>iz (ju n)) SH (x:=n) (L _) trivial
def zgT{l:qH}(L:∀m,dU l 198 m=Mj.sp m)(n:Nat)(J:3<=n/\n<2^30)(H:Hp):aR prog (aA pls l) 198 [.int .i64 n] H fun v H'=>v=iz (nA n)/\H'=H:=
 cQ (enc:=wh) (ok:=fun n=>3<=n/\n<2^30) (out:=fun n=>iz (nA n)) Mg (x:=n) (L _) J
def Ml{l:qH}(L:∀m,dU l 197 m=Mi.sp m)(s w:qA)(h:AM (s,w))(H:Hp):aR prog (aA pls l) 197 [iz s,iz w] H fun v H'=>v=.bool (fy s w)/\H'=H:=
 cQ (enc:=zk) (ok:=AM) (out:=fun x=>.bool (fy x.1 x.2)) zgG (x:=(s,w)) (L _) h
theorem xK(a b:AV):Ab.extract (.bH [a,b]) 0=some a:=rfl
theorem xL(a b:AV):Ab.extract (.bH [a,b]) 1=some b:=rfl
theorem zgU(s:qA):dY 31 s=(decide ((3:Int)<=s.length)&&decide ((s.length:Int).tmod 2=1)&&decide (dy s.length<=16)&&fy s (nA s.length)):=by
 have m:(s.length:Int).tmod 2=((s.length%2:Nat):Int):=LV;have C:decide ((s.length:Int).tmod 2=1)=decide (s.length%2=1):=by rw[m];exact As.2 ac
 have V:decide ((3:Int)<=s.length)=decide (3<=s.length):=As.2 ac;rw[C,V];rfl
def HD(a:Int)(s:qA):dY 30 (a::s)=(!decide ((7:Int)<((s.length+1:Nat):Int))&&decide (a=2)&&s.all fun x=>decide (x=1)):=by
 have C:(!decide ((7:Int)<((s.length+1:Nat):Int)))=decide ((a::s).length<=7):=by
  rw[<-decide_not];exact As.2 Hl
 have V:decide (1<=(a::s).length)=true:=aB;rw[C];show(decide (1<=(a::s).length)&&decide ((a::s).length<=7)&&decide (a=2)&&s.all fun x=>decide (x=1))=_;rw[V,gW]
theorem zgV(a b c:Int):dY 22 [a,b,c]=if b=2 then (decide (a=1)&&decide (c=2))else fy [a,b,c] [1,1,1]:=by
 have e:dY 22 [a,b,c]=if (22:Int)=22/\b=2 then (decide (a=1)&&decide (c=2))else fy [a,b,c] [1,1,1]:=rfl
 rw[e];simp
def zgW{op:Int}(s:qA)(h:(eK op).2=false):dY op s=false:=by rw[dY,ai h]
def Mm{op:Int}(h:0<=(eK op).1)(m:(eK op).1≠s.length):dY op s=false:=by
 unfold dY;split
 .rfl
 .rw[ai ⟨h,m⟩]
def zgX{op:Int}(h:(eK op).2=true)(m:(eK op).1=s.length)(j:op≠31)(C:op≠30)(Z:op≠22):dY op s=fy s (ju op):=by
 unfold dY;rw[ah (by rw[h];simp),ah (fun k=>k.2 m),ah j,ah C,ah (fun k=>Z k.1)]
def SN(op:Int):(ju op).length<=3:=by
 unfold ju;repeat' split
 all_goals decide
def zgY{op:Int}(j:op≠31)(C:op≠30):0<=(eK op).1:=by
 unfold eK;repeat' split
 all_goals (first|decide|omega)
theorem zgZ(x:Nd×qA)(hx:x.2.length<2^30):bA prog ρ 167 (xJ x) (.bool (dY x.1.op x.2)):=fF fit (pls:=pls) (SJ ρ) (.cons (.agg (Dh _)) (.cons (Dg _) .nil)) (.bool _) (by
 obtain⟨⟨op,imm,kids⟩,s⟩:=x;have hw:zd0 (aA pls Mk) 167:=gY (fun _=>rfl) rfl;rw[xJ];simp only[Nd.cells]at hx⊢;have hq:(2:Int)≠0:=aF;by_cases C:op=31
 .subst C;have hv:pe 31=.bH [.int .i64 (-1),.bool true]:=rfl;have Z:AM (s,nA s.length):=⟨by simp[nA],by simp[nA];omega⟩;refine qe hw func167 pR ?_;dsimp only[pR,qd,a1,Nat.reduceAdd];have O:=@xK;have V:=@xL;repeat' (first
   |(apply ay ?_;clear hK K)|apply aT ?_|(apply eA ?_;first|refine Rx.k (zm (fun _=>rfl) _ _) ?_|refine Rx.k (AL (fun _=>rfl) _ ac _) ?_|refine Rx.k (zgT (fun _=>rfl) _ ac _) ?_|refine Rx.k (Ml (fun _=>rfl) _ _ Z _) ?_)|(apply cR ?_ ?_<;>(intro hg hgp;try(cases hg;done)))|(apply a2 ?_ ?_<;>(intro hb hbp;try(cases hb;done)))|(apply az fun K hK=>?_)|fail)
  all_goals
   refine⟨aE,_,rS,?_⟩;try simp only[aD]
   rw[zgU];(try simp only[fA]at *);simp only[ *,nR,lA,pP,gW,fV,]
 by_cases J:op=30
 .subst J;have hv:pe 30=.bH [.int .i64 (-1),.bool true]:=rfl;cases s with
  |nil=>
   refine qe hw func167 pR ?_;dsimp only[pR,qd,a1,Nat.reduceAdd];have O:=@xK;have V:=@xL;repeat' (first
    |(apply ay ?_;clear hK K)|apply aT ?_|(apply eA ?_;first|refine Rx.k (zm (fun _=>rfl) _ _) ?_)|(apply cR ?_ ?_<;>(intro hg hgp;try(cases hg;done)))|(apply a2 ?_ ?_<;>(intro hb hbp;try(cases hb;done)))|(apply az fun K hK=>?_)|fail)
   all_goals refine qi ?_
   rfl
  |cons a s=>
   have hsl:=zgQ a s;simp only[fc]at hx;refine qe hw func167 pR ?_;dsimp only[pR,qd,a1,Nat.reduceAdd];have O:=@xK;have V:=@xL;repeat' (first
    |(apply ay ?_;clear hK K)|apply aT ?_|(apply eA ?_;first|refine Rx.k (zm (fun _=>rfl) _ _) ?_)|(apply cR ?_ ?_<;>(intro hg hgp;try(cases hg;done)))|(apply a2 ?_ ?_<;>(intro hb hbp;try(cases hb;done)))|(apply az fun K hK=>?_)|fail)
   .all_goals refine qi ?_
    rw[HD];(try simp only[ul]at *);simp only[ *,lA,pP,mJ,]
   .refine cP [1,2,72,73] [] 74 s.length (fun i E H=>(s.all fun x=>decide (x=1))=(s.drop i).all fun x=>decide (x=1)) eE aB ?_;rintro i E H2 hi hcE hrH hnH hsI hJ;(try simp only[bz,a7,aV,aK,bb,Nat.reduceBEq, *]at hcE);(try simp only[a7,bb, *]at hrH);(try simp only[aS,cL,bR]at hnH);repeat' (first
     |(apply ay ?_;clear hK K)|apply a9 ?_|(apply bU ?_ ?_<;>(intro hb hbp;try(cases hb;done)))|(apply az fun K hK=>?_)|fail)
    .have Y:i<s.length:=by simpa using hb
     have hgx:s[i]?=some s[i]:=aX Y;have I:((s.drop i).all fun x=>decide (x=1))=(decide (s[i]=1)&&(s.drop (i+1)).all fun x=>decide (x=1)):=by rw[i4 Y,oX]
     refine ET (fun hb hbp=>?_) (fun hb hbp=>?_)
     .all_goals refine qi ?_
      rw[HD,hJ,I];(try simp only[fA]at *);simp only[ *,lA,pP,fV,mJ,]
     .refine⟨ac,aW,aW,b8,Dj,?_⟩;rw[hJ,I];(try simp only[kY]at *);simp only[*,gW,]
    .refine vx ?_;all_goals refine qi ?_
     rw[show i=s.length by simp at hb;omega,kL]at hJ;have hJ2:(s.all fun x=>decide (x=1))=true:=hJ;rw[HD,hJ2];(try simp only[kY]at *);simp only[*,lA,fV,mJ,]
   .all_goals refine qi ?_
    rw[HD];(try simp only[fA]at *);simp only[*,nR,nh,uz,]
 have m:=zgY C J;cases z:(eK op).2 with
 |false=>
  have hv:pe op=.bH [.int .i64 (eK op).1,.bool false]:=by rw[pe,z]
  refine qe hw func167 pR ?_;dsimp only[pR,qd,a1,Nat.reduceAdd];have O:=@xK;have V:=@xL;repeat' (first
   |(apply ay ?_;clear hK K)|apply aT ?_|(apply eA ?_;first|refine Rx.k (zm (fun _=>rfl) _ _) ?_)|(apply cR ?_ ?_<;>(intro hg hgp;try(cases hg;done)))|(apply a2 ?_ ?_<;>(intro hb hbp;try(cases hb;done)))|(apply az fun K hK=>?_)|fail)
  all_goals
   refine⟨aE,_,rS,?_⟩;try simp only[aD]
   rw[zgW s z]
 |true=>
  by_cases L:(eK op).1=s.length
  .have hv:pe op=.bH [.int .i64 s.length,.bool true]:=by rw[pe,z,L]
   by_cases j:op=22
   .subst j;obtain⟨a,b,c,rfl⟩:=zbV (s:=s) (by have e:(eK 22).1=3:=rfl;rw[e]at L;omega);have Z:AM ([a,b,c],ju 22):=⟨aG _,by have:=SN 22;simp only[];omega⟩;refine qe hw func167 pR ?_;dsimp only[pR,qd,a1,Nat.reduceAdd];have O:=@xK;have V:=@xL;repeat' (first
     |(apply ay ?_;clear hK K)|apply aT ?_|(apply eA ?_;first|refine Rx.k (zm (fun _=>rfl) _ _) ?_|refine Rx.k (SM (fun _=>rfl) _ _) ?_|refine Rx.k (Ml (fun _=>rfl) _ _ Z _) ?_)|(apply cR ?_ ?_<;>(intro hg hgp;try(cases hg;done)))|(apply a2 ?_ ?_<;>(intro hb hbp;try(cases hb;done)))|(apply az fun K hK=>?_)|fail)
    all_goals
     refine⟨aE,_,rS,?_⟩;try simp only[aD]
     rw[zgV];first
     |(simp_all;done)
     |(rw[ah mX];rfl)
   .have Z:AM (s,ju op):=⟨by have:=zgR op m;simp only[];omega,by have:=SN op;simp only[];omega⟩;have hl0:(0:Int)<=s.length:=ac;refine qe hw func167 pR ?_;dsimp only[pR,qd,a1,Nat.reduceAdd];have O:=@xK;have V:=@xL;repeat' (first
     |(apply ay ?_;clear hK K)|apply aT ?_|(apply eA ?_;first|refine Rx.k (zm (fun _=>rfl) _ _) ?_|refine Rx.k (SM (fun _=>rfl) _ _) ?_|refine Rx.k (Ml (fun _=>rfl) _ _ Z _) ?_)|(apply cR ?_ ?_<;>(intro hg hgp;try(cases hg;done)))|(apply a2 ?_ ?_<;>(intro hb hbp;try(cases hb;done)))|(apply az fun K hK=>?_)|fail)
    all_goals
     refine⟨aE,_,rS,?_⟩;try simp only[aD]
     rw[zgX z L C J j]
  .have hv:pe op=.bH [.int .i64 (eK op).1,.bool true]:=by rw[pe,z]
   refine qe hw func167 pR ?_;dsimp only[pR,qd,a1,Nat.reduceAdd];have O:=@xK;have V:=@xL;repeat' (first
    |(apply ay ?_;clear hK K)|apply aT ?_|(apply eA ?_;first|refine Rx.k (zm (fun _=>rfl) _ _) ?_)|(apply cR ?_ ?_<;>(intro hg hgp;try(cases hg;done)))|(apply a2 ?_ ?_<;>(intro hb hbp;try(cases hb;done)))|(apply az fun K hK=>?_)|fail)
   all_goals
    refine⟨aE,_,rS,?_⟩;try simp only[aD]
    rw[Mm m L])
end
section
def tyV1.tyF:=ad @dm (ad @cG (ad @Q4 (ad @eG (ad @ey (ad @ik (ad @zdD (ad @RG (ad @RK (ad @zfG (ad @zfI (ad @AF (ad @zfH (ad @zfK (@zgr))))))))))))))
open tyV1
noncomputable def SO:=qd (M:=20) f169.eq_1
noncomputable def SP:=qd (M:=29) f128.eq_1
def SQ(O:zd0 cfg 169)(j:cfg.keep 169=false)(hv:n1 H v b lo)(hb:b.length<2^38)(n:Int):
 aR prog cfg 169 [v,.int .u64 n] H fun w H'=>n1 H' w (b++kZ n 8) lo/\H.next<=H'.next/\∀k,k<lo->H'.get k=H.get k:=by
 obtain⟨au,i0,V,_⟩:=id hv;have hone:AV.one v=true:=by rw[V];rfl
 clear V;refine qe O func169 SO ?_;dsimp only[SO,qd,a1,Nat.reduceAdd];refine mA ?_;refine cP [1] [] 5 8 (fun i E Y=>∃w,E.at 0=w/\n1 Y w (b++kZ n i) lo/\∀k,k<lo->Y.get k=H.get k) eE ⟨v,eE,by simpa [kZ]using hv,fun _ _=>rfl⟩ ?_;rintro i E Y hi L C m hsI ⟨w,k0,J,Z⟩;(try simp only[bz,a7,aV,aK,bb,Nat.reduceBEq, *]at L);(try simp only[a7, *]at C);(try simp only[aS,bK,cL,bR,Nat.reduceAdd]at m);by_cases hlt:i<8
 .have I:(i:Int)<8:=by omega
  have e1:IntKind.wrap .i64 (8*(i:Int))=((8*i:Nat):Int):=Hn;have e2:IntKind.wrap .u64 ((8*i:Nat):Int)=((8*i:Nat):Int):=(by decide:∀i:Fin 8,IntKind.wrap .u64 ((8*i.val:Nat):Int)=((8*i.val:Nat):Int)) ⟨i,hlt⟩;have e4:∀(D:BinOp->Sx->Sx->qK) (t:TypeId),dQ prog D .shr t (.int .u64 n) (.int .u64 ((8*i:Nat):Int))=some (.int .u64 (n.fdiv (2^ (8*i)))):=fun D t=>bin_shr ac rfl;repeat' (first
   |(apply ay ?_;clear hK K)|apply aT ?_|(apply a2 ?_ ?_<;>(intro hb hbp;try(cases hb;done)))|(apply az fun K hK=>?_)|fail)
  have hwb:Ma (Y.alloc (.cells [.int .u8 (o0 n i)] 0 true)) w (b++kZ n i) lo:=.inr (J.keep (dg _) fun k z=>by rw[aL,ah (by have:=(J.lt z).2;omega)]);have hlo2:lo<=Y.next:=by obtain⟨r,im,_,_,_,h1,h2⟩:=J;omega
  obtain⟨v5,H5,cI,s5,n5,f5,o5⟩:=zgq (r:=Y.next) (imm:=0) (o0 n i) hwb iF fw (by rw[fx,wc];omega);have n5':Y.next<=H5.next:=Hm
  have o5':∀k,k<lo->H5.get k=H.get k:=fun k z=>by rw[f5 k z,aL,ah ac,Z k z]
  clear n5 f5 o5;refine mG cS cS (by rw[j];exact cI) ?_;refine vx ?_;refine⟨ac,aW,aW,b8,(by simp only[aK,Nat.reduceBEq, *];exact il (n:=8) ac ac),?_⟩;exact⟨v5,eE,by rw[zgs,<-kI];exact s5,o5'⟩
 .have I:¬(i:Int)<8:=by omega
  refine JE (fun hb hbp=>?_);all_goals refine qi ?_
  have hie:i=8:=ac;rw[hie]at J;exact⟨J,ac,Z⟩
def xM(n:Nd):qA:=IntKind.wrap .u8 n.op::(kZ (IntKind.wrap .u64 n.aP) 8++n.ak.flatMap fun k=>kZ (IntKind.wrap .u64 k) 8)
def zg0(n:Nd):xM n=[IntKind.wrap .u8 n.op]++kZ (IntKind.wrap .u64 n.aP) 8++n.ak.flatMap fun k=>kZ (IntKind.wrap .u64 k) 8:=by
 rw[xM];simp
theorem SR:∀l:qA,yn (l.map (.int .u8))=some (wd l)
 |[]=>rfl
 |a::l=>by
  have:=SR l;simp only[eC,yn,this];rfl
def zg1(j:n1 H v l lo):mW prog H 73 9 v=some (.ay (wd l)):=by
 obtain⟨r,Z,rfl,hg,_⟩:=j;have I:gg H 1 (.sl r 0 l.length 1)=some (l.length,l.map (.int .u8)):=by
  have:=uC (H:=H) (r:=r) (o:=0) (n:=l.length) (z:=1) (s:=1) hg aB;rw[this,gm,je aB]
 simp only[mW,underlying73,underlying9,underlying5,I];rw[SR]
def Dy(n:Nd):qB:=[.agg n.cells]
def zg2(x y:Nd)(h:Dy x=Dy y):x=y:=by
 simp only[Dy,eX,AV.agg.injEq,aV]at h;exact xw h
theorem zg3(n:Nd)(hn:n.ak.length<2^30):bA prog ρ 128 [.agg n.cells] (.ay (wd (xM n))):=fF fit (pls:=pls) (l:=[]) trivial (.cons (.agg n.pure) .nil) (.ay _) (by
 have hw:=lH 128;refine qe hw func128 SP ?_;dsimp only[SP,qd,a1,Nat.reduceAdd];refine OS fun K hK=>?_;refine qj ?_;refine a8 ?_ (SQ (lH _) rfl (b:=[IntKind.wrap .u8 n.op]) (lo:=1) ⟨1,0,rfl,LW,eR _,aG _,by simp[aS]⟩ aB _);rintro w H1 ⟨L,dd,o1⟩;have g1:H1.get 0=some (.cells n.cells 0 true):=by rw[o1 0 ac];rfl
 have n1':1<=H1.next:=by simp only[aS]at dd;omega
 clear dd o1;dsimp only[a0];refine mA ?_;refine cP [1,2,16,17] [] 18 n.ak.length (fun j E H=>∃w,E.at 3=w/\n1 H w ([IntKind.wrap .u8 n.op]++kZ (IntKind.wrap .u64 n.aP) 8++(n.ak.take j).flatMap fun k=>kZ (IntKind.wrap .u64 k) 8) 1/\H.get 0=some (.cells n.cells 0 true)) eE ⟨w,eE,wV,g1⟩ ?_;rintro j E H2 hj Z Y V hsI ⟨w2,ee,J,g2⟩;(try simp only[bz,a7,aV,aK,bb,Nat.reduceBEq, *]at Z);(try simp only[a7, *]at Y);(try simp only[aS,bK,cL,bR,Nat.reduceAdd]at V);by_cases C:j<n.ak.length
 .have I:(j:Int)<n.ak.length:=by omega
  have z:n.ak[j]?=some n.ak[j]:=aX C;have m:n.ak.take (j+1)=n.ak.take j++[n.ak[j]]:=by rw[wX,z];rfl
  have hfl:((n.ak.take j).flatMap fun k=>kZ (IntKind.wrap .u64 k) 8).length<=8*j:=by
   rw[List.length_flatMap];simp only[wc];have:((n.ak.take j).map fun _=>8).sum=8*(n.ak.take j).length:=by
    generalize n.ak.take j=q;induction q with
    |nil=>rfl
    |cons a q ih=>simp[ih];omega
   rw[this,oE];omega
  generalize n.ak[j]=kd at *;repeat' (first
   |(apply ay ?_;clear hK K)|apply aT ?_|(apply a2 ?_ ?_<;>(intro hb hbp;try(cases hb;done)))|(apply az fun K hK=>?_)|fail)
  refine qj ?_;refine a8 ?_ (SQ (lH _) rfl J (by rw[fx,fx,wc,zg];omega) _);rintro w3 H3 ⟨O,n3,o3⟩;have g3:H3.get 0=some (.cells n.cells 0 true):=by rw[o3 0 ac];exact g2
  dsimp only[a0];refine vx ?_;refine⟨ac,aW,aW,b8,Dk,?_⟩;exact⟨w3,eE,by rw[m,List.flatMap_append,Do,List.flatMap_nil,bq,<-kI];exact O,g3⟩
 .have I:¬(j:Int)<n.ak.length:=by omega
  have hje:j=n.ak.length:=ac;subst hje;rw[List.take_length]at J;have hcv:=zg1 J;rw[<-zg0]at hcv;refine Zb ?_;all_goals (refine⟨aE,_,aO,?_⟩;try simp only[aD]))
end
def rU:Nat->AV->Bool
 |0,_=>false
 |n+1,v=>match v with
  | .sl _ _ _ _=>true
  | .agg O=>O.any (rU n)
  |_=>false
theorem HE{S:Nat->Prop}{H:Hp}{n m k:Nat}(ih:∀{v u:AV},dc S n H v u->rU m (cW k v)=false->cW k u=cW k v):∀{O J:qB},bN (dc S n H) O J->(O.map (cW k)).any (rU m)=false->J.map (cW k)=O.map (cW k)
 |[],[],_,_=>rfl
 |c::O,d::J,h,h2=>by
  simp only[eC,uA,jG]at h2;rw[eC,eC,ih h.1 h2.1,HE ih h.2 h2.2]
theorem Mn{S:Nat->Prop}{H:Hp}:∀(n m k:Nat) {v u:AV},n<=m->dc S n H v u->rU m (cW k v)=false->cW k u=cW k v
 |0,_,_,_,_,_,h,_=>h.elim
 |n+1,0,_,_,_,h,_,_=>by omega
 |n+1,m+1,k,v,u,hm,h,h2=>by
  cases v with
  |sl r o l z=>cases k<;>simp[cW,rU]at h2
  |agg O=>
   obtain⟨J,j,rfl⟩:=h;cases k with
   |zero=>
    have e:∀v,cW 0 v=v:=fun v=>by cases v<;>rfl
    have C:(O.map (cW 0)).any (rU m)=false:=by
     rw[show O.map (cW 0)=O by rw[show cW 0=id from funext e,List.map_id]];simpa [cW,rU]using h2
    have:=HE (k:=0) (fun Z Y=>Mn n m 0 ac Z Y) j C;rw[show cW 0=id from funext e,List.map_id,List.map_id]at this;rw[this]
   |succ k=>
    have C:(O.map (cW k)).any (rU m)=false:=by simpa [cW,rU]using h2
    show AV.agg (J.map (cW k))=AV.agg (O.map (cW k));rw[HE (fun Z Y=>Mn n m k ac Z Y) j C]
  |_=>obtain⟨_,rfl⟩:=h;rfl
def Mo{l:qH}{fn:FuncId}{J:Type}{ok:J->Prop}{enc:J->qB}{out:J->AV}(j:∀x y,enc x=enc y->x=y)(L:∀C,dU l fn C=co ok enc out (C.map (cW 60)))(hi:mc l fn=true)(z:∀y,(enc y).any (rU 90)=false){x:J}(I:ok x){S:Nat->Prop}{n:Nat}(hn:n<=90){args us:qB}(V:bN (dc S n H) args us)(O:us.map (cW 60)=enc x):
 aR prog (aA pls l) fn args H fun v H'=>v=out x/\Icy S H H':=by
 by_cases hd:∃y,ok y/\enc y=args.map (cW 60)
 .obtain⟨y,_,e⟩:=hd;have h3:us.map (cW 60)=args.map (cW 60):=HE (m:=90) (fun Z Y=>Mn n 90 60 hn Z Y) V (by rw[<-e];exact z y);refine a8 ?_ (aR.kn (r:=out x) (by show dU l fn args=_;rw[L,<-h3,O];exact LO j I));rintro v H' ⟨rfl,rfl⟩;exact⟨rfl,Hq _ _⟩
 .obtain⟨H',Z,Y⟩:=dc.iceL (n:=100) (l:=args) (m:=us) (bN.mono (fun a b k=>dc.up k ac) V);refine P6 (r:=out x) ?_ hi rfl Z ?_ ⟨rfl,Y⟩ fun _=>⟨rfl,Hq _ _⟩
  .show dU l fn args=none;rw[L];exact LQ fun y hy e=>hd ⟨y,hy,e⟩
  .show dU l fn us=_;rw[L,O];exact LO j I
def Mp{P:Program}{f N:Nat}{a:SC}{E:aw}{Q:AX->aw->Hp->Prop}(F:aw->Hp->Prop)(j:bX P cfg f N a E H fun x E' H'=>x=.normal/\F E' H')(m:∀E' H',F E' H'->Q .normal E' H'):bX P cfg f N a E H Q:=
 Ao (fun x E' H' h=>by obtain⟨rfl,h⟩:=h;exact m E' H' h) j
end Go.Proofs.YtbflaciihaijgaaGreat
