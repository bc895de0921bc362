/- Lemmas for the last file. -/
import Derived.Test.YtbflaciihaijgaaGreatREF
set_option linter.all false
set_option maxHeartbeats 32000000
namespace Go.Ab
set_option maxRecDepth 20000
open Go
variable{qb:Prop}
def pX(h:qb:=by rw[List.drop_eq_getElem_cons Z];rfl):=h
def JL(h:qb:=by simp only[bL,bK,and_true,aK,aW,Nat.reduceBEq,Nat.reduceAdd,Nat.reduceLeDiff,tyF,mV, *]):=h
def lL(h:qb:=by rw[U];omega):=h
def vc(h:qb:=by simp[I]):=h
def wB(h:qb:=by rw[aP,if_pos rfl];rfl):=h
def kC(h:qb:=by simp only[tc];omega):=h
def BB(h:qb:=by rw[Nat.ble_eq];omega):=h
def EW(h:qb:=by simp only[mW,Bool.or_eq_false_iff,decide_eq_false_iff_not];omega):=h
def BC(h:qb:=by rw[e];exact Y):=h
def EX(h:qb:=by rw[<- h.len];exact F):=h
def JM(h:qb:=by exact(List.getElem?_eq_some_iff.1 Z).1):=h
def EY(h:qb:=by have:=h.a8 e;omega):=h
def BD(h:qb:=by simp only[AV.sl.injEq]at e;omega):=h
def EZ(h:qb:=by rw[List.drop_eq_getElem_cons z];rfl):=h
def r3(h:qb:=by simp at z;omega):=h
def E5(h:qb:=by rw[List.drop_eq_getElem_cons Z,List.any_cons]):=h
def E6(h:qb:=by simp only[aK,Nat.reduceBEq, *];exact jV (n:=s.length) aa aa):=h
def o0(h:qb:=by simp only[aK,Nat.reduceBEq, *];exact jV (n:=p.funcs.length) aa aa):=h
def jZ(h:qb:=by rw[Hp.get_set,if_neg aa]):=h
def BE(h:qb:=by rw[IntWalk.i64_in _ aa];omega):=h
def E7(h:qb:=by simp only[aK,Nat.reduceBEq, *];exact jV (n:=x.ak.length) aa aa):=h
def tw(h:qb:=by simp only[aK,Nat.reduceBEq, *];exact jV (n:=x.length) aa aa):=h
def vd(h:qb:=by simp only[aK,Nat.reduceBEq, *];exact jV (n:=p.af.length) aa aa):=h
def E8(h:qb:=by simp only[aK,Nat.reduceBEq, *];exact jV (n:=x.args.length) aa aa):=h
def r4:=@List.all_cons
def pY:=@List.all_nil
def wC:=@Bool.and_eq_false_iff
def oc:=@List.any_cons
def wD:=@List.any_nil
def tx:=@List.length_pos_iff
def wE:=@List.map_nil
def mc:=@Bool.false_and
def BF:=@List.set_cons_succ
def E9:=@List.set_eq_take_append_cons_drop
def iY:=@List.getD_eq_getElem?_getD
def gy:=@List.drop_length
def pc:=@Prod.ext
def tz:=@Bool.not_eq_false'
def Fa:=@Bool.or_true
def Fb:=@Bool.and_false
def wF:=@Bool.not_or
def mU:=@decide_eq_true
def r7:=@Bool.not_eq_true
def pZ:=@of_decide_eq_true
def JN:=And.intro @Fb @iV
def JO:=And.intro @oM @jC
def VT:=And.intro @mc JN
def JP:=And.intro VT @jl
def cq:=And.intro @th @tz
def VU:=And.intro JO @nP
def VV:=And.intro VU @nW
def VW:=And.intro VV @wd
def VX:=And.intro VW @Fa
def VY:=And.intro VX JP
def VZ:=And.intro VY @pL
def cr:=And.intro VZ @l4
def iw:=And.intro @bb @oT
end Go.Ab
namespace Go.Proofs.YtbflaciihaijgaaGreat
set_option maxRecDepth 20000
open Go Go.Ab Proofs.Tryz
variable(ρ:Nat->Int)
variable{l m:qo}{f:FuncId}{H H':Hp}{v:AV}{lo k r:Nat}
section
def tyR3a.tyF:=ac @cI (ac @cY (ac @fg (ac @fh (ac @eL (ac @dW (ac @dR (ac @dy (ac @ge (ac @oX (ac @dF (@dX)))))))))))
open tyR3a
def eZ(f:FuncId):zc7 (aF pls []) f:=⟨fun _=>rfl,rfl,rfl⟩
def dZ{l:qu}(h1:∀j,dD l f j=none)(h2:ir l f=false):zc7 (aF pls l) f:=⟨h1,h2,rfl⟩
structure zds (cfg:Cfg) (f:FuncId) (args:qm):Prop where
 call:cfg.call f args=none
 ao:cfg.ao f=false
 am:cfg.am f=false
def sa{A:Type}{sz:A->Nat}{ok:A->Prop}{enc:A->qm}{out:A->AV}(m:∀x y,enc x=enc y->x=y){l:qu}(x:A):
 zds (aF pls (⟨f,false,bS (fun y=>ok y/\sz y<sz x) enc out⟩::l)) f (enc x):=by
 have Z:Nat.beq f f=true:=Nat.beq_refl f;refine⟨?_,?_,rfl⟩
 .show dD _ f (enc x)=none;simp only[dD,Z];exact ET fun y hy e=>by rw[m _ _ e]at hy;exact Nat.lt_irrefl _ hy.2
 .show ir _ f=false;simp only[ir,Z]
noncomputable def JQ:{c:SC // aG 21 (f100.body.getD .skip)=c}:=by
 refine⟨?_,?_⟩;rotate_left
 .simp only[f100,bE,aG,bz,bq,bF,bB,Nat.blt,Nat.ble];rfl
noncomputable def JR:{c:SC // aG 9 (f101.body.getD .skip)=c}:=by
 refine⟨?_,?_⟩;rotate_left
 .simp only[f101,bE,aG,bz,bq,bF,bB,Nat.blt,Nat.ble];rfl
noncomputable def JS:{c:SC // aG 34 (f79.body.getD .skip)=c}:=by
 refine⟨?_,?_⟩;rotate_left
 .simp only[f79,bE,aG,bz,bq,bF,bB,Nat.blt,Nat.ble];rfl
noncomputable def JT:{c:SC // aG 18 (f80.body.getD .skip)=c}:=by
 refine⟨?_,?_⟩;rotate_left
 .simp only[f80,bE,aG,bz,bq,bF,bB,Nat.blt,Nat.ble];rfl
noncomputable def JU:{c:SC // aG 10 (f40.body.getD .skip)=c}:=by
 refine⟨?_,?_⟩;rotate_left
 .simp only[f40,bE,aG,bz,bq,bF,bB,Nat.blt,Nat.ble];rfl
noncomputable def JV:{c:SC // aG 18 (f148.body.getD .skip)=c}:=by
 refine⟨?_,?_⟩;rotate_left
 .simp only[f148,bE,aG,bz,bq,bF,bB,Nat.blt,Nat.ble];rfl
noncomputable def JW:{c:SC // aG 9 (f187.body.getD .skip)=c}:=by
 refine⟨?_,?_⟩;rotate_left
 .simp only[f187,bE,aG,bz,bq,bF,bB,Nat.blt,Nat.ble];rfl
noncomputable def JX:{c:SC // aG 27 (f207.body.getD .skip)=c}:=by
 refine⟨?_,?_⟩;rotate_left
 .simp only[f207,bE,aG,bz,bq,bF,bB,Nat.blt,Nat.ble];rfl
noncomputable def JY:{c:SC // aG 22 (f55.body.getD .skip)=c}:=by
 refine⟨?_,?_⟩;rotate_left
 .simp only[f55,bE,aG,bz,bq,bF,bB,Nat.blt,Nat.ble];rfl
theorem V0(n:Int):bJ prog ρ 100 [.int .u8 n] (.bool (n1 n)):=eG fit (pls:=pls) (l:=[]) trivial (.cons (.int _ _) .nil) (.bool _) (by
 have J:=eZ 100;refine a5 (M:=21) (rs:=[.tmp 2]) (J.call _) J.ao J.am func100 rfl rfl JQ.2 rfl ?_;dsimp only[JQ,a3,Nat.reduceAdd];repeat' (first
  |(apply ai ?_;clear hK K)|apply Rx.o ?_|apply cW ?_|(apply aX (fun C Y=>?_) (fun C Y=>?_)<;>try(cases C;done))|apply ae ?_|(apply ah fun K hK=>?_)|apply am ?_)
 all_goals refine qq ?_
 all_goals (simp_all[n1]<;>omega))
theorem V3(n:Int):bJ prog ρ 101 [.int .u8 n] (.bool (mb n)):=eG fit (pls:=pls) (l:=[]) trivial (.cons (.int _ _) .nil) (.bool _) (by
 have J:=eZ 101;refine a5 (M:=9) (rs:=[.tmp 2]) (J.call _) J.ao J.am func101 rfl rfl JR.2 rfl ?_;dsimp only[JR,a3,Nat.reduceAdd];repeat' (first
  |(apply ai ?_;clear hK K)|apply Rx.o ?_|(apply aX (fun C Y=>?_) (fun C Y=>?_)<;>try(cases C;done))|apply ae ?_|(apply ah fun K hK=>?_)|apply am ?_)
 all_goals refine qq ?_
 all_goals (simp_all[mb]<;>omega))
def ve(n:Int):qm:=[.int .u8 n]
def JZ(x y:Int)(h:ve x=ve y):x=y:=by simpa [ve]using h
noncomputable def yN:En:=⟨100,false,bS (fun _=>True) ve fun n=>.bool (n1 n)⟩
noncomputable def yO:En:=⟨101,false,bS (fun _=>True) ve fun n=>.bool (mb n)⟩
def V4:cS prog ρ yN:=cZ fun n _=>V0 ρ n
def V5:cS prog ρ yO:=cZ fun n _=>V3 ρ n
theorem V6(s:qr)(hs:s.length<2^60):bJ prog ρ 79 [.ae s] (.bool (kB s)):=eG fit (pls:=pls) (l:=[yN,yO]) ⟨V4 ρ,V5 ρ,trivial⟩ (.cons (.ae _) .nil) (.bool _) (by
 have o:zc7 (aF pls [yN,yO]) 79:=dZ (fun _=>rfl) rfl;have kl:∀(n:Int) (H:Hp),aU prog (aF pls [yN,yO]) 100 [.int .u8 n] H fun v H'=>v=.bool (n1 n)/\H'=H:=fun n H=>cp (enc:=ve) (out:=fun n=>.bool (n1 n)) JZ (x:=n) rfl trivial;have kd:∀(n:Int) (H:Hp),aU prog (aF pls [yN,yO]) 101 [.int .u8 n] H fun v H'=>v=.bool (mb n)/\H'=H:=fun n H=>cp (enc:=ve) (out:=fun n=>.bool (mb n)) JZ (x:=n) rfl trivial;refine a5 (M:=34) (rs:=[.tmp 2]) (o.call _) o.ao o.am func79 rfl rfl JS.2 rfl ?_;dsimp only[JS,a3,Nat.reduceAdd];repeat' (first
  |(apply ai ?_;clear hK K)|apply Rx.o ?_|apply cW ?_|(apply aX (fun C Y=>?_) (fun C Y=>?_)<;>try(cases C;done))|(apply aE (fun z V=>?_) (fun z V=>?_)<;>try(cases z;done))|apply ae ?_|(apply ah fun K hK=>?_)|apply aj ?_|apply ak ?_|apply am ?_|apply ax ?_)
 refine dG [0] [] 3 s.length (fun i E H=>fk s=i+fk (s.drop i)/\(0<i->∀b,s[0]?=some b->mb b.toNat=false)) eE aI ?_;rintro i E H2 hi O I A hsI ⟨J,U⟩;(try simp only[bL,bK,bb,aK,aW,Nat.reduceBEq,Nat.reduceAdd,Nat.reduceLeDiff,tyF, *]at O);(try simp only[bL,bK,bb,aK,aW,Nat.reduceBEq,Nat.reduceAdd,Nat.reduceLeDiff,tyF, *]at I);(try simp only[br,bG,cR,bR,Nat.reduceAdd]at A);repeat' (first
  |(apply ai ?_;clear hK K)|apply Rx.o ?_|apply cW ?_|(apply aX (fun C Y=>?_) (fun C Y=>?_)<;>try(cases C;done))|(apply aE (fun z V=>?_) (fun z V=>?_)<;>try(cases z;done))|apply ae ?_|(apply ah fun K hK=>?_)|apply aj ?_|apply ak ?_|apply am ?_|apply ax ?_)
 .have S:i<s.length:=by simpa using z
  have hgx:s[i]?=some s[i]:=bt S;have j:fk (s.drop i)=if jY s[i]then fk (s.drop (i+1))+1 else 0:=by rw[fR S,fk]
  repeat' (first
   |(apply ai ?_;clear hK K)|apply Rx.o ?_|(apply dJ ?_;first|refine aY (kl _ _) ?_|refine aY (kd _ _) ?_)|apply cW ?_|(apply aX (fun C Y=>?_) (fun C Y=>?_)<;>try(cases C;done))|(apply aE (fun z V=>?_) (fun z V=>?_)<;>try(cases z;done))|apply ae ?_|(apply ah fun K hK=>?_)|apply aj ?_|apply ak ?_|apply am ?_|apply ax ?_)
  .all_goals refine qq ?_
   have F:i=0:=aa;subst F;unfold kB;cases s<;>simp_all
  .refine⟨aa,bM,bM,dr,E6,?_⟩;have m:jY s[i]=true:=by simp_all[jY]
   refine⟨by rw[J,j,m];simp;omega,fun _ b Z=>U aa b Z⟩
  .all_goals refine qq ?_
   have m:jY s[i]=false:=by simp_all[jY]
   rw[m]at j;simp at j;unfold kB;simp[show ¬fk s=s.length by omega]
  .refine⟨aa,bM,bM,dr,E6,?_⟩;have m:jY s[i]=true:=by simp_all[jY]
   refine⟨by rw[J,j,m];simp;omega,fun _ b Z=>?_⟩;by_cases h0:0<i
   .exact U h0 b Z
   .have F:i=0:=by omega
    subst F;rw[hgx]at Z;have:s[0]=b:=rL;subst this;have hle:n1 s[0].toNat=true:=by simp_all
    simp only[n1,mb]at *;simp only[ky,jj]at hle;simp only[wC,iX];omega
 all_goals
  have hie:i=s.length:=aa;all_goals refine qq ?_
  rw[hie]at J;simp[fk]at J;unfold kB;cases s<;>simp_all<;>omega)
def bC(l:qo)(s:qr):Bool:=l.any fun x=>decide (x=s)
theorem J0(l:qo)(s:qr)(C:l.length<2^60):bJ prog ρ 148 [cD l,.ae s] (.bool (bC l s)):=eG fit (pls:=pls) (l:=[]) trivial (.cons (tq _) (.cons (.ae _) .nil)) (.bool _) (by
 have O:=eZ 148;refine a5 (M:=18) (rs:=[.tmp 4]) (O.call _) O.ao O.am func148 rfl rfl JV.2 rfl ?_;dsimp only[JV,a3,Nat.reduceAdd];repeat' (first
  |(apply ai ?_;clear hK K)|apply Rx.o ?_|(apply aE (fun z V=>?_) (fun z V=>?_)<;>try(cases z;done))|apply ae ?_|(apply ah fun K hK=>?_)|apply aj ?_|apply ak ?_|apply am ?_|apply ax ?_)
 refine dG [0,1] [] 5 l.length (fun i E H=>bC l s=bC (l.drop i) s) eE aI ?_;rintro i E A o Y U S I J;(try simp only[bL,bK,bb,aK,aW,Nat.reduceBEq,Nat.reduceAdd,Nat.reduceLeDiff,tyF, *]at Y);(try simp only[bL,bK,bb,aK,aW,Nat.reduceBEq,Nat.reduceAdd,Nat.reduceLeDiff,tyF, *]at U);(try simp only[br,bG,cR,bR,Nat.reduceAdd]at S);repeat' (first
  |(apply ai ?_;clear hK K)|apply Rx.o ?_|(apply aE (fun z V=>?_) (fun z V=>?_)<;>try(cases z;done))|apply ae ?_|(apply ah fun K hK=>?_)|apply aj ?_|apply ak ?_|apply am ?_|apply ax ?_)
 .have Z:i<l.length:=by simpa using z
  have F:l[i]?=some l[i]:=bt Z;have j:bC (l.drop i) s=(decide (l[i]=s)||bC (l.drop (i+1)) s):=pX;repeat' (first
   |(apply ai ?_;clear hK K)|apply Rx.o ?_|(apply aE (fun z V=>?_) (fun z V=>?_)<;>try(cases z;done))|apply ae ?_|(apply ah fun K hK=>?_)|apply aj ?_|apply ak ?_|apply am ?_|apply ax ?_)
  .all_goals refine qq ?_
   rw[J,j];simp_all
  .refine⟨aa,bM,bM,dr,(by simp only[aK,Nat.reduceBEq, *];exact jV (n:=l.length) aa aa),?_⟩;rw[J,j];simp_all
 .all_goals refine qq ?_
  rw[J,show i=l.length by simp at z;omega];simp[bC])
def p9(op:Int):Bool:=decide (4<=op)&&decide (op<=18)
theorem V7(op:Int):bJ prog ρ 187 [.int .i64 op] (.bool (p9 op)):=eG fit (pls:=pls) (l:=[]) trivial (.cons (.int _ _) .nil) (.bool _) (by
 have J:=eZ 187;refine a5 (M:=9) (rs:=[.tmp 2]) (J.call _) J.ao J.am func187 rfl rfl JW.2 rfl ?_;dsimp only[JW,a3,Nat.reduceAdd];repeat' (first
  |(apply ai ?_;clear hK K)|apply Rx.o ?_|(apply aX (fun C Y=>?_) (fun C Y=>?_)<;>try(cases C;done))|apply ae ?_|(apply ah fun K hK=>?_)|apply am ?_)
 all_goals refine qq ?_
 all_goals (simp_all[p9]<;>omega))
def zeroE(x:Ex):Bool:=decide (x.ag=0)&&decide (x.n=0)&&decide (x.name=[])&&decide (x.op=0)&&decide (x.ak.length=0)
theorem V8(x:Ex):bJ prog ρ 207 [.agg x.cells] (.bool (zeroE x)):=eG fit (pls:=pls) (l:=[]) trivial (.cons (.agg x.pure) .nil) (.bool _) (by
 have J:=eZ 207;refine a5 (M:=27) (rs:=[.tmp 2]) (J.call _) J.ao J.am func207 rfl rfl JX.2 rfl ?_;dsimp only[JX,a3,Nat.reduceAdd];repeat' (first
  |(apply ai ?_;clear hK K)|apply Rx.o ?_|(apply aX (fun C Y=>?_) (fun C Y=>?_)<;>try(cases C;done))|apply ae ?_|(apply ah fun K hK=>?_)|apply am ?_)
 all_goals
  all_goals refine qq ?_
 all_goals simp_all[zeroE])
def cm:qG->qr->Int->Int
 |[],_,_=>-1
 |f::l,s,i=>if f.name=s then i else cm l s (i+1)
theorem V9(p:Pr)(s:qr)(m:p.funcs.length<2^60):bJ prog ρ 55 [.agg p.cells,.ae s] (.int .i64 (cm p.funcs s 0)):=eG fit (pls:=pls) (l:=[]) trivial (.cons (.agg p.pure) (.cons (.ae _) .nil)) (.int _ _) (by
 have O:=eZ 55;refine a5 (M:=22) (rs:=[.tmp 4]) (O.call _) O.ao O.am func55 rfl rfl JY.2 rfl ?_;dsimp only[JY,a3,Nat.reduceAdd];repeat' (first
  |(apply ai ?_;clear hK K)|apply Rx.o ?_|(apply aE (fun z V=>?_) (fun z V=>?_)<;>try(cases z;done))|apply ae ?_|(apply ah fun K hK=>?_)|apply aj ?_|apply ak ?_|apply am ?_|apply ax ?_)
 refine dG [1,2] [0] 5 p.funcs.length (fun i E H=>cm p.funcs s 0=cm (p.funcs.drop i) s i) eE aI ?_;rintro i E I hi Y U S F J;(try simp only[bL,bK,bb,aK,aW,Nat.reduceBEq,Nat.reduceAdd,Nat.reduceLeDiff,tyF, *]at Y);(try simp only[bL,bK,bb,aK,aW,Nat.reduceBEq,Nat.reduceAdd,Nat.reduceLeDiff,tyF, *]at U);(try simp only[br,bG,cR,bR,Nat.reduceAdd]at S);have A:(0 == I.next)=false:=ay aa;have C:(I.next == 0)=false:=ay aa;repeat' (first
  |(apply ai ?_;clear hK K)|apply Rx.o ?_|(apply aE (fun z V=>?_) (fun z V=>?_)<;>try(cases z;done))|apply ae ?_|(apply ah fun K hK=>?_)|apply aj ?_|apply ak ?_|apply am ?_|apply ax ?_)
 .have Z:i<p.funcs.length:=by simpa using z
  have o:p.funcs[i]?=some p.funcs[i]:=bt Z;have j:cm (p.funcs.drop i) s i=if p.funcs[i].name=s then (i:Int)else cm (p.funcs.drop (i+1)) s (i+1):=pX
  repeat' (first
   |(apply ai ?_;clear hK K)|apply Rx.o ?_|(apply aE (fun z V=>?_) (fun z V=>?_)<;>try(cases z;done))|apply ae ?_|(apply ah fun K hK=>?_)|apply aj ?_|apply ak ?_|apply am ?_|apply ax ?_)
  .all_goals refine qq ?_
   rw[J,j,au (by simp_all)]
  .refine⟨aa,bM,bM,dr,o0,?_⟩;rw[J,j,ad (by simp_all)];rfl
 .all_goals refine qq ?_
  rw[J,show i=p.funcs.length by simp at z;omega];simp[cm])
def mV:qo:=[[97,114,114,97,121],[102,117,110,99],[118,97,114],[114,101,116,117,114,110],[105,102],[101,108,115,101],[119,104,105,108,101],[111,117,116],[116,114,97,112]]
def J1(s:qr):bC mV s=tu s:=by
 simp only[bC,mV,tu,oc,wD,nW,<-Bool.or_assoc];simp only[eq_comm]
def Wa(H:Hp)(a b c d e f g h i:qr):dc prog H 66 9 [(0,.ae a),(1,.ae b),(2,.ae c),(3,.ae d),(4,.ae e),(5,.ae f),(6,.ae g),(7,.ae h),(8,.ae i)]=some (.sl H.next 0 9 1,H.alloc (.cells ([a,b,c,d,e,f,g,h,i].map .ae) 0 true)):=aA
theorem Wb(s:qr):bJ prog ρ 80 [.ae s] (.bool (tu s)):=eG fit (pls:=pls) (l:=[]) trivial (.cons (.ae _) .nil) (.bool _) (by
 have I:=eZ 80;refine a5 (M:=18) (rs:=[.tmp 2]) (I.call _) I.ao I.am func80 rfl rfl JT.2 rfl ?_;dsimp only[JT,a3,Nat.reduceAdd];have C:=@Wa;repeat' (first
  |(apply ai ?_;clear hK K)|apply Rx.o ?_|(apply aE (fun z V=>?_) (fun z V=>?_)<;>try(cases z;done))|apply ae ?_|(apply ah fun K hK=>?_)|apply aj ?_|apply ak ?_|apply am ?_|apply ax ?_)
 refine dG [0,3] [0] 4 9 (fun i E H=>bC mV s=bC (mV.drop i) s) eE aI ?_;rintro i E U hi S Y O F J;(try simp only[bL,bK,bb,aK,aW,Nat.reduceBEq,Nat.reduceAdd,Nat.reduceLeDiff,tyF, *]at S);(try simp only[bL,bK,bb,aK,aW,Nat.reduceBEq,Nat.reduceAdd,Nat.reduceLeDiff,tyF, *]at Y);(try simp only[br,bG,cR,bR,Nat.reduceAdd]at O);have A:(0 == U.next)=false:=ay aa;have o:(U.next == 0)=false:=ay aa;change U.get 0=some (.cells (mV.map .ae) 0 true)at Y;have m:mV.length=9:=rfl;repeat' (first
  |(apply ai ?_;clear hK K)|apply Rx.o ?_|(apply aE (fun z V=>?_) (fun z V=>?_)<;>try(cases z;done))|apply ae ?_|(apply ah fun K hK=>?_)|apply aj ?_|apply ak ?_|apply am ?_|apply ax ?_)
 .have Z:i<mV.length:=by omega
  have hgx:mV[i]?=some mV[i]:=bt Z;have j:bC (mV.drop i) s=(decide (mV[i]=s)||bC (mV.drop (i+1)) s):=pX;have hi9:decide (i<9)=true:=ce;repeat' (first
   |(apply ai ?_;clear hK K)|apply Ry.o ?_|(apply a2 (fun z V=>?_) (fun z V=>?_)<;>try(cases z;done))|apply ae ?_|(apply ah fun K hK=>?_)|apply aj ?_|apply ak ?_|apply am ?_|apply ax ?_)
  .all_goals refine qq ?_
   rw[<-J1,J,j];simp_all
  .refine⟨aa,JL,JL,dr,(by simp only[aK,Nat.reduceBEq, *];exact jV (n:=9) aa aa),?_⟩;rw[J,j];simp_all
 .all_goals refine qq ?_
  rw[<-J1,J,show i=9 by omega];rfl)
def md(s:qr):qm:=[.ae s]
def vh(x y:qr)(h:md x=md y):x=y:=by simpa [md]using h
noncomputable def yP:En:=⟨79,false,bS (fun s=>s.length<2^60) md fun s=>.bool (kB s)⟩
noncomputable def yQ:En:=⟨80,false,bS (fun _=>True) md fun s=>.bool (tu s)⟩
def Wc:cS prog ρ yP:=cZ fun s S=>V6 ρ s S
def Wd:cS prog ρ yQ:=cZ fun s _=>Wb ρ s
theorem We(s:qr)(S:s.length<2^60):bJ prog ρ 40 [.ae s] (.bool (cX s)):=eG fit (pls:=pls) (l:=[yP,yQ]) ⟨Wc ρ,Wd ρ,trivial⟩ (.cons (.ae _) .nil) (.bool _) (by
 have J:zc7 (aF pls [yP,yQ]) 40:=dZ (fun _=>rfl) rfl;have Z:∀(H:Hp),aU prog (aF pls [yP,yQ]) 79 [.ae s] H fun v H'=>v=.bool (kB s)/\H'=H:=fun H=>cp (enc:=md) (out:=fun n=>.bool (kB n)) vh (x:=s) rfl S;have V:∀(H:Hp),aU prog (aF pls [yP,yQ]) 80 [.ae s] H fun v H'=>v=.bool (tu s)/\H'=H:=fun H=>cp (enc:=md) (out:=fun n=>.bool (tu n)) vh (x:=s) rfl trivial;refine a5 (M:=10) (rs:=[.tmp 2]) (J.call _) J.ao J.am func40 rfl rfl JU.2 rfl ?_;dsimp only[JU,a3,Nat.reduceAdd];repeat' (first
  |(apply ai ?_;clear hK K)|apply Rx.o ?_|(apply dJ ?_;first|refine aY (Z _) ?_|refine aY (V _) ?_)|(apply aX (fun C Y=>?_) (fun C Y=>?_)<;>try(cases C;done))|apply ae ?_|(apply ah fun K hK=>?_)|apply am ?_)
 all_goals refine qq ?_
 all_goals (simp_all[cX]))
end
def dH(H:Hp)(v:AV)(l:qo)(lo:Nat):Prop:=∃r S,v=.sl r 0 l.length 1/\H.get r=some (.cells (l.map .ae) S true)/\S<=l.length/\lo<=r/\r<H.next
def em(H:Hp)(v:AV)(l:qo)(lo:Nat):Prop:=(v=.ab/\l=[])\/dH H v l lo
def dH.dn(h:dH H v l lo)(I:H.next<=H'.next)(C:∀k,lo<=k->k<H.next->H'.get k=H.get k):dH H' v l lo:=by
 obtain⟨r,S,j,m,A,O,J⟩:=h;exact⟨r,S,j,by rw[C r O J];exact m,A,O,aa⟩
def dk(v:AV)(k:Nat):Prop:=∃n,v=.sl k 0 n 1
def tA(v J:AV)(H H':Hp):Prop:=(∀k,k<H.next->¬dk v k->H'.get k=H.get k)/\∀k,dk J k->dk v k\/H.next<=k
def dH.lt(h:dH H v l lo)(o:dk v k):lo<=k/\k<H.next:=by
 obtain⟨r,S,rfl,_,_,O,J⟩:=h;obtain⟨n,e⟩:=o;simp only[AV.sl.injEq]at e;rw[<-e.1];exact⟨O,J⟩
def em.lt(h:em H v l lo)(o:dk v k):lo<=k/\k<H.next:=by
 rcases h with⟨rfl,_⟩|h
 .obtain⟨n,e⟩:=o;simp at e
 .exact h.lt o
def dH.aj(h:dH H v l lo)(I:H.next<=H'.next)(C:∀k,dk v k->H'.get k=H.get k):dH H' v l lo:=by
 obtain⟨r,S,rfl,m,A,O,J⟩:=h;exact⟨r,S,rfl,by rw[C r ⟨_,rfl⟩];exact m,A,O,aa⟩
def em.aj(h:em H v l lo)(I:H.next<=H'.next)(C:∀k,dk v k->H'.get k=H.get k):em H' v l lo:=h.imp id fun h=>h.aj I C
def J2(l:qo):(l.map AV.ae).all AV.one=true:=by simp[AV.one]
theorem BG(m:qo):(m.map fun s=>[AV.ae s]).flatten=m.map .ae:=by induction m with
 |nil=>rfl
 |cons a m ih=>simp[ih]
theorem Wf(H:Hp)(m:qo):fc H 1 (cD m)=some (m.length,m.map .ae):=by
 have e:fc H 1 (cD m)=if ((m.map fun s=>[AV.ae s]).all fun z=>z.length == 1)then some ((m.map fun s=>[AV.ae s]).length,(m.map fun s=>[AV.ae s]).flatten)else none:=rfl
 rw[e,au aI,BG,ec]
def Fc{imm:Nat}(h:H.get r=some (.cells (m.map .ae) imm true)):fc H 1 (.sl r 0 m.length 1)=some (m.length,m.map .ae):=by
 have:=pN (H:=H) (r:=r) (o:=0) (n:=m.length) (z:=1) (s:=1) h aI;rw[this,gV,iR aI]
theorem Fe{x:AV}(M:em H v l lo)(z:lo<=H.next)(O:fc H 1 x=some (m.length,m.map .ae))(F:m≠[])(Y:l.length+m.length<2^40):
 ∃J H',dh prog false H 66 66 v x=some (J,H')/\dH H' J (l++m) lo/\H'.next=H.next+1/\(∀k,k<lo->H'.get k=H.get k)/\tA v J H H':=by
 obtain⟨n,I⟩:∃n,m.length=n+1:=⟨m.length-1,by have:=tx.2 F;omega⟩;have U:dd=70368744177664:=rfl;rw[I]at O;rcases M with⟨rfl,rfl⟩|⟨r,S,rfl,V,A,j,h5⟩
 .refine⟨.sl H.next 0 (n+1) 1,H.alloc (.cells (m.map .ae) 0 true),append_nil underlying66 rY tk tl aA O (J2 m) rfl lL lL,⟨H.next,0,vc,wB,aa,z,dq _⟩,rfl,fun k o=>fX,fun k o _=>fX,fun k o=>.inr ?_⟩;obtain⟨C,e⟩:=o;simp only[AV.sl.injEq]at e;omega
 .have K:fV false H 1 (.sl r 0 l.length 1)=H:=by
   unfold fV;simp only[V,bR,ec,jS];have:Nat.blt l.length l.length=false:=by
    cases Y:Nat.blt l.length l.length with
    |false=>rfl
    |true=>rw[iH]at Y;omega
   simp[this]
  refine⟨.sl H.next 0 (l.length+(n+1)) 1,(H.az r).alloc (.cells (l.map .ae++m.map .ae) (S-0) true),?_,⟨H.next,S,vc,?_,ce,z,dq _⟩,rfl,fun k o=>?_,fun k o Z=>?_,fun k o=>.inr ?_⟩
  .simp only[dh,underlying66,rY,tk,tl,show ip prog 66=true by kernel_rfl,O,J2,K,nT,bw,nL,kL,V,ec,bR,jS,gV];rw[au ⟨lL,lL,trivial,trivial,A⟩];simp
  .show((H.az r).alloc _).get (H.az r).next=_
   rw[aP,au rfl];simp
  .rw[aP,ad kC,gm,ad aa]
  .rw[aP,ad kC,gm,ad (fun e=>Z ⟨_,mK⟩)]
  .obtain⟨C,e⟩:=o;simp only[AV.sl.injEq]at e;omega
def tB(m:qo)(U:dH H v l lo)(z:lo<=H.next)(Y:l.length+m.length<2^40):
 ∃J H',dh prog false H 66 66 v (cD m)=some (J,H')/\dH H' J (l++m) lo/\H.next<=H'.next/\(∀k,k<lo->H'.get k=H.get k)/\tA v J H H':=by
 by_cases M:m=[]
 .subst M;refine⟨v,H,?_,by rw[iS];exact U,aT _,fun _ _=>rfl,fun _ _ _=>rfl,fun _ h=>.inl h⟩;obtain⟨r,S,rfl,Z,_⟩:=U;simp only[dh,underlying66,rY,tk,tl,show ip prog 66=true by kernel_rfl,wE,fc,pY,bw,eg]
 .obtain⟨J,H',j,Z,A,O⟩:=Fe (.inr U) z (Wf H m) M Y;exact⟨J,H',j,Z,aa,O⟩
def wG{imm:Nat}(s:qr)(U:em H v l lo)(z:lo<=H.next)(S:H.get r=some (.cells [.ae s] imm true))(Z:l.length<2^39):
 ∃J H',dh prog false H 66 66 v (.sl r 0 1 1)=some (J,H')/\dH H' J (l++[s]) lo/\H'.next=H.next+1/\(∀k,k<lo->H'.get k=H.get k)/\tA v J H H':=
 Fe U z (Fc (m:=[s]) S) aI ce
def Wg{w:AV}{V:Nat}(U:dH H v l lo)(z:lo<=H.next)(S:em H w m V)(K:l.length+m.length<2^40):
 ∃J H',dh prog false H 66 66 v w=some (J,H')/\dH H' J (l++m) lo/\H.next<=H'.next/\(∀k,k<lo->H'.get k=H.get k)/\tA v J H H':=by
 by_cases Y:m=[]
 .subst Y;refine⟨v,H,?_,by rw[iS];exact U,aT _,fun _ _=>rfl,fun _ _ _=>rfl,fun _ h=>.inl h⟩;obtain⟨r,F,rfl,O,_⟩:=U;rcases S with⟨rfl,_⟩|⟨A,M,rfl,Z,_⟩
  .simp only[dh,underlying66,rY,tk,tl,show ip prog 66=true by kernel_rfl,fc]
  .have I:=Fc Z;simp only[eg]at I;simp only[dh,underlying66,rY,tk,tl,show ip prog 66=true by kernel_rfl,eg,I]
 .rcases S with⟨_,h⟩|⟨A,M,rfl,Z,_⟩
  .exact(Y h).elim
  .obtain⟨J,H',j,O,o,C⟩:=Fe (.inr U) z (Fc Z) Y K;exact⟨J,H',j,O,aa,C⟩
def dH.len(h:dH H v l lo):gj prog H' 66 v=some (.int .i64 l.length):=by
 obtain⟨r,S,rfl,_⟩:=h;exact wo underlying66 _ _ _ _
theorem dH.at(h:dH H v l lo){i:Nat}(F:i<l.length):
 ∃r,eS prog 66 v (.int .i64 (i:Int))=some (.ptr r i)/\jL prog H 9 (.ptr r i)=some (.ae l[i]):=by
 obtain⟨r,S,rfl,m,_⟩:=h;refine⟨r,?_,?_⟩
 .rw[IJ underlying66 rY F];simp
 .rw[IK underlying9 rfl m,ev,bt F];rfl
def dH.one{H:Hp}{v:AV}{l:qo}{lo:Nat}(h:dH H v l lo):AV.one v=true/\v.cells=[v]:=by
 obtain⟨r,S,rfl,_⟩:=h;exact⟨rfl,rfl⟩
theorem J3(l:qo):gk 1 l.length (l.map .ae)=l.map fun s=>[AV.ae s]:=by
 induction l with
 |nil=>rfl
 |cons a l ih=>simp[gk,ih]
theorem J4(n:Nat):∀(l:qo) (H:Hp),fW (eP (n+1)) (l.map .ae) H=some (l.map .ae,H)
 |[],H=>rfl
 |a::l,H=>by
  have:=J4 n l H;have e:eP (n+1) (.ae a) H=some (.ae a,H):=rfl;simp only[el,fW,e,this]
theorem dH.ao(h:dH H v l lo)(n:Nat):
 ∃H',eP (n+2) v H=some (cD l,H')/\dH H' v l lo/\H'.next=H.next/\(∀k,k<lo->H'.get k=H.get k)/\∀k,¬dk v k->H'.get k=H.get k:=by
 obtain⟨r,S,rfl,m,A,O,J⟩:=h;refine⟨H.set r (.cells (l.map .ae) (max S l.length) true),?_,⟨r,max S l.length,rfl,iG,aa,O,J⟩,rfl,fun k o=>jZ,fun k o=>by rw[aO,ad (fun e=>o ⟨_,mK⟩)]⟩;have e:eP (n+2) (.sl r 0 l.length 1) H=match H.get r with
  |some (.cells cs S I)=>match Nat.ble (0+l.length*1) cs.length&&Nat.ble S cs.length with
   |true=>match fW (eP (n+1)) ((cs.drop 0).take (l.length*1)) (H.set r (.cells cs (max S (0+l.length*1)) I))with
    |some (M,H)=>some (.ai (gk 1 l.length M),H)
    |none=>none
   |false=>none
  |_=>none:=rfl
 rw[e,m];simp only[ec,bR,jS,gV];have C:Nat.ble l.length l.length=true:=BB;have Z:Nat.ble S l.length=true:=BB;rw[C,Z];simp only[yp];rw[iR aI,J4];simp only[J3]
def bJ.args{P:Program}{ρ:Nat->Int}{j Z:qm}{r:AV}(h:bJ P ρ f j r)(U:∀(G:Gh) vs,bT G Z vs->bT G j vs):bJ P ρ f Z r:=
 ⟨h.1,fun G w vs Y m A=>h.2 G w vs Y m (U G vs A)⟩
def Wh{G:Gh}{a:qm}{vs:qw}(h:bT G (.ab::a) vs):bT G (cD []::a) vs:=by
 cases vs with
 |nil=>have:=h.1;simp at this
 |cons v vs=>
  obtain⟨o,Z⟩:=h.aR;cases o;exact gO (.cb _ _) Z
def sc(x:Option qo×qr):qm:=match x with
 |(none,s)=>[.ab,.ae s]
 |(some l,s)=>[cD l,.ae s]
def Fh(x y:Option qo×qr)(h:sc x=sc y):x=y:=by
 obtain⟨a,s⟩:=x;obtain⟨b,u⟩:=y;cases a<;>cases b<;>simp only[sc,ew,AV.ae.injEq,AV.ai.injEq,bb,reduceCtorEq,false_and,oT]at h
 .rw[h]
 .rw[u9 h.1,h.2]
noncomputable def rb:En:=⟨148,true,bS (fun x=>(x.1.getD []).length<2^60) sc fun x=>.bool (bC (x.1.getD []) x.2)⟩
def Fi:cS prog ρ rb:=cZ fun x hx=>by
 obtain⟨a,s⟩:=x;cases a with
 |none=>exact bJ.args (J0 ρ [] s aI) fun G vs h=>Wh h
 |some l=>exact J0 ρ l s hx
theorem Fj{l:qu}(K:∀I,dD l 148 I=rb.sp I)(F:ir l 148=true){r:qo}(U:em H v r lo)(hr:r.length<2^60)(s:qr):
 aU prog (aF pls l) 148 [v,.ae s] H fun w H'=>w=.bool (bC r s)/\em H' v r lo/\H'.next=H.next/\(∀k,k<lo->H'.get k=H.get k)/\∀k,¬dk v k->H'.get k=H.get k:=by
 rcases U with⟨rfl,rfl⟩|U
 .refine a4 ?_ (cp (enc:=sc) (out:=fun x=>.bool (bC (x.1.getD []) x.2)) Fh (x:=(none,s)) (K _) hr);rintro w _ ⟨rfl,rfl⟩;exact⟨rfl,.inl ⟨rfl,rfl⟩,rfl,fun _ _=>rfl,fun _ _=>rfl⟩
 .obtain⟨H',j,m,A,O⟩:=U.ao 98;have o:∀y,(y.1.getD []).length<2^60->sc y≠[v,.ae s]:=fun y _ e=>by
   obtain⟨q,S,rfl,_⟩:=U;obtain⟨a,u⟩:=y;cases a<;>simp[sc]at e
  refine a4 ?_ (Bu (enc:=sc) (out:=fun x=>.bool (bC (x.1.getD []) x.2)) Fh (x:=(some r,s)) K F hr o (H':=H') ?_)
  .rintro w _ ⟨rfl,rfl⟩;exact⟨rfl,.inr m,A,O⟩
  .show fW (eP 100) [v,.ae s] H=some ([cD r,.ae s],H');simp only[fW,j];rfl
end Go.Proofs.YtbflaciihaijgaaGreat
namespace Go.Ab
set_option maxRecDepth 20000
open Go
variable{P:Program}{D:BinOp->Sx->Sx->qy}{t e:TypeId}{k M:IntKind}{a b H H':Hp}{r A F:Nat}{v z S j:AV}{U:qF}{l:qp}{x:Int}
def mg(b:Int):Int:=IntKind.wrap .u64 (IntKind.wrap .i64 (BitVec.ofInt (IntKind.bits .i64) b &&& BitVec.ofInt (IntKind.bits .i64) 63).toNat)
def Fk(k:IntKind)(a b:Int):Int:=k.wrap (a*2^ min b.toNat k.bits)
def BH(k:IntKind)(a b:Int):Int:=a.fdiv (2^ min b.toNat k.bits)
def pd(a b:Int):Int:=if b=0 then 0 else if b=-1 then bA (0-a)else bA (a.tdiv b)
def sd(b:Bool):Int:=if b=true then 1 else 0
def BI(op a b:Int):Int:=
 if op=12 then Fk .i64 a (mg b)else if op=13 then IntKind.wrap .i64 (BH .u64 (IntKind.wrap .u64 a) (mg b))else if op=14 then BH .i64 a (mg b)
 else if op=15 then sd (decide (a=b))else if op=16 then sd (!decide (a=b))else if op=17 then sd (decide (a<b))else if op=18 then sd (decide (a<=b))
 else if op=19 then sd (decide (IntKind.wrap .u64 a<IntKind.wrap .u64 b))else 0
def kY(op a b:Int):Int:=
 if op=4 then bA (a+b)else if op=5 then bA (a-b)else if op=6 then bA (a*b)else if op=7 then pd a b else if op=8 then (if b=0 then 0 else bA (a-bA (pd a b*b)))
 else if op=9 then IntKind.wrap .i64 (BitVec.ofInt (IntKind.bits .i64) a &&& BitVec.ofInt (IntKind.bits .i64) b).toNat
 else if op=10 then IntKind.wrap .i64 (BitVec.ofInt (IntKind.bits .i64) a |||BitVec.ofInt (IntKind.bits .i64) b).toNat
 else if op=11 then IntKind.wrap .i64 (BitVec.ofInt (IntKind.bits .i64) a^^^ BitVec.ofInt (IntKind.bits .i64) b).toNat
 else BI op a b
def se(op a:Int):Int:=if op=20 then bA (0-a)else if op=21 then IntKind.wrap .i64 (BitVec.ofInt (IntKind.bits .i64) (-1)^^^ BitVec.ofInt (IntKind.bits .i64) a).toNat else 0
theorem J5{a:Int}:rJ .xor (.int .i64 a)=some (.int .i64 (IntKind.wrap .i64 (BitVec.ofInt (IntKind.bits .i64) (-1)^^^ BitVec.ofInt (IntKind.bits .i64) a).toNat)):=rfl
def Wi(n:Int):0<=IntKind.wrap .u64 n:=by
 unfold IntKind.wrap;simp only[IntKind.signed,mc,dg,bH];exact Int.emod_nonneg _ (by simp[IntKind.bits])
def J6(b:Int):0<=mg b:=Wi _
def J7{a b:Int}(z:0<=b):dP P D .shl t (.int k a) (.int M b)=some (.int k (Fk k a b)):=by
 obtain⟨m,rfl⟩:=wl z;simp only[dP,rI];show sR .shl k a (Int.ofNat m)=_;simp[sR,Fk]
def bin_shr{a b:Int}(z:0<=b):dP P D .shr t (.int k a) (.int M b)=some (.int k (BH k a b)):=by
 obtain⟨m,rfl⟩:=wl z;simp only[dP,rI];show sR .shr k a (Int.ofNat m)=_;simp[sR,BH]
abbrev aS:=qr
structure MS where
 aC:Int
 aK:Int
 aw:Int
 cells:List (aS×qp)
 out:qp
variable{s:MS}{vs:List (aS×Int)}
def de:List (aS×Int)->aS->Int
 |[],_=>0
 |p::l,nm=>if nm=p.1 then p.2 else de l nm
def setV:List (aS×Int)->aS->Int->List (aS×Int)
 |[],nm,x=>[(nm,x)]
 |p::l,nm,x=>if nm=p.1 then (nm,x)::l else p::setV l nm x
def dA:List (aS×qp)->aS->qp
 |[],_=>[]
 |p::l,nm=>if nm=p.1 then p.2 else dA l nm
def lM:List (aS×qp)->aS->Nat->Int->List (aS×qp)
 |[],_,_,_=>[]
 |p::l,nm,i,x=>if nm=p.1 then (p.1,p.2.set i x)::l else p::lM l nm i x
def iy(c:Int)(s:MS):MS:=if s.aK=0 then {s with aK:=2,aw:=c}else s
def ed(s:MS):MS:=if s.aK≠0 then s else if s.aC=0 then {s with aK:=3}else {s with aC:=bA (s.aC-1) }
def gh(v:Int)(s:MS):MS:=if s.aK=0 then {s with out:=s.out++[v] }else s
def mW(a:Int)(l:qp):Bool:=decide (a<0)||decide ((l.length:Int)<=a)
def od(nm:aS)(a v:Int)(s:MS):MS:=
 let A:=if mW a (dA s.cells nm)=true then iy 2 s else s
 if A.aK=0 then {A with cells:=lM A.cells nm a.toNat v}else A
def en:Nat->Ex->List (aS×Int)->MS->Option (Int×MS)
 |0,_,_,_=>none
 |n+1,x,vs,s=>
  if s.aK≠0 then some (0,s)
  else if x.ag=1 then some (x.n,s)
  else if x.ag=2 then some (de vs x.name,s)
  else if x.ag=3 then
   (x.ak[0]?).bind fun k=>(en n k vs s).bind fun r=>
     if mW r.1 (dA r.2.cells x.name)=true then some (0,iy 2 r.2)else some ((dA r.2.cells x.name).getD r.1.toNat 0,r.2)
  else if x.ag=5 then
   (x.ak[0]?).bind fun k=>(en n k vs s).bind fun r=>
     if r.1≠0 then (x.ak[1]?).bind fun k=>en n k vs r.2 else (x.ak[2]?).bind fun k=>en n k vs r.2
  else
   (x.ak[0]?).bind fun k=>(en n k vs s).bind fun r=>
     if x.ak.length=1 then some (se x.op r.1,r.2)
     else (x.ak[1]?).bind fun k=>(en n k vs r.2).bind fun a1=>
      if a1.1=0/\(x.op=7\/x.op=8)then some (0,iy 1 a1.2)else some (kY x.op r.1 a1.1,a1.2)
def kZ(n:Nat):qz->List (aS×Int)->MS->Option (qp×MS)
 |[],_,s=>some ([],s)
 |x::l,vs,s=>(en n x vs s).bind fun r=>(kZ n l vs r.2).bind fun a1=>some (r.1::a1.1,a1.2)
def mh:List aS->qp->List (aS×Int)->Option (List (aS×Int))
 |[],_,vs=>some vs
 |_::_,[],_=>none
 |nm::l,a::asx,vs=>mh l asx (setV vs nm a)
section
variable (p:Pr) (fi:List (aS × Int))
mutual
def lN:Nat->St->List (aS×Int)->MS->Option (List (aS×Int)×MS)
 |0,_,_,_=>none
 |n+1,x,vs,s=>
  if x.ag=1 then (en n x.value vs s).bind fun r=>some (setV vs x.name r.1,r.2)
  else if x.ag=2 then (en n x.aL vs s).bind fun r=>(en n x.value vs r.2).bind fun a1=>some (vs,od x.name r.1 a1.1 a1.2)
  else if x.ag=3 then (en n x.value vs s).bind fun r=>if r.1≠0 then fE n x.a1 vs r.2 else fE n x.bh vs r.2
  else if x.ag=4 then iZ n x vs s
  else if x.ag=5 then (en n x.value vs s).bind fun r=>some (vs,gh r.1 r.2)
  else if x.ag=6 then (kZ n x.args vs s).bind fun r=>
   if (ed r.2).aK=0 then (i3 n (de fi x.to) r.1 (ed r.2)).bind fun a1=>some (setV vs x.name a1.1,a1.2)else some (vs,ed r.2)
  else if x.ag=7 then some (vs,iy (bA (16+x.n)) s)
  else some (vs,s)
def fE:Nat->qt->List (aS×Int)->MS->Option (List (aS×Int)×MS)
 |0,_,_,_=>none
 |n+1,l,vs,s=>match l with
  |[]=>some (vs,s)
  |x::l=>if s.aK≠0 then some (vs,s)else (lN n x vs s).bind fun r=>fE n l r.1 r.2
def iZ:Nat->St->List (aS×Int)->MS->Option (List (aS×Int)×MS)
 |0,_,_,_=>none
 |n+1,x,vs,s=>(en n x.value vs s).bind fun r=>
  if r.1≠0/\r.2.aK=0 then
   if (ed r.2).aK=0 then (fE n x.a1 vs (ed r.2)).bind fun a1=>iZ n x a1.1 a1.2 else iZ n x vs (ed r.2)
  else some (vs,r.2)
def i3:Nat->Int->qp->MS->Option (Int×MS)
 |0,_,_,_=>none
 |n+1,k,asx,s=>if k<0 then none else (p.funcs[k.toNat]?).bind fun f=>(mh f.params asx []).bind fun vs=>(fE n f.body vs s).bind fun r=>en n f.value r.1 r.2
end
end
def dL(vs:List (aS×Int)):qF:=vs.map fun p=>(.ae p.1,.int .i64 p.2)
def ints(l:qp):qm:=l.map fun n=>.int .i64 n
def js:List (aS×qp)->qx->qF
 |p::l,r::rs=>(.ae p.1,.sl r 0 p.2.length 1)::js l rs
 |_,_=>[]
def og(l:qp):(ints l).length=l.length:=by simp[ints]
theorem Fl(nm:aS):∀(vs:List (aS×Int)) (i:Nat),(ef .string (.ae nm) (dL vs) i=some none/\de vs nm=0/\∀x,dL (setV vs nm x)=dL vs++[(.ae nm,.int .i64 x)]) \/
 ∃j,j<vs.length/\ef .string (.ae nm) (dL vs) i=some (some (i+j,.int .i64 (de vs nm)))/\∀x,dL (setV vs nm x)=(dL vs).set j (.ae nm,.int .i64 x)
 |[],i=>.inl ⟨rfl,rfl,fun _=>rfl⟩
 |p::l,i=>by
  by_cases h:nm=p.1
  .refine .inr ⟨0,aI,?_,fun x=>?_⟩
   .simp[dL,ef,ly,de,h]
   .simp[dL,setV,h]
  .have Y:ef .string (.ae nm) (dL (p::l)) i=ef .string (.ae nm) (dL l) (i+1):=by
    show ef .string (.ae nm) ((.ae p.1,.int .i64 p.2)::dL l) i=_;have:(nm == p.1)=false:=fQ;simp[ef,ly,this]
   have K:de (p::l) nm=de l nm:=by simp[de,h]
   have S:∀x,dL (setV (p::l) nm x)=(.ae p.1,.int .i64 p.2)::dL (setV l nm x):=fun x=>by simp[setV,h,dL]
   rw[Y,K];rcases Fl nm l (i+1)with⟨Z,m,A⟩|⟨j,V,Z,A⟩
   .refine .inl ⟨Z,m,fun x=>?_⟩;rw[S,A];simp[dL]
   .refine .inr ⟨j+1,ce,?_,fun x=>?_⟩
    .rw[Z,show i+1+j=i+(j+1) by omega]
    .rw[S,A];simp[dL]
theorem J8(nm:aS):∀(cs:List (aS×qp)) (rs:qx) (i:Nat),rs.length=cs.length->(ef .string (.ae nm) (js cs rs) i=some none/\dA cs nm=[]/\∀k x,lM cs nm k x=cs) \/
 ∃j r Z,rs[j]?=some r/\cs[j]?=some (Z,dA cs nm)/\ef .string (.ae nm) (js cs rs) i=some (some (i+j,.sl r 0 (dA cs nm).length 1))/\∀k x,lM cs nm k x=cs.set j (Z,(dA cs nm).set k x)
 |[],[],i,_=>.inl ⟨rfl,rfl,fun _ _=>rfl⟩
 |[],_::_,i,h=>by simp at h
 |_::_,[],i,h=>by simp at h
 |p::l,r::rs,i,hlen=>by
  by_cases h:nm=p.1
  .refine .inr ⟨0,r,p.1,rfl,?_,?_,fun k x=>?_⟩
   .simp[dA,h]
   .simp[js,ef,ly,dA,h]
   .simp[lM,dA,h]
  .have U:ef .string (.ae nm) (js (p::l) (r::rs)) i=ef .string (.ae nm) (js l rs) (i+1):=by
    show ef .string (.ae nm) ((.ae p.1,.sl r 0 p.2.length 1)::js l rs) i=_;have:(nm == p.1)=false:=fQ;simp[ef,ly,this]
   have K:dA (p::l) nm=dA l nm:=by simp[dA,h]
   have S:∀k x,lM (p::l) nm k x=p::lM l nm k x:=fun k x=>by simp[lM,h]
   rw[U,K];rcases J8 nm l rs (i+1) (by simpa using hlen)with⟨Y,m,A⟩|⟨j,I,Z,V,hc,Y,A⟩
   .exact .inl ⟨Y,m,fun k x=>by rw[S,A]⟩
   .refine .inr ⟨j+1,I,Z,by simpa using V,x3,?_,fun k x=>?_⟩
    .rw[Y,show i+1+j=i+(j+1) by omega]
    .rw[S,A];simp
theorem J9:∀(cs:List (aS×qp)) (rs:qx) (j:Nat) (C:aS) (l M:qp),cs[j]?=some (C,l)->M.length=l.length->js (cs.set j (C,M)) rs=js cs rs
 |[],_,_,_,_,_,h,_=>by simp at h
 |p::cs,[],j,C,l,M,h,hl=>by cases j<;>rfl
 |p::cs,r::rs,0,C,l,M,h,hl=>by
  simp only[kW,aH]at h;subst h;simp[js,hl]
 |p::cs,r::rs,j+1,C,l,M,h,hl=>by
  simp only[BF,js];rw[J9 cs rs j C l M fQ hl]
structure Mx where
 p:Pr
 rm:Nat
 rc:Nat
 rf:Nat
 rs:qx
 fi:List (aS×Int)
variable{X:Mx}
def Mx.own(X:Mx)(r:Nat):Prop:=r=X.rm\/r∈X.rs
def fy(X:Mx)(s:MS)(ov:AV):qm:=[.ai (X.p.af.map Ar.cells),.ai (X.p.funcs.map Fu.cells),.map X.rc,.map X.rf,.int .i64 s.aC,.int .i64 s.aK,.int .i64 s.aw,ov]
def vi(X:Mx)(H:Hp)(ov:AV)(out:qp):Prop:=
 (ov=.ab/\out=[])\/∃K,ov=.sl K 0 out.length 1/\H.get K=some (.cells (ints out) 0 true)/\K<H.next/\¬X.own K/\K≠X.rc/\K≠X.rf
structure zc9 (X:Mx) (H:Hp) (s:MS) (ov:AV):Prop where
 m:H.get X.rm=some (.cells (fy X s ov) 0 true)
 c:H.get X.rc=some (.map (js s.cells X.rs))
 f:H.get X.rf=some (.map (dL X.fi))
 len:X.rs.length=s.cells.length
 cell:∀(j r:Nat) (nm:aS) (l:qp),X.rs[j]?=some r->s.cells[j]?=some (nm,l)->H.get r=some (.cells (ints l) 0 true)
 out:vi X H ov s.out
 lm:X.rm<H.next
 lc:X.rc<H.next
 lf:X.rf<H.next
 ls:∀r∈X.rs,r<H.next
 dQ:X.rm≠X.rc
 mf:X.rm≠X.rf
 ms:X.rm∉X.rs
 cf:X.rc≠X.rf
 cs:X.rc∉X.rs
 fs:X.rf∉X.rs
 nd:X.rs.Nodup
structure FrE (X:Mx) (H H':Hp):Prop where
 next:H.next<=H'.next
 get:∀r,r<H.next->r≠X.rm->H'.get r=H.get r
variable{c:Hp}
def FrE.refl(X:Mx)(H:Hp):FrE X H H:=⟨aT _,fun _ _ _=>rfl⟩
def iz:=@FrE.refl
def FrE.trans(h:FrE X a b)(k:FrE X b c):FrE X a c:=⟨dC h.next k.next,fun r j m=>(k.get r (fO j h.next) m).trans (h.get r j m)⟩
def FrE.alloc(h:FrE X a b)(x:HB):FrE X a (b.alloc x):=⟨dC h.next (eT _),fun r j m=>by
 have:=h.next
 rw[aP,ad aa];exact h.get r j m⟩
def FrE.set(h:FrE X a b)(hr:r=X.rm\/a.next<=r)(x:HB):FrE X a (b.set r x):=⟨h.next,fun k j m=>by
 rw[aO,ad aa];exact h.get k j m⟩
structure FrA (X:Mx) (H H':Hp):Prop where
 next:H.next<=H'.next
 get:∀r,r<H.next->¬X.own r->H'.get r=H.get r
def FrE.f7(h:FrE X H H'):FrA X H H':=⟨h.next,fun r j m=>h.get r j fun e=>m (.inl e)⟩
def FrA.refl(X:Mx)(H:Hp):FrA X H H:=⟨aT _,fun _ _ _=>rfl⟩
def yR(c:Int)(s:MS):(iy c s).aK≠0:=by
 unfold iy;split
 .simp
 .assumption
def Ka{nm:aS}{a v:Int}(h:a<0\/((dA s.cells nm).length:Int)<=a):od nm a v s=iy 2 s:=by
 have z:mW a (dA s.cells nm)=true:=by simp only[mW,ky,kR];exact h
 simp only[od,z,bw];rw[ad (yR 2 s)]
def Kb{nm:aS}{a v:Int}(h:0<=a)(h2:a<(dA s.cells nm).length):od nm a v s=if s.aK=0 then {s with cells:=lM s.cells nm a.toNat v}else s:=by
 have z:mW a (dA s.cells nm)=false:=EW;simp only[od,z,dg,bH]
def vi.mono{ov:AV}{out:qp}(h:vi X H ov out)(I:H.next<=H'.next)(C:∀r,r<H.next->r≠X.rm->H'.get r=H.get r):vi X H' ov out:=by
 rcases h with h|⟨K,j,m,A,O,J,Z⟩
 .exact .inl h
 .exact .inr ⟨K,j,by rw[C K A (fun e=>O (.inl e))];exact m,fO A I,O,J,Z⟩
def zc9.dG{Y:MS}{ov:AV}(h:zc9 X H s ov)(fr:FrE X H H')(M:H'.get X.rm=some (.cells (fy X Y ov) 0 true))(K:Y.cells=s.cells)(Z:Y.out=s.out):zc9 X H' Y ov where
 m:=M
 c:=by rw[fr.get _ h.lc h.dQ.symm,K];exact h.c
 f:=by rw[fr.get _ h.lf h.mf.symm];exact h.f
 len:=by rw[K];exact h.len
 cell j r nm l h1 h2:=by
  have hr:=fq h1;rw[fr.get _ (h.ls r hr) (fun e=>h.ms (e▸hr))];exact h.cell j r nm l h1 (K▸h2)
 out:=by rw[Z];exact h.out.mono fr.next fr.get
 lm:=fO h.lm fr.next
 lc:=fO h.lc fr.next
 lf:=fO h.lf fr.next
 ls r hr:=fO (h.ls r hr) fr.next
 dQ:=h.dQ
 mf:=h.mf
 ms:=h.ms
 cf:=h.cf
 cs:=h.cs
 fs:=h.fs
 nd:=h.nd
theorem zc9.same{ov:AV}(h:zc9 X H s ov)(I:H.next<=H'.next)(C:∀r,r<H.next->H'.get r=H.get r):zc9 X H' s ov:=
 h.dG ⟨I,fun r j _=>C r j⟩ (by rw[C _ h.lm];exact h.m) rfl rfl
def zc9.alloc{ov:AV}(h:zc9 X H s ov)(b:HB):zc9 X (H.alloc b) s ov:=
 h.same (eT _) fun r hr=>fX
def sf(X:Mx)(s:MS)(nm:aS)(S:AV):Prop:=
 (S=.ab/\dA s.cells nm=[]/\∀k x,lM s.cells nm k x=s.cells)\/∃j r Z,X.rs[j]?=some r/\s.cells[j]?=some (Z,dA s.cells nm)/\S=.sl r 0 (dA s.cells nm).length 1/\∀k x,lM s.cells nm k x=s.cells.set j (Z,(dA s.cells nm).set k x)
def Fm{t e:Nat}{nm:aS}(Z:P.underlying t=some (.map A e))(o:lz P A=some .string)(Y:lU P e=some z)(C:H.get r=some (.map U)):
 (ef .string (.ae nm) U 0=some none->gT P H t (.map r) (.ae nm) false=some z)/\∀i v,ef .string (.ae nm) U 0=some (some (i,v))->gT P H t (.map r) (.ae nm) false=some v:=by
 refine⟨fun h=>?_,fun i v h=>?_⟩<;>simp only[gT,Z,o,Y,sP,C,h,xL]
def Fo{t e:Nat}{nm:aS}{x:AV}(Z:P.underlying t=some (.map A e))(o:lz P A=some .string)(C:H.get r=some (.map U)):
 (ef .string (.ae nm) U 0=some none->nD P H t (.map r) (.ae nm) x=some (H.set r (.map (U++[(.ae nm,x)]))))/\∀i v,ef .string (.ae nm) U 0=some (some (i,v))->nD P H t (.map r) (.ae nm) x=some (H.set r (.map (U.set i (.ae nm,x)))):=by
 refine⟨fun h=>?_,fun i v h=>?_⟩<;>simp only[nD,Z,o,C,h]
def zc9.bS{ov:AV}(h:zc9 X H s ov){t V e:Nat}(U:P.underlying t=some (.map V e))(o:lz P V=some .string)(O:lU P e=some .ab)(nm:aS):
 ∃S,gT P H t (.map X.rc) (.ae nm) false=some S/\sf X s nm S:=by
 obtain⟨l1,l2⟩:=Fm (nm:=nm) U o O h.c;rcases J8 nm s.cells X.rs 0 h.len with⟨Z,m,A⟩|⟨j,r,Y,Z,m,A,M⟩
 .exact⟨_,l1 Z,.inl ⟨rfl,m,A⟩⟩
 .exact⟨_,l2 _ _ A,.inr ⟨j,r,Y,Z,m,rfl,M⟩⟩
def Fp{t e:Nat}(U:P.underlying t=some (.map A e))(o:lz P A=some .string)(Y:lU P e=some (.int .i64 0))(C:H.get r=some (.map (dL vs)))(nm:aS):
 gT P H t (.map r) (.ae nm) false=some (.int .i64 (de vs nm)):=by
 obtain⟨l1,l2⟩:=Fm (nm:=nm) U o Y C;rcases Fl nm vs 0 with⟨Z,m,V⟩|⟨j,S,Z,V⟩
 .rw[l1 Z,m]
 .rw[l2 _ _ Z]
def yS{t Y e:Nat}(U:P.underlying t=some (.map Y e))(o:lz P Y=some .string)(C:H.get r=some (.map (dL vs)))(nm:aS)(x:Int):
 nD P H t (.map r) (.ae nm) (.int .i64 x)=some (H.set r (.map (dL (setV vs nm x)))):=by
 obtain⟨l1,l2⟩:=Fo (nm:=nm) (x:=.int .i64 x) U o C;rcases Fl nm vs 0 with⟨Z,m,A⟩|⟨j,V,Z,A⟩
 .rw[l1 Z,A]
 .rw[l2 _ _ Z,A,bR]
def Kc(l:qp)(k:Nat)(x:Int):ints (l.set k x)=(ints l).set k (.int .i64 x):=by simp[ints,uM]
def Wj(cs:qm)(k:Nat)(v:AV)(h:k<cs.length):splice cs k [v]=cs.set k v:=by
 unfold splice;rw[E9,au h];simp
def zc9.dj{ov:AV}(h:zc9 X H s ov){j:Nat}{nm:aS}{M:qp}(hr:X.rs[j]?=some r)(K:s.cells[j]?=some (nm,l))(J:M.length=l.length):
 zc9 X (H.set r (.cells (ints M) 0 true)) {s with cells:=s.cells.set j (nm,M) } ov:=by
 have Y:=fq hr;have F:j<X.rs.length:=(eu.1 hr).1;have o:∀k,k≠r->(H.set r (.cells (ints M) 0 true)).get k=H.get k:=fun k I=>by rw[aO,ad I]
 refine{m:=?_,c:=?_,f:=?_,len:=?_,cell:=?_,out:=?_,lm:=h.lm,lc:=h.lc,lf:=h.lf,ls:=h.ls,dQ:=h.dQ,mf:=h.mf,ms:=h.ms,cf:=h.cf,cs:=h.cs,fs:=h.fs,nd:=h.nd}
 .rw[o _ (fun e=>h.ms BC)];exact h.m
 .rw[o _ (fun e=>h.cs BC),J9 _ _ _ _ _ _ K J];exact h.c
 .rw[o _ (fun e=>h.fs BC)];exact h.f
 .simp[h.len]
 .intro S C U l2 Z V;by_cases A:S=j
  .subst A;rw[hr]at Z;simp only[aH]at Z;subst Z;rw[Aq EX]at V;simp only[cC]at V;rw[aO,au rfl,V.2]
  .rw[D0 (fun e=>A e.symm)]at V;rw[o _ (fun e=>?_)]
   .exact h.cell S C U l2 Z V
   .subst e;exact A ((List.getElem?_inj JM h.nd).1 (Z.trans hr.symm))
 .rcases h.out with Z|⟨z,Z,V,h3,O,h5,h6⟩
  .exact .inl Z
  .exact .inr ⟨z,Z,by rw[o _ (fun e=>O (.inr BC))];exact V,h3,O,h5,h6⟩
def Kd{l:qp}{k:Nat}(h:k<l.length)(v:Int):(ints l).take k++(.int .i64 v::(ints l).drop (k+1))=ints (l.set k v):=by
 rw[Kc,E9,au (by rw[og];exact h)]
def sf.len{nm:aS}(h:sf X s nm S)(U:P.underlying t=some (.slice e)):gj P H t S=some (.int .i64 (dA s.cells nm).length):=by
 rcases h with⟨rfl,m,_⟩|⟨j,r,Z,_,_,rfl,_⟩
 .rw[m];exact Ba U
 .exact wo U _ _ _ _
def BJ(h:H'.get r=H.get r)(t:TypeId)(k:AV)(ok:Bool):gT P H' t (.map r) k ok=gT P H t (.map r) k ok:=by
 simp only[gT,sP,h]
def yT{k:Nat}(h:k<l.length):(ints l)[k]?=some (.int .i64 (l.getD k 0)):=by
 simp only[ints,ev,bt h,pI,iY,bE]
def lO{a b:Nat}(h:a≠b):(a == b)=false:=fQ
def iL(ov:AV)(r:Nat):Prop:=∃n,ov=.sl r 0 n 1
structure FrS (X:Mx) (ex:Nat->Prop) (ov:AV) (H:Hp) (ov':AV) (H':Hp):Prop where
 next:H.next<=H'.next
 get:∀r,r<H.next->¬X.own r->¬iL ov r->¬ex r->H'.get r=H.get r
 out:∀r,iL ov' r->iL ov r\/H.next<=r
def FrS.trans{ex:Nat->Prop}{Z:AV}(h:FrS X ex z a j b)(k:FrS X ex j b Z c):FrS X ex z a Z c where
 next:=dC h.next k.next
 get r h1 h2 h3 h4:=by
  rw[k.get r (fO h1 h.next) h2 (fun e=>?_) h4]
  .exact h.get r h1 h2 h3 h4
  .rcases h.out r e with e|e
   .exact h3 e
   .omega
 out r h1:=by
  rcases k.out r h1 with e|e
  .exact h.out r e
  .exact .inr (dC h.next e)
def FrA.b8(h:FrA X H H')(ex:Nat->Prop)(ov:AV):FrS X ex ov H ov H':=⟨h.next,fun r j m _ _=>h.get r j m,fun r h=>.inl h⟩
def FrE.b8(h:FrE X H H')(ex:Nat->Prop)(ov:AV):FrS X ex ov H ov H':=h.f7.b8 ex ov
def FrS.refl(X:Mx)(ex:Nat->Prop)(ov:AV)(H:Hp):FrS X ex ov H ov H:=(iz X H).b8 ex ov
def BK:=@FrS.refl
def FrS.cw{ex m:Nat->Prop}(h:FrS X ex z a j b)(O:∀r,r<a.next->ex r->m r):FrS X m z a j b:=⟨h.next,fun r Z Y A V=>h.get r Z Y A fun e=>V (O r Z e),h.out⟩
def zc9.a8{ov:AV}(h:zc9 X H s ov)(hr:X.own r):r<H.next:=by
 rcases hr with rfl|hr
 .exact h.lm
 .exact h.ls r hr
def zc9.a9{ov:AV}(h:zc9 X H s ov)(hr:iL ov r):r<H.next:=by
 obtain⟨n,rfl⟩:=hr;rcases h.out with⟨j,_⟩|⟨K,j,m,A,_⟩
 .simp at j
 .simp only[AV.sl.injEq]at j;omega
def zc9.b4{ov:AV}(h:zc9 X H s ov)(I:H.next<=H'.next)(C:∀r,r<H.next->(X.own r\/r=X.rc\/r=X.rf\/iL ov r)->H'.get r=H.get r):zc9 X H' s ov where
 m:=by rw[C _ h.lm (.inl (.inl rfl))];exact h.m
 c:=by rw[C _ h.lc (.inr (.inl rfl))];exact h.c
 f:=by rw[C _ h.lf (.inr (.inr (.inl rfl)))];exact h.f
 len:=h.len
 cell j r nm l Z Y:=by
  have hr:=fq Z;rw[C _ (h.ls r hr) (.inl (.inr hr))];exact h.cell j r nm l Z Y
 out:=by
  rcases h.out with Z|⟨K,Z,Y,A,O,J,V⟩
  .exact .inl Z
  .exact .inr ⟨K,Z,by rw[C K A (.inr (.inr (.inr ⟨_,Z⟩)))];exact Y,fO A I,O,J,V⟩
 lm:=fO h.lm I
 lc:=fO h.lc I
 lf:=fO h.lf I
 ls r hr:=fO (h.ls r hr) I
 dQ:=h.dQ
 mf:=h.mf
 ms:=h.ms
 cf:=h.cf
 cs:=h.cs
 fs:=h.fs
 nd:=h.nd
structure zda (X:Mx) (H:Hp) (rv:Nat) (vs:List (aS×Int)) (ov:AV):Prop where
 get:H.get rv=some (.map (dL vs))
 lt:rv<H.next
 no:¬X.own rv
 nc:rv≠X.rc
 nf:rv≠X.rf
 nb:¬iL ov rv
def zda.nm{ov:AV}(h:zda X H F vs ov):F≠X.rm:=fun e=>h.no (.inl e)
def zda.eX{ex:Nat->Prop}{ov:AV}(h:zda X H F vs ov)(f:FrS X ex ov H z H')(O:¬ex F):zda X H' F vs z where
 get:=by rw[f.get _ h.lt h.no h.nb O];exact h.get
 lt:=fO h.lt f.next
 no:=h.no
 nc:=h.nc
 nf:=h.nf
 nb e:=by
  rcases f.out _ e with e|e
  .exact h.nb e
  .have:=h.lt;omega
def zda.cW{ov:AV}(h:zda X H F vs ov)(f:FrE X H H'):zda X H' F vs ov:=h.eX (f.b8 (fun _=>False) ov) (fun e=>e)
def zda.gx{ov:AV}(h:zda X H F vs ov)(f:FrA X H H'):zda X H' F vs ov:=h.eX (f.b8 (fun _=>False) ov) (fun e=>e)
def zc9.setV{ov:AV}(h:zc9 X H s ov)(U:zda X H F vs ov)(o:List (aS×Int)):
 zc9 X (H.set F (.map (dL o))) s ov/\zda X (H.set F (.map (dL o))) F o ov/\FrS X (·=F) ov H ov (H.set F (.map (dL o))):=by
 have Z:∀r,r≠F->(H.set F (.map (dL o))).get r=H.get r:=fun r hr=>by rw[aO,ad hr]
 refine⟨h.b4 (aT _) fun r hr M=>Z r fun e=>?_,⟨iG,U.lt,U.no,U.nc,U.nf,U.nb⟩,⟨aT _,fun r j m A O=>Z r O,fun r j=>.inl j⟩⟩;subst e;rcases M with M|M|M|M
 .exact U.no M
 .exact U.nc M
 .exact U.nf M
 .exact U.nb M
def FrS.aj{ex:Nat->Prop}{bV:Hp}{ov:AV}(f:FrS X ex ov H z H')(h:zc9 X bV s ov)(h1:bV.next<=r)(h2:r<H.next)(A:¬ex r):H'.get r=H.get r:=
 f.get r h2 (fun e=>EY) (fun e=>by have:=h.a9 e;omega) A
def oh(H:Hp)(v:AV)(l:qp):Prop:=(v=.ab/\l=[])\/∃r,v=.sl r 0 l.length 1/\H.get r=some (.cells (ints l) 0 true)
def Wk(l:qp):(ints l).all AV.one=true:=by simp[ints,AV.one]
def Ke(a b:qp):ints (a++b)=ints a++ints b:=by simp[ints]
theorem BL(Z:P.underlying t=some (.slice e))(O:bD P e=some 1)(K:cL P e=some 8)(J:cn P e=some [z])(U:oh H S l){r':Nat}
 (I:H.get r'=some (.cells [.int .i64 x] 0 true)) (hl:l.length<2^40) :
 ∃F,dh P false H t t S (.sl r' 0 1 1)=some (.sl H.next 0 (l.length+1) 1,F)/\F.next=H.next+1/\F.get H.next=some (.cells (ints (l++[x])) 0 true)/\∀k,k<H.next->¬iL S k->F.get k=H.get k:=by
 have C:fc H 1 (.sl r' 0 1 1)=some (0+1,[.int .i64 x]):=by
  have:=pN (H:=H) (r:=r') (o:=0) (n:=1) (z:=1) (s:=1) I rfl;rw[this];rfl
 have j:ip P t=true:=by unfold ip;rw[Z]
 have M:dd=70368744177664:=rfl;rcases U with⟨rfl,rfl⟩|⟨r,rfl,m⟩
 .refine⟨H.alloc (.cells [.int .i64 x] 0 true),append_nil Z O K J j C rfl rfl jB jB,rfl,?_,fun k A _=>?_⟩
  .rw[aP,au rfl];rfl
  .rw[aP,ad aa]
 .refine⟨(H.az r).alloc (.cells (ints l++[.int .i64 x]) 0 true),Bg Z O K J j C rfl rfl m (by rw[og,jS]) jB jB,rfl,?_,fun k A Y=>?_⟩
  .show((H.az r).alloc _).get (H.az r).next=_
   rw[aP,au rfl,Ke];rfl
  .have V:¬k=r:=fun e=>Y ⟨_,mK⟩;rw[aP,ad kC,gm,ad V]
def zc9.dM{F:Hp}{ov:AV}(h:zc9 X H s ov)(I:s.aK=0)(z:H.next<=A)(S:F.next=A+1)(V:F.get A=some (.cells (ints (s.out++[x])) 0 true))(o:∀k,k<H.next->¬iL ov k->F.get k=H.get k):
 zc9 X (F.set X.rm (.cells (fy X (gh x s) (.sl A 0 (s.out.length+1) 1)) 0 true)) (gh x s) (.sl A 0 (s.out.length+1) 1)/\FrS X (fun _=>False) ov H (.sl A 0 (s.out.length+1) 1) (F.set X.rm (.cells (fy X (gh x s) (.sl A 0 (s.out.length+1) 1)) 0 true)):=by
 have M:gh x s={s with out:=s.out++[x] }:=by simp only[gh,I,bw]
 have J:∀r,(X.own r\/r=X.rc\/r=X.rf)->¬iL ov r:=fun r hr ⟨n,e⟩=>by
  rcases h.out with⟨Z,_⟩|⟨ro,Z,Y,U,O,K,h6⟩
  .rw[Z]at e;simp at e
  .rw[Z]at e;simp only[AV.sl.injEq]at e;obtain⟨rfl,_⟩:=e;rcases hr with hr|hr|hr
   .exact O hr
   .exact K hr
   .exact h6 hr
 have g:∀r,r<H.next->r≠X.rm->¬iL ov r->(F.set X.rm (.cells (fy X (gh x s) (.sl A 0 (s.out.length+1) 1)) 0 true)).get r=H.get r:=fun r Z Y U=>by
  rw[aO,ad Y,o r Z U]
 have hlm:=h.lm;refine⟨?_,⟨by show H.next<=F.next;omega,fun r Z Y U _=>g r Z (fun e=>Y (.inl e)) U,fun r ⟨n,e⟩=>.inr BD⟩⟩;refine{m:=?_,c:=?_,f:=?_,len:=?_,cell:=?_,out:=?_,lm:=?_,lc:=?_,lf:=?_,ls:=?_,dQ:=h.dQ,mf:=h.mf,ms:=h.ms,cf:=h.cf,cs:=h.cs,fs:=h.fs,nd:=h.nd}
 .rw[aO,au rfl]
 .rw[g _ h.lc h.dQ.symm (J _ (.inr (.inl rfl))),M];exact h.c
 .rw[g _ h.lf h.mf.symm (J _ (.inr (.inr rfl)))];exact h.f
 .rw[M];exact h.len
 .intro j r C l Z Y;rw[M]at Y;have hr:=fq Z;rw[g _ (h.ls r hr) (fun e=>h.ms (e▸hr)) (J _ (.inl (.inr hr)))];exact h.cell j r C l Z Y
 .refine .inr ⟨A,by rw[M];simp,?_,by show A<F.next;omega,fun e=>EY,by have:=h.lc;omega,by have:=h.lf;omega⟩;rw[aO,ad aa,V,M]
 .show X.rm<F.next;omega
 .show X.rc<F.next;have:=h.lc;omega
 .show X.rf<F.next;have:=h.lf;omega
 .intro r hr;show r<F.next;have:=h.ls r hr;omega
def vi.ints{ov:AV}{out:qp}(h:vi X H ov out):oh H ov out:=by
 rcases h with h|⟨K,j,m,_⟩
 .exact .inl h
 .exact .inr ⟨K,j,m⟩
def pe(v:AV)(r:Nat):Prop:=∃o n z,v=.sl r o n z
def mj(H:Hp)(v:AV)(l:qp):Prop:=
 (v=.ab/\l=[])\/(v=.ai (l.map fun n=>[.int .i64 n]))\/∃r o cs S I,v=.sl r o l.length 1/\H.get r=some (.cells cs S I)/\∀i,i<l.length->cs[o+i]?=some (.int .i64 (l.getD i 0))
def oh.fb(h:oh H v l):mj H v l:=by
 rcases h with h|⟨r,j,m⟩
 .exact .inl h
 .exact .inr (.inr ⟨r,0,_,_,_,j,m,fun i F=>by rw[bR];exact yT F⟩)
def mj.at(h:mj H v l)(U:P.underlying t=some (.slice e))(C:P.underlying e=some (.int k))(S:bD P e=some 1){i:Nat}(F:i<l.length):
 ∃a,eS P t v (.int .i64 (i:Int))=some a/\∀H':Hp,(∀r,pe v r->H'.get r=H.get r)->jL P H' e a=some (.int .i64 (l.getD i 0)):=by
 rcases h with⟨_,rfl⟩|rfl|⟨r,o,cs,Y,I,rfl,m,A⟩
 .simp at F
 .refine⟨_,RP U S (i:=i) (row:=[.int .i64 (l.getD i 0)]) ?_ rfl,fun H' _=>RQ C rfl _⟩;rw[ev,bt F,pI,iY,bt F,bE]
 .refine⟨_,IJ U S F,fun H' Z=>?_⟩;rw[IK C rfl (by rw[Z r ⟨_,_,_,rfl⟩];exact m),jS];exact A i F
def mj.mono(h:mj H v l)(C:∀r,pe v r->H'.get r=H.get r):mj H' v l:=by
 rcases h with h|h|⟨r,o,cs,S,I,j,m,A⟩
 .exact .inl h
 .exact .inr (.inl h)
 .exact .inr (.inr ⟨r,o,cs,S,I,j,by rw[C r ⟨_,_,_,j⟩];exact m,A⟩)
def mj.len(h:mj H v l)(U:P.underlying t=some (.slice e)):gj P H' t v=some (.int .i64 l.length):=by
 rcases h with⟨rfl,rfl⟩|rfl|⟨r,o,cs,S,I,rfl,_,_⟩
 .exact Ba U
 .rw[Eo U];simp
 .exact wo U _ _ _ _
def fA(l:List Ar):List (aS×qp):=l.map fun a=>(a.name,List.replicate a.len.toNat 0)
def fI:qG->Nat->List (aS×Int)->List (aS×Int)
 |[],_,m=>m
 |f::l,i,m=>fI l (i+1) (setV m f.name i)
def fJ:List (aS×Int)->aS->Bool
 |[],_=>false
 |p::l,nm=>if nm=p.1 then true else fJ l nm
structure Oc where
 ag:Int
 aw:Int
 out:qp
 value:Int
def j0(r:Int×MS):Oc:=if r.2.aK=2 then ⟨2,r.2.aw,r.2.out,0⟩else if r.2.aK=3 then ⟨3,0,r.2.out,0⟩else ⟨1,0,r.2.out,r.1⟩
def ol(p:Pr)(fuel:Int):MS:=⟨fuel,0,0,fA p.af,[]⟩
def vj(H:Hp)(v:AV)(o:Oc):Prop:=∃ov,v=.agg [.int .i64 o.ag,.int .i64 o.aw,ov,.int .i64 o.value]/\oh H ov o.out/\∀k,pe ov k->k<H.next
theorem Wl(r:Int×MS):(j0 r).out=r.2.out:=by unfold j0;split<;>(try split)<;>rfl
theorem Kf(nm:aS):∀(vs:List (aS×Int)) (i:Nat),(fJ vs nm=false->ef .string (.ae nm) (dL vs) i=some none/\de vs nm=0)/\(fJ vs nm=true->∃j,ef .string (.ae nm) (dL vs) i=some (some (j,.int .i64 (de vs nm))))
 |[],i=>⟨fun _=>⟨rfl,rfl⟩,fun h=>by simp[fJ]at h⟩
 |p::l,i=>by
  by_cases h:nm=p.1
  .refine⟨fun m=>by simp[fJ,h]at m,fun _=>⟨i,?_⟩⟩;simp[dL,ef,ly,de,h]
  .have Z:ef .string (.ae nm) (dL (p::l)) i=ef .string (.ae nm) (dL l) (i+1):=by
    show ef .string (.ae nm) ((.ae p.1,.int .i64 p.2)::dL l) i=_;have:(nm == p.1)=false:=fQ;simp[ef,ly,this]
   have K:de (p::l) nm=de l nm:=by simp[de,h]
   have M:fJ (p::l) nm=fJ l nm:=by simp[fJ,h]
   rw[Z,K,M];exact Kf nm l (i+1)
def Kg{t e:Nat}(U:P.underlying t=some (.map A e))(Z:lz P A=some .string)(Y:lU P e=some (.int .i64 0))(C:H.get r=some (.map (dL vs)))(nm:aS):
 gT P H t (.map r) (.ae nm) true=some (.aW [.int .i64 (de vs nm),.bool (fJ vs nm)]):=by
 obtain⟨V,m⟩:=Kf nm vs 0;cases M:fJ vs nm with
 |false=>
  obtain⟨o,S⟩:=V M;simp only[gT,U,Z,Y,sP,C,o,xL,S]
 |true=>
  obtain⟨j,o⟩:=m M;simp only[gT,U,Z,sP,C,o,xL]
theorem Kh(nm:aS):∀(cs:List (aS×qp)) (rs:qx) (i:Nat),nm∉cs.map (·.1)->ef .string (.ae nm) (js cs rs) i=some none
 |[],_,_,_=>rfl
 |_::_,[],_,_=>rfl
 |p::l,r::rs,i,h=>by
  simp only[el,fY,not_or]at h;show ef .string (.ae nm) ((.ae p.1,.sl r 0 p.2.length 1)::js l rs) i=_;have:(nm == p.1)=false:=by simpa using h.1
  simp only[ef,ly,this];exact Kh nm l rs (i+1) h.2
theorem Ki:∀(cs:List (aS×qp)) (rs:qx) (c:aS×qp) (r:Nat),rs.length=cs.length->js (cs++[c]) (rs++[r])=js cs rs++[(.ae c.1,.sl r 0 c.2.length 1)]
 |[],[],_,_,_=>rfl
 |[],_::_,_,_,h=>by simp at h
 |_::_,[],_,_,h=>by simp at h
 |p::l,q::rs,c,r,h=>by
  simp only[jW,js];rw[Ki l rs c r fQ]
theorem Wm(n:Nat):jy [.int .i64 0] n=ints (List.replicate n 0):=by
 induction n with
 |zero=>rfl
 |succ n ih=>simp only[jy,ih];simp[ints,List.replicate_succ]
theorem Kj(U:P.underlying t=some (.slice e))(S:bD P e=some 1)(z:cL P e=some 8)(Y:cn P e=some [.int .i64 0]){n:Int}(I:0<=n)(h1:n<2^40):
 pF P H t (.int .i64 n) (.int .i64 n)=some (.sl H.next 0 n.toNat 1,H.alloc (.cells (ints (List.replicate n.toNat 0)) 0 true)):=by
 obtain⟨m,rfl⟩:=wl I;have M:dd=70368744177664:=rfl;show pF P H t (.int .i64 (Int.ofNat m)) (.int .i64 (Int.ofNat m))=_;simp only[pF,U,S,z,Y];rw[au ⟨aT _,jB,jB,rfl⟩,Wm];rfl
end Go.Ab
namespace Go.Proofs.YtbflaciihaijgaaGreat
set_option maxRecDepth 20000
open Go Go.Ab Proofs.Tryz
variable(ρ:Nat->Int)
section
def tyR3b.tyF:=ac @cI (ac @cY (ac @dR (ac @dX (ac @dy (ac @eD (@dF))))))
open tyR3b
noncomputable def Kk:{c:SC // aG 22 (f145.body.getD .skip)=c}:=by
 refine⟨?_,?_⟩;rotate_left
 .simp only[f145,bE,aG,bz,bq,bF,bB,Nat.blt,Nat.ble];rfl
noncomputable def Kl:{c:SC // aG 78 (f143.body.getD .skip)=c}:=by
 refine⟨?_,?_⟩;rotate_left
 .simp only[f143,bE,aG,bz,bq,bF,bB,Nat.blt,Nat.ble];rfl
mutual
def cG:Ex->Nat
 | .mk _ _ _ _ M=>iM M
def iM:qz->Nat
 |[]=>0
 |e::es=>max (1+cG e) (iM es)
end
theorem Km(x:Ex):cG x=iM x.ak:=by cases x;rw[cG];rfl
mutual
theorem Kn:∀x:Ex,cG x<=x.sz
 | .mk _ _ _ _ M=>by have:=Ko M;simp only[cG,Ex.sz];omega
theorem Ko:∀l:qz,iM l<=cF l
 |[]=>aT _
 |e::es=>by have:=Kn e;have:=Ko es;simp only[iM,cF];omega
end
def i4(x:Ex):qm:=[.agg x.cells]
def ph(x y:Ex)(h:i4 x=i4 y):x=y:=by simp only[i4,ew,AV.agg.injEq,bb]at h;exact Ex.inj h
def lP(l:qt):qm:=[.ai (l.map St.cells)]
def wH(x y:qt)(h:lP x=lP y):x=y:=by simp only[lP,ew,AV.ai.injEq,bb]at h;exact By h
def Wn:∀x:Ex,x.sz<2^60->bJ prog ρ 145 [.agg x.cells] (.int .i64 (cG x)):=
 u7 fit (pls:=pls) (l:=[]) trivial (fun x=>x.sz) (ok:=fun x=>x.sz<2^60) (enc:=i4) (out:=fun x=>.int .i64 (cG x)) (fun x _=>.cons (.agg x.pure) .nil) (fun x _=>.int _ _) (fun x hx=>by
 have Y:=sa (sz:=fun x:Ex=>x.sz) (ok:=fun x=>x.sz<2^60) (out:=fun x=>.int .i64 (cG x)) ph (f:=145) (l:=[]) x;generalize hl:(⟨145,false,bS (fun y=>y.sz<2^60/\y.sz<x.sz) i4 fun x=>.int .i64 (cG x)⟩:En)::[]=l at Y⊢;have kr:∀y:Ex,y.sz<2^60->y.sz<x.sz->∀H,aU prog (aF pls l) 145 [.agg y.cells] H fun v H'=>v=.int .i64 (cG y)/\H'=H:=fun y C A H=>by
  subst hl;exact cp (enc:=i4) (out:=fun x=>.int .i64 (cG x)) ph (x:=y) rfl ⟨C,A⟩
 have hsz:=x.aJ;have F:=lH x.ak;have hlk:x.ak.length<2^60:=aa;have hdl:=Kn x;change aU _ _ _ [.agg x.cells] _ _;refine a5 (M:=22) (rs:=[.tmp 2]) Y.call Y.ao Y.am func145 rfl rfl Kk.2 rfl ?_;dsimp only[Kk,a3,Nat.reduceAdd];repeat' (first
  |(apply ai ?_;clear hK K)|apply Rx.o ?_|(apply aE (fun z V=>?_) (fun z V=>?_)<;>try(cases z;done))|apply ae ?_|(apply ah fun K hK=>?_)|apply aj ?_|apply ak ?_|apply am ?_|apply ax ?_)
 refine dG [1] [0] 4 x.ak.length (fun i E H=>∃m:Nat,E.at 3=.int .i64 m/\max m (iM (x.ak.drop i))=cG x) eE ⟨0,eE,by simp[Km]⟩ ?_;rintro i E I hi U S O o ⟨m,lT,J⟩;(try simp only[bL,bK,bb,aK,aW,Nat.reduceBEq,Nat.reduceAdd,Nat.reduceLeDiff,tyF, *]at U);(try simp only[bL,bK,bb,aK,aW,Nat.reduceBEq,Nat.reduceAdd,Nat.reduceLeDiff,tyF, *]at S);(try simp only[br,bG,cR,bR,Nat.reduceAdd]at O);have hB0:(0 == I.next)=false:=ay aa;have hC0:(I.next == 0)=false:=ay aa;repeat' (first
  |(apply ai ?_;clear hK K)|apply Rx.o ?_|(apply aE (fun z V=>?_) (fun z V=>?_)<;>try(cases z;done))|apply ae ?_|(apply ah fun K hK=>?_)|apply aj ?_|apply ak ?_|apply am ?_|apply ax ?_)
 .have Z:i<x.ak.length:=by simpa using z
  have hgx:x.ak[i]?=some x.ak[i]:=bt Z;have hm:=lK (ek Z);have j:iM (x.ak.drop i)=max (1+cG x.ak[i]) (iM (x.ak.drop (i+1))):=pX;have hwr:IntKind.wrap .i64 (1+(cG x.ak[i]:Int))=((1+cG x.ak[i]:Nat):Int):=BE;repeat' (first
   |(apply ai ?_;clear hK K)|apply Rx.o ?_|(apply dJ ?_;first|refine aY (kr _ aa aa _) ?_)|(apply aE (fun z V=>?_) (fun z V=>?_)<;>try(cases z;done))|apply ae ?_|(apply ah fun K hK=>?_)|apply aj ?_|apply ak ?_|apply am ?_|apply ax ?_)
  refine⟨aa,bM,bM,dr,E7,?_⟩;exact⟨max m (1+cG x.ak[i]),by simp only[aK,Nat.reduceBEq];congr 1;omega,by rw[<-J,j];omega⟩
 .all_goals refine qq ?_
  rw[show i=x.ak.length by simp at z;omega,gy]at J;simp[iM]at J;rw[J])
mutual
def dl:St->Nat
 | .mk _ _ _ _ _ _ _ U V=>1+b9 U+b9 V
def b9:qt->Nat
 |[]=>0
 |x::l=>dl x+b9 l
end
mutual
def ct:St->Nat
 | .mk k _ _ _ _ _ _ U V=>(if k=4 then 1 else 0)+dB U+dB V
def dB:qt->Nat
 |[]=>0
 |x::l=>ct x+dB l
end
mutual
def i5:St->Nat->Nat
 | .mk _ _ _ _ _ _ _ U V,d=>max d (max (eA U (d+1)) (eA V (d+1)))
def eA:qt->Nat->Nat
 |[],_=>0
 |x::l,d=>max (i5 x d) (eA l d)
end
theorem vk(x:St):dl x=1+b9 x.a1+b9 x.bh:=by cases x;rw[dl];rfl
theorem Wo(x:St):ct x=(if x.ag=4 then 1 else 0)+dB x.a1+dB x.bh:=by cases x;rw[ct];rfl
theorem Wp(x:St)(d:Nat):i5 x d=max d (max (eA x.a1 (d+1)) (eA x.bh (d+1))):=by cases x;rw[i5];rfl
mutual
theorem Wq:∀x:St,dl x<=x.sz
 | .mk _ _ _ _ _ _ _ U V=>by have:=BM U;have:=BM V;simp only[dl,St.sz];omega
theorem BM:∀l:qt,b9 l<=a6 l
 |[]=>aT _
 |x::l=>by have:=Wq x;have:=BM l;simp only[b9,a6];omega
end
mutual
theorem Wr:∀x:St,ct x<=x.sz
 | .mk k _ _ _ _ _ _ U V=>by have:=BN U;have:=BN V;simp only[ct,St.sz];split<;>omega
theorem BN:∀l:qt,dB l<=a6 l
 |[]=>aT _
 |x::l=>by have:=Wr x;have:=BN l;simp only[dB,a6];omega
end
mutual
theorem Ws:∀(x:St) (d:Nat),i5 x d<=d+x.sz
 | .mk _ _ _ _ _ _ _ U V,d=>by have:=BO U (d+1);have:=BO V (d+1);simp only[i5,St.sz];omega
theorem BO:∀(l:qt) (d:Nat),eA l d<=d+a6 l
 |[],_=>dx _
 |x::l,d=>by have:=Ws x d;have:=BO l d;simp only[eA,a6];omega
end
def k3{z:Int}(h1:-9223372036854775808<=z)(h2:z<9223372036854775808):IntKind.wrap .i64 z=z:=x9 _ aa
def sg(x:qt×Nat):qm:=[.ai (x.1.map St.cells),.int .i64 x.2]
def Fq(x y:qt×Nat)(h:sg x=sg y):x=y:=by
 simp only[sg,ew,AV.ai.injEq,AV.int.injEq,iw]at h;exact pc (By h.1) aa
def tC(x:qt×Nat):AV:=.aW [.int .i64 (b9 x.1),.int .i64 (dB x.1),.int .i64 (eA x.1 x.2)]
theorem Kp(a b c:AV):Ab.extract (.aW [a,b,c]) 0=some a:=rfl
theorem Kq(a b c:AV):Ab.extract (.aW [a,b,c]) 1=some b:=rfl
theorem Kr(a b c:AV):Ab.extract (.aW [a,b,c]) 2=some c:=rfl
def Wt:∀x:qt×Nat,a6 x.1+x.2<2^60->bJ prog ρ 143 (sg x) (tC x):=
 u7 fit (pls:=pls) (l:=[]) trivial (fun x=>a6 x.1) (ok:=fun x=>a6 x.1+x.2<2^60) (enc:=sg) (out:=tC) (fun x _=>.cons (wy _) (.cons (.int _ _) .nil)) (fun x _=>.aW (.cons (.int _ _) (.cons (.int _ _) (.cons (.int _ _) .nil)))) (fun x hx=>by
 have J:=sa (sz:=fun x:qt×Nat=>a6 x.1) (ok:=fun x=>a6 x.1+x.2<2^60) (out:=tC) Fq (f:=143) (l:=[]) x;generalize o:(⟨143,false,bS (fun y=>a6 y.1+y.2<2^60/\a6 y.1<a6 x.1) sg tC⟩:En)::[]=l at J⊢;obtain⟨x,d⟩:=x;have kr:∀(y:qt),a6 y<a6 x->∀H,aU prog (aF pls l) 143 [.ai (y.map St.cells),.int .i64 ((d+1:Nat):Int)] H fun v H'=>v=.aW [.int .i64 (b9 y),.int .i64 (dB y),.int .i64 (eA y (d+1))]/\H'=H:=fun y F H=>by
  subst o;exact cp (enc:=sg) (out:=tC) Fq (x:=(y,d+1)) rfl ⟨by simp only[]at hx⊢;omega,F⟩
 simp only[]at hx;have I:=mS x;have hn:=BM x;have hwl:=BN x;have hm:=BO x d;have hwd:IntKind.wrap .i64 ((d:Int)+1)=((d+1:Nat):Int):=BE;change aU _ _ _ [.ai (x.map St.cells),.int .i64 d] _ _;refine a5 (M:=78) (rs:=[.tmp 4,.tmp 5,.tmp 6]) J.call J.ao J.am func143 rfl rfl Kl.2 rfl ?_;dsimp only[Kl,a3,Nat.reduceAdd];repeat' (first
  |(apply ai ?_;clear hK K)|apply Rx.o ?_|(apply aE (fun Z V=>?_) (fun Z V=>?_)<;>try(cases Z;done))|apply ae ?_|(apply ah fun K hK=>?_)|apply aj ?_|apply ak ?_|apply am ?_|apply ax ?_)
 refine dG [0,1] [] 10 x.length (fun i E H=>∃a b m:Nat,E.at 7=.int .i64 a/\E.at 8=.int .i64 b/\E.at 9=.int .i64 m/\a+b9 (x.drop i)=b9 x/\b+dB (x.drop i)=dB x/\max m (eA (x.drop i) d)=eA x d) eE ⟨0,0,0,eE,eE,eE,aI,aI,aI⟩ ?_;rintro i E H2 hi U S O j ⟨a,b,m,k7,k8,k9,A,C,Y⟩;(try simp only[bL,bK,bb,aK,aW,Nat.reduceBEq,Nat.reduceAdd,Nat.reduceLeDiff,tyF, *]at U);(try simp only[bL,bK,bb,aK,aW,Nat.reduceBEq,Nat.reduceAdd,Nat.reduceLeDiff,tyF, *]at S);(try simp only[br,bG,cR,bR,Nat.reduceAdd]at O);repeat' (first
  |(apply ai ?_;clear hK K)|apply Rx.o ?_|(apply aE (fun Z V=>?_) (fun Z V=>?_)<;>try(cases Z;done))|apply ae ?_|(apply ah fun K hK=>?_)|apply aj ?_|apply ak ?_|apply am ?_|apply ax ?_)
 .have z:i<x.length:=by simpa using Z
  have hgx:x[i]?=some x[i]:=bt z;have hsm:=l9 (ek z);have hsz:=x[i].aJ;have d1:b9 (x.drop i)=dl x[i]+b9 (x.drop (i+1)):=EZ;have d2:dB (x.drop i)=ct x[i]+dB (x.drop (i+1)):=EZ;have d3:eA (x.drop i) d=max (i5 x[i] d) (eA (x.drop (i+1)) d):=EZ;rw[vk]at d1;rw[Wo]at d2;rw[Wp]at d3;have gh0:=@Kp;have gh1:=@Kq;have gh2:=@Kr;repeat' (first
   |(apply ai ?_;clear hK K)|apply Rx.o ?_|(apply dJ ?_;first|refine aY (kr _ aa _) ?_)|(apply aE (fun Z V=>?_) (fun Z V=>?_)<;>try(cases Z;done))|apply ae ?_|(apply ah fun K hK=>?_)|apply aj ?_|apply ak ?_|apply am ?_|apply ax ?_)
  all_goals
   refine⟨aa,bM,bM,dr,tw,?_⟩;refine⟨a+1+b9 x[i].a1+b9 x[i].bh,b+(if x[i].ag=4 then 1 else 0)+dB x[i].a1+dB x[i].bh,max (max m d) (max (eA x[i].a1 (d+1)) (eA x[i].bh (d+1))),?_,?_,?_,aa,aa,aa⟩
   .simp only[aK,Nat.reduceBEq]
    congr 1
    simp (disch:=omega) only[k3];omega
   .simp only[aK,Nat.reduceBEq]
    congr 1
    simp (disch:=omega) only[k3, *];simp;try omega
   .simp only[aK,Nat.reduceBEq]
    congr 1
    omega
 .all_goals refine qq ?_
  rw[show i=x.length by simp at Z;omega,gy]at A C Y;simp[b9,dB,eA]at A C Y;simp only[tC,A,C,Y])
end
section
def tyR3c.tyF:=ac @dF (ac @cI (ac @cY (ac @fg (ac @fh (ac @eL (ac @dW (ac @dR (ac @dX (ac @dy (ac @ge (ac @iW (ac @eD (ac @Kp (ac @Kq (@Kr)))))))))))))))
open tyR3c
noncomputable def Ks:{c:SC // aG 50 (f144.body.getD .skip)=c}:=by
 refine⟨?_,?_⟩;rotate_left
 .simp only[f144,bE,aG,bz,bq,bF,bB,Nat.blt,Nat.ble];rfl
noncomputable def Kt:{c:SC // aG 94 (f93.body.getD .skip)=c}:=by
 refine⟨?_,?_⟩;rotate_left
 .simp only[f93,bE,aG,bz,bq,bF,bB,Nat.blt,Nat.ble];rfl
mutual
def k4:St->Bool
 | .mk _ _ _ _ a v j U V=>decide ((20:Int)<cG a)||decide ((20:Int)<cG v)||eV U||eV V||j.any fun e=>decide ((20:Int)<cG e)
def eV:qt->Bool
 |[]=>false
 |x::l=>k4 x||eV l
end
theorem yU(x:St):k4 x=(decide ((20:Int)<cG x.aL)||decide ((20:Int)<cG x.value)||eV x.a1||eV x.bh||x.args.any fun e=>decide ((20:Int)<cG e)):=by cases x;rw[k4];rfl
noncomputable def yV:En:=⟨145,false,bS (fun x=>x.sz<2^60) i4 fun x=>.int .i64 (cG x)⟩
def Ku:cS prog ρ yV:=cZ fun x hx=>Wn ρ x hx
def Wu:∀x:qt,a6 x<2^60->bJ prog ρ 144 (lP x) (.bool (eV x)):=
 u7 fit (pls:=pls) (l:=[yV]) ⟨Ku ρ,trivial⟩ (fun x=>a6 x) (ok:=fun x=>a6 x<2^60) (enc:=lP) (out:=fun x=>.bool (eV x)) (fun x _=>.cons (wy _) .nil) (fun x _=>.bool _) (fun x hx=>by
 have m:=sa (sz:=fun x:qt=>a6 x) (ok:=fun x=>a6 x<2^60) (out:=fun x=>.bool (eV x)) wH (f:=144) (l:=[yV]) x;generalize hl:(⟨144,false,bS (fun y=>a6 y<2^60/\a6 y<a6 x) lP fun x=>.bool (eV x)⟩:En)::[yV]=l at m⊢;have kr:∀(y:qt),a6 y<a6 x->∀H,aU prog (aF pls l) 144 [.ai (y.map St.cells)] H fun v H'=>v=.bool (eV y)/\H'=H:=fun y h2 H=>by
  subst hl;exact cp (enc:=lP) (out:=fun x=>.bool (eV x)) wH (x:=y) rfl ⟨aa,h2⟩
 have kd:∀y:Ex,y.sz<2^60->∀H,aU prog (aF pls l) 145 [.agg y.cells] H fun v H'=>v=.int .i64 (cG y)/\H'=H:=fun y h1 H=>by
  subst hl;exact cp (enc:=i4) (out:=fun x=>.int .i64 (cG x)) ph (x:=y) rfl h1
 have hlen:=mS x;change aU _ _ _ [.ai (x.map St.cells)] _ _;refine a5 (M:=50) (rs:=[.tmp 2]) m.call m.ao m.am func144 rfl rfl Ks.2 rfl ?_;dsimp only[Ks,a3,Nat.reduceAdd];repeat' (first
  |(apply ai ?_;clear hK K)|apply Rx.o ?_|apply aN ?_|(apply aX (fun C Y=>?_) (fun C Y=>?_)<;>try(cases C;done))|(apply aE (fun z V=>?_) (fun z V=>?_)<;>try(cases z;done))|apply ae ?_|(apply ah fun K hK=>?_)|apply aj ?_|apply ak ?_|apply am ?_|apply ax ?_)
 refine dG [0] [] 3 x.length (fun i E H=>eV x=eV (x.drop i)) eE aI ?_;rintro i E H2 hi J I F hsI o;(try simp only[bL,bK,bb,aK,aW,Nat.reduceBEq,Nat.reduceAdd,Nat.reduceLeDiff,tyF, *]at J);(try simp only[bL,bK,bb,aK,aW,Nat.reduceBEq,Nat.reduceAdd,Nat.reduceLeDiff,tyF, *]at I);(try simp only[br,bG,cR,bR,Nat.reduceAdd]at F);repeat' (first
  |(apply ai ?_;clear hK K)|apply Rx.o ?_|apply aN ?_|(apply aX (fun C Y=>?_) (fun C Y=>?_)<;>try(cases C;done))|(apply aE (fun z V=>?_) (fun z V=>?_)<;>try(cases z;done))|apply ae ?_|(apply ah fun K hK=>?_)|apply aj ?_|apply ak ?_|apply am ?_|apply ax ?_)
 .have A:i<x.length:=by simpa using z
  have hgx:x[i]?=some x[i]:=bt A;have hsm:=l9 (ek A);have hsz:=x[i].aJ;have hla:=lH x[i].args;have U:eV (x.drop i)=(k4 x[i]||eV (x.drop (i+1))):=by rw[fR A];rfl
  rw[yU]at U;repeat' (first
   |(apply ai ?_;clear hK K)|apply Rx.o ?_|apply aN ?_|(apply dJ ?_;first|refine aY (kd _ aa _) ?_|refine aY (kr _ aa _) ?_)|(apply aX (fun C Y=>?_) (fun C Y=>?_)<;>try(cases C;done))|(apply aE (fun z V=>?_) (fun z V=>?_)<;>try(cases z;done))|apply ae ?_|(apply ah fun K hK=>?_)|apply aj ?_|apply ak ?_|apply am ?_|apply ax ?_)
  rotate_left
  .refine dG [0,3,4] [H2.next] 5 x[i].args.length (fun j E H=>(x[i].args.any fun e=>decide ((20:Int)<cG e))=(x[i].args.drop j).any fun e=>decide ((20:Int)<cG e)) eE aI ?_;rintro j E3 H3 hj J I F hsI Z;(try simp only[bL,bK,bb,aK,aW,Nat.reduceBEq,Nat.reduceAdd,Nat.reduceLeDiff,tyF, *]at J);(try simp only[bL,bK,bb,aK,aW,Nat.reduceBEq,Nat.reduceAdd,Nat.reduceLeDiff,tyF, *]at I);(try simp only[br,bG,cR,bR,Nat.reduceAdd]at F);have hB0:(H2.next == H3.next)=false:=ay aa;have hC0:(H3.next == H2.next)=false:=ay aa;repeat' (first
    |(apply ai ?_;clear hK K)|apply Rx.o ?_|apply aN ?_|(apply aX (fun C Y=>?_) (fun C Y=>?_)<;>try(cases C;done))|(apply aE (fun z V=>?_) (fun z V=>?_)<;>try(cases z;done))|apply ae ?_|(apply ah fun K hK=>?_)|apply aj ?_|apply ak ?_|apply am ?_|apply ax ?_)
   .have O:j<x[i].args.length:=by simpa using z
    have hgx2:x[i].args[j]?=some x[i].args[j]:=bt O;have hsm2:=lK (ek O);have S:((x[i].args.drop j).any fun e=>decide ((20:Int)<cG e))=(decide ((20:Int)<cG x[i].args[j])||(x[i].args.drop (j+1)).any fun e=>decide ((20:Int)<cG e)):=by rw[fR O];rfl
    repeat' (first
     |(apply ai ?_;clear hK K)|apply Rx.o ?_|apply aN ?_|(apply dJ ?_;first|refine aY (kd _ aa _) ?_)|(apply aX (fun C Y=>?_) (fun C Y=>?_)<;>try(cases C;done))|(apply aE (fun z V=>?_) (fun z V=>?_)<;>try(cases z;done))|apply ae ?_|(apply ah fun K hK=>?_)|apply aj ?_|apply ak ?_|apply am ?_|apply ax ?_)
    .all_goals refine qq ?_
     rw[o,U,Z,S];(try simp only[cq]at *);simp only[ *,cr,bw,bH,Int.reduceEq]
    .refine⟨aa,bM,bM,dr,(by simp only[aK,Nat.reduceBEq, *];exact jV (n:=x[i].args.length) aa aa),?_⟩;rw[Z,S];(try simp only[cq]at *);simp only[ *,cr,bw,bH,Int.reduceEq]
   .refine⟨aa,bM,bM,dr,tw,?_⟩;have hje:j=x[i].args.length:=r3;rw[hje,gy,wD]at Z;rw[o,U,Z];(try simp only[cq]at *);simp only[ *,cr,bw,bH,Int.reduceEq]
  all_goals
   all_goals refine qq ?_
   rw[o,U];(try simp only[cq]at *);simp only[ *,cr,bw,bH,Int.reduceEq]
 .all_goals refine qq ?_
  rw[o,show i=x.length by simp at z;omega];simp[eV])
def fB(p:Pr):qm:=[.agg p.cells]
def pi(x y:Pr)(h:fB x=fB y):x=y:=by simp only[fB,ew,AV.agg.injEq,bb]at h;exact Pr.inj h
noncomputable def Kv:En:=⟨143,false,bS (fun x=>a6 x.1+x.2<2^60) sg tC⟩
def Wv:cS prog ρ Kv:=cZ fun x hx=>Wt ρ x hx
noncomputable def Kw:En:=⟨144,false,bS (fun x=>a6 x<2^60) lP fun x=>.bool (eV x)⟩
def Ww:cS prog ρ Kw:=cZ fun x hx=>Wu ρ x hx
def mX(f:Fu):Bool:=decide ((6:Int)<f.params.length)||decide ((8:Int)<f.ah.length)||decide ((200:Int)<b9 f.body)||decide ((16:Int)<dB f.body)||decide ((20:Int)<eA f.body 0)||eV f.body||decide ((20:Int)<cG f.value)
def pj(a:Ar):Bool:=decide (a.len<1)||decide (16<a.len)
def i6(p:Pr):Bool:=decide ((4:Int)<p.af.length)||decide ((8:Int)<p.funcs.length)||p.af.any pj||p.funcs.any mX
noncomputable def yW:qu:=[yV,Kv,Kw]
def Wx:eU prog ρ yW:=⟨Ku ρ,Wv ρ,Ww ρ,trivial⟩
theorem Wy(p:Pr)(hz:p.sz<2^60):bJ prog ρ 93 [.agg p.cells] (.bool (i6 p)):=eG fit (pls:=pls) (Wx ρ) (.cons (.agg p.pure) .nil) (.bool _) (by
 have hw:zc7 (aF pls yW) 93:=dZ (fun _=>rfl) rfl;have kd:∀y:Ex,y.sz<2^60->∀H,aU prog (aF pls yW) 145 [.agg y.cells] H fun v H'=>v=.int .i64 (cG y)/\H'=H:=fun y F H=>cp (enc:=i4) (out:=fun x=>.int .i64 (cG x)) ph (x:=y) rfl F;have kt:∀y:qt,a6 y<2^60->∀H,aU prog (aF pls yW) 144 [.ai (y.map St.cells)] H fun v H'=>v=.bool (eV y)/\H'=H:=fun y F H=>cp (enc:=lP) (out:=fun x=>.bool (eV x)) wH (x:=y) rfl F;have kc:∀y:qt,a6 y<2^60->∀H,aU prog (aF pls yW) 143 [.ai (y.map St.cells),.int .i64 0] H fun v H'=>v=.aW [.int .i64 (b9 y),.int .i64 (dB y),.int .i64 (eA y 0)]/\H'=H:=fun y F H=>cp (enc:=sg) (out:=tC) Fq (x:=(y,0)) rfl oL;have hpz:p.sz=1+ez p.af+dY p.funcs:=rfl;have hla:=lJ p.af;have hlf:=lI p.funcs;refine a5 (M:=94) (rs:=[.tmp 2]) (hw.call _) hw.ao hw.am func93 rfl rfl Kt.2 rfl ?_;dsimp only[Kt,a3,Nat.reduceAdd];repeat' (first
  |(apply ai ?_;clear hK K)|apply Rx.o ?_|apply aN ?_|(apply aX (fun C Y=>?_) (fun C Y=>?_)<;>try(cases C;done))|(apply aE (fun z V=>?_) (fun z V=>?_)<;>try(cases z;done))|apply ae ?_|(apply ah fun K hK=>?_)|apply aj ?_|apply ak ?_|apply am ?_|apply ax ?_)
 all_goals (first|(refine⟨aC,_,aJ,?_⟩;(try simp only[aB]);rw[i6];(try simp only[cq]at *);simp only[ *,cr,bw,bH,Int.reduceEq];done)|skip)
 .refine dG [1] [0] 3 p.af.length (fun i E H=>p.af.any pj=(p.af.drop i).any pj) eE aI ?_;rintro i E A hi O J I o m;(try simp only[bL,bK,bb,aK,aW,Nat.reduceBEq,Nat.reduceAdd,Nat.reduceLeDiff,tyF, *]at O);(try simp only[bL,bK,bb,aK,aW,Nat.reduceBEq,Nat.reduceAdd,Nat.reduceLeDiff,tyF, *]at J);(try simp only[br,bG,cR,bR,Nat.reduceAdd]at I);have hB0:(0 == A.next)=false:=ay aa;have hC0:(A.next == 0)=false:=ay aa;repeat' (first
   |(apply ai ?_;clear hK K)|apply Rx.o ?_|apply aN ?_|(apply aX (fun C Y=>?_) (fun C Y=>?_)<;>try(cases C;done))|(apply aE (fun z V=>?_) (fun z V=>?_)<;>try(cases z;done))|apply ae ?_|(apply ah fun K hK=>?_)|apply aj ?_|apply ak ?_|apply am ?_|apply ax ?_)
  .have Z:i<p.af.length:=by simpa using z
   have hgx:p.af[i]?=some p.af[i]:=bt Z;have j:(p.af.drop i).any pj=(pj p.af[i]||(p.af.drop (i+1)).any pj):=E5;rw[pj]at j;repeat' (first
    |(apply ai ?_;clear hK K)|apply Rx.o ?_|apply aN ?_|(apply aX (fun C Y=>?_) (fun C Y=>?_)<;>try(cases C;done))|(apply aE (fun z V=>?_) (fun z V=>?_)<;>try(cases z;done))|apply ae ?_|(apply ah fun K hK=>?_)|apply aj ?_|apply ak ?_|apply am ?_|apply ax ?_)
   all_goals (first|(refine⟨aC,_,aJ,?_⟩;(try simp only[aB]);rw[i6,m,j];(try simp only[cq]at *);simp only[ *,cr,bw,bH,Int.reduceEq];done)|skip)
   refine⟨aa,bM,bM,dr,vd,?_⟩;rw[m,j];(try simp only[cq]at *);simp only[ *,cr,bw,bH,Int.reduceEq]
  .have S:i=p.af.length:=by simp at z;omega
   rw[S,gy,wD]at m;clear z S o hi;refine dG [1] [0] 4 p.funcs.length (fun i E H=>p.funcs.any mX=(p.funcs.drop i).any mX) eE aI ?_;rintro i E A hi O J I o U;(try simp only[bL,bK,bb,aK,aW,Nat.reduceBEq,Nat.reduceAdd,Nat.reduceLeDiff,tyF, *]at O);(try simp only[bL,bK,bb,aK,aW,Nat.reduceBEq,Nat.reduceAdd,Nat.reduceLeDiff,tyF, *]at J);(try simp only[br,bG,cR,bR,Nat.reduceAdd]at I);have hB0:(0 == A.next)=false:=ay aa;have hC0:(A.next == 0)=false:=ay aa;repeat' (first
    |(apply ai ?_;clear hK K)|apply Rx.o ?_|apply aN ?_|(apply aX (fun C Y=>?_) (fun C Y=>?_)<;>try(cases C;done))|(apply aE (fun z V=>?_) (fun z V=>?_)<;>try(cases z;done))|apply ae ?_|(apply ah fun K hK=>?_)|apply aj ?_|apply ak ?_|apply am ?_|apply ax ?_)
   .have Z:i<p.funcs.length:=by simpa using z
    have hgx:p.funcs[i]?=some p.funcs[i]:=bt Z;have j:(p.funcs.drop i).any mX=(mX p.funcs[i]||(p.funcs.drop (i+1)).any mX):=E5;rw[mX]at j;have hsm:=nX (ek Z);have hsz:p.funcs[i].sz=1+p.funcs[i].name.length+db p.funcs[i].params+db p.funcs[i].ah+a6 p.funcs[i].body+p.funcs[i].value.sz:=rfl;repeat' (first
     |(apply ai ?_;clear hK K)|apply Rx.o ?_|apply aN ?_|(apply dJ ?_;first|refine aY (kd _ aa _) ?_|refine aY (kt _ aa _) ?_|refine aY (kc _ aa _) ?_)|(apply aX (fun C Y=>?_) (fun C Y=>?_)<;>try(cases C;done))|(apply aE (fun z V=>?_) (fun z V=>?_)<;>try(cases z;done))|apply ae ?_|(apply ah fun K hK=>?_)|apply aj ?_|apply ak ?_|apply am ?_|apply ax ?_)
    all_goals (first|(refine⟨aC,_,aJ,?_⟩;(try simp only[aB]);rw[i6,m,U,j];(try simp only[cq]at *);simp only[ *,cr,bw,bH,Int.reduceEq];done)|skip)
    refine⟨aa,bM,bM,dr,o0,?_⟩;rw[U,j];(try simp only[cq]at *);simp only[ *,cr,bw,bH,Int.reduceEq]
   .all_goals refine qq ?_
    have S:i=p.funcs.length:=r3;rw[S,gy,wD]at U;rw[i6,m,U];(try simp only[cq]at *);simp only[ *,cr,bw,bH,Int.reduceEq])
end
section
def BP(d:Nat)(h:d<2^60):bA ((d:Int)+1)=((d+1:Nat):Int):=by unfold bA;rw[k3 aa aa];omega
mutual
theorem Kx:∀(x:Ex) (d:Nat),d<=21->lF r2 x d=decide (d+cG x<=20)
 | .mk k n s o M,d,hd=>by
   rw[lF,r2,cG];by_cases h:d<=20
   .rw[BP d aa,Ky M d h];simp only[show decide ((d:Int)<=20)=true by simpa using (by omega:(d:Int)<=20),iV]
   .have j:decide ((d:Int)<=20)=false:=by simp;omega
    rw[j,mc];symm;simp;omega
theorem Ky:∀(l:qz) (d:Nat),d<=20->iK r2 l ((d+1:Nat):Int)=decide (d+iM l<=20)
 |[],d,hd=>by rw[iK,iM];symm;simpa using hd
 |e::es,d,hd=>by
  rw[iK,Kx e (d+1) aa,Ky es d hd,iM];by_cases j:d+1+cG e<=20<;>by_cases m:d+iM es<=20;all_goals simp only[j,m,JO,jl,JN,mc]
  all_goals (symm;simp;omega)
end
def Fs(x:Ex):lF r2 x 0=!decide ((20:Int)<cG x):=by
 have:=Kx x 0 aa;rw[show((0:Nat):Int)=0 from rfl]at this;rw[this];by_cases h:cG x<=20
 .have:¬(20:Int)<cG x:=by omega
  simp[h,this]
 .have:(20:Int)<cG x:=by omega
  simp[h,this]
theorem Kz:∀(l:qz),iK r2 l 0=!(l.any fun e=>decide ((20:Int)<cG e))
 |[]=>rfl
 |e::es=>by rw[iK,Fs,Kz es,oc,wF]
mutual
theorem Wz:∀(x:St) (d:Int),jX (nY r2) x d ()=(!k4 x,())
 | .mk k C S n a v j U V,d=>by
   rw[jX,nY,k4];simp only[St.aL,St.value,St.args,Fs,Kz];cases Z:decide ((20:Int)<cG a)
   .cases m:decide ((20:Int)<cG v)
    .cases A:j.any fun e=>decide ((20:Int)<cG e)
     .simp only[l4,jl,iV,BQ U];cases O:eV U
      .simp only[l4,BQ V,nW,nP]
      .simp
     .simp
    .simp
   .simp
theorem BQ:∀(l:qt) (d:Int),eO (nY r2) l d ()=(!eV l,())
 |[],_=>rfl
 |x::l,d=>by
  rw[eO,Wz x,eV];cases h:k4 x
  .simp only[l4,BQ l,nP]
  .simp
end
def tD(k:Int):Nat:=if k=4 then 1 else 0
def WA(x:St)(d n l:Nat)(I:n<2^60)(K:l<2^60):mT x d ((n:Int),(l:Int))=(decide ((d:Int)<=20)&&decide (((n+1:Nat):Int)<=200)&&decide (((l+tD x.ag:Nat):Int)<=16),(((n+1:Nat):Int),((l+tD x.ag:Nat):Int))):=by
 have J:(if x.ag=4 then bA ((l:Int)+1)else (l:Int))=((l+tD x.ag:Nat):Int):=by
  unfold tD;split
  .rw[BP l aa]
  .rfl
 unfold mT;simp only[BP n aa,J]
mutual
theorem WB:∀(x:St) (d n l:Nat),d<=21->n<=200->l<=16 ->
 ((i5 x d<=20/\n+dl x<=200/\l+ct x<=16)->jX mT x d ((n:Int),(l:Int))=(true,(((n+dl x:Nat):Int),((l+ct x:Nat):Int)))) /\
 (¬(i5 x d<=20/\n+dl x<=200/\l+ct x<=16)->(jX mT x d ((n:Int),(l:Int))).1=false)
 | .mk k C S A a v j U V,d,n,l,hd,hn,hl=>by
   have F:tD (St.mk k C S A a v j U V).ag<=1:=by unfold tD;split<;>omega
   have o:ct (.mk k C S A a v j U V)=tD (St.mk k C S A a v j U V).ag+dB U+dB V:=by rw[ct];rfl
   rw[jX,WA _ _ _ _ aa aa,o];obtain⟨z,O⟩:∃z,tD (St.mk k C S A a v j U V).ag=z:=⟨_,rfl⟩;rw[O]at F⊢;clear O o;simp only[BP d aa,i5,dl];by_cases I:d<=20/\n+1<=200/\l+z<=16
   .have Z:(decide ((d:Int)<=20)&&decide (((n+1:Nat):Int)<=200)&&decide (((l+z:Nat):Int)<=16))=true:=by
     rw[cN,cN];refine⟨⟨?_,?_⟩,?_⟩<;>apply mU<;>omega
    rw[Z];simp only[];have t:=BR U (d+1) (n+1) (l+z) aa aa aa;by_cases Y:eA U (d+1)<=20/\n+1+b9 U<=200/\l+z+dB U<=16
    .rw[t.1 Y];simp only[];have u:=BR V (d+1) (n+1+b9 U) (l+z+dB U) aa aa aa;by_cases m:eA V (d+1)<=20/\n+1+b9 U+b9 V<=200/\l+z+dB U+dB V<=16
     .rw[u.1 m];refine⟨fun _=>?_,fun h=>(h ⟨aa,aa,aa⟩).elim⟩;rw[show n+1+b9 U+b9 V=n+(1+b9 U+b9 V) by omega,show l+z+dB U+dB V=l+(z+dB U+dB V) by omega]
     .refine⟨fun h=>(m ⟨aa,aa,aa⟩).elim,fun _=>u.2 m⟩
    .refine⟨fun h=>(Y ⟨aa,aa,aa⟩).elim,fun _=>?_⟩;have:=t.2 Y;generalize eO mT U _ _=r at this⊢;obtain⟨b,s⟩:=r;simp only at this;subst this;rfl
   .have Z:(decide ((d:Int)<=20)&&decide (((n+1:Nat):Int)<=200)&&decide (((l+z:Nat):Int)<=16))=false:=by
     rw[<-r7,cN,cN];rintro⟨⟨b7,ci⟩,bX⟩;have b7:=pZ b7;have ci:=pZ ci;have bX:=pZ bX;exact I ⟨aa,aa,aa⟩
    rw[Z];exact⟨fun h=>(I ⟨aa,aa,aa⟩).elim,fun _=>rfl⟩
theorem BR:∀(x:qt) (d n l:Nat),d<=21->n<=200->l<=16 ->
 ((eA x d<=20/\n+b9 x<=200/\l+dB x<=16)->eO mT x d ((n:Int),(l:Int))=(true,(((n+b9 x:Nat):Int),((l+dB x:Nat):Int)))) /\
 (¬(eA x d<=20/\n+b9 x<=200/\l+dB x<=16)->(eO mT x d ((n:Int),(l:Int))).1=false)
 |[],d,n,l,hd,hn,hl=>by
  rw[eO,eA,b9,dB];exact⟨fun _=>rfl,fun h=>(h ⟨aa,aa,aa⟩).elim⟩
 |x::r,d,n,l,hd,hn,hl=>by
  rw[eO,eA,b9,dB];have t:=WB x d n l hd hn hl;by_cases j:i5 x d<=20/\n+dl x<=200/\l+ct x<=16
  .rw[t.1 j];simp only[];have u:=BR r d (n+dl x) (l+ct x) hd aa aa;by_cases m:eA r d<=20/\n+dl x+b9 r<=200/\l+ct x+dB r<=16
   .rw[u.1 m];refine⟨fun _=>?_,fun h=>(h ⟨aa,aa,aa⟩).elim⟩;rw[show n+dl x+b9 r=n+(dl x+b9 r) by omega,show l+ct x+dB r=l+(ct x+dB r) by omega]
   .exact⟨fun h=>(m ⟨aa,aa,aa⟩).elim,fun _=>u.2 m⟩
  .refine⟨fun h=>(j ⟨aa,aa,aa⟩).elim,fun _=>?_⟩;have:=t.2 j;generalize jX mT x _ _=r at this⊢;obtain⟨b,s⟩:=r;simp only at this;subst this;rfl
end
def WC(x:qt):(eO mT x 0 (0,0)).1=(!decide ((200:Int)<b9 x) && !decide ((16:Int)<dB x) && !decide ((20:Int)<eA x 0)):=by
 have t:=BR x 0 0 0 aa aa aa;rw[show((0:Nat):Int)=0 from rfl]at t;simp only[bR]at t;by_cases h:eA x 0<=20/\b9 x<=200/\dB x<=16
 .rw[t.1 h];have j:¬(200:Int)<b9 x:=aa;have m:¬(16:Int)<dB x:=aa;have A:¬(20:Int)<eA x 0:=aa;simp[j,m,A]
 .rw[t.2 h]
  symm
  rw[<-r7,cN,cN];rintro⟨⟨b7,ci⟩,bX⟩;simp only[th,iX]at b7 ci bX;exact h ⟨aa,aa,aa⟩
theorem WD(f:Fu):jq f=!mX f:=by
 rw[jq,mX,nZ,WC,Fs,BQ];have j:decide ((f.params.length:Int)<=6)=!decide ((6:Int)<f.params.length):=by
  by_cases h:(6:Int)<f.params.length
  .have:¬(f.params.length:Int)<=6:=by omega
   simp[h,this]
  .have:(f.params.length:Int)<=6:=by omega
   simp[h,this]
 have m:decide ((f.ah.length:Int)<=8)=!decide ((8:Int)<f.ah.length):=by
  by_cases h:(8:Int)<f.ah.length
  .have:¬(f.ah.length:Int)<=8:=by omega
   simp[h,this]
  .have:(f.ah.length:Int)<=8:=by omega
   simp[h,this]
 rw[j,m];simp only[wF];generalize (!decide ((6:Int)<f.params.length))=a;generalize (!decide ((8:Int)<f.ah.length))=b;generalize (!decide ((200:Int)<b9 f.body))=c;generalize (!decide ((16:Int)<dB f.body))=d;generalize (!decide ((20:Int)<eA f.body 0))=e;generalize (!eV f.body)=g;generalize (!decide ((20:Int)<cG f.value))=h;cases a<;>cases b<;>cases c<;>cases d<;>cases e<;>cases g<;>cases h<;>rfl
theorem KA{A:Type}(l:List A)(p q:A->Bool)(h:∀x,p x=!q x):l.all p=!l.any q:=by
 induction l with
 |nil=>rfl
 |cons a l ih=>rw[r4,oc,wF,h,ih]
def WE(p:Pr):kA p=!i6 p:=by
 rw[kA,i6,KA p.funcs jq mX WD,KA p.af _ pj (fun a=>by rw[pj,wF])];simp only[wF]
def tyR3d.tyF:=ac @dF (ac @cI (ac @cY (ac @dX (ac @dy (ac @dR (@eD))))))
open tyR3d
noncomputable def KB:{c:SC // aG 128 (f147.body.getD .skip)=c}:=by
 refine⟨?_,?_⟩;rotate_left
 .simp only[f147,bE,aG,bz,bq,bF,bB,Nat.blt,Nat.ble];rfl
noncomputable def KC:{c:SC // aG 27 (f208.body.getD .skip)=c}:=by
 refine⟨?_,?_⟩;rotate_left
 .simp only[f208,bE,aG,bz,bq,bF,bB,Nat.blt,Nat.ble];rfl
def ml(x:Ex):Bool:=
 if x.ag=1 then decide ((x.ak.length:Int)=0)&&decide (x.name=[])&&decide (x.op=0)
 else if x.ag=2 then decide ((x.ak.length:Int)=0)&&decide (x.n=0)&&decide (x.op=0)&&cX x.name
 else if x.ag=3 then decide ((x.ak.length:Int)=1)&&decide (x.n=0)&&decide (x.op=0)&&cX x.name
 else if x.ag=4 then decide (x.n=0)&&decide (x.name=[])&&((decide ((x.ak.length:Int)=2)&&p9 x.op)||(decide ((x.ak.length:Int)=1)&&(decide (x.op=20)||decide (x.op=21))))
 else if x.ag=5 then decide ((x.ak.length:Int)=3)&&decide (x.n=0)&&decide (x.name=[])&&decide (x.op=0)
 else false
mutual
def eB:Ex->Bool
 | .mk k n s o M=>eh M&&ml (.mk k n s o M)
def eh:qz->Bool
 |[]=>true
 |e::es=>eB e&&eh es
end
theorem Ft(x:Ex):eB x=(eh x.ak&&ml x):=by cases x;rw[eB];rfl
noncomputable def BS:En:=⟨40,false,bS (fun s=>s.length<2^60) md fun s=>.bool (cX s)⟩
def Fv:cS prog ρ BS:=cZ fun x hx=>We ρ x hx
noncomputable def KD:En:=⟨187,false,bS (fun _=>True) (fun n:Int=>[.int .i64 n]) fun n=>.bool (p9 n)⟩
def WF:cS prog ρ KD:=cZ fun x _=>V7 ρ x
def Fw(x y:Int)(h:([.int .i64 x]:qm)=[.int .i64 y]):x=y:=fQ
noncomputable def yX:En:=⟨207,false,bS (fun _=>True) i4 fun x=>.bool (zeroE x)⟩
def KE:cS prog ρ yX:=cZ fun x _=>V8 ρ x
noncomputable def Fx:qu:=[BS,KD]
def WG:eU prog ρ Fx:=⟨Fv ρ,WF ρ,trivial⟩
def WH:∀x:Ex,x.sz<2^60->bJ prog ρ 147 (i4 x) (.bool (eB x)):=
 u7 fit (pls:=pls) (WG ρ) (fun x=>x.sz) (ok:=fun x=>x.sz<2^60) (enc:=i4) (out:=fun x=>.bool (eB x)) (fun x _=>.cons (.agg x.pure) .nil) (fun x _=>.bool _) (fun x hx=>by
 have U:=sa (sz:=fun x:Ex=>x.sz) (ok:=fun x=>x.sz<2^60) (out:=fun x=>.bool (eB x)) ph (f:=147) (l:=Fx) x;generalize F:(⟨147,false,bS (fun y=>y.sz<2^60/\y.sz<x.sz) i4 fun x=>.bool (eB x)⟩:En)::Fx=l at U⊢;have kr:∀y:Ex,y.sz<x.sz->∀H,aU prog (aF pls l) 147 [.agg y.cells] H fun v H'=>v=.bool (eB y)/\H'=H:=fun y h2 H=>by
  subst F;exact cp (enc:=i4) (out:=fun x=>.bool (eB x)) ph (x:=y) rfl ⟨aa,h2⟩
 have kv:∀s:qr,s.length<2^60->∀H,aU prog (aF pls l) 40 [.ae s] H fun v H'=>v=.bool (cX s)/\H'=H:=fun s h1 H=>by
  subst F;exact cp (enc:=md) (out:=fun x=>.bool (cX x)) vh (x:=s) rfl h1
 have kb:∀n:Int,∀H,aU prog (aF pls l) 187 [.int .i64 n] H fun v H'=>v=.bool (p9 n)/\H'=H:=fun n H=>by
  subst F;exact cp (enc:=fun n:Int=>[.int .i64 n]) (out:=fun x=>.bool (p9 x)) Fw (x:=n) rfl trivial
 have hsz:=x.aJ;have hlen:=lH x.ak;change aU _ _ _ [.agg x.cells] _ _;refine a5 (M:=128) (rs:=[.tmp 2]) U.call U.ao U.am func147 rfl rfl KB.2 rfl ?_;dsimp only[KB,a3,Nat.reduceAdd];repeat' (first
  |(apply ai ?_;clear hK K)|apply Rx.o ?_|apply cW ?_|(apply aX (fun C Y=>?_) (fun C Y=>?_)<;>try(cases C;done))|(apply aE (fun z V=>?_) (fun z V=>?_)<;>try(cases z;done))|apply ae ?_|(apply ah fun K hK=>?_)|apply aj ?_|apply ak ?_|apply am ?_|apply ax ?_)
 refine dG [1] [0] 3 x.ak.length (fun i E H=>eh x.ak=eh (x.ak.drop i)) eE aI ?_;rintro i E m hi S O I hsI J;(try simp only[bL,bK,bb,aK,aW,Nat.reduceBEq,Nat.reduceAdd,Nat.reduceLeDiff,tyF, *]at S);(try simp only[bL,bK,bb,aK,aW,Nat.reduceBEq,Nat.reduceAdd,Nat.reduceLeDiff,tyF, *]at O);(try simp only[br,bG,cR,bR,Nat.reduceAdd]at I);have hB0:(0 == m.next)=false:=ay aa;have hC0:(m.next == 0)=false:=ay aa;repeat' (first
  |(apply ai ?_;clear hK K)|apply Rx.o ?_|(apply dJ ?_;first|refine aY (kv _ aa _) ?_|refine aY (kb _ _) ?_)|apply cW ?_|(apply aX (fun C Y=>?_) (fun C Y=>?_)<;>try(cases C;done))|(apply aE (fun z V=>?_) (fun z V=>?_)<;>try(cases z;done))|apply ae ?_|(apply ah fun K hK=>?_)|apply aj ?_|apply ak ?_|apply am ?_|apply ax ?_)
 .have Z:i<x.ak.length:=by simpa using z
  have hgx:x.ak[i]?=some x.ak[i]:=bt Z;have hm:=lK (ek Z);have j:eh (x.ak.drop i)=(eB x.ak[i]&&eh (x.ak.drop (i+1))):=pX;repeat' (first
   |(apply ai ?_;clear hK K)|apply Rx.o ?_|(apply dJ ?_;first|refine aY (kr _ aa _) ?_)|apply cW ?_|(apply aX (fun C Y=>?_) (fun C Y=>?_)<;>try(cases C;done))|(apply aE (fun z V=>?_) (fun z V=>?_)<;>try(cases z;done))|apply ae ?_|(apply ah fun K hK=>?_)|apply aj ?_|apply ak ?_|apply am ?_|apply ax ?_)
  all_goals (first|(refine⟨aC,_,aJ,?_⟩;(try simp only[aB]);rw[Ft,J,j];(try simp only[cq]at *);simp only[ *,cr,bw,bH,Int.reduceEq];done)|skip)
  refine⟨aa,bM,bM,dr,E7,?_⟩;rw[J,j];(try simp only[cq]at *);simp only[ *,cr,bw,bH,Int.reduceEq]
 all_goals
  have A:i=x.ak.length:=aa;rw[A,gy]at J;have o:eh x.ak=true:=J;clear J;all_goals refine qq ?_
  rw[Ft,o,ml];(try simp only[cq]at *);simp only[ *,cr,bw,bH,Int.reduceEq])
end
section
def tyR3e.tyF:=ac @dF (ac @cI (ac @cY (ac @dR (ac @dX (ac @dy (@eD))))))
open tyR3e
noncomputable def KF:{c:SC // aG 202 (f186.body.getD .skip)=c}:=by
 refine⟨?_,?_⟩;rotate_left
 .simp only[f186,bE,aG,bz,bq,bF,bB,Nat.blt,Nat.ble];rfl
def oq(x:St):Bool:=decide (x.name=[])&&decide (x.to=[])&&decide (x.n=0)&&zeroE x.aL&&decide ((x.args.length:Int)=0)
def ou(x:St):Bool:=decide ((x.a1.length:Int)=0)&&decide ((x.bh.length:Int)=0)
def mn(x:St):Bool:=
 if x.ag=1 then ou x&&cX x.name&&decide (x.to=[])&&decide (x.n=0)&&zeroE x.aL&&decide ((x.args.length:Int)=0)&&eB x.value
 else if x.ag=2 then ou x&&cX x.name&&decide (x.to=[])&&decide (x.n=0)&&eB x.aL&&decide ((x.args.length:Int)=0)&&eB x.value
 else if x.ag=3 then oq x&&eB x.value
 else if x.ag=4 then oq x&&eB x.value&&decide ((x.bh.length:Int)=0)
 else if x.ag=5 then ou x&&oq x&&eB x.value
 else if x.ag=6 then ou x&&cX x.name&&cX x.to&&decide (x.n=0)&&zeroE x.aL&&zeroE x.value
 else if x.ag=7 then ou x&&decide (x.name=[])&&decide (x.to=[])&&decide (0<=x.n)&&decide (x.n<=1000000)&&zeroE x.aL&&zeroE x.value&&decide ((x.args.length:Int)=0)
 else false
def iN(x:St):Bool:=eh x.args&&mn x
def vl(x:St):qm:=[.agg x.cells]
def KG(x y:St)(h:vl x=vl y):x=y:=by simp only[vl,ew,AV.agg.injEq,bb]at h;exact St.inj h
def WI(x:St):bJ prog ρ 208 [.agg x.cells] (.bool (oq x)):=eG fit (pls:=pls) (l:=[yX]) ⟨KE ρ,trivial⟩ (.cons (.agg x.pure) .nil) (.bool _) (by
 have J:zc7 (aF pls [yX]) 208:=dZ (fun _=>rfl) rfl;have O:∀y:Ex,∀H,aU prog (aF pls [yX]) 207 [.agg y.cells] H fun v H'=>v=.bool (zeroE y)/\H'=H:=fun y H=>cp (enc:=i4) (out:=fun x=>.bool (zeroE x)) ph (x:=y) rfl trivial;refine a5 (M:=27) (rs:=[.tmp 2]) (J.call _) J.ao J.am func208 rfl rfl KC.2 rfl ?_;dsimp only[KC,a3,Nat.reduceAdd];repeat' (first
  |(apply ai ?_;clear hK K)|apply Rx.o ?_|(apply dJ ?_;first|refine aY (O _ _) ?_)|(apply aX (fun C Y=>?_) (fun C Y=>?_)<;>try(cases C;done))|apply ae ?_|(apply ah fun K hK=>?_)|apply am ?_)
 all_goals
  all_goals refine qq ?_
  rw[oq];(try simp only[cq]at *);simp only[ *,cr,bw,bH,Int.reduceEq])
noncomputable def KH:En:=⟨208,false,bS (fun _=>True) vl fun x=>.bool (oq x)⟩
def WJ:cS prog ρ KH:=cZ fun x _=>WI ρ x
noncomputable def Fy:En:=⟨147,false,bS (fun x=>x.sz<2^60) i4 fun x=>.bool (eB x)⟩
def KI:cS prog ρ Fy:=cZ fun x hx=>WH ρ x hx
noncomputable def wI:qu:=[BS,yX,KH,Fy]
def WK:eU prog ρ wI:=⟨Fv ρ,KE ρ,WJ ρ,KI ρ,trivial⟩
def WL(x:St)(hx:x.sz<2^60):bJ prog ρ 186 [.agg x.cells] (.bool (iN x)):=eG fit (pls:=pls) (WK ρ) (.cons (.agg x.pure) .nil) (.bool _) (by
 have F:zc7 (aF pls wI) 186:=dZ (fun _=>rfl) rfl;have kz:∀y:Ex,∀H,aU prog (aF pls wI) 207 [.agg y.cells] H fun v H'=>v=.bool (zeroE y)/\H'=H:=fun y H=>cp (enc:=i4) (out:=fun x=>.bool (zeroE x)) ph (x:=y) rfl trivial;have ko:∀y:St,∀H,aU prog (aF pls wI) 208 [.agg y.cells] H fun v H'=>v=.bool (oq y)/\H'=H:=fun y H=>cp (enc:=vl) (out:=fun x=>.bool (oq x)) KG (x:=y) rfl trivial;have kv:∀s:qr,s.length<2^60->∀H,aU prog (aF pls wI) 40 [.ae s] H fun v H'=>v=.bool (cX s)/\H'=H:=fun s U H=>cp (enc:=md) (out:=fun x=>.bool (cX x)) vh (x:=s) rfl U;have kw:∀y:Ex,y.sz<2^60->∀H,aU prog (aF pls wI) 147 [.agg y.cells] H fun v H'=>v=.bool (eB y)/\H'=H:=fun y U H=>cp (enc:=i4) (out:=fun x=>.bool (eB x)) ph (x:=y) rfl U;have hsz:=x.aJ;have hlen:=lH x.args;refine a5 (M:=202) (rs:=[.tmp 2]) (F.call _) F.ao F.am func186 rfl rfl KF.2 rfl ?_;dsimp only[KF,a3,Nat.reduceAdd];repeat' (first
  |(apply ai ?_;clear hK K)|apply Rx.o ?_|(apply aX (fun C Y=>?_) (fun C Y=>?_)<;>try(cases C;done))|(apply aE (fun z V=>?_) (fun z V=>?_)<;>try(cases z;done))|apply ae ?_|(apply ah fun K hK=>?_)|apply aj ?_|apply ak ?_|apply am ?_|apply ax ?_)
 refine dG [1] [0] 3 x.args.length (fun i E H=>eh x.args=eh (x.args.drop i)) eE aI ?_;rintro i E m hi S O I hsI J;(try simp only[bL,bK,bb,aK,aW,Nat.reduceBEq,Nat.reduceAdd,Nat.reduceLeDiff,tyF, *]at S);(try simp only[bL,bK,bb,aK,aW,Nat.reduceBEq,Nat.reduceAdd,Nat.reduceLeDiff,tyF, *]at O);(try simp only[br,bG,cR,bR,Nat.reduceAdd]at I);have hB0:(0 == m.next)=false:=ay aa;have hC0:(m.next == 0)=false:=ay aa;repeat' (first
  |(apply ai ?_;clear hK K)|apply Rx.o ?_|(apply dJ ?_;first|refine aY (kv _ aa _) ?_|refine aY (kz _ _) ?_|refine aY (ko _ _) ?_|refine aY (kw _ aa _) ?_)|(apply aX (fun C Y=>?_) (fun C Y=>?_)<;>try(cases C;done))|(apply aE (fun z V=>?_) (fun z V=>?_)<;>try(cases z;done))|apply ae ?_|(apply ah fun K hK=>?_)|apply aj ?_|apply ak ?_|apply am ?_|apply ax ?_)
 .have Z:i<x.args.length:=by simpa using z
  have hgx:x.args[i]?=some x.args[i]:=bt Z;have hm:=lK (ek Z);have j:eh (x.args.drop i)=(eB x.args[i]&&eh (x.args.drop (i+1))):=pX;repeat' (first
   |(apply ai ?_;clear hK K)|apply Rx.o ?_|(apply dJ ?_;first|refine aY (kw _ aa _) ?_)|(apply aX (fun C Y=>?_) (fun C Y=>?_)<;>try(cases C;done))|(apply aE (fun z V=>?_) (fun z V=>?_)<;>try(cases z;done))|apply ae ?_|(apply ah fun K hK=>?_)|apply aj ?_|apply ak ?_|apply am ?_|apply ax ?_)
  all_goals (first|(refine⟨aC,_,aJ,?_⟩;(try simp only[aB]);rw[iN,J,j];(try simp only[cq]at *);simp only[ *,cr,bw,bH,Int.reduceEq];done)|skip)
  refine⟨aa,bM,bM,dr,E8,?_⟩;rw[J,j];(try simp only[cq]at *);simp only[ *,cr,bw,bH,Int.reduceEq]
 all_goals
  have A:i=x.args.length:=aa;rw[A,gy]at J;have o:eh x.args=true:=J;clear J;all_goals refine qq ?_
  rw[iN,o,mn,ou];(try simp only[cq]at *);simp only[ *,cr,bw,bH,Int.reduceEq])
end
end Go.Proofs.YtbflaciihaijgaaGreat
