/- Lemmas for the last file. -/
import Derived.Test.YtbflaciihaijgaaGEF
set_option linter.all false
set_option maxHeartbeats 32000000
namespace Go.Ab
set_option maxRecDepth 20000
open Go
variable{qd:Prop}
def FL(h:qd:=by simp only[bN,bO,and_true,aM,a0,Nat.reduceBEq,Nat.reduceAdd,Nat.reduceLeDiff,tyF,kV, *]):=h
def BH(h:qd:=by rw[L r ⟨_,rfl⟩];exact Z):=h
def BI(h:qd:=by have:=List.length_pos_iff.2 J;omega):=h
def jr(h:qd:=by rw[O];omega):=h
def pK(h:qd:=by simp[M]):=h
def fx(h:qd:=by rw[aJ,if_pos rfl];rfl):=h
def kU(h:qd:=by simp only[rN];omega):=h
def FM(h:qd:=by rw[List.drop_zero,List.length_take];omega):=h
def FN(h:qd:=by rw[List.flatten_append,List.length_append];omega):=h
def aZ(h:qd:=by decide):=h
def tJ(h:qd:=by rw[List.length_map,show cX=70368744177664 from rfl];omega):=h
def eh(h:qd:=by simp only[bj];omega):=h
def FO(h:qd:=by rw[Nat.add_zero,Nat.zero_add];exact hwn.symm):=h
def yo(h:qd:=by show O=j+1+cq (s.drop (i+j+1));omega):=h
def vH(h:qd:=by rw[<- I,Hp.get_set,if_pos rfl]):=h
def BJ(h:qd:=by rw[xN,gd];kernel_rfl):=h
def BK(h:qd:=by rw[List.mem_singleton]at hr;subst hr;exact g60):=h
def BL(h:qd:=by rw[List.length_append];show l1.length+1<=_;omega):=h
def BM(h:qd:=by rw[List.append_assoc];exact hl):=h
def FP(h:qd:=by simp only[aM,Nat.reduceBEq, *];exact gp (n:=s.length) ac ac):=h
def FQ(h:qd:=by simp only[aM,Nat.reduceBEq, *];exact gp (n:=20) ac ac):=h
def FR(h:qd:=by simp only[aM,Nat.reduceBEq, *];exact gp (n:=7) ac ac):=h
def ei(h:qd:=by rw[pM ac ac];omega):=h
def FT(h:qd:=by rw[<- J,Hp.get_set,if_neg ac,aJ,if_neg ac]):=h
def BN(h:qd:=by rw[<- I];simp only[Hp.get_set];repeat rw[if_neg ac]):=h
def BO(h:qd:=by rw[o6 0 ac (z 0 (.inl rfl)),od 0 ac];exact g0):=h
def yp(h:qd:=by rw[Hp.get_set,if_neg ac]):=h
def dh:=@List.length_map
def sr:=@Bool.and_eq_false_iff
def nF:=@List.any_cons
def jI:=@Bool.false_and
def tK:=@Go.IntKind.wrap_u64
def tL:=@Go.IntKind.wrap_u8
def tM:=@List.mem_singleton
def su:=@not_or
def tN:=@Bool.or_true
def nG:=@List.drop_eq_nil_of_le
def yq:=@Bool.not_eq_true
end Go.Ab
namespace Go.Proofs.Ytbflaciihaijgaa
set_option maxRecDepth 20000
open Go Go.Ab Proofs.Try
variable(ρ:Nat->Int)
variable{H H':Hp}{v:AV}{l m:qm}{lo k r:Nat}
section
def tyR3a.tyF:=ad @oG (ad @cJ (ad @cM (ad @io (ad @kQ (ad @kR (ad @fW (ad @dJ (ad @eC (ad @kc (ad @ef (@eg)))))))))))
open tyR3a
def fy(f:FuncId):zaa (aK pls []) f:=⟨fun _=>rfl,rfl,rfl⟩
def dK{l:qs}{f:FuncId}(h1:∀C,dR l f C=none)(h2:lW l f=false):zaa (aK pls l) f:=⟨h1,h2,rfl⟩
noncomputable def FU:{c:SC // aG 21 (f52.body.getD .skip)=c}:=by
 refine⟨?_,?_⟩;rotate_left
 .simp only[f52,bK,aG,bF,bw,bH,bI,Nat.blt,Nat.ble];rfl
noncomputable def FV:{c:SC // aG 9 (f53.body.getD .skip)=c}:=by
 refine⟨?_,?_⟩;rotate_left
 .simp only[f53,bK,aG,bF,bw,bH,bI,Nat.blt,Nat.ble];rfl
noncomputable def FW:{c:SC // aG 34 (f137.body.getD .skip)=c}:=by
 refine⟨?_,?_⟩;rotate_left
 .simp only[f137,bK,aG,bF,bw,bH,bI,Nat.blt,Nat.ble];rfl
noncomputable def FX:{c:SC // aG 18 (f98.body.getD .skip)=c}:=by
 refine⟨?_,?_⟩;rotate_left
 .simp only[f98,bK,aG,bF,bw,bH,bI,Nat.blt,Nat.ble];rfl
theorem QR(n:Int):cp prog ρ 52 [.int .u8 n] (.bool (fV n)):=fI fit (pls:=pls) (l:=[]) trivial (.cons (.int _ _) .nil) (.bool _) (by
 have V:=fy 52;refine bA (M:=21) (rs:=[.tmp 2]) (V.call _) V.aF V.ak func52 rfl rfl FU.2 rfl ?_;dsimp only[FU,bt,Nat.reduceAdd];repeat' (first
  |(apply aj ?_;clear hK K)|apply Rx.o ?_|apply ip ?_|(apply bz (fun L C=>?_) (fun L C=>?_)<;>try(cases L;done))|apply ai ?_|(apply ah fun K hK=>?_)|apply au ?_)
 all_goals refine qq ?_
 all_goals (simp_all[fV]<;>omega))
theorem QS(n:Int):cp prog ρ 53 [.int .u8 n] (.bool (eW n)):=fI fit (pls:=pls) (l:=[]) trivial (.cons (.int _ _) .nil) (.bool _) (by
 have V:=fy 53;refine bA (M:=9) (rs:=[.tmp 2]) (V.call _) V.aF V.ak func53 rfl rfl FV.2 rfl ?_;dsimp only[FV,bt,Nat.reduceAdd];repeat' (first
  |(apply aj ?_;clear hK K)|apply Rx.o ?_|(apply bz (fun L C=>?_) (fun L C=>?_)<;>try(cases L;done))|apply ai ?_|(apply ah fun K hK=>?_)|apply au ?_)
 all_goals refine qq ?_
 all_goals (simp_all[eW]<;>omega))
def oH(n:Int):ql:=[.int .u8 n]
def yr(x y:Int)(h:oH x=oH y):x=y:=by simpa [oH]using h
noncomputable def tO:En:=⟨52,false,dA (fun _=>True) oH fun n=>.bool (fV n)⟩
noncomputable def tP:En:=⟨53,false,dA (fun _=>True) oH fun n=>.bool (eW n)⟩
def FY:eu prog ρ tO:=eY fun n _=>QR ρ n
def FZ:eu prog ρ tP:=eY fun n _=>QS ρ n
theorem Wq(s:qn)(hs:s.length<2^60):cp prog ρ 137 [.ag s] (.bool (j7 s)):=fI fit (pls:=pls) (l:=[tO,tP]) ⟨FY ρ,FZ ρ,trivial⟩ (.cons (.ag _) .nil) (.bool _) (by
 have hw:zaa (aK pls [tO,tP]) 137:=dK (fun _=>rfl) rfl;have kl:∀(n:Int) (H:Hp),aX prog (aK pls [tO,tP]) 52 [.int .u8 n] H fun v H'=>v=.bool (fV n)/\H'=H:=fun n H=>ev (enc:=oH) (out:=fun n=>.bool (fV n)) yr (x:=n) rfl trivial;have kd:∀(n:Int) (H:Hp),aX prog (aK pls [tO,tP]) 53 [.int .u8 n] H fun v H'=>v=.bool (eW n)/\H'=H:=fun n H=>ev (enc:=oH) (out:=fun n=>.bool (eW n)) yr (x:=n) rfl trivial;refine bA (M:=34) (rs:=[.tmp 2]) (hw.call _) hw.aF hw.ak func137 rfl rfl FW.2 rfl ?_;dsimp only[FW,bt,Nat.reduceAdd];repeat' (first
  |(apply aj ?_;clear hK K)|apply Rx.o ?_|apply ip ?_|(apply bz (fun U C=>?_) (fun U C=>?_)<;>try(cases U;done))|(apply aO (fun W L=>?_) (fun W L=>?_)<;>try(cases W;done))|apply ai ?_|(apply ah fun K hK=>?_)|apply aq ?_|apply am ?_|apply au ?_|apply aw ?_)
 refine dz [0] [] 3 s.length (fun i E H=>cq s=i+cq (s.drop i)/\(0<i->∀b,s[0]?=some b->eW b.toNat=false)) eE aE ?_;rintro i E H2 hi o m hnH hsI ⟨I,O⟩;(try simp only[bN,bO,bu,aM,a0,Nat.reduceBEq,Nat.reduceAdd,Nat.reduceLeDiff,tyF, *]at o);(try simp only[bN,bO,bu,aM,a0,Nat.reduceBEq,Nat.reduceAdd,Nat.reduceLeDiff,tyF, *]at m);(try simp only[bj,bJ,cL,bX,Nat.reduceAdd]at hnH);repeat' (first
  |(apply aj ?_;clear hK K)|apply Rx.o ?_|apply ip ?_|(apply bz (fun U C=>?_) (fun U C=>?_)<;>try(cases U;done))|(apply aO (fun W L=>?_) (fun W L=>?_)<;>try(cases W;done))|apply ai ?_|(apply ah fun K hK=>?_)|apply aq ?_|apply am ?_|apply au ?_|apply aw ?_)
 .have J:i<s.length:=by simpa using W
  have hgx:s[i]?=some s[i]:=bc J;have V:cq (s.drop i)=if ee s[i]then cq (s.drop (i+1))+1 else 0:=by rw[eM J,cq]
  repeat' (first
   |(apply aj ?_;clear hK K)|apply Rx.o ?_|(apply mK ?_;first|refine Rx.k (kl _ _) ?_|refine Rx.k (kd _ _) ?_)|apply ip ?_|(apply bz (fun U C=>?_) (fun U C=>?_)<;>try(cases U;done))|(apply aO (fun W L=>?_) (fun W L=>?_)<;>try(cases W;done))|apply ai ?_|(apply ah fun K hK=>?_)|apply aq ?_|apply am ?_|apply au ?_|apply aw ?_)
  .all_goals refine qq ?_
   have z:i=0:=ac;subst z;unfold j7;cases s<;>simp_all
  .refine⟨ac,bm,bm,cN,FP,?_⟩;have Y:ee s[i]=true:=by simp_all[ee]
   refine⟨by rw[I,V,Y];simp;omega,fun _ b Z=>O ac b Z⟩
  .all_goals refine qq ?_
   have Y:ee s[i]=false:=by simp_all[ee]
   rw[Y]at V;simp at V;unfold j7;simp[show ¬cq s=s.length by omega]
  .refine⟨ac,bm,bm,cN,FP,?_⟩;have Y:ee s[i]=true:=by simp_all[ee]
   refine⟨by rw[I,V,Y];simp;omega,fun _ b Z=>?_⟩;by_cases h0:0<i
   .exact O h0 b Z
   .have z:i=0:=by omega
    subst z;rw[hgx]at Z;have:s[0]=b:=kB;subst this;have hle:fV s[0].toNat=true:=by simp_all
    simp only[fV,eW]at *;simp only[jl,j0]at hle;simp only[sr,iL];omega
 all_goals
  have hie:i=s.length:=ac;all_goals refine qq ?_
  rw[hie]at I;simp[cq]at I;unfold j7;cases s<;>simp_all<;>omega)
def bR(l:qm)(s:qn):Bool:=l.any fun x=>decide (x=s)
def yu(op:Int):Bool:=decide (4<=op)&&decide (op<=18)
def zeroE(x:Ex):Bool:=decide (x.ah=0)&&decide (x.n=0)&&decide (x.name=[])&&decide (x.op=0)&&decide (x.aj.length=0)
def dl:qH->qn->Int->Int
 |[],_,_=>-1
 |f::l,s,i=>if f.name=s then i else dl l s (i+1)
def kV:qm:=[[97,114,114,97,121],[102,117,110,99],[118,97,114],[114,101,116,117,114,110],[105,102],[101,108,115,101],[119,104,105,108,101],[111,117,116],[116,114,97,112]]
def Ga(s:qn):bR kV s=oB s:=by
 simp only[bR,kV,oB,nF,List.any_nil,lL,<-Bool.or_assoc];simp only[eq_comm]
def QT(H:Hp)(a b c d e f g h i:qn):ec prog H 60 9 [(0,.ag a),(1,.ag b),(2,.ag c),(3,.ag d),(4,.ag e),(5,.ag f),(6,.ag g),(7,.ag h),(8,.ag i)]=some (.sl H.next 0 9 1,H.alloc (.cells ([a,b,c,d,e,f,g,h,i].map .ag) 0 true)):=aF
theorem QU(s:qn):cp prog ρ 98 [.ag s] (.bool (oB s)):=fI fit (pls:=pls) (l:=[]) trivial (.cons (.ag _) .nil) (.bool _) (by
 have I:=fy 98;refine bA (M:=18) (rs:=[.tmp 2]) (I.call _) I.aF I.ak func98 rfl rfl FX.2 rfl ?_;dsimp only[FX,bt,Nat.reduceAdd];have o:=@QT;repeat' (first
  |(apply aj ?_;clear hK K)|apply Rx.o ?_|(apply aO (fun C L=>?_) (fun C L=>?_)<;>try(cases C;done))|apply ai ?_|(apply ah fun K hK=>?_)|apply aq ?_|apply am ?_|apply au ?_|apply aw ?_)
 refine dz [0,3] [0] 4 9 (fun i E H=>bR kV s=bR (kV.drop i) s) eE aE ?_;rintro i E U hi W Z V z J;(try simp only[bN,bO,bu,aM,a0,Nat.reduceBEq,Nat.reduceAdd,Nat.reduceLeDiff,tyF, *]at W);(try simp only[bN,bO,bu,aM,a0,Nat.reduceBEq,Nat.reduceAdd,Nat.reduceLeDiff,tyF, *]at Z);(try simp only[bj,bJ,cL,bX,Nat.reduceAdd]at V);have m:(0 == U.next)=false:=bQ ac;have hC0:(U.next == 0)=false:=bQ ac;change U.get 0=some (.cells (kV.map .ag) 0 true)at Z;have hr9:kV.length=9:=rfl;repeat' (first
  |(apply aj ?_;clear hK K)|apply Rx.o ?_|(apply aO (fun C L=>?_) (fun C L=>?_)<;>try(cases C;done))|apply ai ?_|(apply ah fun K hK=>?_)|apply aq ?_|apply am ?_|apply au ?_|apply aw ?_)
 .have O:i<kV.length:=by omega
  have hgx:kV[i]?=some kV[i]:=bc O;have Y:bR (kV.drop i) s=(decide (kV[i]=s)||bR (kV.drop (i+1)) s):=by rw[eM O];rfl
  have hi9:decide (i<9)=true:=co;repeat' (first
   |(apply aj ?_;clear hK K)|apply Ry.o ?_|(apply aY (fun C L=>?_) (fun C L=>?_)<;>try(cases C;done))|apply ai ?_|(apply ah fun K hK=>?_)|apply aq ?_|apply am ?_|apply au ?_|apply aw ?_)
  .all_goals refine qq ?_
   rw[<-Ga,J,Y];simp_all
  .refine⟨ac,FL,FL,cN,(by simp only[aM,Nat.reduceBEq, *];exact gp (n:=9) ac ac),?_⟩;rw[J,Y];simp_all
 .all_goals refine qq ?_
  rw[<-Ga,J,show i=9 by omega];rfl)
def pL(s:qn):ql:=[.ag s]
def BP(x y:qn)(h:pL x=pL y):x=y:=by simpa [pL]using h
noncomputable def BQ:En:=⟨98,false,dA (fun _=>True) pL fun s=>.bool (oB s)⟩
def QV:eu prog ρ BQ:=eY fun s _=>QU ρ s
end
section
def tyR3b.tyF:=ad @cJ (ad @cM (ad @eg (ad @dJ (ad @eC (ad @fw (@ef))))))
open tyR3b
mutual
def jb:Ex->Nat
 | .mk _ _ _ _ C=>tQ C
def tQ:qC->Nat
 |[]=>0
 |e::es=>max (1+jb e) (tQ es)
end
def vI(x:Ex):ql:=[.agg x.cells]
def QW(x y:Ex)(h:vI x=vI y):x=y:=by simp only[vI,eU,AV.agg.injEq,bu]at h;exact Ex.inj h
mutual
def dW:St->Nat
 | .mk _ _ _ _ _ _ _ U V=>1+fz U+fz V
def fz:qy->Nat
 |[]=>0
 |x::l=>dW x+fz l
end
mutual
def dM:St->Nat
 | .mk k _ _ _ _ _ _ U V=>(if k=4 then 1 else 0)+dN U+dN V
def dN:qy->Nat
 |[]=>0
 |x::l=>dM x+dN l
end
mutual
def cz:St->Nat->Nat
 | .mk _ _ _ _ _ _ _ U V,d=>max d (max (jJ U (d+1)) (jJ V (d+1)))
def jJ:qy->Nat->Nat
 |[],_=>0
 |x::l,d=>max (cz x d) (jJ l d)
end
theorem Gb(x:St):dM x=(if x.ah=4 then 1 else 0)+dN x.a8+dN x.bA:=by cases x;rw[dM];rfl
def pM{z:Int}(h1:-9223372036854775808<=z)(h2:z<9223372036854775808):IntKind.wrap .i64 z=z:=rK _ ac
theorem QX(a b c:AV):Ab.extract (.aO [a,b,c]) 0=some a:=rfl
theorem QY(a b c:AV):Ab.extract (.aO [a,b,c]) 1=some b:=rfl
theorem QZ(a b c:AV):Ab.extract (.aO [a,b,c]) 2=some c:=rfl
end
section
def tyR3c.tyF:=ad @ef (ad @cJ (ad @cM (ad @kQ (ad @kR (ad @fW (ad @eg (ad @dJ (ad @io (ad @eC (ad @kc (ad @pJ (ad @fw (ad @QX (ad @QY (@QZ)))))))))))))))
open tyR3c
mutual
def yw:St->Bool
 | .mk _ _ _ _ a v C U V=>decide ((20:Int)<jb a)||decide ((20:Int)<jb v)||pN U||pN V||C.any fun e=>decide ((20:Int)<jb e)
def pN:qy->Bool
 |[]=>false
 |x::l=>yw x||pN l
end
def ey(p:Pr):ql:=[.agg p.cells]
def pO(x y:Pr)(h:ey x=ey y):x=y:=by simp only[ey,eU,AV.agg.injEq,bu]at h;exact Pr.inj h
def vJ(f:Fu):Bool:=decide ((6:Int)<f.params.length)||decide ((8:Int)<f.ai.length)||decide ((200:Int)<fz f.body)||decide ((16:Int)<dN f.body)||decide ((20:Int)<jJ f.body 0)||pN f.body||decide ((20:Int)<jb f.value)
def yx(a:Ar):Bool:=decide (a.len<1)||decide (16<a.len)
def pP(p:Pr):Bool:=decide ((4:Int)<p.af.length)||decide ((8:Int)<p.funcs.length)||p.af.any yx||p.funcs.any vJ
end
section
def tyR3d.tyF:=ad @ef (ad @cJ (ad @cM (ad @eg (ad @dJ (ad @eC (@fw))))))
open tyR3d
def sw(x:Ex):Bool:=
 if x.ah=1 then decide ((x.aj.length:Int)=0)&&decide (x.name=[])&&decide (x.op=0)
 else if x.ah=2 then decide ((x.aj.length:Int)=0)&&decide (x.n=0)&&decide (x.op=0)&&dt x.name
 else if x.ah=3 then decide ((x.aj.length:Int)=1)&&decide (x.n=0)&&decide (x.op=0)&&dt x.name
 else if x.ah=4 then decide (x.n=0)&&decide (x.name=[])&&((decide ((x.aj.length:Int)=2)&&yu x.op)||(decide ((x.aj.length:Int)=1)&&(decide (x.op=20)||decide (x.op=21))))
 else if x.ah=5 then decide ((x.aj.length:Int)=3)&&decide (x.n=0)&&decide (x.name=[])&&decide (x.op=0)
 else false
mutual
def iq:Ex->Bool
 | .mk k n s o C=>iO C&&sw (.mk k n s o C)
def iO:qC->Bool
 |[]=>true
 |e::es=>iq e&&iO es
end
theorem Gc(x:Ex):iq x=(iO x.aj&&sw x):=by cases x;rw[iq];rfl
def Ra(x y:Int)(h:([.int .i64 x]:ql)=[.int .i64 y]):x=y:=fQ
end
section
namespace tyR3e
end tyR3e
open tyR3e
def yy(x:St):Bool:=decide (x.name=[])&&decide (x.to=[])&&decide (x.n=0)&&zeroE x.aW&&decide ((x.args.length:Int)=0)
def tR(x:St):Bool:=decide ((x.a8.length:Int)=0)&&decide ((x.bA.length:Int)=0)
def pQ(x:St):Bool:=
 if x.ah=1 then tR x&&dt x.name&&decide (x.to=[])&&decide (x.n=0)&&zeroE x.aW&&decide ((x.args.length:Int)=0)&&iq x.value
 else if x.ah=2 then tR x&&dt x.name&&decide (x.to=[])&&decide (x.n=0)&&iq x.aW&&decide ((x.args.length:Int)=0)&&iq x.value
 else if x.ah=3 then yy x&&iq x.value
 else if x.ah=4 then yy x&&iq x.value&&decide ((x.bA.length:Int)=0)
 else if x.ah=5 then tR x&&yy x&&iq x.value
 else if x.ah=6 then tR x&&dt x.name&&dt x.to&&decide (x.n=0)&&zeroE x.aW&&zeroE x.value
 else if x.ah=7 then tR x&&decide (x.name=[])&&decide (x.to=[])&&decide (0<=x.n)&&decide (x.n<=1000000)&&zeroE x.aW&&zeroE x.value&&decide ((x.args.length:Int)=0)
 else false
def mL(x:St):Bool:=iO x.args&&pQ x
end
section
def lX(H:Hp)(v:AV)(l:qm)(lo:Nat):Prop:=∃r m,v=.sl r 0 l.length 1/\H.get r=some (.cells (l.map .ag) m true)/\m<=l.length/\lo<=r/\r<H.next
def nH(H:Hp)(v:AV)(l:qm)(lo:Nat):Prop:=(v=.aa/\l=[])\/lX H v l lo
def lX.bS(h:lX H v l lo)(M:H.next<=H'.next)(L:∀k,lo<=k->k<H.next->H'.get k=H.get k):lX H' v l lo:=by
 obtain⟨r,m,o,Y,I,Z,W⟩:=h;exact⟨r,m,o,by rw[L r Z W];exact Y,I,Z,ac⟩
def bL(v:AV)(k:Nat):Prop:=∃n,v=.sl k 0 n 1
def pR(v I:AV)(H H':Hp):Prop:=(∀k,k<H.next->¬bL v k->H'.get k=H.get k)/\∀k,bL I k->bL v k\/H.next<=k
def lX.lt(h:lX H v l lo)(z:bL v k):lo<=k/\k<H.next:=by
 obtain⟨r,m,rfl,_,_,Z,W⟩:=h;obtain⟨n,e⟩:=z;simp only[AV.sl.injEq]at e;rw[<-e.1];exact⟨Z,W⟩
def nH.lt(h:nH H v l lo)(z:bL v k):lo<=k/\k<H.next:=by
 rcases h with⟨rfl,_⟩|h
 .obtain⟨n,e⟩:=z;simp at e
 .exact h.lt z
def lX.keep(h:lX H v l lo)(M:H.next<=H'.next)(L:∀k,bL v k->H'.get k=H.get k):lX H' v l lo:=by
 obtain⟨r,m,rfl,Z,I,Y,W⟩:=h;exact⟨r,m,rfl,BH,I,Y,ac⟩
def nH.keep(h:nH H v l lo)(M:H.next<=H'.next)(L:∀k,bL v k->H'.get k=H.get k):nH H' v l lo:=h.imp id fun h=>h.keep M L
def Gd(l:qm):(l.map AV.ag).all AV.one=true:=by simp[AV.one]
def Rd{imm:Nat}(h:H.get r=some (.cells (m.map .ag) imm true)):eF H 1 (.sl r 0 m.length 1)=some (m.length,m.map .ag):=by
 have:=sk (H:=H) (r:=r) (o:=0) (n:=m.length) (z:=1) (s:=1) h aE;rw[this,ft,fk aE]
theorem Re{x:AV}(L:nH H v l lo)(W:lo<=H.next)(Y:eF H 1 x=some (m.length,m.map .ag))(J:m≠[])(C:l.length+m.length<2^40):
 ∃I H',cY prog false H 60 60 v x=some (I,H')/\lX H' I (l++m) lo/\H'.next=H.next+1/\(∀k,k<lo->H'.get k=H.get k)/\pR v I H H':=by
 obtain⟨n,M⟩:∃n,m.length=n+1:=⟨m.length-1,BI⟩;have O:cX=70368744177664:=rfl;rw[M]at Y;rcases L with⟨rfl,rfl⟩|⟨r,Z,rfl,U,h3,h4,h5⟩
 .refine⟨.sl H.next 0 (n+1) 1,H.alloc (.cells (m.map .ag) 0 true),append_nil underlying60 vC x8 x9 aF Y (Gd m) rfl jr jr,⟨H.next,0,pK,fx,ac,W,ct _⟩,rfl,fun k z=>fC,fun k z _=>fC,fun k z=>.inr ?_⟩;obtain⟨n',e⟩:=z;simp only[AV.sl.injEq]at e;omega
 .have V:fN false H 1 (.sl r 0 l.length 1)=H:=by
   unfold fN;simp only[U,bX,dh,m1];have:Nat.blt l.length l.length=false:=by
    cases C:Nat.blt l.length l.length with
    |false=>rfl
    |true=>rw[hZ]at C;omega
   simp[this]
  refine⟨.sl H.next 0 (l.length+(n+1)) 1,(H.aU r).alloc (.cells (l.map .ag++m.map .ag) (Z-0) true),?_,⟨H.next,Z,pK,?_,co,W,ct _⟩,rfl,fun k z=>?_,fun k z o=>?_,fun k z=>.inr ?_⟩
  .simp only[cY,underlying60,vC,x8,x9,show hB prog 60=true by kernel_rfl,Y,Gd,V,oz,cg,cy,fP,lh,U,dh,bX,m1,ft];rw[aB ⟨jr,jr,trivial,trivial,h3⟩];simp
  .show((H.aU r).alloc _).get (H.aU r).next=_
   rw[aJ,aB rfl];simp
  .rw[aJ,ao kU,fD,ao ac]
  .rw[aJ,ao kU,fD,ao (fun e=>o ⟨_,mC⟩)]
  .obtain⟨n',e⟩:=z;simp only[AV.sl.injEq]at e;omega
def Ge{imm:Nat}(s:qn)(Y:nH H v l lo)(W:lo<=H.next)(U:H.get r=some (.cells [.ag s] imm true))(C:l.length<2^39):
 ∃I H',cY prog false H 60 60 v (.sl r 0 1 1)=some (I,H')/\lX H' I (l++[s]) lo/\H'.next=H.next+1/\(∀k,k<lo->H'.get k=H.get k)/\pR v I H H':=
 Re Y W (Rd (m:=[s]) U) aE co
theorem Rf(l:qm):gL 1 l.length (l.map .ag)=l.map fun s=>[AV.ag s]:=by
 induction l with
 |nil=>rfl
 |cons a l ih=>simp[gL,ih]
def tyR3f.tyF:=ad @ef (ad @cJ (ad @cM (ad @kQ (ad @kR (ad @fW (ad @eg (ad @dJ (ad @io (ad @eC (ad @kc (ad @pJ (@fw))))))))))))
open tyR3f
mutual
def sy:St->Bool
 | .mk k z Y n a v C U V=>mL (.mk k z Y n a v C U V)&&lY U&&lY V
def lY:qy->Bool
 |[]=>true
 |x::l=>sy x&&lY l
end
theorem tS(x:St):sy x=(mL x&&lY x.a8&&lY x.bA):=by cases x;rw[sy];rfl
theorem Gf:∀{l:List Ar}{a:Ar},a∈l->a.name.length<j6 l
 |[],_,h=>by simp at h
 |e::es,x,h=>by
  rcases eK.1 h with rfl|h
  .simp only[j6];omega
  .have:=Gf h;simp only[j6];omega
def fnNames(f:Fu):qm:=[f.name]++f.params++f.ai
def nI(f:Fu):Bool:=(fnNames f).all dt&&lY f.body&&iq f.value
def js(p:Pr):Bool:=p.af.all (fun a=>dt a.name)&&p.funcs.all nI
def Rg(H:Hp)(s:qn):ec prog H 60 1 [(0,.ag s)]=some (.sl H.next 0 1 1,H.alloc (.cells [.ag s] 0 true)):=aF
end
section
namespace tyR3g
end tyR3g
open tyR3g
def cF:qm->qm->Bool
 |_,[]=>false
 |seen,s::l=>bR seen s||cF (seen++[s]) l
def yz(L:qm):qm->qH->Bool
 |_,[]=>false
 |seen,f::fs=>bR seen f.name||cF L (f.params++f.ai)||yz L (seen++[f.name]) fs
def cc(p:Pr):qm:=p.af.map (·.name)
def oI(p:Pr):Bool:=cF [] (cc p)||yz (cc p) [] p.funcs
end
section
namespace tyR3h
end tyR3h
open tyR3h
structure Sc where
 vars:qm
 af:Option qm
 p:Pr
def Sc.an(x:Sc):qm:=x.af.getD []
def Rh:Option qm->AV
 |none=>.aa
 |some l=>cW l
def Sc.cells(x:Sc):ql:=[cW x.vars,Rh x.af,.aq (x.p.af.map Ar.cells),.aq (x.p.funcs.map Fu.cells)]
theorem Sc.aZ(x:Sc):cr 4 x.cells=some (.agg x.cells):=rfl
theorem Rk(x:Sc):cr 2 (x.cells.drop 2)=some (.agg x.p.cells):=rfl
section
variable (vs an:qm)
def jK(x:Ex):Bool:=(!decide (x.ah=2)||bR vs x.name)&&(!decide (x.ah=3)||bR an x.name)
mutual
def gr:Ex->Bool
 | .mk k n s o C=>ke C&&jK vs an (.mk k n s o C)
def ke:qC->Bool
 |[]=>true
 |e::es=>gr e&&ke es
end
theorem Gg(x:Ex):gr vs an x=(ke vs an x.aj&&jK vs an x):=by cases x;rw[gr];rfl
end
def mM(c:Sc)(x:St):Bool:=
 if x.ah=1 then bR c.vars x.name
 else if x.ah=6 then bR c.vars x.name&&decide (0<=dl c.p.funcs x.to 0)
 else if x.ah=2 then bR c.an x.name
 else true
def yA(c:Sc)(x:St):Bool:=ke c.vars c.an x.args&&gr c.vars c.an x.aW&&gr c.vars c.an x.value&&mM c x
end
section
def tyR3i.tyF:=ad @cJ (ad @cM (ad @kQ (ad @kR (ad @fW (ad @eg (ad @dJ (ad @io (ad @eC (ad @kc (ad @fw (ad @Qm (ad @Rk (@Sc.aZ)))))))))))))
open tyR3i
def pS(p:Pr)(s:qn):Nat:=((p.funcs[(dl p.funcs s 0).toNat]?).map fun f=>f.params.length).getD 0
def pT(p:Pr)(x:St):Bool:=!(decide (x.ah=6) && !decide ((x.args.length:Int)=pS p x.to))
section
variable (c:Sc)
mutual
def mN(b:Bool):St->Bool
 | .mk k z Y n a v C U V=>(bif b then pT c.p (.mk k z Y n a v C U V)else yA c (.mk k z Y n a v C U V))&&ir b U&&ir b V
def ir(b:Bool):qy->Bool
 |[]=>true
 |x::l=>mN b x&&ir b l
end
theorem BR(b:Bool)(x:St):mN c b x=((bif b then pT c.p x else yA c x)&&ir c b x.a8&&ir c b x.bA):=by cases x;rw[mN];rfl
end
section
variable (p:Pr)
end
theorem Gi:∀(l:qH) (s:qn) (i:Nat),0<=dl l s i->∃k,k<l.length/\dl l s i=((i+k:Nat):Int)
 |[],s,i,h=>by simp[dl]at h
 |f::l,s,i,h=>by
  simp only[dl]at h⊢;split
  .exact⟨0,aE,aE⟩
  .rename_i M;rw[ao M]at h;obtain⟨k,o,m⟩:=Gi l s (i+1) (by exact h);exact⟨k+1,by simpa using o,by rw[show((i:Int)+1)=((i+1:Nat):Int) by omega,m];omega⟩
end
section
namespace tyR3j
end tyR3j
open tyR3j
def kW(p:Pr)(f:Fu):Sc:=⟨f.params++f.ai,some (cc p),p⟩
def pU(p:Pr)(f:Fu):Bool:=!(ir (kW p f) false f.body&&gr (kW p f).vars (kW p f).an f.value)
def sA(p:Pr)(f:Fu):Bool:=!ir (kW p f) true f.body
def jc(p:Pr):Int:=if pP p=true then 6 else if js p=false then 2 else if oI p=true then 4 else if p.funcs.any (pU p)=true then 3 else if p.funcs.any (sA p)=true then 5 else 0
end
end Go.Proofs.Ytbflaciihaijgaa
namespace Go.Ab
set_option maxRecDepth 20000
open Go
variable{P:Program}{f:FuncId}{C:ql}{r v u:AV}{H H':Hp}{S S':Nat->Prop}{n:Nat}
def eP:Nat->AV->AV
 |0,v=>v
 |n+1,v=>match v with
  | .aa=>.aq []
  | .aq Y=>.aq (Y.map fun I=>I.map (eP n))
  | .agg cs=>.agg (cs.map (eP n))
  | .aO cs=>.aO (cs.map (eP n))
  |v=>v
theorem VR.wk{G:Gh}:∀(n:Nat) {v:AV}{x:Value},VR G v x->VR G (eP n v) x
 |0,_,_,h=>h
 |n+1,v,x,h=>by
  cases h with
  |aa=>exact .lst0 _ _
  |aq vs C M Y hc=>
   rename_i xs b o cap z;have:=VR.aq (G:=G) (xs:=xs.map fun I=>I.map (eP n)) (b:=b) (o:=o) (cap:=cap) (z:=z) vs ?_ ?_ ?_ ?_
   .rw[dh]at this;exact this
   .intro i I hr;rw[ii]at hr;cases V:xs[i]? with
    |none=>rw[V]at hr;simp at hr
    |some bG=>rw[V]at hr;simp only[iG,aC]at hr;rw[<-hr,dh];exact C i bG V
   .intro i j J L;rw[dh]at J;exact M i j J L
   .intro i j I c hr O;rw[ii]at hr;cases V:xs[i]? with
    |none=>rw[V]at hr;simp at hr
    |some bG=>
     rw[V]at hr;simp only[iG,aC]at hr;rw[<-hr,ii]at O;cases W:bG[j]? with
     |none=>rw[W]at O;simp at O
     |some c0=>rw[W]at O;simp only[iG,aC]at O;rw[<-O];exact VR.wk n (Y i j bG c0 V W)
   .rw[dh];exact hc
  |lst0 a cap=>exact .lst0 a cap
  |agg U Y=>
   refine .agg (by rw[dh];exact U) fun i c v hc Z=>?_;rw[ii]at hc;rename_i cs vs;cases W:cs[i]? with
   |none=>rw[W]at hc;simp at hc
   |some c0=>rw[W]at hc;simp only[iG,aC]at hc;rw[<-hc];exact VR.wk n (Y i c0 v W Z)
  |aO U Y=>
   refine .aO (by rw[dh];exact U) fun i c v hc Z=>?_;rw[ii]at hc;rename_i cs vs;cases W:cs[i]? with
   |none=>rw[W]at hc;simp at hc
   |some c0=>rw[W]at hc;simp only[iG,aC]at hc;rw[<-hc];exact VR.wk n (Y i c0 v W Z)
  |int k m=>exact .int k m
  |sx k e=>exact .sx k e
  |bool b=>exact .bool b
  |ag s l h=>exact .ag s l h
  |bl=>exact .bl
  |a6=>exact .a6
  |bz=>exact .bz
  |ptr h=>exact .ptr h
  |a2 vs M Y=>exact .a2 vs M Y
  |sl h U hc=>exact .sl h U hc
  |map h=>exact .map h
  |a9 U Y=>exact .a9 U Y
def cp.wk{ρ:Nat->Int}(n:Nat)(h:cp P ρ f C r):cp P ρ f C (eP n r):=
 ⟨h.1,fun G w vs o m I=>(h.2 G w vs o m I).mono fun _ _ ⟨v,J,Z,W,Y⟩=>⟨v,J,Z,W.wk n,Y⟩⟩
def Gj{ρ:Nat->Int}{Z:AV}(n:Nat)(h:cp P ρ f C r)(e:eP n r=Z):cp P ρ f C Z:=e▸h.wk n
variable {P:Program} {cfg:Cfg} {f N:Nat}
theorem Rl{c:SC}{E:ax}{Q:AX->ax->Hp->Prop}(cs:qu)(h:∀E':ax,(∀k∈cs,E'.at k=E.at k)->bU P cfg f N c E' H Q):bU P cfg f N c E H Q:=h E fun _ _=>rfl
def cP{o β:Type}(p:o->β->Prop):List o->List β->Prop
 |[],[]=>True
 |a::l,b::m=>p a b/\cP p l m
 |_,_=>False
theorem cP.len{o β:Type}{p:o->β->Prop}:∀{l:List o}{m:List β},cP p l m->l.length=m.length
 |[],[],_=>rfl
 |_::_,_::_,h=>by simp only[cy,cP.len h.2]
theorem cP.mono{o β:Type}{p q:o->β->Prop}(h:∀a b,p a b->q a b):∀{l:List o}{m:List β},cP p l m->cP q l m
 |[],[],_=>trivial
 |_::_,_::_,k=>⟨h _ _ k.1,cP.mono h k.2⟩
theorem cP.append{o β:Type}{p:o->β->Prop}:∀{l:List o}{m:List β}{O:List o}{L:List β},cP p l m->cP p O L->cP p (l++O) (m++L)
 |[],[],_,_,_,h=>h
 |_::_,_::_,_,_,h,k=>⟨h.1,cP.append h.2 k⟩
theorem cP.refl{o:Type}{p:o->o->Prop}:∀{l:List o},(∀a∈l,p a a)->cP p l l
 |[],_=>trivial
 |a::l,h=>⟨h a eL,cP.refl fun b C=>h b (fR _ C)⟩
def Gk(v:AV):Prop:=et v/\match v with
 | .sl _ _ _ _|.agg _=>False
 |_=>True
def cH(S:Nat->Prop):Nat->Hp->AV->AV->Prop
 |0,_,_,_=>False
 |n+1,H,v,u=>match v with
  | .sl r J W z=>S r/\r<H.next/\∃cs m o l,H.get r=some (.cells cs m o)/\m<=cs.length/\J+W*z<=cs.length/\cP (cH S n H) ((cs.drop J).take (W*z)) l/\u=.aq (gL z W l)
  | .agg cs=>∃Z,cP (cH S n H) cs Z/\u=.agg Z
  |v=>et v/\u=v
def cH.cq(h:Gk v):cH S (n+1) H v v:=by
 cases v<;>first|exact h.2.elim|exact⟨h.1,rfl⟩
def tT:=@cH.cq
theorem cH.up{S:Nat->Prop}{H:Hp}:∀{n m:Nat}{v u:AV},cH S n H v u->n<=m->cH S m H v u
 |0,_,_,_,h,_=>h.elim
 |n+1,0,_,_,_,hm=>by omega
 |n+1,m+1,v,u,h,hm=>by
  cases v with
  |sl r M L z=>
   obtain⟨o,V,cs,Z,Y,l,W,I,U,O,C⟩:=h;exact⟨o,V,cs,Z,Y,l,W,I,U,O.mono fun a b k=>cH.up k ac,C⟩
  |agg cs=>
   obtain⟨J,o,W⟩:=h;exact⟨J,o.mono fun a b k=>cH.up k ac,W⟩
  |_=>exact h
def oJ(a b:Option HB):Prop:=a=b\/∃cs i j o,a=some (.cells cs i o)/\b=some (.cells cs j o)/\(i<=cs.length->j<=cs.length)
def oJ.trans{a b c:Option HB}(h:oJ a b)(k:oJ b c):oJ a c:=by
 rcases h with rfl|⟨cs,i,j,o,rfl,rfl,h⟩
 .exact k
 .rcases k with rfl|⟨I,m,L,Z,e,rfl,k⟩
  .exact .inr ⟨cs,i,j,o,rfl,rfl,h⟩
  .simp only[aC,HB.cells.injEq]at e;obtain⟨rfl,rfl,rfl⟩:=e;exact .inr ⟨cs,i,L,o,rfl,rfl,fun q=>k (h q)⟩
theorem cH.bP{S S':Nat->Prop}{H H':Hp}(hS:∀k,k<H.next->S k->S' k)(U:H.next<=H'.next)(Y:∀k,S k->k<H.next->oJ (H.get k) (H'.get k)):∀{n:Nat}{v u:AV},cH S n H v u->cH S' n H' v u
 |0,_,_,h=>h.elim
 |n+1,v,u,h=>by
  cases v with
  |sl r off len z=>
   obtain⟨o,W,cs,V,Z,l,m,I,O,h5,C⟩:=h;have L:=h5.mono fun a b k=>cH.bP hS U Y k;rcases Y r o W with e|⟨cs',i,j,J,M,e2,e3⟩
   .exact⟨hS r W o,ac,cs,V,Z,l,by rw[<-e];exact m,I,O,L,C⟩
   .rw[m]at M;simp only[aC,HB.cells.injEq]at M;obtain⟨rfl,rfl,rfl⟩:=M;exact⟨hS r W o,ac,cs,j,Z,l,e2,e3 I,O,L,C⟩
  |agg cs=>
   obtain⟨ds,o,m⟩:=h;exact⟨ds,o.mono fun a b k=>cH.bP hS U Y k,m⟩
  |_=>exact h
def cH.frame(hS:∀k,S k->S' k)(M:H.next<=H'.next)(o:∀k,S k->k<H.next->oJ (H.get k) (H'.get k))(h:cH S n H v u):cH S' n H' v u:=h.bP (fun k _ q=>hS k q) M o
structure Icy (S:Nat->Prop) (H H':Hp):Prop where
 next:H'.next=H.next
 out:∀k,¬S k->H'.get k=H.get k
 aT:∀k,oJ (H.get k) (H'.get k)
def Icy.refl(S:Nat->Prop)(H:Hp):Icy S H H:=⟨rfl,fun _ _=>rfl,fun _=>.inl rfl⟩
def Icy.trans{a b c:Hp}(h:Icy S a b)(k:Icy S b c):Icy S a c:=⟨k.next.trans h.next,fun r hr=>(k.out r hr).trans (h.out r hr),fun r=>(h.aT r).trans (k.aT r)⟩
def Icy.ic(h:Icy S H H')(k:cH S' n H v u):cH S' n H' v u:=k.frame (fun _ q=>q) (Nat.le_of_eq h.next.symm) fun r _ _=>h.aT r
theorem yB{S:Nat->Prop}{n:Nat}(ih:∀{v u:AV}{H:Hp},cH S n H v u->∃H',hY n v H=some (u,H')/\Icy S H H'):∀{l m:ql}{H:Hp},cP (cH S n H) l m->∃H',jA (hY n) l H=some (m,H')/\Icy S H H'
 |[],[],H,_=>⟨H,rfl,Icy.refl S H⟩
 |a::l,b::m,H,h=>by
  obtain⟨H1,o,Z⟩:=ih h.1;obtain⟨U,I,Y⟩:=yB ih (l:=l) (m:=m) (H:=H1) (h.2.mono fun a b k=>Z.ic k);exact⟨U,by simp only[jA,o,I],Z.trans Y⟩
theorem cH.aF{S:Nat->Prop}:∀{n:Nat}{v u:AV}{H:Hp},cH S n H v u->∃H',hY n v H=some (u,H')/\Icy S H H'
 |0,_,_,_,h=>h.elim
 |n+1,v,u,H,h=>by
  cases v with
  |sl r J W z=>
   obtain⟨O,h0,cs,m,Z,l,U,I,L,C,rfl⟩:=h;have Y:Icy S H (H.set r (.cells cs (max m (J+W*z)) Z)):=by
    refine⟨rfl,fun k V=>by rw[bi,ao (fun e=>V (by rw[e];exact O))],fun k=>?_⟩;rw[bi];split
    .rename_i e;subst e;exact .inr ⟨cs,m,max m (J+W*z),Z,U,rfl,fun _=>ac⟩
    .exact .inl rfl
   obtain⟨H',h6,h7⟩:=yB (fun k=>cH.aF k) (C.mono fun a b k=>Y.ic k);refine⟨H',?_,Y.trans h7⟩;have e:hY (n+1) (.sl r J W z) H=match H.get r with
    |some (.cells cs m Z)=>match Nat.ble (J+W*z) cs.length&&Nat.ble m cs.length with
     |true=>match jA (hY n) ((cs.drop J).take (W*z)) (H.set r (.cells cs (max m (J+W*z)) Z))with
      |some (l',H)=>some (.aq (gL z W l'),H)
      |none=>none
     |false=>none
    |_=>none:=rfl
   rw[e,U];have e1:Nat.ble (J+W*z) cs.length=true:=by rw[Nat.ble_eq];exact L
   have e2:Nat.ble m cs.length=true:=by rw[Nat.ble_eq];exact I
   simp only[e1,e2,ox,h6]
  |agg cs=>
   obtain⟨M,O,rfl⟩:=h;obtain⟨H',U,I⟩:=yB (fun k=>cH.aF k) O;refine⟨H',?_,I⟩;have e:hY (n+1) (.agg cs) H=match jA (hY n) cs H with
    |some (M,H)=>some (.agg M,H)
    |none=>none:=rfl
   rw[e,U]
  |ptr r o=>
   obtain⟨k,V⟩:=h.1;exact absurd (V (k+1) ac H) (by simp[iceV])
  |map r=>
   obtain⟨k,V⟩:=h.1;exact absurd (V (k+1) ac H) (by simp[iceV])
  |_=>exact⟨H,by rw[show u=_ from h.2];rfl,Icy.refl S H⟩
def cH.iceL{l m:ql}(h:cP (cH S n H) l m):∃H',jA (hY n) l H=some (m,H')/\Icy S H H':=yB (fun k=>cH.aF k) h
theorem tU{S:Nat->Prop}{n:Nat}{H:Hp}(ih:∀{v u:AV},cH S n H v u->∃Z,∀m,Z<=m->iceV H m v=some u):∀{l k:ql},cP (cH S n H) l k->∃Z,∀m,Z<=m->iceL (iceV H m) l=some k
 |[],[],_=>⟨0,fun _ _=>rfl⟩
 |a::l,b::k,h=>by
  obtain⟨cz,o⟩:=ih h.1;obtain⟨M,Y⟩:=tU ih (l:=l) (k:=k) h.2;exact⟨max cz M,fun m W=>by simp only[iceL,o m ac,Y m ac]⟩
theorem cH.iceV{S:Nat->Prop}{H:Hp}:∀{n:Nat}{v u:AV},cH S n H v u->∃Z,∀m,Z<=m->iceV H m v=some u
 |0,_,_,h=>h.elim
 |n+1,v,u,h=>by
  cases v with
  |sl r J W z=>
   obtain⟨o,h0,cs,L,I,l,C,h3,h4,V,rfl⟩:=h;obtain⟨Z,M⟩:=tU (fun k=>cH.iceV k) V;refine⟨Z+1,fun m Y=>?_⟩;obtain⟨m,rfl⟩:∃k,m=k+1:=⟨m-1,ac⟩;have e:Ab.iceV H (m+1) (.sl r J W z)=match H.get r with
    |some (.cells cs _ _)=>match Ab.iceL (Ab.iceV H m) ((cs.drop J).take (W*z))with
     |some O=>if O.length=W*z then some (.aq (gL z W O))else none
     |none=>none
    |_=>none:=rfl
   have hl:l.length=W*z:=by rw[<-V.len,iD,ib];omega
   rw[e,C];simp only[M m ac,hl,cg]
  |agg cs=>
   obtain⟨U,o,rfl⟩:=h;obtain⟨Z,M⟩:=tU (fun k=>cH.iceV k) o;refine⟨Z+1,fun m Y=>?_⟩;obtain⟨m,rfl⟩:∃k,m=k+1:=⟨m-1,ac⟩;have e:Ab.iceV H (m+1) (.agg cs)=match Ab.iceL (Ab.iceV H m) cs with
    |some U=>some (.agg U)
    |none=>none:=rfl
   rw[e,M m ac]
  |_=>
   obtain⟨k,hk⟩:=h.1;exact⟨k,fun m Y=>by rw[hk m Y H,h.2]⟩
theorem Gl(z:Nat):∀(C:List ql),(∀r∈C,r.length=z)->gL z C.length C.flatten=C
 |[],_=>rfl
 |r::C,h=>by
  have Z:=h r eL;rw[ot,cy];show(r++C.flatten).take z::gL z C.length ((r++C.flatten).drop z)=_;rw[z7 ac,fk ac,At ac,z8 ac,mZ,Gl z C fun q o=>h q (fR _ o)]
theorem vK{z:Nat}:∀{C:List ql},(∀r∈C,r.length=z)->C.flatten.length=C.length*z
 |[],_=>by simp
 |r::C,h=>by
  rw[ot,em,h r eL,vK fun q o=>h q (fR _ o),cy,uU];omega
theorem cP.cq{p:AV->AV->Prop}:∀{a b:List ql},cP (cP p) a b->cP p a.flatten b.flatten
 |[],[],_=>trivial
 |_::_,_::_,h=>by rw[ot,ot];exact h.1.append (cP.cq h.2)
theorem cP.cS{p:AV->AV->Prop}{z:Nat}:∀{a b:List ql},cP (cP p) a b->(∀r∈a,r.length=z)->∀r∈b,r.length=z
 |[],[],_,_,r,hr=>by simp at hr
 |x::a,y::b,h,hz,r,hr=>by
  rcases eK.1 hr with rfl|hr
  .rw[<-h.1.len];exact hz x eL
  .exact cP.cS h.2 (fun q o=>hz q (fR _ o)) r hr
def cH.rows{r z imm:Nat}{tip:Bool}{a b:List ql}(hS:S r)(hr:r<H.next)(L:H.get r=some (.cells a.flatten imm tip))(J:imm<=a.flatten.length)(Z:∀x∈a,x.length=z)(h:cP (cP (cH S n H)) a b):cH S (n+1) H (.sl r 0 a.length z) (.aq b):=by
 have W:=vK Z;refine⟨hS,hr,a.flatten,imm,tip,b.flatten,L,J,ac,?_,?_⟩
 .rw[ft,fk ac];exact h.cq
 .rw[h.len,Gl z b (h.cS Z)]
end Go.Ab
namespace Go.Proofs.Ytbflaciihaijgaa
set_option maxRecDepth 20000
open Go Go.Ab Proofs.Try
variable(ρ:Nat->Int)
variable{S S':Nat->Prop}{n r z q:Nat}{H H':Hp}{v:AV}{w:ql}{m a b Y C:List ql}{P:Program}{t e:TypeId}{tb:qs}
section
def tyG1.tyF:=ad @cJ (ad @cM (ad @io (ad @ef (ad @O9 (ad @MH (@MG))))))
open tyG1
noncomputable def Gm:{c:SC // aG 14 (f8.body.getD .skip)=c}:=by
 refine⟨?_,?_⟩;rotate_left
 .simp only[f8,bK,aG,bF,bw,bH,bI,Nat.blt,Nat.ble];rfl
def kX(n m:Int):Int:=if n.tmod m<0 then er (n.tmod m+m)else n.tmod m
def Gn{n m:Int}(h:0<m)(h2:m<2^62):0<=kX n m/\kX n m<m:=by
 unfold kX;have I:=Int.tmod_lt_of_pos n h;have Z:-m<n.tmod m:=by
  have:=Int.tmod_lt_of_pos (-n) h;rw[Int.neg_tmod]at this;omega
 split
 .unfold er;rw[rK _ ac];omega
 .omega
def sB(x:Int×Int):ql:=[.int .i64 x.1,.int .i64 x.2]
def Rm(x y:Int×Int)(h:sB x=sB y):x=y:=by
 simp only[sB,eU,AV.int.injEq,bu,kI]at h;exact Prod.ext h.1 h.2
theorem Rn(x:Int×Int)(O:x.2≠0):cp prog ρ 8 (sB x) (.int .i64 (kX x.1 x.2)):=fI fit (pls:=pls) (l:=[]) trivial (.cons (.int _ _) (.cons (.int _ _) .nil)) (.int _ _) (by
 have V:=fy 8;obtain⟨n,m⟩:=x;rw[sB];simp only[]at O⊢;refine bA (M:=14) (rs:=[.tmp 4]) (V.call _) V.aF V.ak func8 rfl rfl Gm.2 rfl ?_;dsimp only[Gm,bt,Nat.reduceAdd];repeat' (first
  |(apply aj ?_;clear hK K)|apply Rx.o ?_|(apply aO (fun C L=>?_) (fun C L=>?_)<;>try(cases C;done))|apply ai ?_|(apply ah fun K hK=>?_)|apply am ?_|apply au ?_)
 all_goals refine qq ?_
 all_goals (simp_all[kX];try omega))
noncomputable def BS:En:=⟨8,false,dA (fun x=>x.2≠0) sB fun x=>.int .i64 (kX x.1 x.2)⟩
def Ro:eu prog ρ BS:=eY fun x O=>Rn ρ x O
def Rp{l:qs}(W:∀Z,dR l 8 Z=BS.sp Z)(n m:Int)(Y:m≠0)(H:Hp):aX prog (aK pls l) 8 [.int .i64 n,.int .i64 m] H fun v H'=>v=.int .i64 (kX n m)/\H'=H:=
 ev (enc:=sB) (ok:=fun x=>x.2≠0) (out:=fun x=>.int .i64 (kX x.1 x.2)) Rm (x:=(n,m)) (W _) Y
end
section
def tyG2.tyF:=ad @cJ (ad @jH (@Fh))
open tyG2
def cK(S:Nat->Prop)(n:Nat)(H:Hp)(v w:AV):Prop:=∃u,cH S n H v u/\∀m,n<=m->eP m u=w
def bW(S:Nat->Prop)(n:Nat)(H:Hp)(cs Z:ql):Prop:=∃I,cP (cH S n H) cs I/\∀m,n<=m->I.map (eP m)=Z
def cK.frame(hS:∀k,S k->S' k){w:AV}(h:cK S n H v w)(M:H.next<=H'.next)(o:∀k,S k->k<H.next->oJ (H.get k) (H'.get k)):cK S' n H' v w:=by
 obtain⟨u,Z,m⟩:=h;exact⟨u,Z.frame hS M o,m⟩
def bW.frame(hS:∀k,S k->S' k){v:ql}(h:bW S n H v w)(M:H.next<=H'.next)(o:∀k,S k->k<H.next->oJ (H.get k) (H'.get k)):bW S' n H' v w:=by
 obtain⟨u,Z,m⟩:=h;exact⟨u,Z.mono fun a b k=>k.frame hS M o,m⟩
def bW.keep(hS:∀k,S k->S' k){v:ql}(h:bW S n H v w)(M:H.next<=H'.next)(o:∀k,S k->k<H.next->H'.get k=H.get k):bW S' n H' v w:=h.frame hS M fun k Z m=>.inl (o k Z m).symm
def cK.keep(hS:∀k,S k->S' k){w:AV}(h:cK S n H v w)(M:H.next<=H'.next)(o:∀k,S k->k<H.next->H'.get k=H.get k):cK S' n H' v w:=h.frame hS M fun k Z m=>.inl (o k Z m).symm
def cK.up{m:Nat}{w:AV}(h:cK S n H v w)(Z:n<=m):cK S m H v w:=by
 obtain⟨u,o,Y⟩:=h;exact⟨u,o.up Z,fun k z=>Y k ac⟩
def bW.up{m:Nat}{v:ql}(h:bW S n H v w)(Z:n<=m):bW S m H v w:=by
 obtain⟨u,o,Y⟩:=h;exact⟨u,o.mono fun a b k=>k.up Z,fun k z=>Y k ac⟩
def bW.nil:bW S n H [] []:=⟨[],trivial,fun _ _=>rfl⟩
def bW.cons{w:AV}{cs Z:ql}(h:cK S n H v w)(k:bW S n H cs Z):bW S n H (v::cs) (w::Z):=by
 obtain⟨u,o,W⟩:=h;obtain⟨I,V,U⟩:=k;exact⟨u::I,⟨o,V⟩,fun m Y=>by rw[eJ,W m Y,U m Y]⟩
def bW.append{S:Nat->Prop}{n:Nat}{H:Hp}:∀{a b c d:ql},bW S n H a b->bW S n H c d->bW S n H (a++c) (b++d)
 |a,b,c,d,⟨u,o,Y⟩,⟨v,I,W⟩=>⟨u++v,o.append I,fun m Z=>by rw[mD,Y m Z,W m Z]⟩
def cK.cq(h:Gk v)(z:∀m,eP m v=v):cK S (n+1) H v v:=⟨v,tT h,fun m _=>z m⟩
theorem cK.int(k:IntKind)(x:Int):cK S (n+1) H (.int k x) (.int k x):=.cq ⟨.int _ _,trivial⟩ fun m=>by cases m<;>rfl
theorem cK.ag(s:qn):cK S (n+1) H (.ag s) (.ag s):=.cq ⟨.ag _,trivial⟩ fun m=>by cases m<;>rfl
def cK.aa:cK S (n+1) H .aa (.aq []):=⟨.aa,tT ⟨.aa,trivial⟩,fun m Z=>by
 obtain⟨m,rfl⟩:∃k,m=k+1:=⟨m-1,ac⟩;rfl⟩
def fJ(S:Nat->Prop)(n:Nat)(H:Hp)(z:Nat):List ql->List ql->Prop:=cP fun a b=>a.length=z/\bW S n H a b
theorem Gp{S:Nat->Prop}{n z:Nat}{H:Hp}:∀{a b:List ql},fJ S n H z a b->∃u,cP (cP (cH S n H)) a u/\(∀m,n<=m->u.map (List.map (eP m))=b)/\∀x∈a,x.length=z
 |[],[],_=>⟨[],trivial,fun _ _=>rfl,aE⟩
 |x::a,y::b,⟨⟨hz,v,h1,h2⟩,h⟩=>by
  obtain⟨u,I,Y,W⟩:=Gp (a:=a) (b:=b) h;exact⟨v::u,⟨h1,I⟩,fun m Z=>by rw[eJ,h2 m Z,Y m Z],fun q o=>by
   rcases eK.1 o with rfl|o
   .exact hz
   .exact W q o⟩
def cK.rows{imm:Nat}{tip:Bool}(hS:S r)(hr:r<H.next)(L:H.get r=some (.cells a.flatten imm tip))(J:imm<=a.flatten.length)(h:fJ S n H z a b):cK S (n+1) H (.sl r 0 a.length z) (.aq b):=by
 obtain⟨u,o,Z,Y⟩:=Gp h;refine⟨.aq u,cH.rows hS hr L J Y o,fun m W=>?_⟩;obtain⟨m,rfl⟩:∃k,m=k+1:=⟨m-1,ac⟩;show AV.aq (u.map fun I=>I.map (eP m))=_;rw[<-Z m ac]
def fJ.frame(hS:∀k,S k->S' k)(h:fJ S n H z a b)(M:H.next<=H'.next)(o:∀k,S k->k<H.next->H'.get k=H.get k):fJ S' n H' z a b:=cP.mono (fun x y k=>⟨k.1,k.2.keep hS M o⟩) h
def fJ.up{m:Nat}(h:fJ S n H z a b)(Z:n<=m):fJ S m H z a b:=cP.mono (fun x y k=>⟨k.1,k.2.up Z⟩) h
def bW.d6(s:qn):bW S (n+1) H [.ag s] [.ag s]:=.cons (.ag s) .nil
def Rq(k J o:Int)(s:qn){kv:AV}{es:qC}(h:cK S (n+1) H kv (.aq (es.map Ex.cells))):bW S (n+1) H [.int .i64 k,.int .i64 J,.ag s,.int .i64 o,kv] (Ex.mk k J s o es).cells:=by
 rw[jE];exact .cons (.int _ _) (.cons (.int _ _) (.cons (.ag _) (.cons (.int _ _) (.cons h .nil))))
def Rr(k J o:Int)(s:qn):bW S (n+1) H [.int .i64 k,.int .i64 J,.ag s,.int .i64 o,.aa] (Ex.mk k J s o []).cells:=Rq k J o s .aa
end
section
def bW.aD{v:ql}(h:bW S n H v w)(hS:∀k,k<H.next->S k->S' k)(M:H.next<=H'.next)(o:∀k,S k->k<H.next->H'.get k=H.get k):bW S' n H' v w:=by
 obtain⟨u,Y,m⟩:=h;exact⟨u,Y.mono fun a b k=>k.bP hS M fun q I Z=>.inl (o q I Z).symm,m⟩
def cK.aD{w:AV}(h:cK S n H v w)(hS:∀k,k<H.next->S k->S' k)(M:H.next<=H'.next)(o:∀k,S k->k<H.next->H'.get k=H.get k):cK S' n H' v w:=by
 obtain⟨u,Y,m⟩:=h;exact⟨u,Y.bP hS M fun q I Z=>.inl (o q I Z).symm,m⟩
def fJ.aD(h:fJ S n H z a b)(hS:∀k,k<H.next->S k->S' k)(M:H.next<=H'.next)(o:∀k,S k->k<H.next->H'.get k=H.get k):fJ S' n H' z a b:=cP.mono (fun x y k=>⟨k.1,k.2.aD hS M o⟩) h
theorem fJ.len{S:Nat->Prop}{n z:Nat}{H:Hp}:∀{a b:List ql},fJ S n H z a b->∀x∈a,x.length=z
 |[],[],_,x,O=>by simp at O
 |y::a,w::b,h,x,O=>by
  rcases eK.1 O with rfl|O
  .exact h.1.1
  .exact fJ.len h.2 x O
def b7(S:Nat->Prop)(n:Nat)(H:Hp)(z:Nat)(v:AV)(Z:List ql):Prop:=
 (v=.aa/\Z=[])\/∃q m C,v=.sl q 0 C.length z/\S q/\q<H.next/\H.get q=some (.cells C.flatten m true)/\m<=C.flatten.length/\fJ (fun k=>S k/\k≠q) n H z C Z
theorem b7.rd(h:b7 S n H z v m):cK S (n+1) H v (.aq m):=by
 rcases h with⟨rfl,rfl⟩|⟨q,Y,C,rfl,o,W,I,V,U⟩
 .exact .aa
 .exact .rows o W I V (U.frame (fun k Z=>Z.1) (az _) fun _ _ _=>rfl)
def b7.up{m:Nat}(h:b7 S n H z v Y)(W:n<=m):b7 S m H z v Y:=by
 rcases h with h|⟨q,Z,C,e,o,V,I,U,O⟩
 .exact .inl h
 .exact .inr ⟨q,Z,C,e,o,V,I,U,fJ.up O W⟩
def b7.keep{Z:List ql}(h:b7 S n H z v Z)(hS:∀k,k<H.next->S k->S' k)(M:H.next<=H'.next)(o:∀k,S k->k<H.next->H'.get k=H.get k):b7 S' n H' z v Z:=by
 rcases h with h|⟨q,m,C,e,W,V,I,J,h5⟩
 .exact .inl h
 .exact .inr ⟨q,m,C,e,hS q V W,ac,by rw[o q W V];exact I,J,h5.aD (fun k U Y=>⟨hS k U Y.1,Y.2⟩) M fun k O L=>o k O.1 L⟩
def b7.one{S:Nat->Prop}{n:Nat}{H:Hp}{z:Nat}{v:AV}{m:List ql}(h:b7 S n H z v m):AV.one v=true/\v.cells=[v]:=by
 rcases h with⟨rfl,rfl⟩|⟨q,Z,C,rfl,_⟩<;>exact⟨rfl,rfl⟩
def b7.len(V:P.underlying t=some (.slice e))(h:b7 S n H z v m):gh P H' t v=some (.int .i64 m.length):=by
 rcases h with⟨rfl,rfl⟩|⟨q,Z,C,rfl,o,Y,I,U,W⟩
 .exact Bg V
 .rw[Bf V,show C.length=m.length from cP.len W]
theorem b7.push{b:Nat}{zz:ql}(ht:P.underlying t=some (.slice e))(hs:br P e=some z)(hb:cw P e=some b)(hz:cj P e=some zz)(M:zz.length=z)(J:hB P t=true)
 {lo:Nat}{I:List ql} (h:b7 (fun k=>lo<=k) n H z v I) (hlo:lo<=H.next) {imm:Nat}{row:ql} (hg:H.get r=some (.cells row imm true)) (Y:row.length=z) (U:row.all AV.one=true)
 (hw:bW (fun k=>lo<=k/\∀o m V,v≠.sl k o m V) n H row w) (hb1:(I.length+1)*b<=cX) (hb2:I.length+1<=cX) :
 ∃v' H',cY P false H t t v (.sl r 0 1 z)=some (v',H')/\b7 (fun k=>lo<=k) n H' z v' (I++[w])/\H'.next=H.next+1/\(∀k,k<H.next->(∀o m V,v≠.sl k o m V)->H'.get k=H.get k)/\∀k o m V,v'=.sl k o m V->k=H.next:=by
 have hx:eF H z (.sl r 0 1 z)=some (1,row):=by
  have:=sk (H:=H) (r:=r) (o:=0) (n:=1) (z:=z) (s:=z) hg FM;rw[this,ft,fk ac]
 rcases h with⟨rfl,rfl⟩|⟨q,L,C,rfl,h1,h2,h3,h4,h5⟩
 .refine⟨.sl H.next 0 1 z,H.alloc (.cells row 0 true),append_nil ht hs hb hz J hx U M (by simpa using hb1) (by simpa using hb2),.inr ⟨H.next,0,[row],rfl,hlo,ct _,by rw[aJ,aB rfl];simp,aE,⟨⟨Y,hw.aD (fun k h1 h2=>⟨h2.1,ac⟩) (dB _) fun k h1 h2=>fC⟩,trivial⟩⟩,rfl,fun k hk _=>fC,fun k o m V e=>?_⟩;simp only[AV.sl.injEq]at e;exact e.1.symm
 .have hrl:=vK (fJ.len h5);have hwl:C.length=I.length:=cP.len h5;have htr:fN false H z (.sl q 0 C.length z)=H:=by
   unfold fN;simp only[h3,bX];have:Nat.blt (C.length*z) C.flatten.length=false:=by
    cases hb:Nat.blt (C.length*z) C.flatten.length with
    |false=>rfl
    |true=>rw[hZ]at hb;omega
   simp only[lM,gm,this,jI]
  refine⟨.sl H.next 0 (C.length+1) z,(H.aU q).alloc (.cells (C.flatten++row) (L-0) true),?_,.inr ⟨H.next,L-0,C++[row],aE,hlo,ct _,?_,FN,?_⟩,rfl,fun k hk hno=>?_,fun k o m V e=>?_⟩
  .simp only[cY,ht,hs,hb,hz,J,hx,U,htr,M,oz,cg,lh,h3,bX,ft,cE,cm];rw[aB ⟨by rw[hwl];exact hb1,by rw[hwl];exact hb2,ac,trivial,h4⟩]
  .show((H.aU q).alloc _).get (H.aU q).next=_
   rw[aJ,aB rfl];simp
  .have W:∀k,k<H.next->k≠q->((H.aU q).alloc (.cells (C.flatten++row) (L-0) true)).get k=H.get k:=fun k O Z=>by rw[aJ,ao kU,fD,ao Z]
   refine cP.append (h5.aD (fun k O Z=>⟨Z.1,ac⟩) (dB _) fun k O Z=>W k Z O.2) ⟨⟨Y,hw.aD (fun k O Z=>⟨Z.1,ac⟩) (dB _) fun k O Z=>W k Z fun e=>O.2 0 C.length z mC⟩,trivial⟩
  .rw[aJ,ao kU,fD,ao (fun e=>hno 0 C.length z mC)]
  .simp only[AV.sl.injEq]at e;exact e.1.symm
def Rt(h:∀r∈C,r.length=z):eF H z (.aq C)=some (C.length,C.flatten):=by
 simp only[eF];rw[aB (by rw[gk];intro r hr;simp[h r hr])]
def bW.ar(x:Ar):bW S (n+1) H x.cells x.cells:=.cons (.ag _) (.cons (.int _ _) .nil)
theorem Gq{S:Nat->Prop}{n:Nat}{H:Hp}:∀l:List Ar,fJ S (n+1) H 2 (l.map Ar.cells) (l.map Ar.cells)
 |[]=>trivial
 |a::l=>⟨⟨rfl,bW.ar a⟩,Gq l⟩
theorem Gs:∀l:List Ar,(l.map Ar.cells).flatten.all AV.one=true
 |[]=>rfl
 |a::l=>by rw[eJ,ot,u5,a.one,Gs l];rfl
theorem Ru{n:Nat}{imm:Nat}{tip:Bool}(l:qp)(hS:S q)(Z:q<H.next)(L:H.get q=some (.cells (l.map fun n=>.int .i64 n) imm tip))(J:imm<=l.length):cK S (n+2) H (.sl q 0 l.length 1) (.aq (l.map fun n=>[.int .i64 n])):=by
 have o:(l.map fun n=>[AV.int .i64 n]).flatten=l.map fun n=>AV.int .i64 n:=by
  clear L J;induction l with
  |nil=>rfl
  |cons a l ih=>rw[eJ,ot,ih];rfl
 have hr:∀l:qp,fJ S (n+1) H 1 (l.map fun n=>[AV.int .i64 n]) (l.map fun n=>[AV.int .i64 n]):=fun l=>by
  induction l with
  |nil=>trivial
  |cons a l ih=>exact⟨⟨rfl,.cons (.int _ _) .nil⟩,ih⟩
 have:=cK.rows (n:=n+1) (a:=l.map fun n=>[AV.int .i64 n]) (imm:=imm) (tip:=tip) hS Z (by rw[o];exact L) (by rw[o,dh];exact J) (hr l);rw[dh]at this;exact this
def BT{cfg:Cfg}(fit:Fit prog){ρ:Nat->Int}(J:kF cfg.b9 ρ)(L:∀f C r,cfg.call f C=some r->cp prog ρ f C r){g:FuncId}{C:ql}{r:AV}
 (V:eO C) (h:aX prog cfg g C bE fun v H'=>∃m u,iceV H' m v=some u/\eP n u=r):cp prog ρ g C r:=by
 unfold aX at h;obtain⟨v,H',o,m,u,Z,I⟩:=h;refine Gj n (FJ (m:=m) fit J L V ?_) I;unfold aX;exact⟨v,H',o,Z⟩
theorem Gt{b:Nat}{zz:ql}(ht:P.underlying t=some (.slice e))(hs:br P e=some z)(O:cw P e=some b)(hz:cj P e=some zz)(W:zz.length=z)(J:hB P t=true)
  (h:b7 S n H z v Y) (hSS:∀k,k<H.next->S k->S' k) (hN:S' H.next) {imm:Nat}{row:ql} (hg:H.get r=some (.cells row imm true)) (hrow:row.length=z) (U:row.all AV.one=true)
 (I:(Y.length+1)*b<=cX) (V:Y.length+1<=cX) :
 ∃H' C L,cY P false H t t v (.sl r 0 1 z)=some (.sl H.next 0 (Y.length+1) z,H')/\C.length=Y.length/\(∀x∈C,x.length=z)/\H'.get H.next=some (.cells (C.flatten++row) L true)/\L<=C.flatten.length/\H'.next=H.next+1/\(∀k,k<H.next->(∀o m z',v≠.sl k o m z')->H'.get k=H.get k) /\
  fJ (fun k=>S' k/\k≠H.next) n H' z C Y:=by
 have hx:eF H z (.sl r 0 1 z)=some (1,row):=by
  have:=sk (H:=H) (r:=r) (o:=0) (n:=1) (z:=z) (s:=z) hg FM;rw[this,ft,fk ac]
 rcases h with⟨rfl,rfl⟩|⟨q,L,C,rfl,h1,h2,h3,h4,M⟩
 .exact⟨H.alloc (.cells row 0 true),[],0,append_nil ht hs O hz J hx U W pw (by simpa using V),rfl,aE,by rw[aJ,aB rfl];simp,db _,rfl,fun k hk _=>fC,trivial⟩
 .have hrl:=vK (fJ.len M);have Z:C.length=Y.length:=cP.len M;have htr:fN false H z (.sl q 0 C.length z)=H:=by
   unfold fN;simp only[h3,bX];have:Nat.blt (C.length*z) C.flatten.length=false:=by
    cases O:Nat.blt (C.length*z) C.flatten.length with
    |false=>rfl
    |true=>rw[hZ]at O;omega
   simp only[lM,gm,this,jI]
  refine⟨(H.aU q).alloc (.cells (C.flatten++row) (L-0) true),C,L-0,?_,Z,fJ.len M,?_,ac,rfl,fun k hk hno=>?_,?_⟩
  .simp only[cY,ht,hs,O,hz,J,hx,U,htr,W,oz,cg,lh,h3,bX,ft,cE,cm];rw[aB ⟨by rw[Z];exact I,by rw[Z];exact V,ac,trivial,h4⟩,Z]
  .show((H.aU q).alloc _).get (H.aU q).next=_
   rw[aJ,aB rfl]
  .rw[aJ,ao kU,fD,ao (fun e=>hno 0 C.length z mC)]
  .exact M.aD (fun k h6 h7=>⟨hSS k h6 h7.1,ac⟩) (dB _) fun k h6 h7=>by rw[aJ,ao kU,fD,ao h6.2]
def b7.of{imm:Nat}{row:ql}(hS:S q)(o:q<H.next)(Y:∀x∈C,x.length=z)(Z:row.length=z)(L:H.get q=some (.cells (C.flatten++row) imm true))(J:imm<=C.flatten.length)(hr:fJ (fun k=>S k/\k≠q) n H z C m)(V:bW (fun k=>S k/\k≠q) n H row w):b7 S n H z (.sl q 0 (m.length+1) z) (m++[w]):=by
 have W:C.length=m.length:=cP.len hr;exact .inr ⟨q,imm,C++[row],by rw[em,W];rfl,hS,o,by rw[L];simp,FN,hr.append ⟨⟨Z,V⟩,trivial⟩⟩
structure FnL (pt:Nat->Nat) (b n:Nat) (H:Hp) (f:Fu) (p l bo:AV) (v:ql):Prop where
 len:v.length=5
 one:v.all AV.one=true
 ps:b7 (fun q=>pt q=b) n H 1 p (f.params.map fun s=>[AV.ag s])
 ls:b7 (fun q=>pt q=b+1) n H 1 l (f.ai.map fun s=>[AV.ag s])
 bo:b7 (fun q=>pt q=b+2) n H 17 bo (f.body.map St.cells)
 vw:bW (fun q=>pt q=b+3) n H v f.value.cells
def Gu(nm:qn)(p l Y:AV)(v:ql):ql:=[.ag nm,p,l,Y]++v
def BU{b:Nat}{C:ql}(ht:P.underlying t=some (.slice e))(hs:br P e=some z)(hb:cw P e=some b)(hz:cj P e=some C)(W:C.length=z)(J:hB P t=true)
  (h:b7 S n H z v Y) (V:∀k,k<H.next->S k->S' k) (hN:S' H.next) {imm:Nat}{row:ql} (hg:H.get r=some (.cells row imm true)) (Z:row.length=z) (U:row.all AV.one=true)
 (hw:bW (fun k=>S' k/\∀o m L,v≠.sl k o m L) n H row w) (I:(Y.length+1)*b<=cX) (O:Y.length+1<=cX) :
 ∃H',cY P false H t t v (.sl r 0 1 z)=some (.sl H.next 0 (Y.length+1) z,H')/\b7 S' n H' z (.sl H.next 0 (Y.length+1) z) (Y++[w])/\H'.next=H.next+1/\(∀k,k<H.next->(∀o m L,v≠.sl k o m L)->H'.get k=H.get k):=by
 obtain⟨H',rows,imm',a1,a2,a3,a4,a5,a6,a7,a8⟩:=Gt (P:=P) ht hs hb hz W J h V hN hg Z U I O;refine⟨H',a1,?_,a6,a7⟩;exact b7.of hN ac a3 Z a4 a5 a8 (hw.aD (fun k h1 M=>⟨M.1,ac⟩) ac fun k h1 M=>a7 k M h1.2)
def tyPzA.tyF:=ad @cJ (ad @oG (ad @cM (ad @lU (ad @kS (ad @lV (ad @mI (ad @vF (ad @QJ (@io)))))))))
open tyPzA
noncomputable def Gv:{c:SC // aG 53 (f54.body.getD .skip)=c}:=by
 refine⟨?_,?_⟩;rotate_left
 .simp only[f54,bK,aG,bF,bw,bH,bI,Nat.blt,Nat.ble];rfl
noncomputable def Gw:{c:SC // aG 54 (f55.body.getD .skip)=c}:=by
 refine⟨?_,?_⟩;rotate_left
 .simp only[f55,bK,aG,bF,bw,bH,bI,Nat.blt,Nat.ble];rfl
noncomputable def Gx:{c:SC // aG 125 (f23.body.getD .skip)=c}:=by
 refine⟨?_,?_⟩;rotate_left
 .simp only[f23,bK,aG,bF,bw,bH,bI,Nat.blt,Nat.ble];rfl
structure NuX where
 s:qn
 most:Nat
def sC(x:NuX):ql:=[.ag x.s,.int .u64 (x.most:Int)]
def Rv(x y:NuX)(h:sC x=sC y):x=y:=by
 obtain⟨a,b⟩:=x;obtain⟨c,d⟩:=y;simp only[sC,eU,AV.ag.injEq,AV.int.injEq,bu,kI]at h;obtain⟨rfl,h⟩:=h;rw[Int.ofNat.inj h]
def vL(x:NuX):Prop:=(lQ x.s).isSome=true/\dv x.s<=x.most/\x.most<2^64
def BV{s:qn}(h:(lQ s).isSome=true):1<=s.length/\s.length<=19/\(∀b∈s,48<=b.toNat/\b.toNat<=57)/\(s.length=1\/s.headD 0≠48)/\dv s<=9223372036854775808:=by
 unfold lQ at h;split at h
 .rename_i c;simp only[j0,gk,EL,jl,pD,iL]at c;exact⟨c.1.1.1.1,c.1.1.1.2,fun b C=>c.1.1.2 b C,c.1.2,c.2⟩
 .cases h
theorem Gy(s:qn)(b:UInt8):dv (s++[b])=10*dv s+(b.toNat-48):=by
 unfold dv;rw[List.foldl_append];rfl
theorem Gz:∀(n:Nat) (s:qn),s.length=n->(∀b∈s,48<=b.toNat/\b.toNat<=57)->dv s<10^ n
 |0,s,h,_=>by rw[Dz.1 h];decide
 |n+1,s,h,hd=>by
  have z:s≠[]:=fun e=>by rw[e]at h;simp at h
  have U:=List.dropLast_concat_getLast z;have ih:=Gz n s.dropLast (by rw[List.length_dropLast,h];rfl) fun b C=>hd b (List.dropLast_subset _ C);have C:=hd _ (List.getLast_mem z);rw[<-U,Gy,Nat.pow_succ];omega
def BW{z:Int}(h1:0<=z)(h2:z<18446744073709551616):IntKind.wrap .u64 z=z:=by rw[tK];omega
def Rw{z:Int}(h1:0<=z)(h2:z<256):IntKind.wrap .u8 z=z:=by rw[tL];omega
theorem Rz(x:NuX)(hx:vL x):cp prog ρ 54 (sC x) (.aO [.int .u64 (dv x.s:Int),.bool true]):=fI fit (pls:=pls) (l:=[]) trivial (.cons (.ag _) (.cons (.int _ _) .nil)) (.aO (.cons (.int _ _) (.cons (.bool _) .nil))) (by
 obtain⟨s,V⟩:=x;obtain⟨h0,hm,hmm⟩:=hx;obtain⟨h1,h2,hd,Y,-⟩:=BV h0;simp only[]at h1 h2 hd Y;have hw:=fy 54;rw[sC];simp only[]at hm hmm⊢;refine bA (M:=53) (rs:=[.tmp 4,.tmp 5]) (hw.call _) hw.aF hw.ak func54 rfl rfl Gv.2 rfl ?_;dsimp only[Gv,bt,Nat.reduceAdd];repeat' (first
  |(apply aj ?_;clear hK K)|apply Rx.o ?_|apply ai ?_|(apply ah fun K hK=>?_)|apply aq ?_|apply am ?_|apply au ?_|apply aw ?_)
 refine dz [0,1] [] 7 s.length (fun i E H=>E.at 6=.int .u64 (dv (s.take i):Int)) eE (by simp only[a0];rfl) ?_;rintro i E H2 hi I o m hsI hJ;(try simp only[bN,bO,bu,aM,a0,Nat.reduceBEq,Nat.reduceAdd,Nat.reduceLeDiff,tyF, *]at I);(try simp only[bN,bO,bu,aM,a0,Nat.reduceBEq,Nat.reduceAdd,Nat.reduceLeDiff,tyF, *]at o);(try simp only[bj,bJ,cL,bX,Nat.reduceAdd]at m);by_cases O:i<s.length
 .have U:(i:Int)<s.length:=by omega
  have hgx:s[i]?=some s[i]:=bc O;have C:=hd _ (dU O);have hg0:s[0]?=some s[0]:=bc ac;have hlv:=Gz i (s.take i) u0 fun b C=>hd b (List.mem_of_mem_take C);have hp:10^ i<=10^18:=Nat.pow_le_pow_right aZ ac;have htk:dv (s.take (i+1))=10*dv (s.take i)+(s[i].toNat-48):=by rw[kD,hgx];exact Gy _ _
  have hh:i=1->¬((s[0].toNat:Int)=48):=fun e=>by
   have:s.headD 0=s[0]:=by cases s with|nil=>simp at O|cons a t=>rfl
   rw[this]at Y;intro e2;rcases Y with Y|Y
   .omega
   .exact Y (UInt8.toNat_inj.1 (by show s[0].toNat=48;omega))
  generalize s[i]=b at *;generalize s[0]=b0 at *;generalize dv (s.take i)=n at *;have c1:¬((b.toNat:Int)<48):=ac;have c2:¬((57:Int)<b.toNat):=ac;have c4:¬((18:Int)<i):=ac;have e1:IntKind.wrap .u8 ((b.toNat:Int)-48)=(b.toNat:Int)-48:=Rw ac ac;have e2:IntKind.wrap .u64 ((b.toNat:Int)-48)=(b.toNat:Int)-48:=BW ac ac;have e3:IntKind.wrap .u64 (10*(n:Int))=10*(n:Int):=BW ac ac;have e4:IntKind.wrap .u64 (10*(n:Int)+((b.toNat:Int)-48))=10*(n:Int)+((b.toNat:Int)-48):=BW ac ac;have J:∀z:Int,z=10*(n:Int)+((b.toNat:Int)-48)->AV.int .u64 z=.int .u64 (dv (s.take (i+1)):Int):=fun z Y=>by rw[Y,htk];congr 1;omega
  by_cases c3:(i:Int)=1
  .have c5:=hh ac;have c6:decide ((i:Int)=1)=true:=by rw[c3];rfl
   clear c3;repeat' (first
    |(apply aj ?_;clear hK K)|apply Ry.o ?_|(apply bS (fun W Z=>?_) (fun W Z=>?_)<;>try(cases W;done))|(apply aY (fun C L=>?_) (fun C L=>?_)<;>try(cases C;done))|apply ai ?_|(apply ah fun K hK=>?_)|apply aq ?_|apply am ?_|apply au ?_|apply aw ?_)
   refine⟨ac,bm,bm,cN,FQ,?_⟩;exact Eq.trans (b:=AV.int .u64 (10*(n:Int)+((b.toNat:Int)-48))) eE (J _ rfl)
  .repeat' (first
    |(apply aj ?_;clear hK K)|apply Ry.o ?_|(apply bS (fun W Z=>?_) (fun W Z=>?_)<;>try(cases W;done))|(apply aY (fun C L=>?_) (fun C L=>?_)<;>try(cases C;done))|apply ai ?_|(apply ah fun K hK=>?_)|apply aq ?_|apply am ?_|apply au ?_|apply aw ?_)
   refine⟨ac,bm,bm,cN,FQ,?_⟩;exact Eq.trans (b:=AV.int .u64 (10*(n:Int)+((b.toNat:Int)-48))) eE (J _ rfl)
 .have U:¬(i:Int)<s.length:=by omega
  rw[fk ac]at hJ;have c1:¬(s=[]):=fun e=>by rw[e]at h1;simp at h1
  have c2:¬((V:Int)<dv s):=ac;repeat' (first
   |(apply aj ?_;clear hK K)|apply Ry.o ?_|(apply bS (fun W Z=>?_) (fun W Z=>?_)<;>try(cases W;done))|(apply aY (fun C L=>?_) (fun C L=>?_)<;>try(cases C;done))|apply ai ?_|(apply ah fun K hK=>?_)|apply aq ?_|apply am ?_|apply au ?_|apply aw ?_)
  all_goals refine qq ?_
  all_goals trivial)
noncomputable def oK:En:=⟨54,false,dA vL sC fun x=>.aO [.int .u64 (dv x.s:Int),.bool true]⟩
def BX:eu prog ρ oK:=eY fun x O=>Rz ρ x O
def BY(h:∀m,dR tb 54 m=oK.sp m){s:qn}{most:Nat}(O:vL ⟨s,most⟩)(H:Hp):aX prog (aK pls tb) 54 [.ag s,.int .u64 (most:Int)] H fun v H'=>v=.aO [.int .u64 (dv s:Int),.bool true]/\H'=H:=ev (enc:=sC) (ok:=vL) (out:=fun x=>.aO [.int .u64 (dv x.s:Int),.bool true]) Rv (x:=⟨s,most⟩) (h _) O
def GA{s t:qn}(h:xV s=some t):(∀t∈pI,s.take t.length≠t)/\t=s.take 1/\∃b r,s=b::r/\b∈nz:=by
 unfold xV at h;split at h
 .rename_i c;simp only[ca,gk,pD,iL,List.contains_iff_mem]at c;refine⟨c.1,by simpa using h.symm,?_⟩;cases s with
  |nil=>exact absurd c.2 aZ
  |cons b r=>exact⟨b,r,rfl,c.2⟩
 .cases h
def RA(H:Hp):ec prog H 60 7 [(0,.ag [62,62,62]),(1,.ag [60,60]),(2,.ag [62,62]),(3,.ag [60,61]),(4,.ag [62,61]),(5,.ag [61,61]),(6,.ag [33,61])]=some (.sl H.next 0 7 1,H.alloc (.cells (pI.map .ag) 0 true)):=aF
def vM(s:qn):Prop:=∃t,xV s=some t
theorem RB(s:qn)(hx:vM s):cp prog ρ 55 [.ag s] (.ag (s.take 1)):=fI fit (pls:=pls) (l:=[]) trivial (.cons (.ag _) .nil) (.ag _) (by
 obtain⟨t,ht⟩:=hx;obtain⟨hL,-,b,r,rfl,hbm⟩:=GA ht;have hw:=fy 55;refine bA (M:=54) (rs:=[.tmp 2]) (hw.call _) hw.aF hw.ak func55 rfl rfl Gw.2 rfl ?_;dsimp only[Gw,bt,Nat.reduceAdd];have gh0:=@RA;repeat' (first
  |(apply aj ?_;clear hK K)|apply Rx.o ?_|apply ai ?_|(apply ah fun K hK=>?_)|(apply ak 5 [(1,22),(5,22),(6,22),(13,22),(14,22),(15,22),(19,22)] fun K hK=>?_)|(apply ci 11 fun K hK=>?_)|(apply aV ?_;try intro _)|(apply aW ?_ ?_<;>clear hK K)|apply aU ?_|apply aq ?_|apply am ?_|apply au ?_|apply aw ?_)
 refine dz [0,3] [0] 4 7 (fun i E H=>True) eE trivial ?_;rintro i E H2 hi V U O hsI hJ;(try simp only[bN,bO,bu,aM,a0,Nat.reduceBEq,Nat.reduceAdd,Nat.reduceLeDiff,tyF, *]at V);(try simp only[bN,bO,bu,aM,a0,Nat.reduceBEq,Nat.reduceAdd,Nat.reduceLeDiff,tyF, *]at U);(try simp only[bj,bJ,cL,bX,Nat.reduceAdd]at O);have hB0:(0 == H2.next)=false:=bQ ac;have hC0:(H2.next == 0)=false:=bQ ac;have h7:pI.length=7:=rfl;by_cases J:i<7
 .have z:(i:Int)<((7:Nat):Int):=by omega
  have W:(pI.map AV.ag)[i]?=some (.ag pI[i]):=by rw[ii,bc ac];rfl
  have hne:=hL _ (dU (by omega:i<pI.length));generalize pI[i]=t at *;have hix:dZ prog 60 (.sl 0 0 7 1) (.int .i64 (i:Int))=some (.ptr 0 i):=by rw[vu underlying60 vC J];simp
  by_cases I:t.length<=(b::r).length
  .have o:(t.length:Int)<=((r.length+1:Nat):Int):=by rw[cy]at I;omega
   have hsl:=vA (P:=prog) (k:=.i64) underlying9 I;repeat' (first
    |(apply aj ?_;clear hK K)|apply Ry.o ?_|(apply aY (fun Z L=>?_) (fun Z L=>?_)<;>try(cases Z;done))|apply ai ?_|(apply ah fun K hK=>?_)|(apply ak 5 [(1,22),(5,22),(6,22),(13,22),(14,22),(15,22),(19,22)] fun K hK=>?_)|(apply ci 11 fun K hK=>?_)|(apply aV ?_;try intro _)|(apply aW ?_ ?_<;>clear hK K)|apply aU ?_|(apply fH (fun Y C=>?_) (fun Y C=>?_)<;>try(cases Y;done))|apply aq ?_|apply am ?_|apply au ?_|apply aw ?_)
   .exact cG
   refine⟨ac,bm,bm,cN,FR,?_⟩;trivial
  .have o:¬(t.length:Int)<=((r.length+1:Nat):Int):=by rw[cy]at I;omega
   repeat' (first
    |(apply aj ?_;clear hK K)|apply Ry.o ?_|(apply aY (fun Z L=>?_) (fun Z L=>?_)<;>try(cases Z;done))|apply ai ?_|(apply ah fun K hK=>?_)|(apply ak 5 [(1,22),(5,22),(6,22),(13,22),(14,22),(15,22),(19,22)] fun K hK=>?_)|(apply ci 11 fun K hK=>?_)|(apply aV ?_;try intro _)|(apply aW ?_ ?_<;>clear hK K)|apply aU ?_|(apply fH (fun Y C=>?_) (fun Y C=>?_)<;>try(cases Y;done))|apply aq ?_|apply am ?_|apply au ?_|apply aw ?_)
   .exact cG
   refine⟨ac,bm,bm,cN,FR,?_⟩;trivial
 .have z:¬(i:Int)<((7:Nat):Int):=by omega
  repeat' (first
   |(apply aj ?_;clear hK K)|apply Ry.o ?_|(apply aY (fun Z L=>?_) (fun Z L=>?_)<;>try(cases Z;done))|apply ai ?_|(apply ah fun K hK=>?_)|(apply ak 5 [(1,22),(5,22),(6,22),(13,22),(14,22),(15,22),(19,22)] fun K hK=>?_)|(apply ci 11 fun K hK=>?_)|(apply aV ?_;try intro _)|(apply aW ?_ ?_<;>clear hK K)|apply aU ?_|(apply fH (fun Y C=>?_) (fun Y C=>?_)<;>try(cases Y;done))|apply aq ?_|apply am ?_|apply au ?_|apply aw ?_)
  refine dz [0,5] [] 6 23 (fun i E H=>b∉nz.take i) eE aE ?_;clear z J hi;rintro i E H2 hi V U O hsI hJ;(try simp only[bN,bO,bu,aM,a0,Nat.reduceBEq,Nat.reduceAdd,Nat.reduceLeDiff,tyF, *]at V);(try simp only[bN,bO,bu,aM,a0,Nat.reduceBEq,Nat.reduceAdd,Nat.reduceLeDiff,tyF, *]at U);(try simp only[bj,bJ,cL,bX,Nat.reduceAdd]at O);have h23:nz.length=23:=rfl;have hsl:g8 prog 9 (.ag (b::r)) none (some (.int .i64 1))=some (.ag ((b::r).take 1)):=vA (P:=prog) (k:=.i64) (m:=1) underlying9 aE;by_cases J:i<23
  .have z:(i:Int)<((23:Nat):Int):=by omega
   have W:nz[i]?=some nz[i]:=bc ac;have htk:nz.take (i+1)=nz.take i++[nz[i]]:=by rw[kD,W];rfl
   generalize nz[i]=c at *;have W:([43,45,42,47,37,38,124,94,126,33,60,62,61,63,58,59,44,40,41,123,125,91,93]:qn)[i]?=some c:=W;by_cases hc:b=c
   .subst hc;repeat' (first
     |(apply aj ?_;clear hK K)|apply Ry.o ?_|(apply aY (fun Z L=>?_) (fun Z L=>?_)<;>try(cases Z;done))|apply ai ?_|(apply ah fun K hK=>?_)|(apply ak 5 [(1,22),(5,22),(6,22),(13,22),(14,22),(15,22),(19,22)] fun K hK=>?_)|(apply ci 11 fun K hK=>?_)|(apply aV ?_;try intro _)|(apply aW ?_ ?_<;>clear hK K)|apply aU ?_|(apply fH (fun Y C=>?_) (fun Y C=>?_)<;>try(cases Y;done))|apply aq ?_|apply am ?_|apply au ?_|apply aw ?_)
    all_goals refine qq ?_
    rfl
   .have hc':¬((b.toNat:Int)=c.toNat):=fun e=>hc (UInt8.toNat_inj.1 ac);repeat' (first
     |(apply aj ?_;clear hK K)|apply Ry.o ?_|(apply aY (fun Z L=>?_) (fun Z L=>?_)<;>try(cases Z;done))|apply ai ?_|(apply ah fun K hK=>?_)|(apply ak 5 [(1,22),(5,22),(6,22),(13,22),(14,22),(15,22),(19,22)] fun K hK=>?_)|(apply ci 11 fun K hK=>?_)|(apply aV ?_;try intro _)|(apply aW ?_ ?_<;>clear hK K)|apply aU ?_|(apply fH (fun Y C=>?_) (fun Y C=>?_)<;>try(cases Y;done))|apply aq ?_|apply am ?_|apply au ?_|apply aw ?_)
    refine⟨ac,bm,bm,cN,(by simp only[aM,Nat.reduceBEq, *];exact gp (n:=23) ac ac),?_⟩;rw[htk];intro h;rcases ow.1 h with h|h
    .exact hJ h
    .exact hc (tM.1 h)
  .rw[fk ac]at hJ;exact absurd hbm hJ)
noncomputable def BZ:En:=⟨55,false,dA vM (fun s=>[.ag s]) fun s=>.ag (s.take 1)⟩
def RC:eu prog ρ BZ:=eY fun x O=>RB ρ x O
def RD(h:∀m,dR tb 55 m=BZ.sp m){s:qn}(O:vM s)(H:Hp):aX prog (aK pls tb) 55 [.ag s] H fun v H'=>v=.ag (s.take 1)/\H'=H:=ev (enc:=fun s:qn=>[.ag s]) (ok:=vM) (out:=fun s=>.ag (s.take 1)) (fun x y h=>fQ) (x:=s) (h _) O
end
section
def tyPzB.tyF:=ad @cJ (ad @oG (ad @cM (ad @lU (ad @kS (ad @lV (@mI))))))
open tyPzB
def RE{k M:IntKind}{s:qn}{a:Nat}(V:P.underlying t=some .string)(h:a+n<=s.length):g8 P t (.ag s) (some (.int k (a:Int))) (some (.int M ((a+n:Nat):Int)))=some (.ag ((s.drop a).take n)):=by
 show g8 P t (.ag s) (some (.int k (Int.ofNat a))) (some (.int M (Int.ofNat (a+n))))=_;simp only[g8,V,eS];rw[aB ⟨Nat.le_add_right _ _,h⟩,Nat.add_sub_cancel_left]
def B0(i:Int):dF prog 116 [(0,.int .i64 3),(1,.ag []),(2,.int .i64 i)]=some (.agg [.int .i64 3,.ag [],.int .i64 i]):=aF
theorem vN(a b:AV):Ab.extract (.aO [a,b]) 0=some a:=rfl
theorem vO(a b:AV):Ab.extract (.aO [a,b]) 1=some b:=rfl
def GB:dF prog 44 []=some (.agg [.int .i64 0,.int .i64 0]):=aF
def vP(H:Hp)(a:Int)(b:qn)(c:Int):ec prog H 72 1 [(0,.agg [.int .i64 a,.ag b,.int .i64 c])]=some (.sl H.next 0 1 3,H.alloc (.cells [.int .i64 a,.ag b,.int .i64 c] 0 true)):=aF
noncomputable def lZ:qs:=[tO,tP,oK,BZ]
def RF:iN prog ρ lZ:=⟨FY ρ,FZ ρ,BX ρ,RC ρ,trivial⟩
def RG(x:Tk):bW S 2 H [.int .i64 x.ah,.ag x.text,.int .i64 x.aW] x.cells:=.cons (.int _ _) (.cons (.ag _) (.cons (.int _ _) .nil))
def B1{O:AV}{l:qx}(h:b7 (fun k=>1<=k) 2 H 3 O (l.map Tk.cells))(M:1<=H.next)(x:Tk)(L:l.length<2^30):
 ∃H',cY prog false (H.alloc (.cells [.int .i64 x.ah,.ag x.text,.int .i64 x.aW] 0 true)) 72 72 O (.sl H.next 0 1 3)=some (.sl (H.next+1) 0 (l.length+1) 3,H')/\H'.next=H.next+2/\(∀k,k<H.next->(∀o m Y,O≠.sl k o m Y)->H'.get k=H.get k)/\b7 (fun k=>1<=k) 2 H' 3 (.sl (H.next+1) 0 (l.length+1) 3) ((l++[x]).map Tk.cells):=by
 obtain⟨H',J,W,V,U⟩:=BU (P:=prog) (t:=72) underlying72 tF yc yd rfl aF (S':=fun k=>1<=k)
  (h.keep (S':=fun k=>1<=k) (H':=H.alloc (.cells [.int .i64 x.ah,.ag x.text,.int .i64 x.aW] 0 true)) (fun _ _ h=>h) (dB _) fun k _ z=>fC) (fun _ _ h=>h) (Nat.le_succ_of_le M) (r:=H.next) (imm:=0) (row:=[.int .i64 x.ah,.ag x.text,.int .i64 x.aW]) (w:=x.cells) jB rfl rfl (RG x)
  tJ tJ
 rw[dh]at J W;refine⟨H',J,by rw[V];rfl,fun k z Z=>by rw[U k eh Z,aJ,ao ac],?_⟩;rw[mD];exact W
def RH:∀(s:qn),(s.take (cq s)).length=cq s:=fun s=>by rw[iD];have:=xS s;omega
abbrev qe:HB:=.cells [.int .i64 0,.int .i64 0] 0 true
set_option maxRecDepth 100000 in
theorem RI(s:qn)(n:Nat)(l:qx)(h:jG n s 0=some l)(hs:s.length<=20000):
 aX prog (aK pls lZ) 23 [.ag s] bE fun v H'=>∃lv,v=.aO [lv,.agg [.int .i64 0,.int .i64 0]]/\b7 (fun k=>1<=k) 2 H' 3 lv (l.map Tk.cells):=by
 have hw:zaa (aK pls lZ) 23:=dK (fun _=>rfl) rfl;have hkeep:(aK pls lZ).keep 23=false:=rfl;have kl:∀(n:Int) (H:Hp),aX prog (aK pls lZ) 52 [.int .u8 n] H fun v H'=>v=.bool (fV n)/\H'=H:=fun n H=>ev (enc:=oH) (out:=fun n=>.bool (fV n)) yr (x:=n) rfl trivial;have kd:∀(n:Int) (H:Hp),aX prog (aK pls lZ) 53 [.int .u8 n] H fun v H'=>v=.bool (eW n)/\H'=H:=fun n H=>ev (enc:=oH) (out:=fun n=>.bool (eW n)) yr (x:=n) rfl trivial;refine bA (M:=125) (rs:=[.tmp 2,.cell 3 44]) (hw.call _) hw.aF hw.ak func23 rfl rfl Gx.2 rfl ?_;dsimp only[Gx,bt,Nat.reduceAdd];have hmax:¬((20000:Int)<s.length):=ac;repeat' (first
  |(apply aj ?_;clear hK K)|apply Ry.o ?_|apply bq ?_|apply fG ?_|(apply bS (fun Y C=>?_) (fun Y C=>?_)<;>try(cases Y;done))|(apply aY (fun W L=>?_) (fun W L=>?_)<;>try(cases W;done))|apply ai ?_|(apply ah fun K hK=>?_)|apply aq ?_|apply am ?_|apply au ?_|apply aw ?_)
 refine so [0,3] [0] (fun m E H=>∃(i:Nat) (l1 l2:qx) (lv:AV) (n':Nat),m=s.length-i/\i<=s.length/\l1.length<=i/\E.at 5=.int .i64 (i:Int)/\E.at 4=lv/\b7 (fun k=>1<=k) 2 H 3 lv (l1.map Tk.cells)/\jG n' (s.drop i) i=some l2/\l1++l2=l) s.length ⟨0,[],l,.aa,n,rfl,db _,az _,eE,eE,.inl ⟨rfl,rfl⟩,h,rfl⟩ ?_;clear h;rintro m E2 U hcE hrH hnH ⟨i,l1,l2,lv,n',rfl,hi,hli,k5,k4,V,Z,hl⟩;(try simp only[bN,bO,bu,aM,a0,Nat.reduceBEq,Nat.reduceAdd,Nat.reduceLeDiff,tyF, *]at hcE);have g0:U.get 0=some qe:=(hrH 0 eL).trans rfl;have hn1:1<=U.next:=hnH
 clear hrH hnH;have nn1:(0 == U.next)=false:=bQ ac;have nn2:(U.next == 0)=false:=bQ ac;by_cases hlt:i<s.length
 .have hlt':(i:Int)<s.length:=by omega
  have hgx:s[i]?=some s[i]:=bc hlt;have hdr:=eM hlt;generalize s[i]=c at *;rw[hdr]at Z;cases n' with
  |zero=>cases Z
  |succ n'=>
  unfold jG at Z;simp only[]at Z;have e5:IntKind.wrap .i64 ((i:Int)+1)=((i+1:Nat):Int):=ei;by_cases hbl:fF c=true
  .rw[aB hbl]at Z;have hb4:c.toNat=32\/c.toNat=9\/c.toNat=10\/c.toNat=13:=by
    unfold fF at hbl;simp only[jl,ji]at hbl;omega
   rcases hb4 with e|e|e|e
   .have e':(c.toNat:Int)=32:=by omega
    clear e hbl;repeat' (first
     |(apply aj ?_;clear hK K)|apply Ry.o ?_|apply bq ?_|apply fG ?_|(apply bS (fun Y C=>?_) (fun Y C=>?_)<;>try(cases Y;done))|(apply aY (fun W L=>?_) (fun W L=>?_)<;>try(cases W;done))|apply ai ?_|(apply ah fun K hK=>?_)|apply aq ?_|apply am ?_|apply au ?_|apply aw ?_)
    exact⟨bm,bm,cN,s.length-(i+1),ac,i+1,l1,l2,lv,n',rfl,ac,ac,eE,eE,V,Z,hl⟩
   .have e':(c.toNat:Int)=9:=by omega
    clear e hbl;repeat' (first
     |(apply aj ?_;clear hK K)|apply Ry.o ?_|apply bq ?_|apply fG ?_|(apply bS (fun Y C=>?_) (fun Y C=>?_)<;>try(cases Y;done))|(apply aY (fun W L=>?_) (fun W L=>?_)<;>try(cases W;done))|apply ai ?_|(apply ah fun K hK=>?_)|apply aq ?_|apply am ?_|apply au ?_|apply aw ?_)
    exact⟨bm,bm,cN,s.length-(i+1),ac,i+1,l1,l2,lv,n',rfl,ac,ac,eE,eE,V,Z,hl⟩
   .have e':(c.toNat:Int)=10:=by omega
    clear e hbl;repeat' (first
     |(apply aj ?_;clear hK K)|apply Ry.o ?_|apply bq ?_|apply fG ?_|(apply bS (fun Y C=>?_) (fun Y C=>?_)<;>try(cases Y;done))|(apply aY (fun W L=>?_) (fun W L=>?_)<;>try(cases W;done))|apply ai ?_|(apply ah fun K hK=>?_)|apply aq ?_|apply am ?_|apply au ?_|apply aw ?_)
    exact⟨bm,bm,cN,s.length-(i+1),ac,i+1,l1,l2,lv,n',rfl,ac,ac,eE,eE,V,Z,hl⟩
   .have e':(c.toNat:Int)=13:=by omega
    clear e hbl;repeat' (first
     |(apply aj ?_;clear hK K)|apply Ry.o ?_|apply bq ?_|apply fG ?_|(apply bS (fun Y C=>?_) (fun Y C=>?_)<;>try(cases Y;done))|(apply aY (fun W L=>?_) (fun W L=>?_)<;>try(cases W;done))|apply ai ?_|(apply ah fun K hK=>?_)|apply aq ?_|apply am ?_|apply au ?_|apply aw ?_)
    exact⟨bm,bm,cN,s.length-(i+1),ac,i+1,l1,l2,lv,n',rfl,ac,ac,eE,eE,V,Z,hl⟩
  .rw[ao hbl]at Z;have hb4:¬(c.toNat=32)/\¬(c.toNat=9)/\¬(c.toNat=10)/\¬(c.toNat=13):=by
    unfold fF at hbl;simp only[jl,ji,su]at hbl;omega
   have c32:¬((c.toNat:Int)=32):=ac;have c9:¬((c.toNat:Int)=9):=ac;have c10:¬((c.toNat:Int)=10):=ac;have c13:¬((c.toNat:Int)=13):=ac;clear hbl hb4;split at Z
   .cases Z
   rename_i h35;have c35:¬((c.toNat:Int)=35):=fun e=>h35 (by simpa using (by omega:c.toNat=35));clear h35;by_cases hwb:ee c=true
   .rw[aB hwb]at Z;have hwl:=xS (s.drop i);have hw1:1<=cq (s.drop i):=by rw[hdr,cq,aB hwb];omega
    rw[<-hdr]at Z;have htl:=RH (s.drop i);rw[ib]at hwl;have hdd:∀w,(s.drop i).drop w=s.drop (i+w):=fun w=>by rw[z9]
    rw[hdd]at Z;obtain⟨O,hwn⟩:∃O,cq (s.drop i)=O:=⟨_,rfl⟩;rw[hwn]at Z hwl hw1 htl;have hsl:g8 prog 9 (.ag s) (some (.int .i64 (i:Int))) (some (.int .i64 ((i+O:Nat):Int)))=some (.ag ((s.drop i).take O)):=RE underlying9 ac;generalize (s.drop i).take O=tx at *;have htx:¬(tx=[]):=fun e=>by rw[e]at htl;simp at htl;omega
    have e6:IntKind.wrap .i64 ((i:Int)+O)=((i+O:Nat):Int):=ei;by_cases hlc:fV c.toNat=true
    .have hdc:eW c.toNat=false:=by
      simp only[fV,eW,jl,j0,sr,iL]at hlc⊢;omega
     rw[ao (by rw[hdc];decide)]at Z;split at Z
     .cases Z
     rename_i h16;have c16:¬((16:Int)<IntKind.wrap .i64 (((i+O:Nat):Int)-i)):=ei;have gh0:=@B0;repeat' (first
      |(apply aj ?_;clear hK K)|apply Ry.o ?_|apply bq ?_|(apply ch ?_;first|refine Rx.k (kl _ _) ?_|refine Rx.k (kd _ _) ?_)|apply fG ?_|(apply bS (fun Y C=>?_) (fun Y C=>?_)<;>try(cases Y;done))|(apply aY (fun W L=>?_) (fun W L=>?_)<;>try(cases W;done))|apply ai ?_|(apply ah fun K hK=>?_)|apply aq ?_|apply am ?_|apply au ?_|apply aw ?_)
     generalize J:(U.alloc _).set U.next _=Hc
     have nc:U.next+1<=Hc.next:=by rw[<-J];exact az _
     have gc:Hc.get U.next=some (.cells [.int .i64 3,.ag [],.int .i64 (i:Int)] 0 true):=by rw[<-J,bi,aB rfl]
     have oc:∀k,k<U.next->Hc.get k=U.get k:=fun k hk=>FT
     clear J;refine tA (Q:=fun x E H=>x=AX.exit 4/\Hc=H/\E.at 0=.ag s/\E.at 3=.ptr 0 0/\E.at 4=lv/\E.at 5=.int .i64 (i:Int)/\E.at 6=.int .u8 (c.toNat:Int)/\E.at 7=.ptr U.next 0/\E.at 8=.int .i64 ((i+O:Nat):Int)) ?_ (kK (fun j E H=>Hc=H/\E.at 0=.ag s/\E.at 3=.ptr 0 0/\E.at 4=lv/\E.at 5=.int .i64 (i:Int)/\E.at 6=.int .u8 (c.toNat:Int)/\E.at 7=.ptr U.next 0/\E.at 8=.int .i64 ((i+j:Nat):Int)/\O=j+cq (s.drop (i+j))) (s.length-i) ?_ ⟨rfl,eE,eE,eE,eE,eE,eE,Eq.trans (b:=AV.int .i64 (i:Int)) eE (by rw[kE]),FO⟩);rotate_left
     .rintro j E4 H4 hj ⟨rfl,dL,k3,k4',k5',k6,k7,k8,hJ⟩;by_cases hlj:i+j<s.length
      .have hlj':((i+j:Nat):Int)<(s.length:Int):=by omega
       have hgy:s[i+j]?=some s[i+j]:=bc hlj;rw[eM hlj,cq]at hJ;generalize s[i+j]=d at *;have e5:IntKind.wrap .i64 (((i+j:Nat):Int)+1)=((i+(j+1):Nat):Int):=ei;by_cases hld:fV d.toNat=true
       .rw[aB (by unfold ee;rw[hld];rfl)]at hJ;repeat' (first
         |(apply aj ?_;clear hK K)|apply Ry.o ?_|apply bq ?_|(apply ch ?_;first|refine Rx.k (kl _ _) ?_|refine Rx.k (kd _ _) ?_)|apply fG ?_|(apply bS (fun Y C=>?_) (fun Y C=>?_)<;>try(cases Y;done))|(apply aY (fun W L=>?_) (fun W L=>?_)<;>try(cases W;done))|apply ai ?_|(apply ah fun K hK=>?_)|apply aq ?_|apply am ?_|apply au ?_|apply aw ?_)
        exact⟨ac,rfl,eE,eE,eE,eE,eE,eE,eE,yo⟩
       .have hld':fV d.toNat=false:=by simpa using hld
        by_cases hdd:eW d.toNat=true
        .rw[aB (by unfold ee;rw[hdd,tN])]at hJ;repeat' (first
          |(apply aj ?_;clear hK K)|apply Ry.o ?_|apply bq ?_|(apply ch ?_;first|refine Rx.k (kl _ _) ?_|refine Rx.k (kd _ _) ?_)|apply fG ?_|(apply bS (fun Y C=>?_) (fun Y C=>?_)<;>try(cases Y;done))|(apply aY (fun W L=>?_) (fun W L=>?_)<;>try(cases W;done))|apply ai ?_|(apply ah fun K hK=>?_)|apply aq ?_|apply am ?_|apply au ?_|apply aw ?_)
         exact⟨ac,rfl,eE,eE,eE,eE,eE,eE,eE,yo⟩
        .have hdd':eW d.toNat=false:=by simpa using hdd
         rw[ao (by unfold ee;rw[hld',hdd'];decide)]at hJ;obtain rfl:O=j:=ac;clear hJ;repeat' (first
          |(apply aj ?_;clear hK K)|apply Ry.o ?_|apply bq ?_|(apply ch ?_;first|refine Rx.k (kl _ _) ?_|refine Rx.k (kd _ _) ?_)|apply fG ?_|(apply bS (fun Y C=>?_) (fun Y C=>?_)<;>try(cases Y;done))|(apply aY (fun W L=>?_) (fun W L=>?_)<;>try(cases W;done))|apply ai ?_|(apply ah fun K hK=>?_)|apply aq ?_|apply am ?_|apply au ?_|apply aw ?_)
         exact⟨trivial,trivial,eE,eE,eE,eE,eE,eE,eE⟩
      .have hlj':¬((i+j:Nat):Int)<(s.length:Int):=by omega
       rw[nG ac]at hJ;simp only[cq,kE]at hJ;obtain rfl:O=j:=hJ;repeat' (first
        |(apply aj ?_;clear hK K)|apply Ry.o ?_|apply bq ?_|(apply ch ?_;first|refine Rx.k (kl _ _) ?_|refine Rx.k (kd _ _) ?_)|apply fG ?_|(apply bS (fun Y C=>?_) (fun Y C=>?_)<;>try(cases Y;done))|(apply aY (fun W L=>?_) (fun W L=>?_)<;>try(cases W;done))|apply ai ?_|(apply ah fun K hK=>?_)|apply aq ?_|apply am ?_|apply au ?_|apply aw ?_)
       exact⟨trivial,trivial,eE,eE,eE,eE,eE,eE,eE⟩
     rintro x E3 H3 ⟨rfl,rfl,dL,k3,k4',k5',k6,k7,k8⟩;have gc0:Hc.get 0=some qe:=(oc 0 ac).trans g0;have gh0:=@vP;repeat' (first
      |(apply aj ?_;clear hK K)|apply Ry.o ?_|apply bq ?_|(apply ch ?_;first|refine Rx.k (kl _ _) ?_|refine Rx.k (kd _ _) ?_)|apply fG ?_|(apply bS (fun Y C=>?_) (fun Y C=>?_)<;>try(cases Y;done))|(apply aY (fun W L=>?_) (fun W L=>?_)<;>try(cases W;done))|apply ai ?_|(apply ah fun K hK=>?_)|apply aq ?_|apply am ?_|apply au ?_|apply aw ?_)
     generalize I:Hp.set _ U.next (.cells [.int .i64 1,.ag tx,.int .i64 (i:Int)] 0 true)=Hd
     have nd:U.next+1<=Hd.next:=by rw[<-I];exact nc
     have gd:Hd.get U.next=some (.cells [.int .i64 1,.ag tx,.int .i64 (i:Int)] 0 true):=vH
     have od:∀k,k<U.next->Hd.get k=U.get k:=fun k hk=>Eq.trans (b:=Hc.get k) BN (oc k hk)
     clear I;have hldT:eR prog Hd 116 (.ptr U.next 0)=some (.agg [.int .i64 1,.ag tx,.int .i64 (i:Int)]):=BJ;obtain⟨H6,a6,n6,o6,own6⟩:=B1 (H:=Hd) (V.keep (fun _ _ h=>h) ac fun k _ hk=>od k hk) ac ⟨1,tx,i⟩ ac;simp only[]at a6;have z:∀k,k=0\/k=U.next->∀o m' z',lv≠.sl k o m' z':=fun k hk o m' z' e=>by
      rcases V with⟨h1,_⟩|⟨q',im,rows,h1,h2,h3,_⟩
      .rw[h1]at e;cases e
      .rw[h1]at e;simp only[AV.sl.injEq]at e;omega
     have g60:H6.get 0=some qe:=BO;have g6t:H6.get U.next=some (.cells [.int .i64 1,.ag tx,.int .i64 (i:Int)] 0 true):=(o6 U.next ac (z _ (.inr rfl))).trans gd
     have gh0:=@vP;repeat' (first
      |(apply aj ?_;clear hK K)|apply Ry.o ?_|apply bq ?_|apply fG ?_|(apply bS (fun Y C=>?_) (fun Y C=>?_)<;>try(cases Y;done))|(apply aY (fun W L=>?_) (fun W L=>?_)<;>try(cases W;done))|apply ai ?_|(apply ah fun K hK=>?_)|apply aq ?_|apply am ?_|apply au ?_|apply aw ?_)
     have hnx:1<=H6.next:=ac
     obtain⟨l3,h3,rfl⟩:=eI.1 Z;exact⟨bm,fun r hr=>BK,hnx,s.length-(i+O),ac,i+O,l1++[⟨1,tx,i⟩],l3,_,n',rfl,ac,BL,eE,eE,own6,h3,BM⟩
    .have hlc':fV c.toNat=false:=by simpa using hlc
     have hdc:eW c.toNat=true:=by
      unfold ee at hwb;rw[hlc',jC]at hwb;exact hwb
     rw[aB hdc]at Z;obtain⟨v,hv1,Z⟩:=bT.1 Z;have hv2:v=dv tx:=by
      unfold lQ at hv1;split at hv1
      .simpa using hv1.symm
      .cases hv1
     have hvm:dv tx<=9223372036854775808:=(BV (by rw[hv1];rfl)).2.2.2.2;have hnu:vL ⟨tx,9223372036854775808⟩:=⟨by rw[hv1];rfl,hvm,by show 9223372036854775808<2^64;decide⟩;have kn:∀H:Hp,aX prog (aK pls lZ) 54 [.ag tx,.int .u64 9223372036854775808] H fun v H'=>v=.aO [.int .u64 (dv tx:Int),.bool true]/\H'=H:=fun H=>BY (tb:=lZ) (fun _=>rfl) hnu H;have gh0:=@B0;repeat' (first
      |(apply aj ?_;clear hK K)|apply Ry.o ?_|apply bq ?_|(apply ch ?_;first|refine Rx.k (kl _ _) ?_|refine Rx.k (kd _ _) ?_)|apply fG ?_|(apply bS (fun Y C=>?_) (fun Y C=>?_)<;>try(cases Y;done))|(apply aY (fun W L=>?_) (fun W L=>?_)<;>try(cases W;done))|apply ai ?_|(apply ah fun K hK=>?_)|apply aq ?_|apply am ?_|apply au ?_|apply aw ?_)
     generalize J:(U.alloc _).set U.next _=Hc
     have nc:U.next+1<=Hc.next:=by rw[<-J];exact az _
     have gc:Hc.get U.next=some (.cells [.int .i64 3,.ag [],.int .i64 (i:Int)] 0 true):=by rw[<-J,bi,aB rfl]
     have oc:∀k,k<U.next->Hc.get k=U.get k:=fun k hk=>FT
     clear J;refine tA (Q:=fun x E H=>x=AX.exit 4/\Hc=H/\E.at 0=.ag s/\E.at 3=.ptr 0 0/\E.at 4=lv/\E.at 5=.int .i64 (i:Int)/\E.at 6=.int .u8 (c.toNat:Int)/\E.at 7=.ptr U.next 0/\E.at 8=.int .i64 ((i+O:Nat):Int)) ?_ (kK (fun j E H=>Hc=H/\E.at 0=.ag s/\E.at 3=.ptr 0 0/\E.at 4=lv/\E.at 5=.int .i64 (i:Int)/\E.at 6=.int .u8 (c.toNat:Int)/\E.at 7=.ptr U.next 0/\E.at 8=.int .i64 ((i+j:Nat):Int)/\O=j+cq (s.drop (i+j))) (s.length-i) ?_ ⟨rfl,eE,eE,eE,eE,eE,eE,Eq.trans (b:=AV.int .i64 (i:Int)) eE (by rw[kE]),FO⟩);rotate_left
     .rintro j E4 H4 hj ⟨rfl,dL,k3,k4',k5',k6,k7,k8,hJ⟩;by_cases hlj:i+j<s.length
      .have hlj':((i+j:Nat):Int)<(s.length:Int):=by omega
       have hgy:s[i+j]?=some s[i+j]:=bc hlj;rw[eM hlj,cq]at hJ;generalize s[i+j]=d at *;have e5:IntKind.wrap .i64 (((i+j:Nat):Int)+1)=((i+(j+1):Nat):Int):=ei;by_cases hld:fV d.toNat=true
       .rw[aB (by unfold ee;rw[hld];rfl)]at hJ;repeat' (first
         |(apply aj ?_;clear hK K)|apply Ry.o ?_|apply bq ?_|(apply ch ?_;first|refine Rx.k (kl _ _) ?_|refine Rx.k (kd _ _) ?_)|apply fG ?_|(apply bS (fun Y C=>?_) (fun Y C=>?_)<;>try(cases Y;done))|(apply aY (fun W L=>?_) (fun W L=>?_)<;>try(cases W;done))|apply ai ?_|(apply ah fun K hK=>?_)|apply aq ?_|apply am ?_|apply au ?_|apply aw ?_)
        exact⟨ac,rfl,eE,eE,eE,eE,eE,eE,eE,yo⟩
       .have hld':fV d.toNat=false:=by simpa using hld
        by_cases hdd:eW d.toNat=true
        .rw[aB (by unfold ee;rw[hdd,tN])]at hJ;repeat' (first
          |(apply aj ?_;clear hK K)|apply Ry.o ?_|apply bq ?_|(apply ch ?_;first|refine Rx.k (kl _ _) ?_|refine Rx.k (kd _ _) ?_)|apply fG ?_|(apply bS (fun Y C=>?_) (fun Y C=>?_)<;>try(cases Y;done))|(apply aY (fun W L=>?_) (fun W L=>?_)<;>try(cases W;done))|apply ai ?_|(apply ah fun K hK=>?_)|apply aq ?_|apply am ?_|apply au ?_|apply aw ?_)
         exact⟨ac,rfl,eE,eE,eE,eE,eE,eE,eE,yo⟩
        .have hdd':eW d.toNat=false:=by simpa using hdd
         rw[ao (by unfold ee;rw[hld',hdd'];decide)]at hJ;obtain rfl:O=j:=ac;clear hJ;repeat' (first
          |(apply aj ?_;clear hK K)|apply Ry.o ?_|apply bq ?_|(apply ch ?_;first|refine Rx.k (kl _ _) ?_|refine Rx.k (kd _ _) ?_)|apply fG ?_|(apply bS (fun Y C=>?_) (fun Y C=>?_)<;>try(cases Y;done))|(apply aY (fun W L=>?_) (fun W L=>?_)<;>try(cases W;done))|apply ai ?_|(apply ah fun K hK=>?_)|apply aq ?_|apply am ?_|apply au ?_|apply aw ?_)
         exact⟨trivial,trivial,eE,eE,eE,eE,eE,eE,eE⟩
      .have hlj':¬((i+j:Nat):Int)<(s.length:Int):=by omega
       rw[nG ac]at hJ;simp only[cq,kE]at hJ;obtain rfl:O=j:=hJ;repeat' (first
        |(apply aj ?_;clear hK K)|apply Ry.o ?_|apply bq ?_|(apply ch ?_;first|refine Rx.k (kl _ _) ?_|refine Rx.k (kd _ _) ?_)|apply fG ?_|(apply bS (fun Y C=>?_) (fun Y C=>?_)<;>try(cases Y;done))|(apply aY (fun W L=>?_) (fun W L=>?_)<;>try(cases W;done))|apply ai ?_|(apply ah fun K hK=>?_)|apply aq ?_|apply am ?_|apply au ?_|apply aw ?_)
       exact⟨trivial,trivial,eE,eE,eE,eE,eE,eE,eE⟩
     rintro x E3 H3 ⟨rfl,rfl,dL,k3,k4',k5',k6,k7,k8⟩;have gc0:Hc.get 0=some qe:=(oc 0 ac).trans g0;have gh0:=@vP;have gh1:=@vN;have gh2:=@vO;repeat' (first
      |(apply aj ?_;clear hK K)|apply Ry.o ?_|apply bq ?_|(apply ch ?_;first|refine Rx.k (kl _ _) ?_|refine Rx.k (kd _ _) ?_|refine Rx.k (kn _) ?_)|apply fG ?_|(apply bS (fun Y C=>?_) (fun Y C=>?_)<;>try(cases Y;done))|(apply aY (fun W L=>?_) (fun W L=>?_)<;>try(cases W;done))|apply ai ?_|(apply ah fun K hK=>?_)|apply aq ?_|apply am ?_|apply au ?_|apply aw ?_)
     generalize I:Hp.set _ U.next (.cells [.int .i64 2,.ag tx,.int .i64 (i:Int)] 0 true)=Hd
     have nd:U.next+1<=Hd.next:=by rw[<-I];exact nc
     have gd:Hd.get U.next=some (.cells [.int .i64 2,.ag tx,.int .i64 (i:Int)] 0 true):=vH
     have od:∀k,k<U.next->Hd.get k=U.get k:=fun k hk=>Eq.trans (b:=Hc.get k) BN (oc k hk)
     clear I;have hldT:eR prog Hd 116 (.ptr U.next 0)=some (.agg [.int .i64 2,.ag tx,.int .i64 (i:Int)]):=BJ;obtain⟨H6,a6,n6,o6,own6⟩:=B1 (H:=Hd) (V.keep (fun _ _ h=>h) ac fun k _ hk=>od k hk) ac ⟨2,tx,i⟩ ac;simp only[]at a6;have z:∀k,k=0\/k=U.next->∀o m' z',lv≠.sl k o m' z':=fun k hk o m' z' e=>by
      rcases V with⟨h1,_⟩|⟨q',im,rows,h1,h2,h3,_⟩
      .rw[h1]at e;cases e
      .rw[h1]at e;simp only[AV.sl.injEq]at e;omega
     have g60:H6.get 0=some qe:=BO;have g6t:H6.get U.next=some (.cells [.int .i64 2,.ag tx,.int .i64 (i:Int)] 0 true):=(o6 U.next ac (z _ (.inr rfl))).trans gd
     have gh0:=@vP;repeat' (first
      |(apply aj ?_;clear hK K)|apply Ry.o ?_|apply bq ?_|apply fG ?_|(apply bS (fun Y C=>?_) (fun Y C=>?_)<;>try(cases Y;done))|(apply aY (fun W L=>?_) (fun W L=>?_)<;>try(cases W;done))|apply ai ?_|(apply ah fun K hK=>?_)|apply aq ?_|apply am ?_|apply au ?_|apply aw ?_)
     have hnx:1<=H6.next:=ac
     obtain⟨l3,h3,rfl⟩:=eI.1 Z;exact⟨bm,fun r hr=>BK,hnx,s.length-(i+O),ac,i+O,l1++[⟨2,tx,i⟩],l3,_,n',rfl,ac,BL,eE,eE,own6,h3,BM⟩
   .rw[ao hwb]at Z;obtain⟨t,ht,Z⟩:=bT.1 Z;have hlc:fV c.toNat=false:=by
     unfold ee at hwb;simp only[jl,su,yq]at hwb;exact hwb.1
    have hdc:eW c.toNat=false:=by
     unfold ee at hwb;simp only[jl,su,yq]at hwb;exact hwb.2
    have hsl:g8 prog 9 (.ag s) (some (.int .i64 (i:Int))) none=some (.ag (s.drop i)):=Bo underlying9 ac;have hsy:vM (s.drop i):=⟨t,by rw[hdr];exact ht⟩;have htt:t=(s.drop i).take 1:=by rw[hdr];exact(GA ht).2.1
    have htl:((s.drop i).take 1).length=1:=DP;have kn:∀H:Hp,aX prog (aK pls lZ) 55 [.ag (s.drop i)] H fun v H'=>v=.ag ((s.drop i).take 1)/\H'=H:=fun H=>RD (tb:=lZ) (fun _=>rfl) hsy H;rw[htt]at Z;generalize (s.drop i).take 1=tx at *;have htx:¬(tx=[]):=fun e=>by rw[e]at htl;simp at htl
    obtain⟨O,hwn⟩:∃O:Nat,O=1:=⟨1,rfl⟩;rw[show i+1=i+O by rw[hwn]]at Z;rw[<-hwn]at htl;have e6:IntKind.wrap .i64 ((i:Int)+O)=((i+O:Nat):Int):=ei;have hwl:O<=s.length-i:=ac;have hw1:1<=O:=ac;clear e5 hdr hwn;have gh0:=@B0;repeat' (first
     |(apply aj ?_;clear hK K)|apply Ry.o ?_|apply bq ?_|(apply ch ?_;first|refine Rx.k (kl _ _) ?_|refine Rx.k (kd _ _) ?_|refine Rx.k (kn _) ?_)|apply fG ?_|(apply bS (fun Y C=>?_) (fun Y C=>?_)<;>try(cases Y;done))|(apply aY (fun W L=>?_) (fun W L=>?_)<;>try(cases W;done))|apply ai ?_|(apply ah fun K hK=>?_)|apply aq ?_|apply am ?_|apply au ?_|apply aw ?_)
    obtain⟨Hc,J⟩:∃Hc,Hc=U.alloc (.cells [.int .i64 0,.ag [],.int .i64 0] 0 true):=⟨_,rfl⟩;have nc:U.next+1<=Hc.next:=by rw[J];exact az _
    have oc:∀k,k<U.next->Hc.get k=U.get k:=fun k hk=>by rw[J,aJ,ao ac]
    rw[<-J];clear J;generalize I:Hp.set _ U.next (.cells [.int .i64 3,.ag tx,.int .i64 (i:Int)] 0 true)=Hd
    have nd:U.next+1<=Hd.next:=by rw[<-I];exact nc
    have gd:Hd.get U.next=some (.cells [.int .i64 3,.ag tx,.int .i64 (i:Int)] 0 true):=vH
    have od:∀k,k<U.next->Hd.get k=U.get k:=fun k hk=>Eq.trans (b:=Hc.get k) BN (oc k hk)
    clear I;have hldT:eR prog Hd 116 (.ptr U.next 0)=some (.agg [.int .i64 3,.ag tx,.int .i64 (i:Int)]):=BJ;obtain⟨H6,a6,n6,o6,own6⟩:=B1 (H:=Hd) (V.keep (fun _ _ h=>h) ac fun k _ hk=>od k hk) ac ⟨3,tx,i⟩ ac;simp only[]at a6;have z:∀k,k=0\/k=U.next->∀o m' z',lv≠.sl k o m' z':=fun k hk o m' z' e=>by
     rcases V with⟨h1,_⟩|⟨q',im,rows,h1,h2,h3,_⟩
     .rw[h1]at e;cases e
     .rw[h1]at e;simp only[AV.sl.injEq]at e;omega
    have g60:H6.get 0=some qe:=BO;have g6t:H6.get U.next=some (.cells [.int .i64 3,.ag tx,.int .i64 (i:Int)] 0 true):=(o6 U.next ac (z _ (.inr rfl))).trans gd
    have gh0:=@vP;repeat' (first
     |(apply aj ?_;clear hK K)|apply Ry.o ?_|apply bq ?_|apply fG ?_|(apply bS (fun Y C=>?_) (fun Y C=>?_)<;>try(cases Y;done))|(apply aY (fun W L=>?_) (fun W L=>?_)<;>try(cases W;done))|apply ai ?_|(apply ah fun K hK=>?_)|apply aq ?_|apply am ?_|apply au ?_|apply aw ?_)
    have hnx:1<=H6.next:=ac
    obtain⟨l3,h3,rfl⟩:=eI.1 Z;exact⟨bm,fun r hr=>BK,hnx,s.length-(i+O),ac,i+O,l1++[⟨3,tx,i⟩],l3,_,n',rfl,ac,BL,eE,eE,own6,h3,BM⟩
 .have hlt':¬(i:Int)<s.length:=by omega
  have hi2:s.drop i=[]:=nG ac;rw[hi2]at Z;have h2:l2=[]:=by
   cases n' with
   |zero=>cases Z
   |succ n'=>unfold jG at Z;simpa using Z.symm
  subst h2;rw[ij]at hl;subst hl;have gh0:=@GB;repeat' (first
   |(apply aj ?_;clear hK K)|apply Ry.o ?_|apply bq ?_|apply fG ?_|(apply bS (fun Y C=>?_) (fun Y C=>?_)<;>try(cases Y;done))|(apply aY (fun W L=>?_) (fun W L=>?_)<;>try(cases W;done))|apply ai ?_|(apply ah fun K hK=>?_)|apply aq ?_|apply am ?_|apply au ?_|apply aw ?_)
  have hld:eR prog (U.set 0 qe) 44 (.ptr 0 0)=some (.agg [.int .i64 0,.int .i64 0]):=by
   rw[xN,bi,aB rfl];kernel_rfl
  refine⟨aP,_,(by(try simp only[aM,a0,Nat.reduceBEq,Nat.reduceAdd,Nat.reduceLeDiff,tyF,cU,da,hld, *]);first|done|with_reducible rfl),?_⟩;try simp only[aN]
  exact⟨lv,rfl,V.keep (fun _ _ h=>h) (az _) fun k hk _=>yp⟩
end
end Go.Proofs.Ytbflaciihaijgaa
