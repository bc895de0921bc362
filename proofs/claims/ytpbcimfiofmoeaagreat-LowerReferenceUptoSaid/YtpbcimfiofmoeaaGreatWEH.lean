/- Lemmas for the last file. -/
import Derived.Test.YtpbcimfiofmoeaaGreatWEG
set_option linter.all false
set_option maxHeartbeats 32000000
namespace Go.Ab
set_option maxRecDepth 20000
open Go
variable{qe:Prop}
def og(h:qe:=by rw[List.drop_eq_getElem_cons J];rfl):=h
def DV(h:qe:=by rw[hg r ⟨_,rfl⟩];exact j):=h
def Iz(h:qe:=by have:=List.length_pos_iff.2 hm;omega):=h
def mz(h:qe:=by rw[Y];omega):=h
def ua(h:qe:=by simp[J]):=h
def dZ(h:qe:=by rw[aD,if_pos rfl];rfl):=h
def nh(h:qe:=by simp only[tI];omega):=h
def aH(h:qe:=by decide):=h
def IA(h:qe:=by simp only[aG,Nat.reduceBEq, *];exact hZ (n:=s.length) ac ac):=h
def yl(h:qe:=by simp only[aG,Nat.reduceBEq, *];exact hZ (n:=l.length) ac ac):=h
def oh(h:qe:=by simp only[aG,Nat.reduceBEq, *];exact hZ (n:=p.funcs.length) ac ac):=h
def ly(h:qe:=by rw[Hp.get_set,if_neg ac]):=h
def DW(h:qe:=by rw[NX _ ac];omega):=h
def DX(h:qe:=by rw[IntWalk.i64_in _ ac];omega):=h
def IB(h:qe:=by simp only[aG,Nat.reduceBEq, *];exact hZ (n:=x.ao.length) ac ac):=h
def vn(h:qe:=by simp only[aG,Nat.reduceBEq, *];exact hZ (n:=x.length) ac ac):=h
def oY:=@List.all_nil
def pX:=@List.any_cons
def wX:=@List.any_nil
def IC:=@Bool.or_assoc
def ym:=@List.map_nil
def DY:=@Nat.ble_eq
def ID:=@Bool.and_self
def kh:=@Nat.le_of_eq
def vo:=@List.length_pos_iff
def AJ:=@List.range_succ
def gU:=@List.getD_eq_getElem?_getD
def IE:=@List.headD_cons
def AK:=@Bool.and_assoc
def IF:=@List.set_cons_zero
def IG:=@List.set_cons_succ
def DZ:=@List.eq_of_mem_replicate
def dm:=@List.getElem_mem
def iJ:=@List.drop_length
def ub:=@Prod.ext
def AL:=@List.map_id
end Go.Ab
namespace Go.Proofs.YtpbcimfiofmoeaaGreat
set_option maxRecDepth 20000
open Go Go.Ab Proofs.Tryz
variable(ρ:Nat->Int)
variable{l m:qx}{f:FuncId}{H H':Hp}{v:AV}{lo k r:Nat}
section
def tyR3a.tyF:=ad @cr (ad @cK (ad @et (ad @fW (ad @gh (ad @eL (ad @dV (ad @dD (ad @jb (ad @oV (ad @dQ (@dR)))))))))))
open tyR3a
def iB(f:FuncId):zd0 (au pls []) f:=⟨fun _=>rfl,rfl,rfl⟩
def ei{l:qC}(h1:∀V,dE l f V=none)(h2:iA l f=false):zd0 (au pls l) f:=⟨h1,h2,rfl⟩
structure zii (cfg:Cfg) (f:FuncId) (args:qu):Prop where
 call:cfg.call f args=none
 aG:cfg.aG f=false
 aB:cfg.aB f=false
def uc{I:Type}{sz:I->Nat}{ok:I->Prop}{enc:I->qu}{out:I->AV}(V:∀x y,enc x=enc y->x=y){l:qC}(x:I):
 zii (au pls (⟨f,false,co (fun y=>ok y/\sz y<sz x) enc out⟩::l)) f (enc x):=by
 have j:Nat.beq f f=true:=Nat.beq_refl f;refine⟨?_,?_,rfl⟩
 .show dE _ f (enc x)=none;simp only[dE,j];exact Iw fun y hy e=>aX
 .show iA _ f=false;simp only[iA,j]
noncomputable def Nx:{c:SC // aE 21 (f132.body.getD .skip)=c}:=by
 refine⟨?_,?_⟩;rotate_left
 .simp only[f132,bN,aE,bH,bw,bM,bJ,Nat.blt,Nat.ble];rfl
noncomputable def Ny:{c:SC // aE 9 (f133.body.getD .skip)=c}:=by
 refine⟨?_,?_⟩;rotate_left
 .simp only[f133,bN,aE,bH,bw,bM,bJ,Nat.blt,Nat.ble];rfl
noncomputable def Nz:{c:SC // aE 34 (f80.body.getD .skip)=c}:=by
 refine⟨?_,?_⟩;rotate_left
 .simp only[f80,bN,aE,bH,bw,bM,bJ,Nat.blt,Nat.ble];rfl
noncomputable def NA:{c:SC // aE 18 (f81.body.getD .skip)=c}:=by
 refine⟨?_,?_⟩;rotate_left
 .simp only[f81,bN,aE,bH,bw,bM,bJ,Nat.blt,Nat.ble];rfl
noncomputable def NB:{c:SC // aE 10 (f46.body.getD .skip)=c}:=by
 refine⟨?_,?_⟩;rotate_left
 .simp only[f46,bN,aE,bH,bw,bM,bJ,Nat.blt,Nat.ble];rfl
noncomputable def NC:{c:SC // aE 18 (f107.body.getD .skip)=c}:=by
 refine⟨?_,?_⟩;rotate_left
 .simp only[f107,bN,aE,bH,bw,bM,bJ,Nat.blt,Nat.ble];rfl
noncomputable def ND:{c:SC // aE 9 (f147.body.getD .skip)=c}:=by
 refine⟨?_,?_⟩;rotate_left
 .simp only[f147,bN,aE,bH,bw,bM,bJ,Nat.blt,Nat.ble];rfl
noncomputable def NE:{c:SC // aE 27 (f170.body.getD .skip)=c}:=by
 refine⟨?_,?_⟩;rotate_left
 .simp only[f170,bN,aE,bH,bw,bM,bJ,Nat.blt,Nat.ble];rfl
noncomputable def NF:{c:SC // aE 22 (f108.body.getD .skip)=c}:=by
 refine⟨?_,?_⟩;rotate_left
 .simp only[f108,bN,aE,bH,bw,bM,bJ,Nat.blt,Nat.ble];rfl
def zaX(n:Int):bX prog ρ 132 [.int .u8 n] (.bool (pW n)):=fB fit (pls:=pls) (l:=[]) trivial (.cons (.int _ _) .nil) (.bool _) (by
 have Z:=iB 132;refine bp (M:=21) (rs:=[.tmp 2]) (Z.call _) Z.aG Z.aB func132 rfl rfl Nx.2 rfl ?_;dsimp only[Nx,bm,Nat.reduceAdd];repeat' (first
  |(apply aj ?_;clear hK K)|apply aV ?_|(apply cL ?_ ?_<;>(intro hg hgp;try(cases hg;done)))|(apply am fun K hK=>?_)|fail)
 all_goals refine qq ?_
 all_goals (simp_all[pW]<;>omega))
def zaY(n:Int):bX prog ρ 133 [.int .u8 n] (.bool (od n)):=fB fit (pls:=pls) (l:=[]) trivial (.cons (.int _ _) .nil) (.bool _) (by
 have Z:=iB 133;refine bp (M:=9) (rs:=[.tmp 2]) (Z.call _) Z.aG Z.aB func133 rfl rfl Ny.2 rfl ?_;dsimp only[Ny,bm,Nat.reduceAdd];repeat' (first
  |(apply aj ?_;clear hK K)|apply aV ?_|(apply cL ?_ ?_<;>(intro hg hgp;try(cases hg;done)))|(apply am fun K hK=>?_)|fail)
 all_goals refine qq ?_
 all_goals (simp_all[od]<;>omega))
def wY(n:Int):qu:=[.int .u8 n]
def NG(x y:Int)(h:wY x=wY y):x=y:=by simpa [wY]using h
noncomputable def AM:En:=⟨132,false,co (fun _=>True) wY fun n=>.bool (pW n)⟩
noncomputable def AN:En:=⟨133,false,co (fun _=>True) wY fun n=>.bool (od n)⟩
def zaZ:dI prog ρ AM:=dT fun n _=>zaX ρ n
def za0:dI prog ρ AN:=dT fun n _=>zaY ρ n
def za1(s:qA)(hs:s.length<2^60):bX prog ρ 80 [.aj s] (.bool (lR s)):=fB fit (pls:=pls) (l:=[AM,AN]) ⟨zaZ ρ,za0 ρ,trivial⟩ (.cons (.aj _) .nil) (.bool _) (by
 have I:zd0 (au pls [AM,AN]) 80:=ei (fun _=>rfl) rfl;have kl:∀(n:Int) (H:Hp),aR prog (au pls [AM,AN]) 132 [.int .u8 n] H fun v H'=>v=.bool (pW n)/\H'=H:=fun n H=>cV (enc:=wY) (out:=fun n=>.bool (pW n)) NG (x:=n) rfl trivial;have kd:∀(n:Int) (H:Hp),aR prog (au pls [AM,AN]) 133 [.int .u8 n] H fun v H'=>v=.bool (od n)/\H'=H:=fun n H=>cV (enc:=wY) (out:=fun n=>.bool (od n)) NG (x:=n) rfl trivial;refine bp (M:=34) (rs:=[.tmp 2]) (I.call _) I.aG I.aB func80 rfl rfl Nz.2 rfl ?_;dsimp only[Nz,bm,Nat.reduceAdd];refine jH ?_;refine cl [0] [] 3 s.length (fun i E H=>fI s=i+fI (s.drop i)/\(0<i->∀b,s[0]?=some b->od b.toNat=false)) eE aw ?_;rintro i E H2 hi Y V m hsI ⟨hJ,O⟩;(try simp only[bC,aZ,aW,aG,aY,Nat.reduceBEq, *]at Y);(try simp only[aZ, *]at V);(try simp only[ce,]at m);repeat' (first
  |(apply aj ?_;clear hK K)|apply aV ?_|(apply cL ?_ ?_<;>(intro hg hgp;try(cases hg;done)))|(apply bz ?_ ?_<;>(intro hb hbp;try(cases hb;done)))|(apply am fun K hK=>?_)|fail)
 .have J:i<s.length:=by simpa using hb
  have z:s[i]?=some s[i]:=bj J;have Z:fI (s.drop i)=if lx s[i]then fI (s.drop (i+1))+1 else 0:=by rw[gI J,fI]
  repeat' (first
   |(apply aj ?_;clear hK K)|apply aV ?_|(apply eu ?_;first|refine bK (kl _ _) ?_|refine bK (kd _ _) ?_)|(apply cL ?_ ?_<;>(intro hg hgp;try(cases hg;done)))|(apply bz ?_ ?_<;>(intro hb hbp;try(cases hb;done)))|(apply am fun K hK=>?_)|fail)
  .all_goals refine qq ?_
   have U:i=0:=ac;subst U;unfold lR;cases s<;>simp_all
  .refine⟨ac,a0,a0,ca,IA,?_⟩;have j:lx s[i]=true:=by simp_all[lx]
   grind
  .all_goals refine qq ?_
   have j:lx s[i]=false:=by simp_all[lx]
   rw[j]at Z;simp at Z;unfold lR;simp[show ¬fI s=s.length by omega]
  .refine⟨ac,a0,a0,ca,IA,?_⟩;have j:lx s[i]=true:=by simp_all[lx]
   refine⟨aX,fun _ b C=>?_⟩;by_cases h0:0<i
   .exact O h0 b C
   .have U:i=0:=by omega
    subst U;rw[z]at C;have:s[0]=b:=by simpa using C
    subst this;have hle:pW s[0].toNat=true:=bb;simp only[pW,od]at *
    grind
 all_goals
  have hie:i=s.length:=ac;all_goals refine qq ?_
  rw[hie]at hJ;simp[fI]at hJ;unfold lR;cases s<;>simp_all<;>omega)
def bE(l:qx)(s:qA):Bool:=l.any fun x=>decide (x=s)
def NH(l:qx)(s:qA)(O:l.length<2^60):bX prog ρ 107 [cH l,.aj s] (.bool (bE l s)):=fB fit (pls:=pls) (l:=[]) trivial (.cons (vh _) (.cons (.aj _) .nil)) (.bool _) (by
 have V:=iB 107;refine bp (M:=18) (rs:=[.tmp 4]) (V.call _) V.aG V.aB func107 rfl rfl NC.2 rfl ?_;dsimp only[NC,bm,Nat.reduceAdd];refine jH ?_;refine cl [0,1] [] 5 l.length (fun i E H=>bE l s=bE (l.drop i) s) eE aw ?_;rintro i E I hi Y j m z U;(try simp only[bC,aZ,aW,aG,aY,Nat.reduceBEq, *]at Y);(try simp only[aZ, *]at j);(try simp only[ce,]at m);repeat' (first
  |(apply aj ?_;clear hK K)|apply aV ?_|(apply bz ?_ ?_<;>(intro hb hbp;try(cases hb;done)))|(apply am fun K hK=>?_)|fail)
 .have J:i<l.length:=by simpa using hb
  have C:l[i]?=some l[i]:=bj J;have Z:bE (l.drop i) s=(decide (l[i]=s)||bE (l.drop (i+1)) s):=og;refine xH (fun hb hbp=>?_) (fun hb hbp=>?_)
  .all_goals refine qq ?_
   rw[U,Z];simp_all
  .refine⟨ac,a0,a0,ca,yl,?_⟩;rw[U,Z];simp_all
 .all_goals refine qq ?_
  rw[U,show i=l.length by simp at hb;omega];simp[bE])
def pY(op:Int):Bool:=decide (4<=op)&&decide (op<=18)
def za2(op:Int):bX prog ρ 147 [.int .i64 op] (.bool (pY op)):=fB fit (pls:=pls) (l:=[]) trivial (.cons (.int _ _) .nil) (.bool _) (by
 have Z:=iB 147;refine bp (M:=9) (rs:=[.tmp 2]) (Z.call _) Z.aG Z.aB func147 rfl rfl ND.2 rfl ?_;dsimp only[ND,bm,Nat.reduceAdd];repeat' (first
  |(apply aj ?_;clear hK K)|apply aV ?_|(apply cL ?_ ?_<;>(intro hg hgp;try(cases hg;done)))|(apply am fun K hK=>?_)|fail)
 all_goals refine qq ?_
 all_goals (simp_all[pY]<;>omega))
def zeroE(x:Ex):Bool:=decide (x.am=0)&&decide (x.n=0)&&decide (x.name=[])&&decide (x.op=0)&&decide (x.ao.length=0)
def za3(x:Ex):bX prog ρ 170 [.agg x.cells] (.bool (zeroE x)):=fB fit (pls:=pls) (l:=[]) trivial (.cons (.agg x.pure) .nil) (.bool _) (by
 have Z:=iB 170;refine bp (M:=27) (rs:=[.tmp 2]) (Z.call _) Z.aG Z.aB func170 rfl rfl NE.2 rfl ?_;dsimp only[NE,bm,Nat.reduceAdd];repeat' (first
  |(apply aj ?_;clear hK K)|apply aV ?_|(apply cL ?_ ?_<;>(intro hg hgp;try(cases hg;done)))|(apply am fun K hK=>?_)|fail)
 all_goals
  all_goals refine qq ?_
 all_goals simp_all[zeroE])
def cJ:qN->qA->Int->Int
 |[],_,_=>-1
 |f::l,s,i=>if f.name=s then i else cJ l s (i+1)
def za4(p:Pr)(s:qA)(hl:p.funcs.length<2^60):bX prog ρ 108 [.agg p.cells,.aj s] (.int .i64 (cJ p.funcs s 0)):=fB fit (pls:=pls) (l:=[]) trivial (.cons (.agg p.pure) (.cons (.aj _) .nil)) (.int _ _) (by
 have Y:=iB 108;refine bp (M:=22) (rs:=[.tmp 4]) (Y.call _) Y.aG Y.aB func108 rfl rfl NF.2 rfl ?_;dsimp only[NF,bm,Nat.reduceAdd];refine jH ?_;refine cl [1,2] [0] 5 p.funcs.length (fun i E H=>cJ p.funcs s 0=cJ (p.funcs.drop i) s i) eE aw ?_;rintro i E z hi Z j m V U;(try simp only[bC,aZ,aW,aG,aY,Nat.reduceBEq, *]at Z);(try simp only[bC,aZ,aW,aG,aY, *]at j);(try simp only[aU,ce,bR]at m);have O:(0 == z.next)=false:=ak ac;have I:(z.next == 0)=false:=ak ac;repeat' (first
  |(apply aj ?_;clear hK K)|apply aV ?_|(apply bz ?_ ?_<;>(intro hb hbp;try(cases hb;done)))|(apply am fun K hK=>?_)|fail)
 .have J:i<p.funcs.length:=by simpa using hb
  have C:p.funcs[i]?=some p.funcs[i]:=bj J;have hdr:cJ (p.funcs.drop i) s i=if p.funcs[i].name=s then (i:Int)else cJ (p.funcs.drop (i+1)) s (i+1):=og
  refine xH (fun hb hbp=>?_) (fun hb hbp=>?_)
  .all_goals refine qq ?_
   simp_all
  .refine⟨ac,a0,a0,ca,oh,?_⟩;simp_all
 .all_goals refine qq ?_
  rw[U,show i=p.funcs.length by simp at hb;omega];simp[cJ])
def ol:qx:=[[97,114,114,97,121],[102,117,110,99],[118,97,114],[114,101,116,117,114,110],[105,102],[101,108,115,101],[119,104,105,108,101],[111,117,116],[116,114,97,112]]
def NI(s:qA):bE ol s=vm s:=by
 simp only[bE,ol,vm,pX,wX,mW,<-IC];simp only[eq_comm]
def za5(H:Hp)(a b c d e f g h i:qA):de prog H 59 9 [(0,.aj a),(1,.aj b),(2,.aj c),(3,.aj d),(4,.aj e),(5,.aj f),(6,.aj g),(7,.aj h),(8,.aj i)]=some (.sl H.next 0 9 1,H.alloc (.cells ([a,b,c,d,e,f,g,h,i].map .aj) 0 true)):=ax
theorem za6(s:qA):bX prog ρ 81 [.aj s] (.bool (vm s)):=fB fit (pls:=pls) (l:=[]) trivial (.cons (.aj _) .nil) (.bool _) (by
 have V:=iB 81;refine bp (M:=18) (rs:=[.tmp 2]) (V.call _) V.aG V.aB func81 rfl rfl NA.2 rfl ?_;dsimp only[NA,bm,Nat.reduceAdd];have I:=@za5;refine jH ?_;refine cl [0,3] [0] 4 9 (fun i E H=>bE ol s=bE (ol.drop i) s) eE aw ?_;rintro i E z hi Y j m O U;(try simp only[bC,aZ,aW,aG,aY,Nat.reduceBEq, *]at Y);(try simp only[bC,aZ,aW,aG,aY, *]at j);(try simp only[aU,ce,bR]at m);have C:(0 == z.next)=false:=ak ac;have hC0:(z.next == 0)=false:=ak ac;change z.get 0=some (.cells (ol.map .aj) 0 true)at j;have hr9:ol.length=9:=rfl;repeat' (first
  |(apply aj ?_;clear hK K)|apply aV ?_|(apply bz ?_ ?_<;>(intro hb hbp;try(cases hb;done)))|(apply am fun K hK=>?_)|fail)
 .have J:i<ol.length:=by omega
  have hgx:ol[i]?=some ol[i]:=bj J;have Z:bE (ol.drop i) s=(decide (ol[i]=s)||bE (ol.drop (i+1)) s):=og;have hi9:decide (i<9)=true:=cb;refine K3 (fun hb hbp=>?_) (fun hb hbp=>?_)
  .all_goals refine qq ?_
   rw[<-NI,U,Z];simp_all
  .refine⟨ac,(by simp only[bC,aZ,aW,aG,aY,Nat.reduceBEq,ol, *]),(by simp only[bC,aZ,aW,aG,aY,ol, *]),ca,(by simp only[aG,Nat.reduceBEq, *];exact hZ (n:=9) ac ac),?_⟩;rw[U,Z];simp_all
 .all_goals refine qq ?_
  rw[<-NI,U,show i=9 by omega];rfl)
def oq(s:qA):qu:=[.aj s]
def wZ(x y:qA)(h:oq x=oq y):x=y:=by simpa [oq]using h
noncomputable def AO:En:=⟨80,false,co (fun s=>s.length<2^60) oq fun s=>.bool (lR s)⟩
noncomputable def AP:En:=⟨81,false,co (fun _=>True) oq fun s=>.bool (vm s)⟩
def za7:dI prog ρ AO:=dT fun s U=>za1 ρ s U
def za8:dI prog ρ AP:=dT fun s _=>za6 ρ s
def za9(s:qA)(U:s.length<2^60):bX prog ρ 46 [.aj s] (.bool (db s)):=fB fit (pls:=pls) (l:=[AO,AP]) ⟨za7 ρ,za8 ρ,trivial⟩ (.cons (.aj _) .nil) (.bool _) (by
 have Z:zd0 (au pls [AO,AP]) 46:=ei (fun _=>rfl) rfl;have Y:∀(H:Hp),aR prog (au pls [AO,AP]) 80 [.aj s] H fun v H'=>v=.bool (lR s)/\H'=H:=fun H=>cV (enc:=oq) (out:=fun n=>.bool (lR n)) wZ (x:=s) rfl U;have V:∀(H:Hp),aR prog (au pls [AO,AP]) 81 [.aj s] H fun v H'=>v=.bool (vm s)/\H'=H:=fun H=>cV (enc:=oq) (out:=fun n=>.bool (vm n)) wZ (x:=s) rfl trivial;refine bp (M:=10) (rs:=[.tmp 2]) (Z.call _) Z.aG Z.aB func46 rfl rfl NB.2 rfl ?_;dsimp only[NB,bm,Nat.reduceAdd];repeat' (first
  |(apply aj ?_;clear hK K)|apply aV ?_|(apply eu ?_;first|refine bK (Y _) ?_|refine bK (V _) ?_)|(apply cL ?_ ?_<;>(intro hg hgp;try(cases hg;done)))|(apply am fun K hK=>?_)|fail)
 all_goals refine qq ?_
 all_goals (simp_all[db]))
end
def dU(H:Hp)(v:AV)(l:qx)(lo:Nat):Prop:=∃r z,v=.sl r 0 l.length 1/\H.get r=some (.cells (l.map .aj) z true)/\z<=l.length/\lo<=r/\r<H.next
def ej(H:Hp)(v:AV)(l:qx)(lo:Nat):Prop:=(v=.ag/\l=[])\/dU H v l lo
def dU.cL(h:dU H v l lo)(J:H.next<=H'.next)(hg:∀k,lo<=k->k<H.next->H'.get k=H.get k):dU H' v l lo:=by
 obtain⟨r,z,m,j,C,V,Z⟩:=h;exact⟨r,z,m,bb,C,V,ac⟩
def aN(v:AV)(k:Nat):Prop:=∃n,v=.sl k 0 n 1
def sR(v j:AV)(H H':Hp):Prop:=(∀k,k<H.next->¬aN v k->H'.get k=H.get k)/\∀k,aN j k->aN v k\/H.next<=k
def dU.lt(h:dU H v l lo)(z:aN v k):lo<=k/\k<H.next:=by
 obtain⟨r,Z,rfl,_,_,V,Y⟩:=h;obtain⟨n,e⟩:=z;simp_all
def ej.lt(h:ej H v l lo)(z:aN v k):lo<=k/\k<H.next:=by
 rcases h with⟨rfl,_⟩|h
 .obtain⟨n,e⟩:=z;simp at e
 .exact h.lt z
def dU.keep(h:dU H v l lo)(J:H.next<=H'.next)(hg:∀k,aN v k->H'.get k=H.get k):dU H' v l lo:=by
 obtain⟨r,z,rfl,j,C,V,Z⟩:=h;exact⟨r,z,rfl,DV,C,V,ac⟩
def ej.keep(h:ej H v l lo)(J:H.next<=H'.next)(hg:∀k,aN v k->H'.get k=H.get k):ej H' v l lo:=h.imp id fun h=>h.keep J hg
def NJ(l:qx):(l.map AV.aj).all AV.one=true:=by simp[AV.one]
theorem D0(m:qx):(m.map fun s=>[AV.aj s]).flatten=m.map .aj:=by induction m with
 |nil=>rfl
 |cons a m ih=>simp[ih]
theorem zba(H:Hp)(m:qx):fk H 1 (cH m)=some (m.length,m.map .aj):=by
 have e:fk H 1 (cH m)=if ((m.map fun s=>[AV.aj s]).all fun I=>I.length == 1)then some ((m.map fun s=>[AV.aj s]).length,(m.map fun s=>[AV.aj s]).flatten)else none:=rfl
 rw[e,ai aw,D0,dx]
def II{imm:Nat}(h:H.get r=some (.cells (m.map .aj) imm true)):fk H 1 (.sl r 0 m.length 1)=some (m.length,m.map .aj):=by
 have:=tR (H:=H) (r:=r) (o:=0) (n:=m.length) (z:=1) (s:=1) h aw;rw[this,hY,gQ aw]
theorem IJ{x:AV}(M:ej H v l lo)(I:lo<=H.next)(C:fk H 1 x=some (m.length,m.map .aj))(hm:m≠[])(hb:l.length+m.length<2^40):
 ∃j H',cD prog false H 59 59 v x=some (j,H')/\dU H' j (l++m) lo/\H'.next=H.next+1/\(∀k,k<lo->H'.get k=H.get k)/\sR v j H H':=by
 obtain⟨n,J⟩:∃n,m.length=n+1:=⟨m.length-1,Iz⟩;have Y:ee=70368744177664:=rfl;rw[J]at C;rcases M with⟨rfl,rfl⟩|⟨r,Z,rfl,U,h3,h4,h5⟩
 .refine⟨.sl H.next 0 (n+1) 1,H.alloc (.cells (m.map .aj) 0 true),append_nil underlying59 tU u9 vc ax C (NJ m) rfl mz mz,⟨H.next,0,ua,dZ,ac,I,bT _⟩,rfl,fun k z=>em,fun k z _=>em,fun k z=>.inr ?_⟩;obtain⟨n',e⟩:=z;simp_all
 .have O:gY false H 1 (.sl r 0 l.length 1)=H:=by
   unfold gY;simp only[U,bR,dx,oN];have:Nat.blt l.length l.length=false:=by
    cases hb:Nat.blt l.length l.length with
    |false=>rfl
    |true=>simp_all
   simp[this]
  refine⟨.sl H.next 0 (l.length+(n+1)) 1,(H.a0 r).alloc (.cells (l.map .aj++m.map .aj) (Z-0) true),?_,⟨H.next,Z,ua,?_,cb,I,bT _⟩,rfl,fun k z=>?_,fun k z V=>?_,fun k z=>.inr ?_⟩
  .simp only[cD,underlying59,tU,u9,vc,show gN prog 59=true by kernel_rfl,C,NJ,O,nV,ft,l8,nL,U,dx,bR,oN,hY]
   grind
  .show((H.a0 r).alloc _).get (H.a0 r).next=_
   rw[aD,ai rfl];simp
  .rw[aD,af nh,iy,af ac]
  .rw[aD,af nh,iy,af (fun e=>V ⟨_,oO⟩)]
  .obtain⟨n',e⟩:=z;simp_all
def yn(m:qx)(Z:dU H v l lo)(I:lo<=H.next)(hb:l.length+m.length<2^40):
 ∃j H',cD prog false H 59 59 v (cH m)=some (j,H')/\dU H' j (l++m) lo/\H.next<=H'.next/\(∀k,k<lo->H'.get k=H.get k)/\sR v j H H':=by
 by_cases Y:m=[]
 .subst Y;refine⟨v,H,?_,bb,ay _,fun _ _=>rfl,fun _ _ _=>rfl,fun _ h=>.inl h⟩;obtain⟨r,z,rfl,V,_⟩:=Z;simp only[cD,underlying59,tU,u9,vc,show gN prog 59=true by kernel_rfl,ym,fk,oY,ft,fq]
 .obtain⟨j,H',U,V,C,O⟩:=IJ (.inr Z) I (zba H m) Y hb
  grind
def w1{imm:Nat}(s:qA)(Z:ej H v l lo)(I:lo<=H.next)(U:H.get r=some (.cells [.aj s] imm true))(hb:l.length<2^39):
 ∃j H',cD prog false H 59 59 v (.sl r 0 1 1)=some (j,H')/\dU H' j (l++[s]) lo/\H'.next=H.next+1/\(∀k,k<lo->H'.get k=H.get k)/\sR v j H H':=
 IJ Z I (II (m:=[s]) U) aw cb
def zbb{w:AV}{lo':Nat}(Z:dU H v l lo)(I:lo<=H.next)(M:ej H w m lo')(hb:l.length+m.length<2^40):
 ∃j H',cD prog false H 59 59 v w=some (j,H')/\dU H' j (l++m) lo/\H.next<=H'.next/\(∀k,k<lo->H'.get k=H.get k)/\sR v j H H':=by
 by_cases Y:m=[]
 .subst Y;refine⟨v,H,?_,bb,ay _,fun _ _=>rfl,fun _ _ _=>rfl,fun _ h=>.inl h⟩;obtain⟨r,z,rfl,O,_⟩:=Z;rcases M with⟨rfl,_⟩|⟨C,U,rfl,J,_⟩
  .simp only[cD,underlying59,tU,u9,vc,show gN prog 59=true by kernel_rfl,fk]
  .have V:=II J;simp only[fq]at V;simp only[cD,underlying59,tU,u9,vc,show gN prog 59=true by kernel_rfl,fq,V]
 .rcases M with⟨_,h⟩|⟨C,U,rfl,J,_⟩
  .exact(Y h).elim
  .obtain⟨j,H',h1,O,h3,h4⟩:=IJ (.inr Z) I (II J) Y hb
   grind
def dU.len(h:dU H v l lo):gO prog H' 59 v=some (.int .i64 l.length):=by
 obtain⟨r,z,rfl,_⟩:=h;exact As underlying59 _ _ _ _
theorem dU.at(h:dU H v l lo){i:Nat}(I:i<l.length):
 ∃r,el prog 59 v (.int .i64 (i:Int))=some (.ptr r i)/\gX prog H 9 (.ptr r i)=some (.aj l[i]):=by
 obtain⟨r,z,rfl,j,_⟩:=h;refine⟨r,?_,?_⟩
 .rw[wI underlying59 tU I];simp
 .rw[Au underlying9 rfl j,eI,bj I];rfl
def dU.one{H:Hp}{v:AV}{l:qx}{lo:Nat}(h:dU H v l lo):AV.one v=true/\v.cells=[v]:=by
 obtain⟨r,z,rfl,_⟩:=h;exact⟨rfl,rfl⟩
theorem NK(l:qx):jI 1 l.length (l.map .aj)=l.map fun s=>[AV.aj s]:=by
 induction l with
 |nil=>rfl
 |cons a l ih=>simp[jI,ih]
theorem NL(n:Nat):∀(l:qx) (H:Hp),iG (fT (n+1)) (l.map .aj) H=some (l.map .aj,H)
 |[],H=>rfl
 |a::l,H=>by
  have:=NL n l H;have e:fT (n+1) (.aj a) H=some (.aj a,H):=rfl;simp only[eK,iG,e,this]
theorem dU.aG(h:dU H v l lo)(n:Nat):
 ∃H',fT (n+2) v H=some (cH l,H')/\dU H' v l lo/\H'.next=H.next/\(∀k,k<lo->H'.get k=H.get k)/\∀k,¬aN v k->H'.get k=H.get k:=by
 obtain⟨r,z,rfl,j,M,V,Y⟩:=h;refine⟨H.set r (.cells (l.map .aj) (max z l.length) true),?_,⟨r,max z l.length,rfl,fO,ac,V,Y⟩,rfl,fun k Z=>ly,fun k Z=>by rw[aM,af (fun e=>Z ⟨_,oO⟩)]⟩;have e:fT (n+2) (.sl r 0 l.length 1) H=match H.get r with
  |some (.cells I z C)=>match Nat.ble (0+l.length*1) I.length&&Nat.ble z I.length with
   |true=>match iG (fT (n+1)) ((I.drop 0).take (l.length*1)) (H.set r (.cells I (max z (0+l.length*1)) C))with
    |some (O,H)=>some (.az (jI 1 l.length O),H)
    |none=>none
   |false=>none
  |_=>none:=rfl
 rw[e,j];simp only[dx,bR,oN,hY];have U:Nat.ble l.length l.length=true:=by rw[DY];omega
 have J:Nat.ble z l.length=true:=by rw[DY];omega
 rw[U,J];simp only[ID];rw[gQ aw,NL];simp only[NK]
def bX.args{P:Program}{ρ:Nat->Int}{V I:qu}{r:AV}(h:bX P ρ f V r)(Z:∀(G:Gh) vs,cc G I vs->cc G V vs):bX P ρ f I r:=
 ⟨h.1,fun G w vs m j C=>h.2 G w vs m j (Z G vs C)⟩
def zbc{G:Gh}{a:qu}{vs:qH}(h:cc G (.ag::a) vs):cc G (cH []::a) vs:=by
 cases vs with
 |nil=>have:=h.1;simp at this
 |cons v vs=>
  obtain⟨z,J⟩:=h.bp;cases z;exact jJ (.lst0 _ _) J
def ud(x:Option qx×qA):qu:=match x with
 |(none,s)=>[.ag,.aj s]
 |(some l,s)=>[cH l,.aj s]
def IK(x y:Option qx×qA)(h:ud x=ud y):x=y:=by
 obtain⟨a,s⟩:=x;obtain⟨b,u⟩:=y;cases a<;>cases b<;>simp only[ud,eJ,AV.aj.injEq,AV.az.injEq,aW,reduceCtorEq,false_and,kN]at h
 .rw[h]
 .rw[wW h.1,h.2]
noncomputable def sT:En:=⟨107,true,co (fun x=>(x.1.getD []).length<2^60) ud fun x=>.bool (bE (x.1.getD []) x.2)⟩
def IL:dI prog ρ sT:=dT fun x hx=>by
 obtain⟨a,s⟩:=x;cases a with
 |none=>exact bX.args (NH ρ [] s aw) fun G vs h=>zbc h
 |some l=>exact NH ρ l s hx
theorem IM{l:qC}(O:∀J,dE l 107 J=sT.sp J)(I:iA l 107=true){r:qx}(Z:ej H v r lo)(hr:r.length<2^60)(s:qA):
 aR prog (au pls l) 107 [v,.aj s] H fun w H'=>w=.bool (bE r s)/\ej H' v r lo/\H'.next=H.next/\(∀k,k<lo->H'.get k=H.get k)/\∀k,¬aN v k->H'.get k=H.get k:=by
 rcases Z with⟨rfl,rfl⟩|Z
 .refine aF ?_ (cV (enc:=ud) (out:=fun x=>.bool (bE (x.1.getD []) x.2)) IK (x:=(none,s)) (O _) hr);rintro w _ ⟨rfl,rfl⟩;exact⟨rfl,.inl ⟨rfl,rfl⟩,rfl,fun _ _=>rfl,fun _ _=>rfl⟩
 .obtain⟨H',m,j,Y,V⟩:=Z.aG 98;have C:∀y,(y.1.getD []).length<2^60->ud y≠[v,.aj s]:=fun y _ e=>by
   obtain⟨q,z,rfl,_⟩:=Z;obtain⟨a,u⟩:=y;cases a<;>simp[ud]at e
  refine aF ?_ (DO (enc:=ud) (out:=fun x=>.bool (bE (x.1.getD []) x.2)) IK (x:=(some r,s)) O I hr C (H':=H') ?_)
  .rintro w _ ⟨rfl,rfl⟩;exact⟨rfl,.inr j,Y,V⟩
  .show iG (fT 100) [v,.aj s] H=some ([cH r,.aj s],H');simp only[iG,m];rfl
end Go.Proofs.YtpbcimfiofmoeaaGreat
namespace Go.Ab
set_option maxRecDepth 20000
open Go
variable{P:Program}{f:FuncId}{V:qu}{r v u:AV}{H H':Hp}{S S':Nat->Prop}{n:Nat}
def bY:Nat->AV->AV
 |0,v=>v
 |n+1,v=>match v with
  | .ag=>.az []
  | .az z=>.az (z.map fun I=>I.map (bY n))
  | .agg Z=>.agg (Z.map (bY n))
  | .a6 Z=>.a6 (Z.map (bY n))
  |v=>v
theorem VR.wk{G:Gh}:∀(n:Nat) {v:AV}{x:Value},VR G v x->VR G (bY n v) x
 |0,_,_,h=>h
 |n+1,v,x,h=>by
  cases h with
  |ag=>exact .lst0 _ _
  |az vs hz M Z hc=>
   rename_i xs b o cap z;have:=VR.az (G:=G) (xs:=xs.map fun Y=>Y.map (bY n)) (b:=b) (o:=o) (cap:=cap) (z:=z) vs ?_ ?_ ?_ ?_
   .rw[dx]at this;exact this
   .intro i Y hr;rw[eI]at hr;cases hx:xs[i]? with
    |none=>rw[hx]at hr;simp at hr
    |some br=>rw[hx]at hr;simp only[kM]at hr;rw[<-hr,dx];exact hz i br hx
   .intro i j J C;rw[dx]at J;exact M i j J C
   .intro i j Y c hr I;rw[eI]at hr;cases hx:xs[i]? with
    |none=>rw[hx]at hr;simp at hr
    |some br=>
     rw[hx]at hr;simp only[kM]at hr;rw[<-hr,eI]at I;cases hy:br[j]? with
     |none=>rw[hy]at I;simp at I
     |some c0=>rw[hy]at I;simp only[kM]at I;rw[<-I];exact VR.wk n (Z i j br c0 hx hy)
   simp_all
  |lst0 a cap=>exact .lst0 a cap
  |agg O Z=>
   refine .agg bb fun i c v hc V=>?_;rw[eI]at hc;rename_i U vs;cases hy:U[i]? with
   |none=>simp_all
   |some c0=>rw[hy]at hc;simp only[kM]at hc;rw[<-hc];exact VR.wk n (Z i c0 v hy V)
  |a6 O Z=>
   refine .a6 bb fun i c v hc V=>?_;rw[eI]at hc;rename_i U vs;cases hy:U[i]? with
   |none=>simp_all
   |some c0=>rw[hy]at hc;simp only[kM]at hc;rw[<-hc];exact VR.wk n (Z i c0 v hy V)
  |int k m=>exact .int k m
  |sx k e=>exact .sx k e
  |bool b=>exact .bool b
  |aj s l h=>exact .aj s l h
  |b0=>exact .b0
  |bD=>exact .bD
  |ch=>exact .ch
  |ptr h=>exact .ptr h
  |bI vs M Z=>exact .bI vs M Z
  |sl h O hc=>exact .sl h O hc
  |map h=>exact .map h
  |bJ O Z=>exact .bJ O Z
def bX.wk{ρ:Nat->Int}(n:Nat)(h:bX P ρ f V r):bX P ρ f V (bY n r):=
 ⟨h.1,fun G w vs m j C=>(h.2 G w vs m j C).mono fun _ _ ⟨v,O,Z,Y,U⟩=>⟨v,O,Z,Y.wk n,U⟩⟩
def NM{ρ:Nat->Int}{j:AV}(n:Nat)(h:bX P ρ f V r)(e:bY n r=j):bX P ρ f V j:=e▸h.wk n
variable {P:Program} {cfg:Cfg} {f N:Nat}
theorem zbd{c:SC}{E:aq}{Q:AX->aq->Hp->Prop}(cs:qG)(h:∀E':aq,(∀k∈cs,E'.at k=E.at k)->bS P cfg f N c E' H Q):bS P cfg f N c E H Q:=h E fun _ _=>rfl
def cp{I β:Type}(p:I->β->Prop):List I->List β->Prop
 |[],[]=>True
 |a::l,b::m=>p a b/\cp p l m
 |_,_=>False
theorem cp.len{I β:Type}{p:I->β->Prop}:∀{l:List I}{m:List β},cp p l m->l.length=m.length
 |[],[],_=>rfl
 |_::_,_::_,h=>by simp only[gF,cp.len h.2]
theorem cp.mono{I β:Type}{p q:I->β->Prop}(h:∀a b,p a b->q a b):∀{l:List I}{m:List β},cp p l m->cp q l m
 |[],[],_=>trivial
 |_::_,_::_,k=>⟨h _ _ k.1,cp.mono h k.2⟩
theorem cp.append{I β:Type}{p:I->β->Prop}:∀{l:List I}{m:List β}{O:List I}{M:List β},cp p l m->cp p O M->cp p (l++O) (m++M)
 |[],[],_,_,_,h=>h
 |_::_,_::_,_,_,h,k=>⟨h.1,cp.append h.2 k⟩
theorem cp.refl{I:Type}{p:I->I->Prop}:∀{l:List I},(∀a∈l,p a a)->cp p l l
 |[],_=>trivial
 |a::l,h=>⟨h a eg,cp.refl fun b hb=>h b (en _ hb)⟩
theorem cp.get{I β:Type}{p:I->β->Prop}:∀{l:List I}{m:List β},cp p l m->∀{i:Nat}{a:I}{b:β},l[i]?=some a->m[i]?=some b->p a b
 |[],[],_,i,_,_,h,_=>by simp at h
 |a::l,b::m,h,0,_,_,h1,h2=>by
  simp only[tY,aQ]at h1 h2;subst h1;subst h2;exact h.1
 |a::l,b::m,h,i+1,_,_,h1,h2=>cp.get h.2 (by simpa using h1) (by simpa using h2)
theorem cp.set{I β:Type}{p:I->β->Prop}:∀{l:List I}{m:List β},cp p l m->∀{i:Nat}{a:I}{b:β},p a b->cp p (l.set i a) (m.set i b)
 |[],[],_,i,_,_,_=>by simp[cp]
 |_::_,_::_,h,0,_,_,k=>⟨k,h.2⟩
 |_::_,_::_,h,i+1,_,_,k=>⟨h.1,cp.set h.2 k⟩
def NN(v:AV):Prop:=fQ v/\match v with
 | .sl _ _ _ _|.agg _=>False
 |_=>True
def dq(S:Nat->Prop):Nat->Hp->AV->AV->Prop
 |0,_,_,_=>False
 |n+1,H,v,u=>match v with
  | .sl r Y j z=>S r/\r<H.next/\∃I Z C l,H.get r=some (.cells I Z C)/\Z<=I.length/\Y+j*z<=I.length/\cp (dq S n H) ((I.drop Y).take (j*z)) l/\u=.az (jI z j l)
  | .agg I=>∃V,cp (dq S n H) I V/\u=.agg V
  |v=>fQ v/\u=v
def dq.cu(h:NN v):dq S (n+1) H v v:=by
 cases v<;>first|exact h.2.elim|exact⟨h.1,rfl⟩
def vp:=@dq.cu
theorem dq.up{S:Nat->Prop}{H:Hp}:∀{n m:Nat}{v u:AV},dq S n H v u->n<=m->dq S m H v u
 |0,_,_,_,h,_=>h.elim
 |n+1,0,_,_,_,hm=>by omega
 |n+1,m+1,v,u,h,hm=>by
  cases v with
  |sl r off len z=>
   obtain⟨Z,V,I,Y,C,l,j,U,O,M,J⟩:=h;exact⟨Z,V,I,Y,C,l,j,U,O,M.mono fun a b k=>dq.up k ac,J⟩
  |agg I=>
   obtain⟨ds,Z,j⟩:=h;exact⟨ds,Z.mono fun a b k=>dq.up k ac,j⟩
  |_=>exact h
def rQ(a b:Option HB):Prop:=a=b\/∃I i j C,a=some (.cells I i C)/\b=some (.cells I j C)/\(i<=I.length->j<=I.length)
def rQ.trans{a b c:Option HB}(h:rQ a b)(k:rQ b c):rQ a c:=by
 rcases h with rfl|⟨I,i,j,C,rfl,rfl,h⟩
 .exact k
 .rcases k with rfl|⟨Z,M,Y,V,e,rfl,k⟩
  .exact .inr ⟨I,i,j,C,rfl,rfl,h⟩
  .simp only[aQ,HB.cells.injEq]at e;obtain⟨rfl,rfl,rfl⟩:=e;exact .inr ⟨I,i,Y,C,rfl,rfl,fun q=>k (h q)⟩
theorem dq.cR{S S':Nat->Prop}{H H':Hp}(hS:∀k,k<H.next->S k->S' k)(J:H.next<=H'.next)(Z:∀k,S k->k<H.next->rQ (H.get k) (H'.get k)):∀{n:Nat}{v u:AV},dq S n H v u->dq S' n H' v u
 |0,_,_,h=>h.elim
 |n+1,v,u,h=>by
  cases v with
  |sl r off len z=>
   obtain⟨m,Y,I,V,C,l,U,h3,h4,h5,h6⟩:=h;have M:=h5.mono fun a b k=>dq.cR hS J Z k;rcases Z r m Y with e|⟨cs',i,j,tip',O,e2,e3⟩
   .exact⟨hS r Y m,ac,I,V,C,l,bb,h3,h4,M,h6⟩
   .rw[U]at O;simp only[aQ,HB.cells.injEq]at O;obtain⟨rfl,rfl,rfl⟩:=O;exact⟨hS r Y m,ac,I,j,C,l,e2,e3 h3,h4,M,h6⟩
  |agg I=>
   obtain⟨ds,m,U⟩:=h;exact⟨ds,m.mono fun a b k=>dq.cR hS J Z k,U⟩
  |_=>exact h
def dq.frame(hS:∀k,S k->S' k)(J:H.next<=H'.next)(j:∀k,S k->k<H.next->rQ (H.get k) (H'.get k))(h:dq S n H v u):dq S' n H' v u:=h.cR (fun k _ q=>hS k q) J j
structure Icy (S:Nat->Prop) (H H':Hp):Prop where
 next:H'.next=H.next
 out:∀k,¬S k->H'.get k=H.get k
 same:∀k,rQ (H.get k) (H'.get k)
def Icy.refl(S:Nat->Prop)(H:Hp):Icy S H H:=⟨rfl,fun _ _=>rfl,fun _=>.inl rfl⟩
def Icy.trans{a b c:Hp}(h:Icy S a b)(k:Icy S b c):Icy S a c:=⟨k.next.trans h.next,fun r hr=>(k.out r hr).trans (h.out r hr),fun r=>(h.same r).trans (k.same r)⟩
def Icy.ic(h:Icy S H H')(k:dq S' n H v u):dq S' n H' v u:=k.frame (fun _ q=>q) (kh h.next.symm) fun r _ _=>h.same r
theorem D1{S:Nat->Prop}{n:Nat}(ih:∀{v u:AV}{H:Hp},dq S n H v u->∃H',fT n v H=some (u,H')/\Icy S H H'):∀{l m:qu}{H:Hp},cp (dq S n H) l m->∃H',iG (fT n) l H=some (m,H')/\Icy S H H'
 |[],[],H,_=>⟨H,rfl,Icy.refl S H⟩
 |a::l,b::m,H,h=>by
  obtain⟨H1,Z,j⟩:=ih h.1;obtain⟨z,C,V⟩:=D1 ih (l:=l) (m:=m) (H:=H1) (h.2.mono fun a b k=>j.ic k);exact⟨z,by simp only[iG,Z,C],j.trans V⟩
theorem dq.aG{S:Nat->Prop}:∀{n:Nat}{v u:AV}{H:Hp},dq S n H v u->∃H',fT n v H=some (u,H')/\Icy S H H'
 |0,_,_,_,h=>h.elim
 |n+1,v,u,H,h=>by
  cases v with
  |sl r Y j z=>
   obtain⟨m,h0,I,Z,C,l,O,M,h4,h5,rfl⟩:=h;have V:Icy S H (H.set r (.cells I (max Z (Y+j*z)) C)):=by
    refine⟨rfl,fun k U=>by rw[aM,af (fun e=>U (by rw[e];exact m))],fun k=>?_⟩;rw[aM];split
    .rename_i e;subst e;exact .inr ⟨I,Z,max Z (Y+j*z),C,O,rfl,fun _=>ac⟩
    .exact .inl rfl
   obtain⟨H',h6,h7⟩:=D1 (fun k=>dq.aG k) (h5.mono fun a b k=>V.ic k);refine⟨H',?_,V.trans h7⟩;have e:fT (n+1) (.sl r Y j z) H=match H.get r with
    |some (.cells I Z C)=>match Nat.ble (Y+j*z) I.length&&Nat.ble Z I.length with
     |true=>match iG (fT n) ((I.drop Y).take (j*z)) (H.set r (.cells I (max Z (Y+j*z)) C))with
      |some (l',H)=>some (.az (jI z j l'),H)
      |none=>none
     |false=>none
    |_=>none:=rfl
   rw[e,O];have e1:Nat.ble (Y+j*z) I.length=true:=by rw[DY];exact h4
   have e2:Nat.ble Z I.length=true:=by rw[DY];exact M
   grind
  |agg I=>
   obtain⟨J,m,rfl⟩:=h;obtain⟨H',O,M⟩:=D1 (fun k=>dq.aG k) m;refine⟨H',?_,M⟩;have e:fT (n+1) (.agg I) H=match iG (fT n) I H with
    |some (J,H)=>some (.agg J,H)
    |none=>none:=rfl
   rw[e,O]
  |ptr r o=>
   obtain⟨k,U⟩:=h.1;exact absurd (U (k+1) ac H) (by simp[iceV])
  |map r=>
   obtain⟨k,U⟩:=h.1;exact absurd (U (k+1) ac H) (by simp[iceV])
  |_=>exact⟨H,by rw[show u=_ from h.2];rfl,Icy.refl S H⟩
def dq.iceL{l m:qu}(h:cp (dq S n H) l m):∃H',iG (fT n) l H=some (m,H')/\Icy S H H':=D1 (fun k=>dq.aG k) h
theorem D2{S:Nat->Prop}{n:Nat}{H:Hp}(ih:∀{v u:AV},dq S n H v u->∃z,∀m,z<=m->iceV H m v=some u):∀{l k:qu},cp (dq S n H) l k->∃z,∀m,z<=m->iceL (iceV H m) l=some k
 |[],[],_=>⟨0,fun _ _=>rfl⟩
 |a::l,b::k,h=>by
  obtain⟨bZ,Z⟩:=ih h.1;obtain⟨U,j⟩:=D2 ih (l:=l) (k:=k) h.2;exact⟨max bZ U,fun m Y=>by simp only[iceL,Z m ac,j m ac]⟩
theorem dq.iceV{S:Nat->Prop}{H:Hp}:∀{n:Nat}{v u:AV},dq S n H v u->∃Z,∀m,Z<=m->iceV H m v=some u
 |0,_,_,h=>h.elim
 |n+1,v,u,h=>by
  cases v with
  |sl r Y j z=>
   obtain⟨U,h0,I,imm,tip,l,h2,h3,h4,M,rfl⟩:=h;obtain⟨Z,O⟩:=D2 (fun k=>dq.iceV k) M;refine⟨Z+1,fun m V=>?_⟩;obtain⟨m,rfl⟩:∃k,m=k+1:=⟨m-1,ac⟩;have e:Ab.iceV H (m+1) (.sl r Y j z)=match H.get r with
    |some (.cells I _ _)=>match Ab.iceL (Ab.iceV H m) ((I.drop Y).take (j*z))with
     |some C=>if C.length=j*z then some (.az (jI z j C))else none
     |none=>none
    |_=>none:=rfl
   have hl:l.length=j*z:=by rw[<-M.len,oL,nQ];omega
   simp_all
  |agg I=>
   obtain⟨J,U,rfl⟩:=h;obtain⟨Z,O⟩:=D2 (fun k=>dq.iceV k) U;refine⟨Z+1,fun m V=>?_⟩;obtain⟨m,rfl⟩:∃k,m=k+1:=⟨m-1,ac⟩;have e:Ab.iceV H (m+1) (.agg I)=match Ab.iceL (Ab.iceV H m) I with
    |some J=>some (.agg J)
    |none=>none:=rfl
   simp_all
  |_=>
   obtain⟨k,hk⟩:=h.1;exact⟨k,fun m V=>by rw[hk m V H,h.2]⟩
theorem NO(z:Nat):∀(rows:List qu),(∀r∈rows,r.length=z)->jI z rows.length rows.flatten=rows
 |[],_=>rfl
 |r::rows,h=>by
  have m:=h r eg;rw[jl,gF];show(r++rows.flatten).take z::jI z rows.length ((r++rows.flatten).drop z)=_;rw[GL ac,gQ ac,CS ac,CH ac,lL,NO z rows fun q U=>h q (en _ U)]
theorem w5{z:Nat}:∀{rows:List qu},(∀r∈rows,r.length=z)->rows.flatten.length=rows.length*z
 |[],_=>by simp
 |r::rows,h=>by
  rw[jl,iR,h r eg,w5 fun q U=>h q (en _ U),gF,x3];omega
theorem cp.cu{p:AV->AV->Prop}:∀{a b:List qu},cp (cp p) a b->cp p a.flatten b.flatten
 |[],[],_=>trivial
 |_::_,_::_,h=>by rw[jl,jl];exact h.1.append (cp.cu h.2)
theorem cp.eB{p:AV->AV->Prop}{z:Nat}:∀{a b:List qu},cp (cp p) a b->(∀r∈a,r.length=z)->∀r∈b,r.length=z
 |[],[],_,_,r,hr=>by simp at hr
 |x::a,y::b,h,hz,r,hr=>by
  rcases gH.1 hr with rfl|hr
  .rw[<-h.1.len];simp_all
  .exact cp.eB h.2 (fun q U=>hz q (en _ U)) r hr
def dq.rows{r z imm:Nat}{tip:Bool}{a b:List qu}(hS:S r)(hr:r<H.next)(hg:H.get r=some (.cells a.flatten imm tip))(I:imm<=a.flatten.length)(C:∀x∈a,x.length=z)(h:cp (cp (dq S n H)) a b):dq S (n+1) H (.sl r 0 a.length z) (.az b):=by
 have O:=w5 C;refine⟨hS,hr,a.flatten,imm,tip,b.flatten,hg,I,ac,?_,?_⟩
 .rw[hY,gQ ac];exact h.cu
 .rw[h.len,NO z b (h.eB C)]
theorem cc.wk{G:Gh}(n:Nat):∀{V:qu}{vs:qH},cc G V vs->cc G (V.map (bY n)) vs
 |[],vs,h=>h
 |a::l,[],h=>by have:=h.1;simp at this
 |a::l,v::vs,h=>by
  obtain⟨m,j⟩:=h.bp;exact jJ (m.wk n) (cc.wk n j)
def bX.wkA{P:Program}{ρ:Nat->Int}{f:FuncId}(n:Nat)(h:bX P ρ f (V.map (bY n)) r):bX P ρ f V r:=⟨h.1,fun G w vs m j C=>h.2 G w vs m j (C.wk n)⟩
def oZ(e:En):En:=⟨e.f,e.aG,fun V=>e.sp (V.map (bY 60))⟩
def AQ{P:Program}{ρ:Nat->Int}{e:En}(h:dI P ρ e):dI P ρ (oZ e):=fun V r hr=>(h _ r hr).wkA 60
end Go.Ab
namespace Go.Proofs.YtpbcimfiofmoeaaGreat
set_option maxRecDepth 20000
open Go Go.Ab Proofs.Tryz
variable{H H':Hp}{v x:AV}{l m:qy}{lo k r o:Nat}{cs:qu}
def iV(H:Hp)(v:AV)(l:qy)(lo:Nat):Prop:=∃r z,v=.sl r 0 l.length 1/\H.get r=some (.cells (l.map (.int .i64)) z true)/\z<=l.length/\lo<=r/\r<H.next
def fY(H:Hp)(v:AV)(l:qy)(lo:Nat):Prop:=(v=.ag/\l=[])\/iV H v l lo
def iV.cL(h:iV H v l lo)(J:H.next<=H'.next)(hg:∀k,lo<=k->k<H.next->H'.get k=H.get k):iV H' v l lo:=by
 obtain⟨r,z,m,j,C,V,Z⟩:=h;exact⟨r,z,m,by rw[hg r V Z];exact j,C,V,ac⟩
def iV.lt(h:iV H v l lo)(z:aN v k):lo<=k/\k<H.next:=by
 obtain⟨r,Z,rfl,_,_,V,Y⟩:=h;obtain⟨n,e⟩:=z;simp only[AV.sl.injEq]at e;rw[<-e.1];exact⟨V,Y⟩
def fY.lt(h:fY H v l lo)(z:aN v k):lo<=k/\k<H.next:=by
 rcases h with⟨rfl,_⟩|h
 .obtain⟨n,e⟩:=z;simp at e
 .exact h.lt z
def iV.keep(h:iV H v l lo)(J:H.next<=H'.next)(hg:∀k,aN v k->H'.get k=H.get k):iV H' v l lo:=by
 obtain⟨r,z,rfl,j,C,V,Z⟩:=h;exact⟨r,z,rfl,DV,C,V,ac⟩
def fY.keep(h:fY H v l lo)(J:H.next<=H'.next)(hg:∀k,aN v k->H'.get k=H.get k):fY H' v l lo:=h.imp id fun h=>h.keep J hg
def D3(l:qy):(l.map (AV.int .i64)).all AV.one=true:=by simp[AV.one]
def sU{imm:Nat}(h:H.get r=some (.cells (m.map (.int .i64)) imm true)):fk H 1 (.sl r 0 m.length 1)=some (m.length,m.map (.int .i64)):=by
 have:=tR (H:=H) (r:=r) (o:=0) (n:=m.length) (z:=1) (s:=1) h aw;rw[this,hY,gQ aw]
theorem IN(M:fY H v l lo)(I:lo<=H.next)(C:fk H 1 x=some (m.length,m.map (.int .i64)))(hm:m≠[])(hb:l.length+m.length<2^40):
 ∃j H',cD prog false H 23 23 v x=some (j,H')/\iV H' j (l++m) lo/\H'.next=H.next+1/\(∀k,k<lo->H'.get k=H.get k)/\sR v j H H':=by
 obtain⟨n,J⟩:∃n,m.length=n+1:=⟨m.length-1,Iz⟩;have Y:ee=70368744177664:=rfl;rw[J]at C;rcases M with⟨rfl,rfl⟩|⟨r,Z,rfl,U,h3,h4,h5⟩
 .refine⟨.sl H.next 0 (n+1) 1,H.alloc (.cells (m.map (.int .i64)) 0 true),append_nil underlying23 j5 oT oU ax C (D3 m) rfl mz mz,⟨H.next,0,ua,dZ,ac,I,bT _⟩,rfl,fun k z=>em,fun k z _=>em,fun k z=>.inr ?_⟩;obtain⟨n',e⟩:=z;simp only[AV.sl.injEq]at e;omega
 .have O:gY false H 1 (.sl r 0 l.length 1)=H:=by
   unfold gY;simp only[U,bR,dx,oN];have:Nat.blt l.length l.length=false:=by
    cases hb:Nat.blt l.length l.length with
    |false=>rfl
    |true=>rw[sI]at hb;omega
   simp[this]
  refine⟨.sl H.next 0 (l.length+(n+1)) 1,(H.a0 r).alloc (.cells (l.map (.int .i64)++m.map (.int .i64)) (Z-0) true),?_,⟨H.next,Z,ua,?_,cb,I,bT _⟩,rfl,fun k z=>?_,fun k z V=>?_,fun k z=>.inr ?_⟩
  .simp only[cD,underlying23,j5,oT,oU,show gN prog 23=true by kernel_rfl,C,D3,O,nV,ft,l8,nL,U,dx,bR,oN,hY];rw[ai ⟨mz,mz,trivial,trivial,h3⟩];simp
  .show((H.a0 r).alloc _).get (H.a0 r).next=_
   rw[aD,ai rfl];simp
  .rw[aD,af nh,iy,af ac]
  .rw[aD,af nh,iy,af (fun e=>V ⟨_,oO⟩)]
  .obtain⟨n',e⟩:=z;simp only[AV.sl.injEq]at e;omega
def D4{imm:Nat}(s:Int)(Z:fY H v l lo)(I:lo<=H.next)(U:H.get r=some (.cells [.int .i64 s] imm true))(hb:l.length<2^39):
 ∃j H',cD prog false H 23 23 v (.sl r 0 1 1)=some (j,H')/\iV H' j (l++[s]) lo/\H'.next=H.next+1/\(∀k,k<lo->H'.get k=H.get k)/\sR v j H H':=
 IN Z I (sU (m:=[s]) U) aw cb
def IP{w:AV}{lo':Nat}(Z:iV H v l lo)(I:lo<=H.next)(M:fY H w m lo')(hb:l.length+m.length<2^40):
 ∃j H',cD prog false H 23 23 v w=some (j,H')/\iV H' j (l++m) lo/\H.next<=H'.next/\(∀k,k<lo->H'.get k=H.get k)/\sR v j H H':=by
 by_cases Y:m=[]
 .subst Y;refine⟨v,H,?_,by rw[aS];exact Z,ay _,fun _ _=>rfl,fun _ _ _=>rfl,fun _ h=>.inl h⟩;obtain⟨r,z,rfl,V,_⟩:=Z;rcases M with⟨rfl,_⟩|⟨r',U,rfl,J,_⟩
  .simp only[cD,underlying23,j5,oT,oU,show gN prog 23=true by kernel_rfl,fk]
  .have O:=sU J;simp only[fq]at O;simp only[cD,underlying23,j5,oT,oU,show gN prog 23=true by kernel_rfl,fq,O]
 .rcases M with⟨_,h⟩|⟨r',U,rfl,J,_⟩
  .exact(Y h).elim
  .obtain⟨j,H',C,V,h3,h4⟩:=IN (.inr Z) I (sU J) Y hb;exact⟨j,H',C,V,ac,h4⟩
def iV.len(h:iV H v l lo):gO prog H' 23 v=some (.int .i64 l.length):=by
 obtain⟨r,z,rfl,_⟩:=h;exact As underlying23 _ _ _ _
theorem iV.at(h:iV H v l lo){i:Nat}(I:i<l.length):
 ∃r,el prog 23 v (.int .i64 (i:Int))=some (.ptr r i)/\gX prog H 3 (.ptr r i)=some (.int .i64 l[i]):=by
 obtain⟨r,z,rfl,j,_⟩:=h;refine⟨r,?_,?_⟩
 .rw[wI underlying23 j5 I];simp
 .rw[Au underlying3 rfl j,eI,bj I];rfl
def vr(H:Hp)(v:AV)(l:qy)(lo:Nat):Prop:=∃r,v=.sl r 0 l.length 1/\H.get r=some (.cells (l.map (.int .i64)) 0 true)/\lo<=r/\r<H.next
def gK(H:Hp)(v:AV)(l:qy)(lo:Nat):Prop:=(v=.ag/\l=[])\/vr H v l lo
def vr.b(h:vr H v l lo):iV H v l lo:=by
 obtain⟨r,m,j,C,V⟩:=h;exact⟨r,0,m,j,cZ _,C,V⟩
def gK.n(h:gK H v l lo):fY H v l lo:=h.imp id fun h=>h.b
def vr.keep(h:vr H v l lo)(J:H.next<=H'.next)(hg:∀k,aN v k->H'.get k=H.get k):vr H' v l lo:=by
 obtain⟨r,rfl,j,V,Z⟩:=h;exact⟨r,rfl,DV,V,ac⟩
def gK.keep(h:gK H v l lo)(J:H.next<=H'.next)(hg:∀k,aN v k->H'.get k=H.get k):gK H' v l lo:=h.imp id fun h=>h.keep J hg
theorem D5(U:gK H v l lo)(I:lo<=H.next)(C:fk H 1 x=some (m.length,m.map (.int .i64)))(M:m≠[])(hb:l.length+m.length<2^40):
 ∃j H',cD prog false H 23 23 v x=some (j,H')/\vr H' j (l++m) lo/\H'.next=H.next+1/\(∀k,k<lo->H'.get k=H.get k)/\sR v j H H':=by
 obtain⟨n,J⟩:∃n,m.length=n+1:=⟨m.length-1,by have:=vo.2 M;omega⟩;have Y:ee=70368744177664:=rfl;rw[J]at C;rcases U with⟨rfl,rfl⟩|⟨r,rfl,V,h4,h5⟩
 .refine⟨.sl H.next 0 (n+1) 1,H.alloc (.cells (m.map (.int .i64)) 0 true),append_nil underlying23 j5 oT oU ax C (D3 m) rfl mz mz,⟨H.next,ua,dZ,I,bT _⟩,rfl,fun k z=>em,fun k z _=>em,fun k z=>.inr ?_⟩;obtain⟨n',e⟩:=z;simp only[AV.sl.injEq]at e;omega
 .have O:gY false H 1 (.sl r 0 l.length 1)=H:=by
   unfold gY;simp only[V,bR,dx,oN];have:Nat.blt l.length l.length=false:=by
    cases hb:Nat.blt l.length l.length with
    |false=>rfl
    |true=>rw[sI]at hb;omega
   simp[this]
  refine⟨.sl H.next 0 (l.length+(n+1)) 1,(H.a0 r).alloc (.cells (l.map (.int .i64)++m.map (.int .i64)) (0-0) true),?_,⟨H.next,ua,?_,I,bT _⟩,rfl,fun k z=>?_,fun k z Z=>?_,fun k z=>.inr ?_⟩
  .simp only[cD,underlying23,j5,oT,oU,show gN prog 23=true by kernel_rfl,C,D3,O,nV,ft,l8,nL,V,dx,bR,oN,hY];rw[ai ⟨mz,mz,trivial,trivial,cZ _⟩];simp
  .show((H.a0 r).alloc _).get (H.a0 r).next=_
   rw[aD,ai rfl];simp
  .rw[aD,af nh,iy,af ac]
  .rw[aD,af nh,iy,af (fun e=>Z ⟨_,oO⟩)]
  .obtain⟨n',e⟩:=z;simp only[AV.sl.injEq]at e;omega
theorem zbe(n:Nat):pG [.bool false] n=(List.replicate n false).map .bool:=by
 induction n with
 |zero=>rfl
 |succ n ih=>simp only[pG,ih];simp[List.replicate_succ]
theorem NP(n:Nat)(M:n<2^40):pI prog H 84 (.int .i64 n) (.int .i64 n)=some (.sl H.next 0 n 1,H.alloc (.cells ((List.replicate n false).map .bool) 0 true)):=by
 have Y:ee=70368744177664:=rfl;show pI prog H 84 (.int .i64 (Int.ofNat n)) (.int .i64 (Int.ofNat n))=_;simp only[pI,underlying84,DA,ML,MM];rw[ai ⟨ay _,mz,mz,rfl⟩,zbe]
def splice_one(cs:qu)(M:o<cs.length)(x:AV):splice cs o [x]=cs.set o x:=by
 rw[HP,List.set_eq_take_append_cons_drop,ai M];simp
def NQ(hg:H.get r=some (.cells cs 0 true))(M:o<cs.length)(n:Int):lW prog H 3 (.ptr r o) (.int .i64 n)=some (H.set r (.cells (cs.set o (.int .i64 n)) 0 true)):=by
 rw[HO,hg,j5,HN,Ab.cells_int,splice_one cs M,ai ⟨rfl,cZ _,M,rfl⟩]
def zbf(hg:H.get r=some (.cells cs 0 true))(M:o<cs.length)(b:Bool):lW prog H 4 (.ptr r o) (.bool b)=some (H.set r (.cells (cs.set o (.bool b)) 0 true)):=by
 rw[HO,hg,DA,HN,Mz,splice_one cs M,ai ⟨rfl,cZ _,M,rfl⟩]
def mA(H:Hp)(v:AV)(l:qy)(lo:Nat):Prop:=∃r z,v=.sl r 0 l.length 1/\H.get r=some (.cells (l.map (.int .u8)) z true)/\z<=l.length/\lo<=r/\r<H.next
def IQ(H:Hp)(v:AV)(l:qy)(lo:Nat):Prop:=(v=.ag/\l=[])\/mA H v l lo
def mA.cL(h:mA H v l lo)(J:H.next<=H'.next)(hg:∀k,lo<=k->k<H.next->H'.get k=H.get k):mA H' v l lo:=by
 obtain⟨r,z,m,j,C,V,Z⟩:=h;exact⟨r,z,m,by rw[hg r V Z];exact j,C,V,ac⟩
def mA.lt(h:mA H v l lo)(z:aN v k):lo<=k/\k<H.next:=by
 obtain⟨r,Z,rfl,_,_,V,Y⟩:=h;obtain⟨n,e⟩:=z;simp only[AV.sl.injEq]at e;rw[<-e.1];exact⟨V,Y⟩
def mA.keep(h:mA H v l lo)(J:H.next<=H'.next)(hg:∀k,aN v k->H'.get k=H.get k):mA H' v l lo:=by
 obtain⟨r,z,rfl,j,C,V,Z⟩:=h;exact⟨r,z,rfl,DV,C,V,ac⟩
def NR(l:qy):(l.map (AV.int .u8)).all AV.one=true:=by simp[AV.one]
def zbg{imm:Nat}(h:H.get r=some (.cells (m.map (.int .u8)) imm true)):fk H 1 (.sl r 0 m.length 1)=some (m.length,m.map (.int .u8)):=by
 have:=tR (H:=H) (r:=r) (o:=0) (n:=m.length) (z:=1) (s:=1) h aw;rw[this,hY,gQ aw]
theorem zbh(M:IQ H v l lo)(I:lo<=H.next)(C:fk H 1 x=some (m.length,m.map (.int .u8)))(hm:m≠[])(hb:l.length+m.length<2^40):
 ∃j H',cD prog false H 93 93 v x=some (j,H')/\mA H' j (l++m) lo/\H'.next=H.next+1/\(∀k,k<lo->H'.get k=H.get k)/\sR v j H H':=by
 obtain⟨n,J⟩:∃n,m.length=n+1:=⟨m.length-1,Iz⟩;have Y:ee=70368744177664:=rfl;rw[J]at C;rcases M with⟨rfl,rfl⟩|⟨r,Z,rfl,U,h3,h4,h5⟩
 .refine⟨.sl H.next 0 (n+1) 1,H.alloc (.cells (m.map (.int .u8)) 0 true),append_nil underlying93 HX HY HZ ax C (NR m) rfl mz mz,⟨H.next,0,ua,dZ,ac,I,bT _⟩,rfl,fun k z=>em,fun k z _=>em,fun k z=>.inr ?_⟩;obtain⟨n',e⟩:=z;simp only[AV.sl.injEq]at e;omega
 .have O:gY false H 1 (.sl r 0 l.length 1)=H:=by
   unfold gY;simp only[U,bR,dx,oN];have:Nat.blt l.length l.length=false:=by
    cases hb:Nat.blt l.length l.length with
    |false=>rfl
    |true=>rw[sI]at hb;omega
   simp[this]
  refine⟨.sl H.next 0 (l.length+(n+1)) 1,(H.a0 r).alloc (.cells (l.map (.int .u8)++m.map (.int .u8)) (Z-0) true),?_,⟨H.next,Z,ua,?_,cb,I,bT _⟩,rfl,fun k z=>?_,fun k z V=>?_,fun k z=>.inr ?_⟩
  .simp only[cD,underlying93,HX,HY,HZ,show gN prog 93=true by kernel_rfl,C,NR,O,nV,ft,l8,nL,U,dx,bR,oN,hY];rw[ai ⟨mz,mz,trivial,trivial,h3⟩];simp
  .show((H.a0 r).alloc _).get (H.a0 r).next=_
   rw[aD,ai rfl];simp
  .rw[aD,af nh,iy,af ac]
  .rw[aD,af nh,iy,af (fun e=>V ⟨_,oO⟩)]
  .obtain⟨n',e⟩:=z;simp only[AV.sl.injEq]at e;omega
def zbi{imm:Nat}(s:Int)(Z:IQ H v l lo)(I:lo<=H.next)(U:H.get r=some (.cells [.int .u8 s] imm true))(hb:l.length<2^39):
 ∃j H',cD prog false H 93 93 v (.sl r 0 1 1)=some (j,H')/\mA H' j (l++[s]) lo/\H'.next=H.next+1/\(∀k,k<lo->H'.get k=H.get k)/\sR v j H H':=
 zbh Z I (zbg (m:=[s]) U) aw cb
def NS(H:Hp)(n:Int):de prog H 93 1 [(0,.int .u8 n)]=some (.sl H.next 0 1 1,H.alloc (.cells [.int .u8 n] 0 true)):=ax
theorem bin_shr{D:BinOp->Sx->Sx->qJ}{t:TypeId}{k Z:IntKind}{a:Int}{m:Nat}(h:m<64)(z:k=.u64):eD prog D .shr t (.int k a) (.int Z (m:Int))=some (.int k (a.fdiv (2^ m))):=by
 subst z;have e:eD prog D .shr t (.int .u64 a) (.int Z (Int.ofNat m))=some (.int .u64 (a.fdiv (2^ min m 64))):=rfl;rw[show min m 64=m by omega]at e;exact e
def nn(n:Int)(i:Nat):Int:=IntKind.wrap .u8 (n.fdiv (2^ (8*i)))
def jM(n:Int)(i:Nat):qy:=(List.range i).map (nn n)
def ue(n:Int)(i:Nat):(jM n i).length=i:=by simp[jM]
def zbj(n:Int)(i:Nat):jM n (i+1)=jM n i++[nn n i]:=by simp[jM,AJ]
def vt(l:qy):qA:=l.map fun n=>UInt8.ofNat n.toNat
end Go.Proofs.YtpbcimfiofmoeaaGreat
namespace Go.Ab
set_option maxRecDepth 20000
open Go
instance:DecidableEq Nd:=fun x y=>decidable_of_iff (x.op=y.op/\x.aP=y.aP/\x.ao=y.ao) (by cases x;cases y;simp)
variable{l:qF}{i m:Nat}{n:Nd}
def jN(op:Int):Int×Bool:=
 if op=1\/op=2\/op=3\/op=26 then (0,true)
 else if op=20\/op=21\/op=24\/op=25 then (1,true)
 else if op=23\/op=27\/op=29 then (2,true)
 else if op=22\/op=28 then (3,true)
 else if op=30\/op=31 then (-1,true)
 else if 4<=op/\op<=19 then (2,true)
 else (0,false)
def jo(n:Int):Int:=(n-1).tdiv 2
def D6(l:qF)(k:Int):Int:=match l[k.toNat]? with
 |some n=>n.ao.length
 |none=>0
def lS(l:qF)(n:Nd):Int:=
 if n.op=2 then 5 else if n.op=3 then 255 else if n.op=23\/n.op=28 then 3 else if n.op=30 then 7 else if n.op=31 then 15
 else if n.op=25 then jo (D6 l (n.ao.headD 0))-1 else 0
def gL(l:qF)(n:Nd):Bool:=
 if n.op=1 then true
 else if n.op=27 then decide (1<=n.aP)&&decide (n.aP<=1000016)
 else decide (0<=n.aP)&&decide (n.aP<=lS l n)
def ou(op:Int):qy:=
 if op=22 then [1,1,1]else if op=23\/op=27\/op=29 then [2,1]else if op=28 then [2,1,1]else if op=24 then [2]else if op=25 then [3]else [1,1]
def iW:qy->qy->Bool
 |[],_=>true
 |a::s,w=>decide (a=w.headD 0)&&iW s w.tail
def D7(n:Nat):qy:=((List.replicate n (1:Int)).set 0 2).set (jo n+1).toNat 2
def iC(op:Int)(s:qy):Bool:=
 if (jN op).2=false then false
 else if 0<=(jN op).1/\(jN op).1≠s.length then false
 else if op=31 then decide (3<=s.length)&&decide (s.length%2=1)&&decide (jo s.length<=16)&&iW s (D7 s.length)
 else if op=30 then decide (1<=s.length)&&decide (s.length<=7)&&decide (s.headD 0=2)&&s.tail.all fun x=>decide (x=1)
 else if op=22/\s.getD 1 0=2 then decide (s.headD 0=1)&&decide (s.getD 2 0=2)
 else iW s (ou op)
def lT(i:Nat)(C:qy):qy->Option qy
 |[]=>some []
 |k::ks=>if k<0\/(i:Int)<=k\/C.getD k.toNat 0=0 then none else (lT i C ks).map fun s=>C.getD k.toNat 0::s
def lA(n:Nd)(s:qy):Int:=
 if n.op=31 then 3
 else if n.op=26\/n.op=27\/n.op=28\/n.op=29\/n.op=30 then 2
 else if n.op=22 then s.getD 1 0
 else if n.op=3/\n.aP.tmod 16=0 then 2
 else if n.op=25/\n.aP=0 then 2
 else 1
def sV(l:qF)(i:Nat)(C:qy):Int:=match l[i]? with
 |none=>0
 |some n=>match lT i C n.ao with
  |none=>0
  |some s=>if iC n.op s&&gL l n then lA n s else 0
def jB(l:qF):Nat->qy
 |0=>[]
 |i+1=>jB l i++[sV l i (jB l i)]
def jC(l:qF)(i:Int):Int:=if i<0\/(l.length:Int)<=i then 0 else (jB (l.take (i.toNat+1)) (i.toNat+1)).getD i.toNat 0
theorem D8(l:qF):∀i,(jB l i).length=i
 |0=>rfl
 |i+1=>by rw[jB,iR,D8 l i];rfl
theorem IR(l:qF):∀{i j:Nat},j<i->(jB l i).getD j 0=sV l j (jB l j)
 |0,j,h=>by omega
 |i+1,j,h=>by
  rw[jB];by_cases e:j<i
  .rw[gU,rD (by rw[D8];exact e),<-gU];exact IR l e
  .obtain rfl:j=i:=by omega
   rw[gU,uW (by rw[D8];omega),D8,xY];rfl
theorem yo{i:Nat}{C:qy}:∀{Z s:qy},lT i C Z=some s->∀k∈Z,0<=k/\k<i/\C.getD k.toNat 0≠0
 |[],s,_,k,h=>by simp at h
 |a::Z,s,h,k,z=>by
  rw[lT]at h;split at h
  .cases h
  .rename_i c;obtain⟨t,j,_⟩:=sC.1 h;rcases gH.1 z with rfl|z
   .omega
   .exact yo j k z
theorem IT{i:Nat}{C:qy}:∀{Z s:qy},lT i C Z=some s->s.length=Z.length
 |[],s,h=>by cases h;rfl
 |a::Z,s,h=>by
  rw[lT]at h;split at h
  .cases h
  .obtain⟨t,j,rfl⟩:=sC.1 h;rw[gF,gF,IT j]
def NT{C:qy}(J:l[i]?=some n)(h:sV l i C≠0):∃s,lT i C n.ao=some s/\iC n.op s=true/\gL l n=true:=by
 unfold sV at h
 grind
def NU(h:n.op=25->∃k C,n.ao=k::C/\k.toNat<m):gL (l.take m) n=gL l n:=by
 have e:lS (l.take m) n=lS l n:=by
  unfold lS;by_cases c:n.op=25
  .obtain⟨k,C,Z,j⟩:=h c;rw[c];simp only[Z,IE,D6,uX,j,ft]
  omega
 unfold gL;rw[e]
theorem zbk(V:i<m)(C:qy):sV (l.take m) i C=sV l i C:=by
 unfold sV;rw[uX,ai V];cases I:l[i]? with
 |none=>rfl
 |some n=>
  simp only;cases z:lT i C n.ao with
  |none=>rfl
  |some s=>
   simp only;by_cases c:iC n.op s=true
   .have e:gL (l.take m) n=gL l n:=NU fun U=>by
     have O:=IT z;have M:s.length=1:=by
      have Y:=c;unfold iC at Y;rw[U]at Y;have:jN 25=(1,true):=aH;rw[this]at Y;simp only at Y;split at Y
      .cases Y
      .split at Y
       .cases Y
       .omega
     cases Z:n.ao with
     |nil=>rw[Z,M]at O;simp at O
     |cons k J=>
      refine⟨k,J,rfl,?_⟩;have:=yo z k (by rw[Z];exact eg);omega
    rw[e]
   simp_all
theorem IU{l:qF}{m:Nat}:∀{i:Nat},i<=m->jB (l.take m) i=jB l i
 |0,_=>rfl
 |i+1,h=>by rw[jB,jB,IU (by omega:i<=m),zbk ac]
def AR(h:i<l.length):jC l i=sV l i (jB l i):=by
 unfold jC;rw[af ac,tT,IU (ay _),IR l (bT i)]
def IV{j:Nat}(Y:j<i)(I:i<=l.length):(jB l i).getD j 0=jC l j:=by
 rw[IR l Y,AR ac]
def NV{m:qF}(h:i<l.length):jC (l++m) i=jC l i:=by
 unfold jC
 grind
def w6(k:qy):Bool:=k.all fun x=>decide (x=1)
theorem IX:∀(s w:qy),s.length<=w.length->(∀x∈w,x=1)->iW s w=w6 s
 |[],w,_,_=>by simp[iW,w6]
 |a::s,[],h,_=>by simp at h
 |a::s,b::w,h,hw=>by
  have hb:=hw b eg;subst hb;rw[iW,IE,List.tail_cons,IX s w mR (fun x hx=>hw x (en _ hx))];simp[w6]
theorem D9(a b:Int)(s w:qy):iW (a::s) (b::w)=(decide (a=b)&&iW s w):=rfl
def zbl(n m:Nat)(h:m<n):(List.replicate n (1:Int)).set m 2=List.replicate m 1++2::List.replicate (n-m-1) 1:=by
 apply HV
 grind
theorem NW:∀(a s w v:qy),a.length=w.length->iW (a++s) (w++v)=(iW a w&&iW s v)
 |[],s,[],v,_=>by simp[iW]
 |x::a,s,y::w,v,h=>by
  rw[lw,lw,D9,D9,NW a s w v mR,AK]
 |[],_,_::_,_,h=>by simp at h
 |_::_,_,[],_,h=>pP
def NX(n:Nat)(h:1<=n):jo n=((n-1)/2:Nat):=by
 unfold jo
 grind
theorem zbm(s:qy)(h:3<=s.length)(z:s.length%2=1):iW s (D7 s.length)=(decide (s.headD 0=2)&&w6 ((s.drop 1).take (s.length/2))&&decide (s.getD (s.length/2+1) 0=2)&&w6 (s.drop (s.length/2+2))):=by
 obtain⟨m,Y⟩:∃m,s.length=2*m+1:=⟨s.length/2,ac⟩;have U:1<=m:=ac;have V:s.length/2=m:=ac;have M:(jo s.length+1).toNat=m+1:=DW;have O:D7 s.length=2::(List.replicate m 1++2::List.replicate (m-1) 1):=by
  unfold D7;rw[M,Y];have C:List.replicate (2*m+1) (1:Int)=1::List.replicate (2*m) 1:=rfl;rw[C,IF,IG,zbl _ _ ac]
  congr 4;omega
 rw[O,V]
 match s,Y with
 |a::t,Y=>
  have j:t.length=2*m:=zL;rw[D9,IE,DL,hY];have hd:t=t.take m++t.drop m:=(zY m t).symm;have I:(t.take m).length=m:=aX
  conv=>lhs;rw[hd]
  rw[NW _ _ _ _ Ak,IX (t.take m) _ Ak (fun x hx=>DZ hx)];have hg:(a::t).getD (m+1) 0=t.getD m 0:=rfl;have J:(a::t).drop (m+2)=t.drop (m+1):=rfl;rw[hg,J];have Z:t.drop m=t.getD m 0::t.drop (m+1):=by
   rw[gI ac,gU,bj ac];rfl
  rw[Z,D9,IX (t.drop (m+1)) _ cb (fun x hx=>DZ hx),AK,AK]
end Go.Ab
namespace Go.Proofs.YtpbcimfiofmoeaaGreat
set_option maxRecDepth 20000
open Go Go.Ab Proofs.Tryz
variable{H H':Hp}{v:AV}{lo:Nat}{S:Nat->Prop}{s:qy}
section
def tyR3b.tyF:=ad @cr (ad @cK (ad @dV (ad @dR (ad @dD (ad @eh (@dQ))))))
open tyR3b
noncomputable def NY:{c:SC // aE 22 (f104.body.getD .skip)=c}:=by
 refine⟨?_,?_⟩;rotate_left
 .simp only[f104,bN,aE,bH,bw,bM,bJ,Nat.blt,Nat.ble];rfl
noncomputable def NZ:{c:SC // aE 78 (f102.body.getD .skip)=c}:=by
 refine⟨?_,?_⟩;rotate_left
 .simp only[f102,bN,aE,bH,bw,bM,bJ,Nat.blt,Nat.ble];rfl
mutual
def dy:Ex->Nat
 | .mk _ _ _ _ C=>ki C
def ki:qI->Nat
 |[]=>0
 |e::es=>max (1+dy e) (ki es)
end
theorem zbn(x:Ex):dy x=ki x.ao:=by cases x;rw[dy];rfl
mutual
theorem N0:∀x:Ex,dy x<=x.sz
 | .mk _ _ _ _ C=>by have:=N2 C;simp only[dy,Ex.sz];omega
theorem N2:∀l:qI,ki l<=cy l
 |[]=>ay _
 |e::es=>by have:=N0 e;have:=N2 es;simp only[ki,cy];omega
end
def jO(x:Ex):qu:=[.agg x.cells]
def rR(x y:Ex)(h:jO x=jO y):x=y:=by simp only[jO,eJ,AV.agg.injEq,aW]at h;exact Ex.inj h
def nr(l:qD):qu:=[.az (l.map St.cells)]
def yp(x y:qD)(h:nr x=nr y):x=y:=by simp only[nr,eJ,AV.az.injEq,aW]at h;exact DS h
def zbo(ρ:Nat->Int):∀x:Ex,x.sz<2^60->bX prog ρ 104 [.agg x.cells] (.int .i64 (dy x)):=
 wV fit (pls:=pls) (l:=[]) trivial (fun x=>x.sz) (ok:=fun x=>x.sz<2^60) (enc:=jO) (out:=fun x=>.int .i64 (dy x)) (fun x _=>.cons (.agg x.pure) .nil) (fun x _=>.int _ _) (fun x hx=>by
 have Z:=uc (sz:=fun x:Ex=>x.sz) (ok:=fun x=>x.sz<2^60) (out:=fun x=>.int .i64 (dy x)) rR (f:=104) (l:=[]) x;generalize hl:(⟨104,false,co (fun y=>y.sz<2^60/\y.sz<x.sz) jO fun x=>.int .i64 (dy x)⟩:En)::[]=l at Z⊢;have kr:∀y:Ex,y.sz<2^60->y.sz<x.sz->∀H,aR prog (au pls l) 104 [.agg y.cells] H fun v H'=>v=.int .i64 (dy y)/\H'=H:=fun y C h2 H=>by
  subst hl;exact cV (enc:=jO) (out:=fun x=>.int .i64 (dy x)) rR (x:=y) rfl ⟨C,h2⟩
 have hsz:=x.aV;have I:=mY x.ao;have hlk:x.ao.length<2^60:=ac;have hdl:=N0 x;change aR _ _ _ [.agg x.cells] _ _;refine bp (M:=22) (rs:=[.tmp 2]) Z.call Z.aG Z.aB func104 rfl rfl NY.2 rfl ?_;dsimp only[NY,bm,Nat.reduceAdd];refine jH ?_;refine cl [1] [0] 4 x.ao.length (fun i E H=>∃m:Nat,E.at 3=.int .i64 m/\max m (ki (x.ao.drop i))=dy x) eE ⟨0,eE,by simp[zbn]⟩ ?_;rintro i E z hi Y j V hsI ⟨m,k3,U⟩;(try simp only[bC,aZ,aW,aG,aY,Nat.reduceBEq, *]at Y);(try simp only[bC,aZ,aW,aG,aY, *]at j);(try simp only[aU,ce,bR]at V);have hB0:(0 == z.next)=false:=ak ac;have hC0:(z.next == 0)=false:=ak ac;repeat' (first
  |(apply aj ?_;clear hK K)|apply aV ?_|(apply bz ?_ ?_<;>(intro hb hbp;try(cases hb;done)))|(apply am fun K hK=>?_)|fail)
 .have J:i<x.ao.length:=by simpa using hb
  have hgx:x.ao[i]?=some x.ao[i]:=bj J;have hm:=n1 (dm J);have O:ki (x.ao.drop i)=max (1+dy x.ao[i]) (ki (x.ao.drop (i+1))):=og;have hwr:IntKind.wrap .i64 (1+(dy x.ao[i]:Int))=((1+dy x.ao[i]:Nat):Int):=DX;repeat' (first
   |(apply aj ?_;clear hK K)|apply Rx.o ?_|(apply eu ?_;first|refine bK (kr _ ac ac _) ?_)|(apply am fun K hK=>?_)|fail)
  refine⟨ac,a0,a0,ca,IB,?_⟩;exact⟨max m (1+dy x.ao[i]),by simp only[aG,Nat.reduceBEq];congr 1;omega,by rw[<-U,O];omega⟩
 .all_goals refine qq ?_
  rw[show i=x.ao.length by simp at hb;omega,iJ]at U;simp[ki]at U;rw[U])
mutual
def cS:St->Nat
 | .mk _ _ _ _ _ _ _ M O=>1+nS M+nS O
def nS:qD->Nat
 |[]=>0
 |x::l=>cS x+nS l
end
mutual
def cm:St->Nat
 | .mk k _ _ _ _ _ _ M O=>(if k=4 then 1 else 0)+dg M+dg O
def dg:qD->Nat
 |[]=>0
 |x::l=>cm x+dg l
end
mutual
def bZ:St->Nat->Nat
 | .mk _ _ _ _ _ _ _ M O,d=>max d (max (fd M (d+1)) (fd O (d+1)))
def fd:qD->Nat->Nat
 |[],_=>0
 |x::l,d=>max (bZ x d) (fd l d)
end
theorem zbp(x:St):cS x=1+nS x.bl+nS x.bA:=by cases x;rw[cS];rfl
theorem AS(x:St):cm x=(if x.am=4 then 1 else 0)+dg x.bl+dg x.bA:=by cases x;rw[cm];rfl
theorem zbq(x:St)(d:Nat):bZ x d=max d (max (fd x.bl (d+1)) (fd x.bA (d+1))):=by cases x;rw[bZ];rfl
mutual
theorem zbr:∀x:St,cS x<=x.sz
 | .mk _ _ _ _ _ _ _ M O=>by have:=Ea M;have:=Ea O;simp only[cS,St.sz];omega
theorem Ea:∀l:qD,nS l<=bi l
 |[]=>ay _
 |x::l=>by have:=zbr x;have:=Ea l;simp only[nS,bi];omega
end
mutual
theorem zbs:∀x:St,cm x<=x.sz
 | .mk k _ _ _ _ _ _ M O=>by have:=Eb M;have:=Eb O;simp only[cm,St.sz];split<;>omega
theorem Eb:∀l:qD,dg l<=bi l
 |[]=>ay _
 |x::l=>by have:=zbs x;have:=Eb l;simp only[dg,bi];omega
end
mutual
theorem zbt:∀(x:St) (d:Nat),bZ x d<=d+x.sz
 | .mk _ _ _ _ _ _ _ M O,d=>by have:=Ec M (d+1);have:=Ec O (d+1);simp only[bZ,St.sz];omega
theorem Ec:∀(l:qD) (d:Nat),fd l d<=d+bi l
 |[],_=>cZ _
 |x::l,d=>by have:=zbt x d;have:=Ec l d;simp only[fd,bi];omega
end
def kR{z:Int}(h1:-9223372036854775808<=z)(h2:z<9223372036854775808):IntKind.wrap .i64 z=z:=zZ _ ac
def uf(x:qD×Nat):qu:=[.az (x.1.map St.cells),.int .i64 x.2]
def IY(x y:qD×Nat)(h:uf x=uf y):x=y:=by
 simp only[uf,eJ,AV.az.injEq,AV.int.injEq,aW,kN]at h;exact ub (DS h.1) ac
def vu(x:qD×Nat):AV:=.a6 [.int .i64 (nS x.1),.int .i64 (dg x.1),.int .i64 (fd x.1 x.2)]
theorem N4(a b c:AV):Ab.extract (.a6 [a,b,c]) 0=some a:=rfl
theorem N8(a b c:AV):Ab.extract (.a6 [a,b,c]) 1=some b:=rfl
theorem N9(a b c:AV):Ab.extract (.a6 [a,b,c]) 2=some c:=rfl
def zbu(ρ:Nat->Int):∀x:qD×Nat,bi x.1+x.2<2^60->bX prog ρ 102 (uf x) (vu x):=
 wV fit (pls:=pls) (l:=[]) trivial (fun x=>bi x.1) (ok:=fun x=>bi x.1+x.2<2^60) (enc:=uf) (out:=vu) (fun x _=>.cons (yh _) (.cons (.int _ _) .nil)) (fun x _=>.a6 (.cons (.int _ _) (.cons (.int _ _) (.cons (.int _ _) .nil)))) (fun x hx=>by
 have Y:=uc (sz:=fun x:qD×Nat=>bi x.1) (ok:=fun x=>bi x.1+x.2<2^60) (out:=vu) IY (f:=102) (l:=[]) x;generalize hl:(⟨102,false,co (fun y=>bi y.1+y.2<2^60/\bi y.1<bi x.1) uf vu⟩:En)::[]=l at Y⊢;obtain⟨x,d⟩:=x;have kr:∀(y:qD),bi y<bi x->∀H,aR prog (au pls l) 102 [.az (y.map St.cells),.int .i64 ((d+1:Nat):Int)] H fun v H'=>v=.a6 [.int .i64 (nS y),.int .i64 (dg y),.int .i64 (fd y (d+1))]/\H'=H:=fun y C H=>by
  subst hl;exact cV (enc:=uf) (out:=vu) IY (x:=(y,d+1)) rfl ⟨aX,C⟩
 simp only[]at hx;have I:=mZ x;have hn:=Ea x;have hwl:=Eb x;have hm:=Ec x d;have hwd:IntKind.wrap .i64 ((d:Int)+1)=((d+1:Nat):Int):=DX;change aR _ _ _ [.az (x.map St.cells),.int .i64 d] _ _;refine bp (M:=78) (rs:=[.tmp 4,.tmp 5,.tmp 6]) Y.call Y.aG Y.aB func102 rfl rfl NZ.2 rfl ?_;dsimp only[NZ,bm,Nat.reduceAdd];refine jH ?_;refine cl [0,1] [] 10 x.length (fun i E H=>∃a b m:Nat,E.at 7=.int .i64 a/\E.at 8=.int .i64 b/\E.at 9=.int .i64 m/\a+nS (x.drop i)=nS x/\b+dg (x.drop i)=dg x/\max m (fd (x.drop i) d)=fd x d) eE ⟨0,0,0,eE,eE,eE,aw,aw,aw⟩ ?_;rintro i E H2 hi U j O hsI ⟨a,b,m,k7,k8,k9,V,Z,z⟩;(try simp only[bC,aZ,aW,aG,aY,Nat.reduceBEq, *]at U);(try simp only[aZ, *]at j);(try simp only[ce,]at O);repeat' (first
  |(apply aj ?_;clear hK K)|apply aV ?_|(apply bz ?_ ?_<;>(intro hb hbp;try(cases hb;done)))|(apply am fun K hK=>?_)|fail)
 .have J:i<x.length:=by simpa using hb
  have hgx:x[i]?=some x[i]:=bj J;have hsm:=my (dm J);have hsz:=x[i].aV;have d1:nS (x.drop i)=cS x[i]+nS (x.drop (i+1)):=og;have d2:dg (x.drop i)=cm x[i]+dg (x.drop (i+1)):=og;have d3:fd (x.drop i) d=max (bZ x[i] d) (fd (x.drop (i+1)) d):=og;rw[zbp]at d1;rw[AS]at d2;rw[zbq]at d3;have gh0:=@N4;have gh1:=@N8;have gh2:=@N9;repeat' (first
   |(apply aj ?_;clear hK K)|apply aV ?_|(apply eu ?_;first|refine bK (kr _ ac _) ?_)|(apply bz ?_ ?_<;>(intro hb hbp;try(cases hb;done)))|(apply am fun K hK=>?_)|fail)
  all_goals
   refine⟨ac,a0,a0,ca,vn,?_⟩;refine⟨a+1+nS x[i].bl+nS x[i].bA,b+(if x[i].am=4 then 1 else 0)+dg x[i].bl+dg x[i].bA,max (max m d) (max (fd x[i].bl (d+1)) (fd x[i].bA (d+1))),?_,?_,?_,ac,ac,ac⟩
   .simp only[aG,Nat.reduceBEq]
    congr 1
    simp (disch:=omega) only[kR];omega
   .simp only[aG,Nat.reduceBEq]
    congr 1
    simp (disch:=omega) only[kR, *];simp;try omega
   .simp only[aG,Nat.reduceBEq]
    congr 1
    omega
 .all_goals refine qq ?_
  rw[show i=x.length by simp at hb;omega,iJ]at V Z z;simp[nS,dg,fd]at V Z z;simp only[vu,V,Z,z])
end
section
namespace tyI1
end tyI1
open tyI1
def zbv(H:Hp)(a:Int):de prog H 23 1 [(0,.int .i64 a)]=some (.sl H.next 0 1 1,H.alloc (.cells [.int .i64 a] 0 true)):=ax
end
section
def tyI2.tyF:=ad @dQ (ad @cr (ad @fP (ad @sN (ad @jn (@ya)))))
open tyI2
abbrev vx(l:qF):AV:=.az (l.map Nd.cells)
def Oa(l:qF):fQ (vx l):=.map fun x _=>x.pure
def zbw{a b:qF}(h:vx a=vx b):a=b:=by
 simp only[vx,AV.az.injEq]at h;exact ng (fun _ _ _=>Nd.inj) h
theorem Ob(a b:AV):Ab.extract (.a6 [a,b]) 0=some a:=rfl
theorem Oc(a b:AV):Ab.extract (.a6 [a,b]) 1=some b:=rfl
end
section
def tyV1.tyF:=ad @dQ (ad @cr (ad @oV (ad @cK (ad @fP (ad @sN (ad @sO (ad @M1 (ad @M5 (ad @pS (ad @M7 (ad @M0 (ad @M6 (ad @M8 (@NS))))))))))))))
open tyV1
def w7(n:Nd):qy:=IntKind.wrap .u8 n.op::(jM (IntKind.wrap .u64 n.aP) 8++n.ao.flatMap fun k=>jM (IntKind.wrap .u64 k) 8)
def zbx(n:Nd):w7 n=[IntKind.wrap .u8 n.op]++jM (IntKind.wrap .u64 n.aP) 8++n.ao.flatMap fun k=>jM (IntKind.wrap .u64 k) 8:=by
 rw[w7];simp
theorem Od:∀l:qy,wm (l.map (.int .u8))=some (vt l)
 |[]=>rfl
 |a::l=>by
  have:=Od l;simp only[eK,wm,this];rfl
def zby{l:qy}(Z:mA H v l lo):kX prog H 93 9 v=some (.aj (vt l)):=by
 obtain⟨r,J,rfl,hg,_⟩:=Z;have hx:fk H 1 (.sl r 0 l.length 1)=some (l.length,l.map (.int .u8)):=by
  have:=tR (H:=H) (r:=r) (o:=0) (n:=l.length) (z:=1) (s:=1) hg aw;rw[this,hY,gQ aw]
 simp only[kX,underlying93,underlying9,underlying5,hx];rw[Od]
end
section
def pZ:Nat->AV->Bool
 |0,_=>false
 |n+1,v=>match v with
  | .sl _ _ _ _=>true
  | .agg I=>I.any (pZ n)
  |_=>false
theorem Ed{S:Nat->Prop}{H:Hp}{n m k:Nat}(ih:∀{v u:AV},dq S n H v u->pZ m (bY k v)=false->bY k u=bY k v):∀{I Z:qu},cp (dq S n H) I Z->(I.map (bY k)).any (pZ m)=false->Z.map (bY k)=I.map (bY k)
 |[],[],_,_=>rfl
 |c::I,d::Z,h,h2=>by
  simp only[eK,pX,jv]at h2;rw[eK,eK,ih h.1 h2.1,Ed ih h.2 h2.2]
theorem IZ{S:Nat->Prop}{H:Hp}:∀(n m k:Nat) {v u:AV},n<=m->dq S n H v u->pZ m (bY k v)=false->bY k u=bY k v
 |0,_,_,_,_,_,h,_=>h.elim
 |n+1,0,_,_,_,h,_,_=>by omega
 |n+1,m+1,k,v,u,hm,h,h2=>by
  cases v with
  |sl r o l z=>cases k<;>simp[bY,pZ]at h2
  |agg I=>
   obtain⟨U,Y,rfl⟩:=h;cases k with
   |zero=>
    have e:∀v,bY 0 v=v:=fun v=>by cases v<;>rfl
    have C:(I.map (bY 0)).any (pZ m)=false:=by
     rw[show I.map (bY 0)=I by rw[show bY 0=id from funext e,AL]];simpa [bY,pZ]using h2
    have:=Ed (k:=0) (fun V Z=>IZ n m 0 ac V Z) Y C;rw[show bY 0=id from funext e,AL,AL]at this;rw[this]
   |succ k=>
    have C:(I.map (bY k)).any (pZ m)=false:=by simpa [bY,pZ]using h2
    show AV.agg (U.map (bY k))=AV.agg (I.map (bY k));rw[Ed (fun V Z=>IZ n m k ac V Z) Y C]
  |_=>obtain⟨_,rfl⟩:=h;rfl
def AT{l:qC}{Z:FuncId}{I:Type}{ok:I->Prop}{enc:I->qu}{out:I->AV}(Y:∀x y,enc x=enc y->x=y)(O:∀z,dE l Z z=co ok enc out (z.map (bY 60)))(j:iA l Z=true)(U:∀y,(enc y).any (pZ 90)=false){x:I}(C:ok x){n:Nat}(hn:n<=90){V us:qu}(h1:cp (dq S n H) V us)(h2:us.map (bY 60)=enc x):
 aR prog (au pls l) Z V H fun v H'=>v=out x/\Icy S H H':=by
 by_cases hd:∃y,ok y/\enc y=V.map (bY 60)
 .obtain⟨y,_,e⟩:=hd;have h3:us.map (bY 60)=V.map (bY 60):=Ed (m:=90) (fun M J=>IZ n 90 60 hn M J) h1 (by rw[<-e];exact U y);refine aF ?_ (Ix (r:=out x) (by show dE l Z V=_;rw[O,<-h3,h2];exact DN Y C));rintro v H' ⟨rfl,rfl⟩;exact⟨rfl,Icy.refl _ _⟩
 .obtain⟨H',M,J⟩:=dq.iceL (n:=100) (l:=V) (m:=us) (cp.mono (fun a b k=>dq.up k ac) h1);refine Mo (r:=out x) ?_ j rfl M ?_ ⟨rfl,J⟩
  .show dE l Z V=none;rw[O];exact Iw fun y hy e=>hd ⟨y,hy,e⟩
  .show dE l Z us=_;rw[O,h2];exact DN Y C
def Oe{P:Program}{cfg:Cfg}{f N:Nat}{a:SC}{E:aq}{Q:AX->aq->Hp->Prop}(F:aq->Hp->Prop)(h1:bS P cfg f N a E H fun x E' H'=>x=.normal/\F E' H')(h2:∀E' H',F E' H'->Q .normal E' H'):bS P cfg f N a E H Q:=
 x7 (fun x E' H' h=>by obtain⟨rfl,h⟩:=h;exact h2 E' H' h) h1
def tyI3.tyF:=ad @cr (ad @jn (ad @fP (ad @sN (ad @dQ (ad @zbv (@ya))))))
open tyI3
def iV.dj(h:iV H v s lo)(k:Icy S H H'):iV H' v s lo:=by
 obtain⟨r,z,rfl,Z,C,V,Y⟩:=h;rcases k.same r with e|⟨I,i,j,U,m,M,O⟩
 .exact⟨r,z,rfl,by rw[<-e];exact Z,C,V,by rw[k.next];exact Y⟩
 .rw[Z]at m;simp only[aQ,HB.cells.injEq]at m;obtain⟨rfl,rfl,rfl⟩:=m;exact⟨r,j,rfl,M,bb,V,by rw[k.next];exact Y⟩
def fY.dj(h:fY H v s lo)(k:Icy S H H'):fY H' v s lo:=h.imp id fun h=>h.dj k
def AU(l:qF):Prop:=l.length<2^30/\∀n∈l,n.ao.length<2^30
end
end Go.Proofs.YtpbcimfiofmoeaaGreat
namespace Go.Ab
set_option maxRecDepth 20000
open Go
variable{j:Nat}
def I0(a b:Nat):Nat:=a^^^ (a &&& b)
def Ee(n:Nd)(h:qG)(j:Nat)(k:Int):Nat:=if n.op=31/\jo n.ao.length<=j then I0 (h.getD k.toNat 0) (2^ n.aP.toNat)else h.getD k.toNat 0
def ug(n:Nd)(h:qG):Nat->qy->Nat->Nat
 |_,[],m=>m
 |j,k::ks,m=>ug n h (j+1) ks (m |||Ee n h j k)
def yq(n:Nd)(h:qG):Nat:=ug n h 0 n.ao (if n.op=3 then 2^ (n.aP.tdiv 16).toNat else 0)
def o0(l:qF):Nat->qG
 |0=>[]
 |i+1=>o0 l i++[match l[i]? with|some n=>yq n (o0 l i)|none=>0]
theorem I2(l:qF):∀i,(o0 l i).length=i
 |0=>rfl
 |i+1=>by rw[o0,iR,I2 l i];rfl
def zbz(a b j:Nat):(I0 a b).testBit j=(a.testBit j && !b.testBit j):=by
 unfold I0
 grind
theorem Of(n:Nd)(h:qG)(t:Nat):∀(C:qy) (j m:Nat),(ug n h j C m).testBit t=(m.testBit t||(C.zipIdx j).any fun p=>(Ee n h p.2 p.1).testBit t)
 |[],j,m=>by simp[ug]
 |k::C,j,m=>by
  rw[ug,Of n h t C,Nat.testBit_or,GU,pX,IC]
def zbA(a t:Nat):(2^ a).testBit t=decide (a=t):=Nat.testBit_two_pow
def zbB{I:Type}{a:List I}{x d:I}(h:j<a.length):(a++[x]).getD j d=a.getD j d:=by
 grind
def zbC{I:Type}{a:List I}{x d:I}(h:j=a.length):(a++[x]).getD j d=x:=by
 simp_all
end Go.Ab
namespace Go.Proofs.YtpbcimfiofmoeaaGreat
set_option maxRecDepth 20000
open Go Go.Ab
section
namespace tyV2
end tyV2
open tyV2
def AW:qF->qy->Option qy
 |[],t=>some t
 |n::l,t=>if n.op=31 then (if 0<t.getD n.aP.toNat 0 then none else AW l (t.set n.aP.toNat (jo n.ao.length)))else AW l t
def Og(t:qy)(n:Nd):Bool:=decide (n.op=3)&&decide (0<t.getD (n.aP.tdiv 16).toNat 0)&&decide (t.getD (n.aP.tdiv 16).toNat 0<=n.aP.tmod 16)
def I4(l:qF):Bool:=match AW l (List.replicate 16 0)with
 |none=>false
 |some t=>l.all fun n=>!Og t n
end
section
namespace tyV3
end tyV3
open tyV3
def Oh(u:Un)(g:Gr)(n:Nd):Bool:=
 if n.op=2 then decide (n.aP<g.params)
 else if n.op=23\/n.op=28 then decide (n.aP<u.aa.length)
 else if n.op=30 then decide (n.aP<u.funcs.length)&&decide ((n.ao.length:Int)-1=(u.funcs.map Gr.params).getD n.aP.toNat 0)
 else true
end
end Go.Proofs.YtpbcimfiofmoeaaGreat
