/- Lemmas for the last file. -/
import Derived.Test.YtbflaciihaijgaaPEF
set_option linter.all false
set_option maxHeartbeats 32000000
namespace Go.Ab
set_option maxRecDepth 20000
open Go
variable{qd:Prop}
def nH(h:qd:=by rw[List.drop_eq_getElem_cons z];rfl):=h
def Lp(h:qd:=by simp only[bp,bm,and_true,aF,aW,Nat.reduceBEq,Nat.reduceAdd,Nat.reduceLeDiff,tyF,oA, *]):=h
def CD(h:qd:=by rw[J r ⟨_,rfl⟩];exact g):=h
def CE(h:qd:=by have:=List.length_pos_iff.2 O;omega):=h
def kZ(h:qd:=by rw[i];omega):=h
def tW(h:qd:=by simp[C]):=h
def gR(h:qd:=by rw[aQ,if_pos rfl];rfl):=h
def nI(h:qd:=by simp only[tG];omega):=h
def Gk(h:qd:=by rw[List.append_nil];exact V):=h
def CF(h:qd:=by rw[Nat.ble_eq];omega):=h
def rI(h:qd:=by rw[O];omega):=h
def aM(h:qd:=by decide):=h
def zl(h:qd:=by simp only[aF,Nat.reduceBEq, *];exact gQ (n:=s.length) ac ac):=h
def rJ(h:qd:=by simp only[aF,Nat.reduceBEq, *];exact gQ (n:=l.length) ac ac):=h
def po(h:qd:=by simp only[aF,Nat.reduceBEq, *];exact gQ (n:=p.funcs.length) ac ac):=h
def jd(h:qd:=by rw[Hp.get_set,if_neg ac]):=h
def zm(h:qd:=by rw[CP _ ac];omega):=h
def CG(h:qd:=by rw[IntWalk.i64_in _ ac];omega):=h
def Gl(h:qd:=by simp only[aF,Nat.reduceBEq, *];exact gQ (n:=x.ak.length) ac ac):=h
def tX(h:qd:=by simp only[aF,Nat.reduceBEq, *];exact gQ (n:=x.length) ac ac):=h
def Gm(h:qd:=by rw[Int.tmod_eq_emod_of_nonneg ac];omega):=h
def dx:=@List.length_map
def oy:=@List.all_cons
def oz:=@List.all_nil
def xz:=@Bool.and_eq_false_iff
def pp:=@List.any_cons
def xA:=@List.any_nil
def Gn:=@Bool.or_assoc
def mK:=@List.map_nil
def jR:=@Nat.le_of_eq
def Gp:=@List.replicate_succ
def dF:=@List.getD_eq_getElem?_getD
def zn:=@List.headD_cons
def jS:=@Bool.false_and
def pq:=@List.length_replicate
def xB:=@List.getElem?_replicate
def zo:=@Bool.and_assoc
def CH:=@List.eq_of_mem_replicate
def fU:=@List.drop_length
def pw:=@Prod.ext
def ky:=@List.length_set
def vI:=@List.map_set
def zp:=@decide_eq_decide
def Gq:=@Bool.not_eq_false'
def Gs:=@Bool.or_true
def sG:=@Bool.and_false
def Gt:=And.intro @fT @kW
def Lq:=And.intro @oV @j7
def Yv:=And.intro @jS @sG
def Lr:=And.intro Yv Gt
def ci:=And.intro @xg @Gq
def Yw:=And.intro Lq @lZ
def Yx:=And.intro Yw @pe
def Yy:=And.intro Yx @xi
def Yz:=And.intro Yy @Gs
def YA:=And.intro Yz Lr
def YB:=And.intro YA @rB
def cj:=And.intro YB @oh
def px:=And.intro @aU @nn
end Go.Ab
namespace Go.Proofs.Ytbflaciihaijgaa
set_option maxRecDepth 20000
open Go Go.Ab Proofs.Try
variable(ρ:Nat->Int)
variable{l m:qt}{f:FuncId}{H H':Hp}{v:AV}{lo k r:Nat}
section
def tyR3a.tyF:=ad @Cc (ad @cR (ad @dt (ad @ft (ad @gH (ad @iV (ad @gO (ad @eA (ad @fc (ad @l8 (ad @ez (@fb)))))))))))
open tyR3a
def fj(f:FuncId):zd0 (aH pls []) f:=⟨fun _=>rfl,rfl,rfl⟩
def dG{l:qA}(h1:∀C,cV l f C=none)(h2:iL l f=false):zd0 (aH pls l) f:=⟨h1,h2,rfl⟩
structure zf4 (cfg:Cfg) (f:FuncId) (args:qs):Prop where
 call:cfg.call f args=none
 aD:cfg.aD f=false
 aq:cfg.aq f=false
def vJ{J:Type}{sz:J->Nat}{ok:J->Prop}{enc:J->qs}{out:J->AV}(K:∀x y,enc x=enc y->x=y){l:qA}(x:J):
 zf4 (aH pls (⟨f,false,ch (fun y=>ok y/\sz y<sz x) enc out⟩::l)) f (enc x):=by
 have i:Nat.beq f f=true:=Nat.beq_refl f;refine⟨?_,?_,rfl⟩
 .show cV _ f (enc x)=none;simp only[cV,i];exact Cr fun y Y e=>by rw[K _ _ e]at Y;exact Nat.lt_irrefl _ Y.2
 .show iL _ f=false;simp only[iL,i]
noncomputable def Ls:{c:SC // aI 21 (f52.body.getD .skip)=c}:=by
 refine⟨?_,?_⟩;rotate_left
 .simp only[f52,bS,aI,bM,bI,bT,bU,Nat.blt,Nat.ble];rfl
noncomputable def Lt:{c:SC // aI 9 (f53.body.getD .skip)=c}:=by
 refine⟨?_,?_⟩;rotate_left
 .simp only[f53,bS,aI,bM,bI,bT,bU,Nat.blt,Nat.ble];rfl
noncomputable def Lu:{c:SC // aI 34 (f137.body.getD .skip)=c}:=by
 refine⟨?_,?_⟩;rotate_left
 .simp only[f137,bS,aI,bM,bI,bT,bU,Nat.blt,Nat.ble];rfl
noncomputable def Lw:{c:SC // aI 18 (f98.body.getD .skip)=c}:=by
 refine⟨?_,?_⟩;rotate_left
 .simp only[f98,bS,aI,bM,bI,bT,bU,Nat.blt,Nat.ble];rfl
noncomputable def Ly:{c:SC // aI 10 (f114.body.getD .skip)=c}:=by
 refine⟨?_,?_⟩;rotate_left
 .simp only[f114,bS,aI,bM,bI,bT,bU,Nat.blt,Nat.ble];rfl
noncomputable def Lz:{c:SC // aI 18 (f117.body.getD .skip)=c}:=by
 refine⟨?_,?_⟩;rotate_left
 .simp only[f117,bS,aI,bM,bI,bT,bU,Nat.blt,Nat.ble];rfl
noncomputable def LA:{c:SC // aI 9 (f139.body.getD .skip)=c}:=by
 refine⟨?_,?_⟩;rotate_left
 .simp only[f139,bS,aI,bM,bI,bT,bU,Nat.blt,Nat.ble];rfl
noncomputable def LB:{c:SC // aI 27 (f151.body.getD .skip)=c}:=by
 refine⟨?_,?_⟩;rotate_left
 .simp only[f151,bS,aI,bM,bI,bT,bU,Nat.blt,Nat.ble];rfl
noncomputable def LC:{c:SC // aI 22 (f118.body.getD .skip)=c}:=by
 refine⟨?_,?_⟩;rotate_left
 .simp only[f118,bS,aI,bM,bI,bT,bU,Nat.blt,Nat.ble];rfl
theorem YC(n:Int):bX prog ρ 52 [.int .u8 n] (.bool (pn n)):=eg fit (pls:=pls) (l:=[]) trivial (.cons (.int _ _) .nil) (.bool _) (by
 have L:=fj 52;refine bF (M:=21) (rs:=[.tmp 2]) (L.call _) L.aD L.aq func52 rfl rfl Ls.2 rfl ?_;dsimp only[Ls,bA,Nat.reduceAdd];repeat' (first
  |(apply aj ?_;clear hK K)|apply Rx.o ?_|apply dE ?_|(apply aX (fun J g=>?_) (fun J g=>?_)<;>try(cases J;done))|apply ah ?_|(apply ai fun K hK=>?_)|apply aq ?_)
 all_goals refine qq ?_
 all_goals (simp_all[pn]<;>omega))
theorem YD(n:Int):bX prog ρ 53 [.int .u8 n] (.bool (nG n)):=eg fit (pls:=pls) (l:=[]) trivial (.cons (.int _ _) .nil) (.bool _) (by
 have L:=fj 53;refine bF (M:=9) (rs:=[.tmp 2]) (L.call _) L.aD L.aq func53 rfl rfl Lt.2 rfl ?_;dsimp only[Lt,bA,Nat.reduceAdd];repeat' (first
  |(apply aj ?_;clear hK K)|apply Rx.o ?_|(apply aX (fun J g=>?_) (fun J g=>?_)<;>try(cases J;done))|apply ah ?_|(apply ai fun K hK=>?_)|apply aq ?_)
 all_goals refine qq ?_
 all_goals (simp_all[nG]<;>omega))
def vK(n:Int):qs:=[.int .u8 n]
def LD(x y:Int)(h:vK x=vK y):x=y:=by simpa [vK]using h
noncomputable def zq:En:=⟨52,false,ch (fun _=>True) vK fun n=>.bool (pn n)⟩
noncomputable def zr:En:=⟨53,false,ch (fun _=>True) vK fun n=>.bool (nG n)⟩
def YE:cT prog ρ zq:=dg fun n _=>YC ρ n
def YF:cT prog ρ zr:=dg fun n _=>YD ρ n
theorem YG(s:qw)(hs:s.length<2^60):bX prog ρ 137 [.ai s] (.bool (lJ s)):=eg fit (pls:=pls) (l:=[zq,zr]) ⟨YE ρ,YF ρ,trivial⟩ (.cons (.ai _) .nil) (.bool _) (by
 have hw:zd0 (aH pls [zq,zr]) 137:=dG (fun _=>rfl) rfl;have kl:∀(n:Int) (H:Hp),aY prog (aH pls [zq,zr]) 52 [.int .u8 n] H fun v H'=>v=.bool (pn n)/\H'=H:=fun n H=>cF (enc:=vK) (out:=fun n=>.bool (pn n)) LD (x:=n) rfl trivial;have kd:∀(n:Int) (H:Hp),aY prog (aH pls [zq,zr]) 53 [.int .u8 n] H fun v H'=>v=.bool (nG n)/\H'=H:=fun n H=>cF (enc:=vK) (out:=fun n=>.bool (nG n)) LD (x:=n) rfl trivial;refine bF (M:=34) (rs:=[.tmp 2]) (hw.call _) hw.aD hw.aq func137 rfl rfl Lu.2 rfl ?_;dsimp only[Lu,bA,Nat.reduceAdd];repeat' (first
  |(apply aj ?_;clear hK K)|apply Rx.o ?_|apply dE ?_|(apply aX (fun J g=>?_) (fun J g=>?_)<;>try(cases J;done))|(apply aA (fun o Z=>?_) (fun o Z=>?_)<;>try(cases o;done))|apply ah ?_|(apply ai fun K hK=>?_)|apply ak ?_|apply am ?_|apply aq ?_|apply aw ?_)
 refine cA [0] [] 3 s.length (fun i E H=>fx s=i+fx (s.drop i)/\(0<i->∀b,s[0]?=some b->nG b.toNat=false)) eE az ?_;rintro i E H2 hi m C j hsI ⟨L,I⟩;(try simp only[bp,bm,aU,aF,aW,Nat.reduceBEq,Nat.reduceAdd,Nat.reduceLeDiff,tyF, *]at m);(try simp only[bp,bm,aU,aF,aW,Nat.reduceBEq,Nat.reduceAdd,Nat.reduceLeDiff,tyF, *]at C);(try simp only[bj,bE,cm,bO,Nat.reduceAdd]at j);repeat' (first
  |(apply aj ?_;clear hK K)|apply Rx.o ?_|apply dE ?_|(apply aX (fun J g=>?_) (fun J g=>?_)<;>try(cases J;done))|(apply aA (fun o Z=>?_) (fun o Z=>?_)<;>try(cases o;done))|apply ah ?_|(apply ai fun K hK=>?_)|apply ak ?_|apply am ?_|apply aq ?_|apply aw ?_)
 .have U:i<s.length:=by simpa using o
  have hgx:s[i]?=some s[i]:=a0 U;have Y:fx (s.drop i)=if kY s[i]then fx (s.drop (i+1))+1 else 0:=by rw[eU U,fx]
  repeat' (first
   |(apply aj ?_;clear hK K)|apply Rx.o ?_|(apply eC ?_;first|refine bi (kl _ _) ?_|refine bi (kd _ _) ?_)|apply dE ?_|(apply aX (fun J g=>?_) (fun J g=>?_)<;>try(cases J;done))|(apply aA (fun o Z=>?_) (fun o Z=>?_)<;>try(cases o;done))|apply ah ?_|(apply ai fun K hK=>?_)|apply ak ?_|apply am ?_|apply aq ?_|apply aw ?_)
  .all_goals refine qq ?_
   have V:i=0:=ac;subst V;unfold lJ;cases s<;>simp_all
  .refine⟨ac,a2,a2,ce,zl,?_⟩;have z:kY s[i]=true:=by simp_all[kY]
   refine⟨by rw[L,Y,z];simp;omega,fun _ b O=>I ac b O⟩
  .all_goals refine qq ?_
   have z:kY s[i]=false:=by simp_all[kY]
   rw[z]at Y;simp at Y;unfold lJ;simp[show ¬fx s=s.length by omega]
  .refine⟨ac,a2,a2,ce,zl,?_⟩;have z:kY s[i]=true:=by simp_all[kY]
   refine⟨by rw[L,Y,z];simp;omega,fun _ b O=>?_⟩;by_cases h0:0<i
   .exact I h0 b O
   .have V:i=0:=by omega
    subst V;rw[hgx]at O;have:s[0]=b:=by simpa using O
    subst this;have hle:pn s[0].toNat=true:=by simp_all
    simp only[pn,nG]at *;simp only[oZ,jJ]at hle;simp only[xz,lH];omega
 all_goals
  have hie:i=s.length:=ac;all_goals refine qq ?_
  rw[hie]at L;simp[fx]at L;unfold lJ;cases s<;>simp_all<;>omega)
def bJ(l:qt)(s:qw):Bool:=l.any fun x=>decide (x=s)
theorem LF(l:qt)(s:qw)(J:l.length<2^60):bX prog ρ 117 [cM l,.ai s] (.bool (bJ l s)):=eg fit (pls:=pls) (l:=[]) trivial (.cons (tS _) (.cons (.ai _) .nil)) (.bool _) (by
 have L:=fj 117;refine bF (M:=18) (rs:=[.tmp 4]) (L.call _) L.aD L.aq func117 rfl rfl Lz.2 rfl ?_;dsimp only[Lz,bA,Nat.reduceAdd];repeat' (first
  |(apply aj ?_;clear hK K)|apply Rx.o ?_|(apply aA (fun o g=>?_) (fun o g=>?_)<;>try(cases o;done))|apply ah ?_|(apply ai fun K hK=>?_)|apply ak ?_|apply am ?_|apply aq ?_|apply aw ?_)
 refine cA [0,1] [] 5 l.length (fun i E H=>bJ l s=bJ (l.drop i) s) eE az ?_;rintro i E I j m Z V C U;(try simp only[bp,bm,aU,aF,aW,Nat.reduceBEq,Nat.reduceAdd,Nat.reduceLeDiff,tyF, *]at m);(try simp only[bp,bm,aU,aF,aW,Nat.reduceBEq,Nat.reduceAdd,Nat.reduceLeDiff,tyF, *]at Z);(try simp only[bj,bE,cm,bO,Nat.reduceAdd]at V);repeat' (first
  |(apply aj ?_;clear hK K)|apply Rx.o ?_|(apply aA (fun o g=>?_) (fun o g=>?_)<;>try(cases o;done))|apply ah ?_|(apply ai fun K hK=>?_)|apply ak ?_|apply am ?_|apply aq ?_|apply aw ?_)
 .have z:i<l.length:=by simpa using o
  have O:l[i]?=some l[i]:=a0 z;have Y:bJ (l.drop i) s=(decide (l[i]=s)||bJ (l.drop (i+1)) s):=nH;repeat' (first
   |(apply aj ?_;clear hK K)|apply Rx.o ?_|(apply aA (fun o g=>?_) (fun o g=>?_)<;>try(cases o;done))|apply ah ?_|(apply ai fun K hK=>?_)|apply ak ?_|apply am ?_|apply aq ?_|apply aw ?_)
  .all_goals refine qq ?_
   rw[U,Y];simp_all
  .refine⟨ac,a2,a2,ce,rJ,?_⟩;rw[U,Y];simp_all
 .all_goals refine qq ?_
  rw[U,show i=l.length by simp at o;omega];simp[bJ])
def py(op:Int):Bool:=decide (4<=op)&&decide (op<=18)
theorem YH(op:Int):bX prog ρ 139 [.int .i64 op] (.bool (py op)):=eg fit (pls:=pls) (l:=[]) trivial (.cons (.int _ _) .nil) (.bool _) (by
 have L:=fj 139;refine bF (M:=9) (rs:=[.tmp 2]) (L.call _) L.aD L.aq func139 rfl rfl LA.2 rfl ?_;dsimp only[LA,bA,Nat.reduceAdd];repeat' (first
  |(apply aj ?_;clear hK K)|apply Rx.o ?_|(apply aX (fun J g=>?_) (fun J g=>?_)<;>try(cases J;done))|apply ah ?_|(apply ai fun K hK=>?_)|apply aq ?_)
 all_goals refine qq ?_
 all_goals (simp_all[py]<;>omega))
def zeroE(x:Ex):Bool:=decide (x.am=0)&&decide (x.n=0)&&decide (x.name=[])&&decide (x.op=0)&&decide (x.ak.length=0)
theorem YI(x:Ex):bX prog ρ 151 [.agg x.cells] (.bool (zeroE x)):=eg fit (pls:=pls) (l:=[]) trivial (.cons (.agg x.pure) .nil) (.bool _) (by
 have L:=fj 151;refine bF (M:=27) (rs:=[.tmp 2]) (L.call _) L.aD L.aq func151 rfl rfl LB.2 rfl ?_;dsimp only[LB,bA,Nat.reduceAdd];repeat' (first
  |(apply aj ?_;clear hK K)|apply Rx.o ?_|(apply aX (fun J g=>?_) (fun J g=>?_)<;>try(cases J;done))|apply ah ?_|(apply ai fun K hK=>?_)|apply aq ?_)
 all_goals
  all_goals refine qq ?_
 all_goals simp_all[zeroE])
def dc:qN->qw->Int->Int
 |[],_,_=>-1
 |f::l,s,i=>if f.name=s then i else dc l s (i+1)
theorem YJ(p:Pr)(s:qw)(hl:p.funcs.length<2^60):bX prog ρ 118 [.agg p.cells,.ai s] (.int .i64 (dc p.funcs s 0)):=eg fit (pls:=pls) (l:=[]) trivial (.cons (.agg p.pure) (.cons (.ai _) .nil)) (.int _ _) (by
 have L:=fj 118;refine bF (M:=22) (rs:=[.tmp 4]) (L.call _) L.aD L.aq func118 rfl rfl LC.2 rfl ?_;dsimp only[LC,bA,Nat.reduceAdd];repeat' (first
  |(apply aj ?_;clear hK K)|apply Rx.o ?_|(apply aA (fun o g=>?_) (fun o g=>?_)<;>try(cases o;done))|apply ah ?_|(apply ai fun K hK=>?_)|apply ak ?_|apply am ?_|apply aq ?_|apply aw ?_)
 refine cA [1,2] [0] 5 p.funcs.length (fun i E H=>dc p.funcs s 0=dc (p.funcs.drop i) s i) eE az ?_;rintro i E O hi m Z V C U;(try simp only[bp,bm,aU,aF,aW,Nat.reduceBEq,Nat.reduceAdd,Nat.reduceLeDiff,tyF, *]at m);(try simp only[bp,bm,aU,aF,aW,Nat.reduceBEq,Nat.reduceAdd,Nat.reduceLeDiff,tyF, *]at Z);(try simp only[bj,bE,cm,bO,Nat.reduceAdd]at V);have J:(0 == O.next)=false:=bz ac;have I:(O.next == 0)=false:=bz ac;repeat' (first
  |(apply aj ?_;clear hK K)|apply Rx.o ?_|(apply aA (fun o g=>?_) (fun o g=>?_)<;>try(cases o;done))|apply ah ?_|(apply ai fun K hK=>?_)|apply ak ?_|apply am ?_|apply aq ?_|apply aw ?_)
 .have z:i<p.funcs.length:=by simpa using o
  have j:p.funcs[i]?=some p.funcs[i]:=a0 z;have Y:dc (p.funcs.drop i) s i=if p.funcs[i].name=s then (i:Int)else dc (p.funcs.drop (i+1)) s (i+1):=nH
  repeat' (first
   |(apply aj ?_;clear hK K)|apply Rx.o ?_|(apply aA (fun o g=>?_) (fun o g=>?_)<;>try(cases o;done))|apply ah ?_|(apply ai fun K hK=>?_)|apply ak ?_|apply am ?_|apply aq ?_|apply aw ?_)
  .all_goals refine qq ?_
   rw[U,Y,ay (by simp_all)]
  .refine⟨ac,a2,a2,ce,po,?_⟩;rw[U,Y,af (by simp_all)];rfl
 .all_goals refine qq ?_
  rw[U,show i=p.funcs.length by simp at o;omega];simp[dc])
def oA:qt:=[[97,114,114,97,121],[102,117,110,99],[118,97,114],[114,101,116,117,114,110],[105,102],[101,108,115,101],[119,104,105,108,101],[111,117,116],[116,114,97,112]]
def LH(s:qw):bJ oA s=tV s:=by
 simp only[bJ,oA,tV,pp,xA,pe,<-Gn];simp only[eq_comm]
def YK(H:Hp)(a b c d e f g h i:qw):dW prog H 60 9 [(0,.ai a),(1,.ai b),(2,.ai c),(3,.ai d),(4,.ai e),(5,.ai f),(6,.ai g),(7,.ai h),(8,.ai i)]=some (.sl H.next 0 9 1,H.alloc (.cells ([a,b,c,d,e,f,g,h,i].map .ai) 0 true)):=aG
theorem YL(s:qw):bX prog ρ 98 [.ai s] (.bool (tV s)):=eg fit (pls:=pls) (l:=[]) trivial (.cons (.ai _) .nil) (.bool _) (by
 have L:=fj 98;refine bF (M:=18) (rs:=[.tmp 2]) (L.call _) L.aD L.aq func98 rfl rfl Lw.2 rfl ?_;dsimp only[Lw,bA,Nat.reduceAdd];have I:=@YK;repeat' (first
  |(apply aj ?_;clear hK K)|apply Rx.o ?_|(apply aA (fun o g=>?_) (fun o g=>?_)<;>try(cases o;done))|apply ah ?_|(apply ai fun K hK=>?_)|apply ak ?_|apply am ?_|apply aq ?_|apply aw ?_)
 refine cA [0,3] [0] 4 9 (fun i E H=>bJ oA s=bJ (oA.drop i) s) eE az ?_;rintro i E V hi m Z U C O;(try simp only[bp,bm,aU,aF,aW,Nat.reduceBEq,Nat.reduceAdd,Nat.reduceLeDiff,tyF, *]at m);(try simp only[bp,bm,aU,aF,aW,Nat.reduceBEq,Nat.reduceAdd,Nat.reduceLeDiff,tyF, *]at Z);(try simp only[bj,bE,cm,bO,Nat.reduceAdd]at U);have J:(0 == V.next)=false:=bz ac;have j:(V.next == 0)=false:=bz ac;change V.get 0=some (.cells (oA.map .ai) 0 true)at Z;have hr9:oA.length=9:=rfl;repeat' (first
  |(apply aj ?_;clear hK K)|apply Rx.o ?_|(apply aA (fun o g=>?_) (fun o g=>?_)<;>try(cases o;done))|apply ah ?_|(apply ai fun K hK=>?_)|apply ak ?_|apply am ?_|apply aq ?_|apply aw ?_)
 .have z:i<oA.length:=by omega
  have hgx:oA[i]?=some oA[i]:=a0 z;have Y:bJ (oA.drop i) s=(decide (oA[i]=s)||bJ (oA.drop (i+1)) s):=nH;have hi9:decide (i<9)=true:=ca;repeat' (first
   |(apply aj ?_;clear hK K)|apply Ry.o ?_|(apply bq (fun o g=>?_) (fun o g=>?_)<;>try(cases o;done))|apply ah ?_|(apply ai fun K hK=>?_)|apply ak ?_|apply am ?_|apply aq ?_|apply aw ?_)
  .all_goals refine qq ?_
   rw[<-LH,O,Y];simp_all
  .refine⟨ac,Lp,Lp,ce,(by simp only[aF,Nat.reduceBEq, *];exact gQ (n:=9) ac ac),?_⟩;rw[O,Y];simp_all
 .all_goals refine qq ?_
  rw[<-LH,O,show i=9 by omega];rfl)
def nJ(s:qw):qs:=[.ai s]
def vL(x y:qw)(h:nJ x=nJ y):x=y:=by simpa [nJ]using h
noncomputable def zt:En:=⟨137,false,ch (fun s=>s.length<2^60) nJ fun s=>.bool (lJ s)⟩
noncomputable def zu:En:=⟨98,false,ch (fun _=>True) nJ fun s=>.bool (tV s)⟩
def YM:cT prog ρ zt:=dg fun s M=>YG ρ s M
def YN:cT prog ρ zu:=dg fun s _=>YL ρ s
theorem YO(s:qw)(Z:s.length<2^60):bX prog ρ 114 [.ai s] (.bool (cZ s)):=eg fit (pls:=pls) (l:=[zt,zu]) ⟨YM ρ,YN ρ,trivial⟩ (.cons (.ai _) .nil) (.bool _) (by
 have L:zd0 (aH pls [zt,zu]) 114:=dG (fun _=>rfl) rfl;have Y:∀(H:Hp),aY prog (aH pls [zt,zu]) 137 [.ai s] H fun v H'=>v=.bool (lJ s)/\H'=H:=fun H=>cF (enc:=nJ) (out:=fun n=>.bool (lJ n)) vL (x:=s) rfl Z;have z:∀(H:Hp),aY prog (aH pls [zt,zu]) 98 [.ai s] H fun v H'=>v=.bool (tV s)/\H'=H:=fun H=>cF (enc:=nJ) (out:=fun n=>.bool (tV n)) vL (x:=s) rfl trivial;refine bF (M:=10) (rs:=[.tmp 2]) (L.call _) L.aD L.aq func114 rfl rfl Ly.2 rfl ?_;dsimp only[Ly,bA,Nat.reduceAdd];repeat' (first
  |(apply aj ?_;clear hK K)|apply Rx.o ?_|(apply eC ?_;first|refine bi (Y _) ?_|refine bi (z _) ?_)|(apply aX (fun J g=>?_) (fun J g=>?_)<;>try(cases J;done))|apply ah ?_|(apply ai fun K hK=>?_)|apply aq ?_)
 all_goals refine qq ?_
 all_goals (simp_all[cZ]))
end
def dI(H:Hp)(v:AV)(l:qt)(lo:Nat):Prop:=∃r L,v=.sl r 0 l.length 1/\H.get r=some (.cells (l.map .ai) L true)/\L<=l.length/\lo<=r/\r<H.next
def dZ(H:Hp)(v:AV)(l:qt)(lo:Nat):Prop:=(v=.ah/\l=[])\/dI H v l lo
def dI.bP(h:dI H v l lo)(C:H.next<=H'.next)(J:∀k,lo<=k->k<H.next->H'.get k=H.get k):dI H' v l lo:=by
 obtain⟨r,L,i,g,m,U,M⟩:=h;exact⟨r,L,i,by rw[J r U M];exact g,m,U,ac⟩
def bc(v:AV)(k:Nat):Prop:=∃n,v=.sl k 0 n 1
def pW(v z:AV)(H H':Hp):Prop:=(∀k,k<H.next->¬bc v k->H'.get k=H.get k)/\∀k,bc z k->bc v k\/H.next<=k
def dI.lt(h:dI H v l lo)(j:bc v k):lo<=k/\k<H.next:=by
 obtain⟨r,L,rfl,_,_,U,M⟩:=h;obtain⟨n,e⟩:=j;simp only[AV.sl.injEq]at e;rw[<-e.1];exact⟨U,M⟩
def dZ.lt(h:dZ H v l lo)(j:bc v k):lo<=k/\k<H.next:=by
 rcases h with⟨rfl,_⟩|h
 .obtain⟨n,e⟩:=j;simp at e
 .exact h.lt j
def dI.keep(h:dI H v l lo)(C:H.next<=H'.next)(J:∀k,bc v k->H'.get k=H.get k):dI H' v l lo:=by
 obtain⟨r,L,rfl,g,m,U,M⟩:=h;exact⟨r,L,rfl,CD,m,U,ac⟩
def dZ.keep(h:dZ H v l lo)(C:H.next<=H'.next)(J:∀k,bc v k->H'.get k=H.get k):dZ H' v l lo:=h.imp id fun h=>h.keep C J
def LJ(l:qt):(l.map AV.ai).all AV.one=true:=by simp[AV.one]
theorem CI(m:qt):(m.map fun s=>[AV.ai s]).flatten=m.map .ai:=by induction m with
 |nil=>rfl
 |cons a m ih=>simp[ih]
theorem YP(H:Hp)(m:qt):fN H 1 (cM m)=some (m.length,m.map .ai):=by
 have e:fN H 1 (cM m)=if ((m.map fun s=>[AV.ai s]).all fun Y=>Y.length == 1)then some ((m.map fun s=>[AV.ai s]).length,(m.map fun s=>[AV.ai s]).flatten)else none:=rfl
 rw[e,ay az,CI,dx]
def Gu{imm:Nat}(h:H.get r=some (.cells (m.map .ai) imm true)):fN H 1 (.sl r 0 m.length 1)=some (m.length,m.map .ai):=by
 have:=tN (H:=H) (r:=r) (o:=0) (n:=m.length) (z:=1) (s:=1) h az;rw[this,fF,gZ az]
theorem Gv{x:AV}(Y:dZ H v l lo)(V:lo<=H.next)(I:fN H 1 x=some (m.length,m.map .ai))(O:m≠[])(o:l.length+m.length<2^40):
 ∃z H',dm prog false H 60 60 v x=some (z,H')/\dI H' z (l++m) lo/\H'.next=H.next+1/\(∀k,k<lo->H'.get k=H.get k)/\pW v z H H':=by
 obtain⟨n,C⟩:∃n,m.length=n+1:=⟨m.length-1,CE⟩;have i:dX=70368744177664:=rfl;rw[C]at I;rcases Y with⟨rfl,rfl⟩|⟨r,L,rfl,Z,M,K,h5⟩
 .refine⟨.sl H.next 0 (n+1) 1,H.alloc (.cells (m.map .ai) 0 true),append_nil underlying60 vA xo xp aG I (LJ m) rfl kZ kZ,⟨H.next,0,tW,gR,ac,V,cI _⟩,rfl,fun k j=>eG,fun k j _=>eG,fun k j=>.inr ?_⟩;obtain⟨U,e⟩:=j;simp only[AV.sl.injEq]at e;omega
 .have J:ii false H 1 (.sl r 0 l.length 1)=H:=by
   unfold ii;simp only[Z,bO,dx,lW];have:Nat.blt l.length l.length=false:=by
    cases o:Nat.blt l.length l.length with
    |false=>rfl
    |true=>rw[j8]at o;omega
   simp[this]
  refine⟨.sl H.next 0 (l.length+(n+1)) 1,(H.aP r).alloc (.cells (l.map .ai++m.map .ai) (L-0) true),?_,⟨H.next,L,tW,?_,ca,V,cI _⟩,rfl,fun k j=>?_,fun k j g=>?_,fun k j=>.inr ?_⟩
  .simp only[dm,underlying60,vA,xo,xp,show iR prog 60=true by kernel_rfl,I,LJ,J,pP,bC,mC,mW,Z,dx,bO,lW,fF];rw[ay ⟨kZ,kZ,trivial,trivial,M⟩];simp
  .show((H.aP r).alloc _).get (H.aP r).next=_
   rw[aQ,ay rfl];simp
  .rw[aQ,af nI,hO,af ac]
  .rw[aQ,af nI,hO,af (fun e=>g ⟨_,mE⟩)]
  .obtain⟨U,e⟩:=j;simp only[AV.sl.injEq]at e;omega
def xC(m:qt)(V:dI H v l lo)(Z:lo<=H.next)(o:l.length+m.length<2^40):
 ∃z H',dm prog false H 60 60 v (cM m)=some (z,H')/\dI H' z (l++m) lo/\H.next<=H'.next/\(∀k,k<lo->H'.get k=H.get k)/\pW v z H H':=by
 by_cases O:m=[]
 .subst O;refine⟨v,H,?_,Gk,aO _,fun _ _=>rfl,fun _ _ _=>rfl,fun _ h=>.inl h⟩;obtain⟨r,L,rfl,g,_⟩:=V;simp only[dm,underlying60,vA,xo,xp,show iR prog 60=true by kernel_rfl,mK,fN,oz,bC,gM]
 .obtain⟨z,H',i,g,Y,U⟩:=Gv (.inr V) Z (YP H m) O o;exact⟨z,H',i,g,ac,U⟩
def vM{imm:Nat}(s:qw)(Z:dZ H v l lo)(V:lo<=H.next)(M:H.get r=some (.cells [.ai s] imm true))(o:l.length<2^39):
 ∃z H',dm prog false H 60 60 v (.sl r 0 1 1)=some (z,H')/\dI H' z (l++[s]) lo/\H'.next=H.next+1/\(∀k,k<lo->H'.get k=H.get k)/\pW v z H H':=
 Gv Z V (Gu (m:=[s]) M) az ca
def YQ{w:AV}{lo':Nat}(V:dI H v l lo)(Z:lo<=H.next)(L:dZ H w m lo')(M:l.length+m.length<2^40):
 ∃z H',dm prog false H 60 60 v w=some (z,H')/\dI H' z (l++m) lo/\H.next<=H'.next/\(∀k,k<lo->H'.get k=H.get k)/\pW v z H H':=by
 by_cases O:m=[]
 .subst O;refine⟨v,H,?_,Gk,aO _,fun _ _=>rfl,fun _ _ _=>rfl,fun _ h=>.inl h⟩;obtain⟨r,K,rfl,g,_⟩:=V;rcases L with⟨rfl,_⟩|⟨I,o,rfl,Y,_⟩
  .simp only[dm,underlying60,vA,xo,xp,show iR prog 60=true by kernel_rfl,fN]
  .have U:=Gu Y;simp only[gM]at U;simp only[dm,underlying60,vA,xo,xp,show iR prog 60=true by kernel_rfl,gM,U]
 .rcases L with⟨_,h⟩|⟨I,o,rfl,Y,_⟩
  .exact(O h).elim
  .obtain⟨z,H',i,g,C,J⟩:=Gv (.inr V) Z (Gu Y) O M;exact⟨z,H',i,g,ac,J⟩
def dI.len(h:dI H v l lo):ij prog H' 60 v=some (.int .i64 l.length):=by
 obtain⟨r,L,rfl,_⟩:=h;exact y0 underlying60 _ _ _ _
theorem dI.at(h:dI H v l lo){i:Nat}(z:i<l.length):
 ∃r,ey prog 60 v (.int .i64 (i:Int))=some (.ptr r i)/\eY prog H 9 (.ptr r i)=some (.ai l[i]):=by
 obtain⟨r,L,rfl,g,_⟩:=h;refine⟨r,?_,?_⟩
 .rw[tM underlying60 vA z];simp
 .rw[vt underlying9 rfl g,fO,a0 z];rfl
def dI.one{H:Hp}{v:AV}{l:qt}{lo:Nat}(h:dI H v l lo):AV.one v=true/\v.cells=[v]:=by
 obtain⟨r,L,rfl,_⟩:=h;exact⟨rfl,rfl⟩
theorem LK(l:qt):gC 1 l.length (l.map .ai)=l.map fun s=>[AV.ai s]:=by
 induction l with
 |nil=>rfl
 |cons a l ih=>simp[gC,ih]
theorem LL(n:Nat):∀(l:qt) (H:Hp),gg (eR (n+1)) (l.map .ai) H=some (l.map .ai,H)
 |[],H=>rfl
 |a::l,H=>by
  have:=LL n l H;have e:eR (n+1) (.ai a) H=some (.ai a,H):=rfl;simp only[dS,gg,e,this]
theorem dI.aD(h:dI H v l lo)(n:Nat):
 ∃H',eR (n+2) v H=some (cM l,H')/\dI H' v l lo/\H'.next=H.next/\(∀k,k<lo->H'.get k=H.get k)/\∀k,¬bc v k->H'.get k=H.get k:=by
 obtain⟨r,L,rfl,g,m,U,M⟩:=h;refine⟨H.set r (.cells (l.map .ai) (max L l.length) true),?_,⟨r,max L l.length,rfl,gL,ac,U,M⟩,rfl,fun k j=>jd,fun k j=>by rw[a1,af (fun e=>j ⟨_,mE⟩)]⟩;have e:eR (n+2) (.sl r 0 l.length 1) H=match H.get r with
  |some (.cells Y L Z)=>match Nat.ble (0+l.length*1) Y.length&&Nat.ble L Y.length with
   |true=>match gg (eR (n+1)) ((Y.drop 0).take (l.length*1)) (H.set r (.cells Y (max L (0+l.length*1)) Z))with
    |some (V,H)=>some (.ao (gC 1 l.length V),H)
    |none=>none
   |false=>none
  |_=>none:=rfl
 rw[e,g];simp only[dx,bO,lW,fF];have K:Nat.ble l.length l.length=true:=CF;have z:Nat.ble L l.length=true:=CF;rw[K,z];simp only[vn];rw[gZ az,LL];simp only[LK]
def bX.args{P:Program}{ρ:Nat->Int}{C L:qs}{r:AV}(h:bX P ρ f C r)(V:∀(G:Gh) vs,cp G L vs->cp G C vs):bX P ρ f L r:=
 ⟨h.1,fun G w vs i g m=>h.2 G w vs i g (V G vs m)⟩
def YR{G:Gh}{a:qs}{vs:qE}(h:cp G (.ah::a) vs):cp G (cM []::a) vs:=by
 cases vs with
 |nil=>have:=h.1;simp at this
 |cons v vs=>
  obtain⟨K,Z⟩:=h.aX;cases K;exact mD (.bU _ _) Z
def sH(x:Option qt×qw):qs:=match x with
 |(none,s)=>[.ah,.ai s]
 |(some l,s)=>[cM l,.ai s]
def Gw(x y:Option qt×qw)(h:sH x=sH y):x=y:=by
 obtain⟨a,s⟩:=x;obtain⟨b,u⟩:=y;cases a<;>cases b<;>simp only[sH,dR,AV.ai.injEq,AV.ao.injEq,aU,reduceCtorEq,false_and,nn]at h
 .rw[h]
 .rw[vH h.1,h.2]
noncomputable def rK:En:=⟨117,true,ch (fun x=>(x.1.getD []).length<2^60) sH fun x=>.bool (bJ (x.1.getD []) x.2)⟩
def Gx:cT prog ρ rK:=dg fun x I=>by
 obtain⟨a,s⟩:=x;cases a with
 |none=>exact bX.args (LF ρ [] s az) fun G vs h=>YR h
 |some l=>exact LF ρ l s I
theorem Gy{l:qA}(K:∀o,cV l 117 o=rK.sp o)(z:iL l 117=true){r:qt}(V:dZ H v r lo)(hr:r.length<2^60)(s:qw):
 aY prog (aH pls l) 117 [v,.ai s] H fun w H'=>w=.bool (bJ r s)/\dZ H' v r lo/\H'.next=H.next/\(∀k,k<lo->H'.get k=H.get k)/\∀k,¬bc v k->H'.get k=H.get k:=by
 rcases V with⟨rfl,rfl⟩|V
 .refine bb ?_ (cF (enc:=sH) (out:=fun x=>.bool (bJ (x.1.getD []) x.2)) Gw (x:=(none,s)) (K _) hr);rintro w _ ⟨rfl,rfl⟩;exact⟨rfl,.inl ⟨rfl,rfl⟩,rfl,fun _ _=>rfl,fun _ _=>rfl⟩
 .obtain⟨H',i,g,m,U⟩:=V.aD 98;have J:∀y,(y.1.getD []).length<2^60->sH y≠[v,.ai s]:=fun y _ e=>by
   obtain⟨q,L,rfl,_⟩:=V;obtain⟨a,u⟩:=y;cases a<;>simp[sH]at e
  refine bb ?_ (Cu (enc:=sH) (out:=fun x=>.bool (bJ (x.1.getD []) x.2)) Gw (x:=(some r,s)) K z hr J (H':=H') ?_)
  .rintro w _ ⟨rfl,rfl|rfl⟩
   .exact⟨rfl,.inr g,m,U⟩
   .exact⟨rfl,.inr V,rfl,fun _ _=>rfl,fun _ _=>rfl⟩
  .show gg (eR 100) [v,.ai s] H=some ([cM r,.ai s],H');simp only[gg,i];rfl
end Go.Proofs.Ytbflaciihaijgaa
namespace Go.Ab
set_option maxRecDepth 20000
open Go
variable{P:Program}{f:FuncId}{C:qs}{r v u:AV}{H H':Hp}{S S':Nat->Prop}{n:Nat}
def cq:Nat->AV->AV
 |0,v=>v
 |n+1,v=>match v with
  | .ah=>.ao []
  | .ao U=>.ao (U.map fun Y=>Y.map (cq n))
  | .agg Z=>.agg (Z.map (cq n))
  | .aS Z=>.aS (Z.map (cq n))
  |v=>v
theorem VR.wk{G:Gh}:∀(n:Nat) {v:AV}{x:Value},VR G v x->VR G (cq n v) x
 |0,_,_,h=>h
 |n+1,v,x,h=>by
  cases h with
  |ah=>exact .bU _ _
  |ao vs g M V hc=>
   rename_i xs b o cap z;have:=VR.ao (G:=G) (xs:=xs.map fun Z=>Z.map (cq n)) (b:=b) (o:=o) (cap:=cap) (z:=z) vs ?_ ?_ ?_ ?_
   .rw[dx]at this;exact this
   .intro i Z hr;rw[fO]at hr;cases I:xs[i]? with
    |none=>rw[I]at hr;simp at hr
    |some b9=>rw[I]at hr;simp only[jo,aJ]at hr;rw[<-hr,dx];exact g i b9 I
   .intro i j J C;rw[dx]at J;exact M i j J C
   .intro i j Z c hr L;rw[fO]at hr;cases I:xs[i]? with
    |none=>rw[I]at hr;simp at hr
    |some b9=>
     rw[I]at hr;simp only[jo,aJ]at hr;rw[<-hr,fO]at L;cases Y:b9[j]? with
     |none=>rw[Y]at L;simp at L
     |some c0=>rw[Y]at L;simp only[jo,aJ]at L;rw[<-L];exact VR.wk n (V i j b9 c0 I Y)
   .rw[dx];exact hc
  |bU a cap=>exact .bU a cap
  |agg K V=>
   refine .agg (by rw[dx];exact K) fun i c v hc U=>?_;rw[fO]at hc;rename_i O vs;cases Y:O[i]? with
   |none=>rw[Y]at hc;simp at hc
   |some c0=>rw[Y]at hc;simp only[jo,aJ]at hc;rw[<-hc];exact VR.wk n (V i c0 v Y U)
  |aS K V=>
   refine .aS (by rw[dx];exact K) fun i c v hc U=>?_;rw[fO]at hc;rename_i O vs;cases Y:O[i]? with
   |none=>rw[Y]at hc;simp at hc
   |some c0=>rw[Y]at hc;simp only[jo,aJ]at hc;rw[<-hc];exact VR.wk n (V i c0 v Y U)
  |int k m=>exact .int k m
  |sx k e=>exact .sx k e
  |bool b=>exact .bool b
  |ai s l h=>exact .ai s l h
  |bl=>exact .bl
  |a7=>exact .a7
  |bu=>exact .bu
  |ptr h=>exact .ptr h
  |a8 vs M V=>exact .a8 vs M V
  |sl h K hc=>exact .sl h K hc
  |map h=>exact .map h
  |bb K V=>exact .bb K V
def bX.wk{ρ:Nat->Int}(n:Nat)(h:bX P ρ f C r):bX P ρ f C (cq n r):=
 ⟨h.1,fun G w vs i g m=>(h.2 G w vs i g m).mono fun _ _ ⟨v,L,U,M,K⟩=>⟨v,L,U,M.wk n,K⟩⟩
def LM{ρ:Nat->Int}{J:AV}(n:Nat)(h:bX P ρ f C r)(e:cq n r=J):bX P ρ f C J:=e▸h.wk n
variable {P:Program} {cfg:Cfg} {f N:Nat}
theorem YS{c:SC}{E:aB}{Q:AX->aB->Hp->Prop}(cs:qC)(h:∀E':aB,(∀k∈cs,E'.at k=E.at k)->cb P cfg f N c E' H Q):cb P cfg f N c E H Q:=h E fun _ _=>rfl
def cy{J β:Type}(p:J->β->Prop):List J->List β->Prop
 |[],[]=>True
 |a::l,b::m=>p a b/\cy p l m
 |_,_=>False
theorem cy.len{J β:Type}{p:J->β->Prop}:∀{l:List J}{m:List β},cy p l m->l.length=m.length
 |[],[],_=>rfl
 |_::_,_::_,h=>by simp only[eT,cy.len h.2]
theorem cy.mono{J β:Type}{p q:J->β->Prop}(h:∀a b,p a b->q a b):∀{l:List J}{m:List β},cy p l m->cy q l m
 |[],[],_=>trivial
 |_::_,_::_,k=>⟨h _ _ k.1,cy.mono h k.2⟩
theorem cy.append{J β:Type}{p:J->β->Prop}:∀{l:List J}{m:List β}{j:List J}{z:List β},cy p l m->cy p j z->cy p (l++j) (m++z)
 |[],[],_,_,_,h=>h
 |_::_,_::_,_,_,h,k=>⟨h.1,cy.append h.2 k⟩
theorem cy.refl{J:Type}{p:J->J->Prop}:∀{l:List J},(∀a∈l,p a a)->cy p l l
 |[],_=>trivial
 |a::l,h=>⟨h a ei,cy.refl fun b o=>h b (ej _ o)⟩
theorem cy.get{J β:Type}{p:J->β->Prop}:∀{l:List J}{m:List β},cy p l m->∀{i:Nat}{a:J}{b:β},l[i]?=some a->m[i]?=some b->p a b
 |[],[],_,i,_,_,h,_=>by simp at h
 |a::l,b::m,h,0,_,_,h1,h2=>by
  simp only[nC,aJ]at h1 h2;subst h1;subst h2;exact h.1
 |a::l,b::m,h,i+1,_,_,h1,h2=>cy.get h.2 (by simpa using h1) (by simpa using h2)
def LN(v:AV):Prop:=fu v/\match v with
 | .sl _ _ _ _|.agg _=>False
 |_=>True
def cW(S:Nat->Prop):Nat->Hp->AV->AV->Prop
 |0,_,_,_=>False
 |n+1,H,v,u=>match v with
  | .sl r I o z=>S r/\r<H.next/\∃Y L Z l,H.get r=some (.cells Y L Z)/\L<=Y.length/\I+o*z<=Y.length/\cy (cW S n H) ((Y.drop I).take (o*z)) l/\u=.ao (gC z o l)
  | .agg Y=>∃j,cy (cW S n H) Y j/\u=.agg j
  |v=>fu v/\u=v
def cW.b8(h:LN v):cW S (n+1) H v v:=by
 cases v<;>first|exact h.2.elim|exact⟨h.1,rfl⟩
def tY:=@cW.b8
theorem cW.up{S:Nat->Prop}{H:Hp}:∀{n m:Nat}{v u:AV},cW S n H v u->n<=m->cW S m H v u
 |0,_,_,_,h,_=>h.elim
 |n+1,0,_,_,_,hm=>by omega
 |n+1,m+1,v,u,h,hm=>by
  cases v with
  |sl r I o z=>
   obtain⟨i,O,Y,L,Z,l,g,V,U,M,K⟩:=h;exact⟨i,O,Y,L,Z,l,g,V,U,M.mono fun a b k=>cW.up k ac,K⟩
  |agg Y=>
   obtain⟨j,i,g⟩:=h;exact⟨j,i.mono fun a b k=>cW.up k ac,g⟩
  |_=>exact h
def pX(a b:Option HB):Prop:=a=b\/∃Y i j L,a=some (.cells Y i L)/\b=some (.cells Y j L)/\(i<=Y.length->j<=Y.length)
def pX.trans{a b c:Option HB}(h:pX a b)(k:pX b c):pX a c:=by
 rcases h with rfl|⟨Y,i,j,L,rfl,rfl,h⟩
 .exact k
 .rcases k with rfl|⟨K,V,C,Z,e,rfl,k⟩
  .exact .inr ⟨Y,i,j,L,rfl,rfl,h⟩
  .simp only[aJ,HB.cells.injEq]at e;obtain⟨rfl,rfl,rfl⟩:=e;exact .inr ⟨Y,i,C,L,rfl,rfl,fun q=>k (h q)⟩
theorem cW.bQ{S S':Nat->Prop}{H H':Hp}(hS:∀k,k<H.next->S k->S' k)(C:H.next<=H'.next)(V:∀k,S k->k<H.next->pX (H.get k) (H'.get k)):∀{n:Nat}{v u:AV},cW S n H v u->cW S' n H' v u
 |0,_,_,h=>h.elim
 |n+1,v,u,h=>by
  cases v with
  |sl r off len z=>
   obtain⟨Z,O,U,M,L,l,g,m,K,h5,J⟩:=h;have Y:=h5.mono fun a b k=>cW.bQ hS C V k;rcases V r Z O with e|⟨cs',i,j,I,o,e2,e3⟩
   .exact⟨hS r O Z,ac,U,M,L,l,by rw[<-e];exact g,m,K,Y,J⟩
   .rw[g]at o;simp only[aJ,HB.cells.injEq]at o;obtain⟨rfl,rfl,rfl⟩:=o;exact⟨hS r O Z,ac,U,j,L,l,e2,e3 m,K,Y,J⟩
  |agg U=>
   obtain⟨ds,Z,g⟩:=h;exact⟨ds,Z.mono fun a b k=>cW.bQ hS C V k,g⟩
  |_=>exact h
def cW.frame(hS:∀k,S k->S' k)(C:H.next<=H'.next)(i:∀k,S k->k<H.next->pX (H.get k) (H'.get k))(h:cW S n H v u):cW S' n H' v u:=h.bQ (fun k _ q=>hS k q) C i
structure Icy (S:Nat->Prop) (H H':Hp):Prop where
 next:H'.next=H.next
 out:∀k,¬S k->H'.get k=H.get k
 same:∀k,pX (H.get k) (H'.get k)
def Icy.refl(S:Nat->Prop)(H:Hp):Icy S H H:=⟨rfl,fun _ _=>rfl,fun _=>.inl rfl⟩
def zw:=@Icy.refl
def Icy.trans{a b c:Hp}(h:Icy S a b)(k:Icy S b c):Icy S a c:=⟨k.next.trans h.next,fun r hr=>(k.out r hr).trans (h.out r hr),fun r=>(h.same r).trans (k.same r)⟩
def Icy.ic(h:Icy S H H')(k:cW S' n H v u):cW S' n H' v u:=k.frame (fun _ q=>q) (jR h.next.symm) fun r _ _=>h.same r
theorem CJ{S:Nat->Prop}{n:Nat}(ih:∀{v u:AV}{H:Hp},cW S n H v u->∃H',eR n v H=some (u,H')/\Icy S H H'):∀{l m:qs}{H:Hp},cy (cW S n H) l m->∃H',gg (eR n) l H=some (m,H')/\Icy S H H'
 |[],[],H,_=>⟨H,rfl,zw S H⟩
 |a::l,b::m,H,h=>by
  obtain⟨H1,i,g⟩:=ih h.1;obtain⟨Z,Y,U⟩:=CJ ih (l:=l) (m:=m) (H:=H1) (h.2.mono fun a b k=>g.ic k);exact⟨Z,by simp only[gg,i,Y],g.trans U⟩
theorem cW.aD{S:Nat->Prop}:∀{n:Nat}{v u:AV}{H:Hp},cW S n H v u->∃H',eR n v H=some (u,H')/\Icy S H H'
 |0,_,_,_,h=>h.elim
 |n+1,v,u,H,h=>by
  cases v with
  |sl r I Z z=>
   obtain⟨i,h0,Y,L,V,l,g,m,M,K,rfl⟩:=h;have j:Icy S H (H.set r (.cells Y (max L (I+Z*z)) V)):=by
    refine⟨rfl,fun k U=>by rw[a1,af (fun e=>U (by rw[e];exact i))],fun k=>?_⟩;rw[a1];split
    .rename_i e;subst e;exact .inr ⟨Y,L,max L (I+Z*z),V,g,rfl,fun _=>ac⟩
    .exact .inl rfl
   obtain⟨H',J,C⟩:=CJ (fun k=>cW.aD k) (K.mono fun a b k=>j.ic k);refine⟨H',?_,j.trans C⟩;have e:eR (n+1) (.sl r I Z z) H=match H.get r with
    |some (.cells Y L V)=>match Nat.ble (I+Z*z) Y.length&&Nat.ble L Y.length with
     |true=>match gg (eR n) ((Y.drop I).take (Z*z)) (H.set r (.cells Y (max L (I+Z*z)) V))with
      |some (l',H)=>some (.ao (gC z Z l'),H)
      |none=>none
     |false=>none
    |_=>none:=rfl
   rw[e,g];have e1:Nat.ble (I+Z*z) Y.length=true:=by rw[Nat.ble_eq];exact M
   have e2:Nat.ble L Y.length=true:=by rw[Nat.ble_eq];exact m
   simp only[e1,e2,vn,J]
  |agg Y=>
   obtain⟨O,i,rfl⟩:=h;obtain⟨H',g,m⟩:=CJ (fun k=>cW.aD k) i;refine⟨H',?_,m⟩;have e:eR (n+1) (.agg Y) H=match gg (eR n) Y H with
    |some (O,H)=>some (.agg O,H)
    |none=>none:=rfl
   rw[e,g]
  |ptr r o=>
   obtain⟨k,U⟩:=h.1;exact absurd (U (k+1) ac H) (by simp[iceV])
  |map r=>
   obtain⟨k,U⟩:=h.1;exact absurd (U (k+1) ac H) (by simp[iceV])
  |_=>exact⟨H,by rw[show u=_ from h.2];rfl,zw S H⟩
def cW.iceL{l m:qs}(h:cy (cW S n H) l m):∃H',gg (eR n) l H=some (m,H')/\Icy S H H':=CJ (fun k=>cW.aD k) h
theorem Gz{S:Nat->Prop}{n:Nat}{H:Hp}(ih:∀{v u:AV},cW S n H v u->∃j,∀m,j<=m->iceV H m v=some u):∀{l k:qs},cy (cW S n H) l k->∃j,∀m,j<=m->iceL (iceV H m) l=some k
 |[],[],_=>⟨0,fun _ _=>rfl⟩
 |a::l,b::k,h=>by
  obtain⟨cz,i⟩:=ih h.1;obtain⟨C,g⟩:=Gz ih (l:=l) (k:=k) h.2;exact⟨max cz C,fun m O=>by simp only[iceL,i m ac,g m ac]⟩
theorem cW.iceV{S:Nat->Prop}{H:Hp}:∀{n:Nat}{v u:AV},cW S n H v u->∃j,∀m,j<=m->iceV H m v=some u
 |0,_,_,h=>h.elim
 |n+1,v,u,h=>by
  cases v with
  |sl r I o z=>
   obtain⟨i,h0,Y,L,K,l,g,h3,h4,Z,rfl⟩:=h;obtain⟨j,M⟩:=Gz (fun k=>cW.iceV k) Z;refine⟨j+1,fun m O=>?_⟩;obtain⟨m,rfl⟩:∃k,m=k+1:=⟨m-1,ac⟩;have e:Ab.iceV H (m+1) (.sl r I o z)=match H.get r with
    |some (.cells Y _ _)=>match Ab.iceL (Ab.iceV H m) ((Y.drop I).take (o*z))with
     |some U=>if U.length=o*z then some (.ao (gC z o U))else none
     |none=>none
    |_=>none:=rfl
   have C:l.length=o*z:=by rw[<-Z.len,lS,kQ];omega
   rw[e,g];simp only[M m ac,C,bC]
  |agg Y=>
   obtain⟨V,i,rfl⟩:=h;obtain⟨j,M⟩:=Gz (fun k=>cW.iceV k) i;refine⟨j+1,fun m O=>?_⟩;obtain⟨m,rfl⟩:∃k,m=k+1:=⟨m-1,ac⟩;have e:Ab.iceV H (m+1) (.agg Y)=match Ab.iceL (Ab.iceV H m) Y with
    |some V=>some (.agg V)
    |none=>none:=rfl
   rw[e,M m ac]
  |_=>
   obtain⟨k,J⟩:=h.1;exact⟨k,fun m O=>by rw[J m O H,h.2]⟩
theorem LO(z:Nat):∀(Z:List qs),(∀r∈Z,r.length=z)->gC z Z.length Z.flatten=Z
 |[],_=>rfl
 |r::Z,h=>by
  have i:=h r ei;rw[od,eT];show(r++Z.flatten).take z::gC z Z.length ((r++Z.flatten).drop z)=_;rw[Bm ac,gZ ac,EP ac,Ey ac,pJ,LO z Z fun q K=>h q (ej _ K)]
theorem CK{z:Nat}:∀{Z:List qs},(∀r∈Z,r.length=z)->Z.flatten.length=Z.length*z
 |[],_=>by simp
 |r::Z,h=>by
  rw[od,fg,h r ei,CK fun q K=>h q (ej _ K),eT,wX];omega
theorem cy.b8{p:AV->AV->Prop}:∀{a b:List qs},cy (cy p) a b->cy p a.flatten b.flatten
 |[],[],_=>trivial
 |_::_,_::_,h=>by rw[od,od];exact h.1.append (cy.b8 h.2)
theorem cy.cG{p:AV->AV->Prop}{z:Nat}:∀{a b:List qs},cy (cy p) a b->(∀r∈a,r.length=z)->∀r∈b,r.length=z
 |[],[],_,_,r,hr=>by simp at hr
 |x::a,y::b,h,hz,r,hr=>by
  rcases gE.1 hr with rfl|hr
  .rw[<-h.1.len];exact hz x ei
  .exact cy.cG h.2 (fun q K=>hz q (ej _ K)) r hr
def cW.rows{r z imm:Nat}{tip:Bool}{a b:List qs}(hS:S r)(hr:r<H.next)(J:H.get r=some (.cells a.flatten imm tip))(Z:imm<=a.flatten.length)(I:∀x∈a,x.length=z)(h:cy (cy (cW S n H)) a b):cW S (n+1) H (.sl r 0 a.length z) (.ao b):=by
 have K:=CK I;refine⟨hS,hr,a.flatten,imm,tip,b.flatten,J,Z,ac,?_,?_⟩
 .rw[fF,gZ ac];exact h.b8
 .rw[h.len,LO z b (h.cG I)]
theorem cp.wk{G:Gh}(n:Nat):∀{C:qs}{vs:qE},cp G C vs->cp G (C.map (cq n)) vs
 |[],vs,h=>h
 |a::l,[],h=>by have:=h.1;simp at this
 |a::l,v::vs,h=>by
  obtain⟨i,g⟩:=h.aX;exact mD (i.wk n) (cp.wk n g)
def bX.wkA{P:Program}{ρ:Nat->Int}{f:FuncId}(n:Nat)(h:bX P ρ f (C.map (cq n)) r):bX P ρ f C r:=⟨h.1,fun G w vs i g m=>h.2 G w vs i g (m.wk n)⟩
def rL(e:En):En:=⟨e.f,e.aD,fun C=>e.sp (C.map (cq 60))⟩
def CL{P:Program}{ρ:Nat->Int}{e:En}(h:cT P ρ e):cT P ρ (rL e):=fun C r hr=>(h _ r hr).wkA 60
end Go.Ab
namespace Go.Proofs.Ytbflaciihaijgaa
set_option maxRecDepth 20000
open Go Go.Ab Proofs.Try
variable{H H':Hp}{v x:AV}{l m:qu}{lo k r o:Nat}{cs:qs}
def gI(H:Hp)(v:AV)(l:qu)(lo:Nat):Prop:=∃r L,v=.sl r 0 l.length 1/\H.get r=some (.cells (l.map (.int .i64)) L true)/\L<=l.length/\lo<=r/\r<H.next
def fI(H:Hp)(v:AV)(l:qu)(lo:Nat):Prop:=(v=.ah/\l=[])\/gI H v l lo
def gI.bP(h:gI H v l lo)(C:H.next<=H'.next)(J:∀k,lo<=k->k<H.next->H'.get k=H.get k):gI H' v l lo:=by
 obtain⟨r,L,i,g,m,U,M⟩:=h;exact⟨r,L,i,by rw[J r U M];exact g,m,U,ac⟩
def gI.lt(h:gI H v l lo)(j:bc v k):lo<=k/\k<H.next:=by
 obtain⟨r,L,rfl,_,_,U,M⟩:=h;obtain⟨n,e⟩:=j;simp only[AV.sl.injEq]at e;rw[<-e.1];exact⟨U,M⟩
def fI.lt(h:fI H v l lo)(j:bc v k):lo<=k/\k<H.next:=by
 rcases h with⟨rfl,_⟩|h
 .obtain⟨n,e⟩:=j;simp at e
 .exact h.lt j
def gI.keep(h:gI H v l lo)(C:H.next<=H'.next)(J:∀k,bc v k->H'.get k=H.get k):gI H' v l lo:=by
 obtain⟨r,L,rfl,g,m,U,M⟩:=h;exact⟨r,L,rfl,CD,m,U,ac⟩
def fI.keep(h:fI H v l lo)(C:H.next<=H'.next)(J:∀k,bc v k->H'.get k=H.get k):fI H' v l lo:=h.imp id fun h=>h.keep C J
def CM(l:qu):(l.map (AV.int .i64)).all AV.one=true:=by simp[AV.one]
def tZ{imm:Nat}(h:H.get r=some (.cells (m.map (.int .i64)) imm true)):fN H 1 (.sl r 0 m.length 1)=some (m.length,m.map (.int .i64)):=by
 have:=tN (H:=H) (r:=r) (o:=0) (n:=m.length) (z:=1) (s:=1) h az;rw[this,fF,gZ az]
theorem GA(Y:fI H v l lo)(V:lo<=H.next)(I:fN H 1 x=some (m.length,m.map (.int .i64)))(O:m≠[])(o:l.length+m.length<2^40):
 ∃z H',dm prog false H 22 22 v x=some (z,H')/\gI H' z (l++m) lo/\H'.next=H.next+1/\(∀k,k<lo->H'.get k=H.get k)/\pW v z H H':=by
 obtain⟨n,C⟩:∃n,m.length=n+1:=⟨m.length-1,CE⟩;have i:dX=70368744177664:=rfl;rw[C]at I;rcases Y with⟨rfl,rfl⟩|⟨r,L,rfl,Z,M,K,h5⟩
 .refine⟨.sl H.next 0 (n+1) 1,H.alloc (.cells (m.map (.int .i64)) 0 true),append_nil underlying22 jL o7 pd aG I (CM m) rfl kZ kZ,⟨H.next,0,tW,gR,ac,V,cI _⟩,rfl,fun k j=>eG,fun k j _=>eG,fun k j=>.inr ?_⟩;obtain⟨U,e⟩:=j;simp only[AV.sl.injEq]at e;omega
 .have J:ii false H 1 (.sl r 0 l.length 1)=H:=by
   unfold ii;simp only[Z,bO,dx,lW];have:Nat.blt l.length l.length=false:=by
    cases o:Nat.blt l.length l.length with
    |false=>rfl
    |true=>rw[j8]at o;omega
   simp[this]
  refine⟨.sl H.next 0 (l.length+(n+1)) 1,(H.aP r).alloc (.cells (l.map (.int .i64)++m.map (.int .i64)) (L-0) true),?_,⟨H.next,L,tW,?_,ca,V,cI _⟩,rfl,fun k j=>?_,fun k j g=>?_,fun k j=>.inr ?_⟩
  .simp only[dm,underlying22,jL,o7,pd,show iR prog 22=true by kernel_rfl,I,CM,J,pP,bC,mC,mW,Z,dx,bO,lW,fF];rw[ay ⟨kZ,kZ,trivial,trivial,M⟩];simp
  .show((H.aP r).alloc _).get (H.aP r).next=_
   rw[aQ,ay rfl];simp
  .rw[aQ,af nI,hO,af ac]
  .rw[aQ,af nI,hO,af (fun e=>g ⟨_,mE⟩)]
  .obtain⟨U,e⟩:=j;simp only[AV.sl.injEq]at e;omega
def GB{imm:Nat}(s:Int)(Z:fI H v l lo)(V:lo<=H.next)(M:H.get r=some (.cells [.int .i64 s] imm true))(o:l.length<2^39):
 ∃z H',dm prog false H 22 22 v (.sl r 0 1 1)=some (z,H')/\gI H' z (l++[s]) lo/\H'.next=H.next+1/\(∀k,k<lo->H'.get k=H.get k)/\pW v z H H':=
 GA Z V (tZ (m:=[s]) M) az ca
def YT{w:AV}{lo':Nat}(V:gI H v l lo)(Z:lo<=H.next)(L:fI H w m lo')(M:l.length+m.length<2^40):
 ∃z H',dm prog false H 22 22 v w=some (z,H')/\gI H' z (l++m) lo/\H.next<=H'.next/\(∀k,k<lo->H'.get k=H.get k)/\pW v z H H':=by
 by_cases O:m=[]
 .subst O;refine⟨v,H,?_,Gk,aO _,fun _ _=>rfl,fun _ _ _=>rfl,fun _ h=>.inl h⟩;obtain⟨r,K,rfl,g,_⟩:=V;rcases L with⟨rfl,_⟩|⟨I,o,rfl,Y,_⟩
  .simp only[dm,underlying22,jL,o7,pd,show iR prog 22=true by kernel_rfl,fN]
  .have U:=tZ Y;simp only[gM]at U;simp only[dm,underlying22,jL,o7,pd,show iR prog 22=true by kernel_rfl,gM,U]
 .rcases L with⟨_,h⟩|⟨I,o,rfl,Y,_⟩
  .exact(O h).elim
  .obtain⟨z,H',i,g,C,J⟩:=GA (.inr V) Z (tZ Y) O M;exact⟨z,H',i,g,ac,J⟩
def gI.len(h:gI H v l lo):ij prog H' 22 v=some (.int .i64 l.length):=by
 obtain⟨r,L,rfl,_⟩:=h;exact y0 underlying22 _ _ _ _
theorem gI.at(h:gI H v l lo){i:Nat}(z:i<l.length):
 ∃r,ey prog 22 v (.int .i64 (i:Int))=some (.ptr r i)/\eY prog H 3 (.ptr r i)=some (.int .i64 l[i]):=by
 obtain⟨r,L,rfl,g,_⟩:=h;refine⟨r,?_,?_⟩
 .rw[tM underlying22 jL z];simp
 .rw[vt underlying3 rfl g,fO,a0 z];rfl
theorem GC(l:qu):gC 1 l.length (l.map (.int .i64))=l.map fun s=>[AV.int .i64 s]:=by
 induction l with
 |nil=>rfl
 |cons a l ih=>simp[gC,ih]
theorem LQ(n:Nat):∀(l:qu) (H:Hp),gg (eR (n+1)) (l.map (.int .i64)) H=some (l.map (.int .i64),H)
 |[],H=>rfl
 |a::l,H=>by
  have:=LQ n l H;have e:eR (n+1) (.int .i64 a) H=some (.int .i64 a,H):=rfl;simp only[dS,gg,e,this]
theorem gI.aD(h:gI H v l lo)(n:Nat):
 ∃H',eR (n+2) v H=some (gh l,H')/\gI H' v l lo/\H'.next=H.next/\(∀k,k<lo->H'.get k=H.get k)/\∀k,¬bc v k->H'.get k=H.get k:=by
 obtain⟨r,L,rfl,g,m,U,M⟩:=h;refine⟨H.set r (.cells (l.map (.int .i64)) (max L l.length) true),?_,⟨r,max L l.length,rfl,gL,ac,U,M⟩,rfl,fun k j=>jd,fun k j=>by rw[a1,af (fun e=>j ⟨_,mE⟩)]⟩;have e:eR (n+2) (.sl r 0 l.length 1) H=match H.get r with
  |some (.cells Y L Z)=>match Nat.ble (0+l.length*1) Y.length&&Nat.ble L Y.length with
   |true=>match gg (eR (n+1)) ((Y.drop 0).take (l.length*1)) (H.set r (.cells Y (max L (0+l.length*1)) Z))with
    |some (V,H)=>some (.ao (gC 1 l.length V),H)
    |none=>none
   |false=>none
  |_=>none:=rfl
 rw[e,g];simp only[dx,bO,lW,fF];have K:Nat.ble l.length l.length=true:=CF;have z:Nat.ble L l.length=true:=CF;rw[K,z];simp only[vn];rw[gZ az,LQ];simp only[GC]
def sI(H:Hp)(v:AV)(l:qu)(lo:Nat):Prop:=∃r,v=.sl r 0 l.length 1/\H.get r=some (.cells (l.map (.int .i64)) 0 true)/\lo<=r/\r<H.next
def ik(H:Hp)(v:AV)(l:qu)(lo:Nat):Prop:=(v=.ah/\l=[])\/sI H v l lo
def sI.b(h:sI H v l lo):gI H v l lo:=by
 obtain⟨r,i,g,m,U⟩:=h;exact⟨r,0,i,g,dN _,m,U⟩
def ik.n(h:ik H v l lo):fI H v l lo:=h.imp id fun h=>h.b
def sI.keep(h:sI H v l lo)(C:H.next<=H'.next)(J:∀k,bc v k->H'.get k=H.get k):sI H' v l lo:=by
 obtain⟨r,rfl,g,U,M⟩:=h;exact⟨r,rfl,CD,U,ac⟩
def ik.keep(h:ik H v l lo)(C:H.next<=H'.next)(J:∀k,bc v k->H'.get k=H.get k):ik H' v l lo:=h.imp id fun h=>h.keep C J
theorem GD(Y:ik H v l lo)(V:lo<=H.next)(I:fN H 1 x=some (m.length,m.map (.int .i64)))(O:m≠[])(o:l.length+m.length<2^40):
 ∃z H',dm prog false H 22 22 v x=some (z,H')/\sI H' z (l++m) lo/\H'.next=H.next+1/\(∀k,k<lo->H'.get k=H.get k)/\pW v z H H':=by
 obtain⟨n,C⟩:∃n,m.length=n+1:=⟨m.length-1,CE⟩;have i:dX=70368744177664:=rfl;rw[C]at I;rcases Y with⟨rfl,rfl⟩|⟨r,rfl,Z,M,L⟩
 .refine⟨.sl H.next 0 (n+1) 1,H.alloc (.cells (m.map (.int .i64)) 0 true),append_nil underlying22 jL o7 pd aG I (CM m) rfl kZ kZ,⟨H.next,tW,gR,V,cI _⟩,rfl,fun k j=>eG,fun k j _=>eG,fun k j=>.inr ?_⟩;obtain⟨U,e⟩:=j;simp only[AV.sl.injEq]at e;omega
 .have J:ii false H 1 (.sl r 0 l.length 1)=H:=by
   unfold ii;simp only[Z,bO,dx,lW];have:Nat.blt l.length l.length=false:=by
    cases o:Nat.blt l.length l.length with
    |false=>rfl
    |true=>rw[j8]at o;omega
   simp[this]
  refine⟨.sl H.next 0 (l.length+(n+1)) 1,(H.aP r).alloc (.cells (l.map (.int .i64)++m.map (.int .i64)) (0-0) true),?_,⟨H.next,tW,?_,V,cI _⟩,rfl,fun k j=>?_,fun k j g=>?_,fun k j=>.inr ?_⟩
  .simp only[dm,underlying22,jL,o7,pd,show iR prog 22=true by kernel_rfl,I,CM,J,pP,bC,mC,mW,Z,dx,bO,lW,fF];rw[ay ⟨kZ,kZ,trivial,trivial,dN _⟩];simp
  .show((H.aP r).alloc _).get (H.aP r).next=_
   rw[aQ,ay rfl];simp
  .rw[aQ,af nI,hO,af ac]
  .rw[aQ,af nI,hO,af (fun e=>g ⟨_,mE⟩)]
  .obtain⟨U,e⟩:=j;simp only[AV.sl.injEq]at e;omega
def YU{imm:Nat}(s:Int)(Z:ik H v l lo)(V:lo<=H.next)(M:H.get r=some (.cells [.int .i64 s] imm true))(o:l.length<2^39):
 ∃z H',dm prog false H 22 22 v (.sl r 0 1 1)=some (z,H')/\sI H' z (l++[s]) lo/\H'.next=H.next+1/\(∀k,k<lo->H'.get k=H.get k)/\pW v z H H':=
 GD Z V (tZ (m:=[s]) M) az ca
theorem YV(n:Nat):jB [.int .i64 0] n=(List.replicate n (0:Int)).map (.int .i64):=by
 induction n with
 |zero=>rfl
 |succ n ih=>simp only[jB,ih];simp[Gp]
theorem YW(n:Nat):jB [.bool false] n=(List.replicate n false).map .bool:=by
 induction n with
 |zero=>rfl
 |succ n ih=>simp only[jB,ih];simp[Gp]
theorem YX(n c:Nat)(h:n<=c)(V:c<2^40):j0 prog H 22 (.int .i64 n) (.int .i64 c)=some (.sl H.next 0 n 1,H.alloc (.cells ((List.replicate n (0:Int)).map (.int .i64)) 0 true)):=by
 have O:dX=70368744177664:=rfl;show j0 prog H 22 (.int .i64 (Int.ofNat n)) (.int .i64 (Int.ofNat c))=_;simp only[j0,underlying22,jL,o7,pd];rw[ay ⟨h,rI,rI,rfl⟩,YV]
theorem YY(n:Nat)(V:n<2^40):j0 prog H 114 (.int .i64 n) (.int .i64 n)=some (.sl H.next 0 n 1,H.alloc (.cells ((List.replicate n false).map .bool) 0 true)):=by
 have O:dX=70368744177664:=rfl;show j0 prog H 114 (.int .i64 (Int.ofNat n)) (.int .i64 (Int.ofNat n))=_;simp only[j0,underlying114,Cb,KF,KG];rw[ay ⟨aO _,rI,rI,rfl⟩,YW]
def splice_one(cs:qs)(I:o<cs.length)(x:AV):splice cs o [x]=cs.set o x:=by
 rw[Kt,List.set_eq_take_append_cons_drop,ay I];simp
def zx(J:H.get r=some (.cells cs 0 true))(I:o<cs.length)(n:Int):mB prog H 3 (.ptr r o) (.int .i64 n)=some (H.set r (.cells (cs.set o (.int .i64 n)) 0 true)):=by
 rw[B6,J,jL,B5,Ab.cells_int,splice_one cs I,ay ⟨rfl,dN _,I,rfl⟩]
def YZ(J:H.get r=some (.cells cs 0 true))(I:o<cs.length)(b:Bool):mB prog H 4 (.ptr r o) (.bool b)=some (H.set r (.cells (cs.set o (.bool b)) 0 true)):=by
 rw[B6,J,Cb,B5,Ku,splice_one cs I,ay ⟨rfl,dN _,I,rfl⟩]
theorem LR(H:Hp)(n:Nat):∀l:qu,iceL (iceV H (n+1)) (l.map (.int .i64))=some (l.map (.int .i64))
 |[]=>rfl
 |a::l=>by
  have:=LR H n l;have e:iceV H (n+1) (.int .i64 a)=some (.int .i64 a):=rfl;simp only[dS,iceL,e,this]
theorem gI.iceV{H:Hp}{v:AV}{l:qu}{lo:Nat}(h:gI H v l lo)(n:Nat):iceV H (n+2) v=some (gh l):=by
 obtain⟨r,L,rfl,g,_⟩:=h;have e:Ab.iceV H (n+2) (.sl r 0 l.length 1)=match H.get r with
  |some (.cells Y _ _)=>match iceL (Ab.iceV H (n+1)) ((Y.drop 0).take (l.length*1))with
   |some j=>if j.length=l.length*1 then some (.ao (gC 1 l.length j))else none
   |none=>none
  |_=>none:=rfl
 rw[e,g];simp only[fF,lW];rw[gZ az,LR];simp only[dx,bC,GC]
def mc(H:Hp)(v:AV)(l:qu)(lo:Nat):Prop:=∃r L,v=.sl r 0 l.length 1/\H.get r=some (.cells (l.map (.int .u8)) L true)/\L<=l.length/\lo<=r/\r<H.next
def GE(H:Hp)(v:AV)(l:qu)(lo:Nat):Prop:=(v=.ah/\l=[])\/mc H v l lo
def mc.bP(h:mc H v l lo)(C:H.next<=H'.next)(J:∀k,lo<=k->k<H.next->H'.get k=H.get k):mc H' v l lo:=by
 obtain⟨r,L,i,g,m,U,M⟩:=h;exact⟨r,L,i,by rw[J r U M];exact g,m,U,ac⟩
def mc.lt(h:mc H v l lo)(j:bc v k):lo<=k/\k<H.next:=by
 obtain⟨r,L,rfl,_,_,U,M⟩:=h;obtain⟨n,e⟩:=j;simp only[AV.sl.injEq]at e;rw[<-e.1];exact⟨U,M⟩
def mc.keep(h:mc H v l lo)(C:H.next<=H'.next)(J:∀k,bc v k->H'.get k=H.get k):mc H' v l lo:=by
 obtain⟨r,L,rfl,g,m,U,M⟩:=h;exact⟨r,L,rfl,CD,m,U,ac⟩
def LS(l:qu):(l.map (AV.int .u8)).all AV.one=true:=by simp[AV.one]
def Y0{imm:Nat}(h:H.get r=some (.cells (m.map (.int .u8)) imm true)):fN H 1 (.sl r 0 m.length 1)=some (m.length,m.map (.int .u8)):=by
 have:=tN (H:=H) (r:=r) (o:=0) (n:=m.length) (z:=1) (s:=1) h az;rw[this,fF,gZ az]
theorem Y1(Y:GE H v l lo)(V:lo<=H.next)(I:fN H 1 x=some (m.length,m.map (.int .u8)))(O:m≠[])(o:l.length+m.length<2^40):
 ∃z H',dm prog false H 38 38 v x=some (z,H')/\mc H' z (l++m) lo/\H'.next=H.next+1/\(∀k,k<lo->H'.get k=H.get k)/\pW v z H H':=by
 obtain⟨n,C⟩:∃n,m.length=n+1:=⟨m.length-1,CE⟩;have i:dX=70368744177664:=rfl;rw[C]at I;rcases Y with⟨rfl,rfl⟩|⟨r,L,rfl,Z,M,K,h5⟩
 .refine⟨.sl H.next 0 (n+1) 1,H.alloc (.cells (m.map (.int .u8)) 0 true),append_nil underlying38 FO FP FQ aG I (LS m) rfl kZ kZ,⟨H.next,0,tW,gR,ac,V,cI _⟩,rfl,fun k j=>eG,fun k j _=>eG,fun k j=>.inr ?_⟩;obtain⟨U,e⟩:=j;simp only[AV.sl.injEq]at e;omega
 .have J:ii false H 1 (.sl r 0 l.length 1)=H:=by
   unfold ii;simp only[Z,bO,dx,lW];have:Nat.blt l.length l.length=false:=by
    cases o:Nat.blt l.length l.length with
    |false=>rfl
    |true=>rw[j8]at o;omega
   simp[this]
  refine⟨.sl H.next 0 (l.length+(n+1)) 1,(H.aP r).alloc (.cells (l.map (.int .u8)++m.map (.int .u8)) (L-0) true),?_,⟨H.next,L,tW,?_,ca,V,cI _⟩,rfl,fun k j=>?_,fun k j g=>?_,fun k j=>.inr ?_⟩
  .simp only[dm,underlying38,FO,FP,FQ,show iR prog 38=true by kernel_rfl,I,LS,J,pP,bC,mC,mW,Z,dx,bO,lW,fF];rw[ay ⟨kZ,kZ,trivial,trivial,M⟩];simp
  .show((H.aP r).alloc _).get (H.aP r).next=_
   rw[aQ,ay rfl];simp
  .rw[aQ,af nI,hO,af ac]
  .rw[aQ,af nI,hO,af (fun e=>g ⟨_,mE⟩)]
  .obtain⟨U,e⟩:=j;simp only[AV.sl.injEq]at e;omega
def Y2{imm:Nat}(s:Int)(Z:GE H v l lo)(V:lo<=H.next)(M:H.get r=some (.cells [.int .u8 s] imm true))(o:l.length<2^39):
 ∃z H',dm prog false H 38 38 v (.sl r 0 1 1)=some (z,H')/\mc H' z (l++[s]) lo/\H'.next=H.next+1/\(∀k,k<lo->H'.get k=H.get k)/\pW v z H H':=
 Y1 Z V (Y0 (m:=[s]) M) az ca
def Y3(H:Hp)(n:Int):dW prog H 38 1 [(0,.int .u8 n)]=some (.sl H.next 0 1 1,H.alloc (.cells [.int .u8 n] 0 true)):=aG
theorem bin_shr{D:BinOp->Sx->Sx->qF}{t:TypeId}{k V:IntKind}{a:Int}{m:Nat}(h:m<64)(j:k=.u64):em prog D .shr t (.int k a) (.int V (m:Int))=some (.int k (a.fdiv (2^ m))):=by
 subst j;have e:em prog D .shr t (.int .u64 a) (.int V (Int.ofNat m))=some (.int .u64 (a.fdiv (2^ min m 64))):=rfl;rw[show min m 64=m by omega]at e;exact e
def mL(n:Int)(i:Nat):Int:=IntKind.wrap .u8 (n.fdiv (2^ (8*i)))
def js(n:Int)(i:Nat):qu:=(List.range i).map (mL n)
def sJ(n:Int)(i:Nat):(js n i).length=i:=by simp[js]
def Y4(n:Int)(i:Nat):js n (i+1)=js n i++[mL n i]:=by simp[js,List.range_succ]
def sK(l:qu):qw:=l.map fun n=>UInt8.ofNat n.toNat
end Go.Proofs.Ytbflaciihaijgaa
namespace Go.Ab
set_option maxRecDepth 20000
open Go
instance:DecidableEq Nd:=fun x y=>decidable_of_iff (x.op=y.op/\x.au=y.au/\x.ak=y.ak) (by cases x;cases y;simp)
variable{l:qy}{i m:Nat}{n:Nd}
def ek(op:Int):Int×Bool:=
 if op=1\/op=2\/op=3\/op=26 then (0,true)
 else if op=20\/op=21\/op=24\/op=25 then (1,true)
 else if op=23\/op=27\/op=29 then (2,true)
 else if op=22\/op=28 then (3,true)
 else if op=30\/op=31 then (-1,true)
 else if 4<=op/\op<=19 then (2,true)
 else (0,false)
def et(n:Int):Int:=(n-1).tdiv 2
def xD(l:qy)(k:Int):Int:=match l[k.toNat]? with
 |some n=>n.ak.length
 |none=>0
def iW(l:qy)(n:Nd):Int:=
 if n.op=2 then 5 else if n.op=3 then 255 else if n.op=23\/n.op=28 then 3 else if n.op=30 then 7 else if n.op=31 then 15
 else if n.op=25 then et (xD l (n.ak.headD 0))-1 else 0
def eu(l:qy)(n:Nd):Bool:=
 if n.op=1 then true
 else if n.op=27 then decide (1<=n.au)&&decide (n.au<=1000016)
 else decide (0<=n.au)&&decide (n.au<=iW l n)
def il(op:Int):qu:=
 if op=22 then [1,1,1]else if op=23\/op=27\/op=29 then [2,1]else if op=28 then [2,1,1]else if op=24 then [2]else if op=25 then [3]else [1,1]
def eW:qu->qu->Bool
 |[],_=>true
 |a::s,w=>decide (a=w.headD 0)&&eW s w.tail
def lK(n:Nat):qu:=((List.replicate n (1:Int)).set 0 2).set (et n+1).toNat 2
def dJ(op:Int)(s:qu):Bool:=
 if (ek op).2=false then false
 else if 0<=(ek op).1/\(ek op).1≠s.length then false
 else if op=31 then decide (3<=s.length)&&decide (s.length%2=1)&&decide (et s.length<=16)&&eW s (lK s.length)
 else if op=30 then decide (1<=s.length)&&decide (s.length<=7)&&decide (s.headD 0=2)&&s.tail.all fun x=>decide (x=1)
 else if op=22/\s.getD 1 0=2 then decide (s.headD 0=1)&&decide (s.getD 2 0=2)
 else eW s (il op)
def fy(i:Nat)(L:qu):qu->Option qu
 |[]=>some []
 |k::ks=>if k<0\/(i:Int)<=k\/L.getD k.toNat 0=0 then none else (fy i L ks).map fun s=>L.getD k.toNat 0::s
def je(n:Nd)(s:qu):Int:=
 if n.op=31 then 3
 else if n.op=26\/n.op=27\/n.op=28\/n.op=29\/n.op=30 then 2
 else if n.op=22 then s.getD 1 0
 else if n.op=3/\n.au.tmod 16=0 then 2
 else if n.op=25/\n.au=0 then 2
 else 1
def jT(l:qy)(i:Nat)(L:qu):Int:=match l[i]? with
 |none=>0
 |some n=>match fy i L n.ak with
  |none=>0
  |some s=>if dJ n.op s&&eu l n then je n s else 0
def eF(l:qy):Nat->qu
 |0=>[]
 |i+1=>eF l i++[jT l i (eF l i)]
def dh(l:qy)(i:Int):Int:=if i<0\/(l.length:Int)<=i then 0 else (eF (l.take (i.toNat+1)) (i.toNat+1)).getD i.toNat 0
theorem pY(l:qy):∀i,(eF l i).length=i
 |0=>rfl
 |i+1=>by rw[eF,fg,pY l i];rfl
theorem GF(l:qy):∀{i j:Nat},j<i->(eF l i).getD j 0=jT l j (eF l j)
 |0,j,h=>by omega
 |i+1,j,h=>by
  rw[eF];by_cases e:j<i
  .rw[dF,iw (by rw[pY];exact e),<-dF];exact GF l e
  .obtain rfl:j=i:=by omega
   rw[dF,kN (by rw[pY];omega),pY,lU];rfl
theorem ub{i:Nat}{L:qu}:∀{Z s:qu},fy i L Z=some s->∀k∈Z,0<=k/\k<i/\L.getD k.toNat 0≠0
 |[],s,_,k,h=>by simp at h
 |a::Z,s,h,k,j=>by
  rw[fy]at h;split at h
  .cases h
  .rename_i c;obtain⟨t,U,_⟩:=pK.1 h;rcases gE.1 j with rfl|j
   .omega
   .exact ub U k j
theorem zy{i:Nat}{L:qu}:∀{Z s:qu},fy i L Z=some s->s.length=Z.length
 |[],s,h=>by cases h;rfl
 |a::Z,s,h=>by
  rw[fy]at h;split at h
  .cases h
  .obtain⟨t,U,rfl⟩:=pK.1 h;rw[eT,eT,zy U]
def GG{L:qu}(C:l[i]?=some n)(h:jT l i L≠0):∃s,fy i L n.ak=some s/\dJ n.op s=true/\eu l n=true:=by
 unfold jT at h;rw[C]at h;simp only at h;split at h
 .exact absurd rfl h
 .rename_i s M;split at h
  .rename_i c;rw[co]at c;exact⟨s,M,c.1,c.2⟩
  .exact absurd rfl h
def LU(h:n.op=25->∃k L,n.ak=k::L/\k.toNat<m):eu (l.take m) n=eu l n:=by
 have e:iW (l.take m) n=iW l n:=by
  unfold iW;by_cases c:n.op=25
  .obtain⟨k,L,i,g⟩:=h c;rw[c];simp only[i,zn,xD,rx,g,bC]
  .simp only[c,bH]
 unfold eu;rw[e]
theorem Y5(O:i<m)(L:qu):jT (l.take m) i L=jT l i L:=by
 unfold jT;rw[rx,ay O];cases C:l[i]? with
 |none=>rfl
 |some n=>
  simp only;cases j:fy i L n.ak with
  |none=>rfl
  |some s=>
   simp only;by_cases c:dJ n.op s=true
   .have e:eu (l.take m) n=eu l n:=LU fun Z=>by
     have K:=zy j;have V:s.length=1:=by
      have c2:=c;unfold dJ at c2;rw[Z]at c2;have:ek 25=(1,true):=aM;rw[this]at c2;simp only at c2;split at c2
      .cases c2
      .split at c2
       .cases c2
       .omega
     cases Y:n.ak with
     |nil=>rw[Y,V]at K;simp at K
     |cons k M=>
      refine⟨k,M,rfl,?_⟩;have:=ub j k (by rw[Y];exact ei);omega
    rw[e]
   .have U:dJ n.op s=false:=by simpa using c
    rw[U,jS,jS]
theorem GH{l:qy}{m:Nat}:∀{i:Nat},i<=m->eF (l.take m) i=eF l i
 |0,_=>rfl
 |i+1,h=>by rw[eF,eF,GH (by omega:i<=m),Y5 ac]
def vN(h:i<l.length):dh l i=jT l i (eF l i):=by
 unfold dh;rw[af ac,iK,GH (aO _),GF l (cI i)]
def CN{j:Nat}(m:j<i)(z:i<=l.length):(eF l i).getD j 0=dh l j:=by
 rw[GF l m,vN ac]
def zA{m:qy}(h:i<l.length):dh (l++m) i=dh l i:=by
 unfold dh;rw[af ca,af ac,iK,Bm ac]
def vO(k:qu):Bool:=k.all fun x=>decide (x=1)
theorem GI:∀(s w:qu),s.length<=w.length->(∀x∈w,x=1)->eW s w=vO s
 |[],w,_,_=>by simp[eW,vO]
 |a::s,[],h,_=>by simp at h
 |a::s,b::w,h,hw=>by
  have o:=hw b ei;subst o;rw[eW,zn,List.tail_cons,GI s w i9 (fun x I=>hw x (ej _ I))];simp[vO]
theorem CO(a b:Int)(s w:qu):eW (a::s) (b::w)=(decide (a=b)&&eW s w):=rfl
def Y6(n m:Nat)(h:m<n):(List.replicate n (1:Int)).set m 2=List.replicate m 1++2::List.replicate (n-m-1) 1:=by
 apply List.ext_getElem?;intro i;rw[BB,List.getElem?_append];simp only[pq];by_cases c:i<m
 .rw[af ac,ay c,xB,xB,ay ac,ay c]
 .rw[af c];by_cases e:m=i
  .subst e;simp[h]
  .rw[af e];obtain⟨j,rfl⟩:∃j,i=m+1+j:=⟨i-m-1,ac⟩;rw[show m+1+j-m=j+1 by omega,vC,xB,xB];by_cases g:m+1+j<n
   .rw[ay g,ay ac]
   .rw[af g,af ac]
theorem LV:∀(a s w v:qu),a.length=w.length->eW (a++s) (w++v)=(eW a w&&eW s v)
 |[],s,[],v,_=>by simp[eW]
 |x::a,s,y::w,v,h=>by
  rw[sE,sE,CO,CO,LV a s w v i9,zo]
 |[],_,_::_,_,h=>by simp at h
 |_::_,_,[],_,h=>lY
theorem CP(n:Nat)(h:1<=n):et n=((n-1)/2:Nat):=by
 unfold et;rw[show(n:Int)-1=((n-1:Nat):Int) by omega];rfl
theorem Y7(s:qu)(h:3<=s.length)(C:s.length%2=1):eW s (lK s.length)=(decide (s.headD 0=2)&&vO ((s.drop 1).take (s.length/2))&&decide (s.getD (s.length/2+1) 0=2)&&vO (s.drop (s.length/2+2))):=by
 obtain⟨m,Z⟩:∃m,s.length=2*m+1:=⟨s.length/2,ac⟩;have L:1<=m:=ac;have o:s.length/2=m:=ac;have J:(et s.length+1).toNat=m+1:=zm;have K:lK s.length=2::(List.replicate m 1++2::List.replicate (m-1) 1):=by
  unfold lK;rw[J,Z];have U:List.replicate (2*m+1) (1:Int)=1::List.replicate (2*m) 1:=rfl;rw[U,List.set_cons_zero,List.set_cons_succ,Y6 _ _ ac]
  congr 4;omega
 rw[K,o]
 match s,Z with
 |a::t,Z=>
  have z:t.length=2*m:=wV;rw[CO,zn,zg,fF];have hd:t=t.take m++t.drop m:=(ED m t).symm;have O:(t.take m).length=m:=vd
  conv=>lhs;rw[hd]
  rw[LV _ _ _ _ (by rw[O];simp),GI (t.take m) _ (by rw[O];simp) (fun x I=>CH I)];have M:(a::t).getD (m+1) 0=t.getD m 0:=rfl;have Y:(a::t).drop (m+2)=t.drop (m+1):=rfl;rw[M,Y];have V:t.drop m=t.getD m 0::t.drop (m+1):=by
   rw[eU ac,dF,a0 ac];rfl
  rw[V,CO,GI (t.drop (m+1)) _ ca (fun x I=>CH I),zo,zo]
def Y8{J:Type}{s:List J}(h:s.length=1):∃a,s=[a]:=by
 match s,h with
 |[a],_=>exact⟨a,rfl⟩
def Y9{J:Type}{s:List J}(h:s.length=3):∃a b c,s=[a,b,c]:=by
 match s,h with
 |[a,b,c],_=>exact⟨a,b,c,rfl⟩
end Go.Ab
namespace Go.Proofs.Ytbflaciihaijgaa
set_option maxRecDepth 20000
open Go Go.Ab Proofs.Try
variable(ρ:Nat->Int)
variable{l:qA}{s:qu}
section
def tyR3b.tyF:=ad @cR (ad @dt (ad @fb (ad @eA (ad @fc (ad @fG (@ez))))))
open tyR3b
noncomputable def LW:{c:SC // aI 22 (f113.body.getD .skip)=c}:=by
 refine⟨?_,?_⟩;rotate_left
 .simp only[f113,bS,aI,bM,bI,bT,bU,Nat.blt,Nat.ble];rfl
noncomputable def LX:{c:SC // aI 78 (f111.body.getD .skip)=c}:=by
 refine⟨?_,?_⟩;rotate_left
 .simp only[f111,bS,aI,bM,bI,bT,bU,Nat.blt,Nat.ble];rfl
mutual
def cX:Ex->Nat
 | .mk _ _ _ _ L=>jt L
def jt:qG->Nat
 |[]=>0
 |e::es=>max (1+cX e) (jt es)
end
theorem Za(x:Ex):cX x=jt x.ak:=by cases x;rw[cX];rfl
mutual
theorem LY:∀x:Ex,cX x<=x.sz
 | .mk _ _ _ _ L=>by have:=LZ L;simp only[cX,Ex.sz];omega
theorem LZ:∀l:qG,jt l<=eD l
 |[]=>aO _
 |e::es=>by have:=LY e;have:=LZ es;simp only[jt,eD];omega
end
def ju(x:Ex):qs:=[.agg x.cells]
def pZ(x y:Ex)(h:ju x=ju y):x=y:=by simp only[ju,dR,AV.agg.injEq,aU]at h;exact Ex.inj h
def mM(l:qD):qs:=[.ao (l.map St.cells)]
def xE(x y:qD)(h:mM x=mM y):x=y:=by simp only[mM,dR,AV.ao.injEq,aU]at h;exact CA h
def Zb:∀x:Ex,x.sz<2^60->bX prog ρ 113 [.agg x.cells] (.int .i64 (cX x)):=
 vG fit (pls:=pls) (l:=[]) trivial (fun x=>x.sz) (ok:=fun x=>x.sz<2^60) (enc:=ju) (out:=fun x=>.int .i64 (cX x)) (fun x _=>.cons (.agg x.pure) .nil) (fun x _=>.int _ _) (fun x hx=>by
 have L:=vJ (sz:=fun x:Ex=>x.sz) (ok:=fun x=>x.sz<2^60) (out:=fun x=>.int .i64 (cX x)) pZ (f:=113) (l:=[]) x;generalize hl:(⟨113,false,ch (fun y=>y.sz<2^60/\y.sz<x.sz) ju fun x=>.int .i64 (cX x)⟩:En)::[]=l at L⊢;have kr:∀y:Ex,y.sz<2^60->y.sz<x.sz->∀H,aY prog (aH pls l) 113 [.agg y.cells] H fun v H'=>v=.int .i64 (cX y)/\H'=H:=fun y C j H=>by
  subst hl;exact cF (enc:=ju) (out:=fun x=>.int .i64 (cX x)) pZ (x:=y) rfl ⟨C,j⟩
 have hsz:=x.aM;have I:=ph x.ak;have hlk:x.ak.length<2^60:=ac;have hdl:=LY x;change aY _ _ _ [.agg x.cells] _ _;refine bF (M:=22) (rs:=[.tmp 2]) L.call L.aD L.aq func113 rfl rfl LW.2 rfl ?_;dsimp only[LW,bA,Nat.reduceAdd];repeat' (first
  |(apply aj ?_;clear hK K)|apply Rx.o ?_|(apply aA (fun o g=>?_) (fun o g=>?_)<;>try(cases o;done))|apply ah ?_|(apply ai fun K hK=>?_)|apply ak ?_|apply am ?_|apply aq ?_|apply aw ?_)
 refine cA [1] [0] 4 x.ak.length (fun i E H=>∃m:Nat,E.at 3=.int .i64 m/\max m (jt (x.ak.drop i))=cX x) eE ⟨0,eE,by simp[Za]⟩ ?_;rintro i E J hi Y V U hsI ⟨m,k3,Z⟩;(try simp only[bp,bm,aU,aF,aW,Nat.reduceBEq,Nat.reduceAdd,Nat.reduceLeDiff,tyF, *]at Y);(try simp only[bp,bm,aU,aF,aW,Nat.reduceBEq,Nat.reduceAdd,Nat.reduceLeDiff,tyF, *]at V);(try simp only[bj,bE,cm,bO,Nat.reduceAdd]at U);have hB0:(0 == J.next)=false:=bz ac;have hC0:(J.next == 0)=false:=bz ac;repeat' (first
  |(apply aj ?_;clear hK K)|apply Rx.o ?_|(apply aA (fun o g=>?_) (fun o g=>?_)<;>try(cases o;done))|apply ah ?_|(apply ai fun K hK=>?_)|apply ak ?_|apply am ?_|apply aq ?_|apply aw ?_)
 .have z:i<x.ak.length:=by simpa using o
  have hgx:x.ak[i]?=some x.ak[i]:=a0 z;have hm:=ou (cL z);have O:jt (x.ak.drop i)=max (1+cX x.ak[i]) (jt (x.ak.drop (i+1))):=nH;have hwr:IntKind.wrap .i64 (1+(cX x.ak[i]:Int))=((1+cX x.ak[i]:Nat):Int):=CG;repeat' (first
   |(apply aj ?_;clear hK K)|apply Rx.o ?_|(apply eC ?_;first|refine bi (kr _ ac ac _) ?_)|(apply aA (fun o g=>?_) (fun o g=>?_)<;>try(cases o;done))|apply ah ?_|(apply ai fun K hK=>?_)|apply ak ?_|apply am ?_|apply aq ?_|apply aw ?_)
  refine⟨ac,a2,a2,ce,Gl,?_⟩;exact⟨max m (1+cX x.ak[i]),by simp only[aF,Nat.reduceBEq];congr 1;omega,by rw[<-Z,O];omega⟩
 .all_goals refine qq ?_
  rw[show i=x.ak.length by simp at o;omega,fU]at Z;simp[jt]at Z;rw[Z])
mutual
def dy:St->Nat
 | .mk _ _ _ _ _ _ _ L M=>1+nS L+nS M
def nS:qD->Nat
 |[]=>0
 |x::l=>dy x+nS l
end
mutual
def dd:St->Nat
 | .mk k _ _ _ _ _ _ L M=>(if k=4 then 1 else 0)+da L+da M
def da:qD->Nat
 |[]=>0
 |x::l=>dd x+da l
end
mutual
def cz:St->Nat->Nat
 | .mk _ _ _ _ _ _ _ L M,d=>max d (max (eJ L (d+1)) (eJ M (d+1)))
def eJ:qD->Nat->Nat
 |[],_=>0
 |x::l,d=>max (cz x d) (eJ l d)
end
theorem Zc(x:St):dy x=1+nS x.a5+nS x.a6:=by cases x;rw[dy];rfl
theorem zB(x:St):dd x=(if x.am=4 then 1 else 0)+da x.a5+da x.a6:=by cases x;rw[dd];rfl
theorem Zd(x:St)(d:Nat):cz x d=max d (max (eJ x.a5 (d+1)) (eJ x.a6 (d+1))):=by cases x;rw[cz];rfl
mutual
theorem Ze:∀x:St,dy x<=x.sz
 | .mk _ _ _ _ _ _ _ L M=>by have:=CQ L;have:=CQ M;simp only[dy,St.sz];omega
theorem CQ:∀l:qD,nS l<=bN l
 |[]=>aO _
 |x::l=>by have:=Ze x;have:=CQ l;simp only[nS,bN];omega
end
mutual
theorem Zf:∀x:St,dd x<=x.sz
 | .mk k _ _ _ _ _ _ L M=>by have:=CR L;have:=CR M;simp only[dd,St.sz];split<;>omega
theorem CR:∀l:qD,da l<=bN l
 |[]=>aO _
 |x::l=>by have:=Zf x;have:=CR l;simp only[da,bN];omega
end
mutual
theorem Zg:∀(x:St) (d:Nat),cz x d<=d+x.sz
 | .mk _ _ _ _ _ _ _ L M,d=>by have:=CS L (d+1);have:=CS M (d+1);simp only[cz,St.sz];omega
theorem CS:∀(l:qD) (d:Nat),eJ l d<=d+bN l
 |[],_=>dN _
 |x::l,d=>by have:=Zg x d;have:=CS l d;simp only[eJ,bN];omega
end
def iN{z:Int}(h1:-9223372036854775808<=z)(h2:z<9223372036854775808):IntKind.wrap .i64 z=z:=yx _ ac
def sM(x:qD×Nat):qs:=[.ao (x.1.map St.cells),.int .i64 x.2]
def GJ(x y:qD×Nat)(h:sM x=sM y):x=y:=by
 simp only[sM,dR,AV.ao.injEq,AV.int.injEq,px]at h;exact pw (CA h.1) ac
def ud(x:qD×Nat):AV:=.aS [.int .i64 (nS x.1),.int .i64 (da x.1),.int .i64 (eJ x.1 x.2)]
theorem L0(a b c:AV):Ab.extract (.aS [a,b,c]) 0=some a:=rfl
theorem L2(a b c:AV):Ab.extract (.aS [a,b,c]) 1=some b:=rfl
theorem L3(a b c:AV):Ab.extract (.aS [a,b,c]) 2=some c:=rfl
def Zh:∀x:qD×Nat,bN x.1+x.2<2^60->bX prog ρ 111 (sM x) (ud x):=
 vG fit (pls:=pls) (l:=[]) trivial (fun x=>bN x.1) (ok:=fun x=>bN x.1+x.2<2^60) (enc:=sM) (out:=ud) (fun x _=>.cons (zi _) (.cons (.int _ _) .nil)) (fun x _=>.aS (.cons (.int _ _) (.cons (.int _ _) (.cons (.int _ _) .nil)))) (fun x I=>by
 have L:=vJ (sz:=fun x:qD×Nat=>bN x.1) (ok:=fun x=>bN x.1+x.2<2^60) (out:=ud) GJ (f:=111) (l:=[]) x;generalize hl:(⟨111,false,ch (fun y=>bN y.1+y.2<2^60/\bN y.1<bN x.1) sM ud⟩:En)::[]=l at L⊢;obtain⟨x,d⟩:=x;have kr:∀(y:qD),bN y<bN x->∀H,aY prog (aH pls l) 111 [.ao (y.map St.cells),.int .i64 ((d+1:Nat):Int)] H fun v H'=>v=.aS [.int .i64 (nS y),.int .i64 (da y),.int .i64 (eJ y (d+1))]/\H'=H:=fun y j H=>by
  subst hl;exact cF (enc:=sM) (out:=ud) GJ (x:=(y,d+1)) rfl ⟨by simp only[]at I⊢;omega,j⟩
 simp only[]at I;have C:=tR x;have hn:=CQ x;have hwl:=CR x;have hm:=CS x d;have hwd:IntKind.wrap .i64 ((d:Int)+1)=((d+1:Nat):Int):=CG;change aY _ _ _ [.ao (x.map St.cells),.int .i64 d] _ _;refine bF (M:=78) (rs:=[.tmp 4,.tmp 5,.tmp 6]) L.call L.aD L.aq func111 rfl rfl LX.2 rfl ?_;dsimp only[LX,bA,Nat.reduceAdd];repeat' (first
  |(apply aj ?_;clear hK K)|apply Rx.o ?_|(apply aA (fun o g=>?_) (fun o g=>?_)<;>try(cases o;done))|apply ah ?_|(apply ai fun K hK=>?_)|apply ak ?_|apply am ?_|apply aq ?_|apply aw ?_)
 refine cA [0,1] [] 10 x.length (fun i E H=>∃a b m:Nat,E.at 7=.int .i64 a/\E.at 8=.int .i64 b/\E.at 9=.int .i64 m/\a+nS (x.drop i)=nS x/\b+da (x.drop i)=da x/\max m (eJ (x.drop i) d)=eJ x d) eE ⟨0,0,0,eE,eE,eE,az,az,az⟩ ?_;rintro i E H2 hi V U O hsI ⟨a,b,m,k7,k8,k9,J,Z,Y⟩;(try simp only[bp,bm,aU,aF,aW,Nat.reduceBEq,Nat.reduceAdd,Nat.reduceLeDiff,tyF, *]at V);(try simp only[bp,bm,aU,aF,aW,Nat.reduceBEq,Nat.reduceAdd,Nat.reduceLeDiff,tyF, *]at U);(try simp only[bj,bE,cm,bO,Nat.reduceAdd]at O);repeat' (first
  |(apply aj ?_;clear hK K)|apply Rx.o ?_|(apply aA (fun o g=>?_) (fun o g=>?_)<;>try(cases o;done))|apply ah ?_|(apply ai fun K hK=>?_)|apply ak ?_|apply am ?_|apply aq ?_|apply aw ?_)
 .have z:i<x.length:=by simpa using o
  have hgx:x[i]?=some x[i]:=a0 z;have hsm:=pi (cL z);have hsz:=x[i].aM;have d1:nS (x.drop i)=dy x[i]+nS (x.drop (i+1)):=nH;have d2:da (x.drop i)=dd x[i]+da (x.drop (i+1)):=nH;have d3:eJ (x.drop i) d=max (cz x[i] d) (eJ (x.drop (i+1)) d):=nH;rw[Zc]at d1;rw[zB]at d2;rw[Zd]at d3;have gh0:=@L0;have gh1:=@L2;have gh2:=@L3;repeat' (first
   |(apply aj ?_;clear hK K)|apply Rx.o ?_|(apply eC ?_;first|refine bi (kr _ ac _) ?_)|(apply aA (fun o g=>?_) (fun o g=>?_)<;>try(cases o;done))|apply ah ?_|(apply ai fun K hK=>?_)|apply ak ?_|apply am ?_|apply aq ?_|apply aw ?_)
  all_goals
   refine⟨ac,a2,a2,ce,tX,?_⟩;refine⟨a+1+nS x[i].a5+nS x[i].a6,b+(if x[i].am=4 then 1 else 0)+da x[i].a5+da x[i].a6,max (max m d) (max (eJ x[i].a5 (d+1)) (eJ x[i].a6 (d+1))),?_,?_,?_,ac,ac,ac⟩
   .simp only[aF,Nat.reduceBEq]
    congr 1
    simp (disch:=omega) only[iN];omega
   .simp only[aF,Nat.reduceBEq]
    congr 1
    simp (disch:=omega) only[iN, *];simp;try omega
   .simp only[aF,Nat.reduceBEq]
    congr 1
    omega
 .all_goals refine qq ?_
  rw[show i=x.length by simp at o;omega,fU]at J Z Y;simp[nS,da,eJ]at J Z Y;simp only[ud,J,Z,Y])
end
section
def tyI1.tyF:=ad @cR (ad @fP (@tL))
open tyI1
noncomputable def L4:{c:SC // aI 31 (f20.body.getD .skip)=c}:=by
 refine⟨?_,?_⟩;rotate_left
 .simp only[f20,bS,aI,bM,bI,bT,bU,Nat.blt,Nat.ble];rfl
noncomputable def L5:{c:SC // aI 6 (f97.body.getD .skip)=c}:=by
 refine⟨?_,?_⟩;rotate_left
 .simp only[f97,bS,aI,bM,bI,bT,bU,Nat.blt,Nat.ble];rfl
noncomputable def L6:{c:SC // aI 22 (f146.body.getD .skip)=c}:=by
 refine⟨?_,?_⟩;rotate_left
 .simp only[f146,bS,aI,bM,bI,bT,bU,Nat.blt,Nat.ble];rfl
noncomputable def L7:{c:SC // aI 21 (f144.body.getD .skip)=c}:=by
 refine⟨?_,?_⟩;rotate_left
 .simp only[f144,bS,aI,bM,bI,bT,bU,Nat.blt,Nat.ble];rfl
noncomputable def L8:{c:SC // aI 21 (f145.body.getD .skip)=c}:=by
 refine⟨?_,?_⟩;rotate_left
 .simp only[f145,bS,aI,bM,bI,bT,bU,Nat.blt,Nat.ble];rfl
def mN(op:Int):AV:=.aS [.int .i64 (ek op).1,.bool (ek op).2]
def Zi(op:Int):fu (mN op):=.aS (.cons (.int _ _) (.cons (.bool _) .nil))
theorem Zj(op:Int):bX prog ρ 20 [.int .i64 op] (mN op):=eg fit (pls:=pls) (l:=[]) trivial (.cons (.int _ _) .nil) (Zi op) (by
 have L:=fj 20;refine bF (M:=31) (rs:=[.tmp 2,.tmp 3]) (L.call _) L.aD L.aq func20 rfl rfl L4.2 rfl ?_;dsimp only[L4,bA,Nat.reduceAdd];repeat' (first
  |(apply aj ?_;clear hK K)|apply Rx.o ?_|(apply aX (fun J g=>?_) (fun J g=>?_)<;>try(cases J;done))|(apply aA (fun o Z=>?_) (fun o Z=>?_)<;>try(cases o;done))|apply ah ?_|(apply ai fun K hK=>?_)|apply ak ?_|apply am ?_|apply aq ?_)
 all_goals
  refine⟨aD,_,oq,?_⟩;try simp only[aC]
  first
  |(simp_all[mN,ek];done)
  |(unfold mN ek;rw[af ac,af ac,af ac,af ac,af ac,af ac];done))
def GK(n:Nat):(0:Int)<=et n/\et n<=n:=by
 by_cases h:n=0
 .subst h;decide
 .rw[CP n ac];omega
def Zk(n:Nat)(C:n<2^60):bX prog ρ 97 [.int .i64 n] (.int .i64 (et n)):=eg fit (pls:=pls) (l:=[]) trivial (.cons (.int _ _) .nil) (.int _ _) (by
 have L:=fj 97;have Z:(2:Int)≠0:=aM;have o:IntKind.wrap .i64 ((n:Int)-1)=(n:Int)-1:=iN ac ac;refine bF (M:=6) (rs:=[.tmp 2]) (L.call _) L.aD L.aq func97 rfl rfl L5.2 rfl ?_;dsimp only[L5,bA,Nat.reduceAdd];repeat' (first
  |(apply aj ?_;clear hK K)|apply Rx.o ?_|apply ah ?_|(apply ai fun K hK=>?_)|apply aq ?_)
 all_goals refine qq ?_
 rw[et];rw[iN (by have:=(GK n).1;unfold et at this;omega) (by have:=(GK n).2;unfold et at this;omega)])
def Zl(H:Hp)(a b c:Int):dW prog H 22 3 [(0,.int .i64 a),(1,.int .i64 b),(2,.int .i64 c)]=some (.sl H.next 0 3 1,H.alloc (.cells [.int .i64 a,.int .i64 b,.int .i64 c] 0 true)):=aG
def Zm(H:Hp)(a b:Int):dW prog H 22 2 [(0,.int .i64 a),(1,.int .i64 b)]=some (.sl H.next 0 2 1,H.alloc (.cells [.int .i64 a,.int .i64 b] 0 true)):=aG
def GL(H:Hp)(a:Int):dW prog H 22 1 [(0,.int .i64 a)]=some (.sl H.next 0 1 1,H.alloc (.cells [.int .i64 a] 0 true)):=aG
theorem Zn(op:Int):bX prog ρ 146 [.int .i64 op] (gh (il op)):=vF (m:=3) (cfg:=aH pls []) fit (rD ρ) (fun f C r h=>by simp[aH,cV]at h) (.cons (.int _ _) .nil) (by
 have L:=fj 146;refine bF (M:=22) (rs:=[.tmp 2]) (L.call _) L.aD L.aq func146 rfl rfl L6.2 rfl ?_;dsimp only[L6,bA,Nat.reduceAdd];have I:=@Zl;have U:=@Zm;have V:=@GL;repeat' (first
  |(apply aj ?_;clear hK K)|apply Rx.o ?_|(apply aA (fun o g=>?_) (fun o g=>?_)<;>try(cases o;done))|apply ah ?_|(apply ai fun K hK=>?_)|apply ak ?_|apply am ?_|apply aq ?_)
 all_goals
  all_goals refine qq ?_
  simp_all[il];rfl)
def Zo(s w:qu)(i:Nat)(z:i<s.length)(K:s.length<=w.length):eW (s.drop i) (w.drop i)=(decide (s.getD i 0=w.getD i 0)&&eW (s.drop (i+1)) (w.drop (i+1))):=by
 rw[eU z,eU (l:=w) ac,eW];simp[dF,a0 z,a0 (show i<w.length by omega)]
def vP(x:qu×qu):qs:=[gh x.1,gh x.2]
def GM{a b:qu}(h:gh a=gh b):a=b:=by
 simp only[gh,AV.ao.injEq]at h;exact Lj h
def Zp(x y:qu×qu)(h:vP x=vP y):x=y:=by
 simp only[vP,dR,aU]at h;exact pw (GM h.1) (GM h.2)
theorem Zq(x:qu×qu)(C:x.1.length<=x.2.length/\x.2.length<2^60):bX prog ρ 144 (vP x) (.bool (eW x.1 x.2)):=eg fit (pls:=pls) (l:=[]) trivial (.cons (zj _) (.cons (zj _) .nil)) (.bool _) (by
 obtain⟨s,w⟩:=x;obtain⟨I,o⟩:=C;simp only[]at I o;have J:=fj 144;rw[vP];simp only[];refine bF (M:=21) (rs:=[.tmp 4]) (J.call _) J.aD J.aq func144 rfl rfl L7.2 rfl ?_;dsimp only[L7,bA,Nat.reduceAdd];repeat' (first
  |(apply aj ?_;clear hK K)|apply Rx.o ?_|(apply aA (fun o g=>?_) (fun o g=>?_)<;>try(cases o;done))|apply ah ?_|(apply ai fun K hK=>?_)|(apply au 4 [(3,9),(7,9)] fun K hK=>?_)|(apply aS ?_;try intro _)|(apply aT ?_ ?_<;>clear hK K)|apply aR ?_|apply ak ?_|apply am ?_|apply aq ?_|apply aw ?_)
 refine cA [0,1] [] 5 s.length (fun i E H=>eW s w=eW (s.drop i) (w.drop i)) eE az ?_;rintro i E H2 hi m V U j O;(try simp only[bp,bm,aU,aF,aW,Nat.reduceBEq,Nat.reduceAdd,Nat.reduceLeDiff,tyF, *]at m);(try simp only[bp,bm,aU,aF,aW,Nat.reduceBEq,Nat.reduceAdd,Nat.reduceLeDiff,tyF, *]at V);(try simp only[bj,bE,cm,bO,Nat.reduceAdd]at U);repeat' (first
  |(apply aj ?_;clear hK K)|apply Rx.o ?_|(apply aA (fun o g=>?_) (fun o g=>?_)<;>try(cases o;done))|apply ah ?_|(apply ai fun K hK=>?_)|(apply au 4 [(3,9),(7,9)] fun K hK=>?_)|(apply aS ?_;try intro _)|(apply aT ?_ ?_<;>clear hK K)|apply aR ?_|apply ak ?_|apply am ?_|apply aq ?_|apply aw ?_)
 .have z:i<s.length:=by simpa using o
  have Z:s[i]?=some s[i]:=a0 z;have L:w[i]?=some w[i]:=a0 ac;have Y:=Zo s w i z I;repeat' (first
   |(apply aj ?_;clear hK K)|apply Rx.o ?_|(apply aA (fun o g=>?_) (fun o g=>?_)<;>try(cases o;done))|apply ah ?_|(apply ai fun K hK=>?_)|(apply au 4 [(3,9),(7,9)] fun K hK=>?_)|(apply aS ?_;try intro _)|(apply aT ?_ ?_<;>clear hK K)|apply aR ?_|apply ak ?_|apply am ?_|apply aq ?_|apply aw ?_)
  .exact di
  .all_goals refine qq ?_
   rw[O,Y,dF,dF,Z,L];simp_all
  .refine⟨ac,a2,a2,ce,zl,?_⟩;rw[O,Y,dF,dF,Z,L];simp_all
 .all_goals refine qq ?_
  rw[O,show i=s.length by simp at o;omega,fU];rfl)
noncomputable def GN:En:=⟨20,false,ch (fun _=>True) (fun n:Int=>[.int .i64 n]) mN⟩
def Zr:cT prog ρ GN:=dg fun n _=>Zj ρ n
def L9(x y:Int)(h:([.int .i64 x]:qs)=[.int .i64 y]):x=y:=i9
def vQ(n:Nat):qs:=[.int .i64 n]
def Ma(x y:Nat)(h:vQ x=vQ y):x=y:=by
 simp only[vQ,dR,AV.int.injEq,px]at h;omega
noncomputable def rM:En:=⟨97,false,ch (fun n=>n<2^60) vQ fun n=>.int .i64 (et n)⟩
def CT:cT prog ρ rM:=dg fun n C=>Zk ρ n C
def xF(K:∀o,cV l 97 o=rM.sp o)(n:Nat)(C:n<2^60)(H:Hp):aY prog (aH pls l) 97 [.int .i64 n] H fun v H'=>v=.int .i64 (et n)/\H'=H:=
 cF (enc:=vQ) (ok:=fun n=>n<2^60) (out:=fun n=>.int .i64 (et n)) Ma (x:=n) (K _) C
noncomputable def GO:En:=⟨146,false,ch (fun _=>True) (fun n:Int=>[.int .i64 n]) fun n=>gh (il n)⟩
def Zs:cT prog ρ GO:=dg fun n _=>Zn ρ n
def xG(x:qu×qu):Prop:=x.1.length<=x.2.length/\x.2.length<2^60
noncomputable def GP:En:=⟨144,false,ch xG vP fun x=>.bool (eW x.1 x.2)⟩
def Zt:cT prog ρ GP:=dg fun x I=>Zq ρ x I
theorem Zu(n:Nat)(h3:3<=n)(hn:n<2^30):bX prog ρ 145 [.int .i64 n] (gh (lK n)):=vF (m:=3) (cfg:=aH pls [rM]) fit (rD ρ) (gm.b2 ⟨CT ρ,trivial⟩) (.cons (.int _ _) .nil) (by
 have I:zd0 (aH pls [rM]) 145:=dG (fun _=>rfl) rfl;have hlv:=CP n ac;refine bF (M:=21) (rs:=[.tmp 2]) (I.call _) I.aD I.aq func145 rfl rfl L8.2 rfl ?_;dsimp only[L8,bA,Nat.reduceAdd];repeat' (first
  |(apply aj ?_;clear hK K)|apply Rx.o ?_|(apply aA (fun o g=>?_) (fun o g=>?_)<;>try(cases o;done))|apply ah ?_|(apply ai fun K hK=>?_)|apply ak ?_|apply am ?_|apply aq ?_|apply aw ?_)
 have Z:∀i,(List.replicate i (1:Int)).length=i:=fun i=>pq;have Y:(aH pls [rM]).keep 145=false:=rfl;refine cA [0,2] [] 4 n (fun i E H=>∃v,E.at 3=v/\ik H v (List.replicate i 1) 0) eE ⟨.ah,eE,.inl ⟨rfl,rfl⟩⟩ ?_;rintro i E V hi U O z hsI ⟨v,k3,L⟩;(try simp only[bp,bm,aU,aF,aW,Nat.reduceBEq,Nat.reduceAdd,Nat.reduceLeDiff,tyF, *]at U);(try simp only[bp,bm,aU,aF,aW,Nat.reduceBEq,Nat.reduceAdd,Nat.reduceLeDiff,tyF, *]at O);(try simp only[bj,bE,cm,bO,Nat.reduceAdd]at z);repeat' (first
  |(apply aj ?_;clear hK K)|apply Rx.o ?_|(apply aA (fun o g=>?_) (fun o g=>?_)<;>try(cases o;done))|apply ah ?_|(apply ai fun K hK=>?_)|apply ak ?_|apply am ?_|apply aq ?_|apply aw ?_)
 .have hlt:i<n:=by simpa using o
  have gh0:=@GL;repeat' (first
   |(apply aj ?_;clear hK K)|apply Rx.o ?_|(apply aA (fun o g=>?_) (fun o g=>?_)<;>try(cases o;done))|apply ah ?_|(apply ai fun K hK=>?_)|apply ak ?_|apply am ?_|apply aq ?_|apply aw ?_)
  have C:ik (V.alloc (.cells [.int .i64 1] 0 true)) v (List.replicate i 1) 0:=L.keep (dH _) fun k hk=>by rw[aQ,af (by have:=(L.n.lt hk).2;omega)]
  obtain⟨v5,H5,a5,s5,n5,f5,o5⟩:=YU (r:=V.next) (imm:=0) 1 C (dN _) gD (by rw[Z];omega);refine jr cS cS (by rw[Y];exact a5) ?_;repeat' (first
   |(apply aj ?_;clear hK K)|apply Rx.o ?_|(apply aA (fun o g=>?_) (fun o g=>?_)<;>try(cases o;done))|apply ah ?_|(apply ai fun K hK=>?_)|apply ak ?_|apply am ?_|apply aq ?_|apply aw ?_)
  refine⟨ac,a2,a2,ce,(by simp only[aF,Nat.reduceBEq, *];exact gQ (n:=n) ac ac),?_⟩;exact⟨v5,eE,.inr (by rw[List.replicate_succ'];exact s5)⟩
 .have j:i=n:=by simp at o;omega
  subst j;rcases L with⟨_,h⟩|⟨r,J,h2,_,h4⟩
  .have:=jH List.length h;rw[Z]at this;simp at this;omega
  subst J;rw[Z]at k3;have hcl:((List.replicate i (1:Int)).map (AV.int .i64)).length=i:=az;generalize hcs:(List.replicate i (1:Int)).map (AV.int .i64)=cs at h2 hcl;have hi1:0<i:=ac;have hi2:(i-1)/2+1<i:=ac;have e1:IntKind.wrap .i64 (((i-1)/2:Nat)+1)=(((i-1)/2+1:Nat):Int):=iN ac ac;repeat' (first
   |(apply aj ?_;clear hK K)|apply Ry.o ?_|(apply ee ?_;first|refine bi (xF (fun _=>rfl) _ ac _) ?_)|apply ah ?_|(apply ai fun K hK=>?_)|apply ak ?_|apply am ?_|apply aq ?_|apply aw ?_)
  refine pR cS cS (zx h2 ac 2) ?_;repeat' (first
   |(apply aj ?_;clear hK K)|apply Ry.o ?_|apply ah ?_|(apply ai fun K hK=>?_)|apply ak ?_|apply am ?_|apply aq ?_|apply aw ?_)
  refine pR cS cS (zx gL (by rw[ky];omega) 2) ?_;repeat' (first
   |(apply aj ?_;clear hK K)|apply Rx.o ?_|(apply aA (fun o g=>?_) (fun o g=>?_)<;>try(cases o;done))|apply ah ?_|(apply ai fun K hK=>?_)|apply ak ?_|apply am ?_|apply aq ?_|apply aw ?_)
  all_goals refine qq ?_
  have hll:(lK i).length=i:=by simp[lK]
  have o:gI ((V.set r (.cells (cs.set 0 (.int .i64 2)) 0 true)).set r (.cells ((cs.set 0 (.int .i64 2)).set ((i-1)/2+1) (.int .i64 2)) 0 true)) (.sl r 0 (lK i).length 1) (lK i) 0:=⟨r,0,rfl,by
   rw[a1,ay rfl,lK,vI,vI,hcs,show(et i+1).toNat=(i-1)/2+1 by omega],dN _,dN _,h4⟩
  have:=o.iceV 1;rw[hll]at this;exact this)
noncomputable def GQ:En:=⟨145,false,ch (fun n=>3<=n/\n<2^30) vQ fun n=>gh (lK n)⟩
def Zv:cT prog ρ GQ:=dg fun n C=>Zu ρ n C.1 C.2
end
section
def tyI2.tyF:=ad @ez (ad @cR (ad @fP (ad @ol (ad @iU (@vr)))))
open tyI2
noncomputable def Mb:{c:SC // aI 53 (f128.body.getD .skip)=c}:=by
 refine⟨?_,?_⟩;rotate_left
 .simp only[f128,bS,aI,bM,bI,bT,bU,Nat.blt,Nat.ble];rfl
noncomputable def nK:{c:SC // aI 106 (f127.body.getD .skip)=c}:=by
 refine⟨?_,?_⟩;rotate_left
 .simp only[f127,bS,aI,bM,bI,bT,bU,Nat.blt,Nat.ble];rfl
noncomputable def GR:qA:=[GN,rM,GO,GP,GQ]
def Mc:gm prog ρ GR:=⟨Zr ρ,CT ρ,Zs ρ,Zt ρ,Zv ρ,trivial⟩
abbrev kB(l:qy):AV:=.ao (l.map Nd.cells)
def zC(l:qy):fu (kB l):=.map fun x _=>x.pure
def Md{a b:qy}(h:kB a=kB b):a=b:=by
 simp only[kB,AV.ao.injEq]at h;exact mJ (fun _ _ _=>tT) h
def zD(x:qy×Nd):Prop:=x.2.op=25->∃(k:Nat) (m:Nd),x.2.ak[0]?=some (k:Int)/\x.1[k]?=some m/\m.ak.length<2^60
def vR(x:qy×Nd):qs:=[kB x.1,.agg x.2.cells]
def Zw(x y:qy×Nd)(h:vR x=vR y):x=y:=by
 simp only[vR,dR,AV.agg.injEq,aU]at h;exact pw (Md h.1) (tT h.2)
theorem Zx(x:qy×Nd)(I:zD x):bX prog ρ 128 (vR x) (.bool (eu x.1 x.2)):=eg fit (pls:=pls) (Mc ρ) (.cons (zC _) (.cons (.agg (zk _)) .nil)) (.bool _) (by
 obtain⟨l,n⟩:=x;have L:zd0 (aH pls GR) 128:=dG (fun _=>rfl) rfl;unfold zD at I;rw[vR];simp only[]at I⊢;refine bF (M:=53) (rs:=[.tmp 4]) (L.call _) L.aD L.aq func128 rfl rfl Mb.2 rfl ?_;dsimp only[Mb,bA,Nat.reduceAdd];repeat' (first
  |(apply aj ?_;clear hK K)|apply Rx.o ?_|(apply aX (fun J g=>?_) (fun J g=>?_)<;>try(cases J;done))|(apply aA (fun o Z=>?_) (fun o Z=>?_)<;>try(cases o;done))|apply ah ?_|(apply ai fun K hK=>?_)|apply ak ?_|apply am ?_|apply aq ?_)
 all_goals (first|(refine⟨aD,_,aN,?_⟩;(try simp only[aC]);clear I;simp_all[eu,iW]<;>omega;done)|skip)
 all_goals trace_state
 have Y:n.op=25:=jm;obtain⟨k,m,i,V,z⟩:=I Y;have C:n.ak.headD 0=k:=by
  cases j:n.ak with
  |nil=>rw[j]at i;simp at i
  |cons a b=>rw[j]at i;simpa using i
 have U:xD l (n.ak.headD 0)=m.ak.length:=by rw[C,xD,iK,V]
 have O:=GK m.ak.length;have e1:IntKind.wrap .i64 (et m.ak.length-1)=et m.ak.length-1:=iN ac ac;repeat' (first
  |(apply aj ?_;clear hK K)|apply Ry.o ?_|(apply ee ?_;first|refine bi (xF (fun _=>rfl) _ ac _) ?_)|(apply ct (fun J g=>?_) (fun J g=>?_)<;>try(cases J;done))|apply ah ?_|(apply ai fun K hK=>?_)|apply ak ?_|apply am ?_|apply aq ?_)
 all_goals (first|(refine⟨aD,_,aN,?_⟩;(try simp only[aC]);clear I;simp_all[eu,iW]<;>omega;done)|skip)
 all_goals trace_state)
noncomputable def Me:En:=⟨128,true,ch zD vR fun x=>.bool (eu x.1 x.2)⟩
def Zy:cT prog ρ Me:=dg fun x I=>Zx ρ x I
theorem Zz(a:Int)(s:qu):jA prog 22 (.ao ((a::s).map fun n=>[AV.int .i64 n])) (some (.int .i64 1)) none=some (.ao (s.map fun n=>[AV.int .i64 n])):=by
 have o:(1:Int)=Int.ofNat 1:=rfl;simp only[jA,underlying22,jL,o,ig];rw[ay ⟨az,aO _⟩];rw[gZ az];cases s with
 |nil=>rfl
 |cons b s=>rfl
theorem ZA(op:Int)(O:0<=(ek op).1):(ek op).1<=(il op).length:=by
 unfold ek at O⊢;unfold il;repeat' split
 all_goals (first|(simp;done)|omega|(simp_all;done))
def ue(x:Nd×qu):qs:=[.agg x.1.cells,gh x.2]
def ZB(x y:Nd×qu)(h:ue x=ue y):x=y:=by
 simp only[ue,dR,AV.agg.injEq,aU]at h;exact pw (tT h.1) (GM h.2)
def vT(K:∀o,cV l 20 o=GN.sp o)(n:Int)(H:Hp):aY prog (aH pls l) 20 [.int .i64 n] H fun v H'=>v=mN n/\H'=H:=
 cF (enc:=fun n:Int=>[.int .i64 n]) (ok:=fun _=>True) (out:=mN) L9 (x:=n) (K _) trivial
def Mf(K:∀o,cV l 146 o=GO.sp o)(n:Int)(H:Hp):aY prog (aH pls l) 146 [.int .i64 n] H fun v H'=>v=gh (il n)/\H'=H:=
 cF (enc:=fun n:Int=>[.int .i64 n]) (ok:=fun _=>True) (out:=fun n=>gh (il n)) L9 (x:=n) (K _) trivial
def ZC(K:∀o,cV l 145 o=GQ.sp o)(n:Nat)(C:3<=n/\n<2^30)(H:Hp):aY prog (aH pls l) 145 [.int .i64 n] H fun v H'=>v=gh (lK n)/\H'=H:=
 cF (enc:=vQ) (ok:=fun n=>3<=n/\n<2^30) (out:=fun n=>gh (lK n)) Ma (x:=n) (K _) C
def GS(K:∀o,cV l 144 o=GP.sp o)(s w:qu)(h:xG (s,w))(H:Hp):aY prog (aH pls l) 144 [gh s,gh w] H fun v H'=>v=.bool (eW s w)/\H'=H:=
 cF (enc:=vP) (ok:=xG) (out:=fun x=>.bool (eW x.1 x.2)) Zp (x:=(s,w)) (K _) h
theorem sN(a b:AV):Ab.extract (.aS [a,b]) 0=some a:=rfl
theorem sO(a b:AV):Ab.extract (.aS [a,b]) 1=some b:=rfl
theorem ZD(s:qu):dJ 31 s=(decide ((3:Int)<=s.length)&&decide ((s.length:Int).tmod 2=1)&&decide (et s.length<=16)&&eW s (lK s.length)):=by
 have U:(s.length:Int).tmod 2=((s.length%2:Nat):Int):=Gm;have o:decide ((s.length:Int).tmod 2=1)=decide (s.length%2=1):=by rw[U];exact zp.2 ac
 have J:decide ((3:Int)<=s.length)=decide (3<=s.length):=zp.2 ac;rw[o,J];rfl
def CU(a:Int)(s:qu):dJ 30 (a::s)=(!decide ((7:Int)<((s.length+1:Nat):Int))&&decide (a=2)&&s.all fun x=>decide (x=1)):=by
 have o:(!decide ((7:Int)<((s.length+1:Nat):Int)))=decide ((a::s).length<=7):=by
  rw[<-decide_not];exact zp.2 (by simp only[eT];omega)
 have J:decide (1<=(a::s).length)=true:=az;rw[o];show(decide (1<=(a::s).length)&&decide ((a::s).length<=7)&&decide (a=2)&&s.all fun x=>decide (x=1))=_;rw[J,fT]
theorem ZE(a b c:Int):dJ 22 [a,b,c]=if b=2 then (decide (a=1)&&decide (c=2))else eW [a,b,c] [1,1,1]:=by
 have e:dJ 22 [a,b,c]=if (22:Int)=22/\b=2 then (decide (a=1)&&decide (c=2))else eW [a,b,c] [1,1,1]:=rfl
 rw[e];simp
def ZF{op:Int}(s:qu)(h:(ek op).2=false):dJ op s=false:=by rw[dJ,ay h]
def GT{op:Int}(h:0<=(ek op).1)(h2:(ek op).1≠s.length):dJ op s=false:=by
 unfold dJ;split
 .rfl
 .rw[ay ⟨h,h2⟩]
def ZG{op:Int}(h:(ek op).2=true)(h2:(ek op).1=s.length)(h1:op≠31)(m:op≠30)(U:op≠22):dJ op s=eW s (il op):=by
 unfold dJ;rw[af (by rw[h];simp),af (fun k=>k.2 h2),af h1,af m,af (fun k=>U k.1)]
def Mg(op:Int):(il op).length<=3:=by
 unfold il;repeat' split
 all_goals decide
def ZH{op:Int}(h1:op≠31)(m:op≠30):0<=(ek op).1:=by
 unfold ek;repeat' split
 all_goals (first|decide|omega)
theorem ZI(x:Nd×qu)(hx:x.2.length<2^30):bX prog ρ 127 (ue x) (.bool (dJ x.1.op x.2)):=eg fit (pls:=pls) (Mc ρ) (.cons (.agg (zk _)) (.cons (zj _) .nil)) (.bool _) (by
 obtain⟨⟨U,imm,kids⟩,s⟩:=x;have L:zd0 (aH pls GR) 127:=dG (fun _=>rfl) rfl;rw[ue];simp only[Nd.cells]at hx⊢;have hq:(2:Int)≠0:=aM;by_cases z:U=31
 .subst z;have hv:mN 31=.aS [.int .i64 (-1),.bool true]:=rfl;have O:xG (s,lK s.length):=⟨by simp[lK],by simp[lK];omega⟩;refine bF (M:=106) (rs:=[.tmp 4]) (L.call _) L.aD L.aq func127 rfl rfl nK.2 rfl ?_;dsimp only[nK,bA,Nat.reduceAdd];have I:=@sN;have V:=@sO;repeat' (first
   |(apply aj ?_;clear hK K)|apply Ry.o ?_|(apply ee ?_;first|refine bi (vT (fun _=>rfl) _ _) ?_|refine bi (xF (fun _=>rfl) _ ac _) ?_|refine bi (ZC (fun _=>rfl) _ ac _) ?_|refine bi (GS (fun _=>rfl) _ _ O _) ?_)|apply tQ ?_|(apply ct (fun J Z=>?_) (fun J Z=>?_)<;>try(cases J;done))|(apply bq (fun o g=>?_) (fun o g=>?_)<;>try(cases o;done))|apply ah ?_|(apply ai fun K hK=>?_)|apply ak ?_|apply am ?_|apply aq ?_|apply aw ?_)
  all_goals
   refine⟨aD,_,oq,?_⟩;try simp only[aC]
   rw[ZD];(try simp only[ci]at *);simp only[ *,cj,bC,bH,Int.reduceEq]
 by_cases m:U=30
 .subst m;have hv:mN 30=.aS [.int .i64 (-1),.bool true]:=rfl;cases s with
  |nil=>
   refine bF (M:=106) (rs:=[.tmp 4]) (L.call _) L.aD L.aq func127 rfl rfl nK.2 rfl ?_;dsimp only[nK,bA,Nat.reduceAdd];have I:=@sN;have V:=@sO;repeat' (first
    |(apply aj ?_;clear hK K)|apply Ry.o ?_|(apply ee ?_;first|refine bi (vT (fun _=>rfl) _ _) ?_)|apply tQ ?_|(apply ct (fun J Z=>?_) (fun J Z=>?_)<;>try(cases J;done))|(apply bq (fun o g=>?_) (fun o g=>?_)<;>try(cases o;done))|apply ah ?_|(apply ai fun K hK=>?_)|apply ak ?_|apply am ?_|apply aq ?_|apply aw ?_)
   all_goals refine qq ?_
   rfl
  |cons a s=>
   have hsl:=Zz a s;simp only[eT]at hx;refine bF (M:=106) (rs:=[.tmp 4]) (L.call _) L.aD L.aq func127 rfl rfl nK.2 rfl ?_;dsimp only[nK,bA,Nat.reduceAdd];have I:=@sN;have V:=@sO;repeat' (first
    |(apply aj ?_;clear hK K)|apply Ry.o ?_|(apply ee ?_;first|refine bi (vT (fun _=>rfl) _ _) ?_)|apply tQ ?_|(apply ct (fun J Z=>?_) (fun J Z=>?_)<;>try(cases J;done))|(apply bq (fun o g=>?_) (fun o g=>?_)<;>try(cases o;done))|apply ah ?_|(apply ai fun K hK=>?_)|apply ak ?_|apply am ?_|apply aq ?_|apply aw ?_)
   .all_goals refine qq ?_
    rw[CU];(try simp only[ci]at *);simp only[ *,cj,bC,bH,Int.reduceEq]
   .refine cA [1,2,72,73] [] 74 s.length (fun i E H=>(s.all fun x=>decide (x=1))=(s.drop i).all fun x=>decide (x=1)) eE az ?_;rintro i E H2 hi hcE hrH hnH hsI hJ;(try simp only[bp,bm,aU,aF,aW,Nat.reduceBEq,Nat.reduceAdd,Nat.reduceLeDiff,tyF, *]at hcE);(try simp only[bp,bm,aU,aF,aW,Nat.reduceBEq,Nat.reduceAdd,Nat.reduceLeDiff,tyF, *]at hrH);(try simp only[bj,bE,cm,bO,Nat.reduceAdd]at hnH);repeat' (first
     |(apply aj ?_;clear hK K)|apply Rx.o ?_|(apply aA (fun o g=>?_) (fun o g=>?_)<;>try(cases o;done))|apply ah ?_|(apply ai fun K hK=>?_)|apply ak ?_|apply am ?_|apply aq ?_|apply aw ?_)
    .have j:i<s.length:=by simpa using o
     have hgx:s[i]?=some s[i]:=a0 j;have hdr:((s.drop i).all fun x=>decide (x=1))=(decide (s[i]=1)&&(s.drop (i+1)).all fun x=>decide (x=1)):=by rw[eU j,oy]
     repeat' (first
      |(apply aj ?_;clear hK K)|apply Rx.o ?_|(apply aA (fun o g=>?_) (fun o g=>?_)<;>try(cases o;done))|apply ah ?_|(apply ai fun K hK=>?_)|apply ak ?_|apply am ?_|apply aq ?_|apply aw ?_)
     .all_goals refine qq ?_
      rw[CU,hJ,hdr];(try simp only[ci]at *);simp only[ *,cj,bC,bH,Int.reduceEq]
     .refine⟨ac,a2,a2,ce,zl,?_⟩;rw[hJ,hdr];(try simp only[ci]at *);simp only[ *,cj,bC,bH,Int.reduceEq]
    .repeat' (first
      |(apply aj ?_;clear hK K)|apply Rx.o ?_|(apply aA (fun o g=>?_) (fun o g=>?_)<;>try(cases o;done))|apply ah ?_|(apply ai fun K hK=>?_)|apply ak ?_|apply am ?_|apply aq ?_|apply aw ?_)
     all_goals refine qq ?_
     rw[show i=s.length by simp at o;omega,fU]at hJ;have hJ2:(s.all fun x=>decide (x=1))=true:=hJ;rw[CU,hJ2];(try simp only[ci]at *);simp only[ *,cj,bC,bH,Int.reduceEq]
   .all_goals refine qq ?_
    rw[CU];(try simp only[ci]at *);simp only[ *,cj,bC,bH,Int.reduceEq]
 have hnn:=ZH z m;cases C:(ek U).2 with
 |false=>
  have hv:mN U=.aS [.int .i64 (ek U).1,.bool false]:=by rw[mN,C]
  refine bF (M:=106) (rs:=[.tmp 4]) (L.call _) L.aD L.aq func127 rfl rfl nK.2 rfl ?_;dsimp only[nK,bA,Nat.reduceAdd];have I:=@sN;have V:=@sO;repeat' (first
   |(apply aj ?_;clear hK K)|apply Ry.o ?_|(apply ee ?_;first|refine bi (vT (fun _=>rfl) _ _) ?_)|apply tQ ?_|(apply ct (fun J Z=>?_) (fun J Z=>?_)<;>try(cases J;done))|(apply bq (fun o g=>?_) (fun o g=>?_)<;>try(cases o;done))|apply ah ?_|(apply ai fun K hK=>?_)|apply ak ?_|apply am ?_|apply aq ?_|apply aw ?_)
  all_goals
   refine⟨aD,_,oq,?_⟩;try simp only[aC]
   rw[ZF s C]
 |true=>
  by_cases Y:(ek U).1=s.length
  .have hv:mN U=.aS [.int .i64 s.length,.bool true]:=by rw[mN,C,Y]
   by_cases h22:U=22
   .subst h22;obtain⟨a,b,c,rfl⟩:=Y9 (s:=s) (by have e:(ek 22).1=3:=rfl;rw[e]at Y;omega);have O:xG ([a,b,c],il 22):=⟨aO _,by have:=Mg 22;simp only[];omega⟩;refine bF (M:=106) (rs:=[.tmp 4]) (L.call _) L.aD L.aq func127 rfl rfl nK.2 rfl ?_;dsimp only[nK,bA,Nat.reduceAdd];have I:=@sN;have V:=@sO;repeat' (first
     |(apply aj ?_;clear hK K)|apply Ry.o ?_|(apply ee ?_;first|refine bi (vT (fun _=>rfl) _ _) ?_|refine bi (Mf (fun _=>rfl) _ _) ?_|refine bi (GS (fun _=>rfl) _ _ O _) ?_)|apply tQ ?_|(apply ct (fun J Z=>?_) (fun J Z=>?_)<;>try(cases J;done))|(apply bq (fun o g=>?_) (fun o g=>?_)<;>try(cases o;done))|apply ah ?_|(apply ai fun K hK=>?_)|apply ak ?_|apply am ?_|apply aq ?_|apply aw ?_)
    all_goals
     refine⟨aD,_,oq,?_⟩;try simp only[aC]
     rw[ZE];first
     |(simp_all;done)
     |(rw[af jm];rfl)
   .have O:xG (s,il U):=⟨by have:=ZA U hnn;simp only[];omega,by have:=Mg U;simp only[];omega⟩;have hl0:(0:Int)<=s.length:=ac;refine bF (M:=106) (rs:=[.tmp 4]) (L.call _) L.aD L.aq func127 rfl rfl nK.2 rfl ?_;dsimp only[nK,bA,Nat.reduceAdd];have I:=@sN;have V:=@sO;repeat' (first
     |(apply aj ?_;clear hK K)|apply Ry.o ?_|(apply ee ?_;first|refine bi (vT (fun _=>rfl) _ _) ?_|refine bi (Mf (fun _=>rfl) _ _) ?_|refine bi (GS (fun _=>rfl) _ _ O _) ?_)|apply tQ ?_|(apply ct (fun J Z=>?_) (fun J Z=>?_)<;>try(cases J;done))|(apply bq (fun o g=>?_) (fun o g=>?_)<;>try(cases o;done))|apply ah ?_|(apply ai fun K hK=>?_)|apply ak ?_|apply am ?_|apply aq ?_|apply aw ?_)
    all_goals
     refine⟨aD,_,oq,?_⟩;try simp only[aC]
     rw[ZG C Y z m h22]
  .have hv:mN U=.aS [.int .i64 (ek U).1,.bool true]:=by rw[mN,C]
   refine bF (M:=106) (rs:=[.tmp 4]) (L.call _) L.aD L.aq func127 rfl rfl nK.2 rfl ?_;dsimp only[nK,bA,Nat.reduceAdd];have I:=@sN;have V:=@sO;repeat' (first
    |(apply aj ?_;clear hK K)|apply Ry.o ?_|(apply ee ?_;first|refine bi (vT (fun _=>rfl) _ _) ?_)|apply tQ ?_|(apply ct (fun J Z=>?_) (fun J Z=>?_)<;>try(cases J;done))|(apply bq (fun o g=>?_) (fun o g=>?_)<;>try(cases o;done))|apply ah ?_|(apply ai fun K hK=>?_)|apply ak ?_|apply am ?_|apply aq ?_|apply aw ?_)
   all_goals
    refine⟨aD,_,oq,?_⟩;try simp only[aC]
    rw[GT hnn Y])
end
end Go.Proofs.Ytbflaciihaijgaa
