/- Lemmas for the last file. -/
import Derived.Test.YtbflaciihaijgaaGreatJEF
set_option linter.all false
set_option maxHeartbeats 32000000
namespace Go.Ab
set_option maxRecDepth 20000
open Go
variable{qf:Prop}
def ng(h:qf:=by rw[List.drop_eq_getElem_cons j];rfl):=h
def Eo(h:qf:=by rw[hg r ⟨_,rfl⟩];exact g):=h
def Ji(h:qf:=by have:=List.length_pos_iff.2 M;omega):=h
def jT(h:qf:=by rw[L];omega):=h
def vE(h:qf:=by simp[I]):=h
def iq(h:qf:=by rw[aD,if_pos rfl];rfl):=h
def nh(h:qf:=by simp only[tc];omega):=h
def Ep(h:qf:=by rw[List.append_nil];exact V):=h
def Er(h:qf:=by rw[Nat.ble_eq];omega):=h
def Jj(h:qf:=by rw[List.length_map];exact J):=h
def vF(h:qf:=by rw[sw];omega):=h
def aE(h:qf:=by decide):=h
def oJ(h:qf:=by simpa using U.symm):=h
def Es(h:qf:=by rw[j];exact a5):=h
def yY(h:qf:=by simp only[aG,Nat.reduceBEq, *];exact gX (n:=s.length) ac ac):=h
def mF(h:qf:=by simp only[aG,Nat.reduceBEq, *];exact gX (n:=l.length) ac ac):=h
def pA(h:qf:=by simp only[aG,Nat.reduceBEq, *];exact gX (n:=p.funcs.length) ac ac):=h
def jU(h:qf:=by rw[Hp.get_set,if_neg ac]):=h
def Be(h:qf:=by rw[y9 _ ac];omega):=h
def Et(h:qf:=by rw[IntWalk.i64_in _ ac];omega):=h
def Jk(h:qf:=by simp only[aG,Nat.reduceBEq, *];exact gX (n:=x.aj.length) ac ac):=h
def vG(h:qf:=by simp only[aG,Nat.reduceBEq, *];exact gX (n:=x.length) ac ac):=h
def cN:=@List.length_map
def oK:=@List.all_nil
def vH:=@Bool.and_eq_false_iff
def sr:=@List.any_cons
def yZ:=@List.any_nil
def Jl:=@Bool.or_assoc
def y0:=@List.map_nil
def kC:=@Nat.le_of_eq
def tq:=@List.length_pos_iff
def Jm:=@List.replicate_succ
def cQ:=@List.getD_eq_getElem?_getD
def xw:=@List.headD_cons
def em:=@Bool.false_and
def rJ:=@List.length_replicate
def y1:=@List.getElem?_replicate
def xy:=@Bool.and_assoc
def Jn:=@List.set_cons_zero
def Eu:=@List.eq_of_mem_replicate
def eA:=@decide_eq_false
def pB:=@decide_eq_decide
def dx:=@decide_eq_true
def pC:=@Bool.and_false
def gH:=@List.drop_length
def n1:=@Prod.ext
def jv:=@List.length_set
def tt:=@List.map_set
def oL:=And.intro @em @pC
end Go.Ab
namespace Go.Proofs.YtbflaciihaijgaaGreat
set_option maxRecDepth 20000
open Go Go.Ab Proofs.Tryz
variable(ρ:Nat->Int)
variable{l m:qw}{f:FuncId}{H H':Hp}{v:AV}{lo k r:Nat}
section
def tyR3a.tyF:=ad @cA (ad @dw (ad @gQ (ad @jA (ad @iL (ad @fU (ad @fL (ad @fb (ad @nf (ad @D1 (ad @ec (@fM)))))))))))
open tyR3a
def fh(f:FuncId):zd0 (ay pls []) f:=⟨fun _=>rfl,rfl,rfl⟩
def db{l:qB}(h1:∀O,cM l f O=none)(h2:jt l f=false):zd0 (ay pls l) f:=⟨h1,h2,rfl⟩
structure zll (cfg:Cfg) (f:FuncId) (args:qt):Prop where
 call:cfg.call f args=none
 aG:cfg.aG f=false
 az:cfg.az f=false
def xz{I:Type}{sz:I->Nat}{ok:I->Prop}{enc:I->qt}{out:I->AV}(O:∀x y,enc x=enc y->x=y){l:qB}(x:I):
 zll (ay pls (⟨f,false,bQ (fun y=>ok y/\sz y<sz x) enc out⟩::l)) f (enc x):=by
 have C:Nat.beq f f=true:=Nat.beq_refl f;refine⟨?_,?_,rfl⟩
 .show cM _ f (enc x)=none;simp only[cM,C];exact Jf fun y Y e=>by rw[O _ _ e]at Y;exact Nat.lt_irrefl _ Y.2
 .show jt _ f=false;simp only[jt,C]
noncomputable def Oq:{c:SC // aC 21 (f100.body.getD .skip)=c}:=by
 refine⟨?_,?_⟩;rotate_left
 .simp only[f100,bz,aC,bw,bt,bA,bB,Nat.blt,Nat.ble];rfl
noncomputable def Ot:{c:SC // aC 9 (f101.body.getD .skip)=c}:=by
 refine⟨?_,?_⟩;rotate_left
 .simp only[f101,bz,aC,bw,bt,bA,bB,Nat.blt,Nat.ble];rfl
noncomputable def Ou:{c:SC // aC 34 (f79.body.getD .skip)=c}:=by
 refine⟨?_,?_⟩;rotate_left
 .simp only[f79,bz,aC,bw,bt,bA,bB,Nat.blt,Nat.ble];rfl
noncomputable def Ov:{c:SC // aC 18 (f80.body.getD .skip)=c}:=by
 refine⟨?_,?_⟩;rotate_left
 .simp only[f80,bz,aC,bw,bt,bA,bB,Nat.blt,Nat.ble];rfl
noncomputable def Ow:{c:SC // aC 10 (f40.body.getD .skip)=c}:=by
 refine⟨?_,?_⟩;rotate_left
 .simp only[f40,bz,aC,bw,bt,bA,bB,Nat.blt,Nat.ble];rfl
noncomputable def Oz:{c:SC // aC 18 (f148.body.getD .skip)=c}:=by
 refine⟨?_,?_⟩;rotate_left
 .simp only[f148,bz,aC,bw,bt,bA,bB,Nat.blt,Nat.ble];rfl
noncomputable def OA:{c:SC // aC 9 (f187.body.getD .skip)=c}:=by
 refine⟨?_,?_⟩;rotate_left
 .simp only[f187,bz,aC,bw,bt,bA,bB,Nat.blt,Nat.ble];rfl
noncomputable def OB:{c:SC // aC 27 (f207.body.getD .skip)=c}:=by
 refine⟨?_,?_⟩;rotate_left
 .simp only[f207,bz,aC,bw,bt,bA,bB,Nat.blt,Nat.ble];rfl
noncomputable def OC:{c:SC // aC 22 (f55.body.getD .skip)=c}:=by
 refine⟨?_,?_⟩;rotate_left
 .simp only[f55,bz,aC,bw,bt,bA,bB,Nat.blt,Nat.ble];rfl
theorem zco(n:Int):bF prog ρ 100 [.int .u8 n] (.bool (rI n)):=dE fit (pls:=pls) (l:=[]) trivial (.cons (.int _ _) .nil) (.bool _) (by
 have L:=fh 100;refine a0 (M:=21) (rs:=[.tmp 2]) (L.call _) L.aG L.az func100 rfl rfl Oq.2 rfl ?_;dsimp only[Oq,aW,Nat.reduceAdd];repeat' (first
  |(apply aj ?_;clear hK K)|apply aO ?_|(apply cD ?_ ?_<;>(intro hg hgp;try(cases hg;done)))|(apply ak fun K hK=>?_)|fail)
 all_goals refine qq ?_
 all_goals (simp_all[rI]<;>omega))
theorem zcp(n:Int):bF prog ρ 101 [.int .u8 n] (.bool (oI n)):=dE fit (pls:=pls) (l:=[]) trivial (.cons (.int _ _) .nil) (.bool _) (by
 have L:=fh 101;refine a0 (M:=9) (rs:=[.tmp 2]) (L.call _) L.aG L.az func101 rfl rfl Ot.2 rfl ?_;dsimp only[Ot,aW,Nat.reduceAdd];repeat' (first
  |(apply aj ?_;clear hK K)|apply aO ?_|(apply cD ?_ ?_<;>(intro hg hgp;try(cases hg;done)))|(apply ak fun K hK=>?_)|fail)
 all_goals refine qq ?_
 all_goals (simp_all[oI]<;>omega))
def xA(n:Int):qt:=[.int .u8 n]
def OD(x y:Int)(h:xA x=xA y):x=y:=by simpa [xA]using h
noncomputable def Bf:En:=⟨100,false,bQ (fun _=>True) xA fun n=>.bool (rI n)⟩
noncomputable def Bg:En:=⟨101,false,bQ (fun _=>True) xA fun n=>.bool (oI n)⟩
def zcq:co prog ρ Bf:=cz fun n _=>zco ρ n
def zcr:co prog ρ Bg:=cz fun n _=>zcp ρ n
theorem zcs(s:qx)(hs:s.length<2^60):bF prog ρ 79 [.aq s] (.bool (mE s)):=dE fit (pls:=pls) (l:=[Bf,Bg]) ⟨zcq ρ,zcr ρ,trivial⟩ (.cons (.aq _) .nil) (.bool _) (by
 have L:zd0 (ay pls [Bf,Bg]) 79:=db (fun _=>rfl) rfl;have kl:∀(n:Int) (H:Hp),aM prog (ay pls [Bf,Bg]) 100 [.int .u8 n] H fun v H'=>v=.bool (rI n)/\H'=H:=fun n H=>bZ (enc:=xA) (out:=fun n=>.bool (rI n)) OD (x:=n) rfl trivial;have kd:∀(n:Int) (H:Hp),aM prog (ay pls [Bf,Bg]) 101 [.int .u8 n] H fun v H'=>v=.bool (oI n)/\H'=H:=fun n H=>bZ (enc:=xA) (out:=fun n=>.bool (oI n)) OD (x:=n) rfl trivial;refine a0 (M:=34) (rs:=[.tmp 2]) (L.call _) L.aG L.az func79 rfl rfl Ou.2 rfl ?_;dsimp only[Ou,aW,Nat.reduceAdd];refine iX ?_;refine bY [0] [] 3 s.length (fun i E H=>fZ s=i+fZ (s.drop i)/\(0<i->∀b,s[0]?=some b->oI b.toNat=false)) eE au ?_;rintro i E H2 hi O m z hsI ⟨U,j⟩;(try simp only[bq,aT,aN,aG,aR,Nat.reduceBEq, *]at O);(try simp only[aT, *]at m);(try simp only[bX,]at z);repeat' (first
  |(apply aj ?_;clear hK K)|apply aO ?_|(apply cD ?_ ?_<;>(intro hg hgp;try(cases hg;done)))|(apply bp ?_ ?_<;>(intro hb hbp;try(cases hb;done)))|(apply ak fun K hK=>?_)|fail)
 .have V:i<s.length:=by simpa using hb
  have C:s[i]?=some s[i]:=aL V;have Y:fZ (s.drop i)=if l0 s[i]then fZ (s.drop (i+1))+1 else 0:=by rw[ft V,fZ]
  repeat' (first
   |(apply aj ?_;clear hK K)|apply aO ?_|(apply ez ?_;first|refine Rx.k (kl _ _) ?_|refine Rx.k (kd _ _) ?_)|(apply cD ?_ ?_<;>(intro hg hgp;try(cases hg;done)))|(apply bp ?_ ?_<;>(intro hb hbp;try(cases hb;done)))|(apply ak fun K hK=>?_)|fail)
  .all_goals refine qq ?_
   have I:i=0:=ac;subst I;unfold mE;cases s<;>simp_all
  .refine⟨ac,aK,aK,bG,yY,?_⟩;have J:l0 s[i]=true:=by simp_all[l0]
   refine⟨by rw[U,Y,J];simp;omega,fun _ b Z=>j ac b Z⟩
  .all_goals refine qq ?_
   have J:l0 s[i]=false:=by simp_all[l0]
   rw[J]at Y;simp at Y;unfold mE;simp[show ¬fZ s=s.length by omega]
  .refine⟨ac,aK,aK,bG,yY,?_⟩;have J:l0 s[i]=true:=by simp_all[l0]
   refine⟨by rw[U,Y,J];simp;omega,fun _ b Z=>?_⟩;by_cases h0:0<i
   .exact j h0 b Z
   .have I:i=0:=by omega
    subst I;rw[C]at Z;have:s[0]=b:=ub;subst this;have g:rI s[0].toNat=true:=by simp_all
    simp only[rI,oI]at *;simp only[rx,jN]at g;simp only[vH,kB];omega
 all_goals
  have hie:i=s.length:=ac;all_goals refine qq ?_
  rw[hie]at U;simp[fZ]at U;unfold mE;cases s<;>simp_all<;>omega)
def bu(l:qw)(s:qx):Bool:=l.any fun x=>decide (x=s)
theorem OE(l:qw)(s:qx)(J:l.length<2^60):bF prog ρ 148 [cZ l,.aq s] (.bool (bu l s)):=dE fit (pls:=pls) (l:=[]) trivial (.cons (vB _) (.cons (.aq _) .nil)) (.bool _) (by
 have L:=fh 148;refine a0 (M:=18) (rs:=[.tmp 4]) (L.call _) L.aG L.az func148 rfl rfl Oz.2 rfl ?_;dsimp only[Oz,aW,Nat.reduceAdd];refine iX ?_;refine bY [0,1] [] 5 l.length (fun i E H=>bu l s=bu (l.drop i) s) eE au ?_;rintro i E O I Y m z C V;(try simp only[bq,aT,aN,aG,aR,Nat.reduceBEq, *]at Y);(try simp only[aT, *]at m);(try simp only[bX,]at z);repeat' (first
  |(apply aj ?_;clear hK K)|apply aO ?_|(apply bp ?_ ?_<;>(intro hb hbp;try(cases hb;done)))|(apply ak fun K hK=>?_)|fail)
 .have j:i<l.length:=by simpa using hb
  have U:l[i]?=some l[i]:=aL j;have Z:bu (l.drop i) s=(decide (l[i]=s)||bu (l.drop (i+1)) s):=ng;refine nM (fun hb hbp=>?_) (fun hb hbp=>?_)
  .all_goals refine qq ?_
   rw[V,Z];simp_all
  .refine⟨ac,aK,aK,bG,mF,?_⟩;rw[V,Z];simp_all
 .all_goals refine qq ?_
  rw[V,show i=l.length by simp at hb;omega];simp[bu])
def rK(op:Int):Bool:=decide (4<=op)&&decide (op<=18)
theorem zct(op:Int):bF prog ρ 187 [.int .i64 op] (.bool (rK op)):=dE fit (pls:=pls) (l:=[]) trivial (.cons (.int _ _) .nil) (.bool _) (by
 have L:=fh 187;refine a0 (M:=9) (rs:=[.tmp 2]) (L.call _) L.aG L.az func187 rfl rfl OA.2 rfl ?_;dsimp only[OA,aW,Nat.reduceAdd];repeat' (first
  |(apply aj ?_;clear hK K)|apply aO ?_|(apply cD ?_ ?_<;>(intro hg hgp;try(cases hg;done)))|(apply ak fun K hK=>?_)|fail)
 all_goals refine qq ?_
 all_goals (simp_all[rK]<;>omega))
def zeroE(x:Ex):Bool:=decide (x.aw=0)&&decide (x.n=0)&&decide (x.name=[])&&decide (x.op=0)&&decide (x.aj.length=0)
theorem zcu(x:Ex):bF prog ρ 207 [.agg x.cells] (.bool (zeroE x)):=dE fit (pls:=pls) (l:=[]) trivial (.cons (.agg x.pure) .nil) (.bool _) (by
 have L:=fh 207;refine a0 (M:=27) (rs:=[.tmp 2]) (L.call _) L.aG L.az func207 rfl rfl OB.2 rfl ?_;dsimp only[OB,aW,Nat.reduceAdd];repeat' (first
  |(apply aj ?_;clear hK K)|apply aO ?_|(apply cD ?_ ?_<;>(intro hg hgp;try(cases hg;done)))|(apply ak fun K hK=>?_)|fail)
 all_goals
  all_goals refine qq ?_
 all_goals simp_all[zeroE])
def dr:qQ->qx->Int->Int
 |[],_,_=>-1
 |f::l,s,i=>if f.name=s then i else dr l s (i+1)
theorem zcv(p:Pr)(s:qx)(g:p.funcs.length<2^60):bF prog ρ 55 [.agg p.cells,.aq s] (.int .i64 (dr p.funcs s 0)):=dE fit (pls:=pls) (l:=[]) trivial (.cons (.agg p.pure) (.cons (.aq _) .nil)) (.int _ _) (by
 have L:=fh 55;refine a0 (M:=22) (rs:=[.tmp 4]) (L.call _) L.aG L.az func55 rfl rfl OC.2 rfl ?_;dsimp only[OC,aW,Nat.reduceAdd];refine iX ?_;refine bY [1,2] [0] 5 p.funcs.length (fun i E H=>dr p.funcs s 0=dr (p.funcs.drop i) s i) eE au ?_;rintro i E U hi Y m z C V;(try simp only[bq,aT,aN,aG,aR,Nat.reduceBEq, *]at Y);(try simp only[bq,aT,aN,aG,aR, *]at m);(try simp only[aZ,bX,bK]at z);have O:(0 == U.next)=false:=aX ac;have J:(U.next == 0)=false:=aX ac;repeat' (first
  |(apply aj ?_;clear hK K)|apply aO ?_|(apply bp ?_ ?_<;>(intro hb hbp;try(cases hb;done)))|(apply ak fun K hK=>?_)|fail)
 .have j:i<p.funcs.length:=by simpa using hb
  have I:p.funcs[i]?=some p.funcs[i]:=aL j;have Z:dr (p.funcs.drop i) s i=if p.funcs[i].name=s then (i:Int)else dr (p.funcs.drop (i+1)) s (i+1):=ng
  refine nM (fun hb hbp=>?_) (fun hb hbp=>?_)
  .all_goals refine qq ?_
   rw[V,Z,ah (by simp_all)]
  .refine⟨ac,aK,aK,bG,pA,?_⟩;rw[V,Z,af (by simp_all)];rfl
 .all_goals refine qq ?_
  rw[V,show i=p.funcs.length by simp at hb;omega];simp[dr])
def oM:qw:=[[97,114,114,97,121],[102,117,110,99],[118,97,114],[114,101,116,117,114,110],[105,102],[101,108,115,101],[119,104,105,108,101],[111,117,116],[116,114,97,112]]
def OF(s:qx):bu oM s=vD s:=by
 simp only[bu,oM,vD,sr,yZ,io,<-Jl];simp only[eq_comm]
def zcw(H:Hp)(a b c d e f g h i:qx):et prog H 66 9 [(0,.aq a),(1,.aq b),(2,.aq c),(3,.aq d),(4,.aq e),(5,.aq f),(6,.aq g),(7,.aq h),(8,.aq i)]=some (.sl H.next 0 9 1,H.alloc (.cells ([a,b,c,d,e,f,g,h,i].map .aq) 0 true)):=aB
theorem zcx(s:qx):bF prog ρ 80 [.aq s] (.bool (vD s)):=dE fit (pls:=pls) (l:=[]) trivial (.cons (.aq _) .nil) (.bool _) (by
 have L:=fh 80;refine a0 (M:=18) (rs:=[.tmp 2]) (L.call _) L.aG L.az func80 rfl rfl Ov.2 rfl ?_;dsimp only[Ov,aW,Nat.reduceAdd];have O:=@zcw;refine iX ?_;refine bY [0,3] [0] 4 9 (fun i E H=>bu oM s=bu (oM.drop i) s) eE au ?_;rintro i E Y hi V m z C U;(try simp only[bq,aT,aN,aG,aR,Nat.reduceBEq, *]at V);(try simp only[bq,aT,aN,aG,aR, *]at m);(try simp only[aZ,bX,bK]at z);have J:(0 == Y.next)=false:=aX ac;have I:(Y.next == 0)=false:=aX ac;change Y.get 0=some (.cells (oM.map .aq) 0 true)at m;have g:oM.length=9:=rfl;repeat' (first
  |(apply aj ?_;clear hK K)|apply aO ?_|(apply bp ?_ ?_<;>(intro hb hbp;try(cases hb;done)))|(apply ak fun K hK=>?_)|fail)
 .have j:i<oM.length:=by omega
  have hgx:oM[i]?=some oM[i]:=aL j;have Z:bu (oM.drop i) s=(decide (oM[i]=s)||bu (oM.drop (i+1)) s):=ng;have hi9:decide (i<9)=true:=bW;refine LW (fun hb hbp=>?_) (fun hb hbp=>?_)
  .all_goals refine qq ?_
   rw[<-OF,U,Z];simp_all
  .refine⟨ac,(by simp only[bq,aT,aN,aG,aR,Nat.reduceBEq,oM, *]),(by simp only[bq,aT,aN,aG,aR,oM, *]),bG,(by simp only[aG,Nat.reduceBEq, *];exact gX (n:=9) ac ac),?_⟩;rw[U,Z];simp_all
 .all_goals refine qq ?_
  rw[<-OF,U,show i=9 by omega];rfl)
def nn(s:qx):qt:=[.aq s]
def ux(x y:qx)(h:nn x=nn y):x=y:=by simpa [nn]using h
noncomputable def Bh:En:=⟨79,false,bQ (fun s=>s.length<2^60) nn fun s=>.bool (mE s)⟩
noncomputable def Bi:En:=⟨80,false,bQ (fun _=>True) nn fun s=>.bool (vD s)⟩
def zcy:co prog ρ Bh:=cz fun s M=>zcs ρ s M
def zcz:co prog ρ Bi:=cz fun s _=>zcx ρ s
theorem zcA(s:qx)(Z:s.length<2^60):bF prog ρ 40 [.aq s] (.bool (ci s)):=dE fit (pls:=pls) (l:=[Bh,Bi]) ⟨zcy ρ,zcz ρ,trivial⟩ (.cons (.aq _) .nil) (.bool _) (by
 have L:zd0 (ay pls [Bh,Bi]) 40:=db (fun _=>rfl) rfl;have V:∀(H:Hp),aM prog (ay pls [Bh,Bi]) 79 [.aq s] H fun v H'=>v=.bool (mE s)/\H'=H:=fun H=>bZ (enc:=nn) (out:=fun n=>.bool (mE n)) ux (x:=s) rfl Z;have i:∀(H:Hp),aM prog (ay pls [Bh,Bi]) 80 [.aq s] H fun v H'=>v=.bool (vD s)/\H'=H:=fun H=>bZ (enc:=nn) (out:=fun n=>.bool (vD n)) ux (x:=s) rfl trivial;refine a0 (M:=10) (rs:=[.tmp 2]) (L.call _) L.aG L.az func40 rfl rfl Ow.2 rfl ?_;dsimp only[Ow,aW,Nat.reduceAdd];repeat' (first
  |(apply aj ?_;clear hK K)|apply aO ?_|(apply ez ?_;first|refine Rx.k (V _) ?_|refine Rx.k (i _) ?_)|(apply cD ?_ ?_<;>(intro hg hgp;try(cases hg;done)))|(apply ak fun K hK=>?_)|fail)
 all_goals refine qq ?_
 all_goals (simp_all[ci]))
end
def ed(H:Hp)(v:AV)(l:qw)(lo:Nat):Prop:=∃r V,v=.sl r 0 l.length 1/\H.get r=some (.cells (l.map .aq) V true)/\V<=l.length/\lo<=r/\r<H.next
def eI(H:Hp)(v:AV)(l:qw)(lo:Nat):Prop:=(v=.ak/\l=[])\/ed H v l lo
def ed.bY(h:ed H v l lo)(I:H.next<=H'.next)(hg:∀k,lo<=k->k<H.next->H'.get k=H.get k):ed H' v l lo:=by
 obtain⟨r,V,i,g,m,U,M⟩:=h;exact⟨r,V,i,by rw[hg r U M];exact g,m,U,ac⟩
def bc(v:AV)(k:Nat):Prop:=∃n,v=.sl k 0 n 1
def ss(v O:AV)(H H':Hp):Prop:=(∀k,k<H.next->¬bc v k->H'.get k=H.get k)/\∀k,bc O k->bc v k\/H.next<=k
def ed.lt(h:ed H v l lo)(j:bc v k):lo<=k/\k<H.next:=by
 obtain⟨r,V,rfl,_,_,U,M⟩:=h;obtain⟨n,e⟩:=j;simp only[AV.sl.injEq]at e;rw[<-e.1];exact⟨U,M⟩
def eI.lt(h:eI H v l lo)(j:bc v k):lo<=k/\k<H.next:=by
 rcases h with⟨rfl,_⟩|h
 .obtain⟨n,e⟩:=j;simp at e
 .exact h.lt j
def ed.keep(h:ed H v l lo)(I:H.next<=H'.next)(hg:∀k,bc v k->H'.get k=H.get k):ed H' v l lo:=by
 obtain⟨r,V,rfl,g,m,U,M⟩:=h;exact⟨r,V,rfl,Eo,m,U,ac⟩
def eI.keep(h:eI H v l lo)(I:H.next<=H'.next)(hg:∀k,bc v k->H'.get k=H.get k):eI H' v l lo:=h.imp id fun h=>h.keep I hg
def OG(l:qw):(l.map AV.aq).all AV.one=true:=by simp[AV.one]
theorem Ev(m:qw):(m.map fun s=>[AV.aq s]).flatten=m.map .aq:=by induction m with
 |nil=>rfl
 |cons a m ih=>simp[ih]
theorem zcB(H:Hp)(m:qw):eQ H 1 (cZ m)=some (m.length,m.map .aq):=by
 have e:eQ H 1 (cZ m)=if ((m.map fun s=>[AV.aq s]).all fun L=>L.length == 1)then some ((m.map fun s=>[AV.aq s]).length,(m.map fun s=>[AV.aq s]).flatten)else none:=rfl
 rw[e,ah au,Ev,cN]
def Jo{imm:Nat}(h:H.get r=some (.cells (m.map .aq) imm true)):eQ H 1 (.sl r 0 m.length 1)=some (m.length,m.map .aq):=by
 have:=pq (H:=H) (r:=r) (o:=0) (n:=m.length) (z:=1) (s:=1) h au;rw[this,eS,fI au]
theorem Jp{x:AV}(U:eI H v l lo)(Z:lo<=H.next)(z:eQ H 1 x=some (m.length,m.map .aq))(M:m≠[])(hb:l.length+m.length<2^40):
 ∃O H',cX prog false H 66 66 v x=some (O,H')/\ed H' O (l++m) lo/\H'.next=H.next+1/\(∀k,k<lo->H'.get k=H.get k)/\ss v O H H':=by
 obtain⟨n,I⟩:∃n,m.length=n+1:=⟨m.length-1,Ji⟩;have L:dL=70368744177664:=rfl;rw[I]at z;rcases U with⟨rfl,rfl⟩|⟨r,V,rfl,g,i,h4,h5⟩
 .refine⟨.sl H.next 0 (n+1) 1,H.alloc (.cells (m.map .aq) 0 true),append_nil underlying66 vt yO yP aB z (OG m) rfl jT jT,⟨H.next,0,vE,iq,ac,Z,cC _⟩,rfl,fun k j=>fq,fun k j _=>fq,fun k j=>.inr ?_⟩;obtain⟨J,e⟩:=j;simp only[AV.sl.injEq]at e;omega
 .have C:ii false H 1 (.sl r 0 l.length 1)=H:=by
   unfold ii;simp only[g,bK,cN,lE];have:Nat.blt l.length l.length=false:=by
    cases hb:Nat.blt l.length l.length with
    |false=>rfl
    |true=>rw[jK]at hb;omega
   simp[this]
  refine⟨.sl H.next 0 (l.length+(n+1)) 1,(H.aR r).alloc (.cells (l.map .aq++m.map .aq) (V-0) true),?_,⟨H.next,V,vE,?_,bW,Z,cC _⟩,rfl,fun k j=>?_,fun k j Y=>?_,fun k j=>.inr ?_⟩
  .simp only[cX,underlying66,vt,yO,yP,show iR prog 66=true by kernel_rfl,z,OG,C,po,dh,oF,mK,g,cN,bK,lE,eS];rw[ah ⟨jT,jT,trivial,trivial,i⟩];simp
  .show((H.aR r).alloc _).get (H.aR r).next=_
   rw[aD,ah rfl];simp
  .rw[aD,af nh,gN,af ac]
  .rw[aD,af nh,gN,af (fun e=>Y ⟨_,nQ⟩)]
  .obtain⟨J,e⟩:=j;simp only[AV.sl.injEq]at e;omega
def y2(m:qw)(V:ed H v l lo)(L:lo<=H.next)(hb:l.length+m.length<2^40):
 ∃O H',cX prog false H 66 66 v (cZ m)=some (O,H')/\ed H' O (l++m) lo/\H.next<=H'.next/\(∀k,k<lo->H'.get k=H.get k)/\ss v O H H':=by
 by_cases Z:m=[]
 .subst Z;refine⟨v,H,?_,Ep,aH _,fun _ _=>rfl,fun _ _ _=>rfl,fun _ h=>.inl h⟩;obtain⟨r,Y,rfl,g,_⟩:=V;simp only[cX,underlying66,vt,yO,yP,show iR prog 66=true by kernel_rfl,y0,eQ,oK,dh,ik]
 .obtain⟨O,H',i,g,M,U⟩:=Jp (.inr V) L (zcB H m) Z hb;exact⟨O,H',i,g,ac,U⟩
def xB{imm:Nat}(s:qx)(V:eI H v l lo)(L:lo<=H.next)(M:H.get r=some (.cells [.aq s] imm true))(hb:l.length<2^39):
 ∃O H',cX prog false H 66 66 v (.sl r 0 1 1)=some (O,H')/\ed H' O (l++[s]) lo/\H'.next=H.next+1/\(∀k,k<lo->H'.get k=H.get k)/\ss v O H H':=
 Jp V L (Jo (m:=[s]) M) au bW
def zcC{w:AV}{lo':Nat}(V:ed H v l lo)(L:lo<=H.next)(Y:eI H w m lo')(hb:l.length+m.length<2^40):
 ∃O H',cX prog false H 66 66 v w=some (O,H')/\ed H' O (l++m) lo/\H.next<=H'.next/\(∀k,k<lo->H'.get k=H.get k)/\ss v O H H':=by
 by_cases Z:m=[]
 .subst Z;refine⟨v,H,?_,Ep,aH _,fun _ _=>rfl,fun _ _ _=>rfl,fun _ h=>.inl h⟩;obtain⟨r,J,rfl,U,_⟩:=V;rcases Y with⟨rfl,_⟩|⟨z,g,rfl,i,_⟩
  .simp only[cX,underlying66,vt,yO,yP,show iR prog 66=true by kernel_rfl,eQ]
  .have M:=Jo i;simp only[ik]at M;simp only[cX,underlying66,vt,yO,yP,show iR prog 66=true by kernel_rfl,ik,M]
 .rcases Y with⟨_,h⟩|⟨z,g,rfl,i,_⟩
  .exact(Z h).elim
  .obtain⟨O,H',I,U,j,C⟩:=Jp (.inr V) L (Jo i) Z hb;exact⟨O,H',I,U,ac,C⟩
def ed.len(h:ed H v l lo):ij prog H' 66 v=some (.int .i64 l.length):=by
 obtain⟨r,V,rfl,_⟩:=h;exact yM underlying66 _ _ _ _
theorem ed.at(h:ed H v l lo){i:Nat}(C:i<l.length):
 ∃r,ej prog 66 v (.int .i64 (i:Int))=some (.ptr r i)/\gL prog H 9 (.ptr r i)=some (.aq l[i]):=by
 obtain⟨r,V,rfl,g,_⟩:=h;refine⟨r,?_,?_⟩
 .rw[pp underlying66 vt C];simp
 .rw[vr underlying9 rfl g,eu,aL C];rfl
def ed.one{H:Hp}{v:AV}{l:qw}{lo:Nat}(h:ed H v l lo):AV.one v=true/\v.cells=[v]:=by
 obtain⟨r,V,rfl,_⟩:=h;exact⟨rfl,rfl⟩
theorem OH(l:qw):fP 1 l.length (l.map .aq)=l.map fun s=>[AV.aq s]:=by
 induction l with
 |nil=>rfl
 |cons a l ih=>simp[fP,ih]
theorem OI(n:Nat):∀(l:qw) (H:Hp),iA (fF (n+1)) (l.map .aq) H=some (l.map .aq,H)
 |[],H=>rfl
 |a::l,H=>by
  have:=OI n l H;have e:fF (n+1) (.aq a) H=some (.aq a,H):=rfl;simp only[dZ,iA,e,this]
theorem ed.aG(h:ed H v l lo)(n:Nat):
 ∃H',fF (n+2) v H=some (cZ l,H')/\ed H' v l lo/\H'.next=H.next/\(∀k,k<lo->H'.get k=H.get k)/\∀k,¬bc v k->H'.get k=H.get k:=by
 obtain⟨r,V,rfl,Y,m,U,M⟩:=h;refine⟨H.set r (.cells (l.map .aq) (max V l.length) true),?_,⟨r,max V l.length,rfl,gC,ac,U,M⟩,rfl,fun k j=>jU,fun k j=>by rw[aA,af (fun e=>j ⟨_,nQ⟩)]⟩;have e:fF (n+2) (.sl r 0 l.length 1) H=match H.get r with
  |some (.cells g V Z)=>match Nat.ble (0+l.length*1) g.length&&Nat.ble V g.length with
   |true=>match iA (fF (n+1)) ((g.drop 0).take (l.length*1)) (H.set r (.cells g (max V (0+l.length*1)) Z))with
    |some (C,H)=>some (.aE (fP 1 l.length C),H)
    |none=>none
   |false=>none
  |_=>none:=rfl
 rw[e,Y];simp only[cN,bK,lE,eS];have O:Nat.ble l.length l.length=true:=Er;have i:Nat.ble V l.length=true:=Er;rw[O,i];simp only[vn];rw[fI au,OI];simp only[OH]
def bF.args{P:Program}{ρ:Nat->Int}{O C:qt}{r:AV}(h:bF P ρ f O r)(V:∀(G:Gh) vs,cc G C vs->cc G O vs):bF P ρ f C r:=
 ⟨h.1,fun G w vs i g m=>h.2 G w vs i g (V G vs m)⟩
def zcD{G:Gh}{a:qt}{vs:qF}(h:cc G (.ak::a) vs):cc G (cZ []::a) vs:=by
 cases vs with
 |nil=>have:=h.1;simp at this
 |cons v vs=>
  obtain⟨L,i⟩:=h.a7;cases L;exact kq (.bQ _ _) i
def uy(x:Option qw×qx):qt:=match x with
 |(none,s)=>[.ak,.aq s]
 |(some l,s)=>[cZ l,.aq s]
def Jq(x y:Option qw×qx)(h:uy x=uy y):x=y:=by
 obtain⟨a,s⟩:=x;obtain⟨b,u⟩:=y;cases a<;>cases b<;>simp only[uy,dN,AV.aq.injEq,AV.aE.injEq,aN,reduceCtorEq,false_and,jy]at h
 .rw[h]
 .rw[xr h.1,h.2]
noncomputable def tu:En:=⟨148,true,bQ (fun x=>(x.1.getD []).length<2^60) uy fun x=>.bool (bu (x.1.getD []) x.2)⟩
def Jr:co prog ρ tu:=cz fun x z=>by
 obtain⟨a,s⟩:=x;cases a with
 |none=>exact bF.args (OE ρ [] s au) fun G vs h=>zcD h
 |some l=>exact OE ρ l s z
theorem Js{l:qB}(J:∀i,cM l 148 i=tu.sp i)(C:jt l 148=true){r:qw}(V:eI H v r lo)(hr:r.length<2^60)(s:qx):
 aM prog (ay pls l) 148 [v,.aq s] H fun w H'=>w=.bool (bu r s)/\eI H' v r lo/\H'.next=H.next/\(∀k,k<lo->H'.get k=H.get k)/\∀k,¬bc v k->H'.get k=H.get k:=by
 rcases V with⟨rfl,rfl⟩|V
 .refine aY ?_ (bZ (enc:=uy) (out:=fun x=>.bool (bu (x.1.getD []) x.2)) Jq (x:=(none,s)) (J _) hr);rintro w _ ⟨rfl,rfl⟩;exact⟨rfl,.inl ⟨rfl,rfl⟩,rfl,fun _ _=>rfl,fun _ _=>rfl⟩
 .obtain⟨H',Z,g,Y,U⟩:=V.aG 98;have m:∀y,(y.1.getD []).length<2^60->uy y≠[v,.aq s]:=fun y _ e=>by
   obtain⟨q,O,rfl,_⟩:=V;obtain⟨a,u⟩:=y;cases a<;>simp[uy]at e
  refine aY ?_ (Ef (enc:=uy) (out:=fun x=>.bool (bu (x.1.getD []) x.2)) Jq (x:=(some r,s)) J C hr m (H':=H') ?_)
  .rintro w _ ⟨rfl,rfl⟩;exact⟨rfl,.inr g,Y,U⟩
  .show iA (fF 100) [v,.aq s] H=some ([cZ r,.aq s],H');simp only[iA,Z];rfl
end Go.Proofs.YtbflaciihaijgaaGreat
namespace Go.Ab
set_option maxRecDepth 20000
open Go
variable{P:Program}{f:FuncId}{O:qt}{r v u:AV}{H H':Hp}{S S':Nat->Prop}{n:Nat}
def cp:Nat->AV->AV
 |0,v=>v
 |n+1,v=>match v with
  | .ak=>.aE []
  | .aE C=>.aE (C.map fun L=>L.map (cp n))
  | .agg g=>.agg (g.map (cp n))
  | .aX g=>.aX (g.map (cp n))
  |v=>v
theorem VR.wk{G:Gh}:∀(n:Nat) {v:AV}{x:Value},VR G v x->VR G (cp n v) x
 |0,_,_,h=>h
 |n+1,v,x,h=>by
  cases h with
  |ak=>exact .bQ _ _
  |aE vs hz O V hc=>
   rename_i xs b o cap z;have:=VR.aE (G:=G) (xs:=xs.map fun L=>L.map (cp n)) (b:=b) (o:=o) (cap:=cap) (z:=z) vs ?_ ?_ ?_ ?_
   .rw[cN]at this;exact this
   .intro i L hr;rw[eu]at hr;cases U:xs[i]? with
    |none=>rw[U]at hr;simp at hr
    |some bV=>rw[U]at hr;simp only[lC]at hr;rw[<-hr,cN];exact hz i bV U
   .intro i j M I;rw[cN]at M;exact O i j M I
   .intro i j L c hr C;rw[eu]at hr;cases U:xs[i]? with
    |none=>rw[U]at hr;simp at hr
    |some bV=>
     rw[U]at hr;simp only[lC]at hr;rw[<-hr,eu]at C;cases Y:bV[j]? with
     |none=>rw[Y]at C;simp at C
     |some c0=>rw[Y]at C;simp only[lC]at C;rw[<-C];exact VR.wk n (V i j bV c0 U Y)
   .rw[cN];exact hc
  |bQ a cap=>exact .bQ a cap
  |agg J V=>
   refine .agg Jj fun i c v hc Z=>?_;rw[eu]at hc;rename_i g vs;cases Y:g[i]? with
   |none=>rw[Y]at hc;simp at hc
   |some c0=>rw[Y]at hc;simp only[lC]at hc;rw[<-hc];exact VR.wk n (V i c0 v Y Z)
  |aX J V=>
   refine .aX Jj fun i c v hc Z=>?_;rw[eu]at hc;rename_i g vs;cases Y:g[i]? with
   |none=>rw[Y]at hc;simp at hc
   |some c0=>rw[Y]at hc;simp only[lC]at hc;rw[<-hc];exact VR.wk n (V i c0 v Y Z)
  |int k m=>exact .int k m
  |sx k e=>exact .sx k e
  |bool b=>exact .bool b
  |aq s l h=>exact .aq s l h
  |bC=>exact .bC
  |bi=>exact .bi
  |bL=>exact .bL
  |ptr h=>exact .ptr h
  |bj vs O V=>exact .bj vs O V
  |sl h J hc=>exact .sl h J hc
  |map h=>exact .map h
  |bm J V=>exact .bm J V
def bF.wk{ρ:Nat->Int}(n:Nat)(h:bF P ρ f O r):bF P ρ f O (cp n r):=
 ⟨h.1,fun G w vs i g m=>(h.2 G w vs i g m).mono fun _ _ ⟨v,I,U,M,Z⟩=>⟨v,I,U,M.wk n,Z⟩⟩
def Jt{ρ:Nat->Int}{V:AV}(n:Nat)(h:bF P ρ f O r)(e:cp n r=V):bF P ρ f O V:=e▸h.wk n
variable {P:Program} {cfg:Cfg} {f N:Nat}
theorem zcE{c:SC}{E:ax}{Q:AX->ax->Hp->Prop}(cs:qD)(h:∀E':ax,(∀k∈cs,E'.at k=E.at k)->cb P cfg f N c E' H Q):cb P cfg f N c E H Q:=h E fun _ _=>rfl
def cE{I β:Type}(p:I->β->Prop):List I->List β->Prop
 |[],[]=>True
 |a::l,b::m=>p a b/\cE p l m
 |_,_=>False
theorem cE.len{I β:Type}{p:I->β->Prop}:∀{l:List I}{m:List β},cE p l m->l.length=m.length
 |[],[],_=>rfl
 |_::_,_::_,h=>by simp only[eF,cE.len h.2]
theorem cE.mono{I β:Type}{p q:I->β->Prop}(h:∀a b,p a b->q a b):∀{l:List I}{m:List β},cE p l m->cE q l m
 |[],[],_=>trivial
 |_::_,_::_,k=>⟨h _ _ k.1,cE.mono h k.2⟩
theorem cE.append{I β:Type}{p:I->β->Prop}:∀{l:List I}{m:List β}{C:List I}{U:List β},cE p l m->cE p C U->cE p (l++C) (m++U)
 |[],[],_,_,_,h=>h
 |_::_,_::_,_,_,h,k=>⟨h.1,cE.append h.2 k⟩
theorem cE.refl{I:Type}{p:I->I->Prop}:∀{l:List I},(∀a∈l,p a a)->cE p l l
 |[],_=>trivial
 |a::l,h=>⟨h a ei,cE.refl fun b hb=>h b (ev _ hb)⟩
theorem cE.get{I β:Type}{p:I->β->Prop}:∀{l:List I}{m:List β},cE p l m->∀{i:Nat}{a:I}{b:β},l[i]?=some a->m[i]?=some b->p a b
 |[],[],_,i,_,_,h,_=>by simp at h
 |a::l,b::m,h,0,_,_,h1,h2=>by
  simp only[nV,aI]at h1 h2;subst h1;subst h2;exact h.1
 |a::l,b::m,h,i+1,_,_,h1,h2=>cE.get h.2 (by simpa using h1) (by simpa using h2)
theorem cE.set{I β:Type}{p:I->β->Prop}:∀{l:List I}{m:List β},cE p l m->∀{i:Nat}{a:I}{b:β},p a b->cE p (l.set i a) (m.set i b)
 |[],[],_,i,_,_,_=>by simp[cE]
 |_::_,_::_,h,0,_,_,k=>⟨k,h.2⟩
 |_::_,_::_,h,i+1,_,_,k=>⟨h.1,cE.set h.2 k⟩
def OJ(v:AV):Prop:=fY v/\match v with
 | .sl _ _ _ _|.agg _=>False
 |_=>True
def dc(S:Nat->Prop):Nat->Hp->AV->AV->Prop
 |0,_,_,_=>False
 |n+1,H,v,u=>match v with
  | .sl r I V z=>S r/\r<H.next/\∃g Z Y l,H.get r=some (.cells g Z Y)/\Z<=g.length/\I+V*z<=g.length/\cE (dc S n H) ((g.drop I).take (V*z)) l/\u=.aE (fP z V l)
  | .agg g=>∃U,cE (dc S n H) g U/\u=.agg U
  |v=>fY v/\u=v
def dc.bN(h:OJ v):dc S (n+1) H v v:=by
 cases v<;>first|exact h.2.elim|exact⟨h.1,rfl⟩
def pD:=@dc.bN
theorem dc.up{S:Nat->Prop}{H:Hp}:∀{n m:Nat}{v u:AV},dc S n H v u->n<=m->dc S m H v u
 |0,_,_,_,h,_=>h.elim
 |n+1,0,_,_,_,hm=>by omega
 |n+1,m+1,v,u,h,hm=>by
  cases v with
  |sl r C j z=>
   obtain⟨i,U,Y,V,Z,l,g,O,M,L,J⟩:=h;exact⟨i,U,Y,V,Z,l,g,O,M,L.mono fun a b k=>dc.up k ac,J⟩
  |agg Y=>
   obtain⟨I,i,g⟩:=h;exact⟨I,i.mono fun a b k=>dc.up k ac,g⟩
  |_=>exact h
def oN(a b:Option HB):Prop:=a=b\/∃g i j Z,a=some (.cells g i Z)/\b=some (.cells g j Z)/\(i<=g.length->j<=g.length)
def oN.trans{a b c:Option HB}(h:oN a b)(k:oN b c):oN a c:=by
 rcases h with rfl|⟨g,i,j,Z,rfl,rfl,h⟩
 .exact k
 .rcases k with rfl|⟨I,U,Y,V,e,rfl,k⟩
  .exact .inr ⟨g,i,j,Z,rfl,rfl,h⟩
  .simp only[aI,HB.cells.injEq]at e;obtain⟨rfl,rfl,rfl⟩:=e;exact .inr ⟨g,i,Y,Z,rfl,rfl,fun q=>k (h q)⟩
theorem dc.b1{S S':Nat->Prop}{H H':Hp}(hS:∀k,k<H.next->S k->S' k)(I:H.next<=H'.next)(C:∀k,S k->k<H.next->oN (H.get k) (H'.get k)):∀{n:Nat}{v u:AV},dc S n H v u->dc S' n H' v u
 |0,_,_,h=>h.elim
 |n+1,v,u,h=>by
  cases v with
  |sl r off len z=>
   obtain⟨Z,V,O,M,Y,l,g,m,J,h5,h6⟩:=h;have U:=h5.mono fun a b k=>dc.b1 hS I C k;rcases C r Z V with e|⟨cs',i,j,tip',L,e2,e3⟩
   .exact⟨hS r V Z,ac,O,M,Y,l,by rw[<-e];exact g,m,J,U,h6⟩
   .rw[g]at L;simp only[aI,HB.cells.injEq]at L;obtain⟨rfl,rfl,rfl⟩:=L;exact⟨hS r V Z,ac,O,j,Y,l,e2,e3 m,J,U,h6⟩
  |agg O=>
   obtain⟨ds,Z,g⟩:=h;exact⟨ds,Z.mono fun a b k=>dc.b1 hS I C k,g⟩
  |_=>exact h
def dc.frame(hS:∀k,S k->S' k)(I:H.next<=H'.next)(C:∀k,S k->k<H.next->oN (H.get k) (H'.get k))(h:dc S n H v u):dc S' n H' v u:=h.b1 (fun k _ q=>hS k q) I C
structure Icy (S:Nat->Prop) (H H':Hp):Prop where
 next:H'.next=H.next
 out:∀k,¬S k->H'.get k=H.get k
 same:∀k,oN (H.get k) (H'.get k)
def Icy.refl(S:Nat->Prop)(H:Hp):Icy S H H:=⟨rfl,fun _ _=>rfl,fun _=>.inl rfl⟩
def Icy.trans{a b c:Hp}(h:Icy S a b)(k:Icy S b c):Icy S a c:=⟨k.next.trans h.next,fun r hr=>(k.out r hr).trans (h.out r hr),fun r=>(h.same r).trans (k.same r)⟩
def Icy.ic(h:Icy S H H')(k:dc S' n H v u):dc S' n H' v u:=k.frame (fun _ q=>q) (kC h.next.symm) fun r _ _=>h.same r
theorem Ew{S:Nat->Prop}{n:Nat}(ih:∀{v u:AV}{H:Hp},dc S n H v u->∃H',fF n v H=some (u,H')/\Icy S H H'):∀{l m:qt}{H:Hp},cE (dc S n H) l m->∃H',iA (fF n) l H=some (m,H')/\Icy S H H'
 |[],[],H,_=>⟨H,rfl,Icy.refl S H⟩
 |a::l,b::m,H,h=>by
  obtain⟨H1,i,g⟩:=ih h.1;obtain⟨Z,Y,U⟩:=Ew ih (l:=l) (m:=m) (H:=H1) (h.2.mono fun a b k=>g.ic k);exact⟨Z,by simp only[iA,i,Y],g.trans U⟩
theorem dc.aG{S:Nat->Prop}:∀{n:Nat}{v u:AV}{H:Hp},dc S n H v u->∃H',fF n v H=some (u,H')/\Icy S H H'
 |0,_,_,_,h=>h.elim
 |n+1,v,u,H,h=>by
  cases v with
  |sl r I V z=>
   obtain⟨i,h0,g,Z,Y,l,O,m,L,J,rfl⟩:=h;have U:Icy S H (H.set r (.cells g (max Z (I+V*z)) Y)):=by
    refine⟨rfl,fun k j=>by rw[aA,af (fun e=>j (by rw[e];exact i))],fun k=>?_⟩;rw[aA];split
    .rename_i e;subst e;exact .inr ⟨g,Z,max Z (I+V*z),Y,O,rfl,fun _=>ac⟩
    .exact .inl rfl
   obtain⟨H',C,h7⟩:=Ew (fun k=>dc.aG k) (J.mono fun a b k=>U.ic k);refine⟨H',?_,U.trans h7⟩;have e:fF (n+1) (.sl r I V z) H=match H.get r with
    |some (.cells g Z Y)=>match Nat.ble (I+V*z) g.length&&Nat.ble Z g.length with
     |true=>match iA (fF n) ((g.drop I).take (V*z)) (H.set r (.cells g (max Z (I+V*z)) Y))with
      |some (l',H)=>some (.aE (fP z V l'),H)
      |none=>none
     |false=>none
    |_=>none:=rfl
   rw[e,O];have e1:Nat.ble (I+V*z) g.length=true:=by rw[Nat.ble_eq];exact L
   have e2:Nat.ble Z g.length=true:=by rw[Nat.ble_eq];exact m
   simp only[e1,e2,vn,C]
  |agg g=>
   obtain⟨M,i,rfl⟩:=h;obtain⟨H',O,m⟩:=Ew (fun k=>dc.aG k) i;refine⟨H',?_,m⟩;have e:fF (n+1) (.agg g) H=match iA (fF n) g H with
    |some (M,H)=>some (.agg M,H)
    |none=>none:=rfl
   rw[e,O]
  |ptr r o=>
   obtain⟨k,j⟩:=h.1;exact absurd (j (k+1) ac H) (by simp[iceV])
  |map r=>
   obtain⟨k,j⟩:=h.1;exact absurd (j (k+1) ac H) (by simp[iceV])
  |_=>exact⟨H,by rw[show u=_ from h.2];rfl,Icy.refl S H⟩
def dc.iceL{l m:qt}(h:cE (dc S n H) l m):∃H',iA (fF n) l H=some (m,H')/\Icy S H H':=Ew (fun k=>dc.aG k) h
theorem Ey{S:Nat->Prop}{n:Nat}{H:Hp}(ih:∀{v u:AV},dc S n H v u->∃J,∀m,J<=m->iceV H m v=some u):∀{l k:qt},cE (dc S n H) l k->∃J,∀m,J<=m->iceL (iceV H m) l=some k
 |[],[],_=>⟨0,fun _ _=>rfl⟩
 |a::l,b::k,h=>by
  obtain⟨ct,i⟩:=ih h.1;obtain⟨I,g⟩:=Ey ih (l:=l) (k:=k) h.2;exact⟨max ct I,fun m O=>by simp only[iceL,i m ac,g m ac]⟩
theorem dc.iceV{S:Nat->Prop}{H:Hp}:∀{n:Nat}{v u:AV},dc S n H v u->∃J,∀m,J<=m->iceV H m v=some u
 |0,_,_,h=>h.elim
 |n+1,v,u,h=>by
  cases v with
  |sl r I V z=>
   obtain⟨i,h0,g,U,L,l,j,h3,h4,M,rfl⟩:=h;obtain⟨J,Z⟩:=Ey (fun k=>dc.iceV k) M;refine⟨J+1,fun m O=>?_⟩;obtain⟨m,rfl⟩:∃k,m=k+1:=⟨m-1,ac⟩;have e:Ab.iceV H (m+1) (.sl r I V z)=match H.get r with
    |some (.cells g _ _)=>match Ab.iceL (Ab.iceV H m) ((g.drop I).take (V*z))with
     |some C=>if C.length=V*z then some (.aE (fP z V C))else none
     |none=>none
    |_=>none:=rfl
   have hl:l.length=V*z:=by rw[<-M.len,mP,kT];omega
   rw[e,j];simp only[Z m ac,hl,dh]
  |agg g=>
   obtain⟨Y,i,rfl⟩:=h;obtain⟨J,Z⟩:=Ey (fun k=>dc.iceV k) i;refine⟨J+1,fun m O=>?_⟩;obtain⟨m,rfl⟩:∃k,m=k+1:=⟨m-1,ac⟩;have e:Ab.iceV H (m+1) (.agg g)=match Ab.iceL (Ab.iceV H m) g with
    |some Y=>some (.agg Y)
    |none=>none:=rfl
   rw[e,Z m ac]
  |_=>
   obtain⟨k,hk⟩:=h.1;exact⟨k,fun m O=>by rw[hk m O H,h.2]⟩
theorem chunk_rows(z:Nat):∀(rows:List qt),(∀r∈rows,r.length=z)->fP z rows.length rows.flatten=rows
 |[],_=>rfl
 |r::rows,h=>by
  have i:=h r ei;rw[jL,eF];show(r++rows.flatten).take z::fP z rows.length ((r++rows.flatten).drop z)=_;rw[Aq ac,fI ac,Dt ac,De ac,nN,chunk_rows z rows fun q L=>h q (ev _ L)]
theorem y3{z:Nat}:∀{rows:List qt},(∀r∈rows,r.length=z)->rows.flatten.length=rows.length*z
 |[],_=>by simp
 |r::rows,h=>by
  rw[jL,fB,h r ei,y3 fun q L=>h q (ev _ L),eF,ud];omega
theorem cE.bN{p:AV->AV->Prop}:∀{a b:List qt},cE (cE p) a b->cE p a.flatten b.flatten
 |[],[],_=>trivial
 |_::_,_::_,h=>by rw[jL,jL];exact h.1.append (cE.bN h.2)
theorem cE.dd{p:AV->AV->Prop}{z:Nat}:∀{a b:List qt},cE (cE p) a b->(∀r∈a,r.length=z)->∀r∈b,r.length=z
 |[],[],_,_,r,hr=>by simp at hr
 |x::a,y::b,h,hz,r,hr=>by
  rcases gE.1 hr with rfl|hr
  .rw[<-h.1.len];exact hz x ei
  .exact cE.dd h.2 (fun q L=>hz q (ev _ L)) r hr
def dc.rows{r z imm:Nat}{tip:Bool}{a b:List qt}(hS:S r)(hr:r<H.next)(hg:H.get r=some (.cells a.flatten imm tip))(C:imm<=a.flatten.length)(I:∀x∈a,x.length=z)(h:cE (cE (dc S n H)) a b):dc S (n+1) H (.sl r 0 a.length z) (.aE b):=by
 have J:=y3 I;refine⟨hS,hr,a.flatten,imm,tip,b.flatten,hg,C,ac,?_,?_⟩
 .rw[eS,fI ac];exact h.bN
 .rw[h.len,chunk_rows z b (h.dd I)]
theorem cc.wk{G:Gh}(n:Nat):∀{O:qt}{vs:qF},cc G O vs->cc G (O.map (cp n)) vs
 |[],vs,h=>h
 |a::l,[],h=>by have:=h.1;simp at this
 |a::l,v::vs,h=>by
  obtain⟨i,g⟩:=h.a7;exact kq (i.wk n) (cc.wk n g)
def bF.wkA{P:Program}{ρ:Nat->Int}{f:FuncId}(n:Nat)(h:bF P ρ f (O.map (cp n)) r):bF P ρ f O r:=⟨h.1,fun G w vs i g m=>h.2 G w vs i g (m.wk n)⟩
def pE(e:En):En:=⟨e.f,e.aG,fun O=>e.sp (O.map (cp 60))⟩
def y4{P:Program}{ρ:Nat->Int}{e:En}(h:co P ρ e):co P ρ (pE e):=fun O r hr=>(h _ r hr).wkA 60
end Go.Ab
namespace Go.Proofs.YtbflaciihaijgaaGreat
set_option maxRecDepth 20000
open Go Go.Ab Proofs.Tryz
variable{H H':Hp}{v x:AV}{l m:qu}{lo k r o:Nat}{cs:qt}
def ir(H:Hp)(v:AV)(l:qu)(lo:Nat):Prop:=∃r V,v=.sl r 0 l.length 1/\H.get r=some (.cells (l.map (.int .i64)) V true)/\V<=l.length/\lo<=r/\r<H.next
def eL(H:Hp)(v:AV)(l:qu)(lo:Nat):Prop:=(v=.ak/\l=[])\/ir H v l lo
def ir.bY(h:ir H v l lo)(I:H.next<=H'.next)(hg:∀k,lo<=k->k<H.next->H'.get k=H.get k):ir H' v l lo:=by
 obtain⟨r,V,i,g,m,U,M⟩:=h;exact⟨r,V,i,by rw[hg r U M];exact g,m,U,ac⟩
def ir.lt(h:ir H v l lo)(j:bc v k):lo<=k/\k<H.next:=by
 obtain⟨r,V,rfl,_,_,U,M⟩:=h;obtain⟨n,e⟩:=j;simp only[AV.sl.injEq]at e;rw[<-e.1];exact⟨U,M⟩
def eL.lt(h:eL H v l lo)(j:bc v k):lo<=k/\k<H.next:=by
 rcases h with⟨rfl,_⟩|h
 .obtain⟨n,e⟩:=j;simp at e
 .exact h.lt j
def ir.keep(h:ir H v l lo)(I:H.next<=H'.next)(hg:∀k,bc v k->H'.get k=H.get k):ir H' v l lo:=by
 obtain⟨r,V,rfl,g,m,U,M⟩:=h;exact⟨r,V,rfl,Eo,m,U,ac⟩
def eL.keep(h:eL H v l lo)(I:H.next<=H'.next)(hg:∀k,bc v k->H'.get k=H.get k):eL H' v l lo:=h.imp id fun h=>h.keep I hg
def Ez(l:qu):(l.map (AV.int .i64)).all AV.one=true:=by simp[AV.one]
theorem zcF(m:qu):(m.map fun s=>[AV.int .i64 s]).flatten=m.map (.int .i64):=by induction m with
 |nil=>rfl
 |cons a m ih=>simp[ih]
theorem zcG(H:Hp)(m:qu):eQ H 1 (dJ m)=some (m.length,m.map (.int .i64)):=by
 have e:eQ H 1 (dJ m)=if ((m.map fun s=>[AV.int .i64 s]).all fun L=>L.length == 1)then some ((m.map fun s=>[AV.int .i64 s]).length,(m.map fun s=>[AV.int .i64 s]).flatten)else none:=rfl
 rw[e,ah au,zcF,cN]
def vI{imm:Nat}(h:H.get r=some (.cells (m.map (.int .i64)) imm true)):eQ H 1 (.sl r 0 m.length 1)=some (m.length,m.map (.int .i64)):=by
 have:=pq (H:=H) (r:=r) (o:=0) (n:=m.length) (z:=1) (s:=1) h au;rw[this,eS,fI au]
theorem Ju(U:eL H v l lo)(Z:lo<=H.next)(z:eQ H 1 x=some (m.length,m.map (.int .i64)))(M:m≠[])(hb:l.length+m.length<2^40):
 ∃O H',cX prog false H 26 26 v x=some (O,H')/\ir H' O (l++m) lo/\H'.next=H.next+1/\(∀k,k<lo->H'.get k=H.get k)/\ss v O H H':=by
 obtain⟨n,I⟩:∃n,m.length=n+1:=⟨m.length-1,Ji⟩;have L:dL=70368744177664:=rfl;rw[I]at z;rcases U with⟨rfl,rfl⟩|⟨r,V,rfl,g,i,h4,h5⟩
 .refine⟨.sl H.next 0 (n+1) 1,H.alloc (.cells (m.map (.int .i64)) 0 true),append_nil underlying26 jg pw px aB z (Ez m) rfl jT jT,⟨H.next,0,vE,iq,ac,Z,cC _⟩,rfl,fun k j=>fq,fun k j _=>fq,fun k j=>.inr ?_⟩;obtain⟨J,e⟩:=j;simp only[AV.sl.injEq]at e;omega
 .have C:ii false H 1 (.sl r 0 l.length 1)=H:=by
   unfold ii;simp only[g,bK,cN,lE];have:Nat.blt l.length l.length=false:=by
    cases hb:Nat.blt l.length l.length with
    |false=>rfl
    |true=>rw[jK]at hb;omega
   simp[this]
  refine⟨.sl H.next 0 (l.length+(n+1)) 1,(H.aR r).alloc (.cells (l.map (.int .i64)++m.map (.int .i64)) (V-0) true),?_,⟨H.next,V,vE,?_,bW,Z,cC _⟩,rfl,fun k j=>?_,fun k j Y=>?_,fun k j=>.inr ?_⟩
  .simp only[cX,underlying26,jg,pw,px,show iR prog 26=true by kernel_rfl,z,Ez,C,po,dh,oF,mK,g,cN,bK,lE,eS];rw[ah ⟨jT,jT,trivial,trivial,i⟩];simp
  .show((H.aR r).alloc _).get (H.aR r).next=_
   rw[aD,ah rfl];simp
  .rw[aD,af nh,gN,af ac]
  .rw[aD,af nh,gN,af (fun e=>Y ⟨_,nQ⟩)]
  .obtain⟨J,e⟩:=j;simp only[AV.sl.injEq]at e;omega
def xC{imm:Nat}(s:Int)(V:eL H v l lo)(L:lo<=H.next)(M:H.get r=some (.cells [.int .i64 s] imm true))(hb:l.length<2^39):
 ∃O H',cX prog false H 26 26 v (.sl r 0 1 1)=some (O,H')/\ir H' O (l++[s]) lo/\H'.next=H.next+1/\(∀k,k<lo->H'.get k=H.get k)/\ss v O H H':=
 Ju V L (vI (m:=[s]) M) au bW
def zcH{w:AV}{lo':Nat}(V:ir H v l lo)(L:lo<=H.next)(Y:eL H w m lo')(hb:l.length+m.length<2^40):
 ∃O H',cX prog false H 26 26 v w=some (O,H')/\ir H' O (l++m) lo/\H.next<=H'.next/\(∀k,k<lo->H'.get k=H.get k)/\ss v O H H':=by
 by_cases Z:m=[]
 .subst Z;refine⟨v,H,?_,Ep,aH _,fun _ _=>rfl,fun _ _ _=>rfl,fun _ h=>.inl h⟩;obtain⟨r,J,rfl,U,_⟩:=V;rcases Y with⟨rfl,_⟩|⟨z,g,rfl,i,_⟩
  .simp only[cX,underlying26,jg,pw,px,show iR prog 26=true by kernel_rfl,eQ]
  .have M:=vI i;simp only[ik]at M;simp only[cX,underlying26,jg,pw,px,show iR prog 26=true by kernel_rfl,ik,M]
 .rcases Y with⟨_,h⟩|⟨z,g,rfl,i,_⟩
  .exact(Z h).elim
  .obtain⟨O,H',I,U,j,C⟩:=Ju (.inr V) L (vI i) Z hb;exact⟨O,H',I,U,ac,C⟩
def ir.len(h:ir H v l lo):ij prog H' 26 v=some (.int .i64 l.length):=by
 obtain⟨r,V,rfl,_⟩:=h;exact yM underlying26 _ _ _ _
theorem ir.at(h:ir H v l lo){i:Nat}(C:i<l.length):
 ∃r,ej prog 26 v (.int .i64 (i:Int))=some (.ptr r i)/\gL prog H 3 (.ptr r i)=some (.int .i64 l[i]):=by
 obtain⟨r,V,rfl,g,_⟩:=h;refine⟨r,?_,?_⟩
 .rw[pp underlying26 jg C];simp
 .rw[vr underlying3 rfl g,eu,aL C];rfl
theorem EA(l:qu):fP 1 l.length (l.map (.int .i64))=l.map fun s=>[AV.int .i64 s]:=by
 induction l with
 |nil=>rfl
 |cons a l ih=>simp[fP,ih]
theorem OK(n:Nat):∀(l:qu) (H:Hp),iA (fF (n+1)) (l.map (.int .i64)) H=some (l.map (.int .i64),H)
 |[],H=>rfl
 |a::l,H=>by
  have:=OK n l H;have e:fF (n+1) (.int .i64 a) H=some (.int .i64 a,H):=rfl;simp only[dZ,iA,e,this]
theorem ir.aG(h:ir H v l lo)(n:Nat):
 ∃H',fF (n+2) v H=some (dJ l,H')/\ir H' v l lo/\H'.next=H.next/\(∀k,k<lo->H'.get k=H.get k)/\∀k,¬bc v k->H'.get k=H.get k:=by
 obtain⟨r,V,rfl,Y,m,U,M⟩:=h;refine⟨H.set r (.cells (l.map (.int .i64)) (max V l.length) true),?_,⟨r,max V l.length,rfl,gC,ac,U,M⟩,rfl,fun k j=>jU,fun k j=>by rw[aA,af (fun e=>j ⟨_,nQ⟩)]⟩;have e:fF (n+2) (.sl r 0 l.length 1) H=match H.get r with
  |some (.cells g V Z)=>match Nat.ble (0+l.length*1) g.length&&Nat.ble V g.length with
   |true=>match iA (fF (n+1)) ((g.drop 0).take (l.length*1)) (H.set r (.cells g (max V (0+l.length*1)) Z))with
    |some (C,H)=>some (.aE (fP 1 l.length C),H)
    |none=>none
   |false=>none
  |_=>none:=rfl
 rw[e,Y];simp only[cN,bK,lE,eS];have O:Nat.ble l.length l.length=true:=Er;have i:Nat.ble V l.length=true:=Er;rw[O,i];simp only[vn];rw[fI au,OK];simp only[EA]
def pF(H:Hp)(v:AV)(l:qu)(lo:Nat):Prop:=∃r,v=.sl r 0 l.length 1/\H.get r=some (.cells (l.map (.int .i64)) 0 true)/\lo<=r/\r<H.next
def i7(H:Hp)(v:AV)(l:qu)(lo:Nat):Prop:=(v=.ak/\l=[])\/pF H v l lo
def pF.b(h:pF H v l lo):ir H v l lo:=by
 obtain⟨r,i,g,m,U⟩:=h;exact⟨r,0,i,g,de _,m,U⟩
def i7.n(h:i7 H v l lo):eL H v l lo:=h.imp id fun h=>h.b
def pF.keep(h:pF H v l lo)(I:H.next<=H'.next)(hg:∀k,bc v k->H'.get k=H.get k):pF H' v l lo:=by
 obtain⟨r,rfl,g,U,M⟩:=h;exact⟨r,rfl,Eo,U,ac⟩
def i7.keep(h:i7 H v l lo)(I:H.next<=H'.next)(hg:∀k,bc v k->H'.get k=H.get k):i7 H' v l lo:=h.imp id fun h=>h.keep I hg
theorem EB(Y:i7 H v l lo)(Z:lo<=H.next)(z:eQ H 1 x=some (m.length,m.map (.int .i64)))(U:m≠[])(hb:l.length+m.length<2^40):
 ∃O H',cX prog false H 26 26 v x=some (O,H')/\pF H' O (l++m) lo/\H'.next=H.next+1/\(∀k,k<lo->H'.get k=H.get k)/\ss v O H H':=by
 obtain⟨n,I⟩:∃n,m.length=n+1:=⟨m.length-1,by have:=tq.2 U;omega⟩;have L:dL=70368744177664:=rfl;rw[I]at z;rcases Y with⟨rfl,rfl⟩|⟨r,rfl,g,J,i⟩
 .refine⟨.sl H.next 0 (n+1) 1,H.alloc (.cells (m.map (.int .i64)) 0 true),append_nil underlying26 jg pw px aB z (Ez m) rfl jT jT,⟨H.next,vE,iq,Z,cC _⟩,rfl,fun k j=>fq,fun k j _=>fq,fun k j=>.inr ?_⟩;obtain⟨M,e⟩:=j;simp only[AV.sl.injEq]at e;omega
 .have C:ii false H 1 (.sl r 0 l.length 1)=H:=by
   unfold ii;simp only[g,bK,cN,lE];have:Nat.blt l.length l.length=false:=by
    cases hb:Nat.blt l.length l.length with
    |false=>rfl
    |true=>rw[jK]at hb;omega
   simp[this]
  refine⟨.sl H.next 0 (l.length+(n+1)) 1,(H.aR r).alloc (.cells (l.map (.int .i64)++m.map (.int .i64)) (0-0) true),?_,⟨H.next,vE,?_,Z,cC _⟩,rfl,fun k j=>?_,fun k j V=>?_,fun k j=>.inr ?_⟩
  .simp only[cX,underlying26,jg,pw,px,show iR prog 26=true by kernel_rfl,z,Ez,C,po,dh,oF,mK,g,cN,bK,lE,eS];rw[ah ⟨jT,jT,trivial,trivial,de _⟩];simp
  .show((H.aR r).alloc _).get (H.aR r).next=_
   rw[aD,ah rfl];simp
  .rw[aD,af nh,gN,af ac]
  .rw[aD,af nh,gN,af (fun e=>V ⟨_,nQ⟩)]
  .obtain⟨M,e⟩:=j;simp only[AV.sl.injEq]at e;omega
def zcI{imm:Nat}(s:Int)(V:i7 H v l lo)(L:lo<=H.next)(M:H.get r=some (.cells [.int .i64 s] imm true))(hb:l.length<2^39):
 ∃O H',cX prog false H 26 26 v (.sl r 0 1 1)=some (O,H')/\pF H' O (l++[s]) lo/\H'.next=H.next+1/\(∀k,k<lo->H'.get k=H.get k)/\ss v O H H':=
 EB V L (vI (m:=[s]) M) au bW
theorem zcJ(n:Nat):kM [.int .i64 0] n=(List.replicate n (0:Int)).map (.int .i64):=by
 induction n with
 |zero=>rfl
 |succ n ih=>simp only[kM,ih];simp[Jm]
theorem zcK(n:Nat):kM [.bool false] n=(List.replicate n false).map .bool:=by
 induction n with
 |zero=>rfl
 |succ n ih=>simp only[kM,ih];simp[Jm]
theorem zcL(n c:Nat)(h:n<=c)(g:c<2^40):j9 prog H 26 (.int .i64 n) (.int .i64 c)=some (.sl H.next 0 n 1,H.alloc (.cells ((List.replicate n (0:Int)).map (.int .i64)) 0 true)):=by
 have O:dL=70368744177664:=rfl;show j9 prog H 26 (.int .i64 (Int.ofNat n)) (.int .i64 (Int.ofNat c))=_;simp only[j9,underlying26,jg,pw,px];rw[ah ⟨h,oC,oC,rfl⟩,zcJ]
theorem Jv(n:Nat)(g:n<2^40):j9 prog H 149 (.int .i64 n) (.int .i64 n)=some (.sl H.next 0 n 1,H.alloc (.cells ((List.replicate n false).map .bool) 0 true)):=by
 have O:dL=70368744177664:=rfl;show j9 prog H 149 (.int .i64 (Int.ofNat n)) (.int .i64 (Int.ofNat n))=_;simp only[j9,underlying149,D0,NB,NC];rw[ah ⟨aH _,oC,oC,rfl⟩,zcK]
def splice_one(cs:qt)(O:o<cs.length)(x:AV):splice cs o [x]=cs.set o x:=by
 rw[Np,List.set_eq_take_append_cons_drop,ah O];simp
def y5(hg:H.get r=some (.cells cs 0 true))(O:o<cs.length)(n:Int):mr prog H 3 (.ptr r o) (.int .i64 n)=some (H.set r (.cells (cs.set o (.int .i64 n)) 0 true)):=by
 rw[DV,hg,jg,DU,Ab.cells_int,splice_one cs O,ah ⟨rfl,de _,O,rfl⟩]
def zcM(hg:H.get r=some (.cells cs 0 true))(O:o<cs.length)(b:Bool):mr prog H 4 (.ptr r o) (.bool b)=some (H.set r (.cells (cs.set o (.bool b)) 0 true)):=by
 rw[DV,hg,D0,DU,Nq,splice_one cs O,ah ⟨rfl,de _,O,rfl⟩]
def Bj(l:qu):AV:=if l=[]then .ak else dJ l
def su(H:Hp)(v:AV)(l:qu)(lo:Nat):Prop:=(v=.ak/\l=[])\/(l≠[]/\ir H v l lo)
def su.n(h:su H v l lo):eL H v l lo:=h.imp id fun h=>h.2
def su.keep(h:su H v l lo)(I:H.next<=H'.next)(hg:∀k,bc v k->H'.get k=H.get k):su H' v l lo:=h.imp id fun h=>⟨h.1,h.2.keep I hg⟩
theorem OL(H:Hp)(n:Nat):∀l:qu,iceL (iceV H (n+1)) (l.map (.int .i64))=some (l.map (.int .i64))
 |[]=>rfl
 |a::l=>by
  have:=OL H n l;have e:iceV H (n+1) (.int .i64 a)=some (.int .i64 a):=rfl;simp only[dZ,iceL,e,this]
theorem ir.iceV{H:Hp}{v:AV}{l:qu}{lo:Nat}(h:ir H v l lo)(n:Nat):iceV H (n+2) v=some (dJ l):=by
 obtain⟨r,V,rfl,g,_⟩:=h;have e:Ab.iceV H (n+2) (.sl r 0 l.length 1)=match H.get r with
  |some (.cells Z _ _)=>match iceL (Ab.iceV H (n+1)) ((Z.drop 0).take (l.length*1))with
   |some C=>if C.length=l.length*1 then some (.aE (fP 1 l.length C))else none
   |none=>none
  |_=>none:=rfl
 rw[e,g];simp only[eS,lE];rw[fI au,OL];simp only[cN,dh,EA]
def su.iceV(h:su H v l lo)(n:Nat):iceV H (n+2) v=some (Bj l):=by
 rcases h with⟨rfl,rfl⟩|⟨U,h⟩
 .rfl
 .rw[h.iceV,Bj,af U]
theorem zcN(n:Nat)(l:qu):cp (n+2) (Bj l)=dJ l:=by
 unfold Bj;split
 .rename_i h;subst h;rfl
 .show AV.aE ((l.map fun s=>[AV.int .i64 s]).map fun L=>L.map (cp (n+1)))=_;rw[vm];rfl
def nr(H:Hp)(v:AV)(l:qu)(lo:Nat):Prop:=∃r V,v=.sl r 0 l.length 1/\H.get r=some (.cells (l.map (.int .u8)) V true)/\V<=l.length/\lo<=r/\r<H.next
def Jw(H:Hp)(v:AV)(l:qu)(lo:Nat):Prop:=(v=.ak/\l=[])\/nr H v l lo
def nr.bY(h:nr H v l lo)(I:H.next<=H'.next)(hg:∀k,lo<=k->k<H.next->H'.get k=H.get k):nr H' v l lo:=by
 obtain⟨r,V,i,g,m,U,M⟩:=h;exact⟨r,V,i,by rw[hg r U M];exact g,m,U,ac⟩
def nr.lt(h:nr H v l lo)(j:bc v k):lo<=k/\k<H.next:=by
 obtain⟨r,V,rfl,_,_,U,M⟩:=h;obtain⟨n,e⟩:=j;simp only[AV.sl.injEq]at e;rw[<-e.1];exact⟨U,M⟩
def nr.keep(h:nr H v l lo)(I:H.next<=H'.next)(hg:∀k,bc v k->H'.get k=H.get k):nr H' v l lo:=by
 obtain⟨r,V,rfl,g,m,U,M⟩:=h;exact⟨r,V,rfl,Eo,m,U,ac⟩
def OM(l:qu):(l.map (AV.int .u8)).all AV.one=true:=by simp[AV.one]
def zcO{imm:Nat}(h:H.get r=some (.cells (m.map (.int .u8)) imm true)):eQ H 1 (.sl r 0 m.length 1)=some (m.length,m.map (.int .u8)):=by
 have:=pq (H:=H) (r:=r) (o:=0) (n:=m.length) (z:=1) (s:=1) h au;rw[this,eS,fI au]
theorem zcP(U:Jw H v l lo)(Z:lo<=H.next)(z:eQ H 1 x=some (m.length,m.map (.int .u8)))(M:m≠[])(hb:l.length+m.length<2^40):
 ∃O H',cX prog false H 73 73 v x=some (O,H')/\nr H' O (l++m) lo/\H'.next=H.next+1/\(∀k,k<lo->H'.get k=H.get k)/\ss v O H H':=by
 obtain⟨n,I⟩:∃n,m.length=n+1:=⟨m.length-1,Ji⟩;have L:dL=70368744177664:=rfl;rw[I]at z;rcases U with⟨rfl,rfl⟩|⟨r,V,rfl,g,i,h4,h5⟩
 .refine⟨.sl H.next 0 (n+1) 1,H.alloc (.cells (m.map (.int .u8)) 0 true),append_nil underlying73 IR IT IU aB z (OM m) rfl jT jT,⟨H.next,0,vE,iq,ac,Z,cC _⟩,rfl,fun k j=>fq,fun k j _=>fq,fun k j=>.inr ?_⟩;obtain⟨J,e⟩:=j;simp only[AV.sl.injEq]at e;omega
 .have C:ii false H 1 (.sl r 0 l.length 1)=H:=by
   unfold ii;simp only[g,bK,cN,lE];have:Nat.blt l.length l.length=false:=by
    cases hb:Nat.blt l.length l.length with
    |false=>rfl
    |true=>rw[jK]at hb;omega
   simp[this]
  refine⟨.sl H.next 0 (l.length+(n+1)) 1,(H.aR r).alloc (.cells (l.map (.int .u8)++m.map (.int .u8)) (V-0) true),?_,⟨H.next,V,vE,?_,bW,Z,cC _⟩,rfl,fun k j=>?_,fun k j Y=>?_,fun k j=>.inr ?_⟩
  .simp only[cX,underlying73,IR,IT,IU,show iR prog 73=true by kernel_rfl,z,OM,C,po,dh,oF,mK,g,cN,bK,lE,eS];rw[ah ⟨jT,jT,trivial,trivial,i⟩];simp
  .show((H.aR r).alloc _).get (H.aR r).next=_
   rw[aD,ah rfl];simp
  .rw[aD,af nh,gN,af ac]
  .rw[aD,af nh,gN,af (fun e=>Y ⟨_,nQ⟩)]
  .obtain⟨J,e⟩:=j;simp only[AV.sl.injEq]at e;omega
def zcQ{imm:Nat}(s:Int)(V:Jw H v l lo)(L:lo<=H.next)(M:H.get r=some (.cells [.int .u8 s] imm true))(hb:l.length<2^39):
 ∃O H',cX prog false H 73 73 v (.sl r 0 1 1)=some (O,H')/\nr H' O (l++[s]) lo/\H'.next=H.next+1/\(∀k,k<lo->H'.get k=H.get k)/\ss v O H H':=
 zcP V L (zcO (m:=[s]) M) au bW
def zcR(H:Hp)(n:Int):et prog H 73 1 [(0,.int .u8 n)]=some (.sl H.next 0 1 1,H.alloc (.cells [.int .u8 n] 0 true)):=aB
theorem bin_shr{D:BinOp->Sx->Sx->qG}{t:TypeId}{k Z:IntKind}{a:Int}{m:Nat}(h:m<64)(j:k=.u64):eK prog D .shr t (.int k a) (.int Z (m:Int))=some (.int k (a.fdiv (2^ m))):=by
 subst j;have e:eK prog D .shr t (.int .u64 a) (.int Z (Int.ofNat m))=some (.int .u64 (a.fdiv (2^ min m 64))):=rfl;rw[show min m 64=m by omega]at e;exact e
def oc(n:Int)(i:Nat):Int:=IntKind.wrap .u8 (n.fdiv (2^ (8*i)))
def kE(n:Int)(i:Nat):qu:=(List.range i).map (oc n)
def uz(n:Int)(i:Nat):(kE n i).length=i:=by simp[kE]
def zcS(n:Int)(i:Nat):kE n (i+1)=kE n i++[oc n i]:=by simp[kE,List.range_succ]
def uA(l:qu):qx:=l.map fun n=>UInt8.ofNat n.toNat
end Go.Proofs.YtbflaciihaijgaaGreat
namespace Go.Ab
set_option maxRecDepth 20000
open Go
instance:DecidableEq Nd:=fun x y=>decidable_of_iff (x.op=y.op/\x.aF=y.aF/\x.aj=y.aj) (by cases x;cases y;simp)
variable{l:qy}{i m:Nat}{Y s:qu}{n:Nd}
def bC(op:Int):Int×Bool:=
 if op=1\/op=2\/op=3\/op=26 then (0,true)
 else if op=20\/op=21\/op=24\/op=25 then (1,true)
 else if op=23\/op=27\/op=29 then (2,true)
 else if op=22\/op=28 then (3,true)
 else if op=30\/op=31 then (-1,true)
 else if 4<=op/\op<=19 then (2,true)
 else (0,false)
def ee(n:Int):Int:=(n-1).tdiv 2
def nu(l:qy)(k:Int):Int:=match l[k.toNat]? with
 |some n=>n.aj.length
 |none=>0
def dV(l:qy)(n:Nd):Int:=
 if n.op=2 then 5 else if n.op=3 then 255 else if n.op=23\/n.op=28 then 3 else if n.op=30 then 7 else if n.op=31 then 15
 else if n.op=25 then ee (nu l (n.aj.headD 0))-1 else 0
def cq(l:qy)(n:Nd):Bool:=
 if n.op=1 then true
 else if n.op=27 then decide (1<=n.aF)&&decide (n.aF<=1000016)
 else decide (0<=n.aF)&&decide (n.aF<=dV l n)
def dW(op:Int):qu:=
 if op=22 then [1,1,1]else if op=23\/op=27\/op=29 then [2,1]else if op=28 then [2,1,1]else if op=24 then [2]else if op=25 then [3]else [1,1]
def cK:qu->qu->Bool
 |[],_=>true
 |a::s,w=>decide (a=w.headD 0)&&cK s w.tail
def l8(n:Nat):qu:=((List.replicate n (1:Int)).set 0 2).set (ee n+1).toNat 2
def bR(op:Int)(s:qu):Bool:=
 if (bC op).2=false then false
 else if 0<=(bC op).1/\(bC op).1≠s.length then false
 else if op=31 then decide (3<=s.length)&&decide (s.length%2=1)&&decide (ee s.length<=16)&&cK s (l8 s.length)
 else if op=30 then decide (1<=s.length)&&decide (s.length<=7)&&decide (s.headD 0=2)&&s.tail.all fun x=>decide (x=1)
 else if op=22/\s.getD 1 0=2 then decide (s.headD 0=1)&&decide (s.getD 2 0=2)
 else cK s (dW op)
def fw(i:Nat)(Y:qu):qu->Option qu
 |[]=>some []
 |k::ks=>if k<0\/(i:Int)<=k\/Y.getD k.toNat 0=0 then none else (fw i Y ks).map fun s=>Y.getD k.toNat 0::s
def dQ(n:Nd)(s:qu):Int:=
 if n.op=31 then 3
 else if n.op=26\/n.op=27\/n.op=28\/n.op=29\/n.op=30 then 2
 else if n.op=22 then s.getD 1 0
 else if n.op=3/\n.aF.tmod 16=0 then 2
 else if n.op=25/\n.aF=0 then 2
 else 1
def iE(l:qy)(i:Nat)(Y:qu):Int:=match l[i]? with
 |none=>0
 |some n=>match fw i Y n.aj with
  |none=>0
  |some s=>if bR n.op s&&cq l n then dQ n s else 0
def cm(l:qy):Nat->qu
 |0=>[]
 |i+1=>cm l i++[iE l i (cm l i)]
def cR(l:qy)(i:Int):Int:=if i<0\/(l.length:Int)<=i then 0 else (cm (l.take (i.toNat+1)) (i.toNat+1)).getD i.toNat 0
theorem sw(l:qy):∀i,(cm l i).length=i
 |0=>rfl
 |i+1=>by rw[cm,fB,sw l i];rfl
theorem Bk(l:qy):∀{i j:Nat},j<i->(cm l i).getD j 0=iE l j (cm l j)
 |0,j,h=>by omega
 |i+1,j,h=>by
  rw[cm];by_cases e:j<i
  .rw[cQ,je (by rw[sw];exact e),<-cQ];exact Bk l e
  .obtain rfl:j=i:=by omega
   rw[cQ,lT vF,sw,nP];rfl
theorem tw{i:Nat}{Y:qu}:∀{z s:qu},fw i Y z=some s->∀k∈z,0<=k/\k<i/\Y.getD k.toNat 0≠0
 |[],s,_,k,h=>by simp at h
 |a::z,s,h,k,j=>by
  rw[fw]at h;split at h
  .cases h
  .rename_i c;obtain⟨t,J,_⟩:=sZ.1 h;rcases gE.1 j with rfl|j
   .omega
   .exact tw J k j
theorem uB{i:Nat}{Y:qu}:∀{z s:qu},fw i Y z=some s->s.length=z.length
 |[],s,h=>by cases h;rfl
 |a::z,s,h=>by
  rw[fw]at h;split at h
  .cases h
  .obtain⟨t,J,rfl⟩:=sZ.1 h;rw[eF,eF,uB J]
def EC(I:l[i]?=some n)(h:iE l i Y≠0):∃s,fw i Y n.aj=some s/\bR n.op s=true/\cq l n=true:=by
 unfold iE at h;rw[I]at h;simp only at h;split at h
 .exact absurd rfl h
 .rename_i s M;split at h
  .rename_i c;rw[cj]at c;exact⟨s,M,c.1,c.2⟩
  .exact absurd rfl h
def ON(h:n.op=25->∃k z,n.aj=k::z/\k.toNat<m):cq (l.take m) n=cq l n:=by
 have e:dV (l.take m) n=dV l n:=by
  unfold dV;by_cases c:n.op=25
  .obtain⟨k,z,i,g⟩:=h c;rw[c];simp only[i,xw,nu,sY,g,dh]
  .simp only[c,dD]
 unfold cq;rw[e]
theorem zcT(O:i<m)(Y:qu):iE (l.take m) i Y=iE l i Y:=by
 unfold iE;rw[sY,ah O];cases M:l[i]? with
 |none=>rfl
 |some n=>
  simp only;cases j:fw i Y n.aj with
  |none=>rfl
  |some s=>
   simp only;by_cases c:bR n.op s=true
   .have e:cq (l.take m) n=cq l n:=ON fun Z=>by
     have J:=uB j;have V:s.length=1:=by
      have I:=c;unfold bR at I;rw[Z]at I;have:bC 25=(1,true):=aE;rw[this]at I;simp only at I;split at I
      .cases I
      .split at I
       .cases I
       .omega
     cases L:n.aj with
     |nil=>rw[L,V]at J;simp at J
     |cons k z=>
      refine⟨k,z,rfl,?_⟩;have:=tw j k (by rw[L];exact ei);omega
    rw[e]
   .have U:bR n.op s=false:=by simpa using c
    rw[U,em,em]
theorem Jx{l:qy}{m:Nat}:∀{i:Nat},i<=m->cm (l.take m) i=cm l i
 |0,_=>rfl
 |i+1,h=>by rw[cm,cm,Jx (by omega:i<=m),zcT ac]
def xD(h:i<l.length):cR l i=iE l i (cm l i):=by
 unfold cR;rw[af ac,fK,Jx (aH _),Bk l (cC i)]
def ED{j:Nat}(Z:j<i)(C:i<=l.length):(cm l i).getD j 0=cR l j:=by
 rw[Bk l Z,xD ac]
def OO{m:qy}(h:i<l.length):cR (l++m) i=cR l i:=by
 unfold cR;rw[af bW,af ac,fK,Aq ac]
def eW(op:Int):Int:=if op=2 then 5 else if op=3 then 255 else if op=23\/op=28 then 3 else if op=27 then 1000016 else if op=30 then 7 else if op=31 then 15 else if op=25 then 15 else -1
def dX(op n:Int):Bool:=
 if op=1 then true
 else if eW op<0 then decide (n=0)
 else decide (0<=n)&&decide (n<=eW op)&&(!decide (op=27)||decide (0<n))
def eB(k:qu):Bool:=k.all fun x=>decide (x=1)
def dF(b:Bool)(n:Int):Int:=if b then n else 0
def cr(l:qy)(n:Nd)(k:qu):Int:=
 if (bC n.op).2=false then 0
 else if 0<=(bC n.op).1/\(n.aj.length:Int)≠(bC n.op).1 then 0
 else if dX n.op n.aF=false then 0
 else if n.op=3 then (if n.aF.tmod 16=0 then 2 else 1)
 else if n.op=26 then 2
 else if n.op=22 then (if k.headD 0≠1\/k.getD 1 0≠k.getD 2 0\/k.getD 1 0=3 then 0 else k.getD 1 0)
 else if n.op=23 then dF (decide (k.headD 0=2)&&decide (k.getD 1 0=1)) 1
 else if n.op=24 then dF (decide (k.headD 0=2)) 1
 else if n.op=25 then (if k.headD 0≠3\/(nu l (n.aj.headD 0)).tdiv 2<=n.aF then 0 else dF (decide (n.aF=0)) 1+1)
 else if n.op=27\/n.op=29 then dF (decide (k.headD 0=2)&&decide (k.getD 1 0=1)) 2
 else if n.op=28 then dF (decide (k.headD 0=2)&&decide (k.getD 1 0=1)&&decide (k.getD 2 0=1)) 2
 else if n.op=30 then dF (decide (1<=k.length)&&decide (k.length<=7)&&decide (k.headD 0=2)&&eB (k.drop 1)) 2
 else if n.op=31 then dF (decide (k.length%2=1)&&decide (1<=k.length/2)&&decide (k.length/2<=16)&&decide (k.headD 0=2)&&eB ((k.drop 1).take (k.length/2))&&decide (k.getD (k.length/2+1) 0=2)&&eB (k.drop (k.length/2+2))) 3
 else dF (eB k) 1
def Jy(l:qy)(i:Nat)(Y:qu):Int:=match l[i]? with
 |none=>0
 |some n=>match fw i Y n.aj with
  |none=>0
  |some s=>cr l n s
theorem Jz:∀(s w:qu),s.length<=w.length->(∀x∈w,x=1)->cK s w=eB s
 |[],w,_,_=>by simp[cK,eB]
 |a::s,[],h,_=>by simp at h
 |a::s,b::w,h,hw=>by
  have hb:=hw b ei;subst hb;rw[cK,xw,List.tail_cons,Jz s w jf (fun x z=>hw x (ev _ z))];simp[eB]
theorem EE(a b:Int)(s w:qu):cK (a::s) (b::w)=(decide (a=b)&&cK s w):=rfl
def zcU(n m:Nat)(h:m<n):(List.replicate n (1:Int)).set m 2=List.replicate m 1++2::List.replicate (n-m-1) 1:=by
 apply List.ext_getElem?;intro i;rw[yG,List.getElem?_append];simp only[rJ];by_cases c:i<m
 .rw[af ac,ah c,y1,y1,ah ac,ah c]
 .rw[af c];by_cases e:m=i
  .subst e;simp[h]
  .rw[af e];obtain⟨j,rfl⟩:∃j,i=m+1+j:=⟨i-m-1,ac⟩;rw[show m+1+j-m=j+1 by omega,xm,y1,y1];by_cases g:m+1+j<n
   .rw[ah g,ah ac]
   .rw[af g,af ac]
theorem OP:∀(a s w v:qu),a.length=w.length->cK (a++s) (w++v)=(cK a w&&cK s v)
 |[],s,[],v,_=>by simp[cK]
 |x::a,s,y::w,v,h=>by
  rw[vz,vz,EE,EE,OP a s w v jf,xy]
 |[],_,_::_,_,h=>by simp at h
 |_::_,_,[],_,h=>mS
theorem y9(n:Nat)(h:1<=n):ee n=((n-1)/2:Nat):=by
 unfold ee;rw[show(n:Int)-1=((n-1:Nat):Int) by omega];rfl
theorem OQ(s:qu)(h:3<=s.length)(C:s.length%2=1):cK s (l8 s.length)=(decide (s.headD 0=2)&&eB ((s.drop 1).take (s.length/2))&&decide (s.getD (s.length/2+1) 0=2)&&eB (s.drop (s.length/2+2))):=by
 obtain⟨m,O⟩:∃m,s.length=2*m+1:=⟨s.length/2,ac⟩;have L:1<=m:=ac;have Y:s.length/2=m:=ac;have V:(ee s.length+1).toNat=m+1:=Be;have J:l8 s.length=2::(List.replicate m 1++2::List.replicate (m-1) 1):=by
  unfold l8;rw[V,O];have U:List.replicate (2*m+1) (1:Int)=1::List.replicate (2*m) 1:=rfl;rw[U,Jn,List.set_cons_succ,zcU _ _ ac]
  congr 4;omega
 rw[J,Y]
 match s,O with
 |a::t,O=>
  have j:t.length=2*m:=by simpa using O
  rw[EE,xw,xn,eS];have hd:t=t.take m++t.drop m:=(Dg m t).symm;have M:(t.take m).length=m:=td
  conv=>lhs;rw[hd]
  rw[OP _ _ _ _ (by rw[M];simp),Jz (t.take m) _ (by rw[M];simp) (fun x z=>Eu z)];have hg:(a::t).getD (m+1) 0=t.getD m 0:=rfl;have Z:(a::t).drop (m+2)=t.drop (m+1):=rfl;rw[hg,Z];have I:t.drop m=t.getD m 0::t.drop (m+1):=by
   rw[ft ac,cQ,aL ac];rfl
  rw[I,EE,Jz (t.drop (m+1)) _ bW (fun x z=>Eu z),xy,xy]
def vJ{I:Type}{s:List I}(h:s.length=0):s=[]:=AC h
def rL{I:Type}{s:List I}(h:s.length=1):∃a,s=[a]:=by
 match s,h with
 |[a],_=>exact⟨a,rfl⟩
def sy{I:Type}{s:List I}(h:s.length=2):∃a b,s=[a,b]:=by
 match s,h with
 |[a,b],_=>exact⟨a,b,rfl⟩
def uC{I:Type}{s:List I}(h:s.length=3):∃a b c,s=[a,b,c]:=by
 match s,h with
 |[a,b,c],_=>exact⟨a,b,c,rfl⟩
def zcV(U:s.length=n.aj.length)(j:∀x∈s,1<=x/\x<=3)(h3:s.headD 0=3->n.op=25->∃m:Nat,nu l (n.aj.headD 0)=2*(m:Int)+1/\1<=m/\m<=16):
 (if bR n.op s&&cq l n then dQ n s else 0)=cr l n s:=by
 obtain⟨Z,V,Y⟩:=n;simp only at U h3;have J:∀a:Int,0<=a->bC Z=(a,true)->(s.length:Int)≠a->(if bR Z s&&cq l ⟨Z,V,Y⟩then dQ ⟨Z,V,Y⟩ s else 0)=cr l ⟨Z,V,Y⟩ s:=fun a h0 O hne=>by
  have I:bR Z s=false:=by
   unfold bR;rw[O];simp only[nO,dD];rw[ah ⟨h0,Ne.symm hne⟩]
  have e2:cr l ⟨Z,V,Y⟩ s=0:=by
   unfold cr;simp only[O,nO,dD];rw[ah ⟨h0,by rw[<-U];exact hne⟩]
  rw[I,e2];rfl
 have cases:Z<1\/31<Z\/Z=1\/Z=2\/Z=3\/(4<=Z/\Z<=19)\/Z=20\/Z=21\/Z=22\/Z=23\/Z=24\/Z=25\/Z=26\/Z=27\/Z=28\/Z=29\/Z=30\/Z=31:=ac;rcases cases with h|h|rfl|rfl|rfl|h|rfl|rfl|rfl|rfl|rfl|rfl|rfl|rfl|rfl|rfl|rfl|rfl
 .have O:bC Z=(0,false):=by
   unfold bC;repeat rw[af ac]
  simp[bR,cr,O]
 .have O:bC Z=(0,false):=by
   unfold bC;repeat rw[af ac]
  simp[bR,cr,O]
 -- 1
 .by_cases c:(s.length:Int)=0
  .obtain rfl:=vJ (s:=s) ac;have:Y=[]:=vJ oJ;subst this;simp[bR,cr,bC,cq,dX,dQ,cK,eB,dF]
  .exact J 0 ac aE c
 -- 2
 .by_cases c:(s.length:Int)=0
  .obtain rfl:=vJ (s:=s) ac;have:Y=[]:=vJ oJ;subst this;by_cases b:0<=V/\V<=5
   .have b1:=b.1;have C:=b.2;simp[bR,cr,bC,cq,dX,dV,eW,dQ,cK,eB,dF,b1,C]
   .simp[bR,cr,bC,cq,dX,dV,eW,dQ,cK,eB,dF];omega
  .exact J 0 ac aE c
 -- 3
 .by_cases c:(s.length:Int)=0
  .obtain rfl:=vJ (s:=s) ac;have:Y=[]:=vJ oJ;subst this;by_cases b:0<=V/\V<=255
   .have b1:=b.1;have C:=b.2;by_cases e:V.tmod 16=0<;>simp[bR,cr,bC,cq,dX,dV,eW,dQ,cK,b1,C,e]
   .simp[bR,cr,bC,cq,dX,dV,eW,dQ,cK,];omega
  .exact J 0 ac aE c
 -- 4 to 19
 .obtain⟨g1,g2⟩:=h;have q:∀k:Int,(k<4\/19<k)->¬Z=k:=fun k j e=>ac;have O:bC Z=(2,true):=by
   unfold bC;rw[af ac,af ac,af ac,af ac,af ac,ah ⟨g1,g2⟩]
  have t:∀k:Int,(k<4\/19<k)->decide (Z=k)=false:=fun k j=>eA (q k j);by_cases c:(s.length:Int)=2
  .obtain⟨a,b,rfl⟩:=sy (s:=s) ac;obtain⟨x,y,rfl⟩:=sy (s:=Y) oJ;have m0:eW Z=-1:=by unfold eW;rw[af (q 2 ac),af (q 3 ac),af ac,af (q 27 ac),af (q 30 ac),af (q 31 ac),af (q 25 ac)]
   have ct:dV l ⟨Z,V,[x,y]⟩=0:=by unfold dV;simp only[];rw[af (q 2 ac),af (q 3 ac),af ac,af (q 30 ac),af (q 31 ac),af (q 25 ac)]
   have m2:dW Z=[1,1]:=by unfold dW;rw[af (q 22 ac),af ac,af (q 28 ac),af (q 24 ac),af (q 25 ac)]
   have m3:dQ ⟨Z,V,[x,y]⟩ [a,b]=1:=by unfold dQ;simp only[];rw[af (q 31 ac),af ac,af (q 22 ac),af (fun e=>q 3 ac e.1),af (fun e=>q 25 ac e.1)]
   have I:bR Z [a,b]=(decide (a=1)&&decide (b=1)):=by
    unfold bR;rw[O];simp only[nO,dD];rw[af au,af (q 31 ac),af (q 30 ac),af (fun e=>q 22 ac e.1),m2];simp[cK]
   have e2:cq l ⟨Z,V,[x,y]⟩=decide (V=0):=by
    unfold cq;simp only[];rw[af (q 1 ac),af (q 27 ac),ct];by_cases z:V=0
    .simp[z]
    .simp[z];omega
   have e3:dX Z V=decide (V=0):=by
    unfold dX;rw[af (q 1 ac),m0];rfl
   have e4:cr l ⟨Z,V,[x,y]⟩ [a,b]=if V=0 then dF (eB [a,b]) 1 else 0:=by
    unfold cr;simp only[O,e3,nO,dD];rw[af au];by_cases z:V=0
    .rw[af (by simp[z]),af (q 3 ac),af (q 26 ac),af (q 22 ac),af (q 23 ac),af (q 24 ac),af (q 25 ac),af ac,af (q 28 ac),af (q 30 ac),af (q 31 ac),ah z]
    .rw[ah (by simp[z]),af z]
   rw[I,e2,e4,m3];by_cases z:V=0
   .simp[z,dF,eB]
   .simp[z]
  .exact J 2 ac O c
 -- 20
 .by_cases c:(s.length:Int)=1
  .obtain⟨a,rfl⟩:=rL (s:=s) ac;obtain⟨x,rfl⟩:=rL (s:=Y) oJ;have L:=j a au;by_cases b:V=0
   .subst b;simp[bR,cr,bC,cq,dX,dV,eW,dQ,cK,dW,eB,dF]
   .have C:¬(0<=V/\V<=0):=by omega
    simp[bR,cr,bC,cq,dX,dV,eW,dQ,cK,dW,b];omega
  .exact J 1 ac aE c
 -- 21
 .by_cases c:(s.length:Int)=1
  .obtain⟨a,rfl⟩:=rL (s:=s) ac;obtain⟨x,rfl⟩:=rL (s:=Y) oJ;have L:=j a au;by_cases b:V=0
   .subst b;simp[bR,cr,bC,cq,dX,dV,eW,dQ,cK,dW,eB,dF]
   .have C:¬(0<=V/\V<=0):=by omega
    simp[bR,cr,bC,cq,dX,dV,eW,dQ,cK,dW,b];omega
  .exact J 1 ac aE c
 -- 22
 .by_cases c:(s.length:Int)=3
  .obtain⟨a,b,c1,rfl⟩:=uC (s:=s) ac;obtain⟨x,y,z,rfl⟩:=uC (s:=Y) oJ;have L:=j a au;have kb:=j b au;have kc:=j c1 au;by_cases z:V=0
   .subst z;have ka':a=1\/a=2\/a=3:=ac;have kb':b=1\/b=2\/b=3:=ac;have kc':c1=1\/c1=2\/c1=3:=ac;rcases ka' with rfl|rfl|rfl<;>rcases kb' with rfl|rfl|rfl<;>rcases kc' with rfl|rfl|rfl<;>simp[bR,cr,bC,cq,dX,dV,eW,dQ,cK,dW,]
   .simp[bR,cr,bC,cq,dX,dV,eW,dQ,cK,dW,z];omega
  .exact J 3 ac aE c
 -- 23
 .by_cases c:(s.length:Int)=2
  .obtain⟨a,b,rfl⟩:=sy (s:=s) ac;obtain⟨x,y,rfl⟩:=sy (s:=Y) oJ;have L:=j a au;have kb:=j b au;by_cases z:0<=V/\V<=3
   .have i:=z.1;have M:=z.2;simp[bR,cr,bC,cq,dX,dV,eW,dQ,cK,dW,dF,i,M]
   .have g:¬(0<=V)\/¬(V<=3):=by omega
    rcases g with g|g <;>simp[bR,cr,bC,cq,dX,dV,eW,cK,dW,g]
  .exact J 2 ac aE c
 -- 24
 .by_cases c:(s.length:Int)=1
  .obtain⟨a,rfl⟩:=rL (s:=s) ac;obtain⟨x,rfl⟩:=rL (s:=Y) oJ;have L:=j a au;by_cases b:V=0
   .subst b;simp[bR,cr,bC,cq,dX,dV,eW,dQ,cK,dW,dF]
   .have C:¬(0<=V/\V<=0):=by omega
    simp[bR,cr,bC,cq,dX,dV,eW,dQ,cK,dW,b];omega
  .exact J 1 ac aE c
 -- 25
 .by_cases c:(s.length:Int)=1
  .obtain⟨a,rfl⟩:=rL (s:=s) ac;obtain⟨x,rfl⟩:=rL (s:=Y) oJ;have L:=j a au;by_cases e:a=3
   .subst e;obtain⟨m,hm,ct,m2⟩:=h3 rfl rfl;simp only[xw]at hm;have l1:ee (nu l x)=m:=by rw[hm];unfold ee;rw[show(2*(m:Int)+1-1)=((2*m:Nat):Int) by omega];show(((2*m)/2:Nat):Int)=m;omega
    have l2:(nu l x).tdiv 2=m:=by rw[hm];show(((2*m+1)/2:Nat):Int)=m;omega
    by_cases z:0<=V/\V<=(m:Int)-1
    .have i:=z.1;have M:=z.2;have z3:V<=15:=ac;have z4:¬(m:Int)<=V:=ac;by_cases y:V=0
     .subst y;simp[bR,cr,bC,cq,dX,dV,eW,dQ,cK,dW,dF,l1,l2,];rw[ah ac,af ac]
     .simp[bR,cr,bC,cq,dX,dV,eW,dQ,cK,dW,dF,l1,l2,i,M,z3,z4,y]
    .by_cases i:0<=V
     .have M:¬V<=(m:Int)-1:=by omega
      have z4:(m:Int)<=V:=ac;simp[bR,cr,bC,cq,dX,dV,eW,cK,dW,l1,l2,i,M,z4]
     .simp[bR,cr,bC,cq,dX,dV,eW,cK,dW,l1,i]
   .simp[bR,cr,bC,cq,dX,dV,eW,cK,dW,e]
  .exact J 1 ac aE c
 -- 26
 .by_cases c:(s.length:Int)=0
  .obtain rfl:=vJ (s:=s) ac;have:Y=[]:=vJ oJ;subst this;by_cases b:V=0
   .subst b;simp[bR,cr,bC,cq,dX,dV,eW,dQ,cK,]
   .have C:¬(0<=V/\V<=0):=by omega
    simp[bR,cr,bC,cq,dX,dV,eW,dQ,cK,b];omega
  .exact J 0 ac aE c
 -- 27
 .by_cases c:(s.length:Int)=2
  .obtain⟨a,b,rfl⟩:=sy (s:=s) ac;obtain⟨x,y,rfl⟩:=sy (s:=Y) oJ;have L:=j a au;have kb:=j b au;by_cases z:1<=V/\V<=1000016
   .have i:=z.1;have M:=z.2;have z3:0<=V:=ac;have z4:0<V:=ac;simp[bR,cr,bC,cq,dX,eW,dQ,cK,dW,dF,i,M,z3,z4]
   .have g:¬(1<=V)\/¬(V<=1000016):=by omega
    rcases g with g|g
    .have z4:¬0<V:=by omega
     simp[bR,cr,bC,cq,dX,eW,cK,dW,g,z4]
    .simp[bR,cr,bC,cq,dX,eW,cK,dW,g]
  .exact J 2 ac aE c
 -- 28
 .by_cases c:(s.length:Int)=3
  .obtain⟨a,b,c1,rfl⟩:=uC (s:=s) ac;obtain⟨x,y,z,rfl⟩:=uC (s:=Y) oJ;have L:=j a au;have kb:=j b au;have kc:=j c1 au;by_cases z:0<=V/\V<=3
   .have i:=z.1;have M:=z.2;simp[bR,cr,bC,cq,dX,dV,eW,dQ,cK,dW,dF,i,M,xy]
   .have g:¬(0<=V)\/¬(V<=3):=by omega
    rcases g with g|g <;>simp[bR,cr,bC,cq,dX,dV,eW,cK,dW,g]
  .exact J 3 ac aE c
 -- 29
 .by_cases c:(s.length:Int)=2
  .obtain⟨a,b,rfl⟩:=sy (s:=s) ac;obtain⟨x,y,rfl⟩:=sy (s:=Y) oJ;have L:=j a au;have kb:=j b au;by_cases b:V=0
   .subst b;simp[bR,cr,bC,cq,dX,dV,eW,dQ,cK,dW,dF]
   .have C:¬(0<=V/\V<=0):=by omega
    simp[bR,cr,bC,cq,dX,dV,eW,dQ,cK,dW,b];omega
  .exact J 2 ac aE c
 -- 30
 .have I:bR 30 s=(decide (1<=s.length)&&decide (s.length<=7)&&decide (s.headD 0=2)&&eB (s.drop 1)):=by
   simp[bR,bC,eB,List.drop_one]
  have e2:cr l ⟨30,V,Y⟩ s=if dX 30 V=false then 0 else dF (decide (1<=s.length)&&decide (s.length<=7)&&decide (s.headD 0=2)&&eB (s.drop 1)) 2:=by
   simp[cr,bC]
  have e3:cq l ⟨30,V,Y⟩=dX 30 V:=by simp[cq,dX,dV,eW]
  rw[I,e2,e3];generalize (decide (1<=s.length)&&decide (s.length<=7)&&decide (s.headD 0=2)&&eB (s.drop 1))=v;cases dX 30 V<;>cases v<;>simp[dQ,dF]
 -- 31
 .have e3:cq l ⟨31,V,Y⟩=dX 31 V:=by simp[cq,dX,dV,eW]
  have e2:cr l ⟨31,V,Y⟩ s=if dX 31 V=false then 0 else dF (decide (s.length%2=1)&&decide (1<=s.length/2)&&decide (s.length/2<=16)&&decide (s.headD 0=2)&&eB ((s.drop 1).take (s.length/2))&&decide (s.getD (s.length/2+1) 0=2)&&eB (s.drop (s.length/2+2))) 3:=by
   simp[cr,bC]
  have I:bR 31 s=(decide (s.length%2=1)&&decide (1<=s.length/2)&&decide (s.length/2<=16)&&decide (s.headD 0=2)&&eB ((s.drop 1).take (s.length/2))&&decide (s.getD (s.length/2+1) 0=2)&&eB (s.drop (s.length/2+2))):=by
   have e:bR 31 s=(decide (3<=s.length)&&decide (s.length%2=1)&&decide (ee s.length<=16)&&cK s (l8 s.length)):=by simp[bR,bC]
   rw[e];by_cases p:3<=s.length
   .by_cases o:s.length%2=1
    .rw[OQ s p o,y9 _ ac];have t1:1<=s.length/2:=ac;have t2:decide ((((s.length-1)/2:Nat):Int)<=16)=decide (s.length/2<=16):=by
      rw[pB];omega
     rw[t2];simp only[dx p,dx o,dx t1,el,xy]
    .simp only[eA o,oL]
   .have p2:decide (3<=s.length)=false:=eA p;rw[p2];simp only[em]
    symm
    by_cases o:s.length%2=1
    .have:¬1<=s.length/2:=by omega
     simp only[eA this,oL]
    .simp only[eA o,em]
  rw[I,e2,e3];generalize (decide (s.length%2=1)&&decide (1<=s.length/2)&&decide (s.length/2<=16)&&decide (s.headD 0=2)&&eB ((s.drop 1).take (s.length/2))&&decide (s.getD (s.length/2+1) 0=2)&&eB (s.drop (s.length/2+2)))=v;cases dX 31 V<;>cases v<;>simp[dQ,dF]
def zcW(n:Nd)(V:bR n.op s=true)(j:∀x∈s,1<=x/\x<=3):1<=dQ n s/\dQ n s<=3:=by
 unfold dQ;by_cases U:n.op=22
 .rw[af ac,af ac,ah U];have m:s.length=3:=by
   unfold bR at V;rw[U]at V;have:bC 22=(3,true):=aE;rw[this]at V;simp only[nO,dD]at V;by_cases e:(0:Int)<=3/\(3:Int)≠s.length
   .rw[ah e]at V;cases V
   .omega
  obtain⟨a,b,c,rfl⟩:=uC m;exact j b au
 .split
  .omega
  .split
   .omega
   .split
    .omega
    .split
     .omega
     .omega
theorem EF{i:Nat}{Y:qu}(hr:∀j,Y.getD j 0=0\/1<=Y.getD j 0/\Y.getD j 0<=3):∀{Z s:qu},fw i Y Z=some s->∀x∈s,1<=x/\x<=3
 |[],s,h,x,z=>by cases h;simp at z
 |a::Z,s,h,x,z=>by
  rw[fw]at h;split at h
  .cases h
  .rename_i c;obtain⟨t,J,rfl⟩:=sZ.1 h;rcases gE.1 z with rfl|z
   .rcases hr a.toNat with e|e
    .omega
    .exact e
   .exact EF hr J x z
theorem zcX(hr:∀j,Y.getD j 0=0\/1<=Y.getD j 0/\Y.getD j 0<=3):iE l i Y=0\/1<=iE l i Y/\iE l i Y<=3:=by
 unfold iE;split
 .left;rfl
 .split
  .left;rfl
  .rename_i n I s M;split
   .rename_i c;rw[cj]at c
    right;exact zcW _ c.1 (EF hr M)
   .left;rfl
theorem JA(l:qy):∀(i j:Nat),(cm l i).getD j 0=0\/1<=(cm l i).getD j 0/\(cm l i).getD j 0<=3
 |0,j=>by left;simp[cm]
 |i+1,j=>by
  by_cases h:j<i+1
  .rw[Bk l h];exact zcX (JA l j)
  .left
   rw[cQ,gV vF];rfl
def zcY(hr:∀j,Y.getD j 0=0\/1<=Y.getD j 0/\Y.getD j 0<=3)(h:iE l i Y=3):∃m:Nat,nu l i=2*(m:Int)+1/\1<=m/\m<=16:=by
 unfold iE at h;split at h
 .cases h
 .rename_i n V;split at h
  .cases h
  .rename_i s M;split at h
   .rename_i c;rw[cj]at c;have J:=uB M;have L:=EF hr M;have c1:=c.1;have Z:n.op=31:=by
     by_cases e:n.op=31
     .exact e
     .exfalso;unfold dQ at h;rw[af e]at h;split at h
      .omega
      .split at h
       .rename_i U;unfold bR at c1;rw[U]at c1;have:bC 22=(3,true):=aE;rw[this]at c1;simp only[nO,dD]at c1;by_cases e:(0:Int)<=3/\(3:Int)≠s.length
        .rw[ah e]at c1;cases c1
        .obtain⟨a,b,c,rfl⟩:=uC (s:=s) ac;have hb:b=3:=h;subst hb;simp[cK,dW]at c1
       .split at h
        .omega
        .split at h<;>omega
    rw[Z]at c1;simp only[bR,bC]at c1;simp at c1;have I:=c1.1;have C:=I.1.1;have z:=I.1.2;have O:=I.2;rw[y9 _ ac]at O;refine⟨s.length/2,?_,ac,ac⟩;unfold nu;rw[fK,V];simp only;omega
   .cases h
theorem zcZ(C:i<=l.length):Jy l i (cm l i)=iE l i (cm l i):=by
 unfold Jy iE;cases I:l[i]? with
 |none=>rfl
 |some n=>
  simp only;cases M:fw i (cm l i) n.aj with
  |none=>rfl
  |some s=>
   simp only;refine(zcV (uB M) (EF (JA l i) M) fun m Y=>?_).symm;have J:=uB M;cases j:n.aj with
   |nil=>
    rw[j]at J M;cases M;simp at m
   |cons k z=>
    rw[j]at M;have O:=tw M k ei;rw[fw]at M;split at M
    .cases M
    .obtain⟨t,Z,rfl⟩:=sZ.1 M;rw[xw]at m⊢;obtain⟨k,rfl⟩:=gO O.1;rw[fK,Bk l ac]at m;exact zcY (JA l k) m
end Go.Ab
namespace Go.Proofs.YtbflaciihaijgaaGreat
set_option maxRecDepth 20000
open Go Go.Ab Proofs.Tryz
variable(ρ:Nat->Int)
section
def tyR3b.tyF:=ad @cA (ad @dw (ad @fL (ad @fM (ad @fb (ad @gF (@ec))))))
open tyR3b
noncomputable def OR:{c:SC // aC 22 (f145.body.getD .skip)=c}:=by
 refine⟨?_,?_⟩;rotate_left
 .simp only[f145,bz,aC,bw,bt,bA,bB,Nat.blt,Nat.ble];rfl
noncomputable def OS:{c:SC // aC 78 (f143.body.getD .skip)=c}:=by
 refine⟨?_,?_⟩;rotate_left
 .simp only[f143,bz,aC,bw,bt,bA,bB,Nat.blt,Nat.ble];rfl
mutual
def dg:Ex->Nat
 | .mk _ _ _ _ z=>jV z
def jV:qH->Nat
 |[]=>0
 |e::es=>max (1+dg e) (jV es)
end
theorem zc0(x:Ex):dg x=jV x.aj:=by cases x;rw[dg];rfl
mutual
theorem OT:∀x:Ex,dg x<=x.sz
 | .mk _ _ _ _ z=>by have:=OU z;simp only[dg,Ex.sz];omega
theorem OU:∀l:qH,jV l<=fu l
 |[]=>aH _
 |e::es=>by have:=OT e;have:=OU es;simp only[jV,fu];omega
end
def kF(x:Ex):qt:=[.agg x.cells]
def sA(x y:Ex)(h:kF x=kF y):x=y:=by simp only[kF,dN,AV.agg.injEq,aN]at h;exact Ex.inj h
def od(l:qE):qt:=[.aE (l.map St.cells)]
def za(x y:qE)(h:od x=od y):x=y:=by simp only[od,dN,AV.aE.injEq,aN]at h;exact Ek h
def zc1:∀x:Ex,x.sz<2^60->bF prog ρ 145 [.agg x.cells] (.int .i64 (dg x)):=
 xq fit (pls:=pls) (l:=[]) trivial (fun x=>x.sz) (ok:=fun x=>x.sz<2^60) (enc:=kF) (out:=fun x=>.int .i64 (dg x)) (fun x _=>.cons (.agg x.pure) .nil) (fun x _=>.int _ _) (fun x hx=>by
 have L:=xz (sz:=fun x:Ex=>x.sz) (ok:=fun x=>x.sz<2^60) (out:=fun x=>.int .i64 (dg x)) sA (f:=145) (l:=[]) x;generalize hl:(⟨145,false,bQ (fun y=>y.sz<2^60/\y.sz<x.sz) kF fun x=>.int .i64 (dg x)⟩:En)::[]=l at L⊢;have kr:∀y:Ex,y.sz<2^60->y.sz<x.sz->∀H,aM prog (ay pls l) 145 [.agg y.cells] H fun v H'=>v=.int .i64 (dg y)/\H'=H:=fun y J g H=>by
  subst hl;exact bZ (enc:=kF) (out:=fun x=>.int .i64 (dg x)) sA (x:=y) rfl ⟨J,g⟩
 have hsz:=x.aT;have C:=rE x.aj;have hlk:x.aj.length<2^60:=ac;have hdl:=OT x;change aM _ _ _ [.agg x.cells] _ _;refine a0 (M:=22) (rs:=[.tmp 2]) L.call L.aG L.az func145 rfl rfl OR.2 rfl ?_;dsimp only[OR,aW,Nat.reduceAdd];refine iX ?_;refine bY [1] [0] 4 x.aj.length (fun i E H=>∃m:Nat,E.at 3=.int .i64 m/\max m (jV (x.aj.drop i))=dg x) eE ⟨0,eE,by simp[zc0]⟩ ?_;rintro i E O hi Z Y z I ⟨m,k3,V⟩;(try simp only[bq,aT,aN,aG,aR,Nat.reduceBEq, *]at Z);(try simp only[bq,aT,aN,aG,aR, *]at Y);(try simp only[aZ,bX,bK]at z);have hB0:(0 == O.next)=false:=aX ac;have hC0:(O.next == 0)=false:=aX ac;repeat' (first
  |(apply aj ?_;clear hK K)|apply aO ?_|(apply bp ?_ ?_<;>(intro hb hbp;try(cases hb;done)))|(apply ak fun K hK=>?_)|fail)
 .have j:i<x.aj.length:=by simpa using hb
  have hgx:x.aj[i]?=some x.aj[i]:=aL j;have hm:=py (cB j);have U:jV (x.aj.drop i)=max (1+dg x.aj[i]) (jV (x.aj.drop (i+1))):=ng;have hwr:IntKind.wrap .i64 (1+(dg x.aj[i]:Int))=((1+dg x.aj[i]:Nat):Int):=Et;repeat' (first
   |(apply aj ?_;clear hK K)|apply Rx.o ?_|(apply ez ?_;first|refine Rx.k (kr _ ac ac _) ?_)|(apply ak fun K hK=>?_)|fail)
  refine⟨ac,aK,aK,bG,Jk,?_⟩;exact⟨max m (1+dg x.aj[i]),by simp only[aG,Nat.reduceBEq];congr 1;omega,by rw[<-V,U];omega⟩
 .all_goals refine qq ?_
  rw[show i=x.aj.length by simp at hb;omega,gH]at V;simp[jV]at V;rw[V])
mutual
def cF:St->Nat
 | .mk _ _ _ _ _ _ _ j m=>1+nS j+nS m
def nS:qE->Nat
 |[]=>0
 |x::l=>cF x+nS l
end
mutual
def dC:St->Nat
 | .mk k _ _ _ _ _ _ j m=>(if k=4 then 1 else 0)+dk j+dk m
def dk:qE->Nat
 |[]=>0
 |x::l=>dC x+dk l
end
mutual
def ct:St->Nat->Nat
 | .mk _ _ _ _ _ _ _ j m,d=>max d (max (fj j (d+1)) (fj m (d+1)))
def fj:qE->Nat->Nat
 |[],_=>0
 |x::l,d=>max (ct x d) (fj l d)
end
theorem zc2(x:St):cF x=1+nS x.a9+nS x.bl:=by cases x;rw[cF];rfl
theorem Bl(x:St):dC x=(if x.aw=4 then 1 else 0)+dk x.a9+dk x.bl:=by cases x;rw[dC];rfl
theorem zc3(x:St)(d:Nat):ct x d=max d (max (fj x.a9 (d+1)) (fj x.bl (d+1))):=by cases x;rw[ct];rfl
mutual
theorem zc4:∀x:St,cF x<=x.sz
 | .mk _ _ _ _ _ _ _ j m=>by have:=EG j;have:=EG m;simp only[cF,St.sz];omega
theorem EG:∀l:qE,nS l<=bH l
 |[]=>aH _
 |x::l=>by have:=zc4 x;have:=EG l;simp only[nS,bH];omega
end
mutual
theorem zc5:∀x:St,dC x<=x.sz
 | .mk k _ _ _ _ _ _ j m=>by have:=EH j;have:=EH m;simp only[dC,St.sz];split<;>omega
theorem EH:∀l:qE,dk l<=bH l
 |[]=>aH _
 |x::l=>by have:=zc5 x;have:=EH l;simp only[dk,bH];omega
end
mutual
theorem zc6:∀(x:St) (d:Nat),ct x d<=d+x.sz
 | .mk _ _ _ _ _ _ _ j m,d=>by have:=EI j (d+1);have:=EI m (d+1);simp only[ct,St.sz];omega
theorem EI:∀(l:qE) (d:Nat),fj l d<=d+bH l
 |[],_=>de _
 |x::l,d=>by have:=zc6 x d;have:=EI l d;simp only[fj,bH];omega
end
def eX{z:Int}(h1:-9223372036854775808<=z)(h2:z<9223372036854775808):IntKind.wrap .i64 z=z:=At _ ac
def uD(x:qE×Nat):qt:=[.aE (x.1.map St.cells),.int .i64 x.2]
def JB(x y:qE×Nat)(h:uD x=uD y):x=y:=by
 simp only[uD,dN,AV.aE.injEq,AV.int.injEq,aN,jy]at h;exact n1 (Ek h.1) ac
def vK(x:qE×Nat):AV:=.aX [.int .i64 (nS x.1),.int .i64 (dk x.1),.int .i64 (fj x.1 x.2)]
theorem OV(a b c:AV):Ab.extract (.aX [a,b,c]) 0=some a:=rfl
theorem OW(a b c:AV):Ab.extract (.aX [a,b,c]) 1=some b:=rfl
theorem OX(a b c:AV):Ab.extract (.aX [a,b,c]) 2=some c:=rfl
def zc7:∀x:qE×Nat,bH x.1+x.2<2^60->bF prog ρ 143 (uD x) (vK x):=
 xq fit (pls:=pls) (l:=[]) trivial (fun x=>bH x.1) (ok:=fun x=>bH x.1+x.2<2^60) (enc:=uD) (out:=vK) (fun x _=>.cons (Bc _) (.cons (.int _ _) .nil)) (fun x _=>.aX (.cons (.int _ _) (.cons (.int _ _) (.cons (.int _ _) .nil)))) (fun x O=>by
 have L:=xz (sz:=fun x:qE×Nat=>bH x.1) (ok:=fun x=>bH x.1+x.2<2^60) (out:=vK) JB (f:=143) (l:=[]) x;generalize hl:(⟨143,false,bQ (fun y=>bH y.1+y.2<2^60/\bH y.1<bH x.1) uD vK⟩:En)::[]=l at L⊢;obtain⟨x,d⟩:=x;have kr:∀(y:qE),bH y<bH x->∀H,aM prog (ay pls l) 143 [.aE (y.map St.cells),.int .i64 ((d+1:Nat):Int)] H fun v H'=>v=.aX [.int .i64 (nS y),.int .i64 (dk y),.int .i64 (fj y (d+1))]/\H'=H:=fun y g H=>by
  subst hl;exact bZ (enc:=uD) (out:=vK) JB (x:=(y,d+1)) rfl ⟨by simp only[]at O⊢;omega,g⟩
 simp only[]at O;have C:=vA x;have hn:=EG x;have hwl:=EH x;have hm:=EI x d;have hwd:IntKind.wrap .i64 ((d:Int)+1)=((d+1:Nat):Int):=Et;change aM _ _ _ [.aE (x.map St.cells),.int .i64 d] _ _;refine a0 (M:=78) (rs:=[.tmp 4,.tmp 5,.tmp 6]) L.call L.aG L.az func143 rfl rfl OS.2 rfl ?_;dsimp only[OS,aW,Nat.reduceAdd];refine iX ?_;refine bY [0,1] [] 10 x.length (fun i E H=>∃a b m:Nat,E.at 7=.int .i64 a/\E.at 8=.int .i64 b/\E.at 9=.int .i64 m/\a+nS (x.drop i)=nS x/\b+dk (x.drop i)=dk x/\max m (fj (x.drop i) d)=fj x d) eE ⟨0,0,0,eE,eE,eE,au,au,au⟩ ?_;rintro i E H2 hi Z Y z I ⟨a,b,m,k7,k8,k9,U,J,V⟩;(try simp only[bq,aT,aN,aG,aR,Nat.reduceBEq, *]at Z);(try simp only[aT, *]at Y);(try simp only[bX,]at z);repeat' (first
  |(apply aj ?_;clear hK K)|apply aO ?_|(apply bp ?_ ?_<;>(intro hb hbp;try(cases hb;done)))|(apply ak fun K hK=>?_)|fail)
 .have j:i<x.length:=by simpa using hb
  have hgx:x[i]?=some x[i]:=aL j;have hsm:=rF (cB j);have hsz:=x[i].aT;have d1:nS (x.drop i)=cF x[i]+nS (x.drop (i+1)):=ng;have d2:dk (x.drop i)=dC x[i]+dk (x.drop (i+1)):=ng;have d3:fj (x.drop i) d=max (ct x[i] d) (fj (x.drop (i+1)) d):=ng;rw[zc2]at d1;rw[Bl]at d2;rw[zc3]at d3;have gh0:=@OV;have gh1:=@OW;have gh2:=@OX;repeat' (first
   |(apply aj ?_;clear hK K)|apply aO ?_|(apply ez ?_;first|refine Rx.k (kr _ ac _) ?_)|(apply bp ?_ ?_<;>(intro hb hbp;try(cases hb;done)))|(apply ak fun K hK=>?_)|fail)
  all_goals
   refine⟨ac,aK,aK,bG,vG,?_⟩;refine⟨a+1+nS x[i].a9+nS x[i].bl,b+(if x[i].aw=4 then 1 else 0)+dk x[i].a9+dk x[i].bl,max (max m d) (max (fj x[i].a9 (d+1)) (fj x[i].bl (d+1))),?_,?_,?_,ac,ac,ac⟩
   .simp only[aG,Nat.reduceBEq]
    congr 1
    simp (disch:=omega) only[eX];omega
   .simp only[aG,Nat.reduceBEq]
    congr 1
    simp (disch:=omega) only[eX, *];simp;try omega
   .simp only[aG,Nat.reduceBEq]
    congr 1
    omega
 .all_goals refine qq ?_
  rw[show i=x.length by simp at hb;omega,gH]at U J V;simp[nS,dk,fj]at U J V;simp only[vK,U,J,V])
end
section
def tyI1.tyF:=ad @cA (ad @eZ (@oH))
open tyI1
noncomputable def OY:{c:SC // aC 31 (f42.body.getD .skip)=c}:=by
 refine⟨?_,?_⟩;rotate_left
 .simp only[f42,bz,aC,bw,bt,bA,bB,Nat.blt,Nat.ble];rfl
noncomputable def OZ:{c:SC // aC 6 (f129.body.getD .skip)=c}:=by
 refine⟨?_,?_⟩;rotate_left
 .simp only[f129,bz,aC,bw,bt,bA,bB,Nat.blt,Nat.ble];rfl
noncomputable def O0:{c:SC // aC 22 (f199.body.getD .skip)=c}:=by
 refine⟨?_,?_⟩;rotate_left
 .simp only[f199,bz,aC,bw,bt,bA,bB,Nat.blt,Nat.ble];rfl
noncomputable def O1:{c:SC // aC 21 (f197.body.getD .skip)=c}:=by
 refine⟨?_,?_⟩;rotate_left
 .simp only[f197,bz,aC,bw,bt,bA,bB,Nat.blt,Nat.ble];rfl
noncomputable def O2:{c:SC // aC 21 (f198.body.getD .skip)=c}:=by
 refine⟨?_,?_⟩;rotate_left
 .simp only[f198,bz,aC,bw,bt,bA,bB,Nat.blt,Nat.ble];rfl
def gY(op:Int):AV:=.aX [.int .i64 (bC op).1,.bool (bC op).2]
def O3(op:Int):fY (gY op):=.aX (.cons (.int _ _) (.cons (.bool _) .nil))
theorem zc8(op:Int):bF prog ρ 42 [.int .i64 op] (gY op):=dE fit (pls:=pls) (l:=[]) trivial (.cons (.int _ _) .nil) (O3 op) (by
 have L:=fh 42;refine a0 (M:=31) (rs:=[.tmp 2,.tmp 3]) (L.call _) L.aG L.az func42 rfl rfl OY.2 rfl ?_;dsimp only[OY,aW,Nat.reduceAdd];repeat' (first
  |(apply aj ?_;clear hK K)|apply aO ?_|(apply cD ?_ ?_<;>(intro hg hgp;try(cases hg;done)))|(apply bp ?_ ?_<;>(intro hb hbp;try(cases hb;done)))|(apply ak fun K hK=>?_)|fail)
 all_goals
  refine qc ?_
  first
  |(simp_all[gY,bC];done)
  |(unfold gY bC;rw[af ac,af ac,af ac,af ac,af ac,af ac];done))
def JC(n:Nat):(0:Int)<=ee n/\ee n<=n:=by
 by_cases h:n=0
 .subst h;decide
 .rw[y9 n ac];omega
def zc9(n:Nat)(I:n<2^60):bF prog ρ 129 [.int .i64 n] (.int .i64 (ee n)):=dE fit (pls:=pls) (l:=[]) trivial (.cons (.int _ _) .nil) (.int _ _) (by
 have L:=fh 129;have Z:(2:Int)≠0:=aE;have Y:IntKind.wrap .i64 ((n:Int)-1)=(n:Int)-1:=eX ac ac;refine a0 (M:=6) (rs:=[.tmp 2]) (L.call _) L.aG L.az func129 rfl rfl OZ.2 rfl ?_;dsimp only[OZ,aW,Nat.reduceAdd];refine Hu ?_;all_goals refine qq ?_
 rw[ee];rw[eX (by have:=(JC n).1;unfold ee at this;omega) (by have:=(JC n).2;unfold ee at this;omega)])
def zda(H:Hp)(a b c:Int):et prog H 26 3 [(0,.int .i64 a),(1,.int .i64 b),(2,.int .i64 c)]=some (.sl H.next 0 3 1,H.alloc (.cells [.int .i64 a,.int .i64 b,.int .i64 c] 0 true)):=aB
def zdb(H:Hp)(a b:Int):et prog H 26 2 [(0,.int .i64 a),(1,.int .i64 b)]=some (.sl H.next 0 2 1,H.alloc (.cells [.int .i64 a,.int .i64 b] 0 true)):=aB
def zb(H:Hp)(a:Int):et prog H 26 1 [(0,.int .i64 a)]=some (.sl H.next 0 1 1,H.alloc (.cells [.int .i64 a] 0 true)):=aB
theorem zdc(op:Int):bF prog ρ 199 [.int .i64 op] (dJ (dW op)):=ur (m:=3) (cfg:=ay pls []) fit (nU ρ) (fun f O r h=>by simp[ay,cM]at h) (.cons (.int _ _) .nil) (by
 have L:=fh 199;refine a0 (M:=22) (rs:=[.tmp 2]) (L.call _) L.aG L.az func199 rfl rfl O0.2 rfl ?_;dsimp only[O0,aW,Nat.reduceAdd];have Z:=@zda;have Y:=@zdb;have V:=@zb;repeat' (first
  |(apply aj ?_;clear hK K)|apply aO ?_|(apply bp ?_ ?_<;>(intro hb hbp;try(cases hb;done)))|(apply ak fun K hK=>?_)|fail)
 all_goals
  all_goals refine qq ?_
  simp_all[dW];rfl)
def zdd(s w:qu)(i:Nat)(C:i<s.length)(J:s.length<=w.length):cK (s.drop i) (w.drop i)=(decide (s.getD i 0=w.getD i 0)&&cK (s.drop (i+1)) (w.drop (i+1))):=by
 rw[ft C,ft (l:=w) ac,cK];simp[cQ,aL C,aL (show i<w.length by omega)]
def xE(x:qu×qu):qt:=[dJ x.1,dJ x.2]
def Bm{a b:qu}(h:dJ a=dJ b):a=b:=by
 simp only[dJ,AV.aE.injEq]at h;exact Oj h
def zde(x y:qu×qu)(h:xE x=xE y):x=y:=by
 simp only[xE,dN,aN]at h;exact n1 (Bm h.1) (Bm h.2)
theorem zdf(x:qu×qu)(I:x.1.length<=x.2.length/\x.2.length<2^60):bF prog ρ 197 (xE x) (.bool (cK x.1 x.2)):=dE fit (pls:=pls) (l:=[]) trivial (.cons (uu _) (.cons (uu _) .nil)) (.bool _) (by
 obtain⟨s,w⟩:=x;obtain⟨J,hb⟩:=I;simp only[]at J hb;have L:=fh 197;rw[xE];simp only[];refine a0 (M:=21) (rs:=[.tmp 4]) (L.call _) L.aG L.az func197 rfl rfl O1.2 rfl ?_;dsimp only[O1,aW,Nat.reduceAdd];refine iX ?_;refine bY [0,1] [] 5 s.length (fun i E H=>cK s w=cK (s.drop i) (w.drop i)) eE au ?_;rintro i E g hi U m z C O;(try simp only[bq,aT,aN,aG,aR,Nat.reduceBEq, *]at U);(try simp only[aT, *]at m);(try simp only[bX,]at z);repeat' (first
  |(apply aj ?_;clear hK K)|apply aO ?_|(apply bp ?_ ?_<;>(intro hb hbp;try(cases hb;done)))|(apply ak fun K hK=>?_)|(apply da 4 [(3,9),(7,9)] fun K hK=>?_)|(apply ce ?_;try intro _)|fail)
 .have j:i<s.length:=by simpa using hb
  have Z:s[i]?=some s[i]:=aL j;have V:w[i]?=some w[i]:=aL ac;have Y:=zdd s w i j J;refine LU ?_ (fun hb hbp=>?_) (fun hb hbp=>?_)
  .exact bN
  .all_goals refine qq ?_
   rw[O,Y,cQ,cQ,Z,V];simp_all
  .refine⟨ac,aK,aK,bG,yY,?_⟩;rw[O,Y,cQ,cQ,Z,V];simp_all
 .all_goals refine qq ?_
  rw[O,show i=s.length by simp at hb;omega,gH];rfl)
noncomputable def JD:En:=⟨42,false,bQ (fun _=>True) (fun n:Int=>[.int .i64 n]) gY⟩
def zdg:co prog ρ JD:=cz fun n _=>zc8 ρ n
def EJ(x y:Int)(h:([.int .i64 x]:qt)=[.int .i64 y]):x=y:=jf
def xF(n:Nat):qt:=[.int .i64 n]
def O4(x y:Nat)(h:xF x=xF y):x=y:=by
 simp only[xF,dN,AV.int.injEq,aN,jy]at h;omega
noncomputable def tx:En:=⟨129,false,bQ (fun n=>n<2^60) xF fun n=>.int .i64 (ee n)⟩
def EK:co prog ρ tx:=cz fun n I=>zc9 ρ n I
def zd{l:qB}(J:∀i,cM l 129 i=tx.sp i)(n:Nat)(I:n<2^60)(H:Hp):aM prog (ay pls l) 129 [.int .i64 n] H fun v H'=>v=.int .i64 (ee n)/\H'=H:=
 bZ (enc:=xF) (ok:=fun n=>n<2^60) (out:=fun n=>.int .i64 (ee n)) O4 (x:=n) (J _) I
noncomputable def JE:En:=⟨199,false,bQ (fun _=>True) (fun n:Int=>[.int .i64 n]) fun n=>dJ (dW n)⟩
def zdh:co prog ρ JE:=cz fun n _=>zdc ρ n
def ze(x:qu×qu):Prop:=x.1.length<=x.2.length/\x.2.length<2^60
noncomputable def JF:En:=⟨197,false,bQ ze xE fun x=>.bool (cK x.1 x.2)⟩
def zdi:co prog ρ JF:=cz fun x z=>zdf ρ x z
theorem zdj(n:Nat)(h3:3<=n)(hn:n<2^30):bF prog ρ 198 [.int .i64 n] (dJ (l8 n)):=ur (m:=3) (cfg:=ay pls [tx]) fit (nU ρ) (eU.bR ⟨EK ρ,trivial⟩) (.cons (.int _ _) .nil) (by
 have J:zd0 (ay pls [tx]) 198:=db (fun _=>rfl) rfl;have hlv:=y9 n ac;refine a0 (M:=21) (rs:=[.tmp 2]) (J.call _) J.aG J.az func198 rfl rfl O2.2 rfl ?_;dsimp only[O2,aW,Nat.reduceAdd];refine eh ?_;have Z:∀i,(List.replicate i (1:Int)).length=i:=fun i=>rJ;have j:(ay pls [tx]).keep 198=false:=rfl;refine bY [0,2] [] 4 n (fun i E H=>∃v,E.at 3=v/\i7 H v (List.replicate i 1) 0) eE ⟨.ak,eE,.inl ⟨rfl,rfl⟩⟩ ?_;rintro i E Y hi V U z hsI ⟨v,k3,O⟩;(try simp only[bq,aT,aN,aG,aR,Nat.reduceBEq, *]at V);(try simp only[aT, *]at U);(try simp only[bX,]at z);repeat' (first
  |(apply aj ?_;clear hK K)|apply aO ?_|(apply bp ?_ ?_<;>(intro hb hbp;try(cases hb;done)))|(apply ak fun K hK=>?_)|fail)
 .have hlt:i<n:=by simpa using hb
  have gh0:=@zb;refine eh ?_;have g:i7 (Y.alloc (.cells [.int .i64 1] 0 true)) v (List.replicate i 1) 0:=O.keep (dA _) fun k hk=>by rw[aD,af (by have:=(O.n.lt hk).2;omega)]
  obtain⟨v5,H5,a5,s5,n5,f5,o5⟩:=zcI (r:=Y.next) (imm:=0) 1 g (de _) fG (by rw[Z];omega);refine jP cV cV Es ?_;refine eh ?_;refine⟨ac,aK,aK,bG,(by simp only[aG,Nat.reduceBEq, *];exact gX (n:=n) ac ac),?_⟩;exact⟨v5,eE,.inr (by rw[List.replicate_succ'];exact s5)⟩
 .have I:i=n:=by simp at hb;omega
  subst I;rcases O with⟨_,h⟩|⟨r,L,h2,_,h4⟩
  .have:=kV List.length h;rw[Z]at this;simp at this;omega
  subst L;rw[Z]at k3;have C:((List.replicate i (1:Int)).map (AV.int .i64)).length=i:=au;generalize hcs:(List.replicate i (1:Int)).map (AV.int .i64)=cs at h2 C;have hi1:0<i:=ac;have hi2:(i-1)/2+1<i:=ac;have e1:IntKind.wrap .i64 (((i-1)/2:Nat)+1)=(((i-1)/2+1:Nat):Int):=eX ac ac;repeat' (first
   |apply Ry.o ?_|(apply ch ?_;first|refine Rx.k (zd (fun _=>rfl) _ ac _) ?_)|fail)
  refine rA cV cV (y5 h2 ac 2) ?_;refine Hn ?_;refine rA cV cV (y5 gC (by rw[jv];omega) 2) ?_;refine lQ ?_;all_goals refine qq ?_
  have hll:(l8 i).length=i:=by simp[l8]
  have hb:ir ((Y.set r (.cells (cs.set 0 (.int .i64 2)) 0 true)).set r (.cells ((cs.set 0 (.int .i64 2)).set ((i-1)/2+1) (.int .i64 2)) 0 true)) (.sl r 0 (l8 i).length 1) (l8 i) 0:=⟨r,0,rfl,by
   rw[aA,ah rfl,l8,tt,tt,hcs,show(ee i+1).toNat=(i-1)/2+1 by omega],de _,de _,h4⟩
  have:=hb.iceV 1;rw[hll]at this;exact this)
noncomputable def JG:En:=⟨198,false,bQ (fun n=>3<=n/\n<2^30) xF fun n=>dJ (l8 n)⟩
def zdk:co prog ρ JG:=cz fun n I=>zdj ρ n I.1 I.2
end
end Go.Proofs.YtbflaciihaijgaaGreat
