/- Lemmas for the last file. -/
import Derived.Test.YtbflaciihaijgaaGreatJEG
set_option linter.all false
set_option maxHeartbeats 32000000
namespace Go.Ab
set_option maxRecDepth 20000
open Go
abbrev qL:=List Bool
abbrev qK:=List qL
variable{qf:Prop}
def dG(h:qf:=by simp only[aZ];omega):=h
def vL(h:qf:=by simp only[aZ]at n5;omega):=h
def eN(h:qf:=by rfl):=h
def EL(h:qf:=by rw[<- hHb];exact Nat.le_refl _):=h
def Bn(h:qf:=by rw[<- hHb,Hp.get_set,if_pos rfl]):=h
def JH(h:qf:=by rw[Hp.get_set,if_pos rfl,L]):=h
def sB(h:qf:=by simp at hb;omega):=h
def JI(h:qf:=by rw[List.drop_eq_getElem_cons j,List.any_cons]):=h
def EM(h:qf:=by rw[Int.tmod_eq_emod_of_nonneg ac];omega):=h
def EN(h:qf:=by rw[eX ac ac];omega):=h
def sC(h:qf:=by rw[aD,if_pos eN];rfl):=h
def xG(h:qf:=by simp only[aG,Nat.reduceBEq, *];exact gX (n:=n.aj.length) ac ac):=h
def sD(h:qf:=by rw[Hp.get_set,if_neg ac,aD,if_neg ac]):=h
def O5(h:qf:=by rw[show l.length - i=(l.length - (i+1))+1 by omega];rfl):=h
def JJ(h:qf:=by rw[aD,if_neg ac];exact hg):=h
def O6(h:qf:=by rw[Hp.get_set,if_neg ac,aD,if_neg ac];exact hg):=h
def O7(h:qf:=by rw[Hp.get_set,if_neg ac,aD,if_neg ac];exact hg3):=h
def O8(h:qf:=by rw[List.set_append,if_neg ac,hml,Nat.sub_self,List.set_cons_zero]):=h
def JK(h:qf:=by rw[Hp.get_set,if_neg ac];exact g45):=h
def zf(h:qf:=by simp only[aG,Nat.reduceBEq, *];exact gX (n:=p.aa.length) ac ac):=h
def EO(h:qf:=by simp only[aG,Nat.reduceBEq, *];exact gX (n:=x.args.length) ac ac):=h
def oO:=@List.all_cons
def JL:=@List.take_succ_cons
def vM:=@List.take_zero
def Bo:=@decide_not
def i8:=@Bool.not_eq_false'
def O9:=@List.flatMap_nil
def Pa:=@List.mem_singleton_self
def EP:=@Int.not_lt
def JM:=@Int.tdiv_nonneg
def EQ:=@List.any_eq_true
def Pb:=@List.fst_mem_of_mem_zipIdx
def l9:=@Int.tdiv_eq_ediv_of_nonneg
def Bp:=@Nat.zero_testBit
def ER:=@Nat.eq_of_testBit_eq
def ny:=@List.drop_eq_nil_of_le
def ES:=@Nat.or_lt_two_pow
def JN:=@BitVec.testBit_toNat
def Pc:=@Nat.lt_pow_two_of_testBit
def JO:=@Nat.pow_lt_pow_right
def zg:=@Bool.or_true
def zh:=@Bool.not_or
def sE:=@of_decide_eq_true
def dH:=And.intro @lH @i8
def tz:=And.intro @el @gW
def lL:=And.intro @dZ.{0,0} @y0.{0,0}
def pG:=And.intro oL tz
def rM:=And.intro @mU @zg
end Go.Ab
namespace Go.Proofs.YtbflaciihaijgaaGreat
set_option maxRecDepth 20000
open Go Go.Ab Proofs.Tryz
variable(ρ:Nat->Int)
variable{l:qB}{s:qu}{cfg:Cfg}{H H':Hp}{v:AV}{lo i j:Nat}{S:Nat->Prop}{Z:Int}{n:Nd}
section
def tyI2.tyF:=ad @ec (ad @cA (ad @eZ (ad @jB (ad @fX (@th)))))
open tyI2
noncomputable def Pd:{c:SC // aC 53 (f168.body.getD .skip)=c}:=by
 refine⟨?_,?_⟩;rotate_left
 .simp only[f168,bz,aC,bw,bt,bA,bB,Nat.blt,Nat.ble];rfl
noncomputable def oP:{c:SC // aC 106 (f167.body.getD .skip)=c}:=by
 refine⟨?_,?_⟩;rotate_left
 .simp only[f167,bz,aC,bw,bt,bA,bB,Nat.blt,Nat.ble];rfl
noncomputable def JP:qB:=[JD,tx,JE,JF,JG]
def Pe:eU prog ρ JP:=⟨zdg ρ,EK ρ,zdh ρ,zdi ρ,zdk ρ,trivial⟩
abbrev dR(l:qy):AV:=.aE (l.map Nd.cells)
def rN(l:qy):fY (dR l):=.map fun x _=>x.pure
def Bq{a b:qy}(h:dR a=dR b):a=b:=by
 simp only[dR,AV.aE.injEq]at h;exact nZ (fun _ _ _=>uw) h
def Br(x:qy×Nd):Prop:=x.2.op=25->∃(k:Nat) (m:Nd),x.2.aj[0]?=some (k:Int)/\x.1[k]?=some m/\m.aj.length<2^60
def xH(x:qy×Nd):qt:=[dR x.1,.agg x.2.cells]
def zdl(x y:qy×Nd)(h:xH x=xH y):x=y:=by
 simp only[xH,dN,AV.agg.injEq,aN]at h;exact n1 (Bq h.1) (uw h.2)
theorem zdm(x:qy×Nd)(z:Br x):bF prog ρ 168 (xH x) (.bool (cq x.1 x.2)):=dE fit (pls:=pls) (Pe ρ) (.cons (rN _) (.cons (.agg (yV _)) .nil)) (.bool _) (by
 obtain⟨l,n⟩:=x;have L:zd0 (ay pls JP) 168:=db (fun _=>rfl) rfl;unfold Br at z;rw[xH];simp only[]at z⊢;refine a0 (M:=53) (rs:=[.tmp 4]) (L.call _) L.aG L.az func168 rfl rfl Pd.2 rfl ?_;dsimp only[Pd,aW,Nat.reduceAdd];repeat' (first
  |(apply aj ?_;clear hK K)|apply aO ?_|(apply cD ?_ ?_<;>(intro hg hgp;try(cases hg;done)))|(apply bp ?_ ?_<;>(intro hb hbp;try(cases hb;done)))|(apply ak fun K hK=>?_)|fail)
 all_goals (first|(refine⟨aq,_,aF,?_⟩;(try simp only[am]);clear z;simp_all[cq,dV]<;>omega;done)|skip)
 all_goals trace_state
 have Y:n.op=25:=iZ;obtain⟨k,m,i,g,V⟩:=z Y;have O:n.aj.headD 0=k:=by
  cases j:n.aj with
  |nil=>rw[j]at i;simp at i
  |cons a b=>rw[j]at i;simpa using i
 have I:nu l (n.aj.headD 0)=m.aj.length:=by rw[O,nu,fK,g]
 have Z:=JC m.aj.length;have U:IntKind.wrap .i64 (ee m.aj.length-1)=ee m.aj.length-1:=eX ac ac;repeat' (first
  |(apply aj ?_;clear hK K)|apply aQ ?_|(apply ch ?_;first|refine Rx.k (zd (fun _=>rfl) _ ac _) ?_)|(apply bT ?_ ?_<;>(intro hg hgp;try(cases hg;done)))|(apply ak fun K hK=>?_)|fail)
 all_goals (first|(refine⟨aq,_,aF,?_⟩;(try simp only[am]);clear z;simp_all[cq,dV]<;>omega;done)|skip)
 all_goals trace_state)
noncomputable def Pf:En:=⟨168,true,bQ Br xH fun x=>.bool (cq x.1 x.2)⟩
def zdn:co prog ρ Pf:=cz fun x z=>zdm ρ x z
theorem Pg(a:Int)(s:qu):gU prog 26 (.aE ((a::s).map fun n=>[AV.int .i64 n])) (some (.int .i64 1)) none=some (.aE (s.map fun n=>[AV.int .i64 n])):=by
 have Y:(1:Int)=Int.ofNat 1:=rfl;simp only[gU,underlying26,jg,ig];rw[ah ⟨au,aH _⟩];rw[fI au];cases s with
 |nil=>rfl
 |cons b s=>rfl
theorem zdo(op:Int)(U:0<=(bC op).1):(bC op).1<=(dW op).length:=by
 unfold bC at U⊢;unfold dW;repeat' split
 all_goals (first|(simp;done)|omega|(simp_all;done))
def vN(x:Nd×qu):qt:=[.agg x.1.cells,dJ x.2]
def zdp(x y:Nd×qu)(h:vN x=vN y):x=y:=by
 simp only[vN,dN,AV.agg.injEq,aN]at h;exact n1 (uw h.1) (Bm h.2)
def xI(J:∀i,cM l 42 i=JD.sp i)(n:Int)(H:Hp):aM prog (ay pls l) 42 [.int .i64 n] H fun v H'=>v=gY n/\H'=H:=
 bZ (enc:=fun n:Int=>[.int .i64 n]) (ok:=fun _=>True) (out:=gY) EJ (x:=n) (J _) trivial
def Ph(J:∀i,cM l 199 i=JE.sp i)(n:Int)(H:Hp):aM prog (ay pls l) 199 [.int .i64 n] H fun v H'=>v=dJ (dW n)/\H'=H:=
 bZ (enc:=fun n:Int=>[.int .i64 n]) (ok:=fun _=>True) (out:=fun n=>dJ (dW n)) EJ (x:=n) (J _) trivial
def zdq(J:∀i,cM l 198 i=JG.sp i)(n:Nat)(I:3<=n/\n<2^30)(H:Hp):aM prog (ay pls l) 198 [.int .i64 n] H fun v H'=>v=dJ (l8 n)/\H'=H:=
 bZ (enc:=xF) (ok:=fun n=>3<=n/\n<2^30) (out:=fun n=>dJ (l8 n)) O4 (x:=n) (J _) I
def JQ(J:∀i,cM l 197 i=JF.sp i)(s w:qu)(h:ze (s,w))(H:Hp):aM prog (ay pls l) 197 [dJ s,dJ w] H fun v H'=>v=.bool (cK s w)/\H'=H:=
 bZ (enc:=xE) (ok:=ze) (out:=fun x=>.bool (cK x.1 x.2)) zde (x:=(s,w)) (J _) h
theorem rO(a b:AV):Ab.extract (.aX [a,b]) 0=some a:=rfl
theorem rQ(a b:AV):Ab.extract (.aX [a,b]) 1=some b:=rfl
theorem zdr(s:qu):bR 31 s=(decide ((3:Int)<=s.length)&&decide ((s.length:Int).tmod 2=1)&&decide (ee s.length<=16)&&cK s (l8 s.length)):=by
 have J:(s.length:Int).tmod 2=((s.length%2:Nat):Int):=EM;have Y:decide ((s.length:Int).tmod 2=1)=decide (s.length%2=1):=by rw[J];exact pB.2 ac
 have m:decide ((3:Int)<=s.length)=decide (3<=s.length):=pB.2 ac;rw[Y,m];rfl
def ET(a:Int)(s:qu):bR 30 (a::s)=(!decide ((7:Int)<((s.length+1:Nat):Int))&&decide (a=2)&&s.all fun x=>decide (x=1)):=by
 have Y:(!decide ((7:Int)<((s.length+1:Nat):Int)))=decide ((a::s).length<=7):=by
  rw[<-Bo];exact pB.2 (by simp only[eF];omega)
 have m:decide (1<=(a::s).length)=true:=au;rw[Y];show(decide (1<=(a::s).length)&&decide ((a::s).length<=7)&&decide (a=2)&&s.all fun x=>decide (x=1))=_;rw[m,el]
theorem zds(a b c:Int):bR 22 [a,b,c]=if b=2 then (decide (a=1)&&decide (c=2))else cK [a,b,c] [1,1,1]:=by
 have e:bR 22 [a,b,c]=if (22:Int)=22/\b=2 then (decide (a=1)&&decide (c=2))else cK [a,b,c] [1,1,1]:=rfl
 rw[e];simp
def zdt{op:Int}(s:qu)(h:(bC op).2=false):bR op s=false:=by rw[bR,ah h]
def JR{op:Int}(h:0<=(bC op).1)(h2:(bC op).1≠s.length):bR op s=false:=by
 unfold bR;split
 .rfl
 .rw[ah ⟨h,h2⟩]
def zdu{op:Int}(h:(bC op).2=true)(h2:(bC op).1=s.length)(h1:op≠31)(m:op≠30)(U:op≠22):bR op s=cK s (dW op):=by
 unfold bR;rw[af (by rw[h];simp),af (fun k=>k.2 h2),af h1,af m,af (fun k=>U k.1)]
def Pi(op:Int):(dW op).length<=3:=by
 unfold dW;repeat' split
 all_goals decide
def Pj{op:Int}(h1:op≠31)(m:op≠30):0<=(bC op).1:=by
 unfold bC;repeat' split
 all_goals (first|decide|omega)
theorem zdv(x:Nd×qu)(hx:x.2.length<2^30):bF prog ρ 167 (vN x) (.bool (bR x.1.op x.2)):=dE fit (pls:=pls) (Pe ρ) (.cons (.agg (yV _)) (.cons (uu _) .nil)) (.bool _) (by
 obtain⟨⟨V,imm,kids⟩,s⟩:=x;have L:zd0 (ay pls JP) 167:=db (fun _=>rfl) rfl;rw[vN];simp only[Nd.cells]at hx⊢;have hq:(2:Int)≠0:=aE;by_cases U:V=31
 .subst U;have hv:gY 31=.aX [.int .i64 (-1),.bool true]:=rfl;have Y:ze (s,l8 s.length):=⟨by simp[l8],by simp[l8];omega⟩;refine a0 (M:=106) (rs:=[.tmp 4]) (L.call _) L.aG L.az func167 rfl rfl oP.2 rfl ?_;dsimp only[oP,aW,Nat.reduceAdd];have Z:=@rO;have O:=@rQ;repeat' (first
   |(apply aj ?_;clear hK K)|apply aQ ?_|(apply ch ?_;first|refine Rx.k (xI (fun _=>rfl) _ _) ?_|refine Rx.k (zd (fun _=>rfl) _ ac _) ?_|refine Rx.k (zdq (fun _=>rfl) _ ac _) ?_|refine Rx.k (JQ (fun _=>rfl) _ _ Y _) ?_)|(apply bT ?_ ?_<;>(intro hg hgp;try(cases hg;done)))|(apply aV ?_ ?_<;>(intro hb hbp;try(cases hb;done)))|(apply ak fun K hK=>?_)|fail)
  all_goals
   refine qc ?_
   rw[zdr];(try simp only[dH]at *);simp only[ *,i4,gD,pG,]
 by_cases j:V=30
 .subst j;have hv:gY 30=.aX [.int .i64 (-1),.bool true]:=rfl;cases s with
  |nil=>
   refine a0 (M:=106) (rs:=[.tmp 4]) (L.call _) L.aG L.az func167 rfl rfl oP.2 rfl ?_;dsimp only[oP,aW,Nat.reduceAdd];have Z:=@rO;have O:=@rQ;repeat' (first
    |(apply aj ?_;clear hK K)|apply aQ ?_|(apply ch ?_;first|refine Rx.k (xI (fun _=>rfl) _ _) ?_)|(apply bT ?_ ?_<;>(intro hg hgp;try(cases hg;done)))|(apply aV ?_ ?_<;>(intro hb hbp;try(cases hb;done)))|(apply ak fun K hK=>?_)|fail)
   all_goals refine qq ?_
   rfl
  |cons a s=>
   have hsl:=Pg a s;simp only[eF]at hx;refine a0 (M:=106) (rs:=[.tmp 4]) (L.call _) L.aG L.az func167 rfl rfl oP.2 rfl ?_;dsimp only[oP,aW,Nat.reduceAdd];have Z:=@rO;have O:=@rQ;repeat' (first
    |(apply aj ?_;clear hK K)|apply aQ ?_|(apply ch ?_;first|refine Rx.k (xI (fun _=>rfl) _ _) ?_)|(apply bT ?_ ?_<;>(intro hg hgp;try(cases hg;done)))|(apply aV ?_ ?_<;>(intro hb hbp;try(cases hb;done)))|(apply ak fun K hK=>?_)|fail)
   .all_goals refine qq ?_
    rw[ET];(try simp only[lH]at *);simp only[ *,gD,oL,iC,]
   .refine bY [1,2,72,73] [] 74 s.length (fun i E H=>(s.all fun x=>decide (x=1))=(s.drop i).all fun x=>decide (x=1)) eE au ?_;rintro i E H2 hi hcE hrH hnH hsI hJ;(try simp only[bq,aT,aN,aG,aR,Nat.reduceBEq, *]at hcE);(try simp only[aT,aR, *]at hrH);(try simp only[aZ,bX,bK]at hnH);repeat' (first
     |(apply aj ?_;clear hK K)|apply aO ?_|(apply bp ?_ ?_<;>(intro hb hbp;try(cases hb;done)))|(apply ak fun K hK=>?_)|fail)
    .have J:i<s.length:=by simpa using hb
     have hgx:s[i]?=some s[i]:=aL J;have I:((s.drop i).all fun x=>decide (x=1))=(decide (s[i]=1)&&(s.drop (i+1)).all fun x=>decide (x=1)):=by rw[ft J,oO]
     refine nM (fun hb hbp=>?_) (fun hb hbp=>?_)
     .all_goals refine qq ?_
      rw[ET,hJ,I];(try simp only[dH]at *);simp only[ *,gD,oL,gW,iC,]
     .refine⟨ac,aK,aK,bG,yY,?_⟩;rw[hJ,I];(try simp only[i8]at *);simp only[*,el,]
    .refine lQ ?_;all_goals refine qq ?_
     rw[show i=s.length by simp at hb;omega,gH]at hJ;have hJ2:(s.all fun x=>decide (x=1))=true:=hJ;rw[ET,hJ2];(try simp only[i8]at *);simp only[*,gD,gW,iC,]
   .all_goals refine qq ?_
    rw[ET];(try simp only[dH]at *);simp only[*,i4,em,lX,]
 have z:=Pj U j;cases g:(bC V).2 with
 |false=>
  have hv:gY V=.aX [.int .i64 (bC V).1,.bool false]:=by rw[gY,g]
  refine a0 (M:=106) (rs:=[.tmp 4]) (L.call _) L.aG L.az func167 rfl rfl oP.2 rfl ?_;dsimp only[oP,aW,Nat.reduceAdd];have Z:=@rO;have O:=@rQ;repeat' (first
   |(apply aj ?_;clear hK K)|apply aQ ?_|(apply ch ?_;first|refine Rx.k (xI (fun _=>rfl) _ _) ?_)|(apply bT ?_ ?_<;>(intro hg hgp;try(cases hg;done)))|(apply aV ?_ ?_<;>(intro hb hbp;try(cases hb;done)))|(apply ak fun K hK=>?_)|fail)
  all_goals
   refine qc ?_
   rw[zdt s g]
 |true=>
  by_cases C:(bC V).1=s.length
  .have hv:gY V=.aX [.int .i64 s.length,.bool true]:=by rw[gY,g,C]
   by_cases m:V=22
   .subst m;obtain⟨a,b,c,rfl⟩:=uC (s:=s) (by have e:(bC 22).1=3:=rfl;rw[e]at C;omega);have Y:ze ([a,b,c],dW 22):=⟨aH _,by have:=Pi 22;simp only[];omega⟩;refine a0 (M:=106) (rs:=[.tmp 4]) (L.call _) L.aG L.az func167 rfl rfl oP.2 rfl ?_;dsimp only[oP,aW,Nat.reduceAdd];have Z:=@rO;have O:=@rQ;repeat' (first
     |(apply aj ?_;clear hK K)|apply aQ ?_|(apply ch ?_;first|refine Rx.k (xI (fun _=>rfl) _ _) ?_|refine Rx.k (Ph (fun _=>rfl) _ _) ?_|refine Rx.k (JQ (fun _=>rfl) _ _ Y _) ?_)|(apply bT ?_ ?_<;>(intro hg hgp;try(cases hg;done)))|(apply aV ?_ ?_<;>(intro hb hbp;try(cases hb;done)))|(apply ak fun K hK=>?_)|fail)
    all_goals
     refine qc ?_
     rw[zds];first
     |(simp_all;done)
     |(rw[af iZ];rfl)
   .have Y:ze (s,dW V):=⟨by have:=zdo V z;simp only[];omega,by have:=Pi V;simp only[];omega⟩;have hl0:(0:Int)<=s.length:=ac;refine a0 (M:=106) (rs:=[.tmp 4]) (L.call _) L.aG L.az func167 rfl rfl oP.2 rfl ?_;dsimp only[oP,aW,Nat.reduceAdd];have Z:=@rO;have O:=@rQ;repeat' (first
     |(apply aj ?_;clear hK K)|apply aQ ?_|(apply ch ?_;first|refine Rx.k (xI (fun _=>rfl) _ _) ?_|refine Rx.k (Ph (fun _=>rfl) _ _) ?_|refine Rx.k (JQ (fun _=>rfl) _ _ Y _) ?_)|(apply bT ?_ ?_<;>(intro hg hgp;try(cases hg;done)))|(apply aV ?_ ?_<;>(intro hb hbp;try(cases hb;done)))|(apply ak fun K hK=>?_)|fail)
    all_goals
     refine qc ?_
     rw[zdu g C U j m]
  .have hv:gY V=.aX [.int .i64 (bC V).1,.bool true]:=by rw[gY,g]
   refine a0 (M:=106) (rs:=[.tmp 4]) (L.call _) L.aG L.az func167 rfl rfl oP.2 rfl ?_;dsimp only[oP,aW,Nat.reduceAdd];have Z:=@rO;have O:=@rQ;repeat' (first
    |(apply aj ?_;clear hK K)|apply aQ ?_|(apply ch ?_;first|refine Rx.k (xI (fun _=>rfl) _ _) ?_)|(apply bT ?_ ?_<;>(intro hg hgp;try(cases hg;done)))|(apply aV ?_ ?_<;>(intro hb hbp;try(cases hb;done)))|(apply ak fun K hK=>?_)|fail)
   all_goals
    refine qc ?_
    rw[JR z C])
end
section
def tyV1.tyF:=ad @ec (ad @cA (ad @D1 (ad @dw (ad @eZ (ad @jB (ad @zaN (ad @zbM (ad @zce (ad @zcf (ad @zch (ad @NW (ad @zcg (ad @zci (@zcR))))))))))))))
open tyV1
noncomputable def Pk:{c:SC // aC 20 (f169.body.getD .skip)=c}:=by
 refine⟨?_,?_⟩;rotate_left
 .simp only[f169,bz,aC,bw,bt,bA,bB,Nat.blt,Nat.ble];rfl
noncomputable def Pm:{c:SC // aC 29 (f128.body.getD .skip)=c}:=by
 refine⟨?_,?_⟩;rotate_left
 .simp only[f128,bz,aC,bw,bt,bA,bB,Nat.blt,Nat.ble];rfl
def Pn(L:zd0 cfg 169)(j:cfg.keep 169=false){b:qu}(hv:nr H v b lo)(hb:b.length<2^38)(n:Int):
 aM prog cfg 169 [v,.int .u64 n] H fun w H'=>nr H' w (b++kE n 8) lo/\H.next<=H'.next/\∀k,k<lo->H'.get k=H.get k:=by
 obtain⟨bV,i0,Y,_⟩:=id hv;have hone:AV.one v=true:=by rw[Y];rfl
 clear Y;refine a0 (M:=20) (rs:=[.tmp 4]) (L.call _) L.aG L.az func169 rfl rfl Pk.2 rfl ?_;dsimp only[Pk,aW,Nat.reduceAdd];refine iX ?_;refine bY [1] [] 5 8 (fun i E Z=>∃w,E.at 0=w/\nr Z w (b++kE n i) lo/\∀k,k<lo->Z.get k=H.get k) eE ⟨v,eE,by simpa [kE]using hv,fun _ _=>rfl⟩ ?_;rintro i E Z hi J I z hsI ⟨w,k0,m,V⟩;(try simp only[bq,aT,aN,aG,aR,Nat.reduceBEq, *]at J);(try simp only[aT, *]at I);(try simp only[aZ,br,bX,bK,Nat.reduceAdd]at z);by_cases C:i<8
 .have U:(i:Int)<8:=by omega
  have e1:IntKind.wrap .i64 (8*(i:Int))=((8*i:Nat):Int):=EN;have e2:IntKind.wrap .u64 ((8*i:Nat):Int)=((8*i:Nat):Int):=(by decide:∀i:Fin 8,IntKind.wrap .u64 ((8*i.val:Nat):Int)=((8*i.val:Nat):Int)) ⟨i,C⟩;have e4:∀(D:BinOp->Sx->Sx->qG) (t:TypeId),eK prog D .shr t (.int .u64 n) (.int .u64 ((8*i:Nat):Int))=some (.int .u64 (n.fdiv (2^ (8*i)))):=fun D t=>bin_shr ac rfl;repeat' (first
   |(apply aj ?_;clear hK K)|apply aQ ?_|(apply aV ?_ ?_<;>(intro hb hbp;try(cases hb;done)))|(apply ak fun K hK=>?_)|fail)
  have g:Jw (Z.alloc (.cells [.int .u8 (oc n i)] 0 true)) w (b++kE n i) lo:=.inr (m.keep (dA _) fun k O=>by rw[aD,af (by have:=(m.lt O).2;omega)]);have hlo2:lo<=Z.next:=by obtain⟨r,im,_,_,_,h1,h2⟩:=m;omega
  obtain⟨v5,H5,a5,s5,n5,f5,o5⟩:=zcQ (r:=Z.next) (imm:=0) (oc n i) g dG fG (by rw[fB,uz];omega);have n5':Z.next<=H5.next:=vL
  have o5':∀k,k<lo->H5.get k=H.get k:=fun k O=>by rw[f5 k O,aD,af ac,V k O]
  clear n5 f5 o5;refine jP cV cV Es ?_;refine lQ ?_;refine⟨ac,aK,aK,bG,(by simp only[aG,Nat.reduceBEq, *];exact gX (n:=8) ac ac),?_⟩;exact⟨v5,eE,by rw[zcS,<-lU];exact s5,o5'⟩
 .have U:¬(i:Int)<8:=by omega
  refine Ho (fun hb hbp=>?_);all_goals refine qq ?_
  have hie:i=8:=ac;rw[hie]at m;exact⟨m,ac,V⟩
def vO(n:Nd):qu:=IntKind.wrap .u8 n.op::(kE (IntKind.wrap .u64 n.aF) 8++n.aj.flatMap fun k=>kE (IntKind.wrap .u64 k) 8)
def zdw(n:Nd):vO n=[IntKind.wrap .u8 n.op]++kE (IntKind.wrap .u64 n.aF) 8++n.aj.flatMap fun k=>kE (IntKind.wrap .u64 k) 8:=by
 rw[vO];simp
theorem Po:∀l:qu,wM (l.map (.int .u8))=some (uA l)
 |[]=>rfl
 |a::l=>by
  have:=Po l;simp only[dZ,wM,this];rfl
def zdx{l:qu}(V:nr H v l lo):mM prog H 73 9 v=some (.aq (uA l)):=by
 obtain⟨r,Y,rfl,hg,_⟩:=V;have Z:eQ H 1 (.sl r 0 l.length 1)=some (l.length,l.map (.int .u8)):=by
  have:=pq (H:=H) (r:=r) (o:=0) (n:=l.length) (z:=1) (s:=1) hg au;rw[this,eS,fI au]
 simp only[mM,underlying73,underlying9,underlying5,Z];rw[Po]
def Bt(n:Nd):qt:=[.agg n.cells]
def zdy(x y:Nd)(h:Bt x=Bt y):x=y:=by
 simp only[Bt,dN,AV.agg.injEq,aN]at h;exact uw h
theorem zdz(n:Nd)(hn:n.aj.length<2^30):bF prog ρ 128 [.agg n.cells] (.aq (uA (vO n))):=dE fit (pls:=pls) (l:=[]) trivial (.cons (.agg n.pure) .nil) (.aq _) (by
 have L:=fh 128;refine a0 (M:=29) (rs:=[.tmp 2]) (L.call _) L.aG L.az func128 rfl rfl Pm.2 rfl ?_;dsimp only[Pm,aW,Nat.reduceAdd];refine zY fun K hK=>?_;refine qd ?_;refine aY ?_ (Pn (fh _) rfl (b:=[IntKind.wrap .u8 n.op]) (lo:=1) ⟨1,0,rfl,sC,de _,aH _,by simp[aZ]⟩ au _);rintro w H1 ⟨Y,cF,o1⟩;have g1:H1.get 0=some (.cells n.cells 0 true):=by rw[o1 0 ac];rfl
 have n1':1<=H1.next:=by simp only[aZ]at cF;omega
 clear cF o1;dsimp only[aU];refine iX ?_;refine bY [1,2,16,17] [] 18 n.aj.length (fun j E H=>∃w,E.at 3=w/\nr H w ([IntKind.wrap .u8 n.op]++kE (IntKind.wrap .u64 n.aF) 8++(n.aj.take j).flatMap fun k=>kE (IntKind.wrap .u64 k) 8) 1/\H.get 0=some (.cells n.cells 0 true)) eE ⟨w,eE,sX,g1⟩ ?_;rintro j E H2 hj V U z hsI ⟨w2,k3,m,g2⟩;(try simp only[bq,aT,aN,aG,aR,Nat.reduceBEq, *]at V);(try simp only[aT, *]at U);(try simp only[aZ,br,bX,bK,Nat.reduceAdd]at z);by_cases O:j<n.aj.length
 .have Z:(j:Int)<n.aj.length:=by omega
  have J:n.aj[j]?=some n.aj[j]:=aL O;have I:n.aj.take (j+1)=n.aj.take j++[n.aj[j]]:=by rw[sd,J];rfl
  have hfl:((n.aj.take j).flatMap fun k=>kE (IntKind.wrap .u64 k) 8).length<=8*j:=by
   rw[List.length_flatMap];simp only[uz];have:((n.aj.take j).map fun _=>8).sum=8*(n.aj.take j).length:=by
    generalize n.aj.take j=q;induction q with
    |nil=>rfl
    |cons a q ih=>simp[ih];omega
   rw[this,mP];omega
  generalize n.aj[j]=kd at *;repeat' (first
   |(apply aj ?_;clear hK K)|apply aQ ?_|(apply aV ?_ ?_<;>(intro hb hbp;try(cases hb;done)))|(apply ak fun K hK=>?_)|fail)
  refine qd ?_;refine aY ?_ (Pn (fh _) rfl m (by rw[fB,fB,uz,List.length_singleton];omega) _);rintro w3 H3 ⟨g,n3,o3⟩;have g3:H3.get 0=some (.cells n.cells 0 true):=by rw[o3 0 ac];exact g2
  dsimp only[aU];refine lQ ?_;refine⟨ac,aK,aK,bG,xG,?_⟩;exact⟨w3,eE,by rw[I,List.flatMap_append,xo,O9,bm,<-lU];exact g,g3⟩
 .have Z:¬(j:Int)<n.aj.length:=by omega
  have C:j=n.aj.length:=ac;subst C;rw[AA]at m;have i:=zdx m;rw[<-zdw]at i;refine wG ?_;all_goals (refine⟨aq,_,aF,?_⟩;try simp only[am]))
end
section
def oQ:Nat->AV->Bool
 |0,_=>false
 |n+1,v=>match v with
  | .sl _ _ _ _=>true
  | .agg g=>g.any (oQ n)
  |_=>false
theorem EU{S:Nat->Prop}{H:Hp}{n m k:Nat}(ih:∀{v u:AV},dc S n H v u->oQ m (cp k v)=false->cp k u=cp k v):∀{g V:qt},cE (dc S n H) g V->(g.map (cp k)).any (oQ m)=false->V.map (cp k)=g.map (cp k)
 |[],[],_,_=>rfl
 |c::g,d::V,h,h2=>by
  simp only[dZ,sr,kU]at h2;rw[dZ,dZ,ih h.1 h2.1,EU ih h.2 h2.2]
theorem JS{S:Nat->Prop}{H:Hp}:∀(n m k:Nat) {v u:AV},n<=m->dc S n H v u->oQ m (cp k v)=false->cp k u=cp k v
 |0,_,_,_,_,_,h,_=>h.elim
 |n+1,0,_,_,_,h,_,_=>by omega
 |n+1,m+1,k,v,u,hm,h,h2=>by
  cases v with
  |sl r o l z=>cases k<;>simp[cp,oQ]at h2
  |agg g=>
   obtain⟨V,i,rfl⟩:=h;cases k with
   |zero=>
    have e:∀v,cp 0 v=v:=fun v=>by cases v<;>rfl
    have Z:(g.map (cp 0)).any (oQ m)=false:=by
     rw[show g.map (cp 0)=g by rw[show cp 0=id from funext e,List.map_id]];simpa [cp,oQ]using h2
    have:=EU (k:=0) (fun U M=>JS n m 0 ac U M) i Z;rw[show cp 0=id from funext e,List.map_id,List.map_id]at this;rw[this]
   |succ k=>
    have Z:(g.map (cp k)).any (oQ m)=false:=by simpa [cp,oQ]using h2
    show AV.agg (V.map (cp k))=AV.agg (g.map (cp k));rw[EU (fun U M=>JS n m k ac U M) i Z]
  |_=>obtain⟨_,rfl⟩:=h;rfl
def Bu{z:FuncId}{I:Type}{ok:I->Prop}{enc:I->qt}{out:I->AV}(Z:∀x y,enc x=enc y->x=y)(J:∀i,cM l z i=bQ ok enc out (i.map (cp 60)))(V:jt l z=true)(C:∀y,(enc y).any (oQ 90)=false){x:I}(Y:ok x){n:Nat}(L:n<=90){O us:qt}(h1:cE (dc S n H) O us)(h2:us.map (cp 60)=enc x):
 aM prog (ay pls l) z O H fun v H'=>v=out x/\Icy S H H':=by
 by_cases hd:∃y,ok y/\enc y=O.map (cp 60)
 .obtain⟨y,_,e⟩:=hd;have g:us.map (cp 60)=O.map (cp 60):=EU (m:=90) (fun U M=>JS n 90 60 L U M) h1 (by rw[<-e];exact C y);refine aY ?_ (Jg (r:=out x) (by show cM l z O=_;rw[J,<-g,h2];exact Ee Z Y));rintro v H' ⟨rfl,rfl⟩;exact⟨rfl,Icy.refl _ _⟩
 .obtain⟨H',U,M⟩:=dc.iceL (n:=100) (l:=O) (m:=us) (cE.mono (fun a b k=>dc.up k ac) h1);refine Nb (r:=out x) ?_ V rfl U ?_ ⟨rfl,M⟩
  .show cM l z O=none;rw[J];exact Jf fun y j e=>hd ⟨y,j,e⟩
  .show cM l z us=_;rw[J,h2];exact Ee Z Y
def Bv{P:Program}{f N:Nat}{a:SC}{E:ax}{Q:AX->ax->Hp->Prop}(F:ax->Hp->Prop)(h1:cb P cfg f N a E H fun x E' H'=>x=.normal/\F E' H')(h2:∀E' H',F E' H'->Q .normal E' H'):cb P cfg f N a E H Q:=
 cb.mono (fun x E' H' h=>by obtain⟨rfl,h⟩:=h;exact h2 E' H' h) h1
def tyI3.tyF:=ad @cA (ad @eZ (ad @fX (ad @jB (ad @ec (ad @zb (@th))))))
open tyI3
noncomputable def Pp:{c:SC // aC 80 (f127.body.getD .skip)=c}:=by
 refine⟨?_,?_⟩;rotate_left
 .simp only[f127,bz,aC,bw,bt,bA,bB,Nat.blt,Nat.ble];rfl
noncomputable def Pq:{c:SC // aC 22 (f74.body.getD .skip)=c}:=by
 refine⟨?_,?_⟩;rotate_left
 .simp only[f74,bz,aC,bw,bt,bA,bB,Nat.blt,Nat.ble];rfl
theorem JT(S:Nat->Prop)(n:Nat)(H:Hp):∀s:qu,cE (dc S (n+1) H) (s.map (.int .i64)) (s.map (.int .i64))
 |[]=>trivial
 |a::s=>⟨pD ⟨.int _ _,trivial⟩,JT S n H s⟩
theorem EV(n:Nat)(s:qu):cp (n+2) (dJ s)=dJ s:=by
 show AV.aE ((s.map fun n=>[AV.int .i64 n]).map fun L=>L.map (cp (n+1)))=_;rw[vm];rfl
def eL.ic(h:eL H v s lo):∃u,dc (fun k=>lo<=k) 3 H v u/\cp 60 u=dJ s:=by
 rcases h with⟨rfl,rfl⟩|⟨r,V,rfl,g,m,U,M⟩
 .exact⟨.ak,pD ⟨.ak,trivial⟩,rfl⟩
 .refine⟨.aE (fP 1 s.length (s.map (.int .i64))),⟨U,M,s.map (.int .i64),V,true,s.map (.int .i64),g,Dc,au,?_,rfl⟩,?_⟩
  .rw[eS,lE,fI au];exact JT _ _ _ _
  .rw[EA];exact EV 58 s
def ir.ch(h:ir H v s lo)(k:Icy S H H'):ir H' v s lo:=by
 obtain⟨r,V,rfl,g,m,U,M⟩:=h;rcases k.same r with e|⟨J,i,j,Z,Y,O,L⟩
 .exact⟨r,V,rfl,by rw[<-e];exact g,m,U,by rw[k.next];exact M⟩
 .rw[g]at Y;simp only[aI,HB.cells.injEq]at Y;obtain⟨rfl,rfl,rfl⟩:=Y;exact⟨r,j,rfl,O,by have:=L Dc;simpa using this,U,by rw[k.next];exact M⟩
def eL.ch(h:eL H v s lo)(k:Icy S H H'):eL H' v s lo:=h.imp id fun h=>h.ch k
noncomputable def JU:En:=⟨167,true,bQ (fun x=>x.2.length<2^30) vN fun x=>.bool (bR x.1.op x.2)⟩
def zdA:co prog ρ JU:=cz fun x z=>zdv ρ x z
noncomputable def xJ:qB:=[pE JU,Pf]
def zdB:eU prog ρ xJ:=⟨y4 (zdA ρ),zdn ρ,trivial⟩
theorem Ps(n:Nat)(x:Nd):cp (n+4) (.agg x.cells)=.agg x.cells:=by
 show AV.agg (x.cells.map (cp (n+3)))=_;rw[Nd.cells];simp only[lL,EV];rfl
theorem zdC(y:Nd×qu):(vN y).any (oQ 90)=false:=by
 obtain⟨⟨Z,V,Y⟩,s⟩:=y;rfl
theorem zdD(J:∀i,cM l 167 i=(pE JU).sp i)(C:jt l 167=true)(V:eL H v s lo)(M:s.length<2^30)(n:Nd):
 aM prog (ay pls l) 167 [.agg n.cells,v] H fun w H'=>w=.bool (bR n.op s)/\Icy (fun k=>lo<=k) H H':=by
 obtain⟨u,Z,g⟩:=V.ic;obtain⟨I,m⟩:∃us,cE (dc (fun k=>lo<=k) 2 H) n.cells us/\us=n.cells:=by
  refine⟨n.cells,?_,rfl⟩;rw[Nd.cells];exact⟨pD ⟨.int _ _,trivial⟩,pD ⟨.int _ _,trivial⟩,pD ⟨uu _,trivial⟩,trivial⟩
 obtain⟨m,rfl⟩:=m;refine Bu (x:=((n,s):Nd×qu)) (enc:=vN) (ok:=fun x=>x.2.length<2^30) (out:=fun x=>.bool (bR x.1.op x.2)) (us:=[.agg n.cells,u]) (n:=3) zdp (fun i=>by rw[J];rfl) C zdC M ac ⟨⟨n.cells,m,rfl⟩,Z,trivial⟩ ?_;show [cp 60 (.agg n.cells),cp 60 u]=_;rw[g,Ps 56];rfl
def Pt{kn kids:qu}(Z:j<kids.length):fw i kn (kids.drop j)=if kids[j]<0\/(i:Int)<=kids[j]\/kn.getD kids[j].toNat 0=0 then none else (fw i kn (kids.drop (j+1))).map fun s=>kn.getD kids[j].toNat 0::s:=by
 rw[ft Z,fw]
def uE(i:Nat)(kn kids:qu)(j:Nat)(s:qu):Prop:=s.length=j/\fw i kn kids=(fw i kn (kids.drop j)).map fun t=>s++t
theorem uE.dH{kn kids:qu}(h:uE i kn kids j s)(hg:kids[j]?=some Z)(hb:Z<0\/(i:Int)<=Z\/kn.getD Z.toNat 0=0):fw i kn kids=none:=by
 obtain⟨Y,e⟩:=fH.1 hg;rw[h.2,Pt Y,e,ah hb];rfl
theorem uE.next{kn kids:qu}(h:uE i kn kids j s)(hg:kids[j]?=some Z)(hb:¬(Z<0\/(i:Int)<=Z\/kn.getD Z.toNat 0=0)):uE i kn kids (j+1) (s++[kn.getD Z.toNat 0]):=by
 obtain⟨Y,e⟩:=fH.1 hg;refine⟨by simp[h.1],?_⟩;rw[h.2,Pt Y,e,af hb];cases fw i kn (kids.drop (j+1))with
 |none=>rfl
 |some t=>simp
def uE.done{kn kids:qu}(h:uE i kn kids kids.length s):fw i kn kids=some s:=by
 rw[h.2,gH];simp[fw]
def EW{l:qy}{kn:qu}(I:l[i]?=some n)(h:fw i kn n.aj=none):iE l i kn=0:=by
 rw[iE,I];simp only[h]
def zdE{l:qy}{kn:qu}(I:l[i]?=some n)(h:fw i kn n.aj=some s):iE l i kn=if bR n.op s&&cq l n then dQ n s else 0:=by
 rw[iE,I];simp only[h]
theorem zdF{op:Int}(h:bR op s=true)(Y:op=25):s.length=1:=by
 subst Y;by_cases c:s.length=1
 .exact c
 .rw[JR aE (by have e:(bC 25).1=1:=rfl;rw[e];omega)]at h;cases h
theorem zdG{op:Int}(h:bR op s=true)(U:op=22):s.length=3:=by
 subst U;by_cases c:s.length=3
 .exact c
 .rw[JR aE (by have e:(bC 22).1=3:=rfl;rw[e];omega)]at h;cases h
def zdH{l:qy}{kn:qu}{n:Nd}(C:i<l.length)(I:∀n∈l,n.aj.length<2^30)(j:fw i kn n.aj=some s)(V:bR n.op s=true):Br (l,n):=by
 intro Y;have Z:=zdF V Y;rw[uB j]at Z;obtain⟨k,U⟩:=rL Z;simp only[]at U⊢;obtain⟨M,L,_⟩:=tw j k (by rw[U];exact Pa _);obtain⟨m,rfl⟩:=gO M;have O:m<l.length:=ac;exact⟨m,l[m],by rw[U];rfl,aL O,by have:=I _ (cB O);omega⟩
set_option maxRecDepth 100000 in
theorem zdI{l:qy}{kn:qu}{r:Nat}(hl:l.length<2^30)(hi:i<l.length)(hkl:∀n∈l,n.aj.length<2^30)(hkn:l.length<=kn.length)(hg:H.get r=some (.cells (kn.map (.int .i64)) 0 true))(hr:r<H.next):
 aM prog (ay pls xJ) 127 [dR l,.int .i64 i,.sl r 0 kn.length 1] H fun v H'=>v=.int .i64 (iE l i kn)/\H.next<=H'.next/\∀k,k<H.next->H'.get k=H.get k:=by
 have hw:zd0 (ay pls xJ) 127:=db (fun _=>rfl) rfl;have hkeep:(ay pls xJ).keep 127=false:=rfl;have Z:l[i]?=some l[i]:=aL hi;have hnk:=hkl _ (cB hi);generalize l[i]=n at *;refine a0 (M:=80) (rs:=[.tmp 6]) (hw.call _) hw.aG hw.az func127 rfl rfl Pp.2 rfl ?_;dsimp only[Pp,aW,Nat.reduceAdd];refine eP ?_;refine bY [0,1,2,7,16,17] [] 18 n.aj.length (fun j E O=>∃v s,E.at 8=v/\eL O v s (H.next+1)/\uE i kn n.aj j s/\O.get H.next=some (.cells n.cells 0 true)/\∀k,k<H.next->O.get k=H.get k) eE ⟨.ak,[],eE,.inl ⟨rfl,rfl⟩,⟨rfl,au⟩,gC,fun k C=>sD⟩ ?_;rintro j E O hj hcE hrH hnH hsI ⟨v,s,k8,hv,L,hn7,V⟩;(try simp only[bq,aT,aN,aG,aR,Nat.reduceBEq, *]at hcE);(try simp only[aT,aR, *]at hrH);(try simp only[aZ,br,]at hnH);repeat' (first
  |(apply aj ?_;clear hK K)|apply aO ?_|(apply bp ?_ ?_<;>(intro hb hbp;try(cases hb;done)))|(apply ak fun K hK=>?_)|fail)
 .have hlt:j<n.aj.length:=by simpa using hb
  have J:n.aj[j]?=some n.aj[j]:=aL hlt;generalize n.aj[j]=kd at *;have g2r:O.get r=some (.cells (kn.map (.int .i64)) 0 true):=by rw[V r hr];exact hg
  by_cases c1:kd<0
  .repeat' (first
    |(apply aj ?_;clear hK K)|apply aQ ?_|(apply bT ?_ ?_<;>(intro hg hgp;try(cases hg;done)))|(apply aV ?_ ?_<;>(intro hb hbp;try(cases hb;done)))|(apply ak fun K hK=>?_)|fail)
   all_goals refine qq ?_
   refine⟨?_,ac,V⟩;rw[EW Z (L.dH J (.inl c1))]
  by_cases c2:(i:Int)<=kd
  .have c1':¬kd<0:=c1;repeat' (first
    |(apply aj ?_;clear hK K)|apply aQ ?_|(apply bT ?_ ?_<;>(intro hg hgp;try(cases hg;done)))|(apply aV ?_ ?_<;>(intro hb hbp;try(cases hb;done)))|(apply ak fun K hK=>?_)|fail)
   all_goals refine qq ?_
   refine⟨?_,ac,V⟩;rw[EW Z (L.dH J (.inr (.inl c2)))]
  obtain⟨m,rfl⟩:=gO (EP.1 c1);have hml:m<kn.length:=ac;have hgk:kn[m]?=some kn[m]:=aL hml;have hgd:kn.getD (m:Int).toNat 0=kn[m]:=by rw[fK,cQ,hgk];rfl
  have hia:ej prog 26 (.sl r 0 kn.length 1) (.int .i64 (m:Int))=some (.ptr r m):=by rw[pp underlying26 jg hml];simp
  have hld:gL prog O 3 (.ptr r m)=some (.int .i64 kn[m]):=by rw[vr underlying3 rfl g2r,eu,hgk];rfl
  generalize kn[m]=x at *;repeat' (first
   |(apply aj ?_;clear hK K)|apply aQ ?_|(apply bT ?_ ?_<;>(intro hg hgp;try(cases hg;done)))|(apply aV ?_ ?_<;>(intro hb hbp;try(cases hb;done)))|(apply ak fun K hK=>?_)|fail)
  .all_goals refine qq ?_
   refine⟨?_,ac,V⟩;rw[EW Z (L.dH J (.inr (.inr (by rw[hgd];assumption))))]
  .have hvb:eL (O.alloc (.cells [.int .i64 x] 0 true)) v s (H.next+1):=hv.keep (dA _) fun k C=>by rw[aD,af (by have:=(hv.lt C).2;omega)]
   obtain⟨v5,H5,a5,s5,n5,f5,o5⟩:=xC (r:=O.next) (imm:=0) x hvb dG fG (by have:=L.1;omega);have hJn:=L.next J (by rw[hgd];rintro(h|h|h)<;>contradiction)
   rw[hgd]at hJn;have n5':O.next<=H5.next:=vL
   clear n5;have g:∀k,k<H.next+1->H5.get k=O.get k:=fun k C=>by rw[f5 k C,aD,af ac]
   refine jP cV cV (by rw[hkeep];exact a5) ?_;refine eP ?_;clear f5 o5 a5;refine⟨ac,aK,aK,bG,xG,?_⟩;refine⟨v5,s++[x],eE,.inr s5,hJn,by rw[g _ ac];exact hn7,fun k C=>by rw[g k ac,V k C]⟩
 .have hje:j=n.aj.length:=by simp at hb;omega
  rw[hje]at L;have z:=zdE Z L.done;have hsl2:s.length<2^30:=by rw[L.1];exact hnk
  refine eP ?_;refine qd ?_;refine aY ?_ (zdD (fun _=>rfl) rfl hv hsl2 n);rintro w H4 ⟨rfl,hy⟩;have n4:=hy.next
  have n4':H.next+1<=H4.next:=ac
  have Y:=hv.ch hy;have g4:H4.get H.next=some (.cells n.cells 0 true):=by rw[hy.out _ ac];exact hn7
  have o4:∀k,k<H.next->H4.get k=H.get k:=fun k C=>by rw[hy.out _ ac,V k C]
  clear hy n4 hv V hn7;dsimp only[aU];cases I:bR n.op s with
  |false=>
   repeat' (first
    |(apply aj ?_;clear hK K)|apply aO ?_|(apply cD ?_ ?_<;>(intro hg hgp;try(cases hg;done)))|(apply bp ?_ ?_<;>(intro hb hbp;try(cases hb;done)))|(apply ak fun K hK=>?_)|fail)
   all_goals refine qq ?_
   refine⟨?_,ac,o4⟩;rw[z,I];rfl
  |true=>
  have U:=zdH hi hkl L.done I;rw[I,el]at z;have kim:∀H,aM prog (ay pls xJ) 168 [dR l,.agg n.cells] H fun v H'=>v=.bool (cq l n)/\H'=H:=fun H=>bZ (enc:=xH) (ok:=Br) (out:=fun x=>.bool (cq x.1 x.2)) zdl (x:=(l,n)) rfl U;have hq:(16:Int)≠0:=aE;repeat' (first
   |(apply aj ?_;clear hK K)|apply aO ?_|(apply ez ?_;first|refine Rx.k (kim _) ?_)|(apply cD ?_ ?_<;>(intro hg hgp;try(cases hg;done)))|(apply bp ?_ ?_<;>(intro hb hbp;try(cases hb;done)))|(apply ak fun K hK=>?_)|fail)
  all_goals (first|(refine⟨aq,_,aF,?_⟩;(try simp only[am]);refine⟨?_,ac,o4⟩;rw[z];unfold dQ;clear U kim o4 Y z Z;simp_all;done)|skip)
  all_goals trace_state
  refine eP ?_;have h22:n.op=22:=iZ;have hl3:=zdG I h22;rcases Y with⟨_,hnil⟩|Y
  .rw[hnil]at hl3;simp at hl3
  obtain⟨q,hix,hlo⟩:=Y.at (i:=1) ac;have hix':ej prog 26 v (.int .i64 1)=some (.ptr q 1):=hix;refine eP ?_;all_goals refine qq ?_
  refine⟨?_,ac,o4⟩;have hgl:s.getD 1 0=s[1]' ac:=by rw[cQ,aL ac];rfl
  rw[z];unfold dQ;clear U kim o4 Y z Z;simp_all
theorem Pu{i:Nat}{a b:qu}(Z:a.length=i):∀z:qu,fw i (a++b) z=fw i a z
 |[]=>rfl
 |k::z=>by
  rw[fw,fw,Pu Z z];by_cases h:k<0\/(i:Int)<=k
  .rw[ah ac,ah ac]
  .have e:(a++b).getD k.toNat 0=a.getD k.toNat 0:=by rw[cQ,cQ,je ac]
   rw[e]
theorem zdJ(l:qy)(b:qu):iE l i (cm l i++b)=iE l i (cm l i):=by
 unfold iE;cases l[i]? with
 |none=>rfl
 |some n=>simp only[Pu (sw l i)]
def gZ(l:qy):Prop:=l.length<2^30/\∀n∈l,n.aj.length<2^30
def og(l:qy):qt:=[dR l]
def zi(x y:qy)(h:og x=og y):x=y:=by
 simp only[og,dN,aN]at h;exact Bq h
def zdK(l:qy)(hl:gZ l):bF prog ρ 74 [dR l] (dJ (cm l l.length)):=ur (m:=3) (cfg:=ay pls xJ) fit (nU ρ) (eU.bR (zdB ρ)) (.cons (rN _) .nil) (by
 obtain⟨L,g⟩:=hl;have J:zd0 (ay pls xJ) 74:=db (fun _=>rfl) rfl;have hmk:∀H:Hp,j9 prog H 26 (.int .i64 l.length) (.int .i64 l.length)=some (.sl H.next 0 l.length 1,H.alloc (.cells ((List.replicate l.length (0:Int)).map (.int .i64)) 0 true)):=fun H=>zcL _ _ (aH _) ac;refine a0 (M:=22) (rs:=[.tmp 2]) (J.call _) J.aG J.az func74 rfl rfl Pq.2 rfl ?_;dsimp only[Pq,aW,Nat.reduceAdd];refine eh ?_;refine bY [0,2,3,9] [] 10 l.length (fun i E H=>H.get 0=some (.cells ((cm l i++List.replicate (l.length-i) 0).map (.int .i64)) 0 true)) eE (by rw[aD,ah eN];simp[cm]) ?_;rintro i E H2 hi U O z hsI Y;(try simp only[bq,aT,aN,aG,aR,Nat.reduceBEq, *]at U);(try simp only[aT,aR, *]at O);(try simp only[aZ,bX,bK]at z);repeat' (first
  |(apply aj ?_;clear hK K)|apply aO ?_|(apply bp ?_ ?_<;>(intro hb hbp;try(cases hb;done)))|(apply ak fun K hK=>?_)|fail)
 .have j:i<l.length:=by simpa using hb
  refine qd ?_;have I:(cm l i++List.replicate (l.length-i) (0:Int)).length=l.length:=by rw[fB,sw,rJ];omega
  have C:=zdI (l:=l) (i:=i) (kn:=cm l i++List.replicate (l.length-i) 0) (r:=0) (H:=H2) L j g ac Y ac;rw[I]at C;refine aY ?_ C;rintro w H3 ⟨rfl,hn3,V⟩;have g3:H3.get 0=_:=(V 0 ac).trans Y;have n3:1<=H3.next:=ac
  rw[zdJ];dsimp only[aU];generalize hx:iE l i (cm l i)=x;have hsi:cm l (i+1)=cm l i++[x]:=by rw[cm,hx]
  refine Hn ?_;refine rA cV cV (y5 g3 (by rw[cN,I];exact j) x) ?_;refine eh ?_;refine⟨ac,aK,aK,bG,mF,?_⟩;rw[aA,ah rfl,hsi,<-tt];have Z:List.replicate (l.length-i) (0:Int)=0::List.replicate (l.length-(i+1)) 0:=O5;rw[Z,List.set_append,af vF,sw,nP,Jn,lU];rfl
 .have hie:i=l.length:=by simp at hb;omega
  rw[hie,nP]at Y;refine eh ?_;all_goals refine qq ?_
  have hb:ir H2 (.sl 0 0 (cm l l.length).length 1) (cm l l.length) 0:=⟨0,0,rfl,by rw[Y];simp,de _,de _,ac⟩;have:=hb.iceV 1;rw[sw]at this;exact this)
noncomputable def JV:En:=⟨74,true,bQ gZ og fun l=>dJ (cm l l.length)⟩
def zdL:co prog ρ JV:=cz fun l J=>zdK ρ l J
def zdM{tb:qB}(J:∀i,cM tb 74 i=JV.sp i)(l:qy)(Z:gZ l)(H:Hp):aM prog (ay pls tb) 74 [dR l] H fun v H'=>v=dJ (cm l l.length)/\H'=H:=
 bZ (enc:=og) (ok:=gZ) (out:=fun l=>dJ (cm l l.length)) zi (x:=l) (J _) Z
def gZ.take{l:qy}(h:gZ l)(k:Nat):gZ (l.take k):=⟨by rw[mP];have:=h.1;omega,fun n I=>h.2 n (List.mem_of_mem_take I)⟩
theorem zdN(l:qy)(k:Nat)(j:k<=l.length):gU prog 42 (.aE (l.map Nd.cells)) none (some (.int .i64 (k:Int)))=some (.aE ((l.take k).map Nd.cells)):=by
 have Y:(k:Int)=Int.ofNat k:=rfl;simp only[gU,underlying42,uq,ig];rw[ah ⟨de _,by rw[cN];exact j⟩];have m:((l.map Nd.cells).drop 0).take (k-0)=(l.take k).map Nd.cells:=by rw[eS,Az,Dh]
 rw[m];cases l.take k with
 |nil=>rfl
 |cons a l=>simp only[dZ,Nd.bh,dh]
def sF(x:qy×Int):qt:=[dR x.1,.int .i64 x.2]
def Pv(x y:qy×Int)(h:sF x=sF y):x=y:=by
 simp only[sF,dN,AV.int.injEq,aN,jy]at h;exact n1 (Bq h.1) h.2
end
end Go.Proofs.YtbflaciihaijgaaGreat
namespace Go.Ab
set_option maxRecDepth 20000
open Go
variable{j:Nat}
def xK(a b:Nat):Nat:=a^^^ (a &&& b)
def tA(n:Nd)(h:qD)(j:Nat)(k:Int):Nat:=if n.op=31/\ee n.aj.length<=j then xK (h.getD k.toNat 0) (2^ n.aF.toNat)else h.getD k.toNat 0
def oR(n:Nd)(h:qD):Nat->qu->Nat->Nat
 |_,[],m=>m
 |j,k::ks,m=>oR n h (j+1) ks (m |||tA n h j k)
def rR(n:Nd)(h:qD):Nat:=oR n h 0 n.aj (if n.op=3 then 2^ (n.aF.tdiv 16).toNat else 0)
def fO(l:qy):Nat->qD
 |0=>[]
 |i+1=>fO l i++[match l[i]? with|some n=>rR n (fO l i)|none=>0]
def xL(n:Nd)(h:qK)(j:Nat):Bool:=
 (n.aj.zipIdx.any fun p=>(h.getD p.1.toNat []).getD j false&&(!decide (n.op=31) || !decide ((j:Int)=n.aF)||decide ((p.2:Int)<(n.aj.length:Int).tdiv 2)))||(decide (n.op=3)&&decide ((j:Int)=n.aF.tdiv 16))
def iF(l:qy):Nat->qK
 |0=>[]
 |i+1=>iF l i++[(List.range 16).map fun j=>match l[i]? with|some n=>xL n (iF l i) j|none=>false]
theorem vP(l:qy):∀i,(fO l i).length=i
 |0=>rfl
 |i+1=>by rw[fO,fB,vP l i];rfl
theorem vQ(l:qy):∀i,(iF l i).length=i
 |0=>rfl
 |i+1=>by rw[iF,fB,vQ l i];rfl
theorem Bw(a b j:Nat):(xK a b).testBit j=(a.testBit j && !b.testBit j):=by
 unfold xK;rw[Nat.testBit_xor,Nat.testBit_and];cases a.testBit j<;>cases b.testBit j<;>rfl
theorem EX(n:Nd)(h:qD)(t:Nat):∀(z:qu) (j m:Nat),(oR n h j z m).testBit t=(m.testBit t||(z.zipIdx j).any fun p=>(tA n h p.2 p.1).testBit t)
 |[],j,m=>by simp[oR]
 |k::z,j,m=>by
  rw[oR,EX n h t z,Nat.testBit_or,List.zipIdx_cons,sr,Jl]
structure zli (n:Nd) (i:Nat):Prop where
 aj:∀k∈n.aj,0<=k/\k<i
 lv:n.op=3->0<=n.aF/\n.aF<=255
 lp:n.op=31->0<=n.aF/\n.aF<=15/\n.aj.length%2=1/\3<=n.aj.length
def Bx(a t:Nat):(2^ a).testBit t=decide (a=t):=Nat.testBit_two_pow
def EY{I:Type}{a:List I}{x d:I}(h:j<a.length):(a++[x]).getD j d=a.getD j d:=by
 rw[cQ,je h,<-cQ]
theorem EZ{I:Type}{a:List I}{x d:I}(h:j=a.length):(a++[x]).getD j d=x:=by
 subst h;rw[cQ,lT (aH _),nP];rfl
theorem E6{l:qy}:∀(i:Nat),i<=l.length->(∀j n,j<i->l[j]?=some n->zli n j)->∀j,j<i->∀t,((fO l i).getD j 0).testBit t=(decide (t<16)&&((iF l i).getD j []).getD t false)
 |0,_,_,j,h,_=>by omega
 |i+1,hi,hok,j,hj,t=>by
  have ih:=E6 i ac (fun j n h1 g=>hok j n ac g);rw[fO,iF];by_cases e:j<i
  .rw[EY (by rw[vP];exact e),EY (by rw[vQ];exact e)];exact ih j e t
  .obtain rfl:j=i:=by omega
   rw[EZ (vP l j).symm,EZ (vQ l j).symm];obtain⟨n,I⟩:∃n,l[j]?=some n:=⟨l[j],aL ac⟩;have ok:=hok j n (cC _) I;rw[I];simp only;by_cases c:t<16
   .rw[dx c,el,cQ,eu,ue c];simp only[rq,bz];unfold rR xL;rw[EX];have Z:(if n.op=3 then 2^ (n.aF.tdiv 16).toNat else 0).testBit t=(decide (n.op=3)&&decide ((t:Int)=n.aF.tdiv 16)):=by
     by_cases m:n.op=3
     .have:=ok.lv m;rw[ah m,Bx,dx m,el,pB];have M:0<=n.aF.tdiv 16:=JM this.1 ac;omega
     .rw[af m,eA m];simp
    rw[Z,Bool.or_comm]
    congr 1
    rw[As,EQ,EQ];have Y:∀p∈n.aj.zipIdx,(tA n (fO l j) p.2 p.1).testBit t=(((iF l j).getD p.1.toNat []).getD t false&&(!decide (n.op=31) || !decide ((t:Int)=n.aF)||decide ((p.2:Int)<(n.aj.length:Int).tdiv 2))):=fun p hp=>by
     have O:p.1∈n.aj:=Pb hp;have C:=ok.aj _ O;have hb:=ih p.1.toNat ac t;rw[dx c,el]at hb;unfold tA;by_cases L:n.op=31
     .obtain⟨i0,U,ho,h3⟩:=ok.lp L;have e2:ee n.aj.length=((n.aj.length/2:Nat):Int):=Be;have z:(n.aj.length:Int).tdiv 2=((n.aj.length/2:Nat):Int):=rfl;rw[z,dx L];by_cases V:ee n.aj.length<=p.2
      .rw[ah ⟨L,V⟩,Bw,hb,Bx];have J:decide ((p.2:Int)<((n.aj.length/2:Nat):Int))=false:=eA ac;have e5:decide (n.aF.toNat=t)=decide ((t:Int)=n.aF):=by rw[pB];omega
       rw[J,e5];simp
      .rw[af (fun h=>V h.2),hb];have J:decide ((p.2:Int)<((n.aj.length/2:Nat):Int))=true:=dx ac;rw[J];simp
     .rw[af (fun h=>L h.1),hb,eA L];simp
    constructor
    .rintro⟨p,hp,h⟩;exact⟨p,hp,by rw[<-Y p hp];exact h⟩
    .rintro⟨p,hp,h⟩;exact⟨p,hp,by rw[Y p hp];exact h⟩
   .rw[eA c,em];unfold rR;rw[EX];have Z:(if n.op=3 then 2^ (n.aF.tdiv 16).toNat else 0).testBit t=false:=by
     by_cases m:n.op=3
     .have:=ok.lv m;rw[ah m,Bx];refine eA ?_;have M:n.aF.tdiv 16<16:=by rw[l9 this.1];omega
      omega
     .rw[af m];simp
    rw[Z,il,uk];intro p hp;have O:p.1∈n.aj:=Pb hp;have C:=ok.aj _ O;have hb:=ih p.1.toNat ac t;rw[eA c,em]at hb;unfold tA;split
    .rw[Bw,hb];simp
    .rw[hb];simp
def mask_zero{l:qy}{i j:Nat}(C:i<=l.length)(g:∀j n,j<i->l[j]?=some n->zli n j)(Z:j<i):decide ((fO l i).getD j 0=0)=((List.range 16).all fun t=>!((iF l i).getD j []).getD t false):=by
 have h:=E6 i C g j Z;rw[As,decide_eq_true_iff,gM];constructor
 .intro e t J;have:=h t;rw[e,Bp,dx (lF.1 J),el]at this;rw[<-this];rfl
 .intro e;apply ER;intro t;rw[h t,Bp];by_cases c:t<16
  .have:=e t (lF.2 c);simp only[lH]at this;rw[this,pC]
  .rw[eA c,em]
end Go.Ab
namespace Go.Proofs.YtbflaciihaijgaaGreat
set_option maxRecDepth 20000
open Go Go.Ab Proofs.Tryz
variable(ρ:Nat->Int)
variable{r m a b:Nat}{H:Hp}{t:qu}{h:qD}{l:qy}
section
def tyV2.tyF:=ad @ec (ad @cA (ad @dw (ad @gQ (ad @eZ (ad @rB (ad @rC (ad @fX (ad @tk (ad @jB (ad @lJ (ad @zbY (ad @oH (@th)))))))))))))
open tyV2
noncomputable def Pw:{c:SC // aC 59 (f77.body.getD .skip)=c}:=by
 refine⟨?_,?_⟩;rotate_left
 .simp only[f77,bz,aC,bw,bt,bA,bB,Nat.blt,Nat.ble];rfl
noncomputable def zj:{c:SC // aC 47 (f75.body.getD .skip)=c}:=by
 refine⟨?_,?_⟩;rotate_left
 .simp only[f75,bz,aC,bw,bt,bA,bB,Nat.blt,Nat.ble];rfl
def jh:qy->qu->Option qu
 |[],t=>some t
 |n::l,t=>if n.op=31 then (if 0<t.getD n.aF.toNat 0 then none else jh l (t.set n.aF.toNat (ee n.aj.length)))else jh l t
def oS(t:qu)(n:Nd):Bool:=decide (n.op=3)&&decide (0<t.getD (n.aF.tdiv 16).toNat 0)&&decide (t.getD (n.aF.tdiv 16).toNat 0<=n.aF.tmod 16)
def jW(l:qy):Bool:=match jh l (List.replicate 16 0)with
 |none=>false
 |some t=>l.all fun n=>!oS t n
def By(n:Nd):Prop:=(n.op=31->0<=n.aF/\n.aF<=15)/\(n.op=3->0<=n.aF/\n.aF<=255)
def zdO(H:Hp):cS prog 204=some ((List.replicate 16 (0:Int)).map (.int .i64)):=aB
theorem Px(O:m<16):ej prog 204 (.ptr r 0) (.int .i64 (m:Int))=some (.ptr r m):=by
 have e:ej prog 204 (.ptr r 0) (.int .i64 (Int.ofNat m))=if m<16 then some (.ptr r (0+m*1))else none:=rfl
 rw[show((m:Nat):Int)=Int.ofNat m from rfl,e,ah O];simp
theorem Py{imm:Nat}(hg:H.get r=some (.cells (t.map (.int .i64)) imm true))(O:m<t.length):gL prog H 3 (.ptr r m)=some (.int .i64 (t.getD m 0)):=by
 rw[vr underlying3 rfl hg,eu,cQ,aL O];rfl
def zdP(hg:H.get r=some (.cells (t.map (.int .i64)) 0 true))(O:m<t.length)(n:Int):mr prog H 3 (.ptr r m) (.int .i64 n)=some (H.set r (.cells ((t.set m n).map (.int .i64)) 0 true)):=by
 rw[y5 hg (by rw[cN];exact O),tt]
set_option maxRecDepth 100000 in
theorem zdQ(l:qy)(hl:gZ l)(hn:∀n∈l,By n):bF prog ρ 77 [dR l] (.bool (jW l)):=dE fit (pls:=pls) (l:=[tx]) ⟨EK ρ,trivial⟩ (.cons (rN _) .nil) (.bool _) (by
 obtain⟨hl1,hl2⟩:=hl;have hw:zd0 (ay pls [tx]) 77:=db (fun _=>rfl) rfl;have q16:(16:Int)≠0:=aE;refine a0 (M:=59) (rs:=[.tmp 2]) (hw.call _) hw.aG hw.az func77 rfl rfl Pw.2 rfl ?_;dsimp only[Pw,aW,Nat.reduceAdd];have gh0:=@zdO;refine eP ?_;refine bY [0,3,8,9] [] 10 l.length (fun i E H=>∃t:qu,t.length=16/\H.get 0=some (.cells (t.map (.int .i64)) 0 true)/\jh l (List.replicate 16 0)=jh (l.drop i) t) eE ⟨List.replicate 16 0,au,sC,au⟩ ?_;rintro i E J hi I C z hsI ⟨t,ht,hg,V⟩;(try simp only[bq,aT,aN,aG,aR,Nat.reduceBEq, *]at I);(try simp only[aT,aR, *]at C);(try simp only[aZ,bX,bK]at z);have hB0:(0 == J.next)=false:=aX ac;have hC0:(J.next == 0)=false:=aX ac;have hn2:1<=J.next:=z
 by_cases O:i<l.length
 .have hlt':(i:Int)<l.length:=by omega
  have hgx:l[i]?=some l[i]:=aL O;have g:=hn _ (cB O);have hnk:=hl2 _ (cB O);have Z:jh (l.drop i) t=if l[i].op=31 then (if 0<t.getD l[i].aF.toNat 0 then none else jh (l.drop (i+1)) (t.set l[i].aF.toNat (ee l[i].aj.length)))else jh (l.drop (i+1)) t:=by rw[ft O,jh]
  generalize l[i]=n at *;have e0:(0 == J.next)=false:=aX ac;by_cases h31:n.op=31
  .obtain⟨m0,ct⟩:=g.1 h31;obtain⟨m,hm⟩:=gO m0;have Y:m<16:=ac;rw[ah h31,hm,fK]at Z;have hix:=Px (r:=0) Y;have hgA:∀b,(J.alloc b).get 0=some (.cells (t.map (.int .i64)) 0 true):=fun b=>JJ;have U:∀b c,((J.alloc b).set J.next c).get 0=some (.cells (t.map (.int .i64)) 0 true):=fun b c=>by rw[aA,af ac];exact hgA b
   have hld:=fun b c=>Py (U b c) (m:=m) ac;generalize t.getD m 0=x at *;repeat' (first
    |(apply aj ?_;clear hK K)|apply aQ ?_|(apply ch ?_;first|refine Rx.k (zd (fun _=>rfl) _ ac _) ?_)|(apply aV ?_ ?_<;>(intro hb hbp;try(cases hb;done)))|(apply ak fun K hK=>?_)|(apply da 8 [(1,5),(1,7),(3,5),(4,5)] fun K hK=>?_)|(apply ce ?_;try intro _)|fail)
   .all_goals refine qq ?_
    rw[ah iZ]at Z;rw[jW,V,Z]
   .refine rA cV cV (zdP (U _ _) ac _) ?_;repeat' (first
     |(apply aj ?_;clear hK K)|apply Rx.o ?_|(apply ak fun K hK=>?_)|(apply ce ?_;try intro _)|(apply di ?_ ?_<;>clear hK K)|fail)
    .exact bN
    .refine⟨ac,aK,aK,bG,mF,?_⟩;exact⟨t.set m (ee n.aj.length),by rw[jv];exact ht,gC,by rw[V,Z,af iZ]⟩
  .rw[af h31]at Z;refine fy (fun hb hbp=>?_);refine⟨ac,aK,aK,bG,mF,?_⟩;exact⟨t,ht,O6,by rw[V,Z]⟩
 .have hlt':¬(i:Int)<l.length:=by omega
  refine fy (fun hb hbp=>?_);have hie:l.drop i=[]:=ny ac;rw[hie,jh]at V;have hvl:jW l=l.all fun n=>!oS t n:=by rw[jW,V]
  rw[hvl];clear hie V hvl;refine bY [3,30,31] [] 32 l.length (fun i E H=>H.get 0=some (.cells (t.map (.int .i64)) 0 true)/\(l.all fun n=>!oS t n)=(l.drop i).all fun n=>!oS t n) eE ⟨hg,au⟩ ?_;rintro j E3 H3 hj I C z hsI ⟨hg3,V⟩;(try simp only[bq,aT,aN,aG,aR,Nat.reduceBEq, *]at I);(try simp only[aT, *]at C);(try simp only[aZ,br,bX,bK,Nat.reduceAdd]at z);have hB0:(0 == H3.next)=false:=aX ac;have hC0:(H3.next == 0)=false:=aX ac;have hn3:1<=H3.next:=ac
  by_cases hjt:j<l.length
  .have hjt':(j:Int)<l.length:=by omega
   have hgx:l[j]?=some l[j]:=aL hjt;have g:=hn _ (cB hjt);have Z:((l.drop j).all fun n=>!oS t n)=(!oS t l[j]&&(l.drop (j+1)).all fun n=>!oS t n):=by rw[ft hjt,oO]
   generalize l[j]=n at *;have e0:(0 == H3.next)=false:=aX ac;by_cases h3:n.op=3
   .obtain⟨m0,ct⟩:=g.2 h3;have hd:n.aF.tdiv 16=n.aF/16:=l9 m0;have hd0:0<=n.aF.tdiv 16:=by rw[hd];omega
    obtain⟨m,hm⟩:=gO hd0;have Y:m<16:=ac;have L:oS t n=(decide (0<t.getD m 0)&&decide (t.getD m 0<=n.aF.tmod 16)):=by rw[oS,hm,h3,fK];rfl
    have ew:IntKind.wrap .i64 (n.aF.tdiv 16)=m:=by rw[hm];exact eX ac ac
    have hix:=Px (r:=0) Y;have U:∀b c,((H3.alloc b).set H3.next c).get 0=some (.cells (t.map (.int .i64)) 0 true):=fun b c=>O7;have hld:=fun b c=>Py (U b c) (m:=m) ac;generalize t.getD m 0=x at *;clear hd hm;repeat' (first
     |(apply aj ?_;clear hK K)|apply aQ ?_|(apply aV ?_ ?_<;>(intro hb hbp;try(cases hb;done)))|(apply ak fun K hK=>?_)|(apply da 13 [(1,22),(5,22),(8,22),(13,22),(16,22),(19,22)] fun K hK=>?_)|(apply ce ?_;try intro _)|(apply di ?_ ?_<;>clear hK K)|(apply rD ?_ ?_<;>(intro hg hgp;try(cases hg;done)))|fail)
    all_goals first
     |exact bN
     |(refine⟨aq,_,fN,?_⟩
       simp only[am];rw[V,Z,L];simp_all;done)
     |skip
    all_goals
     refine⟨ac,aK,aK,bG,mF,?_⟩;exact⟨U _ _,by rw[V,Z,L];simp_all⟩
   .have L:oS t n=false:=by rw[oS,eA h3];rfl
    repeat' (first
     |(apply aj ?_;clear hK K)|apply aQ ?_|(apply aV ?_ ?_<;>(intro hb hbp;try(cases hb;done)))|(apply ak fun K hK=>?_)|(apply da 13 [(1,22),(5,22),(8,22),(13,22),(16,22),(19,22)] fun K hK=>?_)|(apply ce ?_;try intro _)|(apply di ?_ ?_<;>clear hK K)|(apply rD ?_ ?_<;>(intro hg hgp;try(cases hg;done)))|fail)
    all_goals first
     |exact bN
     |skip
    refine⟨ac,aK,aK,bG,mF,?_⟩;exact⟨O7,by rw[V,Z,L];rfl⟩
  .have hjt':¬(j:Int)<l.length:=by omega
   refine fy (fun hb hbp=>?_);all_goals refine qq ?_
   rw[V,ny ac];rfl)
end
section
def tyV3.tyF:=ad @ec (ad @cA (ad @dw (ad @gQ (ad @eZ (ad @rB (ad @rC (ad @fX (ad @tk (ad @jB (@lJ))))))))))
open tyV3
structure VrX where
 u:Un
 g:Gr
 n:Nd
def xM(x:VrX):qt:=[.agg x.u.cells,.agg x.g.cells,.agg x.n.cells]
def zdR(x y:VrX)(h:xM x=xM y):x=y:=by
 obtain⟨a,b,c⟩:=x;obtain⟨Z,U,Y⟩:=y;simp only[xM,dN,AV.agg.injEq,aN]at h;rw[Un.inj h.1,Gr.inj h.2.1,uw h.2.2]
def iu(u:Un)(g:Gr)(n:Nd):Bool:=
 if n.op=2 then decide (n.aF<g.params)
 else if n.op=23\/n.op=28 then decide (n.aF<u.aa.length)
 else if n.op=30 then decide (n.aF<u.funcs.length)&&decide ((n.aj.length:Int)-1=(u.funcs.map Gr.params).getD n.aF.toNat 0)
 else true
def JW(x:VrX):Prop:=(x.n.op=30->0<=x.n.aF)/\x.n.aj.length<2^30/\x.u.aa.length<2^30/\x.u.funcs.length<2^30
theorem zdS(x:VrX)(z:JW x):bF prog ρ 75 (xM x) (.bool (iu x.u x.g x.n)):=dE fit (pls:=pls) (l:=[]) trivial (.cons (.agg (xu _)) (.cons (.agg (Gr.pure _)) (.cons (.agg (yV _)) .nil))) (.bool _) (by
 obtain⟨u,g,n⟩:=x;obtain⟨j,J,I,C⟩:=z;have L:=fh 75;rw[xM];simp only[]at j J I C⊢;by_cases O:n.op=30
 .have h0:=j O;obtain⟨m,i⟩:=gO h0;have e1:IntKind.wrap .i64 ((n.aj.length:Int)-1)=(n.aj.length:Int)-1:=eX ac ac;have hr:iu u g n=(decide ((m:Int)<u.funcs.length)&&decide ((n.aj.length:Int)-1=(u.funcs.map Gr.params).getD m 0)):=by
   rw[iu,af ac,af ac,ah O,i,fK]
  by_cases Y:m<u.funcs.length
  .have Z:(m:Int)<u.funcs.length:=by omega
   have V:u.funcs[m]?=some u.funcs[m]:=aL Y;have U:(u.funcs.map Gr.params).getD m 0=u.funcs[m].params:=by rw[cQ,eu,V];rfl
   rw[U]at hr;clear U;generalize u.funcs[m]=q at *;refine a0 (M:=47) (rs:=[.tmp 6]) (L.call _) L.aG L.az func75 rfl rfl zj.2 rfl ?_;dsimp only[zj,aW,Nat.reduceAdd];repeat' (first
    |(apply aj ?_;clear hK K)|apply aQ ?_|(apply aV ?_ ?_<;>(intro hb hbp;try(cases hb;done)))|(apply ak fun K hK=>?_)|(apply da 8 [(1,21),(3,21),(4,21),(8,21),(9,21),(12,21),(14,21),(17,21)] fun K hK=>?_)|(apply ce ?_;try intro _)|(apply di ?_ ?_<;>clear hK K)|(apply rD ?_ ?_<;>(intro hg hgp;try(cases hg;done)))|fail)
   all_goals first
    |exact bN
    |(refine⟨aq,_,fN,?_⟩
      simp only[am];rw[hr];simp_all;done)
  .have Z:¬(m:Int)<u.funcs.length:=by omega
   refine a0 (M:=47) (rs:=[.tmp 6]) (L.call _) L.aG L.az func75 rfl rfl zj.2 rfl ?_;dsimp only[zj,aW,Nat.reduceAdd];repeat' (first
    |(apply aj ?_;clear hK K)|apply aQ ?_|(apply aV ?_ ?_<;>(intro hb hbp;try(cases hb;done)))|(apply ak fun K hK=>?_)|(apply da 8 [(1,21),(3,21),(4,21),(8,21),(9,21),(12,21),(14,21),(17,21)] fun K hK=>?_)|(apply ce ?_;try intro _)|(apply di ?_ ?_<;>clear hK K)|(apply rD ?_ ?_<;>(intro hg hgp;try(cases hg;done)))|fail)
   all_goals first
    |exact bN
    |(refine⟨aq,_,fN,?_⟩
      simp only[am];rw[hr,eA Z];rfl)
 .refine a0 (M:=47) (rs:=[.tmp 6]) (L.call _) L.aG L.az func75 rfl rfl zj.2 rfl ?_;dsimp only[zj,aW,Nat.reduceAdd];repeat' (first
   |(apply aj ?_;clear hK K)|apply aQ ?_|(apply aV ?_ ?_<;>(intro hb hbp;try(cases hb;done)))|(apply ak fun K hK=>?_)|fail)
  all_goals first
   |exact bN
   |(refine⟨aq,_,fN,?_⟩
     simp only[am];simp_all[iu];done))
end
section
def tyV4.tyF:=ad @ec (ad @cA (ad @eZ (ad @fX (ad @jB (ad @NQ (ad @NU (ad @NW (ad @zcd (@oH)))))))))
open tyV4
noncomputable def Pz:{c:SC // aC 81 (f78.body.getD .skip)=c}:=by
 refine⟨?_,?_⟩;rotate_left
 .simp only[f78,bz,aC,bw,bt,bA,bB,Nat.blt,Nat.ble];rfl
def JX(h:m<2^32):IntKind.wrap .u32 (m:Int)=m:=by
 exact IntWalk.u32_in _ ac
def E7(h:a<2^32):(BitVec.ofInt 32 (a:Int)).toNat=a:=by
 rw[BitVec.ofInt_natCast,BitVec.toNat_ofNat,Nat.mod_eq_of_lt h]
theorem PA(z:a<2^32)(hb:b<2^32):IntKind.wrap .u32 (((BitVec.ofInt (IntKind.bits .u32) (a:Int) |||BitVec.ofInt (IntKind.bits .u32) (b:Int)).toNat:Nat):Int)=((a |||b:Nat):Int):=by
 have e:IntKind.bits .u32=32:=rfl;rw[e,BitVec.toNat_or,E7 z,E7 hb];exact JX (ES z hb)
theorem zdT(z:a<2^32)(hb:b<2^32):IntKind.wrap .u32 (((BitVec.ofInt (IntKind.bits .u32) (a:Int) &&& ~~~ BitVec.ofInt (IntKind.bits .u32) (b:Int)).toNat:Nat):Int)=((xK a b:Nat):Int):=by
 have e:IntKind.bits .u32=32:=rfl;have h:(BitVec.ofInt 32 (a:Int) &&& ~~~ BitVec.ofInt 32 (b:Int)).toNat=xK a b:=by
  apply ER;intro j;rw[Bw];rw[JN,BitVec.getLsbD_and,BitVec.getLsbD_not,<-JN,<-JN,E7 z,E7 hb];by_cases Z:j<32
  .simp[Z]
  .have:a.testBit j=false:=Nat.testBit_lt_two_pow (oD z (Nat.pow_le_pow_right ac ac));simp[this]
 rw[e,h];refine JX ?_;rw[<-h];exact(BitVec.ofInt 32 (a:Int) &&& ~~~ BitVec.ofInt 32 (b:Int)).isLt
def PB(z:a<2^32):xK a b<2^32:=by
 apply Pc;intro j Z;rw[Bw];have:a.testBit j=false:=Nat.testBit_lt_two_pow (oD z (Nat.pow_le_pow_right ac Z));simp[this]
def jX(h:qD):qt:=h.map fun(m:Nat)=>AV.int .u32 (m:Int)
def E8(h:qD):AV:=.aE (h.map fun(m:Nat)=>[AV.int .u32 (m:Int)])
def JY(h:qD):(jX h).length=h.length:=cN _
theorem PC{D:BinOp->Sx->Sx->qG}{t:TypeId}{Z:IntKind}(h:m<32):eK prog D .shl t (.int .u32 1) (.int Z (m:Int))=some (.int .u32 ((2^ m:Nat):Int)):=by
 have e:eK prog D .shl t (.int .u32 1) (.int Z (Int.ofNat m))=some (.int .u32 (IntKind.wrap .u32 (1*2^ min m 32))):=rfl;rw[show((m:Nat):Int)=Int.ofNat m from rfl,e,show min m 32=m by omega];have:(1:Int)*2^ m=((2^ m:Nat):Int):=by push_cast;omega
 rw[this,JX (JO ac h)]
def zdU{D:BinOp->Sx->Sx->qG}{t:TypeId}{k:IntKind}{a b:Int}:eK prog D .andNot t (.int k a) (.int k b)=some (.int k (k.wrap (BitVec.ofInt k.bits a &&& ~~~ BitVec.ofInt k.bits b).toNat)):=sh
theorem zdV(n:Nat):kM [.int .u32 0] n=jX (List.replicate n 0):=by
 induction n with
 |zero=>rfl
 |succ n ih=>simp only[kM,ih];simp[jX,Jm]
theorem zdW(n:Nat)(g:n<2^40):j9 prog H 104 (.int .i64 n) (.int .i64 n)=some (.sl H.next 0 n 1,H.alloc (.cells (jX (List.replicate n 0)) 0 true)):=by
 have O:dL=70368744177664:=rfl;show j9 prog H 104 (.int .i64 (Int.ofNat n)) (.int .i64 (Int.ofNat n))=_;simp only[j9,underlying104,D5,NS,NT];rw[ah ⟨aH _,oC,oC,rfl⟩,zdV]
def PD{n:Nat}(O:m<n):ej prog 104 (.sl r 0 n 1) (.int .i64 (m:Int))=some (.ptr r m):=by rw[pp underlying104 D5 O];simp
theorem PE{imm:Nat}(hg:H.get r=some (.cells (jX h) imm true))(O:m<h.length):gL prog H 148 (.ptr r m)=some (.int .u32 ((h.getD m 0:Nat):Int)):=by
 rw[vr underlying148 rfl hg,jX,eu,cQ,aL O];rfl
def E9(hg:H.get r=some (.cells (jX h) 0 true))(Z:m<h.length)(x:Nat):mr prog H 148 (.ptr r m) (.int .u32 (x:Int))=some (H.set r (.cells (jX (h.set m x)) 0 true)):=by
 have O:m<(jX h).length:=by rw[JY];exact Z
 rw[DV,hg,D5,DU,Ab.cells_int,splice_one _ O,ah ⟨rfl,de _,O,rfl⟩];simp[jX,tt]
theorem PF(H:Hp)(n:Nat):∀h:qD,iceL (iceV H (n+1)) (jX h)=some (jX h)
 |[]=>rfl
 |a::l=>by
  have:=PF H n l;have e:iceV H (n+1) (.int .u32 (a:Int))=some (.int .u32 (a:Int)):=rfl;simp only[jX,dZ,iceL,e]at this⊢;rw[this]
theorem zdX(h:qD):fP 1 h.length (jX h)=h.map fun(m:Nat)=>[AV.int .u32 (m:Int)]:=by
 induction h with
 |nil=>rfl
 |cons a l ih=>simp only[jX,dZ,eF,fP,JL,vM,xn,eS]at ih⊢;rw[ih]
theorem zdY(hg:H.get r=some (.cells (jX (fO l l.length++List.replicate 0 0)) 0 true)):iceV H 3 (.sl r 0 l.length 1)=some (E8 (fO l l.length)):=by
 have J:=vP l l.length;rw[List.replicate_zero,bm]at hg;generalize fO l l.length=h at *;have e:iceV H 3 (.sl r 0 l.length 1)=match H.get r with
  |some (.cells g _ _)=>match iceL (iceV H 2) ((g.drop 0).take (l.length*1))with
   |some C=>if C.length=l.length*1 then some (.aE (fP 1 l.length C))else none
   |none=>none
  |_=>none:=rfl
 rw[e,hg];simp only[eS,lE];rw[fI (by rw[JY];omega),PF];simp only[JY,J,dh];rw[<-J,zdX];rfl
def xN(l:qy):Prop:=gZ l/\∀i n,l[i]?=some n->zli n i
theorem JZ(J:xN l){i j:Nat}(C:i<=l.length)(Z:j<i):(fO l i).getD j 0<2^16:=by
 apply Pc;intro t Y;rw[E6 i C (fun j n _ h=>J.2 j n h) j Z t,eA ac];rfl
set_option maxRecDepth 100000 in
theorem zdZ(l:qy)(hl:xN l):bF prog ρ 78 [dR l] (E8 (fO l l.length)):=ur (m:=3) (cfg:=ay pls [tx]) fit (nU ρ) (eU.bR ⟨EK ρ,trivial⟩) (.cons (rN _) .nil) (by
 have hl1:=hl.1.1;have hw:zd0 (ay pls [tx]) 78:=db (fun _=>rfl) rfl;have q16:(16:Int)≠0:=aE;have hmk:∀H:Hp,j9 prog H 104 (.int .i64 l.length) (.int .i64 l.length)=some (.sl H.next 0 l.length 1,H.alloc (.cells (jX (List.replicate l.length 0)) 0 true)):=fun H=>zdW _ ac;refine a0 (M:=81) (rs:=[.tmp 2]) (hw.call _) hw.aG hw.az func78 rfl rfl Pz.2 rfl ?_;dsimp only[Pz,aW,Nat.reduceAdd];refine eP ?_;refine bY [2,3,12,13] [] 14 l.length (fun i E H=>H.get 0=some (.cells (jX (fO l i++List.replicate (l.length-i) 0)) 0 true)) eE (by rw[aD,ah eN];simp[fO]) ?_;rintro i E O hi hcE hrH hnH hsI hg;(try simp only[bq,aT,aN,aG,aR,Nat.reduceBEq, *]at hcE);(try simp only[aT,aR, *]at hrH);(try simp only[aZ,bX,bK]at hnH);have hB0:(0 == O.next)=false:=aX ac;have hC0:(O.next == 0)=false:=aX ac;have hn2:1<=O.next:=hnH
 by_cases hlt:i<l.length
 .have hlt':(i:Int)<l.length:=by omega
  have hgx:l[i]?=some l[i]:=aL hlt;have g:=hl.2 i _ hgx;have hnk:=hl.1.2 _ (cB hlt);have hms:fO l (i+1)=fO l i++[rR l[i] (fO l i)]:=by rw[fO,hgx]
  have hmlt:∀j,j<i->(fO l i).getD j 0<2^16:=fun j hj=>JZ hl ac hj;have hml:=vP l i;generalize l[i]=n at *;generalize fO l i=h at *;have hrep:List.replicate (l.length-i) (0:Nat)=0::List.replicate (l.length-(i+1)) 0:=O5;rw[hrep]at hg;have hzl:(h++0::List.replicate (l.length-(i+1)) (0:Nat)).length=l.length:=bW;generalize List.replicate (l.length-(i+1)) (0:Nat)=z at *;have e0:(0 == O.next)=false:=aX ac;have hgA:∀b c,((O.alloc b).set O.next c).get 0=some (.cells (jX (h++0::z)) 0 true):=fun b c=>O6;have hix:ej prog 104 (.sl 0 0 l.length 1) (.int .i64 (i:Int))=some (.ptr 0 i):=PD hlt;refine yl ?_;(apply bp (fun hb hbp=>?_) (fun hb hbp=>?_)<;>try(cases hb;done));refine eh ?_;generalize hHb:Hp.set (O.alloc _) _ _=Hb;have nb:O.next+1<=Hb.next:=EL
  have gb:Hb.get 0=some (.cells (jX (h++0::z)) 0 true):=by rw[<-hHb];exact hgA _ _
  have g5:Hb.get O.next=some (.cells n.cells 0 true):=Bn
  clear hHb hgA;have hset:∀x:Nat,(h++0::z).set i x=h++x::z:=fun x=>O8;refine Bv (fun E' H'=>E'.at 2=.ak/\E'.at 3=.sl 0 0 l.length 1/\E'.at 4=.int .i64 i/\E'.at 5=.ptr O.next 0/\E'.at 12=dR l/\E'.at 13=.int .i64 l.length/\E'.at 14=.int .i64 i/\H'.get 0=some (.cells (jX (h++(if n.op=3 then 2^ (n.aF.tdiv 16).toNat else 0)::z)) 0 true)/\H'.get O.next=some (.cells n.cells 0 true)/\O.next+1<=H'.next) ?_ ?_
  .by_cases h3:n.op=3
   .obtain⟨m0,ct⟩:=g.lv h3;have hd:n.aF.tdiv 16=n.aF/16:=l9 m0;have hd0:0<=n.aF.tdiv 16:=by rw[hd];omega
    obtain⟨m,hm⟩:=gO hd0;have hm16:m<16:=ac;rw[ah h3,hm,fK];have ew:IntKind.wrap .i64 (n.aF.tdiv 16)=m:=by rw[hm];exact eX ac ac
    have ew2:IntKind.wrap .u64 (m:Int)=m:=IntWalk.u64_in _ ac;have hsh:∀(D:BinOp->Sx->Sx->qG) (t:TypeId),eK prog D .shl t (.int .u32 1) (.int .u64 (m:Int))=some (.int .u32 ((2^ m:Nat):Int)):=fun D t=>PC ac;clear hd hm hd0;repeat' (first
     |apply Ry.o ?_|(apply aV ?_ ?_<;>(intro hb hbp;try(cases hb;done)))|(apply ak fun K hK=>?_)|fail)
    refine rA cV cV (E9 gb ac _) ?_;refine eP ?_;exact⟨rfl,eE,eE,eE,eE,eE,eE,eE,by rw[aA,ah rfl,hset],by rw[aA,af ac];exact g5,nb⟩
   .rw[af h3];refine fy (fun hb hbp=>?_);exact⟨rfl,eE,eE,eE,eE,eE,eE,eE,gb,g5,nb⟩
  clear gb g5 nb;rintro E3 H3 ⟨k2,k3,k4,k5,k12,k13,k14,g30,g35,n3⟩;dsimp only[mX];refine eh ?_;refine Bv (fun E' H'=>E'.at 2=.ak/\E'.at 3=.sl 0 0 l.length 1/\E'.at 4=.int .i64 i/\E'.at 5=.ptr O.next 0/\E'.at 12=dR l/\E'.at 13=.int .i64 l.length/\E'.at 14=.int .i64 i/\(n.op=31->E'.at 6=.int .u32 ((2^ n.aF.toNat:Nat):Int))/\H'=H3) ?_ ?_
  .by_cases Y:n.op=31
   .obtain⟨m0,ct,_⟩:=g.lp Y;obtain⟨m,hm⟩:=gO m0;have ew2:IntKind.wrap .u64 (m:Int)=m:=IntWalk.u64_in _ ac;have hsh:∀(D:BinOp->Sx->Sx->qG) (t:TypeId),eK prog D .shl t (.int .u32 1) (.int .u64 (m:Int))=some (.int .u32 ((2^ m:Nat):Int)):=fun D t=>PC ac;rw[hm,fK];refine fy (fun hb hbp=>?_);exact⟨rfl,eE,eE,eE,eE,eE,eE,eE,fun _=>eE,rfl⟩
   .refine fy (fun hb hbp=>?_);exact⟨rfl,eE,eE,eE,eE,eE,eE,eE,fun h=>absurd h Y,rfl⟩
  clear k2 k3 k4 k5 k12 k13 k14 E3;rintro E3 _ ⟨k2,k3,k4,k5,k12,k13,k14,k6,rfl⟩;dsimp only[mX];refine eP ?_;have hmm:rR n h=oR n h 0 n.aj (if n.op=3 then 2^ (n.aF.tdiv 16).toNat else 0):=rfl;have I:(if n.op=3 then 2^ (n.aF.tdiv 16).toNat else 0:Nat)<2^32:=by
   by_cases h3:n.op=3
   .rw[ah h3];obtain⟨m0,ct⟩:=g.lv h3;have hd:n.aF.tdiv 16=n.aF/16:=l9 m0;exact JO ac ac
   .rw[af h3];decide
  generalize (if n.op=3 then 2^ (n.aF.tdiv 16).toNat else 0:Nat)=cur0 at *;refine bY [2,3,4,5,6,12,13,14,38,39] [] 40 n.aj.length (fun j E H=>∃U,H.get 0=some (.cells (jX (h++U::z)) 0 true)/\H.get O.next=some (.cells n.cells 0 true)/\U<2^32/\rR n h=oR n h j (n.aj.drop j) U) eE ⟨cur0,g30,g35,I,by rw[hmm,eS]⟩ ?_;clear g30 g35 I hmm;rintro j E4 H4 hj hcE hrH hnH hsI ⟨U,J,g45,Z,hJ⟩;(try simp only[bq,aT,aN,aG,aR,Nat.reduceBEq, *]at hcE);(try simp only[aT, *]at hrH);(try simp only[aZ,br,bX,bK,Nat.reduceAdd]at hnH);by_cases hjt:j<n.aj.length
  .have hjt':(j:Int)<n.aj.length:=by omega
   have hgy:n.aj[j]?=some n.aj[j]:=aL hjt;obtain⟨d0,d1⟩:=g.aj _ (cB hjt);have V:oR n h j (n.aj.drop j) U=oR n h (j+1) (n.aj.drop (j+1)) (U |||tA n h j n.aj[j]):=by rw[ft hjt,oR]
   generalize n.aj[j]=kd at *;obtain⟨d,rfl⟩:=gO d0;have hdi:d<i:=ac;have hixd:ej prog 104 (.sl 0 0 l.length 1) (.int .i64 (d:Int))=some (.ptr 0 d):=PD ac;have C:∀x:Nat,(h++x::z).length=l.length:=fun x=>by rw[<-hzl];simp
   have hldi:=PE J (m:=i) wT;have hldd:=PE J (m:=d) wT;have hgi:(h++U::z).getD i 0=U:=by rw[cQ,lT ac,hml,nP];rfl
   have hgd:(h++U::z).getD d 0=h.getD d 0:=by rw[cQ,je ac,<-cQ]
   rw[hgi]at hldi;rw[hgd]at hldd;have hdl:=hmlt d hdi;have L:∀x:Nat,(h++U::z).set i x=h++x::z:=fun x=>O8;have hkd:tA n h j (d:Int)=if n.op=31/\ee n.aj.length<=j then xK (h.getD d 0) (2^ n.aF.toNat)else h.getD d 0:=by rw[tA,fK]
   rw[hkd]at V;generalize h.getD d 0=y at *;have hy:y<2^32:=ac;have e1:=PA Z hy;by_cases Y:n.op=31
   .have k6':=k6 Y;obtain⟨m0,ct,_⟩:=g.lp Y;have hown:2^ n.aF.toNat<2^32:=JO ac ac;by_cases hlv:ee n.aj.length<=j
    .rw[ah ⟨Y,hlv⟩]at V;have e2:=zdT hy hown;have e3:=PA Z (PB (b:=2^ n.aF.toNat) hy);have gh0:=@zdU;repeat' (first
      |(apply aj ?_;clear hK K)|apply aQ ?_|(apply ch ?_;first|refine Rx.k (zd (fun _=>rfl) _ ac _) ?_)|(apply bT ?_ ?_<;>(intro hg hgp;try(cases hg;done)))|(apply aV ?_ ?_<;>(intro hb hbp;try(cases hb;done)))|(apply ak fun K hK=>?_)|(apply Bb 14 fun K hK=>?_)|fail)
     refine rA cV cV (E9 J wT _) ?_;refine eP ?_;refine⟨ac,aK,aK,bG,xG,?_⟩;exact⟨_,JH,JK,ES Z (PB hy),by rw[hJ,V]⟩
    .rw[af (fun c=>hlv c.2)]at V;repeat' (first
      |(apply aj ?_;clear hK K)|apply aQ ?_|(apply ch ?_;first|refine Rx.k (zd (fun _=>rfl) _ ac _) ?_)|(apply bT ?_ ?_<;>(intro hg hgp;try(cases hg;done)))|(apply aV ?_ ?_<;>(intro hb hbp;try(cases hb;done)))|(apply ak fun K hK=>?_)|(apply Bb 15 fun K hK=>?_)|fail)
     refine rA cV cV (E9 J wT _) ?_;refine eP ?_;refine⟨ac,aK,aK,bG,xG,?_⟩;exact⟨_,JH,JK,ES Z hy,by rw[hJ,V]⟩
   .rw[af (fun c=>Y c.1)]at V;repeat' (first
     |(apply aj ?_;clear hK K)|apply aQ ?_|(apply bT ?_ ?_<;>(intro hg hgp;try(cases hg;done)))|(apply aV ?_ ?_<;>(intro hb hbp;try(cases hb;done)))|(apply ak fun K hK=>?_)|(apply Bb 15 fun K hK=>?_)|fail)
    refine rA cV cV (E9 J wT _) ?_;refine eP ?_;refine⟨ac,aK,aK,bG,xG,?_⟩;exact⟨_,JH,JK,ES Z hy,by rw[hJ,V]⟩
  .have hjt':¬(j:Int)<n.aj.length:=by omega
   have hjd:n.aj.drop j=[]:=ny ac;rw[hjd]at hJ;have hJ2:rR n h=U:=hJ;refine fy (fun hb hbp=>?_);refine⟨ac,aK,aK,bG,mF,?_⟩;rw[hms,hJ2,lU];exact J
 .have hlt':¬(i:Int)<l.length:=by omega
  refine fy (fun hb hbp=>?_);all_goals refine qq ?_
  have hie:i=l.length:=ac;rw[hie,nP]at hg;exact zdY hg)
end
section
def tyR3c.tyF:=ad @ec (ad @cA (ad @dw (ad @gQ (ad @jA (ad @iL (ad @fU (ad @fL (ad @fM (ad @fb (ad @nf (ad @lJ (ad @gF (ad @OV (ad @OW (@OX)))))))))))))))
open tyR3c
noncomputable def PG:{c:SC // aC 50 (f144.body.getD .skip)=c}:=by
 refine⟨?_,?_⟩;rotate_left
 .simp only[f144,bz,aC,bw,bt,bA,bB,Nat.blt,Nat.ble];rfl
noncomputable def PH:{c:SC // aC 94 (f93.body.getD .skip)=c}:=by
 refine⟨?_,?_⟩;rotate_left
 .simp only[f93,bz,aC,bw,bt,bA,bB,Nat.blt,Nat.ble];rfl
mutual
def oh:St->Bool
 | .mk _ _ _ _ a v O j m=>decide ((20:Int)<dg a)||decide ((20:Int)<dg v)||ge j||ge m||O.any fun e=>decide ((20:Int)<dg e)
def ge:qE->Bool
 |[]=>false
 |x::l=>oh x||ge l
end
theorem zea(x:St):oh x=(decide ((20:Int)<dg x.a6)||decide ((20:Int)<dg x.value)||ge x.a9||ge x.bl||x.args.any fun e=>decide ((20:Int)<dg e)):=by cases x;rw[oh];rfl
noncomputable def Bz:En:=⟨145,false,bQ (fun x=>x.sz<2^60) kF fun x=>.int .i64 (dg x)⟩
def PI:co prog ρ Bz:=cz fun x z=>zc1 ρ x z
def zeb:∀x:qE,bH x<2^60->bF prog ρ 144 (od x) (.bool (ge x)):=
 xq fit (pls:=pls) (l:=[Bz]) ⟨PI ρ,trivial⟩ (fun x=>bH x) (ok:=fun x=>bH x<2^60) (enc:=od) (out:=fun x=>.bool (ge x)) (fun x _=>.cons (Bc _) .nil) (fun x _=>.bool _) (fun x hx=>by
 have I:=xz (sz:=fun x:qE=>bH x) (ok:=fun x=>bH x<2^60) (out:=fun x=>.bool (ge x)) za (f:=144) (l:=[Bz]) x;generalize hl:(⟨144,false,bQ (fun y=>bH y<2^60/\bH y<bH x) od fun x=>.bool (ge x)⟩:En)::[Bz]=l at I⊢;have kr:∀(y:qE),bH y<bH x->∀H,aM prog (ay pls l) 144 [.aE (y.map St.cells)] H fun v H'=>v=.bool (ge y)/\H'=H:=fun y h2 H=>by
  subst hl;exact bZ (enc:=od) (out:=fun x=>.bool (ge x)) za (x:=y) rfl ⟨ac,h2⟩
 have kd:∀y:Ex,y.sz<2^60->∀H,aM prog (ay pls l) 145 [.agg y.cells] H fun v H'=>v=.int .i64 (dg y)/\H'=H:=fun y h1 H=>by
  subst hl;exact bZ (enc:=kF) (out:=fun x=>.int .i64 (dg x)) sA (x:=y) rfl h1
 have hlen:=vA x;change aM _ _ _ [.aE (x.map St.cells)] _ _;refine a0 (M:=50) (rs:=[.tmp 2]) I.call I.aG I.az func144 rfl rfl PG.2 rfl ?_;dsimp only[PG,aW,Nat.reduceAdd];refine eP ?_;refine bY [0] [] 3 x.length (fun i E H=>ge x=ge (x.drop i)) eE au ?_;rintro i E C hi V m z g O;(try simp only[bq,aT,aN,aG,aR,Nat.reduceBEq, *]at V);(try simp only[aT, *]at m);(try simp only[bX,]at z);repeat' (first
  |(apply aj ?_;clear hK K)|apply aO ?_|(apply bp ?_ ?_<;>(intro hb hbp;try(cases hb;done)))|(apply ak fun K hK=>?_)|fail)
 .have U:i<x.length:=by simpa using hb
  have hgx:x[i]?=some x[i]:=aL U;have hsm:=rF (cB U);have hsz:=x[i].aT;have hla:=rE x[i].args;have Y:ge (x.drop i)=(oh x[i]||ge (x.drop (i+1))):=by rw[ft U];rfl
  rw[zea]at Y;repeat' (first
   |(apply aj ?_;clear hK K)|apply aO ?_|(apply ez ?_;first|refine Rx.k (kd _ ac _) ?_|refine Rx.k (kr _ ac _) ?_)|(apply cD ?_ ?_<;>(intro hg hgp;try(cases hg;done)))|(apply bp ?_ ?_<;>(intro hb hbp;try(cases hb;done)))|(apply ak fun K hK=>?_)|fail)
  rotate_left
  .refine bY [0,3,4] [C.next] 5 x[i].args.length (fun j E H=>(x[i].args.any fun e=>decide ((20:Int)<dg e))=(x[i].args.drop j).any fun e=>decide ((20:Int)<dg e)) eE au ?_;rintro j E3 H3 hj V m z g J;(try simp only[bq,aT,aN,aG,aR,Nat.reduceBEq, *]at V);(try simp only[bq,aT,aN,aG,aR, *]at m);(try simp only[aZ,br,]at z);have hB0:(C.next == H3.next)=false:=aX ac;have hC0:(H3.next == C.next)=false:=aX ac;repeat' (first
    |(apply aj ?_;clear hK K)|apply aO ?_|(apply bp ?_ ?_<;>(intro hb hbp;try(cases hb;done)))|(apply ak fun K hK=>?_)|fail)
   .have Z:j<x[i].args.length:=by simpa using hb
    have hgx2:x[i].args[j]?=some x[i].args[j]:=aL Z;have hsm2:=py (cB Z);have L:((x[i].args.drop j).any fun e=>decide ((20:Int)<dg e))=(decide ((20:Int)<dg x[i].args[j])||(x[i].args.drop (j+1)).any fun e=>decide ((20:Int)<dg e)):=by rw[ft Z];rfl
    repeat' (first
     |(apply aj ?_;clear hK K)|apply aO ?_|(apply ez ?_;first|refine Rx.k (kd _ ac _) ?_)|(apply bp ?_ ?_<;>(intro hb hbp;try(cases hb;done)))|(apply ak fun K hK=>?_)|fail)
    .all_goals refine qq ?_
     rw[O,Y,J,L];(try simp only[dH]at *);simp only[ *,i4,io,rM,]
    .refine⟨ac,aK,aK,bG,(by simp only[aG,Nat.reduceBEq, *];exact gX (n:=x[i].args.length) ac ac),?_⟩;rw[J,L];(try simp only[dH]at *);simp only[*,il,]
   .refine⟨ac,aK,aK,bG,vG,?_⟩;have hje:j=x[i].args.length:=sB;rw[hje,gH,yZ]at J;rw[O,Y,J];(try simp only[dH]at *);simp only[*,il,io,]
  all_goals
   all_goals refine qq ?_
   rw[O,Y];(try simp only[dH]at *);simp only[ *,io,rM,]
 .all_goals refine qq ?_
  rw[O,show i=x.length by simp at hb;omega];simp[ge])
def fD(p:Pr):qt:=[.agg p.cells]
def pH(x y:Pr)(h:fD x=fD y):x=y:=by simp only[fD,dN,AV.agg.injEq,aN]at h;exact Pr.inj h
noncomputable def PJ:En:=⟨143,false,bQ (fun x=>bH x.1+x.2<2^60) uD vK⟩
def zec:co prog ρ PJ:=cz fun x z=>zc7 ρ x z
noncomputable def PK:En:=⟨144,false,bQ (fun x=>bH x<2^60) od fun x=>.bool (ge x)⟩
def zed:co prog ρ PK:=cz fun x z=>zeb ρ x z
def mc(f:Fu):Bool:=decide ((6:Int)<f.params.length)||decide ((8:Int)<f.ao.length)||decide ((200:Int)<nS f.body)||decide ((16:Int)<dk f.body)||decide ((20:Int)<fj f.body 0)||ge f.body||decide ((20:Int)<dg f.value)
def pI(a:Ar):Bool:=decide (a.len<1)||decide (16<a.len)
def jD(p:Pr):Bool:=decide ((4:Int)<p.aa.length)||decide ((8:Int)<p.funcs.length)||p.aa.any pI||p.funcs.any mc
noncomputable def BA:qB:=[Bz,PJ,PK]
def zee:eU prog ρ BA:=⟨PI ρ,zec ρ,zed ρ,trivial⟩
theorem zef(p:Pr)(hz:p.sz<2^60):bF prog ρ 93 [.agg p.cells] (.bool (jD p)):=dE fit (pls:=pls) (zee ρ) (.cons (.agg p.pure) .nil) (.bool _) (by
 have I:zd0 (ay pls BA) 93:=db (fun _=>rfl) rfl;have kd:∀y:Ex,y.sz<2^60->∀H,aM prog (ay pls BA) 145 [.agg y.cells] H fun v H'=>v=.int .i64 (dg y)/\H'=H:=fun y V H=>bZ (enc:=kF) (out:=fun x=>.int .i64 (dg x)) sA (x:=y) rfl V;have kt:∀y:qE,bH y<2^60->∀H,aM prog (ay pls BA) 144 [.aE (y.map St.cells)] H fun v H'=>v=.bool (ge y)/\H'=H:=fun y V H=>bZ (enc:=od) (out:=fun x=>.bool (ge x)) za (x:=y) rfl V;have kc:∀y:qE,bH y<2^60->∀H,aM prog (ay pls BA) 143 [.aE (y.map St.cells),.int .i64 0] H fun v H'=>v=.aX [.int .i64 (nS y),.int .i64 (dk y),.int .i64 (fj y 0)]/\H'=H:=fun y V H=>bZ (enc:=uD) (out:=vK) JB (x:=(y,0)) rfl yw;have hpz:p.sz=1+eV p.aa+fg p.funcs:=rfl;have hla:=mC p.aa;have hlf:=nX p.funcs;refine a0 (M:=94) (rs:=[.tmp 2]) (I.call _) I.aG I.az func93 rfl rfl PH.2 rfl ?_;dsimp only[PH,aW,Nat.reduceAdd];repeat' (first
  |(apply aj ?_;clear hK K)|apply aO ?_|(apply cD ?_ ?_<;>(intro hg hgp;try(cases hg;done)))|(apply bp ?_ ?_<;>(intro hb hbp;try(cases hb;done)))|(apply ak fun K hK=>?_)|fail)
 all_goals (first|(refine⟨aq,_,aF,?_⟩;(try simp only[am]);rw[jD];(try simp only[dH]at *);simp only[ *,i4,rM,];done)|skip)
 .refine bY [1] [0] 3 p.aa.length (fun i E H=>p.aa.any pI=(p.aa.drop i).any pI) eE au ?_;rintro i E U hi Y m z C L;(try simp only[bq,aT,aN,aG,aR,Nat.reduceBEq, *]at Y);(try simp only[bq,aT,aN,aG,aR, *]at m);(try simp only[aZ,bX,bK]at z);have g:(0 == U.next)=false:=aX ac;have hC0:(U.next == 0)=false:=aX ac;repeat' (first
   |(apply aj ?_;clear hK K)|apply aO ?_|(apply bp ?_ ?_<;>(intro hb hbp;try(cases hb;done)))|(apply ak fun K hK=>?_)|fail)
  .have j:i<p.aa.length:=by simpa using hb
   have hgx:p.aa[i]?=some p.aa[i]:=aL j;have Z:(p.aa.drop i).any pI=(pI p.aa[i]||(p.aa.drop (i+1)).any pI):=JI;rw[pI]at Z;repeat' (first
    |(apply aj ?_;clear hK K)|apply aO ?_|(apply cD ?_ ?_<;>(intro hg hgp;try(cases hg;done)))|(apply bp ?_ ?_<;>(intro hb hbp;try(cases hb;done)))|(apply ak fun K hK=>?_)|fail)
   all_goals (first|(refine⟨aq,_,aF,?_⟩;(try simp only[am]);rw[jD,L,Z];(try simp only[dH]at *);simp only[ *,i4,io,rM,];done)|skip)
   refine⟨ac,aK,aK,bG,zf,?_⟩;rw[L,Z];(try simp only[dH]at *);simp only[*,il,io,]
  .have O:i=p.aa.length:=by simp at hb;omega
   rw[O,gH,yZ]at L;clear hb O C hi;refine bY [1] [0] 4 p.funcs.length (fun i E H=>p.funcs.any mc=(p.funcs.drop i).any mc) eE au ?_;rintro i E U hi Y m z C J;(try simp only[bq,aT,aN,aG,Nat.reduceBEq, *]at Y);(try simp only[bq,aT,aN, *]at m);(try simp only[aZ,br,bX,bK,Nat.reduceAdd]at z);have g:(0 == U.next)=false:=aX ac;have hC0:(U.next == 0)=false:=aX ac;repeat' (first
    |(apply aj ?_;clear hK K)|apply aO ?_|(apply bp ?_ ?_<;>(intro hb hbp;try(cases hb;done)))|(apply ak fun K hK=>?_)|fail)
   .have j:i<p.funcs.length:=by simpa using hb
    have hgx:p.funcs[i]?=some p.funcs[i]:=aL j;have Z:(p.funcs.drop i).any mc=(mc p.funcs[i]||(p.funcs.drop (i+1)).any mc):=JI;rw[mc]at Z;have hsm:=nY (cB j);have hsz:p.funcs[i].sz=1+p.funcs[i].name.length+dB p.funcs[i].params+dB p.funcs[i].ao+bH p.funcs[i].body+p.funcs[i].value.sz:=rfl;repeat' (first
     |(apply aj ?_;clear hK K)|apply aO ?_|(apply ez ?_;first|refine Rx.k (kd _ ac _) ?_|refine Rx.k (kt _ ac _) ?_|refine Rx.k (kc _ ac _) ?_)|(apply cD ?_ ?_<;>(intro hg hgp;try(cases hg;done)))|(apply bp ?_ ?_<;>(intro hb hbp;try(cases hb;done)))|(apply ak fun K hK=>?_)|fail)
    all_goals (first|(refine⟨aq,_,aF,?_⟩;(try simp only[am]);rw[jD,L,J,Z];(try simp only[dH]at *);simp only[ *,i4,io,rM,];done)|skip)
    refine⟨ac,aK,aK,bG,pA,?_⟩;rw[J,Z];(try simp only[dH]at *);simp only[*,il,io,]
   .all_goals refine qq ?_
    have O:i=p.funcs.length:=sB;rw[O,gH,yZ]at J;rw[jD,L,J];(try simp only[dH]at *);simp only[*,io,])
end
section
def Fa(d:Nat)(h:d<2^60):bS ((d:Int)+1)=((d+1:Nat):Int):=by unfold bS;rw[eX ac ac];omega
mutual
theorem PL:∀(x:Ex) (d:Nat),d<=21->nW ut x d=decide (d+dg x<=20)
 | .mk k n s o z,d,hd=>by
   rw[nW,ut,dg];by_cases h:d<=20
   .rw[Fa d ac,PM z d h];simp only[show decide ((d:Int)<=20)=true by simpa using (by omega:(d:Int)<=20),el]
   .have i:decide ((d:Int)<=20)=false:=by simp;omega
    rw[i,em];symm;simp;omega
theorem PM:∀(l:qH) (d:Nat),d<=20->jQ ut l ((d+1:Nat):Int)=decide (d+jV l<=20)
 |[],d,hd=>by rw[jQ,jV];symm;simpa using hd
 |e::es,d,hd=>by
  rw[jQ,PL e (d+1) ac,PM es d hd,jV];by_cases i:d+1+dg e<=20<;>by_cases g:d+jV es<=20;all_goals simp only[i,g,i4,gD,gW,pC,]
  all_goals (symm;simp;omega)
end
def J0(x:Ex):nW ut x 0=!decide ((20:Int)<dg x):=by
 have:=PL x 0 ac;rw[show((0:Nat):Int)=0 from rfl]at this;rw[this];by_cases h:dg x<=20
 .have:¬(20:Int)<dg x:=by omega
  simp[h,this]
 .have:(20:Int)<dg x:=by omega
  simp[h,this]
theorem PN:∀(l:qH),jQ ut l 0=!(l.any fun e=>decide ((20:Int)<dg e))
 |[]=>rfl
 |e::es=>by rw[jQ,J0,PN es,sr,zh]
mutual
theorem zeg:∀(x:St) (d:Int),lZ (rG ut) x d ()=(!oh x,())
 | .mk k J Y n a v O j m,d=>by
   rw[lZ,rG,oh];simp only[St.a6,St.value,St.args,J0,PN];cases i:decide ((20:Int)<dg a)
   .cases g:decide ((20:Int)<dg v)
    .cases Z:O.any fun e=>decide ((20:Int)<dg e)
     .simp only[iC,gW,Fc j];cases U:ge j
      .simp only[iC,Fc m,io,il]
      .simp
     .simp
    .simp
   .simp
theorem Fc:∀(l:qE) (d:Int),fC (rG ut) l d ()=(!ge l,())
 |[],_=>rfl
 |x::l,d=>by
  rw[fC,zeg x,ge];cases h:oh x
  .simp only[iC,Fc l,il]
  .simp
end
def vR(k:Int):Nat:=if k=4 then 1 else 0
def zeh(x:St)(d n l:Nat)(I:n<2^60)(J:l<2^60):pz x d ((n:Int),(l:Int))=(decide ((d:Int)<=20)&&decide (((n+1:Nat):Int)<=200)&&decide (((l+vR x.aw:Nat):Int)<=16),(((n+1:Nat):Int),((l+vR x.aw:Nat):Int))):=by
 have L:(if x.aw=4 then bS ((l:Int)+1)else (l:Int))=((l+vR x.aw:Nat):Int):=by
  unfold vR;split
  .rw[Fa l ac]
  .rfl
 unfold pz;simp only[Fa n ac,L]
mutual
theorem zei:∀(x:St) (d n l:Nat),d<=21->n<=200->l<=16 ->
 ((ct x d<=20/\n+cF x<=200/\l+dC x<=16)->lZ pz x d ((n:Int),(l:Int))=(true,(((n+cF x:Nat):Int),((l+dC x:Nat):Int)))) /\
 (¬(ct x d<=20/\n+cF x<=200/\l+dC x<=16)->(lZ pz x d ((n:Int),(l:Int))).1=false)
 | .mk k J Z g a v O j m,d,n,l,hd,hn,hl=>by
   have i:vR (St.mk k J Z g a v O j m).aw<=1:=by unfold vR;split<;>omega
   have e1:dC (.mk k J Z g a v O j m)=vR (St.mk k J Z g a v O j m).aw+dk j+dk m:=by rw[dC];rfl
   rw[lZ,zeh _ _ _ _ ac ac,e1];obtain⟨z,C⟩:∃z,vR (St.mk k J Z g a v O j m).aw=z:=⟨_,rfl⟩;rw[C]at i⊢;clear C e1;simp only[Fa d ac,ct,cF];by_cases h0:d<=20/\n+1<=200/\l+z<=16
   .have I:(decide ((d:Int)<=20)&&decide (((n+1:Nat):Int)<=200)&&decide (((l+z:Nat):Int)<=16))=true:=by
     rw[cj,cj];refine⟨⟨?_,?_⟩,?_⟩<;>apply dx<;>omega
    rw[I];simp only[];have t:=Fe j (d+1) (n+1) (l+z) ac ac ac;by_cases Y:fj j (d+1)<=20/\n+1+nS j<=200/\l+z+dk j<=16
    .rw[t.1 Y];simp only[];have u:=Fe m (d+1) (n+1+nS j) (l+z+dk j) ac ac ac;by_cases V:fj m (d+1)<=20/\n+1+nS j+nS m<=200/\l+z+dk j+dk m<=16
     .rw[u.1 V];refine⟨fun _=>?_,fun h=>(h ⟨ac,ac,ac⟩).elim⟩;rw[show n+1+nS j+nS m=n+(1+nS j+nS m) by omega,show l+z+dk j+dk m=l+(z+dk j+dk m) by omega]
     .refine⟨fun h=>(V ⟨ac,ac,ac⟩).elim,fun _=>u.2 V⟩
    .refine⟨fun h=>(Y ⟨ac,ac,ac⟩).elim,fun _=>?_⟩;have:=t.2 Y;generalize fC pz j _ _=r at this⊢;obtain⟨b,s⟩:=r;simp only at this;subst this;rfl
   .have I:(decide ((d:Int)<=20)&&decide (((n+1:Nat):Int)<=200)&&decide (((l+z:Nat):Int)<=16))=false:=by
     rw[<-Bool.not_eq_true,cj,cj];rintro⟨⟨U,M⟩,L⟩;have U:=sE U;have M:=sE M;have L:=sE L;exact h0 ⟨ac,ac,ac⟩
    rw[I];exact⟨fun h=>(h0 ⟨ac,ac,ac⟩).elim,fun _=>rfl⟩
theorem Fe:∀(x:qE) (d n l:Nat),d<=21->n<=200->l<=16 ->
 ((fj x d<=20/\n+nS x<=200/\l+dk x<=16)->fC pz x d ((n:Int),(l:Int))=(true,(((n+nS x:Nat):Int),((l+dk x:Nat):Int)))) /\
 (¬(fj x d<=20/\n+nS x<=200/\l+dk x<=16)->(fC pz x d ((n:Int),(l:Int))).1=false)
 |[],d,n,l,hd,hn,hl=>by
  rw[fC,fj,nS,dk];exact⟨fun _=>rfl,fun h=>(h ⟨ac,ac,ac⟩).elim⟩
 |x::r,d,n,l,hd,hn,hl=>by
  rw[fC,fj,nS,dk];have t:=zei x d n l hd hn hl;by_cases i:ct x d<=20/\n+cF x<=200/\l+dC x<=16
  .rw[t.1 i];simp only[];have u:=Fe r d (n+cF x) (l+dC x) hd ac ac;by_cases g:fj r d<=20/\n+cF x+nS r<=200/\l+dC x+dk r<=16
   .rw[u.1 g];refine⟨fun _=>?_,fun h=>(h ⟨ac,ac,ac⟩).elim⟩;rw[show n+cF x+nS r=n+(cF x+nS r) by omega,show l+dC x+dk r=l+(dC x+dk r) by omega]
   .exact⟨fun h=>(g ⟨ac,ac,ac⟩).elim,fun _=>u.2 g⟩
  .refine⟨fun h=>(i ⟨ac,ac,ac⟩).elim,fun _=>?_⟩;have:=t.2 i;generalize lZ pz x _ _=r at this⊢;obtain⟨b,s⟩:=r;simp only at this;subst this;rfl
end
def zej(x:qE):(fC pz x 0 (0,0)).1=(!decide ((200:Int)<nS x) && !decide ((16:Int)<dk x) && !decide ((20:Int)<fj x 0)):=by
 have t:=Fe x 0 0 0 ac ac ac;rw[show((0:Nat):Int)=0 from rfl]at t;simp only[bK]at t;by_cases h:fj x 0<=20/\nS x<=200/\dk x<=16
 .rw[t.1 h];have i:¬(200:Int)<nS x:=ac;have g:¬(16:Int)<dk x:=ac;have m:¬(20:Int)<fj x 0:=ac;simp[i,g,m]
 .rw[t.2 h]
  symm
  rw[<-Bool.not_eq_true,cj,cj];rintro⟨⟨U,Y⟩,j⟩;simp only[lH,kB]at U Y j;exact h ⟨ac,ac,ac⟩
theorem zek(f:Fu):kZ f=!mc f:=by
 rw[kZ,mc,rH,zej,J0,Fc];have i:decide ((f.params.length:Int)<=6)=!decide ((6:Int)<f.params.length):=by
  by_cases h:(6:Int)<f.params.length
  .have:¬(f.params.length:Int)<=6:=by omega
   simp[h,this]
  .have:(f.params.length:Int)<=6:=by omega
   simp[h,this]
 have Z:decide ((f.ao.length:Int)<=8)=!decide ((8:Int)<f.ao.length):=by
  by_cases h:(8:Int)<f.ao.length
  .have:¬(f.ao.length:Int)<=8:=by omega
   simp[h,this]
  .have:(f.ao.length:Int)<=8:=by omega
   simp[h,this]
 rw[i,Z];simp only[zh];generalize (!decide ((6:Int)<f.params.length))=a;generalize (!decide ((8:Int)<f.ao.length))=b;generalize (!decide ((200:Int)<nS f.body))=c;generalize (!decide ((16:Int)<dk f.body))=d;generalize (!decide ((20:Int)<fj f.body 0))=e;generalize (!ge f.body)=g;generalize (!decide ((20:Int)<dg f.value))=h;cases a<;>cases b<;>cases c<;>cases d<;>cases e<;>cases g<;>cases h<;>rfl
theorem PO{I:Type}(l:List I)(p q:I->Bool)(h:∀x,p x=!q x):l.all p=!l.any q:=by
 induction l with
 |nil=>rfl
 |cons a l ih=>rw[oO,sr,zh,h,ih]
def zel(p:Pr):mD p=!jD p:=by
 rw[mD,jD,PO p.funcs kZ mc zek,PO p.aa _ pI (fun a=>by rw[pI,zh])];simp only[zh]
def tyR3d.tyF:=ad @ec (ad @cA (ad @dw (ad @fM (ad @fb (ad @fL (@gF))))))
open tyR3d
noncomputable def PP:{c:SC // aC 128 (f147.body.getD .skip)=c}:=by
 refine⟨?_,?_⟩;rotate_left
 .simp only[f147,bz,aC,bw,bt,bA,bB,Nat.blt,Nat.ble];rfl
noncomputable def PQ:{c:SC // aC 27 (f208.body.getD .skip)=c}:=by
 refine⟨?_,?_⟩;rotate_left
 .simp only[f208,bz,aC,bw,bt,bA,bB,Nat.blt,Nat.ble];rfl
def mG(x:Ex):Bool:=
 if x.aw=1 then decide ((x.aj.length:Int)=0)&&decide (x.name=[])&&decide (x.op=0)
 else if x.aw=2 then decide ((x.aj.length:Int)=0)&&decide (x.n=0)&&decide (x.op=0)&&ci x.name
 else if x.aw=3 then decide ((x.aj.length:Int)=1)&&decide (x.n=0)&&decide (x.op=0)&&ci x.name
 else if x.aw=4 then decide (x.n=0)&&decide (x.name=[])&&((decide ((x.aj.length:Int)=2)&&rK x.op)||(decide ((x.aj.length:Int)=1)&&(decide (x.op=20)||decide (x.op=21))))
 else if x.aw=5 then decide ((x.aj.length:Int)=3)&&decide (x.n=0)&&decide (x.name=[])&&decide (x.op=0)
 else false
mutual
def fk:Ex->Bool
 | .mk k n s o z=>eM z&&mG (.mk k n s o z)
def eM:qH->Bool
 |[]=>true
 |e::es=>fk e&&eM es
end
theorem BB(x:Ex):fk x=(eM x.aj&&mG x):=by cases x;rw[fk];rfl
noncomputable def zk:En:=⟨40,false,bQ (fun s=>s.length<2^60) nn fun s=>.bool (ci s)⟩
def BC:co prog ρ zk:=cz fun x z=>zcA ρ x z
noncomputable def PR:En:=⟨187,false,bQ (fun _=>True) (fun n:Int=>[.int .i64 n]) fun n=>.bool (rK n)⟩
def zem:co prog ρ PR:=cz fun x _=>zct ρ x
def J1(x y:Int)(h:([.int .i64 x]:qt)=[.int .i64 y]):x=y:=jf
noncomputable def BD:En:=⟨207,false,bQ (fun _=>True) kF fun x=>.bool (zeroE x)⟩
def PS:co prog ρ BD:=cz fun x _=>zcu ρ x
noncomputable def J2:qB:=[zk,PR]
def zen:eU prog ρ J2:=⟨BC ρ,zem ρ,trivial⟩
def zep:∀x:Ex,x.sz<2^60->bF prog ρ 147 (kF x) (.bool (fk x)):=
 xq fit (pls:=pls) (zen ρ) (fun x=>x.sz) (ok:=fun x=>x.sz<2^60) (enc:=kF) (out:=fun x=>.bool (fk x)) (fun x _=>.cons (.agg x.pure) .nil) (fun x _=>.bool _) (fun x hx=>by
 have L:=xz (sz:=fun x:Ex=>x.sz) (ok:=fun x=>x.sz<2^60) (out:=fun x=>.bool (fk x)) sA (f:=147) (l:=J2) x;generalize J:(⟨147,false,bQ (fun y=>y.sz<2^60/\y.sz<x.sz) kF fun x=>.bool (fk x)⟩:En)::J2=l at L⊢;have kr:∀y:Ex,y.sz<x.sz->∀H,aM prog (ay pls l) 147 [.agg y.cells] H fun v H'=>v=.bool (fk y)/\H'=H:=fun y g H=>by
  subst J;exact bZ (enc:=kF) (out:=fun x=>.bool (fk x)) sA (x:=y) rfl ⟨ac,g⟩
 have kv:∀s:qx,s.length<2^60->∀H,aM prog (ay pls l) 40 [.aq s] H fun v H'=>v=.bool (ci s)/\H'=H:=fun s h1 H=>by
  subst J;exact bZ (enc:=nn) (out:=fun x=>.bool (ci x)) ux (x:=s) rfl h1
 have kb:∀n:Int,∀H,aM prog (ay pls l) 187 [.int .i64 n] H fun v H'=>v=.bool (rK n)/\H'=H:=fun n H=>by
  subst J;exact bZ (enc:=fun n:Int=>[.int .i64 n]) (out:=fun x=>.bool (rK x)) J1 (x:=n) rfl trivial
 have hsz:=x.aT;have C:=rE x.aj;change aM _ _ _ [.agg x.cells] _ _;refine a0 (M:=128) (rs:=[.tmp 2]) L.call L.aG L.az func147 rfl rfl PP.2 rfl ?_;dsimp only[PP,aW,Nat.reduceAdd];refine iX ?_;refine bY [1] [0] 3 x.aj.length (fun i E H=>eM x.aj=eM (x.aj.drop i)) eE au ?_;rintro i E I hi Y m z hsI V;(try simp only[bq,aT,aN,aG,aR,Nat.reduceBEq, *]at Y);(try simp only[bq,aT,aN,aG,aR, *]at m);(try simp only[aZ,bX,bK]at z);have hB0:(0 == I.next)=false:=aX ac;have hC0:(I.next == 0)=false:=aX ac;repeat' (first
  |(apply aj ?_;clear hK K)|apply aO ?_|(apply ez ?_;first|refine Rx.k (kv _ ac _) ?_|refine Rx.k (kb _ _) ?_)|(apply cD ?_ ?_<;>(intro hg hgp;try(cases hg;done)))|(apply bp ?_ ?_<;>(intro hb hbp;try(cases hb;done)))|(apply ak fun K hK=>?_)|fail)
 .have j:i<x.aj.length:=by simpa using hb
  have hgx:x.aj[i]?=some x.aj[i]:=aL j;have hm:=py (cB j);have Z:eM (x.aj.drop i)=(fk x.aj[i]&&eM (x.aj.drop (i+1))):=ng;repeat' (first
   |(apply aj ?_;clear hK K)|apply aO ?_|(apply ez ?_;first|refine Rx.k (kr _ ac _) ?_)|(apply bp ?_ ?_<;>(intro hb hbp;try(cases hb;done)))|(apply ak fun K hK=>?_)|fail)
  all_goals (first|(refine⟨aq,_,aF,?_⟩;(try simp only[am]);rw[BB,V,Z];(try simp only[lH]at *);simp only[*,em,];done)|skip)
  refine⟨ac,aK,aK,bG,Jk,?_⟩;rw[V,Z];(try simp only[i8]at *);simp only[*,el,]
 all_goals
  have O:i=x.aj.length:=ac;rw[O,gH]at V;have U:eM x.aj=true:=V;clear V;all_goals refine qq ?_
  rw[BB,U,mG];(try simp only[dH]at *);simp only[ *,gD,il,io,zg,pG,dh,dD,Int.reduceEq])
end
section
def tyR3e.tyF:=ad @ec (ad @cA (ad @dw (ad @fL (ad @fM (ad @fb (@gF))))))
open tyR3e
noncomputable def PT:{c:SC // aC 202 (f186.body.getD .skip)=c}:=by
 refine⟨?_,?_⟩;rotate_left
 .simp only[f186,bz,aC,bw,bt,bA,bB,Nat.blt,Nat.ble];rfl
def rS(x:St):Bool:=decide (x.name=[])&&decide (x.to=[])&&decide (x.n=0)&&zeroE x.a6&&decide ((x.args.length:Int)=0)
def rT(x:St):Bool:=decide ((x.a9.length:Int)=0)&&decide ((x.bl.length:Int)=0)
def nA(x:St):Bool:=
 if x.aw=1 then rT x&&ci x.name&&decide (x.to=[])&&decide (x.n=0)&&zeroE x.a6&&decide ((x.args.length:Int)=0)&&fk x.value
 else if x.aw=2 then rT x&&ci x.name&&decide (x.to=[])&&decide (x.n=0)&&fk x.a6&&decide ((x.args.length:Int)=0)&&fk x.value
 else if x.aw=3 then rS x&&fk x.value
 else if x.aw=4 then rS x&&fk x.value&&decide ((x.bl.length:Int)=0)
 else if x.aw=5 then rT x&&rS x&&fk x.value
 else if x.aw=6 then rT x&&ci x.name&&ci x.to&&decide (x.n=0)&&zeroE x.a6&&zeroE x.value
 else if x.aw=7 then rT x&&decide (x.name=[])&&decide (x.to=[])&&decide (0<=x.n)&&decide (x.n<=1000000)&&zeroE x.a6&&zeroE x.value&&decide ((x.args.length:Int)=0)
 else false
def jw(x:St):Bool:=eM x.args&&nA x
def xO(x:St):qt:=[.agg x.cells]
def PU(x y:St)(h:xO x=xO y):x=y:=by simp only[xO,dN,AV.agg.injEq,aN]at h;exact St.inj h
def zeq(x:St):bF prog ρ 208 [.agg x.cells] (.bool (rS x)):=dE fit (pls:=pls) (l:=[BD]) ⟨PS ρ,trivial⟩ (.cons (.agg x.pure) .nil) (.bool _) (by
 have L:zd0 (ay pls [BD]) 208:=db (fun _=>rfl) rfl;have Z:∀y:Ex,∀H,aM prog (ay pls [BD]) 207 [.agg y.cells] H fun v H'=>v=.bool (zeroE y)/\H'=H:=fun y H=>bZ (enc:=kF) (out:=fun x=>.bool (zeroE x)) sA (x:=y) rfl trivial;refine a0 (M:=27) (rs:=[.tmp 2]) (L.call _) L.aG L.az func208 rfl rfl PQ.2 rfl ?_;dsimp only[PQ,aW,Nat.reduceAdd];repeat' (first
  |(apply aj ?_;clear hK K)|apply aO ?_|(apply ez ?_;first|refine Rx.k (Z _ _) ?_)|(apply cD ?_ ?_<;>(intro hg hgp;try(cases hg;done)))|(apply ak fun K hK=>?_)|fail)
 all_goals
  all_goals refine qq ?_
  rw[rS];(try simp only[dH]at *);simp only[ *,pG,])
noncomputable def PV:En:=⟨208,false,bQ (fun _=>True) xO fun x=>.bool (rS x)⟩
def zer:co prog ρ PV:=cz fun x _=>zeq ρ x
noncomputable def J3:En:=⟨147,false,bQ (fun x=>x.sz<2^60) kF fun x=>.bool (fk x)⟩
def PW:co prog ρ J3:=cz fun x z=>zep ρ x z
noncomputable def zl:qB:=[zk,BD,PV,J3]
def zes:eU prog ρ zl:=⟨BC ρ,PS ρ,zer ρ,PW ρ,trivial⟩
def zet(x:St)(hx:x.sz<2^60):bF prog ρ 186 [.agg x.cells] (.bool (jw x)):=dE fit (pls:=pls) (zes ρ) (.cons (.agg x.pure) .nil) (.bool _) (by
 have L:zd0 (ay pls zl) 186:=db (fun _=>rfl) rfl;have kz:∀y:Ex,∀H,aM prog (ay pls zl) 207 [.agg y.cells] H fun v H'=>v=.bool (zeroE y)/\H'=H:=fun y H=>bZ (enc:=kF) (out:=fun x=>.bool (zeroE x)) sA (x:=y) rfl trivial;have ko:∀y:St,∀H,aM prog (ay pls zl) 208 [.agg y.cells] H fun v H'=>v=.bool (rS y)/\H'=H:=fun y H=>bZ (enc:=xO) (out:=fun x=>.bool (rS x)) PU (x:=y) rfl trivial;have kv:∀s:qx,s.length<2^60->∀H,aM prog (ay pls zl) 40 [.aq s] H fun v H'=>v=.bool (ci s)/\H'=H:=fun s Y H=>bZ (enc:=nn) (out:=fun x=>.bool (ci x)) ux (x:=s) rfl Y;have C:∀y:Ex,y.sz<2^60->∀H,aM prog (ay pls zl) 147 [.agg y.cells] H fun v H'=>v=.bool (fk y)/\H'=H:=fun y Y H=>bZ (enc:=kF) (out:=fun x=>.bool (fk x)) sA (x:=y) rfl Y;have hsz:=x.aT;have g:=rE x.args;refine a0 (M:=202) (rs:=[.tmp 2]) (L.call _) L.aG L.az func186 rfl rfl PT.2 rfl ?_;dsimp only[PT,aW,Nat.reduceAdd];refine iX ?_;refine bY [1] [0] 3 x.args.length (fun i E H=>eM x.args=eM (x.args.drop i)) eE au ?_;rintro i E I hi U m z hsI V;(try simp only[bq,aT,aN,aG,aR,Nat.reduceBEq, *]at U);(try simp only[bq,aT,aN,aG,aR, *]at m);(try simp only[aZ,bX,bK]at z);have hB0:(0 == I.next)=false:=aX ac;have hC0:(I.next == 0)=false:=aX ac;repeat' (first
  |(apply aj ?_;clear hK K)|apply aO ?_|(apply ez ?_;first|refine Rx.k (kv _ ac _) ?_|refine Rx.k (kz _ _) ?_|refine Rx.k (ko _ _) ?_|refine Rx.k (C _ ac _) ?_)|(apply cD ?_ ?_<;>(intro hg hgp;try(cases hg;done)))|(apply bp ?_ ?_<;>(intro hb hbp;try(cases hb;done)))|(apply ak fun K hK=>?_)|fail)
 .have j:i<x.args.length:=by simpa using hb
  have hgx:x.args[i]?=some x.args[i]:=aL j;have hm:=py (cB j);have Z:eM (x.args.drop i)=(fk x.args[i]&&eM (x.args.drop (i+1))):=ng;repeat' (first
   |(apply aj ?_;clear hK K)|apply aO ?_|(apply ez ?_;first|refine Rx.k (C _ ac _) ?_)|(apply bp ?_ ?_<;>(intro hb hbp;try(cases hb;done)))|(apply ak fun K hK=>?_)|fail)
  all_goals (first|(refine⟨aq,_,aF,?_⟩;(try simp only[am]);rw[jw,V,Z];(try simp only[lH]at *);simp only[*,em,];done)|skip)
  refine⟨ac,aK,aK,bG,EO,?_⟩;rw[V,Z];(try simp only[i8]at *);simp only[*,el,]
 all_goals
  have O:i=x.args.length:=ac;rw[O,gH]at V;have J:eM x.args=true:=V;clear V;all_goals refine qq ?_
  rw[jw,J,nA,rT];(try simp only[dH]at *);simp only[ *,pG,dh,dD,Int.reduceEq])
end
end Go.Proofs.YtbflaciihaijgaaGreat
