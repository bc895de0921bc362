/- Parts: I2, V1, EnX, I3, SpecV, V2, V3, V4, R3c. -/
import Derived.Test.YtpbcimfiofmoeaaGreatMCH
set_option linter.unusedSimpArgs false
set_option linter.unusedVariables false
set_option linter.unusedSectionVars false
set_option linter.defProp false
set_option maxHeartbeats 32000000
namespace Go.Ab
set_option maxRecDepth 20000
open Go
theorem cL{P:Prop}(h:P:=by simp only[zk9];omega):P:=h
theorem zR{P:Prop}(h:P:=by simp only[zk9]at n5;omega):P:=h
theorem dT{P:Prop}(h:P:=by rfl):P:=h
theorem xD{P:Prop}(h:P:=by simp[zk9]):P:=h
theorem Nf{P:Prop}(h:P:=by rw[List.length_append,List.length_append,znT,List.length_singleton];omega):P:=h
theorem HL{P:Prop}(h:P:=by rw[hkeep];exact a5):P:=h
theorem HM{P:Prop}(h:P:=by rw[<- hHb,Hp.get_set,if_pos rfl]):P:=h
theorem zS{P:Prop}(h:P:=by rw[hlc];omega):P:=h
theorem HN{P:Prop}(h:P:=by rw[Hp.get_set,if_pos rfl,V]):P:=h
theorem tc{P:Prop}(h:P:=by simp at C;omega):P:=h
theorem HO{P:Prop}(h:P:=by rw[List.drop_eq_getElem_cons Z,List.any_cons]):P:=h
theorem HP{P:Prop}(h:P:=by rw[Int.tmod_eq_emod_of_nonneg ac];omega):P:=h
theorem HQ{P:Prop}(h:P:=by rw[znj ac ac];omega):P:=h
theorem Ng{P:Prop}(h:P:=by simp only[zk1,Nat.reduceBEq, *];exact zni (n:=8) ac ac):P:=h
theorem td{P:Prop}(h:P:=by rw[zkZ,if_pos dT];rfl):P:=h
theorem xE{P:Prop}(h:P:=by simp only[zk1,Nat.reduceBEq, *];exact zni (n:=n.kids.length) ac ac):P:=h
theorem nX{P:Prop}(h:P:=by rw[Hp.get_set,if_neg ac,zkZ,if_neg ac]):P:=h
theorem Nh{P:Prop}(h:P:=by rw[show l.length - i=(l.length - (i+1))+1 by omega];rfl):P:=h
theorem Nk{P:Prop}(h:P:=by rw[Hp.get_set,if_neg ac,zkZ,if_neg ac];exact hg3):P:=h
theorem Nl{P:Prop}(h:P:=by rw[List.set_append,if_neg ac,hml,Nat.sub_self,List.set_cons_zero]):P:=h
theorem HR{P:Prop}(h:P:=by rw[Hp.get_set,if_neg ac];exact g45):P:=h
theorem vT{P:Prop}(h:P:=by simp only[zk1,Nat.reduceBEq, *];exact zni (n:=p.arrays.length) ac ac):P:=h
def nY:=@List.all_cons
def xF:=@List.take_zero
def zT:=@decide_eq_decide
def iU:=@Bool.not_eq_false'
def uo:=@Bool.and_false
def HS:=@List.flatMap_nil
def zU:=@List.map_id
def fY:=@decide_eq_true
def iH:=@decide_eq_false
def Da:=@List.any_eq_true
def Nm:=@List.fst_mem_of_mem_zipIdx
def te:=@Int.tdiv_eq_ediv_of_nonneg
def rb:=@List.drop_eq_nil_of_le
def Db:=@Nat.or_lt_two_pow
def HT:=@BitVec.testBit_toNat
def Nn:=@Nat.lt_pow_two_of_testBit
def HU:=@Nat.pow_lt_pow_right
def Dc:=@Bool.or_true
def dI:=And.intro @nM @iU
def jO:=And.intro @gy @uo
def kZ:=And.intro @fq @fR
def p7:=And.intro @nN @Dc
end Go.Ab
namespace Go.Proofs.YtpbcimfiofmoeaaGreat
set_option maxRecDepth 20000
open Go Go.Ab
section
def tyI2.tyF:=ad @ec (ad @cJ (ad @gX (ad @qM (ad @kW (@vx)))))
open tyI2
noncomputable def No:{c:SC // aC 53 (Tryz.f115.body.getD .skip)=c}:=by
 refine⟨?_,?_⟩;rotate_left
 .simp only[Tryz.f115,bI,aC,zll,zle,zlp,zln,Nat.blt,Nat.ble];rfl
noncomputable def nZ:{c:SC // aC 106 (Tryz.f114.body.getD .skip)=c}:=by
 refine⟨?_,?_⟩;rotate_left
 .simp only[Tryz.f114,bI,aC,zll,zle,zlp,zln,Nat.blt,Nat.ble];rfl
noncomputable def HV:List En:=[HH,rN,HI,HJ,HK]
theorem Np(ρ:Nat->Int):fK Tryz.prog ρ HV:=⟨zzW ρ,C9 ρ,zvA ρ,zzX ρ,zzY ρ,trivial⟩
abbrev lc(l:List Nd):AV:=.lst (l.map Nd.cells)
theorem zV(l:List Nd):fJ (lc l):=.map fun x _=>x.pure
theorem Nq{a b:List Nd}(h:lc a=lc b):a=b:=by
 simp only[lc,AV.lst.injEq]at h;exact ng (fun _ _ _=>xm) h
def zW(x:List Nd×Nd):Prop:=x.2.op=25->∃(k:Nat) (m:Nd),x.2.kids[0]?=some (k:Int)/\x.1[k]?=some m/\m.kids.length<2^60
def vU(x:List Nd×Nd):List AV:=[lc x.1,.agg x.2.cells]
theorem zz0(x y:List Nd×Nd)(h:vU x=vU y):x=y:=by
 simp only[vU,ea,AV.agg.injEq,aR]at h;exact qV (Nq h.1) (xm h.2)
theorem zm5(ρ:Nat->Int)(x:List Nd×Nd)(o:zW x):bM Tryz.prog ρ 115 (vU x) (.bool (eN x.1 x.2)):=zmy fit (pls:=pls) (Np ρ) (.cons (zV _) (.cons (.agg (Nd.pure _)) .nil)) (.bool _) (by
 obtain⟨l,n⟩:=x;have O:Plain (zkY pls HV) 115:=zml (fun _=>rfl) rfl;unfold zW at o;rw[vU];simp only[]at o⊢;refine zlf (M:=53) (rs:=[.tmp 4]) (O.call _) O.ice O.froz Tryz.func115 rfl rfl No.2 rfl ?_;dsimp only[No,zD,Nat.reduceAdd];repeat' (first
  |(apply ah ?_;clear hK K)|apply Rx.o ?_|(apply cz (fun Z Y=>?_) (fun Z Y=>?_)<;>try(cases Z;done))|(apply a0 (fun C j=>?_) (fun C j=>?_)<;>try(cases C;done))|apply ak ?_|(apply zkU fun K hK=>?_)|apply aG ?_|apply zk3 ?_|apply aF ?_)
 all_goals (first|(refine⟨eI,_,eR,?_⟩;(try simp only[zkX]);clear o;simp_all[eN,jz]<;>omega;done)|skip)
 all_goals trace_state
 have U:n.op=25:=jF;obtain⟨k,m,V,z,h3⟩:=o U;have J:n.kids.headD 0=k:=by
  cases I:n.kids with
  |nil=>rw[I]at V;simp at V
  |cons a b=>rw[I]at V;simpa using V
 have hkl:xy l (n.kids.headD 0)=m.kids.length:=by rw[J,xy,ja,z]
 have hlr:=HE m.kids.length;have e1:IntKind.wrap .i64 (eC m.kids.length-1)=eC m.kids.length-1:=znj ac ac;repeat' (first
  |(apply ah ?_;clear hK K)|apply Ry.o ?_|(apply d7 ?_;first|refine zlc (xB (fun _=>rfl) _ ac _) ?_)|(apply eA (fun Z Y=>?_) (fun Z Y=>?_)<;>try(cases Z;done))|apply ak ?_|(apply zkU fun K hK=>?_)|apply aF ?_)
 all_goals (first|(refine⟨eI,_,eR,?_⟩;(try simp only[zkX]);clear o;simp_all[eN,jz]<;>omega;done)|skip)
 all_goals trace_state)
noncomputable def Nr:En:=⟨115,true,b7 zW vU fun x=>.bool (eN x.1 x.2)⟩
theorem zz1(ρ:Nat->Int):zl0 Tryz.prog ρ Nr:=zl7 fun x hx=>zm5 ρ x hx
theorem zvC(a:Int)(s:List Int):jT Tryz.prog 23 (.lst ((a::s).map fun n=>[AV.int .i64 n])) (some (.int .i64 1)) none=some (.lst (s.map fun n=>[AV.int .i64 n])):=by
 have m:(1:Int)=Int.ofNat 1:=rfl;simp only[jT,Tryz.underlying23,ki,znd];rw[am ⟨ax,aB _⟩];rw[gl ax];cases s with
 |nil=>rfl
 |cons b s=>rfl
theorem zd9(op:Int)(Z:0<=(eu op).1):(eu op).1<=(iG op).length:=by
 unfold eu at Z⊢;unfold iG;repeat' split
 all_goals (first|(simp;done)|omega|(simp_all;done))
def uq(x:Nd×List Int):List AV:=[.agg x.1.cells,gI x.2]
theorem zz2(x y:Nd×List Int)(h:uq x=uq y):x=y:=by
 simp only[uq,ea,AV.agg.injEq,aR]at h;exact qV (xm h.1) (HG h.2)
theorem vV{l:List En}(Z:∀M,zme l 19 M=HH.sp M)(n:Int)(H:Hp):zk5 Tryz.prog (zkY pls l) 19 [.int .i64 n] H fun v H'=>v=nr n/\H'=H:=
 zlM (enc:=fun n:Int=>[.int .i64 n]) (ok:=fun _=>True) (out:=nr) Nb (x:=n) (Z _) trivial
theorem Ns{l:List En}(Z:∀M,zme l 154 M=HI.sp M)(n:Int)(H:Hp):zk5 Tryz.prog (zkY pls l) 154 [.int .i64 n] H fun v H'=>v=gI (iG n)/\H'=H:=
 zlM (enc:=fun n:Int=>[.int .i64 n]) (ok:=fun _=>True) (out:=fun n=>gI (iG n)) Nb (x:=n) (Z _) trivial
theorem zeb{l:List En}(Z:∀M,zme l 153 M=HK.sp M)(n:Nat)(J:3<=n/\n<2^30)(H:Hp):zk5 Tryz.prog (zkY pls l) 153 [.int .i64 n] H fun v H'=>v=gI (mn n)/\H'=H:=
 zlM (enc:=vR) (ok:=fun n=>3<=n/\n<2^30) (out:=fun n=>gI (mn n)) Nc (x:=n) (Z _) J
theorem HW{l:List En}(Z:∀M,zme l 152 M=HJ.sp M)(s w:List Int)(h:xC (s,w))(H:Hp):zk5 Tryz.prog (zkY pls l) 152 [gI s,gI w] H fun v H'=>v=.bool (zmH s w)/\H'=H:=
 zlM (enc:=vQ) (ok:=xC) (out:=fun x=>.bool (zmH x.1 x.2)) zzV (x:=(s,w)) (Z _) h
theorem tf(a b:AV):Ab.extract (.tup [a,b]) 0=some a:=rfl
theorem tg(a b:AV):Ab.extract (.tup [a,b]) 1=some b:=rfl
theorem zz3(s:List Int):zmo 31 s=(decide ((3:Int)<=s.length)&&decide ((s.length:Int).tmod 2=1)&&decide (eC s.length<=16)&&zmH s (mn s.length)):=by
 have j:(s.length:Int).tmod 2=((s.length%2:Nat):Int):=HP;have m:decide ((s.length:Int).tmod 2=1)=decide (s.length%2=1):=by rw[j];exact zT.2 ac
 have U:decide ((3:Int)<=s.length)=decide (3<=s.length):=zT.2 ac;rw[m,U];rfl
theorem Dd(a:Int)(s:List Int):zmo 30 (a::s)=(!decide ((7:Int)<((s.length+1:Nat):Int))&&decide (a=2)&&s.all fun x=>decide (x=1)):=by
 have m:(!decide ((7:Int)<((s.length+1:Nat):Int)))=decide ((a::s).length<=7):=by
  rw[<-decide_not];exact zT.2 (by simp only[eK];omega)
 have U:decide (1<=(a::s).length)=true:=ax;rw[m];show(decide (1<=(a::s).length)&&decide ((a::s).length<=7)&&decide (a=2)&&s.all fun x=>decide (x=1))=_;rw[U,fq]
theorem zz4(a b c:Int):zmo 22 [a,b,c]=if b=2 then (decide (a=1)&&decide (c=2))else zmH [a,b,c] [1,1,1]:=by
 have e:zmo 22 [a,b,c]=if (22:Int)=22/\b=2 then (decide (a=1)&&decide (c=2))else zmH [a,b,c] [1,1,1]:=rfl
 rw[e];simp
theorem zvF{op:Int}(s:List Int)(h:(eu op).2=false):zmo op s=false:=by rw[zmo,am h]
theorem HX{op:Int}{s:List Int}(h:0<=(eu op).1)(h2:(eu op).1≠s.length):zmo op s=false:=by
 unfold zmo;split
 .rfl
 .rw[am ⟨h,h2⟩]
theorem zvG{op:Int}{s:List Int}(h:(eu op).2=true)(h2:(eu op).1=s.length)(h1:op≠31)(z:op≠30)(Y:op≠22):zmo op s=zmH s (iG op):=by
 unfold zmo;rw[af (by rw[h];simp),af (fun k=>k.2 h2),af h1,af z,af (fun k=>Y k.1)]
theorem Nt(op:Int):(iG op).length<=3:=by
 unfold iG;repeat' split
 all_goals decide
theorem zeg{op:Int}(h1:op≠31)(z:op≠30):0<=(eu op).1:=by
 unfold eu;repeat' split
 all_goals (first|decide|omega)
theorem zm6(ρ:Nat->Int)(x:Nd×List Int)(hx:x.2.length<2^30):bM Tryz.prog ρ 114 (uq x) (.bool (zmo x.1.op x.2)):=zmy fit (pls:=pls) (Np ρ) (.cons (.agg (Nd.pure _)) (.cons (zF _) .nil)) (.bool _) (by
 obtain⟨⟨V,imm,kids⟩,s⟩:=x;have O:Plain (zkY pls HV) 114:=zml (fun _=>rfl) rfl;rw[uq];simp only[Nd.cells]at hx⊢;have hq:(2:Int)≠0:=aE;by_cases m:V=31
 .subst m;have hv:nr 31=.tup [.int .i64 (-1),.bool true]:=rfl;have z:xC (s,mn s.length):=⟨by simp[mn],by simp[mn];omega⟩;refine zlf (M:=106) (rs:=[.tmp 4]) (O.call _) O.ice O.froz Tryz.func114 rfl rfl nZ.2 rfl ?_;dsimp only[nZ,zD,Nat.reduceAdd];have U:=@tf;have I:=@tg;repeat' (first
   |(apply ah ?_;clear hK K)|apply Ry.o ?_|(apply d7 ?_;first|refine zlc (vV (fun _=>rfl) _ _) ?_|refine zlc (xB (fun _=>rfl) _ ac _) ?_|refine zlc (zeb (fun _=>rfl) _ ac _) ?_|refine zlc (HW (fun _=>rfl) _ _ z _) ?_)|(apply eA (fun Z Y=>?_) (fun Z Y=>?_)<;>try(cases Z;done))|(apply bb (fun C j=>?_) (fun C j=>?_)<;>try(cases C;done))|apply ak ?_|(apply zkU fun K hK=>?_)|apply aG ?_|apply zk3 ?_|apply aF ?_|fail)
  all_goals
   refine⟨eI,_,qQ,?_⟩;try simp only[zkX]
   rw[zz3];(try simp only[dI]at *);simp only[ *,j0,ip,jO,kZ,]
 by_cases h30:V=30
 .subst h30;have hv:nr 30=.tup [.int .i64 (-1),.bool true]:=rfl;cases s with
  |nil=>
   refine zlf (M:=106) (rs:=[.tmp 4]) (O.call _) O.ice O.froz Tryz.func114 rfl rfl nZ.2 rfl ?_;dsimp only[nZ,zD,Nat.reduceAdd];have U:=@tf;have I:=@tg;repeat' (first
    |(apply ah ?_;clear hK K)|apply Ry.o ?_|(apply d7 ?_;first|refine zlc (vV (fun _=>rfl) _ _) ?_)|(apply eA (fun Z Y=>?_) (fun Z Y=>?_)<;>try(cases Z;done))|(apply bb (fun C j=>?_) (fun C j=>?_)<;>try(cases C;done))|apply ak ?_|(apply zkU fun K hK=>?_)|apply aG ?_|apply zk3 ?_|apply aF ?_|fail)
   all_goals (refine⟨eI,_,eR,?_⟩;try simp only[zkX])
   rfl
  |cons a s=>
   have hsl:=zvC a s;simp only[eK]at hx;refine zlf (M:=106) (rs:=[.tmp 4]) (O.call _) O.ice O.froz Tryz.func114 rfl rfl nZ.2 rfl ?_;dsimp only[nZ,zD,Nat.reduceAdd];have U:=@tf;have I:=@tg;repeat' (first
    |(apply ah ?_;clear hK K)|apply Ry.o ?_|(apply d7 ?_;first|refine zlc (vV (fun _=>rfl) _ _) ?_)|(apply eA (fun Z Y=>?_) (fun Z Y=>?_)<;>try(cases Z;done))|(apply bb (fun C j=>?_) (fun C j=>?_)<;>try(cases C;done))|apply ak ?_|(apply zkU fun K hK=>?_)|apply aG ?_|apply zk3 ?_|apply aF ?_|fail)
   .all_goals (refine⟨eI,_,eR,?_⟩;try simp only[zkX])
    rw[Dd];(try simp only[nM]at *);simp only[ *,ip,jO,ir,]
   .refine zlL [1,2,72,73] [] 74 s.length (fun i E H=>(s.all fun x=>decide (x=1))=(s.drop i).all fun x=>decide (x=1)) eE ax ?_;rintro i E H2 hi hcE hrH hnH hsI hJ;(try simp only[zlm,zlb,aR,zk1,zk7,Nat.reduceBEq, *]at hcE);(try simp only[zlb,zk7, *]at hrH);(try simp only[zk9,zlI,bL]at hnH);repeat' (first
     |(apply ah ?_;clear hK K)|apply Rx.o ?_|(apply a0 (fun C j=>?_) (fun C j=>?_)<;>try(cases C;done))|apply ak ?_|(apply zkU fun K hK=>?_)|apply aG ?_|apply zk3 ?_|apply aF ?_|apply zlu ?_)
    .have hlt:i<s.length:=by simpa using C
     have hgx:s[i]?=some s[i]:=aT hlt;have hdr:((s.drop i).all fun x=>decide (x=1))=(decide (s[i]=1)&&(s.drop (i+1)).all fun x=>decide (x=1)):=by rw[fS hlt,nY]
     repeat' (first
      |(apply ah ?_;clear hK K)|apply Rx.o ?_|(apply a0 (fun C j=>?_) (fun C j=>?_)<;>try(cases C;done))|apply ak ?_|(apply zkU fun K hK=>?_)|apply zk3 ?_|apply aF ?_|fail)
     .all_goals (refine⟨eI,_,eR,?_⟩;try simp only[zkX])
      rw[Dd,hJ,hdr];(try simp only[dI]at *);simp only[ *,ip,jO,fR,ir,]
     .refine⟨ac,zk8,zk8,zlF,CU,?_⟩;rw[hJ,hdr];(try simp only[iU]at *);simp only[*,fq,]
    .repeat' (first
      |(apply ah ?_;clear hK K)|fail)
     all_goals (refine⟨eI,_,eR,?_⟩;try simp only[zkX])
     rw[show i=s.length by simp at C;omega,gT]at hJ;have hJ2:(s.all fun x=>decide (x=1))=true:=hJ;rw[Dd,hJ2];(try simp only[iU]at *);simp only[*,ip,fR,ir,]
   .all_goals (refine⟨eI,_,eR,?_⟩;try simp only[zkX])
    rw[Dd];(try simp only[dI]at *);simp only[*,j0,gy,lC,]
 have hnn:=zeg m h30;cases o:(eu V).2 with
 |false=>
  have hv:nr V=.tup [.int .i64 (eu V).1,.bool false]:=by rw[nr,o]
  refine zlf (M:=106) (rs:=[.tmp 4]) (O.call _) O.ice O.froz Tryz.func114 rfl rfl nZ.2 rfl ?_;dsimp only[nZ,zD,Nat.reduceAdd];have U:=@tf;have I:=@tg;repeat' (first
   |(apply ah ?_;clear hK K)|apply Ry.o ?_|(apply d7 ?_;first|refine zlc (vV (fun _=>rfl) _ _) ?_)|apply Ry.gu ?_|(apply eA (fun Z Y=>?_) (fun Z Y=>?_)<;>try(cases Z;done))|(apply bb (fun C j=>?_) (fun C j=>?_)<;>try(cases C;done))|apply ak ?_|(apply zkU fun K hK=>?_)|apply aF ?_|fail)
  all_goals
   refine⟨eI,_,qQ,?_⟩;try simp only[zkX]
   rw[zvF s o]
 |true=>
  by_cases J:(eu V).1=s.length
  .have hv:nr V=.tup [.int .i64 s.length,.bool true]:=by rw[nr,o,J]
   by_cases h22:V=22
   .subst h22;obtain⟨a,b,c,rfl⟩:=zdI (s:=s) (by have e:(eu 22).1=3:=rfl;rw[e]at J;omega);have z:xC ([a,b,c],iG 22):=⟨aB _,by have:=Nt 22;simp only[];omega⟩;refine zlf (M:=106) (rs:=[.tmp 4]) (O.call _) O.ice O.froz Tryz.func114 rfl rfl nZ.2 rfl ?_;dsimp only[nZ,zD,Nat.reduceAdd];have U:=@tf;have I:=@tg;repeat' (first
     |(apply ah ?_;clear hK K)|apply Ry.o ?_|(apply d7 ?_;first|refine zlc (vV (fun _=>rfl) _ _) ?_|refine zlc (Ns (fun _=>rfl) _ _) ?_|refine zlc (HW (fun _=>rfl) _ _ z _) ?_)|(apply eA (fun Z Y=>?_) (fun Z Y=>?_)<;>try(cases Z;done))|(apply bb (fun C j=>?_) (fun C j=>?_)<;>try(cases C;done))|apply ak ?_|(apply zkU fun K hK=>?_)|apply aG ?_|apply zk3 ?_|apply aF ?_|fail)
    all_goals
     refine⟨eI,_,qQ,?_⟩;try simp only[zkX]
     rw[zz4];first
     |(simp_all;done)
     |(rw[af jF];rfl)
   .have z:xC (s,iG V):=⟨by have:=zd9 V hnn;simp only[];omega,by have:=Nt V;simp only[];omega⟩;have hl0:(0:Int)<=s.length:=ac;refine zlf (M:=106) (rs:=[.tmp 4]) (O.call _) O.ice O.froz Tryz.func114 rfl rfl nZ.2 rfl ?_;dsimp only[nZ,zD,Nat.reduceAdd];have U:=@tf;have I:=@tg;repeat' (first
     |(apply ah ?_;clear hK K)|apply Ry.o ?_|(apply d7 ?_;first|refine zlc (vV (fun _=>rfl) _ _) ?_|refine zlc (Ns (fun _=>rfl) _ _) ?_|refine zlc (HW (fun _=>rfl) _ _ z _) ?_)|(apply eA (fun Z Y=>?_) (fun Z Y=>?_)<;>try(cases Z;done))|(apply bb (fun C j=>?_) (fun C j=>?_)<;>try(cases C;done))|apply ak ?_|(apply zkU fun K hK=>?_)|apply aG ?_|apply zk3 ?_|apply aF ?_|fail)
    all_goals
     refine⟨eI,_,qQ,?_⟩;try simp only[zkX]
     rw[zvG o J m h30 h22]
  .have hv:nr V=.tup [.int .i64 (eu V).1,.bool true]:=by rw[nr,o]
   refine zlf (M:=106) (rs:=[.tmp 4]) (O.call _) O.ice O.froz Tryz.func114 rfl rfl nZ.2 rfl ?_;dsimp only[nZ,zD,Nat.reduceAdd];have U:=@tf;have I:=@tg;repeat' (first
    |(apply ah ?_;clear hK K)|apply Ry.o ?_|(apply d7 ?_;first|refine zlc (vV (fun _=>rfl) _ _) ?_)|(apply eA (fun Z Y=>?_) (fun Z Y=>?_)<;>try(cases Z;done))|(apply bb (fun C j=>?_) (fun C j=>?_)<;>try(cases C;done))|apply ak ?_|(apply zkU fun K hK=>?_)|apply aF ?_|fail)
   all_goals
    refine⟨eI,_,qQ,?_⟩;try simp only[zkX]
    rw[HX hnn J])
end
section
def tyV1.tyF:=ad @ec (ad @cJ (ad @oQ (ad @dd (ad @gX (ad @qM (ad @rH (ad @L5 (ad @L9 (ad @pU (ad @Mb (ad @GQ (ad @Ma (ad @Mc (@MU))))))))))))))
open tyV1
noncomputable def Nu:{c:SC // aC 20 (Tryz.f161.body.getD .skip)=c}:=by
 refine⟨?_,?_⟩;rotate_left
 .simp only[Tryz.f161,bI,aC,zll,zle,zlp,zln,Nat.blt,Nat.ble];rfl
noncomputable def Nv:{c:SC // aC 29 (Tryz.f130.body.getD .skip)=c}:=by
 refine⟨?_,?_⟩;rotate_left
 .simp only[Tryz.f130,bI,aC,zll,zle,zlp,zln,Nat.blt,Nat.ble];rfl
theorem Nw{cfg:Cfg}(J:Plain cfg 161)(Z:cfg.keep 161=false){H:Hp}{v:AV}{b:List Int}{lo:Nat}(hv:kG H v b lo)(C:b.length<2^38)(n:Int):
 zk5 Tryz.prog cfg 161 [v,.int .u64 n] H fun w H'=>kG H' w (b++zm4 n 8) lo/\H.next<=H'.next/\∀k,k<lo->H'.get k=H.get k:=by
 obtain⟨zlE,i0,V,_⟩:=id hv;have hone:AV.one v=true:=by rw[V];rfl
 clear V;refine zlf (M:=20) (rs:=[.tmp 4]) (J.call _) J.ice J.froz Tryz.func161 rfl rfl Nu.2 rfl ?_;dsimp only[Nu,zD,Nat.reduceAdd];repeat' (first
  |(apply ah ?_;clear hK K)|apply Rx.o ?_|apply ak ?_|(apply zkU fun K hK=>?_)|apply aG ?_|fail)
 refine zlL [1] [] 5 8 (fun i E Y=>∃w,E.at 0=w/\kG Y w (b++zm4 n i) lo/\∀k,k<lo->Y.get k=H.get k) eE ⟨v,eE,by simpa [zm4]using hv,fun _ _=>rfl⟩ ?_;rintro i E Y hi z m hnH hsI ⟨w,k0,O,I⟩;(try simp only[zlm,zlb,aR,zk1,zk7,Nat.reduceBEq, *]at z);(try simp only[zlb, *]at m);(try simp only[zk9,zli,zlI,bL,Nat.reduceAdd]at hnH);by_cases hlt:i<8
 .have U:(i:Int)<8:=by omega
  have e1:IntKind.wrap .i64 (8*(i:Int))=((8*i:Nat):Int):=HQ;have e2:IntKind.wrap .u64 ((8*i:Nat):Int)=((8*i:Nat):Int):=(by decide:∀i:Fin 8,IntKind.wrap .u64 ((8*i.val:Nat):Int)=((8*i.val:Nat):Int)) ⟨i,hlt⟩;have e4:∀(D:BinOp->Sx->Sx->Option Bool) (t:TypeId),zmt Tryz.prog D .shr t (.int .u64 n) (.int .u64 ((8*i:Nat):Int))=some (.int .u64 (n.fdiv (2^ (8*i)))):=fun D t=>bin_shr ac rfl;repeat' (first
   |(apply ah ?_;clear hK K)|apply Ry.o ?_|(apply bb (fun C j=>?_) (fun C j=>?_)<;>try(cases C;done))|apply ak ?_|(apply zkU fun K hK=>?_)|apply aG ?_|apply zk3 ?_|fail)
  have hwb:C2 (Y.alloc (.cells [.int .u8 (ml n i)] 0 true)) w (b++zm4 n i) lo:=.inr (O.keep (dQ _) fun k o=>by rw[zkZ,af (by have:=(O.lt o).2;omega)]);have hlo2:lo<=Y.next:=by obtain⟨r,im,_,_,_,h1,h2⟩:=O;omega
  obtain⟨v5,H5,a5,s5,n5,f5,o5⟩:=MT (r:=Y.next) (imm:=0) (ml n i) hwb cL gH (by rw[fj,znT];omega);have n5':Y.next<=H5.next:=zR
  have o5':∀k,k<lo->H5.get k=H.get k:=fun k o=>by rw[f5 k o,zkZ,af ac,I k o]
  clear n5 f5 o5;refine jv eV eV (by rw[Z];exact a5) ?_;repeat' (first
   |(apply ah ?_;clear hK K)|apply Rx.o ?_|(apply zkU fun K hK=>?_)|fail)
  refine⟨ac,zk8,zk8,zlF,Ng,?_⟩;exact⟨v5,eE,by rw[MV,<-i8];exact s5,o5'⟩
 .have U:¬(i:Int)<8:=by omega
  repeat' (first
   |(apply ah ?_;clear hK K)|apply Ry.o ?_|(apply bb (fun C j=>?_) (fun C j=>?_)<;>try(cases C;done))|apply ak ?_|(apply zkU fun K hK=>?_)|apply aF ?_|apply zlu ?_)
  all_goals (refine⟨eI,_,eR,?_⟩;try simp only[zkX])
  have hie:i=8:=ac;rw[hie]at O;exact⟨O,ac,I⟩
def ur(n:Nd):List Int:=IntKind.wrap .u8 n.op::(zm4 (IntKind.wrap .u64 n.imm) 8++n.kids.flatMap fun k=>zm4 (IntKind.wrap .u64 k) 8)
theorem Nx(n:Nd):ur n=[IntKind.wrap .u8 n.op]++zm4 (IntKind.wrap .u64 n.imm) 8++n.kids.flatMap fun k=>zm4 (IntKind.wrap .u64 k) 8:=by
 rw[ur];simp
theorem Ny:∀l:List Int,u5 (l.map (.int .u8))=some (sZ l)
 |[]=>rfl
 |a::l=>by
  have:=Ny l;simp only[dM,u5,this];rfl
theorem Nz{H:Hp}{v:AV}{l:List Int}{lo:Nat}(Z:kG H v l lo):zny Tryz.prog H 93 9 v=some (.str (sZ l)):=by
 obtain⟨r,U,rfl,K,_⟩:=Z;have hx:zmM H 1 (.sl r 0 l.length 1)=some (l.length,l.map (.int .u8)):=by
  have:=sN (H:=H) (r:=r) (o:=0) (n:=l.length) (z:=1) (s:=1) K ax;rw[this,fH,gl ax]
 simp only[zny,Tryz.underlying93,Tryz.underlying9,Tryz.underlying5,hx];rw[Ny]
def zX(n:Nd):List AV:=[.agg n.cells]
theorem zvI(x y:Nd)(h:zX x=zX y):x=y:=by
 simp only[zX,ea,AV.agg.injEq,aR]at h;exact xm h
theorem zz7(ρ:Nat->Int)(n:Nd)(hn:n.kids.length<2^30):bM Tryz.prog ρ 130 [.agg n.cells] (.str (sZ (ur n))):=zmy fit (pls:=pls) (l:=[]) trivial (.cons (.agg n.pure) .nil) (.str _) (by
 have o:=zmQ 130;refine zlf (M:=29) (rs:=[.tmp 2]) (o.call _) o.ice o.froz Tryz.func130 rfl rfl Nv.2 rfl ?_;dsimp only[Nv,zD,Nat.reduceAdd];repeat' (first
  |(apply ah ?_;clear hK K)|apply Rx.o ?_|apply ak ?_|(apply zkU fun K hK=>?_)|fail)
 refine aZ rfl bc bi ?_;simp only[bj];refine aS ?_ (Nw (zmQ _) rfl (b:=[IntKind.wrap .u8 n.op]) (lo:=1) ⟨1,0,rfl,td,dm _,aB _,xD⟩ ax _);rintro w H1 ⟨V,zlQ,o1⟩;have g1:H1.get 0=some (.cells n.cells 0 true):=by rw[o1 0 ac];rfl
 have n1':1<=H1.next:=by simp only[zk9]at zlQ;omega
 clear zlQ o1;dsimp only[zk6];repeat' (first
  |(apply ah ?_;clear hK K)|apply Rx.o ?_|apply ak ?_|(apply zkU fun K hK=>?_)|apply aG ?_|fail)
 refine zlL [1,2,16,17] [] 18 n.kids.length (fun j E H=>∃w,E.at 3=w/\kG H w ([IntKind.wrap .u8 n.op]++zm4 (IntKind.wrap .u64 n.imm) 8++(n.kids.take j).flatMap fun k=>zm4 (IntKind.wrap .u64 k) 8) 1/\H.get 0=some (.cells n.cells 0 true)) eE ⟨w,eE,wT,g1⟩ ?_;rintro j E H2 hj U J I hsI ⟨w2,k3,O,g2⟩;(try simp only[zlm,zlb,aR,zk1,zk7,Nat.reduceBEq, *]at U);(try simp only[zlb, *]at J);(try simp only[zk9,zli,zlI,bL,Nat.reduceAdd]at I);by_cases m:j<n.kids.length
 .have Y:(j:Int)<n.kids.length:=by omega
  have hgx:n.kids[j]?=some n.kids[j]:=aT m;have htk:n.kids.take (j+1)=n.kids.take j++[n.kids[j]]:=by rw[oI,hgx];rfl
  have hfl:((n.kids.take j).flatMap fun k=>zm4 (IntKind.wrap .u64 k) 8).length<=8*j:=by
   rw[List.length_flatMap];simp only[znT];have:((n.kids.take j).map fun _=>8).sum=8*(n.kids.take j).length:=by
    generalize n.kids.take j=q;induction q with
    |nil=>rfl
    |cons a q ih=>simp[ih];omega
   rw[this,j6];omega
  generalize n.kids[j]=kd at *;repeat' (first
   |(apply ah ?_;clear hK K)|apply Ry.o ?_|(apply bb (fun C Z=>?_) (fun C Z=>?_)<;>try(cases C;done))|apply ak ?_|(apply zkU fun K hK=>?_)|apply aG ?_|apply zk3 ?_|fail)
  refine aZ rfl bc bi ?_;simp only[bj];refine aS ?_ (Nw (zmQ _) rfl O Nf _);rintro w3 H3 ⟨z,n3,o3⟩;have g3:H3.get 0=some (.cells n.cells 0 true):=by rw[o3 0 ac];exact g2
  dsimp only[zk6];repeat' (first
   |(apply ah ?_;clear hK K)|apply Rx.o ?_|(apply zkU fun K hK=>?_)|fail)
  refine⟨ac,zk8,zk8,zlF,xE,?_⟩;exact⟨w3,eE,by rw[htk,List.flatMap_append,uf,HS,bj,<-i8];exact z,g3⟩
 .have Y:¬(j:Int)<n.kids.length:=by omega
  have hje:j=n.kids.length:=ac;subst hje;rw[yW]at O;have hcv:=Nz O;rw[<-Nx]at hcv;repeat' (first
   |(apply ah ?_;clear hK K)|apply Ry.o ?_|(apply bb (fun C Z=>?_) (fun C Z=>?_)<;>try(cases C;done))|apply ak ?_|(apply zkU fun K hK=>?_)|apply aF ?_|apply zlu ?_)
  all_goals (refine⟨eI,_,eR,?_⟩;try simp only[zkX]))
end
section
def p8:Nat->AV->Bool
 |0,_=>false
 |n+1,v=>match v with
  | .sl _ _ _ _=>true
  | .agg z=>z.any (p8 n)
  |_=>false
theorem De{S:Nat->Prop}{H:Hp}{n m k:Nat}(ih:∀{v u:AV},zl5 S n H v u->p8 m (bX k v)=false->bX k u=bX k v):∀{z Y:List AV},cr (zl5 S n H) z Y->(z.map (bX k)).any (p8 m)=false->Y.map (bX k)=z.map (bX k)
 |[],[],_,_=>rfl
 |c::z,d::Y,h,h2=>by
  simp only[dM,qT,i9]at h2;rw[dM,dM,ih h.1 h2.1,De ih h.2 h2.2]
theorem HY{S:Nat->Prop}{H:Hp}:∀(n m k:Nat) {v u:AV},n<=m->zl5 S n H v u->p8 m (bX k v)=false->bX k u=bX k v
 |0,_,_,_,_,_,h,_=>h.elim
 |n+1,0,_,_,_,h,_,_=>by omega
 |n+1,m+1,k,v,u,hm,h,h2=>by
  cases v with
  |sl r o l z=>cases k<;>simp[bX,p8]at h2
  |agg Z=>
   obtain⟨M,O,rfl⟩:=h;cases k with
   |zero=>
    have e:∀v,bX 0 v=v:=fun v=>by cases v<;>rfl
    have U:(Z.map (bX 0)).any (p8 m)=false:=by
     rw[show Z.map (bX 0)=Z by rw[show bX 0=id from funext e,zU]];simpa [bX,p8]using h2
    have:=De (k:=0) (fun Y V=>HY n m 0 ac Y V) O U;rw[show bX 0=id from funext e,zU,zU]at this;rw[this]
   |succ k=>
    have U:(Z.map (bX k)).any (p8 m)=false:=by simpa [bX,p8]using h2
    show AV.agg (M.map (bX k))=AV.agg (Z.map (bX k));rw[De (fun Y V=>HY n m k ac Y V) O U]
  |_=>obtain⟨_,rfl⟩:=h;rfl
theorem xG{l:List En}{V:FuncId}{Y:Type}{ok:Y->Prop}{enc:Y->List AV}{out:Y->AV}(Z:∀x y,enc x=enc y->x=y)(U:∀I,zme l V I=b7 ok enc out (I.map (bX 60)))(C:jb l V=true)(O:∀y,(enc y).any (p8 90)=false){x:Y}(o:ok x){S:Nat->Prop}{n:Nat}(z:n<=90){H:Hp}{M us:List AV}(h1:cr (zl5 S n H) M us)(h2:us.map (bX 60)=enc x):
 zk5 Tryz.prog (zkY pls l) V M H fun v H'=>v=out x/\Icy S H H':=by
 by_cases hd:∃y,ok y/\enc y=M.map (bX 60)
 .obtain⟨y,_,e⟩:=hd;have j:us.map (bX 60)=M.map (bX 60):=De (m:=90) (fun K J=>HY n 90 60 z K J) h1 (by rw[<-e];exact O y);refine aS ?_ (G5 (r:=out x) (by show zme l V M=_;rw[U,<-j,h2];exact CJ Z o));rintro v H' ⟨rfl,rfl⟩;exact⟨rfl,Icy.refl _ _⟩
 .obtain⟨H',K,J⟩:=zl5.iceL (n:=100) (l:=M) (m:=us) (cr.mono (fun a b k=>zl5.up k ac) h1);refine Lj (r:=out x) ?_ C rfl K ?_ ⟨rfl,J⟩
  .show zme l V M=none;rw[U];exact G4 fun y hy e=>hd ⟨y,hy,e⟩
  .show zme l V us=_;rw[U,h2];exact CJ Z o
theorem HZ{P:Program}{cfg:Cfg}{f N:Nat}{a:SC}{E:aw}{H:Hp}{Q:AX->aw->Hp->Prop}(F:aw->Hp->Prop)(h1:zlt P cfg f N a E H fun x E' H'=>x=.normal/\F E' H')(h2:∀E' H',F E' H'->Q .normal E' H'):zlt P cfg f N a E H Q:=
 w6 (fun x E' H' h=>by obtain⟨rfl,h⟩:=h;exact h2 E' H' h) h1
def tyI3.tyF:=ad @cJ (ad @kW (ad @gX (ad @qM (ad @ec (ad @HF (@vx))))))
open tyI3
noncomputable def NA:{c:SC // aC 80 (Tryz.f71.body.getD .skip)=c}:=by
 refine⟨?_,?_⟩;rotate_left
 .simp only[Tryz.f71,bI,aC,zll,zle,zlp,zln,Nat.blt,Nat.ble];rfl
noncomputable def NB:{c:SC // aC 22 (Tryz.f43.body.getD .skip)=c}:=by
 refine⟨?_,?_⟩;rotate_left
 .simp only[Tryz.f43,bI,aC,zll,zle,zlp,zln,Nat.blt,Nat.ble];rfl
theorem NC(S:Nat->Prop)(n:Nat)(H:Hp):∀s:List Int,cr (zl5 S (n+1) H) (s.map (.int .i64)) (s.map (.int .i64))
 |[]=>trivial
 |a::s=>⟨oY ⟨.int _ _,trivial⟩,NC S n H s⟩
theorem ND(n:Nat)(s:List Int):bX (n+2) (gI s)=gI s:=by
 show AV.lst ((s.map fun n=>[AV.int .i64 n]).map fun V=>V.map (bX (n+1)))=_;rw[sJ];rfl
theorem gZ.ic{H:Hp}{v:AV}{s:List Int}{lo:Nat}(h:gZ H v s lo):∃u,zl5 (fun k=>lo<=k) 3 H v u/\bX 60 u=gI s:=by
 rcases h with⟨rfl,rfl⟩|⟨r,m,rfl,j,z,Y,Z⟩
 .exact⟨.nilS,oY ⟨.nilS,trivial⟩,rfl⟩
 .refine⟨.lst (gN 1 s.length (s.map (.int .i64))),⟨Y,Z,s.map (.int .i64),m,true,s.map (.int .i64),j,by simpa using z,ax,?_,rfl⟩,?_⟩
  .rw[fH,lV,gl ax];exact NC _ _ _ _
  .rw[Hv];exact ND 58 s
theorem gC.icy{S:Nat->Prop}{H H':Hp}{v:AV}{s:List Int}{lo:Nat}(h:gC H v s lo)(k:Icy S H H'):gC H' v s lo:=by
 obtain⟨r,m,rfl,Y,z,V,U⟩:=h;rcases k.same r with e|⟨K,i,j,O,Z,M,C⟩
 .exact⟨r,m,rfl,by rw[<-e];exact Y,z,V,by rw[k.next];exact U⟩
 .rw[Y]at Z;simp only[aL,HB.cells.injEq]at Z;obtain⟨rfl,rfl,rfl⟩:=Z;exact⟨r,j,rfl,M,by have:=C (by simpa using z);simpa using this,V,by rw[k.next];exact U⟩
theorem gZ.icy{S:Nat->Prop}{H H':Hp}{v:AV}{s:List Int}{lo:Nat}(h:gZ H v s lo)(k:Icy S H H'):gZ H' v s lo:=h.imp id fun h=>h.icy k
noncomputable def H0:En:=⟨114,true,b7 (fun x=>x.2.length<2^30) uq fun x=>.bool (zmo x.1.op x.2)⟩
theorem zz8(ρ:Nat->Int):zl0 Tryz.prog ρ H0:=zl7 fun x hx=>zm6 ρ x hx
noncomputable def vW:List En:=[nW H0,Nr]
theorem zz9(ρ:Nat->Int):fK Tryz.prog ρ vW:=⟨xw (zz8 ρ),zz1 ρ,trivial⟩
theorem zAa(n:Nat)(x:Nd):bX (n+4) (.agg x.cells)=.agg x.cells:=by
 show AV.agg (x.cells.map (bX (n+3)))=_;rw[Nd.cells];simp only[dM,mh,ND];rfl
theorem zeo(y:Nd×List Int):(uq y).any (p8 90)=false:=by
 obtain⟨⟨V,m,K⟩,s⟩:=y;rfl
theorem zep{l:List En}(Z:∀M,zme l 114 M=(nW H0).sp M)(I:jb l 114=true){H:Hp}{v:AV}{s:List Int}{lo:Nat}(Y:gZ H v s lo)(U:s.length<2^30)(n:Nd):
 zk5 Tryz.prog (zkY pls l) 114 [.agg n.cells,v] H fun w H'=>w=.bool (zmo n.op s)/\Icy (fun k=>lo<=k) H H':=by
 obtain⟨u,m,j⟩:=Y.ic;obtain⟨K,z⟩:∃us,cr (zl5 (fun k=>lo<=k) 2 H) n.cells us/\us=n.cells:=by
  refine⟨n.cells,?_,rfl⟩;rw[Nd.cells];exact⟨oY ⟨.int _ _,trivial⟩,oY ⟨.int _ _,trivial⟩,oY ⟨zF _,trivial⟩,trivial⟩
 obtain⟨z,rfl⟩:=z;refine xG (x:=((n,s):Nd×List Int)) (enc:=uq) (ok:=fun x=>x.2.length<2^30) (out:=fun x=>.bool (zmo x.1.op x.2)) (us:=[.agg n.cells,u]) (n:=3) zz2 (fun M=>by rw[Z];rfl) I zeo U ac ⟨⟨n.cells,z,rfl⟩,m,trivial⟩ ?_;show [bX 60 (.agg n.cells),bX 60 u]=_;rw[j,zAa 56];rfl
theorem NE{i:Nat}{kn kids:List Int}{j:Nat}(o:j<kids.length):zmU i kn (kids.drop j)=if kids[j]<0\/(i:Int)<=kids[j]\/kn.getD kids[j].toNat 0=0 then none else (zmU i kn (kids.drop (j+1))).map fun s=>kn.getD kids[j].toNat 0::s:=by
 rw[fS o,zmU]
def ut(i:Nat)(kn kids:List Int)(j:Nat)(s:List Int):Prop:=s.length=j/\zmU i kn kids=(zmU i kn (kids.drop j)).map fun t=>s++t
theorem ut.bad{i:Nat}{kn kids:List Int}{j:Nat}{s:List Int}(h:ut i kn kids j s){U:Int}(K:kids[j]?=some U)(C:U<0\/(i:Int)<=U\/kn.getD U.toNat 0=0):zmU i kn kids=none:=by
 obtain⟨o,e⟩:=fw.1 K;rw[h.2,NE o,e,am C];rfl
theorem ut.next{i:Nat}{kn kids:List Int}{j:Nat}{s:List Int}(h:ut i kn kids j s){U:Int}(K:kids[j]?=some U)(C:¬(U<0\/(i:Int)<=U\/kn.getD U.toNat 0=0)):ut i kn kids (j+1) (s++[kn.getD U.toNat 0]):=by
 obtain⟨o,e⟩:=fw.1 K;refine⟨by simp[h.1],?_⟩;rw[h.2,NE o,e,af C];cases zmU i kn (kids.drop (j+1))with
 |none=>rfl
 |some t=>simp
theorem ut.done{i:Nat}{kn kids:List Int}{s:List Int}(h:ut i kn kids kids.length s):zmU i kn kids=some s:=by
 rw[h.2,gT];simp[zmU]
theorem Ia{l:List Nd}{i:Nat}{kn:List Int}{n:Nd}(J:l[i]?=some n)(h:zmU i kn n.kids=none):kY l i kn=0:=by
 rw[kY,J];simp only[h]
theorem zqG{l:List Nd}{i:Nat}{kn:List Int}{n:Nd}{s:List Int}(J:l[i]?=some n)(h:zmU i kn n.kids=some s):kY l i kn=if zmo n.op s&&eN l n then jL n s else 0:=by
 rw[kY,J];simp only[h]
theorem zto{op:Int}{s:List Int}(h:zmo op s=true)(Z:op=25):s.length=1:=by
 subst Z;by_cases c:s.length=1
 .exact c
 .rw[HX aE (by have e:(eu 25).1=1:=rfl;rw[e];omega)]at h;cases h
theorem zoU{op:Int}{s:List Int}(h:zmo op s=true)(M:op=22):s.length=3:=by
 subst M;by_cases c:s.length=3
 .exact c
 .rw[HX aE (by have e:(eu 22).1=3:=rfl;rw[e];omega)]at h;cases h
theorem zet{l:List Nd}{i:Nat}{kn s:List Int}{n:Nd}(M:i<l.length)(Z:∀n∈l,n.kids.length<2^30)(o:zmU i kn n.kids=some s)(O:zmo n.op s=true):zW (l,n):=by
 intro Y;have V:=zto O Y;rw[zP o]at V;obtain⟨k,I⟩:=zdH V;simp only[]at I⊢;obtain⟨z,K,_⟩:=ul o k (by rw[I];exact List.mem_singleton_self _);obtain⟨m,rfl⟩:=l7 z;have U:m<l.length:=ac;exact⟨m,l[m],by rw[I];rfl,aT U,by have:=Z _ (cR U);omega⟩
set_option maxRecDepth 100000 in
theorem ztp{l:List Nd}{i:Nat}{kn:List Int}{r:Nat}{H:Hp}(hl:l.length<2^30)(hi:i<l.length)(hkl:∀n∈l,n.kids.length<2^30)(hkn:l.length<=kn.length)(V:H.get r=some (.cells (kn.map (.int .i64)) 0 true))(hr:r<H.next):
 zk5 Tryz.prog (zkY pls vW) 71 [lc l,.int .i64 i,.sl r 0 kn.length 1] H fun v H'=>v=.int .i64 (kY l i kn)/\H.next<=H'.next/\∀k,k<H.next->H'.get k=H.get k:=by
 have hw:Plain (zkY pls vW) 71:=zml (fun _=>rfl) rfl;have hkeep:(zkY pls vW).keep 71=false:=rfl;have U:l[i]?=some l[i]:=aT hi;have hnk:=hkl _ (cR hi);generalize l[i]=n at *;refine zlf (M:=80) (rs:=[.tmp 6]) (hw.call _) hw.ice hw.froz Tryz.func71 rfl rfl NA.2 rfl ?_;dsimp only[NA,zD,Nat.reduceAdd];repeat' (first
  |(apply ah ?_;clear hK K)|apply Rx.o ?_|apply bS ?_|apply ak ?_|(apply zkU fun K hK=>?_)|apply aG ?_|fail)
 refine zlL [0,1,2,7,16,17] [] 18 n.kids.length (fun j E o=>∃v s,E.at 8=v/\gZ o v s (H.next+1)/\ut i kn n.kids j s/\o.get H.next=some (.cells n.cells 0 true)/\∀k,k<H.next->o.get k=H.get k) eE ⟨.nilS,[],eE,.inl ⟨rfl,rfl⟩,⟨rfl,ax⟩,gQ,fun k hk=>nX⟩ ?_;rintro j E o hj hcE hrH hnH hsI ⟨v,s,k8,hv,hJ,hn7,I⟩;(try simp only[zlm,zlb,aR,zk1,zk7,Nat.reduceBEq, *]at hcE);(try simp only[zlb,zk7, *]at hrH);(try simp only[zk9,zli,]at hnH);repeat' (first
  |(apply ah ?_;clear hK K)|apply Rx.o ?_|(apply a0 (fun C Z=>?_) (fun C Z=>?_)<;>try(cases C;done))|apply ak ?_|(apply zkU fun K hK=>?_)|apply aG ?_|apply zk3 ?_|apply zlu ?_)
 .have hlt:j<n.kids.length:=by simpa using C
  have hgx:n.kids[j]?=some n.kids[j]:=aT hlt;generalize n.kids[j]=kd at *;have g2r:o.get r=some (.cells (kn.map (.int .i64)) 0 true):=by rw[I r hr];exact V
  by_cases c1:kd<0
  .repeat' (first
    |(apply ah ?_;clear hK K)|apply Ry.o ?_|(apply eA (fun V Y=>?_) (fun V Y=>?_)<;>try(cases V;done))|(apply bb (fun C Z=>?_) (fun C Z=>?_)<;>try(cases C;done))|apply ak ?_|(apply zkU fun K hK=>?_)|apply aF ?_|fail)
   all_goals (refine⟨eI,_,eR,?_⟩;try simp only[zkX])
   refine⟨?_,ac,I⟩;rw[Ia U (hJ.bad hgx (.inl c1))]
  by_cases c2:(i:Int)<=kd
  .have c1':¬kd<0:=c1;repeat' (first
    |(apply ah ?_;clear hK K)|apply Ry.o ?_|(apply eA (fun V Y=>?_) (fun V Y=>?_)<;>try(cases V;done))|(apply bb (fun C Z=>?_) (fun C Z=>?_)<;>try(cases C;done))|apply ak ?_|(apply zkU fun K hK=>?_)|apply aF ?_|fail)
   all_goals (refine⟨eI,_,eR,?_⟩;try simp only[zkX])
   refine⟨?_,ac,I⟩;rw[Ia U (hJ.bad hgx (.inr (.inl c2)))]
  obtain⟨m,rfl⟩:=l7 (Int.not_lt.1 c1);have hml:m<kn.length:=ac;have hgk:kn[m]?=some kn[m]:=aT hml;have hgd:kn.getD (m:Int).toNat 0=kn[m]:=by rw[ja,dx,hgk];rfl
  have hia:zlO Tryz.prog 23 (.sl r 0 kn.length 1) (.int .i64 (m:Int))=some (.ptr r m):=by rw[vy Tryz.underlying23 ki hml];simp
  have hld:iN Tryz.prog o 3 (.ptr r m)=some (.int .i64 kn[m]):=by rw[ub Tryz.underlying3 rfl g2r,eS,hgk];rfl
  generalize kn[m]=x at *;repeat' (first
   |(apply ah ?_;clear hK K)|apply Ry.o ?_|(apply eA (fun V Y=>?_) (fun V Y=>?_)<;>try(cases V;done))|(apply bb (fun C Z=>?_) (fun C Z=>?_)<;>try(cases C;done))|apply ak ?_|(apply zkU fun K hK=>?_)|apply zk3 ?_|apply aF ?_|fail)
  .all_goals (refine⟨eI,_,eR,?_⟩;try simp only[zkX])
   refine⟨?_,ac,I⟩;rw[Ia U (hJ.bad hgx (.inr (.inr (by rw[hgd];assumption))))]
  .have hvb:gZ (o.alloc (.cells [.int .i64 x] 0 true)) v s (H.next+1):=hv.keep (dQ _) fun k hk=>by rw[zkZ,af (by have:=(hv.lt hk).2;omega)]
   obtain⟨v5,H5,a5,s5,n5,f5,o5⟩:=Hu (r:=o.next) (imm:=0) x hvb cL gH (by have:=hJ.1;omega);have hJn:=hJ.next hgx (by rw[hgd];rintro(h|h|h)<;>contradiction)
   rw[hgd]at hJn;have n5':o.next<=H5.next:=zR
   clear n5;have old5:∀k,k<H.next+1->H5.get k=o.get k:=fun k hk=>by rw[f5 k hk,zkZ,af ac]
   refine jv eV eV HL ?_;repeat' (first
    |(apply ah ?_;clear hK K)|apply Rx.o ?_|(apply zkU fun K hK=>?_)|fail)
   clear f5 o5 a5;refine⟨ac,zk8,zk8,zlF,xE,?_⟩;refine⟨v5,s++[x],eE,.inr s5,hJn,by rw[old5 _ ac];exact hn7,fun k hk=>by rw[old5 k ac,I k hk]⟩
 .have hje:j=n.kids.length:=by simp at C;omega
  rw[hje]at hJ;have O:=zqG U hJ.done;have hsl2:s.length<2^30:=by rw[hJ.1];exact hnk
  repeat' (first
   |(apply ah ?_;clear hK K)|fail)
  refine aZ rfl bc bi ?_;simp only[bj];refine aS ?_ (zep (fun _=>rfl) rfl hv hsl2 n);rintro w H4 ⟨rfl,hy⟩;have n4:=hy.next
  have n4':H.next+1<=H4.next:=ac
  have z:=hv.icy hy;have g4:H4.get H.next=some (.cells n.cells 0 true):=by rw[hy.out _ ac];exact hn7
  have o4:∀k,k<H.next->H4.get k=H.get k:=fun k hk=>by rw[hy.out _ ac,I k hk]
  clear hy n4 hv I hn7;dsimp only[zk6];cases hvd:zmo n.op s with
  |false=>
   repeat' (first
    |(apply ah ?_;clear hK K)|apply Rx.o ?_|(apply cz (fun V Y=>?_) (fun V Y=>?_)<;>try(cases V;done))|(apply a0 (fun C Z=>?_) (fun C Z=>?_)<;>try(cases C;done))|apply ak ?_|(apply zkU fun K hK=>?_)|apply aF ?_|fail)
   all_goals (refine⟨eI,_,eR,?_⟩;try simp only[zkX])
   refine⟨?_,ac,o4⟩;rw[O,hvd];rfl
  |true=>
  have J:=zet hi hkl hJ.done hvd;rw[hvd,fq]at O;have kim:∀H,zk5 Tryz.prog (zkY pls vW) 115 [lc l,.agg n.cells] H fun v H'=>v=.bool (eN l n)/\H'=H:=fun H=>zlM (enc:=vU) (ok:=zW) (out:=fun x=>.bool (eN x.1 x.2)) zz0 (x:=(l,n)) rfl J;have hq:(16:Int)≠0:=aE;repeat' (first
   |(apply ah ?_;clear hK K)|apply Rx.o ?_|(apply eM ?_;first|refine zlc (kim _) ?_)|(apply cz (fun V Y=>?_) (fun V Y=>?_)<;>try(cases V;done))|(apply a0 (fun C Z=>?_) (fun C Z=>?_)<;>try(cases C;done))|apply ak ?_|(apply zkU fun K hK=>?_)|apply aG ?_|apply zk3 ?_|apply aF ?_|fail)
  all_goals (first|(refine⟨eI,_,eR,?_⟩;(try simp only[zkX]);refine⟨?_,ac,o4⟩;rw[O];unfold jL;clear J kim o4 z O U;simp_all;done)|skip)
  all_goals trace_state
  repeat' (first
   |(apply ah ?_;clear hK K)|fail)
  have h22:n.op=22:=jF;have hl3:=zoU hvd h22;rcases z with⟨_,hnil⟩|z
  .rw[hnil]at hl3;simp at hl3
  obtain⟨q,hix,hlo⟩:=z.at (i:=1) ac;have hix':zlO Tryz.prog 23 v (.int .i64 1)=some (.ptr q 1):=hix;repeat' (first
   |(apply ah ?_;clear hK K)|apply Rx.o ?_|apply aF ?_|fail)
  all_goals (refine⟨eI,_,eR,?_⟩;try simp only[zkX])
  refine⟨?_,ac,o4⟩;have hgl:s.getD 1 0=s[1]' ac:=by rw[dx,aT ac];rfl
  rw[O];unfold jL;clear J kim o4 z O U;simp_all
theorem NF{i:Nat}{a b:List Int}(O:a.length=i):∀M:List Int,zmU i (a++b) M=zmU i a M
 |[]=>rfl
 |k::M=>by
  rw[zmU,zmU,NF O M];by_cases h:k<0\/(i:Int)<=k
  .rw[am ac,am ac]
  .have e:(a++b).getD k.toNat 0=a.getD k.toNat 0:=by rw[dx,dx,jG ac]
   rw[e]
theorem ztq(l:List Nd){i:Nat}(b:List Int):kY l i (zmC l i++b)=kY l i (zmC l i):=by
 unfold kY;cases l[i]? with
 |none=>rfl
 |some n=>simp only[NF (qY l i)]
def oZ(l:List Nd):Prop:=l.length<2^30/\∀n∈l,n.kids.length<2^30
def re(l:List Nd):List AV:=[lc l]
theorem Df(x y:List Nd)(h:re x=re y):x=y:=by
 simp only[re,ea,aR]at h;exact Nq h
theorem zqH(ρ:Nat->Int)(l:List Nd)(hl:oZ l):bM Tryz.prog ρ 43 [lc l] (gI (zmC l l.length)):=vH (m:=3) (cfg:=zkY pls vW) fit (pP ρ) (fK.look (zz9 ρ)) (.cons (zV _) .nil) (by
 obtain⟨hl1,hl2⟩:=hl;have hw:Plain (zkY pls vW) 43:=zml (fun _=>rfl) rfl;have hmk:∀H:Hp,znz Tryz.prog H 23 (.int .i64 l.length) (.int .i64 l.length)=some (.sl H.next 0 l.length 1,H.alloc (.cells ((List.replicate l.length (0:Int)).map (.int .i64)) 0 true)):=fun H=>zdz _ _ (aB _) ac;refine zlf (M:=22) (rs:=[.tmp 2]) (hw.call _) hw.ice hw.froz Tryz.func43 rfl rfl NB.2 rfl ?_;dsimp only[NB,zD,Nat.reduceAdd];repeat' (first
  |(apply ah ?_;clear hK K)|apply Rx.o ?_|apply ak ?_|(apply zkU fun K hK=>?_)|apply aG ?_|fail)
 refine zlL [0,2,3,9] [] 10 l.length (fun i E H=>H.get 0=some (.cells ((zmC l i++List.replicate (l.length-i) 0).map (.int .i64)) 0 true)) eE (by rw[zkZ,am dT];simp[zmC]) ?_;rintro i E H2 hi O J o hsI z;(try simp only[zlm,zlb,aR,zk1,zk7,Nat.reduceBEq, *]at O);(try simp only[zlb,zk7, *]at J);(try simp only[zk9,zlI,bL]at o);repeat' (first
  |(apply ah ?_;clear hK K)|apply Rx.o ?_|(apply a0 (fun C j=>?_) (fun C j=>?_)<;>try(cases C;done))|apply ak ?_|(apply zkU fun K hK=>?_)|apply aG ?_|apply zk3 ?_|apply aF ?_|apply zlu ?_)
 .have Z:i<l.length:=by simpa using C
  refine aZ rfl bc bi ?_;simp only[bj];have Y:(zmC l i++List.replicate (l.length-i) (0:Int)).length=l.length:=by rw[fj,qY,qU];omega
  have U:=ztp (l:=l) (i:=i) (kn:=zmC l i++List.replicate (l.length-i) 0) (r:=0) (H:=H2) hl1 Z hl2 ac z ac;rw[Y]at U;refine aS ?_ U;rintro w H3 ⟨rfl,hn3,I⟩;have g3:H3.get 0=_:=(I 0 ac).trans z;have n3:1<=H3.next:=ac
  rw[ztq];dsimp only[zk6];generalize hx:kY l i (zmC l i)=x;have hsi:zmC l (i+1)=zmC l i++[x]:=by rw[zmC,hx]
  repeat' (first
   |apply Ry.o ?_|fail)
  refine oN eV eV (zO g3 (by rw[cp,Y];exact Z) x) ?_;repeat' (first
   |(apply ah ?_;clear hK K)|apply Rx.o ?_|(apply zkU fun K hK=>?_)|fail)
  refine⟨ac,zk8,zk8,zlF,rL,?_⟩;rw[aJ,am rfl,hsi,<-qL];have V:List.replicate (l.length-i) (0:Int)=0::List.replicate (l.length-(i+1)) 0:=Nh;rw[V,List.set_append,af (by rw[qY];omega),qY,oG,CX,i8];rfl
 .have hie:i=l.length:=by simp at C;omega
  rw[hie,oG]at z;repeat' (first
   |(apply ah ?_;clear hK K)|fail)
  all_goals (refine⟨eI,_,eR,?_⟩;try simp only[zkX])
  have C:gC H2 (.sl 0 0 (zmC l l.length).length 1) (zmC l l.length) 0:=⟨0,0,rfl,by rw[z];simp,dm _,dm _,ac⟩;have:=C.iceV 1;rw[qY]at this;exact this)
noncomputable def Ib:En:=⟨43,true,b7 oZ re fun l=>gI (zmC l l.length)⟩
theorem zAb(ρ:Nat->Int):zl0 Tryz.prog ρ Ib:=zl7 fun l M=>zqH ρ l M
theorem zey{j:List En}(Z:∀M,zme j 43 M=Ib.sp M)(l:List Nd)(Y:oZ l)(H:Hp):zk5 Tryz.prog (zkY pls j) 43 [lc l] H fun v H'=>v=gI (zmC l l.length)/\H'=H:=
 zlM (enc:=re) (ok:=oZ) (out:=fun l=>gI (zmC l l.length)) Df (x:=l) (Z _) Y
end
end Go.Proofs.YtpbcimfiofmoeaaGreat
namespace Go.Ab
set_option maxRecDepth 20000
open Go
def vX(a b:Nat):Nat:=a^^^ (a &&& b)
def rO(n:Nd)(h:List Nat)(j:Nat)(k:Int):Nat:=if n.op=31/\eC n.kids.length<=j then vX (h.getD k.toNat 0) (2^ n.imm.toNat)else h.getD k.toNat 0
def n1(n:Nd)(h:List Nat):Nat->List Int->Nat->Nat
 |_,[],m=>m
 |j,k::ks,m=>n1 n h (j+1) ks (m |||rO n h j k)
def p9(n:Nd)(h:List Nat):Nat:=n1 n h 0 n.kids (if n.op=3 then 2^ (n.imm.tdiv 16).toNat else 0)
def zmR(l:List Nd):Nat->List Nat
 |0=>[]
 |i+1=>zmR l i++[match l[i]? with|some n=>p9 n (zmR l i)|none=>0]
def NG(n:Nd)(h:List (List Bool))(j:Nat):Bool:=
 (n.kids.zipIdx.any fun p=>(h.getD p.1.toNat []).getD j false&&(!decide (n.op=31) || !decide ((j:Int)=n.imm)||decide ((p.2:Int)<(n.kids.length:Int).tdiv 2)))||(decide (n.op=3)&&decide ((j:Int)=n.imm.tdiv 16))
def vY(l:List Nd):Nat->List (List Bool)
 |0=>[]
 |i+1=>vY l i++[(List.range 16).map fun j=>match l[i]? with|some n=>NG n (vY l i) j|none=>false]
theorem uu(l:List Nd):∀i,(zmR l i).length=i
 |0=>rfl
 |i+1=>by rw[zmR,fj,uu l i];rfl
theorem Ic(l:List Nd):∀i,(vY l i).length=i
 |0=>rfl
 |i+1=>by rw[vY,fj,Ic l i];rfl
theorem zY(a b j:Nat):(vX a b).testBit j=(a.testBit j && !b.testBit j):=by
 unfold vX;rw[Nat.testBit_xor,Nat.testBit_and];cases a.testBit j<;>cases b.testBit j<;>rfl
theorem Dg(n:Nd)(h:List Nat)(t:Nat):∀(M:List Int) (j m:Nat),(n1 n h j M m).testBit t=(m.testBit t||(M.zipIdx j).any fun p=>(rO n h p.2 p.1).testBit t)
 |[],j,m=>by simp[n1]
 |k::M,j,m=>by
  rw[n1,Dg n h t M,Nat.testBit_or,Fw,qT,Hg]
structure NdOk (n:Nd) (i:Nat):Prop where
 kids:∀k∈n.kids,0<=k/\k<i
 lv:n.op=3->0<=n.imm/\n.imm<=255
 lp:n.op=31->0<=n.imm/\n.imm<=15/\n.kids.length%2=1/\3<=n.kids.length
theorem zZ(a t:Nat):(2^ a).testBit t=decide (a=t):=Nat.testBit_two_pow
theorem Ie{Z:Type}{a:List Z}{x d:Z}{j:Nat}(h:j<a.length):(a++[x]).getD j d=a.getD j d:=by
 rw[dx,jG h,<-dx]
theorem If{Z:Type}{a:List Z}{x d:Z}{j:Nat}(h:j=a.length):(a++[x]).getD j d=x:=by
 subst h;rw[dx,nK (aB _),oG];rfl
theorem NH{l:List Nd}:∀(i:Nat),i<=l.length->(∀j n,j<i->l[j]?=some n->NdOk n j)->∀j,j<i->∀t,((zmR l i).getD j 0).testBit t=(decide (t<16)&&((vY l i).getD j []).getD t false)
 |0,_,_,j,h,_=>by omega
 |i+1,hi,hok,j,hj,t=>by
  have ih:=NH i ac (fun j n h1 O=>hok j n ac O);rw[zmR,vY];by_cases e:j<i
  .rw[Ie (by rw[uu];exact e),Ie (by rw[Ic];exact e)];exact ih j e t
  .obtain rfl:j=i:=by omega
   rw[If (uu l j).symm,If (Ic l j).symm];obtain⟨n,J⟩:∃n,l[j]?=some n:=⟨l[j],aT ac⟩;have ok:=hok j n (cE _) J;rw[J];simp only;by_cases c:t<16
   .rw[fY c,fq,dx,eS,Fz c];simp only[oH,bI];unfold p9 NG;rw[Dg];have m:(if n.op=3 then 2^ (n.imm.tdiv 16).toNat else 0).testBit t=(decide (n.op=3)&&decide ((t:Int)=n.imm.tdiv 16)):=by
     by_cases o:n.op=3
     .have:=ok.lv o;rw[am o,zZ,fY o,fq,zT];have I:0<=n.imm.tdiv 16:=Int.tdiv_nonneg this.1 ac;omega
     .rw[af o,iH o];simp
    rw[m,Bool.or_comm]
    congr 1
    rw[BI,Da,Da];have M:∀p∈n.kids.zipIdx,(rO n (zmR l j) p.2 p.1).testBit t=(((vY l j).getD p.1.toNat []).getD t false&&(!decide (n.op=31) || !decide ((t:Int)=n.imm)||decide ((p.2:Int)<(n.kids.length:Int).tdiv 2))):=fun p hp=>by
     have V:p.1∈n.kids:=Nm hp;have z:=ok.kids _ V;have C:=ih p.1.toNat ac t;rw[fY c,fq]at C;unfold rO;by_cases Z:n.op=31
     .obtain⟨i0,K,ho,h3⟩:=ok.lp Z;have e2:eC n.kids.length=((n.kids.length/2:Nat):Int):=zG;have e3:(n.kids.length:Int).tdiv 2=((n.kids.length/2:Nat):Int):=rfl;rw[e3,fY Z];by_cases Y:eC n.kids.length<=p.2
      .rw[am ⟨Z,Y⟩,zY,C,zZ];have U:decide ((p.2:Int)<((n.kids.length/2:Nat):Int))=false:=iH ac;have e5:decide (n.imm.toNat=t)=decide ((t:Int)=n.imm):=by rw[zT];omega
       rw[U,e5];simp
      .rw[af (fun h=>Y h.2),C];have U:decide ((p.2:Int)<((n.kids.length/2:Nat):Int))=true:=fY ac;rw[U];simp
     .rw[af (fun h=>Z h.1),C,iH Z];simp
    constructor
    .rintro⟨p,hp,h⟩;exact⟨p,hp,by rw[<-M p hp];exact h⟩
    .rintro⟨p,hp,h⟩;exact⟨p,hp,by rw[M p hp];exact h⟩
   .rw[iH c,gy];unfold p9;rw[Dg];have m:(if n.op=3 then 2^ (n.imm.tdiv 16).toNat else 0).testBit t=false:=by
     by_cases o:n.op=3
     .have:=ok.lv o;rw[am o,zZ];refine iH ?_;have I:n.imm.tdiv 16<16:=by rw[te this.1];omega
      omega
     .rw[af o];simp
    rw[m,gm,sI];intro p hp;have V:p.1∈n.kids:=Nm hp;have z:=ok.kids _ V;have C:=ih p.1.toNat ac t;rw[iH c,gy]at C;unfold rO;split
    .rw[zY,C];simp
    .rw[C];simp
end Go.Ab
namespace Go.Proofs.YtpbcimfiofmoeaaGreat
set_option maxRecDepth 20000
open Go Go.Ab
section
def tyV2.tyF:=ad @ec (ad @cJ (ad @dd (ad @kW (ad @gX (ad @gY (ad @xd (ad @xe (ad @vC (ad @qM (ad @jw (ad @zb9 (ad @qK (@vx)))))))))))))
open tyV2
noncomputable def NI:{c:SC // aC 59 (Tryz.f78.body.getD .skip)=c}:=by
 refine⟨?_,?_⟩;rotate_left
 .simp only[Tryz.f78,bI,aC,zll,zle,zlp,zln,Nat.blt,Nat.ble];rfl
noncomputable def xH:{c:SC // aC 47 (Tryz.f76.body.getD .skip)=c}:=by
 refine⟨?_,?_⟩;rotate_left
 .simp only[Tryz.f76,bI,aC,zll,zle,zlp,zln,Nat.blt,Nat.ble];rfl
def qc:List Nd->List Int->Option (List Int)
 |[],t=>some t
 |n::l,t=>if n.op=31 then (if 0<t.getD n.imm.toNat 0 then none else qc l (t.set n.imm.toNat (eC n.kids.length)))else qc l t
def qd(t:List Int)(n:Nd):Bool:=decide (n.op=3)&&decide (0<t.getD (n.imm.tdiv 16).toNat 0)&&decide (t.getD (n.imm.tdiv 16).toNat 0<=n.imm.tmod 16)
def znS(l:List Nd):Bool:=match qc l (List.replicate 16 0)with
 |none=>false
 |some t=>l.all fun n=>!qd t n
def z6(n:Nd):Prop:=(n.op=31->0<=n.imm/\n.imm<=15)/\(n.op=3->0<=n.imm/\n.imm<=255)
theorem zez(H:Hp):zlV Tryz.prog 181=some ((List.replicate 16 (0:Int)).map (.int .i64)):=aj
theorem NJ{r m:Nat}(V:m<16):zlO Tryz.prog 181 (.ptr r 0) (.int .i64 (m:Int))=some (.ptr r m):=by
 have e:zlO Tryz.prog 181 (.ptr r 0) (.int .i64 (Int.ofNat m))=if m<16 then some (.ptr r (0+m*1))else none:=rfl
 rw[show((m:Nat):Int)=Int.ofNat m from rfl,e,am V];simp
theorem NK{H:Hp}{r imm m:Nat}{t:List Int}(K:H.get r=some (.cells (t.map (.int .i64)) imm true))(V:m<t.length):iN Tryz.prog H 3 (.ptr r m)=some (.int .i64 (t.getD m 0)):=by
 rw[ub Tryz.underlying3 rfl K,eS,dx,aT V];rfl
theorem zeA{H:Hp}{r m:Nat}{t:List Int}(K:H.get r=some (.cells (t.map (.int .i64)) 0 true))(V:m<t.length)(n:Int):lS Tryz.prog H 3 (.ptr r m) (.int .i64 n)=some (H.set r (.cells ((t.set m n).map (.int .i64)) 0 true)):=by
 rw[zO K (by rw[cp];exact V),qL]
set_option maxRecDepth 100000 in
theorem zn5(ρ:Nat->Int)(l:List Nd)(hl:oZ l)(hn:∀n∈l,z6 n):bM Tryz.prog ρ 78 [lc l] (.bool (znS l)):=zmy fit (pls:=pls) (l:=[rN]) ⟨C9 ρ,trivial⟩ (.cons (zV _) .nil) (.bool _) (by
 obtain⟨hl1,hl2⟩:=hl;have hw:Plain (zkY pls [rN]) 78:=zml (fun _=>rfl) rfl;have q16:(16:Int)≠0:=aE;refine zlf (M:=59) (rs:=[.tmp 2]) (hw.call _) hw.ice hw.froz Tryz.func78 rfl rfl NI.2 rfl ?_;dsimp only[NI,zD,Nat.reduceAdd];have gh0:=@zez;repeat' (first
  |(apply ah ?_;clear hK K)|apply Rx.o ?_|apply ak ?_|(apply zkU fun K hK=>?_)|apply aG ?_|fail)
 refine zlL [0,3,8,9] [] 10 l.length (fun i E H=>∃t:List Int,t.length=16/\H.get 0=some (.cells (t.map (.int .i64)) 0 true)/\qc l (List.replicate 16 0)=qc (l.drop i) t) eE ⟨List.replicate 16 0,ax,td,ax⟩ ?_;rintro i E H2 hi hcE hrH J hsI ⟨t,ht,U,z⟩;(try simp only[zlm,zlb,aR,zk1,zk7,Nat.reduceBEq, *]at hcE);(try simp only[zlb,zk7, *]at hrH);(try simp only[zk9,zlI,bL]at J);have hB0:(0 == H2.next)=false:=zkV ac;have hC0:(H2.next == 0)=false:=zkV ac;have hn2:1<=H2.next:=J
 by_cases I:i<l.length
 .have hlt':(i:Int)<l.length:=by omega
  have hgx:l[i]?=some l[i]:=aT I;have hok:=hn _ (cR I);have hnk:=hl2 _ (cR I);have O:qc (l.drop i) t=if l[i].op=31 then (if 0<t.getD l[i].imm.toNat 0 then none else qc (l.drop (i+1)) (t.set l[i].imm.toNat (eC l[i].kids.length)))else qc (l.drop (i+1)) t:=by rw[fS I,qc]
  generalize l[i]=n at *;have e0:(0 == H2.next)=false:=zkV ac;by_cases h31:n.op=31
  .obtain⟨m0,zlH⟩:=hok.1 h31;obtain⟨m,hm⟩:=l7 m0;have Y:m<16:=ac;rw[am h31,hm,ja]at O;have hix:=NJ (r:=0) Y;have hgA:∀b,(H2.alloc b).get 0=some (.cells (t.map (.int .i64)) 0 true):=fun b=>by rw[zkZ,af ac];exact U
   have V:∀b c,((H2.alloc b).set H2.next c).get 0=some (.cells (t.map (.int .i64)) 0 true):=fun b c=>by rw[aJ,af ac];exact hgA b
   have hld:=fun b c=>NK (V b c) (m:=m) ac;generalize t.getD m 0=x at *;repeat' (first
    |(apply ah ?_;clear hK K)|apply Ry.o ?_|apply dG ?_|(apply d7 ?_;first|refine zlc (xB (fun _=>rfl) _ ac _) ?_)|(apply bb (fun C Z=>?_) (fun C Z=>?_)<;>try(cases C;done))|apply ak ?_|(apply zkU fun K hK=>?_)|(apply zmm 8 [(1,5),(1,7),(3,5),(4,5)] fun K hK=>?_)|(apply zlC ?_;try intro _)|apply bZ ?_|apply zmK rfl ?_|apply aG ?_|apply zk3 ?_|apply aF ?_|fail)
   .all_goals (refine⟨eI,_,eR,?_⟩;try simp only[zkX])
    rw[am jF]at O;rw[znS,z,O]
   .refine oN eV eV (zeA (V _ _) ac _) ?_;repeat' (first
     |(apply ah ?_;clear hK K)|apply Rx.o ?_|(apply zkU fun K hK=>?_)|(apply zlC ?_;try intro _)|(apply zmk ?_ ?_<;>clear hK K)|fail)
    .exact zlU
    .refine⟨ac,zk8,zk8,zlF,rL,?_⟩;exact⟨t.set m (eC n.kids.length),by rw[jd];exact ht,gQ,by rw[z,O,af jF]⟩
  .rw[af h31]at O;repeat' (first
    |(apply ah ?_;clear hK K)|apply Ry.o ?_|apply dG ?_|(apply bb (fun C Z=>?_) (fun C Z=>?_)<;>try(cases C;done))|apply ak ?_|(apply zkU fun K hK=>?_)|apply aG ?_|apply zk3 ?_|apply zlu ?_)
   refine⟨ac,zk8,zk8,zlF,rL,?_⟩;exact⟨t,ht,by rw[aJ,af ac,zkZ,af ac];exact U,by rw[z,O]⟩
 .have hlt':¬(i:Int)<l.length:=by omega
  repeat' (first
   |(apply ah ?_;clear hK K)|apply Ry.o ?_|(apply bb (fun C Z=>?_) (fun C Z=>?_)<;>try(cases C;done))|apply ak ?_|(apply zkU fun K hK=>?_)|apply aG ?_|apply zlu ?_)
  have hie:l.drop i=[]:=rb ac;rw[hie,qc]at z;have hvl:znS l=l.all fun n=>!qd t n:=by rw[znS,z]
  rw[hvl];clear hie z hvl;refine zlL [3,30,31] [] 32 l.length (fun i E H=>H.get 0=some (.cells (t.map (.int .i64)) 0 true)/\(l.all fun n=>!qd t n)=(l.drop i).all fun n=>!qd t n) eE ⟨U,ax⟩ ?_;rintro j E3 H3 hj hcE hrH J hsI ⟨hg3,z⟩;(try simp only[zlm,zlb,aR,zk1,zk7,Nat.reduceBEq, *]at hcE);(try simp only[zlb, *]at hrH);(try simp only[zk9,zli,zlI,bL,Nat.reduceAdd]at J);have hB0:(0 == H3.next)=false:=zkV ac;have hC0:(H3.next == 0)=false:=zkV ac;have hn3:1<=H3.next:=ac
  by_cases hjt:j<l.length
  .have hjt':(j:Int)<l.length:=by omega
   have hgx:l[j]?=some l[j]:=aT hjt;have hok:=hn _ (cR hjt);have O:((l.drop j).all fun n=>!qd t n)=(!qd t l[j]&&(l.drop (j+1)).all fun n=>!qd t n):=by rw[fS hjt,nY]
   generalize l[j]=n at *;have e0:(0 == H3.next)=false:=zkV ac;by_cases h3:n.op=3
   .obtain⟨m0,zlH⟩:=hok.2 h3;have hd:n.imm.tdiv 16=n.imm/16:=te m0;have hd0:0<=n.imm.tdiv 16:=by rw[hd];omega
    obtain⟨m,hm⟩:=l7 hd0;have Y:m<16:=ac;have o:qd t n=(decide (0<t.getD m 0)&&decide (t.getD m 0<=n.imm.tmod 16)):=by rw[qd,hm,h3,ja];rfl
    have ew:IntKind.wrap .i64 (n.imm.tdiv 16)=m:=by rw[hm];exact znj ac ac
    have hix:=NJ (r:=0) Y;have V:∀b c,((H3.alloc b).set H3.next c).get 0=some (.cells (t.map (.int .i64)) 0 true):=fun b c=>Nk;have hld:=fun b c=>NK (V b c) (m:=m) ac;generalize t.getD m 0=x at *;clear hd hm;repeat' (first
     |(apply ah ?_;clear hK K)|apply Ry.o ?_|apply dG ?_|(apply bb (fun C Z=>?_) (fun C Z=>?_)<;>try(cases C;done))|apply ak ?_|(apply zkU fun K hK=>?_)|(apply zmm 13 [(1,22),(5,22),(8,22),(13,22),(16,22),(19,22)] fun K hK=>?_)|(apply zlC ?_;try intro _)|(apply zmk ?_ ?_<;>clear hK K)|apply bZ ?_|(apply xj (fun U hgp=>?_) (fun U hgp=>?_)<;>try(cases U;done))|apply aG ?_|apply zk3 ?_|apply aF ?_|fail)
    all_goals first
     |exact zlU
     |(refine⟨eI,_,qQ,?_⟩
       simp only[zkX];rw[z,O,o];simp_all;done)
     |skip
    all_goals
     refine⟨ac,zk8,zk8,zlF,rL,?_⟩;exact⟨V _ _,by rw[z,O,o];simp_all⟩
   .have o:qd t n=false:=by rw[qd,iH h3];rfl
    repeat' (first
     |(apply ah ?_;clear hK K)|apply Ry.o ?_|apply dG ?_|(apply bb (fun C Z=>?_) (fun C Z=>?_)<;>try(cases C;done))|apply ak ?_|(apply zkU fun K hK=>?_)|(apply zmm 13 [(1,22),(5,22),(8,22),(13,22),(16,22),(19,22)] fun K hK=>?_)|(apply zlC ?_;try intro _)|(apply zmk ?_ ?_<;>clear hK K)|apply bZ ?_|(apply xj (fun U hgp=>?_) (fun U hgp=>?_)<;>try(cases U;done))|apply aG ?_|apply zk3 ?_|fail)
    all_goals first
     |exact zlU
     |skip
    refine⟨ac,zk8,zk8,zlF,rL,?_⟩;exact⟨Nk,by rw[z,O,o];rfl⟩
  .have hjt':¬(j:Int)<l.length:=by omega
   repeat' (first
    |(apply ah ?_;clear hK K)|apply Ry.o ?_|(apply bb (fun C Z=>?_) (fun C Z=>?_)<;>try(cases C;done))|apply ak ?_|(apply zkU fun K hK=>?_)|apply aF ?_|apply zlu ?_)
   all_goals (refine⟨eI,_,eR,?_⟩;try simp only[zkX])
   rw[z,rb ac];rfl)
end
section
def tyV3.tyF:=ad @ec (ad @cJ (ad @dd (ad @kW (ad @gX (ad @gY (ad @xd (ad @xe (ad @vC (ad @qM (@jw))))))))))
open tyV3
structure VrX where
 u:Un
 g:Gr
 n:Nd
def vZ(x:VrX):List AV:=[.agg x.u.cells,.agg x.g.cells,.agg x.n.cells]
theorem zAc(x y:VrX)(h:vZ x=vZ y):x=y:=by
 obtain⟨a,b,c⟩:=x;obtain⟨Z,b',Y⟩:=y;simp only[vZ,ea,AV.agg.injEq,aR]at h;rw[Un.inj h.1,Gr.inj h.2.1,xm h.2.2]
def o0(u:Un)(g:Gr)(n:Nd):Bool:=
 if n.op=2 then decide (n.imm<g.params)
 else if n.op=23\/n.op=28 then decide (n.imm<u.arrays.length)
 else if n.op=30 then decide (n.imm<u.funcs.length)&&decide ((n.kids.length:Int)-1=(u.funcs.map Gr.params).getD n.imm.toNat 0)
 else true
def Ig(x:VrX):Prop:=(x.n.op=30->0<=x.n.imm)/\x.n.kids.length<2^30/\x.u.arrays.length<2^30/\x.u.funcs.length<2^30
theorem zm8(ρ:Nat->Int)(x:VrX)(hx:Ig x):bM Tryz.prog ρ 76 (vZ x) (.bool (o0 x.u x.g x.n)):=zmy fit (pls:=pls) (l:=[]) trivial (.cons (.agg (Un.pure _)) (.cons (.agg (Gr.pure _)) (.cons (.agg (Nd.pure _)) .nil))) (.bool _) (by
 obtain⟨u,g,n⟩:=x;obtain⟨z,hk,ha,hf⟩:=hx;have O:=zmQ 76;rw[vZ];simp only[]at z hk ha hf⊢;by_cases J:n.op=30
 .have h0:=z J;obtain⟨m,hm⟩:=l7 h0;have e1:IntKind.wrap .i64 ((n.kids.length:Int)-1)=(n.kids.length:Int)-1:=znj ac ac;have hr:o0 u g n=(decide ((m:Int)<u.funcs.length)&&decide ((n.kids.length:Int)-1=(u.funcs.map Gr.params).getD m 0)):=by
   rw[o0,af ac,af ac,am J,hm,ja]
  by_cases I:m<u.funcs.length
  .have Z:(m:Int)<u.funcs.length:=by omega
   have o:u.funcs[m]?=some u.funcs[m]:=aT I;have Y:(u.funcs.map Gr.params).getD m 0=u.funcs[m].params:=by rw[dx,eS,o];rfl
   rw[Y]at hr;clear Y;generalize u.funcs[m]=q at *;refine zlf (M:=47) (rs:=[.tmp 6]) (O.call _) O.ice O.froz Tryz.func76 rfl rfl xH.2 rfl ?_;dsimp only[xH,zD,Nat.reduceAdd];repeat' (first
    |(apply ah ?_;clear hK K)|apply Ry.o ?_|(apply bb (fun C j=>?_) (fun C j=>?_)<;>try(cases C;done))|apply ak ?_|(apply zkU fun K hK=>?_)|(apply zmm 8 [(1,21),(3,21),(4,21),(8,21),(9,21),(12,21),(14,21),(17,21)] fun K hK=>?_)|(apply zlC ?_;try intro _)|(apply zmk ?_ ?_<;>clear hK K)|apply bZ ?_|(apply xj (fun U V=>?_) (fun U V=>?_)<;>try(cases U;done))|apply aG ?_|apply aF ?_)
   all_goals first
    |exact zlU
    |(refine⟨eI,_,qQ,?_⟩
      simp only[zkX];rw[hr];simp_all;done)
  .have Z:¬(m:Int)<u.funcs.length:=by omega
   refine zlf (M:=47) (rs:=[.tmp 6]) (O.call _) O.ice O.froz Tryz.func76 rfl rfl xH.2 rfl ?_;dsimp only[xH,zD,Nat.reduceAdd];repeat' (first
    |(apply ah ?_;clear hK K)|apply Ry.o ?_|(apply bb (fun C j=>?_) (fun C j=>?_)<;>try(cases C;done))|apply ak ?_|(apply zkU fun K hK=>?_)|(apply zmm 8 [(1,21),(3,21),(4,21),(8,21),(9,21),(12,21),(14,21),(17,21)] fun K hK=>?_)|(apply zlC ?_;try intro _)|(apply zmk ?_ ?_<;>clear hK K)|apply bZ ?_|(apply xj (fun U V=>?_) (fun U V=>?_)<;>try(cases U;done))|apply aG ?_|apply aF ?_)
   all_goals first
    |exact zlU
    |(refine⟨eI,_,qQ,?_⟩
      simp only[zkX];rw[hr,iH Z];rfl)
 .refine zlf (M:=47) (rs:=[.tmp 6]) (O.call _) O.ice O.froz Tryz.func76 rfl rfl xH.2 rfl ?_;dsimp only[xH,zD,Nat.reduceAdd];repeat' (first
   |(apply ah ?_;clear hK K)|apply Ry.o ?_|(apply bb (fun C j=>?_) (fun C j=>?_)<;>try(cases C;done))|apply ak ?_|(apply zkU fun K hK=>?_)|apply aG ?_|apply zk3 ?_|apply aF ?_)
  all_goals first
   |exact zlU
   |(refine⟨eI,_,qQ,?_⟩
     simp only[zkX];simp_all[o0];done))
end
section
def tyV4.tyF:=ad @ec (ad @cJ (ad @kW (ad @gX (ad @qM (ad @LY (ad @L2 (ad @GQ (ad @zzC (@qK)))))))))
open tyV4
noncomputable def NL:{c:SC // aC 81 (Tryz.f79.body.getD .skip)=c}:=by
 refine⟨?_,?_⟩;rotate_left
 .simp only[Tryz.f79,bI,aC,zll,zle,zlp,zln,Nat.blt,Nat.ble];rfl
theorem Ih{m:Nat}(h:m<2^32):IntKind.wrap .u32 (m:Int)=m:=by
 exact IntWalk.u32_in _ ac
theorem Dh{a:Nat}(h:a<2^32):(BitVec.ofInt 32 (a:Int)).toNat=a:=by
 rw[BitVec.ofInt_natCast,BitVec.toNat_ofNat,Nat.mod_eq_of_lt h]
theorem NM{a b:Nat}(O:a<2^32)(C:b<2^32):IntKind.wrap .u32 (((BitVec.ofInt (IntKind.bits .u32) (a:Int) |||BitVec.ofInt (IntKind.bits .u32) (b:Int)).toNat:Nat):Int)=((a |||b:Nat):Int):=by
 have e:IntKind.bits .u32=32:=rfl;rw[e,BitVec.toNat_or,Dh O,Dh C];exact Ih (Db O C)
theorem zqJ{a b:Nat}(O:a<2^32)(C:b<2^32):IntKind.wrap .u32 (((BitVec.ofInt (IntKind.bits .u32) (a:Int) &&& ~~~ BitVec.ofInt (IntKind.bits .u32) (b:Int)).toNat:Nat):Int)=((vX a b:Nat):Int):=by
 have e:IntKind.bits .u32=32:=rfl;have h:(BitVec.ofInt 32 (a:Int) &&& ~~~ BitVec.ofInt 32 (b:Int)).toNat=vX a b:=by
  apply Nat.eq_of_testBit_eq;intro j;rw[zY];rw[HT,BitVec.getLsbD_and,BitVec.getLsbD_not,<-HT,<-HT,Dh O,Dh C];by_cases o:j<32
  .simp[o]
  .have:a.testBit j=false:=Nat.testBit_lt_two_pow (mB O (Nat.pow_le_pow_right ac ac));simp[this]
 rw[e,h];refine Ih ?_;rw[<-h];exact(BitVec.ofInt 32 (a:Int) &&& ~~~ BitVec.ofInt 32 (b:Int)).isLt
theorem NN{a b:Nat}(O:a<2^32):vX a b<2^32:=by
 apply Nn;intro j o;rw[zY];have:a.testBit j=false:=Nat.testBit_lt_two_pow (mB O (Nat.pow_le_pow_right ac o));simp[this]
def jA(h:List Nat):List AV:=h.map fun(m:Nat)=>AV.int .u32 (m:Int)
def Di(h:List Nat):AV:=.lst (h.map fun(m:Nat)=>[AV.int .u32 (m:Int)])
theorem Ii(h:List Nat):(jA h).length=h.length:=cp _
theorem NO{D:BinOp->Sx->Sx->Option Bool}{t:TypeId}{C:IntKind}{m:Nat}(h:m<32):zmt Tryz.prog D .shl t (.int .u32 1) (.int C (m:Int))=some (.int .u32 ((2^ m:Nat):Int)):=by
 have e:zmt Tryz.prog D .shl t (.int .u32 1) (.int C (Int.ofNat m))=some (.int .u32 (IntKind.wrap .u32 (1*2^ min m 32))):=rfl;rw[show((m:Nat):Int)=Int.ofNat m from rfl,e,show min m 32=m by omega];have:(1:Int)*2^ m=((2^ m:Nat):Int):=by push_cast;omega
 rw[this,Ih (HU ac h)]
theorem zoW{D:BinOp->Sx->Sx->Option Bool}{t:TypeId}{k:IntKind}{a b:Int}:zmt Tryz.prog D .andNot t (.int k a) (.int k b)=some (.int k (k.wrap (BitVec.ofInt k.bits a &&& ~~~ BitVec.ofInt k.bits b).toNat)):=qH
theorem zeG(n:Nat):mw [.int .u32 0] n=jA (List.replicate n 0):=by
 induction n with
 |zero=>rfl
 |succ n ih=>simp only[mw,ih];simp[jA,Hh]
theorem zeH{H:Hp}(n:Nat)(z:n<2^40):znz Tryz.prog H 129 (.int .i64 n) (.int .i64 n)=some (.sl H.next 0 n 1,H.alloc (.cells (jA (List.replicate n 0)) 0 true)):=by
 have V:zmr=70368744177664:=rfl;show znz Tryz.prog H 129 (.int .i64 (Int.ofNat n)) (.int .i64 (Int.ofNat n))=_;simp only[znz,Tryz.underlying129,CA,LZ,L0];rw[am ⟨aB _,qS,qS,rfl⟩,zeG]
theorem NP{r n m:Nat}(V:m<n):zlO Tryz.prog 129 (.sl r 0 n 1) (.int .i64 (m:Int))=some (.ptr r m):=by rw[vy Tryz.underlying129 CA V];simp
theorem NQ{H:Hp}{r imm m:Nat}{h:List Nat}(K:H.get r=some (.cells (jA h) imm true))(V:m<h.length):iN Tryz.prog H 131 (.ptr r m)=some (.int .u32 ((h.getD m 0:Nat):Int)):=by
 rw[ub Tryz.underlying131 rfl K,jA,eS,dx,aT V];rfl
theorem Dj{H:Hp}{r m:Nat}{h:List Nat}(K:H.get r=some (.cells (jA h) 0 true))(V:m<h.length)(x:Nat):lS Tryz.prog H 131 (.ptr r m) (.int .u32 (x:Int))=some (H.set r (.cells (jA (h.set m x)) 0 true)):=by
 have J:m<(jA h).length:=by rw[Ii];exact V
 rw[Cn,K,CA,Cm,Ab.cells_int,splice_one _ J,am ⟨rfl,dm _,J,rfl⟩];simp[jA,qL]
theorem NR(H:Hp)(n:Nat):∀h:List Nat,iceL (iceV H (n+1)) (jA h)=some (jA h)
 |[]=>rfl
 |a::l=>by
  have:=NR H n l;have e:iceV H (n+1) (.int .u32 (a:Int))=some (.int .u32 (a:Int)):=rfl;simp only[jA,dM,iceL,e]at this⊢;rw[this]
theorem zAd(h:List Nat):gN 1 h.length (jA h)=h.map fun(m:Nat)=>[AV.int .u32 (m:Int)]:=by
 induction h with
 |nil=>rfl
 |cons a l ih=>simp only[jA,dM,eK,gN,List.take_succ_cons,xF,zC,fH]at ih⊢;rw[ih]
theorem zeJ{H:Hp}{l:List Nd}{r:Nat}(K:H.get r=some (.cells (jA (zmR l l.length++List.replicate 0 0)) 0 true)):iceV H 3 (.sl r 0 l.length 1)=some (Di (zmR l l.length)):=by
 have M:=uu l l.length;rw[List.replicate_zero,bj]at K;generalize zmR l l.length=h at *;have e:iceV H 3 (.sl r 0 l.length 1)=match H.get r with
  |some (.cells z _ _)=>match iceL (iceV H 2) ((z.drop 0).take (l.length*1))with
   |some J=>if J.length=l.length*1 then some (.lst (gN 1 l.length J))else none
   |none=>none
  |_=>none:=rfl
 rw[e,K];simp only[fH,lV];rw[gl (by rw[Ii];omega),NR];simp only[Ii,M,dB];rw[<-M,zAd];rfl
def z7(l:List Nd):Prop:=oZ l/\∀i n,l[i]?=some n->NdOk n i
theorem zvL{l:List Nd}(M:z7 l){i j:Nat}(I:i<=l.length)(o:j<i):(zmR l i).getD j 0<2^16:=by
 apply Nn;intro t Z;rw[NH i I (fun j n _ h=>M.2 j n h) j o t,iH ac];rfl
set_option maxRecDepth 100000 in
theorem znb(ρ:Nat->Int)(l:List Nd)(hl:z7 l):bM Tryz.prog ρ 79 [lc l] (Di (zmR l l.length)):=vH (m:=3) (cfg:=zkY pls [rN]) fit (pP ρ) (fK.look ⟨C9 ρ,trivial⟩) (.cons (zV _) .nil) (by
 have hl1:=hl.1.1;have hw:Plain (zkY pls [rN]) 79:=zml (fun _=>rfl) rfl;have q16:(16:Int)≠0:=aE;have hmk:∀H:Hp,znz Tryz.prog H 129 (.int .i64 l.length) (.int .i64 l.length)=some (.sl H.next 0 l.length 1,H.alloc (.cells (jA (List.replicate l.length 0)) 0 true)):=fun H=>zeH _ ac;refine zlf (M:=81) (rs:=[.tmp 2]) (hw.call _) hw.ice hw.froz Tryz.func79 rfl rfl NL.2 rfl ?_;dsimp only[NL,zD,Nat.reduceAdd];repeat' (first
  |(apply ah ?_;clear hK K)|apply Rx.o ?_|apply ak ?_|(apply zkU fun K hK=>?_)|apply aG ?_|fail)
 refine zlL [2,3,12,13] [] 14 l.length (fun i E H=>H.get 0=some (.cells (jA (zmR l i++List.replicate (l.length-i) 0)) 0 true)) eE (by rw[zkZ,am dT];simp[zmR]) ?_;rintro i E J hi hcE hrH hnH hsI o;(try simp only[zlm,zlb,aR,zk1,zk7,Nat.reduceBEq, *]at hcE);(try simp only[zlb,zk7, *]at hrH);(try simp only[zk9,zlI,bL]at hnH);have hB0:(0 == J.next)=false:=zkV ac;have hC0:(J.next == 0)=false:=zkV ac;have hn2:1<=J.next:=hnH
 by_cases hlt:i<l.length
 .have hlt':(i:Int)<l.length:=by omega
  have hgx:l[i]?=some l[i]:=aT hlt;have hok:=hl.2 i _ hgx;have hnk:=hl.1.2 _ (cR hlt);have hms:zmR l (i+1)=zmR l i++[p9 l[i] (zmR l i)]:=by rw[zmR,hgx]
  have hmlt:∀j,j<i->(zmR l i).getD j 0<2^16:=fun j hj=>zvL hl ac hj;have hml:=uu l i;generalize l[i]=n at *;generalize zmR l i=h at *;have hrep:List.replicate (l.length-i) (0:Nat)=0::List.replicate (l.length-(i+1)) 0:=Nh;rw[hrep]at o;have hzl:(h++0::List.replicate (l.length-(i+1)) (0:Nat)).length=l.length:=b9;generalize List.replicate (l.length-(i+1)) (0:Nat)=z at *;have e0:(0 == J.next)=false:=zkV ac;have hgA:∀b c,((J.alloc b).set J.next c).get 0=some (.cells (jA (h++0::z)) 0 true):=fun b c=>by rw[aJ,af ac,zkZ,af ac];exact o
  have hix:zlO Tryz.prog 129 (.sl 0 0 l.length 1) (.int .i64 (i:Int))=some (.ptr 0 i):=NP hlt;repeat' (first
   |(apply ah ?_;clear hK K)|apply Ry.o ?_|apply ak ?_|(apply zkU fun K hK=>?_)|fail)
  (apply a0 (fun C Z=>?_) (fun C Z=>?_)<;>try(cases C;done));repeat' (first
   |(apply ah ?_;clear hK K)|apply Rx.o ?_|apply bS ?_|apply ak ?_|(apply zkU fun K hK=>?_)|apply aG ?_|apply zk3 ?_|fail)
  generalize hHb:Hp.set (J.alloc _) _ _=Hb;have nb:J.next+1<=Hb.next:=by rw[<-hHb];exact aB _
  have gb:Hb.get 0=some (.cells (jA (h++0::z)) 0 true):=by rw[<-hHb];exact hgA _ _
  have g5:Hb.get J.next=some (.cells n.cells 0 true):=HM
  clear hHb hgA;have hset:∀x:Nat,(h++0::z).set i x=h++x::z:=fun x=>Nl;refine HZ (fun E' H'=>E'.at 2=.nilS/\E'.at 3=.sl 0 0 l.length 1/\E'.at 4=.int .i64 i/\E'.at 5=.ptr J.next 0/\E'.at 12=lc l/\E'.at 13=.int .i64 l.length/\E'.at 14=.int .i64 i/\H'.get 0=some (.cells (jA (h++(if n.op=3 then 2^ (n.imm.tdiv 16).toNat else 0)::z)) 0 true)/\H'.get J.next=some (.cells n.cells 0 true)/\J.next+1<=H'.next) ?_ ?_
  .by_cases h3:n.op=3
   .obtain⟨m0,zlH⟩:=hok.lv h3;have hd:n.imm.tdiv 16=n.imm/16:=te m0;have hd0:0<=n.imm.tdiv 16:=by rw[hd];omega
    obtain⟨m,hm⟩:=l7 hd0;have hm16:m<16:=ac;rw[am h3,hm,ja];have ew:IntKind.wrap .i64 (n.imm.tdiv 16)=m:=by rw[hm];exact znj ac ac
    have ew2:IntKind.wrap .u64 (m:Int)=m:=IntWalk.u64_in _ ac;have hsh:∀(D:BinOp->Sx->Sx->Option Bool) (t:TypeId),zmt Tryz.prog D .shl t (.int .u32 1) (.int .u64 (m:Int))=some (.int .u32 ((2^ m:Nat):Int)):=fun D t=>NO ac;clear hd hm hd0;repeat' (first
     |apply Ry.o ?_|(apply bb (fun C Z=>?_) (fun C Z=>?_)<;>try(cases C;done))|(apply zkU fun K hK=>?_)|fail)
    refine oN eV eV (Dj gb ac _) ?_;repeat' (first
     |(apply ah ?_;clear hK K)|fail)
    exact⟨rfl,eE,eE,eE,eE,eE,eE,eE,by rw[aJ,am rfl,hset],by rw[aJ,af ac];exact g5,nb⟩
   .rw[af h3];repeat' (first
     |(apply bb (fun C Z=>?_) (fun C Z=>?_)<;>try(cases C;done))|apply zk3 ?_|fail)
    exact⟨rfl,eE,eE,eE,eE,eE,eE,eE,gb,g5,nb⟩
  clear gb g5 nb;rintro E3 H3 ⟨k2,k3,k4,k5,k12,k13,k14,g30,g35,n3⟩;dsimp only[lF];repeat' (first
   |(apply ah ?_;clear hK K)|apply Rx.o ?_|apply ak ?_|(apply zkU fun K hK=>?_)|fail)
  refine HZ (fun E' H'=>E'.at 2=.nilS/\E'.at 3=.sl 0 0 l.length 1/\E'.at 4=.int .i64 i/\E'.at 5=.ptr J.next 0/\E'.at 12=lc l/\E'.at 13=.int .i64 l.length/\E'.at 14=.int .i64 i/\(n.op=31->E'.at 6=.int .u32 ((2^ n.imm.toNat:Nat):Int))/\H'=H3) ?_ ?_
  .by_cases Y:n.op=31
   .obtain⟨m0,zlH,_⟩:=hok.lp Y;obtain⟨m,hm⟩:=l7 m0;have ew2:IntKind.wrap .u64 (m:Int)=m:=IntWalk.u64_in _ ac;have hsh:∀(D:BinOp->Sx->Sx->Option Bool) (t:TypeId),zmt Tryz.prog D .shl t (.int .u32 1) (.int .u64 (m:Int))=some (.int .u32 ((2^ m:Nat):Int)):=fun D t=>NO ac;rw[hm,ja];repeat' (first
     |(apply ah ?_;clear hK K)|apply Ry.o ?_|(apply bb (fun C Z=>?_) (fun C Z=>?_)<;>try(cases C;done))|(apply zkU fun K hK=>?_)|fail)
    exact⟨rfl,eE,eE,eE,eE,eE,eE,eE,fun _=>eE,rfl⟩
   .repeat' (first
     |(apply bb (fun C Z=>?_) (fun C Z=>?_)<;>try(cases C;done))|apply zk3 ?_|fail)
    exact⟨rfl,eE,eE,eE,eE,eE,eE,eE,fun h=>absurd h Y,rfl⟩
  clear k2 k3 k4 k5 k12 k13 k14 E3;rintro E3 _ ⟨k2,k3,k4,k5,k12,k13,k14,k6,rfl⟩;dsimp only[lF];repeat' (first
   |(apply ah ?_;clear hK K)|apply Rx.o ?_|apply ak ?_|(apply zkU fun K hK=>?_)|apply aG ?_|fail)
  have hmm:p9 n h=n1 n h 0 n.kids (if n.op=3 then 2^ (n.imm.tdiv 16).toNat else 0):=rfl;have hcur0:(if n.op=3 then 2^ (n.imm.tdiv 16).toNat else 0:Nat)<2^32:=by
   by_cases h3:n.op=3
   .rw[am h3];obtain⟨m0,zlH⟩:=hok.lv h3;have hd:n.imm.tdiv 16=n.imm/16:=te m0;exact HU ac ac
   .rw[af h3];decide
  generalize (if n.op=3 then 2^ (n.imm.tdiv 16).toNat else 0:Nat)=cur0 at *;refine zlL [2,3,4,5,6,12,13,14,38,39] [] 40 n.kids.length (fun j E H=>∃I,H.get 0=some (.cells (jA (h++I::z)) 0 true)/\H.get J.next=some (.cells n.cells 0 true)/\I<2^32/\p9 n h=n1 n h j (n.kids.drop j) I) eE ⟨cur0,g30,g35,hcur0,by rw[hmm,fH]⟩ ?_;clear g30 g35 hcur0 hmm;rintro j E4 H4 hj hcE hrH hnH hsI ⟨I,g40,g45,U,hJ⟩;(try simp only[zlm,zlb,aR,zk1,zk7,Nat.reduceBEq, *]at hcE);(try simp only[zlb, *]at hrH);(try simp only[zk9,zli,zlI,bL,Nat.reduceAdd]at hnH);by_cases hjt:j<n.kids.length
  .have hjt':(j:Int)<n.kids.length:=by omega
   have hgy:n.kids[j]?=some n.kids[j]:=aT hjt;obtain⟨d0,d1⟩:=hok.kids _ (cR hjt);have O:n1 n h j (n.kids.drop j) I=n1 n h (j+1) (n.kids.drop (j+1)) (I |||rO n h j n.kids[j]):=by rw[fS hjt,n1]
   generalize n.kids[j]=kd at *;obtain⟨d,rfl⟩:=l7 d0;have hdi:d<i:=ac;have hixd:zlO Tryz.prog 129 (.sl 0 0 l.length 1) (.int .i64 (d:Int))=some (.ptr 0 d):=NP ac;have hlc:∀x:Nat,(h++x::z).length=l.length:=fun x=>by rw[<-hzl];simp
   have hldi:=NQ g40 (m:=i) zS;have hldd:=NQ g40 (m:=d) zS;have hgi:(h++I::z).getD i 0=I:=by rw[dx,nK ac,hml,oG];rfl
   have hgd:(h++I::z).getD d 0=h.getD d 0:=by rw[dx,jG ac,<-dx]
   rw[hgi]at hldi;rw[hgd]at hldd;have hdl:=hmlt d hdi;have V:∀x:Nat,(h++I::z).set i x=h++x::z:=fun x=>Nl;have hkd:rO n h j (d:Int)=if n.op=31/\eC n.kids.length<=j then vX (h.getD d 0) (2^ n.imm.toNat)else h.getD d 0:=by rw[rO,ja]
   rw[hkd]at O;generalize h.getD d 0=y at *;have hy:y<2^32:=ac;have e1:=NM U hy;by_cases Y:n.op=31
   .have k6':=k6 Y;obtain⟨m0,zlH,_⟩:=hok.lp Y;have hown:2^ n.imm.toNat<2^32:=HU ac ac;by_cases hlv:eC n.kids.length<=j
    .rw[am ⟨Y,hlv⟩]at O;have e2:=zqJ hy hown;have e3:=NM U (NN (b:=2^ n.imm.toNat) hy);have gh0:=@zoW;repeat' (first
      |(apply ah ?_;clear hK K)|apply Ry.o ?_|(apply d7 ?_;first|refine zlc (xB (fun _=>rfl) _ ac _) ?_)|(apply eA (fun o hgp=>?_) (fun o hgp=>?_)<;>try(cases o;done))|(apply bb (fun C Z=>?_) (fun C Z=>?_)<;>try(cases C;done))|apply ak ?_|(apply zkU fun K hK=>?_)|(apply rK 14 fun K hK=>?_)|apply aG ?_|apply zk3 ?_|fail)
     refine oN eV eV (Dj g40 zS _) ?_;repeat' (first
      |(apply ah ?_;clear hK K)|apply Rx.o ?_|(apply zkU fun K hK=>?_)|fail)
     refine⟨ac,zk8,zk8,zlF,xE,?_⟩;exact⟨_,HN,HR,Db U (NN hy),by rw[hJ,O]⟩
    .rw[af (fun c=>hlv c.2)]at O;repeat' (first
      |(apply ah ?_;clear hK K)|apply Ry.o ?_|(apply d7 ?_;first|refine zlc (xB (fun _=>rfl) _ ac _) ?_)|(apply eA (fun o hgp=>?_) (fun o hgp=>?_)<;>try(cases o;done))|(apply bb (fun C Z=>?_) (fun C Z=>?_)<;>try(cases C;done))|apply ak ?_|(apply zkU fun K hK=>?_)|(apply rK 15 fun K hK=>?_)|apply aG ?_|apply zk3 ?_|fail)
     refine oN eV eV (Dj g40 zS _) ?_;repeat' (first
      |(apply ah ?_;clear hK K)|apply Rx.o ?_|(apply zkU fun K hK=>?_)|fail)
     refine⟨ac,zk8,zk8,zlF,xE,?_⟩;exact⟨_,HN,HR,Db U hy,by rw[hJ,O]⟩
   .rw[af (fun c=>Y c.1)]at O;repeat' (first
     |(apply ah ?_;clear hK K)|apply Ry.o ?_|(apply eA (fun o hgp=>?_) (fun o hgp=>?_)<;>try(cases o;done))|(apply bb (fun C Z=>?_) (fun C Z=>?_)<;>try(cases C;done))|apply ak ?_|(apply zkU fun K hK=>?_)|(apply rK 15 fun K hK=>?_)|apply aG ?_|apply zk3 ?_|fail)
    refine oN eV eV (Dj g40 zS _) ?_;repeat' (first
     |(apply ah ?_;clear hK K)|apply Rx.o ?_|(apply zkU fun K hK=>?_)|fail)
    refine⟨ac,zk8,zk8,zlF,xE,?_⟩;exact⟨_,HN,HR,Db U hy,by rw[hJ,O]⟩
  .have hjt':¬(j:Int)<n.kids.length:=by omega
   have hjd:n.kids.drop j=[]:=rb ac;rw[hjd]at hJ;have hJ2:p9 n h=I:=hJ;repeat' (first
    |(apply ah ?_;clear hK K)|apply Ry.o ?_|(apply bb (fun C Z=>?_) (fun C Z=>?_)<;>try(cases C;done))|apply ak ?_|(apply zkU fun K hK=>?_)|apply zlu ?_)
   refine⟨ac,zk8,zk8,zlF,rL,?_⟩;rw[hms,hJ2,i8];exact g40
 .have hlt':¬(i:Int)<l.length:=by omega
  repeat' (first
   |(apply ah ?_;clear hK K)|apply Ry.o ?_|(apply bb (fun C Z=>?_) (fun C Z=>?_)<;>try(cases C;done))|apply ak ?_|(apply zkU fun K hK=>?_)|apply aF ?_|apply zlu ?_)
  all_goals (refine⟨eI,_,eR,?_⟩;try simp only[zkX])
  have hie:i=l.length:=ac;rw[hie,oG]at o;exact zeJ o)
end
section
def tyR3c.tyF:=ad @ec (ad @cJ (ad @dd (ad @gY (ad @iQ (ad @fI (ad @fx (ad @em (ad @en (ad @zms (ad @iR (ad @jw (ad @eY (ad @M3 (ad @M4 (@M5)))))))))))))))
open tyR3c
noncomputable def NS:{c:SC // aC 50 (Tryz.f103.body.getD .skip)=c}:=by
 refine⟨?_,?_⟩;rotate_left
 .simp only[Tryz.f103,bI,aC,zll,zle,zlp,zln,Nat.blt,Nat.ble];rfl
noncomputable def NT:{c:SC // aC 94 (Tryz.f58.body.getD .skip)=c}:=by
 refine⟨?_,?_⟩;rotate_left
 .simp only[Tryz.f58,bI,aC,zll,zle,zlp,zln,Nat.blt,Nat.ble];rfl
mutual
def nu:St->Bool
 | .mk _ _ _ _ a v M j m=>decide ((20:Int)<zl6 a)||decide ((20:Int)<zl6 v)||zmN j||zmN m||M.any fun e=>decide ((20:Int)<zl6 e)
def zmN:List St->Bool
 |[]=>false
 |x::l=>nu x||zmN l
end
theorem zvM(x:St):nu x=(decide ((20:Int)<zl6 x.at_)||decide ((20:Int)<zl6 x.value)||zmN x.thn||zmN x.els||x.args.any fun e=>decide ((20:Int)<zl6 e)):=by cases x;rw[nu];rfl
noncomputable def z8:En:=⟨104,false,b7 (fun x=>x.sz<2^60) jN fun x=>.int .i64 (zl6 x)⟩
theorem NU(ρ:Nat->Int):zl0 Tryz.prog ρ z8:=zl7 fun x hx=>ztk ρ x hx
theorem zoX(ρ:Nat->Int):∀x:List St,zld x<2^60->bM Tryz.prog ρ 103 (nn x) (.bool (zmN x)):=
 vI fit (pls:=pls) (l:=[z8]) ⟨NU ρ,trivial⟩ (fun x=>zld x) (ok:=fun x=>zld x<2^60) (enc:=nn) (out:=fun x=>.bool (zmN x)) (fun x _=>.cons (xl _) .nil) (fun x _=>.bool _) (fun x hx=>by
 have hw:=sW (sz:=fun x:List St=>zld x) (ok:=fun x=>zld x<2^60) (out:=fun x=>.bool (zmN x)) xA (f:=103) (l:=[z8]) x;generalize hl:(⟨103,false,b7 (fun y=>zld y<2^60/\zld y<zld x) nn fun x=>.bool (zmN x)⟩:En)::[z8]=l at hw⊢;have kr:∀(y:List St),zld y<zld x->∀H,zk5 Tryz.prog (zkY pls l) 103 [.lst (y.map St.cells)] H fun v H'=>v=.bool (zmN y)/\H'=H:=fun y h2 H=>by
  subst hl;exact zlM (enc:=nn) (out:=fun x=>.bool (zmN x)) xA (x:=y) rfl ⟨ac,h2⟩
 have kd:∀y:Ex,y.sz<2^60->∀H,zk5 Tryz.prog (zkY pls l) 104 [.agg y.cells] H fun v H'=>v=.int .i64 (zl6 y)/\H'=H:=fun y h1 H=>by
  subst hl;exact zlM (enc:=jN) (out:=fun x=>.int .i64 (zl6 x)) qZ (x:=y) rfl h1
 have hlen:=znP x;change zk5 _ _ _ [.lst (x.map St.cells)] _ _;refine zlf (M:=50) (rs:=[.tmp 2]) hw.call hw.ice hw.froz Tryz.func103 rfl rfl NS.2 rfl ?_;dsimp only[NS,zD,Nat.reduceAdd];repeat' (first
  |(apply ah ?_;clear hK K)|apply Rx.o ?_|apply ak ?_|(apply zkU fun K hK=>?_)|apply aG ?_|fail)
 refine zlL [0] [] 3 x.length (fun i E H=>zmN x=zmN (x.drop i)) eE ax ?_;rintro i E H2 hi J I z hsI m;(try simp only[zlm,zlb,aR,zk1,zk7,Nat.reduceBEq, *]at J);(try simp only[zlb, *]at I);(try simp only[zlI,]at z);repeat' (first
  |(apply ah ?_;clear hK K)|apply Rx.o ?_|(apply a0 (fun C Z=>?_) (fun C Z=>?_)<;>try(cases C;done))|apply ak ?_|(apply zkU fun K hK=>?_)|apply aG ?_|apply zk3 ?_|apply aF ?_|apply zlu ?_)
 .have o:i<x.length:=by simpa using C
  have hgx:x[i]?=some x[i]:=aT o;have hsm:=znL (cR o);have hsz:=x[i].sz_eq;have hla:=znJ x[i].args;have O:zmN (x.drop i)=(nu x[i]||zmN (x.drop (i+1))):=by rw[fS o];rfl
  rw[zvM]at O;repeat' (first
   |(apply ah ?_;clear hK K)|apply Rx.o ?_|apply bS ?_|(apply eM ?_;first|refine zlc (kd _ ac _) ?_|refine zlc (kr _ ac _) ?_)|(apply cz (fun hg hgp=>?_) (fun hg hgp=>?_)<;>try(cases hg;done))|(apply a0 (fun C Z=>?_) (fun C Z=>?_)<;>try(cases C;done))|apply ak ?_|(apply zkU fun K hK=>?_)|apply aG ?_|apply zk3 ?_|apply aF ?_|fail)
  rotate_left
  .refine zlL [0,3,4] [H2.next] 5 x[i].args.length (fun j E H=>(x[i].args.any fun e=>decide ((20:Int)<zl6 e))=(x[i].args.drop j).any fun e=>decide ((20:Int)<zl6 e)) eE ax ?_;rintro j E3 H3 hj J I z hsI V;(try simp only[zlm,zlb,aR,zk1,zk7,Nat.reduceBEq, *]at J);(try simp only[zlm,zlb,aR,zk1,zk7, *]at I);(try simp only[zk9,zli,]at z);have hB0:(H2.next == H3.next)=false:=zkV ac;have hC0:(H3.next == H2.next)=false:=zkV ac;repeat' (first
    |(apply ah ?_;clear hK K)|apply Rx.o ?_|(apply a0 (fun C Z=>?_) (fun C Z=>?_)<;>try(cases C;done))|apply ak ?_|(apply zkU fun K hK=>?_)|apply aG ?_|apply zk3 ?_|apply zlu ?_)
   .have Y:j<x[i].args.length:=by simpa using C
    have hgx2:x[i].args[j]?=some x[i].args[j]:=aT Y;have hsm2:=znK (cR Y);have U:((x[i].args.drop j).any fun e=>decide ((20:Int)<zl6 e))=(decide ((20:Int)<zl6 x[i].args[j])||(x[i].args.drop (j+1)).any fun e=>decide ((20:Int)<zl6 e)):=G8;repeat' (first
     |(apply ah ?_;clear hK K)|apply Rx.o ?_|(apply eM ?_;first|refine zlc (kd _ ac _) ?_)|(apply a0 (fun C Z=>?_) (fun C Z=>?_)<;>try(cases C;done))|apply ak ?_|(apply zkU fun K hK=>?_)|apply zk3 ?_|apply aF ?_|fail)
    .all_goals (refine⟨eI,_,eR,?_⟩;try simp only[zkX])
     rw[m,O,V,U];(try simp only[dI]at *);simp only[ *,j0,iu,p7,]
    .refine⟨ac,zk8,zk8,zlF,(by simp only[zk1,Nat.reduceBEq, *];exact zni (n:=x[i].args.length) ac ac),?_⟩;rw[V,U];(try simp only[dI]at *);simp only[*,gm,]
   .refine⟨ac,zk8,zk8,zlF,uj,?_⟩;have hje:j=x[i].args.length:=tc;rw[hje,gT,xq]at V;rw[m,O,V];(try simp only[dI]at *);simp only[*,gm,iu,]
  all_goals
   all_goals (refine⟨eI,_,eR,?_⟩;try simp only[zkX])
   rw[m,O];(try simp only[dI]at *);simp only[ *,iu,p7,]
 .all_goals (refine⟨eI,_,eR,?_⟩;try simp only[zkX])
  rw[m,show i=x.length by simp at C;omega];simp[zmN])
def fc(p:Pr):List AV:=[.agg p.cells]
theorem pd(x y:Pr)(h:fc x=fc y):x=y:=by simp only[fc,ea,AV.agg.injEq,aR]at h;exact Pr.inj h
noncomputable def NV:En:=⟨102,false,b7 (fun x=>zld x.1+x.2<2^60) ta um⟩
theorem zqK(ρ:Nat->Int):zl0 Tryz.prog ρ NV:=zl7 fun x hx=>ztl ρ x hx
noncomputable def NW:En:=⟨103,false,b7 (fun x=>zld x<2^60) nn fun x=>.bool (zmN x)⟩
theorem ztr(ρ:Nat->Int):zl0 Tryz.prog ρ NW:=zl7 fun x hx=>zoX ρ x hx
def ny(f:Fu):Bool:=decide ((6:Int)<f.params.length)||decide ((8:Int)<f.locals.length)||decide ((200:Int)<nS f.body)||decide ((16:Int)<zl3 f.body)||decide ((20:Int)<zmB f.body 0)||zmN f.body||decide ((20:Int)<zl6 f.value)
def rh(a:Ar):Bool:=decide (a.len<1)||decide (16<a.len)
def jo(p:Pr):Bool:=decide ((4:Int)<p.arrays.length)||decide ((8:Int)<p.funcs.length)||p.arrays.any rh||p.funcs.any ny
noncomputable def z9:List En:=[z8,NV,NW]
theorem zAf(ρ:Nat->Int):fK Tryz.prog ρ z9:=⟨NU ρ,zqK ρ,ztr ρ,trivial⟩
theorem zoY(ρ:Nat->Int)(p:Pr)(hz:p.sz<2^60):bM Tryz.prog ρ 58 [.agg p.cells] (.bool (jo p)):=zmy fit (pls:=pls) (zAf ρ) (.cons (.agg p.pure) .nil) (.bool _) (by
 have hw:Plain (zkY pls z9) 58:=zml (fun _=>rfl) rfl;have kd:∀y:Ex,y.sz<2^60->∀H,zk5 Tryz.prog (zkY pls z9) 104 [.agg y.cells] H fun v H'=>v=.int .i64 (zl6 y)/\H'=H:=fun y m H=>zlM (enc:=jN) (out:=fun x=>.int .i64 (zl6 x)) qZ (x:=y) rfl m;have kt:∀y:List St,zld y<2^60->∀H,zk5 Tryz.prog (zkY pls z9) 103 [.lst (y.map St.cells)] H fun v H'=>v=.bool (zmN y)/\H'=H:=fun y m H=>zlM (enc:=nn) (out:=fun x=>.bool (zmN x)) xA (x:=y) rfl m;have kc:∀y:List St,zld y<2^60->∀H,zk5 Tryz.prog (zkY pls z9) 102 [.lst (y.map St.cells),.int .i64 0] H fun v H'=>v=.tup [.int .i64 (nS y),.int .i64 (zl3 y),.int .i64 (zmB y 0)]/\H'=H:=fun y m H=>zlM (enc:=ta) (out:=um) HD (x:=(y,0)) rfl yS;have hpz:p.sz=1+zmL p.arrays+zmv p.funcs:=rfl;have hla:=znR p.arrays;have hlf:=znQ p.funcs;refine zlf (M:=94) (rs:=[.tmp 2]) (hw.call _) hw.ice hw.froz Tryz.func58 rfl rfl NT.2 rfl ?_;dsimp only[NT,zD,Nat.reduceAdd];repeat' (first
  |(apply ah ?_;clear hK K)|apply Rx.o ?_|(apply cz (fun U Y=>?_) (fun U Y=>?_)<;>try(cases U;done))|(apply a0 (fun C j=>?_) (fun C j=>?_)<;>try(cases C;done))|apply ak ?_|(apply zkU fun K hK=>?_)|apply aG ?_|apply zk3 ?_|apply aF ?_|fail)
 all_goals (first|(refine⟨eI,_,eR,?_⟩;(try simp only[zkX]);rw[jo];(try simp only[dI]at *);simp only[ *,j0,p7,];done)|skip)
 .refine zlL [1] [0] 3 p.arrays.length (fun i E H=>p.arrays.any rh=(p.arrays.drop i).any rh) eE ax ?_;rintro i E H2 hi J z o hsI hJ;(try simp only[zlm,zlb,aR,zk1,zk7,Nat.reduceBEq, *]at J);(try simp only[zlm,zlb,aR,zk1,zk7, *]at z);(try simp only[zk9,zlI,bL]at o);have hB0:(0 == H2.next)=false:=zkV ac;have hC0:(H2.next == 0)=false:=zkV ac;repeat' (first
   |(apply ah ?_;clear hK K)|apply Rx.o ?_|(apply a0 (fun C j=>?_) (fun C j=>?_)<;>try(cases C;done))|apply ak ?_|(apply zkU fun K hK=>?_)|apply aG ?_|apply zk3 ?_|apply zlu ?_)
  .have Z:i<p.arrays.length:=by simpa using C
   have hgx:p.arrays[i]?=some p.arrays[i]:=aT Z;have O:(p.arrays.drop i).any rh=(rh p.arrays[i]||(p.arrays.drop (i+1)).any rh):=HO;rw[rh]at O;repeat' (first
    |(apply ah ?_;clear hK K)|apply Rx.o ?_|(apply cz (fun U Y=>?_) (fun U Y=>?_)<;>try(cases U;done))|(apply a0 (fun C j=>?_) (fun C j=>?_)<;>try(cases C;done))|apply ak ?_|(apply zkU fun K hK=>?_)|apply zk3 ?_|apply aF ?_|fail)
   all_goals (first|(refine⟨eI,_,eR,?_⟩;(try simp only[zkX]);rw[jo,hJ,O];(try simp only[dI]at *);simp only[ *,j0,iu,p7,];done)|skip)
   refine⟨ac,zk8,zk8,zlF,vT,?_⟩;rw[hJ,O];(try simp only[dI]at *);simp only[*,gm,iu,]
  .have I:i=p.arrays.length:=by simp at C;omega
   rw[I,gT,xq]at hJ;clear C I hsI hi;refine zlL [1] [0] 4 p.funcs.length (fun i E H=>p.funcs.any ny=(p.funcs.drop i).any ny) eE ax ?_;rintro i E H2 hi J z o hsI V;(try simp only[zlm,zlb,aR,zk1,Nat.reduceBEq, *]at J);(try simp only[zlm,zlb,aR, *]at z);(try simp only[zk9,zli,zlI,bL,Nat.reduceAdd]at o);have hB0:(0 == H2.next)=false:=zkV ac;have hC0:(H2.next == 0)=false:=zkV ac;repeat' (first
    |(apply ah ?_;clear hK K)|apply Rx.o ?_|(apply a0 (fun C j=>?_) (fun C j=>?_)<;>try(cases C;done))|apply ak ?_|(apply zkU fun K hK=>?_)|apply aG ?_|apply zk3 ?_|apply aF ?_|apply zlu ?_)
   .have Z:i<p.funcs.length:=by simpa using C
    have hgx:p.funcs[i]?=some p.funcs[i]:=aT Z;have O:(p.funcs.drop i).any ny=(ny p.funcs[i]||(p.funcs.drop (i+1)).any ny):=HO;rw[ny]at O;have hsm:=pV (cR Z);have hsz:p.funcs[i].sz=1+p.funcs[i].name.length+zmd p.funcs[i].params+zmd p.funcs[i].locals+zld p.funcs[i].body+p.funcs[i].value.sz:=rfl;repeat' (first
     |(apply ah ?_;clear hK K)|apply Rx.o ?_|apply bS ?_|(apply eM ?_;first|refine zlc (kd _ ac _) ?_|refine zlc (kt _ ac _) ?_|refine zlc (kc _ ac _) ?_)|(apply cz (fun U Y=>?_) (fun U Y=>?_)<;>try(cases U;done))|(apply a0 (fun C j=>?_) (fun C j=>?_)<;>try(cases C;done))|apply ak ?_|(apply zkU fun K hK=>?_)|apply zk3 ?_|apply aF ?_|fail)
    all_goals (first|(refine⟨eI,_,eR,?_⟩;(try simp only[zkX]);rw[jo,hJ,V,O];(try simp only[dI]at *);simp only[ *,j0,iu,p7,];done)|skip)
    refine⟨ac,zk8,zk8,zlF,oX,?_⟩;rw[V,O];(try simp only[dI]at *);simp only[*,gm,iu,]
   .all_goals (refine⟨eI,_,eR,?_⟩;try simp only[zkX])
    have I:i=p.funcs.length:=tc;rw[I,gT,xq]at V;rw[jo,hJ,V];(try simp only[dI]at *);simp only[*,iu,])
end
end Go.Proofs.YtpbcimfiofmoeaaGreat
