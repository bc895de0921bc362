/- Parts: K2b, K2, K3, R3c, R3d, R3e, R3f. -/
import Derived.Test.YtpbcimfiofmoeaaGreatRCI
set_option linter.unusedSimpArgs false
set_option linter.unusedVariables false
set_option linter.unusedSectionVars false
set_option linter.defProp false
set_option maxHeartbeats 32000000
namespace Go.Ab
set_option maxRecDepth 20000
open Go
theorem ro{P:Prop}(h:P:=by simp only[];omega):P:=h
theorem AQ{P:Prop}(h:P:=by rw[hsn];exact s5):P:=h
theorem AR{P:Prop}(h:P:=by simp at hb;omega):P:=h
theorem AS{P:Prop}(h:P:=by rw[List.drop_eq_getElem_cons hlt,List.any_cons]):P:=h
theorem jB{P:Prop}(h:P:=by simp only[zef,zea];omega):P:=h
theorem Kw{P:Prop}(h:P:=by rw[hJ3,hdr2];(try simp only[Bool.not_eq_true',Bool.not_eq_false']at *);simp only[*,decide_true,decide_false,Bool.false_or,Bool.or_false,Bool.true_or,Bool.or_true,Bool.false_and,Bool.and_false,Bool.true_and,Bool.and_true,Bool.not_true,Bool.not_false,if_true,if_false,Int.reduceEq]):P:=h
theorem AT{P:Prop}(h:P:=by simp only[zdX,Nat.reduceBEq, *];exact zfQ (n:=p.arrays.length) ac ac):P:=h
theorem EJ{P:Prop}(h:P:=by simp only[zdX,Nat.reduceBEq, *];exact zfQ (n:=x.args.length) ac ac):P:=h
theorem Kx{P:Prop}(h:P:=by simp only[zdX,Nat.reduceBEq, *];exact zfQ (n:=ns.length) ac ac):P:=h
def sF:=@List.all_cons
def EK:=@List.map_drop
end Go.Ab
namespace Go.Proofs.YtpbcimfiofmoeaaGreat
set_option maxRecDepth 20000
open Go Go.Ab
section
def tyK2b.tyF:=ad @eI (ad @dC (ad @ge (ad @en (ad @jP (ad @mc (ad @md (ad @rZ (@oT))))))))
open tyK2b
theorem YW(s:List Int){a b:Nat}(h1:a<=b)(h2:b<=s.length):zfW Tryz.prog 23 (.lst (s.map fun n=>[AV.int .i64 n])) (some (.int .i64 (a:Int))) (some (.int .i64 (b:Int)))=some (.lst (((s.drop a).take (b-a)).map fun n=>[AV.int .i64 n])):=by
 have e1:(a:Int)=Int.ofNat a:=rfl;have e2:(b:Int)=Int.ofNat b:=rfl;simp only[zfW,Tryz.underlying23,gN,e1,e2,zfL];rw[aE ⟨h1,by rw[dy];exact h2⟩,<-EK,<-zo];cases (s.drop a).take (b-a)with
 |nil=>rfl
 |cons x l=>rfl
theorem YX(s:List Int){a:Nat}(h1:a<=s.length):zfW Tryz.prog 23 (.lst (s.map fun n=>[AV.int .i64 n])) (some (.int .i64 (a:Int))) none=some (.lst ((s.drop a).map fun n=>[AV.int .i64 n])):=by
 have e1:(a:Int)=Int.ofNat a:=rfl;simp only[zfW,Tryz.underlying23,gN,e1,zfL];rw[aE ⟨by rw[dy];exact h1,aM _⟩,iq aK,<-EK];cases s.drop a with
 |nil=>rfl
 |cons x l=>rfl
theorem YY{l:List Nd}{imm:Int}{kids k:List Int}(hkb:k.length<2^30)(him:ze7 31 imm=true)(hgo:zey l ⟨31,imm,kids⟩ k=zeC (decide (k.length%2=1)&&decide (1<=k.length/2)&&decide (k.length/2<=16)&&decide (k.headD 0=2)&&zeF ((k.drop 1).take (k.length/2))&&decide (k.getD (k.length/2+1) 0=2)&&zeF (k.drop (k.length/2+2))) 3):
 zd5 Tryz.prog (zdW pls sE) 42 [zfe l,.agg [.int .i64 31,.int .i64 imm,zeG kids],zeG k] zeo fun v _=>v=.int .i64 (zey l ⟨31,imm,kids⟩ k):=by
 have hw:Plain (zdW pls sE) 42:=zfv (fun _=>rfl) rfl;have hq2:(2:Int)≠0:=aY;have hv:fy 31=.tup [.int .i64 (-1),.bool true]:=rfl;have e1:IntKind.wrap .i64 ((k.length:Int).tdiv 2)=((k.length/2:Nat):Int):=by
  rw[JP ac,zft ac ac];omega
 have e2:(k.length:Int).tmod 2=((k.length%2:Nat):Int):=Ei;by_cases hc:k.length%2=1/\1<=k.length/2/\k.length/2<=16
 .obtain⟨h1,h2,h3⟩:=hc;have e3:IntKind.wrap .i64 (((k.length/2:Nat):Int)+1)=((k.length/2+1:Nat):Int):=zft ac ac;have e4:IntKind.wrap .i64 (((k.length/2:Nat):Int)+2)=((k.length/2+2:Nat):Int):=zft ac ac;obtain⟨x,hx⟩:∃x,k[0]?=some x:=⟨_,br ac⟩;obtain⟨y,hy⟩:∃y,k[k.length/2+1]?=some y:=⟨_,br ac⟩;have g1:k.headD 0=x:=by rw[List.headD_eq_head?_getD,List.head?_eq_getElem?,hx];rfl
  have g2:k.getD (k.length/2+1) 0=y:=by rw[dM,hy];rfl
  have hs1:=YW k (a:=1) (b:=k.length/2+1) ac ac;have hs2:=YX k (a:=k.length/2+2) ac;have el1:((k.drop 1).take (k.length/2+1-1)).length<2^60:=pQ;have el2:(k.drop (k.length/2+2)).length<2^60:=CQ;have hg2:zey l ⟨31,imm,kids⟩ k=zeC (decide (x=2)&&zeF ((k.drop 1).take (k.length/2+1-1))&&decide (y=2)&&zeF (k.drop (k.length/2+2))) 3:=by
   rw[hgo,g1,g2,qc h1,qc h2,qc h3,Nat.add_sub_cancel];rfl
  clear hgo g1 g2;have e5:(k.length:Int).tmod 2=1:=by rw[e2];omega
  have h2':(1:Int)<=((k.length/2:Nat):Int):=ac;have h3':((k.length/2:Nat):Int)<=16:=ac;have hs1':zfW Tryz.prog 23 (.lst (k.map fun n=>[AV.int .i64 n])) (some (.int .i64 1)) (some (.int .i64 ((k.length/2+1:Nat):Int)))=some (.lst (((k.drop 1).take (k.length/2+1-1)).map fun n=>[AV.int .i64 n])):=hs1;clear hs1 e2 h2 h3;generalize (k.drop 1).take (k.length/2+1-1)=p at *;generalize k.drop (k.length/2+2)=q at *;generalize k.length/2+1=u at *;generalize k.length/2+2=w at *;generalize k.length/2=m at *;refine zed (M:=221) (rs:=[.tmp 6]) (hw.call _) hw.ice hw.froz Tryz.func42 rfl rfl fz.2 rfl ?_;dsimp only[fz,zd8,Nat.reduceAdd];repeat' (first
   |(apply au ?_;clear hK K)|apply Ry.o ?_|(apply dq ?_;first|refine Rx.k (jA (fun _=>rfl) _ _) ?_|refine Rx.k (lK (fun _=>rfl) _ _ _) ?_|refine Rx.k (AP (fun _=>rfl) _ el1 _) ?_|refine Rx.k (AP (fun _=>rfl) _ el2 _) ?_|refine Rx.k (mS (fun _=>rfl) _ _ _) ?_)|(apply bS (fun hg hgp=>?_) (fun hg hgp=>?_)<;>try(cases hg;done))|(apply aV (fun hb hbp=>?_) (fun hb hbp=>?_)<;>try(cases hb;done))|apply am ?_|(apply zdQ fun K hK=>?_)|apply aA ?_|apply zdR ?_|apply aB ?_)
  all_goals first
   |exact eK
   |((refine⟨zdZ,_,fo,?_⟩;try simp only[zdY]);rw[hg2];(try simp only[cW]at *);simp only[ *,cX,bN,bU,Int.reduceEq];done)
 .have hg2:zey l ⟨31,imm,kids⟩ k=zeC false 3:=by
   have hf:(decide (k.length%2=1)&&decide (1<=k.length/2)&&decide (k.length/2<=16))=false:=by
    rw[DV,DV,nQ,nQ,nQ];omega
   rw[hgo,hf];rfl
  clear hgo;generalize k.length/2=m at *;generalize k.length%2=r at *;refine zed (M:=221) (rs:=[.tmp 6]) (hw.call _) hw.ice hw.froz Tryz.func42 rfl rfl fz.2 rfl ?_;dsimp only[fz,zd8,Nat.reduceAdd];repeat' (first
   |(apply au ?_;clear hK K)|apply Ry.o ?_|(apply dq ?_;first|refine Rx.k (jA (fun _=>rfl) _ _) ?_|refine Rx.k (lK (fun _=>rfl) _ _ _) ?_|refine Rx.k (mS (fun _=>rfl) _ _ _) ?_)|(apply bS (fun hg hgp=>?_) (fun hg hgp=>?_)<;>try(cases hg;done))|(apply aV (fun hb hbp=>?_) (fun hb hbp=>?_)<;>try(cases hb;done))|apply am ?_|(apply zdQ fun K hK=>?_)|apply aA ?_|apply zdR ?_|apply aB ?_)
  all_goals first
   |exact eK
   |((refine⟨zdZ,_,fo,?_⟩;try simp only[zdY]);rw[hg2];done)
   |(exfalso;omega)
end
section
def tyK2.tyF:=ad @eI (ad @dC (ad @ge (ad @en (ad @jP (ad @mc (ad @md (@rZ)))))))
open tyK2
theorem YZ(ρ:Nat->Int)(x:NsX)(hx:x7 x):bV Tryz.prog ρ 42 (sD x) (.int .i64 (zey x.l x.n x.k)):=zfq fit (pls:=pls) (YP ρ) (.cons (mR _) (.cons (.agg (vz _)) (.cons (zgt _) .nil))) (.int _ _) (by
 obtain⟨l,⟨op,imm,kids⟩,k⟩:=x;obtain⟨hkl,hkb,h25⟩:=hx;have hw:Plain (zdW pls sE) 42:=zfv (fun _=>rfl) rfl;rw[sD];simp only[Nd.cells]at hkl hkb h25⊢;have hq:(16:Int)≠0:=aY;have hq2:(2:Int)≠0:=aY;cases hok:(bH op).2 with
 |false=>
  have hv:fy op=.tup [.int .i64 (bH op).1,.bool false]:=by rw[fy,hok]
  refine zed (M:=221) (rs:=[.tmp 6]) (hw.call _) hw.ice hw.froz Tryz.func42 rfl rfl fz.2 rfl ?_;dsimp only[fz,zd8,Nat.reduceAdd];repeat' (first
   |(apply au ?_;clear hK K)|apply Ry.o ?_|(apply dq ?_;first|refine Rx.k (jA (fun _=>rfl) _ _) ?_)|apply jw ?_|(apply bS (fun hg hgp=>?_) (fun hg hgp=>?_)<;>try(cases hg;done))|(apply aV (fun hb hbp=>?_) (fun hb hbp=>?_)<;>try(cases hb;done))|apply am ?_|(apply zdQ fun K hK=>?_)|(apply zdP 12 [(2,19),(7,19),(10,19),(16,19)] fun K hK=>?_)|(apply zdP 20 [(2,19),(6,19),(9,19),(11,19),(14,19),(15,19)] fun K hK=>?_)|(apply zdU ?_;try intro _)|(apply zdV ?_ ?_<;>clear hK K)|apply aH ?_|(apply lD (fun hg hgp=>?_) (fun hg hgp=>?_)<;>try(cases hg;done))|apply aA ?_|apply zdR ?_|apply aB ?_)
  all_goals
   refine⟨zdZ,_,fo,?_⟩;try simp only[zdY]
   rw[YQ hok]
 |true=>
 by_cases hlen:0<=(bH op).1/\(kids.length:Int)≠(bH op).1
 .have hv:fy op=.tup [.int .i64 (bH op).1,.bool true]:=by rw[fy,hok]
  obtain⟨h1,h2⟩:=hlen;refine zed (M:=221) (rs:=[.tmp 6]) (hw.call _) hw.ice hw.froz Tryz.func42 rfl rfl fz.2 rfl ?_;dsimp only[fz,zd8,Nat.reduceAdd];repeat' (first
   |(apply au ?_;clear hK K)|apply Ry.o ?_|(apply dq ?_;first|refine Rx.k (jA (fun _=>rfl) _ _) ?_)|apply jw ?_|(apply bS (fun hg hgp=>?_) (fun hg hgp=>?_)<;>try(cases hg;done))|(apply aV (fun hb hbp=>?_) (fun hb hbp=>?_)<;>try(cases hb;done))|apply am ?_|(apply zdQ fun K hK=>?_)|(apply zdP 12 [(2,19),(7,19),(10,19),(16,19)] fun K hK=>?_)|(apply zdP 20 [(2,19),(6,19),(9,19),(11,19),(14,19),(15,19)] fun K hK=>?_)|(apply zdU ?_;try intro _)|(apply zdV ?_ ?_<;>clear hK K)|apply aH ?_|(apply lD (fun hg hgp=>?_) (fun hg hgp=>?_)<;>try(cases hg;done))|apply aA ?_|apply zdR ?_|apply aB ?_)
  all_goals
   refine⟨zdZ,_,fo,?_⟩;try simp only[zdY]
   rw[YR hok h1 h2]
 cases him:ze7 op imm with
 |false=>
  have hv:fy op=.tup [.int .i64 (bH op).1,.bool true]:=by rw[fy,hok]
  refine zed (M:=221) (rs:=[.tmp 6]) (hw.call _) hw.ice hw.froz Tryz.func42 rfl rfl fz.2 rfl ?_;dsimp only[fz,zd8,Nat.reduceAdd];repeat' (first
   |(apply au ?_;clear hK K)|apply Ry.o ?_|(apply dq ?_;first|refine Rx.k (jA (fun _=>rfl) _ _) ?_|refine Rx.k (lK (fun _=>rfl) _ _ _) ?_)|apply jw ?_|(apply bS (fun hg hgp=>?_) (fun hg hgp=>?_)<;>try(cases hg;done))|(apply aV (fun hb hbp=>?_) (fun hb hbp=>?_)<;>try(cases hb;done))|apply am ?_|(apply zdQ fun K hK=>?_)|(apply zdP 12 [(2,19),(7,19),(10,19),(16,19)] fun K hK=>?_)|(apply zdP 20 [(2,19),(6,19),(9,19),(11,19),(14,19),(15,19)] fun K hK=>?_)|(apply zdU ?_;try intro _)|(apply zdV ?_ ?_<;>clear hK K)|apply aH ?_|(apply lD (fun hg hgp=>?_) (fun hg hgp=>?_)<;>try(cases hg;done))|apply aA ?_|apply zdR ?_|apply aB ?_)
  all_goals
   refine⟨zdZ,_,fo,?_⟩;try simp only[zdY]
   rw[YS him]
 |true=>
 have hgo:=YT (l:=l) (n:=⟨op,imm,kids⟩) (k:=k) hok hlen him;simp only[]at hgo;by_cases c31:op=31
 .subst c31;exact YY hkb him nZ
 by_cases c30:op=30
 .subst c30;exact YU hkl hkb him nZ
 by_cases c25:op=25
 .subst c25;exact YV hkl hkb (h25 rfl) (by have e:(bH 25).1=1:=rfl;omega) him nZ
 have hnn:=EA c31 c30;have hkn:(kids.length:Int)=(bH op).1:=ac;have hv:fy op=.tup [.int .i64 kids.length,.bool true]:=by rw[fy,hok,hkn]
 by_cases c22:op=22
 .subst c22;obtain⟨a,b,c,rfl⟩:=rb (s:=k) (by have e:(bH 22).1=3:=rfl;omega);have hg2:zey l ⟨22,imm,kids⟩ [a,b,c]=if a≠1\/b≠c\/b=3 then 0 else b:=nZ
  refine zed (M:=221) (rs:=[.tmp 6]) (hw.call _) hw.ice hw.froz Tryz.func42 rfl rfl fz.2 rfl ?_;dsimp only[fz,zd8,Nat.reduceAdd];repeat' (first
   |(apply au ?_;clear hK K)|apply Ry.o ?_|(apply dq ?_;first|refine Rx.k (jA (fun _=>rfl) _ _) ?_|refine Rx.k (lK (fun _=>rfl) _ _ _) ?_)|apply jw ?_|(apply bS (fun hg hgp=>?_) (fun hg hgp=>?_)<;>try(cases hg;done))|(apply aV (fun hb hbp=>?_) (fun hb hbp=>?_)<;>try(cases hb;done))|apply am ?_|(apply zdQ fun K hK=>?_)|(apply zdP 12 [(2,19),(7,19),(10,19),(16,19)] fun K hK=>?_)|(apply zdP 20 [(2,19),(6,19),(9,19),(11,19),(14,19),(15,19)] fun K hK=>?_)|(apply zdU ?_;try intro _)|(apply zdV ?_ ?_<;>clear hK K)|apply aH ?_|(apply lD (fun hg hgp=>?_) (fun hg hgp=>?_)<;>try(cases hg;done))|apply aA ?_|apply zdR ?_|apply aB ?_)
  all_goals first
   |exact eK
   |((refine⟨zdZ,_,fo,?_⟩;try simp only[zdY]);rw[hg2];clear hg2 hgo h25 hv hkn hlen hok him hkl;(try simp only[u5,nQ]at *);first|(rw[aE Ay];done)|(rw[ah Ay];done)|(rw[aE ac];done)|(rw[ah ac];done))
 by_cases c23:op=23
 .subst c23;obtain⟨a,b,rfl⟩:=pj (s:=k) (by have e:(bH 23).1=2:=rfl;omega);have hg2:zey l ⟨23,imm,kids⟩ [a,b]=zeC (decide (a=2)&&decide (b=1)) 1:=nZ;refine zed (M:=221) (rs:=[.tmp 6]) (hw.call _) hw.ice hw.froz Tryz.func42 rfl rfl fz.2 rfl ?_;dsimp only[fz,zd8,Nat.reduceAdd];repeat' (first
   |(apply au ?_;clear hK K)|apply Ry.o ?_|(apply dq ?_;first|refine Rx.k (jA (fun _=>rfl) _ _) ?_|refine Rx.k (lK (fun _=>rfl) _ _ _) ?_|refine Rx.k (mS (fun _=>rfl) _ _ _) ?_)|apply jw ?_|(apply bS (fun hg hgp=>?_) (fun hg hgp=>?_)<;>try(cases hg;done))|(apply aV (fun hb hbp=>?_) (fun hb hbp=>?_)<;>try(cases hb;done))|apply am ?_|(apply zdQ fun K hK=>?_)|(apply zdP 12 [(2,19),(7,19),(10,19),(16,19)] fun K hK=>?_)|(apply zdP 20 [(2,19),(6,19),(9,19),(11,19),(14,19),(15,19)] fun K hK=>?_)|(apply zdU ?_;try intro _)|(apply zdV ?_ ?_<;>clear hK K)|apply aH ?_|(apply lD (fun hg hgp=>?_) (fun hg hgp=>?_)<;>try(cases hg;done))|apply aA ?_|apply zdR ?_|apply aB ?_)
  all_goals first
   |exact eK
   |((refine⟨zdZ,_,fo,?_⟩;try simp only[zdY]);rw[hg2];(try simp only[cW]at *);simp only[ *,cX,bN,bU,Int.reduceEq];done)
   |((refine⟨zdZ,_,fo,?_⟩;try simp only[zdY]);rw[hg2];clear hg2 hgo h25 hv hkn;simp_all;done)
 by_cases c24:op=24
 .subst c24;obtain⟨a,rfl⟩:=nY (s:=k) (by have e:(bH 24).1=1:=rfl;omega);have hg2:zey l ⟨24,imm,kids⟩ [a]=zeC (decide (a=2)) 1:=nZ;refine zed (M:=221) (rs:=[.tmp 6]) (hw.call _) hw.ice hw.froz Tryz.func42 rfl rfl fz.2 rfl ?_;dsimp only[fz,zd8,Nat.reduceAdd];repeat' (first
   |(apply au ?_;clear hK K)|apply Ry.o ?_|(apply dq ?_;first|refine Rx.k (jA (fun _=>rfl) _ _) ?_|refine Rx.k (lK (fun _=>rfl) _ _ _) ?_|refine Rx.k (mS (fun _=>rfl) _ _ _) ?_)|apply jw ?_|(apply bS (fun hg hgp=>?_) (fun hg hgp=>?_)<;>try(cases hg;done))|(apply aV (fun hb hbp=>?_) (fun hb hbp=>?_)<;>try(cases hb;done))|apply am ?_|(apply zdQ fun K hK=>?_)|(apply zdP 12 [(2,19),(7,19),(10,19),(16,19)] fun K hK=>?_)|(apply zdP 20 [(2,19),(6,19),(9,19),(11,19),(14,19),(15,19)] fun K hK=>?_)|(apply zdU ?_;try intro _)|(apply zdV ?_ ?_<;>clear hK K)|apply aH ?_|(apply lD (fun hg hgp=>?_) (fun hg hgp=>?_)<;>try(cases hg;done))|apply aA ?_|apply zdR ?_|apply aB ?_)
  all_goals first
   |exact eK
   |((refine⟨zdZ,_,fo,?_⟩;try simp only[zdY]);rw[hg2];done)
 by_cases c27:op=27
 .subst c27;obtain⟨a,b,rfl⟩:=pj (s:=k) (by have e:(bH 27).1=2:=rfl;omega);have hg2:zey l ⟨27,imm,kids⟩ [a,b]=zeC (decide (a=2)&&decide (b=1)) 2:=nZ;refine zed (M:=221) (rs:=[.tmp 6]) (hw.call _) hw.ice hw.froz Tryz.func42 rfl rfl fz.2 rfl ?_;dsimp only[fz,zd8,Nat.reduceAdd];repeat' (first
   |(apply au ?_;clear hK K)|apply Ry.o ?_|(apply dq ?_;first|refine Rx.k (jA (fun _=>rfl) _ _) ?_|refine Rx.k (lK (fun _=>rfl) _ _ _) ?_|refine Rx.k (mS (fun _=>rfl) _ _ _) ?_)|apply jw ?_|(apply bS (fun hg hgp=>?_) (fun hg hgp=>?_)<;>try(cases hg;done))|(apply aV (fun hb hbp=>?_) (fun hb hbp=>?_)<;>try(cases hb;done))|apply am ?_|(apply zdQ fun K hK=>?_)|(apply zdP 12 [(2,19),(7,19),(10,19),(16,19)] fun K hK=>?_)|(apply zdP 20 [(2,19),(6,19),(9,19),(11,19),(14,19),(15,19)] fun K hK=>?_)|(apply zdU ?_;try intro _)|(apply zdV ?_ ?_<;>clear hK K)|apply aH ?_|(apply lD (fun hg hgp=>?_) (fun hg hgp=>?_)<;>try(cases hg;done))|apply aA ?_|apply zdR ?_|apply aB ?_)
  all_goals first
   |exact eK
   |((refine⟨zdZ,_,fo,?_⟩;try simp only[zdY]);rw[hg2];(try simp only[cW]at *);simp only[ *,cX,bN,bU,Int.reduceEq];done)
 by_cases c29:op=29
 .subst c29;obtain⟨a,b,rfl⟩:=pj (s:=k) (by have e:(bH 29).1=2:=rfl;omega);have hg2:zey l ⟨29,imm,kids⟩ [a,b]=zeC (decide (a=2)&&decide (b=1)) 2:=nZ;refine zed (M:=221) (rs:=[.tmp 6]) (hw.call _) hw.ice hw.froz Tryz.func42 rfl rfl fz.2 rfl ?_;dsimp only[fz,zd8,Nat.reduceAdd];repeat' (first
   |(apply au ?_;clear hK K)|apply Ry.o ?_|(apply dq ?_;first|refine Rx.k (jA (fun _=>rfl) _ _) ?_|refine Rx.k (lK (fun _=>rfl) _ _ _) ?_|refine Rx.k (mS (fun _=>rfl) _ _ _) ?_)|apply jw ?_|(apply bS (fun hg hgp=>?_) (fun hg hgp=>?_)<;>try(cases hg;done))|(apply aV (fun hb hbp=>?_) (fun hb hbp=>?_)<;>try(cases hb;done))|apply am ?_|(apply zdQ fun K hK=>?_)|(apply zdP 12 [(2,19),(7,19),(10,19),(16,19)] fun K hK=>?_)|(apply zdP 20 [(2,19),(6,19),(9,19),(11,19),(14,19),(15,19)] fun K hK=>?_)|(apply zdU ?_;try intro _)|(apply zdV ?_ ?_<;>clear hK K)|apply aH ?_|(apply lD (fun hg hgp=>?_) (fun hg hgp=>?_)<;>try(cases hg;done))|apply aA ?_|apply zdR ?_|apply aB ?_)
  all_goals first
   |exact eK
   |((refine⟨zdZ,_,fo,?_⟩;try simp only[zdY]);rw[hg2];(try simp only[cW]at *);simp only[ *,cX,bN,bU,Int.reduceEq];done)
 by_cases c28:op=28
 .subst c28;obtain⟨a,b,c,rfl⟩:=rb (s:=k) (by have e:(bH 28).1=3:=rfl;omega);have hg2:zey l ⟨28,imm,kids⟩ [a,b,c]=zeC (decide (a=2)&&decide (b=1)&&decide (c=1)) 2:=nZ;refine zed (M:=221) (rs:=[.tmp 6]) (hw.call _) hw.ice hw.froz Tryz.func42 rfl rfl fz.2 rfl ?_;dsimp only[fz,zd8,Nat.reduceAdd];repeat' (first
   |(apply au ?_;clear hK K)|apply Ry.o ?_|(apply dq ?_;first|refine Rx.k (jA (fun _=>rfl) _ _) ?_|refine Rx.k (lK (fun _=>rfl) _ _ _) ?_|refine Rx.k (mS (fun _=>rfl) _ _ _) ?_)|apply jw ?_|(apply bS (fun hg hgp=>?_) (fun hg hgp=>?_)<;>try(cases hg;done))|(apply aV (fun hb hbp=>?_) (fun hb hbp=>?_)<;>try(cases hb;done))|apply am ?_|(apply zdQ fun K hK=>?_)|(apply zdP 12 [(2,19),(7,19),(10,19),(16,19)] fun K hK=>?_)|(apply zdP 20 [(2,19),(6,19),(9,19),(11,19),(14,19),(15,19)] fun K hK=>?_)|(apply zdU ?_;try intro _)|(apply zdV ?_ ?_<;>clear hK K)|apply aH ?_|(apply lD (fun hg hgp=>?_) (fun hg hgp=>?_)<;>try(cases hg;done))|apply aA ?_|apply zdR ?_|apply aB ?_)
  all_goals first
   |exact eK
   |((refine⟨zdZ,_,fo,?_⟩;try simp only[zdY]);rw[hg2];(try simp only[cW]at *);simp only[ *,cX,bN,bU,Int.reduceEq];done)
 by_cases c26:op=26
 .subst c26;have hg2:zey l ⟨26,imm,kids⟩ k=2:=nZ;refine zed (M:=221) (rs:=[.tmp 6]) (hw.call _) hw.ice hw.froz Tryz.func42 rfl rfl fz.2 rfl ?_;dsimp only[fz,zd8,Nat.reduceAdd];repeat' (first
   |(apply au ?_;clear hK K)|apply Ry.o ?_|(apply dq ?_;first|refine Rx.k (jA (fun _=>rfl) _ _) ?_|refine Rx.k (lK (fun _=>rfl) _ _ _) ?_|refine Rx.k (mS (fun _=>rfl) _ _ _) ?_)|apply jw ?_|(apply bS (fun hg hgp=>?_) (fun hg hgp=>?_)<;>try(cases hg;done))|(apply aV (fun hb hbp=>?_) (fun hb hbp=>?_)<;>try(cases hb;done))|apply am ?_|(apply zdQ fun K hK=>?_)|(apply zdP 12 [(2,19),(7,19),(10,19),(16,19)] fun K hK=>?_)|(apply zdP 20 [(2,19),(6,19),(9,19),(11,19),(14,19),(15,19)] fun K hK=>?_)|(apply zdU ?_;try intro _)|(apply zdV ?_ ?_<;>clear hK K)|apply aH ?_|(apply lD (fun hg hgp=>?_) (fun hg hgp=>?_)<;>try(cases hg;done))|apply aA ?_|apply zdR ?_|apply aB ?_)
  all_goals first
   |exact eK
   |((refine⟨zdZ,_,fo,?_⟩;try simp only[zdY]);rw[hg2];done)
 by_cases c3:op=3
 .subst c3;have hg2:zey l ⟨3,imm,kids⟩ k=if imm.tmod 16=0 then 2 else 1:=nZ
  refine zed (M:=221) (rs:=[.tmp 6]) (hw.call _) hw.ice hw.froz Tryz.func42 rfl rfl fz.2 rfl ?_;dsimp only[fz,zd8,Nat.reduceAdd];repeat' (first
   |(apply au ?_;clear hK K)|apply Ry.o ?_|(apply dq ?_;first|refine Rx.k (jA (fun _=>rfl) _ _) ?_|refine Rx.k (lK (fun _=>rfl) _ _ _) ?_|refine Rx.k (mS (fun _=>rfl) _ _ _) ?_)|apply jw ?_|(apply bS (fun hg hgp=>?_) (fun hg hgp=>?_)<;>try(cases hg;done))|(apply aV (fun hb hbp=>?_) (fun hb hbp=>?_)<;>try(cases hb;done))|apply am ?_|(apply zdQ fun K hK=>?_)|(apply zdP 12 [(2,19),(7,19),(10,19),(16,19)] fun K hK=>?_)|(apply zdP 20 [(2,19),(6,19),(9,19),(11,19),(14,19),(15,19)] fun K hK=>?_)|(apply zdU ?_;try intro _)|(apply zdV ?_ ?_<;>clear hK K)|apply aH ?_|(apply lD (fun hg hgp=>?_) (fun hg hgp=>?_)<;>try(cases hg;done))|apply aA ?_|apply zdR ?_|apply aB ?_)
  all_goals first
   |exact eK
   |((refine⟨zdZ,_,fo,?_⟩;try simp only[zdY]);rw[hg2,aE gC];done)
   |((refine⟨zdZ,_,fo,?_⟩;try simp only[zdY]);rw[hg2,ah gC];done)
 have hg2:zey l ⟨op,imm,kids⟩ k=zeC (zeF k) 1:=by
  rw[hgo,ah c3,ah c26,ah c22,ah c23,ah c24,ah c25,ah ac,ah c28,ah c30,ah c31]
 have hkb':k.length<2^60:=ac;have hk0:(0:Int)<=kids.length:=ac;refine zed (M:=221) (rs:=[.tmp 6]) (hw.call _) hw.ice hw.froz Tryz.func42 rfl rfl fz.2 rfl ?_;dsimp only[fz,zd8,Nat.reduceAdd];repeat' (first
  |(apply au ?_;clear hK K)|apply Ry.o ?_|(apply dq ?_;first|refine Rx.k (jA (fun _=>rfl) _ _) ?_|refine Rx.k (lK (fun _=>rfl) _ _ _) ?_|refine Rx.k (AP (fun _=>rfl) _ hkb' _) ?_|refine Rx.k (mS (fun _=>rfl) _ _ _) ?_)|apply jw ?_|(apply bS (fun hg hgp=>?_) (fun hg hgp=>?_)<;>try(cases hg;done))|(apply aV (fun hb hbp=>?_) (fun hb hbp=>?_)<;>try(cases hb;done))|apply am ?_|(apply zdQ fun K hK=>?_)|(apply zdP 12 [(2,19),(7,19),(10,19),(16,19)] fun K hK=>?_)|(apply zdP 20 [(2,19),(6,19),(9,19),(11,19),(14,19),(15,19)] fun K hK=>?_)|(apply zdU ?_;try intro _)|(apply zdV ?_ ?_<;>clear hK K)|apply aH ?_|(apply lD (fun hg hgp=>?_) (fun hg hgp=>?_)<;>try(cases hg;done))|apply aA ?_|apply zdR ?_|apply aB ?_)
 all_goals first
  |exact eK
  |((refine⟨zdZ,_,fo,?_⟩;try simp only[zdY]);rw[hg2];done))
end
section
def tyK3.tyF:=ad @eI (ad @dC (ad @ge (ad @en (ad @jP (@ri)))))
open tyK3
noncomputable def Ky:{c:SC // aS 69 (Tryz.f13.body.getD .skip)=c}:=by
 refine⟨?_,?_⟩;rotate_left
 .simp only[Tryz.f13,cj,aS,zen,zel,zeu,zev,Nat.blt,Nat.ble];rfl
noncomputable def EL:En:=⟨42,true,cy x7 sD fun x=>.int .i64 (zey x.l x.n x.k)⟩
theorem Y0(ρ:Nat->Int):zeO Tryz.prog ρ EL:=zeV fun x hx=>YZ ρ x hx
noncomputable def AU:List En:=[nW EL]
theorem Y1(ρ:Nat->Int):fH Tryz.prog ρ AU:=⟨xQ (Y0 ρ),trivial⟩
theorem Y2(l:List Nd):cP 60 (zfe l)=zfe l:=by
 show AV.lst ((l.map Nd.cells).map fun row=>row.map (cP 59))=_;rw[u7];have e:(fun row=>row.map (cP 59)) ∘ Nd.cells=Nd.cells:=by
  funext x
  show(x.cells).map (cP 59)=x.cells;rw[Nd.cells];simp only[eF,kP,AH 57];rfl
 rw[e]
theorem Y3(y:NsX):(sD y).any (lJ 90)=false:=by
 obtain⟨l,⟨op,imm,kids⟩,s⟩:=y;rfl
theorem Y4(S:Nat->Prop)(H:Hp)(n:Nd):zeS S 3 H (.agg n.cells) (.agg n.cells):=by
 refine⟨n.cells,?_,rfl⟩;rw[Nd.cells];exact⟨nV ⟨.int _ _,trivial⟩,nV ⟨.int _ _,trivial⟩,nV ⟨zgt _,trivial⟩,trivial⟩
theorem Y5{tb:List En}(ht:∀ar,zeN tb 42 ar=(nW EL).sp ar)(hi:jx tb 42=true){H:Hp}{v:AV}{s:List Int}{lo:Nat}(hv:ze0 H v s lo)(l:List Nd)(n:Nd)(hok:x7 ⟨l,n,s⟩):
 zd5 Tryz.prog (zdW pls tb) 42 [zfe l,.agg n.cells,v] H fun w H'=>w=.int .i64 (zey l n s)/\Icy (fun k=>lo<=k) H H':=by
 obtain⟨u,h1,h2⟩:=hv.ic;refine x4 (x:=(⟨l,n,s⟩:NsX)) (enc:=sD) (ok:=x7) (out:=fun x=>.int .i64 (zey x.l x.n x.k)) (us:=[zfe l,.agg n.cells,u]) (n:=3) YO (fun ar=>by rw[ht];rfl) hi Y3 hok ac ⟨nV ⟨mR _,trivial⟩,Y4 _ _ _,h1,trivial⟩ ?_;show [cP 60 (zfe l),cP 60 (.agg n.cells),cP 60 u]=_;rw[h2,Kh 56,Y2];rfl
theorem Y6{l:List Nd}{i:Nat}(hi:i<l.length){n:Nd}{s:List Int}(hn:l[i]?=some n)(hk:zfo i (zew l i) n.kids=some s):zfJ l i (zew l i)=zey l n s:=by
 rw[<-XL ac,Eb,hn];simp only[hk]
theorem Y7{l:List Nd}{i:Nat}{kn s:List Int}{n:Nd}(hi:i<l.length)(hl:zfi l)(hn:l[i]?=some n)(hk:zfo i kn n.kids=some s):x7 ⟨l,n,s⟩:=by
 have hb:=hl.2 n (lw hn);have e:=su hk;refine⟨e,ro,fun _ h1=>?_⟩;obtain⟨k,hk1⟩:=nY h1;simp only[]at hk1⊢;obtain⟨h3,h4,_⟩:=ss hk k JL;obtain⟨m,rfl⟩:=gG h3;have hm:m<l.length:=ac;exact⟨m,l[m],hk1,br hm,hl.2 _ (dX hm)⟩
theorem ze0.at{H:Hp}{v:AV}{l:List Int}{lo:Nat}(h:ze0 H v l lo){i:Nat}(hi:i<l.length):
 ∃r,zeE Tryz.prog 23 v (.int .i64 (i:Int))=some (.ptr r i)/\zfC Tryz.prog H 3 (.ptr r i)=some (.int .i64 l[i]):=by
 rcases h with⟨_,rfl⟩|h
 .simp at hi
 .exact h.at hi
set_option maxRecDepth 100000 in
theorem Y8(ρ:Nat->Int)(l:List Nd)(hl:zfi l):bV Tryz.prog ρ 13 [zfe l] (zeG (zew l l.length)):=An (n:=3) (se (r:=sr (zew l l.length)) (m:=3) (cfg:=zdW pls AU) fit (ly ρ) (fH.look (Y1 ρ)) (.cons (mR _) .nil) (by
 have hl0:=hl;obtain⟨hl1,hl2⟩:=hl;have hw:Plain (zdW pls AU) 13:=zfv (fun _=>rfl) rfl;have hkeep:(zdW pls AU).keep 13=false:=rfl;refine zed (M:=69) (rs:=[.tmp 2]) (hw.call _) hw.ice hw.froz Tryz.func13 rfl rfl Ky.2 rfl ?_;dsimp only[Ky,zd8,Nat.reduceAdd];repeat' (first
  |(apply au ?_;clear hK K)|apply Rx.o ?_|(apply aT (fun hb hbp=>?_) (fun hb hbp=>?_)<;>try(cases hb;done))|apply am ?_|(apply zdQ fun K hK=>?_)|apply aA ?_|apply zdR ?_|apply aB ?_|apply zdT ?_)
 refine zeL [0,2] [] 4 l.length (fun i E H=>∃v,E.at 3=v/\nX H v (zew l i) 0) eE ⟨.nilS,eE,.inl ⟨rfl,rfl⟩⟩ ?_;rintro i E H2 hi hcE hrH hnH hsI ⟨v,k3,hv⟩;(try simp only[zec,zeb,aX,zdX,zd2,Nat.reduceBEq,Nat.reduceAdd,Nat.reduceLeDiff,tyF, *]at hcE);(try simp only[zec,zeb,aX,zdX,zd2,Nat.reduceBEq,Nat.reduceAdd,Nat.reduceLeDiff,tyF, *]at hrH);(try simp only[zea,zef,zeB,bT,Nat.reduceAdd]at hnH);repeat' (first
  |(apply au ?_;clear hK K)|apply Rx.o ?_|(apply aT (fun hb hbp=>?_) (fun hb hbp=>?_)<;>try(cases hb;done))|apply am ?_|(apply zdQ fun K hK=>?_)|apply aA ?_|apply zdR ?_|apply aB ?_|apply zdT ?_)
 .have hlt:i<l.length:=by simpa using hb
  have hgi:l[i]?=some l[i]:=br hlt;have hnk:=hl2 _ (dX hlt);generalize l[i]=n at *;repeat' (first
   |(apply au ?_;clear hK K)|apply Rx.o ?_|(apply aT (fun hb hbp=>?_) (fun hb hbp=>?_)<;>try(cases hb;done))|apply am ?_|(apply zdQ fun K hK=>?_)|apply aA ?_|apply zdR ?_|apply aB ?_|apply zdT ?_)
  refine zeL [0,2,3,4] [] 7 n.kids.length (fun j E H=>∃w s,E.at 5=w/\ze0 H w s H2.next/\rj i (zew l i) n.kids j s/\E.at 6=.bool true/\∀k,k<H2.next->H.get k=H2.get k) eE ⟨.nilS,[],eE,.inl ⟨rfl,rfl⟩,⟨rfl,aK⟩,eE,fun _ _=>rfl⟩ ?_;rintro j E3 H3 hj hcE hrH hnH hsI ⟨w,s,k5,hws,hJ,k6,hold⟩;(try simp only[zec,zeb,aX,zdX,zd2,Nat.reduceBEq,Nat.reduceAdd,Nat.reduceLeDiff,tyF, *]at hcE);(try simp only[zec,zeb,aX,zdX,zd2,Nat.reduceBEq,Nat.reduceAdd,Nat.reduceLeDiff,tyF, *]at hrH);(try simp only[zea,zef,zeB,bT,Nat.reduceAdd]at hnH);repeat' (first
   |(apply au ?_;clear hK K)|apply Rx.o ?_|(apply aT (fun hb hbp=>?_) (fun hb hbp=>?_)<;>try(cases hb;done))|apply am ?_|(apply zdQ fun K hK=>?_)|apply aA ?_|apply zdR ?_|apply aB ?_|apply zdT ?_)
  .have hlt2:j<n.kids.length:=by simpa using hb
   have hgx:n.kids[j]?=some n.kids[j]:=br hlt2;generalize n.kids[j]=kd at *;have hv3:nX H3 v (zew l i) 0:=hv.keep ac fun k hk=>hold k (hv.n.lt hk).2;have hvb:∀(x:Int),ze0 (H3.alloc (.cells [.int .i64 x] 0 true)) v (zew l i) 0:=fun x=>hv3.n.keep (cZ _) fun k hk=>Eh;by_cases cbad:kd<0\/(i:Int)<=kd\/(zew l i).getD kd.toNat 0=0
   .have hs0:zfJ l i (zew l i)=0:=AI hgi (hJ.bad hgx cbad);have hsn:zew l (i+1)=zew l i++[0]:=by rw[zew,hs0]
    obtain⟨v5,H5,a5,s5,n5,f5,o5⟩:=pi (r:=H3.next) (imm:=0) 0 (hvb 0) (dE _) eR qU;have n5':H2.next<=H5.next:=pm
    clear n5 f5 o5 hvb;by_cases c1:kd<0
    .repeat' (first
      |(apply au ?_;clear hK K)|apply Ry.o ?_|(apply bS (fun hg hgp=>?_) (fun hg hgp=>?_)<;>try(cases hg;done))|(apply aV (fun hb hbp=>?_) (fun hb hbp=>?_)<;>try(cases hb;done))|apply am ?_|(apply zdQ fun K hK=>?_)|apply aA ?_|apply zdR ?_|apply aB ?_|apply zdT ?_)
     refine⟨ac,zd7,zd7,eN,oZ,?_⟩;exact⟨v5,eE,.inr ⟨by rw[hsn];simp,AQ⟩⟩
    by_cases c2:(i:Int)<=kd
    .have c1':¬kd<0:=c1;repeat' (first
      |(apply au ?_;clear hK K)|apply Ry.o ?_|(apply bS (fun hg hgp=>?_) (fun hg hgp=>?_)<;>try(cases hg;done))|(apply aV (fun hb hbp=>?_) (fun hb hbp=>?_)<;>try(cases hb;done))|apply am ?_|(apply zdQ fun K hK=>?_)|apply aA ?_|apply zdR ?_|apply aB ?_|apply zdT ?_)
     refine⟨ac,zd7,zd7,eN,oZ,?_⟩;exact⟨v5,eE,.inr ⟨by rw[hsn];simp,AQ⟩⟩
    have hb0:(zew l i).getD kd.toNat 0=0:=by
     rcases cbad with h|h|h
     .exact absurd h c1
     .exact absurd h c2
     .exact h
    clear cbad;obtain⟨m,rfl⟩:=gG (xY.1 c1);have hml:m<(zew l i).length:=qU;obtain⟨q,hix,hlo⟩:=hv3.n.at hml;have hgk:(zew l i)[m]=0:=by
     rw[gH,dM,br hml]at hb0;exact hb0
    rw[hgk]at hlo;repeat' (first
     |(apply au ?_;clear hK K)|apply Ry.o ?_|(apply bS (fun hg hgp=>?_) (fun hg hgp=>?_)<;>try(cases hg;done))|(apply aV (fun hb hbp=>?_) (fun hb hbp=>?_)<;>try(cases hb;done))|apply am ?_|(apply zdQ fun K hK=>?_)|apply aA ?_|apply zdR ?_|apply aB ?_|apply zdT ?_)
    refine⟨ac,zd7,zd7,eN,oZ,?_⟩;exact⟨v5,eE,.inr ⟨by rw[hsn];simp,AQ⟩⟩
   .have hJn:=hJ.next hgx cbad
    have c1:¬kd<0:=fun h=>cbad (.inl h);have c2:¬(i:Int)<=kd:=fun h=>cbad (.inr (.inl h));have c3:¬(zew l i).getD kd.toNat 0=0:=fun h=>cbad (.inr (.inr h));clear cbad hvb;obtain⟨m,rfl⟩:=gG (xY.1 c1);have hml:m<(zew l i).length:=qU;obtain⟨q,hix,hlo⟩:=hv3.n.at hml;have hgk:(zew l i).getD (m:Int).toNat 0=(zew l i)[m]:=by
     rw[gH,dM,br hml];rfl
    rw[hgk]at c3 hJn;generalize (zew l i)[m]=x at *;have hwb:ze0 (H3.alloc (.cells [.int .i64 x] 0 true)) w s H2.next:=hws.keep (cZ _) fun k hk=>by rw[zd1,ah (by have:=(hws.lt hk).2;omega)]
    obtain⟨v5,H5,a5,s5,n5,f5,o5⟩:=pi (r:=H3.next) (imm:=0) x hwb fx eR (by rw[hJ.1];omega);have n5':H3.next<=H5.next:=pm
    have o5':∀k,k<H2.next->H5.get k=H2.get k:=fun k hk=>by rw[f5 k hk,zd1,ah ac,hold k hk]
    clear n5 f5 o5 hJ hold hv3;repeat' (first
     |(apply au ?_;clear hK K)|apply Ry.o ?_|(apply bS (fun hg hgp=>?_) (fun hg hgp=>?_)<;>try(cases hg;done))|(apply aV (fun hb hbp=>?_) (fun hb hbp=>?_)<;>try(cases hb;done))|apply am ?_|(apply zdQ fun K hK=>?_)|apply aA ?_|apply zdR ?_|apply aB ?_|apply zdT ?_)
    refine⟨ac,zd7,zd7,eN,xW,?_⟩;exact⟨v5,s++[x],eE,.inr s5,hJn,eE,o5'⟩
  .have hje:j=n.kids.length:=by omega
   rw[hje]at hJ;have hv3:nX H3 v (zew l i) 0:=hv.keep ac fun k hk=>hold k (hv.n.lt hk).2;have hs1:=Y6 hlt hgi hJ.done;have hok:=Y7 hlt hl0 hgi hJ.done;have hsn:zew l (i+1)=zew l i++[zey l n s]:=by rw[zew,hs1]
   repeat' (first
    |(apply au ?_;clear hK K)|apply Rx.o ?_|(apply aT (fun hb hbp=>?_) (fun hb hbp=>?_)<;>try(cases hb;done))|apply am ?_|(apply zdQ fun K hK=>?_)|apply aA ?_|apply zdR ?_|apply aB ?_|apply zdT ?_)
   refine bA rfl bE bF ?_;simp only[bB];refine bp ?_ (Y5 (fun _=>rfl) rfl hws l n hok);rintro x H4 ⟨rfl,hy⟩;have n4:=hy.next
   have n4':H2.next<=H4.next:=ac
   have hv4:nX H4 v (zew l i) 0:=hv3.keep ac fun k hk=>hy.out k JK;clear hy n4 hws hJ hold hv3 hs1 hok;dsimp only[zd4];generalize zey l n s=x at *;have hvb:ze0 (H4.alloc (.cells [.int .i64 x] 0 true)) v (zew l i) 0:=hv4.n.keep (cZ _) fun k hk=>by rw[zd1,ah (by have:=(hv4.n.lt hk).2;omega)]
   obtain⟨v5,H5,a5,s5,n5,f5,o5⟩:=pi (r:=H4.next) (imm:=0) x hvb (dE _) eR qU;have n5':H2.next<=H5.next:=pm
   clear n5 f5 o5 hvb;repeat' (first
    |(apply au ?_;clear hK K)|apply Rx.o ?_|(apply aT (fun hb hbp=>?_) (fun hb hbp=>?_)<;>try(cases hb;done))|apply am ?_|(apply zdQ fun K hK=>?_)|apply aA ?_|apply zdR ?_|apply aB ?_|apply zdT ?_)
   refine⟨ac,zd7,zd7,eN,oZ,?_⟩;exact⟨v5,eE,.inr ⟨by rw[hsn];simp,AQ⟩⟩
 .have hie:i=l.length:=by simp at hb;omega
  rw[hie]at hv;repeat' (first
   |(apply au ?_;clear hK K)|apply Rx.o ?_|(apply aT (fun hb hbp=>?_) (fun hb hbp=>?_)<;>try(cases hb;done))|apply am ?_|(apply zdQ fun K hK=>?_)|apply aA ?_|apply zdR ?_|apply aB ?_|apply zdT ?_)
  all_goals (refine⟨zdZ,_,zd6,?_⟩;try simp only[zdY])
  exact hv.iceV 1)) (D7 1 _)
end
section
def tyR3c.tyF:=ad @eI (ad @dC (ad @eU (ad @jO (ad @kO (ad @iw (ad @iy (ad @hO (ad @gg (ad @fW (ad @r7 (ad @qO (ad @iz (ad @JU (ad @JV (@JW)))))))))))))))
open tyR3c
noncomputable def Kz:{c:SC // aS 50 (Tryz.f103.body.getD .skip)=c}:=by
 refine⟨?_,?_⟩;rotate_left
 .simp only[Tryz.f103,cj,aS,zen,zel,zeu,zev,Nat.blt,Nat.ble];rfl
noncomputable def KA:{c:SC // aS 94 (Tryz.f58.body.getD .skip)=c}:=by
 refine⟨?_,?_⟩;rotate_left
 .simp only[Tryz.f58,cj,aS,zen,zel,zeu,zev,Nat.blt,Nat.ble];rfl
mutual
def od:St->Bool
 | .mk _ _ _ _ a v args th el=>decide ((20:Int)<zfb a)||decide ((20:Int)<zfb v)||j0 th||j0 el||args.any fun e=>decide ((20:Int)<zfb e)
def j0:List St->Bool
 |[]=>false
 |x::l=>od x||j0 l
end
theorem Y9(x:St):od x=(decide ((20:Int)<zfb x.at_)||decide ((20:Int)<zfb x.value)||j0 x.thn||j0 x.els||x.args.any fun e=>decide ((20:Int)<zfb e)):=by cases x;rw[od];rfl
noncomputable def x8:En:=⟨104,false,cy (fun x=>x.sz<2^60) jy fun x=>.int .i64 (zfb x)⟩
theorem KB(ρ:Nat->Int):zeO Tryz.prog ρ x8:=zeV fun x hx=>XW ρ x hx
theorem Za(ρ:Nat->Int):∀x:List St,zep x<2^60->bV Tryz.prog ρ 103 (lI x) (.bool (j0 x)):=
 tS fit (pls:=pls) (l:=[x8]) ⟨KB ρ,trivial⟩ (fun x=>zep x) (ok:=fun x=>zep x<2^60) (enc:=lI) (out:=fun x=>.bool (j0 x)) (fun x _=>.cons (xE _) .nil) (fun x _=>.bool _) (fun x hx=>by
 have hw:=tY (sz:=fun x:List St=>zep x) (ok:=fun x=>zep x<2^60) (out:=fun x=>.bool (j0 x)) vG (f:=103) (l:=[x8]) x;generalize hl:(⟨103,false,cy (fun y=>zep y<2^60/\zep y<zep x) lI fun x=>.bool (j0 x)⟩:En)::[x8]=l at hw⊢;have kr:∀(y:List St),zep y<zep x->∀H,zd5 Tryz.prog (zdW pls l) 103 [.lst (y.map St.cells)] H fun v H'=>v=.bool (j0 y)/\H'=H:=fun y h2 H=>by
  subst hl;exact zeJ (enc:=lI) (out:=fun x=>.bool (j0 x)) vG (x:=y) rfl ⟨ac,h2⟩
 have kd:∀y:Ex,y.sz<2^60->∀H,zd5 Tryz.prog (zdW pls l) 104 [.agg y.cells] H fun v H'=>v=.int .i64 (zfb y)/\H'=H:=fun y h1 H=>by
  subst hl;exact zeJ (enc:=jy) (out:=fun x=>.int .i64 (zfb x)) qf (x:=y) rfl h1
 have hlen:=tT x;change zd5 _ _ _ [.lst (x.map St.cells)] _ _;refine zed (M:=50) (rs:=[.tmp 2]) hw.call hw.ice hw.froz Tryz.func103 rfl rfl Kz.2 rfl ?_;dsimp only[Kz,zd8,Nat.reduceAdd];repeat' (first
  |(apply au ?_;clear hK K)|apply Rx.o ?_|apply ba ?_|(apply bQ (fun hg hgp=>?_) (fun hg hgp=>?_)<;>try(cases hg;done))|(apply aT (fun hb hbp=>?_) (fun hb hbp=>?_)<;>try(cases hb;done))|apply am ?_|(apply zdQ fun K hK=>?_)|apply aA ?_|apply zdR ?_|apply aB ?_|apply zdT ?_)
 refine zeL [0] [] 3 x.length (fun i E H=>j0 x=j0 (x.drop i)) eE aK ?_;rintro i E H2 hi hcE hrH hnH hsI hJ;(try simp only[zec,zeb,aX,zdX,zd2,Nat.reduceBEq,Nat.reduceAdd,Nat.reduceLeDiff,tyF, *]at hcE);(try simp only[zec,zeb,aX,zdX,zd2,Nat.reduceBEq,Nat.reduceAdd,Nat.reduceLeDiff,tyF, *]at hrH);(try simp only[zea,zef,zeB,bT,Nat.reduceAdd]at hnH);repeat' (first
  |(apply au ?_;clear hK K)|apply Rx.o ?_|apply ba ?_|(apply bQ (fun hg hgp=>?_) (fun hg hgp=>?_)<;>try(cases hg;done))|(apply aT (fun hb hbp=>?_) (fun hb hbp=>?_)<;>try(cases hb;done))|apply am ?_|(apply zdQ fun K hK=>?_)|apply aA ?_|apply zdR ?_|apply aB ?_|apply zdT ?_)
 .have hlt:i<x.length:=by simpa using hb
  have hgx:x[i]?=some x[i]:=br hlt;have hsm:=zgw (dX hlt);have hsz:=x[i].sz_eq;have hla:=sf x[i].args;have hdr:j0 (x.drop i)=(od x[i]||j0 (x.drop (i+1))):=ki;rw[Y9]at hdr;repeat' (first
   |(apply au ?_;clear hK K)|apply Rx.o ?_|apply ba ?_|(apply eu ?_;first|refine Rx.k (kd _ ac _) ?_|refine Rx.k (kr _ ac _) ?_)|(apply bQ (fun hg hgp=>?_) (fun hg hgp=>?_)<;>try(cases hg;done))|(apply aT (fun hb hbp=>?_) (fun hb hbp=>?_)<;>try(cases hb;done))|apply am ?_|(apply zdQ fun K hK=>?_)|apply aA ?_|apply zdR ?_|apply aB ?_|apply zdT ?_)
  rotate_left
  .refine zeL [0,3,4] [H2.next] 5 x[i].args.length (fun j E H=>(x[i].args.any fun e=>decide ((20:Int)<zfb e))=(x[i].args.drop j).any fun e=>decide ((20:Int)<zfb e)) eE aK ?_;rintro j E3 H3 hj hcE hrH hnH hsI hJ2;(try simp only[zec,zeb,aX,zdX,zd2,Nat.reduceBEq,Nat.reduceAdd,Nat.reduceLeDiff,tyF, *]at hcE);(try simp only[zec,zeb,aX,zdX,zd2,Nat.reduceBEq,Nat.reduceAdd,Nat.reduceLeDiff,tyF, *]at hrH);(try simp only[zea,zef,zeB,bT,Nat.reduceAdd]at hnH);have hB0:(H2.next == H3.next)=false:=zeq ac;have hC0:(H3.next == H2.next)=false:=zeq ac;repeat' (first
    |(apply au ?_;clear hK K)|apply Rx.o ?_|apply ba ?_|(apply bQ (fun hg hgp=>?_) (fun hg hgp=>?_)<;>try(cases hg;done))|(apply aT (fun hb hbp=>?_) (fun hb hbp=>?_)<;>try(cases hb;done))|apply am ?_|(apply zdQ fun K hK=>?_)|apply aA ?_|apply zdR ?_|apply aB ?_|apply zdT ?_)
   .have hlt2:j<x[i].args.length:=by simpa using hb
    have hgx2:x[i].args[j]?=some x[i].args[j]:=br hlt2;have hsm2:=zgB (dX hlt2);have hdr2:((x[i].args.drop j).any fun e=>decide ((20:Int)<zfb e))=(decide ((20:Int)<zfb x[i].args[j])||(x[i].args.drop (j+1)).any fun e=>decide ((20:Int)<zfb e)):=by rw[jl hlt2];rfl
    repeat' (first
     |(apply au ?_;clear hK K)|apply Rx.o ?_|apply ba ?_|(apply eu ?_;first|refine Rx.k (kd _ ac _) ?_)|(apply bQ (fun hg hgp=>?_) (fun hg hgp=>?_)<;>try(cases hg;done))|(apply aT (fun hb hbp=>?_) (fun hb hbp=>?_)<;>try(cases hb;done))|apply am ?_|(apply zdQ fun K hK=>?_)|apply aA ?_|apply zdR ?_|apply aB ?_|apply zdT ?_)
    .all_goals (refine⟨zdZ,_,zd6,?_⟩;try simp only[zdY])
     rw[hJ,hdr,hJ2,hdr2];(try simp only[cW]at *);simp only[ *,cX,bN,bU,Int.reduceEq]
    .refine⟨ac,zd7,zd7,eN,(by simp only[zdX,Nat.reduceBEq, *];exact zfQ (n:=x[i].args.length) ac ac),?_⟩;rw[hJ2,hdr2];(try simp only[cW]at *);simp only[ *,cX,bN,bU,Int.reduceEq]
   .refine⟨ac,zd7,zd7,eN,vF,?_⟩;have hje:j=x[i].args.length:=AR;rw[hje,gR,so]at hJ2;rw[hJ,hdr,hJ2];(try simp only[cW]at *);simp only[ *,cX,bN,bU,Int.reduceEq]
  all_goals
   all_goals (refine⟨zdZ,_,zd6,?_⟩;try simp only[zdY])
   rw[hJ,hdr];(try simp only[cW]at *);simp only[ *,cX,bN,bU,Int.reduceEq]
 .all_goals (refine⟨zdZ,_,zd6,?_⟩;try simp only[zdY])
  rw[hJ,show i=x.length by simp at hb;omega];simp[j0])
def me(p:Pr):List AV:=[.agg p.cells]
theorem x9(x y:Pr)(h:me x=me y):x=y:=by simp only[me,eD,AV.agg.injEq,aX]at h;exact Pr.inj h
noncomputable def KC:En:=⟨102,false,cy (fun x=>zep x.1+x.2<2^60) rh sy⟩
theorem Zb(ρ:Nat->Int):zeO Tryz.prog ρ KC:=zeV fun x hx=>X2 ρ x hx
noncomputable def KD:En:=⟨103,false,cy (fun x=>zep x<2^60) lI fun x=>.bool (j0 x)⟩
theorem Zc(ρ:Nat->Int):zeO Tryz.prog ρ KD:=zeV fun x hx=>Za ρ x hx
def qg(f:Fu):Bool:=decide ((6:Int)<f.params.length)||decide ((8:Int)<f.locals.length)||decide ((200:Int)<nS f.body)||decide ((16:Int)<zfE f.body)||decide ((20:Int)<zfO f.body 0)||j0 f.body||decide ((20:Int)<zfb f.value)
def rp(a:Ar):Bool:=decide (a.len<1)||decide (16<a.len)
def kT(p:Pr):Bool:=decide ((4:Int)<p.arrays.length)||decide ((8:Int)<p.funcs.length)||p.arrays.any rp||p.funcs.any qg
noncomputable def ya:List En:=[x8,KC,KD]
theorem Zd(ρ:Nat->Int):fH Tryz.prog ρ ya:=⟨KB ρ,Zb ρ,Zc ρ,trivial⟩
theorem Ze(ρ:Nat->Int)(p:Pr)(hz:p.sz<2^60):bV Tryz.prog ρ 58 [.agg p.cells] (.bool (kT p)):=zfq fit (pls:=pls) (Zd ρ) (.cons (.agg p.pure) .nil) (.bool _) (by
 have hw:Plain (zdW pls ya) 58:=zfv (fun _=>rfl) rfl;have kd:∀y:Ex,y.sz<2^60->∀H,zd5 Tryz.prog (zdW pls ya) 104 [.agg y.cells] H fun v H'=>v=.int .i64 (zfb y)/\H'=H:=fun y h1 H=>zeJ (enc:=jy) (out:=fun x=>.int .i64 (zfb x)) qf (x:=y) rfl h1;have kt:∀y:List St,zep y<2^60->∀H,zd5 Tryz.prog (zdW pls ya) 103 [.lst (y.map St.cells)] H fun v H'=>v=.bool (j0 y)/\H'=H:=fun y h1 H=>zeJ (enc:=lI) (out:=fun x=>.bool (j0 x)) vG (x:=y) rfl h1;have kc:∀y:List St,zep y<2^60->∀H,zd5 Tryz.prog (zdW pls ya) 102 [.lst (y.map St.cells),.int .i64 0] H fun v H'=>v=.tup [.int .i64 (nS y),.int .i64 (zfE y),.int .i64 (zfO y 0)]/\H'=H:=fun y h1 H=>zeJ (enc:=rh) (out:=sy) Ep (x:=(y,0)) rfl zk;have hpz:p.sz=1+zf2 p.arrays+iZ p.funcs:=rfl;have hla:=qR p.arrays;have hlf:=qQ p.funcs;refine zed (M:=94) (rs:=[.tmp 2]) (hw.call _) hw.ice hw.froz Tryz.func58 rfl rfl KA.2 rfl ?_;dsimp only[KA,zd8,Nat.reduceAdd];repeat' (first
  |(apply au ?_;clear hK K)|apply Rx.o ?_|apply ba ?_|(apply bQ (fun hg hgp=>?_) (fun hg hgp=>?_)<;>try(cases hg;done))|(apply aT (fun hb hbp=>?_) (fun hb hbp=>?_)<;>try(cases hb;done))|apply am ?_|(apply zdQ fun K hK=>?_)|apply aA ?_|apply zdR ?_|apply aB ?_|apply zdT ?_)
 all_goals (first|(refine⟨zdZ,_,zd6,?_⟩;(try simp only[zdY]);rw[kT];(try simp only[cW]at *);simp only[ *,cX,bN,bU,Int.reduceEq];done)|skip)
 .refine zeL [1] [0] 3 p.arrays.length (fun i E H=>p.arrays.any rp=(p.arrays.drop i).any rp) eE aK ?_;rintro i E H2 hi hcE hrH hnH hsI hJ;(try simp only[zec,zeb,aX,zdX,zd2,Nat.reduceBEq,Nat.reduceAdd,Nat.reduceLeDiff,tyF, *]at hcE);(try simp only[zec,zeb,aX,zdX,zd2,Nat.reduceBEq,Nat.reduceAdd,Nat.reduceLeDiff,tyF, *]at hrH);(try simp only[zea,zef,zeB,bT,Nat.reduceAdd]at hnH);have hB0:(0 == H2.next)=false:=zeq ac;have hC0:(H2.next == 0)=false:=zeq ac;repeat' (first
   |(apply au ?_;clear hK K)|apply Rx.o ?_|apply ba ?_|(apply bQ (fun hg hgp=>?_) (fun hg hgp=>?_)<;>try(cases hg;done))|(apply aT (fun hb hbp=>?_) (fun hb hbp=>?_)<;>try(cases hb;done))|apply am ?_|(apply zdQ fun K hK=>?_)|apply aA ?_|apply zdR ?_|apply aB ?_|apply zdT ?_)
  .have hlt:i<p.arrays.length:=by simpa using hb
   have hgx:p.arrays[i]?=some p.arrays[i]:=br hlt;have hdr:(p.arrays.drop i).any rp=(rp p.arrays[i]||(p.arrays.drop (i+1)).any rp):=AS;rw[rp]at hdr;repeat' (first
    |(apply au ?_;clear hK K)|apply Rx.o ?_|apply ba ?_|(apply bQ (fun hg hgp=>?_) (fun hg hgp=>?_)<;>try(cases hg;done))|(apply aT (fun hb hbp=>?_) (fun hb hbp=>?_)<;>try(cases hb;done))|apply am ?_|(apply zdQ fun K hK=>?_)|apply aA ?_|apply zdR ?_|apply aB ?_|apply zdT ?_)
   all_goals (first|(refine⟨zdZ,_,zd6,?_⟩;(try simp only[zdY]);rw[kT,hJ,hdr];(try simp only[cW]at *);simp only[ *,cX,bN,bU,Int.reduceEq];done)|skip)
   refine⟨ac,zd7,zd7,eN,AT,?_⟩;rw[hJ,hdr];(try simp only[cW]at *);simp only[ *,cX,bN,bU,Int.reduceEq]
  .have hie:i=p.arrays.length:=by simp at hb;omega
   rw[hie,gR,so]at hJ;clear hb hie hsI hi;refine zeL [1] [0] 4 p.funcs.length (fun i E H=>p.funcs.any qg=(p.funcs.drop i).any qg) eE aK ?_;rintro i E H2 hi hcE hrH hnH hsI hJ2;(try simp only[zec,zeb,aX,zdX,zd2,Nat.reduceBEq,Nat.reduceAdd,Nat.reduceLeDiff,tyF, *]at hcE);(try simp only[zec,zeb,aX,zdX,zd2,Nat.reduceBEq,Nat.reduceAdd,Nat.reduceLeDiff,tyF, *]at hrH);(try simp only[zea,zef,zeB,bT,Nat.reduceAdd]at hnH);have hB0:(0 == H2.next)=false:=zeq ac;have hC0:(H2.next == 0)=false:=zeq ac;repeat' (first
    |(apply au ?_;clear hK K)|apply Rx.o ?_|apply ba ?_|(apply bQ (fun hg hgp=>?_) (fun hg hgp=>?_)<;>try(cases hg;done))|(apply aT (fun hb hbp=>?_) (fun hb hbp=>?_)<;>try(cases hb;done))|apply am ?_|(apply zdQ fun K hK=>?_)|apply aA ?_|apply zdR ?_|apply aB ?_|apply zdT ?_)
   .have hlt:i<p.funcs.length:=by simpa using hb
    have hgx:p.funcs[i]?=some p.funcs[i]:=br hlt;have hdr:(p.funcs.drop i).any qg=(qg p.funcs[i]||(p.funcs.drop (i+1)).any qg):=AS;rw[qg]at hdr;have hsm:=sg (dX hlt);have hsz:p.funcs[i].sz=1+p.funcs[i].name.length+zfR p.funcs[i].params+zfR p.funcs[i].locals+zep p.funcs[i].body+p.funcs[i].value.sz:=rfl;repeat' (first
     |(apply au ?_;clear hK K)|apply Rx.o ?_|apply ba ?_|(apply eu ?_;first|refine Rx.k (kd _ ac _) ?_|refine Rx.k (kt _ ac _) ?_|refine Rx.k (kc _ ac _) ?_)|(apply bQ (fun hg hgp=>?_) (fun hg hgp=>?_)<;>try(cases hg;done))|(apply aT (fun hb hbp=>?_) (fun hb hbp=>?_)<;>try(cases hb;done))|apply am ?_|(apply zdQ fun K hK=>?_)|apply aA ?_|apply zdR ?_|apply aB ?_|apply zdT ?_)
    all_goals (first|(refine⟨zdZ,_,zd6,?_⟩;(try simp only[zdY]);rw[kT,hJ,hJ2,hdr];(try simp only[cW]at *);simp only[ *,cX,bN,bU,Int.reduceEq];done)|skip)
    refine⟨ac,zd7,zd7,eN,tW,?_⟩;rw[hJ2,hdr];(try simp only[cW]at *);simp only[ *,cX,bN,bU,Int.reduceEq]
   .all_goals (refine⟨zdZ,_,zd6,?_⟩;try simp only[zdY])
    have hie:i=p.funcs.length:=AR;rw[hie,gR,so]at hJ2;rw[kT,hJ,hJ2];(try simp only[cW]at *);simp only[ *,cX,bN,bU,Int.reduceEq])
end
section
def tyR3d.tyF:=ad @eI (ad @dC (ad @eU (ad @gg (ad @fW (ad @hO (@iz))))))
open tyR3d
noncomputable def KE:{c:SC // aS 128 (Tryz.f106.body.getD .skip)=c}:=by
 refine⟨?_,?_⟩;rotate_left
 .simp only[Tryz.f106,cj,aS,zen,zel,zeu,zev,Nat.blt,Nat.ble];rfl
noncomputable def KF:{c:SC // aS 27 (Tryz.f171.body.getD .skip)=c}:=by
 refine⟨?_,?_⟩;rotate_left
 .simp only[Tryz.f171,cj,aS,zen,zel,zeu,zev,Nat.blt,Nat.ble];rfl
def qh(x:Ex):Bool:=
 if x.kind=1 then decide ((x.kids.length:Int)=0)&&decide (x.name=[])&&decide (x.op=0)
 else if x.kind=2 then decide ((x.kids.length:Int)=0)&&decide (x.n=0)&&decide (x.op=0)&&zfG x.name
 else if x.kind=3 then decide ((x.kids.length:Int)=1)&&decide (x.n=0)&&decide (x.op=0)&&zfG x.name
 else if x.kind=4 then decide (x.n=0)&&decide (x.name=[])&&((decide ((x.kids.length:Int)=2)&&qY x.op)||(decide ((x.kids.length:Int)=1)&&(decide (x.op=20)||decide (x.op=21))))
 else if x.kind=5 then decide ((x.kids.length:Int)=3)&&decide (x.n=0)&&decide (x.name=[])&&decide (x.op=0)
 else false
mutual
def fI:Ex->Bool
 | .mk k n s o ks=>fO ks&&qh (.mk k n s o ks)
def fO:List Ex->Bool
 |[]=>true
 |e::es=>fI e&&fO es
end
theorem AW(x:Ex):fI x=(fO x.kids&&qh x):=by cases x;rw[fI];rfl
noncomputable def AY:En:=⟨46,false,cy (fun s=>s.length<2^60) pe fun s=>.bool (zfG s)⟩
theorem EM(ρ:Nat->Int):zeO Tryz.prog ρ AY:=zeV fun x hx=>Xt ρ x hx
noncomputable def KG:En:=⟨147,false,cy (fun _=>True) (fun n:Int=>[.int .i64 n]) fun n=>.bool (qY n)⟩
theorem Zf(ρ:Nat->Int):zeO Tryz.prog ρ KG:=zeV fun x _=>Xm ρ x
theorem KH(x y:Int)(h:([.int .i64 x]:List AV)=[.int .i64 y]):x=y:=jM
noncomputable def yb:En:=⟨170,false,cy (fun _=>True) jy fun x=>.bool (zeroE x)⟩
theorem KI(ρ:Nat->Int):zeO Tryz.prog ρ yb:=zeV fun x _=>Xn ρ x
noncomputable def EN:List En:=[AY,KG]
theorem Zg(ρ:Nat->Int):fH Tryz.prog ρ EN:=⟨EM ρ,Zf ρ,trivial⟩
theorem Zh(ρ:Nat->Int):∀x:Ex,x.sz<2^60->bV Tryz.prog ρ 106 (jy x) (.bool (fI x)):=
 tS fit (pls:=pls) (Zg ρ) (fun x=>x.sz) (ok:=fun x=>x.sz<2^60) (enc:=jy) (out:=fun x=>.bool (fI x)) (fun x _=>.cons (.agg x.pure) .nil) (fun x _=>.bool _) (fun x hx=>by
 have hw:=tY (sz:=fun x:Ex=>x.sz) (ok:=fun x=>x.sz<2^60) (out:=fun x=>.bool (fI x)) qf (f:=106) (l:=EN) x;generalize hl:(⟨106,false,cy (fun y=>y.sz<2^60/\y.sz<x.sz) jy fun x=>.bool (fI x)⟩:En)::EN=l at hw⊢;have kr:∀y:Ex,y.sz<x.sz->∀H,zd5 Tryz.prog (zdW pls l) 106 [.agg y.cells] H fun v H'=>v=.bool (fI y)/\H'=H:=fun y h2 H=>by
  subst hl;exact zeJ (enc:=jy) (out:=fun x=>.bool (fI x)) qf (x:=y) rfl ⟨ac,h2⟩
 have kv:∀s:List UInt8,s.length<2^60->∀H,zd5 Tryz.prog (zdW pls l) 46 [.str s] H fun v H'=>v=.bool (zfG s)/\H'=H:=fun s h1 H=>by
  subst hl;exact zeJ (enc:=pe) (out:=fun x=>.bool (zfG x)) xM (x:=s) rfl h1
 have kb:∀n:Int,∀H,zd5 Tryz.prog (zdW pls l) 147 [.int .i64 n] H fun v H'=>v=.bool (qY n)/\H'=H:=fun n H=>by
  subst hl;exact zeJ (enc:=fun n:Int=>[.int .i64 n]) (out:=fun x=>.bool (qY x)) KH (x:=n) rfl trivial
 have hsz:=x.sz_eq;have hlen:=sf x.kids;change zd5 _ _ _ [.agg x.cells] _ _;refine zed (M:=128) (rs:=[.tmp 2]) hw.call hw.ice hw.froz Tryz.func106 rfl rfl KE.2 rfl ?_;dsimp only[KE,zd8,Nat.reduceAdd];repeat' (first
  |(apply au ?_;clear hK K)|apply Rx.o ?_|apply eJ ?_|(apply bQ (fun hg hgp=>?_) (fun hg hgp=>?_)<;>try(cases hg;done))|(apply aT (fun hb hbp=>?_) (fun hb hbp=>?_)<;>try(cases hb;done))|apply am ?_|(apply zdQ fun K hK=>?_)|apply aA ?_|apply zdR ?_|apply aB ?_|apply zdT ?_)
 refine zeL [1] [0] 3 x.kids.length (fun i E H=>fO x.kids=fO (x.kids.drop i)) eE aK ?_;rintro i E H2 hi hcE hrH hnH hsI hJ;(try simp only[zec,zeb,aX,zdX,zd2,Nat.reduceBEq,Nat.reduceAdd,Nat.reduceLeDiff,tyF, *]at hcE);(try simp only[zec,zeb,aX,zdX,zd2,Nat.reduceBEq,Nat.reduceAdd,Nat.reduceLeDiff,tyF, *]at hrH);(try simp only[zea,zef,zeB,bT,Nat.reduceAdd]at hnH);have hB0:(0 == H2.next)=false:=zeq ac;have hC0:(H2.next == 0)=false:=zeq ac;repeat' (first
  |(apply au ?_;clear hK K)|apply Rx.o ?_|(apply eu ?_;first|refine Rx.k (kv _ ac _) ?_|refine Rx.k (kb _ _) ?_)|apply eJ ?_|(apply bQ (fun hg hgp=>?_) (fun hg hgp=>?_)<;>try(cases hg;done))|(apply aT (fun hb hbp=>?_) (fun hb hbp=>?_)<;>try(cases hb;done))|apply am ?_|(apply zdQ fun K hK=>?_)|apply aA ?_|apply zdR ?_|apply aB ?_|apply zdT ?_)
 .have hlt:i<x.kids.length:=by simpa using hb
  have hgx:x.kids[i]?=some x.kids[i]:=br hlt;have hm:=zgB (dX hlt);have hdr:fO (x.kids.drop i)=(fI x.kids[i]&&fO (x.kids.drop (i+1))):=ki;repeat' (first
   |(apply au ?_;clear hK K)|apply Rx.o ?_|(apply eu ?_;first|refine Rx.k (kr _ ac _) ?_)|apply eJ ?_|(apply bQ (fun hg hgp=>?_) (fun hg hgp=>?_)<;>try(cases hg;done))|(apply aT (fun hb hbp=>?_) (fun hb hbp=>?_)<;>try(cases hb;done))|apply am ?_|(apply zdQ fun K hK=>?_)|apply aA ?_|apply zdR ?_|apply aB ?_|apply zdT ?_)
  all_goals (first|(refine⟨zdZ,_,zd6,?_⟩;(try simp only[zdY]);rw[AW,hJ,hdr];(try simp only[cW]at *);simp only[ *,cX,bN,bU,Int.reduceEq];done)|skip)
  refine⟨ac,zd7,zd7,eN,Eg,?_⟩;rw[hJ,hdr];(try simp only[cW]at *);simp only[ *,cX,bN,bU,Int.reduceEq]
 all_goals
  have hie:i=x.kids.length:=ac;rw[hie,gR]at hJ;have hJ':fO x.kids=true:=hJ;clear hJ;all_goals (refine⟨zdZ,_,zd6,?_⟩;try simp only[zdY])
  rw[AW,hJ',qh];(try simp only[cW]at *);simp only[ *,cX,bN,bU,Int.reduceEq])
end
section
def tyR3e.tyF:=ad @eI (ad @dC (ad @eU (ad @hO (ad @gg (ad @fW (@iz))))))
open tyR3e
noncomputable def KJ:{c:SC // aS 202 (Tryz.f146.body.getD .skip)=c}:=by
 refine⟨?_,?_⟩;rotate_left
 .simp only[Tryz.f146,cj,aS,zen,zel,zeu,zev,Nat.blt,Nat.ble];rfl
def pr(x:St):Bool:=decide (x.name=[])&&decide (x.to=[])&&decide (x.n=0)&&zeroE x.at_&&decide ((x.args.length:Int)=0)
def pw(x:St):Bool:=decide ((x.thn.length:Int)=0)&&decide ((x.els.length:Int)=0)
def mT(x:St):Bool:=
 if x.kind=1 then pw x&&zfG x.name&&decide (x.to=[])&&decide (x.n=0)&&zeroE x.at_&&decide ((x.args.length:Int)=0)&&fI x.value
 else if x.kind=2 then pw x&&zfG x.name&&decide (x.to=[])&&decide (x.n=0)&&fI x.at_&&decide ((x.args.length:Int)=0)&&fI x.value
 else if x.kind=3 then pr x&&fI x.value
 else if x.kind=4 then pr x&&fI x.value&&decide ((x.els.length:Int)=0)
 else if x.kind=5 then pw x&&pr x&&fI x.value
 else if x.kind=6 then pw x&&zfG x.name&&zfG x.to&&decide (x.n=0)&&zeroE x.at_&&zeroE x.value
 else if x.kind=7 then pw x&&decide (x.name=[])&&decide (x.to=[])&&decide (0<=x.n)&&decide (x.n<=1000000)&&zeroE x.at_&&zeroE x.value&&decide ((x.args.length:Int)=0)
 else false
def jn(x:St):Bool:=fO x.args&&mT x
def ug(x:St):List AV:=[.agg x.cells]
theorem KK(x y:St)(h:ug x=ug y):x=y:=by simp only[ug,eD,AV.agg.injEq,aX]at h;exact St.inj h
theorem Zi(ρ:Nat->Int)(x:St):bV Tryz.prog ρ 171 [.agg x.cells] (.bool (pr x)):=zfq fit (pls:=pls) (l:=[yb]) ⟨KI ρ,trivial⟩ (.cons (.agg x.pure) .nil) (.bool _) (by
 have hw:Plain (zdW pls [yb]) 171:=zfv (fun _=>rfl) rfl;have kz:∀y:Ex,∀H,zd5 Tryz.prog (zdW pls [yb]) 170 [.agg y.cells] H fun v H'=>v=.bool (zeroE y)/\H'=H:=fun y H=>zeJ (enc:=jy) (out:=fun x=>.bool (zeroE x)) qf (x:=y) rfl trivial;refine zed (M:=27) (rs:=[.tmp 2]) (hw.call _) hw.ice hw.froz Tryz.func171 rfl rfl KF.2 rfl ?_;dsimp only[KF,zd8,Nat.reduceAdd];repeat' (first
  |(apply au ?_;clear hK K)|apply Rx.o ?_|(apply eu ?_;first|refine Rx.k (kz _ _) ?_)|(apply bQ (fun hg hgp=>?_) (fun hg hgp=>?_)<;>try(cases hg;done))|apply am ?_|(apply zdQ fun K hK=>?_)|apply aB ?_)
 all_goals
  all_goals (refine⟨zdZ,_,zd6,?_⟩;try simp only[zdY])
  rw[pr];(try simp only[cW]at *);simp only[ *,cX,bN,bU,Int.reduceEq])
noncomputable def KL:En:=⟨171,false,cy (fun _=>True) ug fun x=>.bool (pr x)⟩
theorem Zj(ρ:Nat->Int):zeO Tryz.prog ρ KL:=zeV fun x _=>Zi ρ x
noncomputable def EO:En:=⟨106,false,cy (fun x=>x.sz<2^60) jy fun x=>.bool (fI x)⟩
theorem KM(ρ:Nat->Int):zeO Tryz.prog ρ EO:=zeV fun x hx=>Zh ρ x hx
noncomputable def vO:List En:=[AY,yb,KL,EO]
theorem Zk(ρ:Nat->Int):fH Tryz.prog ρ vO:=⟨EM ρ,KI ρ,Zj ρ,KM ρ,trivial⟩
theorem Zl(ρ:Nat->Int)(x:St)(hx:x.sz<2^60):bV Tryz.prog ρ 146 [.agg x.cells] (.bool (jn x)):=zfq fit (pls:=pls) (Zk ρ) (.cons (.agg x.pure) .nil) (.bool _) (by
 have hw:Plain (zdW pls vO) 146:=zfv (fun _=>rfl) rfl;have kz:∀y:Ex,∀H,zd5 Tryz.prog (zdW pls vO) 170 [.agg y.cells] H fun v H'=>v=.bool (zeroE y)/\H'=H:=fun y H=>zeJ (enc:=jy) (out:=fun x=>.bool (zeroE x)) qf (x:=y) rfl trivial;have ko:∀y:St,∀H,zd5 Tryz.prog (zdW pls vO) 171 [.agg y.cells] H fun v H'=>v=.bool (pr y)/\H'=H:=fun y H=>zeJ (enc:=ug) (out:=fun x=>.bool (pr x)) KK (x:=y) rfl trivial;have kv:∀s:List UInt8,s.length<2^60->∀H,zd5 Tryz.prog (zdW pls vO) 46 [.str s] H fun v H'=>v=.bool (zfG s)/\H'=H:=fun s h1 H=>zeJ (enc:=pe) (out:=fun x=>.bool (zfG x)) xM (x:=s) rfl h1;have kw:∀y:Ex,y.sz<2^60->∀H,zd5 Tryz.prog (zdW pls vO) 106 [.agg y.cells] H fun v H'=>v=.bool (fI y)/\H'=H:=fun y h1 H=>zeJ (enc:=jy) (out:=fun x=>.bool (fI x)) qf (x:=y) rfl h1;have hsz:=x.sz_eq;have hlen:=sf x.args;refine zed (M:=202) (rs:=[.tmp 2]) (hw.call _) hw.ice hw.froz Tryz.func146 rfl rfl KJ.2 rfl ?_;dsimp only[KJ,zd8,Nat.reduceAdd];repeat' (first
  |(apply au ?_;clear hK K)|apply Rx.o ?_|(apply bQ (fun hg hgp=>?_) (fun hg hgp=>?_)<;>try(cases hg;done))|(apply aT (fun hb hbp=>?_) (fun hb hbp=>?_)<;>try(cases hb;done))|apply am ?_|(apply zdQ fun K hK=>?_)|apply aA ?_|apply zdR ?_|apply aB ?_|apply zdT ?_)
 refine zeL [1] [0] 3 x.args.length (fun i E H=>fO x.args=fO (x.args.drop i)) eE aK ?_;rintro i E H2 hi hcE hrH hnH hsI hJ;(try simp only[zec,zeb,aX,zdX,zd2,Nat.reduceBEq,Nat.reduceAdd,Nat.reduceLeDiff,tyF, *]at hcE);(try simp only[zec,zeb,aX,zdX,zd2,Nat.reduceBEq,Nat.reduceAdd,Nat.reduceLeDiff,tyF, *]at hrH);(try simp only[zea,zef,zeB,bT,Nat.reduceAdd]at hnH);have hB0:(0 == H2.next)=false:=zeq ac;have hC0:(H2.next == 0)=false:=zeq ac;repeat' (first
  |(apply au ?_;clear hK K)|apply Rx.o ?_|(apply eu ?_;first|refine Rx.k (kv _ ac _) ?_|refine Rx.k (kz _ _) ?_|refine Rx.k (ko _ _) ?_|refine Rx.k (kw _ ac _) ?_)|(apply bQ (fun hg hgp=>?_) (fun hg hgp=>?_)<;>try(cases hg;done))|(apply aT (fun hb hbp=>?_) (fun hb hbp=>?_)<;>try(cases hb;done))|apply am ?_|(apply zdQ fun K hK=>?_)|apply aA ?_|apply zdR ?_|apply aB ?_|apply zdT ?_)
 .have hlt:i<x.args.length:=by simpa using hb
  have hgx:x.args[i]?=some x.args[i]:=br hlt;have hm:=zgB (dX hlt);have hdr:fO (x.args.drop i)=(fI x.args[i]&&fO (x.args.drop (i+1))):=ki;repeat' (first
   |(apply au ?_;clear hK K)|apply Rx.o ?_|(apply eu ?_;first|refine Rx.k (kw _ ac _) ?_)|(apply bQ (fun hg hgp=>?_) (fun hg hgp=>?_)<;>try(cases hg;done))|(apply aT (fun hb hbp=>?_) (fun hb hbp=>?_)<;>try(cases hb;done))|apply am ?_|(apply zdQ fun K hK=>?_)|apply aA ?_|apply zdR ?_|apply aB ?_|apply zdT ?_)
  all_goals (first|(refine⟨zdZ,_,zd6,?_⟩;(try simp only[zdY]);rw[jn,hJ,hdr];(try simp only[cW]at *);simp only[ *,cX,bN,bU,Int.reduceEq];done)|skip)
  refine⟨ac,zd7,zd7,eN,EJ,?_⟩;rw[hJ,hdr];(try simp only[cW]at *);simp only[ *,cX,bN,bU,Int.reduceEq]
 all_goals
  have hie:i=x.args.length:=ac;rw[hie,gR]at hJ;have hJ':fO x.args=true:=hJ;clear hJ;all_goals (refine⟨zdZ,_,zd6,?_⟩;try simp only[zdY])
  rw[jn,hJ',mT,pw];(try simp only[cW]at *);simp only[ *,cX,bN,bU,Int.reduceEq])
end
section
def tyR3f.tyF:=ad @eI (ad @dC (ad @eU (ad @jO (ad @kO (ad @iw (ad @iy (ad @hO (ad @gg (ad @fW (ad @r7 (ad @qO (@iz))))))))))))
open tyR3f
noncomputable def KN:{c:SC // aS 34 (Tryz.f105.body.getD .skip)=c}:=by
 refine⟨?_,?_⟩;rotate_left
 .simp only[Tryz.f105,cj,aS,zen,zel,zeu,zev,Nat.blt,Nat.ble];rfl
noncomputable def KO:{c:SC // aS 66 (Tryz.f59.body.getD .skip)=c}:=by
 refine⟨?_,?_⟩;rotate_left
 .simp only[Tryz.f59,cj,aS,zen,zel,zeu,zev,Nat.blt,Nat.ble];rfl
mutual
def mU:St->Bool
 | .mk k nm to n a v args th el=>jn (.mk k nm to n a v args th el)&&fY th&&fY el
def fY:List St->Bool
 |[]=>true
 |x::l=>mU x&&fY l
end
theorem uh(x:St):mU x=(jn x&&fY x.thn&&fY x.els):=by cases x;rw[mU];rfl
noncomputable def AZ:En:=⟨146,false,cy (fun x=>x.sz<2^60) ug fun x=>.bool (jn x)⟩
theorem Zm(ρ:Nat->Int):zeO Tryz.prog ρ AZ:=zeV fun x hx=>Zl ρ x hx
theorem Zn(ρ:Nat->Int):∀x:List St,zep x<2^60->bV Tryz.prog ρ 105 (lI x) (.bool (fY x)):=
 tS fit (pls:=pls) (l:=[AZ]) ⟨Zm ρ,trivial⟩ (fun x=>zep x) (ok:=fun x=>zep x<2^60) (enc:=lI) (out:=fun x=>.bool (fY x)) (fun x _=>.cons (xE _) .nil) (fun x _=>.bool _) (fun x hx=>by
 have hw:=tY (sz:=fun x:List St=>zep x) (ok:=fun x=>zep x<2^60) (out:=fun x=>.bool (fY x)) vG (f:=105) (l:=[AZ]) x;generalize hl:(⟨105,false,cy (fun y=>zep y<2^60/\zep y<zep x) lI fun x=>.bool (fY x)⟩:En)::[AZ]=l at hw⊢;have kr:∀(y:List St),zep y<zep x->∀H,zd5 Tryz.prog (zdW pls l) 105 [.lst (y.map St.cells)] H fun v H'=>v=.bool (fY y)/\H'=H:=fun y h2 H=>by
  subst hl;exact zeJ (enc:=lI) (out:=fun x=>.bool (fY x)) vG (x:=y) rfl ⟨ac,h2⟩
 have kd:∀y:St,y.sz<2^60->∀H,zd5 Tryz.prog (zdW pls l) 146 [.agg y.cells] H fun v H'=>v=.bool (jn y)/\H'=H:=fun y h1 H=>by
  subst hl;exact zeJ (enc:=ug) (out:=fun x=>.bool (jn x)) KK (x:=y) rfl h1
 have hlen:=tT x;change zd5 _ _ _ [.lst (x.map St.cells)] _ _;refine zed (M:=34) (rs:=[.tmp 2]) hw.call hw.ice hw.froz Tryz.func105 rfl rfl KN.2 rfl ?_;dsimp only[KN,zd8,Nat.reduceAdd];repeat' (first
  |(apply au ?_;clear hK K)|apply Rx.o ?_|(apply bQ (fun hg hgp=>?_) (fun hg hgp=>?_)<;>try(cases hg;done))|(apply aT (fun hb hbp=>?_) (fun hb hbp=>?_)<;>try(cases hb;done))|apply am ?_|(apply zdQ fun K hK=>?_)|apply aA ?_|apply zdR ?_|apply aB ?_|apply zdT ?_)
 refine zeL [0] [] 3 x.length (fun i E H=>fY x=fY (x.drop i)) eE aK ?_;rintro i E H2 hi hcE hrH hnH hsI hJ;(try simp only[zec,zeb,aX,zdX,zd2,Nat.reduceBEq,Nat.reduceAdd,Nat.reduceLeDiff,tyF, *]at hcE);(try simp only[zec,zeb,aX,zdX,zd2,Nat.reduceBEq,Nat.reduceAdd,Nat.reduceLeDiff,tyF, *]at hrH);(try simp only[zea,zef,zeB,bT,Nat.reduceAdd]at hnH);repeat' (first
  |(apply au ?_;clear hK K)|apply Rx.o ?_|(apply bQ (fun hg hgp=>?_) (fun hg hgp=>?_)<;>try(cases hg;done))|(apply aT (fun hb hbp=>?_) (fun hb hbp=>?_)<;>try(cases hb;done))|apply am ?_|(apply zdQ fun K hK=>?_)|apply aA ?_|apply zdR ?_|apply aB ?_|apply zdT ?_)
 .have hlt:i<x.length:=by simpa using hb
  have hgx:x[i]?=some x[i]:=br hlt;have hsm:=zgw (dX hlt);have hsz:=x[i].sz_eq;have hdr:fY (x.drop i)=(mU x[i]&&fY (x.drop (i+1))):=ki;rw[uh]at hdr;repeat' (first
   |(apply au ?_;clear hK K)|apply Rx.o ?_|(apply eu ?_;first|refine Rx.k (kd _ ac _) ?_|refine Rx.k (kr _ ac _) ?_)|(apply bQ (fun hg hgp=>?_) (fun hg hgp=>?_)<;>try(cases hg;done))|(apply aT (fun hb hbp=>?_) (fun hb hbp=>?_)<;>try(cases hb;done))|apply am ?_|(apply zdQ fun K hK=>?_)|apply aA ?_|apply zdR ?_|apply aB ?_|apply zdT ?_)
  all_goals (first|(refine⟨zdZ,_,zd6,?_⟩;(try simp only[zdY]);rw[hJ,hdr];(try simp only[cW]at *);simp only[ *,cX,bN,bU,Int.reduceEq];done)|skip)
  refine⟨ac,zd7,zd7,eN,vF,?_⟩;rw[hJ,hdr];(try simp only[cW]at *);simp only[ *,cX,bN,bU,Int.reduceEq]
 .all_goals (refine⟨zdZ,_,zd6,?_⟩;try simp only[zdY])
  rw[hJ,show i=x.length by simp at hb;omega];simp[fY])
noncomputable def KP:En:=⟨105,false,cy (fun x=>zep x<2^60) lI fun x=>.bool (fY x)⟩
theorem Zo(ρ:Nat->Int):zeO Tryz.prog ρ KP:=zeV fun x hx=>Zn ρ x hx
noncomputable def vP:List En:=[AY,EO,KP]
theorem Zp(ρ:Nat->Int):fH Tryz.prog ρ vP:=⟨EM ρ,KM ρ,Zo ρ,trivial⟩
theorem KQ:∀{l:List Ar}{a:Ar},a∈l->a.name.length<zf2 l
 |[],_,h=>by simp at h
 |e::es,x,h=>by
  rcases iu.1 h with rfl|h
  .simp only[zf2];omega
  .have:=KQ h;simp only[zf2];omega
def ui(f:Fu):List (List UInt8):=[f.name]++f.params++f.locals
def rq(f:Fu):Bool:=(ui f).all zfG&&fY f.body&&fI f.value
def mV(p:Pr):Bool:=p.arrays.all (fun a=>zfG a.name)&&p.funcs.all rq
theorem EP(H:Hp)(s:List UInt8):zfn Tryz.prog H 59 1 [(0,.str s)]=some (.sl H.next 0 1 1,H.alloc (.cells [.str s] 0 true)):=aC
theorem KR(H:Hp):zfn Tryz.prog H 59 0 []=some (.sl H.next 0 0 1,H.alloc (.cells [] 0 true)):=aC
theorem Zq(ρ:Nat->Int)(p:Pr)(hz:p.sz<2^36):bV Tryz.prog ρ 59 [.agg p.cells] (.bool (mV p)):=zfq fit (pls:=pls) (Zp ρ) (.cons (.agg p.pure) .nil) (.bool _) (by
 have hw:Plain (zdW pls vP) 59:=zfv (fun _=>rfl) rfl;have hkeep:(zdW pls vP).keep 59=false:=rfl;have kv:∀s:List UInt8,s.length<2^60->∀H,zd5 Tryz.prog (zdW pls vP) 46 [.str s] H fun v H'=>v=.bool (zfG s)/\H'=H:=fun s h1 H=>zeJ (enc:=pe) (out:=fun x=>.bool (zfG x)) xM (x:=s) rfl h1;have kw:∀y:Ex,y.sz<2^60->∀H,zd5 Tryz.prog (zdW pls vP) 106 [.agg y.cells] H fun v H'=>v=.bool (fI y)/\H'=H:=fun y h1 H=>zeJ (enc:=jy) (out:=fun x=>.bool (fI x)) qf (x:=y) rfl h1;have ks:∀y:List St,zep y<2^60->∀H,zd5 Tryz.prog (zdW pls vP) 105 [.lst (y.map St.cells)] H fun v H'=>v=.bool (fY y)/\H'=H:=fun y h1 H=>zeJ (enc:=lI) (out:=fun x=>.bool (fY x)) vG (x:=y) rfl h1;have hpz:p.sz=1+zf2 p.arrays+iZ p.funcs:=rfl;have hla:=qR p.arrays;have hlf:=qQ p.funcs;refine zed (M:=66) (rs:=[.tmp 2]) (hw.call _) hw.ice hw.froz Tryz.func59 rfl rfl KO.2 rfl ?_;dsimp only[KO,zd8,Nat.reduceAdd];repeat' (first
  |(apply au ?_;clear hK K)|apply Rx.o ?_|apply ba ?_|(apply bQ (fun hg hgp=>?_) (fun hg hgp=>?_)<;>try(cases hg;done))|(apply aT (fun hb hbp=>?_) (fun hb hbp=>?_)<;>try(cases hb;done))|apply am ?_|(apply zdQ fun K hK=>?_)|(apply zdP 10 [(1,5),(2,5),(4,5),(7,5),(7,8)] fun K hK=>?_)|(apply zdU ?_;try intro _)|(apply zdV ?_ ?_<;>clear hK K)|apply aH ?_|apply aA ?_|apply zdR ?_|apply aB ?_|apply zdT ?_)
 refine zeL [1] [0] 3 p.arrays.length (fun i E H=>p.arrays.all (fun a=>zfG a.name)=(p.arrays.drop i).all (fun a=>zfG a.name)) eE aK ?_;rintro i E H2 hi hcE hrH hnH hsI hJ;(try simp only[zec,zeb,aX,zdX,zd2,Nat.reduceBEq,Nat.reduceAdd,Nat.reduceLeDiff,tyF, *]at hcE);(try simp only[zec,zeb,aX,zdX,zd2,Nat.reduceBEq,Nat.reduceAdd,Nat.reduceLeDiff,tyF, *]at hrH);(try simp only[zea,zef,zeB,bT,Nat.reduceAdd]at hnH);have hB0:(0 == H2.next)=false:=zeq ac;have hC0:(H2.next == 0)=false:=zeq ac;repeat' (first
  |(apply au ?_;clear hK K)|apply Rx.o ?_|apply ba ?_|(apply bQ (fun hg hgp=>?_) (fun hg hgp=>?_)<;>try(cases hg;done))|(apply aT (fun hb hbp=>?_) (fun hb hbp=>?_)<;>try(cases hb;done))|apply am ?_|(apply zdQ fun K hK=>?_)|(apply zdP 10 [(1,5),(2,5),(4,5),(7,5),(7,8)] fun K hK=>?_)|(apply zdU ?_;try intro _)|(apply zdV ?_ ?_<;>clear hK K)|apply aH ?_|apply aA ?_|apply zdR ?_|apply aB ?_|apply zdT ?_)
 .have hlt:i<p.arrays.length:=by simpa using hb
  have hgx:p.arrays[i]?=some p.arrays[i]:=br hlt;have hdr:(p.arrays.drop i).all (fun a=>zfG a.name)=(zfG p.arrays[i].name&&(p.arrays.drop (i+1)).all (fun a=>zfG a.name)):=Ee;have hsm:p.arrays[i].name.length<zf2 p.arrays:=KQ (dX hlt);repeat' (first
   |(apply au ?_;clear hK K)|apply Rx.o ?_|apply ba ?_|(apply eu ?_;first|refine Rx.k (kv _ ac _) ?_)|(apply bQ (fun hg hgp=>?_) (fun hg hgp=>?_)<;>try(cases hg;done))|(apply aT (fun hb hbp=>?_) (fun hb hbp=>?_)<;>try(cases hb;done))|apply am ?_|(apply zdQ fun K hK=>?_)|(apply zdP 10 [(1,5),(2,5),(4,5),(7,5),(7,8)] fun K hK=>?_)|(apply zdU ?_;try intro _)|(apply zdV ?_ ?_<;>clear hK K)|apply aH ?_|apply aA ?_|apply zdR ?_|apply aB ?_|apply zdT ?_)
  all_goals (first|(refine⟨zdZ,_,zd6,?_⟩;(try simp only[zdY]);rw[mV,hJ,hdr];(try simp only[cW]at *);simp only[ *,cX,bN,bU,Int.reduceEq];done)|skip)
  refine⟨ac,zd7,zd7,eN,AT,?_⟩;rw[hJ,hdr];(try simp only[cW]at *);simp only[ *,cX,bN,bU,Int.reduceEq]
 .have hie:i=p.arrays.length:=by simp at hb;omega
  rw[hie,gR,nT]at hJ;clear hb hie hsI hi;refine zeL [1] [0] 4 p.funcs.length (fun i E H=>p.funcs.all rq=(p.funcs.drop i).all rq) eE aK ?_;rintro i E H2 hi hcE hrH hnH hsI hJ2;(try simp only[zec,zeb,aX,zdX,zd2,Nat.reduceBEq,Nat.reduceAdd,Nat.reduceLeDiff,tyF, *]at hcE);(try simp only[zec,zeb,aX,zdX,zd2,Nat.reduceBEq,Nat.reduceAdd,Nat.reduceLeDiff,tyF, *]at hrH);(try simp only[zea,zef,zeB,bT,Nat.reduceAdd]at hnH);have hB0:(0 == H2.next)=false:=zeq ac;have hC0:(H2.next == 0)=false:=zeq ac;repeat' (first
   |(apply au ?_;clear hK K)|apply Rx.o ?_|apply ba ?_|(apply bQ (fun hg hgp=>?_) (fun hg hgp=>?_)<;>try(cases hg;done))|(apply aT (fun hb hbp=>?_) (fun hb hbp=>?_)<;>try(cases hb;done))|apply am ?_|(apply zdQ fun K hK=>?_)|(apply zdP 10 [(1,5),(2,5),(4,5),(7,5),(7,8)] fun K hK=>?_)|(apply zdU ?_;try intro _)|(apply zdV ?_ ?_<;>clear hK K)|apply aH ?_|apply aA ?_|apply zdR ?_|apply aB ?_|apply zdT ?_)
  .have hlt:i<p.funcs.length:=by simpa using hb
   have hgx:p.funcs[i]?=some p.funcs[i]:=br hlt;have hdr:(p.funcs.drop i).all rq=(rq p.funcs[i]&&(p.funcs.drop (i+1)).all rq):=Ee;rw[rq]at hdr;have hsm:=sg (dX hlt);have hsz:p.funcs[i].sz=1+p.funcs[i].name.length+zfR p.funcs[i].params+zfR p.funcs[i].locals+zep p.funcs[i].body+p.funcs[i].value.sz:=rfl;have gh0:=@EP;repeat' (first
    |(apply au ?_;clear hK K)|apply Rx.o ?_|apply ba ?_|(apply bQ (fun hg hgp=>?_) (fun hg hgp=>?_)<;>try(cases hg;done))|(apply aT (fun hb hbp=>?_) (fun hb hbp=>?_)<;>try(cases hb;done))|apply am ?_|(apply zdQ fun K hK=>?_)|(apply zdP 10 [(1,5),(2,5),(4,5),(7,5),(7,8)] fun K hK=>?_)|(apply zdU ?_;try intro _)|(apply zdV ?_ ?_<;>clear hK K)|apply aH ?_|apply aA ?_|apply zdR ?_|apply aB ?_|apply zdT ?_)
   generalize hH4:Hp.alloc _ (HB.cells [AV.str p.funcs[i].name] 0 true)=H4;have n4:H4.next=H2.next+2:=by rw[<-hH4];rfl
   have g4:H4.get H2.next=some (.cells p.funcs[i].cells 0 true):=by rw[<-hH4];clear hH4;exact zgK
   have g40:H4.get 0=some (.cells p.cells 0 true):=by
    rw[<-hH4,zd1,ah jB,bz,ah ac,zd1,ah ac];exact hrH
   have g41:H4.get (H2.next+1)=some (.cells [.str p.funcs[i].name] 0 true):=by rw[<-hH4];clear hH4;exact zgK
   have s4:ze9 H4 (.sl (H2.next+1) 0 1 1) [p.funcs[i].name] (H2.next+1):=⟨H2.next+1,0,rfl,g41,aK,aM _,ac⟩;have hpl:=zgm p.funcs[i].params;have hll:=zgm p.funcs[i].locals;obtain⟨v5,H5,a5,s5,n5,f5,_⟩:=vC p.funcs[i].params s4 ac cT;have g5:H5.get H2.next=some (.cells p.funcs[i].cells 0 true):=by rw[f5 _ (cL _)];exact g4
   have g50:H5.get 0=some (.cells p.cells 0 true):=by rw[f5 _ ac];exact g40
   refine ji eV eV t9 ?_;repeat' (first
    |(apply au ?_;clear hK K)|apply Rx.o ?_|apply ba ?_|(apply bQ (fun hg hgp=>?_) (fun hg hgp=>?_)<;>try(cases hg;done))|(apply aT (fun hb hbp=>?_) (fun hb hbp=>?_)<;>try(cases hb;done))|apply am ?_|(apply zdQ fun K hK=>?_)|(apply zdP 10 [(1,5),(2,5),(4,5),(7,5),(7,8)] fun K hK=>?_)|(apply zdU ?_;try intro _)|(apply zdV ?_ ?_<;>clear hK K)|apply aH ?_|apply aA ?_|apply zdR ?_|apply aB ?_|apply zdT ?_)
   obtain⟨v6,H6,a6,s6,n6,f6,_⟩:=vC p.funcs[i].locals s5 ac cT;have g6:H6.get H2.next=some (.cells p.funcs[i].cells 0 true):=by rw[f6 _ (cL _)];exact g5
   have g60:H6.get 0=some (.cells p.cells 0 true):=by rw[f6 _ ac];exact g50
   refine ji eV eV (by rw[hkeep];exact a6) ?_;repeat' (first
    |(apply au ?_;clear hK K)|apply Rx.o ?_|apply ba ?_|(apply bQ (fun hg hgp=>?_) (fun hg hgp=>?_)<;>try(cases hg;done))|(apply aT (fun hb hbp=>?_) (fun hb hbp=>?_)<;>try(cases hb;done))|apply am ?_|(apply zdQ fun K hK=>?_)|(apply zdP 10 [(1,5),(2,5),(4,5),(7,5),(7,8)] fun K hK=>?_)|(apply zdU ?_;try intro _)|(apply zdV ?_ ?_<;>clear hK K)|apply aH ?_|apply aA ?_|apply zdR ?_|apply aB ?_|apply zdT ?_)
   .exact eK
   .have s6':ze9 H6 v6 (ui p.funcs[i]) (H2.next+1):=s6;have hfl:(ui p.funcs[i]).length<2^61:=by simp[ui];omega
    have hfm:∀s∈ui p.funcs[i],s.length<2^60:=fun s hs=>by
     rcases mI.1 hs with hs|hs
     .rcases mI.1 hs with hs|hs
      .simp at hs;subst hs;omega
      .have:=DR hs;omega
     .have:=DR hs;omega
    clear s6 a6 f6 a5 f5 s5 s4;generalize ui p.funcs[i]=ns at *;have hln:=fun H'=>s6'.len (H':=H');refine zeL [1,4,5,6] [0,H2.next] 7 ns.length (fun j E H=>ns.all zfG=(ns.drop j).all zfG/\ze9 H v6 ns (H2.next+1)) eE ⟨aK,s6'⟩ ?_;rintro j E3 H3 hj hcE hrH hnH hsI ⟨hJ3,s7⟩;(try simp only[zec,zeb,aX,zdX,zd2,Nat.reduceBEq,Nat.reduceAdd,Nat.reduceLeDiff,tyF,g6,g60, *]at hcE);(try simp only[zec,zeb,aX,zdX,zd2,Nat.reduceBEq,Nat.reduceAdd,Nat.reduceLeDiff,tyF,g6,g60, *]at hrH);(try simp only[zea,zef,zeB,bT,Nat.reduceAdd]at hnH);have hB0:(0 == H3.next)=false:=zeq ac;have hC0:(H3.next == 0)=false:=zeq ac;have hB1:(H2.next == H3.next)=false:=zeq ac;have hC1:(H3.next == H2.next)=false:=zeq ac;repeat' (first
     |(apply au ?_;clear hK K)|apply Rx.o ?_|apply ba ?_|(apply eu ?_;first|refine Rx.k (kw _ ac _) ?_|refine Rx.k (ks _ ac _) ?_)|(apply bQ (fun hg hgp=>?_) (fun hg hgp=>?_)<;>try(cases hg;done))|(apply aT (fun hb hbp=>?_) (fun hb hbp=>?_)<;>try(cases hb;done))|apply am ?_|(apply zdQ fun K hK=>?_)|(apply zdP 10 [(1,5),(2,5),(4,5),(7,5),(7,8)] fun K hK=>?_)|(apply zdU ?_;try intro _)|(apply zdV ?_ ?_<;>clear hK K)|apply aH ?_|apply aA ?_|apply zdR ?_|apply aB ?_|apply zdT ?_)
    .have hlt2:j<ns.length:=by simpa using hb
     obtain⟨q,ia,ld⟩:=s7.at hlt2;have hdr2:(ns.drop j).all zfG=(zfG ns[j]&&(ns.drop (j+1)).all zfG):=by rw[jl hlt2,sF]
     have hq:=hfm _ (dX hlt2);repeat' (first
      |(apply au ?_;clear hK K)|apply Rx.o ?_|apply ba ?_|(apply eu ?_;first|refine Rx.k (kv _ hq _) ?_)|(apply bQ (fun hg hgp=>?_) (fun hg hgp=>?_)<;>try(cases hg;done))|(apply aT (fun hb hbp=>?_) (fun hb hbp=>?_)<;>try(cases hb;done))|apply am ?_|(apply zdQ fun K hK=>?_)|(apply zdP 10 [(1,5),(2,5),(4,5),(7,5),(7,8)] fun K hK=>?_)|(apply zdU ?_;try intro _)|(apply zdV ?_ ?_<;>clear hK K)|apply aH ?_|apply aA ?_|apply zdR ?_|apply aB ?_|apply zdT ?_)
     all_goals (first|(refine⟨zdZ,_,zd6,?_⟩;(try simp only[zdY]);rw[mV,hJ,hJ2,hdr,hJ3,hdr2];(try simp only[cW]at *);simp only[ *,cX,bN,bU,Int.reduceEq];done)|skip)
     refine⟨ac,zd7,zd7,eN,Kx,?_⟩;exact⟨Kw,s7⟩
    all_goals
     have hje:j=ns.length:=ac;rw[hje,gR,nT]at hJ3
    all_goals (first|(refine⟨zdZ,_,zd6,?_⟩;(try simp only[zdY]);rw[mV,hJ,hJ2,hdr,hJ3];(try simp only[cW]at *);simp only[ *,cX,bN,bU,Int.reduceEq];done)|skip)
    refine⟨ac,zd7,zd7,eN,tW,?_⟩;rw[hJ2,hdr,hJ3];(try simp only[cW]at *);simp only[ *,cX,bN,bU,Int.reduceEq]
  .all_goals (refine⟨zdZ,_,zd6,?_⟩;try simp only[zdY])
   have hie:i=p.funcs.length:=AR;rw[hie,gR,nT]at hJ2;rw[mV,hJ,hJ2];(try simp only[cW]at *);simp only[ *,cX,bN,bU,Int.reduceEq])
end
end Go.Proofs.YtpbcimfiofmoeaaGreat
