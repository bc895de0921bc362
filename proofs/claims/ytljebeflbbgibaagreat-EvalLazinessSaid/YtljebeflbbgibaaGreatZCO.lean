/- Parts: K2b, K2, K3, SnC, K5, K9, VdC, VlB, VdD, VdE, SameO. -/
import Derived.Test.YtljebeflbbgibaaGreatZCN
set_option linter.unusedSimpArgs false
set_option linter.unusedVariables false
set_option linter.unusedSectionVars false
set_option linter.defProp false
set_option maxHeartbeats 32000000
namespace Go.Ab
set_option maxRecDepth 20000
open Go
theorem yf{P:Prop}(h:P:=by rw[W];exact s5):P:=h
theorem Ch{P:Prop}(h:P:=by rw[<- hHb,Hp.get_set,if_neg ac,zcu,if_neg ac]):P:=h
theorem Ci{P:Prop}(h:P:=by rw[hr,decide_eq_false ac]):P:=h
theorem Cj{P:Prop}(h:P:=by rw[hr,decide_eq_true ac]):P:=h
def yg:=@List.pairwise_iff_getElem
end Go.Ab
namespace Go.Proofs.YtljebeflbbgibaaGreat
set_option maxRecDepth 20000
open Go Go.Ab
section
def tyK2b.tyF:=ad @cI (ad @bZ (ad @d8 (ad @eY (ad @eL (ad @l7 (ad @l8 (ad @pR (@mG))))))))
open tyK2b
theorem ztB(s:List Int){a b:Nat}(h1:a<=b)(h2:b<=s.length):zeh Tryz.prog 23 (.lst (s.map fun n=>[AV.int .i64 n])) (some (.int .i64 (a:Int))) (some (.int .i64 (b:Int)))=some (.lst (((s.drop a).take (b-a)).map fun n=>[AV.int .i64 n])):=by
 have Y:(a:Int)=Int.ofNat a:=rfl;have A:(b:Int)=Int.ofNat b:=rfl;simp only[zeh,Tryz.underlying23,jf,Y,A,zd3];rw[ax ⟨h1,by rw[cR];exact h2⟩,<-List.map_drop,<-yR];cases (s.drop a).take (b-a)with
 |nil=>rfl
 |cons x l=>rfl
theorem zx9(s:List Int){a:Nat}(h1:a<=s.length):zeh Tryz.prog 23 (.lst (s.map fun n=>[AV.int .i64 n])) (some (.int .i64 (a:Int))) none=some (.lst ((s.drop a).map fun n=>[AV.int .i64 n])):=by
 have Y:(a:Int)=Int.ofNat a:=rfl;simp only[zeh,Tryz.underlying23,jf,Y,zd3];rw[ax ⟨by rw[cR];exact h1,aM _⟩,ev aD,<-List.map_drop];cases s.drop a with
 |nil=>rfl
 |cons x l=>rfl
theorem zbk{l:List Nd}{imm:Int}{L k:List Int}(hkb:k.length<2^30)(him:zdo 31 imm=true)(O:zcR l ⟨31,imm,L⟩ k=zdh (decide (k.length%2=1)&&decide (1<=k.length/2)&&decide (k.length/2<=16)&&decide (k.headD 0=2)&&zdw ((k.drop 1).take (k.length/2))&&decide (k.getD (k.length/2+1) 0=2)&&zdw (k.drop (k.length/2+2))) 3):
 zcx Tryz.prog (zcq pls ph) 97 [zdy l,.agg [.int .i64 31,.int .i64 imm,jk L],jk k] zc2 fun v _=>v=.int .i64 (zcR l ⟨31,imm,L⟩ k):=by
 have J:Plain (zcq pls ph) 97:=zdm (fun _=>rfl) rfl;have hq2:(2:Int)≠0:=dr;have hv:ej 31=.tup [.int .i64 (-1),.bool true]:=rfl;have e1:IntKind.wrap .i64 ((k.length:Int).tdiv 2)=((k.length/2:Nat):Int):=by
  rw[kG ac,zej ac ac];omega
 have W:(k.length:Int).tmod 2=((k.length%2:Nat):Int):=FT;by_cases hc:k.length%2=1/\1<=k.length/2/\k.length/2<=16
 .obtain⟨h1,g,o⟩:=hc;have e3:IntKind.wrap .i64 (((k.length/2:Nat):Int)+1)=((k.length/2+1:Nat):Int):=zej ac ac;have e4:IntKind.wrap .i64 (((k.length/2:Nat):Int)+2)=((k.length/2+2:Nat):Int):=zej ac ac;obtain⟨x,hx⟩:∃x,k[0]?=some x:=⟨_,aO ac⟩;obtain⟨y,hy⟩:∃y,k[k.length/2+1]?=some y:=⟨_,aO ac⟩;have F:k.headD 0=x:=by rw[List.headD_eq_head?_getD,List.head?_eq_getElem?,hx];rfl
  have j:k.getD (k.length/2+1) 0=y:=by rw[cJ,hy];rfl
  have U:=ztB k (a:=1) (b:=k.length/2+1) ac ac;have hs2:=zx9 k (a:=k.length/2+2) ac;have Z:((k.drop 1).take (k.length/2+1-1)).length<2^60:=ru;have Y:(k.drop (k.length/2+2)).length<2^60:=vV;have C:zcR l ⟨31,imm,L⟩ k=zdh (decide (x=2)&&zdw ((k.drop 1).take (k.length/2+1-1))&&decide (y=2)&&zdw (k.drop (k.length/2+2))) 3:=by
   rw[O,F,j,cB h1,cB g,cB o,Nat.add_sub_cancel];rfl
  clear O F j;have e5:(k.length:Int).tmod 2=1:=by rw[W];omega
  have h2':(1:Int)<=((k.length/2:Nat):Int):=ac;have h3':((k.length/2:Nat):Int)<=16:=ac;have i:zeh Tryz.prog 23 (.lst (k.map fun n=>[AV.int .i64 n])) (some (.int .i64 1)) (some (.int .i64 ((k.length/2+1:Nat):Int)))=some (.lst (((k.drop 1).take (k.length/2+1-1)).map fun n=>[AV.int .i64 n])):=U;clear U W g o;generalize (k.drop 1).take (k.length/2+1-1)=p at *;generalize k.drop (k.length/2+2)=q at *;generalize k.length/2+1=u at *;generalize k.length/2+2=w at *;generalize k.length/2=m at *;refine zcv (M:=221) (rs:=[.tmp 6]) (J.call _) J.ice J.froz Tryz.func97 rfl rfl dT.2 rfl ?_;dsimp only[dT,zcr,Nat.reduceAdd];repeat' (first
   |(apply zcl ?_;clear hK K)|apply Ry.o ?_|(apply bK ?_;first|refine Rx.k (i4 (fun _=>rfl) _ _) ?_|refine Rx.k (jD (fun _=>rfl) _ _ _) ?_|refine Rx.k (ye (fun _=>rfl) _ Z _) ?_|refine Rx.k (ye (fun _=>rfl) _ Y _) ?_|refine Rx.k (kO (fun _=>rfl) _ _ _) ?_)|(apply a8 (fun A I=>?_) (fun A I=>?_)<;>try(cases A;done))|(apply aB (fun z V=>?_) (fun z V=>?_)<;>try(cases z;done))|apply ak ?_|(apply zcm fun K hK=>?_)|apply ay ?_|apply zco ?_|apply am ?_)
  all_goals first
   |exact eK
   |((refine⟨eI,_,dA,?_⟩;try simp only[zcn]);rw[C];(try simp only[fo]at *);simp only[ *,lB,bT,ck,Int.reduceEq];done)
 .have C:zcR l ⟨31,imm,L⟩ k=zdh false 3:=by
   have hf:(decide (k.length%2=1)&&decide (1<=k.length/2)&&decide (k.length/2<=16))=false:=by
    rw[oL,oL,jw,jw,jw];omega
   rw[O,hf];rfl
  clear O;generalize k.length/2=m at *;generalize k.length%2=r at *;refine zcv (M:=221) (rs:=[.tmp 6]) (J.call _) J.ice J.froz Tryz.func97 rfl rfl dT.2 rfl ?_;dsimp only[dT,zcr,Nat.reduceAdd];repeat' (first
   |(apply zcl ?_;clear hK K)|apply Ry.o ?_|(apply bK ?_;first|refine Rx.k (i4 (fun _=>rfl) _ _) ?_|refine Rx.k (jD (fun _=>rfl) _ _ _) ?_|refine Rx.k (kO (fun _=>rfl) _ _ _) ?_)|(apply a8 (fun A I=>?_) (fun A I=>?_)<;>try(cases A;done))|(apply aB (fun z V=>?_) (fun z V=>?_)<;>try(cases z;done))|apply ak ?_|(apply zcm fun K hK=>?_)|apply ay ?_|apply zco ?_|apply am ?_)
  all_goals first
   |exact eK
   |((refine⟨eI,_,dA,?_⟩;try simp only[zcn]);rw[C];done)
   |(exfalso;omega)
end
section
def tyK2.tyF:=ad @cI (ad @bZ (ad @d8 (ad @eY (ad @eL (ad @l7 (ad @l8 (@pR)))))))
open tyK2
theorem zj5(ρ:Nat->Int)(x:NsX)(hx:vb x):a9 Tryz.prog ρ 97 (pg x) (.int .i64 (zcR x.l x.n x.k)):=zdv fit (pls:=pls) (zty ρ) (.cons (ze8 _) (.cons (.agg (rR _)) (.cons (oG _) .nil))) (.int _ _) (by
 obtain⟨l,⟨i,g,L⟩,k⟩:=x;obtain⟨W,U,F⟩:=hx;have J:Plain (zcq pls ph) 97:=zdm (fun _=>rfl) rfl;rw[pg];simp only[Nd.cells]at W U F⊢;have hq:(16:Int)≠0:=dr;have hq2:(2:Int)≠0:=dr;cases Z:(bc i).2 with
 |false=>
  have hv:ej i=.tup [.int .i64 (bc i).1,.bool false]:=by rw[ej,Z]
  refine zcv (M:=221) (rs:=[.tmp 6]) (J.call _) J.ice J.froz Tryz.func97 rfl rfl dT.2 rfl ?_;dsimp only[dT,zcr,Nat.reduceAdd];repeat' (first
   |(apply zcl ?_;clear hK K)|apply Ry.o ?_|(apply bK ?_;first|refine Rx.k (i4 (fun _=>rfl) _ _) ?_)|apply Ry.gu ?_|(apply a8 (fun A I=>?_) (fun A I=>?_)<;>try(cases A;done))|(apply aB (fun z V=>?_) (fun z V=>?_)<;>try(cases z;done))|apply ak ?_|(apply zcm fun K hK=>?_)|apply am ?_)
  all_goals
   refine⟨eI,_,dA,?_⟩;try simp only[zcn]
   rw[ztz Z]
 |true=>
 by_cases j:0<=(bc i).1/\(L.length:Int)≠(bc i).1
 .have hv:ej i=.tup [.int .i64 (bc i).1,.bool true]:=by rw[ej,Z]
  obtain⟨h1,h2⟩:=j;refine zcv (M:=221) (rs:=[.tmp 6]) (J.call _) J.ice J.froz Tryz.func97 rfl rfl dT.2 rfl ?_;dsimp only[dT,zcr,Nat.reduceAdd];repeat' (first
   |(apply zcl ?_;clear hK K)|apply Ry.o ?_|(apply bK ?_;first|refine Rx.k (i4 (fun _=>rfl) _ _) ?_)|(apply a8 (fun A I=>?_) (fun A I=>?_)<;>try(cases A;done))|(apply aB (fun z V=>?_) (fun z V=>?_)<;>try(cases z;done))|apply ak ?_|(apply zcm fun K hK=>?_)|apply am ?_)
  all_goals
   refine⟨eI,_,dA,?_⟩;try simp only[zcn]
   rw[zpQ Z h1 h2]
 cases Y:zdo i g with
 |false=>
  have hv:ej i=.tup [.int .i64 (bc i).1,.bool true]:=by rw[ej,Z]
  refine zcv (M:=221) (rs:=[.tmp 6]) (J.call _) J.ice J.froz Tryz.func97 rfl rfl dT.2 rfl ?_;dsimp only[dT,zcr,Nat.reduceAdd];repeat' (first
   |(apply zcl ?_;clear hK K)|apply Ry.o ?_|(apply bK ?_;first|refine Rx.k (i4 (fun _=>rfl) _ _) ?_|refine Rx.k (jD (fun _=>rfl) _ _ _) ?_)|(apply a8 (fun A I=>?_) (fun A I=>?_)<;>try(cases A;done))|(apply aB (fun z V=>?_) (fun z V=>?_)<;>try(cases z;done))|apply ak ?_|(apply zcm fun K hK=>?_)|apply am ?_)
  all_goals
   refine⟨eI,_,dA,?_⟩;try simp only[zcn]
   rw[zpR Y]
 |true=>
 have O:=ztA (l:=l) (n:=⟨i,g,L⟩) (k:=k) Z j Y;simp only[]at O;by_cases o:i=31
 .subst o;exact zbk U Y lD
 by_cases m:i=30
 .subst m;exact zbg W U Y lD
 by_cases c25:i=25
 .subst c25;exact zbh W U (F rfl) (by have e:(bc 25).1=1:=rfl;omega) Y lD
 have hnn:=Gs o m;have hkn:(L.length:Int)=(bc i).1:=ac;have hv:ej i=.tup [.int .i64 L.length,.bool true]:=by rw[ej,Z,hkn]
 by_cases c22:i=22
 .subst c22;obtain⟨a,b,c,rfl⟩:=nW (s:=k) (by have e:(bc 22).1=3:=rfl;omega);have C:zcR l ⟨22,g,L⟩ [a,b,c]=if a≠1\/b≠c\/b=3 then 0 else b:=lD
  refine zcv (M:=221) (rs:=[.tmp 6]) (J.call _) J.ice J.froz Tryz.func97 rfl rfl dT.2 rfl ?_;dsimp only[dT,zcr,Nat.reduceAdd];repeat' (first
   |(apply zcl ?_;clear hK K)|apply Ry.o ?_|(apply bK ?_;first|refine Rx.k (i4 (fun _=>rfl) _ _) ?_|refine Rx.k (jD (fun _=>rfl) _ _ _) ?_)|(apply a8 (fun A I=>?_) (fun A I=>?_)<;>try(cases A;done))|(apply aB (fun z V=>?_) (fun z V=>?_)<;>try(cases z;done))|apply ak ?_|(apply zcm fun K hK=>?_)|(apply zc4 12 [(2,19),(7,19),(10,19),(16,19)] fun K hK=>?_)|(apply zcV ?_;try intro _)|(apply zc5 ?_ ?_<;>clear hK K)|apply bD ?_|(apply iC (fun A I=>?_) (fun A I=>?_)<;>try(cases A;done))|apply ay ?_|apply zco ?_|apply am ?_)
  all_goals first
   |exact eK
   |((refine⟨eI,_,dA,?_⟩;try simp only[zcn]);rw[C];clear C O F hv hkn j Z Y W;(try simp only[k9,jw]at *);first|(rw[ax xX];done)|(rw[ah xX];done)|(rw[ax ac];done)|(rw[ah ac];done))
 by_cases c23:i=23
 .subst c23;obtain⟨a,b,rfl⟩:=l4 (s:=k) (by have e:(bc 23).1=2:=rfl;omega);have C:zcR l ⟨23,g,L⟩ [a,b]=zdh (decide (a=2)&&decide (b=1)) 1:=lD;refine zcv (M:=221) (rs:=[.tmp 6]) (J.call _) J.ice J.froz Tryz.func97 rfl rfl dT.2 rfl ?_;dsimp only[dT,zcr,Nat.reduceAdd];repeat' (first
   |(apply zcl ?_;clear hK K)|apply Ry.o ?_|(apply bK ?_;first|refine Rx.k (i4 (fun _=>rfl) _ _) ?_|refine Rx.k (jD (fun _=>rfl) _ _ _) ?_|refine Rx.k (kO (fun _=>rfl) _ _ _) ?_)|(apply a8 (fun A I=>?_) (fun A I=>?_)<;>try(cases A;done))|(apply aB (fun z V=>?_) (fun z V=>?_)<;>try(cases z;done))|apply ak ?_|(apply zcm fun K hK=>?_)|apply ay ?_|apply zco ?_|apply am ?_)
  all_goals first
   |exact eK
   |((refine⟨eI,_,dA,?_⟩;try simp only[zcn]);rw[C];(try simp only[]at *);simp only[ *,qm,dK,de,];done)
   |((refine⟨eI,_,dA,?_⟩;try simp only[zcn]);rw[C];clear C O F hv hkn;simp_all;done)
 by_cases c24:i=24
 .subst c24;obtain⟨a,rfl⟩:=lz (s:=k) (by have e:(bc 24).1=1:=rfl;omega);have C:zcR l ⟨24,g,L⟩ [a]=zdh (decide (a=2)) 1:=lD;refine zcv (M:=221) (rs:=[.tmp 6]) (J.call _) J.ice J.froz Tryz.func97 rfl rfl dT.2 rfl ?_;dsimp only[dT,zcr,Nat.reduceAdd];repeat' (first
   |(apply zcl ?_;clear hK K)|apply Ry.o ?_|(apply bK ?_;first|refine Rx.k (i4 (fun _=>rfl) _ _) ?_|refine Rx.k (jD (fun _=>rfl) _ _ _) ?_|refine Rx.k (kO (fun _=>rfl) _ _ _) ?_)|(apply a8 (fun A I=>?_) (fun A I=>?_)<;>try(cases A;done))|(apply aB (fun z V=>?_) (fun z V=>?_)<;>try(cases z;done))|apply ak ?_|(apply zcm fun K hK=>?_)|apply ay ?_|apply zco ?_|apply am ?_)
  all_goals first
   |exact eK
   |((refine⟨eI,_,dA,?_⟩;try simp only[zcn]);rw[C];done)
 by_cases c27:i=27
 .subst c27;obtain⟨a,b,rfl⟩:=l4 (s:=k) (by have e:(bc 27).1=2:=rfl;omega);have C:zcR l ⟨27,g,L⟩ [a,b]=zdh (decide (a=2)&&decide (b=1)) 2:=lD;refine zcv (M:=221) (rs:=[.tmp 6]) (J.call _) J.ice J.froz Tryz.func97 rfl rfl dT.2 rfl ?_;dsimp only[dT,zcr,Nat.reduceAdd];repeat' (first
   |(apply zcl ?_;clear hK K)|apply Ry.o ?_|(apply bK ?_;first|refine Rx.k (i4 (fun _=>rfl) _ _) ?_|refine Rx.k (jD (fun _=>rfl) _ _ _) ?_|refine Rx.k (kO (fun _=>rfl) _ _ _) ?_)|(apply a8 (fun A I=>?_) (fun A I=>?_)<;>try(cases A;done))|(apply aB (fun z V=>?_) (fun z V=>?_)<;>try(cases z;done))|apply ak ?_|(apply zcm fun K hK=>?_)|apply ay ?_|apply zco ?_|apply am ?_)
  all_goals first
   |exact eK
   |((refine⟨eI,_,dA,?_⟩;try simp only[zcn]);rw[C];(try simp only[]at *);simp only[ *,qm,dK,de,];done)
 by_cases c29:i=29
 .subst c29;obtain⟨a,b,rfl⟩:=l4 (s:=k) (by have e:(bc 29).1=2:=rfl;omega);have C:zcR l ⟨29,g,L⟩ [a,b]=zdh (decide (a=2)&&decide (b=1)) 2:=lD;refine zcv (M:=221) (rs:=[.tmp 6]) (J.call _) J.ice J.froz Tryz.func97 rfl rfl dT.2 rfl ?_;dsimp only[dT,zcr,Nat.reduceAdd];repeat' (first
   |(apply zcl ?_;clear hK K)|apply Ry.o ?_|(apply bK ?_;first|refine Rx.k (i4 (fun _=>rfl) _ _) ?_|refine Rx.k (jD (fun _=>rfl) _ _ _) ?_|refine Rx.k (kO (fun _=>rfl) _ _ _) ?_)|(apply a8 (fun A I=>?_) (fun A I=>?_)<;>try(cases A;done))|(apply aB (fun z V=>?_) (fun z V=>?_)<;>try(cases z;done))|apply ak ?_|(apply zcm fun K hK=>?_)|apply ay ?_|apply zco ?_|apply am ?_)
  all_goals first
   |exact eK
   |((refine⟨eI,_,dA,?_⟩;try simp only[zcn]);rw[C];(try simp only[]at *);simp only[ *,qm,dK,de,];done)
 by_cases c28:i=28
 .subst c28;obtain⟨a,b,c,rfl⟩:=nW (s:=k) (by have e:(bc 28).1=3:=rfl;omega);have C:zcR l ⟨28,g,L⟩ [a,b,c]=zdh (decide (a=2)&&decide (b=1)&&decide (c=1)) 2:=lD;refine zcv (M:=221) (rs:=[.tmp 6]) (J.call _) J.ice J.froz Tryz.func97 rfl rfl dT.2 rfl ?_;dsimp only[dT,zcr,Nat.reduceAdd];repeat' (first
   |(apply zcl ?_;clear hK K)|apply Ry.o ?_|(apply bK ?_;first|refine Rx.k (i4 (fun _=>rfl) _ _) ?_|refine Rx.k (jD (fun _=>rfl) _ _ _) ?_|refine Rx.k (kO (fun _=>rfl) _ _ _) ?_)|(apply a8 (fun A I=>?_) (fun A I=>?_)<;>try(cases A;done))|(apply aB (fun z V=>?_) (fun z V=>?_)<;>try(cases z;done))|apply ak ?_|(apply zcm fun K hK=>?_)|apply ay ?_|apply zco ?_|apply am ?_)
  all_goals first
   |exact eK
   |((refine⟨eI,_,dA,?_⟩;try simp only[zcn]);rw[C];(try simp only[]at *);simp only[ *,qm,w5,];done)
 by_cases c26:i=26
 .subst c26;have C:zcR l ⟨26,g,L⟩ k=2:=lD;refine zcv (M:=221) (rs:=[.tmp 6]) (J.call _) J.ice J.froz Tryz.func97 rfl rfl dT.2 rfl ?_;dsimp only[dT,zcr,Nat.reduceAdd];repeat' (first
   |(apply zcl ?_;clear hK K)|apply Ry.o ?_|(apply bK ?_;first|refine Rx.k (i4 (fun _=>rfl) _ _) ?_|refine Rx.k (jD (fun _=>rfl) _ _ _) ?_|refine Rx.k (kO (fun _=>rfl) _ _ _) ?_)|(apply a8 (fun A I=>?_) (fun A I=>?_)<;>try(cases A;done))|(apply aB (fun z V=>?_) (fun z V=>?_)<;>try(cases z;done))|apply ak ?_|(apply zcm fun K hK=>?_)|apply ay ?_|apply zco ?_|apply am ?_)
  all_goals first
   |exact eK
   |((refine⟨eI,_,dA,?_⟩;try simp only[zcn]);rw[C];done)
 by_cases c3:i=3
 .subst c3;have C:zcR l ⟨3,g,L⟩ k=if g.tmod 16=0 then 2 else 1:=lD
  refine zcv (M:=221) (rs:=[.tmp 6]) (J.call _) J.ice J.froz Tryz.func97 rfl rfl dT.2 rfl ?_;dsimp only[dT,zcr,Nat.reduceAdd];repeat' (first
   |(apply zcl ?_;clear hK K)|apply Ry.o ?_|(apply bK ?_;first|refine Rx.k (i4 (fun _=>rfl) _ _) ?_|refine Rx.k (jD (fun _=>rfl) _ _ _) ?_|refine Rx.k (kO (fun _=>rfl) _ _ _) ?_)|(apply a8 (fun A I=>?_) (fun A I=>?_)<;>try(cases A;done))|(apply aB (fun z V=>?_) (fun z V=>?_)<;>try(cases z;done))|apply ak ?_|(apply zcm fun K hK=>?_)|apply ay ?_|apply zco ?_|apply am ?_)
  all_goals first
   |exact eK
   |((refine⟨eI,_,dA,?_⟩;try simp only[zcn]);rw[C,ax hC];done)
   |((refine⟨eI,_,dA,?_⟩;try simp only[zcn]);rw[C,ah hC];done)
 have C:zcR l ⟨i,g,L⟩ k=zdh (zdw k) 1:=by
  rw[O,ah c3,ah c26,ah c22,ah c23,ah c24,ah c25,ah ac,ah c28,ah m,ah o]
 have hkb':k.length<2^60:=ac;have hk0:(0:Int)<=L.length:=ac;refine zcv (M:=221) (rs:=[.tmp 6]) (J.call _) J.ice J.froz Tryz.func97 rfl rfl dT.2 rfl ?_;dsimp only[dT,zcr,Nat.reduceAdd];repeat' (first
  |(apply zcl ?_;clear hK K)|apply Ry.o ?_|(apply bK ?_;first|refine Rx.k (i4 (fun _=>rfl) _ _) ?_|refine Rx.k (jD (fun _=>rfl) _ _ _) ?_|refine Rx.k (ye (fun _=>rfl) _ hkb' _) ?_|refine Rx.k (kO (fun _=>rfl) _ _ _) ?_)|(apply a8 (fun A I=>?_) (fun A I=>?_)<;>try(cases A;done))|(apply aB (fun z V=>?_) (fun z V=>?_)<;>try(cases z;done))|apply ak ?_|(apply zcm fun K hK=>?_)|apply ay ?_|apply zco ?_|apply am ?_)
 all_goals first
  |exact eK
  |((refine⟨eI,_,dA,?_⟩;try simp only[zcn]);rw[C];done))
end
section
def tyK3.tyF:=ad @cI (ad @bZ (ad @d8 (ad @eY (ad @eL (@uz)))))
open tyK3
noncomputable def J0:{c:SC // aA 69 (Tryz.f60.body.getD .skip)=c}:=by
 refine⟨?_,?_⟩;rotate_left
 .simp only[Tryz.f60,a3,aA,zcG,zcE,zcJ,zcK,Nat.blt,Nat.ble];rfl
noncomputable def Ck:En:=⟨97,true,bX vb pg fun x=>.int .i64 (zcR x.l x.n x.k)⟩
theorem zya(ρ:Nat->Int):zdd Tryz.prog ρ Ck:=zdk fun x F=>zj5 ρ x F
noncomputable def yh:List En:=[kD Ck]
theorem ztC(ρ:Nat->Int):eX Tryz.prog ρ yh:=⟨rQ (zya ρ),trivial⟩
theorem ztD(l:List Nd):bE 60 (zdy l)=zdy l:=by
 show AV.lst ((l.map Nd.cells).map fun z=>z.map (bE 59))=_;rw[oD];have e:(fun z=>z.map (bE 59)) ∘ Nd.cells=Nd.cells:=by
  funext x
  show(x.cells).map (bE 59)=x.cells;rw[Nd.cells];simp only[dJ,xd,Bq 57];rfl
 rw[e]
theorem zbp(y:NsX):(pg y).any (ji 90)=false:=by
 obtain⟨l,⟨i,g,L⟩,s⟩:=y;rfl
theorem zbq(S:Nat->Prop)(H:Hp)(n:Nd):zdf S 3 H (.agg n.cells) (.agg n.cells):=by
 refine⟨n.cells,?_,rfl⟩;rw[Nd.cells];exact⟨lj ⟨.int _ _,trivial⟩,lj ⟨.int _ _,trivial⟩,lj ⟨oG _,trivial⟩,trivial⟩
theorem zbr{tb:List En}(C:∀z,zdn tb 97 z=(kD Ck).sp z)(Z:iz tb 97=true){H:Hp}{v:AV}{s:List Int}{lo:Nat}(L:eh H v s lo)(l:List Nd)(n:Nd)(O:vb ⟨l,n,s⟩):
 zcx Tryz.prog (zcq pls tb) 97 [zdy l,.agg n.cells,v] H fun w H'=>w=.int .i64 (zcR l n s)/\Icy (fun k=>lo<=k) H H':=by
 obtain⟨u,i,g⟩:=L.ic;refine r7 (x:=(⟨l,n,s⟩:NsX)) (enc:=pg) (ok:=vb) (out:=fun x=>.int .i64 (zcR x.l x.n x.k)) (us:=[zdy l,.agg n.cells,u]) (n:=3) zx8 (fun z=>by rw[C];rfl) Z zbp O ac ⟨lj ⟨ze8 _,trivial⟩,zbq _ _ _,i,trivial⟩ ?_;show [bE 60 (zdy l),bE 60 (.agg n.cells),bE 60 u]=_;rw[g,GE 56,ztD];rfl
theorem zyb{l:List Nd}{i:Nat}(C:i<l.length){n:Nd}{s:List Int}(m:l[i]?=some n)(j:jt i (zcZ l i) n.kids=some s):zeg l i (zcZ l i)=zcR l n s:=by
 rw[<-Xs ac,A3,m];simp only[j]
theorem zbt{l:List Nd}{i:Nat}{kn s:List Int}{n:Nd}(C:i<l.length)(I:jK l)(Z:l[i]?=some n)(j:jt i kn n.kids=some s):vb ⟨l,n,s⟩:=by
 have z:=I.2 n (jL Z);have e:=oU j;refine⟨e,by simp only[];omega,fun _ Y=>?_⟩;obtain⟨k,W⟩:=lz Y;simp only[]at W⊢;obtain⟨o,U,_⟩:=sg j k (by rw[W];exact Gy _);obtain⟨m,rfl⟩:=ez o;have M:m<l.length:=ac;exact⟨m,l[m],W,aO M,I.2 _ (dj M)⟩
theorem eh.at{H:Hp}{v:AV}{l:List Int}{lo:Nat}(h:eh H v l lo){i:Nat}(C:i<l.length):
 ∃r,zcU Tryz.prog 23 v (.int .i64 (i:Int))=some (.ptr r i)/\zdZ Tryz.prog H 3 (.ptr r i)=some (.int .i64 l[i]):=by
 rcases h with⟨_,rfl⟩|h
 .simp at C
 .exact h.at C
set_option maxRecDepth 100000 in
theorem znC(ρ:Nat->Int)(l:List Nd)(hl:jK l):a9 Tryz.prog ρ 60 [zdy l] (jk (zcZ l l.length)):=z8 (n:=3) (zfi (r:=ur (zcZ l l.length)) (m:=3) (cfg:=zcq pls yh) fit (lc ρ) (eX.look (ztC ρ)) (.cons (ze8 _) .nil) (by
 have hl0:=hl;obtain⟨hl1,hl2⟩:=hl;have hw:Plain (zcq pls yh) 60:=zdm (fun _=>rfl) rfl;have hkeep:(zcq pls yh).keep 60=false:=rfl;refine zcv (M:=69) (rs:=[.tmp 2]) (hw.call _) hw.ice hw.froz Tryz.func60 rfl rfl J0.2 rfl ?_;dsimp only[J0,zcr,Nat.reduceAdd];repeat' (first
  |(apply zcl ?_;clear hK K)|apply Rx.o ?_|apply ak ?_|(apply zcm fun K hK=>?_)|apply ay ?_|fail)
 refine zdl [0,2] [] 4 l.length (fun i E H=>∃v,E.at 3=v/\lZ H v (zcZ l i) 0) eE ⟨.nilS,eE,.inl ⟨rfl,rfl⟩⟩ ?_;rintro i E F hi hcE hrH hnH hsI ⟨v,zeP,hv⟩;(try simp only[zcO,zcI,aY,zcz,zcL,Nat.reduceBEq, *]at hcE);(try simp only[zcI, *]at hrH);(try simp only[zdg,]at hnH);repeat' (first
  |(apply zcl ?_;clear hK K)|apply Rx.o ?_|(apply aS (fun z Z=>?_) (fun z Z=>?_)<;>try(cases z;done))|apply ak ?_|(apply zcm fun K hK=>?_)|apply ay ?_|apply zco ?_|apply am ?_|apply zcA ?_)
 .have o:i<l.length:=by simpa using z
  have hgi:l[i]?=some l[i]:=aO o;have hnk:=hl2 _ (dj o);generalize l[i]=n at *;repeat' (first
   |(apply zcl ?_;clear hK K)|fail)
  refine zdl [0,2,3,4] [] 7 n.kids.length (fun j E H=>∃w s,E.at 5=w/\eh H w s F.next/\nY i (zcZ l i) n.kids j s/\E.at 6=.bool true/\∀k,k<F.next->H.get k=F.get k) eE ⟨.nilS,[],eE,.inl ⟨rfl,rfl⟩,⟨rfl,aD⟩,eE,fun _ _=>rfl⟩ ?_;rintro j E3 H3 hj hcE hrH hnH hsI ⟨w,s,zep,C,hJ,ze9,Y⟩;(try simp only[zcO,zcI,aY,zcz,Nat.reduceBEq, *]at hcE);(try simp only[zcI, *]at hrH);(try simp only[zcB,zcS,zdg,bw,Nat.reduceAdd]at hnH);repeat' (first
   |(apply zcl ?_;clear hK K)|apply Rx.o ?_|(apply aS (fun z Z=>?_) (fun z Z=>?_)<;>try(cases z;done))|apply ak ?_|(apply zcm fun K hK=>?_)|apply ay ?_|apply zco ?_|apply zcA ?_)
  .have hlt2:j<n.kids.length:=by simpa using z
   have hgx:n.kids[j]?=some n.kids[j]:=aO hlt2;generalize n.kids[j]=J at *;have g:lZ H3 v (zcZ l i) 0:=hv.keep ac fun k U=>Y k (hv.n.lt U).2;have L:∀(x:Int),eh (H3.alloc (.cells [.int .i64 x] 0 true)) v (zcZ l i) 0:=fun x=>g.n.keep (f7 _) fun k U=>by rw[zcu,ah (by have:=(hv.n.lt U).2;omega)]
   by_cases V:J<0\/(i:Int)<=J\/(zcZ l i).getD J.toNat 0=0
   .have hs0:zeg l i (zcZ l i)=0:=xh hgi (hJ.bad hgx V);have W:zcZ l (i+1)=zcZ l i++[0]:=by rw[zcZ,hs0]
    obtain⟨v5,H5,a5,s5,n5,f5,o5⟩:=wY (r:=H3.next) (imm:=0) 0 (L 0) (cK _) ij oP;have n5':F.next<=H5.next:=sk
    clear n5 f5 o5 L;by_cases c1:J<0
    .repeat' (first
      |(apply zcl ?_;clear hK K)|apply Ry.o ?_|(apply a8 (fun A I=>?_) (fun A I=>?_)<;>try(cases A;done))|(apply aB (fun z Z=>?_) (fun z Z=>?_)<;>try(cases z;done))|apply ak ?_|(apply zcm fun K hK=>?_)|apply zcA ?_)
     refine⟨ac,zcy,zcy,zcT,jz,?_⟩;exact⟨v5,eE,.inr ⟨rD,yf⟩⟩
    by_cases c2:(i:Int)<=J
    .have c1':¬J<0:=c1;repeat' (first
      |(apply zcl ?_;clear hK K)|apply Ry.o ?_|(apply a8 (fun A I=>?_) (fun A I=>?_)<;>try(cases A;done))|(apply aB (fun z Z=>?_) (fun z Z=>?_)<;>try(cases z;done))|apply ak ?_|(apply zcm fun K hK=>?_)|apply zcA ?_)
     refine⟨ac,zcy,zcy,zcT,jz,?_⟩;exact⟨v5,eE,.inr ⟨rD,yf⟩⟩
    have hb0:(zcZ l i).getD J.toNat 0=0:=by
     rcases V with h|h|h
     .exact absurd h c1
     .exact absurd h c2
     .exact h
    clear V;obtain⟨m,rfl⟩:=ez (xe.1 c1);have O:m<(zcZ l i).length:=oP;obtain⟨q,hix,hlo⟩:=g.n.at O;have hgk:(zcZ l i)[m]=0:=by
     rw[dL,cJ,aO O]at hb0;exact hb0
    rw[hgk]at hlo;repeat' (first
     |(apply zcl ?_;clear hK K)|apply Ry.o ?_|(apply a8 (fun A I=>?_) (fun A I=>?_)<;>try(cases A;done))|(apply aB (fun z Z=>?_) (fun z Z=>?_)<;>try(cases z;done))|apply ak ?_|(apply zcm fun K hK=>?_)|apply zcA ?_)
    refine⟨ac,zcy,zcy,zcT,jz,?_⟩;exact⟨v5,eE,.inr ⟨rD,yf⟩⟩
   .have hJn:=hJ.next hgx V
    have c1:¬J<0:=fun h=>V (.inl h);have c2:¬(i:Int)<=J:=fun h=>V (.inr (.inl h));have c3:¬(zcZ l i).getD J.toNat 0=0:=fun h=>V (.inr (.inr h));clear V L;obtain⟨m,rfl⟩:=ez (xe.1 c1);have O:m<(zcZ l i).length:=oP;obtain⟨q,hix,hlo⟩:=g.n.at O;have hgk:(zcZ l i).getD (m:Int).toNat 0=(zcZ l i)[m]:=by
     rw[dL,cJ,aO O];rfl
    rw[hgk]at c3 hJn;generalize (zcZ l i)[m]=x at *;have hwb:eh (H3.alloc (.cells [.int .i64 x] 0 true)) w s F.next:=C.keep (f7 _) fun k U=>by rw[zcu,ah (by have:=(C.lt U).2;omega)]
    obtain⟨v5,H5,a5,s5,n5,f5,o5⟩:=wY (r:=H3.next) (imm:=0) x hwb gR ij (by rw[hJ.1];omega);have n5':H3.next<=H5.next:=sk
    have o5':∀k,k<F.next->H5.get k=F.get k:=fun k U=>by rw[f5 k U,zcu,ah ac,Y k U]
    clear n5 f5 o5 hJ Y g;repeat' (first
     |(apply zcl ?_;clear hK K)|apply Ry.o ?_|(apply a8 (fun A I=>?_) (fun A I=>?_)<;>try(cases A;done))|(apply aB (fun z Z=>?_) (fun z Z=>?_)<;>try(cases z;done))|apply ak ?_|(apply zcm fun K hK=>?_)|apply zco ?_|fail)
    refine⟨ac,zcy,zcy,zcT,oX,?_⟩;exact⟨v5,s++[x],eE,.inr s5,hJn,eE,o5'⟩
  .have hje:j=n.kids.length:=by omega
   rw[hje]at hJ;have g:lZ H3 v (zcZ l i) 0:=hv.keep ac fun k U=>Y k (hv.n.lt U).2;have hs1:=zyb o hgi hJ.done;have hok:=zbt o hl0 hgi hJ.done;have W:zcZ l (i+1)=zcZ l i++[zcR l n s]:=by rw[zcZ,hs1]
   repeat' (first
    |(apply zcl ?_;clear hK K)|fail)
   refine bg rfl bh bj ?_;simp only[br];refine a7 ?_ (zbr (fun _=>rfl) rfl C l n hok);rintro x H4 ⟨rfl,hy⟩;have n4:=hy.next
   have n4':F.next<=H4.next:=ac
   have hv4:lZ H4 v (zcZ l i) 0:=g.keep ac fun k U=>hy.out k (by have:=(hv.n.lt U).2;omega);clear hy n4 C hJ Y g hs1 hok;dsimp only[zcF];generalize zcR l n s=x at *;have L:eh (H4.alloc (.cells [.int .i64 x] 0 true)) v (zcZ l i) 0:=hv4.n.keep (f7 _) fun k U=>by rw[zcu,ah (by have:=(hv4.n.lt U).2;omega)]
   obtain⟨v5,H5,a5,s5,n5,f5,o5⟩:=wY (r:=H4.next) (imm:=0) x L (cK _) ij oP;have n5':F.next<=H5.next:=sk
   clear n5 f5 o5 L;repeat' (first
    |(apply zcl ?_;clear hK K)|apply Rx.o ?_|(apply zcm fun K hK=>?_)|fail)
   refine⟨ac,zcy,zcy,zcT,jz,?_⟩;exact⟨v5,eE,.inr ⟨rD,yf⟩⟩
 .have hie:i=l.length:=by simp at z;omega
  rw[hie]at hv;repeat' (first
   |(apply zcl ?_;clear hK K)|fail)
  all_goals (refine⟨eI,_,eR,?_⟩;try simp only[zcn])
  exact hv.iceV 1)) (WV 1 _)
end
section
def tySnC.tyF:=ad @cI (ad @bZ (ad @d8 (@eY)))
open tySnC
noncomputable def yi:{c:SC // aA 45 (Tryz.f39.body.getD .skip)=c}:=by
 refine⟨?_,?_⟩;rotate_left
 .simp only[Tryz.f39,a3,aA,zcG,zcE,zcJ,zcK,Nat.blt,Nat.ble];rfl
def qR(x:Nd×Nd):List AV:=[.agg x.1.cells,.agg x.2.cells]
theorem zyc(x y:Nd×Nd)(h:qR x=qR y):x=y:=by
 simp only[qR,cM,AV.agg.injEq,aY]at h;exact jT (nS h.1) (nS h.2)
def yj(x:Nd×Nd):Prop:=x.1.kids.length<2^60
theorem zyd{s w:List Int}(I:s.length=w.length){i:Nat}(C:i<s.length):decide (s.drop i=w.drop i)=(decide (s.getD i 0=w.getD i 0)&&decide (s.drop (i+1)=w.drop (i+1))):=by
 rw[d7 C,d7 (l:=w) ac];rw[cJ,cJ,aO C,aO (by omega:i<w.length)];simp only[a3,cM,Bool.decide_and]
theorem zj6(ρ:Nat->Int)(x:Nd×Nd)(o:yj x):a9 Tryz.prog ρ 39 (qR x) (.bool (decide (x.1=x.2))):=zdv fit (pls:=pls) (l:=[]) trivial (.cons (.agg (rR _)) (.cons (.agg (rR _)) .nil)) (.bool _) (by
 obtain⟨⟨o1,i1,s⟩,⟨o2,i2,w⟩⟩:=x;have J:=zdM 39;unfold yj at o;rw[qR];simp only[Nd.cells]at o⊢;have hd:decide ((⟨o1,i1,s⟩:Nd)=⟨o2,i2,w⟩)=(decide (o1=o2)&&decide (i1=i2)&&decide (s=w)):=by
  simp[Bool.decide_and,ql]
 rw[hd];by_cases O:w.length=s.length
 .clear hd;refine zcv (M:=45) (rs:=[.tmp 4]) (J.call _) J.ice J.froz Tryz.func39 rfl rfl yi.2 rfl ?_;dsimp only[yi,zcr,Nat.reduceAdd];repeat' (first
   |(apply zcl ?_;clear hK K)|apply Ry.o ?_|(apply a8 (fun A I=>?_) (fun A I=>?_)<;>try(cases A;done))|(apply aB (fun z V=>?_) (fun z V=>?_)<;>try(cases z;done))|apply ak ?_|(apply zcm fun K hK=>?_)|(apply zc4 6 [(1,11),(4,11),(6,11),(9,11)] fun K hK=>?_)|(apply zcV ?_;try intro _)|(apply zc5 ?_ ?_<;>clear hK K)|apply bD ?_|apply ay ?_|apply zco ?_|apply am ?_|apply zcA ?_)
  all_goals first
   |(refine⟨eI,_,dA,?_⟩;try simp only[zcn]
     simp_all;done)
   |skip
  refine zdl [2,3] [0,1] 5 s.length (fun i E H=>decide (s=w)=decide (s.drop i=w.drop i)) eE aD ?_;rintro i E Y hi W j m hsI g;(try simp only[zcO,zcI,aY,zcz,zcL,Nat.reduceBEq,Nat.reduceAdd,Nat.reduceLeDiff,tyF, *]at W);(try simp only[zcO,zcI,aY,zcz,zcL,Nat.reduceBEq,Nat.reduceAdd,Nat.reduceLeDiff,tyF, *]at j);(try simp only[zcB,zcS,zdg,bw,Nat.reduceAdd]at m);have hB0:(0 == Y.next)=false:=zcD ac;have hC0:(Y.next == 0)=false:=zcD ac;have hB1:(1 == Y.next)=false:=zcD ac;have hC1:(Y.next == 1)=false:=zcD ac;repeat' (first
   |(apply zcl ?_;clear hK K)|apply Rx.o ?_|(apply aS (fun z V=>?_) (fun z V=>?_)<;>try(cases z;done))|apply ak ?_|(apply zcm fun K hK=>?_)|(apply zc4 6 [(1,11),(4,11),(6,11),(9,11)] fun K hK=>?_)|(apply zcV ?_;try intro _)|(apply zc5 ?_ ?_<;>clear hK K)|apply bD ?_|apply ay ?_|apply zco ?_|apply am ?_|apply zcA ?_)
  .have Z:i<s.length:=by simpa using z
   have L:s[i]?=some s[i]:=aO Z;have F:w[i]?=some (w[i]' ac):=aO ac;have U:=zyd O.symm Z;rw[cJ,cJ,L,F]at U;simp only[a3]at U;generalize s[i]=x at *;generalize w[i]' ac=y at *;repeat' (first
    |(apply zcl ?_;clear hK K)|apply Rx.o ?_|(apply aS (fun z V=>?_) (fun z V=>?_)<;>try(cases z;done))|apply ak ?_|(apply zcm fun K hK=>?_)|(apply zc4 6 [(1,11),(4,11),(6,11),(9,11)] fun K hK=>?_)|(apply zcV ?_;try intro _)|(apply zc5 ?_ ?_<;>clear hK K)|apply bD ?_|apply ay ?_|apply zco ?_|apply am ?_|apply zcA ?_)
   .exact eK
   .all_goals (refine⟨eI,_,eR,?_⟩;try simp only[zcn])
    rw[g,U];simp_all
   .refine⟨ac,zcy,zcy,zcT,r1,?_⟩;rw[g,U];simp_all
  .repeat' (first
    |(apply zcl ?_;clear hK K)|apply Rx.o ?_|(apply aS (fun z V=>?_) (fun z V=>?_)<;>try(cases z;done))|apply ak ?_|(apply zcm fun K hK=>?_)|(apply zc4 6 [(1,11),(4,11),(6,11),(9,11)] fun K hK=>?_)|(apply zcV ?_;try intro _)|(apply zc5 ?_ ?_<;>clear hK K)|apply bD ?_|apply ay ?_|apply zco ?_|apply am ?_|apply zcA ?_)
   all_goals (refine⟨eI,_,eR,?_⟩;try simp only[zcn])
   rw[g,show i=s.length by simp at z;omega,jy,<-O,jy];simp_all
 .have C:¬s=w:=fun e=>O k7;have hl2:¬(s.length:Int)=w.length:=ac;clear hd;refine zcv (M:=45) (rs:=[.tmp 4]) (J.call _) J.ice J.froz Tryz.func39 rfl rfl yi.2 rfl ?_;dsimp only[yi,zcr,Nat.reduceAdd];repeat' (first
   |(apply zcl ?_;clear hK K)|apply Ry.o ?_|(apply a8 (fun A I=>?_) (fun A I=>?_)<;>try(cases A;done))|(apply aB (fun z V=>?_) (fun z V=>?_)<;>try(cases z;done))|apply ak ?_|(apply zcm fun K hK=>?_)|(apply zc4 6 [(1,11),(4,11),(6,11),(9,11)] fun K hK=>?_)|(apply zcV ?_;try intro _)|(apply zc5 ?_ ?_<;>clear hK K)|apply bD ?_|apply ay ?_|apply zco ?_|apply am ?_|apply zcA ?_)
  all_goals
   refine⟨eI,_,dA,?_⟩;try simp only[zcn]
   rw[cX C,oR])
noncomputable def Cl:En:=⟨39,false,bX yj qR fun x=>.bool (decide (x.1=x.2))⟩
theorem zye(ρ:Nat->Int):zdd Tryz.prog ρ Cl:=zdk fun x F=>zj6 ρ x F
theorem zbz{l:List En}(I:∀z,zdn l 39 z=Cl.sp z)(a b:Nd)(h:a.kids.length<2^60)(H:Hp):zcx Tryz.prog (zcq pls l) 39 [.agg a.cells,.agg b.cells] H fun v H'=>v=.bool (decide (a=b))/\H'=H:=
 zds (enc:=qR) (ok:=yj) (out:=fun x=>.bool (decide (x.1=x.2))) zyc (x:=(a,b)) (I _) h
end
section
namespace tyK5
end tyK5
open tyK5
noncomputable def vc:En:=⟨60,true,bX jK iX fun l=>jk (zcZ l l.length)⟩
theorem J1(ρ:Nat->Int):zdd Tryz.prog ρ vc:=zdk fun l I=>znC ρ l I
theorem J2{tb:List En}(C:∀z,zdn tb 60 z=vc.sp z)(l:List Nd)(I:jK l)(H:Hp):zcx Tryz.prog (zcq pls tb) 60 [zdy l] H fun v H'=>v=jk (zcZ l l.length)/\H'=H:=
 zds (enc:=iX) (ok:=jK) (out:=fun l=>jk (zcZ l l.length)) qu (x:=l) (C _) I
end
section
def tyK9.tyF:=ad @cI (ad @bZ (ad @lk (ad @d8 (ad @eY (ad @eL (ad @wI (@uz)))))))
open tyK9
noncomputable def sV:{c:SC // aA 21 (Tryz.f50.body.getD .skip)=c}:=by
 refine⟨?_,?_⟩;rotate_left
 .simp only[Tryz.f50,a3,aA,zcG,zcE,zcJ,zcK,Nat.blt,Nat.ble];rfl
theorem zpS(ρ:Nat->Int)(x:List Nd×Int)(F:jK x.1):a9 Tryz.prog ρ 50 (l9 x) (.int .i64 (zdq x.1 x.2)):=zdv fit (pls:=pls) (l:=[vc]) ⟨J1 ρ,trivial⟩ (.cons (ze8 _) (.cons (.int _ _) .nil)) (.int _ _) (by
 obtain⟨l,i⟩:=x;simp only[]at F;have L:=F.1;have J:Plain (zcq pls [vc]) 50:=zdm (fun _=>rfl) rfl;rw[l9];simp only[];by_cases c1:i<0
 .refine zcv (M:=21) (rs:=[.tmp 4]) (J.call _) J.ice J.froz Tryz.func50 rfl rfl sV.2 rfl ?_;dsimp only[sV,zcr,Nat.reduceAdd];repeat' (first
   |(apply zcl ?_;clear hK K)|apply Ry.o ?_|(apply a8 (fun A I=>?_) (fun A I=>?_)<;>try(cases A;done))|(apply aB (fun z V=>?_) (fun z V=>?_)<;>try(cases z;done))|apply ak ?_|(apply zcm fun K hK=>?_)|apply am ?_)
  all_goals (refine⟨eI,_,eR,?_⟩;try simp only[zcn])
  rw[zdq,ax (.inl c1)]
 by_cases c2:(l.length:Int)<=i
 .refine zcv (M:=21) (rs:=[.tmp 4]) (J.call _) J.ice J.froz Tryz.func50 rfl rfl sV.2 rfl ?_;dsimp only[sV,zcr,Nat.reduceAdd];repeat' (first
   |(apply zcl ?_;clear hK K)|apply Ry.o ?_|(apply a8 (fun A I=>?_) (fun A I=>?_)<;>try(cases A;done))|(apply aB (fun z V=>?_) (fun z V=>?_)<;>try(cases z;done))|apply ak ?_|(apply zcm fun K hK=>?_)|apply am ?_)
  all_goals (refine⟨eI,_,eR,?_⟩;try simp only[zcn])
  rw[zdq,ax (.inr c2)]
 obtain⟨m,rfl⟩:=ez (xe.1 c1);have W:m<l.length:=ac;have U:IntKind.wrap .i64 ((m:Int)+1)=((m+1:Nat):Int):=zej ac ac;have Z:=X4 l (m+1) ac;have j:(l.take (m+1)).length=m+1:=ru;have Y:(zcZ (l.take (m+1)) (m+1))[m]?=some (zdq l m):=by
  rw[zdq,ah ac,dL,cJ,aO oP];rfl
 refine zcv (M:=21) (rs:=[.tmp 4]) (J.call _) J.ice J.froz Tryz.func50 rfl rfl sV.2 rfl ?_;dsimp only[sV,zcr,Nat.reduceAdd];repeat' (first
  |(apply zcl ?_;clear hK K)|apply Ry.o ?_|(apply bK ?_;first|refine Rx.k (J2 (fun _=>rfl) _ (F.take _) _) ?_)|(apply a8 (fun A I=>?_) (fun A I=>?_)<;>try(cases A;done))|(apply aB (fun z V=>?_) (fun z V=>?_)<;>try(cases z;done))|apply ak ?_|(apply zcm fun K hK=>?_)|apply zco ?_|apply am ?_)
 all_goals (refine⟨eI,_,eR,?_⟩;try simp only[zcn]))
noncomputable def Cm:En:=⟨50,true,bX (fun x=>jK x.1) l9 fun x=>.int .i64 (zdq x.1 x.2)⟩
theorem zyf(ρ:Nat->Int):zdd Tryz.prog ρ Cm:=zdk fun x F=>zpS ρ x F
theorem zbC{tb:List En}(C:∀z,zdn tb 50 z=Cm.sp z)(l:List Nd)(i:Int)(I:jK l)(H:Hp):zcx Tryz.prog (zcq pls tb) 50 [zdy l,.int .i64 i] H fun v H'=>v=.int .i64 (zdq l i)/\H'=H:=
 zds (enc:=l9) (ok:=fun x=>jK x.1) (out:=fun x=>.int .i64 (zdq x.1 x.2)) GH (x:=(l,i)) (C _) I
end
section
def tyVdC.tyF:=ad @cI (ad @bZ (ad @d8 (ad @eY (ad @eL (@mG)))))
open tyVdC
noncomputable def J3:{c:SC // aA 34 (Tryz.f61.body.getD .skip)=c}:=by
 refine⟨?_,?_⟩;rotate_left
 .simp only[Tryz.f61,a3,aA,zcG,zcE,zcJ,zcK,Nat.blt,Nat.ble];rfl
theorem zyg(ρ:Nat->Int)(x:List Nd×Int)(F:jK x.1):a9 Tryz.prog ρ 61 (l9 x) (.int .i64 (gm x.1 x.2)):=zdv fit (pls:=pls) (l:=[]) trivial (.cons (ze8 _) (.cons (.int _ _) .nil)) (.int _ _) (by
 obtain⟨l,m⟩:=x;simp only[]at F;obtain⟨hl1,C⟩:=F;have J:=zdM 61;have q2:(2:Int)≠0:=dr;rw[l9];simp only[];refine zcv (M:=34) (rs:=[.tmp 4]) (J.call _) J.ice J.froz Tryz.func61 rfl rfl J3.2 rfl ?_;dsimp only[J3,zcr,Nat.reduceAdd];repeat' (first
  |(apply zcl ?_;clear hK K)|apply Rx.o ?_|apply ak ?_|(apply zcm fun K hK=>?_)|apply ay ?_|apply zco ?_|apply am ?_|apply zcA ?_)
 refine zdl [0,1] [] 5 l.length (fun i E H=>gm (l.drop i) m=gm l m) eE rfl ?_;rintro i E Hi hi U j O o g;(try simp only[zcO,zcI,aY,zcz,zcL,Nat.reduceBEq,Nat.reduceAdd,Nat.reduceLeDiff,tyF, *]at U);(try simp only[zcO,zcI,aY,zcz,zcL,Nat.reduceBEq,Nat.reduceAdd,Nat.reduceLeDiff,tyF, *]at j);(try simp only[zcB,zcS,zdg,bw,Nat.reduceAdd]at O);by_cases Z:i<l.length
 .have Y:(i:Int)<l.length:=by omega
  have hgx:l[i]?=some l[i]:=aO Z;have hnk:=C _ (dj Z);have hd:gm (l.drop i) m=if l[i].op=31/\l[i].imm=m then (l[i].kids.length:Int).tdiv 2 else gm (l.drop (i+1)) m:=by rw[d7 Z,gm]
  rw[g]at hd;clear g;generalize l[i]=n at *;have e1:IntKind.wrap .i64 ((n.kids.length:Int).tdiv 2)=(n.kids.length:Int).tdiv 2:=by
   rw[kG ac];exact zej ac ac
  by_cases W:n.op=31
  .by_cases L:n.imm=m
   .rw[ax ⟨W,L⟩]at hd;repeat' (first
     |(apply zcl ?_;clear hK K)|apply Ry.o ?_|(apply a8 (fun A I=>?_) (fun A I=>?_)<;>try(cases A;done))|(apply aB (fun z V=>?_) (fun z V=>?_)<;>try(cases z;done))|apply ak ?_|(apply zcm fun K hK=>?_)|apply ay ?_|apply zco ?_|apply am ?_|apply zcA ?_)
    all_goals (refine⟨eI,_,eR,?_⟩;try simp only[zcn])
    rw[hd]
   .rw[ah (fun c=>L c.2)]at hd;repeat' (first
     |(apply zcl ?_;clear hK K)|apply Ry.o ?_|(apply a8 (fun A I=>?_) (fun A I=>?_)<;>try(cases A;done))|(apply aB (fun z V=>?_) (fun z V=>?_)<;>try(cases z;done))|apply ak ?_|(apply zcm fun K hK=>?_)|apply ay ?_|apply zco ?_|apply am ?_|apply zcA ?_)
    refine⟨ac,zcy,zcy,zcT,jz,?_⟩;exact hd.symm
  .rw[ah (fun c=>W c.1)]at hd;repeat' (first
    |(apply zcl ?_;clear hK K)|apply Ry.o ?_|(apply a8 (fun A I=>?_) (fun A I=>?_)<;>try(cases A;done))|(apply aB (fun z V=>?_) (fun z V=>?_)<;>try(cases z;done))|apply ak ?_|(apply zcm fun K hK=>?_)|apply ay ?_|apply zco ?_|apply am ?_|apply zcA ?_)
   refine⟨ac,zcy,zcy,zcT,jz,?_⟩;exact hd.symm
 .have Y:¬(i:Int)<l.length:=by omega
  rw[oQ ac]at g;repeat' (first
   |(apply zcl ?_;clear hK K)|apply Ry.o ?_|(apply a8 (fun A I=>?_) (fun A I=>?_)<;>try(cases A;done))|(apply aB (fun z V=>?_) (fun z V=>?_)<;>try(cases z;done))|apply ak ?_|(apply zcm fun K hK=>?_)|apply ay ?_|apply zco ?_|apply am ?_|apply zcA ?_)
  all_goals (refine⟨eI,_,eR,?_⟩;try simp only[zcn])
  rw[<-g];rfl)
noncomputable def J4:En:=⟨61,false,bX (fun x=>jK x.1) l9 fun x=>.int .i64 (gm x.1 x.2)⟩
theorem zyh(ρ:Nat->Int):zdd Tryz.prog ρ J4:=zdk fun x F=>zyg ρ x F
noncomputable def J5:En:=⟨62,false,bX Cb iX fun l=>yb (zd5 l l.length)⟩
theorem zyi(ρ:Nat->Int):zdd Tryz.prog ρ J5:=zdk fun l I=>zpN ρ l I
noncomputable def pi:List En:=[BF,vc,Cl,J4,Cm,J5]
theorem ztF(ρ:Nat->Int):eX Tryz.prog ρ pi:=⟨Hw ρ,J1 ρ,zye ρ,zyh ρ,zyf ρ,zyi ρ,trivial⟩
def Cn(x:VgX):Prop:=xN x/\x.g.name.length<2^60/\∀n∈x.g.nodes,NdR n
def jE(u:Un)(g:Gr):Bool:=zc9 g.name&&ee u g
def kP(t:List Int):List Bool:=t.map fun x=>decide (0<x)
theorem zpT{t:List Int}{m:Nat}(h:t.length=16)(M:m<16):(kP t).getD m false=decide (0<t.getD m 0):=by
 rw[kP,cJ,dX,cJ,aO ac];rfl
theorem zpU{t:List Int}{m:Nat}{v:Int}(L:0<v):(kP t).set m true=kP (t.set m v):=by
 rw[kP,kP,nV,cB L]
theorem zbJ:fW (fun _=>false)=kP (List.replicate 16 0):=dr
theorem Co{u:Un}{g:Gr}(h:ee u g=true):(0<=g.params/\g.params<=6)/\(g.nodes.length:Int)<=2000:=by
 unfold ee at h;simp only[kw]at h;exact h.1.1.1
theorem J6{u:Un}{g:Gr}(h:ee u g=true){i:Nat}{n:Nd}(m:g.nodes[i]?=some n):zdq g.nodes i≠0/\eF u g n=true:=by
 unfold ee at h;simp only[dp]at h;have C:i<g.nodes.length:=by
  by_cases c:i<g.nodes.length
  .exact c
  .rw[fG ac]at m;cases m
 have:=f9.1 h.1.1.2 i (jb.2 C);rw[kK,m,dp,jq]at this;exact this
theorem vd{u:Un}{g:Gr}(h:ee u g=true):jm g.nodes=true/\zeC g.nodes=true/\zdq g.nodes g.value=1/\zdq g.nodes g.state=2/\zdW g.nodes g.value=0/\zdW g.nodes g.state=0:=by
 unfold ee at h;simp only[kw]at h;obtain⟨⟨_,⟨⟨⟨⟨⟨a1,a2⟩,_⟩,_⟩,_⟩,_⟩⟩,⟨⟨zd9,zea⟩,a5⟩,a6⟩:=h;exact⟨a1,a2,zd9,zea,a5,a6⟩
theorem yk{l:List Nd}{i:Int}(h:zdq l i≠0):0<=i/\i<l.length:=by
 by_cases c:i<0\/(l.length:Int)<=i
 .exact absurd (by rw[zdq,ax c]) h
 .omega
theorem zbK{u:Un}{g:Gr}(o:0<=g.params)(h1:g.params<=6)(h2:(g.nodes.length:Int)<=2000)(Z:∀(i:Nat) (n:Nd),g.nodes[i]?=some n->zdq g.nodes i≠0/\eF u g n=true)(U:jm g.nodes=true)(Y:zeC g.nodes=true)
 (A:zdq g.nodes g.value=1) (F:zdq g.nodes g.state=2) (I:zdW g.nodes g.value=0) (W:zdW g.nodes g.state=0):ee u g=true:=by
 obtain⟨V,M⟩:=yk (l:=g.nodes) (i:=g.value) (by rw[A];decide);obtain⟨L,K⟩:=yk (l:=g.nodes) (i:=g.state) (by rw[F];decide);have hr:((List.range g.nodes.length).all (kK u g))=true:=f9.2 fun j O=>by
  have O:=jb.1 O;obtain⟨a,b⟩:=Z j _ (aO O);rw[kK,aO O];simp only[cB a,b,pM]
 unfold ee;rw[hr,U,Y,A,F,I,W,cB o,cB h1,cB h2,cB V,cB M,cB L,cB K];rfl
theorem zpV{u:Un}{g:Gr}(h:¬(zc9 g.name=true/\ee u g=true)):jE u g=false:=by
 unfold jE;cases a:zc9 g.name<;>cases b:ee u g<;>simp_all
theorem zpW{l:List Nd}(h:∀(i:Nat) (n:Nd),l[i]?=some n->zdq l i≠0):(∀(i:Nat) (n:Nd),l[i]?=some n->NdOk n i)/\∀n∈l,(n.op=31->LoopOk n)/\(n.op=3->0<=n.imm/\n.imm<=255)/\(n.op=30->0<=n.imm):=by
 refine⟨fun i n m=>(uQ m (h i n m)).1,fun n m=>?_⟩;obtain⟨j,O,e⟩:=oA m;have A:l[j]?=some n:=by rw[aO O,e]
 obtain⟨a,b,c⟩:=uQ A (h j n A);refine⟨fun e=>?_,a.lv,fun e=>(b e).1⟩;obtain⟨z,Z,W,Y⟩:=a.lp e;exact⟨z,Z,W,Y⟩
theorem ztH{l:List Nd}(h:∀(j:Nat) (n:Nd),l[j]?=some n->∀(k:Nat) (m:Nd),k<j->l[k]?=some m->m≠n):l.Nodup:=by
 refine yg.2 fun i j C O J e=>?_;exact h j _ (aO O) i _ J (aO C) e
theorem ztI{l:List Nd}(h:l.Nodup){i j:Nat}{n m:Nd}(J:i<j)(C:l[i]?=some m)(O:l[j]?=some n):m≠n:=by
 have I:j<l.length:=by
  by_cases c:j<l.length
  .exact c
  .rw[fG ac]at O;cases O
 have V:i<l.length:=ac;rw[aO V,az]at C;rw[aO I,az]at O;rw[<-C,<-O];exact yg.1 h i j V I J
end
section
theorem J7:∀(l:List Nd) (seen:List (List UInt8)),l.Nodup->(∀x∈l,NdR x)->(∀x∈l,zcP seen (zdu x)=false)->zcQ seen (l.map zdu)=false
 |[],_,_,_,_=>rfl
 |a::l,seen,hnd,hr,hs=>by
  rw[xZ]at hnd;rw[dJ,zcQ,hs a eW,jc];refine J7 l _ hnd.2 (fun x F=>hr x (e8 _ F)) fun x F=>?_;have e:zcP (seen++[zdu a]) (zdu x)=(zcP seen (zdu x)||zcP [zdu a] (zdu x)):=by unfold zcP;rw[uM]
  rw[e,hs x (e8 _ F),jc];have A:zcP [zdu a] (zdu x)=decide (zdu a=zdu x):=by simp[zcP]
  rw[A,jw];exact fun o=>hnd.1 (by rw[Jl (hr a eW) (hr x (e8 _ F)) o];exact F)
theorem zyj{l:List Nd}(m:l.Nodup)(hr:∀x∈l,NdR x):jm l=true:=by
 unfold jm;rw[J7 l [] m hr fun x _=>rfl];rfl
def tyVdD.tyF:=ad @cI (ad @bZ (ad @lk (ad @dl (ad @d8 (ad @eY (ad @eL (ad @mK (ad @mL (ad @hM (ad @ju (ad @lm (ad @wI (ad @EC (ad @mG (@pR)))))))))))))))
open tyVdD
noncomputable def nn:{c:SC // aA 179 (Tryz.f30.body.getD .skip)=c}:=by
 refine⟨?_,?_⟩;rotate_left
 .simp only[Tryz.f30,a3,aA,zcG,zcE,zcJ,zcK,Nat.blt,Nat.ble];rfl
theorem J8{l:List Nd}{i:Nat}(h:i<l.length):((zd5 l l.length).map fun b=>[AV.lst (b.map fun x=>[AV.bool x])])[i]?=some [.lst (((zd5 l l.length).getD i []).map fun x=>[AV.bool x])]:=by
 have I:i<(zd5 l l.length).length:=by rw[oZ];exact h
 rw[dX,cJ,aO I];rfl
theorem J9{l:List Nd}{i:Nat}(h:i<l.length):((zd5 l l.length).getD i []).length=16:=by
 have:∀n,i<n->n<=l.length->((zd5 l n).getD i []).length=16:=by
  intro n;induction n with
  |zero=>intro h;omega
  |succ n ih=>
   intro Z g;rw[zd5];by_cases e:i<n
   .rw[Bw (by rw[oZ];exact e)];exact ih e ac
   .rw[Bx (by rw[oZ];omega)];simp
 exact this _ h (aM _)
theorem Ka{b:List Bool}{j:Nat}(h:j<b.length):(b.map fun x=>[AV.bool x])[j]?=some [.bool (b.getD j false)]:=by
 rw[dX,cJ,aO h];rfl
set_option maxRecDepth 100000 in
theorem zyk(ρ:Nat->Int)(x:VgX)(hx:Cn x):a9 Tryz.prog ρ 30 (me x) (.bool (jE x.u x.g)):=zdv fit (pls:=pls) (ztF ρ) (.cons (.agg (rS _)) (.cons (.agg (Gr.pure _)) .nil)) (.bool _) (by
 obtain⟨u,g⟩:=x;obtain⟨⟨F,hua,huf⟩,hnm,hndr⟩:=hx;have hw:Plain (zcq pls pi) 30:=zdm (fun _=>rfl) rfl;rw[me];simp only[]at F hua huf hnm hndr⊢;have hnl:=F.1;have q16:(16:Int)≠0:=dr;have kv:∀H,zcx Tryz.prog (zcq pls pi) 29 [.str g.name] H fun v H'=>v=.bool (zc9 g.name)/\H'=H:=fun H=>zds (enc:=kE) (out:=fun x=>.bool (zc9 x)) r4 (x:=g.name) rfl hnm;have ks:∀H,zcx Tryz.prog (zcq pls pi) 60 [zdy g.nodes] H fun v H'=>v=jk (zcZ g.nodes g.nodes.length)/\H'=H:=fun H=>J2 (fun _=>rfl) _ F H;obtain⟨R,Z⟩:∃R,jE u g=R:=⟨_,rfl⟩;have hF:¬(zc9 g.name=true/\ee u g=true)->R=false:=fun h=>by rw[<-Z];exact zpV h
 have hT:zc9 g.name=true->ee u g=true->R=true:=fun h1 U=>by rw[<-Z,jE,h1,U];rfl
 rw[Z];clear Z;by_cases c0':zc9 g.name=false
 .have Z:=hF (fun h=>by rw[c0']at h;exact absurd h.1 dr);refine zcv (M:=179) (rs:=[.tmp 4]) (hw.call _) hw.ice hw.froz Tryz.func30 rfl rfl nn.2 rfl ?_;dsimp only[nn,zcr,Nat.reduceAdd];repeat' (first
   |(apply zcl ?_;clear hK K)|apply Ry.o ?_|(apply bK ?_;first|refine Rx.k (kv _) ?_)|(apply a8 (fun A I=>?_) (fun A I=>?_)<;>try(cases A;done))|(apply aB (fun z V=>?_) (fun z V=>?_)<;>try(cases z;done))|apply ak ?_|(apply zcm fun K hK=>?_)|apply am ?_|fail)
  all_goals (refine⟨eI,_,eR,?_⟩;try simp only[zcn])
  rw[Z]
 have c0:zc9 g.name=true:=by simpa using c0'
 clear c0';by_cases c1:g.params<0
 .have Z:=hF (fun h=>by have:=(Co h.2).1.1;omega);refine zcv (M:=179) (rs:=[.tmp 4]) (hw.call _) hw.ice hw.froz Tryz.func30 rfl rfl nn.2 rfl ?_;dsimp only[nn,zcr,Nat.reduceAdd];repeat' (first
   |(apply zcl ?_;clear hK K)|apply Ry.o ?_|(apply bK ?_;first|refine Rx.k (kv _) ?_)|(apply a8 (fun A I=>?_) (fun A I=>?_)<;>try(cases A;done))|(apply aB (fun z V=>?_) (fun z V=>?_)<;>try(cases z;done))|apply ak ?_|(apply zcm fun K hK=>?_)|apply am ?_|fail)
  all_goals (refine⟨eI,_,eR,?_⟩;try simp only[zcn])
  rw[Z]
 by_cases c2:6<g.params
 .have Z:=hF (fun h=>by have:=(Co h.2).1.2;omega);refine zcv (M:=179) (rs:=[.tmp 4]) (hw.call _) hw.ice hw.froz Tryz.func30 rfl rfl nn.2 rfl ?_;dsimp only[nn,zcr,Nat.reduceAdd];repeat' (first
   |(apply zcl ?_;clear hK K)|apply Ry.o ?_|(apply bK ?_;first|refine Rx.k (kv _) ?_)|(apply a8 (fun A I=>?_) (fun A I=>?_)<;>try(cases A;done))|(apply aB (fun z V=>?_) (fun z V=>?_)<;>try(cases z;done))|apply ak ?_|(apply zcm fun K hK=>?_)|apply am ?_|fail)
  all_goals (refine⟨eI,_,eR,?_⟩;try simp only[zcn])
  rw[Z]
 by_cases c3:(2000:Int)<g.nodes.length
 .have Z:=hF (fun h=>by have:=(Co h.2).2;omega);refine zcv (M:=179) (rs:=[.tmp 4]) (hw.call _) hw.ice hw.froz Tryz.func30 rfl rfl nn.2 rfl ?_;dsimp only[nn,zcr,Nat.reduceAdd];repeat' (first
   |(apply zcl ?_;clear hK K)|apply Ry.o ?_|(apply bK ?_;first|refine Rx.k (kv _) ?_)|(apply a8 (fun A I=>?_) (fun A I=>?_)<;>try(cases A;done))|(apply aB (fun z V=>?_) (fun z V=>?_)<;>try(cases z;done))|apply ak ?_|(apply zcm fun K hK=>?_)|apply am ?_|fail)
  all_goals (refine⟨eI,_,eR,?_⟩;try simp only[zcn])
  rw[Z]
 have hsl:=zfb g.nodes g.nodes.length;refine zcv (M:=179) (rs:=[.tmp 4]) (hw.call _) hw.ice hw.froz Tryz.func30 rfl rfl nn.2 rfl ?_;dsimp only[nn,zcr,Nat.reduceAdd];repeat' (first
  |(apply zcl ?_;clear hK K)|apply Ry.o ?_|(apply bK ?_;first|refine Rx.k (kv _) ?_|refine Rx.k (ks _) ?_)|(apply a8 (fun A I=>?_) (fun A I=>?_)<;>try(cases A;done))|(apply aB (fun z V=>?_) (fun z V=>?_)<;>try(cases z;done))|apply ak ?_|(apply zcm fun K hK=>?_)|apply ay ?_|apply zco ?_|fail)
 refine zdl [2,3,5] [0,1] 6 g.nodes.length (fun i E H=>∀j,j<i->zdq g.nodes j≠0) eE (fun j hj=>ac) ?_;rintro i E Hi hi hcE hrH J hsI hJ;(try simp only[zcO,zcI,aY,zcz,zcL,Nat.reduceBEq, *]at hcE);(try simp only[zcO,zcI,aY,zcz,zcL,Nat.reduceBEq, *]at hrH);(try simp only[zcB,zdg,bw,Nat.reduceAdd]at J);have hB0:(0 == Hi.next)=false:=zcD ac;have hC0:(Hi.next == 0)=false:=zcD ac;have hB1:(1 == Hi.next)=false:=zcD ac;have hC1:(Hi.next == 1)=false:=zcD ac;have ni:2<=Hi.next:=J
 by_cases hlt:i<g.nodes.length
 .have C:(i:Int)<g.nodes.length:=by omega
  have hsg:=xM hlt;by_cases hs0:zdq g.nodes i=0
  .have Z:=hF (fun h=>(J6 h.2 (aO hlt)).1 hs0);rw[hs0]at hsg;repeat' (first
    |(apply zcl ?_;clear hK K)|apply Ry.o ?_|(apply aB (fun z V=>?_) (fun z V=>?_)<;>try(cases z;done))|apply ak ?_|(apply zcm fun K hK=>?_)|apply ay ?_|apply zco ?_|apply am ?_|fail)
   all_goals (refine⟨eI,_,eR,?_⟩;try simp only[zcn])
   rw[Z]
  .repeat' (first
    |(apply zcl ?_;clear hK K)|apply Ry.o ?_|(apply aB (fun z V=>?_) (fun z V=>?_)<;>try(cases z;done))|apply ak ?_|(apply zcm fun K hK=>?_)|apply ay ?_|apply zco ?_|fail)
   refine⟨ac,zcy,zcy,zcT,m1,?_⟩;intro j hj;by_cases e:j=i
   .rw[e];exact hs0
   .exact hJ j ac
 have C:¬(i:Int)<g.nodes.length:=ac;have hsort:∀(j:Nat) (n:Nd),g.nodes[j]?=some n->zdq g.nodes j≠0:=fun j n h=>by
  have hj:j<g.nodes.length:=by
   by_cases c:j<g.nodes.length
   .exact c
   .rw[fG ac]at h;cases h
  exact hJ j ac
 obtain⟨hnok,hlok⟩:=zpW hsort;clear hJ;have hmk:∀H:Hp,zeb Tryz.prog H 121 (.int .i64 16) (.int .i64 16)=some (.sl H.next 0 16 1,H.alloc (.cells ((kP (List.replicate 16 0)).map .bool) 0 true)):=fun H=>by rw[<-zbJ,<-JQ];exact FH 16 ac
 have hks:∀(a b:Nd) (H:Hp),a.kids.length<2^60->zcx Tryz.prog (zcq pls pi) 39 [.agg a.cells,.agg b.cells] H fun v H'=>v=.bool (decide (a=b))/\H'=H:=fun a b H h=>zbz (fun _=>rfl) a b h H;have hlv:∀(m:Int) (H:Hp),zcx Tryz.prog (zcq pls pi) 61 [zdy g.nodes,.int .i64 m] H fun v H'=>v=.int .i64 (gm g.nodes m)/\H'=H:=fun m H=>zds (enc:=l9) (ok:=fun x=>jK x.1) (out:=fun x=>.int .i64 (gm x.1 x.2)) GH (x:=(g.nodes,m)) rfl F;have hro:∀(m:Int) (H:Hp),zcx Tryz.prog (zcq pls pi) 50 [zdy g.nodes,.int .i64 m] H fun v H'=>v=.int .i64 (zdq g.nodes m)/\H'=H:=fun m H=>zbC (fun _=>rfl) _ _ F H;have hlk:∀n∈g.nodes,n.op=31->LoopOk n:=fun n hn=>(hlok n hn).1;repeat' (first
  |(apply zcl ?_;clear hK K)|apply Ry.o ?_|(apply aB (fun z V=>?_) (fun z V=>?_)<;>try(cases z;done))|apply ak ?_|(apply zcm fun K hK=>?_)|apply ay ?_|apply zcA ?_)
 refine zdl [2,3,5,7] [0,1] 8 g.nodes.length (fun i E H=>∃t:List Int,t.length=16/\H.get Hi.next=some (.cells ((kP t).map .bool) 0 true)/\fL g.nodes (List.replicate 16 0)=fL (g.nodes.drop i) t/\∀(j:Nat) (n:Nd),j<i->g.nodes[j]?=some n->eF u g n=true/\kN g.nodes n=false/\∀(k:Nat) (m:Nd),k<j->g.nodes[k]?=some m->m≠n) eE ⟨List.replicate 16 0,aD,xc,rfl,fun j n h=>ac⟩ ?_;clear C hlt;rintro O E2 H2 hi2 hcE hrH J hsI ⟨t,ht,A,hJ1,hJ2⟩;(try simp only[zcO,zcI,aY,zcz,zcL,Nat.reduceBEq, *]at hcE);(try simp only[zcO,zcI,aY,zcz,zcL, *]at hrH);(try simp only[zcB,]at J);have hB0:(0 == H2.next)=false:=zcD ac;have hC0:(H2.next == 0)=false:=zcD ac;have hB1:(1 == H2.next)=false:=zcD ac;have hC1:(H2.next == 1)=false:=zcD ac;have n2:Hi.next+1<=H2.next:=J
 by_cases hlt:O<g.nodes.length
 .have C:(O:Int)<g.nodes.length:=by omega
  have hgx:g.nodes[O]?=some g.nodes[O]:=aO hlt;have hmem:=dj hlt;have hnk:=F.2 _ hmem;obtain⟨k31,zeP,k30⟩:=hlok _ hmem;have hdr:fL (g.nodes.drop O) t=if g.nodes[O].op=31 then (if 0<t.getD g.nodes[O].imm.toNat 0 then none else fL (g.nodes.drop (O+1)) (t.set g.nodes[O].imm.toNat (dM g.nodes[O].kids.length)))else fL (g.nodes.drop (O+1)) t:=by rw[d7 hlt,fL]
  generalize g.nodes[O]=n at *;repeat' (first
   |(apply zcl ?_;clear hK K)|apply Ry.o ?_|apply b7 ?_|(apply aB (fun z V=>?_) (fun z V=>?_)<;>try(cases z;done))|apply ak ?_|(apply zcm fun K hK=>?_)|apply ay ?_|apply zco ?_|fail)
  generalize hHb:Hp.set (Hp.alloc _ _) _ _=Hb;have nb:H2.next+1<=Hb.next:=Bf
  have gb:Hb.get Hi.next=some (.cells ((kP t).map .bool) 0 true):=by rw[<-hHb,aU,ah ac,zcu,ah ac];exact A
  have g5:Hb.get H2.next=some (.cells n.cells 0 true):=Bg
  have g0:Hb.get 0=H2.get 0:=Ch;have g1:Hb.get 1=H2.get 1:=Ch;clear hHb A;refine zdl [2,3,5,7,8,9] [0,1] 10 O (fun k E H=>H.get Hi.next=some (.cells ((kP t).map .bool) 0 true)/\H.get H2.next=some (.cells n.cells 0 true)/\∀(k':Nat) (m:Nd),k'<k->g.nodes[k']?=some m->m≠n) eE ⟨gb,g5,fun k' m h=>ac⟩ ?_;clear gb g5;rintro k E3 H3 hk hcE hrH J hsI ⟨gb,g5,hne⟩;(try simp only[zcO,zcI,aY,zcz,zcL,Nat.reduceBEq, *]at hcE);(try simp only[zcO,zcI,aY, *]at hrH);(try simp only[zcB,zcS,zdg,bw,Nat.reduceAdd]at J);have hB0:(0 == H3.next)=false:=zcD ac;have hC0:(H3.next == 0)=false:=zcD ac;have hB1:(1 == H3.next)=false:=zcD ac;have hC1:(H3.next == 1)=false:=zcD ac;have n3:H2.next+1<=H3.next:=ac
  by_cases hkt:k<O
  .have hkt':(k:Int)<O:=by omega
   have hgk:g.nodes[k]?=some g.nodes[k]:=aO ac;have hmk':=F.2 _ (dj (show k<g.nodes.length by omega));have hmn:=fun h:g.nodes[k]=n=>hF (fun hv=>ztI (ztw (fun x hx=>hndr x hx) (vd hv.2).1) hkt (by rw[hgk,h]) hgx rfl);generalize g.nodes[k]=m at *;by_cases he:m=n
   .have Z:=hmn he;have hd:decide (m=n)=true:=cB he;clear hmn he;repeat' (first
     |(apply zcl ?_;clear hK K)|apply Rx.o ?_|(apply iU ?_;first|refine Rx.k (hks _ _ _ ac) ?_)|(apply aS (fun z V=>?_) (fun z V=>?_)<;>try(cases z;done))|apply ak ?_|(apply zcm fun K hK=>?_)|(apply zc4 17 [(1,6),(4,6),(5,6)] fun K hK=>?_)|(apply zcV ?_;try intro _)|(apply zc5 ?_ ?_<;>clear hK K)|apply bD ?_|apply ay ?_|apply zco ?_|apply am ?_|fail)
    all_goals first|exact eK|skip
    all_goals (refine⟨eI,_,eR,?_⟩;try simp only[zcn])
    rw[Z]
   .have hd:decide (m=n)=false:=cX he;clear hmn;repeat' (first
     |(apply zcl ?_;clear hK K)|apply Rx.o ?_|(apply iU ?_;first|refine Rx.k (hks _ _ _ ac) ?_)|(apply aS (fun z V=>?_) (fun z V=>?_)<;>try(cases z;done))|apply ak ?_|(apply zcm fun K hK=>?_)|(apply zc4 17 [(1,6),(4,6),(5,6)] fun K hK=>?_)|(apply zcV ?_;try intro _)|(apply zc5 ?_ ?_<;>clear hK K)|apply bD ?_|apply ay ?_|apply zco ?_|fail)
    all_goals first|exact eK|skip
    refine⟨ac,zcy,zcy,zcT,(by simp only[zcz,Nat.reduceBEq, *];exact zeB (n:=O) ac ac),?_⟩;refine⟨gb,g5,fun k' m' h1 U=>?_⟩;by_cases e:k'=k
    .rw[e,hgk,az]at U;rw[<-U];exact he
    .exact hne k' m' ac U
  clear g0 g1;have hkt':¬(k:Int)<O:=ac;have hall:∀(k':Nat) (m:Nd),k'<O->g.nodes[k']?=some m->m≠n:=fun k' m h1 U=>hne k' m ac U;have W:eF u g n=true->kN g.nodes n=false->∀(j:Nat) (x:Nd),j<O+1->g.nodes[j]?=some x->eF u g x=true/\kN g.nodes x=false/\∀(k:Nat) (m:Nd),k<j->g.nodes[k]?=some m->m≠x:=fun h1 U j x hj hx=>by
   by_cases e:j=O
   .subst e;rw[hgx,az]at hx;subst hx;exact⟨h1,U,hall⟩
   .exact hJ2 j x ac hx
  have o:eF u g n=false->R=false:=fun h=>hF fun hv=>by have:=(J6 hv.2 hgx).2;rw[h]at this;cases this
  have hbad2:zeC g.nodes=false->R=false:=fun h=>hF fun hv=>by have:=(vd hv.2).2.1;rw[h]at this;cases this
  have L:n.op≠3->kN g.nodes n=false:=fun h=>by unfold kN;rw[cX h,dK,dK]
  have Y:n.op≠31->fL g.nodes (List.replicate 16 0)=fL (g.nodes.drop (O+1)) t:=fun h=>by rw[hJ1,hdr,ah h]
  clear hall hne hJ2 hF hT;by_cases U:n.op=2
  .have hr:eF u g n=decide (n.imm<g.params):=by rw[eF,ax U]
   by_cases hp:g.params<=n.imm
   .have Z:=o Ci;repeat' (first
     |(apply zcl ?_;clear hK K)|apply Ry.o ?_|(apply aB (fun z V=>?_) (fun z V=>?_)<;>try(cases z;done))|apply ak ?_|(apply zcm fun K hK=>?_)|apply ay ?_|apply am ?_|apply zcA ?_)
    all_goals (refine⟨eI,_,eR,?_⟩;try simp only[zcn])
    rw[Z]
   .repeat' (first
     |(apply zcl ?_;clear hK K)|apply Ry.o ?_|(apply aB (fun z V=>?_) (fun z V=>?_)<;>try(cases z;done))|apply ak ?_|(apply zcm fun K hK=>?_)|apply ay ?_|apply zco ?_|apply zcA ?_)
    refine⟨ac,zcy,zcy,zcT,m1,?_⟩;exact⟨t,ht,gb,Y ac,W Cj (L ac)⟩
  by_cases h23:n.op=23
  .have hr:eF u g n=decide (n.imm<u.arrays.length):=by rw[eF,ah U,ax (.inl h23)]
   by_cases hp:(u.arrays.length:Int)<=n.imm
   .have Z:=o Ci;clear U;repeat' (first
     |(apply zcl ?_;clear hK K)|apply Ry.o ?_|(apply aB (fun z V=>?_) (fun z V=>?_)<;>try(cases z;done))|apply ak ?_|(apply zcm fun K hK=>?_)|apply ay ?_|apply zco ?_|apply am ?_|apply zcA ?_)
    all_goals (refine⟨eI,_,eR,?_⟩;try simp only[zcn])
    rw[Z]
   .clear U;repeat' (first
     |(apply zcl ?_;clear hK K)|apply Ry.o ?_|(apply aB (fun z V=>?_) (fun z V=>?_)<;>try(cases z;done))|apply ak ?_|(apply zcm fun K hK=>?_)|apply ay ?_|apply zco ?_|apply zcA ?_)
    refine⟨ac,zcy,zcy,zcT,m1,?_⟩;exact⟨t,ht,gb,Y ac,W Cj (L ac)⟩
  by_cases h28:n.op=28
  .have hr:eF u g n=decide (n.imm<u.arrays.length):=by rw[eF,ah U,ax (.inr h28)]
   by_cases hp:(u.arrays.length:Int)<=n.imm
   .have Z:=o Ci;clear U h23;repeat' (first
     |(apply zcl ?_;clear hK K)|apply Ry.o ?_|(apply aB (fun z V=>?_) (fun z V=>?_)<;>try(cases z;done))|apply ak ?_|(apply zcm fun K hK=>?_)|apply ay ?_|apply am ?_|apply zcA ?_)
    all_goals (refine⟨eI,_,eR,?_⟩;try simp only[zcn])
    rw[Z]
   .clear U h23;repeat' (first
     |(apply zcl ?_;clear hK K)|apply Ry.o ?_|(apply aB (fun z V=>?_) (fun z V=>?_)<;>try(cases z;done))|apply ak ?_|(apply zcm fun K hK=>?_)|apply ay ?_|apply zco ?_|apply zcA ?_)
    refine⟨ac,zcy,zcy,zcT,m1,?_⟩;exact⟨t,ht,gb,Y ac,W Cj (L ac)⟩
  by_cases h30:n.op=30
  .obtain⟨m,hm⟩:=ez (k30 h30);have e1:IntKind.wrap .i64 ((n.kids.length:Int)-1)=(n.kids.length:Int)-1:=zej ac ac;have hr:eF u g n=(decide ((m:Int)<u.funcs.length)&&decide ((n.kids.length:Int)-1=(u.funcs.map Gr.params).getD m 0)):=by
    rw[eF,ah ac,ah ac,ax h30,hm,dL]
   clear U h23 h28;by_cases hp:(u.funcs.length:Int)<=m
   .have Z:=o (by rw[hr,cX ac];rfl);repeat' (first
     |(apply zcl ?_;clear hK K)|apply Ry.o ?_|(apply aB (fun z V=>?_) (fun z V=>?_)<;>try(cases z;done))|apply ak ?_|(apply zcm fun K hK=>?_)|(apply zc4 28 [(1,20),(3,20),(4,20),(8,20),(9,20),(12,20),(14,20),(17,20)] fun K hK=>?_)|(apply zcV ?_;try intro _)|(apply zc5 ?_ ?_<;>clear hK K)|apply bD ?_|(apply iC (fun A I=>?_) (fun A I=>?_)<;>try(cases A;done))|apply ay ?_|apply am ?_|apply zcA ?_)
    all_goals first|exact eK|skip
    all_goals (refine⟨eI,_,eR,?_⟩;try simp only[zcn])
    rw[Z]
   .have hgf:u.funcs[m]?=some u.funcs[m]:=aO ac;have hgp2:(u.funcs.map Gr.params).getD m 0=u.funcs[m].params:=by rw[cJ,dX,hgf];rfl
    rw[hgp2]at hr;clear hgp2;generalize u.funcs[m]=q at *;by_cases hq:q.params=(n.kids.length:Int)-1
    .repeat' (first
      |(apply zcl ?_;clear hK K)|apply Ry.o ?_|(apply aB (fun z V=>?_) (fun z V=>?_)<;>try(cases z;done))|apply ak ?_|(apply zcm fun K hK=>?_)|(apply zc4 28 [(1,20),(3,20),(4,20),(8,20),(9,20),(12,20),(14,20),(17,20)] fun K hK=>?_)|(apply zcV ?_;try intro _)|(apply zc5 ?_ ?_<;>clear hK K)|apply bD ?_|(apply iC (fun A I=>?_) (fun A I=>?_)<;>try(cases A;done))|apply ay ?_|apply zco ?_|apply zcA ?_)
     all_goals first|exact eK|skip
     refine⟨ac,zcy,zcy,zcT,m1,?_⟩;exact⟨t,ht,gb,Y ac,W (by rw[hr,cB ac,cB hq.symm];rfl) (L ac)⟩
    .have hq':¬(n.kids.length:Int)-1=q.params:=fun e=>hq e.symm;have Z:=o (by rw[hr,cX hq',oR]);clear hq;repeat' (first
      |(apply zcl ?_;clear hK K)|apply Ry.o ?_|(apply aB (fun z V=>?_) (fun z V=>?_)<;>try(cases z;done))|apply ak ?_|(apply zcm fun K hK=>?_)|(apply zc4 28 [(1,20),(3,20),(4,20),(8,20),(9,20),(12,20),(14,20),(17,20)] fun K hK=>?_)|(apply zcV ?_;try intro _)|(apply zc5 ?_ ?_<;>clear hK K)|apply bD ?_|(apply iC (fun A I=>?_) (fun A I=>?_)<;>try(cases A;done))|apply ay ?_|apply am ?_|apply zcA ?_)
     all_goals first|exact eK|skip
     all_goals (refine⟨eI,_,eR,?_⟩;try simp only[zcn])
     rw[Z]
  have hrt:eF u g n=true:=by rw[eF,ah U,ah ac,ah h30]
  by_cases h31:n.op=31
  .have ho:=k31 h31;obtain⟨m,hm⟩:=ez ho.i0;have hm16:m<16:=by have:=ho.i1;omega
   have hixq:=x9 (q:=Hi.next) hm16;have hld:=JI gb (m:=m) (by rw[kP,cR];omega);rw[zpT ht hm16]at hld;rw[ax h31,hm,dL]at hdr;have hst:=Ca gb (m:=m) (by rw[kP,cR];omega) true;clear U h23 h28 h30;by_cases hp:0<t.getD m 0
   .have Z:=hbad2 (zpP (by rw[hJ1,hdr,ax hp]));rw[cB hp]at hld;repeat' (first
     |(apply zcl ?_;clear hK K)|apply Ry.o ?_|(apply aB (fun z V=>?_) (fun z V=>?_)<;>try(cases z;done))|apply ak ?_|(apply zcm fun K hK=>?_)|apply ay ?_|apply am ?_|apply zcA ?_)
    all_goals (refine⟨eI,_,eR,?_⟩;try simp only[zcn])
    rw[Z]
   .rw[cX hp]at hld;rw[ah hp]at hdr;repeat' (first
     |(apply zcl ?_;clear hK K)|apply Ry.o ?_|apply b7 ?_|(apply aB (fun z V=>?_) (fun z V=>?_)<;>try(cases z;done))|apply ak ?_|(apply zcm fun K hK=>?_)|apply ay ?_|apply zco ?_|apply zcA ?_)
    refine⟨ac,zcy,zcy,zcT,m1,?_⟩;exact⟨t.set m (dM n.kids.length),by rw[lW];exact ht,by rw[aU,ax rfl,zpU ho.lv.2],by rw[hJ1,hdr],W hrt (L ac)⟩
  by_cases h3:n.op=3
  .obtain⟨m0,zdY⟩:=zeP h3;have hd1:IntKind.wrap .i64 (n.imm.tdiv 16)=n.imm.tdiv 16:=by rw[kG m0];exact zej ac ac
   have hd2:IntKind.wrap .i64 (n.imm.tmod 16)=n.imm.tmod 16:=by rw[Int.tmod_eq_emod_of_nonneg m0];exact zej ac ac
   have hlr:kN g.nodes n=(decide (0<gm g.nodes (n.imm.tdiv 16))&&decide (gm g.nodes (n.imm.tdiv 16)<=n.imm.tmod 16)):=by unfold kN;rw[cB h3,de]
   have hbl:kN g.nodes n=true->R=false:=fun h=>hbad2 (zpO hlk hmem (fun _=>⟨m0,zdY⟩) h);have hkl:=hlv (n.imm.tdiv 16);clear U h23 h28 h30 h31;generalize gm g.nodes (n.imm.tdiv 16)=v at *;by_cases hv0:0<v
   .by_cases hv1:v<=n.imm.tmod 16
    .have Z:=hbl (by rw[hlr,cB hv0,cB hv1];rfl);repeat' (first
      |(apply zcl ?_;clear hK K)|apply Ry.o ?_|(apply bK ?_;first|refine Rx.k (hkl _) ?_)|(apply a8 (fun A I=>?_) (fun A I=>?_)<;>try(cases A;done))|(apply aB (fun z V=>?_) (fun z V=>?_)<;>try(cases z;done))|apply ak ?_|(apply zcm fun K hK=>?_)|apply ay ?_|apply am ?_|apply zcA ?_)
     all_goals (refine⟨eI,_,eR,?_⟩;try simp only[zcn])
     rw[Z]
    .repeat' (first
      |(apply zcl ?_;clear hK K)|apply Ry.o ?_|(apply bK ?_;first|refine Rx.k (hkl _) ?_)|(apply a8 (fun A I=>?_) (fun A I=>?_)<;>try(cases A;done))|(apply aB (fun z V=>?_) (fun z V=>?_)<;>try(cases z;done))|apply ak ?_|(apply zcm fun K hK=>?_)|apply ay ?_|apply zco ?_|apply zcA ?_)
     refine⟨ac,zcy,zcy,zcT,m1,?_⟩;exact⟨t,ht,gb,Y ac,W hrt (by rw[hlr,cX hv1,oR])⟩
   .repeat' (first
     |(apply zcl ?_;clear hK K)|apply Ry.o ?_|(apply bK ?_;first|refine Rx.k (hkl _) ?_)|(apply a8 (fun A I=>?_) (fun A I=>?_)<;>try(cases A;done))|(apply aB (fun z V=>?_) (fun z V=>?_)<;>try(cases z;done))|apply ak ?_|(apply zcm fun K hK=>?_)|apply ay ?_|apply zco ?_|apply zcA ?_)
    refine⟨ac,zcy,zcy,zcT,m1,?_⟩;exact⟨t,ht,gb,Y ac,W hrt (by rw[hlr,cX hv0,dK])⟩
  .repeat' (first
    |(apply zcl ?_;clear hK K)|apply Ry.o ?_|(apply aB (fun z V=>?_) (fun z V=>?_)<;>try(cases z;done))|apply ak ?_|(apply zcm fun K hK=>?_)|apply ay ?_|apply zco ?_|apply zcA ?_)
   refine⟨ac,zcy,zcy,zcT,m1,?_⟩;exact⟨t,ht,gb,Y h31,W hrt (L h3)⟩
 have C:¬(O:Int)<g.nodes.length:=ac;have hie:O=g.nodes.length:=ac;have hdist:g.nodes.Nodup:=ztH fun j n hn k m h1 U=>(hJ2 j n (by
  by_cases c:j<g.nodes.length
  .omega
  .rw[fG ac]at hn;cases hn) hn).2.2 k m h1 U
 have hg1:∀(j:Nat) (n:Nd),g.nodes[j]?=some n->eF u g n=true/\kN g.nodes n=false:=fun j n hn=>by
  have hj:j<g.nodes.length:=by
   by_cases c:j<g.nodes.length
   .exact c
   .rw[fG ac]at hn;cases hn
  obtain⟨a,b,_⟩:=hJ2 j n ac hn;exact⟨a,b⟩
 have hdv:jm g.nodes=true:=zyj hdist hndr;have hvl:zeC g.nodes=true:=by
  rw[hie,oQ (aM _)]at hJ1;refine znw hlk hJ1 fun n hn=>?_;obtain⟨j,hj,e⟩:=oA hn;have hgj:g.nodes[j]?=some n:=xz;exact⟨(hlok n hn).2.1,(hg1 j n hgj).2⟩
 have hvg:zdq g.nodes g.value=1->zdq g.nodes g.state=2->zdW g.nodes g.value=0->zdW g.nodes g.state=0->ee u g=true:=fun h6 h7 h8 h9=>zbK ac ac ac (fun j n hn=>⟨hsort j n hn,(hg1 j n hn).1⟩) hdv hvl h6 h7 h8 h9;clear hg1 hdist hdv hvl hJ1 hJ2 hie A ht;by_cases v1:zdq g.nodes g.value=1
 .by_cases s2:zdq g.nodes g.state=2
  .obtain⟨v0,vl⟩:=yk (l:=g.nodes) (i:=g.value) (by rw[v1];decide);obtain⟨s0,sl⟩:=yk (l:=g.nodes) (i:=g.state) (by rw[s2];decide);obtain⟨a,ha⟩:=ez v0;obtain⟨b,hb0⟩:=ez s0;have hal:a<g.nodes.length:=ac;have hbl:b<g.nodes.length:=ac;have hld:qz g.nodes:=⟨F,hnok⟩;have khd:∀H,zcx Tryz.prog (zcq pls pi) 62 [zdy g.nodes] H fun v H'=>v=.lst ((zd5 g.nodes g.nodes.length).map fun b=>[AV.lst (b.map fun x=>[AV.bool x])])/\H'=H:=fun H=>zds (enc:=iX) (ok:=Cb) (out:=fun l=>yb (zd5 l l.length)) qu (x:=g.nodes) rfl ⟨hld,ac⟩;have q1:=J8 hal;have q2:=J8 hbl;have l1:=J9 hal;have l2:=J9 hbl;have z1:zdW g.nodes (a:Int)=0↔∀t,t<16->((zd5 g.nodes g.nodes.length).getD a []).getD t false=false:=mask_zero hnok (fun j hj=>BB hld (aM _) hj) hal;have z2:zdW g.nodes (b:Int)=0↔∀t,t<16->((zd5 g.nodes g.nodes.length).getD b []).getD t false=false:=mask_zero hnok (fun j hj=>BB hld (aM _) hj) hbl;rw[ha,hb0]at hvg;rw[ha]at v1;rw[hb0]at s2;have hFm:¬(zdW g.nodes a=0/\zdW g.nodes b=0)->R=false:=fun h=>hF fun hv=>by
    have:=vd hv.2;rw[ha,hb0]at this;exact h ⟨this.2.2.2.2.1,this.2.2.2.2.2⟩
   rw[z1,z2]at hFm;have hTm:zdW g.nodes a=0->zdW g.nodes b=0->R=true:=fun h1 U=>hT c0 (hvg v1 s2 h1 U);rw[z1,z2]at hTm;clear z1 z2 hF hT hvg hnok hlok hlk v0 vl s0 sl hld;generalize (zd5 g.nodes g.nodes.length).getD a []=ra at *;generalize (zd5 g.nodes g.nodes.length).getD b []=rb at *;have kv1:=hro (a:Int);have ks2:=hro (b:Int);rw[v1]at kv1;rw[s2]at ks2;repeat' (first
    |(apply zcl ?_;clear hK K)|apply Ry.o ?_|(apply bK ?_;first|refine Rx.k (kv1 _) ?_|refine Rx.k (ks2 _) ?_|refine Rx.k (khd _) ?_)|(apply a8 (fun A I=>?_) (fun A I=>?_)<;>try(cases A;done))|(apply aB (fun z V=>?_) (fun z V=>?_)<;>try(cases z;done))|apply ak ?_|(apply zcm fun K hK=>?_)|apply ay ?_|apply zco ?_|apply zcA ?_)
   all_goals first|exact eK|skip
   refine zdl [3,12] [1] 13 16 (fun j E H=>∀t,t<j->ra.getD t false=false/\rb.getD t false=false) eE (fun t h=>ac) ?_;clear C;rintro j E4 H4 hj hcE hrH J hsI hJ;(try simp only[zcO,zcI,aY,zcz,zcL,Nat.reduceBEq, *]at hcE);(try simp only[zcO,zcI,aY, *]at hrH);(try simp only[zcB,zcS,zdg,bw,Nat.reduceAdd]at J);have hB0:(1 == H4.next)=false:=zcD ac;have hC0:(H4.next == 1)=false:=zcD ac;by_cases hjt:j<16
   .have hjt':(j:Int)<16:=by omega
    have g1:=Ka (b:=ra) (j:=j) ac;have g2:=Ka (b:=rb) (j:=j) ac;by_cases x1:ra.getD j false=true
    .have Z:=hFm (fun h=>by have:=h.1 j hjt;rw[x1]at this;cases this);rw[x1]at g1;repeat' (first
      |(apply zcl ?_;clear hK K)|apply Ry.o ?_|(apply a8 (fun A I=>?_) (fun A I=>?_)<;>try(cases A;done))|(apply aB (fun z V=>?_) (fun z V=>?_)<;>try(cases z;done))|apply ak ?_|(apply zcm fun K hK=>?_)|apply ay ?_|apply zco ?_|apply am ?_|fail)
     all_goals (refine⟨eI,_,eR,?_⟩;try simp only[zcn])
     rw[Z]
    have x1':ra.getD j false=false:=by simpa using x1
    rw[x1']at g1;by_cases x2:rb.getD j false=true
    .have Z:=hFm (fun h=>by have:=h.2 j hjt;rw[x2]at this;cases this);rw[x2]at g2;repeat' (first
      |(apply zcl ?_;clear hK K)|apply Ry.o ?_|(apply a8 (fun A I=>?_) (fun A I=>?_)<;>try(cases A;done))|(apply aB (fun z V=>?_) (fun z V=>?_)<;>try(cases z;done))|apply ak ?_|(apply zcm fun K hK=>?_)|apply ay ?_|apply zco ?_|apply am ?_|fail)
     all_goals (refine⟨eI,_,eR,?_⟩;try simp only[zcn])
     rw[Z]
    have x2':rb.getD j false=false:=by simpa using x2
    rw[x2']at g2;clear x1 x2 hFm hTm;repeat' (first
     |(apply zcl ?_;clear hK K)|apply Ry.o ?_|(apply a8 (fun A I=>?_) (fun A I=>?_)<;>try(cases A;done))|(apply aB (fun z V=>?_) (fun z V=>?_)<;>try(cases z;done))|apply ak ?_|(apply zcm fun K hK=>?_)|apply ay ?_|apply zco ?_|fail)
    refine⟨ac,zcy,zcy,zcT,sQ,?_⟩;intro t ht;by_cases e:t=j
    .subst e;exact⟨x1',x2'⟩
    .exact hJ t ac
   .have hjt':¬(j:Int)<16:=by omega
    have Z:=hTm (fun t ht=>(hJ t ac).1) (fun t ht=>(hJ t ac).2);repeat' (first
     |(apply zcl ?_;clear hK K)|apply Ry.o ?_|(apply aB (fun z V=>?_) (fun z V=>?_)<;>try(cases z;done))|apply ak ?_|(apply zcm fun K hK=>?_)|apply am ?_|apply zcA ?_)
    all_goals (refine⟨eI,_,eR,?_⟩;try simp only[zcn])
    rw[Z]
  .have Z:=hF (fun h=>s2 (vd h.2).2.2.2.1);have kv1:=hro g.value;have ks2:=hro g.state;rw[v1]at kv1;repeat' (first
    |(apply zcl ?_;clear hK K)|apply Ry.o ?_|(apply bK ?_;first|refine Rx.k (kv1 _) ?_|refine Rx.k (ks2 _) ?_)|(apply a8 (fun A I=>?_) (fun A I=>?_)<;>try(cases A;done))|(apply aB (fun z V=>?_) (fun z V=>?_)<;>try(cases z;done))|apply ak ?_|(apply zcm fun K hK=>?_)|apply am ?_|apply zcA ?_)
   all_goals first|exact eK|skip
   all_goals (refine⟨eI,_,eR,?_⟩;try simp only[zcn])
   rw[Z]
 .have Z:=hF (fun h=>v1 (vd h.2).2.2.1);have kv1:=hro g.value;repeat' (first
   |(apply zcl ?_;clear hK K)|apply Ry.o ?_|(apply bK ?_;first|refine Rx.k (kv1 _) ?_)|(apply a8 (fun A I=>?_) (fun A I=>?_)<;>try(cases A;done))|(apply aB (fun z V=>?_) (fun z V=>?_)<;>try(cases z;done))|apply ak ?_|(apply zcm fun K hK=>?_)|apply am ?_|apply zcA ?_)
  all_goals first|exact eK|skip
  all_goals (refine⟨eI,_,eR,?_⟩;try simp only[zcn])
  rw[Z])
end
section
def tyVdE.tyF:=ad @bZ (ad @dl (ad @eL (ad @mK (ad @mL (ad @hM (ad @ju (@lm)))))))
open tyVdE
noncomputable def sW:{c:SC // aA 91 (Tryz.f12.body.getD .skip)=c}:=by
 refine⟨?_,?_⟩;rotate_left
 .simp only[Tryz.f12,a3,aA,zcG,zcE,zcJ,zcK,Nat.blt,Nat.ble];rfl
theorem Kb:∀(l seen:List zdb),zcQ seen l=false->l.Nodup/\∀x∈l,zcP seen x=false
 |[],seen,_=>⟨List.nodup_nil,fun x F=>by simp at F⟩
 |a::l,seen,h=>by
  rw[zcQ]at h;have V:zcP seen a=false/\zcQ (seen++[a]) l=false:=by
   cases Y:zcP seen a<;>simp_all
  obtain⟨i,g⟩:=Kb l _ V.2;refine⟨xZ.2 ⟨fun M=>?_,i⟩,fun x F=>?_⟩
  .have:=g a M;simp[zcP]at this
  .rcases fk.1 F with rfl|F
   .exact V.1
   .have:=g x F;simp only[zcP,uM,k3]at this⊢;exact this.1
theorem Kc:∀(l seen:List zdb),l.Nodup->(∀x∈l,zcP seen x=false)->zcQ seen l=false
 |[],_,_,_=>rfl
 |a::l,seen,h,hs=>by
  obtain⟨i,g⟩:=xZ.1 h;rw[zcQ,hs a eW];have:=Kc l (seen++[a]) g fun x F=>by
   have o:=hs x (e8 _ F);have U:x≠a:=fun e=>i (e▸F);simp only[zcP,uM,k3]at o⊢;refine⟨o,?_⟩;have j:¬a=x:=fun e=>U e.symm;simp[j]
  rw[this];rfl
theorem Kd(l:List zdb):zcQ [] l=false↔l.Nodup:=⟨fun h=>(Kb l [] h).1,fun h=>Kc l [] h fun x _=>by simp[zcP]⟩
theorem Ke{M:Type}(f:M->zdb){l:List M}(h:∀(j:Nat) (a:M),l[j]?=some a->∀(k:Nat) (b:M),k<j->l[k]?=some b->f b≠f a):zcQ [] (l.map f)=false:=by
 rw[Kd];refine yg.2 fun i j C O J e=>?_;simp only[cR]at C O;simp only[List.getElem_map]at e;exact h j _ (aO O) i _ J (aO C) e
theorem Kf{M:Type}(f:M->zdb){l:List M}(h:zcQ [] (l.map f)=false){i j:Nat}{a b:M}(J:i<j)(C:l[i]?=some a)(O:l[j]?=some b):f a≠f b:=by
 rw[Kd]at h;have I:j<l.length:=by
  by_cases c:j<l.length
  .exact c
  .rw[fG ac]at O;cases O
 have V:i<l.length:=ac;rw[aO V,az]at C;rw[aO I,az]at O;have:=yg.1 h i j (by rw[cR];exact V) z7 J;simp only[List.getElem_map]at this;rw[<-C,<-O];exact this
structure UnOkR (u:Un):Prop where
 ok:UnOk u
 r:∀g∈u.funcs,∀n∈g.nodes,NdR n
theorem sX{u:Un}(h:fV u=true):((u.arrays.length:Int)<=4/\(u.funcs.length:Int)<=8)/\(∀a∈u.arrays,kM a=true)/\zcQ [] (u.arrays.map Ar.name)=false/\zcQ [] (u.funcs.map Gr.name)=false/\∀g∈u.funcs,jE u g=true:=by
 rw[fV,JS]at h;unfold yc at h;simp only[kw,k9,f9]at h;obtain⟨⟨⟨i,Z,o⟩,U,j⟩,Y⟩:=h;exact⟨i,Z,o,j,fun g A=>by rw[jE,U g A,Y g A];rfl⟩
theorem zyl{u:Un}(h1:(u.arrays.length:Int)<=4)(h2:(u.funcs.length:Int)<=8)(o:∀a∈u.arrays,kM a=true)(U:zcQ [] (u.arrays.map Ar.name)=false)(j:zcQ [] (u.funcs.map Gr.name)=false)(Z:∀g∈u.funcs,jE u g=true):fV u=true:=by
 rw[fV,JS];unfold yc;have F:∀g∈u.funcs,zc9 g.name=true/\ee u g=true:=fun g A=>by
  have:=Z g A;rw[jE,dp]at this;exact this
 simp only[kw,k9,f9];exact⟨⟨⟨⟨h1,h2⟩,o,U⟩,fun g A=>(F g A).1,j⟩,fun g A=>(F g A).2⟩
noncomputable def Kg:En:=⟨30,false,bX Cn me fun x=>.bool (jE x.u x.g)⟩
theorem zym(ρ:Nat->Int):zdd Tryz.prog ρ Kg:=zdk fun x F=>zyk ρ x F
noncomputable def yl:List En:=[BF,Kg]
theorem ztJ(ρ:Nat->Int):eX Tryz.prog ρ yl:=⟨Hw ρ,zym ρ,trivial⟩
theorem Kh{M:Type}{l:List M}{j:Nat}{a:M}(h:l[j]?=some a):j<l.length:=by
 by_cases c:j<l.length
 .exact c
 .rw[fG ac]at h;cases h
set_option maxRecDepth 100000 in
theorem zlW(ρ:Nat->Int)(u:Un)(hu:UnOkR u):a9 Tryz.prog ρ 12 [.agg u.cells] (.bool (fV u)):=zdv fit (pls:=pls) (ztJ ρ) (.cons (.agg (rS _)) .nil) (.bool _) (by
 obtain⟨⟨ha,hf,A,hz⟩,hr⟩:=hu;have hw:Plain (zcq pls yl) 12:=zdm (fun _=>rfl) rfl;have hpz:(gl u).sz=1+kB u.arrays+kA (u.funcs.map fA):=rfl;have hna:∀a∈u.arrays,a.name.length<2^60:=fun a o=>by have:=BG o;omega
 have hnf:∀g∈u.funcs,g.name.length<2^60:=fun g o=>by
  have h1:=rN (List.mem_map_of_mem (f:=fA) o);have W:(fA g).sz=1+g.name.length+zen []+zen []+zes []+(fA g).value.sz:=rfl;omega
 have kv:∀s:zdb,s.length<2^60->∀H,zcx Tryz.prog (zcq pls yl) 29 [.str s] H fun v H'=>v=.bool (zc9 s)/\H'=H:=fun s hs H=>zds (enc:=kE) (out:=fun x=>.bool (zc9 x)) r4 (x:=s) rfl hs;have kg:∀g,g∈u.funcs->∀H,zcx Tryz.prog (zcq pls yl) 30 [.agg u.cells,.agg g.cells] H fun v H'=>v=.bool (jE u g)/\H'=H:=fun g o H=>zds (enc:=me) (ok:=Cn) (out:=fun x=>.bool (jE x.u x.g)) HW (x:=⟨u,g⟩) rfl ⟨⟨A g o,ha,hf⟩,hnf g o,hr g o⟩;obtain⟨R,Z⟩:∃R,fV u=R:=⟨_,rfl⟩;have hF:¬fV u=true->R=false:=fun h=>by rw[<-Z];simpa using h
 have hT:fV u=true->R=true:=fun h=>by rw[<-Z];exact h
 rw[Z];clear Z hpz hz;by_cases c1:(4:Int)<u.arrays.length
 .have Z:=hF (fun h=>by have:=(sX h).1.1;omega);refine zcv (M:=91) (rs:=[.tmp 2]) (hw.call _) hw.ice hw.froz Tryz.func12 rfl rfl sW.2 rfl ?_;dsimp only[sW,zcr,Nat.reduceAdd];repeat' (first
   |(apply zcl ?_;clear hK K)|apply Ry.o ?_|(apply a8 (fun A I=>?_) (fun A I=>?_)<;>try(cases A;done))|(apply aB (fun z V=>?_) (fun z V=>?_)<;>try(cases z;done))|apply ak ?_|(apply zcm fun K hK=>?_)|apply am ?_|fail)
  all_goals (refine⟨eI,_,eR,?_⟩;try simp only[zcn])
  rw[Z]
 by_cases c2:(8:Int)<u.funcs.length
 .have Z:=hF (fun h=>by have:=(sX h).1.2;omega);refine zcv (M:=91) (rs:=[.tmp 2]) (hw.call _) hw.ice hw.froz Tryz.func12 rfl rfl sW.2 rfl ?_;dsimp only[sW,zcr,Nat.reduceAdd];repeat' (first
   |(apply zcl ?_;clear hK K)|apply Ry.o ?_|(apply a8 (fun A I=>?_) (fun A I=>?_)<;>try(cases A;done))|(apply aB (fun z V=>?_) (fun z V=>?_)<;>try(cases z;done))|apply ak ?_|(apply zcm fun K hK=>?_)|apply am ?_|fail)
  all_goals (refine⟨eI,_,eR,?_⟩;try simp only[zcn])
  rw[Z]
 refine zcv (M:=91) (rs:=[.tmp 2]) (hw.call _) hw.ice hw.froz Tryz.func12 rfl rfl sW.2 rfl ?_;dsimp only[sW,zcr,Nat.reduceAdd];repeat' (first
  |(apply zcl ?_;clear hK K)|apply Ry.o ?_|(apply a8 (fun A I=>?_) (fun A I=>?_)<;>try(cases A;done))|(apply aB (fun z V=>?_) (fun z V=>?_)<;>try(cases z;done))|apply ak ?_|(apply zcm fun K hK=>?_)|apply ay ?_|apply zco ?_|fail)
 refine zdl [1] [0] 3 u.arrays.length (fun i E H=>∀(j:Nat) (a:Ar),j<i->u.arrays[j]?=some a->kM a=true/\∀(k:Nat) (b:Ar),k<j->u.arrays[k]?=some b->b.name≠a.name) eE (fun j a h=>ac) ?_;rintro i E Hi hi U O m hsI hJ;(try simp only[zcO,zcI,aY,zcz,zcL,Nat.reduceBEq, *]at U);(try simp only[zcO,zcI,aY,zcz,zcL, *]at O);(try simp only[zcB,zdg,bw]at m);have hB0:(0 == Hi.next)=false:=zcD ac;have hC0:(Hi.next == 0)=false:=zcD ac;have ni:1<=Hi.next:=m
 by_cases J:i<u.arrays.length
 .have L:(i:Int)<u.arrays.length:=by omega
  have hgx:u.arrays[i]?=some u.arrays[i]:=aO J;have Y:=dj J;have hnm:=hna _ Y;generalize u.arrays[i]=a at *;have hbad:kM a=false->R=false:=fun h=>hF fun hv=>by have:=(sX hv).2.1 a Y;rw[h]at this;cases this
  by_cases d0':zc9 a.name=false
  .have Z:=hbad (by rw[kM,d0'];rfl);repeat' (first
    |(apply zcl ?_;clear hK K)|apply Ry.o ?_|apply b7 ?_|(apply bK ?_;first|refine Rx.k (kv _ hnm _) ?_)|(apply a8 (fun A I=>?_) (fun A I=>?_)<;>try(cases A;done))|(apply aB (fun z V=>?_) (fun z V=>?_)<;>try(cases z;done))|apply ak ?_|(apply zcm fun K hK=>?_)|apply ay ?_|apply zco ?_|apply am ?_|fail)
   all_goals first|exact eK|skip
   all_goals (refine⟨eI,_,eR,?_⟩;try simp only[zcn])
   rw[Z]
  have d0:zc9 a.name=true:=by simpa using d0'
  clear d0';by_cases d1:a.len<1
  .have Z:=hbad (by rw[kM,cX (show ¬1<=a.len by omega)];simp);repeat' (first
    |(apply zcl ?_;clear hK K)|apply Ry.o ?_|apply b7 ?_|(apply bK ?_;first|refine Rx.k (kv _ hnm _) ?_)|(apply a8 (fun A I=>?_) (fun A I=>?_)<;>try(cases A;done))|(apply aB (fun z V=>?_) (fun z V=>?_)<;>try(cases z;done))|apply ak ?_|(apply zcm fun K hK=>?_)|apply ay ?_|apply zco ?_|apply am ?_|fail)
   all_goals first|exact eK|skip
   all_goals (refine⟨eI,_,eR,?_⟩;try simp only[zcn])
   rw[Z]
  by_cases d2:16<a.len
  .have Z:=hbad (by rw[kM,cX (show ¬a.len<=16 by omega)];simp);repeat' (first
    |(apply zcl ?_;clear hK K)|apply Ry.o ?_|apply b7 ?_|(apply bK ?_;first|refine Rx.k (kv _ hnm _) ?_)|(apply a8 (fun A I=>?_) (fun A I=>?_)<;>try(cases A;done))|(apply aB (fun z V=>?_) (fun z V=>?_)<;>try(cases z;done))|apply ak ?_|(apply zcm fun K hK=>?_)|apply ay ?_|apply zco ?_|apply am ?_|fail)
   all_goals first|exact eK|skip
   all_goals (refine⟨eI,_,eR,?_⟩;try simp only[zcn])
   rw[Z]
  have hda:kM a=true:=by rw[kM,d0,cB (show 1<=a.len by omega),cB (show a.len<=16 by omega)];rfl
  repeat' (first
   |(apply zcl ?_;clear hK K)|apply Ry.o ?_|apply b7 ?_|(apply bK ?_;first|refine Rx.k (kv _ hnm _) ?_)|(apply a8 (fun A I=>?_) (fun A I=>?_)<;>try(cases A;done))|(apply aB (fun z V=>?_) (fun z V=>?_)<;>try(cases z;done))|apply ak ?_|(apply zcm fun K hK=>?_)|apply ay ?_|apply zco ?_|fail)
  all_goals first|exact eK|skip
  generalize hHb:Hp.set (Hp.alloc _ _) _ _=Hb;have nb:Hi.next+1<=Hb.next:=Bf
  have g5:Hb.get Hi.next=some (.cells a.cells 0 true):=Bg
  have g0:Hb.get 0=Hi.get 0:=Ch;clear hHb;refine zdl [1,3,4] [0] 5 i (fun k E H=>H.get Hi.next=some (.cells a.cells 0 true)/\∀(k':Nat) (b:Ar),k'<k->u.arrays[k']?=some b->b.name≠a.name) eE ⟨g5,fun k' b h=>ac⟩ ?_;clear g5;rintro k E3 H3 hk U O m hsI ⟨g5,hne⟩;(try simp only[zcO,zcI,aY,zcz,zcL,Nat.reduceBEq, *]at U);(try simp only[zcO,zcI,aY, *]at O);(try simp only[zcB,zcS,zdg,bw,Nat.reduceAdd]at m);have hB0:(0 == H3.next)=false:=zcD ac;have hC0:(H3.next == 0)=false:=zcD ac;have n3:Hi.next+1<=H3.next:=ac
  by_cases hkt:k<i
  .have hkt':(k:Int)<i:=by omega
   have hgk:u.arrays[k]?=some u.arrays[k]:=aO ac;have C:=fun h:u.arrays[k].name=a.name=>hF (fun hv=>Kf Ar.name (sX hv).2.2.1 hkt hgk hgx h);generalize u.arrays[k]=b at *;by_cases he:b.name=a.name
   .have Z:=C he;clear C;repeat' (first
     |(apply zcl ?_;clear hK K)|apply Ry.o ?_|(apply aB (fun z V=>?_) (fun z V=>?_)<;>try(cases z;done))|apply ak ?_|(apply zcm fun K hK=>?_)|(apply zc4 12 [(1,9),(5,9),(7,9)] fun K hK=>?_)|(apply zcV ?_;try intro _)|(apply zc5 ?_ ?_<;>clear hK K)|apply bD ?_|apply ay ?_|apply zco ?_|apply am ?_|fail)
    all_goals first|exact eK|skip
    all_goals (refine⟨eI,_,eR,?_⟩;try simp only[zcn])
    rw[Z]
   .clear C;repeat' (first
     |(apply zcl ?_;clear hK K)|apply Ry.o ?_|(apply aB (fun z V=>?_) (fun z V=>?_)<;>try(cases z;done))|apply ak ?_|(apply zcm fun K hK=>?_)|(apply zc4 12 [(1,9),(5,9),(7,9)] fun K hK=>?_)|(apply zcV ?_;try intro _)|(apply zc5 ?_ ?_<;>clear hK K)|apply bD ?_|apply ay ?_|apply zco ?_|fail)
    all_goals first|exact eK|skip
    refine⟨ac,zcy,zcy,zcT,(by simp only[zcz,Nat.reduceBEq, *];exact zeB (n:=i) ac ac),?_⟩;refine⟨g5,fun k' b' h1 W=>?_⟩;by_cases e:k'=k
    .rw[e,hgk,az]at W;rw[<-W];exact he
    .exact hne k' b' ac W
  clear g0;have hkt':¬(k:Int)<i:=ac;repeat' (first
   |(apply zcl ?_;clear hK K)|apply Ry.o ?_|(apply aB (fun z V=>?_) (fun z V=>?_)<;>try(cases z;done))|apply ak ?_|(apply zcm fun K hK=>?_)|apply zcA ?_)
  refine⟨ac,zcy,zcy,zcT,IL,?_⟩;intro j x hj hx;by_cases e:j=i
  .subst e;rw[hgx,az]at hx;subst hx;exact⟨hda,fun k' b h1 W=>hne k' b ac W⟩
  .exact hJ j x ac hx
 have L:¬(i:Int)<u.arrays.length:=ac;have ha1:∀a∈u.arrays,kM a=true:=fun a o=>by
  obtain⟨j,hj,e⟩:=oA o;exact(hJ j a ac xz).1
 have ha2:zcQ [] (u.arrays.map Ar.name)=false:=Ke Ar.name fun j a h k b h1 W=>(hJ j a (by have:=Kh h;omega) h).2 k b h1 W;clear hJ;repeat' (first
  |(apply zcl ?_;clear hK K)|apply Ry.o ?_|(apply aB (fun z V=>?_) (fun z V=>?_)<;>try(cases z;done))|apply ak ?_|(apply zcm fun K hK=>?_)|apply ay ?_|apply zcA ?_)
 refine zdl [1] [0] 6 u.funcs.length (fun i E H=>∀(j:Nat) (a:Gr),j<i->u.funcs[j]?=some a->jE u a=true/\∀(k:Nat) (b:Gr),k<j->u.funcs[k]?=some b->b.name≠a.name) eE (fun j a h=>ac) ?_;clear J L;rintro F E2 H2 hi2 U O m hsI hJ;(try simp only[zcO,zcI,aY,zcz,Nat.reduceBEq, *]at U);(try simp only[zcO,zcI,aY, *]at O);(try simp only[zcB,zcS,zdg,bw,Nat.reduceAdd]at m);have hB0:(0 == H2.next)=false:=zcD ac;have hC0:(H2.next == 0)=false:=zcD ac;have n2:1<=H2.next:=ac
 by_cases J:F<u.funcs.length
 .have L:(F:Int)<u.funcs.length:=by omega
  have hgx:u.funcs[F]?=some u.funcs[F]:=aO J;have Y:=dj J;have kga:=kg _ Y;generalize u.funcs[F]=a at *;repeat' (first
   |(apply zcl ?_;clear hK K)|apply Ry.o ?_|(apply aB (fun z V=>?_) (fun z V=>?_)<;>try(cases z;done))|apply ak ?_|(apply zcm fun K hK=>?_)|apply ay ?_|apply zco ?_|fail)
  refine zdl [1,6] [0] 7 F (fun k E H=>∀(k':Nat) (b:Gr),k'<k->u.funcs[k']?=some b->b.name≠a.name) eE (fun k' b h=>ac) ?_;rintro k E3 H3 hk U O m hsI hne;(try simp only[zcO,zcI,aY,zcz,Nat.reduceBEq, *]at U);(try simp only[zcO,zcI,aY, *]at O);(try simp only[zcB,zcS,zdg,bw,Nat.reduceAdd]at m);have hB0:(0 == H3.next)=false:=zcD ac;have hC0:(H3.next == 0)=false:=zcD ac;have n3:1<=H3.next:=ac
  by_cases hkt:k<F
  .have hkt':(k:Int)<F:=by omega
   have hgk:u.funcs[k]?=some u.funcs[k]:=aO ac;have C:=fun h:u.funcs[k].name=a.name=>hF (fun hv=>Kf Gr.name (sX hv).2.2.2.1 hkt hgk hgx h);generalize u.funcs[k]=b at *;by_cases he:b.name=a.name
   .have Z:=C he;clear C;repeat' (first
     |(apply zcl ?_;clear hK K)|apply Ry.o ?_|(apply aB (fun z V=>?_) (fun z V=>?_)<;>try(cases z;done))|apply ak ?_|(apply zcm fun K hK=>?_)|(apply zc4 20 [(1,13),(5,13),(7,13),(11,13)] fun K hK=>?_)|(apply zcV ?_;try intro _)|(apply zc5 ?_ ?_<;>clear hK K)|apply bD ?_|apply ay ?_|apply zco ?_|apply am ?_|fail)
    all_goals first|exact eK|skip
    all_goals (refine⟨eI,_,eR,?_⟩;try simp only[zcn])
    rw[Z]
   .clear C;repeat' (first
     |(apply zcl ?_;clear hK K)|apply Ry.o ?_|(apply aB (fun z V=>?_) (fun z V=>?_)<;>try(cases z;done))|apply ak ?_|(apply zcm fun K hK=>?_)|(apply zc4 20 [(1,13),(5,13),(7,13),(11,13)] fun K hK=>?_)|(apply zcV ?_;try intro _)|(apply zc5 ?_ ?_<;>clear hK K)|apply bD ?_|apply ay ?_|apply zco ?_|fail)
    all_goals first|exact eK|skip
    refine⟨ac,zcy,zcy,zcT,(by simp only[zcz,Nat.reduceBEq, *];exact zeB (n:=F) ac ac),?_⟩;intro k' b' h1 W;by_cases e:k'=k
    .rw[e,hgk,az]at W;rw[<-W];exact he
    .exact hne k' b' ac W
  have hkt':¬(k:Int)<F:=ac;by_cases hv:jE u a=true
  .repeat' (first
    |(apply zcl ?_;clear hK K)|apply Ry.o ?_|(apply bK ?_;first|refine Rx.k (kga _) ?_)|(apply aB (fun z V=>?_) (fun z V=>?_)<;>try(cases z;done))|apply ak ?_|(apply zcm fun K hK=>?_)|(apply zc4 22 [(0,6),(2,6),(5,6)] fun K hK=>?_)|(apply zcV ?_;try intro _)|(apply zc5 ?_ ?_<;>clear hK K)|apply bD ?_|apply zco ?_|apply zcA ?_)
   all_goals first|exact eK|skip
   refine⟨ac,zcy,zcy,zcT,sK,?_⟩;intro j x hj hx;by_cases e:j=F
   .subst e;rw[hgx,az]at hx;subst hx;exact⟨hv,fun k' b h1 W=>hne k' b ac W⟩
   .exact hJ j x ac hx
  .have hv':jE u a=false:=by simpa using hv
   have Z:=hF (fun h=>hv ((sX h).2.2.2.2 a Y));clear hv;repeat' (first
    |(apply zcl ?_;clear hK K)|apply Ry.o ?_|(apply bK ?_;first|refine Rx.k (kga _) ?_)|(apply aB (fun z V=>?_) (fun z V=>?_)<;>try(cases z;done))|apply ak ?_|(apply zcm fun K hK=>?_)|(apply zc4 22 [(0,6),(2,6),(5,6)] fun K hK=>?_)|(apply zcV ?_;try intro _)|(apply zc5 ?_ ?_<;>clear hK K)|apply bD ?_|apply am ?_|apply zcA ?_)
   all_goals first|exact eK|skip
   all_goals (refine⟨eI,_,eR,?_⟩;try simp only[zcn])
   rw[Z]
 have L:¬(F:Int)<u.funcs.length:=ac;have Z:=hT (zyl ac ac ha1 ha2 (Ke Gr.name fun j a h k b h1 W=>(hJ j a (by have:=Kh h;omega) h).2 k b h1 W) fun g o=>by
  obtain⟨j,hj,e⟩:=oA o;exact(hJ j g ac xz).1)
 repeat' (first
  |(apply zcl ?_;clear hK K)|apply Ry.o ?_|(apply aB (fun z V=>?_) (fun z V=>?_)<;>try(cases z;done))|apply ak ?_|(apply zcm fun K hK=>?_)|apply am ?_|apply zcA ?_)
 all_goals (refine⟨eI,_,eR,?_⟩;try simp only[zcn])
 rw[Z])
noncomputable def Cp:En:=⟨12,true,bX UnOkR (fun u=>[.agg u.cells]) fun u=>.bool (fV u)⟩
theorem zyn(ρ:Nat->Int):zdd Tryz.prog ρ Cp:=zdk fun u I=>zlW ρ u I
end
section
def tySameO.tyF:=ad @cI (ad @bZ (ad @ll (@An)))
open tySameO
noncomputable def Ki:{c:SC // aA 52 (Tryz.f13.body.getD .skip)=c}:=by
 refine⟨?_,?_⟩;rotate_left
 .simp only[Tryz.f13,a3,aA,zcG,zcE,zcJ,zcK,Nat.blt,Nat.ble];rfl
theorem Kj(o:Oc):zdU (er o):=.agg (.cons (.int _ _) (.cons (.int _ _) (.cons (Ac _) (.cons (.int _ _) .nil))))
set_option maxRecDepth 100000 in
theorem ztL(ρ:Nat->Int)(o:Oc)(O:o.out.length<2^60):a9 Tryz.prog ρ 13 [er o,er o] (.bool true):=zdv fit (pls:=pls) (l:=[]) trivial (.cons (Kj o) (.cons (Kj o) .nil)) (.bool _) (by
 have J:=zdM 13;obtain⟨k,c,W,val⟩:=o;rw[er,jO];simp only at O⊢;have U:(W.map fun n=>[AV.int .i64 n]).length=W.length:=aD;refine zcv (M:=52) (rs:=[.tmp 4]) (J.call _) J.ice J.froz Tryz.func13 rfl rfl Ki.2 rfl ?_;dsimp only[Ki,zcr,Nat.reduceAdd];repeat' (first
  |(apply zcl ?_;clear hK K)|apply Rx.o ?_|(apply b0 (fun A I=>?_) (fun A I=>?_)<;>try(cases A;done))|(apply aS (fun z V=>?_) (fun z V=>?_)<;>try(cases z;done))|apply ak ?_|(apply zcm fun K hK=>?_)|(apply zc4 6 [(1,11),(4,11),(6,11),(9,11)] fun K hK=>?_)|(apply zcV ?_;try intro _)|(apply zc5 ?_ ?_<;>clear hK K)|apply bD ?_|apply ay ?_|apply zco ?_|apply am ?_|apply zcA ?_)
 refine zdl [2,3] [0,1] 5 W.length (fun i E H=>True) eE trivial ?_;rintro i E C g Z j m L hJ;(try simp only[zcO,zcI,aY,zcz,zcL,Nat.reduceBEq,Nat.reduceAdd,Nat.reduceLeDiff,tyF, *]at Z);(try simp only[zcO,zcI,aY,zcz,zcL,Nat.reduceBEq,Nat.reduceAdd,Nat.reduceLeDiff,tyF, *]at j);(try simp only[zcB,zcS,zdg,bw,Nat.reduceAdd]at m);repeat' (first
  |(apply zcl ?_;clear hK K)|apply Rx.o ?_|(apply b0 (fun A I=>?_) (fun A I=>?_)<;>try(cases A;done))|(apply aS (fun z V=>?_) (fun z V=>?_)<;>try(cases z;done))|apply ak ?_|(apply zcm fun K hK=>?_)|(apply zc4 6 [(1,11),(4,11),(6,11),(9,11)] fun K hK=>?_)|(apply zcV ?_;try intro _)|(apply zc5 ?_ ?_<;>clear hK K)|apply bD ?_|apply ay ?_|apply zco ?_|apply am ?_|apply zcA ?_)
 .have Y:i<W.length:=by simpa using z
  have F:(W.map fun n=>[AV.int .i64 n])[i]?=some [.int .i64 W[i]]:=by rw[dX,aO Y];rfl
  obtain⟨g0,g1⟩:=j;repeat' (first
   |(apply zcl ?_;clear hK K)|apply Rx.o ?_|(apply b0 (fun A I=>?_) (fun A I=>?_)<;>try(cases A;done))|(apply aS (fun z V=>?_) (fun z V=>?_)<;>try(cases z;done))|apply ak ?_|(apply zcm fun K hK=>?_)|(apply zc4 6 [(1,11),(4,11),(6,11),(9,11)] fun K hK=>?_)|(apply zcV ?_;try intro _)|(apply zc5 ?_ ?_<;>clear hK K)|apply bD ?_|apply ay ?_|apply zco ?_|apply am ?_|apply zcA ?_)
  .exact eK
  .refine⟨ac,zcy,zcy,zcT,(by simp only[zcz,Nat.reduceBEq, *];exact zeB (n:=W.length) ac ac),?_⟩;trivial
 .all_goals (refine⟨eI,_,eR,?_⟩;try simp only[zcn]))
end
end Go.Proofs.YtljebeflbbgibaaGreat
