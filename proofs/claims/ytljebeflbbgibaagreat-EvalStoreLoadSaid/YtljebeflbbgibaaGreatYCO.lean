/- Parts: K2b, K2, K3, SnC, K5, K9, VdC, VlB, VdD, VdE, SameO. -/
import Derived.Test.YtljebeflbbgibaaGreatYCN
set_option linter.unusedSimpArgs false
set_option linter.unusedVariables false
set_option linter.unusedSectionVars false
set_option linter.defProp false
set_option maxHeartbeats 32000000
namespace Go.Ab
set_option maxRecDepth 20000
open Go
theorem yX{P:Prop}(h:P:=by rw[g];exact s5):P:=h
theorem CW{P:Prop}(h:P:=by rw[<- hHb,Hp.get_set,if_neg ac,zcY,if_neg ac]):P:=h
theorem CX{P:Prop}(h:P:=by rw[hr,decide_eq_false ac]):P:=h
theorem CY{P:Prop}(h:P:=by rw[hr,decide_eq_true ac]):P:=h
def yY:=@List.pairwise_iff_getElem
end Go.Ab
namespace Go.Proofs.YtljebeflbbgibaaGreat
set_option maxRecDepth 20000
open Go Go.Ab
section
def tyK2b.tyF:=ad @cP (ad @b7 (ad @ei (ad @fd (ad @eT (ad @l9 (ad @mc (ad @oN (@mJ))))))))
open tyK2b
theorem ztH(s:List Int){a b:Nat}(h1:a<=b)(h2:b<=s.length):zeF Tryz.prog 23 (.lst (s.map fun n=>[AV.int .i64 n])) (some (.int .i64 (a:Int))) (some (.int .i64 (b:Int)))=some (.lst (((s.drop a).take (b-a)).map fun n=>[AV.int .i64 n])):=by
 have Y:(a:Int)=Int.ofNat a:=rfl;have A:(b:Int)=Int.ofNat b:=rfl;simp only[zeF,Tryz.underlying23,jl,Y,A,yL];rw[ay ⟨h1,by rw[cX];exact h2⟩,<-List.map_drop,<-zI];cases (s.drop a).take (b-a)with
 |nil=>rfl
 |cons x l=>rfl
theorem zye(s:List Int){a:Nat}(h1:a<=s.length):zeF Tryz.prog 23 (.lst (s.map fun n=>[AV.int .i64 n])) (some (.int .i64 (a:Int))) none=some (.lst ((s.drop a).map fun n=>[AV.int .i64 n])):=by
 have Y:(a:Int)=Int.ofNat a:=rfl;simp only[zeF,Tryz.underlying23,jl,Y,yL];rw[ay ⟨by rw[cX];exact h1,aM _⟩,eF aE,<-List.map_drop];cases s.drop a with
 |nil=>rfl
 |cons x l=>rfl
theorem zbL{l:List Nd}{imm:Int}{L k:List Int}(hkb:k.length<2^30)(him:zdT 31 imm=true)(U:zdl l ⟨31,imm,L⟩ k=zdt (decide (k.length%2=1)&&decide (1<=k.length/2)&&decide (k.length/2<=16)&&decide (k.headD 0=2)&&zdx ((k.drop 1).take (k.length/2))&&decide (k.getD (k.length/2+1) 0=2)&&zdx (k.drop (k.length/2+2))) 3):
 zc2 Tryz.prog (zcW pls pu) 97 [zd2 l,.agg [.int .i64 31,.int .i64 imm,zdR L],zdR k] zdw fun v _=>v=.int .i64 (zdl l ⟨31,imm,L⟩ k):=by
 have J:Plain (zcW pls pu) 97:=zdO (fun _=>rfl) rfl;have hq2:(2:Int)≠0:=dD;have hv:et 31=.tup [.int .i64 (-1),.bool true]:=rfl;have e1:IntKind.wrap .i64 ((k.length:Int).tdiv 2)=((k.length/2:Nat):Int):=by
  rw[kN ac,zey ac ac];omega
 have C:(k.length:Int).tmod 2=((k.length%2:Nat):Int):=GF;by_cases hc:k.length%2=1/\1<=k.length/2/\k.length/2<=16
 .obtain⟨h1,g,W⟩:=hc;have e3:IntKind.wrap .i64 (((k.length/2:Nat):Int)+1)=((k.length/2+1:Nat):Int):=zey ac ac;have e4:IntKind.wrap .i64 (((k.length/2:Nat):Int)+2)=((k.length/2+2:Nat):Int):=zey ac ac;obtain⟨x,hx⟩:∃x,k[0]?=some x:=⟨_,aO ac⟩;obtain⟨y,hy⟩:∃y,k[k.length/2+1]?=some y:=⟨_,aO ac⟩;have o:k.headD 0=x:=by rw[List.headD_eq_head?_getD,List.head?_eq_getElem?,hx];rfl
  have j:k.getD (k.length/2+1) 0=y:=by rw[cH,hy];rfl
  have Z:=ztH k (a:=1) (b:=k.length/2+1) ac ac;have hs2:=zye k (a:=k.length/2+2) ac;have Y:((k.drop 1).take (k.length/2+1-1)).length<2^60:=rZ;have O:(k.drop (k.length/2+2)).length<2^60:=wF;have F:zdl l ⟨31,imm,L⟩ k=zdt (decide (x=2)&&zdx ((k.drop 1).take (k.length/2+1-1))&&decide (y=2)&&zdx (k.drop (k.length/2+2))) 3:=by
   rw[U,o,j,cI h1,cI g,cI W,Nat.add_sub_cancel];rfl
  clear U o j;have e5:(k.length:Int).tmod 2=1:=by rw[C];omega
  have h2':(1:Int)<=((k.length/2:Nat):Int):=ac;have h3':((k.length/2:Nat):Int)<=16:=ac;have i:zeF Tryz.prog 23 (.lst (k.map fun n=>[AV.int .i64 n])) (some (.int .i64 1)) (some (.int .i64 ((k.length/2+1:Nat):Int)))=some (.lst (((k.drop 1).take (k.length/2+1-1)).map fun n=>[AV.int .i64 n])):=Z;clear Z C g W;generalize (k.drop 1).take (k.length/2+1-1)=p at *;generalize k.drop (k.length/2+2)=q at *;generalize k.length/2+1=u at *;generalize k.length/2+2=w at *;generalize k.length/2=m at *;refine zf (M:=221) (rs:=[.tmp 6]) (J.call _) J.ice J.froz Tryz.func97 rfl rfl d6.2 rfl ?_;dsimp only[d6,zcX,Nat.reduceAdd];repeat' (first
   |(apply zcP ?_;clear hK K)|apply Ry.o ?_|(apply bq ?_;first|refine Rx.k (jb (fun _=>rfl) _ _) ?_|refine Rx.k (jN (fun _=>rfl) _ _ _) ?_|refine Rx.k (yW (fun _=>rfl) _ Y _) ?_|refine Rx.k (yW (fun _=>rfl) _ O _) ?_|refine Rx.k (kV (fun _=>rfl) _ _ _) ?_)|(apply aT (fun A I=>?_) (fun A I=>?_)<;>try(cases A;done))|(apply az (fun z V=>?_) (fun z V=>?_)<;>try(cases z;done))|apply ak ?_|(apply zcQ fun K hK=>?_)|apply ax ?_|apply zcR ?_|apply am ?_)
  all_goals first
   |exact zdj
   |((refine⟨zcT,_,dG,?_⟩;try simp only[zcS]);rw[F];(try simp only[ff]at *);simp only[ *,j9,bS,cb,Int.reduceEq];done)
 .have F:zdl l ⟨31,imm,L⟩ k=zdt false 3:=by
   have hf:(decide (k.length%2=1)&&decide (1<=k.length/2)&&decide (k.length/2<=16))=false:=by
    rw[oW,oW,jG,jG,jG];omega
   rw[U,hf];rfl
  clear U;generalize k.length/2=m at *;generalize k.length%2=r at *;refine zf (M:=221) (rs:=[.tmp 6]) (J.call _) J.ice J.froz Tryz.func97 rfl rfl d6.2 rfl ?_;dsimp only[d6,zcX,Nat.reduceAdd];repeat' (first
   |(apply zcP ?_;clear hK K)|apply Ry.o ?_|(apply bq ?_;first|refine Rx.k (jb (fun _=>rfl) _ _) ?_|refine Rx.k (jN (fun _=>rfl) _ _ _) ?_|refine Rx.k (kV (fun _=>rfl) _ _ _) ?_)|(apply aT (fun A I=>?_) (fun A I=>?_)<;>try(cases A;done))|(apply az (fun z V=>?_) (fun z V=>?_)<;>try(cases z;done))|apply ak ?_|(apply zcQ fun K hK=>?_)|apply ax ?_|apply zcR ?_|apply am ?_)
  all_goals first
   |exact zdj
   |((refine⟨zcT,_,dG,?_⟩;try simp only[zcS]);rw[F];done)
   |(exfalso;omega)
end
section
def tyK2.tyF:=ad @cP (ad @b7 (ad @ei (ad @fd (ad @eT (ad @l9 (ad @mc (@oN)))))))
open tyK2
theorem zj4(ρ:Nat->Int)(x:NsX)(hx:vJ x):bh Tryz.prog ρ 97 (pt x) (.int .i64 (zdl x.l x.n x.k)):=zdZ fit (pls:=pls) (ztE ρ) (.cons (zfr _) (.cons (.agg (sy _)) (.cons (oR _) .nil))) (.int _ _) (by
 obtain⟨l,⟨i,g,L⟩,k⟩:=x;obtain⟨o,Y,W⟩:=hx;have J:Plain (zcW pls pu) 97:=zdO (fun _=>rfl) rfl;rw[pt];simp only[Nd.cells]at o Y W⊢;have hq:(16:Int)≠0:=dD;have hq2:(2:Int)≠0:=dD;cases O:(bj i).2 with
 |false=>
  have hv:et i=.tup [.int .i64 (bj i).1,.bool false]:=by rw[et,O]
  refine zf (M:=221) (rs:=[.tmp 6]) (J.call _) J.ice J.froz Tryz.func97 rfl rfl d6.2 rfl ?_;dsimp only[d6,zcX,Nat.reduceAdd];repeat' (first
   |(apply zcP ?_;clear hK K)|apply Ry.o ?_|(apply bq ?_;first|refine Rx.k (jb (fun _=>rfl) _ _) ?_)|apply Ry.gu ?_|(apply aT (fun A I=>?_) (fun A I=>?_)<;>try(cases A;done))|(apply az (fun z V=>?_) (fun z V=>?_)<;>try(cases z;done))|apply ak ?_|(apply zcQ fun K hK=>?_)|apply am ?_)
  all_goals
   refine⟨zcT,_,dG,?_⟩;try simp only[zcS]
   rw[ztF O]
 |true=>
 by_cases j:0<=(bj i).1/\(L.length:Int)≠(bj i).1
 .have hv:et i=.tup [.int .i64 (bj i).1,.bool true]:=by rw[et,O]
  obtain⟨h1,h2⟩:=j;refine zf (M:=221) (rs:=[.tmp 6]) (J.call _) J.ice J.froz Tryz.func97 rfl rfl d6.2 rfl ?_;dsimp only[d6,zcX,Nat.reduceAdd];repeat' (first
   |(apply zcP ?_;clear hK K)|apply Ry.o ?_|(apply bq ?_;first|refine Rx.k (jb (fun _=>rfl) _ _) ?_)|(apply aT (fun A I=>?_) (fun A I=>?_)<;>try(cases A;done))|(apply az (fun z V=>?_) (fun z V=>?_)<;>try(cases z;done))|apply ak ?_|(apply zcQ fun K hK=>?_)|apply am ?_)
  all_goals
   refine⟨zcT,_,dG,?_⟩;try simp only[zcS]
   rw[zpW O h1 h2]
 cases Z:zdT i g with
 |false=>
  have hv:et i=.tup [.int .i64 (bj i).1,.bool true]:=by rw[et,O]
  refine zf (M:=221) (rs:=[.tmp 6]) (J.call _) J.ice J.froz Tryz.func97 rfl rfl d6.2 rfl ?_;dsimp only[d6,zcX,Nat.reduceAdd];repeat' (first
   |(apply zcP ?_;clear hK K)|apply Ry.o ?_|(apply bq ?_;first|refine Rx.k (jb (fun _=>rfl) _ _) ?_|refine Rx.k (jN (fun _=>rfl) _ _ _) ?_)|(apply aT (fun A I=>?_) (fun A I=>?_)<;>try(cases A;done))|(apply az (fun z V=>?_) (fun z V=>?_)<;>try(cases z;done))|apply ak ?_|(apply zcQ fun K hK=>?_)|apply am ?_)
  all_goals
   refine⟨zcT,_,dG,?_⟩;try simp only[zcS]
   rw[zpX Z]
 |true=>
 have U:=ztG (l:=l) (n:=⟨i,g,L⟩) (k:=k) O j Z;simp only[]at U;by_cases C:i=31
 .subst C;exact zbL Y Z lG
 by_cases m:i=30
 .subst m;exact zbH o Y Z lG
 by_cases c25:i=25
 .subst c25;exact zbI o Y (W rfl) (by have e:(bj 25).1=1:=rfl;omega) Z lG
 have hnn:=G8 C m;have hkn:(L.length:Int)=(bj i).1:=ac;have hv:et i=.tup [.int .i64 L.length,.bool true]:=by rw[et,O,hkn]
 by_cases c22:i=22
 .subst c22;obtain⟨a,b,c,rfl⟩:=n8 (s:=k) (by have e:(bj 22).1=3:=rfl;omega);have F:zdl l ⟨22,g,L⟩ [a,b,c]=if a≠1\/b≠c\/b=3 then 0 else b:=lG
  refine zf (M:=221) (rs:=[.tmp 6]) (J.call _) J.ice J.froz Tryz.func97 rfl rfl d6.2 rfl ?_;dsimp only[d6,zcX,Nat.reduceAdd];repeat' (first
   |(apply zcP ?_;clear hK K)|apply Ry.o ?_|(apply bq ?_;first|refine Rx.k (jb (fun _=>rfl) _ _) ?_|refine Rx.k (jN (fun _=>rfl) _ _ _) ?_)|(apply aT (fun A I=>?_) (fun A I=>?_)<;>try(cases A;done))|(apply az (fun z V=>?_) (fun z V=>?_)<;>try(cases z;done))|apply ak ?_|(apply zcQ fun K hK=>?_)|(apply zdG 12 [(2,19),(7,19),(10,19),(16,19)] fun K hK=>?_)|(apply zdB ?_;try intro _)|(apply zdJ ?_ ?_<;>clear hK K)|apply b4 ?_|(apply mT (fun A I=>?_) (fun A I=>?_)<;>try(cases A;done))|apply ax ?_|apply zcR ?_|apply am ?_)
  all_goals first
   |exact zdj
   |((refine⟨zcT,_,dG,?_⟩;try simp only[zcS]);rw[F];clear F U W hv hkn j O Z o;(try simp only[lS,jG]at *);first|(rw[ay yI];done)|(rw[ah yI];done)|(rw[ay ac];done)|(rw[ah ac];done))
 by_cases c23:i=23
 .subst c23;obtain⟨a,b,rfl⟩:=l8 (s:=k) (by have e:(bj 23).1=2:=rfl;omega);have F:zdl l ⟨23,g,L⟩ [a,b]=zdt (decide (a=2)&&decide (b=1)) 1:=lG;refine zf (M:=221) (rs:=[.tmp 6]) (J.call _) J.ice J.froz Tryz.func97 rfl rfl d6.2 rfl ?_;dsimp only[d6,zcX,Nat.reduceAdd];repeat' (first
   |(apply zcP ?_;clear hK K)|apply Ry.o ?_|(apply bq ?_;first|refine Rx.k (jb (fun _=>rfl) _ _) ?_|refine Rx.k (jN (fun _=>rfl) _ _ _) ?_|refine Rx.k (kV (fun _=>rfl) _ _ _) ?_)|(apply aT (fun A I=>?_) (fun A I=>?_)<;>try(cases A;done))|(apply az (fun z V=>?_) (fun z V=>?_)<;>try(cases z;done))|apply ak ?_|(apply zcQ fun K hK=>?_)|apply ax ?_|apply zcR ?_|apply am ?_)
  all_goals first
   |exact zdj
   |((refine⟨zcT,_,dG,?_⟩;try simp only[zcS]);rw[F];(try simp only[]at *);simp only[ *,qN,dX,dq,];done)
   |((refine⟨zcT,_,dG,?_⟩;try simp only[zcS]);rw[F];clear F U W hv hkn;simp_all;done)
 by_cases c24:i=24
 .subst c24;obtain⟨a,rfl⟩:=lD (s:=k) (by have e:(bj 24).1=1:=rfl;omega);have F:zdl l ⟨24,g,L⟩ [a]=zdt (decide (a=2)) 1:=lG;refine zf (M:=221) (rs:=[.tmp 6]) (J.call _) J.ice J.froz Tryz.func97 rfl rfl d6.2 rfl ?_;dsimp only[d6,zcX,Nat.reduceAdd];repeat' (first
   |(apply zcP ?_;clear hK K)|apply Ry.o ?_|(apply bq ?_;first|refine Rx.k (jb (fun _=>rfl) _ _) ?_|refine Rx.k (jN (fun _=>rfl) _ _ _) ?_|refine Rx.k (kV (fun _=>rfl) _ _ _) ?_)|(apply aT (fun A I=>?_) (fun A I=>?_)<;>try(cases A;done))|(apply az (fun z V=>?_) (fun z V=>?_)<;>try(cases z;done))|apply ak ?_|(apply zcQ fun K hK=>?_)|apply ax ?_|apply zcR ?_|apply am ?_)
  all_goals first
   |exact zdj
   |((refine⟨zcT,_,dG,?_⟩;try simp only[zcS]);rw[F];done)
 by_cases c27:i=27
 .subst c27;obtain⟨a,b,rfl⟩:=l8 (s:=k) (by have e:(bj 27).1=2:=rfl;omega);have F:zdl l ⟨27,g,L⟩ [a,b]=zdt (decide (a=2)&&decide (b=1)) 2:=lG;refine zf (M:=221) (rs:=[.tmp 6]) (J.call _) J.ice J.froz Tryz.func97 rfl rfl d6.2 rfl ?_;dsimp only[d6,zcX,Nat.reduceAdd];repeat' (first
   |(apply zcP ?_;clear hK K)|apply Ry.o ?_|(apply bq ?_;first|refine Rx.k (jb (fun _=>rfl) _ _) ?_|refine Rx.k (jN (fun _=>rfl) _ _ _) ?_|refine Rx.k (kV (fun _=>rfl) _ _ _) ?_)|(apply aT (fun A I=>?_) (fun A I=>?_)<;>try(cases A;done))|(apply az (fun z V=>?_) (fun z V=>?_)<;>try(cases z;done))|apply ak ?_|(apply zcQ fun K hK=>?_)|apply ax ?_|apply zcR ?_|apply am ?_)
  all_goals first
   |exact zdj
   |((refine⟨zcT,_,dG,?_⟩;try simp only[zcS]);rw[F];(try simp only[]at *);simp only[ *,qN,dX,dq,];done)
 by_cases c29:i=29
 .subst c29;obtain⟨a,b,rfl⟩:=l8 (s:=k) (by have e:(bj 29).1=2:=rfl;omega);have F:zdl l ⟨29,g,L⟩ [a,b]=zdt (decide (a=2)&&decide (b=1)) 2:=lG;refine zf (M:=221) (rs:=[.tmp 6]) (J.call _) J.ice J.froz Tryz.func97 rfl rfl d6.2 rfl ?_;dsimp only[d6,zcX,Nat.reduceAdd];repeat' (first
   |(apply zcP ?_;clear hK K)|apply Ry.o ?_|(apply bq ?_;first|refine Rx.k (jb (fun _=>rfl) _ _) ?_|refine Rx.k (jN (fun _=>rfl) _ _ _) ?_|refine Rx.k (kV (fun _=>rfl) _ _ _) ?_)|(apply aT (fun A I=>?_) (fun A I=>?_)<;>try(cases A;done))|(apply az (fun z V=>?_) (fun z V=>?_)<;>try(cases z;done))|apply ak ?_|(apply zcQ fun K hK=>?_)|apply ax ?_|apply zcR ?_|apply am ?_)
  all_goals first
   |exact zdj
   |((refine⟨zcT,_,dG,?_⟩;try simp only[zcS]);rw[F];(try simp only[]at *);simp only[ *,qN,dX,dq,];done)
 by_cases c28:i=28
 .subst c28;obtain⟨a,b,c,rfl⟩:=n8 (s:=k) (by have e:(bj 28).1=3:=rfl;omega);have F:zdl l ⟨28,g,L⟩ [a,b,c]=zdt (decide (a=2)&&decide (b=1)&&decide (c=1)) 2:=lG;refine zf (M:=221) (rs:=[.tmp 6]) (J.call _) J.ice J.froz Tryz.func97 rfl rfl d6.2 rfl ?_;dsimp only[d6,zcX,Nat.reduceAdd];repeat' (first
   |(apply zcP ?_;clear hK K)|apply Ry.o ?_|(apply bq ?_;first|refine Rx.k (jb (fun _=>rfl) _ _) ?_|refine Rx.k (jN (fun _=>rfl) _ _ _) ?_|refine Rx.k (kV (fun _=>rfl) _ _ _) ?_)|(apply aT (fun A I=>?_) (fun A I=>?_)<;>try(cases A;done))|(apply az (fun z V=>?_) (fun z V=>?_)<;>try(cases z;done))|apply ak ?_|(apply zcQ fun K hK=>?_)|apply ax ?_|apply zcR ?_|apply am ?_)
  all_goals first
   |exact zdj
   |((refine⟨zcT,_,dG,?_⟩;try simp only[zcS]);rw[F];(try simp only[]at *);simp only[ *,qN,xN,];done)
 by_cases c26:i=26
 .subst c26;have F:zdl l ⟨26,g,L⟩ k=2:=lG;refine zf (M:=221) (rs:=[.tmp 6]) (J.call _) J.ice J.froz Tryz.func97 rfl rfl d6.2 rfl ?_;dsimp only[d6,zcX,Nat.reduceAdd];repeat' (first
   |(apply zcP ?_;clear hK K)|apply Ry.o ?_|(apply bq ?_;first|refine Rx.k (jb (fun _=>rfl) _ _) ?_|refine Rx.k (jN (fun _=>rfl) _ _ _) ?_|refine Rx.k (kV (fun _=>rfl) _ _ _) ?_)|(apply aT (fun A I=>?_) (fun A I=>?_)<;>try(cases A;done))|(apply az (fun z V=>?_) (fun z V=>?_)<;>try(cases z;done))|apply ak ?_|(apply zcQ fun K hK=>?_)|apply ax ?_|apply zcR ?_|apply am ?_)
  all_goals first
   |exact zdj
   |((refine⟨zcT,_,dG,?_⟩;try simp only[zcS]);rw[F];done)
 by_cases c3:i=3
 .subst c3;have F:zdl l ⟨3,g,L⟩ k=if g.tmod 16=0 then 2 else 1:=lG
  refine zf (M:=221) (rs:=[.tmp 6]) (J.call _) J.ice J.froz Tryz.func97 rfl rfl d6.2 rfl ?_;dsimp only[d6,zcX,Nat.reduceAdd];repeat' (first
   |(apply zcP ?_;clear hK K)|apply Ry.o ?_|(apply bq ?_;first|refine Rx.k (jb (fun _=>rfl) _ _) ?_|refine Rx.k (jN (fun _=>rfl) _ _ _) ?_|refine Rx.k (kV (fun _=>rfl) _ _ _) ?_)|(apply aT (fun A I=>?_) (fun A I=>?_)<;>try(cases A;done))|(apply az (fun z V=>?_) (fun z V=>?_)<;>try(cases z;done))|apply ak ?_|(apply zcQ fun K hK=>?_)|apply ax ?_|apply zcR ?_|apply am ?_)
  all_goals first
   |exact zdj
   |((refine⟨zcT,_,dG,?_⟩;try simp only[zcS]);rw[F,ay hY];done)
   |((refine⟨zcT,_,dG,?_⟩;try simp only[zcS]);rw[F,ah hY];done)
 have F:zdl l ⟨i,g,L⟩ k=zdt (zdx k) 1:=by
  rw[U,ah c3,ah c26,ah c22,ah c23,ah c24,ah c25,ah ac,ah c28,ah m,ah C]
 have hkb':k.length<2^60:=ac;have hk0:(0:Int)<=L.length:=ac;refine zf (M:=221) (rs:=[.tmp 6]) (J.call _) J.ice J.froz Tryz.func97 rfl rfl d6.2 rfl ?_;dsimp only[d6,zcX,Nat.reduceAdd];repeat' (first
  |(apply zcP ?_;clear hK K)|apply Ry.o ?_|(apply bq ?_;first|refine Rx.k (jb (fun _=>rfl) _ _) ?_|refine Rx.k (jN (fun _=>rfl) _ _ _) ?_|refine Rx.k (yW (fun _=>rfl) _ hkb' _) ?_|refine Rx.k (kV (fun _=>rfl) _ _ _) ?_)|(apply aT (fun A I=>?_) (fun A I=>?_)<;>try(cases A;done))|(apply az (fun z V=>?_) (fun z V=>?_)<;>try(cases z;done))|apply ak ?_|(apply zcQ fun K hK=>?_)|apply ax ?_|apply zcR ?_|apply am ?_)
 all_goals first
  |exact zdj
  |((refine⟨zcT,_,dG,?_⟩;try simp only[zcS]);rw[F];done))
end
section
def tyK3.tyF:=ad @cP (ad @b7 (ad @ei (ad @fd (ad @eT (@u4)))))
open tyK3
noncomputable def KC:{c:SC // aB 69 (Tryz.f60.body.getD .skip)=c}:=by
 refine⟨?_,?_⟩;rotate_left
 .simp only[Tryz.f60,a8,aB,zda,zc9,zdc,zdd,Nat.blt,Nat.ble];rfl
noncomputable def CZ:En:=⟨97,true,b0 vJ pt fun x=>.int .i64 (zdl x.l x.n x.k)⟩
theorem zyf(ρ:Nat->Int):zdF Tryz.prog ρ CZ:=zdM fun x F=>zj4 ρ x F
noncomputable def yZ:List En:=[kI CZ]
theorem ztI(ρ:Nat->Int):fb Tryz.prog ρ yZ:=⟨sw (zyf ρ),trivial⟩
theorem ztJ(l:List Nd):bF 60 (zd2 l)=zd2 l:=by
 show AV.lst ((l.map Nd.cells).map fun A=>A.map (bF 59))=_;rw[oL];have e:(fun A=>A.map (bF 59)) ∘ Nd.cells=Nd.cells:=by
  funext x
  show(x.cells).map (bF 59)=x.cells;rw[Nd.cells];simp only[dO,xV,B2 57];rfl
 rw[e]
theorem zbQ(y:NsX):(pt y).any (jp 90)=false:=by
 obtain⟨l,⟨i,g,L⟩,s⟩:=y;rfl
theorem zbR(S:Nat->Prop)(H:Hp)(n:Nd):zdI S 3 H (.agg n.cells) (.agg n.cells):=by
 refine⟨n.cells,?_,rfl⟩;rw[Nd.cells];exact⟨ls ⟨.int _ _,trivial⟩,ls ⟨.int _ _,trivial⟩,ls ⟨oR _,trivial⟩,trivial⟩
theorem zbS{tb:List En}(C:∀z,zdS tb 97 z=(kI CZ).sp z)(Z:iF tb 97=true){H:Hp}{v:AV}{s:List Int}{lo:Nat}(L:ep H v s lo)(l:List Nd)(n:Nd)(O:vJ ⟨l,n,s⟩):
 zc2 Tryz.prog (zcW pls tb) 97 [zd2 l,.agg n.cells,v] H fun w H'=>w=.int .i64 (zdl l n s)/\Icy (fun k=>lo<=k) H H':=by
 obtain⟨u,i,g⟩:=L.ic;refine sM (x:=(⟨l,n,s⟩:NsX)) (enc:=pt) (ok:=vJ) (out:=fun x=>.int .i64 (zdl x.l x.n x.k)) (us:=[zd2 l,.agg n.cells,u]) (n:=3) zyd (fun z=>by rw[C];rfl) Z zbQ O ac ⟨ls ⟨zfr _,trivial⟩,zbR _ _ _,i,trivial⟩ ?_;show [bF 60 (zd2 l),bF 60 (.agg n.cells),bF 60 u]=_;rw[g,Hu 56,ztJ];rfl
theorem zyg{l:List Nd}{i:Nat}(C:i<l.length){n:Nd}{s:List Int}(o:l[i]?=some n)(j:zeq i (zds l i) n.kids=some s):jT l i (zds l i)=zdl l n s:=by
 rw[<-XS ac,BG,o];simp only[j]
theorem zbU{l:List Nd}{i:Nat}{kn s:List Int}{n:Nd}(C:i<l.length)(I:zeu l)(o:l[i]?=some n)(j:zeq i kn n.kids=some s):vJ ⟨l,n,s⟩:=by
 have z:=I.2 n (jU o);have e:=o9 j;refine⟨e,by simp only[];omega,fun _ Z=>?_⟩;obtain⟨k,W⟩:=lD Z;simp only[]at W⊢;obtain⟨Y,U,_⟩:=sU j k (by rw[W];exact Hl _);obtain⟨m,rfl⟩:=eI Y;have M:m<l.length:=ac;exact⟨m,l[m],W,aO M,I.2 _ (dx M)⟩
theorem ep.at{H:Hp}{v:AV}{l:List Int}{lo:Nat}(h:ep H v l lo){i:Nat}(C:i<l.length):
 ∃r,zdn Tryz.prog 23 v (.int .i64 (i:Int))=some (.ptr r i)/\zep Tryz.prog H 3 (.ptr r i)=some (.int .i64 l[i]):=by
 rcases h with⟨_,rfl⟩|h
 .simp at C
 .exact h.at C
set_option maxRecDepth 100000 in
theorem znG(ρ:Nat->Int)(l:List Nd)(hl:zeu l):bh Tryz.prog ρ 60 [zd2 l] (zdR (zds l l.length)):=AN (n:=3) (zfE (r:=uW (zds l l.length)) (m:=3) (cfg:=zcW pls yZ) fit (ll ρ) (fb.look (ztI ρ)) (.cons (zfr _) .nil) (by
 have hl0:=hl;obtain⟨hl1,hl2⟩:=hl;have hw:Plain (zcW pls yZ) 60:=zdO (fun _=>rfl) rfl;have hkeep:(zcW pls yZ).keep 60=false:=rfl;refine zf (M:=69) (rs:=[.tmp 2]) (hw.call _) hw.ice hw.froz Tryz.func60 rfl rfl KC.2 rfl ?_;dsimp only[KC,zcX,Nat.reduceAdd];repeat' (first
  |(apply zcP ?_;clear hK K)|apply Rx.o ?_|apply ak ?_|(apply zcQ fun K hK=>?_)|apply ax ?_|fail)
 refine zdN [0,2] [] 4 l.length (fun i E H=>∃v,E.at 3=v/\l4 H v (zds l i) 0) eE ⟨.nilS,eE,.inl ⟨rfl,rfl⟩⟩ ?_;rintro i E L hi hcE hrH hnH hsI ⟨v,k3,hv⟩;(try simp only[zdh,zdb,a1,zc3,zde,Nat.reduceBEq, *]at hcE);(try simp only[zdb, *]at hrH);(try simp only[zdK,]at hnH);repeat' (first
  |(apply zcP ?_;clear hK K)|apply Rx.o ?_|(apply aU (fun z V=>?_) (fun z V=>?_)<;>try(cases z;done))|apply ak ?_|(apply zcQ fun K hK=>?_)|apply ax ?_|apply zcR ?_|apply am ?_|apply zc4 ?_)
 .have F:i<l.length:=by simpa using z
  have hgi:l[i]?=some l[i]:=aO F;have hnk:=hl2 _ (dx F);generalize l[i]=n at *;repeat' (first
   |(apply zcP ?_;clear hK K)|fail)
  refine zdN [0,2,3,4] [] 7 n.kids.length (fun j E H=>∃w s,E.at 5=w/\ep H w s L.next/\oa i (zds l i) n.kids j s/\E.at 6=.bool true/\∀k,k<L.next->H.get k=L.get k) eE ⟨.nilS,[],eE,.inl ⟨rfl,rfl⟩,⟨rfl,aE⟩,eE,fun _ _=>rfl⟩ ?_;rintro j E3 H3 hj hcE hrH hnH hsI ⟨w,s,zeL,J,hJ,zft,C⟩;(try simp only[zdh,zdb,a1,zc3,Nat.reduceBEq, *]at hcE);(try simp only[zdb, *]at hrH);(try simp only[zc6,zdm,zdK,bz,Nat.reduceAdd]at hnH);repeat' (first
   |(apply zcP ?_;clear hK K)|apply Rx.o ?_|(apply aU (fun z V=>?_) (fun z V=>?_)<;>try(cases z;done))|apply ak ?_|(apply zcQ fun K hK=>?_)|apply ax ?_|apply zcR ?_|apply zc4 ?_)
  .have hlt2:j<n.kids.length:=by simpa using z
   have hgx:n.kids[j]?=some n.kids[j]:=aO hlt2;generalize n.kids[j]=U at *;have o:l4 H3 v (zds l i) 0:=hv.keep ac fun k Y=>C k (hv.n.lt Y).2;have W:∀(x:Int),ep (H3.alloc (.cells [.int .i64 x] 0 true)) v (zds l i) 0:=fun x=>o.n.keep (gm _) fun k Y=>by rw[zcY,ah (by have:=(hv.n.lt Y).2;omega)]
   by_cases Z:U<0\/(i:Int)<=U\/(zds l i).getD U.toNat 0=0
   .have hs0:jT l i (zds l i)=0:=xZ hgi (hJ.bad hgx Z);have g:zds l (i+1)=zds l i++[0]:=by rw[zds,hs0]
    obtain⟨v5,H5,a5,s5,n5,f5,o5⟩:=xJ (r:=H3.next) (imm:=0) 0 (W 0) (cN _) iu oZ;have n5':L.next<=H5.next:=sY
    clear n5 f5 o5 W;by_cases c1:U<0
    .repeat' (first
      |(apply zcP ?_;clear hK K)|apply Ry.o ?_|(apply aT (fun A I=>?_) (fun A I=>?_)<;>try(cases A;done))|(apply az (fun z V=>?_) (fun z V=>?_)<;>try(cases z;done))|apply ak ?_|(apply zcQ fun K hK=>?_)|apply zc4 ?_)
     refine⟨ac,eL,eL,eN,jJ,?_⟩;exact⟨v5,eE,.inr ⟨by rw[g];simp,yX⟩⟩
    by_cases c2:(i:Int)<=U
    .have c1':¬U<0:=c1;repeat' (first
      |(apply zcP ?_;clear hK K)|apply Ry.o ?_|(apply aT (fun A I=>?_) (fun A I=>?_)<;>try(cases A;done))|(apply az (fun z V=>?_) (fun z V=>?_)<;>try(cases z;done))|apply ak ?_|(apply zcQ fun K hK=>?_)|apply zc4 ?_)
     refine⟨ac,eL,eL,eN,jJ,?_⟩;exact⟨v5,eE,.inr ⟨by rw[g];simp,yX⟩⟩
    have hb0:(zds l i).getD U.toNat 0=0:=by
     rcases Z with h|h|h
     .exact absurd h c1
     .exact absurd h c2
     .exact h
    clear Z;obtain⟨m,rfl⟩:=eI (xW.1 c1);have O:m<(zds l i).length:=oZ;obtain⟨q,hix,hlo⟩:=o.n.at O;have hgk:(zds l i)[m]=0:=by
     rw[dQ,cH,aO O]at hb0;exact hb0
    rw[hgk]at hlo;repeat' (first
     |(apply zcP ?_;clear hK K)|apply Ry.o ?_|(apply aT (fun A I=>?_) (fun A I=>?_)<;>try(cases A;done))|(apply az (fun z V=>?_) (fun z V=>?_)<;>try(cases z;done))|apply ak ?_|(apply zcQ fun K hK=>?_)|apply zc4 ?_)
    refine⟨ac,eL,eL,eN,jJ,?_⟩;exact⟨v5,eE,.inr ⟨by rw[g];simp,yX⟩⟩
   .have hJn:=hJ.next hgx Z
    have c1:¬U<0:=fun h=>Z (.inl h);have c2:¬(i:Int)<=U:=fun h=>Z (.inr (.inl h));have c3:¬(zds l i).getD U.toNat 0=0:=fun h=>Z (.inr (.inr h));clear Z W;obtain⟨m,rfl⟩:=eI (xW.1 c1);have O:m<(zds l i).length:=oZ;obtain⟨q,hix,hlo⟩:=o.n.at O;have hgk:(zds l i).getD (m:Int).toNat 0=(zds l i)[m]:=by
     rw[dQ,cH,aO O];rfl
    rw[hgk]at c3 hJn;generalize (zds l i)[m]=x at *;have hwb:ep (H3.alloc (.cells [.int .i64 x] 0 true)) w s L.next:=J.keep (gm _) fun k Y=>by rw[zcY,ah (by have:=(J.lt Y).2;omega)]
    obtain⟨v5,H5,a5,s5,n5,f5,o5⟩:=xJ (r:=H3.next) (imm:=0) x hwb gX iu (by rw[hJ.1];omega);have n5':H3.next<=H5.next:=sY
    have o5':∀k,k<L.next->H5.get k=L.get k:=fun k Y=>by rw[f5 k Y,zcY,ah ac,C k Y]
    clear n5 f5 o5 hJ C o;repeat' (first
     |(apply zcP ?_;clear hK K)|apply Ry.o ?_|(apply aT (fun A I=>?_) (fun A I=>?_)<;>try(cases A;done))|(apply az (fun z V=>?_) (fun z V=>?_)<;>try(cases z;done))|apply ak ?_|(apply zcQ fun K hK=>?_)|apply zcR ?_|fail)
    refine⟨ac,eL,eL,eN,pe,?_⟩;exact⟨v5,s++[x],eE,.inr s5,hJn,eE,o5'⟩
  .have hje:j=n.kids.length:=by omega
   rw[hje]at hJ;have o:l4 H3 v (zds l i) 0:=hv.keep ac fun k Y=>C k (hv.n.lt Y).2;have hs1:=zyg F hgi hJ.done;have hok:=zbU F hl0 hgi hJ.done;have g:zds l (i+1)=zds l i++[zdl l n s]:=by rw[zds,hs1]
   repeat' (first
    |(apply zcP ?_;clear hK K)|fail)
   refine a4 rfl a6 a7 ?_;simp only[bB];refine aZ ?_ (zbS (fun _=>rfl) rfl J l n hok);rintro x H4 ⟨rfl,hy⟩;have n4:=hy.next
   have n4':L.next<=H4.next:=ac
   have hv4:l4 H4 v (zds l i) 0:=o.keep ac fun k Y=>hy.out k (by have:=(hv.n.lt Y).2;omega);clear hy n4 J hJ C o hs1 hok;dsimp only[zc5];generalize zdl l n s=x at *;have W:ep (H4.alloc (.cells [.int .i64 x] 0 true)) v (zds l i) 0:=hv4.n.keep (gm _) fun k Y=>by rw[zcY,ah (by have:=(hv4.n.lt Y).2;omega)]
   obtain⟨v5,H5,a5,s5,n5,f5,o5⟩:=xJ (r:=H4.next) (imm:=0) x W (cN _) iu oZ;have n5':L.next<=H5.next:=sY
   clear n5 f5 o5 W;repeat' (first
    |(apply zcP ?_;clear hK K)|apply Rx.o ?_|(apply zcQ fun K hK=>?_)|fail)
   refine⟨ac,eL,eL,eN,jJ,?_⟩;exact⟨v5,eE,.inr ⟨by rw[g];simp,yX⟩⟩
 .have hie:i=l.length:=by simp at z;omega
  rw[hie]at hv;repeat' (first
   |(apply zcP ?_;clear hK K)|fail)
  all_goals (refine⟨zcT,_,zcU,?_⟩;try simp only[zcS])
  exact hv.iceV 1)) (Xk 1 _)
end
section
def tySnC.tyF:=ad @cP (ad @b7 (ad @ei (@fd)))
open tySnC
noncomputable def za:{c:SC // aB 45 (Tryz.f39.body.getD .skip)=c}:=by
 refine⟨?_,?_⟩;rotate_left
 .simp only[Tryz.f39,a8,aB,zda,zc9,zdc,zdd,Nat.blt,Nat.ble];rfl
def rI(x:Nd×Nd):List AV:=[.agg x.1.cells,.agg x.2.cells]
theorem zyh(x y:Nd×Nd)(h:rI x=rI y):x=y:=by
 simp only[rI,cS,AV.agg.injEq,a1]at h;exact j3 (nX h.1) (nX h.2)
def zb(x:Nd×Nd):Prop:=x.1.kids.length<2^60
theorem zyi{s w:List Int}(I:s.length=w.length){i:Nat}(C:i<s.length):decide (s.drop i=w.drop i)=(decide (s.getD i 0=w.getD i 0)&&decide (s.drop (i+1)=w.drop (i+1))):=by
 rw[eJ C,eJ (l:=w) ac];rw[cH,cH,aO C,aO (by omega:i<w.length)];simp only[a8,cS,Bool.decide_and]
theorem zj5(ρ:Nat->Int)(x:Nd×Nd)(o:zb x):bh Tryz.prog ρ 39 (rI x) (.bool (decide (x.1=x.2))):=zdZ fit (pls:=pls) (l:=[]) trivial (.cons (.agg (sy _)) (.cons (.agg (sy _)) .nil)) (.bool _) (by
 obtain⟨⟨o1,i1,s⟩,⟨o2,i2,w⟩⟩:=x;have J:=zed 39;unfold zb at o;rw[rI];simp only[Nd.cells]at o⊢;have hd:decide ((⟨o1,i1,s⟩:Nd)=⟨o2,i2,w⟩)=(decide (o1=o2)&&decide (i1=i2)&&decide (s=w)):=by
  simp[Bool.decide_and,qL]
 rw[hd];by_cases O:w.length=s.length
 .clear hd;refine zf (M:=45) (rs:=[.tmp 4]) (J.call _) J.ice J.froz Tryz.func39 rfl rfl za.2 rfl ?_;dsimp only[za,zcX,Nat.reduceAdd];repeat' (first
   |(apply zcP ?_;clear hK K)|apply Ry.o ?_|(apply aT (fun A I=>?_) (fun A I=>?_)<;>try(cases A;done))|(apply az (fun z V=>?_) (fun z V=>?_)<;>try(cases z;done))|apply ak ?_|(apply zcQ fun K hK=>?_)|(apply zdG 6 [(1,11),(4,11),(6,11),(9,11)] fun K hK=>?_)|(apply zdB ?_;try intro _)|(apply zdJ ?_ ?_<;>clear hK K)|apply b4 ?_|apply ax ?_|apply zcR ?_|apply am ?_|apply zc4 ?_)
  all_goals first
   |(refine⟨zcT,_,dG,?_⟩;try simp only[zcS]
     simp_all;done)
   |skip
  refine zdN [2,3] [0,1] 5 s.length (fun i E H=>decide (s=w)=decide (s.drop i=w.drop i)) eE aE ?_;rintro i E Y hi W j m hsI g;(try simp only[zdh,zdb,a1,zc3,zde,Nat.reduceBEq,Nat.reduceAdd,Nat.reduceLeDiff,tyF, *]at W);(try simp only[zdh,zdb,a1,zc3,zde,Nat.reduceBEq,Nat.reduceAdd,Nat.reduceLeDiff,tyF, *]at j);(try simp only[zc6,zdm,zdK,bz,Nat.reduceAdd]at m);have hB0:(0 == Y.next)=false:=zc7 ac;have hC0:(Y.next == 0)=false:=zc7 ac;have hB1:(1 == Y.next)=false:=zc7 ac;have hC1:(Y.next == 1)=false:=zc7 ac;repeat' (first
   |(apply zcP ?_;clear hK K)|apply Rx.o ?_|(apply aU (fun z V=>?_) (fun z V=>?_)<;>try(cases z;done))|apply ak ?_|(apply zcQ fun K hK=>?_)|(apply zdG 6 [(1,11),(4,11),(6,11),(9,11)] fun K hK=>?_)|(apply zdB ?_;try intro _)|(apply zdJ ?_ ?_<;>clear hK K)|apply b4 ?_|apply ax ?_|apply zcR ?_|apply am ?_|apply zc4 ?_)
  .have Z:i<s.length:=by simpa using z
   have L:s[i]?=some s[i]:=aO Z;have F:w[i]?=some (w[i]' ac):=aO ac;have U:=zyi O.symm Z;rw[cH,cH,L,F]at U;simp only[a8]at U;generalize s[i]=x at *;generalize w[i]' ac=y at *;repeat' (first
    |(apply zcP ?_;clear hK K)|apply Rx.o ?_|(apply aU (fun z V=>?_) (fun z V=>?_)<;>try(cases z;done))|apply ak ?_|(apply zcQ fun K hK=>?_)|(apply zdG 6 [(1,11),(4,11),(6,11),(9,11)] fun K hK=>?_)|(apply zdB ?_;try intro _)|(apply zdJ ?_ ?_<;>clear hK K)|apply b4 ?_|apply ax ?_|apply zcR ?_|apply am ?_|apply zc4 ?_)
   .exact zdj
   .all_goals (refine⟨zcT,_,zcU,?_⟩;try simp only[zcS])
    rw[g,U];simp_all
   .refine⟨ac,eL,eL,eN,sK,?_⟩;rw[g,U];simp_all
  .repeat' (first
    |(apply zcP ?_;clear hK K)|apply Rx.o ?_|(apply aU (fun z V=>?_) (fun z V=>?_)<;>try(cases z;done))|apply ak ?_|(apply zcQ fun K hK=>?_)|(apply zdG 6 [(1,11),(4,11),(6,11),(9,11)] fun K hK=>?_)|(apply zdB ?_;try intro _)|(apply zdJ ?_ ?_<;>clear hK K)|apply b4 ?_|apply ax ?_|apply zcR ?_|apply am ?_|apply zc4 ?_)
   all_goals (refine⟨zcT,_,zcU,?_⟩;try simp only[zcS])
   rw[g,show i=s.length by simp at z;omega,jI,<-O,jI];simp_all
 .have C:¬s=w:=fun e=>O li;have hl2:¬(s.length:Int)=w.length:=ac;clear hd;refine zf (M:=45) (rs:=[.tmp 4]) (J.call _) J.ice J.froz Tryz.func39 rfl rfl za.2 rfl ?_;dsimp only[za,zcX,Nat.reduceAdd];repeat' (first
   |(apply zcP ?_;clear hK K)|apply Ry.o ?_|(apply aT (fun A I=>?_) (fun A I=>?_)<;>try(cases A;done))|(apply az (fun z V=>?_) (fun z V=>?_)<;>try(cases z;done))|apply ak ?_|(apply zcQ fun K hK=>?_)|(apply zdG 6 [(1,11),(4,11),(6,11),(9,11)] fun K hK=>?_)|(apply zdB ?_;try intro _)|(apply zdJ ?_ ?_<;>clear hK K)|apply b4 ?_|apply ax ?_|apply zcR ?_|apply am ?_|apply zc4 ?_)
  all_goals
   refine⟨zcT,_,dG,?_⟩;try simp only[zcS]
   rw[dd C,o7])
noncomputable def C0:En:=⟨39,false,b0 zb rI fun x=>.bool (decide (x.1=x.2))⟩
theorem zyj(ρ:Nat->Int):zdF Tryz.prog ρ C0:=zdM fun x F=>zj5 ρ x F
theorem zb0{l:List En}(I:∀z,zdS l 39 z=C0.sp z)(a b:Nd)(h:a.kids.length<2^60)(H:Hp):zc2 Tryz.prog (zcW pls l) 39 [.agg a.cells,.agg b.cells] H fun v H'=>v=.bool (decide (a=b))/\H'=H:=
 zdW (enc:=rI) (ok:=zb) (out:=fun x=>.bool (decide (x.1=x.2))) zyh (x:=(a,b)) (I _) h
end
section
namespace tyK5
end tyK5
open tyK5
noncomputable def vK:En:=⟨60,true,b0 zeu i8 fun l=>zdR (zds l l.length)⟩
theorem KD(ρ:Nat->Int):zdF Tryz.prog ρ vK:=zdM fun l I=>znG ρ l I
theorem KE{tb:List En}(C:∀z,zdS tb 60 z=vK.sp z)(l:List Nd)(I:zeu l)(H:Hp):zc2 Tryz.prog (zcW pls tb) 60 [zd2 l] H fun v H'=>v=zdR (zds l l.length)/\H'=H:=
 zdW (enc:=i8) (ok:=zeu) (out:=fun l=>zdR (zds l l.length)) qV (x:=l) (C _) I
end
section
def tyK9.tyF:=ad @cP (ad @b7 (ad @lw (ad @ei (ad @fd (ad @eT (ad @xo (@u4)))))))
open tyK9
noncomputable def tA:{c:SC // aB 21 (Tryz.f50.body.getD .skip)=c}:=by
 refine⟨?_,?_⟩;rotate_left
 .simp only[Tryz.f50,a8,aB,zda,zc9,zdc,zdd,Nat.blt,Nat.ble];rfl
theorem zpY(ρ:Nat->Int)(x:List Nd×Int)(F:zeu x.1):bh Tryz.prog ρ 50 (md x) (.int .i64 (zdV x.1 x.2)):=zdZ fit (pls:=pls) (l:=[vK]) ⟨KD ρ,trivial⟩ (.cons (zfr _) (.cons (.int _ _) .nil)) (.int _ _) (by
 obtain⟨l,i⟩:=x;simp only[]at F;have U:=F.1;have J:Plain (zcW pls [vK]) 50:=zdO (fun _=>rfl) rfl;rw[md];simp only[];by_cases c1:i<0
 .refine zf (M:=21) (rs:=[.tmp 4]) (J.call _) J.ice J.froz Tryz.func50 rfl rfl tA.2 rfl ?_;dsimp only[tA,zcX,Nat.reduceAdd];repeat' (first
   |(apply zcP ?_;clear hK K)|apply Ry.o ?_|(apply aT (fun A I=>?_) (fun A I=>?_)<;>try(cases A;done))|(apply az (fun z V=>?_) (fun z V=>?_)<;>try(cases z;done))|apply ak ?_|(apply zcQ fun K hK=>?_)|apply am ?_)
  all_goals (refine⟨zcT,_,zcU,?_⟩;try simp only[zcS])
  rw[zdV,ay (.inl c1)]
 by_cases c2:(l.length:Int)<=i
 .refine zf (M:=21) (rs:=[.tmp 4]) (J.call _) J.ice J.froz Tryz.func50 rfl rfl tA.2 rfl ?_;dsimp only[tA,zcX,Nat.reduceAdd];repeat' (first
   |(apply zcP ?_;clear hK K)|apply Ry.o ?_|(apply aT (fun A I=>?_) (fun A I=>?_)<;>try(cases A;done))|(apply az (fun z V=>?_) (fun z V=>?_)<;>try(cases z;done))|apply ak ?_|(apply zcQ fun K hK=>?_)|apply am ?_)
  all_goals (refine⟨zcT,_,zcU,?_⟩;try simp only[zcS])
  rw[zdV,ay (.inr c2)]
 obtain⟨m,rfl⟩:=eI (xW.1 c1);have W:m<l.length:=ac;have L:IntKind.wrap .i64 ((m:Int)+1)=((m+1:Nat):Int):=zey ac ac;have Z:=Yu l (m+1) ac;have Y:(l.take (m+1)).length=m+1:=rZ;have O:(zds (l.take (m+1)) (m+1))[m]?=some (zdV l m):=by
  rw[zdV,ah ac,dQ,cH,aO oZ];rfl
 refine zf (M:=21) (rs:=[.tmp 4]) (J.call _) J.ice J.froz Tryz.func50 rfl rfl tA.2 rfl ?_;dsimp only[tA,zcX,Nat.reduceAdd];repeat' (first
  |(apply zcP ?_;clear hK K)|apply Ry.o ?_|(apply bq ?_;first|refine Rx.k (KE (fun _=>rfl) _ (F.take _) _) ?_)|(apply aT (fun A I=>?_) (fun A I=>?_)<;>try(cases A;done))|(apply az (fun z V=>?_) (fun z V=>?_)<;>try(cases z;done))|apply ak ?_|(apply zcQ fun K hK=>?_)|apply zcR ?_|apply am ?_)
 all_goals (refine⟨zcT,_,zcU,?_⟩;try simp only[zcS]))
noncomputable def C1:En:=⟨50,true,b0 (fun x=>zeu x.1) md fun x=>.int .i64 (zdV x.1 x.2)⟩
theorem zyk(ρ:Nat->Int):zdF Tryz.prog ρ C1:=zdM fun x F=>zpY ρ x F
theorem zb3{tb:List En}(C:∀z,zdS tb 50 z=C1.sp z)(l:List Nd)(i:Int)(I:zeu l)(H:Hp):zc2 Tryz.prog (zcW pls tb) 50 [zd2 l,.int .i64 i] H fun v H'=>v=.int .i64 (zdV l i)/\H'=H:=
 zdW (enc:=md) (ok:=fun x=>zeu x.1) (out:=fun x=>.int .i64 (zdV x.1 x.2)) Hy (x:=(l,i)) (C _) I
end
section
def tyVdC.tyF:=ad @cP (ad @b7 (ad @ei (ad @fd (ad @eT (@mJ)))))
open tyVdC
noncomputable def KF:{c:SC // aB 34 (Tryz.f61.body.getD .skip)=c}:=by
 refine⟨?_,?_⟩;rotate_left
 .simp only[Tryz.f61,a8,aB,zda,zc9,zdc,zdd,Nat.blt,Nat.ble];rfl
theorem zyl(ρ:Nat->Int)(x:List Nd×Int)(F:zeu x.1):bh Tryz.prog ρ 61 (md x) (.int .i64 (gE x.1 x.2)):=zdZ fit (pls:=pls) (l:=[]) trivial (.cons (zfr _) (.cons (.int _ _) .nil)) (.int _ _) (by
 obtain⟨l,m⟩:=x;simp only[]at F;obtain⟨hl1,C⟩:=F;have J:=zed 61;have q2:(2:Int)≠0:=dD;rw[md];simp only[];refine zf (M:=34) (rs:=[.tmp 4]) (J.call _) J.ice J.froz Tryz.func61 rfl rfl KF.2 rfl ?_;dsimp only[KF,zcX,Nat.reduceAdd];repeat' (first
  |(apply zcP ?_;clear hK K)|apply Rx.o ?_|apply ak ?_|(apply zcQ fun K hK=>?_)|apply ax ?_|apply zcR ?_|apply am ?_|apply zc4 ?_)
 refine zdN [0,1] [] 5 l.length (fun i E H=>gE (l.drop i) m=gE l m) eE rfl ?_;rintro i E Hi hi U j O o g;(try simp only[zdh,zdb,a1,zc3,zde,Nat.reduceBEq,Nat.reduceAdd,Nat.reduceLeDiff,tyF, *]at U);(try simp only[zdh,zdb,a1,zc3,zde,Nat.reduceBEq,Nat.reduceAdd,Nat.reduceLeDiff,tyF, *]at j);(try simp only[zc6,zdm,zdK,bz,Nat.reduceAdd]at O);by_cases Z:i<l.length
 .have Y:(i:Int)<l.length:=by omega
  have hgx:l[i]?=some l[i]:=aO Z;have hnk:=C _ (dx Z);have hd:gE (l.drop i) m=if l[i].op=31/\l[i].imm=m then (l[i].kids.length:Int).tdiv 2 else gE (l.drop (i+1)) m:=by rw[eJ Z,gE]
  rw[g]at hd;clear g;generalize l[i]=n at *;have e1:IntKind.wrap .i64 ((n.kids.length:Int).tdiv 2)=(n.kids.length:Int).tdiv 2:=by
   rw[kN ac];exact zey ac ac
  by_cases W:n.op=31
  .by_cases L:n.imm=m
   .rw[ay ⟨W,L⟩]at hd;repeat' (first
     |(apply zcP ?_;clear hK K)|apply Ry.o ?_|(apply aT (fun A I=>?_) (fun A I=>?_)<;>try(cases A;done))|(apply az (fun z V=>?_) (fun z V=>?_)<;>try(cases z;done))|apply ak ?_|(apply zcQ fun K hK=>?_)|apply ax ?_|apply zcR ?_|apply am ?_|apply zc4 ?_)
    all_goals (refine⟨zcT,_,zcU,?_⟩;try simp only[zcS])
    rw[hd]
   .rw[ah (fun c=>L c.2)]at hd;repeat' (first
     |(apply zcP ?_;clear hK K)|apply Ry.o ?_|(apply aT (fun A I=>?_) (fun A I=>?_)<;>try(cases A;done))|(apply az (fun z V=>?_) (fun z V=>?_)<;>try(cases z;done))|apply ak ?_|(apply zcQ fun K hK=>?_)|apply ax ?_|apply zcR ?_|apply am ?_|apply zc4 ?_)
    refine⟨ac,eL,eL,eN,jJ,?_⟩;exact hd.symm
  .rw[ah (fun c=>W c.1)]at hd;repeat' (first
    |(apply zcP ?_;clear hK K)|apply Ry.o ?_|(apply aT (fun A I=>?_) (fun A I=>?_)<;>try(cases A;done))|(apply az (fun z V=>?_) (fun z V=>?_)<;>try(cases z;done))|apply ak ?_|(apply zcQ fun K hK=>?_)|apply ax ?_|apply zcR ?_|apply am ?_|apply zc4 ?_)
   refine⟨ac,eL,eL,eN,jJ,?_⟩;exact hd.symm
 .have Y:¬(i:Int)<l.length:=by omega
  rw[o0 ac]at g;repeat' (first
   |(apply zcP ?_;clear hK K)|apply Ry.o ?_|(apply aT (fun A I=>?_) (fun A I=>?_)<;>try(cases A;done))|(apply az (fun z V=>?_) (fun z V=>?_)<;>try(cases z;done))|apply ak ?_|(apply zcQ fun K hK=>?_)|apply ax ?_|apply zcR ?_|apply am ?_|apply zc4 ?_)
  all_goals (refine⟨zcT,_,zcU,?_⟩;try simp only[zcS])
  rw[<-g];rfl)
noncomputable def KG:En:=⟨61,false,b0 (fun x=>zeu x.1) md fun x=>.int .i64 (gE x.1 x.2)⟩
theorem zym(ρ:Nat->Int):zdF Tryz.prog ρ KG:=zdM fun x F=>zyl ρ x F
noncomputable def KH:En:=⟨62,false,b0 CQ i8 fun l=>yT (zew l l.length)⟩
theorem zyn(ρ:Nat->Int):zdF Tryz.prog ρ KH:=zdM fun l I=>zpT ρ l I
noncomputable def pw:List En:=[Ci,vK,C0,KG,C1,KH]
theorem ztL(ρ:Nat->Int):fb Tryz.prog ρ pw:=⟨Im ρ,KD ρ,zyj ρ,zym ρ,zyk ρ,zyn ρ,trivial⟩
def C2(x:VgX):Prop:=yw x/\x.g.name.length<2^60/\∀n∈x.g.nodes,NdR n
def jO(u:Un)(g:Gr):Bool:=zdC g.name&&el u g
def kW(t:List Int):List Bool:=t.map fun x=>decide (0<x)
theorem zpZ{t:List Int}{m:Nat}(h:t.length=16)(M:m<16):(kW t).getD m false=decide (0<t.getD m 0):=by
 rw[kW,cH,ea,cH,aO ac];rfl
theorem zp0{t:List Int}{m:Nat}{v:Int}(L:0<v):(kW t).set m true=kW (t.set m v):=by
 rw[kW,kW,n0,cI L]
theorem zca:ge (fun _=>false)=kW (List.replicate 16 0):=dD
theorem C3{u:Un}{g:Gr}(h:el u g=true):(0<=g.params/\g.params<=6)/\(g.nodes.length:Int)<=2000:=by
 unfold el at h;simp only[kE]at h;exact h.1.1.1
theorem KI{u:Un}{g:Gr}(h:el u g=true){i:Nat}{n:Nd}(o:g.nodes[i]?=some n):zdV g.nodes i≠0/\eO u g n=true:=by
 unfold el at h;simp only[dB]at h;have C:i<g.nodes.length:=by
  by_cases c:i<g.nodes.length
  .exact c
  .rw[fL ac]at o;cases o
 have:=fT.1 h.1.1.2 i (iY.2 C);rw[kR,o,dB,jz]at this;exact this
theorem vL{u:Un}{g:Gr}(h:el u g=true):jt g.nodes=true/\ya g.nodes=true/\zdV g.nodes g.value=1/\zdV g.nodes g.state=2/\zem g.nodes g.value=0/\zem g.nodes g.state=0:=by
 unfold el at h;simp only[kE]at h;obtain⟨⟨_,⟨⟨⟨⟨⟨zd0,a2⟩,_⟩,_⟩,_⟩,_⟩⟩,⟨⟨a3,zeh⟩,a5⟩,zfu⟩:=h;exact⟨zd0,a2,a3,zeh,a5,zfu⟩
theorem zd{l:List Nd}{i:Int}(h:zdV l i≠0):0<=i/\i<l.length:=by
 by_cases c:i<0\/(l.length:Int)<=i
 .exact absurd (by rw[zdV,ay c]) h
 .omega
theorem zcb{u:Un}{g:Gr}(o:0<=g.params)(h1:g.params<=6)(h2:(g.nodes.length:Int)<=2000)(m:∀(i:Nat) (n:Nd),g.nodes[i]?=some n->zdV g.nodes i≠0/\eO u g n=true)(U:jt g.nodes=true)(Z:ya g.nodes=true)
 (F:zdV g.nodes g.value=1) (I:zdV g.nodes g.state=2) (J:zem g.nodes g.value=0) (Y:zem g.nodes g.state=0):el u g=true:=by
 obtain⟨W,V⟩:=zd (l:=g.nodes) (i:=g.value) (by rw[F];decide);obtain⟨z,K⟩:=zd (l:=g.nodes) (i:=g.state) (by rw[I];decide);have hr:((List.range g.nodes.length).all (kR u g))=true:=fT.2 fun j O=>by
  have O:=iY.1 O;obtain⟨a,b⟩:=m j _ (aO O);rw[kR,aO O];simp only[cI a,b,qj]
 unfold el;rw[hr,U,Z,F,I,J,Y,cI o,cI h1,cI h2,cI W,cI V,cI z,cI K];rfl
theorem zp1{u:Un}{g:Gr}(h:¬(zdC g.name=true/\el u g=true)):jO u g=false:=by
 unfold jO;cases a:zdC g.name<;>cases b:el u g<;>simp_all
theorem zp2{l:List Nd}(h:∀(i:Nat) (n:Nd),l[i]?=some n->zdV l i≠0):(∀(i:Nat) (n:Nd),l[i]?=some n->NdOk n i)/\∀n∈l,(n.op=31->LoopOk n)/\(n.op=3->0<=n.imm/\n.imm<=255)/\(n.op=30->0<=n.imm):=by
 refine⟨fun i n o=>(vo o (h i n o)).1,fun n o=>?_⟩;obtain⟨j,O,e⟩:=oJ o;have A:l[j]?=some n:=by rw[aO O,e]
 obtain⟨a,b,c⟩:=vo A (h j n A);refine⟨fun e=>?_,a.lv,fun e=>(b e).1⟩;obtain⟨Z,C,Y,z⟩:=a.lp e;exact⟨Z,C,Y,z⟩
theorem ztN{l:List Nd}(h:∀(j:Nat) (n:Nd),l[j]?=some n->∀(k:Nat) (m:Nd),k<j->l[k]?=some m->m≠n):l.Nodup:=by
 refine yY.2 fun i j C O L e=>?_;exact h j _ (aO O) i _ L (aO C) e
theorem ztO{l:List Nd}(h:l.Nodup){i j:Nat}{n m:Nd}(L:i<j)(C:l[i]?=some m)(O:l[j]?=some n):m≠n:=by
 have I:j<l.length:=by
  by_cases c:j<l.length
  .exact c
  .rw[fL ac]at O;cases O
 have V:i<l.length:=ac;rw[aO V,aA]at C;rw[aO I,aA]at O;rw[<-C,<-O];exact yY.1 h i j V I L
end
section
theorem KJ:∀(l:List Nd) (seen:List (List UInt8)),l.Nodup->(∀x∈l,NdR x)->(∀x∈l,zdi seen (zdY x)=false)->zdk seen (l.map zdY)=false
 |[],_,_,_,_=>rfl
 |a::l,seen,hnd,hr,hs=>by
  rw[yK]at hnd;rw[dO,zdk,hs a e8,ji];refine KJ l _ hnd.2 (fun x F=>hr x (fl _ F)) fun x F=>?_;have e:zdi (seen++[zdY a]) (zdY x)=(zdi seen (zdY x)||zdi [zdY a] (zdY x)):=by unfold zdi;rw[vj]
  rw[e,hs x (fl _ F),ji];have A:zdi [zdY a] (zdY x)=decide (zdY a=zdY x):=by simp[zdi]
  rw[A,jG];exact fun m=>hnd.1 (by rw[JX (hr a e8) (hr x (fl _ F)) m];exact F)
theorem zyo{l:List Nd}(C:l.Nodup)(hr:∀x∈l,NdR x):jt l=true:=by
 unfold jt;rw[KJ l [] C hr fun x _=>rfl];rfl
def tyVdD.tyF:=ad @cP (ad @b7 (ad @lw (ad @dz (ad @ei (ad @fd (ad @eT (ad @mN (ad @mO (ad @ii (ad @jE (ad @kJ (ad @xo (ad @Fo (ad @mJ (@oN)))))))))))))))
open tyVdD
noncomputable def nB:{c:SC // aB 179 (Tryz.f30.body.getD .skip)=c}:=by
 refine⟨?_,?_⟩;rotate_left
 .simp only[Tryz.f30,a8,aB,zda,zc9,zdc,zdd,Nat.blt,Nat.ble];rfl
theorem KK{l:List Nd}{i:Nat}(h:i<l.length):((zew l l.length).map fun b=>[AV.lst (b.map fun x=>[AV.bool x])])[i]?=some [.lst (((zew l l.length).getD i []).map fun x=>[AV.bool x])]:=by
 have I:i<(zew l l.length).length:=by rw[pg];exact h
 rw[ea,cH,aO I];rfl
theorem KL{l:List Nd}{i:Nat}(h:i<l.length):((zew l l.length).getD i []).length=16:=by
 have:∀n,i<n->n<=l.length->((zew l n).getD i []).length=16:=by
  intro n;induction n with
  |zero=>intro h;omega
  |succ n ih=>
   intro Z g;rw[zew];by_cases e:i<n
   .rw[B7 (by rw[pg];exact e)];exact ih e ac
   .rw[B8 (by rw[pg];omega)];simp
 exact this _ h (aM _)
theorem KM{b:List Bool}{j:Nat}(h:j<b.length):(b.map fun x=>[AV.bool x])[j]?=some [.bool (b.getD j false)]:=by
 rw[ea,cH,aO h];rfl
set_option maxRecDepth 100000 in
theorem zyp(ρ:Nat->Int)(x:VgX)(hx:C2 x):bh Tryz.prog ρ 30 (mh x) (.bool (jO x.u x.g)):=zdZ fit (pls:=pls) (ztL ρ) (.cons (.agg (sA _)) (.cons (.agg (Gr.pure _)) .nil)) (.bool _) (by
 obtain⟨u,g⟩:=x;obtain⟨⟨C,hua,huf⟩,hnm,hndr⟩:=hx;have hw:Plain (zcW pls pw) 30:=zdO (fun _=>rfl) rfl;rw[mh];simp only[]at C hua huf hnm hndr⊢;have hnl:=C.1;have q16:(16:Int)≠0:=dD;have kv:∀H,zc2 Tryz.prog (zcW pls pw) 29 [.str g.name] H fun v H'=>v=.bool (zdC g.name)/\H'=H:=fun H=>zdW (enc:=kL) (out:=fun x=>.bool (zdC x)) sL (x:=g.name) rfl hnm;have ks:∀H,zc2 Tryz.prog (zcW pls pw) 60 [zd2 g.nodes] H fun v H'=>v=zdR (zds g.nodes g.nodes.length)/\H'=H:=fun H=>KE (fun _=>rfl) _ C H;obtain⟨R,Z⟩:∃R,jO u g=R:=⟨_,rfl⟩;have hF:¬(zdC g.name=true/\el u g=true)->R=false:=fun h=>by rw[<-Z];exact zp1 h
 have hT:zdC g.name=true->el u g=true->R=true:=fun h1 W=>by rw[<-Z,jO,h1,W];rfl
 rw[Z];clear Z;by_cases c0':zdC g.name=false
 .have Z:=hF (fun h=>by rw[c0']at h;exact absurd h.1 dD);refine zf (M:=179) (rs:=[.tmp 4]) (hw.call _) hw.ice hw.froz Tryz.func30 rfl rfl nB.2 rfl ?_;dsimp only[nB,zcX,Nat.reduceAdd];repeat' (first
   |(apply zcP ?_;clear hK K)|apply Ry.o ?_|(apply bq ?_;first|refine Rx.k (kv _) ?_)|(apply aT (fun A I=>?_) (fun A I=>?_)<;>try(cases A;done))|(apply az (fun z V=>?_) (fun z V=>?_)<;>try(cases z;done))|apply ak ?_|(apply zcQ fun K hK=>?_)|apply am ?_|fail)
  all_goals (refine⟨zcT,_,zcU,?_⟩;try simp only[zcS])
  rw[Z]
 have c0:zdC g.name=true:=by simpa using c0'
 clear c0';by_cases c1:g.params<0
 .have Z:=hF (fun h=>by have:=(C3 h.2).1.1;omega);refine zf (M:=179) (rs:=[.tmp 4]) (hw.call _) hw.ice hw.froz Tryz.func30 rfl rfl nB.2 rfl ?_;dsimp only[nB,zcX,Nat.reduceAdd];repeat' (first
   |(apply zcP ?_;clear hK K)|apply Ry.o ?_|(apply bq ?_;first|refine Rx.k (kv _) ?_)|(apply aT (fun A I=>?_) (fun A I=>?_)<;>try(cases A;done))|(apply az (fun z V=>?_) (fun z V=>?_)<;>try(cases z;done))|apply ak ?_|(apply zcQ fun K hK=>?_)|apply am ?_|fail)
  all_goals (refine⟨zcT,_,zcU,?_⟩;try simp only[zcS])
  rw[Z]
 by_cases c2:6<g.params
 .have Z:=hF (fun h=>by have:=(C3 h.2).1.2;omega);refine zf (M:=179) (rs:=[.tmp 4]) (hw.call _) hw.ice hw.froz Tryz.func30 rfl rfl nB.2 rfl ?_;dsimp only[nB,zcX,Nat.reduceAdd];repeat' (first
   |(apply zcP ?_;clear hK K)|apply Ry.o ?_|(apply bq ?_;first|refine Rx.k (kv _) ?_)|(apply aT (fun A I=>?_) (fun A I=>?_)<;>try(cases A;done))|(apply az (fun z V=>?_) (fun z V=>?_)<;>try(cases z;done))|apply ak ?_|(apply zcQ fun K hK=>?_)|apply am ?_|fail)
  all_goals (refine⟨zcT,_,zcU,?_⟩;try simp only[zcS])
  rw[Z]
 by_cases c3:(2000:Int)<g.nodes.length
 .have Z:=hF (fun h=>by have:=(C3 h.2).2;omega);refine zf (M:=179) (rs:=[.tmp 4]) (hw.call _) hw.ice hw.froz Tryz.func30 rfl rfl nB.2 rfl ?_;dsimp only[nB,zcX,Nat.reduceAdd];repeat' (first
   |(apply zcP ?_;clear hK K)|apply Ry.o ?_|(apply bq ?_;first|refine Rx.k (kv _) ?_)|(apply aT (fun A I=>?_) (fun A I=>?_)<;>try(cases A;done))|(apply az (fun z V=>?_) (fun z V=>?_)<;>try(cases z;done))|apply ak ?_|(apply zcQ fun K hK=>?_)|apply am ?_|fail)
  all_goals (refine⟨zcT,_,zcU,?_⟩;try simp only[zcS])
  rw[Z]
 have hsl:=zfw g.nodes g.nodes.length;refine zf (M:=179) (rs:=[.tmp 4]) (hw.call _) hw.ice hw.froz Tryz.func30 rfl rfl nB.2 rfl ?_;dsimp only[nB,zcX,Nat.reduceAdd];repeat' (first
  |(apply zcP ?_;clear hK K)|apply Ry.o ?_|(apply bq ?_;first|refine Rx.k (kv _) ?_|refine Rx.k (ks _) ?_)|(apply aT (fun A I=>?_) (fun A I=>?_)<;>try(cases A;done))|(apply az (fun z V=>?_) (fun z V=>?_)<;>try(cases z;done))|apply ak ?_|(apply zcQ fun K hK=>?_)|apply ax ?_|apply zcR ?_|fail)
 refine zdN [2,3,5] [0,1] 6 g.nodes.length (fun i E H=>∀j,j<i->zdV g.nodes j≠0) eE (fun j hj=>ac) ?_;rintro i E Hi hi hcE hrH O hsI hJ;(try simp only[zdh,zdb,a1,zc3,zde,Nat.reduceBEq, *]at hcE);(try simp only[zdh,zdb,a1,zc3,zde,Nat.reduceBEq, *]at hrH);(try simp only[zc6,zdK,bz,Nat.reduceAdd]at O);have hB0:(0 == Hi.next)=false:=zc7 ac;have hC0:(Hi.next == 0)=false:=zc7 ac;have hB1:(1 == Hi.next)=false:=zc7 ac;have hC1:(Hi.next == 1)=false:=zc7 ac;have ni:2<=Hi.next:=O
 by_cases hlt:i<g.nodes.length
 .have J:(i:Int)<g.nodes.length:=by omega
  have hsg:=yu hlt;by_cases hs0:zdV g.nodes i=0
  .have Z:=hF (fun h=>(KI h.2 (aO hlt)).1 hs0);rw[hs0]at hsg;repeat' (first
    |(apply zcP ?_;clear hK K)|apply Ry.o ?_|(apply az (fun z V=>?_) (fun z V=>?_)<;>try(cases z;done))|apply ak ?_|(apply zcQ fun K hK=>?_)|apply ax ?_|apply zcR ?_|apply am ?_|fail)
   all_goals (refine⟨zcT,_,zcU,?_⟩;try simp only[zcS])
   rw[Z]
  .repeat' (first
    |(apply zcP ?_;clear hK K)|apply Ry.o ?_|(apply az (fun z V=>?_) (fun z V=>?_)<;>try(cases z;done))|apply ak ?_|(apply zcQ fun K hK=>?_)|apply ax ?_|apply zcR ?_|fail)
   refine⟨ac,eL,eL,eN,nh,?_⟩;intro j hj;by_cases e:j=i
   .rw[e];exact hs0
   .exact hJ j ac
 have J:¬(i:Int)<g.nodes.length:=ac;have hsort:∀(j:Nat) (n:Nd),g.nodes[j]?=some n->zdV g.nodes j≠0:=fun j n h=>by
  have hj:j<g.nodes.length:=by
   by_cases c:j<g.nodes.length
   .exact c
   .rw[fL ac]at h;cases h
  exact hJ j ac
 obtain⟨hnok,hlok⟩:=zp2 hsort;clear hJ;have hmk:∀H:Hp,zeA Tryz.prog H 121 (.int .i64 16) (.int .i64 16)=some (.sl H.next 0 16 1,H.alloc (.cells ((kW (List.replicate 16 0)).map .bool) 0 true)):=fun H=>by rw[<-zca,<-Ks];exact Gu 16 ac
 have hks:∀(a b:Nd) (H:Hp),a.kids.length<2^60->zc2 Tryz.prog (zcW pls pw) 39 [.agg a.cells,.agg b.cells] H fun v H'=>v=.bool (decide (a=b))/\H'=H:=fun a b H h=>zb0 (fun _=>rfl) a b h H;have hlv:∀(m:Int) (H:Hp),zc2 Tryz.prog (zcW pls pw) 61 [zd2 g.nodes,.int .i64 m] H fun v H'=>v=.int .i64 (gE g.nodes m)/\H'=H:=fun m H=>zdW (enc:=md) (ok:=fun x=>zeu x.1) (out:=fun x=>.int .i64 (gE x.1 x.2)) Hy (x:=(g.nodes,m)) rfl C;have hro:∀(m:Int) (H:Hp),zc2 Tryz.prog (zcW pls pw) 50 [zd2 g.nodes,.int .i64 m] H fun v H'=>v=.int .i64 (zdV g.nodes m)/\H'=H:=fun m H=>zb3 (fun _=>rfl) _ _ C H;have hlk:∀n∈g.nodes,n.op=31->LoopOk n:=fun n hn=>(hlok n hn).1;repeat' (first
  |(apply zcP ?_;clear hK K)|apply Ry.o ?_|(apply az (fun z V=>?_) (fun z V=>?_)<;>try(cases z;done))|apply ak ?_|(apply zcQ fun K hK=>?_)|apply ax ?_|apply zc4 ?_)
 refine zdN [2,3,5,7] [0,1] 8 g.nodes.length (fun i E H=>∃t:List Int,t.length=16/\H.get Hi.next=some (.cells ((kW t).map .bool) 0 true)/\fQ g.nodes (List.replicate 16 0)=fQ (g.nodes.drop i) t/\∀(j:Nat) (n:Nd),j<i->g.nodes[j]?=some n->eO u g n=true/\kU g.nodes n=false/\∀(k:Nat) (m:Nd),k<j->g.nodes[k]?=some m->m≠n) eE ⟨List.replicate 16 0,aE,xU,rfl,fun j n h=>ac⟩ ?_;clear J hlt;rintro U E2 H2 hi2 hcE hrH O hsI ⟨t,ht,A,hJ1,hJ2⟩;(try simp only[zdh,zdb,a1,zc3,zde,Nat.reduceBEq, *]at hcE);(try simp only[zdh,zdb,a1,zc3,zde, *]at hrH);(try simp only[zc6,]at O);have hB0:(0 == H2.next)=false:=zc7 ac;have hC0:(H2.next == 0)=false:=zc7 ac;have hB1:(1 == H2.next)=false:=zc7 ac;have hC1:(H2.next == 1)=false:=zc7 ac;have n2:Hi.next+1<=H2.next:=O
 by_cases hlt:U<g.nodes.length
 .have J:(U:Int)<g.nodes.length:=by omega
  have hgx:g.nodes[U]?=some g.nodes[U]:=aO hlt;have hmem:=dx hlt;have hnk:=C.2 _ hmem;obtain⟨k31,k3,k30⟩:=hlok _ hmem;have hdr:fQ (g.nodes.drop U) t=if g.nodes[U].op=31 then (if 0<t.getD g.nodes[U].imm.toNat 0 then none else fQ (g.nodes.drop (U+1)) (t.set g.nodes[U].imm.toNat (dR g.nodes[U].kids.length)))else fQ (g.nodes.drop (U+1)) t:=by rw[eJ hlt,fQ]
  generalize g.nodes[U]=n at *;repeat' (first
   |(apply zcP ?_;clear hK K)|apply Ry.o ?_|apply bl ?_|(apply az (fun z V=>?_) (fun z V=>?_)<;>try(cases z;done))|apply ak ?_|(apply zcQ fun K hK=>?_)|apply ax ?_|apply zcR ?_|fail)
  generalize hHb:Hp.set (Hp.alloc _ _) _ _=Hb;have nb:H2.next+1<=Hb.next:=BR
  have gb:Hb.get Hi.next=some (.cells ((kW t).map .bool) 0 true):=by rw[<-hHb,aX,ah ac,zcY,ah ac];exact A
  have g5:Hb.get H2.next=some (.cells n.cells 0 true):=BS
  have g0:Hb.get 0=H2.get 0:=CW;have g1:Hb.get 1=H2.get 1:=CW;clear hHb A;refine zdN [2,3,5,7,8,9] [0,1] 10 U (fun k E H=>H.get Hi.next=some (.cells ((kW t).map .bool) 0 true)/\H.get H2.next=some (.cells n.cells 0 true)/\∀(k':Nat) (m:Nd),k'<k->g.nodes[k']?=some m->m≠n) eE ⟨gb,g5,fun k' m h=>ac⟩ ?_;clear gb g5;rintro k E3 H3 hk hcE hrH O hsI ⟨gb,g5,hne⟩;(try simp only[zdh,zdb,a1,zc3,zde,Nat.reduceBEq, *]at hcE);(try simp only[zdh,zdb,a1, *]at hrH);(try simp only[zc6,zdm,zdK,bz,Nat.reduceAdd]at O);have hB0:(0 == H3.next)=false:=zc7 ac;have hC0:(H3.next == 0)=false:=zc7 ac;have hB1:(1 == H3.next)=false:=zc7 ac;have hC1:(H3.next == 1)=false:=zc7 ac;have n3:H2.next+1<=H3.next:=ac
  by_cases hkt:k<U
  .have hkt':(k:Int)<U:=by omega
   have hgk:g.nodes[k]?=some g.nodes[k]:=aO ac;have hmk':=C.2 _ (dx (show k<g.nodes.length by omega));have hmn:=fun h:g.nodes[k]=n=>hF (fun hv=>ztO (ztC (fun x hx=>hndr x hx) (vL hv.2).1) hkt (by rw[hgk,h]) hgx rfl);generalize g.nodes[k]=m at *;by_cases he:m=n
   .have Z:=hmn he;have hd:decide (m=n)=true:=cI he;clear hmn he;repeat' (first
     |(apply zcP ?_;clear hK K)|apply Rx.o ?_|(apply i5 ?_;first|refine Rx.k (hks _ _ _ ac) ?_)|(apply aU (fun z V=>?_) (fun z V=>?_)<;>try(cases z;done))|apply ak ?_|(apply zcQ fun K hK=>?_)|(apply zdG 17 [(1,6),(4,6),(5,6)] fun K hK=>?_)|(apply zdB ?_;try intro _)|(apply zdJ ?_ ?_<;>clear hK K)|apply b4 ?_|apply ax ?_|apply zcR ?_|apply am ?_|fail)
    all_goals first|exact zdj|skip
    all_goals (refine⟨zcT,_,zcU,?_⟩;try simp only[zcS])
    rw[Z]
   .have hd:decide (m=n)=false:=dd he;clear hmn;repeat' (first
     |(apply zcP ?_;clear hK K)|apply Rx.o ?_|(apply i5 ?_;first|refine Rx.k (hks _ _ _ ac) ?_)|(apply aU (fun z V=>?_) (fun z V=>?_)<;>try(cases z;done))|apply ak ?_|(apply zcQ fun K hK=>?_)|(apply zdG 17 [(1,6),(4,6),(5,6)] fun K hK=>?_)|(apply zdB ?_;try intro _)|(apply zdJ ?_ ?_<;>clear hK K)|apply b4 ?_|apply ax ?_|apply zcR ?_|fail)
    all_goals first|exact zdj|skip
    refine⟨ac,eL,eL,eN,(by simp only[zc3,Nat.reduceBEq, *];exact zeX (n:=U) ac ac),?_⟩;refine⟨gb,g5,fun k' m' h1 W=>?_⟩;by_cases e:k'=k
    .rw[e,hgk,aA]at W;rw[<-W];exact he
    .exact hne k' m' ac W
  clear g0 g1;have hkt':¬(k:Int)<U:=ac;have hall:∀(k':Nat) (m:Nd),k'<U->g.nodes[k']?=some m->m≠n:=fun k' m h1 W=>hne k' m ac W;have o:eO u g n=true->kU g.nodes n=false->∀(j:Nat) (x:Nd),j<U+1->g.nodes[j]?=some x->eO u g x=true/\kU g.nodes x=false/\∀(k:Nat) (m:Nd),k<j->g.nodes[k]?=some m->m≠x:=fun h1 W j x hj hx=>by
   by_cases e:j=U
   .subst e;rw[hgx,aA]at hx;subst hx;exact⟨h1,W,hall⟩
   .exact hJ2 j x ac hx
  have F:eO u g n=false->R=false:=fun h=>hF fun hv=>by have:=(KI hv.2 hgx).2;rw[h]at this;cases this
  have hbad2:ya g.nodes=false->R=false:=fun h=>hF fun hv=>by have:=(vL hv.2).2.1;rw[h]at this;cases this
  have L:n.op≠3->kU g.nodes n=false:=fun h=>by unfold kU;rw[dd h,dX,dX]
  have Y:n.op≠31->fQ g.nodes (List.replicate 16 0)=fQ (g.nodes.drop (U+1)) t:=fun h=>by rw[hJ1,hdr,ah h]
  clear hall hne hJ2 hF hT;by_cases W:n.op=2
  .have hr:eO u g n=decide (n.imm<g.params):=by rw[eO,ay W]
   by_cases hp:g.params<=n.imm
   .have Z:=F CX;repeat' (first
     |(apply zcP ?_;clear hK K)|apply Ry.o ?_|(apply az (fun z V=>?_) (fun z V=>?_)<;>try(cases z;done))|apply ak ?_|(apply zcQ fun K hK=>?_)|apply ax ?_|apply am ?_|apply zc4 ?_)
    all_goals (refine⟨zcT,_,zcU,?_⟩;try simp only[zcS])
    rw[Z]
   .repeat' (first
     |(apply zcP ?_;clear hK K)|apply Ry.o ?_|(apply az (fun z V=>?_) (fun z V=>?_)<;>try(cases z;done))|apply ak ?_|(apply zcQ fun K hK=>?_)|apply ax ?_|apply zcR ?_|apply zc4 ?_)
    refine⟨ac,eL,eL,eN,nh,?_⟩;exact⟨t,ht,gb,Y ac,o CY (L ac)⟩
  by_cases h23:n.op=23
  .have hr:eO u g n=decide (n.imm<u.arrays.length):=by rw[eO,ah W,ay (.inl h23)]
   by_cases hp:(u.arrays.length:Int)<=n.imm
   .have Z:=F CX;clear W;repeat' (first
     |(apply zcP ?_;clear hK K)|apply Ry.o ?_|(apply az (fun z V=>?_) (fun z V=>?_)<;>try(cases z;done))|apply ak ?_|(apply zcQ fun K hK=>?_)|apply ax ?_|apply zcR ?_|apply am ?_|apply zc4 ?_)
    all_goals (refine⟨zcT,_,zcU,?_⟩;try simp only[zcS])
    rw[Z]
   .clear W;repeat' (first
     |(apply zcP ?_;clear hK K)|apply Ry.o ?_|(apply az (fun z V=>?_) (fun z V=>?_)<;>try(cases z;done))|apply ak ?_|(apply zcQ fun K hK=>?_)|apply ax ?_|apply zcR ?_|apply zc4 ?_)
    refine⟨ac,eL,eL,eN,nh,?_⟩;exact⟨t,ht,gb,Y ac,o CY (L ac)⟩
  by_cases h28:n.op=28
  .have hr:eO u g n=decide (n.imm<u.arrays.length):=by rw[eO,ah W,ay (.inr h28)]
   by_cases hp:(u.arrays.length:Int)<=n.imm
   .have Z:=F CX;clear W h23;repeat' (first
     |(apply zcP ?_;clear hK K)|apply Ry.o ?_|(apply az (fun z V=>?_) (fun z V=>?_)<;>try(cases z;done))|apply ak ?_|(apply zcQ fun K hK=>?_)|apply ax ?_|apply am ?_|apply zc4 ?_)
    all_goals (refine⟨zcT,_,zcU,?_⟩;try simp only[zcS])
    rw[Z]
   .clear W h23;repeat' (first
     |(apply zcP ?_;clear hK K)|apply Ry.o ?_|(apply az (fun z V=>?_) (fun z V=>?_)<;>try(cases z;done))|apply ak ?_|(apply zcQ fun K hK=>?_)|apply ax ?_|apply zcR ?_|apply zc4 ?_)
    refine⟨ac,eL,eL,eN,nh,?_⟩;exact⟨t,ht,gb,Y ac,o CY (L ac)⟩
  by_cases h30:n.op=30
  .obtain⟨m,hm⟩:=eI (k30 h30);have e1:IntKind.wrap .i64 ((n.kids.length:Int)-1)=(n.kids.length:Int)-1:=zey ac ac;have hr:eO u g n=(decide ((m:Int)<u.funcs.length)&&decide ((n.kids.length:Int)-1=(u.funcs.map Gr.params).getD m 0)):=by
    rw[eO,ah ac,ah ac,ay h30,hm,dQ]
   clear W h23 h28;by_cases hp:(u.funcs.length:Int)<=m
   .have Z:=F (by rw[hr,dd ac];rfl);repeat' (first
     |(apply zcP ?_;clear hK K)|apply Ry.o ?_|(apply az (fun z V=>?_) (fun z V=>?_)<;>try(cases z;done))|apply ak ?_|(apply zcQ fun K hK=>?_)|(apply zdG 28 [(1,20),(3,20),(4,20),(8,20),(9,20),(12,20),(14,20),(17,20)] fun K hK=>?_)|(apply zdB ?_;try intro _)|(apply zdJ ?_ ?_<;>clear hK K)|apply b4 ?_|(apply mT (fun A I=>?_) (fun A I=>?_)<;>try(cases A;done))|apply ax ?_|apply am ?_|apply zc4 ?_)
    all_goals first|exact zdj|skip
    all_goals (refine⟨zcT,_,zcU,?_⟩;try simp only[zcS])
    rw[Z]
   .have hgf:u.funcs[m]?=some u.funcs[m]:=aO ac;have hgp2:(u.funcs.map Gr.params).getD m 0=u.funcs[m].params:=by rw[cH,ea,hgf];rfl
    rw[hgp2]at hr;clear hgp2;generalize u.funcs[m]=q at *;by_cases hq:q.params=(n.kids.length:Int)-1
    .repeat' (first
      |(apply zcP ?_;clear hK K)|apply Ry.o ?_|(apply az (fun z V=>?_) (fun z V=>?_)<;>try(cases z;done))|apply ak ?_|(apply zcQ fun K hK=>?_)|(apply zdG 28 [(1,20),(3,20),(4,20),(8,20),(9,20),(12,20),(14,20),(17,20)] fun K hK=>?_)|(apply zdB ?_;try intro _)|(apply zdJ ?_ ?_<;>clear hK K)|apply b4 ?_|(apply mT (fun A I=>?_) (fun A I=>?_)<;>try(cases A;done))|apply ax ?_|apply zcR ?_|apply zc4 ?_)
     all_goals first|exact zdj|skip
     refine⟨ac,eL,eL,eN,nh,?_⟩;exact⟨t,ht,gb,Y ac,o (by rw[hr,cI ac,cI hq.symm];rfl) (L ac)⟩
    .have hq':¬(n.kids.length:Int)-1=q.params:=fun e=>hq e.symm;have Z:=F (by rw[hr,dd hq',o7]);clear hq;repeat' (first
      |(apply zcP ?_;clear hK K)|apply Ry.o ?_|(apply az (fun z V=>?_) (fun z V=>?_)<;>try(cases z;done))|apply ak ?_|(apply zcQ fun K hK=>?_)|(apply zdG 28 [(1,20),(3,20),(4,20),(8,20),(9,20),(12,20),(14,20),(17,20)] fun K hK=>?_)|(apply zdB ?_;try intro _)|(apply zdJ ?_ ?_<;>clear hK K)|apply b4 ?_|(apply mT (fun A I=>?_) (fun A I=>?_)<;>try(cases A;done))|apply ax ?_|apply am ?_|apply zc4 ?_)
     all_goals first|exact zdj|skip
     all_goals (refine⟨zcT,_,zcU,?_⟩;try simp only[zcS])
     rw[Z]
  have hrt:eO u g n=true:=by rw[eO,ah W,ah ac,ah h30]
  by_cases h31:n.op=31
  .have ho:=k31 h31;obtain⟨m,hm⟩:=eI ho.i0;have hm16:m<16:=by have:=ho.i1;omega
   have hixq:=yR (q:=Hi.next) hm16;have hld:=Kk gb (m:=m) (by rw[kW,cX];omega);rw[zpZ ht hm16]at hld;rw[ay h31,hm,dQ]at hdr;have hst:=CP gb (m:=m) (by rw[kW,cX];omega) true;clear W h23 h28 h30;by_cases hp:0<t.getD m 0
   .have Z:=hbad2 (zpV (by rw[hJ1,hdr,ay hp]));rw[cI hp]at hld;repeat' (first
     |(apply zcP ?_;clear hK K)|apply Ry.o ?_|(apply az (fun z V=>?_) (fun z V=>?_)<;>try(cases z;done))|apply ak ?_|(apply zcQ fun K hK=>?_)|apply ax ?_|apply am ?_|apply zc4 ?_)
    all_goals (refine⟨zcT,_,zcU,?_⟩;try simp only[zcS])
    rw[Z]
   .rw[dd hp]at hld;rw[ah hp]at hdr;repeat' (first
     |(apply zcP ?_;clear hK K)|apply Ry.o ?_|apply bl ?_|(apply az (fun z V=>?_) (fun z V=>?_)<;>try(cases z;done))|apply ak ?_|(apply zcQ fun K hK=>?_)|apply ax ?_|apply zcR ?_|apply zc4 ?_)
    refine⟨ac,eL,eL,eN,nh,?_⟩;exact⟨t.set m (dR n.kids.length),by rw[kK];exact ht,by rw[aX,ay rfl,zp0 ho.lv.2],by rw[hJ1,hdr],o hrt (L ac)⟩
  by_cases h3:n.op=3
  .obtain⟨m0,zeo⟩:=k3 h3;have hd1:IntKind.wrap .i64 (n.imm.tdiv 16)=n.imm.tdiv 16:=by rw[kN m0];exact zey ac ac
   have hd2:IntKind.wrap .i64 (n.imm.tmod 16)=n.imm.tmod 16:=by rw[Int.tmod_eq_emod_of_nonneg m0];exact zey ac ac
   have hlr:kU g.nodes n=(decide (0<gE g.nodes (n.imm.tdiv 16))&&decide (gE g.nodes (n.imm.tdiv 16)<=n.imm.tmod 16)):=by unfold kU;rw[cI h3,dq]
   have hbl:kU g.nodes n=true->R=false:=fun h=>hbad2 (zpU hlk hmem (fun _=>⟨m0,zeo⟩) h);have hkl:=hlv (n.imm.tdiv 16);clear W h23 h28 h30 h31;generalize gE g.nodes (n.imm.tdiv 16)=v at *;by_cases hv0:0<v
   .by_cases hv1:v<=n.imm.tmod 16
    .have Z:=hbl (by rw[hlr,cI hv0,cI hv1];rfl);repeat' (first
      |(apply zcP ?_;clear hK K)|apply Ry.o ?_|(apply bq ?_;first|refine Rx.k (hkl _) ?_)|(apply aT (fun A I=>?_) (fun A I=>?_)<;>try(cases A;done))|(apply az (fun z V=>?_) (fun z V=>?_)<;>try(cases z;done))|apply ak ?_|(apply zcQ fun K hK=>?_)|apply ax ?_|apply am ?_|apply zc4 ?_)
     all_goals (refine⟨zcT,_,zcU,?_⟩;try simp only[zcS])
     rw[Z]
    .repeat' (first
      |(apply zcP ?_;clear hK K)|apply Ry.o ?_|(apply bq ?_;first|refine Rx.k (hkl _) ?_)|(apply aT (fun A I=>?_) (fun A I=>?_)<;>try(cases A;done))|(apply az (fun z V=>?_) (fun z V=>?_)<;>try(cases z;done))|apply ak ?_|(apply zcQ fun K hK=>?_)|apply ax ?_|apply zcR ?_|apply zc4 ?_)
     refine⟨ac,eL,eL,eN,nh,?_⟩;exact⟨t,ht,gb,Y ac,o hrt (by rw[hlr,dd hv1,o7])⟩
   .repeat' (first
     |(apply zcP ?_;clear hK K)|apply Ry.o ?_|(apply bq ?_;first|refine Rx.k (hkl _) ?_)|(apply aT (fun A I=>?_) (fun A I=>?_)<;>try(cases A;done))|(apply az (fun z V=>?_) (fun z V=>?_)<;>try(cases z;done))|apply ak ?_|(apply zcQ fun K hK=>?_)|apply ax ?_|apply zcR ?_|apply zc4 ?_)
    refine⟨ac,eL,eL,eN,nh,?_⟩;exact⟨t,ht,gb,Y ac,o hrt (by rw[hlr,dd hv0,dX])⟩
  .repeat' (first
    |(apply zcP ?_;clear hK K)|apply Ry.o ?_|(apply az (fun z V=>?_) (fun z V=>?_)<;>try(cases z;done))|apply ak ?_|(apply zcQ fun K hK=>?_)|apply ax ?_|apply zcR ?_|apply zc4 ?_)
   refine⟨ac,eL,eL,eN,nh,?_⟩;exact⟨t,ht,gb,Y h31,o hrt (L h3)⟩
 have J:¬(U:Int)<g.nodes.length:=ac;have hie:U=g.nodes.length:=ac;have hdist:g.nodes.Nodup:=ztN fun j n hn k m h1 W=>(hJ2 j n (by
  by_cases c:j<g.nodes.length
  .omega
  .rw[fL ac]at hn;cases hn) hn).2.2 k m h1 W
 have hg1:∀(j:Nat) (n:Nd),g.nodes[j]?=some n->eO u g n=true/\kU g.nodes n=false:=fun j n hn=>by
  have hj:j<g.nodes.length:=by
   by_cases c:j<g.nodes.length
   .exact c
   .rw[fL ac]at hn;cases hn
  obtain⟨a,b,_⟩:=hJ2 j n ac hn;exact⟨a,b⟩
 have hdv:jt g.nodes=true:=zyo hdist hndr;have hvl:ya g.nodes=true:=by
  rw[hie,o0 (aM _)]at hJ1;refine znA hlk hJ1 fun n hn=>?_;obtain⟨j,hj,e⟩:=oJ hn;have hgj:g.nodes[j]?=some n:=yg;exact⟨(hlok n hn).2.1,(hg1 j n hgj).2⟩
 have hvg:zdV g.nodes g.value=1->zdV g.nodes g.state=2->zem g.nodes g.value=0->zem g.nodes g.state=0->el u g=true:=fun h6 h7 h8 h9=>zcb ac ac ac (fun j n hn=>⟨hsort j n hn,(hg1 j n hn).1⟩) hdv hvl h6 h7 h8 h9;clear hg1 hdist hdv hvl hJ1 hJ2 hie A ht;by_cases v1:zdV g.nodes g.value=1
 .by_cases s2:zdV g.nodes g.state=2
  .obtain⟨v0,vl⟩:=zd (l:=g.nodes) (i:=g.value) (by rw[v1];decide);obtain⟨s0,sl⟩:=zd (l:=g.nodes) (i:=g.state) (by rw[s2];decide);obtain⟨a,ha⟩:=eI v0;obtain⟨b,hb0⟩:=eI s0;have hal:a<g.nodes.length:=ac;have hbl:b<g.nodes.length:=ac;have hld:re g.nodes:=⟨C,hnok⟩;have khd:∀H,zc2 Tryz.prog (zcW pls pw) 62 [zd2 g.nodes] H fun v H'=>v=.lst ((zew g.nodes g.nodes.length).map fun b=>[AV.lst (b.map fun x=>[AV.bool x])])/\H'=H:=fun H=>zdW (enc:=i8) (ok:=CQ) (out:=fun l=>yT (zew l l.length)) qV (x:=g.nodes) rfl ⟨hld,ac⟩;have q1:=KK hal;have q2:=KK hbl;have l1:=KL hal;have l2:=KL hbl;have z1:zem g.nodes (a:Int)=0↔∀t,t<16->((zew g.nodes g.nodes.length).getD a []).getD t false=false:=mask_zero hnok (fun j hj=>Cc hld (aM _) hj) hal;have z2:zem g.nodes (b:Int)=0↔∀t,t<16->((zew g.nodes g.nodes.length).getD b []).getD t false=false:=mask_zero hnok (fun j hj=>Cc hld (aM _) hj) hbl;rw[ha,hb0]at hvg;rw[ha]at v1;rw[hb0]at s2;have hFm:¬(zem g.nodes a=0/\zem g.nodes b=0)->R=false:=fun h=>hF fun hv=>by
    have:=vL hv.2;rw[ha,hb0]at this;exact h ⟨this.2.2.2.2.1,this.2.2.2.2.2⟩
   rw[z1,z2]at hFm;have hTm:zem g.nodes a=0->zem g.nodes b=0->R=true:=fun h1 W=>hT c0 (hvg v1 s2 h1 W);rw[z1,z2]at hTm;clear z1 z2 hF hT hvg hnok hlok hlk v0 vl s0 sl hld;generalize (zew g.nodes g.nodes.length).getD a []=ra at *;generalize (zew g.nodes g.nodes.length).getD b []=rb at *;have kv1:=hro (a:Int);have ks2:=hro (b:Int);rw[v1]at kv1;rw[s2]at ks2;repeat' (first
    |(apply zcP ?_;clear hK K)|apply Ry.o ?_|(apply bq ?_;first|refine Rx.k (kv1 _) ?_|refine Rx.k (ks2 _) ?_|refine Rx.k (khd _) ?_)|(apply aT (fun A I=>?_) (fun A I=>?_)<;>try(cases A;done))|(apply az (fun z V=>?_) (fun z V=>?_)<;>try(cases z;done))|apply ak ?_|(apply zcQ fun K hK=>?_)|apply ax ?_|apply zcR ?_|apply zc4 ?_)
   all_goals first|exact zdj|skip
   refine zdN [3,12] [1] 13 16 (fun j E H=>∀t,t<j->ra.getD t false=false/\rb.getD t false=false) eE (fun t h=>ac) ?_;clear J;rintro j E4 H4 hj hcE hrH O hsI hJ;(try simp only[zdh,zdb,a1,zc3,zde,Nat.reduceBEq, *]at hcE);(try simp only[zdh,zdb,a1, *]at hrH);(try simp only[zc6,zdm,zdK,bz,Nat.reduceAdd]at O);have hB0:(1 == H4.next)=false:=zc7 ac;have hC0:(H4.next == 1)=false:=zc7 ac;by_cases hjt:j<16
   .have hjt':(j:Int)<16:=by omega
    have g1:=KM (b:=ra) (j:=j) ac;have g2:=KM (b:=rb) (j:=j) ac;by_cases x1:ra.getD j false=true
    .have Z:=hFm (fun h=>by have:=h.1 j hjt;rw[x1]at this;cases this);rw[x1]at g1;repeat' (first
      |(apply zcP ?_;clear hK K)|apply Ry.o ?_|(apply aT (fun A I=>?_) (fun A I=>?_)<;>try(cases A;done))|(apply az (fun z V=>?_) (fun z V=>?_)<;>try(cases z;done))|apply ak ?_|(apply zcQ fun K hK=>?_)|apply ax ?_|apply zcR ?_|apply am ?_|fail)
     all_goals (refine⟨zcT,_,zcU,?_⟩;try simp only[zcS])
     rw[Z]
    have x1':ra.getD j false=false:=by simpa using x1
    rw[x1']at g1;by_cases x2:rb.getD j false=true
    .have Z:=hFm (fun h=>by have:=h.2 j hjt;rw[x2]at this;cases this);rw[x2]at g2;repeat' (first
      |(apply zcP ?_;clear hK K)|apply Ry.o ?_|(apply aT (fun A I=>?_) (fun A I=>?_)<;>try(cases A;done))|(apply az (fun z V=>?_) (fun z V=>?_)<;>try(cases z;done))|apply ak ?_|(apply zcQ fun K hK=>?_)|apply ax ?_|apply zcR ?_|apply am ?_|fail)
     all_goals (refine⟨zcT,_,zcU,?_⟩;try simp only[zcS])
     rw[Z]
    have x2':rb.getD j false=false:=by simpa using x2
    rw[x2']at g2;clear x1 x2 hFm hTm;repeat' (first
     |(apply zcP ?_;clear hK K)|apply Ry.o ?_|(apply aT (fun A I=>?_) (fun A I=>?_)<;>try(cases A;done))|(apply az (fun z V=>?_) (fun z V=>?_)<;>try(cases z;done))|apply ak ?_|(apply zcQ fun K hK=>?_)|apply ax ?_|apply zcR ?_|fail)
    refine⟨ac,eL,eL,eN,tv,?_⟩;intro t ht;by_cases e:t=j
    .subst e;exact⟨x1',x2'⟩
    .exact hJ t ac
   .have hjt':¬(j:Int)<16:=by omega
    have Z:=hTm (fun t ht=>(hJ t ac).1) (fun t ht=>(hJ t ac).2);repeat' (first
     |(apply zcP ?_;clear hK K)|apply Ry.o ?_|(apply az (fun z V=>?_) (fun z V=>?_)<;>try(cases z;done))|apply ak ?_|(apply zcQ fun K hK=>?_)|apply am ?_|apply zc4 ?_)
    all_goals (refine⟨zcT,_,zcU,?_⟩;try simp only[zcS])
    rw[Z]
  .have Z:=hF (fun h=>s2 (vL h.2).2.2.2.1);have kv1:=hro g.value;have ks2:=hro g.state;rw[v1]at kv1;repeat' (first
    |(apply zcP ?_;clear hK K)|apply Ry.o ?_|(apply bq ?_;first|refine Rx.k (kv1 _) ?_|refine Rx.k (ks2 _) ?_)|(apply aT (fun A I=>?_) (fun A I=>?_)<;>try(cases A;done))|(apply az (fun z V=>?_) (fun z V=>?_)<;>try(cases z;done))|apply ak ?_|(apply zcQ fun K hK=>?_)|apply am ?_|apply zc4 ?_)
   all_goals first|exact zdj|skip
   all_goals (refine⟨zcT,_,zcU,?_⟩;try simp only[zcS])
   rw[Z]
 .have Z:=hF (fun h=>v1 (vL h.2).2.2.1);have kv1:=hro g.value;repeat' (first
   |(apply zcP ?_;clear hK K)|apply Ry.o ?_|(apply bq ?_;first|refine Rx.k (kv1 _) ?_)|(apply aT (fun A I=>?_) (fun A I=>?_)<;>try(cases A;done))|(apply az (fun z V=>?_) (fun z V=>?_)<;>try(cases z;done))|apply ak ?_|(apply zcQ fun K hK=>?_)|apply am ?_|apply zc4 ?_)
  all_goals first|exact zdj|skip
  all_goals (refine⟨zcT,_,zcU,?_⟩;try simp only[zcS])
  rw[Z])
end
section
def tyVdE.tyF:=ad @b7 (ad @dz (ad @eT (ad @mN (ad @mO (ad @ii (ad @jE (@kJ)))))))
open tyVdE
noncomputable def tB:{c:SC // aB 91 (Tryz.f12.body.getD .skip)=c}:=by
 refine⟨?_,?_⟩;rotate_left
 .simp only[Tryz.f12,a8,aB,zda,zc9,zdc,zdd,Nat.blt,Nat.ble];rfl
theorem KN:∀(l seen:List zdE),zdk seen l=false->l.Nodup/\∀x∈l,zdi seen x=false
 |[],seen,_=>⟨List.nodup_nil,fun x F=>by simp at F⟩
 |a::l,seen,h=>by
  rw[zdk]at h;have Y:zdi seen a=false/\zdk (seen++[a]) l=false:=by
   cases Z:zdi seen a<;>simp_all
  obtain⟨i,g⟩:=KN l _ Y.2;refine⟨yK.2 ⟨fun M=>?_,i⟩,fun x F=>?_⟩
  .have:=g a M;simp[zdi]at this
  .rcases fk.1 F with rfl|F
   .exact Y.1
   .have:=g x F;simp only[zdi,vj,lb]at this⊢;exact this.1
theorem KO:∀(l seen:List zdE),l.Nodup->(∀x∈l,zdi seen x=false)->zdk seen l=false
 |[],_,_,_=>rfl
 |a::l,seen,h,hs=>by
  obtain⟨i,g⟩:=yK.1 h;rw[zdk,hs a e8];have:=KO l (seen++[a]) g fun x F=>by
   have m:=hs x (fl _ F);have U:x≠a:=fun e=>i (e▸F);simp only[zdi,vj,lb]at m⊢;refine⟨m,?_⟩;have Z:¬a=x:=fun e=>U e.symm;simp[Z]
  rw[this];rfl
theorem KP(l:List zdE):zdk [] l=false↔l.Nodup:=⟨fun h=>(KN l [] h).1,fun h=>KO l [] h fun x _=>by simp[zdi]⟩
theorem KQ{M:Type}(f:M->zdE){l:List M}(h:∀(j:Nat) (a:M),l[j]?=some a->∀(k:Nat) (b:M),k<j->l[k]?=some b->f b≠f a):zdk [] (l.map f)=false:=by
 rw[KP];refine yY.2 fun i j C O L e=>?_;simp only[cX]at C O;simp only[List.getElem_map]at e;exact h j _ (aO O) i _ L (aO C) e
theorem KR{M:Type}(f:M->zdE){l:List M}(h:zdk [] (l.map f)=false){i j:Nat}{a b:M}(L:i<j)(C:l[i]?=some a)(O:l[j]?=some b):f a≠f b:=by
 rw[KP]at h;have I:j<l.length:=by
  by_cases c:j<l.length
  .exact c
  .rw[fL ac]at O;cases O
 have V:i<l.length:=ac;rw[aO V,aA]at C;rw[aO I,aA]at O;have:=yY.1 h i j (by rw[cX];exact V) AM L;simp only[List.getElem_map]at this;rw[<-C,<-O];exact this
structure UnOkR (u:Un):Prop where
 ok:UnOk u
 r:∀g∈u.funcs,∀n∈g.nodes,NdR n
theorem tC{u:Un}(h:f9 u=true):((u.arrays.length:Int)<=4/\(u.funcs.length:Int)<=8)/\(∀a∈u.arrays,kT a=true)/\zdk [] (u.arrays.map Ar.name)=false/\zdk [] (u.funcs.map Gr.name)=false/\∀g∈u.funcs,jO u g=true:=by
 rw[f9,Ku]at h;unfold yU at h;simp only[kE,lS,fT]at h;obtain⟨⟨⟨i,Z,m⟩,U,Y⟩,F⟩:=h;exact⟨i,Z,m,Y,fun g A=>by rw[jO,U g A,F g A];rfl⟩
theorem zyq{u:Un}(h1:(u.arrays.length:Int)<=4)(h2:(u.funcs.length:Int)<=8)(m:∀a∈u.arrays,kT a=true)(U:zdk [] (u.arrays.map Ar.name)=false)(i:zdk [] (u.funcs.map Gr.name)=false)(F:∀g∈u.funcs,jO u g=true):f9 u=true:=by
 rw[f9,Ku];unfold yU;have I:∀g∈u.funcs,zdC g.name=true/\el u g=true:=fun g A=>by
  have:=F g A;rw[jO,dB]at this;exact this
 simp only[kE,lS,fT];exact⟨⟨⟨⟨h1,h2⟩,m,U⟩,fun g A=>(I g A).1,i⟩,fun g A=>(I g A).2⟩
noncomputable def KS:En:=⟨30,false,b0 C2 mh fun x=>.bool (jO x.u x.g)⟩
theorem zyr(ρ:Nat->Int):zdF Tryz.prog ρ KS:=zdM fun x F=>zyp ρ x F
noncomputable def ze:List En:=[Ci,KS]
theorem ztP(ρ:Nat->Int):fb Tryz.prog ρ ze:=⟨Im ρ,zyr ρ,trivial⟩
theorem KT{M:Type}{l:List M}{j:Nat}{a:M}(h:l[j]?=some a):j<l.length:=by
 by_cases c:j<l.length
 .exact c
 .rw[fL ac]at h;cases h
set_option maxRecDepth 100000 in
theorem zlY(ρ:Nat->Int)(u:Un)(hu:UnOkR u):bh Tryz.prog ρ 12 [.agg u.cells] (.bool (f9 u)):=zdZ fit (pls:=pls) (ztP ρ) (.cons (.agg (sA _)) .nil) (.bool _) (by
 obtain⟨⟨ha,hf,A,hz⟩,hr⟩:=hu;have hw:Plain (zcW pls ze) 12:=zdO (fun _=>rfl) rfl;have hpz:(gD u).sz=1+jC u.arrays+jX (u.funcs.map fF):=rfl;have hna:∀a∈u.arrays,a.name.length<2^60:=fun a o=>by have:=Cj o;omega
 have hnf:∀g∈u.funcs,g.name.length<2^60:=fun g o=>by
  have h1:=so (List.mem_map_of_mem (f:=fF) o);have W:(fF g).sz=1+g.name.length+zeJ []+zeJ []+zeO []+(fF g).value.sz:=rfl;omega
 have kv:∀s:zdE,s.length<2^60->∀H,zc2 Tryz.prog (zcW pls ze) 29 [.str s] H fun v H'=>v=.bool (zdC s)/\H'=H:=fun s hs H=>zdW (enc:=kL) (out:=fun x=>.bool (zdC x)) sL (x:=s) rfl hs;have kg:∀g,g∈u.funcs->∀H,zc2 Tryz.prog (zcW pls ze) 30 [.agg u.cells,.agg g.cells] H fun v H'=>v=.bool (jO u g)/\H'=H:=fun g o H=>zdW (enc:=mh) (ok:=C2) (out:=fun x=>.bool (jO x.u x.g)) IL (x:=⟨u,g⟩) rfl ⟨⟨A g o,ha,hf⟩,hnf g o,hr g o⟩;obtain⟨R,Z⟩:∃R,f9 u=R:=⟨_,rfl⟩;have hF:¬f9 u=true->R=false:=fun h=>by rw[<-Z];simpa using h
 have hT:f9 u=true->R=true:=fun h=>by rw[<-Z];exact h
 rw[Z];clear Z hpz hz;by_cases c1:(4:Int)<u.arrays.length
 .have Z:=hF (fun h=>by have:=(tC h).1.1;omega);refine zf (M:=91) (rs:=[.tmp 2]) (hw.call _) hw.ice hw.froz Tryz.func12 rfl rfl tB.2 rfl ?_;dsimp only[tB,zcX,Nat.reduceAdd];repeat' (first
   |(apply zcP ?_;clear hK K)|apply Ry.o ?_|(apply aT (fun A I=>?_) (fun A I=>?_)<;>try(cases A;done))|(apply az (fun z V=>?_) (fun z V=>?_)<;>try(cases z;done))|apply ak ?_|(apply zcQ fun K hK=>?_)|apply am ?_|fail)
  all_goals (refine⟨zcT,_,zcU,?_⟩;try simp only[zcS])
  rw[Z]
 by_cases c2:(8:Int)<u.funcs.length
 .have Z:=hF (fun h=>by have:=(tC h).1.2;omega);refine zf (M:=91) (rs:=[.tmp 2]) (hw.call _) hw.ice hw.froz Tryz.func12 rfl rfl tB.2 rfl ?_;dsimp only[tB,zcX,Nat.reduceAdd];repeat' (first
   |(apply zcP ?_;clear hK K)|apply Ry.o ?_|(apply aT (fun A I=>?_) (fun A I=>?_)<;>try(cases A;done))|(apply az (fun z V=>?_) (fun z V=>?_)<;>try(cases z;done))|apply ak ?_|(apply zcQ fun K hK=>?_)|apply am ?_|fail)
  all_goals (refine⟨zcT,_,zcU,?_⟩;try simp only[zcS])
  rw[Z]
 refine zf (M:=91) (rs:=[.tmp 2]) (hw.call _) hw.ice hw.froz Tryz.func12 rfl rfl tB.2 rfl ?_;dsimp only[tB,zcX,Nat.reduceAdd];repeat' (first
  |(apply zcP ?_;clear hK K)|apply Ry.o ?_|(apply aT (fun A I=>?_) (fun A I=>?_)<;>try(cases A;done))|(apply az (fun z V=>?_) (fun z V=>?_)<;>try(cases z;done))|apply ak ?_|(apply zcQ fun K hK=>?_)|apply ax ?_|apply zcR ?_|fail)
 refine zdN [1] [0] 3 u.arrays.length (fun i E H=>∀(j:Nat) (a:Ar),j<i->u.arrays[j]?=some a->kT a=true/\∀(k:Nat) (b:Ar),k<j->u.arrays[k]?=some b->b.name≠a.name) eE (fun j a h=>ac) ?_;rintro i E Hi hi U O m hsI hJ;(try simp only[zdh,zdb,a1,zc3,zde,Nat.reduceBEq, *]at U);(try simp only[zdh,zdb,a1,zc3,zde, *]at O);(try simp only[zc6,zdK,bz]at m);have hB0:(0 == Hi.next)=false:=zc7 ac;have hC0:(Hi.next == 0)=false:=zc7 ac;have ni:1<=Hi.next:=m
 by_cases F:i<u.arrays.length
 .have L:(i:Int)<u.arrays.length:=by omega
  have hgx:u.arrays[i]?=some u.arrays[i]:=aO F;have Y:=dx F;have hnm:=hna _ Y;generalize u.arrays[i]=a at *;have hbad:kT a=false->R=false:=fun h=>hF fun hv=>by have:=(tC hv).2.1 a Y;rw[h]at this;cases this
  by_cases d0':zdC a.name=false
  .have Z:=hbad (by rw[kT,d0'];rfl);repeat' (first
    |(apply zcP ?_;clear hK K)|apply Ry.o ?_|apply bl ?_|(apply bq ?_;first|refine Rx.k (kv _ hnm _) ?_)|(apply aT (fun A I=>?_) (fun A I=>?_)<;>try(cases A;done))|(apply az (fun z V=>?_) (fun z V=>?_)<;>try(cases z;done))|apply ak ?_|(apply zcQ fun K hK=>?_)|apply ax ?_|apply zcR ?_|apply am ?_|fail)
   all_goals first|exact zdj|skip
   all_goals (refine⟨zcT,_,zcU,?_⟩;try simp only[zcS])
   rw[Z]
  have d0:zdC a.name=true:=by simpa using d0'
  clear d0';by_cases d1:a.len<1
  .have Z:=hbad (by rw[kT,dd (show ¬1<=a.len by omega)];simp);repeat' (first
    |(apply zcP ?_;clear hK K)|apply Ry.o ?_|apply bl ?_|(apply bq ?_;first|refine Rx.k (kv _ hnm _) ?_)|(apply aT (fun A I=>?_) (fun A I=>?_)<;>try(cases A;done))|(apply az (fun z V=>?_) (fun z V=>?_)<;>try(cases z;done))|apply ak ?_|(apply zcQ fun K hK=>?_)|apply ax ?_|apply zcR ?_|apply am ?_|fail)
   all_goals first|exact zdj|skip
   all_goals (refine⟨zcT,_,zcU,?_⟩;try simp only[zcS])
   rw[Z]
  by_cases d2:16<a.len
  .have Z:=hbad (by rw[kT,dd (show ¬a.len<=16 by omega)];simp);repeat' (first
    |(apply zcP ?_;clear hK K)|apply Ry.o ?_|apply bl ?_|(apply bq ?_;first|refine Rx.k (kv _ hnm _) ?_)|(apply aT (fun A I=>?_) (fun A I=>?_)<;>try(cases A;done))|(apply az (fun z V=>?_) (fun z V=>?_)<;>try(cases z;done))|apply ak ?_|(apply zcQ fun K hK=>?_)|apply ax ?_|apply zcR ?_|apply am ?_|fail)
   all_goals first|exact zdj|skip
   all_goals (refine⟨zcT,_,zcU,?_⟩;try simp only[zcS])
   rw[Z]
  have hda:kT a=true:=by rw[kT,d0,cI (show 1<=a.len by omega),cI (show a.len<=16 by omega)];rfl
  repeat' (first
   |(apply zcP ?_;clear hK K)|apply Ry.o ?_|apply bl ?_|(apply bq ?_;first|refine Rx.k (kv _ hnm _) ?_)|(apply aT (fun A I=>?_) (fun A I=>?_)<;>try(cases A;done))|(apply az (fun z V=>?_) (fun z V=>?_)<;>try(cases z;done))|apply ak ?_|(apply zcQ fun K hK=>?_)|apply ax ?_|apply zcR ?_|fail)
  all_goals first|exact zdj|skip
  generalize hHb:Hp.set (Hp.alloc _ _) _ _=Hb;have nb:Hi.next+1<=Hb.next:=BR
  have g5:Hb.get Hi.next=some (.cells a.cells 0 true):=BS
  have g0:Hb.get 0=Hi.get 0:=CW;clear hHb;refine zdN [1,3,4] [0] 5 i (fun k E H=>H.get Hi.next=some (.cells a.cells 0 true)/\∀(k':Nat) (b:Ar),k'<k->u.arrays[k']?=some b->b.name≠a.name) eE ⟨g5,fun k' b h=>ac⟩ ?_;clear g5;rintro k E3 H3 hk U O m hsI ⟨g5,hne⟩;(try simp only[zdh,zdb,a1,zc3,zde,Nat.reduceBEq, *]at U);(try simp only[zdh,zdb,a1, *]at O);(try simp only[zc6,zdm,zdK,bz,Nat.reduceAdd]at m);have hB0:(0 == H3.next)=false:=zc7 ac;have hC0:(H3.next == 0)=false:=zc7 ac;have n3:Hi.next+1<=H3.next:=ac
  by_cases hkt:k<i
  .have hkt':(k:Int)<i:=by omega
   have hgk:u.arrays[k]?=some u.arrays[k]:=aO ac;have J:=fun h:u.arrays[k].name=a.name=>hF (fun hv=>KR Ar.name (tC hv).2.2.1 hkt hgk hgx h);generalize u.arrays[k]=b at *;by_cases he:b.name=a.name
   .have Z:=J he;clear J;repeat' (first
     |(apply zcP ?_;clear hK K)|apply Ry.o ?_|(apply az (fun z V=>?_) (fun z V=>?_)<;>try(cases z;done))|apply ak ?_|(apply zcQ fun K hK=>?_)|(apply zdG 12 [(1,9),(5,9),(7,9)] fun K hK=>?_)|(apply zdB ?_;try intro _)|(apply zdJ ?_ ?_<;>clear hK K)|apply b4 ?_|apply ax ?_|apply zcR ?_|apply am ?_|fail)
    all_goals first|exact zdj|skip
    all_goals (refine⟨zcT,_,zcU,?_⟩;try simp only[zcS])
    rw[Z]
   .clear J;repeat' (first
     |(apply zcP ?_;clear hK K)|apply Ry.o ?_|(apply az (fun z V=>?_) (fun z V=>?_)<;>try(cases z;done))|apply ak ?_|(apply zcQ fun K hK=>?_)|(apply zdG 12 [(1,9),(5,9),(7,9)] fun K hK=>?_)|(apply zdB ?_;try intro _)|(apply zdJ ?_ ?_<;>clear hK K)|apply b4 ?_|apply ax ?_|apply zcR ?_|fail)
    all_goals first|exact zdj|skip
    refine⟨ac,eL,eL,eN,(by simp only[zc3,Nat.reduceBEq, *];exact zeX (n:=i) ac ac),?_⟩;refine⟨g5,fun k' b' h1 W=>?_⟩;by_cases e:k'=k
    .rw[e,hgk,aA]at W;rw[<-W];exact he
    .exact hne k' b' ac W
  clear g0;have hkt':¬(k:Int)<i:=ac;repeat' (first
   |(apply zcP ?_;clear hK K)|apply Ry.o ?_|(apply az (fun z V=>?_) (fun z V=>?_)<;>try(cases z;done))|apply ak ?_|(apply zcQ fun K hK=>?_)|apply zc4 ?_)
  refine⟨ac,eL,eL,eN,Jp,?_⟩;intro j x hj hx;by_cases e:j=i
  .subst e;rw[hgx,aA]at hx;subst hx;exact⟨hda,fun k' b h1 W=>hne k' b ac W⟩
  .exact hJ j x ac hx
 have L:¬(i:Int)<u.arrays.length:=ac;have ha1:∀a∈u.arrays,kT a=true:=fun a o=>by
  obtain⟨j,hj,e⟩:=oJ o;exact(hJ j a ac yg).1
 have ha2:zdk [] (u.arrays.map Ar.name)=false:=KQ Ar.name fun j a h k b h1 W=>(hJ j a (by have:=KT h;omega) h).2 k b h1 W;clear hJ;repeat' (first
  |(apply zcP ?_;clear hK K)|apply Ry.o ?_|(apply az (fun z V=>?_) (fun z V=>?_)<;>try(cases z;done))|apply ak ?_|(apply zcQ fun K hK=>?_)|apply ax ?_|apply zc4 ?_)
 refine zdN [1] [0] 6 u.funcs.length (fun i E H=>∀(j:Nat) (a:Gr),j<i->u.funcs[j]?=some a->jO u a=true/\∀(k:Nat) (b:Gr),k<j->u.funcs[k]?=some b->b.name≠a.name) eE (fun j a h=>ac) ?_;clear F L;rintro C E2 H2 hi2 U O m hsI hJ;(try simp only[zdh,zdb,a1,zc3,Nat.reduceBEq, *]at U);(try simp only[zdh,zdb,a1, *]at O);(try simp only[zc6,zdm,zdK,bz,Nat.reduceAdd]at m);have hB0:(0 == H2.next)=false:=zc7 ac;have hC0:(H2.next == 0)=false:=zc7 ac;have n2:1<=H2.next:=ac
 by_cases F:C<u.funcs.length
 .have L:(C:Int)<u.funcs.length:=by omega
  have hgx:u.funcs[C]?=some u.funcs[C]:=aO F;have Y:=dx F;have kga:=kg _ Y;generalize u.funcs[C]=a at *;repeat' (first
   |(apply zcP ?_;clear hK K)|apply Ry.o ?_|(apply az (fun z V=>?_) (fun z V=>?_)<;>try(cases z;done))|apply ak ?_|(apply zcQ fun K hK=>?_)|apply ax ?_|apply zcR ?_|fail)
  refine zdN [1,6] [0] 7 C (fun k E H=>∀(k':Nat) (b:Gr),k'<k->u.funcs[k']?=some b->b.name≠a.name) eE (fun k' b h=>ac) ?_;rintro k E3 H3 hk U O m hsI hne;(try simp only[zdh,zdb,a1,zc3,Nat.reduceBEq, *]at U);(try simp only[zdh,zdb,a1, *]at O);(try simp only[zc6,zdm,zdK,bz,Nat.reduceAdd]at m);have hB0:(0 == H3.next)=false:=zc7 ac;have hC0:(H3.next == 0)=false:=zc7 ac;have n3:1<=H3.next:=ac
  by_cases hkt:k<C
  .have hkt':(k:Int)<C:=by omega
   have hgk:u.funcs[k]?=some u.funcs[k]:=aO ac;have J:=fun h:u.funcs[k].name=a.name=>hF (fun hv=>KR Gr.name (tC hv).2.2.2.1 hkt hgk hgx h);generalize u.funcs[k]=b at *;by_cases he:b.name=a.name
   .have Z:=J he;clear J;repeat' (first
     |(apply zcP ?_;clear hK K)|apply Ry.o ?_|(apply az (fun z V=>?_) (fun z V=>?_)<;>try(cases z;done))|apply ak ?_|(apply zcQ fun K hK=>?_)|(apply zdG 20 [(1,13),(5,13),(7,13),(11,13)] fun K hK=>?_)|(apply zdB ?_;try intro _)|(apply zdJ ?_ ?_<;>clear hK K)|apply b4 ?_|apply ax ?_|apply zcR ?_|apply am ?_|fail)
    all_goals first|exact zdj|skip
    all_goals (refine⟨zcT,_,zcU,?_⟩;try simp only[zcS])
    rw[Z]
   .clear J;repeat' (first
     |(apply zcP ?_;clear hK K)|apply Ry.o ?_|(apply az (fun z V=>?_) (fun z V=>?_)<;>try(cases z;done))|apply ak ?_|(apply zcQ fun K hK=>?_)|(apply zdG 20 [(1,13),(5,13),(7,13),(11,13)] fun K hK=>?_)|(apply zdB ?_;try intro _)|(apply zdJ ?_ ?_<;>clear hK K)|apply b4 ?_|apply ax ?_|apply zcR ?_|fail)
    all_goals first|exact zdj|skip
    refine⟨ac,eL,eL,eN,(by simp only[zc3,Nat.reduceBEq, *];exact zeX (n:=C) ac ac),?_⟩;intro k' b' h1 W;by_cases e:k'=k
    .rw[e,hgk,aA]at W;rw[<-W];exact he
    .exact hne k' b' ac W
  have hkt':¬(k:Int)<C:=ac;by_cases hv:jO u a=true
  .repeat' (first
    |(apply zcP ?_;clear hK K)|apply Ry.o ?_|(apply bq ?_;first|refine Rx.k (kga _) ?_)|(apply az (fun z V=>?_) (fun z V=>?_)<;>try(cases z;done))|apply ak ?_|(apply zcQ fun K hK=>?_)|(apply zdG 22 [(0,6),(2,6),(5,6)] fun K hK=>?_)|(apply zdB ?_;try intro _)|(apply zdJ ?_ ?_<;>clear hK K)|apply b4 ?_|apply zcR ?_|apply zc4 ?_)
   all_goals first|exact zdj|skip
   refine⟨ac,eL,eL,eN,tn,?_⟩;intro j x hj hx;by_cases e:j=C
   .subst e;rw[hgx,aA]at hx;subst hx;exact⟨hv,fun k' b h1 W=>hne k' b ac W⟩
   .exact hJ j x ac hx
  .have hv':jO u a=false:=by simpa using hv
   have Z:=hF (fun h=>hv ((tC h).2.2.2.2 a Y));clear hv;repeat' (first
    |(apply zcP ?_;clear hK K)|apply Ry.o ?_|(apply bq ?_;first|refine Rx.k (kga _) ?_)|(apply az (fun z V=>?_) (fun z V=>?_)<;>try(cases z;done))|apply ak ?_|(apply zcQ fun K hK=>?_)|(apply zdG 22 [(0,6),(2,6),(5,6)] fun K hK=>?_)|(apply zdB ?_;try intro _)|(apply zdJ ?_ ?_<;>clear hK K)|apply b4 ?_|apply am ?_|apply zc4 ?_)
   all_goals first|exact zdj|skip
   all_goals (refine⟨zcT,_,zcU,?_⟩;try simp only[zcS])
   rw[Z]
 have L:¬(C:Int)<u.funcs.length:=ac;have Z:=hT (zyq ac ac ha1 ha2 (KQ Gr.name fun j a h k b h1 W=>(hJ j a (by have:=KT h;omega) h).2 k b h1 W) fun g o=>by
  obtain⟨j,hj,e⟩:=oJ o;exact(hJ j g ac yg).1)
 repeat' (first
  |(apply zcP ?_;clear hK K)|apply Ry.o ?_|(apply az (fun z V=>?_) (fun z V=>?_)<;>try(cases z;done))|apply ak ?_|(apply zcQ fun K hK=>?_)|apply am ?_|apply zc4 ?_)
 all_goals (refine⟨zcT,_,zcU,?_⟩;try simp only[zcS])
 rw[Z])
noncomputable def C4:En:=⟨12,true,b0 UnOkR (fun u=>[.agg u.cells]) fun u=>.bool (f9 u)⟩
theorem zys(ρ:Nat->Int):zdF Tryz.prog ρ C4:=zdM fun u I=>zlY ρ u I
end
section
def tySameO.tyF:=ad @cP (ad @b7 (ad @ly (@A3)))
open tySameO
noncomputable def KU:{c:SC // aB 52 (Tryz.f13.body.getD .skip)=c}:=by
 refine⟨?_,?_⟩;rotate_left
 .simp only[Tryz.f13,a8,aB,zda,zc9,zdc,zdd,Nat.blt,Nat.ble];rfl
theorem KV(o:Oc):ee (cR o):=.agg (.cons (.int _ _) (.cons (.int _ _) (.cons (AQ _) (.cons (.int _ _) .nil))))
set_option maxRecDepth 100000 in
theorem ztR(ρ:Nat->Int)(o:Oc)(O:o.out.length<2^60):bh Tryz.prog ρ 13 [cR o,cR o] (.bool true):=zdZ fit (pls:=pls) (l:=[]) trivial (.cons (KV o) (.cons (KV o) .nil)) (.bool _) (by
 have J:=zed 13;obtain⟨k,c,Z,val⟩:=o;rw[cR,zeT];simp only at O⊢;have U:(Z.map fun n=>[AV.int .i64 n]).length=Z.length:=aE;refine zf (M:=52) (rs:=[.tmp 4]) (J.call _) J.ice J.froz Tryz.func13 rfl rfl KU.2 rfl ?_;dsimp only[KU,zcX,Nat.reduceAdd];repeat' (first
  |(apply zcP ?_;clear hK K)|apply Rx.o ?_|(apply bW (fun A I=>?_) (fun A I=>?_)<;>try(cases A;done))|(apply aU (fun z V=>?_) (fun z V=>?_)<;>try(cases z;done))|apply ak ?_|(apply zcQ fun K hK=>?_)|(apply zdG 6 [(1,11),(4,11),(6,11),(9,11)] fun K hK=>?_)|(apply zdB ?_;try intro _)|(apply zdJ ?_ ?_<;>clear hK K)|apply b4 ?_|apply ax ?_|apply zcR ?_|apply am ?_|apply zc4 ?_)
 refine zdN [2,3] [0,1] 5 Z.length (fun i E H=>True) eE trivial ?_;rintro i E C g Y j m L hJ;(try simp only[zdh,zdb,a1,zc3,zde,Nat.reduceBEq,Nat.reduceAdd,Nat.reduceLeDiff,tyF, *]at Y);(try simp only[zdh,zdb,a1,zc3,zde,Nat.reduceBEq,Nat.reduceAdd,Nat.reduceLeDiff,tyF, *]at j);(try simp only[zc6,zdm,zdK,bz,Nat.reduceAdd]at m);repeat' (first
  |(apply zcP ?_;clear hK K)|apply Rx.o ?_|(apply bW (fun A I=>?_) (fun A I=>?_)<;>try(cases A;done))|(apply aU (fun z V=>?_) (fun z V=>?_)<;>try(cases z;done))|apply ak ?_|(apply zcQ fun K hK=>?_)|(apply zdG 6 [(1,11),(4,11),(6,11),(9,11)] fun K hK=>?_)|(apply zdB ?_;try intro _)|(apply zdJ ?_ ?_<;>clear hK K)|apply b4 ?_|apply ax ?_|apply zcR ?_|apply am ?_|apply zc4 ?_)
 .have W:i<Z.length:=by simpa using z
  have F:(Z.map fun n=>[AV.int .i64 n])[i]?=some [.int .i64 Z[i]]:=by rw[ea,aO W];rfl
  obtain⟨g0,g1⟩:=j;repeat' (first
   |(apply zcP ?_;clear hK K)|apply Rx.o ?_|(apply bW (fun A I=>?_) (fun A I=>?_)<;>try(cases A;done))|(apply aU (fun z V=>?_) (fun z V=>?_)<;>try(cases z;done))|apply ak ?_|(apply zcQ fun K hK=>?_)|(apply zdG 6 [(1,11),(4,11),(6,11),(9,11)] fun K hK=>?_)|(apply zdB ?_;try intro _)|(apply zdJ ?_ ?_<;>clear hK K)|apply b4 ?_|apply ax ?_|apply zcR ?_|apply am ?_|apply zc4 ?_)
  .exact zdj
  .refine⟨ac,eL,eL,eN,(by simp only[zc3,Nat.reduceBEq, *];exact zeX (n:=Z.length) ac ac),?_⟩;trivial
 .all_goals (refine⟨zcT,_,zcU,?_⟩;try simp only[zcS]))
end
end Go.Proofs.YtljebeflbbgibaaGreat
