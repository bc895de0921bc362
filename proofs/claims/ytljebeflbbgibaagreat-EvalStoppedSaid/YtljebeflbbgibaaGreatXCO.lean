/- Parts: K2b, K2, K3, K5, K9, VdC, VlB, VdD, VdE, SameO. -/
import Derived.Test.YtljebeflbbgibaaGreatXCN
set_option linter.unusedSimpArgs false
set_option linter.unusedVariables false
set_option linter.unusedSectionVars false
set_option linter.defProp false
set_option maxHeartbeats 32000000
namespace Go.Ab
set_option maxRecDepth 20000
open Go
theorem za{P:Prop}(h:P:=by rw[F];exact s5):P:=h
theorem CS{P:Prop}(h:P:=by rw[<- hHb,Hp.get_set,if_neg ac,zdq,if_neg ac]):P:=h
theorem CT{P:Prop}(h:P:=by rw[hr,decide_eq_false ac]):P:=h
theorem CU{P:Prop}(h:P:=by rw[hr,decide_eq_true ac]):P:=h
def zb:=@List.pairwise_iff_getElem
end Go.Ab
namespace Go.Proofs.YtljebeflbbgibaaGreat
set_option maxRecDepth 20000
open Go Go.Ab
section
def tyK2b.tyF:=ad @cN (ad @b9 (ad @ea (ad @eV (ad @eO (ad @mB (ad @mC (ad @qk (@mZ))))))))
open tyK2b
theorem zt2(s:List Int){a b:Nat}(h1:a<=b)(h2:b<=s.length):jk Tryz.prog 23 (.lst (s.map fun n=>[AV.int .i64 n])) (some (.int .i64 (a:Int))) (some (.int .i64 (b:Int)))=some (.lst (((s.drop a).take (b-a)).map fun n=>[AV.int .i64 n])):=by
 have Z:(a:Int)=Int.ofNat a:=rfl;have C:(b:Int)=Int.ofNat b:=rfl;simp only[jk,Tryz.underlying23,ju,Z,C,ze1];rw[az ⟨h1,by rw[cE];exact h2⟩,<-List.map_drop,<-zH];cases (s.drop a).take (b-a)with
 |nil=>rfl
 |cons x l=>rfl
theorem zyC(s:List Int){a:Nat}(h1:a<=s.length):jk Tryz.prog 23 (.lst (s.map fun n=>[AV.int .i64 n])) (some (.int .i64 (a:Int))) none=some (.lst ((s.drop a).map fun n=>[AV.int .i64 n])):=by
 have Z:(a:Int)=Int.ofNat a:=rfl;simp only[jk,Tryz.underlying23,ju,Z,ze1];rw[az ⟨by rw[cE];exact h1,aM _⟩,eJ aB,<-List.map_drop];cases s.drop a with
 |nil=>rfl
 |cons x l=>rfl
theorem zcg{l:List Nd}{imm:Int}{V k:List Int}(hkb:k.length<2^30)(him:zen 31 imm=true)(i:zdU l ⟨31,imm,V⟩ k=zd1 (decide (k.length%2=1)&&decide (1<=k.length/2)&&decide (k.length/2<=16)&&decide (k.headD 0=2)&&zd4 ((k.drop 1).take (k.length/2))&&decide (k.getD (k.length/2+1) 0=2)&&zd4 (k.drop (k.length/2+2))) 3):
 zdw Tryz.prog (zdp pls pN) 97 [zeu l,.agg [.int .i64 31,.int .i64 imm,zel V],zel k] zd3 fun v _=>v=.int .i64 (zdU l ⟨31,imm,V⟩ k):=by
 have J:Plain (zdp pls pN) 97:=zej (fun _=>rfl) rfl;have hq2:(2:Int)≠0:=dk;have hv:ez 31=.tup [.int .i64 (-1),.bool true]:=rfl;have e1:IntKind.wrap .i64 ((k.length:Int).tdiv 2)=((k.length/2:Nat):Int):=by
  rw[kV ac,ze3 ac ac];omega
 have U:(k.length:Int).tmod 2=((k.length%2:Nat):Int):=Gb;by_cases hc:k.length%2=1/\1<=k.length/2/\k.length/2<=16
 .obtain⟨h1,g,o⟩:=hc;have e3:IntKind.wrap .i64 (((k.length/2:Nat):Int)+1)=((k.length/2+1:Nat):Int):=ze3 ac ac;have e4:IntKind.wrap .i64 (((k.length/2:Nat):Int)+2)=((k.length/2+2:Nat):Int):=ze3 ac ac;obtain⟨x,hx⟩:∃x,k[0]?=some x:=⟨_,aR ac⟩;obtain⟨y,hy⟩:∃y,k[k.length/2+1]?=some y:=⟨_,aR ac⟩;have F:k.headD 0=x:=by rw[List.headD_eq_head?_getD,List.head?_eq_getElem?,hx];rfl
  have A:k.getD (k.length/2+1) 0=y:=by rw[cS,hy];rfl
  have I:=zt2 k (a:=1) (b:=k.length/2+1) ac ac;have hs2:=zyC k (a:=k.length/2+2) ac;have Y:((k.drop 1).take (k.length/2+1-1)).length<2^60:=rV;have j:(k.drop (k.length/2+2)).length<2^60:=wG;have O:zdU l ⟨31,imm,V⟩ k=zd1 (decide (x=2)&&zd4 ((k.drop 1).take (k.length/2+1-1))&&decide (y=2)&&zd4 (k.drop (k.length/2+2))) 3:=by
   rw[i,F,A,cF h1,cF g,cF o,Nat.add_sub_cancel];rfl
  clear i F A;have e5:(k.length:Int).tmod 2=1:=by rw[U];omega
  have h2':(1:Int)<=((k.length/2:Nat):Int):=ac;have h3':((k.length/2:Nat):Int)<=16:=ac;have hs1':jk Tryz.prog 23 (.lst (k.map fun n=>[AV.int .i64 n])) (some (.int .i64 1)) (some (.int .i64 ((k.length/2+1:Nat):Int)))=some (.lst (((k.drop 1).take (k.length/2+1-1)).map fun n=>[AV.int .i64 n])):=I;clear I U g o;generalize (k.drop 1).take (k.length/2+1-1)=p at *;generalize k.drop (k.length/2+2)=q at *;generalize k.length/2+1=u at *;generalize k.length/2+2=w at *;generalize k.length/2=m at *;refine zdv (M:=221) (rs:=[.tmp 6]) (J.call _) J.ice J.froz Tryz.func97 rfl rfl d6.2 rfl ?_;dsimp only[d6,zds,Nat.reduceAdd];repeat' (first
   |(apply zdk ?_;clear hK K)|apply Ry.o ?_|(apply bL ?_;first|refine Rx.k (jj (fun _=>rfl) _ _) ?_|refine Rx.k (jW (fun _=>rfl) _ _ _) ?_|refine Rx.k (yZ (fun _=>rfl) _ Y _) ?_|refine Rx.k (yZ (fun _=>rfl) _ j _) ?_|refine Rx.k (k6 (fun _=>rfl) _ _ _) ?_)|(apply a2 (fun C L=>?_) (fun C L=>?_)<;>try(cases C;done))|(apply aD (fun z Z=>?_) (fun z Z=>?_)<;>try(cases z;done))|apply ak ?_|(apply zdl fun K hK=>?_)|apply au ?_|apply zdm ?_|apply am ?_)
  all_goals first
   |exact zdR
   |((refine⟨eI,_,dG,?_⟩;try simp only[zdn]);rw[O];(try simp only[fl]at *);simp only[ *,kB,bT,cn,Int.reduceEq];done)
 .have O:zdU l ⟨31,imm,V⟩ k=zd1 false 3:=by
   have hf:(decide (k.length%2=1)&&decide (1<=k.length/2)&&decide (k.length/2<=16))=false:=by
    rw[pr,pr,jN,jN,jN];omega
   rw[i,hf];rfl
  clear i;generalize k.length/2=m at *;generalize k.length%2=r at *;refine zdv (M:=221) (rs:=[.tmp 6]) (J.call _) J.ice J.froz Tryz.func97 rfl rfl d6.2 rfl ?_;dsimp only[d6,zds,Nat.reduceAdd];repeat' (first
   |(apply zdk ?_;clear hK K)|apply Ry.o ?_|(apply bL ?_;first|refine Rx.k (jj (fun _=>rfl) _ _) ?_|refine Rx.k (jW (fun _=>rfl) _ _ _) ?_|refine Rx.k (k6 (fun _=>rfl) _ _ _) ?_)|(apply a2 (fun C L=>?_) (fun C L=>?_)<;>try(cases C;done))|(apply aD (fun z Z=>?_) (fun z Z=>?_)<;>try(cases z;done))|apply ak ?_|(apply zdl fun K hK=>?_)|apply au ?_|apply zdm ?_|apply am ?_)
  all_goals first
   |exact zdR
   |((refine⟨eI,_,dG,?_⟩;try simp only[zdn]);rw[O];done)
   |(exfalso;omega)
end
section
def tyK2.tyF:=ad @cN (ad @b9 (ad @ea (ad @eV (ad @eO (ad @mB (ad @mC (@qk)))))))
open tyK2
theorem zkg(ρ:Nat->Int)(x:NsX)(hx:vK x):bc Tryz.prog ρ 97 (pM x) (.int .i64 (zdU x.l x.n x.k)):=zer fit (pls:=pls) (ztZ ρ) (.cons (zfV _) (.cons (.agg (qE _)) (.cons (pn _) .nil))) (.int _ _) (by
 obtain⟨l,⟨Y,j,Z⟩,k⟩:=x;obtain⟨I,F,o⟩:=hx;have J:Plain (zdp pls pN) 97:=zej (fun _=>rfl) rfl;rw[pM];simp only[Nd.cells]at I F o⊢;have hq:(16:Int)≠0:=dk;have hq2:(2:Int)≠0:=dk;cases U:(bg Y).2 with
 |false=>
  have hv:ez Y=.tup [.int .i64 (bg Y).1,.bool false]:=by rw[ez,U]
  refine zdv (M:=221) (rs:=[.tmp 6]) (J.call _) J.ice J.froz Tryz.func97 rfl rfl d6.2 rfl ?_;dsimp only[d6,zds,Nat.reduceAdd];repeat' (first
   |(apply zdk ?_;clear hK K)|apply Ry.o ?_|(apply bL ?_;first|refine Rx.k (jj (fun _=>rfl) _ _) ?_)|apply Ry.gu ?_|(apply a2 (fun C L=>?_) (fun C L=>?_)<;>try(cases C;done))|(apply aD (fun z V=>?_) (fun z V=>?_)<;>try(cases z;done))|apply ak ?_|(apply zdl fun K hK=>?_)|apply am ?_)
  all_goals
   refine⟨eI,_,dG,?_⟩;try simp only[zdn]
   rw[zt0 U]
 |true=>
 by_cases g:0<=(bg Y).1/\(Z.length:Int)≠(bg Y).1
 .have hv:ez Y=.tup [.int .i64 (bg Y).1,.bool true]:=by rw[ez,U]
  obtain⟨h1,h2⟩:=g;refine zdv (M:=221) (rs:=[.tmp 6]) (J.call _) J.ice J.froz Tryz.func97 rfl rfl d6.2 rfl ?_;dsimp only[d6,zds,Nat.reduceAdd];repeat' (first
   |(apply zdk ?_;clear hK K)|apply Ry.o ?_|(apply bL ?_;first|refine Rx.k (jj (fun _=>rfl) _ _) ?_)|(apply a2 (fun C L=>?_) (fun C L=>?_)<;>try(cases C;done))|(apply aD (fun z V=>?_) (fun z V=>?_)<;>try(cases z;done))|apply ak ?_|(apply zdl fun K hK=>?_)|apply am ?_)
  all_goals
   refine⟨eI,_,dG,?_⟩;try simp only[zdn]
   rw[zqb U h1 h2]
 cases A:zen Y j with
 |false=>
  have hv:ez Y=.tup [.int .i64 (bg Y).1,.bool true]:=by rw[ez,U]
  refine zdv (M:=221) (rs:=[.tmp 6]) (J.call _) J.ice J.froz Tryz.func97 rfl rfl d6.2 rfl ?_;dsimp only[d6,zds,Nat.reduceAdd];repeat' (first
   |(apply zdk ?_;clear hK K)|apply Ry.o ?_|(apply bL ?_;first|refine Rx.k (jj (fun _=>rfl) _ _) ?_|refine Rx.k (jW (fun _=>rfl) _ _ _) ?_)|(apply a2 (fun C L=>?_) (fun C L=>?_)<;>try(cases C;done))|(apply aD (fun z V=>?_) (fun z V=>?_)<;>try(cases z;done))|apply ak ?_|(apply zdl fun K hK=>?_)|apply am ?_)
  all_goals
   refine⟨eI,_,dG,?_⟩;try simp only[zdn]
   rw[zqc A]
 |true=>
 have i:=zt1 (l:=l) (n:=⟨Y,j,Z⟩) (k:=k) U g A;simp only[]at i;by_cases m:Y=31
 .subst m;exact zcg F A lR
 by_cases c30:Y=30
 .subst c30;exact zcc I F A lR
 by_cases c25:Y=25
 .subst c25;exact zcd I F (o rfl) (by have e:(bg 25).1=1:=rfl;omega) A lR
 have hnn:=GJ m c30;have hkn:(Z.length:Int)=(bg Y).1:=ac;have hv:ez Y=.tup [.int .i64 Z.length,.bool true]:=by rw[ez,U,hkn]
 by_cases c22:Y=22
 .subst c22;obtain⟨a,b,c,rfl⟩:=oz (s:=k) (by have e:(bg 22).1=3:=rfl;omega);have O:zdU l ⟨22,j,Z⟩ [a,b,c]=if a≠1\/b≠c\/b=3 then 0 else b:=lR
  refine zdv (M:=221) (rs:=[.tmp 6]) (J.call _) J.ice J.froz Tryz.func97 rfl rfl d6.2 rfl ?_;dsimp only[d6,zds,Nat.reduceAdd];repeat' (first
   |(apply zdk ?_;clear hK K)|apply Ry.o ?_|(apply bL ?_;first|refine Rx.k (jj (fun _=>rfl) _ _) ?_|refine Rx.k (jW (fun _=>rfl) _ _ _) ?_)|(apply a2 (fun C L=>?_) (fun C L=>?_)<;>try(cases C;done))|(apply aD (fun z V=>?_) (fun z V=>?_)<;>try(cases z;done))|apply ak ?_|(apply zdl fun K hK=>?_)|(apply zdL 12 [(2,19),(7,19),(10,19),(16,19)] fun K hK=>?_)|(apply zdK ?_;try intro _)|(apply zdM ?_ ?_<;>clear hK K)|apply bl ?_|(apply nk (fun C L=>?_) (fun C L=>?_)<;>try(cases C;done))|apply au ?_|apply zdm ?_|apply am ?_)
  all_goals first
   |exact zdR
   |((refine⟨eI,_,dG,?_⟩;try simp only[zdn]);rw[O];clear O i o hv hkn g U A I;(try simp only[l7,jN]at *);first|(rw[az yM];done)|(rw[ai yM];done)|(rw[az ac];done)|(rw[ai ac];done))
 by_cases c23:Y=23
 .subst c23;obtain⟨a,b,rfl⟩:=mA (s:=k) (by have e:(bg 23).1=2:=rfl;omega);have O:zdU l ⟨23,j,Z⟩ [a,b]=zd1 (decide (a=2)&&decide (b=1)) 1:=lR;refine zdv (M:=221) (rs:=[.tmp 6]) (J.call _) J.ice J.froz Tryz.func97 rfl rfl d6.2 rfl ?_;dsimp only[d6,zds,Nat.reduceAdd];repeat' (first
   |(apply zdk ?_;clear hK K)|apply Ry.o ?_|(apply bL ?_;first|refine Rx.k (jj (fun _=>rfl) _ _) ?_|refine Rx.k (jW (fun _=>rfl) _ _ _) ?_|refine Rx.k (k6 (fun _=>rfl) _ _ _) ?_)|(apply a2 (fun C L=>?_) (fun C L=>?_)<;>try(cases C;done))|(apply aD (fun z V=>?_) (fun z V=>?_)<;>try(cases z;done))|apply ak ?_|(apply zdl fun K hK=>?_)|apply au ?_|apply zdm ?_|apply am ?_)
  all_goals first
   |exact zdR
   |((refine⟨eI,_,dG,?_⟩;try simp only[zdn]);rw[O];(try simp only[]at *);simp only[ *,qI,dZ,dw,];done)
   |((refine⟨eI,_,dG,?_⟩;try simp only[zdn]);rw[O];clear O i o hv hkn;simp_all;done)
 by_cases c24:Y=24
 .subst c24;obtain⟨a,rfl⟩:=lO (s:=k) (by have e:(bg 24).1=1:=rfl;omega);have O:zdU l ⟨24,j,Z⟩ [a]=zd1 (decide (a=2)) 1:=lR;refine zdv (M:=221) (rs:=[.tmp 6]) (J.call _) J.ice J.froz Tryz.func97 rfl rfl d6.2 rfl ?_;dsimp only[d6,zds,Nat.reduceAdd];repeat' (first
   |(apply zdk ?_;clear hK K)|apply Ry.o ?_|(apply bL ?_;first|refine Rx.k (jj (fun _=>rfl) _ _) ?_|refine Rx.k (jW (fun _=>rfl) _ _ _) ?_|refine Rx.k (k6 (fun _=>rfl) _ _ _) ?_)|(apply a2 (fun C L=>?_) (fun C L=>?_)<;>try(cases C;done))|(apply aD (fun z V=>?_) (fun z V=>?_)<;>try(cases z;done))|apply ak ?_|(apply zdl fun K hK=>?_)|apply au ?_|apply zdm ?_|apply am ?_)
  all_goals first
   |exact zdR
   |((refine⟨eI,_,dG,?_⟩;try simp only[zdn]);rw[O];done)
 by_cases c27:Y=27
 .subst c27;obtain⟨a,b,rfl⟩:=mA (s:=k) (by have e:(bg 27).1=2:=rfl;omega);have O:zdU l ⟨27,j,Z⟩ [a,b]=zd1 (decide (a=2)&&decide (b=1)) 2:=lR;refine zdv (M:=221) (rs:=[.tmp 6]) (J.call _) J.ice J.froz Tryz.func97 rfl rfl d6.2 rfl ?_;dsimp only[d6,zds,Nat.reduceAdd];repeat' (first
   |(apply zdk ?_;clear hK K)|apply Ry.o ?_|(apply bL ?_;first|refine Rx.k (jj (fun _=>rfl) _ _) ?_|refine Rx.k (jW (fun _=>rfl) _ _ _) ?_|refine Rx.k (k6 (fun _=>rfl) _ _ _) ?_)|(apply a2 (fun C L=>?_) (fun C L=>?_)<;>try(cases C;done))|(apply aD (fun z V=>?_) (fun z V=>?_)<;>try(cases z;done))|apply ak ?_|(apply zdl fun K hK=>?_)|apply au ?_|apply zdm ?_|apply am ?_)
  all_goals first
   |exact zdR
   |((refine⟨eI,_,dG,?_⟩;try simp only[zdn]);rw[O];(try simp only[]at *);simp only[ *,qI,dZ,dw,];done)
 by_cases c29:Y=29
 .subst c29;obtain⟨a,b,rfl⟩:=mA (s:=k) (by have e:(bg 29).1=2:=rfl;omega);have O:zdU l ⟨29,j,Z⟩ [a,b]=zd1 (decide (a=2)&&decide (b=1)) 2:=lR;refine zdv (M:=221) (rs:=[.tmp 6]) (J.call _) J.ice J.froz Tryz.func97 rfl rfl d6.2 rfl ?_;dsimp only[d6,zds,Nat.reduceAdd];repeat' (first
   |(apply zdk ?_;clear hK K)|apply Ry.o ?_|(apply bL ?_;first|refine Rx.k (jj (fun _=>rfl) _ _) ?_|refine Rx.k (jW (fun _=>rfl) _ _ _) ?_|refine Rx.k (k6 (fun _=>rfl) _ _ _) ?_)|(apply a2 (fun C L=>?_) (fun C L=>?_)<;>try(cases C;done))|(apply aD (fun z V=>?_) (fun z V=>?_)<;>try(cases z;done))|apply ak ?_|(apply zdl fun K hK=>?_)|apply au ?_|apply zdm ?_|apply am ?_)
  all_goals first
   |exact zdR
   |((refine⟨eI,_,dG,?_⟩;try simp only[zdn]);rw[O];(try simp only[]at *);simp only[ *,qI,dZ,dw,];done)
 by_cases c28:Y=28
 .subst c28;obtain⟨a,b,c,rfl⟩:=oz (s:=k) (by have e:(bg 28).1=3:=rfl;omega);have O:zdU l ⟨28,j,Z⟩ [a,b,c]=zd1 (decide (a=2)&&decide (b=1)&&decide (c=1)) 2:=lR;refine zdv (M:=221) (rs:=[.tmp 6]) (J.call _) J.ice J.froz Tryz.func97 rfl rfl d6.2 rfl ?_;dsimp only[d6,zds,Nat.reduceAdd];repeat' (first
   |(apply zdk ?_;clear hK K)|apply Ry.o ?_|(apply bL ?_;first|refine Rx.k (jj (fun _=>rfl) _ _) ?_|refine Rx.k (jW (fun _=>rfl) _ _ _) ?_|refine Rx.k (k6 (fun _=>rfl) _ _ _) ?_)|(apply a2 (fun C L=>?_) (fun C L=>?_)<;>try(cases C;done))|(apply aD (fun z V=>?_) (fun z V=>?_)<;>try(cases z;done))|apply ak ?_|(apply zdl fun K hK=>?_)|apply au ?_|apply zdm ?_|apply am ?_)
  all_goals first
   |exact zdR
   |((refine⟨eI,_,dG,?_⟩;try simp only[zdn]);rw[O];(try simp only[]at *);simp only[ *,qI,xI,];done)
 by_cases c26:Y=26
 .subst c26;have O:zdU l ⟨26,j,Z⟩ k=2:=lR;refine zdv (M:=221) (rs:=[.tmp 6]) (J.call _) J.ice J.froz Tryz.func97 rfl rfl d6.2 rfl ?_;dsimp only[d6,zds,Nat.reduceAdd];repeat' (first
   |(apply zdk ?_;clear hK K)|apply Ry.o ?_|(apply bL ?_;first|refine Rx.k (jj (fun _=>rfl) _ _) ?_|refine Rx.k (jW (fun _=>rfl) _ _ _) ?_|refine Rx.k (k6 (fun _=>rfl) _ _ _) ?_)|(apply a2 (fun C L=>?_) (fun C L=>?_)<;>try(cases C;done))|(apply aD (fun z V=>?_) (fun z V=>?_)<;>try(cases z;done))|apply ak ?_|(apply zdl fun K hK=>?_)|apply au ?_|apply zdm ?_|apply am ?_)
  all_goals first
   |exact zdR
   |((refine⟨eI,_,dG,?_⟩;try simp only[zdn]);rw[O];done)
 by_cases c3:Y=3
 .subst c3;have O:zdU l ⟨3,j,Z⟩ k=if j.tmod 16=0 then 2 else 1:=lR
  refine zdv (M:=221) (rs:=[.tmp 6]) (J.call _) J.ice J.froz Tryz.func97 rfl rfl d6.2 rfl ?_;dsimp only[d6,zds,Nat.reduceAdd];repeat' (first
   |(apply zdk ?_;clear hK K)|apply Ry.o ?_|(apply bL ?_;first|refine Rx.k (jj (fun _=>rfl) _ _) ?_|refine Rx.k (jW (fun _=>rfl) _ _ _) ?_|refine Rx.k (k6 (fun _=>rfl) _ _ _) ?_)|(apply a2 (fun C L=>?_) (fun C L=>?_)<;>try(cases C;done))|(apply aD (fun z V=>?_) (fun z V=>?_)<;>try(cases z;done))|apply ak ?_|(apply zdl fun K hK=>?_)|apply au ?_|apply zdm ?_|apply am ?_)
  all_goals first
   |exact zdR
   |((refine⟨eI,_,dG,?_⟩;try simp only[zdn]);rw[O,az il];done)
   |((refine⟨eI,_,dG,?_⟩;try simp only[zdn]);rw[O,ai il];done)
 have O:zdU l ⟨Y,j,Z⟩ k=zd1 (zd4 k) 1:=by
  rw[i,ai c3,ai c26,ai c22,ai c23,ai c24,ai c25,ai ac,ai c28,ai c30,ai m]
 have hkb':k.length<2^60:=ac;have hk0:(0:Int)<=Z.length:=ac;refine zdv (M:=221) (rs:=[.tmp 6]) (J.call _) J.ice J.froz Tryz.func97 rfl rfl d6.2 rfl ?_;dsimp only[d6,zds,Nat.reduceAdd];repeat' (first
  |(apply zdk ?_;clear hK K)|apply Ry.o ?_|(apply bL ?_;first|refine Rx.k (jj (fun _=>rfl) _ _) ?_|refine Rx.k (jW (fun _=>rfl) _ _ _) ?_|refine Rx.k (yZ (fun _=>rfl) _ hkb' _) ?_|refine Rx.k (k6 (fun _=>rfl) _ _ _) ?_)|(apply a2 (fun C L=>?_) (fun C L=>?_)<;>try(cases C;done))|(apply aD (fun z V=>?_) (fun z V=>?_)<;>try(cases z;done))|apply ak ?_|(apply zdl fun K hK=>?_)|apply au ?_|apply zdm ?_|apply am ?_)
 all_goals first
  |exact zdR
  |((refine⟨eI,_,dG,?_⟩;try simp only[zdn]);rw[O];done))
end
section
def tyK3.tyF:=ad @cN (ad @b9 (ad @ea (ad @eV (ad @eO (@uX)))))
open tyK3
noncomputable def KH:{c:SC // aC 69 (Tryz.f60.body.getD .skip)=c}:=by
 refine⟨?_,?_⟩;rotate_left
 .simp only[Tryz.f60,a5,aC,zdG,zdD,zdH,zdI,Nat.blt,Nat.ble];rfl
noncomputable def CV:En:=⟨97,true,b7 vK pM fun x=>.int .i64 (zdU x.l x.n x.k)⟩
theorem zyD(ρ:Nat->Int):yO Tryz.prog ρ CV:=zei fun x I=>zkg ρ x I
noncomputable def zd:List En:=[jS CV]
theorem zt3(ρ:Nat->Int):fk Tryz.prog ρ zd:=⟨qK (zyD ρ),trivial⟩
theorem zt4(l:List Nd):bF 60 (zeu l)=zeu l:=by
 show AV.lst ((l.map Nd.cells).map fun z=>z.map (bF 59))=_;rw[pc];have e:(fun z=>z.map (bF 59)) ∘ Nd.cells=Nd.cells:=by
  funext x
  show(x.cells).map (bF 59)=x.cells;rw[Nd.cells];simp only[dL,xT,BE 57];rfl
 rw[e]
theorem zcl(y:NsX):(pM y).any (jf 90)=false:=by
 obtain⟨l,⟨K,j,V⟩,s⟩:=y;rfl
theorem zcm(S:Nat->Prop)(H:Hp)(n:Nd):zee S 3 H (.agg n.cells) (.agg n.cells):=by
 refine⟨n.cells,?_,rfl⟩;rw[Nd.cells];exact⟨lN ⟨.int _ _,trivial⟩,lN ⟨.int _ _,trivial⟩,lN ⟨pn _,trivial⟩,trivial⟩
theorem zcn{tb:List En}(I:∀C,zem tb 97 C=(jS CV).sp C)(A:ir tb 97=true){H:Hp}{v:AV}{s:List Int}{lo:Nat}(L:ey H v s lo)(l:List Nd)(n:Nd)(V:vK ⟨l,n,s⟩):
 zdw Tryz.prog (zdp pls tb) 97 [zeu l,.agg n.cells,v] H fun w H'=>w=.int .i64 (zdU l n s)/\Icy (fun k=>lo<=k) H H':=by
 obtain⟨u,i,g⟩:=L.ic;refine qQ (x:=(⟨l,n,s⟩:NsX)) (enc:=pM) (ok:=vK) (out:=fun x=>.int .i64 (zdU x.l x.n x.k)) (us:=[zeu l,.agg n.cells,u]) (n:=3) zyB (fun C=>by rw[I];rfl) A zcl V ac ⟨lN ⟨zfV _,trivial⟩,zcm _ _ _,i,trivial⟩ ?_;show [bF 60 (zeu l),bF 60 (.agg n.cells),bF 60 u]=_;rw[g,GS 56,zt4];rfl
theorem zyE{l:List Nd}{i:Nat}(A:i<l.length){n:Nd}{s:List Int}(m:l[i]?=some n)(j:jx i (zd0 l i) n.kids=some s):jV l i (zd0 l i)=zdU l n s:=by
 rw[<-XI ac,Bq,m];simp only[j]
theorem zcp{l:List Nd}{i:Nat}{kn s:List Int}{n:Nd}(A:i<l.length)(F:zeN l)(Z:l[i]?=some n)(j:jx i kn n.kids=some s):vK ⟨l,n,s⟩:=by
 have z:=F.2 n (i5 Z);have e:=pg j;refine⟨e,by simp only[];omega,fun _ Y=>?_⟩;obtain⟨k,J⟩:=lO Y;simp only[]at J⊢;obtain⟨o,U,_⟩:=so j k (by rw[J];exact GN _);obtain⟨m,rfl⟩:=eL o;have M:m<l.length:=ac;exact⟨m,l[m],J,aR M,F.2 _ (dr M)⟩
theorem ey.at{H:Hp}{v:AV}{l:List Int}{lo:Nat}(h:ey H v l lo){i:Nat}(A:i<l.length):
 ∃r,zdV Tryz.prog 23 v (.int .i64 (i:Int))=some (.ptr r i)/\zeX Tryz.prog H 3 (.ptr r i)=some (.int .i64 l[i]):=by
 rcases h with⟨_,rfl⟩|h
 .simp at A
 .exact h.at A
set_option maxRecDepth 100000 in
theorem znQ(ρ:Nat->Int)(l:List Nd)(hl:zeN l):bc Tryz.prog ρ 60 [zeu l] (zel (zd0 l l.length)):=Bn (n:=3) (zgb (r:=uV (zd0 l l.length)) (m:=3) (cfg:=zdp pls zd) fit (lE ρ) (fk.look (zt3 ρ)) (.cons (zfV _) .nil) (by
 have hl0:=hl;obtain⟨hl1,hl2⟩:=hl;have hw:Plain (zdp pls zd) 60:=zej (fun _=>rfl) rfl;have hkeep:(zdp pls zd).keep 60=false:=rfl;refine zdv (M:=69) (rs:=[.tmp 2]) (hw.call _) hw.ice hw.froz Tryz.func60 rfl rfl KH.2 rfl ?_;dsimp only[KH,zds,Nat.reduceAdd];repeat' (first
  |(apply zdk ?_;clear hK K)|apply Rx.o ?_|apply ak ?_|(apply zdl fun K hK=>?_)|apply au ?_|fail)
 refine zef [0,2] [] 4 l.length (fun i E H=>∃v,E.at 3=v/\mz H v (zd0 l i) 0) eE ⟨.nilS,eE,.inl ⟨rfl,rfl⟩⟩ ?_;rintro i E g hi hcE hrH hnH hsI ⟨v,k3,hv⟩;(try simp only[zdO,zdF,aX,zdy,zdJ,Nat.reduceBEq, *]at hcE);(try simp only[zdF, *]at hrH);(try simp only[zec,]at hnH);repeat' (first
  |(apply zdk ?_;clear hK K)|apply Rx.o ?_|(apply aS (fun z V=>?_) (fun z V=>?_)<;>try(cases z;done))|apply ak ?_|(apply zdl fun K hK=>?_)|apply au ?_|apply zdm ?_|apply am ?_|apply zdr ?_)
 .have hlt:i<l.length:=by simpa using z
  have hgi:l[i]?=some l[i]:=aR hlt;have hnk:=hl2 _ (dr hlt);generalize l[i]=n at *;repeat' (first
   |(apply zdk ?_;clear hK K)|fail)
  refine zef [0,2,3,4] [] 7 n.kids.length (fun j E H=>∃w s,E.at 5=w/\ey H w s g.next/\oB i (zd0 l i) n.kids j s/\E.at 6=.bool true/\∀k,k<g.next->H.get k=g.get k) eE ⟨.nilS,[],eE,.inl ⟨rfl,rfl⟩,⟨rfl,aB⟩,eE,fun _ _=>rfl⟩ ?_;rintro j E3 H3 hj hcE hrH hnH hsI ⟨w,s,zfi,o,hJ,zf0,Z⟩;(try simp only[zdO,zdF,aX,zdy,Nat.reduceBEq, *]at hcE);(try simp only[zdF, *]at hrH);(try simp only[zdA,zdQ,zec,bC,Nat.reduceAdd]at hnH);repeat' (first
   |(apply zdk ?_;clear hK K)|apply Rx.o ?_|(apply aS (fun z V=>?_) (fun z V=>?_)<;>try(cases z;done))|apply ak ?_|(apply zdl fun K hK=>?_)|apply au ?_|apply zdm ?_|apply zdr ?_)
  .have hlt2:j<n.kids.length:=by simpa using z
   have hgx:n.kids[j]?=some n.kids[j]:=aR hlt2;generalize n.kids[j]=A at *;have J:mz H3 v (zd0 l i) 0:=hv.keep ac fun k Y=>Z k (hv.n.lt Y).2;have U:∀(x:Int),ey (H3.alloc (.cells [.int .i64 x] 0 true)) v (zd0 l i) 0:=fun x=>J.n.keep (fQ _) fun k Y=>by rw[zdq,ai (by have:=(hv.n.lt Y).2;omega)]
   by_cases C:A<0\/(i:Int)<=A\/(zd0 l i).getD A.toNat 0=0
   .have hs0:jV l i (zd0 l i)=0:=xV hgi (hJ.bad hgx C);have F:zd0 l (i+1)=zd0 l i++[0]:=by rw[zd0,hs0]
    obtain⟨v5,H5,zeD,s5,n5,f5,o5⟩:=xM (r:=H3.next) (imm:=0) 0 (U 0) (cG _) gO pf;have n5':g.next<=H5.next:=sO
    clear n5 f5 o5 U;by_cases c1:A<0
    .repeat' (first
      |(apply zdk ?_;clear hK K)|apply Ry.o ?_|(apply a2 (fun O L=>?_) (fun O L=>?_)<;>try(cases O;done))|(apply aD (fun z V=>?_) (fun z V=>?_)<;>try(cases z;done))|apply ak ?_|(apply zdl fun K hK=>?_)|apply zdr ?_)
     refine⟨ac,zdz,zdz,eN,jy,?_⟩;exact⟨v5,eE,.inr ⟨by rw[F];simp,za⟩⟩
    by_cases c2:(i:Int)<=A
    .have c1':¬A<0:=c1;repeat' (first
      |(apply zdk ?_;clear hK K)|apply Ry.o ?_|(apply a2 (fun O L=>?_) (fun O L=>?_)<;>try(cases O;done))|(apply aD (fun z V=>?_) (fun z V=>?_)<;>try(cases z;done))|apply ak ?_|(apply zdl fun K hK=>?_)|apply zdr ?_)
     refine⟨ac,zdz,zdz,eN,jy,?_⟩;exact⟨v5,eE,.inr ⟨by rw[F];simp,za⟩⟩
    have hb0:(zd0 l i).getD A.toNat 0=0:=by
     rcases C with h|h|h
     .exact absurd h c1
     .exact absurd h c2
     .exact h
    clear C;obtain⟨m,rfl⟩:=eL (xU.1 c1);have I:m<(zd0 l i).length:=pf;obtain⟨q,hix,hlo⟩:=J.n.at I;have hgk:(zd0 l i)[m]=0:=by
     rw[dQ,cS,aR I]at hb0;exact hb0
    rw[hgk]at hlo;repeat' (first
     |(apply zdk ?_;clear hK K)|apply Ry.o ?_|(apply a2 (fun O L=>?_) (fun O L=>?_)<;>try(cases O;done))|(apply aD (fun z V=>?_) (fun z V=>?_)<;>try(cases z;done))|apply ak ?_|(apply zdl fun K hK=>?_)|apply zdr ?_)
    refine⟨ac,zdz,zdz,eN,jy,?_⟩;exact⟨v5,eE,.inr ⟨by rw[F];simp,za⟩⟩
   .have hJn:=hJ.next hgx C
    have c1:¬A<0:=fun h=>C (.inl h);have c2:¬(i:Int)<=A:=fun h=>C (.inr (.inl h));have c3:¬(zd0 l i).getD A.toNat 0=0:=fun h=>C (.inr (.inr h));clear C U;obtain⟨m,rfl⟩:=eL (xU.1 c1);have I:m<(zd0 l i).length:=pf;obtain⟨q,hix,hlo⟩:=J.n.at I;have hgk:(zd0 l i).getD (m:Int).toNat 0=(zd0 l i)[m]:=by
     rw[dQ,cS,aR I];rfl
    rw[hgk]at c3 hJn;generalize (zd0 l i)[m]=x at *;have hwb:ey (H3.alloc (.cells [.int .i64 x] 0 true)) w s g.next:=o.keep (fQ _) fun k Y=>by rw[zdq,ai (by have:=(o.lt Y).2;omega)]
    obtain⟨v5,H5,zeD,s5,n5,f5,o5⟩:=xM (r:=H3.next) (imm:=0) x hwb el gO (by rw[hJ.1];omega);have n5':H3.next<=H5.next:=sO
    have o5':∀k,k<g.next->H5.get k=g.get k:=fun k Y=>by rw[f5 k Y,zdq,ai ac,Z k Y]
    clear n5 f5 o5 hJ Z J;repeat' (first
     |(apply zdk ?_;clear hK K)|apply Ry.o ?_|(apply a2 (fun O L=>?_) (fun O L=>?_)<;>try(cases O;done))|(apply aD (fun z V=>?_) (fun z V=>?_)<;>try(cases z;done))|apply ak ?_|(apply zdl fun K hK=>?_)|apply zdm ?_|fail)
    refine⟨ac,zdz,zdz,eN,pz,?_⟩;exact⟨v5,s++[x],eE,.inr s5,hJn,eE,o5'⟩
  .have hje:j=n.kids.length:=by omega
   rw[hje]at hJ;have J:mz H3 v (zd0 l i) 0:=hv.keep ac fun k Y=>Z k (hv.n.lt Y).2;have hs1:=zyE hlt hgi hJ.done;have hok:=zcp hlt hl0 hgi hJ.done;have F:zd0 l (i+1)=zd0 l i++[zdU l n s]:=by rw[zd0,hs1]
   repeat' (first
    |(apply zdk ?_;clear hK K)|fail)
   refine bh rfl bm bo ?_;simp only[bJ];refine a9 ?_ (zcn (fun _=>rfl) rfl o l n hok);rintro x H4 ⟨rfl,hy⟩;have n4:=hy.next
   have n4':g.next<=H4.next:=ac
   have hv4:mz H4 v (zd0 l i) 0:=J.keep ac fun k Y=>hy.out k (by have:=(hv.n.lt Y).2;omega);clear hy n4 o hJ Z J hs1 hok;dsimp only[zdE];generalize zdU l n s=x at *;have U:ey (H4.alloc (.cells [.int .i64 x] 0 true)) v (zd0 l i) 0:=hv4.n.keep (fQ _) fun k Y=>by rw[zdq,ai (by have:=(hv4.n.lt Y).2;omega)]
   obtain⟨v5,H5,zeD,s5,n5,f5,o5⟩:=xM (r:=H4.next) (imm:=0) x U (cG _) gO pf;have n5':g.next<=H5.next:=sO
   clear n5 f5 o5 U;repeat' (first
    |(apply zdk ?_;clear hK K)|apply Rx.o ?_|(apply zdl fun K hK=>?_)|fail)
   refine⟨ac,zdz,zdz,eN,jy,?_⟩;exact⟨v5,eE,.inr ⟨by rw[F];simp,za⟩⟩
 .have hie:i=l.length:=by simp at z;omega
  rw[hie]at hv;repeat' (first
   |(apply zdk ?_;clear hK K)|fail)
  all_goals (refine⟨eI,_,eR,?_⟩;try simp only[zdn])
  exact hv.iceV 1)) (XB 1 _)
end
section
namespace tyK5
end tyK5
open tyK5
noncomputable def vL:En:=⟨60,true,b7 zeN jg fun l=>zel (zd0 l l.length)⟩
theorem KI(ρ:Nat->Int):yO Tryz.prog ρ vL:=zei fun l F=>znQ ρ l F
theorem KJ{tb:List En}(I:∀C,zem tb 60 C=vL.sp C)(l:List Nd)(F:zeN l)(H:Hp):zdw Tryz.prog (zdp pls tb) 60 [zeu l] H fun v H'=>v=zel (zd0 l l.length)/\H'=H:=
 zeq (enc:=jg) (ok:=zeN) (out:=fun l=>zel (zd0 l l.length)) qS (x:=l) (I _) F
end
section
def tyK9.tyF:=ad @cN (ad @b9 (ad @lI (ad @ea (ad @eV (ad @eO (ad @xo (@uX)))))))
open tyK9
noncomputable def tu:{c:SC // aC 21 (Tryz.f50.body.getD .skip)=c}:=by
 refine⟨?_,?_⟩;rotate_left
 .simp only[Tryz.f50,a5,aC,zdG,zdD,zdH,zdI,Nat.blt,Nat.ble];rfl
theorem zqd(ρ:Nat->Int)(x:List Nd×Int)(I:zeN x.1):bc Tryz.prog ρ 50 (mD x) (.int .i64 (zeo x.1 x.2)):=zer fit (pls:=pls) (l:=[vL]) ⟨KI ρ,trivial⟩ (.cons (zfV _) (.cons (.int _ _) .nil)) (.int _ _) (by
 obtain⟨l,i⟩:=x;simp only[]at I;have F:=I.1;have J:Plain (zdp pls [vL]) 50:=zej (fun _=>rfl) rfl;rw[mD];simp only[];by_cases c1:i<0
 .refine zdv (M:=21) (rs:=[.tmp 4]) (J.call _) J.ice J.froz Tryz.func50 rfl rfl tu.2 rfl ?_;dsimp only[tu,zds,Nat.reduceAdd];repeat' (first
   |(apply zdk ?_;clear hK K)|apply Ry.o ?_|(apply a2 (fun C L=>?_) (fun C L=>?_)<;>try(cases C;done))|(apply aD (fun z V=>?_) (fun z V=>?_)<;>try(cases z;done))|apply ak ?_|(apply zdl fun K hK=>?_)|apply am ?_)
  all_goals (refine⟨eI,_,eR,?_⟩;try simp only[zdn])
  rw[zeo,az (.inl c1)]
 by_cases c2:(l.length:Int)<=i
 .refine zdv (M:=21) (rs:=[.tmp 4]) (J.call _) J.ice J.froz Tryz.func50 rfl rfl tu.2 rfl ?_;dsimp only[tu,zds,Nat.reduceAdd];repeat' (first
   |(apply zdk ?_;clear hK K)|apply Ry.o ?_|(apply a2 (fun C L=>?_) (fun C L=>?_)<;>try(cases C;done))|(apply aD (fun z V=>?_) (fun z V=>?_)<;>try(cases z;done))|apply ak ?_|(apply zdl fun K hK=>?_)|apply am ?_)
  all_goals (refine⟨eI,_,eR,?_⟩;try simp only[zdn])
  rw[zeo,az (.inr c2)]
 obtain⟨m,rfl⟩:=eL (xU.1 c1);have U:m<l.length:=ac;have O:IntKind.wrap .i64 ((m:Int)+1)=((m+1:Nat):Int):=ze3 ac ac;have g:=Yo l (m+1) ac;have Z:(l.take (m+1)).length=m+1:=rV;have Y:(zd0 (l.take (m+1)) (m+1))[m]?=some (zeo l m):=by
  rw[zeo,ai ac,dQ,cS,aR pf];rfl
 refine zdv (M:=21) (rs:=[.tmp 4]) (J.call _) J.ice J.froz Tryz.func50 rfl rfl tu.2 rfl ?_;dsimp only[tu,zds,Nat.reduceAdd];repeat' (first
  |(apply zdk ?_;clear hK K)|apply Ry.o ?_|(apply bL ?_;first|refine Rx.k (KJ (fun _=>rfl) _ (I.take _) _) ?_)|(apply a2 (fun C L=>?_) (fun C L=>?_)<;>try(cases C;done))|(apply aD (fun z V=>?_) (fun z V=>?_)<;>try(cases z;done))|apply ak ?_|(apply zdl fun K hK=>?_)|apply zdm ?_|apply am ?_)
 all_goals (refine⟨eI,_,eR,?_⟩;try simp only[zdn]))
noncomputable def CW:En:=⟨50,true,b7 (fun x=>zeN x.1) mD fun x=>.int .i64 (zeo x.1 x.2)⟩
theorem zyF(ρ:Nat->Int):yO Tryz.prog ρ CW:=zei fun x I=>zqd ρ x I
theorem zct{tb:List En}(I:∀C,zem tb 50 C=CW.sp C)(l:List Nd)(i:Int)(F:zeN l)(H:Hp):zdw Tryz.prog (zdp pls tb) 50 [zeu l,.int .i64 i] H fun v H'=>v=.int .i64 (zeo l i)/\H'=H:=
 zeq (enc:=mD) (ok:=fun x=>zeN x.1) (out:=fun x=>.int .i64 (zeo x.1 x.2)) GV (x:=(l,i)) (I _) F
end
section
def tyVdC.tyF:=ad @cN (ad @b9 (ad @ea (ad @eV (ad @eO (@mZ)))))
open tyVdC
noncomputable def KK:{c:SC // aC 34 (Tryz.f61.body.getD .skip)=c}:=by
 refine⟨?_,?_⟩;rotate_left
 .simp only[Tryz.f61,a5,aC,zdG,zdD,zdH,zdI,Nat.blt,Nat.ble];rfl
theorem zyG(ρ:Nat->Int)(x:List Nd×Int)(A:zeN x.1):bc Tryz.prog ρ 61 (mD x) (.int .i64 (gI x.1 x.2)):=zer fit (pls:=pls) (l:=[]) trivial (.cons (zfV _) (.cons (.int _ _) .nil)) (.int _ _) (by
 obtain⟨l,m⟩:=x;simp only[]at A;obtain⟨hl1,I⟩:=A;have F:=yl 61;have q2:(2:Int)≠0:=dk;rw[mD];simp only[];refine zdv (M:=34) (rs:=[.tmp 4]) (F.call _) F.ice F.froz Tryz.func61 rfl rfl KK.2 rfl ?_;dsimp only[KK,zds,Nat.reduceAdd];repeat' (first
  |(apply zdk ?_;clear hK K)|apply Rx.o ?_|apply ak ?_|(apply zdl fun K hK=>?_)|apply au ?_|apply zdm ?_|apply am ?_|apply zdr ?_)
 refine zef [0,1] [] 5 l.length (fun i E H=>gI (l.drop i) m=gI l m) eE rfl ?_;rintro i E Hi hi Y U O hsI j;(try simp only[zdO,zdF,aX,zdy,zdJ,Nat.reduceBEq,Nat.reduceAdd,Nat.reduceLeDiff,tyF, *]at Y);(try simp only[zdO,zdF,aX,zdy,zdJ,Nat.reduceBEq,Nat.reduceAdd,Nat.reduceLeDiff,tyF, *]at U);(try simp only[zdA,zdQ,zec,bC,Nat.reduceAdd]at O);by_cases o:i<l.length
 .have Z:(i:Int)<l.length:=by omega
  have hgx:l[i]?=some l[i]:=aR o;have hnk:=I _ (dr o);have hd:gI (l.drop i) m=if l[i].op=31/\l[i].imm=m then (l[i].kids.length:Int).tdiv 2 else gI (l.drop (i+1)) m:=by rw[fq o,gI]
  rw[j]at hd;clear j;generalize l[i]=n at *;have e1:IntKind.wrap .i64 ((n.kids.length:Int).tdiv 2)=(n.kids.length:Int).tdiv 2:=by
   rw[kV ac];exact ze3 ac ac
  by_cases J:n.op=31
  .by_cases g:n.imm=m
   .rw[az ⟨J,g⟩]at hd;repeat' (first
     |(apply zdk ?_;clear hK K)|apply Ry.o ?_|(apply a2 (fun C L=>?_) (fun C L=>?_)<;>try(cases C;done))|(apply aD (fun z V=>?_) (fun z V=>?_)<;>try(cases z;done))|apply ak ?_|(apply zdl fun K hK=>?_)|apply au ?_|apply zdm ?_|apply am ?_|apply zdr ?_)
    all_goals (refine⟨eI,_,eR,?_⟩;try simp only[zdn])
    rw[hd]
   .rw[ai (fun c=>g c.2)]at hd;repeat' (first
     |(apply zdk ?_;clear hK K)|apply Ry.o ?_|(apply a2 (fun C L=>?_) (fun C L=>?_)<;>try(cases C;done))|(apply aD (fun z V=>?_) (fun z V=>?_)<;>try(cases z;done))|apply ak ?_|(apply zdl fun K hK=>?_)|apply au ?_|apply zdm ?_|apply am ?_|apply zdr ?_)
    refine⟨ac,zdz,zdz,eN,jy,?_⟩;exact hd.symm
  .rw[ai (fun c=>J c.1)]at hd;repeat' (first
    |(apply zdk ?_;clear hK K)|apply Ry.o ?_|(apply a2 (fun C L=>?_) (fun C L=>?_)<;>try(cases C;done))|(apply aD (fun z V=>?_) (fun z V=>?_)<;>try(cases z;done))|apply ak ?_|(apply zdl fun K hK=>?_)|apply au ?_|apply zdm ?_|apply am ?_|apply zdr ?_)
   refine⟨ac,zdz,zdz,eN,jy,?_⟩;exact hd.symm
 .have Z:¬(i:Int)<l.length:=by omega
  rw[oA ac]at j;repeat' (first
   |(apply zdk ?_;clear hK K)|apply Ry.o ?_|(apply a2 (fun C L=>?_) (fun C L=>?_)<;>try(cases C;done))|(apply aD (fun z V=>?_) (fun z V=>?_)<;>try(cases z;done))|apply ak ?_|(apply zdl fun K hK=>?_)|apply au ?_|apply zdm ?_|apply am ?_|apply zdr ?_)
  all_goals (refine⟨eI,_,eR,?_⟩;try simp only[zdn])
  rw[<-j];rfl)
noncomputable def KL:En:=⟨61,false,b7 (fun x=>zeN x.1) mD fun x=>.int .i64 (gI x.1 x.2)⟩
theorem zyH(ρ:Nat->Int):yO Tryz.prog ρ KL:=zei fun x I=>zyG ρ x I
noncomputable def KM:En:=⟨62,false,b7 CM jg fun l=>yW (ze5 l l.length)⟩
theorem zyI(ρ:Nat->Int):yO Tryz.prog ρ KM:=zei fun l F=>zp8 ρ l F
noncomputable def pO:List En:=[BJ,vL,oC,KL,CW,KM]
theorem zt5(ρ:Nat->Int):fk Tryz.prog ρ pO:=⟨GY ρ,KI ρ,GW ρ,zyH ρ,zyF ρ,zyI ρ,trivial⟩
def CX(x:VgX):Prop:=yC x/\x.g.name.length<2^60/\∀n∈x.g.nodes,NdR n
def jX(u:Un)(g:Gr):Bool:=zd8 g.name&&em u g
def k7(t:List Int):List Bool:=t.map fun x=>decide (0<x)
theorem zqe{t:List Int}{m:Nat}(h:t.length=16)(M:m<16):(k7 t).getD m false=decide (0<t.getD m 0):=by
 rw[k7,cS,dK,cS,aR ac];rfl
theorem zqf{t:List Int}{m:Nat}{v:Int}(L:0<v):(k7 t).set m true=k7 (t.set m v):=by
 rw[k7,k7,oy,cF L]
theorem zcA:gl (fun _=>false)=k7 (List.replicate 16 0):=dk
theorem CY{u:Un}{g:Gr}(h:em u g=true):(0<=g.params/\g.params<=6)/\(g.nodes.length:Int)<=2000:=by
 unfold em at h;simp only[j4]at h;exact h.1.1.1
theorem KN{u:Un}{g:Gr}(h:em u g=true){i:Nat}{n:Nd}(m:g.nodes[i]?=some n):zeo g.nodes i≠0/\eS u g n=true:=by
 unfold em at h;simp only[dC]at h;have A:i<g.nodes.length:=by
  by_cases c:i<g.nodes.length
  .exact c
  .rw[fg ac]at m;cases m
 have:=gS.1 h.1.1.2 i (jq.2 A);rw[kZ,m,dC,jI]at this;exact this
theorem vM{u:Un}{g:Gr}(h:em u g=true):jC g.nodes=true/\zfu g.nodes=true/\zeo g.nodes g.value=1/\zeo g.nodes g.state=2/\zeT g.nodes g.value=0/\zeT g.nodes g.state=0:=by
 unfold em at h;simp only[j4]at h;obtain⟨⟨_,⟨⟨⟨⟨⟨a1,zeU⟩,_⟩,_⟩,_⟩,_⟩⟩,⟨⟨a3,a4⟩,zeD⟩,a6⟩:=h;exact⟨a1,zeU,a3,a4,zeD,a6⟩
theorem ze{l:List Nd}{i:Int}(h:zeo l i≠0):0<=i/\i<l.length:=by
 by_cases c:i<0\/(l.length:Int)<=i
 .exact absurd (by rw[zeo,az c]) h
 .omega
theorem zcB{u:Un}{g:Gr}(A:0<=g.params)(h1:g.params<=6)(h2:(g.nodes.length:Int)<=2000)(o:∀(i:Nat) (n:Nd),g.nodes[i]?=some n->zeo g.nodes i≠0/\eS u g n=true)(U:jC g.nodes=true)(Y:zfu g.nodes=true)
 (F:zeo g.nodes g.value=1) (Z:zeo g.nodes g.state=2) (m:zeT g.nodes g.value=0) (V:zeT g.nodes g.state=0):em u g=true:=by
 obtain⟨z,M⟩:=ze (l:=g.nodes) (i:=g.value) (by rw[F];decide);obtain⟨L,K⟩:=ze (l:=g.nodes) (i:=g.state) (by rw[Z];decide);have hr:((List.range g.nodes.length).all (kZ u g))=true:=gS.2 fun j O=>by
  have O:=jq.1 O;obtain⟨a,b⟩:=o j _ (aR O);rw[kZ,aR O];simp only[cF a,b,qf]
 unfold em;rw[hr,U,Y,F,Z,m,V,cF A,cF h1,cF h2,cF z,cF M,cF L,cF K];rfl
theorem zqg{u:Un}{g:Gr}(h:¬(zd8 g.name=true/\em u g=true)):jX u g=false:=by
 unfold jX;cases a:zd8 g.name<;>cases b:em u g<;>simp_all
theorem zqh{l:List Nd}(h:∀(i:Nat) (n:Nd),l[i]?=some n->zeo l i≠0):(∀(i:Nat) (n:Nd),l[i]?=some n->NdOk n i)/\∀n∈l,(n.op=31->LoopOk n)/\(n.op=3->0<=n.imm/\n.imm<=255)/\(n.op=30->0<=n.imm):=by
 refine⟨fun i n m=>(vo m (h i n m)).1,fun n m=>?_⟩;obtain⟨j,O,e⟩:=o0 m;have C:l[j]?=some n:=by rw[aR O,e]
 obtain⟨a,b,c⟩:=vo C (h j n C);refine⟨fun e=>?_,a.lv,fun e=>(b e).1⟩;obtain⟨M,Z,g,A⟩:=a.lp e;exact⟨M,Z,g,A⟩
theorem zt7{l:List Nd}(h:∀(j:Nat) (n:Nd),l[j]?=some n->∀(k:Nat) (m:Nd),k<j->l[k]?=some m->m≠n):l.Nodup:=by
 refine zb.2 fun i j A O I e=>?_;exact h j _ (aR O) i _ I (aR A) e
theorem zt8{l:List Nd}(h:l.Nodup){i j:Nat}{n m:Nd}(I:i<j)(A:l[i]?=some m)(O:l[j]?=some n):m≠n:=by
 have L:j<l.length:=by
  by_cases c:j<l.length
  .exact c
  .rw[fg ac]at O;cases O
 have C:i<l.length:=ac;rw[aR C,aA]at A;rw[aR L,aA]at O;rw[<-A,<-O];exact zb.1 h i j C L I
end
section
theorem KO:∀(l:List Nd) (seen:List (List UInt8)),l.Nodup->(∀x∈l,NdR x)->(∀x∈l,zdS seen (zes x)=false)->zdT seen (l.map zes)=false
 |[],_,_,_,_=>rfl
 |a::l,seen,hnd,hr,hs=>by
  rw[yN]at hnd;rw[dL,zdT,hs a fh,jb];refine KO l _ hnd.2 (fun x I=>hr x (fp _ I)) fun x I=>?_;have e:zdS (seen++[zes a]) (zes x)=(zdS seen (zes x)||zdS [zes a] (zes x)):=by unfold zdS;rw[vk]
  rw[e,hs x (fp _ I),jb];have C:zdS [zes a] (zes x)=decide (zes a=zes x):=by simp[zdS]
  rw[C,jN];exact fun o=>hnd.1 (by rw[J2 (hr a fh) (hr x (fp _ I)) o];exact I)
theorem zyJ{l:List Nd}(J:l.Nodup)(hr:∀x∈l,NdR x):jC l=true:=by
 unfold jC;rw[KO l [] J hr fun x _=>rfl];rfl
def tyVdD.tyF:=ad @cN (ad @b9 (ad @lI (ad @dA (ad @ea (ad @eV (ad @eO (ad @m8 (ad @m9 (ad @iq (ad @jL (ad @kQ (ad @xo (ad @Fq (ad @mZ (@qk)))))))))))))))
open tyVdD
noncomputable def nN:{c:SC // aC 179 (Tryz.f30.body.getD .skip)=c}:=by
 refine⟨?_,?_⟩;rotate_left
 .simp only[Tryz.f30,a5,aC,zdG,zdD,zdH,zdI,Nat.blt,Nat.ble];rfl
theorem KP{l:List Nd}{i:Nat}(h:i<l.length):((ze5 l l.length).map fun b=>[AV.lst (b.map fun x=>[AV.bool x])])[i]?=some [.lst (((ze5 l l.length).getD i []).map fun x=>[AV.bool x])]:=by
 have F:i<(ze5 l l.length).length:=by rw[pD];exact h
 rw[dK,cS,aR F];rfl
theorem KQ{l:List Nd}{i:Nat}(h:i<l.length):((ze5 l l.length).getD i []).length=16:=by
 have:∀n,i<n->n<=l.length->((ze5 l n).getD i []).length=16:=by
  intro n;induction n with
  |zero=>intro h;omega
  |succ n ih=>
   intro Z g;rw[ze5];by_cases e:i<n
   .rw[B6 (by rw[pD];exact e)];exact ih e ac
   .rw[B7 (by rw[pD];omega)];simp
 exact this _ h (aM _)
theorem KR{b:List Bool}{j:Nat}(h:j<b.length):(b.map fun x=>[AV.bool x])[j]?=some [.bool (b.getD j false)]:=by
 rw[dK,cS,aR h];rfl
set_option maxRecDepth 100000 in
theorem zyK(ρ:Nat->Int)(x:VgX)(hx:CX x):bc Tryz.prog ρ 30 (mH x) (.bool (jX x.u x.g)):=zer fit (pls:=pls) (zt5 ρ) (.cons (.agg (sD _)) (.cons (.agg (Gr.pure _)) .nil)) (.bool _) (by
 obtain⟨u,g⟩:=x;obtain⟨⟨F,hua,huf⟩,hnm,hndr⟩:=hx;have hw:Plain (zdp pls pO) 30:=zej (fun _=>rfl) rfl;rw[mH];simp only[]at F hua huf hnm hndr⊢;have hnl:=F.1;have q16:(16:Int)≠0:=dk;have kv:∀H,zdw Tryz.prog (zdp pls pO) 29 [.str g.name] H fun v H'=>v=.bool (zd8 g.name)/\H'=H:=fun H=>zeq (enc:=kS) (out:=fun x=>.bool (zd8 x)) sJ (x:=g.name) rfl hnm;have ks:∀H,zdw Tryz.prog (zdp pls pO) 60 [zeu g.nodes] H fun v H'=>v=zel (zd0 g.nodes g.nodes.length)/\H'=H:=fun H=>KJ (fun _=>rfl) _ F H;obtain⟨R,Z⟩:∃R,jX u g=R:=⟨_,rfl⟩;have hF:¬(zd8 g.name=true/\em u g=true)->R=false:=fun h=>by rw[<-Z];exact zqg h
 have hT:zd8 g.name=true->em u g=true->R=true:=fun h1 Y=>by rw[<-Z,jX,h1,Y];rfl
 rw[Z];clear Z;by_cases c0':zd8 g.name=false
 .have Z:=hF (fun h=>by rw[c0']at h;exact absurd h.1 dk);refine zdv (M:=179) (rs:=[.tmp 4]) (hw.call _) hw.ice hw.froz Tryz.func30 rfl rfl nN.2 rfl ?_;dsimp only[nN,zds,Nat.reduceAdd];repeat' (first
   |(apply zdk ?_;clear hK K)|apply Ry.o ?_|(apply bL ?_;first|refine Rx.k (kv _) ?_)|(apply a2 (fun C L=>?_) (fun C L=>?_)<;>try(cases C;done))|(apply aD (fun z V=>?_) (fun z V=>?_)<;>try(cases z;done))|apply ak ?_|(apply zdl fun K hK=>?_)|apply am ?_|fail)
  all_goals (refine⟨eI,_,eR,?_⟩;try simp only[zdn])
  rw[Z]
 have c0:zd8 g.name=true:=by simpa using c0'
 clear c0';by_cases c1:g.params<0
 .have Z:=hF (fun h=>by have:=(CY h.2).1.1;omega);refine zdv (M:=179) (rs:=[.tmp 4]) (hw.call _) hw.ice hw.froz Tryz.func30 rfl rfl nN.2 rfl ?_;dsimp only[nN,zds,Nat.reduceAdd];repeat' (first
   |(apply zdk ?_;clear hK K)|apply Ry.o ?_|(apply bL ?_;first|refine Rx.k (kv _) ?_)|(apply a2 (fun C L=>?_) (fun C L=>?_)<;>try(cases C;done))|(apply aD (fun z V=>?_) (fun z V=>?_)<;>try(cases z;done))|apply ak ?_|(apply zdl fun K hK=>?_)|apply am ?_|fail)
  all_goals (refine⟨eI,_,eR,?_⟩;try simp only[zdn])
  rw[Z]
 by_cases c2:6<g.params
 .have Z:=hF (fun h=>by have:=(CY h.2).1.2;omega);refine zdv (M:=179) (rs:=[.tmp 4]) (hw.call _) hw.ice hw.froz Tryz.func30 rfl rfl nN.2 rfl ?_;dsimp only[nN,zds,Nat.reduceAdd];repeat' (first
   |(apply zdk ?_;clear hK K)|apply Ry.o ?_|(apply bL ?_;first|refine Rx.k (kv _) ?_)|(apply a2 (fun C L=>?_) (fun C L=>?_)<;>try(cases C;done))|(apply aD (fun z V=>?_) (fun z V=>?_)<;>try(cases z;done))|apply ak ?_|(apply zdl fun K hK=>?_)|apply am ?_|fail)
  all_goals (refine⟨eI,_,eR,?_⟩;try simp only[zdn])
  rw[Z]
 by_cases c3:(2000:Int)<g.nodes.length
 .have Z:=hF (fun h=>by have:=(CY h.2).2;omega);refine zdv (M:=179) (rs:=[.tmp 4]) (hw.call _) hw.ice hw.froz Tryz.func30 rfl rfl nN.2 rfl ?_;dsimp only[nN,zds,Nat.reduceAdd];repeat' (first
   |(apply zdk ?_;clear hK K)|apply Ry.o ?_|(apply bL ?_;first|refine Rx.k (kv _) ?_)|(apply a2 (fun C L=>?_) (fun C L=>?_)<;>try(cases C;done))|(apply aD (fun z V=>?_) (fun z V=>?_)<;>try(cases z;done))|apply ak ?_|(apply zdl fun K hK=>?_)|apply am ?_|fail)
  all_goals (refine⟨eI,_,eR,?_⟩;try simp only[zdn])
  rw[Z]
 have hsl:=zf2 g.nodes g.nodes.length;refine zdv (M:=179) (rs:=[.tmp 4]) (hw.call _) hw.ice hw.froz Tryz.func30 rfl rfl nN.2 rfl ?_;dsimp only[nN,zds,Nat.reduceAdd];repeat' (first
  |(apply zdk ?_;clear hK K)|apply Ry.o ?_|(apply bL ?_;first|refine Rx.k (kv _) ?_|refine Rx.k (ks _) ?_)|(apply a2 (fun C L=>?_) (fun C L=>?_)<;>try(cases C;done))|(apply aD (fun z V=>?_) (fun z V=>?_)<;>try(cases z;done))|apply ak ?_|(apply zdl fun K hK=>?_)|apply au ?_|apply zdm ?_|fail)
 refine zef [2,3,5] [0,1] 6 g.nodes.length (fun i E H=>∀j,j<i->zeo g.nodes j≠0) eE (fun j hj=>ac) ?_;rintro i E Hi hi hcE hrH I hsI hJ;(try simp only[zdO,zdF,aX,zdy,zdJ,Nat.reduceBEq, *]at hcE);(try simp only[zdO,zdF,aX,zdy,zdJ,Nat.reduceBEq, *]at hrH);(try simp only[zdA,zec,bC,Nat.reduceAdd]at I);have hB0:(0 == Hi.next)=false:=zdC ac;have hC0:(Hi.next == 0)=false:=zdC ac;have hB1:(1 == Hi.next)=false:=zdC ac;have hC1:(Hi.next == 1)=false:=zdC ac;have ni:2<=Hi.next:=I
 by_cases hlt:i<g.nodes.length
 .have A:(i:Int)<g.nodes.length:=by omega
  have hsg:=yB hlt;by_cases hs0:zeo g.nodes i=0
  .have Z:=hF (fun h=>(KN h.2 (aR hlt)).1 hs0);rw[hs0]at hsg;repeat' (first
    |(apply zdk ?_;clear hK K)|apply Ry.o ?_|(apply aD (fun z V=>?_) (fun z V=>?_)<;>try(cases z;done))|apply ak ?_|(apply zdl fun K hK=>?_)|apply au ?_|apply zdm ?_|apply am ?_|fail)
   all_goals (refine⟨eI,_,eR,?_⟩;try simp only[zdn])
   rw[Z]
  .repeat' (first
    |(apply zdk ?_;clear hK K)|apply Ry.o ?_|(apply aD (fun z V=>?_) (fun z V=>?_)<;>try(cases z;done))|apply ak ?_|(apply zdl fun K hK=>?_)|apply au ?_|apply zdm ?_|fail)
   refine⟨ac,zdz,zdz,eN,nF,?_⟩;intro j hj;by_cases e:j=i
   .rw[e];exact hs0
   .exact hJ j ac
 have A:¬(i:Int)<g.nodes.length:=ac;have hsort:∀(j:Nat) (n:Nd),g.nodes[j]?=some n->zeo g.nodes j≠0:=fun j n h=>by
  have hj:j<g.nodes.length:=by
   by_cases c:j<g.nodes.length
   .exact c
   .rw[fg ac]at h;cases h
  exact hJ j ac
 obtain⟨hnok,hlok⟩:=zqh hsort;clear hJ;have hmk:∀H:Hp,ze7 Tryz.prog H 121 (.int .i64 16) (.int .i64 16)=some (.sl H.next 0 16 1,H.alloc (.cells ((k7 (List.replicate 16 0)).map .bool) 0 true)):=fun H=>by rw[<-zcA,<-Kx];exact Gt 16 ac
 have hks:∀(a b:Nd) (H:Hp),a.kids.length<2^60->zdw Tryz.prog (zdp pls pO) 39 [.agg a.cells,.agg b.cells] H fun v H'=>v=.bool (decide (a=b))/\H'=H:=fun a b H h=>BH (fun _=>rfl) a b h H;have hlv:∀(m:Int) (H:Hp),zdw Tryz.prog (zdp pls pO) 61 [zeu g.nodes,.int .i64 m] H fun v H'=>v=.int .i64 (gI g.nodes m)/\H'=H:=fun m H=>zeq (enc:=mD) (ok:=fun x=>zeN x.1) (out:=fun x=>.int .i64 (gI x.1 x.2)) GV (x:=(g.nodes,m)) rfl F;have hro:∀(m:Int) (H:Hp),zdw Tryz.prog (zdp pls pO) 50 [zeu g.nodes,.int .i64 m] H fun v H'=>v=.int .i64 (zeo g.nodes m)/\H'=H:=fun m H=>zct (fun _=>rfl) _ _ F H;have hlk:∀n∈g.nodes,n.op=31->LoopOk n:=fun n hn=>(hlok n hn).1;repeat' (first
  |(apply zdk ?_;clear hK K)|apply Ry.o ?_|(apply aD (fun z V=>?_) (fun z V=>?_)<;>try(cases z;done))|apply ak ?_|(apply zdl fun K hK=>?_)|apply au ?_|apply zdr ?_)
 refine zef [2,3,5,7] [0,1] 8 g.nodes.length (fun i E H=>∃t:List Int,t.length=16/\H.get Hi.next=some (.cells ((k7 t).map .bool) 0 true)/\fV g.nodes (List.replicate 16 0)=fV (g.nodes.drop i) t/\∀(j:Nat) (n:Nd),j<i->g.nodes[j]?=some n->eS u g n=true/\k5 g.nodes n=false/\∀(k:Nat) (m:Nd),k<j->g.nodes[k]?=some m->m≠n) eE ⟨List.replicate 16 0,aB,yc,rfl,fun j n h=>ac⟩ ?_;clear A hlt;rintro U E2 H2 hi2 hcE hrH I hsI ⟨t,ht,C,hJ1,hJ2⟩;(try simp only[zdO,zdF,aX,zdy,zdJ,Nat.reduceBEq, *]at hcE);(try simp only[zdO,zdF,aX,zdy,zdJ, *]at hrH);(try simp only[zdA,]at I);have hB0:(0 == H2.next)=false:=zdC ac;have hC0:(H2.next == 0)=false:=zdC ac;have hB1:(1 == H2.next)=false:=zdC ac;have hC1:(H2.next == 1)=false:=zdC ac;have n2:Hi.next+1<=H2.next:=I
 by_cases hlt:U<g.nodes.length
 .have A:(U:Int)<g.nodes.length:=by omega
  have hgx:g.nodes[U]?=some g.nodes[U]:=aR hlt;have hmem:=dr hlt;have hnk:=F.2 _ hmem;obtain⟨k31,k3,k30⟩:=hlok _ hmem;have hdr:fV (g.nodes.drop U) t=if g.nodes[U].op=31 then (if 0<t.getD g.nodes[U].imm.toNat 0 then none else fV (g.nodes.drop (U+1)) (t.set g.nodes[U].imm.toNat (dR g.nodes[U].kids.length)))else fV (g.nodes.drop (U+1)) t:=by rw[fq hlt,fV]
  generalize g.nodes[U]=n at *;repeat' (first
   |(apply zdk ?_;clear hK K)|apply Ry.o ?_|apply b4 ?_|(apply aD (fun z V=>?_) (fun z V=>?_)<;>try(cases z;done))|apply ak ?_|(apply zdl fun K hK=>?_)|apply au ?_|apply zdm ?_|fail)
  generalize hHb:Hp.set (Hp.alloc _ _) _ _=Hb;have nb:H2.next+1<=Hb.next:=BS
  have gb:Hb.get Hi.next=some (.cells ((k7 t).map .bool) 0 true):=by rw[<-hHb,aW,ai ac,zdq,ai ac];exact C
  have g5:Hb.get H2.next=some (.cells n.cells 0 true):=BT
  have g0:Hb.get 0=H2.get 0:=CS;have g1:Hb.get 1=H2.get 1:=CS;clear hHb C;refine zef [2,3,5,7,8,9] [0,1] 10 U (fun k E H=>H.get Hi.next=some (.cells ((k7 t).map .bool) 0 true)/\H.get H2.next=some (.cells n.cells 0 true)/\∀(k':Nat) (m:Nd),k'<k->g.nodes[k']?=some m->m≠n) eE ⟨gb,g5,fun k' m h=>ac⟩ ?_;clear gb g5;rintro k E3 H3 hk hcE hrH I hsI ⟨gb,g5,hne⟩;(try simp only[zdO,zdF,aX,zdy,zdJ,Nat.reduceBEq, *]at hcE);(try simp only[zdO,zdF,aX, *]at hrH);(try simp only[zdA,zdQ,zec,bC,Nat.reduceAdd]at I);have hB0:(0 == H3.next)=false:=zdC ac;have hC0:(H3.next == 0)=false:=zdC ac;have hB1:(1 == H3.next)=false:=zdC ac;have hC1:(H3.next == 1)=false:=zdC ac;have n3:H2.next+1<=H3.next:=ac
  by_cases hkt:k<U
  .have hkt':(k:Int)<U:=by omega
   have hgk:g.nodes[k]?=some g.nodes[k]:=aR ac;have hmk':=F.2 _ (dr (show k<g.nodes.length by omega));have hmn:=fun h:g.nodes[k]=n=>hF (fun hv=>zt8 (ztX (fun x hx=>hndr x hx) (vM hv.2).1) hkt (by rw[hgk,h]) hgx rfl);generalize g.nodes[k]=m at *;by_cases he:m=n
   .have Z:=hmn he;have hd:decide (m=n)=true:=cF he;clear hmn he;repeat' (first
     |(apply zdk ?_;clear hK K)|apply Rx.o ?_|(apply iO ?_;first|refine Rx.k (hks _ _ _ ac) ?_)|(apply aS (fun z V=>?_) (fun z V=>?_)<;>try(cases z;done))|apply ak ?_|(apply zdl fun K hK=>?_)|(apply zdL 17 [(1,6),(4,6),(5,6)] fun K hK=>?_)|(apply zdK ?_;try intro _)|(apply zdM ?_ ?_<;>clear hK K)|apply bl ?_|apply au ?_|apply zdm ?_|apply am ?_|fail)
    all_goals first|exact zdR|skip
    all_goals (refine⟨eI,_,eR,?_⟩;try simp only[zdn])
    rw[Z]
   .have hd:decide (m=n)=false:=cX he;clear hmn;repeat' (first
     |(apply zdk ?_;clear hK K)|apply Rx.o ?_|(apply iO ?_;first|refine Rx.k (hks _ _ _ ac) ?_)|(apply aS (fun z V=>?_) (fun z V=>?_)<;>try(cases z;done))|apply ak ?_|(apply zdl fun K hK=>?_)|(apply zdL 17 [(1,6),(4,6),(5,6)] fun K hK=>?_)|(apply zdK ?_;try intro _)|(apply zdM ?_ ?_<;>clear hK K)|apply bl ?_|apply au ?_|apply zdm ?_|fail)
    all_goals first|exact zdR|skip
    refine⟨ac,zdz,zdz,eN,(by simp only[zdy,Nat.reduceBEq, *];exact zfq (n:=U) ac ac),?_⟩;refine⟨gb,g5,fun k' m' h1 Y=>?_⟩;by_cases e:k'=k
    .rw[e,hgk,aA]at Y;rw[<-Y];exact he
    .exact hne k' m' ac Y
  clear g0 g1;have hkt':¬(k:Int)<U:=ac;have hall:∀(k':Nat) (m:Nd),k'<U->g.nodes[k']?=some m->m≠n:=fun k' m h1 Y=>hne k' m ac Y;have o:eS u g n=true->k5 g.nodes n=false->∀(j:Nat) (x:Nd),j<U+1->g.nodes[j]?=some x->eS u g x=true/\k5 g.nodes x=false/\∀(k:Nat) (m:Nd),k<j->g.nodes[k]?=some m->m≠x:=fun h1 Y j x hj hx=>by
   by_cases e:j=U
   .subst e;rw[hgx,aA]at hx;subst hx;exact⟨h1,Y,hall⟩
   .exact hJ2 j x ac hx
  have hbad:eS u g n=false->R=false:=fun h=>hF fun hv=>by have:=(KN hv.2 hgx).2;rw[h]at this;cases this
  have hbad2:zfu g.nodes=false->R=false:=fun h=>hF fun hv=>by have:=(vM hv.2).2.1;rw[h]at this;cases this
  have O:n.op≠3->k5 g.nodes n=false:=fun h=>by unfold k5;rw[cX h,dZ,dZ]
  have J:n.op≠31->fV g.nodes (List.replicate 16 0)=fV (g.nodes.drop (U+1)) t:=fun h=>by rw[hJ1,hdr,ai h]
  clear hall hne hJ2 hF hT;by_cases Y:n.op=2
  .have hr:eS u g n=decide (n.imm<g.params):=by rw[eS,az Y]
   by_cases hp:g.params<=n.imm
   .have Z:=hbad CT;repeat' (first
     |(apply zdk ?_;clear hK K)|apply Ry.o ?_|(apply aD (fun z V=>?_) (fun z V=>?_)<;>try(cases z;done))|apply ak ?_|(apply zdl fun K hK=>?_)|apply au ?_|apply am ?_|apply zdr ?_)
    all_goals (refine⟨eI,_,eR,?_⟩;try simp only[zdn])
    rw[Z]
   .repeat' (first
     |(apply zdk ?_;clear hK K)|apply Ry.o ?_|(apply aD (fun z V=>?_) (fun z V=>?_)<;>try(cases z;done))|apply ak ?_|(apply zdl fun K hK=>?_)|apply au ?_|apply zdm ?_|apply zdr ?_)
    refine⟨ac,zdz,zdz,eN,nF,?_⟩;exact⟨t,ht,gb,J ac,o CU (O ac)⟩
  by_cases h23:n.op=23
  .have hr:eS u g n=decide (n.imm<u.arrays.length):=by rw[eS,ai Y,az (.inl h23)]
   by_cases hp:(u.arrays.length:Int)<=n.imm
   .have Z:=hbad CT;clear Y;repeat' (first
     |(apply zdk ?_;clear hK K)|apply Ry.o ?_|(apply aD (fun z V=>?_) (fun z V=>?_)<;>try(cases z;done))|apply ak ?_|(apply zdl fun K hK=>?_)|apply au ?_|apply zdm ?_|apply am ?_|apply zdr ?_)
    all_goals (refine⟨eI,_,eR,?_⟩;try simp only[zdn])
    rw[Z]
   .clear Y;repeat' (first
     |(apply zdk ?_;clear hK K)|apply Ry.o ?_|(apply aD (fun z V=>?_) (fun z V=>?_)<;>try(cases z;done))|apply ak ?_|(apply zdl fun K hK=>?_)|apply au ?_|apply zdm ?_|apply zdr ?_)
    refine⟨ac,zdz,zdz,eN,nF,?_⟩;exact⟨t,ht,gb,J ac,o CU (O ac)⟩
  by_cases h28:n.op=28
  .have hr:eS u g n=decide (n.imm<u.arrays.length):=by rw[eS,ai Y,az (.inr h28)]
   by_cases hp:(u.arrays.length:Int)<=n.imm
   .have Z:=hbad CT;clear Y h23;repeat' (first
     |(apply zdk ?_;clear hK K)|apply Ry.o ?_|(apply aD (fun z V=>?_) (fun z V=>?_)<;>try(cases z;done))|apply ak ?_|(apply zdl fun K hK=>?_)|apply au ?_|apply am ?_|apply zdr ?_)
    all_goals (refine⟨eI,_,eR,?_⟩;try simp only[zdn])
    rw[Z]
   .clear Y h23;repeat' (first
     |(apply zdk ?_;clear hK K)|apply Ry.o ?_|(apply aD (fun z V=>?_) (fun z V=>?_)<;>try(cases z;done))|apply ak ?_|(apply zdl fun K hK=>?_)|apply au ?_|apply zdm ?_|apply zdr ?_)
    refine⟨ac,zdz,zdz,eN,nF,?_⟩;exact⟨t,ht,gb,J ac,o CU (O ac)⟩
  by_cases h30:n.op=30
  .obtain⟨m,hm⟩:=eL (k30 h30);have e1:IntKind.wrap .i64 ((n.kids.length:Int)-1)=(n.kids.length:Int)-1:=ze3 ac ac;have hr:eS u g n=(decide ((m:Int)<u.funcs.length)&&decide ((n.kids.length:Int)-1=(u.funcs.map Gr.params).getD m 0)):=by
    rw[eS,ai ac,ai ac,az h30,hm,dQ]
   clear Y h23 h28;by_cases hp:(u.funcs.length:Int)<=m
   .have Z:=hbad (by rw[hr,cX ac];rfl);repeat' (first
     |(apply zdk ?_;clear hK K)|apply Ry.o ?_|(apply aD (fun z V=>?_) (fun z V=>?_)<;>try(cases z;done))|apply ak ?_|(apply zdl fun K hK=>?_)|(apply zdL 28 [(1,20),(3,20),(4,20),(8,20),(9,20),(12,20),(14,20),(17,20)] fun K hK=>?_)|(apply zdK ?_;try intro _)|(apply zdM ?_ ?_<;>clear hK K)|apply bl ?_|(apply nk (fun C L=>?_) (fun C L=>?_)<;>try(cases C;done))|apply au ?_|apply am ?_|apply zdr ?_)
    all_goals first|exact zdR|skip
    all_goals (refine⟨eI,_,eR,?_⟩;try simp only[zdn])
    rw[Z]
   .have hgf:u.funcs[m]?=some u.funcs[m]:=aR ac;have hgp2:(u.funcs.map Gr.params).getD m 0=u.funcs[m].params:=by rw[cS,dK,hgf];rfl
    rw[hgp2]at hr;clear hgp2;generalize u.funcs[m]=q at *;by_cases hq:q.params=(n.kids.length:Int)-1
    .repeat' (first
      |(apply zdk ?_;clear hK K)|apply Ry.o ?_|(apply aD (fun z V=>?_) (fun z V=>?_)<;>try(cases z;done))|apply ak ?_|(apply zdl fun K hK=>?_)|(apply zdL 28 [(1,20),(3,20),(4,20),(8,20),(9,20),(12,20),(14,20),(17,20)] fun K hK=>?_)|(apply zdK ?_;try intro _)|(apply zdM ?_ ?_<;>clear hK K)|apply bl ?_|(apply nk (fun C L=>?_) (fun C L=>?_)<;>try(cases C;done))|apply au ?_|apply zdm ?_|apply zdr ?_)
     all_goals first|exact zdR|skip
     refine⟨ac,zdz,zdz,eN,nF,?_⟩;exact⟨t,ht,gb,J ac,o (by rw[hr,cF ac,cF hq.symm];rfl) (O ac)⟩
    .have hq':¬(n.kids.length:Int)-1=q.params:=fun e=>hq e.symm;have Z:=hbad (by rw[hr,cX hq',pt]);clear hq;repeat' (first
      |(apply zdk ?_;clear hK K)|apply Ry.o ?_|(apply aD (fun z V=>?_) (fun z V=>?_)<;>try(cases z;done))|apply ak ?_|(apply zdl fun K hK=>?_)|(apply zdL 28 [(1,20),(3,20),(4,20),(8,20),(9,20),(12,20),(14,20),(17,20)] fun K hK=>?_)|(apply zdK ?_;try intro _)|(apply zdM ?_ ?_<;>clear hK K)|apply bl ?_|(apply nk (fun C L=>?_) (fun C L=>?_)<;>try(cases C;done))|apply au ?_|apply am ?_|apply zdr ?_)
     all_goals first|exact zdR|skip
     all_goals (refine⟨eI,_,eR,?_⟩;try simp only[zdn])
     rw[Z]
  have hrt:eS u g n=true:=by rw[eS,ai Y,ai ac,ai h30]
  by_cases h31:n.op=31
  .have ho:=k31 h31;obtain⟨m,hm⟩:=eL ho.i0;have hm16:m<16:=by have:=ho.i1;omega
   have hixq:=yU (q:=Hi.next) hm16;have hld:=Kp gb (m:=m) (by rw[k7,cE];omega);rw[zqe ht hm16]at hld;rw[az h31,hm,dQ]at hdr;have hst:=CL gb (m:=m) (by rw[k7,cE];omega) true;clear Y h23 h28 h30;by_cases hp:0<t.getD m 0
   .have Z:=hbad2 (zqa (by rw[hJ1,hdr,az hp]));rw[cF hp]at hld;repeat' (first
     |(apply zdk ?_;clear hK K)|apply Ry.o ?_|(apply aD (fun z V=>?_) (fun z V=>?_)<;>try(cases z;done))|apply ak ?_|(apply zdl fun K hK=>?_)|apply au ?_|apply am ?_|apply zdr ?_)
    all_goals (refine⟨eI,_,eR,?_⟩;try simp only[zdn])
    rw[Z]
   .rw[cX hp]at hld;rw[ai hp]at hdr;repeat' (first
     |(apply zdk ?_;clear hK K)|apply Ry.o ?_|apply b4 ?_|(apply aD (fun z V=>?_) (fun z V=>?_)<;>try(cases z;done))|apply ak ?_|(apply zdl fun K hK=>?_)|apply au ?_|apply zdm ?_|apply zdr ?_)
    refine⟨ac,zdz,zdz,eN,nF,?_⟩;exact⟨t.set m (dR n.kids.length),by rw[mg];exact ht,by rw[aW,az rfl,zqf ho.lv.2],by rw[hJ1,hdr],o hrt (O ac)⟩
  by_cases h3:n.op=3
  .obtain⟨m0,zeW⟩:=k3 h3;have hd1:IntKind.wrap .i64 (n.imm.tdiv 16)=n.imm.tdiv 16:=by rw[kV m0];exact ze3 ac ac
   have hd2:IntKind.wrap .i64 (n.imm.tmod 16)=n.imm.tmod 16:=by rw[Int.tmod_eq_emod_of_nonneg m0];exact ze3 ac ac
   have hlr:k5 g.nodes n=(decide (0<gI g.nodes (n.imm.tdiv 16))&&decide (gI g.nodes (n.imm.tdiv 16)<=n.imm.tmod 16)):=by unfold k5;rw[cF h3,dw]
   have hbl:k5 g.nodes n=true->R=false:=fun h=>hbad2 (zp9 hlk hmem (fun _=>⟨m0,zeW⟩) h);have hkl:=hlv (n.imm.tdiv 16);clear Y h23 h28 h30 h31;generalize gI g.nodes (n.imm.tdiv 16)=v at *;by_cases hv0:0<v
   .by_cases hv1:v<=n.imm.tmod 16
    .have Z:=hbl (by rw[hlr,cF hv0,cF hv1];rfl);repeat' (first
      |(apply zdk ?_;clear hK K)|apply Ry.o ?_|(apply bL ?_;first|refine Rx.k (hkl _) ?_)|(apply a2 (fun C L=>?_) (fun C L=>?_)<;>try(cases C;done))|(apply aD (fun z V=>?_) (fun z V=>?_)<;>try(cases z;done))|apply ak ?_|(apply zdl fun K hK=>?_)|apply au ?_|apply am ?_|apply zdr ?_)
     all_goals (refine⟨eI,_,eR,?_⟩;try simp only[zdn])
     rw[Z]
    .repeat' (first
      |(apply zdk ?_;clear hK K)|apply Ry.o ?_|(apply bL ?_;first|refine Rx.k (hkl _) ?_)|(apply a2 (fun C L=>?_) (fun C L=>?_)<;>try(cases C;done))|(apply aD (fun z V=>?_) (fun z V=>?_)<;>try(cases z;done))|apply ak ?_|(apply zdl fun K hK=>?_)|apply au ?_|apply zdm ?_|apply zdr ?_)
     refine⟨ac,zdz,zdz,eN,nF,?_⟩;exact⟨t,ht,gb,J ac,o hrt (by rw[hlr,cX hv1,pt])⟩
   .repeat' (first
     |(apply zdk ?_;clear hK K)|apply Ry.o ?_|(apply bL ?_;first|refine Rx.k (hkl _) ?_)|(apply a2 (fun C L=>?_) (fun C L=>?_)<;>try(cases C;done))|(apply aD (fun z V=>?_) (fun z V=>?_)<;>try(cases z;done))|apply ak ?_|(apply zdl fun K hK=>?_)|apply au ?_|apply zdm ?_|apply zdr ?_)
    refine⟨ac,zdz,zdz,eN,nF,?_⟩;exact⟨t,ht,gb,J ac,o hrt (by rw[hlr,cX hv0,dZ])⟩
  .repeat' (first
    |(apply zdk ?_;clear hK K)|apply Ry.o ?_|(apply aD (fun z V=>?_) (fun z V=>?_)<;>try(cases z;done))|apply ak ?_|(apply zdl fun K hK=>?_)|apply au ?_|apply zdm ?_|apply zdr ?_)
   refine⟨ac,zdz,zdz,eN,nF,?_⟩;exact⟨t,ht,gb,J h31,o hrt (O h3)⟩
 have A:¬(U:Int)<g.nodes.length:=ac;have hie:U=g.nodes.length:=ac;have hdist:g.nodes.Nodup:=zt7 fun j n hn k m h1 Y=>(hJ2 j n (by
  by_cases c:j<g.nodes.length
  .omega
  .rw[fg ac]at hn;cases hn) hn).2.2 k m h1 Y
 have hg1:∀(j:Nat) (n:Nd),g.nodes[j]?=some n->eS u g n=true/\k5 g.nodes n=false:=fun j n hn=>by
  have hj:j<g.nodes.length:=by
   by_cases c:j<g.nodes.length
   .exact c
   .rw[fg ac]at hn;cases hn
  obtain⟨a,b,_⟩:=hJ2 j n ac hn;exact⟨a,b⟩
 have hdv:jC g.nodes=true:=zyJ hdist hndr;have hvl:zfu g.nodes=true:=by
  rw[hie,oA (aM _)]at hJ1;refine znK hlk hJ1 fun n hn=>?_;obtain⟨j,hj,e⟩:=o0 hn;have hgj:g.nodes[j]?=some n:=ym;exact⟨(hlok n hn).2.1,(hg1 j n hgj).2⟩
 have hvg:zeo g.nodes g.value=1->zeo g.nodes g.state=2->zeT g.nodes g.value=0->zeT g.nodes g.state=0->em u g=true:=fun h6 h7 h8 h9=>zcB ac ac ac (fun j n hn=>⟨hsort j n hn,(hg1 j n hn).1⟩) hdv hvl h6 h7 h8 h9;clear hg1 hdist hdv hvl hJ1 hJ2 hie C ht;by_cases v1:zeo g.nodes g.value=1
 .by_cases s2:zeo g.nodes g.state=2
  .obtain⟨v0,vl⟩:=ze (l:=g.nodes) (i:=g.value) (by rw[v1];decide);obtain⟨s0,sl⟩:=ze (l:=g.nodes) (i:=g.state) (by rw[s2];decide);obtain⟨a,ha⟩:=eL v0;obtain⟨b,hb0⟩:=eL s0;have hal:a<g.nodes.length:=ac;have hbl:b<g.nodes.length:=ac;have hld:rr g.nodes:=⟨F,hnok⟩;have khd:∀H,zdw Tryz.prog (zdp pls pO) 62 [zeu g.nodes] H fun v H'=>v=.lst ((ze5 g.nodes g.nodes.length).map fun b=>[AV.lst (b.map fun x=>[AV.bool x])])/\H'=H:=fun H=>zeq (enc:=jg) (ok:=CM) (out:=fun l=>yW (ze5 l l.length)) qS (x:=g.nodes) rfl ⟨hld,ac⟩;have q1:=KP hal;have q2:=KP hbl;have l1:=KQ hal;have l2:=KQ hbl;have z1:zeT g.nodes (a:Int)=0↔∀t,t<16->((ze5 g.nodes g.nodes.length).getD a []).getD t false=false:=mask_zero hnok (fun j hj=>Cb hld (aM _) hj) hal;have z2:zeT g.nodes (b:Int)=0↔∀t,t<16->((ze5 g.nodes g.nodes.length).getD b []).getD t false=false:=mask_zero hnok (fun j hj=>Cb hld (aM _) hj) hbl;rw[ha,hb0]at hvg;rw[ha]at v1;rw[hb0]at s2;have hFm:¬(zeT g.nodes a=0/\zeT g.nodes b=0)->R=false:=fun h=>hF fun hv=>by
    have:=vM hv.2;rw[ha,hb0]at this;exact h ⟨this.2.2.2.2.1,this.2.2.2.2.2⟩
   rw[z1,z2]at hFm;have hTm:zeT g.nodes a=0->zeT g.nodes b=0->R=true:=fun h1 Y=>hT c0 (hvg v1 s2 h1 Y);rw[z1,z2]at hTm;clear z1 z2 hF hT hvg hnok hlok hlk v0 vl s0 sl hld;generalize (ze5 g.nodes g.nodes.length).getD a []=ra at *;generalize (ze5 g.nodes g.nodes.length).getD b []=rb at *;have kv1:=hro (a:Int);have ks2:=hro (b:Int);rw[v1]at kv1;rw[s2]at ks2;repeat' (first
    |(apply zdk ?_;clear hK K)|apply Ry.o ?_|(apply bL ?_;first|refine Rx.k (kv1 _) ?_|refine Rx.k (ks2 _) ?_|refine Rx.k (khd _) ?_)|(apply a2 (fun C L=>?_) (fun C L=>?_)<;>try(cases C;done))|(apply aD (fun z V=>?_) (fun z V=>?_)<;>try(cases z;done))|apply ak ?_|(apply zdl fun K hK=>?_)|apply au ?_|apply zdm ?_|apply zdr ?_)
   all_goals first|exact zdR|skip
   refine zef [3,12] [1] 13 16 (fun j E H=>∀t,t<j->ra.getD t false=false/\rb.getD t false=false) eE (fun t h=>ac) ?_;clear A;rintro j E4 H4 hj hcE hrH I hsI hJ;(try simp only[zdO,zdF,aX,zdy,zdJ,Nat.reduceBEq, *]at hcE);(try simp only[zdO,zdF,aX, *]at hrH);(try simp only[zdA,zdQ,zec,bC,Nat.reduceAdd]at I);have hB0:(1 == H4.next)=false:=zdC ac;have hC0:(H4.next == 1)=false:=zdC ac;by_cases hjt:j<16
   .have hjt':(j:Int)<16:=by omega
    have g1:=KR (b:=ra) (j:=j) ac;have g2:=KR (b:=rb) (j:=j) ac;by_cases x1:ra.getD j false=true
    .have Z:=hFm (fun h=>by have:=h.1 j hjt;rw[x1]at this;cases this);rw[x1]at g1;repeat' (first
      |(apply zdk ?_;clear hK K)|apply Ry.o ?_|(apply a2 (fun C L=>?_) (fun C L=>?_)<;>try(cases C;done))|(apply aD (fun z V=>?_) (fun z V=>?_)<;>try(cases z;done))|apply ak ?_|(apply zdl fun K hK=>?_)|apply au ?_|apply zdm ?_|apply am ?_|fail)
     all_goals (refine⟨eI,_,eR,?_⟩;try simp only[zdn])
     rw[Z]
    have x1':ra.getD j false=false:=by simpa using x1
    rw[x1']at g1;by_cases x2:rb.getD j false=true
    .have Z:=hFm (fun h=>by have:=h.2 j hjt;rw[x2]at this;cases this);rw[x2]at g2;repeat' (first
      |(apply zdk ?_;clear hK K)|apply Ry.o ?_|(apply a2 (fun C L=>?_) (fun C L=>?_)<;>try(cases C;done))|(apply aD (fun z V=>?_) (fun z V=>?_)<;>try(cases z;done))|apply ak ?_|(apply zdl fun K hK=>?_)|apply au ?_|apply zdm ?_|apply am ?_|fail)
     all_goals (refine⟨eI,_,eR,?_⟩;try simp only[zdn])
     rw[Z]
    have x2':rb.getD j false=false:=by simpa using x2
    rw[x2']at g2;clear x1 x2 hFm hTm;repeat' (first
     |(apply zdk ?_;clear hK K)|apply Ry.o ?_|(apply a2 (fun C L=>?_) (fun C L=>?_)<;>try(cases C;done))|(apply aD (fun z V=>?_) (fun z V=>?_)<;>try(cases z;done))|apply ak ?_|(apply zdl fun K hK=>?_)|apply au ?_|apply zdm ?_|fail)
    refine⟨ac,zdz,zdz,eN,tn,?_⟩;intro t ht;by_cases e:t=j
    .subst e;exact⟨x1',x2'⟩
    .exact hJ t ac
   .have hjt':¬(j:Int)<16:=by omega
    have Z:=hTm (fun t ht=>(hJ t ac).1) (fun t ht=>(hJ t ac).2);repeat' (first
     |(apply zdk ?_;clear hK K)|apply Ry.o ?_|(apply aD (fun z V=>?_) (fun z V=>?_)<;>try(cases z;done))|apply ak ?_|(apply zdl fun K hK=>?_)|apply am ?_|apply zdr ?_)
    all_goals (refine⟨eI,_,eR,?_⟩;try simp only[zdn])
    rw[Z]
  .have Z:=hF (fun h=>s2 (vM h.2).2.2.2.1);have kv1:=hro g.value;have ks2:=hro g.state;rw[v1]at kv1;repeat' (first
    |(apply zdk ?_;clear hK K)|apply Ry.o ?_|(apply bL ?_;first|refine Rx.k (kv1 _) ?_|refine Rx.k (ks2 _) ?_)|(apply a2 (fun C L=>?_) (fun C L=>?_)<;>try(cases C;done))|(apply aD (fun z V=>?_) (fun z V=>?_)<;>try(cases z;done))|apply ak ?_|(apply zdl fun K hK=>?_)|apply am ?_|apply zdr ?_)
   all_goals first|exact zdR|skip
   all_goals (refine⟨eI,_,eR,?_⟩;try simp only[zdn])
   rw[Z]
 .have Z:=hF (fun h=>v1 (vM h.2).2.2.1);have kv1:=hro g.value;repeat' (first
   |(apply zdk ?_;clear hK K)|apply Ry.o ?_|(apply bL ?_;first|refine Rx.k (kv1 _) ?_)|(apply a2 (fun C L=>?_) (fun C L=>?_)<;>try(cases C;done))|(apply aD (fun z V=>?_) (fun z V=>?_)<;>try(cases z;done))|apply ak ?_|(apply zdl fun K hK=>?_)|apply am ?_|apply zdr ?_)
  all_goals first|exact zdR|skip
  all_goals (refine⟨eI,_,eR,?_⟩;try simp only[zdn])
  rw[Z])
end
section
def tyVdE.tyF:=ad @b9 (ad @dA (ad @eO (ad @m8 (ad @m9 (ad @iq (ad @jL (@kQ)))))))
open tyVdE
noncomputable def tv:{c:SC // aC 91 (Tryz.f12.body.getD .skip)=c}:=by
 refine⟨?_,?_⟩;rotate_left
 .simp only[Tryz.f12,a5,aC,zdG,zdD,zdH,zdI,Nat.blt,Nat.ble];rfl
theorem KS:∀(l seen:List zea),zdT seen l=false->l.Nodup/\∀x∈l,zdS seen x=false
 |[],seen,_=>⟨List.nodup_nil,fun x I=>by simp at I⟩
 |a::l,seen,h=>by
  rw[zdT]at h;have Z:zdS seen a=false/\zdT (seen++[a]) l=false:=by
   cases o:zdS seen a<;>simp_all
  obtain⟨i,g⟩:=KS l _ Z.2;refine⟨yN.2 ⟨fun M=>?_,i⟩,fun x I=>?_⟩
  .have:=g a M;simp[zdS]at this
  .rcases ff.1 I with rfl|I
   .exact Z.1
   .have:=g x I;simp only[zdS,vk,lw]at this⊢;exact this.1
theorem KT:∀(l seen:List zea),l.Nodup->(∀x∈l,zdS seen x=false)->zdT seen l=false
 |[],_,_,_=>rfl
 |a::l,seen,h,hs=>by
  obtain⟨i,g⟩:=yN.1 h;rw[zdT,hs a fh];have:=KT l (seen++[a]) g fun x I=>by
   have o:=hs x (fp _ I);have U:x≠a:=fun e=>i (e▸I);simp only[zdS,vk,lw]at o⊢;refine⟨o,?_⟩;have Z:¬a=x:=fun e=>U e.symm;simp[Z]
  rw[this];rfl
theorem KU(l:List zea):zdT [] l=false↔l.Nodup:=⟨fun h=>(KS l [] h).1,fun h=>KT l [] h fun x _=>by simp[zdS]⟩
theorem KV{U:Type}(f:U->zea){l:List U}(h:∀(j:Nat) (a:U),l[j]?=some a->∀(k:Nat) (b:U),k<j->l[k]?=some b->f b≠f a):zdT [] (l.map f)=false:=by
 rw[KU];refine zb.2 fun i j A O I e=>?_;simp only[cE]at A O;simp only[List.getElem_map]at e;exact h j _ (aR O) i _ I (aR A) e
theorem KW{U:Type}(f:U->zea){l:List U}(h:zdT [] (l.map f)=false){i j:Nat}{a b:U}(I:i<j)(A:l[i]?=some a)(O:l[j]?=some b):f a≠f b:=by
 rw[KU]at h;have L:j<l.length:=by
  by_cases c:j<l.length
  .exact c
  .rw[fg ac]at O;cases O
 have C:i<l.length:=ac;rw[aR C,aA]at A;rw[aR L,aA]at O;have:=zb.1 h i j (by rw[cE];exact C) (by rw[cE];exact L) I;simp only[List.getElem_map]at this;rw[<-A,<-O];exact this
structure UnOkR (u:Un):Prop where
 ok:UnOk u
 r:∀g∈u.funcs,∀n∈g.nodes,NdR n
theorem tw{u:Un}(h:fW u=true):((u.arrays.length:Int)<=4/\(u.funcs.length:Int)<=8)/\(∀a∈u.arrays,k4 a=true)/\zdT [] (u.arrays.map Ar.name)=false/\zdT [] (u.funcs.map Gr.name)=false/\∀g∈u.funcs,jX u g=true:=by
 rw[fW,Kz]at h;unfold yX at h;simp only[j4,l7,gS]at h;obtain⟨⟨⟨i,Z,o⟩,U,Y⟩,F⟩:=h;exact⟨i,Z,o,Y,fun g C=>by rw[jX,U g C,F g C];rfl⟩
theorem zyL{u:Un}(h1:(u.arrays.length:Int)<=4)(h2:(u.funcs.length:Int)<=8)(o:∀a∈u.arrays,k4 a=true)(U:zdT [] (u.arrays.map Ar.name)=false)(i:zdT [] (u.funcs.map Gr.name)=false)(F:∀g∈u.funcs,jX u g=true):fW u=true:=by
 rw[fW,Kz];unfold yX;have Z:∀g∈u.funcs,zd8 g.name=true/\em u g=true:=fun g C=>by
  have:=F g C;rw[jX,dC]at this;exact this
 simp only[j4,l7,gS];exact⟨⟨⟨⟨h1,h2⟩,o,U⟩,fun g C=>(Z g C).1,i⟩,fun g C=>(Z g C).2⟩
noncomputable def KX:En:=⟨30,false,b7 CX mH fun x=>.bool (jX x.u x.g)⟩
theorem zyM(ρ:Nat->Int):yO Tryz.prog ρ KX:=zei fun x I=>zyK ρ x I
noncomputable def zf:List En:=[BJ,KX]
theorem zt9(ρ:Nat->Int):fk Tryz.prog ρ zf:=⟨GY ρ,zyM ρ,trivial⟩
theorem KY{U:Type}{l:List U}{j:Nat}{a:U}(h:l[j]?=some a):j<l.length:=by
 by_cases c:j<l.length
 .exact c
 .rw[fg ac]at h;cases h
set_option maxRecDepth 100000 in
theorem zmc(ρ:Nat->Int)(u:Un)(hu:UnOkR u):bc Tryz.prog ρ 12 [.agg u.cells] (.bool (fW u)):=zer fit (pls:=pls) (zt9 ρ) (.cons (.agg (sD _)) .nil) (.bool _) (by
 obtain⟨⟨ha,hf,C,hz⟩,hr⟩:=hu;have hw:Plain (zdp pls zf) 12:=zej (fun _=>rfl) rfl;have hpz:(gH u).sz=1+kO u.arrays+kN (u.funcs.map fL):=rfl;have hna:∀a∈u.arrays,a.name.length<2^60:=fun a hm=>by have:=BK hm;omega
 have hnf:∀g∈u.funcs,g.name.length<2^60:=fun g hm=>by
  have h1:=sh (List.mem_map_of_mem (f:=fL) hm);have U:(fL g).sz=1+g.name.length+zfg []+zfg []+zfl []+(fL g).value.sz:=rfl;omega
 have kv:∀s:zea,s.length<2^60->∀H,zdw Tryz.prog (zdp pls zf) 29 [.str s] H fun v H'=>v=.bool (zd8 s)/\H'=H:=fun s hs H=>zeq (enc:=kS) (out:=fun x=>.bool (zd8 x)) sJ (x:=s) rfl hs;have kg:∀g,g∈u.funcs->∀H,zdw Tryz.prog (zdp pls zf) 30 [.agg u.cells,.agg g.cells] H fun v H'=>v=.bool (jX u g)/\H'=H:=fun g hm H=>zeq (enc:=mH) (ok:=CX) (out:=fun x=>.bool (jX x.u x.g)) IW (x:=⟨u,g⟩) rfl ⟨⟨C g hm,ha,hf⟩,hnf g hm,hr g hm⟩;obtain⟨R,Z⟩:∃R,fW u=R:=⟨_,rfl⟩;have hF:¬fW u=true->R=false:=fun h=>by rw[<-Z];simpa using h
 have hT:fW u=true->R=true:=fun h=>by rw[<-Z];exact h
 rw[Z];clear Z hpz hz;by_cases c1:(4:Int)<u.arrays.length
 .have Z:=hF (fun h=>by have:=(tw h).1.1;omega);refine zdv (M:=91) (rs:=[.tmp 2]) (hw.call _) hw.ice hw.froz Tryz.func12 rfl rfl tv.2 rfl ?_;dsimp only[tv,zds,Nat.reduceAdd];repeat' (first
   |(apply zdk ?_;clear hK K)|apply Ry.o ?_|(apply a2 (fun C L=>?_) (fun C L=>?_)<;>try(cases C;done))|(apply aD (fun z V=>?_) (fun z V=>?_)<;>try(cases z;done))|apply ak ?_|(apply zdl fun K hK=>?_)|apply am ?_|fail)
  all_goals (refine⟨eI,_,eR,?_⟩;try simp only[zdn])
  rw[Z]
 by_cases c2:(8:Int)<u.funcs.length
 .have Z:=hF (fun h=>by have:=(tw h).1.2;omega);refine zdv (M:=91) (rs:=[.tmp 2]) (hw.call _) hw.ice hw.froz Tryz.func12 rfl rfl tv.2 rfl ?_;dsimp only[tv,zds,Nat.reduceAdd];repeat' (first
   |(apply zdk ?_;clear hK K)|apply Ry.o ?_|(apply a2 (fun C L=>?_) (fun C L=>?_)<;>try(cases C;done))|(apply aD (fun z V=>?_) (fun z V=>?_)<;>try(cases z;done))|apply ak ?_|(apply zdl fun K hK=>?_)|apply am ?_|fail)
  all_goals (refine⟨eI,_,eR,?_⟩;try simp only[zdn])
  rw[Z]
 refine zdv (M:=91) (rs:=[.tmp 2]) (hw.call _) hw.ice hw.froz Tryz.func12 rfl rfl tv.2 rfl ?_;dsimp only[tv,zds,Nat.reduceAdd];repeat' (first
  |(apply zdk ?_;clear hK K)|apply Ry.o ?_|(apply a2 (fun C L=>?_) (fun C L=>?_)<;>try(cases C;done))|(apply aD (fun z V=>?_) (fun z V=>?_)<;>try(cases z;done))|apply ak ?_|(apply zdl fun K hK=>?_)|apply au ?_|apply zdm ?_|fail)
 refine zef [1] [0] 3 u.arrays.length (fun i E H=>∀(j:Nat) (a:Ar),j<i->u.arrays[j]?=some a->k4 a=true/\∀(k:Nat) (b:Ar),k<j->u.arrays[k]?=some b->b.name≠a.name) eE (fun j a h=>ac) ?_;rintro i E Hi hi O m o hsI hJ;(try simp only[zdO,zdF,aX,zdy,zdJ,Nat.reduceBEq, *]at O);(try simp only[zdO,zdF,aX,zdy,zdJ, *]at m);(try simp only[zdA,zec,bC]at o);have hB0:(0 == Hi.next)=false:=zdC ac;have hC0:(Hi.next == 0)=false:=zdC ac;have ni:1<=Hi.next:=o
 by_cases I:i<u.arrays.length
 .have J:(i:Int)<u.arrays.length:=by omega
  have hgx:u.arrays[i]?=some u.arrays[i]:=aR I;have Y:=dr I;have hnm:=hna _ Y;generalize u.arrays[i]=a at *;have hbad:k4 a=false->R=false:=fun h=>hF fun hv=>by have:=(tw hv).2.1 a Y;rw[h]at this;cases this
  by_cases d0':zd8 a.name=false
  .have Z:=hbad (by rw[k4,d0'];rfl);repeat' (first
    |(apply zdk ?_;clear hK K)|apply Ry.o ?_|apply b4 ?_|(apply bL ?_;first|refine Rx.k (kv _ hnm _) ?_)|(apply a2 (fun C L=>?_) (fun C L=>?_)<;>try(cases C;done))|(apply aD (fun z V=>?_) (fun z V=>?_)<;>try(cases z;done))|apply ak ?_|(apply zdl fun K hK=>?_)|apply au ?_|apply zdm ?_|apply am ?_|fail)
   all_goals first|exact zdR|skip
   all_goals (refine⟨eI,_,eR,?_⟩;try simp only[zdn])
   rw[Z]
  have d0:zd8 a.name=true:=by simpa using d0'
  clear d0';by_cases d1:a.len<1
  .have Z:=hbad (by rw[k4,cX (show ¬1<=a.len by omega)];simp);repeat' (first
    |(apply zdk ?_;clear hK K)|apply Ry.o ?_|apply b4 ?_|(apply bL ?_;first|refine Rx.k (kv _ hnm _) ?_)|(apply a2 (fun C L=>?_) (fun C L=>?_)<;>try(cases C;done))|(apply aD (fun z V=>?_) (fun z V=>?_)<;>try(cases z;done))|apply ak ?_|(apply zdl fun K hK=>?_)|apply au ?_|apply zdm ?_|apply am ?_|fail)
   all_goals first|exact zdR|skip
   all_goals (refine⟨eI,_,eR,?_⟩;try simp only[zdn])
   rw[Z]
  by_cases d2:16<a.len
  .have Z:=hbad (by rw[k4,cX (show ¬a.len<=16 by omega)];simp);repeat' (first
    |(apply zdk ?_;clear hK K)|apply Ry.o ?_|apply b4 ?_|(apply bL ?_;first|refine Rx.k (kv _ hnm _) ?_)|(apply a2 (fun C L=>?_) (fun C L=>?_)<;>try(cases C;done))|(apply aD (fun z V=>?_) (fun z V=>?_)<;>try(cases z;done))|apply ak ?_|(apply zdl fun K hK=>?_)|apply au ?_|apply zdm ?_|apply am ?_|fail)
   all_goals first|exact zdR|skip
   all_goals (refine⟨eI,_,eR,?_⟩;try simp only[zdn])
   rw[Z]
  have hda:k4 a=true:=by rw[k4,d0,cF (show 1<=a.len by omega),cF (show a.len<=16 by omega)];rfl
  repeat' (first
   |(apply zdk ?_;clear hK K)|apply Ry.o ?_|apply b4 ?_|(apply bL ?_;first|refine Rx.k (kv _ hnm _) ?_)|(apply a2 (fun C L=>?_) (fun C L=>?_)<;>try(cases C;done))|(apply aD (fun z V=>?_) (fun z V=>?_)<;>try(cases z;done))|apply ak ?_|(apply zdl fun K hK=>?_)|apply au ?_|apply zdm ?_|fail)
  all_goals first|exact zdR|skip
  generalize hHb:Hp.set (Hp.alloc _ _) _ _=Hb;have nb:Hi.next+1<=Hb.next:=BS
  have g5:Hb.get Hi.next=some (.cells a.cells 0 true):=BT
  have g0:Hb.get 0=Hi.get 0:=CS;clear hHb;refine zef [1,3,4] [0] 5 i (fun k E H=>H.get Hi.next=some (.cells a.cells 0 true)/\∀(k':Nat) (b:Ar),k'<k->u.arrays[k']?=some b->b.name≠a.name) eE ⟨g5,fun k' b h=>ac⟩ ?_;clear g5;rintro k E3 H3 hk O m o hsI ⟨g5,hne⟩;(try simp only[zdO,zdF,aX,zdy,zdJ,Nat.reduceBEq, *]at O);(try simp only[zdO,zdF,aX, *]at m);(try simp only[zdA,zdQ,zec,bC,Nat.reduceAdd]at o);have hB0:(0 == H3.next)=false:=zdC ac;have hC0:(H3.next == 0)=false:=zdC ac;have n3:Hi.next+1<=H3.next:=ac
  by_cases hkt:k<i
  .have hkt':(k:Int)<i:=by omega
   have hgk:u.arrays[k]?=some u.arrays[k]:=aR ac;have F:=fun h:u.arrays[k].name=a.name=>hF (fun hv=>KW Ar.name (tw hv).2.2.1 hkt hgk hgx h);generalize u.arrays[k]=b at *;by_cases he:b.name=a.name
   .have Z:=F he;clear F;repeat' (first
     |(apply zdk ?_;clear hK K)|apply Ry.o ?_|(apply aD (fun z V=>?_) (fun z V=>?_)<;>try(cases z;done))|apply ak ?_|(apply zdl fun K hK=>?_)|(apply zdL 12 [(1,9),(5,9),(7,9)] fun K hK=>?_)|(apply zdK ?_;try intro _)|(apply zdM ?_ ?_<;>clear hK K)|apply bl ?_|apply au ?_|apply zdm ?_|apply am ?_|fail)
    all_goals first|exact zdR|skip
    all_goals (refine⟨eI,_,eR,?_⟩;try simp only[zdn])
    rw[Z]
   .clear F;repeat' (first
     |(apply zdk ?_;clear hK K)|apply Ry.o ?_|(apply aD (fun z V=>?_) (fun z V=>?_)<;>try(cases z;done))|apply ak ?_|(apply zdl fun K hK=>?_)|(apply zdL 12 [(1,9),(5,9),(7,9)] fun K hK=>?_)|(apply zdK ?_;try intro _)|(apply zdM ?_ ?_<;>clear hK K)|apply bl ?_|apply au ?_|apply zdm ?_|fail)
    all_goals first|exact zdR|skip
    refine⟨ac,zdz,zdz,eN,(by simp only[zdy,Nat.reduceBEq, *];exact zfq (n:=i) ac ac),?_⟩;refine⟨g5,fun k' b' h1 U=>?_⟩;by_cases e:k'=k
    .rw[e,hgk,aA]at U;rw[<-U];exact he
    .exact hne k' b' ac U
  clear g0;have hkt':¬(k:Int)<i:=ac;repeat' (first
   |(apply zdk ?_;clear hK K)|apply Ry.o ?_|(apply aD (fun z V=>?_) (fun z V=>?_)<;>try(cases z;done))|apply ak ?_|(apply zdl fun K hK=>?_)|apply zdr ?_)
  refine⟨ac,zdz,zdz,eN,Jz,?_⟩;intro j x hj hx;by_cases e:j=i
  .subst e;rw[hgx,aA]at hx;subst hx;exact⟨hda,fun k' b h1 U=>hne k' b ac U⟩
  .exact hJ j x ac hx
 have J:¬(i:Int)<u.arrays.length:=ac;have ha1:∀a∈u.arrays,k4 a=true:=fun a hm=>by
  obtain⟨j,hj,e⟩:=o0 hm;exact(hJ j a ac ym).1
 have ha2:zdT [] (u.arrays.map Ar.name)=false:=KV Ar.name fun j a h k b h1 U=>(hJ j a (by have:=KY h;omega) h).2 k b h1 U;clear hJ;repeat' (first
  |(apply zdk ?_;clear hK K)|apply Ry.o ?_|(apply aD (fun z V=>?_) (fun z V=>?_)<;>try(cases z;done))|apply ak ?_|(apply zdl fun K hK=>?_)|apply au ?_|apply zdr ?_)
 refine zef [1] [0] 6 u.funcs.length (fun i E H=>∀(j:Nat) (a:Gr),j<i->u.funcs[j]?=some a->jX u a=true/\∀(k:Nat) (b:Gr),k<j->u.funcs[k]?=some b->b.name≠a.name) eE (fun j a h=>ac) ?_;clear I J;rintro A E2 H2 hi2 O m o hsI hJ;(try simp only[zdO,zdF,aX,zdy,Nat.reduceBEq, *]at O);(try simp only[zdO,zdF,aX, *]at m);(try simp only[zdA,zdQ,zec,bC,Nat.reduceAdd]at o);have hB0:(0 == H2.next)=false:=zdC ac;have hC0:(H2.next == 0)=false:=zdC ac;have n2:1<=H2.next:=ac
 by_cases I:A<u.funcs.length
 .have J:(A:Int)<u.funcs.length:=by omega
  have hgx:u.funcs[A]?=some u.funcs[A]:=aR I;have Y:=dr I;have kga:=kg _ Y;generalize u.funcs[A]=a at *;repeat' (first
   |(apply zdk ?_;clear hK K)|apply Ry.o ?_|(apply aD (fun z V=>?_) (fun z V=>?_)<;>try(cases z;done))|apply ak ?_|(apply zdl fun K hK=>?_)|apply au ?_|apply zdm ?_|fail)
  refine zef [1,6] [0] 7 A (fun k E H=>∀(k':Nat) (b:Gr),k'<k->u.funcs[k']?=some b->b.name≠a.name) eE (fun k' b h=>ac) ?_;rintro k E3 H3 hk O m o hsI hne;(try simp only[zdO,zdF,aX,zdy,Nat.reduceBEq, *]at O);(try simp only[zdO,zdF,aX, *]at m);(try simp only[zdA,zdQ,zec,bC,Nat.reduceAdd]at o);have hB0:(0 == H3.next)=false:=zdC ac;have hC0:(H3.next == 0)=false:=zdC ac;have n3:1<=H3.next:=ac
  by_cases hkt:k<A
  .have hkt':(k:Int)<A:=by omega
   have hgk:u.funcs[k]?=some u.funcs[k]:=aR ac;have F:=fun h:u.funcs[k].name=a.name=>hF (fun hv=>KW Gr.name (tw hv).2.2.2.1 hkt hgk hgx h);generalize u.funcs[k]=b at *;by_cases he:b.name=a.name
   .have Z:=F he;clear F;repeat' (first
     |(apply zdk ?_;clear hK K)|apply Ry.o ?_|(apply aD (fun z V=>?_) (fun z V=>?_)<;>try(cases z;done))|apply ak ?_|(apply zdl fun K hK=>?_)|(apply zdL 20 [(1,13),(5,13),(7,13),(11,13)] fun K hK=>?_)|(apply zdK ?_;try intro _)|(apply zdM ?_ ?_<;>clear hK K)|apply bl ?_|apply au ?_|apply zdm ?_|apply am ?_|fail)
    all_goals first|exact zdR|skip
    all_goals (refine⟨eI,_,eR,?_⟩;try simp only[zdn])
    rw[Z]
   .clear F;repeat' (first
     |(apply zdk ?_;clear hK K)|apply Ry.o ?_|(apply aD (fun z V=>?_) (fun z V=>?_)<;>try(cases z;done))|apply ak ?_|(apply zdl fun K hK=>?_)|(apply zdL 20 [(1,13),(5,13),(7,13),(11,13)] fun K hK=>?_)|(apply zdK ?_;try intro _)|(apply zdM ?_ ?_<;>clear hK K)|apply bl ?_|apply au ?_|apply zdm ?_|fail)
    all_goals first|exact zdR|skip
    refine⟨ac,zdz,zdz,eN,(by simp only[zdy,Nat.reduceBEq, *];exact zfq (n:=A) ac ac),?_⟩;intro k' b' h1 U;by_cases e:k'=k
    .rw[e,hgk,aA]at U;rw[<-U];exact he
    .exact hne k' b' ac U
  have hkt':¬(k:Int)<A:=ac;by_cases hv:jX u a=true
  .repeat' (first
    |(apply zdk ?_;clear hK K)|apply Ry.o ?_|(apply bL ?_;first|refine Rx.k (kga _) ?_)|(apply aD (fun z V=>?_) (fun z V=>?_)<;>try(cases z;done))|apply ak ?_|(apply zdl fun K hK=>?_)|(apply zdL 22 [(0,6),(2,6),(5,6)] fun K hK=>?_)|(apply zdK ?_;try intro _)|(apply zdM ?_ ?_<;>clear hK K)|apply bl ?_|apply zdm ?_|apply zdr ?_)
   all_goals first|exact zdR|skip
   refine⟨ac,zdz,zdz,eN,ti,?_⟩;intro j x hj hx;by_cases e:j=A
   .subst e;rw[hgx,aA]at hx;subst hx;exact⟨hv,fun k' b h1 U=>hne k' b ac U⟩
   .exact hJ j x ac hx
  .have hv':jX u a=false:=by simpa using hv
   have Z:=hF (fun h=>hv ((tw h).2.2.2.2 a Y));clear hv;repeat' (first
    |(apply zdk ?_;clear hK K)|apply Ry.o ?_|(apply bL ?_;first|refine Rx.k (kga _) ?_)|(apply aD (fun z V=>?_) (fun z V=>?_)<;>try(cases z;done))|apply ak ?_|(apply zdl fun K hK=>?_)|(apply zdL 22 [(0,6),(2,6),(5,6)] fun K hK=>?_)|(apply zdK ?_;try intro _)|(apply zdM ?_ ?_<;>clear hK K)|apply bl ?_|apply am ?_|apply zdr ?_)
   all_goals first|exact zdR|skip
   all_goals (refine⟨eI,_,eR,?_⟩;try simp only[zdn])
   rw[Z]
 have J:¬(A:Int)<u.funcs.length:=ac;have Z:=hT (zyL ac ac ha1 ha2 (KV Gr.name fun j a h k b h1 U=>(hJ j a (by have:=KY h;omega) h).2 k b h1 U) fun g hm=>by
  obtain⟨j,hj,e⟩:=o0 hm;exact(hJ j g ac ym).1)
 repeat' (first
  |(apply zdk ?_;clear hK K)|apply Ry.o ?_|(apply aD (fun z V=>?_) (fun z V=>?_)<;>try(cases z;done))|apply ak ?_|(apply zdl fun K hK=>?_)|apply am ?_|apply zdr ?_)
 all_goals (refine⟨eI,_,eR,?_⟩;try simp only[zdn])
 rw[Z])
noncomputable def CZ:En:=⟨12,true,b7 UnOkR (fun u=>[.agg u.cells]) fun u=>.bool (fW u)⟩
theorem zyN(ρ:Nat->Int):yO Tryz.prog ρ CZ:=zei fun u K=>zmc ρ u K
end
section
def tySameO.tyF:=ad @cN (ad @b9 (ad @lJ (@AW)))
open tySameO
noncomputable def KZ:{c:SC // aC 52 (Tryz.f13.body.getD .skip)=c}:=by
 refine⟨?_,?_⟩;rotate_left
 .simp only[Tryz.f13,a5,aC,zdG,zdD,zdH,zdI,Nat.blt,Nat.ble];rfl
theorem K0(o:Oc):ee (eG o):=.agg (.cons (.int _ _) (.cons (.int _ _) (.cons (x8 _) (.cons (.int _ _) .nil))))
set_option maxRecDepth 100000 in
theorem zub(ρ:Nat->Int)(o:Oc)(F:o.out.length<2^60):bc Tryz.prog ρ 13 [eG o,eG o] (.bool true):=zer fit (pls:=pls) (l:=[]) trivial (.cons (K0 o) (.cons (K0 o) .nil)) (.bool _) (by
 have J:=yl 13;obtain⟨k,c,Z,val⟩:=o;rw[eG,zfN];simp only at F⊢;have g:(Z.map fun n=>[AV.int .i64 n]).length=Z.length:=aB;refine zdv (M:=52) (rs:=[.tmp 4]) (J.call _) J.ice J.froz Tryz.func13 rfl rfl KZ.2 rfl ?_;dsimp only[KZ,zds,Nat.reduceAdd];repeat' (first
  |(apply zdk ?_;clear hK K)|apply Rx.o ?_|(apply bZ (fun C L=>?_) (fun C L=>?_)<;>try(cases C;done))|(apply aS (fun z V=>?_) (fun z V=>?_)<;>try(cases z;done))|apply ak ?_|(apply zdl fun K hK=>?_)|(apply zdL 6 [(1,11),(4,11),(6,11),(9,11)] fun K hK=>?_)|(apply zdK ?_;try intro _)|(apply zdM ?_ ?_<;>clear hK K)|apply bl ?_|apply au ?_|apply zdm ?_|apply am ?_|apply zdr ?_)
 refine zef [2,3] [0,1] 5 Z.length (fun i E H=>True) eE trivial ?_;rintro i E A hi j m Y O hJ;(try simp only[zdO,zdF,aX,zdy,zdJ,Nat.reduceBEq,Nat.reduceAdd,Nat.reduceLeDiff,tyF, *]at j);(try simp only[zdO,zdF,aX,zdy,zdJ,Nat.reduceBEq,Nat.reduceAdd,Nat.reduceLeDiff,tyF, *]at m);(try simp only[zdA,zdQ,zec,bC,Nat.reduceAdd]at Y);repeat' (first
  |(apply zdk ?_;clear hK K)|apply Rx.o ?_|(apply bZ (fun C L=>?_) (fun C L=>?_)<;>try(cases C;done))|(apply aS (fun z V=>?_) (fun z V=>?_)<;>try(cases z;done))|apply ak ?_|(apply zdl fun K hK=>?_)|(apply zdL 6 [(1,11),(4,11),(6,11),(9,11)] fun K hK=>?_)|(apply zdK ?_;try intro _)|(apply zdM ?_ ?_<;>clear hK K)|apply bl ?_|apply au ?_|apply zdm ?_|apply am ?_|apply zdr ?_)
 .have U:i<Z.length:=by simpa using z
  have I:(Z.map fun n=>[AV.int .i64 n])[i]?=some [.int .i64 Z[i]]:=by rw[dK,aR U];rfl
  obtain⟨g0,g1⟩:=m;repeat' (first
   |(apply zdk ?_;clear hK K)|apply Rx.o ?_|(apply bZ (fun C L=>?_) (fun C L=>?_)<;>try(cases C;done))|(apply aS (fun z V=>?_) (fun z V=>?_)<;>try(cases z;done))|apply ak ?_|(apply zdl fun K hK=>?_)|(apply zdL 6 [(1,11),(4,11),(6,11),(9,11)] fun K hK=>?_)|(apply zdK ?_;try intro _)|(apply zdM ?_ ?_<;>clear hK K)|apply bl ?_|apply au ?_|apply zdm ?_|apply am ?_|apply zdr ?_)
  .exact zdR
  .refine⟨ac,zdz,zdz,eN,(by simp only[zdy,Nat.reduceBEq, *];exact zfq (n:=Z.length) ac ac),?_⟩;trivial
 .all_goals (refine⟨eI,_,eR,?_⟩;try simp only[zdn]))
end
end Go.Proofs.YtljebeflbbgibaaGreat
