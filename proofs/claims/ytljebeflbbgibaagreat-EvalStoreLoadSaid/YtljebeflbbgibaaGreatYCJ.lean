/- Parts: I3, SpecV, V2, V3, V4, EvG, EvH, EvI, Bytes, V1, R3c, L4a. -/
import Derived.Test.YtljebeflbbgibaaGreatYCI
set_option linter.unusedSimpArgs false
set_option linter.unusedVariables false
set_option linter.unusedSectionVars false
set_option linter.defProp false
set_option maxHeartbeats 32000000
namespace Go.Ab
set_option maxRecDepth 20000
open Go
theorem sY{P:Prop}(h:P:=by simp only[zc6]at n5;omega):P:=h
theorem BR{P:Prop}(h:P:=by rw[<- hHb];exact Nat.le_refl _):P:=h
theorem BS{P:Prop}(h:P:=by rw[<- hHb,Hp.get_set,if_pos rfl]):P:=h
theorem u7{P:Prop}(h:P:=by rw[o];omega):P:=h
theorem BT{P:Prop}(h:P:=by rw[Hp.get_set,if_pos rfl,O]):P:=h
theorem BU{P:Prop}(h:P:=by rw[<- U];exact Nat.le_refl _):P:=h
theorem BV{P:Prop}(h:P:=by rw[List.length_replicate];exact z):P:=h
theorem sZ{P:Prop}(h:P:=by simp[zc6]):P:=h
theorem G9{P:Prop}(h:P:=by rw[List.length_append,List.length_append,zfx,List.length_singleton];omega):P:=h
theorem pe{P:Prop}(h:P:=by simp only[zc3,Nat.reduceBEq, *];exact zeX (n:=n.kids.length) ac ac):P:=h
theorem jJ{P:Prop}(h:P:=by simp only[zc3,Nat.reduceBEq, *];exact zeX (n:=l.length) ac ac):P:=h
theorem Hd{P:Prop}(h:P:=by rw[show l.length - i=(l.length - (i+1))+1 by omega];rfl):P:=h
theorem n9{P:Prop}(h:P:=by rw[zcY,if_pos dt];rfl):P:=h
theorem He{P:Prop}(h:P:=by rw[Hp.get_set,if_neg ac,zcY,if_neg ac];exact A):P:=h
theorem Hg{P:Prop}(h:P:=by rw[Hp.get_set,if_neg ac,zcY,if_neg ac];exact hg3):P:=h
theorem Hh{P:Prop}(h:P:=by rw[List.set_append,if_neg ac,hml,Nat.sub_self,List.set_cons_zero]):P:=h
theorem BW{P:Prop}(h:P:=by rw[Hp.get_set,if_neg ac];exact g45):P:=h
theorem xU{P:Prop}(h:P:=by rw[zcY,if_pos dt]):P:=h
theorem Hk{P:Prop}(h:P:=by simp only[zc3,Nat.reduceBEq, *];exact zeX (n:=8) ac ac):P:=h
def BX:=@List.take_succ_cons
def xV:=@List.map_nil
def Hl:=@List.mem_singleton_self
def xW:=@Int.not_lt
def Hm:=@List.fst_mem_of_mem_zipIdx
def kN:=@Int.tdiv_eq_ediv_of_nonneg
def xX:=@Nat.zero_testBit
def BY:=@Nat.eq_of_testBit_eq
def xY:=@Nat.or_lt_two_pow
def BZ:=@BitVec.testBit_toNat
def Hn:=@Nat.lt_pow_two_of_testBit
def B0:=@Nat.pow_lt_pow_right
def B1:=@List.flatMap_nil
def s6:=@Bool.not_or
def u9:=@of_decide_eq_true
end Go.Ab
namespace Go.Proofs.YtljebeflbbgibaaGreat
set_option maxRecDepth 20000
open Go Go.Ab
def tyI3.tyF:=ad @b7 (ad @ei (ad @fd (ad @eT (ad @cP (ad @u4 (@oN))))))
open tyI3
noncomputable def Ho:{c:SC // aB 80 (Tryz.f121.body.getD .skip)=c}:=by
 refine⟨?_,?_⟩;rotate_left
 .simp only[Tryz.f121,a8,aB,zda,zc9,zdc,zdd,Nat.blt,Nat.ble];rfl
noncomputable def Hr:{c:SC // aB 22 (Tryz.f78.body.getD .skip)=c}:=by
 refine⟨?_,?_⟩;rotate_left
 .simp only[Tryz.f78,a8,aB,zda,zc9,zdc,zdd,Nat.blt,Nat.ble];rfl
theorem Ht(S:Nat->Prop)(n:Nat)(H:Hp):∀s:List Int,zdo (zdI S (n+1) H) (s.map (.int .i64)) (s.map (.int .i64))
 |[]=>trivial
 |a::s=>⟨ls ⟨.int _ _,trivial⟩,Ht S n H s⟩
theorem B2(n:Nat)(s:List Int):bF (n+2) (zdR s)=zdR s:=by
 show AV.lst ((s.map fun n=>[AV.int .i64 n]).map fun A=>A.map (bF (n+1)))=_;rw[oL];rfl
theorem ep.ic{H:Hp}{v:AV}{s:List Int}{lo:Nat}(h:ep H v s lo):∃u,zdI (fun k=>lo<=k) 3 H v u/\bF 60 u=zdR s:=by
 rcases h with⟨rfl,rfl⟩|⟨r,g,rfl,Z,m,U,i⟩
 .exact⟨.nilS,ls ⟨.nilS,trivial⟩,rfl⟩
 .refine⟨.lst (zeg 1 s.length (s.map (.int .i64))),⟨U,i,s.map (.int .i64),g,true,s.map (.int .i64),Z,by simpa using m,aE,?_,rfl⟩,?_⟩
  .rw[dW,gA,eF aE];exact Ht _ _ _ _
  .rw[Bx];exact B2 58 s
theorem eU.icy{S:Nat->Prop}{H H':Hp}{v:AV}{s:List Int}{lo:Nat}(h:eU H v s lo)(k:Icy S H H'):eU H' v s lo:=by
 obtain⟨r,g,rfl,Z,m,U,W⟩:=h;rcases k.same r with e|⟨M,i,j,O,Y,A,V⟩
 .exact⟨r,g,rfl,by rw[<-e];exact Z,m,U,by rw[k.next];exact W⟩
 .rw[Z]at Y;simp only[aA,HB.cells.injEq]at Y;obtain⟨rfl,rfl,rfl⟩:=Y;exact⟨r,j,rfl,A,by have:=V (by simpa using m);simpa using this,U,by rw[k.next];exact W⟩
theorem ep.icy{S:Nat->Prop}{H H':Hp}{v:AV}{s:List Int}{lo:Nat}(h:ep H v s lo)(k:Icy S H H'):ep H' v s lo:=h.imp id fun h=>h.icy k
noncomputable def B3:En:=⟨167,true,b0 (fun x=>x.2.length<2^30) pd fun x=>.bool (zdv x.1.op x.2)⟩
theorem Yh(ρ:Nat->Int):zdF Tryz.prog ρ B3:=zdM fun x F=>Yg ρ x F
noncomputable def qU:List En:=[kI B3,G4]
theorem Yi(ρ:Nat->Int):fb Tryz.prog ρ qU:=⟨sw (Yh ρ),X8 ρ,trivial⟩
theorem Hu(n:Nat)(x:Nd):bF (n+4) (.agg x.cells)=.agg x.cells:=by
 show AV.agg (x.cells.map (bF (n+3)))=_;rw[Nd.cells];simp only[dO,xV,B2];rfl
theorem Yj(y:Nd×List Int):(pd y).any (jp 90)=false:=by
 obtain⟨⟨i,g,L⟩,s⟩:=y;rfl
theorem Yk{l:List En}(I:∀z,zdS l 167 z=(kI B3).sp z)(C:iF l 167=true){H:Hp}{v:AV}{s:List Int}{lo:Nat}(L:ep H v s lo)(K:s.length<2^30)(n:Nd):
 zc2 Tryz.prog (zcW pls l) 167 [.agg n.cells,v] H fun w H'=>w=.bool (zdv n.op s)/\Icy (fun k=>lo<=k) H H':=by
 obtain⟨u,i,g⟩:=L.ic;obtain⟨o,m⟩:∃us,zdo (zdI (fun k=>lo<=k) 2 H) n.cells us/\us=n.cells:=by
  refine⟨n.cells,?_,rfl⟩;rw[Nd.cells];exact⟨ls ⟨.int _ _,trivial⟩,ls ⟨.int _ _,trivial⟩,ls ⟨oR _,trivial⟩,trivial⟩
 obtain⟨m,rfl⟩:=m;refine sM (x:=((n,s):Nd×List Int)) (enc:=pd) (ok:=fun x=>x.2.length<2^30) (out:=fun x=>.bool (zdv x.1.op x.2)) (us:=[.agg n.cells,u]) (n:=3) Ya (fun z=>r0) C Yj K ac ⟨⟨n.cells,m,rfl⟩,i,trivial⟩ ?_;show [bF 60 (.agg n.cells),bF 60 u]=_;rw[g,Hu 56];rfl
theorem Hv{i:Nat}{kn L:List Int}{j:Nat}(O:j<L.length):zeq i kn (L.drop j)=if L[j]<0\/(i:Int)<=L[j]\/kn.getD L[j].toNat 0=0 then none else (zeq i kn (L.drop (j+1))).map fun s=>kn.getD L[j].toNat 0::s:=by
 rw[eJ O,zeq]
def oa(i:Nat)(kn L:List Int)(j:Nat)(s:List Int):Prop:=s.length=j/\zeq i kn L=(zeq i kn (L.drop j)).map fun t=>s++t
theorem oa.bad{i:Nat}{kn L:List Int}{j:Nat}{s:List Int}(h:oa i kn L j s){U:Int}(A:L[j]?=some U)(z:U<0\/(i:Int)<=U\/kn.getD U.toNat 0=0):zeq i kn L=none:=by
 obtain⟨O,e⟩:=dJ.1 A;rw[h.2,Hv O,e,ay z];rfl
theorem oa.next{i:Nat}{kn L:List Int}{j:Nat}{s:List Int}(h:oa i kn L j s){U:Int}(A:L[j]?=some U)(z:¬(U<0\/(i:Int)<=U\/kn.getD U.toNat 0=0)):oa i kn L (j+1) (s++[kn.getD U.toNat 0]):=by
 obtain⟨O,e⟩:=dJ.1 A;refine⟨by simp[h.1],?_⟩;rw[h.2,Hv O,e,ah z];cases zeq i kn (L.drop (j+1))with
 |none=>rfl
 |some t=>simp
theorem oa.done{i:Nat}{kn L:List Int}{s:List Int}(h:oa i kn L L.length s):zeq i kn L=some s:=by
 rw[h.2,jI];simp[zeq]
theorem xZ{l:List Nd}{i:Nat}{kn:List Int}{n:Nd}(o:l[i]?=some n)(h:zeq i kn n.kids=none):jT l i kn=0:=by
 rw[jT,o];simp only[h]
theorem Yl{l:List Nd}{i:Nat}{kn:List Int}{n:Nd}{s:List Int}(o:l[i]?=some n)(h:zeq i kn n.kids=some s):jT l i kn=if zdv n.op s&&jc l n then jM n s else 0:=by
 rw[jT,o];simp only[h]
theorem Ym{op:Int}{s:List Int}(h:zdv op s=true)(j:op=25):s.length=1:=by
 subst j;by_cases c:s.length=1
 .exact c
 .rw[BQ dD (by have e:(bj 25).1=1:=rfl;rw[e];omega)]at h;cases h
theorem Yn{op:Int}{s:List Int}(h:zdv op s=true)(W:op=22):s.length=3:=by
 subst W;by_cases c:s.length=3
 .exact c
 .rw[BQ dD (by have e:(bj 22).1=3:=rfl;rw[e];omega)]at h;cases h
theorem Yo{l:List Nd}{i:Nat}{kn s:List Int}{n:Nd}(C:i<l.length)(o:∀n∈l,n.kids.length<2^30)(Z:zeq i kn n.kids=some s)(L:zdv n.op s=true):u6 (l,n):=by
 intro j;have Y:=Ym L j;rw[o9 Z]at Y;obtain⟨k,W⟩:=lD Y;simp only[]at W⊢;obtain⟨V,U,_⟩:=sU Z k (by rw[W];exact Hl _);obtain⟨m,rfl⟩:=eI V;have M:m<l.length:=ac;exact⟨m,l[m],by rw[W];rfl,aO M,by have:=o _ (dx M);omega⟩
set_option maxRecDepth 100000 in
theorem Yp{l:List Nd}{i:Nat}{kn:List Int}{r:Nat}{H:Hp}(hl:l.length<2^30)(hi:i<l.length)(hkl:∀n∈l,n.kids.length<2^30)(hkn:l.length<=kn.length)(A:H.get r=some (.cells (kn.map (.int .i64)) 0 true))(hr:r<H.next):
 zc2 Tryz.prog (zcW pls qU) 121 [zd2 l,.int .i64 i,.sl r 0 kn.length 1] H fun v H'=>v=.int .i64 (jT l i kn)/\H.next<=H'.next/\∀k,k<H.next->H'.get k=H.get k:=by
 have hw:Plain (zcW pls qU) 121:=zdO (fun _=>rfl) rfl;have hkeep:(zcW pls qU).keep 121=false:=rfl;have W:l[i]?=some l[i]:=aO hi;have hnk:=hkl _ (dx hi);generalize l[i]=n at *;refine zf (M:=80) (rs:=[.tmp 6]) (hw.call _) hw.ice hw.froz Tryz.func121 rfl rfl Ho.2 rfl ?_;dsimp only[Ho,zcX,Nat.reduceAdd];repeat' (first
  |(apply zcP ?_;clear hK K)|apply Rx.o ?_|apply bE ?_|apply ak ?_|(apply zcQ fun K hK=>?_)|apply ax ?_|fail)
 refine zdN [0,1,2,7,16,17] [] 18 n.kids.length (fun j E O=>∃v s,E.at 8=v/\ep O v s (H.next+1)/\oa i kn n.kids j s/\O.get H.next=some (.cells n.cells 0 true)/\∀k,k<H.next->O.get k=H.get k) eE ⟨.nilS,[],eE,.inl ⟨rfl,rfl⟩,⟨rfl,aE⟩,hW,fun k F=>by rw[aX,ah ac,zcY,ah ac]⟩ ?_;rintro j E O hj hcE hrH hnH hsI ⟨v,s,zfP,hv,g,hn7,C⟩;(try simp only[zdh,zdb,a1,zc3,zde,Nat.reduceBEq, *]at hcE);(try simp only[zdb,zde, *]at hrH);(try simp only[zc6,zdm,]at hnH);repeat' (first
  |(apply zcP ?_;clear hK K)|apply Rx.o ?_|(apply aU (fun z V=>?_) (fun z V=>?_)<;>try(cases z;done))|apply ak ?_|(apply zcQ fun K hK=>?_)|apply ax ?_|apply zcR ?_|apply zc4 ?_)
 .have hlt:j<n.kids.length:=by simpa using z
  have L:n.kids[j]?=some n.kids[j]:=aO hlt;generalize n.kids[j]=kd at *;have g2r:O.get r=some (.cells (kn.map (.int .i64)) 0 true):=by rw[C r hr];exact A
  by_cases c1:kd<0
  .repeat' (first
    |(apply zcP ?_;clear hK K)|apply Ry.o ?_|(apply aT (fun A I=>?_) (fun A I=>?_)<;>try(cases A;done))|(apply az (fun z V=>?_) (fun z V=>?_)<;>try(cases z;done))|apply ak ?_|(apply zcQ fun K hK=>?_)|apply am ?_|fail)
   all_goals (refine⟨zcT,_,zcU,?_⟩;try simp only[zcS])
   refine⟨?_,ac,C⟩;rw[xZ W (g.bad L (.inl c1))]
  by_cases c2:(i:Int)<=kd
  .have c1':¬kd<0:=c1;repeat' (first
    |(apply zcP ?_;clear hK K)|apply Ry.o ?_|(apply aT (fun A I=>?_) (fun A I=>?_)<;>try(cases A;done))|(apply az (fun z V=>?_) (fun z V=>?_)<;>try(cases z;done))|apply ak ?_|(apply zcQ fun K hK=>?_)|apply am ?_|fail)
   all_goals (refine⟨zcT,_,zcU,?_⟩;try simp only[zcS])
   refine⟨?_,ac,C⟩;rw[xZ W (g.bad L (.inr (.inl c2)))]
  obtain⟨m,rfl⟩:=eI (xW.1 c1);have hml:m<kn.length:=ac;have hgk:kn[m]?=some kn[m]:=aO hml;have hgd:kn.getD (m:Int).toNat 0=kn[m]:=by rw[dQ,cH,hgk];rfl
  have hia:zdn Tryz.prog 23 (.sl r 0 kn.length 1) (.int .i64 (m:Int))=some (.ptr r m):=by rw[mK Tryz.underlying23 jl hml];simp
  have hld:zep Tryz.prog O 3 (.ptr r m)=some (.int .i64 kn[m]):=by rw[qo Tryz.underlying3 rfl g2r,ea,hgk];rfl
  generalize kn[m]=x at *;repeat' (first
   |(apply zcP ?_;clear hK K)|apply Ry.o ?_|(apply aT (fun A I=>?_) (fun A I=>?_)<;>try(cases A;done))|(apply az (fun z V=>?_) (fun z V=>?_)<;>try(cases z;done))|apply ak ?_|(apply zcQ fun K hK=>?_)|apply zcR ?_|apply am ?_|fail)
  .all_goals (refine⟨zcT,_,zcU,?_⟩;try simp only[zcS])
   refine⟨?_,ac,C⟩;rw[xZ W (g.bad L (.inr (.inr (by rw[hgd];assumption))))]
  .have hvb:ep (O.alloc (.cells [.int .i64 x] 0 true)) v s (H.next+1):=hv.keep (gm _) fun k F=>by rw[zcY,ah (by have:=(hv.lt F).2;omega)]
   obtain⟨v5,H5,a5,s5,n5,f5,o5⟩:=xJ (r:=O.next) (imm:=0) x hvb gX iu (by have:=g.1;omega);have hJn:=g.next L (by rw[hgd];rintro(h|h|h)<;>contradiction)
   rw[hgd]at hJn;have n5':O.next<=H5.next:=sY
   clear n5;have o:∀k,k<H.next+1->H5.get k=O.get k:=fun k F=>by rw[f5 k F,zcY,ah ac]
   refine nQ eV eV (by rw[hkeep];exact a5) ?_;repeat' (first
    |(apply zcP ?_;clear hK K)|apply Rx.o ?_|(apply zcQ fun K hK=>?_)|fail)
   clear f5 o5 a5;refine⟨ac,eL,eL,eN,pe,?_⟩;refine⟨v5,s++[x],eE,.inr s5,hJn,by rw[o _ ac];exact hn7,fun k F=>by rw[o k ac,C k F]⟩
 .have hje:j=n.kids.length:=by simp at z;omega
  rw[hje]at g;have Z:=Yl W g.done;have hsl2:s.length<2^30:=by rw[g.1];exact hnk
  repeat' (first
   |(apply zcP ?_;clear hK K)|fail)
  refine a4 rfl a6 a7 ?_;simp only[bB];refine aZ ?_ (Yk (fun _=>rfl) rfl hv hsl2 n);rintro w H4 ⟨rfl,hy⟩;have n4:=hy.next
  have n4':H.next+1<=H4.next:=ac
  have Y:=hv.icy hy;have g4:H4.get H.next=some (.cells n.cells 0 true):=by rw[hy.out _ ac];exact hn7
  have o4:∀k,k<H.next->H4.get k=H.get k:=fun k F=>by rw[hy.out _ ac,C k F]
  clear hy n4 hv C hn7;dsimp only[zc5];cases J:zdv n.op s with
  |false=>
   repeat' (first
    |(apply zcP ?_;clear hK K)|apply Rx.o ?_|(apply bW (fun A I=>?_) (fun A I=>?_)<;>try(cases A;done))|(apply aU (fun z V=>?_) (fun z V=>?_)<;>try(cases z;done))|apply ak ?_|(apply zcQ fun K hK=>?_)|apply am ?_|fail)
   all_goals (refine⟨zcT,_,zcU,?_⟩;try simp only[zcS])
   refine⟨?_,ac,o4⟩;rw[Z,J];rfl
  |true=>
  have U:=Yo hi hkl g.done J;rw[J,dq]at Z;have kim:∀H,zc2 Tryz.prog (zcW pls qU) 168 [zd2 l,.agg n.cells] H fun v H'=>v=.bool (jc l n)/\H'=H:=fun H=>zdW (enc:=qS) (ok:=u6) (out:=fun x=>.bool (jc x.1 x.2)) X6 (x:=(l,n)) rfl U;have hq:(16:Int)≠0:=dD;repeat' (first
   |(apply zcP ?_;clear hK K)|apply Rx.o ?_|(apply i5 ?_;first|refine Rx.k (kim _) ?_)|(apply bW (fun A I=>?_) (fun A I=>?_)<;>try(cases A;done))|(apply aU (fun z V=>?_) (fun z V=>?_)<;>try(cases z;done))|apply ak ?_|(apply zcQ fun K hK=>?_)|apply ax ?_|apply zcR ?_|apply am ?_|fail)
  all_goals (first|(refine⟨zcT,_,zcU,?_⟩;(try simp only[zcS]);refine⟨?_,ac,o4⟩;rw[Z];unfold jM;clear U kim o4 Y Z W;simp_all;done)|skip)
  all_goals trace_state
  repeat' (first
   |(apply zcP ?_;clear hK K)|fail)
  have h22:n.op=22:=hY;have hl3:=Yn J h22;rcases Y with⟨_,hnil⟩|Y
  .rw[hnil]at hl3;simp at hl3
  obtain⟨q,hix,hlo⟩:=Y.at (i:=1) ac;have hix':zdn Tryz.prog 23 v (.int .i64 1)=some (.ptr q 1):=hix;repeat' (first
   |(apply zcP ?_;clear hK K)|apply Rx.o ?_|apply am ?_|fail)
  all_goals (refine⟨zcT,_,zcU,?_⟩;try simp only[zcS])
  refine⟨?_,ac,o4⟩;have hgl:s.getD 1 0=s[1]' ac:=by rw[cH,aO ac];rfl
  rw[Z];unfold jM;clear U kim o4 Y Z W;simp_all
theorem Hw{i:Nat}{a b:List Int}(F:a.length=i):∀V:List Int,zeq i (a++b) V=zeq i a V
 |[]=>rfl
 |k::V=>by
  rw[zeq,zeq,Hw F V];by_cases h:k<0\/(i:Int)<=k
  .rw[ay ac,ay ac]
  .have e:(a++b).getD k.toNat 0=a.getD k.toNat 0:=by rw[cH,cH,je ac]
   rw[e]
theorem Yq(l:List Nd){i:Nat}(b:List Int):jT l i (zds l i++b)=jT l i (zds l i):=by
 unfold jT;cases l[i]? with
 |none=>rfl
 |some n=>simp only[Hw (zfw l i)]
def zeu(l:List Nd):Prop:=l.length<2^30/\∀n∈l,n.kids.length<2^30
def i8(l:List Nd):List AV:=[zd2 l]
theorem qV(x y:List Nd)(h:i8 x=i8 y):x=y:=by
 simp only[i8,cS,a1]at h;exact xS h
theorem Yr(ρ:Nat->Int)(l:List Nd)(hl:zeu l):bh Tryz.prog ρ 78 [zd2 l] (zdR (zds l l.length)):=zfE (m:=3) (cfg:=zcW pls qU) fit (ll ρ) (fb.look (Yi ρ)) (.cons (zfr _) .nil) (by
 obtain⟨O,L⟩:=hl;have J:Plain (zcW pls qU) 78:=zdO (fun _=>rfl) rfl;have hmk:∀H:Hp,zeA Tryz.prog H 23 (.int .i64 l.length) (.int .i64 l.length)=some (.sl H.next 0 l.length 1,H.alloc (.cells ((List.replicate l.length (0:Int)).map (.int .i64)) 0 true)):=fun H=>Xi _ _ (aM _) ac;refine zf (M:=22) (rs:=[.tmp 2]) (J.call _) J.ice J.froz Tryz.func78 rfl rfl Hr.2 rfl ?_;dsimp only[Hr,zcX,Nat.reduceAdd];repeat' (first
  |(apply zcP ?_;clear hK K)|apply Rx.o ?_|apply ak ?_|(apply zcQ fun K hK=>?_)|apply ax ?_|fail)
 refine zdN [0,2,3,9] [] 10 l.length (fun i E H=>H.get 0=some (.cells ((zds l i++List.replicate (l.length-i) 0).map (.int .i64)) 0 true)) eE (by rw[zcY,ay dt];simp[zds]) ?_;rintro i E H2 hi W j U hsI g;(try simp only[zdh,zdb,a1,zc3,zde,Nat.reduceBEq, *]at W);(try simp only[zdb,zde, *]at j);(try simp only[zc6,zdK,bz]at U);repeat' (first
  |(apply zcP ?_;clear hK K)|apply Rx.o ?_|(apply aU (fun z V=>?_) (fun z V=>?_)<;>try(cases z;done))|apply ak ?_|(apply zcQ fun K hK=>?_)|apply ax ?_|apply zcR ?_|apply am ?_|apply zc4 ?_)
 .have Z:i<l.length:=by simpa using z
  refine a4 rfl a6 a7 ?_;simp only[bB];have o:(zds l i++List.replicate (l.length-i) (0:Int)).length=l.length:=by rw[fv,zfw,jn];omega
  have I:=Yp (l:=l) (i:=i) (kn:=zds l i++List.replicate (l.length-i) 0) (r:=0) (H:=H2) O Z L ac g ac;rw[o]at I;refine aZ ?_ I;rintro w H3 ⟨rfl,hn3,C⟩;have g3:H3.get 0=_:=(C 0 ac).trans g;have n3:1<=H3.next:=ac
  rw[Yq];dsimp only[zc5];generalize hx:jT l i (zds l i)=x;have F:zds l (i+1)=zds l i++[x]:=by rw[zds,hx]
  repeat' (first
   |apply Ry.o ?_|fail)
  refine mI eV eV (uV g3 (by rw[cX,o];exact Z) x) ?_;repeat' (first
   |(apply zcP ?_;clear hK K)|apply Rx.o ?_|(apply zcQ fun K hK=>?_)|fail)
  refine⟨ac,eL,eL,eN,jJ,?_⟩;rw[aX,ay rfl,F,<-n0];have Y:List.replicate (l.length-i) (0:Int)=0::List.replicate (l.length-(i+1)) 0:=Hd;rw[Y,List.set_append,ah oZ,zfw,kC,BC,gw];rfl
 .have A:i=l.length:=by simp at z;omega
  rw[A,kC]at g;repeat' (first
   |(apply zcP ?_;clear hK K)|fail)
  all_goals (refine⟨zcT,_,zcU,?_⟩;try simp only[zcS])
  have z:eU H2 (.sl 0 0 (zds l l.length).length 1) (zds l l.length) 0:=⟨0,0,rfl,by rw[g];simp,cN _,cN _,ac⟩;have:=z.iceV 1;rw[zfw]at this;exact this)
noncomputable def B4:En:=⟨78,true,b0 zeu i8 fun l=>zdR (zds l l.length)⟩
theorem Ys(ρ:Nat->Int):zdF Tryz.prog ρ B4:=zdM fun l I=>Yr ρ l I
theorem Yt{tb:List En}(C:∀z,zdS tb 78 z=B4.sp z)(l:List Nd)(I:zeu l)(H:Hp):zc2 Tryz.prog (zcW pls tb) 78 [zd2 l] H fun v H'=>v=zdR (zds l l.length)/\H'=H:=
 zdW (enc:=i8) (ok:=zeu) (out:=fun l=>zdR (zds l l.length)) qV (x:=l) (C _) I
theorem zeu.take{l:List Nd}(h:zeu l)(k:Nat):zeu (l.take k):=⟨by rw[iS];have:=h.1;omega,fun n o=>h.2 n (List.mem_of_mem_take o)⟩
theorem Yu(l:List Nd)(k:Nat)(j:k<=l.length):zeF Tryz.prog 26 (.lst (l.map Nd.cells)) none (some (.int .i64 (k:Int)))=some (.lst ((l.take k).map Nd.cells)):=by
 have Y:(k:Int)=Int.ofNat k:=rfl;simp only[zeF,Tryz.underlying26,xl,yL];rw[ay ⟨cN _,by rw[cX];exact j⟩];have A:((l.map Nd.cells).drop 0).take (k-0)=(l.take k).map Nd.cells:=by rw[dW,wv,zI]
 rw[A];cases l.take k with
 |nil=>rfl
 |cons a l=>simp only[dO,Nd.clen,bS]
def md(x:List Nd×Int):List AV:=[zd2 x.1,.int .i64 x.2]
theorem Hy(x y:List Nd×Int)(h:md x=md y):x=y:=by
 simp only[md,cS,AV.int.injEq,a1,fM]at h;exact j3 (xS h.1) h.2
end Go.Proofs.YtljebeflbbgibaaGreat
namespace Go.Ab
set_option maxRecDepth 20000
open Go
def qW(a b:Nat):Nat:=a^^^ (a &&& b)
def pf(n:Nd)(h:List Nat)(j:Nat)(k:Int):Nat:=if n.op=31/\dR n.kids.length<=j then qW (h.getD k.toNat 0) (2^ n.imm.toNat)else h.getD k.toNat 0
def ng(n:Nd)(h:List Nat):Nat->List Int->Nat->Nat
 |_,[],m=>m
 |j,k::ks,m=>ng n h (j+1) ks (m |||pf n h j k)
def qX(n:Nd)(h:List Nat):Nat:=ng n h 0 n.kids (if n.op=3 then 2^ (n.imm.tdiv 16).toNat else 0)
def zev(l:List Nd):Nat->List Nat
 |0=>[]
 |i+1=>zev l i++[match l[i]? with|some n=>qX n (zev l i)|none=>0]
def qY(n:Nd)(h:List (List Bool))(j:Nat):Bool:=
 (n.kids.zipIdx.any fun p=>(h.getD p.1.toNat []).getD j false&&(!decide (n.op=31) || !decide ((j:Int)=n.imm)||decide ((p.2:Int)<(n.kids.length:Int).tdiv 2)))||(decide (n.op=3)&&decide ((j:Int)=n.imm.tdiv 16))
def zew(l:List Nd):Nat->List (List Bool)
 |0=>[]
 |i+1=>zew l i++[(List.range 16).map fun j=>match l[i]? with|some n=>qY n (zew l i) j|none=>false]
theorem s7(l:List Nd):∀i,(zev l i).length=i
 |0=>rfl
 |i+1=>by rw[zev,fv,s7 l i];rfl
theorem pg(l:List Nd):∀i,(zew l i).length=i
 |0=>rfl
 |i+1=>by rw[zew,fv,pg l i];rfl
theorem x4(a b j:Nat):(qW a b).testBit j=(a.testBit j && !b.testBit j):=by
 unfold qW;rw[Nat.testBit_xor,Nat.testBit_and];cases a.testBit j<;>cases b.testBit j<;>rfl
theorem B5(n:Nd)(h:List Nat)(t:Nat):∀(V:List Int) (j m:Nat),(ng n h j V m).testBit t=(m.testBit t||(V.zipIdx j).any fun p=>(pf n h p.2 p.1).testBit t)
 |[],j,m=>by simp[ng]
 |k::V,j,m=>by
  rw[ng,B5 n h t V,Nat.testBit_or,zE,mW,Bo]
structure NdOk (n:Nd) (i:Nat):Prop where
 kids:∀k∈n.kids,0<=k/\k<i
 lv:n.op=3->0<=n.imm/\n.imm<=255
 lp:n.op=31->0<=n.imm/\n.imm<=15/\n.kids.length%2=1/\3<=n.kids.length
theorem B6(a t:Nat):(2^ a).testBit t=decide (a=t):=Nat.testBit_two_pow
theorem B7{M:Type}{a:List M}{x d:M}{j:Nat}(h:j<a.length):(a++[x]).getD j d=a.getD j d:=by
 rw[cH,je h,<-cH]
theorem B8{M:Type}{a:List M}{x d:M}{j:Nat}(h:j=a.length):(a++[x]).getD j d=x:=by
 subst h;rw[cH,jS (aM _),kC];rfl
theorem x5{l:List Nd}:∀(i:Nat),i<=l.length->(∀j n,j<i->l[j]?=some n->NdOk n j)->∀j,j<i->∀t,((zev l i).getD j 0).testBit t=(decide (t<16)&&((zew l i).getD j []).getD t false)
 |0,_,_,j,h,_=>by omega
 |i+1,hi,hok,j,hj,t=>by
  have ih:=x5 i ac (fun j n O g=>hok j n ac g);rw[zev,zew];by_cases e:j<i
  .rw[B7 (by rw[s7];exact e),B7 (by rw[pg];exact e)];exact ih j e t
  .obtain rfl:j=i:=by omega
   rw[B8 (s7 l j).symm,B8 (pg l j).symm];obtain⟨n,Z⟩:∃n,l[j]?=some n:=⟨l[j],aO ac⟩;have ok:=hok j n (cQ _) Z;rw[Z];simp only;by_cases c:t<16
   .rw[cI c,dq,cH,ea,zH c];simp only[jy,a8];unfold qX qY;rw[B5];have Y:(if n.op=3 then 2^ (n.imm.tdiv 16).toNat else 0).testBit t=(decide (n.op=3)&&decide ((t:Int)=n.imm.tdiv 16)):=by
     by_cases c3:n.op=3
     .have:=ok.lv c3;rw[ay c3,B6,cI c3,dq,kM];have W:0<=n.imm.tdiv 16:=Int.tdiv_nonneg this.1 ac;omega
     .rw[ah c3,dd c3];simp
    rw[Y,Bool.or_comm]
    congr 1
    rw[tX,List.any_eq_true,List.any_eq_true];have F:∀p∈n.kids.zipIdx,(pf n (zev l j) p.2 p.1).testBit t=(((zew l j).getD p.1.toNat []).getD t false&&(!decide (n.op=31) || !decide ((t:Int)=n.imm)||decide ((p.2:Int)<(n.kids.length:Int).tdiv 2))):=fun p hp=>by
     have M:p.1∈n.kids:=Hm hp;have V:=ok.kids _ M;have z:=ih p.1.toNat ac t;rw[cI c,dq]at z;unfold pf;by_cases J:n.op=31
     .obtain⟨I,K,C,m⟩:=ok.lp J;have e2:dR n.kids.length=((n.kids.length/2:Nat):Int):=by rw[sV _ ac];omega
      have A:(n.kids.length:Int).tdiv 2=((n.kids.length/2:Nat):Int):=rfl;rw[A,cI J];by_cases L:dR n.kids.length<=p.2
      .rw[ay ⟨J,L⟩,x4,z,B6];have o:decide ((p.2:Int)<((n.kids.length/2:Nat):Int))=false:=dd ac;have U:decide (n.imm.toNat=t)=decide ((t:Int)=n.imm):=by rw[kM];omega
       rw[o,U];simp
      .rw[ah (fun h=>L h.2),z];have o:decide ((p.2:Int)<((n.kids.length/2:Nat):Int))=true:=cI ac;rw[o];simp
     .rw[ah (fun h=>J h.1),z,dd J];simp
    constructor
    .rintro⟨p,hp,h⟩;exact⟨p,hp,by rw[<-F p hp];exact h⟩
    .rintro⟨p,hp,h⟩;exact⟨p,hp,by rw[F p hp];exact h⟩
   .rw[dd c,dX];unfold qX;rw[B5];have Y:(if n.op=3 then 2^ (n.imm.tdiv 16).toNat else 0).testBit t=false:=by
     by_cases c3:n.op=3
     .have:=ok.lv c3;rw[ay c3,B6];refine dd ?_;have W:n.imm.tdiv 16<16:=by rw[kN this.1];omega
      omega
     .rw[ah c3];simp
    rw[Y,ji,uk];intro p hp;have M:p.1∈n.kids:=Hm hp;have V:=ok.kids _ M;have z:=ih p.1.toNat ac t;rw[dd c,dX]at z;unfold pf;split
    .rw[x4,z];simp
    .rw[z];simp
theorem mask_zero{l:List Nd}{i j:Nat}(C:i<=l.length)(O:∀j n,j<i->l[j]?=some n->NdOk n j)(Z:j<i):decide ((zev l i).getD j 0=0)=((List.range 16).all fun t=>!((zew l i).getD j []).getD t false):=by
 have h:=x5 i C O j Z;rw[tX,decide_eq_true_iff,fT];constructor
 .intro e t Y;have:=h t;rw[e,xX,cI (iY.1 Y),dq]at this;rw[<-this];rfl
 .intro e;apply BY;intro t;rw[h t,xX];by_cases c:t<16
  .have:=e t (iY.2 c);simp only[lS]at this;rw[this,o7]
  .rw[dd c,dX]
end Go.Ab
namespace Go.Proofs.YtljebeflbbgibaaGreat
set_option maxRecDepth 20000
open Go Go.Ab
section
def tyV2.tyF:=ad @cP (ad @b7 (ad @dz (ad @ei (ad @fd (ad @eT (ad @mN (ad @mO (ad @ii (ad @jE (ad @kJ (ad @VU (ad @mJ (@oN)))))))))))))
open tyV2
noncomputable def Hz:{c:SC // aB 59 (Tryz.f100.body.getD .skip)=c}:=by
 refine⟨?_,?_⟩;rotate_left
 .simp only[Tryz.f100,a8,aB,zda,zc9,zdc,zdd,Nat.blt,Nat.ble];rfl
noncomputable def s8:{c:SC // aB 47 (Tryz.f98.body.getD .skip)=c}:=by
 refine⟨?_,?_⟩;rotate_left
 .simp only[Tryz.f98,a8,aB,zda,zc9,zdc,zdd,Nat.blt,Nat.ble];rfl
def fQ:List Nd->List Int->Option (List Int)
 |[],t=>some t
 |n::l,t=>if n.op=31 then (if 0<t.getD n.imm.toNat 0 then none else fQ l (t.set n.imm.toNat (dR n.kids.length)))else fQ l t
def kO(t:List Int)(n:Nd):Bool:=decide (n.op=3)&&decide (0<t.getD (n.imm.tdiv 16).toNat 0)&&decide (t.getD (n.imm.tdiv 16).toNat 0<=n.imm.tmod 16)
def ya(l:List Nd):Bool:=match fQ l (List.replicate 16 0)with
 |none=>false
 |some t=>l.all fun n=>!kO t n
def vb(n:Nd):Prop:=(n.op=31->0<=n.imm/\n.imm<=15)/\(n.op=3->0<=n.imm/\n.imm<=255)
theorem Yv(H:Hp):zdq Tryz.prog 208=some ((List.replicate 16 (0:Int)).map (.int .i64)):=af
theorem HA{r m:Nat}(M:m<16):zdn Tryz.prog 208 (.ptr r 0) (.int .i64 (m:Int))=some (.ptr r m):=by
 have e:zdn Tryz.prog 208 (.ptr r 0) (.int .i64 (Int.ofNat m))=if m<16 then some (.ptr r (0+m*1))else none:=rfl
 rw[show((m:Nat):Int)=Int.ofNat m from rfl,e,ay M];simp
theorem HC{H:Hp}{r imm m:Nat}{t:List Int}(A:H.get r=some (.cells (t.map (.int .i64)) imm true))(M:m<t.length):zep Tryz.prog H 3 (.ptr r m)=some (.int .i64 (t.getD m 0)):=by
 rw[qo Tryz.underlying3 rfl A,ea,cH,aO M];rfl
theorem Yw{H:Hp}{r m:Nat}{t:List Int}(A:H.get r=some (.cells (t.map (.int .i64)) 0 true))(M:m<t.length)(n:Int):zeP Tryz.prog H 3 (.ptr r m) (.int .i64 n)=some (H.set r (.cells ((t.set m n).map (.int .i64)) 0 true)):=by
 rw[uV A (by rw[cX];exact M),n0]
set_option maxRecDepth 100000 in
theorem Yx(ρ:Nat->Int)(l:List Nd)(hl:zeu l)(hn:∀n∈l,vb n):bh Tryz.prog ρ 100 [zd2 l] (.bool (ya l)):=zdZ fit (pls:=pls) (l:=[na]) ⟨xR ρ,trivial⟩ (.cons (zfr _) .nil) (.bool _) (by
 obtain⟨hl1,hl2⟩:=hl;have hw:Plain (zcW pls [na]) 100:=zdO (fun _=>rfl) rfl;have q16:(16:Int)≠0:=dD;refine zf (M:=59) (rs:=[.tmp 2]) (hw.call _) hw.ice hw.froz Tryz.func100 rfl rfl Hz.2 rfl ?_;dsimp only[Hz,zcX,Nat.reduceAdd];have gh0:=@Yv;repeat' (first
  |(apply zcP ?_;clear hK K)|apply Rx.o ?_|apply ak ?_|(apply zcQ fun K hK=>?_)|apply ax ?_|fail)
 refine zdN [0,3,8,9] [] 10 l.length (fun i E H=>∃t:List Int,t.length=16/\H.get 0=some (.cells (t.map (.int .i64)) 0 true)/\fQ l (List.replicate 16 0)=fQ (l.drop i) t) eE ⟨List.replicate 16 0,aE,n9,aE⟩ ?_;rintro i E J hi F C W hsI ⟨t,ht,A,g⟩;(try simp only[zdh,zdb,a1,zc3,zde,Nat.reduceBEq, *]at F);(try simp only[zdb,zde, *]at C);(try simp only[zc6,zdK,bz]at W);have hB0:(0 == J.next)=false:=zc7 ac;have hC0:(J.next == 0)=false:=zc7 ac;have hn2:1<=J.next:=W
 by_cases O:i<l.length
 .have hlt':(i:Int)<l.length:=by omega
  have hgx:l[i]?=some l[i]:=aO O;have o:=hn _ (dx O);have hnk:=hl2 _ (dx O);have U:fQ (l.drop i) t=if l[i].op=31 then (if 0<t.getD l[i].imm.toNat 0 then none else fQ (l.drop (i+1)) (t.set l[i].imm.toNat (dR l[i].kids.length)))else fQ (l.drop (i+1)) t:=by rw[eJ O,fQ]
  generalize l[i]=n at *;have e0:(0 == J.next)=false:=zc7 ac;by_cases h31:n.op=31
  .obtain⟨m0,zeo⟩:=o.1 h31;obtain⟨m,hm⟩:=eI m0;have Z:m<16:=ac;rw[ay h31,hm,dQ]at U;have hix:=HA (r:=0) Z;have hgA:∀b,(J.alloc b).get 0=some (.cells (t.map (.int .i64)) 0 true):=fun b=>by rw[zcY,ah ac];exact A
   have Y:∀b c,((J.alloc b).set J.next c).get 0=some (.cells (t.map (.int .i64)) 0 true):=fun b c=>by rw[aX,ah ac];exact hgA b
   have hld:=fun b c=>HC (Y b c) (m:=m) ac;generalize t.getD m 0=x at *;repeat' (first
    |(apply zcP ?_;clear hK K)|apply Ry.o ?_|apply bl ?_|(apply bq ?_;first|refine Rx.k (sW (fun _=>rfl) _ ac _) ?_)|(apply az (fun z V=>?_) (fun z V=>?_)<;>try(cases z;done))|apply ak ?_|(apply zcQ fun K hK=>?_)|(apply zdG 8 [(1,5),(1,7),(3,5),(4,5)] fun K hK=>?_)|(apply zdB ?_;try intro _)|apply b4 ?_|apply zfc rfl ?_|apply ax ?_|apply zcR ?_|apply am ?_|fail)
   .all_goals (refine⟨zcT,_,zcU,?_⟩;try simp only[zcS])
    rw[ay hY]at U;rw[ya,g,U]
   .refine mI eV eV (Yw (Y _ _) ac _) ?_;repeat' (first
     |(apply zcP ?_;clear hK K)|apply Rx.o ?_|(apply zcQ fun K hK=>?_)|(apply zdB ?_;try intro _)|(apply zdJ ?_ ?_<;>clear hK K)|fail)
    .exact zdj
    .refine⟨ac,eL,eL,eN,jJ,?_⟩;exact⟨t.set m (dR n.kids.length),by rw[kK];exact ht,hW,by rw[g,U,ah hY]⟩
  .rw[ah h31]at U;repeat' (first
    |(apply zcP ?_;clear hK K)|apply Ry.o ?_|apply bl ?_|(apply az (fun z V=>?_) (fun z V=>?_)<;>try(cases z;done))|apply ak ?_|(apply zcQ fun K hK=>?_)|apply ax ?_|apply zcR ?_|apply zc4 ?_)
   refine⟨ac,eL,eL,eN,jJ,?_⟩;exact⟨t,ht,He,by rw[g,U]⟩
 .have hlt':¬(i:Int)<l.length:=by omega
  repeat' (first
   |(apply zcP ?_;clear hK K)|apply Ry.o ?_|(apply az (fun z V=>?_) (fun z V=>?_)<;>try(cases z;done))|apply ak ?_|(apply zcQ fun K hK=>?_)|apply ax ?_|apply zc4 ?_)
  have hie:l.drop i=[]:=o0 ac;rw[hie,fQ]at g;have hvl:ya l=l.all fun n=>!kO t n:=by rw[ya,g]
  rw[hvl];clear hie g hvl;refine zdN [3,30,31] [] 32 l.length (fun i E H=>H.get 0=some (.cells (t.map (.int .i64)) 0 true)/\(l.all fun n=>!kO t n)=(l.drop i).all fun n=>!kO t n) eE ⟨A,aE⟩ ?_;rintro j E3 H3 hj F C W hsI ⟨hg3,g⟩;(try simp only[zdh,zdb,a1,zc3,zde,Nat.reduceBEq, *]at F);(try simp only[zdb, *]at C);(try simp only[zc6,zdm,zdK,bz,Nat.reduceAdd]at W);have hB0:(0 == H3.next)=false:=zc7 ac;have hC0:(H3.next == 0)=false:=zc7 ac;have hn3:1<=H3.next:=ac
  by_cases hjt:j<l.length
  .have hjt':(j:Int)<l.length:=by omega
   have hgx:l[j]?=some l[j]:=aO hjt;have o:=hn _ (dx hjt);have U:((l.drop j).all fun n=>!kO t n)=(!kO t l[j]&&(l.drop (j+1)).all fun n=>!kO t n):=by rw[eJ hjt,mV]
   generalize l[j]=n at *;have e0:(0 == H3.next)=false:=zc7 ac;by_cases h3:n.op=3
   .obtain⟨m0,zeo⟩:=o.2 h3;have hd:n.imm.tdiv 16=n.imm/16:=kN m0;have hd0:0<=n.imm.tdiv 16:=by rw[hd];omega
    obtain⟨m,hm⟩:=eI hd0;have Z:m<16:=ac;have L:kO t n=(decide (0<t.getD m 0)&&decide (t.getD m 0<=n.imm.tmod 16)):=by rw[kO,hm,h3,dQ];rfl
    have ew:IntKind.wrap .i64 (n.imm.tdiv 16)=m:=by rw[hm];exact zey ac ac
    have hix:=HA (r:=0) Z;have Y:∀b c,((H3.alloc b).set H3.next c).get 0=some (.cells (t.map (.int .i64)) 0 true):=fun b c=>Hg;have hld:=fun b c=>HC (Y b c) (m:=m) ac;generalize t.getD m 0=x at *;clear hd hm;repeat' (first
     |(apply zcP ?_;clear hK K)|apply Ry.o ?_|apply bl ?_|(apply az (fun z V=>?_) (fun z V=>?_)<;>try(cases z;done))|apply ak ?_|(apply zcQ fun K hK=>?_)|(apply zdG 13 [(1,22),(5,22),(8,22),(13,22),(16,22),(19,22)] fun K hK=>?_)|(apply zdB ?_;try intro _)|(apply zdJ ?_ ?_<;>clear hK K)|apply b4 ?_|(apply mT (fun A I=>?_) (fun A I=>?_)<;>try(cases A;done))|apply ax ?_|apply zcR ?_|apply am ?_|fail)
    all_goals first
     |exact zdj
     |(refine⟨zcT,_,dG,?_⟩
       simp only[zcS];rw[g,U,L];simp_all;done)
     |skip
    all_goals
     refine⟨ac,eL,eL,eN,jJ,?_⟩;exact⟨Y _ _,by rw[g,U,L];simp_all⟩
   .have L:kO t n=false:=by rw[kO,dd h3];rfl
    repeat' (first
     |(apply zcP ?_;clear hK K)|apply Ry.o ?_|apply bl ?_|(apply az (fun z V=>?_) (fun z V=>?_)<;>try(cases z;done))|apply ak ?_|(apply zcQ fun K hK=>?_)|(apply zdG 13 [(1,22),(5,22),(8,22),(13,22),(16,22),(19,22)] fun K hK=>?_)|(apply zdB ?_;try intro _)|(apply zdJ ?_ ?_<;>clear hK K)|apply b4 ?_|(apply mT (fun A I=>?_) (fun A I=>?_)<;>try(cases A;done))|apply ax ?_|apply zcR ?_|fail)
    all_goals first
     |exact zdj
     |skip
    refine⟨ac,eL,eL,eN,jJ,?_⟩;exact⟨Hg,by rw[g,U,L];rfl⟩
  .have hjt':¬(j:Int)<l.length:=by omega
   repeat' (first
    |(apply zcP ?_;clear hK K)|apply Ry.o ?_|(apply az (fun z V=>?_) (fun z V=>?_)<;>try(cases z;done))|apply ak ?_|(apply zcQ fun K hK=>?_)|apply am ?_|apply zc4 ?_)
   all_goals (refine⟨zcT,_,zcU,?_⟩;try simp only[zcS])
   rw[g,o0 ac];rfl)
end
section
def tyV3.tyF:=ad @cP (ad @b7 (ad @dz (ad @ei (ad @fd (ad @eT (ad @mN (ad @mO (ad @ii (ad @jE (@kJ))))))))))
open tyV3
structure VrX where
 u:Un
 g:Gr
 n:Nd
def qZ(x:VrX):List AV:=[.agg x.u.cells,.agg x.g.cells,.agg x.n.cells]
theorem Yy(x y:VrX)(h:qZ x=qZ y):x=y:=by
 obtain⟨a,b,c⟩:=x;obtain⟨O,i,Z⟩:=y;simp only[qZ,cS,AV.agg.injEq,a1]at h;rw[Un.inj h.1,Gr.inj h.2.1,nX h.2.2]
def eO(u:Un)(g:Gr)(n:Nd):Bool:=
 if n.op=2 then decide (n.imm<g.params)
 else if n.op=23\/n.op=28 then decide (n.imm<u.arrays.length)
 else if n.op=30 then decide (n.imm<u.funcs.length)&&decide ((n.kids.length:Int)-1=(u.funcs.map Gr.params).getD n.imm.toNat 0)
 else true
def B9(x:VrX):Prop:=(x.n.op=30->0<=x.n.imm)/\x.n.kids.length<2^30/\x.u.arrays.length<2^30/\x.u.funcs.length<2^30
theorem Yz(ρ:Nat->Int)(x:VrX)(F:B9 x):bh Tryz.prog ρ 98 (qZ x) (.bool (eO x.u x.g x.n)):=zdZ fit (pls:=pls) (l:=[]) trivial (.cons (.agg (sA _)) (.cons (.agg (Gr.pure _)) (.cons (.agg (sy _)) .nil))) (.bool _) (by
 obtain⟨u,g,n⟩:=x;obtain⟨O,j,C,o⟩:=F;have J:=zed 98;rw[qZ];simp only[]at O j C o⊢;by_cases W:n.op=30
 .have h0:=O W;obtain⟨m,i⟩:=eI h0;have e1:IntKind.wrap .i64 ((n.kids.length:Int)-1)=(n.kids.length:Int)-1:=zey ac ac;have hr:eO u g n=(decide ((m:Int)<u.funcs.length)&&decide ((n.kids.length:Int)-1=(u.funcs.map Gr.params).getD m 0)):=by
   rw[eO,ah ac,ah ac,ay W,i,dQ]
  by_cases U:m<u.funcs.length
  .have Z:(m:Int)<u.funcs.length:=by omega
   have L:u.funcs[m]?=some u.funcs[m]:=aO U;have Y:(u.funcs.map Gr.params).getD m 0=u.funcs[m].params:=by rw[cH,ea,L];rfl
   rw[Y]at hr;clear Y;generalize u.funcs[m]=q at *;refine zf (M:=47) (rs:=[.tmp 6]) (J.call _) J.ice J.froz Tryz.func98 rfl rfl s8.2 rfl ?_;dsimp only[s8,zcX,Nat.reduceAdd];repeat' (first
    |(apply zcP ?_;clear hK K)|apply Ry.o ?_|(apply az (fun z V=>?_) (fun z V=>?_)<;>try(cases z;done))|apply ak ?_|(apply zcQ fun K hK=>?_)|(apply zdG 8 [(1,21),(3,21),(4,21),(8,21),(9,21),(12,21),(14,21),(17,21)] fun K hK=>?_)|(apply zdB ?_;try intro _)|(apply zdJ ?_ ?_<;>clear hK K)|apply b4 ?_|(apply mT (fun A I=>?_) (fun A I=>?_)<;>try(cases A;done))|apply ax ?_|apply zcR ?_|apply am ?_)
   all_goals first
    |exact zdj
    |(refine⟨zcT,_,dG,?_⟩
      simp only[zcS];rw[hr];simp_all;done)
  .have Z:¬(m:Int)<u.funcs.length:=by omega
   refine zf (M:=47) (rs:=[.tmp 6]) (J.call _) J.ice J.froz Tryz.func98 rfl rfl s8.2 rfl ?_;dsimp only[s8,zcX,Nat.reduceAdd];repeat' (first
    |(apply zcP ?_;clear hK K)|apply Ry.o ?_|(apply az (fun z V=>?_) (fun z V=>?_)<;>try(cases z;done))|apply ak ?_|(apply zcQ fun K hK=>?_)|(apply zdG 8 [(1,21),(3,21),(4,21),(8,21),(9,21),(12,21),(14,21),(17,21)] fun K hK=>?_)|(apply zdB ?_;try intro _)|(apply zdJ ?_ ?_<;>clear hK K)|apply b4 ?_|(apply mT (fun A I=>?_) (fun A I=>?_)<;>try(cases A;done))|apply ax ?_|apply zcR ?_|apply am ?_)
   all_goals first
    |exact zdj
    |(refine⟨zcT,_,dG,?_⟩
      simp only[zcS];rw[hr,dd Z];rfl)
 .refine zf (M:=47) (rs:=[.tmp 6]) (J.call _) J.ice J.froz Tryz.func98 rfl rfl s8.2 rfl ?_;dsimp only[s8,zcX,Nat.reduceAdd];repeat' (first
   |(apply zcP ?_;clear hK K)|apply Ry.o ?_|(apply az (fun z V=>?_) (fun z V=>?_)<;>try(cases z;done))|apply ak ?_|(apply zcQ fun K hK=>?_)|(apply zdG 8 [(1,21),(3,21),(4,21),(8,21),(9,21),(12,21),(14,21),(17,21)] fun K hK=>?_)|(apply zdB ?_;try intro _)|(apply zdJ ?_ ?_<;>clear hK K)|apply b4 ?_|(apply mT (fun A I=>?_) (fun A I=>?_)<;>try(cases A;done))|apply ax ?_|apply zcR ?_|apply am ?_)
  all_goals first
   |exact zdj
   |(refine⟨zcT,_,dG,?_⟩
     simp only[zcS];simp_all[eO];done))
end
section
def tyV4.tyF:=ad @cP (ad @b7 (ad @ei (ad @fd (ad @eT (ad @xm (ad @A8 (ad @uL (ad @Bf (@mJ)))))))))
open tyV4
noncomputable def HD:{c:SC // aB 81 (Tryz.f101.body.getD .skip)=c}:=by
 refine⟨?_,?_⟩;rotate_left
 .simp only[Tryz.f101,a8,aB,zda,zc9,zdc,zdd,Nat.blt,Nat.ble];rfl
theorem Ca{m:Nat}(h:m<2^32):IntKind.wrap .u32 (m:Int)=m:=by
 exact IntWalk.u32_in _ ac
theorem x6{a:Nat}(h:a<2^32):(BitVec.ofInt 32 (a:Int)).toNat=a:=by
 rw[BitVec.ofInt_natCast,BitVec.toNat_ofNat,Nat.mod_eq_of_lt h]
theorem HE{a b:Nat}(F:a<2^32)(z:b<2^32):IntKind.wrap .u32 (((BitVec.ofInt (IntKind.bits .u32) (a:Int) |||BitVec.ofInt (IntKind.bits .u32) (b:Int)).toNat:Nat):Int)=((a |||b:Nat):Int):=by
 have e:IntKind.bits .u32=32:=rfl;rw[e,BitVec.toNat_or,x6 F,x6 z];exact Ca (xY F z)
theorem YA{a b:Nat}(F:a<2^32)(z:b<2^32):IntKind.wrap .u32 (((BitVec.ofInt (IntKind.bits .u32) (a:Int) &&& ~~~ BitVec.ofInt (IntKind.bits .u32) (b:Int)).toNat:Nat):Int)=((qW a b:Nat):Int):=by
 have e:IntKind.bits .u32=32:=rfl;have h:(BitVec.ofInt 32 (a:Int) &&& ~~~ BitVec.ofInt 32 (b:Int)).toNat=qW a b:=by
  apply BY;intro j;rw[x4];rw[BZ,BitVec.getLsbD_and,BitVec.getLsbD_not,<-BZ,<-BZ,x6 F,x6 z];by_cases O:j<32
  .simp[O]
  .have:a.testBit j=false:=Nat.testBit_lt_two_pow (gk F (Nat.pow_le_pow_right ac ac));simp[this]
 rw[e,h];refine Ca ?_;rw[<-h];exact(BitVec.ofInt 32 (a:Int) &&& ~~~ BitVec.ofInt 32 (b:Int)).isLt
theorem HF{a b:Nat}(F:a<2^32):qW a b<2^32:=by
 apply Hn;intro j O;rw[x4];have:a.testBit j=false:=Nat.testBit_lt_two_pow (gk F (Nat.pow_le_pow_right ac O));simp[this]
def eA(h:List Nat):List AV:=h.map fun(m:Nat)=>AV.int .u32 (m:Int)
def vc(h:List Nat):AV:=.lst (h.map fun(m:Nat)=>[AV.int .u32 (m:Int)])
theorem x7(h:List Nat):(eA h).length=h.length:=cX _
theorem HG{D:BinOp->Sx->Sx->Option Bool}{t:TypeId}{M:IntKind}{m:Nat}(h:m<32):zdU Tryz.prog D .shl t (.int .u32 1) (.int M (m:Int))=some (.int .u32 ((2^ m:Nat):Int)):=by
 have e:zdU Tryz.prog D .shl t (.int .u32 1) (.int M (Int.ofNat m))=some (.int .u32 (IntKind.wrap .u32 (1*2^ min m 32))):=rfl;rw[show((m:Nat):Int)=Int.ofNat m from rfl,e,show min m 32=m by omega];have:(1:Int)*2^ m=((2^ m:Nat):Int):=by push_cast;omega
 rw[this,Ca (B0 ac h)]
theorem YB{D:BinOp->Sx->Sx->Option Bool}{t:TypeId}{k:IntKind}{a b:Int}:zdU Tryz.prog D .andNot t (.int k a) (.int k b)=some (.int k (k.wrap (BitVec.ofInt k.bits a &&& ~~~ BitVec.ofInt k.bits b).toNat)):=lT
theorem YC(n:Nat):gF [.int .u32 0] n=eA (List.replicate n 0):=by
 induction n with
 |zero=>rfl
 |succ n ih=>simp only[gF,ih];simp[eA,qI]
theorem HH{H:Hp}(n:Nat)(O:n<2^40):zeA Tryz.prog H 74 (.int .i64 n) (.int .i64 n)=some (.sl H.next 0 n 1,H.alloc (.cells (eA (List.replicate n 0)) 0 true)):=by
 have M:zef=70368744177664:=rfl;show zeA Tryz.prog H 74 (.int .i64 (Int.ofNat n)) (.int .i64 (Int.ofNat n))=_;simp only[zeA,Tryz.underlying74,xq,Fp,Fq];rw[ay ⟨aM _,iJ,iJ,rfl⟩,YC]
theorem x8{r n m:Nat}(M:m<n):zdn Tryz.prog 74 (.sl r 0 n 1) (.int .i64 (m:Int))=some (.ptr r m):=by rw[mK Tryz.underlying74 xq M];simp
theorem x9{H:Hp}{r imm m:Nat}{h:List Nat}(A:H.get r=some (.cells (eA h) imm true))(M:m<h.length):zep Tryz.prog H 125 (.ptr r m)=some (.int .u32 ((h.getD m 0:Nat):Int)):=by
 rw[qo Tryz.underlying125 rfl A,eA,ea,cH,aO M];rfl
theorem vd{H:Hp}{r m:Nat}{h:List Nat}(A:H.get r=some (.cells (eA h) 0 true))(M:m<h.length)(x:Nat):zeP Tryz.prog H 125 (.ptr r m) (.int .u32 (x:Int))=some (H.set r (.cells (eA (h.set m x)) 0 true)):=by
 have J:m<(eA h).length:=by rw[x7];exact M
 rw[sg,A,xq,w1,Ab.cells_int,splice_one _ J,ay ⟨rfl,cN _,J,rfl⟩];simp[eA,n0]
theorem Cb(H:Hp)(n:Nat):∀h:List Nat,iceL (iceV H (n+1)) (eA h)=some (eA h)
 |[]=>rfl
 |a::l=>by
  have:=Cb H n l;have e:iceV H (n+1) (.int .u32 (a:Int))=some (.int .u32 (a:Int)):=rfl;simp only[eA,dO,iceL,e]at this⊢;rw[this]
theorem HI(h:List Nat):zeg 1 h.length (eA h)=h.map fun(m:Nat)=>[AV.int .u32 (m:Int)]:=by
 induction h with
 |nil=>rfl
 |cons a l ih=>simp only[eA,dO,dl,zeg,BX,uX,uO,dW]at ih⊢;rw[ih]
theorem YD{H:Hp}{l:List Nd}{r:Nat}(A:H.get r=some (.cells (eA (zev l l.length++List.replicate 0 0)) 0 true)):iceV H 3 (.sl r 0 l.length 1)=some (vc (zev l l.length)):=by
 have I:=s7 l l.length;rw[List.replicate_zero,bB]at A;generalize zev l l.length=h at *;have e:iceV H 3 (.sl r 0 l.length 1)=match H.get r with
  |some (.cells W _ _)=>match iceL (iceV H 2) ((W.drop 0).take (l.length*1))with
   |some m=>if m.length=l.length*1 then some (.lst (zeg 1 l.length m))else none
   |none=>none
  |_=>none:=rfl
 rw[e,A];simp only[dW,gA];rw[eF (by rw[x7];omega),Cb];simp only[x7,I,bS];rw[<-I,HI];rfl
def re(l:List Nd):Prop:=zeu l/\∀i n,l[i]?=some n->NdOk n i
theorem Cc{l:List Nd}(I:re l){i j:Nat}(C:i<=l.length)(O:j<i):(zev l i).getD j 0<2^16:=by
 apply Hn;intro t Z;rw[x5 i C (fun j n _ h=>I.2 j n h) j O t,dd ac];rfl
set_option maxRecDepth 100000 in
theorem YE(ρ:Nat->Int)(l:List Nd)(hl:re l):bh Tryz.prog ρ 101 [zd2 l] (vc (zev l l.length)):=zfE (m:=3) (cfg:=zcW pls [na]) fit (ll ρ) (fb.look ⟨xR ρ,trivial⟩) (.cons (zfr _) .nil) (by
 have hl1:=hl.1.1;have hw:Plain (zcW pls [na]) 101:=zdO (fun _=>rfl) rfl;have q16:(16:Int)≠0:=dD;have hmk:∀H:Hp,zeA Tryz.prog H 74 (.int .i64 l.length) (.int .i64 l.length)=some (.sl H.next 0 l.length 1,H.alloc (.cells (eA (List.replicate l.length 0)) 0 true)):=fun H=>HH _ ac;refine zf (M:=81) (rs:=[.tmp 2]) (hw.call _) hw.ice hw.froz Tryz.func101 rfl rfl HD.2 rfl ?_;dsimp only[HD,zcX,Nat.reduceAdd];repeat' (first
  |(apply zcP ?_;clear hK K)|apply Rx.o ?_|apply ak ?_|(apply zcQ fun K hK=>?_)|apply ax ?_|fail)
 refine zdN [2,3,12,13] [] 14 l.length (fun i E H=>H.get 0=some (.cells (eA (zev l i++List.replicate (l.length-i) 0)) 0 true)) eE (by rw[zcY,ay dt];simp[zev]) ?_;rintro i E L hi hcE hrH hnH hsI A;(try simp only[zdh,zdb,a1,zc3,zde,Nat.reduceBEq, *]at hcE);(try simp only[zdb,zde, *]at hrH);(try simp only[zc6,zdK,bz]at hnH);have hB0:(0 == L.next)=false:=zc7 ac;have hC0:(L.next == 0)=false:=zc7 ac;have hn2:1<=L.next:=hnH
 by_cases hlt:i<l.length
 .have hlt':(i:Int)<l.length:=by omega
  have hgx:l[i]?=some l[i]:=aO hlt;have F:=hl.2 i _ hgx;have hnk:=hl.1.2 _ (dx hlt);have hms:zev l (i+1)=zev l i++[qX l[i] (zev l i)]:=by rw[zev,hgx]
  have hmlt:∀j,j<i->(zev l i).getD j 0<2^16:=fun j hj=>Cc hl ac hj;have hml:=s7 l i;generalize l[i]=n at *;generalize zev l i=h at *;have hrep:List.replicate (l.length-i) (0:Nat)=0::List.replicate (l.length-(i+1)) 0:=Hd;rw[hrep]at A;have hzl:(h++0::List.replicate (l.length-(i+1)) (0:Nat)).length=l.length:=cp;generalize List.replicate (l.length-(i+1)) (0:Nat)=z at *;have e0:(0 == L.next)=false:=zc7 ac;have hgA:∀b c,((L.alloc b).set L.next c).get 0=some (.cells (eA (h++0::z)) 0 true):=fun b c=>He;have hix:zdn Tryz.prog 74 (.sl 0 0 l.length 1) (.int .i64 (i:Int))=some (.ptr 0 i):=x8 hlt;repeat' (first
   |(apply zcP ?_;clear hK K)|apply Ry.o ?_|apply ak ?_|(apply zcQ fun K hK=>?_)|fail)
  (apply aU (fun Z V=>?_) (fun Z V=>?_)<;>try(cases Z;done));repeat' (first
   |(apply zcP ?_;clear hK K)|apply Rx.o ?_|apply bE ?_|apply ak ?_|(apply zcQ fun K hK=>?_)|apply ax ?_|apply zcR ?_|fail)
  generalize hHb:Hp.set (L.alloc _) _ _=Hb;have nb:L.next+1<=Hb.next:=BR
  have gb:Hb.get 0=some (.cells (eA (h++0::z)) 0 true):=by rw[<-hHb];exact hgA _ _
  have g5:Hb.get L.next=some (.cells n.cells 0 true):=BS
  clear hHb hgA;have hset:∀x:Nat,(h++0::z).set i x=h++x::z:=fun x=>Hh;refine Br (fun E' H'=>E'.at 2=.nilS/\E'.at 3=.sl 0 0 l.length 1/\E'.at 4=.int .i64 i/\E'.at 5=.ptr L.next 0/\E'.at 12=zd2 l/\E'.at 13=.int .i64 l.length/\E'.at 14=.int .i64 i/\H'.get 0=some (.cells (eA (h++(if n.op=3 then 2^ (n.imm.tdiv 16).toNat else 0)::z)) 0 true)/\H'.get L.next=some (.cells n.cells 0 true)/\L.next+1<=H'.next) ?_ ?_
  .by_cases h3:n.op=3
   .obtain⟨m0,zeo⟩:=F.lv h3;have hd:n.imm.tdiv 16=n.imm/16:=kN m0;have hd0:0<=n.imm.tdiv 16:=by rw[hd];omega
    obtain⟨m,hm⟩:=eI hd0;have hm16:m<16:=ac;rw[ay h3,hm,dQ];have ew:IntKind.wrap .i64 (n.imm.tdiv 16)=m:=by rw[hm];exact zey ac ac
    have ew2:IntKind.wrap .u64 (m:Int)=m:=IntWalk.u64_in _ ac;have hsh:∀(D:BinOp->Sx->Sx->Option Bool) (t:TypeId),zdU Tryz.prog D .shl t (.int .u32 1) (.int .u64 (m:Int))=some (.int .u32 ((2^ m:Nat):Int)):=fun D t=>HG ac;clear hd hm hd0;repeat' (first
     |apply Ry.o ?_|(apply az (fun Z V=>?_) (fun Z V=>?_)<;>try(cases Z;done))|(apply zcQ fun K hK=>?_)|fail)
    refine mI eV eV (vd gb ac _) ?_;repeat' (first
     |(apply zcP ?_;clear hK K)|fail)
    exact⟨rfl,eE,eE,eE,eE,eE,eE,eE,by rw[aX,ay rfl,hset],by rw[aX,ah ac];exact g5,nb⟩
   .rw[ah h3];repeat' (first
     |(apply az (fun Z V=>?_) (fun Z V=>?_)<;>try(cases Z;done))|apply zcR ?_|fail)
    exact⟨rfl,eE,eE,eE,eE,eE,eE,eE,gb,g5,nb⟩
  clear gb g5 nb;rintro E3 H3 ⟨zdp,k3,zfs,zeL,k12,k13,k14,g30,g35,n3⟩;dsimp only[kG];repeat' (first
   |(apply zcP ?_;clear hK K)|apply Rx.o ?_|apply ak ?_|(apply zcQ fun K hK=>?_)|fail)
  refine Br (fun E' H'=>E'.at 2=.nilS/\E'.at 3=.sl 0 0 l.length 1/\E'.at 4=.int .i64 i/\E'.at 5=.ptr L.next 0/\E'.at 12=zd2 l/\E'.at 13=.int .i64 l.length/\E'.at 14=.int .i64 i/\(n.op=31->E'.at 6=.int .u32 ((2^ n.imm.toNat:Nat):Int))/\H'=H3) ?_ ?_
  .by_cases Y:n.op=31
   .obtain⟨m0,zeo,_⟩:=F.lp Y;obtain⟨m,hm⟩:=eI m0;have ew2:IntKind.wrap .u64 (m:Int)=m:=IntWalk.u64_in _ ac;have hsh:∀(D:BinOp->Sx->Sx->Option Bool) (t:TypeId),zdU Tryz.prog D .shl t (.int .u32 1) (.int .u64 (m:Int))=some (.int .u32 ((2^ m:Nat):Int)):=fun D t=>HG ac;rw[hm,dQ];repeat' (first
     |(apply zcP ?_;clear hK K)|apply Ry.o ?_|(apply az (fun Z V=>?_) (fun Z V=>?_)<;>try(cases Z;done))|(apply zcQ fun K hK=>?_)|fail)
    exact⟨rfl,eE,eE,eE,eE,eE,eE,eE,fun _=>eE,rfl⟩
   .repeat' (first
     |(apply az (fun Z V=>?_) (fun Z V=>?_)<;>try(cases Z;done))|apply zcR ?_|fail)
    exact⟨rfl,eE,eE,eE,eE,eE,eE,eE,fun h=>absurd h Y,rfl⟩
  clear zdp k3 zfs zeL k12 k13 k14 E3;rintro E3 _ ⟨zdp,k3,zfs,zeL,k12,k13,k14,zft,rfl⟩;dsimp only[kG];repeat' (first
   |(apply zcP ?_;clear hK K)|apply Rx.o ?_|apply ak ?_|(apply zcQ fun K hK=>?_)|apply ax ?_|fail)
  have hmm:qX n h=ng n h 0 n.kids (if n.op=3 then 2^ (n.imm.tdiv 16).toNat else 0):=rfl;have C:(if n.op=3 then 2^ (n.imm.tdiv 16).toNat else 0:Nat)<2^32:=by
   by_cases h3:n.op=3
   .rw[ay h3];obtain⟨m0,zeo⟩:=F.lv h3;have hd:n.imm.tdiv 16=n.imm/16:=kN m0;exact B0 ac ac
   .rw[ah h3];decide
  generalize (if n.op=3 then 2^ (n.imm.tdiv 16).toNat else 0:Nat)=cur0 at *;refine zdN [2,3,4,5,6,12,13,14,38,39] [] 40 n.kids.length (fun j E H=>∃U,H.get 0=some (.cells (eA (h++U::z)) 0 true)/\H.get L.next=some (.cells n.cells 0 true)/\U<2^32/\qX n h=ng n h j (n.kids.drop j) U) eE ⟨cur0,g30,g35,C,by rw[hmm,dW]⟩ ?_;clear g30 g35 C hmm;rintro j E4 H4 hj hcE hrH hnH hsI ⟨U,J,g45,g,hJ⟩;(try simp only[zdh,zdb,a1,zc3,zde,Nat.reduceBEq, *]at hcE);(try simp only[zdb, *]at hrH);(try simp only[zc6,zdm,zdK,bz,Nat.reduceAdd]at hnH);by_cases hjt:j<n.kids.length
  .have hjt':(j:Int)<n.kids.length:=by omega
   have hgy:n.kids[j]?=some n.kids[j]:=aO hjt;obtain⟨d0,d1⟩:=F.kids _ (dx hjt);have W:ng n h j (n.kids.drop j) U=ng n h (j+1) (n.kids.drop (j+1)) (U |||pf n h j n.kids[j]):=by rw[eJ hjt,ng]
   generalize n.kids[j]=kd at *;obtain⟨d,rfl⟩:=eI d0;have hdi:d<i:=ac;have hixd:zdn Tryz.prog 74 (.sl 0 0 l.length 1) (.int .i64 (d:Int))=some (.ptr 0 d):=x8 ac;have o:∀x:Nat,(h++x::z).length=l.length:=fun x=>by rw[<-hzl];simp
   have hldi:=x9 J (m:=i) u7;have hldd:=x9 J (m:=d) u7;have hgi:(h++U::z).getD i 0=U:=by rw[cH,jS ac,hml,kC];rfl
   have hgd:(h++U::z).getD d 0=h.getD d 0:=by rw[cH,je ac,<-cH]
   rw[hgi]at hldi;rw[hgd]at hldd;have hdl:=hmlt d hdi;have O:∀x:Nat,(h++U::z).set i x=h++x::z:=fun x=>Hh;have hkd:pf n h j (d:Int)=if n.op=31/\dR n.kids.length<=j then qW (h.getD d 0) (2^ n.imm.toNat)else h.getD d 0:=by rw[pf,dQ]
   rw[hkd]at W;generalize h.getD d 0=y at *;have hy:y<2^32:=ac;have e1:=HE g hy;by_cases Y:n.op=31
   .have k6':=zft Y;obtain⟨m0,zeo,_⟩:=F.lp Y;have hown:2^ n.imm.toNat<2^32:=B0 ac ac;by_cases hlv:dR n.kids.length<=j
    .rw[ay ⟨Y,hlv⟩]at W;have e2:=YA hy hown;have e3:=HE g (HF (b:=2^ n.imm.toNat) hy);have gh0:=@YB;repeat' (first
      |(apply zcP ?_;clear hK K)|apply Ry.o ?_|(apply bq ?_;first|refine Rx.k (sW (fun _=>rfl) _ ac _) ?_)|(apply aT (fun A I=>?_) (fun A I=>?_)<;>try(cases A;done))|(apply az (fun Z V=>?_) (fun Z V=>?_)<;>try(cases Z;done))|apply ak ?_|(apply zcQ fun K hK=>?_)|(apply nZ 14 fun K hK=>?_)|apply ax ?_|apply zcR ?_|fail)
     refine mI eV eV (vd J u7 _) ?_;repeat' (first
      |(apply zcP ?_;clear hK K)|apply Rx.o ?_|(apply zcQ fun K hK=>?_)|fail)
     refine⟨ac,eL,eL,eN,pe,?_⟩;exact⟨_,BT,BW,xY g (HF hy),by rw[hJ,W]⟩
    .rw[ah (fun c=>hlv c.2)]at W;repeat' (first
      |(apply zcP ?_;clear hK K)|apply Ry.o ?_|(apply bq ?_;first|refine Rx.k (sW (fun _=>rfl) _ ac _) ?_)|(apply aT (fun A I=>?_) (fun A I=>?_)<;>try(cases A;done))|(apply az (fun Z V=>?_) (fun Z V=>?_)<;>try(cases Z;done))|apply ak ?_|(apply zcQ fun K hK=>?_)|(apply nZ 15 fun K hK=>?_)|apply ax ?_|apply zcR ?_|fail)
     refine mI eV eV (vd J u7 _) ?_;repeat' (first
      |(apply zcP ?_;clear hK K)|apply Rx.o ?_|(apply zcQ fun K hK=>?_)|fail)
     refine⟨ac,eL,eL,eN,pe,?_⟩;exact⟨_,BT,BW,xY g hy,by rw[hJ,W]⟩
   .rw[ah (fun c=>Y c.1)]at W;repeat' (first
     |(apply zcP ?_;clear hK K)|apply Ry.o ?_|(apply aT (fun A I=>?_) (fun A I=>?_)<;>try(cases A;done))|(apply az (fun Z V=>?_) (fun Z V=>?_)<;>try(cases Z;done))|apply ak ?_|(apply zcQ fun K hK=>?_)|(apply nZ 15 fun K hK=>?_)|apply ax ?_|apply zcR ?_|fail)
    refine mI eV eV (vd J u7 _) ?_;repeat' (first
     |(apply zcP ?_;clear hK K)|apply Rx.o ?_|(apply zcQ fun K hK=>?_)|fail)
    refine⟨ac,eL,eL,eN,pe,?_⟩;exact⟨_,BT,BW,xY g hy,by rw[hJ,W]⟩
  .have hjt':¬(j:Int)<n.kids.length:=by omega
   have hjd:n.kids.drop j=[]:=o0 ac;rw[hjd]at hJ;have hJ2:qX n h=U:=hJ;repeat' (first
    |(apply zcP ?_;clear hK K)|apply Ry.o ?_|(apply az (fun Z V=>?_) (fun Z V=>?_)<;>try(cases Z;done))|apply ak ?_|(apply zcQ fun K hK=>?_)|apply zc4 ?_)
   refine⟨ac,eL,eL,eN,jJ,?_⟩;rw[hms,hJ2,gw];exact J
 .have hlt':¬(i:Int)<l.length:=by omega
  repeat' (first
   |(apply zcP ?_;clear hK K)|apply Ry.o ?_|(apply az (fun Z V=>?_) (fun Z V=>?_)<;>try(cases Z;done))|apply ak ?_|(apply zcQ fun K hK=>?_)|apply am ?_|apply zc4 ?_)
  all_goals (refine⟨zcT,_,zcU,?_⟩;try simp only[zcS])
  have hie:i=l.length:=ac;rw[hie,kC]at A;exact YD A)
end
section
def tyEvG.tyF:=ad @cP (ad @b7 (ad @ei (ad @fd (ad @eT (ad @xm (ad @A8 (ad @uL (@Bf))))))))
open tyEvG
noncomputable def HJ:{c:SC // aB 69 (Tryz.f32.body.getD .skip)=c}:=by
 refine⟨?_,?_⟩;rotate_left
 .simp only[Tryz.f32,a8,aB,zda,zc9,zdc,zdd,Nat.blt,Nat.ble];rfl
structure Flat9 (l:List Nd):Prop where
 ok:zeu l
 kids:∀(i:Nat) nd,l[i]?=some nd->∀k∈nd.kids,0<=k/\k<i
 op:∀nd∈l,nd.op≠3/\nd.op≠31
def zfL(n:Nat):AV:=vc (List.replicate n 0)
theorem YF{H:Hp}{n r:Nat}(A:H.get r=some (.cells (eA (List.replicate n 0)) 0 true)):iceV H 3 (.sl r 0 n 1)=some (zfL n):=by
 have e:iceV H 3 (.sl r 0 n 1)=match H.get r with
  |some (.cells W _ _)=>match iceL (iceV H 2) ((W.drop 0).take (n*1))with
   |some m=>if m.length=n*1 then some (.lst (zeg 1 n m))else none
   |none=>none
  |_=>none:=rfl
 rw[e,A];have I:(eA (List.replicate n 0)).length=n:=by rw[x7,jn]
 simp only[dW,gA];rw[eF ac,Cb];simp only[I,bS];have:=HI (List.replicate n 0);rw[jn]at this;rw[this];rfl
set_option maxRecDepth 100000 in
theorem YG(ρ:Nat->Int)(l:List Nd)(hl:Flat9 l):bh Tryz.prog ρ 32 [zd2 l] (zfL l.length):=zfE (m:=3) (cfg:=zcW pls []) fit (ll ρ) (fun f args r h=>by simp[zcW,zdS]at h) (.cons (zfr _) .nil) (by
 have hl1:=hl.ok.1;have hw:Plain (zcW pls []) 32:=zdO (fun _=>rfl) rfl;have hmk:∀H:Hp,zeA Tryz.prog H 74 (.int .i64 l.length) (.int .i64 l.length)=some (.sl H.next 0 l.length 1,H.alloc (.cells (eA (List.replicate l.length 0)) 0 true)):=fun H=>HH _ ac;have hor:∀(D:BinOp->Sx->Sx->Option Bool),zdU Tryz.prog D .or 125 (.int .u32 0) (.int .u32 0)=some (.int .u32 0):=fun D=>rfl;refine zf (M:=69) (rs:=[.tmp 2]) (hw.call _) hw.ice hw.froz Tryz.func32 rfl rfl HJ.2 rfl ?_;dsimp only[HJ,zcX,Nat.reduceAdd];repeat' (first
  |(apply zcP ?_;clear hK K)|apply Rx.o ?_|apply ak ?_|(apply zcQ fun K hK=>?_)|apply ax ?_|apply zcR ?_|apply am ?_|apply zc4 ?_)
 refine zdN [2,3,12,13] [] 14 l.length (fun i E H=>H.get 0=some (.cells (eA (List.replicate l.length 0)) 0 true)) eE xU ?_;rintro i E Y hi O J W hsI A;(try simp only[zdh,zdb,a1,zc3,zde,Nat.reduceBEq,Nat.reduceAdd,Nat.reduceLeDiff,tyF, *]at O);(try simp only[zdh,zdb,a1,zc3,zde,Nat.reduceBEq,Nat.reduceAdd,Nat.reduceLeDiff,tyF, *]at J);(try simp only[zc6,zdm,zdK,bz,Nat.reduceAdd]at W);have hB0:(0 == Y.next)=false:=zc7 ac;have hC0:(Y.next == 0)=false:=zc7 ac;have hn2:1<=Y.next:=W
 by_cases z:i<l.length
 .have hlt':(i:Int)<l.length:=by omega
  have hgx:l[i]?=some l[i]:=aO z;have hkd:=hl.kids i _ hgx;have hnk:=hl.ok.2 _ (dx z);obtain⟨o3,o31⟩:=hl.op _ (dx z);generalize l[i]=n at *;obtain⟨op,g,L⟩:=n;simp only at hkd hnk o3 o31;have ec:(Nd.mk op g L).cells=[.int .i64 op,.int .i64 g,.lst (L.map fun k=>[.int .i64 k])]:=rfl;have agg39':∀a b c:AV,zdA 3 [a,b,c]=some (.agg [a,b,c]):=fun _ _ _=>rfl;have hix:zdn Tryz.prog 74 (.sl 0 0 l.length 1) (.int .i64 (i:Int))=some (.ptr 0 i):=x8 z;repeat' (first
   |(apply zcP ?_;clear hK K)|apply Ry.o ?_|apply bl ?_|(apply aT (fun A I=>?_) (fun A I=>?_)<;>try(cases A;done))|(apply az (fun Z V=>?_) (fun Z V=>?_)<;>try(cases Z;done))|apply ak ?_|(apply zcQ fun K hK=>?_)|apply ax ?_|apply zcR ?_|apply am ?_|apply zc4 ?_)
  generalize U:Hp.set (Y.alloc _) _ _=Hb;have nb:Y.next+1<=Hb.next:=BU
  have C:Hb.get 0=some (.cells (eA (List.replicate l.length 0)) 0 true):=by
   rw[<-U,aX,ah ac,zcY,ah ac];exact A
  have g5:Hb.get Y.next=some (.cells [.int .i64 op,.int .i64 g,.lst (L.map fun k=>[.int .i64 k])] 0 true):=by rw[<-U,aX,ay rfl]
  clear U;refine zdN [2,3,4,5,12,13,14,20,21] [] 22 L.length (fun j E H=>H.get 0=some (.cells (eA (List.replicate l.length 0)) 0 true)/\H.get Y.next=some (.cells [.int .i64 op,.int .i64 g,.lst (L.map fun k=>[.int .i64 k])] 0 true)) eE ⟨C,g5⟩ ?_;clear C g5;rintro j E3 F hj O J W hsI ⟨C,g5⟩;(try simp only[zdh,zdb,a1,zc3,zde,Nat.reduceBEq,Nat.reduceAdd,Nat.reduceLeDiff,tyF, *]at O);(try simp only[zdh,zdb,a1,zc3,zde,Nat.reduceBEq,Nat.reduceAdd,Nat.reduceLeDiff,tyF, *]at J);(try simp only[zc6,zdm,zdK,bz,Nat.reduceAdd]at W);have n3:Y.next+1<=F.next:=ac
  by_cases hjt:j<L.length
  .have hjt':(j:Int)<L.length:=by omega
   have hgk:L[j]?=some L[j]:=aO hjt;obtain⟨q0,q1⟩:=hkd _ (dx hjt);obtain⟨m,hm⟩:=eI q0;rw[hm]at hgk q1;have hml:m<l.length:=ac;have hix2:zdn Tryz.prog 74 (.sl 0 0 l.length 1) (.int .i64 (m:Int))=some (.ptr 0 m):=x8 hml;have l1:zep Tryz.prog F 125 (.ptr 0 m)=some (.int .u32 0):=by
    rw[x9 C (by rw[jn];exact hml)];simp[cH,mX,hml]
   have l2:zep Tryz.prog F 125 (.ptr 0 i)=some (.int .u32 0):=by
    rw[x9 C BV];simp[cH,mX,z]
   have s1:zeP Tryz.prog F 125 (.ptr 0 i) (.int .u32 0)=some (F.set 0 (.cells (eA (List.replicate l.length 0)) 0 true)):=by
    have:=vd C (m:=i) BV 0;rw[show(List.replicate l.length 0).set i 0=List.replicate l.length 0 by simp]at this;exact this
   clear hm;repeat' (first
    |(apply zcP ?_;clear hK K)|apply Ry.o ?_|apply bl ?_|(apply aT (fun A I=>?_) (fun A I=>?_)<;>try(cases A;done))|(apply az (fun Z V=>?_) (fun Z V=>?_)<;>try(cases Z;done))|apply ak ?_|(apply zcQ fun K hK=>?_)|apply ax ?_|apply zcR ?_|apply am ?_|apply zc4 ?_)
   generalize o:Hp.set F 0 _=Hc;have nc:F.next<=Hc.next:=sJ
   have gc:Hc.get 0=some (.cells (eA (List.replicate l.length 0)) 0 true):=xC;have gd:Hc.get Y.next=some (.cells [.int .i64 op,.int .i64 g,.lst (L.map fun k=>[.int .i64 k])] 0 true):=by rw[<-o,aX,ah ac];exact g5
   clear o;refine⟨ac,eL,eL,eN,GE,?_⟩;exact⟨gc,gd⟩
  .have hjt':¬(j:Int)<L.length:=by omega
   repeat' (first
    |(apply zcP ?_;clear hK K)|apply Ry.o ?_|apply bl ?_|(apply aT (fun A I=>?_) (fun A I=>?_)<;>try(cases A;done))|(apply az (fun Z V=>?_) (fun Z V=>?_)<;>try(cases Z;done))|apply ak ?_|(apply zcQ fun K hK=>?_)|apply ax ?_|apply zcR ?_|apply am ?_|apply zc4 ?_)
   refine⟨ac,eL,eL,eN,jJ,?_⟩;exact C
 .have hlt':¬(i:Int)<l.length:=by omega
  repeat' (first
   |(apply zcP ?_;clear hK K)|apply Ry.o ?_|apply bl ?_|(apply aT (fun A I=>?_) (fun A I=>?_)<;>try(cases A;done))|(apply az (fun Z V=>?_) (fun Z V=>?_)<;>try(cases Z;done))|apply ak ?_|(apply zcQ fun K hK=>?_)|apply ax ?_|apply zcR ?_|apply am ?_|apply zc4 ?_)
  all_goals (refine⟨zcT,_,zcU,?_⟩;try simp only[zcS])
  exact YF A)
end
section
def tyEvH.tyF:=ad @b7 (ad @dz (ad @fd (ad @eT (ad @mN (ad @mO (ad @ii (ad @jE (ad @ly (ad @oS (ad @qz (ad @qC (ad @qD (ad @qE (ad @qF (ad @cP (ad @qA (@Fy)))))))))))))))))
open tyEvH
noncomputable def HK:{c:SC // aB 35 (Tryz.f35.body.getD .skip)=c}:=by
 refine⟨?_,?_⟩;rotate_left
 .simp only[Tryz.f35,a8,aB,zda,zc9,zdc,zdd,Nat.blt,Nat.ble];rfl
noncomputable def HL:{c:SC // aB 26 (Tryz.f33.body.getD .skip)=c}:=by
 refine⟨?_,?_⟩;rotate_left
 .simp only[Tryz.f33,a8,aB,zda,zc9,zdc,zdd,Nat.blt,Nat.ble];rfl
theorem HM{H:Hp}(n:Nat)(O:n<2^40):zeA Tryz.prog H 33 (.int .i64 n) (.int .i64 n)=some (.sl H.next 0 n 1,H.alloc (.cells (zdX (List.replicate n 0)) 0 true)):=by
 have M:zef=70368744177664:=rfl;show zeA Tryz.prog H 33 (.int .i64 (Int.ofNat n)) (.int .i64 (Int.ofNat n))=_;simp only[zeA,Tryz.underlying33,uH,AR,AS];rw[ay ⟨aM _,iJ,iJ,rfl⟩];have:∀n:Nat,gF [AV.int .i64 0] n=zdX (List.replicate n 0):=by
  intro n;induction n with
  |zero=>rfl
  |succ n ih=>simp only[gF,ih,qI];rfl
 rw[this]
theorem YH(k:Nat)(l1:List Int)(n:Int):(List.replicate (k+1) (0:Int)++l1.reverse).set k n=List.replicate k 0++(l1++[n]).reverse:=by
 rw[List.replicate_succ',gw,List.set_append,ah (by rw[jn];omega),jn,kC,List.reverse_append];rfl
theorem YI(n:Nat):gF [AV.bool false,.int .i64 0,.nilP,.nilP] n=(List.replicate n [AV.bool false,.int .i64 0,.nilP,.nilP]).flatten:=by
 induction n with
 |zero=>rfl
 |succ n ih=>simp only[gF,ih,qI,lQ]
theorem YJ{H:Hp}(n:Nat)(O:n<2^30):zeA Tryz.prog H 127 (.int .i64 n) (.int .i64 n)=some (.sl H.next 0 n 4,H.alloc (.cells (List.replicate n [AV.bool false,.int .i64 0,.nilP,.nilP]).flatten 0 true)):=by
 have M:zef=70368744177664:=rfl;show zeA Tryz.prog H 127 (.int .i64 (Int.ofNat n)) (.int .i64 (Int.ofNat n))=_;simp only[zeA,Tryz.underlying127,uM,Fv,Fw];rw[ay ⟨aM _,iJ,iJ,rfl⟩,YI]
theorem YK(x y w:List (List AV))(a b cc d p q n:Nat)(f:Int):zeb Tryz.prog 131 [(0,.agg [.lst x,.lst y]),(1,.sl a b cc d),(2,.int .i64 f),(3,.ptr p 0),(4,.lst w),(5,.sl q 0 n 4)]=some (.agg [.lst x,.lst y,.sl a b cc d,.int .i64 f,.ptr p 0,.lst w,.sl q 0 n 4,.nilP,.nilP,.nilP,.nilP,.nilP,.nilP,.nilP,.nilP,.nilP,.nilP,.nilP,.nilP,.nilP,.nilP,.nilP,.nilP]):=af
section
variable {tb:List En} (hT:EvT tb) {H:Hp}
include hT
theorem YL{S:Nat->Prop}{v:AV}{l:List Int}(o:i7 S H v l)(i:l.length<2^30):zc2 Tryz.prog (zcW pls tb) 35 [v] H fun w H'=>w=.sl H.next 0 l.length 1/\H.next+1<=H'.next/\H'.get H.next=some (.cells (zdX l.reverse) 0 true)/\∀r,r<H.next->H'.get r=H.get r:=by
 have C:Plain (zcW pls tb) 35:=hT.plain dt;have np:∀E:aw,zcV E (.const (.pointer none))=some .nilP:=fun _=>rfl;have nq:∀(D:BinOp->Sx->Sx->Option Bool),zdU Tryz.prog D .neq 77 .nilP .nilP=some (.bool false):=fun D=>af;have pq:∀(D:BinOp->Sx->Sx->Option Bool) (q:Nat),zdU Tryz.prog D .neq 77 (.ptr q 0) .nilP=some (.bool true):=fun D q=>af;have hmk:=HM (H:=H) l.length ac;refine zf (M:=35) (rs:=[.tmp 2]) (C.call _) C.ice C.froz Tryz.func35 rfl rfl HK.2 rfl ?_;dsimp only[HK,zcX,Nat.reduceAdd];repeat' (first
  |(apply zcP ?_;clear hK K)|apply Rx.o ?_|apply bE ?_|(apply aU (fun Z V=>?_) (fun Z V=>?_)<;>try(cases Z;done))|apply ak ?_|(apply zcQ fun K hK=>?_)|apply ax ?_|apply zcR ?_|apply am ?_|apply zc4 ?_)
 refine qn (fun m E Y=>∃(l1 l2:List Int) (U:AV),m=l2.length/\l1++l2=l/\i7 S H U l2/\E.at 0=v/\E.at 3=.int .i64 l1.length/\E.at 4=U/\Y=H) ?_ (n:=l.length) ?_
 .rintro m E Y ⟨l1,l2,U,F,I,W,zd3,k3,zfs,rfl⟩;cases l2 with
  |nil=>
   rw[show U=.nilP from W]at zfs;rw[bB]at I;rw[I]at k3;clear I;repeat' (first
    |(apply zcP ?_;clear hK K)|apply Rx.o ?_|apply bE ?_|(apply aU (fun Z V=>?_) (fun Z V=>?_)<;>try(cases Z;done))|apply ak ?_|(apply zcQ fun K hK=>?_)|apply ax ?_|apply zcR ?_|apply am ?_|apply zc4 ?_)
   refine qn (fun m E J=>∃(l1 l2:List Int) (U:AV),m=l2.length/\l1++l2=l/\i7 S Y U l2/\E.at 3=.int .i64 l2.length/\E.at 5=.sl Y.next 0 l.length 1/\E.at 6=U/\J.get Y.next=some (.cells (zdX (List.replicate l2.length 0++l1.reverse)) 0 true)/\Y.next+1<=J.next/\∀r,r<Y.next->J.get r=Y.get r) ?_ (n:=l.length) ?_
   .rintro m E J ⟨l1,l2,U,F,I,W,k3,zeL,zft,g,n3,O⟩;cases l2 with
    |nil=>
     rw[show U=.nilP from W]at zft;rw[bB]at I;rw[I]at g;clear I;repeat' (first
      |(apply zcP ?_;clear hK K)|apply Rx.o ?_|apply bE ?_|(apply aU (fun Z V=>?_) (fun Z V=>?_)<;>try(cases Z;done))|apply ak ?_|(apply zcQ fun K hK=>?_)|apply ax ?_|apply zcR ?_|apply am ?_|apply zc4 ?_)
     all_goals (refine⟨zcT,_,zcU,?_⟩;try simp only[zcS])
     exact⟨mr,n3,by simpa using g,O⟩
    |cons n l2=>
     obtain⟨q,w,rfl,_,hq,gq,L⟩:=W;have A:l1.length+(l2.length+1)=l.length:=by rw[<-I,fv,dl]
     have gq3:=(O q hq).trans gq;rw[dl]at g k3;have e1:IntKind.wrap .i64 (((l2.length+1:Nat):Int)-1)=(l2.length:Int):=by rw[show((l2.length+1:Nat):Int)-1=(l2.length:Int) by omega];exact zey ac ac
     have x1:zdn Tryz.prog 33 (.sl Y.next 0 l.length 1) (.int .i64 (l2.length:Int))=some (.ptr Y.next l2.length):=Bw ac;have s1:=Gy (H:=J) (q:=Y.next) (j:=l2.length) n g (by rw[fv,jn];omega);rw[YH]at s1;clear g;have y1:(q == Y.next)=false:=zc7 ac;repeat' (first
      |(apply zcP ?_;clear hK K)|apply Rx.o ?_|apply bE ?_|(apply aU (fun Z V=>?_) (fun Z V=>?_)<;>try(cases Z;done))|apply ak ?_|(apply zcQ fun K hK=>?_)|apply ax ?_|apply zcR ?_|apply am ?_|apply zc4 ?_)
     refine⟨l2.length,by rw[F];exact cQ _,l1++[n],l2,w,rfl,by rw[<-I,gw];rfl,L,eE,eE,eE,hW,n3,fun r hr=>by rw[aX,ah ac];exact O r hr⟩
   .exact⟨[],l,v,rfl,rfl,o,eE,eE,eE,by rw[zcY,ay rfl];simp,aM _,fun r hr=>fK⟩
  |cons n l2=>
   obtain⟨q,w,rfl,_,hq,gq,L⟩:=W;have A:l1.length+(l2.length+1)=l.length:=by rw[<-I,fv,dl]
   have e1:IntKind.wrap .i64 ((l1.length:Int)+1)=((l1.length+1:Nat):Int):=by
    have:=zey (z:=((l1.length+1:Nat):Int)) ac ac;rw[<-this];rfl
   repeat' (first
    |(apply zcP ?_;clear hK K)|apply Rx.o ?_|apply bE ?_|(apply aU (fun Z V=>?_) (fun Z V=>?_)<;>try(cases Z;done))|apply ak ?_|(apply zcQ fun K hK=>?_)|apply ax ?_|apply zcR ?_|apply am ?_|apply zc4 ?_)
   exact⟨l2.length,by rw[F];exact cQ _,l1++[n],l2,w,rfl,by rw[<-I,gw];rfl,L,eE,by rw[fv,List.length_singleton];exact eE,eE,rfl⟩
 .exact⟨[],l,v,rfl,rfl,o,eE,eE,eE,rfl⟩
theorem YM{u:Un}{f:Nat}{g:Gr}(A:u.funcs[f]?=some g)(j:g.nodes.length<2^30){a b cc d:Nat}{J:AV}{s:S9}{args:List Int}(U:fP (fun _=>True) H J s):zc2 Tryz.prog (zcW pls tb) 33 [.agg u.cells,.sl a b cc d,.int .i64 f,J,zeT args] H fun w H'=>∃Z Y,w=.ptr Z 0/\H.next<=Z/\H.next<=Y/\(⟨fun q=>q≠Z/\q≠Y,Z,Y,u,.sl a b cc d,f,g,J,s,args⟩:Cx9).Ok/\Fr9 ⟨fun q=>q≠Z/\q≠Y,Z,Y,u,.sl a b cc d,f,g,J,s,args⟩ H' (List.replicate g.nodes.length [.bool false,.int .i64 0,.nilP,.nilP]) (List.replicate g.nodes.length zfK)/\Ext9 (fun _=>True) H H':=by
 have V:Plain (zcW pls tb) 33:=hT.plain dt;have F:∀E:aw,zcV E (.const (.pointer none))=some .nilP:=fun _=>rfl;have i:u.cells=[.lst (u.arrays.map Ar.cells),.lst (u.funcs.map Gr.cells)]:=rfl;have L:g.cells=[.str g.name,.int .i64 g.params,.lst (g.nodes.map Nd.cells),.int .i64 g.value,.int .i64 g.state]:=rfl;have C:=U;obtain⟨p,cv,ov,rfl,hp⟩:=C;have I:=fun H:Hp=>YJ (H:=H) g.nodes.length ac;have hb:=fun q=>YK (u.arrays.map Ar.cells) (u.funcs.map Gr.cells) (args.map fun n=>[.int .i64 n]) a b cc d p q g.nodes.length f;unfold zeT;rw[i];refine zf (M:=26) (rs:=[.tmp 10]) (V.call _) V.ice V.froz Tryz.func33 rfl rfl HL.2 rfl ?_;dsimp only[HL,zcX,Nat.reduceAdd];have vE:∀a b:AV,zdA 2 [a,b]=some (.agg [a,b]):=fun _ _=>rfl;have y9:(H.next == H.next+1)=false:=zc7 ac;have y8:(H.next == H.next+2)=false:=zc7 ac;have y7:(H.next+1 == H.next+2)=false:=zc7 ac;repeat' (first
  |(apply zcP ?_;clear hK K)|apply Rx.o ?_|apply ak ?_|(apply zcQ fun K hK=>?_)|(apply zdG 1 [(0,16),(6,16),(10,16),(11,16),(12,16),(14,16)] fun K hK=>?_)|(apply zdB ?_;try intro _)|(apply zdJ ?_ ?_<;>clear hK K)|apply b4 ?_|apply am ?_)
 .exact zdj
 all_goals (refine⟨zcT,_,zcU,?_⟩;try simp only[zcS])
 generalize o:Hp.alloc (Hp.alloc (Hp.alloc H _) _) _=W;have nc:H.next+3<=W.next:=sJ
 have z:W.get (H.next+2)=some (.cells (gW u (.sl a b cc d) f (.ptr p 0) args (H.next+1) g.nodes.length) 0 true):=by rw[<-o,zcY,ay dt];rfl
 have m:W.get (H.next+1)=some (.cells (List.replicate g.nodes.length [AV.bool false,.int .i64 0,.nilP,.nilP]).flatten 0 true):=by
  rw[<-o];simp only[zcY,zc6,ah (show ¬H.next+1=H.next+1+1 by omega),bS]
 have E:Ext9 (fun _=>True) H W:=⟨ac,fun r _ hr=>by
  rw[<-o];simp only[zcY,zc6,ah (show ¬r=H.next+1+1 by omega),ah (show ¬r=H.next+1 by omega),ah (show ¬r=H.next by omega)]⟩
 clear o;refine⟨H.next+2,H.next+1,rfl,ac,ac,⟨A,by show H.next+2≠H.next+1;omega,fun h=>h.1 rfl,fun h=>h.2 rfl,j⟩,⟨BV,m,nc,by show H.next+1<_;omega,?_,?_,fun q O=>⟨by show q≠H.next+2;omega,by show q≠H.next+1;omega⟩,jn⟩,E⟩
 .exact(U.sub (T:=fun q=>q≠H.next+2/\q≠H.next+1) fun q O _=>⟨ac,ac⟩).keep (E.sub fun _ _ _=>trivial)
 .have:∀n:Nat,zdo (l3 (fun q=>q≠H.next+2/\q≠H.next+1) W) (List.replicate n [AV.bool false,.int .i64 0,.nilP,.nilP]) (List.replicate n zfK):=by
   intro n;induction n with
   |zero=>trivial
   |succ n ih=>rw[qI,qI];exact⟨⟨.nilP,rfl,rfl⟩,ih⟩
  exact this _
end
end
section
def tyEvI.tyF:=ad @cP (ad @b7 (ad @lw (ad @jE (ad @ly (ad @oS (ad @qz (ad @qC (ad @sE (ad @qD (ad @qE (@qF)))))))))))
open tyEvI
noncomputable def HN:{c:SC // aB 16 (Tryz.f36.body.getD .skip)=c}:=by
 refine⟨?_,?_⟩;rotate_left
 .simp only[Tryz.f36,a8,aB,zda,zc9,zdc,zdd,Nat.blt,Nat.ble];rfl
noncomputable def HO:{c:SC // aB 16 (Tryz.f34.body.getD .skip)=c}:=by
 refine⟨?_,?_⟩;rotate_left
 .simp only[Tryz.f34,a8,aB,zda,zc9,zdc,zdd,Nat.blt,Nat.ble];rfl
section
variable {tb:List En} (hT:EvT tb) {c:Cx9} {H:Hp} {rows:List (List AV)} {res:List R9}
include hT
theorem YN(Y:c.Ok)(A:∀V∈c.g.nodes,V.kids.length<2^30)(W:Fr9 c H rows res){n:Nat}{i:Int}{O:List R9}(h:zeE c.g.nodes c.start c.args n res [i]=some O){r:R9}(hr:zd8 O i=some r):zc2 Tryz.prog (zcW pls tb) 36 [.ptr c.xp 0,.int .i64 i] H fun w H'=>w=.int .i64 r.v/\∃L,Fr9 c H' L O/\H.next<=H'.next/\∀q,q<H.next->q≠c.rp->H'.get q=H.get q:=by
 have J:Plain (zcW pls tb) 36:=hT.plain dt;refine zf (M:=16) (rs:=[.tmp 4]) (J.call _) J.ice J.froz Tryz.func36 rfl rfl HN.2 rfl ?_;dsimp only[HN,zcX,Nat.reduceAdd];repeat' (first
  |(apply zcP ?_;clear hK K)|apply Rx.o ?_|apply ak ?_|(apply zcQ fun K hK=>?_)|apply am ?_)
 refine a4 rfl a6 a7 ?_;simp only[cG];refine aZ ?_ (GO hT Y A W h);rintro v F ⟨L,g,U,Z⟩;dsimp only[zc5];obtain⟨i,rfl⟩:∃m:Nat,i=m:=⟨i.toNat,by obtain⟨_,o,_⟩:=g.get hr;omega⟩;obtain⟨C,j,ho,hx,I⟩:=g.at hr;have z:=g.x;unfold gW at z;have zd0:=(I _ g).l1;repeat' (first
  |(apply zcP ?_;clear hK K)|apply Rx.o ?_|apply ak ?_|(apply zcQ fun K hK=>?_)|apply am ?_)
 all_goals (refine⟨zcT,_,zcU,?_⟩;try simp only[zcS])
 exact⟨mr,L,g,U,Z⟩
theorem YO(Y:c.Ok)(A:∀V∈c.g.nodes,V.kids.length<2^30)(W:Fr9 c H rows res){n:Nat}{i:Int}{O:List R9}(h:zeE c.g.nodes c.start c.args n res [i]=some O){r:R9}(hr:zd8 O i=some r):zc2 Tryz.prog (zcW pls tb) 34 [.ptr c.xp 0,.int .i64 i] H fun w H'=>iK c.S H' w r.s/\∃L,Fr9 c H' L O/\H.next<=H'.next/\∀q,q<H.next->q≠c.rp->H'.get q=H.get q:=by
 have J:Plain (zcW pls tb) 34:=hT.plain dt;have np:∀E:aw,zcV E (.const (.pointer none))=some .nilP:=fun _=>rfl;refine zf (M:=16) (rs:=[.tmp 4]) (J.call _) J.ice J.froz Tryz.func34 rfl rfl HO.2 rfl ?_;dsimp only[HO,zcX,Nat.reduceAdd];repeat' (first
  |(apply zcP ?_;clear hK K)|apply Rx.o ?_|apply ak ?_|(apply zcQ fun K hK=>?_)|apply am ?_)
 refine a4 rfl a6 a7 ?_;simp only[cG];refine aZ ?_ (GO hT Y A W h);rintro v C ⟨L,g,U,Z⟩;dsimp only[zc5];obtain⟨i,rfl⟩:∃m:Nat,i=m:=⟨i.toNat,by obtain⟨_,o,_⟩:=g.get hr;omega⟩;obtain⟨j,hn,I,hx,F⟩:=g.at hr;have z:=g.x;unfold gW at z;have a2:=(F _ g).l2;repeat' (first
  |(apply zcP ?_;clear hK K)|apply Rx.o ?_|apply ak ?_|(apply zcQ fun K hK=>?_)|apply am ?_)
 all_goals (refine⟨zcT,_,zcU,?_⟩;try simp only[zcS])
 exact⟨I,L,g,U,Z⟩
end
end
section
def gZ(H:Hp)(v:AV)(l:List Int)(lo:Nat):Prop:=∃r g,v=.sl r 0 l.length 1/\H.get r=some (.cells (l.map (.int .u8)) g true)/\g<=l.length/\lo<=r/\r<H.next
def yb(H:Hp)(v:AV)(l:List Int)(lo:Nat):Prop:=(v=.nilS/\l=[])\/gZ H v l lo
theorem gZ.low{H H':Hp}{v:AV}{l:List Int}{lo:Nat}(h:gZ H v l lo)(o:H.next<=H'.next)(A:∀k,lo<=k->k<H.next->H'.get k=H.get k):gZ H' v l lo:=by
 obtain⟨r,g,i,Z,m,U,Y⟩:=h;exact⟨r,g,i,by rw[A r U Y];exact Z,m,U,ac⟩
theorem gZ.lt{H:Hp}{v:AV}{l:List Int}{lo:Nat}(h:gZ H v l lo){k:Nat}(j:zd9 v k):lo<=k/\k<H.next:=by
 obtain⟨r,g,rfl,_,_,U,i⟩:=h;obtain⟨n,e⟩:=j;simp only[AV.sl.injEq]at e;rw[<-e.1];exact⟨U,i⟩
theorem gZ.keep{H H':Hp}{v:AV}{l:List Int}{lo:Nat}(h:gZ H v l lo)(o:H.next<=H'.next)(A:∀k,zd9 v k->H'.get k=H.get k):gZ H' v l lo:=by
 obtain⟨r,g,rfl,Z,m,U,i⟩:=h;exact⟨r,g,rfl,Bl,m,U,ac⟩
theorem HP(l:List Int):(l.map (AV.int .u8)).all AV.one=true:=by simp[AV.one]
theorem YP{H:Hp}{r imm:Nat}{m:List Int}(h:H.get r=some (.cells (m.map (.int .u8)) imm true)):zeN H 1 (.sl r 0 m.length 1)=some (m.length,m.map (.int .u8)):=by
 have:=lX (H:=H) (r:=r) (o:=0) (n:=m.length) (z:=1) (s:=1) h aE;rw[this,dW,eF aE]
theorem YQ{H:Hp}{v x:AV}{l m:List Int}{lo:Nat}(L:yb H v l lo)(K:lo<=H.next)(F:zeN H 1 x=some (m.length,m.map (.int .u8)))(M:m≠[])(Y:l.length+m.length<2^40):
 ∃o H',zen Tryz.prog false H 200 200 v x=some (o,H')/\gZ H' o (l++m) lo/\H'.next=H.next+1/\(∀k,k<lo->H'.get k=H.get k)/\oX v o H H':=by
 obtain⟨n,Z⟩:∃n,m.length=n+1:=⟨m.length-1,xB⟩;have i:zef=70368744177664:=rfl;rw[Z]at F;rcases L with⟨rfl,rfl⟩|⟨r,g,rfl,V,O,J,I⟩
 .refine⟨.sl H.next 0 (n+1) 1,H.alloc (.cells (m.map (.int .u8)) 0 true),append_nil Tryz.underlying200 AT AU AW af F (HP m) rfl jm jm,⟨H.next,0,nN,ik,ac,K,cQ _⟩,rfl,fun k j=>fK,fun k j _=>fK,fun k j=>.inr ?_⟩;obtain⟨U,e⟩:=j;simp only[AV.sl.injEq]at e;omega
 .have W:gh false H 1 (.sl r 0 l.length 1)=H:=by
   unfold gh;simp only[V,bz,cX,gA];have:Nat.blt l.length l.length=false:=by
    cases Y:Nat.blt l.length l.length with
    |false=>rfl
    |true=>rw[gL]at Y;omega
   simp[this]
  refine⟨.sl H.next 0 (l.length+(n+1)) 1,(H.kill r).alloc (.cells (l.map (.int .u8)++m.map (.int .u8)) (g-0) true),?_,⟨H.next,g,nN,?_,cp,K,cQ _⟩,rfl,fun k j=>?_,fun k j z=>?_,fun k j=>.inr ?_⟩
  .simp only[zen,Tryz.underlying200,AT,AU,AW,show kw Tryz.prog 200=true by kernel_rfl,F,HP,W,mH,bS,dl,jx,zfz,V,cX,bz,gA,dW];rw[ay ⟨jm,jm,trivial,trivial,O⟩];simp
  .show((H.kill r).alloc _).get (H.kill r).next=_
   rw[zcY,ay rfl];simp
  .rw[zcY,ah lA,zeI,ah ac]
  .rw[zcY,ah lA,zeI,ah (fun e=>z ⟨_,li⟩)]
  .obtain⟨U,e⟩:=j;simp only[AV.sl.injEq]at e;omega
theorem HQ{H:Hp}{v:AV}{l:List Int}{lo r imm:Nat}(s:Int)(L:yb H v l lo)(K:lo<=H.next)(Z:H.get r=some (.cells [.int .u8 s] imm true))(z:l.length<2^39):
 ∃o H',zen Tryz.prog false H 200 200 v (.sl r 0 1 1)=some (o,H')/\gZ H' o (l++[s]) lo/\H'.next=H.next+1/\(∀k,k<lo->H'.get k=H.get k)/\oX v o H H':=
 YQ L K (YP (m:=[s]) Z) aE cp
theorem HR(H:Hp)(n:Int):zej Tryz.prog H 200 1 [(0,.int .u8 n)]=some (.sl H.next 0 1 1,H.alloc (.cells [.int .u8 n] 0 true)):=af
theorem bin_shr{D:BinOp->Sx->Sx->Option Bool}{t:TypeId}{k M:IntKind}{a:Int}{m:Nat}(h:m<64)(j:k=.u64):zdU Tryz.prog D .shr t (.int k a) (.int M (m:Int))=some (.int k (a.fdiv (2^ m))):=by
 subst j;have e:zdU Tryz.prog D .shr t (.int .u64 a) (.int M (Int.ofNat m))=some (.int .u64 (a.fdiv (2^ min m 64))):=rfl;rw[show min m 64=m by omega]at e;exact e
def i9(n:Int)(i:Nat):Int:=IntKind.wrap .u8 (n.fdiv (2^ (8*i)))
def zez(n:Int)(i:Nat):List Int:=(List.range i).map (i9 n)
theorem zfx(n:Int)(i:Nat):(zez n i).length=i:=by simp[zez]
theorem HS(n:Int)(i:Nat):zez n (i+1)=zez n i++[i9 n i]:=by simp[zez,List.range_succ]
def ob(l:List Int):List UInt8:=l.map fun n=>UInt8.ofNat n.toNat
def tyV1.tyF:=ad @cP (ad @b7 (ad @uI (ad @dz (ad @ei (ad @fd (ad @Ba (ad @FB (ad @Bg (ad @FH (ad @FJ (ad @uL (ad @FI (ad @FK (@HR))))))))))))))
open tyV1
noncomputable def HT:{c:SC // aB 20 (Tryz.f181.body.getD .skip)=c}:=by
 refine⟨?_,?_⟩;rotate_left
 .simp only[Tryz.f181,a8,aB,zda,zc9,zdc,zdd,Nat.blt,Nat.ble];rfl
noncomputable def HU:{c:SC // aB 29 (Tryz.f147.body.getD .skip)=c}:=by
 refine⟨?_,?_⟩;rotate_left
 .simp only[Tryz.f147,a8,aB,zda,zc9,zdc,zdd,Nat.blt,Nat.ble];rfl
theorem HV{cfg:Cfg}(J:Plain cfg 181)(F:cfg.keep 181=false){H:Hp}{v:AV}{b:List Int}{lo:Nat}(hv:gZ H v b lo)(z:b.length<2^38)(n:Int):
 zc2 Tryz.prog cfg 181 [v,.int .u64 n] H fun w H'=>gZ H' w (b++zez n 8) lo/\H.next<=H'.next/\∀k,k<lo->H'.get k=H.get k:=by
 obtain⟨zdg,i0,O,_⟩:=id hv;have hone:AV.one v=true:=by rw[O];rfl
 clear O;refine zf (M:=20) (rs:=[.tmp 4]) (J.call _) J.ice J.froz Tryz.func181 rfl rfl HT.2 rfl ?_;dsimp only[HT,zcX,Nat.reduceAdd];repeat' (first
  |(apply zcP ?_;clear hK K)|apply Rx.o ?_|apply ak ?_|(apply zcQ fun K hK=>?_)|apply ax ?_|fail)
 refine zdN [1] [] 5 8 (fun i E Z=>∃w,E.at 0=w/\gZ Z w (b++zez n i) lo/\∀k,k<lo->Z.get k=H.get k) eE ⟨v,eE,by simpa [zez]using hv,fun _ _=>rfl⟩ ?_;rintro i E Z hi Y W U hsI ⟨w,zd3,g,C⟩;(try simp only[zdh,zdb,a1,zc3,zde,Nat.reduceBEq, *]at Y);(try simp only[zdb, *]at W);(try simp only[zc6,zdm,zdK,bz,Nat.reduceAdd]at U);by_cases L:i<8
 .have m:(i:Int)<8:=by omega
  have e1:IntKind.wrap .i64 (8*(i:Int))=((8*i:Nat):Int):=by rw[zey ac ac];omega
  have e2:IntKind.wrap .u64 ((8*i:Nat):Int)=((8*i:Nat):Int):=(by decide:∀i:Fin 8,IntKind.wrap .u64 ((8*i.val:Nat):Int)=((8*i.val:Nat):Int)) ⟨i,L⟩;have e4:∀(D:BinOp->Sx->Sx->Option Bool) (t:TypeId),zdU Tryz.prog D .shr t (.int .u64 n) (.int .u64 ((8*i:Nat):Int))=some (.int .u64 (n.fdiv (2^ (8*i)))):=fun D t=>bin_shr ac rfl;repeat' (first
   |(apply zcP ?_;clear hK K)|apply Ry.o ?_|(apply az (fun z V=>?_) (fun z V=>?_)<;>try(cases z;done))|apply ak ?_|(apply zcQ fun K hK=>?_)|apply ax ?_|apply zcR ?_|fail)
  have I:yb (Z.alloc (.cells [.int .u8 (i9 n i)] 0 true)) w (b++zez n i) lo:=.inr (g.keep (gm _) fun k j=>by rw[zcY,ah (by have:=(g.lt j).2;omega)]);have hlo2:lo<=Z.next:=by obtain⟨r,im,_,_,_,h1,h2⟩:=g;omega
  obtain⟨v5,H5,a5,s5,n5,f5,o5⟩:=HQ (r:=Z.next) (imm:=0) (i9 n i) I gX iu (by rw[fv,zfx];omega);have n5':Z.next<=H5.next:=sY
  have A:∀k,k<lo->H5.get k=H.get k:=fun k j=>by rw[f5 k j,zcY,ah ac,C k j]
  clear n5 f5 o5;refine nQ eV eV (by rw[F];exact a5) ?_;repeat' (first
   |(apply zcP ?_;clear hK K)|apply Rx.o ?_|(apply zcQ fun K hK=>?_)|fail)
  refine⟨ac,eL,eL,eN,Hk,?_⟩;exact⟨v5,eE,by rw[HS,<-gw];exact s5,A⟩
 .have m:¬(i:Int)<8:=by omega
  repeat' (first
   |(apply zcP ?_;clear hK K)|apply Ry.o ?_|(apply az (fun z V=>?_) (fun z V=>?_)<;>try(cases z;done))|apply ak ?_|(apply zcQ fun K hK=>?_)|apply am ?_|apply zc4 ?_)
  all_goals (refine⟨zcT,_,zcU,?_⟩;try simp only[zcS])
  have o:i=8:=ac;rw[o]at g;exact⟨g,ac,C⟩
def ph(n:Nd):List Int:=IntKind.wrap .u8 n.op::(zez (IntKind.wrap .u64 n.imm) 8++n.kids.flatMap fun k=>zez (IntKind.wrap .u64 k) 8)
theorem HW(n:Nd):ph n=[IntKind.wrap .u8 n.op]++zez (IntKind.wrap .u64 n.imm) 8++n.kids.flatMap fun k=>zez (IntKind.wrap .u64 k) 8:=by
 rw[ph];simp
theorem HY:∀l:List Int,pU (l.map (.int .u8))=some (ob l)
 |[]=>rfl
 |a::l=>by
  have:=HY l;simp only[dO,pU,this];rfl
theorem HZ{H:Hp}{v:AV}{l:List Int}{lo:Nat}(L:gZ H v l lo):ze3 Tryz.prog H 200 9 v=some (.str (ob l)):=by
 obtain⟨r,U,rfl,A,_⟩:=L;have F:zeN H 1 (.sl r 0 l.length 1)=some (l.length,l.map (.int .u8)):=by
  have:=lX (H:=H) (r:=r) (o:=0) (n:=l.length) (z:=1) (s:=1) A aE;rw[this,dW,eF aE]
 simp only[ze3,Tryz.underlying200,Tryz.underlying9,Tryz.underlying5,F];rw[HY]
def ve(n:Nd):List AV:=[.agg n.cells]
theorem YR(x y:Nd)(h:ve x=ve y):x=y:=by
 simp only[ve,cS,AV.agg.injEq,a1]at h;exact nX h
theorem YS(ρ:Nat->Int)(n:Nd)(hn:n.kids.length<2^30):bh Tryz.prog ρ 147 [.agg n.cells] (.str (ob (ph n))):=zdZ fit (pls:=pls) (l:=[]) trivial (.cons (.agg n.pure) .nil) (.str _) (by
 have J:=zed 147;refine zf (M:=29) (rs:=[.tmp 2]) (J.call _) J.ice J.froz Tryz.func147 rfl rfl HU.2 rfl ?_;dsimp only[HU,zcX,Nat.reduceAdd];repeat' (first
  |(apply zcP ?_;clear hK K)|apply Rx.o ?_|apply ak ?_|(apply zcQ fun K hK=>?_)|fail)
 refine a4 rfl a6 a7 ?_;simp only[bB];refine aZ ?_ (HV (zed _) rfl (b:=[IntKind.wrap .u8 n.op]) (lo:=1) ⟨1,0,rfl,n9,cN _,aM _,sZ⟩ aE _);rintro w H1 ⟨Z,n1,A⟩;have g1:H1.get 0=some (.cells n.cells 0 true):=by rw[A 0 ac];rfl
 have n1':1<=H1.next:=by simp only[zc6]at n1;omega
 clear n1 A;dsimp only[zc5];repeat' (first
  |(apply zcP ?_;clear hK K)|apply Rx.o ?_|apply ak ?_|(apply zcQ fun K hK=>?_)|apply ax ?_|fail)
 refine zdN [1,2,16,17] [] 18 n.kids.length (fun j E H=>∃w,E.at 3=w/\gZ H w ([IntKind.wrap .u8 n.op]++zez (IntKind.wrap .u64 n.imm) 8++(n.kids.take j).flatMap fun k=>zez (IntKind.wrap .u64 k) 8) 1/\H.get 0=some (.cells n.cells 0 true)) eE ⟨w,eE,qb,g1⟩ ?_;rintro j E H2 hj i Y W o ⟨w2,k3,g,g2⟩;(try simp only[zdh,zdb,a1,zc3,zde,Nat.reduceBEq, *]at i);(try simp only[zdb, *]at Y);(try simp only[zc6,zdm,zdK,bz,Nat.reduceAdd]at W);by_cases O:j<n.kids.length
 .have m:(j:Int)<n.kids.length:=by omega
  have L:n.kids[j]?=some n.kids[j]:=aO O;have I:n.kids.take (j+1)=n.kids.take j++[n.kids[j]]:=by rw[mz,L];rfl
  have hfl:((n.kids.take j).flatMap fun k=>zez (IntKind.wrap .u64 k) 8).length<=8*j:=by
   rw[List.length_flatMap];simp only[zfx];have:((n.kids.take j).map fun _=>8).sum=8*(n.kids.take j).length:=by
    generalize n.kids.take j=q;induction q with
    |nil=>rfl
    |cons a q ih=>simp[ih];omega
   rw[this,iS];omega
  generalize n.kids[j]=kd at *;repeat' (first
   |(apply zcP ?_;clear hK K)|apply Ry.o ?_|(apply az (fun z V=>?_) (fun z V=>?_)<;>try(cases z;done))|apply ak ?_|(apply zcQ fun K hK=>?_)|apply ax ?_|apply zcR ?_|fail)
  refine a4 rfl a6 a7 ?_;simp only[bB];refine aZ ?_ (HV (zed _) rfl g G9 _);rintro w3 H3 ⟨U,n3,o3⟩;have g3:H3.get 0=some (.cells n.cells 0 true):=by rw[o3 0 ac];exact g2
  dsimp only[zc5];repeat' (first
   |(apply zcP ?_;clear hK K)|apply Rx.o ?_|(apply zcQ fun K hK=>?_)|fail)
  refine⟨ac,eL,eL,eN,pe,?_⟩;exact⟨w3,eE,by rw[I,List.flatMap_append,oT,B1,bB,<-gw];exact U,g3⟩
 .have m:¬(j:Int)<n.kids.length:=by omega
  have F:j=n.kids.length:=ac;subst F;rw[ua]at g;have C:=HZ g;rw[<-HW]at C;repeat' (first
   |(apply zcP ?_;clear hK K)|apply Ry.o ?_|(apply az (fun z V=>?_) (fun z V=>?_)<;>try(cases z;done))|apply ak ?_|(apply zcQ fun K hK=>?_)|apply am ?_|apply zc4 ?_)
  all_goals (refine⟨zcT,_,zcU,?_⟩;try simp only[zcS]))
end
section
def tyR3c.tyF:=ad @cP (ad @b7 (ad @dz (ad @ii (ad @kJ (ad @mP (ad @jY (ad @jZ (ad @iG (ad @iH (ad @gC (ad @mQ (ad @jF (ad @XC (ad @XD (@XE)))))))))))))))
open tyR3c
mutual
def yc:St->Bool
 | .mk _ _ _ _ a v args g i=>decide ((20:Int)<iL a)||decide ((20:Int)<iL v)||oc g||oc i||args.any fun e=>decide ((20:Int)<iL e)
def oc:List St->Bool
 |[]=>false
 |x::l=>yc x||oc l
end
def fp(p:Pr):List AV:=[.agg p.cells]
theorem rg(x y:Pr)(h:fp x=fp y):x=y:=by simp only[fp,cS,AV.agg.injEq,a1]at h;exact Pr.inj h
def rh(f:Fu):Bool:=decide ((6:Int)<f.params.length)||decide ((8:Int)<f.locals.length)||decide ((200:Int)<zeG f.body)||decide ((16:Int)<zeD f.body)||decide ((20:Int)<mS f.body 0)||oc f.body||decide ((20:Int)<iL f.value)
def vg(a:Ar):Bool:=decide (a.len<1)||decide (16<a.len)
def s9(p:Pr):Bool:=decide ((4:Int)<p.arrays.length)||decide ((8:Int)<p.funcs.length)||p.arrays.any vg||p.funcs.any rh
end
theorem yd(d:Nat)(h:d<2^60):eK ((d:Int)+1)=((d+1:Nat):Int):=by unfold eK;rw[zey ac ac];omega
mutual
theorem H0:∀(x:Ex) (d:Nat),d<=21->jB nR x d=decide (d+iL x<=20)
 | .mk k n s o V,d,hd=>by
   rw[jB,nR,iL];by_cases h:d<=20
   .rw[yd d ac,H9 V d h];simp only[show decide ((d:Int)<=20)=true by simpa using (by omega:(d:Int)<=20),dq]
   .have i:decide ((d:Int)<=20)=false:=by simp;omega
    rw[i,dX];symm;simp;omega
theorem H9:∀(l:List Ex) (d:Nat),d<=20->zeS nR l ((d+1:Nat):Int)=decide (d+qP l<=20)
 |[],d,hd=>by rw[zeS,qP];symm;simpa using hd
 |e::es,d,hd=>by
  rw[zeS,H0 e (d+1) ac,H9 es d hd,qP];by_cases i:d+1+iL e<=20<;>by_cases g:d+qP es<=20;all_goals simp only[i,g,qN,jW,o7,dq,dX]
  all_goals (symm;simp;omega)
end
theorem Cd(x:Ex):jB nR x 0=!decide ((20:Int)<iL x):=by
 have:=H0 x 0 ac;rw[show((0:Nat):Int)=0 from rfl]at this;rw[this];by_cases h:iL x<=20
 .have:¬(20:Int)<iL x:=by omega
  simp[h,this]
 .have:(20:Int)<iL x:=by omega
  simp[h,this]
theorem Ia:∀(l:List Ex),zeS nR l 0=!(l.any fun e=>decide ((20:Int)<iL e))
 |[]=>rfl
 |e::es=>by rw[zeS,Cd,Ia es,mW,s6]
mutual
theorem YT:∀(x:St) (d:Int),iE (lm nR) x d ()=(!yc x,())
 | .mk k W V n a v args g i,d=>by
   rw[iE,lm,yc];simp only[St.at_,St.value,St.args,Cd,Ia];cases Z:decide ((20:Int)<iL a)
   .cases Y:decide ((20:Int)<iL v)
    .cases m:args.any fun e=>decide ((20:Int)<iL e)
     .simp only[gR,jW,dq,ye g];cases U:oc g
      .simp only[gR,ye i,jH,ji]
      .simp
     .simp
    .simp
   .simp
theorem ye:∀(l:List St) (d:Int),zea (lm nR) l d ()=(!oc l,())
 |[],_=>rfl
 |x::l,d=>by
  rw[zea,YT x,oc];cases h:yc x
  .simp only[gR,ye l,ji]
  .simp
end
def pi(k:Int):Nat:=if k=4 then 1 else 0
theorem YU(x:St)(d n l:Nat)(o:n<2^60)(I:l<2^60):kH x d ((n:Int),(l:Int))=(decide ((d:Int)<=20)&&decide (((n+1:Nat):Int)<=200)&&decide (((l+pi x.kind:Nat):Int)<=16),(((n+1:Nat):Int),((l+pi x.kind:Nat):Int))):=by
 have J:(if x.kind=4 then eK ((l:Int)+1)else (l:Int))=((l+pi x.kind:Nat):Int):=by
  unfold pi;split
  .rw[yd l ac]
  .rfl
 unfold kH;simp only[yd n ac,J]
mutual
theorem YV:∀(x:St) (d n l:Nat),d<=21->n<=200->l<=16 ->
 ((zeo x d<=20/\n+n1 x<=200/\l+zeU x<=16)->iE kH x d ((n:Int),(l:Int))=(true,(((n+n1 x:Nat):Int),((l+zeU x:Nat):Int)))) /\
 (¬(zeo x d<=20/\n+n1 x<=200/\l+zeU x<=16)->(iE kH x d ((n:Int),(l:Int))).1=false)
 | .mk k m Z Y a v args g i,d,n,l,hd,hn,hl=>by
   have C:pi (St.mk k m Z Y a v args g i).kind<=1:=by unfold pi;split<;>omega
   have M:zeU (.mk k m Z Y a v args g i)=pi (St.mk k m Z Y a v args g i).kind+zeD g+zeD i:=by rw[zeU];rfl
   rw[iE,YU _ _ _ _ ac ac,M];obtain⟨z,O⟩:∃z,pi (St.mk k m Z Y a v args g i).kind=z:=⟨_,rfl⟩;rw[O]at C⊢;clear O M;simp only[yd d ac,zeo,n1];by_cases o:d<=20/\n+1<=200/\l+z<=16
   .have W:(decide ((d:Int)<=20)&&decide (((n+1:Nat):Int)<=200)&&decide (((l+z:Nat):Int)<=16))=true:=by
     rw[dB,dB];refine⟨⟨?_,?_⟩,?_⟩<;>apply cI<;>omega
    rw[W];simp only[];have t:=yf g (d+1) (n+1) (l+z) ac ac ac;by_cases V:mS g (d+1)<=20/\n+1+zeG g<=200/\l+z+zeD g<=16
    .rw[t.1 V];simp only[];have u:=yf i (d+1) (n+1+zeG g) (l+z+zeD g) ac ac ac;by_cases U:mS i (d+1)<=20/\n+1+zeG g+zeG i<=200/\l+z+zeD g+zeD i<=16
     .rw[u.1 U];refine⟨fun _=>?_,fun h=>(h ⟨ac,ac,ac⟩).elim⟩;rw[show n+1+zeG g+zeG i=n+(1+zeG g+zeG i) by omega,show l+z+zeD g+zeD i=l+(z+zeD g+zeD i) by omega]
     .refine⟨fun h=>(U ⟨ac,ac,ac⟩).elim,fun _=>u.2 U⟩
    .refine⟨fun h=>(V ⟨ac,ac,ac⟩).elim,fun _=>?_⟩;have:=t.2 V;generalize zea kH g _ _=r at this⊢;obtain⟨b,s⟩:=r;simp only at this;subst this;rfl
   .have W:(decide ((d:Int)<=20)&&decide (((n+1:Nat):Int)<=200)&&decide (((l+z:Nat):Int)<=16))=false:=by
     rw[<-Bool.not_eq_true,dB,dB];rintro⟨⟨zd0,a2⟩,a3⟩;have zd0:=u9 zd0;have a2:=u9 a2;have a3:=u9 a3;exact o ⟨ac,ac,ac⟩
    rw[W];exact⟨fun h=>(o ⟨ac,ac,ac⟩).elim,fun _=>rfl⟩
theorem yf:∀(x:List St) (d n l:Nat),d<=21->n<=200->l<=16 ->
 ((mS x d<=20/\n+zeG x<=200/\l+zeD x<=16)->zea kH x d ((n:Int),(l:Int))=(true,(((n+zeG x:Nat):Int),((l+zeD x:Nat):Int)))) /\
 (¬(mS x d<=20/\n+zeG x<=200/\l+zeD x<=16)->(zea kH x d ((n:Int),(l:Int))).1=false)
 |[],d,n,l,hd,hn,hl=>by
  rw[zea,mS,zeG,zeD];exact⟨fun _=>rfl,fun h=>(h ⟨ac,ac,ac⟩).elim⟩
 |x::r,d,n,l,hd,hn,hl=>by
  rw[zea,mS,zeG,zeD];have t:=YV x d n l hd hn hl;by_cases i:zeo x d<=20/\n+n1 x<=200/\l+zeU x<=16
  .rw[t.1 i];simp only[];have u:=yf r d (n+n1 x) (l+zeU x) hd ac ac;by_cases g:mS r d<=20/\n+n1 x+zeG r<=200/\l+zeU x+zeD r<=16
   .rw[u.1 g];refine⟨fun _=>?_,fun h=>(h ⟨ac,ac,ac⟩).elim⟩;rw[show n+n1 x+zeG r=n+(n1 x+zeG r) by omega,show l+zeU x+zeD r=l+(zeU x+zeD r) by omega]
   .exact⟨fun h=>(g ⟨ac,ac,ac⟩).elim,fun _=>u.2 g⟩
  .refine⟨fun h=>(i ⟨ac,ac,ac⟩).elim,fun _=>?_⟩;have:=t.2 i;generalize iE kH x _ _=r at this⊢;obtain⟨b,s⟩:=r;simp only at this;subst this;rfl
end
theorem YW(x:List St):(zea kH x 0 (0,0)).1=(!decide ((200:Int)<zeG x) && !decide ((16:Int)<zeD x) && !decide ((20:Int)<mS x 0)):=by
 have t:=yf x 0 0 0 ac ac ac;rw[show((0:Nat):Int)=0 from rfl]at t;simp only[bz]at t;by_cases h:mS x 0<=20/\zeG x<=200/\zeD x<=16
 .rw[t.1 h];have i:¬(200:Int)<zeG x:=ac;have g:¬(16:Int)<zeD x:=ac;have m:¬(20:Int)<mS x 0:=ac;simp[i,g,m]
 .rw[t.2 h]
  symm
  rw[<-Bool.not_eq_true,dB,dB];rintro⟨⟨zd0,a2⟩,a3⟩;simp only[lS,jG]at zd0 a2 a3;exact h ⟨ac,ac,ac⟩
theorem YX(f:Fu):gQ f=!rh f:=by
 rw[gQ,rh,lq,YW,Cd,ye];have i:decide ((f.params.length:Int)<=6)=!decide ((6:Int)<f.params.length):=by
  by_cases h:(6:Int)<f.params.length
  .have:¬(f.params.length:Int)<=6:=by omega
   simp[h,this]
  .have:(f.params.length:Int)<=6:=by omega
   simp[h,this]
 have Z:decide ((f.locals.length:Int)<=8)=!decide ((8:Int)<f.locals.length):=by
  by_cases h:(8:Int)<f.locals.length
  .have:¬(f.locals.length:Int)<=8:=by omega
   simp[h,this]
  .have:(f.locals.length:Int)<=8:=by omega
   simp[h,this]
 rw[i,Z];simp only[s6];generalize (!decide ((6:Int)<f.params.length))=a;generalize (!decide ((8:Int)<f.locals.length))=b;generalize (!decide ((200:Int)<zeG f.body))=c;generalize (!decide ((16:Int)<zeD f.body))=d;generalize (!decide ((20:Int)<mS f.body 0))=e;generalize (!oc f.body)=g;generalize (!decide ((20:Int)<iL f.value))=h;cases a<;>cases b<;>cases c<;>cases d<;>cases e<;>cases g<;>cases h<;>rfl
theorem Ib{M:Type}(l:List M)(p q:M->Bool)(h:∀x,p x=!q x):l.all p=!l.any q:=by
 induction l with
 |nil=>rfl
 |cons a l ih=>rw[mV,mW,s6,h,ih]
theorem YY(p:Pr):iZ p=!s9 p:=by
 rw[iZ,s9,Ib p.funcs gQ rh YX,Ib p.arrays _ vg (fun a=>by rw[vg,s6])];simp only[s6]
end Go.Proofs.YtljebeflbbgibaaGreat
