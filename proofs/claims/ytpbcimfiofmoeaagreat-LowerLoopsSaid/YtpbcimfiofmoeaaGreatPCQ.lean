/- Parts: VdP, K1, K2a, K2b, K2, K3, SnC, K5, K9, VdC. -/
import Derived.Test.YtpbcimfiofmoeaaGreatPCP
set_option linter.unusedSimpArgs false
set_option linter.unusedVariables false
set_option linter.unusedSectionVars false
set_option linter.defProp false
set_option maxHeartbeats 32000000
namespace Go.Ab
set_option maxRecDepth 20000
open Go
theorem oR{P:Prop}(h:P:=by rw[V];simp):P:=h
theorem BX{P:Prop}(h:P:=by simp_all;done):P:=h
theorem BY{P:Prop}(h:P:=by rw[Y];exact s5):P:=h
def BZ:=@decide_not
def B0:=@List.pairwise_iff_getElem
end Go.Ab
namespace Go.Proofs.YtpbcimfiofmoeaaGreat
set_option maxRecDepth 20000
open Go Go.Ab
section
def nT(a:Ar):Bool:=zf7 a.name&&(decide (1<=a.len)&&decide (a.len<=16))
def B3(u:Un):Bool:=(decide ((u.arrays.length:Int)<=4)&&decide ((u.funcs.length:Int)<=8))&&(u.arrays.all nT && !zfW [] (u.arrays.map Ar.name))&&(u.funcs.all (fun g=>zf7 g.name) && !zfW [] (u.funcs.map Gr.name))
theorem NH(Z:List (List UInt8)):∀(K:List Gr) (seen:List (List UInt8)),nL Z seen (K.map hM)=zfW seen (K.map Gr.name)
 |[],seen=>rfl
 |g::K,seen=>by
  rw[dE,nL,dE,zfW];show(zfE seen g.name||zfW Z []||nL Z (seen++[g.name]) (K.map hM))=_;rw[NH Z K];cases zfE seen g.name<;>simp[zfW]
theorem NI(u:Un):decide (zhj (fM u)=0)=B3 u:=by
 have Z:lx (fM u)=!(decide ((u.arrays.length:Int)<=4)&&decide ((u.funcs.length:Int)<=8)&&u.arrays.all fun a=>decide (1<=a.len)&&decide (a.len<=16)):=by
  unfold lx;have Y:(fM u).arrays=u.arrays:=rfl;have K:(fM u).funcs.length=u.funcs.length:=by simp[fM]
  have M:(fM u).funcs.any oJ=false:=by
   simp only[fM,vT,oZ];intro g _;have:oJ (hM g)=false:=by simp[oJ,hM,zgl,zfQ,zhi,kM,eU,mr]
   simp[this]
  rw[Y,K,M,gK,BC,BC];have V:u.arrays.any t8=!(u.arrays.all fun a=>decide (1<=a.len)&&decide (a.len<=16)):=by
   rw[List.not_all_eq_any_not]
   congr 1
   funext a
   unfold t8;rw[BC]
   congr 1
   .rw[<-BZ,p6];omega
   .rw[<-BZ,p6];omega
  rw[V]
  congr 1
  congr 1
  .rw[<-BZ,p6];omega
  .rw[<-BZ,p6];omega
 have m:ja (fM u)=(u.arrays.all (fun a=>zf7 a.name)&&u.funcs.all fun g=>zf7 g.name):=by
  unfold ja;show(u.arrays.all _&&(u.funcs.map hM).all lT)=_;rw[List.all_map]
  congr 1
  congr 1
  funext g
  simp[lT,fnNames,hM,gO,gk,eV,lS,Ex.kind,Ex.kids,Ex.name,Ex.op]
 have o:mR (fM u)=(zfW [] (u.arrays.map Ar.name)||zfW [] (u.funcs.map Gr.name)):=by
  unfold mR;show(_||nL _ [] (u.funcs.map hM))=_;rw[NH];rfl
 have U:(fM u).funcs.any (mS (fM u))=false:=by
  simp only[fM,vT,oZ];intro g _;simp[mS,hM,zgF,eW,zg5,ii,Ex.kind]
 have z:(fM u).funcs.any (nM (fM u))=false:=by
  simp only[fM,vT,oZ];intro g _;simp[nM,hM,zgF]
 have O:u.arrays.all nT=(u.arrays.all (fun a=>zf7 a.name)&&u.arrays.all fun a=>decide (1<=a.len)&&decide (a.len<=16)):=by
  generalize u.arrays=C;induction C with
  |nil=>rfl
  |cons a C ih=>
   simp only[qd,ih,nT];cases zf7 a.name<;>cases (decide (1<=a.len)&&decide (a.len<=16))<;>simp
 unfold zhj B3;rw[Z,m,o,U,z,O];generalize decide ((u.arrays.length:Int)<=4)=J;generalize decide ((u.funcs.length:Int)<=8)=I;generalize (u.arrays.all fun a=>decide (1<=a.len)&&decide (a.len<=16))=L;generalize u.arrays.all (fun a=>zf7 a.name)=j;generalize u.funcs.all (fun g=>zf7 g.name)=i;generalize zfW [] (u.arrays.map Ar.name)=b6;generalize zfW [] (u.funcs.map Gr.name)=b7;revert J I L j i b6 b7;decide
def jn:List Nd->Int->Int
 |[],_=>0
 |n::l,m=>if n.op=31/\n.imm=m then (n.kids.length:Int).tdiv 2 else jn l m
structure LoopOk (n:Nd):Prop where
 i0:0<=n.imm
 i1:n.imm<=15
 odd:n.kids.length%2=1
 three:3<=n.kids.length
theorem LoopOk.lv{n:Nd}(h:LoopOk n):fu n.kids.length=(n.kids.length:Int).tdiv 2/\0<fu n.kids.length:=by
 have:=h.odd;have:=h.three;unfold fu;rw[mo ac,mo ac];omega
theorem FQ:∀(l:List Nd) (t Z:List Int),t.length=16->(∀n∈l,n.op=31->LoopOk n)->kL l t=some Z->Z.length=16/\∀m:Nat,m<16->Z.getD m 0=if 0<t.getD m 0 then t.getD m 0 else if jn l m=0 then t.getD m 0 else jn l m
 |[],t,Z,hl,_,h=>by
  cases h;refine⟨hl,fun m V=>?_⟩;simp[jn]
 |n::l,t,Z,hl,hok,h=>by
  have L:∀n∈l,n.op=31->LoopOk n:=fun x C=>hok x (dO _ C);rw[kL]at h;by_cases c:n.op=31
  .rw[aq c]at h;have j:=hok n dJ c;have z:=j.i0;have J:=j.i1;obtain⟨k,M⟩:=jw z;obtain⟨Y,U⟩:=j.lv;split at h
   .cases h
   .rename_i O;obtain⟨i,g⟩:=FQ l _ Z (by simpa using hl) L h;refine⟨i,fun m V=>?_⟩;rw[M,gV]at O g;have K:=g m V;rw[dd (l:=t.set _ _),mL]at K;rw[K,jn];by_cases e:k=m
    .subst e;rw[aq rfl,aq (show k<t.length by omega),af O,aq (show n.op=31/\n.imm=(k:Int)from⟨c,M⟩)];simp only[bS];rw[aq U,<-Y,af ac]
    .rw[af e,af (fun h:n.op=31/\n.imm=(m:Int)=>e (by have:=h.2;omega)),<-dd]
  .rw[af c]at h;obtain⟨i,g⟩:=FQ l t Z hl L h;refine⟨i,fun m V=>?_⟩;rw[g m V,jn,af (fun h:n.op=31/\n.imm=(m:Int)=>c h.1)]
theorem rep_get(m:Nat):(List.replicate 16 (0:Int)).getD m 0=0:=by
 rw[dd,tU];split<;>rfl
def nU(l:List Nd)(n:Nd):Bool:=decide (n.op=3)&&decide (0<jn l (n.imm.tdiv 16))&&decide (jn l (n.imm.tdiv 16)<=n.imm.tmod 16)
theorem NJ{l:List Nd}{t:List Int}(M:∀n∈l,n.op=31->LoopOk n)(h:kL l (List.replicate 16 0)=some t){n:Nd}(z:n.op=3->0<=n.imm/\n.imm<=255):AI t n=nU l n:=by
 obtain⟨_,g⟩:=FQ l _ t au M h;unfold AI nU;by_cases c:n.op=3
 .obtain⟨a,b⟩:=z c;obtain⟨k,j⟩:∃k:Nat,n.imm.tdiv 16=k:=jw (D2 a ac);have V:k<16:=by rw[mo a]at j;omega
  have e:t.getD (n.imm.tdiv 16).toNat 0=jn l (n.imm.tdiv 16):=by
   rw[j,gV,g k V,rep_get,af ac];split
   .omega
   .rfl
  rw[e]
 .rw[d6 c,eJ,eJ,eJ,eJ]
theorem zrM{l:List Nd}(M:∀n∈l,n.op=31->LoopOk n){n:Nd}(V:n∈l)(z:n.op=3->0<=n.imm/\n.imm<=255)(h:nU l n=true):zhV l=false:=by
 unfold zhV;split
 .rfl
 .rename_i t C;rw[List.all_eq_false];exact⟨n,V,by rw[NJ M C z,h];simp⟩
theorem zpo{l:List Nd}(M:∀n∈l,n.op=31->LoopOk n){t:List Int}(C:kL l (List.replicate 16 0)=some t)(h:∀n∈l,(n.op=3->0<=n.imm/\n.imm<=255)/\nU l n=false):zhV l=true:=by
 unfold zhV;rw[C];simp only[gF];intro n z;obtain⟨i,g⟩:=h n z;rw[NJ M C i,g];rfl
theorem zrN{l:List Nd}(h:kL l (List.replicate 16 0)=none):zhV l=false:=by
 unfold zhV;rw[h]
theorem NK:∀(l:List Nd) (seen:List (List UInt8)),(∀x∈l,NdR x)->zfW seen (l.map zgZ)=false->l.Nodup/\∀x∈l,zfE seen (zgZ x)=false
 |[],seen,_,_=>⟨AM,fun x C=>by simp at C⟩
 |a::l,seen,hr,h=>by
  rw[dE,zfW]at h;have i:zfE seen (zgZ a)=false/\zfW (seen++[zgZ a]) (l.map zgZ)=false:=by
   cases m:zfE seen (zgZ a)<;>simp_all
  obtain⟨Z,g⟩:=NK l _ (fun x C=>hr x (dO _ C)) i.2;refine⟨ub.2 ⟨fun V=>?_,Z⟩,fun x C=>?_⟩
  .have:=g a V;simp[zfE]at this
  .rcases eP.1 C with rfl|C
   .exact i.1
   .have:=g x C;simp only[zfE,xO,gG]at this⊢;exact this.1
theorem zuD{l:List Nd}(hr:∀x∈l,NdR x):sJ l=true->l.Nodup:=fun h=>by
 unfold sJ at h;exact(NK l [] hr jv).1
theorem mask_zero{l:List Nd}(M:∀i n,l[i]?=some n->NdOk n i)(O:∀j,j<l.length->(jG l l.length).getD j 0<2^16){j:Nat}(Y:j<l.length):zhk l j=0↔∀t,t<16->((zhc l l.length).getD j []).getD t false=false:=by
 have o:=fun t=>AH l.length (aE _) (fun j n _ h=>M j n h) j Y t;have e:zhk l j=(jG l l.length).getD j 0:=by rw[zhk,gV]
 rw[e];constructor
 .intro h t C;have:=o t;rw[h,dt C,fy,xz]at this;exact this.symm
 .intro h;apply D3;intro t;rw[o t,xz];by_cases C:t<16
  .rw[h t C,p7]
  .rw[d6 C,eJ]
def tyK1.tyF:=ad @cN (ad @ej (@eQ))
open tyK1
noncomputable def NL:{c:SC // aH 67 (Tryz.f20.body.getD .skip)=c}:=by
 refine⟨?_,?_⟩;rotate_left
 .simp only[Tryz.f20,bS,aH,zfO,zfL,zfR,zfS,Nat.blt,Nat.ble];rfl
noncomputable def NM:{c:SC // aH 19 (Tryz.f113.body.getD .skip)=c}:=by
 refine⟨?_,?_⟩;rotate_left
 .simp only[Tryz.f113,bS,aH,zfO,zfL,zfR,zfS,Nat.blt,Nat.ble];rfl
noncomputable def NN:{c:SC // aH 29 (Tryz.f68.body.getD .skip)=c}:=by
 refine⟨?_,?_⟩;rotate_left
 .simp only[Tryz.f68,bS,aH,zfO,zfL,zfR,zfS,Nat.blt,Nat.ble];rfl
noncomputable def NO:{c:SC // aH 7 (Tryz.f69.body.getD .skip)=c}:=by
 refine⟨?_,?_⟩;rotate_left
 .simp only[Tryz.f69,bS,aH,zfO,zfL,zfR,zfS,Nat.blt,Nat.ble];rfl
noncomputable def NP:{c:SC // aH 15 (Tryz.f70.body.getD .skip)=c}:=by
 refine⟨?_,?_⟩;rotate_left
 .simp only[Tryz.f70,bS,aH,zfO,zfL,zfR,zfS,Nat.blt,Nat.ble];rfl
theorem zpp(ρ:Nat->Int)(op:Int):ce Tryz.prog ρ 20 [.int .i64 op] (lw op):=zg3 fit (pls:=pls) (l:=[]) trivial (.cons (.int _ _) .nil) (Zw op) (by
 have Y:=zha 20;refine zfz (M:=67) (rs:=[.tmp 2,.tmp 3]) (Y.call _) Y.ice Y.froz Tryz.func20 rfl rfl NL.2 rfl ?_;dsimp only[NL,zft,Nat.reduceAdd];repeat' (first
  |(apply ah ?_;clear hK K)|apply Rx.o ?_|(apply dr (fun J z=>?_) (fun J z=>?_)<;>try(cases J;done))|(apply bt (fun o Z=>?_) (fun o Z=>?_)<;>try(cases o;done))|apply ak ?_|(apply zff fun K hK=>?_)|apply ay ?_|apply zfh ?_|apply ax ?_)
 all_goals
  refine⟨zfj,_,gX,?_⟩;try simp only[zfi]
  unfold lw bK;first
  |(rw[aq ac];done)
  |(rw[af ac,aq ac];done)
  |(rw[af ac,af ac,aq ac];done)
  |(rw[af ac,af ac,af ac,aq ac];done)
  |(rw[af ac,af ac,af ac,af ac,aq ac];done)
  |(rw[af ac,af ac,af ac,af ac,af ac,aq ac];done)
  |(rw[af ac,af ac,af ac,af ac,af ac,af ac];done))
theorem zpq(ρ:Nat->Int)(op:Int):ce Tryz.prog ρ 113 [.int .i64 op] (.int .i64 (d8 op)):=zg3 fit (pls:=pls) (l:=[]) trivial (.cons (.int _ _) .nil) (.int _ _) (by
 have Z:=zha 113;refine zfz (M:=19) (rs:=[.tmp 2]) (Z.call _) Z.ice Z.froz Tryz.func113 rfl rfl NM.2 rfl ?_;dsimp only[NM,zft,Nat.reduceAdd];repeat' (first
  |(apply ah ?_;clear hK K)|apply Rx.o ?_|(apply bt (fun o z=>?_) (fun o z=>?_)<;>try(cases o;done))|apply ak ?_|(apply zff fun K hK=>?_)|apply ay ?_|apply zfh ?_|apply ax ?_)
 all_goals
  refine⟨zfj,_,gX,?_⟩;try simp only[zfi]
  simp_all[d8])
noncomputable def B4:En:=⟨113,false,dc (fun _=>True) (fun n:Int=>[.int .i64 n]) fun n=>.int .i64 (d8 n)⟩
theorem zyE(ρ:Nat->Int):zgE Tryz.prog ρ B4:=zgO fun n _=>zpq ρ n
theorem zdk{l:List En}(L:∀C,zgw l 113 C=B4.sp C)(n:Int)(H:Hp):zfs Tryz.prog (zfn pls l) 113 [.int .i64 n] H fun v H'=>v=.int .i64 (d8 n)/\H'=H:=
 zgL (enc:=fun n:Int=>[.int .i64 n]) (ok:=fun _=>True) (out:=fun n=>.int .i64 (d8 n)) Jz (x:=n) (L _) trivial
def uy(x:Int×Int):List AV:=[.int .i64 x.1,.int .i64 x.2]
theorem zuE(x y:Int×Int)(h:uy x=uy y):x=y:=by
 simp only[uy,eB,AV.int.injEq,a0,kA]at h;exact sn h.1 h.2
theorem zkl(ρ:Nat->Int)(x:Int×Int):ce Tryz.prog ρ 68 (uy x) (.bool (zgp x.1 x.2)):=zg3 fit (pls:=pls) (l:=[B4]) ⟨zyE ρ,trivial⟩ (.cons (.int _ _) (.cons (.int _ _) .nil)) (.bool _) (by
 obtain⟨J,n⟩:=x;have Y:Plain (zfn pls [B4]) 68:=zgK (fun _=>rfl) rfl;rw[uy];simp only[];refine zfz (M:=29) (rs:=[.tmp 4]) (Y.call _) Y.ice Y.froz Tryz.func68 rfl rfl NN.2 rfl ?_;dsimp only[NN,zft,Nat.reduceAdd];repeat' (first
  |(apply ah ?_;clear hK K)|apply Rx.o ?_|(apply kF ?_;first|refine Rx.k (zdk (fun _=>rfl) _ _) ?_)|apply re ?_|(apply dr (fun V z=>?_) (fun V z=>?_)<;>try(cases V;done))|(apply bt (fun o Z=>?_) (fun o Z=>?_)<;>try(cases o;done))|apply ak ?_|(apply zff fun K hK=>?_)|apply zfh ?_|apply ax ?_)
 all_goals
  refine⟨zfj,_,gX,?_⟩;try simp only[zfi]
  unfold zgp;first
  |(rw[aq jd];done)
  |(rw[af jd,aq jd];done)
  |(rw[af jd,af ac]
    have U:¬d8 J<0:=ac;first
    |(simp_all;done)
    |(generalize d8 J=q at *;simp_all;done)
    |(generalize d8 J=q at *;simp_all;omega)))
noncomputable def FR:En:=⟨68,false,dc (fun _=>True) uy fun x=>.bool (zgp x.1 x.2)⟩
theorem zyF(ρ:Nat->Int):zgE Tryz.prog ρ FR:=zgO fun n _=>zkl ρ n
theorem mE{l:List En}(L:∀C,zgw l 68 C=FR.sp C)(a b:Int)(H:Hp):zfs Tryz.prog (zfn pls l) 68 [.int .i64 a,.int .i64 b] H fun v H'=>v=.bool (zgp a b)/\H'=H:=
 zgL (enc:=uy) (ok:=fun _=>True) (out:=fun x=>.bool (zgp x.1 x.2)) zuE (x:=(a,b)) (L _) trivial
def uz(x:Bool×Int):List AV:=[.bool x.1,.int .i64 x.2]
theorem zyG(x y:Bool×Int)(h:uz x=uz y):x=y:=by
 simp only[uz,eB,AV.int.injEq,AV.bool.injEq,a0,kA]at h;exact sn h.1 h.2
theorem zps(ρ:Nat->Int)(x:Bool×Int):ce Tryz.prog ρ 69 (uz x) (.int .i64 (zgk x.1 x.2)):=zg3 fit (pls:=pls) (l:=[]) trivial (.cons (.bool _) (.cons (.int _ _) .nil)) (.int _ _) (by
 obtain⟨b,n⟩:=x;have Z:=zha 69;rw[uz];simp only[];cases b;all_goals
  refine zfz (M:=7) (rs:=[.tmp 4]) (Z.call _) Z.ice Z.froz Tryz.func69 rfl rfl NO.2 rfl ?_;dsimp only[NO,zft,Nat.reduceAdd];repeat' (first
   |(apply ah ?_;clear hK K)|apply Rx.o ?_|(apply bt (fun o z=>?_) (fun o z=>?_)<;>try(cases o;done))|apply ak ?_|(apply zff fun K hK=>?_)|apply zfh ?_|apply ax ?_)
  refine⟨zfj,_,gX,?_⟩;try simp only[zfi]
  rfl)
noncomputable def FS:En:=⟨69,false,dc (fun _=>True) uz fun x=>.int .i64 (zgk x.1 x.2)⟩
theorem zyH(ρ:Nat->Int):zgE Tryz.prog ρ FS:=zgO fun n _=>zps ρ n
theorem nV{l:List En}(L:∀C,zgw l 69 C=FS.sp C)(a:Bool)(b:Int)(H:Hp):zfs Tryz.prog (zfn pls l) 69 [.bool a,.int .i64 b] H fun v H'=>v=.int .i64 (zgk a b)/\H'=H:=
 zgL (enc:=uz) (ok:=fun _=>True) (out:=fun x=>.int .i64 (zgk x.1 x.2)) zyG (x:=(a,b)) (L _) trivial
def uA(s:List Int):List AV:=[gg s]
theorem zyI(x y:List Int)(h:uA x=uA y):x=y:=by
 simp only[uA,eB,a0]at h;exact Jy h
theorem zpt(ρ:Nat->Int)(s:List Int)(I:s.length<2^60):ce Tryz.prog ρ 70 (uA s) (.bool (zgx s)):=zg3 fit (pls:=pls) (l:=[]) trivial (.cons (Am _) .nil) (.bool _) (by
 have L:=zha 70;rw[uA];refine zfz (M:=15) (rs:=[.tmp 2]) (L.call _) L.ice L.froz Tryz.func70 rfl rfl NP.2 rfl ?_;dsimp only[NP,zft,Nat.reduceAdd];repeat' (first
  |(apply ah ?_;clear hK K)|apply Rx.o ?_|(apply bt (fun o z=>?_) (fun o z=>?_)<;>try(cases o;done))|apply ak ?_|(apply zff fun K hK=>?_)|apply ay ?_|apply zfh ?_|apply ax ?_|apply zfr ?_)
 refine zgs [0] [] 3 s.length (fun i E H=>zgx s=zgx (s.drop i)) eE au ?_;rintro i E j g Z Y V C U;(try simp only[zfT,zfB,a0,zfo,zfv,Nat.reduceBEq,Nat.reduceAdd,Nat.reduceLeDiff,tyF, *]at Z);(try simp only[zfT,zfB,a0,zfo,zfv,Nat.reduceBEq,Nat.reduceAdd,Nat.reduceLeDiff,tyF, *]at Y);(try simp only[zfw,zfI,zgj,b9,Nat.reduceAdd]at V);repeat' (first
  |(apply ah ?_;clear hK K)|apply Rx.o ?_|(apply bt (fun o z=>?_) (fun o z=>?_)<;>try(cases o;done))|apply ak ?_|(apply zff fun K hK=>?_)|apply ay ?_|apply zfh ?_|apply ax ?_|apply zfr ?_)
 .have O:i<s.length:=by simpa using o
  have J:s[i]?=some s[i]:=aR O;have m:zgx (s.drop i)=(decide (s[i]=1)&&zgx (s.drop (i+1))):=DY;repeat' (first
   |(apply ah ?_;clear hK K)|apply Rx.o ?_|(apply bt (fun o z=>?_) (fun o z=>?_)<;>try(cases o;done))|apply ak ?_|(apply zff fun K hK=>?_)|apply ay ?_|apply zfh ?_|apply ax ?_|apply zfr ?_)
  .all_goals (refine⟨zfj,_,zfq,?_⟩;try simp only[zfi])
   rw[U,m];(try simp only[iQ]at *);simp only[ *,jt,gE,gH,gK,oK,oP,jT,iC,cV,cS,Int.reduceEq]
  .refine⟨ac,eL,eL,zf4,Aq,?_⟩;rw[U,m];(try simp only[iQ]at *);simp only[ *,jt,gE,gH,gK,oK,oP,jT,iC,cV,cS,Int.reduceEq]
 .repeat' (first
   |(apply ah ?_;clear hK K)|apply Rx.o ?_|(apply bt (fun o z=>?_) (fun o z=>?_)<;>try(cases o;done))|apply ak ?_|(apply zff fun K hK=>?_)|apply ay ?_|apply zfh ?_|apply ax ?_|apply zfr ?_)
  all_goals (refine⟨zfj,_,zfq,?_⟩;try simp only[zfi])
  rw[U,show i=s.length by simp at o;omega,nI];rfl)
noncomputable def FT:En:=⟨70,false,dc (fun s=>s.length<2^60) uA fun s=>.bool (zgx s)⟩
theorem zyJ(ρ:Nat->Int):zgE Tryz.prog ρ FT:=zgO fun n h=>zpt ρ n h
theorem B5{l:List En}(L:∀C,zgw l 70 C=FT.sp C)(s:List Int)(K:s.length<2^60)(H:Hp):zfs Tryz.prog (zfn pls l) 70 [gg s] H fun v H'=>v=.bool (zgx s)/\H'=H:=
 zgL (enc:=uA) (ok:=fun s=>s.length<2^60) (out:=fun s=>.bool (zgx s)) zyI (x:=s) (L _) K
noncomputable def FU:En:=⟨20,false,dc (fun _=>True) (fun n:Int=>[.int .i64 n]) lw⟩
theorem zyK(ρ:Nat->Int):zgE Tryz.prog ρ FU:=zgO fun n _=>zpp ρ n
theorem lA{l:List En}(L:∀C,zgw l 20 C=FU.sp C)(n:Int)(H:Hp):zfs Tryz.prog (zfn pls l) 20 [.int .i64 n] H fun v H'=>v=lw n/\H'=H:=
 zgL (enc:=fun n:Int=>[.int .i64 n]) (ok:=fun _=>True) (out:=lw) Jz (x:=n) (L _) trivial
end
section
def tyK2a.tyF:=ad @ej (ad @cN (ad @iD (ad @eQ (ad @li (ad @xK (ad @xL (@pS)))))))
open tyK2a
noncomputable def fg:{c:SC // aH 221 (Tryz.f42.body.getD .skip)=c}:=by
 refine⟨?_,?_⟩;rotate_left
 .simp only[Tryz.f42,bS,aH,zfO,zfL,zfR,zfS,Nat.blt,Nat.ble];rfl
structure NsX where
 l:List Nd
 n:Nd
 k:List Int
def s7(x:NsX):List AV:=[iI x.l,.agg x.n.cells,gg x.k]
theorem zyL(x y:NsX)(h:s7 x=s7 y):x=y:=by
 obtain⟨a,b,c⟩:=x;obtain⟨L,o,g⟩:=y;simp only[s7,eB,AV.agg.injEq,a0]at h;rw[Ei h.1,Nd.inj h.2.1,Jy h.2.2]
def yE(x:NsX):Prop:=x.k.length=x.n.kids.length/\x.k.length<2^30/\(x.n.op=25->x.n.kids.length=1->∃(k:Nat) (m:Nd),x.n.kids=[(k:Int)]/\x.l[k]?=some m/\m.kids.length<2^30)
noncomputable def s8:List En:=[FU,FR,FS,FT]
theorem zuF(ρ:Nat->Int):iF Tryz.prog ρ s8:=⟨zyK ρ,zyF ρ,zyH ρ,zyJ ρ,trivial⟩
theorem zuG{l:List Nd}{n:Nd}{k:List Int}(h:(bK n.op).2=false):zfX l n k=0:=by rw[zfX,aq h]
theorem zrO{l:List Nd}{n:Nd}{k:List Int}(h:(bK n.op).2=true)(h2:0<=(bK n.op).1)(m:(n.kids.length:Int)≠(bK n.op).1):zfX l n k=0:=by rw[zfX,af (by rw[h];simp),aq ⟨h2,m⟩]
theorem zrP{l:List Nd}{n:Nd}{k:List Int}(h:zgp n.op n.imm=false):zfX l n k=0:=by
 rw[zfX];by_cases c1:(bK n.op).2=false
 .rw[aq c1]
 .rw[af c1];by_cases Z:0<=(bK n.op).1/\(n.kids.length:Int)≠(bK n.op).1
  .rw[aq Z]
  .rw[af Z,aq h]
theorem zuH{l:List Nd}{n:Nd}{k:List Int}(h:(bK n.op).2=true)(h2:¬(0<=(bK n.op).1/\(n.kids.length:Int)≠(bK n.op).1))(m:zgp n.op n.imm=true):zfX l n k =
 if n.op=3 then (if n.imm.tmod 16=0 then 2 else 1)
 else if n.op=26 then 2
 else if n.op=22 then (if k.headD 0≠1\/k.getD 1 0≠k.getD 2 0\/k.getD 1 0=3 then 0 else k.getD 1 0)
 else if n.op=23 then zgk (decide (k.headD 0=2)&&decide (k.getD 1 0=1)) 1
 else if n.op=24 then zgk (decide (k.headD 0=2)) 1
 else if n.op=25 then (if k.headD 0≠3\/(mP l (n.kids.headD 0)).tdiv 2<=n.imm then 0 else zgk (decide (n.imm=0)) 1+1)
 else if n.op=27\/n.op=29 then zgk (decide (k.headD 0=2)&&decide (k.getD 1 0=1)) 2
 else if n.op=28 then zgk (decide (k.headD 0=2)&&decide (k.getD 1 0=1)&&decide (k.getD 2 0=1)) 2
 else if n.op=30 then zgk (decide (1<=k.length)&&decide (k.length<=7)&&decide (k.headD 0=2)&&zgx (k.drop 1)) 2
 else if n.op=31 then zgk (decide (k.length%2=1)&&decide (1<=k.length/2)&&decide (k.length/2<=16)&&decide (k.headD 0=2)&&zgx ((k.drop 1).take (k.length/2))&&decide (k.getD (k.length/2+1) 0=2)&&zgx (k.drop (k.length/2+2))) 3
 else zgk (zgx k) 1:=by
 rw[zfX,af (by rw[h];simp),af h2,af (by rw[m];simp)]
theorem zdB{l:List Nd}{imm:Int}{kids k:List Int}(O:k.length=kids.length)(I:k.length<2^30)(C:zgp 30 imm=true)(V:zfX l ⟨30,imm,kids⟩ k=zgk (decide (1<=k.length)&&decide (k.length<=7)&&decide (k.headD 0=2)&&zgx (k.drop 1)) 2):
 zfs Tryz.prog (zfn pls s8) 42 [iI l,.agg [.int .i64 30,.int .i64 imm,gg kids],gg k] zfM fun v _=>v=.int .i64 (zfX l ⟨30,imm,kids⟩ k):=by
 have Y:Plain (zfn pls s8) 42:=zgK (fun _=>rfl) rfl;have m:(2:Int)≠0:=aD;have hv:lw 30=.tup [.int .i64 (-1),.bool true]:=rfl;clear O;cases k with
 |nil=>
  have L:zfX l ⟨30,imm,kids⟩ []=zgk false 2:=oR;refine zfz (M:=221) (rs:=[.tmp 6]) (Y.call _) Y.ice Y.froz Tryz.func42 rfl rfl fg.2 rfl ?_;dsimp only[fg,zft,Nat.reduceAdd];repeat' (first
   |(apply ah ?_;clear hK K)|apply Ry.o ?_|(apply d4 ?_;first|refine Rx.k (lA (fun _=>rfl) _ _) ?_|refine Rx.k (mE (fun _=>rfl) _ _ _) ?_|refine Rx.k (nV (fun _=>rfl) _ _ _) ?_)|(apply bC (fun J z=>?_) (fun J z=>?_)<;>try(cases J;done))|(apply aL (fun o Z=>?_) (fun o Z=>?_)<;>try(cases o;done))|apply ak ?_|(apply zff fun K hK=>?_)|apply ay ?_|apply zfh ?_|apply ax ?_)
  all_goals first
   |exact zf6
   |((refine⟨zfj,_,gX,?_⟩;try simp only[zfi]);rw[L];done)
 |cons a k=>
  have j:=fun a=>Zx a k;simp only[dg]at I;have U:k.length<2^60:=ac;have L:zfX l ⟨30,imm,kids⟩ (a::k)=zgk (decide (((k.length+1:Nat):Int)<=7)&&decide (a=2)&&zgx k) 2:=by
   have i:decide (((k.length+1:Nat):Int)<=7)=decide (k.length+1<=7):=p6.2 ac;rw[V,i];simp
  have g:(1:Int)<=((k.length+1:Nat):Int):=ac;refine zfz (M:=221) (rs:=[.tmp 6]) (Y.call _) Y.ice Y.froz Tryz.func42 rfl rfl fg.2 rfl ?_;dsimp only[fg,zft,Nat.reduceAdd];repeat' (first
   |(apply ah ?_;clear hK K)|apply Ry.o ?_|(apply d4 ?_;first|refine Rx.k (lA (fun _=>rfl) _ _) ?_|refine Rx.k (mE (fun _=>rfl) _ _ _) ?_|refine Rx.k (B5 (fun _=>rfl) _ U _) ?_|refine Rx.k (nV (fun _=>rfl) _ _ _) ?_)|(apply bC (fun J z=>?_) (fun J z=>?_)<;>try(cases J;done))|(apply aL (fun o Z=>?_) (fun o Z=>?_)<;>try(cases o;done))|apply ak ?_|(apply zff fun K hK=>?_)|apply ay ?_|apply zfh ?_|apply ax ?_)
  all_goals first
   |exact zf6
   |((refine⟨zfj,_,gX,?_⟩;try simp only[zfi]);rw[L];(try simp only[iQ]at *);simp only[ *,jt,gE,gH,gK,oK,oP,jT,iC,cV,cS,Int.reduceEq];done)
theorem zdC{l:List Nd}{imm:Int}{kids k:List Int}(Y:k.length=kids.length)(C:k.length<2^30)(i:kids.length=1->∃(k:Nat) (m:Nd),kids=[(k:Int)]/\l[k]?=some m/\m.kids.length<2^30)(h1:k.length=1)(g:zgp 25 imm=true)(V:zfX l ⟨25,imm,kids⟩ k=(if k.headD 0≠3\/(mP l (kids.headD 0)).tdiv 2<=imm then 0 else zgk (decide (imm=0)) 1+1)):
 zfs Tryz.prog (zfn pls s8) 42 [iI l,.agg [.int .i64 25,.int .i64 imm,gg kids],gg k] zfM fun v _=>v=.int .i64 (zfX l ⟨25,imm,kids⟩ k):=by
 have O:Plain (zfn pls s8) 42:=zgK (fun _=>rfl) rfl;have hq2:(2:Int)≠0:=aD;obtain⟨a,rfl⟩:=pp h1;have j:kids.length=1:=by rw[<-Y];exact h1
 obtain⟨I,m,rfl,hm,hmb⟩:=i j;have hv:lw 25=.tup [.int .i64 1,.bool true]:=rfl;have Z:mP l (I:Int)=m.kids.length:=by rw[mP,gV,hm]
 have L:zfX l ⟨25,imm,[(I:Int)]⟩ [a]=if a≠3\/(m.kids.length:Int).tdiv 2<=imm then 0 else zgk (decide (imm=0)) 1+1:=by rw[V];simp[Z]
 have e1:IntKind.wrap .i64 ((m.kids.length:Int).tdiv 2)=(m.kids.length:Int).tdiv 2:=by
  rw[mo ac];exact zhb ac ac
 have hgk:([(I:Int)]:List Int)[0]?=some (I:Int):=rfl;have e2:IntKind.wrap .i64 (zgk (decide (imm=0)) 1+1)=zgk (decide (imm=0)) 1+1:=by
  unfold zgk;split<;>rfl
 refine zfz (M:=221) (rs:=[.tmp 6]) (O.call _) O.ice O.froz Tryz.func42 rfl rfl fg.2 rfl ?_;dsimp only[fg,zft,Nat.reduceAdd];repeat' (first
  |(apply ah ?_;clear hK K)|apply Ry.o ?_|(apply d4 ?_;first|refine Rx.k (lA (fun _=>rfl) _ _) ?_|refine Rx.k (mE (fun _=>rfl) _ _ _) ?_|refine Rx.k (nV (fun _=>rfl) _ _ _) ?_)|(apply bC (fun J z=>?_) (fun J z=>?_)<;>try(cases J;done))|(apply aL (fun o U=>?_) (fun o U=>?_)<;>try(cases o;done))|apply ak ?_|(apply zff fun K hK=>?_)|(apply zfm 12 [(2,19),(7,19),(10,19),(16,19)] fun K hK=>?_)|(apply zfm 20 [(2,19),(6,19),(9,19),(11,19),(14,19),(15,19)] fun K hK=>?_)|(apply zfx ?_;try intro _)|(apply zfG ?_ ?_<;>clear hK K)|apply br ?_|(apply zgC (fun J z=>?_) (fun J z=>?_)<;>try(cases J;done))|apply ay ?_|apply zfh ?_|apply ax ?_)
 clear Y Z V i;all_goals first
  |exact zf6
  |((refine⟨zfj,_,gX,?_⟩;try simp only[zfi]);rw[L,aq BX];done)
  |((refine⟨zfj,_,gX,?_⟩;try simp only[zfi]);rw[L,af BX];done)
end
section
def tyK2b.tyF:=ad @ej (ad @cN (ad @iD (ad @eQ (ad @li (ad @xK (ad @xL (ad @qW (@pS))))))))
open tyK2b
theorem zuI(s:List Int){a b:Nat}(h1:a<=b)(h2:b<=s.length):zhg Tryz.prog 23 (.lst (s.map fun n=>[AV.int .i64 n])) (some (.int .i64 (a:Int))) (some (.int .i64 (b:Int)))=some (.lst (((s.drop a).take (b-a)).map fun n=>[AV.int .i64 n])):=by
 have Z:(a:Int)=Int.ofNat a:=rfl;have m:(b:Int)=Int.ofNat b:=rfl;simp only[zhg,Tryz.underlying23,jy,Z,m,zg9];rw[aq ⟨h1,by rw[cO];exact h2⟩,<-List.map_drop,<-zn];cases (s.drop a).take (b-a)with
 |nil=>rfl
 |cons x l=>rfl
theorem zyM(s:List Int){a:Nat}(h1:a<=s.length):zhg Tryz.prog 23 (.lst (s.map fun n=>[AV.int .i64 n])) (some (.int .i64 (a:Int))) none=some (.lst ((s.drop a).map fun n=>[AV.int .i64 n])):=by
 have Z:(a:Int)=Int.ofNat a:=rfl;simp only[zhg,Tryz.underlying23,jy,Z,zg9];rw[aq ⟨by rw[cO];exact h1,aE _⟩,fN au,<-List.map_drop];cases s.drop a with
 |nil=>rfl
 |cons x l=>rfl
theorem zdF{l:List Nd}{imm:Int}{kids k:List Int}(hkb:k.length<2^30)(him:zgp 31 imm=true)(Y:zfX l ⟨31,imm,kids⟩ k=zgk (decide (k.length%2=1)&&decide (1<=k.length/2)&&decide (k.length/2<=16)&&decide (k.headD 0=2)&&zgx ((k.drop 1).take (k.length/2))&&decide (k.getD (k.length/2+1) 0=2)&&zgx (k.drop (k.length/2+2))) 3):
 zfs Tryz.prog (zfn pls s8) 42 [iI l,.agg [.int .i64 31,.int .i64 imm,gg kids],gg k] zfM fun v _=>v=.int .i64 (zfX l ⟨31,imm,kids⟩ k):=by
 have V:Plain (zfn pls s8) 42:=zgK (fun _=>rfl) rfl;have hq2:(2:Int)≠0:=aD;have hv:lw 31=.tup [.int .i64 (-1),.bool true]:=rfl;have e1:IntKind.wrap .i64 ((k.length:Int).tdiv 2)=((k.length/2:Nat):Int):=by
  rw[mo ac,zhb ac ac];omega
 have C:(k.length:Int).tmod 2=((k.length%2:Nat):Int):=Fo;by_cases hc:k.length%2=1/\1<=k.length/2/\k.length/2<=16
 .obtain⟨h1,O,I⟩:=hc;have e3:IntKind.wrap .i64 (((k.length/2:Nat):Int)+1)=((k.length/2+1:Nat):Int):=zhb ac ac;have e4:IntKind.wrap .i64 (((k.length/2:Nat):Int)+2)=((k.length/2+2:Nat):Int):=zhb ac ac;obtain⟨x,hx⟩:∃x,k[0]?=some x:=⟨_,aR ac⟩;obtain⟨y,hy⟩:∃y,k[k.length/2+1]?=some y:=⟨_,aR ac⟩;have j:k.headD 0=x:=by rw[List.headD_eq_head?_getD,List.head?_eq_getElem?,hx];rfl
  have g2:k.getD (k.length/2+1) 0=y:=by rw[dd,hy];rfl
  have U:=zuI k (a:=1) (b:=k.length/2+1) ac ac;have hs2:=zyM k (a:=k.length/2+2) ac;have g:((k.drop 1).take (k.length/2+1-1)).length<2^60:=rY;have i:(k.drop (k.length/2+2)).length<2^60:=zB;have L:zfX l ⟨31,imm,kids⟩ k=zgk (decide (x=2)&&zgx ((k.drop 1).take (k.length/2+1-1))&&decide (y=2)&&zgx (k.drop (k.length/2+2))) 3:=by
   rw[Y,j,g2,dt h1,dt O,dt I,Nat.add_sub_cancel];rfl
  clear Y j g2;have e5:(k.length:Int).tmod 2=1:=by rw[C];omega
  have h2':(1:Int)<=((k.length/2:Nat):Int):=ac;have h3':((k.length/2:Nat):Int)<=16:=ac;have hs1':zhg Tryz.prog 23 (.lst (k.map fun n=>[AV.int .i64 n])) (some (.int .i64 1)) (some (.int .i64 ((k.length/2+1:Nat):Int)))=some (.lst (((k.drop 1).take (k.length/2+1-1)).map fun n=>[AV.int .i64 n])):=U;clear U C O I;generalize (k.drop 1).take (k.length/2+1-1)=p at *;generalize k.drop (k.length/2+2)=q at *;generalize k.length/2+1=u at *;generalize k.length/2+2=w at *;generalize k.length/2=m at *;refine zfz (M:=221) (rs:=[.tmp 6]) (V.call _) V.ice V.froz Tryz.func42 rfl rfl fg.2 rfl ?_;dsimp only[fg,zft,Nat.reduceAdd];repeat' (first
   |(apply ah ?_;clear hK K)|apply Ry.o ?_|(apply d4 ?_;first|refine Rx.k (lA (fun _=>rfl) _ _) ?_|refine Rx.k (mE (fun _=>rfl) _ _ _) ?_|refine Rx.k (B5 (fun _=>rfl) _ g _) ?_|refine Rx.k (B5 (fun _=>rfl) _ i _) ?_|refine Rx.k (nV (fun _=>rfl) _ _ _) ?_)|(apply bC (fun J z=>?_) (fun J z=>?_)<;>try(cases J;done))|(apply aL (fun o Z=>?_) (fun o Z=>?_)<;>try(cases o;done))|apply ak ?_|(apply zff fun K hK=>?_)|apply ay ?_|apply zfh ?_|apply ax ?_)
  all_goals first
   |exact zf6
   |((refine⟨zfj,_,gX,?_⟩;try simp only[zfi]);rw[L];(try simp only[iQ]at *);simp only[ *,jt,gE,gH,gK,oK,oP,jT,iC,cV,cS,Int.reduceEq];done)
 .have L:zfX l ⟨31,imm,kids⟩ k=zgk false 3:=by
   have hf:(decide (k.length%2=1)&&decide (1<=k.length/2)&&decide (k.length/2<=16))=false:=by
    rw[sm,sm,i4,i4,i4];omega
   rw[Y,hf];rfl
  clear Y;generalize k.length/2=m at *;generalize k.length%2=r at *;refine zfz (M:=221) (rs:=[.tmp 6]) (V.call _) V.ice V.froz Tryz.func42 rfl rfl fg.2 rfl ?_;dsimp only[fg,zft,Nat.reduceAdd];repeat' (first
   |(apply ah ?_;clear hK K)|apply Ry.o ?_|(apply d4 ?_;first|refine Rx.k (lA (fun _=>rfl) _ _) ?_|refine Rx.k (mE (fun _=>rfl) _ _ _) ?_|refine Rx.k (nV (fun _=>rfl) _ _ _) ?_)|(apply bC (fun J z=>?_) (fun J z=>?_)<;>try(cases J;done))|(apply aL (fun o Z=>?_) (fun o Z=>?_)<;>try(cases o;done))|apply ak ?_|(apply zff fun K hK=>?_)|apply ay ?_|apply zfh ?_|apply ax ?_)
  all_goals first
   |exact zf6
   |((refine⟨zfj,_,gX,?_⟩;try simp only[zfi]);rw[L];done)
   |(exfalso;omega)
end
section
def tyK2.tyF:=ad @ej (ad @cN (ad @iD (ad @eQ (ad @li (ad @xK (ad @xL (@qW)))))))
open tyK2
theorem zl2(ρ:Nat->Int)(x:NsX)(hx:yE x):ce Tryz.prog ρ 42 (s7 x) (.int .i64 (zfX x.l x.n x.k)):=zg3 fit (pls:=pls) (zuF ρ) (.cons (vn _) (.cons (.agg (Nd.pure _)) (.cons (Am _) .nil))) (.int _ _) (by
 obtain⟨l,⟨U,O,C⟩,k⟩:=x;obtain⟨i,g,h25⟩:=hx;have Y:Plain (zfn pls s8) 42:=zgK (fun _=>rfl) rfl;rw[s7];simp only[Nd.cells]at i g h25⊢;have hq:(16:Int)≠0:=aD;have hq2:(2:Int)≠0:=aD;cases I:(bK U).2 with
 |false=>
  have hv:lw U=.tup [.int .i64 (bK U).1,.bool false]:=by rw[lw,I]
  refine zfz (M:=221) (rs:=[.tmp 6]) (Y.call _) Y.ice Y.froz Tryz.func42 rfl rfl fg.2 rfl ?_;dsimp only[fg,zft,Nat.reduceAdd];repeat' (first
   |(apply ah ?_;clear hK K)|apply Ry.o ?_|(apply d4 ?_;first|refine Rx.k (lA (fun _=>rfl) _ _) ?_)|apply ib ?_|(apply bC (fun J z=>?_) (fun J z=>?_)<;>try(cases J;done))|(apply aL (fun o Z=>?_) (fun o Z=>?_)<;>try(cases o;done))|apply ak ?_|(apply zff fun K hK=>?_)|(apply zfm 12 [(2,19),(7,19),(10,19),(16,19)] fun K hK=>?_)|(apply zfm 20 [(2,19),(6,19),(9,19),(11,19),(14,19),(15,19)] fun K hK=>?_)|(apply zfx ?_;try intro _)|(apply zfG ?_ ?_<;>clear hK K)|apply br ?_|(apply zgC (fun J z=>?_) (fun J z=>?_)<;>try(cases J;done))|apply ay ?_|apply zfh ?_|apply ax ?_)
  all_goals
   refine⟨zfj,_,gX,?_⟩;try simp only[zfi]
   rw[zuG I]
 |true=>
 by_cases j:0<=(bK U).1/\(C.length:Int)≠(bK U).1
 .have hv:lw U=.tup [.int .i64 (bK U).1,.bool true]:=by rw[lw,I]
  obtain⟨h1,h2⟩:=j;refine zfz (M:=221) (rs:=[.tmp 6]) (Y.call _) Y.ice Y.froz Tryz.func42 rfl rfl fg.2 rfl ?_;dsimp only[fg,zft,Nat.reduceAdd];repeat' (first
   |(apply ah ?_;clear hK K)|apply Ry.o ?_|(apply d4 ?_;first|refine Rx.k (lA (fun _=>rfl) _ _) ?_)|apply ib ?_|(apply bC (fun J z=>?_) (fun J z=>?_)<;>try(cases J;done))|(apply aL (fun o Z=>?_) (fun o Z=>?_)<;>try(cases o;done))|apply ak ?_|(apply zff fun K hK=>?_)|(apply zfm 12 [(2,19),(7,19),(10,19),(16,19)] fun K hK=>?_)|(apply zfm 20 [(2,19),(6,19),(9,19),(11,19),(14,19),(15,19)] fun K hK=>?_)|(apply zfx ?_;try intro _)|(apply zfG ?_ ?_<;>clear hK K)|apply br ?_|(apply zgC (fun J z=>?_) (fun J z=>?_)<;>try(cases J;done))|apply ay ?_|apply zfh ?_|apply ax ?_)
  all_goals
   refine⟨zfj,_,gX,?_⟩;try simp only[zfi]
   rw[zrO I h1 h2]
 cases m:zgp U O with
 |false=>
  have hv:lw U=.tup [.int .i64 (bK U).1,.bool true]:=by rw[lw,I]
  refine zfz (M:=221) (rs:=[.tmp 6]) (Y.call _) Y.ice Y.froz Tryz.func42 rfl rfl fg.2 rfl ?_;dsimp only[fg,zft,Nat.reduceAdd];repeat' (first
   |(apply ah ?_;clear hK K)|apply Ry.o ?_|(apply d4 ?_;first|refine Rx.k (lA (fun _=>rfl) _ _) ?_|refine Rx.k (mE (fun _=>rfl) _ _ _) ?_)|apply ib ?_|(apply bC (fun J z=>?_) (fun J z=>?_)<;>try(cases J;done))|(apply aL (fun o Z=>?_) (fun o Z=>?_)<;>try(cases o;done))|apply ak ?_|(apply zff fun K hK=>?_)|(apply zfm 12 [(2,19),(7,19),(10,19),(16,19)] fun K hK=>?_)|(apply zfm 20 [(2,19),(6,19),(9,19),(11,19),(14,19),(15,19)] fun K hK=>?_)|(apply zfx ?_;try intro _)|(apply zfG ?_ ?_<;>clear hK K)|apply br ?_|(apply zgC (fun J z=>?_) (fun J z=>?_)<;>try(cases J;done))|apply ay ?_|apply zfh ?_|apply ax ?_)
  all_goals
   refine⟨zfj,_,gX,?_⟩;try simp only[zfi]
   rw[zrP m]
 |true=>
 have V:=zuH (l:=l) (n:=⟨U,O,C⟩) (k:=k) I j m;simp only[]at V;by_cases c31:U=31
 .subst c31;exact zdF g m oR
 by_cases c30:U=30
 .subst c30;exact zdB i g m oR
 by_cases c25:U=25
 .subst c25;exact zdC i g (h25 rfl) (by have e:(bK 25).1=1:=rfl;omega) m oR
 have hnn:=Zy c31 c30;have hkn:(C.length:Int)=(bK U).1:=ac;have hv:lw U=.tup [.int .i64 C.length,.bool true]:=by rw[lw,I,hkn]
 by_cases c22:U=22
 .subst c22;obtain⟨a,b,c,rfl⟩:=sw (s:=k) (by have e:(bK 22).1=3:=rfl;omega);have L:zfX l ⟨22,O,C⟩ [a,b,c]=if a≠1\/b≠c\/b=3 then 0 else b:=oR
  refine zfz (M:=221) (rs:=[.tmp 6]) (Y.call _) Y.ice Y.froz Tryz.func42 rfl rfl fg.2 rfl ?_;dsimp only[fg,zft,Nat.reduceAdd];repeat' (first
   |(apply ah ?_;clear hK K)|apply Ry.o ?_|(apply d4 ?_;first|refine Rx.k (lA (fun _=>rfl) _ _) ?_|refine Rx.k (mE (fun _=>rfl) _ _ _) ?_)|apply ib ?_|(apply bC (fun J z=>?_) (fun J z=>?_)<;>try(cases J;done))|(apply aL (fun o Z=>?_) (fun o Z=>?_)<;>try(cases o;done))|apply ak ?_|(apply zff fun K hK=>?_)|(apply zfm 12 [(2,19),(7,19),(10,19),(16,19)] fun K hK=>?_)|(apply zfm 20 [(2,19),(6,19),(9,19),(11,19),(14,19),(15,19)] fun K hK=>?_)|(apply zfx ?_;try intro _)|(apply zfG ?_ ?_<;>clear hK K)|apply br ?_|(apply zgC (fun J z=>?_) (fun J z=>?_)<;>try(cases J;done))|apply ay ?_|apply zfh ?_|apply ax ?_)
  all_goals first
   |exact zf6
   |((refine⟨zfj,_,gX,?_⟩;try simp only[zfi]);rw[L];clear L V h25 hv hkn j I m i;(try simp only[oY,i4]at *);first|(rw[aq BX];done)|(rw[af BX];done)|(rw[aq ac];done)|(rw[af ac];done))
 by_cases c23:U=23
 .subst c23;obtain⟨a,b,rfl⟩:=pq (s:=k) (by have e:(bK 23).1=2:=rfl;omega);have L:zfX l ⟨23,O,C⟩ [a,b]=zgk (decide (a=2)&&decide (b=1)) 1:=oR;refine zfz (M:=221) (rs:=[.tmp 6]) (Y.call _) Y.ice Y.froz Tryz.func42 rfl rfl fg.2 rfl ?_;dsimp only[fg,zft,Nat.reduceAdd];repeat' (first
   |(apply ah ?_;clear hK K)|apply Ry.o ?_|(apply d4 ?_;first|refine Rx.k (lA (fun _=>rfl) _ _) ?_|refine Rx.k (mE (fun _=>rfl) _ _ _) ?_|refine Rx.k (nV (fun _=>rfl) _ _ _) ?_)|apply ib ?_|(apply bC (fun J z=>?_) (fun J z=>?_)<;>try(cases J;done))|(apply aL (fun o Z=>?_) (fun o Z=>?_)<;>try(cases o;done))|apply ak ?_|(apply zff fun K hK=>?_)|(apply zfm 12 [(2,19),(7,19),(10,19),(16,19)] fun K hK=>?_)|(apply zfm 20 [(2,19),(6,19),(9,19),(11,19),(14,19),(15,19)] fun K hK=>?_)|(apply zfx ?_;try intro _)|(apply zfG ?_ ?_<;>clear hK K)|apply br ?_|(apply zgC (fun J z=>?_) (fun J z=>?_)<;>try(cases J;done))|apply ay ?_|apply zfh ?_|apply ax ?_)
  all_goals first
   |exact zf6
   |((refine⟨zfj,_,gX,?_⟩;try simp only[zfi]);rw[L];(try simp only[iQ]at *);simp only[ *,jt,gE,gH,gK,oK,oP,jT,iC,cV,cS,Int.reduceEq];done)
   |((refine⟨zfj,_,gX,?_⟩;try simp only[zfi]);rw[L];clear L V h25 hv hkn;simp_all;done)
 by_cases c24:U=24
 .subst c24;obtain⟨a,rfl⟩:=pp (s:=k) (by have e:(bK 24).1=1:=rfl;omega);have L:zfX l ⟨24,O,C⟩ [a]=zgk (decide (a=2)) 1:=oR;refine zfz (M:=221) (rs:=[.tmp 6]) (Y.call _) Y.ice Y.froz Tryz.func42 rfl rfl fg.2 rfl ?_;dsimp only[fg,zft,Nat.reduceAdd];repeat' (first
   |(apply ah ?_;clear hK K)|apply Ry.o ?_|(apply d4 ?_;first|refine Rx.k (lA (fun _=>rfl) _ _) ?_|refine Rx.k (mE (fun _=>rfl) _ _ _) ?_|refine Rx.k (nV (fun _=>rfl) _ _ _) ?_)|apply ib ?_|(apply bC (fun J z=>?_) (fun J z=>?_)<;>try(cases J;done))|(apply aL (fun o Z=>?_) (fun o Z=>?_)<;>try(cases o;done))|apply ak ?_|(apply zff fun K hK=>?_)|(apply zfm 12 [(2,19),(7,19),(10,19),(16,19)] fun K hK=>?_)|(apply zfm 20 [(2,19),(6,19),(9,19),(11,19),(14,19),(15,19)] fun K hK=>?_)|(apply zfx ?_;try intro _)|(apply zfG ?_ ?_<;>clear hK K)|apply br ?_|(apply zgC (fun J z=>?_) (fun J z=>?_)<;>try(cases J;done))|apply ay ?_|apply zfh ?_|apply ax ?_)
  all_goals first
   |exact zf6
   |((refine⟨zfj,_,gX,?_⟩;try simp only[zfi]);rw[L];done)
 by_cases c27:U=27
 .subst c27;obtain⟨a,b,rfl⟩:=pq (s:=k) (by have e:(bK 27).1=2:=rfl;omega);have L:zfX l ⟨27,O,C⟩ [a,b]=zgk (decide (a=2)&&decide (b=1)) 2:=oR;refine zfz (M:=221) (rs:=[.tmp 6]) (Y.call _) Y.ice Y.froz Tryz.func42 rfl rfl fg.2 rfl ?_;dsimp only[fg,zft,Nat.reduceAdd];repeat' (first
   |(apply ah ?_;clear hK K)|apply Ry.o ?_|(apply d4 ?_;first|refine Rx.k (lA (fun _=>rfl) _ _) ?_|refine Rx.k (mE (fun _=>rfl) _ _ _) ?_|refine Rx.k (nV (fun _=>rfl) _ _ _) ?_)|apply ib ?_|(apply bC (fun J z=>?_) (fun J z=>?_)<;>try(cases J;done))|(apply aL (fun o Z=>?_) (fun o Z=>?_)<;>try(cases o;done))|apply ak ?_|(apply zff fun K hK=>?_)|(apply zfm 12 [(2,19),(7,19),(10,19),(16,19)] fun K hK=>?_)|(apply zfm 20 [(2,19),(6,19),(9,19),(11,19),(14,19),(15,19)] fun K hK=>?_)|(apply zfx ?_;try intro _)|(apply zfG ?_ ?_<;>clear hK K)|apply br ?_|(apply zgC (fun J z=>?_) (fun J z=>?_)<;>try(cases J;done))|apply ay ?_|apply zfh ?_|apply ax ?_)
  all_goals first
   |exact zf6
   |((refine⟨zfj,_,gX,?_⟩;try simp only[zfi]);rw[L];(try simp only[iQ]at *);simp only[ *,jt,gE,gH,gK,oK,oP,jT,iC,cV,cS,Int.reduceEq];done)
 by_cases c29:U=29
 .subst c29;obtain⟨a,b,rfl⟩:=pq (s:=k) (by have e:(bK 29).1=2:=rfl;omega);have L:zfX l ⟨29,O,C⟩ [a,b]=zgk (decide (a=2)&&decide (b=1)) 2:=oR;refine zfz (M:=221) (rs:=[.tmp 6]) (Y.call _) Y.ice Y.froz Tryz.func42 rfl rfl fg.2 rfl ?_;dsimp only[fg,zft,Nat.reduceAdd];repeat' (first
   |(apply ah ?_;clear hK K)|apply Ry.o ?_|(apply d4 ?_;first|refine Rx.k (lA (fun _=>rfl) _ _) ?_|refine Rx.k (mE (fun _=>rfl) _ _ _) ?_|refine Rx.k (nV (fun _=>rfl) _ _ _) ?_)|apply ib ?_|(apply bC (fun J z=>?_) (fun J z=>?_)<;>try(cases J;done))|(apply aL (fun o Z=>?_) (fun o Z=>?_)<;>try(cases o;done))|apply ak ?_|(apply zff fun K hK=>?_)|(apply zfm 12 [(2,19),(7,19),(10,19),(16,19)] fun K hK=>?_)|(apply zfm 20 [(2,19),(6,19),(9,19),(11,19),(14,19),(15,19)] fun K hK=>?_)|(apply zfx ?_;try intro _)|(apply zfG ?_ ?_<;>clear hK K)|apply br ?_|(apply zgC (fun J z=>?_) (fun J z=>?_)<;>try(cases J;done))|apply ay ?_|apply zfh ?_|apply ax ?_)
  all_goals first
   |exact zf6
   |((refine⟨zfj,_,gX,?_⟩;try simp only[zfi]);rw[L];(try simp only[iQ]at *);simp only[ *,jt,gE,gH,gK,oK,oP,jT,iC,cV,cS,Int.reduceEq];done)
 by_cases c28:U=28
 .subst c28;obtain⟨a,b,c,rfl⟩:=sw (s:=k) (by have e:(bK 28).1=3:=rfl;omega);have L:zfX l ⟨28,O,C⟩ [a,b,c]=zgk (decide (a=2)&&decide (b=1)&&decide (c=1)) 2:=oR;refine zfz (M:=221) (rs:=[.tmp 6]) (Y.call _) Y.ice Y.froz Tryz.func42 rfl rfl fg.2 rfl ?_;dsimp only[fg,zft,Nat.reduceAdd];repeat' (first
   |(apply ah ?_;clear hK K)|apply Ry.o ?_|(apply d4 ?_;first|refine Rx.k (lA (fun _=>rfl) _ _) ?_|refine Rx.k (mE (fun _=>rfl) _ _ _) ?_|refine Rx.k (nV (fun _=>rfl) _ _ _) ?_)|apply ib ?_|(apply bC (fun J z=>?_) (fun J z=>?_)<;>try(cases J;done))|(apply aL (fun o Z=>?_) (fun o Z=>?_)<;>try(cases o;done))|apply ak ?_|(apply zff fun K hK=>?_)|(apply zfm 12 [(2,19),(7,19),(10,19),(16,19)] fun K hK=>?_)|(apply zfm 20 [(2,19),(6,19),(9,19),(11,19),(14,19),(15,19)] fun K hK=>?_)|(apply zfx ?_;try intro _)|(apply zfG ?_ ?_<;>clear hK K)|apply br ?_|(apply zgC (fun J z=>?_) (fun J z=>?_)<;>try(cases J;done))|apply ay ?_|apply zfh ?_|apply ax ?_)
  all_goals first
   |exact zf6
   |((refine⟨zfj,_,gX,?_⟩;try simp only[zfi]);rw[L];(try simp only[iQ]at *);simp only[ *,jt,gE,gH,gK,oK,oP,jT,iC,cV,cS,Int.reduceEq];done)
 by_cases c26:U=26
 .subst c26;have L:zfX l ⟨26,O,C⟩ k=2:=oR;refine zfz (M:=221) (rs:=[.tmp 6]) (Y.call _) Y.ice Y.froz Tryz.func42 rfl rfl fg.2 rfl ?_;dsimp only[fg,zft,Nat.reduceAdd];repeat' (first
   |(apply ah ?_;clear hK K)|apply Ry.o ?_|(apply d4 ?_;first|refine Rx.k (lA (fun _=>rfl) _ _) ?_|refine Rx.k (mE (fun _=>rfl) _ _ _) ?_|refine Rx.k (nV (fun _=>rfl) _ _ _) ?_)|apply ib ?_|(apply bC (fun J z=>?_) (fun J z=>?_)<;>try(cases J;done))|(apply aL (fun o Z=>?_) (fun o Z=>?_)<;>try(cases o;done))|apply ak ?_|(apply zff fun K hK=>?_)|(apply zfm 12 [(2,19),(7,19),(10,19),(16,19)] fun K hK=>?_)|(apply zfm 20 [(2,19),(6,19),(9,19),(11,19),(14,19),(15,19)] fun K hK=>?_)|(apply zfx ?_;try intro _)|(apply zfG ?_ ?_<;>clear hK K)|apply br ?_|(apply zgC (fun J z=>?_) (fun J z=>?_)<;>try(cases J;done))|apply ay ?_|apply zfh ?_|apply ax ?_)
  all_goals first
   |exact zf6
   |((refine⟨zfj,_,gX,?_⟩;try simp only[zfi]);rw[L];done)
 by_cases c3:U=3
 .subst c3;have L:zfX l ⟨3,O,C⟩ k=if O.tmod 16=0 then 2 else 1:=oR
  refine zfz (M:=221) (rs:=[.tmp 6]) (Y.call _) Y.ice Y.froz Tryz.func42 rfl rfl fg.2 rfl ?_;dsimp only[fg,zft,Nat.reduceAdd];repeat' (first
   |(apply ah ?_;clear hK K)|apply Ry.o ?_|(apply d4 ?_;first|refine Rx.k (lA (fun _=>rfl) _ _) ?_|refine Rx.k (mE (fun _=>rfl) _ _ _) ?_|refine Rx.k (nV (fun _=>rfl) _ _ _) ?_)|apply ib ?_|(apply bC (fun J z=>?_) (fun J z=>?_)<;>try(cases J;done))|(apply aL (fun o Z=>?_) (fun o Z=>?_)<;>try(cases o;done))|apply ak ?_|(apply zff fun K hK=>?_)|(apply zfm 12 [(2,19),(7,19),(10,19),(16,19)] fun K hK=>?_)|(apply zfm 20 [(2,19),(6,19),(9,19),(11,19),(14,19),(15,19)] fun K hK=>?_)|(apply zfx ?_;try intro _)|(apply zfG ?_ ?_<;>clear hK K)|apply br ?_|(apply zgC (fun J z=>?_) (fun J z=>?_)<;>try(cases J;done))|apply ay ?_|apply zfh ?_|apply ax ?_)
  all_goals first
   |exact zf6
   |((refine⟨zfj,_,gX,?_⟩;try simp only[zfi]);rw[L,aq jd];done)
   |((refine⟨zfj,_,gX,?_⟩;try simp only[zfi]);rw[L,af jd];done)
 have L:zfX l ⟨U,O,C⟩ k=zgk (zgx k) 1:=by
  rw[V,af c3,af c26,af c22,af c23,af c24,af c25,af ac,af c28,af c30,af c31]
 have hkb':k.length<2^60:=ac;have hk0:(0:Int)<=C.length:=ac;refine zfz (M:=221) (rs:=[.tmp 6]) (Y.call _) Y.ice Y.froz Tryz.func42 rfl rfl fg.2 rfl ?_;dsimp only[fg,zft,Nat.reduceAdd];repeat' (first
  |(apply ah ?_;clear hK K)|apply Ry.o ?_|(apply d4 ?_;first|refine Rx.k (lA (fun _=>rfl) _ _) ?_|refine Rx.k (mE (fun _=>rfl) _ _ _) ?_|refine Rx.k (B5 (fun _=>rfl) _ hkb' _) ?_|refine Rx.k (nV (fun _=>rfl) _ _ _) ?_)|apply ib ?_|(apply bC (fun J z=>?_) (fun J z=>?_)<;>try(cases J;done))|(apply aL (fun o Z=>?_) (fun o Z=>?_)<;>try(cases o;done))|apply ak ?_|(apply zff fun K hK=>?_)|(apply zfm 12 [(2,19),(7,19),(10,19),(16,19)] fun K hK=>?_)|(apply zfm 20 [(2,19),(6,19),(9,19),(11,19),(14,19),(15,19)] fun K hK=>?_)|(apply zfx ?_;try intro _)|(apply zfG ?_ ?_<;>clear hK K)|apply br ?_|(apply zgC (fun J z=>?_) (fun J z=>?_)<;>try(cases J;done))|apply ay ?_|apply zfh ?_|apply ax ?_)
 all_goals first
  |exact zf6
  |((refine⟨zfj,_,gX,?_⟩;try simp only[zfi]);rw[L];done))
end
section
def tyK3.tyF:=ad @ej (ad @cN (ad @iD (ad @eQ (ad @li (@Eh)))))
open tyK3
noncomputable def NQ:{c:SC // aH 69 (Tryz.f13.body.getD .skip)=c}:=by
 refine⟨?_,?_⟩;rotate_left
 .simp only[Tryz.f13,bS,aH,zfO,zfL,zfR,zfS,Nat.blt,Nat.ble];rfl
noncomputable def FV:En:=⟨42,true,dc yE s7 fun x=>.int .i64 (zfX x.l x.n x.k)⟩
theorem zyN(ρ:Nat->Int):zgE Tryz.prog ρ FV:=zgO fun x C=>zl2 ρ x C
noncomputable def B6:List En:=[D6 FV]
theorem zuJ(ρ:Nat->Int):iF Tryz.prog ρ B6:=⟨Za (zyN ρ),trivial⟩
theorem zuK(l:List Nd):cF 60 (iI l)=iI l:=by
 show AV.lst ((l.map Nd.cells).map fun J=>J.map (cF 59))=_;rw[tD];have e:(fun J=>J.map (cF 59)) ∘ Nd.cells=Nd.cells:=by
  funext x
  show(x.cells).map (cF 59)=x.cells;rw[Nd.cells];simp only[dE,p8,Ek 57];rfl
 rw[e]
theorem zdK(y:NsX):(s7 y).any (pr 90)=false:=by
 obtain⟨l,⟨J,V,C⟩,s⟩:=y;rfl
theorem zdL(S:Nat->Prop)(H:Hp)(n:Nd):zgf S 3 H (.agg n.cells) (.agg n.cells):=by
 refine⟨n.cells,?_,rfl⟩;rw[Nd.cells];exact⟨qc ⟨.int _ _,trivial⟩,qc ⟨.int _ _,trivial⟩,qc ⟨Am _,trivial⟩,trivial⟩
theorem zdM{i:List En}(Z:∀C,zgw i 42 C=(D6 FV).sp C)(I:lQ i 42=true){H:Hp}{v:AV}{s:List Int}{lo:Nat}(U:fQ H v s lo)(l:List Nd)(n:Nd)(M:yE ⟨l,n,s⟩):
 zfs Tryz.prog (zfn pls i) 42 [iI l,.agg n.cells,v] H fun w H'=>w=.int .i64 (zfX l n s)/\Icy (fun k=>lo<=k) H H':=by
 obtain⟨u,Y,g⟩:=U.ic;refine ZB (x:=(⟨l,n,s⟩:NsX)) (enc:=s7) (ok:=yE) (out:=fun x=>.int .i64 (zfX x.l x.n x.k)) (us:=[iI l,.agg n.cells,u]) (n:=3) zyL (fun C=>by rw[Z];rfl) I zdK M ac ⟨qc ⟨vn _,trivial⟩,zdL _ _ _,Y,trivial⟩ ?_;show [cF 60 (iI l),cF 60 (.agg n.cells),cF 60 u]=_;rw[g,ZC 56,zuK];rfl
theorem zyO{l:List Nd}{i:Nat}(I:i<l.length){n:Nd}{s:List Int}(z:l[i]?=some n)(j:zgY i (zga l i) n.kids=some s):i9 l i (zga l i)=zfX l n s:=by
 rw[<-Zp ac,Ec,z];simp only[j]
theorem zdO{l:List Nd}{i:Nat}{zgM s:List Int}{n:Nd}(I:i<l.length)(L:kK l)(z:l[i]?=some n)(Z:zgY i zgM n.kids=some s):yE ⟨l,n,s⟩:=by
 have o:=L.2 n (lJ z);have e:=ss Z;refine⟨e,vM,fun _ Y=>?_⟩;obtain⟨k,j⟩:=pp Y;simp only[]at j⊢;obtain⟨U,O,_⟩:=rk Z k (by rw[j];exact M6 _);obtain⟨m,rfl⟩:=jw U;have V:m<l.length:=ac;exact⟨m,l[m],j,aR V,L.2 _ (dI V)⟩
theorem fQ.at{H:Hp}{v:AV}{l:List Int}{lo:Nat}(h:fQ H v l lo){i:Nat}(I:i<l.length):
 ∃r,zgi Tryz.prog 23 v (.int .i64 (i:Int))=some (.ptr r i)/\iU Tryz.prog H 3 (.ptr r i)=some (.int .i64 l[i]):=by
 rcases h with⟨_,rfl⟩|h
 .simp at I
 .exact h.at I
set_option maxRecDepth 100000 in
theorem zpu(ρ:Nat->Int)(l:List Nd)(hl:kK l):ce Tryz.prog ρ 13 [iI l] (gg (zga l l.length)):=D5 (n:=3) (xt (r:=xF (zga l l.length)) (m:=3) (cfg:=zfn pls B6) fit (pO ρ) (iF.look (zuJ ρ)) (.cons (vn _) .nil) (by
 have hl0:=hl;obtain⟨hl1,hl2⟩:=hl;have hw:Plain (zfn pls B6) 13:=zgK (fun _=>rfl) rfl;have hkeep:(zfn pls B6).keep 13=false:=rfl;refine zfz (M:=69) (rs:=[.tmp 2]) (hw.call _) hw.ice hw.froz Tryz.func13 rfl rfl NQ.2 rfl ?_;dsimp only[NQ,zft,Nat.reduceAdd];repeat' (first
  |(apply ah ?_;clear hK K)|apply Rx.o ?_|(apply bt (fun o z=>?_) (fun o z=>?_)<;>try(cases o;done))|apply ak ?_|(apply zff fun K hK=>?_)|apply ay ?_|apply zfh ?_|apply ax ?_|apply zfr ?_)
 refine zgs [0,2] [] 4 l.length (fun i E H=>∃v,E.at 3=v/\po H v (zga l i) 0) eE ⟨.nilS,eE,.inl ⟨rfl,rfl⟩⟩ ?_;rintro i E H2 hi hcE hrH hnH hsI ⟨v,k3,hv⟩;(try simp only[zfT,zfB,a0,zfo,zfv,Nat.reduceBEq,Nat.reduceAdd,Nat.reduceLeDiff,tyF, *]at hcE);(try simp only[zfT,zfB,a0,zfo,zfv,Nat.reduceBEq,Nat.reduceAdd,Nat.reduceLeDiff,tyF, *]at hrH);(try simp only[zfw,zfI,zgj,b9,Nat.reduceAdd]at hnH);repeat' (first
  |(apply ah ?_;clear hK K)|apply Rx.o ?_|(apply bt (fun o z=>?_) (fun o z=>?_)<;>try(cases o;done))|apply ak ?_|(apply zff fun K hK=>?_)|apply ay ?_|apply zfh ?_|apply ax ?_|apply zfr ?_)
 .have hlt:i<l.length:=by simpa using o
  have hgi:l[i]?=some l[i]:=aR hlt;have hnk:=hl2 _ (dI hlt);generalize l[i]=n at *;repeat' (first
   |(apply ah ?_;clear hK K)|apply Rx.o ?_|(apply bt (fun o z=>?_) (fun o z=>?_)<;>try(cases o;done))|apply ak ?_|(apply zff fun K hK=>?_)|apply ay ?_|apply zfh ?_|apply ax ?_|apply zfr ?_)
  refine zgs [0,2,3,4] [] 7 n.kids.length (fun j E H=>∃w s,E.at 5=w/\fQ H w s H2.next/\sA i (zga l i) n.kids j s/\E.at 6=.bool true/\∀k,k<H2.next->H.get k=H2.get k) eE ⟨.nilS,[],eE,.inl ⟨rfl,rfl⟩,⟨rfl,au⟩,eE,fun _ _=>rfl⟩ ?_;rintro j E3 H3 hj hcE hrH hnH hsI ⟨w,s,k5,hws,hJ,k6,Z⟩;(try simp only[zfT,zfB,a0,zfo,zfv,Nat.reduceBEq,Nat.reduceAdd,Nat.reduceLeDiff,tyF, *]at hcE);(try simp only[zfT,zfB,a0,zfo,zfv,Nat.reduceBEq,Nat.reduceAdd,Nat.reduceLeDiff,tyF, *]at hrH);(try simp only[zfw,zfI,zgj,b9,Nat.reduceAdd]at hnH);repeat' (first
   |(apply ah ?_;clear hK K)|apply Rx.o ?_|(apply bt (fun o z=>?_) (fun o z=>?_)<;>try(cases o;done))|apply ak ?_|(apply zff fun K hK=>?_)|apply ay ?_|apply zfh ?_|apply ax ?_|apply zfr ?_)
  .have hlt2:j<n.kids.length:=by simpa using o
   have hgx:n.kids[j]?=some n.kids[j]:=aR hlt2;generalize n.kids[j]=g at *;have O:po H3 v (zga l i) 0:=hv.keep ac fun k L=>Z k (hv.n.lt L).2;have J:∀(x:Int),fQ (H3.alloc (.cells [.int .i64 x] 0 true)) v (zga l i) 0:=fun x=>O.n.keep (eh _) fun k L=>by rw[zfk,af (by have:=(hv.n.lt L).2;omega)]
   by_cases V:g<0\/(i:Int)<=g\/(zga l i).getD g.toNat 0=0
   .have hs0:i9 l i (zga l i)=0:=ZD hgi (hJ.bad hgx V);have Y:zga l (i+1)=zga l i++[0]:=by rw[zga,hs0]
    obtain⟨v5,H5,a5,s5,n5,f5,o5⟩:=xE (r:=H3.next) (imm:=0) 0 (J 0) (dZ _) kV tS;have n5':H2.next<=H5.next:=vu
    clear n5 f5 o5 J;by_cases c1:g<0
    .repeat' (first
      |(apply ah ?_;clear hK K)|apply Ry.o ?_|(apply bC (fun I U=>?_) (fun I U=>?_)<;>try(cases I;done))|(apply aL (fun o z=>?_) (fun o z=>?_)<;>try(cases o;done))|apply ak ?_|(apply zff fun K hK=>?_)|apply ay ?_|apply zfh ?_|apply ax ?_|apply zfr ?_)
     refine⟨ac,eL,eL,zf4,rD,?_⟩;exact⟨v5,eE,.inr ⟨by rw[Y];simp,BY⟩⟩
    by_cases c2:(i:Int)<=g
    .have c1':¬g<0:=c1;repeat' (first
      |(apply ah ?_;clear hK K)|apply Ry.o ?_|(apply bC (fun I U=>?_) (fun I U=>?_)<;>try(cases I;done))|(apply aL (fun o z=>?_) (fun o z=>?_)<;>try(cases o;done))|apply ak ?_|(apply zff fun K hK=>?_)|apply ay ?_|apply zfh ?_|apply ax ?_|apply zfr ?_)
     refine⟨ac,eL,eL,zf4,rD,?_⟩;exact⟨v5,eE,.inr ⟨by rw[Y];simp,BY⟩⟩
    have hb0:(zga l i).getD g.toNat 0=0:=by
     rcases V with h|h|h
     .exact absurd h c1
     .exact absurd h c2
     .exact h
    clear V;obtain⟨m,rfl⟩:=jw (Int.not_lt.1 c1);have C:m<(zga l i).length:=tS;obtain⟨q,hix,hlo⟩:=O.n.at C;have hgk:(zga l i)[m]=0:=by
     rw[gV,dd,aR C]at hb0;exact hb0
    rw[hgk]at hlo;repeat' (first
     |(apply ah ?_;clear hK K)|apply Ry.o ?_|(apply bC (fun I U=>?_) (fun I U=>?_)<;>try(cases I;done))|(apply aL (fun o z=>?_) (fun o z=>?_)<;>try(cases o;done))|apply ak ?_|(apply zff fun K hK=>?_)|apply ay ?_|apply zfh ?_|apply ax ?_|apply zfr ?_)
    refine⟨ac,eL,eL,zf4,rD,?_⟩;exact⟨v5,eE,.inr ⟨by rw[Y];simp,BY⟩⟩
   .have hJn:=hJ.next hgx V
    have c1:¬g<0:=fun h=>V (.inl h);have c2:¬(i:Int)<=g:=fun h=>V (.inr (.inl h));have c3:¬(zga l i).getD g.toNat 0=0:=fun h=>V (.inr (.inr h));clear V J;obtain⟨m,rfl⟩:=jw (Int.not_lt.1 c1);have C:m<(zga l i).length:=tS;obtain⟨q,hix,hlo⟩:=O.n.at C;have hgk:(zga l i).getD (m:Int).toNat 0=(zga l i)[m]:=by
     rw[gV,dd,aR C];rfl
    rw[hgk]at c3 hJn;generalize (zga l i)[m]=x at *;have hwb:fQ (H3.alloc (.cells [.int .i64 x] 0 true)) w s H2.next:=hws.keep (eh _) fun k L=>by rw[zfk,af (by have:=(hws.lt L).2;omega)]
    obtain⟨v5,H5,a5,s5,n5,f5,o5⟩:=xE (r:=H3.next) (imm:=0) x hwb fx kV (by rw[hJ.1];omega);have n5':H3.next<=H5.next:=vu
    have o5':∀k,k<H2.next->H5.get k=H2.get k:=fun k L=>by rw[f5 k L,zfk,af ac,Z k L]
    clear n5 f5 o5 hJ Z O;repeat' (first
     |(apply ah ?_;clear hK K)|apply Ry.o ?_|(apply bC (fun I U=>?_) (fun I U=>?_)<;>try(cases I;done))|(apply aL (fun o z=>?_) (fun o z=>?_)<;>try(cases o;done))|apply ak ?_|(apply zff fun K hK=>?_)|apply ay ?_|apply zfh ?_|apply ax ?_|apply zfr ?_)
    refine⟨ac,eL,eL,zf4,ES,?_⟩;exact⟨v5,s++[x],eE,.inr s5,hJn,eE,o5'⟩
  .have hje:j=n.kids.length:=by omega
   rw[hje]at hJ;have O:po H3 v (zga l i) 0:=hv.keep ac fun k L=>Z k (hv.n.lt L).2;have hs1:=zyO hlt hgi hJ.done;have hok:=zdO hlt hl0 hgi hJ.done;have Y:zga l (i+1)=zga l i++[zfX l n s]:=by rw[zga,hs1]
   repeat' (first
    |(apply ah ?_;clear hK K)|apply Rx.o ?_|(apply bt (fun o z=>?_) (fun o z=>?_)<;>try(cases o;done))|apply ak ?_|(apply zff fun K hK=>?_)|apply ay ?_|apply zfh ?_|apply ax ?_|apply zfr ?_)
   refine aU rfl aV aW ?_;simp only[gL];refine aS ?_ (zdM (fun _=>rfl) rfl hws l n hok);rintro x H4 ⟨rfl,hy⟩;have n4:=hy.next
   have n4':H2.next<=H4.next:=ac
   have hv4:po H4 v (zga l i) 0:=O.keep ac fun k L=>hy.out k (by have:=(hv.n.lt L).2;omega);clear hy n4 hws hJ Z O hs1 hok;dsimp only[zfp];generalize zfX l n s=x at *;have J:fQ (H4.alloc (.cells [.int .i64 x] 0 true)) v (zga l i) 0:=hv4.n.keep (eh _) fun k L=>by rw[zfk,af (by have:=(hv4.n.lt L).2;omega)]
   obtain⟨v5,H5,a5,s5,n5,f5,o5⟩:=xE (r:=H4.next) (imm:=0) x J (dZ _) kV tS;have n5':H2.next<=H5.next:=vu
   clear n5 f5 o5 J;repeat' (first
    |(apply ah ?_;clear hK K)|apply Rx.o ?_|(apply bt (fun o z=>?_) (fun o z=>?_)<;>try(cases o;done))|apply ak ?_|(apply zff fun K hK=>?_)|apply ay ?_|apply zfh ?_|apply ax ?_|apply zfr ?_)
   refine⟨ac,eL,eL,zf4,rD,?_⟩;exact⟨v5,eE,.inr ⟨by rw[Y];simp,BY⟩⟩
 .have hie:i=l.length:=by simp at o;omega
  rw[hie]at hv;repeat' (first
   |(apply ah ?_;clear hK K)|apply Rx.o ?_|(apply bt (fun o z=>?_) (fun o z=>?_)<;>try(cases o;done))|apply ak ?_|(apply zff fun K hK=>?_)|apply ay ?_|apply zfh ?_|apply ax ?_|apply zfr ?_)
  all_goals (refine⟨zfj,_,zfq,?_⟩;try simp only[zfi])
  exact hv.iceV 1)) (Ze 1 _)
end
section
def tySnC.tyF:=ad @ej (ad @cN (ad @eQ (@li)))
open tySnC
noncomputable def B7:{c:SC // aH 45 (Tryz.f67.body.getD .skip)=c}:=by
 refine⟨?_,?_⟩;rotate_left
 .simp only[Tryz.f67,bS,aH,zfO,zfL,zfR,zfS,Nat.blt,Nat.ble];rfl
def uB(x:Nd×Nd):List AV:=[.agg x.1.cells,.agg x.2.cells]
theorem zyP(x y:Nd×Nd)(h:uB x=uB y):x=y:=by
 simp only[uB,eB,AV.agg.injEq,a0]at h;exact sn (Nd.inj h.1) (Nd.inj h.2)
def B8(x:Nd×Nd):Prop:=x.1.kids.length<2^60
theorem zyQ{s w:List Int}(L:s.length=w.length){i:Nat}(I:i<s.length):decide (s.drop i=w.drop i)=(decide (s.getD i 0=w.getD i 0)&&decide (s.drop (i+1)=w.drop (i+1))):=by
 rw[gW I,gW (l:=w) ac];rw[dd,dd,aR I,aR (by omega:i<w.length)];simp only[bS,eB,Bool.decide_and]
theorem zl3(ρ:Nat->Int)(x:Nd×Nd)(hx:B8 x):ce Tryz.prog ρ 67 (uB x) (.bool (decide (x.1=x.2))):=zg3 fit (pls:=pls) (l:=[]) trivial (.cons (.agg (Nd.pure _)) (.cons (.agg (Nd.pure _)) .nil)) (.bool _) (by
 obtain⟨⟨o1,i1,s⟩,⟨o2,i2,w⟩⟩:=x;have Y:=zha 67;unfold B8 at hx;rw[uB];simp only[Nd.cells]at hx⊢;have hd:decide ((⟨o1,i1,s⟩:Nd)=⟨o2,i2,w⟩)=(decide (o1=o2)&&decide (i1=i2)&&decide (s=w)):=by
  simp[Bool.decide_and,tV]
 rw[hd];by_cases j:w.length=s.length
 .clear hd;refine zfz (M:=45) (rs:=[.tmp 4]) (Y.call _) Y.ice Y.froz Tryz.func67 rfl rfl B7.2 rfl ?_;dsimp only[B7,zft,Nat.reduceAdd];repeat' (first
   |(apply ah ?_;clear hK K)|apply Ry.o ?_|(apply bC (fun J Z=>?_) (fun J Z=>?_)<;>try(cases J;done))|(apply aL (fun o z=>?_) (fun o z=>?_)<;>try(cases o;done))|apply ak ?_|(apply zff fun K hK=>?_)|(apply zfm 6 [(1,11),(4,11),(6,11),(9,11)] fun K hK=>?_)|(apply zfx ?_;try intro _)|(apply zfG ?_ ?_<;>clear hK K)|apply br ?_|apply ay ?_|apply zfh ?_|apply ax ?_|apply zfr ?_)
  all_goals first
   |(refine⟨zfj,_,gX,?_⟩;try simp only[zfi]
     simp_all;done)
   |skip
  refine zgs [2,3] [0,1] 5 s.length (fun i E H=>decide (s=w)=decide (s.drop i=w.drop i)) eE au ?_;rintro i E V hi U L I hsI C;(try simp only[zfT,zfB,a0,zfo,zfv,Nat.reduceBEq,Nat.reduceAdd,Nat.reduceLeDiff,tyF, *]at U);(try simp only[zfT,zfB,a0,zfo,zfv,Nat.reduceBEq,Nat.reduceAdd,Nat.reduceLeDiff,tyF, *]at L);(try simp only[zfw,zfI,zgj,b9,Nat.reduceAdd]at I);have hB0:(0 == V.next)=false:=zfN ac;have hC0:(V.next == 0)=false:=zfN ac;have hB1:(1 == V.next)=false:=zfN ac;have hC1:(V.next == 1)=false:=zfN ac;repeat' (first
   |(apply ah ?_;clear hK K)|apply Rx.o ?_|(apply bt (fun o z=>?_) (fun o z=>?_)<;>try(cases o;done))|apply ak ?_|(apply zff fun K hK=>?_)|(apply zfm 6 [(1,11),(4,11),(6,11),(9,11)] fun K hK=>?_)|(apply zfx ?_;try intro _)|(apply zfG ?_ ?_<;>clear hK K)|apply br ?_|apply ay ?_|apply zfh ?_|apply ax ?_|apply zfr ?_)
  .have O:i<s.length:=by simpa using o
   have g:s[i]?=some s[i]:=aR O;have hgy:w[i]?=some (w[i]' ac):=aR ac;have m:=zyQ j.symm O;rw[dd,dd,g,hgy]at m;simp only[bS]at m;generalize s[i]=x at *;generalize w[i]' ac=y at *;repeat' (first
    |(apply ah ?_;clear hK K)|apply Rx.o ?_|(apply bt (fun o z=>?_) (fun o z=>?_)<;>try(cases o;done))|apply ak ?_|(apply zff fun K hK=>?_)|(apply zfm 6 [(1,11),(4,11),(6,11),(9,11)] fun K hK=>?_)|(apply zfx ?_;try intro _)|(apply zfG ?_ ?_<;>clear hK K)|apply br ?_|apply ay ?_|apply zfh ?_|apply ax ?_|apply zfr ?_)
   .exact zf6
   .all_goals (refine⟨zfj,_,zfq,?_⟩;try simp only[zfi])
    rw[C,m];simp_all
   .refine⟨ac,eL,eL,zf4,Aq,?_⟩;rw[C,m];simp_all
  .repeat' (first
    |(apply ah ?_;clear hK K)|apply Rx.o ?_|(apply bt (fun o z=>?_) (fun o z=>?_)<;>try(cases o;done))|apply ak ?_|(apply zff fun K hK=>?_)|(apply zfm 6 [(1,11),(4,11),(6,11),(9,11)] fun K hK=>?_)|(apply zfx ?_;try intro _)|(apply zfG ?_ ?_<;>clear hK K)|apply br ?_|apply ay ?_|apply zfh ?_|apply ax ?_|apply zfr ?_)
   all_goals (refine⟨zfj,_,zfq,?_⟩;try simp only[zfi])
   rw[C,show i=s.length by simp at o;omega,nI,<-j,nI];simp_all
 .have hne:¬s=w:=fun e=>j nD;have hl2:¬(s.length:Int)=w.length:=ac;clear hd;refine zfz (M:=45) (rs:=[.tmp 4]) (Y.call _) Y.ice Y.froz Tryz.func67 rfl rfl B7.2 rfl ?_;dsimp only[B7,zft,Nat.reduceAdd];repeat' (first
   |(apply ah ?_;clear hK K)|apply Ry.o ?_|(apply bC (fun J Z=>?_) (fun J Z=>?_)<;>try(cases J;done))|(apply aL (fun o z=>?_) (fun o z=>?_)<;>try(cases o;done))|apply ak ?_|(apply zff fun K hK=>?_)|(apply zfm 6 [(1,11),(4,11),(6,11),(9,11)] fun K hK=>?_)|(apply zfx ?_;try intro _)|(apply zfG ?_ ?_<;>clear hK K)|apply br ?_|apply ay ?_|apply zfh ?_|apply ax ?_|apply zfr ?_)
  all_goals
   refine⟨zfj,_,gX,?_⟩;try simp only[zfi]
   rw[d6 hne,p7])
noncomputable def FW:En:=⟨67,false,dc B8 uB fun x=>.bool (decide (x.1=x.2))⟩
theorem zyR(ρ:Nat->Int):zgE Tryz.prog ρ FW:=zgO fun x C=>zl3 ρ x C
theorem zdV{l:List En}(L:∀C,zgw l 67 C=FW.sp C)(a b:Nd)(h:a.kids.length<2^60)(H:Hp):zfs Tryz.prog (zfn pls l) 67 [.agg a.cells,.agg b.cells] H fun v H'=>v=.bool (decide (a=b))/\H'=H:=
 zgL (enc:=uB) (ok:=B8) (out:=fun x=>.bool (decide (x.1=x.2))) zyP (x:=(a,b)) (L _) h
end
section
namespace tyK5
end tyK5
open tyK5
noncomputable def yF:En:=⟨13,true,dc kK t4 fun l=>gg (zga l l.length)⟩
theorem NR(ρ:Nat->Int):zgE Tryz.prog ρ yF:=zgO fun l L=>zpu ρ l L
theorem NS{i:List En}(Z:∀C,zgw i 13 C=yF.sp C)(l:List Nd)(L:kK l)(H:Hp):zfs Tryz.prog (zfn pls i) 13 [iI l] H fun v H'=>v=gg (zga l l.length)/\H'=H:=
 zgL (enc:=t4) (ok:=kK) (out:=fun l=>gg (zga l l.length)) JE (x:=l) (Z _) L
end
section
def tyK9.tyF:=ad @cN (ad @iD (ad @eQ (ad @li (ad @ej (ad @tJ (ad @xr (@Eh)))))))
open tyK9
noncomputable def vZ:{c:SC // aH 21 (Tryz.f15.body.getD .skip)=c}:=by
 refine⟨?_,?_⟩;rotate_left
 .simp only[Tryz.f15,bS,aH,zfO,zfL,zfR,zfS,Nat.blt,Nat.ble];rfl
theorem zrQ(ρ:Nat->Int)(x:List Nd×Int)(C:kK x.1):ce Tryz.prog ρ 15 (pw x) (.int .i64 (zgu x.1 x.2)):=zg3 fit (pls:=pls) (l:=[yF]) ⟨NR ρ,trivial⟩ (.cons (vn _) (.cons (.int _ _) .nil)) (.int _ _) (by
 obtain⟨l,i⟩:=x;simp only[]at C;have V:=C.1;have Y:Plain (zfn pls [yF]) 15:=zgK (fun _=>rfl) rfl;rw[pw];simp only[];by_cases c1:i<0
 .refine zfz (M:=21) (rs:=[.tmp 4]) (Y.call _) Y.ice Y.froz Tryz.func15 rfl rfl vZ.2 rfl ?_;dsimp only[vZ,zft,Nat.reduceAdd];repeat' (first
   |(apply ah ?_;clear hK K)|apply Ry.o ?_|(apply bC (fun J z=>?_) (fun J z=>?_)<;>try(cases J;done))|(apply aL (fun o Z=>?_) (fun o Z=>?_)<;>try(cases o;done))|apply ak ?_|(apply zff fun K hK=>?_)|apply zfh ?_|apply ax ?_)
  all_goals (refine⟨zfj,_,zfq,?_⟩;try simp only[zfi])
  rw[zgu,aq (.inl c1)]
 by_cases U:(l.length:Int)<=i
 .refine zfz (M:=21) (rs:=[.tmp 4]) (Y.call _) Y.ice Y.froz Tryz.func15 rfl rfl vZ.2 rfl ?_;dsimp only[vZ,zft,Nat.reduceAdd];repeat' (first
   |(apply ah ?_;clear hK K)|apply Ry.o ?_|(apply bC (fun J z=>?_) (fun J z=>?_)<;>try(cases J;done))|(apply aL (fun o Z=>?_) (fun o Z=>?_)<;>try(cases o;done))|apply ak ?_|(apply zff fun K hK=>?_)|apply zfh ?_|apply ax ?_)
  all_goals (refine⟨zfj,_,zfq,?_⟩;try simp only[zfi])
  rw[zgu,aq (.inr U)]
 obtain⟨m,rfl⟩:=jw (Int.not_lt.1 c1);have j:m<l.length:=ac;have g:IntKind.wrap .i64 ((m:Int)+1)=((m+1:Nat):Int):=zhb ac ac;have O:=ZE l (m+1) ac;have L:(l.take (m+1)).length=m+1:=rY;have I:(zga (l.take (m+1)) (m+1))[m]?=some (zgu l m):=by
  rw[zgu,af ac,gV,dd,aR tS];rfl
 refine zfz (M:=21) (rs:=[.tmp 4]) (Y.call _) Y.ice Y.froz Tryz.func15 rfl rfl vZ.2 rfl ?_;dsimp only[vZ,zft,Nat.reduceAdd];repeat' (first
  |(apply ah ?_;clear hK K)|apply Ry.o ?_|(apply d4 ?_;first|refine Rx.k (NS (fun _=>rfl) _ (C.take _) _) ?_)|(apply bC (fun J z=>?_) (fun J z=>?_)<;>try(cases J;done))|(apply aL (fun o Z=>?_) (fun o Z=>?_)<;>try(cases o;done))|apply ak ?_|(apply zff fun K hK=>?_)|apply zfh ?_|apply ax ?_)
 all_goals (refine⟨zfj,_,zfq,?_⟩;try simp only[zfi]))
noncomputable def FX:En:=⟨15,true,dc (fun x=>kK x.1) pw fun x=>.int .i64 (zgu x.1 x.2)⟩
theorem zyS(ρ:Nat->Int):zgE Tryz.prog ρ FX:=zgO fun x C=>zrQ ρ x C
theorem zdY{Z:List En}(Y:∀C,zgw Z 15 C=FX.sp C)(l:List Nd)(i:Int)(L:kK l)(H:Hp):zfs Tryz.prog (zfn pls Z) 15 [iI l,.int .i64 i] H fun v H'=>v=.int .i64 (zgu l i)/\H'=H:=
 zgL (enc:=pw) (ok:=fun x=>kK x.1) (out:=fun x=>.int .i64 (zgu x.1 x.2)) JF (x:=(l,i)) (Y _) L
end
section
def tyVdC.tyF:=ad @ej (ad @cN (ad @iD (ad @eQ (ad @li (@pS)))))
open tyVdC
noncomputable def NT:{c:SC // aH 34 (Tryz.f82.body.getD .skip)=c}:=by
 refine⟨?_,?_⟩;rotate_left
 .simp only[Tryz.f82,bS,aH,zfO,zfL,zfR,zfS,Nat.blt,Nat.ble];rfl
theorem zyT(ρ:Nat->Int)(x:List Nd×Int)(hx:kK x.1):ce Tryz.prog ρ 82 (pw x) (.int .i64 (jn x.1 x.2)):=zg3 fit (pls:=pls) (l:=[]) trivial (.cons (vn _) (.cons (.int _ _) .nil)) (.int _ _) (by
 obtain⟨l,m⟩:=x;simp only[]at hx;obtain⟨hl1,j⟩:=hx;have g:=zha 82;have q2:(2:Int)≠0:=aD;rw[pw];simp only[];refine zfz (M:=34) (rs:=[.tmp 4]) (g.call _) g.ice g.froz Tryz.func82 rfl rfl NT.2 rfl ?_;dsimp only[NT,zft,Nat.reduceAdd];repeat' (first
  |(apply ah ?_;clear hK K)|apply Rx.o ?_|apply ak ?_|(apply zff fun K hK=>?_)|apply ay ?_|apply zfh ?_|apply ax ?_|apply zfr ?_)
 refine zgs [0,1] [] 5 l.length (fun i E H=>jn (l.drop i) m=jn l m) eE rfl ?_;rintro i E Hi hi L I C hsI U;(try simp only[zfT,zfB,a0,zfo,zfv,Nat.reduceBEq,Nat.reduceAdd,Nat.reduceLeDiff,tyF, *]at L);(try simp only[zfT,zfB,a0,zfo,zfv,Nat.reduceBEq,Nat.reduceAdd,Nat.reduceLeDiff,tyF, *]at I);(try simp only[zfw,zfI,zgj,b9,Nat.reduceAdd]at C);by_cases O:i<l.length
 .have Y:(i:Int)<l.length:=by omega
  have hgx:l[i]?=some l[i]:=aR O;have hnk:=j _ (dI O);have hd:jn (l.drop i) m=if l[i].op=31/\l[i].imm=m then (l[i].kids.length:Int).tdiv 2 else jn (l.drop (i+1)) m:=by rw[gW O,jn]
  rw[U]at hd;clear U;generalize l[i]=n at *;have e1:IntKind.wrap .i64 ((n.kids.length:Int).tdiv 2)=(n.kids.length:Int).tdiv 2:=by
   rw[mo ac];exact zhb ac ac
  by_cases V:n.op=31
  .by_cases hm:n.imm=m
   .rw[aq ⟨V,hm⟩]at hd;repeat' (first
     |(apply ah ?_;clear hK K)|apply Ry.o ?_|(apply bC (fun J z=>?_) (fun J z=>?_)<;>try(cases J;done))|(apply aL (fun o Z=>?_) (fun o Z=>?_)<;>try(cases o;done))|apply ak ?_|(apply zff fun K hK=>?_)|apply ay ?_|apply zfh ?_|apply ax ?_|apply zfr ?_)
    all_goals (refine⟨zfj,_,zfq,?_⟩;try simp only[zfi])
    rw[hd]
   .rw[af (fun c=>hm c.2)]at hd;repeat' (first
     |(apply ah ?_;clear hK K)|apply Ry.o ?_|(apply bC (fun J z=>?_) (fun J z=>?_)<;>try(cases J;done))|(apply aL (fun o Z=>?_) (fun o Z=>?_)<;>try(cases o;done))|apply ak ?_|(apply zff fun K hK=>?_)|apply ay ?_|apply zfh ?_|apply ax ?_|apply zfr ?_)
    refine⟨ac,eL,eL,zf4,rD,?_⟩;exact hd.symm
  .rw[af (fun c=>V c.1)]at hd;repeat' (first
    |(apply ah ?_;clear hK K)|apply Ry.o ?_|(apply bC (fun J z=>?_) (fun J z=>?_)<;>try(cases J;done))|(apply aL (fun o Z=>?_) (fun o Z=>?_)<;>try(cases o;done))|apply ak ?_|(apply zff fun K hK=>?_)|apply ay ?_|apply zfh ?_|apply ax ?_|apply zfr ?_)
   refine⟨ac,eL,eL,zf4,rD,?_⟩;exact hd.symm
 .have Y:¬(i:Int)<l.length:=by omega
  rw[qq ac]at U;repeat' (first
   |(apply ah ?_;clear hK K)|apply Ry.o ?_|(apply bC (fun J z=>?_) (fun J z=>?_)<;>try(cases J;done))|(apply aL (fun o Z=>?_) (fun o Z=>?_)<;>try(cases o;done))|apply ak ?_|(apply zff fun K hK=>?_)|apply ay ?_|apply zfh ?_|apply ax ?_|apply zfr ?_)
  all_goals (refine⟨zfj,_,zfq,?_⟩;try simp only[zfi])
  rw[<-U];rfl)
noncomputable def NU:En:=⟨82,false,dc (fun x=>kK x.1) pw fun x=>.int .i64 (jn x.1 x.2)⟩
theorem zyU(ρ:Nat->Int):zgE Tryz.prog ρ NU:=zgO fun x C=>zyT ρ x C
noncomputable def NV:En:=⟨83,false,dc FP t4 fun l=>BW (zhc l l.length)⟩
theorem zyV(ρ:Nat->Int):zgE Tryz.prog ρ NV:=zgO fun l L=>zrL ρ l L
noncomputable def s9:List En:=[Et,yF,FW,NU,FX,NV]
theorem zuM(ρ:Nat->Int):iF Tryz.prog ρ s9:=⟨JP ρ,NR ρ,zyR ρ,zyU ρ,zyS ρ,zyV ρ,trivial⟩
def FY(x:VgX):Prop:=Z8 x/\x.g.name.length<2^60/\∀n∈x.g.nodes,NdR n
def mF(u:Un)(g:Gr):Bool:=zf7 g.name&&kQ u g
def nW(t:List Int):List Bool:=t.map fun x=>decide (0<x)
theorem zrR{t:List Int}{m:Nat}(h:t.length=16)(V:m<16):(nW t).getD m false=decide (0<t.getD m 0):=by
 rw[nW,dd,fT,dd,aR ac];rfl
theorem zrS{t:List Int}{m:Nat}{v:Int}(U:0<v):(nW t).set m true=nW (t.set m v):=by
 rw[nW,nW,List.map_set,dt U]
theorem zd5:jc (fun _=>false)=nW (List.replicate 16 0):=aD
theorem FZ{u:Un}{g:Gr}(h:kQ u g=true):(0<=g.params/\g.params<=6)/\(g.nodes.length:Int)<=2000:=by
 unfold kQ at h;simp only[iX]at h;exact h.1.1.1
theorem NW{u:Un}{g:Gr}(h:kQ u g=true){i:Nat}{n:Nd}(z:g.nodes[i]?=some n):zgu g.nodes i≠0/\jY u g n=true:=by
 unfold kQ at h;simp only[co]at h;have I:i<g.nodes.length:=by
  by_cases c:i<g.nodes.length
  .exact c
  .rw[gI ac]at z;cases z
 have:=gF.1 h.1.1.2 i (kZ.2 I);rw[vt,z,co,iB]at this;exact this
theorem yG{u:Un}{g:Gr}(h:kQ u g=true):sJ g.nodes=true/\zhV g.nodes=true/\zgu g.nodes g.value=1/\zgu g.nodes g.state=2/\zhk g.nodes g.value=0/\zhk g.nodes g.state=0:=by
 unfold kQ at h;simp only[iX]at h;obtain⟨⟨_,⟨⟨⟨⟨⟨C,K⟩,_⟩,_⟩,_⟩,_⟩⟩,⟨⟨M,Z⟩,I⟩,Y⟩:=h;exact⟨C,K,M,Z,I,Y⟩
theorem B9{l:List Nd}{i:Int}(h:zgu l i≠0):0<=i/\i<l.length:=by
 by_cases c:i<0\/(l.length:Int)<=i
 .exact absurd (by rw[zgu,aq c]) h
 .omega
theorem zd6{u:Un}{g:Gr}(M:0<=g.params)(h1:g.params<=6)(h2:(g.nodes.length:Int)<=2000)(m:∀(i:Nat) (n:Nd),g.nodes[i]?=some n->zgu g.nodes i≠0/\jY u g n=true)(O:sJ g.nodes=true)(K:zhV g.nodes=true)
 (z:zgu g.nodes g.value=1) (I:zgu g.nodes g.state=2) (Z:zhk g.nodes g.value=0) (J:zhk g.nodes g.state=0):kQ u g=true:=by
 obtain⟨V,U⟩:=B9 (l:=g.nodes) (i:=g.value) (by rw[z];decide);obtain⟨L,C⟩:=B9 (l:=g.nodes) (i:=g.state) (by rw[I];decide);have hr:((List.range g.nodes.length).all (vt u g))=true:=gF.2 fun j Y=>by
  have Y:=kZ.1 Y;obtain⟨a,b⟩:=m j _ (aR Y);rw[vt,aR Y];simp only[dt a,b,uW]
 unfold kQ;rw[hr,O,K,z,I,Z,J,dt M,dt h1,dt h2,dt V,dt U,dt L,dt C];rfl
theorem zrT{u:Un}{g:Gr}(h:¬(zf7 g.name=true/\kQ u g=true)):mF u g=false:=by
 unfold mF;cases a:zf7 g.name<;>cases b:kQ u g<;>simp_all
theorem zrU{l:List Nd}(h:∀(i:Nat) (n:Nd),l[i]?=some n->zgu l i≠0):(∀(i:Nat) (n:Nd),l[i]?=some n->NdOk n i)/\∀n∈l,(n.op=31->LoopOk n)/\(n.op=3->0<=n.imm/\n.imm<=255)/\(n.op=30->0<=n.imm):=by
 refine⟨fun i n z=>(Ka z (h i n z)).1,fun n z=>?_⟩;obtain⟨j,Y,e⟩:=tp z;have J:l[j]?=some n:=by rw[aR Y,e]
 obtain⟨a,b,c⟩:=Ka J (h j n J);refine⟨fun e=>?_,a.lv,fun e=>(b e).1⟩;obtain⟨Z,I,V,U⟩:=a.lp e;exact⟨Z,I,V,U⟩
theorem zuO{l:List Nd}(h:∀(j:Nat) (n:Nd),l[j]?=some n->∀(k:Nat) (m:Nd),k<j->l[k]?=some m->m≠n):l.Nodup:=by
 refine B0.2 fun i j I Y g e=>?_;exact h j _ (aR Y) i _ g (aR I) e
theorem zuP{l:List Nd}(h:l.Nodup){i j:Nat}{n m:Nd}(g:i<j)(I:l[i]?=some m)(Y:l[j]?=some n):m≠n:=by
 have O:j<l.length:=by
  by_cases c:j<l.length
  .exact c
  .rw[gI ac]at Y;cases Y
 have U:i<l.length:=ac;rw[aR U,az]at I;rw[aR O,az]at Y;rw[<-I,<-Y];exact B0.1 h i j U O g
end
end Go.Proofs.YtpbcimfiofmoeaaGreat
