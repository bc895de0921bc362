/- Parts: SpecT, Rg, G1, G2, G2r, G2s, G2p, RowN, NdM, LoA, LoB, LoC, LoD. -/
import Derived.Test.YtpbcimfiofmoeaaGreatPCI
set_option linter.unusedSimpArgs false
set_option linter.unusedVariables false
set_option linter.unusedSectionVars false
set_option linter.defProp false
set_option maxHeartbeats 32000000
namespace Go.Ab
set_option maxRecDepth 20000
open Go
theorem A4{P:Prop}(h:P:=by rw[Z.s];decide):P:=h
theorem A5{P:Prop}(h:P:=by rw[K.s];decide):P:=h
theorem gm{P:Prop}(h:P:=by first|rfl|trivial):P:=h
theorem rA{P:Prop}(h:P:=by rw[Hp.get_set,if_neg j]):P:=h
theorem Kv{P:Prop}(h:P:=by rw[List.drop_zero,List.length_take];omega):P:=h
theorem Kw{P:Prop}(h:P:=by rw[List.flatten_append,List.length_append];omega):P:=h
theorem Ba{P:Prop}(h:P:=by unfold sQ;(repeat' split)<;>omega):P:=h
theorem EN{P:Prop}(h:P:=by have:=h.sS k j;omega):P:=h
theorem fx{P:Prop}(h:P:=by simp only[zfw];omega):P:=h
theorem vu{P:Prop}(h:P:=by simp only[zfw]at n5;omega):P:=h
theorem Kx{P:Prop}(h:P:=by simp only[List.all_cons,List.all_nil,hone];rfl):P:=h
theorem fC{P:Prop}(h:P:=by simp only[zfI];omega):P:=h
theorem mB{P:Prop}(h:P:=by simp only[zfw,zfI];omega):P:=h
theorem Bb{P:Prop}(h:P:=by rw[List.length_map,show zg1=70368744177664 from rfl];omega):P:=h
theorem xU{P:Prop}(h:P:=by have:=(Y.sS _ e).1;omega):P:=h
theorem nP{P:Prop}(h:P:=by rw[Hp.get_set,if_neg ac,zfk,if_neg ac]):P:=h
theorem EO{P:Prop}(h:P:=by rw[J _ ac];exact h.a):P:=h
theorem EP{P:Prop}(h:P:=by rw[J _ ac];exact h.f):P:=h
theorem EQ{P:Prop}(h:P:=by rw[J _ ac];exact h.t):P:=h
theorem ER{P:Prop}(h:P:=by rw[J _ ac];exact h.n):P:=h
theorem ES{P:Prop}(h:P:=by simp only[zfo,Nat.reduceBEq, *];exact zhp (n:=n.kids.length) ac ac):P:=h
theorem xV{P:Prop}(h:P:=by rw[zfk,if_pos dR]):P:=h
def Ky:=@List.not_mem_nil
def zaj:=@or_false
def uj:=@Int.tmod_lt_of_pos
def Bc:=@List.all_append
def Kz:=@List.flatMap_nil
def zak:=And.intro @eP.{0} @Ky.{0}
def ly:=And.intro zak @zaj
end Go.Ab
namespace Go.Proofs.YtpbcimfiofmoeaaGreat
set_option maxRecDepth 20000
open Go Go.Ab
section
def fd(l:List Nd)(n:Nd):Int:=match zgY l.length (zga l l.length) n.kids with
 |none=>0
 |some s=>if zfY n.op s&&zf2 l n then zgr n s else 0
theorem ztN{op:Int}{s:List Int}(h:zfY op s=true)(e:op=25):s.length=1:=by
 subst e;unfold zfY at h;have:bK 25=(1,true):=aD;rw[this]at h;simp only[l7,cS]at h;split at h
 .cases h
 .omega
theorem KA(l:List Nd)(n:Nd):zgu (l++[n]) l.length=fd l n:=by
 rw[vm au];have C:(l++[n]).take l.length=l:=List.take_left;have K:zga (l++[n]) l.length=zga l l.length:=by
  have:=Eb (l:=l++[n]) (m:=l.length) (i:=l.length) (aE _);rw[C]at this;exact this.symm
 have z:(l++[n])[l.length]?=some n:=by rw[l0 (aE _),qS];rfl
 unfold i9 fd;rw[K,z];simp only;cases j:zgY l.length (zga l l.length) n.kids with
 |none=>rfl
 |some s=>
  simp only;by_cases c:zfY n.op s=true
  .have e:zf2 l n=zf2 (l++[n]) n:=by
    have:=Ju (l:=l++[n]) (m:=l.length) (n:=n) fun Z=>by
     have L:=ss j;have V:=ztN c Z;cases Y:n.kids with
     |nil=>rw[Y,V]at L;simp at L
     |cons k U=>
      refine⟨k,U,rfl,?_⟩;have:=rk j k (by rw[Y];exact dJ);omega
    rw[C]at this;exact this
   rw[e]
  .have g:zfY n.op s=false:=by simpa using c
   rw[g,eJ,eJ]
theorem KB{l:List Nd}:∀{V:List Int},(∀k∈V,0<=k/\k<l.length/\zgu l k≠0)->zgY l.length (zga l l.length) V=some (V.map (zgu l))
 |[],_=>rfl
 |k::V,h=>by
  obtain⟨Z,g,m⟩:=h k dJ;obtain⟨k,rfl⟩:=jw Z;have e:=Az (l:=l) (i:=l.length) (j:=k) ac (aE _);rw[zgY,gV,e,af ac,KB fun q L=>h q (dO _ L)];rfl
theorem mC{l:List Nd}{n:Nd}(h:∀k∈n.kids,0<=k/\k<l.length/\zgu l k≠0):fd l n=if zfY n.op (n.kids.map (zgu l))&&zf2 l n then zgr n (n.kids.map (zgu l))else 0:=by
 unfold fd;rw[KB h]
structure IsT (l:List Nd) (t:Int) (k:Int):Prop where
 lo:0<=k
 hi:k<l.length
 s:zgu l k=t
theorem IsT.le{l g:List Nd}{t k:Int}(h:IsT l t k)(L:l<+:g):IsT g t k:=by
 obtain⟨m,rfl⟩:=L;obtain⟨i,Y,Z⟩:=h;obtain⟨k,rfl⟩:=jw i;exact⟨i,by rw[fG];omega,by rw[Jv ac];exact Z⟩
section
variable {l:List Nd}
theorem KC(n:Int):fd l ⟨1,n,[]⟩=1:=by
 rw[mC au];simp[zfY,bK,el,zgh,zf2,zgr]
theorem KD{n:Int}(M:0<=n)(h1:n<=5):fd l ⟨2,n,[]⟩=1:=by
 rw[mC au];simp[zfY,bK,el,zgh,zf2,zgt,zgr,M,h1]
theorem Be{n:Int}(M:0<=n)(h1:n<=255):fd l ⟨3,n,[]⟩=if n.tmod 16=0 then 2 else 1:=by
 rw[mC au];simp[zfY,bK,el,zgh,zf2,zgt,zgr,M,h1]
theorem KE:fd l ⟨26,0,[]⟩=2:=by
 rw[mC au];simp[zfY,bK,el,zgh,zf2,zgt,zgr]
theorem KF{op a b:Int}(o:IsT l 1 a)(Z:IsT l 1 b)(M:4<=op)(h1:op<=19):fd l ⟨op,0,[a,b]⟩=1:=by
 have q:∀k:Int,(k<4\/19<k)->¬op=k:=fun k j e=>ac;have Y:bK op=(2,true):=by
  unfold bK;rw[af ac,af ac,af ac,af ac,af ac,aq ⟨M,h1⟩]
 rw[mC (fun k j=>by
  simp only[ly]at j;rcases j with rfl|rfl
  .exact⟨o.lo,o.hi,by rw[o.s];decide⟩
  .exact⟨Z.lo,Z.hi,A4⟩)]
 simp only[dE,p8,o.s,Z.s];have v:zfY op [1,1]=true:=by
  unfold zfY;rw[Y,af au,af au,af (q 31 ac),af (q 30 ac),af (fun h=>q 22 ac h.1)];unfold el;rw[af (q 22 ac),af (by have:=q 23 ac;have:=q 27 ac;have:=q 29 ac;omega),af (q 28 ac),af (q 24 ac),af (q 25 ac)];rfl
 have i:zf2 l ⟨op,0,[a,b]⟩=true:=by
  unfold zf2 zgt;simp only[];rw[af (q 1 ac),af (q 27 ac),af (q 2 ac),af (q 3 ac),af (by have:=q 23 ac;have:=q 28 ac;omega),af (q 30 ac),af (q 31 ac),af (q 25 ac)];rfl
 rw[v,i];simp only[uW,cV];unfold zgr;simp only[];rw[af (q 31 ac),af ac,af (q 22 ac),af (fun h=>q 3 ac h.1),af (fun h=>q 25 ac h.1)]
theorem KG{op a:Int}(o:IsT l 1 a)(M:op=20\/op=21):fd l ⟨op,0,[a]⟩=1:=by
 rw[mC (fun k j=>by
  simp only[ly]at j;subst j;exact⟨o.lo,o.hi,by rw[o.s];decide⟩)]
 simp only[dE,p8,o.s];rcases M with rfl|rfl<;>simp[zfY,bK,el,zgh,zf2,zgt,zgr]
theorem KH{t c a b:Int}(Z:IsT l 1 c)(o:IsT l t a)(Y:IsT l t b)(C:t=1\/t=2):fd l ⟨22,0,[c,a,b]⟩=t:=by
 rw[mC (fun k j=>by
  simp only[ly]at j;rcases j with rfl|rfl|rfl
  .exact⟨Z.lo,Z.hi,A4⟩
  .exact⟨o.lo,o.hi,by rw[o.s];omega⟩
  .exact⟨Y.lo,Y.hi,by rw[Y.s];omega⟩)]
 simp only[dE,p8,o.s,Y.s,Z.s];rcases C with rfl|rfl<;>simp[zfY,bK,el,zgh,zf2,zgt,zgr]
theorem ET{x y a b:Int}(C:x≠0)(U:y≠0)(o:IsT l x a)(Z:IsT l y b):∀k∈[a,b],0<=k/\k<l.length/\zgu l k≠0:=fun k j=>by
 simp only[ly]at j;rcases j with rfl|rfl
 .exact⟨o.lo,o.hi,by rw[o.s];exact C⟩
 .exact⟨Z.lo,Z.hi,by rw[Z.s];exact U⟩
theorem KI{n s a:Int}(K:IsT l 2 s)(o:IsT l 1 a)(M:0<=n)(h1:n<=3):fd l ⟨23,n,[s,a]⟩=1:=by
 rw[mC (ET aD aD K o)];simp[K.s,o.s,zfY,bK,el,zgh,zf2,zgt,zgr,M,h1]
theorem KJ{n s a:Int}(K:IsT l 2 s)(o:IsT l 1 a)(M:1<=n)(h1:n<=1000016):fd l ⟨27,n,[s,a]⟩=2:=by
 rw[mC (ET aD aD K o)];simp[K.s,o.s,zfY,bK,el,zgh,zf2,zgr,M,h1]
theorem KK{s a:Int}(K:IsT l 2 s)(o:IsT l 1 a):fd l ⟨29,0,[s,a]⟩=2:=by
 rw[mC (ET aD aD K o)];simp[K.s,o.s,zfY,bK,el,zgh,zf2,zgt,zgr]
theorem KL{n s a b:Int}(K:IsT l 2 s)(o:IsT l 1 a)(Z:IsT l 1 b)(M:0<=n)(h1:n<=3):fd l ⟨28,n,[s,a,b]⟩=2:=by
 rw[mC (fun k j=>by
  simp only[ly]at j;rcases j with rfl|rfl|rfl
  .exact⟨K.lo,K.hi,A5⟩
  .exact⟨o.lo,o.hi,by rw[o.s];decide⟩
  .exact⟨Z.lo,Z.hi,A4⟩)]
 simp[K.s,o.s,Z.s,zfY,bK,el,zgh,zf2,zgt,zgr,M,h1]
theorem KM{s:Int}(K:IsT l 2 s):fd l ⟨24,0,[s]⟩=1:=by
 rw[mC (fun k j=>by
  simp only[ly]at j;subst j;exact⟨K.lo,K.hi,A5⟩)]
 simp[K.s,zfY,bK,el,zgh,zf2,zgt,zgr]
theorem Bf:∀{V:List Int},(∀a∈V,IsT l 1 a)->V.map (zgu l)=List.replicate V.length 1
 |[],_=>rfl
 |a::V,h=>by
  rw[dE,(h a dJ).s,Bf fun x C=>h x (dO _ C)];rfl
theorem KN{n s:Int}{V:List Int}(K:IsT l 2 s)(o:∀a∈V,IsT l 1 a)(L:V.length<=6)(M:0<=n)(h1:n<=7):fd l ⟨30,n,s::V⟩=2:=by
 rw[mC (fun k j=>by
  rcases eP.1 j with rfl|j
  .exact⟨K.lo,K.hi,A5⟩
  .exact⟨(o k j).lo,(o k j).hi,by rw[(o k j).s];decide⟩)]
 simp only[dE,K.s,Bf o];have v:zfY 30 (2::List.replicate V.length 1)=true:=by
  have a:bK 30=(-1,true):=aD;unfold zfY;rw[a];simp only[l7,cS];rw[af ac,af ac,aq trivial];simp only[dg,pZ,tT,List.tail_cons,iX];refine⟨⟨⟨ac,ac⟩,trivial⟩,?_⟩;rw[gF];intro x C;rw[At C];rfl
 have i:zf2 l ⟨30,n,s::V⟩=true:=by simp[zf2,zgt,M,h1]
 rw[v,i];simp[zgr]
theorem KO{n s d st:Int}{V bs:List Int}(K:IsT l 2 s)(o:∀a∈V,IsT l 1 a)(hd:IsT l 1 d)(g:IsT l 2 st)(U:∀a∈bs,IsT l 1 a)(O:V.length=bs.length)(M:V.length<=15)(J:0<=n)(h1:n<=15):fd l ⟨31,n,s::V++[d,st]++bs⟩=3:=by
 rw[mC (fun k Z=>by
  simp only[pM,ly]at Z;rcases Z with((rfl|Z)|rfl|rfl)|Z
  .exact⟨K.lo,K.hi,A5⟩
  .exact⟨(o k Z).lo,(o k Z).hi,by rw[(o k Z).s];decide⟩
  .exact⟨hd.lo,hd.hi,by rw[hd.s];decide⟩
  .exact⟨g.lo,g.hi,by rw[g.s];decide⟩
  .exact⟨(U k Z).lo,(U k Z).hi,by rw[(U k Z).s];decide⟩)]
 have I:(s::V++[d,st]++bs).map (zgu l)=2::(List.replicate V.length 1++1::2::List.replicate V.length 1):=by
  simp only[r0,dE,p8,K.s,hd.s,g.s,Bf o,Bf U,O];simp
 simp only[];rw[I];generalize hn:V.length=m at *;have L:(2::(List.replicate m (1:Int)++1::2::List.replicate m 1)).length=2*m+3:=cC;have v:zfY 31 (2::(List.replicate m 1++1::2::List.replicate m 1))=true:=by
  have a:bK 31=(-1,true):=aD;unfold zfY;rw[a];simp only[l7,cS];rw[af ac,aq trivial];have Y:=Jx (2::(List.replicate m (1:Int)++1::2::List.replicate m 1)) ac ac;have z:(2*m+3)/2=m+1:=ac;rw[L]at Y⊢;rw[Y,z];have j:∀k,zgx (List.replicate k (1:Int))=true:=fun k=>by
   rw[zgx,gF];intro x C;rw[At C];rfl
  have h1:((2::(List.replicate m (1:Int)++1::2::List.replicate m 1)).drop 1).take (m+1)=List.replicate (m+1) 1:=by
   rw[va,fo,List.take_append,pZ,fN au,show m+1-m=1 by omega];rw[List.replicate_succ'];rfl
  have h2:(2::(List.replicate m (1:Int)++1::2::List.replicate m 1)).getD (m+1+1) 0=2:=by
   rw[List.getD_cons_succ,dd,l0 au,pZ,show m+1-m=1 by omega];rfl
  have h3:(2::(List.replicate m (1:Int)++1::2::List.replicate m 1)).drop (m+1+2)=List.replicate m 1:=by
   rw[va,List.drop_append,pZ,Cp au,oo,show m+1+1-m=2 by omega];rfl
  rw[h1,h2,h3,j,j];have e4:fu (((2*m+3:Nat):Nat):Int)<=16:=xy;simp only[tT,iX];refine⟨⟨⟨ac,ac⟩,e4⟩,⟨⟨⟨trivial,trivial⟩,trivial⟩,trivial⟩⟩
 have i:zf2 l ⟨31,n,s::V++[d,st]++bs⟩=true:=by simp[zf2,zgt,J,h1]
 rw[v,i];simp[zgr]
theorem Bg{n k:Int}{q:Nd}(Z:IsT l 3 k)(L:l[k.toNat]?=some q)(M:0<=n)(h1:n<fu q.kids.length):fd l ⟨25,n,[k]⟩=if n=0 then 2 else 1:=by
 rw[mC (fun j Y=>by
  simp only[ly]at Y;subst Y;exact⟨Z.lo,Z.hi,A4⟩)]
 have i:zf2 l ⟨25,n,[k]⟩=true:=by
  have:mP l k=q.kids.length:=by rw[mP,L]
  simp[zf2,zgt,this,M];omega
 simp only[dE,p8,Z.s];rw[i];by_cases c:n=0<;>simp[zfY,bK,el,zgh,zgr,c]
end
def zh9(l:List Nd):Prop:=∀i:Nat,i<l.length->zgu l i≠0
theorem KP{l:List Nd}{i:Nat}(I:i<=l.length):∀{V s:List Int},zgY i (zga l i) V=some s->zgY l.length (zga l l.length) V=some s
 |[],s,h=>by cases h;rfl
 |k::V,s,h=>by
  rw[zgY]at h;split at h
  .cases h
  .rename_i c;obtain⟨t,C,rfl⟩:=oq.1 h;obtain⟨k,rfl⟩:=jw (by omega:0<=k);rw[gV]at c;have Z:=Az (l:=l) (i:=i) (j:=k) ac I;have m:=Az (l:=l) (i:=l.length) (j:=k) ac (aE _);rw[zgY,gV,m,af (by rw[Z]at c;omega),KP I C];simp only[jh,Z]
theorem ztQ{l:List Nd}{i:Nat}{n:Nd}(z:l[i]?=some n)(h:zgu l i≠0):zgu l i=fd l n:=by
 have I:i<l.length:=by
  by_cases c:i<l.length
  .exact c
  .rw[gI ac]at z;cases z
 rw[vm I]at h⊢;unfold i9 at h⊢;unfold fd;rw[z]at h⊢;simp only at h⊢;cases j:zgY i (zga l i) n.kids with
 |none=>rw[j]at h;exact absurd rfl h
 |some s=>rw[KP ac j]
theorem EU{l:List Nd}{n:Nd}{t:Int}(M:zh9 l)(h:fd l n=t)(C:t≠0):IsT (iK l n) t (fZ l n)/\zh9 (iK l n):=by
 unfold iK;split
 .rename_i c;have J:=Ko c;refine⟨⟨ac,ac,?_⟩,M⟩;rw[ztQ J (M _ c)];exact h
 .rename_i c;have:=AY l n;have e:fZ l n=l.length:=ac;rw[e];refine⟨⟨ac,by rw[fG];simp;omega,?_⟩,fun i I=>?_⟩
  .rw[KA];exact h
  .rw[fG,List.length_singleton]at I;by_cases q:i<l.length
   .rw[Jv q];exact M i q
   .obtain rfl:i=l.length:=by omega
    rw[KA,h];exact C
def zho(n:Int):Prop:=-9223372036854775808<=n/\n<9223372036854775808
mutual
def iR:Ex->Prop
 | .mk _ n _ _ V=>zho n/\g8 V
def g8:List Ex->Prop
 |[]=>True
 |e::es=>iR e/\g8 es
end
theorem EV(x:Ex):iR x↔zho x.n/\g8 x.kids:=by cases x;rw[iR];rfl
mutual
def mV:St->Prop
 | .mk _ _ _ _ a v j C I=>iR a/\iR v/\g8 j/\jb C/\jb I
def jb:List St->Prop
 |[]=>True
 |x::l=>mV x/\jb l
end
theorem Bh(x:St):mV x↔iR x.at_/\iR x.value/\g8 x.args/\jb x.thn/\jb x.els:=by cases x;rw[mV];rfl
def tyG1.tyF:=ad @cN (ad @ej (ad @U8 (ad @dH (ad @iO (ad @qW (@pS))))))
open tyG1
noncomputable def KQ:{c:SC // aH 14 (Tryz.f12.body.getD .skip)=c}:=by
 refine⟨?_,?_⟩;rotate_left
 .simp only[Tryz.f12,bS,aH,zfO,zfL,zfR,zfS,Nat.blt,Nat.ble];rfl
noncomputable def KR:{c:SC // aH 25 (Tryz.f37.body.getD .skip)=c}:=by
 refine⟨?_,?_⟩;rotate_left
 .simp only[Tryz.f37,bS,aH,zfO,zfL,zfR,zfS,Nat.blt,Nat.ble];rfl
noncomputable def KS:{c:SC // aH 7 (Tryz.f85.body.getD .skip)=c}:=by
 refine⟨?_,?_⟩;rotate_left
 .simp only[Tryz.f85,bS,aH,zfO,zfL,zfR,zfS,Nat.blt,Nat.ble];rfl
def zgv(n m:Int):Int:=if n.tmod m<0 then cu (n.tmod m+m)else n.tmod m
theorem zhS{n m:Int}(h:0<m)(h2:m<2^62):0<=zgv n m/\zgv n m<m:=by
 unfold zgv;have Z:=uj n h;have O:-m<n.tmod m:=by
  have:=uj (-n) h;rw[Int.neg_tmod]at this;omega
 split
 .unfold cu;rw[tx _ ac];omega
 .omega
def pB(x:Int×Int):List AV:=[.int .i64 x.1,.int .i64 x.2]
theorem KT(x y:Int×Int)(h:pB x=pB y):x=y:=by
 simp only[pB,eB,AV.int.injEq,a0,kA]at h;exact sn h.1 h.2
theorem ztR(ρ:Nat->Int)(x:Int×Int)(C:x.2≠0):ce Tryz.prog ρ 12 (pB x) (.int .i64 (zgv x.1 x.2)):=zg3 fit (pls:=pls) (l:=[]) trivial (.cons (.int _ _) (.cons (.int _ _) .nil)) (.int _ _) (by
 have Z:=zha 12;obtain⟨n,m⟩:=x;rw[pB];simp only[]at C⊢;refine zfz (M:=14) (rs:=[.tmp 4]) (Z.call _) Z.ice Z.froz Tryz.func12 rfl rfl KQ.2 rfl ?_;dsimp only[KQ,zft,Nat.reduceAdd];repeat' (first
  |(apply ah ?_;clear hK K)|apply Rx.o ?_|(apply bt (fun o z=>?_) (fun o z=>?_)<;>try(cases o;done))|apply ak ?_|(apply zff fun K hK=>?_)|apply zfh ?_|apply ax ?_)
 all_goals (refine⟨zfj,_,zfq,?_⟩;try simp only[zfi])
 all_goals (simp_all[zgv];try omega))
noncomputable def vx:En:=⟨12,false,dc (fun x=>x.2≠0) pB fun x=>.int .i64 (zgv x.1 x.2)⟩
theorem KU(ρ:Nat->Int):zgE Tryz.prog ρ vx:=zgO fun x C=>ztR ρ x C
theorem vy{l:List En}(L:∀C,zgw l 12 C=vx.sp C)(n m:Int)(V:m≠0)(H:Hp):zfs Tryz.prog (zfn pls l) 12 [.int .i64 n,.int .i64 m] H fun v H'=>v=.int .i64 (zgv n m)/\H'=H:=
 zgL (enc:=pB) (ok:=fun x=>x.2≠0) (out:=fun x=>.int .i64 (zgv x.1 x.2)) KT (x:=(n,m)) (L _) V
def sN:List Int:=[0,1,-1,2,-9223372036854775808,9223372036854775807,4294967296,-2147483648,63,64]
def qo(n J:Int):Int:=if zgv n 24<10 then sN.getD (zgv n 24).toNat 0 else if zgv n 24<22 then cu (zgv (cu (n.tdiv 24)) 17-6)else J
theorem zao(H:Hp):zgW Tryz.prog H 71 10 [(0,.int .i64 0),(1,.int .i64 1),(2,.int .i64 (-1)),(3,.int .i64 2),(4,.int .i64 (-9223372036854775808)),(5,.int .i64 9223372036854775807),(6,.int .i64 4294967296),(7,.int .i64 (-2147483648)),(8,.int .i64 63),(9,.int .i64 64)]=some (.sl H.next 0 10 1,H.alloc (.cells (sN.map fun n=>.int .i64 n) 0 true)):=aj
theorem ztS(ρ:Nat->Int)(x:Int×Int):ce Tryz.prog ρ 37 (pB x) (.int .i64 (qo x.1 x.2)):=zg3 fit (pls:=pls) (l:=[vx]) ⟨KU ρ,trivial⟩ (.cons (.int _ _) (.cons (.int _ _) .nil)) (.int _ _) (by
 have Z:Plain (zfn pls [vx]) 37:=zgK (fun _=>rfl) rfl;obtain⟨n,m⟩:=x;have hr:=zhS (n:=n) (m:=24) ac ac;have hp:0<=zgv n 24:=hr.1;rw[pB];simp only[];have L:(24:Int)≠0:=aD;refine zfz (M:=25) (rs:=[.tmp 4]) (Z.call _) Z.ice Z.froz Tryz.func37 rfl rfl KR.2 rfl ?_;dsimp only[KR,zft,Nat.reduceAdd];have J:=@zao;repeat' (first
  |(apply ah ?_;clear hK K)|apply Rx.o ?_|(apply kF ?_;first|refine Rx.k (vy (fun _=>rfl) _ _ aD _) ?_)|(apply bt (fun o z=>?_) (fun o z=>?_)<;>try(cases o;done))|apply ak ?_|(apply zff fun K hK=>?_)|apply ay ?_|apply zfh ?_|apply ax ?_)
 .have O:(zgv n 24).toNat<10:=by omega
  have Y:sN[(zgv n 24).toNat]?=some (sN.getD (zgv n 24).toNat 0):=by
   rw[dd,aR (by simpa [sN]using O)];rfl
  repeat' (first
   |(apply ah ?_;clear hK K)|apply Ry.o ?_|apply ax ?_)
  all_goals (refine⟨zfj,_,zfq,?_⟩;try simp only[zfi])
  rw[qo,aq jd]
 .all_goals (refine⟨zfj,_,zfq,?_⟩;try simp only[zfi])
  rw[qo,af jd,aq jd]
 .all_goals (refine⟨zfj,_,zfq,?_⟩;try simp only[zfi])
  rw[qo,af jd,af jd])
noncomputable def Bi:En:=⟨37,false,dc (fun _=>True) pB fun x=>.int .i64 (qo x.1 x.2)⟩
theorem zrs(ρ:Nat->Int):zgE Tryz.prog ρ Bi:=zgO fun x C=>ztS ρ x
theorem zxB{l:List En}(L:∀C,zgw l 37 C=Bi.sp C)(n m:Int)(H:Hp):zfs Tryz.prog (zfn pls l) 37 [.int .i64 n,.int .i64 m] H fun v H'=>v=.int .i64 (qo n m)/\H'=H:=
 zgL (enc:=pB) (ok:=fun _=>True) (out:=fun x=>.int .i64 (qo x.1 x.2)) KT (x:=(n,m)) (L _) trivial
def zf1(f:Int):List (List UInt8):=if f=0 then [[120],[121],[105],[106]]else [[110],[105]]
theorem rB(f:Int):(zf1 f).length=4\/(zf1 f).length=2:=by unfold zf1;split<;>simp
theorem zas(H:Hp)(a b c d:List UInt8):zgW Tryz.prog H 59 4 [(0,.str a),(1,.str b),(2,.str c),(3,.str d)]=some (.sl H.next 0 4 1,H.alloc (.cells [.str a,.str b,.str c,.str d] 0 true)):=aj
theorem xX(H:Hp)(a b:List UInt8):zgW Tryz.prog H 59 2 [(0,.str a),(1,.str b)]=some (.sl H.next 0 2 1,H.alloc (.cells [.str a,.str b] 0 true)):=aj
theorem zrt(ρ:Nat->Int)(f:Int):ce Tryz.prog ρ 85 [.int .i64 f] (jp (zf1 f)):=xt (m:=3) (cfg:=zfn pls []) fit (pO ρ) (fun f j r h=>by simp[zfn,zgw]at h) (.cons (.int _ _) .nil) (by
 have Z:=zha 85;refine zfz (M:=7) (rs:=[.tmp 2]) (Z.call _) Z.ice Z.froz Tryz.func85 rfl rfl KS.2 rfl ?_;dsimp only[KS,zft,Nat.reduceAdd];have J:=@zas;have L:=@xX;repeat' (first
  |(apply ah ?_;clear hK K)|apply Rx.o ?_|(apply bt (fun o z=>?_) (fun o z=>?_)<;>try(cases o;done))|apply ak ?_|(apply zff fun K hK=>?_)|apply zfh ?_|apply ax ?_)
 .all_goals (refine⟨zfj,_,zfq,?_⟩;try simp only[zfi])
  rw[zf1,aq jd];rfl
 .all_goals (refine⟨zfj,_,zfq,?_⟩;try simp only[zfi])
  rw[zf1,af jd];rfl)
noncomputable def Bj:En:=⟨85,false,dc (fun _=>True) (fun n:Int=>[.int .i64 n]) fun f=>jp (zf1 f)⟩
theorem ztU(ρ:Nat->Int):zgE Tryz.prog ρ Bj:=zgO fun x C=>zrt ρ x
theorem KV{l:List En}(L:∀C,zgw l 85 C=Bj.sp C)(f:Int)(H:Hp):zfs Tryz.prog (zfn pls l) 85 [.int .i64 f] H fun v H'=>v=jp (zf1 f)/\H'=H:=
 zgL (enc:=fun n:Int=>[.int .i64 n]) (ok:=fun _=>True) (out:=fun f=>jp (zf1 f)) JQ (x:=f) (L _) trivial
end
section
def tyG2.tyF:=ad @cN (ad @eQ (@u6))
open tyG2
def iq(S:Nat->Prop)(n:Nat)(H:Hp)(v w:AV):Prop:=∃u,zgf S n H v u/\∀m,n<=m->cF m u=w
def zgq(S:Nat->Prop)(n:Nat)(H:Hp)(cs U:List AV):Prop:=∃g,cR (zgf S n H) cs g/\∀m,n<=m->g.map (cF m)=U
theorem zgq.frame{S S':Nat->Prop}(hS:∀k,S k->S' k){n:Nat}{H H':Hp}{v w:List AV}(h:zgq S n H v w)(z:H.next<=H'.next)(i:∀k,S k->k<H.next->sq (H.get k) (H'.get k)):zgq S' n H' v w:=by
 obtain⟨u,Z,g⟩:=h;exact⟨u,Z.mono fun a b k=>k.frame hS z i,g⟩
theorem zgq.keep{S S':Nat->Prop}(hS:∀k,S k->S' k){n:Nat}{H H':Hp}{v w:List AV}(h:zgq S n H v w)(z:H.next<=H'.next)(i:∀k,S k->k<H.next->H'.get k=H.get k):zgq S' n H' v w:=h.frame hS z fun k Z g=>.inl (i k Z g).symm
theorem iq.up{S:Nat->Prop}{n m:Nat}{H:Hp}{v w:AV}(h:iq S n H v w)(V:n<=m):iq S m H v w:=by
 obtain⟨u,i,g⟩:=h;exact⟨u,i.up V,fun k j=>g k ac⟩
theorem zgq.up{S:Nat->Prop}{n m:Nat}{H:Hp}{v w:List AV}(h:zgq S n H v w)(V:n<=m):zgq S m H v w:=by
 obtain⟨u,i,g⟩:=h;exact⟨u,i.mono fun a b k=>k.up V,fun k j=>g k ac⟩
theorem zgq.nil{S:Nat->Prop}{n:Nat}{H:Hp}:zgq S n H [] []:=⟨[],trivial,fun _ _=>rfl⟩
theorem zgq.cons{S:Nat->Prop}{n:Nat}{H:Hp}{v w:AV}{cs U:List AV}(h:iq S n H v w)(k:zgq S n H cs U):zgq S n H (v::cs) (w::U):=by
 obtain⟨u,i,g⟩:=h;obtain⟨Z,Y,O⟩:=k;exact⟨u::Z,⟨i,Y⟩,fun m V=>by rw[dE,g m V,O m V]⟩
theorem zgq.append{S:Nat->Prop}{n:Nat}{H:Hp}:∀{a b c d:List AV},zgq S n H a b->zgq S n H c d->zgq S n H (a++c) (b++d)
 |a,b,c,d,⟨u,i,g⟩,⟨v,Z,O⟩=>⟨u++v,i.append Z,fun m V=>by rw[r0,g m V,O m V]⟩
theorem iq.flat{S:Nat->Prop}{n:Nat}{H:Hp}{v:AV}(h:Jm v)(j:∀m,cF m v=v):iq S (n+1) H v v:=⟨v,qc h,fun m _=>j m⟩
theorem iq.int{S:Nat->Prop}{n:Nat}{H:Hp}(k:IntKind)(x:Int):iq S (n+1) H (.int k x) (.int k x):=.flat ⟨.int _ _,trivial⟩ fun m=>by cases m<;>rfl
theorem iq.str{S:Nat->Prop}{n:Nat}{H:Hp}(s:List UInt8):iq S (n+1) H (.str s) (.str s):=.flat ⟨.str _,trivial⟩ fun m=>by cases m<;>rfl
theorem iq.nilS{S:Nat->Prop}{n:Nat}{H:Hp}:iq S (n+1) H .nilS (.lst []):=⟨.nilS,qc ⟨.nilS,trivial⟩,fun m V=>by
 obtain⟨m,rfl⟩:∃k,m=k+1:=⟨m-1,ac⟩;rfl⟩
def gp(S:Nat->Prop)(n:Nat)(H:Hp)(z:Nat):List (List AV)->List (List AV)->Prop:=cR fun a b=>a.length=z/\zgq S n H a b
theorem KW{S:Nat->Prop}{n z:Nat}{H:Hp}:∀{a b:List (List AV)},gp S n H z a b->∃u,cR (cR (zgf S n H)) a u/\(∀m,n<=m->u.map (List.map (cF m))=b)/\∀x∈a,x.length=z
 |[],[],_=>⟨[],trivial,fun _ _=>rfl,au⟩
 |x::a,y::b,⟨⟨hz,v,h1,h2⟩,h⟩=>by
  obtain⟨u,Z,O,K⟩:=KW (a:=a) (b:=b) h;exact⟨v::u,⟨h1,Z⟩,fun m V=>by rw[dE,h2 m V,O m V],fun q L=>by
   rcases eP.1 L with rfl|L
   .exact hz
   .exact K q L⟩
theorem iq.rows{S:Nat->Prop}{n:Nat}{H:Hp}{r z imm:Nat}{tip:Bool}{a b:List (List AV)}(hS:S r)(hr:r<H.next)(Z:H.get r=some (.cells a.flatten imm tip))(I:imm<=a.flatten.length)(h:gp S n H z a b):iq S (n+1) H (.sl r 0 a.length z) (.lst b):=by
 obtain⟨u,i,g,Y⟩:=KW h;refine⟨.lst u,zgf.rows hS hr Z I Y i,fun m V=>?_⟩;obtain⟨m,rfl⟩:∃k,m=k+1:=⟨m-1,ac⟩;show AV.lst (u.map fun J=>J.map (cF m))=_;rw[<-g m ac]
def sO:=@iq.rows
theorem gp.frame{S S':Nat->Prop}(hS:∀k,S k->S' k){n z:Nat}{H H':Hp}{a b:List (List AV)}(h:gp S n H z a b)(Z:H.next<=H'.next)(i:∀k,S k->k<H.next->H'.get k=H.get k):gp S' n H' z a b:=cR.mono (fun x y k=>⟨k.1,k.2.keep hS Z i⟩) h
theorem gp.up{S:Nat->Prop}{n m z:Nat}{H:Hp}{a b:List (List AV)}(h:gp S n H z a b)(V:n<=m):gp S m H z a b:=cR.mono (fun x y k=>⟨k.1,k.2.up V⟩) h
theorem zgq.strs{S:Nat->Prop}{n:Nat}{H:Hp}(s:List UInt8):zgq S (n+1) H [.str s] [.str s]:=.cons (.str s) .nil
theorem gp.strs{S:Nat->Prop}{n:Nat}{H:Hp}:∀l:List (List UInt8),gp S (n+1) H 1 (l.map fun s=>[AV.str s]) (l.map fun s=>[AV.str s])
 |[]=>trivial
 |a::l=>⟨⟨rfl,zgq.strs a⟩,gp.strs l⟩
theorem xY{S:Nat->Prop}{n:Nat}{H:Hp}(k g o:Int)(s:List UInt8){kv:AV}{V:List Ex}(h:iq S (n+1) H kv (.lst (V.map Ex.cells))):zgq S (n+1) H [.int .i64 k,.int .i64 g,.str s,.int .i64 o,kv] (Ex.mk k g s o V).cells:=by
 rw[pU];exact .cons (.int _ _) (.cons (.int _ _) (.cons (.str _) (.cons (.int _ _) (.cons h .nil))))
theorem sP{S:Nat->Prop}{n:Nat}{H:Hp}(k g o:Int)(s:List UInt8):zgq S (n+1) H [.int .i64 k,.int .i64 g,.str s,.int .i64 o,.nilS] (Ex.mk k g s o []).cells:=xY k g o s .nilS
def zfP:List Int->Int×List Int
 |[]=>(0,[])
 |a::l=>(a,l)
def zav(lo:Nat)(H:Hp)(r:Nat)(v:AV)(L:List Int):Prop:=(v=.lst []/\L=[])\/∃b m g V,v=.sl b m L.length 1/\H.get b=some (.cells g V true)/\g.drop m=L.map (fun n=>AV.int .i64 n)/\b≠r/\b<lo
def ir(lo:Nat)(H:Hp)(r:Nat)(L:List Int)(c:Int):Prop:=r<lo/\lo<=H.next/\∃v,H.get r=some (.cells [v,.int .i64 c] 0 true)/\zav lo H r v L
theorem ir.keep{lo:Nat}{H H':Hp}{r:Nat}{L:List Int}{c:Int}(h:ir lo H r L c)(I:H.next<=H'.next)(J:∀k,k<lo->H'.get k=H.get k):ir lo H' r L c:=by
 obtain⟨M,i,v,Z,g⟩:=h;refine⟨M,ac,v,by rw[J _ M];exact Z,?_⟩;rcases g with g|⟨b,m,Y,V,U,O,o,K,z⟩
 .exact .inl g
 .exact .inr ⟨b,m,Y,V,U,by rw[J _ z];exact O,o,K,z⟩
noncomputable def vz:{c:SC // aH 25 (Tryz.f40.body.getD .skip)=c}:=by
 refine⟨?_,?_⟩;rotate_left
 .simp only[Tryz.f40,bS,aH,zfO,zfL,zfR,zfS,Nat.blt,Nat.ble];rfl
theorem Bk{cfg:Cfg}(Z:Plain cfg 40){lo:Nat}{H:Hp}{r:Nat}{L:List Int}{c:Int}(h:ir lo H r L c)(hL:L.length<2^60):
 zfs Tryz.prog cfg 40 [.ptr r 0] H fun v H'=>v=.int .i64 (zfP L).1/\ir lo H' r (zfP L).2 c/\H'.next=H.next/\∀k,k≠r->H'.get k=H.get k:=by
 obtain⟨U,i,v,h1,h2⟩:=h;rcases h2 with⟨rfl,rfl⟩|⟨b,m,g,V,rfl,e2,C,J,e5⟩
 .refine zfz (M:=25) (rs:=[.tmp 2]) (Z.call _) Z.ice Z.froz Tryz.func40 rfl rfl vz.2 rfl ?_;dsimp only[vz,zft,Nat.reduceAdd];repeat' (first
   |(apply ah ?_;clear hK K)|apply Rx.o ?_|(apply bt (fun o z=>?_) (fun o z=>?_)<;>try(cases o;done))|apply ak ?_|(apply zff fun K hK=>?_)|apply ax ?_)
  all_goals (refine⟨zfj,_,zfq,?_⟩;try simp only[zfi])
  exact⟨gm,⟨U,i,_,h1,.inl ⟨rfl,rfl⟩⟩,gm,fun _ _=>gm⟩
 .cases L with
  |nil=>
   refine zfz (M:=25) (rs:=[.tmp 2]) (Z.call _) Z.ice Z.froz Tryz.func40 rfl rfl vz.2 rfl ?_;dsimp only[vz,zft,Nat.reduceAdd];repeat' (first
    |(apply ah ?_;clear hK K)|apply Rx.o ?_|(apply bt (fun o z=>?_) (fun o z=>?_)<;>try(cases o;done))|apply ak ?_|(apply zff fun K hK=>?_)|apply ax ?_)
   all_goals (refine⟨zfj,_,zfq,?_⟩;try simp only[zfi])
   exact⟨gm,⟨U,i,_,h1,.inr ⟨b,m,g,V,rfl,e2,C,J,e5⟩⟩,gm,fun _ _=>gm⟩
  |cons a L=>
   have hg:g[m]?=some (.int .i64 a):=by
    have:=kz (fun l=>l[0]?) C;simpa using this
   have hd:g.drop (m+1)=L.map (fun n=>AV.int .i64 n):=by
    have:=kz (List.drop 1) C;rw[Cq]at this;simpa using this
   have I:0<L.length+1:=ac;have O:zhg Tryz.prog 23 (.sl b m (L.length+1) 1) (some (.int .i64 1)) none=if L=[]then some (.lst [])else some (.sl b (m+1) L.length 1):=by
    simp only[zhg,Tryz.underlying23,jy,zg9];by_cases Y:L=[]
    .subst Y;rfl
    .have:0<L.length:=ve.2 Y;rw[af Y,aq ⟨ac,aE _,trivial⟩,af ac];rfl
   have hne:¬(((L.length+1:Nat):Int)=0):=ac;have hrb:(b == r)=false:=zfN J;refine zfz (M:=25) (rs:=[.tmp 2]) (Z.call _) Z.ice Z.froz Tryz.func40 rfl rfl vz.2 rfl ?_;dsimp only[vz,zft,Nat.reduceAdd];by_cases Y:L=[]
   .subst Y;have hsl':zhg Tryz.prog 23 (.sl b m 1 1) (some (.int .i64 1)) none=some (.lst []):=O;have hne':¬(((1:Nat):Int)=0):=aD;have hp':0<1:=aD;clear O hne I;repeat' (first
     |(apply ah ?_;clear hK K)|apply Ry.o ?_|apply bM ?_|(apply aL (fun o z=>?_) (fun o z=>?_)<;>try(cases o;done))|apply ak ?_|(apply zff fun K hK=>?_)|apply zfh ?_|apply ax ?_)
    all_goals (refine⟨zfj,_,zfq,?_⟩;try simp only[zfi])
    refine⟨gm,⟨U,i,_,iA,.inl ⟨rfl,rfl⟩⟩,gm,fun k j=>rA⟩
   .rw[af Y]at O;repeat' (first
     |(apply ah ?_;clear hK K)|apply Ry.o ?_|apply bM ?_|(apply aL (fun o z=>?_) (fun o z=>?_)<;>try(cases o;done))|apply ak ?_|(apply zff fun K hK=>?_)|apply zfh ?_|apply ax ?_)
    all_goals (refine⟨zfj,_,zfq,?_⟩;try simp only[zfi])
    refine⟨gm,⟨U,i,_,by rw[aQ,aq rfl];rfl,.inr ⟨b,m+1,g,V,rfl,by rw[aQ,af J];exact e2,hd,J,e5⟩⟩,gm,fun k j=>rA⟩
end
section
theorem zgq.keep2{S S':Nat->Prop}{n:Nat}{H H':Hp}{v w:List AV}(h:zgq S n H v w)(hS:∀k,k<H.next->S k->S' k)(z:H.next<=H'.next)(i:∀k,S k->k<H.next->H'.get k=H.get k):zgq S' n H' v w:=by
 obtain⟨u,Z,g⟩:=h;exact⟨u,Z.mono fun a b k=>k.frame2 hS z fun q m O=>.inl (i q m O).symm,g⟩
theorem gp.keep2{S S':Nat->Prop}{n z:Nat}{H H':Hp}{a b:List (List AV)}(h:gp S n H z a b)(hS:∀k,k<H.next->S k->S' k)(Z:H.next<=H'.next)(i:∀k,S k->k<H.next->H'.get k=H.get k):gp S' n H' z a b:=cR.mono (fun x y k=>⟨k.1,k.2.keep2 hS Z i⟩) h
theorem gp.len{S:Nat->Prop}{n z:Nat}{H:Hp}:∀{a b:List (List AV)},gp S n H z a b->∀x∈a,x.length=z
 |[],[],_,x,C=>by simp at C
 |y::a,w::b,h,x,C=>by
  rcases eP.1 C with rfl|C
  .exact h.1.1
  .exact gp.len h.2 x C
def zgS(S:Nat->Prop)(n:Nat)(H:Hp)(z:Nat)(v:AV)(Z:List (List AV)):Prop:=
 (v=.nilS/\Z=[])\/∃q V U,v=.sl q 0 U.length z/\S q/\q<H.next/\H.get q=some (.cells U.flatten V true)/\V<=U.flatten.length/\gp (fun k=>S k/\k≠q) n H z U Z
theorem zgS.rd{S:Nat->Prop}{n:Nat}{H:Hp}{z:Nat}{v:AV}{U:List (List AV)}(h:zgS S n H z v U):iq S (n+1) H v (.lst U):=by
 rcases h with⟨rfl,rfl⟩|⟨q,V,Z,rfl,i,g,m,O,K⟩
 .exact .nilS
 .exact .rows i g m O (K.frame (fun k j=>j.1) (aE _) fun _ _ _=>rfl)
theorem zgS.up{S:Nat->Prop}{n m:Nat}{H:Hp}{z:Nat}{v:AV}{Z:List (List AV)}(h:zgS S n H z v Z)(Y:n<=m):zgS S m H z v Z:=by
 rcases h with h|⟨q,V,U,e,i,g,O,M,K⟩
 .exact .inl h
 .exact .inr ⟨q,V,U,e,i,g,O,M,gp.up K Y⟩
theorem zgS.keep{S S':Nat->Prop}{n:Nat}{H H':Hp}{z:Nat}{v:AV}{Z:List (List AV)}(h:zgS S n H z v Z)(hS:∀k,k<H.next->S k->S' k)(O:H.next<=H'.next)(i:∀k,S k->k<H.next->H'.get k=H.get k):zgS S' n H' z v Z:=by
 rcases h with h|⟨q,V,U,e,Y,g,m,K,J⟩
 .exact .inl h
 .exact .inr ⟨q,V,U,e,hS q g Y,ac,by rw[i q Y g];exact m,K,J.keep2 (fun k j L=>⟨hS k j L.1,L.2⟩) O fun k M I=>i k M.1 I⟩
theorem zgS.one{S:Nat->Prop}{n:Nat}{H:Hp}{z:Nat}{v:AV}{Z:List (List AV)}(h:zgS S n H z v Z):AV.one v=true/\v.cells=[v]:=by
 rcases h with⟨rfl,rfl⟩|⟨q,V,U,rfl,_⟩<;>exact⟨rfl,rfl⟩
theorem zgS.len{P:Program}{t e:TypeId}(C:P.underlying t=some (.slice e)){S:Nat->Prop}{n:Nat}{H H':Hp}{z:Nat}{v:AV}{Z:List (List AV)}(h:zgS S n H z v Z):zf9 P H' t v=some (.int .i64 Z.length):=by
 rcases h with⟨rfl,rfl⟩|⟨q,V,U,rfl,i,g,m,O,K⟩
 .exact zhH C
 .rw[zhE C,show U.length=Z.length from cR.len K]
theorem zgS.push{P:Program}{t e:TypeId}{z b:Nat}{zz:List AV}(ht:P.underlying t=some (.slice e))(hs:zfF P e=some z)(hb:zgo P e=some b)(hz:zge P e=some zz)(K:zz.length=z)(J:zhz P t=true)
 {lo n:Nat}{H:Hp}{v:AV}{C:List (List AV)} (h:zgS (fun k=>lo<=k) n H z v C) (j:lo<=H.next) {r imm:Nat}{row w:List AV} (hg:H.get r=some (.cells row imm true)) (Y:row.length=z) (V:row.all AV.one=true)
 (hw:zgq (fun k=>lo<=k/\∀o m M,v≠.sl k o m M) n H row w) (i:(C.length+1)*b<=zg1) (g:C.length+1<=zg1) :
 ∃v' H',zgH P false H t t v (.sl r 0 1 z)=some (v',H')/\zgS (fun k=>lo<=k) n H' z v' (C++[w])/\H'.next=H.next+1/\(∀k,k<H.next->(∀o m M,v≠.sl k o m M)->H'.get k=H.get k)/\∀k o m M,v'=.sl k o m M->k=H.next:=by
 have hx:zhd H z (.sl r 0 1 z)=some (1,row):=by
  have:=se (H:=H) (r:=r) (o:=0) (n:=1) (z:=z) (s:=z) hg Kv;rw[this,fo,fN ac]
 rcases h with⟨rfl,rfl⟩|⟨q,Z,U,rfl,h1,h2,h3,h4,h5⟩
 .refine⟨.sl H.next 0 1 z,H.alloc (.cells row 0 true),append_nil ht hs hb hz J hx V K (by simpa using i) wC,.inr ⟨H.next,0,[row],rfl,j,cI _,by rw[zfk,aq rfl];simp,au,⟨⟨Y,hw.keep2 (fun k h1 h2=>⟨h2.1,ac⟩) (eh _) fun k h1 h2=>hY⟩,trivial⟩⟩,rfl,fun k hk _=>hY,fun k o m M e=>?_⟩;simp only[AV.sl.injEq]at e;exact e.1.symm
 .have hrl:=Ax (gp.len h5);have hwl:U.length=C.length:=cR.len h5;have htr:iV false H z (.sl q 0 U.length z)=H:=by
   unfold iV;simp only[h3,b9];have:Nat.blt (U.length*z) U.flatten.length=false:=by
    cases hb:Nat.blt (U.length*z) U.flatten.length with
    |false=>rfl
    |true=>rw[jQ]at hb;omega
   simp only[iC,fy,this,eJ]
  refine⟨.sl H.next 0 (U.length+1) z,(H.kill q).alloc (.cells (U.flatten++row) (Z-0) true),?_,.inr ⟨H.next,Z-0,U++[row],au,j,cI _,?_,Kw,?_⟩,rfl,fun k hk hno=>?_,fun k o m M e=>?_⟩
  .simp only[zgH,ht,hs,hb,hz,J,hx,V,htr,K,pR,cV,jM,h3,b9,fo,dm,cS];rw[aq ⟨by rw[hwl];exact i,by rw[hwl];exact g,ac,trivial,h4⟩]
  .show((H.kill q).alloc _).get (H.kill q).next=_
   rw[zfk,aq rfl];simp
  .have O:∀k,k<H.next->k≠q->((H.kill q).alloc (.cells (U.flatten++row) (Z-0) true)).get k=H.get k:=fun k L I=>by rw[zfk,af mn,zhm,af I]
   refine cR.append (h5.keep2 (fun k L I=>⟨I.1,ac⟩) (eh _) fun k L I=>O k I L.2) ⟨⟨Y,hw.keep2 (fun k L I=>⟨I.1,ac⟩) (eh _) fun k L I=>O k I fun e=>L.2 0 U.length z nD⟩,trivial⟩
  .rw[zfk,af mn,zhm,af (fun e=>hno 0 U.length z nD)]
  .simp only[AV.sl.injEq]at e;exact e.1.symm
theorem ztV{z:Nat}{H:Hp}{U:List (List AV)}(h:∀r∈U,r.length=z):zhd H z (.lst U)=some (U.length,U.flatten):=by
 simp only[zhd];rw[aq (by rw[gF];intro r hr;simp[h r hr])]
theorem zgq.ar{S:Nat->Prop}{n:Nat}{H:Hp}(x:Ar):zgq S (n+1) H x.cells x.cells:=.cons (.str _) (.cons (.int _ _) .nil)
theorem KX{S:Nat->Prop}{n:Nat}{H:Hp}:∀l:List Ar,gp S (n+1) H 2 (l.map Ar.cells) (l.map Ar.cells)
 |[]=>trivial
 |a::l=>⟨⟨rfl,zgq.ar a⟩,KX l⟩
theorem KY:∀l:List Ar,(l.map Ar.cells).flatten.all AV.one=true
 |[]=>rfl
 |a::l=>by rw[dE,qU,Bc,a.one,KY l];rfl
theorem zru{S:Nat->Prop}{n:Nat}{H:Hp}{q imm:Nat}{tip:Bool}(l:List Int)(hS:S q)(L:q<H.next)(J:H.get q=some (.cells (l.map fun n=>.int .i64 n) imm tip))(I:imm<=l.length):iq S (n+2) H (.sl q 0 l.length 1) (.lst (l.map fun n=>[.int .i64 n])):=by
 have i:(l.map fun n=>[AV.int .i64 n]).flatten=l.map fun n=>AV.int .i64 n:=by
  clear J I;induction l with
  |nil=>rfl
  |cons a l ih=>rw[dE,qU,ih];rfl
 have hr:∀l:List Int,gp S (n+1) H 1 (l.map fun n=>[AV.int .i64 n]) (l.map fun n=>[AV.int .i64 n]):=fun l=>by
  induction l with
  |nil=>trivial
  |cons a l ih=>exact⟨⟨rfl,.cons (.int _ _) .nil⟩,ih⟩
 have:=sO (n:=n+1) (a:=l.map fun n=>[AV.int .i64 n]) (imm:=imm) (tip:=tip) hS L (by rw[i];exact J) (by rw[i,cO];exact I) (hr l);rw[cO]at this;exact this
theorem KZ{cfg:Cfg}(fit:Fit Tryz.prog){ρ:Nat->Int}(Z:ny cfg.dec ρ)(Y:∀f j r,cfg.call f j=some r->ce Tryz.prog ρ f j r){g:FuncId}{j:List AV}{r:AV}{n:Nat}
 (J:fV j) (h:zfs Tryz.prog cfg g j zfM fun v H'=>∃m u,iceV H' m v=some u/\cF n u=r):ce Tryz.prog ρ g j r:=by
 unfold zfs at h;obtain⟨v,H',i,m,u,V,U⟩:=h;refine D5 n (xt (m:=m) fit Z Y J ?_) U;unfold zfs;exact⟨v,H',i,V⟩
theorem zlO{P:Program}{t e:TypeId}{z b:Nat}{zz:List AV}(ht:P.underlying t=some (.slice e))(hs:zfF P e=some z)(L:zgo P e=some b)(hz:zge P e=some zz)(O:zz.length=z)(J:zhz P t=true)
 {S S':Nat->Prop}{n:Nat}{H:Hp}{v:AV}{V:List (List AV)} (h:zgS S n H z v V) (C:∀k,k<H.next->S k->S' k) (hN:S' H.next) {r imm:Nat}{row:List AV} (hg:H.get r=some (.cells row imm true)) (hrow:row.length=z) (Y:row.all AV.one=true)
 (K:(V.length+1)*b<=zg1) (M:V.length+1<=zg1) :
 ∃H' U Z,zgH P false H t t v (.sl r 0 1 z)=some (.sl H.next 0 (V.length+1) z,H')/\U.length=V.length/\(∀x∈U,x.length=z)/\H'.get H.next=some (.cells (U.flatten++row) Z true)/\Z<=U.flatten.length/\H'.next=H.next+1/\(∀k,k<H.next->(∀o m z',v≠.sl k o m z')->H'.get k=H.get k) /\
  gp (fun k=>S' k/\k≠H.next) n H' z U V:=by
 have hx:zhd H z (.sl r 0 1 z)=some (1,row):=by
  have:=se (H:=H) (r:=r) (o:=0) (n:=1) (z:=z) (s:=z) hg Kv;rw[this,fo,fN ac]
 rcases h with⟨rfl,rfl⟩|⟨q,Z,U,rfl,h1,h2,h3,h4,I⟩
 .exact⟨H.alloc (.cells row 0 true),[],0,append_nil ht hs L hz J hx Y O (by simpa using K) (by simpa using M),rfl,au,by rw[zfk,aq rfl];simp,dZ _,rfl,fun k hk _=>hY,trivial⟩
 .have hrl:=Ax (gp.len I);have j:U.length=V.length:=cR.len I;have htr:iV false H z (.sl q 0 U.length z)=H:=by
   unfold iV;simp only[h3,b9];have:Nat.blt (U.length*z) U.flatten.length=false:=by
    cases L:Nat.blt (U.length*z) U.flatten.length with
    |false=>rfl
    |true=>rw[jQ]at L;omega
   simp only[iC,fy,this,eJ]
  refine⟨(H.kill q).alloc (.cells (U.flatten++row) (Z-0) true),U,Z-0,?_,j,gp.len I,?_,ac,rfl,fun k hk i=>?_,?_⟩
  .simp only[zgH,ht,hs,L,hz,J,hx,Y,htr,O,pR,cV,jM,h3,b9,fo,dm,cS];rw[aq ⟨by rw[j];exact K,by rw[j];exact M,ac,trivial,h4⟩,j]
  .show((H.kill q).alloc _).get (H.kill q).next=_
   rw[zfk,aq rfl]
  .rw[zfk,af mn,zhm,af (fun e=>i 0 U.length z nD)]
  .exact I.keep2 (fun k g h7=>⟨C k g h7.1,ac⟩) (eh _) fun k g h7=>by rw[zfk,af mn,zhm,af g.2]
theorem zgS.of{S:Nat->Prop}{n q z imm:Nat}{H:Hp}{U Y:List (List AV)}{row w:List AV}(hS:S q)(L:q<H.next)(I:∀x∈U,x.length=z)(Z:row.length=z)(J:H.get q=some (.cells (U.flatten++row) imm true))(O:imm<=U.flatten.length)(hr:gp (fun k=>S k/\k≠q) n H z U Y)(M:zgq (fun k=>S k/\k≠q) n H row w):zgS S n H z (.sl q 0 (Y.length+1) z) (Y++[w]):=by
 have V:U.length=Y.length:=cR.len hr;exact .inr ⟨q,imm,U++[row],by rw[fG,V];rfl,hS,L,by rw[J];simp,Kw,hr.append ⟨⟨Z,M⟩,trivial⟩⟩
theorem Bl{S:Nat->Prop}{n:Nat}{H:Hp}{r:Nat}(l:List (List UInt8))(hS:S r)(hr:r<H.next)(J:H.get r=some (.cells (l.map .str) 0 true)):zgS S (n+1) H 1 (.sl r 0 l.length 1) (l.map fun s=>[AV.str s]):=
 .inr ⟨r,0,l.map fun s=>[AV.str s],by rw[cO],hS,hr,by rw[D4];exact J,dZ _,gp.strs l⟩
structure FnL (pt:Nat->Nat) (b n:Nat) (H:Hp) (f:Fu) (p l bo:AV) (v:List AV):Prop where
 len:v.length=5
 one:v.all AV.one=true
 ps:zgS (fun q=>pt q=b) n H 1 p (f.params.map fun s=>[AV.str s])
 ls:zgS (fun q=>pt q=b+1) n H 1 l (f.locals.map fun s=>[AV.str s])
 bo:zgS (fun q=>pt q=b+2) n H 17 bo (f.body.map St.cells)
 vw:zgq (fun q=>pt q=b+3) n H v f.value.cells
def Bm(nm:List UInt8)(p l o:AV)(v:List AV):List AV:=[.str nm,p,l,o]++v
structure ProgL (pt:Nat->Nat) (n:Nat) (H:Hp) (ra rf:Nat) (x y:Int) (f g:Fu) (pf lf bf:AV) (vf:List AV) (pg lg bg:AV) (vg:List AV):Prop where
 ga:H.get ra=some (.cells [.str [97],.int .i64 x,.str [98],.int .i64 y] 0 true)
 gf:H.get rf=some (.cells (Bm f.name pf lf bf vf++Bm g.name pg lg bg vg) 0 true)
 ltA:ra<H.next
 ltF:rf<H.next
 lra:pt ra=1
 lrf:pt rf=2
 F:FnL pt 3 n H f pf lf bf vf
 G:FnL pt 7 n H g pg lg bg vg
def sQ(M a b c q:Nat):Nat:=if q<=M then 0 else if q=M+1 then 1 else if q=M+7 then 2 else if q=M+3 then 3 else if q=M+4 then 4 else if q=M+5 then 7 else if q=M+6 then 8 else if q<a then 5 else if q<b then 6 else if q<c then 9 else 10
theorem zaz{M a b c q:Nat}(h:M+8<=q)(h1:q<a):sQ M a b c q=5:=Ba
theorem zaA{M a b c q:Nat}(h:M+8<=q)(h1:a<=q)(h2:q<b):sQ M a b c q=6:=Ba
theorem zaB{M a b c q:Nat}(h:M+8<=q)(Z:a<=q)(h1:b<=q)(h2:q<c):sQ M a b c q=9:=Ba
theorem zaC{M a b c q:Nat}(h:M+8<=q)(Z:a<=q)(h1:b<=q)(h2:c<=q):sQ M a b c q=10:=Ba
theorem K0{P:Program}{t e:TypeId}{z b:Nat}{I:List AV}(ht:P.underlying t=some (.slice e))(hs:zfF P e=some z)(hb:zgo P e=some b)(hz:zge P e=some I)(V:I.length=z)(J:zhz P t=true)
 {S S':Nat->Prop}{n:Nat}{H:Hp}{v:AV}{U:List (List AV)} (h:zgS S n H z v U) (K:∀k,k<H.next->S k->S' k) (i:S' H.next) {r imm:Nat}{row w:List AV} (hg:H.get r=some (.cells row imm true)) (Z:row.length=z) (Y:row.all AV.one=true)
 (hw:zgq (fun k=>S' k/\∀o m L,v≠.sl k o m L) n H row w) (O:(U.length+1)*b<=zg1) (M:U.length+1<=zg1) :
 ∃H',zgH P false H t t v (.sl r 0 1 z)=some (.sl H.next 0 (U.length+1) z,H')/\zgS S' n H' z (.sl H.next 0 (U.length+1) z) (U++[w])/\H'.next=H.next+1/\(∀k,k<H.next->(∀o m L,v≠.sl k o m L)->H'.get k=H.get k):=by
 obtain⟨H',j,imm',a1,a2,a3,a4,a5,a6,a7,a8⟩:=zlO (P:=P) ht hs hb hz V J h K i hg Z Y O M;refine⟨H',a1,?_,a6,a7⟩;exact zgS.of i ac a3 Z a4 a5 a8 (hw.keep2 (fun k C g=>⟨g.1,ac⟩) ac fun k C g=>a7 k g C.2)
theorem zaD{i:Type}{s:List i}(h:s.length=3):∃a b c,s=[a,b,c]:=by
 match s,h with
 |[a,b,c],_=>exact⟨a,b,c,rfl⟩
theorem zaE(H:Hp){cs:List AV}(L:cs.length=3)(j:cs.all AV.one=true):zgW Tryz.prog H 22 1 [(0,.agg cs)]=some (.sl H.next 0 1 3,H.alloc (.cells cs 0 true)):=by
 obtain⟨a,b,c,rfl⟩:=zaD L;kernel_rfl
structure Lx where
 p:Pr
 b:Nat
 ra:Nat
 rf:Nat
 rt:Nat
 rn:Nat
 ae:List (zfD×Int)
 fe:List (zfD×Int)
 ne:List (zfD×Int)
def zfH(X:Lx)(s:Bd)(J vv:AV):List AV:=[.lst (X.p.arrays.map Ar.cells),.lst (X.p.funcs.map Fu.cells),.map X.ra,.map X.rf,J,.map X.rt,.map X.rn,vv,.int .i64 s.state,.int .i64 s.loops]
structure RepL (X:Lx) (H:Hp) (S:Nat->Prop) (s:Bd) (lv vv:AV):Prop where
 m:H.get X.b=some (.cells (zfH X s lv vv) 0 true)
 a:H.get X.ra=some (.map (cW X.ae))
 f:H.get X.rf=some (.map (cW X.fe))
 t:H.get X.rt=some (.map (cW (atV s.l 0)))
 n:H.get X.rn=some (.map (cW X.ne))
 nodes:zgS S 2 H 3 lv (s.l.map Nd.cells)
 vars:ji H vv s.vars 0
 o1:X.ra<X.rf
 o2:X.rf<X.rt
 o3:X.rt<X.rn
 o4:X.rn<X.b
 o5:X.b<H.next
 sS:∀k,S k->X.b<k/\k<H.next/\¬zfU vv k
 vS:∀k,zfU vv k->X.b<k/\k<H.next
structure Sm (n:Nat) (H H':Hp):Prop where
 get:∀k,k<n->H'.get k=H.get k
structure FrL (X:Lx) (S:Nat->Prop) (vv:AV) (H:Hp) (S':Nat->Prop) (vv':AV) (H':Hp):Prop where
 next:H.next<=H'.next
 get:∀k,k<H.next->k≠X.b->k≠X.rt->¬S k->¬zfU vv k->H'.get k=H.get k
 sub:∀k,S' k->S k\/H.next<=k
 own:∀k,zfU vv' k->zfU vv k\/H.next<=k
theorem FrL.refl(X:Lx)(S:Nat->Prop)(vv:AV)(H:Hp):FrL X S vv H S vv H:=⟨aE _,fun _ _ _ _ _ _=>rfl,fun _ h=>.inl h,fun _ h=>.inl h⟩
def cG:=@FrL.refl
theorem FrL.trans{X:Lx}{S S' I:Nat->Prop}{v O o:AV}{H H' K:Hp}(h:FrL X S v H S' O H')(k:FrL X S' O H' I o K):FrL X S v H I o K where
 next:=cJ h.next k.next
 get r h1 h2 h3 h4 h5:=by
  rw[k.get r (nr h1 h.next) h2 h3 (fun e=>?_) (fun e=>?_)]
  .exact h.get r h1 h2 h3 h4 h5
  .rcases h.sub r e with e|e
   .exact h4 e
   .omega
  .rcases h.own r e with e|e
   .exact h5 e
   .omega
 sub r e:=by
  rcases k.sub r e with e|e
  .exact h.sub r e
  .exact .inr (cJ h.next e)
 own r e:=by
  rcases k.own r e with e|e
  .exact h.own r e
  .exact .inr (cJ h.next e)
section
variable {X:Lx} {H H':Hp} {S:Nat -> Prop} {s:Bd} {lv vv:AV}
theorem RepL.keep(h:RepL X H S s lv vv)(z:H.next<=H'.next)(J:∀k,k<H.next->(k<=X.b\/S k\/zfU vv k)->H'.get k=H.get k):RepL X H' S s lv vv:=by
 have M:=h.o1;have i:=h.o2;have V:=h.o3;have Y:=h.o4;have U:=h.o5;refine⟨by rw[J _ U (.inl (aE _))];exact h.m,by rw[J _ ac (.inl ac)];exact h.a,by rw[J _ ac (.inl ac)];exact h.f,by rw[J _ ac (.inl ac)];exact h.t,by rw[J _ ac (.inl ac)];exact h.n,h.nodes.keep (fun _ _ h=>h) z fun k j Z=>J k Z (.inr (.inl j)),h.vars.keep z fun k j=>J k (h.vS k j).2 (.inr (.inr j)),M,i,V,Y,ac,fun k j=>?_,fun k j=>?_⟩
 .have:=h.sS k j;exact⟨this.1,ac,this.2.2⟩
 .have:=h.vS k j;omega
theorem RepL.alloc(h:RepL X H S s lv vv)(b:HB):RepL X (H.alloc b) S s lv vv:=h.keep (eh _) fun k j _=>hY
theorem RepL.alloc2(h:RepL X H S s lv vv)(b c:HB):RepL X ((H.alloc b).set H.next c) S s lv vv:=h.keep (eh _) fun k j _=>nP
theorem FrL.alloc{M:Nat->Prop}{z:AV}{zfM:Hp}(h:FrL X M z zfM S vv H)(b:HB):FrL X M z zfM S vv (H.alloc b):=h.trans ⟨eh _,fun k j _ _ _ _=>hY,fun _ h=>.inl h,fun _ h=>.inl h⟩
theorem FrL.alloc2{M:Nat->Prop}{z:AV}{zfM:Hp}(h:FrL X M z zfM S vv H)(b c:HB):FrL X M z zfM S vv ((H.alloc b).set H.next c):=h.trans ⟨eh _,fun k j _ _ _ _=>nP,fun _ h=>.inl h,fun _ h=>.inl h⟩
theorem RepL.setS(h:RepL X H S s lv vv)(x:Int):RepL X (H.set X.b (.cells (zfH X {s with state:=x} lv vv) 0 true)) S {s with state:=x} lv vv/\FrL X S vv H S vv (H.set X.b (.cells (zfH X {s with state:=x} lv vv) 0 true)):=by
 have M:=h.o1;have i:=h.o2;have V:=h.o3;have Y:=h.o4;have Z:=h.o5;have J:∀k,k≠X.b->(H.set X.b (.cells (zfH X {s with state:=x} lv vv) 0 true)).get k=H.get k:=fun k j=>rA;refine⟨⟨iA,EO,EP,EQ,ER,h.nodes.keep (fun _ _ h=>h) (aE _) fun k j z=>J k EN,h.vars.keep (aE _) fun k j=>J k (by have:=h.vS k j;omega),M,i,V,Y,Z,h.sS,h.vS⟩,⟨aE _,fun k _ g _ _ _=>J k g,fun _ h=>.inl h,fun _ h=>.inl h⟩⟩
theorem RepL.setN(h:RepL X H S s lv vv)(x:Nat):RepL X (H.set X.b (.cells (zfH X {s with loops:=x} lv vv) 0 true)) S {s with loops:=x} lv vv/\FrL X S vv H S vv (H.set X.b (.cells (zfH X {s with loops:=x} lv vv) 0 true)):=by
 have M:=h.o1;have i:=h.o2;have V:=h.o3;have Y:=h.o4;have Z:=h.o5;have J:∀k,k≠X.b->(H.set X.b (.cells (zfH X {s with loops:=x} lv vv) 0 true)).get k=H.get k:=fun k j=>rA;refine⟨⟨iA,EO,EP,EQ,ER,h.nodes.keep (fun _ _ h=>h) (aE _) fun k j z=>J k EN,h.vars.keep (aE _) fun k j=>J k (by have:=h.vS k j;omega),M,i,V,Y,Z,h.sS,h.vS⟩,⟨aE _,fun k _ g _ _ _=>J k g,fun _ h=>.inl h,fun _ h=>.inl h⟩⟩
theorem RepL.setV(h:RepL X H S s lv vv){i:Nat}(I:i<s.vars.length)(x:Int):∃r,zgi Tryz.prog 23 vv (.int .i64 (i:Int))=some (.ptr r i)/\iU Tryz.prog H 3 (.ptr r i)=some (.int .i64 (s.vars.getD i 0)) /\
 ∃H',nf Tryz.prog H 3 (.ptr r i) (.int .i64 x)=some H'/\X.b<r/\r<H.next/\zfU vv r/\RepL X H' S {s with vars:=s.vars.set i x} lv vv/\FrL X S vv H S vv H'/\(∀k,k≠r->H'.get k=H.get k)/\H'.next=H.next:=by
 rcases h.vars with⟨_,g⟩|⟨r,U,Z,O,hr⟩
 .rw[g]at I;simp at I
 .have J:zfU vv r:=⟨_,U⟩;have K:=(h.vS r J).1;refine⟨r,?_,?_,H.set r (.cells ((s.vars.set i x).map (.int .i64)) 0 true),?_,K,hr,J,?_,⟨aE _,fun k _ _ _ _ Y=>?_,fun _ h=>.inl h,fun _ h=>.inl h⟩,fun k j=>rA,rfl⟩
  .rw[U,xh Tryz.underlying23 jy I];simp
  .rw[zU Tryz.underlying3 rfl Z,fT,dd,aR I];rfl
  .rw[Zc Z (by rw[cO];exact I),List.map_set]
  .have M:=h.o1;have V:=h.o2;have L:=h.o3;have C:=h.o4;have z:=h.o5;have j:∀k,k≠r->(H.set r (.cells ((s.vars.set i x).map (.int .i64)) 0 true)).get k=H.get k:=fun k j=>rA;refine⟨by rw[j _ ac];exact h.m,by rw[j _ ac];exact h.a,by rw[j _ ac];exact h.f,by rw[j _ ac];exact h.t,by rw[j _ ac];exact h.n,h.nodes.keep (fun _ _ h=>h) (aE _) fun k hS _=>j k fun e=>(h.sS k hS).2.2 (by rw[e];exact J),.inr ⟨r,by rw[U,jk],iA,O,hr⟩,M,V,L,C,z,h.sS,h.vS⟩
  .rw[aQ,af (fun e=>Y (by rw[e];exact J))]
theorem RepL.swapV(h:RepL X H S s lv vv){vw:AV}{l:List Int}(M:ji H vw l 0)(h1:∀k,zfU vw k->X.b<k/\k<H.next/\¬S k):RepL X (H.set X.b (.cells (zfH X {s with vars:=l} lv vw) 0 true)) S {s with vars:=l} lv vw:=by
 have Z:=h.o1;have i:=h.o2;have V:=h.o3;have Y:=h.o4;have U:=h.o5;have J:∀k,k≠X.b->(H.set X.b (.cells (zfH X {s with vars:=l} lv vw) 0 true)).get k=H.get k:=fun k j=>rA;exact⟨iA,EO,EP,EQ,ER,h.nodes.keep (fun _ _ h=>h) (aE _) fun k j z=>J k EN,M.keep (aE _) fun k j=>J k (by have:=h1 k j;omega),Z,i,V,Y,U,fun k j=>⟨(h.sS k j).1,(h.sS k j).2.1,fun e=>(h1 k e).2.2 j⟩,fun k j=>⟨(h1 k j).1,(h1 k j).2.1⟩⟩
end
def tyLoB.tyF:=ad @ej (ad @cN (ad @xo (ad @dH (ad @iD (ad @eQ (ad @iZ (ad @li (ad @Iu (ad @nG (ad @pi (ad @ID (ad @II (ad @IJ (ad @IL (ad @IC (ad @IK (ad @IM (ad @Jt (ad @xK (@xL))))))))))))))))))))
open tyLoB
noncomputable def K1:{c:SC // aH 20 (Tryz.f134.body.getD .skip)=c}:=by
 refine⟨?_,?_⟩;rotate_left
 .simp only[Tryz.f134,bS,aH,zfO,zfL,zfR,zfS,Nat.blt,Nat.ble];rfl
noncomputable def K2:{c:SC // aH 69 (Tryz.f86.body.getD .skip)=c}:=by
 refine⟨?_,?_⟩;rotate_left
 .simp only[Tryz.f86,bS,aH,zfO,zfL,zfR,zfS,Nat.blt,Nat.ble];rfl
def EW(f:FuncId):Bool:=Nat.beq f 134||Nat.beq f 86||Nat.beq f 87||Nat.beq f 88||Nat.beq f 89||Nat.beq f 135||Nat.beq f 136||Nat.beq f 137||Nat.beq f 138||Nat.beq f 162||Nat.beq f 163||Nat.beq f 164||Nat.beq f 185||Nat.beq f 52
structure LowT (tb:List En):Prop where
 pl:∀f,EW f=true->(∀ar,zgw tb f ar=none)/\lQ tb f=false
theorem LowT.plain{i:List En}(h:LowT i){f:FuncId}(Z:EW f=true):Plain (zfn pls i) f:=zgK (h.pl f Z).1 (h.pl f Z).2
theorem K3{cfg:Cfg}(Y:Plain cfg 134)(U:cfg.keep 134=false){H:Hp}{v:AV}{b:List Int}{lo:Nat}(hv:lR H v b lo)(o:b.length<2^38)(n:Int):
 zfs Tryz.prog cfg 134 [v,.int .u64 n] H fun w H'=>lR H' w (b++zht n 8) lo/\H.next<=H'.next/\∀k,k<lo->H'.get k=H.get k:=by
 obtain⟨zfK,i0,L,_⟩:=id hv;have hone:AV.one v=true:=by rw[L];rfl
 clear L;refine zfz (M:=20) (rs:=[.tmp 4]) (Y.call _) Y.ice Y.froz Tryz.func134 rfl rfl K1.2 rfl ?_;dsimp only[K1,zft,Nat.reduceAdd];repeat' (first
  |(apply ah ?_;clear hK K)|apply Rx.o ?_|apply ak ?_|(apply zff fun K hK=>?_)|apply ay ?_|fail)
 refine zgs [1] [] 5 8 (fun i E J=>∃w,E.at 0=w/\lR J w (b++zht n i) lo/\∀k,k<lo->J.get k=H.get k) eE ⟨v,eE,by simpa [zht]using hv,fun _ _=>rfl⟩ ?_;rintro i E J hi V I C hsI ⟨w,k0,O,m⟩;(try simp only[zfT,zfB,a0,zfo,zfv,Nat.reduceBEq, *]at V);(try simp only[zfB, *]at I);(try simp only[zfw,zfI,zgj,b9,Nat.reduceAdd]at C);by_cases g:i<8
 .have Z:(i:Int)<8:=by omega
  have e1:IntKind.wrap .i64 (8*(i:Int))=((8*i:Nat):Int):=by rw[zhb ac ac];omega
  have e2:IntKind.wrap .u64 ((8*i:Nat):Int)=((8*i:Nat):Int):=(by decide:∀i:_root_.Fin 8,IntKind.wrap .u64 ((8*i.val:Nat):Int)=((8*i.val:Nat):Int)) ⟨i,g⟩;have e4:∀(D:BinOp->Sx->Sx->Option Bool) (t:TypeId),zgV Tryz.prog D .shr t (.int .u64 n) (.int .u64 ((8*i:Nat):Int))=some (.int .u64 (n.fdiv (2^ (8*i)))):=fun D t=>bin_shr ac rfl;repeat' (first
   |(apply ah ?_;clear hK K)|apply Ry.o ?_|(apply aL (fun o z=>?_) (fun o z=>?_)<;>try(cases o;done))|apply ak ?_|(apply zff fun K hK=>?_)|apply ay ?_|apply zfh ?_|fail)
  have hwb:D9 (J.alloc (.cells [.int .u8 (mp n i)] 0 true)) w (b++zht n i) lo:=.inr (O.keep (eh _) fun k j=>by rw[zfk,af (by have:=(O.lt j).2;omega)]);have hlo2:lo<=J.next:=by obtain⟨r,im,_,_,_,h1,h2⟩:=O;omega
  obtain⟨v5,H5,a5,s5,n5,f5,o5⟩:=Zh (r:=J.next) (imm:=0) (mp n i) hwb fx kV (by rw[fG,rj];omega);have n5':J.next<=H5.next:=vu
  have o5':∀k,k<lo->H5.get k=H.get k:=fun k j=>by rw[f5 k j,zfk,af ac,m k j]
  clear n5 f5 o5;refine sd zhx zhx (by rw[U];exact a5) ?_;repeat' (first
   |(apply ah ?_;clear hK K)|apply Rx.o ?_|(apply zff fun K hK=>?_)|fail)
  refine⟨ac,eL,eL,zf4,(by simp only[zfo,Nat.reduceBEq, *];exact zhp (n:=8) ac ac),?_⟩;exact⟨v5,eE,by rw[Zi,<-nu];exact s5,o5'⟩
 .have Z:¬(i:Int)<8:=by omega
  repeat' (first
   |(apply ah ?_;clear hK K)|apply Ry.o ?_|(apply aL (fun o z=>?_) (fun o z=>?_)<;>try(cases o;done))|apply ak ?_|(apply zff fun K hK=>?_)|apply ax ?_|apply zfr ?_)
  all_goals (refine⟨zfj,_,zfq,?_⟩;try simp only[zfi])
  have hie:i=8:=ac;rw[hie]at O;exact⟨O,ac,m⟩
theorem fQ.len'{H:Hp}{v:AV}{l:List Int}{lo:Nat}(h:fQ H v l lo)(H':Hp):zf9 Tryz.prog H' 23 v=some (.int .i64 l.length):=by
 rcases h with⟨rfl,rfl⟩|h
 .exact zhH Tryz.underlying23
 .exact h.len
theorem zaF{S:Nat->Prop}{H:Hp}{kv:AV}{kids:List Int}{lo:Nat}(op imm:Int)(j:fQ H kv kids lo)(hS:∀k,zfU kv k->S k):zgq S 2 H [.int .i64 op,.int .i64 imm,kv] (Nd.mk op imm kids).cells:=by
 refine .cons (.int _ _) (.cons (.int _ _) (.cons ?_ .nil));rcases j with⟨rfl,rfl⟩|⟨r,i,rfl,g,m,O,K⟩
 .exact .nilS
 .exact zru kids (hS r ⟨_,rfl⟩) K g m
theorem zaG{H:Hp}{kv:AV}{l:List Int}{lo:Nat}(h:fQ H kv l lo)(a b:Int):zgB Tryz.prog 67 [(0,.int .i64 a),(1,.int .i64 b),(2,kv)]=some (.agg [.int .i64 a,.int .i64 b,kv]):=by
 rcases h with⟨rfl,rfl⟩|⟨r,i,rfl,_⟩<;>kernel_rfl
theorem fQ.one{H:Hp}{kv:AV}{l:List Int}{lo:Nat}(h:fQ H kv l lo):AV.one kv=true:=by
 rcases h with⟨rfl,rfl⟩|⟨r,i,rfl,_⟩<;>rfl
theorem Bn:qL Tryz.prog 3=some (.int .i64 0):=aj
theorem zh4:mH Tryz.prog 9=some .string:=aj
def vA(X:Lx)(S:Nat->Prop)(vv kv:AV)(H:Hp)(n:Nd)(s:Bd)(v:AV)(H':Hp):Prop:=v=.int .i64 (zfg n s).1/\∃j m,RepL X H' j (zfg n s).2 m vv/\H.next<=H'.next/\(∀k,k<H.next->k≠X.b->k≠X.rt->¬S k->H'.get k=H.get k)/\∀k,j k->S k\/zfU kv k\/H.next<=k
set_option maxRecDepth 100000 in
theorem xZ{tb:List En}(hG:LowT tb){X:Lx}{H:Hp}{S:Nat->Prop}{s:Bd}{lv vv kv:AV}(hR:RepL X H S s lv vv)(n:Nd)(Z:fQ H kv n.kids 0)(I:∀k,zfU kv k->X.b<k/\¬S k/\¬zfU vv k)(hr:∀x∈iK s.l n,NdR x)(hlen:s.l.length<2^36):
 zfs Tryz.prog (zfn pls tb) 86 [.ptr X.b 0,.int .i64 n.op,.int .i64 n.imm,kv] H (vA X S vv kv H n s):=by
 have hw:Plain (zfn pls tb) 86:=hG.plain dR;have hap:Plain (zfn pls tb) 134:=hG.plain dR;have hkeep:(zfn pls tb).keep 86=false:=rfl;have hn:NdR n:=hr n (rv.2 (.inr rfl));have hnl:=hn.len;have o1:=hR.o1;have o2:=hR.o2;have o3:=hR.o3;have o4:=hR.o4;have o5:=hR.o5;have hkn:=Z.len';refine zfz (M:=69) (rs:=[.tmp 8]) (hw.call _) hw.ice hw.froz Tryz.func86 rfl rfl K2.2 rfl ?_;dsimp only[K2,zft,Nat.reduceAdd];repeat' (first
  |(apply ah ?_;clear hK K)|apply Rx.o ?_|apply ak ?_|(apply zff fun K hK=>?_)|fail)
 refine aU rfl aV aW ?_;simp only[bi];refine aS ?_ (K3 hap rfl (b:=[IntKind.wrap .u8 n.op]) (lo:=H.next) ⟨H.next,0,rfl,iH,dZ _,aE _,by simp[zfw]⟩ au _);rintro w H1 ⟨hw1,zgn,q1⟩;have n1':H.next<=H1.next:=by simp only[zfw]at zgn;omega
 have q1':∀k,k<H.next->H1.get k=H.get k:=fun k Z=>by rw[q1 k Z,zfk,af ac]
 clear zgn q1;dsimp only[zfp];repeat' (first
  |(apply ah ?_;clear hK K)|apply Rx.o ?_|apply ak ?_|(apply zff fun K hK=>?_)|apply ay ?_|fail)
 refine zgs [0,1,2,3,8,20,21] [] 22 n.kids.length (fun j E J=>∃w,E.at 9=w/\lR J w ([IntKind.wrap .u8 n.op]++zht (IntKind.wrap .u64 n.imm) 8++(n.kids.take j).flatMap fun k=>zht (IntKind.wrap .u64 k) 8) H.next/\Sm H.next H J) eE ⟨w,eE,by simpa using hw1,⟨q1'⟩⟩ ?_;rintro j E J hj hcE hrH hnH hsI ⟨w2,k9,hw2,V⟩;(try simp only[zfT,zfB,a0,zfo,zfv,Nat.reduceBEq, *]at hcE);(try simp only[zfB, *]at hrH);(try simp only[zfw,zfI,zgj,b9,Nat.reduceAdd]at hnH);have n2':H.next<=J.next:=ac
 by_cases C:j<n.kids.length
 .have hlt':(j:Int)<n.kids.length:=by omega
  have htk:n.kids.take (j+1)=n.kids.take j++[n.kids[j]]:=by rw[oA,aR C];rfl
  have hfl:((n.kids.take j).flatMap fun k=>zht (IntKind.wrap .u64 k) 8).length<=8*j:=by
   rw[List.length_flatMap];simp only[rj];have:((n.kids.take j).map fun _=>8).sum=8*(n.kids.take j).length:=by
    generalize n.kids.take j=q;induction q with
    |nil=>rfl
    |cons a q ih=>simp[ih];omega
   rw[this,jR];omega
  have hkb:gM J kv n.kids 0:=by
   rcases Z with⟨_,g⟩|g
   .rw[g]at C;simp at C
   .exact g.keep ac fun k Z=>V.get k (g.lt Z).2
  obtain⟨r,hix,hld⟩:=hkb.at C;generalize n.kids[j]=kd at *;repeat' (first
   |(apply ah ?_;clear hK K)|apply Ry.o ?_|(apply aL (fun hb L=>?_) (fun hb L=>?_)<;>try(cases hb;done))|apply ak ?_|(apply zff fun K hK=>?_)|apply ay ?_|apply zfh ?_|fail)
  refine aU rfl aV aW ?_;simp only[bi];refine aS ?_ (K3 hap rfl hw2 (by rw[fG,fG,rj,List.length_singleton];omega) _);rintro w3 H3 ⟨hw3,n3,q3⟩;dsimp only[zfp];repeat' (first
   |(apply ah ?_;clear hK K)|apply Rx.o ?_|(apply zff fun K hK=>?_)|fail)
  refine⟨ac,eL,eL,zf4,ES,?_⟩;exact⟨w3,eE,by rw[htk,List.flatMap_append,tL,Kz,bi,<-nu];exact hw3,⟨fun k Z=>by rw[q3 k Z];exact V.get k Z⟩⟩
 .have hlt':¬(j:Int)<n.kids.length:=by omega
  have hje:n.kids.take j=n.kids:=fN ac;rw[hje,<-Zz]at hw2;have hcv:=ZA hw2;have Y:RepL X J S s lv vv:=hR.keep n2' fun k Z _=>V.get k Z;have m2:=Y.m;unfold zfH at m2;have hlk:=JT (P:=Tryz.prog) (t:=98) Tryz.underlying98 zh4 Bn Y.t (zgZ n);obtain⟨f1,f2,f3⟩:=Kq hn s.l 0 (fun x hx=>hr x (rv.2 (.inl hx)));clear hje hw1 q1';have hcv':zhJ Tryz.prog J 93 9 w2=some (.str (zgZ n)):=hcv;clear hcv;by_cases O:fZ s.l n<s.l.length
  .rw[dt O]at f1;have f2:=f2 O;rw[f1,f2]at hlk;repeat' (first
    |(apply ah ?_;clear hK K)|apply Ry.o ?_|(apply aL (fun hb L=>?_) (fun hb L=>?_)<;>try(cases hb;done))|apply ak ?_|(apply zff fun K hK=>?_)|(apply zfm 7 [(3,12),(5,12),(6,12)] fun K hK=>?_)|(apply zfx ?_;try intro _)|(apply zfG ?_ ?_<;>clear hK K)|apply br ?_|apply zfh ?_|apply ax ?_|apply zfr ?_)
   all_goals first
    |exact zf6
    |skip
   all_goals (refine⟨zfj,_,zfq,?_⟩;try simp only[zfi])
   have e1:zfg n s=(((fZ s.l n:Nat):Int),s):=by rw[zfg,iK,aq O]
   rw[vA,e1];exact⟨au,S,lv,Y,n2',fun k i _ _ _=>V.get k i,fun k Z=>.inl Z⟩
  .rw[d6 O]at f1;have f3:=f3 O;have hix:fZ s.l n=s.l.length:=by have:=AY s.l n;omega
   have hadd:iK s.l n=s.l++[n]:=by rw[iK,af O]
   rw[f1]at hlk;have hll:∀H',zf9 Tryz.prog H' 22 lv=some (.int .i64 s.l.length):=fun H'=>by
    have:=Y.nodes.len (P:=Tryz.prog) (t:=22) (H':=H') Tryz.underlying22
    rwa [cO]at this
   have hup:jj Tryz.prog J 98 (.map X.rt) (.str (zgZ n)) (.int .i64 s.l.length)=some (J.set X.rt (.map (cW (atV (s.l++[n]) 0)))):=by
    rw[(EA (P:=Tryz.prog) (t:=98) (nm:=zgZ n) Tryz.underlying98 zh4 Y.t).1 ((EC (zgZ n) (atV s.l 0) 0).1 f1).1,<-ztM];simp[cW]
   have hbn:=zaG Z n.op n.imm;have hone:=Z.one;have hbs:∀H,zgW Tryz.prog H 22 1 [(0,.agg [.int .i64 n.op,.int .i64 n.imm,kv])]=some (.sl H.next 0 1 3,H.alloc (.cells [.int .i64 n.op,.int .i64 n.imm,kv] 0 true)):=fun H=>zaE H rfl Kx;have g3:∀k,k≠X.rt->(J.set X.rt (.map (cW (atV (s.l++[n]) 0)))).get k=J.get k:=fun k Z=>by rw[aQ,af Z]
   have g4:∀k,k≠X.rt->k<J.next->((J.set X.rt (.map (cW (atV (s.l++[n]) 0)))).alloc (.cells [.int .i64 n.op,.int .i64 n.imm,kv] 0 true)).get k=J.get k:=fun k Z hl=>by rw[zfk,af fC,g3 k Z]
   have m3:(J.set X.rt (.map (cW (atV (s.l++[n]) 0)))).get X.b=some (.cells (zfH X s lv vv) 0 true):=by rw[g3 _ ac];exact Y.m
   have m4:((J.set X.rt (.map (cW (atV (s.l++[n]) 0)))).alloc (.cells [.int .i64 n.op,.int .i64 n.imm,kv] 0 true)).get X.b=some (.cells (zfH X s lv vv) 0 true):=by rw[g4 _ ac ac];exact Y.m
   have g4n:((J.set X.rt (.map (cW (atV (s.l++[n]) 0)))).alloc (.cells [.int .i64 n.op,.int .i64 n.imm,kv] 0 true)).get J.next=some (.cells [.int .i64 n.op,.int .i64 n.imm,kv] 0 true):=xV
   have hkS:∀k,zfU kv k->k<H.next:=fun k U=>(Z.lt U).2
   obtain⟨H5,a5,s5,n5,q5⟩:=K0 (P:=Tryz.prog) (t:=22) Tryz.underlying22 z7 Ir Is rfl aj (S':=fun k=>S k\/zfU kv k\/k=J.next+1)
    (Y.nodes.keep (S':=S) (H':=(J.set X.rt (.map (cW (atV (s.l++[n]) 0)))).alloc (.cells [.int .i64 n.op,.int .i64 n.imm,kv] 0 true)) (fun _ _ h=>h) (eh _) fun k Z h6=>g4 k (by have:=(Y.sS k Z).1;omega) h6)
    (fun k _ h=>.inl h) (.inr (.inr rfl)) (r:=J.next) (imm:=0) (row:=[.int .i64 n.op,.int .i64 n.imm,kv]) (w:=n.cells) g4n rfl Kx
    (zaF n.op n.imm (lo:=0) (Z.keep mB fun k U=>by rw[g4 k (by have:=(I k U).1;omega) (by have:=hkS k U;omega)];exact V.get k (hkS k U)) fun k U=>⟨.inr (.inl U),fun o m z' e=>(I k U).2.1 (by
      rcases Y.nodes with⟨i,_⟩|⟨q,im,rows,i,g,_⟩
      .rw[i]at e;cases e
      .rw[i]at e;simp only[AV.sl.injEq]at e;rw[<-e.1];exact g)⟩)
    Bb Bb
   rw[cO]at a5 s5;simp only[zfw,zfI]at a5 s5 n5 q5;have hno:∀k,(¬S k)->∀o m z',lv≠.sl k o m z':=fun k Z o m z' e=>Z (by
    rcases Y.nodes with⟨i,_⟩|⟨q,im,rows,i,g,_⟩
    .rw[i]at e;cases e
    .rw[i]at e;simp only[AV.sl.injEq]at e;rw[<-e.1];exact g)
   have m5:H5.get X.b=some (.cells (zfH X s lv vv) 0 true):=by rw[q5 _ ac (hno _ fun e=>xU)];exact m4
   have z:∀k,k<J.next->k≠X.rt->¬S k->H5.get k=J.get k:=fun k i g h3=>by rw[q5 _ ac (hno _ h3)];exact g4 k g i
   have t5:H5.get X.rt=some (.map (cW (atV (s.l++[n]) 0))):=by rw[q5 _ ac (hno _ fun e=>xU),zfk,af fC,aQ,aq rfl]
   have hpo:zfg n s=(((fZ s.l n:Nat):Int),{s with l:=s.l++[n] }):=by rw[zfg,hadd]
   have fin:vA X S vv kv H n s (.int .i64 s.l.length) (H5.set X.b (.cells (zfH X {s with l:=s.l++[n] } (.sl (J.next+1) 0 (s.l.length+1) 3) vv) 0 true)):=by
    rw[vA,hpo,hix];have g6:∀k,k≠X.b->(H5.set X.b (.cells (zfH X {s with l:=s.l++[n] } (.sl (J.next+1) 0 (s.l.length+1) 3) vv) 0 true)).get k=H5.get k:=fun k Z=>by rw[aQ,af Z]
    refine⟨rfl,fun k=>S k\/zfU kv k\/k=J.next+1,_,⟨iA,?_,?_,?_,?_,?_,?_,o1,o2,o3,o4,?_,?_,?_⟩,?_,?_,?_⟩
    .rw[g6 _ ac,z _ ac ac fun e=>xU];exact Y.a
    .rw[g6 _ ac,z _ ac ac fun e=>xU];exact Y.f
    .rw[g6 _ ac];exact t5
    .rw[g6 _ ac,z _ ac ac fun e=>xU];exact Y.n
    .have e:(s.l++[n]).map Nd.cells=s.l.map Nd.cells++[n.cells]:=by simp
     rw[e];refine s5.keep (fun _ _ h=>h) (aE _) fun k Z _=>g6 k ?_;rcases Z with Z|Z|Z
     .have:=(Y.sS _ Z).1;omega
     .have:=(I _ Z).1;omega
     .omega
    .exact Y.vars.keep fC fun k Z=>by rw[g6 k (by have:=(Y.vS k Z).1;omega),z k (Y.vS k Z).2 (by have:=(Y.vS k Z).1;omega) fun e=>(Y.sS k e).2.2 Z]
    .simp only[zfI];omega
    .rintro k (Z|Z|Z)
     .have:=Y.sS k Z;exact⟨this.1,fC,this.2.2⟩
     .have:=I k Z;have g:=hkS k Z;exact⟨this.1,fC,this.2.2⟩
     .refine⟨ac,fC,fun e=>?_⟩;have:=(Y.vS k e).2;omega
    .intro k Z;have:=Y.vS k Z;simp only[zfI];omega
    .simp only[zfI];omega
    .intro k i g h3 h4;rw[g6 k g,z k ac h3 h4];exact V.get k i
    .rintro k (Z|Z|Z)
     .exact .inl Z
     .exact .inr (.inl Z)
     .exact .inr (.inr ac)
   unfold zfH at m3 m4 m5 fin;clear s5 z t5 g3 g4 q5 hkS;repeat' (first
    |(apply ah ?_;clear hK K)|apply Ry.o ?_|apply bM ?_|(apply aL (fun hb L=>?_) (fun hb L=>?_)<;>try(cases hb;done))|apply ak ?_|(apply zff fun K hK=>?_)|(apply zfm 7 [(3,12),(5,12),(6,12)] fun K hK=>?_)|(apply tN 10 fun K hK=>?_)|(apply zfx ?_;try intro _)|(apply zfG ?_ ?_<;>clear hK K)|apply br ?_|apply ax ?_|apply zfr ?_)
   all_goals first
    |exact zf6
    |skip
   all_goals (refine⟨zfj,_,zfq,?_⟩;try simp only[zfi])
   exact fin
end
section
def tyLoC.tyF:=ad @cN (ad @dH (ad @iD (ad @eQ (ad @lP (ad @nF (ad @iZ (ad @pV (ad @nG (@pi)))))))))
open tyLoC
noncomputable def K4:{c:SC // aH 8 (Tryz.f87.body.getD .skip)=c}:=by
 refine⟨?_,?_⟩;rotate_left
 .simp only[Tryz.f87,bS,aH,zfO,zfL,zfR,zfS,Nat.blt,Nat.ble];rfl
noncomputable def K5:{c:SC // aH 18 (Tryz.f138.body.getD .skip)=c}:=by
 refine⟨?_,?_⟩;rotate_left
 .simp only[Tryz.f138,bS,aH,zfO,zfL,zfR,zfS,Nat.blt,Nat.ble];rfl
noncomputable def Bo:{c:SC // aH 19 (Tryz.f164.body.getD .skip)=c}:=by
 refine⟨?_,?_⟩;rotate_left
 .simp only[Tryz.f164,bS,aH,zfO,zfL,zfR,zfS,Nat.blt,Nat.ble];rfl
noncomputable def K6:{c:SC // aH 25 (Tryz.f136.body.getD .skip)=c}:=by
 refine⟨?_,?_⟩;rotate_left
 .simp only[Tryz.f136,bS,aH,zfO,zfL,zfR,zfS,Nat.blt,Nat.ble];rfl
def pC(X:Lx)(S:Nat->Prop)(vv:AV)(H:Hp)(r:Int×Bd)(v:AV)(H':Hp):Prop:=v=.int .i64 r.1/\∃j m,RepL X H' j r.2 m vv/\FrL X S vv H j vv H'
def nQ(X:Lx)(S:Nat->Prop)(vv:AV)(H:Hp)(r:Bd)(v:AV)(H':Hp):Prop:=∃j m Y,RepL X H' j r m Y/\FrL X S vv H j Y H'
def K7(X:Lx)(S:Nat->Prop)(vv:AV)(H:Hp)(r:Bd)(v:AV)(H':Hp):Prop:=∃j m,RepL X H' j r m vv/\FrL X S vv H j vv H'
theorem vA.val{X:Lx}{S:Nat->Prop}{vv kv:AV}{H L H':Hp}{n:Nd}{s:Bd}{v:AV}(h:vA X S vv kv L n s v H')(i:FrL X S vv H S vv L)(j:∀k,zfU kv k->H.next<=k):pC X S vv H (zfg n s) v H':=by
 obtain⟨Z,Y,m,g,V,O,K⟩:=h;refine⟨Z,Y,m,g,cJ i.next V,fun k a b c d e=>?_,fun k a=>?_,fun k a=>.inl a⟩
 .rw[O k (nr a i.next) b c d];exact i.get k a b c d e
 .rcases K k a with a|a|a
  .exact .inl a
  .exact .inr (j k a)
  .exact .inr (cJ i.next a)
theorem vB{r o n z k:Nat}(h:zfU (.sl r o n z) k):k=r:=by
 obtain⟨m,e⟩:=h;simp only[AV.sl.injEq]at e;exact e.1.symm
theorem x3{k:Nat}(h:zfU .nilS k):False:=by
 obtain⟨m,e⟩:=h;cases e
theorem oN{i:List En}(I:LowT i){X:Lx}{H L:Hp}{S:Nat->Prop}{s:Bd}{J vv:AV}(U:RepL X L S s J vv)(O:FrL X S vv H S vv L)(n:Nd){r m:Nat}(M:n.kids.length=m)(C:L.get r=some (.cells (n.kids.map (.int .i64)) 0 true))(hr:H.next<=r)(K:r<L.next)(o:X.b<r)(hS:¬S r)(z:¬zfU vv r)(V:Fin (zfg n s).2){op imm:Int}(Z:n.op=op)(Y:n.imm=imm):
 zfs Tryz.prog (zfn pls i) 86 [.ptr X.b 0,.int .i64 op,.int .i64 imm,.sl r 0 m 1] L (pC X S vv H (zfg n s)):=by
 subst M;subst Z;subst Y;refine aS ?_ (xZ I U n (.inr ⟨r,0,rfl,C,dZ _,dZ _,K⟩) (fun k j=>?_) V.r (uc (ru s.l n).length_le V.l))
 .intro v H' h;exact h.val O fun k j=>by rw[vB j];exact hr
 .rw[vB j];exact⟨o,hS,z⟩
theorem x4{i:List En}(I:LowT i){X:Lx}{H L:Hp}{S:Nat->Prop}{s:Bd}{J vv:AV}(Y:RepL X L S s J vv)(V:FrL X S vv H S vv L)(op imm:Int)(Z:Fin (zfg ⟨op,imm,[]⟩ s).2):
 zfs Tryz.prog (zfn pls i) 86 [.ptr X.b 0,.int .i64 op,.int .i64 imm,.nilS] L (pC X S vv H (zfg ⟨op,imm,[]⟩ s)):=by
 refine aS ?_ (xZ I Y ⟨op,imm,[]⟩ (.inl ⟨rfl,rfl⟩) (fun k j=>(x3 j).elim) Z.r (uc (ru s.l _).length_le Z.l));intro v H' h;exact h.val V fun k j=>(x3 j).elim
theorem RepL.new{X:Lx}{H:Hp}{S:Nat->Prop}{s:Bd}{J vv:AV}(h:RepL X H S s J vv){r:Nat}(hr:H.next<=r):¬S r/\¬zfU vv r/\X.b<r:=⟨fun e=>by have:=(h.sS r e).2.1;omega,fun e=>by have:=(h.vS r e).2;omega,by have:=h.o5;omega⟩
theorem pC.pre{X:Lx}{S M:Nat->Prop}{vv:AV}{H zfM:Hp}{r:Int×Bd}{v:AV}{H':Hp}(h:pC X S vv H r v H')(i:FrL X M vv zfM S vv H):pC X M vv zfM r v H':=by
 obtain⟨Z,j,m,g,Y⟩:=h;exact⟨Z,j,m,g,i.trans Y⟩
theorem vC{i:List En}(I:LowT i){X:Lx}{H L:Hp}{S:Nat->Prop}{s:Bd}{J vv:AV}(Y:RepL X L S s J vv)(V:FrL X S vv H S vv L)(n:Int)(U:Fin (zfg ⟨1,n,[]⟩ s).2):
 zfs Tryz.prog (zfn pls i) 87 [.ptr X.b 0,.int .i64 n] L (pC X S vv H (zfg ⟨1,n,[]⟩ s)):=by
 have Z:Plain (zfn pls i) 87:=I.plain dR;refine zfz (M:=8) (rs:=[.tmp 4]) (Z.call _) Z.ice Z.froz Tryz.func87 rfl rfl K4.2 rfl ?_;dsimp only[K4,zft,Nat.reduceAdd];repeat' (first
  |(apply ah ?_;clear hK K)|apply Rx.o ?_|apply ak ?_|(apply zff fun K hK=>?_)|fail)
 refine aU rfl aV aW ?_;simp only[bi];refine aS ?_ (x4 I Y V 1 n U);rintro v O g;obtain⟨rfl,m⟩:=id g;dsimp only[zfp];repeat' (first
  |(apply ah ?_;clear hK K)|apply Rx.o ?_|apply ax ?_)
 all_goals (refine⟨zfj,_,zfq,?_⟩;try simp only[zfi])
 exact g
theorem x5(H:Hp)(a b:Int):zgW Tryz.prog H 23 2 [(0,.int .i64 a),(1,.int .i64 b)]=some (.sl H.next 0 2 1,H.alloc (.cells [.int .i64 a,.int .i64 b] 0 true)):=aj
theorem K8(H:Hp)(a b c:Int):zgW Tryz.prog H 23 3 [(0,.int .i64 a),(1,.int .i64 b),(2,.int .i64 c)]=some (.sl H.next 0 3 1,H.alloc (.cells [.int .i64 a,.int .i64 b,.int .i64 c] 0 true)):=aj
theorem Bp(H:Hp)(a:Int):zgW Tryz.prog H 23 1 [(0,.int .i64 a)]=some (.sl H.next 0 1 1,H.alloc (.cells [.int .i64 a] 0 true)):=aj
theorem Bq{i:List En}(I:LowT i){X:Lx}{H L:Hp}{S:Nat->Prop}{s:Bd}{J vv:AV}(Y:RepL X L S s J vv)(V:FrL X S vv H S vv L)(t v:Int)(U:Fin (my t v s)):
 zfs Tryz.prog (zfn pls i) 138 [.ptr X.b 0,.int .i64 t,.int .i64 v] L (K7 X S vv H (my t v s)):=by
 have Z:Plain (zfn pls i) 138:=I.plain dR;have zfJ:=Y.m;unfold zfH at zfJ;refine zfz (M:=18) (rs:=[]) (Z.call _) Z.ice Z.froz Tryz.func138 rfl rfl K5.2 rfl ?_;dsimp only[K5,zft,Nat.reduceAdd];have o:=@x5;repeat' (first
  |apply Rx.o ?_|(apply zff fun K hK=>?_)|fail)
 refine aU rfl aV aW ?_;simp only[bi];have m:=Y.new (aE _);refine aS ?_ (oN I (Y.alloc _) (V.alloc _) ⟨27,t,[s.state,v]⟩ rfl iH V.next (cI _) m.2.2 m.1 m.2.1 (U.le ⟨xR _,aE _⟩) rfl rfl);rintro w H2 ⟨rfl,O,C,g,z⟩;have j:=g.m;unfold zfH at j;dsimp only[zfp];repeat' (first
  |(apply ah ?_;clear hK K)|apply Rx.o ?_|apply ct ?_|fail)
 all_goals (refine⟨zfj,_,zfq,?_⟩;try simp only[zfi])
 obtain⟨a,b⟩:=g.setS (zfg ⟨27,t,[s.state,v]⟩ s).1;exact⟨O,C,a,z.trans b⟩
theorem vD{i:List En}(I:LowT i){X:Lx}{H L:Hp}{S:Nat->Prop}{s:Bd}{J vv:AV}(Y:RepL X L S s J vv)(V:FrL X S vv H S vv L)(c a b:Int)(U:Fin (zfA c a b s).2):
 zfs Tryz.prog (zfn pls i) 164 [.ptr X.b 0,.int .i64 c,.int .i64 a,.int .i64 b] L (pC X S vv H (zfA c a b s)):=by
 have Z:Plain (zfn pls i) 164:=I.plain dR;by_cases h:a=b
 .subst h;have e:zfA c a a s=(a,s):=by rw[zfA,aq rfl]
  rw[e];refine zfz (M:=19) (rs:=[.tmp 8]) (Z.call _) Z.ice Z.froz Tryz.func164 rfl rfl Bo.2 rfl ?_;dsimp only[Bo,zft,Nat.reduceAdd];repeat' (first
   |(apply ah ?_;clear hK K)|apply Ry.o ?_|(apply aL (fun o z=>?_) (fun o z=>?_)<;>try(cases o;done))|apply ak ?_|(apply zff fun K hK=>?_)|apply ax ?_)
  all_goals (refine⟨zfj,_,zfq,?_⟩;try simp only[zfi])
  exact⟨rfl,S,J,Y,V⟩
 .have e:zfA c a b s=zfg ⟨22,0,[c,a,b]⟩ s:=by rw[zfA,af h]
  rw[e]at U⊢;have m:=Y.new (aE _);refine zfz (M:=19) (rs:=[.tmp 8]) (Z.call _) Z.ice Z.froz Tryz.func164 rfl rfl Bo.2 rfl ?_;dsimp only[Bo,zft,Nat.reduceAdd];have O:=@K8;repeat' (first
   |(apply ah ?_;clear hK K)|apply Ry.o ?_|(apply aL (fun o z=>?_) (fun o z=>?_)<;>try(cases o;done))|apply ak ?_|(apply zff fun K hK=>?_)|apply zfh ?_|fail)
  refine aU rfl aV aW ?_;simp only[bi];refine aS ?_ (oN I (Y.alloc _) (V.alloc _) ⟨22,0,[c,a,b]⟩ rfl iH V.next (cI _) m.2.2 m.1 m.2.1 U rfl rfl);intro w C g;obtain⟨rfl,j⟩:=id g;dsimp only[zfp];repeat' (first
   |(apply ah ?_;clear hK K)|apply Rx.o ?_|apply ax ?_)
  all_goals (refine⟨zfj,_,zfq,?_⟩;try simp only[zfi])
  exact g
theorem La{Z:List En}(I:LowT Z){X:Lx}{H L:Hp}{S:Nat->Prop}{s:Bd}{J vv:AV}(V:RepL X L S s J vv)(O:FrL X S vv H S vv L)(k:Nat)(i:Int){a:Ar}(ha:X.p.arrays[k]?=some a)(U:Fin (eK a.len i s)):
 zfs Tryz.prog (zfn pls Z) 136 [.ptr X.b 0,.int .i64 (k:Int),.int .i64 i] L (K7 X S vv H (eK a.len i s)):=by
 have Y:Plain (zfn pls Z) 136:=I.plain dR;have zfJ:=V.m;unfold zfH at zfJ;have o:Fin (zfg ⟨19,0,[i,(zfg ⟨1,a.len,[]⟩ s).1]⟩ (zfg ⟨1,a.len,[]⟩ s).2).2:=U.le (qj _ _ _).le;have z:Fin (zfg ⟨1,a.len,[]⟩ s).2:=o.le (zgd _ _).le;refine zfz (M:=25) (rs:=[]) (Y.call _) Y.ice Y.froz Tryz.func136 rfl rfl K6.2 rfl ?_;dsimp only[K6,zft,Nat.reduceAdd];repeat' (first
  |apply Rx.o ?_|apply ak ?_|(apply zff fun K hK=>?_)|fail)
 refine aU rfl aV aW ?_;simp only[bi];refine aS ?_ (vC I V O a.len z);rintro w H2 ⟨rfl,S2,j,g,F2⟩;dsimp only[zfp];have m:=g.new (aE _);have gh0:=@x5;repeat' (first
  |(apply ah ?_;clear hK K)|apply Rx.o ?_|(apply zff fun K hK=>?_)|fail)
 refine aU rfl aV aW ?_;simp only[bi];refine aS ?_ (oN I (g.alloc _) ((cG _ _ _ _).alloc _) ⟨19,0,[i,(zfg ⟨1,a.len,[]⟩ s).1]⟩ rfl iH (aE _) (cI _) m.2.2 m.1 m.2.1 o rfl rfl);rintro w H3 ⟨rfl,S3,lv3,R3,F3⟩;dsimp only[zfp];repeat' (first
  |(apply ah ?_;clear hK K)|fail)
 refine aU rfl aV aW ?_;simp only[bi];refine aS ?_ (Bq I R3 (cG _ _ _ _) 2 _ U);rintro w H4 ⟨S4,C,R4,F4⟩;dsimp only[zfp];repeat' (first
  |(apply ah ?_;clear hK K)|fail)
 all_goals (refine⟨zfj,_,zfq,?_⟩;try simp only[zfi])
 exact⟨S4,C,R4,F2.trans (F3.trans F4)⟩
end
section
def tyLoD.tyF:=ad @ej (ad @cN (ad @dH (ad @iD (ad @eQ (ad @iZ (ad @fP (ad @eR (ad @nG (ad @pi (ad @x5 (@Bp)))))))))))
open tyLoD
noncomputable def oO:{c:SC // aH 110 (Tryz.f89.body.getD .skip)=c}:=by
 refine⟨?_,?_⟩;rotate_left
 .simp only[Tryz.f89,bS,aH,zfO,zfL,zfR,zfS,Nat.blt,Nat.ble];rfl
noncomputable def Lb:{c:SC // aH 58 (Tryz.f137.body.getD .skip)=c}:=by
 refine⟨?_,?_⟩;rotate_left
 .simp only[Tryz.f137,bS,aH,zfO,zfL,zfR,zfS,Nat.blt,Nat.ble];rfl
structure CxOk (X:Lx) (c:Cx):Prop where
 ar:c.arrays=X.p.arrays
 ae:∀nm,em X.ae nm=cp (c.arrays.map (·.name)) nm
 ne:∀nm,em X.ne nm=cp c.names nm
 fe:∀nm,0<=zgz c.funcs nm 0->em X.fe nm=zgz c.funcs nm 0
theorem FrL.box{X:Lx}{L J:Hp}{S Z:Nat->Prop}{s:Bd}{V vv m:AV}(Y:RepL X L S s V vv){b:HB}(h:FrL X S vv (L.alloc b) Z m J):J.get L.next=some b:=by
 have n:=Y.new (aE _);have U:=Y.o3;have O:=Y.o4;rw[h.get _ (cI _) (by have:=n.2.2;omega) (by have:=n.2.2;omega) n.1 n.2.1,zfk,aq rfl]
def fD:=@FrL.box
theorem RepL.lkN{X:Lx}{c:Cx}(g:CxOk X c){H:Hp}{S:Nat->Prop}{s:Bd}{J vv:AV}(Y:RepL X H S s J vv)(nm:zfD):zhv Tryz.prog H 98 (.map X.rn) (.str nm) false=some (.int .i64 (cp c.names nm)):=by
 rw[<-g.ne];exact EB (P:=Tryz.prog) Tryz.underlying98 zh4 Bn Y.n nm
theorem RepL.lkA{X:Lx}{c:Cx}(g:CxOk X c){H:Hp}{S:Nat->Prop}{s:Bd}{J vv:AV}(Y:RepL X H S s J vv)(nm:zfD):zhv Tryz.prog H 98 (.map X.ra) (.str nm) false=some (.int .i64 (cp (c.arrays.map (·.name)) nm)):=by
 rw[<-g.ae];exact EB (P:=Tryz.prog) Tryz.underlying98 zh4 Bn Y.a nm
theorem RepL.lkF{X:Lx}{c:Cx}(g:CxOk X c){H:Hp}{S:Nat->Prop}{s:Bd}{J vv:AV}(Y:RepL X H S s J vv)(nm:zfD)(h:0<=zgz c.funcs nm 0):zhv Tryz.prog H 98 (.map X.rf) (.str nm) false=some (.int .i64 (zgz c.funcs nm 0)):=by
 rw[<-g.fe nm h];exact EB (P:=Tryz.prog) Tryz.underlying98 zh4 Bn Y.f nm
theorem RepL.atV{X:Lx}{H:Hp}{S:Nat->Prop}{s:Bd}{J vv:AV}(h:RepL X H S s J vv){i:Nat}{x:Int}(I:s.vars[i]?=some x):∃r,zgi Tryz.prog 23 vv (.int .i64 (i:Int))=some (.ptr r i)/\iU Tryz.prog H 3 (.ptr r i)=some (.int .i64 x):=by
 have O:i<s.vars.length:=by
  by_cases c:i<s.vars.length
  .exact c
  .rw[gI ac]at I;cases I
 obtain⟨r,Z,g,_⟩:=h.setV O 0;refine⟨r,Z,?_⟩;rw[g,dd,I];rfl
set_option maxRecDepth 100000 in
theorem qp{tb:List En}(I:LowT tb){X:Lx}{c:Cx}(hX:CxOk X c):∀(n:Nat) (x:Ex) (s:Bd) (r:Int×Bd),ed c n x s=some r->Fin r.2->∀{H H1:Hp}{S:Nat->Prop}{lv vv:AV},RepL X H1 S s lv vv->FrL X S vv H S vv H1 ->
 zfs Tryz.prog (zfn pls tb) 89 [.ptr X.b 0,.agg x.cells] H1 (pC X S vv H r)
 |0,x,s,r,h,_,_,_,_,_,_,_,_=>by simp[ed]at h
 |n+1,x,s,r,h,hF,H,H1,S,lv,vv,hR,hf=>by
  have IH:=qp I hX n;have Z:Plain (zfn pls tb) 89:=I.plain dR;have hwc:Plain (zfn pls tb) 137:=I.plain dR;have O:=hR.alloc (.cells x.cells 0 true);have F1:=hf.alloc (.cells x.cells 0 true);have zfJ:=O.m;unfold zfH at zfJ;have nw:=hR.new (aE _);unfold ed at h;by_cases h1:x.kind=1
  .rw[aq h1,az]at h;subst h;refine zfz (M:=110) (rs:=[.tmp 4]) (Z.call _) Z.ice Z.froz Tryz.func89 rfl rfl oO.2 rfl ?_;dsimp only[oO,zft,Nat.reduceAdd];repeat' (first
    |(apply ah ?_;clear hK K)|apply Ry.o ?_|(apply aL (fun o z=>?_) (fun o z=>?_)<;>try(cases o;done))|apply ak ?_|(apply zff fun K hK=>?_)|apply ay ?_|fail)
   refine aU rfl aV aW ?_;simp only[bi];refine aS ?_ (vC I O F1 x.n hF);intro w H2 h2;obtain⟨rfl,h3⟩:=id h2;dsimp only[zfp];repeat' (first
    |(apply ah ?_;clear hK K)|apply Rx.o ?_|apply ax ?_)
   all_goals (refine⟨zfj,_,zfq,?_⟩;try simp only[zfi])
   exact h2
  rw[af h1]at h;by_cases h2:x.kind=2
  .rw[aq h2]at h;obtain⟨v,hv,rfl⟩:=oq.1 h;have hlk:=O.lkN hX x.name;obtain⟨q,hix,hld⟩:=O.atV hv;refine zfz (M:=110) (rs:=[.tmp 4]) (Z.call _) Z.ice Z.froz Tryz.func89 rfl rfl oO.2 rfl ?_;dsimp only[oO,zft,Nat.reduceAdd];repeat' (first
    |(apply ah ?_;clear hK K)|apply Ry.o ?_|(apply aL (fun o z=>?_) (fun o z=>?_)<;>try(cases o;done))|apply ak ?_|(apply zff fun K hK=>?_)|(apply zfm 5 [(3,14),(7,14),(9,14),(10,14),(12,14)] fun K hK=>?_)|(apply zfx ?_;try intro _)|(apply zfG ?_ ?_<;>clear hK K)|apply br ?_|apply ay ?_|apply ax ?_)
   all_goals first
    |exact zf6
    |skip
   all_goals (refine⟨zfj,_,zfq,?_⟩;try simp only[zfi])
   exact⟨rfl,S,lv,O,F1⟩
  rw[af h2]at h;by_cases h3:x.kind=3
  .rw[aq h3]at h;simp only[fw]at h;obtain⟨k,hk,C,he,a,ha,rfl⟩:=h;have ha':X.p.arrays[cp (c.arrays.map (·.name)) x.name]?=some a:=by rw[<-hX.ar];exact ha
   have hFc:Fin (eK a.len C.1 C.2):=hF.le (zgd _ _).le;have hlk1:=O.lkA hX x.name;refine zfz (M:=110) (rs:=[.tmp 4]) (Z.call _) Z.ice Z.froz Tryz.func89 rfl rfl oO.2 rfl ?_;dsimp only[oO,zft,Nat.reduceAdd];repeat' (first
    |(apply ah ?_;clear hK K)|apply Ry.o ?_|(apply aL (fun o z=>?_) (fun o z=>?_)<;>try(cases o;done))|apply ak ?_|(apply zff fun K hK=>?_)|(apply zfm 7 [(2,5),(4,5),(9,5),(9,15),(11,5),(11,15),(12,5),(12,15)] fun K hK=>?_)|(apply zfx ?_;try intro _)|apply br ?_|apply ay ?_|fail)
   refine aU rfl aV aW ?_;simp only[gL];refine aS ?_ (IH k s C he (hFc.le (qk _ _ _).le) O (cG _ _ _ _));rintro v H2 ⟨rfl,S2,lv2,g,Y⟩;have g2:=fD hR Y;have m2:=g.m;unfold zfH at m2;have hlk:=g.lkA hX x.name;have n2:H1.next+1<=H2.next:=Y.next
   dsimp only[zfp];repeat' (first
    |apply Rx.o ?_|apply ak ?_|(apply zff fun K hK=>?_)|(apply zfx ?_;try intro _)|(apply zfG ?_ ?_<;>clear hK K)|apply br ?_|fail)
   .exact zf6
   .refine aU rfl aV aW ?_;simp only[bi];refine aS ?_ (La I g (cG _ _ _ _) (cp (c.arrays.map (·.name)) x.name) C.1 ha' hFc);rintro w H3 ⟨S3,lv3,i,F3⟩;have m3:=i.m;unfold zfH at m3;have V:=i.new (aE _);dsimp only[zfp];repeat' (first
     |(apply ah ?_;clear hK K)|apply Rx.o ?_|apply ak ?_|(apply zff fun K hK=>?_)|fail)
    refine aU rfl aV aW ?_;simp only[bi];refine aS ?_ (oN I (i.alloc _) ((cG _ _ _ _).alloc _) ⟨23,cp (c.arrays.map (·.name)) x.name,[(eK a.len C.1 C.2).state,C.1]⟩ rfl iH (aE _) (cI _) V.2.2 V.1 V.2.1 hF rfl rfl);intro w H4 h4;have h5:=h4.pre (F1.trans (Y.trans F3));obtain⟨rfl,h6⟩:=h4;dsimp only[zfp];repeat' (first
     |(apply ah ?_;clear hK K)|apply Rx.o ?_|apply ax ?_)
    all_goals (refine⟨zfj,_,zfq,?_⟩;try simp only[zfi])
    exact h5
  rw[af h3]at h;by_cases h5:x.kind=5
  .rw[aq h5]at h;simp only[fw]at h;obtain⟨k0,hk0,zfK,e0,k1,hk1,C,e1,k2,hk2,j,e2,rfl⟩:=h;have hFt:Fin (zfA zfK.1 C.2.state (zfA zfK.1 C.1 j.1 j.2).2.state (zfA zfK.1 C.1 j.1 j.2).2).2:=hF.le ⟨xR _,aE _⟩;have hFv:Fin (zfA zfK.1 C.1 j.1 j.2).2:=hFt.le (zg0 _ _ _ _).le;have hF2:Fin j.2:=hFv.le (zg0 _ _ _ _).le;have hF1:Fin C.2:=(hF2.le (zgg c n _ _ _ e2).le).le ⟨xR _,aE _⟩;have hF0:Fin zfK.2:=hF1.le (zgg c n _ _ _ e1).le;refine zfz (M:=110) (rs:=[.tmp 4]) (Z.call _) Z.ice Z.froz Tryz.func89 rfl rfl oO.2 rfl ?_;dsimp only[oO,zft,Nat.reduceAdd];repeat' (first
    |(apply ah ?_;clear hK K)|apply Ry.o ?_|(apply aL (fun o z=>?_) (fun o z=>?_)<;>try(cases o;done))|apply ak ?_|(apply zff fun K hK=>?_)|apply ay ?_|fail)
   refine aU rfl aV aW ?_;simp only[bi];have R1c:=O.alloc (.cells x.cells 0 true);have F1c:=F1.alloc (.cells x.cells 0 true);have main:zfs Tryz.prog (zfn pls tb) 137 [.ptr X.b 0,.agg x.cells] (H1.alloc (.cells x.cells 0 true)) (pC X S vv H ((zfA zfK.1 C.1 j.1 j.2).1,{ (zfA zfK.1 C.2.state (zfA zfK.1 C.1 j.1 j.2).2.state (zfA zfK.1 C.1 j.1 j.2).2).2 with state:=(zfA zfK.1 C.2.state (zfA zfK.1 C.1 j.1 j.2).2.state (zfA zfK.1 C.1 j.1 j.2).2).1})):=by
    clear zfJ nw;refine zfz (M:=58) (rs:=[.tmp 4]) (hwc.call _) hwc.ice hwc.froz Tryz.func137 rfl rfl Lb.2 rfl ?_;dsimp only[Lb,zft,Nat.reduceAdd];repeat' (first
     |(apply ah ?_;clear hK K)|apply Ry.o ?_|apply ak ?_|(apply zff fun K hK=>?_)|fail)
    refine aU rfl aV aW ?_;simp only[bi];refine aS ?_ (IH k0 s zfK e0 hF0 R1c (cG _ _ _ _));rintro v H2 ⟨rfl,S2,lv2,g,Y⟩;have g2:=fD O Y;simp only[zfw]at g2;have m2:=g.m;unfold zfH at m2;dsimp only[zfp];repeat' (first
     |(apply ah ?_;clear hK K)|apply Ry.o ?_|apply ak ?_|(apply zff fun K hK=>?_)|fail)
    refine aU rfl aV aW ?_;simp only[bi];refine aS ?_ (IH k1 _ C e1 hF1 g (cG _ _ _ _));rintro v H3 ⟨rfl,S3,lv3,i,F3⟩;have g3:=fD O (Y.trans F3);have m3:=i.m;obtain⟨R3s,F3s⟩:=i.setS zfK.2.state;have g3s:=fD O (Y.trans (F3.trans F3s));simp only[zfw]at g3 g3s;unfold zfH at m3;dsimp only[zfH]at R3s F3s g3s;dsimp only[zfp];repeat' (first
     |(apply ah ?_;clear hK K)|apply Ry.o ?_|apply bM ?_|apply ak ?_|(apply zff fun K hK=>?_)|fail)
    refine aU rfl aV aW ?_;simp only[bi];refine aS ?_ (IH k2 _ j e2 hF2 R3s (cG _ _ _ _));rintro v H4 ⟨rfl,S4,lv4,R4,F4⟩;dsimp only[zfp];repeat' (first
     |(apply ah ?_;clear hK K)|apply Rx.o ?_|apply ak ?_|(apply zff fun K hK=>?_)|fail)
    refine aU rfl aV aW ?_;simp only[bi];refine aS ?_ (vD I R4 (cG _ _ _ _) zfK.1 C.1 j.1 hFv);rintro v H5 ⟨rfl,S5,lv5,R5,F5⟩;have m5:=R5.m;unfold zfH at m5;dsimp only[zfp];repeat' (first
     |(apply ah ?_;clear hK K)|apply Rx.o ?_|apply ak ?_|(apply zff fun K hK=>?_)|fail)
    refine aU rfl aV aW ?_;simp only[bi];refine aS ?_ (vD I R5 (cG _ _ _ _) zfK.1 C.2.state _ hFt);rintro v H6 ⟨rfl,S6,lv6,R6,F6⟩;have m6:=R6.m;unfold zfH at m6;dsimp only[zfp];repeat' (first
     |(apply ah ?_;clear hK K)|apply Rx.o ?_|apply ct ?_|apply ak ?_|(apply zff fun K hK=>?_)|apply ax ?_)
    all_goals (refine⟨zfj,_,zfq,?_⟩;try simp only[zfi])
    obtain⟨R7,F7⟩:=R6.setS (zfA zfK.1 C.2.state (zfA zfK.1 C.1 j.1 j.2).2.state (zfA zfK.1 C.1 j.1 j.2).2).1;exact⟨rfl,S6,lv6,R7,F1c.trans (Y.trans (F3.trans (F3s.trans (F4.trans (F5.trans (F6.trans F7))))))⟩
   refine aS ?_ main;intro w H2 h2;obtain⟨rfl,h3⟩:=id h2;dsimp only[zfp];repeat' (first
    |(apply ah ?_;clear hK K)|apply Rx.o ?_|apply ax ?_)
   all_goals (refine⟨zfj,_,zfq,?_⟩;try simp only[zfi])
   exact h2
  rw[af h5]at h;simp only[fH]at h;obtain⟨k0,hk0,zfK,e0,h⟩:=h;by_cases hz:x.kids.length=1
  .rw[aq hz,az]at h;subst h;have hF0:Fin zfK.2:=hF.le (zgd _ _).le;have hz':((x.kids.length:Nat):Int)=1:=ac;refine zfz (M:=110) (rs:=[.tmp 4]) (Z.call _) Z.ice Z.froz Tryz.func89 rfl rfl oO.2 rfl ?_;dsimp only[oO,zft,Nat.reduceAdd];repeat' (first
    |(apply ah ?_;clear hK K)|apply Ry.o ?_|(apply aL (fun o z=>?_) (fun o z=>?_)<;>try(cases o;done))|apply ak ?_|(apply zff fun K hK=>?_)|apply ay ?_|apply zfh ?_|fail)
   refine aU rfl aV aW ?_;simp only[bi];refine aS ?_ (IH k0 s zfK e0 hF0 O (cG _ _ _ _));rintro v H2 ⟨rfl,S2,lv2,g,Y⟩;have g2:=fD hR Y;have nw2:=g.new (aE _);dsimp only[zfp];repeat' (first
    |(apply ah ?_;clear hK K)|apply Ry.o ?_|(apply aL (fun o z=>?_) (fun o z=>?_)<;>try(cases o;done))|apply ak ?_|(apply zff fun K hK=>?_)|fail)
   refine aU rfl aV aW ?_;simp only[bi];refine aS ?_ (oN I (g.alloc _) ((cG _ _ _ _).alloc _) ⟨x.op,0,[zfK.1]⟩ rfl iH (aE _) (cI _) nw2.2.2 nw2.1 nw2.2.1 hF rfl rfl);intro w H4 h4;have h5:=h4.pre (F1.trans Y);obtain⟨rfl,h6⟩:=h4;dsimp only[zfp];repeat' (first
    |(apply ah ?_;clear hK K)|apply Rx.o ?_|apply ax ?_)
   all_goals (refine⟨zfj,_,zfq,?_⟩;try simp only[zfi])
   exact h5
  rw[af hz]at h;simp only[fw]at h;obtain⟨k1,hk1,C,e1,rfl⟩:=h;have hz':¬((x.kids.length:Nat):Int)=1:=ac;have L:Fin (if x.op=7\/x.op=8 then mz C.1 C.2 else C.2):=hF.le (zgd _ _).le;have hF1:Fin C.2:=by
   split at L
   .exact L.le (A0 _ _).le
   .exact L
  have hF0:Fin zfK.2:=hF1.le (zgg c n _ _ _ e1).le;generalize hq:(if x.op=7\/x.op=8 then mz C.1 C.2 else C.2)=q at *;refine zfz (M:=110) (rs:=[.tmp 4]) (Z.call _) Z.ice Z.froz Tryz.func89 rfl rfl oO.2 rfl ?_;dsimp only[oO,zft,Nat.reduceAdd];repeat' (first
   |(apply ah ?_;clear hK K)|apply Ry.o ?_|(apply aL (fun o z=>?_) (fun o z=>?_)<;>try(cases o;done))|apply ak ?_|(apply zff fun K hK=>?_)|apply ay ?_|apply zfh ?_|fail)
  refine aU rfl aV aW ?_;simp only[bi];refine aS ?_ (IH k0 s zfK e0 hF0 O (cG _ _ _ _));rintro v H2 ⟨rfl,S2,lv2,g,Y⟩;have g2:=fD hR Y;dsimp only[zfp];repeat' (first
   |(apply ah ?_;clear hK K)|apply Ry.o ?_|(apply aL (fun o z=>?_) (fun o z=>?_)<;>try(cases o;done))|apply ak ?_|(apply zff fun K hK=>?_)|apply zfh ?_|fail)
  refine aU rfl aV aW ?_;simp only[bi];refine aS ?_ (IH k1 _ C e1 hF1 g (cG _ _ _ _));rintro v H3 ⟨rfl,S3,lv3,i,F3⟩;have g3:=fD hR (Y.trans F3);have F123:=F1.trans (Y.trans F3);dsimp only[zfp];by_cases hd:x.op=7\/x.op=8
  .rw[aq hd]at hq;subst hq;have hFq:Fin (zfg ⟨16,0,[C.1,(zfg ⟨1,0,[]⟩ C.2).1]⟩ (zfg ⟨1,0,[]⟩ C.2).2).2:=L.le (qj _ _ _).le;have hFz:Fin (zfg ⟨1,0,[]⟩ C.2).2:=hFq.le (zgd _ _).le;rcases hd with h7|h8
   .repeat' (first
     |(apply ah ?_;clear hK K)|apply Ry.o ?_|(apply bC (fun hg m=>?_) (fun hg m=>?_)<;>try(cases hg;done))|(apply aL (fun o z=>?_) (fun o z=>?_)<;>try(cases o;done))|apply ak ?_|(apply zff fun K hK=>?_)|fail)
    refine aU rfl aV aW ?_;simp only[bi];refine aS ?_ (vC I i (cG _ _ _ _) 0 hFz);rintro v H4 ⟨rfl,S4,lv4,R4,F4⟩;have J:=R4.new (aE _);dsimp only[zfp];repeat' (first
     |apply Rx.o ?_|fail)
    refine aU rfl aV aW ?_;simp only[bi];refine aS ?_ (oN I (R4.alloc _) ((cG _ _ _ _).alloc _) ⟨16,0,[C.1,(zfg ⟨1,0,[]⟩ C.2).1]⟩ rfl iH (aE _) (cI _) J.2.2 J.1 J.2.1 hFq rfl rfl);rintro v H5 ⟨rfl,S5,lv5,R5,F5⟩;dsimp only[zfp];repeat' (first
     |(apply ah ?_;clear hK K)|fail)
    refine aU rfl aV aW ?_;simp only[bi];refine aS ?_ (Bq I R5 (cG _ _ _ _) 1 _ L);rintro v H6 ⟨S6,lv6,R6,F6⟩;have F36:=F4.trans (F5.trans F6);have g6:=fD hR (Y.trans (F3.trans F36));have U:=R6.new (aE _);have R6':RepL X H6 S6 (mz C.1 C.2) lv6 vv:=R6;dsimp only[zfp];repeat' (first
     |(apply ah ?_;clear hK K)|apply Rx.o ?_|apply ak ?_|(apply zff fun K hK=>?_)|fail)
    refine aU rfl aV aW ?_;simp only[bi];refine aS ?_ (oN I (R6'.alloc _) ((cG _ _ _ _).alloc _) ⟨x.op,0,[zfK.1,C.1]⟩ rfl iH (aE _) (cI _) U.2.2 U.1 U.2.1 hF h7 rfl);intro w H7 h7q;have h5q:=h7q.pre (F123.trans F36);obtain⟨rfl,h6q⟩:=h7q;dsimp only[zfp];repeat' (first
     |(apply ah ?_;clear hK K)|apply Rx.o ?_|apply ax ?_)
    all_goals (refine⟨zfj,_,zfq,?_⟩;try simp only[zfi])
    rw[h7]at h5q⊢;exact h5q
   .have h7:¬x.op=7:=by omega
    repeat' (first
     |(apply ah ?_;clear hK K)|apply Ry.o ?_|(apply bC (fun hg m=>?_) (fun hg m=>?_)<;>try(cases hg;done))|(apply aL (fun o z=>?_) (fun o z=>?_)<;>try(cases o;done))|apply ak ?_|(apply zff fun K hK=>?_)|fail)
    refine aU rfl aV aW ?_;simp only[bi];refine aS ?_ (vC I i (cG _ _ _ _) 0 hFz);rintro v H4 ⟨rfl,S4,lv4,R4,F4⟩;have J:=R4.new (aE _);dsimp only[zfp];repeat' (first
     |apply Rx.o ?_|fail)
    refine aU rfl aV aW ?_;simp only[bi];refine aS ?_ (oN I (R4.alloc _) ((cG _ _ _ _).alloc _) ⟨16,0,[C.1,(zfg ⟨1,0,[]⟩ C.2).1]⟩ rfl iH (aE _) (cI _) J.2.2 J.1 J.2.1 hFq rfl rfl);rintro v H5 ⟨rfl,S5,lv5,R5,F5⟩;dsimp only[zfp];repeat' (first
     |(apply ah ?_;clear hK K)|fail)
    refine aU rfl aV aW ?_;simp only[bi];refine aS ?_ (Bq I R5 (cG _ _ _ _) 1 _ L);rintro v H6 ⟨S6,lv6,R6,F6⟩;have F36:=F4.trans (F5.trans F6);have g6:=fD hR (Y.trans (F3.trans F36));have U:=R6.new (aE _);have R6':RepL X H6 S6 (mz C.1 C.2) lv6 vv:=R6;dsimp only[zfp];repeat' (first
     |(apply ah ?_;clear hK K)|apply Rx.o ?_|apply ak ?_|(apply zff fun K hK=>?_)|fail)
    refine aU rfl aV aW ?_;simp only[bi];refine aS ?_ (oN I (R6'.alloc _) ((cG _ _ _ _).alloc _) ⟨x.op,0,[zfK.1,C.1]⟩ rfl iH (aE _) (cI _) U.2.2 U.1 U.2.1 hF h8 rfl);intro w H7 h7q;have h5q:=h7q.pre (F123.trans F36);obtain⟨rfl,h6q⟩:=h7q;dsimp only[zfp];repeat' (first
     |(apply ah ?_;clear hK K)|apply Rx.o ?_|apply ax ?_)
    all_goals (refine⟨zfj,_,zfq,?_⟩;try simp only[zfi])
    rw[h8]at h5q⊢;exact h5q
  .rw[af hd]at hq;subst hq;have h7:¬x.op=7:=fun e=>hd (.inl e);have h8:¬x.op=8:=fun e=>hd (.inr e);have V:=i.new (aE _);repeat' (first
    |(apply ah ?_;clear hK K)|apply Ry.o ?_|(apply bC (fun hg m=>?_) (fun hg m=>?_)<;>try(cases hg;done))|(apply aL (fun o z=>?_) (fun o z=>?_)<;>try(cases o;done))|apply ak ?_|(apply zff fun K hK=>?_)|apply zfh ?_|fail)
   refine aU rfl aV aW ?_;simp only[bi];refine aS ?_ (oN I (i.alloc _) ((cG _ _ _ _).alloc _) ⟨x.op,0,[zfK.1,C.1]⟩ rfl iH (aE _) (cI _) V.2.2 V.1 V.2.1 hF rfl rfl);intro w H4 h4;have h5:=h4.pre F123;obtain⟨rfl,h6⟩:=h4;dsimp only[zfp];repeat' (first
    |(apply ah ?_;clear hK K)|apply Rx.o ?_|apply ax ?_)
   all_goals (refine⟨zfj,_,zfq,?_⟩;try simp only[zfi])
   exact h5
end
end Go.Proofs.YtpbcimfiofmoeaaGreat
