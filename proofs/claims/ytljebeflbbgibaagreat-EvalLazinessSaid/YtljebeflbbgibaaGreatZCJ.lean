/- Parts: I3, SpecV, V2, V3, V4, EvG, EvH, EvI, Bytes, V1, R3c, L4a. -/
import Derived.Test.YtljebeflbbgibaaGreatZCI
set_option linter.unusedSimpArgs false
set_option linter.unusedVariables false
set_option linter.unusedSectionVars false
set_option linter.defProp false
set_option maxHeartbeats 32000000
namespace Go.Ab
set_option maxRecDepth 20000
open Go
theorem sk{P:Prop}(h:P:=by simp only[zcB]at n5;omega):P:=h
theorem Bf{P:Prop}(h:P:=by rw[<- hHb];exact Nat.le_refl _):P:=h
theorem Bg{P:Prop}(h:P:=by rw[<- hHb,Hp.get_set,if_pos rfl]):P:=h
theorem uC{P:Prop}(h:P:=by rw[o];omega):P:=h
theorem Bh{P:Prop}(h:P:=by rw[Hp.get_set,if_pos rfl,A]):P:=h
theorem Bi{P:Prop}(h:P:=by rw[<- U];exact Nat.le_refl _):P:=h
theorem Bj{P:Prop}(h:P:=by rw[List.length_replicate];exact z):P:=h
theorem sm{P:Prop}(h:P:=by simp[zcB]):P:=h
theorem Gt{P:Prop}(h:P:=by rw[List.length_append,List.length_append,zfc,List.length_singleton];omega):P:=h
theorem oX{P:Prop}(h:P:=by simp only[zcz,Nat.reduceBEq, *];exact zeB (n:=n.kids.length) ac ac):P:=h
theorem jz{P:Prop}(h:P:=by simp only[zcz,Nat.reduceBEq, *];exact zeB (n:=l.length) ac ac):P:=h
theorem Gu{P:Prop}(h:P:=by rw[show l.length - i=(l.length - (i+1))+1 by omega];rfl):P:=h
theorem nX{P:Prop}(h:P:=by rw[zcu,if_pos db];rfl):P:=h
theorem Gv{P:Prop}(h:P:=by rw[Hp.get_set,if_neg ac,zcu,if_neg ac];exact hg3):P:=h
theorem Gw{P:Prop}(h:P:=by rw[List.set_append,if_neg ac,hml,Nat.sub_self,List.set_cons_zero]):P:=h
theorem Bk{P:Prop}(h:P:=by rw[Hp.get_set,if_neg ac];exact g45):P:=h
theorem xc{P:Prop}(h:P:=by rw[zcu,if_pos db]):P:=h
theorem Gx{P:Prop}(h:P:=by simp only[zcz,Nat.reduceBEq, *];exact zeB (n:=8) ac ac):P:=h
def Bl:=@List.take_succ_cons
def xd:=@List.map_nil
def Gy:=@List.mem_singleton_self
def xe:=@Int.not_lt
def Gz:=@List.fst_mem_of_mem_zipIdx
def kG:=@Int.tdiv_eq_ediv_of_nonneg
def xf:=@Nat.zero_testBit
def Bm:=@Nat.eq_of_testBit_eq
def xg:=@Nat.or_lt_two_pow
def Bn:=@BitVec.testBit_toNat
def GA:=@Nat.lt_pow_two_of_testBit
def Bo:=@Nat.pow_lt_pow_right
def Bp:=@List.flatMap_nil
def sn:=@Bool.not_or
def uD:=@of_decide_eq_true
end Go.Ab
namespace Go.Proofs.YtljebeflbbgibaaGreat
set_option maxRecDepth 20000
open Go Go.Ab
def tyI3.tyF:=ad @bZ (ad @d8 (ad @eY (ad @eL (ad @cI (ad @uz (@pR))))))
open tyI3
noncomputable def GB:{c:SC // aA 80 (Tryz.f121.body.getD .skip)=c}:=by
 refine⟨?_,?_⟩;rotate_left
 .simp only[Tryz.f121,a3,aA,zcG,zcE,zcJ,zcK,Nat.blt,Nat.ble];rfl
noncomputable def GC:{c:SC // aA 22 (Tryz.f78.body.getD .skip)=c}:=by
 refine⟨?_,?_⟩;rotate_left
 .simp only[Tryz.f78,a3,aA,zcG,zcE,zcJ,zcK,Nat.blt,Nat.ble];rfl
theorem GD(S:Nat->Prop)(n:Nat)(H:Hp):∀s:List Int,zcW (zdf S (n+1) H) (s.map (.int .i64)) (s.map (.int .i64))
 |[]=>trivial
 |a::s=>⟨lj ⟨.int _ _,trivial⟩,GD S n H s⟩
theorem Bq(n:Nat)(s:List Int):bE (n+2) (jk s)=jk s:=by
 show AV.lst ((s.map fun n=>[AV.int .i64 n]).map fun z=>z.map (bE (n+1)))=_;rw[oD];rfl
theorem eh.ic{H:Hp}{v:AV}{s:List Int}{lo:Nat}(h:eh H v s lo):∃u,zdf (fun k=>lo<=k) 3 H v u/\bE 60 u=jk s:=by
 rcases h with⟨rfl,rfl⟩|⟨r,g,rfl,Z,o,U,j⟩
 .exact⟨.nilS,lj ⟨.nilS,trivial⟩,rfl⟩
 .refine⟨.lst (zdP 1 s.length (s.map (.int .i64))),⟨U,j,s.map (.int .i64),g,true,s.map (.int .i64),Z,by simpa using o,aD,?_,rfl⟩,?_⟩
  .rw[dQ,gg,ev aD];exact GD _ _ _ _
  .rw[AS];exact Bq 58 s
theorem eN.icy{S:Nat->Prop}{H H':Hp}{v:AV}{s:List Int}{lo:Nat}(h:eN H v s lo)(k:Icy S H H'):eN H' v s lo:=by
 obtain⟨r,g,rfl,Z,o,U,W⟩:=h;rcases k.same r with e|⟨V,i,j,O,Y,A,J⟩
 .exact⟨r,g,rfl,by rw[<-e];exact Z,o,U,by rw[k.next];exact W⟩
 .rw[Z]at Y;simp only[az,HB.cells.injEq]at Y;obtain⟨rfl,rfl,rfl⟩:=Y;exact⟨r,j,rfl,A,by have:=J (by simpa using o);simpa using this,U,by rw[k.next];exact W⟩
theorem eh.icy{S:Nat->Prop}{H H':Hp}{v:AV}{s:List Int}{lo:Nat}(h:eh H v s lo)(k:Icy S H H'):eh H' v s lo:=h.imp id fun h=>h.icy k
noncomputable def Br:En:=⟨167,true,bX (fun x=>x.2.length<2^30) oW fun x=>.bool (zc1 x.1.op x.2)⟩
theorem XR(ρ:Nat->Int):zdd Tryz.prog ρ Br:=zdk fun x F=>XQ ρ x F
noncomputable def qt:List En:=[kD Br,Gm]
theorem XS(ρ:Nat->Int):eX Tryz.prog ρ qt:=⟨rQ (XR ρ),XI ρ,trivial⟩
theorem GE(n:Nat)(x:Nd):bE (n+4) (.agg x.cells)=.agg x.cells:=by
 show AV.agg (x.cells.map (bE (n+3)))=_;rw[Nd.cells];simp only[dJ,xd,Bq];rfl
theorem XT(y:Nd×List Int):(oW y).any (ji 90)=false:=by
 obtain⟨⟨i,g,L⟩,s⟩:=y;rfl
theorem XU{l:List En}(I:∀z,zdn l 167 z=(kD Br).sp z)(C:iz l 167=true){H:Hp}{v:AV}{s:List Int}{lo:Nat}(L:eh H v s lo)(K:s.length<2^30)(n:Nd):
 zcx Tryz.prog (zcq pls l) 167 [.agg n.cells,v] H fun w H'=>w=.bool (zc1 n.op s)/\Icy (fun k=>lo<=k) H H':=by
 obtain⟨u,i,g⟩:=L.ic;obtain⟨m,o⟩:∃us,zcW (zdf (fun k=>lo<=k) 2 H) n.cells us/\us=n.cells:=by
  refine⟨n.cells,?_,rfl⟩;rw[Nd.cells];exact⟨lj ⟨.int _ _,trivial⟩,lj ⟨.int _ _,trivial⟩,lj ⟨oG _,trivial⟩,trivial⟩
 obtain⟨o,rfl⟩:=o;refine r7 (x:=((n,s):Nd×List Int)) (enc:=oW) (ok:=fun x=>x.2.length<2^30) (out:=fun x=>.bool (zc1 x.1.op x.2)) (us:=[.agg n.cells,u]) (n:=3) XK (fun z=>rx) C XT K ac ⟨⟨n.cells,o,rfl⟩,i,trivial⟩ ?_;show [bE 60 (.agg n.cells),bE 60 u]=_;rw[g,GE 56];rfl
theorem GF{i:Nat}{kn L:List Int}{j:Nat}(O:j<L.length):jt i kn (L.drop j)=if L[j]<0\/(i:Int)<=L[j]\/kn.getD L[j].toNat 0=0 then none else (jt i kn (L.drop (j+1))).map fun s=>kn.getD L[j].toNat 0::s:=by
 rw[d7 O,jt]
def nY(i:Nat)(kn L:List Int)(j:Nat)(s:List Int):Prop:=s.length=j/\jt i kn L=(jt i kn (L.drop j)).map fun t=>s++t
theorem nY.bad{i:Nat}{kn L:List Int}{j:Nat}{s:List Int}(h:nY i kn L j s){Z:Int}(A:L[j]?=some Z)(z:Z<0\/(i:Int)<=Z\/kn.getD Z.toNat 0=0):jt i kn L=none:=by
 obtain⟨O,e⟩:=dD.1 A;rw[h.2,GF O,e,ax z];rfl
theorem nY.next{i:Nat}{kn L:List Int}{j:Nat}{s:List Int}(h:nY i kn L j s){Z:Int}(A:L[j]?=some Z)(z:¬(Z<0\/(i:Int)<=Z\/kn.getD Z.toNat 0=0)):nY i kn L (j+1) (s++[kn.getD Z.toNat 0]):=by
 obtain⟨O,e⟩:=dD.1 A;refine⟨by simp[h.1],?_⟩;rw[h.2,GF O,e,ah z];cases jt i kn (L.drop (j+1))with
 |none=>rfl
 |some t=>simp
theorem nY.done{i:Nat}{kn L:List Int}{s:List Int}(h:nY i kn L L.length s):jt i kn L=some s:=by
 rw[h.2,jy];simp[jt]
theorem xh{l:List Nd}{i:Nat}{kn:List Int}{n:Nd}(m:l[i]?=some n)(h:jt i kn n.kids=none):zeg l i kn=0:=by
 rw[zeg,m];simp only[h]
theorem XV{l:List Nd}{i:Nat}{kn:List Int}{n:Nd}{s:List Int}(m:l[i]?=some n)(h:jt i kn n.kids=some s):zeg l i kn=if zc1 n.op s&&zdi l n then dF n s else 0:=by
 rw[zeg,m];simp only[h]
theorem XW{op:Int}{s:List Int}(h:zc1 op s=true)(j:op=25):s.length=1:=by
 subst j;by_cases c:s.length=1
 .exact c
 .rw[Be dr (by have e:(bc 25).1=1:=rfl;rw[e];omega)]at h;cases h
theorem XX{op:Int}{s:List Int}(h:zc1 op s=true)(W:op=22):s.length=3:=by
 subst W;by_cases c:s.length=3
 .exact c
 .rw[Be dr (by have e:(bc 22).1=3:=rfl;rw[e];omega)]at h;cases h
theorem XY{l:List Nd}{i:Nat}{kn s:List Int}{n:Nd}(C:i<l.length)(j:∀n∈l,n.kids.length<2^30)(Y:jt i kn n.kids=some s)(L:zc1 n.op s=true):uB (l,n):=by
 intro Z;have V:=XW L Z;rw[oU Y]at V;obtain⟨k,W⟩:=lz V;simp only[]at W⊢;obtain⟨o,U,_⟩:=sg Y k (by rw[W];exact Gy _);obtain⟨m,rfl⟩:=ez o;have M:m<l.length:=ac;exact⟨m,l[m],by rw[W];rfl,aO M,by have:=j _ (dj M);omega⟩
set_option maxRecDepth 100000 in
theorem XZ{l:List Nd}{i:Nat}{kn:List Int}{r:Nat}{H:Hp}(hl:l.length<2^30)(hi:i<l.length)(hkl:∀n∈l,n.kids.length<2^30)(hkn:l.length<=kn.length)(A:H.get r=some (.cells (kn.map (.int .i64)) 0 true))(hr:r<H.next):
 zcx Tryz.prog (zcq pls qt) 121 [zdy l,.int .i64 i,.sl r 0 kn.length 1] H fun v H'=>v=.int .i64 (zeg l i kn)/\H.next<=H'.next/\∀k,k<H.next->H'.get k=H.get k:=by
 have hw:Plain (zcq pls qt) 121:=zdm (fun _=>rfl) rfl;have hkeep:(zcq pls qt).keep 121=false:=rfl;have O:l[i]?=some l[i]:=aO hi;have hnk:=hkl _ (dj hi);generalize l[i]=n at *;refine zcv (M:=80) (rs:=[.tmp 6]) (hw.call _) hw.ice hw.froz Tryz.func121 rfl rfl GB.2 rfl ?_;dsimp only[GB,zcr,Nat.reduceAdd];repeat' (first
  |(apply zcl ?_;clear hK K)|apply Rx.o ?_|apply b8 ?_|apply ak ?_|(apply zcm fun K hK=>?_)|apply ay ?_|fail)
 refine zdl [0,1,2,7,16,17] [] 18 n.kids.length (fun j E L=>∃v s,E.at 8=v/\eh L v s (H.next+1)/\nY i kn n.kids j s/\L.get H.next=some (.cells n.cells 0 true)/\∀k,k<H.next->L.get k=H.get k) eE ⟨.nilS,[],eE,.inl ⟨rfl,rfl⟩,⟨rfl,aD⟩,hB,fun k C=>by rw[aU,ah ac,zcu,ah ac]⟩ ?_;rintro j E L hj hcE hrH hnH hsI ⟨v,s,zfs,hv,g,hn7,Z⟩;(try simp only[zcO,zcI,aY,zcz,zcL,Nat.reduceBEq, *]at hcE);(try simp only[zcI,zcL, *]at hrH);(try simp only[zcB,zcS,]at hnH);repeat' (first
  |(apply zcl ?_;clear hK K)|apply Rx.o ?_|(apply aS (fun z V=>?_) (fun z V=>?_)<;>try(cases z;done))|apply ak ?_|(apply zcm fun K hK=>?_)|apply ay ?_|apply zco ?_|apply zcA ?_)
 .have hlt:j<n.kids.length:=by simpa using z
  have J:n.kids[j]?=some n.kids[j]:=aO hlt;generalize n.kids[j]=kd at *;have g2r:L.get r=some (.cells (kn.map (.int .i64)) 0 true):=by rw[Z r hr];exact A
  by_cases c1:kd<0
  .repeat' (first
    |(apply zcl ?_;clear hK K)|apply Ry.o ?_|(apply a8 (fun A I=>?_) (fun A I=>?_)<;>try(cases A;done))|(apply aB (fun z V=>?_) (fun z V=>?_)<;>try(cases z;done))|apply ak ?_|(apply zcm fun K hK=>?_)|apply am ?_|fail)
   all_goals (refine⟨eI,_,eR,?_⟩;try simp only[zcn])
   refine⟨?_,ac,Z⟩;rw[xh O (g.bad J (.inl c1))]
  by_cases c2:(i:Int)<=kd
  .have c1':¬kd<0:=c1;repeat' (first
    |(apply zcl ?_;clear hK K)|apply Ry.o ?_|(apply a8 (fun A I=>?_) (fun A I=>?_)<;>try(cases A;done))|(apply aB (fun z V=>?_) (fun z V=>?_)<;>try(cases z;done))|apply ak ?_|(apply zcm fun K hK=>?_)|apply am ?_|fail)
   all_goals (refine⟨eI,_,eR,?_⟩;try simp only[zcn])
   refine⟨?_,ac,Z⟩;rw[xh O (g.bad J (.inr (.inl c2)))]
  obtain⟨m,rfl⟩:=ez (xe.1 c1);have hml:m<kn.length:=ac;have hgk:kn[m]?=some kn[m]:=aO hml;have hgd:kn.getD (m:Int).toNat 0=kn[m]:=by rw[dL,cJ,hgk];rfl
  have hia:zcU Tryz.prog 23 (.sl r 0 kn.length 1) (.int .i64 (m:Int))=some (.ptr r m):=by rw[mH Tryz.underlying23 jf hml];simp
  have hld:zdZ Tryz.prog L 3 (.ptr r m)=some (.int .i64 kn[m]):=by rw[pS Tryz.underlying3 rfl g2r,dX,hgk];rfl
  generalize kn[m]=x at *;repeat' (first
   |(apply zcl ?_;clear hK K)|apply Ry.o ?_|(apply a8 (fun A I=>?_) (fun A I=>?_)<;>try(cases A;done))|(apply aB (fun z V=>?_) (fun z V=>?_)<;>try(cases z;done))|apply ak ?_|(apply zcm fun K hK=>?_)|apply zco ?_|apply am ?_|fail)
  .all_goals (refine⟨eI,_,eR,?_⟩;try simp only[zcn])
   refine⟨?_,ac,Z⟩;rw[xh O (g.bad J (.inr (.inr (by rw[hgd];assumption))))]
  .have hvb:eh (L.alloc (.cells [.int .i64 x] 0 true)) v s (H.next+1):=hv.keep (f7 _) fun k C=>by rw[zcu,ah (by have:=(hv.lt C).2;omega)]
   obtain⟨v5,H5,a5,s5,n5,f5,o5⟩:=wY (r:=L.next) (imm:=0) x hvb gR ij (by have:=g.1;omega);have hJn:=g.next J (by rw[hgd];rintro(h|h|h)<;>contradiction)
   rw[hgd]at hJn;have n5':L.next<=H5.next:=sk
   clear n5;have o:∀k,k<H.next+1->H5.get k=L.get k:=fun k C=>by rw[f5 k C,zcu,ah ac]
   refine nL eV eV (by rw[hkeep];exact a5) ?_;repeat' (first
    |(apply zcl ?_;clear hK K)|apply Rx.o ?_|(apply zcm fun K hK=>?_)|fail)
   clear f5 o5 a5;refine⟨ac,zcy,zcy,zcT,oX,?_⟩;refine⟨v5,s++[x],eE,.inr s5,hJn,by rw[o _ ac];exact hn7,fun k C=>by rw[o k ac,Z k C]⟩
 .have hje:j=n.kids.length:=by simp at z;omega
  rw[hje]at g;have U:=XV O g.done;have hsl2:s.length<2^30:=by rw[g.1];exact hnk
  repeat' (first
   |(apply zcl ?_;clear hK K)|fail)
  refine bg rfl bh bj ?_;simp only[br];refine a7 ?_ (XU (fun _=>rfl) rfl hv hsl2 n);rintro w H4 ⟨rfl,hy⟩;have n4:=hy.next
  have n4':H.next+1<=H4.next:=ac
  have Y:=hv.icy hy;have g4:H4.get H.next=some (.cells n.cells 0 true):=by rw[hy.out _ ac];exact hn7
  have o4:∀k,k<H.next->H4.get k=H.get k:=fun k C=>by rw[hy.out _ ac,Z k C]
  clear hy n4 hv Z hn7;dsimp only[zcF];cases F:zc1 n.op s with
  |false=>
   repeat' (first
    |(apply zcl ?_;clear hK K)|apply Rx.o ?_|(apply b0 (fun A I=>?_) (fun A I=>?_)<;>try(cases A;done))|(apply aS (fun z V=>?_) (fun z V=>?_)<;>try(cases z;done))|apply ak ?_|(apply zcm fun K hK=>?_)|apply am ?_|fail)
   all_goals (refine⟨eI,_,eR,?_⟩;try simp only[zcn])
   refine⟨?_,ac,o4⟩;rw[U,F];rfl
  |true=>
  have W:=XY hi hkl g.done F;rw[F,de]at U;have kim:∀H,zcx Tryz.prog (zcq pls qt) 168 [zdy l,.agg n.cells] H fun v H'=>v=.bool (zdi l n)/\H'=H:=fun H=>zds (enc:=qr) (ok:=uB) (out:=fun x=>.bool (zdi x.1 x.2)) XG (x:=(l,n)) rfl W;have hq:(16:Int)≠0:=dr;repeat' (first
   |(apply zcl ?_;clear hK K)|apply Rx.o ?_|(apply iU ?_;first|refine Rx.k (kim _) ?_)|(apply b0 (fun A I=>?_) (fun A I=>?_)<;>try(cases A;done))|(apply aS (fun z V=>?_) (fun z V=>?_)<;>try(cases z;done))|apply ak ?_|(apply zcm fun K hK=>?_)|apply ay ?_|apply zco ?_|apply am ?_|fail)
  all_goals (first|(refine⟨eI,_,eR,?_⟩;(try simp only[zcn]);refine⟨?_,ac,o4⟩;rw[U];unfold dF;clear W kim o4 Y U O;simp_all;done)|skip)
  all_goals trace_state
  repeat' (first
   |(apply zcl ?_;clear hK K)|fail)
  have h22:n.op=22:=hC;have hl3:=XX F h22;rcases Y with⟨_,hnil⟩|Y
  .rw[hnil]at hl3;simp at hl3
  obtain⟨q,hix,hlo⟩:=Y.at (i:=1) ac;have hix':zcU Tryz.prog 23 v (.int .i64 1)=some (.ptr q 1):=hix;repeat' (first
   |(apply zcl ?_;clear hK K)|apply Rx.o ?_|apply am ?_|fail)
  all_goals (refine⟨eI,_,eR,?_⟩;try simp only[zcn])
  refine⟨?_,ac,o4⟩;have hgl:s.getD 1 0=s[1]' ac:=by rw[cJ,aO ac];rfl
  rw[U];unfold dF;clear W kim o4 Y U O;simp_all
theorem GG{i:Nat}{a b:List Int}(F:a.length=i):∀V:List Int,jt i (a++b) V=jt i a V
 |[]=>rfl
 |k::V=>by
  rw[jt,jt,GG F V];by_cases h:k<0\/(i:Int)<=k
  .rw[ax ac,ax ac]
  .have e:(a++b).getD k.toNat 0=a.getD k.toNat 0:=by rw[cJ,cJ,i7 ac]
   rw[e]
theorem X0(l:List Nd){i:Nat}(b:List Int):zeg l i (zcZ l i++b)=zeg l i (zcZ l i):=by
 unfold zeg;cases l[i]? with
 |none=>rfl
 |some n=>simp only[GG (zfb l i)]
def jK(l:List Nd):Prop:=l.length<2^30/\∀n∈l,n.kids.length<2^30
def iX(l:List Nd):List AV:=[zdy l]
theorem qu(x y:List Nd)(h:iX x=iX y):x=y:=by
 simp only[iX,cM,aY]at h;exact xa h
theorem X1(ρ:Nat->Int)(l:List Nd)(hl:jK l):a9 Tryz.prog ρ 78 [zdy l] (jk (zcZ l l.length)):=zfi (m:=3) (cfg:=zcq pls qt) fit (lc ρ) (eX.look (XS ρ)) (.cons (ze8 _) .nil) (by
 obtain⟨J,C⟩:=hl;have I:Plain (zcq pls qt) 78:=zdm (fun _=>rfl) rfl;have hmk:∀H:Hp,zeb Tryz.prog H 23 (.int .i64 l.length) (.int .i64 l.length)=some (.sl H.next 0 l.length 1,H.alloc (.cells ((List.replicate l.length (0:Int)).map (.int .i64)) 0 true)):=fun H=>WT _ _ (aM _) ac;refine zcv (M:=22) (rs:=[.tmp 2]) (I.call _) I.ice I.froz Tryz.func78 rfl rfl GC.2 rfl ?_;dsimp only[GC,zcr,Nat.reduceAdd];repeat' (first
  |(apply zcl ?_;clear hK K)|apply Rx.o ?_|apply ak ?_|(apply zcm fun K hK=>?_)|apply ay ?_|fail)
 refine zdl [0,2,3,9] [] 10 l.length (fun i E H=>H.get 0=some (.cells ((zcZ l i++List.replicate (l.length-i) 0).map (.int .i64)) 0 true)) eE (by rw[zcu,ax db];simp[zcZ]) ?_;rintro i E H2 hi U O L hsI g;(try simp only[zcO,zcI,aY,zcz,zcL,Nat.reduceBEq, *]at U);(try simp only[zcI,zcL, *]at O);(try simp only[zcB,zdg,bw]at L);repeat' (first
  |(apply zcl ?_;clear hK K)|apply Rx.o ?_|(apply aS (fun z V=>?_) (fun z V=>?_)<;>try(cases z;done))|apply ak ?_|(apply zcm fun K hK=>?_)|apply ay ?_|apply zco ?_|apply am ?_|apply zcA ?_)
 .have Y:i<l.length:=by simpa using z
  refine bg rfl bh bj ?_;simp only[br];have j:(zcZ l i++List.replicate (l.length-i) (0:Int)).length=l.length:=by rw[fj,zfb,lX];omega
  have o:=XZ (l:=l) (i:=i) (kn:=zcZ l i++List.replicate (l.length-i) 0) (r:=0) (H:=H2) J Y C ac g ac;rw[j]at o;refine a7 ?_ o;rintro w H3 ⟨rfl,hn3,Z⟩;have g3:H3.get 0=_:=(Z 0 ac).trans g;have n3:1<=H3.next:=ac
  rw[X0];dsimp only[zcF];generalize hx:zeg l i (zcZ l i)=x;have F:zcZ l (i+1)=zcZ l i++[x]:=by rw[zcZ,hx]
  repeat' (first
   |apply Ry.o ?_|fail)
  refine mF eV eV (uq g3 (by rw[cR,j];exact Y) x) ?_;repeat' (first
   |(apply zcl ?_;clear hK K)|apply Rx.o ?_|(apply zcm fun K hK=>?_)|fail)
  refine⟨ac,zcy,zcy,zcT,jz,?_⟩;rw[aU,ax rfl,F,<-nV];have W:List.replicate (l.length-i) (0:Int)=0::List.replicate (l.length-(i+1)) 0:=Gu;rw[W,List.set_append,ah oP,zfb,kq,AZ,f8];rfl
 .have A:i=l.length:=by simp at z;omega
  rw[A,kq]at g;repeat' (first
   |(apply zcl ?_;clear hK K)|fail)
  all_goals (refine⟨eI,_,eR,?_⟩;try simp only[zcn])
  have z:eN H2 (.sl 0 0 (zcZ l l.length).length 1) (zcZ l l.length) 0:=⟨0,0,rfl,by rw[g];simp,cK _,cK _,ac⟩;have:=z.iceV 1;rw[zfb]at this;exact this)
noncomputable def Bt:En:=⟨78,true,bX jK iX fun l=>jk (zcZ l l.length)⟩
theorem X2(ρ:Nat->Int):zdd Tryz.prog ρ Bt:=zdk fun l I=>X1 ρ l I
theorem X3{tb:List En}(C:∀z,zdn tb 78 z=Bt.sp z)(l:List Nd)(I:jK l)(H:Hp):zcx Tryz.prog (zcq pls tb) 78 [zdy l] H fun v H'=>v=jk (zcZ l l.length)/\H'=H:=
 zds (enc:=iX) (ok:=jK) (out:=fun l=>jk (zcZ l l.length)) qu (x:=l) (C _) I
theorem jK.take{l:List Nd}(h:jK l)(k:Nat):jK (l.take k):=⟨by rw[iN];have:=h.1;omega,fun n m=>h.2 n (List.mem_of_mem_take m)⟩
theorem X4(l:List Nd)(k:Nat)(j:k<=l.length):zeh Tryz.prog 26 (.lst (l.map Nd.cells)) none (some (.int .i64 (k:Int)))=some (.lst ((l.take k).map Nd.cells)):=by
 have Y:(k:Int)=Int.ofNat k:=rfl;simp only[zeh,Tryz.underlying26,wF,zd3];rw[ax ⟨cK _,by rw[cR];exact j⟩];have A:((l.map Nd.cells).drop 0).take (k-0)=(l.take k).map Nd.cells:=by rw[dQ,vL,yR]
 rw[A];cases l.take k with
 |nil=>rfl
 |cons a l=>simp only[dJ,Nd.clen,bT]
def l9(x:List Nd×Int):List AV:=[zdy x.1,.int .i64 x.2]
theorem GH(x y:List Nd×Int)(h:l9 x=l9 y):x=y:=by
 simp only[l9,cM,AV.int.injEq,aY,fH]at h;exact jT (xa h.1) h.2
end Go.Proofs.YtljebeflbbgibaaGreat
namespace Go.Ab
set_option maxRecDepth 20000
open Go
def qv(a b:Nat):Nat:=a^^^ (a &&& b)
def oY(n:Nd)(h:List Nat)(j:Nat)(k:Int):Nat:=if n.op=31/\dM n.kids.length<=j then qv (h.getD k.toNat 0) (2^ n.imm.toNat)else h.getD k.toNat 0
def mZ(n:Nd)(h:List Nat):Nat->List Int->Nat->Nat
 |_,[],m=>m
 |j,k::ks,m=>mZ n h (j+1) ks (m |||oY n h j k)
def qw(n:Nd)(h:List Nat):Nat:=mZ n h 0 n.kids (if n.op=3 then 2^ (n.imm.tdiv 16).toNat else 0)
def zd4(l:List Nd):Nat->List Nat
 |0=>[]
 |i+1=>zd4 l i++[match l[i]? with|some n=>qw n (zd4 l i)|none=>0]
def qx(n:Nd)(h:List (List Bool))(j:Nat):Bool:=
 (n.kids.zipIdx.any fun p=>(h.getD p.1.toNat []).getD j false&&(!decide (n.op=31) || !decide ((j:Int)=n.imm)||decide ((p.2:Int)<(n.kids.length:Int).tdiv 2)))||(decide (n.op=3)&&decide ((j:Int)=n.imm.tdiv 16))
def zd5(l:List Nd):Nat->List (List Bool)
 |0=>[]
 |i+1=>zd5 l i++[(List.range 16).map fun j=>match l[i]? with|some n=>qx n (zd5 l i) j|none=>false]
theorem so(l:List Nd):∀i,(zd4 l i).length=i
 |0=>rfl
 |i+1=>by rw[zd4,fj,so l i];rfl
theorem oZ(l:List Nd):∀i,(zd5 l i).length=i
 |0=>rfl
 |i+1=>by rw[zd5,fj,oZ l i];rfl
theorem xi(a b j:Nat):(qv a b).testBit j=(a.testBit j && !b.testBit j):=by
 unfold qv;rw[Nat.testBit_xor,Nat.testBit_and];cases a.testBit j<;>cases b.testBit j<;>rfl
theorem Bu(n:Nd)(h:List Nat)(t:Nat):∀(V:List Int) (j m:Nat),(mZ n h j V m).testBit t=(m.testBit t||(V.zipIdx j).any fun p=>(oY n h p.2 p.1).testBit t)
 |[],j,m=>by simp[mZ]
 |k::V,j,m=>by
  rw[mZ,Bu n h t V,Nat.testBit_or,yN,mS,AK]
structure NdOk (n:Nd) (i:Nat):Prop where
 kids:∀k∈n.kids,0<=k/\k<i
 lv:n.op=3->0<=n.imm/\n.imm<=255
 lp:n.op=31->0<=n.imm/\n.imm<=15/\n.kids.length%2=1/\3<=n.kids.length
theorem Bv(a t:Nat):(2^ a).testBit t=decide (a=t):=Nat.testBit_two_pow
theorem Bw{M:Type}{a:List M}{x d:M}{j:Nat}(h:j<a.length):(a++[x]).getD j d=a.getD j d:=by
 rw[cJ,i7 h,<-cJ]
theorem Bx{M:Type}{a:List M}{x d:M}{j:Nat}(h:j=a.length):(a++[x]).getD j d=x:=by
 subst h;rw[cJ,jI (aM _),kq];rfl
theorem xj{l:List Nd}:∀(i:Nat),i<=l.length->(∀j n,j<i->l[j]?=some n->NdOk n j)->∀j,j<i->∀t,((zd4 l i).getD j 0).testBit t=(decide (t<16)&&((zd5 l i).getD j []).getD t false)
 |0,_,_,j,h,_=>by omega
 |i+1,hi,hok,j,hj,t=>by
  have ih:=xj i ac (fun j n O g=>hok j n ac g);rw[zd4,zd5];by_cases e:j<i
  .rw[Bw (by rw[so];exact e),Bw (by rw[oZ];exact e)];exact ih j e t
  .obtain rfl:j=i:=by omega
   rw[Bx (so l j).symm,Bx (oZ l j).symm];obtain⟨n,m⟩:∃n,l[j]?=some n:=⟨l[j],aO ac⟩;have ok:=hok j n (cL _) m;rw[m];simp only;by_cases c:t<16
   .rw[cB c,de,cJ,dX,yQ c];simp only[jp,a3];unfold qw qx;rw[Bu];have Y:(if n.op=3 then 2^ (n.imm.tdiv 16).toNat else 0).testBit t=(decide (n.op=3)&&decide ((t:Int)=n.imm.tdiv 16)):=by
     by_cases c3:n.op=3
     .have:=ok.lv c3;rw[ax c3,Bv,cB c3,de,kF];have V:0<=n.imm.tdiv 16:=Int.tdiv_nonneg this.1 ac;omega
     .rw[ah c3,cX c3];simp
    rw[Y,Bool.or_comm]
    congr 1
    rw[tt,List.any_eq_true,List.any_eq_true];have o:∀p∈n.kids.zipIdx,(oY n (zd4 l j) p.2 p.1).testBit t=(((zd5 l j).getD p.1.toNat []).getD t false&&(!decide (n.op=31) || !decide ((t:Int)=n.imm)||decide ((p.2:Int)<(n.kids.length:Int).tdiv 2))):=fun p hp=>by
     have M:p.1∈n.kids:=Gz hp;have U:=ok.kids _ M;have z:=ih p.1.toNat ac t;rw[cB c,de]at z;unfold oY;by_cases C:n.op=31
     .obtain⟨L,A,K,F⟩:=ok.lp C;have e2:dM n.kids.length=((n.kids.length/2:Nat):Int):=by rw[sh _ ac];omega
      have J:(n.kids.length:Int).tdiv 2=((n.kids.length/2:Nat):Int):=rfl;rw[J,cB C];by_cases W:dM n.kids.length<=p.2
      .rw[ax ⟨C,W⟩,xi,z,Bv];have Z:decide ((p.2:Int)<((n.kids.length/2:Nat):Int))=false:=cX ac;have I:decide (n.imm.toNat=t)=decide ((t:Int)=n.imm):=by rw[kF];omega
       rw[Z,I];simp
      .rw[ah (fun h=>W h.2),z];have Z:decide ((p.2:Int)<((n.kids.length/2:Nat):Int))=true:=cB ac;rw[Z];simp
     .rw[ah (fun h=>C h.1),z,cX C];simp
    constructor
    .rintro⟨p,hp,h⟩;exact⟨p,hp,by rw[<-o p hp];exact h⟩
    .rintro⟨p,hp,h⟩;exact⟨p,hp,by rw[o p hp];exact h⟩
   .rw[cX c,dK];unfold qw;rw[Bu];have Y:(if n.op=3 then 2^ (n.imm.tdiv 16).toNat else 0).testBit t=false:=by
     by_cases c3:n.op=3
     .have:=ok.lv c3;rw[ax c3,Bv];refine cX ?_;have V:n.imm.tdiv 16<16:=by rw[kG this.1];omega
      omega
     .rw[ah c3];simp
    rw[Y,jc,tN];intro p hp;have M:p.1∈n.kids:=Gz hp;have U:=ok.kids _ M;have z:=ih p.1.toNat ac t;rw[cX c,dK]at z;unfold oY;split
    .rw[xi,z];simp
    .rw[z];simp
theorem mask_zero{l:List Nd}{i j:Nat}(C:i<=l.length)(O:∀j n,j<i->l[j]?=some n->NdOk n j)(Z:j<i):decide ((zd4 l i).getD j 0=0)=((List.range 16).all fun t=>!((zd5 l i).getD j []).getD t false):=by
 have h:=xj i C O j Z;rw[tt,decide_eq_true_iff,f9];constructor
 .intro e t Y;have:=h t;rw[e,xf,cB (jb.1 Y),de]at this;rw[<-this];rfl
 .intro e;apply Bm;intro t;rw[h t,xf];by_cases c:t<16
  .have:=e t (jb.2 c);simp only[k9]at this;rw[this,oR]
  .rw[cX c,dK]
end Go.Ab
namespace Go.Proofs.YtljebeflbbgibaaGreat
set_option maxRecDepth 20000
open Go Go.Ab
section
def tyV2.tyF:=ad @cI (ad @bZ (ad @dl (ad @d8 (ad @eY (ad @eL (ad @mK (ad @mL (ad @hM (ad @ju (ad @lm (ad @Vu (ad @mG (@pR)))))))))))))
open tyV2
noncomputable def GI:{c:SC // aA 59 (Tryz.f100.body.getD .skip)=c}:=by
 refine⟨?_,?_⟩;rotate_left
 .simp only[Tryz.f100,a3,aA,zcG,zcE,zcJ,zcK,Nat.blt,Nat.ble];rfl
noncomputable def ss:{c:SC // aA 47 (Tryz.f98.body.getD .skip)=c}:=by
 refine⟨?_,?_⟩;rotate_left
 .simp only[Tryz.f98,a3,aA,zcG,zcE,zcJ,zcK,Nat.blt,Nat.ble];rfl
def fL:List Nd->List Int->Option (List Int)
 |[],t=>some t
 |n::l,t=>if n.op=31 then (if 0<t.getD n.imm.toNat 0 then none else fL l (t.set n.imm.toNat (dM n.kids.length)))else fL l t
def kH(t:List Int)(n:Nd):Bool:=decide (n.op=3)&&decide (0<t.getD (n.imm.tdiv 16).toNat 0)&&decide (t.getD (n.imm.tdiv 16).toNat 0<=n.imm.tmod 16)
def zeC(l:List Nd):Bool:=match fL l (List.replicate 16 0)with
 |none=>false
 |some t=>l.all fun n=>!kH t n
def uE(n:Nd):Prop:=(n.op=31->0<=n.imm/\n.imm<=15)/\(n.op=3->0<=n.imm/\n.imm<=255)
theorem X5(H:Hp):zcX Tryz.prog 208=some ((List.replicate 16 (0:Int)).map (.int .i64)):=af
theorem GJ{r m:Nat}(M:m<16):zcU Tryz.prog 208 (.ptr r 0) (.int .i64 (m:Int))=some (.ptr r m):=by
 have e:zcU Tryz.prog 208 (.ptr r 0) (.int .i64 (Int.ofNat m))=if m<16 then some (.ptr r (0+m*1))else none:=rfl
 rw[show((m:Nat):Int)=Int.ofNat m from rfl,e,ax M];simp
theorem GK{H:Hp}{r imm m:Nat}{t:List Int}(A:H.get r=some (.cells (t.map (.int .i64)) imm true))(M:m<t.length):zdZ Tryz.prog H 3 (.ptr r m)=some (.int .i64 (t.getD m 0)):=by
 rw[pS Tryz.underlying3 rfl A,dX,cJ,aO M];rfl
theorem X6{H:Hp}{r m:Nat}{t:List Int}(A:H.get r=some (.cells (t.map (.int .i64)) 0 true))(M:m<t.length)(n:Int):zet Tryz.prog H 3 (.ptr r m) (.int .i64 n)=some (H.set r (.cells ((t.set m n).map (.int .i64)) 0 true)):=by
 rw[uq A (by rw[cR];exact M),nV]
set_option maxRecDepth 100000 in
theorem X7(ρ:Nat->Int)(l:List Nd)(hl:jK l)(hn:∀n∈l,uE n):a9 Tryz.prog ρ 100 [zdy l] (.bool (zeC l)):=zdv fit (pls:=pls) (l:=[mY]) ⟨w9 ρ,trivial⟩ (.cons (ze8 _) .nil) (.bool _) (by
 obtain⟨hl1,hl2⟩:=hl;have hw:Plain (zcq pls [mY]) 100:=zdm (fun _=>rfl) rfl;have q16:(16:Int)≠0:=dr;refine zcv (M:=59) (rs:=[.tmp 2]) (hw.call _) hw.ice hw.froz Tryz.func100 rfl rfl GI.2 rfl ?_;dsimp only[GI,zcr,Nat.reduceAdd];have gh0:=@X5;repeat' (first
  |(apply zcl ?_;clear hK K)|apply Rx.o ?_|apply ak ?_|(apply zcm fun K hK=>?_)|apply ay ?_|fail)
 refine zdl [0,3,8,9] [] 10 l.length (fun i E H=>∃t:List Int,t.length=16/\H.get 0=some (.cells (t.map (.int .i64)) 0 true)/\fL l (List.replicate 16 0)=fL (l.drop i) t) eE ⟨List.replicate 16 0,aD,nX,aD⟩ ?_;rintro i E L hi J C Y hsI ⟨t,ht,A,g⟩;(try simp only[zcO,zcI,aY,zcz,zcL,Nat.reduceBEq, *]at J);(try simp only[zcI,zcL, *]at C);(try simp only[zcB,zdg,bw]at Y);have hB0:(0 == L.next)=false:=zcD ac;have hC0:(L.next == 0)=false:=zcD ac;have hn2:1<=L.next:=Y
 by_cases W:i<l.length
 .have hlt':(i:Int)<l.length:=by omega
  have hgx:l[i]?=some l[i]:=aO W;have o:=hn _ (dj W);have hnk:=hl2 _ (dj W);have U:fL (l.drop i) t=if l[i].op=31 then (if 0<t.getD l[i].imm.toNat 0 then none else fL (l.drop (i+1)) (t.set l[i].imm.toNat (dM l[i].kids.length)))else fL (l.drop (i+1)) t:=by rw[d7 W,fL]
  generalize l[i]=n at *;have e0:(0 == L.next)=false:=zcD ac;by_cases h31:n.op=31
  .obtain⟨m0,zdY⟩:=o.1 h31;obtain⟨m,hm⟩:=ez m0;have Z:m<16:=ac;rw[ax h31,hm,dL]at U;have hix:=GJ (r:=0) Z;have hgA:∀b,(L.alloc b).get 0=some (.cells (t.map (.int .i64)) 0 true):=fun b=>by rw[zcu,ah ac];exact A
   have F:∀b c,((L.alloc b).set L.next c).get 0=some (.cells (t.map (.int .i64)) 0 true):=fun b c=>by rw[aU,ah ac];exact hgA b
   have hld:=fun b c=>GK (F b c) (m:=m) ac;generalize t.getD m 0=x at *;repeat' (first
    |(apply zcl ?_;clear hK K)|apply Ry.o ?_|apply b7 ?_|(apply bK ?_;first|refine Rx.k (si (fun _=>rfl) _ ac _) ?_)|(apply aB (fun z V=>?_) (fun z V=>?_)<;>try(cases z;done))|apply ak ?_|(apply zcm fun K hK=>?_)|(apply zc4 8 [(1,5),(1,7),(3,5),(4,5)] fun K hK=>?_)|(apply zcV ?_;try intro _)|apply bD ?_|apply zeS rfl ?_|apply ay ?_|apply zco ?_|apply am ?_|fail)
   .all_goals (refine⟨eI,_,eR,?_⟩;try simp only[zcn])
    rw[ax hC]at U;rw[zeC,g,U]
   .refine mF eV eV (X6 (F _ _) ac _) ?_;repeat' (first
     |(apply zcl ?_;clear hK K)|apply Rx.o ?_|(apply zcm fun K hK=>?_)|(apply zcV ?_;try intro _)|(apply zc5 ?_ ?_<;>clear hK K)|fail)
    .exact eK
    .refine⟨ac,zcy,zcy,zcT,jz,?_⟩;exact⟨t.set m (dM n.kids.length),by rw[lW];exact ht,hB,by rw[g,U,ah hC]⟩
  .rw[ah h31]at U;repeat' (first
    |(apply zcl ?_;clear hK K)|apply Ry.o ?_|apply b7 ?_|(apply aB (fun z V=>?_) (fun z V=>?_)<;>try(cases z;done))|apply ak ?_|(apply zcm fun K hK=>?_)|apply ay ?_|apply zco ?_|apply zcA ?_)
   refine⟨ac,zcy,zcy,zcT,jz,?_⟩;exact⟨t,ht,by rw[aU,ah ac,zcu,ah ac];exact A,by rw[g,U]⟩
 .have hlt':¬(i:Int)<l.length:=by omega
  repeat' (first
   |(apply zcl ?_;clear hK K)|apply Ry.o ?_|(apply aB (fun z V=>?_) (fun z V=>?_)<;>try(cases z;done))|apply ak ?_|(apply zcm fun K hK=>?_)|apply ay ?_|apply zcA ?_)
  have hie:l.drop i=[]:=oQ ac;rw[hie,fL]at g;have hvl:zeC l=l.all fun n=>!kH t n:=by rw[zeC,g]
  rw[hvl];clear hie g hvl;refine zdl [3,30,31] [] 32 l.length (fun i E H=>H.get 0=some (.cells (t.map (.int .i64)) 0 true)/\(l.all fun n=>!kH t n)=(l.drop i).all fun n=>!kH t n) eE ⟨A,aD⟩ ?_;rintro j E3 H3 hj J C Y hsI ⟨hg3,g⟩;(try simp only[zcO,zcI,aY,zcz,zcL,Nat.reduceBEq, *]at J);(try simp only[zcI, *]at C);(try simp only[zcB,zcS,zdg,bw,Nat.reduceAdd]at Y);have hB0:(0 == H3.next)=false:=zcD ac;have hC0:(H3.next == 0)=false:=zcD ac;have hn3:1<=H3.next:=ac
  by_cases hjt:j<l.length
  .have hjt':(j:Int)<l.length:=by omega
   have hgx:l[j]?=some l[j]:=aO hjt;have o:=hn _ (dj hjt);have U:((l.drop j).all fun n=>!kH t n)=(!kH t l[j]&&(l.drop (j+1)).all fun n=>!kH t n):=by rw[d7 hjt,mR]
   generalize l[j]=n at *;have e0:(0 == H3.next)=false:=zcD ac;by_cases h3:n.op=3
   .obtain⟨m0,zdY⟩:=o.2 h3;have hd:n.imm.tdiv 16=n.imm/16:=kG m0;have hd0:0<=n.imm.tdiv 16:=by rw[hd];omega
    obtain⟨m,hm⟩:=ez hd0;have Z:m<16:=ac;have I:kH t n=(decide (0<t.getD m 0)&&decide (t.getD m 0<=n.imm.tmod 16)):=by rw[kH,hm,h3,dL];rfl
    have ew:IntKind.wrap .i64 (n.imm.tdiv 16)=m:=by rw[hm];exact zej ac ac
    have hix:=GJ (r:=0) Z;have F:∀b c,((H3.alloc b).set H3.next c).get 0=some (.cells (t.map (.int .i64)) 0 true):=fun b c=>Gv;have hld:=fun b c=>GK (F b c) (m:=m) ac;generalize t.getD m 0=x at *;clear hd hm;repeat' (first
     |(apply zcl ?_;clear hK K)|apply Ry.o ?_|apply b7 ?_|(apply aB (fun z V=>?_) (fun z V=>?_)<;>try(cases z;done))|apply ak ?_|(apply zcm fun K hK=>?_)|(apply zc4 13 [(1,22),(5,22),(8,22),(13,22),(16,22),(19,22)] fun K hK=>?_)|(apply zcV ?_;try intro _)|(apply zc5 ?_ ?_<;>clear hK K)|apply bD ?_|(apply iC (fun A O=>?_) (fun A O=>?_)<;>try(cases A;done))|apply ay ?_|apply zco ?_|apply am ?_|fail)
    all_goals first
     |exact eK
     |(refine⟨eI,_,dA,?_⟩
       simp only[zcn];rw[g,U,I];simp_all;done)
     |skip
    all_goals
     refine⟨ac,zcy,zcy,zcT,jz,?_⟩;exact⟨F _ _,by rw[g,U,I];simp_all⟩
   .have I:kH t n=false:=by rw[kH,cX h3];rfl
    repeat' (first
     |(apply zcl ?_;clear hK K)|apply Ry.o ?_|apply b7 ?_|(apply aB (fun z V=>?_) (fun z V=>?_)<;>try(cases z;done))|apply ak ?_|(apply zcm fun K hK=>?_)|(apply zc4 13 [(1,22),(5,22),(8,22),(13,22),(16,22),(19,22)] fun K hK=>?_)|(apply zcV ?_;try intro _)|(apply zc5 ?_ ?_<;>clear hK K)|apply bD ?_|(apply iC (fun A O=>?_) (fun A O=>?_)<;>try(cases A;done))|apply ay ?_|apply zco ?_|fail)
    all_goals first
     |exact eK
     |skip
    refine⟨ac,zcy,zcy,zcT,jz,?_⟩;exact⟨Gv,by rw[g,U,I];rfl⟩
  .have hjt':¬(j:Int)<l.length:=by omega
   repeat' (first
    |(apply zcl ?_;clear hK K)|apply Ry.o ?_|(apply aB (fun z V=>?_) (fun z V=>?_)<;>try(cases z;done))|apply ak ?_|(apply zcm fun K hK=>?_)|apply am ?_|apply zcA ?_)
   all_goals (refine⟨eI,_,eR,?_⟩;try simp only[zcn])
   rw[g,oQ ac];rfl)
end
section
def tyV3.tyF:=ad @cI (ad @bZ (ad @dl (ad @d8 (ad @eY (ad @eL (ad @mK (ad @mL (ad @hM (ad @ju (@lm))))))))))
open tyV3
structure VrX where
 u:Un
 g:Gr
 n:Nd
def qy(x:VrX):List AV:=[.agg x.u.cells,.agg x.g.cells,.agg x.n.cells]
theorem X8(x y:VrX)(h:qy x=qy y):x=y:=by
 obtain⟨a,b,c⟩:=x;obtain⟨M,i,Z⟩:=y;simp only[qy,cM,AV.agg.injEq,aY]at h;rw[Un.inj h.1,Gr.inj h.2.1,nS h.2.2]
def eF(u:Un)(g:Gr)(n:Nd):Bool:=
 if n.op=2 then decide (n.imm<g.params)
 else if n.op=23\/n.op=28 then decide (n.imm<u.arrays.length)
 else if n.op=30 then decide (n.imm<u.funcs.length)&&decide ((n.kids.length:Int)-1=(u.funcs.map Gr.params).getD n.imm.toNat 0)
 else true
def By(x:VrX):Prop:=(x.n.op=30->0<=x.n.imm)/\x.n.kids.length<2^30/\x.u.arrays.length<2^30/\x.u.funcs.length<2^30
theorem X9(ρ:Nat->Int)(x:VrX)(O:By x):a9 Tryz.prog ρ 98 (qy x) (.bool (eF x.u x.g x.n)):=zdv fit (pls:=pls) (l:=[]) trivial (.cons (.agg (rS _)) (.cons (.agg (Gr.pure _)) (.cons (.agg (rR _)) .nil))) (.bool _) (by
 obtain⟨u,g,n⟩:=x;obtain⟨Y,j,C,i⟩:=O;have J:=zdM 98;rw[qy];simp only[]at Y j C i⊢;by_cases F:n.op=30
 .have h0:=Y F;obtain⟨m,o⟩:=ez h0;have e1:IntKind.wrap .i64 ((n.kids.length:Int)-1)=(n.kids.length:Int)-1:=zej ac ac;have hr:eF u g n=(decide ((m:Int)<u.funcs.length)&&decide ((n.kids.length:Int)-1=(u.funcs.map Gr.params).getD m 0)):=by
   rw[eF,ah ac,ah ac,ax F,o,dL]
  by_cases W:m<u.funcs.length
  .have Z:(m:Int)<u.funcs.length:=by omega
   have U:u.funcs[m]?=some u.funcs[m]:=aO W;have L:(u.funcs.map Gr.params).getD m 0=u.funcs[m].params:=by rw[cJ,dX,U];rfl
   rw[L]at hr;clear L;generalize u.funcs[m]=q at *;refine zcv (M:=47) (rs:=[.tmp 6]) (J.call _) J.ice J.froz Tryz.func98 rfl rfl ss.2 rfl ?_;dsimp only[ss,zcr,Nat.reduceAdd];repeat' (first
    |(apply zcl ?_;clear hK K)|apply Ry.o ?_|(apply aB (fun z V=>?_) (fun z V=>?_)<;>try(cases z;done))|apply ak ?_|(apply zcm fun K hK=>?_)|(apply zc4 8 [(1,21),(3,21),(4,21),(8,21),(9,21),(12,21),(14,21),(17,21)] fun K hK=>?_)|(apply zcV ?_;try intro _)|(apply zc5 ?_ ?_<;>clear hK K)|apply bD ?_|(apply iC (fun A I=>?_) (fun A I=>?_)<;>try(cases A;done))|apply ay ?_|apply zco ?_|apply am ?_)
   all_goals first
    |exact eK
    |(refine⟨eI,_,dA,?_⟩
      simp only[zcn];rw[hr];simp_all;done)
  .have Z:¬(m:Int)<u.funcs.length:=by omega
   refine zcv (M:=47) (rs:=[.tmp 6]) (J.call _) J.ice J.froz Tryz.func98 rfl rfl ss.2 rfl ?_;dsimp only[ss,zcr,Nat.reduceAdd];repeat' (first
    |(apply zcl ?_;clear hK K)|apply Ry.o ?_|(apply aB (fun z V=>?_) (fun z V=>?_)<;>try(cases z;done))|apply ak ?_|(apply zcm fun K hK=>?_)|(apply zc4 8 [(1,21),(3,21),(4,21),(8,21),(9,21),(12,21),(14,21),(17,21)] fun K hK=>?_)|(apply zcV ?_;try intro _)|(apply zc5 ?_ ?_<;>clear hK K)|apply bD ?_|(apply iC (fun A I=>?_) (fun A I=>?_)<;>try(cases A;done))|apply ay ?_|apply zco ?_|apply am ?_)
   all_goals first
    |exact eK
    |(refine⟨eI,_,dA,?_⟩
      simp only[zcn];rw[hr,cX Z];rfl)
 .refine zcv (M:=47) (rs:=[.tmp 6]) (J.call _) J.ice J.froz Tryz.func98 rfl rfl ss.2 rfl ?_;dsimp only[ss,zcr,Nat.reduceAdd];repeat' (first
   |(apply zcl ?_;clear hK K)|apply Ry.o ?_|(apply aB (fun z V=>?_) (fun z V=>?_)<;>try(cases z;done))|apply ak ?_|(apply zcm fun K hK=>?_)|(apply zc4 8 [(1,21),(3,21),(4,21),(8,21),(9,21),(12,21),(14,21),(17,21)] fun K hK=>?_)|(apply zcV ?_;try intro _)|(apply zc5 ?_ ?_<;>clear hK K)|apply bD ?_|(apply iC (fun A I=>?_) (fun A I=>?_)<;>try(cases A;done))|apply ay ?_|apply zco ?_|apply am ?_)
  all_goals first
   |exact eK
   |(refine⟨eI,_,dA,?_⟩
     simp only[zcn];simp_all[eF];done))
end
section
def tyV4.tyF:=ad @cI (ad @bZ (ad @d8 (ad @eY (ad @eL (ad @wG (ad @At (ad @uf (ad @Az (@mG)))))))))
open tyV4
noncomputable def GL:{c:SC // aA 81 (Tryz.f101.body.getD .skip)=c}:=by
 refine⟨?_,?_⟩;rotate_left
 .simp only[Tryz.f101,a3,aA,zcG,zcE,zcJ,zcK,Nat.blt,Nat.ble];rfl
theorem Bz{m:Nat}(h:m<2^32):IntKind.wrap .u32 (m:Int)=m:=by
 exact IntWalk.u32_in _ ac
theorem xl{a:Nat}(h:a<2^32):(BitVec.ofInt 32 (a:Int)).toNat=a:=by
 rw[BitVec.ofInt_natCast,BitVec.toNat_ofNat,Nat.mod_eq_of_lt h]
theorem GM{a b:Nat}(F:a<2^32)(z:b<2^32):IntKind.wrap .u32 (((BitVec.ofInt (IntKind.bits .u32) (a:Int) |||BitVec.ofInt (IntKind.bits .u32) (b:Int)).toNat:Nat):Int)=((a |||b:Nat):Int):=by
 have e:IntKind.bits .u32=32:=rfl;rw[e,BitVec.toNat_or,xl F,xl z];exact Bz (xg F z)
theorem Ya{a b:Nat}(F:a<2^32)(z:b<2^32):IntKind.wrap .u32 (((BitVec.ofInt (IntKind.bits .u32) (a:Int) &&& ~~~ BitVec.ofInt (IntKind.bits .u32) (b:Int)).toNat:Nat):Int)=((qv a b:Nat):Int):=by
 have e:IntKind.bits .u32=32:=rfl;have h:(BitVec.ofInt 32 (a:Int) &&& ~~~ BitVec.ofInt 32 (b:Int)).toNat=qv a b:=by
  apply Bm;intro j;rw[xi];rw[Bn,BitVec.getLsbD_and,BitVec.getLsbD_not,<-Bn,<-Bn,xl F,xl z];by_cases O:j<32
  .simp[O]
  .have:a.testBit j=false:=Nat.testBit_lt_two_pow (fZ F (Nat.pow_le_pow_right ac ac));simp[this]
 rw[e,h];refine Bz ?_;rw[<-h];exact(BitVec.ofInt 32 (a:Int) &&& ~~~ BitVec.ofInt 32 (b:Int)).isLt
theorem GN{a b:Nat}(F:a<2^32):qv a b<2^32:=by
 apply GA;intro j O;rw[xi];have:a.testBit j=false:=Nat.testBit_lt_two_pow (fZ F (Nat.pow_le_pow_right ac O));simp[this]
def en(h:List Nat):List AV:=h.map fun(m:Nat)=>AV.int .u32 (m:Int)
def uF(h:List Nat):AV:=.lst (h.map fun(m:Nat)=>[AV.int .u32 (m:Int)])
theorem xm(h:List Nat):(en h).length=h.length:=cR _
theorem GO{D:BinOp->Sx->Sx->Option Bool}{t:TypeId}{M:IntKind}{m:Nat}(h:m<32):zdr Tryz.prog D .shl t (.int .u32 1) (.int M (m:Int))=some (.int .u32 ((2^ m:Nat):Int)):=by
 have e:zdr Tryz.prog D .shl t (.int .u32 1) (.int M (Int.ofNat m))=some (.int .u32 (IntKind.wrap .u32 (1*2^ min m 32))):=rfl;rw[show((m:Nat):Int)=Int.ofNat m from rfl,e,show min m 32=m by omega];have:(1:Int)*2^ m=((2^ m:Nat):Int):=by push_cast;omega
 rw[this,Bz (Bo ac h)]
theorem Yb{D:BinOp->Sx->Sx->Option Bool}{t:TypeId}{k:IntKind}{a b:Int}:zdr Tryz.prog D .andNot t (.int k a) (.int k b)=some (.int k (k.wrap (BitVec.ofInt k.bits a &&& ~~~ BitVec.ofInt k.bits b).toNat)):=lP
theorem Yc(n:Nat):gw [.int .u32 0] n=en (List.replicate n 0):=by
 induction n with
 |zero=>rfl
 |succ n ih=>simp only[gw,ih];simp[en,qi]
theorem GP{H:Hp}(n:Nat)(O:n<2^40):zeb Tryz.prog H 74 (.int .i64 n) (.int .i64 n)=some (.sl H.next 0 n 1,H.alloc (.cells (en (List.replicate n 0)) 0 true)):=by
 have M:zdO=70368744177664:=rfl;show zeb Tryz.prog H 74 (.int .i64 (Int.ofNat n)) (.int .i64 (Int.ofNat n))=_;simp only[zeb,Tryz.underlying74,wJ,ED,EE];rw[ax ⟨aM _,jS,jS,rfl⟩,Yc]
theorem xn{r n m:Nat}(M:m<n):zcU Tryz.prog 74 (.sl r 0 n 1) (.int .i64 (m:Int))=some (.ptr r m):=by rw[mH Tryz.underlying74 wJ M];simp
theorem xo{H:Hp}{r imm m:Nat}{h:List Nat}(A:H.get r=some (.cells (en h) imm true))(M:m<h.length):zdZ Tryz.prog H 125 (.ptr r m)=some (.int .u32 ((h.getD m 0:Nat):Int)):=by
 rw[pS Tryz.underlying125 rfl A,en,dX,cJ,aO M];rfl
theorem uG{H:Hp}{r m:Nat}{h:List Nat}(A:H.get r=some (.cells (en h) 0 true))(M:m<h.length)(x:Nat):zet Tryz.prog H 125 (.ptr r m) (.int .u32 (x:Int))=some (H.set r (.cells (en (h.set m x)) 0 true)):=by
 have J:m<(en h).length:=by rw[xm];exact M
 rw[rG,A,wJ,wm,Ab.cells_int,splice_one _ J,ax ⟨rfl,cK _,J,rfl⟩];simp[en,nV]
theorem BA(H:Hp)(n:Nat):∀h:List Nat,iceL (iceV H (n+1)) (en h)=some (en h)
 |[]=>rfl
 |a::l=>by
  have:=BA H n l;have e:iceV H (n+1) (.int .u32 (a:Int))=some (.int .u32 (a:Int)):=rfl;simp only[en,dJ,iceL,e]at this⊢;rw[this]
theorem GQ(h:List Nat):zdP 1 h.length (en h)=h.map fun(m:Nat)=>[AV.int .u32 (m:Int)]:=by
 induction h with
 |nil=>rfl
 |cons a l ih=>simp only[en,dJ,dg,zdP,Bl,uu,ui,dQ]at ih⊢;rw[ih]
theorem Yd{H:Hp}{l:List Nd}{r:Nat}(A:H.get r=some (.cells (en (zd4 l l.length++List.replicate 0 0)) 0 true)):iceV H 3 (.sl r 0 l.length 1)=some (uF (zd4 l l.length)):=by
 have I:=so l l.length;rw[List.replicate_zero,br]at A;generalize zd4 l l.length=h at *;have e:iceV H 3 (.sl r 0 l.length 1)=match H.get r with
  |some (.cells W _ _)=>match iceL (iceV H 2) ((W.drop 0).take (l.length*1))with
   |some j=>if j.length=l.length*1 then some (.lst (zdP 1 l.length j))else none
   |none=>none
  |_=>none:=rfl
 rw[e,A];simp only[dQ,gg];rw[ev (by rw[xm];omega),BA];simp only[xm,I,bT];rw[<-I,GQ];rfl
def qz(l:List Nd):Prop:=jK l/\∀i n,l[i]?=some n->NdOk n i
theorem BB{l:List Nd}(I:qz l){i j:Nat}(C:i<=l.length)(O:j<i):(zd4 l i).getD j 0<2^16:=by
 apply GA;intro t Z;rw[xj i C (fun j n _ h=>I.2 j n h) j O t,cX ac];rfl
set_option maxRecDepth 100000 in
theorem Ye(ρ:Nat->Int)(l:List Nd)(hl:qz l):a9 Tryz.prog ρ 101 [zdy l] (uF (zd4 l l.length)):=zfi (m:=3) (cfg:=zcq pls [mY]) fit (lc ρ) (eX.look ⟨w9 ρ,trivial⟩) (.cons (ze8 _) .nil) (by
 have hl1:=hl.1.1;have hw:Plain (zcq pls [mY]) 101:=zdm (fun _=>rfl) rfl;have q16:(16:Int)≠0:=dr;have hmk:∀H:Hp,zeb Tryz.prog H 74 (.int .i64 l.length) (.int .i64 l.length)=some (.sl H.next 0 l.length 1,H.alloc (.cells (en (List.replicate l.length 0)) 0 true)):=fun H=>GP _ ac;refine zcv (M:=81) (rs:=[.tmp 2]) (hw.call _) hw.ice hw.froz Tryz.func101 rfl rfl GL.2 rfl ?_;dsimp only[GL,zcr,Nat.reduceAdd];repeat' (first
  |(apply zcl ?_;clear hK K)|apply Rx.o ?_|apply ak ?_|(apply zcm fun K hK=>?_)|apply ay ?_|fail)
 refine zdl [2,3,12,13] [] 14 l.length (fun i E H=>H.get 0=some (.cells (en (zd4 l i++List.replicate (l.length-i) 0)) 0 true)) eE (by rw[zcu,ax db];simp[zd4]) ?_;rintro i E O hi hcE hrH hnH hsI L;(try simp only[zcO,zcI,aY,zcz,zcL,Nat.reduceBEq, *]at hcE);(try simp only[zcI,zcL, *]at hrH);(try simp only[zcB,zdg,bw]at hnH);have hB0:(0 == O.next)=false:=zcD ac;have hC0:(O.next == 0)=false:=zcD ac;have hn2:1<=O.next:=hnH
 by_cases hlt:i<l.length
 .have hlt':(i:Int)<l.length:=by omega
  have hgx:l[i]?=some l[i]:=aO hlt;have C:=hl.2 i _ hgx;have hnk:=hl.1.2 _ (dj hlt);have hms:zd4 l (i+1)=zd4 l i++[qw l[i] (zd4 l i)]:=by rw[zd4,hgx]
  have hmlt:∀j,j<i->(zd4 l i).getD j 0<2^16:=fun j hj=>BB hl ac hj;have hml:=so l i;generalize l[i]=n at *;generalize zd4 l i=h at *;have hrep:List.replicate (l.length-i) (0:Nat)=0::List.replicate (l.length-(i+1)) 0:=Gu;rw[hrep]at L;have hzl:(h++0::List.replicate (l.length-(i+1)) (0:Nat)).length=l.length:=co;generalize List.replicate (l.length-(i+1)) (0:Nat)=z at *;have e0:(0 == O.next)=false:=zcD ac;have hgA:∀b c,((O.alloc b).set O.next c).get 0=some (.cells (en (h++0::z)) 0 true):=fun b c=>by rw[aU,ah ac,zcu,ah ac];exact L
  have hix:zcU Tryz.prog 74 (.sl 0 0 l.length 1) (.int .i64 (i:Int))=some (.ptr 0 i):=xn hlt;repeat' (first
   |(apply zcl ?_;clear hK K)|apply Ry.o ?_|apply ak ?_|(apply zcm fun K hK=>?_)|fail)
  (apply aS (fun Z V=>?_) (fun Z V=>?_)<;>try(cases Z;done));repeat' (first
   |(apply zcl ?_;clear hK K)|apply Rx.o ?_|apply b8 ?_|apply ak ?_|(apply zcm fun K hK=>?_)|apply ay ?_|apply zco ?_|fail)
  generalize hHb:Hp.set (O.alloc _) _ _=Hb;have nb:O.next+1<=Hb.next:=Bf
  have gb:Hb.get 0=some (.cells (en (h++0::z)) 0 true):=by rw[<-hHb];exact hgA _ _
  have g5:Hb.get O.next=some (.cells n.cells 0 true):=Bg
  clear hHb hgA;have hset:∀x:Nat,(h++0::z).set i x=h++x::z:=fun x=>Gw;refine AN (fun E' H'=>E'.at 2=.nilS/\E'.at 3=.sl 0 0 l.length 1/\E'.at 4=.int .i64 i/\E'.at 5=.ptr O.next 0/\E'.at 12=zdy l/\E'.at 13=.int .i64 l.length/\E'.at 14=.int .i64 i/\H'.get 0=some (.cells (en (h++(if n.op=3 then 2^ (n.imm.tdiv 16).toNat else 0)::z)) 0 true)/\H'.get O.next=some (.cells n.cells 0 true)/\O.next+1<=H'.next) ?_ ?_
  .by_cases h3:n.op=3
   .obtain⟨m0,zdY⟩:=C.lv h3;have hd:n.imm.tdiv 16=n.imm/16:=kG m0;have hd0:0<=n.imm.tdiv 16:=by rw[hd];omega
    obtain⟨m,hm⟩:=ez hd0;have hm16:m<16:=ac;rw[ax h3,hm,dL];have ew:IntKind.wrap .i64 (n.imm.tdiv 16)=m:=by rw[hm];exact zej ac ac
    have ew2:IntKind.wrap .u64 (m:Int)=m:=IntWalk.u64_in _ ac;have hsh:∀(D:BinOp->Sx->Sx->Option Bool) (t:TypeId),zdr Tryz.prog D .shl t (.int .u32 1) (.int .u64 (m:Int))=some (.int .u32 ((2^ m:Nat):Int)):=fun D t=>GO ac;clear hd hm hd0;repeat' (first
     |apply Ry.o ?_|(apply aB (fun Z V=>?_) (fun Z V=>?_)<;>try(cases Z;done))|(apply zcm fun K hK=>?_)|fail)
    refine mF eV eV (uG gb ac _) ?_;repeat' (first
     |(apply zcl ?_;clear hK K)|fail)
    exact⟨rfl,eE,eE,eE,eE,eE,eE,eE,by rw[aU,ax rfl,hset],by rw[aU,ah ac];exact g5,nb⟩
   .rw[ah h3];repeat' (first
     |(apply aB (fun Z V=>?_) (fun Z V=>?_)<;>try(cases Z;done))|apply zco ?_|fail)
    exact⟨rfl,eE,eE,eE,eE,eE,eE,eE,gb,g5,nb⟩
  clear gb g5 nb;rintro E3 H3 ⟨zc8,zeP,k4,zep,k12,k13,k14,g30,g35,n3⟩;dsimp only[kz];repeat' (first
   |(apply zcl ?_;clear hK K)|apply Rx.o ?_|apply ak ?_|(apply zcm fun K hK=>?_)|fail)
  refine AN (fun E' H'=>E'.at 2=.nilS/\E'.at 3=.sl 0 0 l.length 1/\E'.at 4=.int .i64 i/\E'.at 5=.ptr O.next 0/\E'.at 12=zdy l/\E'.at 13=.int .i64 l.length/\E'.at 14=.int .i64 i/\(n.op=31->E'.at 6=.int .u32 ((2^ n.imm.toNat:Nat):Int))/\H'=H3) ?_ ?_
  .by_cases Y:n.op=31
   .obtain⟨m0,zdY,_⟩:=C.lp Y;obtain⟨m,hm⟩:=ez m0;have ew2:IntKind.wrap .u64 (m:Int)=m:=IntWalk.u64_in _ ac;have hsh:∀(D:BinOp->Sx->Sx->Option Bool) (t:TypeId),zdr Tryz.prog D .shl t (.int .u32 1) (.int .u64 (m:Int))=some (.int .u32 ((2^ m:Nat):Int)):=fun D t=>GO ac;rw[hm,dL];repeat' (first
     |(apply zcl ?_;clear hK K)|apply Ry.o ?_|(apply aB (fun Z V=>?_) (fun Z V=>?_)<;>try(cases Z;done))|(apply zcm fun K hK=>?_)|fail)
    exact⟨rfl,eE,eE,eE,eE,eE,eE,eE,fun _=>eE,rfl⟩
   .repeat' (first
     |(apply aB (fun Z V=>?_) (fun Z V=>?_)<;>try(cases Z;done))|apply zco ?_|fail)
    exact⟨rfl,eE,eE,eE,eE,eE,eE,eE,fun h=>absurd h Y,rfl⟩
  clear zc8 zeP k4 zep k12 k13 k14 E3;rintro E3 _ ⟨zc8,zeP,k4,zep,k12,k13,k14,ze9,rfl⟩;dsimp only[kz];repeat' (first
   |(apply zcl ?_;clear hK K)|apply Rx.o ?_|apply ak ?_|(apply zcm fun K hK=>?_)|apply ay ?_|fail)
  have hmm:qw n h=mZ n h 0 n.kids (if n.op=3 then 2^ (n.imm.tdiv 16).toNat else 0):=rfl;have g:(if n.op=3 then 2^ (n.imm.tdiv 16).toNat else 0:Nat)<2^32:=by
   by_cases h3:n.op=3
   .rw[ax h3];obtain⟨m0,zdY⟩:=C.lv h3;have hd:n.imm.tdiv 16=n.imm/16:=kG m0;exact Bo ac ac
   .rw[ah h3];decide
  generalize (if n.op=3 then 2^ (n.imm.tdiv 16).toNat else 0:Nat)=cur0 at *;refine zdl [2,3,4,5,6,12,13,14,38,39] [] 40 n.kids.length (fun j E H=>∃J,H.get 0=some (.cells (en (h++J::z)) 0 true)/\H.get O.next=some (.cells n.cells 0 true)/\J<2^32/\qw n h=mZ n h j (n.kids.drop j) J) eE ⟨cur0,g30,g35,g,by rw[hmm,dQ]⟩ ?_;clear g30 g35 g hmm;rintro j E4 H4 hj hcE hrH hnH hsI ⟨J,I,g45,U,hJ⟩;(try simp only[zcO,zcI,aY,zcz,zcL,Nat.reduceBEq, *]at hcE);(try simp only[zcI, *]at hrH);(try simp only[zcB,zcS,zdg,bw,Nat.reduceAdd]at hnH);by_cases hjt:j<n.kids.length
  .have hjt':(j:Int)<n.kids.length:=by omega
   have hgy:n.kids[j]?=some n.kids[j]:=aO hjt;obtain⟨d0,d1⟩:=C.kids _ (dj hjt);have W:mZ n h j (n.kids.drop j) J=mZ n h (j+1) (n.kids.drop (j+1)) (J |||oY n h j n.kids[j]):=by rw[d7 hjt,mZ]
   generalize n.kids[j]=kd at *;obtain⟨d,rfl⟩:=ez d0;have hdi:d<i:=ac;have hixd:zcU Tryz.prog 74 (.sl 0 0 l.length 1) (.int .i64 (d:Int))=some (.ptr 0 d):=xn ac;have o:∀x:Nat,(h++x::z).length=l.length:=fun x=>by rw[<-hzl];simp
   have hldi:=xo I (m:=i) uC;have hldd:=xo I (m:=d) uC;have hgi:(h++J::z).getD i 0=J:=by rw[cJ,jI ac,hml,kq];rfl
   have hgd:(h++J::z).getD d 0=h.getD d 0:=by rw[cJ,i7 ac,<-cJ]
   rw[hgi]at hldi;rw[hgd]at hldd;have hdl:=hmlt d hdi;have A:∀x:Nat,(h++J::z).set i x=h++x::z:=fun x=>Gw;have hkd:oY n h j (d:Int)=if n.op=31/\dM n.kids.length<=j then qv (h.getD d 0) (2^ n.imm.toNat)else h.getD d 0:=by rw[oY,dL]
   rw[hkd]at W;generalize h.getD d 0=y at *;have hy:y<2^32:=ac;have e1:=GM U hy;by_cases Y:n.op=31
   .have k6':=ze9 Y;obtain⟨m0,zdY,_⟩:=C.lp Y;have hown:2^ n.imm.toNat<2^32:=Bo ac ac;by_cases hlv:dM n.kids.length<=j
    .rw[ax ⟨Y,hlv⟩]at W;have e2:=Ya hy hown;have e3:=GM U (GN (b:=2^ n.imm.toNat) hy);have gh0:=@Yb;repeat' (first
      |(apply zcl ?_;clear hK K)|apply Ry.o ?_|(apply bK ?_;first|refine Rx.k (si (fun _=>rfl) _ ac _) ?_)|(apply a8 (fun L F=>?_) (fun L F=>?_)<;>try(cases L;done))|(apply aB (fun Z V=>?_) (fun Z V=>?_)<;>try(cases Z;done))|apply ak ?_|(apply zcm fun K hK=>?_)|(apply nU 14 fun K hK=>?_)|apply ay ?_|apply zco ?_|fail)
     refine mF eV eV (uG I uC _) ?_;repeat' (first
      |(apply zcl ?_;clear hK K)|apply Rx.o ?_|(apply zcm fun K hK=>?_)|fail)
     refine⟨ac,zcy,zcy,zcT,oX,?_⟩;exact⟨_,Bh,Bk,xg U (GN hy),by rw[hJ,W]⟩
    .rw[ah (fun c=>hlv c.2)]at W;repeat' (first
      |(apply zcl ?_;clear hK K)|apply Ry.o ?_|(apply bK ?_;first|refine Rx.k (si (fun _=>rfl) _ ac _) ?_)|(apply a8 (fun L F=>?_) (fun L F=>?_)<;>try(cases L;done))|(apply aB (fun Z V=>?_) (fun Z V=>?_)<;>try(cases Z;done))|apply ak ?_|(apply zcm fun K hK=>?_)|(apply nU 15 fun K hK=>?_)|apply ay ?_|apply zco ?_|fail)
     refine mF eV eV (uG I uC _) ?_;repeat' (first
      |(apply zcl ?_;clear hK K)|apply Rx.o ?_|(apply zcm fun K hK=>?_)|fail)
     refine⟨ac,zcy,zcy,zcT,oX,?_⟩;exact⟨_,Bh,Bk,xg U hy,by rw[hJ,W]⟩
   .rw[ah (fun c=>Y c.1)]at W;repeat' (first
     |(apply zcl ?_;clear hK K)|apply Ry.o ?_|(apply a8 (fun L F=>?_) (fun L F=>?_)<;>try(cases L;done))|(apply aB (fun Z V=>?_) (fun Z V=>?_)<;>try(cases Z;done))|apply ak ?_|(apply zcm fun K hK=>?_)|(apply nU 15 fun K hK=>?_)|apply ay ?_|apply zco ?_|fail)
    refine mF eV eV (uG I uC _) ?_;repeat' (first
     |(apply zcl ?_;clear hK K)|apply Rx.o ?_|(apply zcm fun K hK=>?_)|fail)
    refine⟨ac,zcy,zcy,zcT,oX,?_⟩;exact⟨_,Bh,Bk,xg U hy,by rw[hJ,W]⟩
  .have hjt':¬(j:Int)<n.kids.length:=by omega
   have hjd:n.kids.drop j=[]:=oQ ac;rw[hjd]at hJ;have hJ2:qw n h=J:=hJ;repeat' (first
    |(apply zcl ?_;clear hK K)|apply Ry.o ?_|(apply aB (fun Z V=>?_) (fun Z V=>?_)<;>try(cases Z;done))|apply ak ?_|(apply zcm fun K hK=>?_)|apply zcA ?_)
   refine⟨ac,zcy,zcy,zcT,jz,?_⟩;rw[hms,hJ2,f8];exact I
 .have hlt':¬(i:Int)<l.length:=by omega
  repeat' (first
   |(apply zcl ?_;clear hK K)|apply Ry.o ?_|(apply aB (fun Z V=>?_) (fun Z V=>?_)<;>try(cases Z;done))|apply ak ?_|(apply zcm fun K hK=>?_)|apply am ?_|apply zcA ?_)
  all_goals (refine⟨eI,_,eR,?_⟩;try simp only[zcn])
  have hie:i=l.length:=ac;rw[hie,kq]at L;exact Yd L)
end
section
def tyEvG.tyF:=ad @cI (ad @bZ (ad @d8 (ad @eY (ad @eL (ad @wG (ad @At (ad @uf (@Az))))))))
open tyEvG
noncomputable def GR:{c:SC // aA 69 (Tryz.f32.body.getD .skip)=c}:=by
 refine⟨?_,?_⟩;rotate_left
 .simp only[Tryz.f32,a3,aA,zcG,zcE,zcJ,zcK,Nat.blt,Nat.ble];rfl
structure Flat9 (l:List Nd):Prop where
 ok:jK l
 kids:∀(i:Nat) nd,l[i]?=some nd->∀k∈nd.kids,0<=k/\k<i
 op:∀nd∈l,nd.op≠3/\nd.op≠31
def zfp(n:Nat):AV:=uF (List.replicate n 0)
theorem Yf{H:Hp}{n r:Nat}(A:H.get r=some (.cells (en (List.replicate n 0)) 0 true)):iceV H 3 (.sl r 0 n 1)=some (zfp n):=by
 have e:iceV H 3 (.sl r 0 n 1)=match H.get r with
  |some (.cells W _ _)=>match iceL (iceV H 2) ((W.drop 0).take (n*1))with
   |some j=>if j.length=n*1 then some (.lst (zdP 1 n j))else none
   |none=>none
  |_=>none:=rfl
 rw[e,A];have I:(en (List.replicate n 0)).length=n:=by rw[xm,lX]
 simp only[dQ,gg];rw[ev ac,BA];simp only[I,bT];have:=GQ (List.replicate n 0);rw[lX]at this;rw[this];rfl
set_option maxRecDepth 100000 in
theorem Yg(ρ:Nat->Int)(l:List Nd)(hl:Flat9 l):a9 Tryz.prog ρ 32 [zdy l] (zfp l.length):=zfi (m:=3) (cfg:=zcq pls []) fit (lc ρ) (fun f args r h=>by simp[zcq,zdn]at h) (.cons (ze8 _) .nil) (by
 have hl1:=hl.ok.1;have hw:Plain (zcq pls []) 32:=zdm (fun _=>rfl) rfl;have hmk:∀H:Hp,zeb Tryz.prog H 74 (.int .i64 l.length) (.int .i64 l.length)=some (.sl H.next 0 l.length 1,H.alloc (.cells (en (List.replicate l.length 0)) 0 true)):=fun H=>GP _ ac;have hor:∀(D:BinOp->Sx->Sx->Option Bool),zdr Tryz.prog D .or 125 (.int .u32 0) (.int .u32 0)=some (.int .u32 0):=fun D=>rfl;refine zcv (M:=69) (rs:=[.tmp 2]) (hw.call _) hw.ice hw.froz Tryz.func32 rfl rfl GR.2 rfl ?_;dsimp only[GR,zcr,Nat.reduceAdd];repeat' (first
  |(apply zcl ?_;clear hK K)|apply Rx.o ?_|apply ak ?_|(apply zcm fun K hK=>?_)|apply ay ?_|apply zco ?_|apply am ?_|apply zcA ?_)
 refine zdl [2,3,12,13] [] 14 l.length (fun i E H=>H.get 0=some (.cells (en (List.replicate l.length 0)) 0 true)) eE xc ?_;rintro i E Y hi J F W hsI A;(try simp only[zcO,zcI,aY,zcz,zcL,Nat.reduceBEq,Nat.reduceAdd,Nat.reduceLeDiff,tyF, *]at J);(try simp only[zcO,zcI,aY,zcz,zcL,Nat.reduceBEq,Nat.reduceAdd,Nat.reduceLeDiff,tyF, *]at F);(try simp only[zcB,zcS,zdg,bw,Nat.reduceAdd]at W);have hB0:(0 == Y.next)=false:=zcD ac;have hC0:(Y.next == 0)=false:=zcD ac;have hn2:1<=Y.next:=W
 by_cases z:i<l.length
 .have hlt':(i:Int)<l.length:=by omega
  have hgx:l[i]?=some l[i]:=aO z;have hkd:=hl.kids i _ hgx;have hnk:=hl.ok.2 _ (dj z);obtain⟨o3,o31⟩:=hl.op _ (dj z);generalize l[i]=n at *;obtain⟨op,g,L⟩:=n;simp only at hkd hnk o3 o31;have ec:(Nd.mk op g L).cells=[.int .i64 op,.int .i64 g,.lst (L.map fun k=>[.int .i64 k])]:=rfl;have agg39':∀a b c:AV,zc6 3 [a,b,c]=some (.agg [a,b,c]):=fun _ _ _=>rfl;have hix:zcU Tryz.prog 74 (.sl 0 0 l.length 1) (.int .i64 (i:Int))=some (.ptr 0 i):=xn z;repeat' (first
   |(apply zcl ?_;clear hK K)|apply Ry.o ?_|apply b7 ?_|(apply a8 (fun A I=>?_) (fun A I=>?_)<;>try(cases A;done))|(apply aB (fun Z V=>?_) (fun Z V=>?_)<;>try(cases Z;done))|apply ak ?_|(apply zcm fun K hK=>?_)|apply ay ?_|apply zco ?_|apply am ?_|apply zcA ?_)
  generalize U:Hp.set (Y.alloc _) _ _=Hb;have nb:Y.next+1<=Hb.next:=Bi
  have o:Hb.get 0=some (.cells (en (List.replicate l.length 0)) 0 true):=by
   rw[<-U,aU,ah ac,zcu,ah ac];exact A
  have g5:Hb.get Y.next=some (.cells [.int .i64 op,.int .i64 g,.lst (L.map fun k=>[.int .i64 k])] 0 true):=by rw[<-U,aU,ax rfl]
  clear U;refine zdl [2,3,4,5,12,13,14,20,21] [] 22 L.length (fun j E H=>H.get 0=some (.cells (en (List.replicate l.length 0)) 0 true)/\H.get Y.next=some (.cells [.int .i64 op,.int .i64 g,.lst (L.map fun k=>[.int .i64 k])] 0 true)) eE ⟨o,g5⟩ ?_;clear o g5;rintro j E3 C hj J F W hsI ⟨o,g5⟩;(try simp only[zcO,zcI,aY,zcz,zcL,Nat.reduceBEq,Nat.reduceAdd,Nat.reduceLeDiff,tyF, *]at J);(try simp only[zcO,zcI,aY,zcz,zcL,Nat.reduceBEq,Nat.reduceAdd,Nat.reduceLeDiff,tyF, *]at F);(try simp only[zcB,zcS,zdg,bw,Nat.reduceAdd]at W);have n3:Y.next+1<=C.next:=ac
  by_cases hjt:j<L.length
  .have hjt':(j:Int)<L.length:=by omega
   have hgk:L[j]?=some L[j]:=aO hjt;obtain⟨q0,q1⟩:=hkd _ (dj hjt);obtain⟨m,hm⟩:=ez q0;rw[hm]at hgk q1;have hml:m<l.length:=ac;have hix2:zcU Tryz.prog 74 (.sl 0 0 l.length 1) (.int .i64 (m:Int))=some (.ptr 0 m):=xn hml;have l1:zdZ Tryz.prog C 125 (.ptr 0 m)=some (.int .u32 0):=by
    rw[xo o (by rw[lX];exact hml)];simp[cJ,oM,hml]
   have l2:zdZ Tryz.prog C 125 (.ptr 0 i)=some (.int .u32 0):=by
    rw[xo o Bj];simp[cJ,oM,z]
   have s1:zet Tryz.prog C 125 (.ptr 0 i) (.int .u32 0)=some (C.set 0 (.cells (en (List.replicate l.length 0)) 0 true)):=by
    have:=uG o (m:=i) Bj 0;rw[show(List.replicate l.length 0).set i 0=List.replicate l.length 0 by simp]at this;exact this
   clear hm;repeat' (first
    |(apply zcl ?_;clear hK K)|apply Ry.o ?_|apply b7 ?_|(apply a8 (fun A I=>?_) (fun A I=>?_)<;>try(cases A;done))|(apply aB (fun Z V=>?_) (fun Z V=>?_)<;>try(cases Z;done))|apply ak ?_|(apply zcm fun K hK=>?_)|apply ay ?_|apply zco ?_|apply am ?_|apply zcA ?_)
   generalize O:Hp.set C 0 _=Hc;have nc:C.next<=Hc.next:=by rw[<-O];exact aM _
   have gc:Hc.get 0=some (.cells (en (List.replicate l.length 0)) 0 true):=by rw[<-O,aU,ax rfl]
   have gd:Hc.get Y.next=some (.cells [.int .i64 op,.int .i64 g,.lst (L.map fun k=>[.int .i64 k])] 0 true):=by rw[<-O,aU,ah ac];exact g5
   clear O;refine⟨ac,zcy,zcy,zcT,FS,?_⟩;exact⟨gc,gd⟩
  .have hjt':¬(j:Int)<L.length:=by omega
   repeat' (first
    |(apply zcl ?_;clear hK K)|apply Ry.o ?_|apply b7 ?_|(apply a8 (fun A I=>?_) (fun A I=>?_)<;>try(cases A;done))|(apply aB (fun Z V=>?_) (fun Z V=>?_)<;>try(cases Z;done))|apply ak ?_|(apply zcm fun K hK=>?_)|apply ay ?_|apply zco ?_|apply am ?_|apply zcA ?_)
   refine⟨ac,zcy,zcy,zcT,jz,?_⟩;exact o
 .have hlt':¬(i:Int)<l.length:=by omega
  repeat' (first
   |(apply zcl ?_;clear hK K)|apply Ry.o ?_|apply b7 ?_|(apply a8 (fun A I=>?_) (fun A I=>?_)<;>try(cases A;done))|(apply aB (fun Z V=>?_) (fun Z V=>?_)<;>try(cases Z;done))|apply ak ?_|(apply zcm fun K hK=>?_)|apply ay ?_|apply zco ?_|apply am ?_|apply zcA ?_)
  all_goals (refine⟨eI,_,eR,?_⟩;try simp only[zcn])
  exact Yf A)
end
section
def tyEvH.tyF:=ad @bZ (ad @dl (ad @eY (ad @eL (ad @mK (ad @mL (ad @hM (ad @ju (ad @ll (ad @oH (ad @p9 (ad @qc (ad @qd (ad @qe (ad @qf (ad @cI (ad @qa (@EK)))))))))))))))))
open tyEvH
noncomputable def GS:{c:SC // aA 35 (Tryz.f35.body.getD .skip)=c}:=by
 refine⟨?_,?_⟩;rotate_left
 .simp only[Tryz.f35,a3,aA,zcG,zcE,zcJ,zcK,Nat.blt,Nat.ble];rfl
noncomputable def GT:{c:SC // aA 26 (Tryz.f33.body.getD .skip)=c}:=by
 refine⟨?_,?_⟩;rotate_left
 .simp only[Tryz.f33,a3,aA,zcG,zcE,zcJ,zcK,Nat.blt,Nat.ble];rfl
theorem GU{H:Hp}(n:Nat)(O:n<2^40):zeb Tryz.prog H 33 (.int .i64 n) (.int .i64 n)=some (.sl H.next 0 n 1,H.alloc (.cells (zdt (List.replicate n 0)) 0 true)):=by
 have M:zdO=70368744177664:=rfl;show zeb Tryz.prog H 33 (.int .i64 (Int.ofNat n)) (.int .i64 (Int.ofNat n))=_;simp only[zeb,Tryz.underlying33,ub,Ad,Ae];rw[ax ⟨aM _,jS,jS,rfl⟩];have:∀n:Nat,gw [AV.int .i64 0] n=zdt (List.replicate n 0):=by
  intro n;induction n with
  |zero=>rfl
  |succ n ih=>simp only[gw,ih,qi];rfl
 rw[this]
theorem Yh(k:Nat)(l1:List Int)(n:Int):(List.replicate (k+1) (0:Int)++l1.reverse).set k n=List.replicate k 0++(l1++[n]).reverse:=by
 rw[List.replicate_succ',f8,List.set_append,ah (by rw[lX];omega),lX,kq,List.reverse_append];rfl
theorem Yi(n:Nat):gw [AV.bool false,.int .i64 0,.nilP,.nilP] n=(List.replicate n [AV.bool false,.int .i64 0,.nilP,.nilP]).flatten:=by
 induction n with
 |zero=>rfl
 |succ n ih=>simp only[gw,ih,qi,lN]
theorem Yj{H:Hp}(n:Nat)(O:n<2^30):zeb Tryz.prog H 127 (.int .i64 n) (.int .i64 n)=some (.sl H.next 0 n 4,H.alloc (.cells (List.replicate n [AV.bool false,.int .i64 0,.nilP,.nilP]).flatten 0 true)):=by
 have M:zdO=70368744177664:=rfl;show zeb Tryz.prog H 127 (.int .i64 (Int.ofNat n)) (.int .i64 (Int.ofNat n))=_;simp only[zeb,Tryz.underlying127,ug,EH,EI];rw[ax ⟨aM _,jS,jS,rfl⟩,Yi]
theorem Yk(x y w:List (List AV))(a b cc d p q n:Nat)(f:Int):zdK Tryz.prog 131 [(0,.agg [.lst x,.lst y]),(1,.sl a b cc d),(2,.int .i64 f),(3,.ptr p 0),(4,.lst w),(5,.sl q 0 n 4)]=some (.agg [.lst x,.lst y,.sl a b cc d,.int .i64 f,.ptr p 0,.lst w,.sl q 0 n 4,.nilP,.nilP,.nilP,.nilP,.nilP,.nilP,.nilP,.nilP,.nilP,.nilP,.nilP,.nilP,.nilP,.nilP,.nilP,.nilP]):=af
section
variable {tb:List En} (hT:EvT tb) {H:Hp}
include hT
theorem Yl{S:Nat->Prop}{v:AV}{l:List Int}(o:iW S H v l)(i:l.length<2^30):zcx Tryz.prog (zcq pls tb) 35 [v] H fun w H'=>w=.sl H.next 0 l.length 1/\H.next+1<=H'.next/\H'.get H.next=some (.cells (zdt l.reverse) 0 true)/\∀r,r<H.next->H'.get r=H.get r:=by
 have F:Plain (zcq pls tb) 35:=hT.plain db;have np:∀E:ao,zcp E (.const (.pointer none))=some .nilP:=fun _=>rfl;have nq:∀(D:BinOp->Sx->Sx->Option Bool),zdr Tryz.prog D .neq 77 .nilP .nilP=some (.bool false):=fun D=>af;have pq:∀(D:BinOp->Sx->Sx->Option Bool) (q:Nat),zdr Tryz.prog D .neq 77 (.ptr q 0) .nilP=some (.bool true):=fun D q=>af;have hmk:=GU (H:=H) l.length ac;refine zcv (M:=35) (rs:=[.tmp 2]) (F.call _) F.ice F.froz Tryz.func35 rfl rfl GS.2 rfl ?_;dsimp only[GS,zcr,Nat.reduceAdd];repeat' (first
  |(apply zcl ?_;clear hK K)|apply Rx.o ?_|apply b8 ?_|(apply aS (fun Z V=>?_) (fun Z V=>?_)<;>try(cases Z;done))|apply ak ?_|(apply zcm fun K hK=>?_)|apply ay ?_|apply zco ?_|apply am ?_|apply zcA ?_)
 refine pQ (fun m E Y=>∃(l1 l2:List Int) (W:AV),m=l2.length/\l1++l2=l/\iW S H W l2/\E.at 0=v/\E.at 3=.int .i64 l1.length/\E.at 4=W/\Y=H) ?_ (n:=l.length) ?_
 .rintro m E Y ⟨l1,l2,W,O,I,L,zdz,zeP,k4,rfl⟩;cases l2 with
  |nil=>
   rw[show W=.nilP from L]at k4;rw[br]at I;rw[I]at zeP;clear I;repeat' (first
    |(apply zcl ?_;clear hK K)|apply Rx.o ?_|apply b8 ?_|(apply aS (fun Z V=>?_) (fun Z V=>?_)<;>try(cases Z;done))|apply ak ?_|(apply zcm fun K hK=>?_)|apply ay ?_|apply zco ?_|apply am ?_|apply zcA ?_)
   refine pQ (fun m E C=>∃(l1 l2:List Int) (W:AV),m=l2.length/\l1++l2=l/\iW S Y W l2/\E.at 3=.int .i64 l2.length/\E.at 5=.sl Y.next 0 l.length 1/\E.at 6=W/\C.get Y.next=some (.cells (zdt (List.replicate l2.length 0++l1.reverse)) 0 true)/\Y.next+1<=C.next/\∀r,r<Y.next->C.get r=Y.get r) ?_ (n:=l.length) ?_
   .rintro m E C ⟨l1,l2,W,O,I,L,zeP,zep,ze9,g,n3,J⟩;cases l2 with
    |nil=>
     rw[show W=.nilP from L]at ze9;rw[br]at I;rw[I]at g;clear I;repeat' (first
      |(apply zcl ?_;clear hK K)|apply Rx.o ?_|apply b8 ?_|(apply aS (fun Z V=>?_) (fun Z V=>?_)<;>try(cases Z;done))|apply ak ?_|(apply zcm fun K hK=>?_)|apply ay ?_|apply zco ?_|apply am ?_|apply zcA ?_)
     all_goals (refine⟨eI,_,eR,?_⟩;try simp only[zcn])
     exact⟨mp,n3,by simpa using g,J⟩
    |cons n l2=>
     obtain⟨q,w,rfl,_,hq,gq,U⟩:=L;have A:l1.length+(l2.length+1)=l.length:=by rw[<-I,fj,dg]
     have gq3:=(J q hq).trans gq;rw[dg]at g zeP;have e1:IntKind.wrap .i64 (((l2.length+1:Nat):Int)-1)=(l2.length:Int):=by rw[show((l2.length+1:Nat):Int)-1=(l2.length:Int) by omega];exact zej ac ac
     have x1:zcU Tryz.prog 33 (.sl Y.next 0 l.length 1) (.int .i64 (l2.length:Int))=some (.ptr Y.next l2.length):=AR ac;have s1:=FL (H:=C) (q:=Y.next) (j:=l2.length) n g (by rw[fj,lX];omega);rw[Yh]at s1;clear g;have y1:(q == Y.next)=false:=zcD ac;repeat' (first
      |(apply zcl ?_;clear hK K)|apply Rx.o ?_|apply b8 ?_|(apply aS (fun Z V=>?_) (fun Z V=>?_)<;>try(cases Z;done))|apply ak ?_|(apply zcm fun K hK=>?_)|apply ay ?_|apply zco ?_|apply am ?_|apply zcA ?_)
     refine⟨l2.length,by rw[O];exact cL _,l1++[n],l2,w,rfl,by rw[<-I,f8];rfl,U,eE,eE,eE,hB,n3,fun r hr=>by rw[aU,ah ac];exact J r hr⟩
   .exact⟨[],l,v,rfl,rfl,o,eE,eE,eE,by rw[zcu,ax rfl];simp,aM _,fun r hr=>fF⟩
  |cons n l2=>
   obtain⟨q,w,rfl,_,hq,gq,U⟩:=L;have A:l1.length+(l2.length+1)=l.length:=by rw[<-I,fj,dg]
   have e1:IntKind.wrap .i64 ((l1.length:Int)+1)=((l1.length+1:Nat):Int):=by
    have:=zej (z:=((l1.length+1:Nat):Int)) ac ac;rw[<-this];rfl
   repeat' (first
    |(apply zcl ?_;clear hK K)|apply Rx.o ?_|apply b8 ?_|(apply aS (fun Z V=>?_) (fun Z V=>?_)<;>try(cases Z;done))|apply ak ?_|(apply zcm fun K hK=>?_)|apply ay ?_|apply zco ?_|apply am ?_|apply zcA ?_)
   exact⟨l2.length,by rw[O];exact cL _,l1++[n],l2,w,rfl,by rw[<-I,f8];rfl,U,eE,by rw[fj,List.length_singleton];exact eE,eE,rfl⟩
 .exact⟨[],l,v,rfl,rfl,o,eE,eE,eE,rfl⟩
theorem Ym{u:Un}{f:Nat}{g:Gr}(A:u.funcs[f]?=some g)(j:g.nodes.length<2^30){a b cc d:Nat}{Y:AV}{s:S9}{args:List Int}(U:fK (fun _=>True) H Y s):zcx Tryz.prog (zcq pls tb) 33 [.agg u.cells,.sl a b cc d,.int .i64 f,Y,jO args] H fun w H'=>∃Z F,w=.ptr Z 0/\H.next<=Z/\H.next<=F/\(⟨fun q=>q≠Z/\q≠F,Z,F,u,.sl a b cc d,f,g,Y,s,args⟩:Cx9).Ok/\Fr9 ⟨fun q=>q≠Z/\q≠F,Z,F,u,.sl a b cc d,f,g,Y,s,args⟩ H' (List.replicate g.nodes.length [.bool false,.int .i64 0,.nilP,.nilP]) (List.replicate g.nodes.length zfo)/\Ext9 (fun _=>True) H H':=by
 have W:Plain (zcq pls tb) 33:=hT.plain db;have o:∀E:ao,zcp E (.const (.pointer none))=some .nilP:=fun _=>rfl;have i:u.cells=[.lst (u.arrays.map Ar.cells),.lst (u.funcs.map Gr.cells)]:=rfl;have L:g.cells=[.str g.name,.int .i64 g.params,.lst (g.nodes.map Nd.cells),.int .i64 g.value,.int .i64 g.state]:=rfl;have V:=U;obtain⟨p,cv,ov,rfl,hp⟩:=V;have I:=fun H:Hp=>Yj (H:=H) g.nodes.length ac;have hb:=fun q=>Yk (u.arrays.map Ar.cells) (u.funcs.map Gr.cells) (args.map fun n=>[.int .i64 n]) a b cc d p q g.nodes.length f;unfold jO;rw[i];refine zcv (M:=26) (rs:=[.tmp 10]) (W.call _) W.ice W.froz Tryz.func33 rfl rfl GT.2 rfl ?_;dsimp only[GT,zcr,Nat.reduceAdd];have sM:∀a b:AV,zc6 2 [a,b]=some (.agg [a,b]):=fun _ _=>rfl;have y9:(H.next == H.next+1)=false:=zcD ac;have y8:(H.next == H.next+2)=false:=zcD ac;have y7:(H.next+1 == H.next+2)=false:=zcD ac;repeat' (first
  |(apply zcl ?_;clear hK K)|apply Rx.o ?_|apply ak ?_|(apply zcm fun K hK=>?_)|(apply zc4 1 [(0,16),(6,16),(10,16),(11,16),(12,16),(14,16)] fun K hK=>?_)|(apply zcV ?_;try intro _)|(apply zc5 ?_ ?_<;>clear hK K)|apply bD ?_|apply am ?_)
 .exact eK
 all_goals (refine⟨eI,_,eR,?_⟩;try simp only[zcn])
 generalize m:Hp.alloc (Hp.alloc (Hp.alloc H _) _) _=J;have nc:H.next+3<=J.next:=by rw[<-m];exact aM _
 have z:J.get (H.next+2)=some (.cells (gQ u (.sl a b cc d) f (.ptr p 0) args (H.next+1) g.nodes.length) 0 true):=by rw[<-m,zcu,ax db];rfl
 have C:J.get (H.next+1)=some (.cells (List.replicate g.nodes.length [AV.bool false,.int .i64 0,.nilP,.nilP]).flatten 0 true):=by
  rw[<-m];simp only[zcu,zcB,ah (show ¬H.next+1=H.next+1+1 by omega),bT]
 have E:Ext9 (fun _=>True) H J:=⟨ac,fun r _ hr=>by
  rw[<-m];simp only[zcu,zcB,ah (show ¬r=H.next+1+1 by omega),ah (show ¬r=H.next+1 by omega),ah (show ¬r=H.next by omega)]⟩
 clear m;refine⟨H.next+2,H.next+1,rfl,ac,ac,⟨A,by show H.next+2≠H.next+1;omega,fun h=>h.1 rfl,fun h=>h.2 rfl,j⟩,⟨Bj,C,nc,by show H.next+1<_;omega,?_,?_,fun q O=>⟨by show q≠H.next+2;omega,by show q≠H.next+1;omega⟩,lX⟩,E⟩
 .exact(U.sub (T:=fun q=>q≠H.next+2/\q≠H.next+1) fun q O _=>⟨ac,ac⟩).keep (E.sub fun _ _ _=>trivial)
 .have:∀n:Nat,zcW (lY (fun q=>q≠H.next+2/\q≠H.next+1) J) (List.replicate n [AV.bool false,.int .i64 0,.nilP,.nilP]) (List.replicate n zfo):=by
   intro n;induction n with
   |zero=>trivial
   |succ n ih=>rw[qi,qi];exact⟨⟨.nilP,rfl,rfl⟩,ih⟩
  exact this _
end
end
section
def tyEvI.tyF:=ad @cI (ad @bZ (ad @lk (ad @ju (ad @ll (ad @oH (ad @p9 (ad @qc (ad @rW (ad @qd (ad @qe (@qf)))))))))))
open tyEvI
noncomputable def GV:{c:SC // aA 16 (Tryz.f36.body.getD .skip)=c}:=by
 refine⟨?_,?_⟩;rotate_left
 .simp only[Tryz.f36,a3,aA,zcG,zcE,zcJ,zcK,Nat.blt,Nat.ble];rfl
noncomputable def GW:{c:SC // aA 16 (Tryz.f34.body.getD .skip)=c}:=by
 refine⟨?_,?_⟩;rotate_left
 .simp only[Tryz.f34,a3,aA,zcG,zcE,zcJ,zcK,Nat.blt,Nat.ble];rfl
section
variable {tb:List En} (hT:EvT tb) {c:Cx9} {H:Hp} {rows:List (List AV)} {res:List R9}
include hT
theorem Yn(W:c.Ok)(Z:∀U∈c.g.nodes,U.kids.length<2^30)(V:Fr9 c H rows res){n:Nat}{i:Int}{O:List R9}(h:ja c.g.nodes c.start c.args n res [i]=some O){r:R9}(hr:zdC O i=some r):zcx Tryz.prog (zcq pls tb) 36 [.ptr c.xp 0,.int .i64 i] H fun w H'=>w=.int .i64 r.v/\∃I,Fr9 c H' I O/\H.next<=H'.next/\∀q,q<H.next->q≠c.rp->H'.get q=H.get q:=by
 have J:Plain (zcq pls tb) 36:=hT.plain db;refine zcv (M:=16) (rs:=[.tmp 4]) (J.call _) J.ice J.froz Tryz.func36 rfl rfl GV.2 rfl ?_;dsimp only[GV,zcr,Nat.reduceAdd];repeat' (first
  |(apply zcl ?_;clear hK K)|apply Rx.o ?_|apply ak ?_|(apply zcm fun K hK=>?_)|apply am ?_)
 refine bg rfl bh bj ?_;simp only[eM];refine a7 ?_ (F8 hT W Z V h);rintro v C ⟨I,g,L,Y⟩;dsimp only[zcF];obtain⟨i,rfl⟩:∃m:Nat,i=m:=⟨i.toNat,by obtain⟨_,o,_⟩:=g.get hr;omega⟩;obtain⟨A,j,ho,hx,F⟩:=g.at hr;have z:=g.x;unfold gQ at z;have a1:=(F _ g).l1;repeat' (first
  |(apply zcl ?_;clear hK K)|apply Rx.o ?_|apply ak ?_|(apply zcm fun K hK=>?_)|apply am ?_)
 all_goals (refine⟨eI,_,eR,?_⟩;try simp only[zcn])
 exact⟨mp,I,g,L,Y⟩
theorem Yo(W:c.Ok)(Z:∀U∈c.g.nodes,U.kids.length<2^30)(V:Fr9 c H rows res){n:Nat}{i:Int}{O:List R9}(h:ja c.g.nodes c.start c.args n res [i]=some O){r:R9}(hr:zdC O i=some r):zcx Tryz.prog (zcq pls tb) 34 [.ptr c.xp 0,.int .i64 i] H fun w H'=>iE c.S H' w r.s/\∃I,Fr9 c H' I O/\H.next<=H'.next/\∀q,q<H.next->q≠c.rp->H'.get q=H.get q:=by
 have J:Plain (zcq pls tb) 34:=hT.plain db;have np:∀E:ao,zcp E (.const (.pointer none))=some .nilP:=fun _=>rfl;refine zcv (M:=16) (rs:=[.tmp 4]) (J.call _) J.ice J.froz Tryz.func34 rfl rfl GW.2 rfl ?_;dsimp only[GW,zcr,Nat.reduceAdd];repeat' (first
  |(apply zcl ?_;clear hK K)|apply Rx.o ?_|apply ak ?_|(apply zcm fun K hK=>?_)|apply am ?_)
 refine bg rfl bh bj ?_;simp only[eM];refine a7 ?_ (F8 hT W Z V h);rintro v A ⟨I,g,L,Y⟩;dsimp only[zcF];obtain⟨i,rfl⟩:∃m:Nat,i=m:=⟨i.toNat,by obtain⟨_,o,_⟩:=g.get hr;omega⟩;obtain⟨j,hn,F,hx,C⟩:=g.at hr;have z:=g.x;unfold gQ at z;have a2:=(C _ g).l2;repeat' (first
  |(apply zcl ?_;clear hK K)|apply Rx.o ?_|apply ak ?_|(apply zcm fun K hK=>?_)|apply am ?_)
 all_goals (refine⟨eI,_,eR,?_⟩;try simp only[zcn])
 exact⟨F,I,g,L,Y⟩
end
end
section
def gT(H:Hp)(v:AV)(l:List Int)(lo:Nat):Prop:=∃r g,v=.sl r 0 l.length 1/\H.get r=some (.cells (l.map (.int .u8)) g true)/\g<=l.length/\lo<=r/\r<H.next
def xr(H:Hp)(v:AV)(l:List Int)(lo:Nat):Prop:=(v=.nilS/\l=[])\/gT H v l lo
theorem gT.low{H H':Hp}{v:AV}{l:List Int}{lo:Nat}(h:gT H v l lo)(m:H.next<=H'.next)(A:∀k,lo<=k->k<H.next->H'.get k=H.get k):gT H' v l lo:=by
 obtain⟨r,g,i,Z,o,U,j⟩:=h;exact⟨r,g,i,by rw[A r U j];exact Z,o,U,ac⟩
theorem gT.lt{H:Hp}{v:AV}{l:List Int}{lo:Nat}(h:gT H v l lo){k:Nat}(j:zdF v k):lo<=k/\k<H.next:=by
 obtain⟨r,g,rfl,_,_,U,Z⟩:=h;obtain⟨n,e⟩:=j;simp only[AV.sl.injEq]at e;rw[<-e.1];exact⟨U,Z⟩
theorem gT.keep{H H':Hp}{v:AV}{l:List Int}{lo:Nat}(h:gT H v l lo)(m:H.next<=H'.next)(A:∀k,zdF v k->H'.get k=H.get k):gT H' v l lo:=by
 obtain⟨r,g,rfl,Z,o,U,j⟩:=h;exact⟨r,g,rfl,AF,o,U,ac⟩
theorem GX(l:List Int):(l.map (AV.int .u8)).all AV.one=true:=by simp[AV.one]
theorem Yp{H:Hp}{r imm:Nat}{m:List Int}(h:H.get r=some (.cells (m.map (.int .u8)) imm true)):zer H 1 (.sl r 0 m.length 1)=some (m.length,m.map (.int .u8)):=by
 have:=lT (H:=H) (r:=r) (o:=0) (n:=m.length) (z:=1) (s:=1) h aD;rw[this,dQ,ev aD]
theorem Yq{H:Hp}{v x:AV}{l m:List Int}{lo:Nat}(L:xr H v l lo)(J:lo<=H.next)(F:zer H 1 x=some (m.length,m.map (.int .u8)))(M:m≠[])(z:l.length+m.length<2^40):
 ∃A H',zdX Tryz.prog false H 200 200 v x=some (A,H')/\gT H' A (l++m) lo/\H'.next=H.next+1/\(∀k,k<lo->H'.get k=H.get k)/\oN v A H H':=by
 obtain⟨n,Y⟩:∃n,m.length=n+1:=⟨m.length-1,wR⟩;have g:zdO=70368744177664:=rfl;rw[Y]at F;rcases L with⟨rfl,rfl⟩|⟨r,Z,rfl,W,O,K,I⟩
 .refine⟨.sl H.next 0 (n+1) 1,H.alloc (.cells (m.map (.int .u8)) 0 true),append_nil Tryz.underlying200 Af Ag Ah af F (GX m) rfl jg jg,⟨H.next,0,by simp[Y],hW,ac,J,cL _⟩,rfl,fun k j=>fF,fun k j _=>fF,fun k j=>.inr ?_⟩;obtain⟨V,e⟩:=j;simp only[AV.sl.injEq]at e;omega
 .have U:fY false H 1 (.sl r 0 l.length 1)=H:=by
   unfold fY;simp only[W,bw,cR,gg];have:Nat.blt l.length l.length=false:=by
    cases z:Nat.blt l.length l.length with
    |false=>rfl
    |true=>rw[gE]at z;omega
   simp[this]
  refine⟨.sl H.next 0 (l.length+(n+1)) 1,(H.kill r).alloc (.cells (l.map (.int .u8)++m.map (.int .u8)) (Z-0) true),?_,⟨H.next,Z,by simp[Y],?_,co,J,cL _⟩,rfl,fun k j=>?_,fun k j o=>?_,fun k j=>.inr ?_⟩
  .simp only[zdX,Tryz.underlying200,Af,Ag,Ah,show j9 Tryz.prog 200=true by kernel_rfl,F,GX,U,mE,bT,dg,jo,jH,W,cR,bw,gg,dQ];rw[ax ⟨jg,jg,trivial,trivial,O⟩];simp
  .show((H.kill r).alloc _).get (H.kill r).next=_
   rw[zcu,ax rfl];simp
  .rw[zcu,ah ls,zem,ah ac]
  .rw[zcu,ah ls,zem,ah (fun e=>o ⟨_,k7⟩)]
  .obtain⟨V,e⟩:=j;simp only[AV.sl.injEq]at e;omega
theorem GY{H:Hp}{v:AV}{l:List Int}{lo r imm:Nat}(s:Int)(L:xr H v l lo)(J:lo<=H.next)(K:H.get r=some (.cells [.int .u8 s] imm true))(z:l.length<2^39):
 ∃A H',zdX Tryz.prog false H 200 200 v (.sl r 0 1 1)=some (A,H')/\gT H' A (l++[s]) lo/\H'.next=H.next+1/\(∀k,k<lo->H'.get k=H.get k)/\oN v A H H':=
 Yq L J (Yp (m:=[s]) K) aD co
theorem GZ(H:Hp)(n:Int):zdS Tryz.prog H 200 1 [(0,.int .u8 n)]=some (.sl H.next 0 1 1,H.alloc (.cells [.int .u8 n] 0 true)):=af
theorem bin_shr{D:BinOp->Sx->Sx->Option Bool}{t:TypeId}{k M:IntKind}{a:Int}{m:Nat}(h:m<64)(j:k=.u64):zdr Tryz.prog D .shr t (.int k a) (.int M (m:Int))=some (.int k (a.fdiv (2^ m))):=by
 subst j;have e:zdr Tryz.prog D .shr t (.int .u64 a) (.int M (Int.ofNat m))=some (.int .u64 (a.fdiv (2^ min m 64))):=rfl;rw[show min m 64=m by omega]at e;exact e
def iY(n:Int)(i:Nat):Int:=IntKind.wrap .u8 (n.fdiv (2^ (8*i)))
def zd8(n:Int)(i:Nat):List Int:=(List.range i).map (iY n)
theorem zfc(n:Int)(i:Nat):(zd8 n i).length=i:=by simp[zd8]
theorem G3(n:Int)(i:Nat):zd8 n (i+1)=zd8 n i++[iY n i]:=by simp[zd8,List.range_succ]
def nZ(l:List Int):List UInt8:=l.map fun n=>UInt8.ofNat n.toNat
def tyV1.tyF:=ad @cI (ad @bZ (ad @uc (ad @dl (ad @d8 (ad @eY (ad @Av (ad @EN (ad @AA (ad @EU (ad @EW (ad @uf (ad @EV (ad @EX (@GZ))))))))))))))
open tyV1
noncomputable def G4:{c:SC // aA 20 (Tryz.f181.body.getD .skip)=c}:=by
 refine⟨?_,?_⟩;rotate_left
 .simp only[Tryz.f181,a3,aA,zcG,zcE,zcJ,zcK,Nat.blt,Nat.ble];rfl
noncomputable def G5:{c:SC // aA 29 (Tryz.f147.body.getD .skip)=c}:=by
 refine⟨?_,?_⟩;rotate_left
 .simp only[Tryz.f147,a3,aA,zcG,zcE,zcJ,zcK,Nat.blt,Nat.ble];rfl
theorem G6{cfg:Cfg}(J:Plain cfg 181)(C:cfg.keep 181=false){H:Hp}{v:AV}{b:List Int}{lo:Nat}(hv:gT H v b lo)(z:b.length<2^38)(n:Int):
 zcx Tryz.prog cfg 181 [v,.int .u64 n] H fun w H'=>gT H' w (b++zd8 n 8) lo/\H.next<=H'.next/\∀k,k<lo->H'.get k=H.get k:=by
 obtain⟨zcN,i0,W,_⟩:=id hv;have hone:AV.one v=true:=by rw[W];rfl
 clear W;refine zcv (M:=20) (rs:=[.tmp 4]) (J.call _) J.ice J.froz Tryz.func181 rfl rfl G4.2 rfl ?_;dsimp only[G4,zcr,Nat.reduceAdd];repeat' (first
  |(apply zcl ?_;clear hK K)|apply Rx.o ?_|apply ak ?_|(apply zcm fun K hK=>?_)|apply ay ?_|fail)
 refine zdl [1] [] 5 8 (fun i E Z=>∃w,E.at 0=w/\gT Z w (b++zd8 n i) lo/\∀k,k<lo->Z.get k=H.get k) eE ⟨v,eE,by simpa [zd8]using hv,fun _ _=>rfl⟩ ?_;rintro i E Z hi O L I hsI ⟨w,zdz,Y,m⟩;(try simp only[zcO,zcI,aY,zcz,zcL,Nat.reduceBEq, *]at O);(try simp only[zcI, *]at L);(try simp only[zcB,zcS,zdg,bw,Nat.reduceAdd]at I);by_cases F:i<8
 .have U:(i:Int)<8:=by omega
  have e1:IntKind.wrap .i64 (8*(i:Int))=((8*i:Nat):Int):=by rw[zej ac ac];omega
  have e2:IntKind.wrap .u64 ((8*i:Nat):Int)=((8*i:Nat):Int):=(by decide:∀i:Fin 8,IntKind.wrap .u64 ((8*i.val:Nat):Int)=((8*i.val:Nat):Int)) ⟨i,F⟩;have e4:∀(D:BinOp->Sx->Sx->Option Bool) (t:TypeId),zdr Tryz.prog D .shr t (.int .u64 n) (.int .u64 ((8*i:Nat):Int))=some (.int .u64 (n.fdiv (2^ (8*i)))):=fun D t=>bin_shr ac rfl;repeat' (first
   |(apply zcl ?_;clear hK K)|apply Ry.o ?_|(apply aB (fun z V=>?_) (fun z V=>?_)<;>try(cases z;done))|apply ak ?_|(apply zcm fun K hK=>?_)|apply ay ?_|apply zco ?_|fail)
  have A:xr (Z.alloc (.cells [.int .u8 (iY n i)] 0 true)) w (b++zd8 n i) lo:=.inr (Y.keep (f7 _) fun k j=>by rw[zcu,ah (by have:=(Y.lt j).2;omega)]);have hlo2:lo<=Z.next:=by obtain⟨r,im,_,_,_,h1,h2⟩:=Y;omega
  obtain⟨v5,H5,a5,s5,n5,f5,o5⟩:=GY (r:=Z.next) (imm:=0) (iY n i) A gR ij (by rw[fj,zfc];omega);have n5':Z.next<=H5.next:=sk
  have o:∀k,k<lo->H5.get k=H.get k:=fun k j=>by rw[f5 k j,zcu,ah ac,m k j]
  clear n5 f5 o5;refine nL eV eV ut ?_;repeat' (first
   |(apply zcl ?_;clear hK K)|apply Rx.o ?_|(apply zcm fun K hK=>?_)|fail)
  refine⟨ac,zcy,zcy,zcT,Gx,?_⟩;exact⟨v5,eE,by rw[G3,<-f8];exact s5,o⟩
 .have U:¬(i:Int)<8:=by omega
  repeat' (first
   |(apply zcl ?_;clear hK K)|apply Ry.o ?_|(apply aB (fun z V=>?_) (fun z V=>?_)<;>try(cases z;done))|apply ak ?_|(apply zcm fun K hK=>?_)|apply am ?_|apply zcA ?_)
  all_goals (refine⟨eI,_,eR,?_⟩;try simp only[zcn])
  have g:i=8:=ac;rw[g]at Y;exact⟨Y,ac,m⟩
def o0(n:Nd):List Int:=IntKind.wrap .u8 n.op::(zd8 (IntKind.wrap .u64 n.imm) 8++n.kids.flatMap fun k=>zd8 (IntKind.wrap .u64 k) 8)
theorem G7(n:Nd):o0 n=[IntKind.wrap .u8 n.op]++zd8 (IntKind.wrap .u64 n.imm) 8++n.kids.flatMap fun k=>zd8 (IntKind.wrap .u64 k) 8:=by
 rw[o0];simp
theorem G8:∀l:List Int,pt (l.map (.int .u8))=some (nZ l)
 |[]=>rfl
 |a::l=>by
  have:=G8 l;simp only[dJ,pt,this];rfl
theorem G9{H:Hp}{v:AV}{l:List Int}{lo:Nat}(L:gT H v l lo):zeI Tryz.prog H 200 9 v=some (.str (nZ l)):=by
 obtain⟨r,Z,rfl,A,_⟩:=L;have F:zer H 1 (.sl r 0 l.length 1)=some (l.length,l.map (.int .u8)):=by
  have:=lT (H:=H) (r:=r) (o:=0) (n:=l.length) (z:=1) (s:=1) A aD;rw[this,dQ,ev aD]
 simp only[zeI,Tryz.underlying200,Tryz.underlying9,Tryz.underlying5,F];rw[G8]
def uH(n:Nd):List AV:=[.agg n.cells]
theorem Yr(x y:Nd)(h:uH x=uH y):x=y:=by
 simp only[uH,cM,AV.agg.injEq,aY]at h;exact nS h
theorem Ys(ρ:Nat->Int)(n:Nd)(hn:n.kids.length<2^30):a9 Tryz.prog ρ 147 [.agg n.cells] (.str (nZ (o0 n))):=zdv fit (pls:=pls) (l:=[]) trivial (.cons (.agg n.pure) .nil) (.str _) (by
 have J:=zdM 147;refine zcv (M:=29) (rs:=[.tmp 2]) (J.call _) J.ice J.froz Tryz.func147 rfl rfl G5.2 rfl ?_;dsimp only[G5,zcr,Nat.reduceAdd];repeat' (first
  |(apply zcl ?_;clear hK K)|apply Rx.o ?_|apply ak ?_|(apply zcm fun K hK=>?_)|fail)
 refine bg rfl bh bj ?_;simp only[br];refine a7 ?_ (G6 (zdM _) rfl (b:=[IntKind.wrap .u8 n.op]) (lo:=1) ⟨1,0,rfl,nX,cK _,aM _,sm⟩ aD _);rintro w H1 ⟨Z,n1,C⟩;have g1:H1.get 0=some (.cells n.cells 0 true):=by rw[C 0 ac];rfl
 have n1':1<=H1.next:=by simp only[zcB]at n1;omega
 clear n1 C;dsimp only[zcF];repeat' (first
  |(apply zcl ?_;clear hK K)|apply Rx.o ?_|apply ak ?_|(apply zcm fun K hK=>?_)|apply ay ?_|fail)
 refine zdl [1,2,16,17] [] 18 n.kids.length (fun j E H=>∃w,E.at 3=w/\gT H w ([IntKind.wrap .u8 n.op]++zd8 (IntKind.wrap .u64 n.imm) 8++(n.kids.take j).flatMap fun k=>zd8 (IntKind.wrap .u64 k) 8) 1/\H.get 0=some (.cells n.cells 0 true)) eE ⟨w,eE,rr,g1⟩ ?_;rintro j E H2 hj i W U g ⟨w2,zeP,Y,g2⟩;(try simp only[zcO,zcI,aY,zcz,zcL,Nat.reduceBEq, *]at i);(try simp only[zcI, *]at W);(try simp only[zcB,zcS,zdg,bw,Nat.reduceAdd]at U);by_cases O:j<n.kids.length
 .have m:(j:Int)<n.kids.length:=by omega
  have L:n.kids[j]?=some n.kids[j]:=aO O;have I:n.kids.take (j+1)=n.kids.take j++[n.kids[j]]:=by rw[mw,L];rfl
  have hfl:((n.kids.take j).flatMap fun k=>zd8 (IntKind.wrap .u64 k) 8).length<=8*j:=by
   rw[List.length_flatMap];simp only[zfc];have:((n.kids.take j).map fun _=>8).sum=8*(n.kids.take j).length:=by
    generalize n.kids.take j=q;induction q with
    |nil=>rfl
    |cons a q ih=>simp[ih];omega
   rw[this,iN];omega
  generalize n.kids[j]=kd at *;repeat' (first
   |(apply zcl ?_;clear hK K)|apply Ry.o ?_|(apply aB (fun z V=>?_) (fun z V=>?_)<;>try(cases z;done))|apply ak ?_|(apply zcm fun K hK=>?_)|apply ay ?_|apply zco ?_|fail)
  refine bg rfl bh bj ?_;simp only[br];refine a7 ?_ (G6 (zdM _) rfl Y Gt _);rintro w3 H3 ⟨A,n3,o3⟩;have g3:H3.get 0=some (.cells n.cells 0 true):=by rw[o3 0 ac];exact g2
  dsimp only[zcF];repeat' (first
   |(apply zcl ?_;clear hK K)|apply Rx.o ?_|(apply zcm fun K hK=>?_)|fail)
  refine⟨ac,zcy,zcy,zcT,oX,?_⟩;exact⟨w3,eE,by rw[I,List.flatMap_append,oI,Bp,br,<-f8];exact A,g3⟩
 .have m:¬(j:Int)<n.kids.length:=by omega
  have o:j=n.kids.length:=ac;subst o;rw[tC]at Y;have F:=G9 Y;rw[<-G7]at F;repeat' (first
   |(apply zcl ?_;clear hK K)|apply Ry.o ?_|(apply aB (fun z V=>?_) (fun z V=>?_)<;>try(cases z;done))|apply ak ?_|(apply zcm fun K hK=>?_)|apply am ?_|apply zcA ?_)
  all_goals (refine⟨eI,_,eR,?_⟩;try simp only[zcn]))
end
section
def tyR3c.tyF:=ad @cI (ad @bZ (ad @dl (ad @hM (ad @lm (ad @mM (ad @jP (ad @jQ (ad @iA (ad @iB (ad @gk (ad @mN (ad @jv (ad @Xc (ad @Xd (@Xe)))))))))))))))
open tyR3c
mutual
def xt:St->Bool
 | .mk _ _ _ _ a v args Y Z=>decide ((20:Int)<iF a)||decide ((20:Int)<iF v)||n0 Y||n0 Z||args.any fun e=>decide ((20:Int)<iF e)
def n0:List St->Bool
 |[]=>false
 |x::l=>xt x||n0 l
end
def fd(p:Pr):List AV:=[.agg p.cells]
theorem qA(x y:Pr)(h:fd x=fd y):x=y:=by simp only[fd,cM,AV.agg.injEq,aY]at h;exact Pr.inj h
def qB(f:Fu):Bool:=decide ((6:Int)<f.params.length)||decide ((8:Int)<f.locals.length)||decide ((200:Int)<zei f.body)||decide ((16:Int)<zef f.body)||decide ((20:Int)<zeW f.body 0)||n0 f.body||decide ((20:Int)<iF f.value)
def uI(a:Ar):Bool:=decide (a.len<1)||decide (16<a.len)
def su(p:Pr):Bool:=decide ((4:Int)<p.arrays.length)||decide ((8:Int)<p.funcs.length)||p.arrays.any uI||p.funcs.any qB
end
theorem xu(d:Nat)(h:d<2^60):eA ((d:Int)+1)=((d+1:Nat):Int):=by unfold eA;rw[zej ac ac];omega
mutual
theorem Hd:∀(x:Ex) (d:Nat),d<=21->js nM x d=decide (d+iF x<=20)
 | .mk k n s o V,d,hd=>by
   rw[js,nM,iF];by_cases h:d<=20
   .rw[xu d ac,He V d h];simp only[show decide ((d:Int)<=20)=true by simpa using (by omega:(d:Int)<=20),de]
   .have i:decide ((d:Int)<=20)=false:=by simp;omega
    rw[i,dK];symm;simp;omega
theorem He:∀(l:List Ex) (d:Nat),d<=20->zew nM l ((d+1:Nat):Int)=decide (d+qo l<=20)
 |[],d,hd=>by rw[zew,qo];symm;simpa using hd
 |e::es,d,hd=>by
  rw[zew,Hd e (d+1) ac,He es d hd,qo];by_cases i:d+1+iF e<=20<;>by_cases g:d+qo es<=20;all_goals simp only[i,g,qm,jN,oR,de,dK]
  all_goals (symm;simp;omega)
end
theorem BC(x:Ex):js nM x 0=!decide ((20:Int)<iF x):=by
 have:=Hd x 0 ac;rw[show((0:Nat):Int)=0 from rfl]at this;rw[this];by_cases h:iF x<=20
 .have:¬(20:Int)<iF x:=by omega
  simp[h,this]
 .have:(20:Int)<iF x:=by omega
  simp[h,this]
theorem Hg:∀(l:List Ex),zew nM l 0=!(l.any fun e=>decide ((20:Int)<iF e))
 |[]=>rfl
 |e::es=>by rw[zew,BC,Hg es,mS,sn]
mutual
theorem Yt:∀(x:St) (d:Int),iw (lg nM) x d ()=(!xt x,())
 | .mk k K W n a v args Y Z,d=>by
   rw[iw,lg,xt];simp only[St.at_,St.value,St.args,BC,Hg];cases i:decide ((20:Int)<iF a)
   .cases g:decide ((20:Int)<iF v)
    .cases o:args.any fun e=>decide ((20:Int)<iF e)
     .simp only[gL,jN,de,xw Y];cases U:n0 Y
      .simp only[gL,xw Z,jx,jc]
      .simp
     .simp
    .simp
   .simp
theorem xw:∀(l:List St) (d:Int),zdG (lg nM) l d ()=(!n0 l,())
 |[],_=>rfl
 |x::l,d=>by
  rw[zdG,Yt x,n0];cases h:xt x
  .simp only[gL,xw l,jc]
  .simp
end
def o7(k:Int):Nat:=if k=4 then 1 else 0
theorem Yu(x:St)(d n l:Nat)(m:n<2^60)(I:l<2^60):kC x d ((n:Int),(l:Int))=(decide ((d:Int)<=20)&&decide (((n+1:Nat):Int)<=200)&&decide (((l+o7 x.kind:Nat):Int)<=16),(((n+1:Nat):Int),((l+o7 x.kind:Nat):Int))):=by
 have J:(if x.kind=4 then eA ((l:Int)+1)else (l:Int))=((l+o7 x.kind:Nat):Int):=by
  unfold o7;split
  .rw[xu l ac]
  .rfl
 unfold kC;simp only[xu n ac,J]
mutual
theorem Yv:∀(x:St) (d n l:Nat),d<=21->n<=200->l<=16 ->
 ((zdY x d<=20/\n+n1 x<=200/\l+zex x<=16)->iw kC x d ((n:Int),(l:Int))=(true,(((n+n1 x:Nat):Int),((l+zex x:Nat):Int)))) /\
 (¬(zdY x d<=20/\n+n1 x<=200/\l+zex x<=16)->(iw kC x d ((n:Int),(l:Int))).1=false)
 | .mk k K g U a v args Y Z,d,n,l,hd,hn,hl=>by
   have F:o7 (St.mk k K g U a v args Y Z).kind<=1:=by unfold o7;split<;>omega
   have O:zex (.mk k K g U a v args Y Z)=o7 (St.mk k K g U a v args Y Z).kind+zef Y+zef Z:=by rw[zex];rfl
   rw[iw,Yu _ _ _ _ ac ac,O];obtain⟨z,m⟩:∃z,o7 (St.mk k K g U a v args Y Z).kind=z:=⟨_,rfl⟩;rw[m]at F⊢;clear m O;simp only[xu d ac,zdY,n1];by_cases o:d<=20/\n+1<=200/\l+z<=16
   .have W:(decide ((d:Int)<=20)&&decide (((n+1:Nat):Int)<=200)&&decide (((l+z:Nat):Int)<=16))=true:=by
     rw[dp,dp];refine⟨⟨?_,?_⟩,?_⟩<;>apply cB<;>omega
    rw[W];simp only[];have t:=xy Y (d+1) (n+1) (l+z) ac ac ac;by_cases i:zeW Y (d+1)<=20/\n+1+zei Y<=200/\l+z+zef Y<=16
    .rw[t.1 i];simp only[];have u:=xy Z (d+1) (n+1+zei Y) (l+z+zef Y) ac ac ac;by_cases V:zeW Z (d+1)<=20/\n+1+zei Y+zei Z<=200/\l+z+zef Y+zef Z<=16
     .rw[u.1 V];refine⟨fun _=>?_,fun h=>(h ⟨ac,ac,ac⟩).elim⟩;rw[show n+1+zei Y+zei Z=n+(1+zei Y+zei Z) by omega,show l+z+zef Y+zef Z=l+(z+zef Y+zef Z) by omega]
     .refine⟨fun h=>(V ⟨ac,ac,ac⟩).elim,fun _=>u.2 V⟩
    .refine⟨fun h=>(i ⟨ac,ac,ac⟩).elim,fun _=>?_⟩;have:=t.2 i;generalize zdG kC Y _ _=r at this⊢;obtain⟨b,s⟩:=r;simp only at this;subst this;rfl
   .have W:(decide ((d:Int)<=20)&&decide (((n+1:Nat):Int)<=200)&&decide (((l+z:Nat):Int)<=16))=false:=by
     rw[<-Bool.not_eq_true,dp,dp];rintro⟨⟨a1,a2⟩,zd9⟩;have a1:=uD a1;have a2:=uD a2;have zd9:=uD zd9;exact o ⟨ac,ac,ac⟩
    rw[W];exact⟨fun h=>(o ⟨ac,ac,ac⟩).elim,fun _=>rfl⟩
theorem xy:∀(x:List St) (d n l:Nat),d<=21->n<=200->l<=16 ->
 ((zeW x d<=20/\n+zei x<=200/\l+zef x<=16)->zdG kC x d ((n:Int),(l:Int))=(true,(((n+zei x:Nat):Int),((l+zef x:Nat):Int)))) /\
 (¬(zeW x d<=20/\n+zei x<=200/\l+zef x<=16)->(zdG kC x d ((n:Int),(l:Int))).1=false)
 |[],d,n,l,hd,hn,hl=>by
  rw[zdG,zeW,zei,zef];exact⟨fun _=>rfl,fun h=>(h ⟨ac,ac,ac⟩).elim⟩
 |x::r,d,n,l,hd,hn,hl=>by
  rw[zdG,zeW,zei,zef];have t:=Yv x d n l hd hn hl;by_cases i:zdY x d<=20/\n+n1 x<=200/\l+zex x<=16
  .rw[t.1 i];simp only[];have u:=xy r d (n+n1 x) (l+zex x) hd ac ac;by_cases g:zeW r d<=20/\n+n1 x+zei r<=200/\l+zex x+zef r<=16
   .rw[u.1 g];refine⟨fun _=>?_,fun h=>(h ⟨ac,ac,ac⟩).elim⟩;rw[show n+n1 x+zei r=n+(n1 x+zei r) by omega,show l+zex x+zef r=l+(zex x+zef r) by omega]
   .exact⟨fun h=>(g ⟨ac,ac,ac⟩).elim,fun _=>u.2 g⟩
  .refine⟨fun h=>(i ⟨ac,ac,ac⟩).elim,fun _=>?_⟩;have:=t.2 i;generalize iw kC x _ _=r at this⊢;obtain⟨b,s⟩:=r;simp only at this;subst this;rfl
end
theorem Yw(x:List St):(zdG kC x 0 (0,0)).1=(!decide ((200:Int)<zei x) && !decide ((16:Int)<zef x) && !decide ((20:Int)<zeW x 0)):=by
 have t:=xy x 0 0 0 ac ac ac;rw[show((0:Nat):Int)=0 from rfl]at t;simp only[bw]at t;by_cases h:zeW x 0<=20/\zei x<=200/\zef x<=16
 .rw[t.1 h];have i:¬(200:Int)<zei x:=ac;have g:¬(16:Int)<zef x:=ac;have o:¬(20:Int)<zeW x 0:=ac;simp[i,g,o]
 .rw[t.2 h]
  symm
  rw[<-Bool.not_eq_true,dp,dp];rintro⟨⟨a1,a2⟩,zd9⟩;simp only[k9,jw]at a1 a2 zd9;exact h ⟨ac,ac,ac⟩
theorem Yx(f:Fu):gK f=!qB f:=by
 rw[gK,qB,lh,Yw,BC,xw];have i:decide ((f.params.length:Int)<=6)=!decide ((6:Int)<f.params.length):=by
  by_cases h:(6:Int)<f.params.length
  .have:¬(f.params.length:Int)<=6:=by omega
   simp[h,this]
  .have:(f.params.length:Int)<=6:=by omega
   simp[h,this]
 have Z:decide ((f.locals.length:Int)<=8)=!decide ((8:Int)<f.locals.length):=by
  by_cases h:(8:Int)<f.locals.length
  .have:¬(f.locals.length:Int)<=8:=by omega
   simp[h,this]
  .have:(f.locals.length:Int)<=8:=by omega
   simp[h,this]
 rw[i,Z];simp only[sn];generalize (!decide ((6:Int)<f.params.length))=a;generalize (!decide ((8:Int)<f.locals.length))=b;generalize (!decide ((200:Int)<zei f.body))=c;generalize (!decide ((16:Int)<zef f.body))=d;generalize (!decide ((20:Int)<zeW f.body 0))=e;generalize (!n0 f.body)=g;generalize (!decide ((20:Int)<iF f.value))=h;cases a<;>cases b<;>cases c<;>cases d<;>cases e<;>cases g<;>cases h<;>rfl
theorem Hh{M:Type}(l:List M)(p q:M->Bool)(h:∀x,p x=!q x):l.all p=!l.any q:=by
 induction l with
 |nil=>rfl
 |cons a l ih=>rw[mR,mS,sn,h,ih]
theorem Yy(p:Pr):iS p=!su p:=by
 rw[iS,su,Hh p.funcs gK qB Yx,Hh p.arrays _ uI (fun a=>by rw[uI,sn])];simp only[sn]
end Go.Proofs.YtljebeflbbgibaaGreat
