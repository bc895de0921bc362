/- Parts: I3, SnC, EsC, R3c, R3d, R3e, R3f, R3g, R3h, R3i, R3j, G1, G2, G2r, G2s, NdM, AbArg, Seeds, EvR, Std, W6a, EvA, EvB, EvC. -/
import Derived.Deep.Slices
import Derived.Test.YtljebeflbbgibaaGreatXCH
import Derived.WideKeyArgs
import Derived.WideShapes
set_option linter.unusedSimpArgs false
set_option linter.unusedVariables false
set_option linter.unusedSectionVars false
set_option linter.defProp false
set_option maxHeartbeats 32000000
namespace Go.Ab
set_option maxRecDepth 20000
open Go
theorem el{P:Prop}(h:P:=by simp only[zdA];omega):P:=h
theorem sO{P:Prop}(h:P:=by simp only[zdA]at n5;omega):P:=h
theorem dj{P:Prop}(h:P:=by rfl):P:=h
theorem nz{P:Prop}(h:P:=by show _<=70368744177664;omega):P:=h
theorem GK{P:Prop}(h:P:=by rw[List.drop_zero,List.length_take];omega):P:=h
theorem u3{P:Prop}(h:P:=by rw[<- U];exact Nat.le_refl _):P:=h
theorem u4{P:Prop}(h:P:=by rw[zdA];omega):P:=h
theorem pz{P:Prop}(h:P:=by simp only[zdy,Nat.reduceBEq, *];exact zfq (n:=n.kids.length) ac ac):P:=h
theorem GL{P:Prop}(h:P:=by rw[List.getD_eq_getElem?_getD,List.getElem?_eq_getElem ac];rfl):P:=h
theorem jy{P:Prop}(h:P:=by simp only[zdy,Nat.reduceBEq, *];exact zfq (n:=l.length) ac ac):P:=h
theorem GM{P:Prop}(h:P:=by rw[show l.length - i=(l.length - (i+1))+1 by omega];rfl):P:=h
def xT:=@List.map_nil
def GN:=@List.mem_singleton_self
def xU:=@Int.not_lt
def BD:=@List.any_eq_true
def oA:=@List.drop_eq_nil_of_le
def u5:=@Nat.lt_of_le_of_lt
def GO:=@List.drop_length_add_append
end Go.Ab
namespace Go.Proofs.YtljebeflbbgibaaGreat
set_option maxRecDepth 20000
open Go Go.Ab
section
def tyI3.tyF:=ad @b9 (ad @ea (ad @eV (ad @eO (ad @cN (ad @uX (@qk))))))
open tyI3
noncomputable def GP:{c:SC // aC 80 (Tryz.f121.body.getD .skip)=c}:=by
 refine⟨?_,?_⟩;rotate_left
 .simp only[Tryz.f121,a5,aC,zdG,zdD,zdH,zdI,Nat.blt,Nat.ble];rfl
noncomputable def GQ:{c:SC // aC 22 (Tryz.f78.body.getD .skip)=c}:=by
 refine⟨?_,?_⟩;rotate_left
 .simp only[Tryz.f78,a5,aC,zdG,zdD,zdH,zdI,Nat.blt,Nat.ble];rfl
theorem GR(S:Nat->Prop)(n:Nat)(H:Hp):∀s:List Int,zdW (zee S (n+1) H) (s.map (.int .i64)) (s.map (.int .i64))
 |[]=>trivial
 |a::s=>⟨lN ⟨.int _ _,trivial⟩,GR S n H s⟩
theorem BE(n:Nat)(s:List Int):bF (n+2) (zel s)=zel s:=by
 show AV.lst ((s.map fun n=>[AV.int .i64 n]).map fun z=>z.map (bF (n+1)))=_;rw[pc];rfl
theorem ey.ic{H:Hp}{v:AV}{s:List Int}{lo:Nat}(h:ey H v s lo):∃u,zee (fun k=>lo<=k) 3 H v u/\bF 60 u=zel s:=by
 rcases h with⟨rfl,rfl⟩|⟨r,j,rfl,g,o,U,i⟩
 .exact⟨.nilS,lN ⟨.nilS,trivial⟩,rfl⟩
 .refine⟨.lst (jd 1 s.length (s.map (.int .i64))),⟨U,i,s.map (.int .i64),j,true,s.map (.int .i64),g,by simpa using o,aB,?_,rfl⟩,?_⟩
  .rw[dY,gD,eJ aB];exact GR _ _ _ _
  .rw[Bp];exact BE 58 s
theorem eX.icy{S:Nat->Prop}{H H':Hp}{v:AV}{s:List Int}{lo:Nat}(h:eX H v s lo)(k:Icy S H H'):eX H' v s lo:=by
 obtain⟨r,Z,rfl,g,o,U,V⟩:=h;rcases k.same r with e|⟨O,i,j,K,Y,C,I⟩
 .exact⟨r,Z,rfl,by rw[<-e];exact g,o,U,by rw[k.next];exact V⟩
 .rw[g]at Y;simp only[aA,HB.cells.injEq]at Y;obtain⟨rfl,rfl,rfl⟩:=Y;exact⟨r,j,rfl,C,by have:=I (by simpa using o);simpa using this,U,by rw[k.next];exact V⟩
theorem ey.icy{S:Nat->Prop}{H H':Hp}{v:AV}{s:List Int}{lo:Nat}(h:ey H v s lo)(k:Icy S H H'):ey H' v s lo:=h.imp id fun h=>h.icy k
noncomputable def BF:En:=⟨167,true,b7 (fun x=>x.2.length<2^30) py fun x=>.bool (zd2 x.1.op x.2)⟩
theorem Yb(ρ:Nat->Int):yO Tryz.prog ρ BF:=zei fun x I=>Ya ρ x I
noncomputable def qR:List En:=[jS BF,GF]
theorem Yc(ρ:Nat->Int):fk Tryz.prog ρ qR:=⟨qK (Yb ρ),X2 ρ,trivial⟩
theorem GS(n:Nat)(x:Nd):bF (n+4) (.agg x.cells)=.agg x.cells:=by
 show AV.agg (x.cells.map (bF (n+3)))=_;rw[Nd.cells];simp only[dL,xT,BE];rfl
theorem Yd(y:Nd×List Int):(py y).any (jf 90)=false:=by
 obtain⟨⟨K,j,V⟩,s⟩:=y;rfl
theorem Ye{l:List En}(F:∀C,zem l 167 C=(jS BF).sp C)(A:ir l 167=true){H:Hp}{v:AV}{s:List Int}{lo:Nat}(L:ey H v s lo)(K:s.length<2^30)(n:Nd):
 zdw Tryz.prog (zdp pls l) 167 [.agg n.cells,v] H fun w H'=>w=.bool (zd2 n.op s)/\Icy (fun k=>lo<=k) H H':=by
 obtain⟨u,i,g⟩:=L.ic;obtain⟨Z,o⟩:∃us,zdW (zee (fun k=>lo<=k) 2 H) n.cells us/\us=n.cells:=by
  refine⟨n.cells,?_,rfl⟩;rw[Nd.cells];exact⟨lN ⟨.int _ _,trivial⟩,lN ⟨.int _ _,trivial⟩,lN ⟨pn _,trivial⟩,trivial⟩
 obtain⟨o,rfl⟩:=o;refine qQ (x:=((n,s):Nd×List Int)) (enc:=py) (ok:=fun x=>x.2.length<2^30) (out:=fun x=>.bool (zd2 x.1.op x.2)) (us:=[.agg n.cells,u]) (n:=3) X4 (fun C=>sk) A Yd K ac ⟨⟨n.cells,o,rfl⟩,i,trivial⟩ ?_;show [bF 60 (.agg n.cells),bF 60 u]=_;rw[g,GS 56];rfl
theorem GT{i:Nat}{kn V:List Int}{j:Nat}(O:j<V.length):jx i kn (V.drop j)=if V[j]<0\/(i:Int)<=V[j]\/kn.getD V[j].toNat 0=0 then none else (jx i kn (V.drop (j+1))).map fun s=>kn.getD V[j].toNat 0::s:=by
 rw[fq O,jx]
def oB(i:Nat)(kn V:List Int)(j:Nat)(s:List Int):Prop:=s.length=j/\jx i kn V=(jx i kn (V.drop j)).map fun t=>s++t
theorem oB.bad{i:Nat}{kn V:List Int}{j:Nat}{s:List Int}(h:oB i kn V j s){J:Int}(C:V[j]?=some J)(z:J<0\/(i:Int)<=J\/kn.getD J.toNat 0=0):jx i kn V=none:=by
 obtain⟨O,e⟩:=de.1 C;rw[h.2,GT O,e,az z];rfl
theorem oB.next{i:Nat}{kn V:List Int}{j:Nat}{s:List Int}(h:oB i kn V j s){J:Int}(C:V[j]?=some J)(z:¬(J<0\/(i:Int)<=J\/kn.getD J.toNat 0=0)):oB i kn V (j+1) (s++[kn.getD J.toNat 0]):=by
 obtain⟨O,e⟩:=de.1 C;refine⟨by simp[h.1],?_⟩;rw[h.2,GT O,e,ai z];cases jx i kn (V.drop (j+1))with
 |none=>rfl
 |some t=>simp
theorem oB.done{i:Nat}{kn V:List Int}{s:List Int}(h:oB i kn V V.length s):jx i kn V=some s:=by
 rw[h.2,jR];simp[jx]
theorem xV{l:List Nd}{i:Nat}{kn:List Int}{n:Nd}(m:l[i]?=some n)(h:jx i kn n.kids=none):jV l i kn=0:=by
 rw[jV,m];simp only[h]
theorem Yf{l:List Nd}{i:Nat}{kn:List Int}{n:Nd}{s:List Int}(m:l[i]?=some n)(h:jx i kn n.kids=some s):jV l i kn=if zd2 n.op s&&zeh l n then zey n s else 0:=by
 rw[jV,m];simp only[h]
theorem Yg{op:Int}{s:List Int}(h:zd2 op s=true)(K:op=25):s.length=1:=by
 subst K;by_cases c:s.length=1
 .exact c
 .rw[BB dk (by have e:(bg 25).1=1:=rfl;rw[e];omega)]at h;cases h
theorem Yh{op:Int}{s:List Int}(h:zd2 op s=true)(F:op=22):s.length=3:=by
 subst F;by_cases c:s.length=3
 .exact c
 .rw[BB dk (by have e:(bg 22).1=3:=rfl;rw[e];omega)]at h;cases h
theorem Yi{l:List Nd}{i:Nat}{kn s:List Int}{n:Nd}(A:i<l.length)(Z:∀n∈l,n.kids.length<2^30)(j:jx i kn n.kids=some s)(L:zd2 n.op s=true):u0 (l,n):=by
 intro K;have Y:=Yg L K;rw[pg j]at Y;obtain⟨k,J⟩:=lO Y;simp only[]at J⊢;obtain⟨o,U,_⟩:=so j k (by rw[J];exact GN _);obtain⟨m,rfl⟩:=eL o;have M:m<l.length:=ac;exact⟨m,l[m],by rw[J];rfl,aR M,by have:=Z _ (dr M);omega⟩
set_option maxRecDepth 100000 in
theorem Yj{l:List Nd}{i:Nat}{kn:List Int}{r:Nat}{H:Hp}(hl:l.length<2^30)(hi:i<l.length)(hkl:∀n∈l,n.kids.length<2^30)(hkn:l.length<=kn.length)(C:H.get r=some (.cells (kn.map (.int .i64)) 0 true))(hr:r<H.next):
 zdw Tryz.prog (zdp pls qR) 121 [zeu l,.int .i64 i,.sl r 0 kn.length 1] H fun v H'=>v=.int .i64 (jV l i kn)/\H.next<=H'.next/\∀k,k<H.next->H'.get k=H.get k:=by
 have hw:Plain (zdp pls qR) 121:=zej (fun _=>rfl) rfl;have hkeep:(zdp pls qR).keep 121=false:=rfl;have O:l[i]?=some l[i]:=aR hi;have hnk:=hkl _ (dr hi);generalize l[i]=n at *;refine zdv (M:=80) (rs:=[.tmp 6]) (hw.call _) hw.ice hw.froz Tryz.func121 rfl rfl GP.2 rfl ?_;dsimp only[GP,zds,Nat.reduceAdd];repeat' (first
  |(apply zdk ?_;clear hK K)|apply Rx.o ?_|apply bp ?_|apply ak ?_|(apply zdl fun K hK=>?_)|apply au ?_|fail)
 refine zef [0,1,2,7,16,17] [] 18 n.kids.length (fun j E g=>∃v s,E.at 8=v/\ey g v s (H.next+1)/\oB i kn n.kids j s/\g.get H.next=some (.cells n.cells 0 true)/\∀k,k<H.next->g.get k=H.get k) eE ⟨.nilS,[],eE,.inl ⟨rfl,rfl⟩,⟨rfl,aB⟩,ik,fun k o=>by rw[aW,ai ac,zdq,ai ac]⟩ ?_;rintro j E g hj hcE hrH hnH hsI ⟨v,s,zgl,hv,J,hn7,Z⟩;(try simp only[zdO,zdF,aX,zdy,zdJ,Nat.reduceBEq, *]at hcE);(try simp only[zdF,zdJ, *]at hrH);(try simp only[zdA,zdQ,]at hnH);repeat' (first
  |(apply zdk ?_;clear hK K)|apply Rx.o ?_|(apply aS (fun z V=>?_) (fun z V=>?_)<;>try(cases z;done))|apply ak ?_|(apply zdl fun K hK=>?_)|apply au ?_|apply zdm ?_|apply zdr ?_)
 .have hlt:j<n.kids.length:=by simpa using z
  have F:n.kids[j]?=some n.kids[j]:=aR hlt;generalize n.kids[j]=kd at *;have g2r:g.get r=some (.cells (kn.map (.int .i64)) 0 true):=by rw[Z r hr];exact C
  by_cases c1:kd<0
  .repeat' (first
    |(apply zdk ?_;clear hK K)|apply Ry.o ?_|(apply a2 (fun C L=>?_) (fun C L=>?_)<;>try(cases C;done))|(apply aD (fun z V=>?_) (fun z V=>?_)<;>try(cases z;done))|apply ak ?_|(apply zdl fun K hK=>?_)|apply am ?_|fail)
   all_goals (refine⟨eI,_,eR,?_⟩;try simp only[zdn])
   refine⟨?_,ac,Z⟩;rw[xV O (J.bad F (.inl c1))]
  by_cases c2:(i:Int)<=kd
  .have c1':¬kd<0:=c1;repeat' (first
    |(apply zdk ?_;clear hK K)|apply Ry.o ?_|(apply a2 (fun C L=>?_) (fun C L=>?_)<;>try(cases C;done))|(apply aD (fun z V=>?_) (fun z V=>?_)<;>try(cases z;done))|apply ak ?_|(apply zdl fun K hK=>?_)|apply am ?_|fail)
   all_goals (refine⟨eI,_,eR,?_⟩;try simp only[zdn])
   refine⟨?_,ac,Z⟩;rw[xV O (J.bad F (.inr (.inl c2)))]
  obtain⟨m,rfl⟩:=eL (xU.1 c1);have hml:m<kn.length:=ac;have hgk:kn[m]?=some kn[m]:=aR hml;have hgd:kn.getD (m:Int).toNat 0=kn[m]:=by rw[dQ,cS,hgk];rfl
  have hia:zdV Tryz.prog 23 (.sl r 0 kn.length 1) (.int .i64 (m:Int))=some (.ptr r m):=by rw[mj Tryz.underlying23 ju hml];simp
  have hld:zeX Tryz.prog g 3 (.ptr r m)=some (.int .i64 kn[m]):=by rw[ql Tryz.underlying3 rfl g2r,dK,hgk];rfl
  generalize kn[m]=x at *;repeat' (first
   |(apply zdk ?_;clear hK K)|apply Ry.o ?_|(apply a2 (fun C L=>?_) (fun C L=>?_)<;>try(cases C;done))|(apply aD (fun z V=>?_) (fun z V=>?_)<;>try(cases z;done))|apply ak ?_|(apply zdl fun K hK=>?_)|apply zdm ?_|apply am ?_|fail)
  .all_goals (refine⟨eI,_,eR,?_⟩;try simp only[zdn])
   refine⟨?_,ac,Z⟩;rw[xV O (J.bad F (.inr (.inr (by rw[hgd];assumption))))]
  .have hvb:ey (g.alloc (.cells [.int .i64 x] 0 true)) v s (H.next+1):=hv.keep (fQ _) fun k o=>by rw[zdq,ai (by have:=(hv.lt o).2;omega)]
   obtain⟨v5,H5,zeD,s5,n5,f5,o5⟩:=xM (r:=g.next) (imm:=0) x hvb el gO (by have:=J.1;omega);have hJn:=J.next F (by rw[hgd];rintro(h|h|h)<;>contradiction)
   rw[hgd]at hJn;have n5':g.next<=H5.next:=sO
   clear n5;have old5:∀k,k<H.next+1->H5.get k=g.get k:=fun k o=>by rw[f5 k o,zdq,ai ac]
   refine od zeM zeM (by rw[hkeep];exact zeD) ?_;repeat' (first
    |(apply zdk ?_;clear hK K)|apply Rx.o ?_|(apply zdl fun K hK=>?_)|fail)
   clear f5 o5 zeD;refine⟨ac,zdz,zdz,eN,pz,?_⟩;refine⟨v5,s++[x],eE,.inr s5,hJn,by rw[old5 _ ac];exact hn7,fun k o=>by rw[old5 k ac,Z k o]⟩
 .have hje:j=n.kids.length:=by simp at z;omega
  rw[hje]at J;have I:=Yf O J.done;have hsl2:s.length<2^30:=by rw[J.1];exact hnk
  repeat' (first
   |(apply zdk ?_;clear hK K)|fail)
  refine bh rfl bm bo ?_;simp only[bJ];refine a9 ?_ (Ye (fun _=>rfl) rfl hv hsl2 n);rintro w H4 ⟨rfl,hy⟩;have n4:=hy.next
  have n4':H.next+1<=H4.next:=ac
  have Y:=hv.icy hy;have g4:H4.get H.next=some (.cells n.cells 0 true):=by rw[hy.out _ ac];exact hn7
  have o4:∀k,k<H.next->H4.get k=H.get k:=fun k o=>by rw[hy.out _ ac,Z k o]
  clear hy n4 hv Z hn7;dsimp only[zdE];cases A:zd2 n.op s with
  |false=>
   repeat' (first
    |(apply zdk ?_;clear hK K)|apply Rx.o ?_|(apply bZ (fun C L=>?_) (fun C L=>?_)<;>try(cases C;done))|(apply aS (fun z V=>?_) (fun z V=>?_)<;>try(cases z;done))|apply ak ?_|(apply zdl fun K hK=>?_)|apply am ?_|fail)
   all_goals (refine⟨eI,_,eR,?_⟩;try simp only[zdn])
   refine⟨?_,ac,o4⟩;rw[I,A];rfl
  |true=>
  have U:=Yi hi hkl J.done A;rw[A,dw]at I;have kim:∀H,zdw Tryz.prog (zdp pls qR) 168 [zeu l,.agg n.cells] H fun v H'=>v=.bool (zeh l n)/\H'=H:=fun H=>zeq (enc:=qO) (ok:=u0) (out:=fun x=>.bool (zeh x.1 x.2)) X0 (x:=(l,n)) rfl U;have hq:(16:Int)≠0:=dk;repeat' (first
   |(apply zdk ?_;clear hK K)|apply Rx.o ?_|(apply iO ?_;first|refine Rx.k (kim _) ?_)|(apply bZ (fun C L=>?_) (fun C L=>?_)<;>try(cases C;done))|(apply aS (fun z V=>?_) (fun z V=>?_)<;>try(cases z;done))|apply ak ?_|(apply zdl fun K hK=>?_)|apply au ?_|apply zdm ?_|apply am ?_|fail)
  all_goals (first|(refine⟨eI,_,eR,?_⟩;(try simp only[zdn]);refine⟨?_,ac,o4⟩;rw[I];unfold zey;clear U kim o4 Y I O;simp_all;done)|skip)
  all_goals trace_state
  repeat' (first
   |(apply zdk ?_;clear hK K)|fail)
  have h22:n.op=22:=il;have hl3:=Yh A h22;rcases Y with⟨_,hnil⟩|Y
  .rw[hnil]at hl3;simp at hl3
  obtain⟨q,hix,hlo⟩:=Y.at (i:=1) ac;have hix':zdV Tryz.prog 23 v (.int .i64 1)=some (.ptr q 1):=hix;repeat' (first
   |(apply zdk ?_;clear hK K)|apply Rx.o ?_|apply am ?_|fail)
  all_goals (refine⟨eI,_,eR,?_⟩;try simp only[zdn])
  refine⟨?_,ac,o4⟩;have hgl:s.getD 1 0=s[1]' ac:=GL;rw[I];unfold zey;clear U kim o4 Y I O;simp_all
theorem GU{i:Nat}{a b:List Int}(J:a.length=i):∀U:List Int,jx i (a++b) U=jx i a U
 |[]=>rfl
 |k::U=>by
  rw[jx,jx,GU J U];by_cases h:k<0\/(i:Int)<=k
  .rw[az ac,az ac]
  .have e:(a++b).getD k.toNat 0=a.getD k.toNat 0:=by rw[cS,cS,fz ac]
   rw[e]
theorem Yk(l:List Nd){i:Nat}(b:List Int):jV l i (zd0 l i++b)=jV l i (zd0 l i):=by
 unfold jV;cases l[i]? with
 |none=>rfl
 |some n=>simp only[GU (zf2 l i)]
def zeN(l:List Nd):Prop:=l.length<2^30/\∀n∈l,n.kids.length<2^30
def jg(l:List Nd):List AV:=[zeu l]
theorem qS(x y:List Nd)(h:jg x=jg y):x=y:=by
 simp only[jg,cR,aX]at h;exact uZ h
theorem Yl(ρ:Nat->Int)(l:List Nd)(hl:zeN l):bc Tryz.prog ρ 78 [zeu l] (zel (zd0 l l.length)):=zgb (m:=3) (cfg:=zdp pls qR) fit (lE ρ) (fk.look (Yc ρ)) (.cons (zfV _) .nil) (by
 obtain⟨F,C⟩:=hl;have A:Plain (zdp pls qR) 78:=zej (fun _=>rfl) rfl;have hmk:∀H:Hp,ze7 Tryz.prog H 23 (.int .i64 l.length) (.int .i64 l.length)=some (.sl H.next 0 l.length 1,H.alloc (.cells ((List.replicate l.length (0:Int)).map (.int .i64)) 0 true)):=fun H=>Xz _ _ (aM _) ac;refine zdv (M:=22) (rs:=[.tmp 2]) (A.call _) A.ice A.froz Tryz.func78 rfl rfl GQ.2 rfl ?_;dsimp only[GQ,zds,Nat.reduceAdd];repeat' (first
  |(apply zdk ?_;clear hK K)|apply Rx.o ?_|apply ak ?_|(apply zdl fun K hK=>?_)|apply au ?_|fail)
 refine zef [0,2,3,9] [] 10 l.length (fun i E H=>H.get 0=some (.cells ((zd0 l i++List.replicate (l.length-i) 0).map (.int .i64)) 0 true)) eE (by rw[zdq,az dj];simp[zd0]) ?_;rintro i E H2 hi L J I hsI j;(try simp only[zdO,zdF,aX,zdy,zdJ,Nat.reduceBEq, *]at L);(try simp only[zdF,zdJ, *]at J);(try simp only[zdA,zec,bC]at I);repeat' (first
  |(apply zdk ?_;clear hK K)|apply Rx.o ?_|(apply aS (fun z U=>?_) (fun z U=>?_)<;>try(cases z;done))|apply ak ?_|(apply zdl fun K hK=>?_)|apply au ?_|apply zdm ?_|apply am ?_|apply zdr ?_)
 .have o:i<l.length:=by simpa using z
  refine bh rfl bm bo ?_;simp only[bJ];have Y:(zd0 l i++List.replicate (l.length-i) (0:Int)).length=l.length:=by rw[ep,zf2,j7];omega
  have O:=Yj (l:=l) (i:=i) (kn:=zd0 l i++List.replicate (l.length-i) 0) (r:=0) (H:=H2) F o C ac j ac;rw[Y]at O;refine a9 ?_ O;rintro w H3 ⟨rfl,hn3,Z⟩;have g3:H3.get 0=_:=(Z 0 ac).trans j;have n3:1<=H3.next:=ac
  rw[Yk];dsimp only[zdE];generalize hx:jV l i (zd0 l i)=x;have g:zd0 l (i+1)=zd0 l i++[x]:=by rw[zd0,hx]
  repeat' (first
   |apply Ry.o ?_|fail)
  refine mY zeM zeM (uU g3 (by rw[cE,Y];exact o) x) ?_;repeat' (first
   |(apply zdk ?_;clear hK K)|apply Rx.o ?_|(apply zdl fun K hK=>?_)|fail)
  refine⟨ac,zdz,zdz,eN,jy,?_⟩;rw[aW,az rfl,g,<-oy];have V:List.replicate (l.length-i) (0:Int)=0::List.replicate (l.length-(i+1)) 0:=GM;rw[V,List.set_append,ai pf,zf2,gT,Bj,gB];rfl
 .have hie:i=l.length:=by simp at z;omega
  rw[hie,gT]at j;repeat' (first
   |(apply zdk ?_;clear hK K)|fail)
  all_goals (refine⟨eI,_,eR,?_⟩;try simp only[zdn])
  have z:eX H2 (.sl 0 0 (zd0 l l.length).length 1) (zd0 l l.length) 0:=⟨0,0,rfl,by rw[j];simp,cG _,cG _,ac⟩;have:=z.iceV 1;rw[zf2]at this;exact this)
noncomputable def BG:En:=⟨78,true,b7 zeN jg fun l=>zel (zd0 l l.length)⟩
theorem Ym(ρ:Nat->Int):yO Tryz.prog ρ BG:=zei fun l F=>Yl ρ l F
theorem Yn{tb:List En}(I:∀C,zem tb 78 C=BG.sp C)(l:List Nd)(F:zeN l)(H:Hp):zdw Tryz.prog (zdp pls tb) 78 [zeu l] H fun v H'=>v=zel (zd0 l l.length)/\H'=H:=
 zeq (enc:=jg) (ok:=zeN) (out:=fun l=>zel (zd0 l l.length)) qS (x:=l) (I _) F
theorem zeN.take{l:List Nd}(h:zeN l)(k:Nat):zeN (l.take k):=⟨by rw[iX];have:=h.1;omega,fun n m=>h.2 n (List.mem_of_mem_take m)⟩
theorem Yo(l:List Nd)(k:Nat)(j:k<=l.length):jk Tryz.prog 26 (.lst (l.map Nd.cells)) none (some (.int .i64 (k:Int)))=some (.lst ((l.take k).map Nd.cells)):=by
 have Z:(k:Int)=Int.ofNat k:=rfl;simp only[jk,Tryz.underlying26,pi,ze1];rw[az ⟨cG _,by rw[cE];exact j⟩];have C:((l.map Nd.cells).drop 0).take (k-0)=(l.take k).map Nd.cells:=by rw[dY,ww,zH]
 rw[C];cases l.take k with
 |nil=>rfl
 |cons a l=>simp only[dL,Nd.clen,bT]
def mD(x:List Nd×Int):List AV:=[zeu x.1,.int .i64 x.2]
theorem GV(x y:List Nd×Int)(h:mD x=mD y):x=y:=by
 simp only[mD,cR,AV.int.injEq,aX,fR]at h;exact jQ (uZ h.1) h.2
end
section
def tySnC.tyF:=ad @cN (ad @b9 (ad @ea (@eV)))
open tySnC
noncomputable def xW:{c:SC // aC 45 (Tryz.f39.body.getD .skip)=c}:=by
 refine⟨?_,?_⟩;rotate_left
 .simp only[Tryz.f39,a5,aC,zdG,zdD,zdH,zdI,Nat.blt,Nat.ble];rfl
def qT(x:Nd×Nd):List AV:=[.agg x.1.cells,.agg x.2.cells]
theorem Yp(x y:Nd×Nd)(h:qT x=qT y):x=y:=by
 simp only[qT,cR,AV.agg.injEq,aX]at h;exact jQ (nl h.1) (nl h.2)
def xX(x:Nd×Nd):Prop:=x.1.kids.length<2^60
theorem Yq{s w:List Int}(F:s.length=w.length){i:Nat}(A:i<s.length):decide (s.drop i=w.drop i)=(decide (s.getD i 0=w.getD i 0)&&decide (s.drop (i+1)=w.drop (i+1))):=by
 rw[fq A,fq (l:=w) ac];rw[cS,cS,aR A,aR (by omega:i<w.length)];simp only[a5,cR,Bool.decide_and]
theorem Yr(ρ:Nat->Int)(x:Nd×Nd)(hx:xX x):bc Tryz.prog ρ 39 (qT x) (.bool (decide (x.1=x.2))):=zer fit (pls:=pls) (l:=[]) trivial (.cons (.agg (qE _)) (.cons (.agg (qE _)) .nil)) (.bool _) (by
 obtain⟨⟨o1,i1,s⟩,⟨o2,i2,w⟩⟩:=x;have J:=yl 39;unfold xX at hx;rw[qT];simp only[Nd.cells]at hx⊢;have hd:decide ((⟨o1,i1,s⟩:Nd)=⟨o2,i2,w⟩)=(decide (o1=o2)&&decide (i1=i2)&&decide (s=w)):=by
  simp[Bool.decide_and,qG]
 rw[hd];by_cases F:w.length=s.length
 .clear hd;refine zdv (M:=45) (rs:=[.tmp 4]) (J.call _) J.ice J.froz Tryz.func39 rfl rfl xW.2 rfl ?_;dsimp only[xW,zds,Nat.reduceAdd];repeat' (first
   |(apply zdk ?_;clear hK K)|apply Ry.o ?_|(apply a2 (fun C L=>?_) (fun C L=>?_)<;>try(cases C;done))|(apply aD (fun z V=>?_) (fun z V=>?_)<;>try(cases z;done))|apply ak ?_|(apply zdl fun K hK=>?_)|(apply zdL 6 [(1,11),(4,11),(6,11),(9,11)] fun K hK=>?_)|(apply zdK ?_;try intro _)|(apply zdM ?_ ?_<;>clear hK K)|apply bl ?_|apply au ?_|apply zdm ?_|apply am ?_|apply zdr ?_)
  all_goals first
   |(refine⟨eI,_,dG,?_⟩;try simp only[zdn]
     simp_all;done)
   |skip
  refine zef [2,3] [0,1] 5 s.length (fun i E H=>decide (s=w)=decide (s.drop i=w.drop i)) eE aB ?_;rintro i E g hi j m Z hsI Y;(try simp only[zdO,zdF,aX,zdy,zdJ,Nat.reduceBEq,Nat.reduceAdd,Nat.reduceLeDiff,tyF, *]at j);(try simp only[zdO,zdF,aX,zdy,zdJ,Nat.reduceBEq,Nat.reduceAdd,Nat.reduceLeDiff,tyF, *]at m);(try simp only[zdA,zdQ,zec,bC,Nat.reduceAdd]at Z);have hB0:(0 == g.next)=false:=zdC ac;have hC0:(g.next == 0)=false:=zdC ac;have hB1:(1 == g.next)=false:=zdC ac;have hC1:(g.next == 1)=false:=zdC ac;repeat' (first
   |(apply zdk ?_;clear hK K)|apply Rx.o ?_|(apply aS (fun z V=>?_) (fun z V=>?_)<;>try(cases z;done))|apply ak ?_|(apply zdl fun K hK=>?_)|(apply zdL 6 [(1,11),(4,11),(6,11),(9,11)] fun K hK=>?_)|(apply zdK ?_;try intro _)|(apply zdM ?_ ?_<;>clear hK K)|apply bl ?_|apply au ?_|apply zdm ?_|apply am ?_|apply zdr ?_)
  .have o:i<s.length:=by simpa using z
   have U:s[i]?=some s[i]:=aR o;have I:w[i]?=some (w[i]' ac):=aR ac;have O:=Yq F.symm o;rw[cS,cS,U,I]at O;simp only[a5]at O;generalize s[i]=x at *;generalize w[i]' ac=y at *;repeat' (first
    |(apply zdk ?_;clear hK K)|apply Rx.o ?_|(apply aS (fun z V=>?_) (fun z V=>?_)<;>try(cases z;done))|apply ak ?_|(apply zdl fun K hK=>?_)|(apply zdL 6 [(1,11),(4,11),(6,11),(9,11)] fun K hK=>?_)|(apply zdK ?_;try intro _)|(apply zdM ?_ ?_<;>clear hK K)|apply bl ?_|apply au ?_|apply zdm ?_|apply am ?_|apply zdr ?_)
   .exact zdR
   .all_goals (refine⟨eI,_,eR,?_⟩;try simp only[zdn])
    rw[Y,O];simp_all
   .refine⟨ac,zdz,zdz,eN,sH,?_⟩;rw[Y,O];simp_all
  .repeat' (first
    |(apply zdk ?_;clear hK K)|apply Rx.o ?_|(apply aS (fun z V=>?_) (fun z V=>?_)<;>try(cases z;done))|apply ak ?_|(apply zdl fun K hK=>?_)|(apply zdL 6 [(1,11),(4,11),(6,11),(9,11)] fun K hK=>?_)|(apply zdK ?_;try intro _)|(apply zdM ?_ ?_<;>clear hK K)|apply bl ?_|apply au ?_|apply zdm ?_|apply am ?_|apply zdr ?_)
   all_goals (refine⟨eI,_,eR,?_⟩;try simp only[zdn])
   rw[Y,show i=s.length by simp at z;omega,jR,<-F,jR];simp_all
 .have A:¬s=w:=fun e=>F lB;have hl2:¬(s.length:Int)=w.length:=ac;clear hd;refine zdv (M:=45) (rs:=[.tmp 4]) (J.call _) J.ice J.froz Tryz.func39 rfl rfl xW.2 rfl ?_;dsimp only[xW,zds,Nat.reduceAdd];repeat' (first
   |(apply zdk ?_;clear hK K)|apply Ry.o ?_|(apply a2 (fun C L=>?_) (fun C L=>?_)<;>try(cases C;done))|(apply aD (fun z V=>?_) (fun z V=>?_)<;>try(cases z;done))|apply ak ?_|(apply zdl fun K hK=>?_)|(apply zdL 6 [(1,11),(4,11),(6,11),(9,11)] fun K hK=>?_)|(apply zdK ?_;try intro _)|(apply zdM ?_ ?_<;>clear hK K)|apply bl ?_|apply au ?_|apply zdm ?_|apply am ?_|apply zdr ?_)
  all_goals
   refine⟨eI,_,dG,?_⟩;try simp only[zdn]
   rw[cX A,pt])
noncomputable def oC:En:=⟨39,false,b7 xX qT fun x=>.bool (decide (x.1=x.2))⟩
theorem GW(ρ:Nat->Int):yO Tryz.prog ρ oC:=zei fun x I=>Yr ρ x I
theorem BH{l:List En}(F:∀C,zem l 39 C=oC.sp C)(a b:Nd)(h:a.kids.length<2^60)(H:Hp):zdw Tryz.prog (zdp pls l) 39 [.agg a.cells,.agg b.cells] H fun v H'=>v=.bool (decide (a=b))/\H'=H:=
 zeq (enc:=qT) (ok:=xX) (out:=fun x=>.bool (decide (x.1=x.2))) Yp (x:=(a,b)) (F _) h
end
section
def tyEsC.tyF:=ad @cN (ad @b9 (ad @ea (ad @eV (@eO))))
open tyEsC
noncomputable def GX:{c:SC // aC 18 (Tryz.f16.body.getD .skip)=c}:=by
 refine⟨?_,?_⟩;rotate_left
 .simp only[Tryz.f16,a5,aC,zdG,zdD,zdH,zdI,Nat.blt,Nat.ble];rfl
def nA(l:List Nd)(n:Nd):Bool:=l.any fun m=>decide (m=n)
theorem Ys(l:List Nd)(n:Nd):nA l n=decide (n∈l):=by
 unfold nA;rw[rP,BD];simp
def oD(x:List Nd×Nd):List AV:=[zeu x.1,.agg x.2.cells]
theorem Yt(x y:List Nd×Nd)(h:oD x=oD y):x=y:=by
 simp only[oD,cR,AV.agg.injEq,aX]at h;exact jQ (uZ h.1) (nl h.2)
theorem Yu(ρ:Nat->Int)(x:List Nd×Nd)(hx:zeN x.1):bc Tryz.prog ρ 16 (oD x) (.bool (nA x.1 x.2)):=zer fit (pls:=pls) (l:=[oC]) ⟨GW ρ,trivial⟩ (.cons (zfV _) (.cons (.agg (qE _)) .nil)) (.bool _) (by
 obtain⟨l,n⟩:=x;obtain⟨J,U⟩:=hx;have I:Plain (zdp pls [oC]) 16:=zej (fun _=>rfl) rfl;rw[oD];simp only[]at J U⊢;refine zdv (M:=18) (rs:=[.tmp 4]) (I.call _) I.ice I.froz Tryz.func16 rfl rfl GX.2 rfl ?_;dsimp only[GX,zds,Nat.reduceAdd];repeat' (first
  |(apply zdk ?_;clear hK K)|apply Rx.o ?_|apply ak ?_|(apply zdl fun K hK=>?_)|(apply zdL 4 [(3,5),(4,5)] fun K hK=>?_)|(apply zdK ?_;try intro _)|(apply zdM ?_ ?_<;>clear hK K)|apply bl ?_|apply au ?_|apply zdm ?_|apply am ?_|apply zdr ?_)
 refine zef [0,3,7] [0] 8 l.length (fun i E H=>nA l n=nA (l.drop i) n) eE aB ?_;rintro i E H2 hi Z Y L hsI j;(try simp only[zdO,zdF,aX,zdy,zdJ,Nat.reduceBEq,Nat.reduceAdd,Nat.reduceLeDiff,tyF, *]at Z);(try simp only[zdO,zdF,aX,zdy,zdJ,Nat.reduceBEq,Nat.reduceAdd,Nat.reduceLeDiff,tyF, *]at Y);(try simp only[zdA,zdQ,zec,bC,Nat.reduceAdd]at L);have hB0:(0 == H2.next)=false:=zdC ac;have hC0:(H2.next == 0)=false:=zdC ac;by_cases o:i<l.length
 .have C:(i:Int)<l.length:=by omega
  have hgx:l[i]?=some l[i]:=aR o;have F:l[i].kids.length<2^60:=by have:=U _ (dr o);omega
  have O:nA (l.drop i) n=(decide (l[i]=n)||nA (l.drop (i+1)) n):=sG;have hnw:=w7 n;generalize l[i]=m at *;have hmw:=w7 m;by_cases e:m=n
  .subst e;have A:∀H,zdw Tryz.prog (zdp pls [oC]) 39 [.agg m.cells,.agg m.cells] H fun v H'=>v=.bool true/\H'=H:=fun H=>by
    have:=BH (l:=[oC]) (fun _=>rfl) m m F H;rw[cF rfl]at this;exact this
   rw[cF rfl,l9]at O;rw[O]at j;clear O;repeat' (first
    |(apply zdk ?_;clear hK K)|apply Ry.o ?_|(apply bL ?_;first|refine Rx.k (A _) ?_)|(apply aD (fun z V=>?_) (fun z V=>?_)<;>try(cases z;done))|apply ak ?_|(apply zdl fun K hK=>?_)|(apply zdL 4 [(3,5),(4,5)] fun K hK=>?_)|(apply zdK ?_;try intro _)|(apply zdM ?_ ?_<;>clear hK K)|apply bl ?_|apply au ?_|apply zdm ?_|apply am ?_|apply zdr ?_)
   .exact zdR
   all_goals (refine⟨eI,_,eR,?_⟩;try simp only[zdn])
   rw[j]
  .have A:∀H,zdw Tryz.prog (zdp pls [oC]) 39 [.agg m.cells,.agg n.cells] H fun v H'=>v=.bool false/\H'=H:=fun H=>by
    have:=BH (l:=[oC]) (fun _=>rfl) m n F H;rw[cX e]at this;exact this
   rw[cX e,jb]at O;rw[O]at j;clear O;repeat' (first
    |(apply zdk ?_;clear hK K)|apply Ry.o ?_|(apply bL ?_;first|refine Rx.k (A _) ?_)|(apply aD (fun z V=>?_) (fun z V=>?_)<;>try(cases z;done))|apply ak ?_|(apply zdl fun K hK=>?_)|(apply zdL 4 [(3,5),(4,5)] fun K hK=>?_)|(apply zdK ?_;try intro _)|(apply zdM ?_ ?_<;>clear hK K)|apply bl ?_|apply au ?_|apply zdm ?_|apply am ?_|apply zdr ?_)
   .exact zdR
   refine⟨ac,zdz,zdz,eN,jy,?_⟩;exact j
 .have C:¬(i:Int)<l.length:=by omega
  rw[oA ac]at j;have g:nA l n=false:=j;clear j;repeat' (first
   |(apply zdk ?_;clear hK K)|apply Ry.o ?_|(apply aD (fun z V=>?_) (fun z V=>?_)<;>try(cases z;done))|apply ak ?_|(apply zdl fun K hK=>?_)|(apply zdL 4 [(3,5),(4,5)] fun K hK=>?_)|(apply zdK ?_;try intro _)|(apply zdM ?_ ?_<;>clear hK K)|apply bl ?_|apply au ?_|apply zdm ?_|apply am ?_|apply zdr ?_)
  all_goals (refine⟨eI,_,eR,?_⟩;try simp only[zdn])
  rw[g])
noncomputable def BI:En:=⟨16,true,b7 (fun x=>zeN x.1) oD fun x=>.bool (nA x.1 x.2)⟩
theorem Yv(ρ:Nat->Int):yO Tryz.prog ρ BI:=zei fun x I=>Yu ρ x I
end
section
def tyR3c.tyF:=ad @cN (ad @b9 (ad @dA (ad @iq (ad @kQ (ad @na (ad @kj (ad @ko (ad @iM (ad @iN (ad @gF (ad @ng (ad @jM (ad @XK (ad @XL (@XM)))))))))))))))
open tyR3c
mutual
def xY:St->Bool
 | .mk _ _ _ _ a v args A C=>decide ((20:Int)<iQ a)||decide ((20:Int)<iQ v)||oE A||oE C||args.any fun e=>decide ((20:Int)<iQ e)
def oE:List St->Bool
 |[]=>false
 |x::l=>xY x||oE l
end
def fv(p:Pr):List AV:=[.agg p.cells]
theorem qU(x y:Pr)(h:fv x=fv y):x=y:=by simp only[fv,cR,AV.agg.injEq,aX]at h;exact Pr.inj h
def qV(f:Fu):Bool:=decide ((6:Int)<f.params.length)||decide ((8:Int)<f.locals.length)||decide ((200:Int)<zfd f.body)||decide ((16:Int)<zfb f.body)||decide ((20:Int)<zfM f.body 0)||oE f.body||decide ((20:Int)<iQ f.value)
def u6(a:Ar):Bool:=decide (a.len<1)||decide (16<a.len)
def sP(p:Pr):Bool:=decide ((4:Int)<p.arrays.length)||decide ((8:Int)<p.funcs.length)||p.arrays.any u6||p.funcs.any qV
end
section
def tyR3d.tyF:=ad @cN (ad @b9 (ad @dA (ad @iN (ad @gF (ad @iM (@jM))))))
open tyR3d
def sQ(x:Ex):Bool:=
 if x.kind=1 then decide ((x.kids.length:Int)=0)&&decide (x.name=[])&&decide (x.op=0)
 else if x.kind=2 then decide ((x.kids.length:Int)=0)&&decide (x.n=0)&&decide (x.op=0)&&zd8 x.name
 else if x.kind=3 then decide ((x.kids.length:Int)=1)&&decide (x.n=0)&&decide (x.op=0)&&zd8 x.name
 else if x.kind=4 then decide (x.n=0)&&decide (x.name=[])&&((decide ((x.kids.length:Int)=2)&&Bm x.op)||(decide ((x.kids.length:Int)=1)&&(decide (x.op=20)||decide (x.op=21))))
 else if x.kind=5 then decide ((x.kids.length:Int)=3)&&decide (x.n=0)&&decide (x.name=[])&&decide (x.op=0)
 else false
mutual
def jT:Ex->Bool
 | .mk k n s o U=>ky U&&sQ (.mk k n s o U)
def ky:List Ex->Bool
 |[]=>true
 |e::es=>jT e&&ky es
end
noncomputable def BJ:En:=⟨29,false,b7 (fun s=>s.length<2^60) kS fun s=>.bool (zd8 s)⟩
theorem GY(ρ:Nat->Int):yO Tryz.prog ρ BJ:=zei fun x I=>Xp ρ x I
theorem Yw(x y:Int)(h:([.int .i64 x]:List AV)=[.int .i64 y]):x=y:=ja
end
section
namespace tyR3e
end tyR3e
open tyR3e
def xZ(x:St):Bool:=decide (x.name=[])&&decide (x.to=[])&&decide (x.n=0)&&zeroE x.at_&&decide ((x.args.length:Int)=0)
def sR(x:St):Bool:=decide ((x.thn.length:Int)=0)&&decide ((x.els.length:Int)=0)
def x4(x:St):Bool:=
 if x.kind=1 then sR x&&zd8 x.name&&decide (x.to=[])&&decide (x.n=0)&&zeroE x.at_&&decide ((x.args.length:Int)=0)&&jT x.value
 else if x.kind=2 then sR x&&zd8 x.name&&decide (x.to=[])&&decide (x.n=0)&&jT x.at_&&decide ((x.args.length:Int)=0)&&jT x.value
 else if x.kind=3 then xZ x&&jT x.value
 else if x.kind=4 then xZ x&&jT x.value&&decide ((x.els.length:Int)=0)
 else if x.kind=5 then sR x&&xZ x&&jT x.value
 else if x.kind=6 then sR x&&zd8 x.name&&zd8 x.to&&decide (x.n=0)&&zeroE x.at_&&zeroE x.value
 else if x.kind=7 then sR x&&decide (x.name=[])&&decide (x.to=[])&&decide (0<=x.n)&&decide (x.n<=1000000)&&zeroE x.at_&&zeroE x.value&&decide ((x.args.length:Int)=0)
 else false
def u7(x:St):Bool:=ky x.args&&x4 x
end
section
def tyR3f.tyF:=ad @cN (ad @b9 (ad @dA (ad @iq (ad @kQ (ad @na (ad @kj (ad @ko (ad @iM (ad @iN (ad @gF (ad @ng (@jM))))))))))))
open tyR3f
mutual
def x5:St->Bool
 | .mk k m I n a v args A C=>u7 (.mk k m I n a v args A C)&&oF A&&oF C
def oF:List St->Bool
 |[]=>true
 |x::l=>x5 x&&oF l
end
theorem BK:∀{l:List Ar}{a:Ar},a∈l->a.name.length<kO l
 |[],_,h=>by simp at h
 |e::es,x,h=>by
  rcases ff.1 h with rfl|h
  .simp only[kO];omega
  .have:=BK h;simp only[kO];omega
def x6(f:Fu):List (List UInt8):=[f.name]++f.params++f.locals
def mE(f:Fu):Bool:=(x6 f).all zd8&&oF f.body&&jT f.value
def kz(p:Pr):Bool:=p.arrays.all (fun a=>zd8 a.name)&&p.funcs.all mE
theorem Yx(H:Hp)(s:List UInt8):zeP Tryz.prog H 100 1 [(0,.str s)]=some (.sl H.next 0 1 1,H.alloc (.cells [.str s] 0 true)):=af
end
section
namespace tyR3g
end tyR3g
open tyR3g
def zdT:List (List UInt8)->List (List UInt8)->Bool
 |_,[]=>false
 |seen,s::l=>zdS seen s||zdT (seen++[s]) l
def pA(A:List (List UInt8)):List (List UInt8)->List Fu->Bool
 |_,[]=>false
 |seen,f::fs=>zdS seen f.name||zdT A (f.params++f.locals)||pA A (seen++[f.name]) fs
def zd9(p:Pr):List (List UInt8):=p.arrays.map (·.name)
def sT(p:Pr):Bool:=zdT [] (zd9 p)||pA (zd9 p) [] p.funcs
end
section
namespace tyR3h
end tyR3h
open tyR3h
structure Sc where
 vars:List (List UInt8)
 arrays:Option (List (List UInt8))
 p:Pr
def Sc.an(x:Sc):List (List UInt8):=x.arrays.getD []
section
variable (vs an:List (List UInt8))
def kA(x:Ex):Bool:=(!decide (x.kind=2)||zdS vs x.name)&&(!decide (x.kind=3)||zdS an x.name)
mutual
def jU:Ex->Bool
 | .mk k n s o U=>oG U&&kA vs an (.mk k n s o U)
def oG:List Ex->Bool
 |[]=>true
 |e::es=>jU e&&oG es
end
end
def qW(c:Sc)(x:St):Bool:=
 if x.kind=1 then zdS c.vars x.name
 else if x.kind=6 then zdS c.vars x.name&&decide (0<=jw c.p.funcs x.to 0)
 else if x.kind=2 then zdS c.an x.name
 else true
def GZ(c:Sc)(x:St):Bool:=oG c.vars c.an x.args&&jU c.vars c.an x.at_&&jU c.vars c.an x.value&&qW c x
end
section
namespace tyR3i
end tyR3i
open tyR3i
def sU(p:Pr)(s:List UInt8):Nat:=((p.funcs[(jw p.funcs s 0).toNat]?).map fun f=>f.params.length).getD 0
def sV(p:Pr)(x:St):Bool:=!(decide (x.kind=6) && !decide ((x.args.length:Int)=sU p x.to))
section
variable (c:Sc)
mutual
def qX(b:Bool):St->Bool
 | .mk k m I n a v args A C=>(bif b then sV c.p (.mk k m I n a v args A C)else GZ c (.mk k m I n a v args A C))&&jz b A&&jz b C
def jz(b:Bool):List St->Bool
 |[]=>true
 |x::l=>qX b x&&jz b l
end
end
section
variable (p:Pr)
end
end
section
namespace tyR3j
end tyR3j
open tyR3j
def kU(p:Pr)(f:Fu):Sc:=⟨f.params++f.locals,some (zd9 p),p⟩
def sW(p:Pr)(f:Fu):Bool:=!(jz (kU p f) false f.body&&jU (kU p f).vars (kU p f).an f.value)
def u9(p:Pr)(f:Fu):Bool:=!jz (kU p f) true f.body
def nB(p:Pr):Int:=if sP p=true then 6 else if kz p=false then 2 else if sT p=true then 4 else if p.funcs.any (sW p)=true then 3 else if p.funcs.any (u9 p)=true then 5 else 0
end
section
def tyG1.tyF:=ad @b9 (ad @cN (ad @lJ (ad @dA (ad @ko (ad @qk (@mZ))))))
open tyG1
noncomputable def G3:{c:SC // aC 14 (Tryz.f11.body.getD .skip)=c}:=by
 refine⟨?_,?_⟩;rotate_left
 .simp only[Tryz.f11,a5,aC,zdG,zdD,zdH,zdI,Nat.blt,Nat.ble];rfl
def gh(n m:Int):Int:=if n.tmod m<0 then eM (n.tmod m+m)else n.tmod m
theorem G4{n m:Int}(h:0<m)(h2:m<2^62):0<=gh n m/\gh n m<m:=by
 unfold gh;have o:=Int.tmod_lt_of_pos n h;have U:-m<n.tmod m:=by
  have:=Int.tmod_lt_of_pos (-n) h;rw[Int.neg_tmod]at this;omega
 split
 .unfold eM;rw[qa _ ac];omega
 .omega
def qY(x:Int×Int):List AV:=[.int .i64 x.1,.int .i64 x.2]
theorem Yy(x y:Int×Int)(h:qY x=qY y):x=y:=by
 simp only[qY,cR,AV.int.injEq,aX,fR]at h;exact jQ h.1 h.2
theorem Yz(ρ:Nat->Int)(x:Int×Int)(I:x.2≠0):bc Tryz.prog ρ 11 (qY x) (.int .i64 (gh x.1 x.2)):=zer fit (pls:=pls) (l:=[]) trivial (.cons (.int _ _) (.cons (.int _ _) .nil)) (.int _ _) (by
 have J:=yl 11;obtain⟨n,m⟩:=x;rw[qY];simp only[]at I⊢;refine zdv (M:=14) (rs:=[.tmp 4]) (J.call _) J.ice J.froz Tryz.func11 rfl rfl G3.2 rfl ?_;dsimp only[G3,zds,Nat.reduceAdd];repeat' (first
  |(apply zdk ?_;clear hK K)|apply Rx.o ?_|(apply aS (fun z V=>?_) (fun z V=>?_)<;>try(cases z;done))|apply ak ?_|(apply zdl fun K hK=>?_)|apply zdm ?_|apply am ?_)
 all_goals (refine⟨eI,_,eR,?_⟩;try simp only[zdn])
 all_goals (simp_all[gh];try omega))
noncomputable def G5:En:=⟨11,false,b7 (fun x=>x.2≠0) qY fun x=>.int .i64 (gh x.1 x.2)⟩
theorem YA(ρ:Nat->Int):yO Tryz.prog ρ G5:=zei fun x I=>Yz ρ x I
end
section
def tyG2.tyF:=ad @b9 (ad @ea (@RV))
open tyG2
def eg(S:Nat->Prop)(n:Nat)(H:Hp)(v w:AV):Prop:=∃u,zee S n H v u/\∀m,n<=m->bF m u=w
def zeF(S:Nat->Prop)(n:Nat)(H:Hp)(cs o:List AV):Prop:=∃C,zdW (zee S n H) cs C/\∀m,n<=m->C.map (bF m)=o
theorem zeF.frame{S S':Nat->Prop}(hS:∀k,S k->S' k){n:Nat}{H H':Hp}{v w:List AV}(h:zeF S n H v w)(m:H.next<=H'.next)(Z:∀k,S k->k<H.next->nt (H.get k) (H'.get k)):zeF S' n H' v w:=by
 obtain⟨u,i,g⟩:=h;exact⟨u,i.mono fun a b k=>k.frame hS m Z,g⟩
theorem zeF.keep{S S':Nat->Prop}(hS:∀k,S k->S' k){n:Nat}{H H':Hp}{v w:List AV}(h:zeF S n H v w)(m:H.next<=H'.next)(Z:∀k,S k->k<H.next->H'.get k=H.get k):zeF S' n H' v w:=h.frame hS m fun k i g=>.inl (Z k i g).symm
theorem eg.up{S:Nat->Prop}{n m:Nat}{H:Hp}{v w:AV}(h:eg S n H v w)(M:n<=m):eg S m H v w:=by
 obtain⟨u,i,g⟩:=h;exact⟨u,i.up M,fun k j=>g k ac⟩
theorem zeF.nil{S:Nat->Prop}{n:Nat}{H:Hp}:zeF S n H [] []:=⟨[],trivial,fun _ _=>rfl⟩
theorem zeF.cons{S:Nat->Prop}{n:Nat}{H:Hp}{v w:AV}{cs o:List AV}(h:eg S n H v w)(k:zeF S n H cs o):zeF S n H (v::cs) (w::o):=by
 obtain⟨u,i,g⟩:=h;obtain⟨C,Z,U⟩:=k;exact⟨u::C,⟨i,Z⟩,fun m M=>by rw[dL,g m M,U m M]⟩
theorem eg.flat{S:Nat->Prop}{n:Nat}{H:Hp}{v:AV}(h:Gp v)(j:∀m,bF m v=v):eg S (n+1) H v v:=⟨v,lN h,fun m _=>j m⟩
theorem eg.int{S:Nat->Prop}{n:Nat}{H:Hp}(k:IntKind)(x:Int):eg S (n+1) H (.int k x) (.int k x):=.flat ⟨.int _ _,trivial⟩ fun m=>by cases m<;>rfl
theorem eg.str{S:Nat->Prop}{n:Nat}{H:Hp}(s:List UInt8):eg S (n+1) H (.str s) (.str s):=.flat ⟨.str _,trivial⟩ fun m=>by cases m<;>rfl
theorem eg.nilS{S:Nat->Prop}{n:Nat}{H:Hp}:eg S (n+1) H .nilS (.lst []):=⟨.nilS,lN ⟨.nilS,trivial⟩,fun m M=>by
 obtain⟨m,rfl⟩:∃k,m=k+1:=⟨m-1,ac⟩;rfl⟩
def fK(S:Nat->Prop)(n:Nat)(H:Hp)(z:Nat):List (List AV)->List (List AV)->Prop:=zdW fun a b=>a.length=z/\zeF S n H a b
theorem fK.two{S:Nat->Prop}{n z:Nat}{H:Hp}:∀{a b:List (List AV)},fK S n H z a b->∃u,zdW (zdW (zee S n H)) a u/\(∀m,n<=m->u.map (List.map (bF m))=b)/\∀x∈a,x.length=z
 |[],[],_=>⟨[],trivial,fun _ _=>rfl,aB⟩
 |x::a,y::b,⟨⟨hz,v,h1,h2⟩,h⟩=>by
  obtain⟨u,o,U,i⟩:=fK.two (a:=a) (b:=b) h;exact⟨v::u,⟨h1,o⟩,fun m M=>by rw[dL,h2 m M,U m M],fun q F=>by
   rcases ff.1 F with rfl|F
   .exact hz
   .exact i q F⟩
theorem eg.rows{S:Nat->Prop}{n:Nat}{H:Hp}{r z imm:Nat}{tip:Bool}{a b:List (List AV)}(hS:S r)(hr:r<H.next)(C:H.get r=some (.cells a.flatten imm tip))(A:imm<=a.flatten.length)(h:fK S n H z a b):eg S (n+1) H (.sl r 0 a.length z) (.lst b):=by
 obtain⟨u,i,g,o⟩:=fK.two h;refine⟨.lst u,zee.rows hS hr C A o i,fun m M=>?_⟩;obtain⟨m,rfl⟩:∃k,m=k+1:=⟨m-1,ac⟩;show AV.lst (u.map fun Z=>Z.map (bF m))=_;rw[<-g m ac]
theorem fK.frame{S S':Nat->Prop}(hS:∀k,S k->S' k){n z:Nat}{H H':Hp}{a b:List (List AV)}(h:fK S n H z a b)(m:H.next<=H'.next)(Z:∀k,S k->k<H.next->H'.get k=H.get k):fK S' n H' z a b:=zdW.mono (fun x y k=>⟨k.1,k.2.keep hS m Z⟩) h
end
theorem zeF.keep2{S S':Nat->Prop}{n:Nat}{H H':Hp}{v w:List AV}(h:zeF S n H v w)(hS:∀k,k<H.next->S k->S' k)(m:H.next<=H'.next)(Z:∀k,S k->k<H.next->H'.get k=H.get k):zeF S' n H' v w:=by
 obtain⟨u,i,g⟩:=h;exact⟨u,i.mono fun a b k=>k.frame2 hS m fun q o U=>.inl (Z q o U).symm,g⟩
theorem fK.keep2{S S':Nat->Prop}{n z:Nat}{H H':Hp}{a b:List (List AV)}(h:fK S n H z a b)(hS:∀k,k<H.next->S k->S' k)(m:H.next<=H'.next)(Z:∀k,S k->k<H.next->H'.get k=H.get k):fK S' n H' z a b:=zdW.mono (fun x y k=>⟨k.1,k.2.keep2 hS m Z⟩) h
theorem fK.len{S:Nat->Prop}{n z:Nat}{H:Hp}:∀{a b:List (List AV)},fK S n H z a b->∀x∈a,x.length=z
 |[],[],_,x,I=>by simp at I
 |y::a,w::b,h,x,I=>by
  rcases ff.1 I with rfl|I
  .exact h.1.1
  .exact fK.len h.2 x I
def zeO(S:Nat->Prop)(n:Nat)(H:Hp)(z:Nat)(v:AV)(o:List (List AV)):Prop:=
 (v=.nilS/\o=[])\/∃q j rows,v=.sl q 0 rows.length z/\S q/\q<H.next/\H.get q=some (.cells rows.flatten j true)/\j<=rows.flatten.length/\fK (fun k=>S k/\k≠q) n H z rows o
theorem zeO.rd{S:Nat->Prop}{n:Nat}{H:Hp}{z:Nat}{v:AV}{o:List (List AV)}(h:zeO S n H z v o):eg S (n+1) H v (.lst o):=by
 rcases h with⟨rfl,rfl⟩|⟨q,Z,rows,rfl,i,g,Y,U,V⟩
 .exact .nilS
 .exact .rows i g Y U (V.frame (fun k j=>j.1) (aM _) fun _ _ _=>rfl)
theorem zeO.keep{S S':Nat->Prop}{n:Nat}{H H':Hp}{z:Nat}{v:AV}{o:List (List AV)}(h:zeO S n H z v o)(hS:∀k,k<H.next->S k->S' k)(Z:H.next<=H'.next)(m:∀k,S k->k<H.next->H'.get k=H.get k):zeO S' n H' z v o:=by
 rcases h with h|⟨q,j,rows,e,i,g,O,M,L⟩
 .exact .inl h
 .exact .inr ⟨q,j,rows,e,hS q g i,ac,by rw[m q i g];exact O,M,L.keep2 (fun k Y F=>⟨hS k Y F.1,F.2⟩) Z fun k V U=>m k V.1 U⟩
theorem zeO.one{S:Nat->Prop}{n:Nat}{H:Hp}{z:Nat}{v:AV}{o:List (List AV)}(h:zeO S n H z v o):AV.one v=true/\v.cells=[v]:=by
 rcases h with⟨rfl,rfl⟩|⟨q,j,rows,rfl,_⟩<;>exact⟨rfl,rfl⟩
theorem zeO.len{P:Program}{t e:TypeId}(I:P.underlying t=some (.slice e)){S:Nat->Prop}{n:Nat}{H H':Hp}{z:Nat}{v:AV}{o:List (List AV)}(h:zeO S n H z v o):zdY P H' t v=some (.int .i64 o.length):=by
 rcases h with⟨rfl,rfl⟩|⟨q,j,rows,rfl,Z,g,Y,U,i⟩
 .exact zfs I
 .rw[zfn I,show rows.length=o.length from zdW.len i]
theorem G6(m:Nat)(k:IntKind)(n:Int):bF m (.int k n)=.int k n:=by cases m<;>rfl
theorem YB(m:Nat)(s:List UInt8):bF m (.str s)=.str s:=by cases m<;>rfl
theorem Ar.wk(m:Nat)(x:Ar):x.cells.map (bF m)=x.cells:=by
 rw[Ar.cells_eq];simp only[dL,xT,YB,G6]
theorem G7{U:Type}{f:U->List AV}(h:∀m x,(f x).map (bF m)=f x)(l:List U)(m:Nat):bF m (.lst (l.map f))=.lst (l.map f):=by
 cases m with
 |zero=>rfl
 |succ m=>
  simp only[bF,pc];have:(fun z=>List.map (bF m) z) ∘ f=f:=funext fun y=>h m y;rw[this]
theorem YC(l:List Int)(m:Nat):bF m (.lst (l.map fun n=>[AV.int .i64 n]))=.lst (l.map fun n=>[AV.int .i64 n]):=G7 (f:=fun n:Int=>[AV.int .i64 n]) (fun m x=>by simp only[dL,xT,G6]) l m
theorem eg.agg{S:Nat->Prop}{n:Nat}{H:Hp}{cs o:List AV}(h:zeF S n H cs o):eg S (n+1) H (.agg cs) (.agg o):=by
 obtain⟨C,i,g⟩:=h;refine⟨.agg C,⟨C,i,rfl⟩,fun m M=>?_⟩;obtain⟨m,rfl⟩:∃k,m=k+1:=⟨m-1,ac⟩;show AV.agg (C.map (bF m))=_;rw[g m ac]
theorem oH{S:Nat->Prop}{n:Nat}{H:Hp}{q imm:Nat}{tip:Bool}(l:List Int)(hS:S q)(F:q<H.next)(C:H.get q=some (.cells (l.map fun n=>.int .i64 n) imm tip))(A:imm<=l.length):eg S (n+2) H (.sl q 0 l.length 1) (.lst (l.map fun n=>[.int .i64 n])):=by
 have m:(l.map fun n=>[AV.int .i64 n]).flatten=l.map fun n=>AV.int .i64 n:=by
  clear C A;induction l with
  |nil=>rfl
  |cons a l ih=>rw[dL,lA,ih];rfl
 have hr:∀l:List Int,fK S (n+1) H 1 (l.map fun n=>[AV.int .i64 n]) (l.map fun n=>[AV.int .i64 n]):=fun l=>by
  induction l with
  |nil=>trivial
  |cons a l ih=>exact⟨⟨rfl,.cons (.int _ _) .nil⟩,ih⟩
 have:=eg.rows (n:=n+1) (a:=l.map fun n=>[AV.int .i64 n]) (imm:=imm) (tip:=tip) hS F (by rw[m];exact C) (by rw[m,cE];exact A) (hr l);rw[cE]at this;exact this
theorem YD{cfg:Cfg}(fit:Fit Tryz.prog){ρ:Nat->Int}(i:kJ cfg.dec ρ)(O:∀f args r,cfg.call f args=some r->bc Tryz.prog ρ f args r){g:FuncId}{args:List AV}{r:AV}{n:Nat}
 (Y:eW args) (h:zdw Tryz.prog cfg g args zd3 fun v H'=>∃m u,iceV H' m v=some u/\bF n u=r):bc Tryz.prog ρ g args r:=by
 unfold zdw at h;obtain⟨v,H',Z,m,u,V,o⟩:=h;refine Bn n (zgb (m:=m) fit i O Y ?_) o;unfold zdw;exact⟨v,H',Z,V⟩
theorem YE{U:Type}{s:List U}(h:s.length=3):∃a b c,s=[a,b,c]:=by
 match s,h with
 |[a,b,c],_=>exact⟨a,b,c,rfl⟩
theorem BL(H:Hp){cs:List AV}(F:cs.length=3)(K:cs.all AV.one=true):zeP Tryz.prog H 26 1 [(0,.agg cs)]=some (.sl H.next 0 1 3,H.alloc (.cells cs 0 true)):=by
 obtain⟨a,b,c,rfl⟩:=YE F;kernel_rfl
theorem YF(a b c:AV):zd7 3 [a,b,c]=some (.agg [a,b,c]):=rfl
theorem fK.icyB{S:Nat->Prop}{n z:Nat}{H H':Hp}{a b:List (List AV)}(h:fK S n H z a b)(m:H.next<=H'.next)(Z:∀k,S k->k<H.next->nt (H.get k) (H'.get k)):fK S n H' z a b:=zdW.mono (fun x y k=>⟨k.1,k.2.frame (fun _ q=>q) m Z⟩) h
theorem zeO.icyB{S:Nat->Prop}{n:Nat}{H H':Hp}{z:Nat}{v:AV}{o:List (List AV)}(h:zeO S n H z v o)(L:H.next<=H'.next)(m:∀k,S k->k<H.next->nt (H.get k) (H'.get k)):zeO S n H' z v o:=by
 rcases h with h|⟨q,Y,rows,e,V,g,U,O,J⟩
 .exact .inl h
 .have M:=J.icyB L fun k K F=>m k K.1 F;rcases m q V g with Z|⟨cs,i,j,I,Z,C,A⟩
  .exact .inr ⟨q,Y,rows,e,V,ac,by rw[<-Z];exact U,O,M⟩
  .rw[U]at Z;simp only[aA,HB.cells.injEq]at Z;obtain⟨rfl,rfl,rfl⟩:=Z;exact .inr ⟨q,j,rows,e,V,ac,C,A O,M⟩
theorem BM{S:Nat->Prop}{H:Hp}(op imm:Int):zeF S 2 H [.int .i64 op,.int .i64 imm,.nilS] (Nd.mk op imm []).cells:=.cons (.int _ _) (.cons (.int _ _) (.cons .nilS .nil))
end Go.Proofs.YtljebeflbbgibaaGreat
namespace Go.Ab
set_option maxRecDepth 20000
open Go Go.WideShapes Go.Deep Go.RowKit Go.ChangeShapes
def x7(W:World):Nat->Nat->Option Value:=fun b o=>W.cell? ⟨b,o,none⟩
theorem YG(W:World):∀b o v,x7 W b o=some v->W.cell? ⟨b,o,none⟩=some v:=fun _ _ _ h=>h
section
variable {H:Type} {enc:TypeId × Value -> H} {P:Program} {W:World}
theorem YH{r:Reach}{b0:Nat}{t e:TypeId}{k:IntKind}{v:Value}{d:DataW H}{ps:List MemPlace}{sp:Nat->Bool}{C:Bool}(ht:P.underlying t=some (.slice e))(he:P.underlying e=some (.int k))(hc:P.cellsOf e=1)(U:Value.okWide P W r b0 t v)(hd:DataW.Trod enc P W 0 sp C t v d ps)(β:Nat->Option (Nat×Nat×Nat))(ρ:Nat->Int):
 ∃l:List Int,VR ⟨β,x7 W,ρ⟩ (.lst (l.map fun n=>[AV.int k n])) v/\l.length<=maxLen/\∀n∈l,(Lit.int k n).wf=true:=by
 obtain⟨a0,k0,O,rfl⟩:=okWide_slice ht U;obtain⟨fuel,hf⟩:=hd;rcases open_slice1 ht hc hf with⟨h,_⟩|⟨a,len,cap,m,n,V,D,Pl,h,hb,hl,hm,hmm,hx,hV⟩
 .simp[Value.cells]at h;obtain⟨rfl,rfl,rfl⟩:=h;exact⟨[],.lst0 _ _,cG _,fun _ h=>absurd h aB⟩
 .simp[Value.cells]at h;obtain⟨rfl,rfl,rfl⟩:=h;have hlm:k0<=m:=by rw[hmm];split<;>omega
  have K:∀i,∃n:Int,i<k0->V i=.int k n/\(Lit.int k n).wf=true:=fun i=>by
   by_cases A:i<k0
   .obtain⟨n',h1,_,h2⟩:=DataW.trod_int he (hV i ac).2;simp at h1;exact⟨n',fun _=>⟨h1,h2⟩⟩
   .exact⟨0,fun h=>absurd h A⟩
  obtain⟨N,M⟩:=Classical.axiomOfChoice K;have hN:∀i,i<k0->V i=.int k (N i):=fun i h=>(M i h).1;refine⟨(List.range k0).map N,?_,cf,fun n J=>by
   obtain⟨i,A,rfl⟩:=l8.1 J;exact(M i (jq.1 A)).2⟩
  by_cases h0:k0=0
  .subst h0;exact .lst0 _ _
  obtain⟨ab,ao,L⟩:=a;have Z:L=none:=by
   have:=(hV 0 ac).1;simp only[Addr.add,bT,World.cell?]at this;split at this
   .split at this
    .cases this
    .rename_i J;cases L with
     |none=>rfl
     |some s=>simp at J
   .cases this
  subst Z;have g:(((List.range k0).map N).map fun n=>[AV.int k n]).length=k0:=aB;have I:=VR.lst (G:=⟨β,x7 W,ρ⟩) (xs:=((List.range k0).map N).map fun n=>[AV.int k n]) (b:=ab) (o:=ao) (cap:=O) (z:=1) (fun i _=>V i) ?_ ?_ ?_ tX
  .rw[g]at I;exact I
  .intro i F hr;rw[dK]at hr;cases hq:((List.range k0).map N)[i]? with
   |none=>rw[hq]at hr;simp at hr
   |some q=>rw[hq]at hr;simp only[iZ,aA]at hr;rw[<-hr];rfl
  .intro i j A hj;rw[g]at A;have h2:=(hV i ac).1;show W.cell? ⟨ab,ao+i*1+j,none⟩=some (V i);have hj0:j=0:=ac;subst hj0;rw[<-h2]
   congr 1
   unfold Addr.add;split
   .rename_i h;subst h;rfl
   .simp
  .intro i j F c hr Y;rw[dK,dK]at hr;by_cases A:i<k0
   .rw[wv A]at hr;simp only[iZ,aA]at hr;subst hr;cases j with
    |zero=>
     simp only[ke,aA]at Y;subst Y;show VR _ _ (V i);rw[hN i A];exact .int k _
    |succ j=>simp at Y
   .rw[fg cf]at hr;simp at hr
theorem YI{t:TypeId}(F:laidOutB P=true)(hr:P.readableRec t=true)(V:t<P.types.size){z:World}{v:Value}{d:DataW H}{ps C:List MemPlace}
 (h:DataW.Trod enc P W 0 (fun _=>true) true t v d ps) (U:Below W.heap.size W z) (o:∀p∈C,p.block<W.heap.size) (Z:∀p∈ps,p∈C) {m:Nat->Bool} (Y:∀p∈C,m p.block=true) :
 DataW.Trod enc P z 0 m true t v d ps:=
 WideElems.Trod_stays F hr V h (fun x I=>U.same (o x (Z x I))) fun x I=>Y x (Z x I)
end
end Go.Ab
namespace Go.Proofs.YtljebeflbbgibaaGreat
set_option maxRecDepth 20000
open Go Go.Ab
section
def zfN(l:List Int):AV:=.lst (l.map fun n=>[.int .i64 n])
theorem BN:∀{a b:List Int},(a.map fun n=>[AV.int .i64 n])=(b.map fun n=>[AV.int .i64 n])->a=b
 |[],[],_=>rfl
 |[],_::_,h=>by simp at h
 |_::_,[],h=>by simp at h
 |x::a,y::b,h=>by
  simp only[dL,cR,AV.int.injEq,aX,fR]at h;rw[h.1,BN h.2]
theorem x8(l:List Int):ee (zfN l):=.map fun n _=>.cons (.int _ _) .nil
theorem YJ{n:Nat}(h:n<=maxLen):n<2^63:=u5 h dk
structure Ext9 (S:Nat->Prop) (H H':Hp):Prop where
 next:H.next<=H'.next
 get:∀q,S q->q<H.next->H'.get q=H.get q
theorem Ext9.refl(S:Nat->Prop)(H:Hp):Ext9 S H H:=⟨aM _,fun _ _ _=>rfl⟩
theorem Ext9.trans{S:Nat->Prop}{a b c:Hp}(h:Ext9 S a b)(k:Ext9 S b c):Ext9 S a c:=⟨eT h.next k.next,fun q i g=>(k.get q i (gz g h.next)).trans (h.get q i g)⟩
theorem Ext9.sub{S T:Nat->Prop}{a b:Hp}(h:Ext9 T a b)(K:∀q,q<a.next->S q->T q):Ext9 S a b:=⟨h.next,fun q i g=>h.get q (K q g i) g⟩
def nC(S:Nat->Prop)(H:Hp)(v:AV)(l:List Int):Prop:=∃q j,v=.sl q 0 l.length 1/\S q/\q<H.next/\H.get q=some (.cells (zew l) j true)/\l.length<2^30
def nD(S:Nat->Prop)(H:Hp)(v:AV)(cs:List (List Int)):Prop:=(cs=[]/\v=.nilS)\/∃q j vs,v=.sl q 0 vs.length 1/\S q/\q<H.next/\H.get q=some (.cells vs j true)/\vs.length<2^30/\zdW (nC S H) vs cs
def jh(S:Nat->Prop)(H:Hp):AV->List Int->Prop
 |v,[]=>v=.nilP
 |v,n::l=>∃q w,v=.ptr q 0/\S q/\q<H.next/\H.get q=some (.cells [.int .i64 n,w] 0 true)/\jh S H w l
structure St9 (S:Nat->Prop) (H:Hp) (p:Nat) (cv ov:AV) (s:S9):Prop where
 own:S p
 lt:p<H.next
 get:H.get p=some (.cells [cv,ov,.int .i64 s.fuel,.int .i64 s.ed,.int .i64 s.code,.int .i64 s.last] 0 true)
 cells:nD S H cv s.cells
 out:jh S H ov s.out
def fU(S:Nat->Prop)(H:Hp)(v:AV)(s:S9):Prop:=∃p cv ov,v=.ptr p 0/\St9 S H p cv ov s
def iR(S:Nat->Prop)(H:Hp)(v:AV):Option S9->Prop
 |none=>v=.nilP
 |some s=>fU S H v s
def mF(S:Nat->Prop)(H:Hp)(row:List AV)(r:R9):Prop:=∃L,row=[.bool r.k,.int .i64 r.v,L,.nilP]/\iR S H L r.s
theorem nC.keep{S:Nat->Prop}{H H':Hp}{v:AV}{l:List Int}(h:nC S H v l)(k:Ext9 S H H'):nC S H' v l:=by
 obtain⟨q,j,e,i,g,o,U⟩:=h;exact⟨q,j,e,i,gz g k.next,by rw[k.get q i g];exact o,U⟩
theorem nD.keep{S:Nat->Prop}{H H':Hp}{v:AV}{l:List (List Int)}(h:nD S H v l)(k:Ext9 S H H'):nD S H' v l:=by
 rcases h with h|⟨q,j,vs,e,i,g,o,U,Z⟩
 .exact .inl h
 .exact .inr ⟨q,j,vs,e,i,gz g k.next,by rw[k.get q i g];exact o,U,Z.mono fun a b h=>h.keep k⟩
theorem jh.keep{S:Nat->Prop}{H H':Hp}(k:Ext9 S H H'):∀{l:List Int}{v:AV},jh S H v l->jh S H' v l
 |[],_,h=>h
 |n::l,_,⟨q,w,e,h1,h2,h3,h4⟩=>⟨q,w,e,h1,gz h2 k.next,by rw[k.get q h1 h2];exact h3,jh.keep k h4⟩
theorem St9.keep{S:Nat->Prop}{H H':Hp}{p:Nat}{cv ov:AV}{s:S9}(h:St9 S H p cv ov s)(k:Ext9 S H H'):St9 S H' p cv ov s:=
 ⟨h.own,gz h.lt k.next,by rw[k.get p h.own h.lt];exact h.get,h.cells.keep k,h.out.keep k⟩
theorem fU.keep{S:Nat->Prop}{H H':Hp}{v:AV}{s:S9}(h:fU S H v s)(k:Ext9 S H H'):fU S H' v s:=by
 obtain⟨p,cv,ov,e,h⟩:=h;exact⟨p,cv,ov,e,h.keep k⟩
def x9:=@fU.keep
theorem iR.keep{S:Nat->Prop}{H H':Hp}{v:AV}:∀{s:Option S9},iR S H v s->Ext9 S H H'->iR S H' v s
 |none,h,_=>h
 |some _,h,k=>x9 h k
theorem mF.keep{S:Nat->Prop}{H H':Hp}{row:List AV}{r:R9}(h:mF S H row r)(k:Ext9 S H H'):mF S H' row r:=by
 obtain⟨L,e,h⟩:=h;exact⟨L,e,h.keep k⟩
theorem jh.one{S:Nat->Prop}{H:Hp}{v:AV}:∀{l:List Int},jh S H v l->AV.one v=true/\v.cells=[v]
 |[],h=>by rw[show v=.nilP from h];exact⟨rfl,rfl⟩
 |n::l,h=>by obtain⟨q,w,rfl,_⟩:=h;exact⟨rfl,rfl⟩
theorem nD.one{S:Nat->Prop}{H:Hp}{v:AV}{l:List (List Int)}(h:nD S H v l):AV.one v=true/\v.cells=[v]:=by
 rcases h with⟨_,rfl⟩|⟨q,j,vs,rfl,_⟩<;>exact⟨rfl,rfl⟩
theorem fU.one{S:Nat->Prop}{H:Hp}{v:AV}{s:S9}(h:fU S H v s):AV.one v=true:=by
 obtain⟨p,cv,ov,rfl,_⟩:=h;rfl
theorem iR.one{S:Nat->Prop}{H:Hp}{v:AV}:∀{s:Option S9},iR S H v s->AV.one v=true
 |none,h=>by rw[show v=.nilP from h];rfl
 |some _,h=>fU.one h
theorem iR.two{S:Nat->Prop}{H:Hp}{v:AV}:∀{s:Option S9},iR S H v s->AV.one v=true/\v.cells=[v]
 |none,h=>by rw[show v=.nilP from h];exact⟨rfl,rfl⟩
 |some _,h=>by obtain⟨p,cv,ov,rfl,_⟩:=(h:fU S H v _);exact⟨rfl,rfl⟩
theorem mF.len{S:Nat->Prop}{H:Hp}{row:List AV}{r:R9}(h:mF S H row r):row.length=4:=by
 obtain⟨L,rfl,_⟩:=h;rfl
theorem Rows9.len{S:Nat->Prop}{H:Hp}:∀{rows:List (List AV)}{res:List R9},zdW (mF S H) rows res->∀x∈rows,x.length=4
 |[],[],_,x,I=>by cases I
 |r::rows,t::res,h,x,I=>by
  rcases ff.1 I with rfl|I
  .exact h.1.len
  .exact Rows9.len h.2 x I
theorem nC.sub{S T:Nat->Prop}{H:Hp}{v:AV}{l:List Int}(h:nC S H v l)(hS:∀q,q<H.next->S q->T q):nC T H v l:=by
 obtain⟨q,j,e,i,g,o⟩:=h;exact⟨q,j,e,hS q g i,g,o⟩
theorem nD.sub{S T:Nat->Prop}{H:Hp}{v:AV}{l:List (List Int)}(h:nD S H v l)(hS:∀q,q<H.next->S q->T q):nD T H v l:=by
 rcases h with h|⟨q,j,vs,e,i,g,o,U,Z⟩
 .exact .inl h
 .exact .inr ⟨q,j,vs,e,hS q g i,g,o,U,Z.mono fun a b h=>h.sub hS⟩
theorem jh.sub{S T:Nat->Prop}{H:Hp}(hS:∀q,q<H.next->S q->T q):∀{l:List Int}{v:AV},jh S H v l->jh T H v l
 |[],_,h=>h
 |n::l,_,⟨q,w,e,h1,h2,h3,h4⟩=>⟨q,w,e,hS q h2 h1,h2,h3,jh.sub hS h4⟩
theorem fU.sub{S T:Nat->Prop}{H:Hp}{v:AV}{s:S9}(h:fU S H v s)(hS:∀q,q<H.next->S q->T q):fU T H v s:=by
 obtain⟨p,cv,ov,e,h⟩:=h;exact⟨p,cv,ov,e,hS p h.lt h.own,h.lt,h.get,h.cells.sub hS,jh.sub hS h.out⟩
theorem iR.sub{S T:Nat->Prop}{H:Hp}{v:AV}(hS:∀q,q<H.next->S q->T q):∀{s:Option S9},iR S H v s->iR T H v s
 |none,h=>h
 |some _,h=>fU.sub h hS
theorem mF.sub{S T:Nat->Prop}{H:Hp}{row:List AV}{r:R9}(h:mF S H row r)(hS:∀q,q<H.next->S q->T q):mF T H row r:=by
 obtain⟨L,e,h⟩:=h;exact⟨L,e,iR.sub hS h⟩
def hW(u:Un)(L:AV)(f:Int)(Z:AV)(args:List Int)(Y n:Nat):List AV:=[.lst (u.arrays.map Ar.cells),.lst (u.funcs.map Gr.cells),L,.int .i64 f,Z,zfN args,.sl Y 0 n 4,.nilP,.nilP,.nilP,.nilP,.nilP,.nilP,.nilP,.nilP,.nilP,.nilP,.nilP,.nilP,.nilP,.nilP,.nilP,.nilP]
structure Cx9 where
 S:Nat->Prop
 xp:Nat
 rp:Nat
 u:Un
 hv:AV
 f:Nat
 g:Gr
 sv:AV
 start:S9
 args:List Int
structure Cx9.Ok (c:Cx9):Prop where
 g:c.u.funcs[c.f]?=some c.g
 ne:c.xp≠c.rp
 sx:¬c.S c.xp
 sr:¬c.S c.rp
 len:c.g.nodes.length<2^30
structure Fr9 (c:Cx9) (H:Hp) (rows:List (List AV)) (res:List R9):Prop where
 x:H.get c.xp=some (.cells (hW c.u c.hv c.f c.sv c.args c.rp res.length) 0 true)
 r:H.get c.rp=some (.cells rows.flatten 0 true)
 lx:c.xp<H.next
 lr:c.rp<H.next
 st:fU c.S H c.sv c.start
 rows:zdW (mF c.S H) rows res
 up:∀q,H.next<=q->c.S q
 len:res.length=c.g.nodes.length
theorem Fr9.keep{c:Cx9}{H H':Hp}{rows:List (List AV)}{res:List R9}(h:Fr9 c H rows res)(m:H.next<=H'.next)(C:∀q,q<H.next->H'.get q=H.get q):Fr9 c H' rows res:=
 have k:Ext9 c.S H H':=⟨m,fun q _ h=>C q h⟩
 ⟨by rw[C _ h.lx];exact h.x,by rw[C _ h.lr];exact h.r,gz h.lx m,gz h.lr m,h.st.keep k,h.rows.mono fun a b h=>h.keep k,fun q F=>h.up q (eT m F),h.len⟩
theorem Fr9.get{c:Cx9}{H:Hp}{rows:List (List AV)}{res:List R9}(h:Fr9 c H rows res){k:Int}{r:R9}(j:zeg res k=some r):∃L,0<=k/\k<res.length/\rows[k.toNat]?=some [.bool r.k,.int .i64 r.v,L,.nilP]/\iR c.S H L r.s/\rows.flatten.drop (k.toNat*4)=[.bool r.k,.int .i64 r.v,L,.nilP]++(rows.drop (k.toNat+1)).flatten:=by
 unfold zeg at j;split at j
 .rename_i A;have F:=zdW.len h.rows;have o:k.toNat<res.length:=by
   by_cases c:k.toNat<res.length
   .exact c
   .rw[fg ac]at j;cases j
  have hr:rows[k.toNat]?=some (rows[k.toNat]' ac):=aR ac;obtain⟨L,e,K⟩:=zdW.get h.rows hr j;refine⟨L,A,ac,by rw[hr,e],K,?_⟩;have:=aR (l:=rows) (i:=k.toNat) ac;have U:=Rows9.len h.rows;have I:∀(rows:List (List AV)) (i:Nat) (r:List AV),(∀x∈rows,x.length=4)->rows[i]?=some r->rows.flatten.drop (i*4)=r++(rows.drop (i+1)).flatten:=by
   intro rows;induction rows with
   |nil=>intro i r _ e;simp at e
   |cons a rows ih=>
    intro i r h e;have J:=h a fh;cases i with
    |zero=>simp only[ke,aA]at e;subst e;simp
    |succ i=>
     rw[lA,show(i+1)*4=a.length+i*4 by omega,GO,ih i r (fun x Z=>h x (fp _ Z)) xy];rfl
  exact I rows _ _ U (by rw[hr,e])
 .cases j
def kn(f:FuncId):Bool:=f == 37||f == 99999999||f == 99999999||f == 55
structure Std (cfg:Cfg):Prop where
 plain:∀f,kn f=false->Plain cfg f
 keep:∀f,cfg.keep f=false
 plan:cfg.plan=uk pls
def tyW6a.tyF:=ad @b9 (ad @cN (ad @uJ (ad @A4 (ad @A8 (ad @A9 (ad @W9 (ad @mZ (@NT))))))))
open tyW6a
noncomputable def G8:{c:SC // aC 4 (Tryz.f122.body.getD .skip)=c}:=by
 refine⟨?_,?_⟩;rotate_left
 .simp only[Tryz.f122,a5,aC,zdG,zdD,zdH,zdI,Nat.blt,Nat.ble];rfl
noncomputable def G9:{c:SC // aC 15 (Tryz.f79.body.getD .skip)=c}:=by
 refine⟨?_,?_⟩;rotate_left
 .simp only[Tryz.f79,a5,aC,zdG,zdD,zdH,zdI,Nat.blt,Nat.ble];rfl
noncomputable def Hd:{c:SC // aC 14 (Tryz.f48.body.getD .skip)=c}:=by
 refine⟨?_,?_⟩;rotate_left
 .simp only[Tryz.f48,a5,aC,zdG,zdD,zdH,zdI,Nat.blt,Nat.ble];rfl
noncomputable def He:{c:SC // aC 61 (Tryz.f80.body.getD .skip)=c}:=by
 refine⟨?_,?_⟩;rotate_left
 .simp only[Tryz.f80,a5,aC,zdG,zdD,zdH,zdI,Nat.blt,Nat.ble];rfl
noncomputable def Hg:{c:SC // aC 58 (Tryz.f49.body.getD .skip)=c}:=by
 refine⟨?_,?_⟩;rotate_left
 .simp only[Tryz.f49,a5,aC,zdG,zdD,zdH,zdI,Nat.blt,Nat.ble];rfl
theorem YK{cfg:Cfg}(hS:Std cfg)(b:Bool)(H:Hp):zdw Tryz.prog cfg 122 [.bool b] H fun v H'=>v=.int .i64 (qn b)/\H'=H:=by
 cases b<;>
 .refine zdv (M:=4) (rs:=[.tmp 2]) ((hS.plain _ rfl).call _) (hS.plain _ rfl).ice (hS.plain _ rfl).froz Tryz.func122 rfl rfl G8.2 rfl ?_;dsimp only[G8,zds,Nat.reduceAdd];repeat' (first
   |(apply zdk ?_;clear hK K)|apply Rx.o ?_|(apply aS (fun z V=>?_) (fun z V=>?_)<;>try(cases z;done))|apply ak ?_|(apply zdl fun K hK=>?_)|apply zdm ?_|apply am ?_)
  all_goals (refine⟨eI,_,eR,?_⟩;try simp only[zdn])
  simp[qn]
theorem YL{cfg:Cfg}(hS:Std cfg)(a b:Int)(H:Hp):zdw Tryz.prog cfg 79 [.int .i64 a,.int .i64 b] H fun v H'=>v=.int .i64 (si a b)/\H'=H:=by
 refine zdv (M:=15) (rs:=[.tmp 4]) ((hS.plain _ rfl).call _) (hS.plain _ rfl).ice (hS.plain _ rfl).froz Tryz.func79 rfl rfl G9.2 rfl ?_;dsimp only[G9,zds,Nat.reduceAdd];repeat' (first
  |(apply zdk ?_;clear hK K)|apply Rx.o ?_|(apply aS (fun z V=>?_) (fun z V=>?_)<;>try(cases z;done))|apply ak ?_|(apply zdl fun K hK=>?_)|apply au ?_|apply zdm ?_|apply am ?_)
 .all_goals (refine⟨eI,_,eR,?_⟩;try simp only[zdn])
  simp_all[si]
 .all_goals (refine⟨eI,_,eR,?_⟩;try simp only[zdn])
  simp_all[si]
 .have Z:b≠0:=by assumption
  repeat' (first
   |(apply zdk ?_;clear hK K)|apply Rx.o ?_|(apply aS (fun z V=>?_) (fun z V=>?_)<;>try(cases z;done))|apply ak ?_|(apply zdl fun K hK=>?_)|apply au ?_|apply zdm ?_|apply am ?_)
  all_goals (refine⟨eI,_,eR,?_⟩;try simp only[zdn])
  simp_all[si]
theorem YM{cfg:Cfg}(hS:Std cfg)(op a:Int)(H:Hp):zdw Tryz.prog cfg 48 [.int .i64 op,.int .i64 a] H fun v H'=>v=.int .i64 (qp op a)/\H'=H:=by
 refine zdv (M:=14) (rs:=[.tmp 4]) ((hS.plain _ rfl).call _) (hS.plain _ rfl).ice (hS.plain _ rfl).froz Tryz.func48 rfl rfl Hd.2 rfl ?_;dsimp only[Hd,zds,Nat.reduceAdd];repeat' (first
  |(apply zdk ?_;clear hK K)|apply Rx.o ?_|(apply aS (fun z V=>?_) (fun z V=>?_)<;>try(cases z;done))|apply ak ?_|(apply zdl fun K hK=>?_)|apply au ?_|apply zdm ?_|apply am ?_)
 all_goals (refine⟨eI,_,eR,?_⟩;try simp only[zdn])
 all_goals simp_all[qp]
theorem YN{cfg:Cfg}(hS:Std cfg)(op a b:Int)(H:Hp):zdw Tryz.prog cfg 80 [.int .i64 op,.int .i64 a,.int .i64 b] H fun v H'=>v=.int .i64 (Az op a b)/\H'=H:=by
 have z:=NV b;have I:zep Tryz.prog cfg.dec .shl 2 (.int .i64 a) (.int .u64 (oh b))=_:=NW z;have J:zep Tryz.prog cfg.dec .shr 2 (.int .i64 a) (.int .u64 (oh b))=_:=bin_shr z;have A:zep Tryz.prog cfg.dec .shr 154 (.int .u64 (IntKind.wrap .u64 a)) (.int .u64 (oh b))=_:=bin_shr z;unfold oh at I J A;refine zdv (M:=61) (rs:=[.tmp 6]) ((hS.plain _ rfl).call _) (hS.plain _ rfl).ice (hS.plain _ rfl).froz Tryz.func80 rfl rfl He.2 rfl ?_;dsimp only[He,zds,Nat.reduceAdd];repeat' (first
  |(apply zdk ?_;clear hK K)|apply Rx.o ?_|(apply iO ?_;first|refine Rx.k (YK hS _ _) ?_)|(apply aS (fun Z V=>?_) (fun Z V=>?_)<;>try(cases Z;done))|apply ak ?_|(apply zdl fun K hK=>?_)|apply au ?_|apply zdm ?_|apply am ?_)
 all_goals (refine⟨eI,_,eR,?_⟩;try simp only[zdn])
 all_goals simp_all[Az,oh]
theorem YO{cfg:Cfg}(hS:Std cfg)(op a b:Int)(H:Hp):zdw Tryz.prog cfg 49 [.int .i64 op,.int .i64 a,.int .i64 b] H fun v H'=>v=.int .i64 (qo op a b)/\H'=H:=by
 refine zdv (M:=58) (rs:=[.tmp 6]) ((hS.plain _ rfl).call _) (hS.plain _ rfl).ice (hS.plain _ rfl).froz Tryz.func49 rfl rfl Hg.2 rfl ?_;dsimp only[Hg,zds,Nat.reduceAdd];repeat' (first
  |(apply zdk ?_;clear hK K)|apply Rx.o ?_|(apply iO ?_;first|refine Rx.k (YL hS _ _ _) ?_|refine Rx.k (YN hS _ _ _ _) ?_)|(apply aS (fun z V=>?_) (fun z V=>?_)<;>try(cases z;done))|apply ak ?_|(apply zdl fun K hK=>?_)|apply au ?_|apply zdm ?_|apply am ?_)
 all_goals (refine⟨eI,_,eR,?_⟩;try simp only[zdn])
 all_goals simp_all[qo]
end
section
def tyEvA.tyF:=ad @cN (ad @b9 (ad @lI (ad @jL (ad @lJ (ad @pj (ad @qv (ad @qy (ad @sA (ad @qz (ad @qA (ad @qB (ad @ea (ad @eV (ad @su (ad @qw (@sy))))))))))))))))
open tyEvA
noncomputable def Hh:{c:SC // aC 14 (Tryz.f149.body.getD .skip)=c}:=by
 refine⟨?_,?_⟩;rotate_left
 .simp only[Tryz.f149,a5,aC,zdG,zdD,zdH,zdI,Nat.blt,Nat.ble];rfl
noncomputable def ya:{c:SC // aC 25 (Tryz.f150.body.getD .skip)=c}:=by
 refine⟨?_,?_⟩;rotate_left
 .simp only[Tryz.f150,a5,aC,zdG,zdD,zdH,zdI,Nat.blt,Nat.ble];rfl
noncomputable def sX:{c:SC // aC 27 (Tryz.f151.body.getD .skip)=c}:=by
 refine⟨?_,?_⟩;rotate_left
 .simp only[Tryz.f151,a5,aC,zdG,zdD,zdH,zdI,Nat.blt,Nat.ble];rfl
def yb(f:FuncId):Bool:=Nat.beq f 149||Nat.beq f 150||Nat.beq f 102||Nat.beq f 104||Nat.beq f 151||Nat.beq f 184||Nat.beq f 153||Nat.beq f 103||Nat.beq f 65||Nat.beq f 36||Nat.beq f 34||Nat.beq f 33||Nat.beq f 35
def sY(x:Int×Int):List AV:=[.int .i64 x.1,.int .i64 x.2]
theorem YP(x y:Int×Int)(h:sY x=sY y):x=y:=by
 simp only[sY,cR,AV.int.injEq,aX,fR]at h;exact jQ h.1 h.2
def sZ(x:Int×Int×Int):List AV:=[.int .i64 x.1,.int .i64 x.2.1,.int .i64 x.2.2]
theorem YQ(x y:Int×Int×Int)(h:sZ x=sZ y):x=y:=by
 simp only[sZ,cR,AV.int.injEq,aX,fR]at h;exact jQ h.1 (jQ h.2.1 h.2.2)
theorem Hk:Std (zdp pls []) where
 plain f _:=zej (fun _=>rfl) rfl
 keep _:=rfl
 plan:=rfl
theorem YR(ρ:Nat->Int)(x:Int×Int):bc Tryz.prog ρ 48 (sY x) (.int .i64 (qp x.1 x.2)):=zer fit (pls:=pls) (l:=[]) trivial (.cons (.int _ _) (.cons (.int _ _) .nil)) (.int _ _) (a9 (fun v H' h=>h.1) (YM Hk x.1 x.2 zd3))
theorem YS(ρ:Nat->Int)(x:Int×Int×Int):bc Tryz.prog ρ 49 (sZ x) (.int .i64 (qo x.1 x.2.1 x.2.2)):=zer fit (pls:=pls) (l:=[]) trivial (.cons (.int _ _) (.cons (.int _ _) (.cons (.int _ _) .nil))) (.int _ _) (a9 (fun v H' h=>h.1) (YO Hk x.1 x.2.1 x.2.2 zd3))
noncomputable def BO:En:=⟨48,false,b7 (fun _=>True) sY fun x=>.int .i64 (qp x.1 x.2)⟩
theorem YT(ρ:Nat->Int):yO Tryz.prog ρ BO:=zei fun x _=>YR ρ x
noncomputable def BP:En:=⟨49,false,b7 (fun _=>True) sZ fun x=>.int .i64 (qo x.1 x.2.1 x.2.2)⟩
theorem YU(ρ:Nat->Int):yO Tryz.prog ρ BP:=zei fun x _=>YS ρ x
structure EvT (tb:List En):Prop where
 pl:∀f,yb f=true->(∀ar,zem tb f ar=none)/\ir tb f=false
 un:∀ar,zem tb 48 ar=BO.sp ar
 bi:∀ar,zem tb 49 ar=BP.sp ar
theorem EvT.plain{tb:List En}(h:EvT tb){f:FuncId}(m:yb f=true):Plain (zdp pls tb) f:=zej (h.pl f m).1 (h.pl f m).2
theorem EvT.kUn{tb:List En}(h:EvT tb)(op a:Int)(H:Hp):zdw Tryz.prog (zdp pls tb) 48 [.int .i64 op,.int .i64 a] H fun v H'=>v=.int .i64 (qp op a)/\H'=H:=zeq (enc:=sY) (ok:=fun _=>True) (out:=fun x=>.int .i64 (qp x.1 x.2)) YP (x:=(op,a)) (h.un _) trivial
theorem EvT.kBi{tb:List En}(h:EvT tb)(op a b:Int)(H:Hp):zdw Tryz.prog (zdp pls tb) 49 [.int .i64 op,.int .i64 a,.int .i64 b] H fun v H'=>v=.int .i64 (qo op a b)/\H'=H:=zeq (enc:=sZ) (ok:=fun _=>True) (out:=fun x=>.int .i64 (qo x.1 x.2.1 x.2.2)) YQ (x:=(op,a,b)) (h.bi _) trivial
structure At9 (c:Cx9) (n:Nat) (r:R9) (sv:AV) (H:Hp):Prop where
 l0:zeX Tryz.prog H 4 (.ptr c.rp (n*4))=some (.bool r.k)
 l1:zeX Tryz.prog H 2 (.ptr c.rp (n*4+1))=some (.int .i64 r.v)
 l2:zeX Tryz.prog H 76 (.ptr c.rp (n*4+2))=some sv
 lr:zeX Tryz.prog H 134 (.ptr c.rp (n*4))=some (.agg [.bool r.k,.int .i64 r.v,sv,.nilP])
theorem Fr9.alloc{c:Cx9}{H:Hp}{rows:List (List AV)}{res:List R9}(h:Fr9 c H rows res)(b:HB):Fr9 c (H.alloc b) rows res:=h.keep (fQ _) fun q F=>fy
theorem Fr9.at{c:Cx9}{H:Hp}{rows:List (List AV)}{res:List R9}(A:Fr9 c H rows res){n:Nat}{r:R9}(j:zeg res n=some r):∃L,n<res.length/\iR c.S H L r.s/\zdV Tryz.prog 127 (.sl c.rp 0 res.length 4) (.int .i64 (n:Int))=some (.ptr c.rp (n*4))/\∀H',Fr9 c H' rows res->At9 c n r L H':=by
 obtain⟨L,z,m,hr,K,hd⟩:=A.get j;rw[dQ]at hr hd;refine⟨L,ac,K,by rw[mj Tryz.underlying127 uK ac];simp,fun H' I=>?_⟩;have i:=I.r;obtain⟨g,Z,rs⟩:=r;have O:=K.one;have V:rows.flatten.drop (n*4+1)=[.int .i64 Z,L,.nilP]++(rows.drop (n+1)).flatten:=by rw[<-wm,hd];rfl
 have M:rows.flatten.drop (n*4+2)=[L,.nilP]++(rows.drop (n+1)).flatten:=by rw[<-wm,hd];rfl
 have U:∀(Y:List AV) (o:Nat),r3 Tryz.prog 4 o (some (.cells Y 0 true))=Y[o]?:=fun _ _=>af;have J:∀(Y:List AV) (o:Nat),r3 Tryz.prog 2 o (some (.cells Y 0 true))=Y[o]?:=fun _ _=>af;have F:∀(Y:List AV) (o:Nat),r3 Tryz.prog 76 o (some (.cells Y 0 true))=Y[o]?:=fun _ _=>af;have C:∀(Y:List AV) (o:Nat),r3 Tryz.prog 134 o (some (.cells Y 0 true))=zd7 4 (Y.drop o):=fun _ _=>af;have e:∀(o:Nat),rows.flatten[o]?=(rows.flatten.drop o)[0]?:=fun o=>by rw[nW,mT]
 refine⟨?_,?_,?_,?_⟩
 .rw[r4,i,U,e,hd];rfl
 .rw[r4,i,J,e,V];rfl
 .rw[r4,i,F,e,M];rfl
 .rw[r4,i,C,hd];rfl
theorem Hl{S:Nat->Prop}{H:Hp}{cv:AV}{cs:List (List Int)}(h:nD S H cv cs){m:Nat}{l:List Int}(F:cs[m]?=some l):∃q j vs U Y,cv=.sl q 0 vs.length 1/\m<vs.length/\vs.length=cs.length/\S q/\q<H.next/\H.get q=some (.cells vs j true)/\vs.length<2^30/\zdW (nC S H) vs cs/\vs[m]?=some (.sl U 0 l.length 1)/\S U/\U<H.next/\H.get U=some (.cells (zew l) Y true)/\l.length<2^30:=by
 rcases h with⟨rfl,_⟩|⟨q,j,vs,rfl,K,g,o,J,i⟩
 .simp at F
 .have e:=zdW.len i;have I:m<cs.length:=by
   by_cases c:m<cs.length
   .exact c
   .rw[fg ac]at F;cases F
  have L:vs[m]?=some vs[m]:=aR ac;obtain⟨U,Y,C,Z,V,O,M⟩:=zdW.get i L F;exact⟨q,j,vs,U,Y,rfl,ac,e,K,g,o,J,i,by rw[L,C],Z,V,O,M⟩
theorem BQ{q n m:Nat}(h:m<n):zdV Tryz.prog 58 (.sl q 0 n 1) (.int .i64 (m:Int))=some (.ptr q m):=by rw[mj Tryz.underlying58 uH h];simp
theorem BR{q n m:Nat}(h:m<n):zdV Tryz.prog 33 (.sl q 0 n 1) (.int .i64 (m:Int))=some (.ptr q m):=by rw[mj Tryz.underlying33 uD h];simp
theorem YV{l:List Int}{j:Nat}(h:j<l.length):(zew l)[j]?=some (.int .i64 (l.getD j 0)):=by
 unfold zew;rw[dK,cS,aR h];rfl
section
variable {tb:List En} (hT:EvT tb) {c:Cx9} {H:Hp} {rows:List (List AV)} {res:List R9}
include hT
theorem YW(A:Fr9 c H rows res){k:Int}{r:R9}(j:zeg res k=some r):zdw Tryz.prog (zdp pls tb) 149 [.ptr c.xp 0,.int .i64 k] H fun v H'=>v=.int .i64 (if r.k=true then -1 else k)/\H'=H:=by
 have J:Plain (zdp pls tb) 149:=hT.plain dj;obtain⟨n,rfl⟩:∃n:Nat,k=n:=⟨k.toNat,by obtain⟨_,U,_⟩:=A.get j;omega⟩;obtain⟨L,m,O,I,g⟩:=A.at j;have Y:=A.x;unfold hW at Y;have a0:=(g H A).l0;obtain⟨Z,F,rs⟩:=r;cases Z<;>
 .refine zdv (M:=14) (rs:=[.tmp 4]) (J.call _) J.ice J.froz Tryz.func149 rfl rfl Hh.2 rfl ?_;dsimp only[Hh,zds,Nat.reduceAdd];repeat' (first
   |(apply zdk ?_;clear hK K)|apply Rx.o ?_|(apply aS (fun z V=>?_) (fun z V=>?_)<;>try(cases z;done))|apply ak ?_|(apply zdl fun K hK=>?_)|apply zdm ?_|apply am ?_)
  all_goals (refine⟨eI,_,eR,?_⟩;try simp only[zdn])
  exact⟨rfl,trivial⟩
theorem Hm(A:Fr9 c H rows res){n:Nd}(F:n.kids.length<2^30){k:Int}(O:j8 res n=some k):zdw Tryz.prog (zdp pls tb) 150 [.ptr c.xp 0,.agg n.cells] H fun v H'=>v=.int .i64 k/\H'=H.alloc (.cells n.cells 0 true):=by
 have J:Plain (zdp pls tb) 150:=hT.plain dj;unfold j8 at O;obtain⟨r,i,g⟩:=cm.1 O;obtain⟨zex,o,L⟩:=cm.1 i;obtain⟨m,rfl⟩:∃m:Nat,zex=m:=⟨zex.toNat,by obtain⟨_,h0,_⟩:=A.get L;omega⟩;obtain⟨sv,hn,ho,hx,I⟩:=A.at L;obtain⟨U,j,V⟩:=n;simp only at o g F;have C:(Nd.mk U j V).cells=[.int .i64 U,.int .i64 j,.lst (V.map fun k=>[.int .i64 k])]:=rfl;rw[C];have Y:=A.alloc (.cells [.int .i64 U,.int .i64 j,.lst (V.map fun k=>[.int .i64 k])] 0 true);have gx:=Y.x;unfold hW at gx;have a1:=(I _ Y).l1;have y0:(c.xp == H.next)=false:=zdC (by have:=A.lx;omega);by_cases hv:r.v=0
 .rw[ai ac]at g;refine zdv (M:=25) (rs:=[.tmp 4]) (J.call _) J.ice J.froz Tryz.func150 rfl rfl ya.2 rfl ?_;dsimp only[ya,zds,Nat.reduceAdd];repeat' (first
   |(apply zdk ?_;clear hK K)|apply Ry.o ?_|(apply aD (fun z Z=>?_) (fun z Z=>?_)<;>try(cases z;done))|apply ak ?_|(apply zdl fun K hK=>?_)|(apply zdL 1 [(3,12),(5,12),(7,12),(10,12)] fun K hK=>?_)|(apply zdK ?_;try intro _)|(apply zdM ?_ ?_<;>clear hK K)|apply bl ?_|apply zdm ?_|apply am ?_)
  .exact zdR
  all_goals (refine⟨eI,_,eR,?_⟩;try simp only[zdn])
  exact⟨trivial,trivial⟩
 .rw[az hv]at g;refine zdv (M:=25) (rs:=[.tmp 4]) (J.call _) J.ice J.froz Tryz.func150 rfl rfl ya.2 rfl ?_;dsimp only[ya,zds,Nat.reduceAdd];repeat' (first
   |(apply zdk ?_;clear hK K)|apply Ry.o ?_|(apply aD (fun z Z=>?_) (fun z Z=>?_)<;>try(cases z;done))|apply ak ?_|(apply zdl fun K hK=>?_)|(apply zdL 1 [(3,12),(5,12),(7,12),(10,12)] fun K hK=>?_)|(apply zdK ?_;try intro _)|(apply zdM ?_ ?_<;>clear hK K)|apply bl ?_|apply zdm ?_|apply am ?_)
  .exact zdR
  all_goals (refine⟨eI,_,eR,?_⟩;try simp only[zdn])
  exact⟨trivial,trivial⟩
theorem YX{S:Nat->Prop}{v:AV}{s:S9}(hS:fU S H v s){a i x:Int}(h:AH s a i=some x):zdw Tryz.prog (zdp pls tb) 151 [v,.int .i64 a,.int .i64 i] H fun w H'=>w=.int .i64 x/\H'=H:=by
 have J:Plain (zdp pls tb) 151:=hT.plain dj;obtain⟨p,cv,ov,rfl,hp⟩:=hS;unfold AH at h;split at h
 .rename_i ha;obtain⟨m,rfl⟩:∃m:Nat,a=m:=⟨a.toNat,ac⟩;rw[dQ]at h;obtain⟨l,F,I⟩:=cm.1 h;simp only[aA]at I;obtain⟨q,Z,vs,U,Y,rfl,O,A,_,_,gq,_,_,gv,_,_,g2,_⟩:=Hl hp.cells F;clear A;have gp:=hp.get;have x1:=BQ (q:=q) O;clear h F;by_cases o:i<0
  .rw[az (.inl o)]at I;subst I;refine zdv (M:=27) (rs:=[.tmp 6]) (J.call _) J.ice J.froz Tryz.func151 rfl rfl sX.2 rfl ?_;dsimp only[sX,zds,Nat.reduceAdd];repeat' (first
    |(apply zdk ?_;clear hK K)|apply Ry.o ?_|(apply a2 (fun C L=>?_) (fun C L=>?_)<;>try(cases C;done))|(apply aD (fun z V=>?_) (fun z V=>?_)<;>try(cases z;done))|apply ak ?_|(apply zdl fun K hK=>?_)|apply zdm ?_|apply am ?_)
   all_goals (refine⟨eI,_,eR,?_⟩;try simp only[zdn])
   first|exact⟨trivial,trivial⟩|exact⟨rfl,trivial⟩
  obtain⟨j,rfl⟩:∃j:Nat,i=j:=⟨i.toNat,ac⟩;by_cases g:(l.length:Int)<=j
  .rw[az (.inr g)]at I;subst I;refine zdv (M:=27) (rs:=[.tmp 6]) (J.call _) J.ice J.froz Tryz.func151 rfl rfl sX.2 rfl ?_;dsimp only[sX,zds,Nat.reduceAdd];repeat' (first
    |(apply zdk ?_;clear hK K)|apply Ry.o ?_|(apply a2 (fun C L=>?_) (fun C L=>?_)<;>try(cases C;done))|(apply aD (fun z V=>?_) (fun z V=>?_)<;>try(cases z;done))|apply ak ?_|(apply zdl fun K hK=>?_)|apply zdm ?_|apply am ?_)
   all_goals (refine⟨eI,_,eR,?_⟩;try simp only[zdn])
   first|exact⟨trivial,trivial⟩|exact⟨rfl,trivial⟩
  .rw[ai ac,dQ]at I;subst I;have x2:=BR (q:=U) (n:=l.length) (m:=j) ac;have gj:=YV (l:=l) (j:=j) ac;refine zdv (M:=27) (rs:=[.tmp 6]) (J.call _) J.ice J.froz Tryz.func151 rfl rfl sX.2 rfl ?_;dsimp only[sX,zds,Nat.reduceAdd];repeat' (first
    |(apply zdk ?_;clear hK K)|apply Ry.o ?_|(apply a2 (fun C L=>?_) (fun C L=>?_)<;>try(cases C;done))|(apply aD (fun z V=>?_) (fun z V=>?_)<;>try(cases z;done))|apply ak ?_|(apply zdl fun K hK=>?_)|apply zdm ?_|apply am ?_)
   all_goals (refine⟨eI,_,eR,?_⟩;try simp only[zdn])
   first|exact⟨trivial,trivial⟩|exact⟨rfl,trivial⟩
 .cases h
end
end
section
def tyEvB.tyF:=ad @cN (ad @b9 (ad @lJ (ad @su (ad @qw (@sy)))))
open tyEvB
noncomputable def s6:{c:SC // aC 47 (Tryz.f184.body.getD .skip)=c}:=by
 refine⟨?_,?_⟩;rotate_left
 .simp only[Tryz.f184,a5,aC,zdG,zdD,zdH,zdI,Nat.blt,Nat.ble];rfl
theorem YY(l:List Int):(zew l).all AV.one=true:=by
 rw[gS];intro x I;obtain⟨n,_,rfl⟩:=l8.1 I;rfl
theorem Hn{S:Nat->Prop}{H:Hp}:∀{vs:List AV}{Y:List (List Int)},zdW (nC S H) vs Y->vs.all AV.one=true
 |[],[],_=>rfl
 |v::vs,c::Y,h=>by
  obtain⟨q,j,rfl,_⟩:=h.1;rw[ox,Hn h.2];rfl
theorem YZ{H:Hp}{q imm:Nat}{l:List Int}(h:H.get q=some (.cells (zew l) imm true))(A:0<l.length)(h1:l.length<2^30):zeV Tryz.prog false H 33 33 .nilS (.sl q 0 l.length 1)=some (.sl H.next 0 l.length 1,H.alloc (.cells (zew l) 0 true)):=by
 obtain⟨n,m⟩:∃n,l.length=n+1:=⟨l.length-1,ac⟩;have I:zfk H 1 (.sl q 0 l.length 1)=some (n+1,zew l):=by
  have:=mn (H:=H) (r:=q) (o:=0) (n:=l.length) (z:=1) (s:=1) h (by rw[dY,iX,uw];omega);rw[this,dY,eJ (by rw[uw];omega),m]
 have:=append_nil (P:=Tryz.prog) (keep:=false) (H:=H) (t:=33) (u:=33) Tryz.underlying33 uD AL AM af I (YY l) rfl nz nz;rw[this,<-m]
theorem Y0{H:Hp}{q imm:Nat}{vs:List AV}(h:H.get q=some (.cells vs imm true))(U:vs.all AV.one=true)(A:0<vs.length)(h1:vs.length<2^30):zeV Tryz.prog false H 58 58 .nilS (.sl q 0 vs.length 1)=some (.sl H.next 0 vs.length 1,H.alloc (.cells vs 0 true)):=by
 obtain⟨n,m⟩:∃n,vs.length=n+1:=⟨vs.length-1,ac⟩;have I:zfk H 1 (.sl q 0 vs.length 1)=some (n+1,vs):=by
  have:=mn (H:=H) (r:=q) (o:=0) (n:=vs.length) (z:=1) (s:=1) h GK;rw[this,dY,eJ ac,m]
 have:=append_nil (P:=Tryz.prog) (keep:=false) (H:=H) (t:=58) (u:=58) Tryz.underlying58 uH AT AU af I U rfl nz nz;rw[this,<-m]
theorem Ho{cs:List AV}{j:Nat}{v:AV}(h:j<cs.length):splice cs j [v]=cs.set j v:=by
 rw[Gc,az h];simp[splice]
theorem Hr{H:Hp}{q j:Nat}{l:List Int}(x:Int)(C:H.get q=some (.cells (zew l) 0 true))(O:j<l.length):jA Tryz.prog H 2 (.ptr q j) (.int .i64 x)=some (H.set q (.cells (zew (l.set j x)) 0 true)):=by
 rw[r8,C,uD];show(if 1=1/\0<=j/\j+1<=(zew l).length/\[AV.int .i64 x].all AV.one=true then some (H.set q (.cells (splice (zew l) j [.int .i64 x]) 0 true))else none)=_;refine(az ⟨rfl,cG _,by rw[uw];omega,rfl⟩).trans ?_;rw[Ho (by rw[uw];exact O)];simp only[zew,oy]
theorem Y1{H:Hp}{q j:Nat}{vs:List AV}(a b c d:Nat)(C:H.get q=some (.cells vs 0 true))(O:j<vs.length):jA Tryz.prog H 33 (.ptr q j) (.sl a b c d)=some (H.set q (.cells (vs.set j (.sl a b c d)) 0 true)):=by
 rw[r8,C,uH];show(if 1=1/\0<=j/\j+1<=vs.length/\[AV.sl a b c d].all AV.one=true then some (H.set q (.cells (splice vs j [.sl a b c d]) 0 true))else none)=_;refine(az ⟨rfl,cG _,ac,rfl⟩).trans ?_;rw[Ho O]
theorem Ht(a b c d e f:AV):zd7 6 [a,b,c,d,e,f]=some (.agg [a,b,c,d,e,f]):=rfl
section
variable {tb:List En} (hT:EvT tb) {H:Hp}
include hT
theorem Y2{S:Nat->Prop}{v:AV}{s s2:S9}(hS:fU S H v s)(o:∀q,H.next<=q->S q){a i x:Int}(h:xd s a i x=some s2):zdw Tryz.prog (zdp pls tb) 184 [v,.int .i64 a,.int .i64 i,.int .i64 x] H fun w H'=>fU S H' w s2/\Ext9 (fun _=>True) H H':=by
 have U:Plain (zdp pls tb) 184:=hT.plain dj;have hkeep:(zdp pls tb).keep 184=false:=rfl;have F:=hS;have np:∀E:ax,zdo E (.const (.pointer none))=some .nilP:=fun _=>rfl;obtain⟨p,cv,ov,rfl,hp⟩:=hS;unfold xd at h;split at h
 .rename_i ha;obtain⟨m,rfl⟩:∃m:Nat,a=m:=⟨a.toNat,ac⟩;rw[dQ]at h;obtain⟨l,hl,I⟩:=cm.1 h;simp only[aA]at I;obtain⟨q,imm,vs,q2,imm2,rfl,g,he,s1,s2',gq,z1,al,gv,s3,s4,g2,z2⟩:=Hl hp.cells hl;have gp:=hp.get;have x1:=BQ (q:=q) g;clear h;by_cases h0:i<0
  .rw[az (.inl h0)]at I;subst I;clear he;refine zdv (M:=47) (rs:=[.tmp 8]) (U.call _) U.ice U.froz Tryz.func184 rfl rfl s6.2 rfl ?_;dsimp only[s6,zds,Nat.reduceAdd];repeat' (first
    |(apply zdk ?_;clear hK K)|apply Ry.o ?_|apply b4 ?_|(apply a2 (fun C L=>?_) (fun C L=>?_)<;>try(cases C;done))|(apply aD (fun z V=>?_) (fun z V=>?_)<;>try(cases z;done))|apply ak ?_|(apply zdl fun K hK=>?_)|apply zdm ?_|apply am ?_)
   all_goals (refine⟨eI,_,eR,?_⟩;try simp only[zdn])
   exact⟨F,Ext9.refl _ _⟩
  obtain⟨j,rfl⟩:∃j:Nat,i=j:=⟨i.toNat,ac⟩;by_cases h1:(l.length:Int)<=j
  .rw[az (.inr h1)]at I;subst I;clear he;refine zdv (M:=47) (rs:=[.tmp 8]) (U.call _) U.ice U.froz Tryz.func184 rfl rfl s6.2 rfl ?_;dsimp only[s6,zds,Nat.reduceAdd];repeat' (first
    |(apply zdk ?_;clear hK K)|apply Ry.o ?_|apply b4 ?_|(apply a2 (fun C L=>?_) (fun C L=>?_)<;>try(cases C;done))|(apply aD (fun z V=>?_) (fun z V=>?_)<;>try(cases z;done))|apply ak ?_|(apply zdl fun K hK=>?_)|apply zdm ?_|apply am ?_)
   all_goals (refine⟨eI,_,eR,?_⟩;try simp only[zdn])
   exact⟨F,Ext9.refl _ _⟩
  .rw[ai ac]at I;have x2:=BR (q:=H.next) (n:=l.length) (m:=j) ac;have ap1:=YZ g2 ac z2;have st1:=Hr (H:=H.alloc (.cells (zew l) 0 true)) (q:=H.next) (j:=j) x gO ac;have y1:(p == H.next)=false:=zdC (by have:=hp.lt;omega);have y2:(p == H.next+1)=false:=zdC (by have:=hp.lt;omega);obtain⟨o1,o2⟩:=hp.out.one;clear he;refine zdv (M:=47) (rs:=[.tmp 8]) (U.call _) U.ice U.froz Tryz.func184 rfl rfl s6.2 rfl ?_;dsimp only[s6,zds,Nat.reduceAdd];have gh0:=@Ht;repeat' (first
    |(apply zdk ?_;clear hK K)|apply Ry.o ?_|apply b4 ?_|(apply a2 (fun C L=>?_) (fun C L=>?_)<;>try(cases C;done))|(apply aD (fun z V=>?_) (fun z V=>?_)<;>try(cases z;done))|apply ak ?_|(apply zdl fun K hK=>?_)|apply zdm ?_|apply am ?_)
   generalize Z:Hp.set (Hp.alloc (Hp.set (H.alloc _) _ _) _) _ _=J;have nb:H.next+2<=J.next:=by rw[<-Z];exact aM _
   have kb:∀r,r<H.next->J.get r=H.get r:=fun r hr=>by
    rw[<-Z];simp only[aW,zdq,zdQ,zdA,ai (show ¬r=H.next by omega),ai (show ¬r=H.next+1 by omega)]
   have gb0:J.get H.next=some (.cells (zew (l.set j x)) 0 true):=by
    rw[<-Z];simp only[aW,zdq,zdQ,zdA,ai (show ¬H.next=H.next+1 by omega),bT]
   have gb1:J.get (H.next+1)=some (.cells [.sl q 0 vs.length 1,ov,.int .i64 s.fuel,.int .i64 s.ed,.int .i64 s.code,.int .i64 s.last] 0 true):=by rw[<-Z,aW,az dj]
   clear Z st1 ap1;have ap2:=Y0 (H:=J) ((kb q s2').trans gq) (Hn al) ac z1;have x3:=BQ (q:=J.next) g;have st2:∀A:Hp,A.get J.next=some (.cells vs 0 true)->jA Tryz.prog A 33 (.ptr J.next m) (.sl H.next 0 l.length 1)=some (A.set J.next (.cells (vs.set m (.sl H.next 0 l.length 1)) 0 true)):=fun A C=>Y1 _ _ _ _ C g
   have y3:(H.next+1 == J.next)=false:=zdC ac;have y4:(J.next == H.next+1)=false:=zdC ac;repeat' (first
    |(apply zdk ?_;clear hK K)|apply Rx.o ?_|apply bp ?_|apply ak ?_|(apply zdl fun K hK=>?_)|apply zdm ?_|apply am ?_)
   all_goals (refine⟨eI,_,eR,?_⟩;try simp only[zdn])
   generalize Y:Hp.set _ J.next _=O
   have nc:J.next+1<=O.next:=by rw[<-Y];exact aM _
   have kc:∀r,r<J.next->r≠H.next+1->O.get r=J.get r:=fun r hr h2=>by
    rw[<-Y];simp only[aW,zdq,zdQ,zdA,ai (show ¬r=J.next by omega),ai h2]
   have gc1:O.get (H.next+1)=some (.cells [.sl J.next 0 vs.length 1,ov,.int .i64 s.fuel,.int .i64 s.ed,.int .i64 s.code,.int .i64 s.last] 0 true):=by
    rw[<-Y];simp only[aW,zdq,zdQ,zdA,ai (show ¬H.next+1=J.next by omega),bT]
   have gc2:O.get J.next=some (.cells (vs.set m (.sl H.next 0 l.length 1)) 0 true):=by rw[<-Y,aW,az rfl]
   clear Y;subst I;have E:Ext9 (fun _=>True) H O:=⟨ac,fun r _ h=>by rw[kc r ac ac];exact kb r h⟩;have ES:Ext9 S H O:=E.sub fun _ _ _=>trivial;refine⟨⟨H.next+1,_,_,rfl,⟨o _ ac,ac,gc1,.inr ⟨J.next,0,_,wR,o _ ac,ac,gc2,by rw[mg];exact z1,?_⟩,hp.out.keep ES⟩⟩,E⟩;exact zdW.set (al.mono fun a b h=>h.keep ES) ⟨H.next,0,wR,o _ (aM _),ac,by rw[kc _ ac ac];exact gb0,by rw[mg];exact z2⟩
 .cases h
end
end
section
def tyEvC.tyF:=ad @cN (ad @b9 (ad @lI (ad @ea (ad @eV (ad @jL (ad @lJ (ad @su (ad @pj (ad @qv (ad @qw (ad @sy (ad @qy (ad @sA (ad @qz (ad @qA (ad @qB (ad @FA (@Ht))))))))))))))))))
open tyEvC
noncomputable def lP:{c:SC // aC 112 (Tryz.f153.body.getD .skip)=c}:=by
 refine⟨?_,?_⟩;rotate_left
 .simp only[Tryz.f153,a5,aC,zdG,zdD,zdH,zdI,Nat.blt,Nat.ble];rfl
theorem Fr9.kid{c:Cx9}{H:Hp}{rows:List (List AV)}{res:List R9}(A:Fr9 c H rows res){n:Nd}{j:Nat}{r:R9}(h:et res n j=some r):∃(m:Nat) (L:AV),n.kids[j]?=some (m:Int)/\zeg res m=some r/\m<res.length/\iR c.S H L r.s/\zdV Tryz.prog 127 (.sl c.rp 0 res.length 4) (.int .i64 (m:Int))=some (.ptr c.rp (m*4))/\∀H',Fr9 c H' rows res->At9 c m r L H':=by
 obtain⟨k,i,g⟩:=AI h;obtain⟨m,rfl⟩:∃m:Nat,k=m:=⟨k.toNat,by obtain⟨_,Z,_⟩:=A.get g;omega⟩;obtain⟨L,a,b,d,e⟩:=A.at g;exact⟨m,L,i,g,a,b,d,e⟩
theorem Y3{S:Nat->Prop}{H:Hp}{v:AV}{l:List Int}(h:jh S H v l)(a:Int):zeI Tryz.prog 136 [(0,.int .i64 a),(1,v)]=some (.agg [.int .i64 a,v]):=by
 cases l with
 |nil=>rw[show v=.nilP from h];kernel_rfl
 |cons n l=>obtain⟨q,w,rfl,_⟩:=h;kernel_rfl
section
variable {tb:List En} (hT:EvT tb) {c:Cx9} {H:Hp} {rows:List (List AV)} {res:List R9}
include hT
theorem Y4(A:Fr9 c H rows res){n:Nd}(hl:n.kids.length<2^30){s2:S9}(h:oo c.start res n=some s2):zdw Tryz.prog (zdp pls tb) 153 [.ptr c.xp 0,.agg n.cells] H fun w H'=>fU c.S H' w s2/\Ext9 (fun _=>True) H H':=by
 have J:Plain (zdp pls tb) 153:=hT.plain dj;have np:∀E:ax,zdo E (.const (.pointer none))=some .nilP:=fun _=>rfl;obtain⟨I,j,V⟩:=n;simp only at hl;have ec:(Nd.mk I j V).cells=[.int .i64 I,.int .i64 j,.lst (V.map fun k=>[.int .i64 k])]:=rfl;rw[ec];have Y:=A.alloc (.cells [.int .i64 I,.int .i64 j,.lst (V.map fun k=>[.int .i64 k])] 0 true);have gx:=Y.x;unfold hW at gx;have lx:=A.lx;have lr:=A.lr;have y0:(c.xp == H.next)=false:=zdC ac;have gn:(H.alloc (.cells [.int .i64 I,.int .i64 j,.lst (V.map fun k=>[.int .i64 k])] 0 true)).get H.next=some (.cells [.int .i64 I,.int .i64 j,.lst (V.map fun k=>[.int .i64 k])] 0 true):=gO
 have E1:Ext9 (fun _=>True) H (H.alloc (.cells [.int .i64 I,.int .i64 j,.lst (V.map fun k=>[.int .i64 k])] 0 true)):=⟨fQ _,fun q _ hq=>fy⟩;unfold oo at h;simp only at h;by_cases c26:I=26
 .subst c26;simp only[bT,aA]at h;subst h;have hst:=Y.st;refine zdv (M:=112) (rs:=[.tmp 4]) (J.call _) J.ice J.froz Tryz.func153 rfl rfl lP.2 rfl ?_;dsimp only[lP,zds,Nat.reduceAdd];repeat' (first
   |(apply zdk ?_;clear hK K)|apply Ry.o ?_|(apply aD (fun z Z=>?_) (fun z Z=>?_)<;>try(cases z;done))|apply ak ?_|(apply zdl fun K hK=>?_)|apply am ?_)
  all_goals (refine⟨eI,_,eR,?_⟩;try simp only[zdn])
  exact⟨hst,E1⟩
 rw[ai c26]at h;obtain⟨r,h1,h⟩:=cm.1 h;obtain⟨s,h2,h⟩:=cm.1 h;obtain⟨m,sv,zex,_,hm,ho,ix,hA⟩:=A.kid h1;simp only at zex;rw[h2]at ho;have ho1:fU c.S (H.alloc (.cells [.int .i64 I,.int .i64 j,.lst (V.map fun k=>[.int .i64 k])] 0 true)) sv s:=x9 ho (E1.sub fun _ _ _=>trivial);have zeU:=(hA _ Y).l2;obtain⟨p,cv,ov,rfl,hp⟩:=ho1;have gp:=hp.get;obtain⟨p1,p2⟩:=hp.cells.one;obtain⟨p3,p4⟩:=hp.out.one;have plt:=hp.lt;rw[zdA]at plt;have y1:(p == H.next+1)=false:=zdC ac;have y2:(H.next == H.next+1)=false:=zdC ac;by_cases c28:I=28
 .subst c28;simp only[bT]at h;obtain⟨ra,h3,h⟩:=cm.1 h;obtain⟨rb,h4,h⟩:=cm.1 h;obtain⟨ma,sva,ka,_,hma,_,ixa,O⟩:=A.kid h3;obtain⟨mb,svb,kb,_,hmb,_,ixb,hAb⟩:=A.kid h4;have aa:=(O _ Y).l1;have ab:=(hAb _ Y).l1;simp only at ka kb;refine zdv (M:=112) (rs:=[.tmp 4]) (J.call _) J.ice J.froz Tryz.func153 rfl rfl lP.2 rfl ?_;dsimp only[lP,zds,Nat.reduceAdd];repeat' (first
   |(apply zdk ?_;clear hK K)|apply Ry.o ?_|(apply aD (fun z Z=>?_) (fun z Z=>?_)<;>try(cases z;done))|apply ak ?_|(apply zdl fun K hK=>?_)|(apply zdL 3 [(3,12),(5,12),(7,12),(10,12)] fun K hK=>?_)|(apply zdL 5 [(2,25),(6,25),(8,25),(10,25),(13,25),(17,25),(19,25),(21,25),(24,25)] fun K hK=>?_)|(apply zdK ?_;try intro _)|(apply zdM ?_ ?_<;>clear hK K)|apply bl ?_|apply zdm ?_|fail)
  .exact zdR
  refine bh rfl bm bo ?_;simp only[dS];refine a9 ?_ (Y2 hT ⟨p,cv,ov,rfl,hp⟩ (fun q hq=>Y.up q hq) h);rintro v H4 ⟨hv,E4⟩;dsimp only[zdE];have o:=Y.keep E4.next fun q hq=>E4.get q trivial hq
  have gx4:=o.x;unfold hW at gx4;have aa4:=(O _ o).l1;have ab4:=(hAb _ o).l1;have gn4:=(E4.get _ trivial (show H.next<(H.alloc _).next from cP _)).trans gn;have n4:=E4.next
  have hov:=hv.one;repeat' (first
   |apply Rx.o ?_|(apply zdK ?_;try intro _)|(apply zdM ?_ ?_<;>clear hK K)|apply bl ?_|apply am ?_)
  .exact zdR
  all_goals (refine⟨eI,_,eR,?_⟩;try simp only[zdn])
  exact⟨hv,E1.trans E4⟩
 rw[ai c28]at h;by_cases ce:s.ed=0
 .rw[ai ac]at h;by_cases c27:I=27
  .subst c27;rw[az rfl]at h;obtain⟨ra,h3,h⟩:=cm.1 h;obtain⟨ma,sva,ka,_,hma,_,ixa,O⟩:=A.kid h3;have aa:=(O _ Y).l1;simp only at ka;simp only[aA]at h;by_cases cv0:ra.v=0
   .rw[ai ac]at h;subst h;refine zdv (M:=112) (rs:=[.tmp 4]) (J.call _) J.ice J.froz Tryz.func153 rfl rfl lP.2 rfl ?_;dsimp only[lP,zds,Nat.reduceAdd];repeat' (first
     |(apply zdk ?_;clear hK K)|apply Ry.o ?_|apply b4 ?_|(apply aD (fun z Z=>?_) (fun z Z=>?_)<;>try(cases z;done))|apply ak ?_|(apply zdl fun K hK=>?_)|(apply zdL 3 [(3,12),(5,12),(7,12),(10,12)] fun K hK=>?_)|(apply zdL 10 [(3,12),(5,12),(7,12),(10,12)] fun K hK=>?_)|(apply zdL 13 [(1,3),(1,5)] fun K hK=>?_)|(apply zdK ?_;try intro _)|(apply zdM ?_ ?_<;>clear hK K)|apply bl ?_|apply zfJ rfl ?_|apply au ?_|apply zdm ?_|apply am ?_)
    .exact zdR
    .exact zdR
    .exact zdR
    all_goals (refine⟨eI,_,eR,?_⟩;try simp only[zdn])
    generalize U:Hp.set _ (H.next+1) _=C;have nc:H.next+2<=C.next:=u3
    have gc:C.get (H.next+1)=some (.cells [cv,ov,.int .i64 s.fuel,.int .i64 2,.int .i64 j,.int .i64 s.last] 0 true):=by rw[<-U,aW,az rfl]
    have i:Ext9 (fun _=>True) (H.alloc (.cells [.int .i64 27,.int .i64 j,.lst (V.map fun k=>[.int .i64 k])] 0 true)) C:=⟨u4,fun r _ hr=>by
     rw[zdA]at hr;rw[<-U];simp only[aW,zdq,zdA,ai (show ¬r=H.next+1 by omega)]⟩
    clear U;exact⟨⟨H.next+1,cv,ov,rfl,⟨A.up _ ac,ac,gc,hp.cells.keep (i.sub fun _ _ _=>trivial),hp.out.keep (i.sub fun _ _ _=>trivial)⟩⟩,E1.trans i⟩
   .rw[az cv0]at h;subst h;refine zdv (M:=112) (rs:=[.tmp 4]) (J.call _) J.ice J.froz Tryz.func153 rfl rfl lP.2 rfl ?_;dsimp only[lP,zds,Nat.reduceAdd];repeat' (first
     |(apply zdk ?_;clear hK K)|apply Ry.o ?_|(apply aD (fun z Z=>?_) (fun z Z=>?_)<;>try(cases z;done))|apply ak ?_|(apply zdl fun K hK=>?_)|(apply zdL 3 [(3,12),(5,12),(7,12),(10,12)] fun K hK=>?_)|(apply zdL 10 [(3,12),(5,12),(7,12),(10,12)] fun K hK=>?_)|(apply zdK ?_;try intro _)|(apply zdM ?_ ?_<;>clear hK K)|apply bl ?_|apply au ?_|apply zdm ?_|apply am ?_)
    .exact zdR
    .exact zdR
    all_goals (refine⟨eI,_,eR,?_⟩;try simp only[zdn])
    exact⟨⟨p,cv,ov,rfl,hp⟩,E1⟩
  rw[ai c27]at h;by_cases c29:I=29
  .subst c29;rw[az rfl]at h;obtain⟨ra,h3,h⟩:=cm.1 h;obtain⟨ma,sva,ka,_,hma,_,ixa,O⟩:=A.kid h3;have aa:=(O _ Y).l1;simp only at ka;simp only[aA]at h;subst h;refine zdv (M:=112) (rs:=[.tmp 4]) (J.call _) J.ice J.froz Tryz.func153 rfl rfl lP.2 rfl ?_;dsimp only[lP,zds,Nat.reduceAdd];repeat' (first
    |(apply zdk ?_;clear hK K)|apply Ry.o ?_|apply b4 ?_|(apply aD (fun z Z=>?_) (fun z Z=>?_)<;>try(cases z;done))|apply ak ?_|(apply zdl fun K hK=>?_)|(apply zdL 3 [(3,12),(5,12),(7,12),(10,12)] fun K hK=>?_)|(apply zdL 17 [(3,18),(5,18),(7,18),(10,18),(14,18),(16,18)] fun K hK=>?_)|(apply zdK ?_;try intro _)|(apply zdM ?_ ?_<;>clear hK K)|apply bl ?_|apply au ?_|apply zdm ?_|fail)
   .exact zdR
   generalize F:Hp.set (Hp.alloc (H.alloc _) _) (H.next+1) _=L;have nb:H.next+2<=L.next:=by rw[<-F];exact aM _
   have gb:L.get (H.next+1)=some (.cells [cv,ov,.int .i64 s.fuel,.int .i64 0,.int .i64 s.code,.int .i64 s.last] 0 true):=by rw[<-F,aW,az rfl]
   have EB:Ext9 (fun _=>True) (H.alloc (.cells [.int .i64 29,.int .i64 j,.lst (V.map fun k=>[.int .i64 k])] 0 true)) L:=⟨u4,fun r _ hr=>by
    rw[zdA]at hr;rw[<-F];simp only[aW,zdq,zdA,ai (show ¬r=H.next+1 by omega)]⟩
   clear F;have g:=Y.keep EB.next fun q hq=>EB.get q trivial hq
   have gxb:=g.x;unfold hW at gxb;have aab:=(O _ g).l1;have gnb:=(EB.get _ trivial (show H.next<(H.alloc _).next from cP _)).trans gn;have gpb:=(EB.get _ trivial hp.lt).trans gp;have y3:(H.next+1 == L.next)=false:=zdC ac;have y4:(p == L.next)=false:=zdC ac;have y5:(H.next == L.next)=false:=zdC ac;have y6:(c.xp == L.next)=false:=zdC ac;have y7:(c.rp == L.next)=false:=zdC ac;have hbo:=Y3 hp.out ra.v;have aabb:=(O _ (g.alloc (.cells [.int .i64 ra.v,ov] 0 true))).l1;repeat' (first
    |(apply zdk ?_;clear hK K)|apply Ry.o ?_|apply b4 ?_|apply ak ?_|(apply zdl fun K hK=>?_)|(apply zdK ?_;try intro _)|(apply zdM ?_ ?_<;>clear hK K)|apply bl ?_|apply zfJ rfl ?_|apply am ?_)
   .exact zdR
   all_goals (refine⟨eI,_,eR,?_⟩;try simp only[zdn])
   generalize U:Hp.set _ (H.next+1) _=C;have nc:L.next+1<=C.next:=u3
   have gc:C.get (H.next+1)=some (.cells [cv,.ptr L.next 0,.int .i64 s.fuel,.int .i64 0,.int .i64 s.code,.int .i64 s.last] 0 true):=by rw[<-U,aW,az rfl]
   have gd:C.get L.next=some (.cells [.int .i64 ra.v,ov] 0 true):=by
    rw[<-U];simp only[aW,zdq,ai (show ¬L.next=H.next+1 by omega),bT]
   have i:Ext9 (fun _=>True) (H.alloc (.cells [.int .i64 29,.int .i64 j,.lst (V.map fun k=>[.int .i64 k])] 0 true)) C:=⟨u4,fun r _ hr=>by
    have hr2:=hr;rw[zdA]at hr2;rw[<-EB.get r trivial hr,<-U];simp only[aW,zdq,ai (show ¬r=H.next+1 by omega),ai (show ¬r=L.next by omega)]⟩
   clear U;refine⟨⟨H.next+1,cv,.ptr L.next 0,rfl,⟨A.up _ ac,ac,?_,hp.cells.keep (i.sub fun _ _ _=>trivial),⟨L.next,ov,rfl,A.up _ ac,ac,gd,hp.out.keep (i.sub fun _ _ _=>trivial)⟩⟩⟩,E1.trans i⟩;rw[gc,ce]
  .rw[ai c29]at h;cases h
 .rw[az ce]at h;simp only[aA]at h;subst h;refine zdv (M:=112) (rs:=[.tmp 4]) (J.call _) J.ice J.froz Tryz.func153 rfl rfl lP.2 rfl ?_;dsimp only[lP,zds,Nat.reduceAdd];repeat' (first
   |(apply zdk ?_;clear hK K)|apply Ry.o ?_|(apply aD (fun z Z=>?_) (fun z Z=>?_)<;>try(cases z;done))|apply ak ?_|(apply zdl fun K hK=>?_)|(apply zdL 3 [(3,12),(5,12),(7,12),(10,12)] fun K hK=>?_)|(apply zdK ?_;try intro _)|(apply zdM ?_ ?_<;>clear hK K)|apply bl ?_|apply zdm ?_|apply am ?_)
  .exact zdR
  all_goals (refine⟨eI,_,eR,?_⟩;try simp only[zdn])
  exact⟨⟨p,cv,ov,rfl,hp⟩,E1⟩
end
end
end Go.Proofs.YtljebeflbbgibaaGreat
