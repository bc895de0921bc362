/- Parts: R3a, Strs, AbWk, AbCut, AbIc, Ints, SpecR, R3b, I1, I2, EnX. -/
import Derived.Test.YtljebeflbbgibaaGreatXCG
set_option linter.unusedSimpArgs false
set_option linter.unusedVariables false
set_option linter.unusedSectionVars false
set_option linter.defProp false
set_option maxHeartbeats 32000000
namespace Go.Ab
set_option maxRecDepth 20000
open Go
theorem sG{P:Prop}(h:P:=by rw[List.drop_eq_getElem_cons o];rfl):P:=h
theorem xF{P:Prop}(h:P:=by rw[C r ⟨_,rfl⟩];exact g):P:=h
theorem xG{P:Prop}(h:P:=by have:=List.length_pos_iff.2 M;omega):P:=h
theorem jv{P:Prop}(h:P:=by rw[o];omega):P:=h
theorem hC{P:Prop}(h:P:=by rw[zdq,if_pos rfl];rfl):P:=h
theorem lL{P:Prop}(h:P:=by simp only[zfY];omega):P:=h
theorem uO{P:Prop}(h:P:=by rw[o];exact zeD):P:=h
theorem Bh{P:Prop}(h:P:=by simp only[List.length_cons];omega):P:=h
theorem sH{P:Prop}(h:P:=by simp only[zdy,Nat.reduceBEq, *];exact zfq (n:=s.length) ac ac):P:=h
theorem Gb{P:Prop}(h:P:=by rw[Int.tmod_eq_emod_of_nonneg ac];omega):P:=h
def cE:=@List.length_map
def ox:=@List.all_cons
def pr:=@Bool.and_eq_false_iff
def nn:=@List.any_cons
def Bi:=@Bool.or_assoc
def xH:=@Nat.ble_eq
def qF:=@List.replicate_succ
def Gc:=@List.set_eq_take_append_cons_drop
def qG:=@Bool.and_assoc
def Bj:=@List.set_cons_zero
def Gd:=@List.eq_of_mem_replicate
def Bk:=@List.eq_nil_of_length_eq_zero
def cX:=@decide_eq_false
def kR:=@decide_eq_decide
def cF:=@decide_eq_true
def pt:=@Bool.and_false
def jQ:=@Prod.ext
def jR:=@List.drop_length
def oy:=@List.map_set
def uP:=@decide_not
def qH:=@Bool.not_eq_false'
def fl:=And.intro @l7 @qH
def sI:=And.intro @dZ @pt
def qI:=And.intro @ll @gA
def Bl:=And.intro @dw @j6
def xI:=And.intro sI Bl
end Go.Ab
namespace Go.Proofs.YtljebeflbbgibaaGreat
set_option maxRecDepth 20000
open Go Go.Ab
section
def tyR3a.tyF:=ad @b9 (ad @dA (ad @ko (ad @uE (ad @iq (ad @na (ad @kj (ad @iM (ad @gF (ad @ng (ad @cN (@iN)))))))))))
open tyR3a
theorem yl(f:FuncId):Plain (zdp pls []) f:=⟨fun _=>rfl,rfl,rfl⟩
theorem zej{l:List En}{f:FuncId}(h1:∀args,zem l f args=none)(h2:ir l f=false):Plain (zdp pls l) f:=⟨h1,h2,rfl⟩
noncomputable def Ge:{c:SC // aC 21 (Tryz.f95.body.getD .skip)=c}:=by
 refine⟨?_,?_⟩;rotate_left
 .simp only[Tryz.f95,a5,aC,zdG,zdD,zdH,zdI,Nat.blt,Nat.ble];rfl
noncomputable def Gf:{c:SC // aC 9 (Tryz.f96.body.getD .skip)=c}:=by
 refine⟨?_,?_⟩;rotate_left
 .simp only[Tryz.f96,a5,aC,zdG,zdD,zdH,zdI,Nat.blt,Nat.ble];rfl
noncomputable def Gg:{c:SC // aC 34 (Tryz.f58.body.getD .skip)=c}:=by
 refine⟨?_,?_⟩;rotate_left
 .simp only[Tryz.f58,a5,aC,zdG,zdD,zdH,zdI,Nat.blt,Nat.ble];rfl
noncomputable def Gi:{c:SC // aC 18 (Tryz.f59.body.getD .skip)=c}:=by
 refine⟨?_,?_⟩;rotate_left
 .simp only[Tryz.f59,a5,aC,zdG,zdD,zdH,zdI,Nat.blt,Nat.ble];rfl
noncomputable def Gj:{c:SC // aC 10 (Tryz.f29.body.getD .skip)=c}:=by
 refine⟨?_,?_⟩;rotate_left
 .simp only[Tryz.f29,a5,aC,zdG,zdD,zdH,zdI,Nat.blt,Nat.ble];rfl
theorem Xg(ρ:Nat->Int)(n:Int):bc Tryz.prog ρ 95 [.int .u8 n] (.bool (lK n)):=zer fit (pls:=pls) (l:=[]) trivial (.cons (.int _ _) .nil) (.bool _) (by
 have J:=yl 95;refine zdv (M:=21) (rs:=[.tmp 2]) (J.call _) J.ice J.froz Tryz.func95 rfl rfl Ge.2 rfl ?_;dsimp only[Ge,zds,Nat.reduceAdd];repeat' (first
  |(apply zdk ?_;clear hK K)|apply Rx.o ?_|apply qC ?_|(apply bZ (fun C L=>?_) (fun C L=>?_)<;>try(cases C;done))|apply ak ?_|(apply zdl fun K hK=>?_)|apply am ?_)
 all_goals (refine⟨eI,_,eR,?_⟩;try simp only[zdn])
 all_goals (simp_all[lK]<;>omega))
theorem Xh(ρ:Nat->Int)(n:Int):bc Tryz.prog ρ 96 [.int .u8 n] (.bool (kq n)):=zer fit (pls:=pls) (l:=[]) trivial (.cons (.int _ _) .nil) (.bool _) (by
 have J:=yl 96;refine zdv (M:=9) (rs:=[.tmp 2]) (J.call _) J.ice J.froz Tryz.func96 rfl rfl Gf.2 rfl ?_;dsimp only[Gf,zds,Nat.reduceAdd];repeat' (first
  |(apply zdk ?_;clear hK K)|apply Rx.o ?_|(apply bZ (fun C L=>?_) (fun C L=>?_)<;>try(cases C;done))|apply ak ?_|(apply zdl fun K hK=>?_)|apply am ?_)
 all_goals (refine⟨eI,_,eR,?_⟩;try simp only[zdn])
 all_goals (simp_all[kq]<;>omega))
def qJ(n:Int):List AV:=[.int .u8 n]
theorem Gk(x y:Int)(h:qJ x=qJ y):x=y:=by simpa [qJ]using h
noncomputable def uQ:En:=⟨95,false,b7 (fun _=>True) qJ fun n=>.bool (lK n)⟩
noncomputable def uR:En:=⟨96,false,b7 (fun _=>True) qJ fun n=>.bool (kq n)⟩
theorem Xi(ρ:Nat->Int):yO Tryz.prog ρ uQ:=zei fun n _=>Xg ρ n
theorem Xj(ρ:Nat->Int):yO Tryz.prog ρ uR:=zei fun n _=>Xh ρ n
theorem Xk(ρ:Nat->Int)(s:List UInt8)(hs:s.length<2^60):bc Tryz.prog ρ 58 [.str s] (.bool (je s)):=zer fit (pls:=pls) (l:=[uQ,uR]) ⟨Xi ρ,Xj ρ,trivial⟩ (.cons (.str _) .nil) (.bool _) (by
 have A:Plain (zdp pls [uQ,uR]) 58:=zej (fun _=>rfl) rfl;have kl:∀(n:Int) (H:Hp),zdw Tryz.prog (zdp pls [uQ,uR]) 95 [.int .u8 n] H fun v H'=>v=.bool (lK n)/\H'=H:=fun n H=>zeq (enc:=qJ) (out:=fun n=>.bool (lK n)) Gk (x:=n) rfl trivial;have kd:∀(n:Int) (H:Hp),zdw Tryz.prog (zdp pls [uQ,uR]) 96 [.int .u8 n] H fun v H'=>v=.bool (kq n)/\H'=H:=fun n H=>zeq (enc:=qJ) (out:=fun n=>.bool (kq n)) Gk (x:=n) rfl trivial;refine zdv (M:=34) (rs:=[.tmp 2]) (A.call _) A.ice A.froz Tryz.func58 rfl rfl Gg.2 rfl ?_;dsimp only[Gg,zds,Nat.reduceAdd];repeat' (first
  |(apply zdk ?_;clear hK K)|apply Rx.o ?_|apply ak ?_|(apply zdl fun K hK=>?_)|apply au ?_|fail)
 refine zef [0] [] 3 s.length (fun i E H=>zeR s=i+zeR (s.drop i)/\(0<i->∀b,s[0]?=some b->kq b.toNat=false)) eE aB ?_;rintro i E H2 hi I m F hsI ⟨j,U⟩;(try simp only[zdO,zdF,aX,zdy,zdJ,Nat.reduceBEq, *]at I);(try simp only[zdF, *]at m);(try simp only[zec,]at F);repeat' (first
  |(apply zdk ?_;clear hK K)|apply Rx.o ?_|(apply bZ (fun C Y=>?_) (fun C Y=>?_)<;>try(cases C;done))|(apply aS (fun z V=>?_) (fun z V=>?_)<;>try(cases z;done))|apply ak ?_|(apply zdl fun K hK=>?_)|apply au ?_|apply zdm ?_|apply am ?_|apply zdr ?_)
 .have J:i<s.length:=by simpa using z
  have g:s[i]?=some s[i]:=aR J;have O:zeR (s.drop i)=if iP s[i]then zeR (s.drop (i+1))+1 else 0:=by rw[fq J,zeR]
  repeat' (first
   |(apply zdk ?_;clear hK K)|apply Rx.o ?_|(apply iO ?_;first|refine Rx.k (kl _ _) ?_|refine Rx.k (kd _ _) ?_)|apply qC ?_|(apply bZ (fun C Y=>?_) (fun C Y=>?_)<;>try(cases C;done))|(apply aS (fun z V=>?_) (fun z V=>?_)<;>try(cases z;done))|apply ak ?_|(apply zdl fun K hK=>?_)|apply zdm ?_|apply am ?_|fail)
  .all_goals (refine⟨eI,_,eR,?_⟩;try simp only[zdn])
   have o:i=0:=ac;subst o;unfold je;cases s<;>simp_all
  .refine⟨ac,zdz,zdz,eN,sH,?_⟩;have L:iP s[i]=true:=by simp_all[iP]
   refine⟨by rw[j,O,L];simp;omega,fun _ b Z=>U ac b Z⟩
  .all_goals (refine⟨eI,_,eR,?_⟩;try simp only[zdn])
   have L:iP s[i]=false:=by simp_all[iP]
   rw[L]at O;simp at O;unfold je;simp[show ¬zeR s=s.length by omega]
  .refine⟨ac,zdz,zdz,eN,sH,?_⟩;have L:iP s[i]=true:=by simp_all[iP]
   refine⟨by rw[j,O,L];simp;omega,fun _ b Z=>?_⟩;by_cases h0:0<i
   .exact U h0 b Z
   .have o:i=0:=by omega
    subst o;rw[g]at Z;have:s[0]=b:=rN;subst this;have hle:lK s[0].toNat=true:=by simp_all
    simp only[lK,kq]at *;simp only[oc,j4]at hle;simp only[pr,jN];omega
 all_goals
  have hie:i=s.length:=ac;all_goals (refine⟨eI,_,eR,?_⟩;try simp only[zdn])
  rw[hie]at j;simp[zeR]at j;unfold je;cases s<;>simp_all<;>omega)
def zdS(l:List (List UInt8))(s:List UInt8):Bool:=l.any fun x=>decide (x=s)
def Bm(op:Int):Bool:=decide (4<=op)&&decide (op<=18)
def zeroE(x:Ex):Bool:=decide (x.kind=0)&&decide (x.n=0)&&decide (x.name=[])&&decide (x.op=0)&&decide (x.kids.length=0)
def jw:List Fu->List UInt8->Int->Int
 |[],_,_=>-1
 |f::l,s,i=>if f.name=s then i else jw l s (i+1)
def ku:List (List UInt8):=[[97,114,114,97,121],[102,117,110,99],[118,97,114],[114,101,116,117,114,110],[105,102],[101,108,115,101],[119,104,105,108,101],[111,117,116],[116,114,97,112]]
theorem Gl(s:List UInt8):zdS ku s=pp s:=by
 simp only[zdS,ku,pp,nn,List.any_nil,jO,<-Bi];simp only[eq_comm]
theorem Xl(H:Hp)(a b c d e f g h i:List UInt8):zeP Tryz.prog H 100 9 [(0,.str a),(1,.str b),(2,.str c),(3,.str d),(4,.str e),(5,.str f),(6,.str g),(7,.str h),(8,.str i)]=some (.sl H.next 0 9 1,H.alloc (.cells ([a,b,c,d,e,f,g,h,i].map .str) 0 true)):=af
theorem Xm(ρ:Nat->Int)(s:List UInt8):bc Tryz.prog ρ 59 [.str s] (.bool (pp s)):=zer fit (pls:=pls) (l:=[]) trivial (.cons (.str _) .nil) (.bool _) (by
 have J:=yl 59;refine zdv (M:=18) (rs:=[.tmp 2]) (J.call _) J.ice J.froz Tryz.func59 rfl rfl Gi.2 rfl ?_;dsimp only[Gi,zds,Nat.reduceAdd];have L:=@Xl;repeat' (first
  |(apply zdk ?_;clear hK K)|apply Rx.o ?_|apply ak ?_|(apply zdl fun K hK=>?_)|apply au ?_|fail)
 refine zef [0,3] [0] 4 9 (fun i E H=>zdS ku s=zdS (ku.drop i) s) eE aB ?_;rintro i E g hi j m Z U Y;(try simp only[zdO,zdF,aX,zdy,zdJ,Nat.reduceBEq, *]at j);(try simp only[zdO,zdF,aX,zdy,zdJ, *]at m);(try simp only[zdA,zec,bC]at Z);have I:(0 == g.next)=false:=zdC ac;have F:(g.next == 0)=false:=zdC ac;change g.get 0=some (.cells (ku.map .str) 0 true)at m;have C:ku.length=9:=rfl;repeat' (first
  |(apply zdk ?_;clear hK K)|apply Rx.o ?_|(apply aS (fun z V=>?_) (fun z V=>?_)<;>try(cases z;done))|apply ak ?_|(apply zdl fun K hK=>?_)|apply au ?_|apply zdm ?_|apply am ?_|apply zdr ?_)
 .have o:i<ku.length:=by omega
  have A:ku[i]?=some ku[i]:=aR o;have O:zdS (ku.drop i) s=(decide (ku[i]=s)||zdS (ku.drop (i+1)) s):=sG;have hi9:decide (i<9)=true:=cf;repeat' (first
   |(apply zdk ?_;clear hK K)|apply Ry.o ?_|(apply aD (fun z V=>?_) (fun z V=>?_)<;>try(cases z;done))|apply ak ?_|(apply zdl fun K hK=>?_)|apply zdm ?_|apply am ?_|fail)
  .all_goals (refine⟨eI,_,eR,?_⟩;try simp only[zdn])
   rw[<-Gl,Y,O];simp_all
  .refine⟨ac,(by simp only[zdO,zdF,aX,zdy,zdJ,Nat.reduceBEq,ku, *]),(by simp only[zdO,zdF,aX,zdy,zdJ,ku, *]),eN,(by simp only[zdy,Nat.reduceBEq, *];exact zfq (n:=9) ac ac),?_⟩;rw[Y,O];simp_all
 .all_goals (refine⟨eI,_,eR,?_⟩;try simp only[zdn])
  rw[<-Gl,Y,show i=9 by omega];rfl)
def kS(s:List UInt8):List AV:=[.str s]
theorem sJ(x y:List UInt8)(h:kS x=kS y):x=y:=by simpa [kS]using h
noncomputable def uS:En:=⟨58,false,b7 (fun s=>s.length<2^60) kS fun s=>.bool (je s)⟩
noncomputable def uT:En:=⟨59,false,b7 (fun _=>True) kS fun s=>.bool (pp s)⟩
theorem Xn(ρ:Nat->Int):yO Tryz.prog ρ uS:=zei fun s K=>Xk ρ s K
theorem Xo(ρ:Nat->Int):yO Tryz.prog ρ uT:=zei fun s _=>Xm ρ s
theorem Xp(ρ:Nat->Int)(s:List UInt8)(Z:s.length<2^60):bc Tryz.prog ρ 29 [.str s] (.bool (zd8 s)):=zer fit (pls:=pls) (l:=[uS,uT]) ⟨Xn ρ,Xo ρ,trivial⟩ (.cons (.str _) .nil) (.bool _) (by
 have J:Plain (zdp pls [uS,uT]) 29:=zej (fun _=>rfl) rfl;have Y:∀(H:Hp),zdw Tryz.prog (zdp pls [uS,uT]) 58 [.str s] H fun v H'=>v=.bool (je s)/\H'=H:=fun H=>zeq (enc:=kS) (out:=fun n=>.bool (je n)) sJ (x:=s) rfl Z;have V:∀(H:Hp),zdw Tryz.prog (zdp pls [uS,uT]) 59 [.str s] H fun v H'=>v=.bool (pp s)/\H'=H:=fun H=>zeq (enc:=kS) (out:=fun n=>.bool (pp n)) sJ (x:=s) rfl trivial;refine zdv (M:=10) (rs:=[.tmp 2]) (J.call _) J.ice J.froz Tryz.func29 rfl rfl Gj.2 rfl ?_;dsimp only[Gj,zds,Nat.reduceAdd];repeat' (first
  |(apply zdk ?_;clear hK K)|apply Rx.o ?_|(apply iO ?_;first|refine Rx.k (Y _) ?_|refine Rx.k (V _) ?_)|(apply bZ (fun C L=>?_) (fun C L=>?_)<;>try(cases C;done))|apply ak ?_|(apply zdl fun K hK=>?_)|apply am ?_)
 all_goals (refine⟨eI,_,eR,?_⟩;try simp only[zdn])
 all_goals (simp_all[zd8]))
end
def lM(H:Hp)(v:AV)(l:List (List UInt8))(lo:Nat):Prop:=∃r j,v=.sl r 0 l.length 1/\H.get r=some (.cells (l.map .str) j true)/\j<=l.length/\lo<=r/\r<H.next
def nr(H:Hp)(v:AV)(l:List (List UInt8))(lo:Nat):Prop:=(v=.nilS/\l=[])\/lM H v l lo
theorem lM.low{H H':Hp}{v:AV}{l:List (List UInt8)}{lo:Nat}(h:lM H v l lo)(m:H.next<=H'.next)(C:∀k,lo<=k->k<H.next->H'.get k=H.get k):lM H' v l lo:=by
 obtain⟨r,j,i,g,o,U,Z⟩:=h;exact⟨r,j,i,by rw[C r U Z];exact g,o,U,ac⟩
def zeG(v:AV)(k:Nat):Prop:=∃n,v=.sl k 0 n 1
def pu(v F:AV)(H H':Hp):Prop:=(∀k,k<H.next->¬zeG v k->H'.get k=H.get k)/\∀k,zeG F k->zeG v k\/H.next<=k
theorem lM.lt{H:Hp}{v:AV}{l:List (List UInt8)}{lo:Nat}(h:lM H v l lo){k:Nat}(j:zeG v k):lo<=k/\k<H.next:=by
 obtain⟨r,Z,rfl,_,_,U,i⟩:=h;obtain⟨n,e⟩:=j;simp only[AV.sl.injEq]at e;rw[<-e.1];exact⟨U,i⟩
theorem nr.lt{H:Hp}{v:AV}{l:List (List UInt8)}{lo:Nat}(h:nr H v l lo){k:Nat}(j:zeG v k):lo<=k/\k<H.next:=by
 rcases h with⟨rfl,_⟩|h
 .obtain⟨n,e⟩:=j;simp at e
 .exact h.lt j
theorem lM.keep{H H':Hp}{v:AV}{l:List (List UInt8)}{lo:Nat}(h:lM H v l lo)(m:H.next<=H'.next)(C:∀k,zeG v k->H'.get k=H.get k):lM H' v l lo:=by
 obtain⟨r,j,rfl,g,o,U,i⟩:=h;exact⟨r,j,rfl,xF,o,U,ac⟩
theorem nr.keep{H H':Hp}{v:AV}{l:List (List UInt8)}{lo:Nat}(h:nr H v l lo)(m:H.next<=H'.next)(C:∀k,zeG v k->H'.get k=H.get k):nr H' v l lo:=h.imp id fun h=>h.keep m C
theorem Gm(l:List (List UInt8)):(l.map AV.str).all AV.one=true:=by simp[AV.one]
theorem Xq{H:Hp}{r imm:Nat}{m:List (List UInt8)}(h:H.get r=some (.cells (m.map .str) imm true)):zfk H 1 (.sl r 0 m.length 1)=some (m.length,m.map .str):=by
 have:=mn (H:=H) (r:=r) (o:=0) (n:=m.length) (z:=1) (s:=1) h aB;rw[this,dY,eJ aB]
theorem Xr{H:Hp}{v x:AV}{l m:List (List UInt8)}{lo:Nat}(L:nr H v l lo)(Z:lo<=H.next)(I:zfk H 1 x=some (m.length,m.map .str))(M:m≠[])(z:l.length+m.length<2^40):
 ∃F H',zeV Tryz.prog false H 100 100 v x=some (F,H')/\lM H' F (l++m) lo/\H'.next=H.next+1/\(∀k,k<lo->H'.get k=H.get k)/\pu v F H H':=by
 obtain⟨n,U⟩:∃n,m.length=n+1:=⟨m.length-1,xG⟩;have o:zeL=70368744177664:=rfl;rw[U]at I;rcases L with⟨rfl,rfl⟩|⟨r,Y,rfl,g,J,C,i⟩
 .refine⟨.sl H.next 0 (n+1) 1,H.alloc (.cells (m.map .str) 0 true),append_nil Tryz.underlying100 AQ AR AS af I (Gm m) rfl jv jv,⟨H.next,0,by simp[U],hC,ac,Z,cP _⟩,rfl,fun k j=>fy,fun k j _=>fy,fun k j=>.inr ?_⟩;obtain⟨K,e⟩:=j;simp only[AV.sl.injEq]at e;omega
 .have O:gw false H 1 (.sl r 0 l.length 1)=H:=by
   unfold gw;simp only[g,bC,cE,gD];have:Nat.blt l.length l.length=false:=by
    cases z:Nat.blt l.length l.length with
    |false=>rfl
    |true=>rw[gQ]at z;omega
   simp[this]
  refine⟨.sl H.next 0 (l.length+(n+1)) 1,(H.kill r).alloc (.cells (l.map .str++m.map .str) (Y-0) true),?_,⟨H.next,Y,by simp[U],?_,cf,Z,cP _⟩,rfl,fun k j=>?_,fun k j V=>?_,fun k j=>.inr ?_⟩
  .simp only[zeV,Tryz.underlying100,AQ,AR,AS,show kG Tryz.prog 100=true by kernel_rfl,I,Gm,O,mX,bT,dq,jF,zf5,g,cE,bC,gD,dY];rw[az ⟨jv,jv,trivial,trivial,J⟩];simp
  .show((H.kill r).alloc _).get (H.kill r).next=_
   rw[zdq,az rfl];simp
  .rw[zdq,ai lL,zff,ai ac]
  .rw[zdq,ai lL,zff,ai (fun e=>V ⟨_,lB⟩)]
  .obtain⟨K,e⟩:=j;simp only[AV.sl.injEq]at e;omega
theorem Gn{H:Hp}{v:AV}{l:List (List UInt8)}{lo r imm:Nat}(s:List UInt8)(L:nr H v l lo)(j:lo<=H.next)(K:H.get r=some (.cells [.str s] imm true))(z:l.length<2^39):
 ∃F H',zeV Tryz.prog false H 100 100 v (.sl r 0 1 1)=some (F,H')/\lM H' F (l++[s]) lo/\H'.next=H.next+1/\(∀k,k<lo->H'.get k=H.get k)/\pu v F H H':=
 Xr L j (Xq (m:=[s]) K) aB cf
theorem Xs(l:List (List UInt8)):jd 1 l.length (l.map .str)=l.map fun s=>[AV.str s]:=by
 induction l with
 |nil=>rfl
 |cons a l ih=>simp[jd,ih]
end Go.Proofs.YtljebeflbbgibaaGreat
namespace Go.Ab
set_option maxRecDepth 20000
open Go
def bF:Nat->AV->AV
 |0,v=>v
 |n+1,v=>match v with
  | .nilS=>.lst []
  | .lst Z=>.lst (Z.map fun z=>z.map (bF n))
  | .agg Y=>.agg (Y.map (bF n))
  | .tup Y=>.tup (Y.map (bF n))
  |v=>v
theorem VR.wk{G:Gh}:∀(n:Nat) {v:AV}{x:Value},VR G v x->VR G (bF n v) x
 |0,_,_,h=>h
 |n+1,v,x,h=>by
  cases h with
  |nilS=>exact .lst0 _ _
  |lst vs J A L hc=>
   rename_i xs b o cap z;have:=VR.lst (G:=G) (xs:=xs.map fun Z=>Z.map (bF n)) (b:=b) (o:=o) (cap:=cap) (z:=z) vs ?_ ?_ ?_ ?_
   .rw[cE]at this;exact this
   .intro i Z hr;rw[dK]at hr;cases I:xs[i]? with
    |none=>rw[I]at hr;simp at hr
    |some zdP=>rw[I]at hr;simp only[iZ,aA]at hr;rw[<-hr,cE];exact J i zdP I
   .intro i j M K;rw[cE]at M;exact A i j M K
   .intro i j Z c hr Y;rw[dK]at hr;cases I:xs[i]? with
    |none=>rw[I]at hr;simp at hr
    |some zdP=>
     rw[I]at hr;simp only[iZ,aA]at hr;rw[<-hr,dK]at Y;cases O:zdP[j]? with
     |none=>rw[O]at Y;simp at Y
     |some c0=>rw[O]at Y;simp only[iZ,aA]at Y;rw[<-Y];exact VR.wk n (L i j zdP c0 I O)
   .rw[cE];exact hc
  |lst0 a cap=>exact .lst0 a cap
  |agg F L=>
   refine .agg (by rw[cE];exact F) fun i c v hc V=>?_;rw[dK]at hc;rename_i U vs;cases O:U[i]? with
   |none=>rw[O]at hc;simp at hc
   |some c0=>rw[O]at hc;simp only[iZ,aA]at hc;rw[<-hc];exact VR.wk n (L i c0 v O V)
  |tup F L=>
   refine .tup (by rw[cE];exact F) fun i c v hc V=>?_;rw[dK]at hc;rename_i U vs;cases O:U[i]? with
   |none=>rw[O]at hc;simp at hc
   |some c0=>rw[O]at hc;simp only[iZ,aA]at hc;rw[<-hc];exact VR.wk n (L i c0 v O V)
  |int k m=>exact .int k m
  |sx k e=>exact .sx k e
  |bool b=>exact .bool b
  |str s l h=>exact .str s l h
  |nilP=>exact .nilP
  |nilM=>exact .nilM
  |nilF=>exact .nilF
  |ptr h=>exact .ptr h
  |iptr vs A L=>exact .iptr vs A L
  |sl h F hc=>exact .sl h F hc
  |map h=>exact .map h
  |clo F L=>exact .clo F L
theorem bc.wk{P:Program}{ρ:Nat->Int}{f:FuncId}{args:List AV}{r:AV}(n:Nat)(h:bc P ρ f args r):bc P ρ f args (bF n r):=
 ⟨h.1,fun G w vs i g o=>(h.2 G w vs i g o).mono fun _ _ ⟨v,z,U,Z,F⟩=>⟨v,z,U,Z.wk n,F⟩⟩
theorem Bn{P:Program}{ρ:Nat->Int}{f:FuncId}{args:List AV}{r A:AV}(n:Nat)(h:bc P ρ f args r)(e:bF n r=A):bc P ρ f args A:=e▸h.wk n
variable {P:Program} {cfg:Cfg} {f N:Nat}
theorem Xt{c:SC}{E:ax}{H:Hp}{Q:AX->ax->Hp->Prop}(cs:List Nat)(h:∀E':ax,(∀k∈cs,E'.at k=E.at k)->zdX P cfg f N c E' H Q):zdX P cfg f N c E H Q:=h E fun _ _=>rfl
def zdW{U β:Type}(p:U->β->Prop):List U->List β->Prop
 |[],[]=>True
 |a::l,b::m=>p a b/\zdW p l m
 |_,_=>False
theorem zdW.len{U β:Type}{p:U->β->Prop}:∀{l:List U}{m:List β},zdW p l m->l.length=m.length
 |[],[],_=>rfl
 |_::_,_::_,h=>by simp only[dq,zdW.len h.2]
theorem zdW.mono{U β:Type}{p q:U->β->Prop}(h:∀a b,p a b->q a b):∀{l:List U}{m:List β},zdW p l m->zdW q l m
 |[],[],_=>trivial
 |_::_,_::_,k=>⟨h _ _ k.1,zdW.mono h k.2⟩
theorem zdW.append{U β:Type}{p:U->β->Prop}:∀{l:List U}{m:List β}{K:List U}{Z:List β},zdW p l m->zdW p K Z->zdW p (l++K) (m++Z)
 |[],[],_,_,_,h=>h
 |_::_,_::_,_,_,h,k=>⟨h.1,zdW.append h.2 k⟩
theorem zdW.refl{U:Type}{p:U->U->Prop}:∀{l:List U},(∀a∈l,p a a)->zdW p l l
 |[],_=>trivial
 |a::l,h=>⟨h a fh,zdW.refl fun b z=>h b (fp _ z)⟩
theorem zdW.get{U β:Type}{p:U->β->Prop}:∀{l:List U}{m:List β},zdW p l m->∀{i:Nat}{a:U}{b:β},l[i]?=some a->m[i]?=some b->p a b
 |[],[],_,i,_,_,h,_=>by simp at h
 |a::l,b::m,h,0,_,_,h1,h2=>by
  simp only[ke,aA]at h1 h2;subst h1;subst h2;exact h.1
 |a::l,b::m,h,i+1,_,_,h1,h2=>zdW.get h.2 (by simpa using h1) (by simpa using h2)
theorem zdW.set{U β:Type}{p:U->β->Prop}:∀{l:List U}{m:List β},zdW p l m->∀{i:Nat}{a:U}{b:β},p a b->zdW p (l.set i a) (m.set i b)
 |[],[],_,i,_,_,_=>by simp[zdW]
 |_::_,_::_,h,0,_,_,k=>⟨k,h.2⟩
 |_::_,_::_,h,i+1,_,_,k=>⟨h.1,zdW.set h.2 k⟩
def Gp(v:AV):Prop:=ee v/\match v with
 | .sl _ _ _ _|.agg _=>False
 |_=>True
def zee(S:Nat->Prop):Nat->Hp->AV->AV->Prop
 |0,_,_,_=>False
 |n+1,H,v,u=>match v with
  | .sl r V Y z=>S r/\r<H.next/\∃Z j K l,H.get r=some (.cells Z j K)/\j<=Z.length/\V+Y*z<=Z.length/\zdW (zee S n H) ((Z.drop V).take (Y*z)) l/\u=.lst (jd z Y l)
  | .agg Z=>∃I,zdW (zee S n H) Z I/\u=.agg I
  |v=>ee v/\u=v
theorem zee.flat{S:Nat->Prop}{n:Nat}{H:Hp}{v:AV}(h:Gp v):zee S (n+1) H v v:=by
 cases v<;>first|exact h.2.elim|exact⟨h.1,rfl⟩
def lN:=@zee.flat
theorem zee.up{S:Nat->Prop}{H:Hp}:∀{n m:Nat}{v u:AV},zee S n H v u->n<=m->zee S m H v u
 |0,_,_,_,h,_=>h.elim
 |n+1,0,_,_,_,hm=>by omega
 |n+1,m+1,v,u,h,hm=>by
  cases v with
  |sl r V O z=>
   obtain⟨i,A,Y,j,K,l,g,o,U,Z,F⟩:=h;exact⟨i,A,Y,j,K,l,g,o,U,Z.mono fun a b k=>zee.up k ac,F⟩
  |agg Y=>
   obtain⟨I,i,g⟩:=h;exact⟨I,i.mono fun a b k=>zee.up k ac,g⟩
  |_=>exact h
def nt(a b:Option HB):Prop:=a=b\/∃Y i j K,a=some (.cells Y i K)/\b=some (.cells Y j K)/\(i<=Y.length->j<=Y.length)
theorem nt.trans{a b c:Option HB}(h:nt a b)(k:nt b c):nt a c:=by
 rcases h with rfl|⟨Y,i,j,K,rfl,rfl,h⟩
 .exact k
 .rcases k with rfl|⟨L,z,A,g,e,rfl,k⟩
  .exact .inr ⟨Y,i,j,K,rfl,rfl,h⟩
  .simp only[aA,HB.cells.injEq]at e;obtain⟨rfl,rfl,rfl⟩:=e;exact .inr ⟨Y,i,A,K,rfl,rfl,fun q=>k (h q)⟩
theorem zee.frame2{S S':Nat->Prop}{H H':Hp}(hS:∀k,k<H.next->S k->S' k)(O:H.next<=H'.next)(m:∀k,S k->k<H.next->nt (H.get k) (H'.get k)):∀{n:Nat}{v u:AV},zee S n H v u->zee S' n H' v u
 |0,_,_,h=>h.elim
 |n+1,v,u,h=>by
  cases v with
  |sl r off len z=>
   obtain⟨Z,A,Y,V,K,l,g,o,L,I,F⟩:=h;have M:=I.mono fun a b k=>zee.frame2 hS O m k;rcases m r Z A with e|⟨cs',i,j,J,U,e2,e3⟩
   .exact⟨hS r A Z,ac,Y,V,K,l,by rw[<-e];exact g,o,L,M,F⟩
   .rw[g]at U;simp only[aA,HB.cells.injEq]at U;obtain⟨rfl,rfl,rfl⟩:=U;exact⟨hS r A Z,ac,Y,j,K,l,e2,e3 o,L,M,F⟩
  |agg Y=>
   obtain⟨C,Z,g⟩:=h;exact⟨C,Z.mono fun a b k=>zee.frame2 hS O m k,g⟩
  |_=>exact h
theorem zee.frame{S S':Nat->Prop}(hS:∀k,S k->S' k){H H':Hp}(m:H.next<=H'.next)(Z:∀k,S k->k<H.next->nt (H.get k) (H'.get k)){n:Nat}{v u:AV}(h:zee S n H v u):zee S' n H' v u:=h.frame2 (fun k _ q=>hS k q) m Z
structure Icy (S:Nat->Prop) (H H':Hp):Prop where
 next:H'.next=H.next
 out:∀k,¬S k->H'.get k=H.get k
 same:∀k,nt (H.get k) (H'.get k)
theorem Icy.refl(S:Nat->Prop)(H:Hp):Icy S H H:=⟨rfl,fun _ _=>rfl,fun _=>.inl rfl⟩
theorem Icy.trans{S:Nat->Prop}{a b c:Hp}(h:Icy S a b)(k:Icy S b c):Icy S a c:=⟨k.next.trans h.next,fun r hr=>(k.out r hr).trans (h.out r hr),fun r=>(h.same r).trans (k.same r)⟩
theorem Icy.ic{S S':Nat->Prop}{H H':Hp}(h:Icy S H H'){n:Nat}{v u:AV}(k:zee S' n H v u):zee S' n H' v u:=k.frame (fun _ q=>q) (Nat.le_of_eq h.next.symm) fun r _ _=>h.same r
theorem xJ{S:Nat->Prop}{n:Nat}(ih:∀{v u:AV}{H:Hp},zee S n H v u->∃H',fG n v H=some (u,H')/\Icy S H H'):∀{l m:List AV}{H:Hp},zdW (zee S n H) l m->∃H',iC (fG n) l H=some (m,H')/\Icy S H H'
 |[],[],H,_=>⟨H,rfl,Icy.refl S H⟩
 |a::l,b::m,H,h=>by
  obtain⟨H1,i,g⟩:=ih h.1;obtain⟨Z,o,U⟩:=xJ ih (l:=l) (m:=m) (H:=H1) (h.2.mono fun a b k=>g.ic k);exact⟨Z,by simp only[iC,i,o],g.trans U⟩
theorem zee.ice{S:Nat->Prop}:∀{n:Nat}{v u:AV}{H:Hp},zee S n H v u->∃H',fG n v H=some (u,H')/\Icy S H H'
 |0,_,_,_,h=>h.elim
 |n+1,v,u,H,h=>by
  cases v with
  |sl r V Y z=>
   obtain⟨i,h0,Z,j,K,l,g,M,L,J,rfl⟩:=h;have U:Icy S H (H.set r (.cells Z (max j (V+Y*z)) K)):=by
    refine⟨rfl,fun k O=>by rw[aW,ai (fun e=>O (by rw[e];exact i))],fun k=>?_⟩;rw[aW];split
    .rename_i e;subst e;exact .inr ⟨Z,j,max j (V+Y*z),K,g,rfl,fun _=>ac⟩
    .exact .inl rfl
   obtain⟨H',F,C⟩:=xJ (fun k=>zee.ice k) (J.mono fun a b k=>U.ic k);refine⟨H',?_,U.trans C⟩;have e:fG (n+1) (.sl r V Y z) H=match H.get r with
    |some (.cells Z j K)=>match Nat.ble (V+Y*z) Z.length&&Nat.ble j Z.length with
     |true=>match iC (fG n) ((Z.drop V).take (Y*z)) (H.set r (.cells Z (max j (V+Y*z)) K))with
      |some (l',H)=>some (.lst (jd z Y l'),H)
      |none=>none
     |false=>none
    |_=>none:=rfl
   rw[e,g];have A:Nat.ble (V+Y*z) Z.length=true:=by rw[xH];exact L
   have m:Nat.ble j Z.length=true:=by rw[xH];exact M
   simp only[A,m,qf,F]
  |agg Z=>
   obtain⟨I,i,rfl⟩:=h;obtain⟨H',g,M⟩:=xJ (fun k=>zee.ice k) i;refine⟨H',?_,M⟩;have e:fG (n+1) (.agg Z) H=match iC (fG n) Z H with
    |some (I,H)=>some (.agg I,H)
    |none=>none:=rfl
   rw[e,g]
  |ptr r o=>
   obtain⟨k,O⟩:=h.1;exact absurd (O (k+1) ac H) (by simp[iceV])
  |map r=>
   obtain⟨k,O⟩:=h.1;exact absurd (O (k+1) ac H) (by simp[iceV])
  |_=>exact⟨H,by rw[show u=_ from h.2];rfl,Icy.refl S H⟩
theorem zee.iceL{S:Nat->Prop}{n:Nat}{l m:List AV}{H:Hp}(h:zdW (zee S n H) l m):∃H',iC (fG n) l H=some (m,H')/\Icy S H H':=xJ (fun k=>zee.ice k) h
theorem Bo{S:Nat->Prop}{n:Nat}{H:Hp}(ih:∀{v u:AV},zee S n H v u->∃K,∀m,K<=m->iceV H m v=some u):∀{l k:List AV},zdW (zee S n H) l k->∃K,∀m,K<=m->iceL (iceV H m) l=some k
 |[],[],_=>⟨0,fun _ _=>rfl⟩
 |a::l,b::k,h=>by
  obtain⟨zeW,i⟩:=ih h.1;obtain⟨j,g⟩:=Bo ih (l:=l) (k:=k) h.2;exact⟨max zeW j,fun m M=>by simp only[iceL,i m ac,g m ac]⟩
theorem zee.iceV{S:Nat->Prop}{H:Hp}:∀{n:Nat}{v u:AV},zee S n H v u->∃K,∀m,K<=m->iceV H m v=some u
 |0,_,_,h=>h.elim
 |n+1,v,u,h=>by
  cases v with
  |sl r V Y z=>
   obtain⟨i,A,Z,j,J,l,g,o,h4,U,rfl⟩:=h;obtain⟨K,O⟩:=Bo (fun k=>zee.iceV k) U;refine⟨K+1,fun m M=>?_⟩;obtain⟨m,rfl⟩:∃k,m=k+1:=⟨m-1,ac⟩;have e:Ab.iceV H (m+1) (.sl r V Y z)=match H.get r with
    |some (.cells Z _ _)=>match Ab.iceL (Ab.iceV H m) ((Z.drop V).take (Y*z))with
     |some L=>if L.length=Y*z then some (.lst (jd z Y L))else none
     |none=>none
    |_=>none:=rfl
   have C:l.length=Y*z:=by rw[<-U.len,iX,iD];omega
   rw[e,g];simp only[O m ac,C,bT]
  |agg Z=>
   obtain⟨I,i,rfl⟩:=h;obtain⟨K,O⟩:=Bo (fun k=>zee.iceV k) i;refine⟨K+1,fun m M=>?_⟩;obtain⟨m,rfl⟩:∃k,m=k+1:=⟨m-1,ac⟩;have e:Ab.iceV H (m+1) (.agg Z)=match Ab.iceL (Ab.iceV H m) Z with
    |some I=>some (.agg I)
    |none=>none:=rfl
   rw[e,O m ac]
  |_=>
   obtain⟨k,F⟩:=h.1;exact⟨k,fun m M=>by rw[F m M H,h.2]⟩
theorem chunk_rows(z:Nat):∀(rows:List (List AV)),(∀r∈rows,r.length=z)->jd z rows.length rows.flatten=rows
 |[],_=>rfl
 |r::rows,h=>by
  have i:=h r fh;rw[lA,dq];show(r++rows.flatten).take z::jd z rows.length ((r++rows.flatten).drop z)=_;rw[zr ac,eJ ac,wy ac,zs ac,lX,chunk_rows z rows fun q F=>h q (fp _ F)]
theorem xK{z:Nat}:∀{rows:List (List AV)},(∀r∈rows,r.length=z)->rows.flatten.length=rows.length*z
 |[],_=>by simp
 |r::rows,h=>by
  rw[lA,ep,h r fh,xK fun q F=>h q (fp _ F),dq,p9];omega
theorem zdW.flat{p:AV->AV->Prop}:∀{a b:List (List AV)},zdW (zdW p) a b->zdW p a.flatten b.flatten
 |[],[],_=>trivial
 |_::_,_::_,h=>by rw[lA,lA];exact h.1.append (zdW.flat h.2)
theorem zdW.rowlen{p:AV->AV->Prop}{z:Nat}:∀{a b:List (List AV)},zdW (zdW p) a b->(∀r∈a,r.length=z)->∀r∈b,r.length=z
 |[],[],_,_,r,hr=>by simp at hr
 |x::a,y::b,h,hz,r,hr=>by
  rcases ff.1 hr with rfl|hr
  .rw[<-h.1.len];exact hz x fh
  .exact zdW.rowlen h.2 (fun q F=>hz q (fp _ F)) r hr
theorem zee.rows{S:Nat->Prop}{n:Nat}{H:Hp}{r z imm:Nat}{tip:Bool}{a b:List (List AV)}(hS:S r)(hr:r<H.next)(C:H.get r=some (.cells a.flatten imm tip))(A:imm<=a.flatten.length)(Z:∀x∈a,x.length=z)(h:zdW (zdW (zee S n H)) a b):zee S (n+1) H (.sl r 0 a.length z) (.lst b):=by
 have F:=xK Z;refine⟨hS,hr,a.flatten,imm,tip,b.flatten,C,A,ac,?_,?_⟩
 .rw[dY,eJ ac];exact h.flat
 .rw[h.len,chunk_rows z b (h.rowlen Z)]
theorem bW.wk{G:Gh}(n:Nat):∀{args:List AV}{vs:List Value},bW G args vs->bW G (args.map (bF n)) vs
 |[],vs,h=>h
 |a::l,[],h=>by have:=h.1;simp at this
 |a::l,v::vs,h=>by
  obtain⟨i,g⟩:=h.of_cons;exact jG (i.wk n) (bW.wk n g)
theorem bc.wkA{P:Program}{ρ:Nat->Int}{f:FuncId}{args:List AV}{r:AV}(n:Nat)(h:bc P ρ f (args.map (bF n)) r):bc P ρ f args r:=⟨h.1,fun G w vs i g o=>h.2 G w vs i g (o.wk n)⟩
def jS(e:En):En:=⟨e.f,e.ice,fun args=>e.sp (args.map (bF 60))⟩
theorem qK{P:Program}{ρ:Nat->Int}{e:En}(h:yO P ρ e):yO P ρ (jS e):=fun args r hr=>(h _ r hr).wkA 60
end Go.Ab
namespace Go.Proofs.YtljebeflbbgibaaGreat
set_option maxRecDepth 20000
open Go Go.Ab
def eX(H:Hp)(v:AV)(l:List Int)(lo:Nat):Prop:=∃r j,v=.sl r 0 l.length 1/\H.get r=some (.cells (l.map (.int .i64)) j true)/\j<=l.length/\lo<=r/\r<H.next
def ey(H:Hp)(v:AV)(l:List Int)(lo:Nat):Prop:=(v=.nilS/\l=[])\/eX H v l lo
theorem eX.low{H H':Hp}{v:AV}{l:List Int}{lo:Nat}(h:eX H v l lo)(m:H.next<=H'.next)(C:∀k,lo<=k->k<H.next->H'.get k=H.get k):eX H' v l lo:=by
 obtain⟨r,j,i,g,o,U,Z⟩:=h;exact⟨r,j,i,by rw[C r U Z];exact g,o,U,ac⟩
theorem eX.lt{H:Hp}{v:AV}{l:List Int}{lo:Nat}(h:eX H v l lo){k:Nat}(j:zeG v k):lo<=k/\k<H.next:=by
 obtain⟨r,Z,rfl,_,_,U,i⟩:=h;obtain⟨n,e⟩:=j;simp only[AV.sl.injEq]at e;rw[<-e.1];exact⟨U,i⟩
theorem ey.lt{H:Hp}{v:AV}{l:List Int}{lo:Nat}(h:ey H v l lo){k:Nat}(j:zeG v k):lo<=k/\k<H.next:=by
 rcases h with⟨rfl,_⟩|h
 .obtain⟨n,e⟩:=j;simp at e
 .exact h.lt j
theorem eX.keep{H H':Hp}{v:AV}{l:List Int}{lo:Nat}(h:eX H v l lo)(m:H.next<=H'.next)(C:∀k,zeG v k->H'.get k=H.get k):eX H' v l lo:=by
 obtain⟨r,j,rfl,g,o,U,i⟩:=h;exact⟨r,j,rfl,xF,o,U,ac⟩
theorem ey.keep{H H':Hp}{v:AV}{l:List Int}{lo:Nat}(h:ey H v l lo)(m:H.next<=H'.next)(C:∀k,zeG v k->H'.get k=H.get k):ey H' v l lo:=h.imp id fun h=>h.keep m C
theorem xL(l:List Int):(l.map (AV.int .i64)).all AV.one=true:=by simp[AV.one]
theorem Gq{H:Hp}{r imm:Nat}{m:List Int}(h:H.get r=some (.cells (m.map (.int .i64)) imm true)):zfk H 1 (.sl r 0 m.length 1)=some (m.length,m.map (.int .i64)):=by
 have:=mn (H:=H) (r:=r) (o:=0) (n:=m.length) (z:=1) (s:=1) h aB;rw[this,dY,eJ aB]
theorem Xu{H:Hp}{v x:AV}{l m:List Int}{lo:Nat}(L:ey H v l lo)(Z:lo<=H.next)(I:zfk H 1 x=some (m.length,m.map (.int .i64)))(M:m≠[])(z:l.length+m.length<2^40):
 ∃F H',zeV Tryz.prog false H 23 23 v x=some (F,H')/\eX H' F (l++m) lo/\H'.next=H.next+1/\(∀k,k<lo->H'.get k=H.get k)/\pu v F H H':=by
 obtain⟨n,U⟩:∃n,m.length=n+1:=⟨m.length-1,xG⟩;have o:zeL=70368744177664:=rfl;rw[U]at I;rcases L with⟨rfl,rfl⟩|⟨r,Y,rfl,g,J,C,i⟩
 .refine⟨.sl H.next 0 (n+1) 1,H.alloc (.cells (m.map (.int .i64)) 0 true),append_nil Tryz.underlying23 ju qt qu af I (xL m) rfl jv jv,⟨H.next,0,by simp[U],hC,ac,Z,cP _⟩,rfl,fun k j=>fy,fun k j _=>fy,fun k j=>.inr ?_⟩;obtain⟨K,e⟩:=j;simp only[AV.sl.injEq]at e;omega
 .have O:gw false H 1 (.sl r 0 l.length 1)=H:=by
   unfold gw;simp only[g,bC,cE,gD];have:Nat.blt l.length l.length=false:=by
    cases z:Nat.blt l.length l.length with
    |false=>rfl
    |true=>rw[gQ]at z;omega
   simp[this]
  refine⟨.sl H.next 0 (l.length+(n+1)) 1,(H.kill r).alloc (.cells (l.map (.int .i64)++m.map (.int .i64)) (Y-0) true),?_,⟨H.next,Y,by simp[U],?_,cf,Z,cP _⟩,rfl,fun k j=>?_,fun k j V=>?_,fun k j=>.inr ?_⟩
  .simp only[zeV,Tryz.underlying23,ju,qt,qu,show kG Tryz.prog 23=true by kernel_rfl,I,xL,O,mX,bT,dq,jF,zf5,g,cE,bC,gD,dY];rw[az ⟨jv,jv,trivial,trivial,J⟩];simp
  .show((H.kill r).alloc _).get (H.kill r).next=_
   rw[zdq,az rfl];simp
  .rw[zdq,ai lL,zff,ai ac]
  .rw[zdq,ai lL,zff,ai (fun e=>V ⟨_,lB⟩)]
  .obtain⟨K,e⟩:=j;simp only[AV.sl.injEq]at e;omega
theorem xM{H:Hp}{v:AV}{l:List Int}{lo r imm:Nat}(s:Int)(L:ey H v l lo)(j:lo<=H.next)(K:H.get r=some (.cells [.int .i64 s] imm true))(z:l.length<2^39):
 ∃F H',zeV Tryz.prog false H 23 23 v (.sl r 0 1 1)=some (F,H')/\eX H' F (l++[s]) lo/\H'.next=H.next+1/\(∀k,k<lo->H'.get k=H.get k)/\pu v F H H':=
 Xu L j (Gq (m:=[s]) K) aB cf
theorem eX.len{H H':Hp}{v:AV}{l:List Int}{lo:Nat}(h:eX H v l lo):zdY Tryz.prog H' 23 v=some (.int .i64 l.length):=by
 obtain⟨r,j,rfl,_⟩:=h;exact zfn Tryz.underlying23 _ _ _ _
theorem eX.at{H:Hp}{v:AV}{l:List Int}{lo:Nat}(h:eX H v l lo){i:Nat}(A:i<l.length):
 ∃r,zdV Tryz.prog 23 v (.int .i64 (i:Int))=some (.ptr r i)/\zeX Tryz.prog H 3 (.ptr r i)=some (.int .i64 l[i]):=by
 obtain⟨r,j,rfl,g,_⟩:=h;refine⟨r,?_,?_⟩
 .rw[mj Tryz.underlying23 ju A];simp
 .rw[ql Tryz.underlying3 rfl g,dK,aR A];rfl
theorem Bp(l:List Int):jd 1 l.length (l.map (.int .i64))=l.map fun s=>[AV.int .i64 s]:=by
 induction l with
 |nil=>rfl
 |cons a l ih=>simp[jd,ih]
theorem Gs(n:Nat):∀(l:List Int) (H:Hp),iC (fG (n+1)) (l.map (.int .i64)) H=some (l.map (.int .i64),H)
 |[],H=>rfl
 |a::l,H=>by
  have:=Gs n l H;have e:fG (n+1) (.int .i64 a) H=some (.int .i64 a,H):=rfl;simp only[dL,iC,e,this]
theorem eX.ice{H:Hp}{v:AV}{l:List Int}{lo:Nat}(h:eX H v l lo)(n:Nat):
 ∃H',fG (n+2) v H=some (zel l,H')/\eX H' v l lo/\H'.next=H.next/\(∀k,k<lo->H'.get k=H.get k)/\∀k,¬zeG v k->H'.get k=H.get k:=by
 obtain⟨r,j,rfl,g,o,U,i⟩:=h;refine⟨H.set r (.cells (l.map (.int .i64)) (max j l.length) true),?_,⟨r,max j l.length,rfl,ik,ac,U,i⟩,rfl,fun k Z=>by rw[aW,ai ac],fun k Z=>by rw[aW,ai (fun e=>Z ⟨_,lB⟩)]⟩;have e:fG (n+2) (.sl r 0 l.length 1) H=match H.get r with
  |some (.cells Y j K)=>match Nat.ble (0+l.length*1) Y.length&&Nat.ble j Y.length with
   |true=>match iC (fG (n+1)) ((Y.drop 0).take (l.length*1)) (H.set r (.cells Y (max j (0+l.length*1)) K))with
    |some (O,H)=>some (.lst (jd 1 l.length O),H)
    |none=>none
   |false=>none
  |_=>none:=rfl
 rw[e,g];simp only[cE,bC,gD,dY];have F:Nat.ble l.length l.length=true:=by rw[xH];omega
 have V:Nat.ble j l.length=true:=by rw[xH];omega
 rw[F,V];simp only[qf];rw[eJ aB,Gs];simp only[Bp]
def pw(H:Hp)(v:AV)(l:List Int)(lo:Nat):Prop:=∃r,v=.sl r 0 l.length 1/\H.get r=some (.cells (l.map (.int .i64)) 0 true)/\lo<=r/\r<H.next
def nu(H:Hp)(v:AV)(l:List Int)(lo:Nat):Prop:=(v=.nilS/\l=[])\/pw H v l lo
theorem pw.b{H:Hp}{v:AV}{l:List Int}{lo:Nat}(h:pw H v l lo):eX H v l lo:=by
 obtain⟨r,i,g,o,U⟩:=h;exact⟨r,0,i,g,cG _,o,U⟩
theorem nu.n{H:Hp}{v:AV}{l:List Int}{lo:Nat}(h:nu H v l lo):ey H v l lo:=h.imp id fun h=>h.b
theorem pw.keep{H H':Hp}{v:AV}{l:List Int}{lo:Nat}(h:pw H v l lo)(m:H.next<=H'.next)(C:∀k,zeG v k->H'.get k=H.get k):pw H' v l lo:=by
 obtain⟨r,rfl,g,U,i⟩:=h;exact⟨r,rfl,xF,U,ac⟩
theorem nu.keep{H H':Hp}{v:AV}{l:List Int}{lo:Nat}(h:nu H v l lo)(m:H.next<=H'.next)(C:∀k,zeG v k->H'.get k=H.get k):nu H' v l lo:=h.imp id fun h=>h.keep m C
theorem Xv{H:Hp}{v x:AV}{l m:List Int}{lo:Nat}(L:nu H v l lo)(Z:lo<=H.next)(I:zfk H 1 x=some (m.length,m.map (.int .i64)))(M:m≠[])(z:l.length+m.length<2^40):
 ∃F H',zeV Tryz.prog false H 23 23 v x=some (F,H')/\pw H' F (l++m) lo/\H'.next=H.next+1/\(∀k,k<lo->H'.get k=H.get k)/\pu v F H H':=by
 obtain⟨n,V⟩:∃n,m.length=n+1:=⟨m.length-1,xG⟩;have o:zeL=70368744177664:=rfl;rw[V]at I;rcases L with⟨rfl,rfl⟩|⟨r,rfl,g,K,i⟩
 .refine⟨.sl H.next 0 (n+1) 1,H.alloc (.cells (m.map (.int .i64)) 0 true),append_nil Tryz.underlying23 ju qt qu af I (xL m) rfl jv jv,⟨H.next,by simp[V],hC,Z,cP _⟩,rfl,fun k j=>fy,fun k j _=>fy,fun k j=>.inr ?_⟩;obtain⟨O,e⟩:=j;simp only[AV.sl.injEq]at e;omega
 .have U:gw false H 1 (.sl r 0 l.length 1)=H:=by
   unfold gw;simp only[g,bC,cE,gD];have:Nat.blt l.length l.length=false:=by
    cases z:Nat.blt l.length l.length with
    |false=>rfl
    |true=>rw[gQ]at z;omega
   simp[this]
  refine⟨.sl H.next 0 (l.length+(n+1)) 1,(H.kill r).alloc (.cells (l.map (.int .i64)++m.map (.int .i64)) (0-0) true),?_,⟨H.next,by simp[V],?_,Z,cP _⟩,rfl,fun k j=>?_,fun k j Y=>?_,fun k j=>.inr ?_⟩
  .simp only[zeV,Tryz.underlying23,ju,qt,qu,show kG Tryz.prog 23=true by kernel_rfl,I,xL,U,mX,bT,dq,jF,zf5,g,cE,bC,gD,dY];rw[az ⟨jv,jv,trivial,trivial,cG _⟩];simp
  .show((H.kill r).alloc _).get (H.kill r).next=_
   rw[zdq,az rfl];simp
  .rw[zdq,ai lL,zff,ai ac]
  .rw[zdq,ai lL,zff,ai (fun e=>Y ⟨_,lB⟩)]
  .obtain⟨O,e⟩:=j;simp only[AV.sl.injEq]at e;omega
theorem Xw{H:Hp}{v:AV}{l:List Int}{lo r imm:Nat}(s:Int)(L:nu H v l lo)(j:lo<=H.next)(K:H.get r=some (.cells [.int .i64 s] imm true))(z:l.length<2^39):
 ∃F H',zeV Tryz.prog false H 23 23 v (.sl r 0 1 1)=some (F,H')/\pw H' F (l++[s]) lo/\H'.next=H.next+1/\(∀k,k<lo->H'.get k=H.get k)/\pu v F H H':=
 Xv L j (Gq (m:=[s]) K) aB cf
theorem Xx(n:Nat):gJ [.int .i64 0] n=(List.replicate n (0:Int)).map (.int .i64):=by
 induction n with
 |zero=>rfl
 |succ n ih=>simp only[gJ,ih];simp[qF]
theorem Xy(n:Nat):gJ [.bool false] n=(List.replicate n false).map .bool:=by
 induction n with
 |zero=>rfl
 |succ n ih=>simp only[gJ,ih];simp[qF]
theorem Xz{H:Hp}(n c:Nat)(h:n<=c)(O:c<2^40):ze7 Tryz.prog H 23 (.int .i64 n) (.int .i64 c)=some (.sl H.next 0 n 1,H.alloc (.cells ((List.replicate n (0:Int)).map (.int .i64)) 0 true)):=by
 have M:zeL=70368744177664:=rfl;show ze7 Tryz.prog H 23 (.int .i64 (Int.ofNat n)) (.int .i64 (Int.ofNat c))=_;simp only[ze7,Tryz.underlying23,ju,qt,qu];rw[az ⟨h,jE,jE,rfl⟩,Xx]
theorem Gt{H:Hp}(n:Nat)(O:n<2^40):ze7 Tryz.prog H 121 (.int .i64 n) (.int .i64 n)=some (.sl H.next 0 n 1,H.alloc (.cells ((List.replicate n false).map .bool) 0 true)):=by
 have M:zeL=70368744177664:=rfl;show ze7 Tryz.prog H 121 (.int .i64 (Int.ofNat n)) (.int .i64 (Int.ofNat n))=_;simp only[ze7,Tryz.underlying121,xl,E7,E8];rw[az ⟨aM _,jE,jE,rfl⟩,Xy]
theorem splice_one(cs:List AV){o:Nat}(K:o<cs.length)(x:AV):splice cs o [x]=cs.set o x:=by
 rw[Ev,Gc,az K];simp
theorem uU{H:Hp}{r o:Nat}{cs:List AV}(C:H.get r=some (.cells cs 0 true))(K:o<cs.length)(n:Int):jA Tryz.prog H 3 (.ptr r o) (.int .i64 n)=some (H.set r (.cells (cs.set o (.int .i64 n)) 0 true)):=by
 rw[r8,C,ju,w5,Ab.cells_int,splice_one cs K,az ⟨rfl,cG _,K,rfl⟩]
theorem XA{H:Hp}{r o:Nat}{cs:List AV}(C:H.get r=some (.cells cs 0 true))(K:o<cs.length)(b:Bool):jA Tryz.prog H 4 (.ptr r o) (.bool b)=some (H.set r (.cells (cs.set o (.bool b)) 0 true)):=by
 rw[r8,C,xl,w5,Ew,splice_one cs K,az ⟨rfl,cG _,K,rfl⟩]
def uV(l:List Int):AV:=if l=[]then .nilS else zel l
def mz(H:Hp)(v:AV)(l:List Int)(lo:Nat):Prop:=(v=.nilS/\l=[])\/(l≠[]/\eX H v l lo)
theorem mz.n{H:Hp}{v:AV}{l:List Int}{lo:Nat}(h:mz H v l lo):ey H v l lo:=h.imp id fun h=>h.2
theorem mz.keep{H H':Hp}{v:AV}{l:List Int}{lo:Nat}(h:mz H v l lo)(m:H.next<=H'.next)(C:∀k,zeG v k->H'.get k=H.get k):mz H' v l lo:=h.imp id fun h=>⟨h.1,h.2.keep m C⟩
theorem Gu(H:Hp)(n:Nat):∀l:List Int,iceL (iceV H (n+1)) (l.map (.int .i64))=some (l.map (.int .i64))
 |[]=>rfl
 |a::l=>by
  have:=Gu H n l;have e:iceV H (n+1) (.int .i64 a)=some (.int .i64 a):=rfl;simp only[dL,iceL,e,this]
theorem eX.iceV{H:Hp}{v:AV}{l:List Int}{lo:Nat}(h:eX H v l lo)(n:Nat):iceV H (n+2) v=some (zel l):=by
 obtain⟨r,j,rfl,g,_⟩:=h;have e:Ab.iceV H (n+2) (.sl r 0 l.length 1)=match H.get r with
  |some (.cells Y _ _)=>match iceL (Ab.iceV H (n+1)) ((Y.drop 0).take (l.length*1))with
   |some K=>if K.length=l.length*1 then some (.lst (jd 1 l.length K))else none
   |none=>none
  |_=>none:=rfl
 rw[e,g];simp only[dY,gD];rw[eJ aB,Gu];simp only[cE,bT,Bp]
theorem mz.iceV{H:Hp}{v:AV}{l:List Int}{lo:Nat}(h:mz H v l lo)(n:Nat):iceV H (n+2) v=some (uV l):=by
 rcases h with⟨rfl,rfl⟩|⟨A,h⟩
 .rfl
 .rw[h.iceV,uV,ai A]
theorem XB(n:Nat)(l:List Int):bF (n+2) (uV l)=zel l:=by
 unfold uV;split
 .rename_i h;subst h;rfl
 .show AV.lst ((l.map fun s=>[AV.int .i64 s]).map fun z=>z.map (bF (n+1)))=_;rw[pc];rfl
end Go.Proofs.YtljebeflbbgibaaGreat
namespace Go.Ab
set_option maxRecDepth 20000
open Go
def zeB(op:Int):Int:=if op=2 then 5 else if op=3 then 255 else if op=23\/op=28 then 3 else if op=27 then 1000016 else if op=30 then 7 else if op=31 then 15 else if op=25 then 15 else -1
def zen(op n:Int):Bool:=
 if op=1 then true
 else if zeB op<0 then decide (n=0)
 else decide (0<=n)&&decide (n<=zeB op)&&(!decide (op=27)||decide (0<n))
def zd4(k:List Int):Bool:=k.all fun x=>decide (x=1)
def zd1(b:Bool)(n:Int):Int:=if b then n else 0
def zdU(l:List Nd)(n:Nd)(k:List Int):Int:=
 if (bg n.op).2=false then 0
 else if 0<=(bg n.op).1/\(n.kids.length:Int)≠(bg n.op).1 then 0
 else if zen n.op n.imm=false then 0
 else if n.op=3 then (if n.imm.tmod 16=0 then 2 else 1)
 else if n.op=26 then 2
 else if n.op=22 then (if k.headD 0≠1\/k.getD 1 0≠k.getD 2 0\/k.getD 1 0=3 then 0 else k.getD 1 0)
 else if n.op=23 then zd1 (decide (k.headD 0=2)&&decide (k.getD 1 0=1)) 1
 else if n.op=24 then zd1 (decide (k.headD 0=2)) 1
 else if n.op=25 then (if k.headD 0≠3\/(ki l (n.kids.headD 0)).tdiv 2<=n.imm then 0 else zd1 (decide (n.imm=0)) 1+1)
 else if n.op=27\/n.op=29 then zd1 (decide (k.headD 0=2)&&decide (k.getD 1 0=1)) 2
 else if n.op=28 then zd1 (decide (k.headD 0=2)&&decide (k.getD 1 0=1)&&decide (k.getD 2 0=1)) 2
 else if n.op=30 then zd1 (decide (1<=k.length)&&decide (k.length<=7)&&decide (k.headD 0=2)&&zd4 (k.drop 1)) 2
 else if n.op=31 then zd1 (decide (k.length%2=1)&&decide (1<=k.length/2)&&decide (k.length/2<=16)&&decide (k.headD 0=2)&&zd4 ((k.drop 1).take (k.length/2))&&decide (k.getD (k.length/2+1) 0=2)&&zd4 (k.drop (k.length/2+2))) 3
 else zd1 (zd4 k) 1
def Bq(l:List Nd)(i:Nat)(j:List Int):Int:=match l[i]? with
 |none=>0
 |some n=>match jx i j n.kids with
  |none=>0
  |some s=>zdU l n s
theorem Br:∀(s w:List Int),s.length<=w.length->(∀x∈w,x=1)->zed s w=zd4 s
 |[],w,_,_=>by simp[zed,zd4]
 |a::s,[],h,_=>by simp at h
 |a::s,b::w,h,hw=>by
  have z:=hw b fh;subst z;rw[zed,uz,List.tail_cons,Br s w ja (fun x I=>hw x (fp _ I))];simp[zd4]
theorem xN(a b:Int)(s w:List Int):zed (a::s) (b::w)=(decide (a=b)&&zed s w):=rfl
theorem XC(n m:Nat)(h:m<n):(List.replicate n (1:Int)).set m 2=List.replicate m 1++2::List.replicate (n-m-1) 1:=by
 apply List.ext_getElem?;intro i;rw[o8,List.getElem?_append];simp only[j7];by_cases c:i<m
 .rw[ai ac,az c,pe,pe,az ac,az c]
 .rw[ai c];by_cases e:m=i
  .subst e;simp[h]
  .rw[ai e];obtain⟨j,rfl⟩:∃j,i=m+1+j:=⟨i-m-1,ac⟩;rw[show m+1+j-m=j+1 by omega,uL,pe,pe];by_cases g:m+1+j<n
   .rw[az g,az ac]
   .rw[ai g,ai ac]
theorem Gv:∀(a s w v:List Int),a.length=w.length->zed (a++s) (w++v)=(zed a w&&zed s v)
 |[],s,[],v,_=>by simp[zed]
 |x::a,s,y::w,v,h=>by
  rw[ot,ot,xN,xN,Gv a s w v ja,qG]
 |[],_,_::_,_,h=>by simp at h
 |_::_,_,[],_,h=>jp
theorem sK(n:Nat)(h:1<=n):dR n=((n-1)/2:Nat):=by
 unfold dR;rw[show(n:Int)-1=((n-1:Nat):Int) by omega];rfl
theorem XD(s:List Int)(h:3<=s.length)(J:s.length%2=1):zed s (iL s.length)=(decide (s.headD 0=2)&&zd4 ((s.drop 1).take (s.length/2))&&decide (s.getD (s.length/2+1) 0=2)&&zd4 (s.drop (s.length/2+2))):=by
 obtain⟨m,M⟩:∃m,s.length=2*m+1:=⟨s.length/2,ac⟩;have U:1<=m:=ac;have Y:s.length/2=m:=ac;have C:(dR s.length+1).toNat=m+1:=by rw[sK _ ac];omega
 have F:iL s.length=2::(List.replicate m 1++2::List.replicate (m-1) 1):=by
  unfold iL;rw[C,M];have L:List.replicate (2*m+1) (1:Int)=1::List.replicate (2*m) 1:=rfl;rw[L,Bj,List.set_cons_succ,XC _ _ ac]
  congr 4;omega
 rw[F,Y]
 match s,M with
 |a::t,M=>
  have A:t.length=2*m:=rZ;rw[xN,uz,uM,dY];have hd:t=t.take m++t.drop m:=(List.take_append_drop m t).symm;have I:(t.take m).length=m:=rV
  conv=>lhs;rw[hd]
  rw[Gv _ _ _ _ (by rw[I];simp),Br (t.take m) _ (by rw[I];simp) (fun x Z=>Gd Z)];have K:(a::t).getD (m+1) 0=t.getD m 0:=rfl;have O:(a::t).drop (m+2)=t.drop (m+1):=rfl;rw[K,O];have V:t.drop m=t.getD m 0::t.drop (m+1):=by
   rw[fq ac,cS,aR ac];rfl
  rw[V,xN,Br (t.drop (m+1)) _ cf (fun x Z=>Gd Z),qG,qG]
theorem px{U:Type}{s:List U}(h:s.length=0):s=[]:=Bk h
theorem lO{U:Type}{s:List U}(h:s.length=1):∃a,s=[a]:=by
 match s,h with
 |[a],_=>exact⟨a,rfl⟩
theorem mA{U:Type}{s:List U}(h:s.length=2):∃a b,s=[a,b]:=by
 match s,h with
 |[a,b],_=>exact⟨a,b,rfl⟩
theorem oz{U:Type}{s:List U}(h:s.length=3):∃a b c,s=[a,b,c]:=by
 match s,h with
 |[a,b,c],_=>exact⟨a,b,c,rfl⟩
theorem XE{l:List Nd}{n:Nd}{s:List Int}(F:s.length=n.kids.length)(Z:∀x∈s,1<=x/\x<=3)(h3:s.headD 0=3->n.op=25->∃m:Nat,ki l (n.kids.headD 0)=2*(m:Int)+1/\1<=m/\m<=16):
 (if zd2 n.op s&&zeh l n then zey n s else 0)=zdU l n s:=by
 obtain⟨K,j,V⟩:=n;simp only at F h3;have Y:∀a:Int,0<=a->bg K=(a,true)->(s.length:Int)≠a->(if zd2 K s&&zeh l ⟨K,j,V⟩then zey ⟨K,j,V⟩ s else 0)=zdU l ⟨K,j,V⟩ s:=fun a h0 J A=>by
  have I:zd2 K s=false:=by
   unfold zd2;rw[J];simp only[ls,cn];rw[az ⟨h0,Ne.symm A⟩]
  have C:zdU l ⟨K,j,V⟩ s=0:=by
   unfold zdU;simp only[J,ls,cn];rw[az ⟨h0,by rw[<-F];exact A⟩]
  rw[I,C];rfl
 have cases:K<1\/31<K\/K=1\/K=2\/K=3\/(4<=K/\K<=19)\/K=20\/K=21\/K=22\/K=23\/K=24\/K=25\/K=26\/K=27\/K=28\/K=29\/K=30\/K=31:=ac;rcases cases with h|h|rfl|rfl|rfl|h|rfl|rfl|rfl|rfl|rfl|rfl|rfl|rfl|rfl|rfl|rfl|rfl
 .have J:bg K=(0,false):=by
   unfold bg;repeat rw[ai ac]
  simp[zd2,zdU,J]
 .have J:bg K=(0,false):=by
   unfold bg;repeat rw[ai ac]
  simp[zd2,zdU,J]
 -- 1
 .by_cases c:(s.length:Int)=0
  .obtain rfl:=px (s:=s) ac;have:V=[]:=px jH;subst this;simp[zd2,zdU,bg,zeh,zen,zey,zed,zet,zd4,zd1]
  .exact Y 0 ac dk c
 -- 2
 .by_cases c:(s.length:Int)=0
  .obtain rfl:=px (s:=s) ac;have:V=[]:=px jH;subst this;by_cases b:0<=j/\j<=5
   .have b1:=b.1;have O:=b.2;simp[zd2,zdU,bg,zeh,zen,zeC,zeB,zey,zed,zet,zd4,zd1,b1,O]
   .simp[zd2,zdU,bg,zeh,zen,zeC,zeB,zey,zed,zet,zd4,zd1];omega
  .exact Y 0 ac dk c
 -- 3
 .by_cases c:(s.length:Int)=0
  .obtain rfl:=px (s:=s) ac;have:V=[]:=px jH;subst this;by_cases b:0<=j/\j<=255
   .have b1:=b.1;have O:=b.2;by_cases e:j.tmod 16=0<;>simp[zd2,zdU,bg,zeh,zen,zeC,zeB,zey,zed,zet,zd4,zd1,b1,O,e]
   .simp[zd2,zdU,bg,zeh,zen,zeC,zeB,zey,zed,zet,zd4,zd1];omega
  .exact Y 0 ac dk c
 -- 4 to 19
 .obtain⟨g1,g2⟩:=h;have q:∀k:Int,(k<4\/19<k)->¬K=k:=fun k Z e=>ac;have J:bg K=(2,true):=by
   unfold bg;rw[ai ac,ai ac,ai ac,ai ac,ai ac,az ⟨g1,g2⟩]
  have t:∀k:Int,(k<4\/19<k)->decide (K=k)=false:=fun k Z=>cX (q k Z);by_cases c:(s.length:Int)=2
  .obtain⟨a,b,rfl⟩:=mA (s:=s) ac;obtain⟨x,y,rfl⟩:=mA (s:=V) jH;have m0:zeB K=-1:=by unfold zeB;rw[ai (q 2 ac),ai (q 3 ac),ai ac,ai (q 27 ac),ai (q 30 ac),ai (q 31 ac),ai (q 25 ac)]
   have zeW:zeC l ⟨K,j,[x,y]⟩=0:=by unfold zeC;simp only[];rw[ai (q 2 ac),ai (q 3 ac),ai ac,ai (q 30 ac),ai (q 31 ac),ai (q 25 ac)]
   have m2:zet K=[1,1]:=by unfold zet;rw[ai (q 22 ac),ai ac,ai (q 28 ac),ai (q 24 ac),ai (q 25 ac)]
   have m3:zey ⟨K,j,[x,y]⟩ [a,b]=1:=by unfold zey;simp only[];rw[ai (q 31 ac),ai ac,ai (q 22 ac),ai (fun e=>q 3 ac e.1),ai (fun e=>q 25 ac e.1)]
   have I:zd2 K [a,b]=(decide (a=1)&&decide (b=1)):=by
    unfold zd2;rw[J];simp only[ls,cn];rw[ai aB,ai (q 31 ac),ai (q 30 ac),ai (fun e=>q 22 ac e.1),m2];simp[zed]
   have C:zeh l ⟨K,j,[x,y]⟩=decide (j=0):=by
    unfold zeh;simp only[];rw[ai (q 1 ac),ai (q 27 ac),zeW];by_cases z:j=0
    .simp[z]
    .simp[z];omega
   have e3:zen K j=decide (j=0):=by
    unfold zen;rw[ai (q 1 ac),m0];rfl
   have e4:zdU l ⟨K,j,[x,y]⟩ [a,b]=if j=0 then zd1 (zd4 [a,b]) 1 else 0:=by
    unfold zdU;simp only[J,e3,ls,cn];rw[ai aB];by_cases z:j=0
    .rw[ai (by simp[z]),ai (q 3 ac),ai (q 26 ac),ai (q 22 ac),ai (q 23 ac),ai (q 24 ac),ai (q 25 ac),ai ac,ai (q 28 ac),ai (q 30 ac),ai (q 31 ac),az z]
    .rw[az (by simp[z]),ai z]
   rw[I,C,e4,m3];by_cases z:j=0
   .simp[z,zd1,zd4]
   .simp[z]
  .exact Y 2 ac J c
 -- 20
 .by_cases c:(s.length:Int)=1
  .obtain⟨a,rfl⟩:=lO (s:=s) ac;obtain⟨x,rfl⟩:=lO (s:=V) jH;have U:=Z a aB;by_cases b:j=0
   .subst b;simp[zd2,zdU,bg,zeh,zen,zeC,zeB,zey,zed,zet,zd4,zd1]
   .have O:¬(0<=j/\j<=0):=by omega
    simp[zd2,zdU,bg,zeh,zen,zeC,zeB,zey,zed,zet,zd4,zd1,b];omega
  .exact Y 1 ac dk c
 -- 21
 .by_cases c:(s.length:Int)=1
  .obtain⟨a,rfl⟩:=lO (s:=s) ac;obtain⟨x,rfl⟩:=lO (s:=V) jH;have U:=Z a aB;by_cases b:j=0
   .subst b;simp[zd2,zdU,bg,zeh,zen,zeC,zeB,zey,zed,zet,zd4,zd1]
   .have O:¬(0<=j/\j<=0):=by omega
    simp[zd2,zdU,bg,zeh,zen,zeC,zeB,zey,zed,zet,zd4,zd1,b];omega
  .exact Y 1 ac dk c
 -- 22
 .by_cases c:(s.length:Int)=3
  .obtain⟨a,b,c1,rfl⟩:=oz (s:=s) ac;obtain⟨x,y,z,rfl⟩:=oz (s:=V) jH;have U:=Z a aB;have kb:=Z b aB;have kc:=Z c1 aB;by_cases z:j=0
   .subst z;have ka':a=1\/a=2\/a=3:=ac;have kb':b=1\/b=2\/b=3:=ac;have kc':c1=1\/c1=2\/c1=3:=ac;rcases ka' with rfl|rfl|rfl<;>rcases kb' with rfl|rfl|rfl<;>rcases kc' with rfl|rfl|rfl<;>simp[zd2,zdU,bg,zeh,zen,zeC,zeB,zey,zed,zet,zd4,zd1]
   .simp[zd2,zdU,bg,zeh,zen,zeC,zeB,zey,zed,zet,zd4,zd1,z];omega
  .exact Y 3 ac dk c
 -- 23
 .by_cases c:(s.length:Int)=2
  .obtain⟨a,b,rfl⟩:=mA (s:=s) ac;obtain⟨x,y,rfl⟩:=mA (s:=V) jH;have U:=Z a aB;have kb:=Z b aB;by_cases z:0<=j/\j<=3
   .have i:=z.1;have g:=z.2;simp[zd2,zdU,bg,zeh,zen,zeC,zeB,zey,zed,zet,zd4,zd1,i,g]
   .have M:¬(0<=j)\/¬(j<=3):=by omega
    rcases M with M|M <;>simp[zd2,zdU,bg,zeh,zen,zeC,zeB,zey,zed,zet,zd4,zd1,M]
  .exact Y 2 ac dk c
 -- 24
 .by_cases c:(s.length:Int)=1
  .obtain⟨a,rfl⟩:=lO (s:=s) ac;obtain⟨x,rfl⟩:=lO (s:=V) jH;have U:=Z a aB;by_cases b:j=0
   .subst b;simp[zd2,zdU,bg,zeh,zen,zeC,zeB,zey,zed,zet,zd4,zd1]
   .have O:¬(0<=j/\j<=0):=by omega
    simp[zd2,zdU,bg,zeh,zen,zeC,zeB,zey,zed,zet,zd4,zd1,b];omega
  .exact Y 1 ac dk c
 -- 25
 .by_cases c:(s.length:Int)=1
  .obtain⟨a,rfl⟩:=lO (s:=s) ac;obtain⟨x,rfl⟩:=lO (s:=V) jH;have U:=Z a aB;by_cases e:a=3
   .subst e;obtain⟨m,hm,zeW,m2⟩:=h3 rfl rfl;simp only[uz]at hm;have l1:dR (ki l x)=m:=by rw[hm];unfold dR;rw[show(2*(m:Int)+1-1)=((2*m:Nat):Int) by omega];show(((2*m)/2:Nat):Int)=m;omega
    have l2:(ki l x).tdiv 2=m:=by rw[hm];show(((2*m+1)/2:Nat):Int)=m;omega
    by_cases z:0<=j/\j<=(m:Int)-1
    .have i:=z.1;have g:=z.2;have z3:j<=15:=ac;have L:¬(m:Int)<=j:=ac;by_cases y:j=0
     .subst y;simp[zd2,zdU,bg,zeh,zen,zeC,zeB,zey,zed,zet,zd4,zd1,l1,l2,g,L];rw[az ac,ai ac]
     .simp[zd2,zdU,bg,zeh,zen,zeC,zeB,zey,zed,zet,zd4,zd1,l1,l2,i,g,z3,L,y]
    .by_cases i:0<=j
     .have g:¬j<=(m:Int)-1:=by omega
      have L:(m:Int)<=j:=ac;simp[zd2,zdU,bg,zeh,zen,zeC,zeB,zey,zed,zet,zd4,zd1,l1,l2,i,g,L]
     .simp[zd2,zdU,bg,zeh,zen,zeC,zeB,zey,zed,zet,zd4,zd1,l1,l2,i]
   .simp[zd2,zdU,bg,zeh,zen,zeC,zeB,zey,zed,zet,zd4,zd1,e]
  .exact Y 1 ac dk c
 -- 26
 .by_cases c:(s.length:Int)=0
  .obtain rfl:=px (s:=s) ac;have:V=[]:=px jH;subst this;by_cases b:j=0
   .subst b;simp[zd2,zdU,bg,zeh,zen,zeC,zeB,zey,zed,zet,zd4,zd1]
   .have O:¬(0<=j/\j<=0):=by omega
    simp[zd2,zdU,bg,zeh,zen,zeC,zeB,zey,zed,zet,zd4,zd1,b];omega
  .exact Y 0 ac dk c
 -- 27
 .by_cases c:(s.length:Int)=2
  .obtain⟨a,b,rfl⟩:=mA (s:=s) ac;obtain⟨x,y,rfl⟩:=mA (s:=V) jH;have U:=Z a aB;have kb:=Z b aB;by_cases z:1<=j/\j<=1000016
   .have i:=z.1;have g:=z.2;have z3:0<=j:=ac;have L:0<j:=ac;simp[zd2,zdU,bg,zeh,zen,zeC,zeB,zey,zed,zet,zd4,zd1,i,g,z3,L]
   .have M:¬(1<=j)\/¬(j<=1000016):=by omega
    rcases M with M|M
    .have L:¬0<j:=by omega
     simp[zd2,zdU,bg,zeh,zen,zeC,zeB,zey,zed,zet,zd4,zd1,M,L]
    .simp[zd2,zdU,bg,zeh,zen,zeC,zeB,zey,zed,zet,zd4,zd1,M]
  .exact Y 2 ac dk c
 -- 28
 .by_cases c:(s.length:Int)=3
  .obtain⟨a,b,c1,rfl⟩:=oz (s:=s) ac;obtain⟨x,y,z,rfl⟩:=oz (s:=V) jH;have U:=Z a aB;have kb:=Z b aB;have kc:=Z c1 aB;by_cases z:0<=j/\j<=3
   .have i:=z.1;have g:=z.2;simp[zd2,zdU,bg,zeh,zen,zeC,zeB,zey,zed,zet,zd4,zd1,i,g,qG]
   .have M:¬(0<=j)\/¬(j<=3):=by omega
    rcases M with M|M <;>simp[zd2,zdU,bg,zeh,zen,zeC,zeB,zey,zed,zet,zd4,zd1,M]
  .exact Y 3 ac dk c
 -- 29
 .by_cases c:(s.length:Int)=2
  .obtain⟨a,b,rfl⟩:=mA (s:=s) ac;obtain⟨x,y,rfl⟩:=mA (s:=V) jH;have U:=Z a aB;have kb:=Z b aB;by_cases b:j=0
   .subst b;simp[zd2,zdU,bg,zeh,zen,zeC,zeB,zey,zed,zet,zd4,zd1]
   .have O:¬(0<=j/\j<=0):=by omega
    simp[zd2,zdU,bg,zeh,zen,zeC,zeB,zey,zed,zet,zd4,zd1,b];omega
  .exact Y 2 ac dk c
 -- 30
 .have I:zd2 30 s=(decide (1<=s.length)&&decide (s.length<=7)&&decide (s.headD 0=2)&&zd4 (s.drop 1)):=by
   simp[zd2,bg,zd4,List.drop_one]
  have C:zdU l ⟨30,j,V⟩ s=if zen 30 j=false then 0 else zd1 (decide (1<=s.length)&&decide (s.length<=7)&&decide (s.headD 0=2)&&zd4 (s.drop 1)) 2:=by
   simp[zdU,bg]
  have e3:zeh l ⟨30,j,V⟩=zen 30 j:=by simp[zeh,zen,zeC,zeB]
  rw[I,C,e3];generalize (decide (1<=s.length)&&decide (s.length<=7)&&decide (s.headD 0=2)&&zd4 (s.drop 1))=v;cases zen 30 j<;>cases v<;>simp[zey,zd1]
 -- 31
 .have e3:zeh l ⟨31,j,V⟩=zen 31 j:=by simp[zeh,zen,zeC,zeB]
  have C:zdU l ⟨31,j,V⟩ s=if zen 31 j=false then 0 else zd1 (decide (s.length%2=1)&&decide (1<=s.length/2)&&decide (s.length/2<=16)&&decide (s.headD 0=2)&&zd4 ((s.drop 1).take (s.length/2))&&decide (s.getD (s.length/2+1) 0=2)&&zd4 (s.drop (s.length/2+2))) 3:=by
   simp[zdU,bg]
  have I:zd2 31 s=(decide (s.length%2=1)&&decide (1<=s.length/2)&&decide (s.length/2<=16)&&decide (s.headD 0=2)&&zd4 ((s.drop 1).take (s.length/2))&&decide (s.getD (s.length/2+1) 0=2)&&zd4 (s.drop (s.length/2+2))):=by
   have e:zd2 31 s=(decide (3<=s.length)&&decide (s.length%2=1)&&decide (dR s.length<=16)&&zed s (iL s.length)):=by simp[zd2,bg]
   rw[e];by_cases p:3<=s.length
   .by_cases o:s.length%2=1
    .rw[XD s p o,sK _ ac];have t1:1<=s.length/2:=ac;have t2:decide ((((s.length-1)/2:Nat):Int)<=16)=decide (s.length/2<=16):=by
      rw[kR];omega
     rw[t2];simp only[cF p,cF o,cF t1,dw,qG]
    .simp only[cX o,sI]
   .have p2:decide (3<=s.length)=false:=cX p;rw[p2];simp only[dZ]
    symm
    by_cases o:s.length%2=1
    .have:¬1<=s.length/2:=by omega
     simp only[cX this,sI]
    .simp only[cX o,dZ]
  rw[I,C,e3];generalize (decide (s.length%2=1)&&decide (1<=s.length/2)&&decide (s.length/2<=16)&&decide (s.headD 0=2)&&zd4 ((s.drop 1).take (s.length/2))&&decide (s.getD (s.length/2+1) 0=2)&&zd4 (s.drop (s.length/2+2)))=v;cases zen 31 j<;>cases v<;>simp[zey,zd1]
theorem XF(n:Nd){s:List Int}(L:zd2 n.op s=true)(j:∀x∈s,1<=x/\x<=3):1<=zey n s/\zey n s<=3:=by
 unfold zey;by_cases M:n.op=22
 .rw[ai ac,ai ac,az M];have o:s.length=3:=by
   unfold zd2 at L;rw[M]at L;have:bg 22=(3,true):=dk;rw[this]at L;simp only[ls,cn]at L;by_cases e:(0:Int)<=3/\(3:Int)≠s.length
   .rw[az e]at L;cases L
   .omega
  obtain⟨a,b,c,rfl⟩:=oz o;exact j b aB
 .split
  .omega
  .split
   .omega
   .split
    .omega
    .split
     .omega
     .omega
theorem xO{i:Nat}{Z:List Int}(hr:∀j,Z.getD j 0=0\/1<=Z.getD j 0/\Z.getD j 0<=3):∀{U s:List Int},jx i Z U=some s->∀x∈s,1<=x/\x<=3
 |[],s,h,x,I=>by cases h;simp at I
 |a::U,s,h,x,I=>by
  rw[jx]at h;split at h
  .cases h
  .rename_i c;obtain⟨t,Y,rfl⟩:=mR.1 h;rcases ff.1 I with rfl|I
   .rcases hr a.toNat with e|e
    .omega
    .exact e
   .exact xO hr Y x I
theorem XG{l:List Nd}{i:Nat}{Z:List Int}(hr:∀j,Z.getD j 0=0\/1<=Z.getD j 0/\Z.getD j 0<=3):jV l i Z=0\/1<=jV l i Z/\jV l i Z<=3:=by
 unfold jV;split
 .left;rfl
 .split
  .left;rfl
  .rename_i n m s K;split
   .rename_i c;rw[dC]at c
    right;exact XF _ c.1 (xO hr K)
   .left;rfl
theorem Bt(l:List Nd):∀(i j:Nat),(zd0 l i).getD j 0=0\/1<=(zd0 l i).getD j 0/\(zd0 l i).getD j 0<=3
 |0,j=>by left;simp[zd0]
 |i+1,j=>by
  by_cases h:j<i+1
  .rw[uB l h];exact XG (Bt l j)
  .left
   rw[cS,fg pf];rfl
theorem XH{l:List Nd}{i:Nat}{Z:List Int}(hr:∀j,Z.getD j 0=0\/1<=Z.getD j 0/\Z.getD j 0<=3)(h:jV l i Z=3):∃m:Nat,ki l i=2*(m:Int)+1/\1<=m/\m<=16:=by
 unfold jV at h;split at h
 .cases h
 .rename_i n Y;split at h
  .cases h
  .rename_i s K;split at h
   .rename_i c;rw[dC]at c;have F:=pg K;have U:=xO hr K;have c1:=c.1;have o:n.op=31:=by
     by_cases e:n.op=31
     .exact e
     .exfalso;unfold zey at h;rw[ai e]at h;split at h
      .omega
      .split at h
       .rename_i M;unfold zd2 at c1;rw[M]at c1;have:bg 22=(3,true):=dk;rw[this]at c1;simp only[ls,cn]at c1;by_cases e:(0:Int)<=3/\(3:Int)≠s.length
        .rw[az e]at c1;cases c1
        .obtain⟨a,b,c,rfl⟩:=oz (s:=s) ac;have z:b=3:=h;subst z;simp[zed,zet]at c1
       .split at h
        .omega
        .split at h<;>omega
    rw[o]at c1;simp only[zd2,bg]at c1;simp at c1;have c2:=c1.1;have O:=c2.1.1;have L:=c2.1.2;have V:=c2.2;rw[sK _ ac]at V;refine⟨s.length/2,?_,ac,ac⟩;unfold ki;rw[dQ,Y];simp only;omega
   .cases h
theorem XI{l:List Nd}{i:Nat}(A:i<=l.length):Bq l i (zd0 l i)=jV l i (zd0 l i):=by
 unfold Bq jV;cases m:l[i]? with
 |none=>rfl
 |some n=>
  simp only;cases K:jx i (zd0 l i) n.kids with
  |none=>rfl
  |some s=>
   simp only;refine(XE (pg K) (xO (Bt l i) K) fun o Z=>?_).symm;have F:=pg K;cases j:n.kids with
   |nil=>
    rw[j]at F K;cases K;simp at o
   |cons k U=>
    rw[j]at K;have M:=so K k fh;rw[jx]at K;split at K
    .cases K
    .obtain⟨t,I,rfl⟩:=mR.1 K;rw[uz]at o⊢;obtain⟨k,rfl⟩:=eL M.1;rw[dQ,uB l ac]at o;exact XH (Bt l k) o
end Go.Ab
namespace Go.Proofs.YtljebeflbbgibaaGreat
set_option maxRecDepth 20000
open Go Go.Ab
section
def tyR3b.tyF:=ad @b9 (ad @dA (ad @iM (ad @iN (ad @gF (ad @jM (@cN))))))
open tyR3b
mutual
def iQ:Ex->Nat
 | .mk _ _ _ _ U=>qL U
def qL:List Ex->Nat
 |[]=>0
 |e::es=>max (1+iQ e) (qL es)
end
def uW(x:Ex):List AV:=[.agg x.cells]
theorem XJ(x y:Ex)(h:uW x=uW y):x=y:=by simp only[uW,cR,AV.agg.injEq,aX]at h;exact Ex.inj h
mutual
def n1:St->Nat
 | .mk _ _ _ _ _ _ _ A C=>1+zfd A+zfd C
def zfd:List St->Nat
 |[]=>0
 |x::l=>n1 x+zfd l
end
mutual
def zft:St->Nat
 | .mk k _ _ _ _ _ _ A C=>(if k=4 then 1 else 0)+zfb A+zfb C
def zfb:List St->Nat
 |[]=>0
 |x::l=>zft x+zfb l
end
mutual
def zeW:St->Nat->Nat
 | .mk _ _ _ _ _ _ _ A C,d=>max d (max (zfM A (d+1)) (zfM C (d+1)))
def zfM:List St->Nat->Nat
 |[],_=>0
 |x::l,d=>max (zeW x d) (zfM l d)
end
theorem ze3{z:Int}(h1:-9223372036854775808<=z)(h2:z<9223372036854775808):IntKind.wrap .i64 z=z:=qa _ ac
theorem XK(a b c:AV):Ab.extract (.tup [a,b,c]) 0=some a:=rfl
theorem XL(a b c:AV):Ab.extract (.tup [a,b,c]) 1=some b:=rfl
theorem XM(a b c:AV):Ab.extract (.tup [a,b,c]) 2=some c:=rfl
end
section
def tyI1.tyF:=ad @b9 (ad @ea (@mZ))
open tyI1
noncomputable def Gw:{c:SC // aC 31 (Tryz.f191.body.getD .skip)=c}:=by
 refine⟨?_,?_⟩;rotate_left
 .simp only[Tryz.f191,a5,aC,zdG,zdD,zdH,zdI,Nat.blt,Nat.ble];rfl
noncomputable def Gx:{c:SC // aC 6 (Tryz.f148.body.getD .skip)=c}:=by
 refine⟨?_,?_⟩;rotate_left
 .simp only[Tryz.f148,a5,aC,zdG,zdD,zdH,zdI,Nat.blt,Nat.ble];rfl
noncomputable def Gy:{c:SC // aC 22 (Tryz.f194.body.getD .skip)=c}:=by
 refine⟨?_,?_⟩;rotate_left
 .simp only[Tryz.f194,a5,aC,zdG,zdD,zdH,zdI,Nat.blt,Nat.ble];rfl
noncomputable def Gz:{c:SC // aC 21 (Tryz.f192.body.getD .skip)=c}:=by
 refine⟨?_,?_⟩;rotate_left
 .simp only[Tryz.f192,a5,aC,zdG,zdD,zdH,zdI,Nat.blt,Nat.ble];rfl
noncomputable def GA:{c:SC // aC 21 (Tryz.f193.body.getD .skip)=c}:=by
 refine⟨?_,?_⟩;rotate_left
 .simp only[Tryz.f193,a5,aC,zdG,zdD,zdH,zdI,Nat.blt,Nat.ble];rfl
def ez(op:Int):AV:=.tup [.int .i64 (bg op).1,.bool (bg op).2]
theorem GB(op:Int):ee (ez op):=.tup (.cons (.int _ _) (.cons (.bool _) .nil))
theorem XN(ρ:Nat->Int)(op:Int):bc Tryz.prog ρ 191 [.int .i64 op] (ez op):=zer fit (pls:=pls) (l:=[]) trivial (.cons (.int _ _) .nil) (GB op) (by
 have J:=yl 191;refine zdv (M:=31) (rs:=[.tmp 2,.tmp 3]) (J.call _) J.ice J.froz Tryz.func191 rfl rfl Gw.2 rfl ?_;dsimp only[Gw,zds,Nat.reduceAdd];repeat' (first
  |(apply zdk ?_;clear hK K)|apply Rx.o ?_|(apply bZ (fun C L=>?_) (fun C L=>?_)<;>try(cases C;done))|(apply aS (fun z V=>?_) (fun z V=>?_)<;>try(cases z;done))|apply ak ?_|(apply zdl fun K hK=>?_)|apply au ?_|apply zdm ?_|apply am ?_)
 all_goals
  refine⟨eI,_,dG,?_⟩;try simp only[zdn]
  first
  |(simp_all[ez,bg];done)
  |(unfold ez bg;rw[ai ac,ai ac,ai ac,ai ac,ai ac,ai ac];done))
theorem Bu(n:Nat):(0:Int)<=dR n/\dR n<=n:=by
 by_cases h:n=0
 .subst h;decide
 .rw[sK n ac];omega
theorem XO(ρ:Nat->Int)(n:Nat)(m:n<2^60):bc Tryz.prog ρ 148 [.int .i64 n] (.int .i64 (dR n)):=zer fit (pls:=pls) (l:=[]) trivial (.cons (.int _ _) .nil) (.int _ _) (by
 have J:=yl 148;have F:(2:Int)≠0:=dk;have Z:IntKind.wrap .i64 ((n:Int)-1)=(n:Int)-1:=ze3 ac ac;refine zdv (M:=6) (rs:=[.tmp 2]) (J.call _) J.ice J.froz Tryz.func148 rfl rfl Gx.2 rfl ?_;dsimp only[Gx,zds,Nat.reduceAdd];repeat' (first
  |(apply zdk ?_;clear hK K)|apply Rx.o ?_|apply ak ?_|(apply zdl fun K hK=>?_)|apply am ?_)
 all_goals (refine⟨eI,_,eR,?_⟩;try simp only[zdn])
 rw[dR];rw[ze3 (by have:=(Bu n).1;unfold dR at this;omega) (by have:=(Bu n).2;unfold dR at this;omega)])
theorem XP(H:Hp)(a b c:Int):zeP Tryz.prog H 23 3 [(0,.int .i64 a),(1,.int .i64 b),(2,.int .i64 c)]=some (.sl H.next 0 3 1,H.alloc (.cells [.int .i64 a,.int .i64 b,.int .i64 c] 0 true)):=af
theorem XQ(H:Hp)(a b:Int):zeP Tryz.prog H 23 2 [(0,.int .i64 a),(1,.int .i64 b)]=some (.sl H.next 0 2 1,H.alloc (.cells [.int .i64 a,.int .i64 b] 0 true)):=af
theorem uX(H:Hp)(a:Int):zeP Tryz.prog H 23 1 [(0,.int .i64 a)]=some (.sl H.next 0 1 1,H.alloc (.cells [.int .i64 a] 0 true)):=af
theorem XR(ρ:Nat->Int)(op:Int):bc Tryz.prog ρ 194 [.int .i64 op] (zel (zet op)):=zgb (m:=3) (cfg:=zdp pls []) fit (lE ρ) (fun f args r h=>by simp[zdp,zem]at h) (.cons (.int _ _) .nil) (by
 have J:=yl 194;refine zdv (M:=22) (rs:=[.tmp 2]) (J.call _) J.ice J.froz Tryz.func194 rfl rfl Gy.2 rfl ?_;dsimp only[Gy,zds,Nat.reduceAdd];have j:=@XP;have Z:=@XQ;have Y:=@uX;repeat' (first
  |(apply zdk ?_;clear hK K)|apply Rx.o ?_|(apply aS (fun z V=>?_) (fun z V=>?_)<;>try(cases z;done))|apply ak ?_|(apply zdl fun K hK=>?_)|apply au ?_|apply zdm ?_|apply am ?_)
 all_goals
  all_goals (refine⟨eI,_,eR,?_⟩;try simp only[zdn])
  simp_all[zet];rfl)
theorem XS(s w:List Int)(i:Nat)(A:i<s.length)(F:s.length<=w.length):zed (s.drop i) (w.drop i)=(decide (s.getD i 0=w.getD i 0)&&zed (s.drop (i+1)) (w.drop (i+1))):=by
 rw[fq A,fq (l:=w) ac,zed];simp[cS,aR A,aR (show i<w.length by omega)]
def qM(x:List Int×List Int):List AV:=[zel x.1,zel x.2]
theorem uY{a b:List Int}(h:zel a=zel b):a=b:=by
 simp only[zel,AV.lst.injEq]at h;exact FZ h
theorem XT(x y:List Int×List Int)(h:qM x=qM y):x=y:=by
 simp only[qM,cR,aX]at h;exact jQ (uY h.1) (uY h.2)
theorem XU(ρ:Nat->Int)(x:List Int×List Int)(I:x.1.length<=x.2.length/\x.2.length<2^60):bc Tryz.prog ρ 192 (qM x) (.bool (zed x.1 x.2)):=zer fit (pls:=pls) (l:=[]) trivial (.cons (pn _) (.cons (pn _) .nil)) (.bool _) (by
 obtain⟨s,w⟩:=x;obtain⟨F,z⟩:=I;simp only[]at F z;have J:=yl 192;rw[qM];simp only[];refine zdv (M:=21) (rs:=[.tmp 4]) (J.call _) J.ice J.froz Tryz.func192 rfl rfl Gz.2 rfl ?_;dsimp only[Gz,zds,Nat.reduceAdd];repeat' (first
  |(apply zdk ?_;clear hK K)|apply Rx.o ?_|apply ak ?_|(apply zdl fun K hK=>?_)|apply au ?_|fail)
 refine zef [0,1] [] 5 s.length (fun i E H=>zed s w=zed (s.drop i) (w.drop i)) eE aB ?_;rintro i E g A j m U C L;(try simp only[zdO,zdF,aX,zdy,zdJ,Nat.reduceBEq, *]at j);(try simp only[zdF, *]at m);(try simp only[zec,]at U);repeat' (first
  |(apply zdk ?_;clear hK K)|apply Rx.o ?_|(apply aS (fun z V=>?_) (fun z V=>?_)<;>try(cases z;done))|apply ak ?_|(apply zdl fun K hK=>?_)|(apply zdL 4 [(3,9),(7,9)] fun K hK=>?_)|(apply zdK ?_;try intro _)|apply bl ?_|apply au ?_|apply zdm ?_|apply am ?_|apply zdr ?_)
 .have o:i<s.length:=by simpa using z
  have Y:s[i]?=some s[i]:=aR o;have O:w[i]?=some w[i]:=aR ac;have Z:=XS s w i o F;repeat' (first
   |(apply zdk ?_;clear hK K)|apply Rx.o ?_|(apply aS (fun z V=>?_) (fun z V=>?_)<;>try(cases z;done))|apply ak ?_|(apply zdl fun K hK=>?_)|(apply zdK ?_;try intro _)|(apply zdM ?_ ?_<;>clear hK K)|apply bl ?_|apply zdm ?_|apply am ?_|fail)
  .exact zdR
  .all_goals (refine⟨eI,_,eR,?_⟩;try simp only[zdn])
   rw[L,Z,cS,cS,Y,O];simp_all
  .refine⟨ac,zdz,zdz,eN,sH,?_⟩;rw[L,Z,cS,cS,Y,O];simp_all
 .all_goals (refine⟨eI,_,eR,?_⟩;try simp only[zdn])
  rw[L,show i=s.length by simp at z;omega,jR];rfl)
noncomputable def Bv:En:=⟨191,false,b7 (fun _=>True) (fun n:Int=>[.int .i64 n]) ez⟩
theorem XV(ρ:Nat->Int):yO Tryz.prog ρ Bv:=zei fun n _=>XN ρ n
theorem xP(x y:Int)(h:([.int .i64 x]:List AV)=[.int .i64 y]):x=y:=ja
def qN(n:Nat):List AV:=[.int .i64 n]
theorem GC(x y:Nat)(h:qN x=qN y):x=y:=by
 simp only[qN,cR,AV.int.injEq,aX,fR]at h;omega
noncomputable def ny:En:=⟨148,false,b7 (fun n=>n<2^60) qN fun n=>.int .i64 (dR n)⟩
theorem xQ(ρ:Nat->Int):yO Tryz.prog ρ ny:=zei fun n m=>XO ρ n m
theorem sL{l:List En}(F:∀C,zem l 148 C=ny.sp C)(n:Nat)(m:n<2^60)(H:Hp):zdw Tryz.prog (zdp pls l) 148 [.int .i64 n] H fun v H'=>v=.int .i64 (dR n)/\H'=H:=
 zeq (enc:=qN) (ok:=fun n=>n<2^60) (out:=fun n=>.int .i64 (dR n)) GC (x:=n) (F _) m
noncomputable def Bw:En:=⟨194,false,b7 (fun _=>True) (fun n:Int=>[.int .i64 n]) fun n=>zel (zet n)⟩
theorem XW(ρ:Nat->Int):yO Tryz.prog ρ Bw:=zei fun n _=>XR ρ n
def sM(x:List Int×List Int):Prop:=x.1.length<=x.2.length/\x.2.length<2^60
noncomputable def Bx:En:=⟨192,false,b7 sM qM fun x=>.bool (zed x.1 x.2)⟩
theorem XX(ρ:Nat->Int):yO Tryz.prog ρ Bx:=zei fun x I=>XU ρ x I
theorem XY(ρ:Nat->Int)(n:Nat)(h3:3<=n)(hn:n<2^30):bc Tryz.prog ρ 193 [.int .i64 n] (zel (iL n)):=zgb (m:=3) (cfg:=zdp pls [ny]) fit (lE ρ) (fk.look ⟨xQ ρ,trivial⟩) (.cons (.int _ _) .nil) (by
 have J:Plain (zdp pls [ny]) 193:=zej (fun _=>rfl) rfl;have hlv:=sK n ac;refine zdv (M:=21) (rs:=[.tmp 2]) (J.call _) J.ice J.froz Tryz.func193 rfl rfl GA.2 rfl ?_;dsimp only[GA,zds,Nat.reduceAdd];repeat' (first
  |(apply zdk ?_;clear hK K)|apply Rx.o ?_|apply ak ?_|(apply zdl fun K hK=>?_)|apply au ?_|fail)
 have g:∀i,(List.replicate i (1:Int)).length=i:=fun i=>j7;have o:(zdp pls [ny]).keep 193=false:=rfl;refine zef [0,2] [] 4 n (fun i E H=>∃v,E.at 3=v/\nu H v (List.replicate i 1) 0) eE ⟨.nilS,eE,.inl ⟨rfl,rfl⟩⟩ ?_;rintro i E Z hi j Y U hsI ⟨v,k3,L⟩;(try simp only[zdO,zdF,aX,zdy,zdJ,Nat.reduceBEq, *]at j);(try simp only[zdF, *]at Y);(try simp only[zec,]at U);repeat' (first
  |(apply zdk ?_;clear hK K)|apply Rx.o ?_|(apply aS (fun z V=>?_) (fun z V=>?_)<;>try(cases z;done))|apply ak ?_|(apply zdl fun K hK=>?_)|apply au ?_|apply zdm ?_|apply zdr ?_)
 .have hlt:i<n:=by simpa using z
  have gh0:=@uX;repeat' (first
   |apply Rx.o ?_|fail)
  have I:nu (Z.alloc (.cells [.int .i64 1] 0 true)) v (List.replicate i 1) 0:=L.keep (fQ _) fun k hk=>by rw[zdq,ai (by have:=(L.n.lt hk).2;omega)]
  obtain⟨v5,H5,zeD,s5,n5,f5,o5⟩:=Xw (r:=Z.next) (imm:=0) 1 I (cG _) gO tX;refine od zeM zeM uO ?_;repeat' (first
   |(apply zdk ?_;clear hK K)|apply Rx.o ?_|(apply zdl fun K hK=>?_)|fail)
  refine⟨ac,zdz,zdz,eN,(by simp only[zdy,Nat.reduceBEq, *];exact zfq (n:=n) ac ac),?_⟩;exact⟨v5,eE,.inr (by rw[List.replicate_succ'];exact s5)⟩
 .have F:i=n:=by simp at z;omega
  subst F;rcases L with⟨_,h⟩|⟨r,O,h2,_,h4⟩
  .have:=kL List.length h;rw[g]at this;simp at this;omega
  subst O;rw[g]at k3;have C:((List.replicate i (1:Int)).map (AV.int .i64)).length=i:=aB;generalize A:(List.replicate i (1:Int)).map (AV.int .i64)=cs at h2 C;have hi1:0<i:=ac;have hi2:(i-1)/2+1<i:=ac;have e1:IntKind.wrap .i64 (((i-1)/2:Nat)+1)=(((i-1)/2+1:Nat):Int):=ze3 ac ac;repeat' (first
   |apply Ry.o ?_|(apply bL ?_;first|refine Rx.k (sL (fun _=>rfl) _ ac _) ?_)|fail)
  refine mY zeM zeM (uU h2 ac 2) ?_;repeat' (first
   |apply Ry.o ?_|fail)
  refine mY zeM zeM (uU ik (by rw[mg];omega) 2) ?_;repeat' (first
   |(apply zdk ?_;clear hK K)|apply Rx.o ?_|apply ak ?_|(apply zdl fun K hK=>?_)|apply am ?_|fail)
  all_goals (refine⟨eI,_,eR,?_⟩;try simp only[zdn])
  have hll:(iL i).length=i:=by simp[iL]
  have z:eX ((Z.set r (.cells (cs.set 0 (.int .i64 2)) 0 true)).set r (.cells ((cs.set 0 (.int .i64 2)).set ((i-1)/2+1) (.int .i64 2)) 0 true)) (.sl r 0 (iL i).length 1) (iL i) 0:=⟨r,0,rfl,by
   rw[aW,az rfl,iL,oy,oy,A,show(dR i+1).toNat=(i-1)/2+1 by omega],cG _,cG _,h4⟩
  have:=z.iceV 1;rw[hll]at this;exact this)
noncomputable def By:En:=⟨193,false,b7 (fun n=>3<=n/\n<2^30) qN fun n=>zel (iL n)⟩
theorem XZ(ρ:Nat->Int):yO Tryz.prog ρ By:=zei fun n m=>XY ρ n m.1 m.2
end
section
def tyI2.tyF:=ad @cN (ad @b9 (ad @ea (ad @eV (ad @eO (@qk)))))
open tyI2
noncomputable def GD:{c:SC // aC 53 (Tryz.f168.body.getD .skip)=c}:=by
 refine⟨?_,?_⟩;rotate_left
 .simp only[Tryz.f168,a5,aC,zdG,zdD,zdH,zdI,Nat.blt,Nat.ble];rfl
noncomputable def kw:{c:SC // aC 106 (Tryz.f167.body.getD .skip)=c}:=by
 refine⟨?_,?_⟩;rotate_left
 .simp only[Tryz.f167,a5,aC,zdG,zdD,zdH,zdI,Nat.blt,Nat.ble];rfl
noncomputable def Bz:List En:=[Bv,ny,Bw,Bx,By]
theorem GE(ρ:Nat->Int):fk Tryz.prog ρ Bz:=⟨XV ρ,xQ ρ,XW ρ,XX ρ,XZ ρ,trivial⟩
abbrev zeu(l:List Nd):AV:=.lst (l.map Nd.cells)
theorem zfV(l:List Nd):ee (zeu l):=.map fun x _=>x.pure
theorem uZ{a b:List Nd}(h:zeu a=zeu b):a=b:=by
 simp only[zeu,AV.lst.injEq]at h;exact zfO (fun _ _ _=>nl) h
def u0(x:List Nd×Nd):Prop:=x.2.op=25->∃(k:Nat) (m:Nd),x.2.kids[0]?=some (k:Int)/\x.1[k]?=some m/\m.kids.length<2^60
def qO(x:List Nd×Nd):List AV:=[zeu x.1,.agg x.2.cells]
theorem X0(x y:List Nd×Nd)(h:qO x=qO y):x=y:=by
 simp only[qO,cR,AV.agg.injEq,aX]at h;exact jQ (uZ h.1) (nl h.2)
theorem X1(ρ:Nat->Int)(x:List Nd×Nd)(I:u0 x):bc Tryz.prog ρ 168 (qO x) (.bool (zeh x.1 x.2)):=zer fit (pls:=pls) (GE ρ) (.cons (zfV _) (.cons (.agg (qE _)) .nil)) (.bool _) (by
 obtain⟨l,n⟩:=x;have J:Plain (zdp pls Bz) 168:=zej (fun _=>rfl) rfl;unfold u0 at I;rw[qO];simp only[]at I⊢;refine zdv (M:=53) (rs:=[.tmp 4]) (J.call _) J.ice J.froz Tryz.func168 rfl rfl GD.2 rfl ?_;dsimp only[GD,zds,Nat.reduceAdd];repeat' (first
  |(apply zdk ?_;clear hK K)|apply Rx.o ?_|(apply bZ (fun C L=>?_) (fun C L=>?_)<;>try(cases C;done))|(apply aS (fun z V=>?_) (fun z V=>?_)<;>try(cases z;done))|apply ak ?_|(apply zdl fun K hK=>?_)|apply au ?_|apply zdm ?_|apply am ?_)
 all_goals (first|(refine⟨eI,_,eR,?_⟩;(try simp only[zdn]);clear I;simp_all[zeh,zeC]<;>omega;done)|skip)
 all_goals trace_state
 have Z:n.op=25:=il;obtain⟨k,m,i,g,o⟩:=I Z;have Y:n.kids.headD 0=k:=by
  cases j:n.kids with
  |nil=>rw[j]at i;simp at i
  |cons a b=>rw[j]at i;simpa using i
 have U:ki l (n.kids.headD 0)=m.kids.length:=by rw[Y,ki,dQ,g]
 have O:=Bu m.kids.length;have F:IntKind.wrap .i64 (dR m.kids.length-1)=dR m.kids.length-1:=ze3 ac ac;repeat' (first
  |(apply zdk ?_;clear hK K)|apply Ry.o ?_|(apply bL ?_;first|refine Rx.k (sL (fun _=>rfl) _ ac _) ?_)|(apply a2 (fun C L=>?_) (fun C L=>?_)<;>try(cases C;done))|apply ak ?_|(apply zdl fun K hK=>?_)|apply am ?_)
 all_goals (first|(refine⟨eI,_,eR,?_⟩;(try simp only[zdn]);clear I;simp_all[zeh,zeC]<;>omega;done)|skip)
 all_goals trace_state)
noncomputable def GF:En:=⟨168,true,b7 u0 qO fun x=>.bool (zeh x.1 x.2)⟩
theorem X2(ρ:Nat->Int):yO Tryz.prog ρ GF:=zei fun x I=>X1 ρ x I
theorem GG(a:Int)(s:List Int):jk Tryz.prog 23 (.lst ((a::s).map fun n=>[AV.int .i64 n])) (some (.int .i64 1)) none=some (.lst (s.map fun n=>[AV.int .i64 n])):=by
 have Z:(1:Int)=Int.ofNat 1:=rfl;simp only[jk,Tryz.underlying23,ju,ze1];rw[az ⟨aB,aM _⟩];rw[eJ aB];cases s with
 |nil=>rfl
 |cons b s=>rfl
theorem X3(op:Int)(A:0<=(bg op).1):(bg op).1<=(zet op).length:=by
 unfold bg at A⊢;unfold zet;repeat' split
 all_goals (first|(simp;done)|omega|(simp_all;done))
def py(x:Nd×List Int):List AV:=[.agg x.1.cells,zel x.2]
theorem X4(x y:Nd×List Int)(h:py x=py y):x=y:=by
 simp only[py,cR,AV.agg.injEq,aX]at h;exact jQ (nl h.1) (uY h.2)
theorem qP{l:List En}(F:∀C,zem l 191 C=Bv.sp C)(n:Int)(H:Hp):zdw Tryz.prog (zdp pls l) 191 [.int .i64 n] H fun v H'=>v=ez n/\H'=H:=
 zeq (enc:=fun n:Int=>[.int .i64 n]) (ok:=fun _=>True) (out:=ez) xP (x:=n) (F _) trivial
theorem GH{l:List En}(F:∀C,zem l 194 C=Bw.sp C)(n:Int)(H:Hp):zdw Tryz.prog (zdp pls l) 194 [.int .i64 n] H fun v H'=>v=zel (zet n)/\H'=H:=
 zeq (enc:=fun n:Int=>[.int .i64 n]) (ok:=fun _=>True) (out:=fun n=>zel (zet n)) xP (x:=n) (F _) trivial
theorem X5{l:List En}(F:∀C,zem l 193 C=By.sp C)(n:Nat)(m:3<=n/\n<2^30)(H:Hp):zdw Tryz.prog (zdp pls l) 193 [.int .i64 n] H fun v H'=>v=zel (iL n)/\H'=H:=
 zeq (enc:=qN) (ok:=fun n=>3<=n/\n<2^30) (out:=fun n=>zel (iL n)) GC (x:=n) (F _) m
theorem BA{l:List En}(F:∀C,zem l 192 C=Bx.sp C)(s w:List Int)(h:sM (s,w))(H:Hp):zdw Tryz.prog (zdp pls l) 192 [zel s,zel w] H fun v H'=>v=.bool (zed s w)/\H'=H:=
 zeq (enc:=qM) (ok:=sM) (out:=fun x=>.bool (zed x.1 x.2)) XT (x:=(s,w)) (F _) h
theorem mB(a b:AV):Ab.extract (.tup [a,b]) 0=some a:=rfl
theorem mC(a b:AV):Ab.extract (.tup [a,b]) 1=some b:=rfl
theorem X6(s:List Int):zd2 31 s=(decide ((3:Int)<=s.length)&&decide ((s.length:Int).tmod 2=1)&&decide (dR s.length<=16)&&zed s (iL s.length)):=by
 have I:(s.length:Int).tmod 2=((s.length%2:Nat):Int):=Gb;have Z:decide ((s.length:Int).tmod 2=1)=decide (s.length%2=1):=by rw[I];exact kR.2 ac
 have C:decide ((3:Int)<=s.length)=decide (3<=s.length):=kR.2 ac;rw[Z,C];rfl
theorem xR(a:Int)(s:List Int):zd2 30 (a::s)=(!decide ((7:Int)<((s.length+1:Nat):Int))&&decide (a=2)&&s.all fun x=>decide (x=1)):=by
 have Z:(!decide ((7:Int)<((s.length+1:Nat):Int)))=decide ((a::s).length<=7):=by
  rw[<-uP];exact kR.2 Bh
 have C:decide (1<=(a::s).length)=true:=aB;rw[Z];show(decide (1<=(a::s).length)&&decide ((a::s).length<=7)&&decide (a=2)&&s.all fun x=>decide (x=1))=_;rw[C,dw]
theorem X7(a b c:Int):zd2 22 [a,b,c]=if b=2 then (decide (a=1)&&decide (c=2))else zed [a,b,c] [1,1,1]:=by
 have e:zd2 22 [a,b,c]=if (22:Int)=22/\b=2 then (decide (a=1)&&decide (c=2))else zed [a,b,c] [1,1,1]:=rfl
 rw[e];simp
theorem X8{op:Int}(s:List Int)(h:(bg op).2=false):zd2 op s=false:=by rw[zd2,az h]
theorem BB{op:Int}{s:List Int}(h:0<=(bg op).1)(h2:(bg op).1≠s.length):zd2 op s=false:=by
 unfold zd2;split
 .rfl
 .rw[az ⟨h,h2⟩]
theorem X9{op:Int}{s:List Int}(h:(bg op).2=true)(h2:(bg op).1=s.length)(h1:op≠31)(o:op≠30)(U:op≠22):zd2 op s=zed s (zet op):=by
 unfold zd2;rw[ai (by rw[h];simp),ai (fun k=>k.2 h2),ai h1,ai o,ai (fun k=>U k.1)]
theorem GI(op:Int):(zet op).length<=3:=by
 unfold zet;repeat' split
 all_goals decide
theorem GJ{op:Int}(h1:op≠31)(o:op≠30):0<=(bg op).1:=by
 unfold bg;repeat' split
 all_goals (first|decide|omega)
theorem Ya(ρ:Nat->Int)(x:Nd×List Int)(hx:x.2.length<2^30):bc Tryz.prog ρ 167 (py x) (.bool (zd2 x.1.op x.2)):=zer fit (pls:=pls) (GE ρ) (.cons (.agg (qE _)) (.cons (pn _) .nil)) (.bool _) (by
 obtain⟨⟨Z,imm,kids⟩,s⟩:=x;have J:Plain (zdp pls Bz) 167:=zej (fun _=>rfl) rfl;rw[py];simp only[Nd.cells]at hx⊢;have hq:(2:Int)≠0:=dk;by_cases U:Z=31
 .subst U;have hv:ez 31=.tup [.int .i64 (-1),.bool true]:=rfl;have A:sM (s,iL s.length):=⟨by simp[iL],by simp[iL];omega⟩;refine zdv (M:=106) (rs:=[.tmp 4]) (J.call _) J.ice J.froz Tryz.func167 rfl rfl kw.2 rfl ?_;dsimp only[kw,zds,Nat.reduceAdd];have j:=@mB;have m:=@mC;repeat' (first
   |(apply zdk ?_;clear hK K)|apply Ry.o ?_|(apply bL ?_;first|refine Rx.k (qP (fun _=>rfl) _ _) ?_|refine Rx.k (sL (fun _=>rfl) _ ac _) ?_|refine Rx.k (X5 (fun _=>rfl) _ ac _) ?_|refine Rx.k (BA (fun _=>rfl) _ _ A _) ?_)|(apply a2 (fun C L=>?_) (fun C L=>?_)<;>try(cases C;done))|(apply aD (fun z V=>?_) (fun z V=>?_)<;>try(cases z;done))|apply ak ?_|(apply zdl fun K hK=>?_)|apply au ?_|apply zdm ?_|apply am ?_|fail)
  all_goals
   refine⟨eI,_,dG,?_⟩;try simp only[zdn]
   rw[X6];(try simp only[fl]at *);simp only[ *,qI,xI,]
 by_cases o:Z=30
 .subst o;have hv:ez 30=.tup [.int .i64 (-1),.bool true]:=rfl;cases s with
  |nil=>
   refine zdv (M:=106) (rs:=[.tmp 4]) (J.call _) J.ice J.froz Tryz.func167 rfl rfl kw.2 rfl ?_;dsimp only[kw,zds,Nat.reduceAdd];have j:=@mB;have m:=@mC;repeat' (first
    |(apply zdk ?_;clear hK K)|apply Ry.o ?_|(apply bL ?_;first|refine Rx.k (qP (fun _=>rfl) _ _) ?_)|(apply a2 (fun C L=>?_) (fun C L=>?_)<;>try(cases C;done))|(apply aD (fun z V=>?_) (fun z V=>?_)<;>try(cases z;done))|apply ak ?_|(apply zdl fun K hK=>?_)|apply au ?_|apply zdm ?_|apply am ?_|fail)
   all_goals (refine⟨eI,_,eR,?_⟩;try simp only[zdn])
   rfl
  |cons a s=>
   have hsl:=GG a s;simp only[dq]at hx;refine zdv (M:=106) (rs:=[.tmp 4]) (J.call _) J.ice J.froz Tryz.func167 rfl rfl kw.2 rfl ?_;dsimp only[kw,zds,Nat.reduceAdd];have j:=@mB;have m:=@mC;repeat' (first
    |(apply zdk ?_;clear hK K)|apply Ry.o ?_|(apply bL ?_;first|refine Rx.k (qP (fun _=>rfl) _ _) ?_)|(apply a2 (fun C L=>?_) (fun C L=>?_)<;>try(cases C;done))|(apply aD (fun z V=>?_) (fun z V=>?_)<;>try(cases z;done))|apply ak ?_|(apply zdl fun K hK=>?_)|apply au ?_|apply zdm ?_|apply am ?_|fail)
   .all_goals (refine⟨eI,_,eR,?_⟩;try simp only[zdn])
    rw[xR];(try simp only[l7]at *);simp only[ *,gA,sI,gX,]
   .refine zef [1,2,72,73] [] 74 s.length (fun i E H=>(s.all fun x=>decide (x=1))=(s.drop i).all fun x=>decide (x=1)) eE aB ?_;rintro i E H2 hi hcE hrH hnH hsI hJ;(try simp only[zdO,zdF,aX,zdy,zdJ,Nat.reduceBEq, *]at hcE);(try simp only[zdF,zdJ, *]at hrH);(try simp only[zdA,zec,bC]at hnH);repeat' (first
     |(apply zdk ?_;clear hK K)|apply Rx.o ?_|(apply aS (fun z V=>?_) (fun z V=>?_)<;>try(cases z;done))|apply ak ?_|(apply zdl fun K hK=>?_)|apply au ?_|apply zdm ?_|apply am ?_|apply zdr ?_)
    .have O:i<s.length:=by simpa using z
     have hgx:s[i]?=some s[i]:=aR O;have I:((s.drop i).all fun x=>decide (x=1))=(decide (s[i]=1)&&(s.drop (i+1)).all fun x=>decide (x=1)):=by rw[fq O,ox]
     repeat' (first
      |(apply zdk ?_;clear hK K)|apply Rx.o ?_|(apply aS (fun z V=>?_) (fun z V=>?_)<;>try(cases z;done))|apply ak ?_|(apply zdl fun K hK=>?_)|apply zdm ?_|apply am ?_|fail)
     .all_goals (refine⟨eI,_,eR,?_⟩;try simp only[zdn])
      rw[xR,hJ,I];(try simp only[fl]at *);simp only[ *,gA,sI,j6,gX,]
     .refine⟨ac,zdz,zdz,eN,sH,?_⟩;rw[hJ,I];(try simp only[qH]at *);simp only[*,dw,]
    .repeat' (first
      |(apply zdk ?_;clear hK K)|fail)
     all_goals (refine⟨eI,_,eR,?_⟩;try simp only[zdn])
     rw[show i=s.length by simp at z;omega,jR]at hJ;have hJ2:(s.all fun x=>decide (x=1))=true:=hJ;rw[xR,hJ2];(try simp only[qH]at *);simp only[*,gA,j6,gX,]
   .all_goals (refine⟨eI,_,eR,?_⟩;try simp only[zdn])
    rw[xR];(try simp only[fl]at *);simp only[*,ll,dZ,lC,]
 have F:=GJ U o;cases Y:(bg Z).2 with
 |false=>
  have hv:ez Z=.tup [.int .i64 (bg Z).1,.bool false]:=by rw[ez,Y]
  refine zdv (M:=106) (rs:=[.tmp 4]) (J.call _) J.ice J.froz Tryz.func167 rfl rfl kw.2 rfl ?_;dsimp only[kw,zds,Nat.reduceAdd];have j:=@mB;have m:=@mC;repeat' (first
   |(apply zdk ?_;clear hK K)|apply Ry.o ?_|(apply bL ?_;first|refine Rx.k (qP (fun _=>rfl) _ _) ?_)|apply Ry.gu ?_|(apply a2 (fun C L=>?_) (fun C L=>?_)<;>try(cases C;done))|(apply aD (fun z V=>?_) (fun z V=>?_)<;>try(cases z;done))|apply ak ?_|(apply zdl fun K hK=>?_)|apply am ?_|fail)
  all_goals
   refine⟨eI,_,dG,?_⟩;try simp only[zdn]
   rw[X8 s Y]
 |true=>
  by_cases g:(bg Z).1=s.length
  .have hv:ez Z=.tup [.int .i64 s.length,.bool true]:=by rw[ez,Y,g]
   by_cases h22:Z=22
   .subst h22;obtain⟨a,b,c,rfl⟩:=oz (s:=s) (by have e:(bg 22).1=3:=rfl;rw[e]at g;omega);have A:sM ([a,b,c],zet 22):=⟨aM _,by have:=GI 22;simp only[];omega⟩;refine zdv (M:=106) (rs:=[.tmp 4]) (J.call _) J.ice J.froz Tryz.func167 rfl rfl kw.2 rfl ?_;dsimp only[kw,zds,Nat.reduceAdd];have j:=@mB;have m:=@mC;repeat' (first
     |(apply zdk ?_;clear hK K)|apply Ry.o ?_|(apply bL ?_;first|refine Rx.k (qP (fun _=>rfl) _ _) ?_|refine Rx.k (GH (fun _=>rfl) _ _) ?_|refine Rx.k (BA (fun _=>rfl) _ _ A _) ?_)|(apply a2 (fun C L=>?_) (fun C L=>?_)<;>try(cases C;done))|(apply aD (fun z V=>?_) (fun z V=>?_)<;>try(cases z;done))|apply ak ?_|(apply zdl fun K hK=>?_)|apply au ?_|apply zdm ?_|apply am ?_|fail)
    all_goals
     refine⟨eI,_,dG,?_⟩;try simp only[zdn]
     rw[X7];first
     |(simp_all;done)
     |(rw[ai il];rfl)
   .have A:sM (s,zet Z):=⟨by have:=X3 Z F;simp only[];omega,by have:=GI Z;simp only[];omega⟩;have hl0:(0:Int)<=s.length:=ac;refine zdv (M:=106) (rs:=[.tmp 4]) (J.call _) J.ice J.froz Tryz.func167 rfl rfl kw.2 rfl ?_;dsimp only[kw,zds,Nat.reduceAdd];have j:=@mB;have m:=@mC;repeat' (first
     |(apply zdk ?_;clear hK K)|apply Ry.o ?_|(apply bL ?_;first|refine Rx.k (qP (fun _=>rfl) _ _) ?_|refine Rx.k (GH (fun _=>rfl) _ _) ?_|refine Rx.k (BA (fun _=>rfl) _ _ A _) ?_)|(apply a2 (fun C L=>?_) (fun C L=>?_)<;>try(cases C;done))|(apply aD (fun z V=>?_) (fun z V=>?_)<;>try(cases z;done))|apply ak ?_|(apply zdl fun K hK=>?_)|apply au ?_|apply zdm ?_|apply am ?_|fail)
    all_goals
     refine⟨eI,_,dG,?_⟩;try simp only[zdn]
     rw[X9 Y g U o h22]
  .have hv:ez Z=.tup [.int .i64 (bg Z).1,.bool true]:=by rw[ez,Y]
   refine zdv (M:=106) (rs:=[.tmp 4]) (J.call _) J.ice J.froz Tryz.func167 rfl rfl kw.2 rfl ?_;dsimp only[kw,zds,Nat.reduceAdd];have j:=@mB;have m:=@mC;repeat' (first
    |(apply zdk ?_;clear hK K)|apply Ry.o ?_|(apply bL ?_;first|refine Rx.k (qP (fun _=>rfl) _ _) ?_)|(apply a2 (fun C L=>?_) (fun C L=>?_)<;>try(cases C;done))|(apply aD (fun z V=>?_) (fun z V=>?_)<;>try(cases z;done))|apply ak ?_|(apply zdl fun K hK=>?_)|apply am ?_|fail)
   all_goals
    refine⟨eI,_,dG,?_⟩;try simp only[zdn]
    rw[BB F g])
end
def jf:Nat->AV->Bool
 |0,_=>false
 |n+1,v=>match v with
  | .sl _ _ _ _=>true
  | .agg Y=>Y.any (jf n)
  |_=>false
theorem xS{S:Nat->Prop}{H:Hp}{n m k:Nat}(ih:∀{v u:AV},zee S n H v u->jf m (bF k v)=false->bF k u=bF k v):∀{Y I:List AV},zdW (zee S n H) Y I->(Y.map (bF k)).any (jf m)=false->I.map (bF k)=Y.map (bF k)
 |[],[],_,_=>rfl
 |c::Y,d::I,h,h2=>by
  simp only[dL,nn,lw]at h2;rw[dL,dL,ih h.1 h2.1,xS ih h.2 h2.2]
theorem BC{S:Nat->Prop}{H:Hp}:∀(n m k:Nat) {v u:AV},n<=m->zee S n H v u->jf m (bF k v)=false->bF k u=bF k v
 |0,_,_,_,_,_,h,_=>h.elim
 |n+1,0,_,_,_,h,_,_=>by omega
 |n+1,m+1,k,v,u,hm,h,h2=>by
  cases v with
  |sl r o l z=>cases k<;>simp[bF,jf]at h2
  |agg Y=>
   obtain⟨I,V,rfl⟩:=h;cases k with
   |zero=>
    have e:∀v,bF 0 v=v:=fun v=>by cases v<;>rfl
    have Z:(Y.map (bF 0)).any (jf m)=false:=by
     rw[show Y.map (bF 0)=Y by rw[show bF 0=id from funext e,List.map_id]];simpa [bF,jf]using h2
    have:=xS (k:=0) (fun U i=>BC n m 0 ac U i) V Z;rw[show bF 0=id from funext e,List.map_id,List.map_id]at this;rw[this]
   |succ k=>
    have Z:(Y.map (bF k)).any (jf m)=false:=by simpa [bF,jf]using h2
    show AV.agg (I.map (bF k))=AV.agg (Y.map (bF k));rw[xS (fun U i=>BC n m k ac U i) V Z]
  |_=>obtain⟨_,rfl⟩:=h;rfl
theorem qQ{l:List En}{fn:FuncId}{U:Type}{ok:U->Prop}{enc:U->List AV}{out:U->AV}(j:∀x y,enc x=enc y->x=y)(F:∀C,zem l fn C=b7 ok enc out (C.map (bF 60)))(A:ir l fn=true)(g:∀y,(enc y).any (jf 90)=false){x:U}(I:ok x){S:Nat->Prop}{n:Nat}(Y:n<=90){H:Hp}{args us:List AV}(h1:zdW (zee S n H) args us)(h2:us.map (bF 60)=enc x):
 zdw Tryz.prog (zdp pls l) fn args H fun v H'=>v=out x/\Icy S H H':=by
 by_cases hd:∃y,ok y/\enc y=args.map (bF 60)
 .obtain⟨y,_,e⟩:=hd;have o:us.map (bF 60)=args.map (bF 60):=xS (m:=90) (fun Z i=>BC n 90 60 Y Z i) h1 (by rw[<-e];exact g y);refine a9 ?_ (Bg (r:=out x) (by show zem l fn args=_;rw[F,<-o,h2];exact Bf j I));rintro v H' ⟨rfl,rfl⟩;exact⟨rfl,Icy.refl _ _⟩
 .obtain⟨H',Z,i⟩:=zee.iceL (n:=100) (l:=args) (m:=us) (zdW.mono (fun a b k=>zee.up k ac) h1);refine El (r:=out x) ?_ A rfl Z ?_ ⟨rfl,i⟩
  .show zem l fn args=none;rw[F];exact FY fun y O e=>hd ⟨y,O,e⟩
  .show zem l fn us=_;rw[F,h2];exact Bf j I
theorem sN{P:Program}{cfg:Cfg}{f N:Nat}{a:SC}{E:ax}{H:Hp}{Q:AX->ax->Hp->Prop}(F:ax->Hp->Prop)(h1:zdX P cfg f N a E H fun x E' H'=>x=.normal/\F E' H')(h2:∀E' H',F E' H'->Q .normal E' H'):zdX P cfg f N a E H Q:=
 zdX.mono (fun x E' H' h=>by obtain⟨rfl,h⟩:=h;exact h2 E' H' h) h1
end Go.Proofs.YtljebeflbbgibaaGreat
