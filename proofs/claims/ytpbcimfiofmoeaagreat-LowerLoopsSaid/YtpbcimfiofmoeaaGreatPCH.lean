/- Parts: R3a, Strs, AbWk, AbCut, AbIc, Ints, Bytes, SpecI, SpecR, R3b, I1, I2, V1, EnX, I3, SpecV, V2, V3, V4, R3c. -/
import Derived.Test.YtpbcimfiofmoeaaGreatPCG
set_option linter.unusedSimpArgs false
set_option linter.unusedVariables false
set_option linter.unusedSectionVars false
set_option linter.defProp false
set_option maxHeartbeats 32000000
namespace Go.Ab
set_option maxRecDepth 20000
open Go
theorem DY{P:Prop}(h:P:=by rw[List.drop_eq_getElem_cons O];rfl):P:=h
theorem Ap{P:Prop}(h:P:=by rw[J r ⟨_,rfl⟩];exact g):P:=h
theorem DZ{P:Prop}(h:P:=by have:=List.length_pos_iff.2 K;omega):P:=h
theorem kI{P:Prop}(h:P:=by rw[g];omega):P:=h
theorem sk{P:Prop}(h:P:=by simp[Z]):P:=h
theorem iH{P:Prop}(h:P:=by rw[zfk,if_pos rfl];rfl):P:=h
theorem mn{P:Prop}(h:P:=by simp only[zh5];omega):P:=h
theorem tS{P:Prop}(h:P:=by rw[zh8];omega):P:=h
theorem aD{P:Prop}(h:P:=by decide):P:=h
theorem Aq{P:Prop}(h:P:=by simp only[zfo,Nat.reduceBEq, *];exact zhp (n:=s.length) ac ac):P:=h
theorem kJ{P:Prop}(h:P:=by rw[Hp.get_set,if_neg ac]):P:=h
theorem xy{P:Prop}(h:P:=by rw[AB _ ac];omega):P:=h
def cO:=@List.length_map
def sm:=@Bool.and_eq_false_iff
def oG:=@List.any_cons
def D0:=@Bool.or_assoc
def jF:=@Nat.le_of_eq
def As:=@Nat.ble_eq
def ve:=@List.length_pos_iff
def dd:=@List.getD_eq_getElem?_getD
def tT:=@List.headD_cons
def eJ:=@Bool.false_and
def D1:=@List.ext_getElem?
def pZ:=@List.length_replicate
def tU:=@List.getElem?_replicate
def tV:=@Bool.and_assoc
def At:=@List.eq_of_mem_replicate
def Jb:=@List.eq_nil_of_length_eq_zero
def d6:=@decide_eq_false
def p6:=@decide_eq_decide
def dt:=@decide_eq_true
def p7:=@Bool.and_false
def p8:=@List.map_nil
def nI:=@List.drop_length
def sn:=@Prod.ext
def D2:=@Int.tdiv_nonneg
def Au:=@List.any_eq_true
def Jc:=@List.fst_mem_of_mem_zipIdx
def mo:=@Int.tdiv_eq_ediv_of_nonneg
def xz:=@Nat.zero_testBit
def D3:=@Nat.eq_of_testBit_eq
def vh:=And.intro @eJ @p7
end Go.Ab
namespace Go.Proofs.YtpbcimfiofmoeaaGreat
set_option maxRecDepth 20000
open Go Go.Ab
section
def tyR3a.tyF:=ad @cN (ad @dH (ad @iO (ad @lP (ad @nF (ad @iZ (ad @fO (ad @eR (ad @mM (ad @xo (ad @ej (@fP)))))))))))
open tyR3a
theorem zha(f:FuncId):Plain (zfn pls []) f:=⟨fun _=>rfl,rfl,rfl⟩
theorem zgK{l:List En}{f:FuncId}(h1:∀j,zgw l f j=none)(h2:lQ l f=false):Plain (zfn pls l) f:=⟨h1,h2,rfl⟩
structure PlainA (cfg:Cfg) (f:FuncId) (args:List AV):Prop where
 call:cfg.call f args=none
 ice:cfg.ice f=false
 froz:cfg.froz f=false
theorem YV{i:Type}{sz:i->Nat}{ok:i->Prop}{enc:i->List AV}{out:i->AV}(Z:∀x y,enc x=enc y->x=y){f:FuncId}{l:List En}(x:i):
 PlainA (zfn pls (⟨f,false,dc (fun y=>ok y/\sz y<sz x) enc out⟩::l)) f (enc x):=by
 have Y:Nat.beq f f=true:=Nat.beq_refl f;refine⟨?_,?_,rfl⟩
 .show zgw _ f (enc x)=none;simp only[zgw,Y];exact DV fun y U e=>by rw[Z _ _ e]at U;exact Nat.lt_irrefl _ U.2
 .show lQ _ f=false;simp only[lQ,Y]
noncomputable def Jd:{c:SC // aH 21 (Tryz.f132.body.getD .skip)=c}:=by
 refine⟨?_,?_⟩;rotate_left
 .simp only[Tryz.f132,bS,aH,zfO,zfL,zfR,zfS,Nat.blt,Nat.ble];rfl
noncomputable def Je:{c:SC // aH 9 (Tryz.f133.body.getD .skip)=c}:=by
 refine⟨?_,?_⟩;rotate_left
 .simp only[Tryz.f133,bS,aH,zfO,zfL,zfR,zfS,Nat.blt,Nat.ble];rfl
noncomputable def Jf:{c:SC // aH 34 (Tryz.f80.body.getD .skip)=c}:=by
 refine⟨?_,?_⟩;rotate_left
 .simp only[Tryz.f80,bS,aH,zfO,zfL,zfR,zfS,Nat.blt,Nat.ble];rfl
noncomputable def Jg:{c:SC // aH 18 (Tryz.f81.body.getD .skip)=c}:=by
 refine⟨?_,?_⟩;rotate_left
 .simp only[Tryz.f81,bS,aH,zfO,zfL,zfR,zfS,Nat.blt,Nat.ble];rfl
noncomputable def Jh:{c:SC // aH 10 (Tryz.f46.body.getD .skip)=c}:=by
 refine⟨?_,?_⟩;rotate_left
 .simp only[Tryz.f46,bS,aH,zfO,zfL,zfR,zfS,Nat.blt,Nat.ble];rfl
theorem YW(ρ:Nat->Int)(n:Int):ce Tryz.prog ρ 132 [.int .u8 n] (.bool (oF n)):=zg3 fit (pls:=pls) (l:=[]) trivial (.cons (.int _ _) .nil) (.bool _) (by
 have Z:=zha 132;refine zfz (M:=21) (rs:=[.tmp 2]) (Z.call _) Z.ice Z.froz Tryz.func132 rfl rfl Jd.2 rfl ?_;dsimp only[Jd,zft,Nat.reduceAdd];repeat' (first
  |(apply ah ?_;clear hK K)|apply Rx.o ?_|apply re ?_|(apply dr (fun J z=>?_) (fun J z=>?_)<;>try(cases J;done))|apply ak ?_|(apply zff fun K hK=>?_)|apply ax ?_)
 all_goals (refine⟨zfj,_,zfq,?_⟩;try simp only[zfi])
 all_goals (simp_all[oF]<;>omega))
theorem YX(ρ:Nat->Int)(n:Int):ce Tryz.prog ρ 133 [.int .u8 n] (.bool (mN n)):=zg3 fit (pls:=pls) (l:=[]) trivial (.cons (.int _ _) .nil) (.bool _) (by
 have Z:=zha 133;refine zfz (M:=9) (rs:=[.tmp 2]) (Z.call _) Z.ice Z.froz Tryz.func133 rfl rfl Je.2 rfl ?_;dsimp only[Je,zft,Nat.reduceAdd];repeat' (first
  |(apply ah ?_;clear hK K)|apply Rx.o ?_|(apply dr (fun J z=>?_) (fun J z=>?_)<;>try(cases J;done))|apply ak ?_|(apply zff fun K hK=>?_)|apply ax ?_)
 all_goals (refine⟨zfj,_,zfq,?_⟩;try simp only[zfi])
 all_goals (simp_all[mN]<;>omega))
def tW(n:Int):List AV:=[.int .u8 n]
theorem Ji(x y:Int)(h:tW x=tW y):x=y:=by simpa [tW]using h
noncomputable def xA:En:=⟨132,false,dc (fun _=>True) tW fun n=>.bool (oF n)⟩
noncomputable def xB:En:=⟨133,false,dc (fun _=>True) tW fun n=>.bool (mN n)⟩
theorem YY(ρ:Nat->Int):zgE Tryz.prog ρ xA:=zgO fun n _=>YW ρ n
theorem YZ(ρ:Nat->Int):zgE Tryz.prog ρ xB:=zgO fun n _=>YX ρ n
theorem Y0(ρ:Nat->Int)(s:List UInt8)(hs:s.length<2^60):ce Tryz.prog ρ 80 [.str s] (.bool (ll s)):=zg3 fit (pls:=pls) (l:=[xA,xB]) ⟨YY ρ,YZ ρ,trivial⟩ (.cons (.str _) .nil) (.bool _) (by
 have hw:Plain (zfn pls [xA,xB]) 80:=zgK (fun _=>rfl) rfl;have kl:∀(n:Int) (H:Hp),zfs Tryz.prog (zfn pls [xA,xB]) 132 [.int .u8 n] H fun v H'=>v=.bool (oF n)/\H'=H:=fun n H=>zgL (enc:=tW) (out:=fun n=>.bool (oF n)) Ji (x:=n) rfl trivial;have kd:∀(n:Int) (H:Hp),zfs Tryz.prog (zfn pls [xA,xB]) 133 [.int .u8 n] H fun v H'=>v=.bool (mN n)/\H'=H:=fun n H=>zgL (enc:=tW) (out:=fun n=>.bool (mN n)) Ji (x:=n) rfl trivial;refine zfz (M:=34) (rs:=[.tmp 2]) (hw.call _) hw.ice hw.froz Tryz.func80 rfl rfl Jf.2 rfl ?_;dsimp only[Jf,zft,Nat.reduceAdd];repeat' (first
  |(apply ah ?_;clear hK K)|apply Rx.o ?_|apply ak ?_|(apply zff fun K hK=>?_)|apply ay ?_|fail)
 refine zgs [0] [] 3 s.length (fun i E H=>zgX s=i+zgX (s.drop i)/\(0<i->∀b,s[0]?=some b->mN b.toNat=false)) eE au ?_;rintro i E H2 hi I C j hsI ⟨U,L⟩;(try simp only[zfT,zfB,a0,zfo,zfv,Nat.reduceBEq, *]at I);(try simp only[zfB, *]at C);(try simp only[zgj,]at j);repeat' (first
  |(apply ah ?_;clear hK K)|apply Rx.o ?_|(apply dr (fun J z=>?_) (fun J z=>?_)<;>try(cases J;done))|(apply bt (fun o Y=>?_) (fun o Y=>?_)<;>try(cases o;done))|apply ak ?_|(apply zff fun K hK=>?_)|apply ay ?_|apply zfh ?_|apply ax ?_|apply zfr ?_)
 .have O:i<s.length:=by simpa using o
  have hgx:s[i]?=some s[i]:=aR O;have m:zgX (s.drop i)=if kH s[i]then zgX (s.drop (i+1))+1 else 0:=by rw[gW O,zgX]
  repeat' (first
   |(apply ah ?_;clear hK K)|apply Rx.o ?_|(apply kF ?_;first|refine Rx.k (kl _ _) ?_|refine Rx.k (kd _ _) ?_)|apply re ?_|(apply dr (fun J z=>?_) (fun J z=>?_)<;>try(cases J;done))|(apply bt (fun o Y=>?_) (fun o Y=>?_)<;>try(cases o;done))|apply ak ?_|(apply zff fun K hK=>?_)|apply zfh ?_|apply ax ?_|fail)
  .all_goals (refine⟨zfj,_,zfq,?_⟩;try simp only[zfi])
   have V:i=0:=ac;subst V;unfold ll;cases s<;>simp_all
  .refine⟨ac,eL,eL,zf4,Aq,?_⟩;have Z:kH s[i]=true:=by simp_all[kH]
   refine⟨by rw[U,m,Z];simp;omega,fun _ b g=>L ac b g⟩
  .all_goals (refine⟨zfj,_,zfq,?_⟩;try simp only[zfi])
   have Z:kH s[i]=false:=by simp_all[kH]
   rw[Z]at m;simp at m;unfold ll;simp[show ¬zgX s=s.length by omega]
  .refine⟨ac,eL,eL,zf4,Aq,?_⟩;have Z:kH s[i]=true:=by simp_all[kH]
   refine⟨by rw[U,m,Z];simp;omega,fun _ b g=>?_⟩;by_cases h0:0<i
   .exact L h0 b g
   .have V:i=0:=by omega
    subst V;rw[hgx]at g;have:s[0]=b:=wC;subst this;have hle:oF s[0].toNat=true:=by simp_all
    simp only[oF,mN]at *;simp only[oB,iX]at hle;simp only[sm,i4];omega
 all_goals
  have hie:i=s.length:=ac;all_goals (refine⟨zfj,_,zfq,?_⟩;try simp only[zfi])
  rw[hie]at U;simp[zgX]at U;unfold ll;cases s<;>simp_all<;>omega)
def zfE(l:List (List UInt8))(s:List UInt8):Bool:=l.any fun x=>decide (x=s)
def tX(op:Int):Bool:=decide (4<=op)&&decide (op<=18)
def zeroE(x:Ex):Bool:=decide (x.kind=0)&&decide (x.n=0)&&decide (x.name=[])&&decide (x.op=0)&&decide (x.kids.length=0)
def zgz:List Fu->List UInt8->Int->Int
 |[],_,_=>-1
 |f::l,s,i=>if f.name=s then i else zgz l s (i+1)
def mO:List (List UInt8):=[[97,114,114,97,121],[102,117,110,99],[118,97,114],[114,101,116,117,114,110],[105,102],[101,108,115,101],[119,104,105,108,101],[111,117,116],[116,114,97,112]]
theorem Jj(s:List UInt8):zfE mO s=sh s:=by
 simp only[zfE,mO,sh,oG,List.any_nil,gK,<-D0];simp only[eq_comm]
theorem Y1(H:Hp)(a b c d e f g h i:List UInt8):zgW Tryz.prog H 59 9 [(0,.str a),(1,.str b),(2,.str c),(3,.str d),(4,.str e),(5,.str f),(6,.str g),(7,.str h),(8,.str i)]=some (.sl H.next 0 9 1,H.alloc (.cells ([a,b,c,d,e,f,g,h,i].map .str) 0 true)):=aj
theorem Y2(ρ:Nat->Int)(s:List UInt8):ce Tryz.prog ρ 81 [.str s] (.bool (sh s)):=zg3 fit (pls:=pls) (l:=[]) trivial (.cons (.str _) .nil) (.bool _) (by
 have L:=zha 81;refine zfz (M:=18) (rs:=[.tmp 2]) (L.call _) L.ice L.froz Tryz.func81 rfl rfl Jg.2 rfl ?_;dsimp only[Jg,zft,Nat.reduceAdd];have I:=@Y1;repeat' (first
  |(apply ah ?_;clear hK K)|apply Rx.o ?_|apply ak ?_|(apply zff fun K hK=>?_)|apply ay ?_|fail)
 refine zgs [0,3] [0] 4 9 (fun i E H=>zfE mO s=zfE (mO.drop i) s) eE au ?_;rintro i E J hi Y Z V C U;(try simp only[zfT,zfB,a0,zfo,zfv,Nat.reduceBEq, *]at Y);(try simp only[zfT,zfB,a0,zfo,zfv, *]at Z);(try simp only[zfw,zgj,b9]at V);have j:(0 == J.next)=false:=zfN ac;have g:(J.next == 0)=false:=zfN ac;change J.get 0=some (.cells (mO.map .str) 0 true)at Z;have hr9:mO.length=9:=rfl;repeat' (first
  |(apply ah ?_;clear hK K)|apply Rx.o ?_|(apply bt (fun o z=>?_) (fun o z=>?_)<;>try(cases o;done))|apply ak ?_|(apply zff fun K hK=>?_)|apply ay ?_|apply zfh ?_|apply ax ?_|apply zfr ?_)
 .have O:i<mO.length:=by omega
  have hgx:mO[i]?=some mO[i]:=aR O;have m:zfE (mO.drop i) s=(decide (mO[i]=s)||zfE (mO.drop (i+1)) s):=DY;have hi9:decide (i<9)=true:=cC;repeat' (first
   |(apply ah ?_;clear hK K)|apply Ry.o ?_|(apply aL (fun o z=>?_) (fun o z=>?_)<;>try(cases o;done))|apply ak ?_|(apply zff fun K hK=>?_)|apply zfh ?_|apply ax ?_|fail)
  .all_goals (refine⟨zfj,_,zfq,?_⟩;try simp only[zfi])
   rw[<-Jj,U,m];simp_all
  .refine⟨ac,(by simp only[zfT,zfB,a0,zfo,zfv,Nat.reduceBEq,mO, *]),(by simp only[zfT,zfB,a0,zfo,zfv,mO, *]),zf4,(by simp only[zfo,Nat.reduceBEq, *];exact zhp (n:=9) ac ac),?_⟩;rw[U,m];simp_all
 .all_goals (refine⟨zfj,_,zfq,?_⟩;try simp only[zfi])
  rw[<-Jj,U,show i=9 by omega];rfl)
def nJ(s:List UInt8):List AV:=[.str s]
theorem vi(x y:List UInt8)(h:nJ x=nJ y):x=y:=by simpa [nJ]using h
noncomputable def xC:En:=⟨80,false,dc (fun s=>s.length<2^60) nJ fun s=>.bool (ll s)⟩
noncomputable def xD:En:=⟨81,false,dc (fun _=>True) nJ fun s=>.bool (sh s)⟩
theorem Y3(ρ:Nat->Int):zgE Tryz.prog ρ xC:=zgO fun s K=>Y0 ρ s K
theorem Y4(ρ:Nat->Int):zgE Tryz.prog ρ xD:=zgO fun s _=>Y2 ρ s
theorem Y5(ρ:Nat->Int)(s:List UInt8)(Y:s.length<2^60):ce Tryz.prog ρ 46 [.str s] (.bool (zf7 s)):=zg3 fit (pls:=pls) (l:=[xC,xD]) ⟨Y3 ρ,Y4 ρ,trivial⟩ (.cons (.str _) .nil) (.bool _) (by
 have Z:Plain (zfn pls [xC,xD]) 46:=zgK (fun _=>rfl) rfl;have L:∀(H:Hp),zfs Tryz.prog (zfn pls [xC,xD]) 80 [.str s] H fun v H'=>v=.bool (ll s)/\H'=H:=fun H=>zgL (enc:=nJ) (out:=fun n=>.bool (ll n)) vi (x:=s) rfl Y;have I:∀(H:Hp),zfs Tryz.prog (zfn pls [xC,xD]) 81 [.str s] H fun v H'=>v=.bool (sh s)/\H'=H:=fun H=>zgL (enc:=nJ) (out:=fun n=>.bool (sh n)) vi (x:=s) rfl trivial;refine zfz (M:=10) (rs:=[.tmp 2]) (Z.call _) Z.ice Z.froz Tryz.func46 rfl rfl Jh.2 rfl ?_;dsimp only[Jh,zft,Nat.reduceAdd];repeat' (first
  |(apply ah ?_;clear hK K)|apply Rx.o ?_|(apply kF ?_;first|refine Rx.k (L _) ?_|refine Rx.k (I _) ?_)|(apply dr (fun J z=>?_) (fun J z=>?_)<;>try(cases J;done))|apply ak ?_|(apply zff fun K hK=>?_)|apply ax ?_)
 all_goals (refine⟨zfj,_,zfq,?_⟩;try simp only[zfi])
 all_goals (simp_all[zf7]))
end
def oH(H:Hp)(v:AV)(l:List (List UInt8))(lo:Nat):Prop:=∃r V,v=.sl r 0 l.length 1/\H.get r=some (.cells (l.map .str) V true)/\V<=l.length/\lo<=r/\r<H.next
def p9(H:Hp)(v:AV)(l:List (List UInt8))(lo:Nat):Prop:=(v=.nilS/\l=[])\/oH H v l lo
theorem oH.low{H H':Hp}{v:AV}{l:List (List UInt8)}{lo:Nat}(h:oH H v l lo)(z:H.next<=H'.next)(J:∀k,lo<=k->k<H.next->H'.get k=H.get k):oH H' v l lo:=by
 obtain⟨r,V,i,g,m,O,K⟩:=h;exact⟨r,V,i,by rw[J r O K];exact g,m,O,ac⟩
def zfU(v:AV)(k:Nat):Prop:=∃n,v=.sl k 0 n 1
def so(v O:AV)(H H':Hp):Prop:=(∀k,k<H.next->¬zfU v k->H'.get k=H.get k)/\∀k,zfU O k->zfU v k\/H.next<=k
theorem oH.lt{H:Hp}{v:AV}{l:List (List UInt8)}{lo:Nat}(h:oH H v l lo){k:Nat}(j:zfU v k):lo<=k/\k<H.next:=by
 obtain⟨r,V,rfl,_,_,O,K⟩:=h;obtain⟨n,e⟩:=j;simp only[AV.sl.injEq]at e;rw[<-e.1];exact⟨O,K⟩
theorem p9.lt{H:Hp}{v:AV}{l:List (List UInt8)}{lo:Nat}(h:p9 H v l lo){k:Nat}(j:zfU v k):lo<=k/\k<H.next:=by
 rcases h with⟨rfl,_⟩|h
 .obtain⟨n,e⟩:=j;simp at e
 .exact h.lt j
theorem oH.keep{H H':Hp}{v:AV}{l:List (List UInt8)}{lo:Nat}(h:oH H v l lo)(z:H.next<=H'.next)(J:∀k,zfU v k->H'.get k=H.get k):oH H' v l lo:=by
 obtain⟨r,V,rfl,g,m,O,K⟩:=h;exact⟨r,V,rfl,Ap,m,O,ac⟩
theorem p9.keep{H H':Hp}{v:AV}{l:List (List UInt8)}{lo:Nat}(h:p9 H v l lo)(z:H.next<=H'.next)(J:∀k,zfU v k->H'.get k=H.get k):p9 H' v l lo:=h.imp id fun h=>h.keep z J
theorem Jk(l:List (List UInt8)):(l.map AV.str).all AV.one=true:=by simp[AV.one]
theorem D4(m:List (List UInt8)):(m.map fun s=>[AV.str s]).flatten=m.map .str:=by induction m with
 |nil=>rfl
 |cons a m ih=>simp[ih]
theorem Y6{H:Hp}{r imm:Nat}{m:List (List UInt8)}(h:H.get r=some (.cells (m.map .str) imm true)):zhd H 1 (.sl r 0 m.length 1)=some (m.length,m.map .str):=by
 have:=se (H:=H) (r:=r) (o:=0) (n:=m.length) (z:=1) (s:=1) h au;rw[this,fo,fN au]
theorem Y7{H:Hp}{v x:AV}{l m:List (List UInt8)}{lo:Nat}(L:p9 H v l lo)(z:lo<=H.next)(C:zhd H 1 x=some (m.length,m.map .str))(K:m≠[])(o:l.length+m.length<2^40):
 ∃O H',zgH Tryz.prog false H 59 59 v x=some (O,H')/\oH H' O (l++m) lo/\H'.next=H.next+1/\(∀k,k<lo->H'.get k=H.get k)/\so v O H H':=by
 obtain⟨n,Z⟩:∃n,m.length=n+1:=⟨m.length-1,DZ⟩;have g:zg1=70368744177664:=rfl;rw[Z]at C;rcases L with⟨rfl,rfl⟩|⟨r,V,rfl,Y,I,i,h5⟩
 .refine⟨.sl H.next 0 (n+1) 1,H.alloc (.cells (m.map .str) 0 true),append_nil Tryz.underlying59 DA DB DC aj C (Jk m) rfl kI kI,⟨H.next,0,sk,iH,ac,z,cI _⟩,rfl,fun k j=>hY,fun k j _=>hY,fun k j=>.inr ?_⟩;obtain⟨J,e⟩:=j;simp only[AV.sl.injEq]at e;omega
 .have U:iV false H 1 (.sl r 0 l.length 1)=H:=by
   unfold iV;simp only[Y,b9,cO,kX];have:Nat.blt l.length l.length=false:=by
    cases o:Nat.blt l.length l.length with
    |false=>rfl
    |true=>rw[jQ]at o;omega
   simp[this]
  refine⟨.sl H.next 0 (l.length+(n+1)) 1,(H.kill r).alloc (.cells (l.map .str++m.map .str) (V-0) true),?_,⟨H.next,V,sk,?_,cC,z,cI _⟩,rfl,fun k j=>?_,fun k j M=>?_,fun k j=>.inr ?_⟩
  .simp only[zgH,Tryz.underlying59,DA,DB,DC,show zhz Tryz.prog 59=true by kernel_rfl,C,Jk,U,pR,cV,dg,eM,jM,Y,cO,b9,kX,fo];rw[aq ⟨kI,kI,trivial,trivial,I⟩];simp
  .show((H.kill r).alloc _).get (H.kill r).next=_
   rw[zfk,aq rfl];simp
  .rw[zfk,af mn,zhm,af ac]
  .rw[zfk,af mn,zhm,af (fun e=>M ⟨_,nD⟩)]
  .obtain⟨J,e⟩:=j;simp only[AV.sl.injEq]at e;omega
theorem Jl{H:Hp}{v:AV}{l:List (List UInt8)}{lo r imm:Nat}(s:List UInt8)(U:p9 H v l lo)(z:lo<=H.next)(K:H.get r=some (.cells [.str s] imm true))(o:l.length<2^39):
 ∃O H',zgH Tryz.prog false H 59 59 v (.sl r 0 1 1)=some (O,H')/\oH H' O (l++[s]) lo/\H'.next=H.next+1/\(∀k,k<lo->H'.get k=H.get k)/\so v O H H':=
 Y7 U z (Y6 (m:=[s]) K) au cC
theorem Y8(l:List (List UInt8)):jN 1 l.length (l.map .str)=l.map fun s=>[AV.str s]:=by
 induction l with
 |nil=>rfl
 |cons a l ih=>simp[jN,ih]
end Go.Proofs.YtpbcimfiofmoeaaGreat
namespace Go.Ab
set_option maxRecDepth 20000
open Go
def cF:Nat->AV->AV
 |0,v=>v
 |n+1,v=>match v with
  | .nilS=>.lst []
  | .lst K=>.lst (K.map fun J=>J.map (cF n))
  | .agg g=>.agg (g.map (cF n))
  | .tup g=>.tup (g.map (cF n))
  |v=>v
theorem VR.wk{G:Gh}:∀(n:Nat) {v:AV}{x:Value},VR G v x->VR G (cF n v) x
 |0,_,_,h=>h
 |n+1,v,x,h=>by
  cases h with
  |nilS=>exact .lst0 _ _
  |lst vs K O Y hc=>
   rename_i xs b o cap z;have:=VR.lst (G:=G) (xs:=xs.map fun J=>J.map (cF n)) (b:=b) (o:=o) (cap:=cap) (z:=z) vs ?_ ?_ ?_ ?_
   .rw[cO]at this;exact this
   .intro i J hr;rw[fT]at hr;cases C:xs[i]? with
    |none=>rw[C]at hr;simp at hr
    |some zfK=>rw[C]at hr;simp only[jh,az]at hr;rw[<-hr,cO];exact K i zfK C
   .intro i j I M;rw[cO]at I;exact O i j I M
   .intro i j J c hr Z;rw[fT]at hr;cases C:xs[i]? with
    |none=>rw[C]at hr;simp at hr
    |some zfK=>
     rw[C]at hr;simp only[jh,az]at hr;rw[<-hr,fT]at Z;cases U:zfK[j]? with
     |none=>rw[U]at Z;simp at Z
     |some c0=>rw[U]at Z;simp only[jh,az]at Z;rw[<-Z];exact VR.wk n (Y i j zfK c0 C U)
   .rw[cO];exact hc
  |lst0 a cap=>exact .lst0 a cap
  |agg L Y=>
   refine .agg (by rw[cO];exact L) fun i c v hc V=>?_;rw[fT]at hc;rename_i g vs;cases U:g[i]? with
   |none=>rw[U]at hc;simp at hc
   |some c0=>rw[U]at hc;simp only[jh,az]at hc;rw[<-hc];exact VR.wk n (Y i c0 v U V)
  |tup L Y=>
   refine .tup (by rw[cO];exact L) fun i c v hc V=>?_;rw[fT]at hc;rename_i g vs;cases U:g[i]? with
   |none=>rw[U]at hc;simp at hc
   |some c0=>rw[U]at hc;simp only[jh,az]at hc;rw[<-hc];exact VR.wk n (Y i c0 v U V)
  |int k m=>exact .int k m
  |sx k e=>exact .sx k e
  |bool b=>exact .bool b
  |str s l h=>exact .str s l h
  |nilP=>exact .nilP
  |nilM=>exact .nilM
  |nilF=>exact .nilF
  |ptr h=>exact .ptr h
  |iptr vs O Y=>exact .iptr vs O Y
  |sl h L hc=>exact .sl h L hc
  |map h=>exact .map h
  |clo L Y=>exact .clo L Y
theorem ce.wk{P:Program}{ρ:Nat->Int}{f:FuncId}{j:List AV}{r:AV}(n:Nat)(h:ce P ρ f j r):ce P ρ f j (cF n r):=
 ⟨h.1,fun G w vs i g m=>(h.2 G w vs i g m).mono fun _ _ ⟨v,K,O,Z,z⟩=>⟨v,K,O,Z.wk n,z⟩⟩
theorem D5{P:Program}{ρ:Nat->Int}{f:FuncId}{j:List AV}{r O:AV}(n:Nat)(h:ce P ρ f j r)(e:cF n r=O):ce P ρ f j O:=e▸h.wk n
variable {P:Program} {cfg:Cfg} {f N:Nat}
theorem Y9{c:SC}{E:aw}{H:Hp}{Q:AX->aw->Hp->Prop}(cs:List Nat)(h:∀E':aw,(∀k∈cs,E'.at k=E.at k)->zfV P cfg f N c E' H Q):zfV P cfg f N c E H Q:=h E fun _ _=>rfl
def cR{i β:Type}(p:i->β->Prop):List i->List β->Prop
 |[],[]=>True
 |a::l,b::m=>p a b/\cR p l m
 |_,_=>False
theorem cR.len{i β:Type}{p:i->β->Prop}:∀{l:List i}{m:List β},cR p l m->l.length=m.length
 |[],[],_=>rfl
 |_::_,_::_,h=>by simp only[dg,cR.len h.2]
theorem cR.mono{i β:Type}{p q:i->β->Prop}(h:∀a b,p a b->q a b):∀{l:List i}{m:List β},cR p l m->cR q l m
 |[],[],_=>trivial
 |_::_,_::_,k=>⟨h _ _ k.1,cR.mono h k.2⟩
theorem cR.append{i β:Type}{p:i->β->Prop}:∀{l:List i}{m:List β}{g:List i}{K:List β},cR p l m->cR p g K->cR p (l++g) (m++K)
 |[],[],_,_,_,h=>h
 |_::_,_::_,_,_,h,k=>⟨h.1,cR.append h.2 k⟩
theorem cR.refl{i:Type}{p:i->i->Prop}:∀{l:List i},(∀a∈l,p a a)->cR p l l
 |[],_=>trivial
 |a::l,h=>⟨h a dJ,cR.refl fun b o=>h b (dO _ o)⟩
def Jm(v:AV):Prop:=fq v/\match v with
 | .sl _ _ _ _|.agg _=>False
 |_=>True
def zgf(S:Nat->Prop):Nat->Hp->AV->AV->Prop
 |0,_,_,_=>False
 |n+1,H,v,u=>match v with
  | .sl r m j z=>S r/\r<H.next/\∃g V I l,H.get r=some (.cells g V I)/\V<=g.length/\m+j*z<=g.length/\cR (zgf S n H) ((g.drop m).take (j*z)) l/\u=.lst (jN z j l)
  | .agg g=>∃Z,cR (zgf S n H) g Z/\u=.agg Z
  |v=>fq v/\u=v
theorem zgf.flat{S:Nat->Prop}{n:Nat}{H:Hp}{v:AV}(h:Jm v):zgf S (n+1) H v v:=by
 cases v<;>first|exact h.2.elim|exact⟨h.1,rfl⟩
def qc:=@zgf.flat
theorem zgf.up{S:Nat->Prop}{H:Hp}:∀{n m:Nat}{v u:AV},zgf S n H v u->n<=m->zgf S m H v u
 |0,_,_,_,h,_=>h.elim
 |n+1,0,_,_,_,hm=>by omega
 |n+1,m+1,v,u,h,hm=>by
  cases v with
  |sl r J j z=>
   obtain⟨i,M,Z,V,I,l,g,Y,O,K,U⟩:=h;exact⟨i,M,Z,V,I,l,g,Y,O,K.mono fun a b k=>zgf.up k ac,U⟩
  |agg Z=>
   obtain⟨L,i,g⟩:=h;exact⟨L,i.mono fun a b k=>zgf.up k ac,g⟩
  |_=>exact h
def sq(a b:Option HB):Prop:=a=b\/∃g i j I,a=some (.cells g i I)/\b=some (.cells g j I)/\(i<=g.length->j<=g.length)
theorem sq.trans{a b c:Option HB}(h:sq a b)(k:sq b c):sq a c:=by
 rcases h with rfl|⟨g,i,j,I,rfl,rfl,h⟩
 .exact k
 .rcases k with rfl|⟨Z,V,Y,M,e,rfl,k⟩
  .exact .inr ⟨g,i,j,I,rfl,rfl,h⟩
  .simp only[az,HB.cells.injEq]at e;obtain⟨rfl,rfl,rfl⟩:=e;exact .inr ⟨g,i,Y,I,rfl,rfl,fun q=>k (h q)⟩
theorem zgf.frame2{S S':Nat->Prop}{H H':Hp}(hS:∀k,k<H.next->S k->S' k)(K:H.next<=H'.next)(Y:∀k,S k->k<H.next->sq (H.get k) (H'.get k)):∀{n:Nat}{v u:AV},zgf S n H v u->zgf S' n H' v u
 |0,_,_,h=>h.elim
 |n+1,v,u,h=>by
  cases v with
  |sl r off len z=>
   obtain⟨Z,M,V,O,I,l,g,m,J,h5,C⟩:=h;have U:=h5.mono fun a b k=>zgf.frame2 hS K Y k;rcases Y r Z M with e|⟨cs',i,j,o,L,e2,e3⟩
   .exact⟨hS r M Z,ac,V,O,I,l,by rw[<-e];exact g,m,J,U,C⟩
   .rw[g]at L;simp only[az,HB.cells.injEq]at L;obtain⟨rfl,rfl,rfl⟩:=L;exact⟨hS r M Z,ac,V,j,I,l,e2,e3 m,J,U,C⟩
  |agg V=>
   obtain⟨ds,Z,g⟩:=h;exact⟨ds,Z.mono fun a b k=>zgf.frame2 hS K Y k,g⟩
  |_=>exact h
theorem zgf.frame{S S':Nat->Prop}(hS:∀k,S k->S' k){H H':Hp}(z:H.next<=H'.next)(i:∀k,S k->k<H.next->sq (H.get k) (H'.get k)){n:Nat}{v u:AV}(h:zgf S n H v u):zgf S' n H' v u:=h.frame2 (fun k _ q=>hS k q) z i
structure Icy (S:Nat->Prop) (H H':Hp):Prop where
 next:H'.next=H.next
 out:∀k,¬S k->H'.get k=H.get k
 same:∀k,sq (H.get k) (H'.get k)
theorem Icy.refl(S:Nat->Prop)(H:Hp):Icy S H H:=⟨rfl,fun _ _=>rfl,fun _=>.inl rfl⟩
theorem Icy.trans{S:Nat->Prop}{a b c:Hp}(h:Icy S a b)(k:Icy S b c):Icy S a c:=⟨k.next.trans h.next,fun r hr=>(k.out r hr).trans (h.out r hr),fun r=>(h.same r).trans (k.same r)⟩
theorem Icy.ic{S S':Nat->Prop}{H H':Hp}(h:Icy S H H'){n:Nat}{v u:AV}(k:zgf S' n H v u):zgf S' n H' v u:=k.frame (fun _ q=>q) (jF h.next.symm) fun r _ _=>h.same r
theorem Av{S:Nat->Prop}{n:Nat}(ih:∀{v u:AV}{H:Hp},zgf S n H v u->∃H',iz n v H=some (u,H')/\Icy S H H'):∀{l m:List AV}{H:Hp},cR (zgf S n H) l m->∃H',kn (iz n) l H=some (m,H')/\Icy S H H'
 |[],[],H,_=>⟨H,rfl,Icy.refl S H⟩
 |a::l,b::m,H,h=>by
  obtain⟨H1,i,g⟩:=ih h.1;obtain⟨J,Z,O⟩:=Av ih (l:=l) (m:=m) (H:=H1) (h.2.mono fun a b k=>g.ic k);exact⟨J,by simp only[kn,i,Z],g.trans O⟩
theorem zgf.ice{S:Nat->Prop}:∀{n:Nat}{v u:AV}{H:Hp},zgf S n H v u->∃H',iz n v H=some (u,H')/\Icy S H H'
 |0,_,_,_,h=>h.elim
 |n+1,v,u,H,h=>by
  cases v with
  |sl r m j z=>
   obtain⟨i,h0,g,V,I,l,Y,O,L,K,rfl⟩:=h;have U:Icy S H (H.set r (.cells g (max V (m+j*z)) I)):=by
    refine⟨rfl,fun k Z=>by rw[aQ,af (fun e=>Z (by rw[e];exact i))],fun k=>?_⟩;rw[aQ];split
    .rename_i e;subst e;exact .inr ⟨g,V,max V (m+j*z),I,Y,rfl,fun _=>ac⟩
    .exact .inl rfl
   obtain⟨H',J,C⟩:=Av (fun k=>zgf.ice k) (K.mono fun a b k=>U.ic k);refine⟨H',?_,U.trans C⟩;have e:iz (n+1) (.sl r m j z) H=match H.get r with
    |some (.cells g V I)=>match Nat.ble (m+j*z) g.length&&Nat.ble V g.length with
     |true=>match kn (iz n) ((g.drop m).take (j*z)) (H.set r (.cells g (max V (m+j*z)) I))with
      |some (l',H)=>some (.lst (jN z j l'),H)
      |none=>none
     |false=>none
    |_=>none:=rfl
   rw[e,Y];have e1:Nat.ble (m+j*z) g.length=true:=by rw[As];exact L
   have e2:Nat.ble V g.length=true:=by rw[As];exact O
   simp only[e1,e2,uW,J]
  |agg g=>
   obtain⟨M,i,rfl⟩:=h;obtain⟨H',Y,O⟩:=Av (fun k=>zgf.ice k) i;refine⟨H',?_,O⟩;have e:iz (n+1) (.agg g) H=match kn (iz n) g H with
    |some (M,H)=>some (.agg M,H)
    |none=>none:=rfl
   rw[e,Y]
  |ptr r o=>
   obtain⟨k,Z⟩:=h.1;exact absurd (Z (k+1) ac H) (by simp[iceV])
  |map r=>
   obtain⟨k,Z⟩:=h.1;exact absurd (Z (k+1) ac H) (by simp[iceV])
  |_=>exact⟨H,by rw[show u=_ from h.2];rfl,Icy.refl S H⟩
theorem zgf.iceL{S:Nat->Prop}{n:Nat}{l m:List AV}{H:Hp}(h:cR (zgf S n H) l m):∃H',kn (iz n) l H=some (m,H')/\Icy S H H':=Av (fun k=>zgf.ice k) h
theorem Aw{S:Nat->Prop}{n:Nat}{H:Hp}(ih:∀{v u:AV},zgf S n H v u->∃g,∀m,g<=m->iceV H m v=some u):∀{l k:List AV},cR (zgf S n H) l k->∃g,∀m,g<=m->iceL (iceV H m) l=some k
 |[],[],_=>⟨0,fun _ _=>rfl⟩
 |a::l,b::k,h=>by
  obtain⟨zfJ,i⟩:=ih h.1;obtain⟨U,Z⟩:=Aw ih (l:=l) (k:=k) h.2;exact⟨max zfJ U,fun m V=>by simp only[iceL,i m ac,Z m ac]⟩
theorem zgf.iceV{S:Nat->Prop}{H:Hp}:∀{n:Nat}{v u:AV},zgf S n H v u->∃g,∀m,g<=m->iceV H m v=some u
 |0,_,_,h=>h.elim
 |n+1,v,u,h=>by
  cases v with
  |sl r Y j z=>
   obtain⟨i,h0,Z,L,I,l,J,h3,h4,K,rfl⟩:=h;obtain⟨g,V⟩:=Aw (fun k=>zgf.iceV k) K;refine⟨g+1,fun m U=>?_⟩;obtain⟨m,rfl⟩:∃k,m=k+1:=⟨m-1,ac⟩;have e:Ab.iceV H (m+1) (.sl r Y j z)=match H.get r with
    |some (.cells Z _ _)=>match Ab.iceL (Ab.iceV H m) ((Z.drop Y).take (j*z))with
     |some M=>if M.length=j*z then some (.lst (jN z j M))else none
     |none=>none
    |_=>none:=rfl
   have o:l.length=j*z:=by rw[<-K.len,jR,ku];omega
   rw[e,J];simp only[V m ac,o,cV]
  |agg Z=>
   obtain⟨O,i,rfl⟩:=h;obtain⟨g,V⟩:=Aw (fun k=>zgf.iceV k) i;refine⟨g+1,fun m U=>?_⟩;obtain⟨m,rfl⟩:∃k,m=k+1:=⟨m-1,ac⟩;have e:Ab.iceV H (m+1) (.agg Z)=match Ab.iceL (Ab.iceV H m) Z with
    |some O=>some (.agg O)
    |none=>none:=rfl
   rw[e,V m ac]
  |_=>
   obtain⟨k,C⟩:=h.1;exact⟨k,fun m U=>by rw[C m U H,h.2]⟩
theorem chunk_rows(z:Nat):∀(U:List (List AV)),(∀r∈U,r.length=z)->jN z U.length U.flatten=U
 |[],_=>rfl
 |r::U,h=>by
  have i:=h r dJ;rw[qU,dg];show(r++U.flatten).take z::jN z U.length ((r++U.flatten).drop z)=_;rw[Co ac,fN ac,CH ac,Cp ac,oo,chunk_rows z U fun q L=>h q (dO _ L)]
theorem Ax{z:Nat}:∀{U:List (List AV)},(∀r∈U,r.length=z)->U.flatten.length=U.length*z
 |[],_=>by simp
 |r::U,h=>by
  rw[qU,fG,h r dJ,Ax fun q L=>h q (dO _ L),dg,wM];omega
theorem cR.flat{p:AV->AV->Prop}:∀{a b:List (List AV)},cR (cR p) a b->cR p a.flatten b.flatten
 |[],[],_=>trivial
 |_::_,_::_,h=>by rw[qU,qU];exact h.1.append (cR.flat h.2)
theorem cR.rowlen{p:AV->AV->Prop}{z:Nat}:∀{a b:List (List AV)},cR (cR p) a b->(∀r∈a,r.length=z)->∀r∈b,r.length=z
 |[],[],_,_,r,hr=>by simp at hr
 |x::a,y::b,h,hz,r,hr=>by
  rcases eP.1 hr with rfl|hr
  .rw[<-h.1.len];exact hz x dJ
  .exact cR.rowlen h.2 (fun q L=>hz q (dO _ L)) r hr
theorem zgf.rows{S:Nat->Prop}{n:Nat}{H:Hp}{r z imm:Nat}{tip:Bool}{a b:List (List AV)}(hS:S r)(hr:r<H.next)(J:H.get r=some (.cells a.flatten imm tip))(Z:imm<=a.flatten.length)(I:∀x∈a,x.length=z)(h:cR (cR (zgf S n H)) a b):zgf S (n+1) H (.sl r 0 a.length z) (.lst b):=by
 have L:=Ax I;refine⟨hS,hr,a.flatten,imm,tip,b.flatten,J,Z,ac,?_,?_⟩
 .rw[fo,fN ac];exact h.flat
 .rw[h.len,chunk_rows z b (h.rowlen I)]
theorem cn.wk{G:Gh}(n:Nat):∀{j:List AV}{vs:List Value},cn G j vs->cn G (j.map (cF n)) vs
 |[],vs,h=>h
 |a::l,[],h=>by have:=h.1;simp at this
 |a::l,v::vs,h=>by
  obtain⟨i,g⟩:=h.of_cons;exact ox (i.wk n) (cn.wk n g)
theorem ce.wkA{P:Program}{ρ:Nat->Int}{f:FuncId}{j:List AV}{r:AV}(n:Nat)(h:ce P ρ f (j.map (cF n)) r):ce P ρ f j r:=⟨h.1,fun G w vs i g m=>h.2 G w vs i g (m.wk n)⟩
def D6(e:En):En:=⟨e.f,e.ice,fun j=>e.sp (j.map (cF 60))⟩
theorem Za{P:Program}{ρ:Nat->Int}{e:En}(h:zgE P ρ e):zgE P ρ (D6 e):=fun j r hr=>(h _ r hr).wkA 60
end Go.Ab
namespace Go.Proofs.YtpbcimfiofmoeaaGreat
set_option maxRecDepth 20000
open Go Go.Ab
def gM(H:Hp)(v:AV)(l:List Int)(lo:Nat):Prop:=∃r V,v=.sl r 0 l.length 1/\H.get r=some (.cells (l.map (.int .i64)) V true)/\V<=l.length/\lo<=r/\r<H.next
def fQ(H:Hp)(v:AV)(l:List Int)(lo:Nat):Prop:=(v=.nilS/\l=[])\/gM H v l lo
theorem gM.low{H H':Hp}{v:AV}{l:List Int}{lo:Nat}(h:gM H v l lo)(z:H.next<=H'.next)(J:∀k,lo<=k->k<H.next->H'.get k=H.get k):gM H' v l lo:=by
 obtain⟨r,V,i,g,m,O,K⟩:=h;exact⟨r,V,i,by rw[J r O K];exact g,m,O,ac⟩
theorem gM.lt{H:Hp}{v:AV}{l:List Int}{lo:Nat}(h:gM H v l lo){k:Nat}(j:zfU v k):lo<=k/\k<H.next:=by
 obtain⟨r,V,rfl,_,_,O,K⟩:=h;obtain⟨n,e⟩:=j;simp only[AV.sl.injEq]at e;rw[<-e.1];exact⟨O,K⟩
theorem fQ.lt{H:Hp}{v:AV}{l:List Int}{lo:Nat}(h:fQ H v l lo){k:Nat}(j:zfU v k):lo<=k/\k<H.next:=by
 rcases h with⟨rfl,_⟩|h
 .obtain⟨n,e⟩:=j;simp at e
 .exact h.lt j
theorem gM.keep{H H':Hp}{v:AV}{l:List Int}{lo:Nat}(h:gM H v l lo)(z:H.next<=H'.next)(J:∀k,zfU v k->H'.get k=H.get k):gM H' v l lo:=by
 obtain⟨r,V,rfl,g,m,O,K⟩:=h;exact⟨r,V,rfl,Ap,m,O,ac⟩
theorem fQ.keep{H H':Hp}{v:AV}{l:List Int}{lo:Nat}(h:fQ H v l lo)(z:H.next<=H'.next)(J:∀k,zfU v k->H'.get k=H.get k):fQ H' v l lo:=h.imp id fun h=>h.keep z J
theorem Ay(l:List Int):(l.map (AV.int .i64)).all AV.one=true:=by simp[AV.one]
theorem vj{H:Hp}{r imm:Nat}{m:List Int}(h:H.get r=some (.cells (m.map (.int .i64)) imm true)):zhd H 1 (.sl r 0 m.length 1)=some (m.length,m.map (.int .i64)):=by
 have:=se (H:=H) (r:=r) (o:=0) (n:=m.length) (z:=1) (s:=1) h au;rw[this,fo,fN au]
theorem Jn{H:Hp}{v x:AV}{l m:List Int}{lo:Nat}(L:fQ H v l lo)(z:lo<=H.next)(C:zhd H 1 x=some (m.length,m.map (.int .i64)))(K:m≠[])(o:l.length+m.length<2^40):
 ∃O H',zgH Tryz.prog false H 23 23 v x=some (O,H')/\gM H' O (l++m) lo/\H'.next=H.next+1/\(∀k,k<lo->H'.get k=H.get k)/\so v O H H':=by
 obtain⟨n,Z⟩:∃n,m.length=n+1:=⟨m.length-1,DZ⟩;have g:zg1=70368744177664:=rfl;rw[Z]at C;rcases L with⟨rfl,rfl⟩|⟨r,V,rfl,Y,I,i,h5⟩
 .refine⟨.sl H.next 0 (n+1) 1,H.alloc (.cells (m.map (.int .i64)) 0 true),append_nil Tryz.underlying23 jy pe ph aj C (Ay m) rfl kI kI,⟨H.next,0,sk,iH,ac,z,cI _⟩,rfl,fun k j=>hY,fun k j _=>hY,fun k j=>.inr ?_⟩;obtain⟨J,e⟩:=j;simp only[AV.sl.injEq]at e;omega
 .have U:iV false H 1 (.sl r 0 l.length 1)=H:=by
   unfold iV;simp only[Y,b9,cO,kX];have:Nat.blt l.length l.length=false:=by
    cases o:Nat.blt l.length l.length with
    |false=>rfl
    |true=>rw[jQ]at o;omega
   simp[this]
  refine⟨.sl H.next 0 (l.length+(n+1)) 1,(H.kill r).alloc (.cells (l.map (.int .i64)++m.map (.int .i64)) (V-0) true),?_,⟨H.next,V,sk,?_,cC,z,cI _⟩,rfl,fun k j=>?_,fun k j M=>?_,fun k j=>.inr ?_⟩
  .simp only[zgH,Tryz.underlying23,jy,pe,ph,show zhz Tryz.prog 23=true by kernel_rfl,C,Ay,U,pR,cV,dg,eM,jM,Y,cO,b9,kX,fo];rw[aq ⟨kI,kI,trivial,trivial,I⟩];simp
  .show((H.kill r).alloc _).get (H.kill r).next=_
   rw[zfk,aq rfl];simp
  .rw[zfk,af mn,zhm,af ac]
  .rw[zfk,af mn,zhm,af (fun e=>M ⟨_,nD⟩)]
  .obtain⟨J,e⟩:=j;simp only[AV.sl.injEq]at e;omega
theorem xE{H:Hp}{v:AV}{l:List Int}{lo r imm:Nat}(s:Int)(U:fQ H v l lo)(z:lo<=H.next)(K:H.get r=some (.cells [.int .i64 s] imm true))(o:l.length<2^39):
 ∃O H',zgH Tryz.prog false H 23 23 v (.sl r 0 1 1)=some (O,H')/\gM H' O (l++[s]) lo/\H'.next=H.next+1/\(∀k,k<lo->H'.get k=H.get k)/\so v O H H':=
 Jn U z (vj (m:=[s]) K) au cC
theorem Jo{H:Hp}{v w:AV}{l m:List Int}{lo lo':Nat}(Z:gM H v l lo)(z:lo<=H.next)(M:fQ H w m lo')(o:l.length+m.length<2^40):
 ∃O H',zgH Tryz.prog false H 23 23 v w=some (O,H')/\gM H' O (l++m) lo/\H.next<=H'.next/\(∀k,k<lo->H'.get k=H.get k)/\so v O H H':=by
 by_cases V:m=[]
 .subst V;refine⟨v,H,?_,by rw[bi];exact Z,aE _,fun _ _=>rfl,fun _ _ _=>rfl,fun _ h=>.inl h⟩;obtain⟨r,L,rfl,g,_⟩:=Z;rcases M with⟨rfl,_⟩|⟨J,U,rfl,Y,_⟩
  .simp only[zgH,Tryz.underlying23,jy,pe,ph,show zhz Tryz.prog 23=true by kernel_rfl,zhd]
  .have j:=vj Y;simp only[eM]at j;simp only[zgH,Tryz.underlying23,jy,pe,ph,show zhz Tryz.prog 23=true by kernel_rfl,eM,j]
 .rcases M with⟨_,h⟩|⟨J,U,rfl,Y,_⟩
  .exact(V h).elim
  .obtain⟨O,H',i,g,I,K⟩:=Jn (.inr Z) z (vj Y) V o;exact⟨O,H',i,g,ac,K⟩
theorem gM.len{H H':Hp}{v:AV}{l:List Int}{lo:Nat}(h:gM H v l lo):zf9 Tryz.prog H' 23 v=some (.int .i64 l.length):=by
 obtain⟨r,V,rfl,_⟩:=h;exact zhE Tryz.underlying23 _ _ _ _
theorem gM.at{H:Hp}{v:AV}{l:List Int}{lo:Nat}(h:gM H v l lo){i:Nat}(I:i<l.length):
 ∃r,zgi Tryz.prog 23 v (.int .i64 (i:Int))=some (.ptr r i)/\iU Tryz.prog H 3 (.ptr r i)=some (.int .i64 l[i]):=by
 obtain⟨r,V,rfl,g,_⟩:=h;refine⟨r,?_,?_⟩
 .rw[xh Tryz.underlying23 jy I];simp
 .rw[zU Tryz.underlying3 rfl g,fT,aR I];rfl
theorem D7(l:List Int):jN 1 l.length (l.map (.int .i64))=l.map fun s=>[AV.int .i64 s]:=by
 induction l with
 |nil=>rfl
 |cons a l ih=>simp[jN,ih]
theorem Jp(n:Nat):∀(l:List Int) (H:Hp),kn (iz (n+1)) (l.map (.int .i64)) H=some (l.map (.int .i64),H)
 |[],H=>rfl
 |a::l,H=>by
  have:=Jp n l H;have e:iz (n+1) (.int .i64 a) H=some (.int .i64 a,H):=rfl;simp only[dE,kn,e,this]
theorem gM.ice{H:Hp}{v:AV}{l:List Int}{lo:Nat}(h:gM H v l lo)(n:Nat):
 ∃H',iz (n+2) v H=some (gg l,H')/\gM H' v l lo/\H'.next=H.next/\(∀k,k<lo->H'.get k=H.get k)/\∀k,¬zfU v k->H'.get k=H.get k:=by
 obtain⟨r,V,rfl,Z,m,O,K⟩:=h;refine⟨H.set r (.cells (l.map (.int .i64)) (max V l.length) true),?_,⟨r,max V l.length,rfl,iA,ac,O,K⟩,rfl,fun k j=>kJ,fun k j=>by rw[aQ,af (fun e=>j ⟨_,nD⟩)]⟩;have e:iz (n+2) (.sl r 0 l.length 1) H=match H.get r with
  |some (.cells g V I)=>match Nat.ble (0+l.length*1) g.length&&Nat.ble V g.length with
   |true=>match kn (iz (n+1)) ((g.drop 0).take (l.length*1)) (H.set r (.cells g (max V (0+l.length*1)) I))with
    |some (U,H)=>some (.lst (jN 1 l.length U),H)
    |none=>none
   |false=>none
  |_=>none:=rfl
 rw[e,Z];simp only[cO,b9,kX,fo];have z:Nat.ble l.length l.length=true:=by rw[As];omega
 have Y:Nat.ble V l.length=true:=by rw[As];omega
 rw[z,Y];simp only[uW];rw[fN au,Jp];simp only[D7]
def tY(H:Hp)(v:AV)(l:List Int)(lo:Nat):Prop:=∃r,v=.sl r 0 l.length 1/\H.get r=some (.cells (l.map (.int .i64)) 0 true)/\lo<=r/\r<H.next
def ji(H:Hp)(v:AV)(l:List Int)(lo:Nat):Prop:=(v=.nilS/\l=[])\/tY H v l lo
theorem tY.b{H:Hp}{v:AV}{l:List Int}{lo:Nat}(h:tY H v l lo):gM H v l lo:=by
 obtain⟨r,i,g,m,O⟩:=h;exact⟨r,0,i,g,dZ _,m,O⟩
theorem ji.n{H:Hp}{v:AV}{l:List Int}{lo:Nat}(h:ji H v l lo):fQ H v l lo:=h.imp id fun h=>h.b
theorem tY.keep{H H':Hp}{v:AV}{l:List Int}{lo:Nat}(h:tY H v l lo)(z:H.next<=H'.next)(J:∀k,zfU v k->H'.get k=H.get k):tY H' v l lo:=by
 obtain⟨r,rfl,g,O,K⟩:=h;exact⟨r,rfl,Ap,O,ac⟩
theorem ji.keep{H H':Hp}{v:AV}{l:List Int}{lo:Nat}(h:ji H v l lo)(z:H.next<=H'.next)(J:∀k,zfU v k->H'.get k=H.get k):ji H' v l lo:=h.imp id fun h=>h.keep z J
theorem Jq{H:Hp}{v x:AV}{l m:List Int}{lo:Nat}(V:ji H v l lo)(z:lo<=H.next)(C:zhd H 1 x=some (m.length,m.map (.int .i64)))(L:m≠[])(o:l.length+m.length<2^40):
 ∃O H',zgH Tryz.prog false H 23 23 v x=some (O,H')/\tY H' O (l++m) lo/\H'.next=H.next+1/\(∀k,k<lo->H'.get k=H.get k)/\so v O H H':=by
 obtain⟨n,Z⟩:∃n,m.length=n+1:=⟨m.length-1,by have:=ve.2 L;omega⟩;have g:zg1=70368744177664:=rfl;rw[Z]at C;rcases V with⟨rfl,rfl⟩|⟨r,rfl,Y,J,I⟩
 .refine⟨.sl H.next 0 (n+1) 1,H.alloc (.cells (m.map (.int .i64)) 0 true),append_nil Tryz.underlying23 jy pe ph aj C (Ay m) rfl kI kI,⟨H.next,sk,iH,z,cI _⟩,rfl,fun k j=>hY,fun k j _=>hY,fun k j=>.inr ?_⟩;obtain⟨K,e⟩:=j;simp only[AV.sl.injEq]at e;omega
 .have U:iV false H 1 (.sl r 0 l.length 1)=H:=by
   unfold iV;simp only[Y,b9,cO,kX];have:Nat.blt l.length l.length=false:=by
    cases o:Nat.blt l.length l.length with
    |false=>rfl
    |true=>rw[jQ]at o;omega
   simp[this]
  refine⟨.sl H.next 0 (l.length+(n+1)) 1,(H.kill r).alloc (.cells (l.map (.int .i64)++m.map (.int .i64)) (0-0) true),?_,⟨H.next,sk,?_,z,cI _⟩,rfl,fun k j=>?_,fun k j M=>?_,fun k j=>.inr ?_⟩
  .simp only[zgH,Tryz.underlying23,jy,pe,ph,show zhz Tryz.prog 23=true by kernel_rfl,C,Ay,U,pR,cV,dg,eM,jM,Y,cO,b9,kX,fo];rw[aq ⟨kI,kI,trivial,trivial,dZ _⟩];simp
  .show((H.kill r).alloc _).get (H.kill r).next=_
   rw[zfk,aq rfl];simp
  .rw[zfk,af mn,zhm,af ac]
  .rw[zfk,af mn,zhm,af (fun e=>M ⟨_,nD⟩)]
  .obtain⟨K,e⟩:=j;simp only[AV.sl.injEq]at e;omega
theorem Zb(n:Nat):nY [.bool false] n=(List.replicate n false).map .bool:=by
 induction n with
 |zero=>rfl
 |succ n ih=>simp only[nY,ih];simp[List.replicate_succ]
theorem D8{H:Hp}(n:Nat)(Z:n<2^40):zhT Tryz.prog H 84 (.int .i64 n) (.int .i64 n)=some (.sl H.next 0 n 1,H.alloc (.cells ((List.replicate n false).map .bool) 0 true)):=by
 have V:zg1=70368744177664:=rfl;show zhT Tryz.prog H 84 (.int .i64 (Int.ofNat n)) (.int .i64 (Int.ofNat n))=_;simp only[zhT,Tryz.underlying84,z6,Ig,Ih];rw[aq ⟨aE _,by rw[V];omega,by rw[V];omega,rfl⟩,Zb]
theorem splice_one(cs:List AV){o:Nat}(j:o<cs.length)(x:AV):splice cs o [x]=cs.set o x:=by
 rw[HW,List.set_eq_take_append_cons_drop,aq j];simp
theorem Zc{H:Hp}{r o:Nat}{cs:List AV}(J:H.get r=some (.cells cs 0 true))(j:o<cs.length)(n:Int):nf Tryz.prog H 3 (.ptr r o) (.int .i64 n)=some (H.set r (.cells (cs.set o (.int .i64 n)) 0 true)):=by
 rw[Dr,J,jy,Dq,cells_int,splice_one cs j,aq ⟨rfl,dZ _,j,rfl⟩]
theorem Zd{H:Hp}{r o:Nat}{cs:List AV}(J:H.get r=some (.cells cs 0 true))(j:o<cs.length)(b:Bool):nf Tryz.prog H 4 (.ptr r o) (.bool b)=some (H.set r (.cells (cs.set o (.bool b)) 0 true)):=by
 rw[Dr,J,z6,Dq,HX,splice_one cs j,aq ⟨rfl,dZ _,j,rfl⟩]
def xF(l:List Int):AV:=if l=[]then .nilS else gg l
def po(H:Hp)(v:AV)(l:List Int)(lo:Nat):Prop:=(v=.nilS/\l=[])\/(l≠[]/\gM H v l lo)
theorem po.n{H:Hp}{v:AV}{l:List Int}{lo:Nat}(h:po H v l lo):fQ H v l lo:=h.imp id fun h=>h.2
theorem po.keep{H H':Hp}{v:AV}{l:List Int}{lo:Nat}(h:po H v l lo)(z:H.next<=H'.next)(J:∀k,zfU v k->H'.get k=H.get k):po H' v l lo:=h.imp id fun h=>⟨h.1,h.2.keep z J⟩
theorem Jr(H:Hp)(n:Nat):∀l:List Int,iceL (iceV H (n+1)) (l.map (.int .i64))=some (l.map (.int .i64))
 |[]=>rfl
 |a::l=>by
  have:=Jr H n l;have e:iceV H (n+1) (.int .i64 a)=some (.int .i64 a):=rfl;simp only[dE,iceL,e,this]
theorem gM.iceV{H:Hp}{v:AV}{l:List Int}{lo:Nat}(h:gM H v l lo)(n:Nat):iceV H (n+2) v=some (gg l):=by
 obtain⟨r,V,rfl,Z,_⟩:=h;have e:Ab.iceV H (n+2) (.sl r 0 l.length 1)=match H.get r with
  |some (.cells Y _ _)=>match iceL (Ab.iceV H (n+1)) ((Y.drop 0).take (l.length*1))with
   |some g=>if g.length=l.length*1 then some (.lst (jN 1 l.length g))else none
   |none=>none
  |_=>none:=rfl
 rw[e,Z];simp only[fo,kX];rw[fN au,Jr];simp only[cO,cV,D7]
theorem po.iceV{H:Hp}{v:AV}{l:List Int}{lo:Nat}(h:po H v l lo)(n:Nat):iceV H (n+2) v=some (xF l):=by
 rcases h with⟨rfl,rfl⟩|⟨M,h⟩
 .rfl
 .rw[h.iceV,xF,af M]
theorem Ze(n:Nat)(l:List Int):cF (n+2) (xF l)=gg l:=by
 unfold xF;split
 .rename_i h;subst h;rfl
 .show AV.lst ((l.map fun s=>[AV.int .i64 s]).map fun J=>J.map (cF (n+1)))=_;rw[tD];rfl
def lR(H:Hp)(v:AV)(l:List Int)(lo:Nat):Prop:=∃r V,v=.sl r 0 l.length 1/\H.get r=some (.cells (l.map (.int .u8)) V true)/\V<=l.length/\lo<=r/\r<H.next
def D9(H:Hp)(v:AV)(l:List Int)(lo:Nat):Prop:=(v=.nilS/\l=[])\/lR H v l lo
theorem lR.low{H H':Hp}{v:AV}{l:List Int}{lo:Nat}(h:lR H v l lo)(z:H.next<=H'.next)(J:∀k,lo<=k->k<H.next->H'.get k=H.get k):lR H' v l lo:=by
 obtain⟨r,V,i,g,m,O,K⟩:=h;exact⟨r,V,i,by rw[J r O K];exact g,m,O,ac⟩
theorem lR.lt{H:Hp}{v:AV}{l:List Int}{lo:Nat}(h:lR H v l lo){k:Nat}(j:zfU v k):lo<=k/\k<H.next:=by
 obtain⟨r,V,rfl,_,_,O,K⟩:=h;obtain⟨n,e⟩:=j;simp only[AV.sl.injEq]at e;rw[<-e.1];exact⟨O,K⟩
theorem lR.keep{H H':Hp}{v:AV}{l:List Int}{lo:Nat}(h:lR H v l lo)(z:H.next<=H'.next)(J:∀k,zfU v k->H'.get k=H.get k):lR H' v l lo:=by
 obtain⟨r,V,rfl,g,m,O,K⟩:=h;exact⟨r,V,rfl,Ap,m,O,ac⟩
theorem Js(l:List Int):(l.map (AV.int .u8)).all AV.one=true:=by simp[AV.one]
theorem Zf{H:Hp}{r imm:Nat}{m:List Int}(h:H.get r=some (.cells (m.map (.int .u8)) imm true)):zhd H 1 (.sl r 0 m.length 1)=some (m.length,m.map (.int .u8)):=by
 have:=se (H:=H) (r:=r) (o:=0) (n:=m.length) (z:=1) (s:=1) h au;rw[this,fo,fN au]
theorem Zg{H:Hp}{v x:AV}{l m:List Int}{lo:Nat}(L:D9 H v l lo)(z:lo<=H.next)(C:zhd H 1 x=some (m.length,m.map (.int .u8)))(K:m≠[])(o:l.length+m.length<2^40):
 ∃O H',zgH Tryz.prog false H 93 93 v x=some (O,H')/\lR H' O (l++m) lo/\H'.next=H.next+1/\(∀k,k<lo->H'.get k=H.get k)/\so v O H H':=by
 obtain⟨n,Z⟩:∃n,m.length=n+1:=⟨m.length-1,DZ⟩;have g:zg1=70368744177664:=rfl;rw[Z]at C;rcases L with⟨rfl,rfl⟩|⟨r,V,rfl,Y,I,i,h5⟩
 .refine⟨.sl H.next 0 (n+1) 1,H.alloc (.cells (m.map (.int .u8)) 0 true),append_nil Tryz.underlying93 Dx Dy Dz aj C (Js m) rfl kI kI,⟨H.next,0,sk,iH,ac,z,cI _⟩,rfl,fun k j=>hY,fun k j _=>hY,fun k j=>.inr ?_⟩;obtain⟨J,e⟩:=j;simp only[AV.sl.injEq]at e;omega
 .have U:iV false H 1 (.sl r 0 l.length 1)=H:=by
   unfold iV;simp only[Y,b9,cO,kX];have:Nat.blt l.length l.length=false:=by
    cases o:Nat.blt l.length l.length with
    |false=>rfl
    |true=>rw[jQ]at o;omega
   simp[this]
  refine⟨.sl H.next 0 (l.length+(n+1)) 1,(H.kill r).alloc (.cells (l.map (.int .u8)++m.map (.int .u8)) (V-0) true),?_,⟨H.next,V,sk,?_,cC,z,cI _⟩,rfl,fun k j=>?_,fun k j M=>?_,fun k j=>.inr ?_⟩
  .simp only[zgH,Tryz.underlying93,Dx,Dy,Dz,show zhz Tryz.prog 93=true by kernel_rfl,C,Js,U,pR,cV,dg,eM,jM,Y,cO,b9,kX,fo];rw[aq ⟨kI,kI,trivial,trivial,I⟩];simp
  .show((H.kill r).alloc _).get (H.kill r).next=_
   rw[zfk,aq rfl];simp
  .rw[zfk,af mn,zhm,af ac]
  .rw[zfk,af mn,zhm,af (fun e=>M ⟨_,nD⟩)]
  .obtain⟨J,e⟩:=j;simp only[AV.sl.injEq]at e;omega
theorem Zh{H:Hp}{v:AV}{l:List Int}{lo r imm:Nat}(s:Int)(U:D9 H v l lo)(z:lo<=H.next)(K:H.get r=some (.cells [.int .u8 s] imm true))(o:l.length<2^39):
 ∃O H',zgH Tryz.prog false H 93 93 v (.sl r 0 1 1)=some (O,H')/\lR H' O (l++[s]) lo/\H'.next=H.next+1/\(∀k,k<lo->H'.get k=H.get k)/\so v O H H':=
 Zg U z (Zf (m:=[s]) K) au cC
theorem Jt(H:Hp)(n:Int):zgW Tryz.prog H 93 1 [(0,.int .u8 n)]=some (.sl H.next 0 1 1,H.alloc (.cells [.int .u8 n] 0 true)):=aj
theorem bin_shr{D:BinOp->Sx->Sx->Option Bool}{t:TypeId}{k Y:IntKind}{a:Int}{m:Nat}(h:m<64)(j:k=.u64):zgV Tryz.prog D .shr t (.int k a) (.int Y (m:Int))=some (.int k (a.fdiv (2^ m))):=by
 subst j;have e:zgV Tryz.prog D .shr t (.int .u64 a) (.int Y (Int.ofNat m))=some (.int .u64 (a.fdiv (2^ min m 64))):=rfl;rw[show min m 64=m by omega]at e;exact e
def mp(n:Int)(i:Nat):Int:=IntKind.wrap .u8 (n.fdiv (2^ (8*i)))
def zht(n:Int)(i:Nat):List Int:=(List.range i).map (mp n)
theorem rj(n:Int)(i:Nat):(zht n i).length=i:=by simp[zht]
theorem Zi(n:Int)(i:Nat):zht n (i+1)=zht n i++[mp n i]:=by simp[zht,List.range_succ]
def sr(l:List Int):List UInt8:=l.map fun n=>UInt8.ofNat n.toNat
end Go.Proofs.YtpbcimfiofmoeaaGreat
namespace Go.Ab
set_option maxRecDepth 20000
open Go
instance:DecidableEq Nd:=fun x y=>decidable_of_iff (x.op=y.op/\x.imm=y.imm/\x.kids=y.kids) (by cases x;cases y;simp)
def bK(op:Int):Int×Bool:=
 if op=1\/op=2\/op=3\/op=26 then (0,true)
 else if op=20\/op=21\/op=24\/op=25 then (1,true)
 else if op=23\/op=27\/op=29 then (2,true)
 else if op=22\/op=28 then (3,true)
 else if op=30\/op=31 then (-1,true)
 else if 4<=op/\op<=19 then (2,true)
 else (0,false)
def fu(n:Int):Int:=(n-1).tdiv 2
def mP(l:List Nd)(k:Int):Int:=match l[k.toNat]? with
 |some n=>n.kids.length
 |none=>0
def zgt(l:List Nd)(n:Nd):Int:=
 if n.op=2 then 5 else if n.op=3 then 255 else if n.op=23\/n.op=28 then 3 else if n.op=30 then 7 else if n.op=31 then 15
 else if n.op=25 then fu (mP l (n.kids.headD 0))-1 else 0
def zf2(l:List Nd)(n:Nd):Bool:=
 if n.op=1 then true
 else if n.op=27 then decide (1<=n.imm)&&decide (n.imm<=1000016)
 else decide (0<=n.imm)&&decide (n.imm<=zgt l n)
def el(op:Int):List Int:=
 if op=22 then [1,1,1]else if op=23\/op=27\/op=29 then [2,1]else if op=28 then [2,1,1]else if op=24 then [2]else if op=25 then [3]else [1,1]
def zgh:List Int->List Int->Bool
 |[],_=>true
 |a::s,w=>decide (a=w.headD 0)&&zgh s w.tail
def xG(n:Nat):List Int:=((List.replicate n (1:Int)).set 0 2).set (fu n+1).toNat 2
def zfY(op:Int)(s:List Int):Bool:=
 if (bK op).2=false then false
 else if 0<=(bK op).1/\(bK op).1≠s.length then false
 else if op=31 then decide (3<=s.length)&&decide (s.length%2=1)&&decide (fu s.length<=16)&&zgh s (xG s.length)
 else if op=30 then decide (1<=s.length)&&decide (s.length<=7)&&decide (s.headD 0=2)&&s.tail.all fun x=>decide (x=1)
 else if op=22/\s.getD 1 0=2 then decide (s.headD 0=1)&&decide (s.getD 2 0=2)
 else zgh s (el op)
def zgY(i:Nat)(V:List Int):List Int->Option (List Int)
 |[]=>some []
 |k::ks=>if k<0\/(i:Int)<=k\/V.getD k.toNat 0=0 then none else (zgY i V ks).map fun s=>V.getD k.toNat 0::s
def zgr(n:Nd)(s:List Int):Int:=
 if n.op=31 then 3
 else if n.op=26\/n.op=27\/n.op=28\/n.op=29\/n.op=30 then 2
 else if n.op=22 then s.getD 1 0
 else if n.op=3/\n.imm.tmod 16=0 then 2
 else if n.op=25/\n.imm=0 then 2
 else 1
def i9(l:List Nd)(i:Nat)(V:List Int):Int:=match l[i]? with
 |none=>0
 |some n=>match zgY i V n.kids with
  |none=>0
  |some s=>if zfY n.op s&&zf2 l n then zgr n s else 0
def zga(l:List Nd):Nat->List Int
 |0=>[]
 |i+1=>zga l i++[i9 l i (zga l i)]
def zgu(l:List Nd)(i:Int):Int:=if i<0\/(l.length:Int)<=i then 0 else (zga (l.take (i.toNat+1)) (i.toNat+1)).getD i.toNat 0
theorem zh8(l:List Nd):∀i,(zga l i).length=i
 |0=>rfl
 |i+1=>by rw[zga,fG,zh8 l i];rfl
theorem xH(l:List Nd):∀{i j:Nat},j<i->(zga l i).getD j 0=i9 l j (zga l j)
 |0,j,h=>by omega
 |i+1,j,h=>by
  rw[zga];by_cases e:j<i
  .rw[dd,je (by rw[zh8];exact e),<-dd];exact xH l e
  .obtain rfl:j=i:=by omega
   rw[dd,l0 tS,zh8,qS];rfl
theorem rk{i:Nat}{V:List Int}:∀{Z s:List Int},zgY i V Z=some s->∀k∈Z,0<=k/\k<i/\V.getD k.toNat 0≠0
 |[],s,_,k,h=>by simp at h
 |a::Z,s,h,k,j=>by
  rw[zgY]at h;split at h
  .cases h
  .rename_i c;obtain⟨t,C,_⟩:=oq.1 h;rcases eP.1 j with rfl|j
   .omega
   .exact rk C k j
theorem ss{i:Nat}{V:List Int}:∀{Z s:List Int},zgY i V Z=some s->s.length=Z.length
 |[],s,h=>by cases h;rfl
 |a::Z,s,h=>by
  rw[zgY]at h;split at h
  .cases h
  .obtain⟨t,C,rfl⟩:=oq.1 h;rw[dg,dg,ss C]
theorem Ea{l:List Nd}{i:Nat}{V:List Int}{n:Nd}(z:l[i]?=some n)(h:i9 l i V≠0):∃s,zgY i V n.kids=some s/\zfY n.op s=true/\zf2 l n=true:=by
 unfold i9 at h;rw[z]at h;simp only at h;split at h
 .exact absurd rfl h
 .rename_i s K;split at h
  .rename_i c;rw[co]at c;exact⟨s,K,c.1,c.2⟩
  .exact absurd rfl h
theorem Ju{l:List Nd}{m:Nat}{n:Nd}(h:n.op=25->∃k V,n.kids=k::V/\k.toNat<m):zf2 (l.take m) n=zf2 l n:=by
 have e:zgt (l.take m) n=zgt l n:=by
  unfold zgt;by_cases c:n.op=25
  .obtain⟨k,V,i,g⟩:=h c;rw[c];simp only[i,tT,mP,pK,g,cV]
  .simp only[c,cS]
 unfold zf2;rw[e]
theorem Zj{l:List Nd}{i m:Nat}(O:i<m)(V:List Int):i9 (l.take m) i V=i9 l i V:=by
 unfold i9;rw[pK,aq O];cases z:l[i]? with
 |none=>rfl
 |some n=>
  simp only;cases j:zgY i V n.kids with
  |none=>rfl
  |some s=>
   simp only;by_cases c:zfY n.op s=true
   .have e:zf2 (l.take m) n=zf2 l n:=Ju fun Y=>by
     have L:=ss j;have M:s.length=1:=by
      have Z:=c;unfold zfY at Z;rw[Y]at Z;have:bK 25=(1,true):=aD;rw[this]at Z;simp only at Z;split at Z
      .cases Z
      .split at Z
       .cases Z
       .omega
     cases U:n.kids with
     |nil=>rw[U,M]at L;simp at L
     |cons k K=>
      refine⟨k,K,rfl,?_⟩;have:=rk j k (by rw[U];exact dJ);omega
    rw[e]
   .have g:zfY n.op s=false:=by simpa using c
    rw[g,eJ,eJ]
theorem Eb{l:List Nd}{m:Nat}:∀{i:Nat},i<=m->zga (l.take m) i=zga l i
 |0,_=>rfl
 |i+1,h=>by rw[zga,zga,Eb (by omega:i<=m),Zj ac]
theorem vm{l:List Nd}{i:Nat}(h:i<l.length):zgu l i=i9 l i (zga l i):=by
 unfold zgu;rw[af ac,gV,Eb (aE _),xH l (cI i)]
theorem Az{l:List Nd}{i j:Nat}(Y:j<i)(I:i<=l.length):(zga l i).getD j 0=zgu l j:=by
 rw[xH l Y,vm ac]
theorem Jv{l m:List Nd}{i:Nat}(h:i<l.length):zgu (l++m) i=zgu l i:=by
 unfold zgu;rw[af cC,af ac,gV,Co ac]
def d8(op:Int):Int:=if op=2 then 5 else if op=3 then 255 else if op=23\/op=28 then 3 else if op=27 then 1000016 else if op=30 then 7 else if op=31 then 15 else if op=25 then 15 else -1
def zgp(op n:Int):Bool:=
 if op=1 then true
 else if d8 op<0 then decide (n=0)
 else decide (0<=n)&&decide (n<=d8 op)&&(!decide (op=27)||decide (0<n))
def zgx(k:List Int):Bool:=k.all fun x=>decide (x=1)
def zgk(b:Bool)(n:Int):Int:=if b then n else 0
def zfX(l:List Nd)(n:Nd)(k:List Int):Int:=
 if (bK n.op).2=false then 0
 else if 0<=(bK n.op).1/\(n.kids.length:Int)≠(bK n.op).1 then 0
 else if zgp n.op n.imm=false then 0
 else if n.op=3 then (if n.imm.tmod 16=0 then 2 else 1)
 else if n.op=26 then 2
 else if n.op=22 then (if k.headD 0≠1\/k.getD 1 0≠k.getD 2 0\/k.getD 1 0=3 then 0 else k.getD 1 0)
 else if n.op=23 then zgk (decide (k.headD 0=2)&&decide (k.getD 1 0=1)) 1
 else if n.op=24 then zgk (decide (k.headD 0=2)) 1
 else if n.op=25 then (if k.headD 0≠3\/(mP l (n.kids.headD 0)).tdiv 2<=n.imm then 0 else zgk (decide (n.imm=0)) 1+1)
 else if n.op=27\/n.op=29 then zgk (decide (k.headD 0=2)&&decide (k.getD 1 0=1)) 2
 else if n.op=28 then zgk (decide (k.headD 0=2)&&decide (k.getD 1 0=1)&&decide (k.getD 2 0=1)) 2
 else if n.op=30 then zgk (decide (1<=k.length)&&decide (k.length<=7)&&decide (k.headD 0=2)&&zgx (k.drop 1)) 2
 else if n.op=31 then zgk (decide (k.length%2=1)&&decide (1<=k.length/2)&&decide (k.length/2<=16)&&decide (k.headD 0=2)&&zgx ((k.drop 1).take (k.length/2))&&decide (k.getD (k.length/2+1) 0=2)&&zgx (k.drop (k.length/2+2))) 3
 else zgk (zgx k) 1
def Ec(l:List Nd)(i:Nat)(V:List Int):Int:=match l[i]? with
 |none=>0
 |some n=>match zgY i V n.kids with
  |none=>0
  |some s=>zfX l n s
theorem Ed:∀(s w:List Int),s.length<=w.length->(∀x∈w,x=1)->zgh s w=zgx s
 |[],w,_,_=>by simp[zgh,zgx]
 |a::s,[],h,_=>by simp at h
 |a::s,b::w,h,hw=>by
  have o:=hw b dJ;subst o;rw[zgh,tT,List.tail_cons,Ed s w jv (fun x C=>hw x (dO _ C))];simp[zgx]
theorem AA(a b:Int)(s w:List Int):zgh (a::s) (b::w)=(decide (a=b)&&zgh s w):=rfl
theorem Zk(n m:Nat)(h:m<n):(List.replicate n (1:Int)).set m 2=List.replicate m 1++2::List.replicate (n-m-1) 1:=by
 apply D1;intro i;rw[mL,List.getElem?_append];simp only[pZ];by_cases c:i<m
 .rw[af ac,aq c,tU,tU,aq ac,aq c]
 .rw[af c];by_cases e:m=i
  .subst e;simp[h]
  .rw[af e];obtain⟨j,rfl⟩:∃j,i=m+1+j:=⟨i-m-1,ac⟩;rw[show m+1+j-m=j+1 by omega,qZ,tU,tU];by_cases g:m+1+j<n
   .rw[aq g,aq ac]
   .rw[af g,af ac]
theorem Jw:∀(a s w v:List Int),a.length=w.length->zgh (a++s) (w++v)=(zgh a w&&zgh s v)
 |[],s,[],v,_=>by simp[zgh]
 |x::a,s,y::w,v,h=>by
  rw[pj,pj,AA,AA,Jw a s w v jv,tV]
 |[],_,_::_,_,h=>by simp at h
 |_::_,_,[],_,h=>lL
theorem AB(n:Nat)(h:1<=n):fu n=((n-1)/2:Nat):=by
 unfold fu;rw[show(n:Int)-1=((n-1:Nat):Int) by omega];rfl
theorem Jx(s:List Int)(h:3<=s.length)(K:s.length%2=1):zgh s (xG s.length)=(decide (s.headD 0=2)&&zgx ((s.drop 1).take (s.length/2))&&decide (s.getD (s.length/2+1) 0=2)&&zgx (s.drop (s.length/2+2))):=by
 obtain⟨m,V⟩:∃m,s.length=2*m+1:=⟨s.length/2,ac⟩;have O:1<=m:=ac;have U:s.length/2=m:=ac;have M:(fu s.length+1).toNat=m+1:=xy;have L:xG s.length=2::(List.replicate m 1++2::List.replicate (m-1) 1):=by
  unfold xG;rw[M,V];have o:List.replicate (2*m+1) (1:Int)=1::List.replicate (2*m) 1:=rfl;rw[o,List.set_cons_zero,List.set_cons_succ,Zk _ _ ac]
  congr 4;omega
 rw[L,U]
 match s,V with
 |a::t,V=>
  have I:t.length=2*m:=wD;rw[AA,tT,va,fo];have hd:t=t.take m++t.drop m:=(CF m t).symm;have j:(t.take m).length=m:=rY
  conv=>lhs;rw[hd]
  rw[Jw _ _ _ _ r8,Ed (t.take m) _ r8 (fun x C=>At C)];have J:(a::t).getD (m+1) 0=t.getD m 0:=rfl;have Z:(a::t).drop (m+2)=t.drop (m+1):=rfl;rw[J,Z];have Y:t.drop m=t.getD m 0::t.drop (m+1):=by
   rw[gW ac,dd,aR ac];rfl
  rw[Y,AA,Ed (t.drop (m+1)) _ cC (fun x C=>At C),tV,tV]
theorem su{i:Type}{s:List i}(h:s.length=0):s=[]:=Jb h
theorem pp{i:Type}{s:List i}(h:s.length=1):∃a,s=[a]:=by
 match s,h with
 |[a],_=>exact⟨a,rfl⟩
theorem pq{i:Type}{s:List i}(h:s.length=2):∃a b,s=[a,b]:=by
 match s,h with
 |[a,b],_=>exact⟨a,b,rfl⟩
theorem sw{i:Type}{s:List i}(h:s.length=3):∃a b c,s=[a,b,c]:=by
 match s,h with
 |[a,b,c],_=>exact⟨a,b,c,rfl⟩
theorem Zl{l:List Nd}{n:Nd}{s:List Int}(L:s.length=n.kids.length)(j:∀x∈s,1<=x/\x<=3)(h3:s.headD 0=3->n.op=25->∃m:Nat,mP l (n.kids.headD 0)=2*(m:Int)+1/\1<=m/\m<=16):
 (if zfY n.op s&&zf2 l n then zgr n s else 0)=zfX l n s:=by
 obtain⟨J,V,C⟩:=n;simp only at L h3;have Z:∀a:Int,0<=a->bK J=(a,true)->(s.length:Int)≠a->(if zfY J s&&zf2 l ⟨J,V,C⟩then zgr ⟨J,V,C⟩ s else 0)=zfX l ⟨J,V,C⟩ s:=fun a h0 U hne=>by
  have i:zfY J s=false:=by
   unfold zfY;rw[U];simp only[l7,cS];rw[aq ⟨h0,Ne.symm hne⟩]
  have g:zfX l ⟨J,V,C⟩ s=0:=by
   unfold zfX;simp only[U,l7,cS];rw[aq ⟨h0,by rw[<-L];exact hne⟩]
  rw[i,g];rfl
 have cases:J<1\/31<J\/J=1\/J=2\/J=3\/(4<=J/\J<=19)\/J=20\/J=21\/J=22\/J=23\/J=24\/J=25\/J=26\/J=27\/J=28\/J=29\/J=30\/J=31:=ac;rcases cases with h|h|rfl|rfl|rfl|h|rfl|rfl|rfl|rfl|rfl|rfl|rfl|rfl|rfl|rfl|rfl|rfl
 .have U:bK J=(0,false):=by
   unfold bK;repeat rw[af ac]
  simp[zfY,zfX,U]
 .have U:bK J=(0,false):=by
   unfold bK;repeat rw[af ac]
  simp[zfY,zfX,U]
 -- 1
 .by_cases c:(s.length:Int)=0
  .obtain rfl:=su (s:=s) ac;have:C=[]:=su l8;subst this;simp[zfY,zfX,bK,zf2,zgp,zgr,zgh,zgx,zgk]
  .exact Z 0 ac aD c
 -- 2
 .by_cases c:(s.length:Int)=0
  .obtain rfl:=su (s:=s) ac;have:C=[]:=su l8;subst this;by_cases b:0<=V/\V<=5
   .have b1:=b.1;have I:=b.2;simp[zfY,zfX,bK,zf2,zgp,zgt,d8,zgr,zgh,zgx,zgk,b1,I]
   .simp[zfY,zfX,bK,zf2,zgp,zgt,d8,zgr,zgh,zgx,zgk];omega
  .exact Z 0 ac aD c
 -- 3
 .by_cases c:(s.length:Int)=0
  .obtain rfl:=su (s:=s) ac;have:C=[]:=su l8;subst this;by_cases b:0<=V/\V<=255
   .have b1:=b.1;have I:=b.2;by_cases e:V.tmod 16=0<;>simp[zfY,zfX,bK,zf2,zgp,zgt,d8,zgr,zgh,b1,I,e]
   .simp[zfY,zfX,bK,zf2,zgp,zgt,d8,zgr,zgh,];omega
  .exact Z 0 ac aD c
 -- 4 to 19
 .obtain⟨g1,g2⟩:=h;have q:∀k:Int,(k<4\/19<k)->¬J=k:=fun k j e=>ac;have U:bK J=(2,true):=by
   unfold bK;rw[af ac,af ac,af ac,af ac,af ac,aq ⟨g1,g2⟩]
  have t:∀k:Int,(k<4\/19<k)->decide (J=k)=false:=fun k j=>d6 (q k j);by_cases c:(s.length:Int)=2
  .obtain⟨a,b,rfl⟩:=pq (s:=s) ac;obtain⟨x,y,rfl⟩:=pq (s:=C) l8;have m0:d8 J=-1:=by unfold d8;rw[af (q 2 ac),af (q 3 ac),af ac,af (q 27 ac),af (q 30 ac),af (q 31 ac),af (q 25 ac)]
   have zfJ:zgt l ⟨J,V,[x,y]⟩=0:=by unfold zgt;simp only[];rw[af (q 2 ac),af (q 3 ac),af ac,af (q 30 ac),af (q 31 ac),af (q 25 ac)]
   have m2:el J=[1,1]:=by unfold el;rw[af (q 22 ac),af ac,af (q 28 ac),af (q 24 ac),af (q 25 ac)]
   have m3:zgr ⟨J,V,[x,y]⟩ [a,b]=1:=by unfold zgr;simp only[];rw[af (q 31 ac),af ac,af (q 22 ac),af (fun e=>q 3 ac e.1),af (fun e=>q 25 ac e.1)]
   have i:zfY J [a,b]=(decide (a=1)&&decide (b=1)):=by
    unfold zfY;rw[U];simp only[l7,cS];rw[af au,af (q 31 ac),af (q 30 ac),af (fun e=>q 22 ac e.1),m2];simp[zgh]
   have g:zf2 l ⟨J,V,[x,y]⟩=decide (V=0):=by
    unfold zf2;simp only[];rw[af (q 1 ac),af (q 27 ac),zfJ];by_cases z:V=0
    .simp[z]
    .simp[z];omega
   have e3:zgp J V=decide (V=0):=by
    unfold zgp;rw[af (q 1 ac),m0];rfl
   have e4:zfX l ⟨J,V,[x,y]⟩ [a,b]=if V=0 then zgk (zgx [a,b]) 1 else 0:=by
    unfold zfX;simp only[U,e3,l7,cS];rw[af au];by_cases z:V=0
    .rw[af (by simp[z]),af (q 3 ac),af (q 26 ac),af (q 22 ac),af (q 23 ac),af (q 24 ac),af (q 25 ac),af ac,af (q 28 ac),af (q 30 ac),af (q 31 ac),aq z]
    .rw[aq (by simp[z]),af z]
   rw[i,g,e4,m3];by_cases z:V=0
   .simp[z,zgk,zgx]
   .simp[z]
  .exact Z 2 ac U c
 -- 20
 .by_cases c:(s.length:Int)=1
  .obtain⟨a,rfl⟩:=pp (s:=s) ac;obtain⟨x,rfl⟩:=pp (s:=C) l8;have K:=j a au;by_cases b:V=0
   .subst b;simp[zfY,zfX,bK,zf2,zgp,zgt,d8,zgr,zgh,el,zgx,zgk]
   .have I:¬(0<=V/\V<=0):=by omega
    simp[zfY,zfX,bK,zf2,zgp,zgt,d8,zgr,zgh,el,b];omega
  .exact Z 1 ac aD c
 -- 21
 .by_cases c:(s.length:Int)=1
  .obtain⟨a,rfl⟩:=pp (s:=s) ac;obtain⟨x,rfl⟩:=pp (s:=C) l8;have K:=j a au;by_cases b:V=0
   .subst b;simp[zfY,zfX,bK,zf2,zgp,zgt,d8,zgr,zgh,el,zgx,zgk]
   .have I:¬(0<=V/\V<=0):=by omega
    simp[zfY,zfX,bK,zf2,zgp,zgt,d8,zgr,zgh,el,b];omega
  .exact Z 1 ac aD c
 -- 22
 .by_cases c:(s.length:Int)=3
  .obtain⟨a,b,c1,rfl⟩:=sw (s:=s) ac;obtain⟨x,y,z,rfl⟩:=sw (s:=C) l8;have K:=j a au;have kb:=j b au;have kc:=j c1 au;by_cases z:V=0
   .subst z;have ka':a=1\/a=2\/a=3:=ac;have kb':b=1\/b=2\/b=3:=ac;have kc':c1=1\/c1=2\/c1=3:=ac;rcases ka' with rfl|rfl|rfl<;>rcases kb' with rfl|rfl|rfl<;>rcases kc' with rfl|rfl|rfl<;>simp[zfY,zfX,bK,zf2,zgp,zgt,d8,zgr,zgh,el,]
   .simp[zfY,zfX,bK,zf2,zgp,zgt,d8,zgr,zgh,el,z];omega
  .exact Z 3 ac aD c
 -- 23
 .by_cases c:(s.length:Int)=2
  .obtain⟨a,b,rfl⟩:=pq (s:=s) ac;obtain⟨x,y,rfl⟩:=pq (s:=C) l8;have K:=j a au;have kb:=j b au;by_cases z:0<=V/\V<=3
   .have O:=z.1;have M:=z.2;simp[zfY,zfX,bK,zf2,zgp,zgt,d8,zgr,zgh,el,zgk,O,M]
   .have Y:¬(0<=V)\/¬(V<=3):=by omega
    rcases Y with Y|Y <;>simp[zfY,zfX,bK,zf2,zgp,zgt,d8,zgh,el,Y]
  .exact Z 2 ac aD c
 -- 24
 .by_cases c:(s.length:Int)=1
  .obtain⟨a,rfl⟩:=pp (s:=s) ac;obtain⟨x,rfl⟩:=pp (s:=C) l8;have K:=j a au;by_cases b:V=0
   .subst b;simp[zfY,zfX,bK,zf2,zgp,zgt,d8,zgr,zgh,el,zgk]
   .have I:¬(0<=V/\V<=0):=by omega
    simp[zfY,zfX,bK,zf2,zgp,zgt,d8,zgr,zgh,el,b];omega
  .exact Z 1 ac aD c
 -- 25
 .by_cases c:(s.length:Int)=1
  .obtain⟨a,rfl⟩:=pp (s:=s) ac;obtain⟨x,rfl⟩:=pp (s:=C) l8;have K:=j a au;by_cases e:a=3
   .subst e;obtain⟨m,hm,zfJ,m2⟩:=h3 rfl rfl;simp only[tT]at hm;have l1:fu (mP l x)=m:=by rw[hm];unfold fu;rw[show(2*(m:Int)+1-1)=((2*m:Nat):Int) by omega];show(((2*m)/2:Nat):Int)=m;omega
    have l2:(mP l x).tdiv 2=m:=by rw[hm];show(((2*m+1)/2:Nat):Int)=m;omega
    by_cases z:0<=V/\V<=(m:Int)-1
    .have O:=z.1;have M:=z.2;have z3:V<=15:=ac;have z4:¬(m:Int)<=V:=ac;by_cases y:V=0
     .subst y;simp[zfY,zfX,bK,zf2,zgp,zgt,d8,zgr,zgh,el,zgk,l1,l2,];rw[aq ac,af ac]
     .simp[zfY,zfX,bK,zf2,zgp,zgt,d8,zgr,zgh,el,zgk,l1,l2,O,M,z3,z4,y]
    .by_cases O:0<=V
     .have M:¬V<=(m:Int)-1:=by omega
      have z4:(m:Int)<=V:=ac;simp[zfY,zfX,bK,zf2,zgp,zgt,d8,zgh,el,l1,l2,O,M,z4]
     .simp[zfY,zfX,bK,zf2,zgp,zgt,d8,zgh,el,l1,O]
   .simp[zfY,zfX,bK,zf2,zgp,zgt,d8,zgh,el,e]
  .exact Z 1 ac aD c
 -- 26
 .by_cases c:(s.length:Int)=0
  .obtain rfl:=su (s:=s) ac;have:C=[]:=su l8;subst this;by_cases b:V=0
   .subst b;simp[zfY,zfX,bK,zf2,zgp,zgt,d8,zgr,zgh,]
   .have I:¬(0<=V/\V<=0):=by omega
    simp[zfY,zfX,bK,zf2,zgp,zgt,d8,zgr,zgh,b];omega
  .exact Z 0 ac aD c
 -- 27
 .by_cases c:(s.length:Int)=2
  .obtain⟨a,b,rfl⟩:=pq (s:=s) ac;obtain⟨x,y,rfl⟩:=pq (s:=C) l8;have K:=j a au;have kb:=j b au;by_cases z:1<=V/\V<=1000016
   .have O:=z.1;have M:=z.2;have z3:0<=V:=ac;have z4:0<V:=ac;simp[zfY,zfX,bK,zf2,zgp,d8,zgr,zgh,el,zgk,O,M,z3,z4]
   .have Y:¬(1<=V)\/¬(V<=1000016):=by omega
    rcases Y with Y|Y
    .have z4:¬0<V:=by omega
     simp[zfY,zfX,bK,zf2,zgp,d8,zgh,el,Y,z4]
    .simp[zfY,zfX,bK,zf2,zgp,d8,zgh,el,Y]
  .exact Z 2 ac aD c
 -- 28
 .by_cases c:(s.length:Int)=3
  .obtain⟨a,b,c1,rfl⟩:=sw (s:=s) ac;obtain⟨x,y,z,rfl⟩:=sw (s:=C) l8;have K:=j a au;have kb:=j b au;have kc:=j c1 au;by_cases z:0<=V/\V<=3
   .have O:=z.1;have M:=z.2;simp[zfY,zfX,bK,zf2,zgp,zgt,d8,zgr,zgh,el,zgk,O,M,tV]
   .have Y:¬(0<=V)\/¬(V<=3):=by omega
    rcases Y with Y|Y <;>simp[zfY,zfX,bK,zf2,zgp,zgt,d8,zgh,el,Y]
  .exact Z 3 ac aD c
 -- 29
 .by_cases c:(s.length:Int)=2
  .obtain⟨a,b,rfl⟩:=pq (s:=s) ac;obtain⟨x,y,rfl⟩:=pq (s:=C) l8;have K:=j a au;have kb:=j b au;by_cases b:V=0
   .subst b;simp[zfY,zfX,bK,zf2,zgp,zgt,d8,zgr,zgh,el,zgk]
   .have I:¬(0<=V/\V<=0):=by omega
    simp[zfY,zfX,bK,zf2,zgp,zgt,d8,zgr,zgh,el,b];omega
  .exact Z 2 ac aD c
 -- 30
 .have i:zfY 30 s=(decide (1<=s.length)&&decide (s.length<=7)&&decide (s.headD 0=2)&&zgx (s.drop 1)):=by
   simp[zfY,bK,zgx,List.drop_one]
  have g:zfX l ⟨30,V,C⟩ s=if zgp 30 V=false then 0 else zgk (decide (1<=s.length)&&decide (s.length<=7)&&decide (s.headD 0=2)&&zgx (s.drop 1)) 2:=by
   simp[zfX,bK]
  have e3:zf2 l ⟨30,V,C⟩=zgp 30 V:=by simp[zf2,zgp,zgt,d8]
  rw[i,g,e3];generalize (decide (1<=s.length)&&decide (s.length<=7)&&decide (s.headD 0=2)&&zgx (s.drop 1))=v;cases zgp 30 V<;>cases v<;>simp[zgr,zgk]
 -- 31
 .have e3:zf2 l ⟨31,V,C⟩=zgp 31 V:=by simp[zf2,zgp,zgt,d8]
  have g:zfX l ⟨31,V,C⟩ s=if zgp 31 V=false then 0 else zgk (decide (s.length%2=1)&&decide (1<=s.length/2)&&decide (s.length/2<=16)&&decide (s.headD 0=2)&&zgx ((s.drop 1).take (s.length/2))&&decide (s.getD (s.length/2+1) 0=2)&&zgx (s.drop (s.length/2+2))) 3:=by
   simp[zfX,bK]
  have i:zfY 31 s=(decide (s.length%2=1)&&decide (1<=s.length/2)&&decide (s.length/2<=16)&&decide (s.headD 0=2)&&zgx ((s.drop 1).take (s.length/2))&&decide (s.getD (s.length/2+1) 0=2)&&zgx (s.drop (s.length/2+2))):=by
   have e:zfY 31 s=(decide (3<=s.length)&&decide (s.length%2=1)&&decide (fu s.length<=16)&&zgh s (xG s.length)):=by simp[zfY,bK]
   rw[e];by_cases p:3<=s.length
   .by_cases o:s.length%2=1
    .rw[Jx s p o,AB _ ac];have t1:1<=s.length/2:=ac;have t2:decide ((((s.length-1)/2:Nat):Int)<=16)=decide (s.length/2<=16):=by
      rw[p6];omega
     rw[t2];simp only[dt p,dt o,dt t1,fy,tV]
    .simp only[d6 o,vh]
   .have p2:decide (3<=s.length)=false:=d6 p;rw[p2];simp only[eJ]
    symm
    by_cases o:s.length%2=1
    .have:¬1<=s.length/2:=by omega
     simp only[d6 this,vh]
    .simp only[d6 o,eJ]
  rw[i,g,e3];generalize (decide (s.length%2=1)&&decide (1<=s.length/2)&&decide (s.length/2<=16)&&decide (s.headD 0=2)&&zgx ((s.drop 1).take (s.length/2))&&decide (s.getD (s.length/2+1) 0=2)&&zgx (s.drop (s.length/2+2)))=v;cases zgp 31 V<;>cases v<;>simp[zgr,zgk]
theorem Zm(n:Nd){s:List Int}(U:zfY n.op s=true)(j:∀x∈s,1<=x/\x<=3):1<=zgr n s/\zgr n s<=3:=by
 unfold zgr;by_cases J:n.op=22
 .rw[af ac,af ac,aq J];have m:s.length=3:=by
   unfold zfY at U;rw[J]at U;have:bK 22=(3,true):=aD;rw[this]at U;simp only[l7,cS]at U;by_cases e:(0:Int)<=3/\(3:Int)≠s.length
   .rw[aq e]at U;cases U
   .omega
  obtain⟨a,b,c,rfl⟩:=sw m;exact j b au
 .split
  .omega
  .split
   .omega
   .split
    .omega
    .split
     .omega
     .omega
theorem AC{i:Nat}{V:List Int}(hr:∀j,V.getD j 0=0\/1<=V.getD j 0/\V.getD j 0<=3):∀{Z s:List Int},zgY i V Z=some s->∀x∈s,1<=x/\x<=3
 |[],s,h,x,C=>by cases h;simp at C
 |a::Z,s,h,x,C=>by
  rw[zgY]at h;split at h
  .cases h
  .rename_i c;obtain⟨t,Y,rfl⟩:=oq.1 h;rcases eP.1 C with rfl|C
   .rcases hr a.toNat with e|e
    .omega
    .exact e
   .exact AC hr Y x C
theorem Zn{l:List Nd}{i:Nat}{V:List Int}(hr:∀j,V.getD j 0=0\/1<=V.getD j 0/\V.getD j 0<=3):i9 l i V=0\/1<=i9 l i V/\i9 l i V<=3:=by
 unfold i9;split
 .left;rfl
 .split
  .left;rfl
  .rename_i n z s K;split
   .rename_i c;rw[co]at c
    right;exact Zm _ c.1 (AC hr K)
   .left;rfl
theorem Ee(l:List Nd):∀(i j:Nat),(zga l i).getD j 0=0\/1<=(zga l i).getD j 0/\(zga l i).getD j 0<=3
 |0,j=>by left;simp[zga]
 |i+1,j=>by
  by_cases h:j<i+1
  .rw[xH l h];exact Zn (Ee l j)
  .left
   rw[dd,gI tS];rfl
theorem Zo{l:List Nd}{i:Nat}{V:List Int}(hr:∀j,V.getD j 0=0\/1<=V.getD j 0/\V.getD j 0<=3)(h:i9 l i V=3):∃m:Nat,mP l i=2*(m:Int)+1/\1<=m/\m<=16:=by
 unfold i9 at h;split at h
 .cases h
 .rename_i n z;split at h
  .cases h
  .rename_i s K;split at h
   .rename_i c;rw[co]at c;have L:=ss K;have O:=AC hr K;have c1:=c.1;have o:n.op=31:=by
     by_cases e:n.op=31
     .exact e
     .exfalso;unfold zgr at h;rw[af e]at h;split at h
      .omega
      .split at h
       .rename_i J;unfold zfY at c1;rw[J]at c1;have:bK 22=(3,true):=aD;rw[this]at c1;simp only[l7,cS]at c1;by_cases e:(0:Int)<=3/\(3:Int)≠s.length
        .rw[aq e]at c1;cases c1
        .obtain⟨a,b,c,rfl⟩:=sw (s:=s) ac;have Y:b=3:=h;subst Y;simp[zgh,el]at c1
       .split at h
        .omega
        .split at h<;>omega
    rw[o]at c1;simp only[zfY,bK]at c1;simp at c1;have Z:=c1.1;have M:=Z.1.1;have I:=Z.1.2;have U:=Z.2;rw[AB _ ac]at U;refine⟨s.length/2,?_,ac,ac⟩;unfold mP;rw[gV,z];simp only;omega
   .cases h
theorem Zp{l:List Nd}{i:Nat}(I:i<=l.length):Ec l i (zga l i)=i9 l i (zga l i):=by
 unfold Ec i9;cases z:l[i]? with
 |none=>rfl
 |some n=>
  simp only;cases K:zgY i (zga l i) n.kids with
  |none=>rfl
  |some s=>
   simp only;refine(Zl (ss K) (AC (Ee l i) K) fun m Z=>?_).symm;have L:=ss K;cases j:n.kids with
   |nil=>
    rw[j]at L K;cases K;simp at m
   |cons k Y=>
    rw[j]at K;have V:=rk K k dJ;rw[zgY]at K;split at K
    .cases K
    .obtain⟨t,C,rfl⟩:=oq.1 K;rw[tT]at m⊢;obtain⟨k,rfl⟩:=jw V.1;rw[gV,xH l ac]at m;exact Zo (Ee l k) m
end Go.Ab
namespace Go.Proofs.YtpbcimfiofmoeaaGreat
set_option maxRecDepth 20000
open Go Go.Ab
section
def tyR3b.tyF:=ad @cN (ad @dH (ad @fO (ad @fP (ad @eR (ad @gJ (@ej))))))
open tyR3b
mutual
def eU:Ex->Nat
 | .mk _ _ _ _ V=>mr V
def mr:List Ex->Nat
 |[]=>0
 |e::es=>max (1+eU e) (mr es)
end
def xI(x:Ex):List AV:=[.agg x.cells]
theorem Zq(x y:Ex)(h:xI x=xI y):x=y:=by simp only[xI,eB,AV.agg.injEq,a0]at h;exact Ex.inj h
def ro(l:List St):List AV:=[.lst (l.map St.cells)]
theorem Ef(x y:List St)(h:ro x=ro y):x=y:=by simp only[ro,eB,AV.lst.injEq,a0]at h;exact I4 h
mutual
def zgn:St->Nat
 | .mk _ _ _ _ _ _ _ C I=>1+zgl C+zgl I
def zgl:List St->Nat
 |[]=>0
 |x::l=>zgn x+zgl l
end
mutual
def zgc:St->Nat
 | .mk k _ _ _ _ _ _ C I=>(if k=4 then 1 else 0)+zfQ C+zfQ I
def zfQ:List St->Nat
 |[]=>0
 |x::l=>zgc x+zfQ l
end
mutual
def zfJ:St->Nat->Nat
 | .mk _ _ _ _ _ _ _ C I,d=>max d (max (zhi C (d+1)) (zhi I (d+1)))
def zhi:List St->Nat->Nat
 |[],_=>0
 |x::l,d=>max (zfJ x d) (zhi l d)
end
theorem sy(x:St):zgc x=(if x.kind=4 then 1 else 0)+zfQ x.thn+zfQ x.els:=by cases x;rw[zgc];rfl
mutual
theorem Zr:∀x:St,zgn x<=x.sz
 | .mk _ _ _ _ _ _ _ C I=>by have:=Eg C;have:=Eg I;simp only[zgn,St.sz];omega
theorem Eg:∀l:List St,zgl l<=zf0 l
 |[]=>aE _
 |x::l=>by have:=Zr x;have:=Eg l;simp only[zgl,zf0];omega
end
mutual
theorem Zs:∀x:St,zgc x<=x.sz
 | .mk k _ _ _ _ _ _ C I=>by have:=xJ C;have:=xJ I;simp only[zgc,St.sz];split<;>omega
theorem xJ:∀l:List St,zfQ l<=zf0 l
 |[]=>aE _
 |x::l=>by have:=Zs x;have:=xJ l;simp only[zfQ,zf0];omega
end
theorem zhb{z:Int}(h1:-9223372036854775808<=z)(h2:z<9223372036854775808):IntKind.wrap .i64 z=z:=tx _ ac
theorem Zt(a b c:AV):Ab.extract (.tup [a,b,c]) 0=some a:=rfl
theorem Zu(a b c:AV):Ab.extract (.tup [a,b,c]) 1=some b:=rfl
theorem Zv(a b c:AV):Ab.extract (.tup [a,b,c]) 2=some c:=rfl
end
section
def tyI1.tyF:=ad @cN (ad @eQ (@pS))
open tyI1
def lw(op:Int):AV:=.tup [.int .i64 (bK op).1,.bool (bK op).2]
theorem Zw(op:Int):fq (lw op):=.tup (.cons (.int _ _) (.cons (.bool _) .nil))
theorem Eh(H:Hp)(a:Int):zgW Tryz.prog H 23 1 [(0,.int .i64 a)]=some (.sl H.next 0 1 1,H.alloc (.cells [.int .i64 a] 0 true)):=aj
theorem Jy{a b:List Int}(h:gg a=gg b):a=b:=by
 simp only[gg,AV.lst.injEq]at h;exact I5 h
theorem Jz(x y:Int)(h:([.int .i64 x]:List AV)=[.int .i64 y]):x=y:=jv
end
section
def tyI2.tyF:=ad @ej (ad @cN (ad @eQ (ad @li (ad @iD (@qW)))))
open tyI2
abbrev iI(l:List Nd):AV:=.lst (l.map Nd.cells)
theorem vn(l:List Nd):fq (iI l):=.map fun x _=>x.pure
theorem Ei{a b:List Nd}(h:iI a=iI b):a=b:=by
 simp only[iI,AV.lst.injEq]at h;exact ml (fun _ _ _=>Nd.inj) h
theorem Zx(a:Int)(s:List Int):zhg Tryz.prog 23 (.lst ((a::s).map fun n=>[AV.int .i64 n])) (some (.int .i64 1)) none=some (.lst (s.map fun n=>[AV.int .i64 n])):=by
 have Z:(1:Int)=Int.ofNat 1:=rfl;simp only[zhg,Tryz.underlying23,jy,zg9];rw[aq ⟨au,aE _⟩];rw[fN au];cases s with
 |nil=>rfl
 |cons b s=>rfl
theorem xK(a b:AV):Ab.extract (.tup [a,b]) 0=some a:=rfl
theorem xL(a b:AV):Ab.extract (.tup [a,b]) 1=some b:=rfl
theorem Zy{op:Int}(h1:op≠31)(m:op≠30):0<=(bK op).1:=by
 unfold bK;repeat' split
 all_goals (first|decide|omega)
end
section
def tyV1.tyF:=ad @ej (ad @cN (ad @xo (ad @dH (ad @eQ (ad @li (ad @Iu (ad @ID (ad @II (ad @IJ (ad @IL (ad @IC (ad @IK (ad @IM (@Jt))))))))))))))
open tyV1
def tZ(n:Nd):List Int:=IntKind.wrap .u8 n.op::(zht (IntKind.wrap .u64 n.imm) 8++n.kids.flatMap fun k=>zht (IntKind.wrap .u64 k) 8)
theorem Zz(n:Nd):tZ n=[IntKind.wrap .u8 n.op]++zht (IntKind.wrap .u64 n.imm) 8++n.kids.flatMap fun k=>zht (IntKind.wrap .u64 k) 8:=by
 rw[tZ];simp
theorem JA:∀l:List Int,tg (l.map (.int .u8))=some (sr l)
 |[]=>rfl
 |a::l=>by
  have:=JA l;simp only[dE,tg,this];rfl
theorem ZA{H:Hp}{v:AV}{l:List Int}{lo:Nat}(U:lR H v l lo):zhJ Tryz.prog H 93 9 v=some (.str (sr l)):=by
 obtain⟨r,Z,rfl,J,_⟩:=U;have C:zhd H 1 (.sl r 0 l.length 1)=some (l.length,l.map (.int .u8)):=by
  have:=se (H:=H) (r:=r) (o:=0) (n:=l.length) (z:=1) (s:=1) J au;rw[this,fo,fN au]
 simp only[zhJ,Tryz.underlying93,Tryz.underlying9,Tryz.underlying5,C];rw[JA]
end
section
def pr:Nat->AV->Bool
 |0,_=>false
 |n+1,v=>match v with
  | .sl _ _ _ _=>true
  | .agg g=>g.any (pr n)
  |_=>false
theorem AD{S:Nat->Prop}{H:Hp}{n m k:Nat}(ih:∀{v u:AV},zgf S n H v u->pr m (cF k v)=false->cF k u=cF k v):∀{g Z:List AV},cR (zgf S n H) g Z->(g.map (cF k)).any (pr m)=false->Z.map (cF k)=g.map (cF k)
 |[],[],_,_=>rfl
 |c::g,d::Z,h,h2=>by
  simp only[dE,oG,gG]at h2;rw[dE,dE,ih h.1 h2.1,AD ih h.2 h2.2]
theorem Ej{S:Nat->Prop}{H:Hp}:∀(n m k:Nat) {v u:AV},n<=m->zgf S n H v u->pr m (cF k v)=false->cF k u=cF k v
 |0,_,_,_,_,_,h,_=>h.elim
 |n+1,0,_,_,_,h,_,_=>by omega
 |n+1,m+1,k,v,u,hm,h,h2=>by
  cases v with
  |sl r o l z=>cases k<;>simp[cF,pr]at h2
  |agg g=>
   obtain⟨Y,i,rfl⟩:=h;cases k with
   |zero=>
    have e:∀v,cF 0 v=v:=fun v=>by cases v<;>rfl
    have Z:(g.map (cF 0)).any (pr m)=false:=by
     rw[show g.map (cF 0)=g by rw[show cF 0=id from funext e,List.map_id]];simpa [cF,pr]using h2
    have:=AD (k:=0) (fun O K=>Ej n m 0 ac O K) i Z;rw[show cF 0=id from funext e,List.map_id,List.map_id]at this;rw[this]
   |succ k=>
    have Z:(g.map (cF k)).any (pr m)=false:=by simpa [cF,pr]using h2
    show AV.agg (Y.map (cF k))=AV.agg (g.map (cF k));rw[AD (fun O K=>Ej n m k ac O K) i Z]
  |_=>obtain⟨_,rfl⟩:=h;rfl
theorem ZB{l:List En}{Z:FuncId}{i:Type}{ok:i->Prop}{enc:i->List AV}{out:i->AV}(Y:∀x y,enc x=enc y->x=y)(L:∀U,zgw l Z U=dc ok enc out (U.map (cF 60)))(I:lQ l Z=true)(V:∀y,(enc y).any (pr 90)=false){x:i}(C:ok x){S:Nat->Prop}{n:Nat}(z:n<=90){H:Hp}{j us:List AV}(h1:cR (zgf S n H) j us)(h2:us.map (cF 60)=enc x):
 zfs Tryz.prog (zfn pls l) Z j H fun v H'=>v=out x/\Icy S H H':=by
 by_cases hd:∃y,ok y/\enc y=j.map (cF 60)
 .obtain⟨y,_,e⟩:=hd;have J:us.map (cF 60)=j.map (cF 60):=AD (m:=90) (fun O K=>Ej n 90 60 z O K) h1 (by rw[<-e];exact V y);refine aS ?_ (DW (r:=out x) (by show zgw l Z j=_;rw[L,<-J,h2];exact Ah Y C));rintro v H' ⟨rfl,rfl⟩;exact⟨rfl,Icy.refl _ _⟩
 .obtain⟨H',O,K⟩:=zgf.iceL (n:=100) (l:=j) (m:=us) (cR.mono (fun a b k=>zgf.up k ac) h1);refine HN (r:=out x) ?_ I rfl O ?_ ⟨rfl,K⟩
  .show zgw l Z j=none;rw[L];exact DV fun y M e=>hd ⟨y,M,e⟩
  .show zgw l Z us=_;rw[L,h2];exact Ah Y C
theorem JB{P:Program}{cfg:Cfg}{f N:Nat}{a:SC}{E:aw}{H:Hp}{Q:AX->aw->Hp->Prop}(F:aw->Hp->Prop)(h1:zfV P cfg f N a E H fun x E' H'=>x=.normal/\F E' H')(h2:∀E' H',F E' H'->Q .normal E' H'):zfV P cfg f N a E H Q:=
 zfV.mono (fun x E' H' h=>by obtain⟨rfl,h⟩:=h;exact h2 E' H' h) h1
def tyI3.tyF:=ad @cN (ad @iD (ad @eQ (ad @li (ad @ej (ad @Eh (@qW))))))
open tyI3
theorem JC(S:Nat->Prop)(n:Nat)(H:Hp):∀s:List Int,cR (zgf S (n+1) H) (s.map (.int .i64)) (s.map (.int .i64))
 |[]=>trivial
 |a::s=>⟨qc ⟨.int _ _,trivial⟩,JC S n H s⟩
theorem Ek(n:Nat)(s:List Int):cF (n+2) (gg s)=gg s:=by
 show AV.lst ((s.map fun n=>[AV.int .i64 n]).map fun J=>J.map (cF (n+1)))=_;rw[tD];rfl
theorem fQ.ic{H:Hp}{v:AV}{s:List Int}{lo:Nat}(h:fQ H v s lo):∃u,zgf (fun k=>lo<=k) 3 H v u/\cF 60 u=gg s:=by
 rcases h with⟨rfl,rfl⟩|⟨r,V,rfl,g,m,O,K⟩
 .exact⟨.nilS,qc ⟨.nilS,trivial⟩,rfl⟩
 .refine⟨.lst (jN 1 s.length (s.map (.int .i64))),⟨O,K,s.map (.int .i64),V,true,s.map (.int .i64),g,uS,au,?_,rfl⟩,?_⟩
  .rw[fo,kX,fN au];exact JC _ _ _ _
  .rw[D7];exact Ek 58 s
theorem ZC(n:Nat)(x:Nd):cF (n+4) (.agg x.cells)=.agg x.cells:=by
 show AV.agg (x.cells.map (cF (n+3)))=_;rw[Nd.cells];simp only[dE,p8,Ek];rfl
theorem JD{i:Nat}{zgM kids:List Int}{j:Nat}(Y:j<kids.length):zgY i zgM (kids.drop j)=if kids[j]<0\/(i:Int)<=kids[j]\/zgM.getD kids[j].toNat 0=0 then none else (zgY i zgM (kids.drop (j+1))).map fun s=>zgM.getD kids[j].toNat 0::s:=by
 rw[gW Y,zgY]
def sA(i:Nat)(zgM kids:List Int)(j:Nat)(s:List Int):Prop:=s.length=j/\zgY i zgM kids=(zgY i zgM (kids.drop j)).map fun t=>s++t
theorem sA.bad{i:Nat}{zgM kids:List Int}{j:Nat}{s:List Int}(h:sA i zgM kids j s){I:Int}(J:kids[j]?=some I)(o:I<0\/(i:Int)<=I\/zgM.getD I.toNat 0=0):zgY i zgM kids=none:=by
 obtain⟨Y,e⟩:=eG.1 J;rw[h.2,JD Y,e,aq o];rfl
theorem sA.next{i:Nat}{zgM kids:List Int}{j:Nat}{s:List Int}(h:sA i zgM kids j s){I:Int}(J:kids[j]?=some I)(o:¬(I<0\/(i:Int)<=I\/zgM.getD I.toNat 0=0)):sA i zgM kids (j+1) (s++[zgM.getD I.toNat 0]):=by
 obtain⟨Y,e⟩:=eG.1 J;refine⟨by simp[h.1],?_⟩;rw[h.2,JD Y,e,af o];cases zgY i zgM (kids.drop (j+1))with
 |none=>rfl
 |some t=>simp
theorem sA.done{i:Nat}{zgM kids:List Int}{s:List Int}(h:sA i zgM kids kids.length s):zgY i zgM kids=some s:=by
 rw[h.2,nI];simp[zgY]
theorem ZD{l:List Nd}{i:Nat}{zgM:List Int}{n:Nd}(z:l[i]?=some n)(h:zgY i zgM n.kids=none):i9 l i zgM=0:=by
 rw[i9,z];simp only[h]
def kK(l:List Nd):Prop:=l.length<2^30/\∀n∈l,n.kids.length<2^30
def t4(l:List Nd):List AV:=[iI l]
theorem JE(x y:List Nd)(h:t4 x=t4 y):x=y:=by
 simp only[t4,eB,a0]at h;exact Ei h
theorem kK.take{l:List Nd}(h:kK l)(k:Nat):kK (l.take k):=⟨by rw[jR];have:=h.1;omega,fun n z=>h.2 n (List.mem_of_mem_take z)⟩
theorem ZE(l:List Nd)(k:Nat)(j:k<=l.length):zhg Tryz.prog 22 (.lst (l.map Nd.cells)) none (some (.int .i64 (k:Int)))=some (.lst ((l.take k).map Nd.cells)):=by
 have Z:(k:Int)=Int.ofNat k:=rfl;simp only[zhg,Tryz.underlying22,z7,zg9];rw[aq ⟨dZ _,by rw[cO];exact j⟩];have m:((l.map Nd.cells).drop 0).take (k-0)=(l.take k).map Nd.cells:=by rw[fo,wP,zn]
 rw[m];cases l.take k with
 |nil=>rfl
 |cons a l=>simp only[dE,Nd.clen,cV]
def pw(x:List Nd×Int):List AV:=[iI x.1,.int .i64 x.2]
theorem JF(x y:List Nd×Int)(h:pw x=pw y):x=y:=by
 simp only[pw,eB,AV.int.injEq,a0,kA]at h;exact sn (Ei h.1) h.2
end
end Go.Proofs.YtpbcimfiofmoeaaGreat
namespace Go.Ab
set_option maxRecDepth 20000
open Go
def El(a b:Nat):Nat:=a^^^ (a &&& b)
def t6(n:Nd)(h:List Nat)(j:Nat)(k:Int):Nat:=if n.op=31/\fu n.kids.length<=j then El (h.getD k.toNat 0) (2^ n.imm.toNat)else h.getD k.toNat 0
def rp(n:Nd)(h:List Nat):Nat->List Int->Nat->Nat
 |_,[],m=>m
 |j,k::ks,m=>rp n h (j+1) ks (m |||t6 n h j k)
def sB(n:Nd)(h:List Nat):Nat:=rp n h 0 n.kids (if n.op=3 then 2^ (n.imm.tdiv 16).toNat else 0)
def jG(l:List Nd):Nat->List Nat
 |0=>[]
 |i+1=>jG l i++[match l[i]? with|some n=>sB n (jG l i)|none=>0]
def t7(n:Nd)(h:List (List Bool))(j:Nat):Bool:=
 (n.kids.zipIdx.any fun p=>(h.getD p.1.toNat []).getD j false&&(!decide (n.op=31) || !decide ((j:Int)=n.imm)||decide ((p.2:Int)<(n.kids.length:Int).tdiv 2)))||(decide (n.op=3)&&decide ((j:Int)=n.imm.tdiv 16))
def zhc(l:List Nd):Nat->List (List Bool)
 |0=>[]
 |i+1=>zhc l i++[(List.range 16).map fun j=>match l[i]? with|some n=>t7 n (zhc l i) j|none=>false]
theorem xM(l:List Nd):∀i,(jG l i).length=i
 |0=>rfl
 |i+1=>by rw[jG,fG,xM l i];rfl
theorem sC(l:List Nd):∀i,(zhc l i).length=i
 |0=>rfl
 |i+1=>by rw[zhc,fG,sC l i];rfl
theorem Em(a b j:Nat):(El a b).testBit j=(a.testBit j && !b.testBit j):=by
 unfold El;rw[Nat.testBit_xor,Nat.testBit_and];cases a.testBit j<;>cases b.testBit j<;>rfl
theorem AE(n:Nd)(h:List Nat)(t:Nat):∀(V:List Int) (j m:Nat),(rp n h j V m).testBit t=(m.testBit t||(V.zipIdx j).any fun p=>(t6 n h p.2 p.1).testBit t)
 |[],j,m=>by simp[rp]
 |k::V,j,m=>by
  rw[rp,AE n h t V,Nat.testBit_or,CC,oG,D0]
structure NdOk (n:Nd) (i:Nat):Prop where
 kids:∀k∈n.kids,0<=k/\k<i
 lv:n.op=3->0<=n.imm/\n.imm<=255
 lp:n.op=31->0<=n.imm/\n.imm<=15/\n.kids.length%2=1/\3<=n.kids.length
theorem xN(a t:Nat):(2^ a).testBit t=decide (a=t):=Nat.testBit_two_pow
theorem AF{i:Type}{a:List i}{x d:i}{j:Nat}(h:j<a.length):(a++[x]).getD j d=a.getD j d:=by
 rw[dd,je h,<-dd]
theorem AG{i:Type}{a:List i}{x d:i}{j:Nat}(h:j=a.length):(a++[x]).getD j d=x:=by
 subst h;rw[dd,l0 (aE _),qS];rfl
theorem AH{l:List Nd}:∀(i:Nat),i<=l.length->(∀j n,j<i->l[j]?=some n->NdOk n j)->∀j,j<i->∀t,((jG l i).getD j 0).testBit t=(decide (t<16)&&((zhc l i).getD j []).getD t false)
 |0,_,_,j,h,_=>by omega
 |i+1,hi,hok,j,hj,t=>by
  have ih:=AH i ac (fun j n h1 g=>hok j n ac g);rw[jG,zhc];by_cases e:j<i
  .rw[AF (by rw[xM];exact e),AF (by rw[sC];exact e)];exact ih j e t
  .obtain rfl:j=i:=by omega
   rw[AG (xM l j).symm,AG (sC l j).symm];obtain⟨n,z⟩:∃n,l[j]?=some n:=⟨l[j],aR ac⟩;have ok:=hok j n (cI _) z;rw[z];simp only;by_cases c:t<16
   .rw[dt c,fy,dd,fT,zm c];simp only[jh,bS];unfold sB t7;rw[AE];have V:(if n.op=3 then 2^ (n.imm.tdiv 16).toNat else 0).testBit t=(decide (n.op=3)&&decide ((t:Int)=n.imm.tdiv 16)):=by
     by_cases U:n.op=3
     .have:=ok.lv U;rw[aq U,xN,dt U,fy,p6];have M:0<=n.imm.tdiv 16:=D2 this.1 ac;omega
     .rw[af U,d6 U];simp
    rw[V,Bool.or_comm]
    congr 1
    rw[wF,Au,Au];have Z:∀p∈n.kids.zipIdx,(t6 n (jG l j) p.2 p.1).testBit t=(((zhc l j).getD p.1.toNat []).getD t false&&(!decide (n.op=31) || !decide ((t:Int)=n.imm)||decide ((p.2:Int)<(n.kids.length:Int).tdiv 2))):=fun p hp=>by
     have O:p.1∈n.kids:=Jc hp;have L:=ok.kids _ O;have o:=ih p.1.toNat ac t;rw[dt c,fy]at o;unfold t6;by_cases Y:n.op=31
     .obtain⟨i0,C,ho,h3⟩:=ok.lp Y;have e2:fu n.kids.length=((n.kids.length/2:Nat):Int):=xy;have J:(n.kids.length:Int).tdiv 2=((n.kids.length/2:Nat):Int):=rfl;rw[J,dt Y];by_cases I:fu n.kids.length<=p.2
      .rw[aq ⟨Y,I⟩,Em,o,xN];have K:decide ((p.2:Int)<((n.kids.length/2:Nat):Int))=false:=d6 ac;have m:decide (n.imm.toNat=t)=decide ((t:Int)=n.imm):=by rw[p6];omega
       rw[K,m];simp
      .rw[af (fun h=>I h.2),o];have K:decide ((p.2:Int)<((n.kids.length/2:Nat):Int))=true:=dt ac;rw[K];simp
     .rw[af (fun h=>Y h.1),o,d6 Y];simp
    constructor
    .rintro⟨p,hp,h⟩;exact⟨p,hp,by rw[<-Z p hp];exact h⟩
    .rintro⟨p,hp,h⟩;exact⟨p,hp,by rw[Z p hp];exact h⟩
   .rw[d6 c,eJ];unfold sB;rw[AE];have V:(if n.op=3 then 2^ (n.imm.tdiv 16).toNat else 0).testBit t=false:=by
     by_cases U:n.op=3
     .have:=ok.lv U;rw[aq U,xN];refine d6 ?_;have M:n.imm.tdiv 16<16:=by rw[mo this.1];omega
      omega
     .rw[af U];simp
    rw[V,gH,oZ];intro p hp;have O:p.1∈n.kids:=Jc hp;have L:=ok.kids _ O;have o:=ih p.1.toNat ac t;rw[d6 c,eJ]at o;unfold t6;split
    .rw[Em,o];simp
    .rw[o];simp
theorem mask_zero{l:List Nd}{i j:Nat}(I:i<=l.length)(M:∀j n,j<i->l[j]?=some n->NdOk n j)(Y:j<i):decide ((jG l i).getD j 0=0)=((List.range 16).all fun t=>!((zhc l i).getD j []).getD t false):=by
 have h:=AH i I M j Y;rw[wF,decide_eq_true_iff,gF];constructor
 .intro e t C;have:=h t;rw[e,xz,dt (kZ.1 C),fy]at this;rw[<-this];rfl
 .intro e;apply D3;intro t;rw[h t,xz];by_cases c:t<16
  .have:=e t (kZ.2 c);simp only[oY]at this;rw[this,p7]
  .rw[d6 c,eJ]
end Go.Ab
namespace Go.Proofs.YtpbcimfiofmoeaaGreat
set_option maxRecDepth 20000
open Go Go.Ab
section
namespace tyV2
end tyV2
open tyV2
def kL:List Nd->List Int->Option (List Int)
 |[],t=>some t
 |n::l,t=>if n.op=31 then (if 0<t.getD n.imm.toNat 0 then none else kL l (t.set n.imm.toNat (fu n.kids.length)))else kL l t
def AI(t:List Int)(n:Nd):Bool:=decide (n.op=3)&&decide (0<t.getD (n.imm.tdiv 16).toNat 0)&&decide (t.getD (n.imm.tdiv 16).toNat 0<=n.imm.tmod 16)
def zhV(l:List Nd):Bool:=match kL l (List.replicate 16 0)with
 |none=>false
 |some t=>l.all fun n=>!AI t n
def ZF(n:Nd):Prop:=(n.op=31->0<=n.imm/\n.imm<=15)/\(n.op=3->0<=n.imm/\n.imm<=255)
end
section
namespace tyV3
end tyV3
open tyV3
def jY(u:Un)(g:Gr)(n:Nd):Bool:=
 if n.op=2 then decide (n.imm<g.params)
 else if n.op=23\/n.op=28 then decide (n.imm<u.arrays.length)
 else if n.op=30 then decide (n.imm<u.funcs.length)&&decide ((n.kids.length:Int)-1=(u.funcs.map Gr.params).getD n.imm.toNat 0)
 else true
end
section
namespace tyV4
end tyV4
open tyV4
def Eo(l:List Nd):Prop:=kK l/\∀i n,l[i]?=some n->NdOk n i
theorem JG{l:List Nd}(L:Eo l){i j:Nat}(I:i<=l.length)(Y:j<i):(jG l i).getD j 0<2^16:=by
 apply Nat.lt_pow_two_of_testBit;intro t C;rw[AH i I (fun j n _ h=>L.2 j n h) j Y t,d6 ac];rfl
end
section
def tyR3c.tyF:=ad @ej (ad @cN (ad @dH (ad @lP (ad @nF (ad @iZ (ad @iO (ad @fO (ad @fP (ad @eR (ad @mM (ad @pV (ad @gJ (ad @Zt (ad @Zu (@Zv)))))))))))))))
open tyR3c
mutual
def oI:St->Bool
 | .mk _ _ _ _ a v j C I=>decide ((20:Int)<eU a)||decide ((20:Int)<eU v)||kM C||kM I||j.any fun e=>decide ((20:Int)<eU e)
def kM:List St->Bool
 |[]=>false
 |x::l=>oI x||kM l
end
def gh(p:Pr):List AV:=[.agg p.cells]
theorem sD(x y:Pr)(h:gh x=gh y):x=y:=by simp only[gh,eB,AV.agg.injEq,a0]at h;exact Pr.inj h
def oJ(f:Fu):Bool:=decide ((6:Int)<f.params.length)||decide ((8:Int)<f.locals.length)||decide ((200:Int)<zgl f.body)||decide ((16:Int)<zfQ f.body)||decide ((20:Int)<zhi f.body 0)||kM f.body||decide ((20:Int)<eU f.value)
def t8(a:Ar):Bool:=decide (a.len<1)||decide (16<a.len)
def lx(p:Pr):Bool:=decide ((4:Int)<p.arrays.length)||decide ((8:Int)<p.funcs.length)||p.arrays.any t8||p.funcs.any oJ
end
end Go.Proofs.YtpbcimfiofmoeaaGreat
