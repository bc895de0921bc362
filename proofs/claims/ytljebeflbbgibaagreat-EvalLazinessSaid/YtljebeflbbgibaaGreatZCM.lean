/- Parts: P4b, P4c, P4d, P4h, G1, G2, G2r, ChkM, ChkX, G2s, G2p, RowN, V7, W6h, RunK, EvJ, SpecL, LoK, NdM, LoA. -/
import Derived.Test.YtljebeflbbgibaaGreatZCL
set_option linter.unusedSimpArgs false
set_option linter.unusedVariables false
set_option linter.unusedSectionVars false
set_option linter.defProp false
set_option maxHeartbeats 32000000
namespace Go.Ab
set_option maxRecDepth 20000
open Go
theorem qL{P:Prop}(h:P:=by refine⟨rfl,rfl,rfl,rfl,rfl,rfl,rfl,rfl,rfl⟩):P:=h
theorem IJ{P:Prop}(h:P:=by rw[ng];(try simp only[Bool.not_eq_true',Bool.not_eq_false']at *);simp only[*,Bool.false_and,Bool.and_false,Bool.and_true,]):P:=h
theorem uV{P:Prop}(h:P:=by (try simp only[zcB]);omega):P:=h
theorem IK{P:Prop}(h:P:=by rw[Y,show zdO=70368744177664 from rfl];omega):P:=h
theorem BX{P:Prop}(h:P:=by rw[List.length_append,hvs];rfl):P:=h
theorem BY{P:Prop}(h:P:=by rw[<- O];simp only[zcS];omega):P:=h
theorem BZ{P:Prop}(h:P:=by rw[Hp.get_set,if_neg j]):P:=h
theorem sK{P:Prop}(h:P:=by simp only[zcz,Nat.reduceBEq, *];exact zeB (n:=u.funcs.length) ac ac):P:=h
theorem IL{P:Prop}(h:P:=by simp only[zcz,Nat.reduceBEq, *];exact zeB (n:=u.arrays.length) ac ac):P:=h
def xU:=@Bool.not_and
def uW:=@Go.IntKind.wrap_u8
def IM:=@Int.fdiv_eq_ediv_of_nonneg
def uX:=@Go.IntKind.wrap_u64
def uY:=@List.prefix_refl
end Go.Ab
namespace Go.Proofs.YtljebeflbbgibaaGreat
set_option maxRecDepth 20000
open Go Go.Ab
section
def tyP4b.tyF:=ad @cI (ad @bZ (ad @lk (ad @dl (ad @iA (ad @iB (ad @gk (ad @jv (@ER))))))))
open tyP4b
noncomputable def IN:{c:SC // aA 111 (Tryz.f131.body.getD .skip)=c}:=by
 refine⟨?_,?_⟩;rotate_left
 .simp only[Tryz.f131,a3,aA,zcG,zcE,zcJ,zcK,Nat.blt,Nat.ble];rfl
mutual
theorem IP:∀(x:Ex) (d:Int),js (fun x _=>sy x) x d=jA x
 | .mk k n s o V,d=>by rw[js,jA,IQ V,Bool.and_comm]
theorem IQ:∀(l:List Ex) (d:Int),zew (fun x _=>sy x) l d=jZ l
 |[],_=>rfl
 |x::l,d=>by rw[zew,jZ,IP x,IQ l]
end
theorem B0{l:List En}(L:∀z,zdn l 127 z=uS.sp z)(J:∀z,zdn l 171 z=uU.sp z)(V:(∀z,zdn l 130 z=none)/\iz l 130=false)(K:(∀z,zdn l 129 z=none)/\iz l 129=false)
 (x:Ex) (F:x.sz<2^60) (H:Hp):zcx Tryz.prog (zcq pls l) 129 [.agg x.cells,.int .i64 0,.clo 130 []] H fun v H'=>v=.bool (jA x)/\FrB 0 H H':=by
 have Z:pd 0 fun _:Hp=>True:=fun _ _ _ _=>trivial;refine a7 ?_ (sG (zdm K.1 K.2) Z (ZB L J V Z) (x.sz+1) x (cL _) 0 H F (cK _) trivial);rintro v H' ⟨rfl,g,_⟩;exact⟨by rw[IP],g⟩
def mh(x:Ex)(w:Bool):Bool:=bif w then jA x else zeroE x
noncomputable def B1:List En:=[uS,uU,II]
theorem ZC(ρ:Nat->Int):eX Tryz.prog ρ B1:=⟨IF ρ,IG ρ,ZA ρ,trivial⟩
theorem ZD(ρ:Nat->Int)(x:Ex)(w:Bool)(F:x.sz<2^60):a9 Tryz.prog ρ 174 [.agg x.cells,.bool w] (.bool (mh x w)):=zdv fit (pls:=pls) (ZC ρ) (.cons (.agg x.pure) (.cons (.bool _) .nil)) (.bool _) (by
 have J:Plain (zcq pls B1) 174:=zdm (fun _=>rfl) rfl;have L:∀y:Ex,∀H,zcx Tryz.prog (zcq pls B1) 197 [.agg y.cells] H fun v H'=>v=.bool (zeroE y)/\H'=H:=fun y H=>zds (enc:=ux) (out:=fun x=>.bool (zeroE x)) Xb (x:=y) rfl trivial;cases w
 .refine zcv (M:=10) (rs:=[.tmp 4]) (J.call _) J.ice J.froz Tryz.func174 rfl rfl xT.2 rfl ?_;dsimp only[xT,zcr,Nat.reduceAdd];repeat' (first
   |(apply zcl ?_;clear hK K)|apply Rx.o ?_|(apply iU ?_;first|refine Rx.k (L _ _) ?_)|(apply aS (fun z V=>?_) (fun z V=>?_)<;>try(cases z;done))|apply ak ?_|(apply zcm fun K hK=>?_)|apply zco ?_|apply am ?_)
  all_goals (refine⟨eI,_,eR,?_⟩;try simp only[zcn])
  rfl
 .refine zcv (M:=10) (rs:=[.tmp 4]) (J.call _) J.ice J.froz Tryz.func174 rfl rfl xT.2 rfl ?_;dsimp only[xT,zcr,Nat.reduceAdd];repeat' (first
   |(apply zcl ?_;clear hK K)|apply Rx.o ?_|(apply aS (fun z V=>?_) (fun z V=>?_)<;>try(cases z;done))|apply ak ?_|(apply zcm fun K hK=>?_)|fail)
  refine bg rfl bh bj ?_;simp only[br];refine a7 ?_ (B0 (fun _=>rfl) (fun _=>rfl) ⟨fun _=>rfl,rfl⟩ ⟨fun _=>rfl,rfl⟩ x F _);rintro v H ⟨rfl,_⟩;dsimp only[zcF];repeat' (first
   |(apply zcl ?_;clear hK K)|apply Rx.o ?_|apply am ?_)
  all_goals (refine⟨eI,_,eR,?_⟩;try simp only[zcn])
  rfl)
def a4(k:Int)(i:Nat):Bool:=(qK k).getD i false
theorem ZE(k:Int):(qK k).map AV.bool=[.bool (a4 k 0),.bool (a4 k 1),.bool (a4 k 2),.bool (a4 k 3),.bool (a4 k 4),.bool (a4 k 5),.bool (a4 k 6),.bool (a4 k 7)]:=by
 have h:∃a b c d e f g h,qK k=[a,b,c,d,e,f,g,h]:=by
  unfold qK;repeat' split
  all_goals exact⟨_,_,_,_,_,_,_,_,rfl⟩
 obtain⟨a,b,c,d,e,f,g,h,Y⟩:=h;simp only[a4,Y];rfl
def ng(x:St):Bool:=
 iJ x.kind&&j6 x.name (a4 x.kind 0)&&j6 x.to (a4 x.kind 1)&&mh x.at_ (a4 x.kind 3)&&mh x.value (a4 x.kind 4) &&
 !decide (x.n<0) && !decide (1000000<x.n)&&(a4 x.kind 2||decide (x.n=0))&&(a4 x.kind 5 || !decide ((0:Int)<x.args.length))&&(a4 x.kind 6 || !decide ((0:Int)<x.thn.length))&&(a4 x.kind 7 || !decide ((0:Int)<x.els.length))&&jZ x.args
def uZ(x:St):Bool:=decide (x.n<0)||decide (1000000<x.n)||(!a4 x.kind 2 && !decide (x.n=0))||(!a4 x.kind 5&&decide ((0:Int)<x.args.length))||(!a4 x.kind 6&&decide ((0:Int)<x.thn.length))||(!a4 x.kind 7&&decide ((0:Int)<x.els.length))
noncomputable def IR:En:=⟨172,false,bX (fun _=>True) (fun n:Int=>[.int .i64 n]) sJ⟩
theorem ZF(ρ:Nat->Int):zdd Tryz.prog ρ IR:=zdk fun x _=>Zx ρ x
def u0(x:List UInt8×Bool):List AV:=[.str x.1,.bool x.2]
theorem ZG(x y:List UInt8×Bool)(h:u0 x=u0 y):x=y:=by
 simp only[u0,cM,AV.str.injEq,AV.bool.injEq,aY]at h;exact jT h.1 h.2
noncomputable def IS:En:=⟨173,false,bX (fun x=>x.1.length<2^60) u0 fun x=>.bool (j6 x.1 x.2)⟩
theorem ZH(ρ:Nat->Int):zdd Tryz.prog ρ IS:=zdk fun x F=>Zv ρ x.1 x.2 F
def u3(x:Ex×Bool):List AV:=[.agg x.1.cells,.bool x.2]
theorem ZI(x y:Ex×Bool)(h:u3 x=u3 y):x=y:=by
 simp only[u3,cM,AV.agg.injEq,AV.bool.injEq,aY]at h;exact jT (Ex.inj h.1) h.2
noncomputable def IT:En:=⟨174,false,bX (fun x=>x.1.sz<2^60) u3 fun x=>.bool (mh x.1 x.2)⟩
theorem ZJ(ρ:Nat->Int):zdd Tryz.prog ρ IT:=zdk fun x F=>ZD ρ x.1 x.2 F
noncomputable def IU:En:=⟨128,false,bX (fun l=>zen l<2^60) (fun l:List (List UInt8)=>[zdE l]) fun l=>.bool (l.all zc9)⟩
theorem ZK(ρ:Nat->Int):zdd Tryz.prog ρ IU:=zdk fun x F=>Zu ρ x F
theorem ZL(x y:List (List UInt8))(h:([zdE x]:List AV)=[zdE y]):x=y:=by
 simp only[cM,AV.lst.injEq,aY]at h;exact wD h
noncomputable def nh:List En:=[uS,uU,IR,IS,IT,IU]
theorem ZM(ρ:Nat->Int):eX Tryz.prog ρ nh:=⟨IF ρ,IG ρ,ZF ρ,ZH ρ,ZJ ρ,ZK ρ,trivial⟩
theorem ZN:a4 1 0=true/\a4 1 1=false/\a4 1 2=false/\a4 1 3=false/\a4 1 4=true/\a4 1 5=false/\a4 1 6=false/\a4 1 7=false/\iJ 1=true:=qL
theorem ZO:a4 2 0=true/\a4 2 1=false/\a4 2 2=false/\a4 2 3=true/\a4 2 4=true/\a4 2 5=false/\a4 2 6=false/\a4 2 7=false/\iJ 2=true:=qL
theorem ZP:a4 3 0=false/\a4 3 1=false/\a4 3 2=false/\a4 3 3=false/\a4 3 4=true/\a4 3 5=false/\a4 3 6=true/\a4 3 7=true/\iJ 3=true:=qL
theorem ZQ:a4 4 0=false/\a4 4 1=false/\a4 4 2=false/\a4 4 3=false/\a4 4 4=true/\a4 4 5=false/\a4 4 6=true/\a4 4 7=false/\iJ 4=true:=qL
theorem ZR:a4 5 0=false/\a4 5 1=false/\a4 5 2=false/\a4 5 3=false/\a4 5 4=true/\a4 5 5=false/\a4 5 6=false/\a4 5 7=false/\iJ 5=true:=qL
theorem ZS:a4 6 0=true/\a4 6 1=true/\a4 6 2=false/\a4 6 3=false/\a4 6 4=false/\a4 6 5=true/\a4 6 6=false/\a4 6 7=false/\iJ 6=true:=qL
theorem ZT:a4 7 0=false/\a4 7 1=false/\a4 7 2=true/\a4 7 3=false/\a4 7 4=false/\a4 7 5=false/\a4 7 6=false/\a4 7 7=false/\iJ 7=true:=qL
set_option maxRecDepth 100000 in
theorem ZU:uR (zcq pls nh) 0 (fun(_:Unit) _=>True) 131 [] fun x _ s=>(ng x,s):=by
 intro x d s H hz _ _;have hw:Plain (zcq pls nh) 131:=zdm (fun _=>rfl) rfl;have kf:∀k H,zcx Tryz.prog (zcq pls nh) 172 [.int .i64 k] H fun v H'=>v=.tup [.agg [.bool (a4 k 0),.bool (a4 k 1),.bool (a4 k 2),.bool (a4 k 3),.bool (a4 k 4),.bool (a4 k 5),.bool (a4 k 6),.bool (a4 k 7)],.bool (iJ k)]/\H'=H:=fun k H=>by
  have:=zds (P:=Tryz.prog) (pls:=pls) (l:=nh) (enc:=fun n:Int=>[.int .i64 n]) (ok:=fun _=>True) (out:=sJ) YA (g:=172) (x:=k) rfl trivial (H:=H);unfold sJ at this;rw[ZE]at this;exact this
 have km:∀(s:List UInt8) (w:Bool),s.length<2^60->∀H,zcx Tryz.prog (zcq pls nh) 173 [.str s,.bool w] H fun v H'=>v=.bool (j6 s w)/\H'=H:=fun s w h H=>zds (enc:=u0) (out:=fun x=>.bool (j6 x.1 x.2)) ZG (x:=(s,w)) rfl h;have kx:∀(y:Ex) (w:Bool),y.sz<2^60->∀H,zcx Tryz.prog (zcq pls nh) 174 [.agg y.cells,.bool w] H fun v H'=>v=.bool (mh y w)/\H'=H:=fun y w h H=>zds (enc:=u3) (out:=fun x=>.bool (mh x.1 x.2)) ZI (x:=(y,w)) rfl h;have hsz:=x.sz_eq;have hlen:=t6 x.args;have hx0:∀a b,Ab.extract (.tup [a,b]) 0=some a:=fun _ _=>rfl;have hx1:∀a b,Ab.extract (.tup [a,b]) 1=some b:=fun _ _=>rfl;refine zcv (M:=111) (rs:=[.tmp 4]) (hw.call _) hw.ice hw.froz Tryz.func131 rfl rfl IN.2 rfl ?_;dsimp only[IN,zcr,Nat.reduceAdd];repeat' (first
  |(apply zcl ?_;clear hK K)|apply Rx.o ?_|apply b8 ?_|(apply iU ?_;first|refine Rx.k (kf _ _) ?_|refine Rx.k (km _ _ ac _) ?_|refine Rx.k (kx _ _ ac _) ?_)|(apply b0 (fun A I=>?_) (fun A I=>?_)<;>try(cases A;done))|apply ak ?_|(apply zcm fun K hK=>?_)|fail)
 all_goals (first|(refine aS (t:=true) (h1:=fun _ _=>?_) (h2:=fun hzz _=>?_)<;>try(cases hzz;done))|skip)
 all_goals
  repeat' (first
   |(apply zcl ?_;clear hK K)|apply Rx.o ?_|apply ak ?_|(apply zcm fun K hK=>?_)|apply am ?_|fail)
 all_goals (first|(refine⟨eI,_,eR,?_⟩;(try simp only[zcn]);refine⟨IJ,(((fT _ _).alloc _).alloc _).set (.inl uV) _,trivial⟩;done)|skip)
 have J:FrB 0 H (((H.alloc (.cells x.cells 0 true)).alloc (.cells [.bool false,.bool false,.bool false,.bool false,.bool false,.bool false,.bool false,.bool false] 0 true)).set (H.next+1) (.cells [.bool (a4 x.kind 0),.bool (a4 x.kind 1),.bool (a4 x.kind 2),.bool (a4 x.kind 3),.bool (a4 x.kind 4),.bool (a4 x.kind 5),.bool (a4 x.kind 6),.bool (a4 x.kind 7)] 0 true)):=(((fT _ _).alloc _).alloc _).set (.inl ac) _;refine NA [2,4,5,48] fun E' Y=>?_;(try simp only[zcO,zcI,aY,zcz,zcL,Nat.reduceBEq, *]at Y);generalize j:Hp.set _ (H.next+1) _=Hb at J⊢;have gb:Hb.get H.next=some (.cells x.cells 0 true):=by rw[<-j,aU,ah ac,zcu,ah gR,zcu,ax rfl]
 have gf:Hb.get (H.next+1)=some (.cells [.bool (a4 x.kind 0),.bool (a4 x.kind 1),.bool (a4 x.kind 2),.bool (a4 x.kind 3),.bool (a4 x.kind 4),.bool (a4 x.kind 5),.bool (a4 x.kind 6),.bool (a4 x.kind 7)] 0 true):=AJ;have nb:H.next+2<=Hb.next:=AI
 clear j;refine aS (h1:=fun z V=>?_) (h2:=fun z V=>?_)
 .repeat' (first
   |(apply zcl ?_;clear hK K)|apply Rx.o ?_|apply ak ?_|(apply zcm fun K hK=>?_)|apply am ?_|fail)
  all_goals (refine⟨eI,_,eR,?_⟩;try simp only[zcn])
  refine⟨IJ,J,trivial⟩
 refine zcY.skip ?_;dsimp only[kz,pP];refine ak ?_;first
 |refine zcm fun K Z=>?_
 |(simp only[zcG,zcE,zcJ,zcK,Nat.blt,Nat.ble];refine zcm fun K Z=>?_)
 |(refine ak ?_;refine zcm fun K Z=>?_)
 have hK:∀F O,(F.at 2=.ptr H.next 0/\F.at 4=.bool false/\F.at 99=.bool (uZ x)/\O=Hb)->K F O:=by
  rintro F O ⟨zc8,k4,k99,rfl⟩;apply Z;clear Z K;dsimp only[kz,pP];have W:(iJ x.kind&&j6 x.name (a4 x.kind 0)&&j6 x.to (a4 x.kind 1)&&mh x.at_ (a4 x.kind 3)&&mh x.value (a4 x.kind 4))=true:=by(try simp only[oS]at *);simp only[*,jN,]
  have L:ng x=(!uZ x&&jZ x.args):=by
   have e:ng x=((iJ x.kind&&j6 x.name (a4 x.kind 0)&&j6 x.to (a4 x.kind 1)&&mh x.at_ (a4 x.kind 3)&&mh x.value (a4 x.kind 4))&&(!uZ x&&jZ x.args)):=by
    simp only[ng,uZ,sn,xU,Bool.not_not,ql]
   rw[e,W,de]
  repeat' (first
   |(apply zcl ?_;clear hK K)|apply Rx.o ?_|(apply aS (fun z V=>?_) (fun z V=>?_)<;>try(cases z;done))|apply ak ?_|(apply zcm fun K hK=>?_)|apply ay ?_|apply zco ?_|apply am ?_|fail)
  .all_goals (refine⟨eI,_,eR,?_⟩;try simp only[zcn])
   refine⟨by rw[L];(try simp only[oS]at *);simp only[*,dK,k8,],J,trivial⟩
  refine zdl [2,4,101,102] [] 103 x.args.length (fun i E O=>jZ x.args=jZ (x.args.drop i)/\FrB 0 H O) eE ⟨aD,J⟩ ?_;rintro i E H3 hi Y hrH hnH hsI ⟨hJ,C⟩;(try simp only[zcO,zcI,aY,zcz,zcL,Nat.reduceBEq, *]at Y);(try simp only[zcI, *]at hrH);(try simp only[zcB,zcS,zdg,bw,Nat.reduceAdd]at hnH);repeat' (first
   |(apply zcl ?_;clear hK K)|apply Rx.o ?_|(apply aS (fun z V=>?_) (fun z V=>?_)<;>try(cases z;done))|apply ak ?_|(apply zcm fun K hK=>?_)|apply ay ?_|apply zco ?_|apply am ?_|apply zcA ?_)
  .have U:i<x.args.length:=by simpa using z
   have hgx:x.args[i]?=some x.args[i]:=aO U;have hsm:=rL (dj U);have m:jZ (x.args.drop i)=(jA x.args[i]&&jZ (x.args.drop (i+1))):=by rw[d7 U];rfl
   repeat' (first
    |(apply zcl ?_;clear hK K)|apply Rx.o ?_|apply b8 ?_|apply ak ?_|(apply zcm fun K hK=>?_)|fail)
   refine bg rfl bh bj ?_;simp only[br];refine a7 ?_ (B0 (fun _=>rfl) (fun _=>rfl) ⟨fun _=>rfl,rfl⟩ ⟨fun _=>rfl,rfl⟩ x.args[i] ac _);rintro v H4 ⟨rfl,o⟩;dsimp only[zcF];have hf5:FrB 0 H H4:=C.trans ((((fT _ _).alloc _).set (.inl (aM _)) _).trans o);have n4:=o.next
   simp only[zcS,zcB]at n4;repeat' (first
    |(apply zcl ?_;clear hK K)|apply Rx.o ?_|(apply aS (fun z V=>?_) (fun z V=>?_)<;>try(cases z;done))|apply ak ?_|(apply zcm fun K hK=>?_)|apply zco ?_|apply am ?_|fail)
   all_goals (first|(refine⟨eI,_,eR,?_⟩;(try simp only[zcn]);refine⟨by rw[L,hJ,m];(try simp only[fo]at *);simp only[ *,se,gL,],hf5,trivial⟩;done)|skip)
   refine⟨ac,zcy,zcy,zcT,(by simp only[zcz,Nat.reduceBEq, *];exact zeB (n:=x.args.length) ac ac),?_⟩;exact⟨by rw[hJ,m];(try simp only[oS]at *);simp only[*,de,],hf5⟩
  .all_goals (refine⟨eI,_,eR,?_⟩;try simp only[zcn])
   refine⟨by rw[L,hJ,show i=x.args.length by simp at z;omega,jy];(try simp only[oS]at *);simp only[jZ, *,jN,gL,],C,trivial⟩
 clear Z;repeat' (first
  |(apply zcl ?_;clear hK K)|apply Rx.o ?_|apply qg ?_|(apply b0 (fun A I=>?_) (fun A I=>?_)<;>try(cases A;done))|fail)
 all_goals
  refine⟨eE,eE,?_,rfl⟩;rw[uZ];(try simp only[fo]at *);simp only[zcz,Nat.reduceBEq, *,Hu,]
end
section
theorem ZV(n:Nat):(!decide ((0:Int)<n))=decide ((n:Int)=0):=by
 cases n with
 |zero=>rfl
 |succ n=>simp;omega
theorem ZW(n:Int):(!decide (n<0) && !decide (1000000<n)&&decide (n=0))=decide (n=0):=by
 by_cases h:n=0
 .subst h;rfl
 .simp[h]
theorem ZX(n:Int):(!decide (n<0))=decide (0<=n):=by
 by_cases h:n<0
 .simp[h]
 .simp[h];omega
theorem ZY(n:Int):(!decide (1000000<n))=decide (n<=1000000):=by
 by_cases h:1000000<n
 .simp[h]
 .simp[h];omega
theorem ZZ(x:St):ng x=uN x:=by
 have j:x.kind=1\/x.kind=2\/x.kind=3\/x.kind=4\/x.kind=5\/x.kind=6\/x.kind=7\/iJ x.kind=false:=by
  simp only[iJ,oL,jw];omega
 rcases j with j|j|j|j|j|j|j|j
 case inr.inr.inr.inr.inr.inr.inr=>
  have h:xD x=false:=by
   simp only[iJ,oL,jw]at j;unfold xD;rw[ah ac,ah ac,ah ac,ah ac,ah ac,ah ac,ah ac]
  rw[ng,uN,j,h];simp
 all_goals
  have hr:=ZW x.n;simp only[ng,uN,xD,j,ZN,ZO,ZP,ZQ,ZR,ZS,ZT,sA,xC,j6,mh,fM,nK,bT,ck,Int.reduceEq,A2,jc,mC,ZV,cr,reduceCtorEq];first
  |(rw[ZX,ZY];ac_rfl)
  |(rw[<-hr];ac_rfl)
mutual
theorem Z0:∀(x:St) (d:Int),iw (fun x _ (s:Unit)=>(ng x,s)) x d ()=(xE x,())
 | .mk k K g n a v args Y Z,d=>by
   rw[iw,xE,ZZ];cases h:uN (.mk k K g n a v args Y Z)with
   |false=>simp
   |true=>
    simp only[xV Y,de];cases W:n8 Y with
    |false=>simp
    |true=>simp only[xV Z,de]
theorem xV:∀(l:List St) (d:Int),zdG (fun x _ (s:Unit)=>(ng x,s)) l d ()=(n8 l,())
 |[],_=>rfl
 |x::l,d=>by
  rw[zdG,n8,Z0 x];cases h:xE x with
  |false=>simp
  |true=>simp only[xV l,de]
end
def tyP4d.tyF:=ad @cI (ad @bZ (ad @dl (ad @hM (ad @lm (ad @mM (ad @jP (ad @jQ (ad @iA (ad @iB (ad @gk (ad @mN (@jv))))))))))))
open tyP4d
noncomputable def IV:{c:SC // aA 55 (Tryz.f86.body.getD .skip)=c}:=by
 refine⟨?_,?_⟩;rotate_left
 .simp only[Tryz.f86,a3,aA,zcG,zcE,zcJ,zcK,Nat.blt,Nat.ble];rfl
theorem Z1(f:Fu)(b:List UInt8->Bool):(xF f).all b=(b f.name&&f.params.all b&&f.locals.all b):=by
 rw[xF,List.all_append,List.all_append,mR,AY,jN]
set_option maxRecDepth 100000 in
theorem Z2(ρ:Nat->Int)(p:Pr)(hz:p.sz<2^36):a9 Tryz.prog ρ 86 [.agg p.cells] (.bool (j0 p)):=zdv fit (pls:=pls) (ZM ρ) (.cons (.agg p.pure) .nil) (.bool _) (by
 have hw:Plain (zcq pls nh) 86:=zdm (fun _=>rfl) rfl;have kn:∀s:List UInt8,s.length<2^60->∀H,zcx Tryz.prog (zcq pls nh) 127 [.str s] H fun v H'=>v=.bool (zc9 s)/\H'=H:=fun s h1 H=>zds (enc:=kE) (out:=fun x=>.bool (zc9 x)) r4 (x:=s) rfl h1;have ks:∀l:List (List UInt8),zen l<2^60->∀H,zcx Tryz.prog (zcq pls nh) 128 [zdE l] H fun v H'=>v=.bool (l.all zc9)/\H'=H:=fun l h1 H=>zds (enc:=fun l:List (List UInt8)=>[zdE l]) (out:=fun l=>.bool (l.all zc9)) ZL (x:=l) rfl h1;have hpz:p.sz=1+kB p.arrays+kA p.funcs:=rfl;have hla:=rK p.arrays;have hlf:=rJ p.funcs;refine zcv (M:=55) (rs:=[.tmp 2]) (hw.call _) hw.ice hw.froz Tryz.func86 rfl rfl IV.2 rfl ?_;dsimp only[IV,zcr,Nat.reduceAdd];repeat' (first
  |(apply zcl ?_;clear hK K)|apply Rx.o ?_|apply b8 ?_|(apply b0 (fun A Z=>?_) (fun A Z=>?_)<;>try(cases A;done))|(apply aS (fun z V=>?_) (fun z V=>?_)<;>try(cases z;done))|apply ak ?_|(apply zcm fun K hK=>?_)|apply ay ?_|apply zco ?_|apply am ?_|apply zcA ?_)
 refine zdl [1,8,9] [0] 10 p.arrays.length (fun i E H=>p.arrays.all (fun a=>zc9 a.name)=(p.arrays.drop i).all (fun a=>zc9 a.name)) eE aD ?_;rintro i E H2 hi L j m o g;(try simp only[zcO,zcI,aY,zcz,zcL,Nat.reduceBEq,Nat.reduceAdd,Nat.reduceLeDiff,tyF, *]at L);(try simp only[zcO,zcI,aY,zcz,zcL,Nat.reduceBEq,Nat.reduceAdd,Nat.reduceLeDiff,tyF, *]at j);(try simp only[zcB,zcS,zdg,bw,Nat.reduceAdd]at m);have hB0:(0 == H2.next)=false:=zcD ac;have hC0:(H2.next == 0)=false:=zcD ac;repeat' (first
  |(apply zcl ?_;clear hK K)|apply Rx.o ?_|apply b8 ?_|(apply b0 (fun A Z=>?_) (fun A Z=>?_)<;>try(cases A;done))|(apply aS (fun z V=>?_) (fun z V=>?_)<;>try(cases z;done))|apply ak ?_|(apply zcm fun K hK=>?_)|apply ay ?_|apply zco ?_|apply am ?_|apply zcA ?_)
 .have Y:i<p.arrays.length:=by simpa using z
  have hgx:p.arrays[i]?=some p.arrays[i]:=aO Y;have hsm:=BG (dj Y);have U:(p.arrays.drop i).all (fun a=>zc9 a.name)=(zc9 p.arrays[i].name&&(p.arrays.drop (i+1)).all (fun a=>zc9 a.name)):=xO;repeat' (first
   |(apply zcl ?_;clear hK K)|apply Rx.o ?_|apply b8 ?_|(apply iU ?_;first|refine Rx.k (kn _ ac _) ?_)|(apply b0 (fun A Z=>?_) (fun A Z=>?_)<;>try(cases A;done))|(apply aS (fun z V=>?_) (fun z V=>?_)<;>try(cases z;done))|apply ak ?_|(apply zcm fun K hK=>?_)|apply ay ?_|apply zco ?_|apply am ?_|apply zcA ?_)
  all_goals (first|(refine⟨eI,_,eR,?_⟩;(try simp only[zcn]);rw[j0,g,U];(try simp only[fo]at *);simp only[ *,lB,bT,ck,Int.reduceEq];done)|skip)
  refine⟨ac,zcy,zcy,zcT,Hn,?_⟩;rw[g,U];(try simp only[fo]at *);simp only[ *,lB,bT,ck,Int.reduceEq]
 .have J:i=p.arrays.length:=by simp at z;omega
  rw[J,jy]at g;have W:p.arrays.all (fun a=>zc9 a.name)=true:=g;clear g J o hi;refine zdl [20,21] [0] 22 p.funcs.length (fun i E H=>p.funcs.all md=(p.funcs.drop i).all md) eE aD ?_;rintro i E H3 hi L j m o g;(try simp only[zcO,zcI,aY,zcz,zcL,Nat.reduceBEq,Nat.reduceAdd,Nat.reduceLeDiff,tyF, *]at L);(try simp only[zcO,zcI,aY,zcz,zcL,Nat.reduceBEq,Nat.reduceAdd,Nat.reduceLeDiff,tyF, *]at j);(try simp only[zcB,zcS,zdg,bw,Nat.reduceAdd]at m);have hB0:(0 == H3.next)=false:=zcD ac;have hC0:(H3.next == 0)=false:=zcD ac;repeat' (first
   |(apply zcl ?_;clear hK K)|apply Rx.o ?_|apply b8 ?_|(apply b0 (fun A Z=>?_) (fun A Z=>?_)<;>try(cases A;done))|(apply aS (fun z V=>?_) (fun z V=>?_)<;>try(cases z;done))|apply ak ?_|(apply zcm fun K hK=>?_)|apply ay ?_|apply zco ?_|apply am ?_|apply zcA ?_)
  .have Y:i<p.funcs.length:=by simpa using z
   have hgx:p.funcs[i]?=some p.funcs[i]:=aO Y;have hsm:=rN (dj Y);have hsz:p.funcs[i].sz=1+p.funcs[i].name.length+zen p.funcs[i].params+zen p.funcs[i].locals+zes p.funcs[i].body+p.funcs[i].value.sz:=rfl;have U:(p.funcs.drop i).all md=(md p.funcs[i]&&(p.funcs.drop (i+1)).all md):=xO;have O:md p.funcs[i]=(zc9 p.funcs[i].name&&p.funcs[i].params.all zc9&&p.funcs[i].locals.all zc9&&n8 p.funcs[i].body&&jA p.funcs[i].value):=by rw[md,Z1]
   repeat' (first
    |(apply zcl ?_;clear hK K)|apply Rx.o ?_|apply b8 ?_|(apply iU ?_;first|refine Rx.k (kn _ ac _) ?_|refine Rx.k (ks _ ac _) ?_)|(apply b0 (fun A Z=>?_) (fun A Z=>?_)<;>try(cases A;done))|(apply aS (fun z V=>?_) (fun z V=>?_)<;>try(cases z;done))|apply ak ?_|(apply zcm fun K hK=>?_)|apply ay ?_|apply zco ?_|apply am ?_|apply zcA ?_)
   .refine bg rfl bh bj ?_;simp only[eM];refine a7 ?_ (B0 (fun _=>rfl) (fun _=>rfl) ⟨fun _=>rfl,rfl⟩ ⟨fun _=>rfl,rfl⟩ p.funcs[i].value ac _);rintro v H4 ⟨rfl,F⟩;have hn4:=F.next
    simp only[zcS,zcB]at hn4;have g4:H4.get H3.next=some (.cells p.funcs[i].cells 0 true):=by rw[F.get _ (cK _) sw,aU,ax rfl]
    have g40:H4.get 0=some (.cells p.cells 0 true):=by rw[F.get _ (cK _) sw,aU,ah ac,zcu,ah ac];exact j
    dsimp only[zcF];repeat' (first
     |(apply zcl ?_;clear hK K)|apply Rx.o ?_|apply b8 ?_|(apply b0 (fun A Z=>?_) (fun A Z=>?_)<;>try(cases A;done))|(apply aS (fun z V=>?_) (fun z V=>?_)<;>try(cases z;done))|apply ak ?_|(apply zcm fun K hK=>?_)|apply ay ?_|apply zco ?_|apply am ?_|apply zcA ?_)
    .refine bg rfl bh bj ?_;simp only[eM];refine a7 ?_ (sH (zdm (fun _=>rfl) rfl) (I:=fun(_:Unit) _=>True) (fun _ _ _ _ _=>trivial) ZU (zes p.funcs[i].body+1) p.funcs[i].body ac 0 () H4 ac (cK _) trivial);rintro v H5 ⟨rfl,C,_⟩;have hn5:=C.next
     have g50:H5.get 0=some (.cells p.cells 0 true):=by rw[C.get _ (cK _) ac];exact g40
     rw[xV];dsimp only[zcF];repeat' (first
      |(apply zcl ?_;clear hK K)|apply Rx.o ?_|apply b8 ?_|(apply b0 (fun A Z=>?_) (fun A Z=>?_)<;>try(cases A;done))|(apply aS (fun z V=>?_) (fun z V=>?_)<;>try(cases z;done))|apply ak ?_|(apply zcm fun K hK=>?_)|apply ay ?_|apply zco ?_|apply am ?_|apply zcA ?_)
     all_goals (first|(refine⟨eI,_,eR,?_⟩;(try simp only[zcn]);rw[j0,W,g,U,O];(try simp only[fo]at *);simp only[ *,lB,bT,ck,Int.reduceEq];done)|skip)
     refine⟨ac,zcy,zcy,zcT,uL,?_⟩;rw[g,U,O];(try simp only[fo]at *);simp only[ *,lB,bT,ck,Int.reduceEq]
    all_goals skip
    all_goals (first|(refine⟨eI,_,eR,?_⟩;(try simp only[zcn]);rw[j0,W,g,U,O];(try simp only[fo]at *);simp only[ *,lB,bT,ck,Int.reduceEq];done)|skip)
   all_goals skip
   all_goals (first|(refine⟨eI,_,eR,?_⟩;(try simp only[zcn]);rw[j0,W,g,U,O];(try simp only[fo]at *);simp only[ *,lB,bT,ck,Int.reduceEq];done)|skip)
  .all_goals (refine⟨eI,_,eR,?_⟩;try simp only[zcn])
   have J:i=p.funcs.length:=uJ;rw[J,jy]at g;have hJ2:p.funcs.all md=true:=g;rw[j0,W,hJ2];rfl)
end
section
def tyP4h.tyF:=ad @hM (ad @mM (@jP))
open tyP4h
noncomputable def IW:{c:SC // aA 16 (Tryz.f55.body.getD .skip)=c}:=by
 refine⟨?_,?_⟩;rotate_left
 .simp only[Tryz.f55,a3,aA,zcG,zcE,zcJ,zcK,Nat.blt,Nat.ble];rfl
noncomputable def IX:En:=⟨85,false,bX (fun p=>p.sz<2^36) fd fun p=>.bool (iS p)⟩
theorem Z3(ρ:Nat->Int)(p:Pr)(m:p.sz<2^36):a9 Tryz.prog ρ 85 (fd p) (.bool (iS p)):=zdv fit (pls:=pls) (l:=[]) trivial (.cons (.agg p.pure) .nil) (.bool _) (Za ⟨zdM _,zdM _,zdM _,zdM _⟩ (zdM _) (zdM _) (zdM _) p ac)
theorem Z4(ρ:Nat->Int):zdd Tryz.prog ρ IX:=zdk fun p hp=>Z3 ρ p hp
noncomputable def IY:En:=⟨86,false,bX (fun p=>p.sz<2^36) fd fun p=>.bool (j0 p)⟩
theorem Z5(ρ:Nat->Int):zdd Tryz.prog ρ IY:=zdk fun p hp=>Z2 ρ p hp
noncomputable def IZ:En:=⟨87,false,bX (fun p=>p.sz<2^36) fd fun p=>.bool (lC p)⟩
theorem Z6(ρ:Nat->Int):zdd Tryz.prog ρ IZ:=zdk fun p hp=>YS ρ p hp
noncomputable def I0:En:=⟨88,false,bX (fun p=>p.sz<2^36) fd fun p=>.int .i64 (qF p)⟩
theorem Z7(ρ:Nat->Int):zdd Tryz.prog ρ I0:=zdk fun p hp=>Y9 ρ p hp
noncomputable def sL:List En:=[IX,IY,IZ,I0]
theorem Z8(ρ:Nat->Int):eX Tryz.prog ρ sL:=⟨Z4 ρ,Z5 ρ,Z6 ρ,Z7 ρ,trivial⟩
theorem Z9(ρ:Nat->Int)(p:Pr)(m:p.sz<2^36):a9 Tryz.prog ρ 55 (fd p) (.int .i64 (m7 p)):=zdv fit (pls:=pls) (Z8 ρ) (.cons (.agg p.pure) .nil) (.int _ _) (by
 have J:Plain (zcq pls sL) 55:=zdm (fun _=>rfl) rfl;have o:∀H,zcx Tryz.prog (zcq pls sL) 85 [.agg p.cells] H fun v H'=>v=.bool (iS p)/\H'=H:=fun H=>zds (enc:=fd) (out:=fun p=>.bool (iS p)) qA (x:=p) rfl m;have Z:∀H,zcx Tryz.prog (zcq pls sL) 86 [.agg p.cells] H fun v H'=>v=.bool (j0 p)/\H'=H:=fun H=>zds (enc:=fd) (out:=fun p=>.bool (j0 p)) qA (x:=p) rfl m;have i:∀H,zcx Tryz.prog (zcq pls sL) 87 [.agg p.cells] H fun v H'=>v=.bool (lC p)/\H'=H:=fun H=>zds (enc:=fd) (out:=fun p=>.bool (lC p)) qA (x:=p) rfl m;have Y:∀H,zcx Tryz.prog (zcq pls sL) 88 [.agg p.cells] H fun v H'=>v=.int .i64 (qF p)/\H'=H:=fun H=>zds (enc:=fd) (out:=fun p=>.int .i64 (qF p)) qA (x:=p) rfl m;rw[fd,<-YI];refine zcv (M:=16) (rs:=[.tmp 2]) (J.call _) J.ice J.froz Tryz.func55 rfl rfl IW.2 rfl ?_;dsimp only[IW,zcr,Nat.reduceAdd];repeat' (first
  |(apply zcl ?_;clear hK K)|apply Rx.o ?_|(apply iU ?_;first|refine Rx.k (o _) ?_|refine Rx.k (Z _) ?_|refine Rx.k (i _) ?_|refine Rx.k (Y _) ?_)|(apply aS (fun z V=>?_) (fun z V=>?_)<;>try(cases z;done))|apply ak ?_|(apply zcm fun K hK=>?_)|apply ay ?_|apply zco ?_|apply am ?_)
 all_goals
  all_goals (refine⟨eI,_,eR,?_⟩;try simp only[zcn])
  rw[BI];(try simp only[fo]at *);simp only[k2,cr, *,lB,bT,ck,Int.reduceEq])
end
section
def tyG1.tyF:=ad @bZ (ad @cI (ad @ll (ad @dl (ad @jQ (ad @pR (@mG))))))
open tyG1
noncomputable def I1:{c:SC // aA 14 (Tryz.f11.body.getD .skip)=c}:=by
 refine⟨?_,?_⟩;rotate_left
 .simp only[Tryz.f11,a3,aA,zcG,zcE,zcJ,zcK,Nat.blt,Nat.ble];rfl
def gU(n m:Int):Int:=if n.tmod m<0 then eA (n.tmod m+m)else n.tmod m
theorem I2{n m:Int}(h:0<m)(h2:m<2^62):0<=gU n m/\gU n m<m:=by
 unfold gU;have o:=Int.tmod_lt_of_pos n h;have U:-m<n.tmod m:=by
  have:=Int.tmod_lt_of_pos (-n) h;rw[Int.neg_tmod]at this;omega
 split
 .unfold eA;rw[pG _ ac];omega
 .omega
def qM(x:Int×Int):List AV:=[.int .i64 x.1,.int .i64 x.2]
theorem zxK(x y:Int×Int)(h:qM x=qM y):x=y:=by
 simp only[qM,cM,AV.int.injEq,aY,fH]at h;exact jT h.1 h.2
theorem zth(ρ:Nat->Int)(x:Int×Int)(F:x.2≠0):a9 Tryz.prog ρ 11 (qM x) (.int .i64 (gU x.1 x.2)):=zdv fit (pls:=pls) (l:=[]) trivial (.cons (.int _ _) (.cons (.int _ _) .nil)) (.int _ _) (by
 have J:=zdM 11;obtain⟨n,m⟩:=x;rw[qM];simp only[]at F⊢;refine zcv (M:=14) (rs:=[.tmp 4]) (J.call _) J.ice J.froz Tryz.func11 rfl rfl I1.2 rfl ?_;dsimp only[I1,zcr,Nat.reduceAdd];repeat' (first
  |(apply zcl ?_;clear hK K)|apply Rx.o ?_|(apply aS (fun z V=>?_) (fun z V=>?_)<;>try(cases z;done))|apply ak ?_|(apply zcm fun K hK=>?_)|apply zco ?_|apply am ?_)
 all_goals (refine⟨eI,_,eR,?_⟩;try simp only[zcn])
 all_goals (simp_all[gU];try omega))
noncomputable def I3:En:=⟨11,false,bX (fun x=>x.2≠0) qM fun x=>.int .i64 (gU x.1 x.2)⟩
theorem zpH(ρ:Nat->Int):zdd Tryz.prog ρ I3:=zdk fun x F=>zth ρ x F
end
section
def tyG2.tyF:=ad @bZ (ad @d8 (@Q3))
open tyG2
def d5(S:Nat->Prop)(n:Nat)(H:Hp)(v w:AV):Prop:=∃u,zdf S n H v u/\∀m,n<=m->bE m u=w
def zdJ(S:Nat->Prop)(n:Nat)(H:Hp)(cs O:List AV):Prop:=∃F,zcW (zdf S n H) cs F/\∀m,n<=m->F.map (bE m)=O
theorem zdJ.frame{S S':Nat->Prop}(hS:∀k,S k->S' k){n:Nat}{H H':Hp}{v w:List AV}(h:zdJ S n H v w)(m:H.next<=H'.next)(i:∀k,S k->k<H.next->oF (H.get k) (H'.get k)):zdJ S' n H' v w:=by
 obtain⟨u,Z,g⟩:=h;exact⟨u,Z.mono fun a b k=>k.frame hS m i,g⟩
theorem zdJ.keep{S S':Nat->Prop}(hS:∀k,S k->S' k){n:Nat}{H H':Hp}{v w:List AV}(h:zdJ S n H v w)(m:H.next<=H'.next)(i:∀k,S k->k<H.next->H'.get k=H.get k):zdJ S' n H' v w:=h.frame hS m fun k Z g=>.inl (i k Z g).symm
theorem d5.up{S:Nat->Prop}{n m:Nat}{H:Hp}{v w:AV}(h:d5 S n H v w)(M:n<=m):d5 S m H v w:=by
 obtain⟨u,i,g⟩:=h;exact⟨u,i.up M,fun k j=>g k ac⟩
theorem zdJ.nil{S:Nat->Prop}{n:Nat}{H:Hp}:zdJ S n H [] []:=⟨[],trivial,fun _ _=>rfl⟩
theorem zdJ.cons{S:Nat->Prop}{n:Nat}{H:Hp}{v w:AV}{cs O:List AV}(h:d5 S n H v w)(k:zdJ S n H cs O):zdJ S n H (v::cs) (w::O):=by
 obtain⟨u,i,g⟩:=h;obtain⟨F,o,U⟩:=k;exact⟨u::F,⟨i,o⟩,fun m M=>by rw[dJ,g m M,U m M]⟩
theorem d5.flat{S:Nat->Prop}{n:Nat}{H:Hp}{v:AV}(h:Ea v)(j:∀m,bE m v=v):d5 S (n+1) H v v:=⟨v,lj h,fun m _=>j m⟩
theorem d5.int{S:Nat->Prop}{n:Nat}{H:Hp}(k:IntKind)(x:Int):d5 S (n+1) H (.int k x) (.int k x):=.flat ⟨.int _ _,trivial⟩ fun m=>by cases m<;>rfl
theorem d5.str{S:Nat->Prop}{n:Nat}{H:Hp}(s:List UInt8):d5 S (n+1) H (.str s) (.str s):=.flat ⟨.str _,trivial⟩ fun m=>by cases m<;>rfl
theorem d5.nilS{S:Nat->Prop}{n:Nat}{H:Hp}:d5 S (n+1) H .nilS (.lst []):=⟨.nilS,lj ⟨.nilS,trivial⟩,fun m M=>by
 obtain⟨m,rfl⟩:∃k,m=k+1:=⟨m-1,ac⟩;rfl⟩
def gV(S:Nat->Prop)(n:Nat)(H:Hp)(z:Nat):List (List AV)->List (List AV)->Prop:=zcW fun a b=>a.length=z/\zdJ S n H a b
theorem gV.two{S:Nat->Prop}{n z:Nat}{H:Hp}:∀{a b:List (List AV)},gV S n H z a b->∃u,zcW (zcW (zdf S n H)) a u/\(∀m,n<=m->u.map (List.map (bE m))=b)/\∀x∈a,x.length=z
 |[],[],_=>⟨[],trivial,fun _ _=>rfl,aD⟩
 |x::a,y::b,⟨⟨hz,v,h1,h2⟩,h⟩=>by
  obtain⟨u,o,U,j⟩:=gV.two (a:=a) (b:=b) h;exact⟨v::u,⟨h1,o⟩,fun m M=>by rw[dJ,h2 m M,U m M],fun q K=>by
   rcases fk.1 K with rfl|K
   .exact hz
   .exact j q K⟩
theorem d5.rows{S:Nat->Prop}{n:Nat}{H:Hp}{r z imm:Nat}{tip:Bool}{a b:List (List AV)}(hS:S r)(hr:r<H.next)(A:H.get r=some (.cells a.flatten imm tip))(C:imm<=a.flatten.length)(h:gV S n H z a b):d5 S (n+1) H (.sl r 0 a.length z) (.lst b):=by
 obtain⟨u,i,g,o⟩:=gV.two h;refine⟨.lst u,zdf.rows hS hr A C o i,fun m M=>?_⟩;obtain⟨m,rfl⟩:∃k,m=k+1:=⟨m-1,ac⟩;show AV.lst (u.map fun Z=>Z.map (bE m))=_;rw[<-g m ac]
theorem gV.frame{S S':Nat->Prop}(hS:∀k,S k->S' k){n z:Nat}{H H':Hp}{a b:List (List AV)}(h:gV S n H z a b)(m:H.next<=H'.next)(i:∀k,S k->k<H.next->H'.get k=H.get k):gV S' n H' z a b:=zcW.mono (fun x y k=>⟨k.1,k.2.keep hS m i⟩) h
end
section
theorem zdJ.keep2{S S':Nat->Prop}{n:Nat}{H H':Hp}{v w:List AV}(h:zdJ S n H v w)(hS:∀k,k<H.next->S k->S' k)(m:H.next<=H'.next)(i:∀k,S k->k<H.next->H'.get k=H.get k):zdJ S' n H' v w:=by
 obtain⟨u,Z,g⟩:=h;exact⟨u,Z.mono fun a b k=>k.frame2 hS m fun q o U=>.inl (i q o U).symm,g⟩
theorem gV.keep2{S S':Nat->Prop}{n z:Nat}{H H':Hp}{a b:List (List AV)}(h:gV S n H z a b)(hS:∀k,k<H.next->S k->S' k)(m:H.next<=H'.next)(i:∀k,S k->k<H.next->H'.get k=H.get k):gV S' n H' z a b:=zcW.mono (fun x y k=>⟨k.1,k.2.keep2 hS m i⟩) h
theorem gV.len{S:Nat->Prop}{n z:Nat}{H:Hp}:∀{a b:List (List AV)},gV S n H z a b->∀x∈a,x.length=z
 |[],[],_,x,F=>by simp at F
 |y::a,w::b,h,x,F=>by
  rcases fk.1 F with rfl|F
  .exact h.1.1
  .exact gV.len h.2 x F
def iZ(S:Nat->Prop)(n:Nat)(H:Hp)(z:Nat)(v:AV)(O:List (List AV)):Prop:=
 (v=.nilS/\O=[])\/∃q g rows,v=.sl q 0 rows.length z/\S q/\q<H.next/\H.get q=some (.cells rows.flatten g true)/\g<=rows.flatten.length/\gV (fun k=>S k/\k≠q) n H z rows O
theorem iZ.rd{S:Nat->Prop}{n:Nat}{H:Hp}{z:Nat}{v:AV}{O:List (List AV)}(h:iZ S n H z v O):d5 S (n+1) H v (.lst O):=by
 rcases h with⟨rfl,rfl⟩|⟨q,g,rows,rfl,i,Z,o,U,Y⟩
 .exact .nilS
 .exact .rows i Z o U (Y.frame (fun k j=>j.1) (aM _) fun _ _ _=>rfl)
theorem iZ.keep{S S':Nat->Prop}{n:Nat}{H H':Hp}{z:Nat}{v:AV}{O:List (List AV)}(h:iZ S n H z v O)(hS:∀k,k<H.next->S k->S' k)(m:H.next<=H'.next)(i:∀k,S k->k<H.next->H'.get k=H.get k):iZ S' n H' z v O:=by
 rcases h with h|⟨q,g,rows,e,Z,Y,o,U,W⟩
 .exact .inl h
 .exact .inr ⟨q,g,rows,e,hS q Y Z,ac,by rw[i q Z Y];exact o,U,W.keep2 (fun k j K=>⟨hS k j K.1,K.2⟩) m fun k A F=>i k A.1 F⟩
theorem iZ.one{S:Nat->Prop}{n:Nat}{H:Hp}{z:Nat}{v:AV}{O:List (List AV)}(h:iZ S n H z v O):AV.one v=true/\v.cells=[v]:=by
 rcases h with⟨rfl,rfl⟩|⟨q,g,rows,rfl,_⟩<;>exact⟨rfl,rfl⟩
theorem iZ.len{P:Program}{t e:TypeId}(C:P.underlying t=some (.slice e)){S:Nat->Prop}{n:Nat}{H H':Hp}{z:Nat}{v:AV}{O:List (List AV)}(h:iZ S n H z v O):zc0 P H' t v=some (.int .i64 O.length):=by
 rcases h with⟨rfl,rfl⟩|⟨q,g,rows,rfl,i,Z,o,U,j⟩
 .exact zeA C
 .rw[zez C,show rows.length=O.length from zcW.len j]
noncomputable def B2:En:=⟨55,true,bX (fun p=>p.sz<2^36) fd fun p=>.int .i64 (m7 p)⟩
theorem zpI(ρ:Nat->Int):zdd Tryz.prog ρ B2:=zdk fun p hp=>Z9 ρ p hp
theorem zae(p:Pr):(fd p).any (ji 90)=false:=rfl
theorem zaf{l:List En}(I:∀z,zdn l 55 z=(kD B2).sp z)(C:iz l 55=true){S:Nat->Prop}{n:Nat}{H:Hp}{cs:List AV}{p:Pr}(Z:n<59)(O:zdJ S n H cs p.cells)(m:p.sz<2^36):
 zcx Tryz.prog (zcq pls l) 55 [.agg cs] H fun v H'=>v=.int .i64 (m7 p)/\Icy S H H':=by
 obtain⟨us,i,g⟩:=O;refine r7 (x:=p) (enc:=fd) (ok:=fun p=>p.sz<2^36) (out:=fun p=>.int .i64 (m7 p)) (us:=[.agg us]) (n:=n+1) qA (fun z=>rx) C zae m ac ⟨⟨us,i,rfl⟩,trivial⟩ ?_;show [AV.agg (us.map (bE 59))]=_;rw[g 59 ac];rfl
theorem I4(m:Nat)(k:IntKind)(n:Int):bE m (.int k n)=.int k n:=by cases m<;>rfl
theorem zag(m:Nat)(s:List UInt8):bE m (.str s)=.str s:=by cases m<;>rfl
theorem Ar.wk(m:Nat)(x:Ar):x.cells.map (bE m)=x.cells:=by
 rw[Ar.cells_eq];simp only[dJ,xd,zag,I4]
theorem I5{M:Type}{f:M->List AV}(h:∀m x,(f x).map (bE m)=f x)(l:List M)(m:Nat):bE m (.lst (l.map f))=.lst (l.map f):=by
 cases m with
 |zero=>rfl
 |succ m=>
  simp only[bE,oD];have:(fun z=>List.map (bE m) z) ∘ f=f:=funext fun y=>h m y;rw[this]
theorem zxL(l:List Int)(m:Nat):bE m (.lst (l.map fun n=>[AV.int .i64 n]))=.lst (l.map fun n=>[AV.int .i64 n]):=I5 (f:=fun n:Int=>[AV.int .i64 n]) (fun m x=>by simp only[dJ,xd,I4]) l m
theorem d5.agg{S:Nat->Prop}{n:Nat}{H:Hp}{cs O:List AV}(h:zdJ S n H cs O):d5 S (n+1) H (.agg cs) (.agg O):=by
 obtain⟨F,i,g⟩:=h;refine⟨.agg F,⟨F,i,rfl⟩,fun m M=>?_⟩;obtain⟨m,rfl⟩:∃k,m=k+1:=⟨m-1,ac⟩;show AV.agg (F.map (bE m))=_;rw[g m ac]
theorem qN{S:Nat->Prop}{n:Nat}{H:Hp}{q imm:Nat}{tip:Bool}(l:List Int)(hS:S q)(K:q<H.next)(A:H.get q=some (.cells (l.map fun n=>.int .i64 n) imm tip))(C:imm<=l.length):d5 S (n+2) H (.sl q 0 l.length 1) (.lst (l.map fun n=>[.int .i64 n])):=by
 have i:(l.map fun n=>[AV.int .i64 n]).flatten=l.map fun n=>AV.int .i64 n:=by
  clear A C;induction l with
  |nil=>rfl
  |cons a l ih=>rw[dJ,lN,ih];rfl
 have hr:∀l:List Int,gV S (n+1) H 1 (l.map fun n=>[AV.int .i64 n]) (l.map fun n=>[AV.int .i64 n]):=fun l=>by
  induction l with
  |nil=>trivial
  |cons a l ih=>exact⟨⟨rfl,.cons (.int _ _) .nil⟩,ih⟩
 have:=d5.rows (n:=n+1) (a:=l.map fun n=>[AV.int .i64 n]) (imm:=imm) (tip:=tip) hS K (by rw[i];exact A) (by rw[i,cR];exact C) (hr l);rw[cR]at this;exact this
theorem znr{cfg:Cfg}(fit:Fit Tryz.prog){ρ:Nat->Int}(L:kj cfg.dec ρ)(O:∀f args r,cfg.call f args=some r->a9 Tryz.prog ρ f args r){g:FuncId}{args:List AV}{r:AV}{n:Nat}
 (V:zd7 args) (h:zcx Tryz.prog cfg g args zc2 fun v H'=>∃m u,iceV H' m v=some u/\bE n u=r):a9 Tryz.prog ρ g args r:=by
 unfold zcx at h;obtain⟨v,H',i,m,u,Z,o⟩:=h;refine z8 n (zfi (m:=m) fit L O V ?_) o;unfold zcx;exact⟨v,H',i,Z⟩
theorem zj4{P:Program}{t e:TypeId}{z b:Nat}{I:List AV}(i:P.underlying t=some (.slice e))(g:zcC P e=some z)(U:zc7 P e=some b)(hz:zcX P e=some I)(F:I.length=z)(C:j9 P t=true)
 {S S':Nat->Prop}{n:Nat}{H:Hp}{v:AV}{O:List (List AV)} (h:iZ S n H z v O) (L:∀k,k<H.next->S k->S' k) (hN:S' H.next) {r imm:Nat}{row:List AV} (hg:H.get r=some (.cells row imm true)) (hrow:row.length=z) (V:row.all AV.one=true)
 (W:(O.length+1)*b<=zdO) (Y:O.length+1<=zdO) :
 ∃H' rows Z,zdX P false H t t v (.sl r 0 1 z)=some (.sl H.next 0 (O.length+1) z,H')/\rows.length=O.length/\(∀x∈rows,x.length=z)/\H'.get H.next=some (.cells (rows.flatten++row) Z true)/\Z<=rows.flatten.length/\H'.next=H.next+1/\(∀k,k<H.next->(∀o m z',v≠.sl k o m z')->H'.get k=H.get k) /\
  gV (fun k=>S' k/\k≠H.next) n H' z rows O:=by
 have hx:zer H z (.sl r 0 1 z)=some (1,row):=by
  have:=lT (H:=H) (r:=r) (o:=0) (n:=1) (z:=z) (s:=z) hg Fh;rw[this,dQ,ev ac]
 rcases h with⟨rfl,rfl⟩|⟨q,Z,rows,rfl,h1,h2,h3,h4,j⟩
 .exact⟨H.alloc (.cells row 0 true),[],0,append_nil i g U hz C hx V F pB tJ,rfl,aD,by rw[zcu,ax rfl];simp,cK _,rfl,fun k hk _=>fF,trivial⟩
 .have hrl:=wA (gV.len j);have M:rows.length=O.length:=zcW.len j;have J:fY false H z (.sl q 0 rows.length z)=H:=by
   unfold fY;simp only[h3,bw];have:Nat.blt (rows.length*z) rows.flatten.length=false:=by
    cases U:Nat.blt (rows.length*z) rows.flatten.length with
    |false=>rfl
    |true=>rw[gE]at U;omega
   simp only[gL,de,this,dK]
  refine⟨(H.kill q).alloc (.cells (rows.flatten++row) (Z-0) true),rows,Z-0,?_,M,gV.len j,?_,ac,rfl,fun k hk K=>?_,?_⟩
  .simp only[zdX,i,g,U,hz,C,hx,V,J,F,mE,bT,jH,h3,bw,dQ,cr,ck];rw[ax ⟨by rw[M];exact W,by rw[M];exact Y,ac,trivial,h4⟩,M]
  .show((H.kill q).alloc _).get (H.kill q).next=_
   rw[zcu,ax rfl]
  .rw[zcu,ah ls,zem,ah (fun e=>K 0 rows.length z k7)]
  .exact j.keep2 (fun k A h7=>⟨L k A h7.1,ac⟩) (f7 _) fun k A h7=>by rw[zcu,ah ls,zem,ah A.2]
theorem iZ.of{S:Nat->Prop}{n q z imm:Nat}{H:Hp}{rows O:List (List AV)}{row w:List AV}(hS:S q)(K:q<H.next)(m:∀x∈rows,x.length=z)(o:row.length=z)(A:H.get q=some (.cells (rows.flatten++row) imm true))(C:imm<=rows.flatten.length)(hr:gV (fun k=>S k/\k≠q) n H z rows O)(J:zdJ (fun k=>S k/\k≠q) n H row w):iZ S n H z (.sl q 0 (O.length+1) z) (O++[w]):=by
 have I:rows.length=O.length:=zcW.len hr;exact .inr ⟨q,imm,rows++[row],by rw[fj,I];rfl,hS,K,by rw[A];simp,by rw[List.flatten_append,fj];omega,hr.append ⟨⟨o,J⟩,trivial⟩⟩
theorem I6{P:Program}{t e:TypeId}{z b:Nat}{M:List AV}(J:P.underlying t=some (.slice e))(A:zcC P e=some z)(j:zc7 P e=some b)(hz:zcX P e=some M)(F:M.length=z)(C:j9 P t=true)
 {S S':Nat->Prop}{n:Nat}{H:Hp}{v:AV}{O:List (List AV)} (h:iZ S n H z v O) (Y:∀k,k<H.next->S k->S' k) (I:S' H.next) {r imm:Nat}{row w:List AV} (hg:H.get r=some (.cells row imm true)) (Z:row.length=z) (V:row.all AV.one=true)
 (hw:zdJ (fun k=>S' k/\∀o m L,v≠.sl k o m L) n H row w) (W:(O.length+1)*b<=zdO) (U:O.length+1<=zdO) :
 ∃H',zdX P false H t t v (.sl r 0 1 z)=some (.sl H.next 0 (O.length+1) z,H')/\iZ S' n H' z (.sl H.next 0 (O.length+1) z) (O++[w])/\H'.next=H.next+1/\(∀k,k<H.next->(∀o m L,v≠.sl k o m L)->H'.get k=H.get k):=by
 obtain⟨H',rows,K,a1,a2,zd9,zea,a5,a6,zfj,zfm⟩:=zj4 (P:=P) J A j hz F C h Y I hg Z V W U;refine⟨H',a1,?_,a6,zfj⟩;exact iZ.of I ac zd9 Z zea a5 zfm (hw.keep2 (fun k i g=>⟨g.1,ac⟩) ac fun k i g=>zfj k g i.2)
def tyV7.tyF:=ad @cI (ad @bZ (ad @dl (ad @eL (ad @mK (ad @mL (ad @hM (ad @ju (ad @lm (ad @mM (ad @jP (ad @rU (ad @jQ (ad @iA (ad @iB (ad @gk (@mN))))))))))))))))
open tyV7
noncomputable def I7:{c:SC // aA 43 (Tryz.f31.body.getD .skip)=c}:=by
 refine⟨?_,?_⟩;rotate_left
 .simp only[Tryz.f31,a3,aA,zcG,zcE,zcJ,zcK,Nat.blt,Nat.ble];rfl
def fA(g:Gr):Fu:=⟨g.name,[],[],[],.mk 1 0 [] 0 []⟩
def gl(u:Un):Pr:=⟨u.arrays,u.funcs.map fA⟩
def fV(u:Un):Bool:=decide (m7 (gl u)=0)&&u.funcs.all (ee u)
structure UnOk (u:Un):Prop where
 a:u.arrays.length<2^30
 f:u.funcs.length<2^30
 g:∀g∈u.funcs,jK g.nodes
 z:(gl u).sz<2^36
noncomputable def I8:En:=⟨63,false,bX xN me fun x=>.bool (ee x.u x.g)⟩
theorem zxM(ρ:Nat->Int):zdd Tryz.prog ρ I8:=zdk fun x F=>Y1 ρ x F
noncomputable def u4:List En:=[kD B2,I8]
theorem zxN(ρ:Nat->Int):eX Tryz.prog ρ u4:=⟨rQ (zpI ρ),zxM ρ,trivial⟩
theorem zam(s:List UInt8):zdK Tryz.prog 106 [(0,.str s),(4,.agg [.int .i64 1,.int .i64 0,.str [],.int .i64 0,.nilS])]=some (.agg [.str s,.nilS,.nilS,.nilS,.int .i64 1,.int .i64 0,.str [],.int .i64 0,.nilS]):=af
theorem zan:zdK Tryz.prog 104 [(0,.int .i64 1)]=some (.agg [.int .i64 1,.int .i64 0,.str [],.int .i64 0,.nilS]):=af
theorem zao(a:AV)(xs:List (List AV))(h:a=.lst xs):zdK Tryz.prog 64 [(0,a)]=some (.agg [a,.nilS]):=by subst h;kernel_rfl
theorem zap(H:Hp)(s:List UInt8):zdS Tryz.prog H 62 1 [(0,.agg [.str s,.nilS,.nilS,.nilS,.int .i64 1,.int .i64 0,.str [],.int .i64 0,.nilS])]=some (.sl H.next 0 1 9,H.alloc (.cells [.str s,.nilS,.nilS,.nilS,.int .i64 1,.int .i64 0,.str [],.int .i64 0,.nilS] 0 true)):=af
theorem zxO{S:Nat->Prop}{H:Hp}(g:Gr):zdJ S 2 H [.str g.name,.nilS,.nilS,.nilS,.int .i64 1,.int .i64 0,.str [],.int .i64 0,.nilS] (fA g).cells:=
 .cons (.str _) (.cons .nilS (.cons .nilS (.cons .nilS (.cons (.int _ _) (.cons (.int _ _) (.cons (.str _) (.cons (.int _ _) (.cons .nilS .nil))))))))
set_option maxRecDepth 100000 in
theorem zns(ρ:Nat->Int)(u:Un)(hu:UnOk u):a9 Tryz.prog ρ 31 [.agg u.cells] (.bool (fV u)):=zdv fit (pls:=pls) (zxN ρ) (.cons (.agg (rS _)) .nil) (.bool _) (by
 obtain⟨ha,hf,hg,hz⟩:=hu;have hw:Plain (zcq pls u4) 31:=zdm (fun _=>rfl) rfl;have hkeep:(zcq pls u4).keep 31=false:=rfl;have bP:=zao (.lst (u.arrays.map Ar.cells)) _ rfl;refine zcv (M:=43) (rs:=[.tmp 2]) (hw.call _) hw.ice hw.froz Tryz.func31 rfl rfl I7.2 rfl ?_;dsimp only[I7,zcr,Nat.reduceAdd];repeat' (first
  |(apply zcl ?_;clear hK K)|apply Rx.o ?_|apply b8 ?_|apply ak ?_|(apply zcm fun K hK=>?_)|apply ay ?_|fail)
 refine zdl [1,2,3,12,13] [0] 14 u.funcs.length (fun i E Z=>∃W,Z.get 1=some (.cells [.lst (u.arrays.map Ar.cells),W] 0 true)/\iZ (fun k=>2<=k) 2 Z 9 W (((u.funcs.map fA).take i).map Fu.cells)) eE ⟨.nilS,uK,.inl ⟨rfl,rfl⟩⟩ ?_;rintro i E Z hi C A U hsI ⟨W,g1,rf⟩;(try simp only[zcO,zcI,aY,zcz,zcL,Nat.reduceBEq, *]at C);(try simp only[zcO,zcI,aY,zcz,zcL,Nat.reduceBEq, *]at A);(try simp only[zcB,zcS,zdg,bw,Nat.reduceAdd]at U);have hB0:(0 == Z.next)=false:=zcD ac;have hC0:(Z.next == 0)=false:=zcD ac;have ni:2<=Z.next:=U
 obtain⟨hf1,hf2⟩:=rf.one;by_cases hlt:i<u.funcs.length
 .have hlt':(i:Int)<u.funcs.length:=by omega
  have hgx:u.funcs[i]?=some u.funcs[i]:=aO hlt;have htk:((u.funcs.map fA).take (i+1)).map Fu.cells=((u.funcs.map fA).take i).map Fu.cells++[(fA u.funcs[i]).cells]:=by
   rw[mw,dX,hgx,pL];rfl
  have Y:(((u.funcs.map fA).take i).map Fu.cells).length=i:=by rw[cR,iN,cR];omega
  generalize u.funcs[i]=g at *;have g1a:∀b c,((Z.alloc b).set Z.next c).get 1=some (.cells [.lst (u.arrays.map Ar.cells),W] 0 true):=fun b c=>by rw[aU,ah ac,zcu,ah ac];exact g1
  generalize hcells:((u.funcs.map fA).take i).map Fu.cells=fs at *;have gh0:=@zan;have gh1:=@zam;have gh2:=@zap;repeat' (first
   |(apply zcl ?_;clear hK K)|apply Ry.o ?_|apply b7 ?_|(apply aB (fun z V=>?_) (fun z V=>?_)<;>try(cases z;done))|apply ak ?_|(apply zcm fun K hK=>?_)|apply ay ?_|apply zco ?_|fail)
  generalize O:Hp.alloc (Hp.set (Z.alloc _) _ _) _=Hb;have nb:Hb.next=Z.next+2:=by rw[<-O];rfl
  have L:∀k,k<Z.next->Hb.get k=Z.get k:=fun k J=>by rw[<-O,zcu,ah BD,aU,ah ac,zcu,ah ac]
  have gr:Hb.get (Z.next+1)=some (.cells [.str g.name,.nilS,.nilS,.nilS,.int .i64 1,.int .i64 0,.str [],.int .i64 0,.nilS] 0 true):=by rw[<-O,zcu,ax db]
  clear O;have hfq:∀k,k<=1->∀o m z',W≠.sl k o m z':=fun k J o m z' e=>by
   rcases rf with⟨h1,_⟩|⟨q,im,rows,h1,h2,h3,_⟩
   .rw[h1]at e;cases e
   .rw[h1]at e;simp only[AV.sl.injEq]at e;omega
  obtain⟨H7,zfj,zfn,n7,q7⟩:=I6 (P:=Tryz.prog) (t:=62) Tryz.underlying62 Ap Ew Ey rfl af (S':=fun k=>2<=k)
   (rf.keep (S':=fun k=>2<=k) (H':=Hb) (fun _ _ h=>h) ac fun k _ J=>L k J) (fun _ _ h=>h) ac (r:=Z.next+1) (imm:=0) (row:=[.str g.name,.nilS,.nilS,.nilS,.int .i64 1,.int .i64 0,.str [],.int .i64 0,.nilS]) (w:=(fA g).cells) gr rfl rfl (zxO g)
   IK IK
  rw[Y]at zfj zfn;have g17:H7.get 1=some (.cells [.lst (u.arrays.map Ar.cells),W] 0 true):=by rw[q7 1 ac (hfq 1 ac),L 1 ac];exact g1
  have g07:H7.get 0=Z.get 0:=by rw[q7 0 ac (hfq 0 ac),L 0 ac]
  have n7':Z.next<=H7.next:=ac
  clear L gr q7 hfq nb;repeat' (first
   |(apply zcl ?_;clear hK K)|apply Rx.o ?_|apply b8 ?_|(apply zcm fun K hK=>?_)|fail)
  refine⟨ac,zcy,zcy,zcT,sK,?_⟩;refine⟨.sl Hb.next 0 (i+1) 9,uK,?_⟩;rw[htk];exact zfn.keep (fun _ _ h=>h) (aM _) fun k J _=>by rw[aU,ah ac]
 .have hlt':¬(i:Int)<u.funcs.length:=by omega
  have hti:(u.funcs.map fA).take i=u.funcs.map fA:=ev (by rw[cR];omega);rw[hti]at rf;have hcw:zdJ (fun k=>2<=k) 3 Z [.lst (u.arrays.map Ar.cells),W] (gl u).cells:=.cons (.flat ⟨.map fun x _=>x.pure,trivial⟩ fun m=>I5 (f:=Ar.cells) Ar.wk u.arrays m) (.cons rf.rd .nil);have ag:zc6 2 [.lst (u.arrays.map Ar.cells),W]=some (.agg [.lst (u.arrays.map Ar.cells),W]):=rfl;repeat' (first
   |(apply zcl ?_;clear hK K)|apply Ry.o ?_|(apply aB (fun z V=>?_) (fun z V=>?_)<;>try(cases z;done))|apply ak ?_|(apply zcm fun K hK=>?_)|apply zcA ?_)
  refine bg rfl bh bj ?_;simp only[br];refine a7 ?_ (zaf (l:=u4) (fun _=>rfl) rfl ac hcw hz);rintro v H4 ⟨rfl,hy⟩;have g04:H4.get 0=Z.get 0:=hy.out 0 ac;have n4:=hy.next
  clear hcw g1 rf;dsimp only[zcF];by_cases hc:m7 (gl u)=0
  .have hU:fV u=u.funcs.all (ee u):=by rw[fV,hc];rfl
   repeat' (first
    |(apply zcl ?_;clear hK K)|apply Ry.o ?_|(apply aB (fun z V=>?_) (fun z V=>?_)<;>try(cases z;done))|apply ak ?_|(apply zcm fun K hK=>?_)|apply ay ?_|apply zco ?_|fail)
   refine zdl [1,32,33] [0] 34 u.funcs.length (fun j E Hj=>∀k,k<j->∀g,u.funcs[k]?=some g->ee u g=true) eE (fun k J=>ac) ?_;rintro j E3 Hj hj C A U hsI hJ;(try simp only[zcO,zcI,aY,zcz,zcL,Nat.reduceBEq, *]at C);(try simp only[zcO,zcI,aY, *]at A);(try simp only[zcB,zcS,zdg,bw,Nat.reduceAdd]at U);have hB0:(0 == Hj.next)=false:=zcD ac;have hC0:(Hj.next == 0)=false:=zcD ac;by_cases I:j<u.funcs.length
   .have hlt3':(j:Int)<u.funcs.length:=by omega
    have hgx:u.funcs[j]?=some u.funcs[j]:=aO I;have F:=dj I;have hgk:=hg _ F;generalize u.funcs[j]=g at *;have kv:∀H,zcx Tryz.prog (zcq pls u4) 63 [.agg u.cells,.agg g.cells] H fun v H'=>v=.bool (ee u g)/\H'=H:=fun H=>zds (enc:=me) (ok:=xN) (out:=fun x=>.bool (ee x.u x.g)) HW (x:=⟨u,g⟩) rfl ⟨hgk,ha,hf⟩;by_cases hv:ee u g=true
    .repeat' (first
      |(apply zcl ?_;clear hK K)|apply Ry.o ?_|apply b7 ?_|(apply bK ?_;first|refine Rx.k (kv _) ?_)|(apply aB (fun z V=>?_) (fun z V=>?_)<;>try(cases z;done))|apply ak ?_|(apply zcm fun K hK=>?_)|apply ay ?_|apply zco ?_|fail)
     refine⟨ac,zcy,zcy,zcT,sK,?_⟩;intro k J g' hg';by_cases e:k=j
     .subst e;rw[hgx]at hg';cases hg';exact hv
     .exact hJ k ac g' hg'
    .have hv':ee u g=false:=by simpa using hv
     have hR:u.funcs.all (ee u)=false:=by
      rw[BE];exact⟨g,F,hv⟩
     rw[hR]at hU;clear hJ hR;repeat' (first
      |(apply zcl ?_;clear hK K)|apply Ry.o ?_|apply b7 ?_|(apply bK ?_;first|refine Rx.k (kv _) ?_)|(apply aB (fun z V=>?_) (fun z V=>?_)<;>try(cases z;done))|apply ak ?_|(apply zcm fun K hK=>?_)|apply ay ?_|apply zco ?_|apply am ?_|fail)
     all_goals (refine⟨eI,_,eR,?_⟩;try simp only[zcn])
     rw[hU]
   .have hlt3':¬(j:Int)<u.funcs.length:=by omega
    have hR:u.funcs.all (ee u)=true:=f9.2 fun g hm=>by
     obtain⟨k,J,e⟩:=oA hm;exact hJ k ac g (by rw[aO J,e])
    rw[hR]at hU;clear hJ hR;repeat' (first
     |(apply zcl ?_;clear hK K)|apply Ry.o ?_|(apply aB (fun z V=>?_) (fun z V=>?_)<;>try(cases z;done))|apply ak ?_|(apply zcm fun K hK=>?_)|apply am ?_|apply zcA ?_)
    all_goals (refine⟨eI,_,eR,?_⟩;try simp only[zcn])
    rw[hU]
  .have hU:fV u=false:=by rw[fV,cX hc];rfl
   repeat' (first
    |(apply zcl ?_;clear hK K)|apply Ry.o ?_|(apply aB (fun z V=>?_) (fun z V=>?_)<;>try(cases z;done))|apply ak ?_|(apply zcm fun K hK=>?_)|apply am ?_|fail)
   all_goals (refine⟨eI,_,eR,?_⟩;try simp only[zcn])
   rw[hU])
noncomputable def I9:En:=⟨31,true,bX UnOk (fun u=>[.agg u.cells]) fun u=>.bool (fV u)⟩
theorem zxP(ρ:Nat->Int):zdd Tryz.prog ρ I9:=zdk fun u I=>zns ρ u I
end
section
namespace tyW6h
end tyW6h
open tyW6h
theorem sM(a b:AV):zc6 2 [a,b]=some (.agg [a,b]):=rfl
end
section
def er(o:Oc):AV:=.agg [.int .i64 o.kind,.int .i64 o.code,jO o.out,.int .i64 o.value]
def tyEvJ.tyF:=ad @cI (ad @bZ (ad @dl (ad @eY (ad @eL (ad @mK (ad @mL (ad @hM (ad @ju (ad @ll (ad @An (ad @lm (ad @rT (ad @oH (ad @wG (ad @qa (ad @rV (@sM)))))))))))))))))
open tyEvJ
noncomputable def Ja:{c:SC // aA 131 (Tryz.f14.body.getD .skip)=c}:=by
 refine⟨?_,?_⟩;rotate_left
 .simp only[Tryz.f14,a3,aA,zcG,zcE,zcJ,zcK,Nat.blt,Nat.ble];rfl
theorem znt{f:FuncId}(h:wW f=true):f=149\/f=150\/f=102\/f=104\/f=151\/f=184\/f=153\/f=103\/f=65\/f=36\/f=34\/f=33\/f=35:=by
 simp only[wW,nJ]at h;rcases h with(((((((((((h|h)|h)|h)|h)|h)|h)|h)|h)|h)|h)|h)|h<;>have e:=gD h<;>subst e<;>simp
noncomputable def Jb:En:=⟨32,false,bX Flat9 iX fun l=>zfp l.length⟩
theorem ztk(ρ:Nat->Int):zdd Tryz.prog ρ Jb:=zdk fun l I=>Yg ρ l I
noncomputable def oc:List En:=[I9,Jb,AO,AP]
theorem ztl(ρ:Nat->Int):eX Tryz.prog ρ oc:=⟨zxP ρ,ztk ρ,WG ρ,WH ρ,trivial⟩
theorem xW:EvT oc:=⟨fun f i=>by rcases znt i with rfl|rfl|rfl|rfl|rfl|rfl|rfl|rfl|rfl|rfl|rfl|rfl|rfl<;>exact⟨fun _=>rfl,rfl⟩,fun _=>rfl,fun _=>rfl⟩
def j7(H:Hp)(v:AV)(vs:List AV):Prop:=(vs=[]/\v=.nilS)\/∃q,v=.sl q 0 vs.length 1/\q<H.next/\H.get q=some (.cells vs 0 true)
theorem j7.one{H:Hp}{v:AV}{vs:List AV}(h:j7 H v vs):AV.one v=true/\v.cells=[v]:=by
 rcases h with⟨_,rfl⟩|⟨q,rfl,_⟩<;>exact⟨rfl,rfl⟩
theorem j7.not{H:Hp}{v:AV}{vs:List AV}(h:j7 H v vs){p:Nat}(V:H.next<=p):∀o m z,v≠.sl p o m z:=fun o m z e=>by
 rcases h with⟨_,rfl⟩|⟨q,rfl,g,_⟩
 .cases e
 .simp only[AV.sl.injEq]at e;omega
theorem j7.keep{H H':Hp}{v:AV}{vs:List AV}(h:j7 H v vs)(Y:H.next<=H'.next)(A:∀p,p<H.next->(∃o m z,v=.sl p o m z)->H'.get p=H.get p):j7 H' v vs:=by
 rcases h with h|⟨q,rfl,g,Z⟩
 .exact .inl h
 .exact .inr ⟨q,rfl,ac,by rw[A q g ⟨_,_,_,rfl⟩];exact Z⟩
theorem j7.push{P:Program}{t e b:Nat}{O:List AV}(M:P.underlying t=some (.slice e))(K:zcC P e=some 1)(L:zc7 P e=some b)(J:zcX P e=some O)(F:O.length=1)(C:j9 P t=true){H:Hp}{v:AV}{vs:List AV}(h:j7 H v vs){r:Nat}{x:AV}(hr:H.get r=some (.cells [x] 0 true))(V:AV.one x=true)(W:(vs.length+1)*b<=zdO)(Z:vs.length+1<=zdO):
 ∃Y,zdX P false H t t v (.sl r 0 1 1)=some (.sl H.next 0 (vs.length+1) 1,Y)/\j7 Y (.sl H.next 0 (vs.length+1) 1) (vs++[x])/\H.next+1<=Y.next/\∀p,p<H.next->(∀o m z,v≠.sl p o m z)->Y.get p=H.get p:=by
 have I:zer H 1 (.sl r 0 1 1)=some (0+1,[x]):=by
  have:=lT (H:=H) (r:=r) (o:=0) (n:=1) (z:=1) (s:=1) hr aD;rw[this];rfl
 have i:[x].all AV.one=true:=by rw[mR,V];rfl
 rcases h with⟨rfl,rfl⟩|⟨q,rfl,g,A⟩
 .refine⟨H.alloc (.cells [x] 0 true),append_nil M K L J C I i F pB rr,.inr ⟨H.next,rfl,cL _,hW⟩,aM _,fun p hp _=>fF⟩
 .refine⟨(H.kill q).alloc (.cells (vs++[x]) 0 true),zX M K L J C I i F A ac pB rr,.inr ⟨H.next,by rw[fj];rfl,by rw[zcB,ze7];omega,?_⟩,by rw[zcB,ze7];omega,fun p hp U=>?_⟩
  .show((H.kill q).alloc _).get (H.kill q).next=_
   rw[zcu,ax rfl]
  .rw[zcu,ah (by rw[ze7];omega),zem,ah (fun e=>U 0 vs.length 1 k7)]
structure RunX where
 u:Un
 name:List UInt8
 args:List Int
 fuel:Int
def od(x:RunX):List AV:=[.agg x.u.cells,.str x.name,jO x.args,.int .i64 x.fuel]
structure RunTo9 (x:RunX) (o:Oc):Prop where
 uok:UnOk x.u
 valid:fV x.u=true
 f0:0<=x.fuel
 f1:x.fuel<=1000
 flat:∀g∈x.u.funcs,Flat9 g.nodes
 fn:∃(f:Nat) (g:Gr) (n m:Nat),rP x.name x.args.length x.u.funcs 0 (-1)=(f:Int)/\x.u.funcs[f]?=some g/\z4 n m g (D5 x.u.arrays x.fuel) x.args=some o
 arr:∀a∈x.u.arrays,0<=a.len/\a.len<2^20
 args:x.args.length<2^30
 out:o.out.length<2^30
theorem bSt(f:Int):zdK Tryz.prog 79 [(2,.int .i64 f)]=some (.agg [.nilS,.nilP,.int .i64 f,.int .i64 0,.int .i64 0,.int .i64 0]):=af
theorem B3(k:Int)(q n:Nat):zdK Tryz.prog 35 [(0,.int .i64 k),(2,.sl q 0 n 1)]=some (.agg [.int .i64 k,.int .i64 0,.sl q 0 n 1,.int .i64 0]):=af
theorem zax(H:Hp)(xs:List (List AV)):zdS Tryz.prog H 73 1 [(0,.lst xs)]=some (.sl H.next 0 1 1,H.alloc (.cells [.lst xs] 0 true)):=af
theorem zay(H:Hp)(q n:Nat):zdS Tryz.prog H 58 1 [(0,.sl q 0 n 1)]=some (.sl H.next 0 1 1,H.alloc (.cells [.sl q 0 n 1] 0 true)):=af
theorem Jc(s:S9)(v:Int):(lV s v).out=s.out.reverse:=by
 unfold lV;split
 .rfl
 .split<;>rfl
theorem B4{H:Hp}{q:Nat}(k c v:Int)(l:List Int)(Z:q<H.next)(A:H.get q=some (.cells (zdt l) 0 true)):∃m u,iceV H m (.agg [.int .i64 k,.int .i64 c,.sl q 0 l.length 1,.int .i64 v])=some u/\bE 60 u=er ⟨k,c,l,v⟩:=by
 have h:zdJ (fun _=>True) 2 H [.int .i64 k,.int .i64 c,.sl q 0 l.length 1,.int .i64 v] [.int .i64 k,.int .i64 c,jO l,.int .i64 v]:=.cons (.int _ _) (.cons (.int _ _) (.cons (qN l trivial Z A (cK _)) (.cons (.int _ _) .nil)));obtain⟨F,i,g⟩:=h;have o:zdf (fun _=>True) 100 H (.agg [.int .i64 k,.int .i64 c,.sl q 0 l.length 1,.int .i64 v]) (.agg F):=zdf.up (n:=2+1) ⟨F,i,rfl⟩ ac;obtain⟨K,M⟩:=zdf.iceV o;refine⟨K,.agg F,M K (aM _),?_⟩;show AV.agg (F.map (bE 59))=_;rw[g 59 ac];rfl
set_option maxRecDepth 100000 in
theorem zpJ(ρ:Nat->Int)(x:RunX)(o:Oc)(h:RunTo9 x o):a9 Tryz.prog ρ 14 (od x) (er o):=
 znr (n:=60) (cfg:=zcq pls oc) fit (lc ρ) (fun g args r hg=>eX.look (l:=oc) (ztl ρ) g args r hg) (.cons (.agg (rS _)) (.cons (.str _) (.cons (Ac _) (.cons (.int _ _) .nil)))) (by
 obtain⟨u,name,args,W⟩:=x;obtain⟨huok,hval,f0,f1,F,⟨f,g,n,m,hfind,hgf,hent⟩,harr,hargs,hout⟩:=h;simp only at huok hval f0 f1 F hfind hgf hent harr hargs;have hw:Plain (zcq pls oc) 14:=zdm (fun _=>rfl) rfl;have hkeep:(zcq pls oc).keep 14=false:=rfl;have np:∀E:ao,zcp E (.const (.pointer none))=some .nilP:=fun _=>rfl;have kiv:∀H,zcx Tryz.prog (zcq pls oc) 31 [.agg u.cells] H fun v H'=>v=.bool true/\H'=H:=fun H=>by
  have:zcx Tryz.prog (zcq pls oc) 31 [.agg u.cells] H fun v H'=>v=.bool (fV u)/\H'=H:=zds (enc:=fun u:Un=>[.agg u.cells]) (ok:=UnOk) (out:=fun u=>.bool (fV u)) (fun x y h=>Un.inj iQ) (x:=u) rfl huok;rw[hval]at this;exact this
 have kld:∀l,Flat9 l->∀H,zcx Tryz.prog (zcq pls oc) 32 [zdy l] H fun v H'=>v=.lst ((List.replicate l.length 0).map fun(m:Nat)=>[AV.int .u32 (m:Int)])/\H'=H:=fun l hl H=>zds (enc:=iX) (ok:=Flat9) (out:=fun l=>zfp l.length) qu (x:=l) rfl hl;have eu:u.cells=[.lst (u.arrays.map Ar.cells),.lst (u.funcs.map Gr.cells)]:=rfl;have sM:∀a b:AV,zc6 2 [a,b]=some (.agg [a,b]):=fun _ _=>rfl;have hul:=huok.f;have hua:=huok.a;have hf0':¬W<0:=ac;have hf1':¬(1000:Int)<W:=ac;rw[eu]at kiv;show zcx _ _ _ [.agg u.cells,.str name,.lst (args.map fun n=>[AV.int .i64 n]),.int .i64 W] _ _;rw[eu];refine zcv (M:=131) (rs:=[.cell 8 35]) (hw.call _) hw.ice hw.froz Tryz.func14 rfl rfl Ja.2 rfl ?_;dsimp only[Ja,zcr,Nat.reduceAdd];repeat' (first
  |(apply zcl ?_;clear hK K)|apply Ry.o ?_|(apply bK ?_;first|refine Rx.k (kiv _) ?_)|(apply a8 (fun hg I=>?_) (fun hg I=>?_)<;>try(cases hg;done))|(apply aB (fun Y V=>?_) (fun Y V=>?_)<;>try(cases Y;done))|apply ak ?_|(apply zcm fun K hK=>?_)|apply ay ?_|apply zco ?_|fail)
 refine zdl [1,2,3,4,8,31,32] [0,1] 33 u.funcs.length (fun i E H=>∃hv fi vs,E.at 9=.int .i64 fi/\E.at 10=hv/\rP name args.length (u.funcs.drop i) i fi=rP name args.length u.funcs 0 (-1)/\vs.length=i/\j7 H hv vs/\∀q,q<2->∀o m z,hv≠.sl q o m z) eE ⟨.nilS,-1,[],eE,eE,aD,rfl,.inl ⟨rfl,rfl⟩,fun _ _ _ _ _ e=>by cases e⟩ ?_;rintro i E Z hi hcE hrH hnH hsI ⟨hv,fi,vs,zft,k10,hJ,hvs,hown,hno⟩;(try simp only[zcO,zcI,aY,zcz,zcL,Nat.reduceBEq, *]at hcE);(try simp only[zcO,zcI,aY,zcz,zcL,Nat.reduceBEq, *]at hrH);(try simp only[zcB,zdg,bw,Nat.reduceAdd]at hnH);have hB0:(0 == Z.next)=false:=zcD ac;have hC0:(Z.next == 0)=false:=zcD ac;have hB1:(1 == Z.next)=false:=zcD ac;have hC1:(Z.next == 1)=false:=zcD ac;have n2:2<=Z.next:=hnH
 obtain⟨o1,o2⟩:=hown.one;by_cases hlt:i<u.funcs.length
 .have hlt':(i:Int)<u.funcs.length:=by omega
  have hgx:u.funcs[i]?=some u.funcs[i]:=aO hlt;have hfl:=F _ (dj hlt);rw[d7 hlt,rP]at hJ;generalize u.funcs[i]=q at *;obtain⟨nm,pa,ns,va,st⟩:=q;simp only at hfl hJ;have hgc:(Gr.mk nm pa ns va st).cells=[.str nm,.int .i64 pa,zdy ns,.int .i64 va,.int .i64 st]:=rfl;have agg5':∀a b c d e:AV,zc6 5 [a,b,c,d,e]=some (.agg [a,b,c,d,e]):=fun _ _ _ _ _=>rfl;have kl:=kld ns hfl;have hbd:=fun H=>zax H ((List.replicate ns.length 0).map fun(m:Nat)=>[AV.int .u32 (m:Int)]);repeat' (first
   |(apply zcl ?_;clear hK K)|apply Ry.o ?_|apply b7 ?_|(apply bK ?_;first|refine Rx.k (kl _) ?_)|(apply aB (fun Y V=>?_) (fun Y V=>?_)<;>try(cases Y;done))|apply ak ?_|(apply zcm fun K hK=>?_)|apply ay ?_|apply zco ?_|fail)
  generalize U:Hp.alloc (Hp.set (Z.alloc _) _ _) _=Hb;have nb:Z.next+2<=Hb.next:=Bi
  have kb:∀r,r<Z.next->Hb.get r=Z.get r:=fun r hr=>by
   rw[<-U];simp only[aU,zcu,zcS,zcB,ah (show ¬r=Z.next by omega),ah (show ¬r=Z.next+1 by omega)]
  have gb:Hb.get Z.next=some (.cells [.str nm,.int .i64 pa,zdy ns,.int .i64 va,.int .i64 st] 0 true):=by
   rw[<-U];simp only[aU,zcu,zcS,zcB,ah (show ¬Z.next=Z.next+1 by omega),bT]
  have gr:Hb.get (Z.next+1)=some (.cells [.lst ((List.replicate ns.length 0).map fun(m:Nat)=>[AV.int .u32 (m:Int)])] 0 true):=by rw[<-U,zcu,ax db]
  clear U;have hownb:=hown.keep (H':=Hb) ac fun p hp _=>kb p hp;obtain⟨A,ap,L,n5,zep⟩:=j7.push (P:=Tryz.prog) (t:=73) Tryz.underlying73 Eo Ep Er rfl af hownb gr rfl mQ mQ;have kp:∀p,p<2->A.get p=Z.get p:=fun p hp=>by rw[zep p ac (hno p hp),kb p ac]
  have g50:=kp 0 ac;have g51:=kp 1 ac;have g5n:A.get Z.next=some (.cells [.str nm,.int .i64 pa,zdy ns,.int .i64 va,.int .i64 st] 0 true):=by rw[zep _ ac (hown.not (aM _))];exact gb
  have n5':Z.next+2<=A.next:=ac
  have hno5:∀q,q<2->∀o m z,AV.sl Hb.next 0 (vs.length+1) 1≠.sl q o m z:=fun q hq o m z e=>by
   simp only[AV.sl.injEq]at e;omega
  by_cases e1:nm=name
  .subst e1;by_cases e2:pa=(args.length:Int)
   .subst e2;rw[ax ⟨rfl,rfl⟩]at hJ;repeat' (first
     |(apply zcl ?_;clear hK K)|apply Ry.o ?_|(apply a8 (fun hg I=>?_) (fun hg I=>?_)<;>try(cases hg;done))|(apply aB (fun Y V=>?_) (fun Y V=>?_)<;>try(cases Y;done))|apply ak ?_|(apply zcm fun K hK=>?_)|fail)
    refine⟨ac,zcy,zcy,zcT,sK,?_⟩;exact⟨_,(i:Int),vs++[_],eE,eE,hJ,BX,L,hno5⟩
   .rw[ah (fun c=>e2 c.2)]at hJ;repeat' (first
     |(apply zcl ?_;clear hK K)|apply Ry.o ?_|(apply a8 (fun hg I=>?_) (fun hg I=>?_)<;>try(cases hg;done))|(apply aB (fun Y V=>?_) (fun Y V=>?_)<;>try(cases Y;done))|apply ak ?_|(apply zcm fun K hK=>?_)|apply zco ?_|fail)
    refine⟨ac,zcy,zcy,zcT,sK,?_⟩;exact⟨_,fi,vs++[_],eE,eE,hJ,BX,L,hno5⟩
  .rw[ah (fun c=>e1 c.1)]at hJ;repeat' (first
    |(apply zcl ?_;clear hK K)|apply Ry.o ?_|(apply a8 (fun hg I=>?_) (fun hg I=>?_)<;>try(cases hg;done))|(apply aB (fun Y V=>?_) (fun Y V=>?_)<;>try(cases Y;done))|apply ak ?_|(apply zcm fun K hK=>?_)|apply zco ?_|fail)
   refine⟨ac,zcy,zcy,zcT,sK,?_⟩;exact⟨_,fi,vs++[_],eE,eE,hJ,BX,L,hno5⟩
 .have hlt':¬(i:Int)<u.funcs.length:=by omega
  rw[oQ ac,rP,hfind]at hJ;subst hJ;have hff:f<u.funcs.length:=(dD.1 hgf).1;obtain⟨hq,rfl,hqlt,hqg⟩:∃q,hv=.sl q 0 vs.length 1/\q<Z.next/\Z.get q=some (.cells vs 0 true):=by
   rcases hown with⟨rfl,_⟩|h
   .simp at hvs;omega
   .exact h
  have hfneg:¬(f:Int)<0:=ac;have bst:=bSt W;repeat' (first
   |(apply zcl ?_;clear hK K)|apply Ry.o ?_|(apply aB (fun Y V=>?_) (fun Y V=>?_)<;>try(cases Y;done))|apply ak ?_|(apply zcm fun K hK=>?_)|apply ay ?_|apply zco ?_|apply zcA ?_)
  refine zdl [2,4,8,9,10,13,64,65] [0,1] 66 u.arrays.length (fun j E H=>∃cv J,H.get Z.next=some (.cells [cv,.nilP,.int .i64 W,.int .i64 0,.int .i64 0,.int .i64 0] 0 true)/\j7 H cv J/\zcW (mT (fun q=>Z.next<q/\∀o m z,cv≠.sl q o m z) H) J ((u.arrays.take j).map fun a=>List.replicate a.len.toNat 0)/\(∀q,q<=Z.next->∀o m z,cv≠.sl q o m z)/\Z.next<H.next) eE ⟨.nilS,[],ij,.inl ⟨rfl,rfl⟩,trivial,(fun _ _ _ _ _ e=>by cases e),cL _⟩ ?_;rintro j E3 C hj hcE hrH hnH hsI ⟨cv,J,g3,own3,al3,no3,n3⟩;(try simp only[zcO,zcI,aY,zcz,zcL,Nat.reduceBEq, *]at hcE);(try simp only[zcO,zcI,aY,zcz,zcL, *]at hrH);(try simp only[zcB,]at hnH);have hB0:(0 == C.next)=false:=zcD ac;have hC0:(C.next == 0)=false:=zcD ac;have hB1:(1 == C.next)=false:=zcD ac;have hC1:(C.next == 1)=false:=zcD ac;obtain⟨p1,p2⟩:=own3.one;have hv2:J.length=j:=by
   have:=zcW.len al3;rw[cR,iN]at this;omega
  by_cases hjt:j<u.arrays.length
  .have hjt':(j:Int)<u.arrays.length:=by omega
   have hgy:u.arrays[j]?=some u.arrays[j]:=aO hjt;obtain⟨a0,a1⟩:=harr _ (dj hjt);have htk:u.arrays.take (j+1)=u.arrays.take j++[u.arrays[j]]:=by rw[mw,hgy];rfl
   generalize u.arrays[j]=y at *;obtain⟨anm,al⟩:=y;simp only at a0 a1;obtain⟨k,rfl⟩:∃k:Nat,al=k:=⟨al.toNat,ac⟩;have hac:(Ar.mk anm (k:Int)).cells=[.str anm,.int .i64 (k:Int)]:=rfl;have hmk:=fun H:Hp=>GU (H:=H) k ac;have hbc:=fun H q=>zay H q k;have y1:(Z.next == C.next)=false:=zcD ac;have y2:(Z.next == C.next+1)=false:=zcD ac;have y3:(Z.next == C.next+2)=false:=zcD ac;have y4:(C.next == C.next+1)=false:=zcD ac;have y5:(C.next == C.next+2)=false:=zcD ac;repeat' (first
    |(apply zcl ?_;clear hK K)|apply Ry.o ?_|apply b7 ?_|(apply aB (fun Y V=>?_) (fun Y V=>?_)<;>try(cases Y;done))|apply ak ?_|(apply zcm fun K hK=>?_)|(apply zc4 18 [(4,9),(6,9),(7,9),(8,9)] fun K hK=>?_)|(apply zcV ?_;try intro _)|apply bD ?_|apply ay ?_|apply zco ?_|fail)
   generalize U:Hp.alloc (Hp.alloc (Hp.set (C.alloc _) _ _) _) _=Hb;have nb:C.next+3<=Hb.next:=Bi
   have kb:∀r,r<C.next->Hb.get r=C.get r:=fun r hr=>by
    rw[<-U];simp only[aU,zcu,zcS,zcB,ah (show ¬r=C.next by omega),ah (show ¬r=C.next+1 by omega),ah (show ¬r=C.next+1+1 by omega)]
   have gy:Hb.get C.next=some (.cells [.str anm,.int .i64 (k:Int)] 0 true):=by
    rw[<-U];simp only[aU,zcu,zcS,zcB,ah (show ¬C.next=C.next+1 by omega),ah (show ¬C.next=C.next+1+1 by omega),bT]
   have gi:Hb.get (C.next+1)=some (.cells (zdt (List.replicate k 0)) 0 true):=by
    rw[<-U];simp only[aU,zcu,zcS,zcB,ah (show ¬C.next+1=C.next+1+1 by omega),bT]
   have gr:Hb.get (C.next+2)=some (.cells [.sl (C.next+1) 0 k 1] 0 true):=by rw[<-U,zcu,ax db]
   clear U;have g3b:=(kb Z.next n3).trans g3;obtain⟨A,ap,L,n5,zep⟩:=j7.push (P:=Tryz.prog) (t:=58) Tryz.underlying58 ud Al Am rfl af (own3.keep (H':=Hb) ac fun p hp _=>kb p hp) gr rfl mQ mQ;have g35:A.get Z.next=some (.cells [cv,.nilP,.int .i64 W,.int .i64 0,.int .i64 0,.int .i64 0] 0 true):=by rw[zep _ ac (no3 _ (aM _))];exact g3b
   have nof:∀p,C.next<=p->∀o m z,cv≠.sl p o m z:=fun p hp=>own3.not hp
   have gy5:A.get C.next=some (.cells [.str anm,.int .i64 (k:Int)] 0 true):=by rw[zep _ ac (nof _ (aM _))];exact gy
   have gi5:A.get (C.next+1)=some (.cells (zdt (List.replicate k 0)) 0 true):=by rw[zep _ ac (nof _ ac)];exact gi
   have gr5:A.get (C.next+2)=some (.cells [.sl (C.next+1) 0 k 1] 0 true):=by rw[zep _ ac (nof _ ac)];exact gr
   have n5':C.next+3<=A.next:=ac
   have n5b:Hb.next<=A.next:=ac
   repeat' (first
    |(apply zcl ?_;clear hK K)|apply Rx.o ?_|apply b8 ?_|(apply zcm fun K hK=>?_)|(apply zcV ?_;try intro _)|(apply zc5 ?_ ?_<;>clear hK K)|apply bD ?_|apply zeS rfl ?_|fail)
   .exact eK
   generalize hH6:Hp.set A _ _=H6;have n6:A.next<=H6.next:=by rw[<-hH6];exact aM _
   have ze9:∀r,r≠Z.next->H6.get r=A.get r:=fun r hr=>by rw[<-hH6,aU,ah hr]
   have g6:H6.get Z.next=some (.cells [.sl Hb.next 0 (J.length+1) 1,.nilP,.int .i64 W,.int .i64 0,.int .i64 0,.int .i64 0] 0 true):=by rw[<-hH6,aU,ax rfl,hv2]
   clear hH6;have kk:∀r,r<C.next->r≠Z.next->(∀o m z,cv≠.sl r o m z)->H6.get r=C.get r:=fun r h1 h2 h3=>by rw[ze9 r h2,zep r ac h3,kb r h1]
   have g60:=kk 0 ac ac (no3 0 ac);have g61:=kk 1 ac ac (no3 1 ac);refine⟨ac,zcy,zcy,zcT,IL,?_⟩;refine⟨_,J++[.sl (C.next+1) 0 k 1],g6,L.keep n6 (fun p _ hp=>ze9 p fun e=>?_),?_,fun q hq o m z e=>?_,ac⟩
   .obtain⟨o,m,z,e2⟩:=hp;simp only[AV.sl.injEq]at e2;omega
   .rw[htk,pL];refine zcW.append (al3.mono fun a b hab=>?_) ⟨⟨C.next+1,0,aD,⟨ac,fun o m z e=>by simp only[AV.sl.injEq]at e;omega⟩,ac,?_,co⟩,trivial⟩
    .obtain⟨q,im,e,⟨h1,h2⟩,h3,h4,h5⟩:=hab;exact⟨q,im,e,⟨h1,fun o m z e=>by simp only[AV.sl.injEq]at e;omega⟩,ac,by rw[kk q h3 ac h2];exact h4,h5⟩
    .rw[ze9 _ ac];simpa using gi5
   .simp only[AV.sl.injEq]at e;omega
  .have hjt':¬(j:Int)<u.arrays.length:=by omega
   rw[ev ac]at al3;have hst:fK (fun _=>True) C (.ptr Z.next 0) (D5 u.arrays W):=by
    refine⟨Z.next,cv,.nilP,rfl,trivial,n3,g3,?_,rfl⟩;rcases own3 with⟨rfl,rfl⟩|⟨q,rfl,h2,h3⟩
    .have e:u.arrays=[]:=by
      have:=zcW.len al3;exact A1 (by rw[cR]at this;exact this.symm)
     exact .inl ⟨by show u.arrays.map _=[];rw[e];rfl,rfl⟩
    .exact .inr ⟨q,0,J,rfl,trivial,h2,h3,ac,al3.mono fun a b hab=>hab.sub fun _ _ _=>trivial⟩
   have hfl:=F g (jL hgf);have hent2:=Ym xW hgf (by have:=hfl.ok.1;omega) (a:=hq) (b:=0) (cc:=i) (d:=1) (args:=args) hst;rw[eu]at hent2;unfold jO at hent2;have hgc:g.cells=[.str g.name,.int .i64 g.params,.lst (g.nodes.map Nd.cells),.int .i64 g.value,.int .i64 g.state]:=rfl;repeat' (first
    |(apply zcl ?_;clear hK K)|apply Ry.o ?_|(apply aB (fun Y V=>?_) (fun Y V=>?_)<;>try(cases Y;done))|apply ak ?_|(apply zcm fun K hK=>?_)|apply zcA ?_)
   refine bg rfl bh bj ?_;simp only[br];refine a7 ?_ hent2;rintro v H4 ⟨xp,rp,rfl,hxp,hrp,hok,hF4,E4⟩;dsimp only[zcF];have g03:C.get 0=some (.cells [.lst (u.arrays.map Ar.cells),.lst (u.funcs.map Gr.cells)] 0 true):=by first|assumption|simp only[*]
   have g13:C.get 1=some (.cells [.int .i64 0,.int .i64 0,.nilS,.int .i64 0] 0 true):=by first|assumption|simp only[*]
   have n34:=E4.next
   have g04:=(E4.get 0 trivial ac).trans g03;have g14:=(E4.get 1 trivial ac).trans g13;have hkk:∀nd∈g.nodes,nd.kids.length<2^30:=hfl.ok.2;obtain⟨res,q1,q2⟩:=ch.1 hent;obtain⟨r,q3,q4⟩:=ch.1 q2;obtain⟨s,q5,q6⟩:=ch.1 q4;clear q2 q4 hent;repeat' (first
    |(apply zcl ?_;clear hK K)|apply Ry.o ?_|apply ak ?_|(apply zcm fun K hK=>?_)|fail)
   refine bg rfl bh bj ?_;simp only[br];refine a7 ?_ (Yo xW hok hkk hF4 q1 q3);rintro v A ⟨ho5,rows5,hF5,n45,fr5⟩;dsimp only[zcF];rw[q5]at ho5;obtain⟨p,cv5,ov5,rfl,hp5⟩:=(ho5:fK _ A v s);have gp5:=hp5.get;have g05:=(fr5 0 ac (by show 0≠rp;omega)).trans g04;have g15:=(fr5 1 ac (by show 1≠rp;omega)).trans g14;have hout5:s.out.length<2^30:=by
    have e:o.out=s.out.reverse:=by
     split at q6
     .obtain⟨res2,_,q8⟩:=ch.1 q6;obtain⟨t,_,q9⟩:=ch.1 q8;rw[az]at q9;rw[<-q9,Jc]
     .rw[az]at q6;rw[<-q6,Jc]
    rw[e,qk]at hout;exact hout
   have EA:Ext9 (fun _=>True) A (A.alloc (.cells [.int .i64 0,.int .i64 0,.nilS,.int .i64 0] 0 true)):=⟨f7 _,fun r _ hr=>fF⟩;have kvl:=Yl xW (hp5.out.keep (EA.sub fun _ _ _=>trivial)) hout5;have y6:(p == A.next)=false:=zcD (by have:=hp5.lt;omega);repeat' (first
    |(apply zcl ?_;clear hK K)|apply Ry.o ?_|apply ak ?_|(apply Rx.dP 22 [0,1,2,3,4,5,6,7,10,8,9,11] [(3,9),(3,11),(7,9),(8,9),(8,11)] fun K hK=>?_)|(apply zcV ?_;try intro _)|apply bD ?_|fail)
   refine bg rfl bh bj ?_;simp only[eM];refine a7 ?_ kvl;rintro v H6 ⟨rfl,n56,g6,fr6⟩;rw[zcB]at n56 g6 fr6;dsimp only[zcF];have plt:=hp5.lt;have gp6:=(fr6 p ac).trans ((EA.get p trivial plt).trans gp5);have g06:=(fr6 0 ac).trans ((EA.get 0 trivial ac).trans g05);have g16:=(fr6 1 ac).trans ((EA.get 1 trivial ac).trans g15);have gt6:H6.get A.next=some (.cells [.int .i64 0,.int .i64 0,.nilS,.int .i64 0] 0 true):=(fr6 _ ac).trans ij
   have boc:=B3 s.ed (A.next+1) s.out.length;have agg4':∀a b c d:AV,zc6 4 [a,b,c,d]=some (.agg [a,b,c,d]):=fun _ _ _ _=>rfl;have y01:(0 == A.next)=false:=zcD ac;have y11:(1 == A.next)=false:=zcD ac;have y7:(A.next == 1)=false:=zcD ac;have hg6:H6.get (A.next+1)=some (.cells (zdt s.out.reverse) 0 true):=g6;by_cases e0:s.ed=0
   .rw[ax e0]at q6;obtain⟨res2,q7,q8⟩:=ch.1 q6;obtain⟨t,q9,q10⟩:=ch.1 q8;rw[az]at q10;have he:lV s t.v=⟨1,0,s.out.reverse,t.v⟩:=by unfold lV;rw[ah ac,ax e0]
    rw[he]at q10;have boc0:=B3 0 (A.next+1) s.out.length;clear q6 q8 he;repeat' (first
     |(apply zcl ?_;clear hK K)|apply Ry.o ?_|apply b7 ?_|(apply aB (fun Y V=>?_) (fun Y V=>?_)<;>try(cases Y;done))|apply ak ?_|(apply zcm fun K hK=>?_)|(apply zcV ?_;try intro _)|(apply zc5 ?_ ?_<;>clear hK K)|apply bD ?_|apply zeS rfl ?_|apply ay ?_|fail)
    .exact eK
    generalize hH7:Hp.set H6 _ _=H7;have n7:H6.next<=H7.next:=by rw[<-hH7];exact aM _
    have g7:H7.get A.next=some (.cells [.int .i64 0,.int .i64 0,.sl (A.next+1) 0 s.out.length 1,.int .i64 0] 0 true):=by rw[<-hH7,aU,ax rfl]
    have zfl:∀r,r≠A.next->H7.get r=H6.get r:=fun r hr=>by rw[<-hH7,aU,ah hr]
    clear hH7;have hF7:=hF5.keep (H':=H7) ac fun q hq=>by rw[zfl q ac,fr6 q ac];exact EA.get q trivial hq
    have lr4:rp<H4.next:=hF4.lr
    refine bg rfl bh bj ?_;simp only[br];refine a7 ?_ (Yn xW hok hkk hF7 q7 q9);rintro v H8 ⟨rfl,rows8,hF8,n78,fr8⟩;dsimp only[zcF];have g8:=(fr8 A.next ac (by show A.next≠rp;omega)).trans g7;have g18:=(fr8 1 ac (by show 1≠rp;omega)).trans ((zfl 1 ac).trans g16);have hg8:=(fr8 (A.next+1) ac (by show A.next+1≠rp;omega)).trans ((zfl _ ac).trans hg6);repeat' (first
     |(apply zcl ?_;clear hK K)|apply Rx.o ?_|apply b8 ?_|apply ak ?_|(apply zcm fun K hK=>?_)|apply am ?_|fail)
    refine⟨eI,_,(by(try simp only[zcz,zcL,Nat.reduceBEq,tyF,zd2,zee, *]);first|done|with_reducible rfl),?_⟩;try simp only[zcn]
    rw[<-q10];generalize O:Hp.set _ 1 _=Hf;have nf:A.next+2<=Hf.next:=BY
    have gf:Hf.get (A.next+1)=some (.cells (zdt s.out.reverse) 0 true):=by
     rw[<-O];simp only[aU,ah (show ¬A.next+1=1 by omega),ah (show ¬A.next+1=A.next by omega)];exact hg8
    clear O;have:=B4 1 0 t.v s.out.reverse ac gf;rw[qk]at this;exact this
   .rw[ah e0,az]at q6;by_cases e2:s.ed=2
    .have he:lV s 0=⟨2,s.code,s.out.reverse,0⟩:=by unfold lV;rw[ax e2]
     rw[he]at q6;have boc2:=B3 2 (A.next+1) s.out.length;clear he;repeat' (first
      |(apply zcl ?_;clear hK K)|apply Ry.o ?_|apply b7 ?_|(apply aB (fun Y V=>?_) (fun Y V=>?_)<;>try(cases Y;done))|apply ak ?_|(apply zcm fun K hK=>?_)|(apply zcV ?_;try intro _)|(apply zc5 ?_ ?_<;>clear hK K)|apply bD ?_|apply zeS rfl ?_|apply ay ?_|apply am ?_|fail)
     .exact eK
     refine⟨eI,_,(by(try simp only[zcz,zcL,Nat.reduceBEq,tyF,zd2,zee, *]);first|done|with_reducible rfl),?_⟩;try simp only[zcn]
     rw[<-q6];generalize O:Hp.set _ 1 _=Hf;have nf:A.next+2<=Hf.next:=BY
     have gf:Hf.get (A.next+1)=some (.cells (zdt s.out.reverse) 0 true):=by
      rw[<-O];simp only[aU,ah (show ¬A.next+1=1 by omega),ah (show ¬A.next+1=A.next by omega)];exact hg6
     clear O;have:=B4 2 s.code 0 s.out.reverse ac gf;rw[qk]at this;exact this
    .have he:lV s 0=⟨s.ed,0,s.out.reverse,0⟩:=by unfold lV;rw[ah e2,ah e0]
     rw[he]at q6;clear he;repeat' (first
      |(apply zcl ?_;clear hK K)|apply Ry.o ?_|apply b7 ?_|(apply aB (fun Y V=>?_) (fun Y V=>?_)<;>try(cases Y;done))|apply ak ?_|(apply zcm fun K hK=>?_)|(apply zcV ?_;try intro _)|(apply zc5 ?_ ?_<;>clear hK K)|apply bD ?_|apply zeS rfl ?_|apply ay ?_|apply zco ?_|apply am ?_|fail)
     .exact eK
     refine⟨eI,_,(by(try simp only[zcz,zcL,Nat.reduceBEq,tyF,zd2,zee, *]);first|done|with_reducible rfl),?_⟩;try simp only[zcn]
     rw[<-q6];generalize O:Hp.set _ 1 _=Hf;have nf:A.next+2<=Hf.next:=BY
     have gf:Hf.get (A.next+1)=some (.cells (zdt s.out.reverse) 0 true):=by
      rw[<-O];simp only[aU,ah (show ¬A.next+1=1 by omega),ah (show ¬A.next+1=A.next by omega)];exact hg6
     clear O;have:=B4 s.ed 0 0 s.out.reverse ac gf;rw[qk]at this;exact this)
end
section
structure Bd where
 l:List Nd
 vars:List Int
 state:Int
 loops:Nat
structure Cx where
 arrays:List Ar
 funcs:List Fu
 names:List zdb
def iK(l:List Nd)(n:Nd):Nat:=l.findIdx fun x=>decide (x=n)
def og(l:List Nd)(n:Nd):List Nd:=if iK l n<l.length then l else l++[n]
def zdN(n:Nd)(s:Bd):Int×Bd:=(iK s.l n,{s with l:=og s.l n})
def j8:List zdb->zdb->Nat
 |[],_=>0
 |a::l,s=>if a=s then 0 else if zcP l s=true then j8 l s+1 else 0
def zeo(c a b:Int)(s:Bd):Int×Bd:=if a=b then (a,s)else zdN ⟨22,0,[c,a,b]⟩ s
def u5(A v:Int)(s:Bd):Bd:=let r:=zdN ⟨27,A,[s.state,v]⟩ s;{r.2 with state:=r.1}
def sN(len i:Int)(s:Bd):Bd:=
 let zct:=zdN ⟨1,len,[]⟩ s
 let r2:=zdN ⟨19,0,[i,zct.1]⟩ zct.2
 u5 2 r2.1 r2.2
def sO(v:Int)(s:Bd):Bd:=
 let z:=zdN ⟨1,0,[]⟩ s
 let c:=zdN ⟨16,0,[v,z.1]⟩ z.2
 u5 1 c.1 c.2
def kL(c:Cx):Nat->Ex->Bd->Option (Int×Bd)
 |0,_,_=>none
 |n+1,x,s=>
  if x.kind=1 then some (zdN ⟨1,x.n,[]⟩ s)
  else if x.kind=2 then (s.vars[j8 c.names x.name]?).map fun v=>(v,s)
  else if x.kind=3 then
   (x.kids[0]?).bind fun k=>(kL c n k s).bind fun r=>(c.arrays[j8 (c.arrays.map (·.name)) x.name]?).bind fun a=>
     let J:=sN a.len r.1 r.2
     some (zdN ⟨23,j8 (c.arrays.map (·.name)) x.name,[J.state,r.1]⟩ J)
  else if x.kind=5 then
   (x.kids[0]?).bind fun zdz=>(kL c n zdz s).bind fun zcN=>
   (x.kids[1]?).bind fun zdc=>(kL c n zdc zcN.2).bind fun zct=>
   (x.kids[2]?).bind fun zc8=>(kL c n zc8 {zct.2 with state:=zcN.2.state}).bind fun r2=>
     let v:=zeo zcN.1 zct.1 r2.1 r2.2
     let t:=zeo zcN.1 zct.2.state v.2.state v.2
     some (v.1,{t.2 with state:=t.1})
  else
   (x.kids[0]?).bind fun zdz=>(kL c n zdz s).bind fun zcN=>
     if x.kids.length=1 then some (zdN ⟨x.op,0,[zcN.1]⟩ zcN.2)
     else (x.kids[1]?).bind fun zdc=>(kL c n zdc zcN.2).bind fun zct=>
      some (zdN ⟨x.op,0,[zcN.1,zct.1]⟩ (if x.op=7\/x.op=8 then sO zct.1 zct.2 else zct.2))
section
variable (c:Cx)
end
structure NdR (n:Nd):Prop where
 op:0<=n.op/\n.op<256
 imm:-9223372036854775808<=n.imm/\n.imm<9223372036854775808
 kids:∀k∈n.kids,0<=k/\k<2^60
 len:n.kids.length<2^30
theorem Jd(n:Int):iY n 0=n%256:=by
 rw[iY,uW];simp[Int.fdiv_one]
theorem Je(n:Int)(i:Nat):iY n (i+1)=iY (n/256) i:=by
 rw[iY,iY];have e:(2:Int)^ (8*(i+1))=256*2^ (8*i):=by
  rw[Nat.mul_add,Int.pow_add];omega
 have p:(0:Int)<=2^ (8*i):=Int.le_of_lt (Int.pow_pos dr);rw[e,IM _ ac,IM _ p,Int.ediv_ediv_of_nonneg dr]
theorem zpK(n:Int)(i:Nat):0<=iY n i/\iY n i<256:=by
 rw[iY,uW];omega
theorem Jf:∀(k:Nat) (n m:Int),0<=n->n<256^ k->0<=m->m<256^ k->(∀i,i<k->iY n i=iY m i)->n=m
 |0,n,m,h1,h2,h3,h4,_=>by simp at h2 h4;omega
 |k+1,n,m,h1,h2,h3,h4,h=>by
  have e:(256:Int)^ (k+1)=256*256^ k:=by rw[Int.pow_succ];omega
  rw[e]at h2 h4;have o:=h 0 ac;rw[Jd,Jd]at o;have ih:=Jf k (n/256) (m/256) ac (by generalize (256:Int)^ k=P at *;omega) ac (by generalize (256:Int)^ k=P at *;omega) (fun i C=>by rw[<-Je,<-Je];exact h (i+1) ac);omega
theorem Jg:∀{l m:List Int},(∀x∈l,0<=x/\x<256)->(∀x∈m,0<=x/\x<256)->nZ l=nZ m->l=m
 |[],[],_,_,_=>rfl
 |[],_::_,_,_,h=>by simp[nZ]at h
 |_::_,[],_,_,h=>by simp[nZ]at h
 |a::l,b::m,hl,hm,h=>by
  simp only[nZ,dJ,cM]at h;have i:=hl a eW;have g:=hm b eW;have e:a=b:=by
   have:=ku UInt8.toNat h.1;rw[UInt8.toNat_ofNat',UInt8.toNat_ofNat']at this;omega
  rw[e,Jg (fun x F=>hl x (e8 _ F)) (fun x F=>hm x (e8 _ F)) h.2]
theorem Jh(n:Int)(k:Nat):∀x∈zd8 n k,0<=x/\x<256:=fun x F=>by
 obtain⟨i,_,rfl⟩:=mB.1 F;exact zpK n i
theorem Ji(n:Nd):∀x∈o0 n,0<=x/\x<256:=fun x F=>by
 rw[o0,fk,tK,zi]at F;rcases F with rfl|F|⟨k,_,F⟩
 .rw[uW];omega
 .exact Jh _ _ x F
 .exact Jh _ _ x F
theorem Jj{n m:Int}(h1:0<=n)(h2:n<18446744073709551616)(o:0<=m)(U:m<18446744073709551616)(h:zd8 n 8=zd8 m 8):n=m:=
 Jf 8 n m h1 ac o ac fun i C=>List.map_inj_left.1 h i (jb.2 C)
theorem pf(n:Int):0<=IntKind.wrap .u64 n/\IntKind.wrap .u64 n<18446744073709551616:=by rw[uX];omega
theorem Jk:∀{V ms:List Int},(∀k∈V,0<=k/\k<2^60)->(∀k∈ms,0<=k/\k<2^60)->(V.flatMap fun k=>zd8 (IntKind.wrap .u64 k) 8)=(ms.flatMap fun k=>zd8 (IntKind.wrap .u64 k) 8)->V=ms
 |[],[],_,_,_=>rfl
 |[],m::ms,_,_,h=>by
  have:=ku List.length h;rw[oI,fj,zfc]at this;simp at this;omega
 |k::V,[],_,_,h=>by
  have:=ku List.length h;rw[oI,fj,zfc]at this;simp at this
 |k::V,m::ms,hk,hm,h=>by
  rw[oI,oI]at h;obtain⟨i,g⟩:=List.append_inj h (by rw[zfc,zfc]);have e:=Jj (pf k).1 (pf k).2 (pf m).1 (pf m).2 i;have a1:=hk k eW;have a2:=hm m eW;rw[uX,uX]at e;have A:k=m:=ac;rw[A,Jk (fun x F=>hk x (e8 _ F)) (fun x F=>hm x (e8 _ F)) g]
theorem Jl{a b:Nd}(F:NdR a)(z:NdR b)(h:zdu a=zdu b):a=b:=by
 have h:=Jg (Ji a) (Ji b) h;rw[o0,o0,cM]at h;obtain⟨i,g⟩:=h;obtain⟨o,U⟩:=List.append_inj g (by rw[zfc,zfc]);have Y:=Jj (pf _).1 (pf _).2 (pf _).1 (pf _).2 o;have W:=Jk F.kids z.kids U;have O:=F.op;have M:=z.op;have A:=F.imm;have L:=z.imm;rw[uW,uW]at i;rw[uX,uX]at Y;obtain⟨C,Z,I⟩:=a;obtain⟨J,K,V⟩:=b;simp only at *;rw[show C=J by omega,show Z=K by omega,W]
theorem zpL(x:Nd)(l:List Nd)(n:Nd):iK (x::l) n=if x=n then 0 else iK l n+1:=by
 unfold iK;rw[List.findIdx_cons];by_cases h:x=n<;>simp[h]
theorem zxQ(l:List Nd)(n:Nd):iK l n<=l.length:=by unfold iK;exact List.findIdx_le_length
theorem zaD{l:List Nd}{n:Nd}:iK l n<l.length↔n∈l:=by
 unfold iK;rw[List.findIdx_lt_length];simp
theorem B5(l:List Nd)(n:Nd):l<+:og l n:=by
 unfold og;split
 .exact uY l
 .exact List.prefix_append l [n]
theorem Jm{l:List Nd}{n x:Nd}:x∈og l n↔x∈l\/x=n:=by
 unfold og;split
 .rename_i h;have:=zaD.1 h;constructor
  .exact .inl
  .rintro(h|rfl)
   .exact h
   .exact this
 .simp
def atV(l:List Nd)(i:Nat):List (zdb×Int):=(l.zipIdx i).map fun p=>(zdu p.1,(p.2:Int))
theorem ztn(x:Nd)(l:List Nd)(i:Nat):atV (x::l) i=(zdu x,(i:Int))::atV l (i+1):=by rw[atV,yN];rfl
theorem Jn{n:Nd}(m:NdR n):∀(l:List Nd) (i:Nat),(∀x∈l,NdR x)->fl (atV l i) (zdu n)=decide (iK l n<l.length)/\(iK l n<l.length->eg (atV l i) (zdu n)=((i+iK l n:Nat):Int))/\(¬iK l n<l.length->∀x,setV (atV l i) (zdu n) x=atV l i++[(zdu n,x)])
 |[],i,_=>⟨rfl,fun h=>by simp[iK]at h,fun _ x=>rfl⟩
 |x::l,i,hl=>by
  obtain⟨Z,g,o⟩:=Jn m l (i+1) fun y K=>hl y (e8 _ K)
  rw[zpL,ztn,dg];by_cases e:x=n
  .subst e;refine⟨by simp[fl],fun _=>by simp[eg],fun h=>iR⟩
  .have L:¬zdu n=zdu x:=fun h=>e (Jl m (hl x eW) h).symm;rw[ah e];refine⟨?_,fun h=>?_,fun h y=>?_⟩
   .simp only[fl,L];rw[Z];simp
   .have:=g ac;simp only[eg,L,ck];rw[this];congr 1;omega
   .have:=o ac y;simp only[setV,L,ck,this,nT]
theorem zto(l:List Nd)(n:Nd):atV l 0++[(zdu n,(l.length:Int))]=atV (l++[n]) 0:=by
 simp[atV,List.zipIdx_append]
theorem zaG{M:Type}{s:List M}(h:s.length=3):∃a b c,s=[a,b,c]:=by
 match s,h with
 |[a,b,c],_=>exact⟨a,b,c,rfl⟩
theorem zaH(H:Hp){cs:List AV}(I:cs.length=3)(J:cs.all AV.one=true):zdS Tryz.prog H 26 1 [(0,.agg cs)]=some (.sl H.next 0 1 3,H.alloc (.cells cs 0 true)):=by
 obtain⟨a,b,c,rfl⟩:=zaG I;kernel_rfl
structure Lx where
 p:Pr
 b:Nat
 ra:Nat
 rf:Nat
 rt:Nat
 rn:Nat
 ae:List (zdb×Int)
 fe:List (zdb×Int)
 ne:List (zdb×Int)
def zek(X:Lx)(s:Bd)(O K:AV):List AV:=[.lst (X.p.arrays.map Ar.cells),.lst (X.p.funcs.map Fu.cells),.map X.ra,.map X.rf,O,.map X.rt,.map X.rn,K,.int .i64 s.state,.int .i64 s.loops]
structure RepL (X:Lx) (H:Hp) (S:Nat->Prop) (s:Bd) (lv vv:AV):Prop where
 m:H.get X.b=some (.cells (zek X s lv vv) 0 true)
 a:H.get X.ra=some (.map (cP X.ae))
 f:H.get X.rf=some (.map (cP X.fe))
 t:H.get X.rt=some (.map (cP (atV s.l 0)))
 n:H.get X.rn=some (.map (cP X.ne))
 nodes:iZ S 2 H 3 lv (s.l.map Nd.cells)
 vars:mW H vv s.vars 0
 o1:X.ra<X.rf
 o2:X.rf<X.rt
 o3:X.rt<X.rn
 o4:X.rn<X.b
 o5:X.b<H.next
 sS:∀k,S k->X.b<k/\k<H.next/\¬zdF vv k
 vS:∀k,zdF vv k->X.b<k/\k<H.next
structure Sm (n:Nat) (H H':Hp):Prop where
 get:∀k,k<n->H'.get k=H.get k
structure FrL (X:Lx) (S:Nat->Prop) (vv:AV) (H:Hp) (S':Nat->Prop) (vv':AV) (H':Hp):Prop where
 next:H.next<=H'.next
 get:∀k,k<H.next->k≠X.b->k≠X.rt->¬S k->¬zdF vv k->H'.get k=H.get k
 sub:∀k,S' k->S k\/H.next<=k
 own:∀k,zdF vv' k->zdF vv k\/H.next<=k
theorem FrL.refl(X:Lx)(S:Nat->Prop)(K:AV)(H:Hp):FrL X S K H S K H:=⟨aM _,fun _ _ _ _ _ _=>rfl,fun _ h=>.inl h,fun _ h=>.inl h⟩
def ff:=@FrL.refl
theorem FrL.trans{X:Lx}{S S' M:Nat->Prop}{v A g:AV}{H H' O:Hp}(h:FrL X S v H S' A H')(k:FrL X S' A H' M g O):FrL X S v H M g O where
 next:=eG h.next k.next
 get r h1 h2 h3 h4 h5:=by
  rw[k.get r (fZ h1 h.next) h2 h3 (fun e=>?_) (fun e=>?_)]
  .exact h.get r h1 h2 h3 h4 h5
  .rcases h.sub r e with e|e
   .exact h4 e
   .omega
  .rcases h.own r e with e|e
   .exact h5 e
   .omega
 sub r e:=by
  rcases k.sub r e with e|e
  .exact h.sub r e
  .exact .inr (eG h.next e)
 own r e:=by
  rcases k.own r e with e|e
  .exact h.own r e
  .exact .inr (eG h.next e)
section
variable {X:Lx} {H H':Hp} {S:Nat -> Prop} {s:Bd} {lv vv:AV}
theorem RepL.keep(h:RepL X H S s lv vv)(m:H.next<=H'.next)(A:∀k,k<H.next->(k<=X.b\/S k\/zdF vv k)->H'.get k=H.get k):RepL X H' S s lv vv:=by
 have J:=h.o1;have Y:=h.o2;have W:=h.o3;have F:=h.o4;have L:=h.o5;refine⟨by rw[A _ L (.inl (aM _))];exact h.m,by rw[A _ ac (.inl ac)];exact h.a,by rw[A _ ac (.inl ac)];exact h.f,by rw[A _ ac (.inl ac)];exact h.t,by rw[A _ ac (.inl ac)];exact h.n,h.nodes.keep (fun _ _ h=>h) m fun k j Z=>A k Z (.inr (.inl j)),h.vars.keep m fun k j=>A k (h.vS k j).2 (.inr (.inr j)),J,Y,W,F,ac,fun k j=>?_,fun k j=>?_⟩
 .have:=h.sS k j;exact⟨this.1,ac,this.2.2⟩
 .have:=h.vS k j;omega
theorem RepL.alloc(h:RepL X H S s lv vv)(b:HB):RepL X (H.alloc b) S s lv vv:=h.keep (f7 _) fun k j _=>fF
theorem FrL.alloc{U:Nat->Prop}{F:AV}{zc2:Hp}(h:FrL X U F zc2 S vv H)(b:HB):FrL X U F zc2 S vv (H.alloc b):=h.trans ⟨f7 _,fun k j _ _ _ _=>fF,fun _ h=>.inl h,fun _ h=>.inl h⟩
theorem RepL.setS(h:RepL X H S s lv vv)(x:Int):RepL X (H.set X.b (.cells (zek X {s with state:=x} lv vv) 0 true)) S {s with state:=x} lv vv/\FrL X S vv H S vv (H.set X.b (.cells (zek X {s with state:=x} lv vv) 0 true)):=by
 have J:=h.o1;have Z:=h.o2;have Y:=h.o3;have F:=h.o4;have L:=h.o5;have A:∀k,k≠X.b->(H.set X.b (.cells (zek X {s with state:=x} lv vv) 0 true)).get k=H.get k:=fun k j=>BZ;refine⟨⟨hB,by rw[A _ ac];exact h.a,by rw[A _ ac];exact h.f,by rw[A _ ac];exact h.t,by rw[A _ ac];exact h.n,h.nodes.keep (fun _ _ h=>h) (aM _) fun k j W=>A k (by have:=h.sS k j;omega),h.vars.keep (aM _) fun k j=>A k (by have:=h.vS k j;omega),J,Z,Y,F,L,h.sS,h.vS⟩,⟨aM _,fun k _ g _ _ _=>A k g,fun _ h=>.inl h,fun _ h=>.inl h⟩⟩
theorem RepL.setV(h:RepL X H S s lv vv){i:Nat}(C:i<s.vars.length)(x:Int):∃r,zcU Tryz.prog 23 vv (.int .i64 (i:Int))=some (.ptr r i)/\zdZ Tryz.prog H 3 (.ptr r i)=some (.int .i64 (s.vars.getD i 0)) /\
 ∃H',zet Tryz.prog H 3 (.ptr r i) (.int .i64 x)=some H'/\X.b<r/\r<H.next/\zdF vv r/\RepL X H' S {s with vars:=s.vars.set i x} lv vv/\FrL X S vv H S vv H'/\(∀k,k≠r->H'.get k=H.get k)/\H'.next=H.next:=by
 rcases h.vars with⟨_,g⟩|⟨r,L,A,Z,hr⟩
 .rw[g]at C;simp at C
 .have V:zdF vv r:=⟨_,L⟩;have O:=(h.vS r V).1;refine⟨r,?_,?_,H.set r (.cells ((s.vars.set i x).map (.int .i64)) 0 true),?_,O,hr,V,?_,⟨aM _,fun k _ _ _ _ Y=>?_,fun _ h=>.inl h,fun _ h=>.inl h⟩,fun k j=>BZ,rfl⟩
  .rw[L,mH Tryz.underlying23 jf C];simp
  .rw[pS Tryz.underlying3 rfl A,dX,cJ,aO C];rfl
  .rw[uq A (by rw[cR];exact C),nV]
  .have J:=h.o1;have W:=h.o2;have U:=h.o3;have F:=h.o4;have M:=h.o5;have j:∀k,k≠r->(H.set r (.cells ((s.vars.set i x).map (.int .i64)) 0 true)).get k=H.get k:=fun k j=>BZ;refine⟨by rw[j _ ac];exact h.m,by rw[j _ ac];exact h.a,by rw[j _ ac];exact h.f,by rw[j _ ac];exact h.t,by rw[j _ ac];exact h.n,h.nodes.keep (fun _ _ h=>h) (aM _) fun k hS _=>j k fun e=>(h.sS k hS).2.2 (by rw[e];exact V),.inr ⟨r,by rw[L,lW],hB,Z,hr⟩,J,W,U,F,M,h.sS,h.vS⟩
  .rw[aU,ah (fun e=>Y (by rw[e];exact V))]
end
end
end Go.Proofs.YtljebeflbbgibaaGreat
