/- Parts: P4b, P4c, P4d, P4h, ChkM, ChkX, G2p, RowN, V7, W6h, RunK, EvJ, SpecL, LoK, LoA. -/
import Derived.Test.YtljebeflbbgibaaGreatXCL
set_option linter.unusedSimpArgs false
set_option linter.unusedVariables false
set_option linter.unusedSectionVars false
set_option linter.defProp false
set_option maxHeartbeats 32000000
namespace Go.Ab
set_option maxRecDepth 20000
open Go
theorem rD{P:Prop}(h:P:=by refine⟨rfl,rfl,rfl,rfl,rfl,rfl,rfl,rfl,rfl⟩):P:=h
theorem Jx{P:Prop}(h:P:=by rw[nI];(try simp only[Bool.not_eq_true',Bool.not_eq_false']at *);simp only[*,Bool.false_and,Bool.and_false,Bool.and_true,]):P:=h
theorem vw{P:Prop}(h:P:=by (try simp only[zdA]);omega):P:=h
theorem yI{P:Prop}(h:P:=by rw[<- Z,Hp.get_set,if_pos rfl]):P:=h
theorem Jy{P:Prop}(h:P:=by rw[Y,show zeL=70368744177664 from rfl];omega):P:=h
theorem Cz{P:Prop}(h:P:=by rw[List.length_append,hvs];rfl):P:=h
theorem CA{P:Prop}(h:P:=by rw[<- O];simp only[zdQ];omega):P:=h
theorem CB{P:Prop}(h:P:=by rw[Hp.get_set,if_neg j]):P:=h
theorem ti{P:Prop}(h:P:=by simp only[zdy,Nat.reduceBEq, *];exact zfq (n:=u.funcs.length) ac ac):P:=h
theorem Jz{P:Prop}(h:P:=by simp only[zdy,Nat.reduceBEq, *];exact zfq (n:=u.arrays.length) ac ac):P:=h
def yJ:=@Bool.not_and
def vx:=@Go.IntKind.wrap_u8
def JA:=@Int.fdiv_eq_ediv_of_nonneg
def vy:=@Go.IntKind.wrap_u64
def vz:=@List.prefix_refl
end Go.Ab
namespace Go.Proofs.YtljebeflbbgibaaGreat
set_option maxRecDepth 20000
open Go Go.Ab
section
def tyP4b.tyF:=ad @cN (ad @b9 (ad @lI (ad @dA (ad @iM (ad @iN (ad @gF (ad @jM (@FH))))))))
open tyP4b
noncomputable def JB:{c:SC // aC 111 (Tryz.f131.body.getD .skip)=c}:=by
 refine⟨?_,?_⟩;rotate_left
 .simp only[Tryz.f131,a5,aC,zdG,zdD,zdH,zdI,Nat.blt,Nat.ble];rfl
mutual
theorem JC:∀(x:Ex) (d:Int),jK (fun x _=>sQ x) x d=jT x
 | .mk k n s o U,d=>by rw[jK,jT,JD U,Bool.and_comm]
theorem JD:∀(l:List Ex) (d:Int),zfp (fun x _=>sQ x) l d=ky l
 |[],_=>rfl
 |x::l,d=>by rw[zfp,ky,JC x,JD l]
end
theorem CC{l:List En}(L:∀C,zem l 127 C=vr.sp C)(K:∀C,zem l 171 C=vu.sp C)(Y:(∀C,zem l 130 C=none)/\ir l 130=false)(F:(∀C,zem l 129 C=none)/\ir l 129=false)
 (x:Ex) (I:x.sz<2^60) (H:Hp):zdw Tryz.prog (zdp pls l) 129 [.agg x.cells,.int .i64 0,.clo 130 []] H fun v H'=>v=.bool (jT x)/\FrB 0 H H':=by
 have i:pJ 0 fun _:Hp=>True:=fun _ _ _ _=>trivial;refine a9 ?_ (te (zej F.1 F.2) i (ztB L K Y i) (x.sz+1) x (cP _) 0 H I (cG _) trivial);rintro v H' ⟨rfl,g,_⟩;exact⟨by rw[JC],g⟩
def mJ(x:Ex)(w:Bool):Bool:=bif w then jT x else zeroE x
noncomputable def CD:List En:=[vr,vu,Jw]
theorem ztD(ρ:Nat->Int):fk Tryz.prog ρ CD:=⟨Ju ρ,Jv ρ,zx5 ρ,trivial⟩
theorem ziE(ρ:Nat->Int)(x:Ex)(w:Bool)(I:x.sz<2^60):bc Tryz.prog ρ 174 [.agg x.cells,.bool w] (.bool (mJ x w)):=zer fit (pls:=pls) (ztD ρ) (.cons (.agg x.pure) (.cons (.bool _) .nil)) (.bool _) (by
 have J:Plain (zdp pls CD) 174:=zej (fun _=>rfl) rfl;have Z:∀y:Ex,∀H,zdw Tryz.prog (zdp pls CD) 197 [.agg y.cells] H fun v H'=>v=.bool (zeroE y)/\H'=H:=fun y H=>zeq (enc:=uW) (out:=fun x=>.bool (zeroE x)) XJ (x:=y) rfl trivial;cases w
 .refine zdv (M:=10) (rs:=[.tmp 4]) (J.call _) J.ice J.froz Tryz.func174 rfl rfl yH.2 rfl ?_;dsimp only[yH,zds,Nat.reduceAdd];repeat' (first
   |(apply zdk ?_;clear hK K)|apply Rx.o ?_|(apply iO ?_;first|refine Rx.k (Z _ _) ?_)|(apply aS (fun z V=>?_) (fun z V=>?_)<;>try(cases z;done))|apply ak ?_|(apply zdl fun K hK=>?_)|apply zdm ?_|apply am ?_)
  all_goals (refine⟨eI,_,eR,?_⟩;try simp only[zdn])
  rfl
 .refine zdv (M:=10) (rs:=[.tmp 4]) (J.call _) J.ice J.froz Tryz.func174 rfl rfl yH.2 rfl ?_;dsimp only[yH,zds,Nat.reduceAdd];repeat' (first
   |(apply zdk ?_;clear hK K)|apply Rx.o ?_|(apply aS (fun z V=>?_) (fun z V=>?_)<;>try(cases z;done))|apply ak ?_|(apply zdl fun K hK=>?_)|fail)
  refine bh rfl bm bo ?_;simp only[bJ];refine a9 ?_ (CC (fun _=>rfl) (fun _=>rfl) ⟨fun _=>rfl,rfl⟩ ⟨fun _=>rfl,rfl⟩ x I _);rintro v H ⟨rfl,_⟩;dsimp only[zdE];repeat' (first
   |(apply zdk ?_;clear hK K)|apply Rx.o ?_|apply am ?_)
  all_goals (refine⟨eI,_,eR,?_⟩;try simp only[zdn])
  rfl)
def a8(k:Int)(i:Nat):Bool:=(rC k).getD i false
theorem zaJ(k:Int):(rC k).map AV.bool=[.bool (a8 k 0),.bool (a8 k 1),.bool (a8 k 2),.bool (a8 k 3),.bool (a8 k 4),.bool (a8 k 5),.bool (a8 k 6),.bool (a8 k 7)]:=by
 have h:∃a b c d e f g h,rC k=[a,b,c,d,e,f,g,h]:=by
  unfold rC;repeat' split
  all_goals exact⟨_,_,_,_,_,_,_,_,rfl⟩
 obtain⟨a,b,c,d,e,f,g,h,Z⟩:=h;simp only[a8,Z];rfl
def nI(x:St):Bool:=
 iU x.kind&&kD x.name (a8 x.kind 0)&&kD x.to (a8 x.kind 1)&&mJ x.at_ (a8 x.kind 3)&&mJ x.value (a8 x.kind 4) &&
 !decide (x.n<0) && !decide (1000000<x.n)&&(a8 x.kind 2||decide (x.n=0))&&(a8 x.kind 5 || !decide ((0:Int)<x.args.length))&&(a8 x.kind 6 || !decide ((0:Int)<x.thn.length))&&(a8 x.kind 7 || !decide ((0:Int)<x.els.length))&&ky x.args
def vA(x:St):Bool:=decide (x.n<0)||decide (1000000<x.n)||(!a8 x.kind 2 && !decide (x.n=0))||(!a8 x.kind 5&&decide ((0:Int)<x.args.length))||(!a8 x.kind 6&&decide ((0:Int)<x.thn.length))||(!a8 x.kind 7&&decide ((0:Int)<x.els.length))
noncomputable def JE:En:=⟨172,false,b7 (fun _=>True) (fun n:Int=>[.int .i64 n]) th⟩
theorem zx7(ρ:Nat->Int):yO Tryz.prog ρ JE:=zei fun x _=>znB ρ x
def vB(x:List UInt8×Bool):List AV:=[.str x.1,.bool x.2]
theorem zx8(x y:List UInt8×Bool)(h:vB x=vB y):x=y:=by
 simp only[vB,cR,AV.str.injEq,AV.bool.injEq,aX]at h;exact jQ h.1 h.2
noncomputable def JF:En:=⟨173,false,b7 (fun x=>x.1.length<2^60) vB fun x=>.bool (kD x.1 x.2)⟩
theorem zx9(ρ:Nat->Int):yO Tryz.prog ρ JF:=zei fun x I=>znz ρ x.1 x.2 I
def vC(x:Ex×Bool):List AV:=[.agg x.1.cells,.bool x.2]
theorem zya(x y:Ex×Bool)(h:vC x=vC y):x=y:=by
 simp only[vC,cR,AV.agg.injEq,AV.bool.injEq,aX]at h;exact jQ (Ex.inj h.1) h.2
noncomputable def JG:En:=⟨174,false,b7 (fun x=>x.1.sz<2^60) vC fun x=>.bool (mJ x.1 x.2)⟩
theorem zyb(ρ:Nat->Int):yO Tryz.prog ρ JG:=zei fun x I=>ziE ρ x.1 x.2 I
noncomputable def JH:En:=⟨128,false,b7 (fun l=>zfg l<2^60) (fun l:List (List UInt8)=>[zeE l]) fun l=>.bool (l.all zd8)⟩
theorem zyc(ρ:Nat->Int):yO Tryz.prog ρ JH:=zei fun x I=>zny ρ x I
theorem zyd(x y:List (List UInt8))(h:([zeE x]:List AV)=[zeE y]):x=y:=by
 simp only[cR,AV.lst.injEq,aX]at h;exact xC h
noncomputable def nJ:List En:=[vr,vu,JE,JF,JG,JH]
theorem ztE(ρ:Nat->Int):fk Tryz.prog ρ nJ:=⟨Ju ρ,Jv ρ,zx7 ρ,zx9 ρ,zyb ρ,zyc ρ,trivial⟩
theorem zaS:a8 1 0=true/\a8 1 1=false/\a8 1 2=false/\a8 1 3=false/\a8 1 4=true/\a8 1 5=false/\a8 1 6=false/\a8 1 7=false/\iU 1=true:=rD
theorem zaT:a8 2 0=true/\a8 2 1=false/\a8 2 2=false/\a8 2 3=true/\a8 2 4=true/\a8 2 5=false/\a8 2 6=false/\a8 2 7=false/\iU 2=true:=rD
theorem zaU:a8 3 0=false/\a8 3 1=false/\a8 3 2=false/\a8 3 3=false/\a8 3 4=true/\a8 3 5=false/\a8 3 6=true/\a8 3 7=true/\iU 3=true:=rD
theorem zaV:a8 4 0=false/\a8 4 1=false/\a8 4 2=false/\a8 4 3=false/\a8 4 4=true/\a8 4 5=false/\a8 4 6=true/\a8 4 7=false/\iU 4=true:=rD
theorem zaW:a8 5 0=false/\a8 5 1=false/\a8 5 2=false/\a8 5 3=false/\a8 5 4=true/\a8 5 5=false/\a8 5 6=false/\a8 5 7=false/\iU 5=true:=rD
theorem zaX:a8 6 0=true/\a8 6 1=true/\a8 6 2=false/\a8 6 3=false/\a8 6 4=false/\a8 6 5=true/\a8 6 6=false/\a8 6 7=false/\iU 6=true:=rD
theorem zaY:a8 7 0=false/\a8 7 1=false/\a8 7 2=true/\a8 7 3=false/\a8 7 4=false/\a8 7 5=false/\a8 7 6=false/\a8 7 7=false/\iU 7=true:=rD
set_option maxRecDepth 100000 in
theorem ztF:vp (zdp pls nJ) 0 (fun(_:Unit) _=>True) 131 [] fun x _ s=>(nI x,s):=by
 intro x d s H hz _ _;have hw:Plain (zdp pls nJ) 131:=zej (fun _=>rfl) rfl;have kf:∀k H,zdw Tryz.prog (zdp pls nJ) 172 [.int .i64 k] H fun v H'=>v=.tup [.agg [.bool (a8 k 0),.bool (a8 k 1),.bool (a8 k 2),.bool (a8 k 3),.bool (a8 k 4),.bool (a8 k 5),.bool (a8 k 6),.bool (a8 k 7)],.bool (iU k)]/\H'=H:=fun k H=>by
  have:=zeq (P:=Tryz.prog) (pls:=pls) (l:=nJ) (enc:=fun n:Int=>[.int .i64 n]) (ok:=fun _=>True) (out:=th) Yw (g:=172) (x:=k) rfl trivial (H:=H);unfold th at this;rw[zaJ]at this;exact this
 have km:∀(s:List UInt8) (w:Bool),s.length<2^60->∀H,zdw Tryz.prog (zdp pls nJ) 173 [.str s,.bool w] H fun v H'=>v=.bool (kD s w)/\H'=H:=fun s w h H=>zeq (enc:=vB) (out:=fun x=>.bool (kD x.1 x.2)) zx8 (x:=(s,w)) rfl h;have kx:∀(y:Ex) (w:Bool),y.sz<2^60->∀H,zdw Tryz.prog (zdp pls nJ) 174 [.agg y.cells,.bool w] H fun v H'=>v=.bool (mJ y w)/\H'=H:=fun y w h H=>zeq (enc:=vC) (out:=fun x=>.bool (mJ x.1 x.2)) zya (x:=(y,w)) rfl h;have hsz:=x.sz_eq;have hlen:=uv x.args;have hx0:∀a b,Ab.extract (.tup [a,b]) 0=some a:=fun _ _=>rfl;have hx1:∀a b,Ab.extract (.tup [a,b]) 1=some b:=fun _ _=>rfl;refine zdv (M:=111) (rs:=[.tmp 4]) (hw.call _) hw.ice hw.froz Tryz.func131 rfl rfl JB.2 rfl ?_;dsimp only[JB,zds,Nat.reduceAdd];repeat' (first
  |(apply zdk ?_;clear hK K)|apply Rx.o ?_|apply bp ?_|(apply iO ?_;first|refine Rx.k (kf _ _) ?_|refine Rx.k (km _ _ ac _) ?_|refine Rx.k (kx _ _ ac _) ?_)|(apply bZ (fun C L=>?_) (fun C L=>?_)<;>try(cases C;done))|apply ak ?_|(apply zdl fun K hK=>?_)|fail)
 all_goals (first|(refine aS (t:=true) (h1:=fun _ _=>?_) (h2:=fun hzz _=>?_)<;>try(cases hzz;done))|skip)
 all_goals
  repeat' (first
   |(apply zdk ?_;clear hK K)|apply Rx.o ?_|apply ak ?_|(apply zdl fun K hK=>?_)|apply am ?_|fail)
 all_goals (first|(refine⟨eI,_,eR,?_⟩;(try simp only[zdn]);refine⟨Jx,(((gg _ _).alloc _).alloc _).set (.inl vw) _,trivial⟩;done)|skip)
 have m:FrB 0 H (((H.alloc (.cells x.cells 0 true)).alloc (.cells [.bool false,.bool false,.bool false,.bool false,.bool false,.bool false,.bool false,.bool false] 0 true)).set (H.next+1) (.cells [.bool (a8 x.kind 0),.bool (a8 x.kind 1),.bool (a8 x.kind 2),.bool (a8 x.kind 3),.bool (a8 x.kind 4),.bool (a8 x.kind 5),.bool (a8 x.kind 6),.bool (a8 x.kind 7)] 0 true)):=(((gg _ _).alloc _).alloc _).set (.inl ac) _;refine Xt [2,4,5,48] fun E' j=>?_;(try simp only[zdO,zdF,aX,zdy,zdJ,Nat.reduceBEq, *]at j);generalize Z:Hp.set _ (H.next+1) _=Hb at m⊢;have gb:Hb.get H.next=some (.cells x.cells 0 true):=by rw[<-Z,aW,ai ac,zdq,ai el,zdq,az rfl]
 have gf:Hb.get (H.next+1)=some (.cells [.bool (a8 x.kind 0),.bool (a8 x.kind 1),.bool (a8 x.kind 2),.bool (a8 x.kind 3),.bool (a8 x.kind 4),.bool (a8 x.kind 5),.bool (a8 x.kind 6),.bool (a8 x.kind 7)] 0 true):=yI;have nb:H.next+2<=Hb.next:=by rw[<-Z];exact aM _
 clear Z;refine aS (h1:=fun z V=>?_) (h2:=fun z V=>?_)
 .repeat' (first
   |(apply zdk ?_;clear hK K)|apply Rx.o ?_|apply ak ?_|(apply zdl fun K hK=>?_)|apply am ?_|fail)
  all_goals (refine⟨eI,_,eR,?_⟩;try simp only[zdn])
  refine⟨Jx,m,trivial⟩
 refine zdX.skip ?_;dsimp only[jt,qi];refine ak ?_;first
 |refine zdl fun K Y=>?_
 |(simp only[zdG,zdD,zdH,zdI,Nat.blt,Nat.ble];refine zdl fun K Y=>?_)
 |(refine ak ?_;refine zdl fun K Y=>?_)
 have hK:∀I J,(I.at 2=.ptr H.next 0/\I.at 4=.bool false/\I.at 99=.bool (vA x)/\J=Hb)->K I J:=by
  rintro I J ⟨k2,zfZ,k99,rfl⟩;apply Y;clear Y K;dsimp only[jt,qi];have U:(iU x.kind&&kD x.name (a8 x.kind 0)&&kD x.to (a8 x.kind 1)&&mJ x.at_ (a8 x.kind 3)&&mJ x.value (a8 x.kind 4))=true:=by(try simp only[qH]at *);simp only[*,j6,]
  have O:nI x=(!vA x&&ky x.args):=by
   have e:nI x=((iU x.kind&&kD x.name (a8 x.kind 0)&&kD x.to (a8 x.kind 1)&&mJ x.at_ (a8 x.kind 3)&&mJ x.value (a8 x.kind 4))&&(!vA x&&ky x.args)):=by
    simp only[nI,vA,tc,yJ,Bool.not_not,qG]
   rw[e,U,dw]
  repeat' (first
   |(apply zdk ?_;clear hK K)|apply Rx.o ?_|(apply aS (fun z V=>?_) (fun z V=>?_)<;>try(cases z;done))|apply ak ?_|(apply zdl fun K hK=>?_)|apply au ?_|apply zdm ?_|apply am ?_|fail)
  .all_goals (refine⟨eI,_,eR,?_⟩;try simp only[zdn])
   refine⟨by rw[O];(try simp only[qH]at *);simp only[*,dZ,lC,],m,trivial⟩
  refine zef [2,4,101,102] [] 103 x.args.length (fun i E J=>ky x.args=ky (x.args.drop i)/\FrB 0 H J) eE ⟨aB,m⟩ ?_;rintro i E H3 hi j hrH hnH hsI ⟨hJ,F⟩;(try simp only[zdO,zdF,aX,zdy,zdJ,Nat.reduceBEq, *]at j);(try simp only[zdF, *]at hrH);(try simp only[zdA,zdQ,zec,bC,Nat.reduceAdd]at hnH);repeat' (first
   |(apply zdk ?_;clear hK K)|apply Rx.o ?_|(apply aS (fun z V=>?_) (fun z V=>?_)<;>try(cases z;done))|apply ak ?_|(apply zdl fun K hK=>?_)|apply au ?_|apply zdm ?_|apply am ?_|apply zdr ?_)
  .have o:i<x.args.length:=by simpa using z
   have hgx:x.args[i]?=some x.args[i]:=aR o;have hsm:=sf (dr o);have hdr:ky (x.args.drop i)=(jT x.args[i]&&ky (x.args.drop (i+1))):=sG;repeat' (first
    |(apply zdk ?_;clear hK K)|apply Rx.o ?_|apply bp ?_|apply ak ?_|(apply zdl fun K hK=>?_)|fail)
   refine bh rfl bm bo ?_;simp only[bJ];refine a9 ?_ (CC (fun _=>rfl) (fun _=>rfl) ⟨fun _=>rfl,rfl⟩ ⟨fun _=>rfl,rfl⟩ x.args[i] ac _);rintro v H4 ⟨rfl,A⟩;dsimp only[zdE];have hf5:FrB 0 H H4:=F.trans ((((gg _ _).alloc _).set (.inl (aM _)) _).trans A);have n4:=A.next
   simp only[zdQ,zdA]at n4;repeat' (first
    |(apply zdk ?_;clear hK K)|apply Rx.o ?_|(apply aS (fun z V=>?_) (fun z V=>?_)<;>try(cases z;done))|apply ak ?_|(apply zdl fun K hK=>?_)|apply zdm ?_|apply am ?_|fail)
   all_goals (first|(refine⟨eI,_,eR,?_⟩;(try simp only[zdn]);refine⟨by rw[O,hJ,hdr];(try simp only[fl]at *);simp only[ *,sI,gX,],hf5,trivial⟩;done)|skip)
   refine⟨ac,zdz,zdz,eN,(by simp only[zdy,Nat.reduceBEq, *];exact zfq (n:=x.args.length) ac ac),?_⟩;exact⟨by rw[hJ,hdr];(try simp only[qH]at *);simp only[*,dw,],hf5⟩
  .all_goals (refine⟨eI,_,eR,?_⟩;try simp only[zdn])
   refine⟨by rw[O,hJ,show i=x.args.length by simp at z;omega,jR];(try simp only[qH]at *);simp only[ky, *,j6,gX,],F,trivial⟩
 clear Y;repeat' (first
  |(apply zdk ?_;clear hK K)|apply Rx.o ?_|apply qC ?_|(apply bZ (fun C L=>?_) (fun C L=>?_)<;>try(cases C;done))|fail)
 all_goals
  refine⟨eE,eE,?_,rfl⟩;rw[vA];(try simp only[fl]at *);simp only[zdy,Nat.reduceBEq, *,Ig,]
end
section
theorem k0(n:Nat):(!decide ((0:Int)<n))=decide ((n:Int)=0):=by
 cases n with
 |zero=>rfl
 |succ n=>simp;omega
theorem za0(n:Int):(!decide (n<0) && !decide (1000000<n)&&decide (n=0))=decide (n=0):=by
 by_cases h:n=0
 .subst h;rfl
 .simp[h]
theorem za1(n:Int):(!decide (n<0))=decide (0<=n):=by
 by_cases h:n<0
 .simp[h]
 .simp[h];omega
theorem za2(n:Int):(!decide (1000000<n))=decide (n<=1000000):=by
 by_cases h:1000000<n
 .simp[h]
 .simp[h];omega
theorem zye(x:St):nI x=u7 x:=by
 have j:x.kind=1\/x.kind=2\/x.kind=3\/x.kind=4\/x.kind=5\/x.kind=6\/x.kind=7\/iU x.kind=false:=by
  simp only[iU,pr,jN];omega
 rcases j with j|j|j|j|j|j|j|j
 case inr.inr.inr.inr.inr.inr.inr=>
  have h:x4 x=false:=by
   simp only[iU,pr,jN]at j;unfold x4;rw[ai ac,ai ac,ai ac,ai ac,ai ac,ai ac,ai ac]
  rw[nI,u7,j,h];simp
 all_goals
  have hr:=za0 x.n;simp only[nI,u7,x4,j,zaS,zaT,zaU,zaV,zaW,zaX,zaY,sR,xZ,kD,mJ,gk,pd,bT,cn,Int.reduceEq,Bl,jb,l9,k0,cC,reduceCtorEq];first
  |(rw[za1,za2];ac_rfl)
  |(rw[<-hr];ac_rfl)
mutual
theorem ztG:∀(x:St) (d:Int),iK (fun x _ (s:Unit)=>(nI x,s)) x d ()=(x5 x,())
 | .mk k m I n a v args A C,d=>by
   rw[iK,x5,zye];cases h:u7 (.mk k m I n a v args A C)with
   |false=>simp
   |true=>
    simp only[yK A,dw];cases g:oF A with
    |false=>simp
    |true=>simp only[yK C,dw]
theorem yK:∀(l:List St) (d:Int),zeH (fun x _ (s:Unit)=>(nI x,s)) l d ()=(oF l,())
 |[],_=>rfl
 |x::l,d=>by
  rw[zeH,oF,ztG x];cases h:x5 x with
  |false=>simp
  |true=>simp only[yK l,dw]
end
def tyP4d.tyF:=ad @cN (ad @b9 (ad @dA (ad @iq (ad @kQ (ad @na (ad @kj (ad @ko (ad @iM (ad @iN (ad @gF (ad @ng (@jM))))))))))))
open tyP4d
noncomputable def JI:{c:SC // aC 55 (Tryz.f86.body.getD .skip)=c}:=by
 refine⟨?_,?_⟩;rotate_left
 .simp only[Tryz.f86,a5,aC,zdG,zdD,zdH,zdI,Nat.blt,Nat.ble];rfl
theorem zlW(f:Fu)(b:List UInt8->Bool):(x6 f).all b=(b f.name&&f.params.all b&&f.locals.all b):=by
 rw[x6,List.all_append,List.all_append,ox,BX,j6]
set_option maxRecDepth 100000 in
theorem zic(ρ:Nat->Int)(p:Pr)(hz:p.sz<2^36):bc Tryz.prog ρ 86 [.agg p.cells] (.bool (kz p)):=zer fit (pls:=pls) (ztE ρ) (.cons (.agg p.pure) .nil) (.bool _) (by
 have hw:Plain (zdp pls nJ) 86:=zej (fun _=>rfl) rfl;have kn:∀s:List UInt8,s.length<2^60->∀H,zdw Tryz.prog (zdp pls nJ) 127 [.str s] H fun v H'=>v=.bool (zd8 s)/\H'=H:=fun s h1 H=>zeq (enc:=kS) (out:=fun x=>.bool (zd8 x)) sJ (x:=s) rfl h1;have ks:∀l:List (List UInt8),zfg l<2^60->∀H,zdw Tryz.prog (zdp pls nJ) 128 [zeE l] H fun v H'=>v=.bool (l.all zd8)/\H'=H:=fun l h1 H=>zeq (enc:=fun l:List (List UInt8)=>[zeE l]) (out:=fun l=>.bool (l.all zd8)) zyd (x:=l) rfl h1;have hpz:p.sz=1+kO p.arrays+kN p.funcs:=rfl;have hla:=se p.arrays;have hlf:=sd p.funcs;refine zdv (M:=55) (rs:=[.tmp 2]) (hw.call _) hw.ice hw.froz Tryz.func86 rfl rfl JI.2 rfl ?_;dsimp only[JI,zds,Nat.reduceAdd];repeat' (first
  |(apply zdk ?_;clear hK K)|apply Rx.o ?_|apply bp ?_|(apply bZ (fun C L=>?_) (fun C L=>?_)<;>try(cases C;done))|(apply aS (fun z V=>?_) (fun z V=>?_)<;>try(cases z;done))|apply ak ?_|(apply zdl fun K hK=>?_)|apply au ?_|apply zdm ?_|apply am ?_|apply zdr ?_)
 refine zef [1,8,9] [0] 10 p.arrays.length (fun i E H=>p.arrays.all (fun a=>zd8 a.name)=(p.arrays.drop i).all (fun a=>zd8 a.name)) eE aB ?_;rintro i E H2 hi U m J g j;(try simp only[zdO,zdF,aX,zdy,zdJ,Nat.reduceBEq,Nat.reduceAdd,Nat.reduceLeDiff,tyF, *]at U);(try simp only[zdO,zdF,aX,zdy,zdJ,Nat.reduceBEq,Nat.reduceAdd,Nat.reduceLeDiff,tyF, *]at m);(try simp only[zdA,zdQ,zec,bC,Nat.reduceAdd]at J);have hB0:(0 == H2.next)=false:=zdC ac;have hC0:(H2.next == 0)=false:=zdC ac;repeat' (first
  |(apply zdk ?_;clear hK K)|apply Rx.o ?_|apply bp ?_|(apply bZ (fun C L=>?_) (fun C L=>?_)<;>try(cases C;done))|(apply aS (fun z V=>?_) (fun z V=>?_)<;>try(cases z;done))|apply ak ?_|(apply zdl fun K hK=>?_)|apply au ?_|apply zdm ?_|apply am ?_|apply zdr ?_)
 .have o:i<p.arrays.length:=by simpa using z
  have hgx:p.arrays[i]?=some p.arrays[i]:=aR o;have hsm:=BK (dr o);have O:(p.arrays.drop i).all (fun a=>zd8 a.name)=(zd8 p.arrays[i].name&&(p.arrays.drop (i+1)).all (fun a=>zd8 a.name)):=vq;repeat' (first
   |(apply zdk ?_;clear hK K)|apply Rx.o ?_|apply bp ?_|(apply iO ?_;first|refine Rx.k (kn _ ac _) ?_)|(apply bZ (fun C L=>?_) (fun C L=>?_)<;>try(cases C;done))|(apply aS (fun z V=>?_) (fun z V=>?_)<;>try(cases z;done))|apply ak ?_|(apply zdl fun K hK=>?_)|apply au ?_|apply zdm ?_|apply am ?_|apply zdr ?_)
  all_goals (first|(refine⟨eI,_,eR,?_⟩;(try simp only[zdn]);rw[kz,j,O];(try simp only[fl]at *);simp only[ *,kB,bT,cn,Int.reduceEq];done)|skip)
  refine⟨ac,zdz,zdz,eN,Ib,?_⟩;rw[j,O];(try simp only[fl]at *);simp only[ *,kB,bT,cn,Int.reduceEq]
 .have Z:i=p.arrays.length:=by simp at z;omega
  rw[Z,jR]at j;have Y:p.arrays.all (fun a=>zd8 a.name)=true:=j;clear j Z g hi;refine zef [20,21] [0] 22 p.funcs.length (fun i E H=>p.funcs.all mE=(p.funcs.drop i).all mE) eE aB ?_;rintro i E H3 hi U m J g j;(try simp only[zdO,zdF,aX,zdy,zdJ,Nat.reduceBEq,Nat.reduceAdd,Nat.reduceLeDiff,tyF, *]at U);(try simp only[zdO,zdF,aX,zdy,zdJ,Nat.reduceBEq,Nat.reduceAdd,Nat.reduceLeDiff,tyF, *]at m);(try simp only[zdA,zdQ,zec,bC,Nat.reduceAdd]at J);have hB0:(0 == H3.next)=false:=zdC ac;have hC0:(H3.next == 0)=false:=zdC ac;repeat' (first
   |(apply zdk ?_;clear hK K)|apply Rx.o ?_|apply bp ?_|(apply bZ (fun C L=>?_) (fun C L=>?_)<;>try(cases C;done))|(apply aS (fun z V=>?_) (fun z V=>?_)<;>try(cases z;done))|apply ak ?_|(apply zdl fun K hK=>?_)|apply au ?_|apply zdm ?_|apply am ?_|apply zdr ?_)
  .have o:i<p.funcs.length:=by simpa using z
   have hgx:p.funcs[i]?=some p.funcs[i]:=aR o;have hsm:=sh (dr o);have hsz:p.funcs[i].sz=1+p.funcs[i].name.length+zfg p.funcs[i].params+zfg p.funcs[i].locals+zfl p.funcs[i].body+p.funcs[i].value.sz:=rfl;have O:(p.funcs.drop i).all mE=(mE p.funcs[i]&&(p.funcs.drop (i+1)).all mE):=vq;have F:mE p.funcs[i]=(zd8 p.funcs[i].name&&p.funcs[i].params.all zd8&&p.funcs[i].locals.all zd8&&oF p.funcs[i].body&&jT p.funcs[i].value):=by rw[mE,zlW]
   repeat' (first
    |(apply zdk ?_;clear hK K)|apply Rx.o ?_|apply bp ?_|(apply iO ?_;first|refine Rx.k (kn _ ac _) ?_|refine Rx.k (ks _ ac _) ?_)|(apply bZ (fun C L=>?_) (fun C L=>?_)<;>try(cases C;done))|(apply aS (fun z V=>?_) (fun z V=>?_)<;>try(cases z;done))|apply ak ?_|(apply zdl fun K hK=>?_)|apply au ?_|apply zdm ?_|apply am ?_|apply zdr ?_)
   .refine bh rfl bm bo ?_;simp only[dS];refine a9 ?_ (CC (fun _=>rfl) (fun _=>rfl) ⟨fun _=>rfl,rfl⟩ ⟨fun _=>rfl,rfl⟩ p.funcs[i].value ac _);rintro v H4 ⟨rfl,A⟩;have hn4:=A.next
    simp only[zdQ,zdA]at hn4;have g4:H4.get H3.next=some (.cells p.funcs[i].cells 0 true):=by rw[A.get _ (cG _) kX,aW,az rfl]
    have g40:H4.get 0=some (.cells p.cells 0 true):=by rw[A.get _ (cG _) kX,aW,ai ac,zdq,ai ac];exact m
    dsimp only[zdE];repeat' (first
     |(apply zdk ?_;clear hK K)|apply Rx.o ?_|apply bp ?_|(apply bZ (fun C L=>?_) (fun C L=>?_)<;>try(cases C;done))|(apply aS (fun z V=>?_) (fun z V=>?_)<;>try(cases z;done))|apply ak ?_|(apply zdl fun K hK=>?_)|apply au ?_|apply zdm ?_|apply am ?_|apply zdr ?_)
    .refine bh rfl bm bo ?_;simp only[dS];refine a9 ?_ (tf (zej (fun _=>rfl) rfl) (I:=fun(_:Unit) _=>True) (fun _ _ _ _ _=>trivial) ztF (zfl p.funcs[i].body+1) p.funcs[i].body ac 0 () H4 ac (cG _) trivial);rintro v H5 ⟨rfl,hf5,_⟩;have hn5:=hf5.next
     have g50:H5.get 0=some (.cells p.cells 0 true):=by rw[hf5.get _ (cG _) ac];exact g40
     rw[yK];dsimp only[zdE];repeat' (first
      |(apply zdk ?_;clear hK K)|apply Rx.o ?_|apply bp ?_|(apply bZ (fun C L=>?_) (fun C L=>?_)<;>try(cases C;done))|(apply aS (fun z V=>?_) (fun z V=>?_)<;>try(cases z;done))|apply ak ?_|(apply zdl fun K hK=>?_)|apply au ?_|apply zdm ?_|apply am ?_|apply zdr ?_)
     all_goals (first|(refine⟨eI,_,eR,?_⟩;(try simp only[zdn]);rw[kz,Y,j,O,F];(try simp only[fl]at *);simp only[ *,kB,bT,cn,Int.reduceEq];done)|skip)
     refine⟨ac,zdz,zdz,eN,vj,?_⟩;rw[j,O,F];(try simp only[fl]at *);simp only[ *,kB,bT,cn,Int.reduceEq]
    all_goals skip
    all_goals (first|(refine⟨eI,_,eR,?_⟩;(try simp only[zdn]);rw[kz,Y,j,O,F];(try simp only[fl]at *);simp only[ *,kB,bT,cn,Int.reduceEq];done)|skip)
   all_goals skip
   all_goals (first|(refine⟨eI,_,eR,?_⟩;(try simp only[zdn]);rw[kz,Y,j,O,F];(try simp only[fl]at *);simp only[ *,kB,bT,cn,Int.reduceEq];done)|skip)
  .all_goals (refine⟨eI,_,eR,?_⟩;try simp only[zdn])
   have Z:i=p.funcs.length:=vh;rw[Z,jR]at j;have hJ2:p.funcs.all mE=true:=j;rw[kz,Y,hJ2];rfl)
end
section
def tyP4h.tyF:=ad @iq (ad @na (@kj))
open tyP4h
noncomputable def JJ:{c:SC // aC 16 (Tryz.f55.body.getD .skip)=c}:=by
 refine⟨?_,?_⟩;rotate_left
 .simp only[Tryz.f55,a5,aC,zdG,zdD,zdH,zdI,Nat.blt,Nat.ble];rfl
noncomputable def JK:En:=⟨85,false,b7 (fun p=>p.sz<2^36) fv fun p=>.bool (jc p)⟩
theorem znD(ρ:Nat->Int)(p:Pr)(z:p.sz<2^36):bc Tryz.prog ρ 85 (fv p) (.bool (jc p)):=zer fit (pls:=pls) (l:=[]) trivial (.cons (.agg p.pure) .nil) (.bool _) (zpY ⟨yl _,yl _,yl _,yl _⟩ (yl _) (yl _) (yl _) p ac)
theorem ztH(ρ:Nat->Int):yO Tryz.prog ρ JK:=zei fun p hp=>znD ρ p hp
noncomputable def JL:En:=⟨86,false,b7 (fun p=>p.sz<2^36) fv fun p=>.bool (kz p)⟩
theorem ztI(ρ:Nat->Int):yO Tryz.prog ρ JL:=zei fun p hp=>zic ρ p hp
noncomputable def JM:En:=⟨87,false,b7 (fun p=>p.sz<2^36) fv fun p=>.bool (lQ p)⟩
theorem zp1(ρ:Nat->Int):yO Tryz.prog ρ JM:=zei fun p hp=>ZX ρ p hp
noncomputable def JN:En:=⟨88,false,b7 (fun p=>p.sz<2^36) fv fun p=>.int .i64 (rx p)⟩
theorem ztK(ρ:Nat->Int):yO Tryz.prog ρ JN:=zei fun p hp=>zlT ρ p hp
noncomputable def tj:List En:=[JK,JL,JM,JN]
theorem zp2(ρ:Nat->Int):fk Tryz.prog ρ tj:=⟨ztH ρ,ztI ρ,zp1 ρ,ztK ρ,trivial⟩
theorem znE(ρ:Nat->Int)(p:Pr)(z:p.sz<2^36):bc Tryz.prog ρ 55 (fv p) (.int .i64 (nB p)):=zer fit (pls:=pls) (zp2 ρ) (.cons (.agg p.pure) .nil) (.int _ _) (by
 have J:Plain (zdp pls tj) 55:=zej (fun _=>rfl) rfl;have Y:∀H,zdw Tryz.prog (zdp pls tj) 85 [.agg p.cells] H fun v H'=>v=.bool (jc p)/\H'=H:=fun H=>zeq (enc:=fv) (out:=fun p=>.bool (jc p)) qU (x:=p) rfl z;have o:∀H,zdw Tryz.prog (zdp pls tj) 86 [.agg p.cells] H fun v H'=>v=.bool (kz p)/\H'=H:=fun H=>zeq (enc:=fv) (out:=fun p=>.bool (kz p)) qU (x:=p) rfl z;have U:∀H,zdw Tryz.prog (zdp pls tj) 87 [.agg p.cells] H fun v H'=>v=.bool (lQ p)/\H'=H:=fun H=>zeq (enc:=fv) (out:=fun p=>.bool (lQ p)) qU (x:=p) rfl z;have A:∀H,zdw Tryz.prog (zdp pls tj) 88 [.agg p.cells] H fun v H'=>v=.int .i64 (rx p)/\H'=H:=fun H=>zeq (enc:=fv) (out:=fun p=>.int .i64 (rx p)) qU (x:=p) rfl z;rw[fv,<-ZN];refine zdv (M:=16) (rs:=[.tmp 2]) (J.call _) J.ice J.froz Tryz.func55 rfl rfl JJ.2 rfl ?_;dsimp only[JJ,zds,Nat.reduceAdd];repeat' (first
  |(apply zdk ?_;clear hK K)|apply Rx.o ?_|(apply iO ?_;first|refine Rx.k (Y _) ?_|refine Rx.k (o _) ?_|refine Rx.k (U _) ?_|refine Rx.k (A _) ?_)|(apply aS (fun Z V=>?_) (fun Z V=>?_)<;>try(cases Z;done))|apply ak ?_|(apply zdl fun K hK=>?_)|apply au ?_|apply zdm ?_|apply am ?_)
 all_goals
  all_goals (refine⟨eI,_,eR,?_⟩;try simp only[zdn])
  rw[Ch];(try simp only[fl]at *);simp only[ls,cC, *,kB,bT,cn,Int.reduceEq])
end
section
noncomputable def CE:En:=⟨55,true,b7 (fun p=>p.sz<2^36) fv fun p=>.int .i64 (nB p)⟩
theorem zp3(ρ:Nat->Int):yO Tryz.prog ρ CE:=zei fun p hp=>znE ρ p hp
theorem zbf(p:Pr):(fv p).any (jf 90)=false:=rfl
theorem zbg{l:List En}(F:∀C,zem l 55 C=(jS CE).sp C)(A:ir l 55=true){S:Nat->Prop}{n:Nat}{H:Hp}{cs:List AV}{p:Pr}(m:n<59)(O:zeF S n H cs p.cells)(z:p.sz<2^36):
 zdw Tryz.prog (zdp pls l) 55 [.agg cs] H fun v H'=>v=.int .i64 (nB p)/\Icy S H H':=by
 obtain⟨us,i,g⟩:=O;refine qQ (x:=p) (enc:=fv) (ok:=fun p=>p.sz<2^36) (out:=fun p=>.int .i64 (nB p)) (us:=[.agg us]) (n:=n+1) qU (fun C=>sk) A zbf z ac ⟨⟨us,i,rfl⟩,trivial⟩ ?_;show [AV.agg (us.map (bF 59))]=_;rw[g 59 ac];rfl
theorem zkf{P:Program}{t e:TypeId}{z b:Nat}{j:List AV}(g:P.underlying t=some (.slice e))(hs:zdB P e=some z)(L:zd6 P e=some b)(hz:zdZ P e=some j)(I:j.length=z)(Y:kG P t=true)
 {S S':Nat->Prop}{n:Nat}{H:Hp}{v:AV}{O:List (List AV)} (h:zeO S n H z v O) (K:∀k,k<H.next->S k->S' k) (hN:S' H.next) {r imm:Nat}{row:List AV} (hg:H.get r=some (.cells row imm true)) (hrow:row.length=z) (V:row.all AV.one=true)
 (A:(O.length+1)*b<=zeL) (M:O.length+1<=zeL) :
 ∃H' rows Z,zeV P false H t t v (.sl r 0 1 z)=some (.sl H.next 0 (O.length+1) z,H')/\rows.length=O.length/\(∀x∈rows,x.length=z)/\H'.get H.next=some (.cells (rows.flatten++row) Z true)/\Z<=rows.flatten.length/\H'.next=H.next+1/\(∀k,k<H.next->(∀o m z',v≠.sl k o m z')->H'.get k=H.get k) /\
  fK (fun k=>S' k/\k≠H.next) n H' z rows O:=by
 have hx:zfk H z (.sl r 0 1 z)=some (1,row):=by
  have:=mn (H:=H) (r:=r) (o:=0) (n:=1) (z:=z) (s:=z) hg GK;rw[this,dY,eJ ac]
 rcases h with⟨rfl,rfl⟩|⟨q,Z,rows,rfl,h1,h2,h3,h4,i⟩
 .exact⟨H.alloc (.cells row 0 true),[],0,append_nil g hs L hz Y hx V I oZ rZ,rfl,aB,by rw[zdq,az rfl];simp,cG _,rfl,fun k hk _=>fy,trivial⟩
 .have hrl:=xK (fK.len i);have U:rows.length=O.length:=zdW.len i;have C:gw false H z (.sl q 0 rows.length z)=H:=by
   unfold gw;simp only[h3,bC];have:Nat.blt (rows.length*z) rows.flatten.length=false:=by
    cases L:Nat.blt (rows.length*z) rows.flatten.length with
    |false=>rfl
    |true=>rw[gQ]at L;omega
   simp only[gX,dw,this,dZ]
  refine⟨(H.kill q).alloc (.cells (rows.flatten++row) (Z-0) true),rows,Z-0,?_,U,fK.len i,?_,ac,rfl,fun k hk J=>?_,?_⟩
  .simp only[zeV,g,hs,L,hz,Y,hx,V,C,I,mX,bT,zf5,h3,bC,dY,cC,cn];rw[az ⟨by rw[U];exact A,by rw[U];exact M,ac,trivial,h4⟩,U]
  .show((H.kill q).alloc _).get (H.kill q).next=_
   rw[zdq,az rfl]
  .rw[zdq,ai lL,zff,ai (fun e=>J 0 rows.length z lB)]
  .exact i.keep2 (fun k F h7=>⟨K k F h7.1,ac⟩) (fQ _) fun k F h7=>by rw[zdq,ai lL,zff,ai F.2]
theorem zeO.of{S:Nat->Prop}{n q z imm:Nat}{H:Hp}{rows o:List (List AV)}{row w:List AV}(hS:S q)(F:q<H.next)(Y:∀x∈rows,x.length=z)(V:row.length=z)(C:H.get q=some (.cells (rows.flatten++row) imm true))(A:imm<=rows.flatten.length)(hr:fK (fun k=>S k/\k≠q) n H z rows o)(J:zeF (fun k=>S k/\k≠q) n H row w):zeO S n H z (.sl q 0 (o.length+1) z) (o++[w]):=by
 have Z:rows.length=o.length:=zdW.len hr;exact .inr ⟨q,imm,rows++[row],by rw[ep,Z];rfl,hS,F,by rw[C];simp,by rw[List.flatten_append,ep];omega,hr.append ⟨⟨V,J⟩,trivial⟩⟩
theorem vD{P:Program}{t e:TypeId}{z b:Nat}{K:List AV}(C:P.underlying t=some (.slice e))(j:zdB P e=some z)(hb:zd6 P e=some b)(hz:zdZ P e=some K)(I:K.length=z)(Y:kG P t=true)
 {S S':Nat->Prop}{n:Nat}{H:Hp}{v:AV}{Z:List (List AV)} (h:zeO S n H z v Z) (O:∀k,k<H.next->S k->S' k) (J:S' H.next) {r imm:Nat}{row w:List AV} (hg:H.get r=some (.cells row imm true)) (V:row.length=z) (U:row.all AV.one=true)
 (hw:zeF (fun k=>S' k/\∀o m L,v≠.sl k o m L) n H row w) (A:(Z.length+1)*b<=zeL) (M:Z.length+1<=zeL) :
 ∃H',zeV P false H t t v (.sl r 0 1 z)=some (.sl H.next 0 (Z.length+1) z,H')/\zeO S' n H' z (.sl H.next 0 (Z.length+1) z) (Z++[w])/\H'.next=H.next+1/\(∀k,k<H.next->(∀o m L,v≠.sl k o m L)->H'.get k=H.get k):=by
 obtain⟨H',rows,F,a1,zeU,a3,a4,zeD,a6,a7,zgf⟩:=zkf (P:=P) C j hb hz I Y h O J hg V U A M;refine⟨H',a1,?_,a6,a7⟩;exact zeO.of J ac a3 V a4 zeD zgf (hw.keep2 (fun k i g=>⟨g.1,ac⟩) ac fun k i g=>a7 k g i.2)
def tyV7.tyF:=ad @cN (ad @b9 (ad @dA (ad @eO (ad @m8 (ad @m9 (ad @iq (ad @jL (ad @kQ (ad @na (ad @kj (ad @sw (ad @ko (ad @iM (ad @iN (ad @gF (@ng))))))))))))))))
open tyV7
noncomputable def JO:{c:SC // aC 43 (Tryz.f31.body.getD .skip)=c}:=by
 refine⟨?_,?_⟩;rotate_left
 .simp only[Tryz.f31,a5,aC,zdG,zdD,zdH,zdI,Nat.blt,Nat.ble];rfl
def fL(g:Gr):Fu:=⟨g.name,[],[],[],.mk 1 0 [] 0 []⟩
def gH(u:Un):Pr:=⟨u.arrays,u.funcs.map fL⟩
def fW(u:Un):Bool:=decide (nB (gH u)=0)&&u.funcs.all (em u)
structure UnOk (u:Un):Prop where
 a:u.arrays.length<2^30
 f:u.funcs.length<2^30
 g:∀g∈u.funcs,zeN g.nodes
 z:(gH u).sz<2^36
noncomputable def JP:En:=⟨63,false,b7 yC mH fun x=>.bool (em x.u x.g)⟩
theorem zyf(ρ:Nat->Int):yO Tryz.prog ρ JP:=zei fun x I=>Z6 ρ x I
noncomputable def vE:List En:=[jS CE,JP]
theorem zyg(ρ:Nat->Int):fk Tryz.prog ρ vE:=⟨qK (zp3 ρ),zyf ρ,trivial⟩
theorem zbk(s:List UInt8):zeI Tryz.prog 106 [(0,.str s),(4,.agg [.int .i64 1,.int .i64 0,.str [],.int .i64 0,.nilS])]=some (.agg [.str s,.nilS,.nilS,.nilS,.int .i64 1,.int .i64 0,.str [],.int .i64 0,.nilS]):=af
theorem zbl:zeI Tryz.prog 104 [(0,.int .i64 1)]=some (.agg [.int .i64 1,.int .i64 0,.str [],.int .i64 0,.nilS]):=af
theorem zbm(a:AV)(xs:List (List AV))(h:a=.lst xs):zeI Tryz.prog 64 [(0,a)]=some (.agg [a,.nilS]):=by subst h;kernel_rfl
theorem zbn(H:Hp)(s:List UInt8):zeP Tryz.prog H 62 1 [(0,.agg [.str s,.nilS,.nilS,.nilS,.int .i64 1,.int .i64 0,.str [],.int .i64 0,.nilS])]=some (.sl H.next 0 1 9,H.alloc (.cells [.str s,.nilS,.nilS,.nilS,.int .i64 1,.int .i64 0,.str [],.int .i64 0,.nilS] 0 true)):=af
theorem zyh{S:Nat->Prop}{H:Hp}(g:Gr):zeF S 2 H [.str g.name,.nilS,.nilS,.nilS,.int .i64 1,.int .i64 0,.str [],.int .i64 0,.nilS] (fL g).cells:=
 .cons (.str _) (.cons .nilS (.cons .nilS (.cons .nilS (.cons (.int _ _) (.cons (.int _ _) (.cons (.str _) (.cons (.int _ _) (.cons .nilS .nil))))))))
set_option maxRecDepth 100000 in
theorem znG(ρ:Nat->Int)(u:Un)(hu:UnOk u):bc Tryz.prog ρ 31 [.agg u.cells] (.bool (fW u)):=zer fit (pls:=pls) (zyg ρ) (.cons (.agg (sD _)) .nil) (.bool _) (by
 obtain⟨ha,hf,hg,hz⟩:=hu;have hw:Plain (zdp pls vE) 31:=zej (fun _=>rfl) rfl;have hkeep:(zdp pls vE).keep 31=false:=rfl;have bP:=zbm (.lst (u.arrays.map Ar.cells)) _ rfl;refine zdv (M:=43) (rs:=[.tmp 2]) (hw.call _) hw.ice hw.froz Tryz.func31 rfl rfl JO.2 rfl ?_;dsimp only[JO,zds,Nat.reduceAdd];repeat' (first
  |(apply zdk ?_;clear hK K)|apply Rx.o ?_|apply bp ?_|apply ak ?_|(apply zdl fun K hK=>?_)|apply au ?_|fail)
 refine zef [1,2,3,12,13] [0] 14 u.funcs.length (fun i E Z=>∃A,Z.get 1=some (.cells [.lst (u.arrays.map Ar.cells),A] 0 true)/\zeO (fun k=>2<=k) 2 Z 9 A (((u.funcs.map fL).take i).map Fu.cells)) eE ⟨.nilS,vi,.inl ⟨rfl,rfl⟩⟩ ?_;rintro i E Z hi C hrH U hsI ⟨A,g1,rf⟩;(try simp only[zdO,zdF,aX,zdy,zdJ,Nat.reduceBEq, *]at C);(try simp only[zdO,zdF,aX,zdy,zdJ,Nat.reduceBEq, *]at hrH);(try simp only[zdA,zdQ,zec,bC,Nat.reduceAdd]at U);have hB0:(0 == Z.next)=false:=zdC ac;have hC0:(Z.next == 0)=false:=zdC ac;have ni:2<=Z.next:=U
 obtain⟨hf1,hf2⟩:=rf.one;by_cases hlt:i<u.funcs.length
 .have hlt':(i:Int)<u.funcs.length:=by omega
  have hgx:u.funcs[i]?=some u.funcs[i]:=aR hlt;have htk:((u.funcs.map fL).take (i+1)).map Fu.cells=((u.funcs.map fL).take i).map Fu.cells++[(fL u.funcs[i]).cells]:=by
   rw[mS,dK,hgx,mc];rfl
  have Y:(((u.funcs.map fL).take i).map Fu.cells).length=i:=by rw[cE,iX,cE];omega
  generalize u.funcs[i]=g at *;have g1a:∀b c,((Z.alloc b).set Z.next c).get 1=some (.cells [.lst (u.arrays.map Ar.cells),A] 0 true):=fun b c=>by rw[aW,ai ac,zdq,ai ac];exact g1
  generalize hcells:((u.funcs.map fL).take i).map Fu.cells=fs at *;have gh0:=@zbl;have gh1:=@zbk;have gh2:=@zbn;repeat' (first
   |(apply zdk ?_;clear hK K)|apply Ry.o ?_|apply b4 ?_|(apply aD (fun z V=>?_) (fun z V=>?_)<;>try(cases z;done))|apply ak ?_|(apply zdl fun K hK=>?_)|apply au ?_|apply zdm ?_|fail)
  generalize O:Hp.alloc (Hp.set (Z.alloc _) _ _) _=Hb;have nb:Hb.next=Z.next+2:=by rw[<-O];rfl
  have L:∀k,k<Z.next->Hb.get k=Z.get k:=fun k J=>by rw[<-O,zdq,ai Cc,aW,ai ac,zdq,ai ac]
  have gr:Hb.get (Z.next+1)=some (.cells [.str g.name,.nilS,.nilS,.nilS,.int .i64 1,.int .i64 0,.str [],.int .i64 0,.nilS] 0 true):=by rw[<-O,zdq,az dj]
  clear O;have hfq:∀k,k<=1->∀o m z',A≠.sl k o m z':=fun k J o m z' e=>by
   rcases rf with⟨h1,_⟩|⟨q,im,rows,h1,h2,h3,_⟩
   .rw[h1]at e;cases e
   .rw[h1]at e;simp only[AV.sl.injEq]at e;omega
  obtain⟨H7,a7,zgg,n7,q7⟩:=vD (P:=Tryz.prog) (t:=62) Tryz.underlying62 AZ Fm Fo rfl af (S':=fun k=>2<=k)
   (rf.keep (S':=fun k=>2<=k) (H':=Hb) (fun _ _ h=>h) ac fun k _ J=>L k J) (fun _ _ h=>h) ac (r:=Z.next+1) (imm:=0) (row:=[.str g.name,.nilS,.nilS,.nilS,.int .i64 1,.int .i64 0,.str [],.int .i64 0,.nilS]) (w:=(fL g).cells) gr rfl rfl (zyh g)
   Jy Jy
  rw[Y]at a7 zgg;have g17:H7.get 1=some (.cells [.lst (u.arrays.map Ar.cells),A] 0 true):=by rw[q7 1 ac (hfq 1 ac),L 1 ac];exact g1
  have g07:H7.get 0=Z.get 0:=by rw[q7 0 ac (hfq 0 ac),L 0 ac]
  have n7':Z.next<=H7.next:=ac
  clear L gr q7 hfq nb;repeat' (first
   |(apply zdk ?_;clear hK K)|apply Rx.o ?_|apply bp ?_|(apply zdl fun K hK=>?_)|fail)
  refine⟨ac,zdz,zdz,eN,ti,?_⟩;refine⟨.sl Hb.next 0 (i+1) 9,vi,?_⟩;rw[htk];exact zgg.keep (fun _ _ h=>h) (aM _) fun k J _=>by rw[aW,ai ac]
 .have hlt':¬(i:Int)<u.funcs.length:=by omega
  have hti:(u.funcs.map fL).take i=u.funcs.map fL:=eJ (by rw[cE];omega);rw[hti]at rf;have hcw:zeF (fun k=>2<=k) 3 Z [.lst (u.arrays.map Ar.cells),A] (gH u).cells:=.cons (.flat ⟨.map fun x _=>x.pure,trivial⟩ fun m=>G7 (f:=Ar.cells) Ar.wk u.arrays m) (.cons rf.rd .nil);have ag:zd7 2 [.lst (u.arrays.map Ar.cells),A]=some (.agg [.lst (u.arrays.map Ar.cells),A]):=rfl;repeat' (first
   |(apply zdk ?_;clear hK K)|apply Ry.o ?_|(apply aD (fun z V=>?_) (fun z V=>?_)<;>try(cases z;done))|apply ak ?_|(apply zdl fun K hK=>?_)|apply zdr ?_)
  refine bh rfl bm bo ?_;simp only[bJ];refine a9 ?_ (zbg (l:=vE) (fun _=>rfl) rfl ac hcw hz);rintro v H4 ⟨rfl,hy⟩;have g04:H4.get 0=Z.get 0:=hy.out 0 ac;have n4:=hy.next
  clear hcw g1 rf;dsimp only[zdE];by_cases hc:nB (gH u)=0
  .have hU:fW u=u.funcs.all (em u):=by rw[fW,hc];rfl
   repeat' (first
    |(apply zdk ?_;clear hK K)|apply Ry.o ?_|(apply aD (fun z V=>?_) (fun z V=>?_)<;>try(cases z;done))|apply ak ?_|(apply zdl fun K hK=>?_)|apply au ?_|apply zdm ?_|fail)
   refine zef [1,32,33] [0] 34 u.funcs.length (fun j E Hj=>∀k,k<j->∀g,u.funcs[k]?=some g->em u g=true) eE (fun k J=>ac) ?_;rintro j E3 Hj hj C hrH U hsI hJ;(try simp only[zdO,zdF,aX,zdy,zdJ,Nat.reduceBEq, *]at C);(try simp only[zdO,zdF,aX, *]at hrH);(try simp only[zdA,zdQ,zec,bC,Nat.reduceAdd]at U);have hB0:(0 == Hj.next)=false:=zdC ac;have hC0:(Hj.next == 0)=false:=zdC ac;by_cases I:j<u.funcs.length
   .have hlt3':(j:Int)<u.funcs.length:=by omega
    have hgx:u.funcs[j]?=some u.funcs[j]:=aR I;have F:=dr I;have hgk:=hg _ F;generalize u.funcs[j]=g at *;have kv:∀H,zdw Tryz.prog (zdp pls vE) 63 [.agg u.cells,.agg g.cells] H fun v H'=>v=.bool (em u g)/\H'=H:=fun H=>zeq (enc:=mH) (ok:=yC) (out:=fun x=>.bool (em x.u x.g)) IW (x:=⟨u,g⟩) rfl ⟨hgk,ha,hf⟩;by_cases hv:em u g=true
    .repeat' (first
      |(apply zdk ?_;clear hK K)|apply Ry.o ?_|apply b4 ?_|(apply bL ?_;first|refine Rx.k (kv _) ?_)|(apply aD (fun z V=>?_) (fun z V=>?_)<;>try(cases z;done))|apply ak ?_|(apply zdl fun K hK=>?_)|apply au ?_|apply zdm ?_|fail)
     refine⟨ac,zdz,zdz,eN,ti,?_⟩;intro k J g' hg';by_cases e:k=j
     .subst e;rw[hgx]at hg';cases hg';exact hv
     .exact hJ k ac g' hg'
    .have hv':em u g=false:=by simpa using hv
     have hR:u.funcs.all (em u)=false:=by
      rw[Ce];exact⟨g,F,hv⟩
     rw[hR]at hU;clear hJ hR;repeat' (first
      |(apply zdk ?_;clear hK K)|apply Ry.o ?_|apply b4 ?_|(apply bL ?_;first|refine Rx.k (kv _) ?_)|(apply aD (fun z V=>?_) (fun z V=>?_)<;>try(cases z;done))|apply ak ?_|(apply zdl fun K hK=>?_)|apply au ?_|apply zdm ?_|apply am ?_|fail)
     all_goals (refine⟨eI,_,eR,?_⟩;try simp only[zdn])
     rw[hU]
   .have hlt3':¬(j:Int)<u.funcs.length:=by omega
    have hR:u.funcs.all (em u)=true:=gS.2 fun g hm=>by
     obtain⟨k,J,e⟩:=o0 hm;exact hJ k ac g (by rw[aR J,e])
    rw[hR]at hU;clear hJ hR;repeat' (first
     |(apply zdk ?_;clear hK K)|apply Ry.o ?_|(apply aD (fun z V=>?_) (fun z V=>?_)<;>try(cases z;done))|apply ak ?_|(apply zdl fun K hK=>?_)|apply am ?_|apply zdr ?_)
    all_goals (refine⟨eI,_,eR,?_⟩;try simp only[zdn])
    rw[hU]
  .have hU:fW u=false:=by rw[fW,cX hc];rfl
   repeat' (first
    |(apply zdk ?_;clear hK K)|apply Ry.o ?_|(apply aD (fun z V=>?_) (fun z V=>?_)<;>try(cases z;done))|apply ak ?_|(apply zdl fun K hK=>?_)|apply am ?_|fail)
   all_goals (refine⟨eI,_,eR,?_⟩;try simp only[zdn])
   rw[hU])
noncomputable def JQ:En:=⟨31,true,b7 UnOk (fun u=>[.agg u.cells]) fun u=>.bool (fW u)⟩
theorem zyi(ρ:Nat->Int):yO Tryz.prog ρ JQ:=zei fun u K=>znG ρ u K
end
section
namespace tyW6h
end tyW6h
open tyW6h
theorem vF(a b:AV):zd7 2 [a,b]=some (.agg [a,b]):=rfl
end
section
def eG(o:Oc):AV:=.agg [.int .i64 o.kind,.int .i64 o.code,zfN o.out,.int .i64 o.value]
def tyEvJ.tyF:=ad @cN (ad @b9 (ad @dA (ad @eV (ad @eO (ad @m8 (ad @m9 (ad @iq (ad @jL (ad @lJ (ad @AW (ad @kQ (ad @su (ad @pj (ad @xm (ad @qw (ad @sy (@vF)))))))))))))))))
open tyEvJ
noncomputable def JR:{c:SC // aC 131 (Tryz.f14.body.getD .skip)=c}:=by
 refine⟨?_,?_⟩;rotate_left
 .simp only[Tryz.f14,a5,aC,zdG,zdD,zdH,zdI,Nat.blt,Nat.ble];rfl
theorem znH{f:FuncId}(h:yb f=true):f=149\/f=150\/f=102\/f=104\/f=151\/f=184\/f=153\/f=103\/f=65\/f=36\/f=34\/f=33\/f=35:=by
 simp only[yb,oc]at h;rcases h with(((((((((((h|h)|h)|h)|h)|h)|h)|h)|h)|h)|h)|h)|h<;>have e:=gP h<;>subst e<;>simp
noncomputable def JS:En:=⟨32,false,b7 Flat9 jg fun l=>zgi l.length⟩
theorem ztL(ρ:Nat->Int):yO Tryz.prog ρ JS:=zei fun l F=>Zn ρ l F
noncomputable def oM:List En:=[JQ,JS,BO,BP]
theorem ztM(ρ:Nat->Int):fk Tryz.prog ρ oM:=⟨zyi ρ,ztL ρ,YT ρ,YU ρ,trivial⟩
theorem yL:EvT oM:=⟨fun f m=>by rcases znH m with rfl|rfl|rfl|rfl|rfl|rfl|rfl|rfl|rfl|rfl|rfl|rfl|rfl<;>exact⟨fun _=>rfl,rfl⟩,fun _=>rfl,fun _=>rfl⟩
def kE(H:Hp)(v:AV)(vs:List AV):Prop:=(vs=[]/\v=.nilS)\/∃q,v=.sl q 0 vs.length 1/\q<H.next/\H.get q=some (.cells vs 0 true)
theorem kE.one{H:Hp}{v:AV}{vs:List AV}(h:kE H v vs):AV.one v=true/\v.cells=[v]:=by
 rcases h with⟨_,rfl⟩|⟨q,rfl,_⟩<;>exact⟨rfl,rfl⟩
theorem kE.not{H:Hp}{v:AV}{vs:List AV}(h:kE H v vs){p:Nat}(Y:H.next<=p):∀o m z,v≠.sl p o m z:=fun o m z e=>by
 rcases h with⟨_,rfl⟩|⟨q,rfl,g,_⟩
 .cases e
 .simp only[AV.sl.injEq]at e;omega
theorem kE.keep{H H':Hp}{v:AV}{vs:List AV}(h:kE H v vs)(Y:H.next<=H'.next)(C:∀p,p<H.next->(∃o m z,v=.sl p o m z)->H'.get p=H.get p):kE H' v vs:=by
 rcases h with h|⟨q,rfl,g,Z⟩
 .exact .inl h
 .exact .inr ⟨q,rfl,ac,by rw[C q g ⟨_,_,_,rfl⟩];exact Z⟩
theorem kE.push{P:Program}{t e b:Nat}{O:List AV}(M:P.underlying t=some (.slice e))(K:zdB P e=some 1)(L:zd6 P e=some b)(J:zdZ P e=some O)(I:O.length=1)(Z:kG P t=true){H:Hp}{v:AV}{vs:List AV}(h:kE H v vs){r:Nat}{x:AV}(hr:H.get r=some (.cells [x] 0 true))(U:AV.one x=true)(A:(vs.length+1)*b<=zeL)(Y:vs.length+1<=zeL):
 ∃g,zeV P false H t t v (.sl r 0 1 1)=some (.sl H.next 0 (vs.length+1) 1,g)/\kE g (.sl H.next 0 (vs.length+1) 1) (vs++[x])/\H.next+1<=g.next/\∀p,p<H.next->(∀o m z,v≠.sl p o m z)->g.get p=H.get p:=by
 have F:zfk H 1 (.sl r 0 1 1)=some (0+1,[x]):=by
  have:=mn (H:=H) (r:=r) (o:=0) (n:=1) (z:=1) (s:=1) hr aB;rw[this];rfl
 have i:[x].all AV.one=true:=by rw[ox,U];rfl
 rcases h with⟨rfl,rfl⟩|⟨q,rfl,j,C⟩
 .refine⟨H.alloc (.cells [x] 0 true),append_nil M K L J Z F i I oZ (by simpa using Y),.inr ⟨H.next,rfl,cP _,hC⟩,aM _,fun p hp _=>fy⟩
 .refine⟨(H.kill q).alloc (.cells (vs++[x]) 0 true),AF M K L J Z F i I C ac oZ (by simpa using Y),.inr ⟨H.next,by rw[ep];rfl,by rw[zdA,zfY];omega,?_⟩,by rw[zdA,zfY];omega,fun p hp V=>?_⟩
  .show((H.kill q).alloc _).get (H.kill q).next=_
   rw[zdq,az rfl]
  .rw[zdq,ai (by rw[zfY];omega),zff,ai (fun e=>V 0 vs.length 1 lB)]
structure RunX where
 u:Un
 name:List UInt8
 args:List Int
 fuel:Int
def oN(x:RunX):List AV:=[.agg x.u.cells,.str x.name,zfN x.args,.int .i64 x.fuel]
structure RunTo9 (x:RunX) (o:Oc):Prop where
 uok:UnOk x.u
 valid:fW x.u=true
 f0:0<=x.fuel
 f1:x.fuel<=1000
 flat:∀g∈x.u.funcs,Flat9 g.nodes
 fn:∃(f:Nat) (g:Gr) (n m:Nat),sj x.name x.args.length x.u.funcs 0 (-1)=(f:Int)/\x.u.funcs[f]?=some g/\xe n m g (EM x.u.arrays x.fuel) x.args=some o
 arr:∀a∈x.u.arrays,0<=a.len/\a.len<2^20
 args:x.args.length<2^30
 out:o.out.length<2^30
theorem bSt(f:Int):zeI Tryz.prog 79 [(2,.int .i64 f)]=some (.agg [.nilS,.nilP,.int .i64 f,.int .i64 0,.int .i64 0,.int .i64 0]):=af
theorem bOc(k:Int)(q n:Nat):zeI Tryz.prog 35 [(0,.int .i64 k),(2,.sl q 0 n 1)]=some (.agg [.int .i64 k,.int .i64 0,.sl q 0 n 1,.int .i64 0]):=af
theorem zbv(H:Hp)(xs:List (List AV)):zeP Tryz.prog H 73 1 [(0,.lst xs)]=some (.sl H.next 0 1 1,H.alloc (.cells [.lst xs] 0 true)):=af
theorem zbw(H:Hp)(q n:Nat):zeP Tryz.prog H 58 1 [(0,.sl q 0 n 1)]=some (.sl H.next 0 1 1,H.alloc (.cells [.sl q 0 n 1] 0 true)):=af
theorem JT(s:S9)(v:Int):(lH s v).out=s.out.reverse:=by
 unfold lH;split
 .rfl
 .split<;>rfl
theorem CF{H:Hp}{q:Nat}(k c v:Int)(l:List Int)(F:q<H.next)(Z:H.get q=some (.cells (zew l) 0 true)):∃m u,iceV H m (.agg [.int .i64 k,.int .i64 c,.sl q 0 l.length 1,.int .i64 v])=some u/\bF 60 u=eG ⟨k,c,l,v⟩:=by
 have h:zeF (fun _=>True) 2 H [.int .i64 k,.int .i64 c,.sl q 0 l.length 1,.int .i64 v] [.int .i64 k,.int .i64 c,zfN l,.int .i64 v]:=.cons (.int _ _) (.cons (.int _ _) (.cons (oH l trivial F Z (cG _)) (.cons (.int _ _) .nil)));obtain⟨C,i,g⟩:=h;have o:zee (fun _=>True) 100 H (.agg [.int .i64 k,.int .i64 c,.sl q 0 l.length 1,.int .i64 v]) (.agg C):=zee.up (n:=2+1) ⟨C,i,rfl⟩ ac;obtain⟨K,M⟩:=zee.iceV o;refine⟨K,.agg C,M K (aM _),?_⟩;show AV.agg (C.map (bF 59))=_;rw[g 59 ac];rfl
set_option maxRecDepth 100000 in
theorem zp4(ρ:Nat->Int)(x:RunX)(o:Oc)(h:RunTo9 x o):bc Tryz.prog ρ 14 (oN x) (eG o):=
 YD (n:=60) (cfg:=zdp pls oM) fit (lE ρ) (fun g args r hg=>fk.look (l:=oM) (ztM ρ) g args r hg) (.cons (.agg (sD _)) (.cons (.str _) (.cons (x8 _) (.cons (.int _ _) .nil)))) (by
 obtain⟨u,name,args,L⟩:=x;obtain⟨huok,hval,f0,f1,hflat,⟨f,g,n,m,hfind,hgf,hent⟩,harr,hargs,hout⟩:=h;simp only at huok hval f0 f1 hflat hfind hgf hent harr hargs;have hw:Plain (zdp pls oM) 14:=zej (fun _=>rfl) rfl;have hkeep:(zdp pls oM).keep 14=false:=rfl;have np:∀E:ax,zdo E (.const (.pointer none))=some .nilP:=fun _=>rfl;have kiv:∀H,zdw Tryz.prog (zdp pls oM) 31 [.agg u.cells] H fun v H'=>v=.bool true/\H'=H:=fun H=>by
  have:zdw Tryz.prog (zdp pls oM) 31 [.agg u.cells] H fun v H'=>v=.bool (fW u)/\H'=H:=zeq (enc:=fun u:Un=>[.agg u.cells]) (ok:=UnOk) (out:=fun u=>.bool (fW u)) (fun x y h=>Un.inj ja) (x:=u) rfl huok;rw[hval]at this;exact this
 have kld:∀l,Flat9 l->∀H,zdw Tryz.prog (zdp pls oM) 32 [zeu l] H fun v H'=>v=.lst ((List.replicate l.length 0).map fun(m:Nat)=>[AV.int .u32 (m:Int)])/\H'=H:=fun l hl H=>zeq (enc:=jg) (ok:=Flat9) (out:=fun l=>zgi l.length) qS (x:=l) rfl hl;have eu:u.cells=[.lst (u.arrays.map Ar.cells),.lst (u.funcs.map Gr.cells)]:=rfl;have vF:∀a b:AV,zd7 2 [a,b]=some (.agg [a,b]):=fun _ _=>rfl;have hul:=huok.f;have hua:=huok.a;have hf0':¬L<0:=ac;have hf1':¬(1000:Int)<L:=ac;rw[eu]at kiv;show zdw _ _ _ [.agg u.cells,.str name,.lst (args.map fun n=>[AV.int .i64 n]),.int .i64 L] _ _;rw[eu];refine zdv (M:=131) (rs:=[.cell 8 35]) (hw.call _) hw.ice hw.froz Tryz.func14 rfl rfl JR.2 rfl ?_;dsimp only[JR,zds,Nat.reduceAdd];repeat' (first
  |(apply zdk ?_;clear hK K)|apply Ry.o ?_|(apply bL ?_;first|refine Rx.k (kiv _) ?_)|(apply a2 (fun hg F=>?_) (fun hg F=>?_)<;>try(cases hg;done))|(apply aD (fun Y V=>?_) (fun Y V=>?_)<;>try(cases Y;done))|apply ak ?_|(apply zdl fun K hK=>?_)|apply au ?_|apply zdm ?_|fail)
 refine zef [1,2,3,4,8,31,32] [0,1] 33 u.funcs.length (fun i E H=>∃hv fi vs,E.at 9=.int .i64 fi/\E.at 10=hv/\sj name args.length (u.funcs.drop i) i fi=sj name args.length u.funcs 0 (-1)/\vs.length=i/\kE H hv vs/\∀q,q<2->∀o m z,hv≠.sl q o m z) eE ⟨.nilS,-1,[],eE,eE,aB,rfl,.inl ⟨rfl,rfl⟩,fun _ _ _ _ _ e=>by cases e⟩ ?_;rintro i E Z hi hcE hrH hnH hsI ⟨hv,fi,vs,k9,k10,hJ,hvs,hown,hno⟩;(try simp only[zdO,zdF,aX,zdy,zdJ,Nat.reduceBEq, *]at hcE);(try simp only[zdO,zdF,aX,zdy,zdJ,Nat.reduceBEq, *]at hrH);(try simp only[zdA,zec,bC,Nat.reduceAdd]at hnH);have hB0:(0 == Z.next)=false:=zdC ac;have hC0:(Z.next == 0)=false:=zdC ac;have hB1:(1 == Z.next)=false:=zdC ac;have hC1:(Z.next == 1)=false:=zdC ac;have n2:2<=Z.next:=hnH
 obtain⟨o1,o2⟩:=hown.one;by_cases hlt:i<u.funcs.length
 .have hlt':(i:Int)<u.funcs.length:=by omega
  have hgx:u.funcs[i]?=some u.funcs[i]:=aR hlt;have hfl:=hflat _ (dr hlt);rw[fq hlt,sj]at hJ;generalize u.funcs[i]=q at *;obtain⟨nm,pa,ns,va,st⟩:=q;simp only at hfl hJ;have hgc:(Gr.mk nm pa ns va st).cells=[.str nm,.int .i64 pa,zeu ns,.int .i64 va,.int .i64 st]:=rfl;have agg5':∀a b c d e:AV,zd7 5 [a,b,c,d,e]=some (.agg [a,b,c,d,e]):=fun _ _ _ _ _=>rfl;have kl:=kld ns hfl;have hbd:=fun H=>zbv H ((List.replicate ns.length 0).map fun(m:Nat)=>[AV.int .u32 (m:Int)]);repeat' (first
   |(apply zdk ?_;clear hK K)|apply Ry.o ?_|apply b4 ?_|(apply bL ?_;first|refine Rx.k (kl _) ?_)|(apply aD (fun Y V=>?_) (fun Y V=>?_)<;>try(cases Y;done))|apply ak ?_|(apply zdl fun K hK=>?_)|apply au ?_|apply zdm ?_|fail)
  generalize U:Hp.alloc (Hp.set (Z.alloc _) _ _) _=Hb;have nb:Z.next+2<=Hb.next:=u3
  have kb:∀r,r<Z.next->Hb.get r=Z.get r:=fun r hr=>by
   rw[<-U];simp only[aW,zdq,zdQ,zdA,ai (show ¬r=Z.next by omega),ai (show ¬r=Z.next+1 by omega)]
  have gb:Hb.get Z.next=some (.cells [.str nm,.int .i64 pa,zeu ns,.int .i64 va,.int .i64 st] 0 true):=by
   rw[<-U];simp only[aW,zdq,zdQ,zdA,ai (show ¬Z.next=Z.next+1 by omega),bT]
  have gr:Hb.get (Z.next+1)=some (.cells [.lst ((List.replicate ns.length 0).map fun(m:Nat)=>[AV.int .u32 (m:Int)])] 0 true):=by rw[<-U,zdq,az dj]
  clear U;have hownb:=hown.keep (H':=Hb) ac fun p hp _=>kb p hp;obtain⟨I,ap,C,n5,zfi⟩:=kE.push (P:=Tryz.prog) (t:=73) Tryz.underlying73 Ff Fg Fh rfl af hownb gr rfl nz nz;have kp:∀p,p<2->I.get p=Z.get p:=fun p hp=>by rw[zfi p ac (hno p hp),kb p ac]
  have g50:=kp 0 ac;have g51:=kp 1 ac;have g5n:I.get Z.next=some (.cells [.str nm,.int .i64 pa,zeu ns,.int .i64 va,.int .i64 st] 0 true):=by rw[zfi _ ac (hown.not (aM _))];exact gb
  have n5':Z.next+2<=I.next:=ac
  have hno5:∀q,q<2->∀o m z,AV.sl Hb.next 0 (vs.length+1) 1≠.sl q o m z:=fun q hq o m z e=>by
   simp only[AV.sl.injEq]at e;omega
  by_cases e1:nm=name
  .subst e1;by_cases e2:pa=(args.length:Int)
   .subst e2;rw[az ⟨rfl,rfl⟩]at hJ;repeat' (first
     |(apply zdk ?_;clear hK K)|apply Ry.o ?_|(apply a2 (fun hg F=>?_) (fun hg F=>?_)<;>try(cases hg;done))|(apply aD (fun Y V=>?_) (fun Y V=>?_)<;>try(cases Y;done))|apply ak ?_|(apply zdl fun K hK=>?_)|fail)
    refine⟨ac,zdz,zdz,eN,ti,?_⟩;exact⟨_,(i:Int),vs++[_],eE,eE,hJ,Cz,C,hno5⟩
   .rw[ai (fun c=>e2 c.2)]at hJ;repeat' (first
     |(apply zdk ?_;clear hK K)|apply Ry.o ?_|(apply a2 (fun hg F=>?_) (fun hg F=>?_)<;>try(cases hg;done))|(apply aD (fun Y V=>?_) (fun Y V=>?_)<;>try(cases Y;done))|apply ak ?_|(apply zdl fun K hK=>?_)|apply zdm ?_|fail)
    refine⟨ac,zdz,zdz,eN,ti,?_⟩;exact⟨_,fi,vs++[_],eE,eE,hJ,Cz,C,hno5⟩
  .rw[ai (fun c=>e1 c.1)]at hJ;repeat' (first
    |(apply zdk ?_;clear hK K)|apply Ry.o ?_|(apply a2 (fun hg F=>?_) (fun hg F=>?_)<;>try(cases hg;done))|(apply aD (fun Y V=>?_) (fun Y V=>?_)<;>try(cases Y;done))|apply ak ?_|(apply zdl fun K hK=>?_)|apply zdm ?_|fail)
   refine⟨ac,zdz,zdz,eN,ti,?_⟩;exact⟨_,fi,vs++[_],eE,eE,hJ,Cz,C,hno5⟩
 .have hlt':¬(i:Int)<u.funcs.length:=by omega
  rw[oA ac,sj,hfind]at hJ;subst hJ;have hff:f<u.funcs.length:=(de.1 hgf).1;obtain⟨hq,rfl,hqlt,hqg⟩:∃q,hv=.sl q 0 vs.length 1/\q<Z.next/\Z.get q=some (.cells vs 0 true):=by
   rcases hown with⟨rfl,_⟩|h
   .simp at hvs;omega
   .exact h
  have hfneg:¬(f:Int)<0:=ac;have bst:=bSt L;repeat' (first
   |(apply zdk ?_;clear hK K)|apply Ry.o ?_|(apply aD (fun Y V=>?_) (fun Y V=>?_)<;>try(cases Y;done))|apply ak ?_|(apply zdl fun K hK=>?_)|apply au ?_|apply zdm ?_|apply zdr ?_)
  refine zef [2,4,8,9,10,13,64,65] [0,1] 66 u.arrays.length (fun j E H=>∃cv A,H.get Z.next=some (.cells [cv,.nilP,.int .i64 L,.int .i64 0,.int .i64 0,.int .i64 0] 0 true)/\kE H cv A/\zdW (nC (fun q=>Z.next<q/\∀o m z,cv≠.sl q o m z) H) A ((u.arrays.take j).map fun a=>List.replicate a.len.toNat 0)/\(∀q,q<=Z.next->∀o m z,cv≠.sl q o m z)/\Z.next<H.next) eE ⟨.nilS,[],gO,.inl ⟨rfl,rfl⟩,trivial,(fun _ _ _ _ _ e=>by cases e),cP _⟩ ?_;rintro j E3 J hj hcE hrH hnH hsI ⟨cv,A,g3,own3,al3,no3,n3⟩;(try simp only[zdO,zdF,aX,zdy,zdJ,Nat.reduceBEq, *]at hcE);(try simp only[zdO,zdF,aX,zdy,zdJ, *]at hrH);(try simp only[zdA,]at hnH);have hB0:(0 == J.next)=false:=zdC ac;have hC0:(J.next == 0)=false:=zdC ac;have hB1:(1 == J.next)=false:=zdC ac;have hC1:(J.next == 1)=false:=zdC ac;obtain⟨p1,p2⟩:=own3.one;have hv2:A.length=j:=by
   have:=zdW.len al3;rw[cE,iX]at this;omega
  by_cases hjt:j<u.arrays.length
  .have hjt':(j:Int)<u.arrays.length:=by omega
   have hgy:u.arrays[j]?=some u.arrays[j]:=aR hjt;obtain⟨a0,a1⟩:=harr _ (dr hjt);have htk:u.arrays.take (j+1)=u.arrays.take j++[u.arrays[j]]:=by rw[mS,hgy];rfl
   generalize u.arrays[j]=y at *;obtain⟨anm,al⟩:=y;simp only at a0 a1;obtain⟨k,rfl⟩:∃k:Nat,al=k:=⟨al.toNat,ac⟩;have hac:(Ar.mk anm (k:Int)).cells=[.str anm,.int .i64 (k:Int)]:=rfl;have hmk:=fun H:Hp=>HW (H:=H) k ac;have hbc:=fun H q=>zbw H q k;have y1:(Z.next == J.next)=false:=zdC ac;have y2:(Z.next == J.next+1)=false:=zdC ac;have y3:(Z.next == J.next+2)=false:=zdC ac;have y4:(J.next == J.next+1)=false:=zdC ac;have y5:(J.next == J.next+2)=false:=zdC ac;repeat' (first
    |(apply zdk ?_;clear hK K)|apply Ry.o ?_|apply b4 ?_|(apply aD (fun Y V=>?_) (fun Y V=>?_)<;>try(cases Y;done))|apply ak ?_|(apply zdl fun K hK=>?_)|(apply zdL 18 [(4,9),(6,9),(7,9),(8,9)] fun K hK=>?_)|(apply zdK ?_;try intro _)|apply bl ?_|apply au ?_|apply zdm ?_|fail)
   generalize U:Hp.alloc (Hp.alloc (Hp.set (J.alloc _) _ _) _) _=Hb;have nb:J.next+3<=Hb.next:=u3
   have kb:∀r,r<J.next->Hb.get r=J.get r:=fun r hr=>by
    rw[<-U];simp only[aW,zdq,zdQ,zdA,ai (show ¬r=J.next by omega),ai (show ¬r=J.next+1 by omega),ai (show ¬r=J.next+1+1 by omega)]
   have gy:Hb.get J.next=some (.cells [.str anm,.int .i64 (k:Int)] 0 true):=by
    rw[<-U];simp only[aW,zdq,zdQ,zdA,ai (show ¬J.next=J.next+1 by omega),ai (show ¬J.next=J.next+1+1 by omega),bT]
   have gi:Hb.get (J.next+1)=some (.cells (zew (List.replicate k 0)) 0 true):=by
    rw[<-U];simp only[aW,zdq,zdQ,zdA,ai (show ¬J.next+1=J.next+1+1 by omega),bT]
   have gr:Hb.get (J.next+2)=some (.cells [.sl (J.next+1) 0 k 1] 0 true):=by rw[<-U,zdq,az dj]
   clear U;have g3b:=(kb Z.next n3).trans g3;obtain⟨I,ap,C,n5,zfi⟩:=kE.push (P:=Tryz.prog) (t:=58) Tryz.underlying58 uH AT AU rfl af (own3.keep (H':=Hb) ac fun p hp _=>kb p hp) gr rfl nz nz;have g35:I.get Z.next=some (.cells [cv,.nilP,.int .i64 L,.int .i64 0,.int .i64 0,.int .i64 0] 0 true):=by rw[zfi _ ac (no3 _ (aM _))];exact g3b
   have nof:∀p,J.next<=p->∀o m z,cv≠.sl p o m z:=fun p hp=>own3.not hp
   have gy5:I.get J.next=some (.cells [.str anm,.int .i64 (k:Int)] 0 true):=by rw[zfi _ ac (nof _ (aM _))];exact gy
   have gi5:I.get (J.next+1)=some (.cells (zew (List.replicate k 0)) 0 true):=by rw[zfi _ ac (nof _ ac)];exact gi
   have gr5:I.get (J.next+2)=some (.cells [.sl (J.next+1) 0 k 1] 0 true):=by rw[zfi _ ac (nof _ ac)];exact gr
   have n5':J.next+3<=I.next:=ac
   have n5b:Hb.next<=I.next:=ac
   repeat' (first
    |(apply zdk ?_;clear hK K)|apply Rx.o ?_|apply bp ?_|(apply zdl fun K hK=>?_)|(apply zdK ?_;try intro _)|(apply zdM ?_ ?_<;>clear hK K)|apply bl ?_|apply zfJ rfl ?_|fail)
   .exact zdR
   generalize hH6:Hp.set I _ _=H6;have n6:I.next<=H6.next:=by rw[<-hH6];exact aM _
   have zf0:∀r,r≠Z.next->H6.get r=I.get r:=fun r hr=>by rw[<-hH6,aW,ai hr]
   have g6:H6.get Z.next=some (.cells [.sl Hb.next 0 (A.length+1) 1,.nilP,.int .i64 L,.int .i64 0,.int .i64 0,.int .i64 0] 0 true):=by rw[<-hH6,aW,az rfl,hv2]
   clear hH6;have kk:∀r,r<J.next->r≠Z.next->(∀o m z,cv≠.sl r o m z)->H6.get r=J.get r:=fun r h1 h2 h3=>by rw[zf0 r h2,zfi r ac h3,kb r h1]
   have g60:=kk 0 ac ac (no3 0 ac);have g61:=kk 1 ac ac (no3 1 ac);refine⟨ac,zdz,zdz,eN,Jz,?_⟩;refine⟨_,A++[.sl (J.next+1) 0 k 1],g6,C.keep n6 (fun p _ hp=>zf0 p fun e=>?_),?_,fun q hq o m z e=>?_,ac⟩
   .obtain⟨o,m,z,e2⟩:=hp;simp only[AV.sl.injEq]at e2;omega
   .rw[htk,mc];refine zdW.append (al3.mono fun a b hab=>?_) ⟨⟨J.next+1,0,aB,⟨ac,fun o m z e=>by simp only[AV.sl.injEq]at e;omega⟩,ac,?_,cf⟩,trivial⟩
    .obtain⟨q,im,e,⟨h1,h2⟩,h3,h4,h5⟩:=hab;exact⟨q,im,e,⟨h1,fun o m z e=>by simp only[AV.sl.injEq]at e;omega⟩,ac,by rw[kk q h3 ac h2];exact h4,h5⟩
    .rw[zf0 _ ac];simpa using gi5
   .simp only[AV.sl.injEq]at e;omega
  .have hjt':¬(j:Int)<u.arrays.length:=by omega
   rw[eJ ac]at al3;have hst:fU (fun _=>True) J (.ptr Z.next 0) (EM u.arrays L):=by
    refine⟨Z.next,cv,.nilP,rfl,trivial,n3,g3,?_,rfl⟩;rcases own3 with⟨rfl,rfl⟩|⟨q,rfl,h2,h3⟩
    .have e:u.arrays=[]:=by
      have:=zdW.len al3;exact Bk (by rw[cE]at this;exact this.symm)
     exact .inl ⟨by show u.arrays.map _=[];rw[e];rfl,rfl⟩
    .exact .inr ⟨q,0,A,rfl,trivial,h2,h3,ac,al3.mono fun a b hab=>hab.sub fun _ _ _=>trivial⟩
   have hfl:=hflat g (i5 hgf);have hent2:=Zt yL hgf (by have:=hfl.ok.1;omega) (a:=hq) (b:=0) (cc:=i) (d:=1) (args:=args) hst;rw[eu]at hent2;unfold zfN at hent2;have hgc:g.cells=[.str g.name,.int .i64 g.params,.lst (g.nodes.map Nd.cells),.int .i64 g.value,.int .i64 g.state]:=rfl;repeat' (first
    |(apply zdk ?_;clear hK K)|apply Ry.o ?_|(apply aD (fun Y V=>?_) (fun Y V=>?_)<;>try(cases Y;done))|apply ak ?_|(apply zdl fun K hK=>?_)|apply zdr ?_)
   refine bh rfl bm bo ?_;simp only[bJ];refine a9 ?_ hent2;rintro v H4 ⟨xp,rp,rfl,hxp,hrp,hok,hF4,E4⟩;dsimp only[zdE];have g03:J.get 0=some (.cells [.lst (u.arrays.map Ar.cells),.lst (u.funcs.map Gr.cells)] 0 true):=by first|assumption|simp only[*]
   have g13:J.get 1=some (.cells [.int .i64 0,.int .i64 0,.nilS,.int .i64 0] 0 true):=by first|assumption|simp only[*]
   have n34:=E4.next
   have g04:=(E4.get 0 trivial ac).trans g03;have g14:=(E4.get 1 trivial ac).trans g13;have hkk:∀nd∈g.nodes,nd.kids.length<2^30:=hfl.ok.2;obtain⟨res,q1,q2⟩:=cm.1 hent;obtain⟨r,q3,q4⟩:=cm.1 q2;obtain⟨s,q5,q6⟩:=cm.1 q4;clear q2 q4 hent;repeat' (first
    |(apply zdk ?_;clear hK K)|apply Ry.o ?_|apply ak ?_|(apply zdl fun K hK=>?_)|fail)
   refine bh rfl bm bo ?_;simp only[bJ];refine a9 ?_ (Zw yL hok hkk hF4 q1 q3);rintro v I ⟨ho5,rows5,hF5,n45,fr5⟩;dsimp only[zdE];rw[q5]at ho5;obtain⟨p,cv5,ov5,rfl,hp5⟩:=(ho5:fU _ I v s);have gp5:=hp5.get;have g05:=(fr5 0 ac (by show 0≠rp;omega)).trans g04;have g15:=(fr5 1 ac (by show 1≠rp;omega)).trans g14;have hout5:s.out.length<2^30:=by
    have e:o.out=s.out.reverse:=by
     split at q6
     .obtain⟨res2,_,q8⟩:=cm.1 q6;obtain⟨t,_,q9⟩:=cm.1 q8;rw[aA]at q9;rw[<-q9,JT]
     .rw[aA]at q6;rw[<-q6,JT]
    rw[e,qZ]at hout;exact hout
   have EA:Ext9 (fun _=>True) I (I.alloc (.cells [.int .i64 0,.int .i64 0,.nilS,.int .i64 0] 0 true)):=⟨fQ _,fun r _ hr=>fy⟩;have kvl:=Zs yL (hp5.out.keep (EA.sub fun _ _ _=>trivial)) hout5;have y6:(p == I.next)=false:=zdC (by have:=hp5.lt;omega);repeat' (first
    |(apply zdk ?_;clear hK K)|apply Ry.o ?_|apply ak ?_|(apply Rx.dP 22 [0,1,2,3,4,5,6,7,10,8,9,11] [(3,9),(3,11),(7,9),(8,9),(8,11)] fun K hK=>?_)|(apply zdK ?_;try intro _)|apply bl ?_|fail)
   refine bh rfl bm bo ?_;simp only[dS];refine a9 ?_ kvl;rintro v H6 ⟨rfl,n56,g6,fr6⟩;rw[zdA]at n56 g6 fr6;dsimp only[zdE];have plt:=hp5.lt;have gp6:=(fr6 p ac).trans ((EA.get p trivial plt).trans gp5);have g06:=(fr6 0 ac).trans ((EA.get 0 trivial ac).trans g05);have g16:=(fr6 1 ac).trans ((EA.get 1 trivial ac).trans g15);have gt6:H6.get I.next=some (.cells [.int .i64 0,.int .i64 0,.nilS,.int .i64 0] 0 true):=(fr6 _ ac).trans gO
   have boc:=bOc s.ed (I.next+1) s.out.length;have agg4':∀a b c d:AV,zd7 4 [a,b,c,d]=some (.agg [a,b,c,d]):=fun _ _ _ _=>rfl;have y01:(0 == I.next)=false:=zdC ac;have y11:(1 == I.next)=false:=zdC ac;have y7:(I.next == 1)=false:=zdC ac;have hg6:H6.get (I.next+1)=some (.cells (zew s.out.reverse) 0 true):=g6;by_cases e0:s.ed=0
   .rw[az e0]at q6;obtain⟨res2,q7,q8⟩:=cm.1 q6;obtain⟨t,q9,q10⟩:=cm.1 q8;rw[aA]at q10;have he:lH s t.v=⟨1,0,s.out.reverse,t.v⟩:=by unfold lH;rw[ai ac,az e0]
    rw[he]at q10;have boc0:=bOc 0 (I.next+1) s.out.length;clear q6 q8 he;repeat' (first
     |(apply zdk ?_;clear hK K)|apply Ry.o ?_|apply b4 ?_|(apply aD (fun Y V=>?_) (fun Y V=>?_)<;>try(cases Y;done))|apply ak ?_|(apply zdl fun K hK=>?_)|(apply zdK ?_;try intro _)|(apply zdM ?_ ?_<;>clear hK K)|apply bl ?_|apply zfJ rfl ?_|apply au ?_|fail)
    .exact zdR
    generalize hH7:Hp.set H6 _ _=H7;have n7:H6.next<=H7.next:=by rw[<-hH7];exact aM _
    have g7:H7.get I.next=some (.cells [.int .i64 0,.int .i64 0,.sl (I.next+1) 0 s.out.length 1,.int .i64 0] 0 true):=by rw[<-hH7,aW,az rfl]
    have zge:∀r,r≠I.next->H7.get r=H6.get r:=fun r hr=>by rw[<-hH7,aW,ai hr]
    clear hH7;have hF7:=hF5.keep (H':=H7) ac fun q hq=>by rw[zge q ac,fr6 q ac];exact EA.get q trivial hq
    have lr4:rp<H4.next:=hF4.lr
    refine bh rfl bm bo ?_;simp only[bJ];refine a9 ?_ (Zv yL hok hkk hF7 q7 q9);rintro v H8 ⟨rfl,rows8,hF8,n78,fr8⟩;dsimp only[zdE];have g8:=(fr8 I.next ac (by show I.next≠rp;omega)).trans g7;have g18:=(fr8 1 ac (by show 1≠rp;omega)).trans ((zge 1 ac).trans g16);have hg8:=(fr8 (I.next+1) ac (by show I.next+1≠rp;omega)).trans ((zge _ ac).trans hg6);repeat' (first
     |(apply zdk ?_;clear hK K)|apply Rx.o ?_|apply bp ?_|apply ak ?_|(apply zdl fun K hK=>?_)|apply am ?_|fail)
    refine⟨eI,_,(by(try simp only[zdy,zdJ,Nat.reduceBEq,tyF,ze0,zfa, *]);first|done|with_reducible rfl),?_⟩;try simp only[zdn]
    rw[<-q10];generalize O:Hp.set _ 1 _=Hf;have nf:I.next+2<=Hf.next:=CA
    have gf:Hf.get (I.next+1)=some (.cells (zew s.out.reverse) 0 true):=by
     rw[<-O];simp only[aW,ai (show ¬I.next+1=1 by omega),ai (show ¬I.next+1=I.next by omega)];exact hg8
    clear O;have:=CF 1 0 t.v s.out.reverse ac gf;rw[qZ]at this;exact this
   .rw[ai e0,aA]at q6;by_cases e2:s.ed=2
    .have he:lH s 0=⟨2,s.code,s.out.reverse,0⟩:=by unfold lH;rw[az e2]
     rw[he]at q6;have boc2:=bOc 2 (I.next+1) s.out.length;clear he;repeat' (first
      |(apply zdk ?_;clear hK K)|apply Ry.o ?_|apply b4 ?_|(apply aD (fun Y V=>?_) (fun Y V=>?_)<;>try(cases Y;done))|apply ak ?_|(apply zdl fun K hK=>?_)|(apply zdK ?_;try intro _)|(apply zdM ?_ ?_<;>clear hK K)|apply bl ?_|apply zfJ rfl ?_|apply au ?_|apply am ?_|fail)
     .exact zdR
     refine⟨eI,_,(by(try simp only[zdy,zdJ,Nat.reduceBEq,tyF,ze0,zfa, *]);first|done|with_reducible rfl),?_⟩;try simp only[zdn]
     rw[<-q6];generalize O:Hp.set _ 1 _=Hf;have nf:I.next+2<=Hf.next:=CA
     have gf:Hf.get (I.next+1)=some (.cells (zew s.out.reverse) 0 true):=by
      rw[<-O];simp only[aW,ai (show ¬I.next+1=1 by omega),ai (show ¬I.next+1=I.next by omega)];exact hg6
     clear O;have:=CF 2 s.code 0 s.out.reverse ac gf;rw[qZ]at this;exact this
    .have he:lH s 0=⟨s.ed,0,s.out.reverse,0⟩:=by unfold lH;rw[ai e2,ai e0]
     rw[he]at q6;clear he;repeat' (first
      |(apply zdk ?_;clear hK K)|apply Ry.o ?_|apply b4 ?_|(apply aD (fun Y V=>?_) (fun Y V=>?_)<;>try(cases Y;done))|apply ak ?_|(apply zdl fun K hK=>?_)|(apply zdK ?_;try intro _)|(apply zdM ?_ ?_<;>clear hK K)|apply bl ?_|apply zfJ rfl ?_|apply au ?_|apply zdm ?_|apply am ?_|fail)
     .exact zdR
     refine⟨eI,_,(by(try simp only[zdy,zdJ,Nat.reduceBEq,tyF,ze0,zfa, *]);first|done|with_reducible rfl),?_⟩;try simp only[zdn]
     rw[<-q6];generalize O:Hp.set _ 1 _=Hf;have nf:I.next+2<=Hf.next:=CA
     have gf:Hf.get (I.next+1)=some (.cells (zew s.out.reverse) 0 true):=by
      rw[<-O];simp only[aW,ai (show ¬I.next+1=1 by omega),ai (show ¬I.next+1=I.next by omega)];exact hg6
     clear O;have:=CF s.ed 0 0 s.out.reverse ac gf;rw[qZ]at this;exact this)
end
section
structure Bd where
 l:List Nd
 vars:List Int
 state:Int
 loops:Nat
structure Cx where
 arrays:List Ar
 funcs:List Fu
 names:List zea
def iV(l:List Nd)(n:Nd):Nat:=l.findIdx fun x=>decide (x=n)
def oO(l:List Nd)(n:Nd):List Nd:=if iV l n<l.length then l else l++[n]
def zeK(n:Nd)(s:Bd):Int×Bd:=(iV s.l n,{s with l:=oO s.l n})
def kF:List zea->zea->Nat
 |[],_=>0
 |a::l,s=>if a=s then 0 else if zdS l s=true then kF l s+1 else 0
def zfh(c a b:Int)(s:Bd):Int×Bd:=if a=b then (a,s)else zeK ⟨22,0,[c,a,b]⟩ s
def vG(O v:Int)(s:Bd):Bd:=let r:=zeK ⟨27,O,[s.state,v]⟩ s;{r.2 with state:=r.1}
def tk(len i:Int)(s:Bd):Bd:=
 let zdu:=zeK ⟨1,len,[]⟩ s
 let r2:=zeK ⟨19,0,[i,zdu.1]⟩ zdu.2
 vG 2 r2.1 r2.2
def tl(v:Int)(s:Bd):Bd:=
 let z:=zeK ⟨1,0,[]⟩ s
 let c:=zeK ⟨16,0,[v,z.1]⟩ z.2
 vG 1 c.1 c.2
def k1(c:Cx):Nat->Ex->Bd->Option (Int×Bd)
 |0,_,_=>none
 |n+1,x,s=>
  if x.kind=1 then some (zeK ⟨1,x.n,[]⟩ s)
  else if x.kind=2 then (s.vars[kF c.names x.name]?).map fun v=>(v,s)
  else if x.kind=3 then
   (x.kids[0]?).bind fun k=>(k1 c n k s).bind fun r=>(c.arrays[kF (c.arrays.map (·.name)) x.name]?).bind fun a=>
     let C:=tk a.len r.1 r.2
     some (zeK ⟨23,kF (c.arrays.map (·.name)) x.name,[C.state,r.1]⟩ C)
  else if x.kind=5 then
   (x.kids[0]?).bind fun zex=>(k1 c n zex s).bind fun zdP=>
   (x.kids[1]?).bind fun zeb=>(k1 c n zeb zdP.2).bind fun zdu=>
   (x.kids[2]?).bind fun k2=>(k1 c n k2 {zdu.2 with state:=zdP.2.state}).bind fun r2=>
     let v:=zfh zdP.1 zdu.1 r2.1 r2.2
     let t:=zfh zdP.1 zdu.2.state v.2.state v.2
     some (v.1,{t.2 with state:=t.1})
  else
   (x.kids[0]?).bind fun zex=>(k1 c n zex s).bind fun zdP=>
     if x.kids.length=1 then some (zeK ⟨x.op,0,[zdP.1]⟩ zdP.2)
     else (x.kids[1]?).bind fun zeb=>(k1 c n zeb zdP.2).bind fun zdu=>
      some (zeK ⟨x.op,0,[zdP.1,zdu.1]⟩ (if x.op=7\/x.op=8 then tl zdu.1 zdu.2 else zdu.2))
section
variable (c:Cx)
end
structure NdR (n:Nd):Prop where
 op:0<=n.op/\n.op<256
 imm:-9223372036854775808<=n.imm/\n.imm<9223372036854775808
 kids:∀k∈n.kids,0<=k/\k<2^60
 len:n.kids.length<2^30
theorem JU(n:Int):ji n 0=n%256:=by
 rw[ji,vx];simp[Int.fdiv_one]
theorem JV(n:Int)(i:Nat):ji n (i+1)=ji (n/256) i:=by
 rw[ji,ji];have e:(2:Int)^ (8*(i+1))=256*2^ (8*i):=by
  rw[Nat.mul_add,Int.pow_add];omega
 have p:(0:Int)<=2^ (8*i):=Int.le_of_lt (Int.pow_pos dk);rw[e,JA _ ac,JA _ p,Int.ediv_ediv_of_nonneg dk]
theorem zp5(n:Int)(i:Nat):0<=ji n i/\ji n i<256:=by
 rw[ji,vx];omega
theorem JW:∀(k:Nat) (n m:Int),0<=n->n<256^ k->0<=m->m<256^ k->(∀i,i<k->ji n i=ji m i)->n=m
 |0,n,m,h1,h2,h3,h4,_=>by simp at h2 h4;omega
 |k+1,n,m,h1,h2,h3,h4,h=>by
  have e:(256:Int)^ (k+1)=256*256^ k:=by rw[Int.pow_succ];omega
  rw[e]at h2 h4;have A:=h 0 ac;rw[JU,JU]at A;have ih:=JW k (n/256) (m/256) ac (by generalize (256:Int)^ k=P at *;omega) ac (by generalize (256:Int)^ k=P at *;omega) (fun i Z=>by rw[<-JV,<-JV];exact h (i+1) ac);omega
theorem JX:∀{l m:List Int},(∀x∈l,0<=x/\x<256)->(∀x∈m,0<=x/\x<256)->oJ l=oJ m->l=m
 |[],[],_,_,_=>rfl
 |[],_::_,_,_,h=>by simp[oJ]at h
 |_::_,[],_,_,h=>by simp[oJ]at h
 |a::l,b::m,hl,hm,h=>by
  simp only[oJ,dL,cR]at h;have i:=hl a fh;have g:=hm b fh;have e:a=b:=by
   have:=kL UInt8.toNat h.1;rw[UInt8.toNat_ofNat',UInt8.toNat_ofNat']at this;omega
  rw[e,JX (fun x I=>hl x (fp _ I)) (fun x I=>hm x (fp _ I)) h.2]
theorem JY(n:Int)(k:Nat):∀x∈ze6 n k,0<=x/\x<256:=fun x I=>by
 obtain⟨i,_,rfl⟩:=l8.1 I;exact zp5 n i
theorem JZ(n:Nd):∀x∈pF n,0<=x/\x<256:=fun x I=>by
 rw[pF,ff,oa,zX]at I;rcases I with rfl|I|⟨k,_,I⟩
 .rw[vx];omega
 .exact JY _ _ x I
 .exact JY _ _ x I
theorem J0{n m:Int}(h1:0<=n)(h2:n<18446744073709551616)(o:0<=m)(U:m<18446744073709551616)(h:ze6 n 8=ze6 m 8):n=m:=
 JW 8 n m h1 ac o ac fun i A=>List.map_inj_left.1 h i (jq.2 A)
theorem pL(n:Int):0<=IntKind.wrap .u64 n/\IntKind.wrap .u64 n<18446744073709551616:=by rw[vy];omega
theorem J1:∀{U ms:List Int},(∀k∈U,0<=k/\k<2^60)->(∀k∈ms,0<=k/\k<2^60)->(U.flatMap fun k=>ze6 (IntKind.wrap .u64 k) 8)=(ms.flatMap fun k=>ze6 (IntKind.wrap .u64 k) 8)->U=ms
 |[],[],_,_,_=>rfl
 |[],m::ms,_,_,h=>by
  have:=kL List.length h;rw[pm,ep,zf3]at this;simp at this;omega
 |k::U,[],_,_,h=>by
  have:=kL List.length h;rw[pm,ep,zf3]at this;simp at this
 |k::U,m::ms,hk,hm,h=>by
  rw[pm,pm]at h;obtain⟨i,g⟩:=List.append_inj h (by rw[zf3,zf3]);have e:=J0 (pL k).1 (pL k).2 (pL m).1 (pL m).2 i;have a1:=hk k fh;have zeU:=hm m fh;rw[vy,vy]at e;have C:k=m:=ac;rw[C,J1 (fun x I=>hk x (fp _ I)) (fun x I=>hm x (fp _ I)) g]
theorem J2{a b:Nd}(J:NdR a)(z:NdR b)(h:zes a=zes b):a=b:=by
 have h:=JX (JZ a) (JZ b) h;rw[pF,pF,cR]at h;obtain⟨i,g⟩:=h;obtain⟨o,U⟩:=List.append_inj g (by rw[zf3,zf3]);have I:=J0 (pL _).1 (pL _).2 (pL _).1 (pL _).2 o;have O:=J1 J.kids z.kids U;have K:=J.op;have C:=z.op;have A:=J.imm;have m:=z.imm;rw[vx,vx]at i;rw[vy,vy]at I;obtain⟨F,Z,M⟩:=a;obtain⟨Y,V,L⟩:=b;simp only at *;rw[show F=Y by omega,show Z=V by omega,O]
theorem zp6(x:Nd)(l:List Nd)(n:Nd):iV (x::l) n=if x=n then 0 else iV l n+1:=by
 unfold iV;rw[List.findIdx_cons];by_cases h:x=n<;>simp[h]
theorem zyj(l:List Nd)(n:Nd):iV l n<=l.length:=by unfold iV;exact List.findIdx_le_length
theorem zbB{l:List Nd}{n:Nd}:iV l n<l.length↔n∈l:=by
 unfold iV;rw[List.findIdx_lt_length];simp
theorem CG(l:List Nd)(n:Nd):l<+:oO l n:=by
 unfold oO;split
 .exact vz l
 .exact List.prefix_append l [n]
theorem J3{l:List Nd}{n x:Nd}:x∈oO l n↔x∈l\/x=n:=by
 unfold oO;split
 .rename_i h;have:=zbB.1 h;constructor
  .exact .inl
  .rintro(h|rfl)
   .exact h
   .exact this
 .simp
def atV(l:List Nd)(i:Nat):List (zea×Int):=(l.zipIdx i).map fun p=>(zes p.1,(p.2:Int))
theorem ztO(x:Nd)(l:List Nd)(i:Nat):atV (x::l) i=(zes x,(i:Int))::atV l (i+1):=by rw[atV,zE];rfl
theorem J4{n:Nd}(m:NdR n):∀(l:List Nd) (i:Nat),(∀x∈l,NdR x)->fB (atV l i) (zes n)=decide (iV l n<l.length)/\(iV l n<l.length->er (atV l i) (zes n)=((i+iV l n:Nat):Int))/\(¬iV l n<l.length->∀x,setV (atV l i) (zes n) x=atV l i++[(zes n,x)])
 |[],i,_=>⟨rfl,fun h=>by simp[iV]at h,fun _ x=>rfl⟩
 |x::l,i,hl=>by
  obtain⟨Z,Y,o⟩:=J4 m l (i+1) fun y O=>hl y (fp _ O)
  rw[zp6,ztO,dq];by_cases e:x=n
  .subst e;refine⟨by simp[fB],fun _=>by simp[er],fun h=>jp⟩
  .have g:¬zes n=zes x:=fun h=>e (J2 m (hl x fh) h).symm;rw[ai e];refine⟨?_,fun h=>?_,fun h y=>?_⟩
   .simp only[fB,g];rw[Z];simp
   .have:=Y ac;simp only[er,g,cn];rw[this];congr 1;omega
   .have:=o ac y;simp only[setV,g,cn,this,ot]
theorem ztP(l:List Nd)(n:Nd):atV l 0++[(zes n,(l.length:Int))]=atV (l++[n]) 0:=by
 simp[atV,List.zipIdx_append]
structure Lx where
 p:Pr
 b:Nat
 ra:Nat
 rf:Nat
 rt:Nat
 rn:Nat
 ae:List (zea×Int)
 fe:List (zea×Int)
 ne:List (zea×Int)
def zfe(X:Lx)(s:Bd)(j M:AV):List AV:=[.lst (X.p.arrays.map Ar.cells),.lst (X.p.funcs.map Fu.cells),.map X.ra,.map X.rf,j,.map X.rt,.map X.rn,M,.int .i64 s.state,.int .i64 s.loops]
structure RepL (X:Lx) (H:Hp) (S:Nat->Prop) (s:Bd) (lv vv:AV):Prop where
 m:H.get X.b=some (.cells (zfe X s lv vv) 0 true)
 a:H.get X.ra=some (.map (cV X.ae))
 f:H.get X.rf=some (.map (cV X.fe))
 t:H.get X.rt=some (.map (cV (atV s.l 0)))
 n:H.get X.rn=some (.map (cV X.ne))
 nodes:zeO S 2 H 3 lv (s.l.map Nd.cells)
 vars:nu H vv s.vars 0
 o1:X.ra<X.rf
 o2:X.rf<X.rt
 o3:X.rt<X.rn
 o4:X.rn<X.b
 o5:X.b<H.next
 sS:∀k,S k->X.b<k/\k<H.next/\¬zeG vv k
 vS:∀k,zeG vv k->X.b<k/\k<H.next
structure Sm (n:Nat) (H H':Hp):Prop where
 get:∀k,k<n->H'.get k=H.get k
structure FrL (X:Lx) (S:Nat->Prop) (vv:AV) (H:Hp) (S':Nat->Prop) (vv':AV) (H':Hp):Prop where
 next:H.next<=H'.next
 get:∀k,k<H.next->k≠X.b->k≠X.rt->¬S k->¬zeG vv k->H'.get k=H.get k
 sub:∀k,S' k->S k\/H.next<=k
 own:∀k,zeG vv' k->zeG vv k\/H.next<=k
theorem FrL.refl(X:Lx)(S:Nat->Prop)(M:AV)(H:Hp):FrL X S M H S M H:=⟨aM _,fun _ _ _ _ _ _=>rfl,fun _ h=>.inl h,fun _ h=>.inl h⟩
def fw:=@FrL.refl
theorem FrL.trans{X:Lx}{S S' i:Nat->Prop}{v F Z:AV}{H H' J:Hp}(h:FrL X S v H S' F H')(k:FrL X S' F H' i Z J):FrL X S v H i Z J where
 next:=eT h.next k.next
 get r h1 h2 h3 h4 h5:=by
  rw[k.get r (gz h1 h.next) h2 h3 (fun e=>?_) (fun e=>?_)]
  .exact h.get r h1 h2 h3 h4 h5
  .rcases h.sub r e with e|e
   .exact h4 e
   .omega
  .rcases h.own r e with e|e
   .exact h5 e
   .omega
 sub r e:=by
  rcases k.sub r e with e|e
  .exact h.sub r e
  .exact .inr (eT h.next e)
 own r e:=by
  rcases k.own r e with e|e
  .exact h.own r e
  .exact .inr (eT h.next e)
section
variable {X:Lx} {H H':Hp} {S:Nat -> Prop} {s:Bd} {lv vv:AV}
theorem RepL.keep(h:RepL X H S s lv vv)(m:H.next<=H'.next)(C:∀k,k<H.next->(k<=X.b\/S k\/zeG vv k)->H'.get k=H.get k):RepL X H' S s lv vv:=by
 have g:=h.o1;have z:=h.o2;have Z:=h.o3;have Y:=h.o4;have L:=h.o5;refine⟨by rw[C _ L (.inl (aM _))];exact h.m,by rw[C _ ac (.inl ac)];exact h.a,by rw[C _ ac (.inl ac)];exact h.f,by rw[C _ ac (.inl ac)];exact h.t,by rw[C _ ac (.inl ac)];exact h.n,h.nodes.keep (fun _ _ h=>h) m fun k j F=>C k F (.inr (.inl j)),h.vars.keep m fun k j=>C k (h.vS k j).2 (.inr (.inr j)),g,z,Z,Y,ac,fun k j=>?_,fun k j=>?_⟩
 .have:=h.sS k j;exact⟨this.1,ac,this.2.2⟩
 .have:=h.vS k j;omega
theorem RepL.alloc(h:RepL X H S s lv vv)(b:HB):RepL X (H.alloc b) S s lv vv:=h.keep (fQ _) fun k j _=>fy
theorem FrL.alloc{M:Nat->Prop}{z:AV}{zd3:Hp}(h:FrL X M z zd3 S vv H)(b:HB):FrL X M z zd3 S vv (H.alloc b):=h.trans ⟨fQ _,fun k j _ _ _ _=>fy,fun _ h=>.inl h,fun _ h=>.inl h⟩
theorem RepL.setS(h:RepL X H S s lv vv)(x:Int):RepL X (H.set X.b (.cells (zfe X {s with state:=x} lv vv) 0 true)) S {s with state:=x} lv vv/\FrL X S vv H S vv (H.set X.b (.cells (zfe X {s with state:=x} lv vv) 0 true)):=by
 have Z:=h.o1;have z:=h.o2;have Y:=h.o3;have V:=h.o4;have L:=h.o5;have C:∀k,k≠X.b->(H.set X.b (.cells (zfe X {s with state:=x} lv vv) 0 true)).get k=H.get k:=fun k j=>CB;refine⟨⟨ik,by rw[C _ ac];exact h.a,by rw[C _ ac];exact h.f,by rw[C _ ac];exact h.t,by rw[C _ ac];exact h.n,h.nodes.keep (fun _ _ h=>h) (aM _) fun k j F=>C k (by have:=h.sS k j;omega),h.vars.keep (aM _) fun k j=>C k (by have:=h.vS k j;omega),Z,z,Y,V,L,h.sS,h.vS⟩,⟨aM _,fun k _ g _ _ _=>C k g,fun _ h=>.inl h,fun _ h=>.inl h⟩⟩
theorem RepL.setV(h:RepL X H S s lv vv){i:Nat}(A:i<s.vars.length)(x:Int):∃r,zdV Tryz.prog 23 vv (.int .i64 (i:Int))=some (.ptr r i)/\zeX Tryz.prog H 3 (.ptr r i)=some (.int .i64 (s.vars.getD i 0)) /\
 ∃H',jA Tryz.prog H 3 (.ptr r i) (.int .i64 x)=some H'/\X.b<r/\r<H.next/\zeG vv r/\RepL X H' S {s with vars:=s.vars.set i x} lv vv/\FrL X S vv H S vv H'/\(∀k,k≠r->H'.get k=H.get k)/\H'.next=H.next:=by
 rcases h.vars with⟨_,g⟩|⟨r,L,C,V,hr⟩
 .rw[g]at A;simp at A
 .have Z:zeG vv r:=⟨_,L⟩;have Y:=(h.vS r Z).1;refine⟨r,?_,?_,H.set r (.cells ((s.vars.set i x).map (.int .i64)) 0 true),?_,Y,hr,Z,?_,⟨aM _,fun k _ _ _ _ U=>?_,fun _ h=>.inl h,fun _ h=>.inl h⟩,fun k j=>CB,rfl⟩
  .rw[L,mj Tryz.underlying23 ju A];simp
  .rw[ql Tryz.underlying3 rfl C,dK,cS,aR A];rfl
  .rw[uU C (by rw[cE];exact A),oy]
  .have O:=h.o1;have z:=h.o2;have M:=h.o3;have K:=h.o4;have J:=h.o5;have j:∀k,k≠r->(H.set r (.cells ((s.vars.set i x).map (.int .i64)) 0 true)).get k=H.get k:=fun k j=>CB;refine⟨by rw[j _ ac];exact h.m,by rw[j _ ac];exact h.a,by rw[j _ ac];exact h.f,by rw[j _ ac];exact h.t,by rw[j _ ac];exact h.n,h.nodes.keep (fun _ _ h=>h) (aM _) fun k hS _=>j k fun e=>(h.sS k hS).2.2 (by rw[e];exact Z),.inr ⟨r,by rw[L,mg],ik,V,hr⟩,O,z,M,K,J,h.sS,h.vS⟩
  .rw[aW,ai (fun e=>U (by rw[e];exact Z))]
end
end
end Go.Proofs.YtljebeflbbgibaaGreat
