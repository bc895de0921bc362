/- Parts: P4b, P4c, P4d, P4h, G1, G2, G2r, ChkM, ChkX, G2s, G2p, RowN, V7, W6h, RunK, EvJ, SpecL, LoK, NdM, LoA. -/
import Derived.Test.YtljebeflbbgibaaGreatYCL
set_option linter.unusedSimpArgs false
set_option linter.unusedVariables false
set_option linter.unusedSectionVars false
set_option linter.defProp false
set_option maxHeartbeats 32000000
namespace Go.Ab
set_option maxRecDepth 20000
open Go
theorem rC{P:Prop}(h:P:=by refine⟨rfl,rfl,rfl,rfl,rfl,rfl,rfl,rfl,rfl⟩):P:=h
theorem Jn{P:Prop}(h:P:=by rw[nr];(try simp only[Bool.not_eq_true',Bool.not_eq_false']at *);simp only[*,Bool.false_and,Bool.and_false,Bool.and_true,]):P:=h
theorem vu{P:Prop}(h:P:=by (try simp only[zc6]);omega):P:=h
theorem Jo{P:Prop}(h:P:=by rw[Y,show zef=70368744177664 from rfl];omega):P:=h
theorem CC{P:Prop}(h:P:=by rw[List.length_append,hvs];rfl):P:=h
theorem CD{P:Prop}(h:P:=by rw[<- O];simp only[zdm];omega):P:=h
theorem CE{P:Prop}(h:P:=by rw[Hp.get_set,if_neg j]):P:=h
theorem tn{P:Prop}(h:P:=by simp only[zc3,Nat.reduceBEq, *];exact zeX (n:=u.funcs.length) ac ac):P:=h
theorem Jp{P:Prop}(h:P:=by simp only[zc3,Nat.reduceBEq, *];exact zeX (n:=u.arrays.length) ac ac):P:=h
def yD:=@Bool.not_and
def yE:=@Int.tmod_lt_of_pos
def vw:=@Go.IntKind.wrap_u8
def Jq:=@Int.fdiv_eq_ediv_of_nonneg
def vx:=@Go.IntKind.wrap_u64
def vy:=@List.prefix_refl
end Go.Ab
namespace Go.Proofs.YtljebeflbbgibaaGreat
set_option maxRecDepth 20000
open Go Go.Ab
section
def tyP4b.tyF:=ad @cP (ad @b7 (ad @lw (ad @dz (ad @iG (ad @iH (ad @gC (ad @jF (@FF))))))))
open tyP4b
noncomputable def Jr:{c:SC // aB 111 (Tryz.f131.body.getD .skip)=c}:=by
 refine⟨?_,?_⟩;rotate_left
 .simp only[Tryz.f131,a8,aB,zda,zc9,zdc,zdd,Nat.blt,Nat.ble];rfl
mutual
theorem Js:∀(x:Ex) (d:Int),jB (fun x _=>tc x) x d=jK x
 | .mk k n s o V,d=>by rw[jB,jK,Jt V,Bool.and_comm]
theorem Jt:∀(l:List Ex) (d:Int),zeS (fun x _=>tc x) l d=ke l
 |[],_=>rfl
 |x::l,d=>by rw[zeS,ke,Js x,Jt l]
end
theorem CF{l:List En}(L:∀z,zdS l 127 z=vq.sp z)(J:∀z,zdS l 171 z=vt.sp z)(V:(∀z,zdS l 130 z=none)/\iF l 130=false)(K:(∀z,zdS l 129 z=none)/\iF l 129=false)
 (x:Ex) (F:x.sz<2^60) (H:Hp):zc2 Tryz.prog (zcW pls l) 129 [.agg x.cells,.int .i64 0,.clo 130 []] H fun v H'=>v=.bool (jK x)/\FrB 0 H H':=by
 have Z:po 0 fun _:Hp=>True:=fun _ _ _ _=>trivial;refine aZ ?_ (tj (zdO K.1 K.2) Z (Z1 L J V Z) (x.sz+1) x (cQ _) 0 H F (cN _) trivial);rintro v H' ⟨rfl,g,_⟩;exact⟨by rw[Js],g⟩
def ml(x:Ex)(w:Bool):Bool:=bif w then jK x else zeroE x
noncomputable def CG:List En:=[vq,vt,Jm]
theorem Z2(ρ:Nat->Int):fb Tryz.prog ρ CG:=⟨Jk ρ,Jl ρ,Z0 ρ,trivial⟩
theorem Z3(ρ:Nat->Int)(x:Ex)(w:Bool)(F:x.sz<2^60):bh Tryz.prog ρ 174 [.agg x.cells,.bool w] (.bool (ml x w)):=zdZ fit (pls:=pls) (Z2 ρ) (.cons (.agg x.pure) (.cons (.bool _) .nil)) (.bool _) (by
 have J:Plain (zcW pls CG) 174:=zdO (fun _=>rfl) rfl;have U:∀y:Ex,∀H,zc2 Tryz.prog (zcW pls CG) 197 [.agg y.cells] H fun v H'=>v=.bool (zeroE y)/\H'=H:=fun y H=>zdW (enc:=u0) (out:=fun x=>.bool (zeroE x)) XB (x:=y) rfl trivial;cases w
 .refine zf (M:=10) (rs:=[.tmp 4]) (J.call _) J.ice J.froz Tryz.func174 rfl rfl yC.2 rfl ?_;dsimp only[yC,zcX,Nat.reduceAdd];repeat' (first
   |(apply zcP ?_;clear hK K)|apply Rx.o ?_|(apply i5 ?_;first|refine Rx.k (U _ _) ?_)|(apply aU (fun z V=>?_) (fun z V=>?_)<;>try(cases z;done))|apply ak ?_|(apply zcQ fun K hK=>?_)|apply zcR ?_|apply am ?_)
  all_goals (refine⟨zcT,_,zcU,?_⟩;try simp only[zcS])
  rfl
 .refine zf (M:=10) (rs:=[.tmp 4]) (J.call _) J.ice J.froz Tryz.func174 rfl rfl yC.2 rfl ?_;dsimp only[yC,zcX,Nat.reduceAdd];repeat' (first
   |(apply zcP ?_;clear hK K)|apply Rx.o ?_|(apply aU (fun z V=>?_) (fun z V=>?_)<;>try(cases z;done))|apply ak ?_|(apply zcQ fun K hK=>?_)|fail)
  refine a4 rfl a6 a7 ?_;simp only[bB];refine aZ ?_ (CF (fun _=>rfl) (fun _=>rfl) ⟨fun _=>rfl,rfl⟩ ⟨fun _=>rfl,rfl⟩ x F _);rintro v H ⟨rfl,_⟩;dsimp only[zc5];repeat' (first
   |(apply zcP ?_;clear hK K)|apply Rx.o ?_|apply am ?_)
  all_goals (refine⟨zcT,_,zcU,?_⟩;try simp only[zcS])
  rfl)
def a9(k:Int)(i:Nat):Bool:=(rB k).getD i false
theorem Z4(k:Int):(rB k).map AV.bool=[.bool (a9 k 0),.bool (a9 k 1),.bool (a9 k 2),.bool (a9 k 3),.bool (a9 k 4),.bool (a9 k 5),.bool (a9 k 6),.bool (a9 k 7)]:=by
 have h:∃a b c d e f g h,rB k=[a,b,c,d,e,f,g,h]:=by
  unfold rB;repeat' split
  all_goals exact⟨_,_,_,_,_,_,_,_,rfl⟩
 obtain⟨a,b,c,d,e,f,g,h,Y⟩:=h;simp only[a9,Y];rfl
def nr(x:St):Bool:=
 iP x.kind&&ko x.name (a9 x.kind 0)&&ko x.to (a9 x.kind 1)&&ml x.at_ (a9 x.kind 3)&&ml x.value (a9 x.kind 4) &&
 !decide (x.n<0) && !decide (1000000<x.n)&&(a9 x.kind 2||decide (x.n=0))&&(a9 x.kind 5 || !decide ((0:Int)<x.args.length))&&(a9 x.kind 6 || !decide ((0:Int)<x.thn.length))&&(a9 x.kind 7 || !decide ((0:Int)<x.els.length))&&ke x.args
def vz(x:St):Bool:=decide (x.n<0)||decide (1000000<x.n)||(!a9 x.kind 2 && !decide (x.n=0))||(!a9 x.kind 5&&decide ((0:Int)<x.args.length))||(!a9 x.kind 6&&decide ((0:Int)<x.thn.length))||(!a9 x.kind 7&&decide ((0:Int)<x.els.length))
noncomputable def Ju:En:=⟨172,false,b0 (fun _=>True) (fun n:Int=>[.int .i64 n]) tm⟩
theorem Z5(ρ:Nat->Int):zdF Tryz.prog ρ Ju:=zdM fun x _=>ZX ρ x
def vA(x:List UInt8×Bool):List AV:=[.str x.1,.bool x.2]
theorem Z6(x y:List UInt8×Bool)(h:vA x=vA y):x=y:=by
 simp only[vA,cS,AV.str.injEq,AV.bool.injEq,a1]at h;exact j3 h.1 h.2
noncomputable def Jv:En:=⟨173,false,b0 (fun x=>x.1.length<2^60) vA fun x=>.bool (ko x.1 x.2)⟩
theorem Z7(ρ:Nat->Int):zdF Tryz.prog ρ Jv:=zdM fun x F=>ZV ρ x.1 x.2 F
def vB(x:Ex×Bool):List AV:=[.agg x.1.cells,.bool x.2]
theorem Z8(x y:Ex×Bool)(h:vB x=vB y):x=y:=by
 simp only[vB,cS,AV.agg.injEq,AV.bool.injEq,a1]at h;exact j3 (Ex.inj h.1) h.2
noncomputable def Jw:En:=⟨174,false,b0 (fun x=>x.1.sz<2^60) vB fun x=>.bool (ml x.1 x.2)⟩
theorem Z9(ρ:Nat->Int):zdF Tryz.prog ρ Jw:=zdM fun x F=>Z3 ρ x.1 x.2 F
noncomputable def Jx:En:=⟨128,false,b0 (fun l=>zeJ l<2^60) (fun l:List (List UInt8)=>[zd7 l]) fun l=>.bool (l.all zdC)⟩
theorem zxM(ρ:Nat->Int):zdF Tryz.prog ρ Jx:=zdM fun x F=>ZU ρ x F
theorem zxN(x y:List (List UInt8))(h:([zd7 x]:List AV)=[zd7 y]):x=y:=by
 simp only[cS,AV.lst.injEq,a1]at h;exact xi h
noncomputable def nt:List En:=[vq,vt,Ju,Jv,Jw,Jx]
theorem ztg(ρ:Nat->Int):fb Tryz.prog ρ nt:=⟨Jk ρ,Jl ρ,Z5 ρ,Z7 ρ,Z9 ρ,zxM ρ,trivial⟩
theorem zad:a9 1 0=true/\a9 1 1=false/\a9 1 2=false/\a9 1 3=false/\a9 1 4=true/\a9 1 5=false/\a9 1 6=false/\a9 1 7=false/\iP 1=true:=rC
theorem zae:a9 2 0=true/\a9 2 1=false/\a9 2 2=false/\a9 2 3=true/\a9 2 4=true/\a9 2 5=false/\a9 2 6=false/\a9 2 7=false/\iP 2=true:=rC
theorem zaf:a9 3 0=false/\a9 3 1=false/\a9 3 2=false/\a9 3 3=false/\a9 3 4=true/\a9 3 5=false/\a9 3 6=true/\a9 3 7=true/\iP 3=true:=rC
theorem zag:a9 4 0=false/\a9 4 1=false/\a9 4 2=false/\a9 4 3=false/\a9 4 4=true/\a9 4 5=false/\a9 4 6=true/\a9 4 7=false/\iP 4=true:=rC
theorem zah:a9 5 0=false/\a9 5 1=false/\a9 5 2=false/\a9 5 3=false/\a9 5 4=true/\a9 5 5=false/\a9 5 6=false/\a9 5 7=false/\iP 5=true:=rC
theorem zai:a9 6 0=true/\a9 6 1=true/\a9 6 2=false/\a9 6 3=false/\a9 6 4=false/\a9 6 5=true/\a9 6 6=false/\a9 6 7=false/\iP 6=true:=rC
theorem zaj:a9 7 0=false/\a9 7 1=false/\a9 7 2=true/\a9 7 3=false/\a9 7 4=false/\a9 7 5=false/\a9 7 6=false/\a9 7 7=false/\iP 7=true:=rC
set_option maxRecDepth 100000 in
theorem zth:vp (zcW pls nt) 0 (fun(_:Unit) _=>True) 131 [] fun x _ s=>(nr x,s):=by
 intro x d s H hz _ _;have hw:Plain (zcW pls nt) 131:=zdO (fun _=>rfl) rfl;have kf:∀k H,zc2 Tryz.prog (zcW pls nt) 172 [.int .i64 k] H fun v H'=>v=.tup [.agg [.bool (a9 k 0),.bool (a9 k 1),.bool (a9 k 2),.bool (a9 k 3),.bool (a9 k 4),.bool (a9 k 5),.bool (a9 k 6),.bool (a9 k 7)],.bool (iP k)]/\H'=H:=fun k H=>by
  have:=zdW (P:=Tryz.prog) (pls:=pls) (l:=nt) (enc:=fun n:Int=>[.int .i64 n]) (ok:=fun _=>True) (out:=tm) Y0 (g:=172) (x:=k) rfl trivial (H:=H);unfold tm at this;rw[Z4]at this;exact this
 have km:∀(s:List UInt8) (w:Bool),s.length<2^60->∀H,zc2 Tryz.prog (zcW pls nt) 173 [.str s,.bool w] H fun v H'=>v=.bool (ko s w)/\H'=H:=fun s w h H=>zdW (enc:=vA) (out:=fun x=>.bool (ko x.1 x.2)) Z6 (x:=(s,w)) rfl h;have kx:∀(y:Ex) (w:Bool),y.sz<2^60->∀H,zc2 Tryz.prog (zcW pls nt) 174 [.agg y.cells,.bool w] H fun v H'=>v=.bool (ml y w)/\H'=H:=fun y w h H=>zdW (enc:=vB) (out:=fun x=>.bool (ml x.1 x.2)) Z8 (x:=(y,w)) rfl h;have hsz:=x.sz_eq;have hlen:=uC x.args;have hx0:∀a b,Ab.extract (.tup [a,b]) 0=some a:=fun _ _=>rfl;have hx1:∀a b,Ab.extract (.tup [a,b]) 1=some b:=fun _ _=>rfl;refine zf (M:=111) (rs:=[.tmp 4]) (hw.call _) hw.ice hw.froz Tryz.func131 rfl rfl Jr.2 rfl ?_;dsimp only[Jr,zcX,Nat.reduceAdd];repeat' (first
  |(apply zcP ?_;clear hK K)|apply Rx.o ?_|apply bE ?_|(apply i5 ?_;first|refine Rx.k (kf _ _) ?_|refine Rx.k (km _ _ ac _) ?_|refine Rx.k (kx _ _ ac _) ?_)|(apply bW (fun J I=>?_) (fun J I=>?_)<;>try(cases J;done))|apply ak ?_|(apply zcQ fun K hK=>?_)|fail)
 all_goals (first|(refine aU (t:=true) (h1:=fun _ _=>?_) (h2:=fun hzz _=>?_)<;>try(cases hzz;done))|skip)
 all_goals
  repeat' (first
   |(apply zcP ?_;clear hK K)|apply Rx.o ?_|apply ak ?_|(apply zcQ fun K hK=>?_)|apply am ?_|fail)
 all_goals (first|(refine⟨zcT,_,zcU,?_⟩;(try simp only[zcS]);refine⟨Jn,(((fY _ _).alloc _).alloc _).set (.inl vu) _,trivial⟩;done)|skip)
 have Y:FrB 0 H (((H.alloc (.cells x.cells 0 true)).alloc (.cells [.bool false,.bool false,.bool false,.bool false,.bool false,.bool false,.bool false,.bool false] 0 true)).set (H.next+1) (.cells [.bool (a9 x.kind 0),.bool (a9 x.kind 1),.bool (a9 x.kind 2),.bool (a9 x.kind 3),.bool (a9 x.kind 4),.bool (a9 x.kind 5),.bool (a9 x.kind 6),.bool (a9 x.kind 7)] 0 true)):=(((fY _ _).alloc _).alloc _).set (.inl ac) _;refine NZ [2,4,5,48] fun E' W=>?_;(try simp only[zdh,zdb,a1,zc3,zde,Nat.reduceBEq, *]at W);generalize A:Hp.set _ (H.next+1) _=Hb at Y⊢;have gb:Hb.get H.next=some (.cells x.cells 0 true):=by rw[<-A,aX,ah ac,zcY,ah gX,zcY,ay rfl]
 have gf:Hb.get (H.next+1)=some (.cells [.bool (a9 x.kind 0),.bool (a9 x.kind 1),.bool (a9 x.kind 2),.bool (a9 x.kind 3),.bool (a9 x.kind 4),.bool (a9 x.kind 5),.bool (a9 x.kind 6),.bool (a9 x.kind 7)] 0 true):=Bn;have nb:H.next+2<=Hb.next:=uP
 clear A;refine aU (h1:=fun z V=>?_) (h2:=fun z V=>?_)
 .repeat' (first
   |(apply zcP ?_;clear hK K)|apply Rx.o ?_|apply ak ?_|(apply zcQ fun K hK=>?_)|apply am ?_|fail)
  all_goals (refine⟨zcT,_,zcU,?_⟩;try simp only[zcS])
  refine⟨Jn,Y,trivial⟩
 refine zdr.skip ?_;dsimp only[kG,qm];refine ak ?_;first
 |refine zcQ fun K Z=>?_
 |(simp only[zda,zc9,zdc,zdd,Nat.blt,Nat.ble];refine zcQ fun K Z=>?_)
 |(refine ak ?_;refine zcQ fun K Z=>?_)
 have hK:∀C F,(C.at 2=.ptr H.next 0/\C.at 4=.bool false/\C.at 99=.bool (vz x)/\F=Hb)->K C F:=by
  rintro C F ⟨zdp,zfs,k99,rfl⟩;apply Z;clear Z K;dsimp only[kG,qm];have U:(iP x.kind&&ko x.name (a9 x.kind 0)&&ko x.to (a9 x.kind 1)&&ml x.at_ (a9 x.kind 3)&&ml x.value (a9 x.kind 4))=true:=by(try simp only[qM]at *);simp only[*,jW,]
  have O:nr x=(!vz x&&ke x.args):=by
   have e:nr x=((iP x.kind&&ko x.name (a9 x.kind 0)&&ko x.to (a9 x.kind 1)&&ml x.at_ (a9 x.kind 3)&&ml x.value (a9 x.kind 4))&&(!vz x&&ke x.args)):=by
    simp only[nr,vz,s6,yD,Bool.not_not,qL]
   rw[e,U,dq]
  repeat' (first
   |(apply zcP ?_;clear hK K)|apply Rx.o ?_|(apply aU (fun z V=>?_) (fun z V=>?_)<;>try(cases z;done))|apply ak ?_|(apply zcQ fun K hK=>?_)|apply ax ?_|apply zcR ?_|apply am ?_|fail)
  .all_goals (refine⟨zcT,_,zcU,?_⟩;try simp only[zcS])
   refine⟨by rw[O];(try simp only[qM]at *);simp only[*,dX,lj,],Y,trivial⟩
  refine zdN [2,4,101,102] [] 103 x.args.length (fun i E F=>ke x.args=ke (x.args.drop i)/\FrB 0 H F) eE ⟨aE,Y⟩ ?_;rintro i E H3 hi W hrH hnH hsI ⟨hJ,o⟩;(try simp only[zdh,zdb,a1,zc3,zde,Nat.reduceBEq, *]at W);(try simp only[zdb, *]at hrH);(try simp only[zc6,zdm,zdK,bz,Nat.reduceAdd]at hnH);repeat' (first
   |(apply zcP ?_;clear hK K)|apply Rx.o ?_|(apply aU (fun z V=>?_) (fun z V=>?_)<;>try(cases z;done))|apply ak ?_|(apply zcQ fun K hK=>?_)|apply ax ?_|apply zcR ?_|apply am ?_|apply zc4 ?_)
  .have L:i<x.args.length:=by simpa using z
   have hgx:x.args[i]?=some x.args[i]:=aO L;have hsm:=sm (dx L);have j:ke (x.args.drop i)=(jK x.args[i]&&ke (x.args.drop (i+1))):=by rw[eJ L];rfl
   repeat' (first
    |(apply zcP ?_;clear hK K)|apply Rx.o ?_|apply bE ?_|apply ak ?_|(apply zcQ fun K hK=>?_)|fail)
   refine a4 rfl a6 a7 ?_;simp only[bB];refine aZ ?_ (CF (fun _=>rfl) (fun _=>rfl) ⟨fun _=>rfl,rfl⟩ ⟨fun _=>rfl,rfl⟩ x.args[i] ac _);rintro v H4 ⟨rfl,m⟩;dsimp only[zc5];have hf5:FrB 0 H H4:=o.trans ((((fY _ _).alloc _).set (.inl (aM _)) _).trans m);have n4:=m.next
   simp only[zdm,zc6]at n4;repeat' (first
    |(apply zcP ?_;clear hK K)|apply Rx.o ?_|(apply aU (fun z V=>?_) (fun z V=>?_)<;>try(cases z;done))|apply ak ?_|(apply zcQ fun K hK=>?_)|apply zcR ?_|apply am ?_|fail)
   all_goals (first|(refine⟨zcT,_,zcU,?_⟩;(try simp only[zcS]);refine⟨by rw[O,hJ,j];(try simp only[ff]at *);simp only[ *,sR,gR,],hf5,trivial⟩;done)|skip)
   refine⟨ac,eL,eL,eN,(by simp only[zc3,Nat.reduceBEq, *];exact zeX (n:=x.args.length) ac ac),?_⟩;exact⟨by rw[hJ,j];(try simp only[qM]at *);simp only[*,dq,],hf5⟩
  .all_goals (refine⟨zcT,_,zcU,?_⟩;try simp only[zcS])
   refine⟨by rw[O,hJ,show i=x.args.length by simp at z;omega,jI];(try simp only[qM]at *);simp only[ke, *,jW,gR,],o,trivial⟩
 clear Z;repeat' (first
  |(apply zcP ?_;clear hK K)|apply Rx.o ?_|apply qG ?_|(apply bW (fun J I=>?_) (fun J I=>?_)<;>try(cases J;done))|fail)
 all_goals
  refine⟨eE,eE,?_,rfl⟩;rw[vz];(try simp only[ff]at *);simp only[zc3,Nat.reduceBEq, *,Ik,]
end
section
theorem zal(n:Nat):(!decide ((0:Int)<n))=decide ((n:Int)=0):=by
 cases n with
 |zero=>rfl
 |succ n=>simp;omega
theorem zam(n:Int):(!decide (n<0) && !decide (1000000<n)&&decide (n=0))=decide (n=0):=by
 by_cases h:n=0
 .subst h;rfl
 .simp[h]
theorem zan(n:Int):(!decide (n<0))=decide (0<=n):=by
 by_cases h:n<0
 .simp[h]
 .simp[h];omega
theorem zao(n:Int):(!decide (1000000<n))=decide (n<=1000000):=by
 by_cases h:1000000<n
 .simp[h]
 .simp[h];omega
theorem zxO(x:St):nr x=vk x:=by
 have j:x.kind=1\/x.kind=2\/x.kind=3\/x.kind=4\/x.kind=5\/x.kind=6\/x.kind=7\/iP x.kind=false:=by
  simp only[iP,oW,jG];omega
 rcases j with j|j|j|j|j|j|j|j
 case inr.inr.inr.inr.inr.inr.inr=>
  have h:yj x=false:=by
   simp only[iP,oW,jG]at j;unfold yj;rw[ah ac,ah ac,ah ac,ah ac,ah ac,ah ac,ah ac]
  rw[nr,vk,j,h];simp
 all_goals
  have hr:=zam x.n;simp only[nr,vk,yj,j,zad,zae,zaf,zag,zah,zai,zaj,td,yi,ko,ml,f8,oM,bS,cb,Int.reduceEq,BF,ji,mF,zal,ct,reduceCtorEq];first
  |(rw[zan,zao];ac_rfl)
  |(rw[<-hr];ac_rfl)
mutual
theorem zti:∀(x:St) (d:Int),iE (fun x _ (s:Unit)=>(nr x,s)) x d ()=(yk x,())
 | .mk k m Z n a v args g i,d=>by
   rw[iE,yk,zxO];cases h:vk (.mk k m Z n a v args g i)with
   |false=>simp
   |true=>
    simp only[yF g,dq];cases Y:od g with
    |false=>simp
    |true=>simp only[yF i,dq]
theorem yF:∀(l:List St) (d:Int),zea (fun x _ (s:Unit)=>(nr x,s)) l d ()=(od l,())
 |[],_=>rfl
 |x::l,d=>by
  rw[zea,od,zti x];cases h:yk x with
  |false=>simp
  |true=>simp only[yF l,dq]
end
def tyP4d.tyF:=ad @cP (ad @b7 (ad @dz (ad @ii (ad @kJ (ad @mP (ad @jY (ad @jZ (ad @iG (ad @iH (ad @gC (ad @mQ (@jF))))))))))))
open tyP4d
noncomputable def Jy:{c:SC // aB 55 (Tryz.f86.body.getD .skip)=c}:=by
 refine⟨?_,?_⟩;rotate_left
 .simp only[Tryz.f86,a8,aB,zda,zc9,zdc,zdd,Nat.blt,Nat.ble];rfl
theorem zlI(f:Fu)(b:List UInt8->Bool):(yl f).all b=(b f.name&&f.params.all b&&f.locals.all b):=by
 rw[yl,List.all_append,List.all_append,mV,BB,jW]
set_option maxRecDepth 100000 in
theorem zia(ρ:Nat->Int)(p:Pr)(hz:p.sz<2^36):bh Tryz.prog ρ 86 [.agg p.cells] (.bool (kh p)):=zdZ fit (pls:=pls) (ztg ρ) (.cons (.agg p.pure) .nil) (.bool _) (by
 have hw:Plain (zcW pls nt) 86:=zdO (fun _=>rfl) rfl;have kn:∀s:List UInt8,s.length<2^60->∀H,zc2 Tryz.prog (zcW pls nt) 127 [.str s] H fun v H'=>v=.bool (zdC s)/\H'=H:=fun s h1 H=>zdW (enc:=kL) (out:=fun x=>.bool (zdC x)) sL (x:=s) rfl h1;have ks:∀l:List (List UInt8),zeJ l<2^60->∀H,zc2 Tryz.prog (zcW pls nt) 128 [zd7 l] H fun v H'=>v=.bool (l.all zdC)/\H'=H:=fun l h1 H=>zdW (enc:=fun l:List (List UInt8)=>[zd7 l]) (out:=fun l=>.bool (l.all zdC)) zxN (x:=l) rfl h1;have hpz:p.sz=1+jC p.arrays+jX p.funcs:=rfl;have hla:=sk p.arrays;have hlf:=sj p.funcs;refine zf (M:=55) (rs:=[.tmp 2]) (hw.call _) hw.ice hw.froz Tryz.func86 rfl rfl Jy.2 rfl ?_;dsimp only[Jy,zcX,Nat.reduceAdd];repeat' (first
  |(apply zcP ?_;clear hK K)|apply Rx.o ?_|apply bE ?_|(apply bW (fun A Z=>?_) (fun A Z=>?_)<;>try(cases A;done))|(apply aU (fun z V=>?_) (fun z V=>?_)<;>try(cases z;done))|apply ak ?_|(apply zcQ fun K hK=>?_)|apply ax ?_|apply zcR ?_|apply am ?_|apply zc4 ?_)
 refine zdN [1,8,9] [0] 10 p.arrays.length (fun i E H=>p.arrays.all (fun a=>zdC a.name)=(p.arrays.drop i).all (fun a=>zdC a.name)) eE aE ?_;rintro i E H2 hi L j m o g;(try simp only[zdh,zdb,a1,zc3,zde,Nat.reduceBEq,Nat.reduceAdd,Nat.reduceLeDiff,tyF, *]at L);(try simp only[zdh,zdb,a1,zc3,zde,Nat.reduceBEq,Nat.reduceAdd,Nat.reduceLeDiff,tyF, *]at j);(try simp only[zc6,zdm,zdK,bz,Nat.reduceAdd]at m);have hB0:(0 == H2.next)=false:=zc7 ac;have hC0:(H2.next == 0)=false:=zc7 ac;repeat' (first
  |(apply zcP ?_;clear hK K)|apply Rx.o ?_|apply bE ?_|(apply bW (fun A Z=>?_) (fun A Z=>?_)<;>try(cases A;done))|(apply aU (fun z V=>?_) (fun z V=>?_)<;>try(cases z;done))|apply ak ?_|(apply zcQ fun K hK=>?_)|apply ax ?_|apply zcR ?_|apply am ?_|apply zc4 ?_)
 .have Y:i<p.arrays.length:=by simpa using z
  have hgx:p.arrays[i]?=some p.arrays[i]:=aO Y;have hsm:=Cj (dx Y);have U:(p.arrays.drop i).all (fun a=>zdC a.name)=(zdC p.arrays[i].name&&(p.arrays.drop (i+1)).all (fun a=>zdC a.name)):=yx;repeat' (first
   |(apply zcP ?_;clear hK K)|apply Rx.o ?_|apply bE ?_|(apply i5 ?_;first|refine Rx.k (kn _ ac _) ?_)|(apply bW (fun A Z=>?_) (fun A Z=>?_)<;>try(cases A;done))|(apply aU (fun z V=>?_) (fun z V=>?_)<;>try(cases z;done))|apply ak ?_|(apply zcQ fun K hK=>?_)|apply ax ?_|apply zcR ?_|apply am ?_|apply zc4 ?_)
  all_goals (first|(refine⟨zcT,_,zcU,?_⟩;(try simp only[zcS]);rw[kh,g,U];(try simp only[ff]at *);simp only[ *,j9,bS,cb,Int.reduceEq];done)|skip)
  refine⟨ac,eL,eL,eN,Ig,?_⟩;rw[g,U];(try simp only[ff]at *);simp only[ *,j9,bS,cb,Int.reduceEq]
 .have J:i=p.arrays.length:=by simp at z;omega
  rw[J,jI]at g;have W:p.arrays.all (fun a=>zdC a.name)=true:=g;clear g J o hi;refine zdN [20,21] [0] 22 p.funcs.length (fun i E H=>p.funcs.all mg=(p.funcs.drop i).all mg) eE aE ?_;rintro i E H3 hi L j m o g;(try simp only[zdh,zdb,a1,zc3,zde,Nat.reduceBEq,Nat.reduceAdd,Nat.reduceLeDiff,tyF, *]at L);(try simp only[zdh,zdb,a1,zc3,zde,Nat.reduceBEq,Nat.reduceAdd,Nat.reduceLeDiff,tyF, *]at j);(try simp only[zc6,zdm,zdK,bz,Nat.reduceAdd]at m);have hB0:(0 == H3.next)=false:=zc7 ac;have hC0:(H3.next == 0)=false:=zc7 ac;repeat' (first
   |(apply zcP ?_;clear hK K)|apply Rx.o ?_|apply bE ?_|(apply bW (fun A Z=>?_) (fun A Z=>?_)<;>try(cases A;done))|(apply aU (fun z V=>?_) (fun z V=>?_)<;>try(cases z;done))|apply ak ?_|(apply zcQ fun K hK=>?_)|apply ax ?_|apply zcR ?_|apply am ?_|apply zc4 ?_)
  .have Y:i<p.funcs.length:=by simpa using z
   have hgx:p.funcs[i]?=some p.funcs[i]:=aO Y;have hsm:=so (dx Y);have hsz:p.funcs[i].sz=1+p.funcs[i].name.length+zeJ p.funcs[i].params+zeJ p.funcs[i].locals+zeO p.funcs[i].body+p.funcs[i].value.sz:=rfl;have U:(p.funcs.drop i).all mg=(mg p.funcs[i]&&(p.funcs.drop (i+1)).all mg):=yx;have O:mg p.funcs[i]=(zdC p.funcs[i].name&&p.funcs[i].params.all zdC&&p.funcs[i].locals.all zdC&&od p.funcs[i].body&&jK p.funcs[i].value):=by rw[mg,zlI]
   repeat' (first
    |(apply zcP ?_;clear hK K)|apply Rx.o ?_|apply bE ?_|(apply i5 ?_;first|refine Rx.k (kn _ ac _) ?_|refine Rx.k (ks _ ac _) ?_)|(apply bW (fun A Z=>?_) (fun A Z=>?_)<;>try(cases A;done))|(apply aU (fun z V=>?_) (fun z V=>?_)<;>try(cases z;done))|apply ak ?_|(apply zcQ fun K hK=>?_)|apply ax ?_|apply zcR ?_|apply am ?_|apply zc4 ?_)
   .refine a4 rfl a6 a7 ?_;simp only[cG];refine aZ ?_ (CF (fun _=>rfl) (fun _=>rfl) ⟨fun _=>rfl,rfl⟩ ⟨fun _=>rfl,rfl⟩ p.funcs[i].value ac _);rintro v H4 ⟨rfl,F⟩;have hn4:=F.next
    simp only[zdm,zc6]at hn4;have g4:H4.get H3.next=some (.cells p.funcs[i].cells 0 true):=by rw[F.get _ (cN _) ta,aX,ay rfl]
    have g40:H4.get 0=some (.cells p.cells 0 true):=by rw[F.get _ (cN _) ta,aX,ah ac,zcY,ah ac];exact j
    dsimp only[zc5];repeat' (first
     |(apply zcP ?_;clear hK K)|apply Rx.o ?_|apply bE ?_|(apply bW (fun A Z=>?_) (fun A Z=>?_)<;>try(cases A;done))|(apply aU (fun z V=>?_) (fun z V=>?_)<;>try(cases z;done))|apply ak ?_|(apply zcQ fun K hK=>?_)|apply ax ?_|apply zcR ?_|apply am ?_|apply zc4 ?_)
    .refine a4 rfl a6 a7 ?_;simp only[cG];refine aZ ?_ (tk (zdO (fun _=>rfl) rfl) (I:=fun(_:Unit) _=>True) (fun _ _ _ _ _=>trivial) zth (zeO p.funcs[i].body+1) p.funcs[i].body ac 0 () H4 ac (cN _) trivial);rintro v H5 ⟨rfl,C,_⟩;have hn5:=C.next
     have g50:H5.get 0=some (.cells p.cells 0 true):=by rw[C.get _ (cN _) ac];exact g40
     rw[yF];dsimp only[zc5];repeat' (first
      |(apply zcP ?_;clear hK K)|apply Rx.o ?_|apply bE ?_|(apply bW (fun A Z=>?_) (fun A Z=>?_)<;>try(cases A;done))|(apply aU (fun z V=>?_) (fun z V=>?_)<;>try(cases z;done))|apply ak ?_|(apply zcQ fun K hK=>?_)|apply ax ?_|apply zcR ?_|apply am ?_|apply zc4 ?_)
     all_goals (first|(refine⟨zcT,_,zcU,?_⟩;(try simp only[zcS]);rw[kh,W,g,U,O];(try simp only[ff]at *);simp only[ *,j9,bS,cb,Int.reduceEq];done)|skip)
     refine⟨ac,eL,eL,eN,vi,?_⟩;rw[g,U,O];(try simp only[ff]at *);simp only[ *,j9,bS,cb,Int.reduceEq]
    all_goals skip
    all_goals (first|(refine⟨zcT,_,zcU,?_⟩;(try simp only[zcS]);rw[kh,W,g,U,O];(try simp only[ff]at *);simp only[ *,j9,bS,cb,Int.reduceEq];done)|skip)
   all_goals skip
   all_goals (first|(refine⟨zcT,_,zcU,?_⟩;(try simp only[zcS]);rw[kh,W,g,U,O];(try simp only[ff]at *);simp only[ *,j9,bS,cb,Int.reduceEq];done)|skip)
  .all_goals (refine⟨zcT,_,zcU,?_⟩;try simp only[zcS])
   have J:i=p.funcs.length:=rj;rw[J,jI]at g;have hJ2:p.funcs.all mg=true:=g;rw[kh,W,hJ2];rfl)
end
section
def tyP4h.tyF:=ad @ii (ad @mP (@jY))
open tyP4h
noncomputable def Jz:{c:SC // aB 16 (Tryz.f55.body.getD .skip)=c}:=by
 refine⟨?_,?_⟩;rotate_left
 .simp only[Tryz.f55,a8,aB,zda,zc9,zdc,zdd,Nat.blt,Nat.ble];rfl
noncomputable def JA:En:=⟨85,false,b0 (fun p=>p.sz<2^36) fp fun p=>.bool (iZ p)⟩
theorem zns(ρ:Nat->Int)(p:Pr)(m:p.sz<2^36):bh Tryz.prog ρ 85 (fp p) (.bool (iZ p)):=zdZ fit (pls:=pls) (l:=[]) trivial (.cons (.agg p.pure) .nil) (.bool _) (ZA ⟨zed _,zed _,zed _,zed _⟩ (zed _) (zed _) (zed _) p ac)
theorem ztj(ρ:Nat->Int):zdF Tryz.prog ρ JA:=zdM fun p hp=>zns ρ p hp
noncomputable def JB:En:=⟨86,false,b0 (fun p=>p.sz<2^36) fp fun p=>.bool (kh p)⟩
theorem ztk(ρ:Nat->Int):zdF Tryz.prog ρ JB:=zdM fun p hp=>zia ρ p hp
noncomputable def JC:En:=⟨87,false,b0 (fun p=>p.sz<2^36) fp fun p=>.bool (lF p)⟩
theorem zpL(ρ:Nat->Int):zdF Tryz.prog ρ JC:=zdM fun p hp=>Zi ρ p hp
noncomputable def JD:En:=⟨88,false,b0 (fun p=>p.sz<2^36) fp fun p=>.int .i64 (ru p)⟩
theorem ztm(ρ:Nat->Int):zdF Tryz.prog ρ JD:=zdM fun p hp=>Zz ρ p hp
noncomputable def tp:List En:=[JA,JB,JC,JD]
theorem zpM(ρ:Nat->Int):fb Tryz.prog ρ tp:=⟨ztj ρ,ztk ρ,zpL ρ,ztm ρ,trivial⟩
theorem znt(ρ:Nat->Int)(p:Pr)(m:p.sz<2^36):bh Tryz.prog ρ 55 (fp p) (.int .i64 (nj p)):=zdZ fit (pls:=pls) (zpM ρ) (.cons (.agg p.pure) .nil) (.int _ _) (by
 have J:Plain (zcW pls tp) 55:=zdO (fun _=>rfl) rfl;have F:∀H,zc2 Tryz.prog (zcW pls tp) 85 [.agg p.cells] H fun v H'=>v=.bool (iZ p)/\H'=H:=fun H=>zdW (enc:=fp) (out:=fun p=>.bool (iZ p)) rg (x:=p) rfl m;have j:∀H,zc2 Tryz.prog (zcW pls tp) 86 [.agg p.cells] H fun v H'=>v=.bool (kh p)/\H'=H:=fun H=>zdW (enc:=fp) (out:=fun p=>.bool (kh p)) rg (x:=p) rfl m;have U:∀H,zc2 Tryz.prog (zcW pls tp) 87 [.agg p.cells] H fun v H'=>v=.bool (lF p)/\H'=H:=fun H=>zdW (enc:=fp) (out:=fun p=>.bool (lF p)) rg (x:=p) rfl m;have A:∀H,zc2 Tryz.prog (zcW pls tp) 88 [.agg p.cells] H fun v H'=>v=.int .i64 (ru p)/\H'=H:=fun H=>zdW (enc:=fp) (out:=fun p=>.int .i64 (ru p)) rg (x:=p) rfl m;rw[fp,<-Y8];refine zf (M:=16) (rs:=[.tmp 2]) (J.call _) J.ice J.froz Tryz.func55 rfl rfl Jz.2 rfl ?_;dsimp only[Jz,zcX,Nat.reduceAdd];repeat' (first
  |(apply zcP ?_;clear hK K)|apply Rx.o ?_|(apply i5 ?_;first|refine Rx.k (F _) ?_|refine Rx.k (j _) ?_|refine Rx.k (U _) ?_|refine Rx.k (A _) ?_)|(apply aU (fun z V=>?_) (fun z V=>?_)<;>try(cases z;done))|apply ak ?_|(apply zcQ fun K hK=>?_)|apply ax ?_|apply zcR ?_|apply am ?_)
 all_goals
  all_goals (refine⟨zcT,_,zcU,?_⟩;try simp only[zcS])
  rw[Cl];(try simp only[ff]at *);simp only[k9,ct, *,j9,bS,cb,Int.reduceEq])
end
section
def tyG1.tyF:=ad @b7 (ad @cP (ad @ly (ad @dz (ad @jZ (ad @oN (@mJ))))))
open tyG1
noncomputable def JE:{c:SC // aB 14 (Tryz.f11.body.getD .skip)=c}:=by
 refine⟨?_,?_⟩;rotate_left
 .simp only[Tryz.f11,a8,aB,zda,zc9,zdc,zdd,Nat.blt,Nat.ble];rfl
def zdP(n m:Int):Int:=if n.tmod m<0 then eK (n.tmod m+m)else n.tmod m
theorem vC{n m:Int}(h:0<m)(h2:m<2^62):0<=zdP n m/\zdP n m<m:=by
 unfold zdP;have Z:=yE n h;have U:-m<n.tmod m:=by
  have:=yE (-n) h;rw[Int.neg_tmod]at this;omega
 split
 .unfold eK;rw[qd _ ac];omega
 .omega
def rD(x:Int×Int):List AV:=[.int .i64 x.1,.int .i64 x.2]
theorem zxP(x y:Int×Int)(h:rD x=rD y):x=y:=by
 simp only[rD,cS,AV.int.injEq,a1,fM]at h;exact j3 h.1 h.2
theorem ztn(ρ:Nat->Int)(x:Int×Int)(F:x.2≠0):bh Tryz.prog ρ 11 (rD x) (.int .i64 (zdP x.1 x.2)):=zdZ fit (pls:=pls) (l:=[]) trivial (.cons (.int _ _) (.cons (.int _ _) .nil)) (.int _ _) (by
 have J:=zed 11;obtain⟨n,m⟩:=x;rw[rD];simp only[]at F⊢;refine zf (M:=14) (rs:=[.tmp 4]) (J.call _) J.ice J.froz Tryz.func11 rfl rfl JE.2 rfl ?_;dsimp only[JE,zcX,Nat.reduceAdd];repeat' (first
  |(apply zcP ?_;clear hK K)|apply Rx.o ?_|(apply aU (fun z V=>?_) (fun z V=>?_)<;>try(cases z;done))|apply ak ?_|(apply zcQ fun K hK=>?_)|apply zcR ?_|apply am ?_)
 all_goals (refine⟨zcT,_,zcU,?_⟩;try simp only[zcS])
 all_goals (simp_all[zdP];try omega))
noncomputable def JF:En:=⟨11,false,b0 (fun x=>x.2≠0) rD fun x=>.int .i64 (zdP x.1 x.2)⟩
theorem zpN(ρ:Nat->Int):zdF Tryz.prog ρ JF:=zdM fun x F=>ztn ρ x F
end
section
def tyG2.tyF:=ad @b7 (ad @ei (@Ru))
open tyG2
def eC(S:Nat->Prop)(n:Nat)(H:Hp)(v w:AV):Prop:=∃u,zdI S n H v u/\∀m,n<=m->bF m u=w
def zdQ(S:Nat->Prop)(n:Nat)(H:Hp)(cs V:List AV):Prop:=∃I,zdo (zdI S n H) cs I/\∀m,n<=m->I.map (bF m)=V
theorem zdQ.frame{S S':Nat->Prop}(hS:∀k,S k->S' k){n:Nat}{H H':Hp}{v w:List AV}(h:zdQ S n H v w)(o:H.next<=H'.next)(j:∀k,S k->k<H.next->oQ (H.get k) (H'.get k)):zdQ S' n H' v w:=by
 obtain⟨u,i,g⟩:=h;exact⟨u,i.mono fun a b k=>k.frame hS o j,g⟩
theorem zdQ.keep{S S':Nat->Prop}(hS:∀k,S k->S' k){n:Nat}{H H':Hp}{v w:List AV}(h:zdQ S n H v w)(o:H.next<=H'.next)(j:∀k,S k->k<H.next->H'.get k=H.get k):zdQ S' n H' v w:=h.frame hS o fun k i g=>.inl (j k i g).symm
theorem eC.up{S:Nat->Prop}{n m:Nat}{H:Hp}{v w:AV}(h:eC S n H v w)(M:n<=m):eC S m H v w:=by
 obtain⟨u,i,g⟩:=h;exact⟨u,i.up M,fun k j=>g k ac⟩
theorem zdQ.nil{S:Nat->Prop}{n:Nat}{H:Hp}:zdQ S n H [] []:=⟨[],trivial,fun _ _=>rfl⟩
theorem zdQ.cons{S:Nat->Prop}{n:Nat}{H:Hp}{v w:AV}{cs V:List AV}(h:eC S n H v w)(k:zdQ S n H cs V):zdQ S n H (v::cs) (w::V):=by
 obtain⟨u,i,g⟩:=h;obtain⟨I,Z,U⟩:=k;exact⟨u::I,⟨i,Z⟩,fun m M=>by rw[dO,g m M,U m M]⟩
theorem eC.flat{S:Nat->Prop}{n:Nat}{H:Hp}{v:AV}(h:EV v)(j:∀m,bF m v=v):eC S (n+1) H v v:=⟨v,ls h,fun m _=>j m⟩
theorem eC.int{S:Nat->Prop}{n:Nat}{H:Hp}(k:IntKind)(x:Int):eC S (n+1) H (.int k x) (.int k x):=.flat ⟨.int _ _,trivial⟩ fun m=>by cases m<;>rfl
theorem eC.str{S:Nat->Prop}{n:Nat}{H:Hp}(s:List UInt8):eC S (n+1) H (.str s) (.str s):=.flat ⟨.str _,trivial⟩ fun m=>by cases m<;>rfl
theorem eC.nilS{S:Nat->Prop}{n:Nat}{H:Hp}:eC S (n+1) H .nilS (.lst []):=⟨.nilS,ls ⟨.nilS,trivial⟩,fun m M=>by
 obtain⟨m,rfl⟩:∃k,m=k+1:=⟨m-1,ac⟩;rfl⟩
def hB(S:Nat->Prop)(n:Nat)(H:Hp)(z:Nat):List (List AV)->List (List AV)->Prop:=zdo fun a b=>a.length=z/\zdQ S n H a b
theorem hB.two{S:Nat->Prop}{n z:Nat}{H:Hp}:∀{a b:List (List AV)},hB S n H z a b->∃u,zdo (zdo (zdI S n H)) a u/\(∀m,n<=m->u.map (List.map (bF m))=b)/\∀x∈a,x.length=z
 |[],[],_=>⟨[],trivial,fun _ _=>rfl,aE⟩
 |x::a,y::b,⟨⟨hz,v,h1,h2⟩,h⟩=>by
  obtain⟨u,Z,U,i⟩:=hB.two (a:=a) (b:=b) h;exact⟨v::u,⟨h1,Z⟩,fun m M=>by rw[dO,h2 m M,U m M],fun q K=>by
   rcases fk.1 K with rfl|K
   .exact hz
   .exact i q K⟩
theorem eC.rows{S:Nat->Prop}{n:Nat}{H:Hp}{r z imm:Nat}{tip:Bool}{a b:List (List AV)}(hS:S r)(hr:r<H.next)(Z:H.get r=some (.cells a.flatten imm tip))(C:imm<=a.flatten.length)(h:hB S n H z a b):eC S (n+1) H (.sl r 0 a.length z) (.lst b):=by
 obtain⟨u,i,g,Y⟩:=hB.two h;refine⟨.lst u,zdI.rows hS hr Z C Y i,fun m M=>?_⟩;obtain⟨m,rfl⟩:∃k,m=k+1:=⟨m-1,ac⟩;show AV.lst (u.map fun A=>A.map (bF m))=_;rw[<-g m ac]
def yG:=@eC.rows
theorem hB.frame{S S':Nat->Prop}(hS:∀k,S k->S' k){n z:Nat}{H H':Hp}{a b:List (List AV)}(h:hB S n H z a b)(o:H.next<=H'.next)(j:∀k,S k->k<H.next->H'.get k=H.get k):hB S' n H' z a b:=zdo.mono (fun x y k=>⟨k.1,k.2.keep hS o j⟩) h
end
section
theorem zdQ.keep2{S S':Nat->Prop}{n:Nat}{H H':Hp}{v w:List AV}(h:zdQ S n H v w)(hS:∀k,k<H.next->S k->S' k)(o:H.next<=H'.next)(j:∀k,S k->k<H.next->H'.get k=H.get k):zdQ S' n H' v w:=by
 obtain⟨u,i,g⟩:=h;exact⟨u,i.mono fun a b k=>k.frame2 hS o fun q m U=>.inl (j q m U).symm,g⟩
theorem hB.keep2{S S':Nat->Prop}{n z:Nat}{H H':Hp}{a b:List (List AV)}(h:hB S n H z a b)(hS:∀k,k<H.next->S k->S' k)(o:H.next<=H'.next)(j:∀k,S k->k<H.next->H'.get k=H.get k):hB S' n H' z a b:=zdo.mono (fun x y k=>⟨k.1,k.2.keep2 hS o j⟩) h
theorem hB.len{S:Nat->Prop}{n z:Nat}{H:Hp}:∀{a b:List (List AV)},hB S n H z a b->∀x∈a,x.length=z
 |[],[],_,x,F=>by simp at F
 |y::a,w::b,h,x,F=>by
  rcases fk.1 F with rfl|F
  .exact h.1.1
  .exact hB.len h.2 x F
def ja(S:Nat->Prop)(n:Nat)(H:Hp)(z:Nat)(v:AV)(V:List (List AV)):Prop:=
 (v=.nilS/\V=[])\/∃q g rows,v=.sl q 0 rows.length z/\S q/\q<H.next/\H.get q=some (.cells rows.flatten g true)/\g<=rows.flatten.length/\hB (fun k=>S k/\k≠q) n H z rows V
theorem ja.rd{S:Nat->Prop}{n:Nat}{H:Hp}{z:Nat}{v:AV}{V:List (List AV)}(h:ja S n H z v V):eC S (n+1) H v (.lst V):=by
 rcases h with⟨rfl,rfl⟩|⟨q,g,rows,rfl,i,Z,m,U,Y⟩
 .exact .nilS
 .exact .rows i Z m U (Y.frame (fun k j=>j.1) (aM _) fun _ _ _=>rfl)
theorem ja.keep{S S':Nat->Prop}{n:Nat}{H H':Hp}{z:Nat}{v:AV}{V:List (List AV)}(h:ja S n H z v V)(hS:∀k,k<H.next->S k->S' k)(o:H.next<=H'.next)(j:∀k,S k->k<H.next->H'.get k=H.get k):ja S' n H' z v V:=by
 rcases h with h|⟨q,g,rows,e,i,Z,m,U,W⟩
 .exact .inl h
 .exact .inr ⟨q,g,rows,e,hS q Z i,ac,by rw[j q i Z];exact m,U,W.keep2 (fun k Y K=>⟨hS k Y K.1,K.2⟩) o fun k F I=>j k F.1 I⟩
theorem ja.one{S:Nat->Prop}{n:Nat}{H:Hp}{z:Nat}{v:AV}{V:List (List AV)}(h:ja S n H z v V):AV.one v=true/\v.cells=[v]:=by
 rcases h with⟨rfl,rfl⟩|⟨q,g,rows,rfl,_⟩<;>exact⟨rfl,rfl⟩
theorem ja.len{P:Program}{t e:TypeId}(C:P.underlying t=some (.slice e)){S:Nat->Prop}{n:Nat}{H H':Hp}{z:Nat}{v:AV}{V:List (List AV)}(h:ja S n H z v V):zdu P H' t v=some (.int .i64 V.length):=by
 rcases h with⟨rfl,rfl⟩|⟨q,g,rows,rfl,Z,Y,m,U,i⟩
 .exact zeW C
 .rw[zeV C,show rows.length=V.length from zdo.len i]
noncomputable def CH:En:=⟨55,true,b0 (fun p=>p.sz<2^36) fp fun p=>.int .i64 (nj p)⟩
theorem zpO(ρ:Nat->Int):zdF Tryz.prog ρ CH:=zdM fun p hp=>znt ρ p hp
theorem zaE(p:Pr):(fp p).any (jp 90)=false:=rfl
theorem zaF{l:List En}(I:∀z,zdS l 55 z=(kI CH).sp z)(C:iF l 55=true){S:Nat->Prop}{n:Nat}{H:Hp}{cs:List AV}{p:Pr}(o:n<59)(O:zdQ S n H cs p.cells)(m:p.sz<2^36):
 zc2 Tryz.prog (zcW pls l) 55 [.agg cs] H fun v H'=>v=.int .i64 (nj p)/\Icy S H H':=by
 obtain⟨us,i,g⟩:=O;refine sM (x:=p) (enc:=fp) (ok:=fun p=>p.sz<2^36) (out:=fun p=>.int .i64 (nj p)) (us:=[.agg us]) (n:=n+1) rg (fun z=>r0) C zaE m ac ⟨⟨us,i,rfl⟩,trivial⟩ ?_;show [AV.agg (us.map (bF 59))]=_;rw[g 59 ac];rfl
theorem JG(m:Nat)(k:IntKind)(n:Int):bF m (.int k n)=.int k n:=by cases m<;>rfl
theorem zaG(m:Nat)(s:List UInt8):bF m (.str s)=.str s:=by cases m<;>rfl
theorem Ar.wk(m:Nat)(x:Ar):x.cells.map (bF m)=x.cells:=by
 rw[Ar.cells_eq];simp only[dO,xV,zaG,JG]
theorem JH{M:Type}{f:M->List AV}(h:∀m x,(f x).map (bF m)=f x)(l:List M)(m:Nat):bF m (.lst (l.map f))=.lst (l.map f):=by
 cases m with
 |zero=>rfl
 |succ m=>
  simp only[bF,oL];have:(fun A=>List.map (bF m) A) ∘ f=f:=funext fun y=>h m y;rw[this]
theorem zxQ(l:List Int)(m:Nat):bF m (.lst (l.map fun n=>[AV.int .i64 n]))=.lst (l.map fun n=>[AV.int .i64 n]):=JH (f:=fun n:Int=>[AV.int .i64 n]) (fun m x=>by simp only[dO,xV,JG]) l m
theorem eC.agg{S:Nat->Prop}{n:Nat}{H:Hp}{cs V:List AV}(h:zdQ S n H cs V):eC S (n+1) H (.agg cs) (.agg V):=by
 obtain⟨I,i,g⟩:=h;refine⟨.agg I,⟨I,i,rfl⟩,fun m M=>?_⟩;obtain⟨m,rfl⟩:∃k,m=k+1:=⟨m-1,ac⟩;show AV.agg (I.map (bF m))=_;rw[g m ac]
def nu:=@eC.agg
theorem rE{S:Nat->Prop}{n:Nat}{H:Hp}{q imm:Nat}{tip:Bool}(l:List Int)(hS:S q)(K:q<H.next)(A:H.get q=some (.cells (l.map fun n=>.int .i64 n) imm tip))(C:imm<=l.length):eC S (n+2) H (.sl q 0 l.length 1) (.lst (l.map fun n=>[.int .i64 n])):=by
 have j:(l.map fun n=>[AV.int .i64 n]).flatten=l.map fun n=>AV.int .i64 n:=by
  clear A C;induction l with
  |nil=>rfl
  |cons a l ih=>rw[dO,lQ,ih];rfl
 have hr:∀l:List Int,hB S (n+1) H 1 (l.map fun n=>[AV.int .i64 n]) (l.map fun n=>[AV.int .i64 n]):=fun l=>by
  induction l with
  |nil=>trivial
  |cons a l ih=>exact⟨⟨rfl,.cons (.int _ _) .nil⟩,ih⟩
 have:=yG (n:=n+1) (a:=l.map fun n=>[AV.int .i64 n]) (imm:=imm) (tip:=tip) hS K (by rw[j];exact A) (by rw[j,cX];exact C) (hr l);rw[cX]at this;exact this
theorem znv{cfg:Cfg}(fit:Fit Tryz.prog){ρ:Nat->Int}(L:kA cfg.dec ρ)(O:∀f args r,cfg.call f args=some r->bh Tryz.prog ρ f args r){g:FuncId}{args:List AV}{r:AV}{n:Nat}
 (V:eS args) (h:zc2 Tryz.prog cfg g args zdw fun v H'=>∃m u,iceV H' m v=some u/\bF n u=r):bh Tryz.prog ρ g args r:=by
 unfold zc2 at h;obtain⟨v,H',i,m,u,Z,Y⟩:=h;refine AN n (zfE (m:=m) fit L O V ?_) Y;unfold zc2;exact⟨v,H',i,Z⟩
theorem zj3{P:Program}{t e:TypeId}{z b:Nat}{A:List AV}(j:P.underlying t=some (.slice e))(g:zc8 P e=some z)(O:zdz P e=some b)(hz:zdq P e=some A)(L:A.length=z)(C:kw P t=true)
 {S S':Nat->Prop}{n:Nat}{H:Hp}{v:AV}{Y:List (List AV)} (h:ja S n H z v Y) (J:∀k,k<H.next->S k->S' k) (hN:S' H.next) {r imm:Nat}{row:List AV} (hg:H.get r=some (.cells row imm true)) (hrow:row.length=z) (W:row.all AV.one=true)
 (U:(Y.length+1)*b<=zef) (F:Y.length+1<=zef) :
 ∃H' rows Z,zen P false H t t v (.sl r 0 1 z)=some (.sl H.next 0 (Y.length+1) z,H')/\rows.length=Y.length/\(∀x∈rows,x.length=z)/\H'.get H.next=some (.cells (rows.flatten++row) Z true)/\Z<=rows.flatten.length/\H'.next=H.next+1/\(∀k,k<H.next->(∀o m z',v≠.sl k o m z')->H'.get k=H.get k) /\
  hB (fun k=>S' k/\k≠H.next) n H' z rows Y:=by
 have hx:zeN H z (.sl r 0 1 z)=some (1,row):=by
  have:=lX (H:=H) (r:=r) (o:=0) (n:=1) (z:=z) (s:=z) hg FY;rw[this,dW,eF ac]
 rcases h with⟨rfl,rfl⟩|⟨q,Z,rows,rfl,h1,h2,h3,h4,i⟩
 .exact⟨H.alloc (.cells row 0 true),[],0,append_nil j g O hz C hx W L (by simpa using U) t8,rfl,aE,by rw[zcY,ay rfl];simp,cN _,rfl,fun k hk _=>fK,trivial⟩
 .have hrl:=xf (hB.len i);have V:rows.length=Y.length:=zdo.len i;have I:gh false H z (.sl q 0 rows.length z)=H:=by
   unfold gh;simp only[h3,bz];have:Nat.blt (rows.length*z) rows.flatten.length=false:=by
    cases O:Nat.blt (rows.length*z) rows.flatten.length with
    |false=>rfl
    |true=>rw[gL]at O;omega
   simp only[gR,dq,this,dX]
  refine⟨(H.kill q).alloc (.cells (rows.flatten++row) (Z-0) true),rows,Z-0,?_,V,hB.len i,?_,ac,rfl,fun k hk M=>?_,?_⟩
  .simp only[zen,j,g,O,hz,C,hx,W,I,L,mH,bS,zfz,h3,bz,dW,ct,cb];rw[ay ⟨by rw[V];exact U,by rw[V];exact F,ac,trivial,h4⟩,V]
  .show((H.kill q).alloc _).get (H.kill q).next=_
   rw[zcY,ay rfl]
  .rw[zcY,ah lA,zeI,ah (fun e=>M 0 rows.length z li)]
  .exact i.keep2 (fun k K h7=>⟨J k K h7.1,ac⟩) (gm _) fun k K h7=>by rw[zcY,ah lA,zeI,ah K.2]
theorem ja.of{S:Nat->Prop}{n q z imm:Nat}{H:Hp}{rows V:List (List AV)}{row w:List AV}(hS:S q)(K:q<H.next)(m:∀x∈rows,x.length=z)(o:row.length=z)(A:H.get q=some (.cells (rows.flatten++row) imm true))(C:imm<=rows.flatten.length)(hr:hB (fun k=>S k/\k≠q) n H z rows V)(J:zdQ (fun k=>S k/\k≠q) n H row w):ja S n H z (.sl q 0 (V.length+1) z) (V++[w]):=by
 have I:rows.length=V.length:=zdo.len hr;exact .inr ⟨q,imm,rows++[row],by rw[fv,I];rfl,hS,K,by rw[A];simp,by rw[List.flatten_append,fv];omega,hr.append ⟨⟨o,J⟩,trivial⟩⟩
theorem JI{P:Program}{t e:TypeId}{z b:Nat}{A:List AV}(M:P.underlying t=some (.slice e))(I:zc8 P e=some z)(j:zdz P e=some b)(hz:zdq P e=some A)(L:A.length=z)(C:kw P t=true)
 {S S':Nat->Prop}{n:Nat}{H:Hp}{v:AV}{V:List (List AV)} (h:ja S n H z v V) (J:∀k,k<H.next->S k->S' k) (K:S' H.next) {r imm:Nat}{row w:List AV} (hg:H.get r=some (.cells row imm true)) (Z:row.length=z) (W:row.all AV.one=true)
 (hw:zdQ (fun k=>S' k/\∀o m U,v≠.sl k o m U) n H row w) (Y:(V.length+1)*b<=zef) (F:V.length+1<=zef) :
 ∃H',zen P false H t t v (.sl r 0 1 z)=some (.sl H.next 0 (V.length+1) z,H')/\ja S' n H' z (.sl H.next 0 (V.length+1) z) (V++[w])/\H'.next=H.next+1/\(∀k,k<H.next->(∀o m U,v≠.sl k o m U)->H'.get k=H.get k):=by
 obtain⟨H',rows,O,zd0,a2,a3,zeh,a5,zfu,zfG,zfI⟩:=zj3 (P:=P) M I j hz L C h J K hg Z W Y F;refine⟨H',zd0,?_,zfu,zfG⟩;exact ja.of K ac a3 Z zeh a5 zfI (hw.keep2 (fun k i g=>⟨g.1,ac⟩) ac fun k i g=>zfG k g i.2)
def tyV7.tyF:=ad @cP (ad @b7 (ad @dz (ad @eT (ad @mN (ad @mO (ad @ii (ad @jE (ad @kJ (ad @mP (ad @jY (ad @sC (ad @jZ (ad @iG (ad @iH (ad @gC (@mQ))))))))))))))))
open tyV7
noncomputable def JJ:{c:SC // aB 43 (Tryz.f31.body.getD .skip)=c}:=by
 refine⟨?_,?_⟩;rotate_left
 .simp only[Tryz.f31,a8,aB,zda,zc9,zdc,zdd,Nat.blt,Nat.ble];rfl
def fF(g:Gr):Fu:=⟨g.name,[],[],[],.mk 1 0 [] 0 []⟩
def gD(u:Un):Pr:=⟨u.arrays,u.funcs.map fF⟩
def f9(u:Un):Bool:=decide (nj (gD u)=0)&&u.funcs.all (el u)
structure UnOk (u:Un):Prop where
 a:u.arrays.length<2^30
 f:u.funcs.length<2^30
 g:∀g∈u.funcs,zeu g.nodes
 z:(gD u).sz<2^36
noncomputable def JK:En:=⟨63,false,b0 yw mh fun x=>.bool (el x.u x.g)⟩
theorem zxR(ρ:Nat->Int):zdF Tryz.prog ρ JK:=zdM fun x F=>Zr ρ x F
noncomputable def vD:List En:=[kI CH,JK]
theorem zxS(ρ:Nat->Int):fb Tryz.prog ρ vD:=⟨sw (zpO ρ),zxR ρ,trivial⟩
theorem zaM(s:List UInt8):zeb Tryz.prog 106 [(0,.str s),(4,.agg [.int .i64 1,.int .i64 0,.str [],.int .i64 0,.nilS])]=some (.agg [.str s,.nilS,.nilS,.nilS,.int .i64 1,.int .i64 0,.str [],.int .i64 0,.nilS]):=af
theorem zaN:zeb Tryz.prog 104 [(0,.int .i64 1)]=some (.agg [.int .i64 1,.int .i64 0,.str [],.int .i64 0,.nilS]):=af
theorem zaO(a:AV)(xs:List (List AV))(h:a=.lst xs):zeb Tryz.prog 64 [(0,a)]=some (.agg [a,.nilS]):=by subst h;kernel_rfl
theorem zaP(H:Hp)(s:List UInt8):zej Tryz.prog H 62 1 [(0,.agg [.str s,.nilS,.nilS,.nilS,.int .i64 1,.int .i64 0,.str [],.int .i64 0,.nilS])]=some (.sl H.next 0 1 9,H.alloc (.cells [.str s,.nilS,.nilS,.nilS,.int .i64 1,.int .i64 0,.str [],.int .i64 0,.nilS] 0 true)):=af
theorem zxT{S:Nat->Prop}{H:Hp}(g:Gr):zdQ S 2 H [.str g.name,.nilS,.nilS,.nilS,.int .i64 1,.int .i64 0,.str [],.int .i64 0,.nilS] (fF g).cells:=
 .cons (.str _) (.cons .nilS (.cons .nilS (.cons .nilS (.cons (.int _ _) (.cons (.int _ _) (.cons (.str _) (.cons (.int _ _) (.cons .nilS .nil))))))))
set_option maxRecDepth 100000 in
theorem znw(ρ:Nat->Int)(u:Un)(hu:UnOk u):bh Tryz.prog ρ 31 [.agg u.cells] (.bool (f9 u)):=zdZ fit (pls:=pls) (zxS ρ) (.cons (.agg (sA _)) .nil) (.bool _) (by
 obtain⟨ha,hf,hg,hz⟩:=hu;have hw:Plain (zcW pls vD) 31:=zdO (fun _=>rfl) rfl;have hkeep:(zcW pls vD).keep 31=false:=rfl;have bP:=zaO (.lst (u.arrays.map Ar.cells)) _ rfl;refine zf (M:=43) (rs:=[.tmp 2]) (hw.call _) hw.ice hw.froz Tryz.func31 rfl rfl JJ.2 rfl ?_;dsimp only[JJ,zcX,Nat.reduceAdd];repeat' (first
  |(apply zcP ?_;clear hK K)|apply Rx.o ?_|apply bE ?_|apply ak ?_|(apply zcQ fun K hK=>?_)|apply ax ?_|fail)
 refine zdN [1,2,3,12,13] [0] 14 u.funcs.length (fun i E Z=>∃W,Z.get 1=some (.cells [.lst (u.arrays.map Ar.cells),W] 0 true)/\ja (fun k=>2<=k) 2 Z 9 W (((u.funcs.map fF).take i).map Fu.cells)) eE ⟨.nilS,vh,.inl ⟨rfl,rfl⟩⟩ ?_;rintro i E Z hi F C U hsI ⟨W,g1,rf⟩;(try simp only[zdh,zdb,a1,zc3,zde,Nat.reduceBEq, *]at F);(try simp only[zdh,zdb,a1,zc3,zde,Nat.reduceBEq, *]at C);(try simp only[zc6,zdm,zdK,bz,Nat.reduceAdd]at U);have hB0:(0 == Z.next)=false:=zc7 ac;have hC0:(Z.next == 0)=false:=zc7 ac;have ni:2<=Z.next:=U
 obtain⟨hf1,hf2⟩:=rf.one;by_cases hlt:i<u.funcs.length
 .have hlt':(i:Int)<u.funcs.length:=by omega
  have hgx:u.funcs[i]?=some u.funcs[i]:=aO hlt;have htk:((u.funcs.map fF).take (i+1)).map Fu.cells=((u.funcs.map fF).take i).map Fu.cells++[(fF u.funcs[i]).cells]:=by
   rw[mz,ea,hgx,qi];rfl
  have Y:(((u.funcs.map fF).take i).map Fu.cells).length=i:=by rw[cX,iS,cX];omega
  generalize u.funcs[i]=g at *;have g1a:∀b c,((Z.alloc b).set Z.next c).get 1=some (.cells [.lst (u.arrays.map Ar.cells),W] 0 true):=fun b c=>by rw[aX,ah ac,zcY,ah ac];exact g1
  generalize hcells:((u.funcs.map fF).take i).map Fu.cells=fs at *;have gh0:=@zaN;have gh1:=@zaM;have gh2:=@zaP;repeat' (first
   |(apply zcP ?_;clear hK K)|apply Ry.o ?_|apply bl ?_|(apply az (fun z V=>?_) (fun z V=>?_)<;>try(cases z;done))|apply ak ?_|(apply zcQ fun K hK=>?_)|apply ax ?_|apply zcR ?_|fail)
  generalize A:Hp.alloc (Hp.set (Z.alloc _) _ _) _=Hb;have nb:Hb.next=Z.next+2:=by rw[<-A];rfl
  have O:∀k,k<Z.next->Hb.get k=Z.get k:=fun k L=>by rw[<-A,zcY,ah Ce,aX,ah ac,zcY,ah ac]
  have gr:Hb.get (Z.next+1)=some (.cells [.str g.name,.nilS,.nilS,.nilS,.int .i64 1,.int .i64 0,.str [],.int .i64 0,.nilS] 0 true):=Cf;clear A;have hfq:∀k,k<=1->∀o m z',W≠.sl k o m z':=fun k L o m z' e=>by
   rcases rf with⟨h1,_⟩|⟨q,im,rows,h1,h2,h3,_⟩
   .rw[h1]at e;cases e
   .rw[h1]at e;simp only[AV.sl.injEq]at e;omega
  obtain⟨H7,zfG,zfJ,n7,q7⟩:=JI (P:=Tryz.prog) (t:=62) Tryz.underlying62 A5 Fk Fl rfl af (S':=fun k=>2<=k)
   (rf.keep (S':=fun k=>2<=k) (H':=Hb) (fun _ _ h=>h) ac fun k _ L=>O k L) (fun _ _ h=>h) ac (r:=Z.next+1) (imm:=0) (row:=[.str g.name,.nilS,.nilS,.nilS,.int .i64 1,.int .i64 0,.str [],.int .i64 0,.nilS]) (w:=(fF g).cells) gr rfl rfl (zxT g)
   Jo Jo
  rw[Y]at zfG zfJ;have g17:H7.get 1=some (.cells [.lst (u.arrays.map Ar.cells),W] 0 true):=by rw[q7 1 ac (hfq 1 ac),O 1 ac];exact g1
  have g07:H7.get 0=Z.get 0:=by rw[q7 0 ac (hfq 0 ac),O 0 ac]
  have n7':Z.next<=H7.next:=ac
  clear O gr q7 hfq nb;repeat' (first
   |(apply zcP ?_;clear hK K)|apply Rx.o ?_|apply bE ?_|(apply zcQ fun K hK=>?_)|fail)
  refine⟨ac,eL,eL,eN,tn,?_⟩;refine⟨.sl Hb.next 0 (i+1) 9,vh,?_⟩;rw[htk];exact zfJ.keep (fun _ _ h=>h) (aM _) fun k L _=>by rw[aX,ah ac]
 .have hlt':¬(i:Int)<u.funcs.length:=by omega
  have hti:(u.funcs.map fF).take i=u.funcs.map fF:=eF (by rw[cX];omega);rw[hti]at rf;have hcw:zdQ (fun k=>2<=k) 3 Z [.lst (u.arrays.map Ar.cells),W] (gD u).cells:=.cons (.flat ⟨.map fun x _=>x.pure,trivial⟩ fun m=>JH (f:=Ar.cells) Ar.wk u.arrays m) (.cons rf.rd .nil);have ag:zdA 2 [.lst (u.arrays.map Ar.cells),W]=some (.agg [.lst (u.arrays.map Ar.cells),W]):=rfl;repeat' (first
   |(apply zcP ?_;clear hK K)|apply Ry.o ?_|(apply az (fun z V=>?_) (fun z V=>?_)<;>try(cases z;done))|apply ak ?_|(apply zcQ fun K hK=>?_)|apply zc4 ?_)
  refine a4 rfl a6 a7 ?_;simp only[bB];refine aZ ?_ (zaF (l:=vD) (fun _=>rfl) rfl ac hcw hz);rintro v H4 ⟨rfl,hy⟩;have g04:H4.get 0=Z.get 0:=hy.out 0 ac;have n4:=hy.next
  clear hcw g1 rf;dsimp only[zc5];by_cases hc:nj (gD u)=0
  .have hU:f9 u=u.funcs.all (el u):=by rw[f9,hc];rfl
   repeat' (first
    |(apply zcP ?_;clear hK K)|apply Ry.o ?_|(apply az (fun z V=>?_) (fun z V=>?_)<;>try(cases z;done))|apply ak ?_|(apply zcQ fun K hK=>?_)|apply ax ?_|apply zcR ?_|fail)
   refine zdN [1,32,33] [0] 34 u.funcs.length (fun j E Hj=>∀k,k<j->∀g,u.funcs[k]?=some g->el u g=true) eE (fun k L=>ac) ?_;rintro j E3 Hj hj F C U hsI hJ;(try simp only[zdh,zdb,a1,zc3,zde,Nat.reduceBEq, *]at F);(try simp only[zdh,zdb,a1, *]at C);(try simp only[zc6,zdm,zdK,bz,Nat.reduceAdd]at U);have hB0:(0 == Hj.next)=false:=zc7 ac;have hC0:(Hj.next == 0)=false:=zc7 ac;by_cases J:j<u.funcs.length
   .have hlt3':(j:Int)<u.funcs.length:=by omega
    have hgx:u.funcs[j]?=some u.funcs[j]:=aO J;have I:=dx J;have hgk:=hg _ I;generalize u.funcs[j]=g at *;have kv:∀H,zc2 Tryz.prog (zcW pls vD) 63 [.agg u.cells,.agg g.cells] H fun v H'=>v=.bool (el u g)/\H'=H:=fun H=>zdW (enc:=mh) (ok:=yw) (out:=fun x=>.bool (el x.u x.g)) IL (x:=⟨u,g⟩) rfl ⟨hgk,ha,hf⟩;by_cases hv:el u g=true
    .repeat' (first
      |(apply zcP ?_;clear hK K)|apply Ry.o ?_|apply bl ?_|(apply bq ?_;first|refine Rx.k (kv _) ?_)|(apply az (fun z V=>?_) (fun z V=>?_)<;>try(cases z;done))|apply ak ?_|(apply zcQ fun K hK=>?_)|apply ax ?_|apply zcR ?_|fail)
     refine⟨ac,eL,eL,eN,tn,?_⟩;intro k L g' hg';by_cases e:k=j
     .subst e;rw[hgx]at hg';cases hg';exact hv
     .exact hJ k ac g' hg'
    .have hv':el u g=false:=by simpa using hv
     have hR:u.funcs.all (el u)=false:=by
      rw[Ch];exact⟨g,I,hv⟩
     rw[hR]at hU;clear hJ hR;repeat' (first
      |(apply zcP ?_;clear hK K)|apply Ry.o ?_|apply bl ?_|(apply bq ?_;first|refine Rx.k (kv _) ?_)|(apply az (fun z V=>?_) (fun z V=>?_)<;>try(cases z;done))|apply ak ?_|(apply zcQ fun K hK=>?_)|apply ax ?_|apply zcR ?_|apply am ?_|fail)
     all_goals (refine⟨zcT,_,zcU,?_⟩;try simp only[zcS])
     rw[hU]
   .have hlt3':¬(j:Int)<u.funcs.length:=by omega
    have hR:u.funcs.all (el u)=true:=fT.2 fun g hm=>by
     obtain⟨k,L,e⟩:=oJ hm;exact hJ k ac g (by rw[aO L,e])
    rw[hR]at hU;clear hJ hR;repeat' (first
     |(apply zcP ?_;clear hK K)|apply Ry.o ?_|(apply az (fun z V=>?_) (fun z V=>?_)<;>try(cases z;done))|apply ak ?_|(apply zcQ fun K hK=>?_)|apply am ?_|apply zc4 ?_)
    all_goals (refine⟨zcT,_,zcU,?_⟩;try simp only[zcS])
    rw[hU]
  .have hU:f9 u=false:=by rw[f9,dd hc];rfl
   repeat' (first
    |(apply zcP ?_;clear hK K)|apply Ry.o ?_|(apply az (fun z V=>?_) (fun z V=>?_)<;>try(cases z;done))|apply ak ?_|(apply zcQ fun K hK=>?_)|apply am ?_|fail)
   all_goals (refine⟨zcT,_,zcU,?_⟩;try simp only[zcS])
   rw[hU])
noncomputable def JL:En:=⟨31,true,b0 UnOk (fun u=>[.agg u.cells]) fun u=>.bool (f9 u)⟩
theorem zxU(ρ:Nat->Int):zdF Tryz.prog ρ JL:=zdM fun u I=>znw ρ u I
end
section
namespace tyW6h
end tyW6h
open tyW6h
theorem vE(a b:AV):zdA 2 [a,b]=some (.agg [a,b]):=rfl
end
section
def cR(o:Oc):AV:=.agg [.int .i64 o.kind,.int .i64 o.code,zeT o.out,.int .i64 o.value]
def tyEvJ.tyF:=ad @cP (ad @b7 (ad @dz (ad @fd (ad @eT (ad @mN (ad @mO (ad @ii (ad @jE (ad @ly (ad @A3 (ad @kJ (ad @sB (ad @oS (ad @xm (ad @qA (ad @sD (@vE)))))))))))))))))
open tyEvJ
noncomputable def JM:{c:SC // aB 131 (Tryz.f14.body.getD .skip)=c}:=by
 refine⟨?_,?_⟩;rotate_left
 .simp only[Tryz.f14,a8,aB,zda,zc9,zdc,zdd,Nat.blt,Nat.ble];rfl
theorem znx{f:FuncId}(h:xH f=true):f=149\/f=150\/f=102\/f=104\/f=151\/f=184\/f=153\/f=103\/f=65\/f=36\/f=34\/f=33\/f=35:=by
 simp only[xH,nP]at h;rcases h with(((((((((((h|h)|h)|h)|h)|h)|h)|h)|h)|h)|h)|h)|h<;>have e:=gK h<;>subst e<;>simp
noncomputable def JN:En:=⟨32,false,b0 Flat9 i8 fun l=>zfL l.length⟩
theorem ztq(ρ:Nat->Int):zdF Tryz.prog ρ JN:=zdM fun l I=>YG ρ l I
noncomputable def oo:List En:=[JL,JN,Bt,Bu]
theorem ztr(ρ:Nat->Int):fb Tryz.prog ρ oo:=⟨zxU ρ,ztq ρ,W5 ρ,W6 ρ,trivial⟩
theorem yH:EvT oo:=⟨fun f j=>by rcases znx j with rfl|rfl|rfl|rfl|rfl|rfl|rfl|rfl|rfl|rfl|rfl|rfl|rfl<;>exact⟨fun _=>rfl,rfl⟩,fun _=>rfl,fun _=>rfl⟩
def kq(H:Hp)(v:AV)(vs:List AV):Prop:=(vs=[]/\v=.nilS)\/∃q,v=.sl q 0 vs.length 1/\q<H.next/\H.get q=some (.cells vs 0 true)
theorem kq.one{H:Hp}{v:AV}{vs:List AV}(h:kq H v vs):AV.one v=true/\v.cells=[v]:=by
 rcases h with⟨_,rfl⟩|⟨q,rfl,_⟩<;>exact⟨rfl,rfl⟩
theorem kq.not{H:Hp}{v:AV}{vs:List AV}(h:kq H v vs){p:Nat}(V:H.next<=p):∀o m z,v≠.sl p o m z:=fun o m z e=>by
 rcases h with⟨_,rfl⟩|⟨q,rfl,g,_⟩
 .cases e
 .simp only[AV.sl.injEq]at e;omega
theorem kq.keep{H H':Hp}{v:AV}{vs:List AV}(h:kq H v vs)(Y:H.next<=H'.next)(A:∀p,p<H.next->(∃o m z,v=.sl p o m z)->H'.get p=H.get p):kq H' v vs:=by
 rcases h with h|⟨q,rfl,g,Z⟩
 .exact .inl h
 .exact .inr ⟨q,rfl,ac,by rw[A q g ⟨_,_,_,rfl⟩];exact Z⟩
theorem kq.push{P:Program}{t e b:Nat}{A:List AV}(U:P.underlying t=some (.slice e))(K:zc8 P e=some 1)(O:zdz P e=some b)(M:zdq P e=some A)(L:A.length=1)(C:kw P t=true){H:Hp}{v:AV}{vs:List AV}(h:kq H v vs){r:Nat}{x:AV}(hr:H.get r=some (.cells [x] 0 true))(W:AV.one x=true)(Z:(vs.length+1)*b<=zef)(F:vs.length+1<=zef):
 ∃Y,zen P false H t t v (.sl r 0 1 1)=some (.sl H.next 0 (vs.length+1) 1,Y)/\kq Y (.sl H.next 0 (vs.length+1) 1) (vs++[x])/\H.next+1<=Y.next/\∀p,p<H.next->(∀o m z,v≠.sl p o m z)->Y.get p=H.get p:=by
 have J:zeN H 1 (.sl r 0 1 1)=some (0+1,[x]):=by
  have:=lX (H:=H) (r:=r) (o:=0) (n:=1) (z:=1) (s:=1) hr aE;rw[this];rfl
 have i:[x].all AV.one=true:=by rw[mV,W];rfl
 rcases h with⟨rfl,rfl⟩|⟨q,rfl,g,I⟩
 .refine⟨H.alloc (.cells [x] 0 true),append_nil U K O M C J i L qb t8,.inr ⟨H.next,rfl,cQ _,ik⟩,aM _,fun p hp _=>fK⟩
 .refine⟨(H.kill q).alloc (.cells (vs++[x]) 0 true),AG U K O M C J i L I ac qb t8,.inr ⟨H.next,by rw[fv];rfl,by rw[zc6,zfq];omega,?_⟩,by rw[zc6,zfq];omega,fun p hp V=>?_⟩
  .show((H.kill q).alloc _).get (H.kill q).next=_
   rw[zcY,ay rfl]
  .rw[zcY,ah (by rw[zfq];omega),zeI,ah (fun e=>V 0 vs.length 1 li)]
structure RunX where
 u:Un
 name:List UInt8
 args:List Int
 fuel:Int
def oq(x:RunX):List AV:=[.agg x.u.cells,.str x.name,zeT x.args,.int .i64 x.fuel]
structure RunTo9 (x:RunX) (o:Oc):Prop where
 uok:UnOk x.u
 valid:f9 x.u=true
 f0:0<=x.fuel
 f1:x.fuel<=1000
 flat:∀g∈x.u.funcs,Flat9 g.nodes
 fn:∃(f:Nat) (g:Gr) (n m:Nat),su x.name x.args.length x.u.funcs 0 (-1)=(f:Int)/\x.u.funcs[f]?=some g/\AJ n m g (EP x.u.arrays x.fuel) x.args=some o
 arr:∀a∈x.u.arrays,0<=a.len/\a.len<2^20
 args:x.args.length<2^30
 out:o.out.length<2^30
theorem bSt(f:Int):zeb Tryz.prog 79 [(2,.int .i64 f)]=some (.agg [.nilS,.nilP,.int .i64 f,.int .i64 0,.int .i64 0,.int .i64 0]):=af
theorem CI(k:Int)(q n:Nat):zeb Tryz.prog 35 [(0,.int .i64 k),(2,.sl q 0 n 1)]=some (.agg [.int .i64 k,.int .i64 0,.sl q 0 n 1,.int .i64 0]):=af
theorem zaX(H:Hp)(xs:List (List AV)):zej Tryz.prog H 73 1 [(0,.lst xs)]=some (.sl H.next 0 1 1,H.alloc (.cells [.lst xs] 0 true)):=af
theorem zaY(H:Hp)(q n:Nat):zej Tryz.prog H 58 1 [(0,.sl q 0 n 1)]=some (.sl H.next 0 1 1,H.alloc (.cells [.sl q 0 n 1] 0 true)):=af
theorem JO(s:S9)(v:Int):(lZ s v).out=s.out.reverse:=by
 unfold lZ;split
 .rfl
 .split<;>rfl
theorem CJ{H:Hp}{q:Nat}(k c v:Int)(l:List Int)(K:q<H.next)(A:H.get q=some (.cells (zdX l) 0 true)):∃m u,iceV H m (.agg [.int .i64 k,.int .i64 c,.sl q 0 l.length 1,.int .i64 v])=some u/\bF 60 u=cR ⟨k,c,l,v⟩:=by
 have h:zdQ (fun _=>True) 2 H [.int .i64 k,.int .i64 c,.sl q 0 l.length 1,.int .i64 v] [.int .i64 k,.int .i64 c,zeT l,.int .i64 v]:=.cons (.int _ _) (.cons (.int _ _) (.cons (rE l trivial K A (cN _)) (.cons (.int _ _) .nil)));obtain⟨I,i,g⟩:=h;have Z:zdI (fun _=>True) 100 H (.agg [.int .i64 k,.int .i64 c,.sl q 0 l.length 1,.int .i64 v]) (.agg I):=zdI.up (n:=2+1) ⟨I,i,rfl⟩ ac;obtain⟨L,M⟩:=zdI.iceV Z;refine⟨L,.agg I,M L (aM _),?_⟩;show AV.agg (I.map (bF 59))=_;rw[g 59 ac];rfl
set_option maxRecDepth 100000 in
theorem zpP(ρ:Nat->Int)(x:RunX)(o:Oc)(h:RunTo9 x o):bh Tryz.prog ρ 14 (oq x) (cR o):=
 znv (n:=60) (cfg:=zcW pls oo) fit (ll ρ) (fun g args r hg=>fb.look (l:=oo) (ztr ρ) g args r hg) (.cons (.agg (sA _)) (.cons (.str _) (.cons (AQ _) (.cons (.int _ _) .nil)))) (by
 obtain⟨u,name,args,W⟩:=x;obtain⟨huok,hval,f0,f1,C,⟨f,g,n,m,hfind,hgf,hent⟩,harr,hargs,hout⟩:=h;simp only at huok hval f0 f1 C hfind hgf hent harr hargs;have hw:Plain (zcW pls oo) 14:=zdO (fun _=>rfl) rfl;have hkeep:(zcW pls oo).keep 14=false:=rfl;have np:∀E:aw,zcV E (.const (.pointer none))=some .nilP:=fun _=>rfl;have kiv:∀H,zc2 Tryz.prog (zcW pls oo) 31 [.agg u.cells] H fun v H'=>v=.bool true/\H'=H:=fun H=>by
  have:zc2 Tryz.prog (zcW pls oo) 31 [.agg u.cells] H fun v H'=>v=.bool (f9 u)/\H'=H:=zdW (enc:=fun u:Un=>[.agg u.cells]) (ok:=UnOk) (out:=fun u=>.bool (f9 u)) (fun x y h=>Un.inj iW) (x:=u) rfl huok;rw[hval]at this;exact this
 have kld:∀l,Flat9 l->∀H,zc2 Tryz.prog (zcW pls oo) 32 [zd2 l] H fun v H'=>v=.lst ((List.replicate l.length 0).map fun(m:Nat)=>[AV.int .u32 (m:Int)])/\H'=H:=fun l hl H=>zdW (enc:=i8) (ok:=Flat9) (out:=fun l=>zfL l.length) qV (x:=l) rfl hl;have eu:u.cells=[.lst (u.arrays.map Ar.cells),.lst (u.funcs.map Gr.cells)]:=rfl;have vE:∀a b:AV,zdA 2 [a,b]=some (.agg [a,b]):=fun _ _=>rfl;have hul:=huok.f;have hua:=huok.a;have hf0':¬W<0:=ac;have hf1':¬(1000:Int)<W:=ac;rw[eu]at kiv;show zc2 _ _ _ [.agg u.cells,.str name,.lst (args.map fun n=>[AV.int .i64 n]),.int .i64 W] _ _;rw[eu];refine zf (M:=131) (rs:=[.cell 8 35]) (hw.call _) hw.ice hw.froz Tryz.func14 rfl rfl JM.2 rfl ?_;dsimp only[JM,zcX,Nat.reduceAdd];repeat' (first
  |(apply zcP ?_;clear hK K)|apply Ry.o ?_|(apply bq ?_;first|refine Rx.k (kiv _) ?_)|(apply aT (fun hg J=>?_) (fun hg J=>?_)<;>try(cases hg;done))|(apply az (fun Y V=>?_) (fun Y V=>?_)<;>try(cases Y;done))|apply ak ?_|(apply zcQ fun K hK=>?_)|apply ax ?_|apply zcR ?_|fail)
 refine zdN [1,2,3,4,8,31,32] [0,1] 33 u.funcs.length (fun i E H=>∃hv fi vs,E.at 9=.int .i64 fi/\E.at 10=hv/\su name args.length (u.funcs.drop i) i fi=su name args.length u.funcs 0 (-1)/\vs.length=i/\kq H hv vs/\∀q,q<2->∀o m z,hv≠.sl q o m z) eE ⟨.nilS,-1,[],eE,eE,aE,rfl,.inl ⟨rfl,rfl⟩,fun _ _ _ _ _ e=>by cases e⟩ ?_;rintro i E Z hi hcE hrH hnH hsI ⟨hv,fi,vs,zfQ,k10,hJ,hvs,hown,hno⟩;(try simp only[zdh,zdb,a1,zc3,zde,Nat.reduceBEq, *]at hcE);(try simp only[zdh,zdb,a1,zc3,zde,Nat.reduceBEq, *]at hrH);(try simp only[zc6,zdK,bz,Nat.reduceAdd]at hnH);have hB0:(0 == Z.next)=false:=zc7 ac;have hC0:(Z.next == 0)=false:=zc7 ac;have hB1:(1 == Z.next)=false:=zc7 ac;have hC1:(Z.next == 1)=false:=zc7 ac;have n2:2<=Z.next:=hnH
 obtain⟨o1,o2⟩:=hown.one;by_cases hlt:i<u.funcs.length
 .have hlt':(i:Int)<u.funcs.length:=by omega
  have hgx:u.funcs[i]?=some u.funcs[i]:=aO hlt;have hfl:=C _ (dx hlt);rw[eJ hlt,su]at hJ;generalize u.funcs[i]=q at *;obtain⟨nm,pa,ns,va,st⟩:=q;simp only at hfl hJ;have hgc:(Gr.mk nm pa ns va st).cells=[.str nm,.int .i64 pa,zd2 ns,.int .i64 va,.int .i64 st]:=rfl;have agg5':∀a b c d e:AV,zdA 5 [a,b,c,d,e]=some (.agg [a,b,c,d,e]):=fun _ _ _ _ _=>rfl;have kl:=kld ns hfl;have hbd:=fun H=>zaX H ((List.replicate ns.length 0).map fun(m:Nat)=>[AV.int .u32 (m:Int)]);repeat' (first
   |(apply zcP ?_;clear hK K)|apply Ry.o ?_|apply bl ?_|(apply bq ?_;first|refine Rx.k (kl _) ?_)|(apply az (fun Y V=>?_) (fun Y V=>?_)<;>try(cases Y;done))|apply ak ?_|(apply zcQ fun K hK=>?_)|apply ax ?_|apply zcR ?_|fail)
  generalize U:Hp.alloc (Hp.set (Z.alloc _) _ _) _=Hb;have nb:Z.next+2<=Hb.next:=BU
  have kb:∀r,r<Z.next->Hb.get r=Z.get r:=fun r hr=>by
   rw[<-U];simp only[aX,zcY,zdm,zc6,ah (show ¬r=Z.next by omega),ah (show ¬r=Z.next+1 by omega)]
  have gb:Hb.get Z.next=some (.cells [.str nm,.int .i64 pa,zd2 ns,.int .i64 va,.int .i64 st] 0 true):=by
   rw[<-U];simp only[aX,zcY,zdm,zc6,ah (show ¬Z.next=Z.next+1 by omega),bS]
  have gr:Hb.get (Z.next+1)=some (.cells [.lst ((List.replicate ns.length 0).map fun(m:Nat)=>[AV.int .u32 (m:Int)])] 0 true):=by rw[<-U,zcY,ay dt]
  clear U;have hownb:=hown.keep (H':=Hb) ac fun p hp _=>kb p hp;obtain⟨A,ap,L,n5,zeL⟩:=kq.push (P:=Tryz.prog) (t:=73) Tryz.underlying73 Fc Fe Ff rfl af hownb gr rfl mU mU;have kp:∀p,p<2->A.get p=Z.get p:=fun p hp=>by rw[zeL p ac (hno p hp),kb p ac]
  have g50:=kp 0 ac;have g51:=kp 1 ac;have g5n:A.get Z.next=some (.cells [.str nm,.int .i64 pa,zd2 ns,.int .i64 va,.int .i64 st] 0 true):=by rw[zeL _ ac (hown.not (aM _))];exact gb
  have n5':Z.next+2<=A.next:=ac
  have hno5:∀q,q<2->∀o m z,AV.sl Hb.next 0 (vs.length+1) 1≠.sl q o m z:=fun q hq o m z e=>by
   simp only[AV.sl.injEq]at e;omega
  by_cases e1:nm=name
  .subst e1;by_cases e2:pa=(args.length:Int)
   .subst e2;rw[ay ⟨rfl,rfl⟩]at hJ;repeat' (first
     |(apply zcP ?_;clear hK K)|apply Ry.o ?_|(apply aT (fun hg J=>?_) (fun hg J=>?_)<;>try(cases hg;done))|(apply az (fun Y V=>?_) (fun Y V=>?_)<;>try(cases Y;done))|apply ak ?_|(apply zcQ fun K hK=>?_)|fail)
    refine⟨ac,eL,eL,eN,tn,?_⟩;exact⟨_,(i:Int),vs++[_],eE,eE,hJ,CC,L,hno5⟩
   .rw[ah (fun c=>e2 c.2)]at hJ;repeat' (first
     |(apply zcP ?_;clear hK K)|apply Ry.o ?_|(apply aT (fun hg J=>?_) (fun hg J=>?_)<;>try(cases hg;done))|(apply az (fun Y V=>?_) (fun Y V=>?_)<;>try(cases Y;done))|apply ak ?_|(apply zcQ fun K hK=>?_)|apply zcR ?_|fail)
    refine⟨ac,eL,eL,eN,tn,?_⟩;exact⟨_,fi,vs++[_],eE,eE,hJ,CC,L,hno5⟩
  .rw[ah (fun c=>e1 c.1)]at hJ;repeat' (first
    |(apply zcP ?_;clear hK K)|apply Ry.o ?_|(apply aT (fun hg J=>?_) (fun hg J=>?_)<;>try(cases hg;done))|(apply az (fun Y V=>?_) (fun Y V=>?_)<;>try(cases Y;done))|apply ak ?_|(apply zcQ fun K hK=>?_)|apply zcR ?_|fail)
   refine⟨ac,eL,eL,eN,tn,?_⟩;exact⟨_,fi,vs++[_],eE,eE,hJ,CC,L,hno5⟩
 .have hlt':¬(i:Int)<u.funcs.length:=by omega
  rw[o0 ac,su,hfind]at hJ;subst hJ;have hff:f<u.funcs.length:=(dJ.1 hgf).1;obtain⟨hq,rfl,hqlt,hqg⟩:∃q,hv=.sl q 0 vs.length 1/\q<Z.next/\Z.get q=some (.cells vs 0 true):=by
   rcases hown with⟨rfl,_⟩|h
   .simp at hvs;omega
   .exact h
  have hfneg:¬(f:Int)<0:=ac;have bst:=bSt W;repeat' (first
   |(apply zcP ?_;clear hK K)|apply Ry.o ?_|(apply az (fun Y V=>?_) (fun Y V=>?_)<;>try(cases Y;done))|apply ak ?_|(apply zcQ fun K hK=>?_)|apply ax ?_|apply zcR ?_|apply zc4 ?_)
  refine zdN [2,4,8,9,10,13,64,65] [0,1] 66 u.arrays.length (fun j E H=>∃cv F,H.get Z.next=some (.cells [cv,.nilP,.int .i64 W,.int .i64 0,.int .i64 0,.int .i64 0] 0 true)/\kq H cv F/\zdo (mY (fun q=>Z.next<q/\∀o m z,cv≠.sl q o m z) H) F ((u.arrays.take j).map fun a=>List.replicate a.len.toNat 0)/\(∀q,q<=Z.next->∀o m z,cv≠.sl q o m z)/\Z.next<H.next) eE ⟨.nilS,[],iu,.inl ⟨rfl,rfl⟩,trivial,(fun _ _ _ _ _ e=>by cases e),cQ _⟩ ?_;rintro j E3 I hj hcE hrH hnH hsI ⟨cv,F,g3,own3,al3,no3,n3⟩;(try simp only[zdh,zdb,a1,zc3,zde,Nat.reduceBEq, *]at hcE);(try simp only[zdh,zdb,a1,zc3,zde, *]at hrH);(try simp only[zc6,]at hnH);have hB0:(0 == I.next)=false:=zc7 ac;have hC0:(I.next == 0)=false:=zc7 ac;have hB1:(1 == I.next)=false:=zc7 ac;have hC1:(I.next == 1)=false:=zc7 ac;obtain⟨p1,p2⟩:=own3.one;have hv2:F.length=j:=by
   have:=zdo.len al3;rw[cX,iS]at this;omega
  by_cases hjt:j<u.arrays.length
  .have hjt':(j:Int)<u.arrays.length:=by omega
   have hgy:u.arrays[j]?=some u.arrays[j]:=aO hjt;obtain⟨a0,zd0⟩:=harr _ (dx hjt);have htk:u.arrays.take (j+1)=u.arrays.take j++[u.arrays[j]]:=by rw[mz,hgy];rfl
   generalize u.arrays[j]=y at *;obtain⟨anm,al⟩:=y;simp only at a0 zd0;obtain⟨k,rfl⟩:∃k:Nat,al=k:=⟨al.toNat,ac⟩;have hac:(Ar.mk anm (k:Int)).cells=[.str anm,.int .i64 (k:Int)]:=rfl;have hmk:=fun H:Hp=>HM (H:=H) k ac;have hbc:=fun H q=>zaY H q k;have y1:(Z.next == I.next)=false:=zc7 ac;have y2:(Z.next == I.next+1)=false:=zc7 ac;have y3:(Z.next == I.next+2)=false:=zc7 ac;have y4:(I.next == I.next+1)=false:=zc7 ac;have y5:(I.next == I.next+2)=false:=zc7 ac;repeat' (first
    |(apply zcP ?_;clear hK K)|apply Ry.o ?_|apply bl ?_|(apply az (fun Y V=>?_) (fun Y V=>?_)<;>try(cases Y;done))|apply ak ?_|(apply zcQ fun K hK=>?_)|(apply zdG 18 [(4,9),(6,9),(7,9),(8,9)] fun K hK=>?_)|(apply zdB ?_;try intro _)|apply b4 ?_|apply ax ?_|apply zcR ?_|fail)
   generalize U:Hp.alloc (Hp.alloc (Hp.set (I.alloc _) _ _) _) _=Hb;have nb:I.next+3<=Hb.next:=BU
   have kb:∀r,r<I.next->Hb.get r=I.get r:=fun r hr=>by
    rw[<-U];simp only[aX,zcY,zdm,zc6,ah (show ¬r=I.next by omega),ah (show ¬r=I.next+1 by omega),ah (show ¬r=I.next+1+1 by omega)]
   have gy:Hb.get I.next=some (.cells [.str anm,.int .i64 (k:Int)] 0 true):=by
    rw[<-U];simp only[aX,zcY,zdm,zc6,ah (show ¬I.next=I.next+1 by omega),ah (show ¬I.next=I.next+1+1 by omega),bS]
   have gi:Hb.get (I.next+1)=some (.cells (zdX (List.replicate k 0)) 0 true):=by
    rw[<-U];simp only[aX,zcY,zdm,zc6,ah (show ¬I.next+1=I.next+1+1 by omega),bS]
   have gr:Hb.get (I.next+2)=some (.cells [.sl (I.next+1) 0 k 1] 0 true):=by rw[<-U,zcY,ay dt]
   clear U;have g3b:=(kb Z.next n3).trans g3;obtain⟨A,ap,L,n5,zeL⟩:=kq.push (P:=Tryz.prog) (t:=58) Tryz.underlying58 uJ A1 A2 rfl af (own3.keep (H':=Hb) ac fun p hp _=>kb p hp) gr rfl mU mU;have g35:A.get Z.next=some (.cells [cv,.nilP,.int .i64 W,.int .i64 0,.int .i64 0,.int .i64 0] 0 true):=by rw[zeL _ ac (no3 _ (aM _))];exact g3b
   have nof:∀p,I.next<=p->∀o m z,cv≠.sl p o m z:=fun p hp=>own3.not hp
   have gy5:A.get I.next=some (.cells [.str anm,.int .i64 (k:Int)] 0 true):=by rw[zeL _ ac (nof _ (aM _))];exact gy
   have gi5:A.get (I.next+1)=some (.cells (zdX (List.replicate k 0)) 0 true):=by rw[zeL _ ac (nof _ ac)];exact gi
   have gr5:A.get (I.next+2)=some (.cells [.sl (I.next+1) 0 k 1] 0 true):=by rw[zeL _ ac (nof _ ac)];exact gr
   have n5':I.next+3<=A.next:=ac
   have n5b:Hb.next<=A.next:=ac
   repeat' (first
    |(apply zcP ?_;clear hK K)|apply Rx.o ?_|apply bE ?_|(apply zcQ fun K hK=>?_)|(apply zdB ?_;try intro _)|(apply zdJ ?_ ?_<;>clear hK K)|apply b4 ?_|apply zfc rfl ?_|fail)
   .exact zdj
   generalize hH6:Hp.set A _ _=H6;have n6:A.next<=H6.next:=by rw[<-hH6];exact aM _
   have zft:∀r,r≠Z.next->H6.get r=A.get r:=fun r hr=>by rw[<-hH6,aX,ah hr]
   have g6:H6.get Z.next=some (.cells [.sl Hb.next 0 (F.length+1) 1,.nilP,.int .i64 W,.int .i64 0,.int .i64 0,.int .i64 0] 0 true):=by rw[<-hH6,aX,ay rfl,hv2]
   clear hH6;have kk:∀r,r<I.next->r≠Z.next->(∀o m z,cv≠.sl r o m z)->H6.get r=I.get r:=fun r h1 h2 h3=>by rw[zft r h2,zeL r ac h3,kb r h1]
   have g60:=kk 0 ac ac (no3 0 ac);have g61:=kk 1 ac ac (no3 1 ac);refine⟨ac,eL,eL,eN,Jp,?_⟩;refine⟨_,F++[.sl (I.next+1) 0 k 1],g6,L.keep n6 (fun p _ hp=>zft p fun e=>?_),?_,fun q hq o m z e=>?_,ac⟩
   .obtain⟨o,m,z,e2⟩:=hp;simp only[AV.sl.injEq]at e2;omega
   .rw[htk,qi];refine zdo.append (al3.mono fun a b hab=>?_) ⟨⟨I.next+1,0,aE,⟨ac,fun o m z e=>by simp only[AV.sl.injEq]at e;omega⟩,ac,?_,cp⟩,trivial⟩
    .obtain⟨q,im,e,⟨h1,h2⟩,h3,h4,h5⟩:=hab;exact⟨q,im,e,⟨h1,fun o m z e=>by simp only[AV.sl.injEq]at e;omega⟩,ac,by rw[kk q h3 ac h2];exact h4,h5⟩
    .rw[zft _ ac];simpa using gi5
   .simp only[AV.sl.injEq]at e;omega
  .have hjt':¬(j:Int)<u.arrays.length:=by omega
   rw[eF ac]at al3;have hst:fP (fun _=>True) I (.ptr Z.next 0) (EP u.arrays W):=by
    refine⟨Z.next,cv,.nilP,rfl,trivial,n3,g3,?_,rfl⟩;rcases own3 with⟨rfl,rfl⟩|⟨q,rfl,h2,h3⟩
    .have e:u.arrays=[]:=by
      have:=zdo.len al3;exact BE (by rw[cX]at this;exact this.symm)
     exact .inl ⟨by show u.arrays.map _=[];rw[e];rfl,rfl⟩
    .exact .inr ⟨q,0,F,rfl,trivial,h2,h3,ac,al3.mono fun a b hab=>hab.sub fun _ _ _=>trivial⟩
   have hfl:=C g (jU hgf);have hent2:=YM yH hgf (by have:=hfl.ok.1;omega) (a:=hq) (b:=0) (cc:=i) (d:=1) (args:=args) hst;rw[eu]at hent2;unfold zeT at hent2;have hgc:g.cells=[.str g.name,.int .i64 g.params,.lst (g.nodes.map Nd.cells),.int .i64 g.value,.int .i64 g.state]:=rfl;repeat' (first
    |(apply zcP ?_;clear hK K)|apply Ry.o ?_|(apply az (fun Y V=>?_) (fun Y V=>?_)<;>try(cases Y;done))|apply ak ?_|(apply zcQ fun K hK=>?_)|apply zc4 ?_)
   refine a4 rfl a6 a7 ?_;simp only[bB];refine aZ ?_ hent2;rintro v H4 ⟨xp,rp,rfl,hxp,hrp,hok,hF4,E4⟩;dsimp only[zc5];have g03:I.get 0=some (.cells [.lst (u.arrays.map Ar.cells),.lst (u.funcs.map Gr.cells)] 0 true):=by first|assumption|simp only[*]
   have g13:I.get 1=some (.cells [.int .i64 0,.int .i64 0,.nilS,.int .i64 0] 0 true):=by first|assumption|simp only[*]
   have n34:=E4.next
   have g04:=(E4.get 0 trivial ac).trans g03;have g14:=(E4.get 1 trivial ac).trans g13;have hkk:∀nd∈g.nodes,nd.kids.length<2^30:=hfl.ok.2;obtain⟨res,q1,q2⟩:=cj.1 hent;obtain⟨r,q3,q4⟩:=cj.1 q2;obtain⟨s,q5,q6⟩:=cj.1 q4;clear q2 q4 hent;repeat' (first
    |(apply zcP ?_;clear hK K)|apply Ry.o ?_|apply ak ?_|(apply zcQ fun K hK=>?_)|fail)
   refine a4 rfl a6 a7 ?_;simp only[bB];refine aZ ?_ (YO yH hok hkk hF4 q1 q3);rintro v A ⟨ho5,rows5,hF5,n45,fr5⟩;dsimp only[zc5];rw[q5]at ho5;obtain⟨p,cv5,ov5,rfl,hp5⟩:=(ho5:fP _ A v s);have gp5:=hp5.get;have g05:=(fr5 0 ac (by show 0≠rp;omega)).trans g04;have g15:=(fr5 1 ac (by show 1≠rp;omega)).trans g14;have hout5:s.out.length<2^30:=by
    have e:o.out=s.out.reverse:=by
     split at q6
     .obtain⟨res2,_,q8⟩:=cj.1 q6;obtain⟨t,_,q9⟩:=cj.1 q8;rw[aA]at q9;rw[<-q9,JO]
     .rw[aA]at q6;rw[<-q6,JO]
    rw[e,qK]at hout;exact hout
   have EA:Ext9 (fun _=>True) A (A.alloc (.cells [.int .i64 0,.int .i64 0,.nilS,.int .i64 0] 0 true)):=⟨gm _,fun r _ hr=>fK⟩;have kvl:=YL yH (hp5.out.keep (EA.sub fun _ _ _=>trivial)) hout5;have y6:(p == A.next)=false:=zc7 (by have:=hp5.lt;omega);repeat' (first
    |(apply zcP ?_;clear hK K)|apply Ry.o ?_|apply ak ?_|(apply Rx.dP 22 [0,1,2,3,4,5,6,7,10,8,9,11] [(3,9),(3,11),(7,9),(8,9),(8,11)] fun K hK=>?_)|(apply zdB ?_;try intro _)|apply b4 ?_|fail)
   refine a4 rfl a6 a7 ?_;simp only[cG];refine aZ ?_ kvl;rintro v H6 ⟨rfl,n56,g6,fr6⟩;rw[zc6]at n56 g6 fr6;dsimp only[zc5];have plt:=hp5.lt;have gp6:=(fr6 p ac).trans ((EA.get p trivial plt).trans gp5);have g06:=(fr6 0 ac).trans ((EA.get 0 trivial ac).trans g05);have g16:=(fr6 1 ac).trans ((EA.get 1 trivial ac).trans g15);have gt6:H6.get A.next=some (.cells [.int .i64 0,.int .i64 0,.nilS,.int .i64 0] 0 true):=(fr6 _ ac).trans iu
   have boc:=CI s.ed (A.next+1) s.out.length;have agg4':∀a b c d:AV,zdA 4 [a,b,c,d]=some (.agg [a,b,c,d]):=fun _ _ _ _=>rfl;have y01:(0 == A.next)=false:=zc7 ac;have y11:(1 == A.next)=false:=zc7 ac;have y7:(A.next == 1)=false:=zc7 ac;have hg6:H6.get (A.next+1)=some (.cells (zdX s.out.reverse) 0 true):=g6;by_cases e0:s.ed=0
   .rw[ay e0]at q6;obtain⟨res2,q7,q8⟩:=cj.1 q6;obtain⟨t,q9,q10⟩:=cj.1 q8;rw[aA]at q10;have he:lZ s t.v=⟨1,0,s.out.reverse,t.v⟩:=by unfold lZ;rw[ah ac,ay e0]
    rw[he]at q10;have boc0:=CI 0 (A.next+1) s.out.length;clear q6 q8 he;repeat' (first
     |(apply zcP ?_;clear hK K)|apply Ry.o ?_|apply bl ?_|(apply az (fun Y V=>?_) (fun Y V=>?_)<;>try(cases Y;done))|apply ak ?_|(apply zcQ fun K hK=>?_)|(apply zdB ?_;try intro _)|(apply zdJ ?_ ?_<;>clear hK K)|apply b4 ?_|apply zfc rfl ?_|apply ax ?_|fail)
    .exact zdj
    generalize hH7:Hp.set H6 _ _=H7;have n7:H6.next<=H7.next:=by rw[<-hH7];exact aM _
    have g7:H7.get A.next=some (.cells [.int .i64 0,.int .i64 0,.sl (A.next+1) 0 s.out.length 1,.int .i64 0] 0 true):=by rw[<-hH7,aX,ay rfl]
    have zfH:∀r,r≠A.next->H7.get r=H6.get r:=fun r hr=>by rw[<-hH7,aX,ah hr]
    clear hH7;have hF7:=hF5.keep (H':=H7) ac fun q hq=>by rw[zfH q ac,fr6 q ac];exact EA.get q trivial hq
    have lr4:rp<H4.next:=hF4.lr
    refine a4 rfl a6 a7 ?_;simp only[bB];refine aZ ?_ (YN yH hok hkk hF7 q7 q9);rintro v H8 ⟨rfl,rows8,hF8,n78,fr8⟩;dsimp only[zc5];have g8:=(fr8 A.next ac (by show A.next≠rp;omega)).trans g7;have g18:=(fr8 1 ac (by show 1≠rp;omega)).trans ((zfH 1 ac).trans g16);have hg8:=(fr8 (A.next+1) ac (by show A.next+1≠rp;omega)).trans ((zfH _ ac).trans hg6);repeat' (first
     |(apply zcP ?_;clear hK K)|apply Rx.o ?_|apply bE ?_|apply ak ?_|(apply zcQ fun K hK=>?_)|apply am ?_|fail)
    refine⟨zcT,_,(by(try simp only[zc3,zde,Nat.reduceBEq,tyF,zet,zeC, *]);first|done|with_reducible rfl),?_⟩;try simp only[zcS]
    rw[<-q10];generalize O:Hp.set _ 1 _=Hf;have nf:A.next+2<=Hf.next:=CD
    have gf:Hf.get (A.next+1)=some (.cells (zdX s.out.reverse) 0 true):=by
     rw[<-O];simp only[aX,ah (show ¬A.next+1=1 by omega),ah (show ¬A.next+1=A.next by omega)];exact hg8
    clear O;have:=CJ 1 0 t.v s.out.reverse ac gf;rw[qK]at this;exact this
   .rw[ah e0,aA]at q6;by_cases e2:s.ed=2
    .have he:lZ s 0=⟨2,s.code,s.out.reverse,0⟩:=by unfold lZ;rw[ay e2]
     rw[he]at q6;have boc2:=CI 2 (A.next+1) s.out.length;clear he;repeat' (first
      |(apply zcP ?_;clear hK K)|apply Ry.o ?_|apply bl ?_|(apply az (fun Y V=>?_) (fun Y V=>?_)<;>try(cases Y;done))|apply ak ?_|(apply zcQ fun K hK=>?_)|(apply zdB ?_;try intro _)|(apply zdJ ?_ ?_<;>clear hK K)|apply b4 ?_|apply zfc rfl ?_|apply ax ?_|apply am ?_|fail)
     .exact zdj
     refine⟨zcT,_,(by(try simp only[zc3,zde,Nat.reduceBEq,tyF,zet,zeC, *]);first|done|with_reducible rfl),?_⟩;try simp only[zcS]
     rw[<-q6];generalize O:Hp.set _ 1 _=Hf;have nf:A.next+2<=Hf.next:=CD
     have gf:Hf.get (A.next+1)=some (.cells (zdX s.out.reverse) 0 true):=by
      rw[<-O];simp only[aX,ah (show ¬A.next+1=1 by omega),ah (show ¬A.next+1=A.next by omega)];exact hg6
     clear O;have:=CJ 2 s.code 0 s.out.reverse ac gf;rw[qK]at this;exact this
    .have he:lZ s 0=⟨s.ed,0,s.out.reverse,0⟩:=by unfold lZ;rw[ah e2,ah e0]
     rw[he]at q6;clear he;repeat' (first
      |(apply zcP ?_;clear hK K)|apply Ry.o ?_|apply bl ?_|(apply az (fun Y V=>?_) (fun Y V=>?_)<;>try(cases Y;done))|apply ak ?_|(apply zcQ fun K hK=>?_)|(apply zdB ?_;try intro _)|(apply zdJ ?_ ?_<;>clear hK K)|apply b4 ?_|apply zfc rfl ?_|apply ax ?_|apply zcR ?_|apply am ?_|fail)
     .exact zdj
     refine⟨zcT,_,(by(try simp only[zc3,zde,Nat.reduceBEq,tyF,zet,zeC, *]);first|done|with_reducible rfl),?_⟩;try simp only[zcS]
     rw[<-q6];generalize O:Hp.set _ 1 _=Hf;have nf:A.next+2<=Hf.next:=CD
     have gf:Hf.get (A.next+1)=some (.cells (zdX s.out.reverse) 0 true):=by
      rw[<-O];simp only[aX,ah (show ¬A.next+1=1 by omega),ah (show ¬A.next+1=A.next by omega)];exact hg6
     clear O;have:=CJ s.ed 0 0 s.out.reverse ac gf;rw[qK]at this;exact this)
end
section
structure Bd where
 l:List Nd
 vars:List Int
 state:Int
 loops:Nat
structure Cx where
 arrays:List Ar
 funcs:List Fu
 names:List zdE
def iQ(l:List Nd)(n:Nd):Nat:=l.findIdx fun x=>decide (x=n)
def ot(l:List Nd)(n:Nd):List Nd:=if iQ l n<l.length then l else l++[n]
def zee(n:Nd)(s:Bd):Int×Bd:=(iQ s.l n,{s with l:=ot s.l n})
def ku:List zdE->zdE->Nat
 |[],_=>0
 |a::l,s=>if a=s then 0 else if zdi l s=true then ku l s+1 else 0
def zeK(c a b:Int)(s:Bd):Int×Bd:=if a=b then (a,s)else zee ⟨22,0,[c,a,b]⟩ s
def vF(I v:Int)(s:Bd):Bd:=let r:=zee ⟨27,I,[s.state,v]⟩ s;{r.2 with state:=r.1}
def tq(len i:Int)(s:Bd):Bd:=
 let zc0:=zee ⟨1,len,[]⟩ s
 let r2:=zee ⟨19,0,[i,zc0.1]⟩ zc0.2
 vF 2 r2.1 r2.2
def tt(v:Int)(s:Bd):Bd:=
 let z:=zee ⟨1,0,[]⟩ s
 let c:=zee ⟨16,0,[v,z.1]⟩ z.2
 vF 1 c.1 c.2
def kS(c:Cx):Nat->Ex->Bd->Option (Int×Bd)
 |0,_,_=>none
 |n+1,x,s=>
  if x.kind=1 then some (zee ⟨1,x.n,[]⟩ s)
  else if x.kind=2 then (s.vars[ku c.names x.name]?).map fun v=>(v,s)
  else if x.kind=3 then
   (x.kids[0]?).bind fun k=>(kS c n k s).bind fun r=>(c.arrays[ku (c.arrays.map (·.name)) x.name]?).bind fun a=>
     let K:=tq a.len r.1 r.2
     some (zee ⟨23,ku (c.arrays.map (·.name)) x.name,[K.state,r.1]⟩ K)
  else if x.kind=5 then
   (x.kids[0]?).bind fun zd3=>(kS c n zd3 s).bind fun zdg=>
   (x.kids[1]?).bind fun k1=>(kS c n k1 zdg.2).bind fun zc0=>
   (x.kids[2]?).bind fun zdp=>(kS c n zdp {zc0.2 with state:=zdg.2.state}).bind fun r2=>
     let v:=zeK zdg.1 zc0.1 r2.1 r2.2
     let t:=zeK zdg.1 zc0.2.state v.2.state v.2
     some (v.1,{t.2 with state:=t.1})
  else
   (x.kids[0]?).bind fun zd3=>(kS c n zd3 s).bind fun zdg=>
     if x.kids.length=1 then some (zee ⟨x.op,0,[zdg.1]⟩ zdg.2)
     else (x.kids[1]?).bind fun k1=>(kS c n k1 zdg.2).bind fun zc0=>
      some (zee ⟨x.op,0,[zdg.1,zc0.1]⟩ (if x.op=7\/x.op=8 then tt zc0.1 zc0.2 else zc0.2))
section
variable (c:Cx)
end
structure NdR (n:Nd):Prop where
 op:0<=n.op/\n.op<256
 imm:-9223372036854775808<=n.imm/\n.imm<9223372036854775808
 kids:∀k∈n.kids,0<=k/\k<2^60
 len:n.kids.length<2^30
theorem JP(n:Int):i9 n 0=n%256:=by
 rw[i9,vw];simp[Int.fdiv_one]
theorem JQ(n:Int)(i:Nat):i9 n (i+1)=i9 (n/256) i:=by
 rw[i9,i9];have e:(2:Int)^ (8*(i+1))=256*2^ (8*i):=by
  rw[Nat.mul_add,Int.pow_add];omega
 have p:(0:Int)<=2^ (8*i):=Int.le_of_lt (Int.pow_pos dD);rw[e,Jq _ ac,Jq _ p,Int.ediv_ediv_of_nonneg dD]
theorem zpQ(n:Int)(i:Nat):0<=i9 n i/\i9 n i<256:=by
 rw[i9,vw];omega
theorem JR:∀(k:Nat) (n m:Int),0<=n->n<256^ k->0<=m->m<256^ k->(∀i,i<k->i9 n i=i9 m i)->n=m
 |0,n,m,h1,h2,h3,h4,_=>by simp at h2 h4;omega
 |k+1,n,m,h1,h2,h3,h4,h=>by
  have e:(256:Int)^ (k+1)=256*256^ k:=by rw[Int.pow_succ];omega
  rw[e]at h2 h4;have o:=h 0 ac;rw[JP,JP]at o;have ih:=JR k (n/256) (m/256) ac (by generalize (256:Int)^ k=P at *;omega) ac (by generalize (256:Int)^ k=P at *;omega) (fun i C=>by rw[<-JQ,<-JQ];exact h (i+1) ac);omega
theorem JS:∀{l m:List Int},(∀x∈l,0<=x/\x<256)->(∀x∈m,0<=x/\x<256)->ob l=ob m->l=m
 |[],[],_,_,_=>rfl
 |[],_::_,_,_,h=>by simp[ob]at h
 |_::_,[],_,_,h=>by simp[ob]at h
 |a::l,b::m,hl,hm,h=>by
  simp only[ob,dO,cS]at h;have i:=hl a e8;have g:=hm b e8;have e:a=b:=by
   have:=kD UInt8.toNat h.1;rw[UInt8.toNat_ofNat',UInt8.toNat_ofNat']at this;omega
  rw[e,JS (fun x F=>hl x (fl _ F)) (fun x F=>hm x (fl _ F)) h.2]
theorem JT(n:Int)(k:Nat):∀x∈zez n k,0<=x/\x<256:=fun x F=>by
 obtain⟨i,_,rfl⟩:=mE.1 F;exact zpQ n i
theorem JU(n:Nd):∀x∈ph n,0<=x/\x<256:=fun x F=>by
 rw[ph,fk,uh,zY]at F;rcases F with rfl|F|⟨k,_,F⟩
 .rw[vw];omega
 .exact JT _ _ x F
 .exact JT _ _ x F
theorem JV{n m:Int}(h1:0<=n)(h2:n<18446744073709551616)(Z:0<=m)(U:m<18446744073709551616)(h:zez n 8=zez m 8):n=m:=
 JR 8 n m h1 ac Z ac fun i C=>List.map_inj_left.1 h i (iY.2 C)
theorem pr(n:Int):0<=IntKind.wrap .u64 n/\IntKind.wrap .u64 n<18446744073709551616:=by rw[vx];omega
theorem JW:∀{V ms:List Int},(∀k∈V,0<=k/\k<2^60)->(∀k∈ms,0<=k/\k<2^60)->(V.flatMap fun k=>zez (IntKind.wrap .u64 k) 8)=(ms.flatMap fun k=>zez (IntKind.wrap .u64 k) 8)->V=ms
 |[],[],_,_,_=>rfl
 |[],m::ms,_,_,h=>by
  have:=kD List.length h;rw[oT,fv,zfx]at this;simp at this;omega
 |k::V,[],_,_,h=>by
  have:=kD List.length h;rw[oT,fv,zfx]at this;simp at this
 |k::V,m::ms,hk,hm,h=>by
  rw[oT,oT]at h;obtain⟨i,g⟩:=List.append_inj h (by rw[zfx,zfx]);have e:=JV (pr k).1 (pr k).2 (pr m).1 (pr m).2 i;have zd0:=hk k e8;have a2:=hm m e8;rw[vx,vx]at e;have A:k=m:=ac;rw[A,JW (fun x F=>hk x (fl _ F)) (fun x F=>hm x (fl _ F)) g]
theorem JX{a b:Nd}(F:NdR a)(z:NdR b)(h:zdY a=zdY b):a=b:=by
 have h:=JS (JU a) (JU b) h;rw[ph,ph,cS]at h;obtain⟨i,g⟩:=h;obtain⟨m,U⟩:=List.append_inj g (by rw[zfx,zfx]);have A:=JV (pr _).1 (pr _).2 (pr _).1 (pr _).2 m;have o:=JW F.kids z.kids U;have Z:=F.op;have Y:=z.op;have W:=F.imm;have V:=z.imm;rw[vw,vw]at i;rw[vx,vx]at A;obtain⟨J,K,L⟩:=a;obtain⟨M,O,j⟩:=b;simp only at *;rw[show J=M by omega,show K=O by omega,o]
theorem zpR(x:Nd)(l:List Nd)(n:Nd):iQ (x::l) n=if x=n then 0 else iQ l n+1:=by
 unfold iQ;rw[List.findIdx_cons];by_cases h:x=n<;>simp[h]
theorem zxV(l:List Nd)(n:Nd):iQ l n<=l.length:=by unfold iQ;exact List.findIdx_le_length
theorem za3{l:List Nd}{n:Nd}:iQ l n<l.length↔n∈l:=by
 unfold iQ;rw[List.findIdx_lt_length];simp
theorem CK(l:List Nd)(n:Nd):l<+:ot l n:=by
 unfold ot;split
 .exact vy l
 .exact List.prefix_append l [n]
theorem JY{l:List Nd}{n x:Nd}:x∈ot l n↔x∈l\/x=n:=by
 unfold ot;split
 .rename_i h;have:=za3.1 h;constructor
  .exact .inl
  .rintro(h|rfl)
   .exact h
   .exact this
 .simp
def atV(l:List Nd)(i:Nat):List (zdE×Int):=(l.zipIdx i).map fun p=>(zdY p.1,(p.2:Int))
theorem ztt(x:Nd)(l:List Nd)(i:Nat):atV (x::l) i=(zdY x,(i:Int))::atV l (i+1):=by rw[atV,zE];rfl
theorem JZ{n:Nd}(o:NdR n):∀(l:List Nd) (i:Nat),(∀x∈l,NdR x)->fw (atV l i) (zdY n)=decide (iQ l n<l.length)/\(iQ l n<l.length->en (atV l i) (zdY n)=((i+iQ l n:Nat):Int))/\(¬iQ l n<l.length->∀x,setV (atV l i) (zdY n) x=atV l i++[(zdY n,x)])
 |[],i,_=>⟨rfl,fun h=>by simp[iQ]at h,fun _ x=>rfl⟩
 |x::l,i,hl=>by
  obtain⟨Z,g,m⟩:=JZ o l (i+1) fun y C=>hl y (fl _ C)
  rw[zpR,ztt,dl];by_cases e:x=n
  .subst e;refine⟨by simp[fw],fun _=>by simp[en],fun h=>iX⟩
  .have U:¬zdY n=zdY x:=fun h=>e (JX o (hl x e8) h).symm;rw[ah e];refine⟨?_,fun h=>?_,fun h y=>?_⟩
   .simp only[fw,U];rw[Z];simp
   .have:=g ac;simp only[en,U,cb];rw[this];congr 1;omega
   .have:=m ac y;simp only[setV,U,cb,this,nY]
theorem ztu(l:List Nd)(n:Nd):atV l 0++[(zdY n,(l.length:Int))]=atV (l++[n]) 0:=by
 simp[atV,List.zipIdx_append]
theorem za6{M:Type}{s:List M}(h:s.length=3):∃a b c,s=[a,b,c]:=by
 match s,h with
 |[a,b,c],_=>exact⟨a,b,c,rfl⟩
theorem za7(H:Hp){cs:List AV}(I:cs.length=3)(J:cs.all AV.one=true):zej Tryz.prog H 26 1 [(0,.agg cs)]=some (.sl H.next 0 1 3,H.alloc (.cells cs 0 true)):=by
 obtain⟨a,b,c,rfl⟩:=za6 I;kernel_rfl
structure Lx where
 p:Pr
 b:Nat
 ra:Nat
 rf:Nat
 rt:Nat
 rn:Nat
 ae:List (zdE×Int)
 fe:List (zdE×Int)
 ne:List (zdE×Int)
def lc(X:Lx)(s:Bd)(O K:AV):List AV:=[.lst (X.p.arrays.map Ar.cells),.lst (X.p.funcs.map Fu.cells),.map X.ra,.map X.rf,O,.map X.rt,.map X.rn,K,.int .i64 s.state,.int .i64 s.loops]
structure RepL (X:Lx) (H:Hp) (S:Nat->Prop) (s:Bd) (lv vv:AV):Prop where
 m:H.get X.b=some (.cells (lc X s lv vv) 0 true)
 a:H.get X.ra=some (.map (cV X.ae))
 f:H.get X.rf=some (.map (cV X.fe))
 t:H.get X.rt=some (.map (cV (atV s.l 0)))
 n:H.get X.rn=some (.map (cV X.ne))
 nodes:ja S 2 H 3 lv (s.l.map Nd.cells)
 vars:m8 H vv s.vars 0
 o1:X.ra<X.rf
 o2:X.rf<X.rt
 o3:X.rt<X.rn
 o4:X.rn<X.b
 o5:X.b<H.next
 sS:∀k,S k->X.b<k/\k<H.next/\¬zd9 vv k
 vS:∀k,zd9 vv k->X.b<k/\k<H.next
structure Sm (n:Nat) (H H':Hp):Prop where
 get:∀k,k<n->H'.get k=H.get k
structure FrL (X:Lx) (S:Nat->Prop) (vv:AV) (H:Hp) (S':Nat->Prop) (vv':AV) (H':Hp):Prop where
 next:H.next<=H'.next
 get:∀k,k<H.next->k≠X.b->k≠X.rt->¬S k->¬zd9 vv k->H'.get k=H.get k
 sub:∀k,S' k->S k\/H.next<=k
 own:∀k,zd9 vv' k->zd9 vv k\/H.next<=k
theorem FrL.refl(X:Lx)(S:Nat->Prop)(K:AV)(H:Hp):FrL X S K H S K H:=⟨aM _,fun _ _ _ _ _ _=>rfl,fun _ h=>.inl h,fun _ h=>.inl h⟩
def fq:=@FrL.refl
theorem FrL.trans{X:Lx}{S S' V:Nat->Prop}{v o m:AV}{H H' U:Hp}(h:FrL X S v H S' o H')(k:FrL X S' o H' V m U):FrL X S v H V m U where
 next:=eP h.next k.next
 get r h1 h2 h3 h4 h5:=by
  rw[k.get r (gk h1 h.next) h2 h3 (fun e=>?_) (fun e=>?_)]
  .exact h.get r h1 h2 h3 h4 h5
  .rcases h.sub r e with e|e
   .exact h4 e
   .omega
  .rcases h.own r e with e|e
   .exact h5 e
   .omega
 sub r e:=by
  rcases k.sub r e with e|e
  .exact h.sub r e
  .exact .inr (eP h.next e)
 own r e:=by
  rcases k.own r e with e|e
  .exact h.own r e
  .exact .inr (eP h.next e)
section
variable {X:Lx} {H H':Hp} {S:Nat -> Prop} {s:Bd} {lv vv:AV}
theorem RepL.keep(h:RepL X H S s lv vv)(o:H.next<=H'.next)(A:∀k,k<H.next->(k<=X.b\/S k\/zd9 vv k)->H'.get k=H.get k):RepL X H' S s lv vv:=by
 have J:=h.o1;have Z:=h.o2;have C:=h.o3;have K:=h.o4;have O:=h.o5;refine⟨by rw[A _ O (.inl (aM _))];exact h.m,by rw[A _ ac (.inl ac)];exact h.a,by rw[A _ ac (.inl ac)];exact h.f,by rw[A _ ac (.inl ac)];exact h.t,by rw[A _ ac (.inl ac)];exact h.n,h.nodes.keep (fun _ _ h=>h) o fun k j F=>A k F (.inr (.inl j)),h.vars.keep o fun k j=>A k (h.vS k j).2 (.inr (.inr j)),J,Z,C,K,ac,fun k j=>?_,fun k j=>?_⟩
 .have:=h.sS k j;exact⟨this.1,ac,this.2.2⟩
 .have:=h.vS k j;omega
theorem RepL.alloc(h:RepL X H S s lv vv)(b:HB):RepL X (H.alloc b) S s lv vv:=h.keep (gm _) fun k j _=>fK
theorem FrL.alloc{W:Nat->Prop}{F:AV}{zdw:Hp}(h:FrL X W F zdw S vv H)(b:HB):FrL X W F zdw S vv (H.alloc b):=h.trans ⟨gm _,fun k j _ _ _ _=>fK,fun _ h=>.inl h,fun _ h=>.inl h⟩
theorem RepL.setS(h:RepL X H S s lv vv)(x:Int):RepL X (H.set X.b (.cells (lc X {s with state:=x} lv vv) 0 true)) S {s with state:=x} lv vv/\FrL X S vv H S vv (H.set X.b (.cells (lc X {s with state:=x} lv vv) 0 true)):=by
 have J:=h.o1;have Z:=h.o2;have C:=h.o3;have K:=h.o4;have O:=h.o5;have A:∀k,k≠X.b->(H.set X.b (.cells (lc X {s with state:=x} lv vv) 0 true)).get k=H.get k:=fun k j=>CE;refine⟨⟨hW,by rw[A _ ac];exact h.a,by rw[A _ ac];exact h.f,by rw[A _ ac];exact h.t,by rw[A _ ac];exact h.n,h.nodes.keep (fun _ _ h=>h) (aM _) fun k j F=>A k (by have:=h.sS k j;omega),h.vars.keep (aM _) fun k j=>A k (by have:=h.vS k j;omega),J,Z,C,K,O,h.sS,h.vS⟩,⟨aM _,fun k _ g _ _ _=>A k g,fun _ h=>.inl h,fun _ h=>.inl h⟩⟩
theorem RepL.setV(h:RepL X H S s lv vv){i:Nat}(C:i<s.vars.length)(x:Int):∃r,zdn Tryz.prog 23 vv (.int .i64 (i:Int))=some (.ptr r i)/\zep Tryz.prog H 3 (.ptr r i)=some (.int .i64 (s.vars.getD i 0)) /\
 ∃H',zeP Tryz.prog H 3 (.ptr r i) (.int .i64 x)=some H'/\X.b<r/\r<H.next/\zd9 vv r/\RepL X H' S {s with vars:=s.vars.set i x} lv vv/\FrL X S vv H S vv H'/\(∀k,k≠r->H'.get k=H.get k)/\H'.next=H.next:=by
 rcases h.vars with⟨_,V⟩|⟨r,L,A,Z,hr⟩
 .rw[V]at C;simp at C
 .have g:zd9 vv r:=⟨_,L⟩;have W:=(h.vS r g).1;refine⟨r,?_,?_,H.set r (.cells ((s.vars.set i x).map (.int .i64)) 0 true),?_,W,hr,g,?_,⟨aM _,fun k _ _ _ _ Y=>?_,fun _ h=>.inl h,fun _ h=>.inl h⟩,fun k j=>CE,rfl⟩
  .rw[L,mK Tryz.underlying23 jl C];simp
  .rw[qo Tryz.underlying3 rfl A,ea,cH,aO C];rfl
  .rw[uV A (by rw[cX];exact C),n0]
  .have J:=h.o1;have U:=h.o2;have O:=h.o3;have K:=h.o4;have M:=h.o5;have j:∀k,k≠r->(H.set r (.cells ((s.vars.set i x).map (.int .i64)) 0 true)).get k=H.get k:=fun k j=>CE;refine⟨by rw[j _ ac];exact h.m,by rw[j _ ac];exact h.a,by rw[j _ ac];exact h.f,by rw[j _ ac];exact h.t,by rw[j _ ac];exact h.n,h.nodes.keep (fun _ _ h=>h) (aM _) fun k hS _=>j k fun e=>(h.sS k hS).2.2 (by rw[e];exact g),.inr ⟨r,by rw[L,kK],hW,Z,hr⟩,J,U,O,K,M,h.sS,h.vS⟩
  .rw[aX,ah (fun e=>Y (by rw[e];exact g))]
end
end
end Go.Proofs.YtljebeflbbgibaaGreat
