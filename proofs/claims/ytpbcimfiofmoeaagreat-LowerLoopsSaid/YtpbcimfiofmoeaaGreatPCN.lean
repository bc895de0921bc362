/- Parts: P4b, P4c, P4d, P4h. -/
import Derived.Test.YtpbcimfiofmoeaaGreatPCM
set_option linter.unusedSimpArgs false
set_option linter.unusedVariables false
set_option linter.unusedSectionVars false
set_option linter.defProp false
set_option maxHeartbeats 32000000
namespace Go.Ab
set_option maxRecDepth 20000
open Go
theorem uq{P:Prop}(h:P:=by refine⟨rfl,rfl,rfl,rfl,rfl,rfl,rfl,rfl,rfl⟩):P:=h
theorem Mh{P:Prop}(h:P:=by rw[qr];(try simp only[Bool.not_eq_true',Bool.not_eq_false']at *);simp only[*,Bool.false_and,Bool.and_false,Bool.and_true,]):P:=h
theorem ye{P:Prop}(h:P:=by (try simp only[zfw]);omega):P:=h
theorem yf{P:Prop}(h:P:=by rw[<- Y,Hp.get_set,if_pos rfl]):P:=h
def sU:=@List.all_nil
def BC:=@Bool.not_and
end Go.Ab
namespace Go.Proofs.YtpbcimfiofmoeaaGreat
set_option maxRecDepth 20000
open Go Go.Ab
section
def tyP4b.tyF:=ad @ej (ad @cN (ad @tJ (ad @dH (ad @fO (ad @fP (ad @eR (ad @gJ (@IF))))))))
open tyP4b
noncomputable def Mi:{c:SC // aH 111 (Tryz.f124.body.getD .skip)=c}:=by
 refine⟨?_,?_⟩;rotate_left
 .simp only[Tryz.f124,bS,aH,zfO,zfL,zfR,zfS,Nat.blt,Nat.ble];rfl
mutual
theorem Mj:∀(x:Ex) (d:Int),mh (fun x _=>lS x) x d=gk x
 | .mk k n s o V,d=>by rw[mh,gk,Mk V,Bool.and_comm]
theorem Mk:∀(l:List Ex) (d:Int),zhs (fun x _=>lS x) l d=eV l
 |[],_=>rfl
 |x::l,d=>by rw[zhs,eV,Mj x,Mk l]
end
theorem Fk{l:List En}(U:∀C,zgw l 120 C=yb.sp C)(j:∀C,zgw l 157 C=yd.sp C)(J:(∀C,zgw l 123 C=none)/\lQ l 123=false)(L:(∀C,zgw l 122 C=none)/\lQ l 122=false)
 (x:Ex) (Z:x.sz<2^60) (H:Hp):zfs Tryz.prog (zfn pls l) 122 [.agg x.cells,.int .i64 0,.clo 123 []] H fun v H'=>v=.bool (gk x)/\FrB 0 H H':=by
 have m:sR 0 fun _:Hp=>True:=fun _ _ _ _=>trivial;refine aS ?_ (vH (zgK L.1 L.2) m (zt3 U j J m) (x.sz+1) x (cI _) 0 H Z (dZ _) trivial);rintro v H' ⟨rfl,g,_⟩;exact⟨by rw[Mj],g⟩
def pE(x:Ex)(w:Bool):Bool:=bif w then gk x else zeroE x
noncomputable def Fl:List En:=[yb,yd,Mg]
theorem zt5(ρ:Nat->Int):iF Tryz.prog ρ Fl:=⟨Me ρ,Mf ρ,zyg ρ,trivial⟩
theorem zki(ρ:Nat->Int)(x:Ex)(w:Bool)(C:x.sz<2^60):ce Tryz.prog ρ 160 [.agg x.cells,.bool w] (.bool (pE x w)):=zg3 fit (pls:=pls) (zt5 ρ) (.cons (.agg x.pure) (.cons (.bool _) .nil)) (.bool _) (by
 have Z:Plain (zfn pls Fl) 160:=zgK (fun _=>rfl) rfl;have I:∀y:Ex,∀H,zfs Tryz.prog (zfn pls Fl) 184 [.agg y.cells] H fun v H'=>v=.bool (zeroE y)/\H'=H:=fun y H=>zgL (enc:=xI) (out:=fun x=>.bool (zeroE x)) Zq (x:=y) rfl trivial;cases w
 .refine zfz (M:=10) (rs:=[.tmp 4]) (Z.call _) Z.ice Z.froz Tryz.func160 rfl rfl BB.2 rfl ?_;dsimp only[BB,zft,Nat.reduceAdd];repeat' (first
   |(apply ah ?_;clear hK K)|apply Rx.o ?_|(apply kF ?_;first|refine Rx.k (I _ _) ?_)|(apply bt (fun o z=>?_) (fun o z=>?_)<;>try(cases o;done))|apply ak ?_|(apply zff fun K hK=>?_)|apply zfh ?_|apply ax ?_)
  all_goals (refine⟨zfj,_,zfq,?_⟩;try simp only[zfi])
  rfl
 .refine zfz (M:=10) (rs:=[.tmp 4]) (Z.call _) Z.ice Z.froz Tryz.func160 rfl rfl BB.2 rfl ?_;dsimp only[BB,zft,Nat.reduceAdd];repeat' (first
   |(apply ah ?_;clear hK K)|apply Rx.o ?_|(apply bt (fun o z=>?_) (fun o z=>?_)<;>try(cases o;done))|apply ak ?_|(apply zff fun K hK=>?_)|fail)
  refine aU rfl aV aW ?_;simp only[bi];refine aS ?_ (Fk (fun _=>rfl) (fun _=>rfl) ⟨fun _=>rfl,rfl⟩ ⟨fun _=>rfl,rfl⟩ x C _);rintro v H ⟨rfl,_⟩;dsimp only[zfp];repeat' (first
   |(apply ah ?_;clear hK K)|apply Rx.o ?_|apply ax ?_)
  all_goals (refine⟨zfj,_,zfq,?_⟩;try simp only[zfi])
  rfl)
def bw(k:Int)(i:Nat):Bool:=(uo k).getD i false
theorem zbv(k:Int):(uo k).map AV.bool=[.bool (bw k 0),.bool (bw k 1),.bool (bw k 2),.bool (bw k 3),.bool (bw k 4),.bool (bw k 5),.bool (bw k 6),.bool (bw k 7)]:=by
 have h:∃a b c d e f g h,uo k=[a,b,c,d,e,f,g,h]:=by
  unfold uo;repeat' split
  all_goals exact⟨_,_,_,_,_,_,_,_,rfl⟩
 obtain⟨a,b,c,d,e,f,g,h,Z⟩:=h;simp only[bw,Z];rfl
def qr(x:St):Bool:=
 kS x.kind&&mX x.name (bw x.kind 0)&&mX x.to (bw x.kind 1)&&pE x.at_ (bw x.kind 3)&&pE x.value (bw x.kind 4) &&
 !decide (x.n<0) && !decide (1000000<x.n)&&(bw x.kind 2||decide (x.n=0))&&(bw x.kind 5 || !decide ((0:Int)<x.args.length))&&(bw x.kind 6 || !decide ((0:Int)<x.thn.length))&&(bw x.kind 7 || !decide ((0:Int)<x.els.length))&&eV x.args
def yg(x:St):Bool:=decide (x.n<0)||decide (1000000<x.n)||(!bw x.kind 2 && !decide (x.n=0))||(!bw x.kind 5&&decide ((0:Int)<x.args.length))||(!bw x.kind 6&&decide ((0:Int)<x.thn.length))||(!bw x.kind 7&&decide ((0:Int)<x.els.length))
noncomputable def Ml:En:=⟨158,false,dc (fun _=>True) (fun n:Int=>[.int .i64 n]) vK⟩
theorem zyi(ρ:Nat->Int):zgE Tryz.prog ρ Ml:=zgO fun x _=>zpf ρ x
def yh(x:List UInt8×Bool):List AV:=[.str x.1,.bool x.2]
theorem zyj(x y:List UInt8×Bool)(h:yh x=yh y):x=y:=by
 simp only[yh,eB,AV.str.injEq,AV.bool.injEq,a0]at h;exact sn h.1 h.2
noncomputable def Mm:En:=⟨159,false,dc (fun x=>x.1.length<2^60) yh fun x=>.bool (mX x.1 x.2)⟩
theorem zyk(ρ:Nat->Int):zgE Tryz.prog ρ Mm:=zgO fun x C=>zpd ρ x.1 x.2 C
def yj(x:Ex×Bool):List AV:=[.agg x.1.cells,.bool x.2]
theorem zyl(x y:Ex×Bool)(h:yj x=yj y):x=y:=by
 simp only[yj,eB,AV.agg.injEq,AV.bool.injEq,a0]at h;exact sn (Ex.inj h.1) h.2
noncomputable def Mn:En:=⟨160,false,dc (fun x=>x.1.sz<2^60) yj fun x=>.bool (pE x.1 x.2)⟩
theorem zym(ρ:Nat->Int):zgE Tryz.prog ρ Mn:=zgO fun x C=>zki ρ x.1 x.2 C
noncomputable def Mo:En:=⟨121,false,dc (fun l=>zgU l<2^60) (fun l:List (List UInt8)=>[jp l]) fun l=>.bool (l.all zf7)⟩
theorem zyn(ρ:Nat->Int):zgE Tryz.prog ρ Mo:=zgO fun x C=>zpc ρ x C
theorem zyo(x y:List (List UInt8))(h:([jp x]:List AV)=[jp y]):x=y:=by
 simp only[eB,AV.lst.injEq,a0]at h;exact Al h
noncomputable def qs:List En:=[yb,yd,Ml,Mm,Mn,Mo]
theorem zt6(ρ:Nat->Int):iF Tryz.prog ρ qs:=⟨Me ρ,Mf ρ,zyi ρ,zyk ρ,zym ρ,zyn ρ,trivial⟩
theorem zbE:bw 1 0=true/\bw 1 1=false/\bw 1 2=false/\bw 1 3=false/\bw 1 4=true/\bw 1 5=false/\bw 1 6=false/\bw 1 7=false/\kS 1=true:=uq
theorem zbF:bw 2 0=true/\bw 2 1=false/\bw 2 2=false/\bw 2 3=true/\bw 2 4=true/\bw 2 5=false/\bw 2 6=false/\bw 2 7=false/\kS 2=true:=uq
theorem zbG:bw 3 0=false/\bw 3 1=false/\bw 3 2=false/\bw 3 3=false/\bw 3 4=true/\bw 3 5=false/\bw 3 6=true/\bw 3 7=true/\kS 3=true:=uq
theorem zbH:bw 4 0=false/\bw 4 1=false/\bw 4 2=false/\bw 4 3=false/\bw 4 4=true/\bw 4 5=false/\bw 4 6=true/\bw 4 7=false/\kS 4=true:=uq
theorem zbI:bw 5 0=false/\bw 5 1=false/\bw 5 2=false/\bw 5 3=false/\bw 5 4=true/\bw 5 5=false/\bw 5 6=false/\bw 5 7=false/\kS 5=true:=uq
theorem zbJ:bw 6 0=true/\bw 6 1=true/\bw 6 2=false/\bw 6 3=false/\bw 6 4=false/\bw 6 5=true/\bw 6 6=false/\bw 6 7=false/\kS 6=true:=uq
theorem zbK:bw 7 0=false/\bw 7 1=false/\bw 7 2=true/\bw 7 3=false/\bw 7 4=false/\bw 7 5=false/\bw 7 6=false/\bw 7 7=false/\kS 7=true:=uq
set_option maxRecDepth 100000 in
theorem zt7:ya (zfn pls qs) 0 (fun(_:Unit) _=>True) 124 [] fun x _ s=>(qr x,s):=by
 intro x d s H hz _ _;have hw:Plain (zfn pls qs) 124:=zgK (fun _=>rfl) rfl;have kf:∀k H,zfs Tryz.prog (zfn pls qs) 158 [.int .i64 k] H fun v H'=>v=.tup [.agg [.bool (bw k 0),.bool (bw k 1),.bool (bw k 2),.bool (bw k 3),.bool (bw k 4),.bool (bw k 5),.bool (bw k 6),.bool (bw k 7)],.bool (kS k)]/\H'=H:=fun k H=>by
  have:=zgL (P:=Tryz.prog) (pls:=pls) (l:=qs) (enc:=fun n:Int=>[.int .i64 n]) (ok:=fun _=>True) (out:=vK) JQ (g:=158) (x:=k) rfl trivial (H:=H);unfold vK at this;rw[zbv]at this;exact this
 have km:∀(s:List UInt8) (w:Bool),s.length<2^60->∀H,zfs Tryz.prog (zfn pls qs) 159 [.str s,.bool w] H fun v H'=>v=.bool (mX s w)/\H'=H:=fun s w h H=>zgL (enc:=yh) (out:=fun x=>.bool (mX x.1 x.2)) zyj (x:=(s,w)) rfl h;have kx:∀(y:Ex) (w:Bool),y.sz<2^60->∀H,zfs Tryz.prog (zfn pls qs) 160 [.agg y.cells,.bool w] H fun v H'=>v=.bool (pE y w)/\H'=H:=fun y w h H=>zgL (enc:=yj) (out:=fun x=>.bool (pE x.1 x.2)) zyl (x:=(y,w)) rfl h;have hsz:=x.sz_eq;have hlen:=vb x.args;have hx0:∀a b,Ab.extract (.tup [a,b]) 0=some a:=fun _ _=>rfl;have hx1:∀a b,Ab.extract (.tup [a,b]) 1=some b:=fun _ _=>rfl;refine zfz (M:=111) (rs:=[.tmp 4]) (hw.call _) hw.ice hw.froz Tryz.func124 rfl rfl Mi.2 rfl ?_;dsimp only[Mi,zft,Nat.reduceAdd];repeat' (first
  |(apply ah ?_;clear hK K)|apply Rx.o ?_|apply ct ?_|(apply kF ?_;first|refine Rx.k (kf _ _) ?_|refine Rx.k (km _ _ ac _) ?_|refine Rx.k (kx _ _ ac _) ?_)|(apply dr (fun I V=>?_) (fun I V=>?_)<;>try(cases I;done))|apply ak ?_|(apply zff fun K hK=>?_)|fail)
 all_goals (first|(refine bt (t:=true) (h1:=fun _ _=>?_) (h2:=fun hzz _=>?_)<;>try(cases hzz;done))|skip)
 all_goals
  repeat' (first
   |(apply ah ?_;clear hK K)|apply Rx.o ?_|apply ak ?_|(apply zff fun K hK=>?_)|apply ax ?_|fail)
 all_goals (first|(refine⟨zfj,_,zfq,?_⟩;(try simp only[zfi]);refine⟨Mh,(((i8 _ _).alloc _).alloc _).set (.inl ye) _,trivial⟩;done)|skip)
 have O:FrB 0 H (((H.alloc (.cells x.cells 0 true)).alloc (.cells [.bool false,.bool false,.bool false,.bool false,.bool false,.bool false,.bool false,.bool false] 0 true)).set (H.next+1) (.cells [.bool (bw x.kind 0),.bool (bw x.kind 1),.bool (bw x.kind 2),.bool (bw x.kind 3),.bool (bw x.kind 4),.bool (bw x.kind 5),.bool (bw x.kind 6),.bool (bw x.kind 7)] 0 true)):=(((i8 _ _).alloc _).alloc _).set (.inl ac) _;refine Y9 [2,4,5,48] fun E' m=>?_;(try simp only[zfT,zfB,a0,zfo,zfv,Nat.reduceBEq, *]at m);generalize Y:Hp.set _ (H.next+1) _=Hb at O⊢;have gb:Hb.get H.next=some (.cells x.cells 0 true):=by rw[<-Y,aQ,af ac,zfk,af fx,zfk,aq rfl]
 have gf:Hb.get (H.next+1)=some (.cells [.bool (bw x.kind 0),.bool (bw x.kind 1),.bool (bw x.kind 2),.bool (bw x.kind 3),.bool (bw x.kind 4),.bool (bw x.kind 5),.bool (bw x.kind 6),.bool (bw x.kind 7)] 0 true):=yf;have nb:H.next+2<=Hb.next:=by rw[<-Y];exact aE _
 clear Y;refine bt (h1:=fun o z=>?_) (h2:=fun o z=>?_)
 .repeat' (first
   |(apply ah ?_;clear hK K)|apply Rx.o ?_|apply ak ?_|(apply zff fun K hK=>?_)|apply ax ?_|fail)
  all_goals (refine⟨zfj,_,zfq,?_⟩;try simp only[zfi])
  refine⟨Mh,O,trivial⟩
 refine zfV.skip ?_;dsimp only[nE,sc];refine ak ?_;first
 |refine zff fun K Z=>?_
 |(simp only[zfO,zfL,zfR,zfS,Nat.blt,Nat.ble];refine zff fun K Z=>?_)
 |(refine ak ?_;refine zff fun K Z=>?_)
 have hK:∀j C,(j.at 2=.ptr H.next 0/\j.at 4=.bool false/\j.at 99=.bool (yg x)/\C=Hb)->K j C:=by
  rintro j C ⟨k2,k4,k99,rfl⟩;apply Z;clear Z K;dsimp only[nE,sc];have L:(kS x.kind&&mX x.name (bw x.kind 0)&&mX x.to (bw x.kind 1)&&pE x.at_ (bw x.kind 3)&&pE x.value (bw x.kind 4))=true:=by(try simp only[sE]at *);simp only[*,jV,]
  have U:qr x=(!yg x&&eV x.args):=by
   have e:qr x=((kS x.kind&&mX x.name (bw x.kind 0)&&mX x.to (bw x.kind 1)&&pE x.at_ (bw x.kind 3)&&pE x.value (bw x.kind 4))&&(!yg x&&eV x.args)):=by
    simp only[qr,yg,vp,BC,Bool.not_not,tV]
   rw[e,L,fy]
  repeat' (first
   |(apply ah ?_;clear hK K)|apply Rx.o ?_|(apply bt (fun o z=>?_) (fun o z=>?_)<;>try(cases o;done))|apply ak ?_|(apply zff fun K hK=>?_)|apply ay ?_|apply zfh ?_|apply ax ?_|fail)
  .all_goals (refine⟨zfj,_,zfq,?_⟩;try simp only[zfi])
   refine⟨by rw[U];(try simp only[sE]at *);simp only[*,eJ,jT,],O,trivial⟩
  refine zgs [2,4,101,102] [] 103 x.args.length (fun i E C=>eV x.args=eV (x.args.drop i)/\FrB 0 H C) eE ⟨au,O⟩ ?_;rintro i E H3 hi m hrH hnH hsI ⟨hJ,hf2⟩;(try simp only[zfT,zfB,a0,zfo,zfv,Nat.reduceBEq, *]at m);(try simp only[zfB, *]at hrH);(try simp only[zfw,zfI,zgj,b9,Nat.reduceAdd]at hnH);repeat' (first
   |(apply ah ?_;clear hK K)|apply Rx.o ?_|(apply bt (fun o z=>?_) (fun o z=>?_)<;>try(cases o;done))|apply ak ?_|(apply zff fun K hK=>?_)|apply ay ?_|apply zfh ?_|apply ax ?_|apply zfr ?_)
  .have J:i<x.args.length:=by simpa using o
   have hgx:x.args[i]?=some x.args[i]:=aR J;have hsm:=tR (dI J);have hdr:eV (x.args.drop i)=(gk x.args[i]&&eV (x.args.drop (i+1))):=by rw[gW J];rfl
   repeat' (first
    |(apply ah ?_;clear hK K)|apply Rx.o ?_|apply ct ?_|apply ak ?_|(apply zff fun K hK=>?_)|fail)
   refine aU rfl aV aW ?_;simp only[bi];refine aS ?_ (Fk (fun _=>rfl) (fun _=>rfl) ⟨fun _=>rfl,rfl⟩ ⟨fun _=>rfl,rfl⟩ x.args[i] ac _);rintro v H4 ⟨rfl,hf4⟩;dsimp only[zfp];have hf5:FrB 0 H H4:=hf2.trans ((((i8 _ _).alloc _).set (.inl (aE _)) _).trans hf4);have n4:=hf4.next
   simp only[zfI,zfw]at n4;repeat' (first
    |(apply ah ?_;clear hK K)|apply Rx.o ?_|(apply bt (fun o z=>?_) (fun o z=>?_)<;>try(cases o;done))|apply ak ?_|(apply zff fun K hK=>?_)|apply zfh ?_|apply ax ?_|fail)
   all_goals (first|(refine⟨zfj,_,zfq,?_⟩;(try simp only[zfi]);refine⟨by rw[U,hJ,hdr];(try simp only[iQ]at *);simp only[ *,vh,iC,],hf5,trivial⟩;done)|skip)
   refine⟨ac,eL,eL,zf4,Le,?_⟩;exact⟨by rw[hJ,hdr];(try simp only[sE]at *);simp only[*,fy,],hf5⟩
  .all_goals (refine⟨zfj,_,zfq,?_⟩;try simp only[zfi])
   refine⟨by rw[U,hJ,show i=x.args.length by simp at o;omega,nI];(try simp only[sE]at *);simp only[eV, *,jV,iC,],hf2,trivial⟩
 clear Z;repeat' (first
  |(apply ah ?_;clear hK K)|apply Rx.o ?_|apply re ?_|(apply dr (fun I V=>?_) (fun I V=>?_)<;>try(cases I;done))|fail)
 all_goals
  refine⟨eE,eE,?_,rfl⟩;rw[yg];(try simp only[iQ]at *);simp only[zfo,Nat.reduceBEq, *,gH,gK,oK,oP,]
end
section
theorem nR(n:Nat):(!decide ((0:Int)<n))=decide ((n:Int)=0):=by
 cases n with
 |zero=>rfl
 |succ n=>simp;omega
theorem zbM(n:Int):(!decide (n<0) && !decide (1000000<n)&&decide (n=0))=decide (n=0):=by
 by_cases h:n=0
 .subst h;rfl
 .simp[h]
theorem zbN(n:Int):(!decide (n<0))=decide (0<=n):=by
 by_cases h:n<0
 .simp[h]
 .simp[h];omega
theorem zbO(n:Int):(!decide (1000000<n))=decide (n<=1000000):=by
 by_cases h:1000000<n
 .simp[h]
 .simp[h];omega
theorem zyp(x:St):qr x=jZ x:=by
 have j:x.kind=1\/x.kind=2\/x.kind=3\/x.kind=4\/x.kind=5\/x.kind=6\/x.kind=7\/kS x.kind=false:=by
  simp only[kS,sm,i4];omega
 rcases j with j|j|j|j|j|j|j|j
 case inr.inr.inr.inr.inr.inr.inr=>
  have h:jl x=false:=by
   simp only[kS,sm,i4]at j;unfold jl;rw[af ac,af ac,af ac,af ac,af ac,af ac,af ac]
  rw[qr,jZ,j,h];simp
 all_goals
  have hr:=zbM x.n;simp only[qr,jZ,jl,j,zbE,zbF,zbG,zbH,zbI,zbJ,zbK,mQ,ud,mX,pE,iJ,pQ,cV,cS,Int.reduceEq,x7,gH,o0,nR,dm];first
  |(rw[zbN,zbO];ac_rfl)
  |(rw[<-hr];ac_rfl)
mutual
theorem zt8:∀(x:St) (d:Int),kG (fun x _ (s:Unit)=>(qr x,s)) x d ()=(j0 x,())
 | .mk k J O n a v j C I,d=>by
   rw[kG,j0,zyp];cases h:jZ (.mk k J O n a v j C I)with
   |false=>simp
   |true=>
    simp only[BD C,fy];cases g:gO C with
    |false=>simp
    |true=>simp only[BD I,fy]
theorem BD:∀(l:List St) (d:Int),zgQ (fun x _ (s:Unit)=>(qr x,s)) l d ()=(gO l,())
 |[],_=>rfl
 |x::l,d=>by
  rw[zgQ,gO,zt8 x];cases h:j0 x with
  |false=>simp
  |true=>simp only[BD l,fy]
end
def tyP4d.tyF:=ad @ej (ad @cN (ad @dH (ad @lP (ad @nF (ad @iZ (ad @iO (ad @fO (ad @fP (ad @eR (ad @mM (ad @pV (@gJ))))))))))))
open tyP4d
noncomputable def Mp:{c:SC // aH 55 (Tryz.f73.body.getD .skip)=c}:=by
 refine⟨?_,?_⟩;rotate_left
 .simp only[Tryz.f73,bS,aH,zfO,zfL,zfR,zfS,Nat.blt,Nat.ble];rfl
theorem znA(f:Fu)(b:List UInt8->Bool):(fnNames f).all b=(b f.name&&f.params.all b&&f.locals.all b):=by
 rw[fnNames,Bc,Bc,qd,sU,jV]
set_option maxRecDepth 100000 in
theorem zjQ(ρ:Nat->Int)(p:Pr)(hz:p.sz<2^36):ce Tryz.prog ρ 73 [.agg p.cells] (.bool (ja p)):=zg3 fit (pls:=pls) (zt6 ρ) (.cons (.agg p.pure) .nil) (.bool _) (by
 have hw:Plain (zfn pls qs) 73:=zgK (fun _=>rfl) rfl;have zgM:∀s:List UInt8,s.length<2^60->∀H,zfs Tryz.prog (zfn pls qs) 120 [.str s] H fun v H'=>v=.bool (zf7 s)/\H'=H:=fun s h1 H=>zgL (enc:=nJ) (out:=fun x=>.bool (zf7 x)) vi (x:=s) rfl h1;have ks:∀l:List (List UInt8),zgU l<2^60->∀H,zfs Tryz.prog (zfn pls qs) 121 [jp l] H fun v H'=>v=.bool (l.all zf7)/\H'=H:=fun l h1 H=>zgL (enc:=fun l:List (List UInt8)=>[jp l]) (out:=fun l=>.bool (l.all zf7)) zyo (x:=l) rfl h1;have hpz:p.sz=1+jC p.arrays+ig p.funcs:=rfl;have hla:=tQ p.arrays;have hlf:=tO p.funcs;refine zfz (M:=55) (rs:=[.tmp 2]) (hw.call _) hw.ice hw.froz Tryz.func73 rfl rfl Mp.2 rfl ?_;dsimp only[Mp,zft,Nat.reduceAdd];repeat' (first
  |(apply ah ?_;clear hK K)|apply Rx.o ?_|apply ak ?_|(apply zff fun K hK=>?_)|apply ay ?_|fail)
 refine zgs [1,8,9] [0] 10 p.arrays.length (fun i E H=>p.arrays.all (fun a=>zf7 a.name)=(p.arrays.drop i).all (fun a=>zf7 a.name)) eE au ?_;rintro i E H2 hi j V g hsI Z;(try simp only[zfT,zfB,a0,zfo,zfv,Nat.reduceBEq, *]at j);(try simp only[zfT,zfB,a0,zfo,zfv, *]at V);(try simp only[zfw,zgj,b9]at g);have hB0:(0 == H2.next)=false:=zfN ac;have hC0:(H2.next == 0)=false:=zfN ac;repeat' (first
  |(apply ah ?_;clear hK K)|apply Rx.o ?_|(apply bt (fun o z=>?_) (fun o z=>?_)<;>try(cases o;done))|apply ak ?_|(apply zff fun K hK=>?_)|apply ay ?_|apply zfh ?_|apply zfr ?_)
 .have O:i<p.arrays.length:=by simpa using o
  have hgx:p.arrays[i]?=some p.arrays[i]:=aR O;have hsm:=Eu (dI O);have m:(p.arrays.drop i).all (fun a=>zf7 a.name)=(zf7 p.arrays[i].name&&(p.arrays.drop (i+1)).all (fun a=>zf7 a.name)):=x6;repeat' (first
   |(apply ah ?_;clear hK K)|apply Rx.o ?_|apply ct ?_|(apply kF ?_;first|refine Rx.k (zgM _ ac _) ?_)|(apply bt (fun o z=>?_) (fun o z=>?_)<;>try(cases o;done))|apply ak ?_|(apply zff fun K hK=>?_)|apply zfh ?_|apply ax ?_|fail)
  all_goals (first|(refine⟨zfj,_,zfq,?_⟩;(try simp only[zfi]);rw[ja,Z,m];(try simp only[oY]at *);simp only[*,eJ,];done)|skip)
  refine⟨ac,eL,eL,zf4,Ep,?_⟩;rw[Z,m];(try simp only[sE]at *);simp only[*,fy,]
 .have U:i=p.arrays.length:=by simp at o;omega
  rw[U,nI]at Z;have L:p.arrays.all (fun a=>zf7 a.name)=true:=Z;clear Z U hsI hi;refine zgs [20,21] [0] 22 p.funcs.length (fun i E H=>p.funcs.all lT=(p.funcs.drop i).all lT) eE au ?_;rintro i E H3 hi j V g hsI Z;(try simp only[zfT,zfB,a0,zfo,zfv,Nat.reduceBEq, *]at j);(try simp only[zfT,zfB,a0, *]at V);(try simp only[zfw,zfI,zgj,b9,Nat.reduceAdd]at g);have hB0:(0 == H3.next)=false:=zfN ac;have hC0:(H3.next == 0)=false:=zfN ac;repeat' (first
   |(apply ah ?_;clear hK K)|apply Rx.o ?_|(apply bt (fun o z=>?_) (fun o z=>?_)<;>try(cases o;done))|apply ak ?_|(apply zff fun K hK=>?_)|apply ay ?_|apply zfh ?_|apply ax ?_|apply zfr ?_)
  .have O:i<p.funcs.length:=by simpa using o
   have hgx:p.funcs[i]?=some p.funcs[i]:=aR O;have hsm:=pY (dI O);have hsz:p.funcs[i].sz=1+p.funcs[i].name.length+zgU p.funcs[i].params+zgU p.funcs[i].locals+zf0 p.funcs[i].body+p.funcs[i].value.sz:=rfl;have m:(p.funcs.drop i).all lT=(lT p.funcs[i]&&(p.funcs.drop (i+1)).all lT):=x6;have J:lT p.funcs[i]=(zf7 p.funcs[i].name&&p.funcs[i].params.all zf7&&p.funcs[i].locals.all zf7&&gO p.funcs[i].body&&gk p.funcs[i].value):=by rw[lT,znA]
   repeat' (first
    |(apply ah ?_;clear hK K)|apply Rx.o ?_|apply ct ?_|(apply kF ?_;first|refine Rx.k (zgM _ ac _) ?_|refine Rx.k (ks _ ac _) ?_)|(apply dr (fun C Y=>?_) (fun C Y=>?_)<;>try(cases C;done))|(apply bt (fun o z=>?_) (fun o z=>?_)<;>try(cases o;done))|apply ak ?_|(apply zff fun K hK=>?_)|apply ax ?_|fail)
   .refine aU rfl aV aW ?_;simp only[bi];refine aS ?_ (Fk (fun _=>rfl) (fun _=>rfl) ⟨fun _=>rfl,rfl⟩ ⟨fun _=>rfl,rfl⟩ p.funcs[i].value ac _);rintro v H4 ⟨rfl,hf4⟩;have hn4:=hf4.next
    simp only[zfI,zfw]at hn4;have g4:H4.get H3.next=some (.cells p.funcs[i].cells 0 true):=by rw[hf4.get _ (dZ _) iP,aQ,aq rfl]
    have g40:H4.get 0=some (.cells p.cells 0 true):=by rw[hf4.get _ (dZ _) iP,aQ,af ac,zfk,af ac];exact V
    dsimp only[zfp];repeat' (first
     |(apply ah ?_;clear hK K)|apply Rx.o ?_|(apply dr (fun C Y=>?_) (fun C Y=>?_)<;>try(cases C;done))|(apply bt (fun o z=>?_) (fun o z=>?_)<;>try(cases o;done))|apply ak ?_|(apply zff fun K hK=>?_)|apply ax ?_|fail)
    .refine aU rfl aV aW ?_;simp only[bi];refine aS ?_ (vI (zgK (fun _=>rfl) rfl) (I:=fun(_:Unit) _=>True) (fun _ _ _ _ _=>trivial) zt7 (zf0 p.funcs[i].body+1) p.funcs[i].body ac 0 () H4 ac (dZ _) trivial);rintro v H5 ⟨rfl,hf5,_⟩;have hn5:=hf5.next
     have g50:H5.get 0=some (.cells p.cells 0 true):=by rw[hf5.get _ (dZ _) ac];exact g40
     rw[BD];dsimp only[zfp];repeat' (first
      |(apply ah ?_;clear hK K)|apply Rx.o ?_|(apply dr (fun C Y=>?_) (fun C Y=>?_)<;>try(cases C;done))|(apply bt (fun o z=>?_) (fun o z=>?_)<;>try(cases o;done))|apply ak ?_|(apply zff fun K hK=>?_)|apply zfh ?_|apply ax ?_|fail)
     all_goals (first|(refine⟨zfj,_,zfq,?_⟩;(try simp only[zfi]);rw[ja,L,Z,m,J];(try simp only[iQ]at *);simp only[ *,vh,jV,];done)|skip)
     refine⟨ac,eL,eL,zf4,ua,?_⟩;rw[Z,m,J];(try simp only[sE]at *);simp only[ *,x7,]
    all_goals skip
    all_goals (first|(refine⟨zfj,_,zfq,?_⟩;(try simp only[zfi]);rw[ja,L,Z,m,J];(try simp only[iQ]at *);simp only[ *,oP,];done)|skip)
   all_goals skip
   all_goals (first|(refine⟨zfj,_,zfq,?_⟩;(try simp only[zfi]);rw[ja,L,Z,m,J];(try simp only[iQ]at *);simp only[ *,vh,jV,];done)|skip)
  .all_goals (refine⟨zfj,_,zfq,?_⟩;try simp only[zfi])
   have U:i=p.funcs.length:=t9;rw[U,nI]at Z;have hJ2:p.funcs.all lT=true:=Z;rw[ja,L,hJ2];rfl)
end
section
def tyP4h.tyF:=ad @lP (ad @nF (@iZ))
open tyP4h
noncomputable def Mq:{c:SC // aH 16 (Tryz.f44.body.getD .skip)=c}:=by
 refine⟨?_,?_⟩;rotate_left
 .simp only[Tryz.f44,bS,aH,zfO,zfL,zfR,zfS,Nat.blt,Nat.ble];rfl
noncomputable def Mr:En:=⟨72,false,dc (fun p=>p.sz<2^36) gh fun p=>.bool (lj p)⟩
theorem zph(ρ:Nat->Int)(p:Pr)(I:p.sz<2^36):ce Tryz.prog ρ 72 (gh p) (.bool (lj p)):=zg3 fit (pls:=pls) (l:=[]) trivial (.cons (.agg p.pure) .nil) (.bool _) (zrx ⟨zha _,zha _,zha _,zha _⟩ (zha _) (zha _) (zha _) p ac)
theorem zt9(ρ:Nat->Int):zgE Tryz.prog ρ Mr:=zgO fun p hp=>zph ρ p hp
noncomputable def Ms:En:=⟨73,false,dc (fun p=>p.sz<2^36) gh fun p=>.bool (ja p)⟩
theorem zua(ρ:Nat->Int):zgE Tryz.prog ρ Ms:=zgO fun p hp=>zjQ ρ p hp
noncomputable def Mt:En:=⟨74,false,dc (fun p=>p.sz<2^36) gh fun p=>.bool (oL p)⟩
theorem zrA(ρ:Nat->Int):zgE Tryz.prog ρ Mt:=zgO fun p hp=>Z5 ρ p hp
noncomputable def Mu:En:=⟨75,false,dc (fun p=>p.sz<2^36) gh fun p=>.int .i64 (ug p)⟩
theorem zuc(ρ:Nat->Int):zgE Tryz.prog ρ Mu:=zgO fun p hp=>znx ρ p hp
noncomputable def vL:List En:=[Mr,Ms,Mt,Mu]
theorem zrB(ρ:Nat->Int):iF Tryz.prog ρ vL:=⟨zt9 ρ,zua ρ,zrA ρ,zuc ρ,trivial⟩
theorem zpi(ρ:Nat->Int)(p:Pr)(I:p.sz<2^36):ce Tryz.prog ρ 44 (gh p) (.int .i64 (zhj p)):=zg3 fit (pls:=pls) (zrB ρ) (.cons (.agg p.pure) .nil) (.int _ _) (by
 have Z:Plain (zfn pls vL) 44:=zgK (fun _=>rfl) rfl;have L:∀H,zfs Tryz.prog (zfn pls vL) 72 [.agg p.cells] H fun v H'=>v=.bool (lj p)/\H'=H:=fun H=>zgL (enc:=gh) (out:=fun p=>.bool (lj p)) sD (x:=p) rfl I;have Y:∀H,zfs Tryz.prog (zfn pls vL) 73 [.agg p.cells] H fun v H'=>v=.bool (ja p)/\H'=H:=fun H=>zgL (enc:=gh) (out:=fun p=>.bool (ja p)) sD (x:=p) rfl I;have V:∀H,zfs Tryz.prog (zfn pls vL) 74 [.agg p.cells] H fun v H'=>v=.bool (oL p)/\H'=H:=fun H=>zgL (enc:=gh) (out:=fun p=>.bool (oL p)) sD (x:=p) rfl I;have O:∀H,zfs Tryz.prog (zfn pls vL) 75 [.agg p.cells] H fun v H'=>v=.int .i64 (ug p)/\H'=H:=fun H=>zgL (enc:=gh) (out:=fun p=>.int .i64 (ug p)) sD (x:=p) rfl I;rw[gh,<-ZV];refine zfz (M:=16) (rs:=[.tmp 2]) (Z.call _) Z.ice Z.froz Tryz.func44 rfl rfl Mq.2 rfl ?_;dsimp only[Mq,zft,Nat.reduceAdd];repeat' (first
  |(apply ah ?_;clear hK K)|apply Rx.o ?_|(apply kF ?_;first|refine Rx.k (L _) ?_|refine Rx.k (Y _) ?_|refine Rx.k (V _) ?_|refine Rx.k (O _) ?_)|(apply bt (fun o z=>?_) (fun o z=>?_)<;>try(cases o;done))|apply ak ?_|(apply zff fun K hK=>?_)|apply ay ?_|apply zfh ?_|apply ax ?_)
 all_goals
  all_goals (refine⟨zfj,_,zfq,?_⟩;try simp only[zfi])
  rw[ED];(try simp only[iQ]at *);simp only[l7,dm, *,cV,cS])
end
end Go.Proofs.YtpbcimfiofmoeaaGreat
