/- Parts: P4b, P4c, P4d, P4h. -/
import Derived.Test.YtpbcimfiofmoeaaGreatMCO
set_option linter.unusedSimpArgs false
set_option linter.unusedVariables false
set_option linter.unusedSectionVars false
set_option linter.defProp false
set_option maxHeartbeats 32000000
namespace Go.Ab
set_option maxRecDepth 20000
open Go
theorem ww{P:Prop}(h:P:=by refine⟨rfl,rfl,rfl,rfl,rfl,rfl,rfl,rfl,rfl⟩):P:=h
theorem Q6{P:Prop}(h:P:=by rw[r0];(try simp only[Bool.not_eq_true',Bool.not_eq_false']at *);simp only[*,Bool.false_and,Bool.and_false,Bool.and_true,]):P:=h
end Go.Ab
namespace Go.Proofs.YtpbcimfiofmoeaaGreat
set_option maxRecDepth 20000
open Go Go.Ab
section
def tyP4b.tyF:=ad @ec (ad @cJ (ad @Cv (ad @dd (ad @em (ad @en (ad @zms (ad @eY (@L7))))))))
open tyP4b
noncomputable def Q7:{c:SC // aC 111 (Tryz.f124.body.getD .skip)=c}:=by
 refine⟨?_,?_⟩;rotate_left
 .simp only[Tryz.f124,bI,aC,zll,zle,zlp,zln,Nat.blt,Nat.ble];rfl
mutual
theorem Q8:∀(x:Ex) (d:Int),m1 (fun x _=>mJ x) x d=eO x
 | .mk k n s o M,d=>by rw[m1,eO,Q9 M,Bool.and_comm]
theorem Q9:∀(l:List Ex) (d:Int),jx (fun x _=>mJ x) l d=ev l
 |[],_=>rfl
 |x::l,d=>by rw[jx,ev,Q8 x,Q9 l]
end
theorem Jc{l:List En}(Z:∀M,zme l 120 M=AA.sp M)(J:∀M,zme l 157 M=AC.sp M)(C:(∀M,zme l 123 M=none)/\jb l 123=false)(V:(∀M,zme l 122 M=none)/\jb l 122=false)
 (x:Ex) (Y:x.sz<2^60) (H:Hp):zk5 Tryz.prog (zkY pls l) 122 [.agg x.cells,.int .i64 0,.clo 123 []] H fun v H'=>v=.bool (eO x)/\FrB 0 H H':=by
 have o:uJ 0 fun _:Hp=>True:=fun _ _ _ _=>trivial;refine aS ?_ (xW (zml V.1 V.2) o (zwt Z J C o) (x.sz+1) x (cE _) 0 H Y (dm _) trivial);rintro v H' ⟨rfl,j,_⟩;exact⟨by rw[Q8],j⟩
def ru(x:Ex)(w:Bool):Bool:=bif w then eO x else zeroE x
noncomputable def Jd:List En:=[AA,AC,Q5]
theorem zwv(ρ:Nat->Int):fK Tryz.prog ρ Jd:=⟨Q3 ρ,Q4 ρ,zBt ρ,trivial⟩
theorem zlx(ρ:Nat->Int)(x:Ex)(w:Bool)(o:x.sz<2^60):bM Tryz.prog ρ 160 [.agg x.cells,.bool w] (.bool (ru x w)):=zmy fit (pls:=pls) (zwv ρ) (.cons (.agg x.pure) (.cons (.bool _) .nil)) (.bool _) (by
 have O:Plain (zkY pls Jd) 160:=zml (fun _=>rfl) rfl;have Z:∀y:Ex,∀H,zk5 Tryz.prog (zkY pls Jd) 184 [.agg y.cells] H fun v H'=>v=.bool (zeroE y)/\H'=H:=fun y H=>zlM (enc:=jN) (out:=fun x=>.bool (zeroE x)) qZ (x:=y) rfl trivial;cases w
 .refine zlf (M:=10) (rs:=[.tmp 4]) (O.call _) O.ice O.froz Tryz.func160 rfl rfl Ee.2 rfl ?_;dsimp only[Ee,zD,Nat.reduceAdd];repeat' (first
   |(apply ah ?_;clear hK K)|apply Rx.o ?_|(apply eM ?_;first|refine zlc (Z _ _) ?_)|(apply a0 (fun C j=>?_) (fun C j=>?_)<;>try(cases C;done))|apply ak ?_|(apply zkU fun K hK=>?_)|apply zk3 ?_|apply aF ?_)
  all_goals (refine⟨eI,_,eR,?_⟩;try simp only[zkX])
  rfl
 .refine zlf (M:=10) (rs:=[.tmp 4]) (O.call _) O.ice O.froz Tryz.func160 rfl rfl Ee.2 rfl ?_;dsimp only[Ee,zD,Nat.reduceAdd];repeat' (first
   |(apply ah ?_;clear hK K)|apply Rx.o ?_|(apply a0 (fun C j=>?_) (fun C j=>?_)<;>try(cases C;done))|apply ak ?_|(apply zkU fun K hK=>?_)|fail)
  refine aZ rfl bc bi ?_;simp only[bj];refine aS ?_ (Jc (fun _=>rfl) (fun _=>rfl) ⟨fun _=>rfl,rfl⟩ ⟨fun _=>rfl,rfl⟩ x o _);rintro v H ⟨rfl,_⟩;dsimp only[zk6];repeat' (first
   |(apply ah ?_;clear hK K)|apply Rx.o ?_|apply aF ?_)
  all_goals (refine⟨eI,_,eR,?_⟩;try simp only[zkX])
  rfl)
def bH(k:Int)(i:Nat):Bool:=(wu k).getD i false
theorem zhp(k:Int):(wu k).map AV.bool=[.bool (bH k 0),.bool (bH k 1),.bool (bH k 2),.bool (bH k 3),.bool (bH k 4),.bool (bH k 5),.bool (bH k 6),.bool (bH k 7)]:=by
 have h:∃a b c d e f g h,wu k=[a,b,c,d,e,f,g,h]:=by
  unfold wu;repeat' split
  all_goals exact⟨_,_,_,_,_,_,_,_,rfl⟩
 obtain⟨a,b,c,d,e,f,g,h,m⟩:=h;simp only[bH,m];rfl
def r0(x:St):Bool:=
 lP x.kind&&oq x.name (bH x.kind 0)&&oq x.to (bH x.kind 1)&&ru x.at_ (bH x.kind 3)&&ru x.value (bH x.kind 4) &&
 !decide (x.n<0) && !decide (1000000<x.n)&&(bH x.kind 2||decide (x.n=0))&&(bH x.kind 5 || !decide ((0:Int)<x.args.length))&&(bH x.kind 6 || !decide ((0:Int)<x.thn.length))&&(bH x.kind 7 || !decide ((0:Int)<x.els.length))&&ev x.args
def AD(x:St):Bool:=decide (x.n<0)||decide (1000000<x.n)||(!bH x.kind 2 && !decide (x.n=0))||(!bH x.kind 5&&decide ((0:Int)<x.args.length))||(!bH x.kind 6&&decide ((0:Int)<x.thn.length))||(!bH x.kind 7&&decide ((0:Int)<x.els.length))
noncomputable def Ra:En:=⟨158,false,b7 (fun _=>True) (fun n:Int=>[.int .i64 n]) xZ⟩
theorem zBv(ρ:Nat->Int):zl0 Tryz.prog ρ Ra:=zl7 fun x _=>zq9 ρ x
def AE(x:List UInt8×Bool):List AV:=[.str x.1,.bool x.2]
theorem zBw(x y:List UInt8×Bool)(h:AE x=AE y):x=y:=by
 simp only[AE,ea,AV.str.injEq,AV.bool.injEq,aR]at h;exact qV h.1 h.2
noncomputable def Rd:En:=⟨159,false,b7 (fun x=>x.1.length<2^60) AE fun x=>.bool (oq x.1 x.2)⟩
theorem zBx(ρ:Nat->Int):zl0 Tryz.prog ρ Rd:=zl7 fun x hx=>zq7 ρ x.1 x.2 hx
def AF(x:Ex×Bool):List AV:=[.agg x.1.cells,.bool x.2]
theorem zBy(x y:Ex×Bool)(h:AF x=AF y):x=y:=by
 simp only[AF,ea,AV.agg.injEq,AV.bool.injEq,aR]at h;exact qV (Ex.inj h.1) h.2
noncomputable def Re:En:=⟨160,false,b7 (fun x=>x.1.sz<2^60) AF fun x=>.bool (ru x.1 x.2)⟩
theorem zBz(ρ:Nat->Int):zl0 Tryz.prog ρ Re:=zl7 fun x hx=>zlx ρ x.1 x.2 hx
noncomputable def Rf:En:=⟨121,false,b7 (fun l=>zmd l<2^60) (fun l:List (List UInt8)=>[zlY l]) fun l=>.bool (l.all zl8)⟩
theorem zBA(ρ:Nat->Int):zl0 Tryz.prog ρ Rf:=zl7 fun x hx=>zq6 ρ x hx
theorem zBB(x y:List (List UInt8))(h:([zlY x]:List AV)=[zlY y]):x=y:=by
 simp only[ea,AV.lst.injEq,aR]at h;exact vJ h
noncomputable def r8:List En:=[AA,AC,Ra,Rd,Re,Rf]
theorem zww(ρ:Nat->Int):fK Tryz.prog ρ r8:=⟨Q3 ρ,Q4 ρ,zBv ρ,zBx ρ,zBz ρ,zBA ρ,trivial⟩
theorem zhy:bH 1 0=true/\bH 1 1=false/\bH 1 2=false/\bH 1 3=false/\bH 1 4=true/\bH 1 5=false/\bH 1 6=false/\bH 1 7=false/\lP 1=true:=ww
theorem zhz:bH 2 0=true/\bH 2 1=false/\bH 2 2=false/\bH 2 3=true/\bH 2 4=true/\bH 2 5=false/\bH 2 6=false/\bH 2 7=false/\lP 2=true:=ww
theorem zhA:bH 3 0=false/\bH 3 1=false/\bH 3 2=false/\bH 3 3=false/\bH 3 4=true/\bH 3 5=false/\bH 3 6=true/\bH 3 7=true/\lP 3=true:=ww
theorem zhB:bH 4 0=false/\bH 4 1=false/\bH 4 2=false/\bH 4 3=false/\bH 4 4=true/\bH 4 5=false/\bH 4 6=true/\bH 4 7=false/\lP 4=true:=ww
theorem zhC:bH 5 0=false/\bH 5 1=false/\bH 5 2=false/\bH 5 3=false/\bH 5 4=true/\bH 5 5=false/\bH 5 6=false/\bH 5 7=false/\lP 5=true:=ww
theorem zhD:bH 6 0=true/\bH 6 1=true/\bH 6 2=false/\bH 6 3=false/\bH 6 4=false/\bH 6 5=true/\bH 6 6=false/\bH 6 7=false/\lP 6=true:=ww
theorem zhE:bH 7 0=false/\bH 7 1=false/\bH 7 2=true/\bH 7 3=false/\bH 7 4=false/\bH 7 5=false/\bH 7 6=false/\bH 7 7=false/\lP 7=true:=ww
set_option maxRecDepth 100000 in
theorem zwx:Az (zkY pls r8) 0 (fun(_:Unit) _=>True) 124 [] fun x _ s=>(r0 x,s):=by
 intro x d s H hz _ _;have hw:Plain (zkY pls r8) 124:=zml (fun _=>rfl) rfl;have kf:∀k H,zk5 Tryz.prog (zkY pls r8) 158 [.int .i64 k] H fun v H'=>v=.tup [.agg [.bool (bH k 0),.bool (bH k 1),.bool (bH k 2),.bool (bH k 3),.bool (bH k 4),.bool (bH k 5),.bool (bH k 6),.bool (bH k 7)],.bool (lP k)]/\H'=H:=fun k H=>by
  have:=zlM (P:=Tryz.prog) (pls:=pls) (l:=r8) (enc:=fun n:Int=>[.int .i64 n]) (ok:=fun _=>True) (out:=xZ) Im (g:=158) (x:=k) rfl trivial (H:=H);unfold xZ at this;rw[zhp]at this;exact this
 have km:∀(s:List UInt8) (w:Bool),s.length<2^60->∀H,zk5 Tryz.prog (zkY pls r8) 159 [.str s,.bool w] H fun v H'=>v=.bool (oq s w)/\H'=H:=fun s w h H=>zlM (enc:=AE) (out:=fun x=>.bool (oq x.1 x.2)) zBw (x:=(s,w)) rfl h;have kx:∀(y:Ex) (w:Bool),y.sz<2^60->∀H,zk5 Tryz.prog (zkY pls r8) 160 [.agg y.cells,.bool w] H fun v H'=>v=.bool (ru y w)/\H'=H:=fun y w h H=>zlM (enc:=AF) (out:=fun x=>.bool (ru x.1 x.2)) zBy (x:=(y,w)) rfl h;have hsz:=x.sz_eq;have hlen:=znJ x.args;have hx0:∀a b,Ab.extract (.tup [a,b]) 0=some a:=fun _ _=>rfl;have hx1:∀a b,Ab.extract (.tup [a,b]) 1=some b:=fun _ _=>rfl;refine zlf (M:=111) (rs:=[.tmp 4]) (hw.call _) hw.ice hw.froz Tryz.func124 rfl rfl Q7.2 rfl ?_;dsimp only[Q7,zD,Nat.reduceAdd];repeat' (first
  |(apply ah ?_;clear hK K)|apply Rx.o ?_|apply bS ?_|(apply eM ?_;first|refine zlc (kf _ _) ?_|refine zlc (km _ _ ac _) ?_|refine zlc (kx _ _ ac _) ?_)|(apply cz (fun z V=>?_) (fun z V=>?_)<;>try(cases z;done))|apply ak ?_|(apply zkU fun K hK=>?_)|fail)
 all_goals (first|(refine a0 (t:=true) (h1:=fun _ _=>?_) (h2:=fun hzz _=>?_)<;>try(cases hzz;done))|skip)
 all_goals
  repeat' (first
   |(apply ah ?_;clear hK K)|apply Rx.o ?_|apply ak ?_|(apply zkU fun K hK=>?_)|apply aF ?_|fail)
 all_goals (first|(refine⟨eI,_,eR,?_⟩;(try simp only[zkX]);refine⟨Q6,(((jy _ _).alloc _).alloc _).set (.inl (by(try simp only[zk9]);omega)) _,trivial⟩;done)|skip)
 have Y:FrB 0 H (((H.alloc (.cells x.cells 0 true)).alloc (.cells [.bool false,.bool false,.bool false,.bool false,.bool false,.bool false,.bool false,.bool false] 0 true)).set (H.next+1) (.cells [.bool (bH x.kind 0),.bool (bH x.kind 1),.bool (bH x.kind 2),.bool (bH x.kind 3),.bool (bH x.kind 4),.bool (bH x.kind 5),.bool (bH x.kind 6),.bool (bH x.kind 7)] 0 true)):=(((jy _ _).alloc _).alloc _).set (.inl ac) _;refine zvr [2,4,5,48] fun E' U=>?_;(try simp only[zlm,zlb,aR,zk1,zk7,Nat.reduceBEq, *]at U);generalize m:Hp.set _ (H.next+1) _=Hb at Y⊢;have gb:Hb.get H.next=some (.cells x.cells 0 true):=by rw[<-m,aJ,af ac,zkZ,af cL,zkZ,am rfl]
 have gf:Hb.get (H.next+1)=some (.cells [.bool (bH x.kind 0),.bool (bH x.kind 1),.bool (bH x.kind 2),.bool (bH x.kind 3),.bool (bH x.kind 4),.bool (bH x.kind 5),.bool (bH x.kind 6),.bool (bH x.kind 7)] 0 true):=by rw[<-m,aJ,am rfl]
 have nb:H.next+2<=Hb.next:=by rw[<-m];exact aB _
 clear m;refine a0 (h1:=fun C j=>?_) (h2:=fun C j=>?_)
 .repeat' (first
   |(apply ah ?_;clear hK K)|apply Rx.o ?_|apply ak ?_|(apply zkU fun K hK=>?_)|apply aF ?_|fail)
  all_goals (refine⟨eI,_,eR,?_⟩;try simp only[zkX])
  refine⟨Q6,Y,trivial⟩
 refine zlt.skip ?_;dsimp only[lF,pR];refine ak ?_;first
 |refine zkU fun K Z=>?_
 |(simp only[zll,zle,zlp,zln,Nat.blt,Nat.ble];refine zkU fun K Z=>?_)
 |(refine ak ?_;refine zkU fun K Z=>?_)
 have hK:∀E2 o,(E2.at 2=.ptr H.next 0/\E2.at 4=.bool false/\E2.at 99=.bool (AD x)/\o=Hb)->K E2 o:=by
  rintro E2 o ⟨k2,k4,k99,rfl⟩;apply Z;clear Z K;dsimp only[lF,pR];have O:(lP x.kind&&oq x.name (bH x.kind 0)&&oq x.to (bH x.kind 1)&&ru x.at_ (bH x.kind 3)&&ru x.value (bH x.kind 4))=true:=by(try simp only[iU]at *);simp only[*,fR,]
  have J:r0 x=(!AD x&&ev x.args):=by
   have e:r0 x=((lP x.kind&&oq x.name (bH x.kind 0)&&oq x.to (bH x.kind 1)&&ru x.at_ (bH x.kind 3)&&ru x.value (bH x.kind 4))&&(!AD x&&ev x.args)):=by
    simp only[r0,AD,xI,Bool.not_and,Bool.not_not,CW]
   rw[e,O,fq]
  repeat' (first
   |(apply ah ?_;clear hK K)|apply Rx.o ?_|(apply a0 (fun C j=>?_) (fun C j=>?_)<;>try(cases C;done))|apply ak ?_|(apply zkU fun K hK=>?_)|apply aG ?_|apply zk3 ?_|apply aF ?_|fail)
  .all_goals (refine⟨eI,_,eR,?_⟩;try simp only[zkX])
   refine⟨by rw[J];(try simp only[iU]at *);simp only[*,gy,lC,],Y,trivial⟩
  refine zlL [2,4,101,102] [] 103 x.args.length (fun i E o=>ev x.args=ev (x.args.drop i)/\FrB 0 H o) eE ⟨ax,Y⟩ ?_;rintro i E H3 hi U hrH hnH hsI ⟨hJ,hf2⟩;(try simp only[zlm,zlb,aR,zk1,zk7,Nat.reduceBEq, *]at U);(try simp only[zlb, *]at hrH);(try simp only[zk9,zli,zlI,bL,Nat.reduceAdd]at hnH);repeat' (first
   |(apply ah ?_;clear hK K)|apply Rx.o ?_|(apply a0 (fun C j=>?_) (fun C j=>?_)<;>try(cases C;done))|apply ak ?_|(apply zkU fun K hK=>?_)|apply aG ?_|apply zk3 ?_|apply aF ?_|apply zlu ?_)
  .have I:i<x.args.length:=by simpa using C
   have hgx:x.args[i]?=some x.args[i]:=aT I;have hsm:=znK (cR I);have hdr:ev (x.args.drop i)=(eO x.args[i]&&ev (x.args.drop (i+1))):=by rw[fS I];rfl
   repeat' (first
    |(apply ah ?_;clear hK K)|apply Rx.o ?_|apply bS ?_|apply ak ?_|(apply zkU fun K hK=>?_)|fail)
   refine aZ rfl bc bi ?_;simp only[bj];refine aS ?_ (Jc (fun _=>rfl) (fun _=>rfl) ⟨fun _=>rfl,rfl⟩ ⟨fun _=>rfl,rfl⟩ x.args[i] ac _);rintro v H4 ⟨rfl,hf4⟩;dsimp only[zk6];have hf5:FrB 0 H H4:=hf2.trans ((((jy _ _).alloc _).set (.inl (aB _)) _).trans hf4);have n4:=hf4.next
   simp only[zli,zk9]at n4;repeat' (first
    |(apply ah ?_;clear hK K)|apply Rx.o ?_|(apply a0 (fun C j=>?_) (fun C j=>?_)<;>try(cases C;done))|apply ak ?_|(apply zkU fun K hK=>?_)|apply zk3 ?_|apply aF ?_|fail)
   all_goals (first|(refine⟨eI,_,eR,?_⟩;(try simp only[zkX]);refine⟨by rw[J,hJ,hdr];(try simp only[dI]at *);simp only[ *,jO,ir,],hf5,trivial⟩;done)|skip)
   refine⟨ac,zk8,zk8,zlF,Dk,?_⟩;exact⟨by rw[hJ,hdr];(try simp only[iU]at *);simp only[*,fq,],hf5⟩
  .all_goals (refine⟨eI,_,eR,?_⟩;try simp only[zkX])
   refine⟨by rw[J,hJ,show i=x.args.length by simp at C;omega,gT];(try simp only[iU]at *);simp only[ev, *,fR,ir,],hf2,trivial⟩
 clear Z;repeat' (first
  |(apply ah ?_;clear hK K)|apply Rx.o ?_|apply qP ?_|(apply cz (fun z V=>?_) (fun z V=>?_)<;>try(cases z;done))|fail)
 all_goals
  refine⟨eE,eE,?_,rfl⟩;rw[AD];(try simp only[dI]at *);simp only[zk1,Nat.reduceBEq, *,gm,iu,p7,jO,kZ,]
end
section
theorem pq(n:Nat):(!decide ((0:Int)<n))=decide ((n:Int)=0):=by
 cases n with
 |zero=>rfl
 |succ n=>simp;omega
theorem zhG(n:Int):(!decide (n<0) && !decide (1000000<n)&&decide (n=0))=decide (n=0):=by
 by_cases h:n=0
 .subst h;rfl
 .simp[h]
theorem zhH(n:Int):(!decide (n<0))=decide (0<=n):=by
 by_cases h:n<0
 .simp[h]
 .simp[h];omega
theorem zhI(n:Int):(!decide (1000000<n))=decide (n<=1000000):=by
 by_cases h:1000000<n
 .simp[h]
 .simp[h];omega
theorem zBC(x:St):r0 x=jg x:=by
 have o:x.kind=1\/x.kind=2\/x.kind=3\/x.kind=4\/x.kind=5\/x.kind=6\/x.kind=7\/lP x.kind=false:=by
  simp only[lP,xp,lJ];omega
 rcases o with o|o|o|o|o|o|o|o
 case inr.inr.inr.inr.inr.inr.inr=>
  have h:mK x=false:=by
   simp only[lP,xp,lJ]at o;unfold mK;rw[af ac,af ac,af ac,af ac,af ac,af ac,af ac]
  rw[r0,jg,o,h];simp
 all_goals
  have hr:=zhG x.n;simp only[r0,jg,mK,o,zhy,zhz,zhA,zhB,zhC,zhD,zhE,qh,qf,oq,ru,iV,pQ,dB,dL,Int.reduceEq,kZ,gm,nN,pq,dE];first
  |(rw[zhH,zhI];ac_rfl)
  |(rw[<-hr];ac_rfl)
mutual
theorem zwy:∀(x:St) (d:Int),lK (fun x _ (s:Unit)=>(r0 x,s)) x d ()=(mL x,())
 | .mk k Z Y n a v M j m,d=>by
   rw[lK,mL,zBC];cases h:jg (.mk k Z Y n a v M j m)with
   |false=>simp
   |true=>
    simp only[Ef j,fq];cases V:ft j with
    |false=>simp
    |true=>simp only[Ef m,fq]
theorem Ef:∀(l:List St) (d:Int),zmG (fun x _ (s:Unit)=>(r0 x,s)) l d ()=(ft l,())
 |[],_=>rfl
 |x::l,d=>by
  rw[zmG,ft,zwy x];cases h:mL x with
  |false=>simp
  |true=>simp only[Ef l,fq]
end
def tyP4d.tyF:=ad @ec (ad @cJ (ad @dd (ad @gY (ad @iQ (ad @fI (ad @fx (ad @em (ad @en (ad @zms (ad @iR (ad @jw (@eY))))))))))))
open tyP4d
noncomputable def Rg:{c:SC // aC 55 (Tryz.f73.body.getD .skip)=c}:=by
 refine⟨?_,?_⟩;rotate_left
 .simp only[Tryz.f73,bI,aC,zll,zle,zlp,zln,Nat.blt,Nat.ble];rfl
theorem zpl(f:Fu)(b:List UInt8->Bool):(fnNames f).all b=(b f.name&&f.params.all b&&f.locals.all b):=by
 rw[fnNames,wn,wn,nY,pZ,fR]
set_option maxRecDepth 100000 in
theorem zk2(ρ:Nat->Int)(p:Pr)(hz:p.sz<2^36):bM Tryz.prog ρ 73 [.agg p.cells] (.bool (hT p)):=zmy fit (pls:=pls) (zww ρ) (.cons (.agg p.pure) .nil) (.bool _) (by
 have hw:Plain (zkY pls r8) 73:=zml (fun _=>rfl) rfl;have kn:∀s:List UInt8,s.length<2^60->∀H,zk5 Tryz.prog (zkY pls r8) 120 [.str s] H fun v H'=>v=.bool (zl8 s)/\H'=H:=fun s h1 H=>zlM (enc:=nV) (out:=fun x=>.bool (zl8 x)) vM (x:=s) rfl h1;have ks:∀l:List (List UInt8),zmd l<2^60->∀H,zk5 Tryz.prog (zkY pls r8) 121 [zlY l] H fun v H'=>v=.bool (l.all zl8)/\H'=H:=fun l h1 H=>zlM (enc:=fun l:List (List UInt8)=>[zlY l]) (out:=fun l=>.bool (l.all zl8)) zBB (x:=l) rfl h1;have hpz:p.sz=1+zmL p.arrays+zmv p.funcs:=rfl;have hla:=znR p.arrays;have hlf:=znQ p.funcs;refine zlf (M:=55) (rs:=[.tmp 2]) (hw.call _) hw.ice hw.froz Tryz.func73 rfl rfl Rg.2 rfl ?_;dsimp only[Rg,zD,Nat.reduceAdd];repeat' (first
  |(apply ah ?_;clear hK K)|apply Rx.o ?_|apply ak ?_|(apply zkU fun K hK=>?_)|apply aG ?_|fail)
 refine zlL [1,8,9] [0] 10 p.arrays.length (fun i E H=>p.arrays.all (fun a=>zl8 a.name)=(p.arrays.drop i).all (fun a=>zl8 a.name)) eE ax ?_;rintro i E H2 hi hcE V hnH hsI z;(try simp only[zlm,zlb,aR,zk1,zk7,Nat.reduceBEq, *]at hcE);(try simp only[zlm,zlb,aR,zk1,zk7, *]at V);(try simp only[zk9,zlI,bL]at hnH);have hB0:(0 == H2.next)=false:=zkV ac;have hC0:(H2.next == 0)=false:=zkV ac;repeat' (first
  |(apply ah ?_;clear hK K)|apply Rx.o ?_|(apply a0 (fun C j=>?_) (fun C j=>?_)<;>try(cases C;done))|apply ak ?_|(apply zkU fun K hK=>?_)|apply aG ?_|apply zk3 ?_|apply zlu ?_)
 .have Z:i<p.arrays.length:=by simpa using C
  have hgx:p.arrays[i]?=some p.arrays[i]:=aT Z;have hsm:=Ip (cR Z);have O:(p.arrays.drop i).all (fun a=>zl8 a.name)=(zl8 p.arrays[i].name&&(p.arrays.drop (i+1)).all (fun a=>zl8 a.name)):=D9;repeat' (first
   |(apply ah ?_;clear hK K)|apply Rx.o ?_|apply bS ?_|(apply eM ?_;first|refine zlc (kn _ ac _) ?_)|(apply a0 (fun C j=>?_) (fun C j=>?_)<;>try(cases C;done))|apply ak ?_|(apply zkU fun K hK=>?_)|apply zk3 ?_|apply aF ?_|fail)
  all_goals (first|(refine⟨eI,_,eR,?_⟩;(try simp only[zkX]);rw[hT,z,O];(try simp only[nM]at *);simp only[*,gy,];done)|skip)
  refine⟨ac,zk8,zk8,zlF,vT,?_⟩;rw[z,O];(try simp only[iU]at *);simp only[*,fq,]
 .have U:i=p.arrays.length:=by simp at C;omega
  rw[U,gT]at z;have J:p.arrays.all (fun a=>zl8 a.name)=true:=z;clear z U hsI hi;refine zlL [20,21] [0] 22 p.funcs.length (fun i E H=>p.funcs.all kH=(p.funcs.drop i).all kH) eE ax ?_;rintro i E H3 hi hcE V hnH hsI z;(try simp only[zlm,zlb,aR,zk1,zk7,Nat.reduceBEq, *]at hcE);(try simp only[zlm,zlb,aR, *]at V);(try simp only[zk9,zli,zlI,bL,Nat.reduceAdd]at hnH);have hB0:(0 == H3.next)=false:=zkV ac;have hC0:(H3.next == 0)=false:=zkV ac;repeat' (first
   |(apply ah ?_;clear hK K)|apply Rx.o ?_|(apply a0 (fun C j=>?_) (fun C j=>?_)<;>try(cases C;done))|apply ak ?_|(apply zkU fun K hK=>?_)|apply aG ?_|apply zk3 ?_|apply aF ?_|apply zlu ?_)
  .have Z:i<p.funcs.length:=by simpa using C
   have hgx:p.funcs[i]?=some p.funcs[i]:=aT Z;have hsm:=pV (cR Z);have hsz:p.funcs[i].sz=1+p.funcs[i].name.length+zmd p.funcs[i].params+zmd p.funcs[i].locals+zld p.funcs[i].body+p.funcs[i].value.sz:=rfl;have O:(p.funcs.drop i).all kH=(kH p.funcs[i]&&(p.funcs.drop (i+1)).all kH):=D9;have m:kH p.funcs[i]=(zl8 p.funcs[i].name&&p.funcs[i].params.all zl8&&p.funcs[i].locals.all zl8&&ft p.funcs[i].body&&eO p.funcs[i].value):=by rw[kH,zpl]
   repeat' (first
    |(apply ah ?_;clear hK K)|apply Rx.o ?_|apply bS ?_|(apply eM ?_;first|refine zlc (kn _ ac _) ?_|refine zlc (ks _ ac _) ?_)|(apply cz (fun o Y=>?_) (fun o Y=>?_)<;>try(cases o;done))|(apply a0 (fun C j=>?_) (fun C j=>?_)<;>try(cases C;done))|apply ak ?_|(apply zkU fun K hK=>?_)|apply aF ?_|fail)
   .refine aZ rfl bc bi ?_;simp only[bj];refine aS ?_ (Jc (fun _=>rfl) (fun _=>rfl) ⟨fun _=>rfl,rfl⟩ ⟨fun _=>rfl,rfl⟩ p.funcs[i].value ac _);rintro v H4 ⟨rfl,hf4⟩;have hn4:=hf4.next
    simp only[zli,zk9]at hn4;have g4:H4.get H3.next=some (.cells p.funcs[i].cells 0 true):=by rw[hf4.get _ (dm _) iI,aJ,am rfl]
    have g40:H4.get 0=some (.cells p.cells 0 true):=by rw[hf4.get _ (dm _) iI,aJ,af ac,zkZ,af ac];exact V
    dsimp only[zk6];repeat' (first
     |(apply ah ?_;clear hK K)|apply Rx.o ?_|(apply cz (fun o Y=>?_) (fun o Y=>?_)<;>try(cases o;done))|(apply a0 (fun C j=>?_) (fun C j=>?_)<;>try(cases C;done))|apply ak ?_|(apply zkU fun K hK=>?_)|apply aF ?_|fail)
    .refine aZ rfl bc bi ?_;simp only[bj];refine aS ?_ (xX (zml (fun _=>rfl) rfl) (I:=fun(_:Unit) _=>True) (fun _ _ _ _ _=>trivial) zwx (zld p.funcs[i].body+1) p.funcs[i].body ac 0 () H4 ac (dm _) trivial);rintro v H5 ⟨rfl,hf5,_⟩;have hn5:=hf5.next
     have g50:H5.get 0=some (.cells p.cells 0 true):=by rw[hf5.get _ (dm _) ac];exact g40
     rw[Ef];dsimp only[zk6];repeat' (first
      |(apply ah ?_;clear hK K)|apply Rx.o ?_|(apply cz (fun o Y=>?_) (fun o Y=>?_)<;>try(cases o;done))|(apply a0 (fun C j=>?_) (fun C j=>?_)<;>try(cases C;done))|apply ak ?_|(apply zkU fun K hK=>?_)|apply zk3 ?_|apply aF ?_|fail)
     all_goals (first|(refine⟨eI,_,eR,?_⟩;(try simp only[zkX]);rw[hT,J,z,O,m];(try simp only[dI]at *);simp only[ *,jO,fR,];done)|skip)
     refine⟨ac,zk8,zk8,zlF,oX,?_⟩;rw[z,O,m];(try simp only[iU]at *);simp only[ *,kZ,]
    all_goals skip
    all_goals (first|(refine⟨eI,_,eR,?_⟩;(try simp only[zkX]);rw[hT,J,z,O,m];(try simp only[dI]at *);simp only[ *,jO,kZ,];done)|skip)
   all_goals skip
   all_goals (first|(refine⟨eI,_,eR,?_⟩;(try simp only[zkX]);rw[hT,J,z,O,m];(try simp only[dI]at *);simp only[ *,jO,fR,];done)|skip)
  .all_goals (refine⟨eI,_,eR,?_⟩;try simp only[zkX])
   have U:i=p.funcs.length:=tc;rw[U,gT]at z;have hJ2:p.funcs.all kH=true:=z;rw[hT,J,hJ2];rfl)
end
section
def tyP4h.tyF:=ad @gY (ad @iQ (@fI))
open tyP4h
noncomputable def Rh:{c:SC // aC 16 (Tryz.f44.body.getD .skip)=c}:=by
 refine⟨?_,?_⟩;rotate_left
 .simp only[Tryz.f44,bI,aC,zll,zle,zlp,zln,Nat.blt,Nat.ble];rfl
noncomputable def Rk:En:=⟨72,false,b7 (fun p=>p.sz<2^36) fc fun p=>.bool (md p)⟩
theorem zrb(ρ:Nat->Int)(p:Pr)(J:p.sz<2^36):bM Tryz.prog ρ 72 (fc p) (.bool (md p)):=zmy fit (pls:=pls) (l:=[]) trivial (.cons (.agg p.pure) .nil) (.bool _) (ztK ⟨zmQ _,zmQ _,zmQ _,zmQ _⟩ (zmQ _) (zmQ _) (zmQ _) p ac)
theorem zwz(ρ:Nat->Int):zl0 Tryz.prog ρ Rk:=zl7 fun p hp=>zrb ρ p hp
noncomputable def Rl:En:=⟨73,false,b7 (fun p=>p.sz<2^36) fc fun p=>.bool (hT p)⟩
theorem zwA(ρ:Nat->Int):zl0 Tryz.prog ρ Rl:=zl7 fun p hp=>zk2 ρ p hp
noncomputable def Rm:En:=⟨74,false,b7 (fun p=>p.sz<2^36) fc fun p=>.bool (qj p)⟩
theorem ztN(ρ:Nat->Int):zl0 Tryz.prog ρ Rm:=zl7 fun p hp=>zkK ρ p hp
noncomputable def Rn:En:=⟨75,false,b7 (fun p=>p.sz<2^36) fc fun p=>.int .i64 (wa p)⟩
theorem zwC(ρ:Nat->Int):zl0 Tryz.prog ρ Rn:=zl7 fun p hp=>zpi ρ p hp
noncomputable def x3:List En:=[Rk,Rl,Rm,Rn]
theorem ztO(ρ:Nat->Int):fK Tryz.prog ρ x3:=⟨zwz ρ,zwA ρ,ztN ρ,zwC ρ,trivial⟩
theorem zrc(ρ:Nat->Int)(p:Pr)(J:p.sz<2^36):bM Tryz.prog ρ 44 (fc p) (.int .i64 (zmw p)):=zmy fit (pls:=pls) (ztO ρ) (.cons (.agg p.pure) .nil) (.int _ _) (by
 have O:Plain (zkY pls x3) 44:=zml (fun _=>rfl) rfl;have Y:∀H,zk5 Tryz.prog (zkY pls x3) 72 [.agg p.cells] H fun v H'=>v=.bool (md p)/\H'=H:=fun H=>zlM (enc:=fc) (out:=fun p=>.bool (md p)) pd (x:=p) rfl J;have Z:∀H,zk5 Tryz.prog (zkY pls x3) 73 [.agg p.cells] H fun v H'=>v=.bool (hT p)/\H'=H:=fun H=>zlM (enc:=fc) (out:=fun p=>.bool (hT p)) pd (x:=p) rfl J;have U:∀H,zk5 Tryz.prog (zkY pls x3) 74 [.agg p.cells] H fun v H'=>v=.bool (qj p)/\H'=H:=fun H=>zlM (enc:=fc) (out:=fun p=>.bool (qj p)) pd (x:=p) rfl J;have V:∀H,zk5 Tryz.prog (zkY pls x3) 75 [.agg p.cells] H fun v H'=>v=.int .i64 (wa p)/\H'=H:=fun H=>zlM (enc:=fc) (out:=fun p=>.int .i64 (wa p)) pd (x:=p) rfl J;rw[fc,<-zo3];refine zlf (M:=16) (rs:=[.tmp 2]) (O.call _) O.ice O.froz Tryz.func44 rfl rfl Rh.2 rfl ?_;dsimp only[Rh,zD,Nat.reduceAdd];repeat' (first
  |(apply ah ?_;clear hK K)|apply Rx.o ?_|(apply eM ?_;first|refine zlc (Y _) ?_|refine zlc (Z _) ?_|refine zlc (U _) ?_|refine zlc (V _) ?_)|(apply a0 (fun C j=>?_) (fun C j=>?_)<;>try(cases C;done))|apply ak ?_|(apply zkU fun K hK=>?_)|apply aG ?_|apply zk3 ?_|apply aF ?_)
 all_goals
  all_goals (refine⟨eI,_,eR,?_⟩;try simp only[zkX])
  rw[IA];(try simp only[dI]at *);simp only[sB,dE, *,dB,dL])
end
end Go.Proofs.YtpbcimfiofmoeaaGreat
