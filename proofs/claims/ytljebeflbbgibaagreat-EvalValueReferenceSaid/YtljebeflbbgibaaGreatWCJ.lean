/- Parts: R3d, R3e, R3g, R3h, G1, SpecK, SnC, K4, K5, K9, VeR, G2, G2r, G2s, MuG, NdM. -/
import Derived.Test.YtljebeflbbgibaaGreatWCI
set_option linter.unusedSimpArgs false
set_option linter.unusedVariables false
set_option linter.unusedSectionVars false
set_option linter.defProp false
set_option maxHeartbeats 32000000
namespace Go.Ab
set_option maxRecDepth 20000
open Go
theorem jV{P:Prop}(h:P:=by first|rfl|trivial):P:=h
theorem vB{P:Prop}(h:P:=by rw[List.drop_zero,List.length_take];omega):P:=h
theorem Au{P:Prop}(h:P:=by rw[List.flatten_append,List.length_append];omega):P:=h
theorem sG{P:Prop}(h:P:=by rw[Rr aa aa];omega):P:=h
def Av:=@List.take_zero
def vC:=@List.length_singleton
def vD:=@List.mem_singleton
def Aw:=@List.drop_length_add_append
end Go.Ab
namespace Go.Proofs.YtljebeflbbgibaaGreat
set_option maxRecDepth 20000
open Go Go.Ab
section
def tyR3d.tyF:=ac @dr (ac @cZ (ac @jK (ac @nM (ac @nN (ac @pR (@r6))))))
open tyR3d
noncomputable def Ax:{c:SC // aB 128 (Tryz.f162.body.getD .skip)=c}:=by
 refine⟨?_,?_⟩;rotate_left
 .simp only[Tryz.f162,bh,aB,Qh,Qe,Qm,Qn,Nat.blt,Nat.ble];rfl
noncomputable def Ay:{c:SC // aB 27 (Tryz.f203.body.getD .skip)=c}:=by
 refine⟨?_,?_⟩;rotate_left
 .simp only[Tryz.f203,bh,aB,Qh,Qe,Qm,Qn,Nat.blt,Nat.ble];rfl
def vE(x:Ex):Bool:=
 if x.kind=1 then decide ((x.kids.length:Int)=0)&&decide (x.name=[])&&decide (x.op=0)
 else if x.kind=2 then decide ((x.kids.length:Int)=0)&&decide (x.n=0)&&decide (x.op=0)&&mA x.name
 else if x.kind=3 then decide ((x.kids.length:Int)=1)&&decide (x.n=0)&&decide (x.op=0)&&mA x.name
 else if x.kind=4 then decide (x.n=0)&&decide (x.name=[])&&((decide ((x.kids.length:Int)=2)&&nT x.op)||(decide ((x.kids.length:Int)=1)&&(decide (x.op=20)||decide (x.op=21))))
 else if x.kind=5 then decide ((x.kids.length:Int)=3)&&decide (x.n=0)&&decide (x.name=[])&&decide (x.op=0)
 else false
mutual
def jg:Ex->Bool
 | .mk k n s o i=>lF i&&vE (.mk k n s o i)
def lF:List Ex->Bool
 |[]=>true
 |e::es=>jg e&&lF es
end
theorem Az(x:Ex):jg x=(lF x.kids&&vE x):=by cases x;rw[jg];rfl
noncomputable def vF:En:=⟨29,false,bG (fun s=>s.length<2^60) kC fun s=>.bool (mA s)⟩
theorem AA(ρ:Nat->Int):QM Tryz.prog ρ vF:=QP fun x C=>Mb ρ x C
noncomputable def AB:En:=⟨189,false,bG (fun _=>True) (fun n:Int=>[.int .i64 n]) fun n=>.bool (nT n)⟩
theorem NW(ρ:Nat->Int):QM Tryz.prog ρ AB:=QP fun x _=>L5 ρ x
theorem NX(x y:Int)(h:([.int .i64 x]:List AV)=[.int .i64 y]):x=y:=iE
noncomputable def qd:En:=⟨202,false,bG (fun _=>True) jS fun x=>.bool (zeroE x)⟩
theorem AC(ρ:Nat->Int):QM Tryz.prog ρ qd:=QP fun x _=>L6 ρ x
noncomputable def vG:List En:=[vF,AB]
theorem NY(ρ:Nat->Int):dG Tryz.prog ρ vG:=⟨AA ρ,NW ρ,trivial⟩
theorem NZ(ρ:Nat->Int):∀x:Ex,x.sz<2^60->aX Tryz.prog ρ 162 (jS x) (.bool (jg x)):=
 EY fit (pls:=pls) (NY ρ) (fun x=>x.sz) (ok:=fun x=>x.sz<2^60) (enc:=jS) (out:=fun x=>.bool (jg x)) (fun x _=>.cons (.agg x.pure) .nil) (fun x _=>.bool _) (fun x hx=>by
 have L:=LZ (sz:=fun x:Ex=>x.sz) (ok:=fun x=>x.sz<2^60) (out:=fun x=>.bool (jg x)) vb (f:=162) (l:=vG) x;generalize F:(⟨162,false,bG (fun y=>y.sz<2^60/\y.sz<x.sz) jS fun x=>.bool (jg x)⟩:En)::vG=l at L⊢;have kr:∀y:Ex,y.sz<x.sz->∀H,P2 Tryz.prog (PU pls l) 162 [.agg y.cells] H fun v H'=>v=.bool (jg y)/\H'=H:=fun y h2 H=>by
  subst F;exact Q0 (enc:=jS) (out:=fun x=>.bool (jg x)) vb (x:=y) rfl ⟨aa,h2⟩
 have kv:∀s:List UInt8,s.length<2^60->∀H,P2 Tryz.prog (PU pls l) 29 [.str s] H fun v H'=>v=.bool (mA s)/\H'=H:=fun s h1 H=>by
  subst F;exact Q0 (enc:=kC) (out:=fun x=>.bool (mA x)) u2 (x:=s) rfl h1
 have kb:∀n:Int,∀H,P2 Tryz.prog (PU pls l) 189 [.int .i64 n] H fun v H'=>v=.bool (nT n)/\H'=H:=fun n H=>by
  subst F;exact Q0 (enc:=fun n:Int=>[.int .i64 n]) (out:=fun x=>.bool (nT x)) NX (x:=n) rfl trivial
 have hsz:=x.sz_eq;have g:=x7 x.kids;change P2 _ _ _ [.agg x.cells] _ _;refine P4 (M:=128) (rs:=[.tmp 2]) L.call L.ice L.froz Tryz.func162 rfl rfl Ax.2 rfl ?_;dsimp only[Ax,PZ,Nat.reduceAdd];repeat' (first
  |(apply PO ?_;clear hK K)|apply Rx.o ?_|apply mw ?_|(apply cK (fun A j=>?_) (fun A j=>?_)<;>try(cases A;done))|(apply a6 (fun z Z=>?_) (fun z Z=>?_)<;>try(cases z;done))|apply aj ?_|(apply PP fun K hK=>?_)|apply ay ?_|apply PR ?_|apply aq ?_|apply PX ?_)
 refine Rk [1] [0] 3 x.kids.length (fun i E H=>lF x.kids=lF (x.kids.drop i)) eE aA ?_;rintro i E m hi U O I hsI J;(try simp only[QK,Qs,a7,P7,Qy,Nat.reduceBEq,Nat.reduceAdd,Nat.reduceLeDiff,tyF, *]at U);(try simp only[QK,Qs,a7,P7,Qy,Nat.reduceBEq,Nat.reduceAdd,Nat.reduceLeDiff,tyF, *]at O);(try simp only[QA,QZ,Re,bZ,Nat.reduceAdd]at I);have hB0:(0 == m.next)=false:=Rw aa;have hC0:(m.next == 0)=false:=Rw aa;repeat' (first
  |(apply PO ?_;clear hK K)|apply Rx.o ?_|(apply eR ?_;first|refine Rx.k (kv _ aa _) ?_|refine Rx.k (kb _ _) ?_)|apply mw ?_|(apply cK (fun A j=>?_) (fun A j=>?_)<;>try(cases A;done))|(apply a6 (fun z Z=>?_) (fun z Z=>?_)<;>try(cases z;done))|apply aj ?_|(apply PP fun K hK=>?_)|apply ay ?_|apply PR ?_|apply aq ?_|apply PX ?_)
 .have Y:i<x.kids.length:=by simpa using z
  have hgx:x.kids[i]?=some x.kids[i]:=a1 Y;have hm:=rQ (e9 Y);have V:lF (x.kids.drop i)=(jg x.kids[i]&&lF (x.kids.drop (i+1))):=vp;repeat' (first
   |(apply PO ?_;clear hK K)|apply Rx.o ?_|(apply eR ?_;first|refine Rx.k (kr _ aa _) ?_)|apply mw ?_|(apply cK (fun A j=>?_) (fun A j=>?_)<;>try(cases A;done))|(apply a6 (fun z Z=>?_) (fun z Z=>?_)<;>try(cases z;done))|apply aj ?_|(apply PP fun K hK=>?_)|apply ay ?_|apply PR ?_|apply aq ?_|apply PX ?_)
  all_goals (first|(refine⟨eI,_,P0,?_⟩;(try simp only[PT]);rw[Az,J,V];(try simp only[fI,ig]at *);simp only[ *,ii,iF,kB,kp,lB,gR,ev,f0,gK,f6,cr,cC,Int.reduceEq];done)|skip)
  refine⟨aa,P1,P1,QN,(by simp only[P7,Nat.reduceBEq, *];exact Su (n:=x.kids.length) aa aa),?_⟩;rw[J,V];(try simp only[fI,ig]at *);simp only[ *,ii,iF,kB,kp,lB,gR,ev,f0,gK,f6,cr,cC,Int.reduceEq]
 all_goals
  have C:i=x.kids.length:=aa;rw[C,lp]at J;have o:lF x.kids=true:=J;clear J;all_goals (refine⟨eI,_,P0,?_⟩;try simp only[PT])
  rw[Az,o,vE];(try simp only[fI,ig]at *);simp only[ *,ii,iF,kB,kp,lB,gR,ev,f0,gK,f6,cr,cC,Int.reduceEq])
end
section
def tyR3e.tyF:=ac @dr (ac @cZ (ac @jK (ac @pR (ac @nM (ac @nN (@r6))))))
open tyR3e
def vH(x:St):Bool:=decide (x.name=[])&&decide (x.to=[])&&decide (x.n=0)&&zeroE x.at_&&decide ((x.args.length:Int)=0)
def N0(x:St):List AV:=[.agg x.cells]
theorem N1(ρ:Nat->Int)(x:St):aX Tryz.prog ρ 203 [.agg x.cells] (.bool (vH x)):=Q7 fit (pls:=pls) (l:=[qd]) ⟨AC ρ,trivial⟩ (.cons (.agg x.pure) .nil) (.bool _) (by
 have L:Plain (PU pls [qd]) 203:=Ra (fun _=>rfl) rfl;have Z:∀y:Ex,∀H,P2 Tryz.prog (PU pls [qd]) 202 [.agg y.cells] H fun v H'=>v=.bool (zeroE y)/\H'=H:=fun y H=>Q0 (enc:=jS) (out:=fun x=>.bool (zeroE x)) vb (x:=y) rfl trivial;refine P4 (M:=27) (rs:=[.tmp 2]) (L.call _) L.ice L.froz Tryz.func203 rfl rfl Ay.2 rfl ?_;dsimp only[Ay,PZ,Nat.reduceAdd];repeat' (first
  |(apply PO ?_;clear hK K)|apply Rx.o ?_|(apply eR ?_;first|refine Rx.k (Z _ _) ?_)|(apply cK (fun A j=>?_) (fun A j=>?_)<;>try(cases A;done))|apply aj ?_|(apply PP fun K hK=>?_)|apply aq ?_)
 all_goals
  all_goals (refine⟨eI,_,P0,?_⟩;try simp only[PT])
  rw[vH];(try simp only[fI,ig]at *);simp only[ *,ii,iF,kB,kp,lB,gR,ev,f0,gK,f6,cr,cC,Int.reduceEq])
noncomputable def AD:En:=⟨203,false,bG (fun _=>True) N0 fun x=>.bool (vH x)⟩
theorem N2(ρ:Nat->Int):QM Tryz.prog ρ AD:=QP fun x _=>N1 ρ x
noncomputable def AE:En:=⟨162,false,bG (fun x=>x.sz<2^60) jS fun x=>.bool (jg x)⟩
theorem N3(ρ:Nat->Int):QM Tryz.prog ρ AE:=QP fun x C=>NZ ρ x C
noncomputable def levE:List En:=[vF,qd,AD,AE]
theorem levE_ok(ρ:Nat->Int):dG Tryz.prog ρ levE:=⟨AA ρ,AC ρ,N2 ρ,N3 ρ,trivial⟩
end
section
namespace tyR3g
end tyR3g
open tyR3g
def AF:List (List UInt8)->List (List UInt8)->Bool
 |_,[]=>false
 |seen,s::l=>ls seen s||AF (seen++[s]) l
end
section
namespace tyR3h
end tyR3h
open tyR3h
structure Sc where
 vars:List (List UInt8)
 arrays:Option (List (List UInt8))
 p:Pr
section
variable (vs an:List (List UInt8))
end
end
section
def tyG1.tyF:=ac @cZ (ac @dr (ac @pP (ac @jK (ac @yE (ac @pC (@jE))))))
open tyG1
noncomputable def AG:{c:SC // aB 14 (Tryz.f11.body.getD .skip)=c}:=by
 refine⟨?_,?_⟩;rotate_left
 .simp only[Tryz.f11,bh,aB,Qh,Qe,Qm,Qn,Nat.blt,Nat.ble];rfl
noncomputable def AH:{c:SC // aB 25 (Tryz.f21.body.getD .skip)=c}:=by
 refine⟨?_,?_⟩;rotate_left
 .simp only[Tryz.f21,bh,aB,Qh,Qe,Qm,Qn,Nat.blt,Nat.ble];rfl
def Qd(n m:Int):Int:=if n.tmod m<0 then bM (n.tmod m+m)else n.tmod m
theorem R0{n m:Int}(h:0<m)(g:m<2^62):0<=Qd n m/\Qd n m<m:=by
 unfold Qd;have o:=Int.tmod_lt_of_pos n h;have U:-m<n.tmod m:=by
  have:=Int.tmod_lt_of_pos (-n) h;rw[Int.neg_tmod]at this;omega
 split
 .unfold bM;rw[o9 _ aa];omega
 .omega
def jh(x:Int×Int):List AV:=[.int .i64 x.1,.int .i64 x.2]
theorem AI(x y:Int×Int)(h:jh x=jh y):x=y:=by
 simp only[jh,dz,AV.int.injEq,a7,fJ]at h;exact iK h.1 h.2
theorem N4(ρ:Nat->Int)(x:Int×Int)(C:x.2≠0):aX Tryz.prog ρ 11 (jh x) (.int .i64 (Qd x.1 x.2)):=Q7 fit (pls:=pls) (l:=[]) trivial (.cons (.int _ _) (.cons (.int _ _) .nil)) (.int _ _) (by
 have L:=RO 11;obtain⟨n,m⟩:=x;rw[jh];simp only[]at C⊢;refine P4 (M:=14) (rs:=[.tmp 4]) (L.call _) L.ice L.froz Tryz.func11 rfl rfl AG.2 rfl ?_;dsimp only[AG,PZ,Nat.reduceAdd];repeat' (first
  |(apply PO ?_;clear hK K)|apply Rx.o ?_|(apply a6 (fun z i=>?_) (fun z i=>?_)<;>try(cases z;done))|apply aj ?_|(apply PP fun K hK=>?_)|apply PR ?_|apply aq ?_)
 all_goals (refine⟨eI,_,P0,?_⟩;try simp only[PT])
 all_goals (simp_all[Qd];try omega))
noncomputable def iQ:En:=⟨11,false,bG (fun x=>x.2≠0) jh fun x=>.int .i64 (Qd x.1 x.2)⟩
theorem sH(ρ:Nat->Int):QM Tryz.prog ρ iQ:=QP fun x C=>N4 ρ x C
theorem RS{l:List En}(I:∀C,QT l 11 C=iQ.sp C)(n m:Int)(V:m≠0)(H:Hp):P2 Tryz.prog (PU pls l) 11 [.int .i64 n,.int .i64 m] H fun v H'=>v=.int .i64 (Qd n m)/\H'=H:=
 Q0 (enc:=jh) (ok:=fun x=>x.2≠0) (out:=fun x=>.int .i64 (Qd x.1 x.2)) AI (x:=(n,m)) (I _) V
def qe:List Int:=[0,1,-1,2,-9223372036854775808,9223372036854775807,4294967296,-2147483648,63,64]
def jM(n m:Int):Int:=if Qd n 24<10 then qe.getD (Qd n 24).toNat 0 else if Qd n 24<22 then bM (Qd (bM (n.tdiv 24)) 17-6)else m
theorem N5(H:Hp):Rs Tryz.prog H 33 10 [(0,.int .i64 0),(1,.int .i64 1),(2,.int .i64 (-1)),(3,.int .i64 2),(4,.int .i64 (-9223372036854775808)),(5,.int .i64 9223372036854775807),(6,.int .i64 4294967296),(7,.int .i64 (-2147483648)),(8,.int .i64 63),(9,.int .i64 64)]=some (.sl H.next 0 10 1,H.alloc (.cells (qe.map fun n=>.int .i64 n) 0 true)):=ad
theorem N6(ρ:Nat->Int)(x:Int×Int):aX Tryz.prog ρ 21 (jh x) (.int .i64 (jM x.1 x.2)):=Q7 fit (pls:=pls) (l:=[iQ]) ⟨sH ρ,trivial⟩ (.cons (.int _ _) (.cons (.int _ _) .nil)) (.int _ _) (by
 have L:Plain (PU pls [iQ]) 21:=Ra (fun _=>rfl) rfl;obtain⟨n,m⟩:=x;have hr:=R0 (n:=n) (m:=24) aa aa;have hp:0<=Qd n 24:=hr.1;rw[jh];simp only[];have I:(24:Int)≠0:=bA;refine P4 (M:=25) (rs:=[.tmp 4]) (L.call _) L.ice L.froz Tryz.func21 rfl rfl AH.2 rfl ?_;dsimp only[AH,PZ,Nat.reduceAdd];have Y:=@N5;repeat' (first
  |(apply PO ?_;clear hK K)|apply Rx.o ?_|(apply eR ?_;first|refine Rx.k (RS (fun _=>rfl) _ _ bA _) ?_)|(apply a6 (fun z i=>?_) (fun z i=>?_)<;>try(cases z;done))|apply aj ?_|(apply PP fun K hK=>?_)|apply ay ?_|apply PR ?_|apply aq ?_)
 .have Z:(Qd n 24).toNat<10:=by omega
  have A:qe[(Qd n 24).toNat]?=some (qe.getD (Qd n 24).toNat 0):=by
   rw[cN,a1 (by simpa [qe]using Z)];rfl
  repeat' (first
   |(apply PO ?_;clear hK K)|apply Ry.o ?_|apply aj ?_|(apply PP fun K hK=>?_)|apply ay ?_|apply PR ?_|apply aq ?_)
  all_goals (refine⟨eI,_,P0,?_⟩;try simp only[PT])
  rw[jM,az dj]
 .all_goals (refine⟨eI,_,P0,?_⟩;try simp only[PT])
  rw[jM,af dj,az dj]
 .all_goals (refine⟨eI,_,P0,?_⟩;try simp only[PT])
  rw[jM,af dj,af dj])
noncomputable def oh:En:=⟨21,false,bG (fun _=>True) jh fun x=>.int .i64 (jM x.1 x.2)⟩
theorem AJ(ρ:Nat->Int):QM Tryz.prog ρ oh:=QP fun x C=>N6 ρ x
theorem vI{l:List En}(I:∀C,QT l 21 C=oh.sp C)(n m:Int)(H:Hp):P2 Tryz.prog (PU pls l) 21 [.int .i64 n,.int .i64 m] H fun v H'=>v=.int .i64 (jM n m)/\H'=H:=
 Q0 (enc:=jh) (ok:=fun _=>True) (out:=fun x=>.int .i64 (jM x.1 x.2)) AI (x:=(n,m)) (I _) trivial
end
section
def ol(op:Int):Int:=if op=27\/op=28\/op=29 then 2 else 1
def Sw(op k:Int):Int:=if k=0/\(ol op=2\/op=23\/op=24)then 2 else 1
theorem AK(op k:Int):Sw op k=1\/Sw op k=2:=by unfold Sw;split<;>simp
def fO(s:List Int)(t:Int):Nat->List Int
 |0=>[]
 |i+1=>if s.getD i 0=t then fO s t i++[(i:Int)]else fO s t i
theorem vJ(s:List Int)(t:Int):∀i,(fO s t i).length<=i
 |0=>aC _
 |i+1=>by
  have:=vJ s t i;rw[fO];split
  .rw[eh,vC];omega
  .omega
theorem vK{s:List Int}{t:Int}{k:Nat}(h:s.getD k 0=t):∀{i:Nat},k<i->0<(fO s t i).length
 |0,hk=>by omega
 |i+1,hk=>by
  rw[fO];by_cases e:k=i
  .subst e;rw[az h,eh,vC];omega
  .have:=vK h (i:=i) aa;split
   .rw[eh];omega
   .exact this
def jW(l:List Nd)(t n:Int):Int:=
 (fO (Qb l l.length) t l.length).getD ((fO (Qb l l.length) t l.length).length-1-(Qd n (fO (Qb l l.length) t l.length).length).toNat) 0
def ff(j:Bool)(n:Int):Int:=if j=false/\5<Qd n 9 then [23,27,28,29,24].getD (Qd (bM (n.tdiv 9)) 5).toNat 0 else 4+Qd n 19
def Qp(n:Int):Nat->Int
 |0=>bM (n.tdiv 7)
 |1=>bM (n.tdiv 101)
 |2=>bM (n.tdiv 1009)
 |_=>0
def Rz(out:List Nd)(op n:Int):Nat->List Int
 |0=>[]
 |j+1=>Rz out op n j++[jW out (Sw op j) (Qp n j)]
def vL(op n:Int):Int:=if op=27 then 1+Qd (bM (n.tdiv 5)) 2 else if op=23\/op=28 then Qd (bM (n.tdiv 5)) 2 else 0
def fP(out:List Nd)(j:Bool)(n:Int):Nd:=
 if Qd n 11=0 then ⟨1,jM (bM (n.tdiv 11)) n,[]⟩else ⟨ff j n,vL (ff j n) n,Rz out (ff j n) n (aM (ff j n)).1.toNat⟩
def ji(l:List Nd)(x:Nd):Bool:=l.any fun y=>decide (y=x)
def gB(out:List Nd)(x:Nd):List Nd:=if ji out x=true then out else out++[x]
def gC:List Nd:=[⟨2,0,[]⟩,⟨2,1,[]⟩,⟨26,0,[]⟩]
def Qf(l:List Int)(j:Bool):Nat->List Nd
 |0=>gC
 |i+1=>gB (Qf l j i) (fP (Qf l j i) j (l.getD i 0))
def RP(l:List Int)(j:Bool):List Nd:=Qf l j (min l.length 14)
theorem sI(out:List Nd)(op n:Int):∀j,(Rz out op n j).length=j
 |0=>rfl
 |j+1=>by rw[Rz,eh,sI out op n j];rfl
theorem vM(op:Int):(aM op).1<=3:=by
 unfold aM;repeat' split
 all_goals decide
theorem N7(out:List Nd)(j:Bool)(n:Int):(fP out j n).kids.length<=3:=by
 unfold fP;split
 .exact ca _
 .show(Rz _ _ _ _).length<=3;rw[sI];have:=vM (ff j n);omega
theorem N8(out:List Nd)(x:Nd):(gB out x).length<=out.length+1:=by
 unfold gB;split
 .omega
 .rw[eh];exact aC _
theorem qf(l:List Int)(j:Bool):∀i,(Qf l j i).length<=3+i
 |0=>aC _
 |i+1=>by
  have:=qf l j i;have:=N8 (Qf l j i) (fP (Qf l j i) j (l.getD i 0));rw[Qf];omega
theorem sJ(l:List Int)(j:Bool):∀i,∃r,Qf l j i=gC++r
 |0=>⟨[],rfl⟩
 |i+1=>by
  obtain⟨r,h⟩:=sJ l j i;rw[Qf];unfold gB;split
  .exact⟨r,h⟩
  .exact⟨r++[fP (Qf l j i) j (l.getD i 0)],by rw[<-iz,<-h]⟩
def vN(c:Nat)(l:List Nd):Prop:=∀n∈l,n.kids.length<=c
theorem sK(l:List Int)(j:Bool):∀i,vN 3 (Qf l j i)
 |0=>by intro n m;simp only[Qf,gC,gJ,List.not_mem_nil,or_false]at m;rcases m with rfl|rfl|rfl<;>simp
 |i+1=>by
  intro n m;rw[Qf]at m;unfold gB at m;split at m
  .exact sK l j i n m
  .rcases lb.1 m with m|m
   .exact sK l j i n m
   .rw[vD]at m;subst m;exact N7 _ _ _
theorem N9(r:List Nd):(Qb (gC++r) (gC++r).length).getD 0 0=1/\(Qb (gC++r) (gC++r).length).getD 2 0=2:=by
 have I:(gC++r).length=3+r.length:=by rw[eh];rfl
 rw[uB (j:=0) aa (aC _),uB (j:=2) aa (aC _)];have z:=xZ (l:=gC) (m:=r) (i:=0) bA;have g:=xZ (l:=gC) (m:=r) (i:=2) bA;have J:QF gC 0=1:=bA;have Z:QF gC 2=2:=bA;exact⟨z.trans J,g.trans Z⟩
theorem AL{l:List Nd}(h:∃r,l=gC++r){t:Int}(o:t=1\/t=2):0<(fO (Qb l l.length) t l.length).length:=by
 obtain⟨r,rfl⟩:=h;have I:(gC++r).length=3+r.length:=by rw[eh];rfl
 obtain⟨z,g⟩:=N9 r;rcases o with rfl|rfl
 .exact vK z aa
 .exact vK g aa
def mP(l:List Nd)(n:Nd)(m F:Int):Nd:=
 if Qd m 10=0 then ⟨Qd (bM (m.tdiv 10)) 36-1,n.imm,n.kids⟩
 else if Qd m 10=1 then ⟨n.op,Qd (bM (m.tdiv 10)) 300-3,n.kids⟩
 else if Qd m 10=2 then ⟨n.op,n.imm,n.kids++[Qd (bM (m.tdiv 10)) (l.length+2)-1]⟩
 else if Qd m 10=3 then (if n.kids=[]then n else ⟨n.op,n.imm,n.kids.set (Qd (bM (m.tdiv 10)) n.kids.length).toNat (Qd (bM (F.tdiv 3)) (l.length+2)-1)⟩)
 else if Qd m 10=4 then ⟨n.op,n.imm,n.kids.drop 1⟩
 else if Qd m 10=6 then ⟨3,Qd (bM (m.tdiv 10)) 40,[]⟩
 else n
def iR(l:List Nd)(m F:Int):List Nd:=
 if l=[]then []else
  (if Qd m 10=5 then l++[l.getD (Qd F l.length).toNat ⟨0,0,[]⟩]else l).set (Qd F l.length).toNat (mP l (l.getD (Qd F l.length).toNat ⟨0,0,[]⟩) m F)
theorem Oa(l:List Nd)(n:Nd)(m F:Int):(mP l n m F).kids.length<=n.kids.length+1:=by
 unfold mP;repeat' split
 all_goals (first|(simp;done)|(simp;omega))
theorem Ob(l:List Nd)(m F:Int):(iR l m F).length<=l.length+1:=by
 unfold iR;split
 .exact ca _
 .rw[me];split
  .rw[eh];exact aC _
  .omega
theorem Oc{l:List Nd}{c:Nat}(h:vN c l)(Z F:Int):vN (c+1) (iR l Z F):=by
 intro n m;unfold iR at m;split at m
 .simp at m
 .rename_i J;have A:(l.getD (Qd F l.length).toNat ⟨0,0,[]⟩).kids.length<=c:=by
   rw[cN];cases e:l[(Qd F l.length).toNat]? with
   |none=>exact ca _
   |some x=>exact h x (jv e)
  rcases List.mem_or_eq_of_mem_set m with m|rfl
  .split at m
   .rcases lb.1 m with m|m
    .have:=h n m;omega
    .rw[vD]at m;subst m;omega
   .have:=h n m;omega
  .have:=Oa l (l.getD (Qd F l.length).toNat ⟨0,0,[]⟩) Z F;omega
theorem Od(l:List Int)(j:Bool):RP l j≠[]:=by
 obtain⟨r,h⟩:=sJ l j (min l.length 14);rw[RP,h];simp[gC]
def tySnC.tyF:=ac @dr (ac @cZ (ac @dK (@ey)))
open tySnC
noncomputable def sL:{c:SC // aB 45 (Tryz.f39.body.getD .skip)=c}:=by
 refine⟨?_,?_⟩;rotate_left
 .simp only[Tryz.f39,bh,aB,Qh,Qe,Qm,Qn,Nat.blt,Nat.ble];rfl
def mQ(x:Nd×Nd):List AV:=[.agg x.1.cells,.agg x.2.cells]
theorem Oe(x y:Nd×Nd)(h:mQ x=mQ y):x=y:=by
 simp only[mQ,dz,AV.agg.injEq,a7]at h;exact iK (nI h.1) (nI h.2)
def sM(x:Nd×Nd):Prop:=x.1.kids.length<2^60
theorem Of{s w:List Int}(I:s.length=w.length){i:Nat}(F:i<s.length):decide (s.drop i=w.drop i)=(decide (s.getD i 0=w.getD i 0)&&decide (s.drop (i+1)=w.drop (i+1))):=by
 rw[jb F,jb (l:=w) aa];rw[cN,cN,a1 F,a1 (by omega:i<w.length)];simp only[bh,dz,Bool.decide_and]
theorem Og(ρ:Nat->Int)(x:Nd×Nd)(hx:sM x):aX Tryz.prog ρ 39 (mQ x) (.bool (decide (x.1=x.2))):=Q7 fit (pls:=pls) (l:=[]) trivial (.cons (.agg (nH _)) (.cons (.agg (nH _)) .nil)) (.bool _) (by
 obtain⟨⟨o1,i1,s⟩,⟨o2,i2,w⟩⟩:=x;have L:=RO 39;unfold sM at hx;rw[mQ];simp only[Nd.cells]at hx⊢;have hd:decide ((⟨o1,i1,s⟩:Nd)=⟨o2,i2,w⟩)=(decide (o1=o2)&&decide (i1=i2)&&decide (s=w)):=by
  simp[Bool.decide_and,nS]
 rw[hd];by_cases F:w.length=s.length
 .clear hd;refine P4 (M:=45) (rs:=[.tmp 4]) (L.call _) L.ice L.froz Tryz.func39 rfl rfl sL.2 rfl ?_;dsimp only[sL,PZ,Nat.reduceAdd];repeat' (first
   |(apply PO ?_;clear hK K)|apply Ry.o ?_|(apply aU (fun A j=>?_) (fun A j=>?_)<;>try(cases A;done))|(apply aH (fun z Z=>?_) (fun z Z=>?_)<;>try(cases z;done))|apply aj ?_|(apply PP fun K hK=>?_)|(apply PQ 6 [(1,11),(4,11),(6,11),(9,11)] fun K hK=>?_)|(apply P5 ?_;try intro _)|(apply P6 ?_ ?_<;>clear hK K)|apply aS ?_|apply ay ?_|apply PR ?_|apply aq ?_|apply PX ?_)
  all_goals first
   |(refine⟨eI,_,da,?_⟩;try simp only[PT]
     simp_all;done)
   |skip
  refine Rk [2,3] [0,1] 5 s.length (fun i E H=>decide (s=w)=decide (s.drop i=w.drop i)) eE aA ?_;rintro i E m hi U O J hsI I;(try simp only[QK,Qs,a7,P7,Qy,Nat.reduceBEq,Nat.reduceAdd,Nat.reduceLeDiff,tyF, *]at U);(try simp only[QK,Qs,a7,P7,Qy,Nat.reduceBEq,Nat.reduceAdd,Nat.reduceLeDiff,tyF, *]at O);(try simp only[QA,QZ,Re,bZ,Nat.reduceAdd]at J);have hB0:(0 == m.next)=false:=Rw aa;have hC0:(m.next == 0)=false:=Rw aa;have hB1:(1 == m.next)=false:=Rw aa;have hC1:(m.next == 1)=false:=Rw aa;repeat' (first
   |(apply PO ?_;clear hK K)|apply Rx.o ?_|(apply a6 (fun z Z=>?_) (fun z Z=>?_)<;>try(cases z;done))|apply aj ?_|(apply PP fun K hK=>?_)|(apply PQ 6 [(1,11),(4,11),(6,11),(9,11)] fun K hK=>?_)|(apply P5 ?_;try intro _)|(apply P6 ?_ ?_<;>clear hK K)|apply aS ?_|apply ay ?_|apply PR ?_|apply aq ?_|apply PX ?_)
  .have V:i<s.length:=by simpa using z
   have C:s[i]?=some s[i]:=a1 V;have o:w[i]?=some (w[i]' aa):=a1 aa;have Y:=Of F.symm V;rw[cN,cN,C,o]at Y;simp only[bh]at Y;generalize s[i]=x at *;generalize w[i]' aa=y at *;repeat' (first
    |(apply PO ?_;clear hK K)|apply Rx.o ?_|(apply a6 (fun z Z=>?_) (fun z Z=>?_)<;>try(cases z;done))|apply aj ?_|(apply PP fun K hK=>?_)|(apply PQ 6 [(1,11),(4,11),(6,11),(9,11)] fun K hK=>?_)|(apply P5 ?_;try intro _)|(apply P6 ?_ ?_<;>clear hK K)|apply aS ?_|apply ay ?_|apply PR ?_|apply aq ?_|apply PX ?_)
   .exact eK
   .all_goals (refine⟨eI,_,P0,?_⟩;try simp only[PT])
    rw[I,Y];simp_all
   .refine⟨aa,P1,P1,QN,nR,?_⟩;rw[I,Y];simp_all
  .repeat' (first
    |(apply PO ?_;clear hK K)|apply Rx.o ?_|(apply a6 (fun z Z=>?_) (fun z Z=>?_)<;>try(cases z;done))|apply aj ?_|(apply PP fun K hK=>?_)|(apply PQ 6 [(1,11),(4,11),(6,11),(9,11)] fun K hK=>?_)|(apply P5 ?_;try intro _)|(apply P6 ?_ ?_<;>clear hK K)|apply aS ?_|apply ay ?_|apply PR ?_|apply aq ?_|apply PX ?_)
   all_goals (refine⟨eI,_,P0,?_⟩;try simp only[PT])
   rw[I,show i=s.length by simp at z;omega,lp,<-F,lp];simp_all
 .have g:¬s=w:=fun e=>F i6;have hl2:¬(s.length:Int)=w.length:=aa;clear hd;refine P4 (M:=45) (rs:=[.tmp 4]) (L.call _) L.ice L.froz Tryz.func39 rfl rfl sL.2 rfl ?_;dsimp only[sL,PZ,Nat.reduceAdd];repeat' (first
   |(apply PO ?_;clear hK K)|apply Ry.o ?_|(apply aU (fun A j=>?_) (fun A j=>?_)<;>try(cases A;done))|(apply aH (fun z Z=>?_) (fun z Z=>?_)<;>try(cases z;done))|apply aj ?_|(apply PP fun K hK=>?_)|(apply PQ 6 [(1,11),(4,11),(6,11),(9,11)] fun K hK=>?_)|(apply P5 ?_;try intro _)|(apply P6 ?_ ?_<;>clear hK K)|apply aS ?_|apply ay ?_|apply PR ?_|apply aq ?_|apply PX ?_)
  all_goals
   refine⟨eI,_,da,?_⟩;try simp only[PT]
   rw[mC g,u0])
noncomputable def sN:En:=⟨39,false,bG sM mQ fun x=>.bool (decide (x.1=x.2))⟩
theorem Oh(ρ:Nat->Int):QM Tryz.prog ρ sN:=QP fun x C=>Og ρ x C
theorem Oi{l:List En}(I:∀C,QT l 39 C=sN.sp C)(a b:Nd)(h:a.kids.length<2^60)(H:Hp):P2 Tryz.prog (PU pls l) 39 [.agg a.cells,.agg b.cells] H fun v H'=>v=.bool (decide (a=b))/\H'=H:=
 Q0 (enc:=mQ) (ok:=sM) (out:=fun x=>.bool (decide (x.1=x.2))) Oe (x:=(a,b)) (I _) h
end
section
def tyK4.tyF:=ac @cZ (ac @dr (ac @dK (ac @ey (@ez))))
open tyK4
noncomputable def AM:{c:SC // aB 13 (Tryz.f77.body.getD .skip)=c}:=by
 refine⟨?_,?_⟩;rotate_left
 .simp only[Tryz.f77,bh,aB,Qh,Qe,Qm,Qn,Nat.blt,Nat.ble];rfl
noncomputable def AN:{c:SC // aB 20 (Tryz.f43.body.getD .skip)=c}:=by
 refine⟨?_,?_⟩;rotate_left
 .simp only[Tryz.f43,bh,aB,Qh,Qe,Qm,Qn,Nat.blt,Nat.ble];rfl
noncomputable def AO:{c:SC // aB 18 (Tryz.f45.body.getD .skip)=c}:=by
 refine⟨?_,?_⟩;rotate_left
 .simp only[Tryz.f45,bh,aB,Qh,Qe,Qm,Qn,Nat.blt,Nat.ble];rfl
theorem Oj(ρ:Nat->Int)(op:Int):aX Tryz.prog ρ 77 [.int .i64 op] (.int .i64 (ol op)):=Q7 fit (pls:=pls) (l:=[]) trivial (.cons (.int _ _) .nil) (.int _ _) (by
 have L:=RO 77;refine P4 (M:=13) (rs:=[.tmp 2]) (L.call _) L.ice L.froz Tryz.func77 rfl rfl AM.2 rfl ?_;dsimp only[AM,PZ,Nat.reduceAdd];repeat' (first
  |(apply PO ?_;clear hK K)|apply Rx.o ?_|(apply cK (fun A j=>?_) (fun A j=>?_)<;>try(cases A;done))|(apply a6 (fun z i=>?_) (fun z i=>?_)<;>try(cases z;done))|apply aj ?_|(apply PP fun K hK=>?_)|apply PR ?_|apply aq ?_)
 all_goals
  refine⟨eI,_,da,?_⟩;try simp only[PT]
  simp_all[ol])
noncomputable def sO:En:=⟨77,false,bG (fun _=>True) (fun n:Int=>[.int .i64 n]) fun n=>.int .i64 (ol n)⟩
theorem Ok(ρ:Nat->Int):QM Tryz.prog ρ sO:=QP fun n _=>Oj ρ n
theorem Ol{l:List En}(I:∀C,QT l 77 C=sO.sp C)(n:Int)(H:Hp):P2 Tryz.prog (PU pls l) 77 [.int .i64 n] H fun v H'=>v=.int .i64 (ol n)/\H'=H:=
 Q0 (enc:=fun n:Int=>[.int .i64 n]) (ok:=fun _=>True) (out:=fun n=>.int .i64 (ol n)) p7 (x:=n) (I _) trivial
theorem Om(ρ:Nat->Int)(x:Int×Int):aX Tryz.prog ρ 43 (jf x) (.int .i64 (Sw x.1 x.2)):=Q7 fit (pls:=pls) (l:=[sO]) ⟨Ok ρ,trivial⟩ (.cons (.int _ _) (.cons (.int _ _) .nil)) (.int _ _) (by
 obtain⟨C,k⟩:=x;have L:Plain (PU pls [sO]) 43:=Ra (fun _=>rfl) rfl;rw[jf];simp only[];refine P4 (M:=20) (rs:=[.tmp 4]) (L.call _) L.ice L.froz Tryz.func43 rfl rfl AN.2 rfl ?_;dsimp only[AN,PZ,Nat.reduceAdd];repeat' (first
  |(apply PO ?_;clear hK K)|apply Rx.o ?_|(apply eR ?_;first|refine Rx.k (Ol (fun _=>rfl) _ _) ?_)|apply mw ?_|(apply cK (fun A j=>?_) (fun A j=>?_)<;>try(cases A;done))|(apply a6 (fun z i=>?_) (fun z i=>?_)<;>try(cases z;done))|apply aj ?_|(apply PP fun K hK=>?_)|apply PR ?_|apply aq ?_)
 all_goals
  refine⟨eI,_,da,?_⟩;try simp only[PT]
  simp_all[Sw])
noncomputable def vO:En:=⟨43,false,bG (fun _=>True) jf fun x=>.int .i64 (Sw x.1 x.2)⟩
theorem On(ρ:Nat->Int):QM Tryz.prog ρ vO:=QP fun n _=>Om ρ n
theorem AP{l:List En}(I:∀C,QT l 43 C=vO.sp C)(a b:Int)(H:Hp):P2 Tryz.prog (PU pls l) 43 [.int .i64 a,.int .i64 b] H fun v H'=>v=.int .i64 (Sw a b)/\H'=H:=
 Q0 (enc:=jf) (ok:=fun _=>True) (out:=fun x=>.int .i64 (Sw x.1 x.2)) Aq (x:=(a,b)) (I _) trivial
def lG(x:List Nd×Nd):List AV:=[Qz x.1,.agg x.2.cells]
theorem Oo(x y:List Nd×Nd)(h:lG x=lG y):x=y:=zL x y h
theorem Oq(ρ:Nat->Int)(x:List Nd×Nd)(j:QY x.1):aX Tryz.prog ρ 45 (lG x) (.bool (ji x.1 x.2)):=Q7 fit (pls:=pls) (l:=[sN]) ⟨Oh ρ,trivial⟩ (.cons (Sq _) (.cons (.agg (nH _)) .nil)) (.bool _) (by
 obtain⟨l,n⟩:=x;obtain⟨A,F⟩:=j;have I:Plain (PU pls [sN]) 45:=Ra (fun _=>rfl) rfl;rw[lG];simp only[]at A F⊢;refine P4 (M:=18) (rs:=[.tmp 4]) (I.call _) I.ice I.froz Tryz.func45 rfl rfl AO.2 rfl ?_;dsimp only[AO,PZ,Nat.reduceAdd];repeat' (first
  |(apply PO ?_;clear hK K)|apply Rx.o ?_|(apply a6 (fun z Z=>?_) (fun z Z=>?_)<;>try(cases z;done))|apply aj ?_|(apply PP fun K hK=>?_)|(apply PQ 4 [(3,5),(4,5)] fun K hK=>?_)|(apply P5 ?_;try intro _)|(apply P6 ?_ ?_<;>clear hK K)|apply aS ?_|apply ay ?_|apply PR ?_|apply aq ?_|apply PX ?_)
 refine Rk [0,3] [0] 5 l.length (fun i E H=>ji l n=ji (l.drop i) n) eE aA ?_;rintro i E o hi U O L g J;(try simp only[QK,Qs,a7,P7,Qy,Nat.reduceBEq,Nat.reduceAdd,Nat.reduceLeDiff,tyF, *]at U);(try simp only[QK,Qs,a7,P7,Qy,Nat.reduceBEq,Nat.reduceAdd,Nat.reduceLeDiff,tyF, *]at O);(try simp only[QA,QZ,Re,bZ,Nat.reduceAdd]at L);have hB0:(0 == o.next)=false:=Rw aa;have hC0:(o.next == 0)=false:=Rw aa;repeat' (first
  |(apply PO ?_;clear hK K)|apply Rx.o ?_|(apply a6 (fun z Z=>?_) (fun z Z=>?_)<;>try(cases z;done))|apply aj ?_|(apply PP fun K hK=>?_)|(apply PQ 4 [(3,5),(4,5)] fun K hK=>?_)|(apply P5 ?_;try intro _)|(apply P6 ?_ ?_<;>clear hK K)|apply aS ?_|apply ay ?_|apply PR ?_|apply aq ?_|apply PX ?_)
 .have Y:i<l.length:=by simpa using z
  have hgx:l[i]?=some l[i]:=a1 Y;have C:l[i].kids.length<2^60:=by have:=F _ (e9 Y);omega
  have V:ji (l.drop i) n=(decide (l[i]=n)||ji (l.drop (i+1)) n):=vp;generalize l[i]=m at *;repeat' (first
   |(apply PO ?_;clear hK K)|apply Rx.o ?_|(apply eR ?_;first|refine Rx.k (Oi (fun _=>rfl) _ _ C _) ?_)|(apply a6 (fun z Z=>?_) (fun z Z=>?_)<;>try(cases z;done))|apply aj ?_|(apply PP fun K hK=>?_)|(apply PQ 4 [(3,5),(4,5)] fun K hK=>?_)|(apply P5 ?_;try intro _)|(apply P6 ?_ ?_<;>clear hK K)|apply aS ?_|apply ay ?_|apply PR ?_|apply aq ?_|apply PX ?_)
  .exact eK
  .all_goals (refine⟨eI,_,P0,?_⟩;try simp only[PT])
   rw[J,V];simp_all
  .refine⟨aa,P1,P1,QN,lA,?_⟩;rw[J,V];simp_all
 .repeat' (first
   |(apply PO ?_;clear hK K)|apply Rx.o ?_|(apply a6 (fun z Z=>?_) (fun z Z=>?_)<;>try(cases z;done))|apply aj ?_|(apply PP fun K hK=>?_)|(apply PQ 4 [(3,5),(4,5)] fun K hK=>?_)|(apply P5 ?_;try intro _)|(apply P6 ?_ ?_<;>clear hK K)|apply aS ?_|apply ay ?_|apply PR ?_|apply aq ?_|apply PX ?_)
  all_goals (refine⟨eI,_,P0,?_⟩;try simp only[PT])
  rw[J,show i=l.length by simp at z;omega,lp];rfl)
noncomputable def vP:En:=⟨45,true,bG (fun x=>QY x.1) lG fun x=>.bool (ji x.1 x.2)⟩
theorem Ot(ρ:Nat->Int):QM Tryz.prog ρ vP:=QP fun x C=>Oq ρ x C
end
section
def tyK5.tyF:=ac @cZ (ac @dK (ac @ey (ac @ez (@jU))))
open tyK5
noncomputable def AQ:{c:SC // aB 39 (Tryz.f42.body.getD .skip)=c}:=by
 refine⟨?_,?_⟩;rotate_left
 .simp only[Tryz.f42,bh,aB,Qh,Qe,Qm,Qn,Nat.blt,Nat.ble];rfl
noncomputable def lH:En:=⟨60,true,bG QY mM fun l=>Qg (Qb l l.length)⟩
theorem AR(ρ:Nat->Int):QM Tryz.prog ρ lH:=QP fun l I=>NV ρ l I
theorem AS{tb:List En}(o:∀C,QT tb 60 C=lH.sp C)(l:List Nd)(I:QY l)(H:Hp):P2 Tryz.prog (PU pls tb) 60 [Qz l] H fun v H'=>v=Qg (Qb l l.length)/\H'=H:=
 Q0 (enc:=mM) (ok:=QY) (out:=fun l=>Qg (Qb l l.length)) z8 (x:=l) (o _) I
structure OfX where
 l:List Nd
 t:Int
 n:Int
def kJ(x:OfX):List AV:=[Qz x.l,.int .i64 x.t,.int .i64 x.n]
theorem Ou(x y:OfX)(h:kJ x=kJ y):x=y:=by
 obtain⟨a,b,c⟩:=x;obtain⟨m,K,j⟩:=y;simp only[kJ,dz,AV.int.injEq,a7,fJ]at h;rw[mI h.1,h.2.1,h.2.2]
def sP(x:OfX):Prop:=QY x.l/\0<(fO (Qb x.l x.l.length) x.t x.l.length).length
theorem Ov(ρ:Nat->Int)(x:OfX)(hx:sP x):aX Tryz.prog ρ 42 (kJ x) (.int .i64 (jW x.l x.t x.n)):=Q7 fit (pls:=pls) (l:=[lH,iQ]) ⟨AR ρ,sH ρ,trivial⟩ (.cons (Sq _) (.cons (.int _ _) (.cons (.int _ _) .nil))) (.int _ _) (by
 obtain⟨l,t,n⟩:=x;obtain⟨C,I⟩:=hx;have o:=C.1;have j:Plain (PU pls [lH,iQ]) 42:=Ra (fun _=>rfl) rfl;have g:(PU pls [lH,iQ]).keep 42=false:=rfl;rw[kJ,jW];simp only[]at C I o⊢;have hsl:=SV l l.length;have krs:∀H,P2 Tryz.prog (PU pls [lH,iQ]) 60 [Qz l] H fun v H'=>v=Qg (Qb l l.length)/\H'=H:=fun H=>AS (fun _=>rfl) l C H;generalize Qb l l.length=s at *;refine P4 (M:=39) (rs:=[.tmp 6]) (j.call _) j.ice j.froz Tryz.func42 rfl rfl AQ.2 rfl ?_;dsimp only[AQ,PZ,Nat.reduceAdd];repeat' (first
  |(apply PO ?_;clear hK K)|apply Rx.o ?_|(apply eR ?_;first|refine Rx.k (krs _) ?_)|(apply a6 (fun z Z=>?_) (fun z Z=>?_)<;>try(cases z;done))|apply aj ?_|(apply PP fun K hK=>?_)|apply ay ?_|apply PR ?_|apply aq ?_|apply PX ?_)
 refine Rk [0,1,2,6,7] [] 9 l.length (fun i E H=>∃v,E.at 8=v/\QL H v (fO s t i) 0) eE ⟨.nilS,eE,.inl ⟨rfl,rfl⟩⟩ ?_;rintro i E U hi O L F hsI ⟨v,k8,J⟩;(try simp only[QK,Qs,a7,P7,Qy,Nat.reduceBEq,Nat.reduceAdd,Nat.reduceLeDiff,tyF, *]at O);(try simp only[QK,Qs,a7,P7,Qy,Nat.reduceBEq,Nat.reduceAdd,Nat.reduceLeDiff,tyF, *]at L);(try simp only[QA,QZ,Re,bZ,Nat.reduceAdd]at F);repeat' (first
  |(apply PO ?_;clear hK K)|apply Rx.o ?_|(apply a6 (fun z Z=>?_) (fun z Z=>?_)<;>try(cases z;done))|apply aj ?_|(apply PP fun K hK=>?_)|apply ay ?_|apply PR ?_|apply aq ?_|apply PX ?_)
 .have hlt:i<l.length:=by simpa using z
  have hgx:s[i]?=some (s.getD i 0):=sm;have Y:fO s t (i+1)=if s.getD i 0=t then fO s t i++[(i:Int)]else fO s t i:=rfl
  have hal:=vJ s t i;have V:QL (U.alloc (.cells [.int .i64 i] 0 true)) v (fO s t i) 0:=J.keep (dD _) fun k hk=>by rw[P8,af (by have:=(J.lt hk).2;omega)]
  obtain⟨v5,H5,a5,s5,n5,f5,o5⟩:=SM (r:=U.next) (imm:=0) (i:Int) V (ca _) eX aa;have n5':U.next<=H5.next:=kH
  clear n5 f5 o5 V hsl;generalize s.getD i 0=x at *;repeat' (first
   |(apply PO ?_;clear hK K)|apply Rx.o ?_|(apply a6 (fun z Z=>?_) (fun z Z=>?_)<;>try(cases z;done))|apply aj ?_|(apply PP fun K hK=>?_)|apply ay ?_|apply PR ?_|apply aq ?_|apply PX ?_)
  .refine⟨aa,P1,P1,QN,lA,?_⟩;exact⟨v5,eE,by rw[Y,az dj];exact .inr s5⟩
  .refine⟨aa,P1,P1,QN,lA,?_⟩;exact⟨v,eE,by rw[Y,af dj];exact J⟩
 .have hie:i=l.length:=by simp at z;omega
  rw[hie]at J;have hal:=vJ s t l.length;generalize fO s t l.length=a at *;rcases J with⟨_,rfl⟩|J
  .simp at I
  obtain⟨r,imm,rfl,hg,_⟩:=J;have hr:=R0 (n:=n) (m:=a.length) aa aa;have hne:(a.length:Int)≠0:=aa;obtain⟨p,hp⟩:=cX hr.1;rw[hp]at hr;have e1:IntKind.wrap .i64 ((a.length:Int)-1)=((a.length-1:Nat):Int):=sG;have e2:IntKind.wrap .i64 (((a.length-1:Nat):Int)-p)=((a.length-1-p:Nat):Int):=sG;have A:a.length-1-p<a.length:=aa;have hix:Qt Tryz.prog 23 (.sl r 0 a.length 1) (.int .i64 ((a.length-1-p:Nat):Int))=some (.ptr r (a.length-1-p)):=by rw[mh Tryz.underlying23 fy A];simp
  have hld:Ru Tryz.prog U 3 (.ptr r (a.length-1-p))=some (.int .i64 (a.getD (a.length-1-p) 0)):=by rw[j3 Tryz.underlying3 rfl hg,dY,cN,a1 A];rfl
  repeat' (first
   |(apply PO ?_;clear hK K)|apply Rx.o ?_|(apply eR ?_;first|refine Rx.k (RS (fun _=>rfl) _ _ hne _) ?_)|(apply a6 (fun z Z=>?_) (fun z Z=>?_)<;>try(cases z;done))|apply aj ?_|(apply PP fun K hK=>?_)|apply ay ?_|apply PR ?_|apply aq ?_|apply PX ?_)
  all_goals (refine⟨eI,_,P0,?_⟩;try simp only[PT])
  rw[hp,cY])
noncomputable def vQ:En:=⟨42,true,bG sP kJ fun x=>.int .i64 (jW x.l x.t x.n)⟩
theorem Ow(ρ:Nat->Int):QM Tryz.prog ρ vQ:=QP fun x C=>Ov ρ x C
end
section
def tyK9.tyF:=ac @dr (ac @cZ (ac @pO (ac @dK (ac @ey (ac @ez (ac @uU (@jU)))))))
open tyK9
noncomputable def oq:{c:SC // aB 21 (Tryz.f50.body.getD .skip)=c}:=by
 refine⟨?_,?_⟩;rotate_left
 .simp only[Tryz.f50,bh,aB,Qh,Qe,Qm,Qn,Nat.blt,Nat.ble];rfl
noncomputable def sQ:{c:SC // aB 65 (Tryz.f40.body.getD .skip)=c}:=by
 refine⟨?_,?_⟩;rotate_left
 .simp only[Tryz.f40,bh,aB,Qh,Qe,Qm,Qn,Nat.blt,Nat.ble];rfl
theorem Oz(ρ:Nat->Int)(x:List Nd×Int)(C:QY x.1):aX Tryz.prog ρ 50 (eA x) (.int .i64 (QF x.1 x.2)):=Q7 fit (pls:=pls) (l:=[lH]) ⟨AR ρ,trivial⟩ (.cons (Sq _) (.cons (.int _ _) .nil)) (.int _ _) (by
 obtain⟨l,i⟩:=x;simp only[]at C;have Y:=C.1;have L:Plain (PU pls [lH]) 50:=Ra (fun _=>rfl) rfl;rw[eA];simp only[];by_cases c1:i<0
 .refine P4 (M:=21) (rs:=[.tmp 4]) (L.call _) L.ice L.froz Tryz.func50 rfl rfl oq.2 rfl ?_;dsimp only[oq,PZ,Nat.reduceAdd];repeat' (first
   |(apply PO ?_;clear hK K)|apply Ry.o ?_|(apply aU (fun A j=>?_) (fun A j=>?_)<;>try(cases A;done))|(apply aH (fun z Z=>?_) (fun z Z=>?_)<;>try(cases z;done))|apply aj ?_|(apply PP fun K hK=>?_)|apply aq ?_)
  all_goals (refine⟨eI,_,P0,?_⟩;try simp only[PT])
  rw[QF,az (.inl c1)]
 by_cases c2:(l.length:Int)<=i
 .refine P4 (M:=21) (rs:=[.tmp 4]) (L.call _) L.ice L.froz Tryz.func50 rfl rfl oq.2 rfl ?_;dsimp only[oq,PZ,Nat.reduceAdd];repeat' (first
   |(apply PO ?_;clear hK K)|apply Ry.o ?_|(apply aU (fun A j=>?_) (fun A j=>?_)<;>try(cases A;done))|(apply aH (fun z Z=>?_) (fun z Z=>?_)<;>try(cases z;done))|apply aj ?_|(apply PP fun K hK=>?_)|apply aq ?_)
  all_goals (refine⟨eI,_,P0,?_⟩;try simp only[PT])
  rw[QF,az (.inr c2)]
 obtain⟨m,rfl⟩:=cX (qa.1 c1);have J:m<l.length:=aa;have I:IntKind.wrap .i64 ((m:Int)+1)=((m+1:Nat):Int):=Rr aa aa;have V:=z9 l (m+1) aa;have U:(l.take (m+1)).length=m+1:=nl;have O:(Qb (l.take (m+1)) (m+1))[m]?=some (QF l m):=by
  rw[QF,af aa,cY,cN,a1 kq];rfl
 refine P4 (M:=21) (rs:=[.tmp 4]) (L.call _) L.ice L.froz Tryz.func50 rfl rfl oq.2 rfl ?_;dsimp only[oq,PZ,Nat.reduceAdd];repeat' (first
  |(apply PO ?_;clear hK K)|apply Ry.o ?_|(apply bD ?_;first|refine Rx.k (AS (fun _=>rfl) _ (C.take _) _) ?_)|(apply aU (fun A j=>?_) (fun A j=>?_)<;>try(cases A;done))|(apply aH (fun z Z=>?_) (fun z Z=>?_)<;>try(cases z;done))|apply aj ?_|(apply PP fun K hK=>?_)|apply PR ?_|apply aq ?_)
 all_goals (refine⟨eI,_,P0,?_⟩;try simp only[PT]))
noncomputable def ot:En:=⟨50,true,bG (fun x=>QY x.1) eA fun x=>.int .i64 (QF x.1 x.2)⟩
theorem AT(ρ:Nat->Int):QM Tryz.prog ρ ot:=QP fun x C=>Oz ρ x C
theorem AU{tb:List En}(o:∀C,QT tb 50 C=ot.sp C)(l:List Nd)(i:Int)(I:QY l)(H:Hp):P2 Tryz.prog (PU pls tb) 50 [Qz l,.int .i64 i] H fun v H'=>v=.int .i64 (QF l i)/\H'=H:=
 Q0 (enc:=eA) (ok:=fun x=>QY x.1) (out:=fun x=>.int .i64 (QF x.1 x.2)) n9 (x:=(l,i)) (o _) I
set_option maxRecDepth 100000 in
theorem OA(ρ:Nat->Int)(x:List Nd×Int)(hx:QY x.1):aX Tryz.prog ρ 40 (eA x) (Qg (Rg x.1 x.2)):=rX (n:=3) (SY (r:=lw (Rg x.1 x.2)) (m:=3) (cfg:=PU pls [ot]) fit (gL ρ) (dG.look ⟨AT ρ,trivial⟩) (.cons (Sq _) (.cons (.int _ _) .nil)) (by
 obtain⟨l,i⟩:=x;simp only[]at hx;have hx1:=hx.1;have hw:Plain (PU pls [ot]) 40:=Ra (fun _=>rfl) rfl;have hkeep:(PU pls [ot]).keep 40=false:=rfl;rw[eA];simp only[];by_cases c0:QF l i=0
 .refine P4 (M:=65) (rs:=[.tmp 4]) (hw.call _) hw.ice hw.froz Tryz.func40 rfl rfl sQ.2 rfl ?_;dsimp only[sQ,PZ,Nat.reduceAdd];repeat' (first
   |(apply PO ?_;clear hK K)|apply Ry.o ?_|(apply bD ?_;first|refine Rx.k (AU (fun _=>rfl) _ _ hx _) ?_)|(apply aH (fun z Z=>?_) (fun z Z=>?_)<;>try(cases z;done))|apply aj ?_|(apply PP fun K hK=>?_)|apply aq ?_|fail)
  all_goals (refine⟨eI,_,P0,?_⟩;try simp only[PT])
  rw[Rg,az c0];rfl
 have hr:0<=i/\i<l.length:=by
  unfold QF at c0;by_cases c:i<0\/(l.length:Int)<=i
  .rw[az c]at c0;exact absurd rfl c0
  .omega
 obtain⟨m,rfl⟩:=cX hr.1;have hm:m<l.length:=aa;clear hr;have e1:IntKind.wrap .i64 ((m:Int)+1)=((m+1:Nat):Int):=Rr aa aa;have hmk:∀H:Hp,RK Tryz.prog H 121 (.int .i64 ((m+1:Nat):Int)) (.int .i64 ((m+1:Nat):Int))=some (.sl H.next 0 (m+1) 1,H.alloc (.cells ((List.replicate (m+1) false).map .bool) 0 true)):=fun H=>zx _ aa;have hixm:Qt Tryz.prog 121 (.sl 0 0 (m+1) 1) (.int .i64 (m:Int))=some (.ptr 0 m):=lC aa;refine P4 (M:=65) (rs:=[.tmp 4]) (hw.call _) hw.ice hw.froz Tryz.func40 rfl rfl sQ.2 rfl ?_;dsimp only[sQ,PZ,Nat.reduceAdd];repeat' (first
  |(apply PO ?_;clear hK K)|apply Ry.o ?_|(apply bD ?_;first|refine Rx.k (AU (fun _=>rfl) _ _ hx _) ?_)|(apply aH (fun z Z=>?_) (fun z Z=>?_)<;>try(cases z;done))|apply aj ?_|(apply PP fun K hK=>?_)|apply PR ?_|fail)
 refine jD eV eV (sA (bs:=List.replicate (m+1) false) sn aA true) ?_;repeat' (first
  |(apply PO ?_;clear hK K)|apply Rx.o ?_|apply aj ?_|(apply PP fun K hK=>?_)|apply ay ?_|fail)
 refine uK [0,1,4,5] [] (fun k E H=>k<=m+1/\E.at 6=.int .i64 ((k:Int)-1)/\∃(b:List Bool),H.get 0=some (.cells (b.map .bool) 0 true)/\DepJ l m k b) (m+1) ⟨aC _,zV,_,dQ,DepJ.start c0⟩ ?_;rintro k E2 H2 V I Y ⟨hk,k7,b,C,hJ⟩;(try simp only[QK,Qs,a7,P7,Qy,Nat.reduceBEq, *]at V);have hn0:=Y;have hn1:1<=H2.next:=Y
 clear Y;cases k with
 |zero=>
  have k7':E2.at 6=.int .i64 (-1):=k7;clear k7;have hbe:=hJ.done;have hbl:=hJ.ok.len;clear hJ;repeat' (first
   |(apply PO ?_;clear hK K)|apply Ry.o ?_|(apply aH (fun z Z=>?_) (fun z Z=>?_)<;>try(cases z;done))|apply aj ?_|(apply PP fun K hK=>?_)|apply ay ?_|apply PX ?_)
  subst hbe;have hds:Rg l m=iP (el l m) (m+1):=by rw[pI,af c0];rfl
  refine Rk [1,4,5] [] 9 (m+1) (fun i E H=>∃v,E.at 8=v/\iM H v (iP (el l m) i) 1/\H.get 0=some (.cells ((el l m).map .bool) 0 true)) eE ⟨.nilS,eE,.inl ⟨rfl,rfl⟩,C⟩ ?_;rintro i E3 H3 hi V I Y hsI ⟨v,k10,hv,hg3⟩;(try simp only[QK,Qs,a7,P7,Nat.reduceBEq, *]at V);(try simp only[Qs, *]at I);(try simp only[QA,QZ,Re,bZ,Nat.reduceAdd]at Y);by_cases him:(i:Int)<=m
  .have o:i<m+1:=by omega
   have hix:Qt Tryz.prog 121 (.sl 0 0 (m+1) 1) (.int .i64 (i:Int))=some (.ptr 0 i):=lC o;have O:=qb hg3 (m:=i) aa;have J:=Ae (el l m) i;have hol:=Af (el l m) i;cases L:(el l m).getD i false with
   |false=>
    rw[L]at O J;rw[af aA]at J;repeat' (first
     |(apply PO ?_;clear hK K)|apply Ry.o ?_|(apply aH (fun z Z=>?_) (fun z Z=>?_)<;>try(cases z;done))|apply aj ?_|(apply PP fun K hK=>?_)|apply ay ?_|apply PR ?_|fail)
    refine⟨aa,P1,P1,QN,so,?_⟩;exact⟨v,eE,by rw[J];exact hv,hg3⟩
   |true=>
    rw[L]at O J;rw[az rfl]at J;have hvb:QL (H3.alloc (.cells [.int .i64 i] 0 true)) v (iP (el l m) i) 1:=hv.n.keep (dD _) fun k hk=>by rw[P8,af (by have:=(hv.n.lt hk).2;omega)]
    obtain⟨v5,H5,a5,s5,n5,f5,o5⟩:=SM (r:=H3.next) (imm:=0) (i:Int) hvb lz eX aa;have n5':H3.next<=H5.next:=kH
    have g50:H5.get 0=some (.cells ((el l m).map .bool) 0 true):=by rw[f5 0 aa,P8,af aa];exact hg3
    clear n5 f5 o5;repeat' (first
     |(apply PO ?_;clear hK K)|apply Ry.o ?_|(apply aH (fun z Z=>?_) (fun z Z=>?_)<;>try(cases z;done))|apply aj ?_|(apply PP fun K hK=>?_)|apply ay ?_|apply PR ?_|fail)
    refine⟨aa,P1,P1,QN,so,?_⟩;exact⟨v5,eE,.inr ⟨nY,nZ⟩,g50⟩
  .repeat' (first
    |(apply PO ?_;clear hK K)|apply Ry.o ?_|(apply aH (fun z Z=>?_) (fun z Z=>?_)<;>try(cases z;done))|apply aj ?_|(apply PP fun K hK=>?_)|apply aq ?_|apply PX ?_)
   all_goals (refine⟨eI,_,P0,?_⟩;try simp only[PT])
   have hie:i=m+1:=aa;rw[hds,<-hie];exact hv.iceV 1
 |succ q=>
  have k7':E2.at 6=.int .i64 (q:Int):=by rw[k7];congr 1;omega
  clear k7;have hbl:=hJ.ok.len;have hix:Qt Tryz.prog 121 (.sl 0 0 (m+1) 1) (.int .i64 (q:Int))=some (.ptr 0 q):=lC aa;have O:=qb C (m:=q) aa;have hqn:(0:Int)<=q:=aa;have hql:q<l.length:=aa;have hgx:l[q]?=some l[q]:=a1 hql;have U:=hJ.step aa;have e2:IntKind.wrap .i64 ((q:Int)-1)=(q:Int)-1:=Rr aa aa;rw[hgx]at U;simp only[]at U;cases L:b.getD q false with
  |false=>
   rw[L]at O U;rw[af aA]at U;clear hJ;generalize l[q]=n at *;repeat' (first
    |(apply PO ?_;clear hK K)|apply Ry.o ?_|(apply aH (fun z Z=>?_) (fun z Z=>?_)<;>try(cases z;done))|apply aj ?_|(apply PP fun K hK=>?_)|apply ay ?_|apply PR ?_|fail)
   refine Rk [0,1,4,5,6] [] 7 0 (fun j E H=>H.get 0=some (.cells (b.map .bool) 0 true)/\H=H2) eE ⟨C,rfl⟩ ?_;rintro j E3 H3 hj V I Y hsI ⟨A,rfl⟩;(try simp only[QK,Qs,a7,P7,Nat.reduceBEq, *]at V);(try simp only[Qs, *]at I);(try simp only[QA,QZ,Re,bZ,Nat.reduceAdd]at Y);have hj0:j=0:=aa;subst hj0;repeat' (first
    |(apply PO ?_;clear hK K)|apply Ry.o ?_|(apply aU (fun g F=>?_) (fun g F=>?_)<;>try(cases g;done))|(apply aH (fun z Z=>?_) (fun z Z=>?_)<;>try(cases z;done))|apply aj ?_|(apply PP fun K hK=>?_)|apply PX ?_)
   all_goals
    refine⟨P1,P1,hn0,q,aa,aa,eE,b,C,U⟩
  |true=>
   rw[L]at U;rw[az rfl]at U;have hkd:∀d∈l[q].kids,0<=d/\d<q/\QF l d≠0:=rN hgx (hJ.ok.wf q L).2;have hnk:=hx.2 _ (e9 hql);clear hJ O;generalize l[q]=n at *;repeat' (first
    |(apply PO ?_;clear hK K)|apply Ry.o ?_|(apply aH (fun z Z=>?_) (fun z Z=>?_)<;>try(cases z;done))|apply aj ?_|(apply PP fun K hK=>?_)|apply ay ?_|apply PR ?_|fail)
   refine Rk [0,1,4,5,6] [] 7 n.kids.length (fun j E H=>H.get 0=some (.cells ((gw (n.kids.take j) b).map .bool) 0 true)) eE C ?_;rintro j E3 H3 hj V I Y hsI A;(try simp only[QK,Qs,a7,P7,Nat.reduceBEq, *]at V);(try simp only[Qs, *]at I);(try simp only[QA,QZ,Re,bZ,Nat.reduceAdd]at Y);by_cases o:j<n.kids.length
   .have hgy:n.kids[j]?=some n.kids[j]:=a1 o;obtain⟨d0,d1,d2⟩:=hkd _ (e9 o);have htk:n.kids.take (j+1)=n.kids.take j++[n.kids[j]]:=by rw[qT,hgy];rfl
    generalize n.kids[j]=kd at *;obtain⟨d,rfl⟩:=cX d0;have hix2:Qt Tryz.prog 121 (.sl 0 0 (m+1) 1) (.int .i64 (d:Int))=some (.ptr 0 d):=lC aa;have O:=qb A (m:=q) (by rw[pG];omega);have hmq:(gw (n.kids.take j) b).getD q false=true:=by
     rw[uC _ _ _ (fun c hc=>by have:=hkd c (List.mem_of_mem_take hc);omega),L];rfl
    rw[hmq]at O;have hlt':(j:Int)<n.kids.length:=aa;repeat' (first
     |(apply PO ?_;clear hK K)|apply Ry.o ?_|(apply aU (fun g F=>?_) (fun g F=>?_)<;>try(cases g;done))|(apply aH (fun z Z=>?_) (fun z Z=>?_)<;>try(cases z;done))|apply aj ?_|(apply PP fun K hK=>?_)|apply ay ?_|apply PR ?_|fail)
    refine jD eV eV (sA A (by rw[pG];omega) true) ?_;repeat' (first
     |(apply PO ?_;clear hK K)|apply Rx.o ?_|(apply PP fun K hK=>?_)|fail)
    refine⟨aa,P1,P1,QN,p9,?_⟩;rw[a9,az rfl,htk,Ad,cY]
   .have hje:j=n.kids.length:=by omega
    rw[hje,tH]at A;subst hje;have hlt':¬(n.kids.length:Int)<n.kids.length:=aa;repeat' (first
     |(apply PO ?_;clear hK K)|apply Ry.o ?_|(apply aU (fun g F=>?_) (fun g F=>?_)<;>try(cases g;done))|(apply aH (fun z Z=>?_) (fun z Z=>?_)<;>try(cases z;done))|apply aj ?_|(apply PP fun K hK=>?_)|apply PX ?_)
    refine⟨P1,P1,ea hn0 Y,q,aa,aa,eE,_,A,U⟩)) (u6 1 _)
end
section
def tyVeR.tyF:=ac @dr (ac @cZ (ac @dK (ac @ey (ac @ez (@pP)))))
open tyVeR
noncomputable def sR:{c:SC // aB 168 (Tryz.f25.body.getD .skip)=c}:=by
 refine⟨?_,?_⟩;rotate_left
 .simp only[Tryz.f25,bh,aB,Qh,Qe,Qm,Qn,Nat.blt,Nat.ble];rfl
noncomputable def AW:En:=⟨40,true,bG (fun x=>QY x.1) eA fun x=>Qg (Rg x.1 x.2)⟩
theorem OB(ρ:Nat->Int):QM Tryz.prog ρ AW:=QP fun x C=>OA ρ x C
noncomputable def ou:List En:=[ot,AW,zp,zq]
theorem OC(ρ:Nat->Int):dG Tryz.prog ρ ou:=⟨AT ρ,OB ρ,Ms ρ,Mt ρ,trivial⟩
set_option maxRecDepth 100000 in
theorem OD(ρ:Nat->Int)(x:VlX)(hx:oc x):aX Tryz.prog ρ 25 (jd x) (je x):=Q7 fit (pls:=pls) (OC ρ) (.cons (Sq _) (.cons (.int _ _) (.cons (Sv _) .nil))) (.tup (.cons (.int _ _) (.cons (.bool _) .nil))) (by
 obtain⟨l,i,Y⟩:=x;obtain⟨hx,ha⟩:=hx;simp only[]at hx ha;have hl1:=hx.1;have hw:Plain (PU pls ou) 25:=Ra (fun _=>rfl) rfl;have kso:∀H,P2 Tryz.prog (PU pls ou) 50 [Qz l,.int .i64 i] H fun v H'=>v=.int .i64 (QF l i)/\H'=H:=fun H=>Q0 (enc:=eA) (ok:=fun x=>QY x.1) (out:=fun x=>.int .i64 (QF x.1 x.2)) n9 (x:=(l,i)) rfl hx;have kde:∀H,P2 Tryz.prog (PU pls ou) 40 [Qz l,.int .i64 i] H fun v H'=>v=Qg (Rg l i)/\H'=H:=fun H=>Q0 (enc:=eA) (ok:=fun x=>QY x.1) (out:=fun x=>Qg (Rg x.1 x.2)) n9 (x:=(l,i)) rfl hx;have kun:∀C a H,P2 Tryz.prog (PU pls ou) 52 [.int .i64 C,.int .i64 a] H fun v H'=>v=.int .i64 (fL C a)/\H'=H:=fun C a H=>Q0 (enc:=kE) (ok:=fun _=>True) (out:=fun x=>.int .i64 (fL x.1 x.2)) zi (x:=(C,a)) rfl trivial;have kbi:∀C a b H,P2 Tryz.prog (PU pls ou) 51 [.int .i64 C,.int .i64 a,.int .i64 b] H fun v H'=>v=.int .i64 (gx C a b)/\H'=H:=fun C a b H=>Q0 (enc:=kF) (ok:=fun _=>True) (out:=fun x=>.int .i64 (gx x.1 x.2.1 x.2.2)) zj (x:=(C,a,b)) rfl trivial;rw[jd,je];simp only[];by_cases c0:QF l i=1
 .obtain⟨i0,i1⟩:=uF (l:=l) (i:=i) aa;obtain⟨m,rfl⟩:=cX i0;have hval:jI l m Y=(iH l Y (Rg l m) (List.replicate (m+1) 0)).map fun v=>v.getD m 0:=by rw[jI,az c0,cY]
  rw[hval];have hdk:=fun k=>yb (l:=l) (i:=m) (k:=k);have hdp:=fun k=>rP (l:=l) (i:=m) (x:=k);have hdl:(Rg l m).length<2^40:=by
   have:(Rg l m).length<=m+1:=by
    rw[pI];split
    .simp
    .rw[cS];exact ea (vq _ _) aA
   omega
  have e1:IntKind.wrap .i64 ((m:Int)+1)=((m+1:Nat):Int):=Rr aa aa;have hmk:=fun H=>Ag (H:=H) (m+1) aa;clear hval;generalize Rg l m=D at *;obtain⟨R,hR⟩:∃R,R=iH l Y D (List.replicate (m+1) 0):=⟨_,rfl⟩;rw[<-hR];refine P4 (M:=168) (rs:=[.tmp 6,.tmp 7]) (hw.call _) hw.ice hw.froz Tryz.func25 rfl rfl sR.2 rfl ?_;dsimp only[sR,PZ,Nat.reduceAdd];repeat' (first
   |(apply PO ?_;clear hK K)|apply Ry.o ?_|apply bC ?_|(apply bD ?_;first|refine Rx.k (kso _) ?_|refine Rx.k (kde _) ?_)|(apply aU (fun U Z=>?_) (fun U Z=>?_)<;>try(cases U;done))|(apply aH (fun z V=>?_) (fun z V=>?_)<;>try(cases z;done))|apply aj ?_|(apply PP fun K hK=>?_)|(apply QD 11 fun K hK=>?_)|(apply QD 13 fun K hK=>?_)|(apply PQ 15 [(4,21),(4,23),(6,21),(9,21),(11,21),(13,21),(16,21),(18,21),(20,21)] fun K hK=>?_)|(apply PQ 17 [(4,14),(4,16),(6,14),(9,14),(11,14),(13,14)] fun K hK=>?_)|(apply QD 20 fun K hK=>?_)|(apply QD 21 fun K hK=>?_)|(apply P5 ?_;try intro _)|(apply P6 ?_ ?_<;>clear hK K)|apply aS ?_|apply P9 rfl ?_|apply ay ?_|apply PR ?_|apply aq ?_|apply PX ?_)
  refine Rk [0,1,2,8,9] [] 10 D.length (fun j E H=>∃vv,H.get 0=some (.cells (vv.map (.int .i64)) 0 true)/\vv.length=m+1/\iH l Y (D.drop j) vv=R) eE ⟨List.replicate (m+1) 0,rfl,pS,hR.symm⟩ ?_;rintro j E H2 hj hcE hrH hnH hsI ⟨vv,g0,g,J⟩;(try simp only[QK,Qs,a7,P7,Qy,Nat.reduceBEq,Nat.reduceAdd,Nat.reduceLeDiff,tyF, *]at hcE);(try simp only[QK,Qs,a7,P7,Qy,Nat.reduceBEq,Nat.reduceAdd,Nat.reduceLeDiff,tyF, *]at hrH);(try simp only[QA,QZ,Re,bZ,Nat.reduceAdd]at hnH);have hB0:(0 == H2.next)=false:=Rw aa;have hC0:(H2.next == 0)=false:=Rw aa;by_cases hlt:j<D.length
  .have hlt':(j:Int)<D.length:=by omega
   have hgd:D[j]?=some D[j]:=a1 hlt;obtain⟨n,hn,hok⟩:=hdk _ (e9 hlt);obtain⟨_,hd0,hdm⟩:=hdp _ (e9 hlt);rw[jb hlt,iH,hn,gb]at J;clear hdk hdp;generalize D[j]=d at *;obtain⟨d,rfl⟩:=cX hd0;rw[cY]at hn J;have hdl2:d<l.length:=(cG.1 hn).1;have hdv:d<m+1:=aa;have hdv':d<vv.length:=aa;have hn':(l.map Nd.cells)[d]?=some n.cells:=by rw[dY,hn];rfl
   obtain⟨C,imm,A⟩:=n;have hpos:0<H2.next:=by have:=hnH;omega
   have hst:∀(O L:HB) (x:Int),RT Tryz.prog ((H2.alloc O).set H2.next L) 2 (.ptr 0 d) (.int .i64 x)=some (((H2.alloc O).set H2.next L).set 0 (.cells ((vv.set d x).map (.int .i64)) 0 true)):=fun O L x=>Ah sq hdv' x;have o:∀(O L:HB) (x:Int),(((H2.alloc O).set H2.next L).set 0 (.cells ((vv.set d x).map (.int .i64)) 0 true)).get 0=some (.cells ((vv.set d x).map (.int .i64)) 0 true):=fun O L x=>dQ;have hld:∀(O L:HB) (a:Nat),a<m+1->Ru Tryz.prog ((H2.alloc O).set H2.next L) 2 (.ptr 0 a)=some (.int .i64 (vv.getD a 0)):=fun O L a ha=>by
    rw[j3 Tryz.underlying2 rfl (cs:=vv.map (.int .i64)) (imm:=0) (tip:=true) sq,dY,og aa];rfl
   have hkk:∀q,(hq:q<A.length)->∃a:Nat,A[q]?=some (a:Int)/\a<m+1/\jH vv ⟨C,imm,A⟩ q=vv.getD a 0:=fun q hq=>by
    have hq2:=a1 hq;have hq3:=hok.kids _ (e9 hq);generalize A[q]=c at *;obtain⟨a,rfl⟩:=cX hq3.1;refine⟨a,hq2,aa,?_⟩;rw[jH];simp only[cN,hq2,bh,cY]
   clear hnH hdl2 hn';by_cases c1:C=1
   .have F:dd Y vv ⟨C,imm,A⟩=some imm:=by rw[dd,az c1]
    rw[F,gb]at J;repeat' (first
     |(apply PO ?_;clear hK K)|apply Ry.o ?_|apply bC ?_|(apply aU (fun U Z=>?_) (fun U Z=>?_)<;>try(cases U;done))|(apply aH (fun z V=>?_) (fun z V=>?_)<;>try(cases z;done))|apply aj ?_|(apply PP fun K hK=>?_)|(apply QD 11 fun K hK=>?_)|(apply QD 13 fun K hK=>?_)|(apply PQ 15 [(4,21),(4,23),(6,21),(9,21),(11,21),(13,21),(16,21),(18,21),(20,21)] fun K hK=>?_)|(apply PQ 17 [(4,14),(4,16),(6,14),(9,14),(11,14),(13,14)] fun K hK=>?_)|(apply QD 20 fun K hK=>?_)|(apply QD 21 fun K hK=>?_)|(apply P5 ?_;try intro _)|(apply P6 ?_ ?_<;>clear hK K)|apply aS ?_|apply P9 rfl ?_|apply ay ?_|apply PR ?_|apply aq ?_|apply PX ?_)
    refine⟨aa,P1,P1,QN,gZ,?_⟩;exact⟨_,o _ _ _,gY,J⟩
   by_cases c2:C=2
   .by_cases c3:imm<Y.length
    .have himm:0<=imm:=hok.p c2;have F:dd Y vv ⟨C,imm,A⟩=some (Y.getD imm.toNat 0):=by rw[dd,af c1,az ⟨c2,c3⟩]
     rw[F,gb]at J;obtain⟨q,rfl⟩:=cX himm;rw[cY]at J;have hga:Y[q]?=some (Y.getD q 0):=og aa;generalize Y.getD q 0=y at *;repeat' (first
      |(apply PO ?_;clear hK K)|apply Ry.o ?_|apply bC ?_|(apply aU (fun U Z=>?_) (fun U Z=>?_)<;>try(cases U;done))|(apply aH (fun z V=>?_) (fun z V=>?_)<;>try(cases z;done))|apply aj ?_|(apply PP fun K hK=>?_)|(apply QD 11 fun K hK=>?_)|(apply QD 13 fun K hK=>?_)|(apply PQ 15 [(4,21),(4,23),(6,21),(9,21),(11,21),(13,21),(16,21),(18,21),(20,21)] fun K hK=>?_)|(apply PQ 17 [(4,14),(4,16),(6,14),(9,14),(11,14),(13,14)] fun K hK=>?_)|(apply QD 20 fun K hK=>?_)|(apply QD 21 fun K hK=>?_)|(apply P5 ?_;try intro _)|(apply P6 ?_ ?_<;>clear hK K)|apply aS ?_|apply P9 rfl ?_|apply ay ?_|apply PR ?_|apply aq ?_|apply PX ?_)
     refine⟨aa,P1,P1,QN,gZ,?_⟩;exact⟨_,o _ _ _,gY,J⟩
    .have F:dd Y vv ⟨C,imm,A⟩=none:=by rw[dd,af c1,af (fun h=>c3 h.2),af fN,af fN,af fN]
     rw[F,sr]at J;repeat' (first
      |(apply PO ?_;clear hK K)|apply Ry.o ?_|apply bC ?_|(apply aU (fun U Z=>?_) (fun U Z=>?_)<;>try(cases U;done))|(apply aH (fun z V=>?_) (fun z V=>?_)<;>try(cases z;done))|apply aj ?_|(apply PP fun K hK=>?_)|(apply QD 11 fun K hK=>?_)|(apply QD 13 fun K hK=>?_)|(apply PQ 15 [(4,21),(4,23),(6,21),(9,21),(11,21),(13,21),(16,21),(18,21),(20,21)] fun K hK=>?_)|(apply PQ 17 [(4,14),(4,16),(6,14),(9,14),(11,14),(13,14)] fun K hK=>?_)|(apply QD 20 fun K hK=>?_)|(apply QD 21 fun K hK=>?_)|(apply P5 ?_;try intro _)|(apply P6 ?_ ?_<;>clear hK K)|apply aS ?_|apply P9 rfl ?_|apply ay ?_|apply PR ?_|apply aq ?_|apply PX ?_)
     all_goals (refine⟨eI,_,P0,?_⟩;try simp only[PT])
     rw[<-J];rfl
   by_cases c20:C=20
   .obtain⟨a,hk0,ha,I⟩:=hkk 0 zQ;have F:dd Y vv ⟨C,imm,A⟩=some (fL C (vv.getD a 0)):=zR;rw[F,gb]at J;have hla:=fun O L=>hld O L a ha;repeat' (first
     |(apply PO ?_;clear hK K)|apply Ry.o ?_|apply bC ?_|(apply bD ?_;first|refine Rx.k (kun _ _ _) ?_)|(apply aU (fun U Z=>?_) (fun U Z=>?_)<;>try(cases U;done))|(apply aH (fun z V=>?_) (fun z V=>?_)<;>try(cases z;done))|apply aj ?_|(apply PP fun K hK=>?_)|(apply QD 11 fun K hK=>?_)|(apply QD 13 fun K hK=>?_)|(apply PQ 15 [(4,21),(4,23),(6,21),(9,21),(11,21),(13,21),(16,21),(18,21),(20,21)] fun K hK=>?_)|(apply PQ 17 [(4,14),(4,16),(6,14),(9,14),(11,14),(13,14)] fun K hK=>?_)|(apply QD 20 fun K hK=>?_)|(apply QD 21 fun K hK=>?_)|(apply P5 ?_;try intro _)|(apply P6 ?_ ?_<;>clear hK K)|apply aS ?_|apply P9 rfl ?_|apply ay ?_|apply PR ?_|apply aq ?_|apply PX ?_)
    .exact eK
    refine⟨aa,P1,P1,QN,gZ,?_⟩;subst c20;exact⟨_,o _ _ _,gY,J⟩
   by_cases c21:C=21
   .obtain⟨a,hk0,ha,I⟩:=hkk 0 zS;have F:dd Y vv ⟨C,imm,A⟩=some (fL C (vv.getD a 0)):=zT;rw[F,gb]at J;have hla:=fun O L=>hld O L a ha;repeat' (first
     |(apply PO ?_;clear hK K)|apply Ry.o ?_|apply bC ?_|(apply bD ?_;first|refine Rx.k (kun _ _ _) ?_)|(apply aU (fun U Z=>?_) (fun U Z=>?_)<;>try(cases U;done))|(apply aH (fun z V=>?_) (fun z V=>?_)<;>try(cases z;done))|apply aj ?_|(apply PP fun K hK=>?_)|(apply QD 11 fun K hK=>?_)|(apply QD 13 fun K hK=>?_)|(apply PQ 15 [(4,21),(4,23),(6,21),(9,21),(11,21),(13,21),(16,21),(18,21),(20,21)] fun K hK=>?_)|(apply PQ 17 [(4,14),(4,16),(6,14),(9,14),(11,14),(13,14)] fun K hK=>?_)|(apply QD 20 fun K hK=>?_)|(apply QD 21 fun K hK=>?_)|(apply P5 ?_;try intro _)|(apply P6 ?_ ?_<;>clear hK K)|apply aS ?_|apply P9 rfl ?_|apply ay ?_|apply PR ?_|apply aq ?_|apply PX ?_)
    .exact eK
    refine⟨aa,P1,P1,QN,gZ,?_⟩;subst c21;exact⟨_,o _ _ _,gY,J⟩
   by_cases cb:4<=C/\C<=19
   .obtain⟨cb1,cb2⟩:=cb;have hk2:=hok.k2 ⟨cb1,cb2⟩;simp only[]at hk2;obtain⟨a,hk0,ha,I⟩:=hkk 0 aa;obtain⟨b,hk1,z,hkb⟩:=hkk 1 aa;have F:dd Y vv ⟨C,imm,A⟩=some (gx C (vv.getD a 0) (vv.getD b 0)):=zW;rw[F,gb]at J;have hla:=fun O L=>hld O L a ha;have hlb:=fun O L=>hld O L b z;repeat' (first
     |(apply PO ?_;clear hK K)|apply Ry.o ?_|apply bC ?_|(apply bD ?_;first|refine Rx.k (kbi _ _ _ _) ?_)|(apply aU (fun U Z=>?_) (fun U Z=>?_)<;>try(cases U;done))|(apply aH (fun z V=>?_) (fun z V=>?_)<;>try(cases z;done))|apply aj ?_|(apply PP fun K hK=>?_)|(apply QD 11 fun K hK=>?_)|(apply QD 13 fun K hK=>?_)|(apply PQ 15 [(4,21),(4,23),(6,21),(9,21),(11,21),(13,21),(16,21),(18,21),(20,21)] fun K hK=>?_)|(apply PQ 17 [(4,14),(4,16),(6,14),(9,14),(11,14),(13,14)] fun K hK=>?_)|(apply QD 20 fun K hK=>?_)|(apply QD 21 fun K hK=>?_)|(apply P5 ?_;try intro _)|(apply P6 ?_ ?_<;>clear hK K)|apply aS ?_|apply P9 rfl ?_|apply ay ?_|apply PR ?_|apply aq ?_|apply PX ?_)
    .exact eK
    refine⟨aa,P1,P1,QN,gZ,?_⟩;exact⟨_,o _ _ _,gY,J⟩
   by_cases c22:C=22
   .have hk3:=hok.k3 c22;simp only[]at hk3;obtain⟨a,hk0,ha,I⟩:=hkk 0 aa;obtain⟨b,hk1,z,hkb⟩:=hkk 1 aa;obtain⟨c,hk2,hc,hkc⟩:=hkk 2 aa;have hla:=fun O L=>hld O L a ha;have hlb:=fun O L=>hld O L b z;have hlc:=fun O L=>hld O L c hc;by_cases cz:vv.getD a 0=0
    .have F:dd Y vv ⟨C,imm,A⟩=some (vv.getD c 0):=by rw[dd,af c1,af (fun h=>c2 h.1),af fN,af fN,az c22,I,af (fun h=>h cz),hkc]
     rw[F,gb]at J;repeat' (first
      |(apply PO ?_;clear hK K)|apply Ry.o ?_|apply bC ?_|(apply aU (fun U Z=>?_) (fun U Z=>?_)<;>try(cases U;done))|(apply aH (fun z V=>?_) (fun z V=>?_)<;>try(cases z;done))|apply aj ?_|(apply PP fun K hK=>?_)|(apply QD 11 fun K hK=>?_)|(apply QD 13 fun K hK=>?_)|(apply PQ 15 [(4,21),(4,23),(6,21),(9,21),(11,21),(13,21),(16,21),(18,21),(20,21)] fun K hK=>?_)|(apply PQ 17 [(4,14),(4,16),(6,14),(9,14),(11,14),(13,14)] fun K hK=>?_)|(apply QD 20 fun K hK=>?_)|(apply QD 21 fun K hK=>?_)|(apply P5 ?_;try intro _)|(apply P6 ?_ ?_<;>clear hK K)|apply aS ?_|apply P9 rfl ?_|apply ay ?_|apply PR ?_|apply aq ?_|apply PX ?_)
     refine⟨aa,P1,P1,QN,gZ,?_⟩;exact⟨_,o _ _ _,gY,J⟩
    .have F:dd Y vv ⟨C,imm,A⟩=some (vv.getD b 0):=by rw[dd,af c1,af (fun h=>c2 h.1),af fN,af fN,az c22,I,az cz,hkb]
     rw[F,gb]at J;repeat' (first
      |(apply PO ?_;clear hK K)|apply Ry.o ?_|apply bC ?_|(apply aU (fun U Z=>?_) (fun U Z=>?_)<;>try(cases U;done))|(apply aH (fun z V=>?_) (fun z V=>?_)<;>try(cases z;done))|apply aj ?_|(apply PP fun K hK=>?_)|(apply QD 11 fun K hK=>?_)|(apply QD 13 fun K hK=>?_)|(apply PQ 15 [(4,21),(4,23),(6,21),(9,21),(11,21),(13,21),(16,21),(18,21),(20,21)] fun K hK=>?_)|(apply PQ 17 [(4,14),(4,16),(6,14),(9,14),(11,14),(13,14)] fun K hK=>?_)|(apply QD 20 fun K hK=>?_)|(apply QD 21 fun K hK=>?_)|(apply P5 ?_;try intro _)|(apply P6 ?_ ?_<;>clear hK K)|apply aS ?_|apply P9 rfl ?_|apply ay ?_|apply PR ?_|apply aq ?_|apply PX ?_)
     refine⟨aa,P1,P1,QN,gZ,?_⟩;exact⟨_,o _ _ _,gY,J⟩
   have F:dd Y vv ⟨C,imm,A⟩=none:=zX;rw[F,sr]at J;by_cases cc:4<=C
   .have cc2:¬C<=19:=fun h=>cb ⟨cc,h⟩;repeat' (first
     |(apply PO ?_;clear hK K)|apply Ry.o ?_|apply bC ?_|(apply aU (fun U Z=>?_) (fun U Z=>?_)<;>try(cases U;done))|(apply aH (fun z V=>?_) (fun z V=>?_)<;>try(cases z;done))|apply aj ?_|(apply PP fun K hK=>?_)|(apply QD 11 fun K hK=>?_)|(apply QD 13 fun K hK=>?_)|(apply PQ 15 [(4,21),(4,23),(6,21),(9,21),(11,21),(13,21),(16,21),(18,21),(20,21)] fun K hK=>?_)|(apply PQ 17 [(4,14),(4,16),(6,14),(9,14),(11,14),(13,14)] fun K hK=>?_)|(apply QD 20 fun K hK=>?_)|(apply QD 21 fun K hK=>?_)|(apply P5 ?_;try intro _)|(apply P6 ?_ ?_<;>clear hK K)|apply aS ?_|apply P9 rfl ?_|apply ay ?_|apply PR ?_|apply aq ?_|apply PX ?_)
    all_goals (refine⟨eI,_,P0,?_⟩;try simp only[PT])
    rw[<-J];rfl
   .repeat' (first
     |(apply PO ?_;clear hK K)|apply Ry.o ?_|apply bC ?_|(apply aU (fun U Z=>?_) (fun U Z=>?_)<;>try(cases U;done))|(apply aH (fun z V=>?_) (fun z V=>?_)<;>try(cases z;done))|apply aj ?_|(apply PP fun K hK=>?_)|(apply QD 11 fun K hK=>?_)|(apply QD 13 fun K hK=>?_)|(apply PQ 15 [(4,21),(4,23),(6,21),(9,21),(11,21),(13,21),(16,21),(18,21),(20,21)] fun K hK=>?_)|(apply PQ 17 [(4,14),(4,16),(6,14),(9,14),(11,14),(13,14)] fun K hK=>?_)|(apply QD 20 fun K hK=>?_)|(apply QD 21 fun K hK=>?_)|(apply P5 ?_;try intro _)|(apply P6 ?_ ?_<;>clear hK K)|apply aS ?_|apply P9 rfl ?_|apply ay ?_|apply PR ?_|apply aq ?_|apply PX ?_)
    all_goals (refine⟨eI,_,P0,?_⟩;try simp only[PT])
    rw[<-J];rfl
  .have hlt':¬(j:Int)<D.length:=by omega
   rw[List.drop_eq_nil_of_le aa,iH]at J;rw[<-J];have hla:Ru Tryz.prog H2 2 (.ptr 0 m)=some (.int .i64 (vv.getD m 0)):=by
    rw[j3 Tryz.underlying2 rfl (cs:=vv.map (.int .i64)) g0,dY,og aa];rfl
   have hmm:m<m+1:=dh m;repeat' (first
    |(apply PO ?_;clear hK K)|apply Ry.o ?_|apply bC ?_|(apply aU (fun U Z=>?_) (fun U Z=>?_)<;>try(cases U;done))|(apply aH (fun z V=>?_) (fun z V=>?_)<;>try(cases z;done))|apply aj ?_|(apply PP fun K hK=>?_)|(apply QD 11 fun K hK=>?_)|(apply QD 13 fun K hK=>?_)|(apply PQ 15 [(4,21),(4,23),(6,21),(9,21),(11,21),(13,21),(16,21),(18,21),(20,21)] fun K hK=>?_)|(apply PQ 17 [(4,14),(4,16),(6,14),(9,14),(11,14),(13,14)] fun K hK=>?_)|(apply QD 20 fun K hK=>?_)|(apply QD 21 fun K hK=>?_)|(apply P5 ?_;try intro _)|(apply P6 ?_ ?_<;>clear hK K)|apply aS ?_|apply P9 rfl ?_|apply ay ?_|apply PR ?_|apply aq ?_|apply PX ?_)
   all_goals (refine⟨eI,_,P0,?_⟩;try simp only[PT])
   rfl
 .have hval:jI l i Y=none:=by rw[jI,af c0]
  rw[hval];refine P4 (M:=168) (rs:=[.tmp 6,.tmp 7]) (hw.call _) hw.ice hw.froz Tryz.func25 rfl rfl sR.2 rfl ?_;dsimp only[sR,PZ,Nat.reduceAdd];repeat' (first
   |(apply PO ?_;clear hK K)|apply Ry.o ?_|apply bC ?_|(apply bD ?_;first|refine Rx.k (kso _) ?_)|(apply aU (fun U Z=>?_) (fun U Z=>?_)<;>try(cases U;done))|(apply aH (fun z V=>?_) (fun z V=>?_)<;>try(cases z;done))|apply aj ?_|(apply PP fun K hK=>?_)|(apply QD 11 fun K hK=>?_)|(apply QD 13 fun K hK=>?_)|(apply PQ 15 [(4,21),(4,23),(6,21),(9,21),(11,21),(13,21),(16,21),(18,21),(20,21)] fun K hK=>?_)|(apply PQ 17 [(4,14),(4,16),(6,14),(9,14),(11,14),(13,14)] fun K hK=>?_)|(apply QD 20 fun K hK=>?_)|(apply QD 21 fun K hK=>?_)|(apply P5 ?_;try intro _)|(apply P6 ?_ ?_<;>clear hK K)|apply aS ?_|apply P9 rfl ?_|apply ay ?_|apply PR ?_|apply aq ?_|apply PX ?_)
  all_goals (refine⟨eI,_,P0,?_⟩;try simp only[PT])
  rfl)
noncomputable def AY:En:=⟨25,true,bG oc jd je⟩
theorem OE(ρ:Nat->Int):QM Tryz.prog ρ AY:=QP fun x C=>OD ρ x C
end
section
def tyG2.tyF:=ac @cZ (ac @dK (@uT))
open tyG2
def eC(S:Nat->Prop)(n:Nat)(H:Hp)(v w:AV):Prop:=∃u,QG S n H v u/\∀m,n<=m->bg m u=w
def Q4(S:Nat->Prop)(n:Nat)(H:Hp)(cs O:List AV):Prop:=∃M,QB (QG S n H) cs M/\∀m,n<=m->M.map (bg m)=O
theorem Q4.frame{S S':Nat->Prop}(hS:∀k,S k->S' k){n:Nat}{H H':Hp}{v w:List AV}(h:Q4 S n H v w)(m:H.next<=H'.next)(g:∀k,S k->k<H.next->RN (H.get k) (H'.get k)):Q4 S' n H' v w:=by
 obtain⟨u,i,Z⟩:=h;exact⟨u,i.mono fun a b k=>k.frame hS m g,Z⟩
theorem Q4.keep{S S':Nat->Prop}(hS:∀k,S k->S' k){n:Nat}{H H':Hp}{v w:List AV}(h:Q4 S n H v w)(m:H.next<=H'.next)(g:∀k,S k->k<H.next->H'.get k=H.get k):Q4 S' n H' v w:=h.frame hS m fun k i Z=>.inl (g k i Z).symm
theorem Q4.nil{S:Nat->Prop}{n:Nat}{H:Hp}:Q4 S n H [] []:=⟨[],trivial,fun _ _=>rfl⟩
theorem Q4.cons{S:Nat->Prop}{n:Nat}{H:Hp}{v w:AV}{cs O:List AV}(h:eC S n H v w)(k:Q4 S n H cs O):Q4 S n H (v::cs) (w::O):=by
 obtain⟨u,i,g⟩:=h;obtain⟨M,o,U⟩:=k;exact⟨u::M,⟨i,o⟩,fun m V=>by rw[dS,g m V,U m V]⟩
theorem eC.flat{S:Nat->Prop}{n:Nat}{H:Hp}{v:AV}(h:yj v)(j:∀m,bg m v=v):eC S (n+1) H v v:=⟨v,i8 h,fun m _=>j m⟩
theorem eC.int{S:Nat->Prop}{n:Nat}{H:Hp}(k:IntKind)(x:Int):eC S (n+1) H (.int k x) (.int k x):=.flat ⟨.int _ _,trivial⟩ fun m=>by cases m<;>rfl
theorem eC.nilS{S:Nat->Prop}{n:Nat}{H:Hp}:eC S (n+1) H .nilS (.lst []):=⟨.nilS,i8 ⟨.nilS,trivial⟩,fun m V=>by
 obtain⟨m,rfl⟩:∃k,m=k+1:=⟨m-1,aa⟩;rfl⟩
theorem eC.lst0{S:Nat->Prop}{n:Nat}{H:Hp}:eC S (n+1) H (.lst []) (.lst []):=.flat ⟨.lst aA,trivial⟩ fun m=>by cases m<;>rfl
def dV(S:Nat->Prop)(n:Nat)(H:Hp)(z:Nat):List (List AV)->List (List AV)->Prop:=QB fun a b=>a.length=z/\Q4 S n H a b
theorem AZ{S:Nat->Prop}{n z:Nat}{H:Hp}:∀{a b:List (List AV)},dV S n H z a b->∃u,QB (QB (QG S n H)) a u/\(∀m,n<=m->u.map (List.map (bg m))=b)/\∀x∈a,x.length=z
 |[],[],_=>⟨[],trivial,fun _ _=>rfl,aA⟩
 |x::a,y::b,⟨⟨hz,v,h1,h2⟩,h⟩=>by
  obtain⟨u,o,U,A⟩:=AZ (a:=a) (b:=b) h;exact⟨v::u,⟨h1,o⟩,fun m V=>by rw[dS,h2 m V,U m V],fun q I=>by
   rcases gJ.1 I with rfl|I
   .exact hz
   .exact A q I⟩
theorem eC.rows{S:Nat->Prop}{n:Nat}{H:Hp}{r z imm:Nat}{tip:Bool}{a b:List (List AV)}(hS:S r)(hr:r<H.next)(A:H.get r=some (.cells a.flatten imm tip))(F:imm<=a.flatten.length)(h:dV S n H z a b):eC S (n+1) H (.sl r 0 a.length z) (.lst b):=by
 obtain⟨u,i,g,o⟩:=AZ h;refine⟨.lst u,QG.rows hS hr A F o i,fun m V=>?_⟩;obtain⟨m,rfl⟩:∃k,m=k+1:=⟨m-1,aa⟩;show AV.lst (u.map fun O=>O.map (bg m))=_;rw[<-g m aa]
theorem dV.frame{S S':Nat->Prop}(hS:∀k,S k->S' k){n z:Nat}{H H':Hp}{a b:List (List AV)}(h:dV S n H z a b)(m:H.next<=H'.next)(g:∀k,S k->k<H.next->H'.get k=H.get k):dV S' n H' z a b:=QB.mono (fun x y k=>⟨k.1,k.2.keep hS m g⟩) h
def ow:List Int->Int×List Int
 |[]=>(0,[])
 |a::l=>(a,l)
def OF(lo:Nat)(H:Hp)(r:Nat)(v:AV)(L:List Int):Prop:=(v=.lst []/\L=[])\/∃b Z M j,v=.sl b Z L.length 1/\H.get b=some (.cells M j true)/\M.drop Z=L.map (fun n=>AV.int .i64 n)/\b≠r/\b<lo
def iS(lo:Nat)(H:Hp)(r:Nat)(L:List Int)(c:Int):Prop:=r<lo/\lo<=H.next/\∃v,H.get r=some (.cells [v,.int .i64 c] 0 true)/\OF lo H r v L
theorem iS.keep{lo:Nat}{H H':Hp}{r:Nat}{L:List Int}{c:Int}(h:iS lo H r L c)(m:H.next<=H'.next)(A:∀k,k<lo->H'.get k=H.get k):iS lo H' r L c:=by
 obtain⟨z,V,v,i,g⟩:=h;refine⟨z,aa,v,by rw[A _ z];exact i,?_⟩;rcases g with g|⟨b,Z,M,j,U,O,I,K,Y⟩
 .exact .inl g
 .exact .inr ⟨b,Z,M,j,U,by rw[A _ Y];exact O,I,K,Y⟩
noncomputable def ox:{c:SC // aB 25 (Tryz.f44.body.getD .skip)=c}:=by
 refine⟨?_,?_⟩;rotate_left
 .simp only[Tryz.f44,bh,aB,Qh,Qe,Qm,Qn,Nat.blt,Nat.ble];rfl
theorem A0{cfg:Cfg}(Y:Plain cfg 44){lo:Nat}{H:Hp}{r:Nat}{L:List Int}{c:Int}(h:iS lo H r L c)(hL:L.length<2^60):
 P2 Tryz.prog cfg 44 [.ptr r 0] H fun v H'=>v=.int .i64 (ow L).1/\iS lo H' r (ow L).2 c/\H'.next=H.next/\∀k,k≠r->H'.get k=H.get k:=by
 obtain⟨O,j,v,g,h2⟩:=h;rcases h2 with⟨rfl,rfl⟩|⟨b,Z,J,U,rfl,e2,C,A,e5⟩
 .refine P4 (M:=25) (rs:=[.tmp 2]) (Y.call _) Y.ice Y.froz Tryz.func44 rfl rfl ox.2 rfl ?_;dsimp only[ox,PZ,Nat.reduceAdd];repeat' (first
   |(apply PO ?_;clear hK K)|apply Rx.o ?_|(apply a6 (fun z i=>?_) (fun z i=>?_)<;>try(cases z;done))|apply aj ?_|(apply PP fun K hK=>?_)|apply PR ?_|apply aq ?_)
  all_goals (refine⟨eI,_,P0,?_⟩;try simp only[PT])
  exact⟨jV,⟨O,j,_,g,.inl ⟨rfl,rfl⟩⟩,jV,fun _ _=>jV⟩
 .cases L with
  |nil=>
   refine P4 (M:=25) (rs:=[.tmp 2]) (Y.call _) Y.ice Y.froz Tryz.func44 rfl rfl ox.2 rfl ?_;dsimp only[ox,PZ,Nat.reduceAdd];repeat' (first
    |(apply PO ?_;clear hK K)|apply Rx.o ?_|(apply a6 (fun z i=>?_) (fun z i=>?_)<;>try(cases z;done))|apply aj ?_|(apply PP fun K hK=>?_)|apply PR ?_|apply aq ?_)
   all_goals (refine⟨eI,_,P0,?_⟩;try simp only[PT])
   exact⟨jV,⟨O,j,_,g,.inr ⟨b,Z,J,U,rfl,e2,C,A,e5⟩⟩,jV,fun _ _=>jV⟩
  |cons a L=>
   have hg:J[Z]?=some (.int .i64 a):=by
    have:=ki (fun l=>l[0]?) C;simpa using this
   have hd:J.drop (Z+1)=L.map (fun n=>AV.int .i64 n):=by
    have:=ki (List.drop 1) C;rw[List.drop_drop]at this;simpa using this
   have I:0<L.length+1:=aa;have V:RD Tryz.prog 23 (.sl b Z (L.length+1) 1) (some (.int .i64 1)) none=if L=[]then some (.lst [])else some (.sl b (Z+1) L.length 1):=by
    simp only[RD,Tryz.underlying23,fy,Rl];by_cases m:L=[]
    .subst m;rfl
    .have:0<L.length:=mB.2 m;rw[af m,az ⟨aa,aC _,trivial⟩,af aa];rfl
   have o:¬(((L.length+1:Nat):Int)=0):=aa;have hrb:(b == r)=false:=Rw A;refine P4 (M:=25) (rs:=[.tmp 2]) (Y.call _) Y.ice Y.froz Tryz.func44 rfl rfl ox.2 rfl ?_;dsimp only[ox,PZ,Nat.reduceAdd];by_cases m:L=[]
   .subst m;have hsl':RD Tryz.prog 23 (.sl b Z 1 1) (some (.int .i64 1)) none=some (.lst []):=V;have hne':¬(((1:Nat):Int)=0):=bA;have hp':0<1:=bA;clear V o I;repeat' (first
     |(apply PO ?_;clear hK K)|apply Ry.o ?_|apply bC ?_|(apply aH (fun z i=>?_) (fun z i=>?_)<;>try(cases z;done))|apply aj ?_|(apply PP fun K hK=>?_)|apply PR ?_|apply aq ?_)
    all_goals (refine⟨eI,_,P0,?_⟩;try simp only[PT])
    refine⟨jV,⟨O,j,_,dQ,.inl ⟨rfl,rfl⟩⟩,jV,fun k F=>by rw[a9,af F]⟩
   .rw[af m]at V;repeat' (first
     |(apply PO ?_;clear hK K)|apply Ry.o ?_|apply bC ?_|(apply aH (fun z i=>?_) (fun z i=>?_)<;>try(cases z;done))|apply aj ?_|(apply PP fun K hK=>?_)|apply PR ?_|apply aq ?_)
    all_goals (refine⟨eI,_,P0,?_⟩;try simp only[PT])
    refine⟨jV,⟨O,j,_,by rw[a9,az rfl];rfl,.inr ⟨b,Z+1,J,U,rfl,by rw[a9,af A];exact e2,hd,A,e5⟩⟩,jV,fun k F=>by rw[a9,af F]⟩
end
theorem Q4.keep2{S S':Nat->Prop}{n:Nat}{H H':Hp}{v w:List AV}(h:Q4 S n H v w)(hS:∀k,k<H.next->S k->S' k)(m:H.next<=H'.next)(g:∀k,S k->k<H.next->H'.get k=H.get k):Q4 S' n H' v w:=by
 obtain⟨u,i,Z⟩:=h;exact⟨u,i.mono fun a b k=>k.frame2 hS m fun q o U=>.inl (g q o U).symm,Z⟩
theorem dV.keep2{S S':Nat->Prop}{n z:Nat}{H H':Hp}{a b:List (List AV)}(h:dV S n H z a b)(hS:∀k,k<H.next->S k->S' k)(m:H.next<=H'.next)(g:∀k,S k->k<H.next->H'.get k=H.get k):dV S' n H' z a b:=QB.mono (fun x y k=>⟨k.1,k.2.keep2 hS m g⟩) h
theorem dV.len{S:Nat->Prop}{n z:Nat}{H:Hp}:∀{a b:List (List AV)},dV S n H z a b->∀x∈a,x.length=z
 |[],[],_,x,C=>by simp at C
 |y::a,w::b,h,x,C=>by
  rcases gJ.1 C with rfl|C
  .exact h.1.1
  .exact dV.len h.2 x C
def Q6(S:Nat->Prop)(n:Nat)(H:Hp)(z:Nat)(v:AV)(O:List (List AV)):Prop:=
 (v=.nilS/\O=[])\/∃q j rows,v=.sl q 0 rows.length z/\S q/\q<H.next/\H.get q=some (.cells rows.flatten j true)/\j<=rows.flatten.length/\dV (fun k=>S k/\k≠q) n H z rows O
theorem Q6.rd{S:Nat->Prop}{n:Nat}{H:Hp}{z:Nat}{v:AV}{O:List (List AV)}(h:Q6 S n H z v O):eC S (n+1) H v (.lst O):=by
 rcases h with⟨rfl,rfl⟩|⟨q,Z,rows,rfl,i,g,o,U,A⟩
 .exact .nilS
 .exact .rows i g o U (A.frame (fun k j=>j.1) (aC _) fun _ _ _=>rfl)
theorem Q6.keep{S S':Nat->Prop}{n:Nat}{H H':Hp}{z:Nat}{v:AV}{O:List (List AV)}(h:Q6 S n H z v O)(hS:∀k,k<H.next->S k->S' k)(m:H.next<=H'.next)(g:∀k,S k->k<H.next->H'.get k=H.get k):Q6 S' n H' z v O:=by
 rcases h with h|⟨q,j,rows,e,i,Z,V,U,A⟩
 .exact .inl h
 .exact .inr ⟨q,j,rows,e,hS q Z i,aa,by rw[g q i Z];exact V,U,A.keep2 (fun k Y I=>⟨hS k Y I.1,I.2⟩) m fun k o J=>g k o.1 J⟩
theorem Q6.len{P:Program}{t e:TypeId}(o:P.underlying t=some (.slice e)){S:Nat->Prop}{n:Nat}{H H':Hp}{z:Nat}{v:AV}{O:List (List AV)}(h:Q6 S n H z v O):Qr P H' t v=some (.int .i64 O.length):=by
 rcases h with⟨rfl,rfl⟩|⟨q,j,rows,rfl,i,g,Z,U,A⟩
 .exact Sa o
 .rw[RY o,show rows.length=O.length from QB.len A]
theorem Q6.push{P:Program}{t e:TypeId}{z b:Nat}{zz:List AV}(ht:P.underlying t=some (.slice e))(hs:P3 P e=some z)(i:QI P e=some b)(hz:Qx P e=some zz)(F:zz.length=z)(U:Sr P t=true)
 {lo n:Nat}{H:Hp}{v:AV}{O:List (List AV)} (h:Q6 (fun k=>lo<=k) n H z v O) (M:lo<=H.next) {r imm:Nat}{row w:List AV} (hg:H.get r=some (.cells row imm true)) (C:row.length=z) (j:row.all AV.one=true)
 (hw:Q4 (fun k=>lo<=k/\∀o m Y,v≠.sl k o m Y) n H row w) (A:(O.length+1)*b<=Rd) (L:O.length+1<=Rd) :
 ∃v' H',Rj P false H t t v (.sl r 0 1 z)=some (v',H')/\Q6 (fun k=>lo<=k) n H' z v' (O++[w])/\H'.next=H.next+1/\(∀k,k<H.next->(∀o m Y,v≠.sl k o m Y)->H'.get k=H.get k)/\∀k o m Y,v'=.sl k o m Y->k=H.next:=by
 have hx:RE H z (.sl r 0 1 z)=some (1,row):=by
  have:=nD (H:=H) (r:=r) (o:=0) (n:=1) (z:=z) (s:=z) hg vB;rw[this,eN,fF aa]
 rcases h with⟨rfl,rfl⟩|⟨q,Z,rows,rfl,h1,g,h3,h4,h5⟩
 .refine⟨.sl H.next 0 1 z,H.alloc (.cells row 0 true),append_nil ht hs i hz U hx j F kY (by simpa using L),.inr ⟨H.next,0,[row],rfl,M,dh _,by rw[P8,az rfl];simp,aA,⟨⟨C,hw.keep2 (fun k h1 g=>⟨g.1,aa⟩) (dD _) fun k h1 g=>fT⟩,trivial⟩⟩,rfl,fun k hk _=>fT,fun k o m Y e=>?_⟩;simp only[AV.sl.injEq]at e;exact e.1.symm
 .have hrl:=nE (dV.len h5);have I:rows.length=O.length:=QB.len h5;have htr:RJ false H z (.sl q 0 rows.length z)=H:=by
   unfold RJ;simp only[h3,bZ];have:Nat.blt (rows.length*z) rows.flatten.length=false:=by
    cases i:Nat.blt (rows.length*z) rows.flatten.length with
    |false=>rfl
    |true=>rw[eZ]at i;omega
   simp only[f6,ev,this,gN]
  refine⟨.sl H.next 0 (rows.length+1) z,(H.kill q).alloc (.cells (rows.flatten++row) (Z-0) true),?_,.inr ⟨H.next,Z-0,rows++[row],aA,M,dh _,?_,Au,?_⟩,rfl,fun k hk hno=>?_,fun k o m Y e=>?_⟩
  .simp only[Rj,ht,hs,i,hz,U,hx,j,htr,F,lg,cr,SH,h3,bZ,eN,b9,cC];rw[az ⟨by rw[I];exact A,by rw[I];exact L,aa,trivial,h4⟩]
  .show((H.kill q).alloc _).get (H.kill q).next=_
   rw[P8,az rfl];simp
  .have K:∀k,k<H.next->k≠q->((H.kill q).alloc (.cells (rows.flatten++row) (Z-0) true)).get k=H.get k:=fun k V J=>by rw[P8,af ja,RH,af J]
   refine QB.append (h5.keep2 (fun k V J=>⟨J.1,aa⟩) (dD _) fun k V J=>K k J V.2) ⟨⟨C,hw.keep2 (fun k V J=>⟨J.1,aa⟩) (dD _) fun k V J=>K k J fun e=>V.2 0 rows.length z i6⟩,trivial⟩
  .rw[P8,af ja,RH,af (fun e=>hno 0 rows.length z i6)]
  .simp only[AV.sl.injEq]at e;exact e.1.symm
theorem OG{z:Nat}{H:Hp}{rows:List (List AV)}(h:∀r∈rows,r.length=z):RE H z (.lst rows)=some (rows.length,rows.flatten):=by
 simp only[RE];rw[az (by rw[iB];intro r hr;simp[h r hr])]
theorem OH(m:Nat)(k:IntKind)(n:Int):bg m (.int k n)=.int k n:=by cases m<;>rfl
theorem OI{Z:Type}{f:Z->List AV}(h:∀m x,(f x).map (bg m)=f x)(l:List Z)(m:Nat):bg m (.lst (l.map f))=.lst (l.map f):=by
 cases m with
 |zero=>rfl
 |succ m=>
  simp only[bg,nt];have:(fun O=>List.map (bg m) O) ∘ f=f:=funext fun y=>h m y;rw[this]
theorem A1(l:List Int)(m:Nat):bg m (.lst (l.map fun n=>[AV.int .i64 n]))=.lst (l.map fun n=>[AV.int .i64 n]):=OI (f:=fun n:Int=>[AV.int .i64 n]) (fun m x=>by simp only[dS,n0,OH]) l m
theorem eC.agg{S:Nat->Prop}{n:Nat}{H:Hp}{cs O:List AV}(h:Q4 S n H cs O):eC S (n+1) H (.agg cs) (.agg O):=by
 obtain⟨M,i,g⟩:=h;refine⟨.agg M,⟨M,i,rfl⟩,fun m V=>?_⟩;obtain⟨m,rfl⟩:∃k,m=k+1:=⟨m-1,aa⟩;show AV.agg (M.map (bg m))=_;rw[g m aa]
theorem vR{S:Nat->Prop}{n:Nat}{H:Hp}{q imm:Nat}{tip:Bool}(l:List Int)(hS:S q)(I:q<H.next)(A:H.get q=some (.cells (l.map fun n=>.int .i64 n) imm tip))(F:imm<=l.length):eC S (n+2) H (.sl q 0 l.length 1) (.lst (l.map fun n=>[.int .i64 n])):=by
 have g:(l.map fun n=>[AV.int .i64 n]).flatten=l.map fun n=>AV.int .i64 n:=by
  clear A F;induction l with
  |nil=>rfl
  |cons a l ih=>rw[dS,ju,ih];rfl
 have hr:∀l:List Int,dV S (n+1) H 1 (l.map fun n=>[AV.int .i64 n]) (l.map fun n=>[AV.int .i64 n]):=fun l=>by
  induction l with
  |nil=>trivial
  |cons a l ih=>exact⟨⟨rfl,.cons (.int _ _) .nil⟩,ih⟩
 have:=eC.rows (n:=n+1) (a:=l.map fun n=>[AV.int .i64 n]) (imm:=imm) (tip:=tip) hS I (by rw[g];exact A) (by rw[g,cS];exact F) (hr l);rw[cS]at this;exact this
theorem vT{cfg:Cfg}(fit:Fit Tryz.prog){ρ:Nat->Int}(F:hM cfg.dec ρ)(V:∀f Y r,cfg.call f Y=some r->aX Tryz.prog ρ f Y r){g:FuncId}{Y:List AV}{r:AV}{n:Nat}
 (Z:RB Y) (h:P2 Tryz.prog cfg g Y Qv fun v H'=>∃m u,iceV H' m v=some u/\bg n u=r):aX Tryz.prog ρ g Y r:=by
 unfold P2 at h;obtain⟨v,H',i,m,u,U,o⟩:=h;refine rX n (SY (m:=m) fit F V Z ?_) o;unfold P2;exact⟨v,H',i,U⟩
theorem A2{z:Nat}:∀{rows:List (List AV)}{i:Nat}{r:List AV},(∀x∈rows,x.length=z)->rows[i]?=some r->rows.flatten.drop (i*z)=r++(rows.drop (i+1)).flatten
 |[],i,r,_,e=>by simp at e
 |a::rows,0,r,h,e=>by
  simp only[pK,au]at e;subst e;simp
 |a::rows,i+1,r,h,e=>by
  have K:=h a et;have ih:=A2 (rows:=rows) (i:=i) (r:=r) (fun x C=>h x (ft _ C)) (by simpa using e);have Z:(i+1)*z=a.length+i*z:=by rw[kZ,K];omega
  rw[ju,Z,Aw,ih];rfl
theorem A3{z:Nat}{w:List AV}(L:w.length=z):∀{rows:List (List AV)}{i:Nat},(∀x∈rows,x.length=z)->i<rows.length->splice rows.flatten (i*z) w=(rows.set i w).flatten
 |[],i,_,e=>by simp at e
 |a::rows,0,h,e=>by
  have K:=h a et;simp only[splice,pc,Av,e6,bZ,ju,uY];rw[qV aa,tq aa,e6]
 |a::rows,i+1,h,e=>by
  have K:=h a et;have ih:=A3 L (rows:=rows) (i:=i) (fun x C=>h x (ft _ C)) (by simpa using e);simp only[splice,ju,List.set_cons_succ]at ih⊢;have Z:(i+1)*z=a.length+i*z:=by rw[kZ,K];omega
  rw[Z,List.take_length_add_append,fo,Aw,iz,iz];rw[iz]at ih;rw[ih]
theorem OJ{z:Nat}{rows:List (List AV)}{i:Nat}{r:List AV}(h:∀x∈rows,x.length=z)(e:rows[i]?=some r):QW z (rows.flatten.drop (i*z))=some (.agg r):=by
 have hr:=h r (jv e);rw[A2 h e];unfold QW;rw[qL aa,fF aa,az hr]
theorem OK{P:Program}{t e:TypeId}{z b:Nat}{J:List AV}(o:P.underlying t=some (.slice e))(K:P3 P e=some z)(Z:QI P e=some b)(L:Qx P e=some J)(F:J.length=z)(U:Sr P t=true)
 {H:Hp}{q:Nat} (O:H.get q=some (.cells [] 0 true)) (hq:q<H.next) {rows:List (List AV)} (hr:∀x∈rows,x.length=z) (j:rows.flatten.all AV.one=true) (A:rows.length*b<=Rd) (C:rows.length<=Rd) :
 ∃Y H',Rj P false H t t (.sl q 0 0 z) (.lst rows)=some (.sl Y 0 rows.length z,H')/\H'.get Y=some (.cells rows.flatten 0 true)/\(Y=q\/Y=H.next)/\Y<H'.next/\H.next<=H'.next/\H'.next<=H.next+1/\∀k,k<H.next->k≠q->H'.get k=H.get k:=by
 have V:RE H z (.lst rows)=some (rows.length,rows.flatten):=OG hr;by_cases g:rows=[]
 .subst g;refine⟨q,H,?_,O,.inl rfl,hq,aC _,dD _,fun _ _ _=>rfl⟩;simp only[iX]at V;simp only[Rj,o,K,Z,L,U,V,iX]
 .obtain⟨m,I⟩:∃m,rows.length=m+1:=⟨rows.length-1,by have:=mB.2 g;omega⟩;have M:RJ false H z (.sl q 0 0 z)=H:=by
   unfold RJ;simp only[O];have:Nat.blt (0+0*z) ([]:List AV).length=false:=by
    cases Z:Nat.blt (0+0*z) ([]:List AV).length with
    |false=>rfl
    |true=>rw[eZ]at Z;simp at Z
   simp only[this,u0,gN]
  refine⟨H.next,(H.kill q).alloc (.cells rows.flatten 0 true),?_,?_,.inr rfl,dh _,dD _,aC _,fun k hk i=>?_⟩
  .rw[I]at V A C;simp only[Rj,o,K,Z,L,U,V,j,M,F,lg,cr,SH,O,bZ,pc,List.drop_nil,b9,cC];rw[az ⟨kY,oV,aA,trivial,aA⟩,I];simp
  .show((H.kill q).alloc _).get (H.kill q).next=_
   rw[P8,az rfl]
  .rw[P8,af ja,RH,af i]
theorem OL{P:Program}{t z q i:Nat}{tip:Bool}{H:Hp}{rows:List (List AV)}{w:List AV}(K:P3 P t=some z)(A:H.get q=some (.cells rows.flatten 0 tip))(C:∀x∈rows,x.length=z)(F:i<rows.length)(L:w.length=z)(Z:w.all AV.one=true):RT P H t (.ptr q (i*z)) (.agg w)=some (H.set q (.cells (rows.set i w).flatten 0 tip)):=by
 have I:=nE C;have Y:i*z+z<=rows.flatten.length:=by
  rw[I];have:(i+1)*z<=rows.length*z:=nr z F;rw[kZ]at this;exact this
 simp only[RT,A,K];show(if w.length=z/\0<=i*z/\i*z+z<=rows.flatten.length/\w.all AV.one=true then some (H.set q (.cells (splice rows.flatten (i*z) w) 0 tip))else none)=_;rw[az ⟨L,ca _,Y,Z⟩,A3 L C F]
theorem A4(a:Int):jn Tryz.prog 25 [(0,.int .i64 a)]=some (.agg [.int .i64 a,.int .i64 0,.nilS]):=ad
theorem A5(a b:Int):jn Tryz.prog 25 [(0,.int .i64 a),(1,.int .i64 b)]=some (.agg [.int .i64 a,.int .i64 b,.nilS]):=ad
theorem A6(H:Hp):Rs Tryz.prog H 26 3 [(0,.agg [.int .i64 2,.int .i64 0,.nilS]),(1,.agg [.int .i64 2,.int .i64 1,.nilS]),(2,.agg [.int .i64 26,.int .i64 0,.nilS])]=some (.sl H.next 0 3 3,H.alloc (.cells [.int .i64 2,.int .i64 0,.nilS,.int .i64 2,.int .i64 1,.nilS,.int .i64 26,.int .i64 0,.nilS] 0 true)):=ad
theorem A7{O:Type}{s:List O}(h:s.length=3):∃a b c,s=[a,b,c]:=by
 match s,h with
 |[a,b,c],_=>exact⟨a,b,c,rfl⟩
theorem sT(H:Hp){cs:List AV}(I:cs.length=3)(U:cs.all AV.one=true):Rs Tryz.prog H 26 1 [(0,.agg cs)]=some (.sl H.next 0 1 3,H.alloc (.cells cs 0 true)):=by
 obtain⟨a,b,c,rfl⟩:=A7 I;kernel_rfl
theorem vU(a b c:AV):QW 3 [a,b,c]=some (.agg [a,b,c]):=rfl
theorem OM(H:Hp):Rs Tryz.prog H 23 5 [(0,.int .i64 23),(1,.int .i64 27),(2,.int .i64 28),(3,.int .i64 29),(4,.int .i64 24)]=some (.sl H.next 0 5 1,H.alloc (.cells [.int .i64 23,.int .i64 27,.int .i64 28,.int .i64 29,.int .i64 24] 0 true)):=ad
theorem dV.icyB{S:Nat->Prop}{n z:Nat}{H H':Hp}{a b:List (List AV)}(h:dV S n H z a b)(m:H.next<=H'.next)(g:∀k,S k->k<H.next->RN (H.get k) (H'.get k)):dV S n H' z a b:=QB.mono (fun x y k=>⟨k.1,k.2.frame (fun _ q=>q) m g⟩) h
theorem Q6.icyB{S:Nat->Prop}{n:Nat}{H H':Hp}{z:Nat}{v:AV}{O:List (List AV)}(h:Q6 S n H z v O)(m:H.next<=H'.next)(g:∀k,S k->k<H.next->RN (H.get k) (H'.get k)):Q6 S n H' z v O:=by
 rcases h with h|⟨q,Y,rows,e,U,K,o,M,A⟩
 .exact .inl h
 .have V:=A.icyB m fun k L I=>g k L.1 I;rcases g q U K with Z|⟨cs,i,j,J,Z,F,C⟩
  .exact .inr ⟨q,Y,rows,e,U,aa,by rw[<-Z];exact o,M,V⟩
  .rw[o]at Z;simp only[au,HB.cells.injEq]at Z;obtain⟨rfl,rfl,rfl⟩:=Z;exact .inr ⟨q,j,rows,e,U,aa,F,C M,V⟩
theorem mR{S:Nat->Prop}{H:Hp}(op imm:Int):Q4 S 2 H [.int .i64 op,.int .i64 imm,.nilS] (Nd.mk op imm []).cells:=.cons (.int _ _) (.cons (.int _ _) (.cons .nilS .nil))
theorem vV{S:Nat->Prop}{H:Hp}{kv:AV}{kids:List Int}{lo:Nat}(op imm:Int)(j:QL H kv kids lo)(hS:∀k,lo<=k->S k):Q4 S 2 H [.int .i64 op,.int .i64 imm,kv] (Nd.mk op imm kids).cells:=by
 refine .cons (.int _ _) (.cons (.int _ _) (.cons ?_ .nil));rcases j with⟨rfl,rfl⟩|⟨r,i,rfl,g,o,U,A⟩
 .exact .nilS
 .exact vR kids (hS r U) A g o
end Go.Proofs.YtljebeflbbgibaaGreat
