/-
  The Go function fullinglaw8.LowerGuards returns true whatever its two arguments are, and leaves all memory that was there as it was. Conditions: none.
-/
import Derived.OpenShut
import Derived.ProofKit
import Derived.Test.YtbflaciihaijgaaGEP
import Derived.WalkKit
set_option linter.all false
set_option maxHeartbeats 32000000
namespace Go.Ab
set_option maxRecDepth 20000
open Go
variable{qd:Prop}
def C5(h:qd:=by rw[List.drop_zero];omega):=h
def wB(h:qd:=by simp only[aM,Nat.reduceBEq, *];exact gp (n:=g.aP.length) ac ac):=h
def C6:=@Go.trodAll_cons_mk
end Go.Ab
namespace Go.Proofs.Ytbflaciihaijgaa.lowerGuards
set_option maxRecDepth 20000
open Go Go.Ab Proofs.Try
def tyLowerGuards.tyF:=ad @ef (ad @cJ (ad @oG (ad @cM (ad @jH (ad @kQ (ad @ER (ad @ET (ad @lT (ad @Bu (ad @vD (ad @Bw (ad @kR (ad @fW (ad @lU (ad @kS (@BC))))))))))))))))
open tyLowerGuards Go.ChangeShapes Go.WideShapes Go.ChangeAt Go.RowKit
def own:ownKnob prog.godebug=none:=aF
noncomputable def KD:{c:SC // aG 127 (f4.body.getD .skip)=c}:=by
 refine⟨?_,?_⟩;rotate_left
 .simp only[f4,bK,aG,bF,bw,bH,bI,Nat.blt,Nat.ble];rfl
def KE(s:qn):Prop:=sZ s/\∃p,j8 (jy s) 500 500 0 [] []=some p
def s6(s:qn):Pr:=(j8 (jy s) 500 500 0 [] []).getD ⟨[],[]⟩
noncomputable def KF:En:=⟨10,false,dA KE (fun s=>[.ag s]) fun s=>.aO [.agg (s6 s).cells,.agg [.int .i64 0,.int .i64 0]]⟩
def We(ρ:Nat->Int):eu prog ρ KF:=eY fun x ⟨o,p,m⟩=>by
 have e:s6 x=p:=by unfold s6;rw[m];rfl
 rw[e];exact VA ρ x o aZ m
noncomputable def KG:En:=⟨12,false,fun C=>rH knLEx.list 12 C⟩
def Wf(ρ:Nat->Int):eu prog ρ KG:=fun C r hr=>xw (knLEx.ok ρ) _ C r hr
noncomputable def n0:qs:=[BS,KF,KA,KG]
def Wg(ρ:Nat->Int):iN prog ρ n0:=⟨Ro ρ,We ρ,V9 ρ,Wf ρ,trivial⟩
theorem Wh(H:Hp):aX prog (aK pls n0) 12 [] H fun v H'=>v=.bool true/\H'=H:=FK rfl
theorem Wi(a b:AV):Ab.extract (.aO [a,b]) 0=some a:=rfl
theorem Wj(a b:AV):Ab.extract (.aO [a,b]) 1=some b:=rfl
def KH(H:Hp)(n:Int):ec prog H 38 1 [(0,.int .u8 n)]=some (.sl H.next 0 1 1,H.alloc (.cells [.int .u8 n] 0 true)):=aF
theorem KI(H:Hp)(n:Int):fB prog (H.alloc (.cells [.int .u8 n] 0 true)) 38 9 (.sl H.next 0 1 1)=some (.ag [UInt8.ofNat n.toNat]):=by
 unfold fB;rw[underlying38,underlying9];simp only[underlying5,eF,aJ,aB];rfl
def Wk(c:Int)(x:Nd)(l:qz):mp c (x::l)=(if x.op=27/\x.aY=c then 1 else 0)+mp c l:=by
 unfold mp;rw[zm];by_cases h:x.op=27/\x.aY=c
 .rw[aB (by simp[h]),aB h,cy];omega
 .rw[ao fQ,ao h];omega
def Wl(x:Nd)(l:qz):ru (x::l)=(if x.op=28 then 1 else 0)+ru l:=by
 unfold ru;rw[zm];by_cases h:x.op=28
 .rw[aB (by simp[h]),aB h,cy];omega
 .rw[ao fQ,ao h];omega
def Wr(c:Int)(l:qz):mp c l<=l.length:=zn _ _
def Wt(l:qz):ru l<=l.length:=zn _ _
theorem C7:∀i,(nY i).length<=26+20*i
 |0=>by decide
 |i+1=>by have:=C7 i;simp only[nY,em,cy,fP];omega
theorem C8(d:Nat):∀i,(mo d i).length<=26+20*d+20*i
 |0=>by have:=C7 d;simp only[mo];omega
 |i+1=>by have:=C8 d i;simp only[mo,em,cy,fP];omega
def s7{x y:qn}(h:x.length+y.length<10000)(D:BinOp->Sx->Sx->qA)(t:TypeId):dw prog D .add t (.ag x) (.ag y)=some (.ag (x++y)):=by
 show(if x.length+y.length<=cX then some (AV.ag (x++y))else none)=_;rw[aB CR]
set_option maxRecDepth 100000 in
theorem law(a b:Int):aX prog (aK pls n0) 4 [.int .i64 a,.int .i64 b] bE fun v _=>v=.bool true:=by
 have hw:zaa (aK pls n0) 4:=dK (fun _=>rfl) rfl;have kp:∀(n:Int) (H:Hp),aX prog (aK pls n0) 8 [.int .i64 n,.int .i64 5] H fun v H'=>v=.int .i64 (kX n 5)/\H'=H:=fun n H=>Rp (fun _=>rfl) n 5 aZ H;have ra:=Gn (n:=a) (m:=5) aZ aZ;have rb:=Gn (n:=b) (m:=5) aZ aZ;obtain⟨D,hD⟩:∃D:Nat,kX a 5=(D:Int):=⟨(kX a 5).toNat,ac⟩;obtain⟨N,hN⟩:∃N:Nat,kX b 5=(N:Int):=⟨(kX b 5).toNat,ac⟩;rw[hD]at ra;rw[hN]at rb;obtain⟨p,g,hq⟩:=Wd (d:=D) (n:=N) ac ac;have kpa:∀H,aX prog (aK pls n0) 10 [.ag (nZ D N)] H fun v H'=>v=.aO [.agg p.cells,.agg [.int .i64 0,.int .i64 0]]/\H'=H:=fun H=>by
  have:aX prog (aK pls n0) 10 [.ag (nZ D N)] H fun v H'=>v=.aO [.agg (s6 (nZ D N)).cells,.agg [.int .i64 0,.int .i64 0]]/\H'=H:=ev (enc:=fun s:qn=>[.ag s]) (ok:=KE) (out:=fun s=>.aO [.agg (s6 s).cells,.agg [.int .i64 0,.int .i64 0]]) (fun x y h=>fQ) (x:=nZ D N) rfl ⟨hq.sc,p,hq.tp⟩;have e:s6 (nZ D N)=p:=by unfold s6;rw[hq.tp];rfl
  rw[e]at this;exact this
 obtain⟨u,hu⟩:∃u,u=(kw p).1:=⟨_,rfl⟩;have kl:∀H,aX prog (aK pls n0) 11 [.agg p.cells] H fun v H'=>v=.aO [.agg u.cells,.int .i64 0]/\H'=H:=fun H=>by
  have:aX prog (aK pls n0) 11 [.agg p.cells] H fun v H'=>v=.aO [.agg (kw p).1.cells,.int .i64 (kw p).2]/\H'=H:=ev (enc:=ey) (ok:=zat) (out:=fun p=>.aO [.agg (kw p).1.cells,.int .i64 (kw p).2]) pO (x:=p) rfl hq.lw;rw[hq.e0,<-hu]at this;exact this
 have hfs:u.funcs=[g]:=by rw[hu];exact hq.fs
 have hlf:u.funcs.length=1:=by rw[hfs];rfl
 have hgf:u.funcs[0]?=some g:=by rw[hfs];rfl
 have hln:=hq.ln;have hc1:=hq.c1;have hc2:=hq.c2;have hc3:=hq.c3;clear hq hu hfs;refine bA (M:=127) (rs:=[.tmp 4]) (hw.call _) hw.aF hw.ak func4 rfl rfl KD.2 rfl ?_;dsimp only[KD,bt,Nat.reduceAdd];repeat' (first
  |(apply aj ?_;clear hK K)|apply Rx.o ?_|(apply mK ?_;first|refine Rx.k (kp _ _) ?_)|apply ai ?_|(apply ah fun K hK=>?_)|apply aq ?_|apply am ?_|apply au ?_|apply aw ?_)
 refine dz [5,6] [] 8 D (fun i E H=>E.at 7=.ag (nY i)) eE eE ?_;rintro i E H2 hi o hrH hnH hsI k7;(try simp only[bN,bO,bu,aM,a0,Nat.reduceBEq,Nat.reduceAdd,Nat.reduceLeDiff,tyF, *]at o);(try simp only[bN,bO,bu,aM,a0,Nat.reduceBEq,Nat.reduceAdd,Nat.reduceLeDiff,tyF, *]at hrH);(try simp only[bj,bJ,cL,bX,Nat.reduceAdd]at hnH);by_cases hlt:i<D
 .have z:(i:Int)<(D:Int):=by omega
  have e1:IntKind.wrap .i64 (49+(i:Int))=((49+i:Nat):Int):=ei;have e2:IntKind.wrap .u8 ((49+i:Nat):Int)=((49+i:Nat):Int):=by show((49+i:Nat):Int)%256=_;omega
  have hl0:=C7 i;have x1:=s7 (x:=nY i) (y:=[111,117,116,32,120,32,47,32,40,121,32,43,32]) yK;have x2:=s7 (x:=nY i++[111,117,116,32,120,32,47,32,40,121,32,43,32]) (y:=[UInt8.ofNat (49+i)]) nK;have x3:=s7 (x:=(nY i++[111,117,116,32,120,32,47,32,40,121,32,43,32])++[UInt8.ofNat (49+i)]) (y:=[41,59,32]) nK;have x4:∀H:Hp,fB prog (H.alloc (.cells [.int .u8 ((49+i:Nat):Int)] 0 true)) 38 9 (.sl H.next 0 1 1)=some (.ag [UInt8.ofNat (49+i)]):=fun H=>KI H _;clear hl0;have gh0:=@KH;repeat' (first
   |(apply aj ?_;clear hK K)|apply Ry.o ?_|apply bq ?_|(apply bS (fun Z C=>?_) (fun Z C=>?_)<;>try(cases Z;done))|(apply aY (fun Y L=>?_) (fun Y L=>?_)<;>try(cases Y;done))|apply ai ?_|(apply ah fun K hK=>?_)|apply aq ?_|apply am ?_|apply au ?_|apply aw ?_)
  refine⟨ac,bm,bm,cN,(by simp only[aM,Nat.reduceBEq, *];exact gp (n:=D) ac ac),?_⟩;rw[nY];exact eE
 have hid:i=D:=ac;have z:¬(i:Int)<(D:Int):=ac;rw[hid]at k7;clear hid;repeat' (first
  |(apply aj ?_;clear hK K)|apply Ry.o ?_|apply bq ?_|(apply bS (fun Z C=>?_) (fun Z C=>?_)<;>try(cases Z;done))|(apply aY (fun Y L=>?_) (fun Y L=>?_)<;>try(cases Y;done))|apply ai ?_|(apply ah fun K hK=>?_)|apply aq ?_|apply am ?_|apply au ?_|apply aw ?_)
 clear z hlt;refine dz [5,6] [] 9 N (fun i E H=>E.at 7=.ag (mo D i)) eE (show _=AV.ag (nY D)from eE) ?_;rintro i E H3 hi o hrH hnH hsI k7;(try simp only[bN,bO,bu,aM,a0,Nat.reduceBEq,Nat.reduceAdd,Nat.reduceLeDiff,tyF, *]at o);(try simp only[bN,bO,bu,aM,a0,Nat.reduceBEq,Nat.reduceAdd,Nat.reduceLeDiff,tyF, *]at hrH);(try simp only[bj,bJ,cL,bX,Nat.reduceAdd]at hnH);by_cases hlt:i<N
 .have z:(i:Int)<(N:Int):=by omega
  have e1:IntKind.wrap .i64 (49+(i:Int))=((49+i:Nat):Int):=ei;have e2:IntKind.wrap .u8 ((49+i:Nat):Int)=((49+i:Nat):Int):=by show((49+i:Nat):Int)%256=_;omega
  have hl0:=C8 D i;have x1:=s7 (x:=mo D i) (y:=[97,91,120,32,43,32]) yK;have x2:=s7 (x:=mo D i++[97,91,120,32,43,32]) (y:=[UInt8.ofNat (49+i)]) nK;have x3:=s7 (x:=(mo D i++[97,91,120,32,43,32])++[UInt8.ofNat (49+i)]) (y:=[93,32,61,32,121,59,32]) nK;have x4:∀H:Hp,fB prog (H.alloc (.cells [.int .u8 ((49+i:Nat):Int)] 0 true)) 38 9 (.sl H.next 0 1 1)=some (.ag [UInt8.ofNat (49+i)]):=fun H=>KI H _;clear hl0;have gh0:=@KH;repeat' (first
   |(apply aj ?_;clear hK K)|apply Ry.o ?_|apply bq ?_|(apply bS (fun Z C=>?_) (fun Z C=>?_)<;>try(cases Z;done))|(apply aY (fun Y L=>?_) (fun Y L=>?_)<;>try(cases Y;done))|apply ai ?_|(apply ah fun K hK=>?_)|apply aq ?_|apply am ?_|apply au ?_|apply aw ?_)
  refine⟨ac,bm,bm,cN,(by simp only[aM,Nat.reduceBEq, *];exact gp (n:=N) ac ac),?_⟩;rw[mo];exact eE
 have hid:i=N:=ac;have z:¬(i:Int)<(N:Int):=ac;rw[hid]at k7;clear hid;have hl0:=C8 D N;have x1:=s7 (x:=mo D N) (y:=[114,101,116,117,114,110,32,48,59,32,125]) yK;clear hl0;have kpa2:∀H,aX prog (aK pls n0) 10 [.ag (mo D N++[114,101,116,117,114,110,32,48,59,32,125])] H fun v H'=>v=.aO [.agg p.cells,.agg [.int .i64 0,.int .i64 0]]/\H'=H:=kpa;have n3:H3.next=H3.next:=rfl
 have gh0:=@Wi;have gh1:=@Wj;repeat' (first
  |(apply aj ?_;clear hK K)|apply Ry.o ?_|apply bq ?_|(apply ch ?_;first|refine Rx.k (kpa2 _) ?_|refine Rx.k (kl _) ?_)|(apply bS (fun Z C=>?_) (fun Z C=>?_)<;>try(cases Z;done))|(apply aY (fun Y L=>?_) (fun Y L=>?_)<;>try(cases Y;done))|apply ai ?_|(apply ah fun K hK=>?_)|apply aq ?_|apply am ?_|apply au ?_|apply aw ?_)
 refine dz [5,6,79,80] [] 81 g.aP.length (fun j E H=>∃U O I:Nat,E.at 14=.int .i64 (U:Int)/\E.at 15=.int .i64 (O:Int)/\E.at 16=.int .i64 (I:Int)/\U+mp 1 (g.aP.drop j)=D/\O+mp 2 (g.aP.drop j)=N/\I+ru (g.aP.drop j)=N) eE ⟨0,0,0,eE,eE,eE,C5,C5,C5⟩ ?_;clear hc1 hc2 hc3 kpa kpa2 kl kp x1 k7;rintro j E3 H3 hj o hrH hnH hsI ⟨U,O,I,k14,k15,k16,J,W,V⟩;(try simp only[bN,bO,bu,aM,a0,Nat.reduceBEq,Nat.reduceAdd,Nat.reduceLeDiff,tyF, *]at o);(try simp only[bN,bO,bu,aM,a0,Nat.reduceBEq,Nat.reduceAdd,Nat.reduceLeDiff,tyF, *]at hrH);(try simp only[bj,bJ,cL,bX,Nat.reduceAdd]at hnH);by_cases hjt:j<g.aP.length
 .have hjt':(j:Int)<g.aP.length:=by omega
  have gx:g.aP[j]?=some g.aP[j]:=bc hjt;rw[eM hjt,Wk]at J W;rw[eM hjt,Wl]at V;generalize g.aP[j]=n at *;by_cases h27:n.op=27
  .rw[ao (by rw[h27];decide)]at V;by_cases hi1:n.aY=1
   .rw[aB ⟨h27,hi1⟩]at J;rw[ao (fun h=>by have:=h.2;omega)]at W;have dM:IntKind.wrap .i64 ((U:Int)+1)=((U+1:Nat):Int):=ei;repeat' (first
     |(apply aj ?_;clear hK K)|apply Ry.o ?_|apply bq ?_|(apply bS (fun Z C=>?_) (fun Z C=>?_)<;>try(cases Z;done))|(apply aY (fun Y L=>?_) (fun Y L=>?_)<;>try(cases Y;done))|apply ai ?_|(apply ah fun K hK=>?_)|apply aq ?_|apply am ?_|apply au ?_|apply aw ?_)
    refine⟨ac,bm,bm,cN,wB,?_⟩;exact⟨U+1,O,I,eE,eE,eE,ac,ac,ac⟩
   rw[ao (fun h=>hi1 h.2)]at J;by_cases hi2:n.aY=2
   .rw[aB ⟨h27,hi2⟩]at W;have w2:IntKind.wrap .i64 ((O:Int)+1)=((O+1:Nat):Int):=ei;repeat' (first
     |(apply aj ?_;clear hK K)|apply Ry.o ?_|apply bq ?_|(apply bS (fun Z C=>?_) (fun Z C=>?_)<;>try(cases Z;done))|(apply aY (fun Y L=>?_) (fun Y L=>?_)<;>try(cases Y;done))|apply ai ?_|(apply ah fun K hK=>?_)|apply aq ?_|apply am ?_|apply au ?_|apply aw ?_)
    refine⟨ac,bm,bm,cN,wB,?_⟩;exact⟨U,O+1,I,eE,eE,eE,ac,ac,ac⟩
   rw[ao (fun h=>hi2 h.2)]at W;repeat' (first
    |(apply aj ?_;clear hK K)|apply Ry.o ?_|apply bq ?_|(apply bS (fun Z C=>?_) (fun Z C=>?_)<;>try(cases Z;done))|(apply aY (fun Y L=>?_) (fun Y L=>?_)<;>try(cases Y;done))|apply ai ?_|(apply ah fun K hK=>?_)|apply aq ?_|apply am ?_|apply au ?_|apply aw ?_)
   refine⟨ac,bm,bm,cN,wB,?_⟩;exact⟨U,O,I,eE,eE,eE,ac,ac,ac⟩
  rw[ao (fun h=>h27 h.1)]at J W;by_cases h28:n.op=28
  .rw[aB h28]at V;have w3:IntKind.wrap .i64 ((I:Int)+1)=((I+1:Nat):Int):=ei;repeat' (first
    |(apply aj ?_;clear hK K)|apply Ry.o ?_|apply bq ?_|(apply bS (fun Z C=>?_) (fun Z C=>?_)<;>try(cases Z;done))|(apply aY (fun Y L=>?_) (fun Y L=>?_)<;>try(cases Y;done))|apply ai ?_|(apply ah fun K hK=>?_)|apply aq ?_|apply am ?_|apply au ?_|apply aw ?_)
   refine⟨ac,bm,bm,cN,wB,?_⟩;exact⟨U,O,I+1,eE,eE,eE,ac,ac,ac⟩
  rw[ao h28]at V;repeat' (first
   |(apply aj ?_;clear hK K)|apply Ry.o ?_|apply bq ?_|(apply bS (fun Z C=>?_) (fun Z C=>?_)<;>try(cases Z;done))|(apply aY (fun Y L=>?_) (fun Y L=>?_)<;>try(cases Y;done))|apply ai ?_|(apply ah fun K hK=>?_)|apply aq ?_|apply am ?_|apply au ?_|apply aw ?_)
  refine⟨ac,bm,bm,cN,wB,?_⟩;exact⟨U,O,I,eE,eE,eE,ac,ac,ac⟩
 .have hjt':¬(j:Int)<g.aP.length:=by omega
  rw[nG ac]at J W V;have f1:U=D:=by simpa [mp]using J
  have f2:O=N:=by simpa [mp]using W
  have f3:I=N:=by simpa [ru]using V
  have g1:(U:Int)=D:=ac;have g2:(O:Int)=N:=ac;have g3:(I:Int)=N:=ac;clear f1 f2 f3 J W V;repeat' (first
   |(apply aj ?_;clear hK K)|apply Ry.o ?_|apply bq ?_|(apply ch ?_;first|refine Rx.k (Wh _) ?_)|(apply bS (fun Z C=>?_) (fun Z C=>?_)<;>try(cases Z;done))|(apply aY (fun Y L=>?_) (fun Y L=>?_)<;>try(cases Y;done))|apply ai ?_|(apply ah fun K hK=>?_)|apply aq ?_|apply am ?_|apply au ?_|apply aw ?_)
  all_goals refine qq ?_
  all_goals trivial
def Wm(a b:Int):cp prog (fun _=>0) 4 [.int .i64 a,.int .i64 b] (.bool true):=
 fI fit (pls:=pls) (Wg _) (.cons (.int _ _) (.cons (.int _ _) .nil)) (.bool _) (law a b)
def Wn(iU:Int)(J:Int)(Y:(Lit.int .i64 iU).wf=true)(dM:(Lit.int .i64 J).wf=true)(w:World):
 Calls prog 4 #[.int .i64 iU,.int .i64 J] w fun e L=>e=.returned (.bool true)/\Below w.heap.size w L:=
 Mj (ρ:=fun _=>0) (F:=fun _ _=>none) (Wm iU J) (fun _ _ _ h=>jk) (lG (.int .i64 iU) (lG (.int .i64 J) (m0 _)))
set_option maxRecDepth 100000 in
theorem Wo(I:Os)(U:I.Started)(H:Type)(enc:TypeId×Value->H):
 ReturnsInHanded {} checked I 4 .any (Rows.lowerGuardsSpec.pre6 enc prog f4 Rows.lowerGuardsRow.domain false) (Rows.lowerGuardsSpec.post enc prog f4 false true false false):=by
 refine returnsInHanded_of_change (C:=checked) own U aF func4
  (ChangeSpec.witness6 (enc:=enc) (C:=checked) false ⟨#[],#[.int .i64 0,.int .i64 0],[]⟩ 8 aF aF aF aF) ?_
 intro W L Z ds gs O M o m _;have V:∀(j:Nat) t v,f4.params[j]?=some t->Z[j]?=some v->Value.okWide prog W .any L t v:=M;have z:=o;obtain⟨p,q,Y,hV,rfl,hfz,hnd⟩:=o;have hA:DataW.TrodAll enc prog W 0 (fun _=>true) true f4.params.toList Z.toList ds p:=Y;rw[params4]at hA V;obtain⟨v0,vs0,d0,ds0,p0,q0,J,rfl,rfl,h0,bG⟩:=trodAll_cons hA;obtain⟨v1,vs1,d1,ds1,p1,q1,rfl,rfl,rfl,h1,r1⟩:=trodAll_cons bG;obtain⟨rfl,rfl,rfl⟩:=trodAll_nil r1;obtain rfl:Z=#[v0,v1]:=by cases Z;simp_all
 obtain⟨rfl,rfl⟩:=trodVars_none hV;obtain⟨iU,rfl,rfl,rfl,w0⟩:=open_int underlying3 (V 0 3 v0 rfl rfl) h0;obtain⟨a1,rfl,rfl,rfl,dM⟩:=open_int underlying3 (V 1 3 v1 rfl rfl) h1;clear Y M;simp only[ij]at z;refine(Wn iU a1 w0 dM W).mono fun e W' ⟨he,hg⟩=>?_;subst he;exact⟨_,rfl,Mn (pa:=[]) (pv:=[]) z (fun _ _ _=>(C6 (shut_bool underlying4 _) trodAll_mk0)) (fun sp _=>(C6 (shut_int underlying3 w0) (C6 (shut_int underlying3 dM) trodAll_mk0))) (fun _ _=>rfl) rfl
  hg (ok_one aF rfl (okWide_bool_mk underlying4 _))⟩
def over:Rows.lowerGuardsRow.holds Try.pinned (OpenSpec.ofChange Rows.lowerGuardsSpec):=
 OpenClaim.holds_of_wide 4 f4 rfl rfl rfl rfl rfl rfl rfl ⟨rfl,rfl,rfl,rfl,rfl⟩ rfl rfl rfl rfl rfl aF func4 aF
  (p8 aF) (by unfold Func.isWrapper;first|(rw[aB (by decide +kernel)];kernel_rfl)|(rw[ao (by decide +kernel)];exact⟨rfl,rfl⟩))
  (fun O U H enc _=>Wo O U H enc)
def proved:Rows.LowerGuardsSaid:=
 over
#print axioms proved
end Go.Proofs.Ytbflaciihaijgaa.lowerGuards
