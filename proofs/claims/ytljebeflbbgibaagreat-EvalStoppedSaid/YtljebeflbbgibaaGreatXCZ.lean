/-
  The Go function fullinglaw9.EvalStopped returns true whatever its arguments are, and leaves all memory that was there as it was. Conditions: none.
-/
import Derived.OpenShut
import Derived.ProofKit
import Derived.Test.YtljebeflbbgibaaGreatXCQ
import Derived.WalkKit
set_option linter.unusedSimpArgs false
set_option linter.unusedVariables false
set_option linter.unusedSectionVars false
set_option linter.defProp false
set_option maxHeartbeats 32000000
namespace Go.Ab
set_option maxRecDepth 20000
open Go
theorem tz{P:Prop}(h:P:=by simp[zeL];omega):P:=h
theorem Lc{P:Prop}(h:P:=by rw[Hp.get_set,if_neg ac,zdq,if_neg el,zdq,if_neg ac]):P:=h
theorem Ld{P:Prop}(h:P:=by rw[Hp.get_set,if_neg ac,zdq,if_neg kX,Hp.get_set,if_neg ac,zdq,if_neg el,zdq,if_neg ac]):P:=h
theorem Le{P:Prop}(h:P:=by rw[<- Z,Hp.get_set,if_neg ac,zdq,if_neg el,zdq,if_neg el,zdq,if_pos rfl]):P:=h
theorem Lf{P:Prop}(h:P:=by rw[<- Z,Hp.get_set,if_neg ac,zdq,if_neg el,zdq,if_pos (by simp only[zdA])]):P:=h
theorem Lg{P:Prop}(h:P:=by rw[<- Z,Hp.get_set,if_neg ac,zdq,if_neg el,zdq,if_neg el,zdq,if_neg ac]):P:=h
def vP:=@Go.trodAll_cons_mk
end Go.Ab
namespace Go.Proofs.YtljebeflbbgibaaGreat.evalStopped
set_option maxRecDepth 20000
open Go Go.Ab
def tyEvalStopped.tyF:=ad @cN (ad @b9 (ad @dA (ad @ea (ad @eV (ad @eO (ad @m8 (ad @m9 (ad @iq (ad @jL (ad @lJ (ad @AW (ad @kQ (ad @YF (@vF))))))))))))))
open tyEvalStopped Go.ChangeShapes Go.WideShapes Go.ChangeAt Go.RowKit
theorem own:ownKnob Tryz.prog.godebug=none:=af
noncomputable def Lh:{c:SC // aC 117 (Tryz.f5.body.getD .skip)=c}:=by
 refine⟨?_,?_⟩;rotate_left
 .simp only[Tryz.f5,a5,aC,zdG,zdD,zdH,zdI,Nat.blt,Nat.ble];rfl
noncomputable def nQ(c:Int):List En:=[G5,jS BI,jS CZ,jS (C3 ⟨2,c,[8],0⟩),jS C1,K8]
theorem zyQ(ρ:Nat->Int)(c:Int):fk Tryz.prog ρ (nQ c):=⟨YA ρ,qK (Yv ρ),qK (zyN ρ),qK (zql ρ _),qK (znU ρ),zqj ρ,trivial⟩
theorem vQ(H:Hp)(a b:Int):zeP Tryz.prog H 23 2 [(0,.int .i64 a),(1,.int .i64 b)]=some (.sl H.next 0 2 1,H.alloc (.cells [.int .i64 a,.int .i64 b] 0 true)):=af
theorem bT3(H:Hp)(a b c:Int):zeP Tryz.prog H 23 3 [(0,.int .i64 a),(1,.int .i64 b),(2,.int .i64 c)]=some (.sl H.next 0 3 1,H.alloc (.cells [.int .i64 a,.int .i64 b,.int .i64 c] 0 true)):=af
theorem bM1(a:Int):zeI Tryz.prog 25 [(0,.int .i64 a)]=some (.agg [.int .i64 a,.int .i64 0,.nilS]):=af
theorem Li(a b:Int):zeI Tryz.prog 25 [(0,.int .i64 a),(1,.int .i64 b)]=some (.agg [.int .i64 a,.int .i64 b,.nilS]):=af
theorem zh(a:Int)(q n:Nat):zeI Tryz.prog 25 [(0,.int .i64 a),(2,.sl q 0 n 1)]=some (.agg [.int .i64 a,.int .i64 0,.sl q 0 n 1]):=af
theorem C4(a b:Int)(q n:Nat):zeI Tryz.prog 25 [(0,.int .i64 a),(1,.int .i64 b),(2,.sl q 0 n 1)]=some (.agg [.int .i64 a,.int .i64 b,.sl q 0 n 1]):=af
def rwE(c:Int):List AV:=[.int .i64 26,.int .i64 0,.nilS,.int .i64 1,.int .i64 8,.nilS,.int .i64 1,.int .i64 0,.nilS,.int .i64 29,.int .i64 0,.sl 0 0 2 1,.int .i64 27,.int .i64 c,.sl 1 0 2 1]
theorem zdd(H:Hp)(c:Int):zeP Tryz.prog H 26 5 [(0,.agg [.int .i64 26,.int .i64 0,.nilS]),(1,.agg [.int .i64 1,.int .i64 8,.nilS]),(2,.agg [.int .i64 1,.int .i64 0,.nilS]),(3,.agg [.int .i64 29,.int .i64 0,.sl 0 0 2 1]),(4,.agg [.int .i64 27,.int .i64 c,.sl 1 0 2 1])]=some (.sl H.next 0 5 3,H.alloc (.cells (rwE c) 0 true)):=af
theorem Lj(H:Hp)(a b:Int)(q n:Nat):zeP Tryz.prog H 26 1 [(0,.agg [.int .i64 a,.int .i64 b,.sl q 0 n 1])]=some (.sl H.next 0 1 3,H.alloc (.cells [.int .i64 a,.int .i64 b,.sl q 0 n 1] 0 true)):=af
theorem Lk:zeI Tryz.prog 42 [(0,.str [97]),(1,.int .i64 1)]=some (.agg [.str [97],.int .i64 1]):=af
theorem Ll(H:Hp):zeP Tryz.prog H 30 1 [(0,.agg [.str [97],.int .i64 1])]=some (.sl H.next 0 1 2,H.alloc (.cells [.str [97],.int .i64 1] 0 true)):=af
theorem Lm(q n:Nat)(e:Int):zeI Tryz.prog 28 [(0,.str [102]),(2,.sl q 0 n 3),(3,.int .i64 1),(4,.int .i64 e)]=some (.agg [.str [102],.int .i64 0,.sl q 0 n 3,.int .i64 1,.int .i64 e]):=af
theorem Ln(H:Hp)(q n:Nat)(e:Int):zeP Tryz.prog H 29 1 [(0,.agg [.str [102],.int .i64 0,.sl q 0 n 3,.int .i64 1,.int .i64 e])]=some (.sl H.next 0 1 5,H.alloc (.cells [.str [102],.int .i64 0,.sl q 0 n 3,.int .i64 1,.int .i64 e] 0 true)):=af
theorem Lo(q n p m:Nat):zeI Tryz.prog 32 [(0,.sl p 0 m 2),(1,.sl q 0 n 5)]=some (.agg [.sl p 0 m 2,.sl q 0 n 5]):=af
theorem bI1(H:Hp)(a:Int):zeP Tryz.prog H 33 1 [(0,.int .i64 a)]=some (.sl H.next 0 1 1,H.alloc (.cells [.int .i64 a] 0 true)):=af
theorem bOc(c:Int)(q n:Nat):zeI Tryz.prog 35 [(0,.int .i64 2),(1,.int .i64 c),(2,.sl q 0 n 1)]=some (.agg [.int .i64 2,.int .i64 c,.sl q 0 n 1,.int .i64 0]):=af
theorem C5{S:Nat->Prop}{H:Hp}{a b:Int}:[AV.int .i64 a,.int .i64 b,.nilS].length=3/\zeF S 2 H [.int .i64 a,.int .i64 b,.nilS] (Nd.mk a b []).cells:=⟨rfl,BM a b⟩
theorem Lp{S:Nat->Prop}{H:Hp}{a b:Int}{v:AV}{l:List Int}(L:eg S 2 H v (zel l)):[AV.int .i64 a,.int .i64 b,v].length=3/\zeF S 2 H [.int .i64 a,.int .i64 b,v] (Nd.mk a b l).cells:=⟨rfl,.cons (.int _ _) (.cons (.int _ _) (.cons L .nil))⟩
structure EsM0 (c:Int) (H:Hp):Prop where
 n:H.next=3
 g0:H.get 0=some (.cells (zew [0,1]) 0 true)
 g1:H.get 1=some (.cells (zew [3,2]) 0 true)
 g2:H.get 2=some (.cells (rwE c) 0 true)
theorem EsM0.own{c:Int}{H:Hp}(h:EsM0 c H):zeO (fun _=>True) 2 H 3 (.sl 2 0 5 3) ((mr c).map Nd.cells):=by
 have m:=h.n;have a0:eg (fun k=>True/\k≠2) 2 H (.sl 0 0 2 1) (zel [0,1]):=oH [0,1] ⟨trivial,ac⟩ ac h.g0 (cG _);have a1:eg (fun k=>True/\k≠2) 2 H (.sl 1 0 2 1) (zel [3,2]):=oH [3,2] ⟨trivial,ac⟩ ac h.g1 (cG _);exact .inr ⟨2,0,[[.int .i64 26,.int .i64 0,.nilS],[.int .i64 1,.int .i64 8,.nilS],[.int .i64 1,.int .i64 0,.nilS],[.int .i64 29,.int .i64 0,.sl 0 0 2 1],[.int .i64 27,.int .i64 c,.sl 1 0 2 1]],rfl,trivial,ac,h.g2,cG _,⟨C5,C5,C5,Lp a0,Lp a1,trivial⟩⟩
theorem Lq{a:Nat}{v:AV}{l:List Nd}{s d:Int}{J:Hp}(m:a+2<=J.next)(j:J.get a=some (.cells [.str [97],.int .i64 1] 0 true))(V:J.get (a+1)=some (.cells [.str [102],.int .i64 0,v,.int .i64 1,.int .i64 l.length] 0 true))(L:zeO (fun k=>k<a) 2 J 3 v ((l++[(⟨27,d,[s,2]⟩:Nd)]).map Nd.cells)):zeF (fun k=>k<a+2) 6 J [.sl a 0 1 2,.sl (a+1) 0 1 5] (lV l s d).cells:=by
 have a3:eg (fun k=>k<a+2) 3 J v (zeu (l++[(⟨27,d,[s,2]⟩:Nd)])):=(L.keep (S':=fun k=>k<a+2) (fun k _ h=>ac) (aM _) fun _ _ _=>rfl).rd;have a4:eg (fun k=>k<a+2) 4 J (.sl (a+1) 0 1 5) (.lst [(my l s d).cells]):=eg.rows (a:=[[.str [102],.int .i64 0,v,.int .i64 1,.int .i64 l.length]]) (b:=[(my l s d).cells]) (show a+1<a+2 by omega) ac V (cG _) ⟨⟨rfl,.cons (.str _) (.cons (.int _ _) (.cons a3 (.cons (.int _ _) (.cons (.int _ _) .nil))))⟩,trivial⟩;have zeD:eg (fun k=>k<a+2) 4 J (.sl a 0 1 2) (.lst [[.str [97],.int .i64 1]]):=eg.rows (a:=[[.str [97],.int .i64 1]]) (b:=[[.str [97],.int .i64 1]]) (show a<a+2 by omega) ac j (cG _) ⟨⟨rfl,.cons (.str _) (.cons (.int _ _) .nil)⟩,trivial⟩;exact .cons (zeD.up ac) (.cons (a4.up ac) .nil)
theorem Lr{S:Nat->Prop}{H:Hp}{cs:List AV}{l:List Nd}{s d:Int}(h:zeF S 6 H cs (lV l s d).cells):zeF S 8 H [.agg cs,.str [102],.nilS,.int .i64 3] (oN (vO l s d)):=.cons ((eg.agg h).up ac) (.cons (.str _) (.cons .nilS (.cons (.int _ _) .nil)))
structure StE (out:List Int) (store:Bool) (c d:Int) (i s:Nat) (n0:Nat) (v:AV) (l:List Nd) (E:ax) (H:Hp):Prop where
 k2:E.at 2=zel out
 k3:E.at 3=.bool store
 k9:E.at 9=.int .i64 c
 k10:E.at 10=.int .i64 d
 k11:E.at 11=v
 k12:E.at 12=.int .i64 (s:Int)
 k13:E.at 13=.int .i64 (i:Int)
 row:zeO (fun _=>True) 2 H 3 v (l.map Nd.cells)
 nx:n0<=H.next
set_option maxRecDepth 100000 in
theorem law(code other:Int)(out:List Int)(store:Bool)(hol:out.length<2^63)(hor:∀n∈out,-9223372036854775808<=n/\n<9223372036854775808):zdw Tryz.prog (zdp pls (nQ (1+gh code 100))) 5 [.int .i64 code,.int .i64 other,zfN out,.bool store] zd3 fun v _=>v=.bool true:=by
 obtain⟨p0,p1⟩:=G4 (n:=code) (m:=100) ac ac;obtain⟨q0,q1⟩:=G4 (n:=other) (m:=100) ac ac;have hw:Plain (zdp pls (nQ (1+gh code 100))) 5:=zej (fun _=>rfl) rfl;have kk:∀(n:Int) H,zdw Tryz.prog (zdp pls (nQ (1+gh code 100))) 11 [.int .i64 n,.int .i64 100] H fun v H'=>v=.int .i64 (gh n 100)/\H'=H:=fun n H=>zeq (enc:=qY) (ok:=fun x=>x.2≠0) (out:=fun x=>.int .i64 (gh x.1 x.2)) Yy (x:=(n,100)) rfl (by show(100:Int)≠0;omega);have kex:∀H,zdw Tryz.prog (zdp pls (nQ (1+gh code 100))) 15 [] H fun v H'=>v=.bool true/\H'=H:=fun H=>Bg rfl;have kh:=fun{S n H v l cs x}=>zc2 (tb:=nQ (1+gh code 100)) (S:=S) (n:=n) (H:=H) (v:=v) (l:=l) (cs:=cs) (x:=x) (fun _=>rfl) rfl;have kv:=fun{S n H u cs}=>zcW (tb:=nQ (1+gh code 100)) (S:=S) (n:=n) (H:=H) (u:=u) (cs:=cs) (fun _=>rfl) rfl;have kr:=fun{S n H x ar}=>zc8 (tb:=nQ (1+gh code 100)) (S:=S) (n:=n) (H:=H) (x:=x) (o:=⟨2,1+gh code 100,[8],0⟩) (args:=ar) (fun _=>rfl) rfl;have ksm:=fun{S n H ar}=>zcY (tb:=nQ (1+gh code 100)) (S:=S) (n:=n) (H:=H) (o:=⟨2,1+gh code 100,[8],0⟩) (args:=ar) (fun _=>rfl) rfl aB;generalize nQ (1+gh code 100)=tb at *;have hkeep:(zdp pls tb).keep 5=false:=rfl;generalize hp:gh code 100=p at *;generalize hq:gh other 100=q at *;have e1:IntKind.wrap .i64 (1+p)=1+p:=ze3 ac ac;have e2:IntKind.wrap .i64 (1+q)=1+q:=ze3 ac ac;have bR:=fun H=>zdd H (1+p);have hI0:=zc5 (c:=1+p) ac ac;obtain⟨N,hN⟩:∃N,N=min out.length 5:=⟨_,rfl⟩;change zdw _ _ _ [_,_,zel out,_] _ _;refine zdv (M:=117) (rs:=[.tmp 8]) (hw.call _) hw.ice hw.froz Tryz.func5 rfl rfl Lh.2 rfl ?_;dsimp only[Lh,zds,Nat.reduceAdd];have F:=@vQ;have gh1:=@bM1;have gh2:=@Li;have gh3:=@zh;have gh4:=@C4;repeat' (first
  |(apply zdk ?_;clear hK K)|apply Rx.o ?_|apply bp ?_|(apply iO ?_;first|refine Rx.k (kk _ _) ?_)|(apply aS (fun z V=>?_) (fun z V=>?_)<;>try(cases z;done))|apply ak ?_|(apply zdl fun K hK=>?_)|(apply zdL 16 [(4,8),(6,8)] fun K hK=>?_)|(apply zdK ?_;try intro _)|(apply zdM ?_ ?_<;>clear hK K)|apply bl ?_|apply au ?_|apply zdm ?_|apply am ?_|apply zdr ?_)
 refine zyP (EsM0 (1+p)) ⟨rfl,af,af,af⟩ ?_;intro Hc hM;have hO:=hM.own;refine zef [2,3,9,10] [] 13 N (fun i E H=>∃v l s,E.at 11=v/\E.at 12=.int .i64 ((s:Nat):Int)/\zeO (fun _=>True) 2 H 3 v (l.map Nd.cells)/\EsI (1+p) i l s) eE ⟨.sl 2 0 5 3,mr (1+p),4,eE,eE,hO,hI0⟩ ?_;rintro i E g hi hcE hrH hnH hsI ⟨v,l,s,k11,k12,hv,hI⟩;(try simp only[zdO,zdF,aX,zdy,zdJ,Nat.reduceBEq,Nat.reduceAdd,Nat.reduceLeDiff,tyF, *]at hcE);(try simp only[zdO,zdF,aX,zdy,zdJ,Nat.reduceBEq,Nat.reduceAdd,Nat.reduceLeDiff,tyF, *]at hrH);(try simp only[zdA,zdQ,zec,bC,Nat.reduceAdd]at hnH);by_cases hic:i<N
 .have hi1:(i:Int)<out.length:=by omega
  have hi2:(i:Int)<5:=ac;have hgx:out[i]?=some (out.getD i 0):=GL;have hox:=hor (out.getD i 0) (i5 hgx);generalize out.getD i 0=o at *;have hno:=hI.nds ac;repeat' (first
   |(apply zdk ?_;clear hK K)|apply Ry.o ?_|apply b4 ?_|(apply a2 (fun C L=>?_) (fun C L=>?_)<;>try(cases C;done))|apply ak ?_|(apply zdl fun K hK=>?_)|(apply zdL 16 [(4,8),(6,8)] fun K hK=>?_)|(apply zdK ?_;try intro _)|(apply zdM ?_ ?_<;>clear hK K)|apply bl ?_|apply au ?_|apply zdm ?_|apply am ?_|apply zdr ?_)
  (apply aS (fun z V=>?_) (fun z V=>?_)<;>try(cases z;done));have F:=@Li;repeat' (first
   |(apply zdk ?_;clear hK K)|apply Ry.o ?_|apply b4 ?_|(apply a2 (fun C L=>?_) (fun C L=>?_)<;>try(cases C;done))|apply ak ?_|(apply zdl fun K hK=>?_)|(apply zdL 16 [(4,8),(6,8)] fun K hK=>?_)|(apply zdK ?_;try intro _)|(apply zdM ?_ ?_<;>clear hK K)|apply bl ?_|apply au ?_|apply zdm ?_|apply am ?_|apply zdr ?_)
  generalize Z:Hp.set (Hp.alloc g _) _ _=A;have nb:A.next=g.next+1:=by rw[<-Z];rfl
  have gb:A.get g.next=some (.cells [.int .i64 1,.int .i64 o,.nilS] 0 true):=yI
  have ob:∀k,k<g.next->A.get k=g.get k:=fun k Y=>by rw[<-Z,aW,ai ac,zdq,ai ac]
  have hvb:zeO (fun k=>k<g.next) 2 A 3 v (l.map Nd.cells):=hv.keep (fun k Y _=>Y) ac fun k _ Y=>ob k Y;clear Z;repeat' (first
   |(apply zdk ?_;clear hK K)|apply Rx.o ?_|apply bp ?_|apply ak ?_|(apply zdl fun K hK=>?_)|(apply zdL 16 [(4,8),(6,8)] fun K hK=>?_)|(apply zdK ?_;try intro _)|(apply zdM ?_ ?_<;>clear hK K)|apply bl ?_|apply au ?_|apply zdm ?_|apply am ?_|apply zdr ?_)
  refine bh rfl bm bo ?_;simp only[dS];refine a9 ?_ (kh ac hvb (BM 1 o) hno);rintro w J ⟨rfl,i3⟩;have hv3:=hvb.icyB (by rw[i3.next];exact aM _) fun k _ _=>i3.same k;have g3:J.get g.next=_:=(i3.out _ ac).trans gb
  have n3:g.next+1<=J.next:=by have:=i3.next;omega
  clear i3 hvb gb ob nb A;dsimp only[zdE];repeat' (first
   |(apply zdk ?_;clear hK K)|apply Rx.o ?_|apply bp ?_|apply ak ?_|(apply zdl fun K hK=>?_)|(apply zdL 16 [(4,8),(6,8)] fun K hK=>?_)|(apply zdK ?_;try intro _)|(apply zdM ?_ ?_<;>clear hK K)|apply bl ?_|apply au ?_|apply zdm ?_|apply am ?_|apply zdr ?_)
  refine sN (fun E' H'=>∃v1,StE out store (1+p) (1+q) i s g.next v1 (ze2 l ⟨1,o,[]⟩) E' H') ?_ ?_
  .cases hm:decide ((⟨1,o,[]⟩:Nd)∈l)with
   |true=>
    have U:ze2 l ⟨1,o,[]⟩=l:=az (pE hm);rw[U];repeat' (first
     |(apply zdk ?_;clear hK K)|apply Rx.o ?_|apply bp ?_|(apply aS (fun z V=>?_) (fun z V=>?_)<;>try(cases z;done))|apply ak ?_|(apply zdl fun K hK=>?_)|(apply zdL 16 [(4,8),(6,8)] fun K hK=>?_)|(apply zdK ?_;try intro _)|(apply zdM ?_ ?_<;>clear hK K)|apply bl ?_|apply au ?_|apply zdm ?_|apply am ?_|apply zdr ?_)
    exact⟨rfl,v,eE,eE,eE,eE,eE,eE,eE,hv3.keep (fun _ _ _=>trivial) (aM _) fun _ _ _=>rfl,ac⟩
   |false=>
    have U:ze2 l ⟨1,o,[]⟩=l++[⟨1,o,[]⟩]:=ai (of_decide_eq_false hm);rw[U];have kbs:=fun H=>BL H (cs:=[.int .i64 1,.int .i64 o,.nilS]) rfl rfl;have hv4:zeO (fun k=>k<g.next) 2 (J.alloc (.cells [.int .i64 1,.int .i64 o,.nilS] 0 true)) 3 v (l.map Nd.cells):=hv3.keep (fun _ _ h=>h) (fQ _) fun k _ Y=>fy;have hll:=hI.len;obtain⟨I,zeD,s5,n5,o5⟩:=vD (P:=Tryz.prog) (t:=26) (S':=fun _=>True) Tryz.underlying26 pi uF uG rfl af hv4 (fun _ _ _=>trivial) trivial (r:=J.next) (imm:=0) (row:=[.int .i64 1,.int .i64 o,.nilS]) (w:=(⟨1,o,[]⟩:Nd).cells) gO rfl rfl (BM 1 o) tz tz;rw[zdA]at n5 zeD s5;rw[cE]at zeD s5;have n5':J.next+1<=I.next:=ac
    clear n5;repeat' (first
     |(apply zdk ?_;clear hK K)|apply Rx.o ?_|apply bp ?_|(apply aS (fun z V=>?_) (fun z V=>?_)<;>try(cases z;done))|apply ak ?_|(apply zdl fun K hK=>?_)|(apply zdL 16 [(4,8),(6,8)] fun K hK=>?_)|(apply zdK ?_;try intro _)|(apply zdM ?_ ?_<;>clear hK K)|apply bl ?_|apply au ?_|apply zdm ?_|apply am ?_|apply zdr ?_)
    exact⟨rfl,.sl (J.next+1) 0 (l.length+1) 3,eE,eE,eE,eE,eE,eE,eE,by rw[mc];exact s5,ac⟩
  .clear hv3 g3 n3 J hv;rintro E3 J ⟨v1,k2,k3,k9,k10,k11,k12,k13,O,n1⟩;have hst:=fun nd=>hI.step ac hox store (nd:=nd);obtain⟨hD1,ho1,hl1,hr1⟩:=hI.const o hox;have hsl:=hI.sl;have hs4:=hI.s4;unfold ss at hst;have hl5:5<=(ze2 l ⟨1,o,[]⟩).length:=by have:=(zg l ⟨1,o,[]⟩).1;have:=hI.five;omega
   clear hI hno;have hsl1:s<(ze2 l ⟨1,o,[]⟩).length:=by obtain⟨nd,h1,_⟩:=ho1;exact(de.1 h1).1
   clear hsl ho1;generalize ze2 l ⟨1,o,[]⟩=l1 at *;have hno1:zeN l1:=⟨ac,fun n hn=>(hr1 n hn).len⟩;have hln:=fun H=>O.len (H':=H) Tryz.underlying26;rw[cE]at hln;have ew:IntKind.wrap .i64 ((l1.length:Int)-1)=(l1.length:Int)-1:=ze3 ac ac;dsimp only[jt];have F:=@vQ;have gh1:=@zh;repeat' (first
    |(apply zdk ?_;clear hK K)|apply Rx.o ?_|apply bp ?_|apply ak ?_|(apply zdl fun K hK=>?_)|(apply zdL 16 [(4,8),(6,8)] fun K hK=>?_)|(apply zdK ?_;try intro _)|(apply zdM ?_ ?_<;>clear hK K)|apply bl ?_|apply au ?_|apply zdm ?_|apply am ?_|apply zdr ?_)
   refine sN (fun E' H'=>∃kv,StE out store (1+p) (1+q) i s g.next v1 l1 E' H'/\E'.at 15=.ptr (J.next+1) 0/\H'.get (J.next+1)=some (.cells [.int .i64 (mK store),.int .i64 0,kv] 0 true)/\AV.one kv=true/\zeF (fun k=>J.next<=k/\k≠J.next+1) 2 H' [.int .i64 (mK store),.int .i64 0,kv] (ph store s l1).cells/\zeO (fun k=>k<J.next) 2 H' 3 v1 (l1.map Nd.cells)/\J.next+2<=H'.next) ?_ ?_
   .cases store with
    |false=>
     have F:=@vQ;have gh1:=@zh;repeat' (first
      |(apply zdk ?_;clear hK K)|apply Rx.o ?_|apply bp ?_|(apply aS (fun z V=>?_) (fun z V=>?_)<;>try(cases z;done))|apply ak ?_|(apply zdl fun K hK=>?_)|(apply zdL 16 [(4,8),(6,8)] fun K hK=>?_)|(apply zdK ?_;try intro _)|(apply zdM ?_ ?_<;>clear hK K)|apply bl ?_|apply au ?_|apply zdm ?_|apply am ?_|apply zdr ?_)
     refine⟨rfl,.sl J.next 0 2 1,⟨eE,eE,eE,eE,eE,eE,eE,?_,?_⟩,eE,?_,rfl,?_,?_,?_⟩
     .exact O.keep (fun _ _ _=>trivial) kX fun k _ Y=>Lc
     .simp only[zdQ,zdA];omega
     .rw[aW,az rfl];rfl
     .exact .cons (.int _ _) (.cons (.int _ _) (.cons (oH (q:=J.next) (imm:=0) (tip:=true) [(s:Int),(l1.length:Int)-1] ⟨aM _,ac⟩ kX (by rw[aW,ai ac,zdq,ai el,zdq,az rfl];rfl) (cG _)) .nil))
     .exact O.keep (fun _ h _=>h) kX fun k _ Y=>Lc
     .simp only[zdQ,zdA];omega
    |true=>
     have F:=@bT3;have gh1:=@zh;repeat' (first
      |(apply zdk ?_;clear hK K)|apply Rx.o ?_|apply bp ?_|(apply aS (fun z V=>?_) (fun z V=>?_)<;>try(cases z;done))|apply ak ?_|(apply zdl fun K hK=>?_)|(apply zdL 16 [(4,8),(6,8)] fun K hK=>?_)|(apply zdK ?_;try intro _)|(apply zdM ?_ ?_<;>clear hK K)|apply bl ?_|apply au ?_|apply zdm ?_|apply am ?_|apply zdr ?_)
     refine⟨rfl,.sl (J.next+2) 0 3 1,⟨eE,eE,eE,eE,eE,eE,eE,?_,?_⟩,eE,?_,rfl,?_,?_,?_⟩
     .exact O.keep (fun _ _ _=>trivial) kX fun k _ Y=>Ld
     .simp only[zdQ,zdA];omega
     .rw[aW,az rfl];rfl
     .exact .cons (.int _ _) (.cons (.int _ _) (.cons (oH (q:=J.next+2) (imm:=0) (tip:=true) [(s:Int),2,(l1.length:Int)-1] ⟨ac,ac⟩ kX (by rw[aW,ai ac,zdq,az (by simp only[zdQ,zdA])];rfl) (cG _)) .nil))
     .exact O.keep (fun _ h _=>h) kX fun k _ Y=>Ld
     .simp only[zdQ,zdA];omega
   .clear k2 k3 k9 k10 k11 k12 k13 O hln;generalize hn0:J.next=n0 at *
    clear hn0 E3 J;rintro E3 J ⟨kv,⟨k2,k3,k9,k10,k11,k12,k13,hr0,hx0⟩,k15,g15,hk1,hcm,O,n2⟩;generalize hmm:ph store s l1=m at *;dsimp only[jt];repeat' (first
     |(apply zdk ?_;clear hK K)|apply Rx.o ?_|apply bp ?_|apply ak ?_|(apply zdl fun K hK=>?_)|(apply zdL 16 [(4,8),(6,8)] fun K hK=>?_)|(apply zdK ?_;try intro _)|(apply zdM ?_ ?_<;>clear hK K)|apply bl ?_|apply au ?_|apply zdm ?_|apply am ?_|apply zdr ?_)
    refine bh rfl bm bo ?_;simp only[dS];refine a9 ?_ (kh (S:=fun k=>k≠n0+1) ac (O.keep (fun k Y h1=>ac) (aM _) fun _ _ _=>rfl) (hcm.keep (fun k Y=>Y.2) (aM _) fun _ _ _=>rfl) hno1);rintro w H4 ⟨rfl,i4⟩;have hv4:=O.icyB (by rw[i4.next];exact aM _) fun k _ _=>i4.same k;have hc4:=C2 hcm i4;have g4:H4.get (n0+1)=_:=(i4.out _ ac).trans g15;have n4:n0+2<=H4.next:=by have:=i4.next;omega
    clear i4 O hcm g15 n2;dsimp only[zdE];repeat' (first
     |(apply zdk ?_;clear hK K)|apply Rx.o ?_|apply bp ?_|apply ak ?_|(apply zdl fun K hK=>?_)|(apply zdL 16 [(4,8),(6,8)] fun K hK=>?_)|(apply zdK ?_;try intro _)|(apply zdM ?_ ?_<;>clear hK K)|apply bl ?_|apply au ?_|apply zdm ?_|apply am ?_|apply zdr ?_)
    refine sN (fun E' H'=>∃v2,StE out store (1+p) (1+q) i s g.next v2 (ze2 l1 m) E' H'/\E'.at 15=.ptr (n0+1) 0/\H'.get (n0+1)=some (.cells [.int .i64 (mK store),.int .i64 0,kv] 0 true)) ?_ ?_
    .cases hm:decide (m∈l1)with
     |true=>
      have U:ze2 l1 m=l1:=az (pE hm);rw[U];repeat' (first
       |(apply zdk ?_;clear hK K)|apply Rx.o ?_|apply bp ?_|(apply aS (fun z V=>?_) (fun z V=>?_)<;>try(cases z;done))|apply ak ?_|(apply zdl fun K hK=>?_)|(apply zdL 16 [(4,8),(6,8)] fun K hK=>?_)|(apply zdK ?_;try intro _)|(apply zdM ?_ ?_<;>clear hK K)|apply bl ?_|apply au ?_|apply zdm ?_|apply am ?_|apply zdr ?_)
      exact⟨rfl,v1,⟨eE,eE,eE,eE,eE,eE,eE,hv4.keep (fun _ _ _=>trivial) (aM _) fun _ _ _=>rfl,ac⟩,eE,g4⟩
     |false=>
      have U:ze2 l1 m=l1++[m]:=ai (of_decide_eq_false hm);rw[U];have hone:([.int .i64 (mK store),.int .i64 0,kv]:List AV).all AV.one=true:=by
       show(true&&(true&&(AV.one kv&&true)))=true;rw[hk1];rfl
      have kbs:=fun H=>BL H (cs:=[.int .i64 (mK store),.int .i64 0,kv]) rfl hone;have hv5:zeO (fun k=>k<n0) 2 (H4.alloc (.cells [.int .i64 (mK store),.int .i64 0,kv] 0 true)) 3 v1 (l1.map Nd.cells):=hv4.keep (fun _ _ h=>h) (fQ _) fun k _ Y=>fy;obtain⟨I,zeD,s5,n5,o5⟩:=vD (P:=Tryz.prog) (t:=26) (S':=fun _=>True) Tryz.underlying26 pi uF uG rfl af hv5 (fun _ _ _=>trivial) trivial (r:=H4.next) (imm:=0) (row:=[.int .i64 (mK store),.int .i64 0,kv]) (w:=m.cells) gO rfl hone (hc4.keep (fun k Y=>⟨trivial,fun o m z' e=>by have:=(hv5.atE e).1;omega⟩) (fQ _) fun k _ Y=>fy) tz tz;rw[zdA]at n5 zeD s5 o5;rw[cE]at zeD s5;have g5:I.get (n0+1)=some (.cells [.int .i64 (mK store),.int .i64 0,kv] 0 true):=(o5 (n0+1) ac fun o m z' e=>by have:=(hv5.atE e).1;omega).trans (by rw[zdq,ai ac];exact g4);have n5':H4.next+1<=I.next:=ac
      clear n5 o5;repeat' (first
       |(apply zdk ?_;clear hK K)|apply Rx.o ?_|apply bp ?_|(apply aS (fun z V=>?_) (fun z V=>?_)<;>try(cases z;done))|apply ak ?_|(apply zdl fun K hK=>?_)|(apply zdL 16 [(4,8),(6,8)] fun K hK=>?_)|(apply zdK ?_;try intro _)|(apply zdM ?_ ?_<;>clear hK K)|apply bl ?_|apply au ?_|apply zdm ?_|apply am ?_|apply zdr ?_)
      exact⟨rfl,.sl (H4.next+1) 0 (l1.length+1) 3,⟨eE,eE,eE,eE,eE,eE,eE,by rw[mc];exact s5,ac⟩,eE,g5⟩
    .clear hv4 hc4 g4 n4 H4 hr0 hx0 k2 k3 k9 k10 k11 k12 k13 k15 hk1 E3 J;rintro E3 J ⟨v2,⟨k2,k3,k9,k10,k11,k12,k13,hv2,n2⟩,k15,g3⟩;have hl2:=zg l1 m;generalize ze2 l1 m=l2 at *;have ew2:IntKind.wrap .i64 ((l2.length:Int)-1)=((l2.length-1:Nat):Int):=by rw[show((l2.length-1:Nat):Int)=(l2.length:Int)-1 by omega];exact ze3 ac ac
     have hjl:l2.length-1<l2.length:=ac;have hg2:l2[l2.length-1]?=some l2[l2.length-1]:=aR ac;have hst2:=hst _ hg2;generalize l2[l2.length-1]=nd at *;generalize l2.length-1=j at *;obtain⟨rq,imm,cs,rfl,_,hrq,hgq,hop⟩:=zc4 hv2 hg2;have hln2:∀H,zdY Tryz.prog H 26 (.sl rq 0 l2.length 3)=some (.int .i64 l2.length):=fun H=>zfn Tryz.underlying26 _ _ _ _;have hix:zdV Tryz.prog 26 (.sl rq 0 l2.length 3) (.int .i64 (j:Int))=some (.ptr rq (j*3)):=by rw[mj Tryz.underlying26 pi hjl,bC]
     dsimp only[jt];by_cases hc:nd.op=mK store
     .repeat' (first
       |(apply zdk ?_;clear hK K)|apply Ry.o ?_|apply b4 ?_|(apply a2 (fun C L=>?_) (fun C L=>?_)<;>try(cases C;done))|(apply aD (fun z V=>?_) (fun z V=>?_)<;>try(cases z;done))|apply ak ?_|(apply zdl fun K hK=>?_)|(apply zdL 16 [(4,8),(6,8)] fun K hK=>?_)|(apply zdK ?_;try intro _)|(apply zdM ?_ ?_<;>clear hK K)|apply bl ?_|apply au ?_|apply zdm ?_|apply am ?_|apply zdr ?_)
      .exact zdR
      refine⟨ac,zdz,zdz,eN,(by simp only[zdy,Nat.reduceBEq, *];exact zfq (n:=N) ac ac),?_⟩;exact⟨_,l2,j,eE,eE,hv2,hst2 hc⟩
     .repeat' (first
       |(apply zdk ?_;clear hK K)|apply Ry.o ?_|apply b4 ?_|(apply bL ?_;first|refine Rx.k (kex _) ?_)|(apply a2 (fun C L=>?_) (fun C L=>?_)<;>try(cases C;done))|(apply aD (fun z V=>?_) (fun z V=>?_)<;>try(cases z;done))|apply ak ?_|(apply zdl fun K hK=>?_)|(apply zdL 16 [(4,8),(6,8)] fun K hK=>?_)|(apply zdK ?_;try intro _)|(apply zdM ?_ ?_<;>clear hK K)|apply bl ?_|apply au ?_|apply zdm ?_|apply am ?_|apply zdr ?_)
      .exact zdR
      all_goals (refine⟨eI,_,eR,?_⟩;try simp only[zdn])
 .have hIv:=hI.uok (d:=1+q) ac ac ac;have hIr:=hI.run (d:=1+q) ac ac ac;have hsl:=hI.sl;have hll:=hI.len;have hl5:=hI.five;have hno:=hI.nds ac;clear hI hI0 hM hO;have hln:∀H,zdY Tryz.prog H 26 (.sl (g.next+2) 0 (l.length+1) 3)=some (.int .i64 ((l.length+1:Nat):Int)):=fun H=>zfn Tryz.underlying26 _ _ _ _;have ew:IntKind.wrap .i64 (((l.length+1:Nat):Int)-1)=(l.length:Int):=by rw[show((l.length+1:Nat):Int)-1=(l.length:Int) by omega];exact ze3 ac ac
  have hvb:zeO (fun k=>k<g.next) 2 ((g.alloc (.cells [.int .i64 (s:Int),.int .i64 2] 0 true)).alloc (.cells [.int .i64 27,.int .i64 (1+q),.sl g.next 0 2 1] 0 true)) 3 v (l.map Nd.cells):=hv.keep (fun k Y _=>Y) el fun k _ Y=>by rw[zdq,ai el,zdq,ai ac]
  obtain⟨I,zeD,s5,n5,o5⟩:=vD (P:=Tryz.prog) (t:=26) (S':=fun _=>True) Tryz.underlying26 pi uF uG rfl af hvb (fun _ _ _=>trivial) trivial (r:=g.next+1) (imm:=0) (row:=[.int .i64 27,.int .i64 (1+q),.sl g.next 0 2 1]) (w:=(⟨27,1+q,[(s:Int),2]⟩:Nd).cells) (by rw[zdq,az (by simp only[zdA])]) rfl rfl (.cons (.int _ _) (.cons (.int _ _) (.cons (oH (q:=g.next) (imm:=0) (tip:=true) [(s:Int),2] ⟨trivial,fun o m z' e=>by have:=(hvb.atE e).1;omega⟩ el (by rw[zdq,ai el,zdq,az rfl];rfl) (cG _)) .nil))) tz tz;rw[cE]at zeD s5;simp only[zdA]at zeD s5 n5;have n5':g.next+3<=I.next:=ac
  clear n5 o5 hvb hv;have vF:∀a b:AV,zd7 2 [a,b]=some (.agg [a,b]):=fun _ _=>rfl;by_cases h5:(i:Int)<out.length
  .have h6:¬(i:Int)<5:=by omega
   repeat' (first
    |(apply zdk ?_;clear hK K)|apply Ry.o ?_|apply b4 ?_|(apply a2 (fun C L=>?_) (fun C L=>?_)<;>try(cases C;done))|apply ak ?_|(apply zdl fun K hK=>?_)|(apply zdL 16 [(4,8),(6,8)] fun K hK=>?_)|(apply zdK ?_;try intro _)|(apply zdM ?_ ?_<;>clear hK K)|apply bl ?_|apply au ?_|apply zdm ?_|apply am ?_|apply zdr ?_)
   (apply aS (fun z V=>?_) (fun z V=>?_)<;>try(cases z;done));have F:=@vQ;have gh1:=@C4;have gh2:=@Lj;have gh3:=@Lk;have gh4:=@Ll;have gh5:=@Lm;have gh6:=@Ln;have gh7:=@Lo;repeat' (first
    |(apply zdk ?_;clear hK K)|apply Rx.o ?_|apply bp ?_|(apply aS (fun z V=>?_) (fun z V=>?_)<;>try(cases z;done))|apply ak ?_|(apply zdl fun K hK=>?_)|(apply zdL 16 [(4,8),(6,8)] fun K hK=>?_)|(apply zdK ?_;try intro _)|(apply zdM ?_ ?_<;>clear hK K)|apply bl ?_|apply au ?_|apply zdm ?_|apply am ?_|apply zdr ?_)
   generalize Z:Hp.set (Hp.alloc (Hp.alloc (Hp.alloc I _) _) _) _ _=A;have nb:I.next+3<=A.next:=by rw[<-Z];simp only[zdQ,zdA];omega
   have g0:A.get I.next=some (.cells [.str [97],.int .i64 1] 0 true):=Le
   have g1:A.get (I.next+1)=some (.cells [.str [102],.int .i64 0,.sl (g.next+2) 0 (l.length+1) 3,.int .i64 1,.int .i64 l.length] 0 true):=Lf;have g2:A.get (I.next+2)=some (.cells [.sl I.next 0 1 2,.sl (I.next+1) 0 1 5] 0 true):=yI;have hvc:zeO (fun k=>k<I.next) 2 A 3 (.sl (g.next+2) 0 (l.length+1) 3) ((l++[(⟨27,1+q,[(s:Int),2]⟩:Nd)]).map Nd.cells):=by
    rw[mc];exact s5.keep (fun k Y _=>Y) ac fun k _ Y=>Lg
   have cu:=Lq (s:=(s:Int)) (d:=1+q) ac g0 g1 hvc;clear Z g0 g1 hvc s5 zeD;refine bh rfl bm bo ?_;simp only[dS];refine a9 ?_ (kv hIv (show(6:Nat)<60 by omega) cu);rintro w H6 ⟨rfl,i6⟩;have cu6:=C2 cu i6;have g6:=(i6.out (I.next+2) (by show ¬I.next+2<I.next+2;omega)).trans g2;have n6:I.next+3<=H6.next:=by have:=i6.next;omega
   clear i6 cu g2 nb;dsimp only[zdE];cases hu:fW (lV l (s:Int) (1+q))with
   |false=>
    repeat' (first
     |(apply zdk ?_;clear hK K)|apply Ry.o ?_|apply b4 ?_|(apply bL ?_;first|refine Rx.k (kex _) ?_)|(apply a2 (fun C L=>?_) (fun C L=>?_)<;>try(cases C;done))|(apply aD (fun z V=>?_) (fun z V=>?_)<;>try(cases z;done))|apply ak ?_|(apply zdl fun K hK=>?_)|(apply zdL 16 [(4,8),(6,8)] fun K hK=>?_)|(apply zdK ?_;try intro _)|(apply zdM ?_ ?_<;>clear hK K)|apply bl ?_|apply au ?_|apply zdm ?_|apply am ?_|apply zdr ?_)
    all_goals (refine⟨eI,_,eR,?_⟩;try simp only[zdn])
   |true=>
    repeat' (first
     |(apply zdk ?_;clear hK K)|apply Ry.o ?_|apply b4 ?_|(apply a2 (fun C L=>?_) (fun C L=>?_)<;>try(cases C;done))|(apply aD (fun z V=>?_) (fun z V=>?_)<;>try(cases z;done))|apply ak ?_|(apply zdl fun K hK=>?_)|(apply zdL 16 [(4,8),(6,8)] fun K hK=>?_)|(apply zdK ?_;try intro _)|(apply zdM ?_ ?_<;>clear hK K)|apply bl ?_|apply au ?_|apply zdm ?_|apply am ?_|apply zdr ?_)
    refine bh rfl bm bo ?_;simp only[dS];refine a9 ?_ (kr (hIr hu) (show(8:Nat)<=60 by omega) (Lr cu6));rintro w H7 ⟨rfl,i7⟩;have n7:I.next+3<=H7.next:=by have:=i7.next;omega
    clear i7;dsimp only[zdE];have cs:zeF (fun _=>True) 5 (H7.alloc (.cells [.int .i64 8] 0 true)) [eG ⟨2,1+p,[8],0⟩,.agg [.int .i64 2,.int .i64 (1+p),.sl H7.next 0 1 1,.int .i64 0]] [eG ⟨2,1+p,[8],0⟩,eG ⟨2,1+p,[8],0⟩]:=.cons (K9 _) (.cons (eg.agg (.cons (.int _ _) (.cons (.int _ _) (.cons ((oH (n:=0) [8] trivial (cP _) hC (cG _)).up ac) (.cons (.int _ _) .nil))))) .nil);have F:=@bI1;have gh1:=@bOc;repeat' (first
     |(apply zdk ?_;clear hK K)|apply Rx.o ?_|apply bp ?_|(apply aS (fun z V=>?_) (fun z V=>?_)<;>try(cases z;done))|apply ak ?_|(apply zdl fun K hK=>?_)|(apply zdL 16 [(4,8),(6,8)] fun K hK=>?_)|(apply zdK ?_;try intro _)|(apply zdM ?_ ?_<;>clear hK K)|apply bl ?_|apply au ?_|apply zdm ?_|apply am ?_|apply zdr ?_)
    refine bh rfl bm bo ?_;simp only[dS];refine a9 ?_ (ksm (show(5:Nat)<=60 by omega) cs);rintro w H8 ⟨rfl,i8⟩;dsimp only[zdE];have n8:I.next+3<=H8.next:=by have:=i8.next;rw[zdA]at this;omega
    clear i8 cs;repeat' (first
     |(apply zdk ?_;clear hK K)|apply Ry.o ?_|apply b4 ?_|(apply bL ?_;first|refine Rx.k (kex _) ?_)|(apply a2 (fun C L=>?_) (fun C L=>?_)<;>try(cases C;done))|(apply aD (fun z V=>?_) (fun z V=>?_)<;>try(cases z;done))|apply ak ?_|(apply zdl fun K hK=>?_)|(apply zdL 16 [(4,8),(6,8)] fun K hK=>?_)|(apply zdK ?_;try intro _)|(apply zdM ?_ ?_<;>clear hK K)|apply bl ?_|apply au ?_|apply zdm ?_|apply am ?_|apply zdr ?_)
    all_goals (refine⟨eI,_,eR,?_⟩;try simp only[zdn])
  .repeat' (first
    |(apply zdk ?_;clear hK K)|apply Ry.o ?_|apply b4 ?_|(apply a2 (fun C L=>?_) (fun C L=>?_)<;>try(cases C;done))|apply ak ?_|(apply zdl fun K hK=>?_)|(apply zdL 16 [(4,8),(6,8)] fun K hK=>?_)|(apply zdK ?_;try intro _)|(apply zdM ?_ ?_<;>clear hK K)|apply bl ?_|apply au ?_|apply zdm ?_|apply am ?_|apply zdr ?_)
   (apply aS (fun z V=>?_) (fun z V=>?_)<;>try(cases z;done));have F:=@vQ;have gh1:=@C4;have gh2:=@Lj;have gh3:=@Lk;have gh4:=@Ll;have gh5:=@Lm;have gh6:=@Ln;have gh7:=@Lo;repeat' (first
    |(apply zdk ?_;clear hK K)|apply Rx.o ?_|apply bp ?_|(apply aS (fun z V=>?_) (fun z V=>?_)<;>try(cases z;done))|apply ak ?_|(apply zdl fun K hK=>?_)|(apply zdL 16 [(4,8),(6,8)] fun K hK=>?_)|(apply zdK ?_;try intro _)|(apply zdM ?_ ?_<;>clear hK K)|apply bl ?_|apply au ?_|apply zdm ?_|apply am ?_|apply zdr ?_)
   generalize Z:Hp.set (Hp.alloc (Hp.alloc (Hp.alloc I _) _) _) _ _=A;have nb:I.next+3<=A.next:=by rw[<-Z];simp only[zdQ,zdA];omega
   have g0:A.get I.next=some (.cells [.str [97],.int .i64 1] 0 true):=Le
   have g1:A.get (I.next+1)=some (.cells [.str [102],.int .i64 0,.sl (g.next+2) 0 (l.length+1) 3,.int .i64 1,.int .i64 l.length] 0 true):=Lf;have g2:A.get (I.next+2)=some (.cells [.sl I.next 0 1 2,.sl (I.next+1) 0 1 5] 0 true):=yI;have hvc:zeO (fun k=>k<I.next) 2 A 3 (.sl (g.next+2) 0 (l.length+1) 3) ((l++[(⟨27,1+q,[(s:Int),2]⟩:Nd)]).map Nd.cells):=by
    rw[mc];exact s5.keep (fun k Y _=>Y) ac fun k _ Y=>Lg
   have cu:=Lq (s:=(s:Int)) (d:=1+q) ac g0 g1 hvc;clear Z g0 g1 hvc s5 zeD;refine bh rfl bm bo ?_;simp only[dS];refine a9 ?_ (kv hIv (show(6:Nat)<60 by omega) cu);rintro w H6 ⟨rfl,i6⟩;have cu6:=C2 cu i6;have g6:=(i6.out (I.next+2) (by show ¬I.next+2<I.next+2;omega)).trans g2;have n6:I.next+3<=H6.next:=by have:=i6.next;omega
   clear i6 cu g2 nb;dsimp only[zdE];cases hu:fW (lV l (s:Int) (1+q))with
   |false=>
    repeat' (first
     |(apply zdk ?_;clear hK K)|apply Ry.o ?_|apply b4 ?_|(apply bL ?_;first|refine Rx.k (kex _) ?_)|(apply a2 (fun C L=>?_) (fun C L=>?_)<;>try(cases C;done))|(apply aD (fun z V=>?_) (fun z V=>?_)<;>try(cases z;done))|apply ak ?_|(apply zdl fun K hK=>?_)|(apply zdL 16 [(4,8),(6,8)] fun K hK=>?_)|(apply zdK ?_;try intro _)|(apply zdM ?_ ?_<;>clear hK K)|apply bl ?_|apply au ?_|apply zdm ?_|apply am ?_|apply zdr ?_)
    all_goals (refine⟨eI,_,eR,?_⟩;try simp only[zdn])
   |true=>
    repeat' (first
     |(apply zdk ?_;clear hK K)|apply Ry.o ?_|apply b4 ?_|(apply a2 (fun C L=>?_) (fun C L=>?_)<;>try(cases C;done))|(apply aD (fun z V=>?_) (fun z V=>?_)<;>try(cases z;done))|apply ak ?_|(apply zdl fun K hK=>?_)|(apply zdL 16 [(4,8),(6,8)] fun K hK=>?_)|(apply zdK ?_;try intro _)|(apply zdM ?_ ?_<;>clear hK K)|apply bl ?_|apply au ?_|apply zdm ?_|apply am ?_|apply zdr ?_)
    refine bh rfl bm bo ?_;simp only[dS];refine a9 ?_ (kr (hIr hu) (show(8:Nat)<=60 by omega) (Lr cu6));rintro w H7 ⟨rfl,i7⟩;have n7:I.next+3<=H7.next:=by have:=i7.next;omega
    clear i7;dsimp only[zdE];have cs:zeF (fun _=>True) 5 (H7.alloc (.cells [.int .i64 8] 0 true)) [eG ⟨2,1+p,[8],0⟩,.agg [.int .i64 2,.int .i64 (1+p),.sl H7.next 0 1 1,.int .i64 0]] [eG ⟨2,1+p,[8],0⟩,eG ⟨2,1+p,[8],0⟩]:=.cons (K9 _) (.cons (eg.agg (.cons (.int _ _) (.cons (.int _ _) (.cons ((oH (n:=0) [8] trivial (cP _) hC (cG _)).up ac) (.cons (.int _ _) .nil))))) .nil);have F:=@bI1;have gh1:=@bOc;repeat' (first
     |(apply zdk ?_;clear hK K)|apply Rx.o ?_|apply bp ?_|(apply aS (fun z V=>?_) (fun z V=>?_)<;>try(cases z;done))|apply ak ?_|(apply zdl fun K hK=>?_)|(apply zdL 16 [(4,8),(6,8)] fun K hK=>?_)|(apply zdK ?_;try intro _)|(apply zdM ?_ ?_<;>clear hK K)|apply bl ?_|apply au ?_|apply zdm ?_|apply am ?_|apply zdr ?_)
    refine bh rfl bm bo ?_;simp only[dS];refine a9 ?_ (ksm (show(5:Nat)<=60 by omega) cs);rintro w H8 ⟨rfl,i8⟩;dsimp only[zdE];have n8:I.next+3<=H8.next:=by have:=i8.next;rw[zdA]at this;omega
    clear i8 cs;repeat' (first
     |(apply zdk ?_;clear hK K)|apply Ry.o ?_|apply b4 ?_|(apply bL ?_;first|refine Rx.k (kex _) ?_)|(apply a2 (fun C L=>?_) (fun C L=>?_)<;>try(cases C;done))|(apply aD (fun z V=>?_) (fun z V=>?_)<;>try(cases z;done))|apply ak ?_|(apply zdl fun K hK=>?_)|(apply zdL 16 [(4,8),(6,8)] fun K hK=>?_)|(apply zdK ?_;try intro _)|(apply zdM ?_ ?_<;>clear hK K)|apply bl ?_|apply au ?_|apply zdm ?_|apply am ?_|apply zdr ?_)
    all_goals (refine⟨eI,_,eR,?_⟩;try simp only[zdn])
theorem con(code K:Int)(out:List Int)(store:Bool)(L:out.length<2^63)(Z:∀n∈out,-9223372036854775808<=n/\n<9223372036854775808):bc Tryz.prog (fun _=>0) 5 [.int .i64 code,.int .i64 K,zfN out,.bool store] (.bool true):=
 zer fit (pls:=pls) (zyQ _ (1+gh code 100)) (.cons (.int _ _) (.cons (.int _ _) (.cons (x8 out) (.cons (.bool _) .nil)))) (.bool _) (law code K out store L Z)
theorem znW:Tryz.prog.cellsOf 2=1:=af
set_option maxRecDepth 100000 in
theorem zdg{H:Type}{enc:TypeId×Value->H}(W:World)(a0 a1:Int)(Z:Value){r:Reach}{Y:Nat}(k2:Value.okWide Tryz.prog W r Y 33 Z){d:DataW H}{ps:List MemPlace}{m:Nat->Bool}{C:Bool}(h2:DataW.Trod enc Tryz.prog W 0 m C 33 Z d ps)(a3:Bool):
 Calls Tryz.prog 5 #[.int .i64 a0,.int .i64 a1,Z,.bool a3] W fun e V=>e=.returned (.bool true)/\Below W.heap.size W V:=by
 obtain⟨l,L,O,hr⟩:=YH Tryz.underlying33 Tryz.underlying2 znW k2 h2 (fun _=>none) (fun _=>0);refine D8 (ρ:=fun _=>0) (F:=x7 W) (con a0 a1 l a3 (YJ O) fun n U=>?_) (YG W) (jG (.int .i64 a0) (jG (.int .i64 a1) (jG L (jG (.bool a3) (lY _)))));have h:=hr n U;have M:IntKind.min .i64=-9223372036854775808:=dk;have K:IntKind.max .i64=9223372036854775807:=dk;simp only[Lit.wf,j4,M,K]at h;omega
set_option maxRecDepth 100000 in
theorem zdh(K:Os)(O:K.Started)(H:Type)(enc:TypeId×Value->H):
 ReturnsInHanded {} Tryz.checked K 5 .any (Rows.evalStoppedSpec.pre6 enc Tryz.prog Tryz.f5 Rows.evalStoppedRow.domain false) (Rows.evalStoppedSpec.post enc Tryz.prog Tryz.f5 false true false false):=by
 refine returnsInHanded_of_change (C:=Tryz.checked) own O af Tryz.func5
  (ChangeSpec.witness6 (enc:=enc) (C:=Tryz.checked) false ⟨#[],#[.int .i64 0,.int .i64 0,.slice none 0 0,.bool false],[]⟩ 8 af af af af) ?_
 intro W Z args ds gs V m F o _;have U:∀(j:Nat) t v,Tryz.f5.params[j]?=some t->args[j]?=some v->Value.okWide Tryz.prog W .any Z t v:=m;have Y:=F;obtain⟨p,q,z,hV,rfl,hfz,hnd⟩:=F;have hA:DataW.TrodAll enc Tryz.prog W 0 (fun _=>true) true Tryz.f5.params.toList args.toList ds p:=z;rw[Tryz.params5]at hA U;obtain⟨A,vs0,d0,ds0,p0,q0,I,rfl,rfl,h0,zdP⟩:=trodAll_cons hA;obtain⟨i,vs1,d1,ds1,p1,q1,rfl,rfl,rfl,h1,zdu⟩:=trodAll_cons zdP;obtain⟨L,vs2,d2,ds2,p2,q2,rfl,rfl,rfl,g,r2⟩:=trodAll_cons zdu;obtain⟨v3,vs3,d3,ds3,p3,q3,rfl,rfl,rfl,h3,zfz⟩:=trodAll_cons r2;obtain⟨rfl,rfl,rfl⟩:=trodAll_nil zfz;obtain rfl:args=#[A,i,L,v3]:=by cases args;simp_all
 obtain⟨rfl,rfl⟩:=trodVars_none hV;obtain⟨a0,rfl,rfl,rfl,w0⟩:=open_int Tryz.underlying3 (U 0 3 A rfl rfl) h0;obtain⟨a1,rfl,rfl,rfl,zft⟩:=open_int Tryz.underlying3 (U 1 3 i rfl rfl) h1;have k2:=U 2 33 L rfl rfl;obtain⟨a3,rfl,rfl,rfl⟩:=open_bool Tryz.underlying4 (U 3 4 v3 rfl rfl) h3;clear z m;refine(zdg W a0 a1 L k2 g a3).mono fun e W' ⟨he,J⟩=>?_;subst he;exact⟨_,rfl,MU (pv:=[]) Y (fun _ _ _=>(vP (shut_bool Tryz.underlying4 _) trodAll_mk0)) (fun sp M=>(vP (shut_int Tryz.underlying3 w0) (vP (shut_int Tryz.underlying3 zft) (vP (YI af af (pE af) g J (fun p hp=>Y.lt p hp) (fun x hx=>by simp[hx]) M) (vP (shut_bool Tryz.underlying4 _) trodAll_mk0))))) (fun _ _=>rfl) aB J (ok_one af rfl (okWide_bool_mk Tryz.underlying4 _))⟩
theorem over:Rows.evalStoppedRow.holds Tryz.pinned (OpenSpec.ofChange Rows.evalStoppedSpec):=
 OpenClaim.holds_of_wide 5 Tryz.f5 rfl rfl rfl rfl rfl rfl rfl ⟨rfl,rfl,rfl,rfl,rfl⟩ rfl rfl rfl rfl rfl af Tryz.func5 af
  (pE af) (by unfold Func.isWrapper;first|(rw[az (by decide +kernel)];kernel_rfl)|(rw[ai (by decide +kernel)];exact⟨rfl,rfl⟩))
  (fun M O H enc _=>zdh M O H enc)
theorem proved:Rows.EvalStoppedSaid:=
 over
#print axioms proved
end Go.Proofs.YtljebeflbbgibaaGreat.evalStopped
