/- Lemmas for the last file. -/
import Derived.Test.YtbflaciihaijgaaPEP
set_option linter.all false
set_option maxHeartbeats 32000000
namespace Go.Ab
set_option maxRecDepth 20000
open Go
variable{qd:Prop}
def fB(h:qd:=by unfold iF;omega):=h
def Ay(h:qd:=by show iF (k:Int);unfold iF;omega):=h
def P8(h:qd:=by rw[oG,hr,Option.bind_some,Z,Option.bind_some]):=h
def x4(h:qd:=by simp only;omega):=h
def Io(h:qd:=by rw[List.length_set];exact cz.vl):=h
def P9(h:qd:=by rw[List.length_cons];simp only at bB ⊢;omega):=h
def Qa(h:qd:=by rw[List.getD_eq_getElem?_getD,List.getElem?_eq_getElem J];exact List.getElem_mem J):=h
def Qb(h:qd:=by rw[lu.2.2.2];show q.2.loops=_;rw[lq.n,hrn]):=h
def D4(h:qd:=by rw[List.length_cons];omega):=h
def Ip(h:qd:=by rw[List.length_append]):=h
def Qc(h:qd:=by show s.loops<=(fL ar.len r.1 v.2).loops;omega):=h
def Iq(h:qd:=by simp only[aF,Nat.reduceBEq, *];exact gQ (n:=g.ag.length) ac ac):=h
def zel:=@List.not_mem_nil
def zem:=@or_false
def r2:=@List.mem_or_eq_of_mem_set
def Ir:=@Int.tmod_eq_emod_of_nonneg
def zen:=And.intro @gE.{0} @zel.{0}
def kK:=And.intro zen @zem
end Go.Ab
namespace Go.Proofs.Ytbflaciihaijgaa
set_option maxRecDepth 20000
open Go Go.Ab Proofs.Try
variable(ρ:Nat->Int)
variable{l j:qy}{t k b:Int}{x:St}{Y:qu}{f:Fu}{c:Cx}{N O:List cc}{A B:Nat->Prop}{r:Bd}
section
def tyV6.tyF:=ad @ez (ad @cR (ad @dt (ad @fP (ad @gH (ad @sC (ad @sD (ad @iU (ad @vB (ad @ol (ad @KT (@KW)))))))))))
open tyV6
noncomputable def D5:{c:SC // aI 114 (f19.body.getD .skip)=c}:=by
 refine⟨?_,?_⟩;rotate_left
 .simp only[f19,bS,aI,bM,bI,bT,bU,Nat.blt,Nat.ble];rfl
def Is{i:Nat}{n:Nd}(C:l[i]?=some n)(h:dh l i≠0):NdOk n i/\(n.op=30->0<=n.au/\n.au<=7)/\zL n:=by
 have z:i<l.length:=by
  by_cases c:i<l.length
  .exact c
  .rw[kV ac]at C;cases C
 have O:=h;rw[vN z]at h;obtain⟨s,Y,g,m⟩:=GG C h;have K:=zy Y;have j:=ub Y;have M:n.op=3->0<=n.au/\n.au<=255:=fun e=>by
  rw[eu,af ac,af ac,iW,af ac,ay e,co,jq,jq]at m;exact m
 have Z:n.op=30->0<=n.au/\n.au<=7:=fun e=>by
  rw[eu,af ac,af ac,iW,af ac,af ac,af ac,ay e,co,jq,jq]at m;exact m
 have o:n.op=31->0<=n.au/\n.au<=15:=fun e=>by
  rw[eu,af ac,af ac,iW,af ac,af ac,af ac,af ac,ay e,co,jq,jq]at m;exact m
 refine⟨⟨fun k V=>⟨(j k V).1,(j k V).2.1⟩,M,fun e=>?_⟩,Z,o,M⟩;have a:ek 31=(-1,true):=aM;rw[e,dJ,a]at g;simp only[sk,bH]at g;rw[af ac,ay trivial]at g;simp only[jJ]at g;exact⟨(o e).1,(o e).2,ac,ac⟩
def It{i:Nat}(h:i<l.length):(eF l l.length)[i]?=some (dh l i):=by
 have:=CN (l:=l) h (aO _);rw[dF]at this;have K:i<(eF l l.length).length:=by rw[pY];exact h
 rw[a0 K]at this⊢;exact jH some this
def lA(u:Un)(g:Gr)(i:Nat):Bool:=match g.ag[i]? with
 |some n=>decide (dh g.ag i≠0)&&jU u g n
 |none=>true
def ge(l:qy)(i:Int):Nat:=(fz l l.length).getD i.toNat 0
def dV(u:Un)(g:Gr):Bool:=
 (decide (0<=g.params)&&decide (g.params<=6)&&decide ((g.ag.length:Int)<=2000))&&((List.range g.ag.length).all (lA u g)) &&
 (mR g.ag&&lL g.ag&&decide (0<=g.value)&&decide (g.value<g.ag.length)&&decide (0<=g.ab)&&decide (g.ab<g.ag.length)) &&
 (decide (dh g.ag g.value=1)&&decide (dh g.ag g.ab=2)&&decide (ge g.ag g.value=0)&&decide (ge g.ag g.ab=0))
noncomputable def Qd:En:=⟨48,false,ch Hf vX fun x=>.bool (jU x.u x.g x.n)⟩
def zeo:cT prog ρ Qd:=dg fun x I=>Z6 ρ x I
noncomputable def Qe:En:=⟨49,false,ch mO rb fun l=>.bool (mR l)⟩
def zep:cT prog ρ Qe:=dg fun l K=>zbl ρ l K
noncomputable def Qf:En:=⟨50,false,ch (fun l=>mO l/\∀n∈l,zL n) rb fun l=>.bool (lL l)⟩
def zeq:cT prog ρ Qf:=dg fun l K=>Z4 ρ l K.1 K.2
noncomputable def Qg:En:=⟨51,false,ch zM rb fun l=>Db (fz l l.length)⟩
def zer:cT prog ρ Qg:=dg fun l K=>zae ρ l K
noncomputable def wG:qA:=[G7,Qd,Qe,Qf,Qg]
def zes:gm prog ρ wG:=⟨Z0 ρ,zeo ρ,zep ρ,zeq ρ,zer ρ,trivial⟩
structure VgX where
 u:Un
 g:Gr
def wH(x:VgX):qs:=[.agg x.u.cells,.agg x.g.cells]
def zet(x y:VgX)(h:wH x=wH y):x=y:=by
 obtain⟨a,b⟩:=x;obtain⟨O,I⟩:=y;simp only[wH,dR,AV.agg.injEq,aU]at h;rw[Un.inj h.1,Gr.inj h.2]
def Iu(x:VgX):Prop:=mO x.g.ag/\x.u.aa.length<2^30/\x.u.funcs.length<2^30
theorem Qh{i:Nat}(h:i<l.length):((fz l l.length).map fun(m:Nat)=>[AV.int .u32 (m:Int)])[i]?=some [.int .u32 ((ge l i:Nat):Int)]:=by
 have K:i<(fz l l.length).length:=by rw[uh];exact h
 rw[fO,ge,iK,dF,a0 K];rfl
set_option maxRecDepth 100000 in
theorem zeu(x:VgX)(hx:Iu x):bX prog ρ 19 (wH x) (.bool (dV x.u x.g)):=eg fit (pls:=pls) (zes ρ) (.cons (.agg (Un.pure _)) (.cons (.agg (Gr.pure _)) .nil)) (.bool _) (by
 obtain⟨u,g⟩:=x;obtain⟨O,hua,huf⟩:=hx;have hw:zd0 (aH pls wG) 19:=dG (fun _=>rfl) rfl;rw[wH];simp only[]at O hua huf⊢;have hnl:=O.1;have ks:∀H,aY prog (aH pls wG) 47 [kB g.ag] H fun v H'=>v=gh (eF g.ag g.ag.length)/\H'=H:=fun H=>Z1 (fun _=>rfl) _ O H;by_cases c1:0<=g.params/\g.params<=6/\(g.ag.length:Int)<=2000
 .obtain⟨c11,c12,c13⟩:=c1;have d1:¬g.params<0:=ac;have d2:¬(6:Int)<g.params:=ac;have d3:¬(2000:Int)<g.ag.length:=ac;refine bF (M:=114) (rs:=[.tmp 4]) (hw.call _) hw.aD hw.aq func19 rfl rfl D5.2 rfl ?_;dsimp only[D5,bA,Nat.reduceAdd];repeat' (first
   |(apply aj ?_;clear hK K)|apply Ry.o ?_|apply b8 ?_|(apply ee ?_;first|refine bi (ks _) ?_)|(apply ct (fun J Z=>?_) (fun J Z=>?_)<;>try(cases J;done))|(apply bq (fun o Y=>?_) (fun o Y=>?_)<;>try(cases o;done))|apply ah ?_|(apply ai fun K hK=>?_)|apply ak ?_|apply am ?_|apply aq ?_|apply aw ?_)
  have L:∀i,i<g.ag.length->lA u g i=false->dV u g=false:=fun i hi h=>by
   have:((List.range g.ag.length).all (lA u g))=false:=by
    rw[List.all_eq_false];exact⟨i,mF.2 hi,by rw[h];simp⟩
   rw[dV,this];simp
  refine cA [2,3,5,27,28] [0,1] 29 g.ag.length (fun i E H=>∀j,j<i->lA u g j=true) eE (fun j hj=>ac) ?_;rintro i E Hi hi hcE hrH hnH hsI hJ;(try simp only[bp,bm,aU,aF,aW,Nat.reduceBEq,Nat.reduceAdd,Nat.reduceLeDiff,tyF, *]at hcE);(try simp only[bp,bm,aU,aF,aW,Nat.reduceBEq,Nat.reduceAdd,Nat.reduceLeDiff,tyF, *]at hrH);(try simp only[bj,bE,cm,bO,Nat.reduceAdd]at hnH);have hB0:(0 == Hi.next)=false:=bz ac;have hC0:(Hi.next == 0)=false:=bz ac;have hB1:(1 == Hi.next)=false:=bz ac;have hC1:(Hi.next == 1)=false:=bz ac;have ni:2<=Hi.next:=hnH
  by_cases hlt:i<g.ag.length
  .have hlt':(i:Int)<g.ag.length:=by omega
   have hgx:g.ag[i]?=some g.ag[i]:=a0 hlt;have hnk:=O.2 _ (cL hlt);have hsg:=It hlt;have hsf:=fun h=>Is hgx (l:=g.ag) (i:=i) h;have hok:lA u g i=(decide (dh g.ag i≠0)&&jU u g g.ag[i]):=by rw[lA,hgx]
   have vf:=L i hlt;clear L;generalize g.ag[i]=n at *;by_cases hs0:dh g.ag i=0
   .have vf2:=vf (by rw[hok,hs0];rfl);clear hok vf hJ hsf;rw[hs0]at hsg;repeat' (first
     |(apply aj ?_;clear hK K)|apply Ry.o ?_|apply b8 ?_|(apply ct (fun J Z=>?_) (fun J Z=>?_)<;>try(cases J;done))|(apply bq (fun o Y=>?_) (fun o Y=>?_)<;>try(cases o;done))|apply ah ?_|(apply ai fun K hK=>?_)|apply ak ?_|apply am ?_|apply aq ?_|apply aw ?_)
    all_goals (refine⟨aD,_,aN,?_⟩;try simp only[aC])
    rw[vf2]
   .have C:lA u g i=jU u g n:=by rw[hok,io hs0,fT]
    obtain⟨f1,f2,f3⟩:=hsf hs0;have kr:∀H,aY prog (aH pls wG) 48 [.agg u.cells,.agg g.cells,.agg n.cells] H fun v H'=>v=.bool (jU u g n)/\H'=H:=fun H=>cF (enc:=vX) (ok:=Hf) (out:=fun x=>.bool (jU x.u x.g x.n)) Z5 (x:=⟨u,g,n⟩) rfl ⟨fun h=>(f2 h).1,hnk,hua,huf⟩;clear hok hsf f1 f2 f3;by_cases hr:jU u g n=true
    .repeat' (first
      |(apply aj ?_;clear hK K)|apply Ry.o ?_|apply b8 ?_|(apply ee ?_;first|refine bi (kr _) ?_)|(apply ct (fun J Z=>?_) (fun J Z=>?_)<;>try(cases J;done))|(apply bq (fun o Y=>?_) (fun o Y=>?_)<;>try(cases o;done))|apply ah ?_|(apply ai fun K hK=>?_)|apply ak ?_|apply am ?_|apply aq ?_|apply aw ?_)
     refine⟨ac,a2,a2,ce,Iq,?_⟩;intro j hj;by_cases e:j=i
     .rw[e,C,hr]
     .exact hJ j ac
    .have hr':jU u g n=false:=by simpa using hr
     have vf2:=vf (by rw[C,hr']);clear vf hJ C;repeat' (first
      |(apply aj ?_;clear hK K)|apply Ry.o ?_|apply b8 ?_|(apply ee ?_;first|refine bi (kr _) ?_)|(apply ct (fun J Z=>?_) (fun J Z=>?_)<;>try(cases J;done))|(apply bq (fun o Y=>?_) (fun o Y=>?_)<;>try(cases o;done))|apply ah ?_|(apply ai fun K hK=>?_)|apply ak ?_|apply am ?_|apply aq ?_|apply aw ?_)
     all_goals (refine⟨aD,_,aN,?_⟩;try simp only[aC])
     rw[vf2]
  .have hlt':¬(i:Int)<g.ag.length:=by omega
   have z:∀j,j<g.ag.length->lA u g j=true:=fun j hj=>hJ j ac;have hfac:∀(j:Nat) (n:Nd),g.ag[j]?=some n->dh g.ag j≠0:=fun j n h=>by
    have hj:j<g.ag.length:=by
     by_cases c:j<g.ag.length
     .exact c
     .rw[kV ac]at h;cases h
    have:=z j hj;rw[lA,h,co,jq]at this;exact this.1
   have hlp:∀n∈g.ag,zL n:=fun n hn=>by
    obtain⟨j,hj,e⟩:=yu hn;have h:g.ag[j]?=some n:=by rw[a0 hj,e]
    exact(Is h (hfac j n h)).2.2
   have hld:zM g.ag:=⟨O,fun j n h=>(Is h (hfac j n h)).1⟩;have I:((List.range g.ag.length).all (lA u g))=true:=hM.2 fun j hj=>z j (mF.1 hj);have hvg:dV u g=((mR g.ag&&lL g.ag&&decide (0<=g.value)&&decide (g.value<g.ag.length)&&decide (0<=g.ab)&&decide (g.ab<g.ag.length)) &&
    (decide (dh g.ag g.value=1)&&decide (dh g.ag g.ab=2)&&decide (ge g.ag g.value=0)&&decide (ge g.ag g.ab=0))):=by
    rw[dV,I,io c11,io c12,io c13];simp
   rw[hvg];clear hvg I z hfac L hJ;have ka:∀H,aY prog (aH pls wG) 49 [kB g.ag] H fun v H'=>v=.bool (mR g.ag)/\H'=H:=fun H=>cF (enc:=rb) (ok:=mO) (out:=fun l=>.bool (mR l)) C2 (x:=g.ag) rfl O;have kl:∀H,aY prog (aH pls wG) 50 [kB g.ag] H fun v H'=>v=.bool (lL g.ag)/\H'=H:=fun H=>cF (enc:=rb) (ok:=fun l=>mO l/\∀n∈l,zL n) (out:=fun l=>.bool (lL l)) C2 (x:=g.ag) rfl ⟨O,hlp⟩;have kd:∀H,aY prog (aH pls wG) 51 [kB g.ag] H fun v H'=>v=.ao ((fz g.ag g.ag.length).map fun(m:Nat)=>[AV.int .u32 (m:Int)])/\H'=H:=fun H=>cF (enc:=rb) (ok:=zM) (out:=fun l=>Db (fz l l.length)) C2 (x:=g.ag) rfl hld;have hsl:=pY g.ag g.ag.length;clear hlp hld;generalize hdv:mR g.ag=dv at *;generalize hvv:lL g.ag=vl at *;by_cases cg:dv=true/\vl=true/\0<=g.value/\g.value<g.ag.length/\0<=g.ab/\g.ab<g.ag.length
   .obtain⟨rfl,rfl,v0,v1,s0,s1⟩:=cg;obtain⟨a,ha⟩:=kq v0;obtain⟨b,hb0⟩:=kq s0;have hal:a<g.ag.length:=ac;have hbl:b<g.ag.length:=ac;have q1:=It hal;have q2:=It hbl;have q3:=Qh hal;have q4:=Qh hbl;have e1:¬((a:Int)<0):=ac;have e2:¬((g.ag.length:Int)<=a):=ac;have e3:¬((b:Int)<0):=ac;have e4:¬((g.ag.length:Int)<=b):=ac;rw[io v0,io v1,io s0,io s1];simp only[vn,fT];rw[ha,hb0];clear v0 v1 s0 s1;repeat' (first
     |(apply aj ?_;clear hK K)|apply Ry.o ?_|apply b8 ?_|(apply ee ?_;first|refine bi (ka _) ?_|refine bi (kl _) ?_|refine bi (kd _) ?_)|(apply ct (fun J Z=>?_) (fun J Z=>?_)<;>try(cases J;done))|(apply bq (fun o Y=>?_) (fun o Y=>?_)<;>try(cases o;done))|apply ah ?_|(apply ai fun K hK=>?_)|apply ak ?_|apply am ?_|apply aq ?_|apply aw ?_)
    all_goals first
     |exact di
     |skip
    all_goals
     refine⟨aD,_,oq,?_⟩;simp only[aC]
    all_goals
     first
     |(congr 1;simp_all[Int.natCast_eq_zero];done)
     |trace_state
   .have V:∀(b:Bool),¬b=false->b=true:=fun b h=>by simpa using h
    by_cases bK:dv=false
    .have U:((dv&&vl&&decide (0<=g.value)&&decide (g.value<g.ag.length)&&decide (0<=g.ab)&&decide (g.ab<g.ag.length)) &&
     (decide (dh g.ag g.value=1)&&decide (dh g.ag g.ab=2)&&decide (ge g.ag g.value=0)&&decide (ge g.ag g.ab=0)))=false:=by rw[bK];rfl
     rw[U];clear U V cg;repeat' (first
      |(apply aj ?_;clear hK K)|apply Ry.o ?_|apply b8 ?_|(apply ee ?_;first|refine bi (ka _) ?_|refine bi (kl _) ?_|refine bi (kd _) ?_)|(apply ct (fun J Z=>?_) (fun J Z=>?_)<;>try(cases J;done))|(apply bq (fun o Y=>?_) (fun o Y=>?_)<;>try(cases o;done))|apply ah ?_|(apply ai fun K hK=>?_)|apply ak ?_|apply am ?_|apply aq ?_|apply aw ?_)
     all_goals first
      |exact di
      |skip
     all_goals (refine⟨aD,_,aN,?_⟩;try simp only[aC])
    have b1:=V _ bK;by_cases bW:vl=false
    .have U:((dv&&vl&&decide (0<=g.value)&&decide (g.value<g.ag.length)&&decide (0<=g.ab)&&decide (g.ab<g.ag.length)) &&
     (decide (dh g.ag g.value=1)&&decide (dh g.ag g.ab=2)&&decide (ge g.ag g.value=0)&&decide (ge g.ag g.ab=0)))=false:=by rw[bW];simp
     rw[U];clear U V cg;repeat' (first
      |(apply aj ?_;clear hK K)|apply Ry.o ?_|apply b8 ?_|(apply ee ?_;first|refine bi (ka _) ?_|refine bi (kl _) ?_|refine bi (kd _) ?_)|(apply ct (fun J Z=>?_) (fun J Z=>?_)<;>try(cases J;done))|(apply bq (fun o Y=>?_) (fun o Y=>?_)<;>try(cases o;done))|apply ah ?_|(apply ai fun K hK=>?_)|apply ak ?_|apply am ?_|apply aq ?_|apply aw ?_)
     all_goals first
      |exact di
      |skip
     all_goals (refine⟨aD,_,aN,?_⟩;try simp only[aC])
    have b2:=V _ bW;by_cases a3:g.value<0
    .have U:((dv&&vl&&decide (0<=g.value)&&decide (g.value<g.ag.length)&&decide (0<=g.ab)&&decide (g.ab<g.ag.length)) &&
     (decide (dh g.ag g.value=1)&&decide (dh g.ag g.ab=2)&&decide (ge g.ag g.value=0)&&decide (ge g.ag g.ab=0)))=false:=by rw[iy (by omega:¬0<=g.value)];simp
     rw[U];clear U V cg;repeat' (first
      |(apply aj ?_;clear hK K)|apply Ry.o ?_|apply b8 ?_|(apply ee ?_;first|refine bi (ka _) ?_|refine bi (kl _) ?_|refine bi (kd _) ?_)|(apply ct (fun J Z=>?_) (fun J Z=>?_)<;>try(cases J;done))|(apply bq (fun o Y=>?_) (fun o Y=>?_)<;>try(cases o;done))|apply ah ?_|(apply ai fun K hK=>?_)|apply ak ?_|apply am ?_|apply aq ?_|apply aw ?_)
     all_goals first
      |exact di
      |skip
     all_goals (refine⟨aD,_,aN,?_⟩;try simp only[aC])
    by_cases a4:(g.ag.length:Int)<=g.value
    .have U:((dv&&vl&&decide (0<=g.value)&&decide (g.value<g.ag.length)&&decide (0<=g.ab)&&decide (g.ab<g.ag.length)) &&
     (decide (dh g.ag g.value=1)&&decide (dh g.ag g.ab=2)&&decide (ge g.ag g.value=0)&&decide (ge g.ag g.ab=0)))=false:=by rw[iy (by omega:¬g.value<g.ag.length)];simp
     rw[U];clear U V cg;repeat' (first
      |(apply aj ?_;clear hK K)|apply Ry.o ?_|apply b8 ?_|(apply ee ?_;first|refine bi (ka _) ?_|refine bi (kl _) ?_|refine bi (kd _) ?_)|(apply ct (fun J Z=>?_) (fun J Z=>?_)<;>try(cases J;done))|(apply bq (fun o Y=>?_) (fun o Y=>?_)<;>try(cases o;done))|apply ah ?_|(apply ai fun K hK=>?_)|apply ak ?_|apply am ?_|apply aq ?_|apply aw ?_)
     all_goals first
      |exact di
      |skip
     all_goals (refine⟨aD,_,aN,?_⟩;try simp only[aC])
    by_cases a5:g.ab<0
    .have U:((dv&&vl&&decide (0<=g.value)&&decide (g.value<g.ag.length)&&decide (0<=g.ab)&&decide (g.ab<g.ag.length)) &&
     (decide (dh g.ag g.value=1)&&decide (dh g.ag g.ab=2)&&decide (ge g.ag g.value=0)&&decide (ge g.ag g.ab=0)))=false:=by rw[iy (by omega:¬0<=g.ab)];simp
     rw[U];clear U V cg;repeat' (first
      |(apply aj ?_;clear hK K)|apply Ry.o ?_|apply b8 ?_|(apply ee ?_;first|refine bi (ka _) ?_|refine bi (kl _) ?_|refine bi (kd _) ?_)|(apply ct (fun J Z=>?_) (fun J Z=>?_)<;>try(cases J;done))|(apply bq (fun o Y=>?_) (fun o Y=>?_)<;>try(cases o;done))|apply ah ?_|(apply ai fun K hK=>?_)|apply ak ?_|apply am ?_|apply aq ?_|apply aw ?_)
     all_goals first
      |exact di
      |skip
     all_goals (refine⟨aD,_,aN,?_⟩;try simp only[aC])
    have a6:(g.ag.length:Int)<=g.ab:=by
     by_cases c:(g.ag.length:Int)<=g.ab
     .exact c
     .exact absurd ⟨b1,b2,ac,ac,ac,ac⟩ cg
    have U:((dv&&vl&&decide (0<=g.value)&&decide (g.value<g.ag.length)&&decide (0<=g.ab)&&decide (g.ab<g.ag.length)) &&
     (decide (dh g.ag g.value=1)&&decide (dh g.ag g.ab=2)&&decide (ge g.ag g.value=0)&&decide (ge g.ag g.ab=0)))=false:=by rw[iy (by omega:¬g.ab<g.ag.length)];simp
    rw[U];clear U V cg;repeat' (first
     |(apply aj ?_;clear hK K)|apply Ry.o ?_|apply b8 ?_|(apply ee ?_;first|refine bi (ka _) ?_|refine bi (kl _) ?_|refine bi (kd _) ?_)|(apply ct (fun J Z=>?_) (fun J Z=>?_)<;>try(cases J;done))|(apply bq (fun o Y=>?_) (fun o Y=>?_)<;>try(cases o;done))|apply ah ?_|(apply ai fun K hK=>?_)|apply ak ?_|apply am ?_|apply aq ?_|apply aw ?_)
    all_goals first
     |exact di
     |skip
    all_goals (refine⟨aD,_,aN,?_⟩;try simp only[aC])
 .have hv:dV u g=false:=by
   rw[dV];cases h:(decide (0<=g.params)&&decide (g.params<=6)&&decide ((g.ag.length:Int)<=2000))with
   |false=>simp
   |true=>
    simp only[jJ]at h;exact absurd ⟨h.1.1,h.1.2,h.2⟩ c1
  rw[hv];refine bF (M:=114) (rs:=[.tmp 4]) (hw.call _) hw.aD hw.aq func19 rfl rfl D5.2 rfl ?_;dsimp only[D5,bA,Nat.reduceAdd];by_cases d1:g.params<0
  .repeat' (first
    |(apply aj ?_;clear hK K)|apply Ry.o ?_|apply b8 ?_|(apply ct (fun J Z=>?_) (fun J Z=>?_)<;>try(cases J;done))|(apply bq (fun o Y=>?_) (fun o Y=>?_)<;>try(cases o;done))|apply ah ?_|(apply ai fun K hK=>?_)|apply ak ?_|apply am ?_|apply aq ?_|apply aw ?_)
   all_goals (refine⟨aD,_,aN,?_⟩;try simp only[aC])
  .by_cases d2:(6:Int)<g.params
   .repeat' (first
     |(apply aj ?_;clear hK K)|apply Ry.o ?_|apply b8 ?_|(apply ct (fun J Z=>?_) (fun J Z=>?_)<;>try(cases J;done))|(apply bq (fun o Y=>?_) (fun o Y=>?_)<;>try(cases o;done))|apply ah ?_|(apply ai fun K hK=>?_)|apply ak ?_|apply am ?_|apply aq ?_|apply aw ?_)
    all_goals (refine⟨aD,_,aN,?_⟩;try simp only[aC])
   .have d3:(2000:Int)<g.ag.length:=by omega
    repeat' (first
     |(apply aj ?_;clear hK K)|apply Ry.o ?_|apply b8 ?_|(apply ct (fun J Z=>?_) (fun J Z=>?_)<;>try(cases J;done))|(apply bq (fun o Y=>?_) (fun o Y=>?_)<;>try(cases o;done))|apply ah ?_|(apply ai fun K hK=>?_)|apply ak ?_|apply am ?_|apply aq ?_|apply aw ?_)
    all_goals (refine⟨aD,_,aN,?_⟩;try simp only[aC]))
end
section
def fC(l:qy)(n:Nd):Int:=match fy l.length (eF l l.length) n.ak with
 |none=>0
 |some s=>if dJ n.op s&&eu l n then je n s else 0
def zev{op:Int}{s:qu}(h:dJ op s=true)(e:op=25):s.length=1:=by
 subst e;unfold dJ at h;have:ek 25=(1,true):=aM;rw[this]at h;simp only[sk,bH]at h;split at h
 .cases h
 .omega
theorem Qi(l:qy)(n:Nd):dh (l++[n]) l.length=fC l n:=by
 rw[vN az];have U:(l++[n]).take l.length=l:=List.take_left;have M:eF (l++[n]) l.length=eF l l.length:=by
  have:=GH (l:=l++[n]) (m:=l.length) (i:=l.length) (aO _);rw[U]at this;exact this.symm
 have C:(l++[n])[l.length]?=some n:=by rw[kN (aO _),lU];rfl
 unfold jT fC;rw[M,C];simp only;cases j:fy l.length (eF l l.length) n.ak with
 |none=>rfl
 |some s=>
  simp only;by_cases c:dJ n.op s=true
  .have e:eu l n=eu (l++[n]) n:=by
    have:=LU (l:=l++[n]) (m:=l.length) (n:=n) fun Z=>by
     have K:=zy j;have V:=zev c Z;cases Y:n.ak with
     |nil=>rw[Y,V]at K;simp at K
     |cons k L=>
      refine⟨k,L,rfl,?_⟩;have:=ub j k (by rw[Y];exact ei);omega
    rw[U]at this;exact this
   rw[e]
  .have O:dJ n.op s=false:=by simpa using c
   rw[O,jS,jS]
theorem Qj{l:qy}:∀{L:qu},(∀k∈L,0<=k/\k<l.length/\dh l k≠0)->fy l.length (eF l l.length) L=some (L.map (dh l))
 |[],_=>rfl
 |k::L,h=>by
  obtain⟨Z,g,m⟩:=h k ei;obtain⟨k,rfl⟩:=kq Z;have e:=CN (l:=l) (i:=l.length) (j:=k) ac (aO _);rw[fy,iK,e,af ac,Qj fun q K=>h q (ej _ K)];rfl
def mU{n:Nd}(h:∀k∈n.ak,0<=k/\k<l.length/\dh l k≠0):fC l n=if dJ n.op (n.ak.map (dh l))&&eu l n then je n (n.ak.map (dh l))else 0:=by
 unfold fC;rw[Qj h]
structure IsT (l:qy) (t:Int) (k:Int):Prop where
 lo:0<=k
 hi:k<l.length
 s:dh l k=t
def IsT.le(h:IsT l t k)(K:l<+:j):IsT j t k:=by
 obtain⟨m,rfl⟩:=K;obtain⟨i,g,Z⟩:=h;obtain⟨k,rfl⟩:=kq i;exact⟨i,by rw[fg];omega,by rw[zA ac];exact Z⟩
section
variable {l:qy}
def Qk(n:Int):fC l ⟨1,n,[]⟩=1:=by
 rw[mU az];simp[dJ,ek,il,eW,eu,je]
def Qm{n:Int}(O:0<=n)(h1:n<=5):fC l ⟨2,n,[]⟩=1:=by
 rw[mU az];simp[dJ,ek,il,eW,eu,iW,je,O,h1]
def D6{n:Int}(O:0<=n)(h1:n<=255):fC l ⟨3,n,[]⟩=if n.tmod 16=0 then 2 else 1:=by
 rw[mU az];simp[dJ,ek,il,eW,eu,iW,je,O,h1]
def Qn:fC l ⟨26,0,[]⟩=2:=by
 rw[mU az];simp[dJ,ek,il,eW,eu,iW,je]
def Qo{op a:Int}(j:IsT l 1 a)(o:IsT l 1 b)(Y:4<=op)(h1:op<=19):fC l ⟨op,0,[a,b]⟩=1:=by
 have q:∀k:Int,(k<4\/19<k)->¬op=k:=fun k Z e=>ac;have O:ek op=(2,true):=by
  unfold ek;rw[af ac,af ac,af ac,af ac,af ac,ay ⟨Y,h1⟩]
 rw[mU (fun k Z=>by
  simp only[kK]at Z;rcases Z with rfl|rfl
  .exact⟨j.lo,j.hi,by rw[j.s];decide⟩
  .exact⟨o.lo,o.hi,by rw[o.s];decide⟩)]
 simp only[dS,mK,j.s,o.s];have v:dJ op [1,1]=true:=by
  unfold dJ;rw[O,af az,af az,af (q 31 ac),af (q 30 ac),af (fun h=>q 22 ac h.1)];unfold il;rw[af (q 22 ac),af (by have:=q 23 ac;have:=q 27 ac;have:=q 29 ac;omega),af (q 28 ac),af (q 24 ac),af (q 25 ac)];rfl
 have i:eu l ⟨op,0,[a,b]⟩=true:=by
  unfold eu iW;simp only[];rw[af (q 1 ac),af (q 27 ac),af (q 2 ac),af (q 3 ac),af (by have:=q 23 ac;have:=q 28 ac;omega),af (q 30 ac),af (q 31 ac),af (q 25 ac)];rfl
 rw[v,i];simp only[vn,bC];unfold je;simp only[];rw[af (q 31 ac),af ac,af (q 22 ac),af (fun h=>q 3 ac h.1),af (fun h=>q 25 ac h.1)]
def Qp{op a:Int}(j:IsT l 1 a)(O:op=20\/op=21):fC l ⟨op,0,[a]⟩=1:=by
 rw[mU (fun k Z=>by
  simp only[kK]at Z;subst Z;exact⟨j.lo,j.hi,by rw[j.s];decide⟩)]
 simp only[dS,mK,j.s];rcases O with rfl|rfl<;>simp[dJ,ek,il,eW,eu,iW,je]
def Qq{c a:Int}(V:IsT l 1 c)(j:IsT l t a)(o:IsT l t b)(U:t=1\/t=2):fC l ⟨22,0,[c,a,b]⟩=t:=by
 rw[mU (fun k Z=>by
  simp only[kK]at Z;rcases Z with rfl|rfl|rfl
  .exact⟨V.lo,V.hi,by rw[V.s];decide⟩
  .exact⟨j.lo,j.hi,by rw[j.s];omega⟩
  .exact⟨o.lo,o.hi,by rw[o.s];omega⟩)]
 simp only[dS,mK,j.s,o.s,V.s];rcases U with rfl|rfl<;>simp[dJ,ek,il,eW,eu,iW,je]
def Iv{x y a:Int}(I:x≠0)(Y:y≠0)(j:IsT l x a)(o:IsT l y b):∀k∈[a,b],0<=k/\k<l.length/\dh l k≠0:=fun k Z=>by
 simp only[kK]at Z;rcases Z with rfl|rfl
 .exact⟨j.lo,j.hi,by rw[j.s];exact I⟩
 .exact⟨o.lo,o.hi,by rw[o.s];exact Y⟩
def Qr{n s a:Int}(M:IsT l 2 s)(j:IsT l 1 a)(O:0<=n)(h1:n<=3):fC l ⟨23,n,[s,a]⟩=1:=by
 rw[mU (Iv aM aM M j)];simp[M.s,j.s,dJ,ek,il,eW,eu,iW,je,O,h1]
def Qs{n s a:Int}(M:IsT l 2 s)(j:IsT l 1 a)(O:1<=n)(h1:n<=1000016):fC l ⟨27,n,[s,a]⟩=2:=by
 rw[mU (Iv aM aM M j)];simp[M.s,j.s,dJ,ek,il,eW,eu,iW,je,O,h1]
def Qt{s a:Int}(M:IsT l 2 s)(j:IsT l 1 a):fC l ⟨29,0,[s,a]⟩=2:=by
 rw[mU (Iv aM aM M j)];simp[M.s,j.s,dJ,ek,il,eW,eu,iW,je]
def Qu{n s a:Int}(M:IsT l 2 s)(j:IsT l 1 a)(o:IsT l 1 b)(O:0<=n)(h1:n<=3):fC l ⟨28,n,[s,a,b]⟩=2:=by
 rw[mU (fun k Z=>by
  simp only[kK]at Z;rcases Z with rfl|rfl|rfl
  .exact⟨M.lo,M.hi,by rw[M.s];decide⟩
  .exact⟨j.lo,j.hi,by rw[j.s];decide⟩
  .exact⟨o.lo,o.hi,by rw[o.s];decide⟩)]
 simp[M.s,j.s,o.s,dJ,ek,il,eW,eu,iW,je,O,h1]
def Qv{s:Int}(M:IsT l 2 s):fC l ⟨24,0,[s]⟩=1:=by
 rw[mU (fun k j=>by
  simp only[kK]at j;subst j;exact⟨M.lo,M.hi,by rw[M.s];decide⟩)]
 simp[M.s,dJ,ek,il,eW,eu,iW,je]
theorem D7:∀{Y:qu},(∀a∈Y,IsT l 1 a)->Y.map (dh l)=List.replicate Y.length 1
 |[],_=>rfl
 |a::Y,h=>by
  rw[dS,(h a ei).s,D7 fun x I=>h x (ej _ I)];rfl
def Qw{n s:Int}(M:IsT l 2 s)(Z:∀a∈Y,IsT l 1 a)(K:Y.length<=6)(O:0<=n)(h1:n<=7):fC l ⟨30,n,s::Y⟩=2:=by
 rw[mU (fun k j=>by
  rcases gE.1 j with rfl|j
  .exact⟨M.lo,M.hi,by rw[M.s];decide⟩
  .exact⟨(Z k j).lo,(Z k j).hi,by rw[(Z k j).s];decide⟩)]
 simp only[dS,M.s,D7 Z];have v:dJ 30 (2::List.replicate Y.length 1)=true:=by
  have a:ek 30=(-1,true):=aM;unfold dJ;rw[a];simp only[sk,bH];rw[af ac,af ac,ay trivial];simp only[eT,pq,zn,List.tail_cons,jJ];refine⟨⟨⟨ac,ac⟩,trivial⟩,?_⟩;rw[hM];intro x I;rw[CH I];rfl
 have i:eu l ⟨30,n,s::Y⟩=true:=by simp[eu,iW,O,h1]
 rw[v,i];simp[je]
def Qy{n s d st:Int}{bs:qu}(Z:IsT l 2 s)(V:∀a∈Y,IsT l 1 a)(hd:IsT l 1 d)(O:IsT l 2 st)(L:∀a∈bs,IsT l 1 a)(K:Y.length=bs.length)(J:Y.length<=15)(I:0<=n)(h1:n<=15):fC l ⟨31,n,s::Y++[d,st]++bs⟩=3:=by
 rw[mU (fun k j=>by
  simp only[kU,kK]at j;rcases j with((rfl|j)|rfl|rfl)|j
  .exact⟨Z.lo,Z.hi,by rw[Z.s];decide⟩
  .exact⟨(V k j).lo,(V k j).hi,by rw[(V k j).s];decide⟩
  .exact⟨hd.lo,hd.hi,by rw[hd.s];decide⟩
  .exact⟨O.lo,O.hi,by rw[O.s];decide⟩
  .exact⟨(L k j).lo,(L k j).hi,by rw[(L k j).s];decide⟩)]
 have z:(s::Y++[d,st]++bs).map (dh l)=2::(List.replicate Y.length 1++1::2::List.replicate Y.length 1):=by
  simp only[sw,dS,mK,Z.s,hd.s,O.s,D7 V,D7 L,K];simp
 simp only[];rw[z];generalize hn:Y.length=m at *;have M:(2::(List.replicate m (1:Int)++1::2::List.replicate m 1)).length=2*m+3:=ca;have v:dJ 31 (2::(List.replicate m 1++1::2::List.replicate m 1))=true:=by
  have a:ek 31=(-1,true):=aM;unfold dJ;rw[a];simp only[sk,bH];rw[af ac,ay trivial];have U:=Y7 (2::(List.replicate m (1:Int)++1::2::List.replicate m 1)) ac ac;have g:(2*m+3)/2=m+1:=ac;rw[M]at U⊢;rw[U,g];have o:∀k,vO (List.replicate k (1:Int))=true:=fun k=>by
   rw[vO,hM];intro x C;rw[CH C];rfl
  have h1:((2::(List.replicate m (1:Int)++1::2::List.replicate m 1)).drop 1).take (m+1)=List.replicate (m+1) 1:=by
   rw[zg,fF,List.take_append,pq,gZ az,show m+1-m=1 by omega];rw[List.replicate_succ'];rfl
  have h2:(2::(List.replicate m (1:Int)++1::2::List.replicate m 1)).getD (m+1+1) 0=2:=by
   rw[List.getD_cons_succ,dF,kN az,pq,show m+1-m=1 by omega];rfl
  have h3:(2::(List.replicate m (1:Int)++1::2::List.replicate m 1)).drop (m+1+2)=List.replicate m 1:=by
   rw[zg,List.drop_append,pq,Ey az,pJ,show m+1+1-m=2 by omega];rfl
  rw[h1,h2,h3,o,o];have e4:et (((2*m+3:Nat):Nat):Int)<=16:=zm;simp only[zn,jJ];refine⟨⟨⟨ac,ac⟩,e4⟩,⟨⟨⟨trivial,trivial⟩,trivial⟩,trivial⟩⟩
 have i:eu l ⟨31,n,s::Y++[d,st]++bs⟩=true:=by simp[eu,iW,I,h1]
 rw[v,i];simp[je]
def D8{n:Int}{q:Nd}(Z:IsT l 3 k)(K:l[k.toNat]?=some q)(O:0<=n)(h1:n<et q.ak.length):fC l ⟨25,n,[k]⟩=if n=0 then 2 else 1:=by
 rw[mU (fun j m=>by
  simp only[kK]at m;subst m;exact⟨Z.lo,Z.hi,by rw[Z.s];decide⟩)]
 have i:eu l ⟨25,n,[k]⟩=true:=by
  have:xD l k=q.ak.length:=by rw[xD,K]
  simp[eu,iW,this,O];omega
 simp only[dS,mK,Z.s];rw[i];by_cases c:n=0<;>simp[dJ,ek,il,eW,je,c]
end
def Az(l:qy):Prop:=∀i:Nat,i<l.length->dh l i≠0
theorem Qz{l:qy}{i:Nat}(z:i<=l.length):∀{L s:qu},fy i (eF l i) L=some s->fy l.length (eF l l.length) L=some s
 |[],s,h=>by cases h;rfl
 |k::L,s,h=>by
  rw[fy]at h;split at h
  .cases h
  .rename_i c;obtain⟨t,U,rfl⟩:=pK.1 h;obtain⟨k,rfl⟩:=kq (by omega:0<=k);rw[iK]at c;have o:=CN (l:=l) (i:=i) (j:=k) ac z;have J:=CN (l:=l) (i:=l.length) (j:=k) ac (aO _);rw[fy,iK,J,af (by rw[o]at c;omega),Qz z U];simp only[jo,iK,o]
def zew{i:Nat}{n:Nd}(C:l[i]?=some n)(h:dh l i≠0):dh l i=fC l n:=by
 have z:i<l.length:=by
  by_cases c:i<l.length
  .exact c
  .rw[kV ac]at C;cases C
 rw[vN z]at h⊢;unfold jT at h⊢;unfold fC;rw[C]at h⊢;simp only at h⊢;cases j:fy i (eF l i) n.ak with
 |none=>rw[j]at h;exact absurd rfl h
 |some s=>rw[Qz ac j]
def Iw{n:Nd}(L:Az l)(h:fC l n=t)(U:t≠0):IsT (jy l n) t (iB l n)/\Az (jy l n):=by
 unfold jy;split
 .rename_i c;have J:=Of c;refine⟨⟨ac,ac,?_⟩,L⟩;rw[zew J (L _ c)];exact h
 .rename_i c;have:=HN l n;have e:iB l n=l.length:=ac;rw[e];refine⟨⟨ac,by rw[fg];simp;omega,?_⟩,fun i z=>?_⟩
  .rw[Qi];exact h
  .rw[fg,List.length_singleton]at z;by_cases q:i<l.length
   .rw[zA q];exact L i q
   .obtain rfl:i=l.length:=by omega
    rw[Qi,h];exact U
def iF(n:Int):Prop:=-9223372036854775808<=n/\n<9223372036854775808
mutual
def iX:Ex->Prop
 | .mk _ n _ _ L=>iF n/\hZ L
def hZ:qG->Prop
 |[]=>True
 |e::es=>iX e/\hZ es
end
theorem Ix(x:Ex):iX x↔iF x.n/\hZ x.ak:=by cases x;rw[iX];rfl
mutual
def nY:St->Prop
 | .mk _ _ _ _ a v C L M=>iX a/\iX v/\hZ C/\iY L/\iY M
def iY:qD->Prop
 |[]=>True
 |x::l=>nY x/\iY l
end
theorem D9(x:St):nY x↔iX x.aW/\iX x.value/\hZ x.args/\iY x.a5/\iY x.a6:=by cases x;rw[nY];rfl
structure NdP (c:Cx) (np:Nat) (x:Nd):Prop where
 op:0<=x.op/\x.op<256
 au:iF x.au
 len:x.ak.length<=40
 pa:x.op=2->x.au<np
 ar:x.op=23\/x.op=28->x.au<c.aa.length
 fn:x.op=30->0<=x.au/\∃f,c.funcs[x.au.toNat]?=some f/\x.ak.length=1+f.params.length
structure zd3 (c:Cx):Prop where
 a:∀x∈c.aa,1<=x.len/\x.len<=16
 al:c.aa.length<=4
 fl:c.funcs.length<=8
 fp:∀f∈c.funcs,f.params.length<=6
 nl:c.aw.length<=14
structure LI (c:Cx) (np:Nat) (s:Bd):Prop where
 nd:s.l.Nodup
 wf:Az s.l
 p:∀x∈s.l,NdP c np x
 v:∀x∈s.vars,IsT s.l 1 x
 vl:s.vars.length=c.aw.length
 st:IsT s.l 2 s.ab
def QA{n:Nd}(h:l.Nodup):(jy l n).Nodup:=by
 unfold jy;split
 .exact h
 .rename_i c;exact DX.2 ⟨h,az,fun a j b o=>by
   simp only[kK]at o;subst o;rintro rfl;exact c (Oe.2 j)⟩
def QB(l:qy)(n:Nd):(jy l n).length<=l.length+1:=by
 rw[Og];split<;>omega
section
variable {c:Cx} {np:Nat} {s:Bd}
def LI.setS(h:LI c np s){x:Int}(I:IsT s.l 2 x):LI c np {s with ab:=x}:=⟨h.nd,h.wf,h.p,h.v,h.vl,I⟩
def LI.setV(h:LI c np s){x:qu}(I:∀y∈x,IsT s.l 1 y)(K:x.length=c.aw.length):LI c np {s with vars:=x}:=⟨h.nd,h.wf,h.p,I,K,h.st⟩
def LI.cn(h:LI c np s)(x:Nat):LI c np {s with loops:=x}:=⟨h.nd,h.wf,h.p,h.v,h.vl,h.st⟩
def jY(h:LI c np s){n:Nd}(M:fC s.l n=t)(U:t≠0)(Z:NdP c np n):LI c np (ax n s).2/\IsT (ax n s).2.l t (ax n s).1/\(ax n s).2.l.length<=s.l.length+1:=by
 obtain⟨a,b⟩:=Iw h.wf M U;refine⟨⟨QA h.nd,b,fun x I=>?_,fun x I=>(h.v x I).le (wl _ _),h.vl,h.st.le (wl _ _)⟩,a,QB _ _⟩;rcases sX.1 I with I|rfl
 .exact h.p x I
 .exact Z
def iG(c:Cx)(np:Nat){op imm:Int}{kids:qu}(I:0<=op/\op<256)(Y:iF imm)(j:kids.length<=40)(h2:op≠2)(z:op≠23)(Z:op≠28)(O:op≠30):NdP c np ⟨op,imm,kids⟩:=
 ⟨I,Y,j,fun e=>absurd e h2,fun e=>e.elim (fun e=>absurd e z) fun e=>absurd e Z,fun e=>absurd e O⟩
def x5(h:LI c np s){a:Int}(Z:IsT s.l 1 k)(j:IsT s.l t a)(o:IsT s.l t b)(U:t=1\/t=2):LI c np (bZ k a b s).2/\IsT (bZ k a b s).2.l t (bZ k a b s).1/\(bZ k a b s).2.l.length<=s.l.length+1:=by
 unfold bZ;split
 .exact⟨h,j,dH _⟩
 .exact jY h (Qq Z j o U) ac (iG _ _ aM fB az aM aM aM aM)
def Iy(h:LI c np s){v:Int}(V:IsT s.l 1 v)(O:1<=t)(h1:t<=1000016):LI c np (lj t v s)/\(lj t v s).l.length<=s.l.length+1:=by
 have:=jY h (n:=⟨27,t,[s.ab,v]⟩) (Qs h.st V O h1) aM (iG _ _ aM fB az aM aM aM aM);exact⟨this.1.setS this.2.1,this.2.2⟩
def AA(h:LI c np s){n:Int}(C:iF n):LI c np (ax ⟨1,n,[]⟩ s).2/\IsT (ax ⟨1,n,[]⟩ s).2.l 1 (ax ⟨1,n,[]⟩ s).1/\(ax ⟨1,n,[]⟩ s).2.l.length<=s.l.length+1:=
 jY h (Qk n) aM (iG _ _ aM C az aM aM aM aM)
def Ea(h:LI c np s){op a:Int}(j:IsT s.l 1 a)(o:IsT s.l 1 b)(O:4<=op)(h1:op<=19):LI c np (ax ⟨op,0,[a,b]⟩ s).2/\IsT (ax ⟨op,0,[a,b]⟩ s).2.l 1 (ax ⟨op,0,[a,b]⟩ s).1/\(ax ⟨op,0,[a,b]⟩ s).2.l.length<=s.l.length+1:=
 jY h (Qo j o O h1) aM (iG _ _ ac fB az ac ac ac ac)
def QC(h:LI c np s){n i:Int}(C:iF n)(z:IsT s.l 1 i):LI c np (fL n i s)/\(fL n i s).l.length<=s.l.length+3:=by
 obtain⟨bK,bW,g⟩:=AA h C;have K:=z.le (dB ⟨1,n,[]⟩ s).le.l;obtain⟨m,Z,U⟩:=Ea bK (op:=19) K bW aM aM;obtain⟨c1,c2⟩:=Iy m (t:=2) Z aM aM;exact⟨c1,by have:(fL n i s).l.length<=_:=c2;omega⟩
def zex(h:LI c np s){i:Int}(z:IsT s.l 1 i):LI c np (mn i s)/\(mn i s).l.length<=s.l.length+3:=by
 obtain⟨bK,bW,g⟩:=AA h (n:=0) fB;have K:=z.le (dB ⟨1,0,[]⟩ s).le.l;obtain⟨m,Z,U⟩:=Ea bK (op:=16) K bW aM aM;obtain⟨c1,c2⟩:=Iy m (t:=1) Z aM aM;exact⟨c1,by have:(mn i s).l.length<=_:=c2;omega⟩
def QD(V:zd3 c)(h:LI c np s){i:Int}(z:IsT s.l 1 i){k:Nat}(j:k<c.aa.length):LI c np (ax ⟨23,k,[s.ab,i]⟩ s).2/\IsT (ax ⟨23,k,[s.ab,i]⟩ s).2.l 1 (ax ⟨23,k,[s.ab,i]⟩ s).1/\(ax ⟨23,k,[s.ab,i]⟩ s).2.l.length<=s.l.length+1:=by
 have al:=V.al;exact jY h (Qr h.st z ac ac) aM ⟨by show 0<=(23:Int)/\(23:Int)<256;decide,Ay,by show 2<=40;decide,fun e=>absurd e (by show ¬(23:Int)=2;decide),fun _=>by show(k:Int)<_;omega,fun e=>absurd e (by show ¬(23:Int)=30;decide)⟩
def QE(V:zd3 c)(h:LI c np s){i v:Int}(z:IsT s.l 1 i)(Z:IsT s.l 1 v){k:Nat}(j:k<c.aa.length):LI c np (ax ⟨28,k,[s.ab,i,v]⟩ s).2/\IsT (ax ⟨28,k,[s.ab,i,v]⟩ s).2.l 2 (ax ⟨28,k,[s.ab,i,v]⟩ s).1/\(ax ⟨28,k,[s.ab,i,v]⟩ s).2.l.length<=s.l.length+1:=by
 have al:=V.al;exact jY h (Qu h.st z Z ac ac) aM ⟨by show 0<=(28:Int)/\(28:Int)<256;decide,Ay,by show 3<=40;decide,fun e=>absurd e (by show ¬(28:Int)=2;decide),fun _=>by show(k:Int)<_;omega,fun e=>absurd e (by show ¬(28:Int)=30;decide)⟩
def zey(h:LI c np s){v:Int}(V:IsT s.l 1 v):LI c np (ax ⟨29,0,[s.ab,v]⟩ s).2/\IsT (ax ⟨29,0,[s.ab,v]⟩ s).2.l 2 (ax ⟨29,0,[s.ab,v]⟩ s).1/\(ax ⟨29,0,[s.ab,v]⟩ s).2.l.length<=s.l.length+1:=
 jY h (Qt h.st V) aM (iG _ _ aM fB az aM aM aM aM)
def zez(h:LI c np s){v:Int}(V:IsT s.l 2 v):LI c np (ax ⟨24,0,[v]⟩ s).2/\IsT (ax ⟨24,0,[v]⟩ s).2.l 1 (ax ⟨24,0,[v]⟩ s).1/\(ax ⟨24,0,[v]⟩ s).2.l.length<=s.l.length+1:=
 jY h (Qv V) aM (iG _ _ aM fB az aM aM aM aM)
def QF(V:zd3 c)(h:LI c np s)(j:∀a∈Y,IsT s.l 1 a){k:Nat}(i:c.funcs[k]?=some f)(K:Y.length=f.params.length):LI c np (ax ⟨30,k,s.ab::Y⟩ s).2/\IsT (ax ⟨30,k,s.ab::Y⟩ s).2.l 2 (ax ⟨30,k,s.ab::Y⟩ s).1/\(ax ⟨30,k,s.ab::Y⟩ s).2.l.length<=s.l.length+1:=by
 have Z:=V.fl;have U:=V.fp f (lV i);have O:k<c.funcs.length:=by
  by_cases q:k<c.funcs.length
  .exact q
  .rw[kV ac]at i;cases i
 exact jY h (Qw h.st j ac ac ac) aM ⟨by show 0<=(30:Int)/\(30:Int)<256;decide,Ay,by show Y.length+1<=40;omega,fun e=>absurd e (by show ¬(30:Int)=2;decide),fun e=>by rcases e with e|e<;>exact absurd e (by show ¬(30:Int)=_;decide),fun _=>⟨by show 0<=(k:Int);omega,f,by show c.funcs[(k:Int).toNat]?=_;rw[iK];exact i,by show Y.length+1=_;omega⟩⟩
end
def zeA{l:qG}{i:Nat}{k:Ex}(L:hZ l)(h:l[i]?=some k):iX k:=by
 induction l generalizing i with
 |nil=>simp at h
 |cons e g ih=>
  rw[hZ]at L;cases i with
  |zero=>simp at h;subst h;exact L.1
  |succ i=>exact ih L.2 i9
def zeB{vs U:List cc}{l:qG}{i:Nat}{k:Ex}(L:eL vs U l=true)(h:l[i]?=some k):dO vs U k=true:=by
 induction l generalizing i with
 |nil=>simp at h
 |cons e g ih=>
  rw[eL,co]at L;cases i with
  |zero=>simp at h;subst h;exact L.1
  |succ i=>exact ih L.2 i9
def AB{l:qG}{i:Nat}{k:Ex}(h:l[i]?=some k):1+k.sz<=eD l:=by
 have:=ou (lV h);omega
def Iz{l:qG}{a b:Ex}(O:l[0]?=some a)(h1:l[1]?=some b):2+a.sz+b.sz<=eD l:=by
 cases l with
 |nil=>simp at O
 |cons x l=>
  simp at O h1;subst O;have:=AB h1;rw[eD];omega
def QG{l:qG}{a b d:Ex}(O:l[0]?=some a)(h1:l[1]?=some b)(h2:l[2]?=some d):3+a.sz+b.sz+d.sz<=eD l:=by
 cases l with
 |nil=>simp at O
 |cons x l=>
  simp at O h1 h2;subst O;have:=Iz (l:=l) h1 h2;rw[eD];omega
theorem uK:∀{l:List cc}{s:cc},bJ l s=true->cY l s<l.length
 |[],s,h=>by simp[bJ]at h
 |a::l,s,h=>by
  rw[cY];split
  .simp
  .rename_i c;have M:bJ (a::l) s=(decide (a=s)||bJ l s):=rfl;rw[M,iy c,lZ]at h;rw[ay h,eT];exact Nat.succ_lt_succ (uK h)
structure XOk (c:Cx) (x:Ex):Prop where
 wf:eK x=true
 df:dO c.aw (c.aa.map (·.name)) x=true
 rg:iX x
def XOk.cw{x k:Ex}{i:Nat}(h:XOk c x)(j:x.ak[i]?=some k):XOk c k:=by
 obtain⟨Z,g,m⟩:=h;rw[zP,co]at Z;rw[zS,co]at g;rw[Ix]at m;exact⟨zbm Z.1 j,zeB g.1 j,zeA m.2 j⟩
theorem r8{c:Cx}(hc:zd3 c){np:Nat}:∀(n:Nat) (x:Ex) (s:Bd),XOk c x->x.sz<n->LI c np s->∃r,eX c n x s=some r/\LI c np r.2/\IsT r.2.l 1 r.1/\r.2.l.length<=s.l.length+6*x.sz
 |0,x,s,hx,hd,hs=>by omega
 |n+1,x,s,hx,hd,hs=>by
  have V:=r8 hc (np:=np) n;have J:=hx.wf;have Y:=hx.df;have hrg:=(Ix x).1 hx.rg;rw[zP,co,md]at J;rw[zS,co,iz]at Y;have L:=J.2;have hsz:=x.aM;unfold eX;by_cases e1:x.am=1
  .rw[ay e1];obtain⟨a,b,d⟩:=AA hs hrg.1;exact⟨_,rfl,a,b,ac⟩
  rw[af e1]at L⊢;by_cases e2:x.am=2
  .rw[ay e2];have hn:bJ c.aw x.name=true:=by have:=Y.2;simp[e2]at this;exact this
   have z:cY c.aw x.name<s.vars.length:=by rw[hs.vl];exact uK hn
   rw[a0 z,jo];exact⟨_,rfl,hs,hs.v _ (cL z),by show s.l.length<=_;omega⟩
  rw[af e2]at L⊢;by_cases e3:x.am=3
  .rw[ay e3]at L⊢;simp only[jJ]at L;have hn:bJ (c.aa.map (·.name)) x.name=true:=by have:=Y.2;simp[e3]at this;exact this
   have z:=uK hn;rw[dx]at z;obtain⟨k,j⟩:=nP x.ak (i:=0) ac;have I:=AB j;obtain⟨r,hr,aK,bB,r3⟩:=V k s (hx.cw j) ac hs;rw[j,cn,hr,cn,a0 z,cn];have ha:=hc.a _ (cL z);generalize c.aa[cY (c.aa.map (·.name)) x.name]=ar at ha⊢;obtain⟨bK,bW⟩:=QC aK (n:=ar.len) fB bB;obtain⟨U,O,b3⟩:=QD hc bK (bB.le (uB ar.len r.1 r.2).le.l) z;exact⟨_,rfl,U,O,ac⟩
  rw[af e3]at L⊢;by_cases e5:x.am=5
  .have e4:¬x.am=4:=by omega
   rw[af e4,ay e5]at L;rw[ay e5];simp only[jJ]at L;obtain⟨k,j⟩:=nP x.ak (i:=0) ac;obtain⟨k1,Z⟩:=nP x.ak (i:=1) ac;obtain⟨k2,m⟩:=nP x.ak (i:=2) ac;have I:=QG j Z m;obtain⟨r,hr,o,p2,p3⟩:=V k s (hx.cw j) ac hs;obtain⟨aK,g,C,M,q3⟩:=V k1 r.2 (hx.cw Z) ac o;have l1:=ev c n _ _ _ g;obtain⟨bB,K,t1,t2,t3⟩:=V k2 {aK.2 with ab:=r.2.ab} (hx.cw m) ac (C.setS (o.st.le l1.le.l));have l2:=ev c n _ _ _ K;rw[j,cn,hr,cn,Z,cn,g,cn,m,cn,K,cn];have pc:IsT bB.2.l 1 r.1:=(p2.le l1.le.l).le l2.le.l;obtain⟨cz,m2,m3⟩:=x5 t1 pc (M.le l2.le.l) t2 (.inl rfl);have lm:=gT r.1 aK.1 bB.1 bB.2;obtain⟨dy,n2,n3⟩:=x5 cz (pc.le lm.le.l) ((C.st.le l2.le.l).le lm.le.l) cz.st (.inr rfl);have ln:=gT r.1 aK.2.ab (bZ r.1 aK.1 bB.1 bB.2).2.ab (bZ r.1 aK.1 bB.1 bB.2).2;refine⟨_,rfl,dy.setS n2,m2.le ln.le.l,?_⟩;simp only at t3⊢;omega
  rw[af e5]at L⊢;by_cases e4:x.am=4
  .rw[ay e4]at L;simp only[co,oZ,jq]at L;have hl:x.ak.length=2\/x.ak.length=1:=by rcases L.2 with h|h<;>omega
   obtain⟨k,j⟩:=nP x.ak (i:=0) ac;have I:=AB j;obtain⟨r,hr,o,p2,p3⟩:=V k s (hx.cw j) ac hs;rw[j,cn,hr,cn];by_cases e6:x.ak.length=1
   .rw[ay e6];have ho:x.op=20\/x.op=21:=by
     rcases L.2 with h|h
     .omega
     .exact h.2
    obtain⟨a,b,d⟩:=jY o (Qp p2 ho) aM (iG _ _ ac fB az ac ac ac ac);exact⟨_,rfl,a,b,ac⟩
   .rw[af e6];obtain⟨k1,Z⟩:=nP x.ak (i:=1) ac;have hks2:=Iz j Z;obtain⟨aK,g,C,M,q3⟩:=V k1 r.2 (hx.cw Z) ac o;have l1:=ev c n _ _ _ g;rw[Z,cn,g,cn];have ho:4<=x.op/\x.op<=18:=by
     rcases L.2 with h|h
     .have:=h.2;simp[py]at this;exact this
     .omega
    have p2':=p2.le l1.le.l;by_cases e7:x.op=7\/x.op=8
    .rw[ay e7];obtain⟨bK,bW⟩:=zex C M;have ld:=DD aK.1 aK.2;obtain⟨U,O,b3⟩:=Ea bK (p2'.le ld.le.l) (M.le ld.le.l) (by omega:4<=x.op) ac;exact⟨_,rfl,U,O,ac⟩
    .rw[af e7];obtain⟨U,O,b3⟩:=Ea C p2' M (by omega:4<=x.op) ac;exact⟨_,rfl,U,O,ac⟩
  .rw[af e4]at L;simp at L
theorem QH{c:Cx}(V:zd3 c){np n:Nat}:∀(l:qG) (s:Bd),(∀x∈l,XOk c x)->eD l<n->LI c np s->∃r,oG c n l s=some r/\LI c np r.2/\(∀a∈r.1,IsT r.2.l 1 a)/\r.2.l.length<=s.l.length+6*eD l
 |[],s,hx,hd,hs=>⟨_,rfl,hs,az,by show s.l.length<=_;omega⟩
 |x::l,s,hx,hd,hs=>by
  rw[eD]at hd⊢;obtain⟨r,hr,o,i,L⟩:=r8 V n x s (hx x ei) ac hs;obtain⟨bB,Z,C,U,z⟩:=QH (n:=n) V l r.2 (fun y Y=>hx y (ej _ Y)) ac o;have l2:=(uC c n _ _ _ Z).1;refine⟨(r.1::bB.1,bB.2),P8,C,fun a j=>?_,x4⟩;rcases gE.1 j with rfl|j
  .exact i.le l2.le.l
  .exact U a j
def ti(c:Cx):Sc:=⟨c.aw,some (c.aa.map (·.name)),⟨c.aa,c.funcs⟩⟩
structure SOk (c:Cx) (x:St):Prop where
 wf:mg x=true
 df:fQ (ti c) false x=true
 ar:fQ (ti c) true x=true
 rg:nY x
structure zfZ (c:Cx) (l:qD):Prop where
 wf:fk l=true
 df:de (ti c) false l=true
 ar:de (ti c) true l=true
 rg:iY l
section
variable {c:Cx}
def zfZ.cons{l:qD}(h:zfZ c (x::l)):SOk c x/\zfZ c l:=by
 obtain⟨i,g,m,U⟩:=h;rw[fk,co]at i;rw[de,co]at g m;rw[iY]at U;exact⟨⟨i.1,g.1,m.1,U.1⟩,⟨i.2,g.2,m.2,U.2⟩⟩
def SOk.bT(h:SOk c x):zfZ c x.a5/\zfZ c x.a6:=by
 obtain⟨i,g,m,U⟩:=h;rw[v8]at i;rw[zU]at g m;rw[D9]at U;simp only[co]at i g m;exact⟨⟨i.1.2,g.1.2,m.1.2,U.2.2.2.1⟩,⟨i.2,g.2,m.2,U.2.2.2.2⟩⟩
theorem QI:∀{l:qG}{x:Ex},hZ l->x∈l->iX x
 |[],x,_,h=>by simp at h
 |e::l,x,hw,h=>by
  rw[hZ]at hw;rcases gE.1 h with rfl|h
  .exact hw.1
  .exact QI hw.2 h
theorem QJ:∀{l:qG}{x:Ex},el l=true->x∈l->eK x=true
 |[],x,_,h=>by simp at h
 |e::l,x,hw,h=>by
  rw[el,co]at hw;rcases gE.1 h with rfl|h
  .exact hw.1
  .exact QJ hw.2 h
theorem QK{vs U:List cc}:∀{l:qG}{x:Ex},eL vs U l=true->x∈l->dO vs U x=true
 |[],x,_,h=>by simp at h
 |e::l,x,hw,h=>by
  rw[eL,co]at hw;rcases gE.1 h with rfl|h
  .exact hw.1
  .exact QK hw.2 h
def SOk.def(h:SOk c x):eL c.aw (c.aa.map (·.name)) x.args=true/\dO c.aw (c.aa.map (·.name)) x.aW=true/\dO c.aw (c.aa.map (·.name)) x.value=true/\jw (ti c) x=true:=by
 have g:=h.df;rw[zU]at g;simp only[co,sy,jx]at g;exact⟨g.1.1.1.1.1,g.1.1.1.1.2,g.1.1.1.2,g.1.1.2⟩
def SOk.args(h:SOk c x):∀a∈x.args,XOk c a:=fun a j=>by
 have i:=h.wf;have U:=h.rg;rw[v8,iO]at i;rw[D9]at U;simp only[co]at i;exact⟨QJ i.1.1.1 j,QK h.def.1 j,QI U.2.2.1 j⟩
def SOk.value(h:SOk c x)(j:x.am=1\/x.am=2\/x.am=3\/x.am=4\/x.am=5):XOk c x.value:=by
 have i:=h.wf;have U:=h.rg;rw[v8,iO,me]at i;rw[D9]at U;simp only[co]at i;refine⟨?_,h.def.2.2.1,U.2.1⟩;have m:=i.1.1.2;rcases j with e|e|e|e|e<;>rw[e]at m<;>simp at m<;>simp[m]
def SOk.aW(h:SOk c x)(j:x.am=2):XOk c x.aW:=by
 have i:=h.wf;have U:=h.rg;rw[v8,iO,me]at i;rw[D9]at U;simp only[co]at i;refine⟨?_,h.def.2.1,U.1⟩;have m:=i.1.1.2;rw[j]at m;simp at m;simp[m]
def SOk.du(h:SOk c x)(j:x.am=7):0<=x.n/\x.n<=1000000:=by
 have i:=h.wf;rw[v8,iO,me]at i;simp only[co]at i;have m:=i.1.1.2;rw[j]at m;simp at m;exact⟨by simp[m],by simp[m]⟩
def SOk.kd(h:SOk c x):1<=x.am/\x.am<=7:=by
 have i:=h.wf;rw[v8,iO,me]at i;simp only[co]at i;have m:=i.1.1.2;by_cases e:1<=x.am/\x.am<=7
 .exact e
 .rw[af ac,af ac,af ac,af ac,af ac,af ac,af ac]at m;cases m
def SOk.name(h:SOk c x)(j:x.am=1\/x.am=6):cY c.aw x.name<c.aw.length:=by
 have:=h.def.2.2.2;rw[jw]at this;rcases j with e|e<;>simp[e,ti]at this
 .exact uK this
 .exact uK this.1
def SOk.arr(h:SOk c x)(j:x.am=2):cY (c.aa.map (·.name)) x.name<c.aa.length:=by
 have:=h.def.2.2.2;rw[jw]at this;simp[j,ti,Sc.an]at this;have:=uK this
 rwa [dx]at this
def SOk.call(h:SOk c x)(j:x.am=6):0<=dc c.funcs x.to 0/\x.args.length=oD ⟨c.aa,c.funcs⟩ x.to:=by
 have i:=h.def.2.2.2;have m:=h.ar;rw[jw]at i;simp[j,ti]at i;rw[zU]at m;simp only[co,jg,kE,j]at m;simp[ti]at m;have M:=sR m.1.1;exact⟨sR i.2,ac⟩
end
theorem AC{c:Cx}:∀(n:Nat) (l:qD) (b:qO),zfZ c l->2*bN l<n->b.length=c.aw.length->∃Z,mS c.aw n l b=some Z/\Z.length=c.aw.length
 |0,l,b,_,h,_=>by omega
 |n+1,[],b,_,_,hb=>⟨b,rfl,hb⟩
 |n+1,x::l,b,K,h,hb=>by
  obtain⟨I,K⟩:=K.cons;rw[bN]at h;have M:=x.aM;unfold mS;simp only;rw[af (fun q=>by have:=I.name q.1;omega)];have Y:(if x.am=1\/x.am=6 then b.set (cY c.aw x.name) true else b).length=c.aw.length:=by split<;>simp[hb]
  obtain⟨i,J,l2⟩:=AC n x.a5 _ I.bT.1 ac Y;obtain⟨U,L,g⟩:=AC n x.a6 i I.bT.2 ac l2;obtain⟨V,m,C⟩:=AC n l U K ac g;exact⟨V,by rw[J,cn,L,cn,m],C⟩
theorem QL{c:Cx}{np:Nat}{k:Int}{a:qu}:∀(m i:Nat) (s:Bd),LI c np s->IsT s.l 1 k->(∀y∈a,IsT s.l 1 y)->a.length=c.aw.length->i+m=c.aw.length->∃r,nQ k a m i s=some r/\LI c np r/\r.l.length<=s.l.length+m
 |0,i,s,h,_,_,_,_=>⟨s,rfl,h,aO _⟩
 |m+1,i,s,h,hk,ha,hl,hi=>by
  have z:=h.vl;have Z:i<a.length:=ac;have g:i<s.vars.length:=ac;unfold nQ;rw[a0 Z,cn,a0 g,cn];obtain⟨cz,C,V⟩:=x5 h hk (ha _ (cL Z)) (h.v _ (cL g)) (.inl rfl);have lv:=gT k a[i] s.vars[i] s;obtain⟨r,e,aK,bB⟩:=QL m (i+1) { (bZ k a[i] s.vars[i] s).2 with vars:=(bZ k a[i] s.vars[i] s).2.vars.set i (bZ k a[i] s.vars[i] s).1} (cz.setV (fun y Y=>by
   rcases r2 Y with Y|rfl
   .exact cz.v y Y
   .exact C) Io) (hk.le lv.le.l) (fun y Y=>(ha y Y).le lv.le.l) hl ac
  exact⟨r,e,aK,by simp only at bB;omega⟩
theorem QM{c:Cx}{np:Nat}{k:Nat}(Z:k<=15):∀(i:qC) (j:Nat) (s:Bd),LI c np s->j+i.length<=15->LI c np (jj (16*(k:Int)+1) i j s)/\(jj (16*(k:Int)+1) i j s).l.length<=s.l.length+i.length
 |[],j,s,h,_=>⟨h,aO _⟩
 |w::i,j,s,h,hj=>by
  rw[eT]at hj;have O:(16*(k:Int)+1+j).tmod 16=1+j:=by
   rw[Ir ac];omega
  obtain⟨cz,C,g⟩:=jY h (n:=⟨3,16*(k:Int)+1+j,[]⟩) (D6 ac ac) (by split<;>decide) (iG _ _ aM fB az aM aM aM aM);rw[O,af ac]at C;unfold jj;obtain⟨aK,bB⟩:=QM Z i (j+1) { (ax ⟨3,16*(k:Int)+1+j,[]⟩ s).2 with vars:=(ax ⟨3,16*(k:Int)+1+j,[]⟩ s).2.vars.set w (ax ⟨3,16*(k:Int)+1+j,[]⟩ s).1} (cz.setV (fun y Y=>by
   rcases r2 Y with Y|rfl
   .exact cz.v y Y
   .exact C) Io) ac
  exact⟨aK,P9⟩
theorem QN{c:Cx}{np:Nat}{lp k:Int}{old:qu}{q:Nd}:∀(i:qC) (j:Nat) (s:Bd),LI c np s->IsT s.l 3 lp->s.l[lp.toNat]?=some q->IsT s.l 1 k->(∀y∈old,IsT s.l 1 y)->(∀w∈i,w<old.length)->1<=j->((j+i.length:Nat):Int)<=et q.ak.length->j+i.length<=16 ->
 LI c np (iC lp k old i j s)/\(iC lp k old i j s).l.length<=s.l.length+2*i.length
 |[],j,s,h,_,_,_,_,_,_,_,_=>⟨h,aO _⟩
 |w::i,j,s,h,hlp,hq,hk,ho,hw,hj,hlv,h16=>by
  rw[eT]at hlv h16;obtain⟨cz,C,g⟩:=jY h (n:=⟨25,j,[lp]⟩) (D8 hlp hq ac ac) (by split<;>decide) (iG _ _ aM fB az aM aM aM aM);rw[af ac]at C;have o:=dB ⟨25,j,[lp]⟩ s;have J:=hw w ei;have K:old.getD w 0∈old:=Qa;obtain⟨dy,U,M⟩:=x5 cz (hk.le o.le.l) C ((ho _ K).le o.le.l) (.inl rfl);have Z:=o.trans (gT k (ax ⟨25,j,[lp]⟩ s).1 (old.getD w 0) (ax ⟨25,j,[lp]⟩ s).2);unfold iC;simp only[];generalize bZ k (ax ⟨25,j,[lp]⟩ s).1 (old.getD w 0) (ax ⟨25,j,[lp]⟩ s).2=z at *;have V:z.2.l[lp.toNat]?=some q:=by
   obtain⟨t,O⟩:=Z.le.l;rw[<-O,iw,hq];have:=hlp.hi;have:=hlp.lo;omega
  obtain⟨aK,bB⟩:=QN (q:=q) (lp:=lp) (k:=k) (old:=old) i (j+1) {z.2 with vars:=z.2.vars.set w z.1} (dy.setV (fun y Y=>by
   rcases r2 Y with Y|rfl
   .exact dy.v y Y
   .exact U) (by rw[ky];exact dy.vl)) (hlp.le Z.le.l) V (hk.le Z.le.l) (fun y Y=>(ho y Y).le Z.le.l) (fun y Y=>hw y (ej _ Y)) ac ac ac
  exact⟨aK,P9⟩
def IA(b:qO):(gJ b).length<=b.length:=by
 have:=List.length_filter_le (fun i=>b.getD i false) (List.range b.length)
 rwa [List.length_range]at this
def IB(c:Cx)(np n:Nat):Prop:=∀x s,SOk c x->2*x.sz<n->LI c np s->s.loops+dd x<=16->∃r,nR c n x s=some r/\LI c np r/\r.loops<=s.loops+dd x/\r.l.length<=s.l.length+64*x.sz
def AD(c:Cx)(np n:Nat):Prop:=∀l s,zfZ c l->2*bN l<n->LI c np s->s.loops+da l<=16->∃r,gK c n l s=some r/\LI c np r/\r.loops<=s.loops+da l/\r.l.length<=s.l.length+64*bN l
def IC(c:Cx)(np n:Nat):Prop:=∀x s,SOk c x->x.am=4->2*x.sz<=n->LI c np s->s.loops+dd x<=16->∃r,oH c n x s=some r/\LI c np r/\r.loops<=s.loops+dd x/\r.l.length<=s.l.length+64*x.sz
def zeC(hc:zd3 c){np n:Nat}(IS:AD c np n):IC c np (n+1):=fun x s hx hk hsz h hw=>by
 have hs:=x.aM;have hw1:=zB x;rw[ay hk]at hw1;have hv:=hx.value (.inr (.inr (.inr (.inl hk))));unfold oH;obtain⟨r,hr,o,p2,p3⟩:=r8 hc n x.value {s with loops:=s.loops+1} hv ac (h.cn _);have lr:=ev c n _ _ _ hr;have hrn:r.2.loops=s.loops+1:=lr.n;obtain⟨b,hb,hbl⟩:=AC n x.a5 (List.replicate r.2.vars.length false) hx.bT.1 ac (by rw[pq];exact o.vl);rw[hr,cn,hb,cn];simp only[];have hwl:=IA b;have hnl:=hc.nl;have Y:∀i∈gJ b,i<r.2.vars.length:=fun i V=>by have:=HT V;have:=o.vl;omega
 generalize gJ b=Z at *;have hm:(16*(s.loops:Int)).tmod 16=0:=Gm;obtain⟨q1,q2,q3⟩:=jY o (n:=⟨3,16*(s.loops:Int),[]⟩) (D6 ac ac) (by split<;>decide) (iG _ _ aM fB az aM aM aM aM);rw[hm,ay rfl]at q2;have lq:=dB ⟨3,16*(s.loops:Int),[]⟩ r.2;generalize ax ⟨3,16*(s.loops:Int),[]⟩ r.2=q at *;obtain⟨u1,u2⟩:=QM (k:=s.loops) ac Z 0 {q.2 with ab:=q.1} (q1.setS q2) ac;have lu:=ta (16*(s.loops:Int)+1) Z 0 {q.2 with ab:=q.1};generalize jj (16*(s.loops:Int)+1) Z 0 {q.2 with ab:=q.1}=u at *;have hun:u.loops=s.loops+1:=Qb;obtain⟨t,ht,t1,t2,t3⟩:=IS x.a5 u hx.bT.1 ac u1 ac;have lt:=(mp c n).2.1 _ _ _ ht;rw[ht,cn];obtain⟨d,hd,C,d2,d3⟩:=r8 hc n x.value t hv ac t1;have ld:=ev c n _ _ _ hd;rw[hd,cn];have M:dY r.2 d.2:=(lq.le.setS q.1).trans (lu.1.trans (lt.1.trans ld.le));have L:∀y∈r.2.vars,IsT d.2.l 1 y:=fun y U=>(o.v y U).le M.l;have ho:∀a∈Z.map fun i=>r.2.vars.getD i 0,IsT d.2.l 1 a:=fun a ha=>by
  obtain⟨i,V,rfl⟩:=nh.1 ha;rw[dF,a0 (Y i V)];exact L _ (cL _)
 have hn:∀a∈Z.map fun i=>d.2.vars.getD i 0,IsT d.2.l 1 a:=fun a ha=>by
  obtain⟨i,V,rfl⟩:=nh.1 ha;have:=Y i V;have e1:=C.vl;have e2:=o.vl;rw[dF,a0 (show i<d.2.vars.length by omega)];exact C.v _ (cL _)
 have K:(r.2.ab::(Z.map fun i=>r.2.vars.getD i 0)++[d.1,d.2.ab]++Z.map fun i=>d.2.vars.getD i 0).length=2*Z.length+3:=ca;obtain⟨k1,k2,k3⟩:=jY C (n:=⟨31,s.loops,r.2.ab::(Z.map fun i=>r.2.vars.getD i 0)++[d.1,d.2.ab]++Z.map fun i=>d.2.vars.getD i 0⟩) (Qy (o.st.le M.l) ho d2 C.st hn az ca ac ac) aM (iG _ _ aM fB (by rw[K];omega) aM aM aM aM);have lk:=dB ⟨31,s.loops,r.2.ab::(Z.map fun i=>r.2.vars.getD i 0)++[d.1,d.2.ab]++Z.map fun i=>d.2.vars.getD i 0⟩ d.2;have hq:(ax ⟨31,s.loops,r.2.ab::(Z.map fun i=>r.2.vars.getD i 0)++[d.1,d.2.ab]++Z.map fun i=>d.2.vars.getD i 0⟩ d.2).2.l[(ax ⟨31,s.loops,r.2.ab::(Z.map fun i=>r.2.vars.getD i 0)++[d.1,d.2.ab]++Z.map fun i=>d.2.vars.getD i 0⟩ d.2).1.toNat]?=some ⟨31,s.loops,r.2.ab::(Z.map fun i=>r.2.vars.getD i 0)++[d.1,d.2.ab]++Z.map fun i=>d.2.vars.getD i 0⟩:=HO _ _;generalize ax ⟨31,s.loops,r.2.ab::(Z.map fun i=>r.2.vars.getD i 0)++[d.1,d.2.ab]++Z.map fun i=>d.2.vars.getD i 0⟩ d.2=k at *;have J:et (2*Z.length+3:Nat)=((Z.length+1:Nat):Int):=zm;have k1':=k1.setV (x:=r.2.vars) (fun y U=>(L y U).le lk.le.l) o.vl;obtain⟨f1,f2,f3⟩:=jY k1' (n:=⟨25,0,[k.1]⟩) (D8 (n:=0) k2 hq ac (by rw[K,J];omega)) aM (iG _ _ aM fB az aM aM aM aM);rw[ay rfl]at f2;have j:=dB ⟨25,0,[k.1]⟩ {k.2 with vars:=r.2.vars};have O:r.2.l<+:(ax ⟨25,0,[k.1]⟩ {k.2 with vars:=r.2.vars}).2.l:=(M.l.trans lk.le.l).trans j.le.l;have hfv:(ax ⟨25,0,[k.1]⟩ {k.2 with vars:=r.2.vars}).2.vars=r.2.vars:=j.v;obtain⟨cz,m2,m3⟩:=x5 f1 (p2.le O) f2 (o.st.le O) (.inr rfl);have g:=gT r.1 (ax ⟨25,0,[k.1]⟩ {k.2 with vars:=r.2.vars}).1 r.2.ab (ax ⟨25,0,[k.1]⟩ {k.2 with vars:=r.2.vars}).2;generalize ax ⟨25,0,[k.1]⟩ {k.2 with vars:=r.2.vars}=f at *;generalize bZ r.1 f.1 r.2.ab f.2=m at *;have I:k.2.l<+:m.2.l:=j.le.l.trans g.le.l;have hqm:m.2.l[k.1.toNat]?=some ⟨31,s.loops,r.2.ab::(Z.map fun i=>r.2.vars.getD i 0)++[d.1,d.2.ab]++Z.map fun i=>d.2.vars.getD i 0⟩:=by
  obtain⟨z,hz⟩:=I;rw[<-hz,iw,hq];have:=k2.hi;have:=k2.lo;omega
 obtain⟨z1,z2⟩:=QN (lp:=k.1) (k:=r.1) (old:=r.2.vars) Z 1 {m.2 with ab:=m.1} (cz.setS m2) (k2.le I) hqm (p2.le (O.trans g.le.l)) (fun y U=>(o.v y U).le (O.trans g.le.l)) Y (aO _) (by rw[K,J];omega) ac;have lz:=uD k.1 r.1 r.2.vars Z 1 {m.2 with ab:=m.1};refine⟨_,rfl,z1,?_,?_⟩
 .rw[lz.2.2.2];show m.2.loops<=_;rw[g.n,j.n];show k.2.loops<=_;rw[lk.n,ld.n];omega
 .simp only at z2 p3 u2 f3⊢;omega
def zeD(V:zd3 c){np n:Nat}(IS:AD c np n)(IW:IC c np n):IB c np (n+1):=fun x s I hsz h hw=>by
 have hs:=x.aM;have hw1:=zB x;have hkd:=I.kd;unfold nR;by_cases k1:x.am=1
 .rw[ay k1];obtain⟨r,hr,o,U,p3⟩:=r8 V n x.value s (I.value (.inl k1)) ac h;have M:=ev c n _ _ _ hr;have hn:=I.name (.inl k1);have J:=o.vl;rw[hr,cn,ay ac];exact⟨_,rfl,o.setV (fun y Y=>by
   rcases r2 Y with Y|rfl
   .exact o.v y Y
   .exact U) (by rw[ky];exact J),by show r.2.loops<=_;rw[M.n];omega,x4⟩
 rw[af k1];by_cases k2:x.am=2
 .rw[ay k2];obtain⟨r,hr,o,U,p3⟩:=r8 V n x.aW s (I.aW k2) ac h
  obtain⟨v,hv,q1,q2,q3⟩:=r8 V n x.value r.2 (I.value (.inr (.inl k2))) ac o;have M:=ev c n _ _ _ hr;have lv:=ev c n _ _ _ hv;have K:=I.arr k2;rw[hr,cn,hv,cn,a0 K,cn];have ha:=V.a _ (cL K);generalize c.aa[cY (c.aa.map (·.name)) x.name]=ar at ha⊢;have g:=U.le lv.le.l;obtain⟨bK,bW⟩:=QC q1 (n:=ar.len) fB g;have lc:=uB ar.len r.1 v.2;obtain⟨Z,O,b3⟩:=QE V bK (g.le lc.le.l) (q2.le lc.le.l) K;exact⟨_,rfl,Z.setS O,by show(fL ar.len r.1 v.2).loops<=_;rw[lc.n,lv.n,M.n];omega,x4⟩
 rw[af k2];by_cases k3:x.am=3
 .rw[ay k3];rw[af ac]at hw1;obtain⟨r,hr,o,U,p3⟩:=r8 V n x.value s (I.value (.inr (.inr (.inl k3)))) ac h;have M:=ev c n _ _ _ hr;have hrn:=M.n;obtain⟨a,ha,bK,bW,a3⟩:=IS x.a5 r.2 I.bT.1 ac o ac;have la:=(mp c n).2.1 _ _ _ ha;have hal:a.vars.length=c.aw.length:=bK.vl;obtain⟨b,hb,Z,O,b3⟩:=IS x.a6 {a with ab:=r.2.ab,vars:=r.2.vars} I.bT.2 ac ((bK.setS (o.st.le la.1.l)).setV (fun y Y=>(o.v y Y).le la.1.l) o.vl) (by show a.loops+_<=_;omega);have lb:=(mp c n).2.1 _ _ _ hb;have j:a.l<+:b.l:=lb.1.l;have kb:IsT b.l 1 r.1:=(U.le la.1.l).le j;have hbl:=Z.vl;obtain⟨m,hm,cz,m2⟩:=QL (k:=r.1) (a:=a.vars) b.vars.length 0 b Z kb (fun y Y=>(bK.v y Y).le j) hal ac;have lm:=wq _ _ _ _ _ _ hm;rw[hr,cn,ha,cn,hb,cn,hm,cn];obtain⟨t1,t2,t3⟩:=x5 cz (kb.le lm.1.l) ((bK.st.le j).le lm.1.l) cz.st (.inr rfl);have lt:=gT r.1 a.ab m.ab m;have hnl:=V.nl;refine⟨_,rfl,t1.setS t2,?_,?_⟩
  .show(bZ r.1 a.ab m.ab m).2.loops<=_;rw[lt.n,lm.2.2.2];simp only at O;omega
  .simp only at b3⊢;omega
 rw[af k3];by_cases k4:x.am=4
 .rw[ay k4];exact IW x s I k4 ac h hw
 rw[af k4];by_cases k5:x.am=5
 .rw[ay k5];obtain⟨r,hr,o,U,p3⟩:=r8 V n x.value s (I.value (.inr (.inr (.inr (.inr k5))))) ac h;have M:=ev c n _ _ _ hr;rw[hr,cn];obtain⟨Z,O,b3⟩:=zey o U;exact⟨_,rfl,Z.setS O,by show r.2.loops<=_;rw[M.n];omega,x4⟩
 rw[af k5];by_cases k6:x.am=6
 .rw[ay k6];obtain⟨r,hr,o,U,p3⟩:=QH V (n:=n) x.args s I.args ac h;obtain⟨M,hlr⟩:=uC c n _ _ _ hr;obtain⟨c1,c2⟩:=I.call k6;obtain⟨i,hi,hfe⟩:=Dm c.funcs x.to 0 c1;obtain⟨f,C⟩:=nP c.funcs hi;have L:dc c.funcs x.to 0=(i:Int):=by simpa using hfe
  have hn:=I.name (.inr k6);have J:=o.vl;have hpar:r.1.length=f.params.length:=by
   rw[hlr,c2,oD,L,iK,C];rfl
  rw[hr,cn,ay ⟨c1,ac⟩];simp only[];rw[L];obtain⟨Z,O,b3⟩:=QF V o U C hpar;have lb:=dB ⟨30,i,r.2.ab::r.1⟩ r.2;generalize ax ⟨30,i,r.2.ab::r.1⟩ r.2=z at *;obtain⟨d1,d2,d3⟩:=zez (Z.setS O) O;have ld:=dB ⟨24,0,[z.1]⟩ {z.2 with ab:=z.1};generalize ax ⟨24,0,[z.1]⟩ {z.2 with ab:=z.1}=w at *;refine⟨_,rfl,d1.setV (fun y Y=>?_) (by rw[ky];exact d1.vl),?_,?_⟩
  .rcases r2 Y with Y|rfl
   .exact d1.v y Y
   .exact d2
  .show w.2.loops<=_;rw[ld.n];show z.2.loops<=_;rw[lb.n,M.n];omega
  .simp only at d3⊢;omega
 rw[af k6];by_cases k7:x.am=7
 .rw[ay k7];have ht:=I.du k7;have hw:cC (16+x.n)=16+x.n:=iN ac ac;rw[hw];obtain⟨bK,bW,a3⟩:=AA h (n:=0) fB;obtain⟨Z,O⟩:=Iy bK (t:=16+x.n) bW ac ac;have lb:=uA (16+x.n) (ax ⟨1,0,[]⟩ s).1 (ax ⟨1,0,[]⟩ s).2;exact⟨_,rfl,Z,by rw[lb.n];show s.loops<=_;omega,ac⟩
 .omega
def zeE{np n:Nat}(J:IB c np n)(C:AD c np n):AD c np (n+1):=fun l s K O h L=>by
 cases l with
 |nil=>exact⟨s,by unfold gK;rfl,h,ac,ac⟩
 |cons x l=>
  obtain⟨I,K⟩:=K.cons;rw[bN]at O⊢;rw[da]at L⊢;unfold gK;simp only[];obtain⟨r,hr,o,i,Y⟩:=J x s I ac h ac;obtain⟨t,U,Z,V,z⟩:=C l r K ac o ac;rw[hr,cn,U];exact⟨t,rfl,Z,ac,ac⟩
theorem QO{c:Cx}(V:zd3 c){np:Nat}:∀n:Nat,IB c np n/\AD c np n/\IC c np n
 |0=>⟨fun x s _ h=>ac,fun l s _ h=>ac,fun x s I _ h=>by have:=x.aM;omega⟩
 |n+1=>by
  obtain⟨a,b,d⟩:=QO V (np:=np) n;exact⟨zeD V b d,zeE a b,zeC V b⟩
section
variable {A:qP} {F:qN} {np:Nat}
def NdP.aw{x:Nd}(h:NdP ⟨A,F,N⟩ np x):NdP ⟨A,F,O⟩ np x:=⟨h.op,h.au,h.len,h.pa,h.ar,h.fn⟩
def LI.aw{s:Bd}(h:LI ⟨A,F,N⟩ np s)(K:O.length=N.length):LI ⟨A,F,O⟩ np s:=⟨h.nd,h.wf,fun x I=>(h.p x I).aw,h.v,h.vl.trans K.symm,h.st⟩
def LI.push{s:Bd}(h:LI ⟨A,F,N⟩ np s){x:Int}(I:IsT s.l 1 x)(K:O.length=N.length+1):LI ⟨A,F,O⟩ np {s with vars:=s.vars++[x] }:=
 ⟨h.nd,h.wf,fun y Y=>(h.p y Y).aw,fun y Y=>by
  rcases kU.1 Y with Y|Y
  .exact h.v y Y
  .simp only[kK]at Y;subst Y;exact I,by
  have:=h.vl;show(s.vars++[x]).length=_;rw[fg,this,K];rfl,h.st⟩
theorem ID(o:np<=6):∀(m k:Nat) (s:Bd) (N O:List cc),LI ⟨A,F,N⟩ np s->O.length=N.length+m->k+m<=np->LI ⟨A,F,O⟩ np (iD m k s)/\(iD m k s).loops=s.loops/\(iD m k s).l.length<=s.l.length+m
 |0,k,s,N,O,h,hl,_=>⟨h.aw hl,rfl,aO _⟩
 |m+1,k,s,N,O,h,hl,hk=>by
  obtain⟨bK,bW,g⟩:=jY h (n:=⟨2,k,[]⟩) (Qm ac ac) aM ⟨by show 0<=(2:Int)/\(2:Int)<256;decide,Ay,by show 0<=40;decide,fun _=>by show(k:Int)<np;omega,fun e=>by rcases e with e|e<;>exact absurd e (by show ¬(2:Int)=_;decide),fun e=>absurd e (by show ¬(2:Int)=30;decide)⟩;obtain⟨Z,i,U⟩:=ID o m (k+1) { (ax ⟨2,k,[]⟩ s).2 with vars:=(ax ⟨2,k,[]⟩ s).2.vars++[(ax ⟨2,k,[]⟩ s).1] } ([]::N) O (bK.push bW rfl) D4 ac;exact⟨Z,i,by have K:(iD (m+1) k s).l.length<=(ax ⟨2,k,[]⟩ s).2.l.length+m:=U;omega⟩
theorem IE:∀(m:Nat) (s:Bd) (N O:List cc),LI ⟨A,F,N⟩ np s->O.length=N.length+m->LI ⟨A,F,O⟩ np (kH m s)/\(kH m s).loops=s.loops/\(kH m s).l.length<=s.l.length+m
 |0,s,N,O,h,hl=>⟨h.aw hl,rfl,aO _⟩
 |m+1,s,N,O,h,hl=>by
  obtain⟨bK,bW,g⟩:=AA h (n:=0) fB;obtain⟨Z,i,U⟩:=IE m { (ax ⟨1,0,[]⟩ s).2 with vars:=(ax ⟨1,0,[]⟩ s).2.vars++[(ax ⟨1,0,[]⟩ s).1] } ([]::N) O (bK.push bW rfl) D4;exact⟨Z,i,by have K:(kH (m+1) s).l.length<=(ax ⟨1,0,[]⟩ s).2.l.length+m:=U;omega⟩
def IF:LI ⟨A,F,[]⟩ np { (ax ⟨26,0,[]⟩ ⟨[],[],0,0⟩).2 with ab:=(ax ⟨26,0,[]⟩ ⟨[],[],0,0⟩).1}:=by
 obtain⟨a,b⟩:=Iw (l:=[]) (n:=⟨26,0,[]⟩) (fun i z=>by simp at z) Qn aM;refine⟨QA List.nodup_nil,b,fun x I=>?_,(fun y Y=>by cases Y),rfl,a⟩;rcases(sX (l:=[]) (n:=⟨26,0,[]⟩)).1 I with I|rfl
 .cases I
 .exact iG _ _ aM fB az aM aM aM aM
end
structure zfV (p:Pr):Prop where
 ck:fK p=0
 rg:∀f∈p.funcs,iY f.body/\iX f.value
def IG{p:Pr}(h:fK p=0):jv p=false/\iq p=true/\mh p=false/\p.funcs.any (jh p)=false/\p.funcs.any (lh p)=false:=by
 unfold fK at h;split at h
 .cases h
 split at h
 .cases h
 split at h
 .cases h
 split at h
 .cases h
 split at h
 .cases h
 rename_i a b c d e;exact⟨by simpa using a,by simpa using b,by simpa using c,by simpa using d,by simpa using e⟩
theorem Eb{J:Type}{l:List J}{p:J->Bool}(h:l.any p=false){x:J}(I:x∈l):p x=false:=by
 cases e:p x with
 |false=>rfl
 |true=>rw[CZ.2 ⟨x,I,e⟩]at h;cases h
def zfV.dj{p:Pr}(h:zfV p):(∀a∈p.aa,1<=a.len/\a.len<=16)/\p.aa.length<=4/\p.funcs.length<=8/\∀f∈p.funcs,f.params.length<=6/\f.aj.length<=8/\da f.body<=16:=by
 have I:=(IG h.ck).1;unfold jv at I;simp only[kS,lH]at I;obtain⟨⟨⟨Z,g⟩,m⟩,U⟩:=I;refine⟨fun a j=>?_,ac,ac,fun f i=>?_⟩
 .have:=Eb m j;unfold re at this;simp only[kS,lH]at this;omega
 .have:=Eb U i;unfold mQ at this;simp only[kS,lH]at this;omega
def zfV.cx{p:Pr}(h:zfV p)(i:f∈p.funcs):zd3 (mo p f):=by
 obtain⟨Z,Y,m,U⟩:=h.dj;have:=U f i;exact⟨Z,Y,m,fun g J=>(U g J).1,by show(f.params++f.aj).length<=14;rw[fg];omega⟩
def zfV.body{p:Pr}(h:zfV p)(i:f∈p.funcs):zfZ (mo p f) f.body/\XOk (mo p f) f.value:=by
 obtain⟨_,g,_,U,M⟩:=IG h.ck;unfold iq at g;rw[co,hM,hM]at g;have w:=g.2 f i;have u:=Eb U i;have b:=Eb M i;unfold jV at w;unfold jh at u;unfold lh at b;simp only[co,Gq]at w u b;obtain⟨aK,bB⟩:=h.rg f i;exact⟨⟨w.1.2,u.1,b,aK⟩,⟨w.2,u.2,bB⟩⟩
theorem II{p:Pr}(h:zfV p){n:Nat}(hn:2*p.sz<n)(i:f∈p.funcs):
 ∃s v,gK (mo p f) n f.body (jk f)=some s/\eX (mo p f) n f.value s=some v/\LI (mo p f) f.params.length v.2/\IsT v.2.l 1 v.1/\v.2.loops<=16/\v.2.l.length<=64*p.sz:=by
 obtain⟨_,_,_,U⟩:=h.dj;obtain⟨l1,l2,l3⟩:=U f i;obtain⟨o,V⟩:=h.body i;have hc:=h.cx i;have L:=ow i;have K:p.sz=1+gp p.aa+fw p.funcs:=rfl;have z:f.sz=1+f.name.length+dU f.params+dU f.aj+bN f.body+f.value.sz:=rfl;have J:=IF (A:=p.aa) (F:=p.funcs) (np:=f.params.length);obtain⟨bK,bW,g⟩:=ID l1 f.params.length 0 _ [] f.params J az ac;obtain⟨m,Z,Y⟩:=IE f.aj.length _ f.params (f.params++f.aj) bK Ip;have I:LI (mo p f) f.params.length (jk f):=m;have j:(jk f).loops=0:=Z.trans bW;have hs3:(jk f).l.length<=15:=by
  have e1:(jk f).l.length<=(iD f.params.length 0 { (ax ⟨26,0,[]⟩ ⟨[],[],0,0⟩).2 with ab:=(ax ⟨26,0,[]⟩ ⟨[],[],0,0⟩).1}).l.length+f.aj.length:=Y;have e2:(iD f.params.length 0 { (ax ⟨26,0,[]⟩ ⟨[],[],0,0⟩).2 with ab:=(ax ⟨26,0,[]⟩ ⟨[],[],0,0⟩).1}).l.length<=1+f.params.length:=g;omega
 obtain⟨s,C,O,q3,q4⟩:=(QO hc (np:=f.params.length) n).2.1 f.body (jk f) o ac I ac;obtain⟨v,aK,bB,M,r4⟩:=r8 hc n f.value s V ac O;have lv:=ev _ n _ _ _ aK;exact⟨s,v,C,aK,bB,M,by rw[lv.n];omega,ac⟩
def LI.fin{np:Nat}{s:Bd}(h:LI c np s)(K:s.l.length<2^36)(C:s.loops<=16):Fin s:=by
 refine⟨fun x I=>?_,K,ac⟩;have hp:=h.p x I;obtain⟨i,z,e⟩:=yu I;have J:s.l[i]?=some x:=by rw[a0 z,e]
 have L:=h.wf i z;rw[vN z]at L;obtain⟨t,j,_,_⟩:=GG J L;refine⟨hp.op,hp.au,fun k O=>?_,by have:=hp.len;omega⟩;have:=ub j k O;omega
def QP{p:Pr}(h:zfV p)(I:p.sz<2^30){n:Nat}(C:2*p.sz<n):PB p n:=fun f i=>by
 obtain⟨s,v,Z,g,m,U,M,K⟩:=II h C i;exact⟨s,v,Z,g,m.fin ac M⟩
def iu(l:qy)(A:Nat->Prop)(k:Int):Prop:=∀t,(ge l k).testBit t=true->A t
theorem x6(l:qy):∀{i j:Nat},j<i->(fz l i).getD j 0=(match l[j]? with|some n=>pz n (fz l j)|none=>0)
 |0,j,h=>by omega
 |i+1,j,h=>by
  rw[fz];by_cases e:j<i
  .rw[G9 (by rw[uh];exact e)];exact x6 l e
  .obtain rfl:j=i:=by omega
   rw[He (uh l j).symm];cases l[j]? <;>rfl
theorem QQ{l m:qy}:∀{i:Nat},i<=l.length->fz (l++m) i=fz l i
 |0,_=>rfl
 |i+1,h=>by
  have ih:=QQ (l:=l) (m:=m) (i:=i) ac;rw[fz,fz,ih,iw ac]
theorem QR{n:Nd}{h o:qC}:∀(L:qu) (j m:Nat),(∀k∈L,h.getD k.toNat 0=o.getD k.toNat 0)->nM n h j L m=nM n o j L m
 |[],j,m,_=>rfl
 |k::L,j,m,e=>by
  rw[nM,nM,QR L _ _ fun q K=>e q (ej _ K)];unfold rO;rw[e k ei]
def zeF{i:Nat}{n:Nd}(C:l[i]?=some n)(j:∀k∈n.ak,0<=k/\k<i):ge l i=pz n (fz l l.length):=by
 have z:i<l.length:=by
  by_cases c:i<l.length
  .exact c
  .rw[kV ac]at C;cases C
 unfold ge;rw[iK,x6 l z,C];simp only;unfold pz;refine QR _ _ _ fun k O=>?_;have:=j k O;rw[x6 l (show k.toNat<i by omega),x6 l (show k.toNat<l.length by omega)]
def Ec{m:qy}(O:0<=k)(h1:k<l.length):ge (l++m) k=ge l k:=by
 unfold ge;rw[x6 _ (show k.toNat<(l++m).length by rw[fg];omega),x6 _ (show k.toNat<l.length by omega),iw ac,QQ ac]
def iu.le(h:iu l A k)(O:0<=k)(h1:k<l.length)(K:l<+:j):iu j A k:=by
 obtain⟨m,rfl⟩:=K;intro t U;rw[Ec O h1]at U;exact h t U
def iu.mono(h:iu l A k)(M:∀t,A t->B t):iu l B k:=fun t U=>M t (h t U)
def zeG{n:Nd}{h:qC}(m:n.op=3->A (n.au.tdiv 16).toNat)(Z:∀(j:Nat) (k:Int),n.ak[j]?=some k->∀t,(h.getD k.toNat 0).testBit t=true->A t\/(n.op=31/\et n.ak.length<=j/\t=n.au.toNat))(t:Nat)(U:(pz n h).testBit t=true):A t:=by
 unfold pz at U;rw[C3,oZ]at U;rcases U with U|U
 .by_cases c:n.op=3
  .rw[ay c,zK,jq]at U;rw[<-U];exact m c
  .rw[af c]at U;simp at U
 .obtain⟨⟨k,j⟩,O,o⟩:=CZ.1 U;have J:n.ak[j]?=some k:=by
   have:=List.mem_zipIdx_iff_getElem?.1 O;simpa using this
  simp only at o;unfold rO at o;split at o
  .rename_i c;rw[zJ,co,zK]at o;rcases Z j k J t o.1 with a|⟨_,_,e⟩
   .exact a
   .rw[e]at o;simp at o
  .rename_i c;rcases Z j k J t o with a|⟨Y,V,_⟩
   .exact a
   .exact absurd ⟨Y,V⟩ c
def zeH{n:Nd}(h:fC l n≠0):∀k∈n.ak,0<=k/\k<l.length:=by
 unfold fC at h;split at h
 .exact absurd rfl h
 .rename_i s M;intro k j;have:=ub M k j;omega
def Ed{n:Nd}(L:Az l)(Z:fC l n≠0)(K:n.op=3->A (n.au.tdiv 16).toNat)(I:∀(j:Nat) (k:Int),n.ak[j]?=some k->∀t,(ge l k).testBit t=true->A t\/(n.op=31/\et n.ak.length<=j/\t=n.au.toNat)):iu (jy l n) A (iB l n):=by
 obtain⟨a,b⟩:=Iw L rfl Z;have V:=HO l n;have z:=zbq l n;have J:=b _ z;rw[vN z]at J;obtain⟨s,i,_,_⟩:=GG V J;have M:=ub i;intro t U;rw[zeF V fun k O=>⟨(M k O).1,(M k O).2.1⟩]at U;refine zeG K (fun j k Y t U=>?_) t U;have hr:=zeH Z k (lV Y);obtain⟨m,O⟩:=wl l n;refine I j k Y t ?_;rw[<-Ec (m:=m) hr.1 hr.2,O];exact U
def AE{n:Nd}(L:Az l)(M:fC l n≠0)(m:n.op≠3)(Z:∀k∈n.ak,iu l A k):iu (jy l n) A (iB l n):=
 Ed L M (fun e=>absurd e m) fun j k Y t U=>.inl (Z k (lV Y) t U)
structure IsM (A:Nat->Prop) (l:qy) (t k:Int):Prop where
 i:IsT l t k
 m:iu l A k
def IsM.le(h:IsM A l t k)(K:l<+:j):IsM A j t k:=⟨h.i.le K,h.m.le h.i.lo h.i.hi K⟩
def IsM.mono{t:Int}(h:IsM A l t k)(M:∀t,A t->B t):IsM B l t k:=⟨h.i,h.m.mono M⟩
structure LG (c:Cx) (np:Nat) (A:Nat->Prop) (s:Bd):Prop where
 i:LI c np s
 v:∀y∈s.vars,IsM A s.l 1 y
 st:IsM A s.l 2 s.ab
structure Ql (s r:Bd):Prop where
 q:∀x∈r.l,x∈s.l\/(x.op≠3/\x.op≠31)
def Ql.refl(s:Bd):Ql s s:=⟨fun x h=>.inl h⟩
def wI:=@Ql.refl
def Ql.trans{a b d:Bd}(h:Ql a b)(k:Ql b d):Ql a d:=⟨fun x I=>(k.q x I).elim (fun g=>h.q x g) .inr⟩
def Ql.setS{a b:Bd}(h:Ql a b)(x:Int):Ql a {b with ab:=x}:=⟨h.q⟩
def Ql.ofS{a b:Bd}{x:Int}(h:Ql {a with ab:=x} b):Ql a b:=⟨h.q⟩
section
variable {c:Cx} {np:Nat} {A:Nat -> Prop} {s:Bd}
def LG.setS(h:LG c np A s){x:Int}(I:IsM A s.l 2 x):LG c np A {s with ab:=x}:=⟨h.i.setS I.i,h.v,I⟩
def LG.setV(h:LG c np A s){x:qu}(I:∀y∈x,IsM A s.l 1 y)(K:x.length=c.aw.length):LG c np A {s with vars:=x}:=⟨h.i.setV (fun y Y=>(I y Y).i) K,I,h.st⟩
def LG.cn(h:LG c np A s)(x:Nat):LG c np A {s with loops:=x}:=⟨h.i.cn x,h.v,h.st⟩
def LG.mono(h:LG c np A s)(M:∀t,A t->B t):LG c np B s:=⟨h.i,fun y Y=>(h.v y Y).mono M,h.st.mono M⟩
def LG.put(h:LG c np A s){n:Nd}(Z:LI c np (ax n s).2):LG c np A (ax n s).2:=⟨Z,fun y Y=>(h.v y Y).le (wl _ _),h.st.le (wl _ _)⟩
def Ee(s:Bd){n:Nd}(m:n.op≠3)(o:n.op≠31):Ql s (ax n s).2:=⟨fun x I=>by
 rcases sX.1 I with I|rfl
 .exact .inl I
 .exact .inr ⟨m,o⟩⟩
def sa(h:LG c np A s){n:Nd}(M:fC s.l n=t)(U:t≠0)(Z:NdP c np n)(m:n.op≠3)(o:n.op≠31)(j:∀k∈n.ak,iu s.l A k):LG c np A (ax n s).2/\IsM A (ax n s).2.l t (ax n s).1/\Ql s (ax n s).2:=by
 obtain⟨a,b,_⟩:=jY h.i M U Z;exact⟨h.put a,⟨b,AE h.i.wf (by rw[M];exact U) m j⟩,Ee s m o⟩
def AF{a:Int}(h:iu l A a):∀k∈[a],iu l A k:=fun k j=>by
 simp only[kK]at j;subst j;exact h
def AG{a:Int}(h:iu l A a)(h2:iu l A b):∀k∈[a,b],iu l A k:=fun k j=>by
 rcases gE.1 j with rfl|j
 .exact h
 .exact AF h2 k j
def QS{a d:Int}(h:iu l A a)(h2:iu l A b)(m:iu l A d):∀k∈[a,b,d],iu l A k:=fun k j=>by
 rcases gE.1 j with rfl|j
 .exact h
 .exact AG h2 m k j
def x7(h:LG c np A s){a:Int}(Z:IsM A s.l 1 k)(j:IsM A s.l t a)(o:IsM A s.l t b)(U:t=1\/t=2):LG c np A (bZ k a b s).2/\IsM A (bZ k a b s).2.l t (bZ k a b s).1/\Ql s (bZ k a b s).2:=by
 unfold bZ;split
 .exact⟨h,j,wI s⟩
 .exact sa h (Qq Z.i j.i o.i U) ac (iG _ _ aM fB az aM aM aM aM) az az (QS Z.m j.m o.m)
def IJ(h:LG c np A s){v:Int}(V:IsM A s.l 1 v)(O:1<=t)(h1:t<=1000016):LG c np A (lj t v s)/\Ql s (lj t v s):=by
 have:=sa h (n:=⟨27,t,[s.ab,v]⟩) (Qs h.st.i V.i O h1) aM (iG _ _ aM fB az aM aM aM aM) az az (AG h.st.m V.m);exact⟨this.1.setS this.2.1,this.2.2.setS _⟩
def AH(h:LG c np A s){n:Int}(C:iF n):LG c np A (ax ⟨1,n,[]⟩ s).2/\IsM A (ax ⟨1,n,[]⟩ s).2.l 1 (ax ⟨1,n,[]⟩ s).1/\Ql s (ax ⟨1,n,[]⟩ s).2:=
 sa h (Qk n) aM (iG _ _ aM C az aM aM aM aM) az az az
def Ef(h:LG c np A s){op a:Int}(j:IsM A s.l 1 a)(o:IsM A s.l 1 b)(O:4<=op)(h1:op<=19):LG c np A (ax ⟨op,0,[a,b]⟩ s).2/\IsM A (ax ⟨op,0,[a,b]⟩ s).2.l 1 (ax ⟨op,0,[a,b]⟩ s).1/\Ql s (ax ⟨op,0,[a,b]⟩ s).2:=
 sa h (Qo j.i o.i O h1) aM (iG _ _ ac fB az ac ac ac ac) (by show op≠3;omega) (by show op≠31;omega) (AG j.m o.m)
def QT(h:LG c np A s){n i:Int}(C:iF n)(z:IsM A s.l 1 i):LG c np A (fL n i s)/\Ql s (fL n i s):=by
 obtain⟨bK,bW,g⟩:=AH h C;have K:=z.le (dB ⟨1,n,[]⟩ s).le.l;obtain⟨m,Z,U⟩:=Ef bK (op:=19) K bW aM aM;obtain⟨c1,c2⟩:=IJ m (t:=2) Z aM aM;exact⟨c1,g.trans (U.trans c2)⟩
def zeI(h:LG c np A s){i:Int}(z:IsM A s.l 1 i):LG c np A (mn i s)/\Ql s (mn i s):=by
 obtain⟨bK,bW,g⟩:=AH h (n:=0) fB;have K:=z.le (dB ⟨1,0,[]⟩ s).le.l;obtain⟨m,Z,U⟩:=Ef bK (op:=16) K bW aM aM;obtain⟨c1,c2⟩:=IJ m (t:=1) Z aM aM;exact⟨c1,g.trans (U.trans c2)⟩
def zeJ(V:zd3 c)(h:LG c np A s){i:Int}(z:IsM A s.l 1 i){k:Nat}(j:k<c.aa.length):LG c np A (ax ⟨23,k,[s.ab,i]⟩ s).2/\IsM A (ax ⟨23,k,[s.ab,i]⟩ s).2.l 1 (ax ⟨23,k,[s.ab,i]⟩ s).1/\Ql s (ax ⟨23,k,[s.ab,i]⟩ s).2:=by
 obtain⟨a,b,_⟩:=QD V h.i z.i j;have al:=V.al;exact⟨h.put a,⟨b,AE h.i.wf (by rw[Qr h.st.i z.i ac ac];decide) (by show ¬(23:Int)=3;decide) (AG h.st.m z.m)⟩,Ee s (by show ¬(23:Int)=3;decide) (by show ¬(23:Int)=31;decide)⟩
def zeK(Z:zd3 c)(h:LG c np A s){i v:Int}(z:IsM A s.l 1 i)(V:IsM A s.l 1 v){k:Nat}(j:k<c.aa.length):LG c np A (ax ⟨28,k,[s.ab,i,v]⟩ s).2/\IsM A (ax ⟨28,k,[s.ab,i,v]⟩ s).2.l 2 (ax ⟨28,k,[s.ab,i,v]⟩ s).1/\Ql s (ax ⟨28,k,[s.ab,i,v]⟩ s).2:=by
 obtain⟨a,b,_⟩:=QE Z h.i z.i V.i j;have al:=Z.al;exact⟨h.put a,⟨b,AE h.i.wf (by rw[Qu h.st.i z.i V.i ac ac];decide) (by show ¬(28:Int)=3;decide) (QS h.st.m z.m V.m)⟩,Ee s (by show ¬(28:Int)=3;decide) (by show ¬(28:Int)=31;decide)⟩
def zeL(h:LG c np A s){v:Int}(V:IsM A s.l 1 v):LG c np A (ax ⟨29,0,[s.ab,v]⟩ s).2/\IsM A (ax ⟨29,0,[s.ab,v]⟩ s).2.l 2 (ax ⟨29,0,[s.ab,v]⟩ s).1/\Ql s (ax ⟨29,0,[s.ab,v]⟩ s).2:=
 sa h (Qt h.st.i V.i) aM (iG _ _ aM fB az aM aM aM aM) az az (AG h.st.m V.m)
def zeM(h:LG c np A s){v:Int}(V:IsM A s.l 2 v):LG c np A (ax ⟨24,0,[v]⟩ s).2/\IsM A (ax ⟨24,0,[v]⟩ s).2.l 1 (ax ⟨24,0,[v]⟩ s).1/\Ql s (ax ⟨24,0,[v]⟩ s).2:=
 sa h (Qv V.i) aM (iG _ _ aM fB az aM aM aM aM) az az (AF V.m)
def zeN(V:zd3 c)(h:LG c np A s)(j:∀a∈Y,IsM A s.l 1 a){k:Nat}(i:c.funcs[k]?=some f)(Z:Y.length=f.params.length):LG c np A (ax ⟨30,k,s.ab::Y⟩ s).2/\IsM A (ax ⟨30,k,s.ab::Y⟩ s).2.l 2 (ax ⟨30,k,s.ab::Y⟩ s).1/\Ql s (ax ⟨30,k,s.ab::Y⟩ s).2:=by
 obtain⟨a,b,_⟩:=QF V h.i (fun a h=>(j a h).i) i Z;have U:=V.fl;have O:=V.fp f (lV i);have M:k<c.funcs.length:=by
  by_cases q:k<c.funcs.length
  .exact q
  .rw[kV ac]at i;cases i
 refine⟨h.put a,⟨b,AE h.i.wf (by rw[Qw h.st.i (fun a h=>(j a h).i) ac ac ac];decide) (by show ¬(30:Int)=3;decide) fun q K=>?_⟩,Ee s (by show ¬(30:Int)=3;decide) (by show ¬(30:Int)=31;decide)⟩;rcases gE.1 K with rfl|K
 .exact h.st.m
 .exact(j q K).m
end
theorem sc{c:Cx}(hc:zd3 c){np:Nat}{A:Nat->Prop}:∀(n:Nat) (x:Ex) (s:Bd),XOk c x->x.sz<n->LG c np A s->∃r,eX c n x s=some r/\LG c np A r.2/\IsM A r.2.l 1 r.1/\Ql s r.2
 |0,x,s,hx,hd,hs=>by omega
 |n+1,x,s,hx,hd,hs=>by
  have V:=sc hc (np:=np) (A:=A) n;have hwf:=hx.wf;have Y:=hx.df;have hrg:=(Ix x).1 hx.rg;rw[zP,co,md]at hwf;rw[zS,co,iz]at Y;have L:=hwf.2;have hsz:=x.aM;unfold eX;by_cases e1:x.am=1
  .rw[ay e1];obtain⟨a,b,d⟩:=AH hs hrg.1;exact⟨_,rfl,a,b,d⟩
  rw[af e1]at L⊢;by_cases e2:x.am=2
  .rw[ay e2];have hn:bJ c.aw x.name=true:=by have:=Y.2;simp[e2]at this;exact this
   have z:cY c.aw x.name<s.vars.length:=by rw[hs.i.vl];exact uK hn
   rw[a0 z,jo];exact⟨_,rfl,hs,hs.v _ (cL z),wI s⟩
  rw[af e2]at L⊢;by_cases e3:x.am=3
  .rw[ay e3]at L⊢;simp only[jJ]at L;have hn:bJ (c.aa.map (·.name)) x.name=true:=by have:=Y.2;simp[e3]at this;exact this
   have z:=uK hn;rw[dx]at z;obtain⟨k,j⟩:=nP x.ak (i:=0) ac;have hks:=AB j;obtain⟨r,hr,aK,bB,r3⟩:=V k s (hx.cw j) ac hs;rw[j,cn,hr,cn,a0 z,cn];have ha:=hc.a _ (cL z);generalize c.aa[cY (c.aa.map (·.name)) x.name]=ar at ha⊢;obtain⟨bK,bW⟩:=QT aK (n:=ar.len) fB bB;obtain⟨U,O,M⟩:=zeJ hc bK (bB.le (uB ar.len r.1 r.2).le.l) z;exact⟨_,rfl,U,O,r3.trans (bW.trans M)⟩
  rw[af e3]at L⊢;by_cases e5:x.am=5
  .have e4:¬x.am=4:=by omega
   rw[af e4,ay e5]at L;rw[ay e5];simp only[jJ]at L;obtain⟨k,j⟩:=nP x.ak (i:=0) ac;obtain⟨k1,Z⟩:=nP x.ak (i:=1) ac;obtain⟨k2,m⟩:=nP x.ak (i:=2) ac;have hks:=QG j Z m;obtain⟨r,hr,o,K,J⟩:=V k s (hx.cw j) ac hs;obtain⟨aK,g,C,I,q3⟩:=V k1 r.2 (hx.cw Z) ac o;have l1:=ev c n _ _ _ g;obtain⟨bB,hr2,t1,t2,t3⟩:=V k2 {aK.2 with ab:=r.2.ab} (hx.cw m) ac (C.setS (o.st.le l1.le.l));have l2:=ev c n _ _ _ hr2;rw[j,cn,hr,cn,Z,cn,g,cn,m,cn,hr2,cn];have pc:IsM A bB.2.l 1 r.1:=(K.le l1.le.l).le l2.le.l;obtain⟨cz,m2,m3⟩:=x7 t1 pc (I.le l2.le.l) t2 (.inl rfl);have lm:=gT r.1 aK.1 bB.1 bB.2;obtain⟨dy,n2,n3⟩:=x7 cz (pc.le lm.le.l) ((C.st.le l2.le.l).le lm.le.l) cz.st (.inr rfl);have ln:=gT r.1 aK.2.ab (bZ r.1 aK.1 bB.1 bB.2).2.ab (bZ r.1 aK.1 bB.1 bB.2).2;exact⟨_,rfl,dy.setS n2,m2.le ln.le.l,(J.trans (q3.trans (t3.ofS.trans (m3.trans n3)))).setS _⟩
  rw[af e5]at L⊢;by_cases e4:x.am=4
  .rw[ay e4]at L;simp only[co,oZ,jq]at L;have hl:x.ak.length=2\/x.ak.length=1:=by rcases L.2 with h|h<;>omega
   obtain⟨k,j⟩:=nP x.ak (i:=0) ac;have hks:=AB j;obtain⟨r,hr,o,K,J⟩:=V k s (hx.cw j) ac hs;rw[j,cn,hr,cn];by_cases e6:x.ak.length=1
   .rw[ay e6];have ho:x.op=20\/x.op=21:=by
     rcases L.2 with h|h
     .omega
     .exact h.2
    obtain⟨a,b,d⟩:=sa o (Qp K.i ho) aM (iG _ _ ac fB az ac ac ac ac) (by show x.op≠3;omega) (by show x.op≠31;omega) (AF K.m);exact⟨_,rfl,a,b,J.trans d⟩
   .rw[af e6];obtain⟨k1,Z⟩:=nP x.ak (i:=1) ac;have hks2:=Iz j Z;obtain⟨aK,g,C,I,q3⟩:=V k1 r.2 (hx.cw Z) ac o;have l1:=ev c n _ _ _ g;rw[Z,cn,g,cn];have ho:4<=x.op/\x.op<=18:=by
     rcases L.2 with h|h
     .have:=h.2;simp[py]at this;exact this
     .omega
    have p2':=K.le l1.le.l;by_cases e7:x.op=7\/x.op=8
    .rw[ay e7];obtain⟨bK,bW⟩:=zeI C I;have ld:=DD aK.1 aK.2;obtain⟨U,O,M⟩:=Ef bK (p2'.le ld.le.l) (I.le ld.le.l) (by omega:4<=x.op) ac;exact⟨_,rfl,U,O,J.trans (q3.trans (bW.trans M))⟩
    .rw[af e7];obtain⟨U,O,M⟩:=Ef C p2' I (by omega:4<=x.op) ac;exact⟨_,rfl,U,O,J.trans (q3.trans M)⟩
  .rw[af e4]at L;simp at L
theorem QU{c:Cx}(V:zd3 c){np n:Nat}{A:Nat->Prop}:∀(l:qG) (s:Bd),(∀x∈l,XOk c x)->eD l<n->LG c np A s->∃r,oG c n l s=some r/\LG c np A r.2/\(∀a∈r.1,IsM A r.2.l 1 a)/\Ql s r.2
 |[],s,hx,hd,hs=>⟨_,rfl,hs,az,wI s⟩
 |x::l,s,hx,hd,hs=>by
  rw[eD]at hd;obtain⟨r,hr,o,i,L⟩:=sc V n x s (hx x ei) ac hs;obtain⟨bB,Z,C,U,z⟩:=QU (n:=n) V l r.2 (fun y Y=>hx y (ej _ Y)) ac o;have l2:=(uC c n _ _ _ Z).1;refine⟨(r.1::bB.1,bB.2),P8,C,fun a j=>?_,L.trans z⟩;rcases gE.1 j with rfl|j
  .exact i.le l2.le.l
  .exact U a j
structure LP (s:Bd):Prop where
 l1:∀x∈s.l,x.op=31->0<=x.au/\x.au<s.loops
 l2:∀x∈s.l,∀y∈s.l,x.op=31->y.op=31->x.au=y.au->x=y
 l3:∀x∈s.l,x.op=3->0<=x.au/\x.au<16*s.loops
 l4:∀x∈s.l,∀y∈s.l,x.op=31->y.op=3->y.au.tdiv 16=x.au->y.au.tmod 16<et x.ak.length
structure Dl (s r:Bd):Prop where
 d:∀x∈r.l,x∈s.l\/((x.op=31->(s.loops:Int)<=x.au)/\(x.op=3->16*(s.loops:Int)<=x.au))
 n:s.loops<=r.loops
def Dl.refl(s:Bd):Dl s s:=⟨fun x h=>.inl h,aO _⟩
def Dl.trans{a b e:Bd}(h:Dl a b)(k:Dl b e):Dl a e:=⟨fun x I=>by
 have C:=h.n;rcases k.d x I with i|⟨i,g⟩
 .exact h.d x i
 .exact .inr ⟨fun q=>by have:=i q;omega,fun q=>by have:=g q;omega⟩,dq h.n k.n⟩
def Ql.dl{s:Bd}(h:Ql s r)(C:s.loops<=r.loops):Dl s r:=⟨fun x I=>(h.q x I).imp id fun q=>⟨fun e=>absurd e q.2,fun e=>absurd e q.1⟩,C⟩
def Ql.dB{s:Bd}(h:Ql s r){x:Nd}(I:x∈r.l)(e:x.op=31):x∈s.l:=(h.q x I).elim id fun q=>absurd e q.2
def Ql.m3{s:Bd}(h:Ql s r){x:Nd}(I:x∈r.l)(e:x.op=3):x∈s.l:=(h.q x I).elim id fun q=>absurd e q.1
def LP.ql{s:Bd}(h:LP s)(q:Ql s r)(Z:s.loops<=r.loops):LP r:=
 ⟨fun x I e=>by have:=h.l1 x (q.dB I e) e;omega,fun x I y Y ex C=>h.l2 x (q.dB I ex) y (q.dB Y C) ex C,fun x I e=>by have:=h.l3 x (q.m3 I e) e;omega,fun x I y Y ex C=>h.l4 x (q.dB I ex) y (q.m3 Y C) ex C⟩
def LP.setS{s:Bd}(h:LP s)(x:Int):LP {s with ab:=x}:=⟨h.l1,h.l2,h.l3,h.l4⟩
def LP.setV{s:Bd}(h:LP s)(x:qu):LP {s with vars:=x}:=⟨h.l1,h.l2,h.l3,h.l4⟩
def Dl.setS{s:Bd}(h:Dl s r)(x:Int):Dl s {r with ab:=x}:=⟨h.d,h.n⟩
def Dl.setV{s:Bd}(h:Dl s r)(x:qu):Dl s {r with vars:=x}:=⟨h.d,h.n⟩
theorem zeO(k a b:Int)(s:Bd)(z:Int):bZ k a b {s with ab:=z}=((bZ k a b s).1,{ (bZ k a b s).2 with ab:=z}):=by
 unfold bZ;split<;>rfl
section
variable {c:Cx} {np:Nat} {A:Nat -> Prop}
theorem QV{k:Int}{a:qu}:∀(m i:Nat) (s:Bd),LG c np A s->IsM A s.l 1 k->(∀y∈a,IsM A s.l 1 y)->a.length=c.aw.length->i+m=c.aw.length->∃r,nQ k a m i s=some r/\LG c np A r/\Ql s r
 |0,i,s,h,_,_,_,_=>⟨s,rfl,h,wI s⟩
 |m+1,i,s,h,hk,ha,hl,hi=>by
  have z:=h.i.vl;have Z:i<a.length:=ac;have g:i<s.vars.length:=ac;unfold nQ;rw[a0 Z,cn,a0 g,cn];obtain⟨cz,C,V⟩:=x7 h hk (ha _ (cL Z)) (h.v _ (cL g)) (.inl rfl);have lv:=gT k a[i] s.vars[i] s;obtain⟨r,e,aK,bB⟩:=QV m (i+1) { (bZ k a[i] s.vars[i] s).2 with vars:=(bZ k a[i] s.vars[i] s).2.vars.set i (bZ k a[i] s.vars[i] s).1} (cz.setV (fun y Y=>by
   rcases r2 Y with Y|rfl
   .exact cz.v y Y
   .exact C) (by rw[ky];exact cz.i.vl)) (hk.le lv.le.l) (fun y Y=>(ha y Y).le lv.le.l) hl ac
  exact⟨r,e,aK,V.trans ⟨bB.q⟩⟩
def zeP(k m:Nat)(s r:Bd):Prop:=∀x∈r.l,x∈s.l\/(x.op=3/\16*(k:Int)<=x.au/\x.au<16*(k:Int)+m)
theorem QW{k m:Nat}(L:k<=15)(U:A k)(K:m<=16):∀(i:qC) (j:Nat) (s:Bd),LG c np A s->j+i.length+1<=m->LG c np A (jj (16*(k:Int)+1) i j s)/\zeP k m s (jj (16*(k:Int)+1) i j s)
 |[],j,s,h,_=>⟨h,fun x I=>.inl I⟩
 |w::i,j,s,h,Z=>by
  rw[eT]at Z;have O:(16*(k:Int)+1+j).tmod 16=1+j:=by
   rw[Ir ac];omega
  have V:(16*(k:Int)+1+j).tdiv 16=k:=by
   rw[sQ ac];omega
  have M:fC s.l ⟨3,16*(k:Int)+1+j,[]⟩=1:=by rw[D6 ac ac,O,af ac]
  obtain⟨cz,C,g⟩:=jY h.i (n:=⟨3,16*(k:Int)+1+j,[]⟩) M aM (iG _ _ aM fB az aM aM aM aM);have mm:iu (ax ⟨3,16*(k:Int)+1+j,[]⟩ s).2.l A (ax ⟨3,16*(k:Int)+1+j,[]⟩ s).1:=Ed h.i.wf (by rw[M];decide) (fun _=>by show A ((16*(k:Int)+1+j).tdiv 16).toNat;rw[V,iK];exact U) (fun j k Z=>by simp at Z);have J:=h.put cz;unfold jj;obtain⟨aK,bB⟩:=QW L U K i (j+1) { (ax ⟨3,16*(k:Int)+1+j,[]⟩ s).2 with vars:=(ax ⟨3,16*(k:Int)+1+j,[]⟩ s).2.vars.set w (ax ⟨3,16*(k:Int)+1+j,[]⟩ s).1} (J.setV (fun y Y=>by
   rcases r2 Y with Y|rfl
   .exact J.v y Y
   .exact⟨C,mm⟩) Io) ac
  refine⟨aK,fun x I=>?_⟩;rcases bB x I with I|I
  .rcases sX.1 I with I|rfl
   .exact .inl I
   .exact .inr ⟨rfl,by show 16*(k:Int)<=16*(k:Int)+1+j;omega,by show 16*(k:Int)+1+j<16*(k:Int)+m;omega⟩
  .exact .inr I
theorem QX{lp k:Int}{old:qu}{q:Nd}:∀(i:qC) (j:Nat) (s:Bd),LG c np A s->IsM A s.l 3 lp->s.l[lp.toNat]?=some q->IsM A s.l 1 k->(∀y∈old,IsM A s.l 1 y)->(∀w∈i,w<old.length)->1<=j->((j+i.length:Nat):Int)<=et q.ak.length->j+i.length<=16 ->
 LG c np A (iC lp k old i j s)/\Ql s (iC lp k old i j s)
 |[],j,s,h,_,_,_,_,_,_,_,_=>⟨h,wI s⟩
 |w::i,j,s,h,hlp,hq,hk,ho,hw,hj,hlv,h16=>by
  rw[eT]at hlv h16;have L:fC s.l ⟨25,j,[lp]⟩=1:=by rw[D8 hlp.i hq ac ac,af ac]
  obtain⟨cz,C,g⟩:=sa h (n:=⟨25,j,[lp]⟩) L aM (iG _ _ aM fB az aM aM aM aM) az az (AF hlp.m);have o:=dB ⟨25,j,[lp]⟩ s;have J:=hw w ei;have K:old.getD w 0∈old:=Qa;obtain⟨dy,U,O⟩:=x7 cz (hk.le o.le.l) C ((ho _ K).le o.le.l) (.inl rfl);have Z:=o.trans (gT k (ax ⟨25,j,[lp]⟩ s).1 (old.getD w 0) (ax ⟨25,j,[lp]⟩ s).2);unfold iC;simp only[];generalize bZ k (ax ⟨25,j,[lp]⟩ s).1 (old.getD w 0) (ax ⟨25,j,[lp]⟩ s).2=z at *;have V:z.2.l[lp.toNat]?=some q:=by
   obtain⟨t,M⟩:=Z.le.l;rw[<-M,iw,hq];have:=hlp.i.hi;have:=hlp.i.lo;omega
  obtain⟨aK,bB⟩:=QX (q:=q) (lp:=lp) (k:=k) (old:=old) i (j+1) {z.2 with vars:=z.2.vars.set w z.1} (dy.setV (fun y Y=>by
   rcases r2 Y with Y|rfl
   .exact dy.v y Y
   .exact U) (by rw[ky];exact dy.i.vl)) (hlp.le Z.le.l) V (hk.le Z.le.l) (fun y Y=>(ho y Y).le Z.le.l) (fun y Y=>hw y (ej _ Y)) ac ac ac
  exact⟨aK,g.trans (O.trans ⟨bB.q⟩)⟩
end
def IK(c:Cx)(np n:Nat):Prop:=∀A x s,SOk c x->2*x.sz<n->LG c np A s->LP s->s.loops+dd x<=16->∃r,nR c n x s=some r/\LG c np A r/\LP r/\r.loops<=s.loops+dd x/\Dl s r
def AI(c:Cx)(np n:Nat):Prop:=∀A l s,zfZ c l->2*bN l<n->LG c np A s->LP s->s.loops+da l<=16->∃r,gK c n l s=some r/\LG c np A r/\LP r/\r.loops<=s.loops+da l/\Dl s r
def IL(c:Cx)(np n:Nat):Prop:=∀A x s,SOk c x->x.am=4->2*x.sz<=n->LG c np A s->LP s->s.loops+dd x<=16->∃r,oH c n x s=some r/\LG c np A r/\LP r/\r.loops<=s.loops+dd x/\Dl s r
def zeQ{np k:Nat}{d:Bd}{Z:qC}{dv:Int}(hk:k<=15)(hwl:Z.length<=14)(hr:LG c np A r)(hd:LG c np (fun t=>A t\/t=k) d)(hv:IsM (fun t=>A t\/t=k) d.l 1 dv)(U:r.l<+:d.l)(Y:∀i∈Z,i<r.vars.length)(N:Nd)
 (I:N=⟨31,k,r.ab::(Z.map fun i=>r.vars.getD i 0)++[dv,d.ab]++Z.map fun i=>d.vars.getD i 0⟩) :
 LG c np A { (ax N d).2 with vars:=r.vars,ab:=r.ab} /\ IsM A (ax N d).2.l 3 (ax N d).1/\N.ak.length=2*Z.length+3:=by
 have g:∀a∈Z.map fun i=>r.vars.getD i 0,IsM A d.l 1 a:=fun a J=>by
  obtain⟨i,o,rfl⟩:=nh.1 J;rw[dF,a0 (Y i o)];exact(hr.v _ (cL _)).le U
 have hn:∀a∈Z.map fun i=>d.vars.getD i 0,IsM (fun t=>A t\/t=k) d.l 1 a:=fun a J=>by
  obtain⟨i,o,rfl⟩:=nh.1 J;have:=Y i o;have e1:=hd.i.vl;have e2:=hr.i.vl;rw[dF,a0 (show i<d.vars.length by omega)];exact hd.v _ (cL _)
 have K:N.ak.length=2*Z.length+3:=by rw[I];simp;omega
 have hs:fC d.l N=3:=by
  rw[I];exact Qy (hr.st.i.le U) (fun a h=>(g a h).i) hv.i hd.st.i (fun a h=>(hn a h).i) az ca ac ac
 have V:N.op=31:=by rw[I]
 have him:N.au=k:=by rw[I]
 have hp:NdP c np N:=by
  have:=iG c np (op:=31) (imm:=k) (kids:=N.ak) aM fB ac aM aM aM aM;rw[show N=⟨31,k,N.ak⟩ by rw[I]];exact this
 obtain⟨k1,k2,_⟩:=jY hd.i hs aM hp;have km:iu (ax N d).2.l A (ax N d).1:=Ed hd.i.wf (by rw[hs];decide) (fun e=>by rw[V]at e;cases e) (fun j q m t C=>by
  by_cases c1:et N.ak.length<=j
  .have O:q∈N.ak:=lV m;have hq:iu d.l (fun t=>A t\/t=k) q:=by
    rw[I]at O;simp only[kU,kK]at O;rcases O with((rfl|O)|rfl|rfl)|O
    .exact(hr.st.le U).m.mono fun _=>.inl
    .exact(g q O).m.mono fun _=>.inl
    .exact hv.m
    .exact hd.st.m
    .exact(hn q O).m
   rcases hq t C with h|h
   .exact .inl h
   .exact .inr ⟨V,c1,by rw[him,h,iK]⟩
  .rw[K,CP _ ac]at c1;have hlt:j<(r.ab::(Z.map fun i=>r.vars.getD i 0)).length:=ca;have O:q∈r.ab::(Z.map fun i=>r.vars.getD i 0):=by
    rw[I]at m;simp only at m;rw[lT,iw hlt]at m;exact lV m
   rcases gE.1 O with rfl|O
   .exact .inl ((hr.st.le U).m t C)
   .exact .inl ((g q O).m t C))
 have lk:=(dB N d).le.l;have M:IsM A (ax N d).2.l 2 r.ab:=(hr.st.le U).le lk;have L:∀y∈r.vars,IsM A (ax N d).2.l 1 y:=fun y z=>((hr.v y z).le U).le lk;exact⟨⟨(k1.setV (fun y z=>(L y z).i) hr.i.vl).setS M.i,L,M⟩,⟨k2,km⟩,K⟩
theorem zeR(hc:zd3 c){np n:Nat}(IS:AI c np n):IL c np (n+1):=fun A x s hx hk hsz h hP hw=>by
 have hs:=x.aM;have hw1:=zB x;rw[ay hk]at hw1;have hv:=hx.value (.inr (.inr (.inr (.inl hk))));unfold oH;obtain⟨r,hr,o,p2,p3⟩:=sc hc n x.value {s with loops:=s.loops+1} hv ac (h.cn _);have lr:=ev c n _ _ _ hr;have hrn:r.2.loops=s.loops+1:=lr.n;obtain⟨b,hb,hbl⟩:=AC n x.a5 (List.replicate r.2.vars.length false) hx.bT.1 ac (by rw[pq];exact o.i.vl);rw[hr,cn,hb,cn];simp only[];have hwl:=IA b;have hnl:=hc.nl;have hwm:∀i∈gJ b,i<r.2.vars.length:=fun i hi=>by have:=HT hi;have:=o.i.vl;omega
 generalize gJ b=V at *;have hm:(16*(s.loops:Int)).tmod 16=0:=Gm;have hdv:(16*(s.loops:Int)).tdiv 16=s.loops:=by rw[sQ ac];omega
 have hsq:fC r.2.l ⟨3,16*(s.loops:Int),[]⟩=2:=by rw[D6 ac ac,hm,ay rfl]
 have p1':LG c np (fun t=>A t\/t=s.loops) r.2:=o.mono fun _=>.inl;obtain⟨q1,q2,_⟩:=jY o.i (n:=⟨3,16*(s.loops:Int),[]⟩) hsq aM (iG _ _ aM fB az aM aM aM aM);have qm:iu (ax ⟨3,16*(s.loops:Int),[]⟩ r.2).2.l (fun t=>A t\/t=s.loops) (ax ⟨3,16*(s.loops:Int),[]⟩ r.2).1:=Ed o.i.wf (by rw[hsq];decide) (fun _=>.inr (by show((16*(s.loops:Int)).tdiv 16).toNat=_;rw[hdv,iK])) (fun j k hj=>by simp at hj);have qg:=p1'.put q1;have lq:=dB ⟨3,16*(s.loops:Int),[]⟩ r.2;have vq:∀y∈(ax ⟨3,16*(s.loops:Int),[]⟩ r.2).2.l,y∈r.2.l\/(y.op=3/\y.au=16*(s.loops:Int)):=fun y Y=>by
  rcases sX.1 Y with Y|rfl
  .exact .inl Y
  .exact .inr ⟨rfl,rfl⟩
 generalize ax ⟨3,16*(s.loops:Int),[]⟩ r.2=q at *;obtain⟨u1,u2⟩:=QW (k:=s.loops) (m:=V.length+1) (A:=fun t=>A t\/t=s.loops) ac (.inr rfl) ac V 0 {q.2 with ab:=q.1} (qg.setS ⟨q2,qm⟩) ac;have lu:=ta (16*(s.loops:Int)+1) V 0 {q.2 with ab:=q.1};generalize jj (16*(s.loops:Int)+1) V 0 {q.2 with ab:=q.1}=u at *;have hun:u.loops=s.loops+1:=Qb
 -- what is in u: nodes of s,quiet ones,variables of this loop
 have hu:∀y∈u.l,y∈s.l\/(y.op≠3/\y.op≠31)\/(y.op=3/\16*(s.loops:Int)<=y.au/\y.au<16*(s.loops:Int)+(V.length+1:Nat)):=fun y Y=>by
  rcases u2 y Y with Y|Y
  .rcases vq y Y with Y|⟨e1,J⟩
   .rcases p3.q y Y with Y|Y
    .exact .inl Y
    .exact .inr (.inl Y)
   .exact .inr (.inr ⟨e1,ac,ac⟩)
  .exact .inr (.inr Y)
 have U:∀y∈u.l,y.op=31->y∈s.l:=fun y Y e=>by
  rcases hu y Y with Z|Z|Z
  .exact Z
  .exact absurd e Z.2
  .rw[Z.1]at e;cases e
 have uP:LP u:=by
  refine⟨fun y Y e=>?_,fun y Y z I C O=>hP.l2 y (U y Y C) z (U z I O) C O,fun y Y e=>?_,fun y Y z I C O e=>?_⟩
  .have:=hP.l1 y (U y Y e) e;omega
  .rcases hu y Y with Z|Z|Z
   .have:=hP.l3 y Z e;omega
   .exact absurd e Z.1
   .omega
  .rcases hu z I with Z|Z|Z
   .exact hP.l4 y (U y Y C) z Z C O e
   .exact absurd O Z.1
   .have:=hP.l1 y (U y Y C) C;rw[sQ ac]at e;omega
 obtain⟨t,ht,t1,tP,t2,t3⟩:=IS _ x.a5 u hx.bT.1 ac u1 uP ac;have lt:=(mp c n).2.1 _ _ _ ht;rw[ht,cn];obtain⟨d,hd,d1,d2,d3⟩:=sc hc n x.value t hv ac t1;have ld:=ev c n _ _ _ hd;have dP:=tP.ql d3 (by rw[ld.n];exact aO _);rw[hd,cn];have le1:dY r.2 d.2:=(lq.le.setS q.1).trans (lu.1.trans (lt.1.trans ld.le));have tn:=t3.n;have hdn:s.loops+1<=d.2.loops:=by rw[ld.n];omega
 -- what is in d
 have K:∀y∈d.2.l,y.op=31->y∈s.l\/(s.loops:Int)+1<=y.au:=fun y Y e=>by
  rcases t3.d y (d3.dB Y e)with Z|Z
  .exact .inl (U y Z e)
  .have:=Z.1 e;exact .inr ac
 have hd3:∀y∈d.2.l,y.op=3->y∈s.l\/(16*(s.loops:Int)<=y.au/\y.au<16*(s.loops:Int)+(V.length+1:Nat))\/16*((s.loops:Int)+1)<=y.au:=fun y Y e=>by
  rcases t3.d y (d3.m3 Y e)with Z|Z
  .rcases hu y Z with Z|Z|Z
   .exact .inl Z
   .exact absurd e Z.1
   .exact .inr (.inl Z.2)
  .have:=Z.2 e;exact .inr (.inr ac)
 obtain⟨g1,g2,hkl⟩:=zeQ (k:=s.loops) (dv:=d.1) ac ac o d1 d2 le1.l hwm ⟨31,s.loops,r.2.ab::(V.map fun i=>r.2.vars.getD i 0)++[d.1,d.2.ab]++V.map fun i=>d.2.vars.getD i 0⟩ rfl;have hop:(⟨31,s.loops,r.2.ab::(V.map fun i=>r.2.vars.getD i 0)++[d.1,d.2.ab]++V.map fun i=>d.2.vars.getD i 0⟩:Nd).op=31:=rfl;have him:(⟨31,s.loops,r.2.ab::(V.map fun i=>r.2.vars.getD i 0)++[d.1,d.2.ab]++V.map fun i=>d.2.vars.getD i 0⟩:Nd).au=s.loops:=rfl;have lk:=dB ⟨31,s.loops,r.2.ab::(V.map fun i=>r.2.vars.getD i 0)++[d.1,d.2.ab]++V.map fun i=>d.2.vars.getD i 0⟩ d.2;generalize (⟨31,s.loops,r.2.ab::(V.map fun i=>r.2.vars.getD i 0)++[d.1,d.2.ab]++V.map fun i=>d.2.vars.getD i 0⟩:Nd)=N at *;have hq:(ax N d.2).2.l[(ax N d.2).1.toNat]?=some N:=HO _ _;have M:∀y∈(ax N d.2).2.l,y∈d.2.l\/y=N:=fun y Y=>sX.1 Y;have kn:(ax N d.2).2.loops=d.2.loops:=rfl;generalize ax N d.2=k at *;have hlv:et (2*V.length+3:Nat)=((V.length+1:Nat):Int):=zm;have g:∀y∈d.2.l,y.op=31->y.au≠s.loops:=fun y Y e J=>by
  rcases K y Y e with Z|Z
  .have:=hP.l1 y Z e;omega
  .omega
 have kP:LP k.2:=by
  refine⟨fun y Y e=>?_,fun y Y z I C O e=>?_,fun y Y e=>?_,fun y Y z I C O e=>?_⟩
  .rcases M y Y with Y|rfl
   .have:=dP.l1 y Y e;omega
   .omega
  .rcases M y Y with Y|rfl
   .rcases M z I with I|rfl
    .exact dP.l2 y Y z I C O e
    .exact absurd (e.trans him) (g y Y C)
   .rcases M z I with I|rfl
    .exact absurd (e.symm.trans him) (g z I O)
    .rfl
  .rcases M y Y with Y|rfl
   .have:=dP.l3 y Y e;omega
   .rw[hop]at e;cases e
  .rcases M z I with I|rfl
   .rcases M y Y with Y|rfl
    .exact dP.l4 y Y z I C O e
    .rw[hkl,hlv];rcases hd3 z I O with Z|Z|Z
     .have:=hP.l3 z Z O;rw[sQ ac]at e;omega
     .rw[Ir ac];omega
     .rw[sQ ac]at e;omega
   .rw[hop]at O;cases O
 have kD:Dl s k.2:=by
  refine⟨fun y Y=>?_,ac⟩;rcases M y Y with Y|rfl
  .by_cases e:y.op=31
   .rcases K y Y e with Z|Z
    .exact .inl Z
    .exact .inr ⟨fun _=>ac,fun J=>by rw[e]at J;cases J⟩
   .by_cases e3:y.op=3
    .rcases hd3 y Y e3 with Z|Z|Z
     .exact .inl Z
     .exact .inr ⟨fun J=>absurd J e,fun _=>ac⟩
     .exact .inr ⟨fun J=>absurd J e,fun _=>ac⟩
    .exact .inr ⟨fun J=>absurd J e,fun J=>absurd J e3⟩
  .exact .inr ⟨fun _=>ac,fun J=>by rw[hop]at J;cases J⟩
 -- the nodes behind it
 have hlr:fC k.2.l ⟨25,0,[k.1]⟩=2:=by rw[D8 (n:=0) g2.i hq ac (by rw[hkl,hlv];omega),ay rfl]
 obtain⟨f1,f2,f3⟩:=sa g1 (n:=⟨25,0,[k.1]⟩) hlr aM (iG _ _ aM fB az aM aM aM aM) az az (AF g2.m);have lf:=dB ⟨25,0,[k.1]⟩ {k.2 with vars:=r.2.vars,ab:=r.2.ab};have ef:ax ⟨25,0,[k.1]⟩ {k.2 with vars:=r.2.vars}=((ax ⟨25,0,[k.1]⟩ {k.2 with vars:=r.2.vars,ab:=r.2.ab}).1,{ (ax ⟨25,0,[k.1]⟩ {k.2 with vars:=r.2.vars,ab:=r.2.ab}).2 with ab:=k.2.ab}):=rfl;rw[ef];generalize ax ⟨25,0,[k.1]⟩ {k.2 with vars:=r.2.vars,ab:=r.2.ab}=f at *;have L:r.2.l<+:f.2.l:=(le1.l.trans lk.le.l).trans lf.le.l;obtain⟨cz,m2,m3⟩:=x7 f1 (p2.le L) f2 (o.st.le L) (.inr rfl);have lm:=gT r.1 f.1 r.2.ab f.2;simp only[zeO];generalize bZ r.1 f.1 r.2.ab f.2=m at *;have lkm:k.2.l<+:m.2.l:=lf.le.l.trans lm.le.l;have hqm:m.2.l[k.1.toNat]?=some N:=by
  obtain⟨z,I⟩:=lkm;rw[<-I,iw,hq];have:=g2.i.hi;have:=g2.i.lo;omega
 obtain⟨z1,z2⟩:=QX (lp:=k.1) (k:=r.1) (old:=r.2.vars) V 1 {m.2 with ab:=m.1} (cz.setS m2) (g2.le lkm) hqm (p2.le (L.trans lm.le.l)) (fun y Y=>(o.v y Y).le (L.trans lm.le.l)) hwm (aO _) (by rw[hkl,hlv];omega) ac;have lz:=uD k.1 r.1 r.2.vars V 1 {m.2 with ab:=m.1};have hzn:(iC k.1 r.1 r.2.vars V 1 {m.2 with ab:=m.1}).loops=d.2.loops:=by
  rw[lz.2.2.2];show m.2.loops=_;rw[lm.n,lf.n];exact kn
 have qz:Ql k.2 (iC k.1 r.1 r.2.vars V 1 {m.2 with ab:=m.1}):=(Ql.mk f3.q:Ql k.2 f.2).trans (m3.trans ⟨z2.q⟩);have hkz:k.2.loops<=(iC k.1 r.1 r.2.vars V 1 {m.2 with ab:=m.1}).loops:=by rw[hzn,kn];exact aO _
 have hzb:(iC k.1 r.1 r.2.vars V 1 {m.2 with ab:=m.1}).loops<=s.loops+dd x:=by rw[hzn,ld.n];omega
 exact⟨_,rfl,z1,kP.ql qz hkz,hzb,kD.trans (qz.dl hkz)⟩
def zeS(K:zd3 c){np n:Nat}(IS:AI c np n)(IW:IL c np n):IK c np (n+1):=fun A x s I hsz h g hw=>by
 have hs:=x.aM;have hw1:=zB x;have hkd:=I.kd;unfold nR;by_cases k1:x.am=1
 .rw[ay k1];obtain⟨r,hr,o,J,L⟩:=sc K n x.value s (I.value (.inl k1)) ac h;have U:=ev c n _ _ _ hr;have hn:=I.name (.inl k1);have hvl:=o.i.vl;rw[hr,cn,ay ac];exact⟨_,rfl,o.setV (fun y V=>by
   rcases r2 V with V|rfl
   .exact o.v y V
   .exact J) (by rw[ky];exact hvl),(g.ql L (jR U.n.symm)).setV _,by show r.2.loops<=_;rw[U.n];omega,(L.dl (jR U.n.symm)).setV _⟩
 rw[af k1];by_cases k2:x.am=2
 .rw[ay k2];obtain⟨r,hr,o,J,L⟩:=sc K n x.aW s (I.aW k2) ac h
  obtain⟨v,hv,q1,q2,q3⟩:=sc K n x.value r.2 (I.value (.inr (.inl k2))) ac o;have U:=ev c n _ _ _ hr;have lv:=ev c n _ _ _ hv;have hlt:=I.arr k2;rw[hr,cn,hv,cn,a0 hlt,cn];have ha:=K.a _ (cL hlt);generalize c.aa[cY (c.aa.map (·.name)) x.name]=ar at ha⊢;have p2':=J.le lv.le.l;obtain⟨bK,bW⟩:=QT q1 (n:=ar.len) fB p2';have lc:=uB ar.len r.1 v.2;obtain⟨O,M,C⟩:=zeK K bK (p2'.le lc.le.l) (q2.le lc.le.l) hlt;have Z:=L.trans (q3.trans (bW.trans C));have Y:(fL ar.len r.1 v.2).loops=s.loops:=by rw[lc.n,lv.n,U.n]
  exact⟨_,rfl,O.setS M,(g.ql Z Qc).setS _,by show(fL ar.len r.1 v.2).loops<=_;omega,(Z.dl Qc).setS _⟩
 rw[af k2];by_cases k3:x.am=3
 .rw[ay k3];rw[af ac]at hw1;obtain⟨r,hr,o,J,L⟩:=sc K n x.value s (I.value (.inr (.inr (.inl k3)))) ac h;have U:=ev c n _ _ _ hr;have hrn:=U.n;have rP:=g.ql L (jR hrn.symm);obtain⟨a,ha,bK,aP,bW,a3⟩:=IS A x.a5 r.2 I.bT.1 ac o rP ac;have la:=(mp c n).2.1 _ _ _ ha;have hal:a.vars.length=c.aw.length:=bK.i.vl;obtain⟨b,hb,O,bP,M,C⟩:=IS A x.a6 {a with ab:=r.2.ab,vars:=r.2.vars} I.bT.2 ac ((bK.setS (o.st.le la.1.l)).setV (fun y V=>(o.v y V).le la.1.l) o.i.vl) ⟨aP.l1,aP.l2,aP.l3,aP.l4⟩ (by show a.loops+_<=_;omega);have lb:=(mp c n).2.1 _ _ _ hb;have lab:a.l<+:b.l:=lb.1.l;have kb:IsM A b.l 1 r.1:=(J.le la.1.l).le lab;have hbl:=O.i.vl;obtain⟨m,hm,cz,m2⟩:=QV (k:=r.1) (a:=a.vars) b.vars.length 0 b O kb (fun y V=>(bK.v y V).le lab) hal ac;have lm:=wq _ _ _ _ _ _ hm;rw[hr,cn,ha,cn,hb,cn,hm,cn];obtain⟨t1,t2,t3⟩:=x7 cz (kb.le lm.1.l) ((bK.st.le lab).le lm.1.l) cz.st (.inr rfl);have lt:=gT r.1 a.ab m.ab m;have hbn:(bZ r.1 a.ab m.ab m).2.loops=b.loops:=by rw[lt.n,lm.2.2.2]
  have Z:=m2.trans t3;have b2':b.loops<=a.loops+da x.a6:=M;have dab:Dl a b:=⟨C.d,C.n⟩;exact⟨_,rfl,t1.setS t2,(bP.ql Z (jR hbn.symm)).setS _,by show(bZ r.1 a.ab m.ab m).2.loops<=_;omega,((L.dl (jR hrn.symm)).trans (a3.trans (dab.trans (Z.dl (jR hbn.symm))))).setS _⟩
 rw[af k3];by_cases k4:x.am=4
 .rw[ay k4];exact IW A x s I k4 ac h g hw
 rw[af k4];by_cases k5:x.am=5
 .rw[ay k5];obtain⟨r,hr,o,J,L⟩:=sc K n x.value s (I.value (.inr (.inr (.inr (.inr k5))))) ac h;have U:=ev c n _ _ _ hr;have hrn:=U.n;rw[hr,cn];obtain⟨O,M,C⟩:=zeL o J;have Z:=L.trans C;exact⟨_,rfl,O.setS M,(g.ql Z (by show s.loops<=r.2.loops;omega)).setS _,by show r.2.loops<=_;omega,(Z.dl (by show s.loops<=r.2.loops;omega)).setS _⟩
 rw[af k5];by_cases k6:x.am=6
 .rw[ay k6];obtain⟨r,hr,o,J,L⟩:=QU K (n:=n) x.args s I.args ac h;obtain⟨U,hlr⟩:=uC c n _ _ _ hr;obtain⟨c1,c2⟩:=I.call k6;obtain⟨i,hi,hfe⟩:=Dm c.funcs x.to 0 c1;obtain⟨f,hfn⟩:=nP c.funcs hi;have j:dc c.funcs x.to 0=(i:Int):=by simpa using hfe
  have hn:=I.name (.inr k6);have hvl:=o.i.vl;have hpar:r.1.length=f.params.length:=by
   rw[hlr,c2,oD,j,iK,hfn];rfl
  rw[hr,cn,ay ⟨c1,ac⟩];simp only[];rw[j];obtain⟨O,M,C⟩:=zeN K o J hfn hpar;have lb:=dB ⟨30,i,r.2.ab::r.1⟩ r.2;generalize ax ⟨30,i,r.2.ab::r.1⟩ r.2=z at *;obtain⟨d1,d2,d3⟩:=zeM (O.setS M) M;have ld:=dB ⟨24,0,[z.1]⟩ {z.2 with ab:=z.1};generalize ax ⟨24,0,[z.1]⟩ {z.2 with ab:=z.1}=w at *;have Z:Ql s w.2:=L.trans (C.trans d3.ofS);have Y:w.2.loops=s.loops:=by rw[ld.n];show z.2.loops=_;rw[lb.n,U.n]
  refine⟨_,rfl,d1.setV (fun y V=>?_) (by rw[ky];exact d1.i.vl),(g.ql Z (jR Y.symm)).setV _,by show w.2.loops<=_;omega,(Z.dl (jR Y.symm)).setV _⟩;rcases r2 V with V|rfl
  .exact d1.v y V
  .exact d2
 rw[af k6];by_cases k7:x.am=7
 .rw[ay k7];have ht:=I.du k7;have hw:cC (16+x.n)=16+x.n:=iN ac ac;rw[hw];obtain⟨bK,bW,a3⟩:=AH h (n:=0) fB;obtain⟨O,M⟩:=IJ bK (t:=16+x.n) bW ac ac;have lb:=uA (16+x.n) (ax ⟨1,0,[]⟩ s).1 (ax ⟨1,0,[]⟩ s).2;have Y:(lj (16+x.n) (ax ⟨1,0,[]⟩ s).1 (ax ⟨1,0,[]⟩ s).2).loops=s.loops:=lb.n;have Z:=a3.trans M;exact⟨_,rfl,O,g.ql Z (jR Y.symm),ac,Z.dl (jR Y.symm)⟩
 .omega
def zeT{np n:Nat}(J:IK c np n)(C:AI c np n):AI c np (n+1):=fun A l s K O h i L=>by
 cases l with
 |nil=>exact⟨s,by unfold gK;rfl,h,i,ac,Dl.refl s⟩
 |cons x l=>
  obtain⟨I,K⟩:=K.cons;rw[bN]at O;rw[da]at L⊢;unfold gK;simp only[];obtain⟨r,hr,o,Z,m,Y⟩:=J A x s I ac h i ac;obtain⟨t,U,V,M,j,z⟩:=C A l r K ac o Z ac;rw[hr,cn,U];exact⟨t,rfl,V,M,ac,Y.trans z⟩
theorem QY{c:Cx}(V:zd3 c){np:Nat}:∀n:Nat,IK c np n/\AI c np n/\IL c np n
 |0=>⟨fun A x s _ h=>ac,fun A l s _ h=>ac,fun A x s I _ h=>by have:=x.aM;omega⟩
 |n+1=>by
  obtain⟨a,b,d⟩:=QY V (np:=np) n;exact⟨zeS V b d,zeT a b,zeR V b⟩
end
end Go.Proofs.Ytbflaciihaijgaa
