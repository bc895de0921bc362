/- Lemmas for the last file. -/
import Derived.Test.YtbflaciihaijgaaGreatREI
set_option linter.all false
set_option maxHeartbeats 32000000
namespace Go.Ab
set_option maxRecDepth 20000
open Go
variable{qb:Prop}
def FT(h:qb:=by rw[List.length_append];omega):=h
def gB(h:qb:=by rfl):=h
def fT(h:qb:=by first|rfl|trivial):=h
def cy(h:qb:=by decide):=h
def tM(h:qb:=by rw[<- J];rfl):=h
def po(h:qb:=by rw[aP,if_pos gB]):=h
def wV(h:qb:=by rw[aP,if_pos gB];rfl):=h
def LV(h:qb:=by simp only[aK,Nat.reduceBEq, *];exact jV (n:=z.length) aa aa):=h
def FU(h:qb:=by rw[<- J,aP,if_neg gA,Hp.get_set,if_neg aa,aP,if_neg aa]):=h
def FV:=@Nat.mul_le_mul_left
def FW:=@List.nodup_nil
def sq:=@Nat.le_of_eq
def Cm:=@List.length_set
def zb:=@List.map_id
def wW:=@List.mem_singleton
def vx:=@Int.tmod_lt_of_pos
end Go.Ab
namespace Go.Proofs.YtbflaciihaijgaaGreat
set_option maxRecDepth 20000
open Go Go.Ab Proofs.Tryz
variable{b:Nat}{H:Hp}{v:AV}{l:qp}
def tyN6f.tyF:=ac @dF (ac @cI (ac @cY (ac @fg (ac @fh (ac @eL (ac @jH (ac @pR (ac @dW (ac @dR (ac @dX (ac @dy (ac @ge (ac @eD (ac @uV (ac @uW (ac @wu (@LM)))))))))))))))))
open tyN6f
noncomputable def LW:{c:SC // aG 24 (f98.body.getD .skip)=c}:=by
 refine⟨?_,?_⟩;rotate_left
 .simp only[f98,bE,aG,bz,bq,bF,bB,Nat.blt,Nat.ble];rfl
noncomputable def Cn:{c:SC // aG 46 (f56.body.getD .skip)=c}:=by
 refine⟨?_,?_⟩;rotate_left
 .simp only[f56,bE,aG,bz,bq,bF,bB,Nat.blt,Nat.ble];rfl
def rj(b:Nat)(H:Hp)(v:AV)(l:qp):Prop:=(v=.ab/\l=[])\/∃r,v=.sl r 0 l.length 1/\H.get r=some (.cells (ints l) 0 true)/\b<=r/\r<H.next
def rj.ints(h:rj b H v l):oh H v l:=by
 rcases h with h|⟨r,j,m,_⟩
 .exact .inl h
 .exact .inr ⟨r,j,m⟩
def rj.lt(h:rj b H v l):∀k,iL v k->b<=k/\k<H.next:=fun k ⟨n,e⟩=>by
 rcases h with⟨h,_⟩|⟨r,j,m,A,O⟩
 .rw[h]at e;simp at e
 .rw[j]at e;simp only[AV.sl.injEq]at e;omega
def rj.f9(h:rj b H v l):∀k,pe v k->k<H.next:=fun k ⟨o,n,z,e⟩=>by
 rcases h with⟨h,_⟩|⟨r,j,m,A,O⟩
 .rw[h]at e;simp at e
 .rw[j]at e;simp only[AV.sl.injEq]at e;omega
def rj.mono{H':Hp}(h:rj b H v l)(I:H.next<=H'.next)(C:∀k,b<=k->k<H.next->H'.get k=H.get k):rj b H' v l:=by
 rcases h with h|⟨r,j,m,A,O⟩
 .exact .inl h
 .exact .inr ⟨r,j,by rw[C r A O];exact m,A,aa⟩
theorem XP(a b c d e f g h i:AV):cH 2 [a,b,c,d,e,f,g,h,i]=some (.agg [a,b]):=rfl
def LX(X:Mx):Prop:=∀s,0<=cm X.p.funcs s 0->de X.fi s=cm X.p.funcs s 0
section
variable {tb:qu} (hT:RnT tb) {X:Mx} {cv:AV} {ns:List aS} (hF:Fn X ns) {x:St} {vs:List (aS × Int)} {s:MS} {fp vb:Nat} {nv:AV} {vals:qp} {ov:AV} {fu:Int} {H:Hp}
include hT in
def XQ(j:zdb X cv H s ov fu)(I:s.aK≠0)(k:Int)(Z:AV):aU prog (aF pls tb) 56 [.ptr X.rm 0,.int .i64 k,Z] H fun v H'=>v=.int .i64 0/\H'=H:=by
 have J:zc7 (aF pls tb) 56:=hT.plain rfl;refine a5 (M:=46) (rs:=[.tmp 6]) (J.call _) J.ao J.am func56 rfl rfl Cn.2 rfl ?_;dsimp only[Cn,a3,Nat.reduceAdd];repeat' (first
  |(apply ai ?_;clear hK K)|apply Ry.o ?_|(apply cU ?_;first|refine aY (gZ hT j) ?_)|(apply a2 (fun z V=>?_) (fun z V=>?_)<;>try(cases z;done))|apply ae ?_|(apply ah fun K hK=>?_)|apply am ?_)
 all_goals refine qq ?_
 exact⟨pH,pH⟩
def zd{p:Pr}{nm:aS}{m:Nat}(h:0<=cm p.funcs nm 0)(K:m=j3 p nm):∃f,p.funcs[(cm p.funcs nm 0).toNat]?=some f/\f.params.length=m:=by
 obtain⟨k,j,Z⟩:=BY p.funcs nm 0 h;have S:cm p.funcs nm 0=((0+k:Nat):Int):=Z;have e:(cm p.funcs nm 0).toNat=k:=aa;have C:p.funcs[(cm p.funcs nm 0).toNat]?=some p.funcs[k]:=by rw[e];exact bt j
 exact⟨_,C,by rw[K,j3,C];rfl⟩
set_option maxRecDepth 100000 in
include hT hF in
theorem XR(hfx:LX X)(hk:x.ag=6){n:Nat}{Z:qp×MS}{r:List (aS×Int)×MS}(ha:kZ n x.args vs s=some Z)
 (h2:(if (ed Z.2).aK=0 then (i3 X.p X.fi n (de X.fi x.to) Z.1 (ed Z.2)).bind fun a1=>some (setV vs x.name a1.1,a1.2)else some (vs,ed Z.2))=some r)
 (IH:Ch tb X cv n) (hz:x.sz<2^36) (hlo:r.2.out.length<2^40) (ho:NOk X ns x) (h00:s.aK=0) (C:zdb X cv H s ov fu) (hv:zde X H fp vb nv ns vals ov) (hvs:s.aK=0->iP ns vs vals) :
 aU prog (aF pls tb) 150 [.ptr X.rm 0,.ptr fp 0,.agg x.cells] H (ri X cv fp vb nv ns ov H r):=by
 obtain⟨d1,_,_,_,_,d6,_,d8⟩:=ho.parts;have hn:=d6 (.inr hk);obtain⟨U,j⟩:=d8 hk;have hargs:=j.symm;clear j d8;have b1:=tL (x:=x) C hv;have hw:zc7 (aF pls tb) 150:=hT.plain rfl;have hkeep:(aF pls tb).aj 150=false:=rfl;have hsz:=x.aJ;have hal:=lH x.args;have hral:=(wS _ _ _ _ ha).2.2.2;have hpl:X.p.funcs.length<2^60:=by
  have h1:=lI X.p.funcs;have h2:X.p.sz=1+ez X.p.af+dY X.p.funcs:=rfl;have:=hF.pz;omega
 refine a5 (M:=176) (rs:=[]) (hw.call _) hw.ao hw.am func150 rfl rfl lb.2 rfl ?_;dsimp only[lb,a3,Nat.reduceAdd];repeat' (first
  |(apply ai ?_;clear hK K)|apply Ry.o ?_|apply bP ?_|(apply a2 (fun z V=>?_) (fun z V=>?_)<;>try(cases z;done))|apply ae ?_|(apply ah fun K hK=>?_)|(apply aq 4 [(3,7),(3,10),(6,7)] fun K hK=>?_)|(apply aq 8 [(3,7),(3,11),(6,7),(9,11)] fun K hK=>?_)|(apply aq 34 [(4,7),(6,7)] fun K hK=>?_)|(apply aq 35 [(3,7),(3,10),(6,7)] fun K hK=>?_)|(apply aM ?_;try intro _)|(apply aR ?_ ?_<;>clear hK K)|apply aL ?_|apply bu rfl ?_|apply aj ?_|apply ak ?_|apply ax ?_)
 refine jU (fun i E H2=>∃s2,kZ n (x.args.drop i) vs s2=some (Z.1.drop i,Z.2)/\E.at 0=.ptr X.rm 0/\E.at 1=.ptr fp 0/\E.at 5=.ptr H.next 0/\E.at 12=.int .i64 i /\
  rj (H.next+1) H2 (E.at 11) (Z.1.take i)/\zdb X cv H2 s2 ov fu/\FrE X (H.alloc (.cells x.cells 0 true)) H2) x.args.length ?_ ?_
 .rintro i E H2 hi ⟨s2,Y,k0,k1,sM,k12,k11,hR2,o⟩;have hb2:H2.get H.next=some (.cells x.cells 0 true):=by rw[o.get _ (dq _) (by have:=C.lm;omega)];exact b1.box
  have hn2:=o.next
  simp only[br]at hn2;by_cases I:i<x.args.length
  .have hlt':(i:Int)<x.args.length:=by omega
   have hgx:x.args[i]?=some x.args[i]:=bt I;have hxm:=lK (ek I);rw[fR I]at Y;simp only[kZ,dI,cC]at Y;obtain⟨aw,he,a1,Y,hd,h22⟩:=Y;have hv2:=b1.v.cW o;repeat' (first
    |(apply ai ?_;clear hK K)|apply Ry.o ?_|apply bP ?_|(apply a2 (fun z V=>?_) (fun z V=>?_)<;>try(cases z;done))|apply ae ?_|(apply ah fun K hK=>?_)|(apply aq 4 [(3,7),(3,10),(6,7)] fun K hK=>?_)|(apply aq 8 [(3,7),(3,11),(6,7),(9,11)] fun K hK=>?_)|(apply aq 34 [(4,7),(6,7)] fun K hK=>?_)|(apply aq 35 [(3,7),(3,10),(6,7)] fun K hK=>?_)|(apply aM ?_;try intro _)|(apply aR ?_ ?_<;>clear hK K)|apply aL ?_|apply bu rfl ?_|apply aj ?_|apply ak ?_|apply ax ?_)
   refine qa ?_;refine a4 ?_ (sm hT X hF.pz cv ns hF.nl n x.args[i] vs s2 aw he (defEs_get d1 hgx) fp vb nv vals ov fu _ hR2 hv2 fun _=>hvs h00);rintro v J ⟨rfl,hR4,O⟩;have hn4:=O.next
   have hlm:=C.lm;have k74:=k11.mono (H':=J) O.next fun k h1 h2=>O.get k h2 aa
   have k75:=k74.mono (H':=J.alloc (.cells [.int .i64 aw.1] 0 true)) (eT _) fun k h1 h2=>fX;obtain⟨H6,happ,hn6,hg6,hk6⟩:=BL (P:=prog) (t:=27) underlying27 oW rW rX k75.ints (r':=J.next) (x:=aw.1) fN te;have F:i<Z.1.length:=aa;have htl:(Z.1.take i).length=i:=te;rw[htl]at happ;have happ2:dh prog false (J.alloc (.cells [.int .i64 aw.1] 0 true)) 27 27 (E.at 11) (.sl J.next 0 1 1)=some (.sl (J.next+1) 0 (i+1) 1,H6):=happ;have hk6':∀k,k<H.next+1->H6.get k=J.get k:=fun k hk=>by
    rw[hk6 k bY (fun e=>by have:=(k75.lt k e).1;omega),aP,ad aa]
   have hn6':H6.next=J.next+2:=hn6
   have hR6:zdb X cv H6 aw.2 ov fu:=by
    refine hR4.b4 aa fun k h1 h2=>hk6' k ?_;rcases h2 with h2|h2|h2
    .have:=C.a8 h2;omega
    .have:=C.lc;omega
    .have:=C.a9 h2;omega
   have hdrop:Z.1.drop (i+1)=a1.1:=by
    rw[<-List.tail_drop,<-hd,List.tail_cons]
   have hget:Z.1[i]?=some aw.1:=by
    rw[<-List.head?_drop,<-hd];rfl
   dsimp only[a0];repeat' (first
    |(apply ai ?_;clear hK K)|apply Rx.o ?_|apply ae ?_|(apply ah fun K hK=>?_)|(apply aq 4 [(3,7),(3,10),(6,7)] fun K hK=>?_)|(apply aq 8 [(3,7),(3,11),(6,7),(9,11)] fun K hK=>?_)|(apply aq 34 [(4,7),(6,7)] fun K hK=>?_)|(apply aq 35 [(3,7),(3,10),(6,7)] fun K hK=>?_)|(apply aM ?_;try intro _)|(apply aR ?_ ?_<;>clear hK K)|apply aL ?_|apply bu rfl ?_|apply aj ?_|apply ak ?_|apply ax ?_)
   refine⟨I,aw.2,?_,eE,eE,eE,?_,?_,hR6,⟨bY,fun k h1 h2=>?_⟩⟩
   .rw[hdrop,Y,<-h22]
   .simp only[gc,Nat.reduceBEq,fF,ft (show i<2^62 by omega)]
   .refine .inr ⟨J.next+1,?_,?_,aa,aa⟩
    .simp only[gc,Nat.reduceBEq,fF,nS,mF];rw[As aa]
    .rw[show Z.1.take (i+1)=Z.1.take i++[aw.1] by rw[pJ,hget];rfl];exact hg6
   .have h1':k<H.next+1:=h1
    rw[hk6' k h1',O.get k aa h2];exact o.get k h1 h2
  .have hia:i=x.args.length:=by omega
   have hlt':¬(i:Int)<x.args.length:=aa;subst hia;have hd0:Z.1.drop x.args.length=[]:=oN aa;rw[oN (aT _)]at Y;simp only[kZ,cC]at Y;obtain⟨_,rfl⟩:=Y;rw[iR aa]at k11;have hf2':FrS X (·=vb) ov H ov H2:=b1.fr.trans (o.b8 _ _);have hv2:=b1.v.cW o;repeat' (first
    |(apply ai ?_;clear hK K)|apply Ry.o ?_|apply bP ?_|(apply a2 (fun z V=>?_) (fun z V=>?_)<;>try(cases z;done))|apply ae ?_|(apply ah fun K hK=>?_)|(apply aq 4 [(3,7),(3,10),(6,7)] fun K hK=>?_)|(apply aq 8 [(3,7),(3,11),(6,7),(9,11)] fun K hK=>?_)|(apply aq 34 [(4,7),(6,7)] fun K hK=>?_)|(apply aq 35 [(3,7),(3,10),(6,7)] fun K hK=>?_)|(apply aM ?_;try intro _)|(apply aR ?_ ?_<;>clear hK K)|apply aL ?_|apply bu rfl ?_|apply aj ?_|apply ak ?_|apply ax ?_)
   refine qa ?_;refine a4 ?_ (LK hT hR2);rintro v H3 ⟨⟨fu3,hR3⟩,S⟩;have hn3:=S.next
   have A:=hv2.cW S;have hf3':=hf2'.trans (S.b8 _ _);have vI:H3.get H.next=some (.cells x.cells 0 true):=by rw[S.get _ aa (by have:=C.lm;omega)];exact hb2
   have hlm:=C.lm;have k73:=k11.mono (H':=H3) S.next fun k h1 h2=>S.get k h2 aa
   have m3:=hR3.m;unfold nc at m3;have hfd:∀H,aU prog (aF pls tb) 55 [.agg [.ai (X.p.af.map Ar.cells),.ai (X.p.funcs.map Fu.cells)],.ae x.to] H fun v H'=>v=.int .i64 (cm X.p.funcs x.to 0)/\H'=H:=fun H=>hT.find X.p x.to hpl H;dsimp only[a0];have gh0:=@XP;repeat' (first
    |(apply ai ?_;clear hK K)|apply Rx.o ?_|(apply dJ ?_;first|refine aY (hfd _) ?_)|apply ae ?_|(apply ah fun K hK=>?_)|(apply aq 4 [(3,7),(3,10),(6,7)] fun K hK=>?_)|(apply aq 8 [(3,7),(3,11),(6,7),(9,11)] fun K hK=>?_)|(apply aq 34 [(4,7),(6,7)] fun K hK=>?_)|(apply aq 35 [(3,7),(3,10),(6,7)] fun K hK=>?_)|(apply aM ?_;try intro _)|(apply aR ?_ ?_<;>clear hK K)|apply aL ?_|apply bu rfl ?_|apply aj ?_|apply ak ?_|apply ax ?_)
   refine qa ?_;have I:=vr hn;have hvl:=hv.len;have F:et ns x.name<vals.length:=aa;by_cases ht:(ed Z.2).aK=0
   .rw[au ht]at h2;simp only[kF]at h2;obtain⟨a1,hc,rfl⟩:=h2;have h000:s.aK=0:=h00;rw[hfx x.to U]at hc;obtain⟨f,hf1,o⟩:=zd (m:=Z.1.length) U aa;refine a4 ?_ (IH _ _ _ a1 hc hlo aa U ⟨f,hf1,o⟩ ht (E.at 11) ov fu3 H3 hR3 k73.ints.fb (fun b z=>k73.f9 b z));rintro v J ⟨rfl,ov4,fu4,hR4,O⟩;have hn4:=O.next
    have hv4:=A.eX O (fun _ _ e=>e);have kb4:J.get H.next=some (.cells x.cells 0 true):=by
     rw[O.get _ aa (fun e=>by have:=C.a8 e;omega) (fun e=>by have:=C.a9 e;omega) (fun e=>e)];exact vI
    have f4:=hv4.f;have hst:=Ci hv4.v F a1.1;dsimp only[a0];have m4:=hR4.m;unfold nc at m4;repeat' (first
     |(apply ai ?_;clear hK K)|apply Ry.o ?_|apply bP ?_|(apply cU ?_;first|refine aY (Ce hT hv4 hn hF.nl) ?_)|(apply a2 (fun z V=>?_) (fun z V=>?_)<;>try(cases z;done))|apply ae ?_|(apply ah fun K hK=>?_)|(apply aq 4 [(3,7),(3,10),(6,7)] fun K hK=>?_)|(apply aq 8 [(3,7),(3,11),(6,7),(9,11)] fun K hK=>?_)|(apply aq 34 [(4,7),(6,7)] fun K hK=>?_)|(apply aq 35 [(3,7),(3,10),(6,7)] fun K hK=>?_)|(apply aM ?_;try intro _)|(apply aR ?_ ?_<;>clear hK K)|apply aL ?_|apply bu rfl ?_|apply aj ?_|apply ak ?_|apply ax ?_)
    .exact di
    .exact di
    all_goals refine qq ?_
    obtain⟨q1,q2,q3⟩:=hR4.setV hv4 (vals.set (et ns x.name) a1.1) aI;exact⟨_,ov4,fu4,q1,q2,fun e=>(hvs h000).set hvl hn a1.1,(hf3'.trans (O.cw fun r _ e=>e.elim)).trans q3⟩
   .rw[ad ht,aH]at h2;subst h2;refine a4 ?_ (XQ hT hR3 ht _ _);rintro _ _ ⟨rfl,rfl⟩;have f3:=A.f;have hst:=Ci A.v F 0;dsimp only[a0];repeat' (first
     |(apply ai ?_;clear hK K)|apply Ry.o ?_|apply bP ?_|(apply cU ?_;first|refine aY (Ce hT A hn hF.nl) ?_)|(apply a2 (fun z V=>?_) (fun z V=>?_)<;>try(cases z;done))|apply ae ?_|(apply ah fun K hK=>?_)|(apply aq 4 [(3,7),(3,10),(6,7)] fun K hK=>?_)|(apply aq 8 [(3,7),(3,11),(6,7),(9,11)] fun K hK=>?_)|(apply aq 34 [(4,7),(6,7)] fun K hK=>?_)|(apply aq 35 [(3,7),(3,10),(6,7)] fun K hK=>?_)|(apply aM ?_;try intro _)|(apply aR ?_ ?_<;>clear hK K)|apply aL ?_|apply bu rfl ?_|apply aj ?_|apply ak ?_|apply ax ?_)
    .exact di
    .exact di
    all_goals refine qq ?_
    obtain⟨q1,q2,q3⟩:=hR3.setV A (vals.set (et ns x.name) 0) aI;exact⟨_,ov,fu3,q1,q2,fun e=>(ht e).elim,hf3'.trans q3⟩
 .exact⟨s,ha,eE,eE,eE,eE,.inl ⟨eE,rfl⟩,b1.R,iz _ _⟩
set_option maxRecDepth 100000 in
include hT in
def XS{N:Nat}(IH:∀m,m<N->FQ tb X cv ns m):wU tb X cv ns N:=by
 intro l vs s r h hz hlo ho fp vb nv vals ov fu H hR hv hvs;have hlen:=mS l;have hw:zc7 (aF pls tb) 98:=hT.plain rfl;refine a5 (M:=24) (rs:=[]) (hw.call _) hw.ao hw.am func98 rfl rfl LW.2 rfl ?_;dsimp only[LW,a3,Nat.reduceAdd];repeat' (first
  |(apply ai ?_;clear hK K)|apply Rx.o ?_|apply ae ?_|(apply ah fun K hK=>?_)|apply aj ?_|apply ak ?_|apply ax ?_)
 refine jU (fun i E H2=>∃m o s2 j Z O,m<=N/\fE X.p X.fi m (l.drop i) o s2=some r/\E.at 0=.ptr X.rm 0/\E.at 1=.ptr fp 0/\E.at 2=.ai (l.map St.cells)/\E.at 6=.int .i64 i/\zdb X cv H2 s2 j O/\zde X H2 fp vb nv ns Z j/\(s2.aK=0->iP ns o Z)/\FrS X (·=vb) ov H j H2) l.length ?_ ?_
 .rintro i E H2 hi ⟨m,o,s2,j,Z,O,hmN,V,k0,k1,k2,k6,S,I,F,A⟩;cases m with
  |zero=>simp[fE]at V
  |succ m=>
   by_cases z:i<l.length
   .have hgx:l[i]?=some l[i]:=bt z;have hxm:=l9 (ek z);rw[fR z]at V;unfold fE at V;simp only[]at V;have hlt':(i:Int)<(l.length:Int):=aa;by_cases h0:s2.aK=0
    .rw[ad (by simp[h0])]at V;simp only[dI]at V;obtain⟨aw,hs1,V⟩:=V;repeat' (first
      |(apply ai ?_;clear hK K)|apply Ry.o ?_|(apply cU ?_;first|refine aY (gZ hT S) ?_)|(apply cE (fun C Y=>?_) (fun C Y=>?_)<;>try(cases C;done))|(apply a2 (fun J U=>?_) (fun J U=>?_)<;>try(cases J;done))|apply ae ?_|(apply ah fun K hK=>?_)|apply aj ?_|apply ak ?_|apply ax ?_)
     refine qa ?_;refine a4 ?_ (IH m aa l[i] o s2 aw hs1 aa (wN ((wT _ _ _).2.1 _ _ _ _ V) hlo) (ho.mem (ek z)) h0 fp vb nv Z j O H2 S I F);rintro v H3 ⟨vals3,ov3,fu3,hR3,hv3,hs3,hf3⟩;dsimp only[a0];repeat' (first
      |(apply ai ?_;clear hK K)|apply Rx.o ?_|apply ae ?_|(apply ah fun K hK=>?_)|apply aj ?_|apply ak ?_|apply ax ?_)
     refine⟨z,m,aw.1,aw.2,ov3,vals3,fu3,aa,V,eE,eE,eE,?_,hR3,hv3,hs3,A.trans hf3⟩;simp only[gc,Nat.reduceBEq,fF,ft (show i<2^62 by omega)]
    .rw[au h0,aH]at V;subst V;repeat' (first
      |(apply ai ?_;clear hK K)|apply Ry.o ?_|(apply cU ?_;first|refine aY (gZ hT S) ?_)|(apply cE (fun C Y=>?_) (fun C Y=>?_)<;>try(cases C;done))|(apply a2 (fun J U=>?_) (fun J U=>?_)<;>try(cases J;done))|apply ae ?_|(apply ah fun K hK=>?_)|apply aj ?_|apply ak ?_|apply ax ?_)
     all_goals refine qq ?_
     exact⟨Z,j,O,S,I,F,A⟩
   .rw[oN aa]at V;simp only[fE,aH]at V;subst V;have hlt':¬(i:Int)<(l.length:Int):=aa;repeat' (first
     |(apply ai ?_;clear hK K)|apply Ry.o ?_|(apply cE (fun C Y=>?_) (fun C Y=>?_)<;>try(cases C;done))|(apply a2 (fun J U=>?_) (fun J U=>?_)<;>try(cases J;done))|apply ae ?_|(apply ah fun K hK=>?_)|apply aj ?_|apply ak ?_|apply ax ?_)
    all_goals refine qq ?_
    exact⟨Z,j,O,S,I,F,A⟩
 .exact⟨N,vs,s,ov,vals,fu,aT _,fQ,eE,eE,eE,eE,hR,hv,hvs,BK _ _ _ _⟩
end
end Go.Proofs.YtbflaciihaijgaaGreat
namespace Go.Ab
set_option maxRecDepth 20000
open Go
variable{z:AV}{b:Nat}
section
variable {P:Program} {H:Hp} {t u e:TypeId} {q:Nat} {cs:qm}
theorem XT(F:H.get q=some (.cells cs 0 true)):fV false H 1 (.sl q 0 cs.length 1)=H:=by
 unfold fV;simp only[F,bR];have:Nat.blt cs.length cs.length=false:=by
  cases z:Nat.blt cs.length cs.length with
  |false=>rfl
  |true=>rw[iH]at z;omega
 simp[this]
theorem XU(S:P.underlying t=some (.slice e))(M:bD P e=some 1)(I:cL P e=some b)(Y:b<=16)(F:cn P e=some [z])(j:ip P u=true)(C:H.get q=some (.cells cs 0 true))(V:q<H.next){x:AV}{Z:qm}
 (U:fc H 1 x=some (Z.length,Z)) (K:Z.all AV.one=true) (m:cs.length+Z.length<2^40) :
 ∃O H',dh P false H t u (.sl q 0 cs.length 1) x=some (.sl O 0 (cs++Z).length 1,H')/\H'.get O=some (.cells (cs++Z) 0 true)/\(O=q\/O=H.next)/\O<H'.next/\H.next<=H'.next/\H'.next<=H.next+1/\∀k,k<H.next->k≠q->H'.get k=H.get k:=by
 have A:dd=70368744177664:=rfl;cases Z with
 |nil=>
  refine⟨q,H,?_,by rw[iS];exact C,.inl rfl,V,aT _,eT _,fun _ _ _=>rfl⟩;simp only[eg]at U;simp only[dh,S,M,I,F,j,U,iS]
 |cons a l=>
  have J:fc H 1 x=some (l.length+1,a::l):=U;have hbb:(cs.length+(l.length+1))*b<=(cs.length+(l.length+1))*16:=FV _ Y;simp only[gN]at m;refine⟨H.next,(H.az q).alloc (.cells (cs++a::l) 0 true),?_,?_,.inr rfl,dq _,eT _,aT _,fun k hk o=>?_⟩
  .rw[Bg (len:=cs.length) S M I F j J K rfl C aa (by rw[A];omega) (by rw[A];omega)];simp
  .show((H.az q).alloc _).get (H.az q).next=_
   rw[aP,au rfl]
  .rw[aP,ad kC,gm,ad o]
theorem XV{k K:IntKind}(J:P.underlying t=some (.slice e))(I:bD P e=some 1)(C:cL P e=some b)(Z:b<=16)(A:cn P e=some [z])(j:AV.one z=true)(S:P.underlying u=some (.int K))(F:H.get q=some (.cells cs 0 true))(Y:q<H.next)(m:Nat)(hl:cs.length+m<2^40):
 ∃O H',dh P false H t u (.sl q 0 cs.length 1) (.int k (m:Int))=some (.sl O 0 (cs++List.replicate m z).length 1,H')/\H'.get O=some (.cells (cs++List.replicate m z) 0 true)/\(O=q\/O=H.next)/\O<H'.next/\H.next<=H'.next/\H'.next<=H.next+1/\∀k,k<H.next->k≠q->H'.get k=H.get k:=by
 have M:dd=70368744177664:=rfl;have V:ip P u=false:=by unfold ip;rw[S]
 have U:∀n,jy [z] n=List.replicate n z:=fun n=>by
  induction n with
  |zero=>rfl
  |succ n ih=>rw[jy,ih];rfl
 have hbb:m*b<=m*16:=FV _ Z;have hbc:(cs.length+m)*b<=(cs.length+m)*16:=FV _ Z;have hc:m*b<=dd/\m<=dd/\([z]:qm).length=1/\([z]:qm).all AV.one=true:=⟨jB,jB,rfl,by simp[j]⟩;have h0:dh P false H t u (.sl q 0 cs.length 1) (.int k (m:Int))=vO P false H 1 b [z] u (.sl q 0 cs.length 1) (.int k (m:Int)):=by
  simp only[dh,J,I,C,A,V]
 have h1:∀m,m*b<=dd/\m<=dd/\([z]:qm).length=1/\([z]:qm).all AV.one=true->vO P false H 1 b [z] u (.sl q 0 cs.length 1) (.int k (Int.ofNat m))=(match m with
  |0=>some (.sl q 0 cs.length 1,H)
  |m+1=>kL false (fV false H 1 (.sl q 0 cs.length 1)) 1 b (.sl q 0 cs.length 1) (m+1) (jy [z] (m+1))):=fun m hc=>by
  unfold vO;simp only[S];rw[au hc];cases m<;>rfl
 rw[h0];change ∃O H',vO P false H 1 b [z] u (.sl q 0 cs.length 1) (.int k (Int.ofNat m))=_/\_;rw[h1 m hc];cases m with
 |zero=>exact⟨q,H,aI,oL,.inl rfl,Y,aT _,eT _,fun _ _ _=>rfl⟩
 |succ m=>
  refine⟨H.next,(H.az q).alloc (.cells (cs++List.replicate (m+1) z) 0 true),?_,?_,.inr rfl,dq _,eT _,aT _,fun k hk o=>?_⟩
  .simp only[];rw[XT F,U];unfold kL;simp only[F];rw[au ⟨jB,jB,aa,trivial,dx _⟩];simp
  .show((H.az q).alloc _).get (H.az q).next=_
   rw[aP,au rfl]
  .rw[aP,ad kC,gm,ad o]
end
end Go.Ab
namespace Go.Proofs.YtbflaciihaijgaaGreat
set_option maxRecDepth 20000
open Go Go.Ab Proofs.Tryz
variable{N:Nat}{f:Fu}{p:Pr}
section
def tyN6g.tyF:=ac @dF (ac @cI (ac @cY (ac @fg (ac @fh (ac @eL (ac @jH (ac @pR (ac @dW (ac @dR (ac @dX (ac @dy (ac @ge (ac @eD (ac @uV (ac @uW (@wu))))))))))))))))
open tyN6g
theorem XW{H:Hp}{M:AV}{al:qp}(h:mj H M al):fc H 1 M=some ((ints al).length,ints al):=by
 rw[og];rcases h with⟨rfl,rfl⟩|rfl|⟨r,o,cs,S,I,rfl,m,A⟩
 .rfl
 .have e:fc H 1 (.ai (al.map fun n=>[AV.int .i64 n]))=if ((al.map fun n=>[AV.int .i64 n]).all fun z=>z.length == 1)then some ((al.map fun n=>[AV.int .i64 n]).length,(al.map fun n=>[AV.int .i64 n]).flatten)else none:=rfl
  have Z:(al.map fun n=>[AV.int .i64 n]).flatten=ints al:=by
   clear e;induction al with
   |nil=>rfl
   |cons a l ih=>simp only[el,iI,ih];rfl
  rw[e,au aI,Z,ec]
 .have hd:(cs.drop o).take (al.length*1)=ints al:=by
   refine Em fun i=>?_;rw[jS,rN,rO];by_cases F:i<al.length
   .rw[au F,A i F,yT F]
   .rw[ad F,oS (by rw[og];omega)]
  rw[pN m (by rw[hd,og,jS]),hd]
def XX(H:Hp):dc prog H 66 0 []=some (.sl H.next 0 0 1,H.alloc qc):=aA
def XY(H:Hp):dc prog H 27 0 []=some (.sl H.next 0 0 1,H.alloc qc):=aA
def XZ(a b n m:Nat):cQ prog 174 [(0,.sl a 0 n 1),(1,.sl b 0 m 1)]=some (.agg [.sl a 0 n 1,.sl b 0 m 1]):=aA
def X2(m:Nat):List.replicate m (AV.int .i64 0)=ints (List.replicate m 0):=by simp[ints]
structure PrN (X:Mx):Prop where
 fx:LX X
 pz:X.p.sz<2^34
 b:∀f∈X.p.funcs,zdB X (f.params++f.ah) f.body
 v:∀f∈X.p.funcs,dN (f.params++f.ah) (a7 X.p) f.value=true
 nd:∀f∈X.p.funcs,f.params.Nodup
section
variable {tb:qu} (hT:RnT tb) {X:Mx} {cv:AV}
set_option maxRecDepth 100000 in
include hT in
theorem X3(hX:PrN X)(IH:∀f∈X.p.funcs,wU tb X cv (f.params++f.ah) N):Ch tb X cv (N+1):=by
 intro k al s r h hlo hal hk0 ⟨f,hf,A⟩ h0 av ov fu H j hav O;unfold i3 at h;rw[ad aa,hf]at h;simp only[gX,dI]at h;obtain⟨vs,hv,aw,hs,he⟩:=h;have I:=fq hf;have hpz:=hX.pz;have hpsz:X.p.sz=1+ez X.p.af+dY X.p.funcs:=rfl;have hfsz0:=nX I;have hfsz:f.sz=1+f.name.length+db f.params+db f.ah+a6 f.body+f.value.sz:=rfl;have hpl2:=ig f.params;have hll2:=ig f.ah;have hw:zc7 (aF pls tb) 56:=hT.plain rfl;have hkeep:(aF pls tb).aj 56=false:=rfl;have hm:=j.m;unfold nc at hm;have hF:Fn X (f.params++f.ah):=⟨aa,FT⟩;refine a5 (M:=46) (rs:=[.tmp 6]) (hw.call _) hw.ao hw.am func56 rfl rfl Cn.2 rfl ?_;dsimp only[Cn,a3,Nat.reduceAdd];repeat' (first
  |(apply ai ?_;clear hK K)|apply Ry.o ?_|apply bP ?_|(apply cU ?_;first|refine aY (gZ hT j) ?_)|(apply a2 (fun hb hbp=>?_) (fun hb hbp=>?_)<;>try(cases hb;done))|apply ae ?_|(apply ah fun K hK=>?_)|(apply Bt 4 [0,1,2,4,5,7,8,10,11,12,3,6,9,13,14,15,16] [(0,10),(2,10),(4,10),(4,11),(5,10),(5,11),(5,12),(8,10),(8,11),(8,12),(8,13),(9,10),(9,11),(9,12),(9,13),(15,17)] fun K hK=>?_)|(apply aM ?_;try intro _)|(apply aR ?_ ?_<;>clear hK K)|apply aL ?_|apply ak ?_|apply am ?_)
 generalize V:Hp.set (Hp.alloc H _) H.next _=H1
 have n1':H1.next=H.next+1:=by rw[<-V];rfl
 have dl:H.next+1<=H1.next/\H1.next<=H.next+1:=aa
 clear n1';have g1:∀q,q<H.next->H1.get q=H.get q:=fun q h=>by rw[<-V,aO,ad aa,aP,ad aa]
 have b1:H1.get H.next=some (.cells f.cells 0 true):=by rw[<-V,aO,au rfl]
 clear V;have nb:((H1.alloc qc).alloc qc).next=H1.next+2:=rfl
 have gb:∀q,q<H1.next->((H1.alloc qc).alloc qc).get q=H1.get q:=fun q h=>by rw[aP,ad bY,aP,ad aa]
 have gn:((H1.alloc qc).alloc qc).get H1.next=some qc:=by rw[aP,ad bY,aP,au rfl]
 have gv:((H1.alloc qc).alloc qc).get (H1.next+1)=some qc:=po;obtain⟨v1,H2,b7,s1,n2,l1,o1⟩:=tB (H:=(H1.alloc qc).alloc qc) (v:=.sl H1.next 0 0 1) (l:=[]) (lo:=H1.next) f.params ⟨H1.next,0,rfl,gn,dx _,aT _,aa⟩ aa ce;rw[jO]at s1;obtain⟨v2,J,ci,s2,n3,l2,o2⟩:=tB f.ah s1 aa aa;have q0:∀k,dk (.sl H1.next 0 0 1) k->k=H1.next:=fun k ⟨n,e⟩=>Fz
 have q1:∀k,dk v1 k->k=H1.next\/H1.next+2<=k:=fun k h=>by
  rcases o1.2 k h with e|e
  .exact .inl (q0 k e)
  .exact .inr aa
 have q2:∀k,dk v2 k->(k=H1.next\/H1.next+2<=k)/\k<J.next:=fun k h=>by
  refine⟨?_,(s2.lt h).2⟩;rcases o2.2 k h with e|e
  .exact q1 k e
  .exact .inr aa
 have gv3:J.get (H1.next+1)=some qc:=by
  rw[o2.1 _ aa (fun e=>by rcases q1 _ e with e|e<;>omega),o1.1 _ aa (fun e=>by have:=q0 _ e;omega)];exact gv
 have g3:∀q,q<H1.next->J.get q=H1.get q:=fun q h=>by rw[l2 q h,l1 q h,gb q h]
 have hav3:mj J av al:=hav.mono fun q hq=>by
  have:=O q hq;rw[g3 q aa,g1 q this]
 obtain⟨q3,H4,bX,t3,w3,u3,n4,_,xH⟩:=XU (P:=prog) (t:=27) (u:=27) (cs:=[]) underlying27 oW rW aa rX aA gv3 aa (XW hav3) (Wk al) (by rw[og];simp;omega);rw[jO]at bX t3;obtain⟨q4,m,bQ,t4,w4,u4,n5,_,xI⟩:=XV (P:=prog) (t:=27) (u:=3) (cs:=ints al) (k:=.i64) underlying27 oW rW aa rX rfl underlying3 t3 u3 f.ah.length (by rw[og];omega);rw[X2,<-Ke]at bQ t4;simp only[og,eg]at bX bQ;obtain⟨a1,imm2,rfl,s22,s23,s24,s25⟩:=s2;have r2x:=q2 a1 ⟨_,rfl⟩;have c3:J.get H.next=some (.cells f.cells 0 true):=by rw[g3 _ aa];exact b1
 have c2:H2.get H.next=some (.cells f.cells 0 true):=by rw[l1 _ aa,gb _ aa];exact b1
 have cb:((H1.alloc qc).alloc qc).get H.next=some (.cells f.cells 0 true):=by rw[gb _ aa];exact b1
 have ca:(H1.alloc qc).get H.next=some (.cells f.cells 0 true):=by rw[aP,ad aa];exact b1
 have c4:H4.get H.next=some (.cells f.cells 0 true):=by rw[xH _ aa aa];exact c3
 have c5:m.get H.next=some (.cells f.cells 0 true):=by rw[xI _ aa aa];exact c4
 have ha1:dh prog false ((H1.alloc qc).alloc qc) 66 66 (.sl H1.next 0 0 1) (cD f.params)=some (v1,H2):=b7;have n2':H1.next+2<=H2.next:=n2
 have hle:H.next<m.next:=aa
 have e5:(H.next == m.next)=false:=ay aa;have gv2:H2.get (H1.next+1)=some qc:=by
  rw[o1.1 _ aa (fun e=>by have:=q0 _ e;omega)];exact gv
 clear nb gb n2;have gh0:=@XX;have gh1:=@XY;have gh2:=@XZ;repeat' (first
  |(apply ai ?_;clear hK K)|apply Rx.o ?_|apply ae ?_|(apply ah fun K hK=>?_)|(apply Bt 4 [0,1,2,4,5,7,8,10,11,12,3,6,9,13,14,15,16] [(0,10),(2,10),(4,10),(4,11),(5,10),(5,11),(5,12),(8,10),(8,11),(8,12),(8,13),(9,10),(9,11),(9,12),(9,13),(15,17)] fun K hK=>?_)|(apply aM ?_;try intro _)|(apply aR ?_ ?_<;>clear hK K)|apply aL ?_|apply ak ?_|apply am ?_)
 .exact di
 refine qa ?_;generalize U:Hp.alloc m _=F;have n6':F.next=m.next+1:=by rw[<-U];rfl
 have n6:m.next+1<=F.next:=aa
 clear n6';have g6:∀q,q<m.next->F.get q=m.get q:=fun q h=>by rw[<-U,aP,ad aa]
 have f6:F.get m.next=some (.cells [.sl a1 0 (f.params++f.ah).length 1,.sl q4 0 (al++List.replicate f.ah.length 0).length 1] 0 true):=by rw[<-U,aP,au rfl]
 clear U;have old:∀q,q<H.next->F.get q=H.get q:=fun q h=>by
  rw[g6 q aa,xI q aa aa,xH q aa aa,g3 q aa,g1 q h]
 have hR6:zdb X cv F s ov fu:=j.b4 aa fun q hq _=>old q hq;have c6:F.get H.next=some (.cells f.cells 0 true):=by rw[g6 _ hle];exact c5
 have hr2:F.get a1=J.get a1:=by rw[g6 _ aa,xI _ aa aa,xH _ aa aa]
 have Z:∀q,H.next<q->q<F.next->q<F.next/\¬X.own q/\q≠X.rc/\¬iL ov q:=fun q h1 h2=>⟨h2,fun e=>by have:=j.a8 e;omega,by have:=j.lc;omega,fun e=>by have:=j.a9 e;omega⟩
 have S:∀k,dk (.sl a1 0 (f.params++f.ah).length 1) k->k=a1:=fun k ⟨n,e⟩=>Fz;have hv6:zde X F m.next q4 (.sl a1 0 (f.params++f.ah).length 1) (f.params++f.ah) (al++List.replicate f.ah.length 0) ov:={
  f:=f6
  v:=by rw[g6 _ u4];exact t4
  n:=⟨a1,imm2,rfl,by rw[hr2];exact s22,s23,dx _,aa⟩
  len:=by simp[A]
  fv:=aa
  fn:=fun e=>by have:=S _ e;omega
  vn:=fun e=>by have:=S _ e;omega
  o:=fun k hk=>by
   rcases hk with rfl|rfl|hk
   .exact Z _ aa aa
   .exact Z _ aa aa
   .rw[S k hk];exact Z _ aa aa}
 have hvs:iP (f.params++f.ah) vs (al++List.replicate f.ah.length 0):=iP.start hv (hX.nd f I) A;refine a4 ?_ (IH f I f.body vs s aw hs aa (by rw[<-(mq _ _ _ _ _ he).1];exact hlo) (hX.b f I) m.next q4 _ _ ov fu F hR6 hv6 fun _=>hvs);rintro v H7 ⟨C,z,fu7,hR7,hv7,hs7,Y⟩;have n7:=Y.next
 have c7:H7.get H.next=some (.cells f.cells 0 true):=by
  rw[Y.get _ aa (fun e=>by have:=j.a8 e;omega) (fun e=>by have:=j.a9 e;omega) aa];exact c6
 dsimp only[a0];repeat' (first
  |(apply ai ?_;clear hK K)|apply Rx.o ?_|apply ae ?_|(apply ah fun K hK=>?_)|(apply Bt 4 [0,1,2,4,5,7,8,10,11,12,3,6,9,13,14,15,16] [(0,10),(2,10),(4,10),(4,11),(5,10),(5,11),(5,12),(8,10),(8,11),(8,12),(8,13),(9,10),(9,11),(9,12),(9,13),(15,17)] fun K hK=>?_)|(apply aM ?_;try intro _)|(apply aR ?_ ?_<;>clear hK K)|apply aL ?_|apply ak ?_|apply am ?_)
 refine qa ?_;refine a4 ?_ (sm hT X hF.pz cv _ hF.nl N f.value aw.1 aw.2 r he (hX.v f I) m.next q4 _ C z fu7 H7 hR7 hv7 hs7);rintro v H8 ⟨rfl,hR8,hf8⟩;have n8:=hf8.next
 dsimp only[a0];repeat' (first
  |(apply ai ?_;clear hK K)|apply Rx.o ?_|apply ae ?_|(apply ah fun K hK=>?_)|(apply Bt 4 [0,1,2,4,5,7,8,10,11,12,3,6,9,13,14,15,16] [(0,10),(2,10),(4,10),(4,11),(5,10),(5,11),(5,12),(8,10),(8,11),(8,12),(8,13),(9,10),(9,11),(9,12),(9,13),(15,17)] fun K hK=>?_)|(apply aM ?_;try intro _)|(apply aR ?_ ?_<;>clear hK K)|apply aL ?_|apply ak ?_|apply am ?_)
 all_goals refine qq ?_
 refine⟨fT,z,fu7,hR8,aa,fun q h1 h2 h3 h4=>?_,fun q h1=>?_⟩
 .rw[hf8.get q aa (fun e=>h2 (.inl e)),Y.get q aa h2 h3 aa];exact old q h1
 .rcases Y.out q h1 with e|e
  .exact .inl e
  .exact .inr aa
include hT in
theorem X4(hX:PrN X)(F:f∈X.p.funcs)(A:∀m,m<N->wU tb X cv (f.params++f.ah) m)(o:∀m,m<N->Ch tb X cv m):FQ tb X cv (f.params++f.ah) N:=by
 intro x vs s r h hz z M h0 fp vb nv vals ov fu H j U S;have hpz:=hX.pz;have hpsz:X.p.sz=1+ez X.p.af+dY X.p.funcs:=rfl;have hfsz0:=nX F;have hfsz:f.sz=1+f.name.length+db f.params+db f.ah+a6 f.body+f.value.sz:=rfl;have hpl2:=ig f.params;have hll2:=ig f.ah;have hF:Fn X (f.params++f.ah):=⟨aa,FT⟩;cases N with
 |zero=>simp[lN]at h
 |succ n=>
  unfold lN at h;by_cases Z:x.ag=1
  .rw[au Z]at h;simp only[kF]at h;obtain⟨aw,C,rfl⟩:=h;exact XD hT hF Z C M j U S
  rw[ad Z]at h;by_cases Y:x.ag=2
  .rw[au Y]at h;simp only[kF]at h;obtain⟨aw,C,a1,he2,rfl⟩:=h;exact XE hT hF Y C he2 M j U S
  rw[ad Y]at h;by_cases V:x.ag=3
  .rw[au V]at h;simp only[dI]at h;obtain⟨aw,C,h⟩:=h;exact XF hT hF V C h (A n (dq n)) hz z M j U S
  rw[ad V]at h;by_cases O:x.ag=4
  .rw[au O]at h;exact XJ hT hF O h (fun m hm=>A m aa) hz z M j U S
  rw[ad O]at h;by_cases J:x.ag=5
  .rw[au J]at h;simp only[kF]at h;obtain⟨aw,C,rfl⟩:=h;exact XG hT hF J C z M j U S
  rw[ad J]at h;by_cases K:x.ag=6
  .rw[au K]at h;simp only[dI]at h;obtain⟨ra,ha,h⟩:=h;exact XR hT hF hX.fx K ha h (o n (dq n)) hz z M h0 j U S
  rw[ad K]at h;by_cases I:x.ag=7
  .rw[au I,aH]at h;subst h;exact XH hT hF I j U S
  rw[ad I,aH]at h;subst h;exact XI hT hF Z Y V O J K I j U S
include hT in
def X6(J:PrN X)(N:Nat):(∀f∈X.p.funcs,FQ tb X cv (f.params++f.ah) N/\wU tb X cv (f.params++f.ah) N)/\Ch tb X cv N:=by
 induction N using Nat.strongRecOn with
 |_ N S=>
  refine⟨fun f Z=>⟨X4 hT J Z (fun m M=>((S m M).1 f Z).2) (fun m M=>(S m M).2),XS hT (fun m M=>((S m M).1 f Z).1)⟩,?_⟩;cases N with
  |zero=>intro k al s r h;simp[i3]at h
  |succ n=>exact X3 hT J fun f Z=>((S n (dq n)).1 f Z).2
end
end
theorem LY(s:aS):∀(l:qG) (i:Nat) (m:List (aS×Int)),fJ (fI l i m) s=(fJ m s||bC (l.map (·.name)) s)
 |[],i,m=>by simp[fI,bC]
 |f::l,i,m=>by
  rw[fI,LY s l,FI,el,show f.name::l.map (·.name)=[f.name]++l.map (·.name)from rfl,oy,rh];cases decide (s=f.name)<;>cases fJ m s<;>simp
theorem LZ(s:aS):∀(l:qG) (i:Nat) (m:List (aS×Int)),bC (l.map (·.name)) s=false->de (fI l i m) s=de m s
 |[],_,m,_=>rfl
 |f::l,i,m,h=>by
  rw[el,show f.name::l.map (·.name)=[f.name]++l.map (·.name)from rfl,oy,rh,fP,iX]at h;rw[fI,LZ s l _ _ h.2,tI,ad h.1]
theorem L0(s:aS):∀(l:qG) (seen:qo) (i:Nat) (m:List (aS×Int)),cT seen (l.map (·.name))=false->0<=cm l s i->de (fI l i m) s=cm l s i
 |[],_,i,m,_,h=>by simp[cm]at h
 |f::l,seen,i,m,hn,h=>by
  rw[el,cT,fP]at hn;rw[cm]at h⊢;by_cases e:f.name=s
  .have A:bC (l.map (·.name)) s=false:=B5 _ _ hn.2 s KO;rw[au e,fI,LZ s l _ _ A,tI,au e.symm]
  .rw[ad e]at h⊢;rw[fI];exact L0 s l (seen++[f.name]) (i+1) _ hn.2 h
structure zdd (p:Pr):Prop where
 ex:i6 p=false
 wf:gY p=true
 du:kE p=false
 un:p.funcs.any (iB p)=false
 ba:p.funcs.any (j4 p)=false
def L2(h:gK p=0):zdd p:=by
 rw[gK]at h;by_cases j:i6 p=true
 .rw[au j]at h;omega
 rw[ad j]at h;by_cases m:gY p=false
 .rw[au m]at h;omega
 rw[ad m]at h;by_cases A:kE p=true
 .rw[au A]at h;omega
 rw[ad A]at h;by_cases O:p.funcs.any (iB p)=true
 .rw[au O]at h;omega
 rw[ad O]at h;by_cases J:p.funcs.any (j4 p)=true
 .rw[au J]at h;omega
 exact⟨by simpa using j,by simpa using m,Am,by simpa using O,by simpa using J⟩
def zdd.e8(h:zdd p):cT [] (a7 p)=false/\cT [] (fG p)=false:=by
 have hd:=h.du;rw[kE,B4,fP,fP]at hd;exact⟨hd.1,hd.2.1⟩
def zdd.ok(h:zdd p):zdw p (fI p.funcs 0 []):=by
 refine⟨fun f Z=>?_,fun s S=>L0 s p.funcs [] 0 [] h.e8.2 S⟩;have j:=h.ex;rw[i6,fP]at j;have j:=oR.1 j.2 f Z;have m:=h.wf;rw[gY,cN]at m;have m:=kj.1 m.2 f Z;have O:=oR.1 h.un f Z;have J:=oR.1 h.ba f Z;simp only[mX,r7,fP,iX]at j;simp only[kD,cN]at m;simp only[iB,r7,tz,cN]at O;simp only[j4,r7,tz]at J;exact⟨⟨m.1.2,j.1.2,fK p f,rfl,O.1,J⟩,aa,m.2,aa⟩
def zdd.arr(h:zdd p):∀a∈p.af,0<=a.len/\a.len<=16:=fun a V=>by
 have j:=h.ex;rw[i6,fP,fP]at j;have j:=oR.1 j.1.2 a V;simp only[pj,r7,fP,iX]at j;omega
theorem FX:∀(l seen:qo),cT seen l=false->l.Nodup
 |[],_,_=>FW
 |s::l,seen,h=>by
  rw[cT,fP]at h;refine List.nodup_cons.2 ⟨fun M=>?_,FX l _ h.2⟩;have:=B5 _ _ h.2 s (by rw[oy,rh,mU rfl,Fa]);rw[bC,oR]at this;exact this s M aI
def zdd.fR(h:zdd p):(p.af.map (·.name)).Nodup:=FX _ _ h.e8.1
theorem zdd.run(h:zdd p){k:Int}{al:qp}{fuel:Int}(I:0<=k)(m:p.funcs[k.toNat]?=some f)(K:f.params.length=al.length)(Y:0<=fuel)(j:fuel<=1000):
 ∃n r,i3 p (fI p.funcs 0 []) n k al (ol p fuel)=some r/\r.2.out.length<=300000:=by
 obtain⟨N,U,C⟩:=LU h.ok 1001;have Z:ju (ol p fuel):=⟨Y,j⟩;obtain⟨r,hr⟩:=C N (aT _) f k al (ol p fuel) I m K Z (by show fuel+1<=_;omega);refine⟨N,r,hr,?_⟩;have c:=(Ck p _ h.ok.fB N).2.2.2 _ _ _ _ hr Z;have o:(ol p fuel).out.length=0:=rfl;have V:(ol p fuel).aC=fuel:=rfl;unfold fS at c;rw[o,V]at c;omega
end Go.Proofs.YtbflaciihaijgaaGreat
namespace Go.Ab
set_option maxRecDepth 20000
open Go
variable{P:Program}{f:FuncId}{j:qm}{r v u:AV}{H H':Hp}{S S':Nat->Prop}{n:Nat}
def bW:Nat->AV->AV
 |0,v=>v
 |n+1,v=>match v with
  | .ab=>.ai []
  | .ai V=>.ai (V.map fun z=>z.map (bW n))
  | .agg cs=>.agg (cs.map (bW n))
  | .aW cs=>.aW (cs.map (bW n))
  |v=>v
theorem VR.wk{G:Gh}:∀(n:Nat) {v:AV}{x:Value},VR G v x->VR G (bW n v) x
 |0,_,_,h=>h
 |n+1,v,x,h=>by
  cases h with
  |ab=>exact .cb _ _
  |ai vs Y hF U hc=>
   rename_i xs b o cap z;have:=VR.ai (G:=G) (xs:=xs.map fun Z=>Z.map (bW n)) (b:=b) (o:=o) (cap:=cap) (z:=z) vs ?_ ?_ ?_ ?_
   .rw[ec]at this;exact this
   .intro i Z hr;rw[ev]at hr;cases hx:xs[i]? with
    |none=>rw[hx]at hr;simp at hr
    |some ee=>rw[hx]at hr;simp only[iT]at hr;rw[<-hr,ec];exact Y i ee hx
   .intro i j F A;rw[ec]at F;exact hF i j F A
   .intro i j Z c hr S;rw[ev]at hr;cases hx:xs[i]? with
    |none=>rw[hx]at hr;simp at hr
    |some ee=>
     rw[hx]at hr;simp only[iT]at hr;rw[<-hr,ev]at S;cases hy:ee[j]? with
     |none=>rw[hy]at S;simp at S
     |some c0=>rw[hy]at S;simp only[iT]at S;rw[<-S];exact VR.wk n (U i j ee c0 hx hy)
   .rw[ec];exact hc
  |cb a cap=>exact .cb a cap
  |agg K U=>
   refine .agg (by rw[ec];exact K) fun i c v hc J=>?_;rw[ev]at hc;rename_i cs vs;cases hy:cs[i]? with
   |none=>rw[hy]at hc;simp at hc
   |some c0=>rw[hy]at hc;simp only[iT]at hc;rw[<-hc];exact VR.wk n (U i c0 v hy J)
  |aW K U=>
   refine .aW (by rw[ec];exact K) fun i c v hc J=>?_;rw[ev]at hc;rename_i cs vs;cases hy:cs[i]? with
   |none=>rw[hy]at hc;simp at hc
   |some c0=>rw[hy]at hc;simp only[iT]at hc;rw[<-hc];exact VR.wk n (U i c0 v hy J)
  |int k m=>exact .int k m
  |sx k e=>exact .sx k e
  |bool b=>exact .bool b
  |ae s l h=>exact .ae s l h
  |bK=>exact .bK
  |a5=>exact .a5
  |bP=>exact .bP
  |ptr h=>exact .ptr h
  |a2 vs hF U=>exact .a2 vs hF U
  |sl h K hc=>exact .sl h K hc
  |map h=>exact .map h
  |bl K U=>exact .bl K U
def bJ.wk{ρ:Nat->Int}(n:Nat)(h:bJ P ρ f j r):bJ P ρ f j (bW n r):=
 ⟨h.1,fun G w vs Z m A=>(h.2 G w vs Z m A).mono fun _ _ ⟨v,K,O,J,C⟩=>⟨v,K,O,J.wk n,C⟩⟩
def FY{ρ:Nat->Int}{r':AV}(n:Nat)(h:bJ P ρ f j r)(e:bW n r=r'):bJ P ρ f j r':=e▸h.wk n
variable {P:Program} {cfg:Cfg} {f N:Nat}
theorem X7{c:SC}{E:aD}{Q:AX->aD->Hp->Prop}(cs:qx)(h:∀E':aD,(∀k∈cs,E'.at k=E.at k)->bN P cfg f N c E' H Q):bN P cfg f N c E H Q:=h E fun _ _=>rfl
def cP{A β:Type}(p:A->β->Prop):List A->List β->Prop
 |[],[]=>True
 |a::l,b::m=>p a b/\cP p l m
 |_,_=>False
theorem cP.len{A β:Type}{p:A->β->Prop}:∀{l:List A}{m:List β},cP p l m->l.length=m.length
 |[],[],_=>rfl
 |_::_,_::_,h=>by simp only[gN,cP.len h.2]
theorem cP.mono{A β:Type}{p q:A->β->Prop}(h:∀a b,p a b->q a b):∀{l:List A}{m:List β},cP p l m->cP q l m
 |[],[],_=>trivial
 |_::_,_::_,k=>⟨h _ _ k.1,cP.mono h k.2⟩
theorem cP.append{A β:Type}{p:A->β->Prop}:∀{l:List A}{m:List β}{M:List A}{Y:List β},cP p l m->cP p M Y->cP p (l++M) (m++Y)
 |[],[],_,_,_,h=>h
 |_::_,_::_,_,_,h,k=>⟨h.1,cP.append h.2 k⟩
theorem cP.refl{A:Type}{p:A->A->Prop}:∀{l:List A},(∀a∈l,p a a)->cP p l l
 |[],_=>trivial
 |a::l,h=>⟨h a gW,cP.refl fun b z=>h b (jE _ z)⟩
theorem cP.get{A β:Type}{p:A->β->Prop}:∀{l:List A}{m:List β},cP p l m->∀{i:Nat}{a:A}{b:β},l[i]?=some a->m[i]?=some b->p a b
 |[],[],_,i,_,_,h,_=>by simp at h
 |a::l,b::m,h,0,_,_,h1,h2=>by
  simp only[kW,aH]at h1 h2;subst h1;subst h2;exact h.1
 |a::l,b::m,h,i+1,_,_,h1,h2=>cP.get h.2 (by simpa using h1) (by simpa using h2)
theorem cP.set{A β:Type}{p:A->β->Prop}:∀{l:List A}{m:List β},cP p l m->∀{i:Nat}{a:A}{b:β},p a b->cP p (l.set i a) (m.set i b)
 |[],[],_,i,_,_,_=>by simp[cP]
 |_::_,_::_,h,0,_,_,k=>⟨k,h.2⟩
 |_::_,_::_,h,i+1,_,_,k=>⟨h.1,cP.set h.2 k⟩
def L3(v:AV):Prop:=fj v/\match v with
 | .sl _ _ _ _|.agg _=>False
 |_=>True
def cV(S:Nat->Prop):Nat->Hp->AV->AV->Prop
 |0,_,_,_=>False
 |n+1,H,v,u=>match v with
  | .sl r F j z=>S r/\r<H.next/\∃cs Z I l,H.get r=some (.cells cs Z I)/\Z<=cs.length/\F+j*z<=cs.length/\cP (cV S n H) ((cs.drop F).take (j*z)) l/\u=.ai (gk z j l)
  | .agg cs=>∃C,cP (cV S n H) cs C/\u=.agg C
  |v=>fj v/\u=v
def cV.cc(h:L3 v):cV S (n+1) H v v:=by
 cases v<;>first|exact h.2.elim|exact⟨h.1,rfl⟩
def vy:=@cV.cc
theorem cV.up{S:Nat->Prop}{H:Hp}:∀{n m:Nat}{v u:AV},cV S n H v u->n<=m->cV S m H v u
 |0,_,_,_,h,_=>h.elim
 |n+1,0,_,_,_,hm=>by omega
 |n+1,m+1,v,u,h,hm=>by
  cases v with
  |sl r F M z=>
   obtain⟨j,V,cs,Z,I,l,Y,A,O,J,C⟩:=h;exact⟨j,V,cs,Z,I,l,Y,A,O,J.mono fun a b k=>cV.up k aa,C⟩
  |agg cs=>
   obtain⟨U,j,Y⟩:=h;exact⟨U,j.mono fun a b k=>cV.up k aa,Y⟩
  |_=>exact h
def sr(a b:Option HB):Prop:=a=b\/∃cs i j I,a=some (.cells cs i I)/\b=some (.cells cs j I)/\(i<=cs.length->j<=cs.length)
def sr.trans{a b c:Option HB}(h:sr a b)(k:sr b c):sr a c:=by
 rcases h with rfl|⟨cs,i,j,I,rfl,rfl,h⟩
 .exact k
 .rcases k with rfl|⟨C,z,U,A,e,rfl,k⟩
  .exact .inr ⟨cs,i,j,I,rfl,rfl,h⟩
  .simp only[aH,HB.cells.injEq]at e;obtain⟨rfl,rfl,rfl⟩:=e;exact .inr ⟨cs,i,U,I,rfl,rfl,fun q=>k (h q)⟩
theorem cV.cE{S S':Nat->Prop}{H H':Hp}(hS:∀k,k<H.next->S k->S' k)(O:H.next<=H'.next)(Y:∀k,S k->k<H.next->sr (H.get k) (H'.get k)):∀{n:Nat}{v u:AV},cV S n H v u->cV S' n H' v u
 |0,_,_,h=>h.elim
 |n+1,v,u,h=>by
  cases v with
  |sl r off len z=>
   obtain⟨Z,V,cs,U,I,l,m,A,K,F,C⟩:=h;have M:=F.mono fun a b k=>cV.cE hS O Y k;rcases Y r Z V with e|⟨cs',i,j,J,o,e2,e3⟩
   .exact⟨hS r V Z,aa,cs,U,I,l,by rw[<-e];exact m,A,K,M,C⟩
   .rw[m]at o;simp only[aH,HB.cells.injEq]at o;obtain⟨rfl,rfl,rfl⟩:=o;exact⟨hS r V Z,aa,cs,j,I,l,e2,e3 A,K,M,C⟩
  |agg cs=>
   obtain⟨ds,Z,m⟩:=h;exact⟨ds,Z.mono fun a b k=>cV.cE hS O Y k,m⟩
  |_=>exact h
def cV.frame(hS:∀k,S k->S' k)(I:H.next<=H'.next)(m:∀k,S k->k<H.next->sr (H.get k) (H'.get k))(h:cV S n H v u):cV S' n H' v u:=h.cE (fun k _ q=>hS k q) I m
structure Icy (S:Nat->Prop) (H H':Hp):Prop where
 next:H'.next=H.next
 out:∀k,¬S k->H'.get k=H.get k
 same:∀k,sr (H.get k) (H'.get k)
def Icy.refl(S:Nat->Prop)(H:Hp):Icy S H H:=⟨rfl,fun _ _=>rfl,fun _=>.inl rfl⟩
def Icy.trans{a b c:Hp}(h:Icy S a b)(k:Icy S b c):Icy S a c:=⟨k.next.trans h.next,fun r hr=>(k.out r hr).trans (h.out r hr),fun r=>(h.same r).trans (k.same r)⟩
def Icy.ic(h:Icy S H H')(k:cV S' n H v u):cV S' n H' v u:=k.frame (fun _ q=>q) (sq h.next.symm) fun r _ _=>h.same r
theorem Co{S:Nat->Prop}{n:Nat}(ih:∀{v u:AV}{H:Hp},cV S n H v u->∃H',eP n v H=some (u,H')/\Icy S H H'):∀{l m:qm}{H:Hp},cP (cV S n H) l m->∃H',fW (eP n) l H=some (m,H')/\Icy S H H'
 |[],[],H,_=>⟨H,rfl,Icy.refl S H⟩
 |a::l,b::m,H,h=>by
  obtain⟨H1,j,Z⟩:=ih h.1;obtain⟨Y,A,O⟩:=Co ih (l:=l) (m:=m) (H:=H1) (h.2.mono fun a b k=>Z.ic k);exact⟨Y,by simp only[fW,j,A],Z.trans O⟩
theorem cV.ao{S:Nat->Prop}:∀{n:Nat}{v u:AV}{H:Hp},cV S n H v u->∃H',eP n v H=some (u,H')/\Icy S H H'
 |0,_,_,_,h=>h.elim
 |n+1,v,u,H,h=>by
  cases v with
  |sl r F j z=>
   obtain⟨V,h0,cs,Z,I,l,m,A,O,J,rfl⟩:=h;have M:Icy S H (H.set r (.cells cs (max Z (F+j*z)) I)):=by
    refine⟨rfl,fun k Y=>by rw[aO,ad (fun e=>Y B9)],fun k=>?_⟩;rw[aO];split
    .rename_i e;subst e;exact .inr ⟨cs,Z,max Z (F+j*z),I,m,rfl,fun _=>aa⟩
    .exact .inl rfl
   obtain⟨H',U,K⟩:=Co (fun k=>cV.ao k) (J.mono fun a b k=>M.ic k);refine⟨H',?_,M.trans K⟩;have e:eP (n+1) (.sl r F j z) H=match H.get r with
    |some (.cells cs Z I)=>match Nat.ble (F+j*z) cs.length&&Nat.ble Z cs.length with
     |true=>match fW (eP n) ((cs.drop F).take (j*z)) (H.set r (.cells cs (max Z (F+j*z)) I))with
      |some (l',H)=>some (.ai (gk z j l'),H)
      |none=>none
     |false=>none
    |_=>none:=rfl
   rw[e,m];have e1:Nat.ble (F+j*z) cs.length=true:=by rw[Nat.ble_eq];exact O
   have e2:Nat.ble Z cs.length=true:=by rw[Nat.ble_eq];exact A
   simp only[e1,e2,yp,U]
  |agg cs=>
   obtain⟨C,V,rfl⟩:=h;obtain⟨H',m,A⟩:=Co (fun k=>cV.ao k) V;refine⟨H',?_,A⟩;have e:eP (n+1) (.agg cs) H=match fW (eP n) cs H with
    |some (C,H)=>some (.agg C,H)
    |none=>none:=rfl
   rw[e,m]
  |ptr r o=>
   obtain⟨k,Y⟩:=h.1;exact absurd (Y (k+1) aa H) (by simp[iceV])
  |map r=>
   obtain⟨k,Y⟩:=h.1;exact absurd (Y (k+1) aa H) (by simp[iceV])
  |_=>exact⟨H,by rw[show u=_ from h.2];rfl,Icy.refl S H⟩
def cV.iceL{l m:qm}(h:cP (cV S n H) l m):∃H',fW (eP n) l H=some (m,H')/\Icy S H H':=Co (fun k=>cV.ao k) h
theorem FZ{S:Nat->Prop}{n:Nat}{H:Hp}(ih:∀{v u:AV},cV S n H v u->∃U,∀m,U<=m->iceV H m v=some u):∀{l k:qm},cP (cV S n H) l k->∃U,∀m,U<=m->iceL (iceV H m) l=some k
 |[],[],_=>⟨0,fun _ _=>rfl⟩
 |a::l,b::k,h=>by
  obtain⟨i5,j⟩:=ih h.1;obtain⟨V,Z⟩:=FZ ih (l:=l) (k:=k) h.2;exact⟨max i5 V,fun m M=>by simp only[iceL,j m aa,Z m aa]⟩
theorem cV.iceV{S:Nat->Prop}{H:Hp}:∀{n:Nat}{v u:AV},cV S n H v u->∃U,∀m,U<=m->iceV H m v=some u
 |0,_,_,h=>h.elim
 |n+1,v,u,h=>by
  cases v with
  |sl r Z j z=>
   obtain⟨Y,h0,cs,O,I,l,K,h3,h4,J,rfl⟩:=h;obtain⟨U,F⟩:=FZ (fun k=>cV.iceV k) J;refine⟨U+1,fun m M=>?_⟩;obtain⟨m,rfl⟩:∃k,m=k+1:=⟨m-1,aa⟩;have e:Ab.iceV H (m+1) (.sl r Z j z)=match H.get r with
    |some (.cells cs _ _)=>match Ab.iceL (Ab.iceV H m) ((cs.drop Z).take (j*z))with
     |some V=>if V.length=j*z then some (.ai (gk z j V))else none
     |none=>none
    |_=>none:=rfl
   have A:l.length=j*z:=by rw[<-J.len,mF,jP];omega
   rw[e,K];simp only[F m aa,A,bw]
  |agg cs=>
   obtain⟨C,Y,rfl⟩:=h;obtain⟨U,F⟩:=FZ (fun k=>cV.iceV k) Y;refine⟨U+1,fun m M=>?_⟩;obtain⟨m,rfl⟩:∃k,m=k+1:=⟨m-1,aa⟩;have e:Ab.iceV H (m+1) (.agg cs)=match Ab.iceL (Ab.iceV H m) cs with
    |some C=>some (.agg C)
    |none=>none:=rfl
   rw[e,F m aa]
  |_=>
   obtain⟨k,o⟩:=h.1;exact⟨k,fun m M=>by rw[o m M H,h.2]⟩
theorem L4(z:Nat):∀(rows:List qm),(∀r∈rows,r.length=z)->gk z rows.length rows.flatten=rows
 |[],_=>rfl
 |r::rows,h=>by
  have j:=h r gW;rw[iI,gN];show(r++rows.flatten).take z::gk z rows.length ((r++rows.flatten).drop z)=_;rw[Ds aa,iR aa,AG aa,oN aa,jO,L4 z rows fun q F=>h q (jE _ F)]
theorem vz{z:Nat}:∀{rows:List qm},(∀r∈rows,r.length=z)->rows.flatten.length=rows.length*z
 |[],_=>by simp
 |r::rows,h=>by
  rw[iI,lA,h r gW,vz fun q F=>h q (jE _ F),gN,ta];omega
theorem cP.cc{p:AV->AV->Prop}:∀{a b:List qm},cP (cP p) a b->cP p a.flatten b.flatten
 |[],[],_=>trivial
 |_::_,_::_,h=>by rw[iI,iI];exact h.1.append (cP.cc h.2)
theorem cP.eG{p:AV->AV->Prop}{z:Nat}:∀{a b:List qm},cP (cP p) a b->(∀r∈a,r.length=z)->∀r∈b,r.length=z
 |[],[],_,_,r,hr=>by simp at hr
 |x::a,y::b,h,hz,r,hr=>by
  rcases fY.1 hr with rfl|hr
  .rw[<-h.1.len];exact hz x gW
  .exact cP.eG h.2 (fun q F=>hz q (jE _ F)) r hr
def cV.rows{r z imm:Nat}{tip:Bool}{a b:List qm}(hS:S r)(hr:r<H.next)(C:H.get r=some (.cells a.flatten imm tip))(F:imm<=a.flatten.length)(Y:∀x∈a,x.length=z)(h:cP (cP (cV S n H)) a b):cV S (n+1) H (.sl r 0 a.length z) (.ai b):=by
 have K:=vz Y;refine⟨hS,hr,a.flatten,imm,tip,b.flatten,C,F,aa,?_,?_⟩
 .rw[gV,iR aa];exact h.cc
 .rw[h.len,L4 z b (h.eG Y)]
theorem bT.wk{G:Gh}(n:Nat):∀{j:qm}{vs:qw},bT G j vs->bT G (j.map (bW n)) vs
 |[],vs,h=>h
 |a::l,[],h=>by have:=h.1;simp at this
 |a::l,v::vs,h=>by
  obtain⟨Z,m⟩:=h.aR;exact gO (Z.wk n) (bT.wk n m)
def bJ.wkA{P:Program}{ρ:Nat->Int}{f:FuncId}(n:Nat)(h:bJ P ρ f (j.map (bW n)) r):bJ P ρ f j r:=⟨h.1,fun G w vs Z m A=>h.2 G w vs Z m (A.wk n)⟩
def vA(e:En):En:=⟨e.f,e.ao,fun j=>e.sp (j.map (bW 60))⟩
def L5{P:Program}{ρ:Nat->Int}{e:En}(h:cS P ρ e):cS P ρ (vA e):=fun j r hr=>(h _ r hr).wkA 60
end Go.Ab
namespace Go.Proofs.YtbflaciihaijgaaGreat
set_option maxRecDepth 20000
open Go Go.Ab Proofs.Tryz
variable{H H':Hp}{v x:AV}{l m:qp}{lo k r o:Nat}
def oz(H:Hp)(v:AV)(l:qp)(lo:Nat):Prop:=∃r S,v=.sl r 0 l.length 1/\H.get r=some (.cells (l.map (.int .i64)) S true)/\S<=l.length/\lo<=r/\r<H.next
def ze(H:Hp)(v:AV)(l:qp)(lo:Nat):Prop:=(v=.ab/\l=[])\/oz H v l lo
def oz.lt(h:oz H v l lo)(o:dk v k):lo<=k/\k<H.next:=by
 obtain⟨r,S,rfl,_,_,O,J⟩:=h;obtain⟨n,e⟩:=o;simp only[AV.sl.injEq]at e;rw[<-e.1];exact⟨O,J⟩
def ze.lt(h:ze H v l lo)(o:dk v k):lo<=k/\k<H.next:=by
 rcases h with⟨rfl,_⟩|h
 .obtain⟨n,e⟩:=o;simp at e
 .exact h.lt o
def Cp(l:qp):(l.map (AV.int .i64)).all AV.one=true:=by simp[AV.one]
def L6{imm:Nat}(h:H.get r=some (.cells (m.map (.int .i64)) imm true)):fc H 1 (.sl r 0 m.length 1)=some (m.length,m.map (.int .i64)):=by
 have:=pN (H:=H) (r:=r) (o:=0) (n:=m.length) (z:=1) (s:=1) h aI;rw[this,gV,iR aI]
theorem X8(M:ze H v l lo)(z:lo<=H.next)(O:fc H 1 x=some (m.length,m.map (.int .i64)))(F:m≠[])(Y:l.length+m.length<2^40):
 ∃J H',dh prog false H 26 26 v x=some (J,H')/\oz H' J (l++m) lo/\H'.next=H.next+1/\(∀k,k<lo->H'.get k=H.get k)/\tA v J H H':=by
 obtain⟨n,I⟩:∃n,m.length=n+1:=⟨m.length-1,by have:=tx.2 F;omega⟩;have U:dd=70368744177664:=rfl;rw[I]at O;rcases M with⟨rfl,rfl⟩|⟨r,S,rfl,V,A,j,h5⟩
 .refine⟨.sl H.next 0 (n+1) 1,H.alloc (.cells (m.map (.int .i64)) 0 true),append_nil underlying26 pP uQ uR aA O (Cp m) rfl lL lL,⟨H.next,0,vc,wB,aa,z,dq _⟩,rfl,fun k o=>fX,fun k o _=>fX,fun k o=>.inr ?_⟩;obtain⟨C,e⟩:=o;simp only[AV.sl.injEq]at e;omega
 .have K:fV false H 1 (.sl r 0 l.length 1)=H:=by
   unfold fV;simp only[V,bR,ec,jS];have:Nat.blt l.length l.length=false:=by
    cases Y:Nat.blt l.length l.length with
    |false=>rfl
    |true=>rw[iH]at Y;omega
   simp[this]
  refine⟨.sl H.next 0 (l.length+(n+1)) 1,(H.az r).alloc (.cells (l.map (.int .i64)++m.map (.int .i64)) (S-0) true),?_,⟨H.next,S,vc,?_,ce,z,dq _⟩,rfl,fun k o=>?_,fun k o Z=>?_,fun k o=>.inr ?_⟩
  .simp only[dh,underlying26,pP,uQ,uR,show ip prog 26=true by kernel_rfl,O,Cp,K,nT,bw,nL,kL,V,ec,bR,jS,gV];rw[au ⟨lL,lL,trivial,trivial,A⟩];simp
  .show((H.az r).alloc _).get (H.az r).next=_
   rw[aP,au rfl];simp
  .rw[aP,ad kC,gm,ad aa]
  .rw[aP,ad kC,gm,ad (fun e=>Z ⟨_,mK⟩)]
  .obtain⟨C,e⟩:=o;simp only[AV.sl.injEq]at e;omega
def zc6{imm:Nat}(s:Int)(U:ze H v l lo)(z:lo<=H.next)(S:H.get r=some (.cells [.int .i64 s] imm true))(Z:l.length<2^39):
 ∃J H',dh prog false H 26 26 v (.sl r 0 1 1)=some (J,H')/\oz H' J (l++[s]) lo/\H'.next=H.next+1/\(∀k,k<lo->H'.get k=H.get k)/\tA v J H H':=
 X8 U z (L6 (m:=[s]) S) aI ce
theorem L7(l:qp):gk 1 l.length (l.map (.int .i64))=l.map fun s=>[AV.int .i64 s]:=by
 induction l with
 |nil=>rfl
 |cons a l ih=>simp[gk,ih]
theorem L8(n:Nat):∀(l:qp) (H:Hp),fW (eP (n+1)) (l.map (.int .i64)) H=some (l.map (.int .i64),H)
 |[],H=>rfl
 |a::l,H=>by
  have:=L8 n l H;have e:eP (n+1) (.int .i64 a) H=some (.int .i64 a,H):=rfl;simp only[el,fW,e,this]
theorem oz.ao(h:oz H v l lo)(n:Nat):
 ∃H',eP (n+2) v H=some (nV l,H')/\oz H' v l lo/\H'.next=H.next/\(∀k,k<lo->H'.get k=H.get k)/\∀k,¬dk v k->H'.get k=H.get k:=by
 obtain⟨r,S,rfl,m,A,O,J⟩:=h;refine⟨H.set r (.cells (l.map (.int .i64)) (max S l.length) true),?_,⟨r,max S l.length,rfl,iG,aa,O,J⟩,rfl,fun k o=>jZ,fun k o=>by rw[aO,ad (fun e=>o ⟨_,mK⟩)]⟩;have e:eP (n+2) (.sl r 0 l.length 1) H=match H.get r with
  |some (.cells cs S I)=>match Nat.ble (0+l.length*1) cs.length&&Nat.ble S cs.length with
   |true=>match fW (eP (n+1)) ((cs.drop 0).take (l.length*1)) (H.set r (.cells cs (max S (0+l.length*1)) I))with
    |some (M,H)=>some (.ai (gk 1 l.length M),H)
    |none=>none
   |false=>none
  |_=>none:=rfl
 rw[e,m];simp only[ec,bR,jS,gV];have C:Nat.ble l.length l.length=true:=BB;have Z:Nat.ble S l.length=true:=BB;rw[C,Z];simp only[yp];rw[iR aI,L8];simp only[L7]
def tN(H:Hp)(v:AV)(l:qp)(lo:Nat):Prop:=∃r,v=.sl r 0 l.length 1/\H.get r=some (.cells (l.map (.int .i64)) 0 true)/\lo<=r/\r<H.next
def ss(H:Hp)(v:AV)(l:qp)(lo:Nat):Prop:=(v=.ab/\l=[])\/tN H v l lo
def tN.b(h:tN H v l lo):oz H v l lo:=by
 obtain⟨r,j,m,A,O⟩:=h;exact⟨r,0,j,m,dx _,A,O⟩
def ss.n(h:ss H v l lo):ze H v l lo:=h.imp id fun h=>h.b
def tN.aj(h:tN H v l lo)(I:H.next<=H'.next)(C:∀k,dk v k->H'.get k=H.get k):tN H' v l lo:=by
 obtain⟨r,rfl,m,O,J⟩:=h;exact⟨r,rfl,by rw[C r ⟨_,rfl⟩];exact m,O,aa⟩
def ss.aj(h:ss H v l lo)(I:H.next<=H'.next)(C:∀k,dk v k->H'.get k=H.get k):ss H' v l lo:=h.imp id fun h=>h.aj I C
theorem X9(S:ss H v l lo)(z:lo<=H.next)(O:fc H 1 x=some (m.length,m.map (.int .i64)))(M:m≠[])(Y:l.length+m.length<2^40):
 ∃J H',dh prog false H 26 26 v x=some (J,H')/\tN H' J (l++m) lo/\H'.next=H.next+1/\(∀k,k<lo->H'.get k=H.get k)/\tA v J H H':=by
 obtain⟨n,I⟩:∃n,m.length=n+1:=⟨m.length-1,by have:=tx.2 M;omega⟩;have U:dd=70368744177664:=rfl;rw[I]at O;rcases S with⟨rfl,rfl⟩|⟨r,rfl,V,C,A⟩
 .refine⟨.sl H.next 0 (n+1) 1,H.alloc (.cells (m.map (.int .i64)) 0 true),append_nil underlying26 pP uQ uR aA O (Cp m) rfl lL lL,⟨H.next,vc,wB,z,dq _⟩,rfl,fun k o=>fX,fun k o _=>fX,fun k o=>.inr ?_⟩;obtain⟨F,e⟩:=o;simp only[AV.sl.injEq]at e;omega
 .have K:fV false H 1 (.sl r 0 l.length 1)=H:=by
   unfold fV;simp only[V,bR,ec,jS];have:Nat.blt l.length l.length=false:=by
    cases Y:Nat.blt l.length l.length with
    |false=>rfl
    |true=>rw[iH]at Y;omega
   simp[this]
  refine⟨.sl H.next 0 (l.length+(n+1)) 1,(H.az r).alloc (.cells (l.map (.int .i64)++m.map (.int .i64)) (0-0) true),?_,⟨H.next,vc,?_,z,dq _⟩,rfl,fun k o=>?_,fun k o Z=>?_,fun k o=>.inr ?_⟩
  .simp only[dh,underlying26,pP,uQ,uR,show ip prog 26=true by kernel_rfl,O,Cp,K,nT,bw,nL,kL,V,ec,bR,jS,gV];rw[au ⟨lL,lL,trivial,trivial,dx _⟩];simp
  .show((H.az r).alloc _).get (H.az r).next=_
   rw[aP,au rfl];simp
  .rw[aP,ad kC,gm,ad aa]
  .rw[aP,ad kC,gm,ad (fun e=>Z ⟨_,mK⟩)]
  .obtain⟨F,e⟩:=o;simp only[AV.sl.injEq]at e;omega
def Ya{imm:Nat}(s:Int)(U:ss H v l lo)(z:lo<=H.next)(S:H.get r=some (.cells [.int .i64 s] imm true))(Z:l.length<2^39):
 ∃J H',dh prog false H 26 26 v (.sl r 0 1 1)=some (J,H')/\tN H' J (l++[s]) lo/\H'.next=H.next+1/\(∀k,k<lo->H'.get k=H.get k)/\tA v J H H':=
 X9 U z (L6 (m:=[s]) S) aI ce
def splice_one(cs:qm)(M:o<cs.length)(x:AV):splice cs o [x]=cs.set o x:=by
 rw[Es,E9,au M];simp
def L9{cs:qm}(C:H.get r=some (.cells cs 0 true))(M:o<cs.length)(n:Int):mD prog H 3 (.ptr r o) (.int .i64 n)=some (H.set r (.cells (cs.set o (.int .i64 n)) 0 true)):=by
 rw[Er,C,pP,Ep,Ab.cells_int,splice_one cs M,au ⟨rfl,dx _,M,rfl⟩]
theorem Ma(H:Hp)(n:Nat):∀l:qp,iceL (iceV H (n+1)) (l.map (.int .i64))=some (l.map (.int .i64))
 |[]=>rfl
 |a::l=>by
  have:=Ma H n l;have e:iceV H (n+1) (.int .i64 a)=some (.int .i64 a):=rfl;simp only[el,iceL,e,this]
theorem oz.iceV{H:Hp}{v:AV}{l:qp}{lo:Nat}(h:oz H v l lo)(n:Nat):iceV H (n+2) v=some (nV l):=by
 obtain⟨r,S,rfl,m,_⟩:=h;have e:Ab.iceV H (n+2) (.sl r 0 l.length 1)=match H.get r with
  |some (.cells cs _ _)=>match iceL (Ab.iceV H (n+1)) ((cs.drop 0).take (l.length*1))with
   |some M=>if M.length=l.length*1 then some (.ai (gk 1 l.length M))else none
   |none=>none
  |_=>none:=rfl
 rw[e,m];simp only[gV,jS];rw[iR aI,Ma];simp only[ec,bw,L7]
theorem bin_shr{D:BinOp->Sx->Sx->qy}{t:TypeId}{k M:IntKind}{a:Int}{m:Nat}(h:m<64)(o:k=.u64):dP prog D .shr t (.int k a) (.int M (m:Int))=some (.int k (a.fdiv (2^ m))):=by
 subst o;have e:dP prog D .shr t (.int .u64 a) (.int M (Int.ofNat m))=some (.int .u64 (a.fdiv (2^ min m 64))):=rfl;rw[show min m 64=m by omega]at e;exact e
end Go.Proofs.YtbflaciihaijgaaGreat
namespace Go.Ab
set_option maxRecDepth 20000
open Go
instance:DecidableEq Nd:=fun x y=>decidable_of_iff (x.op=y.op/\x.cu=y.cu/\x.ak=y.ak) (by cases x;cases y;simp)
def Cq(op:Int):Int×Bool:=
 if op=1\/op=2\/op=3\/op=26 then (0,true)
 else if op=20\/op=21\/op=24\/op=25 then (1,true)
 else if op=23\/op=27\/op=29 then (2,true)
 else if op=22\/op=28 then (3,true)
 else if op=30\/op=31 then (-1,true)
 else if 4<=op/\op<=19 then (2,true)
 else (0,false)
def m1(n:Int):Int:=(n-1).tdiv 2
def F0(op:Int):qp:=
 if op=22 then [1,1,1]else if op=23\/op=27\/op=29 then [2,1]else if op=28 then [2,1,1]else if op=24 then [2]else if op=25 then [3]else [1,1]
def tO:qp->qp->Bool
 |[],_=>true
 |a::s,w=>decide (a=w.headD 0)&&tO s w.tail
def vB(n:Nat):qp:=((List.replicate n (1:Int)).set 0 2).set (m1 n+1).toNat 2
theorem Mb(n:Nat)(h:1<=n):m1 n=((n-1)/2:Nat):=by
 unfold m1;rw[show(n:Int)-1=((n-1:Nat):Int) by omega];rfl
end Go.Ab
namespace Go.Proofs.YtbflaciihaijgaaGreat
set_option maxRecDepth 20000
open Go Go.Ab Proofs.Tryz
variable(ρ:Nat->Int)
variable{H:Hp}{r lo:Nat}{v:AV}{x:List qo}
section
def tyI1.tyF:=ac @cI (ac @pQ (@oV))
open tyI1
noncomputable def Mc:{c:SC // aG 31 (f42.body.getD .skip)=c}:=by
 refine⟨?_,?_⟩;rotate_left
 .simp only[f42,bE,aG,bz,bq,bF,bB,Nat.blt,Nat.ble];rfl
noncomputable def Md:{c:SC // aG 6 (f129.body.getD .skip)=c}:=by
 refine⟨?_,?_⟩;rotate_left
 .simp only[f129,bE,aG,bz,bq,bF,bB,Nat.blt,Nat.ble];rfl
noncomputable def Me:{c:SC // aG 22 (f199.body.getD .skip)=c}:=by
 refine⟨?_,?_⟩;rotate_left
 .simp only[f199,bE,aG,bz,bq,bF,bB,Nat.blt,Nat.ble];rfl
noncomputable def Mf:{c:SC // aG 21 (f197.body.getD .skip)=c}:=by
 refine⟨?_,?_⟩;rotate_left
 .simp only[f197,bE,aG,bz,bq,bF,bB,Nat.blt,Nat.ble];rfl
noncomputable def Mg:{c:SC // aG 21 (f198.body.getD .skip)=c}:=by
 refine⟨?_,?_⟩;rotate_left
 .simp only[f198,bE,aG,bz,bq,bF,bB,Nat.blt,Nat.ble];rfl
def zf(op:Int):AV:=.aW [.int .i64 (Cq op).1,.bool (Cq op).2]
def Yb(op:Int):fj (zf op):=.aW (.cons (.int _ _) (.cons (.bool _) .nil))
theorem Yc(op:Int):bJ prog ρ 42 [.int .i64 op] (zf op):=eG fit (pls:=pls) (l:=[]) trivial (.cons (.int _ _) .nil) (Yb op) (by
 have J:=eZ 42;refine a5 (M:=31) (rs:=[.tmp 2,.tmp 3]) (J.call _) J.ao J.am func42 rfl rfl Mc.2 rfl ?_;dsimp only[Mc,a3,Nat.reduceAdd];repeat' (first
  |(apply ai ?_;clear hK K)|apply Rx.o ?_|(apply aX (fun C Y=>?_) (fun C Y=>?_)<;>try(cases C;done))|(apply aE (fun z V=>?_) (fun z V=>?_)<;>try(cases z;done))|apply ae ?_|(apply ah fun K hK=>?_)|apply aj ?_|apply ak ?_|apply am ?_)
 all_goals
  refine⟨aC,_,VN,?_⟩;try simp only[aB]
  first
  |(simp_all[zf,Cq];done)
  |(unfold zf Cq;rw[ad aa,ad aa,ad aa,ad aa,ad aa,ad aa];done))
def Mh(n:Nat):(0:Int)<=m1 n/\m1 n<=n:=by
 by_cases h:n=0
 .subst h;decide
 .rw[Mb n aa];omega
def Yd(n:Nat)(I:n<2^60):bJ prog ρ 129 [.int .i64 n] (.int .i64 (m1 n)):=eG fit (pls:=pls) (l:=[]) trivial (.cons (.int _ _) .nil) (.int _ _) (by
 have J:=eZ 129;have F:(2:Int)≠0:=cy;have o:IntKind.wrap .i64 ((n:Int)-1)=(n:Int)-1:=k3 aa aa;refine a5 (M:=6) (rs:=[.tmp 2]) (J.call _) J.ao J.am func129 rfl rfl Md.2 rfl ?_;dsimp only[Md,a3,Nat.reduceAdd];repeat' (first
  |(apply ai ?_;clear hK K)|apply Rx.o ?_|apply ae ?_|(apply ah fun K hK=>?_)|apply am ?_)
 all_goals refine qq ?_
 rw[m1];rw[k3 (by have:=(Mh n).1;unfold m1 at this;omega) (by have:=(Mh n).2;unfold m1 at this;omega)])
def Ye(H:Hp)(a b c:Int):dc prog H 26 3 [(0,.int .i64 a),(1,.int .i64 b),(2,.int .i64 c)]=some (.sl H.next 0 3 1,H.alloc (.cells [.int .i64 a,.int .i64 b,.int .i64 c] 0 true)):=aA
def Yf(H:Hp)(a b:Int):dc prog H 26 2 [(0,.int .i64 a),(1,.int .i64 b)]=some (.sl H.next 0 2 1,H.alloc (.cells [.int .i64 a,.int .i64 b] 0 true)):=aA
def Mi(H:Hp)(a:Int):dc prog H 26 1 [(0,.int .i64 a)]=some (.sl H.next 0 1 1,H.alloc (.cells [.int .i64 a] 0 true)):=aA
theorem Yg(op:Int):bJ prog ρ 199 [.int .i64 op] (nV (F0 op)):=u5 (m:=3) (cfg:=aF pls []) fit (mL ρ) (fun f j r h=>by simp[aF,dD]at h) (.cons (.int _ _) .nil) (by
 have J:=eZ 199;refine a5 (M:=22) (rs:=[.tmp 2]) (J.call _) J.ao J.am func199 rfl rfl Me.2 rfl ?_;dsimp only[Me,a3,Nat.reduceAdd];have Z:=@Ye;have Y:=@Yf;have O:=@Mi;repeat' (first
  |(apply ai ?_;clear hK K)|apply Rx.o ?_|(apply aE (fun z V=>?_) (fun z V=>?_)<;>try(cases z;done))|apply ae ?_|(apply ah fun K hK=>?_)|apply aj ?_|apply ak ?_|apply am ?_)
 all_goals
  all_goals refine qq ?_
  simp_all[F0];rfl)
def Yh(s w:qp)(i:Nat)(F:i<s.length)(K:s.length<=w.length):tO (s.drop i) (w.drop i)=(decide (s.getD i 0=w.getD i 0)&&tO (s.drop (i+1)) (w.drop (i+1))):=by
 rw[fR F,fR (l:=w) aa,tO];simp[iY,bt F,bt (show i<w.length by omega)]
def F1(x:qp×qp):qm:=[nV x.1,nV x.2]
theorem Yi(x:qp×qp)(A:x.1.length<=x.2.length/\x.2.length<2^60):bJ prog ρ 197 (F1 x) (.bool (tO x.1 x.2)):=eG fit (pls:=pls) (l:=[]) trivial (.cons (JF _) (.cons (JF _) .nil)) (.bool _) (by
 obtain⟨s,w⟩:=x;obtain⟨C,z⟩:=A;simp only[]at C z;have F:=eZ 197;rw[F1];simp only[];refine a5 (M:=21) (rs:=[.tmp 4]) (F.call _) F.ao F.am func197 rfl rfl Mf.2 rfl ?_;dsimp only[Mf,a3,Nat.reduceAdd];repeat' (first
  |(apply ai ?_;clear hK K)|apply Rx.o ?_|(apply aE (fun z V=>?_) (fun z V=>?_)<;>try(cases z;done))|apply ae ?_|(apply ah fun K hK=>?_)|(apply aq 4 [(3,9),(7,9)] fun K hK=>?_)|(apply aM ?_;try intro _)|(apply aR ?_ ?_<;>clear hK K)|apply aL ?_|apply aj ?_|apply ak ?_|apply am ?_|apply ax ?_)
 refine dG [0,1] [] 5 s.length (fun i E H=>tO s w=tO (s.drop i) (w.drop i)) eE aI ?_;rintro i E m hi Y U S o J;(try simp only[bL,bK,bb,aK,aW,Nat.reduceBEq,Nat.reduceAdd,Nat.reduceLeDiff,tyF, *]at Y);(try simp only[bL,bK,bb,aK,aW,Nat.reduceBEq,Nat.reduceAdd,Nat.reduceLeDiff,tyF, *]at U);(try simp only[br,bG,cR,bR,Nat.reduceAdd]at S);repeat' (first
  |(apply ai ?_;clear hK K)|apply Rx.o ?_|(apply aE (fun z V=>?_) (fun z V=>?_)<;>try(cases z;done))|apply ae ?_|(apply ah fun K hK=>?_)|(apply aq 4 [(3,9),(7,9)] fun K hK=>?_)|(apply aM ?_;try intro _)|(apply aR ?_ ?_<;>clear hK K)|apply aL ?_|apply aj ?_|apply ak ?_|apply am ?_|apply ax ?_)
 .have Z:i<s.length:=by simpa using z
  have I:s[i]?=some s[i]:=bt Z;have O:w[i]?=some w[i]:=bt aa;have j:=Yh s w i Z C;repeat' (first
   |(apply ai ?_;clear hK K)|apply Rx.o ?_|(apply aE (fun z V=>?_) (fun z V=>?_)<;>try(cases z;done))|apply ae ?_|(apply ah fun K hK=>?_)|(apply aq 4 [(3,9),(7,9)] fun K hK=>?_)|(apply aM ?_;try intro _)|(apply aR ?_ ?_<;>clear hK K)|apply aL ?_|apply aj ?_|apply ak ?_|apply am ?_|apply ax ?_)
  .exact di
  .all_goals refine qq ?_
   rw[J,j,iY,iY,I,O];simp_all
  .refine⟨aa,bM,bM,dr,E6,?_⟩;rw[J,j,iY,iY,I,O];simp_all
 .all_goals refine qq ?_
  rw[J,show i=s.length by simp at z;omega,gy];rfl)
noncomputable def Mj:En:=⟨42,false,bS (fun _=>True) (fun n:Int=>[.int .i64 n]) zf⟩
def Yj:cS prog ρ Mj:=cZ fun n _=>Yc ρ n
def wX(n:Nat):qm:=[.int .i64 n]
def Yk(x y:Nat)(h:wX x=wX y):x=y:=by
 simp only[wX,ew,AV.int.injEq,iw]at h;omega
noncomputable def wY:En:=⟨129,false,bS (fun n=>n<2^60) wX fun n=>.int .i64 (m1 n)⟩
def Mk:cS prog ρ wY:=cZ fun n I=>Yd ρ n I
def Yl{l:qu}(K:∀I,dD l 129 I=wY.sp I)(n:Nat)(Z:n<2^60)(H:Hp):aU prog (aF pls l) 129 [.int .i64 n] H fun v H'=>v=.int .i64 (m1 n)/\H'=H:=
 cp (enc:=wX) (ok:=fun n=>n<2^60) (out:=fun n=>.int .i64 (m1 n)) Yk (x:=n) (K _) Z
noncomputable def Ml:En:=⟨199,false,bS (fun _=>True) (fun n:Int=>[.int .i64 n]) fun n=>nV (F0 n)⟩
def Ym:cS prog ρ Ml:=cZ fun n _=>Yg ρ n
def Yn(x:qp×qp):Prop:=x.1.length<=x.2.length/\x.2.length<2^60
noncomputable def Mm:En:=⟨197,false,bS Yn F1 fun x=>.bool (tO x.1 x.2)⟩
def Yo:cS prog ρ Mm:=cZ fun x hx=>Yi ρ x hx
theorem Yp(n:Nat)(h3:3<=n)(hn:n<2^30):bJ prog ρ 198 [.int .i64 n] (nV (vB n)):=u5 (m:=3) (cfg:=aF pls [wY]) fit (mL ρ) (eU.bS ⟨Mk ρ,trivial⟩) (.cons (.int _ _) .nil) (by
 have C:zc7 (aF pls [wY]) 198:=dZ (fun _=>rfl) rfl;have hlv:=Mb n aa;refine a5 (M:=21) (rs:=[.tmp 2]) (C.call _) C.ao C.am func198 rfl rfl Mg.2 rfl ?_;dsimp only[Mg,a3,Nat.reduceAdd];repeat' (first
  |(apply ai ?_;clear hK K)|apply Rx.o ?_|(apply aE (fun z V=>?_) (fun z V=>?_)<;>try(cases z;done))|apply ae ?_|(apply ah fun K hK=>?_)|apply aj ?_|apply ak ?_|apply am ?_|apply ax ?_)
 have U:∀i,(List.replicate i (1:Int)).length=i:=fun i=>List.length_replicate;have O:(aF pls [wY]).aj 198=false:=rfl;refine dG [0,2] [] 4 n (fun i E H=>∃v,E.at 3=v/\ss H v (List.replicate i 1) 0) eE ⟨.ab,eE,.inl ⟨rfl,rfl⟩⟩ ?_;rintro i E Z hi Y S J hsI ⟨v,lT,I⟩;(try simp only[bL,bK,bb,aK,aW,Nat.reduceBEq,Nat.reduceAdd,Nat.reduceLeDiff,tyF, *]at Y);(try simp only[bL,bK,bb,aK,aW,Nat.reduceBEq,Nat.reduceAdd,Nat.reduceLeDiff,tyF, *]at S);(try simp only[br,bG,cR,bR,Nat.reduceAdd]at J);repeat' (first
  |(apply ai ?_;clear hK K)|apply Rx.o ?_|(apply aE (fun z V=>?_) (fun z V=>?_)<;>try(cases z;done))|apply ae ?_|(apply ah fun K hK=>?_)|apply aj ?_|apply ak ?_|apply am ?_|apply ax ?_)
 .have hlt:i<n:=by simpa using z
  have gh0:=@Mi;repeat' (first
   |(apply ai ?_;clear hK K)|apply Rx.o ?_|(apply aE (fun z V=>?_) (fun z V=>?_)<;>try(cases z;done))|apply ae ?_|(apply ah fun K hK=>?_)|apply aj ?_|apply ak ?_|apply am ?_|apply ax ?_)
  have A:ss (Z.alloc (.cells [.int .i64 1] 0 true)) v (List.replicate i 1) 0:=I.aj (eT _) fun k hk=>by rw[aP,ad (by have:=(I.n.lt hk).2;omega)]
  obtain⟨v5,H5,dt,s5,n5,f5,o5⟩:=Ya (r:=Z.next) (imm:=0) 1 A (dx _) fN lL;refine jF dK dK BT ?_;repeat' (first
   |(apply ai ?_;clear hK K)|apply Rx.o ?_|(apply aE (fun z V=>?_) (fun z V=>?_)<;>try(cases z;done))|apply ae ?_|(apply ah fun K hK=>?_)|apply aj ?_|apply ak ?_|apply am ?_|apply ax ?_)
  refine⟨aa,bM,bM,dr,(by simp only[aK,Nat.reduceBEq, *];exact jV (n:=n) aa aa),?_⟩;exact⟨v5,eE,.inr (by rw[List.replicate_succ'];exact s5)⟩
 .have o:i=n:=by simp at z;omega
  subst o;rcases I with⟨_,h⟩|⟨r,F,h2,_,h4⟩
  .have:=lB List.length h;rw[U]at this;simp at this;omega
  subst F;rw[U]at lT;have j:((List.replicate i (1:Int)).map (AV.int .i64)).length=i:=aI;generalize hcs:(List.replicate i (1:Int)).map (AV.int .i64)=cs at h2 j;have hi1:0<i:=aa;have hi2:(i-1)/2+1<i:=aa;have e1:IntKind.wrap .i64 (((i-1)/2:Nat)+1)=(((i-1)/2+1:Nat):Int):=k3 aa aa;repeat' (first
   |(apply ai ?_;clear hK K)|apply Ry.o ?_|(apply cU ?_;first|refine aY (Yl (fun _=>rfl) _ aa _) ?_)|apply ae ?_|(apply ah fun K hK=>?_)|apply aj ?_|apply ak ?_|apply am ?_|apply ax ?_)
  refine wn dK dK (L9 h2 aa 2) ?_;repeat' (first
   |(apply ai ?_;clear hK K)|apply Ry.o ?_|apply ae ?_|(apply ah fun K hK=>?_)|apply aj ?_|apply ak ?_|apply am ?_|apply ax ?_)
  refine wn dK dK (L9 iG (by rw[Cm];omega) 2) ?_;repeat' (first
   |(apply ai ?_;clear hK K)|apply Rx.o ?_|(apply aE (fun z V=>?_) (fun z V=>?_)<;>try(cases z;done))|apply ae ?_|(apply ah fun K hK=>?_)|apply aj ?_|apply ak ?_|apply am ?_|apply ax ?_)
  all_goals refine qq ?_
  have hll:(vB i).length=i:=by simp[vB]
  have z:oz ((Z.set r (.cells (cs.set 0 (.int .i64 2)) 0 true)).set r (.cells ((cs.set 0 (.int .i64 2)).set ((i-1)/2+1) (.int .i64 2)) 0 true)) (.sl r 0 (vB i).length 1) (vB i) 0:=⟨r,0,rfl,by
   rw[aO,au rfl,vB,uM,uM,hcs,show(m1 i+1).toNat=(i-1)/2+1 by omega],dx _,dx _,h4⟩
  have:=z.iceV 1;rw[hll]at this;exact this)
noncomputable def Mn:En:=⟨198,false,bS (fun n=>3<=n/\n<2^30) wX fun n=>nV (vB n)⟩
def Yq:cS prog ρ Mn:=cZ fun n I=>Yp ρ n I.1 I.2
end
section
namespace tyI2
end tyI2
open tyI2
noncomputable def levIr:qu:=[Mj,wY,Ml,Mm,Mn]
def levIr_ok:eU prog ρ levIr:=⟨Yj ρ,Mk ρ,Ym ρ,Yo ρ,Yq ρ,trivial⟩
end
section
def rk:Nat->AV->Bool
 |0,_=>false
 |n+1,v=>match v with
  | .sl _ _ _ _=>true
  | .agg cs=>cs.any (rk n)
  |_=>false
theorem Cr{S:Nat->Prop}{H:Hp}{n m k:Nat}(ih:∀{v u:AV},cV S n H v u->rk m (bW k v)=false->bW k u=bW k v):∀{cs C:qm},cP (cV S n H) cs C->(cs.map (bW k)).any (rk m)=false->C.map (bW k)=cs.map (bW k)
 |[],[],_,_=>rfl
 |c::cs,d::C,h,h2=>by
  simp only[el,oc,fP]at h2;rw[el,el,ih h.1 h2.1,Cr ih h.2 h2.2]
theorem F2{S:Nat->Prop}{H:Hp}:∀(n m k:Nat) {v u:AV},n<=m->cV S n H v u->rk m (bW k v)=false->bW k u=bW k v
 |0,_,_,_,_,_,h,_=>h.elim
 |n+1,0,_,_,_,h,_,_=>by omega
 |n+1,m+1,k,v,u,hm,h,h2=>by
  cases v with
  |sl r o l z=>cases k<;>simp[bW,rk]at h2
  |agg cs=>
   obtain⟨C,j,rfl⟩:=h;cases k with
   |zero=>
    have e:∀v,bW 0 v=v:=fun v=>by cases v<;>rfl
    have A:(cs.map (bW 0)).any (rk m)=false:=by
     rw[show cs.map (bW 0)=cs by rw[show bW 0=id from funext e,zb]];simpa [bW,rk]using h2
    have:=Cr (k:=0) (fun O J=>F2 n m 0 aa O J) j A;rw[show bW 0=id from funext e,zb,zb]at this;rw[this]
   |succ k=>
    have A:(cs.map (bW k)).any (rk m)=false:=by simpa [bW,rk]using h2
    show AV.agg (C.map (bW k))=AV.agg (cs.map (bW k));rw[Cr (fun O J=>F2 n m k aa O J) j A]
  |_=>obtain⟨_,rfl⟩:=h;rfl
def Mo{l:qu}{fn:FuncId}{A:Type}{ok:A->Prop}{enc:A->qm}{out:A->AV}(Z:∀x y,enc x=enc y->x=y)(K:∀I,dD l fn I=bS ok enc out (I.map (bW 60)))(F:ir l fn=true)(V:∀y,(enc y).any (rk 90)=false){x:A}(Y:ok x){S:Nat->Prop}{n:Nat}(U:n<=90){j us:qm}(h1:cP (cV S n H) j us)(h2:us.map (bW 60)=enc x):
 aU prog (aF pls l) fn j H fun v H'=>v=out x/\Icy S H H':=by
 by_cases hd:∃y,ok y/\enc y=j.map (bW 60)
 .obtain⟨y,_,e⟩:=hd;have M:us.map (bW 60)=j.map (bW 60):=Cr (m:=90) (fun O J=>F2 n 90 60 U O J) h1 (by rw[<-e];exact V y);refine a4 ?_ (EU (r:=out x) (by show dD l fn j=_;rw[K,<-M,h2];exact ES Z Y));rintro v H' ⟨rfl,rfl⟩;exact⟨rfl,Icy.refl _ _⟩
 .obtain⟨H',O,J⟩:=cV.iceL (n:=100) (l:=j) (m:=us) (cP.mono (fun a b k=>cV.up k aa) h1);refine IA (r:=out x) ?_ F rfl O ?_ ⟨rfl,J⟩
  .show dD l fn j=none;rw[K];exact ET fun y hy e=>hd ⟨y,hy,e⟩
  .show dD l fn us=_;rw[K,h2];exact ES Z Y
def tyP4e.tyF:=ac @cI (ac @cY (ac @fg (ac @fh (ac @eL (ac @dW (ac @dR (ac @dy (ac @ge (ac @EL (ac @iW (ac @EK (@BV))))))))))))
open tyP4e
noncomputable def Mp:{c:SC // aG 28 (f123.body.getD .skip)=c}:=by
 refine⟨?_,?_⟩;rotate_left
 .simp only[f123,bE,aG,bz,bq,bF,bB,Nat.blt,Nat.ble];rfl
noncomputable def Mq:{c:SC // aG 38 (f122.body.getD .skip)=c}:=by
 refine⟨?_,?_⟩;rotate_left
 .simp only[f122,bE,aG,bz,bq,bF,bB,Nat.blt,Nat.ble];rfl
noncomputable def Mr:{c:SC // aG 35 (f72.body.getD .skip)=c}:=by
 refine⟨?_,?_⟩;rotate_left
 .simp only[f72,bE,aG,bz,bq,bF,bB,Nat.blt,Nat.ble];rfl
def gC(l:qo):qF:=l.map fun s=>(.ae s,.bool true)
def tP(l:qo)(s:qr):qo:=if bC l s=true then l else l++[s]
theorem zg(s:qr):∀(l:qo) (i:Nat),(bC l s=false->ef .string (.ae s) (gC l) i=some none)/\(bC l s=true->∃j,ef .string (.ae s) (gC l) i=some (some (i+j,.bool true))/\(gC l).set j (.ae s,.bool true)=gC l)
 |[],i=>⟨fun _=>rfl,fun h=>by simp[bC]at h⟩
 |a::l,i=>by
  have M:bC (a::l) s=(decide (s=a)||bC l s):=by rw[show a::l=[a]++l from rfl,oy,rh]
  by_cases h:s=a
  .subst h;rw[M,mU rfl,wd];refine⟨fun h=>lC,fun _=>⟨0,?_,?_⟩⟩
   .simp[gC,ef,ly]
   .simp[gC]
  .have m:ef .string (.ae s) (gC (a::l)) i=ef .string (.ae s) (gC l) (i+1):=by
    show ef .string (.ae s) ((.ae a,.bool true)::gC l) i=_;have:(s == a)=false:=fQ;simp[ef,ly,this]
   rw[M,wJ h,nP,m];obtain⟨o,Z⟩:=zg s l (i+1);refine⟨o,fun q=>?_⟩;obtain⟨j,I,F⟩:=Z q;exact⟨j+1,by rw[I,show i+1+j=i+(j+1) by omega],by show(AV.ae a,AV.bool true)::(gC l).set j _=_;rw[F];rfl⟩
def wZ{l:qo}(C:H.get r=some (.map (gC l)))(s:qr):gT prog H 200 (.map r) (.ae s) false=some (.bool (bC l s)):=by
 obtain⟨l1,l2⟩:=Fm (P:=prog) (H:=H) (t:=200) (nm:=s) (z:=.bool false) underlying200 aA aA C;cases h:bC l s with
 |false=>rw[l1 ((zg s l 0).1 h)]
 |true=>obtain⟨j,Z,m⟩:=(zg s l 0).2 h;rw[l2 _ _ Z]
def Ms{l:qo}(C:H.get r=some (.map (gC l)))(s:qr):nD prog H 200 (.map r) (.ae s) (.bool true)=some (H.set r (.map (gC (tP l s)))):=by
 obtain⟨l1,l2⟩:=Fo (P:=prog) (H:=H) (t:=200) (nm:=s) (x:=.bool true) underlying200 aA C;cases h:bC l s with
 |false=>rw[l1 ((zg s l 0).1 h),tP,h];simp[gC]
 |true=>obtain⟨j,Z,m⟩:=(zg s l 0).2 h;rw[l2 _ _ Z,bR,m,tP,au h]
def rp(x:List qo):qm:=[.ai (x.map fun l=>[cD l])]
def Yr(x y:List qo)(h:rp x=rp y):x=y:=by
 simp only[rp,ew,AV.ai.injEq,bb]at h;exact pW (fun a _ b e=>by simp only[ew,AV.ai.injEq,bb]at e;exact u9 e) h
def Ct(x:List qo):Prop:=x.length<2^60/\∀l∈x,l.length<2^60
def Ys(x:List qo):fj (.ai (x.map fun l=>[cD l])):=.map fun l _=>.cons (tq l) .nil
theorem Yt(x:List qo)(hx:Ct x):bJ prog ρ 123 (rp x) (.bool (cT [] x.flatten)):=eG fit (pls:=pls) (l:=[]) trivial (.cons (Ys x) .nil) (.bool _) (by
 have m:=eZ 123;obtain⟨hx1,o⟩:=hx;rw[rp];refine a5 (M:=28) (rs:=[.tmp 2]) (m.call _) m.ao m.am func123 rfl rfl Mp.2 rfl ?_;dsimp only[Mp,a3,Nat.reduceAdd];repeat' (first
  |(apply ai ?_;clear hK K)|apply Rx.o ?_|apply aN ?_|(apply aE (fun Z V=>?_) (fun Z V=>?_)<;>try(cases Z;done))|apply ae ?_|(apply ah fun K hK=>?_)|apply aj ?_|apply ak ?_|apply am ?_|apply ax ?_)
 refine dG [3,9,10] [] 11 x.length (fun i E H=>∃seen,H.get 0=some (.map (gC seen))/\cT [] x.flatten=cT seen (x.drop i).flatten) eE ⟨[],wV,rfl⟩ ?_;rintro i E H2 hi U S I A ⟨seen,C,J⟩;(try simp only[bL,bK,bb,aK,aW,Nat.reduceBEq,Nat.reduceAdd,Nat.reduceLeDiff,tyF, *]at U);(try simp only[bL,bK,bb,aK,aW,Nat.reduceBEq,Nat.reduceAdd,Nat.reduceLeDiff,tyF, *]at S);(try simp only[br,bG,cR,bR,Nat.reduceAdd]at I);repeat' (first
  |(apply ai ?_;clear hK K)|apply Rx.o ?_|apply aN ?_|(apply aE (fun Z V=>?_) (fun Z V=>?_)<;>try(cases Z;done))|apply ae ?_|(apply ah fun K hK=>?_)|apply aj ?_|apply ak ?_|apply am ?_|apply ax ?_)
 .have F:i<x.length:=by simpa using Z
  have hgx:x[i]?=some x[i]:=bt F;have hsm:=o _ (ek F);have Y:(x.drop i).flatten=x[i]++(x.drop (i+1)).flatten:=by rw[fR F,iI]
  rw[Y]at J;clear Y;generalize x[i]=z at *;repeat' (first
   |(apply ai ?_;clear hK K)|apply Rx.o ?_|apply aN ?_|(apply aE (fun Z V=>?_) (fun Z V=>?_)<;>try(cases Z;done))|apply ae ?_|(apply ah fun K hK=>?_)|apply aj ?_|apply ak ?_|apply am ?_|apply ax ?_)
  refine dG [3,9,10,11,15,16] [] 17 z.length (fun j E H=>∃seen,H.get 0=some (.map (gC seen))/\cT [] x.flatten=cT seen (z.drop j++(x.drop (i+1)).flatten)) eE ⟨seen,C,J⟩ ?_;clear C J seen;rintro j E3 H3 hj U S I A ⟨seen,C,J⟩;(try simp only[bL,bK,bb,aK,aW,Nat.reduceBEq,Nat.reduceAdd,Nat.reduceLeDiff,tyF, *]at U);(try simp only[bL,bK,bb,aK,aW,Nat.reduceBEq,Nat.reduceAdd,Nat.reduceLeDiff,tyF, *]at S);(try simp only[br,bG,cR,bR,Nat.reduceAdd]at I);repeat' (first
   |(apply ai ?_;clear hK K)|apply Rx.o ?_|apply aN ?_|(apply aE (fun Z V=>?_) (fun Z V=>?_)<;>try(cases Z;done))|apply ae ?_|(apply ah fun K hK=>?_)|apply aj ?_|apply ak ?_|apply am ?_|apply ax ?_)
  .have O:j<z.length:=by simpa using Z
   have hgx2:z[j]?=some z[j]:=bt O;have Y:cT seen (z.drop j++(x.drop (i+1)).flatten)=(bC seen z[j]||cT (seen++[z[j]]) (z.drop (j+1)++(x.drop (i+1)).flatten)):=by rw[fR O];rfl
   have hlk:=wZ C z[j];have hup:=Ms C z[j];repeat' (first
    |(apply ai ?_;clear hK K)|apply Rx.o ?_|apply aN ?_|(apply aE (fun Z V=>?_) (fun Z V=>?_)<;>try(cases Z;done))|apply ae ?_|(apply ah fun K hK=>?_)|apply aj ?_|apply ak ?_|apply am ?_|apply ax ?_)
   .all_goals refine qq ?_
    rw[J,Y];(try simp only[cq]at *);simp only[ *,cr,bw,bH,Int.reduceEq]
   .refine⟨aa,bM,bM,dr,LV,?_⟩;refine⟨tP seen z[j],by rw[aO,au gB],?_⟩;rw[J,Y,tP];(try simp only[cq]at *);simp only[ *,cr,bw,bH,Int.reduceEq];rfl
  .have hje:j=z.length:=by simp at Z;omega
   repeat' (first
    |(apply ai ?_;clear hK K)|apply Rx.o ?_|apply aN ?_|(apply aE (fun Z V=>?_) (fun Z V=>?_)<;>try(cases Z;done))|apply ae ?_|(apply ah fun K hK=>?_)|apply aj ?_|apply ak ?_|apply am ?_|apply ax ?_)
   refine⟨aa,bM,bM,dr,tw,?_⟩;exact⟨seen,C,by rw[J,hje,gy,jO]⟩
 .all_goals refine qq ?_
  have hie:i=x.length:=by simp at Z;omega
  rw[J,hie,gy];rfl)
def tQ(l:qo):AV:=if l=[]then .ab else cD l
def rq(H:Hp)(v:AV)(l:qo)(lo:Nat):Prop:=(v=.ab/\l=[])\/(l≠[]/\dH H v l lo)
def rq.n{l:qo}(h:rq H v l lo):em H v l lo:=h.imp id fun h=>h.2
def rq.aj{H':Hp}{l:qo}(h:rq H v l lo)(I:H.next<=H'.next)(C:∀k,dk v k->H'.get k=H.get k):rq H' v l lo:=h.imp id fun h=>⟨h.1,h.2.aj I C⟩
theorem Mt(H:Hp)(n:Nat):∀l:qo,iceL (iceV H (n+1)) (l.map .ae)=some (l.map .ae)
 |[]=>rfl
 |a::l=>by
  have:=Mt H n l;have e:iceV H (n+1) (.ae a)=some (.ae a):=rfl;simp only[el,iceL,e,this]
theorem rq.iceV{H:Hp}{v:AV}{l:qo}{lo:Nat}(h:rq H v l lo)(n:Nat):iceV H (n+2) v=some (tQ l):=by
 rcases h with⟨rfl,rfl⟩|⟨I,r,S,rfl,m,_⟩
 .rfl
 .have e:Ab.iceV H (n+2) (.sl r 0 l.length 1)=match H.get r with
   |some (.cells cs _ _)=>match iceL (Ab.iceV H (n+1)) ((cs.drop 0).take (l.length*1))with
    |some M=>if M.length=l.length*1 then some (.ai (gk 1 l.length M))else none
    |none=>none
   |_=>none:=rfl
  rw[e,m];simp only[gV,jS];rw[iR aI,Mt];simp only[ec,bw,J3];rw[tQ,ad I]
theorem Mu(n:Nat)(l:qo):bW (n+2) (tQ l)=cD l:=by
 unfold tQ;split
 .rename_i h;subst h;rfl
 .show AV.ai ((l.map fun s=>[AV.ae s]).map fun z=>z.map (bW (n+1)))=_;rw[ti];rfl
set_option maxRecDepth 100000 in
theorem Yu(p:Pr)(hz:p.sz<2^36):bJ prog ρ 122 (fB p) (.aW [cD (a7 p),cD (fG p)]):=FY (n:=3) (u5 (r:=.aW [tQ (a7 p),tQ (fG p)]) (m:=3) (cfg:=aF pls []) fit (mL ρ) (fun f args r h=>by simp[aF,dD]at h) (.cons (.agg p.pure) .nil) (by
 have hw:=eZ 122;have O:(aF pls []).aj 122=false:=rfl;have hpz:p.sz=1+ez p.af+dY p.funcs:=rfl;have hla:=lJ p.af;have hlf:=lI p.funcs;rw[fB];refine a5 (M:=38) (rs:=[.tmp 2,.tmp 3]) (hw.call _) hw.ao hw.am func122 rfl rfl Mq.2 rfl ?_;dsimp only[Mq,a3,Nat.reduceAdd];repeat' (first
  |(apply ai ?_;clear hK K)|apply Rx.o ?_|apply aN ?_|(apply aE (fun z V=>?_) (fun z V=>?_)<;>try(cases z;done))|apply ae ?_|(apply ah fun K hK=>?_)|apply aj ?_|apply ak ?_|apply am ?_|apply ax ?_)
 refine dG [1,2,3,5,11,12] [0] 13 p.af.length (fun i E H=>∃v,E.at 4=v/\rq H v ((a7 p).take i) 1) eE ⟨.ab,eE,.inl ⟨rfl,rfl⟩⟩ ?_;rintro i E I hi A Y j hsI ⟨v,kK,hv⟩;(try simp only[bL,bK,bb,aK,aW,Nat.reduceBEq,Nat.reduceAdd,Nat.reduceLeDiff,tyF, *]at A);(try simp only[bL,bK,bb,aK,aW,Nat.reduceBEq,Nat.reduceAdd,Nat.reduceLeDiff,tyF, *]at Y);(try simp only[br,bG,cR,bR,Nat.reduceAdd]at j);have hB0:(0 == I.next)=false:=ay aa;have hC0:(I.next == 0)=false:=ay aa;repeat' (first
  |(apply ai ?_;clear hK K)|apply Rx.o ?_|apply aN ?_|(apply aE (fun z V=>?_) (fun z V=>?_)<;>try(cases z;done))|apply ae ?_|(apply ah fun K hK=>?_)|apply aj ?_|apply ak ?_|apply am ?_|apply ax ?_)
 .have hlt:i<p.af.length:=by simpa using z
  have hgx:p.af[i]?=some p.af[i]:=bt hlt;have U:(a7 p).take (i+1)=(a7 p).take i++[p.af[i].name]:=by rw[a7,pJ,ev,hgx];rfl
  repeat' (first
   |(apply ai ?_;clear hK K)|apply Rx.o ?_|apply aN ?_|(apply aE (fun z V=>?_) (fun z V=>?_)<;>try(cases z;done))|apply ae ?_|(apply ah fun K hK=>?_)|apply aj ?_|apply ak ?_|apply am ?_|apply ax ?_)
  generalize J:Hp.alloc (Hp.set _ _ _) _=o;have nb:o.next=I.next+2:=tM
  have Z:∀k,k<I.next->o.get k=I.get k:=fun k S=>FU
  have gb:o.get (I.next+1)=some (.cells [.ae p.af[i].name] 0 true):=by rw[<-J,aP,au gB]
  clear J;have hvb:em o v ((a7 p).take i) 1:=hv.n.aj aa fun k S=>Z k (hv.n.lt S).2;obtain⟨v5,H5,dt,s5,n5,f5,o5⟩:=wG (r:=I.next+1) (imm:=0) p.af[i].name hvb aa gb ce;have n5':o.next<=H5.next:=aa
  clear n5;have g50:H5.get 0=some (.cells p.cells 0 true):=by rw[f5 0 aa,Z 0 aa];exact Y
  refine jF dK dK BT ?_;repeat' (first
   |(apply ai ?_;clear hK K)|apply Rx.o ?_|apply aN ?_|(apply aE (fun z V=>?_) (fun z V=>?_)<;>try(cases z;done))|apply ae ?_|(apply ah fun K hK=>?_)|apply aj ?_|apply ak ?_|apply am ?_|apply ax ?_)
  refine⟨aa,bM,bM,dr,vd,?_⟩;exact⟨v5,eE,.inr ⟨by rw[U];simp,by rw[U];exact s5⟩⟩
 .have hie:i=p.af.length:=by simp at z;omega
  have F:(a7 p).take i=a7 p:=iR (by simp[a7];omega);rw[F]at hv;clear F hie hsI hi;repeat' (first
   |(apply ai ?_;clear hK K)|apply Rx.o ?_|apply aN ?_|(apply aE (fun z V=>?_) (fun z V=>?_)<;>try(cases z;done))|apply ae ?_|(apply ah fun K hK=>?_)|apply aj ?_|apply ak ?_|apply am ?_|apply ax ?_)
  have c3:∀k,dk v k->k<I.next:=fun k S=>(hv.n.lt S).2
  refine dG [2,3,4,24,25] [0] 26 p.funcs.length (fun i E H=>∃u,E.at 5=u/\rq H u ((fG p).take i) I.next/\rq H v (a7 p) 1) eE ⟨.ab,eE,.inl ⟨rfl,rfl⟩,hv⟩ ?_;rintro i E C hi A Y j hsI ⟨u,sM,hu,hv3⟩;(try simp only[bL,bK,bb,aK,aW,Nat.reduceBEq,Nat.reduceAdd,Nat.reduceLeDiff,tyF, *]at A);(try simp only[bL,bK,bb,aK,aW,Nat.reduceBEq,Nat.reduceAdd,Nat.reduceLeDiff,tyF, *]at Y);(try simp only[br,bG,cR,bR,Nat.reduceAdd]at j);have hB0:(0 == C.next)=false:=ay aa;have hC0:(C.next == 0)=false:=ay aa;repeat' (first
   |(apply ai ?_;clear hK K)|apply Rx.o ?_|apply aN ?_|(apply aE (fun z V=>?_) (fun z V=>?_)<;>try(cases z;done))|apply ae ?_|(apply ah fun K hK=>?_)|apply aj ?_|apply ak ?_|apply am ?_|apply ax ?_)
  .have hlt:i<p.funcs.length:=by simpa using z
   have hgx:p.funcs[i]?=some p.funcs[i]:=bt hlt;have U:(fG p).take (i+1)=(fG p).take i++[p.funcs[i].name]:=by rw[fG,pJ,ev,hgx];rfl
   repeat' (first
    |(apply ai ?_;clear hK K)|apply Rx.o ?_|apply aN ?_|(apply aE (fun z V=>?_) (fun z V=>?_)<;>try(cases z;done))|apply ae ?_|(apply ah fun K hK=>?_)|apply aj ?_|apply ak ?_|apply am ?_|apply ax ?_)
   generalize J:Hp.alloc (Hp.set _ _ _) _=o;have nb:o.next=C.next+2:=tM
   have Z:∀k,k<C.next->o.get k=C.get k:=fun k S=>FU
   have gb:o.get (C.next+1)=some (.cells [.ae p.funcs[i].name] 0 true):=by rw[<-J,aP,au gB]
   clear J;have hub:em o u ((fG p).take i) I.next:=hu.n.aj aa fun k S=>Z k (hu.n.lt S).2
   obtain⟨v5,H5,dt,s5,n5,f5,o5⟩:=wG (r:=C.next+1) (imm:=0) p.funcs[i].name hub aa gb ce;have n5':o.next<=H5.next:=aa
   clear n5;have g50:H5.get 0=some (.cells p.cells 0 true):=by rw[f5 0 aa,Z 0 aa];exact Y
   refine jF dK dK BT ?_;repeat' (first
    |(apply ai ?_;clear hK K)|apply Rx.o ?_|apply aN ?_|(apply aE (fun z V=>?_) (fun z V=>?_)<;>try(cases z;done))|apply ae ?_|(apply ah fun K hK=>?_)|apply aj ?_|apply ak ?_|apply am ?_|apply ax ?_)
   refine⟨aa,bM,bM,dr,o0,?_⟩;exact⟨v5,eE,.inr ⟨by rw[U];simp,by rw[U];exact s5⟩,hv3.aj aa fun k S=>by rw[f5 k (c3 k S),Z k (by have:=c3 k S;omega)]⟩
  .have hie:i=p.funcs.length:=by simp at z;omega
   have F:(fG p).take i=fG p:=iR (by simp[fG];omega);rw[F]at hu;repeat' (first
    |(apply ai ?_;clear hK K)|apply Rx.o ?_|apply aN ?_|(apply aE (fun z V=>?_) (fun z V=>?_)<;>try(cases z;done))|apply ae ?_|(apply ah fun K hK=>?_)|apply aj ?_|apply ak ?_|apply am ?_|apply ax ?_)
   all_goals refine qq ?_
   have e1:=hv3.iceV (n:=0);have e2:=hu.iceV (n:=0);show(match iceL (iceV C 2) [v,u]with|some ds=>some (AV.aW ds)|none=>none)=_;simp only[iceL,e1,e2])) (by
 show AV.aW [bW 2 (tQ (a7 p)),bW 2 (tQ (fG p))]=_;rw[Mu,Mu])
noncomputable def F3:En:=⟨122,false,bS (fun p=>p.sz<2^36) fB fun p=>.aW [cD (a7 p),cD (fG p)]⟩
def Mv:cS prog ρ F3:=cZ fun p hp=>Yu ρ p hp
noncomputable def F4:En:=⟨123,true,bS Ct rp fun x=>.bool (cT [] x.flatten)⟩
def Yv:cS prog ρ F4:=cZ fun x hx=>Yt ρ x hx
theorem Mw(x:List qo):(x.map fun l=>[cD l]).flatten=x.map cD:=by
 induction x with
 |nil=>rfl
 |cons a l ih=>simp[ih]
def Yw{imm:Nat}(C:H.get r=some (.cells (x.map cD) imm true))(hr:r<H.next)(F:imm<=x.length):
 ∃H',fW (eP 100) [.sl r 0 x.length 1] H=some (rp x,H')/\Icy (fun k=>k=r) H H':=by
 refine cV.iceL (S:=fun k=>k=r) (n:=100) (m:=rp x) ⟨?_,trivial⟩;have h:=cV.rows (S:=fun k=>k=r) (n:=99) (H:=H) (r:=r) (z:=1) (imm:=imm) (tip:=true) (a:=x.map fun l=>[cD l]) (b:=x.map fun l=>[cD l]) rfl hr (by rw[Mw];exact C) (by rw[Mw];simpa using F) aI (cP.refl fun a V=>cP.refl fun c hc=>by
  obtain⟨l,_,rfl⟩:=l3.1 V;rw[wW]at hc;subst hc;exact vy ⟨tq l,trivial⟩)
 rw[ec]at h;exact h
def F5{l:qu}(K:∀I,dD l 123 I=F4.sp I)(F:ir l 123=true){imm:Nat}(C:H.get r=some (.cells (x.map cD) imm true))(hr:r<H.next)(U:imm<=x.length)(O:Ct x):
 aU prog (aF pls l) 123 [.sl r 0 x.length 1] H fun v H'=>v=.bool (cT [] x.flatten)/\Icy (fun k=>k=r) H H':=by
 obtain⟨H',j,m⟩:=Yw C hr U;refine a4 ?_ (Bu (enc:=rp) (out:=fun x=>.bool (cT [] x.flatten)) Yr (x:=x) K F O (H':=H') (fun y _ e=>by simp[rp]at e) j);rintro v _ ⟨rfl,rfl⟩;exact⟨rfl,m⟩
def F6(H:Hp)(a:List qm):dc prog H 228 1 [(0,.ai a)]=some (.sl H.next 0 1 1,H.alloc (.cells [.ai a] 0 true)):=aA
def Yx(H:Hp)(a b:List qm):dc prog H 228 2 [(0,.ai a),(1,.ai b)]=some (.sl H.next 0 2 1,H.alloc (.cells [.ai a,.ai b] 0 true)):=aA
def Yy(H:Hp)(a b c:List qm):dc prog H 228 3 [(0,.ai a),(1,.ai b),(2,.ai c)]=some (.sl H.next 0 3 1,H.alloc (.cells [.ai a,.ai b,.ai c] 0 true)):=aA
noncomputable def F7:qu:=[F3,F4]
def Yz:eU prog ρ F7:=⟨Mv ρ,Yv ρ,trivial⟩
set_option maxRecDepth 100000 in
theorem YA(p:Pr)(hz:p.sz<2^36):bJ prog ρ 72 (fB p) (.bool (ox p)):=eG fit (pls:=pls) (Yz ρ) (.cons (.agg p.pure) .nil) (.bool _) (by
 have A:zc7 (aF pls F7) 72:=dZ (fun _=>rfl) rfl;have kd:∀H,aU prog (aF pls F7) 122 [.agg p.cells] H fun v H'=>v=.aW [cD (a7 p),cD (fG p)]/\H'=H:=fun H=>cp (enc:=fB) (out:=fun p=>.aW [cD (a7 p),cD (fG p)]) pi (x:=p) rfl hz;have hpz:p.sz=1+ez p.af+dY p.funcs:=rfl;have hla:=lJ p.af;have hlf:=lI p.funcs;have hal:(a7 p).length=p.af.length:=tE;have hfl:(fG p).length=p.funcs.length:=by simp[fG]
 have hx0:∀a b,Ab.extract (.aW [a,b]) 0=some a:=fun _ _=>rfl;have hx1:∀a b,Ab.extract (.aW [a,b]) 1=some b:=fun _ _=>rfl;rw[fB];refine a5 (M:=35) (rs:=[.tmp 2]) (A.call _) A.ao A.am func72 rfl rfl Mr.2 rfl ?_;dsimp only[Mr,a3,Nat.reduceAdd];have S:=@F6;repeat' (first
  |(apply ai ?_;clear hK K)|apply Rx.o ?_|apply aN ?_|(apply dJ ?_;first|refine aY (kd _) ?_)|(apply aX (fun C Y=>?_) (fun C Y=>?_)<;>try(cases C;done))|(apply aE (fun z V=>?_) (fun z V=>?_)<;>try(cases z;done))|apply ae ?_|(apply ah fun K hK=>?_)|apply aj ?_|apply ak ?_|apply am ?_|apply ax ?_)
 refine qa ?_;refine a4 ?_ (F5 (x:=[a7 p]) (imm:=0) (fun _=>rfl) rfl wV (dq _) aI ⟨aI,ce⟩);rintro v H2 ⟨rfl,hy⟩;have n2:=hy.next
 simp only[br,cR]at n2;have o:H2.get 0=some (.cells p.cells 0 true):=by rw[hy.out 0 aI,aP,ad aI,aP,au gB]
 have n2':2<=H2.next:=aa
 clear hy n2;rw[show([a7 p]:List qo).flatten=a7 p by simp];dsimp only[a0];have S:=@F6;repeat' (first
  |(apply ai ?_;clear hK K)|apply Rx.o ?_|apply aN ?_|(apply aX (fun C Y=>?_) (fun C Y=>?_)<;>try(cases C;done))|(apply aE (fun z V=>?_) (fun z V=>?_)<;>try(cases z;done))|apply ae ?_|(apply ah fun K hK=>?_)|apply aj ?_|apply ak ?_|apply am ?_|apply ax ?_)
 .refine qa ?_;refine a4 ?_ (F5 (x:=[fG p]) (imm:=0) (fun _=>rfl) rfl wV (dq _) aI ⟨aI,ce⟩);rintro v H3 ⟨rfl,hy⟩;have n3:=hy.next
  simp only[br]at n3;have g30:H3.get 0=some (.cells p.cells 0 true):=by rw[hy.out 0 aa,aP,ad aa];exact o
  have n3':2<=H3.next:=aa
  clear hy n3;rw[show([fG p]:List qo).flatten=fG p by simp];dsimp only[a0];repeat' (first
   |(apply ai ?_;clear hK K)|apply Rx.o ?_|apply aN ?_|(apply aX (fun C Y=>?_) (fun C Y=>?_)<;>try(cases C;done))|(apply aE (fun z V=>?_) (fun z V=>?_)<;>try(cases z;done))|apply ae ?_|(apply ah fun K hK=>?_)|apply aj ?_|apply ak ?_|apply am ?_|apply ax ?_)
  .all_goals refine qq ?_
   rw[ox];(try simp only[cq]at *);simp only[ *,cr,bw,bH,Int.reduceEq]
  .refine dG [3,21,22] [0] 23 p.funcs.length (fun i E H=>(p.funcs.any fun f=>cT [] (a7 p++(f.params++f.ah)))=((p.funcs.drop i).any fun f=>cT [] (a7 p++(f.params++f.ah)))) eE aI ?_;rintro i E O hi I U F hsI J;(try simp only[bL,bK,bb,aK,aW,Nat.reduceBEq,Nat.reduceAdd,Nat.reduceLeDiff,tyF, *]at I);(try simp only[bL,bK,bb,aK,aW,Nat.reduceBEq,Nat.reduceAdd,Nat.reduceLeDiff,tyF, *]at U);(try simp only[br,bG,cR,bR,Nat.reduceAdd]at F);have hB0:(0 == O.next)=false:=ay aa;have hC0:(O.next == 0)=false:=ay aa;repeat' (first
    |(apply ai ?_;clear hK K)|apply Rx.o ?_|apply aN ?_|(apply aX (fun C Y=>?_) (fun C Y=>?_)<;>try(cases C;done))|(apply aE (fun z V=>?_) (fun z V=>?_)<;>try(cases z;done))|apply ae ?_|(apply ah fun K hK=>?_)|apply aj ?_|apply ak ?_|apply am ?_|apply ax ?_)
   .have Z:i<p.funcs.length:=by simpa using z
    have hgx:p.funcs[i]?=some p.funcs[i]:=bt Z;have hsm:=nX (ek Z);have hsz:p.funcs[i].sz=1+p.funcs[i].name.length+db p.funcs[i].params+db p.funcs[i].ah+a6 p.funcs[i].body+p.funcs[i].value.sz:=rfl;have hpl:=ig p.funcs[i].params;have hll:=ig p.funcs[i].ah;have j:((p.funcs.drop i).any fun f=>cT [] (a7 p++(f.params++f.ah)))=(cT [] (a7 p++(p.funcs[i].params++p.funcs[i].ah))||((p.funcs.drop (i+1)).any fun f=>cT [] (a7 p++(f.params++f.ah)))):=E5;have S:=@Yy;repeat' (first
     |(apply ai ?_;clear hK K)|apply Rx.o ?_|apply aN ?_|(apply aX (fun C Y=>?_) (fun C Y=>?_)<;>try(cases C;done))|(apply aE (fun z V=>?_) (fun z V=>?_)<;>try(cases z;done))|apply ae ?_|(apply ah fun K hK=>?_)|apply aj ?_|apply ak ?_|apply am ?_|apply ax ?_)
    refine qa ?_;refine a4 ?_ (F5 (x:=[a7 p,p.funcs[i].params,p.funcs[i].ah]) (imm:=0) (fun _=>rfl) rfl wV (dq _) aI ⟨aI,ce⟩);rintro v H5 ⟨rfl,hy⟩;have n5:=hy.next
    simp only[br,bG]at n5;have g50:H5.get 0=some (.cells p.cells 0 true):=by rw[hy.out 0 (by intro e;change (0:Nat)=_ at e;(try simp only[bG,br]at e);omega),aP,ad (by(try simp only[bG,br]);omega),aO,ad aa,aP,ad aa];exact U
    have n5':O.next<=H5.next:=aa
    clear hy n5;rw[show([a7 p,p.funcs[i].params,p.funcs[i].ah]:List qo).flatten=a7 p++(p.funcs[i].params++p.funcs[i].ah) by simp];dsimp only[a0];repeat' (first
     |(apply ai ?_;clear hK K)|apply Rx.o ?_|apply aN ?_|(apply aX (fun C Y=>?_) (fun C Y=>?_)<;>try(cases C;done))|(apply aE (fun z V=>?_) (fun z V=>?_)<;>try(cases z;done))|apply ae ?_|(apply ah fun K hK=>?_)|apply aj ?_|apply ak ?_|apply am ?_|apply ax ?_)
    .all_goals refine qq ?_
     rw[ox,J,j];(try simp only[cq]at *);simp only[ *,cr,bw,bH,Int.reduceEq]
    .refine⟨aa,bM,bM,dr,o0,?_⟩;rw[J,j];(try simp only[cq]at *);simp only[ *,cr,bw,bH,Int.reduceEq]
   .all_goals refine qq ?_
    have m:i=p.funcs.length:=r3;rw[m,gy]at J;have hJ2:(p.funcs.any fun f=>cT [] (a7 p++(f.params++f.ah)))=false:=J;rw[ox,hJ2];(try simp only[cq]at *);simp only[ *,cr,bw,bH,Int.reduceEq]
 .repeat' (first
   |(apply ai ?_;clear hK K)|apply Rx.o ?_|apply aN ?_|(apply aX (fun C Y=>?_) (fun C Y=>?_)<;>try(cases C;done))|(apply aE (fun z V=>?_) (fun z V=>?_)<;>try(cases z;done))|apply ae ?_|(apply ah fun K hK=>?_)|apply aj ?_|apply ak ?_|apply am ?_|apply ax ?_)
  all_goals refine qq ?_
  rw[ox];(try simp only[cq]at *);simp only[ *,cr,bw,bH,Int.reduceEq])
end
section
structure Bd where
 l:List Nd
 vars:qp
 e0:Int
 loops:Nat
structure Cx where
 af:List Ar
 funcs:qG
 e8:List aS
section
variable (c:Cx)
end
structure NdR (n:Nd):Prop where
 op:0<=n.op/\n.op<256
 cu:-9223372036854775808<=n.cu/\n.cu<9223372036854775808
 ak:∀k∈n.ak,0<=k/\k<2^60
 len:n.ak.length<2^30
def tyG1.tyF:=ac @cI (ac @dF (ac @jH (ac @cY (ac @dW (ac @A9 (@oV))))))
open tyG1
noncomputable def My:{c:SC // aG 14 (f25.body.getD .skip)=c}:=by
 refine⟨?_,?_⟩;rotate_left
 .simp only[f25,bE,aG,bz,bq,bF,bB,Nat.blt,Nat.ble];rfl
noncomputable def Mz:{c:SC // aG 25 (f27.body.getD .skip)=c}:=by
 refine⟨?_,?_⟩;rotate_left
 .simp only[f27,bE,aG,bz,bq,bF,bB,Nat.blt,Nat.ble];rfl
noncomputable def MA:{c:SC // aG 7 (f59.body.getD .skip)=c}:=by
 refine⟨?_,?_⟩;rotate_left
 .simp only[f59,bE,aG,bz,bq,bF,bB,Nat.blt,Nat.ble];rfl
def aZ(n m:Int):Int:=if n.tmod m<0 then bA (n.tmod m+m)else n.tmod m
def fb{n m:Int}(h:0<m)(h2:m<2^62):0<=aZ n m/\aZ n m<m:=by
 unfold aZ;have A:=vx n h;have O:-m<n.tmod m:=by
  have:=vx (-n) h;rw[Int.neg_tmod]at this;omega
 split
 .unfold bA;rw[x9 _ aa];omega
 .omega
def m7(x:Int×Int):qm:=[.int .i64 x.1,.int .i64 x.2]
def Cu(x y:Int×Int)(h:m7 x=m7 y):x=y:=by
 simp only[m7,ew,AV.int.injEq,iw]at h;exact pc h.1 h.2
theorem YB(x:Int×Int)(O:x.2≠0):bJ prog ρ 25 (m7 x) (.int .i64 (aZ x.1 x.2)):=eG fit (pls:=pls) (l:=[]) trivial (.cons (.int _ _) (.cons (.int _ _) .nil)) (.int _ _) (by
 have J:=eZ 25;obtain⟨n,m⟩:=x;rw[m7];simp only[]at O⊢;refine a5 (M:=14) (rs:=[.tmp 4]) (J.call _) J.ao J.am func25 rfl rfl My.2 rfl ?_;dsimp only[My,a3,Nat.reduceAdd];repeat' (first
  |(apply ai ?_;clear hK K)|apply Rx.o ?_|(apply aE (fun z V=>?_) (fun z V=>?_)<;>try(cases z;done))|apply ae ?_|(apply ah fun K hK=>?_)|apply ak ?_|apply am ?_)
 all_goals refine qq ?_
 all_goals (simp_all[aZ];try omega))
noncomputable def pp:En:=⟨25,false,bS (fun x=>x.2≠0) m7 fun x=>.int .i64 (aZ x.1 x.2)⟩
def w1:cS prog ρ pp:=cZ fun x hx=>YB ρ x hx
def iC{l:qu}(K:∀I,dD l 25 I=pp.sp I)(n m:Int)(M:m≠0)(H:Hp):aU prog (aF pls l) 25 [.int .i64 n,.int .i64 m] H fun v H'=>v=.int .i64 (aZ n m)/\H'=H:=
 cp (enc:=m7) (ok:=fun x=>x.2≠0) (out:=fun x=>.int .i64 (aZ x.1 x.2)) Cu (x:=(n,m)) (K _) M
def tR:qp:=[0,1,-1,2,-9223372036854775808,9223372036854775807,4294967296,-2147483648,63,64]
def hC(n j:Int):Int:=if aZ n 24<10 then tR.getD (aZ n 24).toNat 0 else if aZ n 24<22 then bA (aZ (bA (n.tdiv 24)) 17-6)else j
def YC(H:Hp):dc prog H 27 10 [(0,.int .i64 0),(1,.int .i64 1),(2,.int .i64 (-1)),(3,.int .i64 2),(4,.int .i64 (-9223372036854775808)),(5,.int .i64 9223372036854775807),(6,.int .i64 4294967296),(7,.int .i64 (-2147483648)),(8,.int .i64 63),(9,.int .i64 64)]=some (.sl H.next 0 10 1,H.alloc (.cells (tR.map fun n=>.int .i64 n) 0 true)):=aA
def YD(x:Int×Int):bJ prog ρ 27 (m7 x) (.int .i64 (hC x.1 x.2)):=eG fit (pls:=pls) (l:=[pp]) ⟨w1 ρ,trivial⟩ (.cons (.int _ _) (.cons (.int _ _) .nil)) (.int _ _) (by
 have J:zc7 (aF pls [pp]) 27:=dZ (fun _=>rfl) rfl;obtain⟨n,m⟩:=x;have hr:=fb (n:=n) (m:=24) aa aa;have hp:0<=aZ n 24:=hr.1;rw[m7];simp only[];have F:(24:Int)≠0:=cy;refine a5 (M:=25) (rs:=[.tmp 4]) (J.call _) J.ao J.am func27 rfl rfl Mz.2 rfl ?_;dsimp only[Mz,a3,Nat.reduceAdd];have Y:=@YC;repeat' (first
  |(apply ai ?_;clear hK K)|apply Rx.o ?_|(apply dJ ?_;first|refine aY (iC (fun _=>rfl) _ _ cy _) ?_)|(apply aE (fun Z V=>?_) (fun Z V=>?_)<;>try(cases Z;done))|apply ae ?_|(apply ah fun K hK=>?_)|apply aj ?_|apply ak ?_|apply am ?_)
 .have z:(aZ n 24).toNat<10:=by omega
  have C:tR[(aZ n 24).toNat]?=some (tR.getD (aZ n 24).toNat 0):=by
   rw[iY,bt (by simpa [tR]using z)];rfl
  repeat' (first
   |(apply ai ?_;clear hK K)|apply Ry.o ?_|apply ae ?_|(apply ah fun K hK=>?_)|apply aj ?_|apply ak ?_|apply am ?_)
  all_goals refine qq ?_
  rw[hC,au jh]
 .all_goals refine qq ?_
  rw[hC,ad jh,au jh]
 .all_goals refine qq ?_
  rw[hC,ad jh,ad jh])
noncomputable def tS:En:=⟨27,false,bS (fun _=>True) m7 fun x=>.int .i64 (hC x.1 x.2)⟩
def F8:cS prog ρ tS:=cZ fun x hx=>YD ρ x
def MB{l:qu}(K:∀I,dD l 27 I=tS.sp I)(n m:Int)(H:Hp):aU prog (aF pls l) 27 [.int .i64 n,.int .i64 m] H fun v H'=>v=.int .i64 (hC n m)/\H'=H:=
 cp (enc:=m7) (ok:=fun _=>True) (out:=fun x=>.int .i64 (hC x.1 x.2)) Cu (x:=(n,m)) (K _) trivial
def co(f:Int):qo:=if f=0 then [[120],[121],[105],[106]]else [[110],[105]]
def su(f:Int):(co f).length=4\/(co f).length=2:=by unfold co;split<;>simp
def YE(H:Hp)(a b c d:qr):dc prog H 66 4 [(0,.ae a),(1,.ae b),(2,.ae c),(3,.ae d)]=some (.sl H.next 0 4 1,H.alloc (.cells [.ae a,.ae b,.ae c,.ae d] 0 true)):=aA
def zh(H:Hp)(a b:qr):dc prog H 66 2 [(0,.ae a),(1,.ae b)]=some (.sl H.next 0 2 1,H.alloc (.cells [.ae a,.ae b] 0 true)):=aA
theorem YF(f:Int):bJ prog ρ 59 [.int .i64 f] (cD (co f)):=u5 (m:=3) (cfg:=aF pls []) fit (mL ρ) (fun f j r h=>by simp[aF,dD]at h) (.cons (.int _ _) .nil) (by
 have J:=eZ 59;refine a5 (M:=7) (rs:=[.tmp 2]) (J.call _) J.ao J.am func59 rfl rfl MA.2 rfl ?_;dsimp only[MA,a3,Nat.reduceAdd];have Z:=@YE;have Y:=@zh;repeat' (first
  |(apply ai ?_;clear hK K)|apply Rx.o ?_|(apply aE (fun z V=>?_) (fun z V=>?_)<;>try(cases z;done))|apply ae ?_|(apply ah fun K hK=>?_)|apply ak ?_|apply am ?_)
 .all_goals refine qq ?_
  rw[co,au jh];rfl
 .all_goals refine qq ?_
  rw[co,ad jh];rfl)
noncomputable def zi:En:=⟨59,false,bS (fun _=>True) (fun n:Int=>[.int .i64 n]) fun f=>cD (co f)⟩
def MC:cS prog ρ zi:=cZ fun x hx=>YF ρ x
def MD{l:qu}(K:∀I,dD l 59 I=zi.sp I)(f:Int)(H:Hp):aU prog (aF pls l) 59 [.int .i64 f] H fun v H'=>v=cD (co f)/\H'=H:=
 cp (enc:=fun n:Int=>[.int .i64 n]) (ok:=fun _=>True) (out:=fun f=>cD (co f)) Fw (x:=f) (K _) trivial
end
end Go.Proofs.YtbflaciihaijgaaGreat
