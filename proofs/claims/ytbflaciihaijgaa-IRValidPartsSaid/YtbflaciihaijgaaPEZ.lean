/-
  The Go function fullinglaw7.IRValidParts returns true whatever its three arguments are, and leaves all memory that was there as it was. Conditions: none.
-/
import Derived.OpenShut
import Derived.ProofKit
import Derived.Test.YtbflaciihaijgaaPES
import Derived.WalkKit
set_option linter.all false
set_option maxHeartbeats 32000000
namespace Go.Ab
set_option maxRecDepth 20000
open Go
variable{qd:Prop}
def Ej(h:qd:=by simp only[List.all_cons,List.all_nil,v2];rfl):=h
def So(h:qd:=by rw[pS,w3];exact(gG Try.underlying3 rfl _ _).trans y4):=h
def Sp(h:qd:=by rw[pS,w3];exact(gG Try.underlying2 rfl _ _).trans y5):=h
def Ek(h:qd:=by rw[Hp.get_set,if_neg (hne k ac)]):=h
def Sq(h:qd:=by simp only[aF,Nat.reduceBEq, *];exact gQ (n:=f.ag.length) ac ac):=h
def Sr(h:qd:=by rw[List.take_of_length_le ac];exact C):=h
def El:=@Go.trodAll_cons_mk
end Go.Ab
namespace Go.Proofs.Ytbflaciihaijgaa.irValidParts
set_option maxRecDepth 20000
open Go Go.Ab Proofs.Try
def tyIRValidParts.tyF:=ad @ez (ad @cR (ad @vz (ad @dt (ad @fP (ad @gH (ad @sC (ad @sD (ad @iU (ad @vB (ad @ol (ad @tL (ad @zbK (ad @UA (@underlying4))))))))))))))
open tyIRValidParts Go.ChangeShapes Go.WideShapes Go.ChangeAt Go.RowKit
def own:ownKnob prog.godebug=none:=aG
noncomputable def Ss:{c:SC // aI 128 (f3.body.getD .skip)=c}:=by
 refine⟨?_,?_⟩;rotate_left
 .simp only[f3,bS,aI,bM,bI,bT,bU,Nat.blt,Nat.ble];rfl
noncomputable def Su:En:=⟨9,false,fun C=>u5 knIEx.list 9 C⟩
def zfM(ρ:Nat->Int):cT prog ρ Su:=fun C r hr=>BN (knIEx.ok ρ) _ C r hr
noncomputable def mV:qA:=[D3,rL DU,xM,I0,wm,rL IQ,Su]
def zfN(ρ:Nat->Int):gm prog ρ mV:=⟨zei ρ,CL (zdv ρ),Hv ρ,zfC ρ,HP ρ,CL (ze7 ρ),zfM ρ,trivial⟩
theorem zfO:KuT mV where
 tozd5:=zd5.of (fun e j=>by
  simp only[mV,kK]at j;rcases j with rfl|rfl|rfl|rfl|rfl|rfl|rfl<;>rfl) (fun _=>rfl) rfl (fun _=>rfl)
 ck:=fun _=>rfl
 lo:=dG (fun _=>rfl) rfl
 un:=dG (fun _=>rfl) rfl
 pr:=fun _=>rfl
theorem rq(H:Hp):aY prog (aH pls mV) 9 [] H fun v H'=>v=.bool true/\H'=H:=Ct rfl
set_option maxRecDepth 100000 in
theorem law(l:qu)(which f0:Int)(hl:l.length<2^63)(hL:ib l):
 aY prog (aH pls mV) 3 [pH l,.int .i64 which,.int .i64 f0] bY fun v _=>v=.bool true:=by
 have hw:zd0 (aH pls mV) 3:=dG (fun _=>rfl) rfl;have hkeep:(aH pls mV).keep 3=false:=rfl;obtain⟨f,g,hu,hf1,hg1,hf2,hg2,hf3,hg3,hf4,hg4,I,huo,_,_⟩:=zfG hL;have k4:=ll (n:=which) (m:=4) ac ac;have k2:=ll (n:=f0) (m:=2) ac ac;have kk:=fun n m hm H=>wn (l:=mV) (fun _=>rfl) n m hm H;refine bF (M:=128) (rs:=[.tmp 6]) (hw.call _) hw.aD hw.aq func3 rfl rfl Ss.2 rfl ?_;dsimp only[Ss,bA,Nat.reduceAdd];repeat' (first
  |(apply aj ?_;clear hK K)|apply Rx.o ?_|apply ah ?_|(apply ai fun K hK=>?_)|(apply au 4 [(1,3),(1,6)] fun K hK=>?_)|(apply au 19 [(4,12),(4,16),(8,12),(8,16),(14,16),(15,16)] fun K hK=>?_)|(apply au 21 [(4,11),(8,11),(10,11)] fun K hK=>?_)|(apply aS ?_;try intro _)|(apply aT ?_ ?_<;>clear hK K)|apply aR ?_|apply bD rfl ?_|apply ak ?_|apply am ?_|apply aq ?_|apply aw ?_)
 refine qc ?_;refine bb ?_ (zfF zfO l hl hL _);rintro v H2 ⟨av,fv,m,pt,lvs,rfl,hU⟩;rw[hu]at hU I huo;generalize nX (l.take 60)=ar at *;obtain⟨z,lg,rfl⟩:∃z lg,lvs=[z,lg]:=by
  have hl:=hU.fs.len
  match lvs,hl with
  |[a,b],_=>exact⟨a,b,rfl⟩
 rcases hU.fs.own with⟨_,e⟩|⟨q,(rfl:fv=.sl q 0 2 5),hq1,hq2,hq3,hq⟩
 .cases e
 have hlf:=hU.fs.nd 0 f z rfl rfl;have hlg:=hU.fs.nd 1 g lg rfl rfl;have hqL:H2.get q=some (.cells [.ai f.name,.int .i64 f.params,z,.int .i64 f.value,.int .i64 f.ab,.ai g.name,.int .i64 g.params,lg,.int .i64 g.value,.int .i64 g.ab] 0 true):=hq;obtain⟨lf1,lf2⟩:=hlf.one;obtain⟨lg1,lg2⟩:=hlg.one;obtain⟨ha1,ha2⟩:=hU.ar.one;have har:ec (fun k=>k<m) 2 H2 av (.ao (ar.map Ar.cells)):=hU.ar.rd.keep (fun k V=>V.2) (aO _) fun _ _ _=>rfl;have hlenf:∀H',ij prog H' 30 z=some (.int .i64 f.ag.length):=fun H'=>by have:=hlf.len (H':=H') underlying30;rwa [dx]at this
 have hleng:∀H',ij prog H' 30 lg=some (.int .i64 g.ag.length):=fun H'=>by have:=hlg.len (H':=H') underlying30;rwa [dx]at this
 have hlo:0<=m:=dN _;have ag0:cQ 2 [av,.sl q 0 2 5]=some (.agg [av,.sl q 0 2 5]):=rfl;clear hq hU;dsimp only[aZ];repeat' (first
  |(apply aj ?_;clear hK K)|apply Ry.o ?_|apply b8 ?_|(apply ct (fun J Z=>?_) (fun J Z=>?_)<;>try(cases J;done))|(apply bq (fun L Y=>?_) (fun L Y=>?_)<;>try(cases L;done))|apply ah ?_|(apply ai fun K hK=>?_)|(apply au 4 [(1,3),(1,6)] fun K hK=>?_)|(apply au 19 [(4,12),(4,16),(8,12),(8,16),(14,16),(15,16)] fun K hK=>?_)|(apply au 21 [(4,11),(8,11),(10,11)] fun K hK=>?_)|(apply aS ?_;try intro _)|(apply aT ?_ ?_<;>clear hK K)|apply aR ?_|apply bD rfl ?_|apply ak ?_|apply am ?_|apply aq ?_|apply aw ?_)
 generalize hHc:(H2.alloc qf).set H2.next (.cells [av,.sl q 0 2 5] 0 true)=Hc
 have nc:H2.next+1<=Hc.next:=by rw[<-hHc];exact aO _
 have gc7:Hc.get H2.next=some (.cells [av,.sl q 0 2 5] 0 true):=by rw[<-hHc,a1,ay rfl]
 have oldc:∀k,k<H2.next->Hc.get k=H2.get k:=fun k V=>by rw[<-hHc,a1,af ac,aQ,af ac]
 clear hHc;have gcq:=(oldc q ac).trans hqL;have har1:ec (fun k=>k<m) 4 Hc av (.ao (ar.map Ar.cells)):=(har.aR (S':=fun k=>k<m) (fun k _ U=>U) ac fun k V _=>oldc k ac).up ac;have hSf:dQ (fun k=>m<=k/\pt k=1/\k<H2.next) 2 Hc 3 z (f.ag.map Nd.cells):=hlf.keep (fun k O U=>⟨U.1,U.2,O⟩) ac fun k _ V=>oldc k V;have hSg:dQ (fun k=>m<=k/\pt k=2/\k<H2.next) 2 Hc 3 lg (g.ag.map Nd.cells):=hlg.keep (fun k O U=>⟨U.1,U.2,O⟩) ac fun k _ V=>oldc k V;have kA:∀Hz:Hp,Hc.next<=Hz.next->(∀k,k<m->Hz.get k=Hc.get k)->ec (fun _=>True) 5 Hz av (.ao (ar.map Ar.cells)):=fun Hz O U=>(har1.aR (S':=fun _=>True) (fun _ _ _=>trivial) O fun k V _=>U k V).up ac
 have kF:∀Hz:Hp,Hc.next<=Hz.next->(∀k,m<=k->pt k=1->k<H2.next->Hz.get k=Hc.get k)->ec (fun _=>True) 4 Hz z (.ao (f.ag.map Nd.cells)):=fun Hz O U=>(hSf.rd.aR (S':=fun _=>True) (fun _ _ _=>trivial) O fun k V _=>U k V.1 V.2.1 V.2.2).up ac
 have kG:∀Hz:Hp,Hc.next<=Hz.next->(∀k,m<=k->pt k=2->k<H2.next->Hz.get k=Hc.get k)->ec (fun _=>True) 4 Hz lg (.ao (g.ag.map Nd.cells)):=fun Hz O U=>(hSg.rd.aR (S':=fun _=>True) (fun _ _ _=>trivial) O fun k V _=>U k V.1 V.2.1 V.2.2).up ac
 refine qc ?_;refine bb ?_ (AQ (fun _=>rfl) rfl huo (S:=fun _=>True) (n:=5) aM (AP ac gcq (kA Hc (aO _) fun _ _=>rfl) (kF Hc (aO _) fun _ _ _ _=>rfl) (kG Hc (aO _) fun _ _ _ _=>rfl)));rintro v j ⟨rfl,rfl⟩;rw[I];dsimp only[aZ];repeat' (first
  |(apply aj ?_;clear hK K)|apply Ry.o ?_|apply b8 ?_|(apply ee ?_;first|refine bi (kk f0 2 aM _) ?_)|(apply ct (fun J Z=>?_) (fun J Z=>?_)<;>try(cases J;done))|(apply bq (fun L Y=>?_) (fun L Y=>?_)<;>try(cases L;done))|apply ah ?_|(apply ai fun K hK=>?_)|(apply au 4 [(1,3),(1,6)] fun K hK=>?_)|(apply au 19 [(4,12),(4,16),(8,12),(8,16),(14,16),(15,16)] fun K hK=>?_)|(apply au 21 [(4,11),(8,11),(10,11)] fun K hK=>?_)|(apply aS ?_;try intro _)|(apply aT ?_ ?_<;>clear hK K)|apply aR ?_|apply bD rfl ?_|apply ak ?_|apply am ?_|apply aq ?_|apply aw ?_)
 have hk2:=k2;generalize dr f0 2=k at *;have hnf:aY prog (aH pls mV) 9 [] j fun v H'=>v=.bool true/\H'=j:=rq j;have hne:∀k,pt k≠0->k≠q:=fun k V e=>V (by rw[e];exact hq3);have pf:∀(row:qs) (x:Nd),row.length=3->row.all AV.one=true->x.ak.length<=40->cJ (fun k=>(m<=k/\pt k=1/\k<H2.next)/\∀o m' z',z≠.sl k o m' z') 2 j row x.cells->∃H',dm prog false (j.alloc (.cells row 0 true)) 30 30 z (.sl j.next 0 1 3)=some (.sl (j.next+1) 0 (f.ag.length+1) 3,H')/\H'.next=j.next+2/\H'.get q=some (.cells [.ai f.name,.int .i64 f.params,z,.int .i64 f.value,.int .i64 f.ab,.ai g.name,.int .i64 g.params,lg,.int .i64 g.value,.int .i64 g.ab] 0 true)/\H'.get H2.next=some (.cells [av,.sl q 0 2 5] 0 true) /\
  aY prog (aH pls mV) 7 [.agg [av,.sl q 0 2 5]] (H'.set q (.cells [.ai f.name,.int .i64 f.params,.sl (j.next+1) 0 (f.ag.length+1) 3,.int .i64 f.value,.int .i64 f.ab,.ai g.name,.int .i64 g.params,lg,.int .i64 g.value,.int .i64 g.ab] 0 true)) fun w H''=>w=.bool (gB ⟨ar,[iP f x,g]⟩)/\H''=H'.set q (.cells [.ai f.name,.int .i64 f.params,.sl (j.next+1) 0 (f.ag.length+1) 3,.int .i64 f.value,.int .i64 f.ab,.ai g.name,.int .i64 g.params,lg,.int .i64 g.value,.int .i64 g.ab] 0 true):=fun row x aK bB r3 r4=>by
  obtain⟨H',a6,n6,o6,d6⟩:=Sn hSf (fun k V=>ac) aK bB r4 ac;have hno:∀k,¬(m<=k/\pt k=1)->∀o m' z',z≠.sl k o m' z':=fun k V o m' z' e=>by
   rcases hSf with⟨O,_⟩|⟨q',im,rows,O,U,_⟩
   .rw[O]at e;cases e
   .rw[O]at e;simp only[AV.sl.injEq]at e;exact V (by rw[<-e.1];exact⟨U.1,U.2.1⟩)
  have hno7:∀o m' z',z≠.sl H2.next o m' z':=fun o m' z' e=>by
   rcases hSf with⟨O,_⟩|⟨q',im,rows,O,U,_⟩
   .rw[O]at e;cases e
   .rw[O]at e;simp only[AV.sl.injEq]at e;omega
  refine⟨H',a6,n6,(o6 q ac (hno q ac)).trans gcq,(o6 H2.next ac hno7).trans gc7,?_⟩;refine AQ (fun _=>rfl) rfl (u:=⟨ar,[iP f x,g]⟩) (Ei huo rfl rfl (⟨IM,fun n C=>by
   rcases kU.1 C with C|C
   .have:=hf3 n C;omega
   .rw[wa]at C;subst C;omega⟩) (⟨ac,fun n C=>by have:=hg3 n C;omega⟩)) (S:=fun _=>True) (n:=5) aM (AP db Dp (kA _ db fun k V=>?_) (d6.aR (S':=fun _=>True) (fun _ _ _=>trivial) db fun k V _=>by
   have V:(m<=k/\pt k=1/\k<H2.next)\/j.next<=k:=V
   rw[a1,af (by
    rcases V with V|V
    .exact hne k ac
    .omega)]) (kG _ db fun k O U h3=>?_))
  .rw[a1,af ac,o6 k ac (hno k ac)]
  .rw[a1,af (hne k ac),o6 k ac (hno k ac)]
 have pg:∀(row:qs) (x:Nd),row.length=3->row.all AV.one=true->x.ak.length<=40->cJ (fun k=>(m<=k/\pt k=2/\k<H2.next)/\∀o m' z',lg≠.sl k o m' z') 2 j row x.cells->∃H',dm prog false (j.alloc (.cells row 0 true)) 30 30 lg (.sl j.next 0 1 3)=some (.sl (j.next+1) 0 (g.ag.length+1) 3,H')/\H'.next=j.next+2/\H'.get q=some (.cells [.ai f.name,.int .i64 f.params,z,.int .i64 f.value,.int .i64 f.ab,.ai g.name,.int .i64 g.params,lg,.int .i64 g.value,.int .i64 g.ab] 0 true)/\H'.get H2.next=some (.cells [av,.sl q 0 2 5] 0 true) /\
  aY prog (aH pls mV) 7 [.agg [av,.sl q 0 2 5]] (H'.set q (.cells [.ai f.name,.int .i64 f.params,z,.int .i64 f.value,.int .i64 f.ab,.ai g.name,.int .i64 g.params,.sl (j.next+1) 0 (g.ag.length+1) 3,.int .i64 g.value,.int .i64 g.ab] 0 true)) fun w H''=>w=.bool (gB ⟨ar,[f,iP g x]⟩)/\H''=H'.set q (.cells [.ai f.name,.int .i64 f.params,z,.int .i64 f.value,.int .i64 f.ab,.ai g.name,.int .i64 g.params,.sl (j.next+1) 0 (g.ag.length+1) 3,.int .i64 g.value,.int .i64 g.ab] 0 true):=fun row x aK bB r3 r4=>by
  obtain⟨H',a6,n6,o6,d6⟩:=Sn hSg (fun k V=>ac) aK bB r4 ac;have hno:∀k,¬(m<=k/\pt k=2)->∀o m' z',lg≠.sl k o m' z':=fun k V o m' z' e=>by
   rcases hSg with⟨O,_⟩|⟨q',im,rows,O,U,_⟩
   .rw[O]at e;cases e
   .rw[O]at e;simp only[AV.sl.injEq]at e;exact V (by rw[<-e.1];exact⟨U.1,U.2.1⟩)
  have hno7:∀o m' z',lg≠.sl H2.next o m' z':=fun o m' z' e=>by
   rcases hSg with⟨O,_⟩|⟨q',im,rows,O,U,_⟩
   .rw[O]at e;cases e
   .rw[O]at e;simp only[AV.sl.injEq]at e;omega
  refine⟨H',a6,n6,(o6 q ac (hno q ac)).trans gcq,(o6 H2.next ac hno7).trans gc7,?_⟩;refine AQ (fun _=>rfl) rfl (u:=⟨ar,[f,iP g x]⟩) (Ei huo rfl rfl (⟨ac,fun n C=>by have:=hf3 n C;omega⟩) (⟨IM,fun n C=>by
   rcases kU.1 C with C|C
   .have:=hg3 n C;omega
   .rw[wa]at C;subst C;omega⟩)) (S:=fun _=>True) (n:=5) aM (AP db Dp (kA _ db fun k V=>?_) (kF _ db fun k O U h3=>?_) (d6.aR (S':=fun _=>True) (fun _ _ _=>trivial) db fun k V _=>by
   have V:(m<=k/\pt k=2/\k<H2.next)\/j.next<=k:=V
   rw[a1,af (by
    rcases V with V|V
    .exact hne k ac
    .omega)]))
  .rw[a1,af ac,o6 k ac (hno k ac)]
  .rw[a1,af (hne k ac),o6 k ac (hno k ac)]
 have nq1:(H2.next == q)=false:=bz ac;have nq2:(q == H2.next)=false:=bz ac;have nq3:(j.next == q)=false:=bz ac;have nq4:(q == j.next)=false:=bz ac;have q2:(2:Int)≠0:=aM;rcases(by omega:k=0\/k=1)with rfl|rfl
 .have hix:ey prog 24 (.sl q 0 2 5) (.int .i64 0)=some (.ptr q 0):=by kernel_rfl
  have sf:aY prog (aH pls mV) 7 [.agg [av,.sl q 0 2 5]] (j.set q (.cells [.ai f.name,.int .i64 f.params,z,.int .i64 f.ab,.int .i64 f.ab,.ai g.name,.int .i64 g.params,lg,.int .i64 g.value,.int .i64 g.ab] 0 true)) fun w H''=>w=.bool false/\H''=j.set q (.cells [.ai f.name,.int .i64 f.params,z,.int .i64 f.ab,.int .i64 f.ab,.ai g.name,.int .i64 g.params,lg,.int .i64 g.value,.int .i64 g.ab] 0 true):=by
   have us:=(Sh I).1;have:=AQ (tb:=mV) (H:=j.set q (.cells [.ai f.name,.int .i64 f.params,z,.int .i64 f.ab,.int .i64 f.ab,.ai g.name,.int .i64 g.params,lg,.int .i64 g.value,.int .i64 g.ab] 0 true)) (fun _=>rfl) rfl (u:=⟨ar,[⟨f.name,f.params,f.ag,f.ab,f.ab⟩,g]⟩) (Ei huo rfl rfl ⟨by show f.ag.length<_;omega,fun n C=>by have:=hf3 n C;omega⟩ ⟨by show g.ag.length<_;omega,fun n C=>by have:=hg3 n C;omega⟩) (S:=fun _=>True) (n:=5) aM (AP (q:=q) (H:=j.set q (.cells [.ai f.name,.int .i64 f.params,z,.int .i64 f.ab,.int .i64 f.ab,.ai g.name,.int .i64 g.params,lg,.int .i64 g.value,.int .i64 g.ab] 0 true)) db gL (kA (j.set q (.cells [.ai f.name,.int .i64 f.params,z,.int .i64 f.ab,.int .i64 f.ab,.ai g.name,.int .i64 g.params,lg,.int .i64 g.value,.int .i64 g.ab] 0 true)) db fun k V=>jd) (kF (j.set q (.cells [.ai f.name,.int .i64 f.params,z,.int .i64 f.ab,.int .i64 f.ab,.ai g.name,.int .i64 g.params,lg,.int .i64 g.value,.int .i64 g.ab] 0 true)) db fun k O U h3=>Ek) (kG (j.set q (.cells [.ai f.name,.int .i64 f.params,z,.int .i64 f.ab,.int .i64 f.ab,.ai g.name,.int .i64 g.params,lg,.int .i64 g.value,.int .i64 g.ab] 0 true)) db fun k O U h3=>Ek));rw[us]at this;exact this
  obtain⟨Ha,bK,bW,a3,a4,a5⟩:=pf [.int .i64 1,.int .i64 123456789,.ah] ⟨1,123456789,[]⟩ rfl rfl aM (DB _ _);obtain⟨Hb,b1,b2,b3,b4,b5⟩:=pf [.int .i64 2,.int .i64 f.params,.ah] ⟨2,f.params,[]⟩ rfl rfl (dN _) (DB _ _);obtain⟨qn,imm,rows,rfl,dd,w2,w3,w4,w5,w6⟩:=Sl hSf hf4;have hlen1:1<=f.ag.length:=by
   have:=ur.2 hf4;omega
  have ki:=ll (n:=IntKind.wrap .i64 (f0.tdiv 2)) (m:=f.ag.length) ac ac;obtain⟨i0,hi0,hi0l⟩:∃i0:Nat,dr (IntKind.wrap .i64 (f0.tdiv 2)) f.ag.length=(i0:Int)/\i0<f.ag.length:=⟨(dr (IntKind.wrap .i64 (f0.tdiv 2)) f.ag.length).toNat,ac,ac⟩;have hx0:f.ag[i0]?=some f.ag[i0]:=a0 hi0l;have hmem:f.ag[i0]∈f.ag:=cL hi0l;obtain⟨kv,v1,v2,v3,v4,v5⟩:=w6 i0 _ hx0;have hrw:=cy.get w5 v1 (b:=(f.ag[i0]).cells) (by rw[fO,hx0];rfl);have hkl:=hf3 _ hmem;generalize f.ag[i0]=x0 at *;obtain⟨Hd,d1,d2,d3,d4,d5⟩:=pf [.int .i64 x0.op,.int .i64 x0.au,kv] x0 rfl Ej hkl (hrw.2.aR (fun k O U=>⟨U.1,fun o m' z' e=>by
   simp only[AV.sl.injEq]at e;exact U.2 e.1.symm⟩) (aO _) fun _ _ _=>rfl)
  have hixn:ey prog 30 (.sl qn 0 f.ag.length 3) (.int .i64 (dr (IntKind.wrap .i64 (f0.tdiv 2)) f.ag.length))=some (.ptr qn (i0*3)):=by rw[hi0];exact Au hi0l
  have hld:eY prog j 35 (.ptr qn (i0*3))=some (.agg [.int .i64 x0.op,.int .i64 x0.au,kv]):=by
   rw[pS,w3];exact At (eO.len w5) v1
  have hld2:∀b:HB,eY prog (j.alloc b) 35 (.ptr qn (i0*3))=some (.agg [.int .i64 x0.op,.int .i64 x0.au,kv]):=fun b=>by
   rw[pS,aQ,af ac,w3];exact At (eO.len w5) v1
  have nq5:(j.next == qn)=false:=bz ac;have nq6:(qn == j.next)=false:=bz ac;have hbd:∀H:Hp,dW prog H 30 1 [(0,.agg [.int .i64 x0.op,.int .i64 x0.au,kv])]=some (.sl H.next 0 1 3,H.alloc (.cells [.int .i64 x0.op,.int .i64 x0.au,kv] 0 true)):=fun H=>wo H rfl Ej;have hba:∀H:Hp,dW prog H 30 1 [(0,.agg [.int .i64 1,.int .i64 123456789,.ah])]=some (.sl H.next 0 1 3,H.alloc (.cells [.int .i64 1,.int .i64 123456789,.ah] 0 true)):=fun H=>wo H rfl rfl;have hbb:∀H:Hp,dW prog H 30 1 [(0,.agg [.int .i64 2,.int .i64 f.params,.ah])]=some (.sl H.next 0 1 3,H.alloc (.cells [.int .i64 2,.int .i64 f.params,.ah] 0 true)):=fun H=>wo H rfl rfl;have ua:=(Sf I (fun n C=>hf2 n C) (fun n C=>hg2 n C) (n:=x0)).1 hmem;have up:=(Sg I).1;rw[ua]at d5;rw[up]at b5;clear ua up;clear hi0;repeat' (first
   |(apply aj ?_;clear hK K)|apply Ry.o ?_|apply b8 ?_|(apply ee ?_;first|refine bi (kk which 4 aM _) ?_|refine bi (kk _ _ ac _) ?_|refine bi (b5) ?_|refine bi (d5) ?_|refine bi (sf) ?_|refine bi (rq _) ?_)|(apply ct (fun J Z=>?_) (fun J Z=>?_)<;>try(cases J;done))|(apply bq (fun L Y=>?_) (fun L Y=>?_)<;>try(cases L;done))|apply ah ?_|(apply ai fun K hK=>?_)|(apply au 4 [(1,3),(1,6)] fun K hK=>?_)|(apply au 19 [(4,12),(4,16),(8,12),(8,16),(14,16),(15,16)] fun K hK=>?_)|(apply au 21 [(4,11),(8,11),(10,11)] fun K hK=>?_)|(apply aS ?_;try intro _)|(apply aT ?_ ?_<;>clear hK K)|apply aR ?_|apply bD rfl ?_|apply ak ?_|apply am ?_|apply aq ?_|apply aw ?_)
  .exact di
  .refine cA [7,8,10,48] [] 49 f.ag.length (fun i E Hi=>j=Hi/\∀n∈f.ag.take i,¬(n.op=1/\n.au=123456789)) eE ⟨rfl,fun n C=>by simp at C⟩ ?_;rintro i E Hi hi hcE hrH hnH hsI ⟨hHi,hJ⟩;(try simp only[bp,bm,aU,aF,aW,Nat.reduceBEq,Nat.reduceAdd,Nat.reduceLeDiff,tyF, *]at hcE);(try simp only[bp,bm,aU,aF,aW,Nat.reduceBEq,Nat.reduceAdd,Nat.reduceLeDiff,tyF, *]at hrH);(try simp only[bj,bE,cm,bO,Nat.reduceAdd]at hnH);subst hHi;by_cases hlt:i<f.ag.length
   .have hlt':(i:Int)<f.ag.length:=by omega
    have hgx:f.ag[i]?=some f.ag[i]:=a0 hlt;obtain⟨kv',y1,y2,y3,y4,y5⟩:=w6 i _ hgx;have htk:∀n∈f.ag.take (i+1),n∈f.ag.take i\/n=f.ag[i]:=fun n C=>by
     rw[List.take_succ,hgx,kU]at C;rcases C with C|C
     .exact .inl C
     .exact .inr Bk
    generalize f.ag[i]=x at *;have hixi:=Au (q:=qn) hlt;have AR:eY prog j 3 (.ptr qn (i*3))=some (.int .i64 x.op):=So;have l1:eY prog j 2 (.ptr qn (i*3+1))=some (.int .i64 x.au):=Sp;by_cases O:x.op=1
    .by_cases U:x.au=123456789
     .repeat' (first
       |(apply aj ?_;clear hK K)|apply Ry.o ?_|apply b8 ?_|(apply ee ?_;first|refine bi (rq _) ?_)|(apply ct (fun J Z=>?_) (fun J Z=>?_)<;>try(cases J;done))|(apply bq (fun L Y=>?_) (fun L Y=>?_)<;>try(cases L;done))|apply ah ?_|(apply ai fun K hK=>?_)|(apply au 4 [(1,3),(1,6)] fun K hK=>?_)|(apply au 19 [(4,12),(4,16),(8,12),(8,16),(14,16),(15,16)] fun K hK=>?_)|(apply au 21 [(4,11),(8,11),(10,11)] fun K hK=>?_)|(apply aS ?_;try intro _)|(apply aT ?_ ?_<;>clear hK K)|apply aR ?_|apply bD rfl ?_|apply ak ?_|apply am ?_|apply aq ?_|apply aw ?_)
      all_goals refine qq ?_
      all_goals trivial
     .repeat' (first
       |(apply aj ?_;clear hK K)|apply Ry.o ?_|apply b8 ?_|(apply ee ?_;first|refine bi (rq _) ?_)|(apply ct (fun J Z=>?_) (fun J Z=>?_)<;>try(cases J;done))|(apply bq (fun L Y=>?_) (fun L Y=>?_)<;>try(cases L;done))|apply ah ?_|(apply ai fun K hK=>?_)|(apply au 4 [(1,3),(1,6)] fun K hK=>?_)|(apply au 19 [(4,12),(4,16),(8,12),(8,16),(14,16),(15,16)] fun K hK=>?_)|(apply au 21 [(4,11),(8,11),(10,11)] fun K hK=>?_)|(apply aS ?_;try intro _)|(apply aT ?_ ?_<;>clear hK K)|apply aR ?_|apply bD rfl ?_|apply ak ?_|apply am ?_|apply aq ?_|apply aw ?_)
      refine⟨ac,a2,a2,ce,Sq,?_⟩;exact⟨rfl,fun n C c=>by
       rcases htk n C with C|rfl
       .exact hJ n C c
       .exact U c.2⟩
    .repeat' (first
      |(apply aj ?_;clear hK K)|apply Ry.o ?_|apply b8 ?_|(apply ee ?_;first|refine bi (rq _) ?_)|(apply ct (fun J Z=>?_) (fun J Z=>?_)<;>try(cases J;done))|(apply bq (fun L Y=>?_) (fun L Y=>?_)<;>try(cases L;done))|apply ah ?_|(apply ai fun K hK=>?_)|(apply au 4 [(1,3),(1,6)] fun K hK=>?_)|(apply au 19 [(4,12),(4,16),(8,12),(8,16),(14,16),(15,16)] fun K hK=>?_)|(apply au 21 [(4,11),(8,11),(10,11)] fun K hK=>?_)|(apply aS ?_;try intro _)|(apply aT ?_ ?_<;>clear hK K)|apply aR ?_|apply bD rfl ?_|apply ak ?_|apply am ?_|apply aq ?_|apply aw ?_)
     refine⟨ac,a2,a2,ce,Sq,?_⟩;exact⟨rfl,fun n C c=>by
      rcases htk n C with C|rfl
      .exact hJ n C c
      .exact O c.1⟩
   .have hlt':¬(i:Int)<f.ag.length:=by omega
    have uc:=(Se I ac ac (fun n C=>hf2 n C) (fun n C=>hg2 n C)).1 fun n C=>hJ n Sr;rw[uc]at a5;repeat' (first
     |(apply aj ?_;clear hK K)|apply Ry.o ?_|apply b8 ?_|(apply ee ?_;first|refine bi (a5) ?_|refine bi (rq _) ?_)|(apply ct (fun J Z=>?_) (fun J Z=>?_)<;>try(cases J;done))|(apply bq (fun L Y=>?_) (fun L Y=>?_)<;>try(cases L;done))|apply ah ?_|(apply ai fun K hK=>?_)|(apply au 4 [(1,3),(1,6)] fun K hK=>?_)|(apply au 19 [(4,12),(4,16),(8,12),(8,16),(14,16),(15,16)] fun K hK=>?_)|(apply au 21 [(4,11),(8,11),(10,11)] fun K hK=>?_)|(apply aS ?_;try intro _)|(apply aT ?_ ?_<;>clear hK K)|apply aR ?_|apply bD rfl ?_|apply ak ?_|apply am ?_|apply aq ?_|apply aw ?_)
    all_goals refine qq ?_
    all_goals trivial
  .exact di
  .all_goals refine qq ?_
   all_goals trivial
  .exact di
  .all_goals refine qq ?_
   all_goals trivial
  .all_goals refine qq ?_
   all_goals trivial
  all_goals fail "A"
 .have hix:ey prog 24 (.sl q 0 2 5) (.int .i64 1)=some (.ptr q 5):=by kernel_rfl
  have sf:aY prog (aH pls mV) 7 [.agg [av,.sl q 0 2 5]] (j.set q (.cells [.ai f.name,.int .i64 f.params,z,.int .i64 f.value,.int .i64 f.ab,.ai g.name,.int .i64 g.params,lg,.int .i64 g.ab,.int .i64 g.ab] 0 true)) fun w H''=>w=.bool false/\H''=j.set q (.cells [.ai f.name,.int .i64 f.params,z,.int .i64 f.value,.int .i64 f.ab,.ai g.name,.int .i64 g.params,lg,.int .i64 g.ab,.int .i64 g.ab] 0 true):=by
   have us:=(Sh I).2;have:=AQ (tb:=mV) (H:=j.set q (.cells [.ai f.name,.int .i64 f.params,z,.int .i64 f.value,.int .i64 f.ab,.ai g.name,.int .i64 g.params,lg,.int .i64 g.ab,.int .i64 g.ab] 0 true)) (fun _=>rfl) rfl (u:=⟨ar,[f,⟨g.name,g.params,g.ag,g.ab,g.ab⟩]⟩) (Ei huo rfl rfl ⟨by show f.ag.length<_;omega,fun n C=>by have:=hf3 n C;omega⟩ ⟨by show g.ag.length<_;omega,fun n C=>by have:=hg3 n C;omega⟩) (S:=fun _=>True) (n:=5) aM (AP (q:=q) (H:=j.set q (.cells [.ai f.name,.int .i64 f.params,z,.int .i64 f.value,.int .i64 f.ab,.ai g.name,.int .i64 g.params,lg,.int .i64 g.ab,.int .i64 g.ab] 0 true)) db gL (kA (j.set q (.cells [.ai f.name,.int .i64 f.params,z,.int .i64 f.value,.int .i64 f.ab,.ai g.name,.int .i64 g.params,lg,.int .i64 g.ab,.int .i64 g.ab] 0 true)) db fun k V=>jd) (kF (j.set q (.cells [.ai f.name,.int .i64 f.params,z,.int .i64 f.value,.int .i64 f.ab,.ai g.name,.int .i64 g.params,lg,.int .i64 g.ab,.int .i64 g.ab] 0 true)) db fun k O U h3=>Ek) (kG (j.set q (.cells [.ai f.name,.int .i64 f.params,z,.int .i64 f.value,.int .i64 f.ab,.ai g.name,.int .i64 g.params,lg,.int .i64 g.ab,.int .i64 g.ab] 0 true)) db fun k O U h3=>Ek));rw[us]at this;exact this
  obtain⟨Ha,bK,bW,a3,a4,a5⟩:=pg [.int .i64 1,.int .i64 123456789,.ah] ⟨1,123456789,[]⟩ rfl rfl aM (DB _ _);obtain⟨Hb,b1,b2,b3,b4,b5⟩:=pg [.int .i64 2,.int .i64 g.params,.ah] ⟨2,g.params,[]⟩ rfl rfl (dN _) (DB _ _);obtain⟨qn,imm,rows,rfl,dd,w2,w3,w4,w5,w6⟩:=Sl hSg hg4;have hlen1:1<=g.ag.length:=by
   have:=ur.2 hg4;omega
  have ki:=ll (n:=IntKind.wrap .i64 (f0.tdiv 2)) (m:=g.ag.length) ac ac;obtain⟨i0,hi0,hi0l⟩:∃i0:Nat,dr (IntKind.wrap .i64 (f0.tdiv 2)) g.ag.length=(i0:Int)/\i0<g.ag.length:=⟨(dr (IntKind.wrap .i64 (f0.tdiv 2)) g.ag.length).toNat,ac,ac⟩;have hx0:g.ag[i0]?=some g.ag[i0]:=a0 hi0l;have hmem:g.ag[i0]∈g.ag:=cL hi0l;obtain⟨kv,v1,v2,v3,v4,v5⟩:=w6 i0 _ hx0;have hrw:=cy.get w5 v1 (b:=(g.ag[i0]).cells) (by rw[fO,hx0];rfl);have hkl:=hg3 _ hmem;generalize g.ag[i0]=x0 at *;obtain⟨Hd,d1,d2,d3,d4,d5⟩:=pg [.int .i64 x0.op,.int .i64 x0.au,kv] x0 rfl Ej hkl (hrw.2.aR (fun k O U=>⟨U.1,fun o m' z' e=>by
   simp only[AV.sl.injEq]at e;exact U.2 e.1.symm⟩) (aO _) fun _ _ _=>rfl)
  have hixn:ey prog 30 (.sl qn 0 g.ag.length 3) (.int .i64 (dr (IntKind.wrap .i64 (f0.tdiv 2)) g.ag.length))=some (.ptr qn (i0*3)):=by rw[hi0];exact Au hi0l
  have hld:eY prog j 35 (.ptr qn (i0*3))=some (.agg [.int .i64 x0.op,.int .i64 x0.au,kv]):=by
   rw[pS,w3];exact At (eO.len w5) v1
  have hld2:∀b:HB,eY prog (j.alloc b) 35 (.ptr qn (i0*3))=some (.agg [.int .i64 x0.op,.int .i64 x0.au,kv]):=fun b=>by
   rw[pS,aQ,af ac,w3];exact At (eO.len w5) v1
  have nq5:(j.next == qn)=false:=bz ac;have nq6:(qn == j.next)=false:=bz ac;have hbd:∀H:Hp,dW prog H 30 1 [(0,.agg [.int .i64 x0.op,.int .i64 x0.au,kv])]=some (.sl H.next 0 1 3,H.alloc (.cells [.int .i64 x0.op,.int .i64 x0.au,kv] 0 true)):=fun H=>wo H rfl Ej;have hba:∀H:Hp,dW prog H 30 1 [(0,.agg [.int .i64 1,.int .i64 123456789,.ah])]=some (.sl H.next 0 1 3,H.alloc (.cells [.int .i64 1,.int .i64 123456789,.ah] 0 true)):=fun H=>wo H rfl rfl;have hbb:∀H:Hp,dW prog H 30 1 [(0,.agg [.int .i64 2,.int .i64 g.params,.ah])]=some (.sl H.next 0 1 3,H.alloc (.cells [.int .i64 2,.int .i64 g.params,.ah] 0 true)):=fun H=>wo H rfl rfl;have ua:=(Sf I (fun n C=>hf2 n C) (fun n C=>hg2 n C) (n:=x0)).2 hmem;have up:=(Sg I).2;rw[ua]at d5;rw[up]at b5;clear ua up;clear hi0;repeat' (first
   |(apply aj ?_;clear hK K)|apply Ry.o ?_|apply b8 ?_|(apply ee ?_;first|refine bi (kk which 4 aM _) ?_|refine bi (kk _ _ ac _) ?_|refine bi (b5) ?_|refine bi (d5) ?_|refine bi (sf) ?_|refine bi (rq _) ?_)|(apply ct (fun J Z=>?_) (fun J Z=>?_)<;>try(cases J;done))|(apply bq (fun L Y=>?_) (fun L Y=>?_)<;>try(cases L;done))|apply ah ?_|(apply ai fun K hK=>?_)|(apply au 4 [(1,3),(1,6)] fun K hK=>?_)|(apply au 19 [(4,12),(4,16),(8,12),(8,16),(14,16),(15,16)] fun K hK=>?_)|(apply au 21 [(4,11),(8,11),(10,11)] fun K hK=>?_)|(apply aS ?_;try intro _)|(apply aT ?_ ?_<;>clear hK K)|apply aR ?_|apply bD rfl ?_|apply ak ?_|apply am ?_|apply aq ?_|apply aw ?_)
  .exact di
  .refine cA [7,8,10,48] [] 49 g.ag.length (fun i E Hi=>j=Hi/\∀n∈g.ag.take i,¬(n.op=1/\n.au=123456789)) eE ⟨rfl,fun n C=>by simp at C⟩ ?_;rintro i E Hi hi hcE hrH hnH hsI ⟨hHi,hJ⟩;(try simp only[bp,bm,aU,aF,aW,Nat.reduceBEq,Nat.reduceAdd,Nat.reduceLeDiff,tyF, *]at hcE);(try simp only[bp,bm,aU,aF,aW,Nat.reduceBEq,Nat.reduceAdd,Nat.reduceLeDiff,tyF, *]at hrH);(try simp only[bj,bE,cm,bO,Nat.reduceAdd]at hnH);subst hHi;by_cases hlt:i<g.ag.length
   .have hlt':(i:Int)<g.ag.length:=by omega
    have hgx:g.ag[i]?=some g.ag[i]:=a0 hlt;obtain⟨kv',y1,y2,y3,y4,y5⟩:=w6 i _ hgx;have htk:∀n∈g.ag.take (i+1),n∈g.ag.take i\/n=g.ag[i]:=fun n C=>by
     rw[List.take_succ,hgx,kU]at C;rcases C with C|C
     .exact .inl C
     .exact .inr Bk
    generalize g.ag[i]=x at *;have hixi:=Au (q:=qn) hlt;have AR:eY prog j 3 (.ptr qn (i*3))=some (.int .i64 x.op):=So;have l1:eY prog j 2 (.ptr qn (i*3+1))=some (.int .i64 x.au):=Sp;by_cases O:x.op=1
    .by_cases U:x.au=123456789
     .repeat' (first
       |(apply aj ?_;clear hK K)|apply Ry.o ?_|apply b8 ?_|(apply ee ?_;first|refine bi (rq _) ?_)|(apply ct (fun J Z=>?_) (fun J Z=>?_)<;>try(cases J;done))|(apply bq (fun L Y=>?_) (fun L Y=>?_)<;>try(cases L;done))|apply ah ?_|(apply ai fun K hK=>?_)|(apply au 4 [(1,3),(1,6)] fun K hK=>?_)|(apply au 19 [(4,12),(4,16),(8,12),(8,16),(14,16),(15,16)] fun K hK=>?_)|(apply au 21 [(4,11),(8,11),(10,11)] fun K hK=>?_)|(apply aS ?_;try intro _)|(apply aT ?_ ?_<;>clear hK K)|apply aR ?_|apply bD rfl ?_|apply ak ?_|apply am ?_|apply aq ?_|apply aw ?_)
      all_goals refine qq ?_
      all_goals trivial
     .repeat' (first
       |(apply aj ?_;clear hK K)|apply Ry.o ?_|apply b8 ?_|(apply ee ?_;first|refine bi (rq _) ?_)|(apply ct (fun J Z=>?_) (fun J Z=>?_)<;>try(cases J;done))|(apply bq (fun L Y=>?_) (fun L Y=>?_)<;>try(cases L;done))|apply ah ?_|(apply ai fun K hK=>?_)|(apply au 4 [(1,3),(1,6)] fun K hK=>?_)|(apply au 19 [(4,12),(4,16),(8,12),(8,16),(14,16),(15,16)] fun K hK=>?_)|(apply au 21 [(4,11),(8,11),(10,11)] fun K hK=>?_)|(apply aS ?_;try intro _)|(apply aT ?_ ?_<;>clear hK K)|apply aR ?_|apply bD rfl ?_|apply ak ?_|apply am ?_|apply aq ?_|apply aw ?_)
      refine⟨ac,a2,a2,ce,Iq,?_⟩;exact⟨rfl,fun n C c=>by
       rcases htk n C with C|rfl
       .exact hJ n C c
       .exact U c.2⟩
    .repeat' (first
      |(apply aj ?_;clear hK K)|apply Ry.o ?_|apply b8 ?_|(apply ee ?_;first|refine bi (rq _) ?_)|(apply ct (fun J Z=>?_) (fun J Z=>?_)<;>try(cases J;done))|(apply bq (fun L Y=>?_) (fun L Y=>?_)<;>try(cases L;done))|apply ah ?_|(apply ai fun K hK=>?_)|(apply au 4 [(1,3),(1,6)] fun K hK=>?_)|(apply au 19 [(4,12),(4,16),(8,12),(8,16),(14,16),(15,16)] fun K hK=>?_)|(apply au 21 [(4,11),(8,11),(10,11)] fun K hK=>?_)|(apply aS ?_;try intro _)|(apply aT ?_ ?_<;>clear hK K)|apply aR ?_|apply bD rfl ?_|apply ak ?_|apply am ?_|apply aq ?_|apply aw ?_)
     refine⟨ac,a2,a2,ce,Iq,?_⟩;exact⟨rfl,fun n C c=>by
      rcases htk n C with C|rfl
      .exact hJ n C c
      .exact O c.1⟩
   .have hlt':¬(i:Int)<g.ag.length:=by omega
    have uc:=(Se I ac ac (fun n C=>hf2 n C) (fun n C=>hg2 n C)).2 fun n C=>hJ n Sr;rw[uc]at a5;repeat' (first
     |(apply aj ?_;clear hK K)|apply Ry.o ?_|apply b8 ?_|(apply ee ?_;first|refine bi (a5) ?_|refine bi (rq _) ?_)|(apply ct (fun J Z=>?_) (fun J Z=>?_)<;>try(cases J;done))|(apply bq (fun L Y=>?_) (fun L Y=>?_)<;>try(cases L;done))|apply ah ?_|(apply ai fun K hK=>?_)|(apply au 4 [(1,3),(1,6)] fun K hK=>?_)|(apply au 19 [(4,12),(4,16),(8,12),(8,16),(14,16),(15,16)] fun K hK=>?_)|(apply au 21 [(4,11),(8,11),(10,11)] fun K hK=>?_)|(apply aS ?_;try intro _)|(apply aT ?_ ?_<;>clear hK K)|apply aR ?_|apply bD rfl ?_|apply ak ?_|apply am ?_|apply aq ?_|apply aw ?_)
    all_goals refine qq ?_
    all_goals trivial
  .exact di
  .all_goals refine qq ?_
   all_goals trivial
  .exact di
  .all_goals refine qq ?_
   all_goals trivial
  .all_goals refine qq ?_
   all_goals trivial
  all_goals fail "A"
def zfP(l:qu)(U g:Int)(K:l.length<2^63)(J:ib l):bX prog (fun _=>0) 3 [pH l,.int .i64 U,.int .i64 g] (.bool true):=
 eg fit (pls:=pls) (zfN _) (.cons (RT l) (.cons (.int _ _) (.cons (.int _ _) .nil))) (.bool _) (law l U g K J)
set_option maxRecDepth 100000 in
def zfQ{H:Type}{enc:TypeId×Value->H}(W:World)(O:Value){r:Reach}{z:Nat}(k0:Value.okWide prog W r z 22 O){d:DataW H}{ps:List MemPlace}{C:Nat->Bool}{Y:Bool}(Z:DataW.Trod enc prog W 0 C Y 22 O d ps)(bK bW:Int):
 Calls prog 3 #[O,.int .i64 bK,.int .i64 bW] W fun e J=>e=.returned (.bool true)/\Below W.heap.size W J:=by
 obtain⟨l,V,K,hr⟩:=zfA k0 Z;exact T2 (ρ:=fun _=>0) (F:=AM W) (zfP l bK bW K hr) (zfu W) (mD V (mD (.int .i64 bK) (mD (.int .i64 bW) (rz _))))
set_option maxRecDepth 100000 in
theorem zfR(I:Os)(V:I.Started)(H:Type)(enc:TypeId×Value->H):
 ReturnsInHanded {} checked I 3 .any (Rows.iRValidPartsSpec.pre6 enc prog f3 Rows.iRValidPartsRow.domain false) (Rows.iRValidPartsSpec.post enc prog f3 false true false false):=by
 refine returnsInHanded_of_change (C:=checked) own V aG func3
  (ChangeSpec.witness6 (enc:=enc) (C:=checked) false ⟨#[],#[.slice none 0 0,.int .i64 0,.int .i64 0],[]⟩ 8 aG aG aG aG) ?_
 intro W O Z ds gs i U m g _;have Y:∀(j:Nat) t v,f3.params[j]?=some t->Z[j]?=some v->Value.okWide prog W .any O t v:=U;have z:=m;obtain⟨p,q,M,hV,rfl,hfz,hnd⟩:=m;have hA:DataW.TrodAll enc prog W 0 (fun _=>true) true f3.params.toList Z.toList ds p:=M;rw[params3]at hA Y;obtain⟨K,vs0,d0,ds0,p0,q0,J,rfl,rfl,h0,b9⟩:=trodAll_cons hA;obtain⟨v1,vs1,d1,ds1,p1,q1,rfl,rfl,rfl,h1,aK⟩:=trodAll_cons b9;obtain⟨v2,vs2,d2,ds2,p2,q2,rfl,rfl,rfl,h2,bB⟩:=trodAll_cons aK;obtain⟨rfl,rfl,rfl⟩:=trodAll_nil bB;obtain rfl:Z=#[K,v1,v2]:=by cases Z;simp_all
 obtain⟨rfl,rfl⟩:=trodVars_none hV;have k0:=Y 0 22 K rfl rfl;obtain⟨bK,rfl,rfl,rfl,dd⟩:=open_int underlying3 (Y 1 3 v1 rfl rfl) h1;obtain⟨bW,rfl,rfl,rfl,w2⟩:=open_int underlying3 (Y 2 3 v2 rfl rfl) h2;clear M U;refine(zfQ W K k0 h0 bK bW).mono fun e W' ⟨he,o⟩=>?_;subst he;exact⟨_,rfl,T5 (pv:=[]) z (fun _ _ _=>(El (shut_bool underlying4 _) trodAll_mk0)) (fun sp L=>(El (zfw aG aG (sR aG) h0 o (fun p hp=>z.lt p hp) (fun x hx=>by simp[hx]) L) (El (shut_int underlying3 dd) (El (shut_int underlying3 w2) trodAll_mk0)))) (fun _ _=>rfl) az o (ok_one aG rfl (okWide_bool_mk underlying4 _))⟩
def over:Rows.iRValidPartsRow.holds Try.pinned (OpenSpec.ofChange Rows.iRValidPartsSpec):=
 OpenClaim.holds_of_wide 3 f3 rfl rfl rfl rfl rfl rfl rfl ⟨rfl,rfl,rfl,rfl,rfl⟩ rfl rfl rfl rfl rfl aG func3 aG
  (sR aG) (by unfold Func.isWrapper;first|(rw[ay (by decide +kernel)];kernel_rfl)|(rw[af (by decide +kernel)];exact⟨rfl,rfl⟩))
  (fun I V H enc _=>zfR I V H enc)
def proved:Rows.IRValidPartsSaid:=
 over
#print axioms proved
end Go.Proofs.Ytbflaciihaijgaa.irValidParts
