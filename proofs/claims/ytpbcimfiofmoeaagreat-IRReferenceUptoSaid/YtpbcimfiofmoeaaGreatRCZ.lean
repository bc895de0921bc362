/-
  The Go function fullinglaw7.IRReference returns true whatever its arguments are (of bounded bulk), and leaves all memory that was there as it was.
-/
import Derived.OpenShut
import Derived.ProofKit
import Derived.Test.YtpbcimfiofmoeaaGreatRCU
import Derived.WalkKit
set_option linter.unusedSimpArgs false
set_option linter.unusedVariables false
set_option linter.unusedSectionVars false
set_option linter.defProp false
set_option maxHeartbeats 32000000
namespace Go.Ab
set_option maxRecDepth 20000
open Go
def wB:=@Go.ChangeShapes.trodAll_cons
def uI:=@Go.trodAll_cons_mk
end Go.Ab
namespace Go.Proofs.YtpbcimfiofmoeaaGreat.iRReference
set_option maxRecDepth 20000
open Go Go.Ab
def tyIRReference.tyF:=ad @dC (ad @tM (ad @eU (ad @ge (ad @en (ad @jO (ad @DB (ad @DC (ad @IB (ad @S1 (ad @jP (ad @BW (ad @oT (ad @mc (@md))))))))))))))
open tyIRReference Go.ChangeShapes Go.WideShapes Go.ChangeAt Go.RowKit
theorem own:ownKnob Tryz.prog.godebug=none:=aC
noncomputable def OK:{c:SC // aS 125 (Tryz.f3.body.getD .skip)=c}:=by
 refine⟨?_,?_⟩;rotate_left
 .simp only[Tryz.f3,cj,aS,zen,zel,zeu,zev,Nat.blt,Nat.ble];rfl
noncomputable def OL:En:=⟨21,false,fun args=>tm knIEx.list 21 args⟩
theorem zt7(ρ:Nat->Int):zeO Tryz.prog ρ OL:=fun args r hr=>zH (knIEx.ok ρ) _ args r hr
noncomputable def yK:List En:=[OA,FA,FB,lN,rx,vN,wd,FC,FF,FE,AE,x6,OL]
theorem zxL(ρ:Nat->Int):fH Tryz.prog ρ yK:=⟨zxH ρ,zxe ρ,zs4 ρ,vV ρ,Fl ρ,Km ρ,L5 ρ,zxf ρ,zxh ρ,zor ρ,J5 ρ,EI ρ,zt7 ρ,trivial⟩
theorem zdG(H:Hp):zd5 Tryz.prog (zdW pls yK) 21 [] H fun v H'=>v=.bool true/\H'=H:=DP rfl
theorem kUn(l:List Int)(h:l.length<2^63/\gp l)(H:Hp):zd5 Tryz.prog (zdW pls yK) 9 [zgb l] H fun v H'=>v=.agg (pH l).cells/\H'=H:=zeJ (enc:=fun l=>[zgb l]) (ok:=fun l=>l.length<2^63/\gp l) (out:=fun l=>.agg (pH l).cells) (fun x y h=>L0 jM) (x:=l) rfl h
theorem zoJ(l:List Nd)(i:Int)(h:l.length<2^30):(iT l i).length<2^60:=by
 by_cases c:zeY l i=0
 .rw[iT,aE c];simp
 .have hi:0<=i/\i<l.length:=by
   by_cases c2:i<0\/(l.length:Int)<=i
   .rw[zeY,aE c2]at c;exact absurd rfl c
   .omega
  obtain⟨k,rfl⟩:=gG hi.1;have e:(iT l (k:Int)).length<=k+1:=by
   rw[Av];split
   .simp
   .rw[dy];exact dr (AA _ _) aK
  omega
theorem zq6{P:Program}{cfg:Cfg}{x y:Operand}{t u:TypeId}{E:aG}{zeo H0' H:Hp}{k:IntKind}{a b:Int}(h:zd0 E x=some (.int k a))(h2:zd0 E y=some (.int k b)):oU P cfg ⟨.call ⟨.builtin .min,#[x,y],#[t,u]⟩,true,E,zeo,.int k (min a b),H0'⟩ H:=
 ⟨H,by
  have e:oH false (AV.int k a) [AV.int k b]=some (.int k (min a b)):=by
   by_cases c:b<a
   .simp[oH,mm,c];omega
   .simp[oH,mm,c];omega
  simp only[zfk,qB,zfV,h,h2,oI,e,zfM]⟩
theorem OM{p:Pr}{n:Nat}{f:Fu}{g:Gr}(h:lS p n f=some g):g.nodes≠[]:=by
 unfold lS at h;simp only[gL]at h;obtain⟨s,h1,v,h2,rfl⟩:=h;have h0:v.2.l[0]?=some ⟨26,0,[]⟩:=OG (((zoI f).le.trans ((ml _ _).2.1 _ _ _ h1).1.l).trans (zfx _ _ _ _ _ h2).le.l) rfl;intro e;have e':v.2.l=[]:=e;rw[e']at h0;cases h0
set_option maxRecDepth 100000 in
theorem law(raw:List Nd)(l m:List Int)(how a op:Int)(hraw:zfi raw)(hl:l.length<2^63)(hm:m.length<2^63)(hR:gp m):zd5 Tryz.prog (zdW pls yK) 3 [zfe raw,zgb l,zgb m,.int .i64 how,.int .i64 a,.int .i64 op] zeo fun v _=>v=.bool true:=by
 have hw:Plain (zdW pls yK) 3:=zfv (fun _=>rfl) rfl;obtain⟨f,g,hlow,hfF,hfG,hf1,hg1,hf2,hg2⟩:=zxF hR;have hu:pH m=⟨mr (m.take 60),[f,g]⟩:=by rw[pH,hlow]
 have huc:(pH m).cells=[.lst ((mr (m.take 60)).map Ar.cells),.lst ([f,g].map Gr.cells)]:=by rw[hu];rfl
 have ku:=kUn m ⟨hm,hR⟩;rw[huc]at ku;have hno:zfi (jD l false)/\jD l false≠[]:=⟨L4 l,Lt l false⟩;obtain⟨hx,hlx,_⟩:=zxg l how a;change zd5 _ _ _ [zfe raw,zeG l,zeG m,.int .i64 how,.int .i64 a,.int .i64 op] _ _;change ∀H,zd5 _ _ _ [zeG m] H _ at ku;generalize hxe:kx (jD l false) how a=x at hx hlx;have hp:=zfP (n:=a) (m:=2) ac ac;have hgs:∀x∈([f,g]:List Gr),zfi x.nodes/\x.nodes≠[]/\x.nodes.length<=965/\∀n∈x.nodes,n.kids.length<=40:=fun x hx=>by
  simp only[jC]at hx;rcases hx with rfl|rfl
  .exact⟨⟨ac,fun n hn=>by have:=hf2 n hn;omega⟩,OM hfF,hf1,hf2⟩
  .exact⟨⟨ac,fun n hn=>by have:=hg2 n hn;omega⟩,OM hfG,hg1,hg2⟩
 have hgl:([f,g]:List Gr).length=2:=rfl;generalize (mr (m.take 60)).map Ar.cells=ars at *;generalize ([f,g]:List Gr)=gs at *;obtain⟨kk,hkk⟩:=gG hp.1;rw[hkk]at hp;have hkl:kk<gs.length:=ac;have hgx:gs[kk]?=some gs[kk]:=br hkl;obtain⟨hk1,hk2,hk3,hk4⟩:=hgs _ (dX hkl);generalize gs[kk]=gk at *;have hrl:min raw.length 30<=raw.length:=Nat.min_le_left _ _;have hsl:=EE raw (min raw.length 30) hrl;have hmn:((min raw.length 30:Nat):Int)=min (raw.length:Int) 30:=ac;rw[hmn]at hsl;have hrr:zfi (raw.take (min raw.length 30)):=hraw.take _;have hrk:(raw.take (min raw.length 30)).length<=30:=pQ;generalize raw.take (min raw.length 30)=rr at *;have hq2:(2:Int)≠0:=aY;have bs4:∀(H:Hp) (v0 v1 v2 v3:List (List AV)),zfn Tryz.prog H 34 4 [(0,.lst v0),(1,.lst v1),(2,.lst v2),(3,.lst v3)]=some (.sl H.next 0 4 1,H.alloc (.cells [.lst v0,.lst v1,.lst v2,.lst v3] 0 true)):=fun H v0 v1 v2 v3=>aC;refine zed (M:=125) (rs:=[.tmp 12]) (hw.call _) hw.ice hw.froz Tryz.func3 rfl rfl OK.2 rfl ?_;dsimp only[OK,zd8,Nat.reduceAdd];repeat' (first
  |(apply au ?_;clear hK K)|apply Rx.o ?_|apply ba ?_|(apply eu ?_;first|refine Rx.k (ku _) ?_|refine Rx.k (zaR (fun _=>rfl) _ hl _) ?_|refine Rx.k (L3 (fun _=>rfl) _ _ _ hno _) ?_|refine Rx.k (L3 (fun _=>rfl) _ _ _ ⟨hk1,hk2⟩ _) ?_|refine Rx.k (zfZ (fun _=>rfl) _ _ aY _) ?_)|apply am ?_|(apply zdQ fun K hK=>?_)|(apply zdP 2 [(2,6),(2,8),(2,11),(2,15),(2,22),(2,26),(3,6),(3,8),(3,11),(3,15),(3,22),(3,26),(4,6),(4,8),(4,11),(4,15),(4,22),(4,26),(13,6),(13,8),(13,11),(13,15),(13,22),(18,22),(23,26),(24,26)] fun K hK=>?_)|(apply zdP 9 [(6,2),(6,8)] fun K hK=>?_)|(apply zdU ?_;try intro _)|(apply zdV ?_ ?_<;>clear hK K)|apply aH ?_|apply aA ?_|apply zdR ?_|apply aB ?_|apply zdT ?_)
 ·(refine⟨?_,?_⟩<;>simp only[nH,r8,kH,sc,nP,z7,Dw,zea,zef,aM,mJ,aX]<;>(repeat' apply ad)<;>first
    |(intro r hr;cases hr;done)
    |(refine Iq I8 (fun hd=>?_)
      simp only[vm,nH,r8,kH,sc,nP,z7]at hd⊢;first
      |(cases hd;done)
      |exact Ik (by(try simp only[zdX,Nat.reduceBEq,hxe,hsl,hgx,hkk, *]);first|done|with_reducible rfl) (by(try simp only[zdX,zd2,Nat.reduceBEq,Nat.reduceAdd,Nat.reduceLeDiff,tyF,hxe,hsl,hgx,hkk, *]);first|done|with_reducible rfl)
      |exact Il (by(try simp only[zdX,Nat.reduceBEq,hxe,hsl,hgx,hkk, *]);first|done|with_reducible rfl) (by(try simp only[zdX,Nat.reduceBEq,hxe,hsl,hgx,hkk, *]);first|done|with_reducible rfl) (by(try simp only[zdX,zd2,Nat.reduceBEq,Nat.reduceAdd,Nat.reduceLeDiff,tyF,hxe,hsl,hgx,hkk, *]);first|done|with_reducible rfl)
      |exact Im (by(try simp only[zdX,Nat.reduceBEq,hxe,hsl,hgx,hkk, *]);first|done|with_reducible rfl) (by(try simp only[zdX,zd2,Nat.reduceBEq,Nat.reduceAdd,Nat.reduceLeDiff,tyF,hxe,hsl,hgx,hkk, *]);first|done|with_reducible rfl)
      |exact In (by(try simp only[zdX,Nat.reduceBEq,hxe,hsl,hgx,hkk, *]);first|done|with_reducible rfl) (by(try simp only[zdX,zd2,Nat.reduceBEq,Nat.reduceAdd,Nat.reduceLeDiff,tyF,hxe,hsl,hgx,hkk, *]);first|done|with_reducible rfl)
      |exact Io (by(try simp only[zdX,Nat.reduceBEq,hxe,hsl,hgx,hkk, *]);first|done|with_reducible rfl) (by simp only[zf5];first|rfl|simp only[zdX,Nat.reduceBEq, *]) (by simp only[zf5];first|rfl|simp only[zdX,Nat.reduceBEq, *]) (by(try simp only[zdX,zd2,Nat.reduceBEq,Nat.reduceAdd,Nat.reduceLeDiff,tyF,hxe,hsl,hgx,hkk, *]);first|done|with_reducible rfl)
      |exact Ip rfl (by(try simp only[zdX,zd2,Nat.reduceBEq,Nat.reduceAdd,Nat.reduceLeDiff,tyF,hxe,hsl,hgx,hkk, *]);first|done|with_reducible rfl) (by(try simp only[zdX,zd2,Nat.reduceBEq,Nat.reduceAdd,Nat.reduceLeDiff,tyF,hxe,hsl,hgx,hkk, *]);first|done|with_reducible rfl)
      |skip)
    |exact aM _
    |assumption
    |omega
    |skip)
  all_goals (first|exact zq6 eV eV|trace_state)
 obtain⟨ls,hls⟩:∃ls:List (List Nd),[rr,jD l false,x,kx gk.nodes how (IntKind.wrap .i64 (a.tdiv 2))]=ls:=⟨_,rfl⟩;have hll:ls.length=4:=by rw[<-hls];rfl
 have hlk:∀x∈ls,zfi x:=by
  rw[<-hls];intro z hz;simp only[jC]at hz;rcases hz with rfl|rfl|rfl|rfl
  .exact hrr
  .exact L4 l
  .exact hx
  .exact⟨by have:=Lr gk.nodes how (IntKind.wrap .i64 (a.tdiv 2));omega,fun n hn=>by have:=Ls (c:=40) hk4 how (IntKind.wrap .i64 (a.tdiv 2)) n hn;omega⟩
 generalize hH1:Hp.alloc (Hp.set _ _ _) _=H1;have g1:H1.get 1=some (.cells (ls.map fun x=>AV.lst (x.map Nd.cells)) 0 true):=by
  rw[<-hH1,<-hls,zd1,aE ei];rfl
 have zfm:2<=H1.next:=by rw[<-hH1];exact aM _
 clear hH1;refine zeL [4,5,12,50,51] [1] 52 4 (fun i E H=>True) eE trivial ?_;rintro i E H2 hi hcE hrH hnH hsI _;(try simp only[zec,zeb,aX,zdX,zd2,Nat.reduceBEq,Nat.reduceAdd,Nat.reduceLeDiff,tyF, *]at hcE);(try simp only[zec,zeb,aX,zdX,zd2,Nat.reduceBEq,Nat.reduceAdd,Nat.reduceLeDiff,tyF, *]at hrH);(try simp only[zea,zef,zeB,bT,Nat.reduceAdd]at hnH);have hB0:(1 == H2.next)=false:=zeq ac;have hC0:(H2.next == 1)=false:=zeq ac;have g2:=hrH;by_cases hlt:i<4
 .have hlt':(i:Int)<((4:Nat):Int):=by omega
  have hlx:ls[i]?=some (ls[i]' ac):=br ac;have hok:=hlk _ (dX (by omega:i<ls.length));generalize ls[i]' ac=y at *;have ix:zeE Tryz.prog 34 (.sl 1 0 4 1) (.int .i64 (i:Int))=some (.ptr 1 i):=by
   rw[mL Tryz.underlying34 Iv hlt];simp
  have hy1:=hok.1;have hy2:IntKind.wrap .i64 ((y.length:Int)+2)=(y.length:Int)+2:=zft ac ac;have hy3:(y.length:Int)+2≠0:=ac;have hdl:(iT y (IntKind.wrap .i64 (zei a ((y.length:Int)+2)-1))).length<2^60:=zoJ _ _ hy1;repeat' (first
   |(apply au ?_;clear hK K)|apply Ry.o ?_|(apply dq ?_;first|refine Rx.k (Fm (fun _=>rfl) _ hok _) ?_)|(apply bS (fun hg hgp=>?_) (fun hg hgp=>?_)<;>try(cases hg;done))|(apply aV (fun hb hbp=>?_) (fun hb hbp=>?_)<;>try(cases hb;done))|apply am ?_|(apply zdQ fun K hK=>?_)|(apply zdP 2 [(2,6),(2,8),(2,11),(2,15),(2,22),(2,26),(3,6),(3,8),(3,11),(3,15),(3,22),(3,26),(4,6),(4,8),(4,11),(4,15),(4,22),(4,26),(13,6),(13,8),(13,11),(13,15),(13,22),(18,22),(23,26),(24,26)] fun K hK=>?_)|(apply zdP 9 [(6,2),(6,8)] fun K hK=>?_)|(apply zdU ?_;try intro _)|(apply zdV ?_ ?_<;>clear hK K)|apply aH ?_|apply aA ?_|apply zdR ?_|apply aB ?_|apply zdT ?_)
  refine zeL [4,5,12,15,16,50,51,52,59] [1] 60 y.length (fun i E H=>True) eE trivial ?_;rintro j E3 H3 hj hcE hrH hnH hsI _;(try simp only[zec,zeb,aX,zdX,zd2,Nat.reduceBEq,Nat.reduceAdd,Nat.reduceLeDiff,tyF, *]at hcE);(try simp only[zec,zeb,aX,zdX,zd2,Nat.reduceBEq,Nat.reduceAdd,Nat.reduceLeDiff,tyF, *]at hrH);(try simp only[zea,zef,zeB,bT,Nat.reduceAdd]at hnH);have hB0:(1 == H3.next)=false:=zeq ac;have hC0:(H3.next == 1)=false:=zeq ac;by_cases hlj:j<y.length
  .have hlj':(j:Int)<y.length:=by omega
   have hsg:(zew y y.length)[j]?=some (zeY y j):=by
    rw[<-t0 hlj (aM _),dM,br (by rw[zgC];exact hlj)];rfl
   repeat' (first
    |(apply au ?_;clear hK K)|apply Ry.o ?_|(apply dq ?_;first|refine Rx.k (AN (fun _=>rfl) _ _ hok _) ?_)|(apply bS (fun hg hgp=>?_) (fun hg hgp=>?_)<;>try(cases hg;done))|(apply aV (fun hb hbp=>?_) (fun hb hbp=>?_)<;>try(cases hb;done))|apply am ?_|(apply zdQ fun K hK=>?_)|(apply zdP 2 [(2,6),(2,8),(2,11),(2,15),(2,22),(2,26),(3,6),(3,8),(3,11),(3,15),(3,22),(3,26),(4,6),(4,8),(4,11),(4,15),(4,22),(4,26),(13,6),(13,8),(13,11),(13,15),(13,22),(18,22),(23,26),(24,26)] fun K hK=>?_)|(apply zdP 9 [(6,2),(6,8)] fun K hK=>?_)|(apply zdU ?_;try intro _)|(apply zdV ?_ ?_<;>clear hK K)|apply aH ?_|apply aA ?_|apply zdR ?_|apply aB ?_|apply zdT ?_)
   .exact eK
   refine⟨ac,zd7,zd7,eN,(by simp only[zdX,Nat.reduceBEq, *];exact zfQ (n:=y.length) ac ac),?_⟩;trivial
  .have hlj':¬(j:Int)<y.length:=by omega
   repeat' (first
    |(apply au ?_;clear hK K)|apply Ry.o ?_|(apply dq ?_;first|refine Rx.k (zfZ (fun _=>rfl) _ _ hy3 _) ?_|refine Rx.k (AN (fun _=>rfl) _ _ hok _) ?_|refine Rx.k (FD (fun _=>rfl) _ _ hok _) ?_|refine Rx.k (zaU (fun _=>rfl) _ _ hok _) ?_|refine Rx.k (za2 (fun _=>rfl) _ _ hok _) ?_|refine Rx.k (za0 (fun _=>rfl) _ _ hdl _) ?_)|(apply bS (fun hg hgp=>?_) (fun hg hgp=>?_)<;>try(cases hg;done))|(apply aV (fun hb hbp=>?_) (fun hb hbp=>?_)<;>try(cases hb;done))|apply am ?_|(apply zdQ fun K hK=>?_)|(apply zdP 2 [(2,6),(2,8),(2,11),(2,15),(2,22),(2,26),(3,6),(3,8),(3,11),(3,15),(3,22),(3,26),(4,6),(4,8),(4,11),(4,15),(4,22),(4,26),(13,6),(13,8),(13,11),(13,15),(13,22),(18,22),(23,26),(24,26)] fun K hK=>?_)|(apply zdP 9 [(6,2),(6,8)] fun K hK=>?_)|(apply zdU ?_;try intro _)|(apply zdV ?_ ?_<;>clear hK K)|apply aH ?_|apply aA ?_|apply zdR ?_|apply aB ?_|apply zdT ?_)
   refine⟨ac,zd7,zd7,eN,(by simp only[zdX,Nat.reduceBEq, *];exact zfQ (n:=4) ac ac),?_⟩;trivial
 .have hlt':¬(i:Int)<((4:Nat):Int):=by omega
  have bs2:∀(H:Hp) (p q:Int),zfn Tryz.prog H 23 2 [(0,.int .i64 p),(1,.int .i64 q)]=some (.sl H.next 0 2 1,H.alloc (.cells [.int .i64 p,.int .i64 q] 0 true)):=fun H p q=>aC;repeat' (first
   |(apply au ?_;clear hK K)|apply Ry.o ?_|(apply dq ?_;first|refine Rx.k (zfZ (fun _=>rfl) _ _ aY _) ?_)|(apply bS (fun hg hgp=>?_) (fun hg hgp=>?_)<;>try(cases hg;done))|(apply aV (fun hb hbp=>?_) (fun hb hbp=>?_)<;>try(cases hb;done))|apply am ?_|(apply zdQ fun K hK=>?_)|(apply zdP 2 [(2,6),(2,8),(2,11),(2,15),(2,22),(2,26),(3,6),(3,8),(3,11),(3,15),(3,22),(3,26),(4,6),(4,8),(4,11),(4,15),(4,22),(4,26),(13,6),(13,8),(13,11),(13,15),(13,22),(18,22),(23,26),(24,26)] fun K hK=>?_)|(apply zdP 9 [(6,2),(6,8)] fun K hK=>?_)|(apply zdU ?_;try intro _)|(apply zdV ?_ ?_<;>clear hK K)|apply aH ?_|apply aA ?_|apply zdR ?_|apply aB ?_|apply zdT ?_)
  generalize zei op 40=op2;generalize hH3:Hp.alloc H2 _=H3;have g3:H3.get H2.next=some (.cells [.int .i64 op,.int .i64 op2] 0 true):=by rw[<-hH3,zd1,aE rfl]
  have n3:H2.next+1<=H3.next:=by rw[<-hH3];exact aM _
  clear hH3;have i20:∀r,zeE Tryz.prog 23 (.sl r 0 2 1) (.int .i64 ((0:Nat):Int))=some (.ptr r 0):=fun r=>aC;have i21:∀r,zeE Tryz.prog 23 (.sl r 0 2 1) (.int .i64 ((1:Nat):Int))=some (.ptr r 1):=fun r=>aC;have hav:∀n,fy n=.tup [.int .i64 (bH n).1,.bool (bH n).2]:=fun _=>rfl;have hbn:∀D (b:Bool),jS Tryz.prog D .neq 4 (.bool b) (.bool b)=some (.bool false):=fun D b=>by cases b<;>kernel_rfl
  refine zeL [12,99,100] [H2.next] 101 2 (fun i E H=>True) eE trivial ?_;rintro j E4 H4 hj hcE hrH hnH hsI _;(try simp only[zec,zeb,aX,zdX,zd2,Nat.reduceBEq,Nat.reduceAdd,Nat.reduceLeDiff,tyF, *]at hcE);(try simp only[zec,zeb,aX,zdX,zd2,Nat.reduceBEq,Nat.reduceAdd,Nat.reduceLeDiff,tyF, *]at hrH);(try simp only[zea,zef,zeB,bT,Nat.reduceAdd]at hnH);by_cases hl2:j<2
  .rcases(show j=0\/j=1 by omega)with rfl|rfl;all_goals
    repeat' (first
     |(apply au ?_;clear hK K)|apply Ry.o ?_|(apply dq ?_;first|refine Rx.k (sB (fun _=>rfl) _ _) ?_|refine Rx.k (jA (fun _=>rfl) _ _) ?_)|(apply bS (fun hg hgp=>?_) (fun hg hgp=>?_)<;>try(cases hg;done))|(apply aV (fun hb hbp=>?_) (fun hb hbp=>?_)<;>try(cases hb;done))|apply am ?_|(apply zdQ fun K hK=>?_)|(apply zdP 2 [(2,6),(2,8),(2,11),(2,15),(2,22),(2,26),(3,6),(3,8),(3,11),(3,15),(3,22),(3,26),(4,6),(4,8),(4,11),(4,15),(4,22),(4,26),(13,6),(13,8),(13,11),(13,15),(13,22),(18,22),(23,26),(24,26)] fun K hK=>?_)|(apply zdP 9 [(6,2),(6,8)] fun K hK=>?_)|(apply zdU ?_;try intro _)|(apply zdV ?_ ?_<;>clear hK K)|apply aH ?_|apply aA ?_|apply zdR ?_|apply aB ?_|apply zdT ?_)
    refine⟨ac,zd7,zd7,eN,KY,?_⟩;trivial
  .have hl2':¬(j:Int)<((2:Nat):Int):=by omega
   repeat' (first
    |(apply au ?_;clear hK K)|apply Ry.o ?_|(apply dq ?_;first|refine Rx.k (zdG _) ?_)|(apply bS (fun hg hgp=>?_) (fun hg hgp=>?_)<;>try(cases hg;done))|(apply aV (fun hb hbp=>?_) (fun hb hbp=>?_)<;>try(cases hb;done))|apply am ?_|(apply zdQ fun K hK=>?_)|(apply zdP 2 [(2,6),(2,8),(2,11),(2,15),(2,22),(2,26),(3,6),(3,8),(3,11),(3,15),(3,22),(3,26),(4,6),(4,8),(4,11),(4,15),(4,22),(4,26),(13,6),(13,8),(13,11),(13,15),(13,22),(18,22),(23,26),(24,26)] fun K hK=>?_)|(apply zdP 9 [(6,2),(6,8)] fun K hK=>?_)|(apply zdU ?_;try intro _)|(apply zdV ?_ ?_<;>clear hK K)|apply aH ?_|apply aA ?_|apply zdR ?_|apply aB ?_|apply zdT ?_)
   all_goals (refine⟨zdZ,_,zd6,?_⟩;try simp only[zdY])
theorem con(raw:List Nd)(hraw:zfi raw)(l m:List Int)(a b c:Int)(hl:l.length<2^63)(hm:m.length<2^63)(hR:gp m):bV Tryz.prog (fun _=>0) 3 [zfe raw,zgb l,zgb m,.int .i64 a,.int .i64 b,.int .i64 c] (.bool true):=
 zfq fit (pls:=pls) (zxL _) (.cons (mR _) (.cons (Bw l) (.cons (Bw m) (.cons (.int _ _) (.cons (.int _ _) (.cons (.int _ _) .nil)))))) (.bool _) (law raw l m a b c hraw hl hm hR)
set_option maxRecDepth 100000 in
theorem zdL{H:Type}{enc:TypeId×Value->H}(W:World)(v0:Value){r:Reach}{b0:Nat}(k0:Value.okWide Tryz.prog W r b0 22 v0){d:DataW H}{ps:List MemPlace}{sp:Nat->Bool}{held:Bool}(h0:DataW.Trod enc Tryz.prog W 0 sp held 22 v0 d ps)(s0:Rows.uptoBulk d<=1048576)
 (v1:Value) {r':Reach}{b0':Nat} (k1:Value.okWide Tryz.prog W r' b0' 23 v1) {d':DataW H}{ps':List MemPlace}{sp':Nat->Bool}{held':Bool} (h1:DataW.Trod enc Tryz.prog W 0 sp' held' 23 v1 d' ps') (s1:Rows.uptoBulk d'<=1048576)
 (v2:Value) {r2:Reach}{b2:Nat} (k2:Value.okWide Tryz.prog W r2 b2 23 v2) {d2:DataW H}{ps2:List MemPlace}{sp2:Nat->Bool}{held2:Bool} (h2:DataW.Trod enc Tryz.prog W 0 sp2 held2 23 v2 d2 ps2) (s2:Rows.uptoBulk d2<=1048576) (a1 a2 a3:Int) :
 Calls Tryz.prog 3 #[v0,v1,v2,.int .i64 a1,.int .i64 a2,.int .i64 a3] W fun e w'=>e=.returned (.bool true)/\Below W.heap.size W w':=by
 obtain⟨raw,hv0,z1,z2⟩:=zq5 k0 h0;obtain⟨l,hv,hl⟩:=zqJ k1 h1;obtain⟨m,hvm,hm,hR⟩:=zop k2 h2;exact HK (ρ:=fun _=>0) (F:=oq W) (con raw ⟨ac,fun n hn=>by have:=z2 n hn;omega⟩ l m a1 a2 a3 hl hm hR) (zxc W) (iE hv0 (iE hv (iE hvm (iE (.int .i64 a1) (iE (.int .i64 a2) (iE (.int .i64 a3) (j8 _)))))))
set_option maxRecDepth 100000 in
theorem zdM(os:Os)(started:os.Started)(H:Type)(enc:TypeId×Value->H)(F:Stop.Interp):
 ReturnsInHanded {} Tryz.checked os 3 .any ((Rows.OpenSpec.upto Rows.iRReferenceSpec).pre6 enc Tryz.prog Tryz.f3 Rows.iRReferenceUptoRow.domain false) (((Rows.OpenSpec.upto Rows.iRReferenceSpec).at F).post enc Tryz.prog Tryz.f3 false true false false):=by
 refine returnsInHanded_of_cond (C:=Tryz.checked) (s:=Rows.OpenSpec.upto Rows.iRReferenceSpec) (k:=Rows.uptoSmall) rfl own started aC Tryz.func3
  (OpenSpec.witness (enc:=enc) (C:=Tryz.checked) (s:=Rows.OpenSpec.upto Rows.iRReferenceSpec) (k:=Rows.uptoSmall) rfl false ⟨#[],#[.slice none 0 0,.slice none 0 0,.slice none 0 0,.int .i64 0,.int .i64 0,.int .i64 0],[]⟩ 8 aC aC aC
    (x:=([.nil,.nil,.nil,.lit (.int .i64 0),.lit (.int .i64 0),.lit (.int .i64 0)],[],[])) aC rfl aC) ?_
 intro W base args ds gs before hval0 hW _ hk _;have hval:∀(j:Nat) t v,Tryz.f3.params[j]?=some t->args[j]?=some v->Value.okWide Tryz.prog W .any base t v:=hval0;have hW':=hW;obtain⟨p,q,hA0,hV,rfl,hfz,hnd⟩:=hW;have hA:DataW.TrodAll enc Tryz.prog W 0 (fun _=>true) true Tryz.f3.params.toList args.toList ds p:=hA0;rw[Tryz.params3]at hA hval;obtain⟨v0,vs0,d0,ds0,p0,q0,hargs,rfl,rfl,h0,zee⟩:=wB hA;obtain⟨v1,vs1,d1,ds1,p1,q1,rfl,rfl,rfl,h1,r1⟩:=wB zee;obtain⟨v2,vs2,d2,ds2,p2,q2,rfl,rfl,rfl,h2,r2⟩:=wB r1;obtain⟨v3,vs3,d3,ds3,p3,q3,rfl,rfl,rfl,h3,r3⟩:=wB r2;obtain⟨v4,vs4,d4,ds4,p4,q4,rfl,rfl,rfl,h4,r4⟩:=wB r3;obtain⟨v5,vs5,d5,ds5,p5,q5,rfl,rfl,rfl,h5,r5⟩:=wB r4;obtain⟨rfl,rfl,rfl⟩:=trodAll_nil r5;obtain rfl:args=#[v0,v1,v2,v3,v4,v5]:=by cases args;simp_all
 obtain⟨rfl,rfl⟩:=trodVars_none hV;have hk2:=mO hk;simp only[ll,Rows.uptoBulkAll]at hk2;have k0:=hval 0 22 v0 rfl rfl;have b0:Rows.uptoBulk d0<=1048576:=ac;have k1:=hval 1 23 v1 rfl rfl;have b1:Rows.uptoBulk d1<=1048576:=ac;have k2:=hval 2 23 v2 rfl rfl;have b2:Rows.uptoBulk d2<=1048576:=ac;obtain⟨a3,rfl,rfl,rfl,w3⟩:=open_int Tryz.underlying3 (hval 3 3 v3 rfl rfl) h3;obtain⟨a4,rfl,rfl,rfl,w4⟩:=open_int Tryz.underlying3 (hval 4 3 v4 rfl rfl) h4;obtain⟨a5,rfl,rfl,rfl,w5⟩:=open_int Tryz.underlying3 (hval 5 3 v5 rfl rfl) h5;clear hA0 hval0 hk2;refine(zdL W v0 k0 h0 b0 v1 k1 h1 b1 v2 k2 h2 b2 a3 a4 a5).mono fun e W' ⟨he,hg⟩=>?_;subst he;exact⟨_,rfl,Qd (pv:=[]) hW' (fun _ _ _=>(uI (shut_bool Tryz.underlying4 _) trodAll_mk0)) (fun sp hsp=>(uI (Fz aC aC (mO aC) h0 hg (fun p hp=>hW'.lt p hp) (fun x hx=>by simp[hx]) hsp) (uI (Fz aC aC (mO aC) h1 hg (fun p hp=>hW'.lt p hp) (fun x hx=>by simp[hx]) hsp) (uI (Fz aC aC (mO aC) h2 hg (fun p hp=>hW'.lt p hp) (fun x hx=>by simp[hx]) hsp) (uI (shut_int Tryz.underlying3 w3) (uI (shut_int Tryz.underlying3 w4) (uI (shut_int Tryz.underlying3 w5) trodAll_mk0))))))) (fun _ _=>rfl) aK hg (ok_one aC rfl (okWide_bool_mk Tryz.underlying4 _))⟩
theorem proved:Rows.IRReferenceUptoSaid:=
 OpenClaim.holds_of_cond 3 Tryz.f3 rfl rfl rfl rfl rfl rfl rfl ⟨rfl,rfl,rfl,rfl,rfl⟩ rfl rfl rfl rfl rfl aC Tryz.func3 aC
  (mO aC) (by unfold Func.isWrapper;first|(rw[aE (by decide +kernel)];kernel_rfl)|(rw[ah (by decide +kernel)];exact⟨rfl,rfl⟩))
  (fun os started H enc _ F=>zdM os started H enc F)
#print axioms proved
end Go.Proofs.YtpbcimfiofmoeaaGreat.iRReference
