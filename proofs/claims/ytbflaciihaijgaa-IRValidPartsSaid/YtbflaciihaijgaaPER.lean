/- Lemmas for the last file. -/
import Derived.Deep.Slices
import Derived.Test.YtbflaciihaijgaaPEQ
import Derived.WideKeyArgs
import Derived.WideShapes
set_option linter.all false
set_option maxHeartbeats 32000000
namespace Go.Ab
set_option maxRecDepth 20000
open Go
variable{qd:Prop}
def QZ(h:qd:=by rw[U,show dX=70368744177664 from rfl];omega):=h
def Q0(h:qd:=by simp only[nY,hZ,iY,and_true,true_and];exact⟨tj,a.1⟩):=h
def IM(h:qd:=by simp only[iP,List.length_append,List.length_cons,List.length_nil];omega):=h
def Q1(h:qd:=by simp only[aF,Nat.reduceBEq, *];exact gQ (n:=u.funcs.length) ac ac):=h
def IN:=@List.nodup_cons
end Go.Ab
namespace Go.Proofs.Ytbflaciihaijgaa
set_option maxRecDepth 20000
open Go Go.Ab Proofs.Try
variable(ρ:Nat->Int)
variable{N O:List cc}{s:Bd}{p:Pr}{l L:qu}{S:Nat->Prop}{H:Hp}{u:Un}{c:Sc}{k:Nat}{C:Int->cK->qD×cK}{b:Ex}
section
section
variable {A:qP} {F:qN} {np:Nat} {B:Nat -> Prop}
def LG.aw(h:LG ⟨A,F,N⟩ np B s)(K:O.length=N.length):LG ⟨A,F,O⟩ np B s:=⟨h.i.aw K,h.v,h.st⟩
def LG.push(h:LG ⟨A,F,N⟩ np B s){x:Int}(I:IsM B s.l 1 x)(K:O.length=N.length+1):LG ⟨A,F,O⟩ np B {s with vars:=s.vars++[x] }:=
 ⟨h.i.push I.i K,fun y Y=>by
  rcases kU.1 Y with Y|Y
  .exact h.v y Y
  .simp only[kK]at Y;subst Y;exact I,h.st⟩
theorem Q3(o:np<=6):∀(m k:Nat) (s:Bd) (N O:List cc),LG ⟨A,F,N⟩ np B s->O.length=N.length+m->k+m<=np->LG ⟨A,F,O⟩ np B (iD m k s)/\Ql s (iD m k s)
 |0,k,s,N,O,h,hl,_=>⟨h.aw hl,wI s⟩
 |m+1,k,s,N,O,h,hl,hk=>by
  have M:fC s.l ⟨2,k,[]⟩=1:=Qm ac ac;obtain⟨bK,bW,g⟩:=sa h (n:=⟨2,k,[]⟩) M aM ⟨by show 0<=(2:Int)/\(2:Int)<256;decide,Ay,by show 0<=40;decide,fun _=>by show(k:Int)<np;omega,fun e=>by rcases e with e|e<;>exact absurd e (by show ¬(2:Int)=_;decide),fun e=>absurd e (by show ¬(2:Int)=30;decide)⟩ az az az;obtain⟨Z,i⟩:=Q3 o m (k+1) { (ax ⟨2,k,[]⟩ s).2 with vars:=(ax ⟨2,k,[]⟩ s).2.vars++[(ax ⟨2,k,[]⟩ s).1] } ([]::N) O (bK.push bW rfl) D4 ac;exact⟨Z,g.trans ⟨i.q⟩⟩
theorem Q4:∀(m:Nat) (s:Bd) (N O:List cc),LG ⟨A,F,N⟩ np B s->O.length=N.length+m->LG ⟨A,F,O⟩ np B (kH m s)/\Ql s (kH m s)
 |0,s,N,O,h,hl=>⟨h.aw hl,wI s⟩
 |m+1,s,N,O,h,hl=>by
  obtain⟨bK,bW,g⟩:=AH h (n:=0) fB;obtain⟨Z,i⟩:=Q4 m { (ax ⟨1,0,[]⟩ s).2 with vars:=(ax ⟨1,0,[]⟩ s).2.vars++[(ax ⟨1,0,[]⟩ s).1] } ([]::N) O (bK.push bW rfl) D4;exact⟨Z,g.trans ⟨i.q⟩⟩
def zeU:LG ⟨A,F,[]⟩ np B { (ax ⟨26,0,[]⟩ ⟨[],[],0,0⟩).2 with ab:=(ax ⟨26,0,[]⟩ ⟨[],[],0,0⟩).1}:=by
 have h:=IF (A:=A) (F:=F) (np:=np);refine⟨h,(fun y Y=>by cases Y),h.st,?_⟩;exact AE (l:=[]) (n:=⟨26,0,[]⟩) (fun i z=>by simp at z) (by rw[Qn];decide) az az
end
def zeV(h:zfV p){f:Fu}(Z:f∈p.funcs)(B:Nat->Prop):LG (mo p f) f.params.length B (jk f)/\LP (jk f)/\(jk f).loops=0:=by
 obtain⟨_,_,_,U⟩:=h.dj;obtain⟨l1,l2,M⟩:=U f Z;have O:=zeU (A:=p.aa) (F:=p.funcs) (np:=f.params.length) (B:=B);obtain⟨bK,bW⟩:=Q3 l1 f.params.length 0 _ [] f.params O az ac;obtain⟨m,V⟩:=Q4 f.aj.length _ f.params (f.params++f.aj) bK Ip;have c1:=IF (A:=p.aa) (F:=p.funcs) (np:=f.params.length);obtain⟨c2,L,_⟩:=ID l1 f.params.length 0 _ [] f.params c1 az ac;obtain⟨_,J,_⟩:=IE f.aj.length _ f.params (f.params++f.aj) c2 Ip;have K:∀x∈(jk f).l,x.op≠3/\x.op≠31:=fun x I=>by
  rcases(bW.trans V).q x I with i|i
  .rcases(sX (l:=[]) (n:=⟨26,0,[]⟩)).1 i with g|rfl
   .cases g
   .exact⟨az,az⟩
  .exact i
 exact⟨m,⟨fun x I e=>absurd e (K x I).2,fun x I y Y e=>absurd e (K x I).2,fun x I e=>absurd e (K x I).1,fun x I y Y e=>absurd e (K x I).2⟩,J.trans L⟩
theorem Q5(h:zfV p){n:Nat}(m:2*p.sz<n){f:Fu}(i:f∈p.funcs):
 ∃s v,gK (mo p f) n f.body (jk f)=some s/\eX (mo p f) n f.value s=some v/\LG (mo p f) f.params.length (fun _=>False) v.2/\IsM (fun _=>False) v.2.l 1 v.1/\LP v.2/\v.2.loops<=da f.body:=by
 obtain⟨_,_,_,U⟩:=h.dj;obtain⟨l1,l2,g⟩:=U f i;obtain⟨o,V⟩:=h.body i;have hc:=h.cx i;have L:=ow i;have I:p.sz=1+gp p.aa+fw p.funcs:=rfl;have z:f.sz=1+f.name.length+dU f.params+dU f.aj+bN f.body+f.value.sz:=rfl;obtain⟨K,Z,j⟩:=zeV h i fun _=>False
 obtain⟨s,C,Y,J,q3,q4⟩:=(QY hc (np:=f.params.length) n).2.1 _ f.body (jk f) o ac K Z ac;obtain⟨v,aK,bB,O,M⟩:=sc hc n f.value s V ac Y;have lv:=ev _ n _ _ _ aK;exact⟨s,v,C,aK,bB,O,J.ql M (jR lv.n.symm),by rw[lv.n];omega⟩
theorem IP:∀(l:qy) (t:qu),l.Nodup->(∀x∈l,x.op=31->0<=x.au/\x.au<16)->(∀x∈l,∀y∈l,x.op=31->y.op=31->x.au=y.au->x=y)->(∀x∈l,x.op=31->t.getD x.au.toNat 0<=0)->t.length=16 ->
 ∃K,kC l t=some K/\∀k:Nat,0<K.getD k 0->(K.getD k 0=t.getD k 0)\/∃x∈l,x.op=31/\x.au=k/\K.getD k 0=et x.ak.length
 |[],t,_,_,_,_,_=>⟨t,rfl,fun k _=>.inl rfl⟩
 |n::l,t,hnd,h0,h1,h2,hl=>by
  rw[IN]at hnd;have L:=fun x I=>h0 x (ej n I);have C:∀x∈l,∀y∈l,x.op=31->y.op=31->x.au=y.au->x=y:=fun x I y Y=>h1 x (ej n I) y (ej n Y);rw[kC];by_cases c:n.op=31
  .have V:=h2 n ei c;have hr:=h0 n ei c;rw[ay c,af ac];have j:∀k:Nat,(t.set n.au.toNat (et n.ak.length)).getD k 0=if n.au.toNat=k then et n.ak.length else t.getD k 0:=fun k=>by
    rw[dF,BB,dF];split
    .rw[ay ac];rfl
    .rfl
   obtain⟨K,e,U⟩:=IP l (t.set n.au.toNat (et n.ak.length)) hnd.2 L C (fun x I e=>by
    have M:=L x I e;rw[j,af (fun q=>hnd.1 (by rw[h1 n ei x (ej n I) c e ac];exact I))];exact h2 x (ej n I) e) (by rw[ky];exact hl)
   refine⟨K,e,fun k Z=>?_⟩;rcases U k Z with m|⟨x,I,m⟩
   .rw[j]at m;split at m
    .exact .inr ⟨n,ei,c,ac,m⟩
    .exact .inl m
   .exact .inr ⟨x,ej n I,m⟩
  .rw[af c];obtain⟨K,e,U⟩:=IP l t hnd.2 L C (fun x I=>h2 x (ej n I)) hl;refine⟨K,e,fun k Z=>?_⟩;rcases U k Z with m|⟨x,I,m⟩
   .exact .inl m
   .exact .inr ⟨x,ej n I,m⟩
theorem zeW(i:LP s)(L:s.l.Nodup)(C:s.loops<=16):lL s.l=true:=by
 have Z:∀k:Nat,(List.replicate 16 (0:Int)).getD k 0=0:=fun k=>by
  rw[dF,xB];split<;>rfl
 obtain⟨t,e,U⟩:=IP s.l (List.replicate 16 0) L (fun x I e=>by have:=i.l1 x I e;omega) i.l2 (fun x I e=>by rw[Z];exact Int.le_refl _) rfl;unfold lL;rw[e];simp only;rw[hM];intro y Y;unfold oC;by_cases c:y.op=3
 .have m:=i.l3 y Y c;by_cases c2:0<t.getD (y.au.tdiv 16).toNat 0
  .rcases U _ c2 with V|⟨x,I,ex,O,M⟩
   .rw[V,Z]at c2;omega
   .have:=i.l4 x I y Y ex c (by rw[O];have:=Int.tdiv_nonneg m.1 (show(0:Int)<=16 by omega);omega);rw[M];rw[iy (show ¬et x.ak.length<=y.au.tmod 16 by omega),sG];rfl
  .rw[iy c2,sG,jS];rfl
 .rw[iy c,jS,jS];rfl
theorem iu.zero{l:qy}{k:Int}(h:iu l (fun _=>False) k):ge l k=0:=
 Nat.eq_of_testBit_eq fun t=>by
  rw[Nat.zero_testBit];cases e:(ge l k).testBit t with
  |false=>rfl
  |true=>exact(h t e).elim
theorem zeX(p:Pr):(fA p).any (nL 90)=false:=rfl
theorem zeY{l:qA}(K:∀o,cV l 18 o=(rL If).sp o)(z:iL l 18=true){n:Nat}{cs:qs}(C:n<59)(V:cJ S n H cs p.cells)(I:p.sz<2^36):
 aY prog (aH pls l) 18 [.agg cs] H fun v H'=>v=.int .i64 (fK p)/\Icy S H H':=by
 obtain⟨us,i,g⟩:=V;refine G3 (x:=p) (enc:=fA) (ok:=fun p=>p.sz<2^36) (out:=fun p=>.int .i64 (fK p)) (us:=[.agg us]) (n:=n+1) rc (fun o=>by rw[K];rfl) z zeX I ac ⟨⟨us,i,rfl⟩,trivial⟩ ?_;show [AV.agg (us.map (cq 59))]=_;rw[g 59 ac];rfl
def tyV7.tyF:=ad @ez (ad @cR (ad @dt (ad @gH (ad @sC (ad @sD (ad @iU (ad @vB (ad @iV (ad @gO (ad @tO (ad @fb (ad @eA (ad @ft (ad @fc (ad @l8 (@l9))))))))))))))))
open tyV7
noncomputable def Q6:{c:SC // aI 43 (f7.body.getD .skip)=c}:=by
 refine⟨?_,?_⟩;rotate_left
 .simp only[f7,bS,aI,bM,bI,bT,bU,Nat.blt,Nat.ble];rfl
def iH(g:Gr):Fu:=⟨g.name,[],[],[],.mk 1 0 [] 0 []⟩
def iZ(u:Un):Pr:=⟨u.aa,u.funcs.map iH⟩
def gB(u:Un):Bool:=decide (fK (iZ u)=0)&&u.funcs.all (dV u)
structure zf0 (u:Un):Prop where
 a:u.aa.length<2^30
 f:u.funcs.length<2^30
 g:∀g∈u.funcs,mO g.ag
 z:(iZ u).sz<2^36
noncomputable def Q7:En:=⟨19,false,ch Iu wH fun x=>.bool (dV x.u x.g)⟩
def zeZ:cT prog ρ Q7:=dg fun x I=>zeu ρ x I
noncomputable def AJ:qA:=[rL If,Q7]
def ze0:gm prog ρ AJ:=⟨CL (zdp ρ),zeZ ρ,trivial⟩
def ze1(s:qw):dK prog 63 [(0,.ai s),(4,.agg [.int .i64 1,.int .i64 0,.ai [],.int .i64 0,.ah])]=some (.agg [.ai s,.ah,.ah,.ah,.int .i64 1,.int .i64 0,.ai [],.int .i64 0,.ah]):=aG
def ze2:dK prog 59 [(0,.int .i64 1)]=some (.agg [.int .i64 1,.int .i64 0,.ai [],.int .i64 0,.ah]):=aG
def ze3(a:AV)(xs:List qs)(h:a=.ao xs):dK prog 41 [(0,a)]=some (.agg [a,.ah]):=by subst h;kernel_rfl
def ze4(H:Hp)(s:qw):dW prog H 39 1 [(0,.agg [.ai s,.ah,.ah,.ah,.int .i64 1,.int .i64 0,.ai [],.int .i64 0,.ah])]=some (.sl H.next 0 1 9,H.alloc (.cells [.ai s,.ah,.ah,.ah,.int .i64 1,.int .i64 0,.ai [],.int .i64 0,.ah] 0 true)):=aG
def ze5(g:Gr):cJ S 2 H [.ai g.name,.ah,.ah,.ah,.int .i64 1,.int .i64 0,.ai [],.int .i64 0,.ah] (iH g).cells:=
 .cons (.ai _) (.cons .ah (.cons .ah (.cons .ah (.cons (.int _ _) (.cons (.int _ _) (.cons (.ai _) (.cons (.int _ _) (.cons .ah .nil))))))))
set_option maxRecDepth 100000 in
theorem ze6(u:Un)(hu:zf0 u):bX prog ρ 7 [.agg u.cells] (.bool (gB u)):=eg fit (pls:=pls) (ze0 ρ) (.cons (.agg (Un.pure _)) .nil) (.bool _) (by
 obtain⟨ha,hf,hg,hz⟩:=hu;have hw:zd0 (aH pls AJ) 7:=dG (fun _=>rfl) rfl;have hkeep:(aH pls AJ).keep 7=false:=rfl;have bP:=ze3 (.ao (u.aa.map Ar.cells)) _ rfl;refine bF (M:=43) (rs:=[.tmp 2]) (hw.call _) hw.aD hw.aq func7 rfl rfl Q6.2 rfl ?_;dsimp only[Q6,bA,Nat.reduceAdd];repeat' (first
  |(apply aj ?_;clear hK K)|apply Rx.o ?_|apply aE ?_|apply ah ?_|(apply ai fun K hK=>?_)|apply ak ?_|apply am ?_|apply aq ?_|apply aw ?_)
 refine cA [1,2,3,12,13] [0] 14 u.funcs.length (fun i E V=>∃z,V.get 1=some (.cells [.ao (u.aa.map Ar.cells),z] 0 true)/\dQ (fun k=>2<=k) 2 V 9 z (((u.funcs.map iH).take i).map Fu.cells)) eE ⟨.ah,zX,.inl ⟨rfl,rfl⟩⟩ ?_;rintro i E V hi hcE hrH O hsI ⟨z,g1,rf⟩;(try simp only[bp,bm,aU,aF,aW,Nat.reduceBEq,Nat.reduceAdd,Nat.reduceLeDiff,tyF, *]at hcE);(try simp only[bp,bm,aU,aF,aW,Nat.reduceBEq,Nat.reduceAdd,Nat.reduceLeDiff,tyF, *]at hrH);(try simp only[bj,bE,cm,bO,Nat.reduceAdd]at O);have hB0:(0 == V.next)=false:=bz ac;have hC0:(V.next == 0)=false:=bz ac;have ni:2<=V.next:=O
 obtain⟨hf1,hf2⟩:=rf.one;by_cases hlt:i<u.funcs.length
 .have hlt':(i:Int)<u.funcs.length:=by omega
  have hgx:u.funcs[i]?=some u.funcs[i]:=a0 hlt;have htk:((u.funcs.map iH).take (i+1)).map Fu.cells=((u.funcs.map iH).take i).map Fu.cells++[(iH u.funcs[i]).cells]:=by
   rw[ry,fO,hgx,sw];rfl
  have U:(((u.funcs.map iH).take i).map Fu.cells).length=i:=by rw[dx,lS,dx];omega
  generalize u.funcs[i]=g at *;have g1a:∀b c,((V.alloc b).set V.next c).get 1=some (.cells [.ao (u.aa.map Ar.cells),z] 0 true):=fun b c=>by rw[a1,af ac,aQ,af ac];exact g1
  generalize hcells:((u.funcs.map iH).take i).map Fu.cells=fs at *;have gh0:=@ze2;have gh1:=@ze1;have gh2:=@ze4;repeat' (first
   |(apply aj ?_;clear hK K)|apply Ry.o ?_|apply b8 ?_|(apply bq (fun Y Z=>?_) (fun Y Z=>?_)<;>try(cases Y;done))|apply ah ?_|(apply ai fun K hK=>?_)|apply ak ?_|apply am ?_|apply aq ?_|apply aw ?_)
  generalize L:Hp.alloc (Hp.set (V.alloc _) _ _) _=Hb;have nb:Hb.next=V.next+2:=by rw[<-L];rfl
  have J:∀k,k<V.next->Hb.get k=V.get k:=fun k I=>by rw[<-L,aQ,af DE,a1,af ac,aQ,af ac]
  have gr:Hb.get (V.next+1)=some (.cells [.ai g.name,.ah,.ah,.ah,.int .i64 1,.int .i64 0,.ai [],.int .i64 0,.ah] 0 true):=by rw[<-L,aQ,ay ea]
  clear L;have hfq:∀k,k<=1->∀o m z',z≠.sl k o m z':=fun k I o m z' e=>by
   rcases rf with⟨h1,_⟩|⟨q,im,rows,h1,h2,h3,_⟩
   .rw[h1]at e;cases e
   .rw[h1]at e;simp only[AV.sl.injEq]at e;omega
  obtain⟨H7,a7,r7,n7,q7⟩:=HR (P:=prog) (t:=39) underlying39 FZ KO KP rfl aG (S':=fun k=>2<=k)
   (rf.keep (S':=fun k=>2<=k) (H':=Hb) (fun _ _ h=>h) ac fun k _ I=>J k I) (fun _ _ h=>h) ac (r:=V.next+1) (imm:=0) (row:=[.ai g.name,.ah,.ah,.ah,.int .i64 1,.int .i64 0,.ai [],.int .i64 0,.ah]) (w:=(iH g).cells) gr rfl rfl (ze5 g)
   QZ QZ
  rw[U]at a7 r7;have g17:H7.get 1=some (.cells [.ao (u.aa.map Ar.cells),z] 0 true):=by rw[q7 1 ac (hfq 1 ac),J 1 ac];exact g1
  have g07:H7.get 0=V.get 0:=by rw[q7 0 ac (hfq 0 ac),J 0 ac]
  have n7':V.next<=H7.next:=ac
  clear J gr q7 hfq nb;repeat' (first
   |(apply aj ?_;clear hK K)|apply Rx.o ?_|apply aE ?_|apply ah ?_|(apply ai fun K hK=>?_)|apply ak ?_|apply am ?_|apply aq ?_|apply aw ?_)
  refine⟨ac,a2,a2,ce,Q1,?_⟩;refine⟨.sl Hb.next 0 (i+1) 9,zX,?_⟩;rw[htk];exact r7.keep (fun _ _ h=>h) (aO _) fun k I _=>jd
 .have hlt':¬(i:Int)<u.funcs.length:=by omega
  have hti:(u.funcs.map iH).take i=u.funcs.map iH:=gZ (by rw[dx];omega);rw[hti]at rf;have hcw:cJ (fun k=>2<=k) 3 V [.ao (u.aa.map Ar.cells),z] (iZ u).cells:=.cons (.b8 ⟨.map fun x _=>x.pure,trivial⟩ fun m=>zbC (f:=Ar.cells) Ar.wk u.aa m) (.cons rf.rd .nil);have ag:cQ 2 [.ao (u.aa.map Ar.cells),z]=some (.agg [.ao (u.aa.map Ar.cells),z]):=rfl;repeat' (first
   |(apply aj ?_;clear hK K)|apply Ry.o ?_|apply b8 ?_|(apply bq (fun Y Z=>?_) (fun Y Z=>?_)<;>try(cases Y;done))|apply ah ?_|(apply ai fun K hK=>?_)|apply ak ?_|apply am ?_|apply aq ?_|apply aw ?_)
  refine qc ?_;refine bb ?_ (zeY (l:=AJ) (fun _=>rfl) rfl ac hcw hz);rintro v H4 ⟨rfl,hy⟩;have g04:H4.get 0=V.get 0:=hy.out 0 ac;have n4:=hy.next
  clear hcw g1 rf;dsimp only[aZ];by_cases hc:fK (iZ u)=0
  .have hU:gB u=u.funcs.all (dV u):=by rw[gB,hc];rfl
   repeat' (first
    |(apply aj ?_;clear hK K)|apply Ry.o ?_|apply b8 ?_|(apply bq (fun Y Z=>?_) (fun Y Z=>?_)<;>try(cases Y;done))|apply ah ?_|(apply ai fun K hK=>?_)|apply ak ?_|apply am ?_|apply aq ?_|apply aw ?_)
   refine cA [1,32,33] [0] 34 u.funcs.length (fun j E Hj=>∀k,k<j->∀g,u.funcs[k]?=some g->dV u g=true) eE (fun k I=>ac) ?_;rintro j E3 Hj hj hcE hrH O hsI hJ;(try simp only[bp,bm,aU,aF,aW,Nat.reduceBEq,Nat.reduceAdd,Nat.reduceLeDiff,tyF, *]at hcE);(try simp only[bp,bm,aU,aF,aW,Nat.reduceBEq,Nat.reduceAdd,Nat.reduceLeDiff,tyF, *]at hrH);(try simp only[bj,bE,cm,bO,Nat.reduceAdd]at O);have hB0:(0 == Hj.next)=false:=bz ac;have hC0:(Hj.next == 0)=false:=bz ac;by_cases C:j<u.funcs.length
   .have hlt3':(j:Int)<u.funcs.length:=by omega
    have hgx:u.funcs[j]?=some u.funcs[j]:=a0 C;have hmem:=cL C;have hgk:=hg _ hmem;generalize u.funcs[j]=g at *;have kv:∀H,aY prog (aH pls AJ) 19 [.agg u.cells,.agg g.cells] H fun v H'=>v=.bool (dV u g)/\H'=H:=fun H=>cF (enc:=wH) (ok:=Iu) (out:=fun x=>.bool (dV x.u x.g)) zet (x:=⟨u,g⟩) rfl ⟨hgk,ha,hf⟩;by_cases hv:dV u g=true
    .repeat' (first
      |(apply aj ?_;clear hK K)|apply Ry.o ?_|apply b8 ?_|(apply ee ?_;first|refine bi (kv _) ?_)|(apply bq (fun Y Z=>?_) (fun Y Z=>?_)<;>try(cases Y;done))|apply ah ?_|(apply ai fun K hK=>?_)|apply ak ?_|apply am ?_|apply aq ?_|apply aw ?_)
     refine⟨ac,a2,a2,ce,Q1,?_⟩;intro k I g' hg';by_cases e:k=j
     .subst e;rw[hgx]at hg';cases hg';exact hv
     .exact hJ k ac g' hg'
    .have hv':dV u g=false:=by simpa using hv
     have hR:u.funcs.all (dV u)=false:=by
      rw[List.all_eq_false];exact⟨g,hmem,hv⟩
     rw[hR]at hU;clear hJ hR;repeat' (first
      |(apply aj ?_;clear hK K)|apply Ry.o ?_|apply b8 ?_|(apply ee ?_;first|refine bi (kv _) ?_)|(apply bq (fun Y Z=>?_) (fun Y Z=>?_)<;>try(cases Y;done))|apply ah ?_|(apply ai fun K hK=>?_)|apply ak ?_|apply am ?_|apply aq ?_|apply aw ?_)
     all_goals refine qq ?_
     rw[hU]
   .have hlt3':¬(j:Int)<u.funcs.length:=by omega
    have hR:u.funcs.all (dV u)=true:=hM.2 fun g hm=>by
     obtain⟨k,I,e⟩:=yu hm;exact hJ k ac g (by rw[a0 I,e])
    rw[hR]at hU;clear hJ hR;repeat' (first
     |(apply aj ?_;clear hK K)|apply Ry.o ?_|apply b8 ?_|(apply bq (fun Y Z=>?_) (fun Y Z=>?_)<;>try(cases Y;done))|apply ah ?_|(apply ai fun K hK=>?_)|apply ak ?_|apply am ?_|apply aq ?_|apply aw ?_)
    all_goals refine qq ?_
    rw[hU]
  .have hU:gB u=false:=by rw[gB,iy hc];rfl
   repeat' (first
    |(apply aj ?_;clear hK K)|apply Ry.o ?_|apply b8 ?_|(apply bq (fun Y Z=>?_) (fun Y Z=>?_)<;>try(cases Y;done))|apply ah ?_|(apply ai fun K hK=>?_)|apply ak ?_|apply am ?_|apply aq ?_|apply aw ?_)
   all_goals refine qq ?_
   rw[hU])
noncomputable def IQ:En:=⟨7,true,ch zf0 (fun u=>[.agg u.cells]) fun u=>.bool (gB u)⟩
def ze7:cT prog ρ IQ:=dg fun u m=>ze6 ρ u m
end
variable{f:Int}{g:Gr}{a:Ex}
theorem Q8:∀(l:qy) (seen:qt),l.Nodup->(∀x∈l,NdR x)->(∀x∈l,bJ seen (fR x)=false)->cG seen (l.map fR)=false
 |[],_,_,_,_=>rfl
 |a::l,seen,hnd,hr,hs=>by
  rw[IN]at hnd;rw[dS,cG,hs a ei,lZ];refine Q8 l _ hnd.2 (fun x I=>hr x (ej _ I)) fun x I=>?_;have e:bJ (seen++[fR a]) (fR x)=(bJ seen (fR x)||bJ [fR a] (fR x)):=by unfold bJ;rw[HC]
  rw[e,hs x (ej _ I),lZ];have J:bJ [fR a] (fR x)=decide (fR a=fR x):=by simp[bJ]
  rw[J,lH];exact fun m=>hnd.1 (by rw[zbo (hr a ei) (hr x (ej _ I)) m];exact I)
theorem Q9{l:qy}(L:l.Nodup)(hr:∀x∈l,NdR x):mR l=true:=by
 unfold mR;rw[Q8 l [] L hr fun x _=>rfl];rfl
def ze8(h:zfV p)(hz:p.sz<2^30){n:Nat}(o:2*p.sz<n){f:Fu}(O:f∈p.funcs)(Y:jl p n f=some g)(M:g.ag.length<=2000)(j:u.aa.length=p.aa.length)(m:u.funcs.map Gr.params=p.funcs.map fun f=>(f.params.length:Int)):dV u g=true:=by
 obtain⟨_,_,_,h4⟩:=h.dj;obtain⟨l1,l2,l3⟩:=h4 f O;obtain⟨s,v,e1,e2,K,Z,gP,gn⟩:=Q5 h o O;have V:g=⟨f.name,f.params.length,v.2.l,v.1,v.2.ab⟩:=by
  unfold jl at Y;rw[e1,cn,e2,cn]at Y;exact(Option.some.inj Y).symm
 subst V;simp only at M;have J:=K.i.fin ac ac;have ok:((List.range v.2.l.length).all (lA u ⟨f.name,f.params.length,v.2.l,v.1,v.2.ab⟩))=true:=by
  rw[hM];intro i z;rw[mF]at z;have hx:v.2.l[i]?=some v.2.l[i]:=a0 z;have hm:v.2.l[i]∈v.2.l:=cL z;have hw:=K.i.wf i z;have hp:=K.i.p _ hm;unfold lA;simp only;rw[hx];simp only;rw[io hw,fT];generalize v.2.l[i]=x at hp;unfold jU;by_cases c2:x.op=2
  .rw[ay c2,io (hp.pa c2)]
  rw[af c2];by_cases L:x.op=23\/x.op=28
  .rw[ay L,j];exact io (hp.ar L)
  rw[af L];by_cases U:x.op=30
  .obtain⟨q1,fn,q2,q3⟩:=hp.fn U;have C:p.funcs[x.au.toNat]?=some fn:=q2;have hlt:x.au.toNat<p.funcs.length:=by
    by_cases q:x.au.toNat<p.funcs.length
    .exact q
    .rw[kV ac]at C;cases C
   have I:u.funcs.length=p.funcs.length:=by have:=jH List.length m;simpa using this
   rw[ay U,I,io (show x.au<(p.funcs.length:Int) by omega),fT,m,dF,fO,C];simp only[jo,bS,jq];omega
  .rw[af U]
 unfold dV;simp only;rw[ok,Q9 K.i.nd J.r,zeW gP K.i.nd ac,Z.m.zero,K.st.m.zero,Z.i.s,K.st.i.s];have b1:=Z.i.lo;have b2:=Z.i.hi;have b3:=K.st.i.lo;have b4:=K.st.i.hi;simp only[jq,co,oV,Gt];refine⟨⟨⟨ac,ac⟩,ac⟩,⟨⟨b1,b2⟩,b3⟩,b4⟩
theorem Ra{p:Pr}{n:Nat}:∀(l:qN) (M:List Gr) (u:Un) (e:Int),mT p n l M=some (u,e)->(e=6/\u=⟨[],[]⟩)\/(e=0/\∃Z,u=⟨p.aa,M++Z⟩/\cy (fun f g=>jl p n f=some g/\g.ag.length<=2000) l Z)
 |[],M,u,e,h=>by
  rw[mT]at h;cases h;exact .inr ⟨rfl,[],by rw[jI],trivial⟩
 |f::l,M,u,e,h=>by
  rw[mT]at h;simp only[iS]at h;obtain⟨g,J,h⟩:=h;split at h
  .cases h;exact .inl ⟨rfl,rfl⟩
  .rename_i c;rcases Ra l _ u e h with i|⟨i,Z,Y,m⟩
   .exact .inl i
   .exact .inr ⟨i,g::Z,by rw[Y,lT];rfl,⟨J,ac⟩,m⟩
theorem Rd(U:qt):∀(l:qN) (M:List Gr) (seen:qt),cy (fun f g=>g.name=f.name) l M->nN U seen l=false->nN U seen (M.map iH)=false
 |[],[],seen,_,_=>rfl
 |f::l,g::M,seen,ha,h=>by
  rw[nN]at h;simp only[kS]at h;rw[dS,nN];show(bJ seen g.name||cG U []||nN U (seen++[g.name]) (M.map iH))=false;rw[ha.1,h.1.1,Rd U l M _ ha.2 h.2];rfl
theorem Eg{J β:Type}{q:J->β->Prop}:∀{a:List J}{b:List β},cy q a b->∀y∈b,∃x∈a,q x y
 |[],[],_,y,Y=>by simp at Y
 |x::a,z::b,h,y,Y=>by
  rcases gE.1 Y with rfl|Y
  .exact⟨x,ei,h.1⟩
  .obtain⟨w,L,K⟩:=Eg h.2 y Y;exact⟨w,ej _ L,K⟩
def Eh{n:Nat}{f:Fu}(h:jl p n f=some g):g.name=f.name/\g.params=f.params.length:=by
 unfold jl at h;simp only[iA]at h;obtain⟨s,_,v,_,rfl⟩:=h;exact⟨rfl,rfl⟩
theorem Re{p:Pr}{n:Nat}:∀{l:qN}{M:List Gr},cy (fun f g=>jl p n f=some g/\g.ag.length<=2000) l M->M.map Gr.params=l.map fun f=>(f.params.length:Int)
 |[],[],_=>rfl
 |f::l,g::M,h=>by rw[dS,dS,Re h.2,(Eh h.1.1).2]
theorem ze9(h:fK p=0){M:List Gr}(j:cy (fun f g=>g.name=f.name) p.funcs M):fK (iZ ⟨p.aa,M⟩)=0:=by
 obtain⟨i,Z,m,z,h5⟩:=IG h;have hl:M.length=p.funcs.length:=j.len.symm;have o:jv (iZ ⟨p.aa,M⟩)=false:=by
  unfold jv at i⊢;simp only[kS,lH]at i⊢;obtain⟨⟨⟨bK,bW⟩,V⟩,a4⟩:=i;refine⟨⟨⟨bK,by simp only[iZ,dx];omega⟩,V⟩,?_⟩;simp only[iZ,List.any_map,xh];intro g _;have:mQ (iH g)=false:=by
   simp[mQ,iH,nS,da,eJ,fJ,cX,jt]
  simp[this]
 have O:iq (iZ ⟨p.aa,M⟩)=true:=by
  unfold iq at Z⊢;rw[co]at Z⊢;refine⟨Z.1,?_⟩;have Y:=hM.1 Z.2;simp only[iZ,List.all_map,hM];intro g J;obtain⟨f,U,C⟩:=Eg j g J;have:=Y f U;unfold jV rh at this;simp only[co,xd,oy,oz,kW]at this;show jV (iH g)=true;simp[jV,rh,iH,fk,eK,el,md,Ex.am,Ex.ak,Ex.name,Ex.op,C,this.1.1.1.1]
 have L:mh (iZ ⟨p.aa,M⟩)=false:=by
  unfold mh at m⊢;rw[kS]at m⊢;exact⟨m.1,Rd _ _ _ _ j m.2⟩
 have K:(iZ ⟨p.aa,M⟩).funcs.any (jh (iZ ⟨p.aa,M⟩))=false:=by
  simp only[iZ,List.any_map,xh];intro g _;simp[jh,iH,de,dO,eL,iz,Ex.am]
 have I:(iZ ⟨p.aa,M⟩).funcs.any (lh (iZ ⟨p.aa,M⟩))=false:=by
  simp only[iZ,List.any_map,xh];intro g _;simp[lh,iH,de]
 unfold fK;rw[o,O,L,K,I];rfl
theorem zfa(h:zfV p)(hz:p.sz<2^30){n:Nat}(C:2*p.sz<n){e:Int}(K:sW p n=some (u,e)):(e=6/\u=⟨[],[]⟩)\/(e=0/\gB u=true/\u.aa=p.aa/\u.funcs.length=p.funcs.length/\zf0 u):=by
 unfold sW at K;rw[ay h.ck]at K;rcases Ra _ _ _ _ K with Z|⟨Z,M,h2,m⟩
 .exact .inl Z
 rw[pJ]at h2;subst h2;have V:=Re m;have hlen:=m.len;have hpz:p.sz=1+gp p.aa+fw p.funcs:=rfl;have o:cy (fun f g=>g.name=f.name) p.funcs M:=m.mono fun f g k=>(Eh k.1).1;refine .inr ⟨Z,?_,rfl,by show M.length=_;omega,?_⟩
 .unfold gB;rw[ze9 h.ck o,co];refine⟨rfl,hM.2 fun g J=>?_⟩;obtain⟨f,i,O,L⟩:=Eg m g J;exact ze8 h hz C i O L rfl V
 .obtain⟨bK,bW,a3,a4⟩:=h.dj;refine⟨by show p.aa.length<_;omega,by show M.length<_;omega,fun g J=>?_,?_⟩
  .obtain⟨f,i,O,L⟩:=Eg m g J;obtain⟨s,v,e1,z,g1,_⟩:=Q5 h C i;have Y:g=⟨f.name,f.params.length,v.2.l,v.1,v.2.ab⟩:=by
    unfold jl at O;rw[e1,cn,z,cn]at O;exact(Option.some.inj O).symm
   refine⟨ac,fun x I=>?_⟩;rw[Y]at I;have:=(g1.i.p x I).len;omega
  .have U:∀{l:qN}{M:List Gr},cy (fun f g=>g.name=f.name) l M->fw (M.map iH)<=4*fw l:=by
    intro l;induction l with
    |nil=>
     intro M j;cases M with
     |nil=>simp[fw]
     |cons g M=>exact j.elim
    |cons f l ih=>
     intro M j;cases M with
     |nil=>exact j.elim
     |cons g M=>
      have:=ih j.2;have e:(iH g).sz=1+g.name.length+0+0+0+1:=by simp[Fu.sz,iH,dU,bN,Ex.sz,eD]
      have z:f.sz=1+f.name.length+dU f.params+dU f.aj+bN f.body+f.value.sz:=rfl;rw[dS,fw,fw,e,j.1];omega
   have:=U o;show 1+gp p.aa+fw (M.map iH)<_;omega
structure LwOk (p:Pr):Prop where
 sz:p.sz<2^30
 rg:fK p=0->∀f∈p.funcs,iY f.body/\iX f.value
def wJ(p:Pr):Un×Int:=(sW p (2*p.sz+1)).getD (⟨[],[]⟩,0)
theorem Rf{p:Pr}(h:zfV p){n:Nat}(C:2*p.sz<n):∀(l:qN) (M:List Gr),(∀f∈l,f∈p.funcs)->∃r,mT p n l M=some r
 |[],M,_=>⟨_,rfl⟩
 |f::l,M,hl=>by
  obtain⟨s,v,o,Z,_⟩:=II h C (hl f ei);rw[mT,jl,o,cn,Z,cn,cn];split
  .exact⟨_,rfl⟩
  .exact Rf h C l _ fun g J=>hl g (ej _ J)
theorem LwOk.bP(h:LwOk p):sW p (2*p.sz+1)=some ((wJ p).1,(wJ p).2):=by
 have:∃r,sW p (2*p.sz+1)=some r:=by
  unfold sW;split
  .rename_i c;exact Rf ⟨c,h.rg c⟩ (cI _) _ _ fun f i=>i
  .exact⟨_,rfl⟩
 obtain⟨r,hr⟩:=this;rw[wJ,hr];rfl
def AK:qt:=[[97],[98]]
def Rg(f:Int){m:Int}(h:0<=m):(cr f).getD (m.tmod (cr f).length).toNat []∈cr f:=by
 have K:((cr f).length:Int)≠0:=by unfold cr;split<;>simp
 have:=(rX (cr f) K h []).2;exact lV this
def Rh(f:Int){s:qw}(h:s∈cr f):cZ s=true/\bJ (cr f) s=true:=by
 unfold cr at h⊢;split at h<;>simp only[kK]at h
 .rename_i e;rw[ay e];rcases h with rfl|rfl|rfl|rfl<;>exact⟨aG,aG⟩
 .rename_i e;rw[af e];rcases h with rfl|rfl<;>exact⟨aG,aG⟩
def Rk(m:Int):cZ (tc m)=true/\bJ AK (tc m)=true:=by
 unfold tc;split<;>exact⟨aG,aG⟩
def zfb(m:Int):cZ (lx m)=true:=by
 unfold lx;split<;>kernel_rfl
structure ExOk (f:Int) (k:Nat) (x:Ex):Prop where
 wf:eK x=true
 df:dO (cr f) AK x=true
 dp:cX x<=k
theorem uL(f:Int):∀(k V:Nat) (L:qu),5<=V+k->V<=4->ExOk f k (bQ f k V L).1
 |0,V,L,h1,h2=>by omega
 |k+1,V,L,h1,h2=>by
  have ih:V<=3->∀L,ExOk f k (bQ f k (V+1) L).1:=fun hd L=>uL f k (V+1) L ac ac;have K:=ll (n:=(b7 L).1) (m:=16) ac ac;have Z:=ll (n:=cC ((b7 L).1.tdiv 16)) (m:=1000) ac ac;simp only[bQ];generalize dr (b7 L).1 16=q at K⊢;generalize dr (cC ((b7 L).1.tdiv 16)) 1000=m at Z⊢;split
  .split
   .obtain⟨dy,C⟩:=Rh f (Rg f Z.1);generalize (cr f).getD (m.tmod (cr f).length).toNat []=o at dy C⊢;refine⟨?_,?_,by simp[cX,jt]⟩
    .simp[eK,el,md,Ex.am,Ex.ak,Ex.n,Ex.op,Ex.name,dy]
    .simp[dO,eL,iz,Ex.am,Ex.name,C]
   .exact⟨by simp[eK,el,md,Ex.am,Ex.ak,Ex.n,Ex.op,Ex.name],by simp[dO,eL,iz,Ex.am,Ex.name],by simp[cX,jt]⟩
  .rename_i Y;have hd:V<=3:=ac;have ih:=ih hd;obtain⟨bK,bW⟩:=Rk m;split
   .have M:=ih (b7 L).2;refine⟨?_,?_,?_⟩
    .simp[eK,el,md,Ex.am,Ex.ak,Ex.n,Ex.op,Ex.name,bK,M.wf]
    .simp[dO,eL,iz,Ex.am,Ex.name,bW,M.df]
    .have:=M.dp;simp only[cX,jt];omega
   .split
    .have M:=ih (b7 L).2;have O:=ih (bQ f k (V+1) (b7 L).2).2;have j:=ih (bQ f k (V+1) (bQ f k (V+1) (b7 L).2).2).2;refine⟨?_,?_,?_⟩
     .simp[eK,el,md,Ex.am,Ex.ak,Ex.n,Ex.op,Ex.name,M.wf,O.wf,j.wf]
     .simp[dO,eL,iz,Ex.am,Ex.name,M.df,O.df,j.df]
     .have:=M.dp;have:=O.dp;have:=j.dp;simp only[cX,jt];omega
    .split
     .have M:=ih (b7 L).2;have I:xX m=20\/xX m=21:=by unfold xX;split<;>simp
      refine⟨?_,?_,?_⟩
      .rcases I with I|I<;>simp[eK,el,md,Ex.am,Ex.ak,Ex.n,Ex.op,Ex.name,M.wf,I]
      .simp[dO,eL,iz,Ex.am,Ex.name,M.df]
      .have:=M.dp;simp only[cX,jt];omega
     .have M:=ih (b7 L).2;have O:=ih (bQ f k (V+1) (b7 L).2).2;have g:=DO 15 Z.1;have i:=wc m (show(0:Int)<15 by omega);have I:py (cC (4+m.tmod 15))=true:=by
       unfold cC;rw[iN ac ac];simp only[py,jJ];omega
      refine⟨?_,?_,?_⟩
      .simp[eK,el,md,Ex.am,Ex.ak,Ex.n,Ex.op,Ex.name,M.wf,O.wf,I]
      .simp[dO,eL,iz,Ex.am,Ex.name,M.df,O.df]
      .have:=M.dp;have:=O.dp;simp only[cX,jt];omega
theorem Rl(f:Int):∀(n:Nat) (L:qu),el (gy f n L).1=true/\eL (cr f) AK (gy f n L).1=true/\((gy f n L).1.any fun e=>decide ((20:Int)<cX e))=false/\(gy f n L).1.length=n
 |0,_=>⟨rfl,rfl,rfl,rfl⟩
 |n+1,L=>by
  obtain⟨i,g,m,U⟩:=Rl f n (bQ f 3 2 L).2;have h:=uL f 3 2 L ac ac;have hd:¬(20:Int)<cX (bQ f 3 2 L).1:=by have:=h.dp;omega
  refine⟨?_,?_,?_,?_⟩
  .rw[gy,el,h.wf,i];rfl
  .rw[gy,eL,h.df,g];rfl
  .rw[gy,pp,m,iy hd];rfl
  .rw[gy,eT,U]
structure ScG (f:Int) (c:Sc):Prop where
 vars:c.vars=cr f
 an:c.an=AK
 to:∀m:Int,0<=m->0<=dc c.p.funcs (lx m) 0/\((2-m.tmod 2).toNat=oD c.p (lx m))
structure StOk (c:Sc) (k:Nat) (s:cK) (x:St) (t:cK):Prop where
 wf:mg x=true
 df:fQ c false x=true
 ar:fQ c true x=true
 dp:mP x=false
 n:dy x+t.1.length<=s.1.length
 w:(dd x:Int)+s.2=t.2
 wb:t.2<=10
 m:∀d,cz x d<=d+k
structure zd7 (c:Sc) (k:Nat) (s:cK) (l:qD) (t:cK):Prop where
 wf:fk l=true
 df:de c false l=true
 ar:de c true l=true
 dp:fJ l=false
 n:nS l+t.1.length<=s.1.length
 w:(da l:Int)+s.2=t.2
 wb:t.2<=10
 m:∀d,eJ l d<=d+k
theorem IR{c:Sc}{k:Nat}{step:cK->St×cK}(h:∀s:cK,s.1≠[]->0<=s.2->s.2<=10->StOk c k s (step s).1 (step s).2):∀(n:Nat) (s:cK),0<=s.2->s.2<=10->zd7 c k s (fZ step n s).1 (fZ step n s).2
 |0,s,h0,h1=>⟨rfl,rfl,rfl,rfl,by simp[fZ,nS],by simp[fZ,da],h1,fun d=>by simp[fZ,eJ]⟩
 |n+1,s,h0,h1=>by
  rw[fZ];by_cases M:s.1=[]
  .rw[ay M];exact⟨rfl,rfl,rfl,rfl,by simp[nS],by simp[da],h1,fun d=>by simp[eJ]⟩
  .rw[af M];have a:=h s M h0 h1;have J:=a.w;have b:=IR h n (step s).2 ac a.wb;have K:=b.w;have an:=a.n;have bn:=b.n;refine⟨?_,?_,?_,?_,?_,?_,b.wb,fun d=>?_⟩
   .simp only[fk,a.wf,b.wf];rfl
   .simp only[de,a.df,b.df];rfl
   .simp only[de,a.ar,b.ar];rfl
   .simp only[fJ,a.dp,b.dp];rfl
   .simp only[nS];omega
   .simp only[da];omega
   .have:=a.m d;have:=b.m d;simp only[eJ];omega
def zfc(f:Int):zeroE jz=true/\dO (cr f) AK jz=true/\cX jz=0:=⟨by simp[zeroE,jz,Ex.am,Ex.n,Ex.op,Ex.name,Ex.ak],by simp[jz,dO,eL,iz,Ex.am],by simp[jz,cX,jt]⟩
def zfd(hc:ScG f c){s:cK}{g:qu}{q m:Int}(hL:g.length<s.1.length)(hm:0<=m)(hm1:m<1000)(h0:0<=s.2)(h1:s.2<=10)(hq:10<=q->s.2<10)(hq0:0<=q)
 (hs:8<=q->q<12->1<=k/\∀(V:Int) (s:cK),0<=s.2->s.2<=10->zd7 c (k-1) s (C V s).1 (C V s).2):StOk c k s (gc C f g s.2 q m).1 (gc C f g s.2 q m).2:=by
 obtain⟨z1,z2,z3⟩:=zfc f;obtain⟨O,I⟩:=Rh f (Rg f hm);obtain⟨bK,bW⟩:=Rk m;have g1:=zfb m;obtain⟨g2,g3⟩:=hc.to m hm;have M:=uL f 5 0 g ac ac;have K:=uL f 3 2 g ac ac;have z:=uL f 4 1 g ac ac;have J:=uL f 4 1 (bQ f 3 2 g).2 ac ac;have l50:=eP f 5 0 g;have l32:=eP f 3 2 g;have l41:=eP f 4 1 g;have l43:=eP f 4 1 (bQ f 3 2 g).2;obtain⟨aK,bB,r3,r4⟩:=Rl f (2-m.tmod 2).toNat g;have lar:=Ie f (2-m.tmod 2).toNat g;have d50:¬(20:Int)<cX (bQ f 5 0 g).1:=by have:=M.dp;omega
 have d32:¬(20:Int)<cX (bQ f 3 2 g).1:=by have:=K.dp;omega
 have i:¬(20:Int)<cX (bQ f 4 1 g).1:=by have:=z.dp;omega
 have d43:¬(20:Int)<cX (bQ f 4 1 (bQ f 3 2 g).2).1:=by have:=J.dp;omega
 rw[gc];generalize (cr f).getD (m.tmod (cr f).length).toNat []=nm at O I⊢;have o:=hc.vars;have j:=hc.an;by_cases c1:q<6
 .rw[ay c1];refine⟨?_,?_,?_,?_,?_,?_,h1,fun d=>?_⟩
  .simp[mg,fk,iO,el,me,pB,St.am,St.a5,St.a6,St.name,St.to,St.n,St.aW,St.value,St.args,O,z1,M.wf]
  .simp[fQ,de,jx,eL,jw,St.am,St.name,St.aW,St.value,St.args,o,j,I,z2,M.df]
  .simp[fQ,de,kE,St.am]
  .simp[mP,fJ,z3,d50]
  .simp only[dy,nS];omega
  .simp[dd,da]
  .simp[cz,eJ]
 rw[af c1];by_cases c2:q<8
 .rw[ay c2];refine⟨?_,?_,?_,?_,?_,?_,h1,fun d=>?_⟩
  .simp[mg,fk,iO,el,me,pB,St.am,St.a5,St.a6,St.name,St.to,St.n,St.aW,St.value,St.args,bK,K.wf,J.wf]
  .simp[fQ,de,jx,eL,jw,St.am,St.name,St.aW,St.value,St.args,o,j,bW,K.df,J.df]
  .simp[fQ,de,kE,St.am]
  .simp[mP,fJ,d32,d43]
  .simp only[dy,nS];omega
  .simp[dd,da]
  .simp[cz,eJ]
 rw[af c2];by_cases c3:q<10
 .rw[ay c3];obtain⟨hk,L⟩:=hs ac ac;have Z:=L 3 ((bQ f 4 1 g).2,s.2) h0 h1;have Y:=Z.w;have san:=Z.n;have U:=L 2 (C 3 ((bQ f 4 1 g).2,s.2)).2 (by simp only at Y;omega) Z.wb;have sbw:=U.w;have sbn:=U.n;refine⟨?_,?_,?_,?_,?_,?_,U.wb,fun d=>?_⟩
  .simp[mg,iO,el,me,pA,St.am,St.a5,St.a6,St.name,St.to,St.n,St.aW,St.value,St.args,z1,z.wf,Z.wf,U.wf]
  .simp[fQ,jx,eL,jw,St.am,St.name,St.aW,St.value,St.args,o,j,z2,z.df,Z.df,U.df]
  .simp[fQ,kE,St.am,Z.ar,U.ar]
  .simp[mP,z3,i,Z.dp,U.dp]
  .simp only[dy];simp only at san;omega
  .simp only[dd];simp only at Y;rw[af ac];omega
  .have:=Z.m (d+1);have:=U.m (d+1);simp only[cz];omega
 rw[af c3];by_cases c4:q<12
 .rw[ay c4];obtain⟨hk,L⟩:=hs ac ac;have hlt:=hq ac;have hw:cC (s.2+1)=s.2+1:=by unfold cC;rw[iN ac ac]
  rw[hw];have Z:=L 3 ((bQ f 4 1 g).2,s.2+1) x4 x4;have Y:=Z.w;have san:=Z.n;refine⟨?_,?_,?_,?_,?_,?_,Z.wb,fun d=>?_⟩
  .simp[mg,fk,iO,el,me,pA,St.am,St.a5,St.a6,St.name,St.to,St.n,St.aW,St.value,St.args,z1,z.wf,Z.wf]
  .simp[fQ,de,jx,eL,jw,St.am,St.name,St.aW,St.value,St.args,o,j,z2,z.df,Z.df]
  .simp[fQ,de,kE,St.am,Z.ar]
  .simp[mP,fJ,z3,i,Z.dp]
  .simp only[dy,nS];simp only at san;omega
  .simp only[dd,da];simp only at Y;simp only[bC];omega
  .have:=Z.m (d+1);simp only[cz,eJ];omega
 rw[af c4];by_cases c5:q<14
 .rw[ay c5];refine⟨?_,?_,?_,?_,?_,?_,h1,fun d=>?_⟩
  .simp[mg,fk,iO,el,me,pB,pA,St.am,St.a5,St.a6,St.name,St.to,St.n,St.aW,St.value,St.args,z1,z.wf]
  .simp[fQ,de,jx,eL,jw,St.am,St.name,St.aW,St.value,St.args,o,j,z2,z.df]
  .simp[fQ,de,kE,St.am]
  .simp[mP,fJ,z3,i]
  .simp only[dy,nS];omega
  .simp[dd,da]
  .simp[cz,eJ]
 rw[af c5];by_cases c6:q<15
 .rw[ay c6];refine⟨?_,?_,?_,?_,?_,?_,h1,fun d=>?_⟩
  .simp[mg,fk,iO,me,pB,St.am,St.a5,St.a6,St.name,St.to,St.n,St.aW,St.value,St.args,O,z1,g1,aK]
  .simp[fQ,de,jx,jw,St.am,St.name,St.to,St.aW,St.value,St.args,o,j,z2,I,g2,bB]
  .have:(((gy f (2-m.tmod 2).toNat g).1.length:Nat):Int)=oD c.p (lx m):=by rw[r4,g3]
   simp[fQ,de,kE,St.am,St.args,St.to,this]
  .simp only[mP,fJ,z3,r3];decide
  .simp only[dy,nS];omega
  .simp[dd,da]
  .simp[cz,eJ]
 rw[af c6];refine⟨?_,?_,?_,?_,?_,?_,h1,fun d=>?_⟩
 .have e:m<=1000000:=by omega
  simp[mg,fk,iO,el,me,pB,St.am,St.a5,St.a6,St.name,St.to,St.n,St.aW,St.value,St.args,z1,hm,e]
 .simp[fQ,de,jx,eL,jw,St.am,St.name,St.aW,St.value,St.args,o,j,z2]
 .simp[fQ,de,kE,St.am]
 .simp[mP,fJ,z3]
 .simp only[dy,nS];omega
 .simp[dd,da]
 .simp[cz,eJ]
def zfe(h:L≠[]):(b7 L).2.length<L.length:=by
 cases L with
 |nil=>exact absurd rfl h
 |cons a l=>simp[b7]
def zd7.more{s U:cK}{l:qD}{t:cK}(h:zd7 c k U l t)(h1:U.1.length<=s.1.length)(h2:U.2=s.2):zd7 c k s l t:=⟨h.wf,h.df,h.ar,h.dp,dq h.n h1,h2▸h.w,h.wb,h.m⟩
theorem Rm{f:Int}{c:Sc}(Y:ScG f c):∀(k V:Nat),4<=V+k->V<=3->∀s:cK,s.1≠[]->0<=s.2->s.2<=10->StOk c (k-1) s (fS f k V s).1 (fS f k V s).2
 |0,V,i,h2=>by omega
 |k+1,V,i,h2=>fun s M O Z=>by
  have U:=ll (n:=cC ((b7 s.1).1.tdiv 16)) (m:=1000) ac ac;have I:=ll (n:=(b7 s.1).1) (m:=16) ac ac;rw[fS,uG];refine zfd Y (zfe M) U.1 U.2 O Z ?_ ?_ ?_
  .unfold wB;split<;>omega
  .unfold wB;split<;>omega
  .intro a b;have hd:V<=2:=by
    unfold wB at a b;split at a<;>omega
   have e:k+1-1-1=k-1:=ac;rw[e];refine⟨ac,fun L s K J=>zd7.more (IR (fun s M O i=>?_) _ ((b7 s.1).2,s.2) K J) (mr _) rfl⟩;exact Rm Y k (V+1) ac ac s M O i
theorem Rn(V:ScG f c){deep:Nat}(h1:4<=deep+k)(h2:deep<=3)(L:Int){s:cK}(m:0<=s.2)(U:s.2<=10):zd7 c (k-1) s (kJ f k deep L s).1 (kJ f k deep L s).2:=
 zd7.more (IR (fun s M O C=>Rm V k deep h1 h2 s M O C) _ ((b7 s.1).2,s.2) m U) (mr _) rfl
def Ro(L:qu):dc [gU L,gV L] [102] 0=0/\dc [gU L,gV L] [103] 0=1:=⟨rfl,rfl⟩
def Rp(f:Int)(l:qu){F:Fu}(h:F.params++F.aj=cr f):ScG f (fV (cN l) F):=by
 refine⟨h,rfl,fun m O=>?_⟩;have i:=DO 2 O;have g:=wc m (show(0:Int)<2 by omega);show 0<=dc [gU (l.take 60),gV (l.take 60)] (lx m) 0/\_;unfold lx;by_cases e:m.tmod 2=0
 .rw[ay e,e];exact⟨by rw[(Ro _).1];omega,rfl⟩
 .rw[af e,show m.tmod 2=1 by omega];exact⟨by rw[(Ro _).2];omega,rfl⟩
theorem IT(l:qu):fK (cN l)=0:=by
 have hl:(l.take 60).length<=60:=ca;have c0:ScG 0 (fV (cN l) (gU (l.take 60))):=Rp 0 l rfl;have c1:ScG 1 (fV (cN l) (gV (l.take 60))):=Rp 1 l rfl;obtain⟨L,hL⟩:∃L,l.take 60=L:=⟨_,rfl⟩;rw[hL]at hl c0 c1;have Z:zd7 (fV (cN l) (gU L)) 3 ((b7 L).2,0) (ir L).1 (ir L).2:=Rn c0 (k:=4) (deep:=0) ac ac 5 (s:=((b7 L).2,0)) az az;have Y:ExOk 0 4 (jW L).1:=uL 0 4 1 _ ac ac;have I:=Z.w;have i:zd7 (fV (cN l) (gV L)) 2 ((jW L).2,(ir L).2.2) (lN L).1 (lN L).2:=Rn c1 (k:=3) (deep:=1) ac ac 3 (s:=((jW L).2,(ir L).2.2)) (by simp only at I⊢;omega) Z.wb;have M:ExOk 1 4 (th L).1:=uL 1 4 1 _ ac ac;have J:=Z.n;have K:=i.n;have V:=i.w;have b1b:=Z.wb;have b2b:=i.wb;simp only at J K I V;have n0:=mr L;have dy:(jW L).2.length<=(ir L).2.1.length:=eP 0 4 1 _;have p1:=ll (n:=(b7 L).1) (m:=4) ac ac;have p2:=ll (n:=cC ((b7 L).1.tdiv 4)) (m:=4) ac ac;have hp:cN l=⟨nX L,[gU L,gV L]⟩:=by rw[cN,hL]
 have cz:=Z.m 0;have m2:=i.m 0;have d1:=Y.dp;have d2:=M.dp;have U:jv (cN l)=false:=by
  rw[hp];simp only[jv,nX,List.any_cons,List.any_nil,re,mQ,gU,gV,List.length_cons,List.length_nil,Z.dp,i.dp,Bool.or_false,Bool.or_eq_false_iff,decide_eq_false_iff_not];refine⟨⟨⟨decide_eq_false ac,?_⟩,?_⟩,?_⟩<;>omega
 have O:iq (cN l)=true:=by
  rw[hp];have q:∀s∈([[102],[103],[120],[121],[105],[106],[110],[97],[98]]:qt),cZ s=true:=by
   intro s hs;simp only[List.mem_cons,List.not_mem_nil,or_false]at hs;rcases hs with rfl|rfl|rfl|rfl|rfl|rfl|rfl|rfl|rfl<;>kernel_rfl
  simp only[iq,nX,List.all_cons,List.all_nil,jV,rh,gU,gV,List.cons_append,List.nil_append,Z.wf,i.wf,Y.wf,M.wf,Bool.and_true,Bool.and_eq_true];simp[q]
 have C:mh (cN l)=false:=by rw[hp];kernel_rfl
 have o:(cN l).funcs.any (jh (cN l))=false:=by
  have e:(cN l).funcs=[gU L,gV L]:=by rw[hp]
  rw[e];have dd:dO (fV (cN l) (gU L)).vars (fV (cN l) (gU L)).an (gU L).value=true:=by rw[c0.vars,c0.an];exact Y.df
  have w2:dO (fV (cN l) (gV L)).vars (fV (cN l) (gV L)).an (gV L).value=true:=by rw[c1.vars,c1.an];exact M.df
  have z:de (fV (cN l) (gU L)) false (gU L).body=true:=Z.df;have j:de (fV (cN l) (gV L)) false (gV L).body=true:=i.df;simp only[List.any_cons,List.any_nil,jh,dd,w2,z,j];rfl
 have g:(cN l).funcs.any (lh (cN l))=false:=by
  have e:(cN l).funcs=[gU L,gV L]:=by rw[hp]
  rw[e];have z:de (fV (cN l) (gU L)) true (gU L).body=true:=Z.ar;have j:de (fV (cN l) (gV L)) true (gV L).body=true:=i.ar;simp only[List.any_cons,List.any_nil,lh,z,j];rfl
 rw[fK,U,O,C,o,g];rfl
def ib(L:qu):Prop:=∀n∈L,iF n
def AL(h:ib L):iF (b7 L).1/\ib (b7 L).2:=by
 cases L with
 |nil=>exact⟨by show iF 0;unfold iF;omega,h⟩
 |cons a l=>exact⟨h a ei,fun n C=>h n (ej _ C)⟩
def zff(n:Int):iF (cC n):=by
 unfold cC iF;rw[IntKind.wrap_i64];omega
def zfg{n U:Int}(h:iF U):iF (rU n U):=by
 unfold rU;split
 .have e:∀k,iF (ux.getD k 0):=fun k=>by
   by_cases c:k<10
   .have:∀k:_root_.Fin 10,iF (ux.getD k.1 0):=by unfold iF;decide
    exact this ⟨k,c⟩
   .rw[dF,kV (by simp[ux];omega)];show iF 0;unfold iF;omega
  exact e _
 split
 .exact zff _
 .exact h
def wK:iF 0:=fB
theorem sd(f:Int):∀(k V:Nat) (L:qu),ib L->iX (bQ f k V L).1/\ib (bQ f k V L).2
 |0,V,L,h=>⟨by simp[bQ,iX,hZ,wK],h⟩
 |k+1,V,L,h=>by
  have ih:=sd f k (V+1);obtain⟨i,g⟩:=AL h;simp only[bQ];generalize dr (b7 L).1 16=q;generalize dr (cC ((b7 L).1.tdiv 16)) 1000=m;split
  .split
   .exact⟨by simp[iX,hZ,wK],g⟩
   .exact⟨by simp only[iX,hZ,aU];exact zfg i,g⟩
  .have a:=ih _ g;have b:=ih _ a.2;have c:=ih _ b.2;split
   .exact⟨by simp only[iX,hZ,aU];exact⟨wK,a.1⟩,a.2⟩
   .split
    .exact⟨by simp only[iX,hZ,aU];exact⟨wK,a.1,b.1,c.1⟩,c.2⟩
    .split
     .exact⟨by simp only[iX,hZ,aU];exact⟨wK,a.1⟩,a.2⟩
     .exact⟨by simp only[iX,hZ,aU];exact⟨wK,a.1,b.1⟩,b.2⟩
theorem Rq(f:Int):∀(n:Nat) (L:qu),ib L->hZ (gy f n L).1/\ib (gy f n L).2
 |0,L,h=>⟨by simp[gy,hZ],h⟩
 |n+1,L,h=>by
  have a:=sd f 3 2 L h;have b:=Rq f n _ a.2;rw[gy];exact⟨by rw[hZ];exact⟨a.1,b.1⟩,b.2⟩
def tj:iX jz:=by simp[jz,iX,hZ,wK]
def zfh(M:∀L s,ib s.1->iY (C L s).1/\ib (C L s).2.1)(f:Int)(g:qu)(c q m:Int)(h:ib g):nY (gc C f g c q m).1/\ib (gc C f g c q m).2.1:=by
 unfold gc;split
 .have a:=sd f 5 0 g h;exact⟨Q0,a.2⟩
 split
 .have a:=sd f 3 2 g h;have b:=sd f 4 1 _ a.2;exact⟨by simp only[nY,hZ,iY,px];exact⟨a.1,b.1⟩,b.2⟩
 split
 .have a:=sd f 4 1 g h;have b:=M 3 ((bQ f 4 1 g).2,c) a.2;have d:=M 2 (C 3 ((bQ f 4 1 g).2,c)).2 b.2;exact⟨by simp only[nY,hZ,iY,px];exact⟨tj,a.1,b.1,d.1⟩,d.2⟩
 split
 .have a:=sd f 4 1 g h;have b:=M 3 ((bQ f 4 1 g).2,cC (c+1)) a.2;exact⟨by simp only[nY,hZ,iY,px];exact⟨tj,a.1,b.1⟩,b.2⟩
 split
 .have a:=sd f 4 1 g h;exact⟨Q0,a.2⟩
 split
 .have a:=Rq f (2-m.tmod 2).toNat g h;exact⟨by simp only[nY,hZ,iY,px];exact⟨tj,tj,a.1⟩,a.2⟩
 .exact⟨by simp only[nY,hZ,iY,px];exact⟨tj,tj⟩,h⟩
theorem IU{step:cK->St×cK}(M:∀s,ib s.1->nY (step s).1/\ib (step s).2.1):∀(n:Nat) (s:cK),ib s.1->iY (fZ step n s).1/\ib (fZ step n s).2.1
 |0,s,h=>⟨by simp[fZ,iY],h⟩
 |n+1,s,h=>by
  have a:=M s h;have b:=IU M n _ a.2;rw[fZ];split
  .exact⟨by simp[iY],h⟩
  .exact⟨by rw[iY];exact⟨a.1,b.1⟩,b.2⟩
theorem Rr(f:Int):∀(k V:Nat) (s:cK),ib s.1->nY (fS f k V s).1/\ib (fS f k V s).2.1
 |0,V,s,h=>⟨by simp only[fS,nY,hZ,iY,px];exact⟨tj,tj⟩,h⟩
 |k+1,V,s,h=>by
  have ih:=Rr f k (V+1);rw[fS,uG];exact zfh (fun L s M=>IU ih _ ((b7 s.1).2,s.2) (AL M).2) f _ _ _ _ (AL h).2
def Rt(f:Int)(k deep:Nat)(L:Int)(s:cK)(h:ib s.1):iY (kJ f k deep L s).1/\ib (kJ f k deep L s).2.1:=
 IU (Rr f k deep) _ ((b7 s.1).2,s.2) (AL h).2
def Ru(h:ib l):∀f∈(cN l).funcs,iY f.body/\iX f.value:=by
 have V:ib (l.take 60):=fun n C=>h n (List.mem_of_mem_take C);have m:=Rt 0 4 0 5 ((b7 (l.take 60)).2,0) (AL V).2;have Z:=sd 0 4 1 (ir (l.take 60)).2.1 m.2;have Y:=Rt 1 3 1 3 ((jW (l.take 60)).2,(ir (l.take 60)).2.2) Z.2;have M:=sd 1 4 1 (lN (l.take 60)).2.1 Y.2;intro f i;simp only[cN,kK]at i;rcases i with rfl|rfl
 .exact⟨m.1,Z.1⟩
 .exact⟨Y.1,M.1⟩
def Rv(f:Int)(i:Nat):((cr f).getD i []).length<=1:=by
 have h:∀s∈cr f,s.length<=1:=by
  intro s M;unfold cr at M;split at M<;>simp only[kK]at M
  .rcases M with rfl|rfl|rfl|rfl<;>simp
  .rcases M with rfl|rfl<;>simp
 rw[dF];cases e:(cr f)[i]? with
 |none=>simp
 |some s=>exact h s (lV e)
theorem Rw(m:Int):(tc m).length=1:=by unfold tc;split<;>rfl
theorem zfi(m:Int):(lx m).length=1:=by unfold lx;split<;>rfl
def rp:Nat->Nat
 |0=>2
 |k+1=>5+3*rp k
theorem uM(f:Int):∀(k V:Nat) (L:qu),(bQ f k V L).1.sz<=rp k
 |0,V,L=>by simp[bQ,Ex.sz,eD,rp]
 |k+1,V,L=>by
  have ih:=uM f k (V+1);simp only[bQ,rp];generalize dr (b7 L).1 16=q;generalize dr (cC ((b7 L).1.tdiv 16)) 1000=m;split
  .split
   .have:=Rv f (m.tmod (cr f).length).toNat;simp only[Ex.sz,eD];omega
   .simp only[Ex.sz,eD,gM];omega
  .split
   .have:=Rw m;have:=ih (b7 L).2;simp only[Ex.sz,eD];omega
   .split
    .have:=ih (b7 L).2;have:=ih (bQ f k (V+1) (b7 L).2).2;have:=ih (bQ f k (V+1) (bQ f k (V+1) (b7 L).2).2).2;simp only[Ex.sz,eD,gM];omega
    .split
     .have:=ih (b7 L).2;simp only[Ex.sz,eD,gM];omega
     .have:=ih (b7 L).2;have:=ih (bQ f k (V+1) (b7 L).2).2;simp only[Ex.sz,eD,gM];omega
theorem Rz(f:Int):∀(n:Nat) (L:qu),eD (gy f n L).1<=200*n
 |0,_=>by simp[gy,eD]
 |n+1,L=>by
  have:=Rz f n (bQ f 3 2 L).2;have:=uM f 3 2 L;have:rp 3<=150:=aM;rw[gy,eD];omega
theorem zfj(M:∀L s,bN (C L s).1<=10000*nS (C L s).1)(f:Int)(g:qu)(c q m:Int):(gc C f g c q m).1.sz+1<=10000*dy (gc C f g c q m).1:=by
 have U:rp 5<=1200:=aM;have K:rp 4<=1200:=aM;have o:rp 3<=1200:=aM;have Z:=uM f 5 0 g;have I:=uM f 3 2 g;have Y:=uM f 4 1 g;have O:=uM f 4 1 (bQ f 3 2 g).2;have z:jz.sz=1:=rfl;have V:=Rv f (m.tmod (cr f).length).toNat;have bK:=Rw m;have j:=zfi m;have r:=Rz f (2-m.tmod 2).toNat g;have bB:(2-m.tmod 2).toNat<=4:=by
  have:-2<m.tmod 2:=by
   have:=wc (-m) (show(0:Int)<2 by omega);rw[Int.neg_tmod]at this;omega
  omega
 rw[gc];split
 .simp only[St.sz,dy,nS,eD,bN,gM];omega
 split
 .simp only[St.sz,dy,nS,eD,bN,gM];omega
 split
 .have J:=M 3 ((bQ f 4 1 g).2,c);have i:=M 2 (C 3 ((bQ f 4 1 g).2,c)).2;simp only[St.sz,dy,nS,eD,bN,gM];omega
 split
 .have J:=M 3 ((bQ f 4 1 g).2,cC (c+1));simp only[St.sz,dy,nS,eD,bN,gM];omega
 split
 .simp only[St.sz,dy,nS,eD,bN,gM];omega
 split
 .simp only[St.sz,dy,nS,eD,bN,gM];omega
 .simp only[St.sz,dy,nS,eD,bN,gM];omega
theorem IV{step:cK->St×cK}(h:∀s,(step s).1.sz+1<=10000*dy (step s).1):∀(n:Nat) (s:cK),bN (fZ step n s).1<=10000*nS (fZ step n s).1
 |0,s=>by simp[fZ,bN,nS]
 |n+1,s=>by
  rw[fZ];split
  .simp[bN,nS]
  .have:=h s;have:=IV h n (step s).2;simp only[bN,nS];omega
theorem RA(f:Int):∀(k V:Nat) (s:cK),(fS f k V s).1.sz+1<=10000*dy (fS f k V s).1
 |0,V,s=>by
  have z:jz.sz=1:=rfl;simp only[fS,St.sz,dy,nS,eD,bN,gM];omega
 |k+1,V,s=>by
  rw[fS,uG];exact zfj (fun L s=>IV (RA f k (V+1)) _ _) f _ _ _ _
def RB(f:Int)(k deep:Nat)(L:Int)(s:cK):bN (kJ f k deep L s).1<=10000*nS (kJ f k deep L s).1:=IV (RA f k deep) _ _
theorem zfk(l:qu):(cN l).sz<2^24:=by
 have J:jv (cN l)=false:=by
  have h:=IT l;rw[fK]at h;cases e:jv (cN l)with
  |false=>rfl
  |true=>rw[ay e]at h;omega
 have m:=RB 0 4 0 5 ((b7 (l.take 60)).2,0);have Z:=RB 1 3 1 3 ((jW (l.take 60)).2,(ir (l.take 60)).2.2);have Y:(jW (l.take 60)).1.sz<=rp 4:=uM 0 4 1 _;have M:(th (l.take 60)).1.sz<=rp 4:=uM 1 4 1 _;have V:rp 4<=1200:=aM;rw[cN]at J⊢;generalize l.take 60=L at *;change bN (ir L).1<=10000*nS (ir L).1 at m;change bN (lN L).1<=10000*nS (lN L).1 at Z;simp only[jv,pp,xA,pe,kS,mQ,gU,gV,lH]at J;obtain⟨_,i,g⟩:=J;have dy:¬(200:Int)<nS (ir L).1:=i.1.1.1.1.2;have C:¬(200:Int)<nS (lN L).1:=g.1.1.1.1.2;simp only[Pr.sz,gp,fw,nX,gU,gV,Fu.sz,dU,mC];omega
mutual
def eQ:Ex->Nat
 | .mk k _ _ _ L=>if k=1 then 1 else if k=2 then 0 else 4+cEs L
def cEs:qG->Nat
 |[]=>0
 |e::es=>eQ e+cEs es
end
theorem zfl(x:Ex):eQ x=if x.am=1 then 1 else if x.am=2 then 0 else 4+cEs x.ak:=by cases x;rw[eQ];rfl
mutual
def c1:St->Nat
 | .mk k _ _ _ a v C L M=>if k=1 then eQ v else if k=2 then eQ a+eQ v+4 else if k=3 then eQ v+i4 L+i4 M+5 else if k=4 then 2*eQ v+i4 L+16 else if k=5 then eQ v+1 else if k=6 then cEs C+2 else if k=7 then 2 else 0
def i4:qD->Nat
 |[]=>0
 |x::l=>c1 x+i4 l
end
theorem zfm(x:St):c1 x=if x.am=1 then eQ x.value else if x.am=2 then eQ x.aW+eQ x.value+4 else if x.am=3 then eQ x.value+i4 x.a5+i4 x.a6+5 else if x.am=4 then 2*eQ x.value+i4 x.a5+16 else if x.am=5 then eQ x.value+1 else if x.am=6 then cEs x.args+2 else if x.am=7 then 2 else 0:=by cases x;rw[c1];rfl
def IX{L:qG}(h:L[0]?=some a):eQ a<=cEs L:=by
 match L,h with
 |x::l,h=>
  simp only[nC,aJ]at h;subst h;rw[cEs];omega
def RC{L:qG}(h:L[0]?=some a)(k:L[1]?=some b):eQ a+eQ b<=cEs L:=by
 match L,h,k with
 |x::l,h,k=>
  simp only[nC,vC,aJ]at h k;subst h;rw[cEs];have:=IX k;omega
def zfn{L:qG}{c:Ex}(h:L[0]?=some a)(k:L[1]?=some b)(m:L[2]?=some c):eQ a+eQ b+eQ c<=cEs L:=by
 match L,h,k,m with
 |x::l,h,k,m=>
  simp only[nC,vC,aJ]at h k m;subst h;rw[cEs];have:=RC k m;omega
def i7(n:Nd)(s:Bd):(ax n s).2.l.length<=s.l.length+1:=QB _ _
def x8(c a b:Int)(s:Bd):(bZ c a b s).2.l.length<=s.l.length+1:=by
 unfold bZ;split
 .exact dH _
 .exact i7 _ _
def IY(t v:Int)(s:Bd):(lj t v s).l.length<=s.l.length+1:=i7 _ _
def RD(n i:Int)(s:Bd):(fL n i s).l.length<=s.l.length+3:=by
 have a:=i7 ⟨1,n,[]⟩ s;have b:=i7 ⟨19,0,[i,(ax ⟨1,n,[]⟩ s).1]⟩ (ax ⟨1,n,[]⟩ s).2;have c:=IY 2 (ax ⟨19,0,[i,(ax ⟨1,n,[]⟩ s).1]⟩ (ax ⟨1,n,[]⟩ s).2).1 (ax ⟨19,0,[i,(ax ⟨1,n,[]⟩ s).1]⟩ (ax ⟨1,n,[]⟩ s).2).2;have e:(fL n i s).l.length<=_:=c;omega
def zfo(v:Int)(s:Bd):(mn v s).l.length<=s.l.length+3:=by
 have a:=i7 ⟨1,0,[]⟩ s;have b:=i7 ⟨16,0,[v,(ax ⟨1,0,[]⟩ s).1]⟩ (ax ⟨1,0,[]⟩ s).2;have c:=IY 1 (ax ⟨16,0,[v,(ax ⟨1,0,[]⟩ s).1]⟩ (ax ⟨1,0,[]⟩ s).2).1 (ax ⟨16,0,[v,(ax ⟨1,0,[]⟩ s).1]⟩ (ax ⟨1,0,[]⟩ s).2).2;have e:(mn v s).l.length<=_:=c;omega
theorem se(c:Cx):∀(n:Nat) (x:Ex) (s:Bd) (r:Int×Bd),eX c n x s=some r->r.2.l.length<=s.l.length+eQ x
 |0,_,_,_,h=>by simp[eX]at h
 |n+1,x,s,r,h=>by
  have Z:=se c n;rw[zfl];unfold eX at h;by_cases i:x.am=1
  .rw[ay i]at h⊢;cases h;exact i7 _ s
  rw[af i]at h⊢;by_cases g:x.am=2
  .rw[ay g]at h⊢;obtain⟨v,_,rfl⟩:=pK.1 h;exact aO _
  rw[af g]at h⊢;split at h
  .simp only[iA]at h;obtain⟨k,j,aK,i,a,_,rfl⟩:=h;have o:=Z _ _ _ i;have J:=RD a.len aK.1 aK.2;have L:=i7 ⟨23,cY (c.aa.map (·.name)) x.name,[(fL a.len aK.1 aK.2).ab,aK.1]⟩ (fL a.len aK.1 aK.2);have m:=IX j;show(ax _ _).2.l.length<=_;omega
  split at h
  .simp only[iA]at h;obtain⟨k0,U,b9,O,k1,C,aK,i,k2,V,bB,g,rfl⟩:=h;have M:=Z _ _ _ O;have o:=Z _ _ _ i;have Y:=Z _ _ _ g;have J:bB.2.l.length<=aK.2.l.length+eQ k2:=Y;have L:=x8 b9.1 aK.1 bB.1 bB.2;have m:=x8 b9.1 aK.2.ab (bZ b9.1 aK.1 bB.1 bB.2).2.ab (bZ b9.1 aK.1 bB.1 bB.2).2;have I:=zfn U C V;show(bZ _ _ _ _).2.l.length<=_;omega
  .simp only[iS]at h;obtain⟨k0,U,b9,O,h⟩:=h;have a:=Z _ _ _ O;split at h
   .cases h;have o:=i7 ⟨x.op,0,[b9.1]⟩ b9.2;have m:=IX U;show(ax _ _).2.l.length<=_;omega
   .simp only[iA]at h;obtain⟨k1,C,aK,i,rfl⟩:=h;have b:=Z _ _ _ i;have m:=RC U C;have I:(if x.op=7\/x.op=8 then mn aK.1 aK.2 else aK.2).l.length<=aK.2.l.length+3:=by
     split
     .exact zfo _ _
     .omega
    have K:=i7 ⟨x.op,0,[b9.1,aK.1]⟩ (if x.op=7\/x.op=8 then mn aK.1 aK.2 else aK.2);show(ax _ _).2.l.length<=_;omega
theorem RE(c:Cx)(n:Nat):∀(l:qG) (s:Bd) (r:qu×Bd),oG c n l s=some r->r.2.l.length<=s.l.length+cEs l
 |[],s,r,h=>by cases h;exact aO _
 |x::l,s,r,h=>by
  unfold oG at h;simp only[iA]at h;obtain⟨aK,i,bB,g,rfl⟩:=h;have a:=se c n _ _ _ i;have b:=RE c n l _ _ g;rw[cEs];show bB.2.l.length<=_;omega
theorem RF(c:Int)(a:qu):∀(k i:Nat) (s r:Bd),nQ c a k i s=some r->r.l.length<=s.l.length+k
 |0,i,s,r,h=>by cases h;exact aO _
 |k+1,i,s,r,h=>by
  unfold nQ at h;simp only[iS]at h;obtain⟨x,_,y,_,h⟩:=h;have K:=RF c a k (i+1) _ r h;have e:r.l.length<=(bZ c x y s).2.l.length+k:=K;have:=x8 c x y s;omega
theorem RG(base:Int):∀(i:qC) (j:Nat) (s:Bd),(jj base i j s).l.length<=s.l.length+i.length
 |[],j,s=>aO _
 |w::i,j,s=>by
  rw[Oz];have a:=RG base i (j+1) { (ax ⟨3,base+j,[]⟩ s).2 with vars:=(ax ⟨3,base+j,[]⟩ s).2.vars.set w (ax ⟨3,base+j,[]⟩ s).1};have b:=i7 ⟨3,base+j,[]⟩ s;rw[eT];have e:({ (ax ⟨3,base+j,[]⟩ s).2 with vars:=(ax ⟨3,base+j,[]⟩ s).2.vars.set w (ax ⟨3,base+j,[]⟩ s).1}:Bd).l.length=(ax ⟨3,base+j,[]⟩ s).2.l.length:=rfl;omega
theorem RH(lp c:Int)(old:qu):∀(i:qC) (j:Nat) (s:Bd),(iC lp c old i j s).l.length<=s.l.length+2*i.length
 |[],j,s=>aO _
 |w::i,j,s=>by
  rw[OA];have a:=RH lp c old i (j+1) { (bZ c (ax ⟨25,j,[lp]⟩ s).1 (old.getD w 0) (ax ⟨25,j,[lp]⟩ s).2).2 with vars:=(bZ c (ax ⟨25,j,[lp]⟩ s).1 (old.getD w 0) (ax ⟨25,j,[lp]⟩ s).2).2.vars.set w (bZ c (ax ⟨25,j,[lp]⟩ s).1 (old.getD w 0) (ax ⟨25,j,[lp]⟩ s).2).1};have b:=i7 ⟨25,j,[lp]⟩ s;have d:=x8 c (ax ⟨25,j,[lp]⟩ s).1 (old.getD w 0) (ax ⟨25,j,[lp]⟩ s).2;rw[eT];have e:({ (bZ c (ax ⟨25,j,[lp]⟩ s).1 (old.getD w 0) (ax ⟨25,j,[lp]⟩ s).2).2 with vars:=(bZ c (ax ⟨25,j,[lp]⟩ s).1 (old.getD w 0) (ax ⟨25,j,[lp]⟩ s).2).2.vars.set w (bZ c (ax ⟨25,j,[lp]⟩ s).1 (old.getD w 0) (ax ⟨25,j,[lp]⟩ s).2).1}:Bd).l.length=(bZ c (ax ⟨25,j,[lp]⟩ s).1 (old.getD w 0) (ax ⟨25,j,[lp]⟩ s).2).2.l.length:=rfl;omega
theorem RI(c:Cx):∀n:Nat,(∀x s r,nR c n x s=some r->s.vars.length<=4->r.l.length<=s.l.length+c1 x)/\(∀l s r,gK c n l s=some r->s.vars.length<=4->r.l.length<=s.l.length+i4 l)/\(∀x s r,oH c n x s=some r->s.vars.length<=4->r.l.length<=s.l.length+(2*eQ x.value+i4 x.a5+16))
 |0=>⟨fun _ _ _ h=>by simp[nR]at h,fun _ _ _ h=>by simp[gK]at h,fun _ _ _ h=>by simp[oH]at h⟩
 |n+1=>by
  obtain⟨I1,K,I3⟩:=RI c n;refine⟨fun x s r h V=>?_,fun l s r h V=>?_,fun x s r h V=>?_⟩
  .rw[zfm];unfold nR at h;by_cases k1:x.am=1
   .rw[ay k1]at h⊢;simp only[iS]at h;obtain⟨aK,Z,h⟩:=h;split at h
    .cases h;exact se c n _ _ _ Z
    .cases h
   rw[af k1]at h⊢;by_cases k2:x.am=2
   .rw[ay k2]at h⊢;simp only[iA]at h;obtain⟨i,Z,v,g,a,_,rfl⟩:=h;have o:=se c n _ _ _ Z;have J:=se c n _ _ _ g;have L:=RD a.len i.1 v.2;have e4:=i7 ⟨28,cY (c.aa.map (·.name)) x.name,[(fL a.len i.1 v.2).ab,i.1,v.1]⟩ (fL a.len i.1 v.2);show(ax _ _).2.l.length<=_;omega
   rw[af k2]at h⊢;by_cases k3:x.am=3
   .rw[ay k3]at h⊢;simp only[iA]at h;obtain⟨v,Z,a,g,b,I,m,z,rfl⟩:=h;have o:=se c n _ _ _ Z;have Y:=(ev c n _ _ _ Z).v;have J:=K _ _ _ g (by rw[Y];exact V);have j:=K _ _ _ I (by show v.2.vars.length<=4;rw[Y];exact V);have L:b.l.length<=a.l.length+i4 x.a6:=j;have v3':=((mp c n).2.1 _ _ _ I).2;have C:b.vars.length=v.2.vars.length:=v3';have e4:=RF _ _ _ _ _ _ z;have e5:=x8 v.1 a.ab m.ab m;rw[Y]at C;show(bZ _ _ _ _).2.l.length<=_;omega
   rw[af k3]at h⊢;by_cases k4:x.am=4
   .rw[ay k4]at h⊢;exact I3 _ _ _ h V
   rw[af k4]at h⊢;by_cases k5:x.am=5
   .rw[ay k5]at h⊢;simp only[iA]at h;obtain⟨v,Z,rfl⟩:=h;have o:=se c n _ _ _ Z;have J:=i7 ⟨29,0,[v.2.ab,v.1]⟩ v.2;show(ax _ _).2.l.length<=_;omega
   rw[af k5]at h⊢;by_cases k6:x.am=6
   .rw[ay k6]at h⊢;simp only[iS]at h;obtain⟨O,Z,h⟩:=h;split at h
    .cases h;have o:=RE c n _ _ _ Z;have J:=i7 ⟨30,dc c.funcs x.to 0,O.2.ab::O.1⟩ O.2;generalize ax ⟨30,dc c.funcs x.to 0,O.2.ab::O.1⟩ O.2=q at *;have L:=i7 ⟨24,0,[q.1]⟩ ⟨q.2.l,q.2.vars,q.1,q.2.loops⟩;simp only at L⊢;omega
    .cases h
   rw[af k6]at h⊢;by_cases k7:x.am=7
   .rw[ay k7]at h⊢;cases h;have J:=i7 ⟨1,0,[]⟩ s;have L:=IY (cC (16+x.n)) (ax ⟨1,0,[]⟩ s).1 (ax ⟨1,0,[]⟩ s).2;show(lj _ _ _).l.length<=_;omega
   rw[af k7]at h⊢;cases h;exact aO _
  .unfold gK at h;cases l with
   |nil=>cases h;exact aO _
   |cons x l=>
    simp only[iS]at h;obtain⟨a,Z,g⟩:=h;have o:=I1 _ _ _ Z V;have Y:=((mp c n).1 _ _ _ Z).2;have J:=K _ _ _ g (by rw[Y];exact V);rw[i4];omega
  .unfold oH at h;simp only[iA]at h;obtain⟨v,Z,b,g,t,I,d,z,rfl⟩:=h;have M:=se c n _ _ _ Z;have o:v.2.l.length<=s.l.length+eQ x.value:=M;clear M;have v1':=(ev c n _ _ _ Z).v;have Y:v.2.vars=s.vars:=v1';have hb:b.length=v.2.vars.length:=by rw[wt _ _ _ _ _ g,pq]
   have hw:=IA b;rw[hb,Y]at hw;have J:=i7 ⟨3,16*(s.loops:Int),[]⟩ v.2;have v2:(ax ⟨3,16*(s.loops:Int),[]⟩ v.2).2.vars=v.2.vars:=rfl;generalize ax ⟨3,16*(s.loops:Int),[]⟩ v.2=U at *;have L:=RG (16*(s.loops:Int)+1) (gJ b) 0 ⟨U.2.l,U.2.vars,U.1,U.2.loops⟩;have C:=(ta (16*(s.loops:Int)+1) (gJ b) 0 ⟨U.2.l,U.2.vars,U.1,U.2.loops⟩).2.2.1;simp only at L C;have e4:=K _ _ _ I (by rw[C,v2,Y];exact V);have e5:=se c n _ _ _ z;generalize hk:ax ⟨31,s.loops,v.2.ab::((gJ b).map fun i=>v.2.vars.getD i 0)++[d.1,d.2.ab]++((gJ b).map fun i=>d.2.vars.getD i 0)⟩ d.2=k;have e6:k.2.l.length<=d.2.l.length+1:=by rw[<-hk];exact i7 _ _
   have e7:=i7 ⟨25,0,[k.1]⟩ ⟨k.2.l,v.2.vars,k.2.ab,k.2.loops⟩;simp only at e7;generalize ax ⟨25,0,[k.1]⟩ ⟨k.2.l,v.2.vars,k.2.ab,k.2.loops⟩=q at *;have e8:=x8 v.1 q.1 v.2.ab q.2;generalize bZ v.1 q.1 v.2.ab q.2=m at *;have e9:=RH k.1 v.1 v.2.vars (gJ b) 1 ⟨m.2.l,m.2.vars,m.1,m.2.loops⟩;simp only at e9;omega
def RJ(h:L≠[]):(b7 L).2.length+1=L.length:=by
 cases L with
 |nil=>exact absurd rfl h
 |cons a l=>simp[b7]
theorem sg(f:Int):∀(k V:Nat) (L:qu),k+V=5->V<=4->eQ (bQ f k V L).1+4*(bQ f k V L).2.length<=4*L.length
 |0,V,L,h,hd=>by omega
 |k+1,V,L,h,hd=>by
  have Y:=fun L (hd:¬(3:Int)<V)=>sg f k (V+1) L ac ac;by_cases J:L=[]
  .subst J;have e:dr (b7 []).1 16=0:=aM;simp only[bQ];rw[e,ay (.inl aM),ay (.inl aM)];simp[eQ,b7]
  .have C:=RJ J;simp only[bQ];generalize dr (b7 L).1 16=q;generalize dr (cC ((b7 L).1.tdiv 16)) 1000=m;generalize (b7 L).2=g at *;by_cases hc:q<4\/(3:Int)<V
   .rw[ay hc];split
    .simp only[eQ,Int.reduceEq,reduceIte];omega
    .simp only[eQ,Int.reduceEq,reduceIte];omega
   have Z:¬(3:Int)<V:=fun e=>hc (.inr e);rw[af hc];split
   .have a:=Y g Z;simp only[eQ,cEs,Int.reduceEq,reduceIte];omega
   split
   .have a:=Y g Z;have b:=Y (bQ f k (V+1) g).2 Z;have c:=Y (bQ f k (V+1) (bQ f k (V+1) g).2).2 Z;simp only[eQ,cEs,Int.reduceEq,reduceIte];omega
   split
   .have a:=Y g Z;simp only[eQ,cEs,Int.reduceEq,reduceIte];omega
   .have a:=Y g Z;have b:=Y (bQ f k (V+1) g).2 Z;simp only[eQ,cEs,Int.reduceEq,reduceIte];omega
theorem RK(f:Int):∀(n:Nat) (L:qu),cEs (gy f n L).1+4*(gy f n L).2.length<=4*L.length
 |0,L=>by simp[gy,cEs]
 |n+1,L=>by
  have a:=sg f 3 2 L ac ac;have b:=RK f n (bQ f 3 2 L).2;simp only[gy,cEs];omega
def zfp(M:∀L s,i4 (C L s).1+16*(C L s).2.1.length<=16*s.1.length)(f:Int)(g:qu)(c q m:Int):c1 (gc C f g c q m).1+16*(gc C f g c q m).2.1.length<=16*(g.length+1):=by
 unfold gc;split
 .have a:=sg f 5 0 g ac ac;simp only[c1,Int.reduceEq,reduceIte];omega
 split
 .have a:=sg f 3 2 g ac ac;have b:=sg f 4 1 (bQ f 3 2 g).2 ac ac;simp only[c1,Int.reduceEq,reduceIte];omega
 split
 .have a:=sg f 4 1 g ac ac;have b:=M 3 ((bQ f 4 1 g).2,c);have d:=M 2 (C 3 ((bQ f 4 1 g).2,c)).2;simp only at b;simp only[c1,Int.reduceEq,reduceIte];omega
 split
 .have a:=sg f 4 1 g ac ac;have b:=M 3 ((bQ f 4 1 g).2,cC (c+1));simp only at b;simp only[c1,Int.reduceEq,reduceIte];omega
 split
 .have a:=sg f 4 1 g ac ac;simp only[c1,Int.reduceEq,reduceIte];omega
 split
 .have a:=RK f (2-m.tmod 2).toNat g;simp only[c1,Int.reduceEq,reduceIte];omega
 .simp only[c1,Int.reduceEq,reduceIte];omega
theorem IZ{step:cK->St×cK}(M:∀s,s.1≠[]->c1 (step s).1+16*(step s).2.1.length<=16*s.1.length):∀(n:Nat) (s:cK),i4 (fZ step n s).1+16*(fZ step n s).2.1.length<=16*s.1.length
 |0,s=>by simp[fZ,i4]
 |n+1,s=>by
  rw[fZ];split
  .simp[i4]
  .rename_i h;have a:=M s h;have b:=IZ M n (step s).2;simp only[i4];omega
theorem RL(f:Int):∀(k V:Nat) (s:cK),s.1≠[]->c1 (fS f k V s).1+16*(fS f k V s).2.1.length<=16*s.1.length
 |0,V,s,h=>by simp[fS,c1]
 |k+1,V,s,h=>by
  rw[fS,uG];have e:=RJ h;rw[<-e];exact zfp (fun L s=>by
   have a:=IZ (RL f k (V+1)) (dr (b7 s.1).1 (L+1)).toNat ((b7 s.1).2,s.2);have b:=mr s.1;simp only at a;omega) _ _ _ _ _
def RM(f:Int)(k deep:Nat)(L:Int)(s:cK):i4 (kJ f k deep L s).1+16*(kJ f k deep L s).2.1.length<=16*s.1.length:=by
 have a:=IZ (RL f k deep) (dr (b7 s.1).1 (L+1)).toNat ((b7 s.1).2,s.2);have b:=mr s.1;simp only at a;unfold kJ;omega
def zfq(l:qu):∀f∈(cN l).funcs,i4 f.body+eQ f.value<=960/\f.params.length+f.aj.length<=4:=by
 have O:(l.take 60).length<=60:=vd;have Z:=mr (l.take 60);have m:i4 (ir (l.take 60)).1+16*(ir (l.take 60)).2.1.length<=16*(b7 (l.take 60)).2.length:=RM 0 4 0 5 ((b7 (l.take 60)).2,0);have Y:eQ (jW (l.take 60)).1+4*(jW (l.take 60)).2.length<=4*(ir (l.take 60)).2.1.length:=sg 0 4 1 _ ac ac;have V:i4 (lN (l.take 60)).1+16*(lN (l.take 60)).2.1.length<=16*(jW (l.take 60)).2.length:=RM 1 3 1 3 ((jW (l.take 60)).2,(ir (l.take 60)).2.2);have M:eQ (th (l.take 60)).1+4*(th (l.take 60)).2.length<=4*(lN (l.take 60)).2.1.length:=sg 1 4 1 _ ac ac;intro f i;simp only[cN,kK]at i;rcases i with rfl|rfl
 .exact⟨by show i4 (ir (l.take 60)).1+eQ (jW (l.take 60)).1<=960;omega,by show 2+2<=4;omega⟩
 .exact⟨by show i4 (lN (l.take 60)).1+eQ (th (l.take 60)).1<=960;omega,by show 1+1<=4;omega⟩
theorem RN:∀(m k:Nat) (s:Bd),(iD m k s).l.length<=s.l.length+m
 |0,k,s=>aO _
 |m+1,k,s=>by
  have a:(iD (m+1) k s).l.length<=(ax ⟨2,k,[]⟩ s).2.l.length+m:=RN m (k+1) _;have b:=i7 ⟨2,k,[]⟩ s;omega
theorem RO:∀(m:Nat) (s:Bd),(kH m s).l.length<=s.l.length+m
 |0,s=>aO _
 |m+1,s=>by
  have a:(kH (m+1) s).l.length<=(ax ⟨1,0,[]⟩ s).2.l.length+m:=RO m _;have b:=i7 ⟨1,0,[]⟩ s;omega
theorem zfr(f:Fu):(jk f).l.length<=1+f.params.length+f.aj.length/\(jk f).vars.length=f.params.length+f.aj.length:=by
 have Y:(ax ⟨26,0,[]⟩ ⟨[],[],0,0⟩).2.l.length<=1:=i7 _ _;have o:(iD f.params.length 0 { (ax ⟨26,0,[]⟩ ⟨[],[],0,0⟩).2 with ab:=(ax ⟨26,0,[]⟩ ⟨[],[],0,0⟩).1}).l.length<=(ax ⟨26,0,[]⟩ ⟨[],[],0,0⟩).2.l.length+f.params.length:=RN _ _ _;have J:(jk f).l.length<=_:=RO f.aj.length _;have i:=(Ac f.params.length 0 { (ax ⟨26,0,[]⟩ ⟨[],[],0,0⟩).2 with ab:=(ax ⟨26,0,[]⟩ ⟨[],[],0,0⟩).1}).2;have M:(jk f).vars.length=_:=(Ad f.aj.length _).2;have O:({ (ax ⟨26,0,[]⟩ ⟨[],[],0,0⟩).2 with ab:=(ax ⟨26,0,[]⟩ ⟨[],[],0,0⟩).1}:Bd).vars.length=0:=rfl;exact⟨ac,ac⟩
def zfs{n:Nat}{f:Fu}(h:jl p n f=some g)(V:f.params.length+f.aj.length<=4):g.ag.length<=5+i4 f.body+eQ f.value:=by
 unfold jl at h;simp only[iA]at h;obtain⟨s,i,v,Z,rfl⟩:=h;obtain⟨a,b⟩:=zfr f;have o:=(RI _ n).2.1 _ _ _ i ac;have J:=se _ n _ _ _ Z;show v.2.l.length<=_;omega
theorem RP{p:Pr}{n:Nat}:∀(l:qN) (M:List Gr),(∀f∈l,∃g,jl p n f=some g/\g.ag.length<=2000)->∃Z,mT p n l M=some (⟨p.aa,M++Z⟩,0)/\cy (fun f g=>jl p n f=some g/\g.ag.length<=2000) l Z
 |[],M,_=>⟨[],by rw[mT,jI],trivial⟩
 |f::l,M,h=>by
  obtain⟨g,i,Y⟩:=h f ei;obtain⟨Z,m,U⟩:=RP l (M++[g]) fun x I=>h x (ej _ I)
  refine⟨g::Z,?_,⟨i,Y⟩,U⟩;rw[mT,i,cn,af ac,m,lT];rfl
def RQ(hr:ib l):zfV (cN l):=⟨IT l,Ru hr⟩
def RR(hr:ib l):LwOk (cN l):=⟨by have:=zfk l;omega,fun _=>Ru hr⟩
theorem zft(hr:ib l):∃f g,wJ (cN l)=(⟨nX (l.take 60),[f,g]⟩,0)/\jl (cN l) (2*(cN l).sz+1) (gU (l.take 60))=some f/\jl (cN l) (2*(cN l).sz+1) (gV (l.take 60))=some g/\f.ag.length<=965/\g.ag.length<=965/\(∀n∈f.ag,n.ak.length<=40)/\∀n∈g.ag,n.ak.length<=40:=by
 have hp:=RQ hr;have m:∀f∈(cN l).funcs,∃g,jl (cN l) (2*(cN l).sz+1) f=some g/\g.ag.length<=2000/\g.ag.length<=965/\∀n∈g.ag,n.ak.length<=40:=fun f Z=>by
  obtain⟨s,v,o,J,z,_⟩:=II hp (cI _) Z;obtain⟨c1,c2⟩:=zfq l f Z;have e:jl (cN l) (2*(cN l).sz+1) f=some ⟨f.name,f.params.length,v.2.l,v.1,v.2.ab⟩:=by rw[jl,o,cn,J,cn]
  have:=zfs e c2;exact⟨_,e,ac,ac,fun n C=>(z.p n C).len⟩
 obtain⟨M,O,Y⟩:=RP (p:=cN l) (n:=2*(cN l).sz+1) (cN l).funcs [] fun f Z=>by obtain⟨g,a,b,_⟩:=m f Z;exact⟨g,a,b⟩
 have i:wJ (cN l)=(⟨nX (l.take 60),M⟩,0):=by
  rw[wJ,sW,ay (IT l),O];rfl
 have Z:(cN l).funcs=[gU (l.take 60),gV (l.take 60)]:=rfl;rw[Z]at Y m
 match M,Y,i with
 |[f,g],Y,i=>
  obtain⟨⟨bK,_⟩,⟨bW,_⟩,_⟩:=Y;obtain⟨f',V,_,L,K⟩:=m _ ei;obtain⟨g',U,_,I,j⟩:=m _ (ej _ ei);rw[bK]at V;rw[bW]at U;cases V;cases U;exact⟨f,g,i,bK,bW,L,I,K,j⟩
end Go.Proofs.Ytbflaciihaijgaa
namespace Go.Ab
set_option maxRecDepth 20000
open Go Go.WideShapes Go.Deep Go.RowKit Go.ChangeShapes
variable{t:TypeId}{v:Value}
def AM(W:World):Nat->Nat->qQ:=fun b o=>W.cell? ⟨b,o,none⟩
def zfu(W:World):∀b o v,AM W b o=some v->W.cell? ⟨b,o,none⟩=some v:=fun _ _ _ h=>h
section
variable {H:Type} {enc:TypeId × Value -> H} {P:Program} {W:World}
theorem zfv{r:Reach}{b0:Nat}{e:TypeId}{k:IntKind}{d:DataW H}{ps:List MemPlace}{sp:Nat->Bool}{U:Bool}(ht:P.underlying t=some (.slice e))(he:P.underlying e=some (.int k))(hc:P.cellsOf e=1)(O:Value.okWide P W r b0 t v)(hd:DataW.Trod enc P W 0 sp U t v d ps)(β:Nat->Option (Nat×Nat×Nat))(ρ:Nat->Int):
 ∃l:qu,VR ⟨β,AM W,ρ⟩ (.ao (l.map fun n=>[AV.int k n])) v/\l.length<=maxLen/\∀n∈l,(Lit.int k n).wf=true:=by
 obtain⟨mA,oJ,L,rfl⟩:=okWide_slice ht O;obtain⟨fuel,hf⟩:=hd;rcases open_slice1 ht hc hf with⟨h,_⟩|⟨a,len,cap,m,n,V,D,Pl,h,hb,hl,hm,hmm,hx,hV⟩
 .simp[Value.cells]at h;obtain⟨rfl,rfl,rfl⟩:=h;exact⟨[],.bU _ _,dN _,fun _ h=>absurd h az⟩
 .simp[Value.cells]at h;obtain⟨rfl,rfl,rfl⟩:=h;have hlm:oJ<=m:=by rw[hmm];split<;>omega
  have C:∀i,∃n:Int,i<oJ->V i=.int k n/\(Lit.int k n).wf=true:=fun i=>by
   by_cases Z:i<oJ
   .obtain⟨n',h1,_,h2⟩:=DataW.trod_int he (hV i ac).2;simp at h1;exact⟨n',fun _=>⟨h1,h2⟩⟩
   .exact⟨0,fun h=>absurd h Z⟩
  obtain⟨N,J⟩:=Classical.axiomOfChoice C;have hN:∀i,i<oJ->V i=.int k (N i):=fun i h=>(J i h).1;refine⟨(List.range oJ).map N,?_,ca,fun n hn=>by
   obtain⟨i,Z,rfl⟩:=nh.1 hn;exact(J i (mF.1 Z)).2⟩
  by_cases h0:oJ=0
  .subst h0;exact .bU _ _
  obtain⟨ab,ao,I⟩:=a;have K:I=none:=by
   have:=(hV 0 ac).1;simp only[Addr.add,bC,World.cell?]at this;split at this
   .split at this
    .cases this
    .rename_i hn;cases I with
     |none=>rfl
     |some s=>simp at hn
   .cases this
  subst K;have M:(((List.range oJ).map N).map fun n=>[AV.int k n]).length=oJ:=az;have g:=VR.ao (G:=⟨β,AM W,ρ⟩) (xs:=((List.range oJ).map N).map fun n=>[AV.int k n]) (b:=ab) (o:=ao) (cap:=L) (z:=1) (fun i _=>V i) ?_ ?_ ?_ (by rw[M];omega)
  .rw[M]at g;exact g
  .intro i row hr;rw[fO]at hr;cases hq:((List.range oJ).map N)[i]? with
   |none=>rw[hq]at hr;simp at hr
   |some q=>rw[hq]at hr;simp only[jo,aJ]at hr;rw[<-hr];rfl
  .intro i j Z hj;rw[M]at Z;have h2:=(hV i ac).1;show W.cell? ⟨ab,ao+i*1+j,none⟩=some (V i);have hj0:j=0:=ac;subst hj0;rw[<-h2]
   congr 1
   unfold Addr.add;split
   .rename_i h;subst h;rfl
   .simp
  .intro i j row c hr Y;rw[fO,fO]at hr;by_cases Z:i<oJ
   .rw[EC Z]at hr;simp only[jo,aJ]at hr;subst hr;cases j with
    |zero=>
     simp only[nC,aJ]at Y;subst Y;show VR _ _ (V i);rw[hN i Z];exact .int k _
    |succ j=>simp at Y
   .rw[kV ca]at hr;simp at hr
def zfw(K:laidOutB P=true)(hr:P.readableRec t=true)(Z:t<P.types.size){V:World}{d:DataW H}{ps i:List MemPlace}
 (h:DataW.Trod enc P W 0 (fun _=>true) true t v d ps) (o:Below W.heap.size W V) (z:∀p∈i,p.block<W.heap.size) (U:∀p∈ps,p∈i) {C:Nat->Bool} (Y:∀p∈i,C p.block=true) :
 DataW.Trod enc P V 0 C true t v d ps:=
 WideElems.Trod_stays K hr Z h (fun x I=>o.same (z x (U x I))) fun x I=>Y x (U x I)
end
end Go.Ab
namespace Go.Proofs.Ytbflaciihaijgaa
set_option maxRecDepth 20000
open Go Go.Ab Proofs.Try
variable{n m:Nat}{l:qy}{u O:Un}{g g' f':Gr}{U c:AV}{tb:qA}{S:Nat->Prop}{H:Hp}{x:Nd}
section
def pH(l:qu):AV:=.ao (l.map fun n=>[.int .i64 n])
theorem RS:∀{a b:qu},(a.map fun n=>[AV.int .i64 n])=(b.map fun n=>[AV.int .i64 n])->a=b
 |[],[],_=>rfl
 |[],_::_,h=>by simp at h
 |_::_,[],h=>by simp at h
 |x::a,y::b,h=>by
  simp only[dS,dR,AV.int.injEq,px]at h;rw[h.1,RS h.2]
def zfx{a b:qu}(h:pH a=pH b):a=b:=RS (by simpa only[pH,AV.ao.injEq]using h)
def RT(l:qu):fu (pH l):=.map fun n _=>.cons (.int _ _) .nil
def zfy(h:n<=maxLen):n<2^63:=z5 h aM
def zfz:prog.cellsOf 3=1:=aG
set_option maxRecDepth 100000 in
def zfA{H:Type}{enc:TypeId×Value->H}{W:World}{O:Value}{r:Reach}{z:Nat}(k0:Value.okWide prog W r z 22 O){d:DataW H}{ps:List MemPlace}{C:Nat->Bool}{Y:Bool}(Z:DataW.Trod enc prog W 0 C Y 22 O d ps):∃l:qu,VR ⟨fun _=>none,AM W,fun _=>0⟩ (pH l) O/\l.length<2^63/\∀n∈l,-9223372036854775808<=n/\n<9223372036854775808:=by
 obtain⟨l,U,K,hr⟩:=zfv underlying22 underlying3 zfz k0 Z (fun _=>none) (fun _=>0);refine⟨l,U,zfy K,fun n V=>?_⟩;have h:=hr n V;have o:IntKind.min .i64=-9223372036854775808:=aM;have J:IntKind.max .i64=9223372036854775807:=aM;simp only[Lit.wf,jJ,o,J]at h;omega
def zfB(ρ:Nat->Int)(l:qu)(K:l.length<2^63):bX prog ρ 17 [pH l] (.agg (cN l).cells):=by
 refine zbE (n:=60) (cfg:=aH pls DP) fit (rD ρ) (fun g o r Z=>gm.b2 (l:=DP) (zc3 ρ) g o r Z) (.cons (RT l) .nil) ?_;refine bb (fun v H' h=>?_) (zef Pu (zdU Pu) l K bY);obtain⟨V,Y,x,y,z,L,rfl,i,_,_⟩:=h;obtain⟨J,U,O⟩:=i.cells;have m:cW (fun q=>bY.next<=q) 100 H' (.agg [.sl V 0 2 2,.sl Y 0 2 9]) (.agg J):=cW.up (n:=16) ⟨J,U,rfl⟩ ac;obtain⟨j,M⟩:=cW.iceV m;refine⟨j,.agg J,M j (aO _),?_⟩;show AV.agg (J.map (cq 59))=_;rw[O 59 ac]
noncomputable def I0:En:=⟨17,false,ch (fun l=>l.length<2^63) (fun l=>[pH l]) fun l=>.agg (cN l).cells⟩
def zfC(ρ:Nat->Int):cT prog ρ I0:=dg fun x I=>zfB ρ x I
def tyKuC.tyF:=ad @gH (ad @sC (ad @sD (ad @In (ad @sN (@sO)))))
open tyKuC
noncomputable def RU:{c:SC // aI 12 (f6.body.getD .skip)=c}:=by
 refine⟨?_,?_⟩;rotate_left
 .simp only[f6,bS,aI,bM,bI,bT,bU,Nat.blt,Nat.ble];rfl
def tk(l:qu):Un:=(wJ (cN l)).1
end
section
theorem rep_get(m:Nat):(List.replicate 16 (0:Int)).getD m 0=0:=by
 rw[dF,xB];split<;>rfl
theorem RV:∀(l:qy) (seen:qt),(∀x∈l,NdR x)->cG seen (l.map fR)=false->l.Nodup/\∀x∈l,bJ seen (fR x)=false
 |[],seen,_,_=>⟨List.nodup_nil,fun x I=>by simp at I⟩
 |a::l,seen,hr,h=>by
  rw[dS,cG]at h;have o:bJ seen (fR a)=false/\cG (seen++[fR a]) (l.map fR)=false:=by
   cases Z:bJ seen (fR a)<;>simp_all
  obtain⟨i,g⟩:=RV l _ (fun x I=>hr x (ej _ I)) o.2;refine⟨IN.2 ⟨fun O=>?_,i⟩,fun x I=>?_⟩
  .have:=g a O;simp[bJ]at this
  .rcases gE.1 I with rfl|I
   .exact o.1
   .have:=g x I;simp only[bJ,HC,kS]at this⊢;exact this.1
def RW(hr:∀x∈l,NdR x):mR l=true->l.Nodup:=fun h=>by
 unfold mR at h;exact(RV l [] hr i9).1
def zfD(h:dV u g=true):(0<=g.params/\g.params<=6)/\(g.ag.length:Int)<=2000:=by
 unfold dV at h;simp only[jJ]at h;exact h.1.1.1
def zfE(h:dV u g=true){i:Nat}{n:Nd}(C:g.ag[i]?=some n):dh g.ag i≠0/\jU u g n=true:=by
 unfold dV at h;simp only[co]at h;have z:i<g.ag.length:=by
  by_cases c:i<g.ag.length
  .exact c
  .rw[kV ac]at C;cases C
 have:=hM.1 h.1.1.2 i (mF.2 z);rw[lA,C,co,jq]at this;exact this
def RX(h:dV u g=true):mR g.ag=true/\lL g.ag=true/\dh g.ag g.value=1/\dh g.ag g.ab=2/\ge g.ag g.value=0/\ge g.ag g.ab=0:=by
 unfold dV at h;simp only[jJ]at h;obtain⟨⟨_,⟨⟨⟨⟨⟨bK,bW⟩,_⟩,_⟩,_⟩,_⟩⟩,⟨⟨Z,m⟩,O⟩,V⟩:=h;exact⟨bK,bW,Z,m,O,V⟩
def AN{i:Int}(h:dh l i≠0):0<=i/\i<l.length:=by
 by_cases c:i<0\/(l.length:Int)<=i
 .exact absurd (by rw[dh,ay c]) h
 .omega
def tyKuM.tyF:=ad @gH (ad @sC (ad @sD (ad @sN (@sO))))
open tyKuM
def UnM.d9{bY I Z Y:Hp}{z:AV}{O:Nat->Nat}{C:qs}(h:UnM I Z u U z m O C)(h0:bY.next<=I.next)(M:Z.next<=Y.next)(j:∀k,I.next<=k->k<Z.next->Y.get k=Z.get k)(J:∀k,k<bY.next->Y.get k=bY.get k):UnM bY Y u U z m O C where
 ar:=h.ar.keep (fun k _ j=>⟨ac,j.2⟩) M fun k V K=>j k V.1 K
 fs:=h.fs.keep (aO _) M fun k h1 g=>j k (by have:=h.lo;omega) g
 arx hne:=by
  obtain⟨q,o,L,i,e4,e5⟩:=h.arx hne;exact⟨q,o,ac,i,ac,by rw[j q L e4];exact e5⟩
 lo:=by have:=h.lo;omega
 next:=by have:=h.next;omega
 get:=J
structure KuT (tb:qA):Prop extends zd5 tb where
 ck:∀ar,cV tb 36 ar=D3.sp ar
 lo:zd0 (aH pls tb) 16
 un:zd0 (aH pls tb) 6
 pr:∀ar,cV tb 17 ar=I0.sp ar
set_option maxRecDepth 100000 in
theorem zfF(L:KuT tb)(l:qu)(J:l.length<2^63)(hr:ib l)(H:Hp):
 aY prog (aH pls tb) 6 [pH l] H fun v H'=>∃Y Z m O C,v=.agg [Y,Z]/\UnM H H' (tk l) Y Z m O C:=by
 have V:=L.un;have hp:=RR hr;have kp:∀H,aY prog (aH pls tb) 17 [pH l] H fun v H'=>v=.agg (cN l).cells/\H'=H:=fun H=>cF (enc:=fun l=>[pH l]) (ok:=fun l=>l.length<2^63) (out:=fun l=>.agg (cN l).cells) (fun x y h=>zfx i9) (x:=l) (L.pr _) J;refine bF (M:=12) (rs:=[.cell 2 26]) (V.call _) V.aD V.aq func6 rfl rfl RU.2 rfl ?_;dsimp only[RU,bA,Nat.reduceAdd];repeat' (first
  |(apply aj ?_;clear hK K)|apply Rx.o ?_|apply aE ?_|(apply eC ?_;first|refine bi (kp _) ?_)|apply ah ?_|(apply ai fun K hK=>?_)|apply aq ?_)
 refine qc ?_;refine bb ?_ (zek L.tozd5 L.ck L.lo (cN l) (n:=2*(cN l).sz+1) (by have:=hp.sz;omega) (fun hc=>QP ⟨hc,hp.rg hc⟩ hp.sz (cI _)) hp.bP _);rintro v U ⟨Y,Z,m,O,C,rfl,z⟩;have n2:=z.next
 simp only[bj]at n2;have g2:U.get H.next=some qf:=by rw[z.get _ dL,aQ,ay rfl]
 have ag:cQ 2 [Y,Z]=some (.agg [Y,Z]):=rfl;have e2:(H.next == U.next)=false:=bz ac;obtain⟨I,o⟩:=z.ar.one;obtain⟨j,g⟩:=z.fs.one;have hlo:=z.lo;dsimp only[aZ];repeat' (first
  |(apply aj ?_;clear hK K)|apply Rx.o ?_|apply aE ?_|apply ah ?_|(apply ai fun K hK=>?_)|apply aq ?_)
 refine⟨aD,_,(by(try simp only[aF,aW,Nat.reduceBEq,Nat.reduceAdd,Nat.reduceLeDiff,tyF,eh,eM,ag, *]);first|done|with_reducible rfl),?_⟩;try simp only[aC]
 refine⟨Y,Z,m,O,C,rfl,z.d9 dL ip (fun k i h2=>?_) fun k hk=>?_⟩
 .simp only[bj]at i;rw[a1,af ac,a1,af ac,aQ,af ac]
 .rw[a1,af ac,a1,af ac,aQ,af ac,z.get k dL,aQ,af ac]
def zfG{l:qu}(hr:ib l):∃f g,tk l=⟨nX (l.take 60),[f,g]⟩/\f.ag.length<=965/\g.ag.length<=965/\(∀n∈f.ag,NdR n)/\(∀n∈g.ag,NdR n)/\(∀n∈f.ag,n.ak.length<=40)/\(∀n∈g.ag,n.ak.length<=40)/\f.ag≠[]/\g.ag≠[]/\gB (tk l)=true/\zf0 (tk l)/\f.name.length<=8/\g.name.length<=8:=by
 obtain⟨f,g,i,U,O,C,z,j,h7⟩:=zft hr;have hp:=RQ hr;have L:=RR hr;have Z:gU (l.take 60)∈(cN l).funcs:=ei;have K:gV (l.take 60)∈(cN l).funcs:=ej _ ei;have m:∀F∈(cN l).funcs,∀G,jl (cN l) (2*(cN l).sz+1) F=some G->∀n∈G.ag,NdR n:=fun F M G hG=>by
  obtain⟨s,v,o,J,e3⟩:=QP hp L.sz (cI _) F M;unfold jl at hG;rw[o,cn,J,cn,aJ]at hG;rw[<-hG];exact e3.r
 have Y:tk l=⟨nX (l.take 60),[f,g]⟩:=by rw[tk,i]
 have V:gB (tk l)=true/\zf0 (tk l):=by
  rcases zfa hp L.sz (cI _) L.bP with⟨e,_⟩|⟨_,o,_,_,J⟩
  .rw[i]at e;cases e
  .exact⟨o,J⟩
 have ne:∀G∈(tk l).funcs,G.ag≠[]:=fun G hG e=>by
  have I:=V.1;unfold gB at I;rw[co,hM]at I;have h9:=(RX (I.2 G hG)).2.2.1;have:=AN (by rw[h9];decide:dh G.ag G.value≠0);rw[e]at this;simp at this;omega
 refine⟨f,g,Y,C,z,m _ Z f U,m _ K g O,j,h7,ne f (by rw[Y];simp),ne g (by rw[Y];simp),V.1,V.2,?_,?_⟩
 .rw[(Eh U).1];show [102].length<=8;decide
 .rw[(Eh O).1];show [103].length<=8;decide
end
def iP(g:Gr)(n:Nd):Gr:={g with ag:=g.ag++[n] }
structure UnLk (u u':Un):Prop where
 a:u'.aa.length=u.aa.length
 f:u'.funcs.length=u.funcs.length
 p:u'.funcs.map Gr.params=u.funcs.map Gr.params
variable{f:Gr}
def RY(h:UnLk u O)(Z:g'.params=g.params)(n:Nd):jU O g' n=jU u g n:=by
 unfold jU;rw[h.a,h.f,h.p,Z]
def RZ(h:UnLk u O)(g:Gr):dV O g=dV u g:=by
 have:lA O g=lA u g:=by
  funext i
  unfold lA;split
  .rw[RY h rfl]
  .rfl
 unfold dV;rw[this]
structure VgP (u:Un) (g:Gr):Prop where
 p0:0<=g.params/\g.params<=6
 len:g.ag.length<=2000
 aW:∀(i:Nat) (n:Nd),g.ag[i]?=some n->dh g.ag i≠0/\jU u g n=true
 dT:mR g.ag=true
 lps:lL g.ag=true
 sv:dh g.ag g.value=1
 ss:dh g.ag g.ab=2
 mv:ge g.ag g.value=0
 ms:ge g.ag g.ab=0
def AO(h:dV u g=true):VgP u g:=by
 obtain⟨a,b⟩:=zfD h;obtain⟨c1,c2,L,J,I,Z⟩:=RX h;exact⟨a,ac,fun i n C=>zfE h C,c1,c2,L,J,I,Z⟩
def zfH(h:VgP u g):dV u g=true:=by
 have V:=AN (by rw[h.sv];decide:dh g.ag g.value≠0);have M:=AN (by rw[h.ss];decide:dh g.ag g.ab≠0);have K:=h.len;have I:(List.range g.ag.length).all (lA u g)=true:=by
  rw[hM];intro i z;have z:=mF.1 z;have C:g.ag[i]?=some g.ag[i]:=a0 z;obtain⟨a,b⟩:=h.aW i _ C
  unfold lA;rw[C];simp[a,b]
 unfold dV;rw[I,h.dT,h.lps,h.sv,h.ss,h.mv,h.ms];simp only[jJ,fT,px];exact⟨⟨h.p0,ac⟩,⟨⟨V.1,V.2⟩,M.1⟩,M.2⟩
theorem I2(n:Nd)(C:n.op≠31):∀(l:qy) (t:qu),kC (l++[n]) t=kC l t
 |[],t=>by
  show(if n.op=31 then _ else kC [] t)=kC [] t;rw[af C]
 |a::l,t=>by
  rw[sE,kC,kC,I2 n C l,I2 n C l]
def zfI(n:Nd)(C:n.op≠31)(m:n.op≠3)(h:lL l=true):lL (l++[n])=true:=by
 unfold lL at h⊢;rw[I2 n C];cases U:kC l (List.replicate 16 0)with
 |none=>rw[U]at h;cases h
 |some t=>
  rw[U]at h;simp only at h⊢;rw[xd,h];simp[oC,m]
def zfJ(l:qy)(c:Int):dh (l++[⟨1,c,[]⟩]) l.length=1:=by
 have K:l.length<(l++[(⟨1,c,[]⟩:Nd)]).length:=az;rw[vN K];unfold jT;have:(l++[(⟨1,c,[]⟩:Nd)])[l.length]?=some ⟨1,c,[]⟩:=az;rw[this];simp only[fy];have i:dJ 1 []=true:=aM;have g:eu (l++[(⟨1,c,[]⟩:Nd)]) ⟨1,c,[]⟩=true:=by unfold eu;simp
 rw[i,g];simp[je]
def R0{K:Un}(m:UnLk u K)(h:dV u g=true)(hl:g.ag.length<2000)(hr:∀n∈g.ag,NdR n)(Z:∀n∈g.ag,¬(n.op=1/\n.au=123456789)):dV K (iP g ⟨1,123456789,[]⟩)=true:=by
 have k:=AO h;have U:NdR (⟨1,123456789,[]⟩:Nd):=⟨aM,aM,fun k j=>(by cases j),aM⟩;have Y:=AN (by rw[k.sv];decide:dh g.ag g.value≠0);have L:=AN (by rw[k.ss];decide:dh g.ag g.ab≠0);obtain⟨v,M⟩:=kq Y.1;obtain⟨s,O⟩:=kq L.1;refine zfH ⟨k.p0,IM,fun i n C=>?_,?_,zfI _ aM aM k.lps,?_,?_,?_,?_⟩
 .have V:(g.ag++[(⟨1,123456789,[]⟩:Nd)])[i]?=some n:=C;show dh (g.ag++[(⟨1,123456789,[]⟩:Nd)]) i≠0/\_;rw[RY m (g:=g) (g':=iP g ⟨1,123456789,[]⟩) rfl];by_cases c:i<g.ag.length
  .rw[iw c]at V;rw[zA c];exact k.aW i n V
  .have z:i=g.ag.length:=by
    have:=(eS.1 V).1;simp only[fg,mC]at this;omega
   subst z;simp only[kN (aO _),lU,nC,aJ]at V;subst V;rw[zfJ];exact⟨aM,by unfold jU;simp⟩
 .refine Q9 ?_ fun x I=>?_
  .show(g.ag++[(⟨1,123456789,[]⟩:Nd)]).Nodup;refine DX.2 ⟨RW hr k.dT,az,fun a J b o e=>?_⟩;obtain rfl:=wa.1 o;subst e;exact Z _ J ⟨rfl,rfl⟩
  .rcases kU.1 I with I|I
   .exact hr x I
   .obtain rfl:=wa.1 I;exact U
 .show dh (g.ag++_) g.value=1;rw[M,zA ac,<-M];exact k.sv
 .show dh (g.ag++_) g.ab=2;rw[O,zA ac,<-O];exact k.ss
 .exact(Ec Y.1 Y.2).trans k.mv
 .exact(Ec L.1 L.2).trans k.ms
theorem Sa(hr:∀n∈g.ag,NdR n){n:Nd}(C:n∈g.ag):dV O (iP g n)=false:=by
 cases o:dV O (iP g n)with
 |false=>rfl
 |true=>
  have k:=AO o;have:=RW (l:=g.ag++[n]) (fun x I=>by
   rcases kU.1 I with I|I
   .exact hr x I
   .obtain rfl:=wa.1 I;exact hr _ C) k.dT
  exact((DX.1 this).2.2 n C n az rfl).elim
theorem Sb(g:Gr):dV O (iP g ⟨2,g.params,[]⟩)=false:=by
 cases o:dV O (iP g ⟨2,g.params,[]⟩)with
 |false=>rfl
 |true=>
  have k:=(AO o).aW g.ag.length ⟨2,g.params,[]⟩ (by show(g.ag++[_])[_]?=_;simp)
  have:=k.2;unfold jU at this;simp[iP]at this
theorem Sd(h:dV u g=true):dV O {g with value:=g.ab}=false:=by
 cases o:dV O {g with value:=g.ab}with
 |false=>rfl
 |true=>
  have k:=(AO o).sv;have k2:=(AO h).ss;simp only at k;rw[k2]at k;cases k
def uN{ar:qP}(i:f'.name=f.name/\f'.params=f.params)(J:g'.name=g.name/\g'.params=g.params)(h:gB ⟨ar,[f,g]⟩=true):gB ⟨ar,[f',g']⟩=(dV ⟨ar,[f',g']⟩ f'&&dV ⟨ar,[f',g']⟩ g')/\dV ⟨ar,[f,g]⟩ f=true/\dV ⟨ar,[f,g]⟩ g=true/\UnLk ⟨ar,[f,g]⟩ ⟨ar,[f',g']⟩:=by
 have hp:iZ ⟨ar,[f',g']⟩=iZ ⟨ar,[f,g]⟩:=by
  unfold iZ;simp only[dS,mK,iH,i.1,J.1]
 unfold gB at h⊢;rw[co,hM]at h;rw[hp,h.1,fT];exact⟨az,h.2 f az,h.2 g az,⟨rfl,rfl,by simp[i.2,J.2]⟩⟩
theorem Se{ar:qP}(h:gB ⟨ar,[f,g]⟩=true)(O:f.ag.length<2000)(Y:g.ag.length<2000)(U:∀n∈f.ag,NdR n)(J:∀n∈g.ag,NdR n):
 ((∀n∈f.ag,¬(n.op=1/\n.au=123456789))->gB ⟨ar,[iP f ⟨1,123456789,[]⟩,g]⟩=true)/\((∀n∈g.ag,¬(n.op=1/\n.au=123456789))->gB ⟨ar,[f,iP g ⟨1,123456789,[]⟩]⟩=true):=by
 constructor
 .intro Z;obtain⟨e,i,V,K⟩:=uN (f:=f) (g:=g) (f':=iP f ⟨1,123456789,[]⟩) (g':=g) ⟨rfl,rfl⟩ ⟨rfl,rfl⟩ h;rw[e,R0 K i O U Z,RZ K,V];rfl
 .intro Z;obtain⟨e,i,V,K⟩:=uN (f:=f) (g:=g) (f':=f) (g':=iP g ⟨1,123456789,[]⟩) ⟨rfl,rfl⟩ ⟨rfl,rfl⟩ h;rw[e,R0 K V Y J Z,RZ K,i];rfl
def Sf{ar:qP}(h:gB ⟨ar,[f,g]⟩=true)(i:∀n∈f.ag,NdR n)(J:∀n∈g.ag,NdR n){n:Nd}:
 (n∈f.ag->gB ⟨ar,[iP f n,g]⟩=false)/\(n∈g.ag->gB ⟨ar,[f,iP g n]⟩=false):=by
 constructor
 .intro C;obtain⟨e,_⟩:=uN (f:=f) (g:=g) (f':=iP f n) (g':=g) ⟨rfl,rfl⟩ ⟨rfl,rfl⟩ h;rw[e,Sa i C];rfl
 .intro C;obtain⟨e,_⟩:=uN (f:=f) (g:=g) (f':=f) (g':=iP g n) ⟨rfl,rfl⟩ ⟨rfl,rfl⟩ h;rw[e,Sa J C,sG]
def Sg{ar:qP}(h:gB ⟨ar,[f,g]⟩=true):gB ⟨ar,[iP f ⟨2,f.params,[]⟩,g]⟩=false/\gB ⟨ar,[f,iP g ⟨2,g.params,[]⟩]⟩=false:=by
 constructor
 .obtain⟨e,_⟩:=uN (f:=f) (g:=g) (f':=iP f ⟨2,f.params,[]⟩) (g':=g) ⟨rfl,rfl⟩ ⟨rfl,rfl⟩ h;rw[e,Sb];rfl
 .obtain⟨e,_⟩:=uN (f:=f) (g:=g) (f':=f) (g':=iP g ⟨2,g.params,[]⟩) ⟨rfl,rfl⟩ ⟨rfl,rfl⟩ h;rw[e,Sb,sG]
def Sh{ar:qP}(h:gB ⟨ar,[f,g]⟩=true):gB ⟨ar,[⟨f.name,f.params,f.ag,f.ab,f.ab⟩,g]⟩=false/\gB ⟨ar,[f,⟨g.name,g.params,g.ag,g.ab,g.ab⟩]⟩=false:=by
 constructor
 .obtain⟨e,i,Z,K⟩:=uN (f:=f) (g:=g) (f':=⟨f.name,f.params,f.ag,f.ab,f.ab⟩) (g':=g) ⟨rfl,rfl⟩ ⟨rfl,rfl⟩ h;rw[e,show dV ⟨ar,[⟨f.name,f.params,f.ag,f.ab,f.ab⟩,g]⟩ ⟨f.name,f.params,f.ag,f.ab,f.ab⟩=false from Sd i];rfl
 .obtain⟨e,i,Z,K⟩:=uN (f:=f) (g:=g) (f':=f) (g':=⟨g.name,g.params,g.ag,g.ab,g.ab⟩) ⟨rfl,rfl⟩ ⟨rfl,rfl⟩ h;rw[e,show dV ⟨ar,[f,⟨g.name,g.params,g.ag,g.ab,g.ab⟩]⟩ ⟨g.name,g.params,g.ag,g.ab,g.ab⟩=false from Sd Z,sG]
def Ei{ar:qP}(h:zf0 ⟨ar,[f,g]⟩)(i:f'.name=f.name)(J:g'.name=g.name)(h1:mO f'.ag)(h2:mO g'.ag):zf0 ⟨ar,[f',g']⟩:=by
 have hp:iZ ⟨ar,[f',g']⟩=iZ ⟨ar,[f,g]⟩:=by
  unfold iZ;simp only[dS,mK,iH,i,J]
 refine⟨h.a,h.f,fun x I=>?_,by rw[hp];exact h.z⟩;simp only[kK]at I;rcases I with rfl|rfl
 .exact h1
 .exact h2
def zfK{u w:AV}(h:cW S n H c u)(e:cq m u=w)(L:(∃k x,w=.int k x)\/∃l,w=.ao l):AV.one c=true/\c.cells=[c]:=by
 cases n with
 |zero=>exact h.elim
 |succ n=>
  cases c with
  |agg Y=>
   obtain⟨j,_,rfl⟩:=h;cases m<;>rcases L with⟨_,_,rfl⟩|⟨_,rfl⟩<;>simp[cq]at e
  |aS Y=>
   obtain⟨_,rfl⟩:=h;cases m<;>rcases L with⟨_,_,rfl⟩|⟨_,rfl⟩<;>simp[cq]at e
  |_=>exact⟨rfl,rfl⟩
def Sk{u:AV}{k:IntKind}{x:Int}(V:cW S n H c u)(Z:cq n u=.int k x):c=.int k x:=by
 cases n with
 |zero=>exact V.elim
 |succ n=>
  cases c with
  |sl r o m z=>obtain⟨_,_,Y,L,U,l,_,_,_,_,rfl⟩:=V;simp[cq]at Z
  |agg Y=>obtain⟨j,_,rfl⟩:=V;simp[cq]at Z
  |_=>obtain⟨_,rfl⟩:=V;first|(simpa [cq]using Z)|(simp[cq]at Z)
def zfL{row:qs}(h:cJ S n H row x.cells):∃O,row=[.int .i64 x.op,.int .i64 x.au,O]/\AV.one O=true/\O.cells=[O]:=by
 obtain⟨J,i,g⟩:=h;have m:=g n (aO _);rw[Nd.aA]at m
 match row,J,i with
 |[],[],_=>simp at m
 |[_],[_],_=>simp at m
 |[_,_],[_,_],_=>simp at m
 |[a,b,c],[u,v,w],⟨M,Z,j,_⟩=>
  simp only[dS,mK,dR,aU]at m;exact⟨c,by rw[Sk M m.1,Sk Z m.2.1],zfK j m.2.2 (.inr ⟨_,rfl⟩)⟩
 |_::_::_::_::_,_::_::_::_::_,_=>simp at m
theorem I4{z:Nat}:∀{rows:List qs}{i j:Nat}{r:qs},(∀x∈rows,x.length=z)->rows[i]?=some r->j<z->rows.flatten[i*z+j]?=r[j]?
 |[],i,j,r,_,h,_=>by simp at h
 |a::rows,0,j,r,hz,h,hj=>by
  simp only[nC,aJ]at h;subst h;have:=hz a ei;rw[od,ve,bO,iw ac]
 |a::rows,i+1,j,r,hz,h,hj=>by
  have K:=hz a ei;have ih:=I4 (z:=z) (rows:=rows) (i:=i) (j:=j) (r:=r) (fun x I=>hz x (ej _ I)) i9 hj;rw[od,kN (by rw[nf];omega),<-ih]
  congr 1
  rw[nf];omega
def Sl{Y:AV}(h:dQ S 2 H 3 Y (l.map Nd.cells))(J:l≠[]):∃Z L z,Y=.sl Z 0 l.length 3/\S Z/\Z<H.next/\H.get Z=some (.cells z.flatten L true)/\L<=z.flatten.length/\eO (fun k=>S k/\k≠Z) 2 H 3 z (l.map Nd.cells) /\
 ∀(i:Nat) (x:Nd),l[i]?=some x->∃O,z[i]?=some [.int .i64 x.op,.int .i64 x.au,O]/\AV.one O=true/\O.cells=[O]/\z.flatten[i*3]?=some (.int .i64 x.op)/\z.flatten[i*3+1]?=some (.int .i64 x.au):=by
 rcases h with⟨_,e⟩|⟨q,L,z,rfl,C,g,m,o,M⟩
 .exact absurd (List.map_eq_nil_iff.1 e) J
 .have K:z.length=l.length:=by have:=cy.len M;rwa [dx]at this
  refine⟨q,L,z,by rw[K],C,g,m,o,M,fun i x I=>?_⟩;have hi:i<z.length:=by rw[K];exact(eS.1 I).1
  have hr:z[i]?=some z[i]:=a0 hi;have hw:=cy.get M hr (b:=x.cells) (by rw[fO,I];rfl);obtain⟨O,e,V,U⟩:=zfL hw.2;rw[e]at hr;have f0:=I4 (j:=0) (eO.len M) hr ac;have f1:=I4 (j:=1) (eO.len M) hr ac;exact⟨O,hr,V,U,f0,f1⟩
def AP{q:Nat}{Z C:AV}{ar:qP}(K:q<H.next)(J:H.get q=some (.cells [.ai f.name,.int .i64 f.params,Z,.int .i64 f.value,.int .i64 f.ab,.ai g.name,.int .i64 g.params,C,.int .i64 g.value,.int .i64 g.ab] 0 true))
 (O:ec (fun _=>True) 5 H U (.ao (ar.map Ar.cells))) (Y:ec (fun _=>True) 4 H Z (.ao (f.ag.map Nd.cells))) (V:ec (fun _=>True) 4 H C (.ao (g.ag.map Nd.cells))):cJ (fun _=>True) 5 H [U,.sl q 0 2 5] (Un.mk ar [f,g]).cells:=by
 refine .cons O (.cons ?_ .nil);refine sZ (S:=fun _=>True) (n:=4) (a:=[[.ai f.name,.int .i64 f.params,Z,.int .i64 f.value,.int .i64 f.ab],[.ai g.name,.int .i64 g.params,C,.int .i64 g.value,.int .i64 g.ab]]) (b:=[f.cells,g.cells]) trivial K J (dN _) ⟨⟨rfl,?_⟩,⟨rfl,?_⟩,trivial⟩
 .exact .cons (.ai _) (.cons (.int _ _) (.cons Y (.cons (.int _ _) (.cons (.int _ _) .nil))))
 .exact .cons (.ai _) (.cons (.int _ _) (.cons V (.cons (.int _ _) (.cons (.int _ _) .nil))))
def AQ(K:∀o,cV tb 7 o=(rL IQ).sp o)(z:iL tb 7=true)(m:zf0 u)(C:n<60){cs:qs}(V:cJ S n H cs u.cells):aY prog (aH pls tb) 7 [.agg cs] H fun w H'=>w=.bool (gB u)/\H'=H:=by
 obtain⟨J,i,g⟩:cJ S (n+1) H [.agg cs] [.agg u.cells]:=.cons (.agg V) .nil;exact ZN (x:=u) (enc:=fun u:Un=>[.agg u.cells]) (ok:=zf0) (out:=fun u=>.bool (gB u)) (fun x y h=>Un.inj i9) (fun o=>by rw[K];rfl) z (fun y=>rfl) m rfl ac i (g 60 ac)
def Sn{O:AV}(h:dQ S 2 H 3 O (l.map Nd.cells))(hS:∀k,S k->k<H.next){row:qs}(hr:row.length=3)(h1:row.all AV.one=true)(Z:cJ (fun k=>S k/\∀o m J,O≠.sl k o m J) 2 H row x.cells)(K:l.length<2^30):
 ∃H',dm prog false (H.alloc (.cells row 0 true)) 30 30 O (.sl H.next 0 1 3)=some (.sl (H.next+1) 0 (l.length+1) 3,H')/\H'.next=H.next+2/\(∀k,k<H.next->(∀o m J,O≠.sl k o m J)->H'.get k=H.get k)/\ec (fun k=>S k\/H.next<=k) 4 H' (.sl (H.next+1) 0 (l.length+1) 3) (.ao ((l++[x]).map Nd.cells)):=by
 obtain⟨H',V,Y,M,U⟩:=HR (P:=prog) (t:=30) underlying30 ze FV FW rfl aG (S':=fun k=>S k\/H.next<=k)
  (h.keep (S':=fun k=>S k\/H.next<=k) (H':=H.alloc (.cells row 0 true)) (fun _ _ h=>.inl h) (dH _) fun k _ j=>eG) (fun _ _ h=>h) (.inr (dH _)) (r:=H.next) (imm:=0) (row:=row) (w:=x.cells) gD hr h1
  (Z.aR (fun k _ j=>⟨.inl j.1,j.2⟩) (dH _) fun k _ j=>eG)
  DM DM
 rw[dx]at V Y;refine⟨H',V,by rw[M];rfl,fun k j g=>by rw[U k dL g,aQ,af ac],?_⟩;have:=Y.rd;rw[sw];exact this.up ac
end Go.Proofs.Ytbflaciihaijgaa
