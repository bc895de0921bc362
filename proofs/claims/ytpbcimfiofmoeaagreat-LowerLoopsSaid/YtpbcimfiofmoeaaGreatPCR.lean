/- Parts: VdD, VdE, LwX, G5a, G5b. -/
import Derived.Test.YtpbcimfiofmoeaaGreatPCQ
set_option linter.unusedSimpArgs false
set_option linter.unusedVariables false
set_option linter.unusedSectionVars false
set_option linter.defProp false
set_option maxHeartbeats 32000000
namespace Go.Ab
set_option maxRecDepth 20000
open Go
theorem Ga{P:Prop}(h:P:=by rw[List.getElem?_eq_getElem hj,e]):P:=h
theorem NX{P:Prop}(h:P:=by simp only[List.all_cons,List.all_nil,w0,zgc,w2,w3,w4,Bool.and_true];rfl):P:=h
theorem rK{P:Prop}(h:P:=by simp only[zfo,Nat.reduceBEq, *];exact zhp (n:=g.nodes.length) ac ac):P:=h
theorem Gb{P:Prop}(h:P:=by rw[<- hHb,Hp.get_set,if_neg ac,zfk,if_neg ac]):P:=h
theorem Gc{P:Prop}(h:P:=by rw[hr,decide_eq_false ac]):P:=h
theorem Gd{P:Prop}(h:P:=by rw[hr,decide_eq_true ac]):P:=h
theorem NY{P:Prop}(h:P:=by simp only[zfo,Nat.reduceBEq, *];exact zhp (n:=u.funcs.length) ac ac):P:=h
theorem NZ{P:Prop}(h:P:=by rw[<- M,Hp.get_set,if_neg ac,zfk,if_neg ac]):P:=h
theorem Ca{P:Prop}(h:P:=by rw[Hp.get_set,if_neg ac,Hp.get_set,if_neg ac]):P:=h
end Go.Ab
namespace Go.Proofs.YtpbcimfiofmoeaaGreat
set_option maxRecDepth 20000
open Go Go.Ab
section
def tyVdD.tyF:=ad @ej (ad @cN (ad @tJ (ad @dH (ad @iD (ad @eQ (ad @lP (ad @xp (ad @xq (ad @u5 (ad @li (ad @xr (ad @pV (ad @IA (ad @pS (@qW)))))))))))))))
open tyVdD
noncomputable def qE:{c:SC // aH 179 (Tryz.f47.body.getD .skip)=c}:=by
 refine⟨?_,?_⟩;rotate_left
 .simp only[Tryz.f47,bS,aH,zfO,zfL,zfR,zfS,Nat.blt,Nat.ble];rfl
theorem N0{l:List Nd}{i:Nat}(h:i<l.length):((zhc l l.length).map fun b=>[AV.lst (b.map fun x=>[AV.bool x])])[i]?=some [.lst (((zhc l l.length).getD i []).map fun x=>[AV.bool x])]:=by
 have L:i<(zhc l l.length).length:=by rw[sC];exact h
 rw[fT,dd,aR L];rfl
theorem N2{l:List Nd}{i:Nat}(h:i<l.length):((zhc l l.length).getD i []).length=16:=by
 have:∀n,i<n->n<=l.length->((zhc l n).getD i []).length=16:=by
  intro n;induction n with
  |zero=>intro h;omega
  |succ n ih=>
   intro Z g;rw[zhc];by_cases e:i<n
   .rw[AF (by rw[sC];exact e)];exact ih e ac
   .rw[AG (by rw[sC];omega)];simp
 exact this _ h (aE _)
theorem N4{b:List Bool}{j:Nat}(h:j<b.length):(b.map fun x=>[AV.bool x])[j]?=some [.bool (b.getD j false)]:=by
 rw[fT,dd,aR h];rfl
set_option maxRecDepth 100000 in
theorem zyW(ρ:Nat->Int)(x:VgX)(hx:FY x):ce Tryz.prog ρ 47 (ui x) (.bool (mF x.u x.g)):=zg3 fit (pls:=pls) (zuM ρ) (.cons (.agg (Un.pure _)) (.cons (.agg (Gr.pure _)) .nil)) (.bool _) (by
 obtain⟨u,g⟩:=x;obtain⟨⟨hnd,hua,huf⟩,hnm,hndr⟩:=hx;have hw:Plain (zfn pls s9) 47:=zgK (fun _=>rfl) rfl;rw[ui];simp only[]at hnd hua huf hnm hndr⊢;have hnl:=hnd.1;have q16:(16:Int)≠0:=aD;have kv:∀H,zfs Tryz.prog (zfn pls s9) 46 [.str g.name] H fun v H'=>v=.bool (zf7 g.name)/\H'=H:=fun H=>zgL (enc:=nJ) (out:=fun x=>.bool (zf7 x)) vi (x:=g.name) rfl hnm;have ks:∀H,zfs Tryz.prog (zfn pls s9) 13 [iI g.nodes] H fun v H'=>v=gg (zga g.nodes g.nodes.length)/\H'=H:=fun H=>NS (fun _=>rfl) _ hnd H;obtain⟨R,Y⟩:∃R,mF u g=R:=⟨_,rfl⟩;have hF:¬(zf7 g.name=true/\kQ u g=true)->R=false:=fun h=>by rw[<-Y];exact zrT h
 have hT:zf7 g.name=true->kQ u g=true->R=true:=fun h1 O=>by rw[<-Y,mF,h1,O];rfl
 rw[Y];clear Y;by_cases c0':zf7 g.name=false
 .have Y:=hF (fun h=>by rw[c0']at h;exact absurd h.1 aD);refine zfz (M:=179) (rs:=[.tmp 4]) (hw.call _) hw.ice hw.froz Tryz.func47 rfl rfl qE.2 rfl ?_;dsimp only[qE,zft,Nat.reduceAdd];repeat' (first
   |(apply ah ?_;clear hK K)|apply Ry.o ?_|apply bM ?_|(apply d4 ?_;first|refine Rx.k (kv _) ?_)|(apply bC (fun J z=>?_) (fun J z=>?_)<;>try(cases J;done))|(apply aL (fun o Z=>?_) (fun o Z=>?_)<;>try(cases o;done))|apply ak ?_|(apply zff fun K hK=>?_)|(apply zfm 17 [(1,6),(4,6),(5,6)] fun K hK=>?_)|(apply zfm 28 [(1,20),(3,20),(4,20),(8,20),(9,20),(12,20),(14,20),(17,20)] fun K hK=>?_)|(apply zfx ?_;try intro _)|(apply zfG ?_ ?_<;>clear hK K)|apply br ?_|(apply zgC (fun J z=>?_) (fun J z=>?_)<;>try(cases J;done))|apply ay ?_|apply zfh ?_|apply ax ?_|apply zfr ?_)
  all_goals (refine⟨zfj,_,zfq,?_⟩;try simp only[zfi])
  rw[Y]
 have c0:zf7 g.name=true:=by simpa using c0'
 clear c0';by_cases c1:g.params<0
 .have Y:=hF (fun h=>by have:=(FZ h.2).1.1;omega);refine zfz (M:=179) (rs:=[.tmp 4]) (hw.call _) hw.ice hw.froz Tryz.func47 rfl rfl qE.2 rfl ?_;dsimp only[qE,zft,Nat.reduceAdd];repeat' (first
   |(apply ah ?_;clear hK K)|apply Ry.o ?_|apply bM ?_|(apply d4 ?_;first|refine Rx.k (kv _) ?_)|(apply bC (fun J z=>?_) (fun J z=>?_)<;>try(cases J;done))|(apply aL (fun o Z=>?_) (fun o Z=>?_)<;>try(cases o;done))|apply ak ?_|(apply zff fun K hK=>?_)|(apply zfm 17 [(1,6),(4,6),(5,6)] fun K hK=>?_)|(apply zfm 28 [(1,20),(3,20),(4,20),(8,20),(9,20),(12,20),(14,20),(17,20)] fun K hK=>?_)|(apply zfx ?_;try intro _)|(apply zfG ?_ ?_<;>clear hK K)|apply br ?_|(apply zgC (fun J z=>?_) (fun J z=>?_)<;>try(cases J;done))|apply ay ?_|apply zfh ?_|apply ax ?_|apply zfr ?_)
  all_goals (refine⟨zfj,_,zfq,?_⟩;try simp only[zfi])
  rw[Y]
 by_cases c2:6<g.params
 .have Y:=hF (fun h=>by have:=(FZ h.2).1.2;omega);refine zfz (M:=179) (rs:=[.tmp 4]) (hw.call _) hw.ice hw.froz Tryz.func47 rfl rfl qE.2 rfl ?_;dsimp only[qE,zft,Nat.reduceAdd];repeat' (first
   |(apply ah ?_;clear hK K)|apply Ry.o ?_|apply bM ?_|(apply d4 ?_;first|refine Rx.k (kv _) ?_)|(apply bC (fun J z=>?_) (fun J z=>?_)<;>try(cases J;done))|(apply aL (fun o Z=>?_) (fun o Z=>?_)<;>try(cases o;done))|apply ak ?_|(apply zff fun K hK=>?_)|(apply zfm 17 [(1,6),(4,6),(5,6)] fun K hK=>?_)|(apply zfm 28 [(1,20),(3,20),(4,20),(8,20),(9,20),(12,20),(14,20),(17,20)] fun K hK=>?_)|(apply zfx ?_;try intro _)|(apply zfG ?_ ?_<;>clear hK K)|apply br ?_|(apply zgC (fun J z=>?_) (fun J z=>?_)<;>try(cases J;done))|apply ay ?_|apply zfh ?_|apply ax ?_|apply zfr ?_)
  all_goals (refine⟨zfj,_,zfq,?_⟩;try simp only[zfi])
  rw[Y]
 by_cases c3:(2000:Int)<g.nodes.length
 .have Y:=hF (fun h=>by have:=(FZ h.2).2;omega);refine zfz (M:=179) (rs:=[.tmp 4]) (hw.call _) hw.ice hw.froz Tryz.func47 rfl rfl qE.2 rfl ?_;dsimp only[qE,zft,Nat.reduceAdd];repeat' (first
   |(apply ah ?_;clear hK K)|apply Ry.o ?_|apply bM ?_|(apply d4 ?_;first|refine Rx.k (kv _) ?_)|(apply bC (fun J z=>?_) (fun J z=>?_)<;>try(cases J;done))|(apply aL (fun o Z=>?_) (fun o Z=>?_)<;>try(cases o;done))|apply ak ?_|(apply zff fun K hK=>?_)|(apply zfm 17 [(1,6),(4,6),(5,6)] fun K hK=>?_)|(apply zfm 28 [(1,20),(3,20),(4,20),(8,20),(9,20),(12,20),(14,20),(17,20)] fun K hK=>?_)|(apply zfx ?_;try intro _)|(apply zfG ?_ ?_<;>clear hK K)|apply br ?_|(apply zgC (fun J z=>?_) (fun J z=>?_)<;>try(cases J;done))|apply ay ?_|apply zfh ?_|apply ax ?_|apply zfr ?_)
  all_goals (refine⟨zfj,_,zfq,?_⟩;try simp only[zfi])
  rw[Y]
 have hsl:=zh8 g.nodes g.nodes.length;refine zfz (M:=179) (rs:=[.tmp 4]) (hw.call _) hw.ice hw.froz Tryz.func47 rfl rfl qE.2 rfl ?_;dsimp only[qE,zft,Nat.reduceAdd];repeat' (first
  |(apply ah ?_;clear hK K)|apply Ry.o ?_|apply bM ?_|(apply d4 ?_;first|refine Rx.k (kv _) ?_|refine Rx.k (ks _) ?_)|(apply bC (fun J z=>?_) (fun J z=>?_)<;>try(cases J;done))|(apply aL (fun o Z=>?_) (fun o Z=>?_)<;>try(cases o;done))|apply ak ?_|(apply zff fun K hK=>?_)|(apply zfm 17 [(1,6),(4,6),(5,6)] fun K hK=>?_)|(apply zfm 28 [(1,20),(3,20),(4,20),(8,20),(9,20),(12,20),(14,20),(17,20)] fun K hK=>?_)|(apply zfx ?_;try intro _)|(apply zfG ?_ ?_<;>clear hK K)|apply br ?_|(apply zgC (fun J z=>?_) (fun J z=>?_)<;>try(cases J;done))|apply ay ?_|apply zfh ?_|apply ax ?_|apply zfr ?_)
 refine zgs [2,3,5] [0,1] 6 g.nodes.length (fun i E H=>∀j,j<i->zgu g.nodes j≠0) eE (fun j hj=>ac) ?_;rintro i E Hi hi hcE hrH C hsI hJ;(try simp only[zfT,zfB,a0,zfo,zfv,Nat.reduceBEq,Nat.reduceAdd,Nat.reduceLeDiff,tyF, *]at hcE);(try simp only[zfT,zfB,a0,zfo,zfv,Nat.reduceBEq,Nat.reduceAdd,Nat.reduceLeDiff,tyF, *]at hrH);(try simp only[zfw,zfI,zgj,b9,Nat.reduceAdd]at C);have hB0:(0 == Hi.next)=false:=zfN ac;have hC0:(Hi.next == 0)=false:=zfN ac;have hB1:(1 == Hi.next)=false:=zfN ac;have hC1:(Hi.next == 1)=false:=zfN ac;have ni:2<=Hi.next:=C
 by_cases hlt:i<g.nodes.length
 .have hlt':(i:Int)<g.nodes.length:=by omega
  have hsg:=Z6 hlt;by_cases hs0:zgu g.nodes i=0
  .have Y:=hF (fun h=>(NW h.2 (aR hlt)).1 hs0);rw[hs0]at hsg;repeat' (first
    |(apply ah ?_;clear hK K)|apply Ry.o ?_|apply bM ?_|(apply bC (fun J z=>?_) (fun J z=>?_)<;>try(cases J;done))|(apply aL (fun o Z=>?_) (fun o Z=>?_)<;>try(cases o;done))|apply ak ?_|(apply zff fun K hK=>?_)|(apply zfm 17 [(1,6),(4,6),(5,6)] fun K hK=>?_)|(apply zfm 28 [(1,20),(3,20),(4,20),(8,20),(9,20),(12,20),(14,20),(17,20)] fun K hK=>?_)|(apply zfx ?_;try intro _)|(apply zfG ?_ ?_<;>clear hK K)|apply br ?_|(apply zgC (fun J z=>?_) (fun J z=>?_)<;>try(cases J;done))|apply ay ?_|apply zfh ?_|apply ax ?_|apply zfr ?_)
   all_goals (refine⟨zfj,_,zfq,?_⟩;try simp only[zfi])
   rw[Y]
  .repeat' (first
    |(apply ah ?_;clear hK K)|apply Ry.o ?_|apply bM ?_|(apply bC (fun J z=>?_) (fun J z=>?_)<;>try(cases J;done))|(apply aL (fun o Z=>?_) (fun o Z=>?_)<;>try(cases o;done))|apply ak ?_|(apply zff fun K hK=>?_)|(apply zfm 17 [(1,6),(4,6),(5,6)] fun K hK=>?_)|(apply zfm 28 [(1,20),(3,20),(4,20),(8,20),(9,20),(12,20),(14,20),(17,20)] fun K hK=>?_)|(apply zfx ?_;try intro _)|(apply zfG ?_ ?_<;>clear hK K)|apply br ?_|(apply zgC (fun J z=>?_) (fun J z=>?_)<;>try(cases J;done))|apply ay ?_|apply zfh ?_|apply ax ?_|apply zfr ?_)
   refine⟨ac,eL,eL,zf4,rK,?_⟩;intro j hj;by_cases e:j=i
   .rw[e];exact hs0
   .exact hJ j ac
 have hlt':¬(i:Int)<g.nodes.length:=ac;have hsort:∀(j:Nat) (n:Nd),g.nodes[j]?=some n->zgu g.nodes j≠0:=fun j n h=>by
  have hj:j<g.nodes.length:=by
   by_cases c:j<g.nodes.length
   .exact c
   .rw[gI ac]at h;cases h
  exact hJ j ac
 obtain⟨hnok,hlok⟩:=zrU hsort;clear hJ;have hmk:∀H:Hp,zhT Tryz.prog H 84 (.int .i64 16) (.int .i64 16)=some (.sl H.next 0 16 1,H.alloc (.cells ((nW (List.replicate 16 0)).map .bool) 0 true)):=fun H=>by rw[<-zd5,<-NG];exact D8 16 ac
 have hks:∀(a b:Nd) (H:Hp),a.kids.length<2^60->zfs Tryz.prog (zfn pls s9) 67 [.agg a.cells,.agg b.cells] H fun v H'=>v=.bool (decide (a=b))/\H'=H:=fun a b H h=>zdV (fun _=>rfl) a b h H;have hlv:∀(m:Int) (H:Hp),zfs Tryz.prog (zfn pls s9) 82 [iI g.nodes,.int .i64 m] H fun v H'=>v=.int .i64 (jn g.nodes m)/\H'=H:=fun m H=>zgL (enc:=pw) (ok:=fun x=>kK x.1) (out:=fun x=>.int .i64 (jn x.1 x.2)) JF (x:=(g.nodes,m)) rfl hnd;have hro:∀(m:Int) (H:Hp),zfs Tryz.prog (zfn pls s9) 15 [iI g.nodes,.int .i64 m] H fun v H'=>v=.int .i64 (zgu g.nodes m)/\H'=H:=fun m H=>zdY (fun _=>rfl) _ _ hnd H;have hlk:∀n∈g.nodes,n.op=31->LoopOk n:=fun n hn=>(hlok n hn).1;repeat' (first
  |(apply ah ?_;clear hK K)|apply Ry.o ?_|apply bM ?_|(apply bC (fun J z=>?_) (fun J z=>?_)<;>try(cases J;done))|(apply aL (fun o Z=>?_) (fun o Z=>?_)<;>try(cases o;done))|apply ak ?_|(apply zff fun K hK=>?_)|(apply zfm 17 [(1,6),(4,6),(5,6)] fun K hK=>?_)|(apply zfm 28 [(1,20),(3,20),(4,20),(8,20),(9,20),(12,20),(14,20),(17,20)] fun K hK=>?_)|(apply zfx ?_;try intro _)|(apply zfG ?_ ?_<;>clear hK K)|apply br ?_|(apply zgC (fun J z=>?_) (fun J z=>?_)<;>try(cases J;done))|apply ay ?_|apply zfh ?_|apply ax ?_|apply zfr ?_)
 refine zgs [2,3,5,7] [0,1] 8 g.nodes.length (fun i E H=>∃t:List Int,t.length=16/\H.get Hi.next=some (.cells ((nW t).map .bool) 0 true)/\kL g.nodes (List.replicate 16 0)=kL (g.nodes.drop i) t/\∀(j:Nat) (n:Nd),j<i->g.nodes[j]?=some n->jY u g n=true/\nU g.nodes n=false/\∀(k:Nat) (m:Nd),k<j->g.nodes[k]?=some m->m≠n) eE ⟨List.replicate 16 0,au,xV,rfl,fun j n h=>ac⟩ ?_;clear hlt' hlt;rintro L E2 H2 hi2 hcE hrH C hsI ⟨t,ht,J,hJ1,hJ2⟩;(try simp only[zfT,zfB,a0,zfo,zfv,Nat.reduceBEq,Nat.reduceAdd,Nat.reduceLeDiff,tyF, *]at hcE);(try simp only[zfT,zfB,a0,zfo,zfv,Nat.reduceBEq,Nat.reduceAdd,Nat.reduceLeDiff,tyF, *]at hrH);(try simp only[zfw,zfI,zgj,b9,Nat.reduceAdd]at C);have hB0:(0 == H2.next)=false:=zfN ac;have hC0:(H2.next == 0)=false:=zfN ac;have hB1:(1 == H2.next)=false:=zfN ac;have hC1:(H2.next == 1)=false:=zfN ac;have n2:Hi.next+1<=H2.next:=C
 by_cases hlt:L<g.nodes.length
 .have hlt':(L:Int)<g.nodes.length:=by omega
  have hgx:g.nodes[L]?=some g.nodes[L]:=aR hlt;have hmem:=dI hlt;have hnk:=hnd.2 _ hmem;obtain⟨k31,k3,k30⟩:=hlok _ hmem;have hdr:kL (g.nodes.drop L) t=if g.nodes[L].op=31 then (if 0<t.getD g.nodes[L].imm.toNat 0 then none else kL (g.nodes.drop (L+1)) (t.set g.nodes[L].imm.toNat (fu g.nodes[L].kids.length)))else kL (g.nodes.drop (L+1)) t:=by rw[gW hlt,kL]
  generalize g.nodes[L]=n at *;repeat' (first
   |(apply ah ?_;clear hK K)|apply Ry.o ?_|apply bM ?_|(apply bC (fun J z=>?_) (fun J z=>?_)<;>try(cases J;done))|(apply aL (fun o Z=>?_) (fun o Z=>?_)<;>try(cases o;done))|apply ak ?_|(apply zff fun K hK=>?_)|(apply zfm 17 [(1,6),(4,6),(5,6)] fun K hK=>?_)|(apply zfm 28 [(1,20),(3,20),(4,20),(8,20),(9,20),(12,20),(14,20),(17,20)] fun K hK=>?_)|(apply zfx ?_;try intro _)|(apply zfG ?_ ?_<;>clear hK K)|apply br ?_|(apply zgC (fun J z=>?_) (fun J z=>?_)<;>try(cases J;done))|apply ay ?_|apply zfh ?_|apply ax ?_|apply zfr ?_)
  generalize hHb:Hp.set (Hp.alloc _ _) _ _=Hb;have nb:H2.next+1<=Hb.next:=by rw[<-hHb];exact aE _
  have gb:Hb.get Hi.next=some (.cells ((nW t).map .bool) 0 true):=by rw[<-hHb,aQ,af ac,zfk,af ac];exact J
  have g5:Hb.get H2.next=some (.cells n.cells 0 true):=by rw[<-hHb,aQ,aq rfl]
  have g0:Hb.get 0=H2.get 0:=Gb;have g1:Hb.get 1=H2.get 1:=Gb;clear hHb J;refine zgs [2,3,5,7,8,9] [0,1] 10 L (fun k E H=>H.get Hi.next=some (.cells ((nW t).map .bool) 0 true)/\H.get H2.next=some (.cells n.cells 0 true)/\∀(k':Nat) (m:Nd),k'<k->g.nodes[k']?=some m->m≠n) eE ⟨gb,g5,fun k' m h=>ac⟩ ?_;clear gb g5;rintro k E3 H3 hk hcE hrH C hsI ⟨gb,g5,hne⟩;(try simp only[zfT,zfB,a0,zfo,zfv,Nat.reduceBEq,Nat.reduceAdd,Nat.reduceLeDiff,tyF, *]at hcE);(try simp only[zfT,zfB,a0,zfo,zfv,Nat.reduceBEq,Nat.reduceAdd,Nat.reduceLeDiff,tyF, *]at hrH);(try simp only[zfw,zfI,zgj,b9,Nat.reduceAdd]at C);have hB0:(0 == H3.next)=false:=zfN ac;have hC0:(H3.next == 0)=false:=zfN ac;have hB1:(1 == H3.next)=false:=zfN ac;have hC1:(H3.next == 1)=false:=zfN ac;have n3:H2.next+1<=H3.next:=ac
  by_cases hkt:k<L
  .have hkt':(k:Int)<L:=by omega
   have hgk:g.nodes[k]?=some g.nodes[k]:=aR ac;have hmk':=hnd.2 _ (dI (show k<g.nodes.length by omega));have hmn:=fun h:g.nodes[k]=n=>hF (fun hv=>zuP (zuD (fun x hx=>hndr x hx) (yG hv.2).1) hkt (by rw[hgk,h]) hgx rfl);generalize g.nodes[k]=m at *;by_cases he:m=n
   .have Y:=hmn he;have hd:decide (m=n)=true:=dt he;clear hmn he;repeat' (first
     |(apply ah ?_;clear hK K)|apply Rx.o ?_|(apply kF ?_;first|refine Rx.k (hks _ _ _ ac) ?_)|(apply bt (fun o Z=>?_) (fun o Z=>?_)<;>try(cases o;done))|apply ak ?_|(apply zff fun K hK=>?_)|(apply zfm 17 [(1,6),(4,6),(5,6)] fun K hK=>?_)|(apply zfm 28 [(1,20),(3,20),(4,20),(8,20),(9,20),(12,20),(14,20),(17,20)] fun K hK=>?_)|(apply zfx ?_;try intro _)|(apply zfG ?_ ?_<;>clear hK K)|apply br ?_|apply ay ?_|apply zfh ?_|apply ax ?_|apply zfr ?_)
    all_goals first|exact zf6|skip
    all_goals (refine⟨zfj,_,zfq,?_⟩;try simp only[zfi])
    rw[Y]
   .have hd:decide (m=n)=false:=d6 he;clear hmn;repeat' (first
     |(apply ah ?_;clear hK K)|apply Rx.o ?_|(apply kF ?_;first|refine Rx.k (hks _ _ _ ac) ?_)|(apply bt (fun o Z=>?_) (fun o Z=>?_)<;>try(cases o;done))|apply ak ?_|(apply zff fun K hK=>?_)|(apply zfm 17 [(1,6),(4,6),(5,6)] fun K hK=>?_)|(apply zfm 28 [(1,20),(3,20),(4,20),(8,20),(9,20),(12,20),(14,20),(17,20)] fun K hK=>?_)|(apply zfx ?_;try intro _)|(apply zfG ?_ ?_<;>clear hK K)|apply br ?_|apply ay ?_|apply zfh ?_|apply ax ?_|apply zfr ?_)
    all_goals first|exact zf6|skip
    refine⟨ac,eL,eL,zf4,(by simp only[zfo,Nat.reduceBEq, *];exact zhp (n:=L) ac ac),?_⟩;refine⟨gb,g5,fun k' m' h1 O=>?_⟩;by_cases e:k'=k
    .rw[e,hgk,az]at O;rw[<-O];exact he
    .exact hne k' m' ac O
  clear g0 g1;have hkt':¬(k:Int)<L:=ac;have hall:∀(k':Nat) (m:Nd),k'<L->g.nodes[k']?=some m->m≠n:=fun k' m h1 O=>hne k' m ac O;have U:jY u g n=true->nU g.nodes n=false->∀(j:Nat) (x:Nd),j<L+1->g.nodes[j]?=some x->jY u g x=true/\nU g.nodes x=false/\∀(k:Nat) (m:Nd),k<j->g.nodes[k]?=some m->m≠x:=fun h1 O j x hj hx=>by
   by_cases e:j=L
   .subst e;rw[hgx,az]at hx;subst hx;exact⟨h1,O,hall⟩
   .exact hJ2 j x ac hx
  have hbad:jY u g n=false->R=false:=fun h=>hF fun hv=>by have:=(NW hv.2 hgx).2;rw[h]at this;cases this
  have hbad2:zhV g.nodes=false->R=false:=fun h=>hF fun hv=>by have:=(yG hv.2).2.1;rw[h]at this;cases this
  have I:n.op≠3->nU g.nodes n=false:=fun h=>by unfold nU;rw[d6 h,eJ,eJ]
  have V:n.op≠31->kL g.nodes (List.replicate 16 0)=kL (g.nodes.drop (L+1)) t:=fun h=>by rw[hJ1,hdr,af h]
  clear hall hne hJ2 hF hT;by_cases O:n.op=2
  .have hr:jY u g n=decide (n.imm<g.params):=by rw[jY,aq O]
   by_cases hp:g.params<=n.imm
   .have Y:=hbad Gc;repeat' (first
     |(apply ah ?_;clear hK K)|apply Ry.o ?_|apply bM ?_|(apply bC (fun J z=>?_) (fun J z=>?_)<;>try(cases J;done))|(apply aL (fun o Z=>?_) (fun o Z=>?_)<;>try(cases o;done))|apply ak ?_|(apply zff fun K hK=>?_)|(apply zfm 17 [(1,6),(4,6),(5,6)] fun K hK=>?_)|(apply zfm 28 [(1,20),(3,20),(4,20),(8,20),(9,20),(12,20),(14,20),(17,20)] fun K hK=>?_)|(apply zfx ?_;try intro _)|(apply zfG ?_ ?_<;>clear hK K)|apply br ?_|(apply zgC (fun J z=>?_) (fun J z=>?_)<;>try(cases J;done))|apply ay ?_|apply zfh ?_|apply ax ?_|apply zfr ?_)
    all_goals (refine⟨zfj,_,zfq,?_⟩;try simp only[zfi])
    rw[Y]
   .repeat' (first
     |(apply ah ?_;clear hK K)|apply Ry.o ?_|apply bM ?_|(apply bC (fun J z=>?_) (fun J z=>?_)<;>try(cases J;done))|(apply aL (fun o Z=>?_) (fun o Z=>?_)<;>try(cases o;done))|apply ak ?_|(apply zff fun K hK=>?_)|(apply zfm 17 [(1,6),(4,6),(5,6)] fun K hK=>?_)|(apply zfm 28 [(1,20),(3,20),(4,20),(8,20),(9,20),(12,20),(14,20),(17,20)] fun K hK=>?_)|(apply zfx ?_;try intro _)|(apply zfG ?_ ?_<;>clear hK K)|apply br ?_|(apply zgC (fun J z=>?_) (fun J z=>?_)<;>try(cases J;done))|apply ay ?_|apply zfh ?_|apply ax ?_|apply zfr ?_)
    refine⟨ac,eL,eL,zf4,rK,?_⟩;exact⟨t,ht,gb,V ac,U Gd (I ac)⟩
  by_cases h23:n.op=23
  .have hr:jY u g n=decide (n.imm<u.arrays.length):=by rw[jY,af O,aq (.inl h23)]
   by_cases hp:(u.arrays.length:Int)<=n.imm
   .have Y:=hbad Gc;clear O;repeat' (first
     |(apply ah ?_;clear hK K)|apply Ry.o ?_|apply bM ?_|(apply bC (fun J z=>?_) (fun J z=>?_)<;>try(cases J;done))|(apply aL (fun o Z=>?_) (fun o Z=>?_)<;>try(cases o;done))|apply ak ?_|(apply zff fun K hK=>?_)|(apply zfm 17 [(1,6),(4,6),(5,6)] fun K hK=>?_)|(apply zfm 28 [(1,20),(3,20),(4,20),(8,20),(9,20),(12,20),(14,20),(17,20)] fun K hK=>?_)|(apply zfx ?_;try intro _)|(apply zfG ?_ ?_<;>clear hK K)|apply br ?_|(apply zgC (fun J z=>?_) (fun J z=>?_)<;>try(cases J;done))|apply ay ?_|apply zfh ?_|apply ax ?_|apply zfr ?_)
    all_goals (refine⟨zfj,_,zfq,?_⟩;try simp only[zfi])
    rw[Y]
   .clear O;repeat' (first
     |(apply ah ?_;clear hK K)|apply Ry.o ?_|apply bM ?_|(apply bC (fun J z=>?_) (fun J z=>?_)<;>try(cases J;done))|(apply aL (fun o Z=>?_) (fun o Z=>?_)<;>try(cases o;done))|apply ak ?_|(apply zff fun K hK=>?_)|(apply zfm 17 [(1,6),(4,6),(5,6)] fun K hK=>?_)|(apply zfm 28 [(1,20),(3,20),(4,20),(8,20),(9,20),(12,20),(14,20),(17,20)] fun K hK=>?_)|(apply zfx ?_;try intro _)|(apply zfG ?_ ?_<;>clear hK K)|apply br ?_|(apply zgC (fun J z=>?_) (fun J z=>?_)<;>try(cases J;done))|apply ay ?_|apply zfh ?_|apply ax ?_|apply zfr ?_)
    refine⟨ac,eL,eL,zf4,rK,?_⟩;exact⟨t,ht,gb,V ac,U Gd (I ac)⟩
  by_cases h28:n.op=28
  .have hr:jY u g n=decide (n.imm<u.arrays.length):=by rw[jY,af O,aq (.inr h28)]
   by_cases hp:(u.arrays.length:Int)<=n.imm
   .have Y:=hbad Gc;clear O h23;repeat' (first
     |(apply ah ?_;clear hK K)|apply Ry.o ?_|apply bM ?_|(apply bC (fun J z=>?_) (fun J z=>?_)<;>try(cases J;done))|(apply aL (fun o Z=>?_) (fun o Z=>?_)<;>try(cases o;done))|apply ak ?_|(apply zff fun K hK=>?_)|(apply zfm 17 [(1,6),(4,6),(5,6)] fun K hK=>?_)|(apply zfm 28 [(1,20),(3,20),(4,20),(8,20),(9,20),(12,20),(14,20),(17,20)] fun K hK=>?_)|(apply zfx ?_;try intro _)|(apply zfG ?_ ?_<;>clear hK K)|apply br ?_|(apply zgC (fun J z=>?_) (fun J z=>?_)<;>try(cases J;done))|apply ay ?_|apply zfh ?_|apply ax ?_|apply zfr ?_)
    all_goals (refine⟨zfj,_,zfq,?_⟩;try simp only[zfi])
    rw[Y]
   .clear O h23;repeat' (first
     |(apply ah ?_;clear hK K)|apply Ry.o ?_|apply bM ?_|(apply bC (fun J z=>?_) (fun J z=>?_)<;>try(cases J;done))|(apply aL (fun o Z=>?_) (fun o Z=>?_)<;>try(cases o;done))|apply ak ?_|(apply zff fun K hK=>?_)|(apply zfm 17 [(1,6),(4,6),(5,6)] fun K hK=>?_)|(apply zfm 28 [(1,20),(3,20),(4,20),(8,20),(9,20),(12,20),(14,20),(17,20)] fun K hK=>?_)|(apply zfx ?_;try intro _)|(apply zfG ?_ ?_<;>clear hK K)|apply br ?_|(apply zgC (fun J z=>?_) (fun J z=>?_)<;>try(cases J;done))|apply ay ?_|apply zfh ?_|apply ax ?_|apply zfr ?_)
    refine⟨ac,eL,eL,zf4,rK,?_⟩;exact⟨t,ht,gb,V ac,U Gd (I ac)⟩
  by_cases h30:n.op=30
  .obtain⟨m,hm⟩:=jw (k30 h30);have e1:IntKind.wrap .i64 ((n.kids.length:Int)-1)=(n.kids.length:Int)-1:=zhb ac ac;have hr:jY u g n=(decide ((m:Int)<u.funcs.length)&&decide ((n.kids.length:Int)-1=(u.funcs.map Gr.params).getD m 0)):=by
    rw[jY,af ac,af ac,aq h30,hm,gV]
   clear O h23 h28;by_cases hp:(u.funcs.length:Int)<=m
   .have Y:=hbad (by rw[hr,d6 ac];rfl);repeat' (first
     |(apply ah ?_;clear hK K)|apply Ry.o ?_|apply bM ?_|(apply bC (fun J z=>?_) (fun J z=>?_)<;>try(cases J;done))|(apply aL (fun o Z=>?_) (fun o Z=>?_)<;>try(cases o;done))|apply ak ?_|(apply zff fun K hK=>?_)|(apply zfm 17 [(1,6),(4,6),(5,6)] fun K hK=>?_)|(apply zfm 28 [(1,20),(3,20),(4,20),(8,20),(9,20),(12,20),(14,20),(17,20)] fun K hK=>?_)|(apply zfx ?_;try intro _)|(apply zfG ?_ ?_<;>clear hK K)|apply br ?_|(apply zgC (fun J z=>?_) (fun J z=>?_)<;>try(cases J;done))|apply ay ?_|apply zfh ?_|apply ax ?_|apply zfr ?_)
    all_goals first|exact zf6|skip
    all_goals (refine⟨zfj,_,zfq,?_⟩;try simp only[zfi])
    rw[Y]
   .have hgf:u.funcs[m]?=some u.funcs[m]:=aR ac;have hgp2:(u.funcs.map Gr.params).getD m 0=u.funcs[m].params:=by rw[dd,fT,hgf];rfl
    rw[hgp2]at hr;clear hgp2;generalize u.funcs[m]=q at *;by_cases hq:q.params=(n.kids.length:Int)-1
    .repeat' (first
      |(apply ah ?_;clear hK K)|apply Ry.o ?_|apply bM ?_|(apply bC (fun J z=>?_) (fun J z=>?_)<;>try(cases J;done))|(apply aL (fun o Z=>?_) (fun o Z=>?_)<;>try(cases o;done))|apply ak ?_|(apply zff fun K hK=>?_)|(apply zfm 17 [(1,6),(4,6),(5,6)] fun K hK=>?_)|(apply zfm 28 [(1,20),(3,20),(4,20),(8,20),(9,20),(12,20),(14,20),(17,20)] fun K hK=>?_)|(apply zfx ?_;try intro _)|(apply zfG ?_ ?_<;>clear hK K)|apply br ?_|(apply zgC (fun J z=>?_) (fun J z=>?_)<;>try(cases J;done))|apply ay ?_|apply zfh ?_|apply ax ?_|apply zfr ?_)
     all_goals first|exact zf6|skip
     refine⟨ac,eL,eL,zf4,rK,?_⟩;exact⟨t,ht,gb,V ac,U (by rw[hr,dt ac,dt hq.symm];rfl) (I ac)⟩
    .have hq':¬(n.kids.length:Int)-1=q.params:=fun e=>hq e.symm;have Y:=hbad (by rw[hr,d6 hq',p7]);clear hq;repeat' (first
      |(apply ah ?_;clear hK K)|apply Ry.o ?_|apply bM ?_|(apply bC (fun J z=>?_) (fun J z=>?_)<;>try(cases J;done))|(apply aL (fun o Z=>?_) (fun o Z=>?_)<;>try(cases o;done))|apply ak ?_|(apply zff fun K hK=>?_)|(apply zfm 17 [(1,6),(4,6),(5,6)] fun K hK=>?_)|(apply zfm 28 [(1,20),(3,20),(4,20),(8,20),(9,20),(12,20),(14,20),(17,20)] fun K hK=>?_)|(apply zfx ?_;try intro _)|(apply zfG ?_ ?_<;>clear hK K)|apply br ?_|(apply zgC (fun J z=>?_) (fun J z=>?_)<;>try(cases J;done))|apply ay ?_|apply zfh ?_|apply ax ?_|apply zfr ?_)
     all_goals first|exact zf6|skip
     all_goals (refine⟨zfj,_,zfq,?_⟩;try simp only[zfi])
     rw[Y]
  have hrt:jY u g n=true:=by rw[jY,af O,af ac,af h30]
  by_cases h31:n.op=31
  .have ho:=k31 h31;obtain⟨m,hm⟩:=jw ho.i0;have hm16:m<16:=by have:=ho.i1;omega
   have hixq:=vF (q:=Hi.next) hm16;have hld:=E6 gb (m:=m) (by rw[nW,cO];omega);rw[zrR ht hm16]at hld;rw[aq h31,hm,gV]at hdr;have hst:=Br gb (m:=m) (by rw[nW,cO];omega) true;clear O h23 h28 h30;by_cases hp:0<t.getD m 0
   .have Y:=hbad2 (zrN (by rw[hJ1,hdr,aq hp]));rw[dt hp]at hld;repeat' (first
     |(apply ah ?_;clear hK K)|apply Ry.o ?_|apply bM ?_|(apply bC (fun J z=>?_) (fun J z=>?_)<;>try(cases J;done))|(apply aL (fun o Z=>?_) (fun o Z=>?_)<;>try(cases o;done))|apply ak ?_|(apply zff fun K hK=>?_)|(apply zfm 17 [(1,6),(4,6),(5,6)] fun K hK=>?_)|(apply zfm 28 [(1,20),(3,20),(4,20),(8,20),(9,20),(12,20),(14,20),(17,20)] fun K hK=>?_)|(apply zfx ?_;try intro _)|(apply zfG ?_ ?_<;>clear hK K)|apply br ?_|(apply zgC (fun J z=>?_) (fun J z=>?_)<;>try(cases J;done))|apply ay ?_|apply zfh ?_|apply ax ?_|apply zfr ?_)
    all_goals (refine⟨zfj,_,zfq,?_⟩;try simp only[zfi])
    rw[Y]
   .rw[d6 hp]at hld;rw[af hp]at hdr;repeat' (first
     |(apply ah ?_;clear hK K)|apply Ry.o ?_|apply bM ?_|(apply bC (fun J z=>?_) (fun J z=>?_)<;>try(cases J;done))|(apply aL (fun o Z=>?_) (fun o Z=>?_)<;>try(cases o;done))|apply ak ?_|(apply zff fun K hK=>?_)|(apply zfm 17 [(1,6),(4,6),(5,6)] fun K hK=>?_)|(apply zfm 28 [(1,20),(3,20),(4,20),(8,20),(9,20),(12,20),(14,20),(17,20)] fun K hK=>?_)|(apply zfx ?_;try intro _)|(apply zfG ?_ ?_<;>clear hK K)|apply br ?_|(apply zgC (fun J z=>?_) (fun J z=>?_)<;>try(cases J;done))|apply ay ?_|apply zfh ?_|apply ax ?_|apply zfr ?_)
    refine⟨ac,eL,eL,zf4,rK,?_⟩;exact⟨t.set m (fu n.kids.length),by rw[jk];exact ht,by rw[aQ,aq rfl,zrS ho.lv.2],by rw[hJ1,hdr],U hrt (I ac)⟩
  by_cases h3:n.op=3
  .obtain⟨m0,zfJ⟩:=k3 h3;have hd1:IntKind.wrap .i64 (n.imm.tdiv 16)=n.imm.tdiv 16:=by rw[mo m0];exact zhb ac ac
   have hd2:IntKind.wrap .i64 (n.imm.tmod 16)=n.imm.tmod 16:=by rw[BJ m0];exact zhb ac ac
   have hlr:nU g.nodes n=(decide (0<jn g.nodes (n.imm.tdiv 16))&&decide (jn g.nodes (n.imm.tdiv 16)<=n.imm.tmod 16)):=by unfold nU;rw[dt h3,fy]
   have hbl:nU g.nodes n=true->R=false:=fun h=>hbad2 (zrM hlk hmem (fun _=>⟨m0,zfJ⟩) h);have hkl:=hlv (n.imm.tdiv 16);clear O h23 h28 h30 h31;generalize jn g.nodes (n.imm.tdiv 16)=v at *;by_cases hv0:0<v
   .by_cases hv1:v<=n.imm.tmod 16
    .have Y:=hbl (by rw[hlr,dt hv0,dt hv1];rfl);repeat' (first
      |(apply ah ?_;clear hK K)|apply Ry.o ?_|apply bM ?_|(apply d4 ?_;first|refine Rx.k (hkl _) ?_)|(apply bC (fun J z=>?_) (fun J z=>?_)<;>try(cases J;done))|(apply aL (fun o Z=>?_) (fun o Z=>?_)<;>try(cases o;done))|apply ak ?_|(apply zff fun K hK=>?_)|(apply zfm 17 [(1,6),(4,6),(5,6)] fun K hK=>?_)|(apply zfm 28 [(1,20),(3,20),(4,20),(8,20),(9,20),(12,20),(14,20),(17,20)] fun K hK=>?_)|(apply zfx ?_;try intro _)|(apply zfG ?_ ?_<;>clear hK K)|apply br ?_|(apply zgC (fun J z=>?_) (fun J z=>?_)<;>try(cases J;done))|apply ay ?_|apply zfh ?_|apply ax ?_|apply zfr ?_)
     all_goals (refine⟨zfj,_,zfq,?_⟩;try simp only[zfi])
     rw[Y]
    .repeat' (first
      |(apply ah ?_;clear hK K)|apply Ry.o ?_|apply bM ?_|(apply d4 ?_;first|refine Rx.k (hkl _) ?_)|(apply bC (fun J z=>?_) (fun J z=>?_)<;>try(cases J;done))|(apply aL (fun o Z=>?_) (fun o Z=>?_)<;>try(cases o;done))|apply ak ?_|(apply zff fun K hK=>?_)|(apply zfm 17 [(1,6),(4,6),(5,6)] fun K hK=>?_)|(apply zfm 28 [(1,20),(3,20),(4,20),(8,20),(9,20),(12,20),(14,20),(17,20)] fun K hK=>?_)|(apply zfx ?_;try intro _)|(apply zfG ?_ ?_<;>clear hK K)|apply br ?_|(apply zgC (fun J z=>?_) (fun J z=>?_)<;>try(cases J;done))|apply ay ?_|apply zfh ?_|apply ax ?_|apply zfr ?_)
     refine⟨ac,eL,eL,zf4,rK,?_⟩;exact⟨t,ht,gb,V ac,U hrt (by rw[hlr,d6 hv1,p7])⟩
   .repeat' (first
     |(apply ah ?_;clear hK K)|apply Ry.o ?_|apply bM ?_|(apply d4 ?_;first|refine Rx.k (hkl _) ?_)|(apply bC (fun J z=>?_) (fun J z=>?_)<;>try(cases J;done))|(apply aL (fun o Z=>?_) (fun o Z=>?_)<;>try(cases o;done))|apply ak ?_|(apply zff fun K hK=>?_)|(apply zfm 17 [(1,6),(4,6),(5,6)] fun K hK=>?_)|(apply zfm 28 [(1,20),(3,20),(4,20),(8,20),(9,20),(12,20),(14,20),(17,20)] fun K hK=>?_)|(apply zfx ?_;try intro _)|(apply zfG ?_ ?_<;>clear hK K)|apply br ?_|(apply zgC (fun J z=>?_) (fun J z=>?_)<;>try(cases J;done))|apply ay ?_|apply zfh ?_|apply ax ?_|apply zfr ?_)
    refine⟨ac,eL,eL,zf4,rK,?_⟩;exact⟨t,ht,gb,V ac,U hrt (by rw[hlr,d6 hv0,eJ])⟩
  .repeat' (first
    |(apply ah ?_;clear hK K)|apply Ry.o ?_|apply bM ?_|(apply bC (fun J z=>?_) (fun J z=>?_)<;>try(cases J;done))|(apply aL (fun o Z=>?_) (fun o Z=>?_)<;>try(cases o;done))|apply ak ?_|(apply zff fun K hK=>?_)|(apply zfm 17 [(1,6),(4,6),(5,6)] fun K hK=>?_)|(apply zfm 28 [(1,20),(3,20),(4,20),(8,20),(9,20),(12,20),(14,20),(17,20)] fun K hK=>?_)|(apply zfx ?_;try intro _)|(apply zfG ?_ ?_<;>clear hK K)|apply br ?_|(apply zgC (fun J z=>?_) (fun J z=>?_)<;>try(cases J;done))|apply ay ?_|apply zfh ?_|apply ax ?_|apply zfr ?_)
   refine⟨ac,eL,eL,zf4,rK,?_⟩;exact⟨t,ht,gb,V h31,U hrt (I h3)⟩
 have hlt':¬(L:Int)<g.nodes.length:=ac;have hie:L=g.nodes.length:=ac;have hdist:g.nodes.Nodup:=zuO fun j n hn k m h1 O=>(hJ2 j n (by
  by_cases c:j<g.nodes.length
  .omega
  .rw[gI ac]at hn;cases hn) hn).2.2 k m h1 O
 have hg1:∀(j:Nat) (n:Nd),g.nodes[j]?=some n->jY u g n=true/\nU g.nodes n=false:=fun j n hn=>by
  have hj:j<g.nodes.length:=by
   by_cases c:j<g.nodes.length
   .exact c
   .rw[gI ac]at hn;cases hn
  obtain⟨a,b,_⟩:=hJ2 j n ac hn;exact⟨a,b⟩
 have hdv:sJ g.nodes=true:=Nq hdist hndr;have hvl:zhV g.nodes=true:=by
  rw[hie,qq (aE _)]at hJ1;refine zpo hlk hJ1 fun n hn=>?_;obtain⟨j,hj,e⟩:=tp hn;have hgj:g.nodes[j]?=some n:=Ga;exact⟨(hlok n hn).2.1,(hg1 j n hgj).2⟩
 have hvg:zgu g.nodes g.value=1->zgu g.nodes g.state=2->zhk g.nodes g.value=0->zhk g.nodes g.state=0->kQ u g=true:=fun h6 h7 h8 h9=>zd6 ac ac ac (fun j n hn=>⟨hsort j n hn,(hg1 j n hn).1⟩) hdv hvl h6 h7 h8 h9;clear hg1 hdist hdv hvl hJ1 hJ2 hie J ht;by_cases v1:zgu g.nodes g.value=1
 .by_cases s2:zgu g.nodes g.state=2
  .obtain⟨v0,vl⟩:=B9 (l:=g.nodes) (i:=g.value) (by rw[v1];decide);obtain⟨s0,sl⟩:=B9 (l:=g.nodes) (i:=g.state) (by rw[s2];decide);obtain⟨a,ha⟩:=jw v0;obtain⟨b,hb0⟩:=jw s0;have hal:a<g.nodes.length:=ac;have hbl:b<g.nodes.length:=ac;have hld:Eo g.nodes:=⟨hnd,hnok⟩;have khd:∀H,zfs Tryz.prog (zfn pls s9) 83 [iI g.nodes] H fun v H'=>v=.lst ((zhc g.nodes g.nodes.length).map fun b=>[AV.lst (b.map fun x=>[AV.bool x])])/\H'=H:=fun H=>zgL (enc:=t4) (ok:=FP) (out:=fun l=>BW (zhc l l.length)) JE (x:=g.nodes) rfl ⟨hld,ac⟩;have q1:=N0 hal;have q2:=N0 hbl;have l1:=N2 hal;have l2:=N2 hbl;have z1:zhk g.nodes (a:Int)=0↔∀t,t<16->((zhc g.nodes g.nodes.length).getD a []).getD t false=false:=mask_zero hnok (fun j hj=>JG hld (aE _) hj) hal;have z2:zhk g.nodes (b:Int)=0↔∀t,t<16->((zhc g.nodes g.nodes.length).getD b []).getD t false=false:=mask_zero hnok (fun j hj=>JG hld (aE _) hj) hbl;rw[ha,hb0]at hvg;rw[ha]at v1;rw[hb0]at s2;have hFm:¬(zhk g.nodes a=0/\zhk g.nodes b=0)->R=false:=fun h=>hF fun hv=>by
    have:=yG hv.2;rw[ha,hb0]at this;exact h ⟨this.2.2.2.2.1,this.2.2.2.2.2⟩
   rw[z1,z2]at hFm;have hTm:zhk g.nodes a=0->zhk g.nodes b=0->R=true:=fun h1 O=>hT c0 (hvg v1 s2 h1 O);rw[z1,z2]at hTm;clear z1 z2 hF hT hvg hnok hlok hlk v0 vl s0 sl hld;generalize (zhc g.nodes g.nodes.length).getD a []=ra at *;generalize (zhc g.nodes g.nodes.length).getD b []=rb at *;have kv1:=hro (a:Int);have ks2:=hro (b:Int);rw[v1]at kv1;rw[s2]at ks2;repeat' (first
    |(apply ah ?_;clear hK K)|apply Ry.o ?_|apply bM ?_|(apply d4 ?_;first|refine Rx.k (kv1 _) ?_|refine Rx.k (ks2 _) ?_|refine Rx.k (khd _) ?_)|(apply bC (fun J z=>?_) (fun J z=>?_)<;>try(cases J;done))|(apply aL (fun o Z=>?_) (fun o Z=>?_)<;>try(cases o;done))|apply ak ?_|(apply zff fun K hK=>?_)|(apply zfm 17 [(1,6),(4,6),(5,6)] fun K hK=>?_)|(apply zfm 28 [(1,20),(3,20),(4,20),(8,20),(9,20),(12,20),(14,20),(17,20)] fun K hK=>?_)|(apply zfx ?_;try intro _)|(apply zfG ?_ ?_<;>clear hK K)|apply br ?_|(apply zgC (fun J z=>?_) (fun J z=>?_)<;>try(cases J;done))|apply ay ?_|apply zfh ?_|apply ax ?_|apply zfr ?_)
   all_goals first|exact zf6|skip
   refine zgs [3,12] [1] 13 16 (fun j E H=>∀t,t<j->ra.getD t false=false/\rb.getD t false=false) eE (fun t h=>ac) ?_;clear hlt';rintro j E4 H4 hj hcE hrH C hsI hJ;(try simp only[zfT,zfB,a0,zfo,zfv,Nat.reduceBEq,Nat.reduceAdd,Nat.reduceLeDiff,tyF, *]at hcE);(try simp only[zfT,zfB,a0,zfo,zfv,Nat.reduceBEq,Nat.reduceAdd,Nat.reduceLeDiff,tyF, *]at hrH);(try simp only[zfw,zfI,zgj,b9,Nat.reduceAdd]at C);have hB0:(1 == H4.next)=false:=zfN ac;have hC0:(H4.next == 1)=false:=zfN ac;by_cases hjt:j<16
   .have hjt':(j:Int)<16:=by omega
    have g1:=N4 (b:=ra) (j:=j) ac;have g2:=N4 (b:=rb) (j:=j) ac;by_cases x1:ra.getD j false=true
    .have Y:=hFm (fun h=>by have:=h.1 j hjt;rw[x1]at this;cases this);rw[x1]at g1;repeat' (first
      |(apply ah ?_;clear hK K)|apply Ry.o ?_|apply bM ?_|(apply bC (fun J z=>?_) (fun J z=>?_)<;>try(cases J;done))|(apply aL (fun o Z=>?_) (fun o Z=>?_)<;>try(cases o;done))|apply ak ?_|(apply zff fun K hK=>?_)|(apply zfm 17 [(1,6),(4,6),(5,6)] fun K hK=>?_)|(apply zfm 28 [(1,20),(3,20),(4,20),(8,20),(9,20),(12,20),(14,20),(17,20)] fun K hK=>?_)|(apply zfx ?_;try intro _)|(apply zfG ?_ ?_<;>clear hK K)|apply br ?_|(apply zgC (fun J z=>?_) (fun J z=>?_)<;>try(cases J;done))|apply ay ?_|apply zfh ?_|apply ax ?_|apply zfr ?_)
     all_goals (refine⟨zfj,_,zfq,?_⟩;try simp only[zfi])
     rw[Y]
    have x1':ra.getD j false=false:=by simpa using x1
    rw[x1']at g1;by_cases x2:rb.getD j false=true
    .have Y:=hFm (fun h=>by have:=h.2 j hjt;rw[x2]at this;cases this);rw[x2]at g2;repeat' (first
      |(apply ah ?_;clear hK K)|apply Ry.o ?_|apply bM ?_|(apply bC (fun J z=>?_) (fun J z=>?_)<;>try(cases J;done))|(apply aL (fun o Z=>?_) (fun o Z=>?_)<;>try(cases o;done))|apply ak ?_|(apply zff fun K hK=>?_)|(apply zfm 17 [(1,6),(4,6),(5,6)] fun K hK=>?_)|(apply zfm 28 [(1,20),(3,20),(4,20),(8,20),(9,20),(12,20),(14,20),(17,20)] fun K hK=>?_)|(apply zfx ?_;try intro _)|(apply zfG ?_ ?_<;>clear hK K)|apply br ?_|(apply zgC (fun J z=>?_) (fun J z=>?_)<;>try(cases J;done))|apply ay ?_|apply zfh ?_|apply ax ?_|apply zfr ?_)
     all_goals (refine⟨zfj,_,zfq,?_⟩;try simp only[zfi])
     rw[Y]
    have x2':rb.getD j false=false:=by simpa using x2
    rw[x2']at g2;clear x1 x2 hFm hTm;repeat' (first
     |(apply ah ?_;clear hK K)|apply Ry.o ?_|apply bM ?_|(apply bC (fun J z=>?_) (fun J z=>?_)<;>try(cases J;done))|(apply aL (fun o Z=>?_) (fun o Z=>?_)<;>try(cases o;done))|apply ak ?_|(apply zff fun K hK=>?_)|(apply zfm 17 [(1,6),(4,6),(5,6)] fun K hK=>?_)|(apply zfm 28 [(1,20),(3,20),(4,20),(8,20),(9,20),(12,20),(14,20),(17,20)] fun K hK=>?_)|(apply zfx ?_;try intro _)|(apply zfG ?_ ?_<;>clear hK K)|apply br ?_|(apply zgC (fun J z=>?_) (fun J z=>?_)<;>try(cases J;done))|apply ay ?_|apply zfh ?_|apply ax ?_|apply zfr ?_)
    refine⟨ac,eL,eL,zf4,vR,?_⟩;intro t ht;by_cases e:t=j
    .subst e;exact⟨x1',x2'⟩
    .exact hJ t ac
   .have hjt':¬(j:Int)<16:=by omega
    have Y:=hTm (fun t ht=>(hJ t ac).1) (fun t ht=>(hJ t ac).2);repeat' (first
     |(apply ah ?_;clear hK K)|apply Ry.o ?_|apply bM ?_|(apply bC (fun J z=>?_) (fun J z=>?_)<;>try(cases J;done))|(apply aL (fun o Z=>?_) (fun o Z=>?_)<;>try(cases o;done))|apply ak ?_|(apply zff fun K hK=>?_)|(apply zfm 17 [(1,6),(4,6),(5,6)] fun K hK=>?_)|(apply zfm 28 [(1,20),(3,20),(4,20),(8,20),(9,20),(12,20),(14,20),(17,20)] fun K hK=>?_)|(apply zfx ?_;try intro _)|(apply zfG ?_ ?_<;>clear hK K)|apply br ?_|(apply zgC (fun J z=>?_) (fun J z=>?_)<;>try(cases J;done))|apply ay ?_|apply zfh ?_|apply ax ?_|apply zfr ?_)
    all_goals (refine⟨zfj,_,zfq,?_⟩;try simp only[zfi])
    rw[Y]
  .have Y:=hF (fun h=>s2 (yG h.2).2.2.2.1);have kv1:=hro g.value;have ks2:=hro g.state;rw[v1]at kv1;repeat' (first
    |(apply ah ?_;clear hK K)|apply Ry.o ?_|apply bM ?_|(apply d4 ?_;first|refine Rx.k (kv1 _) ?_|refine Rx.k (ks2 _) ?_)|(apply bC (fun J z=>?_) (fun J z=>?_)<;>try(cases J;done))|(apply aL (fun o Z=>?_) (fun o Z=>?_)<;>try(cases o;done))|apply ak ?_|(apply zff fun K hK=>?_)|(apply zfm 17 [(1,6),(4,6),(5,6)] fun K hK=>?_)|(apply zfm 28 [(1,20),(3,20),(4,20),(8,20),(9,20),(12,20),(14,20),(17,20)] fun K hK=>?_)|(apply zfx ?_;try intro _)|(apply zfG ?_ ?_<;>clear hK K)|apply br ?_|(apply zgC (fun J z=>?_) (fun J z=>?_)<;>try(cases J;done))|apply ay ?_|apply zfh ?_|apply ax ?_|apply zfr ?_)
   all_goals first|exact zf6|skip
   all_goals (refine⟨zfj,_,zfq,?_⟩;try simp only[zfi])
   rw[Y]
 .have Y:=hF (fun h=>v1 (yG h.2).2.2.1);have kv1:=hro g.value;repeat' (first
   |(apply ah ?_;clear hK K)|apply Ry.o ?_|apply bM ?_|(apply d4 ?_;first|refine Rx.k (kv1 _) ?_)|(apply bC (fun J z=>?_) (fun J z=>?_)<;>try(cases J;done))|(apply aL (fun o Z=>?_) (fun o Z=>?_)<;>try(cases o;done))|apply ak ?_|(apply zff fun K hK=>?_)|(apply zfm 17 [(1,6),(4,6),(5,6)] fun K hK=>?_)|(apply zfm 28 [(1,20),(3,20),(4,20),(8,20),(9,20),(12,20),(14,20),(17,20)] fun K hK=>?_)|(apply zfx ?_;try intro _)|(apply zfG ?_ ?_<;>clear hK K)|apply br ?_|(apply zgC (fun J z=>?_) (fun J z=>?_)<;>try(cases J;done))|apply ay ?_|apply zfh ?_|apply ax ?_|apply zfr ?_)
  all_goals first|exact zf6|skip
  all_goals (refine⟨zfj,_,zfq,?_⟩;try simp only[zfi])
  rw[Y])
end
section
def tyVdE.tyF:=ad @cN (ad @dH (ad @iD (ad @lP (ad @xp (ad @xq (ad @u5 (@pV)))))))
open tyVdE
noncomputable def v7:{c:SC // aH 91 (Tryz.f24.body.getD .skip)=c}:=by
 refine⟨?_,?_⟩;rotate_left
 .simp only[Tryz.f24,bS,aH,zfO,zfL,zfR,zfS,Nat.blt,Nat.ble];rfl
theorem N8:∀(l seen:List zfD),zfW seen l=false->l.Nodup/\∀x∈l,zfE seen x=false
 |[],seen,_=>⟨AM,fun x C=>by simp at C⟩
 |a::l,seen,h=>by
  rw[zfW]at h;have i:zfE seen a=false/\zfW (seen++[a]) l=false:=by
   cases m:zfE seen a<;>simp_all
  obtain⟨Z,g⟩:=N8 l _ i.2;refine⟨ub.2 ⟨fun V=>?_,Z⟩,fun x C=>?_⟩
  .have:=g a V;simp[zfE]at this
  .rcases eP.1 C with rfl|C
   .exact i.1
   .have:=g x C;simp only[zfE,xO,gG]at this⊢;exact this.1
theorem N9:∀(l seen:List zfD),l.Nodup->(∀x∈l,zfE seen x=false)->zfW seen l=false
 |[],_,_,_=>rfl
 |a::l,seen,h,hs=>by
  obtain⟨i,g⟩:=ub.1 h;rw[zfW,hs a dJ];have:=N9 l (seen++[a]) g fun x C=>by
   have m:=hs x (dO _ C);have O:x≠a:=fun e=>i (e▸C);simp only[zfE,xO,gG]at m⊢;refine⟨m,?_⟩;have K:¬a=x:=fun e=>O e.symm;simp[K]
  rw[this];rfl
theorem Oa(l:List zfD):zfW [] l=false↔l.Nodup:=⟨fun h=>(N8 l [] h).1,fun h=>N9 l [] h fun x _=>by simp[zfE]⟩
theorem Ob{Z:Type}(f:Z->zfD){l:List Z}(h:∀(j:Nat) (a:Z),l[j]?=some a->∀(k:Nat) (b:Z),k<j->l[k]?=some b->f b≠f a):zfW [] (l.map f)=false:=by
 rw[Oa];refine B0.2 fun i j I Y g e=>?_;simp only[cO]at I Y;simp only[Fp]at e;exact h j _ (aR Y) i _ g (aR I) e
theorem Oc{Z:Type}(f:Z->zfD){l:List Z}(h:zfW [] (l.map f)=false){i j:Nat}{a b:Z}(g:i<j)(I:l[i]?=some a)(Y:l[j]?=some b):f a≠f b:=by
 rw[Oa]at h;have O:j<l.length:=by
  by_cases c:j<l.length
  .exact c
  .rw[gI ac]at Y;cases Y
 have U:i<l.length:=ac;rw[aR U,az]at I;rw[aR O,az]at Y;have:=B0.1 h i j (by rw[cO];exact U) (by rw[cO];exact O) g;simp only[Fp]at this;rw[<-I,<-Y];exact this
structure UnOkR (u:Un):Prop where
 ok:UnOk u
 r:∀g∈u.funcs,∀n∈g.nodes,NdR n
theorem v8{u:Un}(h:mD u=true):((u.arrays.length:Int)<=4/\(u.funcs.length:Int)<=8)/\(∀a∈u.arrays,nT a=true)/\zfW [] (u.arrays.map Ar.name)=false/\zfW [] (u.funcs.map Gr.name)=false/\∀g∈u.funcs,mF u g=true:=by
 rw[mD,NI]at h;unfold B3 at h;simp only[iX,oY,gF]at h;obtain⟨⟨⟨i,Z,m⟩,O,K⟩,z⟩:=h;exact⟨i,Z,m,K,fun g J=>by rw[mF,O g J,z g J];rfl⟩
theorem zyX{u:Un}(h1:(u.arrays.length:Int)<=4)(h2:(u.funcs.length:Int)<=8)(m:∀a∈u.arrays,nT a=true)(O:zfW [] (u.arrays.map Ar.name)=false)(K:zfW [] (u.funcs.map Gr.name)=false)(z:∀g∈u.funcs,mF u g=true):mD u=true:=by
 rw[mD,NI];unfold B3;have I:∀g∈u.funcs,zf7 g.name=true/\kQ u g=true:=fun g J=>by
  have:=z g J;rw[mF,co]at this;exact this
 simp only[iX,oY,gF];exact⟨⟨⟨⟨h1,h2⟩,m,O⟩,fun g J=>(I g J).1,K⟩,fun g J=>(I g J).2⟩
noncomputable def Od:En:=⟨47,false,dc FY ui fun x=>.bool (mF x.u x.g)⟩
theorem zyY(ρ:Nat->Int):zgE Tryz.prog ρ Od:=zgO fun x C=>zyW ρ x C
noncomputable def Cb:List En:=[Et,Od]
theorem zuQ(ρ:Nat->Int):iF Tryz.prog ρ Cb:=⟨JP ρ,zyY ρ,trivial⟩
theorem Oe{i:Type}{l:List i}{j:Nat}{a:i}(h:l[j]?=some a):j<l.length:=by
 by_cases c:j<l.length
 .exact c
 .rw[gI ac]at h;cases h
set_option maxRecDepth 100000 in
theorem znU(ρ:Nat->Int)(u:Un)(hu:UnOkR u):ce Tryz.prog ρ 24 [.agg u.cells] (.bool (mD u)):=zg3 fit (pls:=pls) (zuQ ρ) (.cons (.agg (Un.pure _)) .nil) (.bool _) (by
 obtain⟨⟨ha,hf,J,hz⟩,hr⟩:=hu;have hw:Plain (zfn pls Cb) 24:=zgK (fun _=>rfl) rfl;have hpz:(fM u).sz=1+jC u.arrays+ig (u.funcs.map hM):=rfl;have hna:∀a∈u.arrays,a.name.length<2^60:=fun a hm=>by have:=Eu hm;omega
 have hnf:∀g∈u.funcs,g.name.length<2^60:=fun g hm=>by
  have h1:=pY (List.mem_map_of_mem (f:=hM) hm);have O:(hM g).sz=1+g.name.length+zgU []+zgU []+zf0 []+(hM g).value.sz:=rfl;omega
 have kv:∀s:zfD,s.length<2^60->∀H,zfs Tryz.prog (zfn pls Cb) 46 [.str s] H fun v H'=>v=.bool (zf7 s)/\H'=H:=fun s hs H=>zgL (enc:=nJ) (out:=fun x=>.bool (zf7 x)) vi (x:=s) rfl hs;have kg:∀g,g∈u.funcs->∀H,zfs Tryz.prog (zfn pls Cb) 47 [.agg u.cells,.agg g.cells] H fun v H'=>v=.bool (mF u g)/\H'=H:=fun g hm H=>zgL (enc:=ui) (ok:=FY) (out:=fun x=>.bool (mF x.u x.g)) Z7 (x:=⟨u,g⟩) rfl ⟨⟨J g hm,ha,hf⟩,hnf g hm,hr g hm⟩;obtain⟨R,Y⟩:∃R,mD u=R:=⟨_,rfl⟩;have hF:¬mD u=true->R=false:=fun h=>by rw[<-Y];simpa using h
 have hT:mD u=true->R=true:=fun h=>by rw[<-Y];exact h
 rw[Y];clear Y hpz hz;by_cases c1:(4:Int)<u.arrays.length
 .have Y:=hF (fun h=>by have:=(v8 h).1.1;omega);refine zfz (M:=91) (rs:=[.tmp 2]) (hw.call _) hw.ice hw.froz Tryz.func24 rfl rfl v7.2 rfl ?_;dsimp only[v7,zft,Nat.reduceAdd];repeat' (first
   |(apply ah ?_;clear hK K)|apply Ry.o ?_|apply bM ?_|(apply bC (fun J z=>?_) (fun J z=>?_)<;>try(cases J;done))|(apply aL (fun o Z=>?_) (fun o Z=>?_)<;>try(cases o;done))|apply ak ?_|(apply zff fun K hK=>?_)|(apply zfm 12 [(1,9),(5,9),(7,9)] fun K hK=>?_)|(apply zfm 20 [(1,13),(5,13),(7,13),(11,13)] fun K hK=>?_)|(apply zfm 22 [(0,6),(2,6),(5,6)] fun K hK=>?_)|(apply zfx ?_;try intro _)|(apply zfG ?_ ?_<;>clear hK K)|apply br ?_|apply ay ?_|apply zfh ?_|apply ax ?_|apply zfr ?_)
  all_goals (refine⟨zfj,_,zfq,?_⟩;try simp only[zfi])
  rw[Y]
 by_cases c2:(8:Int)<u.funcs.length
 .have Y:=hF (fun h=>by have:=(v8 h).1.2;omega);refine zfz (M:=91) (rs:=[.tmp 2]) (hw.call _) hw.ice hw.froz Tryz.func24 rfl rfl v7.2 rfl ?_;dsimp only[v7,zft,Nat.reduceAdd];repeat' (first
   |(apply ah ?_;clear hK K)|apply Ry.o ?_|apply bM ?_|(apply bC (fun J z=>?_) (fun J z=>?_)<;>try(cases J;done))|(apply aL (fun o Z=>?_) (fun o Z=>?_)<;>try(cases o;done))|apply ak ?_|(apply zff fun K hK=>?_)|(apply zfm 12 [(1,9),(5,9),(7,9)] fun K hK=>?_)|(apply zfm 20 [(1,13),(5,13),(7,13),(11,13)] fun K hK=>?_)|(apply zfm 22 [(0,6),(2,6),(5,6)] fun K hK=>?_)|(apply zfx ?_;try intro _)|(apply zfG ?_ ?_<;>clear hK K)|apply br ?_|apply ay ?_|apply zfh ?_|apply ax ?_|apply zfr ?_)
  all_goals (refine⟨zfj,_,zfq,?_⟩;try simp only[zfi])
  rw[Y]
 refine zfz (M:=91) (rs:=[.tmp 2]) (hw.call _) hw.ice hw.froz Tryz.func24 rfl rfl v7.2 rfl ?_;dsimp only[v7,zft,Nat.reduceAdd];repeat' (first
  |(apply ah ?_;clear hK K)|apply Ry.o ?_|apply bM ?_|(apply bC (fun J z=>?_) (fun J z=>?_)<;>try(cases J;done))|(apply aL (fun o Z=>?_) (fun o Z=>?_)<;>try(cases o;done))|apply ak ?_|(apply zff fun K hK=>?_)|(apply zfm 12 [(1,9),(5,9),(7,9)] fun K hK=>?_)|(apply zfm 20 [(1,13),(5,13),(7,13),(11,13)] fun K hK=>?_)|(apply zfm 22 [(0,6),(2,6),(5,6)] fun K hK=>?_)|(apply zfx ?_;try intro _)|(apply zfG ?_ ?_<;>clear hK K)|apply br ?_|apply ay ?_|apply zfh ?_|apply ax ?_|apply zfr ?_)
 refine zgs [1] [0] 3 u.arrays.length (fun i E H=>∀(j:Nat) (a:Ar),j<i->u.arrays[j]?=some a->nT a=true/\∀(k:Nat) (b:Ar),k<j->u.arrays[k]?=some b->b.name≠a.name) eE (fun j a h=>ac) ?_;rintro i E Hi hi m L V hsI hJ;(try simp only[zfT,zfB,a0,zfo,zfv,Nat.reduceBEq,Nat.reduceAdd,Nat.reduceLeDiff,tyF, *]at m);(try simp only[zfT,zfB,a0,zfo,zfv,Nat.reduceBEq,Nat.reduceAdd,Nat.reduceLeDiff,tyF, *]at L);(try simp only[zfw,zfI,zgj,b9,Nat.reduceAdd]at V);have hB0:(0 == Hi.next)=false:=zfN ac;have hC0:(Hi.next == 0)=false:=zfN ac;have ni:1<=Hi.next:=V
 by_cases hlt:i<u.arrays.length
 .have C:(i:Int)<u.arrays.length:=by omega
  have hgx:u.arrays[i]?=some u.arrays[i]:=aR hlt;have U:=dI hlt;have hnm:=hna _ U;generalize u.arrays[i]=a at *;have hbad:nT a=false->R=false:=fun h=>hF fun hv=>by have:=(v8 hv).2.1 a U;rw[h]at this;cases this
  by_cases d0':zf7 a.name=false
  .have Y:=hbad (by rw[nT,d0'];rfl);repeat' (first
    |(apply ah ?_;clear hK K)|apply Ry.o ?_|apply bM ?_|(apply d4 ?_;first|refine Rx.k (kv _ hnm _) ?_)|(apply bC (fun J z=>?_) (fun J z=>?_)<;>try(cases J;done))|(apply aL (fun o Z=>?_) (fun o Z=>?_)<;>try(cases o;done))|apply ak ?_|(apply zff fun K hK=>?_)|(apply zfm 12 [(1,9),(5,9),(7,9)] fun K hK=>?_)|(apply zfm 20 [(1,13),(5,13),(7,13),(11,13)] fun K hK=>?_)|(apply zfm 22 [(0,6),(2,6),(5,6)] fun K hK=>?_)|(apply zfx ?_;try intro _)|(apply zfG ?_ ?_<;>clear hK K)|apply br ?_|apply ay ?_|apply zfh ?_|apply ax ?_|apply zfr ?_)
   all_goals first|exact zf6|skip
   all_goals (refine⟨zfj,_,zfq,?_⟩;try simp only[zfi])
   rw[Y]
  have d0:zf7 a.name=true:=by simpa using d0'
  clear d0';by_cases d1:a.len<1
  .have Y:=hbad (by rw[nT,d6 (show ¬1<=a.len by omega)];simp);repeat' (first
    |(apply ah ?_;clear hK K)|apply Ry.o ?_|apply bM ?_|(apply d4 ?_;first|refine Rx.k (kv _ hnm _) ?_)|(apply bC (fun J z=>?_) (fun J z=>?_)<;>try(cases J;done))|(apply aL (fun o Z=>?_) (fun o Z=>?_)<;>try(cases o;done))|apply ak ?_|(apply zff fun K hK=>?_)|(apply zfm 12 [(1,9),(5,9),(7,9)] fun K hK=>?_)|(apply zfm 20 [(1,13),(5,13),(7,13),(11,13)] fun K hK=>?_)|(apply zfm 22 [(0,6),(2,6),(5,6)] fun K hK=>?_)|(apply zfx ?_;try intro _)|(apply zfG ?_ ?_<;>clear hK K)|apply br ?_|apply ay ?_|apply zfh ?_|apply ax ?_|apply zfr ?_)
   all_goals first|exact zf6|skip
   all_goals (refine⟨zfj,_,zfq,?_⟩;try simp only[zfi])
   rw[Y]
  by_cases d2:16<a.len
  .have Y:=hbad (by rw[nT,d6 (show ¬a.len<=16 by omega)];simp);repeat' (first
    |(apply ah ?_;clear hK K)|apply Ry.o ?_|apply bM ?_|(apply d4 ?_;first|refine Rx.k (kv _ hnm _) ?_)|(apply bC (fun J z=>?_) (fun J z=>?_)<;>try(cases J;done))|(apply aL (fun o Z=>?_) (fun o Z=>?_)<;>try(cases o;done))|apply ak ?_|(apply zff fun K hK=>?_)|(apply zfm 12 [(1,9),(5,9),(7,9)] fun K hK=>?_)|(apply zfm 20 [(1,13),(5,13),(7,13),(11,13)] fun K hK=>?_)|(apply zfm 22 [(0,6),(2,6),(5,6)] fun K hK=>?_)|(apply zfx ?_;try intro _)|(apply zfG ?_ ?_<;>clear hK K)|apply br ?_|apply ay ?_|apply zfh ?_|apply ax ?_|apply zfr ?_)
   all_goals first|exact zf6|skip
   all_goals (refine⟨zfj,_,zfq,?_⟩;try simp only[zfi])
   rw[Y]
  have hda:nT a=true:=by rw[nT,d0,dt (show 1<=a.len by omega),dt (show a.len<=16 by omega)];rfl
  repeat' (first
   |(apply ah ?_;clear hK K)|apply Ry.o ?_|apply bM ?_|(apply d4 ?_;first|refine Rx.k (kv _ hnm _) ?_)|(apply bC (fun J z=>?_) (fun J z=>?_)<;>try(cases J;done))|(apply aL (fun o Z=>?_) (fun o Z=>?_)<;>try(cases o;done))|apply ak ?_|(apply zff fun K hK=>?_)|(apply zfm 12 [(1,9),(5,9),(7,9)] fun K hK=>?_)|(apply zfm 20 [(1,13),(5,13),(7,13),(11,13)] fun K hK=>?_)|(apply zfm 22 [(0,6),(2,6),(5,6)] fun K hK=>?_)|(apply zfx ?_;try intro _)|(apply zfG ?_ ?_<;>clear hK K)|apply br ?_|apply ay ?_|apply zfh ?_|apply ax ?_|apply zfr ?_)
  all_goals first|exact zf6|skip
  generalize hHb:Hp.set (Hp.alloc _ _) _ _=Hb;have nb:Hi.next+1<=Hb.next:=by rw[<-hHb];exact aE _
  have g5:Hb.get Hi.next=some (.cells a.cells 0 true):=by rw[<-hHb,aQ,aq rfl]
  have g0:Hb.get 0=Hi.get 0:=Gb;clear hHb;refine zgs [1,3,4] [0] 5 i (fun k E H=>H.get Hi.next=some (.cells a.cells 0 true)/\∀(k':Nat) (b:Ar),k'<k->u.arrays[k']?=some b->b.name≠a.name) eE ⟨g5,fun k' b h=>ac⟩ ?_;clear g5;rintro k E3 H3 hk m L V hsI ⟨g5,hne⟩;(try simp only[zfT,zfB,a0,zfo,zfv,Nat.reduceBEq,Nat.reduceAdd,Nat.reduceLeDiff,tyF, *]at m);(try simp only[zfT,zfB,a0,zfo,zfv,Nat.reduceBEq,Nat.reduceAdd,Nat.reduceLeDiff,tyF, *]at L);(try simp only[zfw,zfI,zgj,b9,Nat.reduceAdd]at V);have hB0:(0 == H3.next)=false:=zfN ac;have hC0:(H3.next == 0)=false:=zfN ac;have n3:Hi.next+1<=H3.next:=ac
  by_cases hkt:k<i
  .have hkt':(k:Int)<i:=by omega
   have hgk:u.arrays[k]?=some u.arrays[k]:=aR ac;have I:=fun h:u.arrays[k].name=a.name=>hF (fun hv=>Oc Ar.name (v8 hv).2.2.1 hkt hgk hgx h);generalize u.arrays[k]=b at *;by_cases he:b.name=a.name
   .have Y:=I he;clear I;repeat' (first
     |(apply ah ?_;clear hK K)|apply Ry.o ?_|apply bM ?_|(apply bC (fun J z=>?_) (fun J z=>?_)<;>try(cases J;done))|(apply aL (fun o Z=>?_) (fun o Z=>?_)<;>try(cases o;done))|apply ak ?_|(apply zff fun K hK=>?_)|(apply zfm 12 [(1,9),(5,9),(7,9)] fun K hK=>?_)|(apply zfm 20 [(1,13),(5,13),(7,13),(11,13)] fun K hK=>?_)|(apply zfm 22 [(0,6),(2,6),(5,6)] fun K hK=>?_)|(apply zfx ?_;try intro _)|(apply zfG ?_ ?_<;>clear hK K)|apply br ?_|apply ay ?_|apply zfh ?_|apply ax ?_|apply zfr ?_)
    all_goals first|exact zf6|skip
    all_goals (refine⟨zfj,_,zfq,?_⟩;try simp only[zfi])
    rw[Y]
   .clear I;repeat' (first
     |(apply ah ?_;clear hK K)|apply Ry.o ?_|apply bM ?_|(apply bC (fun J z=>?_) (fun J z=>?_)<;>try(cases J;done))|(apply aL (fun o Z=>?_) (fun o Z=>?_)<;>try(cases o;done))|apply ak ?_|(apply zff fun K hK=>?_)|(apply zfm 12 [(1,9),(5,9),(7,9)] fun K hK=>?_)|(apply zfm 20 [(1,13),(5,13),(7,13),(11,13)] fun K hK=>?_)|(apply zfm 22 [(0,6),(2,6),(5,6)] fun K hK=>?_)|(apply zfx ?_;try intro _)|(apply zfG ?_ ?_<;>clear hK K)|apply br ?_|apply ay ?_|apply zfh ?_|apply ax ?_|apply zfr ?_)
    all_goals first|exact zf6|skip
    refine⟨ac,eL,eL,zf4,(by simp only[zfo,Nat.reduceBEq, *];exact zhp (n:=i) ac ac),?_⟩;refine⟨g5,fun k' b' h1 O=>?_⟩;by_cases e:k'=k
    .rw[e,hgk,az]at O;rw[<-O];exact he
    .exact hne k' b' ac O
  clear g0;have hkt':¬(k:Int)<i:=ac;repeat' (first
   |(apply ah ?_;clear hK K)|apply Ry.o ?_|apply bM ?_|(apply bC (fun J z=>?_) (fun J z=>?_)<;>try(cases J;done))|(apply aL (fun o Z=>?_) (fun o Z=>?_)<;>try(cases o;done))|apply ak ?_|(apply zff fun K hK=>?_)|(apply zfm 12 [(1,9),(5,9),(7,9)] fun K hK=>?_)|(apply zfm 20 [(1,13),(5,13),(7,13),(11,13)] fun K hK=>?_)|(apply zfm 22 [(0,6),(2,6),(5,6)] fun K hK=>?_)|(apply zfx ?_;try intro _)|(apply zfG ?_ ?_<;>clear hK K)|apply br ?_|apply ay ?_|apply zfh ?_|apply ax ?_|apply zfr ?_)
  refine⟨ac,eL,eL,zf4,(by simp only[zfo,Nat.reduceBEq, *];exact zhp (n:=u.arrays.length) ac ac),?_⟩;intro j x hj hx;by_cases e:j=i
  .subst e;rw[hgx,az]at hx;subst hx;exact⟨hda,fun k' b h1 O=>hne k' b ac O⟩
  .exact hJ j x ac hx
 have C:¬(i:Int)<u.arrays.length:=ac;have ha1:∀a∈u.arrays,nT a=true:=fun a hm=>by
  obtain⟨j,hj,e⟩:=tp hm;exact(hJ j a ac Ga).1
 have ha2:zfW [] (u.arrays.map Ar.name)=false:=Ob Ar.name fun j a h k b h1 O=>(hJ j a (by have:=Oe h;omega) h).2 k b h1 O;clear hJ;repeat' (first
  |(apply ah ?_;clear hK K)|apply Ry.o ?_|apply bM ?_|(apply bC (fun J z=>?_) (fun J z=>?_)<;>try(cases J;done))|(apply aL (fun o Z=>?_) (fun o Z=>?_)<;>try(cases o;done))|apply ak ?_|(apply zff fun K hK=>?_)|(apply zfm 12 [(1,9),(5,9),(7,9)] fun K hK=>?_)|(apply zfm 20 [(1,13),(5,13),(7,13),(11,13)] fun K hK=>?_)|(apply zfm 22 [(0,6),(2,6),(5,6)] fun K hK=>?_)|(apply zfx ?_;try intro _)|(apply zfG ?_ ?_<;>clear hK K)|apply br ?_|apply ay ?_|apply zfh ?_|apply ax ?_|apply zfr ?_)
 refine zgs [1] [0] 6 u.funcs.length (fun i E H=>∀(j:Nat) (a:Gr),j<i->u.funcs[j]?=some a->mF u a=true/\∀(k:Nat) (b:Gr),k<j->u.funcs[k]?=some b->b.name≠a.name) eE (fun j a h=>ac) ?_;clear hlt C;rintro i2 E2 H2 hi2 m L V hsI hJ;(try simp only[zfT,zfB,a0,zfo,zfv,Nat.reduceBEq,Nat.reduceAdd,Nat.reduceLeDiff,tyF, *]at m);(try simp only[zfT,zfB,a0,zfo,zfv,Nat.reduceBEq,Nat.reduceAdd,Nat.reduceLeDiff,tyF, *]at L);(try simp only[zfw,zfI,zgj,b9,Nat.reduceAdd]at V);have hB0:(0 == H2.next)=false:=zfN ac;have hC0:(H2.next == 0)=false:=zfN ac;have n2:1<=H2.next:=ac
 by_cases hlt:i2<u.funcs.length
 .have C:(i2:Int)<u.funcs.length:=by omega
  have hgx:u.funcs[i2]?=some u.funcs[i2]:=aR hlt;have U:=dI hlt;have kga:=kg _ U;generalize u.funcs[i2]=a at *;repeat' (first
   |(apply ah ?_;clear hK K)|apply Ry.o ?_|apply bM ?_|(apply bC (fun J z=>?_) (fun J z=>?_)<;>try(cases J;done))|(apply aL (fun o Z=>?_) (fun o Z=>?_)<;>try(cases o;done))|apply ak ?_|(apply zff fun K hK=>?_)|(apply zfm 12 [(1,9),(5,9),(7,9)] fun K hK=>?_)|(apply zfm 20 [(1,13),(5,13),(7,13),(11,13)] fun K hK=>?_)|(apply zfm 22 [(0,6),(2,6),(5,6)] fun K hK=>?_)|(apply zfx ?_;try intro _)|(apply zfG ?_ ?_<;>clear hK K)|apply br ?_|apply ay ?_|apply zfh ?_|apply ax ?_|apply zfr ?_)
  refine zgs [1,6] [0] 7 i2 (fun k E H=>∀(k':Nat) (b:Gr),k'<k->u.funcs[k']?=some b->b.name≠a.name) eE (fun k' b h=>ac) ?_;rintro k E3 H3 hk m L V hsI hne;(try simp only[zfT,zfB,a0,zfo,zfv,Nat.reduceBEq,Nat.reduceAdd,Nat.reduceLeDiff,tyF, *]at m);(try simp only[zfT,zfB,a0,zfo,zfv,Nat.reduceBEq,Nat.reduceAdd,Nat.reduceLeDiff,tyF, *]at L);(try simp only[zfw,zfI,zgj,b9,Nat.reduceAdd]at V);have hB0:(0 == H3.next)=false:=zfN ac;have hC0:(H3.next == 0)=false:=zfN ac;have n3:1<=H3.next:=ac
  by_cases hkt:k<i2
  .have hkt':(k:Int)<i2:=by omega
   have hgk:u.funcs[k]?=some u.funcs[k]:=aR ac;have I:=fun h:u.funcs[k].name=a.name=>hF (fun hv=>Oc Gr.name (v8 hv).2.2.2.1 hkt hgk hgx h);generalize u.funcs[k]=b at *;by_cases he:b.name=a.name
   .have Y:=I he;clear I;repeat' (first
     |(apply ah ?_;clear hK K)|apply Ry.o ?_|apply bM ?_|(apply bC (fun J z=>?_) (fun J z=>?_)<;>try(cases J;done))|(apply aL (fun o Z=>?_) (fun o Z=>?_)<;>try(cases o;done))|apply ak ?_|(apply zff fun K hK=>?_)|(apply zfm 12 [(1,9),(5,9),(7,9)] fun K hK=>?_)|(apply zfm 20 [(1,13),(5,13),(7,13),(11,13)] fun K hK=>?_)|(apply zfm 22 [(0,6),(2,6),(5,6)] fun K hK=>?_)|(apply zfx ?_;try intro _)|(apply zfG ?_ ?_<;>clear hK K)|apply br ?_|apply ay ?_|apply zfh ?_|apply ax ?_|apply zfr ?_)
    all_goals first|exact zf6|skip
    all_goals (refine⟨zfj,_,zfq,?_⟩;try simp only[zfi])
    rw[Y]
   .clear I;repeat' (first
     |(apply ah ?_;clear hK K)|apply Ry.o ?_|apply bM ?_|(apply bC (fun J z=>?_) (fun J z=>?_)<;>try(cases J;done))|(apply aL (fun o Z=>?_) (fun o Z=>?_)<;>try(cases o;done))|apply ak ?_|(apply zff fun K hK=>?_)|(apply zfm 12 [(1,9),(5,9),(7,9)] fun K hK=>?_)|(apply zfm 20 [(1,13),(5,13),(7,13),(11,13)] fun K hK=>?_)|(apply zfm 22 [(0,6),(2,6),(5,6)] fun K hK=>?_)|(apply zfx ?_;try intro _)|(apply zfG ?_ ?_<;>clear hK K)|apply br ?_|apply ay ?_|apply zfh ?_|apply ax ?_|apply zfr ?_)
    all_goals first|exact zf6|skip
    refine⟨ac,eL,eL,zf4,(by simp only[zfo,Nat.reduceBEq, *];exact zhp (n:=i2) ac ac),?_⟩;intro k' b' h1 O;by_cases e:k'=k
    .rw[e,hgk,az]at O;rw[<-O];exact he
    .exact hne k' b' ac O
  have hkt':¬(k:Int)<i2:=ac;by_cases hv:mF u a=true
  .repeat' (first
    |(apply ah ?_;clear hK K)|apply Ry.o ?_|apply bM ?_|(apply d4 ?_;first|refine Rx.k (kga _) ?_)|(apply bC (fun J z=>?_) (fun J z=>?_)<;>try(cases J;done))|(apply aL (fun o Z=>?_) (fun o Z=>?_)<;>try(cases o;done))|apply ak ?_|(apply zff fun K hK=>?_)|(apply zfm 12 [(1,9),(5,9),(7,9)] fun K hK=>?_)|(apply zfm 20 [(1,13),(5,13),(7,13),(11,13)] fun K hK=>?_)|(apply zfm 22 [(0,6),(2,6),(5,6)] fun K hK=>?_)|(apply zfx ?_;try intro _)|(apply zfG ?_ ?_<;>clear hK K)|apply br ?_|apply ay ?_|apply zfh ?_|apply ax ?_|apply zfr ?_)
   all_goals first|exact zf6|skip
   refine⟨ac,eL,eL,zf4,NY,?_⟩;intro j x hj hx;by_cases e:j=i2
   .subst e;rw[hgx,az]at hx;subst hx;exact⟨hv,fun k' b h1 O=>hne k' b ac O⟩
   .exact hJ j x ac hx
  .have hv':mF u a=false:=by simpa using hv
   have Y:=hF (fun h=>hv ((v8 h).2.2.2.2 a U));clear hv;repeat' (first
    |(apply ah ?_;clear hK K)|apply Ry.o ?_|apply bM ?_|(apply d4 ?_;first|refine Rx.k (kga _) ?_)|(apply bC (fun J z=>?_) (fun J z=>?_)<;>try(cases J;done))|(apply aL (fun o Z=>?_) (fun o Z=>?_)<;>try(cases o;done))|apply ak ?_|(apply zff fun K hK=>?_)|(apply zfm 12 [(1,9),(5,9),(7,9)] fun K hK=>?_)|(apply zfm 20 [(1,13),(5,13),(7,13),(11,13)] fun K hK=>?_)|(apply zfm 22 [(0,6),(2,6),(5,6)] fun K hK=>?_)|(apply zfx ?_;try intro _)|(apply zfG ?_ ?_<;>clear hK K)|apply br ?_|apply ay ?_|apply zfh ?_|apply ax ?_|apply zfr ?_)
   all_goals first|exact zf6|skip
   all_goals (refine⟨zfj,_,zfq,?_⟩;try simp only[zfi])
   rw[Y]
 have C:¬(i2:Int)<u.funcs.length:=ac;have Y:=hT (zyX ac ac ha1 ha2 (Ob Gr.name fun j a h k b h1 O=>(hJ j a (by have:=Oe h;omega) h).2 k b h1 O) fun g hm=>by
  obtain⟨j,hj,e⟩:=tp hm;exact(hJ j g ac Ga).1)
 repeat' (first
  |(apply ah ?_;clear hK K)|apply Ry.o ?_|apply bM ?_|(apply bC (fun J z=>?_) (fun J z=>?_)<;>try(cases J;done))|(apply aL (fun o Z=>?_) (fun o Z=>?_)<;>try(cases o;done))|apply ak ?_|(apply zff fun K hK=>?_)|(apply zfm 12 [(1,9),(5,9),(7,9)] fun K hK=>?_)|(apply zfm 20 [(1,13),(5,13),(7,13),(11,13)] fun K hK=>?_)|(apply zfm 22 [(0,6),(2,6),(5,6)] fun K hK=>?_)|(apply zfx ?_;try intro _)|(apply zfG ?_ ?_<;>clear hK K)|apply br ?_|apply ay ?_|apply zfh ?_|apply ax ?_|apply zfr ?_)
 all_goals (refine⟨zfj,_,zfq,?_⟩;try simp only[zfi])
 rw[Y])
noncomputable def Of:En:=⟨24,true,dc UnOkR (fun u=>[.agg u.cells]) fun u=>.bool (mD u)⟩
theorem zyZ(ρ:Nat->Int):zgE Tryz.prog ρ Of:=zgO fun u O=>znU ρ u O
end
section
structure LwOk (p:Pr):Prop where
 sz:p.sz<2^30
 rg:zhj p=0->∀f∈p.funcs,jb f.body/\iR f.value
def jK(p:Pr):Un×Int:=(qi p (2*p.sz+1)).getD (⟨[],[]⟩,0)
theorem Og{p:Pr}(h:PrIn p){n:Nat}(z:2*p.sz<n):∀(l:List Fu) (o:List Gr),(∀f∈l,f∈p.funcs)->∃r,mA p n l o=some r
 |[],o,_=>⟨_,rfl⟩
 |f::l,o,hl=>by
  obtain⟨s,v,Z,m,_⟩:=FJ h z (hl f dJ);rw[mA,iL,Z,b8,m,b8,b8];split
  .exact⟨_,rfl⟩
  .exact Og h z l _ fun g J=>hl g (dO _ J)
theorem LwOk.low{p:Pr}(h:LwOk p):qi p (2*p.sz+1)=some ((jK p).1,(jK p).2):=by
 have:∃r,qi p (2*p.sz+1)=some r:=by
  unfold qi;split
  .rename_i c;exact Og ⟨c,h.rg c⟩ (cI _) _ _ fun f i=>i
  .exact⟨_,rfl⟩
 obtain⟨r,hr⟩:=this;rw[jK,hr];rfl
theorem LwOk.valid{p:Pr}(h:LwOk p)(Z:zhj p=0):((jK p).2=6/\(jK p).1=⟨[],[]⟩)\/((jK p).2=0/\mD (jK p).1=true/\(jK p).1.arrays=p.arrays/\(jK p).1.funcs.length=p.funcs.length/\UnOk (jK p).1):=
 zrJ ⟨Z,h.rg Z⟩ h.sz (cI _) h.low
noncomputable def Oh:En:=⟨27,true,dc LwOk gh fun p=>.tup [.agg (jK p).1.cells,.int .i64 (jK p).2]⟩
theorem zy0(ρ:Nat->Int):zgE Tryz.prog ρ Oh:=zgO fun p hp=>zrF ρ p (n:=2*p.sz+1) (by have:=hp.sz;omega) (fun hc=>M7 ⟨hc,hp.rg hc⟩ hp.sz (cI _)) hp.low
def tyG5a.tyF:=ad @cN (ad @dH (ad @eQ (ad @iO (ad @fO (ad @fP (ad @eR (ad @u6 (ad @gJ (ad @qW (ad @MI (ad @MJ (ad @xX (ad @kb1 (ad @kb2 (@MH)))))))))))))))
open tyG5a
set_option maxRecDepth 100000 in
theorem znW{Y:List En}(hG:GenL Y){k:Nat}{f:Int}{deep lo:Nat}{H H2:Hp}{r:Nat}{L:List Int}{c q m:Int}{E2:aw}(hst:deep<=2->oQ Y k f (deep+1))(z:AtT f deep lo H H2 r L c q m E2) (hp0:q<6):zfV Tryz.prog (zfn pls Y) 84 156 mY E2 H2 (mZ k f deep lo H r L c q m):=by
 obtain⟨hd,hrl,hlo,n2,g2,I,C,hL1,V,hqd,k0,k1,k2,k6,k8,k9,k10⟩:=z;have o:(zfn pls Y).keep 84=false:=rfl;have hq2:(2:Int)≠0:=aD;have U:((zf1 f).length:Int)≠0:=by rcases rB f with h|h<;>rw[h]<;>decide
 obtain⟨hi0,hix⟩:=qu (zf1 f) U V.1 [];have hxs:=rG V.1;have hxa:=rH V.1;have hxf:=sX V.1;have er:(H.next == r)=false:=zfN ac;have e41:=zgP f 4 1 L;have e50:=zgP f 5 0 L;have e32:=zgP f 3 2 L;have hwd:IntKind.wrap .i64 ((deep:Int)+1)=((deep+1:Nat):Int):=zhe ac;unfold mZ;generalize j:zg7 (qy f k deep) f L c q m=R;rw[zg7]at j;dsimp only[mY,nS,qx];repeat' (first
  |(apply ah ?_;clear hK K)|apply Ry.o ?_|(apply aL (fun hb Z=>?_) (fun hb Z=>?_)<;>try(cases hb;done))|apply ak ?_|(apply zff fun K hK=>?_)|(apply zfm 8 [(3,9),(3,11),(6,9),(6,11)] fun K hK=>?_)|(apply zfx ?_;try intro _)|apply br ?_|apply ay ?_|fail)
 refine aU rfl aV aW ?_;simp only[gL];refine aS ?_ (zhO hG 5 f 0 ac ac lo _ r L c C ac);rintro v H4 ⟨⟨cs,rfl,O,i,M⟩,J,n4,o4⟩;obtain⟨v0,v1,v2,v3,v4,rfl⟩:=j8 O;obtain⟨w0,zgc,w2,w3,w4⟩:=sY i;have g4:H4.get H.next=some (.cells [.int .i64 0,.str [],.str [],.int .i64 0,.int .i64 0,.int .i64 0,.str [],.int .i64 0,.nilS,.int .i64 0,.int .i64 0,.str [],.int .i64 0,.nilS,.nilS,.nilS,.nilS] 0 true):=by rw[o4 _ ac ac];exact g2
 dsimp only[zfp];repeat' (first
  |apply Rx.o ?_|apply ct ?_|(apply zfx ?_;try intro _)|(apply zfG ?_ ?_<;>clear hK K)|apply br ?_|apply zhC rfl ?_|apply ax ?_|fail)
 .exact zf6
 .refine⟨zfj,_,(by(try simp only[zfo,zfv,Nat.reduceBEq,tyF,zgD,zgN, *]);first|done|with_reducible rfl),?_⟩;try simp only[zfi]
  rw[aq ac]at j;subst j;refine uw rfl NX (ut (n:=8+k) 1 _ [] 0 sW ((M.up ac).keep2 (fun q _ hq=>ac) fC fun q h1 g=>kJ) .nilS .nilS .nilS) ?_ ?_ ?_
  .exact J.keep fC fun q hq=>kJ
  .simp only[zfI];omega
  .intro q h1 g;rw[aQ,af ac,o4 _ ac g];exact I q h1 g
set_option maxRecDepth 100000 in
theorem zpy{Z:List En}(hG:GenL Z){k:Nat}{f:Int}{deep lo:Nat}{H H2:Hp}{r:Nat}{L:List Int}{c q m:Int}{E2:aw}(hst:deep<=2->oQ Z k f (deep+1))(z:AtT f deep lo H H2 r L c q m E2)(hn0:¬q<6)(hp0:q<8):zfV Tryz.prog (zfn pls Z) 84 156 mY E2 H2 (mZ k f deep lo H r L c q m):=by
 obtain⟨hd,hrl,hlo,n2,g2,o2',hr2,hL1,M,hqd,k0,k1,k2,k6,k8,k9,k10⟩:=z;have hkeep:(zfn pls Z).keep 84=false:=rfl;have hq2:(2:Int)≠0:=aD;have U:((zf1 f).length:Int)≠0:=by rcases rB f with h|h<;>rw[h]<;>decide
 obtain⟨hi0,hix⟩:=qu (zf1 f) U M.1 [];have hxs:=rG M.1;have hxa:=rH M.1;have hxf:=sX M.1;have er:(H.next == r)=false:=zfN ac;have e41:=zgP f 4 1 L;have e50:=zgP f 5 0 L;have e32:=zgP f 3 2 L;have hwd:IntKind.wrap .i64 ((deep:Int)+1)=((deep+1:Nat):Int):=zhe ac;unfold mZ;generalize hR:zg7 (qy f k deep) f L c q m=R;rw[zg7]at hR;dsimp only[mY,nS,qx];repeat' (first
  |(apply ah ?_;clear hK K)|apply Ry.o ?_|(apply aL (fun hb J=>?_) (fun hb J=>?_)<;>try(cases hb;done))|apply ak ?_|(apply zff fun K hK=>?_)|(apply zfm 10 [(0,7),(0,10),(0,12),(4,7),(4,10),(4,12)] fun K hK=>?_)|(apply zfx ?_;try intro _)|apply br ?_|apply ay ?_|fail)
 refine aU rfl aV aW ?_;simp only[gL];refine aS ?_ (zhO hG 3 f 2 ac ac lo _ r L c (hr2.keep (eh _) fun q I=>hY) ac);rintro v H4 ⟨⟨al,rfl,C,o,Y⟩,j,n4,V⟩;simp only[zfw]at n4 V Y;obtain⟨zhI,a1,a2,a3,a4,rfl⟩:=j8 C;obtain⟨u0,u1,u2,u3,u4⟩:=sY o;have g4s:H4.get (H.next+1)=some (.cells [.str [97],.str [98]] 0 true):=by rw[V _ ac ac,zfk,aq ac]
 dsimp only[zfp];repeat' (first
  |apply Rx.o ?_|(apply zfx ?_;try intro _)|apply br ?_|fail)
 refine aU rfl aV aW ?_;simp only[gL];refine aS ?_ (zhO hG 4 f 1 ac ac lo H4 r _ c j ac);rintro v H5 ⟨⟨cs,rfl,hc1,hc2,hc3⟩,hr5,n5,O⟩;obtain⟨v0,v1,v2,v3,v4,rfl⟩:=j8 hc1;obtain⟨w0,zgc,w2,w3,w4⟩:=sY hc2;have g5s:H5.get (H.next+1)=some (.cells [.str [97],.str [98]] 0 true):=by rw[O _ ac ac];exact g4s
 have g5:H5.get H.next=some (.cells [.int .i64 0,.str [],.str [],.int .i64 0,.int .i64 0,.int .i64 0,.str [],.int .i64 0,.nilS,.int .i64 0,.int .i64 0,.str [],.int .i64 0,.nilS,.nilS,.nilS,.nilS] 0 true):=by rw[O _ ac ac,V _ ac ac,zfk,af ac];exact g2
 dsimp only[zfp];repeat' (first
  |apply Rx.o ?_|apply ct ?_|(apply zfx ?_;try intro _)|(apply zfG ?_ ?_<;>clear hK K)|apply br ?_|apply zhC rfl ?_|apply ax ?_|fail)
 .exact zf6
 .refine⟨zfj,_,(by(try simp only[zfo,zfv,Nat.reduceBEq,tyF,zgD,zgN, *]);first|done|with_reducible rfl),?_⟩;try simp only[zfi]
  rw[af ac,aq ac]at hR;subst hR;refine uw rfl (by simp only[qd,sU,u0,u1,u2,u3,u4,w0,zgc,w2,w3,w4,jV];rfl) (ut (n:=8+k) 2 _ [] 0 ((Y.up ac).keep2 (fun q _ I=>ac) fC fun q i g=>by rw[aQ,af ac,O _ ac ac]) ((hc3.up ac).keep2 (fun q _ I=>ac) fC fun q i g=>kJ) .nilS .nilS .nilS) ?_ ?_ ?_
  .exact hr5.keep fC fun q I=>kJ
  .simp only[zfI];omega
  .intro q i g;rw[aQ,af ac,O _ ac g,V _ ac g,zfk,af ac];exact o2' q i g
set_option maxRecDepth 100000 in
theorem zuS{Y:List En}(hG:GenL Y){k:Nat}{f:Int}{deep lo:Nat}{H H2:Hp}{r:Nat}{L:List Int}{c q m:Int}{E2:aw}(hst:deep<=2->oQ Y k f (deep+1))(z:AtT f deep lo H H2 r L c q m E2)(hn0:¬q<6)(hn1:¬q<8)(hn2:¬q<10)(hn3:¬q<12)(hp0:q<14):zfV Tryz.prog (zfn pls Y) 84 156 mY E2 H2 (mZ k f deep lo H r L c q m):=by
 obtain⟨hd,hrl,hlo,n2,g2,I,C,hL1,V,hqd,k0,k1,k2,k6,k8,k9,k10⟩:=z;have o:(zfn pls Y).keep 84=false:=rfl;have hq2:(2:Int)≠0:=aD;have U:((zf1 f).length:Int)≠0:=by rcases rB f with h|h<;>rw[h]<;>decide
 obtain⟨hi0,hix⟩:=qu (zf1 f) U V.1 [];have hxs:=rG V.1;have hxa:=rH V.1;have hxf:=sX V.1;have er:(H.next == r)=false:=zfN ac;have e41:=zgP f 4 1 L;have e50:=zgP f 5 0 L;have e32:=zgP f 3 2 L;have hwd:IntKind.wrap .i64 ((deep:Int)+1)=((deep+1:Nat):Int):=zhe ac;unfold mZ;generalize j:zg7 (qy f k deep) f L c q m=R;rw[zg7]at j;dsimp only[mY,nS,qx];repeat' (first
  |(apply ah ?_;clear hK K)|apply Ry.o ?_|(apply aL (fun hb Z=>?_) (fun hb Z=>?_)<;>try(cases hb;done))|apply ak ?_|(apply zff fun K hK=>?_)|apply ay ?_|fail)
 refine aU rfl aV aW ?_;simp only[bi];refine aS ?_ (zhO hG 4 f 1 ac ac lo _ r L c C ac);rintro v H4 ⟨⟨cs,rfl,O,i,M⟩,J,n4,o4⟩;obtain⟨v0,v1,v2,v3,v4,rfl⟩:=j8 O;obtain⟨w0,zgc,w2,w3,w4⟩:=sY i;have g4:H4.get H.next=some (.cells [.int .i64 0,.str [],.str [],.int .i64 0,.int .i64 0,.int .i64 0,.str [],.int .i64 0,.nilS,.int .i64 0,.int .i64 0,.str [],.int .i64 0,.nilS,.nilS,.nilS,.nilS] 0 true):=by rw[o4 _ ac ac];exact g2
 dsimp only[zfp];repeat' (first
  |(apply ah ?_;clear hK K)|apply Rx.o ?_|apply ct ?_|apply ax ?_|fail)
 refine⟨zfj,_,(by(try simp only[zfo,zfv,Nat.reduceBEq,tyF,zgD,zgN, *]);first|done|with_reducible rfl),?_⟩;try simp only[zfi]
 rw[af ac,af ac,af ac,af ac,aq ac]at j;subst j;refine uw rfl NX (ut (n:=8+k) 5 [] [] 0 sW ((M.up ac).keep2 (fun q _ hq=>ac) fC fun q h1 g=>kJ) .nilS .nilS .nilS) ?_ ?_ ?_
 .exact J.keep fC fun q hq=>kJ
 .simp only[zfI];omega
 .intro q h1 g;rw[aQ,af ac,o4 _ ac g];exact I q h1 g
set_option maxRecDepth 100000 in
theorem zrV{Y:List En}(hG:GenL Y){k:Nat}{f:Int}{deep lo:Nat}{H C:Hp}{r:Nat}{L:List Int}{c q m:Int}{o:aw}(g:deep<=2->oQ Y k f (deep+1))(z:AtT f deep lo H C r L c q m o)(i:¬q<6)(hn1:¬q<8)(hn2:¬q<10)(hn3:¬q<12)(hn4:¬q<14)(hn5:¬q<15) : zfV Tryz.prog (zfn pls Y) 84 156 mY o C (mZ k f deep lo H r L c q m):=by
 obtain⟨hd,hrl,hlo,n2,g2,O,M,hL1,V,hqd,k0,k1,k2,k6,k8,k9,k10⟩:=z;have J:(zfn pls Y).keep 84=false:=rfl;have hq2:(2:Int)≠0:=aD;have U:((zf1 f).length:Int)≠0:=by rcases rB f with h|h<;>rw[h]<;>decide
 obtain⟨hi0,hix⟩:=qu (zf1 f) U V.1 [];have hxs:=rG V.1;have hxa:=rH V.1;have hxf:=sX V.1;have er:(H.next == r)=false:=zfN ac;have e41:=zgP f 4 1 L;have e50:=zgP f 5 0 L;have e32:=zgP f 3 2 L;have hwd:IntKind.wrap .i64 ((deep:Int)+1)=((deep+1:Nat):Int):=zhe ac;unfold mZ;generalize I:zg7 (qy f k deep) f L c q m=R;rw[zg7]at I;dsimp only[mY,nS,qx];repeat' (first
  |(apply ah ?_;clear hK K)|apply Ry.o ?_|apply bM ?_|(apply aL (fun j Z=>?_) (fun j Z=>?_)<;>try(cases j;done))|apply ak ?_|(apply zff fun K hK=>?_)|apply ay ?_|apply zfh ?_|apply ax ?_|fail)
 refine⟨zfj,_,(by(try simp only[zfo,zfv,Nat.reduceBEq,tyF,zgD,zgN, *]);first|done|with_reducible rfl),?_⟩;try simp only[zfi]
 rw[af ac,af ac,af ac,af ac,af ac,af ac]at I;subst I;refine uw rfl rfl (ut (n:=8+k) 7 [] [] _ sW sW .nilS .nilS .nilS) ?_ ?_ ?_
 .exact M.keep fC fun q hq=>kJ
 .simp only[zfI];omega
 .intro q h1 h2;rw[aQ,af ac];exact O q h1 h2
end
section
def tyG5b.tyF:=ad @cN (ad @dH (ad @eQ (ad @iO (ad @fO (ad @fP (ad @eR (ad @u6 (ad @gJ (ad @qW (ad @MI (ad @MJ (ad @xX (ad @MH (ad @MK (@kb6)))))))))))))))
open tyG5b
set_option maxRecDepth 100000 in
theorem zy1{lG:List En}(hG:GenL lG){k:Nat}{f:Int}{deep lo:Nat}{H H2:Hp}{r:Nat}{L:List Int}{c q m:Int}{E2:aw}(hst:deep<=2->oQ lG k f (deep+1))(hat:AtT f deep lo H H2 r L c q m E2)(hn0:¬q<6)(hn1:¬q<8)(hp0:q<10):zfV Tryz.prog (zfn pls lG) 84 156 mY E2 H2 (mZ k f deep lo H r L c q m):=by
 obtain⟨hd,hrl,hlo,n2,g2,o2',hr2,hL1,hm,hqd,k0,k1,k2,k6,k8,k9,k10⟩:=hat;have hkeep:(zfn pls lG).keep 84=false:=rfl;have hq2:(2:Int)≠0:=aD;have C:((zf1 f).length:Int)≠0:=by rcases rB f with h|h<;>rw[h]<;>decide
 obtain⟨hi0,hix⟩:=qu (zf1 f) C hm.1 [];have hxs:=rG hm.1;have hxa:=rH hm.1;have hxf:=sX hm.1;have er:(H.next == r)=false:=zfN ac;have e41:=zgP f 4 1 L;have e50:=zgP f 5 0 L;have e32:=zgP f 3 2 L;have hwd:IntKind.wrap .i64 ((deep:Int)+1)=((deep+1:Nat):Int):=zhe ac;unfold mZ;generalize hR:zg7 (qy f k deep) f L c q m=R;rw[zg7]at hR;dsimp only[mY,nS,qx];repeat' (first
  |(apply ah ?_;clear hK K)|apply Ry.o ?_|(apply aL (fun hb hbp=>?_) (fun hb hbp=>?_)<;>try(cases hb;done))|apply ak ?_|(apply zff fun K hK=>?_)|apply ay ?_|fail)
 refine aU rfl aV aW ?_;simp only[bi];refine aS ?_ (zhO hG 4 f 1 ac ac lo _ r L c hr2 ac);rintro v Z ⟨⟨cs,rfl,hc1,hc2,hc3⟩,hr4,n4,o4⟩;obtain⟨z,U,I,O,J,rfl⟩:=j8 hc1;obtain⟨w0,zgc,w2,w3,w4⟩:=sY hc2;dsimp only[zfp];repeat' (first
  |(apply ah ?_;clear hK K)|apply Rx.o ?_|apply ct ?_|apply ak ?_|(apply zff fun K hK=>?_)|fail)
 generalize M:Hp.set (Hp.alloc Z _) Z.next _=Ha
 have na:Ha.next=Z.next+1:=by rw[<-M];rfl
 have oa:∀q,q<Z.next->Ha.get q=Z.get q:=fun q Y=>NZ
 have ga:Ha.get Z.next=some (.cells [.int .i64 3,.str [],.str [],.int .i64 0,.int .i64 0,.int .i64 0,.str [],.int .i64 0,.nilS,z,U,I,O,J,.nilS,.nilS,.nilS] 0 true):=by rw[<-M,aQ,aq rfl]
 clear M;refine aU rfl aV aW ?_;simp only[bi];refine aS ?_ (yp hG (hst ac) 3 ac ac lo Ha r ((zfC f 4 1 L).2,c) (hr4.keep ac fun q Y=>oa q ac) vM);rintro tv H5 ⟨j,hr5,n5,o5⟩;have hl5:(j9 f k (deep+1) 3 ((zfC f 4 1 L).2,c)).2.1.length<=(zfC f 4 1 L).2.length:=cJ (yn (yo f k (deep+1)) _ _) (zhN _);obtain⟨t1,t2⟩:=j.one;have g5:H5.get Z.next=some (.cells [.int .i64 3,.str [],.str [],.int .i64 0,.int .i64 0,.int .i64 0,.str [],.int .i64 0,.nilS,z,U,I,O,J,.nilS,.nilS,.nilS] 0 true):=by rw[o5 _ ac ac];exact ga
 dsimp only[zfp];repeat' (first
  |(apply ah ?_;clear hK K)|apply Rx.o ?_|apply ct ?_|apply ak ?_|(apply zff fun K hK=>?_)|fail)
 generalize o:Hp.set H5 Z.next _=Hb
 have nb:Hb.next=H5.next:=by rw[<-o];rfl
 have ob:∀q,q≠Z.next->Hb.get q=H5.get q:=fun q Y=>by rw[<-o,aQ,af Y]
 have gb:Hb.get Z.next=some (.cells [.int .i64 3,.str [],.str [],.int .i64 0,.int .i64 0,.int .i64 0,.str [],.int .i64 0,.nilS,z,U,I,O,J,.nilS,tv,.nilS] 0 true):=by rw[<-o,aQ,aq rfl]
 clear o;refine aU rfl aV aW ?_;simp only[bi];refine aS ?_ (yp hG (hst ac) 2 ac ac lo Hb r (j9 f k (deep+1) 3 ((zfC f 4 1 L).2,c)).2 (hr5.keep ac fun q Y=>ob q ac) ac);rintro uv H6 ⟨i,hr6,n6,o6⟩;obtain⟨p1,p2⟩:=i.one;have g6t:H6.get Z.next=some (.cells [.int .i64 3,.str [],.str [],.int .i64 0,.int .i64 0,.int .i64 0,.str [],.int .i64 0,.nilS,z,U,I,O,J,.nilS,tv,.nilS] 0 true):=by rw[o6 _ ac ac];exact gb
 have g6:H6.get H.next=some (.cells [.int .i64 0,.str [],.str [],.int .i64 0,.int .i64 0,.int .i64 0,.str [],.int .i64 0,.nilS,.int .i64 0,.int .i64 0,.str [],.int .i64 0,.nilS,.nilS,.nilS,.nilS] 0 true):=by rw[o6 _ ac ac,ob _ ac,o5 _ ac ac,oa _ ac,o4 _ ac ac];exact g2
 have e46:(H.next == Z.next)=false:=zfN ac;have e64:(Z.next == H.next)=false:=zfN ac;dsimp only[zfp];repeat' (first
  |(apply ah ?_;clear hK K)|apply Rx.o ?_|apply ct ?_|apply ak ?_|(apply zff fun K hK=>?_)|apply ax ?_|fail)
 refine⟨zfj,_,(by(try simp only[zfo,zfv,Nat.reduceBEq,tyF,zgD,zgN, *]);first|done|with_reducible rfl),?_⟩;try simp only[zfi]
 rw[af ac,af ac,aq ac]at hR;subst hR;have hk6:∀q,Hb.next<=q->q<H6.next->((H6.set Z.next (.cells [.int .i64 3,.str [],.str [],.int .i64 0,.int .i64 0,.int .i64 0,.str [],.int .i64 0,.nilS,z,U,I,O,J,.nilS,tv,uv] 0 true)).set H.next (.cells [.int .i64 3,.str [],.str [],.int .i64 0,.int .i64 0,.int .i64 0,.str [],.int .i64 0,.nilS,z,U,I,O,J,.nilS,tv,uv] 0 true)).get q=H6.get q:=fun q V g=>Ca
 have hk5:∀q,Ha.next<=q->q<H5.next->((H6.set Z.next (.cells [.int .i64 3,.str [],.str [],.int .i64 0,.int .i64 0,.int .i64 0,.str [],.int .i64 0,.nilS,z,U,I,O,J,.nilS,tv,uv] 0 true)).set H.next (.cells [.int .i64 3,.str [],.str [],.int .i64 0,.int .i64 0,.int .i64 0,.str [],.int .i64 0,.nilS,z,U,I,O,J,.nilS,tv,uv] 0 true)).get q=H5.get q:=fun q V g=>by rw[aQ,af ac,aQ,af ac,o6 _ ac ac,ob _ ac]
 refine uw rfl (by simp only[qd,sU,w0,zgc,w2,w3,w4,t1,p1,jV];rfl) (ut (n:=8+k) 3 [] [] 0 sW ((hc3.up ac).keep2 (fun q _ Y=>ac) fC fun q V g=>by rw[aQ,af ac,aQ,af ac,o6 _ ac ac,ob _ ac,o5 _ ac ac,oa _ ac]) .nilS (j.keep (fun q _ Y=>ac) fC fun q V g=>hk5 q V g).rd (i.keep (fun q _ Y=>ac) fC fun q V g=>hk6 q V g).rd) ?_ ?_ ?_
 .exact hr6.keep fC fun q Y=>Ca
 .simp only[zfI];omega
 .intro q V g;rw[aQ,af ac,aQ,af ac,o6 _ ac g,ob _ ac,o5 _ ac g,oa _ ac,o4 _ ac g];exact o2' q V g
set_option maxRecDepth 100000 in
theorem zpz{I:List En}(hG:GenL I){k:Nat}{f:Int}{deep lo:Nat}{H H2:Hp}{r:Nat}{L:List Int}{c q m:Int}{E2:aw}(hst:deep<=2->oQ I k f (deep+1))(hat:AtT f deep lo H H2 r L c q m E2)(hn0:¬q<6)(hn1:¬q<8)(hn2:¬q<10)(hp0:q<12):zfV Tryz.prog (zfn pls I) 84 156 mY E2 H2 (mZ k f deep lo H r L c q m):=by
 obtain⟨hd,hrl,hlo,n2,g2,o2',hr2,hL1,hm,hqd,k0,k1,k2,k6,k8,k9,k10⟩:=hat;have hkeep:(zfn pls I).keep 84=false:=rfl;have hq2:(2:Int)≠0:=aD;have U:((zf1 f).length:Int)≠0:=by rcases rB f with h|h<;>rw[h]<;>decide
 obtain⟨hi0,hix⟩:=qu (zf1 f) U hm.1 [];have hxs:=rG hm.1;have hxa:=rH hm.1;have hxf:=sX hm.1;have er:(H.next == r)=false:=zfN ac;have e41:=zgP f 4 1 L;have e50:=zgP f 5 0 L;have e32:=zgP f 3 2 L;have hwd:IntKind.wrap .i64 ((deep:Int)+1)=((deep+1:Nat):Int):=zhe ac;unfold mZ;generalize hR:zg7 (qy f k deep) f L c q m=R;rw[zg7]at hR;dsimp only[mY,nS,qx];repeat' (first
  |(apply ah ?_;clear hK K)|apply Ry.o ?_|(apply aL (fun hb hbp=>?_) (fun hb hbp=>?_)<;>try(cases hb;done))|apply ak ?_|(apply zff fun K hK=>?_)|apply ay ?_|fail)
 obtain⟨lv,hg,o⟩:=hr2.tick;have hcw:IntKind.wrap .i64 (c+1)=cu (c+1):=rfl;repeat' (first
  |(apply ah ?_;clear hK K)|apply Rx.o ?_|apply ct ?_|apply ak ?_|(apply zff fun K hK=>?_)|fail)
 generalize C:Hp.set _ r _=O;have nt:O.next=H.next+1:=by rw[<-C];simpa using n2
 have ot:∀q,q≠r->O.get q=_:=fun q Y=>by rw[<-C,aQ,af Y]
 have hrt:ir lo O r L (cu (c+1)):=by rw[<-C];exact o _
 have gt:O.get H.next=some (.cells [.int .i64 0,.str [],.str [],.int .i64 0,.int .i64 0,.int .i64 0,.str [],.int .i64 0,.nilS,.int .i64 0,.int .i64 0,.str [],.int .i64 0,.nilS,.nilS,.nilS,.nilS] 0 true):=by rw[ot _ ac];exact g2
 clear C;refine aU rfl aV aW ?_;simp only[bi];refine aS ?_ (zhO hG 4 f 1 ac ac lo O r L _ hrt ac);rintro v Z ⟨⟨cs,rfl,hc1,hc2,hc3⟩,hr4,n4,o4⟩;obtain⟨v0,v1,v2,v3,v4,rfl⟩:=j8 hc1;obtain⟨w0,zgc,w2,w3,w4⟩:=sY hc2;dsimp only[zfp];repeat' (first
  |(apply ah ?_;clear hK K)|apply Rx.o ?_|apply ct ?_|apply ak ?_|(apply zff fun K hK=>?_)|fail)
 generalize M:Hp.set (Hp.alloc Z _) Z.next _=J
 have na:J.next=Z.next+1:=by rw[<-M];rfl
 have oa:∀q,q<Z.next->J.get q=Z.get q:=fun q Y=>NZ
 have ga:J.get Z.next=some (.cells [.int .i64 4,.str [],.str [],.int .i64 0,.int .i64 0,.int .i64 0,.str [],.int .i64 0,.nilS,v0,v1,v2,v3,v4,.nilS,.nilS,.nilS] 0 true):=by rw[<-M,aQ,aq rfl]
 clear M;refine aU rfl aV aW ?_;simp only[bi];refine aS ?_ (yp hG (hst ac) 3 ac ac lo J r ((zfC f 4 1 L).2,cu (c+1)) (hr4.keep ac fun q Y=>oa q ac) vM);rintro tv V ⟨j,hr5,n5,z⟩;obtain⟨t1,t2⟩:=j.one;have g5:V.get Z.next=some (.cells [.int .i64 4,.str [],.str [],.int .i64 0,.int .i64 0,.int .i64 0,.str [],.int .i64 0,.nilS,v0,v1,v2,v3,v4,.nilS,.nilS,.nilS] 0 true):=by rw[z _ ac ac];exact ga
 have g6:V.get H.next=some (.cells [.int .i64 0,.str [],.str [],.int .i64 0,.int .i64 0,.int .i64 0,.str [],.int .i64 0,.nilS,.int .i64 0,.int .i64 0,.str [],.int .i64 0,.nilS,.nilS,.nilS,.nilS] 0 true):=by rw[z _ ac ac,oa _ ac,o4 _ ac ac];exact gt
 have e46:(H.next == Z.next)=false:=zfN ac;have e64:(Z.next == H.next)=false:=zfN ac;dsimp only[zfp];repeat' (first
  |(apply ah ?_;clear hK K)|apply Rx.o ?_|apply ct ?_|apply ak ?_|(apply zff fun K hK=>?_)|apply ax ?_|fail)
 refine⟨zfj,_,(by(try simp only[zfo,zfv,Nat.reduceBEq,tyF,zgD,zgN, *]);first|done|with_reducible rfl),?_⟩;try simp only[zfi]
 rw[af ac,af ac,af ac,aq ac]at hR;subst hR;have hk5:∀q,J.next<=q->q<V.next->((V.set Z.next (.cells [.int .i64 4,.str [],.str [],.int .i64 0,.int .i64 0,.int .i64 0,.str [],.int .i64 0,.nilS,v0,v1,v2,v3,v4,.nilS,tv,.nilS] 0 true)).set H.next (.cells [.int .i64 4,.str [],.str [],.int .i64 0,.int .i64 0,.int .i64 0,.str [],.int .i64 0,.nilS,v0,v1,v2,v3,v4,.nilS,tv,.nilS] 0 true)).get q=V.get q:=fun q i g=>Ca
 refine uw rfl (by simp only[qd,sU,w0,zgc,w2,w3,w4,t1,jV];rfl) (ut (n:=8+k) 4 [] [] 0 sW ((hc3.up ac).keep2 (fun q _ Y=>ac) fC fun q i g=>by rw[aQ,af ac,aQ,af ac,z _ ac ac,oa _ ac]) .nilS (j.keep (fun q _ Y=>ac) fC fun q i g=>hk5 q i g).rd .nilS) ?_ ?_ ?_
 .exact hr5.keep fC fun q Y=>Ca
 .simp only[zfI];omega
 .intro q i g;rw[aQ,af ac,aQ,af ac,z _ ac g,oa _ ac,o4 _ ac g,ot _ g];exact o2' q i g
set_option maxRecDepth 100000 in
theorem zrW{lG:List En}(hG:GenL lG){k:Nat}{f:Int}{deep lo:Nat}{H H2:Hp}{r:Nat}{L:List Int}{c q m:Int}{E2:aw}(hst:deep<=2->oQ lG k f (deep+1))(hat:AtT f deep lo H H2 r L c q m E2)(hn0:¬q<6)(hn1:¬q<8)(hn2:¬q<10)(hn3:¬q<12)(hn4:¬q<14)(hp0:q<15):zfV Tryz.prog (zfn pls lG) 84 156 mY E2 H2 (mZ k f deep lo H r L c q m):=by
 obtain⟨hd,hrl,hlo,n2,g2,o2',hr2,hL1,hm,hqd,k0,k1,k2,k6,k8,k9,k10⟩:=hat;have hkeep:(zfn pls lG).keep 84=false:=rfl;have hq2:(2:Int)≠0:=aD;have I:((zf1 f).length:Int)≠0:=by rcases rB f with h|h<;>rw[h]<;>decide
 obtain⟨hi0,hix⟩:=qu (zf1 f) I hm.1 [];have hxs:=rG hm.1;have hxa:=rH hm.1;have hxf:=sX hm.1;have er:(H.next == r)=false:=zfN ac;have e41:=zgP f 4 1 L;have e50:=zgP f 5 0 L;have e32:=zgP f 3 2 L;have hwd:IntKind.wrap .i64 ((deep:Int)+1)=((deep+1:Nat):Int):=zhe ac;unfold mZ;generalize hR:zg7 (qy f k deep) f L c q m=R;rw[zg7]at hR;dsimp only[mY,nS,qx];repeat' (first
  |(apply ah ?_;clear hK K)|apply Ry.o ?_|apply bM ?_|(apply aL (fun hb z=>?_) (fun hb z=>?_)<;>try(cases hb;done))|apply ak ?_|(apply zff fun K hK=>?_)|(apply zfm 24 [(3,14),(6,14),(7,14),(11,14),(13,14)] fun K hK=>?_)|(apply zfx ?_;try intro _)|(apply zfG ?_ ?_<;>clear hK K)|apply br ?_|apply zhC rfl ?_|apply ay ?_|fail)
 repeat' (first
  |(apply ah ?_;clear hK K)|fail)
 .exact zf6
 generalize M:Hp.set (Hp.alloc (Hp.alloc _ _) _) _ _=Ha;have na:Ha.next=H.next+3:=by rw[<-M];simp only[zfI,zfw];omega
 have oa:∀q,q<H.next->q≠r->Ha.get q=H.get q:=fun q i g=>by
  rw[<-M,aQ,af ac,zfk,af fx,zfk,af ac];exact o2' q i g
 have gz:Ha.get H.next=some (.cells [.int .i64 0,.str [],.str [],.int .i64 0,.int .i64 0,.int .i64 0,.str [],.int .i64 0,.nilS,.int .i64 0,.int .i64 0,.str [],.int .i64 0,.nilS,.nilS,.nilS,.nilS] 0 true):=by
  rw[<-M,aQ,af ac,zfk,af fx,zfk,af ac];exact g2
 have hra:ir lo Ha r L c:=by
  rw[<-M];exact hr2.keep iP fun q C=>by rw[aQ,af ac,zfk,af fx,zfk,af ac]
 have ga:Ha.get (H.next+2)=some (.cells [.int .i64 6,.str ((zf1 f).getD (m.tmod (zf1 f).length).toNat []),.str (kT m),.int .i64 0,.int .i64 0,.int .i64 0,.str [],.int .i64 0,.nilS,.int .i64 0,.int .i64 0,.str [],.int .i64 0,.nilS,.nilS,.nilS,.nilS] 0 true):=by rw[<-M,aQ,aq ac]
 clear M;have htm:0<=m.tmod 2/\m.tmod 2<2:=BM hm.1;have hw2:IntKind.wrap .i64 (2-m.tmod 2)=2-m.tmod 2:=zhb ac ac;generalize hcnt:(2-m.tmod 2).toNat=Z at *;have hcn:2-m.tmod 2=(Z:Int):=ac;rw[hcn]at hw2;refine zgs [0,1,6,9,13] [H.next] 14 Z (fun j E H'=>∃v es U,H'.get (H.next+2)=some (.cells [.int .i64 6,.str ((zf1 f).getD (m.tmod (zf1 f).length).toNat []),.str (kT m),.int .i64 0,.int .i64 0,.int .i64 0,.str [],.int .i64 0,.nilS,.int .i64 0,.int .i64 0,.str [],.int .i64 0,.nilS,v,.nilS,.nilS] 0 true)/\zgS (fun q=>H.next+3<=q) 4 H' 5 v (es.map Ex.cells)/\ir lo H' r U c/\(∀q,q<H.next->q≠r->H'.get q=H.get q)/\es.length=j/\U.length<=L.length/\zg8 f Z L=(es++(zg8 f (Z-j) U).1,(zg8 f (Z-j) U).2)) eE ⟨.nilS,[],L,ga,.inl ⟨rfl,rfl⟩,hra,oa,rfl,aE _,au⟩ ?_;clear ga hra oa g2 hr2 o2';rintro j E3 H3 hj hcE hrH hnH hsI ⟨v,es,U,g3,Y,O,o3,hel,hLj,hJ⟩;(try simp only[zfT,zfB,a0,zfo,zfv,Nat.reduceBEq,Nat.reduceAdd, *]at hcE);(try simp only[zfT,zfB,a0, *]at hrH);(try simp only[zfw,zfI,zgj,b9,Nat.reduceAdd]at hnH);have hB0:(H.next == H3.next)=false:=zfN ac;have hC0:(H3.next == H.next)=false:=zfN ac;have hle:H.next+3<=H3.next:=ac
 have e02:(H.next == H.next+2)=false:=zfN ac;have e20:(H.next+2 == H.next)=false:=zfN ac;obtain⟨v1,v2⟩:=Y.one;repeat' (first
  |(apply ah ?_;clear hK K)|apply Rx.o ?_|apply ct ?_|(apply bt (fun hb z=>?_) (fun hb z=>?_)<;>try(cases hb;done))|apply ak ?_|(apply zff fun K hK=>?_)|(apply zfm 28 [(1,4),(1,6),(5,6)] fun K hK=>?_)|(apply zfx ?_;try intro _)|apply br ?_|apply ay ?_|apply zfh ?_|apply ax ?_|apply zfr ?_)
 .have hlt:j<Z:=by omega
  refine aU rfl aV aW ?_;simp only[gL];refine aS ?_ (zhO hG 3 f 2 ac ac lo H3 r U c O ac);rintro v' V ⟨⟨cs,rfl,hc1,hc2,hc3⟩,hr4,n4,o4⟩;have hl4:=zgP f 3 2 U;have g4:V.get (H.next+2)=some (.cells [.int .i64 6,.str ((zf1 f).getD (m.tmod (zf1 f).length).toNat []),.str (kT m),.int .i64 0,.int .i64 0,.int .i64 0,.str [],.int .i64 0,.nilS,.int .i64 0,.int .i64 0,.str [],.int .i64 0,.nilS,v,.nilS,.nilS] 0 true):=by rw[o4 _ ac ac];exact g3
  have g40:V.get H.next=some (.cells [.int .i64 0,.str [],.str [],.int .i64 0,.int .i64 0,.int .i64 0,.str [],.int .i64 0,.nilS,.int .i64 0,.int .i64 0,.str [],.int .i64 0,.nilS,.nilS,.nilS,.nilS] 0 true):=by rw[o4 _ ac ac];exact hrH
  have kb:=fun H=>Fs H hc1 hc2;have hvq:∀q o m z',v=.sl q o m z'->H.next+3<=q/\q<H3.next:=fun q o m z' e=>by
   rcases Y with⟨rfl,_⟩|⟨q',imm,rows,rfl,e1,e2,_⟩
   .cases e
   .simp only[AV.sl.injEq]at e;rw[<-e.1];exact⟨e1,e2⟩
  have ob:∀q,q<V.next->(V.alloc (.cells cs 0 true)).get q=V.get q:=fun q C=>hY
  have J:zgS (fun q=>H.next+3<=q) 4 (V.alloc (.cells cs 0 true)) 5 v (es.map Ex.cells):=Y.keep (fun q _ h=>h) fx fun q i g=>by rw[ob _ ac,o4 q g ac]
  have gcs:(V.alloc (.cells cs 0 true)).get V.next=some (.cells cs 0 true):=kV
  have g4b:(V.alloc (.cells cs 0 true)).get (H.next+2)=some (.cells [.int .i64 6,.str ((zf1 f).getD (m.tmod (zf1 f).length).toNat []),.str (kT m),.int .i64 0,.int .i64 0,.int .i64 0,.str [],.int .i64 0,.nilS,.int .i64 0,.int .i64 0,.str [],.int .i64 0,.nilS,v,.nilS,.nilS] 0 true):=by rw[ob _ ac];exact g4
  obtain⟨v5,H5,a5,s5,n5,f5,q5⟩:=zgS.push (P:=Tryz.prog) (t:=61) Tryz.underlying61 DE Io Ip rfl aj J fx (r:=V.next) (imm:=0) (row:=cs) (w:=(zfC f 3 2 U).1.cells) gcs hc1 hc2 (hc3.keep2 (fun q i g=>⟨ac,fun o m z' e=>by have:=(hvq q o m z' e).2;omega⟩) (eh _) fun q i g=>ob q g) BE BE;simp only[zfw]at n5 f5;have o5:∀q,q<V.next->q<H.next+3->H5.get q=V.get q:=fun q i g=>by rw[f5 q ac (fun o m z' e=>by have:=(hvq q o m z' e).1;omega),ob q i]
  have g5:H5.get (H.next+2)=some (.cells [.int .i64 6,.str ((zf1 f).getD (m.tmod (zf1 f).length).toNat []),.str (kT m),.int .i64 0,.int .i64 0,.int .i64 0,.str [],.int .i64 0,.nilS,.int .i64 0,.int .i64 0,.str [],.int .i64 0,.nilS,v,.nilS,.nilS] 0 true):=by rw[o5 _ ac ac];exact g4
  have n5':V.next+2<=H5.next:=ac
  obtain⟨p1,p2⟩:=s5.one;clear f5 q5 Y J O;dsimp only[zfp];repeat' (first
   |(apply ah ?_;clear hK K)|apply Rx.o ?_|apply ct ?_|(apply zff fun K hK=>?_)|(apply zfx ?_;try intro _)|(apply zfG ?_ ?_<;>clear hK K)|apply br ?_|apply zhC rfl ?_|fail)
  .exact zf6
  .have o6:∀q,q≠H.next+2->(H5.set (H.next+2) (.cells [.int .i64 6,.str ((zf1 f).getD (m.tmod (zf1 f).length).toNat []),.str (kT m),.int .i64 0,.int .i64 0,.int .i64 0,.str [],.int .i64 0,.nilS,.int .i64 0,.int .i64 0,.str [],.int .i64 0,.nilS,v5,.nilS,.nilS] 0 true)).get q=H5.get q:=fun q C=>by rw[aQ,af C]
   have g60:H5.get H.next=some (.cells [.int .i64 0,.str [],.str [],.int .i64 0,.int .i64 0,.int .i64 0,.str [],.int .i64 0,.nilS,.int .i64 0,.int .i64 0,.str [],.int .i64 0,.nilS,.nilS,.nilS,.nilS] 0 true):=by rw[o5 _ ac ac];exact g40
   refine⟨ac,(by simp only[zfT,zfB,a0,zfo,zfv,Nat.reduceBEq,Nat.reduceAdd, *]),(by simp only[zfT,zfB,a0,zfo,zfv, *]),zf4,(by simp only[zfo,Nat.reduceBEq, *];exact zhp (n:=Z) ac ac),?_⟩;refine⟨v5,es++[(zfC f 3 2 U).1],(zfC f 3 2 U).2,iA,by rw[r0];exact s5.keep (fun q _ h=>h) fC fun q i g=>o6 q ac,hr4.keep fC fun q C=>by rw[o6 q ac,o5 q ac ac],fun q i g=>by rw[o6 q ac,o5 q ac ac,o4 q ac g,o3 q i g],by simp[hel],ac,?_⟩;rw[hJ,show Z-j=(Z-(j+1))+1 by omega,zg8];simp
 .have hje:j=Z:=by omega
  subst hje;repeat' (first
   |(apply ah ?_;clear hK K)|fail)
  refine⟨zfj,_,(by(try simp only[zfo,zfv,Nat.reduceBEq,tyF,zgD,zgN, *]);first|done|with_reducible rfl),?_⟩;try simp only[zfi]
  rw[af ac,af ac,af ac,af ac,af ac,aq ac,hJ,qS]at hR;subst hR;simp only[zg8,bi];refine uw rfl (by simp only[qd,sU,v1,jV];rfl) (ut (n:=8+k) 6 _ _ 0 sW sW ((Y.keep (fun q _ C=>ac) fC fun q i g=>kJ).rd.up ac) .nilS .nilS) ?_ ?_ ?_
  .exact O.keep fC fun q C=>kJ
  .simp only[zfI];omega
  .intro q i g;rw[aQ,af ac];exact o3 q i g
end
end Go.Proofs.YtpbcimfiofmoeaaGreat
