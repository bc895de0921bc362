/-
  The Go function fullinglaw8.LowerLoops returns true whatever its argument is, and leaves all memory that was there as it was. Conditions: none.
-/
import Derived.OpenShut
import Derived.ProofKit
import Derived.Test.YtpbcimfiofmoeaaGreatPCT
import Derived.WalkKit
set_option linter.unusedSimpArgs false
set_option linter.unusedVariables false
set_option linter.unusedSectionVars false
set_option linter.defProp false
set_option maxHeartbeats 32000000
namespace Go.Ab
set_option maxRecDepth 20000
open Go
theorem O5{P:Prop}(h:P:=by simp only[zfo,Nat.reduceBEq, *];exact zhp (n:=q.nodes.length) ac ac):P:=h
end Go.Ab
namespace Go.Proofs.YtpbcimfiofmoeaaGreat.lowerLoops
set_option maxRecDepth 20000
open Go Go.Ab
def tyLowerLoops.tyF:=ad @ej (ad @cN (ad @dH (ad @iD (ad @eQ (ad @lP (ad @xp (ad @xq (ad @u5 (ad @nF (ad @iZ (ad @tK (ad @iO (ad @fO (ad @eR (ad @mM (ad @li (ad @gJ (ad @fP (ad @xK (@xL))))))))))))))))))))
open tyLowerLoops Go.ChangeShapes Go.WideShapes Go.ChangeAt Go.RowKit
theorem own:ownKnob Tryz.prog.godebug=none:=aj
noncomputable def O6:{c:SC // aH 28 (Tryz.f31.body.getD .skip)=c}:=by
 refine⟨?_,?_⟩;rotate_left
 .simp only[Tryz.f31,bS,aH,zfO,zfL,zfR,zfS,Nat.blt,Nat.ble];rfl
noncomputable def O7:{c:SC // aH 76 (Tryz.f6.body.getD .skip)=c}:=by
 refine⟨?_,?_⟩;rotate_left
 .simp only[Tryz.f6,bS,aH,zfO,zfL,zfR,zfS,Nat.blt,Nat.ble];rfl
theorem zpE(ρ:Nat->Int):∀x:List St,zf0 x<2^60->ce Tryz.prog ρ 31 (ro x) (.int .i64 (zfQ x:Int)):=
 YQ fit (pls:=pls) (l:=[]) trivial (fun x=>zf0 x) (ok:=fun x=>zf0 x<2^60) (enc:=ro) (out:=fun x=>.int .i64 (zfQ x:Int)) (fun x _=>.cons (I2 _) .nil) (fun x _=>.int _ _) (fun x hx=>by
 have I:=YV (sz:=fun x:List St=>zf0 x) (ok:=fun x=>zf0 x<2^60) (out:=fun x=>.int .i64 (zfQ x:Int)) Ef (f:=31) (l:=[]) x;generalize hl:(⟨31,false,dc (fun y=>zf0 y<2^60/\zf0 y<zf0 x) ro fun x=>.int .i64 (zfQ x:Int)⟩:En)::[]=l at I⊢;have kr:∀(y:List St),zf0 y<zf0 x->∀H,zfs Tryz.prog (zfn pls l) 31 [.lst (y.map St.cells)] H fun v H'=>v=.int .i64 (zfQ y:Int)/\H'=H:=fun y h2 H=>by
  subst hl;exact zgL (enc:=ro) (out:=fun x=>.int .i64 (zfQ x:Int)) Ef (x:=y) rfl ⟨ac,h2⟩
 have hlen:=xu x;change zfs _ _ _ [.lst (x.map St.cells)] _ _;refine zfz (M:=28) (rs:=[.tmp 2]) I.call I.ice I.froz Tryz.func31 rfl rfl O6.2 rfl ?_;dsimp only[O6,zft,Nat.reduceAdd];repeat' (first
  |(apply ah ?_;clear hK K)|apply Rx.o ?_|apply ak ?_|(apply zff fun K hK=>?_)|(apply zfm 7 [(2,3),(6,3),(6,7)] fun K hK=>?_)|(apply zfx ?_;try intro _)|(apply zfG ?_ ?_<;>clear hK K)|apply br ?_|apply ay ?_|apply zfh ?_|apply ax ?_|apply zfr ?_)
 refine zgs [2,6,7] [] 8 x.length (fun i E H=>∃m:Nat,E.at 3=.int .i64 (m:Int)/\m+zfQ (x.drop i)=zfQ x) eE ⟨0,eE,au⟩ ?_;rintro i E H2 hi j hrH hnH hsI ⟨m,k3,hJ⟩;(try simp only[zfT,zfB,a0,zfo,zfv,Nat.reduceBEq,Nat.reduceAdd,Nat.reduceLeDiff,tyF, *]at j);(try simp only[zfT,zfB,a0,zfo,zfv,Nat.reduceBEq,Nat.reduceAdd,Nat.reduceLeDiff,tyF, *]at hrH);(try simp only[zfw,zfI,zgj,b9,Nat.reduceAdd]at hnH);have hle:=xJ x;by_cases O:i<x.length
 .have J:(i:Int)<x.length:=by omega
  have hgx:x[i]?=some x[i]:=aR O;have hsm:=zh3 (dI O);have hsz:=x[i].sz_eq;have Y:zfQ (x.drop i)=zgc x[i]+zfQ (x.drop (i+1)):=DY;rw[sy]at Y;generalize x[i]=s at *;have k7:=kr s.thn ac;have k8:=kr s.els ac;generalize zfQ s.thn=C at *;generalize zfQ s.els=g at *;have q1:∃zfJ,zfJ<=m+(if s.kind=4 then 1 else 0)/\m+(if s.kind=4 then 1 else 0)<=zfJ:=⟨_,aE _,aE _⟩;obtain⟨zfJ,V,L⟩:=q1;obtain⟨U,q2a,q2b⟩:∃U,U<=zfJ+C/\zfJ+C<=U:=⟨_,aE _,aE _⟩;obtain⟨Z,q3a,q3b⟩:∃Z,Z<=U+g/\U+g<=Z:=⟨_,aE _,aE _⟩;have e2:IntKind.wrap .i64 ((zfJ:Int)+(C:Int))=(U:Int):=by rw[show(zfJ:Int)+(C:Int)=(U:Int) by omega];exact zhb ac ac
  have e3:IntKind.wrap .i64 ((U:Int)+(g:Int))=(Z:Int):=by rw[show(U:Int)+(g:Int)=(Z:Int) by omega];exact zhb ac ac
  by_cases h4:s.kind=4
  .rw[aq h4]at Y V L;have e1:IntKind.wrap .i64 ((m:Int)+1)=(zfJ:Int):=by rw[show(m:Int)+1=(zfJ:Int) by omega];exact zhb ac ac
   repeat' (first
    |(apply ah ?_;clear hK K)|apply Ry.o ?_|apply bM ?_|(apply d4 ?_;first|refine Rx.k (k7 _) ?_|refine Rx.k (k8 _) ?_)|(apply aL (fun o z=>?_) (fun o z=>?_)<;>try(cases o;done))|apply ak ?_|(apply zff fun K hK=>?_)|(apply zfm 7 [(2,3),(6,3),(6,7)] fun K hK=>?_)|(apply zfx ?_;try intro _)|(apply zfG ?_ ?_<;>clear hK K)|apply br ?_|apply ay ?_|apply zfh ?_|apply ax ?_|apply zfr ?_)
   all_goals first|exact zf6|skip
   refine⟨ac,eL,eL,zf4,AJ,?_⟩;exact⟨Z,eE,ac⟩
  .rw[af h4]at Y V L;have hmm:zfJ=m:=ac;subst hmm;repeat' (first
    |(apply ah ?_;clear hK K)|apply Ry.o ?_|apply bM ?_|(apply d4 ?_;first|refine Rx.k (k7 _) ?_|refine Rx.k (k8 _) ?_)|(apply aL (fun o z=>?_) (fun o z=>?_)<;>try(cases o;done))|apply ak ?_|(apply zff fun K hK=>?_)|(apply zfm 7 [(2,3),(6,3),(6,7)] fun K hK=>?_)|(apply zfx ?_;try intro _)|(apply zfG ?_ ?_<;>clear hK K)|apply br ?_|apply ay ?_|apply zfh ?_|apply ax ?_|apply zfr ?_)
   all_goals first|exact zf6|skip
   refine⟨ac,eL,eL,zf4,AJ,?_⟩;exact⟨Z,eE,ac⟩
 .have J:¬(i:Int)<x.length:=by omega
  rw[qq ac]at hJ;have hm:m=zfQ x:=by simpa [zfQ]using hJ
  subst hm;repeat' (first
   |(apply ah ?_;clear hK K)|apply Ry.o ?_|apply bM ?_|(apply aL (fun o z=>?_) (fun o z=>?_)<;>try(cases o;done))|apply ak ?_|(apply zff fun K hK=>?_)|(apply zfm 7 [(2,3),(6,3),(6,7)] fun K hK=>?_)|(apply zfx ?_;try intro _)|(apply zfG ?_ ?_<;>clear hK K)|apply br ?_|apply ay ?_|apply zfh ?_|apply ax ?_|apply zfr ?_)
  all_goals (refine⟨zfj,_,zfq,?_⟩;try simp only[zfi]))
noncomputable def O8:En:=⟨31,false,dc (fun x=>zf0 x<2^60) ro fun x=>.int .i64 (zfQ x:Int)⟩
theorem zy5(ρ:Nat->Int):zgE Tryz.prog ρ O8:=zgO fun x C=>zpE ρ x C
noncomputable def O9:En:=⟨30,false,fun j=>tm knLEx.list 30 j⟩
theorem zu9(ρ:Nat->Int):zgE Tryz.prog ρ O9:=fun j r hr=>zG (knLEx.ok ρ) _ j r hr
noncomputable def qK:List En:=[O4,Oh,O8,Of,O9]
theorem zy6(ρ:Nat->Int):iF Tryz.prog ρ qK:=⟨zr1 ρ,zy0 ρ,zy5 ρ,zyZ ρ,zu9 ρ,trivial⟩
theorem ze9(H:Hp):zfs Tryz.prog (zfn pls qK) 30 [] H fun v H'=>v=.bool true/\H'=H:=DW rfl
structure Lq (F:Fu) (g:Gr):Prop where
 c:qD g.nodes=zfQ F.body
 r:∀x∈g.nodes,x.op=31->0<=x.imm/\x.imm<zfQ F.body
 n:g.nodes.length<=965
 z:zf0 F.body<2^60
theorem zr6{l:List Int}(o:hU l):∃f g F G,(zfZ l).funcs=[F,G]/\jK (zfZ l)=(⟨mG (l.take 60),[f,g]⟩,0)/\Lq F f/\Lq G g/\UnOkR ⟨mG (l.take 60),[f,g]⟩/\mD ⟨mG (l.take 60),[f,g]⟩=true:=by
 obtain⟨f,g,U,M,m,C,z,_,_⟩:=zy3 o;have hp:=O0 o;have K:=O1 o;have hpz:(zfZ l).sz=1+jC (zfZ l).arrays+ig (zfZ l).funcs:=rfl;have Y:=K.sz;have O:gw (l.take 60)∈(zfZ l).funcs:=dJ;have i:gy (l.take 60)∈(zfZ l).funcs:=dO _ dJ;have I:∀F∈(zfZ l).funcs,zf0 F.body<2^60:=fun F Z=>by
  have a:=pY Z;have b:F.sz=1+F.name.length+zgU F.params+zgU F.locals+zf0 F.body+F.value.sz:=rfl;omega
 obtain⟨j,a2⟩:=Ny hp (cI _) O M;obtain⟨b1,b2⟩:=Ny hp (cI _) i m;have J:=K.valid (Ce l);rw[U]at J;rcases J with⟨e,_⟩|⟨_,v1,_,_,v2⟩
 .cases e
 have V:∀(F:Fu) (q:Gr),F∈(zfZ l).funcs->iL (zfZ l) (2*(zfZ l).sz+1) F=some q->∀n∈q.nodes,NdR n:=fun F q Z L=>by
  obtain⟨s,v,e1,e2,e3⟩:=M7 hp Y (cI _) F Z;unfold iL at L;rw[e1,b8,e2,b8,az]at L;rw[<-L];exact e3.r
 refine⟨f,g,_,_,rfl,U,⟨j,a2,C,I _ O⟩,⟨b1,b2,z,I _ i⟩,⟨v2,fun q L=>?_⟩,v1⟩;rcases eP.1 L with rfl|L
 .exact V _ _ O M
 .obtain rfl:=AK.1 L;exact V _ _ i m
set_option maxRecDepth 100000 in
theorem law(l:List Int)(hl:l.length<2^63)(hL:hU l):zfs Tryz.prog (zfn pls qK) 6 [pG l] zfM fun v _=>v=.bool true:=by
 have hw:Plain (zfn pls qK) 6:=zgK (fun _=>rfl) rfl;obtain⟨f,g,F,G,O,V,qF,qG,huR,huI⟩:=zr6 hL;generalize hus:(⟨mG (l.take 60),[f,g]⟩:Un)=u at *;have L:u.funcs=[f,g]:=by rw[<-hus]
 have kp:∀H,zfs Tryz.prog (zfn pls qK) 25 [pG l] H fun v H'=>v=.agg (zfZ l).cells/\H'=H:=fun H=>zgL (enc:=fun l=>[pG l]) (ok:=fun l=>l.length<2^63) (out:=fun l=>.agg (zfZ l).cells) (fun x y h=>zn8 jv) (x:=l) rfl hl;have kl:∀H,zfs Tryz.prog (zfn pls qK) 27 [.agg (zfZ l).cells] H fun v H'=>v=.tup [.agg u.cells,.int .i64 0]/\H'=H:=fun H=>by
  have:zfs Tryz.prog (zfn pls qK) 27 [.agg (zfZ l).cells] H fun v H'=>v=.tup [.agg (jK (zfZ l)).1.cells,.int .i64 (jK (zfZ l)).2]/\H'=H:=zgL (enc:=gh) (ok:=LwOk) (out:=fun p=>.tup [.agg (jK p).1.cells,.int .i64 (jK p).2]) sD (x:=zfZ l) rfl (O1 hL);rw[V]at this;exact this
 have kv:∀H,zfs Tryz.prog (zfn pls qK) 24 [.agg u.cells] H fun v H'=>v=.bool true/\H'=H:=fun H=>by
  have:zfs Tryz.prog (zfn pls qK) 24 [.agg u.cells] H fun v H'=>v=.bool (mD u)/\H'=H:=zgL (enc:=fun u:Un=>[.agg u.cells]) (ok:=UnOkR) (out:=fun u=>.bool (mD u)) (fun x y h=>Un.inj jv) (x:=u) rfl huR;rw[huI]at this;exact this
 have kw:∀x:List St,zf0 x<2^60->∀H,zfs Tryz.prog (zfn pls qK) 31 [.lst (x.map St.cells)] H fun v H'=>v=.int .i64 (zfQ x:Int)/\H'=H:=fun x hx H=>zgL (enc:=ro) (ok:=fun x=>zf0 x<2^60) (out:=fun x=>.int .i64 (zfQ x:Int)) Ef (x:=x) rfl hx;have hl1:u.funcs.length=2:=by rw[L];rfl
 have hl2:(zfZ l).funcs.length=2:=by rw[O];rfl
 have hat:∀i,i<2->∃q Q,u.funcs[i]?=some q/\(zfZ l).funcs[i]?=some Q/\Lq Q q:=fun i hi=>by
  rw[L,O]
  match i,hi with
  |0,_=>exact⟨f,F,rfl,rfl,qF⟩
  |1,_=>exact⟨g,G,rfl,rfl,qG⟩
 clear L O qF qG huR huI V hus;generalize zfZ l=p at *;refine zfz (M:=76) (rs:=[.tmp 2]) (hw.call _) hw.ice hw.froz Tryz.func6 rfl rfl O7.2 rfl ?_;dsimp only[O7,zft,Nat.reduceAdd];have hll:p.funcs.length=u.funcs.length:=ac;have hb1:u.funcs.length<2^30:=ac;obtain⟨hl3,hl4⟩:u.funcs.length<=2/\2<=u.funcs.length:=ac;clear hl2 hl1;repeat' (first
  |(apply ah ?_;clear hK K)|apply Ry.o ?_|apply bM ?_|(apply d4 ?_;first|refine Rx.k (kp _) ?_|refine Rx.k (kl _) ?_)|(apply bC (fun J z=>?_) (fun J z=>?_)<;>try(cases J;done))|(apply aL (fun o Z=>?_) (fun o Z=>?_)<;>try(cases o;done))|apply ak ?_|(apply zff fun K hK=>?_)|apply ay ?_|apply zfh ?_|apply ax ?_|apply zfr ?_)
 refine zgs [3,4,31,32] [0,1] 33 u.funcs.length (fun i E H=>True) eE trivial ?_;rintro i E H2 hi m U Y hsI hT;(try simp only[zfT,zfB,a0,zfo,zfv,Nat.reduceBEq,Nat.reduceAdd,Nat.reduceLeDiff,tyF, *]at m);(try simp only[zfT,zfB,a0,zfo,zfv,Nat.reduceBEq,Nat.reduceAdd,Nat.reduceLeDiff,tyF, *]at U);(try simp only[zfw,zfI,zgj,b9,Nat.reduceAdd]at Y);have hB0:(0 == H2.next)=false:=zfN ac;have hC0:(H2.next == 0)=false:=zfN ac;have hB1:(1 == H2.next)=false:=zfN ac;have hC1:(H2.next == 1)=false:=zfN ac;have n2:2<=H2.next:=Y
 by_cases hlt:i<u.funcs.length
 .have hlt':(i:Int)<u.funcs.length:=by omega
  obtain⟨q,Q,gq,gQ,zfH,lr,ln,lz⟩:=hat i ac;have kq:=kw Q.body lz;have hwz:=xJ Q.body;repeat' (first
   |(apply ah ?_;clear hK K)|apply Ry.o ?_|apply bM ?_|(apply d4 ?_;first|refine Rx.k (kq _) ?_)|(apply bC (fun J z=>?_) (fun J z=>?_)<;>try(cases J;done))|(apply aL (fun o Z=>?_) (fun o Z=>?_)<;>try(cases o;done))|apply ak ?_|(apply zff fun K hK=>?_)|apply ay ?_|apply zfh ?_|apply ax ?_|apply zfr ?_)
  refine zgs [3,4,8,31,32,33,46,47] [0,1] 48 q.nodes.length (fun j E H=>∃c:Nat,E.at 9=.int .i64 (c:Int)/\c+qD (q.nodes.drop j)=qD q.nodes) eE ⟨0,eE,au⟩ ?_;rintro j E3 H3 hj m U Y hsI ⟨c,k9,hJ⟩;(try simp only[zfT,zfB,a0,zfo,zfv,Nat.reduceBEq,Nat.reduceAdd,Nat.reduceLeDiff,tyF, *]at m);(try simp only[zfT,zfB,a0,zfo,zfv,Nat.reduceBEq,Nat.reduceAdd,Nat.reduceLeDiff,tyF, *]at U);(try simp only[zfw,zfI,zgj,b9,Nat.reduceAdd]at Y);have hB0:(0 == H3.next)=false:=zfN ac;have hC0:(H3.next == 0)=false:=zfN ac;have hB1:(1 == H3.next)=false:=zfN ac;have hC1:(H3.next == 1)=false:=zfN ac;have n3:2<=H3.next:=ac
  by_cases I:j<q.nodes.length
  .have hjt':(j:Int)<q.nodes.length:=by omega
   have gx:q.nodes[j]?=some q.nodes[j]:=aR I;have hmem:=dI I;have hdr:qD (q.nodes.drop j)=(if q.nodes[j].op=31 then 1 else 0)+qD (q.nodes.drop (j+1)):=by
    rw[gW I,qD,qD,EX];by_cases c:q.nodes[j].op=31
    .rw[aq BF,aq c,dg];omega
    .rw[af BF,af c];omega
   have hr:=lr _ hmem;generalize q.nodes[j]=n at *;by_cases C:n.op=31
   .obtain⟨r1,r2⟩:=hr C;have c1:¬n.imm<0:=ac;have c2:¬(zfQ Q.body:Int)<=n.imm:=ac;rw[aq C]at hdr;obtain⟨zfJ,q1a,q1b⟩:∃zfJ,zfJ<=c+1/\c+1<=zfJ:=⟨_,aE _,aE _⟩;have e1:IntKind.wrap .i64 ((c:Int)+1)=(zfJ:Int):=by rw[show(c:Int)+1=(zfJ:Int) by omega];exact zhb ac ac
    clear r1 r2 hr zfH;repeat' (first
     |(apply ah ?_;clear hK K)|apply Ry.o ?_|apply bM ?_|(apply bC (fun J z=>?_) (fun J z=>?_)<;>try(cases J;done))|(apply aL (fun o Z=>?_) (fun o Z=>?_)<;>try(cases o;done))|apply ak ?_|(apply zff fun K hK=>?_)|apply ay ?_|apply zfh ?_|apply ax ?_|apply zfr ?_)
    refine⟨ac,eL,eL,zf4,O5,?_⟩;exact⟨zfJ,eE,ac⟩
   .rw[af C]at hdr;clear hr zfH;repeat' (first
     |(apply ah ?_;clear hK K)|apply Ry.o ?_|apply bM ?_|(apply bC (fun J z=>?_) (fun J z=>?_)<;>try(cases J;done))|(apply aL (fun o Z=>?_) (fun o Z=>?_)<;>try(cases o;done))|apply ak ?_|(apply zff fun K hK=>?_)|apply ay ?_|apply zfh ?_|apply ax ?_|apply zfr ?_)
    refine⟨ac,eL,eL,zf4,O5,?_⟩;exact⟨c,eE,ac⟩
  .have hjt':¬(j:Int)<q.nodes.length:=by omega
   rw[qq ac]at hJ;have hc:(zfQ Q.body:Int)=(c:Int):=by
    have:c=qD q.nodes:=by simpa [qD]using hJ
    omega
   clear zfH lr hJ;repeat' (first
    |(apply ah ?_;clear hK K)|apply Ry.o ?_|apply bM ?_|(apply bC (fun J z=>?_) (fun J z=>?_)<;>try(cases J;done))|(apply aL (fun o Z=>?_) (fun o Z=>?_)<;>try(cases o;done))|apply ak ?_|(apply zff fun K hK=>?_)|apply ay ?_|apply zfh ?_|apply ax ?_|apply zfr ?_)
   refine⟨ac,eL,eL,zf4,NY,?_⟩;trivial
 .have hlt':¬(i:Int)<u.funcs.length:=by omega
  repeat' (first
   |(apply ah ?_;clear hK K)|apply Ry.o ?_|apply bM ?_|(apply d4 ?_;first|refine Rx.k (kv _) ?_|refine Rx.k (ze9 _) ?_)|(apply bC (fun J z=>?_) (fun J z=>?_)<;>try(cases J;done))|(apply aL (fun o Z=>?_) (fun o Z=>?_)<;>try(cases o;done))|apply ak ?_|(apply zff fun K hK=>?_)|apply ay ?_|apply zfh ?_|apply ax ?_|apply zfr ?_)
  all_goals (refine⟨zfj,_,zfq,?_⟩;try simp only[zfi])
theorem con(l:List Int)(L:l.length<2^63)(o:hU l):ce Tryz.prog (fun _=>0) 6 [pG l] (.bool true):=
 zg3 fit (pls:=pls) (zy6 _) (.cons (O3 l) .nil) (.bool _) (law l L o)
set_option maxRecDepth 100000 in
theorem zfc{H:Type}{enc:TypeId×Value->H}(W:World)(z:Value){r:Reach}{J:Nat}(k0:Value.okWide Tryz.prog W r J 23 z){d:DataW H}{ps:List MemPlace}{Z:Nat->Bool}{C:Bool}(M:DataW.Trod enc Tryz.prog W 0 Z C 23 z d ps):
 Calls Tryz.prog 6 #[z] W fun e Y=>e=.returned (.bool true)/\Below W.heap.size W Y:=by
 obtain⟨l,U,L,hr⟩:=zpD k0 M;exact HA (ρ:=fun _=>0) (F:=yJ W) (con l L hr) (zy4 W) (ox U (oU _))
set_option maxRecDepth 100000 in
theorem zfd(K:Os)(M:K.Started)(H:Type)(enc:TypeId×Value->H):
 ReturnsInHanded {} Tryz.checked K 6 .any (Rows.lowerLoopsSpec.pre6 enc Tryz.prog Tryz.f6 Rows.lowerLoopsRow.domain false) (Rows.lowerLoopsSpec.post enc Tryz.prog Tryz.f6 false true false false):=by
 refine returnsInHanded_of_change (C:=Tryz.checked) own M aj Tryz.func6
  (ChangeSpec.witness6 (enc:=enc) (C:=Tryz.checked) false ⟨#[],#[.slice none 0 0],[]⟩ 8 aj aj aj aj) ?_
 intro W Y Z ds gs o O m i _;have J:∀(j:Nat) t v,Tryz.f6.params[j]?=some t->Z[j]?=some v->Value.okWide Tryz.prog W .any Y t v:=O;have g:=m;obtain⟨p,q,V,hV,rfl,hfz,hnd⟩:=m;have hA:DataW.TrodAll enc Tryz.prog W 0 (fun _=>true) true Tryz.f6.params.toList Z.toList ds p:=V;rw[Tryz.params6]at hA J;obtain⟨z,vs0,d0,ds0,p0,q0,L,rfl,rfl,h0,zfK⟩:=trodAll_cons hA;obtain⟨rfl,rfl,rfl⟩:=trodAll_nil zfK;obtain rfl:Z=#[z]:=by cases Z;simp_all
 obtain⟨rfl,rfl⟩:=trodVars_none hV;have k0:=J 0 23 z rfl rfl;clear V O;refine(zfc W z k0 h0).mono fun e W' ⟨he,I⟩=>?_;subst he;exact⟨_,rfl,QB (pv:=[]) g (fun _ _ _=>(trodAll_cons_mk (shut_bool Tryz.underlying4 _) trodAll_mk0)) (fun sp U=>(trodAll_cons_mk (zrZ aj aj (qe aj) h0 I (fun p hp=>g.lt p hp) (fun x hx=>by simp[hx]) U) trodAll_mk0)) (fun _ _=>rfl) au I (ok_one aj rfl (okWide_bool_mk Tryz.underlying4 _))⟩
theorem over:Rows.lowerLoopsRow.holds Tryz.pinned (OpenSpec.ofChange Rows.lowerLoopsSpec):=
 OpenClaim.holds_of_wide 6 Tryz.f6 rfl rfl rfl rfl rfl rfl rfl ⟨rfl,rfl,rfl,rfl,rfl⟩ rfl rfl rfl rfl rfl aj Tryz.func6 aj
  (qe aj) (by unfold Func.isWrapper;first|(rw[aq (by decide +kernel)];kernel_rfl)|(rw[af (by decide +kernel)];exact⟨rfl,rfl⟩))
  (fun z M H enc _=>zfd z M H enc)
theorem proved:Rows.LowerLoopsSaid:=
 over
#print axioms proved
end Go.Proofs.YtpbcimfiofmoeaaGreat.lowerLoops
