/-
  The Go function fullinglaw8.LowerRenaming returns true whatever its arguments are, and leaves all memory that was there as it was. Conditions: none.
-/
import Derived.OpenShut
import Derived.ProofKit
import Derived.Test.YtpbcimfiofmoeaaNCR
import Derived.WalkKit
set_option linter.unusedSimpArgs false
set_option linter.unusedVariables false
set_option linter.unusedSectionVars false
set_option linter.defProp false
set_option maxHeartbeats 32000000
namespace Go.Ab
set_option maxRecDepth 20000
open Go
def DS:=@Go.trodAll_cons_mk
end Go.Ab
namespace Go.Proofs.Ytpbcimfiofmoeaa.lowerRenaming
set_option maxRecDepth 20000
open Go Go.Ab
def tyLowerRenaming.tyF:=ad @cQ (ad @cW (ad @qN (ad @lx (ad @ye (ad @BX (ad @kQ (ad @BY (ad @ly (ad @gI (@sm))))))))))
open tyLowerRenaming Go.ChangeShapes Go.WideShapes Go.ChangeAt Go.RowKit
theorem own:ownKnob Try.prog.godebug=none:=ah
noncomputable def LF:{c:SC // aD 98 (Try.f6.body.getD .skip)=c}:=by
 refine⟨?_,?_⟩;rotate_left
 .simp only[Try.f6,bP,aD,zby,zbt,zbA,zbB,Nat.blt,Nat.ble];rfl
theorem zld(ρ:Nat->Int)(l:List Int)(Z:l.length<2^63):cn Try.prog ρ 14 [oy l] (.agg (zbd l).cells):=by
 refine zr (n:=60) (cfg:=za3 pls zR) fit (pL ρ) (fun g L r C=>jc.look (l:=zR) (Yt ρ) g L r C) (.cons (LD l) .nil) ?_;refine aI (fun v H' h=>?_) (ZC J2 (Zp J2) l Z zbk);obtain⟨j,Y,x,y,J,M,rfl,V,_,_⟩:=h;obtain⟨K,i,U⟩:=V.cells;have m:zbS (fun q=>zbk.next<=q) 100 H' (.agg [.sl j 0 2 2,.sl Y 0 2 9]) (.agg K):=zbS.up (n:=16) ⟨K,i,rfl⟩ ac;obtain⟨I,O⟩:=zbS.iceV m;refine⟨I,.agg K,O I (aA _),?_⟩;show AV.agg (K.map (dE 59))=_;rw[U 59 ac]
noncomputable def LG:En:=⟨14,false,dA (fun l=>l.length<2^63) (fun l=>[oy l]) fun l=>.agg (zbd l).cells⟩
theorem zob(ρ:Nat->Int):fk Try.prog ρ LG:=zcQ fun x I=>zld ρ x I
theorem zwy(x y:RpX)(h:sX x=sX y):x=y:=by
 obtain⟨p,w⟩:=x;obtain⟨q,v⟩:=y;simp only[sX,ez,AV.agg.injEq,AV.int.injEq,br,kK]at h;rw[Pr.inj h.1,h.2]
noncomputable def LH:En:=⟨18,false,dA (fun y=>y.p.sz<2^36) sX fun y=>.agg (nF y).cells⟩
theorem zsT(ρ:Nat->Int):fk Try.prog ρ LH:=zcQ fun x I=>zmU ρ x I
noncomputable def LJ:En:=⟨17,false,fun Y=>rQ knLEx.list 17 Y⟩
theorem zsU(ρ:Nat->Int):fk Try.prog ρ LJ:=fun Y r hr=>xL (knLEx.ok ρ) _ Y r hr
noncomputable def nG:List En:=[LG,sK,LH,KA,LB,LJ]
theorem zwz(ρ:Nat->Int):jc Try.prog ρ nG:=⟨zob ρ,CW ρ,zsT ρ,Zg ρ,zsS ρ,zsU ρ,trivial⟩
theorem zaP(H:Hp):za9 Try.prog (za3 pls nG) 17 [] H fun v H'=>v=.bool true/\H'=H:=Gx rfl
theorem xr0(a b:AV):Ab.extract (.tup [a,b]) 0=some a:=rfl
theorem xr1(a b:AV):Ab.extract (.tup [a,b]) 1=some b:=rfl
set_option maxRecDepth 100000 in
theorem law(l:List Int)(b:Int)(hl:l.length<2^63)(hL:fQ l):za9 Try.prog (za3 pls nG) 6 [oy l,.int .i64 b] zbk fun v _=>v=.bool true:=by
 have hw:Plain (za3 pls nG) 6:=zcB (fun _=>rfl) rfl;obtain⟨hq,Z,O,zbM,w2,h1,h2,h3,h4,h5,h6⟩:=zws (v:=zdt 0 (zbD b 4)) (a:=zdt 1 (zbD b 4)) (f:=zdt 2 (zbD b 4)) hL;have hpo:jW (zdt 0 (zbD b 4)) (zdt 1 (zbD b 4)) (zdt 2 (zbD b 4)) (zbd l)=nF ⟨zbd l,zbD b 4⟩:=rfl;rw[hpo]at hq h2;have hlw:=ZU hL;generalize hus:(⟨jU (l.take 60),[Z,O]⟩:Un)=u at *;generalize hvs:(⟨(jU (l.take 60)).map (iS (zdt 1 (zbD b 4))),[{Z with name:=zbM},{O with name:=w2}]⟩:Un)=u2 at *;have C:u.funcs=[Z,O]:=by rw[<-hus]
 have J:u2.funcs=[{Z with name:=zbM},{O with name:=w2}]:=by rw[<-hvs]
 have kp:∀H,za9 Try.prog (za3 pls nG) 14 [oy l] H fun v H'=>v=.agg (zbd l).cells/\H'=H:=fun H=>zcz (enc:=fun l=>[oy l]) (ok:=fun l=>l.length<2^63) (out:=fun l=>.agg (zbd l).cells) (fun x y h=>zmV j5) (x:=l) rfl hl;have kk:∀H,za9 Try.prog (za3 pls nG) 9 [.int .i64 b,.int .i64 4] H fun v H'=>v=.int .i64 (zbD b 4)/\H'=H:=fun H=>zcz (enc:=nA) (ok:=fun x=>x.2≠0) (out:=fun x=>.int .i64 (zbD x.1 x.2)) CV (x:=(b,4)) rfl (by show(4:Int)≠0;omega);have kr:∀H,za9 Try.prog (za3 pls nG) 18 [.agg (zbd l).cells,.int .i64 (zbD b 4)] H fun v H'=>v=.agg (nF ⟨zbd l,zbD b 4⟩).cells/\H'=H:=fun H=>zcz (enc:=sX) (ok:=fun y=>y.p.sz<2^36) (out:=fun y=>.agg (nF y).cells) zwy (x:=⟨zbd l,zbD b 4⟩) rfl (by have:=Dx l;show(zbd l).sz<2^36;omega);have kl:∀H,za9 Try.prog (za3 pls nG) 15 [.agg (zbd l).cells] H fun v H'=>v=.tup [.agg u.cells,.int .i64 0]/\H'=H:=fun H=>by
  have:za9 Try.prog (za3 pls nG) 15 [.agg (zbd l).cells] H fun v H'=>v=.tup [.agg (jm (zbd l)).1.cells,.int .i64 (jm (zbd l)).2]/\H'=H:=zcz (enc:=fc) (ok:=LwOk) (out:=fun p=>.tup [.agg (jm p).1.cells,.int .i64 (jm p).2]) p6 (x:=zbd l) rfl hlw;rw[h1]at this;exact this
 have kl2:∀H,za9 Try.prog (za3 pls nG) 15 [.agg (nF ⟨zbd l,zbD b 4⟩).cells] H fun v H'=>v=.tup [.agg u2.cells,.int .i64 0]/\H'=H:=fun H=>by
  have:za9 Try.prog (za3 pls nG) 15 [.agg (nF ⟨zbd l,zbD b 4⟩).cells] H fun v H'=>v=.tup [.agg (jm (nF ⟨zbd l,zbD b 4⟩)).1.cells,.int .i64 (jm (nF ⟨zbd l,zbD b 4⟩)).2]/\H'=H:=zcz (enc:=fc) (ok:=LwOk) (out:=fun p=>.tup [.agg (jm p).1.cells,.int .i64 (jm p).2]) p6 (x:=nF ⟨zbd l,zbD b 4⟩) rfl hq;rw[h2]at this;exact this
 have ks:∀U:List Nd,vM U->∀H,za9 Try.prog (za3 pls nG) 19 [oX U,oX U] H fun v H'=>v=.bool true/\H'=H:=fun U hn H=>zcz (enc:=sZ) (ok:=vM) (out:=fun _=>.bool true) zsR (x:=U) rfl hn;have hl1:u.funcs.length=2:=by rw[C];rfl
 have hl2:u2.funcs.length=2:=by rw[J];rfl
 have hat:∀i,i<2->∃(zbT n2:List UInt8) (V:Int) (U:List Nd) (L st:Int),u.funcs[i]?=some ⟨zbT,V,U,L,st⟩/\u2.funcs[i]?=some ⟨n2,V,U,L,st⟩/\vM U:=fun i hi=>by
  rw[C,J]
  match i,hi with
  |0,_=>exact⟨Z.name,zbM,Z.params,Z.nodes,Z.value,Z.state,rfl,rfl,ac,fun n hn=>by have:=h5 n hn;omega⟩
  |1,_=>exact⟨O.name,w2,O.params,O.nodes,O.value,O.state,rfl,rfl,ac,fun n hn=>by have:=h6 n hn;omega⟩
 clear C J h1 h2 hus hvs hlw hq h3 h4 h5 h6 hpo;generalize nF ⟨zbd l,zbD b 4⟩=q at *;generalize zbd l=p at *;generalize zbD b 4=b2 at *;refine zbs (M:=98) (rs:=[.tmp 4]) (hw.call _) hw.ice hw.froz Try.func6 rfl rfl LF.2 rfl ?_;dsimp only[LF,zbj,Nat.reduceAdd];have gh0:=@xr0;have gh1:=@xr1;repeat' (first
  |(apply ai ?_;clear hK K)|apply Ry.o ?_|apply dD ?_|(apply jb ?_;first|refine zbV (kp _) ?_|refine zbV (kk _) ?_|refine zbV (kr _) ?_|refine zbV (kl _) ?_|refine zbV (kl2 _) ?_)|(apply kT (fun I Y=>?_) (fun I Y=>?_)<;>try(cases I;done))|(apply bi (fun o z=>?_) (fun o z=>?_)<;>try(cases o;done))|apply aq ?_|(apply zaW fun K hK=>?_)|(apply Ce 3 [0,1,4,2,3,5] [(0,3),(0,4),(2,3),(2,4),(2,5)] fun K hK=>?_)|(apply zbK ?_;try intro _)|(apply zcr ?_ ?_<;>clear hK K)|apply cr ?_|apply zcX rfl ?_|apply aO ?_|apply za8 ?_|fail)
 .exact zck
 refine zcj [6,9,48] [0,1,2,3] 49 u.funcs.length (fun i E H=>True) eE trivial ?_;rintro i E m hi hcE hrH j hsI hT;(try simp only[zbR,zbq,br,za4,zbg,Nat.reduceBEq, *]at hcE);(try simp only[zbR,zbq,br,za4,zbg,Nat.reduceBEq,Nat.reduceAdd, *]at hrH);(try simp only[zbb,zbl,zb4,b4,Nat.reduceAdd]at j);have hB0:(0 == m.next)=false:=zbn ac;have hC0:(m.next == 0)=false:=zbn ac;have hB1:(1 == m.next)=false:=zbn ac;have hC1:(m.next == 1)=false:=zbn ac;have hB2:(2 == m.next)=false:=zbn ac;have hC2:(m.next == 2)=false:=zbn ac;have hB3:(3 == m.next)=false:=zbn ac;have hC3:(m.next == 3)=false:=zbn ac;have n2:4<=m.next:=j
 by_cases hlt:i<u.funcs.length
 .have hlt':(i:Int)<((2:Nat):Int):=by omega
  obtain⟨zbT,g,V,U,L,st,gq,gQ,hns⟩:=hat i ac;have kq:=ks U hns;have c1:(Gr.mk zbT V U L st).cells=[.str zbT,.int .i64 V,oX U,.int .i64 L,.int .i64 st]:=rfl;have c2:(Gr.mk g V U L st).cells=[.str g,.int .i64 V,oX U,.int .i64 L,.int .i64 st]:=rfl;repeat' (first
   |(apply ai ?_;clear hK K)|apply Ry.o ?_|(apply jb ?_;first|refine zbV (kq _) ?_)|(apply bi (fun o z=>?_) (fun o z=>?_)<;>try(cases o;done))|apply aq ?_|(apply zaW fun K hK=>?_)|(apply zcy 10 [(1,12),(5,12),(7,12),(11,12),(16,44),(20,44),(22,44),(26,44),(31,44),(35,44),(37,44),(41,44)] fun K hK=>?_)|(apply zbK ?_;try intro _)|(apply zcr ?_ ?_<;>clear hK K)|apply cr ?_|(apply Ry.gt (fun I Y=>?_) (fun I Y=>?_)<;>try(cases I;done))|apply aO ?_|apply za8 ?_|fail)
  all_goals first|exact zck|skip
  refine⟨ac,zbw,zbw,eN,(by simp only[za4,Nat.reduceBEq, *];exact zc7 (n:=u.funcs.length) ac ac),?_⟩;trivial
 .have hlt':¬(i:Int)<((2:Nat):Int):=by omega
  repeat' (first
   |(apply ai ?_;clear hK K)|apply Ry.o ?_|(apply jb ?_;first|refine zbV (zaP _) ?_)|(apply bi (fun o z=>?_) (fun o z=>?_)<;>try(cases o;done))|apply aq ?_|(apply zaW fun K hK=>?_)|apply aN ?_|apply zbW ?_)
  all_goals (refine⟨za2,_,za7,?_⟩;try simp only[za0])
theorem con(l:List Int)(b:Int)(K:l.length<2^63)(g:fQ l):cn Try.prog (fun _=>0) 6 [oy l,.int .i64 b] (.bool true):=
 zda fit (pls:=pls) (zwz _) (.cons (LD l) (.cons (.int _ _) .nil)) (.bool _) (law l b K g)
set_option maxRecDepth 100000 in
theorem zaT{H:Type}{enc:TypeId×Value->H}(W:World)(J:Value){r:Reach}{i:Nat}(k0:Value.okWide Try.prog W r i 23 J){d:DataW H}{ps:List MemPlace}{j:Nat->Bool}{M:Bool}(Z:DataW.Trod enc Try.prog W 0 j M 23 J d ps)(C:Int):
 Calls Try.prog 6 #[J,.int .i64 C] W fun e Y=>e=.returned (.bool true)/\Below W.heap.size W Y:=by
 obtain⟨l,V,K,hr⟩:=zoa k0 Z;exact EX (ρ:=fun _=>0) (F:=wS W) (con l C K hr) (zwx W) (mX V (mX (.int .i64 C) (nK _)))
set_option maxRecDepth 100000 in
theorem zaU(I:Os)(z:I.Started)(H:Type)(enc:TypeId×Value->H):
 ReturnsInHanded {} Try.checked I 6 .any (Rows.lowerRenamingSpec.pre6 enc Try.prog Try.f6 Rows.lowerRenamingRow.domain false) (Rows.lowerRenamingSpec.post enc Try.prog Try.f6 false true false false):=by
 refine returnsInHanded_of_change (C:=Try.checked) own z ah Try.func6
  (ChangeSpec.witness6 (enc:=enc) (C:=Try.checked) false ⟨#[],#[.slice none 0 0,.int .i64 0],[]⟩ 8 ah ah ah ah) ?_
 intro W K Y ds gs Z L m i _;have U:∀(j:Nat) t v,Try.f6.params[j]?=some t->Y[j]?=some v->Value.okWide Try.prog W .any K t v:=L;have g:=m;obtain⟨p,q,O,hV,rfl,hfz,hnd⟩:=m;have hA:DataW.TrodAll enc Try.prog W 0 (fun _=>true) true Try.f6.params.toList Y.toList ds p:=O;rw[Try.params6]at hA U;obtain⟨J,vs0,d0,ds0,p0,q0,M,rfl,rfl,h0,zbf⟩:=trodAll_cons hA;obtain⟨v1,vs1,d1,ds1,p1,q1,rfl,rfl,rfl,h1,r1⟩:=trodAll_cons zbf;obtain⟨rfl,rfl,rfl⟩:=trodAll_nil r1;obtain rfl:Y=#[J,v1]:=by cases Y;simp_all
 obtain⟨rfl,rfl⟩:=trodVars_none hV;have k0:=U 0 23 J rfl rfl;obtain⟨a1,rfl,rfl,rfl,zbM⟩:=open_int Try.underlying3 (U 1 3 v1 rfl rfl) h1;clear O L;refine(zaT W J k0 h0 a1).mono fun e W' ⟨he,o⟩=>?_;subst he;exact⟨_,rfl,M9 (pv:=[]) g (fun _ _ _=>(DS (shut_bool Try.underlying4 _) trodAll_mk0)) (fun sp V=>(DS (zqo ah ah (oT ah) h0 o (fun p hp=>g.lt p hp) (fun x hx=>by simp[hx]) V) (DS (shut_int Try.underlying3 zbM) trodAll_mk0))) (fun _ _=>rfl) aw o (ok_one ah rfl (okWide_bool_mk Try.underlying4 _))⟩
theorem over:Rows.lowerRenamingRow.holds Try.pinned (OpenSpec.ofChange Rows.lowerRenamingSpec):=
 OpenClaim.holds_of_wide 6 Try.f6 rfl rfl rfl rfl rfl rfl rfl ⟨rfl,rfl,rfl,rfl,rfl⟩ rfl rfl rfl rfl rfl ah Try.func6 ah
  (oT ah) (by unfold Func.isWrapper;first|(rw[aj (by decide +kernel)];kernel_rfl)|(rw[af (by decide +kernel)];exact⟨rfl,rfl⟩))
  (fun L z H enc _=>zaU L z H enc)
theorem proved:Rows.LowerRenamingSaid:=
 over
#print axioms proved
end Go.Proofs.Ytpbcimfiofmoeaa.lowerRenaming
