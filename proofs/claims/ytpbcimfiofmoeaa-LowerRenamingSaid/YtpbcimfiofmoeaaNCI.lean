/- Parts: P4e, V5, SemT, SemV, SpecL, LoK, SpecM, RenA, SpecN, SpecT, Rg, G1, G2, G2r. -/
import Derived.Test.YtpbcimfiofmoeaaNCH
set_option linter.unusedSimpArgs false
set_option linter.unusedVariables false
set_option linter.unusedSectionVars false
set_option linter.defProp false
set_option maxHeartbeats 32000000
namespace Go.Ab
set_option maxRecDepth 20000
open Go
theorem cN{P:Prop}(h:P:=by rfl):P:=h
theorem vO{P:Prop}(h:P:=by simp at o;omega):P:=h
theorem vP{P:Prop}(h:P:=by rw[<- C];rfl):P:=h
theorem f0{P:Prop}(h:P:=by simp only[zbl,zbb];omega):P:=h
theorem oZ{P:Prop}(h:P:=by cases x;rfl):P:=h
theorem yU{P:Prop}(h:P:=by rw[J.s];decide):P:=h
theorem fo{P:Prop}(h:P:=by first|rfl|trivial):P:=h
theorem p9{P:Prop}(h:P:=by rw[Hp.get_set,if_neg j]):P:=h
theorem CD{P:Prop}(h:P:=by rw[Hp.get_set,if_pos rfl];rfl):P:=h
theorem Hu{P:Prop}(h:P:=by rw[List.drop_zero,List.length_take];omega):P:=h
theorem Hv{P:Prop}(h:P:=by rw[List.flatten_append,List.length_append];omega):P:=h
theorem tN{P:Prop}(h:P:=by rw[zaY,if_pos cN];rfl):P:=h
theorem CE{P:Prop}(h:P:=by simp only[za4,Nat.reduceBEq, *];exact zc7 (n:=Z.length) ac ac):P:=h
theorem CF{P:Prop}(h:P:=by rw[Hp.get_set,if_pos cN]):P:=h
theorem Hw{P:Prop}(h:P:=by simp only[za4,Nat.reduceBEq, *];exact zc7 (n:=x.length) ac ac):P:=h
theorem Hx{P:Prop}(h:P:=by rw[<- C,zaY,if_neg f0,Hp.get_set,if_neg ac,zaY,if_neg ac]):P:=h
theorem yV{P:Prop}(h:P:=by simp only[za4,Nat.reduceBEq, *];exact zc7 (n:=p.arrays.length) ac ac):P:=h
theorem qZ{P:Prop}(h:P:=by simp only[za4,Nat.reduceBEq, *];exact zc7 (n:=p.funcs.length) ac ac):P:=h
def qc:=@Bool.not_eq_false'
def og:=@List.drop_length
def sC:=@List.mem_singleton
def vQ:=@Bool.or_true
def vR:=@Go.IntKind.wrap_u8
def Hy:=@Int.fdiv_eq_ediv_of_nonneg
def vT:=@Go.IntKind.wrap_u64
def vU:=@List.prefix_refl
def sD:=@Nat.lt_of_le_of_lt
def kz:=@List.length_set
def tO:=@List.any_map
def cU:=@Option.bind_some
def HA:=@List.not_mem_nil
def VV:=@or_false
def o0:=@List.map_nil
def sE:=@Int.tmod_lt_of_pos
def vV:=@Prod.ext
def fq:=And.intro @dx.{0,0} @az.{0}
def kW:=And.intro @r8 @qc
def VW:=And.intro @fz.{0} @HA.{0}
def lJ:=And.intro VW @VV
end Go.Ab
namespace Go.Proofs.Ytpbcimfiofmoeaa
set_option maxRecDepth 20000
open Go Go.Ab
section
def tyP4e.tyF:=ad @cQ (ad @cW (ad @kQ (ad @ly (ad @gI (ad @gJ (ad @eK (ad @dX (ad @lA (ad @B7 (ad @oM (ad @B6 (@VK))))))))))))
open tyP4e
noncomputable def HC:{c:SC // aD 28 (Try.f82.body.getD .skip)=c}:=by
 refine⟨?_,?_⟩;rotate_left
 .simp only[Try.f82,bP,aD,zby,zbt,zbA,zbB,Nat.blt,Nat.ble];rfl
noncomputable def HD:{c:SC // aD 38 (Try.f81.body.getD .skip)=c}:=by
 refine⟨?_,?_⟩;rotate_left
 .simp only[Try.f81,bP,aD,zby,zbt,zbA,zbB,Nat.blt,Nat.ble];rfl
noncomputable def HE:{c:SC // aD 35 (Try.f45.body.getD .skip)=c}:=by
 refine⟨?_,?_⟩;rotate_left
 .simp only[Try.f45,bP,aD,zby,zbt,zbA,zbB,Nat.blt,Nat.ble];rfl
def ft(l:List (List UInt8)):List (AV×AV):=l.map fun s=>(.str s,.bool true)
def rb(l:List (List UInt8))(s:List UInt8):List (List UInt8):=if zbx l s=true then l else l++[s]
theorem vW(s:List UInt8):∀(l:List (List UInt8)) (i:Nat),(zbx l s=false->zcx .string (.str s) (ft l) i=some none)/\(zbx l s=true->∃j,zcx .string (.str s) (ft l) i=some (some (i+j,.bool true))/\(ft l).set j (.str s,.bool true)=ft l)
 |[],i=>⟨fun _=>rfl,fun h=>by simp[zbx]at h⟩
 |a::l,i=>by
  have O:zbx (a::l) s=(decide (s=a)||zbx l s):=by rw[show a::l=[a]++l from rfl,zdE,p7]
  by_cases h:s=a
  .subst h;rw[O,lD rfl,nQ];refine⟨fun h=>j6,fun _=>⟨0,?_,?_⟩⟩
   .simp[ft,zcx,mL]
   .simp[ft]
  .have hf:zcx .string (.str s) (ft (a::l)) i=zcx .string (.str s) (ft l) (i+1):=by
    show zcx .string (.str s) ((.str a,.bool true)::ft l) i=_;have:(s == a)=false:=j5;simp[zcx,mL,this]
   rw[O,mp h,jv,hf];obtain⟨Z,Y⟩:=vW s l (i+1);refine⟨Z,fun q=>?_⟩;obtain⟨j,V,m⟩:=Y q;exact⟨j+1,by rw[V,show i+1+j=i+(j+1) by omega],by show(AV.str a,AV.bool true)::(ft l).set j _=_;rw[m];rfl⟩
theorem tP{H:Hp}{r:Nat}{l:List (List UInt8)}(C:H.get r=some (.map (ft l)))(s:List UInt8):jd Try.prog H 140 (.map r) (.str s) false=some (.bool (zbx l s)):=by
 obtain⟨l1,Y⟩:=Hf (P:=Try.prog) (H:=H) (t:=140) (nm:=s) (z:=.bool false) Try.underlying140 ah ah C;cases h:zbx l s with
 |false=>rw[l1 ((vW s l 0).1 h)]
 |true=>obtain⟨j,i,g⟩:=(vW s l 0).2 h;rw[Y _ _ i]
theorem HF{H:Hp}{r:Nat}{l:List (List UInt8)}(C:H.get r=some (.map (ft l)))(s:List UInt8):zdu Try.prog H 140 (.map r) (.str s) (.bool true)=some (H.set r (.map (ft (rb l s)))):=by
 obtain⟨l1,Y⟩:=Cw (P:=Try.prog) (H:=H) (t:=140) (nm:=s) (x:=.bool true) Try.underlying140 ah C;cases h:zbx l s with
 |false=>rw[l1 ((vW s l 0).1 h),rb,h];simp[ft]
 |true=>obtain⟨j,i,g⟩:=(vW s l 0).2 h;rw[Y _ _ i,b4,g,rb,aj h]
def pd(x:List (List (List UInt8))):List AV:=[.lst (x.map fun l=>[zbP l])]
theorem VX(x y:List (List (List UInt8)))(h:pd x=pd y):x=y:=by
 simp only[pd,ez,AV.lst.injEq,br]at h;exact nh (fun a _ b e=>by simp only[ez,AV.lst.injEq,br]at e;exact yw e) h
def yW(x:List (List (List UInt8))):Prop:=x.length<2^60/\∀l∈x,l.length<2^60
theorem VY(x:List (List (List UInt8))):eL (.lst (x.map fun l=>[zbP l])):=.map fun l _=>.cons (vG l) .nil
theorem VZ(ρ:Nat->Int)(x:List (List (List UInt8)))(hx:yW x):cn Try.prog ρ 82 (pd x) (.bool (zb0 [] x.flatten)):=zda fit (pls:=pls) (l:=[]) trivial (.cons (VY x) .nil) (.bool _) (by
 have hw:=zc4 82;obtain⟨hx1,C⟩:=hx;rw[pd];refine zbs (M:=28) (rs:=[.tmp 2]) (hw.call _) hw.ice hw.froz Try.func82 rfl rfl HC.2 rfl ?_;dsimp only[HC,zbj,Nat.reduceAdd];repeat' (first
  |(apply ai ?_;clear hK K)|apply Rx.o ?_|apply aq ?_|(apply zaW fun K hK=>?_)|apply aO ?_|fail)
 refine zcj [3,9,10] [] 11 x.length (fun i E H=>∃seen,H.get 0=some (.map (ft seen))/\zb0 [] x.flatten=zb0 seen (x.drop i).flatten) eE ⟨[],tN,rfl⟩ ?_;rintro i E H2 hi g O L m ⟨seen,I,V⟩;(try simp only[zbR,zbq,br,za4,zbg,Nat.reduceBEq, *]at g);(try simp only[zbq,zbg, *]at O);(try simp only[zbb,zb4,b4]at L);repeat' (first
  |(apply ai ?_;clear hK K)|apply Rx.o ?_|(apply bu (fun o z=>?_) (fun o z=>?_)<;>try(cases o;done))|apply aq ?_|(apply zaW fun K hK=>?_)|apply aO ?_|apply za8 ?_|apply aN ?_|apply zbW ?_)
 .have J:i<x.length:=by simpa using o
  have hgx:x[i]?=some x[i]:=aY J;have hsm:=C _ (dW J);have Y:(x.drop i).flatten=x[i]++(x.drop (i+1)).flatten:=by rw[hP J,pH]
  rw[Y]at V;clear Y;generalize x[i]=Z at *;repeat' (first
   |(apply ai ?_;clear hK K)|apply Rx.o ?_|apply aq ?_|(apply zaW fun K hK=>?_)|apply aO ?_|fail)
  refine zcj [3,9,10,11,15,16] [] 17 Z.length (fun j E H=>∃seen,H.get 0=some (.map (ft seen))/\zb0 [] x.flatten=zb0 seen (Z.drop j++(x.drop (i+1)).flatten)) eE ⟨seen,I,V⟩ ?_;clear I V seen;rintro j E3 H3 hj g O L m ⟨seen,I,V⟩;(try simp only[zbR,zbq,br,za4,zbg,Nat.reduceBEq, *]at g);(try simp only[zbq, *]at O);(try simp only[zbb,zbl,zb4,b4,Nat.reduceAdd]at L);repeat' (first
   |(apply ai ?_;clear hK K)|apply Rx.o ?_|(apply bu (fun o z=>?_) (fun o z=>?_)<;>try(cases o;done))|apply aq ?_|(apply zaW fun K hK=>?_)|apply aO ?_|apply za8 ?_|apply zbW ?_)
  .have U:j<Z.length:=by simpa using o
   have hgx2:Z[j]?=some Z[j]:=aY U;have Y:zb0 seen (Z.drop j++(x.drop (i+1)).flatten)=(zbx seen Z[j]||zb0 (seen++[Z[j]]) (Z.drop (j+1)++(x.drop (i+1)).flatten)):=by rw[hP U];rfl
   have hlk:=tP I Z[j];have hup:=HF I Z[j];repeat' (first
    |(apply ai ?_;clear hK K)|apply Rx.o ?_|apply bN ?_|(apply bu (fun o z=>?_) (fun o z=>?_)<;>try(cases o;done))|apply aq ?_|(apply zaW fun K hK=>?_)|apply za8 ?_|apply aN ?_|fail)
   .all_goals (refine⟨za2,_,za7,?_⟩;try simp only[za0])
    rw[V,Y];(try simp only[kW]at *);simp only[*,nQ,]
   .refine⟨ac,zbw,zbw,eN,CE,?_⟩;refine⟨rb seen Z[j],CF,?_⟩;rw[V,Y,rb];(try simp only[kW]at *);simp only[*,jv,];rfl
  .have hje:j=Z.length:=by simp at o;omega
   repeat' (first
    |(apply ai ?_;clear hK K)|fail)
   refine⟨ac,zbw,zbw,eN,Hw,?_⟩;exact⟨seen,I,by rw[V,hje,og,oD]⟩
 .all_goals (refine⟨za2,_,za7,?_⟩;try simp only[za0])
  have hie:i=x.length:=vO;rw[V,hie,og];rfl)
def rc(l:List (List UInt8)):AV:=if l=[]then .nilS else zbP l
def pe(H:Hp)(v:AV)(l:List (List UInt8))(lo:Nat):Prop:=(v=.nilS/\l=[])\/(l≠[]/\nn H v l lo)
theorem pe.n{H:Hp}{v:AV}{l:List (List UInt8)}{lo:Nat}(h:pe H v l lo):oU H v l lo:=h.imp id fun h=>h.2
theorem pe.keep{H H':Hp}{v:AV}{l:List (List UInt8)}{lo:Nat}(h:pe H v l lo)(U:H.next<=H'.next)(C:∀k,zbv v k->H'.get k=H.get k):pe H' v l lo:=h.imp id fun h=>⟨h.1,h.2.keep U C⟩
theorem HG(H:Hp)(n:Nat):∀l:List (List UInt8),iceL (iceV H (n+1)) (l.map .str)=some (l.map .str)
 |[]=>rfl
 |a::l=>by
  have:=HG H n l;have e:iceV H (n+1) (.str a)=some (.str a):=rfl;simp only[dN,iceL,e,this]
theorem pe.iceV{H:Hp}{v:AV}{l:List (List UInt8)}{lo:Nat}(h:pe H v l lo)(n:Nat):iceV H (n+2) v=some (rc l):=by
 rcases h with⟨rfl,rfl⟩|⟨J,r,L,rfl,g,_⟩
 .rfl
 .have e:Ab.iceV H (n+2) (.sl r 0 l.length 1)=match H.get r with
   |some (.cells Z _ _)=>match iceL (Ab.iceV H (n+1)) ((Z.drop 0).take (l.length*1))with
    |some j=>if j.length=l.length*1 then some (.lst (iz 1 l.length j))else none
    |none=>none
   |_=>none:=rfl
  rw[e,g];simp only[fT,nN];rw[eI aw,HG];simp only[cD,cZ,Vg];rw[rc,af J]
theorem HH(n:Nat)(l:List (List UInt8)):dE (n+2) (rc l)=zbP l:=by
 unfold rc;split
 .rename_i h;subst h;rfl
 .show AV.lst ((l.map fun s=>[AV.str s]).map fun K=>K.map (dE (n+1)))=_;rw[ja];rfl
set_option maxRecDepth 100000 in
theorem V0(ρ:Nat->Int)(p:Pr)(hz:p.sz<2^36):cn Try.prog ρ 81 (fc p) (.tup [zbP (zbF p),zbP (zcC p)]):=GK (n:=3) (Cf (r:=.tup [rc (zbF p),rc (zcC p)]) (m:=3) (cfg:=za3 pls []) fit (pL ρ) (fun f args r h=>by simp[za3,zcu]at h) (.cons (.agg p.pure) .nil) (by
 have hw:=zc4 81;have V:(za3 pls []).keep 81=false:=rfl;have hpz:p.sz=1+zcU p.arrays+fV p.funcs:=rfl;have hla:=qP p.arrays;have hlf:=qO p.funcs;rw[fc];refine zbs (M:=38) (rs:=[.tmp 2,.tmp 3]) (hw.call _) hw.ice hw.froz Try.func81 rfl rfl HD.2 rfl ?_;dsimp only[HD,zbj,Nat.reduceAdd];repeat' (first
  |(apply ai ?_;clear hK K)|apply Rx.o ?_|apply aq ?_|(apply zaW fun K hK=>?_)|apply aO ?_|fail)
 refine zcj [1,2,3,5,11,12] [0] 13 p.arrays.length (fun i E H=>∃v,E.at 4=v/\pe H v ((zbF p).take i) 1) eE ⟨.nilS,eE,.inl ⟨rfl,rfl⟩⟩ ?_;rintro i E O hi g Z hnH hsI ⟨v,k4,hv⟩;(try simp only[zbR,zbq,br,za4,zbg,Nat.reduceBEq, *]at g);(try simp only[zbR,zbq,br,za4,zbg, *]at Z);(try simp only[zbb,zb4,b4]at hnH);have hB0:(0 == O.next)=false:=zbn ac;have hC0:(O.next == 0)=false:=zbn ac;repeat' (first
  |(apply ai ?_;clear hK K)|apply Rx.o ?_|(apply bu (fun o z=>?_) (fun o z=>?_)<;>try(cases o;done))|apply aq ?_|(apply zaW fun K hK=>?_)|apply aO ?_|apply za8 ?_|apply zbW ?_)
 .have hlt:i<p.arrays.length:=by simpa using o
  have hgx:p.arrays[i]?=some p.arrays[i]:=aY hlt;have Y:(zbF p).take (i+1)=(zbF p).take i++[p.arrays[i].name]:=by rw[zbF,kI,gl,hgx];rfl
  repeat' (first
   |(apply ai ?_;clear hK K)|apply Rx.o ?_|apply bN ?_|(apply zaW fun K hK=>?_)|fail)
  generalize C:Hp.alloc (Hp.set _ _ _) _=U;have nb:U.next=O.next+2:=vP
  have L:∀k,k<O.next->U.get k=O.get k:=fun k j=>Hx
  have gb:U.get (O.next+1)=some (.cells [.str p.arrays[i].name] 0 true):=by rw[<-C,zaY,aj cN]
  clear C;have hvb:oU U v ((zbF p).take i) 1:=hv.n.keep ac fun k j=>L k (hv.n.lt j).2;obtain⟨v5,H5,a5,s5,n5,f5,o5⟩:=GJ (r:=O.next+1) (imm:=0) p.arrays[i].name hvb ac gb cc;have n5':U.next<=H5.next:=ac
  clear n5;have g50:H5.get 0=some (.cells p.cells 0 true):=by rw[f5 0 ac,L 0 ac];exact Z
  refine qL eV eV (by rw[V];exact a5) ?_;repeat' (first
   |(apply ai ?_;clear hK K)|apply Rx.o ?_|(apply zaW fun K hK=>?_)|fail)
  refine⟨ac,zbw,zbw,eN,yV,?_⟩;exact⟨v5,eE,.inr ⟨vc,by rw[Y];exact s5⟩⟩
 .have hie:i=p.arrays.length:=by simp at o;omega
  have J:(zbF p).take i=zbF p:=eI (by simp[zbF];omega);rw[J]at hv;clear J hie hsI hi;repeat' (first
   |(apply ai ?_;clear hK K)|fail)
  have c3:∀k,zbv v k->k<O.next:=fun k j=>(hv.n.lt j).2
  refine zcj [2,3,4,24,25] [0] 26 p.funcs.length (fun i E H=>∃u,E.at 5=u/\pe H u ((zcC p).take i) O.next/\pe H v (zbF p) 1) eE ⟨.nilS,eE,.inl ⟨rfl,rfl⟩,hv⟩ ?_;rintro i E I hi g Z hnH hsI ⟨u,k5,hu,hv3⟩;(try simp only[zbR,zbq,br,za4,zbg,Nat.reduceBEq, *]at g);(try simp only[zbR,zbq,br, *]at Z);(try simp only[zbb,zbl,zb4,b4,Nat.reduceAdd]at hnH);have hB0:(0 == I.next)=false:=zbn ac;have hC0:(I.next == 0)=false:=zbn ac;repeat' (first
   |(apply ai ?_;clear hK K)|apply Rx.o ?_|(apply bu (fun o z=>?_) (fun o z=>?_)<;>try(cases o;done))|apply aq ?_|(apply zaW fun K hK=>?_)|apply aO ?_|apply za8 ?_|apply aN ?_|apply zbW ?_)
  .have hlt:i<p.funcs.length:=by simpa using o
   have hgx:p.funcs[i]?=some p.funcs[i]:=aY hlt;have Y:(zcC p).take (i+1)=(zcC p).take i++[p.funcs[i].name]:=by rw[zcC,kI,gl,hgx];rfl
   repeat' (first
    |(apply ai ?_;clear hK K)|apply Rx.o ?_|apply bN ?_|(apply zaW fun K hK=>?_)|fail)
   generalize C:Hp.alloc (Hp.set _ _ _) _=U;have nb:U.next=I.next+2:=vP
   have L:∀k,k<I.next->U.get k=I.get k:=fun k j=>Hx
   have gb:U.get (I.next+1)=some (.cells [.str p.funcs[i].name] 0 true):=by rw[<-C,zaY,aj cN]
   clear C;have hub:oU U u ((zcC p).take i) O.next:=hu.n.keep ac fun k j=>L k (hu.n.lt j).2
   obtain⟨v5,H5,a5,s5,n5,f5,o5⟩:=GJ (r:=I.next+1) (imm:=0) p.funcs[i].name hub ac gb cc;have n5':U.next<=H5.next:=ac
   clear n5;have g50:H5.get 0=some (.cells p.cells 0 true):=by rw[f5 0 ac,L 0 ac];exact Z
   refine qL eV eV (by rw[V];exact a5) ?_;repeat' (first
    |(apply ai ?_;clear hK K)|apply Rx.o ?_|(apply zaW fun K hK=>?_)|fail)
   refine⟨ac,zbw,zbw,eN,qZ,?_⟩;exact⟨v5,eE,.inr ⟨vc,by rw[Y];exact s5⟩,hv3.keep ac fun k j=>by rw[f5 k (c3 k j),L k (by have:=c3 k j;omega)]⟩
  .have hie:i=p.funcs.length:=by simp at o;omega
   have J:(zcC p).take i=zcC p:=eI (by simp[zcC];omega);rw[J]at hu;repeat' (first
    |(apply ai ?_;clear hK K)|fail)
   all_goals (refine⟨za2,_,za7,?_⟩;try simp only[za0])
   have e1:=hv3.iceV (n:=0);have e2:=hu.iceV (n:=0);show(match iceL (iceV I 2) [v,u]with|some ds=>some (AV.tup ds)|none=>none)=_;simp only[iceL,e1,e2])) (by
 show AV.tup [dE 2 (rc (zbF p)),dE 2 (rc (zcC p))]=_;rw[HH,HH])
noncomputable def CG:En:=⟨81,false,dA (fun p=>p.sz<2^36) fc fun p=>.tup [zbP (zbF p),zbP (zcC p)]⟩
theorem HI(ρ:Nat->Int):fk Try.prog ρ CG:=zcQ fun p hp=>V0 ρ p hp
noncomputable def CH:En:=⟨82,true,dA yW pd fun x=>.bool (zb0 [] x.flatten)⟩
theorem V3(ρ:Nat->Int):fk Try.prog ρ CH:=zcQ fun x I=>VZ ρ x I
theorem HJ(x:List (List (List UInt8))):(x.map fun l=>[zbP l]).flatten=x.map zbP:=by
 induction x with
 |nil=>rfl
 |cons a l ih=>simp[ih]
theorem V4{H:Hp}{r imm:Nat}{x:List (List (List UInt8))}(C:H.get r=some (.cells (x.map zbP) imm true))(hr:r<H.next)(Z:imm<=x.length):
 ∃H',kG (iY 100) [.sl r 0 x.length 1] H=some (pd x,H')/\Icy (fun k=>k=r) H H':=by
 refine zbS.iceL (S:=fun k=>k=r) (n:=100) (m:=pd x) ⟨?_,trivial⟩;have h:=zbS.rows (S:=fun k=>k=r) (n:=99) (H:=H) (r:=r) (z:=1) (imm:=imm) (tip:=true) (a:=x.map fun l=>[zbP l]) (b:=x.map fun l=>[zbP l]) rfl hr (by rw[HJ];exact C) (by rw[HJ];simpa using Z) aw (cY.refl fun a ha=>cY.refl fun c hc=>by
  obtain⟨l,_,rfl⟩:=kJ.1 ha;rw[sC]at hc;subst hc;exact zbS.flat ⟨vG l,trivial⟩)
 rw[cD]at h;exact h
theorem CI{l:List En}(K:∀L,zcu l 82 L=CH.sp L)(z:lB l 82=true){H:Hp}{r imm:Nat}{x:List (List (List UInt8))}(C:H.get r=some (.cells (x.map zbP) imm true))(hr:r<H.next)(j:imm<=x.length)(I:yW x):
 za9 Try.prog (za3 pls l) 82 [.sl r 0 x.length 1] H fun v H'=>v=.bool (zb0 [] x.flatten)/\Icy (fun k=>k=r) H H':=by
 obtain⟨H',i,g⟩:=V4 C hr j;refine aI ?_ (U7 (enc:=pd) (out:=fun x=>.bool (zb0 [] x.flatten)) VX (x:=x) K z I (H':=H') (fun y _ e=>by simp[pd]at e) i);rintro v _ ⟨rfl,rfl⟩;exact⟨rfl,g⟩
theorem CJ(H:Hp)(a:List (List AV)):zcv Try.prog H 167 1 [(0,.lst a)]=some (.sl H.next 0 1 1,H.alloc (.cells [.lst a] 0 true)):=ah
theorem V7(H:Hp)(a b:List (List AV)):zcv Try.prog H 167 2 [(0,.lst a),(1,.lst b)]=some (.sl H.next 0 2 1,H.alloc (.cells [.lst a,.lst b] 0 true)):=ah
theorem V8(H:Hp)(a b c:List (List AV)):zcv Try.prog H 167 3 [(0,.lst a),(1,.lst b),(2,.lst c)]=some (.sl H.next 0 3 1,H.alloc (.cells [.lst a,.lst b,.lst c] 0 true)):=ah
noncomputable def CK:List En:=[CG,CH]
theorem V9(ρ:Nat->Int):jc Try.prog ρ CK:=⟨HI ρ,V3 ρ,trivial⟩
set_option maxRecDepth 100000 in
theorem Wa(ρ:Nat->Int)(p:Pr)(hz:p.sz<2^36):cn Try.prog ρ 45 (fc p) (.bool (nr p)):=zda fit (pls:=pls) (V9 ρ) (.cons (.agg p.pure) .nil) (.bool _) (by
 have I:Plain (za3 pls CK) 45:=zcB (fun _=>rfl) rfl;have kd:∀H,za9 Try.prog (za3 pls CK) 81 [.agg p.cells] H fun v H'=>v=.tup [zbP (zbF p),zbP (zcC p)]/\H'=H:=fun H=>zcz (enc:=fc) (out:=fun p=>.tup [zbP (zbF p),zbP (zcC p)]) p6 (x:=p) rfl hz;have hpz:p.sz=1+zcU p.arrays+fV p.funcs:=rfl;have hla:=qP p.arrays;have hlf:=qO p.funcs;have hal:(zbF p).length=p.arrays.length:=by simp[zbF]
 have hfl:(zcC p).length=p.funcs.length:=by simp[zcC]
 have hx0:∀a b,Ab.extract (.tup [a,b]) 0=some a:=fun _ _=>rfl;have hx1:∀a b,Ab.extract (.tup [a,b]) 1=some b:=fun _ _=>rfl;rw[fc];refine zbs (M:=35) (rs:=[.tmp 2]) (I.call _) I.ice I.froz Try.func45 rfl rfl HE.2 rfl ?_;dsimp only[HE,zbj,Nat.reduceAdd];have U:=@CJ;repeat' (first
  |(apply ai ?_;clear hK K)|apply Rx.o ?_|(apply mn ?_;first|refine zbV (kd _) ?_)|apply aq ?_|(apply zaW fun K hK=>?_)|fail)
 refine aK rfl aL aM ?_;simp only[aR];refine aI ?_ (CI (x:=[zbF p]) (imm:=0) (fun _=>rfl) rfl tN (cJ _) aw ⟨aw,cc⟩);rintro v H2 ⟨rfl,Z⟩;have n2:=Z.next
 simp only[zbb,zb4]at n2;have C:H2.get 0=some (.cells p.cells 0 true):=by rw[Z.out 0 aw,zaY,af aw,zaY,aj cN]
 have n2':2<=H2.next:=ac
 clear Z n2;rw[show([zbF p]:List (List (List UInt8))).flatten=zbF p by simp];dsimp only[za1];have U:=@CJ;repeat' (first
  |(apply ai ?_;clear hK K)|apply Rx.o ?_|(apply da (fun hg J=>?_) (fun hg J=>?_)<;>try(cases hg;done))|(apply bu (fun o z=>?_) (fun o z=>?_)<;>try(cases o;done))|apply aq ?_|(apply zaW fun K hK=>?_)|apply aN ?_|fail)
 .refine aK rfl aL aM ?_;simp only[aR];refine aI ?_ (CI (x:=[zcC p]) (imm:=0) (fun _=>rfl) rfl tN (cJ _) aw ⟨aw,cc⟩);rintro v H3 ⟨rfl,Z⟩;have n3:=Z.next
  simp only[zbb]at n3;have g30:H3.get 0=some (.cells p.cells 0 true):=by rw[Z.out 0 ac,zaY,af ac];exact C
  have n3':2<=H3.next:=ac
  clear Z n3;rw[show([zcC p]:List (List (List UInt8))).flatten=zcC p by simp];dsimp only[za1];repeat' (first
   |(apply ai ?_;clear hK K)|apply Rx.o ?_|(apply bu (fun o z=>?_) (fun o z=>?_)<;>try(cases o;done))|apply aq ?_|(apply zaW fun K hK=>?_)|apply aO ?_|apply za8 ?_|apply aN ?_|fail)
  .all_goals (refine⟨za2,_,za7,?_⟩;try simp only[za0])
   rw[nr];(try simp only[kW]at *);simp only[*,nQ,vQ,]
  .refine zcj [3,21,22] [0] 23 p.funcs.length (fun i E H=>(p.funcs.any fun f=>zb0 [] (zbF p++(f.params++f.locals)))=((p.funcs.drop i).any fun f=>zb0 [] (zbF p++(f.params++f.locals)))) eE aw ?_;rintro i E m hi g V j hsI L;(try simp only[zbR,zbq,br,za4,zbg,Nat.reduceBEq, *]at g);(try simp only[zbR,zbq,br, *]at V);(try simp only[zbb,zbl,zb4,b4,Nat.reduceAdd]at j);have hB0:(0 == m.next)=false:=zbn ac;have hC0:(m.next == 0)=false:=zbn ac;repeat' (first
    |(apply ai ?_;clear hK K)|apply Rx.o ?_|(apply bu (fun o z=>?_) (fun o z=>?_)<;>try(cases o;done))|apply aq ?_|(apply zaW fun K hK=>?_)|apply aO ?_|apply za8 ?_|apply aN ?_|apply zbW ?_)
   .have Y:i<p.funcs.length:=by simpa using o
    have hgx:p.funcs[i]?=some p.funcs[i]:=aY Y;have hsm:=qQ (dW Y);have hsz:p.funcs[i].sz=1+p.funcs[i].name.length+zco p.funcs[i].params+zco p.funcs[i].locals+zbC p.funcs[i].body+p.funcs[i].value.sz:=rfl;have hpl:=zdI p.funcs[i].params;have hll:=zdI p.funcs[i].locals;have O:((p.funcs.drop i).any fun f=>zb0 [] (zbF p++(f.params++f.locals)))=(zb0 [] (zbF p++(p.funcs[i].params++p.funcs[i].locals))||((p.funcs.drop (i+1)).any fun f=>zb0 [] (zbF p++(f.params++f.locals)))):=by rw[hP Y,pY]
    have U:=@V8;repeat' (first
     |(apply ai ?_;clear hK K)|apply Rx.o ?_|apply bN ?_|apply aq ?_|(apply zaW fun K hK=>?_)|fail)
    refine aK rfl aL aM ?_;simp only[aR];refine aI ?_ (CI (x:=[zbF p,p.funcs[i].params,p.funcs[i].locals]) (imm:=0) (fun _=>rfl) rfl tN (cJ _) aw ⟨aw,cc⟩);rintro v H5 ⟨rfl,Z⟩;have n5:=Z.next
    simp only[zbb,zbl]at n5;have g50:H5.get 0=some (.cells p.cells 0 true):=by rw[Z.out 0 (by intro e;change (0:Nat)=_ at e;(try simp only[zbl,zbb]at e);omega),zaY,af (by(try simp only[zbl,zbb]);omega),aC,af ac,zaY,af ac];exact V
    have n5':m.next<=H5.next:=ac
    clear Z n5;rw[show([zbF p,p.funcs[i].params,p.funcs[i].locals]:List (List (List UInt8))).flatten=zbF p++(p.funcs[i].params++p.funcs[i].locals) by simp];dsimp only[za1];repeat' (first
     |(apply ai ?_;clear hK K)|apply Rx.o ?_|(apply bu (fun o z=>?_) (fun o z=>?_)<;>try(cases o;done))|apply aq ?_|(apply zaW fun K hK=>?_)|apply za8 ?_|apply aN ?_|fail)
    .all_goals (refine⟨za2,_,za7,?_⟩;try simp only[za0])
     rw[nr,L,O];(try simp only[kW]at *);simp only[*,kS,nQ,vQ,]
    .refine⟨ac,zbw,zbw,eN,qZ,?_⟩;rw[L,O];(try simp only[kW]at *);simp only[*,jv,]
   .all_goals (refine⟨za2,_,za7,?_⟩;try simp only[za0])
    have hie:i=p.funcs.length:=vO;rw[hie,og]at L;have hJ2:(p.funcs.any fun f=>zb0 [] (zbF p++(f.params++f.locals)))=false:=L;rw[nr,hJ2];(try simp only[kW]at *);simp only[*,kS,]
 .repeat' (first
   |(apply ai ?_;clear hK K)|fail)
  all_goals (refine⟨za2,_,za7,?_⟩;try simp only[za0])
  rw[nr];(try simp only[kW]at *);simp only[*,nQ,])
end
section
namespace tyV5
end tyV5
open tyV5
def kA(n:Nd):List UInt8:=qV (sw n)
end
section
theorem Wb{l:List Ex}{i:Nat}{k:Ex}(O:dZ l=true)(h:l[i]?=some k):eM k=true:=by
 induction l generalizing i with
 |nil=>simp at h
 |cons e j ih=>
  rw[dZ,bT]at O;cases i with
  |zero=>simp at h;subst h;exact O.1
  |succ i=>exact ih O.2 j5
theorem sF{z:Type}(l:List z){i:Nat}(h:i<l.length):∃k,l[i]?=some k:=⟨l[i],aY h⟩
section
variable (p:Pr) (fi:List (za5 × Int))
end
theorem HK(s:za5):∀(l:List Fu) (i:Nat) (m:List (za5×Int)),zbx (l.map (·.name)) s=false->dK (jh l i m) s=dK m s
 |[],_,m,_=>rfl
 |f::l,i,m,h=>by
  rw[dN,show f.name::l.map (·.name)=[f.name]++l.map (·.name)from rfl,zdE,p7,iC,kR]at h;rw[jh,HK s l _ _ h.2,sy,af h.1]
theorem HL(s:za5):∀(l:List Fu) (seen:List (List UInt8)) (i:Nat) (m:List (za5×Int)),zb0 seen (l.map (·.name))=false->0<=zbY l s i->dK (jh l i m) s=zbY l s i
 |[],_,i,m,_,h=>by simp[zbY]at h
 |f::l,seen,i,m,hn,h=>by
  rw[dN,zb0,iC]at hn;rw[zbY]at h⊢;by_cases e:f.name=s
  .have Z:zbx (l.map (·.name)) s=false:=yQ _ _ hn.2 s GF;rw[aj e,jh,HK s l _ _ Z,sy,aj e.symm]
  .rw[af e]at h⊢;rw[jh];exact HL s l (seen++[f.name]) (i+1) _ hn.2 h
structure Valid (p:Pr):Prop where
 ex:jP p=false
 wf:iP p=true
 du:n1 p=false
 un:p.funcs.any (ky p)=false
 ba:p.funcs.any (my p)=false
theorem Wc{p:Pr}(h:zc2 p=0):Valid p:=by
 rw[zc2]at h;by_cases i:jP p=true
 .rw[aj i]at h;omega
 rw[af i]at h;by_cases g:iP p=false
 .rw[aj g]at h;omega
 rw[af g]at h;by_cases m:n1 p=true
 .rw[aj m]at h;omega
 rw[af m]at h;by_cases L:p.funcs.any (ky p)=true
 .rw[aj L]at h;omega
 rw[af L]at h;by_cases o:p.funcs.any (my p)=true
 .rw[aj o]at h;omega
 exact⟨by simpa using i,rR,by simpa using m,by simpa using L,by simpa using o⟩
theorem Valid.names{p:Pr}(h:Valid p):zb0 [] (zbF p)=false/\zb0 [] (zcC p)=false:=by
 have hd:=h.du;rw[n1,yP,iC,iC]at hd;exact⟨hd.1,hd.2.1⟩
theorem CL:∀(l seen:List (List UInt8)),zb0 seen l=false->l.Nodup
 |[],_,_=>List.nodup_nil
 |s::l,seen,h=>by
  rw[zb0,iC]at h;refine List.nodup_cons.2 ⟨fun V=>?_,CL l _ h.2⟩;have:=yQ _ _ h.2 s (by rw[zdE,p7,lD rfl,vQ]);rw[zbx,uX]at this;exact this s V aw
theorem Valid.nodup{p:Pr}(h:Valid p):(p.arrays.map (·.name)).Nodup:=CL _ _ h.names.1
structure Bd where
 l:List Nd
 vars:List Int
 state:Int
 loops:Nat
structure Cx where
 arrays:List Ar
 funcs:List Fu
 names:List za5
def f4(l:List Nd)(n:Nd):Nat:=l.findIdx fun x=>decide (x=n)
def ji(l:List Nd)(n:Nd):List Nd:=if f4 l n<l.length then l else l++[n]
def zaX(n:Nd)(s:Bd):Int×Bd:=(f4 s.l n,{s with l:=ji s.l n})
def bS:List za5->za5->Nat
 |[],_=>0
 |a::l,s=>if a=s then 0 else if zbx l s=true then bS l s+1 else 0
def zbi(c a b:Int)(s:Bd):Int×Bd:=if a=b then (a,s)else zaX ⟨22,0,[c,a,b]⟩ s
def nu(Z v:Int)(s:Bd):Bd:=let r:=zaX ⟨27,Z,[s.state,v]⟩ s;{r.2 with state:=r.1}
def fd(len i:Int)(s:Bd):Bd:=
 let Z:=zaX ⟨1,len,[]⟩ s
 let g:=zaX ⟨19,0,[i,Z.1]⟩ Z.2
 nu 2 g.1 g.2
def mA(v:Int)(s:Bd):Bd:=
 let z:=zaX ⟨1,0,[]⟩ s
 let c:=zaX ⟨16,0,[v,z.1]⟩ z.2
 nu 1 c.1 c.2
def di(c:Cx):Nat->Ex->Bd->Option (Int×Bd)
 |0,_,_=>none
 |n+1,x,s=>
  if x.kind=1 then some (zaX ⟨1,x.n,[]⟩ s)
  else if x.kind=2 then (s.vars[bS c.names x.name]?).map fun v=>(v,s)
  else if x.kind=3 then
   (x.kids[0]?).bind fun k=>(di c n k s).bind fun r=>(c.arrays[bS (c.arrays.map (·.name)) x.name]?).bind fun a=>
     let M:=fd a.len r.1 r.2
     some (zaX ⟨23,bS (c.arrays.map (·.name)) x.name,[M.state,r.1]⟩ M)
  else if x.kind=5 then
   (x.kids[0]?).bind fun k0=>(di c n k0 s).bind fun zbf=>
   (x.kids[1]?).bind fun k1=>(di c n k1 zbf.2).bind fun Z=>
   (x.kids[2]?).bind fun m=>(di c n m {Z.2 with state:=zbf.2.state}).bind fun g=>
     let v:=zbi zbf.1 Z.1 g.1 g.2
     let t:=zbi zbf.1 Z.2.state v.2.state v.2
     some (v.1,{t.2 with state:=t.1})
  else
   (x.kids[0]?).bind fun k0=>(di c n k0 s).bind fun zbf=>
     if x.kids.length=1 then some (zaX ⟨x.op,0,[zbf.1]⟩ zbf.2)
     else (x.kids[1]?).bind fun k1=>(di c n k1 zbf.2).bind fun Z=>
      some (zaX ⟨x.op,0,[zbf.1,Z.1]⟩ (if x.op=7\/x.op=8 then mA Z.1 Z.2 else Z.2))
def jj(c:Cx)(n:Nat):List Ex->Bd->Option (List Int×Bd)
 |[],s=>some ([],s)
 |x::l,s=>(di c n x s).bind fun r=>(jj c n l r.2).bind fun g=>some (r.1::g.1,g.2)
def d6(I:List za5):Nat->List St->List Bool->Option (List Bool)
 |0,_,_=>none
 |n+1,l,b=>match l with
  |[]=>some b
  |x::l=>
   if (x.kind=1\/x.kind=6)/\b.length<=bS I x.name then none
   else (d6 I n x.thn (if x.kind=1\/x.kind=6 then b.set (bS I x.name) true else b)).bind fun V=>(d6 I n x.els V).bind fun Y=>d6 I n l Y
def zct(b:List Bool):List Nat:=(List.range b.length).filter fun i=>b.getD i false
def lK(c:Int)(a:List Int):Nat->Nat->Bd->Option Bd
 |0,_,s=>some s
 |k+1,i,s=>(a[i]?).bind fun x=>(s.vars[i]?).bind fun y=>
  let r:=zbi c x y s
  lK c a k (i+1) {r.2 with vars:=r.2.vars.set i r.1}
def ii(base:Int):List Nat->Nat->Bd->Bd
 |[],_,s=>s
 |w::ws,j,s=>let r:=zaX ⟨3,base+j,[]⟩ s;ii base ws (j+1) {r.2 with vars:=r.2.vars.set w r.1}
def gC(loop c:Int)(old:List Int):List Nat->Nat->Bd->Bd
 |[],_,s=>s
 |w::ws,j,s=>
  let f:=zaX ⟨25,j,[loop]⟩ s
  let m:=zbi c f.1 (old.getD w 0) f.2
  gC loop c old ws (j+1) {m.2 with vars:=m.2.vars.set w m.1}
section
variable (c:Cx)
mutual
def hB:Nat->St->Bd->Option Bd
 |0,_,_=>none
 |n+1,x,s=>
  if x.kind=1 then (di c n x.value s).bind fun r=>if bS c.names x.name<r.2.vars.length then some {r.2 with vars:=r.2.vars.set (bS c.names x.name) r.1}else none
  else if x.kind=2 then (di c n x.at_ s).bind fun i=>(di c n x.value i.2).bind fun v=>(c.arrays[bS (c.arrays.map (·.name)) x.name]?).bind fun a=>
   let M:=fd a.len i.1 v.2
   let r:=zaX ⟨28,bS (c.arrays.map (·.name)) x.name,[M.state,i.1,v.1]⟩ M
   some {r.2 with state:=r.1}
  else if x.kind=3 then (di c n x.value s).bind fun r=>(dR n x.thn r.2).bind fun a=>(dR n x.els {a with state:=r.2.state,vars:=r.2.vars}).bind fun b=>
   (lK r.1 a.vars b.vars.length 0 b).bind fun m=>
     let t:=zbi r.1 a.state m.state m
     some {t.2 with state:=t.1}
  else if x.kind=4 then ij n x s
  else if x.kind=5 then (di c n x.value s).bind fun v=>
   let r:=zaX ⟨29,0,[v.2.state,v.1]⟩ v.2
   some {r.2 with state:=r.1}
  else if x.kind=6 then (jj c n x.args s).bind fun U=>
   if 0<=zbY c.funcs x.to 0/\bS c.names x.name<U.2.vars.length then
    let r:=zaX ⟨30,zbY c.funcs x.to 0,U.2.state::U.1⟩ U.2
    let q:=zaX ⟨24,0,[r.1]⟩ {r.2 with state:=r.1}
    some {q.2 with vars:=q.2.vars.set (bS c.names x.name) q.1}
   else none
  else if x.kind=7 then let z:=zaX ⟨1,0,[]⟩ s;some (nu (b9 (16+x.n)) z.1 z.2)
  else some s
def dR:Nat->List St->Bd->Option Bd
 |0,_,_=>none
 |n+1,l,s=>match l with
  |[]=>some s
  |x::l=>(hB n x s).bind fun r=>dR n l r
def ij:Nat->St->Bd->Option Bd
 |0,_,_=>none
 |n+1,x,s=>(di c n x.value {s with loops:=s.loops+1}).bind fun r=>(d6 c.names n x.thn (List.replicate r.2.vars.length false)).bind fun b=>
  let p:=zaX ⟨3,16*(s.loops:Int),[]⟩ r.2
  (dR n x.thn (ii (16*(s.loops:Int)+1) (zct b) 0 {p.2 with state:=p.1})).bind fun t=>(di c n x.value t).bind fun d=>
    let k:=zaX ⟨31,s.loops,r.2.state::((zct b).map fun i=>r.2.vars.getD i 0)++[d.1,d.2.state]++((zct b).map fun i=>d.2.vars.getD i 0)⟩ d.2
    let f:=zaX ⟨25,0,[k.1]⟩ {k.2 with vars:=r.2.vars}
    let m:=zbi r.1 f.1 r.2.state f.2
    some (gC k.1 r.1 r.2.vars (zct b) 1 {m.2 with state:=m.1})
end
end
def gL:Nat->Nat->Bd->Bd
 |0,_,s=>s
 |n+1,k,s=>let r:=zaX ⟨2,k,[]⟩ s;gL n (k+1) {r.2 with vars:=r.2.vars++[r.1] }
def jR:Nat->Bd->Bd
 |0,s=>s
 |n+1,s=>let r:=zaX ⟨1,0,[]⟩ s;jR n {r.2 with vars:=r.2.vars++[r.1] }
def zc3(f:Fu):Bd:=let e:=zaX ⟨26,0,[]⟩ ⟨[],[],0,0⟩;jR f.locals.length (gL f.params.length 0 {e.2 with state:=e.1})
def ik(p:Pr)(f:Fu):Cx:=⟨p.arrays,p.funcs,f.params++f.locals⟩
def il(p:Pr)(n:Nat)(f:Fu):Option Gr:=(dR (ik p f) n f.body (zc3 f)).bind fun s=>(di (ik p f) n f.value s).bind fun v=>some ⟨f.name,f.params.length,v.2.l,v.1,v.2.state⟩
def kX(p:Pr)(n:Nat):List Fu->List Gr->Option (Un×Int)
 |[],gs=>some (⟨p.arrays,gs⟩,0)
 |f::l,gs=>(il p n f).bind fun g=>if (2000:Int)<g.nodes.length then some (⟨[],[]⟩,6)else kX p n l (gs++[g])
def qd(p:Pr)(n:Nat):Option (Un×Int):=if zc2 p=0 then kX p n p.funcs []else some (⟨[],[]⟩,zc2 p)
structure NdR (n:Nd):Prop where
 op:0<=n.op/\n.op<256
 imm:-9223372036854775808<=n.imm/\n.imm<9223372036854775808
 kids:∀k∈n.kids,0<=k/\k<2^60
 len:n.kids.length<2^30
theorem HM(n:Int):kV n 0=n%256:=by
 rw[kV,vR];simp[Int.fdiv_one]
theorem HN(n:Int)(i:Nat):kV n (i+1)=kV (n/256) i:=by
 rw[kV,kV];have e:(2:Int)^ (8*(i+1))=256*2^ (8*i):=by
  rw[Nat.mul_add,Int.pow_add];omega
 have p:(0:Int)<=2^ (8*i):=Int.le_of_lt (Int.pow_pos aS);rw[e,Hy _ ac,Hy _ p,Int.ediv_ediv_of_nonneg aS]
theorem Wd(n:Int)(i:Nat):0<=kV n i/\kV n i<256:=by
 rw[kV,vR];omega
theorem HO:∀(k:Nat) (n m:Int),0<=n->n<256^ k->0<=m->m<256^ k->(∀i,i<k->kV n i=kV m i)->n=m
 |0,n,m,h1,h2,h3,h4,_=>by simp at h2 h4;omega
 |k+1,n,m,h1,h2,h3,h4,h=>by
  have e:(256:Int)^ (k+1)=256*256^ k:=by rw[Int.pow_succ];omega
  rw[e]at h2 h4;have J:=h 0 ac;rw[HM,HM]at J;have ih:=HO k (n/256) (m/256) ac (by generalize (256:Int)^ k=P at *;omega) ac (by generalize (256:Int)^ k=P at *;omega) (fun i z=>by rw[<-HN,<-HN];exact h (i+1) ac);omega
theorem HP:∀{l m:List Int},(∀x∈l,0<=x/\x<256)->(∀x∈m,0<=x/\x<256)->qV l=qV m->l=m
 |[],[],_,_,_=>rfl
 |[],_::_,_,_,h=>by simp[qV]at h
 |_::_,[],_,_,h=>by simp[qV]at h
 |a::l,b::m,hl,hm,h=>by
  simp only[qV,dN,ez]at h;have i:=hl a eQ;have g:=hm b eQ;have e:a=b:=by
   have:=ju UInt8.toNat h.1;rw[UInt8.toNat_ofNat',UInt8.toNat_ofNat']at this;omega
  rw[e,HP (fun x I=>hl x (fH _ I)) (fun x I=>hm x (fH _ I)) h.2]
theorem HQ(n:Int)(k:Nat):∀x∈jV n k,0<=x/\x<256:=fun x I=>by
 obtain⟨i,_,rfl⟩:=kJ.1 I;exact Wd n i
theorem HR(n:Nd):∀x∈sw n,0<=x/\x<256:=fun x I=>by
 rw[sw,fz,pJ,Bg]at I;rcases I with rfl|I|⟨k,_,I⟩
 .rw[vR];omega
 .exact HQ _ _ x I
 .exact HQ _ _ x I
theorem HS{n m:Int}(h1:0<=n)(h2:n<18446744073709551616)(Z:0<=m)(L:m<18446744073709551616)(h:jV n 8=jV m 8):n=m:=
 HO 8 n m h1 ac Z ac fun i z=>List.map_inj_left.1 h i (nP.2 z)
theorem re(n:Int):0<=IntKind.wrap .u64 n/\IntKind.wrap .u64 n<18446744073709551616:=by rw[vT];omega
theorem HT:∀{L ms:List Int},(∀k∈L,0<=k/\k<2^60)->(∀k∈ms,0<=k/\k<2^60)->(L.flatMap fun k=>jV (IntKind.wrap .u64 k) 8)=(ms.flatMap fun k=>jV (IntKind.wrap .u64 k) 8)->L=ms
 |[],[],_,_,_=>rfl
 |[],m::ms,_,_,h=>by
  have:=ju List.length h;rw[sn,fy,pZ]at this;simp at this;omega
 |k::L,[],_,_,h=>by
  have:=ju List.length h;rw[sn,fy,pZ]at this;simp at this
 |k::L,m::ms,hk,hm,h=>by
  rw[sn,sn]at h;obtain⟨i,g⟩:=List.append_inj h (by rw[pZ,pZ]);have e:=HS (re k).1 (re k).2 (re m).1 (re m).2 i;have Z:=hk k eQ;have z:=hm m eQ;rw[vT,vT]at e;have C:k=m:=ac;rw[C,HT (fun x I=>hk x (fH _ I)) (fun x I=>hm x (fH _ I)) g]
theorem We{a b:Nd}(O:NdR a)(o:NdR b)(h:kA a=kA b):a=b:=by
 have h:=HP (HR a) (HR b) h;rw[sw,sw,ez]at h;obtain⟨i,g⟩:=h;obtain⟨m,L⟩:=List.append_inj g (by rw[pZ,pZ]);have J:=HS (re _).1 (re _).2 (re _).1 (re _).2 m;have C:=HT O.kids o.kids L;have I:=O.op;have z:=o.op;have j:=O.imm;have i2:=o.imm;rw[vR,vR]at i;rw[vT,vT]at J;obtain⟨Z,Y,M⟩:=a;obtain⟨U,V,K⟩:=b;simp only at *;rw[show Z=U by omega,show Y=V by omega,C]
theorem Wf(x:Nd)(l:List Nd)(n:Nd):f4 (x::l) n=if x=n then 0 else f4 l n+1:=by
 unfold f4;rw[List.findIdx_cons];by_cases h:x=n<;>simp[h]
theorem CM(l:List Nd)(n:Nd):f4 l n<=l.length:=by unfold f4;exact List.findIdx_le_length
theorem HU{l:List Nd}{n:Nd}:f4 l n<l.length↔n∈l:=by
 unfold f4;rw[List.findIdx_lt_length];simp
theorem HV{l:List Nd}{n:Nd}(h:f4 l n<l.length):l[f4 l n]?=some n:=by
 rw[aY h];have:=List.findIdx_getElem (p:=fun x=>decide (x=n)) (xs:=l) (w:=h);simp only[oG]at this;exact ju some this
theorem Wg(l:List Nd)(n:Nd):(ji l n).length=if f4 l n<l.length then l.length else l.length+1:=by
 unfold ji;split<;>simp[*]
theorem tQ(l:List Nd)(n:Nd):l<+:ji l n:=by
 unfold ji;split
 .exact vU l
 .exact List.prefix_append l [n]
theorem Wh(l:List Nd)(n:Nd):(ji l n)[f4 l n]?=some n:=by
 unfold ji;split
 .rename_i h;exact HV h
 .rename_i h;have:=CM l n;have e:f4 l n=l.length:=ac;rw[e,mS (aA _),qI];rfl
theorem yX{l:List Nd}{n x:Nd}:x∈ji l n↔x∈l\/x=n:=by
 unfold ji;split
 .rename_i h;have:=HU.1 h;constructor
  .exact .inl
  .rintro(h|rfl)
   .exact h
   .exact this
 .simp
def atV(l:List Nd)(i:Nat):List (za5×Int):=(l.zipIdx i).map fun p=>(kA p.1,(p.2:Int))
theorem Wi(x:Nd)(l:List Nd)(i:Nat):atV (x::l) i=(kA x,(i:Int))::atV l (i+1):=by rw[atV,List.zipIdx_cons];rfl
theorem HW{n:Nd}(U:NdR n):∀(l:List Nd) (i:Nat),(∀x∈l,NdR x)->fZ (atV l i) (kA n)=decide (f4 l n<l.length)/\(f4 l n<l.length->dK (atV l i) (kA n)=((i+f4 l n:Nat):Int))/\(¬f4 l n<l.length->∀x,setV (atV l i) (kA n) x=atV l i++[(kA n,x)])
 |[],i,_=>⟨rfl,fun h=>by simp[f4]at h,fun _ x=>rfl⟩
 |x::l,i,hl=>by
  obtain⟨Z,g,m⟩:=HW U l (i+1) fun y o=>hl y (fH _ o)
  rw[Wf,Wi,cS];by_cases e:x=n
  .subst e;refine⟨by simp[fZ],fun _=>by simp[dK],fun h=>j6⟩
  .have j:¬kA n=kA x:=fun h=>e (We U (hl x eQ) h).symm;rw[af e];refine⟨?_,fun h=>?_,fun h y=>?_⟩
   .simp only[fZ,j];rw[Z];simp
   .have:=g ac;simp only[dK,j,de];rw[this];congr 1;omega
   .have:=m ac y;simp only[setV,j,de,this,nX]
theorem Wj(l:List Nd)(n:Nd):atV l 0++[(kA n,(l.length:Int))]=atV (l++[n]) 0:=by
 simp[atV,List.zipIdx_append]
structure zcc (a b:Bd):Prop where
 l:a.l<+:b.l
 n:a.loops<=b.loops
theorem zcc.refl(a:Bd):zcc a a:=⟨vU _,aA _⟩
def ny:=@zcc.refl
theorem zcc.trans{a b c:Bd}(h:zcc a b)(k:zcc b c):zcc a c:=⟨h.l.trans k.l,cm h.n k.n⟩
def yY:=@zcc.trans
structure Fin (s:Bd):Prop where
 r:∀x∈s.l,NdR x
 l:s.l.length<2^36
 n:s.loops<2^36
theorem Fin.le{a b:Bd}(h:Fin b)(k:zcc a b):Fin a:=⟨fun x I=>h.r x (k.l.subset I),sD k.l.length_le h.l,sD k.n h.n⟩
structure Lv (a b:Bd):Prop where
 le:zcc a b
 v:b.vars=a.vars
 n:b.loops=a.loops
theorem Lv.refl(a:Bd):Lv a a:=⟨ny a,rfl,rfl⟩
theorem Lv.trans{a b c:Bd}(h:Lv a b)(k:Lv b c):Lv a c:=⟨h.le.trans k.le,k.v.trans h.v,k.n.trans h.n⟩
theorem Lv.setS{a b:Bd}(h:Lv a b)(x:Int):Lv a {b with state:=x}:=⟨⟨h.le.l,h.le.n⟩,h.v,h.n⟩
theorem zcc.setS{a b:Bd}(h:zcc a b)(x:Int):zcc a {b with state:=x}:=⟨h.l,h.n⟩
theorem zcc.setV{a b:Bd}(h:zcc a b)(x:List Int):zcc a {b with vars:=x}:=⟨h.l,h.n⟩
theorem zb8(n:Nd)(s:Bd):Lv s (zaX n s).2:=⟨⟨tQ s.l n,aA _⟩,rfl,rfl⟩
theorem zcR(c a b:Int)(s:Bd):Lv s (zbi c a b s).2:=by
 unfold zbi;split
 .exact Lv.refl s
 .exact zb8 _ s
theorem rh(t v:Int)(s:Bd):Lv s (nu t v s):=(zb8 _ s).setS _
theorem sG(t v:Int)(s:Bd):Lv s (fd t v s):=(zb8 _ s).trans ((zb8 _ _).trans (rh _ _ _))
theorem CN(v:Int)(s:Bd):Lv s (mA v s):=(zb8 _ s).trans ((zb8 _ _).trans (rh _ _ _))
theorem zci(c:Cx):∀(n:Nat) (x:Ex) (s:Bd) (r:Int×Bd),di c n x s=some r->Lv s r.2
 |0,_,_,_,h=>by simp[di]at h
 |n+1,x,s,r,h=>by
  have I:=zci c n;unfold di at h;split at h
  .cases h;exact zb8 _ s
  split at h
  .obtain⟨v,_,rfl⟩:=oE.1 h;exact Lv.refl s
  split at h
  .simp only[fq]at h;obtain⟨k,_,Z,i,a,_,rfl⟩:=h;exact(I _ _ _ i).trans ((sG _ _ _).trans (zb8 _ _))
  split at h
  .simp only[fq]at h;obtain⟨k0,_,zbf,J,k1,_,Z,i,m,_,Y,g,rfl⟩:=h;have a:=(I _ _ _ J).trans (I _ _ _ i);have b:=(a.setS zbf.2.state).trans (I _ _ _ g);exact(b.trans ((zcR _ _ _ _).trans (zcR _ _ _ _))).setS _
  .simp only[dx]at h;obtain⟨k0,_,zbf,J,h⟩:=h;have a:=I _ _ _ J;split at h
   .cases h;exact a.trans (zb8 _ _)
   .simp only[fq]at h;obtain⟨k1,_,Z,i,rfl⟩:=h;have b:=a.trans (I _ _ _ i);refine Lv.trans ?_ (zb8 _ _);split
    .exact b.trans (CN _ _)
    .exact b
theorem sH(c:Cx)(n:Nat):∀(l:List Ex) (s:Bd) (r:List Int×Bd),jj c n l s=some r->Lv s r.2/\r.1.length=l.length
 |[],s,r,h=>by cases h;exact⟨Lv.refl s,rfl⟩
 |x::l,s,r,h=>by
  unfold jj at h;simp only[fq]at h;obtain⟨Z,i,Y,g,rfl⟩:=h;obtain⟨a,b⟩:=sH c n l _ _ g;exact⟨(zci c n _ _ _ i).trans a,by simp[b]⟩
theorem tR(c:Int)(a:List Int):∀(k i:Nat) (s r:Bd),lK c a k i s=some r->zcc s r/\r.state=s.state/\r.vars.length=s.vars.length/\r.loops=s.loops
 |0,i,s,r,h=>by cases h;exact⟨ny s,rfl,rfl,rfl⟩
 |k+1,i,s,r,h=>by
  unfold lK at h;simp only[dx]at h;obtain⟨x,_,y,_,h⟩:=h;have e:=tR c a k (i+1) _ _ h;have m:=zcR c x y s;have J:(zbi c x y s).2.state=s.state:=by unfold zbi;split<;>rfl
  refine⟨(m.le.setV _).trans e.1,e.2.1.trans J,?_,e.2.2.2.trans m.n⟩;rw[e.2.2.1,kz,m.v]
theorem qe(base:Int):∀(O:List Nat) (j:Nat) (s:Bd),zcc s (ii base O j s)/\(ii base O j s).state=s.state/\(ii base O j s).vars.length=s.vars.length/\(ii base O j s).loops=s.loops
 |[],j,s=>⟨ny s,rfl,rfl,rfl⟩
 |w::O,j,s=>by
  unfold ii;have e:=qe base O (j+1) { (zaX ⟨3,base+j,[]⟩ s).2 with vars:=(zaX ⟨3,base+j,[]⟩ s).2.vars.set w (zaX ⟨3,base+j,[]⟩ s).1};refine⟨((zb8 _ s).le.setV _).trans e.1,e.2.1,?_,e.2.2.2⟩;rw[e.2.2.1,kz];rfl
theorem sI(lp c:Int)(old:List Int):∀(O:List Nat) (j:Nat) (s:Bd),zcc s (gC lp c old O j s)/\(gC lp c old O j s).state=s.state/\(gC lp c old O j s).vars.length=s.vars.length/\(gC lp c old O j s).loops=s.loops
 |[],j,s=>⟨ny s,rfl,rfl,rfl⟩
 |w::O,j,s=>by
  unfold gC;simp only[];have m:=(zb8 ⟨25,j,[lp]⟩ s).trans (zcR c (zaX ⟨25,j,[lp]⟩ s).1 (old.getD w 0) (zaX ⟨25,j,[lp]⟩ s).2);have J:(zbi c (zaX ⟨25,j,[lp]⟩ s).1 (old.getD w 0) (zaX ⟨25,j,[lp]⟩ s).2).2.state=s.state:=by unfold zbi;split<;>rfl
  generalize zbi c (zaX ⟨25,j,[lp]⟩ s).1 (old.getD w 0) (zaX ⟨25,j,[lp]⟩ s).2=q at *;have e:=sI lp c old O (j+1) {q.2 with vars:=q.2.vars.set w q.1};refine⟨(m.le.setV _).trans e.1,e.2.1.trans J,?_,e.2.2.2.trans m.n⟩;rw[e.2.2.1,kz,m.v]
theorem lL(c:Cx):∀n:Nat,(∀x s r,hB c n x s=some r->zcc s r/\r.vars.length=s.vars.length)/\(∀l s r,dR c n l s=some r->zcc s r/\r.vars.length=s.vars.length)/\(∀x s r,ij c n x s=some r->zcc s r/\r.vars.length=s.vars.length)
 |0=>⟨fun _ _ _ h=>by simp[hB]at h,fun _ _ _ h=>by simp[dR]at h,fun _ _ _ h=>by simp[ij]at h⟩
 |n+1=>by
  obtain⟨I,V,z⟩:=lL c n;refine⟨fun x s r h=>?_,fun l s r h=>?_,fun x s r h=>?_⟩
  .unfold hB at h;split at h
   .simp only[dx]at h;obtain⟨v,Z,h⟩:=h;split at h
    .cases h;have a:=zci c n _ _ _ Z;exact⟨a.le.setV _,by rw[kz,a.v]⟩
    .cases h
   split at h
   .simp only[fq]at h;obtain⟨i,Z,v,g,a,_,rfl⟩:=h;have a:=(zci c n _ _ _ Z).trans ((zci c n _ _ _ g).trans ((sG a.len i.1 v.2).trans (zb8 ⟨28,bS (c.arrays.map (·.name)) x.name,[(fd a.len i.1 v.2).state,i.1,v.1]⟩ _)));exact⟨a.le.setS _,by show List.length (Bd.vars _)=_;rw[a.v]⟩
   split at h
   .simp only[fq]at h;obtain⟨q,Z,a,g,b,U,m,o,rfl⟩:=h;have Y:=zci c n _ _ _ Z;have M:=V _ _ _ g;have J:=V _ _ _ U;have C:=tR _ _ _ _ _ _ o;have K:=zcR q.1 a.state m.state m;have k:zcc a b:=⟨J.1.l,J.1.n⟩;refine⟨(Y.le.trans (M.1.trans (k.trans (C.1.trans K.le)))).setS _,?_⟩;show(zbi q.1 a.state m.state m).2.vars.length=_;rw[K.v,C.2.2.1,J.2];show q.2.vars.length=_;rw[Y.v]
   split at h
   .exact z _ _ _ h
   split at h
   .simp only[fq]at h;obtain⟨v,Z,rfl⟩:=h;have a:=(zci c n _ _ _ Z).trans (zb8 ⟨29,0,[v.2.state,v.1]⟩ v.2);exact⟨a.le.setS _,by show List.length (Bd.vars _)=_;rw[a.v]⟩
   split at h
   .simp only[dx]at h;obtain⟨O,Z,h⟩:=h;split at h
    .cases h;have a:=(sH c n _ _ _ Z).1;have b:=a.le.trans (zb8 ⟨30,zbY c.funcs x.to 0,O.2.state::O.1⟩ O.2).le;refine⟨zcc.setV (yY (b.setS _) (zb8 _ _).le) _,?_⟩;rw[kz];exact ju List.length a.v
    .cases h
   split at h
   .cases h;have a:=(zb8 ⟨1,0,[]⟩ s).trans (rh (b9 (16+x.n)) (zaX ⟨1,0,[]⟩ s).1 _);exact⟨a.le,by rw[a.v]⟩
   .cases h;exact⟨ny s,rfl⟩
  .unfold dR at h;cases l with
   |nil=>cases h;exact⟨ny s,rfl⟩
   |cons x l=>
    simp only[dx]at h;obtain⟨q,Z,g⟩:=h;have a:=I _ _ _ Z;have b:=V _ _ _ g;exact⟨a.1.trans b.1,b.2.trans a.2⟩
  .unfold ij at h;simp only[fq]at h;obtain⟨q,Z,b,_,t,g,d,U,rfl⟩:=h;have Y:=zci c n _ _ _ Z;have L:zcc s q.2:=⟨Y.le.l,cm (dV _) Y.le.n⟩;have p:=zb8 ⟨3,16*(s.loops:Int),[]⟩ q.2;have M:=qe (16*(s.loops:Int)+1) (zct b) 0 { (zaX ⟨3,16*(s.loops:Int),[]⟩ q.2).2 with state:=(zaX ⟨3,16*(s.loops:Int),[]⟩ q.2).1};have J:=V _ _ _ g;have C:=zci c n _ _ _ U;have j:zcc s d.2:=L.trans ((p.le.setS _).trans (M.1.trans (J.1.trans C.le)));refine⟨?_,?_⟩
   .refine yY ?_ (sI _ _ _ _ _ _).1;refine zcc.setS ?_ _;refine yY (yY ?_ (zb8 _ _).le) (zcR _ _ _ _).le;refine zcc.setV ?_ _;exact j.trans (zb8 _ _).le
   .rw[(sI _ _ _ _ _ _).2.2.1];show(zbi _ _ _ _).2.vars.length=_;rw[(zcR _ _ _ _).v];show q.2.vars.length=_;rw[Y.v]
def rn(o:Bool)(s:za5):za5:=if o=true/\s≠[]then s++[95,48]else s
theorem CO(o:Bool){s t:za5}(h:rn o s=rn o t):s=t:=by
 unfold rn at h;by_cases Y:o=true
 .by_cases J:s=[]
  .by_cases M:t=[]
   .rw[J,M]
   .rw[af (fun c=>c.2 J),aj ⟨Y,M⟩]at h;have:=ju List.length h;simp[J]at this
  .by_cases M:t=[]
   .rw[aj ⟨Y,J⟩,af (fun c=>c.2 M)]at h;have:=ju List.length h;simp[M]at this
   .rw[aj ⟨Y,J⟩,aj ⟨Y,M⟩]at h;exact List.append_cancel_right h
 .rw[af (fun c=>Y c.1),af (fun c=>Y c.1)]at h;exact h
theorem Wk(o:Bool){s t:za5}:rn o s=rn o t↔s=t:=⟨CO o,fun h=>by rw[h]⟩
mutual
def zbc(v a:Bool):Ex->Ex
 | .mk k n M O z=>.mk k n (if k=2 then rn v M else if k=3 then rn a M else M) O (iR v a z)
def iR(v a:Bool):List Ex->List Ex
 |[]=>[]
 |x::l=>zbc v a x::iR v a l
end
theorem ri(v a:Bool):∀l,iR v a l=l.map (zbc v a)
 |[]=>rfl
 |x::l=>by rw[iR,ri v a l];rfl
theorem yZ(v a:Bool)(x:Ex):(zbc v a x).kind=x.kind:=oZ
theorem CP(v a:Bool)(x:Ex):(zbc v a x).n=x.n:=oZ
theorem CQ(v a:Bool)(x:Ex):(zbc v a x).op=x.op:=oZ
theorem y0(v a:Bool)(x:Ex):(zbc v a x).name=if x.kind=2 then rn v x.name else if x.kind=3 then rn a x.name else x.name:=oZ
theorem CR(v a:Bool)(x:Ex):(zbc v a x).kids=x.kids.map (zbc v a):=by cases x;rw[zbc];exact ri v a _
mutual
def zbr(v a f:Bool):St->St
 | .mk k M Z n I val Y V U=>.mk k (if k=2 then rn a M else rn v M) (rn f Z) n (zbc v a I) (zbc v a val) (iR v a Y) (zcJ v a f V) (zcJ v a f U)
def zcJ(v a f:Bool):List St->List St
 |[]=>[]
 |x::l=>zbr v a f x::zcJ v a f l
end
theorem zdy(v a f:Bool):∀l,zcJ v a f l=l.map (zbr v a f)
 |[]=>rfl
 |x::l=>by rw[zcJ,zdy v a f l];rfl
theorem vX(v a f:Bool)(x:St):(zbr v a f x).kind=x.kind:=oZ
theorem CS(v a f:Bool)(x:St):(zbr v a f x).n=x.n:=oZ
theorem qf(v a f:Bool)(x:St):(zbr v a f x).name=if x.kind=2 then rn a x.name else rn v x.name:=oZ
theorem vY(v a f:Bool)(x:St):(zbr v a f x).to=rn f x.to:=oZ
theorem y4(v a f:Bool)(x:St):(zbr v a f x).at_=zbc v a x.at_:=oZ
theorem y9(v a f:Bool)(x:St):(zbr v a f x).value=zbc v a x.value:=oZ
theorem vZ(v a f:Bool)(x:St):(zbr v a f x).args=x.args.map (zbc v a):=by cases x;rw[zbr];exact ri v a _
theorem za(v a f:Bool)(x:St):(zbr v a f x).thn=x.thn.map (zbr v a f):=by cases x;rw[zbr];exact zdy v a f _
theorem zb(v a f:Bool)(x:St):(zbr v a f x).els=x.els.map (zbr v a f):=by cases x;rw[zbr];exact zdy v a f _
def iS(a:Bool)(x:Ar):Ar:=⟨rn a x.name,x.len⟩
def zbQ(v a f:Bool)(x:Fu):Fu:=⟨rn f x.name,x.params.map (rn v),x.locals.map (rn v),x.body.map (zbr v a f),zbc v a x.value⟩
def jW(v a f:Bool)(p:Pr):Pr:=⟨p.arrays.map (iS a),p.funcs.map (zbQ v a f)⟩
def mC(v a f:Bool)(c:Cx):Cx:=⟨c.arrays.map (iS a),c.funcs.map (zbQ v a f),c.names.map (rn v)⟩
theorem wa{o:Bool}(l:List za5)(s:za5):zbx (l.map (rn o)) (rn o s)=zbx l s:=by
 unfold zbx;rw[tO]
 congr 1
 funext x
 show decide (rn o x=rn o s)=_;rw[decide_eq_decide];exact Wk o
theorem sJ{o:Bool}:∀(l:List za5) (s:za5),bS (l.map (rn o)) (rn o s)=bS l s
 |[],_=>rfl
 |a::l,s=>by
  rw[dN,bS,bS,wa,sJ l s];by_cases h:a=s
  .rw[aj h,aj (by rw[h])]
  .rw[af h,af (fun e=>h (CO o e))]
theorem zd{v a f:Bool}:∀(l:List Fu) (s:za5) (i:Int),zbY (l.map (zbQ v a f)) (rn f s) i=zbY l s i
 |[],_,_=>rfl
 |x::l,s,i=>by
  rw[dN,zbY,zbY,zd l s];show(if rn f x.name=rn f s then i else _)=_;by_cases h:x.name=s
  .rw[aj h,aj (by rw[h])]
  .rw[af h,af (fun e=>h (CO f e))]
theorem HX(v a f:Bool)(c:Cx):(mC v a f c).arrays.map (·.name)=(c.arrays.map (·.name)).map (rn a):=by
 show(c.arrays.map (iS a)).map _=_;rw[ja,ja];rfl
theorem ze{z β m:Type}(o:Option z)(f:z->β)(g:β->Option m):(o.map f).bind g=o.bind fun x=>g (f x):=by cases o<;>rfl
theorem zf(v a f:Bool)(c:Cx):∀(n:Nat) (x:Ex) (s:Bd),di (mC v a f c) n (zbc v a x) s=di c n x s
 |0,_,_=>rfl
 |n+1,x,s=>by
  have I:=zf v a f c n;have j:∀i:Nat,(x.kids.map (zbc v a))[i]?=(x.kids[i]?).map (zbc v a):=fun i=>gl;have M:(mC v a f c).names=c.names.map (rn v):=rfl;have ha:∀i:Nat,(mC v a f c).arrays[i]?=(c.arrays[i]?).map (iS a):=fun i=>gl;have K:∀y:Ar,(iS a y).len=y.len:=fun _=>rfl;unfold di;rw[yZ,CP,CQ,CR,y0,cD,j,j,j,HX];by_cases Z:x.kind=1
  .rw[aj Z,aj Z]
  rw[af Z,af Z];by_cases g:x.kind=2
  .rw[aj g,aj g,aj g,M,sJ]
  rw[af g,af g,af g];by_cases m:x.kind=3
  .simp only[aj m,sJ,ze,I,ha,K]
  rw[af m,af m];by_cases o:x.kind=5
  .simp only[aj o,ze,I]
  .simp only[af o,ze,I]
theorem HY(v a f:Bool)(c:Cx)(n:Nat):∀(l:List Ex) (s:Bd),jj (mC v a f c) n (l.map (zbc v a)) s=jj c n l s
 |[],_=>rfl
 |x::l,s=>by
  rw[dN,jj,jj,zf]
  congr 1
  funext r
  rw[HY v a f c n l]
theorem HZ(v a f:Bool)(I:List za5):∀(n:Nat) (l:List St) (b:List Bool),d6 (I.map (rn v)) n (l.map (zbr v a f)) b=d6 I n l b
 |0,_,_=>rfl
 |n+1,[],b=>rfl
 |n+1,x::l,b=>by
  have Z:=HZ v a f I n;rw[dN];unfold d6;simp only[];rw[vX,za,zb,qf];have z:(x.kind=1\/x.kind=6)->bS (I.map (rn v)) (if x.kind=2 then rn a x.name else rn v x.name)=bS I x.name:=fun h=>by
   rw[af ac,sJ]
  by_cases h:x.kind=1\/x.kind=6
  .rw[z h];simp only[aj h,Z]
  .simp only[af h,Z];rw[af (fun c=>h c.1),af (fun c=>h c.1)]
theorem H0(v a f:Bool)(c:Cx):∀n:Nat,(∀x s,hB (mC v a f c) n (zbr v a f x) s=hB c n x s)/\(∀l s,dR (mC v a f c) n (l.map (zbr v a f)) s=dR c n l s)/\(∀x s,x.kind=4->ij (mC v a f c) n (zbr v a f x) s=ij c n x s)
 |0=>⟨fun _ _=>rfl,fun _ _=>rfl,fun _ _ _=>rfl⟩
 |n+1=>by
  obtain⟨V,Z,U⟩:=H0 v a f c n;have E:=zf v a f c n;have o:=HY v a f c n;have M:(mC v a f c).names=c.names.map (rn v):=rfl;have z:(mC v a f c).funcs=c.funcs.map (zbQ v a f):=rfl;have ha:∀i:Nat,(mC v a f c).arrays[i]?=(c.arrays[i]?).map (iS a):=fun i=>gl;have K:∀y:Ar,(iS a y).len=y.len:=fun _=>rfl;refine⟨fun x s=>?_,fun l s=>?_,fun x s L=>?_⟩
  .unfold hB;rw[vX,za,zb,qf,y9,y4,vZ,vY,CS,HX];by_cases Y:x.kind=1
   .simp only[aj Y,af (show ¬x.kind=2 by omega),E,M,sJ]
   rw[af Y,af Y];by_cases g:x.kind=2
   .simp only[aj g,E,sJ,ze,ha,K]
   simp only[af g,E,o,Z,M,z,sJ,zd];by_cases L:x.kind=4
   .rw[U x s L]
   .simp only[af L]
  .cases l with
   |nil=>rfl
   |cons x l=>
    rw[dN];unfold dR;simp only[];rw[V]
    congr 1
    funext r
    rw[Z]
  .unfold ij;rw[za,y9,E]
   congr 1
   funext r
   simp only[M,HZ,Z,E]
theorem Ia(v a f:Bool)(p:Pr)(n:Nat)(F:Fu):il (jW v a f p) n (zbQ v a f F)=(il p n F).map fun g=>{g with name:=rn f F.name}:=by
 have hc:ik (jW v a f p) (zbQ v a f F)=mC v a f (ik p F):=by
  unfold ik mC jW zbQ;simp only[jJ]
 have J:zc3 (zbQ v a f F)=zc3 F:=by
  unfold zc3 zbQ;simp only[cD]
 have o:(zbQ v a f F).body=F.body.map (zbr v a f):=rfl;have M:(zbQ v a f F).value=zbc v a F.value:=rfl;have hn:(zbQ v a f F).name=rn f F.name:=rfl;have hp:(zbQ v a f F).params.length=F.params.length:=cD _;unfold il;rw[hc,J,o,M,hn,hp,(H0 v a f (ik p F) n).2.1];cases dR (ik p F) n F.body (zc3 F)with
 |none=>rfl
 |some s=>
  simp only[cU,zf];cases di (ik p F) n F.value s<;>rfl
theorem zg(b:List Bool)(k i:Nat):(b.set k true).getD i false=if k=i/\k<b.length then true else b.getD i false:=by
 rw[eR,nM,eR];by_cases e:k=i
 .subst e;by_cases h:k<b.length
  .simp[h]
  .simp[h]
 .simp[e]
theorem zh{I:List za5}{n:Nat}{x:St}{l:List St}{b Z:List Bool}(h:d6 I (n+1) (x::l) b=some Z):
 ∃K V Y,K=(if x.kind=1\/x.kind=6 then b.set (bS I x.name) true else b)/\(x.kind=1\/x.kind=6->bS I x.name<b.length)/\d6 I n x.thn K=some V/\d6 I n x.els V=some Y/\d6 I n l Y=some Z:=by
 unfold d6 at h;simp only[]at h;split at h
 .cases h
 .rename_i m;simp only[dx]at h;obtain⟨V,g,Y,U,L⟩:=h;refine⟨_,V,Y,rfl,fun j=>?_,g,U,L⟩;by_cases c:bS I x.name<b.length
  .exact c
  .exact absurd ⟨j,ac⟩ m
theorem qg(I:List za5):∀(n:Nat) (l:List St) (b Y:List Bool),d6 I n l b=some Y->∀i,Y.getD i false=false->b.getD i false=false
 |0,_,_,_,h,_,_=>by simp[d6]at h
 |n+1,[],b,Y,h,i,hi=>by cases h;exact hi
 |n+1,x::l,b,Y,h,i,hi=>by
  obtain⟨K,V,Z,e,j,g,m,L⟩:=zh h;have:=qg I n _ _ _ g i (qg I n _ _ _ m i (qg I n _ _ _ L i hi));rw[e]at this;split at this
  .rw[zg]at this;split at this
   .cases this
   .exact this
  .exact this
theorem zi(I:List za5):∀(n m:Nat) (l:List St) (b Y c c':List Bool),d6 I n l b=some Y->d6 I m l c=some c'->∀i,b.getD i false=false->c'.getD i false=false->Y.getD i false=false
 |0,_,_,_,_,_,_,h,_,_,_,_=>by simp[d6]at h
 |n+1,0,_,_,_,_,_,_,h,_,_,_=>by simp[d6]at h
 |n+1,m+1,[],b,Y,c,c',h,k,i,hb,hc=>by cases h;exact hb
 |n+1,m+1,x::l,b,Y,c,c',h,k,i,hb,hc=>by
  obtain⟨z,b2,b3,e,hk,g,o,h4⟩:=zh h;obtain⟨c1,c2,c3,e',Z,U,O,M⟩:=zh k;have K:=qg I m _ _ _ M i hc;have J:=qg I m _ _ _ O i K;have V:=qg I m _ _ _ U i J;have r1:z.getD i false=false:=by
   rw[e];split
   .rename_i j;rw[e',aj j,zg]at V;split at V
    .cases V
    .rename_i L;rw[zg,af (fun C=>L ⟨C.1,Z j⟩)];exact hb
   .exact hb
  exact zi I n m _ _ _ _ _ h4 M i (zi I n m _ _ _ _ _ o O i (zi I n m _ _ _ _ _ g U i r1 J) K) hc
def qh(I:List za5)(l:List St)(i:Nat):Prop:=∃m b Y,d6 I m l b=some Y/\Y.getD i false=false
theorem qh.cons{I:List za5}{x:St}{l:List St}{i:Nat}(h:qh I (x::l) i):(x.kind=1\/x.kind=6->i≠bS I x.name)/\qh I x.thn i/\qh I x.els i/\qh I l i:=by
 obtain⟨m,b,K,h,z⟩:=h;cases m with
 |zero=>simp[d6]at h
 |succ m=>
  obtain⟨J,C,o,e,M,g,Z,L⟩:=zh h;have U:=qg I m _ _ _ L i z;have Y:=qg I m _ _ _ Z i U;have V:=qg I m _ _ _ g i Y;refine⟨fun j O=>?_,⟨m,_,_,g,Y⟩,⟨m,_,_,Z,U⟩,⟨m,_,_,L,z⟩⟩;rw[e,aj j,zg,aj ⟨O.symm,M j⟩]at V;cases V
theorem Ib(base:Int):∀(O:List Nat) (j:Nat) (s:Bd) (i:Nat),i∉O->(ii base O j s).vars[i]?=s.vars[i]?
 |[],j,s,i,_=>rfl
 |w::O,j,s,i,h=>by
  rw[fz,not_or]at h;show(ii base O (j+1) { (zaX ⟨3,base+j,[]⟩ s).2 with vars:=(zaX ⟨3,base+j,[]⟩ s).2.vars.set w (zaX ⟨3,base+j,[]⟩ s).1}).vars[i]?=_;rw[Ib base O (j+1) _ i h.2,nM,af (fun e=>h.1 e.symm)];rfl
theorem Ic(lp c:Int)(old:List Int):∀(O:List Nat) (j:Nat) (s:Bd) (i:Nat),i∉O->(gC lp c old O j s).vars[i]?=s.vars[i]?
 |[],j,s,i,_=>rfl
 |w::O,j,s,i,h=>by
  rw[fz,not_or]at h;show(gC lp c old O (j+1) { (zbi c (zaX ⟨25,j,[lp]⟩ s).1 (old.getD w 0) (zaX ⟨25,j,[lp]⟩ s).2).2 with vars:=(zbi c (zaX ⟨25,j,[lp]⟩ s).1 (old.getD w 0) (zaX ⟨25,j,[lp]⟩ s).2).2.vars.set w (zbi c (zaX ⟨25,j,[lp]⟩ s).1 (old.getD w 0) (zaX ⟨25,j,[lp]⟩ s).2).1}).vars[i]?=_;rw[Ic lp c old O (j+1) _ i h.2,nM,af (fun e=>h.1 e.symm),(zcR _ _ _ _).v];rfl
theorem Ie(c:Int)(a:List Int):∀(k j:Nat) (s r:Bd),lK c a k j s=some r->∀(i:Nat),a[i]?=s.vars[i]?->r.vars[i]?=s.vars[i]?
 |0,j,s,r,h,i,_=>by cases h;rfl
 |k+1,j,s,r,h,i,e=>by
  unfold lK at h;simp only[dx]at h;obtain⟨x,I,y,o,h⟩:=h;have K:((zbi c x y s).2.vars.set j (zbi c x y s).1)[i]?=s.vars[i]?:=by
   rw[(zcR c x y s).v,nM];split
   .rename_i Z;subst Z;rw[I,o]at e;simp only[az]at e;subst e;have Y:j<s.vars.length:=by
     by_cases q:j<s.vars.length
     .exact q
     .rw[md ac]at o;cases o
    rw[aj Y,o,zbi,aj rfl]
   .rfl
  have:=Ie c a k (j+1) _ _ h i (by rw[e];exact K.symm);rw[this];exact K
theorem Wl{b:List Bool}{i:Nat}(h:b.getD i false=false):i∉zct b:=fun V=>by
 unfold zct at V;have:=(qK.1 V).2;rw[h]at this;cases this
theorem Wm{b:List Bool}{i:Nat}(h:i∉zct b):b.getD i false=false:=by
 by_cases c:i<b.length
 .cases o:b.getD i false with
  |false=>rfl
  |true=>exact absurd (qK.2 ⟨nP.2 c,o⟩) h
 .rw[eR,md ac];rfl
theorem If(c:Cx):∀n:Nat,(∀x s r,hB c n x s=some r->∀i,(x.kind=1\/x.kind=6->i≠bS c.names x.name)->qh c.names x.thn i->qh c.names x.els i->r.vars[i]?=s.vars[i]?) /\
 (∀l s r,dR c n l s=some r->∀i,qh c.names l i->r.vars[i]?=s.vars[i]?)/\(∀x s r,ij c n x s=some r->∀i,qh c.names x.thn i->r.vars[i]?=s.vars[i]?)
 |0=>⟨fun _ _ _ h=>by simp[hB]at h,fun _ _ _ h=>by simp[dR]at h,fun _ _ _ h=>by simp[ij]at h⟩
 |n+1=>by
  obtain⟨I,Y,C⟩:=If c n;refine⟨fun x s r h i j M O=>?_,fun l s r h i K=>?_,fun x s r h i M=>?_⟩
  .unfold hB at h;split at h
   .rename_i Z;simp only[dx]at h;obtain⟨v,z,h⟩:=h;split at h
    .cases h;show(v.2.vars.set _ _)[i]?=_;rw[nM,af (fun e=>j (.inl Z) e.symm),(zci c n _ _ _ z).v]
    .cases h
   split at h
   .simp only[fq]at h;obtain⟨q,Z,v,g,a,_,rfl⟩:=h;have a:=(zci c n _ _ _ Z).trans ((zci c n _ _ _ g).trans ((sG a.len q.1 v.2).trans (zb8 ⟨28,bS (c.arrays.map (·.name)) x.name,[(fd a.len q.1 v.2).state,q.1,v.1]⟩ _)));show(Bd.vars _)[i]?=_;rw[a.v]
   split at h
   .simp only[fq]at h;obtain⟨q,Z,a,g,b,U,m,o,rfl⟩:=h;have e1:=(zci c n _ _ _ Z).v;have e2:=Y _ _ _ g i M;have J:b.vars[i]?=q.2.vars[i]?:=Y _ _ _ U i O;have e4:=Ie _ _ _ _ _ _ o i (by rw[e2,J]);show(zbi q.1 a.state m.state m).2.vars[i]?=_;rw[(zcR _ _ _ _).v,e4,J,e1]
   split at h
   .exact C _ _ _ h i M
   split at h
   .simp only[fq]at h;obtain⟨v,Z,rfl⟩:=h;have a:=(zci c n _ _ _ Z).trans (zb8 ⟨29,0,[v.2.state,v.1]⟩ v.2);show(Bd.vars _)[i]?=_;rw[a.v]
   split at h
   .rename_i L;simp only[dx]at h;obtain⟨av,Z,h⟩:=h;split at h
    .cases h;show(List.set _ _ _)[i]?=_;rw[nM,af (fun e=>j (.inr L) e.symm)];exact ju (·[i]?) (sH c n _ _ _ Z).1.v
    .cases h
   split at h
   .cases h;have a:=(zb8 ⟨1,0,[]⟩ s).trans (rh (b9 (16+x.n)) (zaX ⟨1,0,[]⟩ s).1 _);rw[a.v]
   .cases h;rfl
  .unfold dR at h;cases l with
   |nil=>cases h;rfl
   |cons x l=>
    simp only[dx]at h;obtain⟨q,Z,g⟩:=h;obtain⟨a1,a2,a3,a4⟩:=K.cons;rw[Y _ _ _ g i a4,I _ _ _ Z i a1 a2 a3]
  .unfold ij at h;simp only[fq]at h;obtain⟨q,Z,b,hb,t,g,d,U,rfl⟩:=h;obtain⟨m,b0,b1,k1,k2⟩:=M;have V:=zi c.names n m _ _ _ _ _ hb k1 i (by rw[eR,vJ];split<;>rfl) k2;rw[Ic _ _ _ _ _ _ i (Wl V)];show(zbi _ _ _ _).2.vars[i]?=_;rw[(zcR _ _ _ _).v];show q.2.vars[i]?=_;rw[(zci c n _ _ _ Z).v]
theorem Wn{c:Cx}{n:Nat}{x:St}{b:List Bool}{base:Int}{s t:Bd}{v:List Int}{d:Int×Bd}{k:Nat}(J:s.vars=v)(h2:d6 c.names n x.thn (List.replicate k false)=some b)(m:dR c n x.thn (ii base (zct b) 0 s)=some t)(L:di c n x.value t=some d):∀i,i∉zct b->d.2.vars[i]?=v[i]?:=fun i z=>by
 rw[(zci c n _ _ _ L).v,(If c n).2.1 _ _ _ m i ⟨n,_,_,h2,Wm z⟩,Ib _ _ _ _ i z,J]
def gM(l:List Nd)(n:Nd):Int:=match jN l.length (zc1 l l.length) n.kids with
 |none=>0
 |some s=>if zcH n.op s&&eS l n then jy n s else 0
theorem Wo{op:Int}{s:List Int}(h:zcH op s=true)(e:op=25):s.length=1:=by
 subst e;unfold zcH at h;have:ig 25=(1,true):=aS;rw[this]at h;simp only[qH,de]at h;split at h
 .cases h
 .omega
theorem Ig(l:List Nd)(n:Nd):jf (l++[n]) l.length=gM l n:=by
 rw[yJ aw];have M:(l++[n]).take l.length=l:=List.take_left;have Z:zc1 (l++[n]) l.length=zc1 l l.length:=by
  have:=Co (l:=l++[n]) (m:=l.length) (i:=l.length) (aA _);rw[M]at this;exact this.symm
 have hn:(l++[n])[l.length]?=some n:=by rw[mS (aA _),qI];rfl
 unfold oW gM;rw[Z,hn];simp only;cases j:jN l.length (zc1 l l.length) n.kids with
 |none=>rfl
 |some s=>
  simp only;by_cases c:zcH n.op s=true
  .have e:eS l n=eS (l++[n]) n:=by
    have:=GT (l:=l++[n]) (m:=l.length) (n:=n) fun J=>by
     have K:=Cn j;have Y:=Wo c J;cases I:n.kids with
     |nil=>rw[I,Y]at K;simp at K
     |cons k L=>
      refine⟨k,L,rfl,?_⟩;have:=yI j k (by rw[I];exact eQ);omega
    rw[M]at this;exact this
   rw[e]
  .have c':zcH n.op s=false:=by simpa using c
   rw[c',gX,gX]
theorem Ih{l:List Nd}:∀{L:List Int},(∀k∈L,0<=k/\k<l.length/\jf l k≠0)->jN l.length (zc1 l l.length) L=some (L.map (jf l))
 |[],_=>rfl
 |k::L,h=>by
  obtain⟨Z,g,m⟩:=h k eQ;obtain⟨k,rfl⟩:=sc Z;have e:=Cp (l:=l) (i:=l.length) (j:=k) ac (aA _);rw[jN,pQ,e,af ac,Ih fun q I=>h q (fH _ I)];rfl
theorem kY{l:List Nd}{n:Nd}(h:∀k∈n.kids,0<=k/\k<l.length/\jf l k≠0):gM l n=if zcH n.op (n.kids.map (jf l))&&eS l n then jy n (n.kids.map (jf l))else 0:=by
 unfold gM;rw[Ih h]
structure IsT (l:List Nd) (t:Int) (k:Int):Prop where
 lo:0<=k
 hi:k<l.length
 s:jf l k=t
theorem IsT.le{l j:List Nd}{t k:Int}(h:IsT l t k)(K:l<+:j):IsT j t k:=by
 obtain⟨m,rfl⟩:=K;obtain⟨i,g,Z⟩:=h;obtain⟨k,rfl⟩:=sc i;exact⟨i,by rw[fy];omega,by rw[GU ac];exact Z⟩
section
variable {l:List Nd}
theorem Wp(n:Int):gM l ⟨1,n,[]⟩=1:=by
 rw[kY aw];simp[zcH,ig,lE,zcV,eS,jy]
theorem Wq{n:Int}(J:0<=n)(h1:n<=5):gM l ⟨2,n,[]⟩=1:=by
 rw[kY aw];simp[zcH,ig,lE,zcV,eS,jM,jy,J,h1]
theorem Ii{n:Int}(J:0<=n)(h1:n<=255):gM l ⟨3,n,[]⟩=if n.tmod 16=0 then 2 else 1:=by
 rw[kY aw];simp[zcH,ig,lE,zcV,eS,jM,jy,J,h1]
theorem Wr:gM l ⟨26,0,[]⟩=2:=by
 rw[kY aw];simp[zcH,ig,lE,zcV,eS,jM,jy]
theorem Wt{op a b:Int}(O:IsT l 1 a)(o:IsT l 1 b)(J:4<=op)(h1:op<=19):gM l ⟨op,0,[a,b]⟩=1:=by
 have q:∀k:Int,(k<4\/19<k)->¬op=k:=fun k j e=>ac;have C:ig op=(2,true):=by
  unfold ig;rw[af ac,af ac,af ac,af ac,af ac,aj ⟨J,h1⟩]
 rw[kY (fun k j=>by
  simp only[lJ]at j;rcases j with rfl|rfl
  .exact⟨O.lo,O.hi,by rw[O.s];decide⟩
  .exact⟨o.lo,o.hi,by rw[o.s];decide⟩)]
 simp only[dN,o0,O.s,o.s];have v:zcH op [1,1]=true:=by
  unfold zcH;rw[C,af aw,af aw,af (q 31 ac),af (q 30 ac),af (fun h=>q 22 ac h.1)];unfold lE;rw[af (q 22 ac),af (by have:=q 23 ac;have:=q 27 ac;have:=q 29 ac;omega),af (q 28 ac),af (q 24 ac),af (q 25 ac)];rfl
 have i:eS l ⟨op,0,[a,b]⟩=true:=by
  unfold eS jM;simp only[];rw[af (q 1 ac),af (q 27 ac),af (q 2 ac),af (q 3 ac),af (by have:=q 23 ac;have:=q 28 ac;omega),af (q 30 ac),af (q 31 ac),af (q 25 ac)];rfl
 rw[v,i];simp only[xH,cZ];unfold jy;simp only[];rw[af (q 31 ac),af ac,af (q 22 ac),af (fun h=>q 3 ac h.1),af (fun h=>q 25 ac h.1)]
theorem Wu{op a:Int}(O:IsT l 1 a)(J:op=20\/op=21):gM l ⟨op,0,[a]⟩=1:=by
 rw[kY (fun k j=>by
  simp only[lJ]at j;subst j;exact⟨O.lo,O.hi,by rw[O.s];decide⟩)]
 simp only[dN,o0,O.s];rcases J with rfl|rfl<;>simp[zcH,ig,lE,zcV,eS,jM,jy]
theorem Wv{t c a b:Int}(V:IsT l 1 c)(O:IsT l t a)(o:IsT l t b)(M:t=1\/t=2):gM l ⟨22,0,[c,a,b]⟩=t:=by
 rw[kY (fun k j=>by
  simp only[lJ]at j;rcases j with rfl|rfl|rfl
  .exact⟨V.lo,V.hi,by rw[V.s];decide⟩
  .exact⟨O.lo,O.hi,by rw[O.s];omega⟩
  .exact⟨o.lo,o.hi,by rw[o.s];omega⟩)]
 simp only[dN,o0,O.s,o.s,V.s];rcases M with rfl|rfl<;>simp[zcH,ig,lE,zcV,eS,jM,jy]
theorem CT{x y a b:Int}(I:x≠0)(Z:y≠0)(O:IsT l x a)(o:IsT l y b):∀k∈[a,b],0<=k/\k<l.length/\jf l k≠0:=fun k j=>by
 simp only[lJ]at j;rcases j with rfl|rfl
 .exact⟨O.lo,O.hi,by rw[O.s];exact I⟩
 .exact⟨o.lo,o.hi,by rw[o.s];exact Z⟩
theorem Ww{n s a:Int}(J:IsT l 2 s)(O:IsT l 1 a)(Z:0<=n)(h1:n<=3):gM l ⟨23,n,[s,a]⟩=1:=by
 rw[kY (CT aS aS J O)];simp[J.s,O.s,zcH,ig,lE,zcV,eS,jM,jy,Z,h1]
theorem Wx{n s a:Int}(J:IsT l 2 s)(O:IsT l 1 a)(Z:1<=n)(h1:n<=1000016):gM l ⟨27,n,[s,a]⟩=2:=by
 rw[kY (CT aS aS J O)];simp[J.s,O.s,zcH,ig,lE,zcV,eS,jy,Z,h1]
theorem Wy{s a:Int}(J:IsT l 2 s)(O:IsT l 1 a):gM l ⟨29,0,[s,a]⟩=2:=by
 rw[kY (CT aS aS J O)];simp[J.s,O.s,zcH,ig,lE,zcV,eS,jM,jy]
theorem Wz{n s a b:Int}(J:IsT l 2 s)(O:IsT l 1 a)(o:IsT l 1 b)(Z:0<=n)(h1:n<=3):gM l ⟨28,n,[s,a,b]⟩=2:=by
 rw[kY (fun k j=>by
  simp only[lJ]at j;rcases j with rfl|rfl|rfl
  .exact⟨J.lo,J.hi,yU⟩
  .exact⟨O.lo,O.hi,by rw[O.s];decide⟩
  .exact⟨o.lo,o.hi,by rw[o.s];decide⟩)]
 simp[J.s,O.s,o.s,zcH,ig,lE,zcV,eS,jM,jy,Z,h1]
theorem WA{s:Int}(J:IsT l 2 s):gM l ⟨24,0,[s]⟩=1:=by
 rw[kY (fun k j=>by
  simp only[lJ]at j;subst j;exact⟨J.lo,J.hi,yU⟩)]
 simp[J.s,zcH,ig,lE,zcV,eS,jM,jy]
theorem zj:∀{U:List Int},(∀a∈U,IsT l 1 a)->U.map (jf l)=List.replicate U.length 1
 |[],_=>rfl
 |a::U,h=>by
  rw[dN,(h a eQ).s,zj fun x I=>h x (fH _ I)];rfl
theorem WB{n s:Int}{U:List Int}(J:IsT l 2 s)(O:∀a∈U,IsT l 1 a)(K:U.length<=6)(Z:0<=n)(h1:n<=7):gM l ⟨30,n,s::U⟩=2:=by
 rw[kY (fun k j=>by
  rcases fz.1 j with rfl|j
  .exact⟨J.lo,J.hi,yU⟩
  .exact⟨(O k j).lo,(O k j).hi,by rw[(O k j).s];decide⟩)]
 simp only[dN,J.s,zj O];have v:zcH 30 (2::List.replicate U.length 1)=true:=by
  have a:ig 30=(-1,true):=aS;unfold zcH;rw[a];simp only[qH,de];rw[af ac,af ac,aj trivial];simp only[cS,pX,vI,List.tail_cons,i9];refine⟨⟨⟨ac,ac⟩,trivial⟩,?_⟩;rw[iB];intro x I;rw[yA I];rfl
 have i:eS l ⟨30,n,s::U⟩=true:=by simp[eS,jM,Z,h1]
 rw[v,i];simp[jy]
theorem WC{n s d st:Int}{U bs:List Int}(J:IsT l 2 s)(O:∀a∈U,IsT l 1 a)(hd:IsT l 1 d)(o:IsT l 2 st)(Y:∀a∈bs,IsT l 1 a)(K:U.length=bs.length)(V:U.length<=15)(M:0<=n)(h1:n<=15):gM l ⟨31,n,s::U++[d,st]++bs⟩=3:=by
 rw[kY (fun k j=>by
  simp only[pJ,lJ]at j;rcases j with((rfl|j)|rfl|rfl)|j
  .exact⟨J.lo,J.hi,yU⟩
  .exact⟨(O k j).lo,(O k j).hi,by rw[(O k j).s];decide⟩
  .exact⟨hd.lo,hd.hi,by rw[hd.s];decide⟩
  .exact⟨o.lo,o.hi,by rw[o.s];decide⟩
  .exact⟨(Y k j).lo,(Y k j).hi,by rw[(Y k j).s];decide⟩)]
 have z:(s::U++[d,st]++bs).map (jf l)=2::(List.replicate U.length 1++1::2::List.replicate U.length 1):=by
  simp only[jJ,dN,o0,J.s,hd.s,o.s,zj O,zj Y,K];simp
 simp only[];rw[z];generalize hn:U.length=m at *;have L:(2::(List.replicate m (1:Int)++1::2::List.replicate m 1)).length=2*m+3:=cc;have v:zcH 31 (2::(List.replicate m 1++1::2::List.replicate m 1))=true:=by
  have a:ig 31=(-1,true):=aS;unfold zcH;rw[a];simp only[qH,de];rw[af ac,aj trivial];have Z:=Vu (2::(List.replicate m (1:Int)++1::2::List.replicate m 1)) ac ac;have g:(2*m+3)/2=m+1:=ac;rw[L]at Z⊢;rw[Z,g];have I:∀k,su (List.replicate k (1:Int))=true:=fun k=>by
   rw[su,iB];intro x C;rw[yA C];rfl
  have h1:((2::(List.replicate m (1:Int)++1::2::List.replicate m 1)).drop 1).take (m+1)=List.replicate (m+1) 1:=by
   rw[yn,fT,List.take_append,pX,eI aw,show m+1-m=1 by omega];rw[List.replicate_succ'];rfl
  have h2:(2::(List.replicate m (1:Int)++1::2::List.replicate m 1)).getD (m+1+1) 0=2:=by
   rw[List.getD_cons_succ,eR,mS aw,pX,show m+1-m=1 by omega];rfl
  have h3:(2::(List.replicate m (1:Int)++1::2::List.replicate m 1)).drop (m+1+2)=List.replicate m 1:=by
   rw[yn,List.drop_append,pX,AC aw,oD,show m+1+1-m=2 by omega];rfl
  rw[h1,h2,h3,I,I];have e4:oV (((2*m+3:Nat):Nat):Int)<=16:=Cj;simp only[vI,i9];refine⟨⟨⟨ac,ac⟩,e4⟩,⟨⟨⟨trivial,trivial⟩,trivial⟩,trivial⟩⟩
 have i:eS l ⟨31,n,s::U++[d,st]++bs⟩=true:=by simp[eS,jM,M,h1]
 rw[v,i];simp[jy]
theorem Ij{n k:Int}{q:Nd}(Z:IsT l 3 k)(I:l[k.toNat]?=some q)(J:0<=n)(h1:n<oV q.kids.length):gM l ⟨25,n,[k]⟩=if n=0 then 2 else 1:=by
 rw[kY (fun j g=>by
  simp only[lJ]at g;subst g;exact⟨Z.lo,Z.hi,by rw[Z.s];decide⟩)]
 have i:eS l ⟨25,n,[k]⟩=true:=by
  have:yF l k=q.kids.length:=by rw[yF,I]
  simp[eS,jM,this,J];omega
 simp only[dN,o0,Z.s];rw[i];by_cases c:n=0<;>simp[zcH,ig,lE,zcV,jy,c]
end
def zdR(l:List Nd):Prop:=∀i:Nat,i<l.length->jf l i≠0
theorem Ik{l:List Nd}{i:Nat}(z:i<=l.length):∀{L s:List Int},jN i (zc1 l i) L=some s->jN l.length (zc1 l l.length) L=some s
 |[],s,h=>by cases h;rfl
 |k::L,s,h=>by
  rw[jN]at h;split at h
  .cases h
  .rename_i c;obtain⟨t,M,rfl⟩:=oE.1 h;obtain⟨k,rfl⟩:=sc (by omega:0<=k);rw[pQ]at c;have Z:=Cp (l:=l) (i:=i) (j:=k) ac z;have C:=Cp (l:=l) (i:=l.length) (j:=k) ac (aA _);rw[jN,pQ,C,af (by rw[Z]at c;omega),Ik z M];simp only[i8,Z]
theorem WD{l:List Nd}{i:Nat}{n:Nd}(U:l[i]?=some n)(h:jf l i≠0):jf l i=gM l n:=by
 have z:i<l.length:=by
  by_cases c:i<l.length
  .exact c
  .rw[md ac]at U;cases U
 rw[yJ z]at h⊢;unfold oW at h⊢;unfold gM;rw[U]at h⊢;simp only at h⊢;cases j:jN i (zc1 l i) n.kids with
 |none=>rw[j]at h;exact absurd rfl h
 |some s=>rw[Ik ac j]
theorem Il{l:List Nd}{n:Nd}{t:Int}(O:zdR l)(h:gM l n=t)(M:t≠0):IsT (ji l n) t (f4 l n)/\zdR (ji l n):=by
 unfold ji;split
 .rename_i c;have C:=HV c;refine⟨⟨ac,ac,?_⟩,O⟩;rw[WD C (O _ c)];exact h
 .rename_i c;have:=CM l n;have e:f4 l n=l.length:=ac;rw[e];refine⟨⟨ac,by rw[fy];simp;omega,?_⟩,fun i z=>?_⟩
  .rw[Ig];exact h
  .rw[fy,List.length_singleton]at z;by_cases q:i<l.length
   .rw[GU q];exact O i q
   .obtain rfl:i=l.length:=by omega
    rw[Ig,h];exact M
def jG(n:Int):Prop:=-9223372036854775808<=n/\n<9223372036854775808
mutual
def fE:Ex->Prop
 | .mk _ n _ _ L=>jG n/\eT L
def eT:List Ex->Prop
 |[]=>True
 |e::es=>fE e/\eT es
end
theorem Im(x:Ex):fE x↔jG x.n/\eT x.kids:=by cases x;rw[fE];rfl
mutual
def jC:St->Prop
 | .mk _ _ _ _ a v Y Z V=>fE a/\fE v/\eT Y/\fN Z/\fN V
def fN:List St->Prop
 |[]=>True
 |x::l=>jC x/\fN l
end
theorem zk(x:St):jC x↔fE x.at_/\fE x.value/\eT x.args/\fN x.thn/\fN x.els:=by cases x;rw[jC];rfl
def tyG1.tyF:=ad @cQ (ad @cW (ad @gJ (ad @eJ (ad @Uq (ad @vm (@x3))))))
open tyG1
noncomputable def In:{c:SC // aD 14 (Try.f9.body.getD .skip)=c}:=by
 refine⟨?_,?_⟩;rotate_left
 .simp only[Try.f9,bP,aD,zby,zbt,zbA,zbB,Nat.blt,Nat.ble];rfl
noncomputable def Io:{c:SC // aD 25 (Try.f57.body.getD .skip)=c}:=by
 refine⟨?_,?_⟩;rotate_left
 .simp only[Try.f57,bP,aD,zby,zbt,zbA,zbB,Nat.blt,Nat.ble];rfl
noncomputable def Ip:{c:SC // aD 7 (Try.f56.body.getD .skip)=c}:=by
 refine⟨?_,?_⟩;rotate_left
 .simp only[Try.f56,bP,aD,zby,zbt,zbA,zbB,Nat.blt,Nat.ble];rfl
def zbD(n m:Int):Int:=if n.tmod m<0 then b9 (n.tmod m+m)else n.tmod m
theorem zds{n m:Int}(h:0<m)(h2:m<2^62):0<=zbD n m/\zbD n m<m:=by
 unfold zbD;have Z:=sE n h;have L:-m<n.tmod m:=by
  have:=sE (-n) h;rw[Int.neg_tmod]at this;omega
 split
 .unfold b9;rw[rW _ ac];omega
 .omega
def nA(x:Int×Int):List AV:=[.int .i64 x.1,.int .i64 x.2]
theorem CV(x y:Int×Int)(h:nA x=nA y):x=y:=by
 simp only[nA,ez,AV.int.injEq,br,kK]at h;exact vV h.1 h.2
theorem WE(ρ:Nat->Int)(x:Int×Int)(I:x.2≠0):cn Try.prog ρ 9 (nA x) (.int .i64 (zbD x.1 x.2)):=zda fit (pls:=pls) (l:=[]) trivial (.cons (.int _ _) (.cons (.int _ _) .nil)) (.int _ _) (by
 have O:=zc4 9;obtain⟨n,m⟩:=x;rw[nA];simp only[]at I⊢;refine zbs (M:=14) (rs:=[.tmp 4]) (O.call _) O.ice O.froz Try.func9 rfl rfl In.2 rfl ?_;dsimp only[In,zbj,Nat.reduceAdd];repeat' (first
  |(apply ai ?_;clear hK K)|apply Rx.o ?_|(apply bu (fun o z=>?_) (fun o z=>?_)<;>try(cases o;done))|apply aq ?_|(apply zaW fun K hK=>?_)|apply za8 ?_|apply aN ?_)
 all_goals (refine⟨za2,_,za7,?_⟩;try simp only[za0])
 all_goals (simp_all[zbD];try omega))
noncomputable def sK:En:=⟨9,false,dA (fun x=>x.2≠0) nA fun x=>.int .i64 (zbD x.1 x.2)⟩
theorem CW(ρ:Nat->Int):fk Try.prog ρ sK:=zcQ fun x I=>WE ρ x I
theorem tS{l:List En}(K:∀L,zcu l 9 L=sK.sp L)(n m:Int)(V:m≠0)(H:Hp):za9 Try.prog (za3 pls l) 9 [.int .i64 n,.int .i64 m] H fun v H'=>v=.int .i64 (zbD n m)/\H'=H:=
 zcz (enc:=nA) (ok:=fun x=>x.2≠0) (out:=fun x=>.int .i64 (zbD x.1 x.2)) CV (x:=(n,m)) (K _) V
def rj:List Int:=[0,1,-1,2,-9223372036854775808,9223372036854775807,4294967296,-2147483648,63,64]
def ph(n j:Int):Int:=if zbD n 24<10 then rj.getD (zbD n 24).toNat 0 else if zbD n 24<22 then b9 (zbD (b9 (n.tdiv 24)) 17-6)else j
theorem WF(H:Hp):zcv Try.prog H 154 10 [(0,.int .i64 0),(1,.int .i64 1),(2,.int .i64 (-1)),(3,.int .i64 2),(4,.int .i64 (-9223372036854775808)),(5,.int .i64 9223372036854775807),(6,.int .i64 4294967296),(7,.int .i64 (-2147483648)),(8,.int .i64 63),(9,.int .i64 64)]=some (.sl H.next 0 10 1,H.alloc (.cells (rj.map fun n=>.int .i64 n) 0 true)):=ah
theorem WG(ρ:Nat->Int)(x:Int×Int):cn Try.prog ρ 57 (nA x) (.int .i64 (ph x.1 x.2)):=zda fit (pls:=pls) (l:=[sK]) ⟨CW ρ,trivial⟩ (.cons (.int _ _) (.cons (.int _ _) .nil)) (.int _ _) (by
 have O:Plain (za3 pls [sK]) 57:=zcB (fun _=>rfl) rfl;obtain⟨n,m⟩:=x;have hr:=zds (n:=n) (m:=24) ac ac;have hp:0<=zbD n 24:=hr.1;rw[nA];simp only[];have I:(24:Int)≠0:=aS;refine zbs (M:=25) (rs:=[.tmp 4]) (O.call _) O.ice O.froz Try.func57 rfl rfl Io.2 rfl ?_;dsimp only[Io,zbj,Nat.reduceAdd];have Y:=@WF;repeat' (first
  |(apply ai ?_;clear hK K)|apply Rx.o ?_|(apply mn ?_;first|refine zbV (tS (fun _=>rfl) _ _ aS _) ?_)|(apply bu (fun o z=>?_) (fun o z=>?_)<;>try(cases o;done))|apply aq ?_|(apply zaW fun K hK=>?_)|apply aO ?_|apply za8 ?_|apply aN ?_)
 .have Z:(zbD n 24).toNat<10:=by omega
  have C:rj[(zbD n 24).toNat]?=some (rj.getD (zbD n 24).toNat 0):=by
   rw[eR,aY (by simpa [rj]using Z)];rfl
  repeat' (first
   |(apply ai ?_;clear hK K)|apply Ry.o ?_|apply aN ?_)
  all_goals (refine⟨za2,_,za7,?_⟩;try simp only[za0])
  rw[ph,aj kH]
 .all_goals (refine⟨za2,_,za7,?_⟩;try simp only[za0])
  rw[ph,af kH,aj kH]
 .all_goals (refine⟨za2,_,za7,?_⟩;try simp only[za0])
  rw[ph,af kH,af kH])
noncomputable def zl:En:=⟨57,false,dA (fun _=>True) nA fun x=>.int .i64 (ph x.1 x.2)⟩
theorem WH(ρ:Nat->Int):fk Try.prog ρ zl:=zcQ fun x I=>WG ρ x
theorem WI{l:List En}(K:∀L,zcu l 57 L=zl.sp L)(n m:Int)(H:Hp):za9 Try.prog (za3 pls l) 57 [.int .i64 n,.int .i64 m] H fun v H'=>v=.int .i64 (ph n m)/\H'=H:=
 zcz (enc:=nA) (ok:=fun _=>True) (out:=fun x=>.int .i64 (ph x.1 x.2)) CV (x:=(n,m)) (K _) trivial
def zbz(f:Int):List (List UInt8):=if f=0 then [[120],[121],[105],[106]]else [[110],[105]]
theorem qi(f:Int):(zbz f).length=4\/(zbz f).length=2:=by unfold zbz;split<;>simp
theorem WJ(H:Hp)(a b c d:List UInt8):zcv Try.prog H 47 4 [(0,.str a),(1,.str b),(2,.str c),(3,.str d)]=some (.sl H.next 0 4 1,H.alloc (.cells [.str a,.str b,.str c,.str d] 0 true)):=ah
theorem wc(H:Hp)(a b:List UInt8):zcv Try.prog H 47 2 [(0,.str a),(1,.str b)]=some (.sl H.next 0 2 1,H.alloc (.cells [.str a,.str b] 0 true)):=ah
theorem WK(ρ:Nat->Int)(f:Int):cn Try.prog ρ 56 [.int .i64 f] (zbP (zbz f)):=Cf (m:=3) (cfg:=za3 pls []) fit (pL ρ) (fun f Y r h=>by simp[za3,zcu]at h) (.cons (.int _ _) .nil) (by
 have O:=zc4 56;refine zbs (M:=7) (rs:=[.tmp 2]) (O.call _) O.ice O.froz Try.func56 rfl rfl Ip.2 rfl ?_;dsimp only[Ip,zbj,Nat.reduceAdd];have Z:=@WJ;have L:=@wc;repeat' (first
  |(apply ai ?_;clear hK K)|apply Rx.o ?_|(apply bu (fun o z=>?_) (fun o z=>?_)<;>try(cases o;done))|apply aq ?_|(apply zaW fun K hK=>?_)|apply za8 ?_|apply aN ?_)
 .all_goals (refine⟨za2,_,za7,?_⟩;try simp only[za0])
  rw[zbz,aj kH];rfl
 .all_goals (refine⟨za2,_,za7,?_⟩;try simp only[za0])
  rw[zbz,af kH];rfl)
noncomputable def zm:En:=⟨56,false,dA (fun _=>True) (fun n:Int=>[.int .i64 n]) fun f=>zbP (zbz f)⟩
theorem WL(ρ:Nat->Int):fk Try.prog ρ zm:=zcQ fun x I=>WK ρ x
theorem Iq{l:List En}(K:∀L,zcu l 56 L=zm.sp L)(f:Int)(H:Hp):za9 Try.prog (za3 pls l) 56 [.int .i64 f] H fun v H'=>v=zbP (zbz f)/\H'=H:=
 zcz (enc:=fun n:Int=>[.int .i64 n]) (ok:=fun _=>True) (out:=fun f=>zbP (zbz f)) G7 (x:=f) (K _) trivial
end
section
def tyG2.tyF:=ad @cQ (ad @gU (@tC))
open tyG2
def dB(S:Nat->Prop)(n:Nat)(H:Hp)(v w:AV):Prop:=∃u,zbS S n H v u/\∀m,n<=m->dE m u=w
def zbI(S:Nat->Prop)(n:Nat)(H:Hp)(cs O:List AV):Prop:=∃K,cY (zbS S n H) cs K/\∀m,n<=m->K.map (dE m)=O
theorem zbI.frame{S S':Nat->Prop}(hS:∀k,S k->S' k){n:Nat}{H H':Hp}{v w:List AV}(h:zbI S n H v w)(U:H.next<=H'.next)(Z:∀k,S k->k<H.next->qU (H.get k) (H'.get k)):zbI S' n H' v w:=by
 obtain⟨u,i,g⟩:=h;exact⟨u,i.mono fun a b k=>k.frame hS U Z,g⟩
theorem zbI.keep{S S':Nat->Prop}(hS:∀k,S k->S' k){n:Nat}{H H':Hp}{v w:List AV}(h:zbI S n H v w)(U:H.next<=H'.next)(Z:∀k,S k->k<H.next->H'.get k=H.get k):zbI S' n H' v w:=h.frame hS U fun k i g=>.inl (Z k i g).symm
theorem dB.up{S:Nat->Prop}{n m:Nat}{H:Hp}{v w:AV}(h:dB S n H v w)(V:n<=m):dB S m H v w:=by
 obtain⟨u,i,g⟩:=h;exact⟨u,i.up V,fun k j=>g k ac⟩
theorem zbI.up{S:Nat->Prop}{n m:Nat}{H:Hp}{v w:List AV}(h:zbI S n H v w)(V:n<=m):zbI S m H v w:=by
 obtain⟨u,i,g⟩:=h;exact⟨u,i.mono fun a b k=>k.up V,fun k j=>g k ac⟩
theorem zbI.nil{S:Nat->Prop}{n:Nat}{H:Hp}:zbI S n H [] []:=⟨[],trivial,fun _ _=>rfl⟩
theorem zbI.cons{S:Nat->Prop}{n:Nat}{H:Hp}{v w:AV}{cs O:List AV}(h:dB S n H v w)(k:zbI S n H cs O):zbI S n H (v::cs) (w::O):=by
 obtain⟨u,i,g⟩:=h;obtain⟨K,Z,L⟩:=k;exact⟨u::K,⟨i,Z⟩,fun m V=>by rw[dN,g m V,L m V]⟩
theorem zbI.append{S:Nat->Prop}{n:Nat}{H:Hp}:∀{a b c d:List AV},zbI S n H a b->zbI S n H c d->zbI S n H (a++c) (b++d)
 |a,b,c,d,⟨u,i,g⟩,⟨v,Z,L⟩=>⟨u++v,i.append Z,fun m V=>by rw[jJ,g m V,L m V]⟩
theorem dB.flat{S:Nat->Prop}{n:Nat}{H:Hp}{v:AV}(h:GL v)(j:∀m,dE m v=v):dB S (n+1) H v v:=⟨v,zbS.flat h,fun m _=>j m⟩
theorem dB.int{S:Nat->Prop}{n:Nat}{H:Hp}(k:IntKind)(x:Int):dB S (n+1) H (.int k x) (.int k x):=.flat ⟨.int _ _,trivial⟩ fun m=>by cases m<;>rfl
theorem dB.str{S:Nat->Prop}{n:Nat}{H:Hp}(s:List UInt8):dB S (n+1) H (.str s) (.str s):=.flat ⟨.str _,trivial⟩ fun m=>by cases m<;>rfl
theorem dB.nilS{S:Nat->Prop}{n:Nat}{H:Hp}:dB S (n+1) H .nilS (.lst []):=⟨.nilS,zbS.flat ⟨.nilS,trivial⟩,fun m V=>by
 obtain⟨m,rfl⟩:∃k,m=k+1:=⟨m-1,ac⟩;rfl⟩
def fu(S:Nat->Prop)(n:Nat)(H:Hp)(z:Nat):List (List AV)->List (List AV)->Prop:=cY fun a b=>a.length=z/\zbI S n H a b
theorem Ir{S:Nat->Prop}{n z:Nat}{H:Hp}:∀{a b:List (List AV)},fu S n H z a b->∃u,cY (cY (zbS S n H)) a u/\(∀m,n<=m->u.map (List.map (dE m))=b)/\∀x∈a,x.length=z
 |[],[],_=>⟨[],trivial,fun _ _=>rfl,aw⟩
 |x::a,y::b,⟨⟨hz,v,h1,h2⟩,h⟩=>by
  obtain⟨u,Z,L,o⟩:=Ir (a:=a) (b:=b) h;exact⟨v::u,⟨h1,Z⟩,fun m V=>by rw[dN,h2 m V,L m V],fun q I=>by
   rcases fz.1 I with rfl|I
   .exact hz
   .exact o q I⟩
theorem dB.rows{S:Nat->Prop}{n:Nat}{H:Hp}{r z imm:Nat}{tip:Bool}{a b:List (List AV)}(hS:S r)(hr:r<H.next)(C:H.get r=some (.cells a.flatten imm tip))(Z:imm<=a.flatten.length)(h:fu S n H z a b):dB S (n+1) H (.sl r 0 a.length z) (.lst b):=by
 obtain⟨u,i,g,Y⟩:=Ir h;refine⟨.lst u,zbS.rows hS hr C Z Y i,fun m V=>?_⟩;obtain⟨m,rfl⟩:∃k,m=k+1:=⟨m-1,ac⟩;show AV.lst (u.map fun K=>K.map (dE m))=_;rw[<-g m ac]
def rk:=@dB.rows
theorem fu.frame{S S':Nat->Prop}(hS:∀k,S k->S' k){n z:Nat}{H H':Hp}{a b:List (List AV)}(h:fu S n H z a b)(U:H.next<=H'.next)(Z:∀k,S k->k<H.next->H'.get k=H.get k):fu S' n H' z a b:=cY.mono (fun x y k=>⟨k.1,k.2.keep hS U Z⟩) h
theorem fu.up{S:Nat->Prop}{n m z:Nat}{H:Hp}{a b:List (List AV)}(h:fu S n H z a b)(V:n<=m):fu S m H z a b:=cY.mono (fun x y k=>⟨k.1,k.2.up V⟩) h
theorem zbI.strs{S:Nat->Prop}{n:Nat}{H:Hp}(s:List UInt8):zbI S (n+1) H [.str s] [.str s]:=.cons (.str s) .nil
theorem fu.strs{S:Nat->Prop}{n:Nat}{H:Hp}:∀l:List (List UInt8),fu S (n+1) H 1 (l.map fun s=>[AV.str s]) (l.map fun s=>[AV.str s])
 |[]=>trivial
 |a::l=>⟨⟨rfl,zbI.strs a⟩,fu.strs l⟩
theorem tT{S:Nat->Prop}{n:Nat}{H:Hp}(k g o:Int)(s:List UInt8){kv:AV}{j:List Ex}(h:dB S (n+1) H kv (.lst (j.map Ex.cells))):zbI S (n+1) H [.int .i64 k,.int .i64 g,.str s,.int .i64 o,kv] (Ex.mk k g s o j).cells:=by
 rw[mh];exact .cons (.int _ _) (.cons (.int _ _) (.cons (.str _) (.cons (.int _ _) (.cons h .nil))))
theorem rm{S:Nat->Prop}{n:Nat}{H:Hp}(k g o:Int)(s:List UInt8):zbI S (n+1) H [.int .i64 k,.int .i64 g,.str s,.int .i64 o,.nilS] (Ex.mk k g s o []).cells:=tT k g o s .nilS
def zbo:List Int->Int×List Int
 |[]=>(0,[])
 |a::l=>(a,l)
def WM(lo:Nat)(H:Hp)(r:Nat)(v:AV)(L:List Int):Prop:=(v=.lst []/\L=[])\/∃b K Y Z,v=.sl b K L.length 1/\H.get b=some (.cells Y Z true)/\Y.drop K=L.map (fun n=>AV.int .i64 n)/\b≠r/\b<lo
def ge(lo:Nat)(H:Hp)(r:Nat)(L:List Int)(c:Int):Prop:=r<lo/\lo<=H.next/\∃v,H.get r=some (.cells [v,.int .i64 c] 0 true)/\WM lo H r v L
theorem ge.keep{lo:Nat}{H H':Hp}{r:Nat}{L:List Int}{c:Int}(h:ge lo H r L c)(o:H.next<=H'.next)(C:∀k,k<lo->H'.get k=H.get k):ge lo H' r L c:=by
 obtain⟨J,i,v,V,g⟩:=h;refine⟨J,ac,v,by rw[C _ J];exact V,?_⟩;rcases g with g|⟨b,K,U,Z,O,M,I,z,Y⟩
 .exact .inl g
 .exact .inr ⟨b,K,U,Z,O,by rw[C _ Y];exact M,I,z,Y⟩
noncomputable def tU:{c:SC // aD 25 (Try.f27.body.getD .skip)=c}:=by
 refine⟨?_,?_⟩;rotate_left
 .simp only[Try.f27,bP,aD,zby,zbt,zbA,zbB,Nat.blt,Nat.ble];rfl
theorem zn{cfg:Cfg}(O:Plain cfg 27){lo:Nat}{H:Hp}{r:Nat}{L:List Int}{c:Int}(h:ge lo H r L c)(hL:L.length<2^60):
 za9 Try.prog cfg 27 [.ptr r 0] H fun v H'=>v=.int .i64 (zbo L).1/\ge lo H' r (zbo L).2 c/\H'.next=H.next/\∀k,k≠r->H'.get k=H.get k:=by
 obtain⟨J,i,v,h1,h2⟩:=h;rcases h2 with⟨rfl,rfl⟩|⟨b,Z,I,V,rfl,e2,m,C,e5⟩
 .refine zbs (M:=25) (rs:=[.tmp 2]) (O.call _) O.ice O.froz Try.func27 rfl rfl tU.2 rfl ?_;dsimp only[tU,zbj,Nat.reduceAdd];repeat' (first
   |(apply ai ?_;clear hK K)|apply Rx.o ?_|(apply bu (fun o z=>?_) (fun o z=>?_)<;>try(cases o;done))|apply aq ?_|(apply zaW fun K hK=>?_)|apply aN ?_)
  all_goals (refine⟨za2,_,za7,?_⟩;try simp only[za0])
  exact⟨fo,⟨J,i,_,h1,.inl ⟨rfl,rfl⟩⟩,fo,fun _ _=>fo⟩
 .cases L with
  |nil=>
   refine zbs (M:=25) (rs:=[.tmp 2]) (O.call _) O.ice O.froz Try.func27 rfl rfl tU.2 rfl ?_;dsimp only[tU,zbj,Nat.reduceAdd];repeat' (first
    |(apply ai ?_;clear hK K)|apply Rx.o ?_|(apply bu (fun o z=>?_) (fun o z=>?_)<;>try(cases o;done))|apply aq ?_|(apply zaW fun K hK=>?_)|apply aN ?_)
   all_goals (refine⟨za2,_,za7,?_⟩;try simp only[za0])
   exact⟨fo,⟨J,i,_,h1,.inr ⟨b,Z,I,V,rfl,e2,m,C,e5⟩⟩,fo,fun _ _=>fo⟩
  |cons a L=>
   have hg:I[Z]?=some (.int .i64 a):=by
    have:=ju (fun l=>l[0]?) m;simpa using this
   have hd:I.drop (Z+1)=L.map (fun n=>AV.int .i64 n):=by
    have:=ju (List.drop 1) m;rw[AD]at this;simpa using this
   have U:0<L.length+1:=ac;have Y:jo Try.prog 23 (.sl b Z (L.length+1) 1) (some (.int .i64 1)) none=if L=[]then some (.lst [])else some (.sl b (Z+1) L.length 1):=by
    simp only[jo,Try.underlying23,jK,zcS];by_cases hn:L=[]
    .subst hn;rfl
    .have:0<L.length:=tH.2 hn;rw[af hn,aj ⟨ac,aA _,trivial⟩,af ac];rfl
   have g:¬(((L.length+1:Nat):Int)=0):=ac;have hrb:(b == r)=false:=zbn C;refine zbs (M:=25) (rs:=[.tmp 2]) (O.call _) O.ice O.froz Try.func27 rfl rfl tU.2 rfl ?_;dsimp only[tU,zbj,Nat.reduceAdd];by_cases hn:L=[]
   .subst hn;have hsl':jo Try.prog 23 (.sl b Z 1 1) (some (.int .i64 1)) none=some (.lst []):=Y;have hne':¬(((1:Nat):Int)=0):=aS;have hp':0<1:=aS;clear Y g U;repeat' (first
     |(apply ai ?_;clear hK K)|apply Ry.o ?_|apply dD ?_|(apply bi (fun o z=>?_) (fun o z=>?_)<;>try(cases o;done))|apply aq ?_|(apply zaW fun K hK=>?_)|apply za8 ?_|apply aN ?_)
    all_goals (refine⟨za2,_,za7,?_⟩;try simp only[za0])
    refine⟨fo,⟨J,i,_,gE,.inl ⟨rfl,rfl⟩⟩,fo,fun k j=>p9⟩
   .rw[af hn]at Y;repeat' (first
     |(apply ai ?_;clear hK K)|apply Ry.o ?_|apply dD ?_|(apply bi (fun o z=>?_) (fun o z=>?_)<;>try(cases o;done))|apply aq ?_|(apply zaW fun K hK=>?_)|apply za8 ?_|apply aN ?_)
    all_goals (refine⟨za2,_,za7,?_⟩;try simp only[za0])
    refine⟨fo,⟨J,i,_,CD,.inr ⟨b,Z+1,I,V,rfl,by rw[aC,af C];exact e2,hd,C,e5⟩⟩,fo,fun k j=>p9⟩
end
theorem zbI.keep2{S S':Nat->Prop}{n:Nat}{H H':Hp}{v w:List AV}(h:zbI S n H v w)(hS:∀k,k<H.next->S k->S' k)(U:H.next<=H'.next)(Z:∀k,S k->k<H.next->H'.get k=H.get k):zbI S' n H' v w:=by
 obtain⟨u,i,g⟩:=h;exact⟨u,i.mono fun a b k=>k.frame2 hS U fun q m L=>.inl (Z q m L).symm,g⟩
theorem dB.keep2{S S':Nat->Prop}{n:Nat}{H H':Hp}{v w:AV}(h:dB S n H v w)(hS:∀k,k<H.next->S k->S' k)(U:H.next<=H'.next)(Z:∀k,S k->k<H.next->H'.get k=H.get k):dB S' n H' v w:=by
 obtain⟨u,i,g⟩:=h;exact⟨u,i.frame2 hS U fun q m L=>.inl (Z q m L).symm,g⟩
theorem fu.keep2{S S':Nat->Prop}{n z:Nat}{H H':Hp}{a b:List (List AV)}(h:fu S n H z a b)(hS:∀k,k<H.next->S k->S' k)(U:H.next<=H'.next)(Z:∀k,S k->k<H.next->H'.get k=H.get k):fu S' n H' z a b:=cY.mono (fun x y k=>⟨k.1,k.2.keep2 hS U Z⟩) h
theorem fu.len{S:Nat->Prop}{n z:Nat}{H:Hp}:∀{a b:List (List AV)},fu S n H z a b->∀x∈a,x.length=z
 |[],[],_,x,I=>by simp at I
 |y::a,w::b,h,x,I=>by
  rcases fz.1 I with rfl|I
  .exact h.1.1
  .exact fu.len h.2 x I
def zbN(S:Nat->Prop)(n:Nat)(H:Hp)(z:Nat)(v:AV)(Z:List (List AV)):Prop:=
 (v=.nilS/\Z=[])\/∃q L O,v=.sl q 0 O.length z/\S q/\q<H.next/\H.get q=some (.cells O.flatten L true)/\L<=O.flatten.length/\fu (fun k=>S k/\k≠q) n H z O Z
theorem zbN.rd{S:Nat->Prop}{n:Nat}{H:Hp}{z:Nat}{v:AV}{O:List (List AV)}(h:zbN S n H z v O):dB S (n+1) H v (.lst O):=by
 rcases h with⟨rfl,rfl⟩|⟨q,L,Z,rfl,i,g,m,Y,o⟩
 .exact .nilS
 .exact .rows i g m Y (o.frame (fun k j=>j.1) (aA _) fun _ _ _=>rfl)
theorem zbN.up{S:Nat->Prop}{n m:Nat}{H:Hp}{z:Nat}{v:AV}{Z:List (List AV)}(h:zbN S n H z v Z)(V:n<=m):zbN S m H z v Z:=by
 rcases h with h|⟨q,L,O,e,i,g,Y,U,o⟩
 .exact .inl h
 .exact .inr ⟨q,L,O,e,i,g,Y,U,fu.up o V⟩
theorem zbN.keep{S S':Nat->Prop}{n:Nat}{H H':Hp}{z:Nat}{v:AV}{Z:List (List AV)}(h:zbN S n H z v Z)(hS:∀k,k<H.next->S k->S' k)(U:H.next<=H'.next)(Y:∀k,S k->k<H.next->H'.get k=H.get k):zbN S' n H' z v Z:=by
 rcases h with h|⟨q,L,O,e,i,g,m,K,o⟩
 .exact .inl h
 .exact .inr ⟨q,L,O,e,hS q g i,ac,by rw[Y q i g];exact m,K,o.keep2 (fun k j I=>⟨hS k j I.1,I.2⟩) U fun k V M=>Y k V.1 M⟩
theorem zbN.one{S:Nat->Prop}{n:Nat}{H:Hp}{z:Nat}{v:AV}{Z:List (List AV)}(h:zbN S n H z v Z):AV.one v=true/\v.cells=[v]:=by
 rcases h with⟨rfl,rfl⟩|⟨q,L,O,rfl,_⟩<;>exact⟨rfl,rfl⟩
theorem zbN.len{P:Program}{t e:TypeId}(M:P.underlying t=some (.slice e)){S:Nat->Prop}{n:Nat}{H H':Hp}{z:Nat}{v:AV}{Z:List (List AV)}(h:zbN S n H z v Z):zbO P H' t v=some (.int .i64 Z.length):=by
 rcases h with⟨rfl,rfl⟩|⟨q,L,O,rfl,i,g,m,Y,o⟩
 .exact zdo M
 .rw[zdk M,show O.length=Z.length from cY.len o]
theorem zbN.push{P:Program}{t e:TypeId}{z b:Nat}{zz:List AV}(ht:P.underlying t=some (.slice e))(hs:zbh P e=some z)(hb:zb3 P e=some b)(hz:zbU P e=some zz)(K:zz.length=z)(M:jp P t=true)
 {lo n:Nat}{H:Hp}{v:AV}{J:List (List AV)} (h:zbN (fun k=>lo<=k) n H z v J) (C:lo<=H.next) {r imm:Nat}{row w:List AV} (hg:H.get r=some (.cells row imm true)) (g:row.length=z) (Y:row.all AV.one=true)
 (hw:zbI (fun k=>lo<=k/\∀o m U,v≠.sl k o m U) n H row w) (j:(J.length+1)*b<=zcw) (i:J.length+1<=zcw) :
 ∃v' H',zcg P false H t t v (.sl r 0 1 z)=some (v',H')/\zbN (fun k=>lo<=k) n H' z v' (J++[w])/\H'.next=H.next+1/\(∀k,k<H.next->(∀o m U,v≠.sl k o m U)->H'.get k=H.get k)/\∀k o m U,v'=.sl k o m U->k=H.next:=by
 have hx:zcM H z (.sl r 0 1 z)=some (1,row):=by
  have:=sf (H:=H) (r:=r) (o:=0) (n:=1) (z:=z) (s:=z) hg Hu;rw[this,fT,eI ac]
 rcases h with⟨rfl,rfl⟩|⟨q,Z,O,rfl,h1,h2,h3,h4,h5⟩
 .refine⟨.sl H.next 0 1 z,H.alloc (.cells row 0 true),append_nil ht hs hb hz M hx Y K (by simpa using j) (by simpa using i),.inr ⟨H.next,0,[row],rfl,C,cJ _,by rw[zaY,aj rfl];simp,aw,⟨⟨g,hw.keep2 (fun k h1 h2=>⟨h2.1,ac⟩) (dV _) fun k h1 h2=>fS⟩,trivial⟩⟩,rfl,fun k hk _=>fS,fun k o m U e=>?_⟩;simp only[AV.sl.injEq]at e;exact e.1.symm
 .have hrl:=yD (fu.len h5);have hwl:O.length=J.length:=cY.len h5;have htr:gR false H z (.sl q 0 O.length z)=H:=by
   unfold gR;simp only[h3,b4];have:Nat.blt (O.length*z) O.flatten.length=false:=by
    cases hb:Nat.blt (O.length*z) O.flatten.length with
    |false=>rfl
    |true=>rw[i4]at hb;omega
   simp only[lw,fI,this,gX]
  refine⟨.sl H.next 0 (O.length+1) z,(H.kill q).alloc (.cells (O.flatten++row) (Z-0) true),?_,.inr ⟨H.next,Z-0,O++[row],aw,C,cJ _,?_,Hv,?_⟩,rfl,fun k hk hno=>?_,fun k o m U e=>?_⟩
  .simp only[zcg,ht,hs,hb,hz,M,hx,Y,htr,K,oK,cZ,zdB,h3,b4,fT,cK,de];rw[aj ⟨by rw[hwl];exact j,by rw[hwl];exact i,ac,trivial,h4⟩]
  .show((H.kill q).alloc _).get (H.kill q).next=_
   rw[zaY,aj rfl];simp
  .have V:∀k,k<H.next->k≠q->((H.kill q).alloc (.cells (O.flatten++row) (Z-0) true)).get k=H.get k:=fun k L I=>by rw[zaY,af lC,zcW,af I]
   refine cY.append (h5.keep2 (fun k L I=>⟨I.1,ac⟩) (dV _) fun k L I=>V k I L.2) ⟨⟨g,hw.keep2 (fun k L I=>⟨I.1,ac⟩) (dV _) fun k L I=>V k I fun e=>L.2 0 O.length z m0⟩,trivial⟩
  .rw[zaY,af lC,zcW,af (fun e=>hno 0 O.length z m0)]
  .simp only[AV.sl.injEq]at e;exact e.1.symm
def oh:=@zbN.push
end Go.Proofs.Ytpbcimfiofmoeaa
