/- Parts: EvI, Bytes, V1, L4a, L4b, P4e, V5, V6, W4a, W4b. -/
import Derived.Test.YtljebeflbbgibaaGreatXCJ
set_option linter.unusedSimpArgs false
set_option linter.unusedVariables false
set_option linter.unusedSectionVars false
set_option linter.defProp false
set_option maxHeartbeats 32000000
namespace Go.Ab
set_option maxRecDepth 20000
open Go
theorem ta{P:Prop}(h:P:=by simp[zdA]):P:=h
theorem HY{P:Prop}(h:P:=by rw[List.length_append,List.length_append,zf3,List.length_singleton];omega):P:=h
theorem kX{P:Prop}(h:P:=by simp only[zdQ,zdA];omega):P:=h
theorem vh{P:Prop}(h:P:=by simp at z;omega):P:=h
theorem ym{P:Prop}(h:P:=by rw[List.getElem?_eq_getElem hj,e]):P:=h
theorem Cc{P:Prop}(h:P:=by simp only[zdA,zdQ];omega):P:=h
theorem HZ{P:Prop}(h:P:=by simp only[zdy,Nat.reduceBEq, *];exact zfq (n:=8) ac ac):P:=h
theorem H0{P:Prop}(h:P:=by simp only[zdy,Nat.reduceBEq, *];exact zfq (n:=z.length) ac ac):P:=h
theorem vi{P:Prop}(h:P:=by rw[Hp.get_set,if_pos dj]):P:=h
theorem H9{P:Prop}(h:P:=by simp only[zdy,Nat.reduceBEq, *];exact zfq (n:=x.length) ac ac):P:=h
theorem Ia{P:Prop}(h:P:=by rw[<- Y,zdq,if_neg kX,Hp.get_set,if_neg ac,zdq,if_neg ac]):P:=h
theorem Ib{P:Prop}(h:P:=by simp only[zdy,Nat.reduceBEq, *];exact zfq (n:=p.arrays.length) ac ac):P:=h
theorem vj{P:Prop}(h:P:=by simp only[zdy,Nat.reduceBEq, *];exact zfq (n:=p.funcs.length) ac ac):P:=h
theorem nF{P:Prop}(h:P:=by simp only[zdy,Nat.reduceBEq, *];exact zfq (n:=g.nodes.length) ac ac):P:=h
def gk:=@cond_true
def Cd:=@List.flatMap_nil
def tc:=@Bool.not_or
def pE:=@of_decide_eq_true
def vk:=@List.any_append
def yn:=@Bool.or_true
def Ce:=@List.all_eq_false
def Ic:=And.intro @l9 @yn
def Ie:=And.intro @jO Ic
def If:=And.intro @jb Ie
def Ig:=And.intro If xI
def Ih:=And.intro @lC @gX
def Zu:=And.intro qI Ig
def kB:=And.intro Zu Ih
end Go.Ab
namespace Go.Proofs.YtljebeflbbgibaaGreat
set_option maxRecDepth 20000
open Go Go.Ab
section
def tyEvI.tyF:=ad @cN (ad @b9 (ad @lI (ad @jL (ad @lJ (ad @pj (ad @qv (ad @qy (ad @sA (ad @qz (ad @qA (@qB)))))))))))
open tyEvI
noncomputable def Ii:{c:SC // aC 16 (Tryz.f36.body.getD .skip)=c}:=by
 refine⟨?_,?_⟩;rotate_left
 .simp only[Tryz.f36,a5,aC,zdG,zdD,zdH,zdI,Nat.blt,Nat.ble];rfl
noncomputable def Ij:{c:SC // aC 16 (Tryz.f34.body.getD .skip)=c}:=by
 refine⟨?_,?_⟩;rotate_left
 .simp only[Tryz.f34,a5,aC,zdG,zdD,zdH,zdI,Nat.blt,Nat.ble];rfl
section
variable {tb:List En} (hT:EvT tb) {c:Cx9} {H:Hp} {rows:List (List AV)} {res:List R9}
include hT
theorem Zv(O:c.Ok)(z:∀V∈c.g.nodes,V.kids.length<2^30)(A:Fr9 c H rows res){n:Nat}{i:Int}{I:List R9}(h:zfc c.g.nodes c.start c.args n res [i]=some I){r:R9}(hr:zeg I i=some r):zdw Tryz.prog (zdp pls tb) 36 [.ptr c.xp 0,.int .i64 i] H fun w H'=>w=.int .i64 r.v/\∃Y,Fr9 c H' Y I/\H.next<=H'.next/\∀q,q<H.next->q≠c.rp->H'.get q=H.get q:=by
 have J:Plain (zdp pls tb) 36:=hT.plain dj;refine zdv (M:=16) (rs:=[.tmp 4]) (J.call _) J.ice J.froz Tryz.func36 rfl rfl Ii.2 rfl ?_;dsimp only[Ii,zds,Nat.reduceAdd];repeat' (first
  |(apply zdk ?_;clear hK K)|apply Rx.o ?_|apply ak ?_|(apply zdl fun K hK=>?_)|apply am ?_)
 refine bh rfl bm bo ?_;simp only[dS];refine a9 ?_ (HJ hT O z A h);rintro v C ⟨Y,Z,L,U⟩;dsimp only[zdE];obtain⟨i,rfl⟩:∃m:Nat,i=m:=⟨i.toNat,by obtain⟨_,o,_⟩:=Z.get hr;omega⟩;obtain⟨j,hn,ho,hx,g⟩:=Z.at hr;have F:=Z.x;unfold hW at F;have a1:=(g _ Z).l1;repeat' (first
  |(apply zdk ?_;clear hK K)|apply Rx.o ?_|apply ak ?_|(apply zdl fun K hK=>?_)|apply am ?_)
 all_goals (refine⟨eI,_,eR,?_⟩;try simp only[zdn])
 exact⟨mP,Y,Z,L,U⟩
theorem Zw(O:c.Ok)(z:∀V∈c.g.nodes,V.kids.length<2^30)(A:Fr9 c H rows res){n:Nat}{i:Int}{I:List R9}(h:zfc c.g.nodes c.start c.args n res [i]=some I){r:R9}(hr:zeg I i=some r):zdw Tryz.prog (zdp pls tb) 34 [.ptr c.xp 0,.int .i64 i] H fun w H'=>iR c.S H' w r.s/\∃Y,Fr9 c H' Y I/\H.next<=H'.next/\∀q,q<H.next->q≠c.rp->H'.get q=H.get q:=by
 have J:Plain (zdp pls tb) 34:=hT.plain dj;have np:∀E:ax,zdo E (.const (.pointer none))=some .nilP:=fun _=>rfl;refine zdv (M:=16) (rs:=[.tmp 4]) (J.call _) J.ice J.froz Tryz.func34 rfl rfl Ij.2 rfl ?_;dsimp only[Ij,zds,Nat.reduceAdd];repeat' (first
  |(apply zdk ?_;clear hK K)|apply Rx.o ?_|apply ak ?_|(apply zdl fun K hK=>?_)|apply am ?_)
 refine bh rfl bm bo ?_;simp only[dS];refine a9 ?_ (HJ hT O z A h);rintro v o ⟨Y,Z,L,U⟩;dsimp only[zdE];obtain⟨i,rfl⟩:∃m:Nat,i=m:=⟨i.toNat,by obtain⟨_,j,_⟩:=Z.get hr;omega⟩;obtain⟨sv,hn,F,hx,g⟩:=Z.at hr;have C:=Z.x;unfold hW at C;have zeU:=(g _ Z).l2;repeat' (first
  |(apply zdk ?_;clear hK K)|apply Rx.o ?_|apply ak ?_|(apply zdl fun K hK=>?_)|apply am ?_)
 all_goals (refine⟨eI,_,eR,?_⟩;try simp only[zdn])
 exact⟨F,Y,Z,L,U⟩
end
end
section
def hZ(H:Hp)(v:AV)(l:List Int)(lo:Nat):Prop:=∃r j,v=.sl r 0 l.length 1/\H.get r=some (.cells (l.map (.int .u8)) j true)/\j<=l.length/\lo<=r/\r<H.next
def yo(H:Hp)(v:AV)(l:List Int)(lo:Nat):Prop:=(v=.nilS/\l=[])\/hZ H v l lo
theorem hZ.low{H H':Hp}{v:AV}{l:List Int}{lo:Nat}(h:hZ H v l lo)(m:H.next<=H'.next)(C:∀k,lo<=k->k<H.next->H'.get k=H.get k):hZ H' v l lo:=by
 obtain⟨r,j,i,g,o,U,Z⟩:=h;exact⟨r,j,i,by rw[C r U Z];exact g,o,U,ac⟩
theorem hZ.lt{H:Hp}{v:AV}{l:List Int}{lo:Nat}(h:hZ H v l lo){k:Nat}(j:zeG v k):lo<=k/\k<H.next:=by
 obtain⟨r,Z,rfl,_,_,U,i⟩:=h;obtain⟨n,e⟩:=j;simp only[AV.sl.injEq]at e;rw[<-e.1];exact⟨U,i⟩
theorem hZ.keep{H H':Hp}{v:AV}{l:List Int}{lo:Nat}(h:hZ H v l lo)(m:H.next<=H'.next)(C:∀k,zeG v k->H'.get k=H.get k):hZ H' v l lo:=by
 obtain⟨r,j,rfl,g,o,U,i⟩:=h;exact⟨r,j,rfl,xF,o,U,ac⟩
theorem Ik(l:List Int):(l.map (AV.int .u8)).all AV.one=true:=by simp[AV.one]
theorem Zx{H:Hp}{r imm:Nat}{m:List Int}(h:H.get r=some (.cells (m.map (.int .u8)) imm true)):zfk H 1 (.sl r 0 m.length 1)=some (m.length,m.map (.int .u8)):=by
 have:=mn (H:=H) (r:=r) (o:=0) (n:=m.length) (z:=1) (s:=1) h aB;rw[this,dY,eJ aB]
theorem Zy{H:Hp}{v x:AV}{l m:List Int}{lo:Nat}(L:yo H v l lo)(Z:lo<=H.next)(I:zfk H 1 x=some (m.length,m.map (.int .u8)))(M:m≠[])(z:l.length+m.length<2^40):
 ∃F H',zeV Tryz.prog false H 200 200 v x=some (F,H')/\hZ H' F (l++m) lo/\H'.next=H.next+1/\(∀k,k<lo->H'.get k=H.get k)/\pu v F H H':=by
 obtain⟨n,U⟩:∃n,m.length=n+1:=⟨m.length-1,xG⟩;have o:zeL=70368744177664:=rfl;rw[U]at I;rcases L with⟨rfl,rfl⟩|⟨r,Y,rfl,g,J,C,i⟩
 .refine⟨.sl H.next 0 (n+1) 1,H.alloc (.cells (m.map (.int .u8)) 0 true),append_nil Tryz.underlying200 AN AO AP af I (Ik m) rfl jv jv,⟨H.next,0,by simp[U],hC,ac,Z,cP _⟩,rfl,fun k j=>fy,fun k j _=>fy,fun k j=>.inr ?_⟩;obtain⟨K,e⟩:=j;simp only[AV.sl.injEq]at e;omega
 .have O:gw false H 1 (.sl r 0 l.length 1)=H:=by
   unfold gw;simp only[g,bC,cE,gD];have:Nat.blt l.length l.length=false:=by
    cases z:Nat.blt l.length l.length with
    |false=>rfl
    |true=>rw[gQ]at z;omega
   simp[this]
  refine⟨.sl H.next 0 (l.length+(n+1)) 1,(H.kill r).alloc (.cells (l.map (.int .u8)++m.map (.int .u8)) (Y-0) true),?_,⟨H.next,Y,by simp[U],?_,cf,Z,cP _⟩,rfl,fun k j=>?_,fun k j V=>?_,fun k j=>.inr ?_⟩
  .simp only[zeV,Tryz.underlying200,AN,AO,AP,show kG Tryz.prog 200=true by kernel_rfl,I,Ik,O,mX,bT,dq,jF,zf5,g,cE,bC,gD,dY];rw[az ⟨jv,jv,trivial,trivial,J⟩];simp
  .show((H.kill r).alloc _).get (H.kill r).next=_
   rw[zdq,az rfl];simp
  .rw[zdq,ai lL,zff,ai ac]
  .rw[zdq,ai lL,zff,ai (fun e=>V ⟨_,lB⟩)]
  .obtain⟨K,e⟩:=j;simp only[AV.sl.injEq]at e;omega
theorem Il{H:Hp}{v:AV}{l:List Int}{lo r imm:Nat}(s:Int)(L:yo H v l lo)(j:lo<=H.next)(K:H.get r=some (.cells [.int .u8 s] imm true))(z:l.length<2^39):
 ∃F H',zeV Tryz.prog false H 200 200 v (.sl r 0 1 1)=some (F,H')/\hZ H' F (l++[s]) lo/\H'.next=H.next+1/\(∀k,k<lo->H'.get k=H.get k)/\pu v F H H':=
 Zy L j (Zx (m:=[s]) K) aB cf
theorem Im(H:Hp)(n:Int):zeP Tryz.prog H 200 1 [(0,.int .u8 n)]=some (.sl H.next 0 1 1,H.alloc (.cells [.int .u8 n] 0 true)):=af
theorem bin_shr{D:BinOp->Sx->Sx->Option Bool}{t:TypeId}{k J:IntKind}{a:Int}{m:Nat}(h:m<64)(j:k=.u64):zep Tryz.prog D .shr t (.int k a) (.int J (m:Int))=some (.int k (a.fdiv (2^ m))):=by
 subst j;have e:zep Tryz.prog D .shr t (.int .u64 a) (.int J (Int.ofNat m))=some (.int .u64 (a.fdiv (2^ min m 64))):=rfl;rw[show min m 64=m by omega]at e;exact e
def ji(n:Int)(i:Nat):Int:=IntKind.wrap .u8 (n.fdiv (2^ (8*i)))
def ze6(n:Int)(i:Nat):List Int:=(List.range i).map (ji n)
theorem zf3(n:Int)(i:Nat):(ze6 n i).length=i:=by simp[ze6]
theorem In(n:Int)(i:Nat):ze6 n (i+1)=ze6 n i++[ji n i]:=by simp[ze6,List.range_succ]
def oJ(l:List Int):List UInt8:=l.map fun n=>UInt8.ofNat n.toNat
def tyV1.tyF:=ad @cN (ad @b9 (ad @uE (ad @dA (ad @ea (ad @eV (ad @A4 (ad @FD (ad @A9 (ad @FJ (ad @FL (ad @uJ (ad @FK (ad @FM (@Im))))))))))))))
open tyV1
noncomputable def Io:{c:SC // aC 20 (Tryz.f181.body.getD .skip)=c}:=by
 refine⟨?_,?_⟩;rotate_left
 .simp only[Tryz.f181,a5,aC,zdG,zdD,zdH,zdI,Nat.blt,Nat.ble];rfl
noncomputable def Ip:{c:SC // aC 29 (Tryz.f147.body.getD .skip)=c}:=by
 refine⟨?_,?_⟩;rotate_left
 .simp only[Tryz.f147,a5,aC,zdG,zdD,zdH,zdI,Nat.blt,Nat.ble];rfl
theorem Iq{cfg:Cfg}(J:Plain cfg 181)(o:cfg.keep 181=false){H:Hp}{v:AV}{b:List Int}{lo:Nat}(hv:hZ H v b lo)(z:b.length<2^38)(n:Int):
 zdw Tryz.prog cfg 181 [v,.int .u64 n] H fun w H'=>hZ H' w (b++ze6 n 8) lo/\H.next<=H'.next/\∀k,k<lo->H'.get k=H.get k:=by
 obtain⟨zdP,i0,L,_⟩:=id hv;have hone:AV.one v=true:=by rw[L];rfl
 clear L;refine zdv (M:=20) (rs:=[.tmp 4]) (J.call _) J.ice J.froz Tryz.func181 rfl rfl Io.2 rfl ?_;dsimp only[Io,zds,Nat.reduceAdd];repeat' (first
  |(apply zdk ?_;clear hK K)|apply Rx.o ?_|apply ak ?_|(apply zdl fun K hK=>?_)|apply au ?_|fail)
 refine zef [1] [] 5 8 (fun i E g=>∃w,E.at 0=w/\hZ g w (b++ze6 n i) lo/\∀k,k<lo->g.get k=H.get k) eE ⟨v,eE,by simpa [ze6]using hv,fun _ _=>rfl⟩ ?_;rintro i E g hi Y m U hsI ⟨w,zex,F,Z⟩;(try simp only[zdO,zdF,aX,zdy,zdJ,Nat.reduceBEq, *]at Y);(try simp only[zdF, *]at m);(try simp only[zdA,zdQ,zec,bC,Nat.reduceAdd]at U);by_cases O:i<8
 .have C:(i:Int)<8:=by omega
  have e1:IntKind.wrap .i64 (8*(i:Int))=((8*i:Nat):Int):=by rw[ze3 ac ac];omega
  have e2:IntKind.wrap .u64 ((8*i:Nat):Int)=((8*i:Nat):Int):=(by decide:∀i:Fin 8,IntKind.wrap .u64 ((8*i.val:Nat):Int)=((8*i.val:Nat):Int)) ⟨i,O⟩;have e4:∀(D:BinOp->Sx->Sx->Option Bool) (t:TypeId),zep Tryz.prog D .shr t (.int .u64 n) (.int .u64 ((8*i:Nat):Int))=some (.int .u64 (n.fdiv (2^ (8*i)))):=fun D t=>bin_shr ac rfl;repeat' (first
   |(apply zdk ?_;clear hK K)|apply Ry.o ?_|(apply aD (fun z V=>?_) (fun z V=>?_)<;>try(cases z;done))|apply ak ?_|(apply zdl fun K hK=>?_)|apply au ?_|apply zdm ?_|fail)
  have I:yo (g.alloc (.cells [.int .u8 (ji n i)] 0 true)) w (b++ze6 n i) lo:=.inr (F.keep (fQ _) fun k j=>by rw[zdq,ai (by have:=(F.lt j).2;omega)]);have hlo2:lo<=g.next:=by obtain⟨r,im,_,_,_,h1,h2⟩:=F;omega
  obtain⟨v5,H5,zeD,s5,n5,f5,o5⟩:=Il (r:=g.next) (imm:=0) (ji n i) I el gO (by rw[ep,zf3];omega);have n5':g.next<=H5.next:=sO
  have A:∀k,k<lo->H5.get k=H.get k:=fun k j=>by rw[f5 k j,zdq,ai ac,Z k j]
  clear n5 f5 o5;refine od zeM zeM uO ?_;repeat' (first
   |(apply zdk ?_;clear hK K)|apply Rx.o ?_|(apply zdl fun K hK=>?_)|fail)
  refine⟨ac,zdz,zdz,eN,HZ,?_⟩;exact⟨v5,eE,by rw[In,<-gB];exact s5,A⟩
 .have C:¬(i:Int)<8:=by omega
  repeat' (first
   |(apply zdk ?_;clear hK K)|apply Ry.o ?_|(apply aD (fun z V=>?_) (fun z V=>?_)<;>try(cases z;done))|apply ak ?_|(apply zdl fun K hK=>?_)|apply am ?_|apply zdr ?_)
  all_goals (refine⟨eI,_,eR,?_⟩;try simp only[zdn])
  have hie:i=8:=ac;rw[hie]at F;exact⟨F,ac,Z⟩
def pF(n:Nd):List Int:=IntKind.wrap .u8 n.op::(ze6 (IntKind.wrap .u64 n.imm) 8++n.kids.flatMap fun k=>ze6 (IntKind.wrap .u64 k) 8)
theorem Ir(n:Nd):pF n=[IntKind.wrap .u8 n.op]++ze6 (IntKind.wrap .u64 n.imm) 8++n.kids.flatMap fun k=>ze6 (IntKind.wrap .u64 k) 8:=by
 rw[pF];simp
theorem Is:∀l:List Int,pS (l.map (.int .u8))=some (oJ l)
 |[]=>rfl
 |a::l=>by
  have:=Is l;simp only[dL,pS,this];rfl
theorem It{H:Hp}{v:AV}{l:List Int}{lo:Nat}(L:hZ H v l lo):zfA Tryz.prog H 200 9 v=some (.str (oJ l)):=by
 obtain⟨r,M,rfl,C,_⟩:=L;have I:zfk H 1 (.sl r 0 l.length 1)=some (l.length,l.map (.int .u8)):=by
  have:=mn (H:=H) (r:=r) (o:=0) (n:=l.length) (z:=1) (s:=1) C aB;rw[this,dY,eJ aB]
 simp only[zfA,Tryz.underlying200,Tryz.underlying9,Tryz.underlying5,I];rw[Is]
def vm(n:Nd):List AV:=[.agg n.cells]
theorem Zz(x y:Nd)(h:vm x=vm y):x=y:=by
 simp only[vm,cR,AV.agg.injEq,aX]at h;exact nl h
theorem ZA(ρ:Nat->Int)(n:Nd)(hn:n.kids.length<2^30):bc Tryz.prog ρ 147 [.agg n.cells] (.str (oJ (pF n))):=zer fit (pls:=pls) (l:=[]) trivial (.cons (.agg n.pure) .nil) (.str _) (by
 have J:=yl 147;refine zdv (M:=29) (rs:=[.tmp 2]) (J.call _) J.ice J.froz Tryz.func147 rfl rfl Ip.2 rfl ?_;dsimp only[Ip,zds,Nat.reduceAdd];repeat' (first
  |(apply zdk ?_;clear hK K)|apply Rx.o ?_|apply ak ?_|(apply zdl fun K hK=>?_)|fail)
 refine bh rfl bm bo ?_;simp only[bJ];refine a9 ?_ (Iq (yl _) rfl (b:=[IntKind.wrap .u8 n.op]) (lo:=1) ⟨1,0,rfl,oI,cG _,aM _,ta⟩ aB _);rintro w H1 ⟨Z,n1,g⟩;have g1:H1.get 0=some (.cells n.cells 0 true):=by rw[g 0 ac];rfl
 have n1':1<=H1.next:=by simp only[zdA]at n1;omega
 clear n1 g;dsimp only[zdE];repeat' (first
  |(apply zdk ?_;clear hK K)|apply Rx.o ?_|apply ak ?_|(apply zdl fun K hK=>?_)|apply au ?_|fail)
 refine zef [1,2,16,17] [] 18 n.kids.length (fun j E H=>∃w,E.at 3=w/\hZ H w ([IntKind.wrap .u8 n.op]++ze6 (IntKind.wrap .u64 n.imm) 8++(n.kids.take j).flatMap fun k=>ze6 (IntKind.wrap .u64 k) 8) 1/\H.get 0=some (.cells n.cells 0 true)) eE ⟨w,eE,rN,g1⟩ ?_;rintro j E H2 hj Y m o hsI ⟨w2,k3,F,g2⟩;(try simp only[zdO,zdF,aX,zdy,zdJ,Nat.reduceBEq, *]at Y);(try simp only[zdF, *]at m);(try simp only[zdA,zdQ,zec,bC,Nat.reduceAdd]at o);by_cases O:j<n.kids.length
 .have C:(j:Int)<n.kids.length:=by omega
  have L:n.kids[j]?=some n.kids[j]:=aR O;have I:n.kids.take (j+1)=n.kids.take j++[n.kids[j]]:=by rw[mS,L];rfl
  have hfl:((n.kids.take j).flatMap fun k=>ze6 (IntKind.wrap .u64 k) 8).length<=8*j:=by
   rw[List.length_flatMap];simp only[zf3];have:((n.kids.take j).map fun _=>8).sum=8*(n.kids.take j).length:=by
    generalize n.kids.take j=q;induction q with
    |nil=>rfl
    |cons a q ih=>simp[ih];omega
   rw[this,iX];omega
  generalize n.kids[j]=kd at *;repeat' (first
   |(apply zdk ?_;clear hK K)|apply Ry.o ?_|(apply aD (fun z V=>?_) (fun z V=>?_)<;>try(cases z;done))|apply ak ?_|(apply zdl fun K hK=>?_)|apply au ?_|apply zdm ?_|fail)
  refine bh rfl bm bo ?_;simp only[bJ];refine a9 ?_ (Iq (yl _) rfl F HY _);rintro w3 H3 ⟨U,n3,o3⟩;have g3:H3.get 0=some (.cells n.cells 0 true):=by rw[o3 0 ac];exact g2
  dsimp only[zdE];repeat' (first
   |(apply zdk ?_;clear hK K)|apply Rx.o ?_|(apply zdl fun K hK=>?_)|fail)
  refine⟨ac,zdz,zdz,eN,pz,?_⟩;exact⟨w3,eE,by rw[I,List.flatMap_append,pm,Cd,bJ,<-gB];exact U,g3⟩
 .have C:¬(j:Int)<n.kids.length:=by omega
  have A:j=n.kids.length:=ac;subst A;rw[t3]at F;have i:=It F;rw[<-Ir]at i;repeat' (first
   |(apply zdk ?_;clear hK K)|apply Ry.o ?_|(apply aD (fun z V=>?_) (fun z V=>?_)<;>try(cases z;done))|apply ak ?_|(apply zdl fun K hK=>?_)|apply am ?_|apply zdr ?_)
  all_goals (refine⟨eI,_,eR,?_⟩;try simp only[zdn]))
end
section
theorem yp(d:Nat)(h:d<2^60):eM ((d:Int)+1)=((d+1:Nat):Int):=by unfold eM;rw[ze3 ac ac];omega
mutual
theorem Iu:∀(x:Ex) (d:Nat),d<=21->jK og x d=decide (d+iQ x<=20)
 | .mk k n s o U,d,hd=>by
   rw[jK,og,iQ];by_cases h:d<=20
   .rw[yp d ac,Iv U d h];simp only[show decide ((d:Int)<=20)=true by simpa using (by omega:(d:Int)<=20),dw]
   .have i:decide ((d:Int)<=20)=false:=by simp;omega
    rw[i,dZ];symm;simp;omega
theorem Iv:∀(l:List Ex) (d:Nat),d<=20->zfp og l ((d+1:Nat):Int)=decide (d+qL l<=20)
 |[],d,hd=>by rw[zfp,qL];symm;simpa using hd
 |e::es,d,hd=>by
  rw[zfp,Iu e (d+1) ac,Iv es d hd,qL];by_cases i:d+1+iQ e<=20<;>by_cases g:d+qL es<=20;all_goals simp only[i,g,qI,j6,pt,dw,dZ]
  all_goals (symm;simp;omega)
end
theorem Cf(x:Ex):jK og x 0=!decide ((20:Int)<iQ x):=by
 have:=Iu x 0 ac;rw[show((0:Nat):Int)=0 from rfl]at this;rw[this];by_cases h:iQ x<=20
 .have:¬(20:Int)<iQ x:=by omega
  simp[h,this]
 .have:(20:Int)<iQ x:=by omega
  simp[h,this]
theorem Iw:∀(l:List Ex),zfp og l 0=!(l.any fun e=>decide ((20:Int)<iQ e))
 |[]=>rfl
 |e::es=>by rw[zfp,Cf,Iw es,nn,tc]
mutual
theorem ZB:∀(x:St) (d:Int),iK (lF og) x d ()=(!xY x,())
 | .mk k m I n a v args A C,d=>by
   rw[iK,lF,xY];simp only[St.at_,St.value,St.args,Cf,Iw];cases i:decide ((20:Int)<iQ a)
   .cases g:decide ((20:Int)<iQ v)
    .cases o:args.any fun e=>decide ((20:Int)<iQ e)
     .simp only[gX,j6,dw,yq A];cases U:oE A
      .simp only[gX,yq C,jO,jb]
      .simp
     .simp
    .simp
   .simp
theorem yq:∀(l:List St) (d:Int),zeH (lF og) l d ()=(!oE l,())
 |[],_=>rfl
 |x::l,d=>by
  rw[zeH,ZB x,oE];cases h:xY x
  .simp only[gX,yq l,jb]
  .simp
end
def pG(k:Int):Nat:=if k=4 then 1 else 0
theorem ZC(x:St)(d n l:Nat)(m:n<2^60)(F:l<2^60):kP x d ((n:Int),(l:Int))=(decide ((d:Int)<=20)&&decide (((n+1:Nat):Int)<=200)&&decide (((l+pG x.kind:Nat):Int)<=16),(((n+1:Nat):Int),((l+pG x.kind:Nat):Int))):=by
 have J:(if x.kind=4 then eM ((l:Int)+1)else (l:Int))=((l+pG x.kind:Nat):Int):=by
  unfold pG;split
  .rw[yp l ac]
  .rfl
 unfold kP;simp only[yp n ac,J]
mutual
theorem ZD:∀(x:St) (d n l:Nat),d<=21->n<=200->l<=16 ->
 ((zeW x d<=20/\n+n1 x<=200/\l+zft x<=16)->iK kP x d ((n:Int),(l:Int))=(true,(((n+n1 x:Nat):Int),((l+zft x:Nat):Int)))) /\
 (¬(zeW x d<=20/\n+n1 x<=200/\l+zft x<=16)->(iK kP x d ((n:Int),(l:Int))).1=false)
 | .mk k m I j a v args A C,d,n,l,hd,hn,hl=>by
   have i:pG (St.mk k m I j a v args A C).kind<=1:=by unfold pG;split<;>omega
   have V:zft (.mk k m I j a v args A C)=pG (St.mk k m I j a v args A C).kind+zfb A+zfb C:=by rw[zft];rfl
   rw[iK,ZC _ _ _ _ ac ac,V];obtain⟨z,Y⟩:∃z,pG (St.mk k m I j a v args A C).kind=z:=⟨_,rfl⟩;rw[Y]at i⊢;clear Y V;simp only[yp d ac,zeW,n1];by_cases U:d<=20/\n+1<=200/\l+z<=16
   .have O:(decide ((d:Int)<=20)&&decide (((n+1:Nat):Int)<=200)&&decide (((l+z:Nat):Int)<=16))=true:=by
     rw[dC,dC];refine⟨⟨?_,?_⟩,?_⟩<;>apply cF<;>omega
    rw[O];simp only[];have t:=yr A (d+1) (n+1) (l+z) ac ac ac;by_cases Z:zfM A (d+1)<=20/\n+1+zfd A<=200/\l+z+zfb A<=16
    .rw[t.1 Z];simp only[];have u:=yr C (d+1) (n+1+zfd A) (l+z+zfb A) ac ac ac;by_cases g:zfM C (d+1)<=20/\n+1+zfd A+zfd C<=200/\l+z+zfb A+zfb C<=16
     .rw[u.1 g];refine⟨fun _=>?_,fun h=>(h ⟨ac,ac,ac⟩).elim⟩;rw[show n+1+zfd A+zfd C=n+(1+zfd A+zfd C) by omega,show l+z+zfb A+zfb C=l+(z+zfb A+zfb C) by omega]
     .refine⟨fun h=>(g ⟨ac,ac,ac⟩).elim,fun _=>u.2 g⟩
    .refine⟨fun h=>(Z ⟨ac,ac,ac⟩).elim,fun _=>?_⟩;have:=t.2 Z;generalize zeH kP A _ _=r at this⊢;obtain⟨b,s⟩:=r;simp only at this;subst this;rfl
   .have O:(decide ((d:Int)<=20)&&decide (((n+1:Nat):Int)<=200)&&decide (((l+z:Nat):Int)<=16))=false:=by
     rw[<-Bool.not_eq_true,dC,dC];rintro⟨⟨a1,zeU⟩,a3⟩;have a1:=pE a1;have zeU:=pE zeU;have a3:=pE a3;exact U ⟨ac,ac,ac⟩
    rw[O];exact⟨fun h=>(U ⟨ac,ac,ac⟩).elim,fun _=>rfl⟩
theorem yr:∀(x:List St) (d n l:Nat),d<=21->n<=200->l<=16 ->
 ((zfM x d<=20/\n+zfd x<=200/\l+zfb x<=16)->zeH kP x d ((n:Int),(l:Int))=(true,(((n+zfd x:Nat):Int),((l+zfb x:Nat):Int)))) /\
 (¬(zfM x d<=20/\n+zfd x<=200/\l+zfb x<=16)->(zeH kP x d ((n:Int),(l:Int))).1=false)
 |[],d,n,l,hd,hn,hl=>by
  rw[zeH,zfM,zfd,zfb];exact⟨fun _=>rfl,fun h=>(h ⟨ac,ac,ac⟩).elim⟩
 |x::r,d,n,l,hd,hn,hl=>by
  rw[zeH,zfM,zfd,zfb];have t:=ZD x d n l hd hn hl;by_cases i:zeW x d<=20/\n+n1 x<=200/\l+zft x<=16
  .rw[t.1 i];simp only[];have u:=yr r d (n+n1 x) (l+zft x) hd ac ac;by_cases g:zfM r d<=20/\n+n1 x+zfd r<=200/\l+zft x+zfb r<=16
   .rw[u.1 g];refine⟨fun _=>?_,fun h=>(h ⟨ac,ac,ac⟩).elim⟩;rw[show n+n1 x+zfd r=n+(n1 x+zfd r) by omega,show l+zft x+zfb r=l+(zft x+zfb r) by omega]
   .exact⟨fun h=>(g ⟨ac,ac,ac⟩).elim,fun _=>u.2 g⟩
  .refine⟨fun h=>(i ⟨ac,ac,ac⟩).elim,fun _=>?_⟩;have:=t.2 i;generalize iK kP x _ _=r at this⊢;obtain⟨b,s⟩:=r;simp only at this;subst this;rfl
end
theorem ZE(x:List St):(zeH kP x 0 (0,0)).1=(!decide ((200:Int)<zfd x) && !decide ((16:Int)<zfb x) && !decide ((20:Int)<zfM x 0)):=by
 have t:=yr x 0 0 0 ac ac ac;rw[show((0:Nat):Int)=0 from rfl]at t;simp only[bC]at t;by_cases h:zfM x 0<=20/\zfd x<=200/\zfb x<=16
 .rw[t.1 h];have i:¬(200:Int)<zfd x:=ac;have g:¬(16:Int)<zfb x:=ac;have o:¬(20:Int)<zfM x 0:=ac;simp[i,g,o]
 .rw[t.2 h]
  symm
  rw[<-Bool.not_eq_true,dC,dC];rintro⟨⟨a1,zeU⟩,a3⟩;simp only[l7,jN]at a1 zeU a3;exact h ⟨ac,ac,ac⟩
theorem ZF(f:Fu):gW f=!qV f:=by
 rw[gW,qV,lG,ZE,Cf,yq];have i:decide ((f.params.length:Int)<=6)=!decide ((6:Int)<f.params.length):=by
  by_cases h:(6:Int)<f.params.length
  .have:¬(f.params.length:Int)<=6:=by omega
   simp[h,this]
  .have:(f.params.length:Int)<=6:=by omega
   simp[h,this]
 have Z:decide ((f.locals.length:Int)<=8)=!decide ((8:Int)<f.locals.length):=by
  by_cases h:(8:Int)<f.locals.length
  .have:¬(f.locals.length:Int)<=8:=by omega
   simp[h,this]
  .have:(f.locals.length:Int)<=8:=by omega
   simp[h,this]
 rw[i,Z];simp only[tc];generalize (!decide ((6:Int)<f.params.length))=a;generalize (!decide ((8:Int)<f.locals.length))=b;generalize (!decide ((200:Int)<zfd f.body))=c;generalize (!decide ((16:Int)<zfb f.body))=d;generalize (!decide ((20:Int)<zfM f.body 0))=e;generalize (!oE f.body)=g;generalize (!decide ((20:Int)<iQ f.value))=h;cases a<;>cases b<;>cases c<;>cases d<;>cases e<;>cases g<;>cases h<;>rfl
theorem Ix{U:Type}(l:List U)(p q:U->Bool)(h:∀x,p x=!q x):l.all p=!l.any q:=by
 induction l with
 |nil=>rfl
 |cons a l ih=>rw[ox,nn,tc,h,ih]
theorem ZG(p:Pr):jc p=!sP p:=by
 rw[jc,sP,Ix p.funcs gW qV ZF,Ix p.arrays _ u6 (fun a=>by rw[u6,tc])];simp only[tc]
def zeY(p:Pr):List (List UInt8):=p.funcs.map (·.name)
def lQ(p:Pr):Bool:=zdT [] (zd9 p)||zdT [] (zeY p)||p.funcs.any fun f=>zdT [] (zd9 p++(f.params++f.locals))
theorem Iy:∀(a b seen:List (List UInt8)),zdT seen (a++b)=(zdT seen a||zdT (seen++a) b)
 |[],b,seen=>by simp[zdT]
 |x::a,b,seen=>by rw[ot,zdT,zdT,Iy a b,gB,List.singleton_append,Bi]
theorem Iz(A:List (List UInt8)):∀(j:List Fu) (seen:List (List UInt8)),pA A seen j=(zdT seen (j.map (·.name))||j.any fun f=>zdT A (f.params++f.locals))
 |[],seen=>rfl
 |f::j,seen=>by
  rw[pA,dL,zdT,nn,Iz A j];cases zdS seen f.name<;>cases zdT A (f.params++f.locals)<;>cases zdT (seen++[f.name]) (j.map (·.name))<;>rfl
theorem IA(p:Pr):lQ p=sT p:=by
 rw[lQ,sT,Iz];cases h:zdT [] (zd9 p)
 .have e:(fun f:Fu=>zdT [] (zd9 p++(f.params++f.locals)))=fun f=>zdT (zd9 p) (f.params++f.locals):=by
   funext f;rw[Iy,h];rfl
  rw[e];rfl
 .rfl
def zeZ:List Fu->List (zea×Int)->List (zea×Int)
 |[],m=>m
 |f::l,m=>zeZ l (setV m f.name f.params.length)
theorem Cg(s a:zea)(x:Int):∀m:List (zea×Int),er (setV m a x) s=if s=a then x else er m s
 |[]=>by simp[setV,er]
 |q::l=>by
  by_cases h:a=q.1
  .simp only[setV,h,bT,er];split<;>rfl
  .simp only[setV,h,cn,er,Cg s a x l];by_cases g:s=q.1
   .rw[az g,az g,ai (fun e=>h (by rw[<-e,g]))]
   .rw[ai g,ai g]
theorem IB(s a:zea)(x:Int):∀m:List (zea×Int),fB (setV m a x) s=(decide (s=a)||fB m s)
 |[]=>by
  by_cases h:s=a<;>simp[setV,fB,h]
 |q::l=>by
  by_cases h:a=q.1
  .by_cases g:s=q.1<;>simp[setV,fB,h,g]
  .have e:=IB s a x l;by_cases g:s=q.1
   .simp[setV,fB,h,g]
   .simp[setV,fB,h,g,e]
theorem zgc(a b:List (List UInt8))(s:List UInt8):zdS (a++b) s=(zdS a s||zdS b s):=by unfold zdS;rw[vk]
theorem ru(a s:List UInt8):zdS [a] s=decide (s=a):=by
 unfold zdS;simp only[nn,List.any_nil,jO];by_cases h:s=a
 .simp[h]
 .have:¬a=s:=fun e=>h e.symm;simp[h,this]
theorem IC(s:zea):∀(l:List Fu) (m:List (zea×Int)),fB (zeZ l m) s=(fB m s||zdS (l.map (·.name)) s)
 |[],m=>by simp[zeZ,zdS]
 |f::l,m=>by
  rw[zeZ,IC s l,IB,dL,show f.name::l.map (·.name)=[f.name]++l.map (·.name)from rfl,zgc,ru];cases decide (s=f.name)<;>cases fB m s<;>simp
theorem ID(s:zea):∀(l:List Fu) (m:List (zea×Int)),zdS (l.map (·.name)) s=false->er (zeZ l m) s=er m s
 |[],m,_=>rfl
 |f::l,m,h=>by
  rw[dL,show f.name::l.map (·.name)=[f.name]++l.map (·.name)from rfl,zgc,ru,lw,jN]at h;rw[zeZ,ID s l _ h.2,Cg,ai h.1]
theorem IE:∀(l seen:List (List UInt8)),zdT seen l=false->∀s,zdS seen s=true->zdS l s=false
 |[],_,_,_,_=>rfl
 |a::l,seen,h,s,hs=>by
  rw[zdT,lw]at h;rw[show a::l=[a]++l from rfl,zgc,ru,IE l _ h.2 s (by rw[zgc,hs];rfl),jO,jN];intro e;rw[<-e]at h;rw[hs]at h;simp at h
theorem IF:∀(l:List Fu) (s:List UInt8) (i:Int),0<=i->(zdS (l.map (·.name)) s=decide (0<=jw l s i))
 |[],s,i,_=>by simp[zdS,jw]
 |f::l,s,i,hi=>by
  rw[dL,show f.name::l.map (·.name)=[f.name]++l.map (·.name)from rfl,zgc,ru,jw];by_cases h:f.name=s
  .rw[az h,cF h.symm,l9];simpa using hi
  .rw[ai h,cX (fun e=>h e.symm),jb,IF l s (i+1) ac]
theorem IG(p:Pr)(s:zea):∀(l:List Fu) (seen:List (List UInt8)) (m:List (zea×Int)) (i:Nat),p.funcs.drop i=l->zdT seen (l.map (·.name))=false->0<=jw l s i ->
 ∃f,p.funcs[(jw l s i).toNat]?=some f/\er (zeZ l m) s=f.params.length
 |[],_,_,i,_,_,h=>by simp[jw]at h
 |f::l,seen,m,i,hd,hn,h=>by
  have o:i<p.funcs.length:=by
   have:=kL List.length hd;simp at this;omega
  rw[fq o,cR]at hd;rw[dL,zdT,lw]at hn;rw[jw]at h⊢;by_cases e:f.name=s
  .rw[az e];refine⟨f,?_,?_⟩
   .rw[dQ,aR o,hd.1]
   .have Z:zdS (l.map (·.name)) s=false:=IE _ _ hn.2 s (by rw[zgc,ru,cF e.symm,yn]);rw[zeZ,ID s l _ Z,Cg,az e.symm]
  .rw[ai e]at h⊢;exact IG p s l (seen++[f.name]) _ (i+1) hd.2 hn.2 h
theorem ZH(p:Pr)(s:zea):fB (zeZ p.funcs []) s=decide (0<=jw p.funcs s 0):=by
 rw[IC,IF _ _ 0 ac];rfl
theorem ZI{p:Pr}(hd:zdT [] (zeY p)=false){s:zea}(h:0<=jw p.funcs s 0):er (zeZ p.funcs []) s=sU p s:=by
 obtain⟨f,i,g⟩:=IG p s p.funcs [] [] 0 rfl hd h;have I:p.funcs[(jw p.funcs s 0).toNat]?=some f:=i;rw[g,sU,I];rfl
def kC(O:List (zea×Int))(vs A:List (List UInt8))(x:St)(_:Int)(w:Bool):Bool×Bool:=
 if x.kind=1 then (zdS vs x.name,w)
 else if x.kind=2 then (zdS A x.name,w)
 else if x.kind=6 then (fB O x.to&&zdS vs x.name,w||(fB O x.to && !decide (er O x.to=(x.args.length:Int))))
 else (true,w)
def oL(O:List (zea×Int))(A:List (List UInt8)):List Fu->Bool->Int
 |[],w=>if w=true then 5 else 0
 |f::fs,w=>if lG (fun x _=>kA (f.params++f.locals) A x) f=true/\(zeH (kC O (f.params++f.locals) A) f.body 0 w).1=true then oL O A fs (zeH (kC O (f.params++f.locals) A) f.body 0 w).2 else 3
def rx(p:Pr):Int:=oL (zeZ p.funcs []) (zd9 p) p.funcs false
def Ch(p:Pr):Int:=if jc p=false then 6 else if kz p=false then 2 else if lQ p=true then 4 else rx p
mutual
theorem Ci(vs A:List (List UInt8)):∀(x:Ex) (d:Int),jK (fun x _=>kA vs A x) x d=jU vs A x
 | .mk k n s o U,d=>by rw[jK,jU,Cj vs A U,Bool.and_comm]
theorem Cj(vs A:List (List UInt8)):∀(l:List Ex) (d:Int),zfp (fun x _=>kA vs A x) l d=oG vs A l
 |[],_=>rfl
 |x::l,d=>by rw[zfp,oG,Ci vs A x,Cj vs A l]
end
section
variable (c:Sc)
mutual
def ry:St->Bool
 | .mk _ _ _ _ a v args A C=>jU c.vars c.an a&&jU c.vars c.an v&&oG c.vars c.an args&&kY A&&kY C
def kY:List St->Bool
 |[]=>true
 |x::l=>ry x&&kY l
end
mutual
def pH:St->Bool
 | .mk k m I n a v args A C=>qW c (.mk k m I n a v args A C)&&iS A&&iS C
def iS:List St->Bool
 |[]=>true
 |x::l=>pH x&&iS l
end
mutual
theorem ZJ:∀(x:St) (d:Int),iK (lF fun x _=>kA c.vars c.an x) x d ()=(ry c x,())
 | .mk k m I n a v args A C,d=>by
   rw[iK,lF,ry];simp only[St.at_,St.value,St.args,Ci,Cj];cases h:jU c.vars c.an a&&jU c.vars c.an v&&oG c.vars c.an args
   .simp
   .simp only[yu A,dw];cases g:kY c A
    .simp
    .simp only[yu C,dw]
theorem yu:∀(l:List St) (d:Int),zeH (lF fun x _=>kA c.vars c.an x) l d ()=(kY c l,())
 |[],_=>rfl
 |x::l,d=>by
  rw[zeH,ZJ x,kY];cases h:ry c x
  .simp
  .simp only[yu l,dw]
end
mutual
theorem ZK:∀x:St,qX c false x=(ry c x&&pH c x)
 | .mk k m I n a v args A C=>by
   rw[qX,ry,pH,yw A,yw C,pd,GZ];simp only[St.at_,St.value,St.args];cases jU c.vars c.an a<;>cases jU c.vars c.an v<;>cases oG c.vars c.an args<;>cases qW c (.mk k m I n a v args A C)<;>cases kY c A<;>cases iS c A<;>cases kY c C<;>cases iS c C<;>rfl
theorem yw:∀l:List St,jz c false l=(kY c l&&iS c l)
 |[]=>rfl
 |x::l=>by
  rw[jz,kY,iS,ZK x,yw l];cases ry c x<;>cases pH c x<;>cases kY c l<;>cases iS c l<;>rfl
end
end
theorem ZL{p:Pr}(hd:zdT [] (zeY p)=false)(c:Sc)(O:c.p=p)(x:St)(d:Int)(w:Bool):
 (qW c x=true->kC (zeZ p.funcs []) c.vars c.an x d w=(true,w || !sV p x))/\(qW c x=false->(kC (zeZ p.funcs []) c.vars c.an x d w).1=false):=by
 unfold kC qW sV;rw[O];by_cases i:x.kind=1
 .have F:¬x.kind=6:=by omega
  simp only[i,bT,Int.reduceEq,gA,dZ,gX,lC,jO];exact⟨fun h=>by rw[h],fun h=>h⟩
 .by_cases F:x.kind=6
  .simp only[F,Int.reduceEq,cn,bT,ll,dw,Bool.not_not,ZH];cases h:decide (0<=jw p.funcs x.to 0)
   .simp
   .rw[ZI hd (pE h),j6,dw,dw];refine⟨fun h=>?_,fun h=>h⟩;rw[h];have e:decide ((sU p x.to:Int)=(x.args.length:Int))=decide ((x.args.length:Int)=(sU p x.to:Int)):=by
     by_cases q:(sU p x.to:Int)=(x.args.length:Int)
     .rw[cF q,cF q.symm]
     .rw[cX q,cX (fun e=>q e.symm)]
    rw[e]
  .by_cases g:x.kind=2
   .simp only[g,Int.reduceEq,cn,bT,gA,dZ,gX,lC,jO];exact⟨fun h=>by rw[h],fun h=>h⟩
   .simp only[i,g,F,cn,gA,dZ,gX,lC,jO];exact⟨fun _=>aB,fun h=>jp⟩
section
variable {p:Pr} (hd:zdT [] (zeY p)=false) (c:Sc) (hc:c.p=p)
include hd hc
mutual
theorem ZM:∀(x:St) (d:Int) (w:Bool),(pH c x=true->iK (kC (zeZ p.funcs []) c.vars c.an) x d w=(true,w || !qX c true x))/\(pH c x=false->(iK (kC (zeZ p.funcs []) c.vars c.an) x d w).1=false)
 | .mk k m I n a v args A C,d,w=>by
   have Z:=ZL hd c hc (.mk k m I n a v args A C) d w;rw[iK,pH,qX,gk,hc];cases O:qW c (.mk k m I n a v args A C)
   .have:=Z.2 O;generalize kC _ _ _ _ _ _=r at this⊢;obtain⟨b,s⟩:=r;simp only at this;subst this;simp
   .rw[Z.1 O];simp only[dw];have i:=yx A (eM (d+1)) (w || !sV p (.mk k m I n a v args A C));cases Y:iS c A
    .have:=i.2 Y;generalize zeH _ A _ _=r at this⊢;obtain⟨b,s⟩:=r;simp only at this;subst this;simp
    .rw[i.1 Y];simp only[dw];have g:=yx C (eM (d+1)) ((w || !sV p (.mk k m I n a v args A C)) || !jz c true A);cases V:iS c C
     .exact⟨fun h=>jp,fun _=>g.2 V⟩
     .refine⟨fun _=>?_,fun h=>jp⟩;rw[g.1 V]
      congr 1
      cases w<;>cases sV p (.mk k m I n a v args A C)<;>cases jz c true A<;>cases jz c true C<;>rfl
theorem yx:∀(l:List St) (d:Int) (w:Bool),(iS c l=true->zeH (kC (zeZ p.funcs []) c.vars c.an) l d w=(true,w || !jz c true l))/\(iS c l=false->(zeH (kC (zeZ p.funcs []) c.vars c.an) l d w).1=false)
 |[],d,w=>by
  rw[zeH,iS,jz];exact⟨fun _=>aB,fun h=>jp⟩
 |x::l,d,w=>by
  have A:=ZM x d w;rw[zeH,iS,jz];cases O:pH c x
  .have:=A.2 O;generalize iK _ x _ _=r at this⊢;obtain⟨b,s⟩:=r;simp only at this;subst this;simp
  .rw[A.1 O];simp only[dw];have g:=yx l d (w || !qX c true x);cases C:iS c l
   .exact⟨fun h=>jp,fun _=>g.2 C⟩
   .refine⟨fun _=>?_,fun h=>jp⟩;rw[g.1 C]
    congr 1
    cases w<;>cases qX c true x<;>cases jz c true l<;>rfl
end
end
theorem II{p:Pr}(hd:zdT [] (zeY p)=false):∀(l:List Fu) (w:Bool),oL (zeZ p.funcs []) (zd9 p) l w=if l.any (sW p)=true then 3 else if (w||l.any (u9 p))=true then 5 else 0
 |[],w=>by simp[oL]
 |f::fs,w=>by
  have j:=yx hd (kU p f) rfl f.body 0 w;have L:(kU p f).vars=f.params++f.locals:=rfl;have J:(kU p f).an=zd9 p:=rfl;rw[L,J]at j;have M:lG (fun x _=>kA (f.params++f.locals) (zd9 p) x) f=(jU (f.params++f.locals) (zd9 p) f.value&&kY (kU p f) f.body):=by
   rw[lG,Ci];have:=yu (kU p f) f.body 0;rw[L,J]at this;rw[this]
  have K:sW p f=!(lG (fun x _=>kA (f.params++f.locals) (zd9 p) x) f&&iS (kU p f) f.body):=by
   rw[sW,M,yw,L,J];cases jU (f.params++f.locals) (zd9 p) f.value<;>cases kY (kU p f) f.body<;>cases iS (kU p f) f.body<;>rfl
  rw[oL,nn,nn,K];cases i:lG (fun x _=>kA (f.params++f.locals) (zd9 p) x) f
  .simp
  .cases g:iS (kU p f) f.body
   .simp[j.2 g]
   .rw[j.1 g];simp only[mX,bT,qf,lC,jb];rw[II hd fs]
    congr 2
    rw[u9];cases w<;>simp
theorem ZN(p:Pr):Ch p=nB p:=by
 unfold Ch nB;rw[ZG,IA];cases i:sP p
 .simp only[gX,ls,cC,cn];cases g:kz p
  .rfl
  .simp only[ls,cn];cases o:sT p
   .simp only[cC,cn];have hd:zdT [] (zeY p)=false:=by
     rw[<-IA,lQ,lw,lw]at o;exact o.1.2
    rw[rx,II hd];simp
   .rfl
 .rfl
def tyP4e.tyF:=ad @b9 (ad @dA (ad @iq (ad @na (ad @kj (ad @ko (ad @iM (ad @gF (ad @ng (ad @A7 (ad @kQ (ad @xu (@Yx))))))))))))
open tyP4e
noncomputable def IJ:{c:SC // aC 28 (Tryz.f133.body.getD .skip)=c}:=by
 refine⟨?_,?_⟩;rotate_left
 .simp only[Tryz.f133,a5,aC,zdG,zdD,zdH,zdI,Nat.blt,Nat.ble];rfl
noncomputable def IK:{c:SC // aC 38 (Tryz.f132.body.getD .skip)=c}:=by
 refine⟨?_,?_⟩;rotate_left
 .simp only[Tryz.f132,a5,aC,zdG,zdD,zdH,zdI,Nat.blt,Nat.ble];rfl
noncomputable def IL:{c:SC // aC 35 (Tryz.f87.body.getD .skip)=c}:=by
 refine⟨?_,?_⟩;rotate_left
 .simp only[Tryz.f87,a5,aC,zdG,zdD,zdH,zdI,Nat.blt,Nat.ble];rfl
def eF(l:List (List UInt8)):List (AV×AV):=l.map fun s=>(.str s,.bool true)
def nG(l:List (List UInt8))(s:List UInt8):List (List UInt8):=if zdS l s=true then l else l++[s]
theorem vn(s:List UInt8):∀(l:List (List UInt8)) (i:Nat),(zdS l s=false->jn .string (.str s) (eF l) i=some none)/\(zdS l s=true->∃j,jn .string (.str s) (eF l) i=some (some (i+j,.bool true))/\(eF l).set j (.str s,.bool true)=eF l)
 |[],i=>⟨fun _=>rfl,fun h=>by simp[zdS]at h⟩
 |a::l,i=>by
  have o:zdS (a::l) s=(decide (s=a)||zdS l s):=by rw[show a::l=[a]++l from rfl,zgc,ru]
  by_cases h:s=a
  .subst h;rw[o,cF rfl,l9];refine⟨fun h=>jp,fun _=>⟨0,?_,?_⟩⟩
   .simp[eF,jn,lb]
   .simp[eF]
  .have m:jn .string (.str s) (eF (a::l)) i=jn .string (.str s) (eF l) (i+1):=by
    show jn .string (.str s) ((.str a,.bool true)::eF l) i=_;have:(s == a)=false:=ja;simp[jn,lb,this]
   rw[o,cX h,jb,m];obtain⟨V,g⟩:=vn s l (i+1);refine⟨V,fun q=>?_⟩;obtain⟨j,O,Z⟩:=g q;exact⟨j+1,by rw[O,show i+1+j=i+(j+1) by omega],by show(AV.str a,AV.bool true)::(eF l).set j _=_;rw[Z];rfl⟩
theorem rz{H:Hp}{r:Nat}{l:List (List UInt8)}(C:H.get r=some (.map (eF l)))(s:List UInt8):zfv Tryz.prog H 198 (.map r) (.str s) false=some (.bool (zdS l s)):=by
 obtain⟨l1,l2⟩:=EG (P:=Tryz.prog) (H:=H) (t:=198) (nm:=s) (z:=.bool false) Tryz.underlying198 af af C;cases h:zdS l s with
 |false=>rw[l1 ((vn s l 0).1 h)]
 |true=>obtain⟨j,i,g⟩:=(vn s l 0).2 h;rw[l2 _ _ i]
theorem Ck{H:Hp}{r:Nat}{l:List (List UInt8)}(C:H.get r=some (.map (eF l)))(s:List UInt8):zfS Tryz.prog H 198 (.map r) (.str s) (.bool true)=some (H.set r (.map (eF (nG l s)))):=by
 obtain⟨l1,l2⟩:=AB (P:=Tryz.prog) (H:=H) (t:=198) (nm:=s) (x:=.bool true) Tryz.underlying198 af C;cases h:zdS l s with
 |false=>rw[l1 ((vn s l 0).1 h),nG,h];simp[eF]
 |true=>obtain⟨j,i,g⟩:=(vn s l 0).2 h;rw[l2 _ _ i,bC,g,nG,az h]
def rwE(x:List (List (List UInt8))):List AV:=[.lst (x.map fun l=>[zeE l])]
theorem ZO(x y:List (List (List UInt8)))(h:rwE x=rwE y):x=y:=by
 simp only[rwE,cR,AV.lst.injEq,aX]at h;exact zfO (fun a _ b e=>by simp only[cR,AV.lst.injEq,aX]at e;exact xC e) h
def yy(x:List (List (List UInt8))):Prop:=x.length<2^60/\∀l∈x,l.length<2^60
theorem ZP(x:List (List (List UInt8))):ee (.lst (x.map fun l=>[zeE l])):=.map fun l _=>.cons (uN l) .nil
theorem ZQ(ρ:Nat->Int)(x:List (List (List UInt8)))(hx:yy x):bc Tryz.prog ρ 133 (rwE x) (.bool (zdT [] x.flatten)):=zer fit (pls:=pls) (l:=[]) trivial (.cons (ZP x) .nil) (.bool _) (by
 have A:=yl 133;obtain⟨hx1,C⟩:=hx;rw[rwE];refine zdv (M:=28) (rs:=[.tmp 2]) (A.call _) A.ice A.froz Tryz.func133 rfl rfl IJ.2 rfl ?_;dsimp only[IJ,zds,Nat.reduceAdd];repeat' (first
  |(apply zdk ?_;clear hK K)|apply Rx.o ?_|apply ak ?_|(apply zdl fun K hK=>?_)|apply au ?_|fail)
 refine zef [3,9,10] [] 11 x.length (fun i E H=>∃seen,H.get 0=some (.map (eF seen))/\zdT [] x.flatten=zdT seen (x.drop i).flatten) eE ⟨[],oI,rfl⟩ ?_;rintro i E H2 hi U m o F ⟨seen,J,Y⟩;(try simp only[zdO,zdF,aX,zdy,zdJ,Nat.reduceBEq, *]at U);(try simp only[zdF,zdJ, *]at m);(try simp only[zdA,zec,bC]at o);repeat' (first
  |(apply zdk ?_;clear hK K)|apply Rx.o ?_|(apply aS (fun Z V=>?_) (fun Z V=>?_)<;>try(cases Z;done))|apply ak ?_|(apply zdl fun K hK=>?_)|apply au ?_|apply zdm ?_|apply am ?_|apply zdr ?_)
 .have L:i<x.length:=by simpa using Z
  have hgx:x[i]?=some x[i]:=aR L;have hsm:=C _ (dr L);have O:(x.drop i).flatten=x[i]++(x.drop (i+1)).flatten:=by rw[fq L,lA]
  rw[O]at Y;clear O;generalize x[i]=z at *;repeat' (first
   |(apply zdk ?_;clear hK K)|apply Rx.o ?_|apply ak ?_|(apply zdl fun K hK=>?_)|apply au ?_|fail)
  refine zef [3,9,10,11,15,16] [] 17 z.length (fun j E H=>∃seen,H.get 0=some (.map (eF seen))/\zdT [] x.flatten=zdT seen (z.drop j++(x.drop (i+1)).flatten)) eE ⟨seen,J,Y⟩ ?_;clear J Y seen;rintro j E3 H3 hj U m o F ⟨seen,J,Y⟩;(try simp only[zdO,zdF,aX,zdy,zdJ,Nat.reduceBEq, *]at U);(try simp only[zdF, *]at m);(try simp only[zdA,zdQ,zec,bC,Nat.reduceAdd]at o);repeat' (first
   |(apply zdk ?_;clear hK K)|apply Rx.o ?_|(apply aS (fun Z V=>?_) (fun Z V=>?_)<;>try(cases Z;done))|apply ak ?_|(apply zdl fun K hK=>?_)|apply au ?_|apply zdm ?_|apply zdr ?_)
  .have I:j<z.length:=by simpa using Z
   have hgx2:z[j]?=some z[j]:=aR I;have O:zdT seen (z.drop j++(x.drop (i+1)).flatten)=(zdS seen z[j]||zdT (seen++[z[j]]) (z.drop (j+1)++(x.drop (i+1)).flatten)):=by rw[fq I];rfl
   have hlk:=rz J z[j];have hup:=Ck J z[j];repeat' (first
    |(apply zdk ?_;clear hK K)|apply Rx.o ?_|apply bp ?_|(apply aS (fun Z V=>?_) (fun Z V=>?_)<;>try(cases Z;done))|apply ak ?_|(apply zdl fun K hK=>?_)|apply zdm ?_|apply am ?_|fail)
   .all_goals (refine⟨eI,_,eR,?_⟩;try simp only[zdn])
    rw[Y,O];(try simp only[fl]at *);simp only[*,l9,]
   .refine⟨ac,zdz,zdz,eN,H0,?_⟩;refine⟨nG seen z[j],vi,?_⟩;rw[Y,O,nG];(try simp only[fl]at *);simp only[*,jb,];rfl
  .have g:j=z.length:=by simp at Z;omega
   repeat' (first
    |(apply zdk ?_;clear hK K)|fail)
   refine⟨ac,zdz,zdz,eN,H9,?_⟩;exact⟨seen,J,by rw[Y,g,jR,lX]⟩
 .all_goals (refine⟨eI,_,eR,?_⟩;try simp only[zdn])
  have hie:i=x.length:=by simp at Z;omega
  rw[Y,hie,jR];rfl)
def pI(l:List (List UInt8)):AV:=if l=[]then .nilS else zeE l
def nH(H:Hp)(v:AV)(l:List (List UInt8))(lo:Nat):Prop:=(v=.nilS/\l=[])\/(l≠[]/\lM H v l lo)
theorem nH.n{H:Hp}{v:AV}{l:List (List UInt8)}{lo:Nat}(h:nH H v l lo):nr H v l lo:=h.imp id fun h=>h.2
theorem nH.keep{H H':Hp}{v:AV}{l:List (List UInt8)}{lo:Nat}(h:nH H v l lo)(m:H.next<=H'.next)(C:∀k,zeG v k->H'.get k=H.get k):nH H' v l lo:=h.imp id fun h=>⟨h.1,h.2.keep m C⟩
theorem IM(H:Hp)(n:Nat):∀l:List (List UInt8),iceL (iceV H (n+1)) (l.map .str)=some (l.map .str)
 |[]=>rfl
 |a::l=>by
  have:=IM H n l;have e:iceV H (n+1) (.str a)=some (.str a):=rfl;simp only[dL,iceL,e,this]
theorem nH.iceV{H:Hp}{v:AV}{l:List (List UInt8)}{lo:Nat}(h:nH H v l lo)(n:Nat):iceV H (n+2) v=some (pI l):=by
 rcases h with⟨rfl,rfl⟩|⟨A,r,j,rfl,g,_⟩
 .rfl
 .have e:Ab.iceV H (n+2) (.sl r 0 l.length 1)=match H.get r with
   |some (.cells Y _ _)=>match iceL (Ab.iceV H (n+1)) ((Y.drop 0).take (l.length*1))with
    |some K=>if K.length=l.length*1 then some (.lst (jd 1 l.length K))else none
    |none=>none
   |_=>none:=rfl
  rw[e,g];simp only[dY,gD];rw[eJ aB,IM];simp only[cE,bT,Xs];rw[pI,ai A]
theorem IN(n:Nat)(l:List (List UInt8)):bF (n+2) (pI l)=zeE l:=by
 unfold pI;split
 .rename_i h;subst h;rfl
 .show AV.lst ((l.map fun s=>[AV.str s]).map fun z=>z.map (bF (n+1)))=_;rw[pc];rfl
set_option maxRecDepth 100000 in
theorem ZR(ρ:Nat->Int)(p:Pr)(hz:p.sz<2^36):bc Tryz.prog ρ 132 (fv p) (.tup [zeE (zd9 p),zeE (zeY p)]):=Bn (n:=3) (zgb (r:=.tup [pI (zd9 p),pI (zeY p)]) (m:=3) (cfg:=zdp pls []) fit (lE ρ) (fun f args r h=>by simp[zdp,zem]at h) (.cons (.agg p.pure) .nil) (by
 have hw:=yl 132;have o:(zdp pls []).keep 132=false:=rfl;have hpz:p.sz=1+kO p.arrays+kN p.funcs:=rfl;have hla:=se p.arrays;have hlf:=sd p.funcs;rw[fv];refine zdv (M:=38) (rs:=[.tmp 2,.tmp 3]) (hw.call _) hw.ice hw.froz Tryz.func132 rfl rfl IK.2 rfl ?_;dsimp only[IK,zds,Nat.reduceAdd];repeat' (first
  |(apply zdk ?_;clear hK K)|apply Rx.o ?_|apply ak ?_|(apply zdl fun K hK=>?_)|apply au ?_|fail)
 refine zef [1,2,3,5,11,12] [0] 13 p.arrays.length (fun i E H=>∃v,E.at 4=v/\nH H v ((zd9 p).take i) 1) eE ⟨.nilS,eE,.inl ⟨rfl,rfl⟩⟩ ?_;rintro i E g hi F V C hsI ⟨v,zfZ,hv⟩;(try simp only[zdO,zdF,aX,zdy,zdJ,Nat.reduceBEq, *]at F);(try simp only[zdO,zdF,aX,zdy,zdJ, *]at V);(try simp only[zdA,zec,bC]at C);have hB0:(0 == g.next)=false:=zdC ac;have hC0:(g.next == 0)=false:=zdC ac;repeat' (first
  |(apply zdk ?_;clear hK K)|apply Rx.o ?_|(apply aS (fun z L=>?_) (fun z L=>?_)<;>try(cases z;done))|apply ak ?_|(apply zdl fun K hK=>?_)|apply au ?_|apply zdm ?_|apply zdr ?_)
 .have A:i<p.arrays.length:=by simpa using z
  have hgx:p.arrays[i]?=some p.arrays[i]:=aR A;have I:(zd9 p).take (i+1)=(zd9 p).take i++[p.arrays[i].name]:=by rw[zd9,mS,dK,hgx];rfl
  repeat' (first
   |(apply zdk ?_;clear hK K)|apply Rx.o ?_|apply bp ?_|(apply zdl fun K hK=>?_)|fail)
  generalize Y:Hp.alloc (Hp.set _ _ _) _=J;have nb:J.next=g.next+2:=by rw[<-Y];rfl
  have Z:∀k,k<g.next->J.get k=g.get k:=fun k j=>Ia
  have gb:J.get (g.next+1)=some (.cells [.str p.arrays[i].name] 0 true):=by rw[<-Y,zdq,az dj]
  clear Y;have hvb:nr J v ((zd9 p).take i) 1:=hv.n.keep ac fun k j=>Z k (hv.n.lt j).2;obtain⟨v5,H5,zeD,s5,n5,f5,o5⟩:=Gn (r:=g.next+1) (imm:=0) p.arrays[i].name hvb ac gb cf;have n5':J.next<=H5.next:=ac
  clear n5;have g50:H5.get 0=some (.cells p.cells 0 true):=by rw[f5 0 ac,Z 0 ac];exact V
  refine od zeM zeM uO ?_;repeat' (first
   |(apply zdk ?_;clear hK K)|apply Rx.o ?_|(apply zdl fun K hK=>?_)|fail)
  refine⟨ac,zdz,zdz,eN,Ib,?_⟩;exact⟨v5,eE,.inr ⟨by rw[I];simp,by rw[I];exact s5⟩⟩
 .have hie:i=p.arrays.length:=by simp at z;omega
  have O:(zd9 p).take i=zd9 p:=eJ (by simp[zd9];omega);rw[O]at hv;clear O hie hsI hi;repeat' (first
   |(apply zdk ?_;clear hK K)|fail)
  have c3:∀k,zeG v k->k<g.next:=fun k j=>(hv.n.lt j).2
  refine zef [2,3,4,24,25] [0] 26 p.funcs.length (fun i E H=>∃u,E.at 5=u/\nH H u ((zeY p).take i) g.next/\nH H v (zd9 p) 1) eE ⟨.nilS,eE,.inl ⟨rfl,rfl⟩,hv⟩ ?_;rintro i E U hi F V C hsI ⟨u,zfi,hu,hv3⟩;(try simp only[zdO,zdF,aX,zdy,zdJ,Nat.reduceBEq, *]at F);(try simp only[zdO,zdF,aX, *]at V);(try simp only[zdA,zdQ,zec,bC,Nat.reduceAdd]at C);have hB0:(0 == U.next)=false:=zdC ac;have hC0:(U.next == 0)=false:=zdC ac;repeat' (first
   |(apply zdk ?_;clear hK K)|apply Rx.o ?_|(apply aS (fun z L=>?_) (fun z L=>?_)<;>try(cases z;done))|apply ak ?_|(apply zdl fun K hK=>?_)|apply au ?_|apply zdm ?_|apply am ?_|apply zdr ?_)
  .have A:i<p.funcs.length:=by simpa using z
   have hgx:p.funcs[i]?=some p.funcs[i]:=aR A;have I:(zeY p).take (i+1)=(zeY p).take i++[p.funcs[i].name]:=by rw[zeY,mS,dK,hgx];rfl
   repeat' (first
    |(apply zdk ?_;clear hK K)|apply Rx.o ?_|apply bp ?_|(apply zdl fun K hK=>?_)|fail)
   generalize Y:Hp.alloc (Hp.set _ _ _) _=J;have nb:J.next=U.next+2:=by rw[<-Y];rfl
   have Z:∀k,k<U.next->J.get k=U.get k:=fun k j=>Ia
   have gb:J.get (U.next+1)=some (.cells [.str p.funcs[i].name] 0 true):=by rw[<-Y,zdq,az dj]
   clear Y;have hub:nr J u ((zeY p).take i) g.next:=hu.n.keep ac fun k j=>Z k (hu.n.lt j).2
   obtain⟨v5,H5,zeD,s5,n5,f5,o5⟩:=Gn (r:=U.next+1) (imm:=0) p.funcs[i].name hub ac gb cf;have n5':J.next<=H5.next:=ac
   clear n5;have g50:H5.get 0=some (.cells p.cells 0 true):=by rw[f5 0 ac,Z 0 ac];exact V
   refine od zeM zeM uO ?_;repeat' (first
    |(apply zdk ?_;clear hK K)|apply Rx.o ?_|(apply zdl fun K hK=>?_)|fail)
   refine⟨ac,zdz,zdz,eN,vj,?_⟩;exact⟨v5,eE,.inr ⟨by rw[I];simp,by rw[I];exact s5⟩,hv3.keep ac fun k j=>by rw[f5 k (c3 k j),Z k (by have:=c3 k j;omega)]⟩
  .have hie:i=p.funcs.length:=by simp at z;omega
   have O:(zeY p).take i=zeY p:=eJ (by simp[zeY];omega);rw[O]at hu;repeat' (first
    |(apply zdk ?_;clear hK K)|fail)
   all_goals (refine⟨eI,_,eR,?_⟩;try simp only[zdn])
   have e1:=hv3.iceV (n:=0);have e2:=hu.iceV (n:=0);show(match iceL (iceV U 2) [v,u]with|some ds=>some (AV.tup ds)|none=>none)=_;simp only[iceL,e1,e2])) (by
 show AV.tup [bF 2 (pI (zd9 p)),bF 2 (pI (zeY p))]=_;rw[IN,IN])
noncomputable def Cl:En:=⟨132,false,b7 (fun p=>p.sz<2^36) fv fun p=>.tup [zeE (zd9 p),zeE (zeY p)]⟩
theorem IP(ρ:Nat->Int):yO Tryz.prog ρ Cl:=zei fun p hp=>ZR ρ p hp
noncomputable def Cm:En:=⟨133,true,b7 yy rwE fun x=>.bool (zdT [] x.flatten)⟩
theorem ZS(ρ:Nat->Int):yO Tryz.prog ρ Cm:=zei fun x I=>ZQ ρ x I
theorem IQ(x:List (List (List UInt8))):(x.map fun l=>[zeE l]).flatten=x.map zeE:=by
 induction x with
 |nil=>rfl
 |cons a l ih=>simp[ih]
theorem ZT{H:Hp}{r imm:Nat}{x:List (List (List UInt8))}(C:H.get r=some (.cells (x.map zeE) imm true))(hr:r<H.next)(A:imm<=x.length):
 ∃H',iC (fG 100) [.sl r 0 x.length 1] H=some (rwE x,H')/\Icy (fun k=>k=r) H H':=by
 refine zee.iceL (S:=fun k=>k=r) (n:=100) (m:=rwE x) ⟨?_,trivial⟩;have h:=zee.rows (S:=fun k=>k=r) (n:=99) (H:=H) (r:=r) (z:=1) (imm:=imm) (tip:=true) (a:=x.map fun l=>[zeE l]) (b:=x.map fun l=>[zeE l]) rfl hr (by rw[IQ];exact C) (by rw[IQ];simpa using A) aB (zdW.refl fun a J=>zdW.refl fun c hc=>by
  obtain⟨l,_,rfl⟩:=l8.1 J;rw[uA]at hc;subst hc;exact lN ⟨uN l,trivial⟩)
 rw[cE]at h;exact h
theorem Cn{l:List En}(F:∀C,zem l 133 C=Cm.sp C)(Z:ir l 133=true){H:Hp}{r imm:Nat}{x:List (List (List UInt8))}(Y:H.get r=some (.cells (x.map zeE) imm true))(hr:r<H.next)(A:imm<=x.length)(I:yy x):
 zdw Tryz.prog (zdp pls l) 133 [.sl r 0 x.length 1] H fun v H'=>v=.bool (zdT [] x.flatten)/\Icy (fun k=>k=r) H H':=by
 obtain⟨H',i,g⟩:=ZT Y hr A;refine a9 ?_ (Xb (enc:=rwE) (out:=fun x=>.bool (zdT [] x.flatten)) ZO (x:=x) F Z I (H':=H') (fun y _ e=>by simp[rwE]at e) i);rintro v _ ⟨rfl,rfl⟩;exact⟨rfl,g⟩
theorem Co(H:Hp)(a:List (List AV)):zeP Tryz.prog H 230 1 [(0,.lst a)]=some (.sl H.next 0 1 1,H.alloc (.cells [.lst a] 0 true)):=af
theorem ZU(H:Hp)(a b:List (List AV)):zeP Tryz.prog H 230 2 [(0,.lst a),(1,.lst b)]=some (.sl H.next 0 2 1,H.alloc (.cells [.lst a,.lst b] 0 true)):=af
theorem ZV(H:Hp)(a b c:List (List AV)):zeP Tryz.prog H 230 3 [(0,.lst a),(1,.lst b),(2,.lst c)]=some (.sl H.next 0 3 1,H.alloc (.cells [.lst a,.lst b,.lst c] 0 true)):=af
noncomputable def Cp:List En:=[Cl,Cm]
theorem ZW(ρ:Nat->Int):fk Tryz.prog ρ Cp:=⟨IP ρ,ZS ρ,trivial⟩
set_option maxRecDepth 100000 in
theorem ZX(ρ:Nat->Int)(p:Pr)(hz:p.sz<2^36):bc Tryz.prog ρ 87 (fv p) (.bool (lQ p)):=zer fit (pls:=pls) (ZW ρ) (.cons (.agg p.pure) .nil) (.bool _) (by
 have F:Plain (zdp pls Cp) 87:=zej (fun _=>rfl) rfl;have kd:∀H,zdw Tryz.prog (zdp pls Cp) 132 [.agg p.cells] H fun v H'=>v=.tup [zeE (zd9 p),zeE (zeY p)]/\H'=H:=fun H=>zeq (enc:=fv) (out:=fun p=>.tup [zeE (zd9 p),zeE (zeY p)]) qU (x:=p) rfl hz;have hpz:p.sz=1+kO p.arrays+kN p.funcs:=rfl;have hla:=se p.arrays;have hlf:=sd p.funcs;have hal:(zd9 p).length=p.arrays.length:=by simp[zd9]
 have hfl:(zeY p).length=p.funcs.length:=by simp[zeY]
 have hx0:∀a b,Ab.extract (.tup [a,b]) 0=some a:=fun _ _=>rfl;have hx1:∀a b,Ab.extract (.tup [a,b]) 1=some b:=fun _ _=>rfl;rw[fv];refine zdv (M:=35) (rs:=[.tmp 2]) (F.call _) F.ice F.froz Tryz.func87 rfl rfl IL.2 rfl ?_;dsimp only[IL,zds,Nat.reduceAdd];have j:=@Co;repeat' (first
  |(apply zdk ?_;clear hK K)|apply Rx.o ?_|(apply iO ?_;first|refine Rx.k (kd _) ?_)|apply ak ?_|(apply zdl fun K hK=>?_)|fail)
 refine bh rfl bm bo ?_;simp only[bJ];refine a9 ?_ (Cn (x:=[zd9 p]) (imm:=0) (fun _=>rfl) rfl oI (cP _) aB ⟨aB,cf⟩);rintro v H2 ⟨rfl,O⟩;have n2:=O.next
 simp only[zdA,zec]at n2;have C:H2.get 0=some (.cells p.cells 0 true):=by rw[O.out 0 aB,zdq,ai aB,zdq,az dj]
 have n2':2<=H2.next:=ac
 clear O n2;rw[show([zd9 p]:List (List (List UInt8))).flatten=zd9 p by simp];dsimp only[zdE];have j:=@Co;repeat' (first
  |(apply zdk ?_;clear hK K)|apply Rx.o ?_|(apply bZ (fun hg L=>?_) (fun hg L=>?_)<;>try(cases hg;done))|(apply aS (fun z V=>?_) (fun z V=>?_)<;>try(cases z;done))|apply ak ?_|(apply zdl fun K hK=>?_)|apply am ?_|fail)
 .refine bh rfl bm bo ?_;simp only[bJ];refine a9 ?_ (Cn (x:=[zeY p]) (imm:=0) (fun _=>rfl) rfl oI (cP _) aB ⟨aB,cf⟩);rintro v H3 ⟨rfl,O⟩;have n3:=O.next
  simp only[zdA]at n3;have g30:H3.get 0=some (.cells p.cells 0 true):=by rw[O.out 0 ac,zdq,ai ac];exact C
  have n3':2<=H3.next:=ac
  clear O n3;rw[show([zeY p]:List (List (List UInt8))).flatten=zeY p by simp];dsimp only[zdE];repeat' (first
   |(apply zdk ?_;clear hK K)|apply Rx.o ?_|(apply aS (fun z V=>?_) (fun z V=>?_)<;>try(cases z;done))|apply ak ?_|(apply zdl fun K hK=>?_)|apply au ?_|apply zdm ?_|apply am ?_|fail)
  .all_goals (refine⟨eI,_,eR,?_⟩;try simp only[zdn])
   rw[lQ];(try simp only[fl]at *);simp only[ *,Ic,]
  .refine zef [3,21,22] [0] 23 p.funcs.length (fun i E H=>(p.funcs.any fun f=>zdT [] (zd9 p++(f.params++f.locals)))=((p.funcs.drop i).any fun f=>zdT [] (zd9 p++(f.params++f.locals)))) eE aB ?_;rintro i E U hi J m I hsI Y;(try simp only[zdO,zdF,aX,zdy,zdJ,Nat.reduceBEq, *]at J);(try simp only[zdO,zdF,aX, *]at m);(try simp only[zdA,zdQ,zec,bC,Nat.reduceAdd]at I);have hB0:(0 == U.next)=false:=zdC ac;have hC0:(U.next == 0)=false:=zdC ac;repeat' (first
    |(apply zdk ?_;clear hK K)|apply Rx.o ?_|(apply aS (fun z V=>?_) (fun z V=>?_)<;>try(cases z;done))|apply ak ?_|(apply zdl fun K hK=>?_)|apply au ?_|apply zdm ?_|apply am ?_|apply zdr ?_)
   .have o:i<p.funcs.length:=by simpa using z
    have hgx:p.funcs[i]?=some p.funcs[i]:=aR o;have hsm:=sh (dr o);have hsz:p.funcs[i].sz=1+p.funcs[i].name.length+zfg p.funcs[i].params+zfg p.funcs[i].locals+zfl p.funcs[i].body+p.funcs[i].value.sz:=rfl;have hpl:=sc p.funcs[i].params;have hll:=sc p.funcs[i].locals;have Z:((p.funcs.drop i).any fun f=>zdT [] (zd9 p++(f.params++f.locals)))=(zdT [] (zd9 p++(p.funcs[i].params++p.funcs[i].locals))||((p.funcs.drop (i+1)).any fun f=>zdT [] (zd9 p++(f.params++f.locals)))):=by rw[fq o,nn]
    have j:=@ZV;repeat' (first
     |(apply zdk ?_;clear hK K)|apply Rx.o ?_|apply bp ?_|apply ak ?_|(apply zdl fun K hK=>?_)|fail)
    refine bh rfl bm bo ?_;simp only[bJ];refine a9 ?_ (Cn (x:=[zd9 p,p.funcs[i].params,p.funcs[i].locals]) (imm:=0) (fun _=>rfl) rfl oI (cP _) aB ⟨aB,cf⟩);rintro v H5 ⟨rfl,O⟩;have n5:=O.next
    simp only[zdA,zdQ]at n5;have g50:H5.get 0=some (.cells p.cells 0 true):=by rw[O.out 0 (by intro e;change (0:Nat)=_ at e;(try simp only[zdQ,zdA]at e);omega),zdq,ai (by(try simp only[zdQ,zdA]);omega),aW,ai ac,zdq,ai ac];exact m
    have n5':U.next<=H5.next:=ac
    clear O n5;rw[show([zd9 p,p.funcs[i].params,p.funcs[i].locals]:List (List (List UInt8))).flatten=zd9 p++(p.funcs[i].params++p.funcs[i].locals) by simp];dsimp only[zdE];repeat' (first
     |(apply zdk ?_;clear hK K)|apply Rx.o ?_|(apply aS (fun z V=>?_) (fun z V=>?_)<;>try(cases z;done))|apply ak ?_|(apply zdl fun K hK=>?_)|apply zdm ?_|apply am ?_|fail)
    .all_goals (refine⟨eI,_,eR,?_⟩;try simp only[zdn])
     rw[lQ,Y,Z];(try simp only[fl]at *);simp only[ *,Ie,]
    .refine⟨ac,zdz,zdz,eN,vj,?_⟩;rw[Y,Z];(try simp only[fl]at *);simp only[*,jb,]
   .all_goals (refine⟨eI,_,eR,?_⟩;try simp only[zdn])
    have A:i=p.funcs.length:=vh;rw[A,jR]at Y;have g:(p.funcs.any fun f=>zdT [] (zd9 p++(f.params++f.locals)))=false:=Y;rw[lQ,g];(try simp only[fl]at *);simp only[*,jO,]
 .repeat' (first
   |(apply zdk ?_;clear hK K)|fail)
  all_goals (refine⟨eI,_,eR,?_⟩;try simp only[zdn])
  rw[lQ];(try simp only[fl]at *);simp only[*,l9,])
end
section
def tyV5.tyF:=ad @cN (ad @b9 (ad @ea (ad @eV (ad @eO (@xu)))))
open tyV5
noncomputable def IR:{c:SC // aC 22 (Tryz.f99.body.getD .skip)=c}:=by
 refine⟨?_,?_⟩;rotate_left
 .simp only[Tryz.f99,a5,aC,zdG,zdD,zdH,zdI,Nat.blt,Nat.ble];rfl
def zes(n:Nd):List UInt8:=oJ (pF n)
noncomputable def yz:En:=⟨147,false,b7 (fun n=>n.kids.length<2^30) vm fun n=>.str (zes n)⟩
theorem ZY(ρ:Nat->Int):yO Tryz.prog ρ yz:=zei fun n m=>ZA ρ n m
theorem ZZ{tb:List En}(I:∀C,zem tb 147 C=yz.sp C)(n:Nd)(m:n.kids.length<2^30)(H:Hp):zdw Tryz.prog (zdp pls tb) 147 [.agg n.cells] H fun v H'=>v=.str (zes n)/\H'=H:=
 zeq (enc:=vm) (ok:=fun n=>n.kids.length<2^30) (out:=fun n=>.str (zes n)) Zz (x:=n) (I _) m
def jC(l:List Nd):Bool:=!zdT [] (l.map zes)
theorem Z0(ρ:Nat->Int)(l:List Nd)(A:zeN l):bc Tryz.prog ρ 99 [zeu l] (.bool (jC l)):=zer fit (pls:=pls) (l:=[yz]) ⟨ZY ρ,trivial⟩ (.cons (zfV _) .nil) (.bool _) (by
 obtain⟨hl1,L⟩:=A;have J:Plain (zdp pls [yz]) 99:=zej (fun _=>rfl) rfl;refine zdv (M:=22) (rs:=[.tmp 2]) (J.call _) J.ice J.froz Tryz.func99 rfl rfl IR.2 rfl ?_;dsimp only[IR,zds,Nat.reduceAdd];repeat' (first
  |(apply zdk ?_;clear hK K)|apply Rx.o ?_|apply ak ?_|(apply zdl fun K hK=>?_)|apply au ?_|apply zdm ?_|apply am ?_|apply zdr ?_)
 refine zef [3,8,9] [] 10 l.length (fun i E H=>∃seen,H.get 0=some (.map (eF seen))/\zdT [] (l.map zes)=zdT seen ((l.drop i).map zes)) eE ⟨[],oI,rfl⟩ ?_;rintro i E g hi Y m U hsI ⟨seen,hm,j⟩;(try simp only[zdO,zdF,aX,zdy,zdJ,Nat.reduceBEq,Nat.reduceAdd,Nat.reduceLeDiff,tyF, *]at Y);(try simp only[zdO,zdF,aX,zdy,zdJ,Nat.reduceBEq,Nat.reduceAdd,Nat.reduceLeDiff,tyF, *]at m);(try simp only[zdA,zdQ,zec,bC,Nat.reduceAdd]at U);by_cases o:i<l.length
 .have C:(i:Int)<l.length:=by omega
  have hgx:l[i]?=some l[i]:=aR o;have I:=L _ (dr o);have O:zdT seen ((l.drop i).map zes)=(zdS seen (zes l[i])||zdT (seen++[zes l[i]]) ((l.drop (i+1)).map zes)):=sG;generalize l[i]=n at *;have Z:∀b c,((g.alloc b).set g.next c).get 0=some (.map (eF seen)):=fun b c=>by rw[aW,ai ac,zdq,ai ac];exact hm
  have hlk:=fun b c=>rz (Z b c) (zes n);have hup:=fun b c=>Ck (Z b c) (zes n);repeat' (first
   |(apply zdk ?_;clear hK K)|apply Ry.o ?_|apply b4 ?_|(apply bL ?_;first|refine Rx.k (ZZ (fun _=>rfl) _ I _) ?_)|(apply aD (fun z V=>?_) (fun z V=>?_)<;>try(cases z;done))|apply ak ?_|(apply zdl fun K hK=>?_)|apply au ?_|apply zdm ?_|apply am ?_|apply zdr ?_)
  .all_goals (refine⟨eI,_,eR,?_⟩;try simp only[zdn])
   rw[jC,j,O];(try simp only[fl]at *);simp only[ *,kB,bT,cn,Int.reduceEq]
  .refine⟨ac,zdz,zdz,eN,jy,?_⟩;refine⟨nG seen (zes n),vi,?_⟩;rw[j,O,nG];(try simp only[fl]at *);simp only[ *,kB,bT,cn,Int.reduceEq];rfl
 .have C:¬(i:Int)<l.length:=by omega
  have F:l.drop i=[]:=oA ac;rw[F]at j;repeat' (first
   |(apply zdk ?_;clear hK K)|apply Ry.o ?_|apply b4 ?_|(apply aD (fun z V=>?_) (fun z V=>?_)<;>try(cases z;done))|apply ak ?_|(apply zdl fun K hK=>?_)|apply au ?_|apply zdm ?_|apply am ?_|apply zdr ?_)
  all_goals (refine⟨eI,_,eR,?_⟩;try simp only[zdn])
  rw[jC,j];rfl)
end
section
def tyV6.tyF:=ad @cN (ad @b9 (ad @dA (ad @ea (ad @eV (ad @eO (ad @m8 (ad @m9 (ad @iq (ad @jL (ad @xm (@A2)))))))))))
open tyV6
noncomputable def yA:{c:SC // aC 114 (Tryz.f63.body.getD .skip)=c}:=by
 refine⟨?_,?_⟩;rotate_left
 .simp only[Tryz.f63,a5,aC,zdG,zdD,zdH,zdI,Nat.blt,Nat.ble];rfl
theorem vo{l:List Nd}{i:Nat}{n:Nd}(m:l[i]?=some n)(h:zeo l i≠0):NdOk n i/\(n.op=30->0<=n.imm/\n.imm<=7)/\vd n:=by
 have O:i<l.length:=by
  by_cases c:i<l.length
  .exact c
  .rw[fg ac]at m;cases m
 have M:=h;rw[EW O]at h;obtain⟨s,V,g,o⟩:=N7 m h;have F:=pg V;have j:=so V;have U:n.op=3->0<=n.imm/\n.imm<=255:=fun e=>by
  rw[zeh,ai ac,ai ac,zeC,ai ac,az e,dC,jI,jI]at o;exact o
 have Y:n.op=30->0<=n.imm/\n.imm<=7:=fun e=>by
  rw[zeh,ai ac,ai ac,zeC,ai ac,ai ac,ai ac,az e,dC,jI,jI]at o;exact o
 have Z:n.op=31->0<=n.imm/\n.imm<=15:=fun e=>by
  rw[zeh,ai ac,ai ac,zeC,ai ac,ai ac,ai ac,ai ac,az e,dC,jI,jI]at o;exact o
 refine⟨⟨fun k A=>⟨(j k A).1,(j k A).2.1⟩,U,fun e=>?_⟩,Y,Z,U⟩;have a:bg 31=(-1,true):=dk;rw[e,zd2,a]at g;simp only[ls,cn]at g;rw[ai ac,az trivial]at g;simp only[j4]at g;exact⟨(Z e).1,(Z e).2,ac,ac⟩
theorem yB{l:List Nd}{i:Nat}(h:i<l.length):(zd0 l l.length)[i]?=some (zeo l i):=by
 have:=Oa (l:=l) h (aM _);rw[cS]at this;have F:i<(zd0 l l.length).length:=by rw[zf2];exact h
 rw[aR F]at this⊢;exact kL some this
def kZ(u:Un)(g:Gr)(i:Nat):Bool:=match g.nodes[i]? with
 |some n=>decide (zeo g.nodes i≠0)&&eS u g n
 |none=>true
def zeT(l:List Nd)(i:Int):Nat:=(ze4 l l.length).getD i.toNat 0
def em(u:Un)(g:Gr):Bool:=
 (decide (0<=g.params)&&decide (g.params<=6)&&decide ((g.nodes.length:Int)<=2000))&&((List.range g.nodes.length).all (kZ u g)) &&
 (jC g.nodes&&zfu g.nodes&&decide (0<=g.value)&&decide (g.value<g.nodes.length)&&decide (0<=g.state)&&decide (g.state<g.nodes.length)) &&
 (decide (zeo g.nodes g.value=1)&&decide (zeo g.nodes g.state=2)&&decide (zeT g.nodes g.value=0)&&decide (zeT g.nodes g.state=0))
noncomputable def IS:En:=⟨98,false,b7 B8 ro fun x=>.bool (eS x.u x.g x.n)⟩
theorem Z1(ρ:Nat->Int):yO Tryz.prog ρ IS:=zei fun x I=>Zg ρ x I
noncomputable def IT:En:=⟨99,false,b7 zeN jg fun l=>.bool (jC l)⟩
theorem Z2(ρ:Nat->Int):yO Tryz.prog ρ IT:=zei fun l F=>Z0 ρ l F
noncomputable def IU:En:=⟨100,false,b7 (fun l=>zeN l/\∀n∈l,vd n) jg fun l=>.bool (zfu l)⟩
theorem Z3(ρ:Nat->Int):yO Tryz.prog ρ IU:=zei fun l F=>Ze ρ l F.1 F.2
noncomputable def IV:En:=⟨101,false,b7 rr jg fun l=>ve (ze4 l l.length)⟩
theorem Z4(ρ:Nat->Int):yO Tryz.prog ρ IV:=zei fun l F=>Zl ρ l F
noncomputable def rA:List En:=[BG,IS,IT,IU,IV]
theorem Z5(ρ:Nat->Int):fk Tryz.prog ρ rA:=⟨Ym ρ,Z1 ρ,Z2 ρ,Z3 ρ,Z4 ρ,trivial⟩
structure VgX where
 u:Un
 g:Gr
def mH(x:VgX):List AV:=[.agg x.u.cells,.agg x.g.cells]
theorem IW(x y:VgX)(h:mH x=mH y):x=y:=by
 obtain⟨a,b⟩:=x;obtain⟨A,m⟩:=y;simp only[mH,cR,AV.agg.injEq,aX]at h;rw[Un.inj h.1,Gr.inj h.2]
def yC(x:VgX):Prop:=zeN x.g.nodes/\x.u.arrays.length<2^30/\x.u.funcs.length<2^30
theorem IX{l:List Nd}{i:Nat}(h:i<l.length):((ze4 l l.length).map fun(m:Nat)=>[AV.int .u32 (m:Int)])[i]?=some [.int .u32 ((zeT l i:Nat):Int)]:=by
 have F:i<(ze4 l l.length).length:=by rw[s8];exact h
 rw[dK,zeT,dQ,cS,aR F];rfl
set_option maxRecDepth 100000 in
theorem Z6(ρ:Nat->Int)(x:VgX)(hx:yC x):bc Tryz.prog ρ 63 (mH x) (.bool (em x.u x.g)):=zer fit (pls:=pls) (Z5 ρ) (.cons (.agg (sD _)) (.cons (.agg (Gr.pure _)) .nil)) (.bool _) (by
 obtain⟨u,g⟩:=x;obtain⟨J,hua,huf⟩:=hx;have hw:Plain (zdp pls rA) 63:=zej (fun _=>rfl) rfl;rw[mH];simp only[]at J hua huf⊢;have hnl:=J.1;have ks:∀H,zdw Tryz.prog (zdp pls rA) 78 [zeu g.nodes] H fun v H'=>v=zel (zd0 g.nodes g.nodes.length)/\H'=H:=fun H=>Yn (fun _=>rfl) _ J H;by_cases c1:0<=g.params/\g.params<=6/\(g.nodes.length:Int)<=2000
 .obtain⟨c11,c12,c13⟩:=c1;have d1:¬g.params<0:=ac;have d2:¬(6:Int)<g.params:=ac;have d3:¬(2000:Int)<g.nodes.length:=ac;refine zdv (M:=114) (rs:=[.tmp 4]) (hw.call _) hw.ice hw.froz Tryz.func63 rfl rfl yA.2 rfl ?_;dsimp only[yA,zds,Nat.reduceAdd];repeat' (first
   |(apply zdk ?_;clear hK K)|apply Ry.o ?_|(apply bL ?_;first|refine Rx.k (ks _) ?_)|(apply a2 (fun C L=>?_) (fun C L=>?_)<;>try(cases C;done))|(apply aD (fun z V=>?_) (fun z V=>?_)<;>try(cases z;done))|apply ak ?_|(apply zdl fun K hK=>?_)|apply au ?_|apply zdm ?_|fail)
  have Z:∀i,i<g.nodes.length->kZ u g i=false->em u g=false:=fun i hi h=>by
   have:((List.range g.nodes.length).all (kZ u g))=false:=by
    rw[Ce];exact⟨i,jq.2 hi,by rw[h];simp⟩
   rw[em,this];simp
  refine zef [2,3,5,27,28] [0,1] 29 g.nodes.length (fun i E H=>∀j,j<i->kZ u g j=true) eE (fun j hj=>ac) ?_;rintro i E Hi hi hcE hrH hnH hsI hJ;(try simp only[zdO,zdF,aX,zdy,zdJ,Nat.reduceBEq, *]at hcE);(try simp only[zdO,zdF,aX,zdy,zdJ,Nat.reduceBEq, *]at hrH);(try simp only[zdA,zec,bC,Nat.reduceAdd]at hnH);have hB0:(0 == Hi.next)=false:=zdC ac;have hC0:(Hi.next == 0)=false:=zdC ac;have hB1:(1 == Hi.next)=false:=zdC ac;have hC1:(Hi.next == 1)=false:=zdC ac;have ni:2<=Hi.next:=hnH
  by_cases o:i<g.nodes.length
  .have hlt':(i:Int)<g.nodes.length:=by omega
   have hgx:g.nodes[i]?=some g.nodes[i]:=aR o;have hnk:=J.2 _ (dr o);have hsg:=yB o;have hsf:=fun h=>vo hgx (l:=g.nodes) (i:=i) h;have hok:kZ u g i=(decide (zeo g.nodes i≠0)&&eS u g g.nodes[i]):=by rw[kZ,hgx]
   have vf:=Z i o;clear Z;generalize g.nodes[i]=n at *;by_cases hs0:zeo g.nodes i=0
   .have vf2:=vf (by rw[hok,hs0];rfl);clear hok vf hJ hsf;rw[hs0]at hsg;repeat' (first
     |(apply zdk ?_;clear hK K)|apply Ry.o ?_|apply b4 ?_|(apply a2 (fun C L=>?_) (fun C L=>?_)<;>try(cases C;done))|(apply aD (fun z V=>?_) (fun z V=>?_)<;>try(cases z;done))|apply ak ?_|(apply zdl fun K hK=>?_)|apply au ?_|apply zdm ?_|apply am ?_|fail)
    all_goals (refine⟨eI,_,eR,?_⟩;try simp only[zdn])
    rw[vf2]
   .have F:kZ u g i=eS u g n:=by rw[hok,cF hs0,dw]
    obtain⟨f1,f2,f3⟩:=hsf hs0;have kr:∀H,zdw Tryz.prog (zdp pls rA) 98 [.agg u.cells,.agg g.cells,.agg n.cells] H fun v H'=>v=.bool (eS u g n)/\H'=H:=fun H=>zeq (enc:=ro) (ok:=B8) (out:=fun x=>.bool (eS x.u x.g x.n)) Zf (x:=⟨u,g,n⟩) rfl ⟨fun h=>(f2 h).1,hnk,hua,huf⟩;clear hok hsf f1 f2 f3;by_cases hr:eS u g n=true
    .repeat' (first
      |(apply zdk ?_;clear hK K)|apply Ry.o ?_|apply b4 ?_|(apply bL ?_;first|refine Rx.k (kr _) ?_)|(apply a2 (fun C L=>?_) (fun C L=>?_)<;>try(cases C;done))|(apply aD (fun z V=>?_) (fun z V=>?_)<;>try(cases z;done))|apply ak ?_|(apply zdl fun K hK=>?_)|apply au ?_|apply zdm ?_|fail)
     refine⟨ac,zdz,zdz,eN,nF,?_⟩;intro j hj;by_cases e:j=i
     .rw[e,F,hr]
     .exact hJ j ac
    .have hr':eS u g n=false:=by simpa using hr
     have vf2:=vf (by rw[F,hr']);clear vf hJ F;repeat' (first
      |(apply zdk ?_;clear hK K)|apply Ry.o ?_|apply b4 ?_|(apply bL ?_;first|refine Rx.k (kr _) ?_)|(apply a2 (fun C L=>?_) (fun C L=>?_)<;>try(cases C;done))|(apply aD (fun z V=>?_) (fun z V=>?_)<;>try(cases z;done))|apply ak ?_|(apply zdl fun K hK=>?_)|apply au ?_|apply zdm ?_|apply am ?_|fail)
     all_goals (refine⟨eI,_,eR,?_⟩;try simp only[zdn])
     rw[vf2]
  .have hlt':¬(i:Int)<g.nodes.length:=by omega
   have O:∀j,j<g.nodes.length->kZ u g j=true:=fun j hj=>hJ j ac;have A:∀(j:Nat) (n:Nd),g.nodes[j]?=some n->zeo g.nodes j≠0:=fun j n h=>by
    have hj:j<g.nodes.length:=by
     by_cases c:j<g.nodes.length
     .exact c
     .rw[fg ac]at h;cases h
    have:=O j hj;rw[kZ,h,dC,jI]at this;exact this.1
   have hlp:∀n∈g.nodes,vd n:=fun n hn=>by
    obtain⟨j,hj,e⟩:=o0 hn;have h:g.nodes[j]?=some n:=ym;exact(vo h (A j n h)).2.2
   have hld:rr g.nodes:=⟨J,fun j n h=>(vo h (A j n h)).1⟩;have I:((List.range g.nodes.length).all (kZ u g))=true:=gS.2 fun j hj=>O j (jq.1 hj);have hvg:em u g=((jC g.nodes&&zfu g.nodes&&decide (0<=g.value)&&decide (g.value<g.nodes.length)&&decide (0<=g.state)&&decide (g.state<g.nodes.length)) &&
    (decide (zeo g.nodes g.value=1)&&decide (zeo g.nodes g.state=2)&&decide (zeT g.nodes g.value=0)&&decide (zeT g.nodes g.state=0))):=by
    rw[em,I,cF c11,cF c12,cF c13];simp
   rw[hvg];clear hvg I O A Z hJ;have ka:∀H,zdw Tryz.prog (zdp pls rA) 99 [zeu g.nodes] H fun v H'=>v=.bool (jC g.nodes)/\H'=H:=fun H=>zeq (enc:=jg) (ok:=zeN) (out:=fun l=>.bool (jC l)) qS (x:=g.nodes) rfl J;have kl:∀H,zdw Tryz.prog (zdp pls rA) 100 [zeu g.nodes] H fun v H'=>v=.bool (zfu g.nodes)/\H'=H:=fun H=>zeq (enc:=jg) (ok:=fun l=>zeN l/\∀n∈l,vd n) (out:=fun l=>.bool (zfu l)) qS (x:=g.nodes) rfl ⟨J,hlp⟩;have kd:∀H,zdw Tryz.prog (zdp pls rA) 101 [zeu g.nodes] H fun v H'=>v=.lst ((ze4 g.nodes g.nodes.length).map fun(m:Nat)=>[AV.int .u32 (m:Int)])/\H'=H:=fun H=>zeq (enc:=jg) (ok:=rr) (out:=fun l=>ve (ze4 l l.length)) qS (x:=g.nodes) rfl hld;have hsl:=zf2 g.nodes g.nodes.length;clear hlp hld;generalize hdv:jC g.nodes=dv at *;generalize hvv:zfu g.nodes=vl at *;by_cases cg:dv=true/\vl=true/\0<=g.value/\g.value<g.nodes.length/\0<=g.state/\g.state<g.nodes.length
   .obtain⟨rfl,rfl,v0,v1,s0,s1⟩:=cg;obtain⟨a,ha⟩:=eL v0;obtain⟨b,hb0⟩:=eL s0;have hal:a<g.nodes.length:=ac;have hbl:b<g.nodes.length:=ac;have q1:=yB hal;have q2:=yB hbl;have q3:=IX hal;have q4:=IX hbl;have e1:¬((a:Int)<0):=ac;have e2:¬((g.nodes.length:Int)<=a):=ac;have e3:¬((b:Int)<0):=ac;have e4:¬((g.nodes.length:Int)<=b):=ac;rw[cF v0,cF v1,cF s0,cF s1];simp only[qf,dw];rw[ha,hb0];clear v0 v1 s0 s1;repeat' (first
     |(apply zdk ?_;clear hK K)|apply Ry.o ?_|(apply bL ?_;first|refine Rx.k (ka _) ?_|refine Rx.k (kl _) ?_|refine Rx.k (kd _) ?_)|(apply a2 (fun C L=>?_) (fun C L=>?_)<;>try(cases C;done))|(apply aD (fun z V=>?_) (fun z V=>?_)<;>try(cases z;done))|apply ak ?_|(apply zdl fun K hK=>?_)|apply zdm ?_|apply am ?_|apply zdr ?_)
    all_goals first
     |exact zdR
     |skip
    all_goals
     refine⟨eI,_,dG,?_⟩;simp only[zdn]
    all_goals
     first
     |(congr 1;simp_all[Int.natCast_eq_zero];done)
     |trace_state
   .have U:∀(b:Bool),¬b=false->b=true:=fun b h=>by simpa using h
    by_cases a1:dv=false
    .have Y:((dv&&vl&&decide (0<=g.value)&&decide (g.value<g.nodes.length)&&decide (0<=g.state)&&decide (g.state<g.nodes.length)) &&
     (decide (zeo g.nodes g.value=1)&&decide (zeo g.nodes g.state=2)&&decide (zeT g.nodes g.value=0)&&decide (zeT g.nodes g.state=0)))=false:=by rw[a1];rfl
     rw[Y];clear Y U cg;repeat' (first
      |(apply zdk ?_;clear hK K)|apply Ry.o ?_|(apply bL ?_;first|refine Rx.k (ka _) ?_|refine Rx.k (kl _) ?_|refine Rx.k (kd _) ?_)|(apply a2 (fun C L=>?_) (fun C L=>?_)<;>try(cases C;done))|(apply aD (fun z V=>?_) (fun z V=>?_)<;>try(cases z;done))|apply ak ?_|(apply zdl fun K hK=>?_)|apply am ?_|apply zdr ?_)
     all_goals first
      |exact zdR
      |skip
     all_goals (refine⟨eI,_,eR,?_⟩;try simp only[zdn])
    have b1:=U _ a1;by_cases zeU:vl=false
    .have Y:((dv&&vl&&decide (0<=g.value)&&decide (g.value<g.nodes.length)&&decide (0<=g.state)&&decide (g.state<g.nodes.length)) &&
     (decide (zeo g.nodes g.value=1)&&decide (zeo g.nodes g.state=2)&&decide (zeT g.nodes g.value=0)&&decide (zeT g.nodes g.state=0)))=false:=by rw[zeU];simp
     rw[Y];clear Y U cg;repeat' (first
      |(apply zdk ?_;clear hK K)|apply Ry.o ?_|(apply bL ?_;first|refine Rx.k (ka _) ?_|refine Rx.k (kl _) ?_|refine Rx.k (kd _) ?_)|(apply a2 (fun C L=>?_) (fun C L=>?_)<;>try(cases C;done))|(apply aD (fun z V=>?_) (fun z V=>?_)<;>try(cases z;done))|apply ak ?_|(apply zdl fun K hK=>?_)|apply am ?_|apply zdr ?_)
     all_goals first
      |exact zdR
      |skip
     all_goals (refine⟨eI,_,eR,?_⟩;try simp only[zdn])
    have b2:=U _ zeU;by_cases a3:g.value<0
    .have Y:((dv&&vl&&decide (0<=g.value)&&decide (g.value<g.nodes.length)&&decide (0<=g.state)&&decide (g.state<g.nodes.length)) &&
     (decide (zeo g.nodes g.value=1)&&decide (zeo g.nodes g.state=2)&&decide (zeT g.nodes g.value=0)&&decide (zeT g.nodes g.state=0)))=false:=by rw[cX (by omega:¬0<=g.value)];simp
     rw[Y];clear Y U cg;repeat' (first
      |(apply zdk ?_;clear hK K)|apply Ry.o ?_|(apply bL ?_;first|refine Rx.k (ka _) ?_|refine Rx.k (kl _) ?_|refine Rx.k (kd _) ?_)|(apply a2 (fun C L=>?_) (fun C L=>?_)<;>try(cases C;done))|(apply aD (fun z V=>?_) (fun z V=>?_)<;>try(cases z;done))|apply ak ?_|(apply zdl fun K hK=>?_)|apply am ?_|apply zdr ?_)
     all_goals first
      |exact zdR
      |skip
     all_goals (refine⟨eI,_,eR,?_⟩;try simp only[zdn])
    by_cases a4:(g.nodes.length:Int)<=g.value
    .have Y:((dv&&vl&&decide (0<=g.value)&&decide (g.value<g.nodes.length)&&decide (0<=g.state)&&decide (g.state<g.nodes.length)) &&
     (decide (zeo g.nodes g.value=1)&&decide (zeo g.nodes g.state=2)&&decide (zeT g.nodes g.value=0)&&decide (zeT g.nodes g.state=0)))=false:=by rw[cX (by omega:¬g.value<g.nodes.length)];simp
     rw[Y];clear Y U cg;repeat' (first
      |(apply zdk ?_;clear hK K)|apply Ry.o ?_|(apply bL ?_;first|refine Rx.k (ka _) ?_|refine Rx.k (kl _) ?_|refine Rx.k (kd _) ?_)|(apply a2 (fun C L=>?_) (fun C L=>?_)<;>try(cases C;done))|(apply aD (fun z V=>?_) (fun z V=>?_)<;>try(cases z;done))|apply ak ?_|(apply zdl fun K hK=>?_)|apply am ?_|apply zdr ?_)
     all_goals first
      |exact zdR
      |skip
     all_goals (refine⟨eI,_,eR,?_⟩;try simp only[zdn])
    by_cases zeD:g.state<0
    .have Y:((dv&&vl&&decide (0<=g.value)&&decide (g.value<g.nodes.length)&&decide (0<=g.state)&&decide (g.state<g.nodes.length)) &&
     (decide (zeo g.nodes g.value=1)&&decide (zeo g.nodes g.state=2)&&decide (zeT g.nodes g.value=0)&&decide (zeT g.nodes g.state=0)))=false:=by rw[cX (by omega:¬0<=g.state)];simp
     rw[Y];clear Y U cg;repeat' (first
      |(apply zdk ?_;clear hK K)|apply Ry.o ?_|(apply bL ?_;first|refine Rx.k (ka _) ?_|refine Rx.k (kl _) ?_|refine Rx.k (kd _) ?_)|(apply a2 (fun C L=>?_) (fun C L=>?_)<;>try(cases C;done))|(apply aD (fun z V=>?_) (fun z V=>?_)<;>try(cases z;done))|apply ak ?_|(apply zdl fun K hK=>?_)|apply am ?_|apply zdr ?_)
     all_goals first
      |exact zdR
      |skip
     all_goals (refine⟨eI,_,eR,?_⟩;try simp only[zdn])
    have a6:(g.nodes.length:Int)<=g.state:=by
     by_cases c:(g.nodes.length:Int)<=g.state
     .exact c
     .exact absurd ⟨b1,b2,ac,ac,ac,ac⟩ cg
    have Y:((dv&&vl&&decide (0<=g.value)&&decide (g.value<g.nodes.length)&&decide (0<=g.state)&&decide (g.state<g.nodes.length)) &&
     (decide (zeo g.nodes g.value=1)&&decide (zeo g.nodes g.state=2)&&decide (zeT g.nodes g.value=0)&&decide (zeT g.nodes g.state=0)))=false:=by rw[cX (by omega:¬g.state<g.nodes.length)];simp
    rw[Y];clear Y U cg;repeat' (first
     |(apply zdk ?_;clear hK K)|apply Ry.o ?_|(apply bL ?_;first|refine Rx.k (ka _) ?_|refine Rx.k (kl _) ?_|refine Rx.k (kd _) ?_)|(apply a2 (fun C L=>?_) (fun C L=>?_)<;>try(cases C;done))|(apply aD (fun z V=>?_) (fun z V=>?_)<;>try(cases z;done))|apply ak ?_|(apply zdl fun K hK=>?_)|apply am ?_|apply zdr ?_)
    all_goals first
     |exact zdR
     |skip
    all_goals (refine⟨eI,_,eR,?_⟩;try simp only[zdn])
 .have hv:em u g=false:=by
   rw[em];cases h:(decide (0<=g.params)&&decide (g.params<=6)&&decide ((g.nodes.length:Int)<=2000))with
   |false=>simp
   |true=>
    simp only[j4]at h;exact absurd ⟨h.1.1,h.1.2,h.2⟩ c1
  rw[hv];refine zdv (M:=114) (rs:=[.tmp 4]) (hw.call _) hw.ice hw.froz Tryz.func63 rfl rfl yA.2 rfl ?_;dsimp only[yA,zds,Nat.reduceAdd];by_cases d1:g.params<0
  .repeat' (first
    |(apply zdk ?_;clear hK K)|apply Ry.o ?_|(apply a2 (fun C L=>?_) (fun C L=>?_)<;>try(cases C;done))|(apply aD (fun z V=>?_) (fun z V=>?_)<;>try(cases z;done))|apply ak ?_|(apply zdl fun K hK=>?_)|apply am ?_|fail)
   all_goals (refine⟨eI,_,eR,?_⟩;try simp only[zdn])
  .by_cases d2:(6:Int)<g.params
   .repeat' (first
     |(apply zdk ?_;clear hK K)|apply Ry.o ?_|(apply a2 (fun C L=>?_) (fun C L=>?_)<;>try(cases C;done))|(apply aD (fun z V=>?_) (fun z V=>?_)<;>try(cases z;done))|apply ak ?_|(apply zdl fun K hK=>?_)|apply am ?_|fail)
    all_goals (refine⟨eI,_,eR,?_⟩;try simp only[zdn])
   .have d3:(2000:Int)<g.nodes.length:=by omega
    repeat' (first
     |(apply zdk ?_;clear hK K)|apply Ry.o ?_|(apply a2 (fun C L=>?_) (fun C L=>?_)<;>try(cases C;done))|(apply aD (fun z V=>?_) (fun z V=>?_)<;>try(cases z;done))|apply ak ?_|(apply zdl fun K hK=>?_)|apply am ?_|fail)
    all_goals (refine⟨eI,_,eR,?_⟩;try simp only[zdn]))
end
section
def tyW4a.tyF:=ad @b9 (ad @dA (ad @iM (ad @iN (ad @gF (ad @jM (@cN))))))
open tyW4a
noncomputable def IY:{c:SC // aC 28 (Tryz.f129.body.getD .skip)=c}:=by
 refine⟨?_,?_⟩;rotate_left
 .simp only[Tryz.f129,a5,aC,zdG,zdD,zdH,zdI,Nat.blt,Nat.ble];rfl
noncomputable def IZ:{c:SC // aC 39 (Tryz.f123.body.getD .skip)=c}:=by
 refine⟨?_,?_⟩;rotate_left
 .simp only[Tryz.f123,a5,aC,zdG,zdD,zdH,zdI,Nat.blt,Nat.ble];rfl
def td(cfg:Cfg)(base:Nat)(I:Hp->Prop)(g:FuncId)(cap:List AV)(q:Ex->Int->Bool):Prop:=
 ∀(x:Ex) (d:Int) (H:Hp),x.sz<2^60->base<=H.next->I H->zdw Tryz.prog cfg g (.agg x.cells::.int .i64 d::cap) H fun v H'=>v=.bool (q x d)/\FrB base H H'/\I H'
def pJ(base:Nat)(I:Hp->Prop):Prop:=∀H H',I H->fJ base H H'->I H'
theorem te{cfg:Cfg}(hw:Plain cfg 129){base:Nat}{I:Hp->Prop}(hI:pJ base I){g:FuncId}{cap:List AV}{q:Ex->Int->Bool}(hq:td cfg base I g cap q):
 ∀(n:Nat) (x:Ex),x.sz<n->∀(d:Int) (H:Hp),x.sz<2^60->base<=H.next->I H->zdw Tryz.prog cfg 129 [.agg x.cells,.int .i64 d,.clo g cap] H fun v H'=>v=.bool (jK q x d)/\FrB base H H'/\I H'
 |0,x,hx,_,_,_,_,_=>by omega
 |n+1,x,hx,d,H,hz,hbase,hi=>by
  refine zdv (M:=28) (rs:=[.tmp 6]) (hw.call _) hw.ice hw.froz Tryz.func129 rfl rfl IY.2 rfl ?_;dsimp only[IY,zds,Nat.reduceAdd];repeat' (first
   |(apply zdk ?_;clear hK K)|apply Rx.o ?_|apply bp ?_|(apply aS (fun z V=>?_) (fun z V=>?_)<;>try(cases z;done))|apply ak ?_|(apply zdl fun K hK=>?_)|apply au ?_|apply zdm ?_|apply am ?_|apply zdr ?_)
  refine bh rfl bm bo ?_;simp only[dS];have J:FrB base H (H.alloc (.cells x.cells 0 true)):=(gg _ _).alloc _;refine a9 ?_ (hq x d (H.alloc (.cells x.cells 0 true)) hz el (hI _ _ hi ((ml _ _).alloc hbase _)));rintro v H1 ⟨rfl,C,Y⟩;have hg1:H1.get H.next=some (.cells x.cells 0 true):=by
   rw[C.get _ hbase ta,zdq,az rfl]
  have hn1:H.next<H1.next:=by have:=C.next;simp only[zdA]at this;omega
  dsimp only[zdE];repeat' (first
   |(apply zdk ?_;clear hK K)|apply Rx.o ?_|apply bp ?_|(apply aS (fun z V=>?_) (fun z V=>?_)<;>try(cases z;done))|apply ak ?_|(apply zdl fun K hK=>?_)|apply au ?_|apply zdm ?_|apply am ?_|apply zdr ?_)
  .all_goals (refine⟨eI,_,eR,?_⟩;try simp only[zdn])
   refine⟨?_,J.trans C,Y⟩;rw[Ax];simp_all
  have hl:x.kids.length<2^60:=by have:=uv x.kids;have:=x.sz_eq;omega
  refine mh (fun i E Z=>zfp q x.kids (eM (d+1))=zfp q (x.kids.drop i) (eM (d+1))/\E.at 1=.int .i64 d/\E.at 2=.clo g cap/\E.at 15=.lst (x.kids.map Ex.cells)/\E.at 16=.int .i64 x.kids.length/\E.at 17=.int .i64 i/\FrB base H Z/\I Z) x.kids.length ?_ ?_
  .rintro i E Z hi2 ⟨hc,h1,h2,h15,h16,h17,F,L⟩;repeat' (first
    |(apply zdk ?_;clear hK K)|apply Rx.o ?_|apply bp ?_|(apply aS (fun z V=>?_) (fun z V=>?_)<;>try(cases z;done))|apply ak ?_|(apply zdl fun K hK=>?_)|apply au ?_|apply zdm ?_|apply am ?_|apply zdr ?_)
   .have o:i<x.kids.length:=by simpa using z
    have hgx:x.kids[i]?=some x.kids[i]:=aR o;repeat' (first
     |(apply zdk ?_;clear hK K)|apply Rx.o ?_|apply bp ?_|(apply aS (fun z V=>?_) (fun z V=>?_)<;>try(cases z;done))|apply ak ?_|(apply zdl fun K hK=>?_)|apply au ?_|apply zdm ?_|apply am ?_|apply zdr ?_)
    have hxm:x.kids[i]∈x.kids:=dr o;have hsm:=sf hxm;have hsx:=x.sz_eq;have m:FrB base Z ((Z.alloc (.cells [.int .i64 0,.int .i64 0,.str [],.int .i64 0,.nilS] 0 true)).set Z.next (.cells x.kids[i].cells 0 true)):=((gg _ _).alloc _).set (.inl (aM _)) _;have A:base<=Z.next:=eT hbase (F.next)
    have j:fJ base Z ((Z.alloc (.cells [.int .i64 0,.int .i64 0,.str [],.int .i64 0,.nilS] 0 true)).set Z.next (.cells x.kids[i].cells 0 true)):=((ml _ _).alloc A _).set A _;refine bh rfl bm bo ?_;simp only[dS];refine a9 ?_ (te hw hI hq n x.kids[i] ac _ _ ac Cc (hI _ _ L j));rintro v H3 ⟨rfl,O,U⟩;dsimp only[zdE];repeat' (first
     |(apply zdk ?_;clear hK K)|apply Rx.o ?_|apply bp ?_|(apply aS (fun z V=>?_) (fun z V=>?_)<;>try(cases z;done))|apply ak ?_|(apply zdl fun K hK=>?_)|apply au ?_|apply zdm ?_|apply am ?_|apply zdr ?_)
    .all_goals (refine⟨eI,_,eR,?_⟩;try simp only[zdn])
     refine⟨?_,(F.trans m).trans O,U⟩;rw[Ax,hc,w8 q o];simp_all
    .refine⟨o,?_,eE,eE,eE,eE,?_,(F.trans m).trans O,U⟩
     .rw[hc,w8 q o];simp_all
     .simp only[gU,Nat.reduceBEq,gk,zfD (show i<2^62 by omega)]
   .have hi3:i=x.kids.length:=by simp at z;omega
    all_goals (refine⟨eI,_,eR,?_⟩;try simp only[zdn])
    refine⟨?_,F,L⟩;rw[Ax,hc,hi3];simp_all[zfp]
  .exact⟨rfl,eE,eE,eE,eE,eE,J.trans C,Y⟩
end
section
def tyW4b.tyF:=ad @b9 (ad @dA (ad @iM (ad @iN (ad @gF (@jM)))))
open tyW4b
def vp{O:Type}(cfg:Cfg)(base:Nat)(I:O->Hp->Prop)(g:FuncId)(cap:List AV)(q:St->Int->O->Bool×O):Prop:=
 ∀(x:St) (d:Int) (s:O) (H:Hp),x.sz<2^60->base<=H.next->I s H->zdw Tryz.prog cfg g (.agg x.cells::.int .i64 d::cap) H fun v H'=>v=.bool (q x d s).1/\FrB base H H'/\I (q x d s).2 H'
theorem tf{cfg:Cfg}(hw:Plain cfg 123){σ:Type}{base:Nat}{I:σ->Hp->Prop}(hI:∀s,pJ base (I s)){g:FuncId}{cap:List AV}{q:St->Int->σ->Bool×σ}(hq:vp cfg base I g cap q):
 ∀(n:Nat) (l:List St),zfl l<n->∀(d:Int) (s:σ) (H:Hp),zfl l<2^60->base<=H.next->I s H->zdw Tryz.prog cfg 123 [.lst (l.map St.cells),.int .i64 d,.clo g cap] H fun v H'=>v=.bool (zeH q l d s).1/\FrB base H H'/\I (zeH q l d s).2 H'
 |0,l,hx,_,_,_,_,_,_=>by omega
 |n+1,l,hx,d,s,H,hz,hbase,hi=>by
  refine zdv (M:=39) (rs:=[.tmp 6]) (hw.call _) hw.ice hw.froz Tryz.func123 rfl rfl IZ.2 rfl ?_;dsimp only[IZ,zds,Nat.reduceAdd];repeat' (first
   |(apply zdk ?_;clear hK K)|apply Rx.o ?_|apply bp ?_|(apply bZ (fun C L=>?_) (fun C L=>?_)<;>try(cases C;done))|(apply aS (fun z V=>?_) (fun z V=>?_)<;>try(cases z;done))|apply ak ?_|(apply zdl fun K hK=>?_)|apply au ?_|apply zdm ?_|apply am ?_|apply zdr ?_)
  have hl:l.length<2^60:=by have:=EE l;omega
  refine mh (fun i E Z=>∃s2,zeH q l d s=zeH q (l.drop i) d s2/\E.at 1=.int .i64 d/\E.at 2=.clo g cap/\E.at 9=.lst (l.map St.cells)/\E.at 10=.int .i64 l.length/\E.at 11=.int .i64 i/\FrB base H Z/\I s2 Z) l.length ?_ ?_
  .rintro i E Z hi2 ⟨s2,hc,h1,h2,h9,h10,h11,F,hI2⟩;repeat' (first
    |(apply zdk ?_;clear hK K)|apply Rx.o ?_|apply bp ?_|(apply bZ (fun C L=>?_) (fun C L=>?_)<;>try(cases C;done))|(apply aS (fun z V=>?_) (fun z V=>?_)<;>try(cases z;done))|apply ak ?_|(apply zdl fun K hK=>?_)|apply au ?_|apply zdm ?_|apply am ?_|apply zdr ?_)
   .have o:i<l.length:=by simpa using z
    have hgx:l[i]?=some l[i]:=aR o;repeat' (first
     |(apply zdk ?_;clear hK K)|apply Rx.o ?_|apply bp ?_|(apply bZ (fun C L=>?_) (fun C L=>?_)<;>try(cases C;done))|(apply aS (fun z V=>?_) (fun z V=>?_)<;>try(cases z;done))|apply ak ?_|(apply zdl fun K hK=>?_)|apply au ?_|apply zdm ?_|apply am ?_|apply zdr ?_)
    have hxm:l[i]∈l:=dr o;have hsm:=sg hxm;have hsx:=l[i].sz_eq;generalize hx0:l[i]=x at *;have U:base<=Z.next:=eT hbase F.next
    generalize J:(Z.alloc _).set Z.next _=H3
    have m:FrB base Z H3:=by rw[<-J];exact((gg _ _).alloc _).set (.inl (aM _)) _
    have hlow:fJ base Z H3:=by rw[<-J];exact((ml _ _).alloc U _).set U _
    have hn3:Z.next<H3.next:=by rw[<-J];simp only[zdA,zdQ];omega
    have hg3:H3.get Z.next=some (.cells x.cells 0 true):=BV
    have hI3:=hI _ _ _ hI2 hlow;have hwd:=NS q o d s2;rw[hx0,NR]at hwd;rw[hwd]at hc;refine bh rfl bm bo ?_;simp only[dS];refine a9 ?_ (hq x d s2 H3 ac ac hI3);rintro v H4 ⟨rfl,O,hI4⟩;generalize hq1:q x d s2=zdu at *;obtain⟨ok1,s3⟩:=zdu;have hg4:H4.get Z.next=some (.cells x.cells 0 true):=by rw[O.get _ U hn3];exact hg3
    have hn4:Z.next<H4.next:=gz hn3 O.next
    dsimp only[zdE];cases ok1 with
    |false=>
     repeat' (first
      |(apply zdk ?_;clear hK K)|apply Rx.o ?_|apply bp ?_|(apply bZ (fun C L=>?_) (fun C L=>?_)<;>try(cases C;done))|(apply aS (fun z V=>?_) (fun z V=>?_)<;>try(cases z;done))|apply ak ?_|(apply zdl fun K hK=>?_)|apply au ?_|apply zdm ?_|apply am ?_|apply zdr ?_)
     all_goals (refine⟨eI,_,eR,?_⟩;try simp only[zdn])
     dsimp only at hc;rw[hc];exact⟨rfl,(F.trans m).trans O,hI4⟩
    |true=>
     repeat' (first
      |(apply zdk ?_;clear hK K)|apply Rx.o ?_|apply bp ?_|(apply bZ (fun C L=>?_) (fun C L=>?_)<;>try(cases C;done))|(apply aS (fun z V=>?_) (fun z V=>?_)<;>try(cases z;done))|apply ak ?_|(apply zdl fun K hK=>?_)|apply au ?_|apply zdm ?_|apply am ?_|apply zdr ?_)
     refine bh rfl bm bo ?_;simp only[dS];have hrec:=tf hw hI hq n x.thn ac (eM (d+1)) s3 H4 ac ac hI4;refine a9 ?_ hrec;rintro v H5 ⟨rfl,Y,hI5⟩;generalize A:zeH q x.thn (eM (d+1)) s3=r2 at *;obtain⟨ok2,s4⟩:=r2;have hg5:H5.get Z.next=some (.cells x.cells 0 true):=by rw[Y.get _ U hn4];exact hg4
     have hn5:Z.next<H5.next:=gz hn4 Y.next
     dsimp only[zdE];cases ok2 with
     |false=>
      repeat' (first
       |(apply zdk ?_;clear hK K)|apply Rx.o ?_|apply bp ?_|(apply bZ (fun C L=>?_) (fun C L=>?_)<;>try(cases C;done))|(apply aS (fun z V=>?_) (fun z V=>?_)<;>try(cases z;done))|apply ak ?_|(apply zdl fun K hK=>?_)|apply au ?_|apply zdm ?_|apply am ?_|apply zdr ?_)
      all_goals (refine⟨eI,_,eR,?_⟩;try simp only[zdn])
      simp only[A]at hc;rw[hc];exact⟨rfl,((F.trans m).trans O).trans Y,hI5⟩
     |true=>
      repeat' (first
       |(apply zdk ?_;clear hK K)|apply Rx.o ?_|apply bp ?_|(apply bZ (fun C L=>?_) (fun C L=>?_)<;>try(cases C;done))|(apply aS (fun z V=>?_) (fun z V=>?_)<;>try(cases z;done))|apply ak ?_|(apply zdl fun K hK=>?_)|apply au ?_|apply zdm ?_|apply am ?_|apply zdr ?_)
      refine bh rfl bm bo ?_;simp only[dS];have j:=tf hw hI hq n x.els ac (eM (d+1)) s4 H5 ac ac hI5;refine a9 ?_ j;rintro v H6 ⟨rfl,hf6,hI6⟩;generalize hq3:zeH q x.els (eM (d+1)) s4=zfz at *;obtain⟨ok3,s5⟩:=zfz;dsimp only[zdE];have hf7:FrB base H H6:=(((F.trans m).trans O).trans Y).trans hf6;cases ok3 with
      |false=>
       repeat' (first
        |(apply zdk ?_;clear hK K)|apply Rx.o ?_|apply bp ?_|(apply bZ (fun C L=>?_) (fun C L=>?_)<;>try(cases C;done))|(apply aS (fun z V=>?_) (fun z V=>?_)<;>try(cases z;done))|apply ak ?_|(apply zdl fun K hK=>?_)|apply au ?_|apply zdm ?_|apply am ?_|apply zdr ?_)
       all_goals (refine⟨eI,_,eR,?_⟩;try simp only[zdn])
       simp only[A,hq3]at hc;rw[hc];exact⟨rfl,hf7,hI6⟩
      |true=>
       repeat' (first
        |(apply zdk ?_;clear hK K)|apply Rx.o ?_|apply bp ?_|(apply bZ (fun C L=>?_) (fun C L=>?_)<;>try(cases C;done))|(apply aS (fun z V=>?_) (fun z V=>?_)<;>try(cases z;done))|apply ak ?_|(apply zdl fun K hK=>?_)|apply au ?_|apply zdm ?_|apply am ?_|apply zdr ?_)
       refine⟨o,s5,?_,eE,eE,eE,eE,?_,hf7,hI6⟩
       .simp only[A,hq3]at hc;exact hc
       .simp only[gU,Nat.reduceBEq,gk,zfD (show i<2^62 by omega)]
   .have hi3:i=l.length:=by simp at z;omega
    all_goals (refine⟨eI,_,eR,?_⟩;try simp only[zdn])
    rw[hc,hi3];simp only[jR,zeH];exact⟨trivial,F,hI2⟩
  .exact⟨s,rfl,eE,eE,eE,eE,eE,gg _ _,hi⟩
end
end Go.Proofs.YtljebeflbbgibaaGreat
