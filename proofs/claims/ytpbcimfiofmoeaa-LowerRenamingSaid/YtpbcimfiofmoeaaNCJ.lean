/- Parts: G2s, G2p, RowN, NdM, LoA, LoB, LoC, LoD, LoE, LoF, LoF6. -/
import Derived.Test.YtpbcimfiofmoeaaNCI
set_option linter.unusedSimpArgs false
set_option linter.unusedVariables false
set_option linter.unusedSectionVars false
set_option linter.defProp false
set_option maxHeartbeats 32000000
namespace Go.Ab
set_option maxRecDepth 20000
open Go
theorem zo{P:Prop}(h:P:=by unfold ro;(repeat' split)<;>omega):P:=h
theorem CX{P:Prop}(h:P:=by have:=h.sS k j;omega):P:=h
theorem eU{P:Prop}(h:P:=by simp only[zbb];omega):P:=h
theorem CY{P:Prop}(h:P:=by simp only[zbb]at n5;omega):P:=h
theorem Is{P:Prop}(h:P:=by simp only[List.all_cons,List.all_nil,hone];rfl):P:=h
theorem eg{P:Prop}(h:P:=by simp only[zbl];omega):P:=h
theorem kZ{P:Prop}(h:P:=by simp only[zbb,zbl];omega):P:=h
theorem zp{P:Prop}(h:P:=by rw[List.length_map,show zcw=70368744177664 from rfl];omega):P:=h
theorem wd{P:Prop}(h:P:=by have:=(Z.sS _ e).1;omega):P:=h
theorem CZ{P:Prop}(h:P:=by rw[<- C,Hp.get_set,if_pos rfl]):P:=h
theorem It{P:Prop}(h:P:=by rw[Hp.get_set,if_neg g];exact sb.get k Z g):P:=h
theorem mD{P:Prop}(h:P:=by rw[Hp.get_set,if_neg ac,zaY,if_neg ac]):P:=h
theorem C0{P:Prop}(h:P:=by rw[C _ ac];exact h.a):P:=h
theorem C1{P:Prop}(h:P:=by rw[C _ ac];exact h.f):P:=h
theorem C2{P:Prop}(h:P:=by rw[C _ ac];exact h.t):P:=h
theorem C3{P:Prop}(h:P:=by rw[C _ ac];exact h.n):P:=h
theorem zq{P:Prop}(h:P:=by rw[zaY,if_pos cN]):P:=h
theorem C4{P:Prop}(h:P:=by simp only[za4,Nat.reduceBEq, *];exact zc7 (n:=l.length) ac ac):P:=h
theorem Iu{P:Prop}(h:P:=by simp only[za4,Nat.reduceBEq, *];exact zc7 (n:=x.args.length) ac ac):P:=h
def C5:=@List.all_append
def Iv:=@List.flatMap_nil
def tV:=@List.drop_eq_nil_of_le
end Go.Ab
namespace Go.Proofs.Ytpbcimfiofmoeaa
set_option maxRecDepth 20000
open Go Go.Ab
section
theorem WN{z:Nat}{H:Hp}{O:List (List AV)}(h:∀r∈O,r.length=z):zcM H z (.lst O)=some (O.length,O.flatten):=by
 simp only[zcM];rw[aj (by rw[iB];intro r hr;simp[h r hr])]
theorem Ex.wk:∀(m:Nat) (x:Ex),x.cells.map (dE m)=x.cells
 |0,x=>by rw[show dE 0=id from rfl,List.map_id]
 |m+1,x=>by
  rw[mh];simp only[dN,o0,dE,ja];have:(fun K=>List.map (dE m) K) ∘ Ex.cells=Ex.cells:=funext fun y=>Ex.wk m y;rw[this]
theorem WO(l:List Ex)(m:Nat):dE m (.lst (l.map Ex.cells))=.lst (l.map Ex.cells):=by
 cases m with
 |zero=>rfl
 |succ m=>
  simp only[dE,ja];have:(fun K=>List.map (dE m) K) ∘ Ex.cells=Ex.cells:=funext fun y=>Ex.wk m y;rw[this]
theorem St.wk:∀(m:Nat) (x:St),x.cells.map (dE m)=x.cells
 |0,x=>by rw[show dE 0=id from rfl,List.map_id]
 |m+1,x=>by
  rw[qM];simp only[dN,o0,dE,ja];have i:(fun K=>List.map (dE m) K) ∘ Ex.cells=Ex.cells:=funext fun y=>Ex.wk m y;have g:(fun K=>List.map (dE m) K) ∘ St.cells=St.cells:=funext fun y=>St.wk m y;rw[i,g]
theorem WP(l:List St)(m:Nat):dE m (.lst (l.map St.cells))=.lst (l.map St.cells):=by
 cases m with
 |zero=>rfl
 |succ m=>
  simp only[dE,ja];have:(fun K=>List.map (dE m) K) ∘ St.cells=St.cells:=funext fun y=>St.wk m y;rw[this]
theorem dB.exs{S:Nat->Prop}{n:Nat}{H:Hp}(l:List Ex):dB S (n+1) H (.lst (l.map Ex.cells)) (.lst (l.map Ex.cells)):=.flat ⟨vF l,trivial⟩ (WO l)
theorem wh{S:Nat->Prop}{n:Nat}{H:Hp}(l:List St):dB S (n+1) H (.lst (l.map St.cells)) (.lst (l.map St.cells)):=.flat ⟨Ch l,trivial⟩ (WP l)
theorem zbI.ex{S:Nat->Prop}{n:Nat}{H:Hp}(x:Ex):zbI S (n+1) H x.cells x.cells:=by
 rw[mh];exact .cons (.int _ _) (.cons (.int _ _) (.cons (.str _) (.cons (.int _ _) (.cons (.exs _) .nil))))
theorem zbI.ar{S:Nat->Prop}{n:Nat}{H:Hp}(x:Ar):zbI S (n+1) H x.cells x.cells:=.cons (.str _) (.cons (.int _ _) .nil)
theorem Iw{S:Nat->Prop}{n:Nat}{H:Hp}:∀l:List Ar,fu S (n+1) H 2 (l.map Ar.cells) (l.map Ar.cells)
 |[]=>trivial
 |a::l=>⟨⟨rfl,zbI.ar a⟩,Iw l⟩
theorem Ix:∀l:List Ar,(l.map Ar.cells).flatten.all AV.one=true
 |[]=>rfl
 |a::l=>by rw[dN,pH,C5,a.one,Ix l];rfl
theorem WQ{S:Nat->Prop}{n:Nat}{H:Hp}{q imm:Nat}{tip:Bool}(l:List Int)(hS:S q)(I:q<H.next)(C:H.get q=some (.cells (l.map fun n=>.int .i64 n) imm tip))(z:imm<=l.length):dB S (n+2) H (.sl q 0 l.length 1) (.lst (l.map fun n=>[.int .i64 n])):=by
 have hf:(l.map fun n=>[AV.int .i64 n]).flatten=l.map fun n=>AV.int .i64 n:=by
  clear C z;induction l with
  |nil=>rfl
  |cons a l ih=>rw[dN,pH,ih];rfl
 have hr:∀l:List Int,fu S (n+1) H 1 (l.map fun n=>[AV.int .i64 n]) (l.map fun n=>[AV.int .i64 n]):=fun l=>by
  induction l with
  |nil=>trivial
  |cons a l ih=>exact⟨⟨rfl,.cons (.int _ _) .nil⟩,ih⟩
 have:=rk (n:=n+1) (a:=l.map fun n=>[AV.int .i64 n]) (imm:=imm) (tip:=tip) hS I (by rw[hf];exact C) (by rw[hf,cD];exact z) (hr l);rw[cD]at this;exact this
theorem zr{cfg:Cfg}(fit:Fit Try.prog){ρ:Nat->Int}(i:l4 cfg.dec ρ)(V:∀f Y r,cfg.call f Y=some r->cn Try.prog ρ f Y r){g:FuncId}{Y:List AV}{r:AV}{n:Nat}
 (I:fB Y) (h:za9 Try.prog cfg g Y zbk fun v H'=>∃m u,iceV H' m v=some u/\dE n u=r):cn Try.prog ρ g Y r:=by
 unfold za9 at h;obtain⟨v,H',Z,m,u,U,O⟩:=h;refine GK n (Cf (m:=m) fit i V I ?_) O;unfold za9;exact⟨v,H',Z,U⟩
theorem WR{P:Program}{t e:TypeId}{z b:Nat}{zz:List AV}(ht:P.underlying t=some (.slice e))(hs:zbh P e=some z)(J:zb3 P e=some b)(hz:zbU P e=some zz)(g:zz.length=z)(Y:jp P t=true)
 {S S':Nat->Prop}{n:Nat}{H:Hp}{v:AV}{U:List (List AV)} (h:zbN S n H z v U) (C:∀k,k<H.next->S k->S' k) (hN:S' H.next) {r imm:Nat}{row:List AV} (hg:H.get r=some (.cells row imm true)) (hrow:row.length=z) (V:row.all AV.one=true)
 (L:(U.length+1)*b<=zcw) (K:U.length+1<=zcw) :
 ∃H' O Z,zcg P false H t t v (.sl r 0 1 z)=some (.sl H.next 0 (U.length+1) z,H')/\O.length=U.length/\(∀x∈O,x.length=z)/\H'.get H.next=some (.cells (O.flatten++row) Z true)/\Z<=O.flatten.length/\H'.next=H.next+1/\(∀k,k<H.next->(∀o m z',v≠.sl k o m z')->H'.get k=H.get k) /\
  fu (fun k=>S' k/\k≠H.next) n H' z O U:=by
 have hx:zcM H z (.sl r 0 1 z)=some (1,row):=by
  have:=sf (H:=H) (r:=r) (o:=0) (n:=1) (z:=z) (s:=z) hg Hu;rw[this,fT,eI ac]
 rcases h with⟨rfl,rfl⟩|⟨q,Z,O,rfl,h1,h2,h3,h4,I⟩
 .exact⟨H.alloc (.cells row 0 true),[],0,append_nil ht hs J hz Y hx V g (by simpa using L) (by simpa using K),rfl,aw,by rw[zaY,aj rfl];simp,dg _,rfl,fun k hk _=>fS,trivial⟩
 .have hrl:=yD (fu.len I);have M:O.length=U.length:=cY.len I;have htr:gR false H z (.sl q 0 O.length z)=H:=by
   unfold gR;simp only[h3,b4];have:Nat.blt (O.length*z) O.flatten.length=false:=by
    cases J:Nat.blt (O.length*z) O.flatten.length with
    |false=>rfl
    |true=>rw[i4]at J;omega
   simp only[lw,fI,this,gX]
  refine⟨(H.kill q).alloc (.cells (O.flatten++row) (Z-0) true),O,Z-0,?_,M,fu.len I,?_,ac,rfl,fun k hk j=>?_,?_⟩
  .simp only[zcg,ht,hs,J,hz,Y,hx,V,htr,g,oK,cZ,zdB,h3,b4,fT,cK,de];rw[aj ⟨by rw[M];exact L,by rw[M];exact K,ac,trivial,h4⟩,M]
  .show((H.kill q).alloc _).get (H.kill q).next=_
   rw[zaY,aj rfl]
  .rw[zaY,af lC,zcW,af (fun e=>j 0 O.length z m0)]
  .exact I.keep2 (fun k i h7=>⟨C k i h7.1,ac⟩) (dV _) fun k i h7=>by rw[zaY,af lC,zcW,af i.2]
theorem zbN.of{S:Nat->Prop}{n q z imm:Nat}{H:Hp}{O Z:List (List AV)}{row w:List AV}(hS:S q)(I:q<H.next)(j:∀x∈O,x.length=z)(g:row.length=z)(C:H.get q=some (.cells (O.flatten++row) imm true))(V:imm<=O.flatten.length)(hr:fu (fun k=>S k/\k≠q) n H z O Z)(Y:zbI (fun k=>S k/\k≠q) n H row w):zbN S n H z (.sl q 0 (Z.length+1) z) (Z++[w]):=by
 have K:O.length=Z.length:=cY.len hr;exact .inr ⟨q,imm,O++[row],by rw[fy,K];rfl,hS,I,by rw[C];simp,Hv,hr.append ⟨⟨g,Y⟩,trivial⟩⟩
theorem zt{S:Nat->Prop}{n:Nat}{H:Hp}{r:Nat}(l:List (List UInt8))(hS:S r)(hr:r<H.next)(C:H.get r=some (.cells (l.map .str) 0 true)):zbN S (n+1) H 1 (.sl r 0 l.length 1) (l.map fun s=>[AV.str s]):=
 .inr ⟨r,0,l.map fun s=>[AV.str s],by rw[cD],hS,hr,by rw[Ck];exact C,dg _,fu.strs l⟩
structure FnL (pt:Nat->Nat) (b n:Nat) (H:Hp) (f:Fu) (p l bo:AV) (v:List AV):Prop where
 len:v.length=5
 one:v.all AV.one=true
 ps:zbN (fun q=>pt q=b) n H 1 p (f.params.map fun s=>[AV.str s])
 ls:zbN (fun q=>pt q=b+1) n H 1 l (f.locals.map fun s=>[AV.str s])
 bo:zbN (fun q=>pt q=b+2) n H 17 bo (f.body.map St.cells)
 vw:zbI (fun q=>pt q=b+3) n H v f.value.cells
def zu(nm:List UInt8)(p l U:AV)(v:List AV):List AV:=[.str nm,p,l,U]++v
structure ProgL (pt:Nat->Nat) (n:Nat) (H:Hp) (ra rf:Nat) (x y:Int) (f g:Fu) (pf lf bf:AV) (vf:List AV) (pg lg bg:AV) (vg:List AV):Prop where
 ga:H.get ra=some (.cells [.str [97],.int .i64 x,.str [98],.int .i64 y] 0 true)
 gf:H.get rf=some (.cells (zu f.name pf lf bf vf++zu g.name pg lg bg vg) 0 true)
 ltA:ra<H.next
 ltF:rf<H.next
 lra:pt ra=1
 lrf:pt rf=2
 F:FnL pt 3 n H f pf lf bf vf
 G:FnL pt 7 n H g pg lg bg vg
def ro(M a b c q:Nat):Nat:=if q<=M then 0 else if q=M+1 then 1 else if q=M+7 then 2 else if q=M+3 then 3 else if q=M+4 then 4 else if q=M+5 then 7 else if q=M+6 then 8 else if q<a then 5 else if q<b then 6 else if q<c then 9 else 10
theorem WS{M a b c q:Nat}(h:M+8<=q)(h1:q<a):ro M a b c q=5:=zo
theorem WT{M a b c q:Nat}(h:M+8<=q)(h1:a<=q)(h2:q<b):ro M a b c q=6:=zo
theorem WU{M a b c q:Nat}(h:M+8<=q)(J:a<=q)(h1:b<=q)(h2:q<c):ro M a b c q=9:=zo
theorem WV{M a b c q:Nat}(h:M+8<=q)(J:a<=q)(h1:b<=q)(h2:c<=q):ro M a b c q=10:=zo
theorem Iy{P:Program}{t e:TypeId}{z b:Nat}{I:List AV}(ht:P.underlying t=some (.slice e))(hs:zbh P e=some z)(hb:zb3 P e=some b)(hz:zbU P e=some I)(Y:I.length=z)(M:jp P t=true)
 {S S':Nat->Prop}{n:Nat}{H:Hp}{v:AV}{O:List (List AV)} (h:zbN S n H z v O) (V:∀k,k<H.next->S k->S' k) (j:S' H.next) {r imm:Nat}{row w:List AV} (hg:H.get r=some (.cells row imm true)) (g:row.length=z) (Z:row.all AV.one=true)
 (hw:zbI (fun k=>S' k/\∀o m J,v≠.sl k o m J) n H row w) (U:(O.length+1)*b<=zcw) (K:O.length+1<=zcw) :
 ∃H',zcg P false H t t v (.sl r 0 1 z)=some (.sl H.next 0 (O.length+1) z,H')/\zbN S' n H' z (.sl H.next 0 (O.length+1) z) (O++[w])/\H'.next=H.next+1/\(∀k,k<H.next->(∀o m J,v≠.sl k o m J)->H'.get k=H.get k):=by
 obtain⟨H',C,imm',a1,a2,a3,a4,a5,a6,a7,a8⟩:=WR (P:=P) ht hs hb hz Y M h V j hg g Z U K;refine⟨H',a1,?_,a6,a7⟩;exact zbN.of j ac a3 g a4 a5 a8 (hw.keep2 (fun k i L=>⟨L.1,ac⟩) ac fun k i L=>a7 k L i.2)
theorem WW{z:Type}{s:List z}(h:s.length=3):∃a b c,s=[a,b,c]:=by
 match s,h with
 |[a,b,c],_=>exact⟨a,b,c,rfl⟩
theorem WX(H:Hp){cs:List AV}(K:cs.length=3)(Y:cs.all AV.one=true):zcv Try.prog H 26 1 [(0,.agg cs)]=some (.sl H.next 0 1 3,H.alloc (.cells cs 0 true)):=by
 obtain⟨a,b,c,rfl⟩:=WW K;kernel_rfl
structure Lx where
 p:Pr
 b:Nat
 ra:Nat
 rf:Nat
 rt:Nat
 rn:Nat
 ae:List (za5×Int)
 fe:List (za5×Int)
 ne:List (za5×Int)
def zbm(X:Lx)(s:Bd)(V vv:AV):List AV:=[.lst (X.p.arrays.map Ar.cells),.lst (X.p.funcs.map Fu.cells),.map X.ra,.map X.rf,V,.map X.rt,.map X.rn,vv,.int .i64 s.state,.int .i64 s.loops]
structure RepL (X:Lx) (H:Hp) (S:Nat->Prop) (s:Bd) (lv vv:AV):Prop where
 m:H.get X.b=some (.cells (zbm X s lv vv) 0 true)
 a:H.get X.ra=some (.map (cE X.ae))
 f:H.get X.rf=some (.map (cE X.fe))
 t:H.get X.rt=some (.map (cE (atV s.l 0)))
 n:H.get X.rn=some (.map (cE X.ne))
 nodes:zbN S 2 H 3 lv (s.l.map Nd.cells)
 vars:hZ H vv s.vars 0
 o1:X.ra<X.rf
 o2:X.rf<X.rt
 o3:X.rt<X.rn
 o4:X.rn<X.b
 o5:X.b<H.next
 sS:∀k,S k->X.b<k/\k<H.next/\¬zbv vv k
 vS:∀k,zbv vv k->X.b<k/\k<H.next
structure Sm (n:Nat) (H H':Hp):Prop where
 get:∀k,k<n->H'.get k=H.get k
structure FrL (X:Lx) (S:Nat->Prop) (vv:AV) (H:Hp) (S':Nat->Prop) (vv':AV) (H':Hp):Prop where
 next:H.next<=H'.next
 get:∀k,k<H.next->k≠X.b->k≠X.rt->¬S k->¬zbv vv k->H'.get k=H.get k
 sub:∀k,S' k->S k\/H.next<=k
 own:∀k,zbv vv' k->zbv vv k\/H.next<=k
theorem FrL.refl(X:Lx)(S:Nat->Prop)(vv:AV)(H:Hp):FrL X S vv H S vv H:=⟨aA _,fun _ _ _ _ _ _=>rfl,fun _ h=>.inl h,fun _ h=>.inl h⟩
def cb:=@FrL.refl
theorem FrL.trans{X:Lx}{S S' O:Nat->Prop}{v z K:AV}{H H' L:Hp}(h:FrL X S v H S' z H')(k:FrL X S' z H' O K L):FrL X S v H O K L where
 next:=cm h.next k.next
 get r h1 h2 h3 h4 h5:=by
  rw[k.get r (l0 h1 h.next) h2 h3 (fun e=>?_) (fun e=>?_)]
  .exact h.get r h1 h2 h3 h4 h5
  .rcases h.sub r e with e|e
   .exact h4 e
   .omega
  .rcases h.own r e with e|e
   .exact h5 e
   .omega
 sub r e:=by
  rcases k.sub r e with e|e
  .exact h.sub r e
  .exact .inr (cm h.next e)
 own r e:=by
  rcases k.own r e with e|e
  .exact h.own r e
  .exact .inr (cm h.next e)
section
variable {X:Lx} {H H':Hp} {S:Nat -> Prop} {s:Bd} {lv vv:AV}
theorem RepL.keep(h:RepL X H S s lv vv)(U:H.next<=H'.next)(C:∀k,k<H.next->(k<=X.b\/S k\/zbv vv k)->H'.get k=H.get k):RepL X H' S s lv vv:=by
 have K:=h.o1;have L:=h.o2;have Y:=h.o3;have o:=h.o4;have V:=h.o5;refine⟨by rw[C _ V (.inl (aA _))];exact h.m,by rw[C _ ac (.inl ac)];exact h.a,by rw[C _ ac (.inl ac)];exact h.f,by rw[C _ ac (.inl ac)];exact h.t,by rw[C _ ac (.inl ac)];exact h.n,h.nodes.keep (fun _ _ h=>h) U fun k j Z=>C k Z (.inr (.inl j)),h.vars.keep U fun k j=>C k (h.vS k j).2 (.inr (.inr j)),K,L,Y,o,ac,fun k j=>?_,fun k j=>?_⟩
 .have:=h.sS k j;exact⟨this.1,ac,this.2.2⟩
 .have:=h.vS k j;omega
theorem RepL.alloc(h:RepL X H S s lv vv)(b:HB):RepL X (H.alloc b) S s lv vv:=h.keep (dV _) fun k j _=>fS
theorem RepL.alloc2(h:RepL X H S s lv vv)(b c:HB):RepL X ((H.alloc b).set H.next c) S s lv vv:=h.keep (dV _) fun k j _=>mD
theorem FrL.alloc{i:Nat->Prop}{J:AV}{zbk:Hp}(h:FrL X i J zbk S vv H)(b:HB):FrL X i J zbk S vv (H.alloc b):=h.trans ⟨dV _,fun k j _ _ _ _=>fS,fun _ h=>.inl h,fun _ h=>.inl h⟩
theorem FrL.alloc2{i:Nat->Prop}{J:AV}{zbk:Hp}(h:FrL X i J zbk S vv H)(b c:HB):FrL X i J zbk S vv ((H.alloc b).set H.next c):=h.trans ⟨dV _,fun k j _ _ _ _=>mD,fun _ h=>.inl h,fun _ h=>.inl h⟩
theorem RepL.setS(h:RepL X H S s lv vv)(x:Int):RepL X (H.set X.b (.cells (zbm X {s with state:=x} lv vv) 0 true)) S {s with state:=x} lv vv/\FrL X S vv H S vv (H.set X.b (.cells (zbm X {s with state:=x} lv vv) 0 true)):=by
 have K:=h.o1;have L:=h.o2;have Z:=h.o3;have o:=h.o4;have Y:=h.o5;have C:∀k,k≠X.b->(H.set X.b (.cells (zbm X {s with state:=x} lv vv) 0 true)).get k=H.get k:=fun k j=>p9;refine⟨⟨gE,C0,C1,C2,C3,h.nodes.keep (fun _ _ h=>h) (aA _) fun k j U=>C k CX,h.vars.keep (aA _) fun k j=>C k (by have:=h.vS k j;omega),K,L,Z,o,Y,h.sS,h.vS⟩,⟨aA _,fun k _ g _ _ _=>C k g,fun _ h=>.inl h,fun _ h=>.inl h⟩⟩
theorem RepL.setN(h:RepL X H S s lv vv)(x:Nat):RepL X (H.set X.b (.cells (zbm X {s with loops:=x} lv vv) 0 true)) S {s with loops:=x} lv vv/\FrL X S vv H S vv (H.set X.b (.cells (zbm X {s with loops:=x} lv vv) 0 true)):=by
 have K:=h.o1;have L:=h.o2;have Z:=h.o3;have o:=h.o4;have Y:=h.o5;have C:∀k,k≠X.b->(H.set X.b (.cells (zbm X {s with loops:=x} lv vv) 0 true)).get k=H.get k:=fun k j=>p9;refine⟨⟨gE,C0,C1,C2,C3,h.nodes.keep (fun _ _ h=>h) (aA _) fun k j U=>C k CX,h.vars.keep (aA _) fun k j=>C k (by have:=h.vS k j;omega),K,L,Z,o,Y,h.sS,h.vS⟩,⟨aA _,fun k _ g _ _ _=>C k g,fun _ h=>.inl h,fun _ h=>.inl h⟩⟩
theorem RepL.setV(h:RepL X H S s lv vv){i:Nat}(z:i<s.vars.length)(x:Int):∃r,zb1 Try.prog 23 vv (.int .i64 (i:Int))=some (.ptr r i)/\ip Try.prog H 3 (.ptr r i)=some (.int .i64 (s.vars.getD i 0)) /\
 ∃H',lV Try.prog H 3 (.ptr r i) (.int .i64 x)=some H'/\X.b<r/\r<H.next/\zbv vv r/\RepL X H' S {s with vars:=s.vars.set i x} lv vv/\FrL X S vv H S vv H'/\(∀k,k≠r->H'.get k=H.get k)/\H'.next=H.next:=by
 rcases h.vars with⟨_,Z⟩|⟨r,M,C,g,hr⟩
 .rw[Z]at z;simp at z
 .have U:zbv vv r:=⟨_,M⟩;have V:=(h.vS r U).1;refine⟨r,?_,?_,H.set r (.cells ((s.vars.set i x).map (.int .i64)) 0 true),?_,V,hr,U,?_,⟨aA _,fun k _ _ _ _ o=>?_,fun _ h=>.inl h,fun _ h=>.inl h⟩,fun k j=>p9,rfl⟩
  .rw[M,x4 Try.underlying23 jK z];simp
  .rw[BK Try.underlying3 rfl C,gl,eR,aY z];rfl
  .rw[Vk C (by rw[cD];exact z),List.map_set]
  .have K:=h.o1;have L:=h.o2;have Y:=h.o3;have O:=h.o4;have J:=h.o5;have j:∀k,k≠r->(H.set r (.cells ((s.vars.set i x).map (.int .i64)) 0 true)).get k=H.get k:=fun k j=>p9;refine⟨by rw[j _ ac];exact h.m,by rw[j _ ac];exact h.a,by rw[j _ ac];exact h.f,by rw[j _ ac];exact h.t,by rw[j _ ac];exact h.n,h.nodes.keep (fun _ _ h=>h) (aA _) fun k hS _=>j k fun e=>(h.sS k hS).2.2 (by rw[e];exact U),.inr ⟨r,by rw[M,kz],gE,g,hr⟩,K,L,Y,O,J,h.sS,h.vS⟩
  .rw[aC,af (fun e=>o (by rw[e];exact U))]
theorem RepL.swapV(h:RepL X H S s lv vv){vw:AV}{l:List Int}(O:hZ H vw l 0)(h1:∀k,zbv vw k->X.b<k/\k<H.next/\¬S k):RepL X (H.set X.b (.cells (zbm X {s with vars:=l} lv vw) 0 true)) S {s with vars:=l} lv vw:=by
 have K:=h.o1;have L:=h.o2;have Z:=h.o3;have o:=h.o4;have Y:=h.o5;have C:∀k,k≠X.b->(H.set X.b (.cells (zbm X {s with vars:=l} lv vw) 0 true)).get k=H.get k:=fun k j=>p9;exact⟨gE,C0,C1,C2,C3,h.nodes.keep (fun _ _ h=>h) (aA _) fun k j U=>C k CX,O.keep (aA _) fun k j=>C k (by have:=h1 k j;omega),K,L,Z,o,Y,fun k j=>⟨(h.sS k j).1,(h.sS k j).2.1,fun e=>(h1 k e).2.2 j⟩,fun k j=>⟨(h1 k j).1,(h1 k j).2.1⟩⟩
end
def tyLoB.tyF:=ad @eJ (ad @cQ (ad @vu (ad @cW (ad @gU (ad @qN (ad @lx (ad @gI (ad @FS (ad @ml (ad @nW (ad @FX (ad @Ge (ad @Gf (ad @Gg (ad @FZ (ad @Gi (ad @Gj (ad @GS (ad @VA (@VB))))))))))))))))))))
open tyLoB
noncomputable def Iz:{c:SC // aD 20 (Try.f98.body.getD .skip)=c}:=by
 refine⟨?_,?_⟩;rotate_left
 .simp only[Try.f98,bP,aD,zby,zbt,zbA,zbB,Nat.blt,Nat.ble];rfl
noncomputable def IA:{c:SC // aD 69 (Try.f58.body.getD .skip)=c}:=by
 refine⟨?_,?_⟩;rotate_left
 .simp only[Try.f58,bP,aD,zby,zbt,zbA,zbB,Nat.blt,Nat.ble];rfl
def C6(f:FuncId):Bool:=Nat.beq f 98||Nat.beq f 58||Nat.beq f 59||Nat.beq f 60||Nat.beq f 61||Nat.beq f 99||Nat.beq f 100||Nat.beq f 101||Nat.beq f 102||Nat.beq f 128||Nat.beq f 129||Nat.beq f 130||Nat.beq f 140||Nat.beq f 30
structure LowT (tb:List En):Prop where
 pl:∀f,C6 f=true->(∀ar,zcu tb f ar=none)/\lB tb f=false
theorem LowT.plain{g:List En}(h:LowT g){f:FuncId}(Z:C6 f=true):Plain (za3 pls g) f:=zcB (h.pl f Z).1 (h.pl f Z).2
theorem IB{cfg:Cfg}(L:Plain cfg 98)(V:cfg.keep 98=false){H:Hp}{v:AV}{b:List Int}{lo:Nat}(hv:ki H v b lo)(Z:b.length<2^38)(n:Int):
 za9 Try.prog cfg 98 [v,.int .u64 n] H fun w H'=>ki H' w (b++jV n 8) lo/\H.next<=H'.next/\∀k,k<lo->H'.get k=H.get k:=by
 obtain⟨zbf,i0,Y,_⟩:=id hv;have hone:AV.one v=true:=by rw[Y];rfl
 clear Y;refine zbs (M:=20) (rs:=[.tmp 4]) (L.call _) L.ice L.froz Try.func98 rfl rfl Iz.2 rfl ?_;dsimp only[Iz,zbj,Nat.reduceAdd];repeat' (first
  |(apply ai ?_;clear hK K)|apply Rx.o ?_|apply aq ?_|(apply zaW fun K hK=>?_)|apply aO ?_|fail)
 refine zcj [1] [] 5 8 (fun i E m=>∃w,E.at 0=w/\ki m w (b++jV n i) lo/\∀k,k<lo->m.get k=H.get k) eE ⟨v,eE,by simpa [jV]using hv,fun _ _=>rfl⟩ ?_;rintro i E m hi g J I hsI ⟨w,k0,j,o⟩;(try simp only[zbR,zbq,br,za4,zbg,Nat.reduceBEq, *]at g);(try simp only[zbq, *]at J);(try simp only[zbb,zbl,zb4,b4,Nat.reduceAdd]at I);by_cases C:i<8
 .have U:(i:Int)<8:=by omega
  have e1:IntKind.wrap .i64 (8*(i:Int))=((8*i:Nat):Int):=by rw[mr ac ac];omega
  have e2:IntKind.wrap .u64 ((8*i:Nat):Int)=((8*i:Nat):Int):=(by decide:∀i:_root_.Fin 8,IntKind.wrap .u64 ((8*i.val:Nat):Int)=((8*i.val:Nat):Int)) ⟨i,C⟩;have e4:∀(D:BinOp->Sx->Sx->Option Bool) (t:TypeId),zcq Try.prog D .shr t (.int .u64 n) (.int .u64 ((8*i:Nat):Int))=some (.int .u64 (n.fdiv (2^ (8*i)))):=fun D t=>bin_shr ac rfl;repeat' (first
   |(apply ai ?_;clear hK K)|apply Ry.o ?_|(apply bi (fun Z z=>?_) (fun Z z=>?_)<;>try(cases Z;done))|apply aq ?_|(apply zaW fun K hK=>?_)|apply aO ?_|apply za8 ?_|fail)
  have hwb:Cl (m.alloc (.cells [.int .u8 (kV n i)] 0 true)) w (b++jV n i) lo:=.inr (j.keep (dV _) fun k O=>by rw[zaY,af (by have:=(j.lt O).2;omega)]);have hlo2:lo<=m.next:=by obtain⟨r,im,_,_,_,h1,h2⟩:=j;omega
  obtain⟨v5,H5,a5,s5,n5,f5,o5⟩:=Vo (r:=m.next) (imm:=0) (kV n i) hwb eU lY (by rw[fy,pZ];omega);have n5':m.next<=H5.next:=CY
  have o5':∀k,k<lo->H5.get k=H.get k:=fun k O=>by rw[f5 k O,zaY,af ac,o k O]
  clear n5 f5 o5;refine qL eV eV (by rw[V];exact a5) ?_;repeat' (first
   |(apply ai ?_;clear hK K)|apply Rx.o ?_|(apply zaW fun K hK=>?_)|fail)
  refine⟨ac,zbw,zbw,eN,(by simp only[za4,Nat.reduceBEq, *];exact zc7 (n:=8) ac ac),?_⟩;exact⟨v5,eE,by rw[Vp,<-mU];exact s5,o5'⟩
 .have U:¬(i:Int)<8:=by omega
  repeat' (first
   |(apply ai ?_;clear hK K)|apply Ry.o ?_|(apply bi (fun Z z=>?_) (fun Z z=>?_)<;>try(cases Z;done))|apply aq ?_|(apply zaW fun K hK=>?_)|apply aN ?_|apply zbW ?_)
  all_goals (refine⟨za2,_,za7,?_⟩;try simp only[za0])
  have hie:i=8:=ac;rw[hie]at j;exact⟨j,ac,o⟩
theorem iM.len'{H:Hp}{v:AV}{l:List Int}{lo:Nat}(h:iM H v l lo)(H':Hp):zbO Try.prog H' 23 v=some (.int .i64 l.length):=by
 rcases h with⟨rfl,rfl⟩|h
 .exact zdo Try.underlying23
 .exact h.len
theorem WY{S:Nat->Prop}{H:Hp}{kv:AV}{z:List Int}{lo:Nat}(op imm:Int)(j:iM H kv z lo)(hS:∀k,zbv kv k->S k):zbI S 2 H [.int .i64 op,.int .i64 imm,kv] (Nd.mk op imm z).cells:=by
 refine .cons (.int _ _) (.cons (.int _ _) (.cons ?_ .nil));rcases j with⟨rfl,rfl⟩|⟨r,i,rfl,g,m,L,o⟩
 .exact .nilS
 .exact WQ z (hS r ⟨_,rfl⟩) o g m
theorem WZ{H:Hp}{kv:AV}{l:List Int}{lo:Nat}(h:iM H kv l lo)(a b:Int):zb5 Try.prog 25 [(0,.int .i64 a),(1,.int .i64 b),(2,kv)]=some (.agg [.int .i64 a,.int .i64 b,kv]):=by
 rcases h with⟨rfl,rfl⟩|⟨r,i,rfl,_⟩<;>kernel_rfl
theorem iM.one{H:Hp}{kv:AV}{l:List Int}{lo:Nat}(h:iM H kv l lo):AV.one kv=true:=by
 rcases h with⟨rfl,rfl⟩|⟨r,i,rfl,_⟩<;>rfl
theorem zw:pz Try.prog 3=some (.int .i64 0):=ah
theorem zdz:lc Try.prog 9=some .string:=ah
def tW(X:Lx)(S:Nat->Prop)(vv kv:AV)(H:Hp)(n:Nd)(s:Bd)(v:AV)(H':Hp):Prop:=v=.int .i64 (zaX n s).1/\∃O U,RepL X H' O (zaX n s).2 U vv/\H.next<=H'.next/\(∀k,k<H.next->k≠X.b->k≠X.rt->¬S k->H'.get k=H.get k)/\∀k,O k->S k\/zbv kv k\/H.next<=k
set_option maxRecDepth 100000 in
theorem wi{tb:List En}(hG:LowT tb){X:Lx}{H:Hp}{S:Nat->Prop}{s:Bd}{lv vv kv:AV}(hR:RepL X H S s lv vv)(n:Nd)(Y:iM H kv n.kids 0)(J:∀k,zbv kv k->X.b<k/\¬S k/\¬zbv vv k)(hr:∀x∈ji s.l n,NdR x)(hlen:s.l.length<2^36):
 za9 Try.prog (za3 pls tb) 58 [.ptr X.b 0,.int .i64 n.op,.int .i64 n.imm,kv] H (tW X S vv kv H n s):=by
 have hw:Plain (za3 pls tb) 58:=hG.plain cN;have hap:Plain (za3 pls tb) 98:=hG.plain cN;have hkeep:(za3 pls tb).keep 58=false:=rfl;have hn:NdR n:=hr n (yX.2 (.inr rfl));have hnl:=hn.len;have o1:=hR.o1;have o2:=hR.o2;have o3:=hR.o3;have o4:=hR.o4;have o5:=hR.o5;have hkn:=Y.len';refine zbs (M:=69) (rs:=[.tmp 8]) (hw.call _) hw.ice hw.froz Try.func58 rfl rfl IA.2 rfl ?_;dsimp only[IA,zbj,Nat.reduceAdd];repeat' (first
  |(apply ai ?_;clear hK K)|apply Rx.o ?_|apply aq ?_|(apply zaW fun K hK=>?_)|fail)
 refine aK rfl aL aM ?_;simp only[aR];refine aI ?_ (IB hap rfl (b:=[IntKind.wrap .u8 n.op]) (lo:=H.next) ⟨H.next,0,rfl,gK,dg _,aA _,by simp[zbb]⟩ aw _);rintro w H1 ⟨hw1,zbT,q1⟩;have n1':H.next<=H1.next:=by simp only[zbb]at zbT;omega
 have q1':∀k,k<H.next->H1.get k=H.get k:=fun k Y=>by rw[q1 k Y,zaY,af ac]
 clear zbT q1;dsimp only[za1];repeat' (first
  |(apply ai ?_;clear hK K)|apply Rx.o ?_|apply aq ?_|(apply zaW fun K hK=>?_)|apply aO ?_|fail)
 refine zcj [0,1,2,3,8,20,21] [] 22 n.kids.length (fun j E V=>∃w,E.at 9=w/\ki V w ([IntKind.wrap .u8 n.op]++jV (IntKind.wrap .u64 n.imm) 8++(n.kids.take j).flatMap fun k=>jV (IntKind.wrap .u64 k) 8) H.next/\Sm H.next H V) eE ⟨w,eE,by simpa using hw1,⟨q1'⟩⟩ ?_;rintro j E V hj hcE hrH hnH hsI ⟨w2,k9,hw2,U⟩;(try simp only[zbR,zbq,br,za4,zbg,Nat.reduceBEq, *]at hcE);(try simp only[zbq, *]at hrH);(try simp only[zbb,zbl,zb4,b4,Nat.reduceAdd]at hnH);have n2':H.next<=V.next:=ac
 by_cases I:j<n.kids.length
 .have hlt':(j:Int)<n.kids.length:=by omega
  have htk:n.kids.take (j+1)=n.kids.take j++[n.kids[j]]:=by rw[kI,aY I];rfl
  have hfl:((n.kids.take j).flatMap fun k=>jV (IntKind.wrap .u64 k) 8).length<=8*j:=by
   rw[List.length_flatMap];simp only[pZ];have:((n.kids.take j).map fun _=>8).sum=8*(n.kids.take j).length:=by
    generalize n.kids.take j=q;induction q with
    |nil=>rfl
    |cons a q ih=>simp[ih];omega
   rw[this,jr];omega
  have hkb:hY V kv n.kids 0:=by
   rcases Y with⟨_,g⟩|g
   .rw[g]at I;simp at I
   .exact g.keep ac fun k Y=>U.get k (g.lt Y).2
  obtain⟨r,hix,hld⟩:=hkb.at I;generalize n.kids[j]=kd at *;repeat' (first
   |(apply ai ?_;clear hK K)|apply Ry.o ?_|(apply bi (fun hb z=>?_) (fun hb z=>?_)<;>try(cases hb;done))|apply aq ?_|(apply zaW fun K hK=>?_)|apply aO ?_|apply za8 ?_|fail)
  refine aK rfl aL aM ?_;simp only[aR];refine aI ?_ (IB hap rfl hw2 (by rw[fy,fy,pZ,List.length_singleton];omega) _);rintro w3 H3 ⟨hw3,n3,q3⟩;dsimp only[za1];repeat' (first
   |(apply ai ?_;clear hK K)|apply Rx.o ?_|(apply zaW fun K hK=>?_)|fail)
  refine⟨ac,zbw,zbw,eN,(by simp only[za4,Nat.reduceBEq, *];exact zc7 (n:=n.kids.length) ac ac),?_⟩;exact⟨w3,eE,by rw[htk,List.flatMap_append,sn,Iv,aR,<-mU];exact hw3,⟨fun k Y=>by rw[q3 k Y];exact U.get k Y⟩⟩
 .have hlt':¬(j:Int)<n.kids.length:=by omega
  have hje:n.kids.take j=n.kids:=eI ac;rw[hje,<-VC]at hw2;have hcv:=VD hw2;have Z:RepL X V S s lv vv:=hR.keep n2' fun k Y _=>U.get k Y;have m2:=Z.m;unfold zbm at m2;have hlk:=Hg (P:=Try.prog) (t:=81) Try.underlying81 zdz zw Z.t (kA n);obtain⟨f1,f2,f3⟩:=HW hn s.l 0 (fun x hx=>hr x (yX.2 (.inl hx)));clear hje hw1 q1';have hcv':zdg Try.prog V 61 9 w2=some (.str (kA n)):=hcv;clear hcv;by_cases C:f4 s.l n<s.l.length
  .rw[lD C]at f1;have f2:=f2 C;rw[f1,f2]at hlk;repeat' (first
    |(apply ai ?_;clear hK K)|apply Ry.o ?_|(apply bi (fun hb z=>?_) (fun hb z=>?_)<;>try(cases hb;done))|apply aq ?_|(apply zaW fun K hK=>?_)|(apply zcy 7 [(3,12),(5,12),(6,12)] fun K hK=>?_)|(apply zbK ?_;try intro _)|(apply zcr ?_ ?_<;>clear hK K)|apply cr ?_|apply za8 ?_|apply aN ?_|apply zbW ?_)
   all_goals first
    |exact zck
    |skip
   all_goals (refine⟨za2,_,za7,?_⟩;try simp only[za0])
   have e1:zaX n s=(((f4 s.l n:Nat):Int),s):=by rw[zaX,ji,aj C]
   rw[tW,e1];exact⟨aw,S,lv,Z,n2',fun k i _ _ _=>U.get k i,fun k Y=>.inl Y⟩
  .rw[mp C]at f1;have f3:=f3 C;have hix:f4 s.l n=s.l.length:=by have:=CM s.l n;omega
   have hadd:ji s.l n=s.l++[n]:=by rw[ji,af C]
   rw[f1]at hlk;have hll:∀H',zbO Try.prog H' 26 lv=some (.int .i64 s.l.length):=fun H'=>by
    have:=Z.nodes.len (P:=Try.prog) (t:=26) (H':=H') Try.underlying26
    rwa [cD]at this
   have hup:zdu Try.prog V 81 (.map X.rt) (.str (kA n)) (.int .i64 s.l.length)=some (V.set X.rt (.map (cE (atV (s.l++[n]) 0)))):=by
    rw[(Cw (P:=Try.prog) (t:=81) (nm:=kA n) Try.underlying81 zdz Z.t).1 ((Cz (kA n) (atV s.l 0) 0).1 f1).1,<-Wj];simp[cE]
   have hbn:=WZ Y n.op n.imm;have hone:=Y.one;have hbs:∀H,zcv Try.prog H 26 1 [(0,.agg [.int .i64 n.op,.int .i64 n.imm,kv])]=some (.sl H.next 0 1 3,H.alloc (.cells [.int .i64 n.op,.int .i64 n.imm,kv] 0 true)):=fun H=>WX H rfl Is;have g3:∀k,k≠X.rt->(V.set X.rt (.map (cE (atV (s.l++[n]) 0)))).get k=V.get k:=fun k Y=>by rw[aC,af Y]
   have g4:∀k,k≠X.rt->k<V.next->((V.set X.rt (.map (cE (atV (s.l++[n]) 0)))).alloc (.cells [.int .i64 n.op,.int .i64 n.imm,kv] 0 true)).get k=V.get k:=fun k Y hl=>by rw[zaY,af eg,g3 k Y]
   have m3:(V.set X.rt (.map (cE (atV (s.l++[n]) 0)))).get X.b=some (.cells (zbm X s lv vv) 0 true):=by rw[g3 _ ac];exact Z.m
   have m4:((V.set X.rt (.map (cE (atV (s.l++[n]) 0)))).alloc (.cells [.int .i64 n.op,.int .i64 n.imm,kv] 0 true)).get X.b=some (.cells (zbm X s lv vv) 0 true):=by rw[g4 _ ac ac];exact Z.m
   have g4n:((V.set X.rt (.map (cE (atV (s.l++[n]) 0)))).alloc (.cells [.int .i64 n.op,.int .i64 n.imm,kv] 0 true)).get V.next=some (.cells [.int .i64 n.op,.int .i64 n.imm,kv] 0 true):=zq
   have hkS:∀k,zbv kv k->k<H.next:=fun k O=>(Y.lt O).2
   obtain⟨H5,a5,s5,n5,q5⟩:=Iy (P:=Try.prog) (t:=26) Try.underlying26 BV FJ FK rfl ah (S':=fun k=>S k\/zbv kv k\/k=V.next+1)
    (Z.nodes.keep (S':=S) (H':=(V.set X.rt (.map (cE (atV (s.l++[n]) 0)))).alloc (.cells [.int .i64 n.op,.int .i64 n.imm,kv] 0 true)) (fun _ _ h=>h) (dV _) fun k Y h6=>g4 k (by have:=(Z.sS k Y).1;omega) h6)
    (fun k _ h=>.inl h) (.inr (.inr rfl)) (r:=V.next) (imm:=0) (row:=[.int .i64 n.op,.int .i64 n.imm,kv]) (w:=n.cells) g4n rfl Is
    (WY n.op n.imm (lo:=0) (Y.keep kZ fun k O=>by rw[g4 k (by have:=(J k O).1;omega) (by have:=hkS k O;omega)];exact U.get k (hkS k O)) fun k O=>⟨.inr (.inl O),fun o m z' e=>(J k O).2.1 (by
      rcases Z.nodes with⟨i,_⟩|⟨q,im,rows,i,g,_⟩
      .rw[i]at e;cases e
      .rw[i]at e;simp only[AV.sl.injEq]at e;rw[<-e.1];exact g)⟩)
    zp zp
   rw[cD]at a5 s5;simp only[zbb,zbl]at a5 s5 n5 q5;have hno:∀k,(¬S k)->∀o m z',lv≠.sl k o m z':=fun k Y o m z' e=>Y (by
    rcases Z.nodes with⟨i,_⟩|⟨q,im,rows,i,g,_⟩
    .rw[i]at e;cases e
    .rw[i]at e;simp only[AV.sl.injEq]at e;rw[<-e.1];exact g)
   have m5:H5.get X.b=some (.cells (zbm X s lv vv) 0 true):=by rw[q5 _ ac (hno _ fun e=>wd)];exact m4
   have L:∀k,k<V.next->k≠X.rt->¬S k->H5.get k=V.get k:=fun k i g h3=>by rw[q5 _ ac (hno _ h3)];exact g4 k g i
   have t5:H5.get X.rt=some (.map (cE (atV (s.l++[n]) 0))):=by rw[q5 _ ac (hno _ fun e=>wd),zaY,af eg,aC,aj rfl]
   have hpo:zaX n s=(((f4 s.l n:Nat):Int),{s with l:=s.l++[n] }):=by rw[zaX,hadd]
   have fin:tW X S vv kv H n s (.int .i64 s.l.length) (H5.set X.b (.cells (zbm X {s with l:=s.l++[n] } (.sl (V.next+1) 0 (s.l.length+1) 3) vv) 0 true)):=by
    rw[tW,hpo,hix];have g6:∀k,k≠X.b->(H5.set X.b (.cells (zbm X {s with l:=s.l++[n] } (.sl (V.next+1) 0 (s.l.length+1) 3) vv) 0 true)).get k=H5.get k:=fun k Y=>by rw[aC,af Y]
    refine⟨rfl,fun k=>S k\/zbv kv k\/k=V.next+1,_,⟨gE,?_,?_,?_,?_,?_,?_,o1,o2,o3,o4,?_,?_,?_⟩,?_,?_,?_⟩
    .rw[g6 _ ac,L _ ac ac fun e=>wd];exact Z.a
    .rw[g6 _ ac,L _ ac ac fun e=>wd];exact Z.f
    .rw[g6 _ ac];exact t5
    .rw[g6 _ ac,L _ ac ac fun e=>wd];exact Z.n
    .have e:(s.l++[n]).map Nd.cells=s.l.map Nd.cells++[n.cells]:=by simp
     rw[e];refine s5.keep (fun _ _ h=>h) (aA _) fun k Y _=>g6 k ?_;rcases Y with Y|Y|Y
     .have:=(Z.sS _ Y).1;omega
     .have:=(J _ Y).1;omega
     .omega
    .exact Z.vars.keep eg fun k Y=>by rw[g6 k (by have:=(Z.vS k Y).1;omega),L k (Z.vS k Y).2 (by have:=(Z.vS k Y).1;omega) fun e=>(Z.sS k e).2.2 Y]
    .simp only[zbl];omega
    .rintro k (Y|Y|Y)
     .have:=Z.sS k Y;exact⟨this.1,eg,this.2.2⟩
     .have:=J k Y;have g:=hkS k Y;exact⟨this.1,eg,this.2.2⟩
     .refine⟨ac,eg,fun e=>?_⟩;have:=(Z.vS k e).2;omega
    .intro k Y;have:=Z.vS k Y;simp only[zbl];omega
    .simp only[zbl];omega
    .intro k i g h3 h4;rw[g6 k g,L k ac h3 h4];exact U.get k i
    .rintro k (Y|Y|Y)
     .exact .inl Y
     .exact .inr (.inl Y)
     .exact .inr (.inr ac)
   unfold zbm at m3 m4 m5 fin;clear s5 L t5 g3 g4 q5 hkS;repeat' (first
    |(apply ai ?_;clear hK K)|apply Ry.o ?_|apply dD ?_|(apply bi (fun hb z=>?_) (fun hb z=>?_)<;>try(cases hb;done))|apply aq ?_|(apply zaW fun K hK=>?_)|(apply zcy 7 [(3,12),(5,12),(6,12)] fun K hK=>?_)|(apply sq 10 fun K hK=>?_)|(apply zbK ?_;try intro _)|(apply zcr ?_ ?_<;>clear hK K)|apply cr ?_|apply aN ?_|apply zbW ?_)
   all_goals first
    |exact zck
    |skip
   all_goals (refine⟨za2,_,za7,?_⟩;try simp only[za0])
   exact fin
end
section
def tyLoC.tyF:=ad @cQ (ad @cW (ad @gU (ad @lx (ad @kQ (ad @ly (ad @gI (ad @oM (ad @ml (@nW)))))))))
open tyLoC
noncomputable def IC:{c:SC // aD 8 (Try.f59.body.getD .skip)=c}:=by
 refine⟨?_,?_⟩;rotate_left
 .simp only[Try.f59,bP,aD,zby,zbt,zbA,zbB,Nat.blt,Nat.ble];rfl
noncomputable def ID:{c:SC // aD 18 (Try.f102.body.getD .skip)=c}:=by
 refine⟨?_,?_⟩;rotate_left
 .simp only[Try.f102,bP,aD,zby,zbt,zbA,zbB,Nat.blt,Nat.ble];rfl
noncomputable def zx:{c:SC // aD 19 (Try.f130.body.getD .skip)=c}:=by
 refine⟨?_,?_⟩;rotate_left
 .simp only[Try.f130,bP,aD,zby,zbt,zbA,zbB,Nat.blt,Nat.ble];rfl
noncomputable def IE:{c:SC // aD 25 (Try.f100.body.getD .skip)=c}:=by
 refine⟨?_,?_⟩;rotate_left
 .simp only[Try.f100,bP,aD,zby,zbt,zbA,zbB,Nat.blt,Nat.ble];rfl
def ol(X:Lx)(S:Nat->Prop)(vv:AV)(H:Hp)(r:Int×Bd)(v:AV)(H':Hp):Prop:=v=.int .i64 r.1/\∃O U,RepL X H' O r.2 U vv/\FrL X S vv H O vv H'
def mF(X:Lx)(S:Nat->Prop)(vv:AV)(H:Hp)(r:Bd)(v:AV)(H':Hp):Prop:=∃O U C,RepL X H' O r U C/\FrL X S vv H O C H'
def IF(X:Lx)(S:Nat->Prop)(vv:AV)(H:Hp)(r:Bd)(v:AV)(H':Hp):Prop:=∃O U,RepL X H' O r U vv/\FrL X S vv H O vv H'
theorem tW.val{X:Lx}{S:Nat->Prop}{vv kv:AV}{H V H':Hp}{n:Nd}{s:Bd}{v:AV}(h:tW X S vv kv V n s v H')(Z:FrL X S vv H S vv V)(j:∀k,zbv kv k->H.next<=k):ol X S vv H (zaX n s) v H':=by
 obtain⟨i,O,U,g,m,L,o⟩:=h;refine⟨i,O,U,g,cm Z.next m,fun k a b c d e=>?_,fun k a=>?_,fun k a=>.inl a⟩
 .rw[L k (l0 a Z.next) b c d];exact Z.get k a b c d e
 .rcases o k a with a|a|a
  .exact .inl a
  .exact .inr (j k a)
  .exact .inr (cm Z.next a)
theorem tX{r o n z k:Nat}(h:zbv (.sl r o n z) k):k=r:=by
 obtain⟨m,e⟩:=h;simp only[AV.sl.injEq]at e;exact e.1.symm
theorem wj{k:Nat}(h:zbv .nilS k):False:=by
 obtain⟨m,e⟩:=h;cases e
theorem nC{g:List En}(O:LowT g){X:Lx}{H V:Hp}{S:Nat->Prop}{s:Bd}{U vv:AV}(I:RepL X V S s U vv)(M:FrL X S vv H S vv V)(n:Nd){r m:Nat}(L:n.kids.length=m)(C:V.get r=some (.cells (n.kids.map (.int .i64)) 0 true))(hr:H.next<=r)(J:r<V.next)(K:X.b<r)(hS:¬S r)(z:¬zbv vv r)(Y:Fin (zaX n s).2){op imm:Int}(o:n.op=op)(j:n.imm=imm):
 za9 Try.prog (za3 pls g) 58 [.ptr X.b 0,.int .i64 op,.int .i64 imm,.sl r 0 m 1] V (ol X S vv H (zaX n s)):=by
 subst L;subst o;subst j;refine aI ?_ (wi O I n (.inr ⟨r,0,rfl,C,dg _,dg _,J⟩) (fun k Z=>?_) Y.r (sD (tQ s.l n).length_le Y.l))
 .intro v H' h;exact h.val M fun k Z=>by rw[tX Z];exact hr
 .rw[tX Z];exact⟨K,hS,z⟩
theorem wl{g:List En}(O:LowT g){X:Lx}{H V:Hp}{S:Nat->Prop}{s:Bd}{Y vv:AV}(I:RepL X V S s Y vv)(U:FrL X S vv H S vv V)(op imm:Int)(Z:Fin (zaX ⟨op,imm,[]⟩ s).2):
 za9 Try.prog (za3 pls g) 58 [.ptr X.b 0,.int .i64 op,.int .i64 imm,.nilS] V (ol X S vv H (zaX ⟨op,imm,[]⟩ s)):=by
 refine aI ?_ (wi O I ⟨op,imm,[]⟩ (.inl ⟨rfl,rfl⟩) (fun k j=>(wj j).elim) Z.r (sD (tQ s.l _).length_le Z.l));intro v H' h;exact h.val U fun k j=>(wj j).elim
theorem RepL.new{X:Lx}{H:Hp}{S:Nat->Prop}{s:Bd}{V vv:AV}(h:RepL X H S s V vv){r:Nat}(hr:H.next<=r):¬S r/\¬zbv vv r/\X.b<r:=⟨fun e=>by have:=(h.sS r e).2.1;omega,fun e=>by have:=(h.vS r e).2;omega,by have:=h.o5;omega⟩
theorem ol.pre{X:Lx}{S i:Nat->Prop}{vv:AV}{H zbk:Hp}{r:Int×Bd}{v:AV}{H':Hp}(h:ol X S vv H r v H')(Z:FrL X i vv zbk S vv H):ol X i vv zbk r v H':=by
 obtain⟨Y,O,U,g,m⟩:=h;exact⟨Y,O,U,g,Z.trans m⟩
theorem tY{g:List En}(Z:LowT g){X:Lx}{H V:Hp}{S:Nat->Prop}{s:Bd}{U vv:AV}(I:RepL X V S s U vv)(L:FrL X S vv H S vv V)(n:Int)(J:Fin (zaX ⟨1,n,[]⟩ s).2):
 za9 Try.prog (za3 pls g) 59 [.ptr X.b 0,.int .i64 n] V (ol X S vv H (zaX ⟨1,n,[]⟩ s)):=by
 have O:Plain (za3 pls g) 59:=Z.plain cN;refine zbs (M:=8) (rs:=[.tmp 4]) (O.call _) O.ice O.froz Try.func59 rfl rfl IC.2 rfl ?_;dsimp only[IC,zbj,Nat.reduceAdd];repeat' (first
  |(apply ai ?_;clear hK K)|apply Rx.o ?_|apply aq ?_|(apply zaW fun K hK=>?_)|fail)
 refine aK rfl aL aM ?_;simp only[aR];refine aI ?_ (wl Z I L 1 n J);rintro v m Y;obtain⟨rfl,C⟩:=id Y;dsimp only[za1];repeat' (first
  |(apply ai ?_;clear hK K)|apply Rx.o ?_|apply aN ?_)
 all_goals (refine⟨za2,_,za7,?_⟩;try simp only[za0])
 exact Y
theorem wm(H:Hp)(a b:Int):zcv Try.prog H 23 2 [(0,.int .i64 a),(1,.int .i64 b)]=some (.sl H.next 0 2 1,H.alloc (.cells [.int .i64 a,.int .i64 b] 0 true)):=ah
theorem IG(H:Hp)(a b c:Int):zcv Try.prog H 23 3 [(0,.int .i64 a),(1,.int .i64 b),(2,.int .i64 c)]=some (.sl H.next 0 3 1,H.alloc (.cells [.int .i64 a,.int .i64 b,.int .i64 c] 0 true)):=ah
theorem zy(H:Hp)(a:Int):zcv Try.prog H 23 1 [(0,.int .i64 a)]=some (.sl H.next 0 1 1,H.alloc (.cells [.int .i64 a] 0 true)):=ah
theorem zA{g:List En}(Z:LowT g){X:Lx}{H V:Hp}{S:Nat->Prop}{s:Bd}{J vv:AV}(I:RepL X V S s J vv)(U:FrL X S vv H S vv V)(t v:Int)(C:Fin (nu t v s)):
 za9 Try.prog (za3 pls g) 102 [.ptr X.b 0,.int .i64 t,.int .i64 v] V (IF X S vv H (nu t v s)):=by
 have O:Plain (za3 pls g) 102:=Z.plain cN;have zbL:=I.m;unfold zbm at zbL;refine zbs (M:=18) (rs:=[]) (O.call _) O.ice O.froz Try.func102 rfl rfl ID.2 rfl ?_;dsimp only[ID,zbj,Nat.reduceAdd];have j:=@wm;repeat' (first
  |apply Rx.o ?_|(apply zaW fun K hK=>?_)|fail)
 refine aK rfl aL aM ?_;simp only[aR];have Y:=I.new (aA _);refine aI ?_ (nC Z (I.alloc _) (U.alloc _) ⟨27,t,[s.state,v]⟩ rfl gK U.next (cJ _) Y.2.2 Y.1 Y.2.1 (C.le ⟨vU _,aA _⟩) rfl rfl);rintro w H2 ⟨rfl,o,z,L,m⟩;have i:=L.m;unfold zbm at i;dsimp only[za1];repeat' (first
  |(apply ai ?_;clear hK K)|apply Rx.o ?_|apply bN ?_|fail)
 all_goals (refine⟨za2,_,za7,?_⟩;try simp only[za0])
 obtain⟨a,b⟩:=L.setS (zaX ⟨27,t,[s.state,v]⟩ s).1;exact⟨o,z,a,m.trans b⟩
theorem tZ{g:List En}(U:LowT g){X:Lx}{H V:Hp}{S:Nat->Prop}{s:Bd}{L vv:AV}(I:RepL X V S s L vv)(Z:FrL X S vv H S vv V)(c a b:Int)(J:Fin (zbi c a b s).2):
 za9 Try.prog (za3 pls g) 130 [.ptr X.b 0,.int .i64 c,.int .i64 a,.int .i64 b] V (ol X S vv H (zbi c a b s)):=by
 have O:Plain (za3 pls g) 130:=U.plain cN;by_cases h:a=b
 .subst h;have e:zbi c a a s=(a,s):=by rw[zbi,aj rfl]
  rw[e];refine zbs (M:=19) (rs:=[.tmp 8]) (O.call _) O.ice O.froz Try.func130 rfl rfl zx.2 rfl ?_;dsimp only[zx,zbj,Nat.reduceAdd];repeat' (first
   |(apply ai ?_;clear hK K)|apply Ry.o ?_|(apply bi (fun o z=>?_) (fun o z=>?_)<;>try(cases o;done))|apply aq ?_|(apply zaW fun K hK=>?_)|apply aN ?_)
  all_goals (refine⟨za2,_,za7,?_⟩;try simp only[za0])
  exact⟨rfl,S,L,I,Z⟩
 .have e:zbi c a b s=zaX ⟨22,0,[c,a,b]⟩ s:=by rw[zbi,af h]
  rw[e]at J⊢;have Y:=I.new (aA _);refine zbs (M:=19) (rs:=[.tmp 8]) (O.call _) O.ice O.froz Try.func130 rfl rfl zx.2 rfl ?_;dsimp only[zx,zbj,Nat.reduceAdd];have m:=@IG;repeat' (first
   |(apply ai ?_;clear hK K)|apply Ry.o ?_|(apply bi (fun o z=>?_) (fun o z=>?_)<;>try(cases o;done))|apply aq ?_|(apply zaW fun K hK=>?_)|apply za8 ?_|fail)
  refine aK rfl aL aM ?_;simp only[aR];refine aI ?_ (nC U (I.alloc _) (Z.alloc _) ⟨22,0,[c,a,b]⟩ rfl gK Z.next (cJ _) Y.2.2 Y.1 Y.2.1 J rfl rfl);intro w j C;obtain⟨rfl,i⟩:=id C;dsimp only[za1];repeat' (first
   |(apply ai ?_;clear hK K)|apply Rx.o ?_|apply aN ?_)
  all_goals (refine⟨za2,_,za7,?_⟩;try simp only[za0])
  exact C
theorem II{g:List En}(O:LowT g){X:Lx}{H V:Hp}{S:Nat->Prop}{s:Bd}{o vv:AV}(I:RepL X V S s o vv)(m:FrL X S vv H S vv V)(k:Nat)(i:Int){a:Ar}(ha:X.p.arrays[k]?=some a)(C:Fin (fd a.len i s)):
 za9 Try.prog (za3 pls g) 100 [.ptr X.b 0,.int .i64 (k:Int),.int .i64 i] V (IF X S vv H (fd a.len i s)):=by
 have Y:Plain (za3 pls g) 100:=O.plain cN;have zbL:=I.m;unfold zbm at zbL;have Z:Fin (zaX ⟨19,0,[i,(zaX ⟨1,a.len,[]⟩ s).1]⟩ (zaX ⟨1,a.len,[]⟩ s).2).2:=C.le (rh _ _ _).le;have U:Fin (zaX ⟨1,a.len,[]⟩ s).2:=Z.le (zb8 _ _).le;refine zbs (M:=25) (rs:=[]) (Y.call _) Y.ice Y.froz Try.func100 rfl rfl IE.2 rfl ?_;dsimp only[IE,zbj,Nat.reduceAdd];repeat' (first
  |apply Rx.o ?_|apply aq ?_|(apply zaW fun K hK=>?_)|fail)
 refine aK rfl aL aM ?_;simp only[aR];refine aI ?_ (tY O I m a.len U);rintro w H2 ⟨rfl,S2,j,z,F2⟩;dsimp only[za1];have J:=z.new (aA _);have gh0:=@wm;repeat' (first
  |(apply ai ?_;clear hK K)|apply Rx.o ?_|(apply zaW fun K hK=>?_)|fail)
 refine aK rfl aL aM ?_;simp only[aR];refine aI ?_ (nC O (z.alloc _) ((cb _ _ _ _).alloc _) ⟨19,0,[i,(zaX ⟨1,a.len,[]⟩ s).1]⟩ rfl gK (aA _) (cJ _) J.2.2 J.1 J.2.1 Z rfl rfl);rintro w H3 ⟨rfl,S3,lv3,R3,F3⟩;dsimp only[za1];repeat' (first
  |(apply ai ?_;clear hK K)|fail)
 refine aK rfl aL aM ?_;simp only[aR];refine aI ?_ (zA O R3 (cb _ _ _ _) 2 _ C);rintro w H4 ⟨S4,L,R4,F4⟩;dsimp only[za1];repeat' (first
  |(apply ai ?_;clear hK K)|fail)
 all_goals (refine⟨za2,_,za7,?_⟩;try simp only[za0])
 exact⟨S4,L,R4,F2.trans (F3.trans F4)⟩
end
section
def tyLoD.tyF:=ad @eJ (ad @cQ (ad @cW (ad @gU (ad @lx (ad @gI (ad @eA (ad @dX (ad @ml (ad @nW (ad @wm (@zy)))))))))))
open tyLoD
noncomputable def nD:{c:SC // aD 110 (Try.f61.body.getD .skip)=c}:=by
 refine⟨?_,?_⟩;rotate_left
 .simp only[Try.f61,bP,aD,zby,zbt,zbA,zbB,Nat.blt,Nat.ble];rfl
noncomputable def IJ:{c:SC // aD 58 (Try.f101.body.getD .skip)=c}:=by
 refine⟨?_,?_⟩;rotate_left
 .simp only[Try.f101,bP,aD,zby,zbt,zbA,zbB,Nat.blt,Nat.ble];rfl
structure CxOk (X:Lx) (c:Cx):Prop where
 ar:c.arrays=X.p.arrays
 ae:∀nm,dK X.ae nm=bS (c.arrays.map (·.name)) nm
 ne:∀nm,dK X.ne nm=bS c.names nm
 fe:∀nm,0<=zbY c.funcs nm 0->dK X.fe nm=zbY c.funcs nm 0
theorem FrL.box{X:Lx}{V m:Hp}{S J:Nat->Prop}{s:Bd}{Z vv K:AV}(I:RepL X V S s Z vv){b:HB}(h:FrL X S vv (V.alloc b) J K m):m.get V.next=some b:=by
 have n:=I.new (aA _);have j:=I.o3;have o:=I.o4;rw[h.get _ (cJ _) (by have:=n.2.2;omega) (by have:=n.2.2;omega) n.1 n.2.1,zaY,aj rfl]
def eC:=@FrL.box
theorem RepL.lkN{X:Lx}{c:Cx}(O:CxOk X c){H:Hp}{S:Nat->Prop}{s:Bd}{V vv:AV}(I:RepL X H S s V vv)(nm:za5):jd Try.prog H 81 (.map X.rn) (.str nm) false=some (.int .i64 (bS c.names nm)):=by
 rw[<-O.ne];exact Cy (P:=Try.prog) Try.underlying81 zdz zw I.n nm
theorem RepL.lkA{X:Lx}{c:Cx}(O:CxOk X c){H:Hp}{S:Nat->Prop}{s:Bd}{V vv:AV}(I:RepL X H S s V vv)(nm:za5):jd Try.prog H 81 (.map X.ra) (.str nm) false=some (.int .i64 (bS (c.arrays.map (·.name)) nm)):=by
 rw[<-O.ae];exact Cy (P:=Try.prog) Try.underlying81 zdz zw I.a nm
theorem RepL.lkF{X:Lx}{c:Cx}(O:CxOk X c){H:Hp}{S:Nat->Prop}{s:Bd}{V vv:AV}(I:RepL X H S s V vv)(nm:za5)(h:0<=zbY c.funcs nm 0):jd Try.prog H 81 (.map X.rf) (.str nm) false=some (.int .i64 (zbY c.funcs nm 0)):=by
 rw[<-O.fe nm h];exact Cy (P:=Try.prog) Try.underlying81 zdz zw I.f nm
theorem RepL.atV{X:Lx}{H:Hp}{S:Nat->Prop}{s:Bd}{V vv:AV}(h:RepL X H S s V vv){i:Nat}{x:Int}(z:s.vars[i]?=some x):∃r,zb1 Try.prog 23 vv (.int .i64 (i:Int))=some (.ptr r i)/\ip Try.prog H 3 (.ptr r i)=some (.int .i64 x):=by
 have K:i<s.vars.length:=by
  by_cases c:i<s.vars.length
  .exact c
  .rw[md ac]at z;cases z
 obtain⟨r,Z,g,_⟩:=h.setV K 0;refine⟨r,Z,?_⟩;rw[g,eR,z];rfl
set_option maxRecDepth 100000 in
theorem pi{tb:List En}(O:LowT tb){X:Lx}{c:Cx}(hX:CxOk X c):∀(n:Nat) (x:Ex) (s:Bd) (r:Int×Bd),di c n x s=some r->Fin r.2->∀{H H1:Hp}{S:Nat->Prop}{lv vv:AV},RepL X H1 S s lv vv->FrL X S vv H S vv H1 ->
 za9 Try.prog (za3 pls tb) 61 [.ptr X.b 0,.agg x.cells] H1 (ol X S vv H r)
 |0,x,s,r,h,_,_,_,_,_,_,_,_=>by simp[di]at h
 |n+1,x,s,r,h,hF,H,H1,S,lv,vv,hR,hf=>by
  have IH:=pi O hX n;have Y:Plain (za3 pls tb) 61:=O.plain cN;have hwc:Plain (za3 pls tb) 101:=O.plain cN;have I:=hR.alloc (.cells x.cells 0 true);have F1:=hf.alloc (.cells x.cells 0 true);have zbL:=I.m;unfold zbm at zbL;have nw:=hR.new (aA _);unfold di at h;by_cases h1:x.kind=1
  .rw[aj h1,az]at h;subst h;refine zbs (M:=110) (rs:=[.tmp 4]) (Y.call _) Y.ice Y.froz Try.func61 rfl rfl nD.2 rfl ?_;dsimp only[nD,zbj,Nat.reduceAdd];repeat' (first
    |(apply ai ?_;clear hK K)|apply Ry.o ?_|(apply bi (fun o z=>?_) (fun o z=>?_)<;>try(cases o;done))|apply aq ?_|(apply zaW fun K hK=>?_)|apply aO ?_|fail)
   refine aK rfl aL aM ?_;simp only[aR];refine aI ?_ (tY O I F1 x.n hF);intro w H2 h2;obtain⟨rfl,h3⟩:=id h2;dsimp only[za1];repeat' (first
    |(apply ai ?_;clear hK K)|apply Rx.o ?_|apply aN ?_)
   all_goals (refine⟨za2,_,za7,?_⟩;try simp only[za0])
   exact h2
  rw[af h1]at h;by_cases h2:x.kind=2
  .rw[aj h2]at h;obtain⟨v,hv,rfl⟩:=oE.1 h;have hlk:=I.lkN hX x.name;obtain⟨q,hix,hld⟩:=I.atV hv;refine zbs (M:=110) (rs:=[.tmp 4]) (Y.call _) Y.ice Y.froz Try.func61 rfl rfl nD.2 rfl ?_;dsimp only[nD,zbj,Nat.reduceAdd];repeat' (first
    |(apply ai ?_;clear hK K)|apply Ry.o ?_|(apply bi (fun o z=>?_) (fun o z=>?_)<;>try(cases o;done))|apply aq ?_|(apply zaW fun K hK=>?_)|(apply zcy 5 [(3,14),(7,14),(9,14),(10,14),(12,14)] fun K hK=>?_)|(apply zbK ?_;try intro _)|(apply zcr ?_ ?_<;>clear hK K)|apply cr ?_|apply aO ?_|apply aN ?_)
   all_goals first
    |exact zck
    |skip
   all_goals (refine⟨za2,_,za7,?_⟩;try simp only[za0])
   exact⟨rfl,S,lv,I,F1⟩
  rw[af h2]at h;by_cases h3:x.kind=3
  .rw[aj h3]at h;simp only[fq]at h;obtain⟨k,hk,Z,he,a,ha,rfl⟩:=h;have ha':X.p.arrays[bS (c.arrays.map (·.name)) x.name]?=some a:=by rw[<-hX.ar];exact ha
   have hFc:Fin (fd a.len Z.1 Z.2):=hF.le (zb8 _ _).le;have hlk1:=I.lkA hX x.name;refine zbs (M:=110) (rs:=[.tmp 4]) (Y.call _) Y.ice Y.froz Try.func61 rfl rfl nD.2 rfl ?_;dsimp only[nD,zbj,Nat.reduceAdd];repeat' (first
    |(apply ai ?_;clear hK K)|apply Ry.o ?_|(apply bi (fun o z=>?_) (fun o z=>?_)<;>try(cases o;done))|apply aq ?_|(apply zaW fun K hK=>?_)|(apply zcy 7 [(2,5),(4,5),(9,5),(9,15),(11,5),(11,15),(12,5),(12,15)] fun K hK=>?_)|(apply zbK ?_;try intro _)|apply cr ?_|apply aO ?_|fail)
   refine aK rfl aL aM ?_;simp only[fJ];refine aI ?_ (IH k s Z he (hFc.le (sG _ _ _).le) I (cb _ _ _ _));rintro v H2 ⟨rfl,S2,lv2,j,C⟩;have g2:=eC hR C;have m2:=j.m;unfold zbm at m2;have hlk:=j.lkA hX x.name;have n2:H1.next+1<=H2.next:=C.next
   dsimp only[za1];repeat' (first
    |apply Rx.o ?_|apply aq ?_|(apply zaW fun K hK=>?_)|(apply zbK ?_;try intro _)|(apply zcr ?_ ?_<;>clear hK K)|apply cr ?_|fail)
   .exact zck
   .refine aK rfl aL aM ?_;simp only[aR];refine aI ?_ (II O j (cb _ _ _ _) (bS (c.arrays.map (·.name)) x.name) Z.1 ha' hFc);rintro w H3 ⟨S3,lv3,i,F3⟩;have m3:=i.m;unfold zbm at m3;have V:=i.new (aA _);dsimp only[za1];repeat' (first
     |(apply ai ?_;clear hK K)|apply Rx.o ?_|apply aq ?_|(apply zaW fun K hK=>?_)|fail)
    refine aK rfl aL aM ?_;simp only[aR];refine aI ?_ (nC O (i.alloc _) ((cb _ _ _ _).alloc _) ⟨23,bS (c.arrays.map (·.name)) x.name,[(fd a.len Z.1 Z.2).state,Z.1]⟩ rfl gK (aA _) (cJ _) V.2.2 V.1 V.2.1 hF rfl rfl);intro w H4 h4;have h5:=h4.pre (F1.trans (C.trans F3));obtain⟨rfl,h6⟩:=h4;dsimp only[za1];repeat' (first
     |(apply ai ?_;clear hK K)|apply Rx.o ?_|apply aN ?_)
    all_goals (refine⟨za2,_,za7,?_⟩;try simp only[za0])
    exact h5
  rw[af h3]at h;by_cases h5:x.kind=5
  .rw[aj h5]at h;simp only[fq]at h;obtain⟨k0,hk0,zbf,e0,k1,hk1,Z,e1,k2,hk2,g,e2,rfl⟩:=h;have hFt:Fin (zbi zbf.1 Z.2.state (zbi zbf.1 Z.1 g.1 g.2).2.state (zbi zbf.1 Z.1 g.1 g.2).2).2:=hF.le ⟨vU _,aA _⟩;have hFv:Fin (zbi zbf.1 Z.1 g.1 g.2).2:=hFt.le (zcR _ _ _ _).le;have hF2:Fin g.2:=hFv.le (zcR _ _ _ _).le;have hF1:Fin Z.2:=(hF2.le (zci c n _ _ _ e2).le).le ⟨vU _,aA _⟩;have hF0:Fin zbf.2:=hF1.le (zci c n _ _ _ e1).le;refine zbs (M:=110) (rs:=[.tmp 4]) (Y.call _) Y.ice Y.froz Try.func61 rfl rfl nD.2 rfl ?_;dsimp only[nD,zbj,Nat.reduceAdd];repeat' (first
    |(apply ai ?_;clear hK K)|apply Ry.o ?_|(apply bi (fun o z=>?_) (fun o z=>?_)<;>try(cases o;done))|apply aq ?_|(apply zaW fun K hK=>?_)|apply aO ?_|fail)
   refine aK rfl aL aM ?_;simp only[aR];have R1c:=I.alloc (.cells x.cells 0 true);have F1c:=F1.alloc (.cells x.cells 0 true);have main:za9 Try.prog (za3 pls tb) 101 [.ptr X.b 0,.agg x.cells] (H1.alloc (.cells x.cells 0 true)) (ol X S vv H ((zbi zbf.1 Z.1 g.1 g.2).1,{ (zbi zbf.1 Z.2.state (zbi zbf.1 Z.1 g.1 g.2).2.state (zbi zbf.1 Z.1 g.1 g.2).2).2 with state:=(zbi zbf.1 Z.2.state (zbi zbf.1 Z.1 g.1 g.2).2.state (zbi zbf.1 Z.1 g.1 g.2).2).1})):=by
    clear zbL nw;refine zbs (M:=58) (rs:=[.tmp 4]) (hwc.call _) hwc.ice hwc.froz Try.func101 rfl rfl IJ.2 rfl ?_;dsimp only[IJ,zbj,Nat.reduceAdd];repeat' (first
     |(apply ai ?_;clear hK K)|apply Ry.o ?_|apply aq ?_|(apply zaW fun K hK=>?_)|fail)
    refine aK rfl aL aM ?_;simp only[aR];refine aI ?_ (IH k0 s zbf e0 hF0 R1c (cb _ _ _ _));rintro v H2 ⟨rfl,S2,lv2,j,C⟩;have g2:=eC I C;simp only[zbb]at g2;have m2:=j.m;unfold zbm at m2;dsimp only[za1];repeat' (first
     |(apply ai ?_;clear hK K)|apply Ry.o ?_|apply aq ?_|(apply zaW fun K hK=>?_)|fail)
    refine aK rfl aL aM ?_;simp only[aR];refine aI ?_ (IH k1 _ Z e1 hF1 j (cb _ _ _ _));rintro v H3 ⟨rfl,S3,lv3,i,F3⟩;have g3:=eC I (C.trans F3);have m3:=i.m;obtain⟨R3s,F3s⟩:=i.setS zbf.2.state;have g3s:=eC I (C.trans (F3.trans F3s));simp only[zbb]at g3 g3s;unfold zbm at m3;dsimp only[zbm]at R3s F3s g3s;dsimp only[za1];repeat' (first
     |(apply ai ?_;clear hK K)|apply Ry.o ?_|apply dD ?_|apply aq ?_|(apply zaW fun K hK=>?_)|fail)
    refine aK rfl aL aM ?_;simp only[aR];refine aI ?_ (IH k2 _ g e2 hF2 R3s (cb _ _ _ _));rintro v H4 ⟨rfl,S4,lv4,R4,F4⟩;dsimp only[za1];repeat' (first
     |(apply ai ?_;clear hK K)|apply Rx.o ?_|apply aq ?_|(apply zaW fun K hK=>?_)|fail)
    refine aK rfl aL aM ?_;simp only[aR];refine aI ?_ (tZ O R4 (cb _ _ _ _) zbf.1 Z.1 g.1 hFv);rintro v H5 ⟨rfl,S5,lv5,R5,F5⟩;have m5:=R5.m;unfold zbm at m5;dsimp only[za1];repeat' (first
     |(apply ai ?_;clear hK K)|apply Rx.o ?_|apply aq ?_|(apply zaW fun K hK=>?_)|fail)
    refine aK rfl aL aM ?_;simp only[aR];refine aI ?_ (tZ O R5 (cb _ _ _ _) zbf.1 Z.2.state _ hFt);rintro v H6 ⟨rfl,S6,lv6,R6,F6⟩;have m6:=R6.m;unfold zbm at m6;dsimp only[za1];repeat' (first
     |(apply ai ?_;clear hK K)|apply Rx.o ?_|apply bN ?_|apply aq ?_|(apply zaW fun K hK=>?_)|apply aN ?_)
    all_goals (refine⟨za2,_,za7,?_⟩;try simp only[za0])
    obtain⟨R7,F7⟩:=R6.setS (zbi zbf.1 Z.2.state (zbi zbf.1 Z.1 g.1 g.2).2.state (zbi zbf.1 Z.1 g.1 g.2).2).1;exact⟨rfl,S6,lv6,R7,F1c.trans (C.trans (F3.trans (F3s.trans (F4.trans (F5.trans (F6.trans F7))))))⟩
   refine aI ?_ main;intro w H2 h2;obtain⟨rfl,h3⟩:=id h2;dsimp only[za1];repeat' (first
    |(apply ai ?_;clear hK K)|apply Rx.o ?_|apply aN ?_)
   all_goals (refine⟨za2,_,za7,?_⟩;try simp only[za0])
   exact h2
  rw[af h5]at h;simp only[dx]at h;obtain⟨k0,hk0,zbf,e0,h⟩:=h;by_cases hz:x.kids.length=1
  .rw[aj hz,az]at h;subst h;have hF0:Fin zbf.2:=hF.le (zb8 _ _).le;have hz':((x.kids.length:Nat):Int)=1:=ac;refine zbs (M:=110) (rs:=[.tmp 4]) (Y.call _) Y.ice Y.froz Try.func61 rfl rfl nD.2 rfl ?_;dsimp only[nD,zbj,Nat.reduceAdd];repeat' (first
    |(apply ai ?_;clear hK K)|apply Ry.o ?_|(apply bi (fun o z=>?_) (fun o z=>?_)<;>try(cases o;done))|apply aq ?_|(apply zaW fun K hK=>?_)|apply aO ?_|apply za8 ?_|fail)
   refine aK rfl aL aM ?_;simp only[aR];refine aI ?_ (IH k0 s zbf e0 hF0 I (cb _ _ _ _));rintro v H2 ⟨rfl,S2,lv2,j,C⟩;have g2:=eC hR C;have nw2:=j.new (aA _);dsimp only[za1];repeat' (first
    |(apply ai ?_;clear hK K)|apply Ry.o ?_|(apply bi (fun o z=>?_) (fun o z=>?_)<;>try(cases o;done))|apply aq ?_|(apply zaW fun K hK=>?_)|fail)
   refine aK rfl aL aM ?_;simp only[aR];refine aI ?_ (nC O (j.alloc _) ((cb _ _ _ _).alloc _) ⟨x.op,0,[zbf.1]⟩ rfl gK (aA _) (cJ _) nw2.2.2 nw2.1 nw2.2.1 hF rfl rfl);intro w H4 h4;have h5:=h4.pre (F1.trans C);obtain⟨rfl,h6⟩:=h4;dsimp only[za1];repeat' (first
    |(apply ai ?_;clear hK K)|apply Rx.o ?_|apply aN ?_)
   all_goals (refine⟨za2,_,za7,?_⟩;try simp only[za0])
   exact h5
  rw[af hz]at h;simp only[fq]at h;obtain⟨k1,hk1,Z,e1,rfl⟩:=h;have hz':¬((x.kids.length:Nat):Int)=1:=ac;have J:Fin (if x.op=7\/x.op=8 then mA Z.1 Z.2 else Z.2):=hF.le (zb8 _ _).le;have hF1:Fin Z.2:=by
   split at J
   .exact J.le (CN _ _).le
   .exact J
  have hF0:Fin zbf.2:=hF1.le (zci c n _ _ _ e1).le;generalize hq:(if x.op=7\/x.op=8 then mA Z.1 Z.2 else Z.2)=q at *;refine zbs (M:=110) (rs:=[.tmp 4]) (Y.call _) Y.ice Y.froz Try.func61 rfl rfl nD.2 rfl ?_;dsimp only[nD,zbj,Nat.reduceAdd];repeat' (first
   |(apply ai ?_;clear hK K)|apply Ry.o ?_|(apply bi (fun o z=>?_) (fun o z=>?_)<;>try(cases o;done))|apply aq ?_|(apply zaW fun K hK=>?_)|apply aO ?_|apply za8 ?_|fail)
  refine aK rfl aL aM ?_;simp only[aR];refine aI ?_ (IH k0 s zbf e0 hF0 I (cb _ _ _ _));rintro v H2 ⟨rfl,S2,lv2,j,C⟩;have g2:=eC hR C;dsimp only[za1];repeat' (first
   |(apply ai ?_;clear hK K)|apply Ry.o ?_|(apply bi (fun o z=>?_) (fun o z=>?_)<;>try(cases o;done))|apply aq ?_|(apply zaW fun K hK=>?_)|apply za8 ?_|fail)
  refine aK rfl aL aM ?_;simp only[aR];refine aI ?_ (IH k1 _ Z e1 hF1 j (cb _ _ _ _));rintro v H3 ⟨rfl,S3,lv3,i,F3⟩;have g3:=eC hR (C.trans F3);have F123:=F1.trans (C.trans F3);dsimp only[za1];by_cases hd:x.op=7\/x.op=8
  .rw[aj hd]at hq;subst hq;have hFq:Fin (zaX ⟨16,0,[Z.1,(zaX ⟨1,0,[]⟩ Z.2).1]⟩ (zaX ⟨1,0,[]⟩ Z.2).2).2:=J.le (rh _ _ _).le;have hFz:Fin (zaX ⟨1,0,[]⟩ Z.2).2:=hFq.le (zb8 _ _).le;rcases hd with h7|h8
   .repeat' (first
     |(apply ai ?_;clear hK K)|apply Ry.o ?_|(apply kT (fun hg m=>?_) (fun hg m=>?_)<;>try(cases hg;done))|(apply bi (fun o z=>?_) (fun o z=>?_)<;>try(cases o;done))|apply aq ?_|(apply zaW fun K hK=>?_)|fail)
    refine aK rfl aL aM ?_;simp only[aR];refine aI ?_ (tY O i (cb _ _ _ _) 0 hFz);rintro v H4 ⟨rfl,S4,lv4,R4,F4⟩;have L:=R4.new (aA _);dsimp only[za1];repeat' (first
     |apply Rx.o ?_|fail)
    refine aK rfl aL aM ?_;simp only[aR];refine aI ?_ (nC O (R4.alloc _) ((cb _ _ _ _).alloc _) ⟨16,0,[Z.1,(zaX ⟨1,0,[]⟩ Z.2).1]⟩ rfl gK (aA _) (cJ _) L.2.2 L.1 L.2.1 hFq rfl rfl);rintro v H5 ⟨rfl,S5,lv5,R5,F5⟩;dsimp only[za1];repeat' (first
     |(apply ai ?_;clear hK K)|fail)
    refine aK rfl aL aM ?_;simp only[aR];refine aI ?_ (zA O R5 (cb _ _ _ _) 1 _ J);rintro v H6 ⟨S6,lv6,R6,F6⟩;have F36:=F4.trans (F5.trans F6);have g6:=eC hR (C.trans (F3.trans F36));have U:=R6.new (aA _);have R6':RepL X H6 S6 (mA Z.1 Z.2) lv6 vv:=R6;dsimp only[za1];repeat' (first
     |(apply ai ?_;clear hK K)|apply Rx.o ?_|apply aq ?_|(apply zaW fun K hK=>?_)|fail)
    refine aK rfl aL aM ?_;simp only[aR];refine aI ?_ (nC O (R6'.alloc _) ((cb _ _ _ _).alloc _) ⟨x.op,0,[zbf.1,Z.1]⟩ rfl gK (aA _) (cJ _) U.2.2 U.1 U.2.1 hF h7 rfl);intro w H7 h7q;have h5q:=h7q.pre (F123.trans F36);obtain⟨rfl,h6q⟩:=h7q;dsimp only[za1];repeat' (first
     |(apply ai ?_;clear hK K)|apply Rx.o ?_|apply aN ?_)
    all_goals (refine⟨za2,_,za7,?_⟩;try simp only[za0])
    rw[h7]at h5q⊢;exact h5q
   .have h7:¬x.op=7:=by omega
    repeat' (first
     |(apply ai ?_;clear hK K)|apply Ry.o ?_|(apply kT (fun hg m=>?_) (fun hg m=>?_)<;>try(cases hg;done))|(apply bi (fun o z=>?_) (fun o z=>?_)<;>try(cases o;done))|apply aq ?_|(apply zaW fun K hK=>?_)|fail)
    refine aK rfl aL aM ?_;simp only[aR];refine aI ?_ (tY O i (cb _ _ _ _) 0 hFz);rintro v H4 ⟨rfl,S4,lv4,R4,F4⟩;have L:=R4.new (aA _);dsimp only[za1];repeat' (first
     |apply Rx.o ?_|fail)
    refine aK rfl aL aM ?_;simp only[aR];refine aI ?_ (nC O (R4.alloc _) ((cb _ _ _ _).alloc _) ⟨16,0,[Z.1,(zaX ⟨1,0,[]⟩ Z.2).1]⟩ rfl gK (aA _) (cJ _) L.2.2 L.1 L.2.1 hFq rfl rfl);rintro v H5 ⟨rfl,S5,lv5,R5,F5⟩;dsimp only[za1];repeat' (first
     |(apply ai ?_;clear hK K)|fail)
    refine aK rfl aL aM ?_;simp only[aR];refine aI ?_ (zA O R5 (cb _ _ _ _) 1 _ J);rintro v H6 ⟨S6,lv6,R6,F6⟩;have F36:=F4.trans (F5.trans F6);have g6:=eC hR (C.trans (F3.trans F36));have U:=R6.new (aA _);have R6':RepL X H6 S6 (mA Z.1 Z.2) lv6 vv:=R6;dsimp only[za1];repeat' (first
     |(apply ai ?_;clear hK K)|apply Rx.o ?_|apply aq ?_|(apply zaW fun K hK=>?_)|fail)
    refine aK rfl aL aM ?_;simp only[aR];refine aI ?_ (nC O (R6'.alloc _) ((cb _ _ _ _).alloc _) ⟨x.op,0,[zbf.1,Z.1]⟩ rfl gK (aA _) (cJ _) U.2.2 U.1 U.2.1 hF h8 rfl);intro w H7 h7q;have h5q:=h7q.pre (F123.trans F36);obtain⟨rfl,h6q⟩:=h7q;dsimp only[za1];repeat' (first
     |(apply ai ?_;clear hK K)|apply Rx.o ?_|apply aN ?_)
    all_goals (refine⟨za2,_,za7,?_⟩;try simp only[za0])
    rw[h8]at h5q⊢;exact h5q
  .rw[af hd]at hq;subst hq;have h7:¬x.op=7:=fun e=>hd (.inl e);have h8:¬x.op=8:=fun e=>hd (.inr e);have V:=i.new (aA _);repeat' (first
    |(apply ai ?_;clear hK K)|apply Ry.o ?_|(apply kT (fun hg m=>?_) (fun hg m=>?_)<;>try(cases hg;done))|(apply bi (fun o z=>?_) (fun o z=>?_)<;>try(cases o;done))|apply aq ?_|(apply zaW fun K hK=>?_)|apply za8 ?_|fail)
   refine aK rfl aL aM ?_;simp only[aR];refine aI ?_ (nC O (i.alloc _) ((cb _ _ _ _).alloc _) ⟨x.op,0,[zbf.1,Z.1]⟩ rfl gK (aA _) (cJ _) V.2.2 V.1 V.2.1 hF rfl rfl);intro w H4 h4;have h5:=h4.pre F123;obtain⟨rfl,h6⟩:=h4;dsimp only[za1];repeat' (first
    |(apply ai ?_;clear hK K)|apply Rx.o ?_|apply aN ?_)
   all_goals (refine⟨za2,_,za7,?_⟩;try simp only[za0])
   exact h5
end
section
def tyLoE.tyF:=ad @cQ (ad @yd (ad @cW (ad @gU (ad @lx (ad @gI (ad @eK (ad @eA (ad @dX (ad @fj (ad @ml (ad @nW (@FW))))))))))))
open tyLoE
noncomputable def IK:{c:SC // aD 42 (Try.f140.body.getD .skip)=c}:=by
 refine⟨?_,?_⟩;rotate_left
 .simp only[Try.f140,bP,aD,zby,zbt,zbA,zbB,Nat.blt,Nat.ble];rfl
def W0(q:Nat)(H:Hp)(b:List Bool)(v:AV)(H':Hp):Prop:=H'.get q=some (.cells (b.map .bool) 0 true)/\H.next<=H'.next/\∀k,k<H.next->k≠q->H'.get k=H.get k
structure Smq (n q:Nat) (H H':Hp):Prop where
 get:∀k,k<n->k≠q->H'.get k=H.get k
theorem sM(I:List za5):∀(n:Nat) (l:List St) (b Y:List Bool),d6 I n l b=some Y->Y.length=b.length
 |0,_,_,_,h=>by simp[d6]at h
 |n+1,[],b,Y,h=>by cases h;rfl
 |n+1,x::l,b,Y,h=>by
  unfold d6 at h;simp only[]at h;split at h
  .cases h
  .simp only[dx]at h;obtain⟨V,g,Z,m,L⟩:=h;rw[sM I n _ _ _ L,sM I n _ _ _ m,sM I n _ _ _ g];split<;>simp
theorem IL{q n m:Nat}(V:m<n):zb1 Try.prog 107 (.sl q 0 n 1) (.int .i64 (m:Int))=some (.ptr q m):=by rw[x4 Try.underlying107 yb V];simp
theorem W1{H:Hp}{r m:Nat}{b:List Bool}(C:H.get r=some (.cells (b.map .bool) 0 true))(V:m<b.length)(x:Bool):lV Try.prog H 4 (.ptr r m) (.bool x)=some (H.set r (.cells ((b.set m x).map .bool) 0 true)):=by
 rw[Vl C (by rw[cD];exact V),List.map_set]
set_option maxRecDepth 100000 in
theorem C7{tb:List En}(hG:LowT tb){X:Lx}{c:Cx}(hX:CxOk X c):∀(N n:Nat),n<N->∀(l:List St) (b b':List Bool),d6 c.names n l b=some b'->zbC l<2^40->∀{H:Hp}{S:Nat->Prop}{s:Bd}{lv vv:AV}{q:Nat},RepL X H S s lv vv->H.get q=some (.cells (b.map .bool) 0 true)->X.b<q->q<H.next->¬S q->¬zbv vv q ->
 za9 Try.prog (za3 pls tb) 140 [.ptr X.b 0,.lst (l.map St.cells),.sl q 0 b.length 1] H (W0 q H b')
 |0,n,hn,_,_,_,_,_,_,_,_,_,_,_,_,_,_,_,_,_=>by omega
 |N+1,n,hn,l,b,b',h,hz,H,S,s,lv,vv,q,hR,L,hq1,hq2,hq3,hq4=>by
  have hw:Plain (za3 pls tb) 140:=hG.plain cN;have hll:=vE l;have o3:=hR.o3;have o4:=hR.o4;refine zbs (M:=42) (rs:=[]) (hw.call _) hw.ice hw.froz Try.func140 rfl rfl IK.2 rfl ?_;dsimp only[IK,zbj,Nat.reduceAdd];repeat' (first
   |(apply ai ?_;clear hK K)|apply Rx.o ?_|apply aq ?_|(apply zaW fun K hK=>?_)|apply aO ?_|fail)
  refine zcj [0,2,8,9] [] 10 l.length (fun i E Y=>∃m V,m<=n/\V.length=b.length/\d6 c.names m (l.drop i) V=some b'/\Y.get q=some (.cells (V.map .bool) 0 true)/\Smq H.next q H Y) eE ⟨n,b,aA _,rfl,h,L,⟨fun _ _ _=>rfl⟩⟩ ?_;rintro i E Y hi hcE hrH j hsI ⟨m,V,hm,hbl,O,hg2,I⟩;(try simp only[zbR,zbq,br,za4,zbg,Nat.reduceBEq, *]at hcE);(try simp only[zbq, *]at hrH);(try simp only[zbb,zbl,zb4,b4,Nat.reduceAdd]at j);have R2:RepL X Y S s lv vv:=hR.keep j fun k Z g=>I.get k Z fun e=>by
   subst e;rcases g with g|g|g
   .omega
   .exact hq3 g
   .exact hq4 g
  by_cases hlt:i<l.length
  .have hlt':(i:Int)<l.length:=by omega
   have hgx:l[i]?=some l[i]:=aY hlt;have hmem:=zdM (dW hlt);have hsz:=(l[i]).sz_eq;cases m with
   |zero=>simp[d6]at O
   |succ m=>
   rw[hP hlt]at O;unfold d6 at O;simp only[]at O;generalize l[i]=x at *;split at O
   .cases O
   rename_i hno;simp only[dx]at O;obtain⟨b2,j2,b3,j3,j4⟩:=O;have R3:=R2.alloc2 (.cells (List.replicate 17 (.int .i64 0)) 0 true) (.cells x.cells 0 true);repeat' (first
    |(apply ai ?_;clear hK K)|apply Ry.o ?_|apply aq ?_|(apply zaW fun K hK=>?_)|fail)
   (apply bu (fun o z=>?_) (fun o z=>?_)<;>try(cases o;done));apply za8 ?_;apply aq ?_;apply aO ?_;apply aq ?_;(apply zaW fun K hK=>?_);repeat' (first
    |(apply ai ?_;clear hK K)|apply Ry.o ?_|apply dD ?_)
   apply aq ?_;generalize C:Hp.set (Y.alloc _) _ _=Hb;have Rb:RepL X Hb S s lv vv:=by rw[<-C];exact R2.alloc2 _ _
   have nb:Hb.next=Y.next+1:=vP
   have gb:Hb.get q=some (.cells (V.map .bool) 0 true):=by rw[<-C,aC,af ac,zaY,af ac];exact hg2
   have gx:Hb.get Y.next=some (.cells x.cells 0 true):=CZ
   have sb:Smq H.next q H Hb:=⟨fun k Z g=>by rw[<-C,aC,af ac,zaY,af ac];exact I.get k Z g⟩
   clear C R3;have mb:=Rb.m;unfold zbm at mb;have hlk:=Rb.lkN hX x.name;have J:(if x.kind=1\/x.kind=6 then V.set (bS c.names x.name) true else V).length=b.length:=by split<;>simp[hbl]
   refine Cr (fun E' H'=>E'.at 0=.ptr X.b 0/\E'.at 2=.sl q 0 b.length 1/\E'.at 7=.ptr Y.next 0/\E'.at 8=.lst (l.map St.cells)/\E'.at 9=.int .i64 l.length/\E'.at 10=.int .i64 i/\H'.get q=some (.cells ((if x.kind=1\/x.kind=6 then V.set (bS c.names x.name) true else V).map .bool) 0 true)/\H'.get Y.next=some (.cells x.cells 0 true)/\H'.next=Y.next+1/\Smq H.next q H H') ?_ ?_
   .by_cases hk:x.kind=1\/x.kind=6
    .have hixl:bS c.names x.name<V.length:=by
      by_cases c2:bS c.names x.name<V.length
      .exact c2
      .exact absurd ⟨hk,ac⟩ hno
     have hix:=IL (q:=q) (n:=b.length) (m:=bS c.names x.name) ac;have hst:=W1 gb hixl true;rcases hk with Z|h6
     .repeat' (first
       |(apply ai ?_;clear hK K)|apply Ry.o ?_|apply dD ?_|(apply kT (fun L U=>?_) (fun L U=>?_)<;>try(cases L;done))|(apply bi (fun o z=>?_) (fun o z=>?_)<;>try(cases o;done))|apply aq ?_|(apply zaW fun K hK=>?_)|(apply sq 4 fun K hK=>?_)|fail)
      all_goals first
       |exact zck
       |skip
      exact⟨rfl,eE,eE,eE,eE,eE,eE,by rw[aC,aj rfl,aj (.inl Z)],by rw[aC,af ac];exact gx,nb,⟨fun k Z g=>It⟩⟩
     .have Z:¬x.kind=1:=by omega
      repeat' (first
       |(apply ai ?_;clear hK K)|apply Ry.o ?_|apply dD ?_|(apply kT (fun L U=>?_) (fun L U=>?_)<;>try(cases L;done))|(apply bi (fun o z=>?_) (fun o z=>?_)<;>try(cases o;done))|apply aq ?_|(apply zaW fun K hK=>?_)|(apply sq 4 fun K hK=>?_)|fail)
      all_goals first
       |exact zck
       |skip
      exact⟨rfl,eE,eE,eE,eE,eE,eE,by rw[aC,aj rfl,aj (.inr h6)],by rw[aC,af ac];exact gx,nb,⟨fun k Z g=>It⟩⟩
    .have Z:¬x.kind=1:=fun e=>hk (.inl e);have h6:¬x.kind=6:=fun e=>hk (.inr e);rw[af hk];repeat' (first
      |(apply ai ?_;clear hK K)|apply Ry.o ?_|(apply kT (fun L U=>?_) (fun L U=>?_)<;>try(cases L;done))|(apply bi (fun o z=>?_) (fun o z=>?_)<;>try(cases o;done))|apply aq ?_|(apply zaW fun K hK=>?_)|apply za8 ?_|fail)
     exact⟨rfl,eE,eE,eE,eE,eE,eE,gb,gx,nb,sb⟩
   generalize (if x.kind=1\/x.kind=6 then V.set (bS c.names x.name) true else V)=b1 at *;clear gb gx nb sb mb hlk;rintro E3 H3 ⟨k0,k2,k7,k8,k9,k10,g3,gx3,n3,s3⟩;dsimp only[kM];have R3:RepL X H3 S s lv vv:=hR.keep ac fun k Z g=>s3.get k Z fun e=>by
    subst e;rcases g with g|g|g
    .omega
    .exact hq3 g
    .exact hq4 g
   repeat' (first
    |apply Rx.o ?_|apply aq ?_|(apply zaW fun K hK=>?_)|fail)
   refine aK rfl aL aM ?_;simp only[aR];refine aI ?_ (by rw[<-J];exact C7 hG hX N m ac x.thn b1 b2 j2 ac R3 g3 hq1 ac hq3 hq4);rintro v H4 ⟨g4,n4,s4⟩;have hbl2:=sM _ _ _ _ _ j2;have gx4:H4.get Y.next=some (.cells x.cells 0 true):=by rw[s4 _ ac ac];exact gx3
   have R4:RepL X H4 S s lv vv:=R3.keep n4 fun k Z g=>s4 k Z fun e=>by
    subst e;rcases g with g|g|g
    .omega
    .exact hq3 g
    .exact hq4 g
   have s4':Smq H.next q H H4:=⟨fun k Z g=>by rw[s4 k ac g];exact s3.get k Z g⟩
   clear s4;dsimp only[za1];repeat' (first
    |(apply ai ?_;clear hK K)|apply Rx.o ?_|(apply zaW fun K hK=>?_)|fail)
   refine aK rfl aL aM ?_;simp only[aR];refine aI ?_ (by rw[<-J,<-hbl2];exact C7 hG hX N m ac x.els b2 b3 j3 ac R4 g4 hq1 ac hq3 hq4);rintro v H5 ⟨g5,n5,s5⟩;have hbl3:=sM _ _ _ _ _ j3;have s5':Smq H.next q H H5:=⟨fun k Z g=>by rw[s5 k ac g];exact s4'.get k Z g⟩
   clear s5;dsimp only[za1];repeat' (first
    |(apply ai ?_;clear hK K)|apply Rx.o ?_|(apply zaW fun K hK=>?_)|fail)
   refine⟨ac,zbw,zbw,eN,C4,?_⟩;exact⟨m,b3,ac,ac,j4,g5,s5'⟩
  .have hlt':¬(i:Int)<l.length:=by omega
   repeat' (first
    |(apply ai ?_;clear hK K)|apply Ry.o ?_|(apply bi (fun o z=>?_) (fun o z=>?_)<;>try(cases o;done))|apply aq ?_|(apply zaW fun K hK=>?_)|apply zbW ?_)
   all_goals (refine⟨za2,_,za7,?_⟩;try simp only[za0])
   have hd:l.drop i=[]:=tV ac;rw[hd]at O;cases m with
   |zero=>simp[d6]at O
   |succ m=>
    cases O;exact⟨hg2,j,I.get⟩
end
section
def tyLoF.tyF:=ad @eJ (ad @cQ (ad @cW (ad @gU (ad @lx (ad @gI (ad @eK (ad @eA (ad @dX (ad @fj (ad @ml (ad @nW (ad @IG (@wm)))))))))))))
open tyLoF
noncomputable def kB:{c:SC // aD 155 (Try.f99.body.getD .skip)=c}:=by
 refine⟨?_,?_⟩;rotate_left
 .simp only[Try.f99,bP,aD,zby,zbt,zbA,zbB,Nat.blt,Nat.ble];rfl
section
variable {tb:List En} (hG:LowT tb) {X:Lx} {c:Cx} (hX:CxOk X c) {x:St} {s:Bd} {H:Hp} {S:Nat -> Prop} {lv vv:AV}
set_option maxRecDepth 100000 in
set_option maxHeartbeats 4000000 in
include hG hX in
theorem W4(hk:x.kind=1){n:Nat}{r:Int×Bd}(g:di c n x.value s=some r)(hl:bS c.names x.name<r.2.vars.length)(hF:Fin r.2)(Z:RepL X H S s lv vv):
 za9 Try.prog (za3 pls tb) 99 [.ptr X.b 0,.agg x.cells] H (mF X S vv H {r.2 with vars:=r.2.vars.set (bS c.names x.name) r.1}):=by
 have o:Plain (za3 pls tb) 99:=hG.plain cN;have I:=Z.alloc (.cells x.cells 0 true);have F1:=(cb X S vv H).alloc (.cells x.cells 0 true);have zbL:=I.m;unfold zbm at zbL;have hlk1:=I.lkN hX x.name;have m:=zci c n _ _ _ g;have j:bS c.names x.name<s.vars.length:=by rw[<-m.v];exact hl
 obtain⟨q,O,hld,_⟩:=I.setV j r.1;refine zbs (M:=155) (rs:=[]) (o.call _) o.ice o.froz Try.func99 rfl rfl kB.2 rfl ?_;dsimp only[kB,zbj,Nat.reduceAdd];repeat' (first
  |(apply ai ?_;clear hK K)|apply Ry.o ?_|(apply bi (fun hb Y=>?_) (fun hb Y=>?_)<;>try(cases hb;done))|apply aq ?_|(apply zaW fun K hK=>?_)|(apply zcy 3 [(3,14),(3,16),(7,14),(7,16),(9,14),(9,16),(10,14),(10,16),(13,14)] fun K hK=>?_)|(apply zbK ?_;try intro _)|apply cr ?_|apply aO ?_|fail)
 refine aK rfl aL aM ?_;simp only[fJ];refine aI ?_ (pi hG hX n x.value s r g hF I (cb _ _ _ _));rintro v H2 ⟨rfl,S2,V,U,C⟩;have g2:=eC Z C;have m2:=U.m;unfold zbm at m2;have hlk2:=U.lkN hX x.name;obtain⟨q',z,hld',H3,hst,hq1,hq2,L,J,F3,o3,n3⟩:=U.setV hl r.1;have i:q'=q:=by
  rw[O]at z;simp only[az,AV.ptr.injEq]at z;exact z.1.symm
 subst i;have n2:H.next+1<=H2.next:=C.next
 have m3:=J.m;have hlk3:=J.lkN hX x.name;have g3:H3.get H.next=some (.cells x.cells 0 true):=by rw[o3 _ (by have:=Z.new (aA _);intro e;subst e;exact this.2.1 L)];exact g2
 dsimp only[zbm]at m3;dsimp only[za1];repeat' (first
  |apply Rx.o ?_|apply bN ?_|(apply zbK ?_;try intro _)|(apply zcr ?_ ?_<;>clear hK K)|apply cr ?_|apply zcX rfl ?_|fail)
 .exact zck
 .all_goals (refine⟨za2,_,za7,?_⟩;try simp only[za0])
  exact⟨S2,V,vv,J,F1.trans (C.trans F3)⟩
set_option maxRecDepth 100000 in
set_option maxHeartbeats 4000000 in
include hG hX in
theorem Xa(hk:x.kind=2){n:Nat}{i v:Int×Bd}(h1:di c n x.at_ s=some i)(h2:di c n x.value i.2=some v){a:Ar}(ha:c.arrays[bS (c.arrays.map (·.name)) x.name]?=some a)
 (j:Fin (zaX ⟨28,bS (c.arrays.map (·.name)) x.name,[(fd a.len i.1 v.2).state,i.1,v.1]⟩ (fd a.len i.1 v.2)).2) (I:RepL X H S s lv vv) :
 za9 Try.prog (za3 pls tb) 99 [.ptr X.b 0,.agg x.cells] H (mF X S vv H { (zaX ⟨28,bS (c.arrays.map (·.name)) x.name,[(fd a.len i.1 v.2).state,i.1,v.1]⟩ (fd a.len i.1 v.2)).2 with state:=(zaX ⟨28,bS (c.arrays.map (·.name)) x.name,[(fd a.len i.1 v.2).state,i.1,v.1]⟩ (fd a.len i.1 v.2)).1}):=by
 have O:Plain (za3 pls tb) 99:=hG.plain cN;have U:=I.alloc (.cells x.cells 0 true);have F1:=(cb X S vv H).alloc (.cells x.cells 0 true);have zbL:=U.m;unfold zbm at zbL;have hlk1:=U.lkA hX x.name;have z:Fin (fd a.len i.1 v.2):=j.le (zb8 _ _).le;have m:Fin v.2:=z.le (sG _ _ _).le;have o:Fin i.2:=m.le (zci c n _ _ _ h2).le;have J:X.p.arrays[bS (c.arrays.map (·.name)) x.name]?=some a:=by rw[<-hX.ar];exact ha
 refine zbs (M:=155) (rs:=[]) (O.call _) O.ice O.froz Try.func99 rfl rfl kB.2 rfl ?_;dsimp only[kB,zbj,Nat.reduceAdd];repeat' (first
  |(apply ai ?_;clear hK K)|apply Ry.o ?_|(apply bi (fun g Z=>?_) (fun g Z=>?_)<;>try(cases g;done))|apply aq ?_|(apply zaW fun K hK=>?_)|(apply zcy 5 [(3,8),(5,8),(6,8)] fun K hK=>?_)|(apply zbK ?_;try intro _)|(apply zcr ?_ ?_<;>clear hK K)|apply cr ?_|apply aO ?_|fail)
 all_goals first
  |exact zck
  |skip
 refine aK rfl aL aM ?_;simp only[aR];refine aI ?_ (pi hG hX n x.at_ s i h1 o U (cb _ _ _ _));rintro w H2 ⟨rfl,S2,lv2,R2,C⟩;have g2:=eC I C;dsimp only[za1];repeat' (first
  |(apply ai ?_;clear hK K)|apply Rx.o ?_|apply aq ?_|(apply zaW fun K hK=>?_)|fail)
 refine aK rfl aL aM ?_;simp only[aR];refine aI ?_ (pi hG hX n x.value i.2 v h2 m R2 (cb _ _ _ _));rintro w H3 ⟨rfl,S3,lv3,R3,F3⟩;have g3:=eC I (C.trans F3);dsimp only[za1];repeat' (first
  |(apply ai ?_;clear hK K)|apply Rx.o ?_|apply aq ?_|(apply zaW fun K hK=>?_)|fail)
 refine aK rfl aL aM ?_;simp only[aR];refine aI ?_ (II hG R3 (cb _ _ _ _) (bS (c.arrays.map (·.name)) x.name) i.1 J z);rintro w H4 ⟨S4,lv4,Y,F4⟩;have m4:=Y.m;unfold zbm at m4;have L:=Y.new (aA _);dsimp only[za1];repeat' (first
  |(apply ai ?_;clear hK K)|apply Rx.o ?_|(apply zaW fun K hK=>?_)|fail)
 refine aK rfl aL aM ?_;simp only[aR];refine aI ?_ (nC hG (Y.alloc _) ((cb _ _ _ _).alloc _) ⟨28,bS (c.arrays.map (·.name)) x.name,[(fd a.len i.1 v.2).state,i.1,v.1]⟩ rfl gK (aA _) (cJ _) L.2.2 L.1 L.2.1 j rfl rfl);rintro w H5 ⟨rfl,S5,V,R5,F5⟩;have m5:=R5.m;unfold zbm at m5;dsimp only[za1];repeat' (first
  |(apply ai ?_;clear hK K)|apply Rx.o ?_|apply bN ?_|fail)
 all_goals (refine⟨za2,_,za7,?_⟩;try simp only[za0])
 obtain⟨R6,F6⟩:=R5.setS (zaX ⟨28,bS (c.arrays.map (·.name)) x.name,[(fd a.len i.1 v.2).state,i.1,v.1]⟩ (fd a.len i.1 v.2)).1;exact⟨S5,V,vv,R6,F1.trans (C.trans (F3.trans (F4.trans (F5.trans F6))))⟩
set_option maxRecDepth 100000 in
set_option maxHeartbeats 4000000 in
include hG hX in
theorem Xb(hk:x.kind=5){n:Nat}{v:Int×Bd}(h1:di c n x.value s=some v)(V:Fin (zaX ⟨29,0,[v.2.state,v.1]⟩ v.2).2)(U:RepL X H S s lv vv):
 za9 Try.prog (za3 pls tb) 99 [.ptr X.b 0,.agg x.cells] H (mF X S vv H { (zaX ⟨29,0,[v.2.state,v.1]⟩ v.2).2 with state:=(zaX ⟨29,0,[v.2.state,v.1]⟩ v.2).1}):=by
 have O:Plain (za3 pls tb) 99:=hG.plain cN;have R1:=U.alloc (.cells x.cells 0 true);have F1:=(cb X S vv H).alloc (.cells x.cells 0 true);have m:Fin v.2:=V.le (zb8 _ _).le;refine zbs (M:=155) (rs:=[]) (O.call _) O.ice O.froz Try.func99 rfl rfl kB.2 rfl ?_;dsimp only[kB,zbj,Nat.reduceAdd];repeat' (first
  |(apply ai ?_;clear hK K)|apply Ry.o ?_|(apply bi (fun o z=>?_) (fun o z=>?_)<;>try(cases o;done))|apply aq ?_|(apply zaW fun K hK=>?_)|apply aO ?_|fail)
 refine aK rfl aL aM ?_;simp only[aR];refine aI ?_ (pi hG hX n x.value s v h1 m R1 (cb _ _ _ _));rintro w H4 ⟨rfl,S4,J,I,C⟩;have m4:=I.m;unfold zbm at m4;have L:=I.new (aA _);dsimp only[za1];repeat' (first
  |(apply ai ?_;clear hK K)|apply Rx.o ?_|(apply zaW fun K hK=>?_)|fail)
 refine aK rfl aL aM ?_;simp only[aR];refine aI ?_ (nC hG (I.alloc _) ((cb _ _ _ _).alloc _) ⟨29,0,[v.2.state,v.1]⟩ rfl gK (aA _) (cJ _) L.2.2 L.1 L.2.1 V rfl rfl);rintro w H5 ⟨rfl,j,Z,Y,g⟩;have m5:=Y.m;unfold zbm at m5;dsimp only[za1];repeat' (first
  |(apply ai ?_;clear hK K)|apply Rx.o ?_|apply bN ?_|fail)
 all_goals (refine⟨za2,_,za7,?_⟩;try simp only[za0])
 obtain⟨i,F6⟩:=Y.setS (zaX ⟨29,0,[v.2.state,v.1]⟩ v.2).1;exact⟨j,Z,vv,i,F1.trans (C.trans (g.trans F6))⟩
set_option maxRecDepth 100000 in
set_option maxHeartbeats 4000000 in
include hG in
theorem Xc(hk:x.kind=7)(V:Fin (nu (b9 (16+x.n)) (zaX ⟨1,0,[]⟩ s).1 (zaX ⟨1,0,[]⟩ s).2))(I:RepL X H S s lv vv):
 za9 Try.prog (za3 pls tb) 99 [.ptr X.b 0,.agg x.cells] H (mF X S vv H (nu (b9 (16+x.n)) (zaX ⟨1,0,[]⟩ s).1 (zaX ⟨1,0,[]⟩ s).2)):=by
 have O:Plain (za3 pls tb) 99:=hG.plain cN;have R1:=I.alloc (.cells x.cells 0 true);have F1:=(cb X S vv H).alloc (.cells x.cells 0 true);have m:Fin (zaX ⟨1,0,[]⟩ s).2:=V.le (rh _ _ _).le;refine zbs (M:=155) (rs:=[]) (O.call _) O.ice O.froz Try.func99 rfl rfl kB.2 rfl ?_;dsimp only[kB,zbj,Nat.reduceAdd];repeat' (first
  |(apply ai ?_;clear hK K)|apply Ry.o ?_|(apply bi (fun o z=>?_) (fun o z=>?_)<;>try(cases o;done))|apply aq ?_|(apply zaW fun K hK=>?_)|(apply zcy 14 [(2,5),(2,6)] fun K hK=>?_)|(apply zbK ?_;try intro _)|apply cr ?_|apply aO ?_|fail)
 refine aK rfl aL aM ?_;simp only[fJ];refine aI ?_ (tY hG R1 (cb _ _ _ _) 0 m);rintro w Y ⟨rfl,S4,J,C,Z⟩;have g4:=eC I Z;have n4:H.next+1<=Y.next:=Z.next
 dsimp only[za1];repeat' (first
  |(apply zbK ?_;try intro _)|apply cr ?_|fail)
 all_goals first
  |exact zck
  |skip
 refine aK rfl aL aM ?_;simp only[fJ];refine aI ?_ (zA hG C (cb _ _ _ _) (b9 (16+x.n)) (zaX ⟨1,0,[]⟩ s).1 V);rintro w U ⟨j,L,i,g⟩;have g5:=eC I (Z.trans g);have n5:H.next+1<=U.next:=cm n4 g.next
 have n45:Y.next<=U.next:=g.next
 dsimp only[za1];repeat' (first
  |(apply zbK ?_;try intro _)|(apply zcr ?_ ?_<;>clear hK K)|fail)
 .exact zck
 .all_goals (refine⟨za2,_,za7,?_⟩;try simp only[za0])
  exact⟨j,L,vv,i,F1.trans (Z.trans g)⟩
set_option maxRecDepth 100000 in
set_option maxHeartbeats 4000000 in
include hG in
theorem lst0(h1:¬x.kind=1)(h2:¬x.kind=2)(m:¬x.kind=3)(L:¬x.kind=4)(Y:¬x.kind=5)(U:¬x.kind=6)(V:¬x.kind=7)(I:RepL X H S s lv vv):
 za9 Try.prog (za3 pls tb) 99 [.ptr X.b 0,.agg x.cells] H (mF X S vv H s):=by
 have O:Plain (za3 pls tb) 99:=hG.plain cN;have Z:=I.alloc (.cells x.cells 0 true);have j:=(cb X S vv H).alloc (.cells x.cells 0 true);refine zbs (M:=155) (rs:=[]) (O.call _) O.ice O.froz Try.func99 rfl rfl kB.2 rfl ?_;dsimp only[kB,zbj,Nat.reduceAdd];repeat' (first
  |(apply ai ?_;clear hK K)|apply Ry.o ?_|(apply bi (fun o z=>?_) (fun o z=>?_)<;>try(cases o;done))|apply aq ?_|(apply zaW fun K hK=>?_)|apply aO ?_|apply za8 ?_|fail)
 all_goals (refine⟨za2,_,za7,?_⟩;try simp only[za0])
 exact⟨S,lv,vv,Z,j⟩
end
end
section
def tyLoF6.tyF:=ad @eJ (ad @cQ (ad @cW (ad @gU (ad @lx (ad @gI (ad @eK (ad @eA (ad @dX (ad @fj (ad @ml (ad @nW (@zy))))))))))))
open tyLoF6
structure RowL (S:Nat->Prop) (vv:AV) (lo:Nat) (H:Hp) (av:AV) (l:List Int):Prop where
 r:iM H av l lo
 n:∀k,zbv av k->¬S k/\¬zbv vv k
theorem RowL.fr{X:Lx}{S S':Nat->Prop}{vv C:AV}{lo:Nat}{H H':Hp}{U:AV}{l:List Int}(h:RowL S vv lo H U l)(o:X.b<lo)(K:X.rt<lo)(f:FrL X S vv H S' C H'):RowL S' C lo H' U l:=by
 refine⟨h.r.keep f.next fun k j=>?_,fun k j=>?_⟩
 .have a:=h.r.lt j;have b:=h.n k j;exact f.get k a.2 ac ac b.1 b.2
 .have a:=h.r.lt j;have b:=h.n k j;refine⟨fun e=>?_,fun e=>?_⟩
  .rcases f.sub k e with e|e
   .exact b.1 e
   .omega
  .rcases f.own k e with e|e
   .exact b.2 e
   .omega
theorem RowL.app{X:Lx}{S:Nat->Prop}{s:Bd}{V vv:AV}{lo:Nat}{H K:Hp}{U:AV}{l:List Int}(h:RowL S vv lo H U l)(I:RepL X K S s V vv)(Z:lo<=K.next)(M:H.next<=K.next)(L:∀k,k<H.next->K.get k=H.get k)(x:Int){r imm:Nat}(J:K.get r=some (.cells [.int .i64 x] imm true))(hb:X.b<lo)(o:l.length<2^39):
 ∃z H',zcg Try.prog false K 23 23 U (.sl r 0 1 1)=some (z,H')/\RowL S vv lo H' z (l++[x])/\RepL X H' S s V vv/\FrL X S vv K S vv K/\K.next<=H'.next/\(∀k,k<K.next->¬zbv U k->H'.get k=K.get k)/\(∀k,zbv z k->zbv U k\/K.next<=k)/\hY H' z (l++[x]) lo:=by
 have hr:iM K U l lo:=h.r.keep M fun k j=>L k (h.r.lt j).2;obtain⟨z,H',m,Y,a3,a4,C,O⟩:=GO x hr Z J o;refine⟨z,H',m,⟨.inr Y,fun k j=>?_⟩,I.keep ac fun k i g=>C k i fun e=>?_,cb _ _ _ _,ac,C,O,Y⟩
 .rcases O k j with e|e
  .exact h.n k e
  .have:=I.new e;exact⟨this.1,this.2.1⟩
 .have b:=h.n k e;have c:=h.r.lt e;rcases g with g|g|g
  .omega
  .exact b.1 g
  .exact b.2 g
theorem C8{g:List En}(O:LowT g){X:Lx}{H V:Hp}{S:Nat->Prop}{s:Bd}{U vv:AV}(I:RepL X V S s U vv)(M:FrL X S vv H S vv V)(n:Nd){r m:Nat}(L:n.kids.length=m)(C:V.get r=some (.cells (n.kids.map (.int .i64)) 0 true))(hr:H.next<=r)(J:r<V.next)(K:X.b<r)(hS:¬S r)(z:¬zbv vv r)(Y:Fin (zaX n s).2){op imm:Int}(o:n.op=op)(j:n.imm=imm):
 za9 Try.prog (za3 pls g) 58 [.ptr X.b 0,.int .i64 op,.int .i64 imm,.sl r 0 m 1] V (fun v H'=>ol X S vv H (zaX n s) v H'/\V.next<=H'.next):=by
 subst L;subst o;subst j;refine aI ?_ (wi O I n (.inr ⟨r,0,rfl,C,dg _,dg _,J⟩) (fun k Z=>?_) Y.r (sD (tQ s.l n).length_le Y.l))
 .intro v H' h;exact⟨h.val M fun k Z=>by rw[tX Z];exact hr,by obtain⟨_,_,_,_,q,_⟩:=h;exact q⟩
 .rw[tX Z];exact⟨K,hS,z⟩
section
variable {tb:List En} (hG:LowT tb) {X:Lx} {c:Cx} (hX:CxOk X c) {x:St} {s:Bd} {H:Hp} {S:Nat -> Prop} {lv vv:AV}
set_option maxRecDepth 100000 in
set_option maxHeartbeats 4000000 in
include hG hX in
theorem Xd(j:x.kind=6){n:Nat}{U:List Int×Bd}(h1:jj c n x.args s=some U)(C:0<=zbY c.funcs x.to 0)(hl:bS c.names x.name<U.2.vars.length)(hz:x.sz<2^36)
 (hF:Fin (zaX ⟨24,0,[(zaX ⟨30,zbY c.funcs x.to 0,U.2.state::U.1⟩ U.2).1]⟩ { (zaX ⟨30,zbY c.funcs x.to 0,U.2.state::U.1⟩ U.2).2 with state:=(zaX ⟨30,zbY c.funcs x.to 0,U.2.state::U.1⟩ U.2).1}).2) (I:RepL X H S s lv vv) :
 za9 Try.prog (za3 pls tb) 99 [.ptr X.b 0,.agg x.cells] H (mF X S vv H (let r:=zaX ⟨30,zbY c.funcs x.to 0,U.2.state::U.1⟩ U.2;let q:=zaX ⟨24,0,[r.1]⟩ {r.2 with state:=r.1};{q.2 with vars:=q.2.vars.set (bS c.names x.name) q.1})):=by
 have hw:Plain (za3 pls tb) 99:=hG.plain cN;have hkeep:(za3 pls tb).keep 99=false:=rfl;have R1:=I.alloc (.cells x.cells 0 true);have F1:=(cb X S vv H).alloc (.cells x.cells 0 true);have zbL:=R1.m;unfold zbm at zbL;have o3:=I.o3;have o4:=I.o4;have o5:=I.o5;have hal:=zdH x.args;have hsz:=x.sz_eq;simp only[];generalize hr:zaX ⟨30,zbY c.funcs x.to 0,U.2.state::U.1⟩ U.2=r at *;have g:Fin r.2:=hF.le ⟨(zb8 ⟨24,0,[r.1]⟩ {r.2 with state:=r.1}).le.l,(zb8 ⟨24,0,[r.1]⟩ {r.2 with state:=r.1}).le.n⟩;have hFa:Fin U.2:=by rw[<-hr]at g;exact g.le (zb8 _ _).le
 have happl:=(sH c n _ _ _ h1).2;refine zbs (M:=155) (rs:=[]) (hw.call _) hw.ice hw.froz Try.func99 rfl rfl kB.2 rfl ?_;dsimp only[kB,zbj,Nat.reduceAdd];repeat' (first
  |(apply ai ?_;clear hK K)|apply Ry.o ?_|(apply bi (fun hb z=>?_) (fun hb z=>?_)<;>try(cases hb;done))|apply aq ?_|(apply zaW fun K hK=>?_)|apply aO ?_|fail)
 refine zcj [0,3,12,94,95] [] 96 x.args.length (fun i E m=>∃V Z s2 S2 lv2 a,E.at 8=a/\jj c n (x.args.drop i) s2=some (Z,U.2)/\U.1=V++Z/\RepL X m S2 s2 lv2 vv/\FrL X S vv (H.alloc (.cells x.cells 0 true)) S2 vv m/\RowL S2 vv (H.next+1) m a V/\V.length=i) eE ⟨[],U.1,s,S,lv,.nilS,eE,h1,rfl,R1,cb _ _ _ _,⟨.inl ⟨rfl,rfl⟩,fun k j=>(wj j).elim⟩,rfl⟩ ?_;rintro i E m hi hcE hrH hnH hsI ⟨V,Z,s2,S2,lv2,a,k8,hJ,Y,R2,F2,W2,O⟩;(try simp only[zbR,zbq,br,za4,zbg,Nat.reduceBEq, *]at hcE);(try simp only[zbq,zbg, *]at hrH);(try simp only[zbb,]at hnH);have n2:H.next+1<=m.next:=hnH
 by_cases hlt:i<x.args.length
 .have hlt':(i:Int)<x.args.length:=by omega
  have hgx:x.args[i]?=some x.args[i]:=aY hlt;rw[hP hlt]at hJ;unfold jj at hJ;simp only[dx,ce]at hJ;obtain⟨e1,he1,r2,hr2,rfl,hr2'⟩:=hJ;generalize x.args[i]=y at *;have hFe:Fin e1.2:=by
   have:=(sH c n _ _ _ hr2).1.le;rw[hr2']at this;exact hFa.le this
  have gb2:=eC I F2;repeat' (first
   |(apply ai ?_;clear hK K)|apply Ry.o ?_|apply dD ?_|(apply bi (fun hb z=>?_) (fun hb z=>?_)<;>try(cases hb;done))|apply aq ?_|(apply zaW fun K hK=>?_)|apply aO ?_|apply za8 ?_|fail)
  refine aK rfl aL aM ?_;simp only[aR];have R2a:=R2.alloc2 (.cells [AV.int .i64 0,.int .i64 0,.str [],.int .i64 0,.nilS] 0 true) (.cells y.cells 0 true);have F2a:=(cb X S2 vv m).alloc2 (.cells [AV.int .i64 0,.int .i64 0,.str [],.int .i64 0,.nilS] 0 true) (.cells y.cells 0 true);refine aI ?_ (pi hG hX n y s2 e1 he1 hFe R2a (cb _ _ _ _));rintro w H3 ⟨rfl,S3,lv3,R3,F3⟩;have F23:=F2a.trans F3;have W3:=W2.fr ac ac F23;have n3:m.next+1<=H3.next:=F3.next
  have R3a:=R3.alloc (.cells [.int .i64 e1.1] 0 true);obtain⟨v5,H5,a5,W5,R5,_,n5,q5,_,_⟩:=W3.app R3a eU (dV _) (fun k j=>fS) e1.1 (r:=H3.next) (imm:=0) lY ac ac;have F5:FrL X S vv (H.alloc (.cells x.cells 0 true)) S3 vv H5:=by
   have F:=F2.trans F23;refine⟨by have:=F.next;simp only[zbb]at n5 this⊢;omega,fun k h1 h2 h3 h4 h5=>?_,F.sub,F.own⟩;rw[q5 k (by simp only[zbb]at h1⊢;omega) (fun e=>by have:=W3.r.lt e;simp only[zbb]at h1;omega),zaY,af (by simp only[zbb]at h1;omega)];exact F.get k h1 h2 h3 h4 h5
  have n5':m.next<=H5.next:=CY
  dsimp only[za1];repeat' (first
   |(apply ai ?_;clear hK K)|apply Rx.o ?_|(apply zaW fun K hK=>?_)|fail)
  refine⟨ac,zbw,zbw,eN,Iu,?_⟩;exact⟨V++[e1.1],r2.1,e1.2,S3,lv3,v5,eE,by rw[<-hr2'];exact hr2,vc,R5,F5,W5,by simp[O]⟩
 .have hlt':¬(i:Int)<x.args.length:=by omega
  have hd:x.args.drop i=[]:=tV ac;rw[hd]at hJ;simp only[jj,ce]at hJ;obtain⟨hJ1,hJ2⟩:=hJ;subst hJ2;rw[<-hJ1,aR]at Y;rw[<-Y]at W2 O;clear hd O;have gb2:=eC I F2;have m2:=R2.m;unfold zbm at m2;have hlF2:=R2.lkF hX x.to C;have nw2:=R2.new (aA _);have Rb:=R2.alloc (.cells [.int .i64 U.2.state] 0 true);obtain⟨v6,H6,a6,i6,n6,l6,f6,q6⟩:=GP (H:=m.alloc (.cells [.int .i64 U.2.state] 0 true)) (v:=.sl m.next 0 1 1) (l:=[U.2.state]) (lo:=m.next) ⟨m.next,0,rfl,gK,dg _,aA _,cJ _⟩ (dV _) (W2.r.keep (dV _) fun k j=>by rw[zaY,af (by have:=W2.r.lt j;omega)]) (by rw[happl];simp only[cS,ed];omega);simp only[zbb]at n6 l6 f6 q6;have hf6:∀k,k<m.next->H6.get k=m.get k:=fun k j=>by rw[l6 k j,zaY,af ac]
  have R6:RepL X H6 S2 U.2 lv2 vv:=R2.keep ac fun k h1 _=>hf6 k h1;have F6:FrL X S2 vv m S2 vv H6:=⟨ac,fun k h1 _ _ _ _=>hf6 k h1,fun _ h=>.inl h,fun _ h=>.inl h⟩;have o:∀k,zbv v6 k->m.next<=k:=fun k j=>(i6.lt j).1
  have L:=wi hG R6 ⟨30,zbY c.funcs x.to 0,U.2.state::U.1⟩ (.inr (by obtain⟨zbf,i0,z1,z2,z3,z4,z5⟩:=i6;exact⟨zbf,i0,z1,z2,z3,dg _,z5⟩)) (fun k j=>by have:=R2.new (o k j);exact⟨this.2.2,this.1,this.2.1⟩) (by rw[<-hr]at g;exact g.r) hFa.l;have m6:=R6.m;unfold zbm at m6;have mb:=Rb.m;unfold zbm at mb;have hlFb:=Rb.lkF hX x.to C;have gbb:(m.alloc (.cells [.int .i64 U.2.state] 0 true)).get H.next=some (.cells x.cells 0 true):=by rw[zaY,af ac];exact gb2
  have hlF6:=R6.lkF hX x.to C;repeat' (first
   |(apply ai ?_;clear hK K)|apply Ry.o ?_|(apply bi (fun hb z=>?_) (fun hb z=>?_)<;>try(cases hb;done))|apply aq ?_|(apply zaW fun K hK=>?_)|(apply zcy 22 [(5,15),(5,16),(7,15),(7,16),(8,15),(8,16),(12,15),(13,15)] fun K hK=>?_)|(apply zbK ?_;try intro _)|apply cr ?_|apply zbW ?_)
  refine aK rfl aL aM ?_;simp only[fJ];refine aI ?_ L;intro w H7 h7;have h7':=h7.val F6 o;rw[hr]at h7';have n67:H6.next<=H7.next:=by obtain⟨_,_,_,_,h,_⟩:=h7;exact h
  clear h7 L;obtain⟨rfl,S7,lv7,R7,F7⟩:=h7';have gb6:H6.get H.next=some (.cells x.cells 0 true):=by rw[hf6 _ ac];exact gb2
  have gb7:=eC I (F2.trans F7);have m7:=R7.m;unfold zbm at m7;have hlF7:=R7.lkF hX x.to C;have n7:m.next<=H7.next:=F7.next
  obtain⟨R8,F8⟩:=R7.setS r.1;have gb8:=eC I (F2.trans (F7.trans F8));have m8:=R8.m;have hlF8:=R8.lkF hX x.to C;have hlN8:=R8.lkN hX x.name;have hv8:r.2.vars=U.2.vars:=by rw[<-hr];rfl
  have hl8:bS c.names x.name<r.2.vars.length:=by rw[hv8];exact hl
  clear hv8;obtain⟨q,hix,hld,_⟩:=R8.setV hl8 0;have nw8:=R8.new (aA _);have R8a:=R8.alloc (.cells [.int .i64 r.1] 0 true);have L:=C8 hG R8a ((cb _ _ _ _).alloc _) ⟨24,0,[r.1]⟩ rfl gK (aA _) (cJ _) nw8.2.2 nw8.1 nw8.2.1 hF rfl rfl;have n8:(H7.set X.b (.cells (zbm X {r.2 with state:=r.1} lv7 vv) 0 true)).next=H7.next:=rfl
  dsimp only[zbm]at R8 F8 gb8 m8 hlF8 hlN8 R8a L hld n8;rw[n8]at L;dsimp only[za1];repeat' (first
   |apply Rx.o ?_|apply bN ?_|(apply zcy 23 [(3,17),(3,19),(7,17),(7,19),(9,17),(9,19),(10,17),(10,19),(15,17),(16,17)] fun K hK=>?_)|(apply zbK ?_;try intro _)|(apply zcr ?_ ?_<;>clear hK K)|apply cr ?_|apply zcX rfl ?_|fail)
  .exact zck
  .refine aK rfl aL aM ?_;simp only[fJ];refine aI ?_ L;rintro w H9 ⟨⟨rfl,S9,lv9,R9,F9⟩,n9'⟩;simp only[zbb,zbl]at n9';have hl9:bS c.names x.name<(zaX ⟨24,0,[r.1]⟩ {r.2 with state:=r.1}).2.vars.length:=hl8;obtain⟨q',J,hld',H10,hst,hq1,hq2,hq3,R10,F10,o10,n10⟩:=R9.setV hl9 (zaX ⟨24,0,[r.1]⟩ {r.2 with state:=r.1}).1;have hqq:q'=q:=by
    rw[hix]at J;simp only[az,AV.ptr.injEq]at J;exact J.1.symm
   subst hqq;have m8a:=R8a.m;have m9:=R9.m;have m10:=R10.m;have hlN8a:=R8a.lkN hX x.name;have hlN9:=R9.lkN hX x.name;have hlN10:=R10.lkN hX x.name;have F89:=F2.trans (F7.trans (F8.trans F9));have gb9:=eC I F89;have gb8a:=eC I (F2.trans (F7.trans (F8.alloc (.cells [.int .i64 r.1] 0 true))));have gb10:=eC I (F89.trans F10);have n9:=F9.next
   dsimp only[zbm]at m8a m9 m10;simp only[zbl]at n9;dsimp only[za1];repeat' (first
    |apply Rx.o ?_|(apply zbK ?_;try intro _)|apply cr ?_|apply zcX rfl ?_|fail)
   refine BJ eV eV hst ?_;repeat' (first
    |(apply zbK ?_;try intro _)|(apply zcr ?_ ?_<;>clear hK K)|fail)
   .exact zck
   .all_goals (refine⟨za2,_,za7,?_⟩;try simp only[za0])
    exact⟨S9,lv9,vv,R10,F1.trans (F89.trans F10)⟩
end
end
end Go.Proofs.Ytpbcimfiofmoeaa
