/- Parts: R3a, Strs, AbWk, AbCut, AbIc, Ints, Bytes, SpecI, SpecR, R3b, I2, V1, EnX, I3, R3c, L4a, R3d, R3e, R3f, R3g, R3h, R3i, R3j, Spec6, Sem6, Rep6, Rep6c, L4b. -/
import Derived.Test.YtpbcimfiofmoeaaNCG
set_option linter.unusedSimpArgs false
set_option linter.unusedVariables false
set_option linter.unusedSectionVars false
set_option linter.defProp false
set_option maxHeartbeats 32000000
namespace Go.Ab
set_option maxRecDepth 20000
open Go
theorem yz{P:Prop}(h:P:=by rw[C r ⟨_,rfl⟩];exact g):P:=h
theorem Ci{P:Prop}(h:P:=by have:=List.length_pos_iff.2 O;omega):P:=h
theorem qS{P:Prop}(h:P:=by simp[hn]):P:=h
theorem gK{P:Prop}(h:P:=by rw[zaY,if_pos rfl];rfl):P:=h
theorem lC{P:Prop}(h:P:=by simp only[zdN];omega):P:=h
theorem aS{P:Prop}(h:P:=by decide):P:=h
theorem GF{P:Prop}(h:P:=by rw[zdE,p7,decide_eq_true e.symm,Bool.or_true]):P:=h
theorem Cj{P:Prop}(h:P:=by rw[Vt _ ac];omega):P:=h
def cD:=@List.length_map
def gy:=@cond_true
def pV:=@List.all_cons
def pW:=@Nat.le_of_eq
def tH:=@List.length_pos_iff
def eR:=@List.getD_eq_getElem?_getD
def vI:=@List.headD_cons
def gX:=@Bool.false_and
def pX:=@List.length_replicate
def vJ:=@List.getElem?_replicate
def vK:=@Bool.and_assoc
def yA:=@List.eq_of_mem_replicate
def oS:=@Bool.and_false
def pY:=@List.any_cons
def tI:=@Bool.not_or
def lD:=@decide_eq_true
def oT:=@of_decide_eq_true
def mp:=@decide_eq_false
end Go.Ab
namespace Go.Proofs.Ytpbcimfiofmoeaa
set_option maxRecDepth 20000
open Go Go.Ab
section
def tyR3a.tyF:=ad @vu (ad @cQ (ad @cW (ad @gJ (ad @kQ (ad @ly (ad @gI (ad @eK (ad @dX (ad @lA (ad @eJ (@eA)))))))))))
open tyR3a
theorem zc4(f:FuncId):Plain (za3 pls []) f:=⟨fun _=>rfl,rfl,rfl⟩
theorem zcB{l:List En}{f:FuncId}(h1:∀Y,zcu l f Y=none)(h2:lB l f=false):Plain (za3 pls l) f:=⟨h1,h2,rfl⟩
structure PlainA (cfg:Cfg) (f:FuncId) (args:List AV):Prop where
 call:cfg.call f args=none
 ice:cfg.ice f=false
 froz:cfg.froz f=false
theorem GG{z:Type}{sz:z->Nat}{ok:z->Prop}{enc:z->List AV}{out:z->AV}(I:∀x y,enc x=enc y->x=y){f:FuncId}{l:List En}(x:z):
 PlainA (za3 pls (⟨f,false,dA (fun y=>ok y/\sz y<sz x) enc out⟩::l)) f (enc x):=by
 have hf:Nat.beq f f=true:=Nat.beq_refl f;refine⟨?_,?_,rfl⟩
 .show zcu _ f (enc x)=none;simp only[zcu,hf];exact Gw fun y o e=>by rw[I _ _ e]at o;exact Nat.lt_irrefl _ o.2
 .show lB _ f=false;simp only[lB,hf]
def zbx(l:List (List UInt8))(s:List UInt8):Bool:=l.any fun x=>decide (x=s)
def tJ(op:Int):Bool:=decide (4<=op)&&decide (op<=18)
def zeroE(x:Ex):Bool:=decide (x.kind=0)&&decide (x.n=0)&&decide (x.name=[])&&decide (x.op=0)&&decide (x.kids.length=0)
def zbY:List Fu->List UInt8->Int->Int
 |[],_,_=>-1
 |f::l,s,i=>if f.name=s then i else zbY l s (i+1)
def tK(s:List UInt8):List AV:=[.str s]
theorem GH(x y:List UInt8)(h:tK x=tK y):x=y:=by simpa [tK]using h
end
def nn(H:Hp)(v:AV)(l:List (List UInt8))(lo:Nat):Prop:=∃r L,v=.sl r 0 l.length 1/\H.get r=some (.cells (l.map .str) L true)/\L<=l.length/\lo<=r/\r<H.next
def oU(H:Hp)(v:AV)(l:List (List UInt8))(lo:Nat):Prop:=(v=.nilS/\l=[])\/nn H v l lo
theorem nn.low{H H':Hp}{v:AV}{l:List (List UInt8)}{lo:Nat}(h:nn H v l lo)(U:H.next<=H'.next)(C:∀k,lo<=k->k<H.next->H'.get k=H.get k):nn H' v l lo:=by
 obtain⟨r,L,i,g,m,Z,o⟩:=h;exact⟨r,L,i,by rw[C r Z o];exact g,m,Z,ac⟩
def zbv(v:AV)(k:Nat):Prop:=∃n,v=.sl k 0 n 1
def qT(v z:AV)(H H':Hp):Prop:=(∀k,k<H.next->¬zbv v k->H'.get k=H.get k)/\∀k,zbv z k->zbv v k\/H.next<=k
theorem nn.lt{H:Hp}{v:AV}{l:List (List UInt8)}{lo:Nat}(h:nn H v l lo){k:Nat}(j:zbv v k):lo<=k/\k<H.next:=by
 obtain⟨r,L,rfl,_,_,Z,o⟩:=h;obtain⟨n,e⟩:=j;simp only[AV.sl.injEq]at e;rw[<-e.1];exact⟨Z,o⟩
theorem oU.lt{H:Hp}{v:AV}{l:List (List UInt8)}{lo:Nat}(h:oU H v l lo){k:Nat}(j:zbv v k):lo<=k/\k<H.next:=by
 rcases h with⟨rfl,_⟩|h
 .obtain⟨n,e⟩:=j;simp at e
 .exact h.lt j
theorem nn.keep{H H':Hp}{v:AV}{l:List (List UInt8)}{lo:Nat}(h:nn H v l lo)(U:H.next<=H'.next)(C:∀k,zbv v k->H'.get k=H.get k):nn H' v l lo:=by
 obtain⟨r,L,rfl,g,m,Z,o⟩:=h;exact⟨r,L,rfl,yz,m,Z,ac⟩
theorem oU.keep{H H':Hp}{v:AV}{l:List (List UInt8)}{lo:Nat}(h:oU H v l lo)(U:H.next<=H'.next)(C:∀k,zbv v k->H'.get k=H.get k):oU H' v l lo:=h.imp id fun h=>h.keep U C
theorem GI(l:List (List UInt8)):(l.map AV.str).all AV.one=true:=by simp[AV.one]
theorem Ck(m:List (List UInt8)):(m.map fun s=>[AV.str s]).flatten=m.map .str:=by induction m with
 |nil=>rfl
 |cons a m ih=>simp[ih]
theorem Ve{H:Hp}{r imm:Nat}{m:List (List UInt8)}(h:H.get r=some (.cells (m.map .str) imm true)):zcM H 1 (.sl r 0 m.length 1)=some (m.length,m.map .str):=by
 have:=sf (H:=H) (r:=r) (o:=0) (n:=m.length) (z:=1) (s:=1) h aw;rw[this,fT,eI aw]
theorem Vf{H:Hp}{v x:AV}{l m:List (List UInt8)}{lo:Nat}(M:oU H v l lo)(Z:lo<=H.next)(I:zcM H 1 x=some (m.length,m.map .str))(O:m≠[])(o:l.length+m.length<2^40):
 ∃z H',zcg Try.prog false H 47 47 v x=some (z,H')/\nn H' z (l++m) lo/\H'.next=H.next+1/\(∀k,k<lo->H'.get k=H.get k)/\qT v z H H':=by
 obtain⟨n,hn⟩:∃n,m.length=n+1:=⟨m.length-1,Ci⟩;have L:zcw=70368744177664:=rfl;rw[hn]at I;rcases M with⟨rfl,rfl⟩|⟨r,Y,rfl,g,J,C,i⟩
 .refine⟨.sl H.next 0 (n+1) 1,H.alloc (.cells (m.map .str) 0 true),append_nil Try.underlying47 vx vy vz ah I (GI m) rfl iD iD,⟨H.next,0,qS,gK,ac,Z,cJ _⟩,rfl,fun k j=>fS,fun k j _=>fS,fun k j=>.inr ?_⟩;obtain⟨K,e⟩:=j;simp only[AV.sl.injEq]at e;omega
 .have U:gR false H 1 (.sl r 0 l.length 1)=H:=by
   unfold gR;simp only[g,b4,cD,nN];have:Nat.blt l.length l.length=false:=by
    cases o:Nat.blt l.length l.length with
    |false=>rfl
    |true=>rw[i4]at o;omega
   simp[this]
  refine⟨.sl H.next 0 (l.length+(n+1)) 1,(H.kill r).alloc (.cells (l.map .str++m.map .str) (Y-0) true),?_,⟨H.next,Y,qS,?_,cc,Z,cJ _⟩,rfl,fun k j=>?_,fun k j V=>?_,fun k j=>.inr ?_⟩
  .simp only[zcg,Try.underlying47,vx,vy,vz,show jp Try.prog 47=true by kernel_rfl,I,GI,U,oK,cZ,cS,ed,zdB,g,cD,b4,nN,fT];rw[aj ⟨iD,iD,trivial,trivial,J⟩];simp
  .show((H.kill r).alloc _).get (H.kill r).next=_
   rw[zaY,aj rfl];simp
  .rw[zaY,af lC,zcW,af ac]
  .rw[zaY,af lC,zcW,af (fun e=>V ⟨_,m0⟩)]
  .obtain⟨K,e⟩:=j;simp only[AV.sl.injEq]at e;omega
theorem GJ{H:Hp}{v:AV}{l:List (List UInt8)}{lo r imm:Nat}(s:List UInt8)(M:oU H v l lo)(Z:lo<=H.next)(J:H.get r=some (.cells [.str s] imm true))(o:l.length<2^39):
 ∃z H',zcg Try.prog false H 47 47 v (.sl r 0 1 1)=some (z,H')/\nn H' z (l++[s]) lo/\H'.next=H.next+1/\(∀k,k<lo->H'.get k=H.get k)/\qT v z H H':=
 Vf M Z (Ve (m:=[s]) J) aw cc
theorem Vg(l:List (List UInt8)):iz 1 l.length (l.map .str)=l.map fun s=>[AV.str s]:=by
 induction l with
 |nil=>rfl
 |cons a l ih=>simp[iz,ih]
end Go.Proofs.Ytpbcimfiofmoeaa
namespace Go.Ab
set_option maxRecDepth 20000
open Go
def dE:Nat->AV->AV
 |0,v=>v
 |n+1,v=>match v with
  | .nilS=>.lst []
  | .lst M=>.lst (M.map fun K=>K.map (dE n))
  | .agg Z=>.agg (Z.map (dE n))
  | .tup Z=>.tup (Z.map (dE n))
  |v=>v
theorem VR.wk{G:Gh}:∀(n:Nat) {v:AV}{x:Value},VR G v x->VR G (dE n v) x
 |0,_,_,h=>h
 |n+1,v,x,h=>by
  cases h with
  |nilS=>exact .lst0 _ _
  |lst vs J hF M hc=>
   rename_i xs b o cap z;have:=VR.lst (G:=G) (xs:=xs.map fun K=>K.map (dE n)) (b:=b) (o:=o) (cap:=cap) (z:=z) vs ?_ ?_ ?_ ?_
   .rw[cD]at this;exact this
   .intro i K hr;rw[gl]at hr;cases Y:xs[i]? with
    |none=>rw[Y]at hr;simp at hr
    |some zbf=>rw[Y]at hr;simp only[i8,az]at hr;rw[<-hr,cD];exact J i zbf Y
   .intro i j L g;rw[cD]at L;exact hF i j L g
   .intro i j K c hr V;rw[gl]at hr;cases Y:xs[i]? with
    |none=>rw[Y]at hr;simp at hr
    |some zbf=>
     rw[Y]at hr;simp only[i8,az]at hr;rw[<-hr,gl]at V;cases Z:zbf[j]? with
     |none=>rw[Z]at V;simp at V
     |some c0=>rw[Z]at V;simp only[i8,az]at V;rw[<-V];exact VR.wk n (M i j zbf c0 Y Z)
   .rw[cD];exact hc
  |lst0 a cap=>exact .lst0 a cap
  |agg U M=>
   refine .agg (by rw[cD];exact U) fun i c v hc I=>?_;rw[gl]at hc;rename_i O vs;cases Z:O[i]? with
   |none=>rw[Z]at hc;simp at hc
   |some c0=>rw[Z]at hc;simp only[i8,az]at hc;rw[<-hc];exact VR.wk n (M i c0 v Z I)
  |tup U M=>
   refine .tup (by rw[cD];exact U) fun i c v hc I=>?_;rw[gl]at hc;rename_i O vs;cases Z:O[i]? with
   |none=>rw[Z]at hc;simp at hc
   |some c0=>rw[Z]at hc;simp only[i8,az]at hc;rw[<-hc];exact VR.wk n (M i c0 v Z I)
  |int k m=>exact .int k m
  |sx k e=>exact .sx k e
  |bool b=>exact .bool b
  |str s l h=>exact .str s l h
  |nilP=>exact .nilP
  |nilM=>exact .nilM
  |nilF=>exact .nilF
  |ptr h=>exact .ptr h
  |iptr vs hF M=>exact .iptr vs hF M
  |sl h U hc=>exact .sl h U hc
  |map h=>exact .map h
  |clo U M=>exact .clo U M
theorem cn.wk{P:Program}{ρ:Nat->Int}{f:FuncId}{Y:List AV}{r:AV}(n:Nat)(h:cn P ρ f Y r):cn P ρ f Y (dE n r):=
 ⟨h.1,fun G w vs i g m=>(h.2 G w vs i g m).mono fun _ _ ⟨v,j,L,o,U⟩=>⟨v,j,L,o.wk n,U⟩⟩
theorem GK{P:Program}{ρ:Nat->Int}{f:FuncId}{Y:List AV}{r z:AV}(n:Nat)(h:cn P ρ f Y r)(e:dE n r=z):cn P ρ f Y z:=e▸h.wk n
variable {P:Program} {cfg:Cfg} {f N:Nat}
theorem Vh{c:SC}{E:au}{H:Hp}{Q:AX->au->Hp->Prop}(cs:List Nat)(h:∀E':au,(∀k∈cs,E'.at k=E.at k)->zbu P cfg f N c E' H Q):zbu P cfg f N c E H Q:=h E fun _ _=>rfl
def cY{z β:Type}(p:z->β->Prop):List z->List β->Prop
 |[],[]=>True
 |a::l,b::m=>p a b/\cY p l m
 |_,_=>False
theorem cY.len{z β:Type}{p:z->β->Prop}:∀{l:List z}{m:List β},cY p l m->l.length=m.length
 |[],[],_=>rfl
 |_::_,_::_,h=>by simp only[cS,cY.len h.2]
theorem cY.mono{z β:Type}{p q:z->β->Prop}(h:∀a b,p a b->q a b):∀{l:List z}{m:List β},cY p l m->cY q l m
 |[],[],_=>trivial
 |_::_,_::_,k=>⟨h _ _ k.1,cY.mono h k.2⟩
theorem cY.append{z β:Type}{p:z->β->Prop}:∀{l:List z}{m:List β}{j:List z}{Z:List β},cY p l m->cY p j Z->cY p (l++j) (m++Z)
 |[],[],_,_,_,h=>h
 |_::_,_::_,_,_,h,k=>⟨h.1,cY.append h.2 k⟩
theorem cY.refl{z:Type}{p:z->z->Prop}:∀{l:List z},(∀a∈l,p a a)->cY p l l
 |[],_=>trivial
 |a::l,h=>⟨h a eQ,cY.refl fun b o=>h b (fH _ o)⟩
def GL(v:AV):Prop:=eL v/\match v with
 | .sl _ _ _ _|.agg _=>False
 |_=>True
def zbS(S:Nat->Prop):Nat->Hp->AV->AV->Prop
 |0,_,_,_=>False
 |n+1,H,v,u=>match v with
  | .sl r K g z=>S r/\r<H.next/\∃Z L Y l,H.get r=some (.cells Z L Y)/\L<=Z.length/\K+g*z<=Z.length/\cY (zbS S n H) ((Z.drop K).take (g*z)) l/\u=.lst (iz z g l)
  | .agg Z=>∃U,cY (zbS S n H) Z U/\u=.agg U
  |v=>eL v/\u=v
theorem zbS.flat{S:Nat->Prop}{n:Nat}{H:Hp}{v:AV}(h:GL v):zbS S (n+1) H v v:=by
 cases v<;>first|exact h.2.elim|exact⟨h.1,rfl⟩
theorem zbS.up{S:Nat->Prop}{H:Hp}:∀{n m:Nat}{v u:AV},zbS S n H v u->n<=m->zbS S m H v u
 |0,_,_,_,h,_=>h.elim
 |n+1,0,_,_,_,hm=>by omega
 |n+1,m+1,v,u,h,hm=>by
  cases v with
  |sl r K I z=>
   obtain⟨i,J,Y,L,g,l,Z,V,U,o,O⟩:=h;exact⟨i,J,Y,L,g,l,Z,V,U,o.mono fun a b k=>zbS.up k ac,O⟩
  |agg Y=>
   obtain⟨M,i,Z⟩:=h;exact⟨M,i.mono fun a b k=>zbS.up k ac,Z⟩
  |_=>exact h
def qU(a b:Option HB):Prop:=a=b\/∃Z i j g,a=some (.cells Z i g)/\b=some (.cells Z j g)/\(i<=Z.length->j<=Z.length)
theorem qU.trans{a b c:Option HB}(h:qU a b)(k:qU b c):qU a c:=by
 rcases h with rfl|⟨Z,i,j,g,rfl,rfl,h⟩
 .exact k
 .rcases k with rfl|⟨V,J,Y,M,e,rfl,k⟩
  .exact .inr ⟨Z,i,j,g,rfl,rfl,h⟩
  .simp only[az,HB.cells.injEq]at e;obtain⟨rfl,rfl,rfl⟩:=e;exact .inr ⟨Z,i,Y,g,rfl,rfl,fun q=>k (h q)⟩
theorem zbS.frame2{S S':Nat->Prop}{H H':Hp}(hS:∀k,k<H.next->S k->S' k)(M:H.next<=H'.next)(V:∀k,S k->k<H.next->qU (H.get k) (H'.get k)):∀{n:Nat}{v u:AV},zbS S n H v u->zbS S' n H' v u
 |0,_,_,h=>h.elim
 |n+1,v,u,h=>by
  cases v with
  |sl r off len z=>
   obtain⟨Z,J,U,L,g,l,Y,m,K,h5,C⟩:=h;have I:=h5.mono fun a b k=>zbS.frame2 hS M V k;rcases V r Z J with e|⟨cs',i,j,o,O,e2,e3⟩
   .exact⟨hS r J Z,ac,U,L,g,l,by rw[<-e];exact Y,m,K,I,C⟩
   .rw[Y]at O;simp only[az,HB.cells.injEq]at O;obtain⟨rfl,rfl,rfl⟩:=O;exact⟨hS r J Z,ac,U,j,g,l,e2,e3 m,K,I,C⟩
  |agg U=>
   obtain⟨ds,Z,Y⟩:=h;exact⟨ds,Z.mono fun a b k=>zbS.frame2 hS M V k,Y⟩
  |_=>exact h
theorem zbS.frame{S S':Nat->Prop}(hS:∀k,S k->S' k){H H':Hp}(U:H.next<=H'.next)(Z:∀k,S k->k<H.next->qU (H.get k) (H'.get k)){n:Nat}{v u:AV}(h:zbS S n H v u):zbS S' n H' v u:=h.frame2 (fun k _ q=>hS k q) U Z
structure Icy (S:Nat->Prop) (H H':Hp):Prop where
 next:H'.next=H.next
 out:∀k,¬S k->H'.get k=H.get k
 same:∀k,qU (H.get k) (H'.get k)
theorem Icy.refl(S:Nat->Prop)(H:Hp):Icy S H H:=⟨rfl,fun _ _=>rfl,fun _=>.inl rfl⟩
theorem Icy.trans{S:Nat->Prop}{a b c:Hp}(h:Icy S a b)(k:Icy S b c):Icy S a c:=⟨k.next.trans h.next,fun r hr=>(k.out r hr).trans (h.out r hr),fun r=>(h.same r).trans (k.same r)⟩
theorem Icy.ic{S S':Nat->Prop}{H H':Hp}(h:Icy S H H'){n:Nat}{v u:AV}(k:zbS S' n H v u):zbS S' n H' v u:=k.frame (fun _ q=>q) (pW h.next.symm) fun r _ _=>h.same r
theorem yB{S:Nat->Prop}{n:Nat}(ih:∀{v u:AV}{H:Hp},zbS S n H v u->∃H',iY n v H=some (u,H')/\Icy S H H'):∀{l m:List AV}{H:Hp},cY (zbS S n H) l m->∃H',kG (iY n) l H=some (m,H')/\Icy S H H'
 |[],[],H,_=>⟨H,rfl,Icy.refl S H⟩
 |a::l,b::m,H,h=>by
  obtain⟨H1,i,g⟩:=ih h.1;obtain⟨Z,Y,L⟩:=yB ih (l:=l) (m:=m) (H:=H1) (h.2.mono fun a b k=>g.ic k);exact⟨Z,by simp only[kG,i,Y],g.trans L⟩
theorem zbS.ice{S:Nat->Prop}:∀{n:Nat}{v u:AV}{H:Hp},zbS S n H v u->∃H',iY n v H=some (u,H')/\Icy S H H'
 |0,_,_,_,h=>h.elim
 |n+1,v,u,H,h=>by
  cases v with
  |sl r K g z=>
   obtain⟨i,h0,Z,L,Y,l,V,m,O,M,rfl⟩:=h;have C:Icy S H (H.set r (.cells Z (max L (K+g*z)) Y)):=by
    refine⟨rfl,fun k j=>by rw[aC,af (fun e=>j (by rw[e];exact i))],fun k=>?_⟩;rw[aC];split
    .rename_i e;subst e;exact .inr ⟨Z,L,max L (K+g*z),Y,V,rfl,fun _=>ac⟩
    .exact .inl rfl
   obtain⟨H',J,I⟩:=yB (fun k=>zbS.ice k) (M.mono fun a b k=>C.ic k);refine⟨H',?_,C.trans I⟩;have e:iY (n+1) (.sl r K g z) H=match H.get r with
    |some (.cells Z L Y)=>match Nat.ble (K+g*z) Z.length&&Nat.ble L Z.length with
     |true=>match kG (iY n) ((Z.drop K).take (g*z)) (H.set r (.cells Z (max L (K+g*z)) Y))with
      |some (l',H)=>some (.lst (iz z g l'),H)
      |none=>none
     |false=>none
    |_=>none:=rfl
   rw[e,V];have e1:Nat.ble (K+g*z) Z.length=true:=by rw[Nat.ble_eq];exact O
   have e2:Nat.ble L Z.length=true:=by rw[Nat.ble_eq];exact m
   simp only[e1,e2,xH,J]
  |agg Z=>
   obtain⟨U,i,rfl⟩:=h;obtain⟨H',V,m⟩:=yB (fun k=>zbS.ice k) i;refine⟨H',?_,m⟩;have e:iY (n+1) (.agg Z) H=match kG (iY n) Z H with
    |some (U,H)=>some (.agg U,H)
    |none=>none:=rfl
   rw[e,V]
  |ptr r o=>
   obtain⟨k,j⟩:=h.1;exact absurd (j (k+1) ac H) (by simp[iceV])
  |map r=>
   obtain⟨k,j⟩:=h.1;exact absurd (j (k+1) ac H) (by simp[iceV])
  |_=>exact⟨H,by rw[show u=_ from h.2];rfl,Icy.refl S H⟩
theorem zbS.iceL{S:Nat->Prop}{n:Nat}{l m:List AV}{H:Hp}(h:cY (zbS S n H) l m):∃H',kG (iY n) l H=some (m,H')/\Icy S H H':=yB (fun k=>zbS.ice k) h
theorem yC{S:Nat->Prop}{n:Nat}{H:Hp}(ih:∀{v u:AV},zbS S n H v u->∃I,∀m,I<=m->iceV H m v=some u):∀{l k:List AV},cY (zbS S n H) l k->∃I,∀m,I<=m->iceL (iceV H m) l=some k
 |[],[],_=>⟨0,fun _ _=>rfl⟩
 |a::l,b::k,h=>by
  obtain⟨zbL,i⟩:=ih h.1;obtain⟨Y,g⟩:=yC ih (l:=l) (k:=k) h.2;exact⟨max zbL Y,fun m V=>by simp only[iceL,i m ac,g m ac]⟩
theorem zbS.iceV{S:Nat->Prop}{H:Hp}:∀{n:Nat}{v u:AV},zbS S n H v u->∃I,∀m,I<=m->iceV H m v=some u
 |0,_,_,h=>h.elim
 |n+1,v,u,h=>by
  cases v with
  |sl r K g z=>
   obtain⟨i,h0,Z,L,Y,l,O,h3,h4,o,rfl⟩:=h;obtain⟨I,J⟩:=yC (fun k=>zbS.iceV k) o;refine⟨I+1,fun m V=>?_⟩;obtain⟨m,rfl⟩:∃k,m=k+1:=⟨m-1,ac⟩;have e:Ab.iceV H (m+1) (.sl r K g z)=match H.get r with
    |some (.cells Z _ _)=>match Ab.iceL (Ab.iceV H m) ((Z.drop K).take (g*z))with
     |some j=>if j.length=g*z then some (.lst (iz z g j))else none
     |none=>none
    |_=>none:=rfl
   have C:l.length=g*z:=by rw[<-o.len,jr,js];omega
   rw[e,O];simp only[J m ac,C,cZ]
  |agg Z=>
   obtain⟨U,i,rfl⟩:=h;obtain⟨I,J⟩:=yC (fun k=>zbS.iceV k) i;refine⟨I+1,fun m V=>?_⟩;obtain⟨m,rfl⟩:∃k,m=k+1:=⟨m-1,ac⟩;have e:Ab.iceV H (m+1) (.agg Z)=match Ab.iceL (Ab.iceV H m) Z with
    |some U=>some (.agg U)
    |none=>none:=rfl
   rw[e,J m ac]
  |_=>
   obtain⟨k,M⟩:=h.1;exact⟨k,fun m V=>by rw[M m V H,h.2]⟩
theorem GM(z:Nat):∀(O:List (List AV)),(∀r∈O,r.length=z)->iz z O.length O.flatten=O
 |[],_=>rfl
 |r::O,h=>by
  have i:=h r eQ;rw[pH,cS];show(r++O.flatten).take z::iz z O.length ((r++O.flatten).drop z)=_;rw[AB ac,eI ac,AT ac,AC ac,oD,GM z O fun q I=>h q (fH _ I)]
theorem yD{z:Nat}:∀{O:List (List AV)},(∀r∈O,r.length=z)->O.flatten.length=O.length*z
 |[],_=>by simp
 |r::O,h=>by
  rw[pH,fy,h r eQ,yD fun q I=>h q (fH _ I),cS,uN];omega
theorem cY.flat{p:AV->AV->Prop}:∀{a b:List (List AV)},cY (cY p) a b->cY p a.flatten b.flatten
 |[],[],_=>trivial
 |_::_,_::_,h=>by rw[pH,pH];exact h.1.append (cY.flat h.2)
theorem cY.rowlen{p:AV->AV->Prop}{z:Nat}:∀{a b:List (List AV)},cY (cY p) a b->(∀r∈a,r.length=z)->∀r∈b,r.length=z
 |[],[],_,_,r,hr=>by simp at hr
 |x::a,y::b,h,hz,r,hr=>by
  rcases fz.1 hr with rfl|hr
  .rw[<-h.1.len];exact hz x eQ
  .exact cY.rowlen h.2 (fun q I=>hz q (fH _ I)) r hr
theorem zbS.rows{S:Nat->Prop}{n:Nat}{H:Hp}{r z imm:Nat}{tip:Bool}{a b:List (List AV)}(hS:S r)(hr:r<H.next)(C:H.get r=some (.cells a.flatten imm tip))(Z:imm<=a.flatten.length)(j:∀x∈a,x.length=z)(h:cY (cY (zbS S n H)) a b):zbS S (n+1) H (.sl r 0 a.length z) (.lst b):=by
 have K:=yD j;refine⟨hS,hr,a.flatten,imm,tip,b.flatten,C,Z,ac,?_,?_⟩
 .rw[fT,eI ac];exact h.flat
 .rw[h.len,GM z b (h.rowlen j)]
end Go.Ab
namespace Go.Proofs.Ytpbcimfiofmoeaa
set_option maxRecDepth 20000
open Go Go.Ab
def hY(H:Hp)(v:AV)(l:List Int)(lo:Nat):Prop:=∃r L,v=.sl r 0 l.length 1/\H.get r=some (.cells (l.map (.int .i64)) L true)/\L<=l.length/\lo<=r/\r<H.next
def iM(H:Hp)(v:AV)(l:List Int)(lo:Nat):Prop:=(v=.nilS/\l=[])\/hY H v l lo
theorem hY.low{H H':Hp}{v:AV}{l:List Int}{lo:Nat}(h:hY H v l lo)(U:H.next<=H'.next)(C:∀k,lo<=k->k<H.next->H'.get k=H.get k):hY H' v l lo:=by
 obtain⟨r,L,i,g,m,Z,o⟩:=h;exact⟨r,L,i,by rw[C r Z o];exact g,m,Z,ac⟩
theorem hY.lt{H:Hp}{v:AV}{l:List Int}{lo:Nat}(h:hY H v l lo){k:Nat}(j:zbv v k):lo<=k/\k<H.next:=by
 obtain⟨r,L,rfl,_,_,Z,o⟩:=h;obtain⟨n,e⟩:=j;simp only[AV.sl.injEq]at e;rw[<-e.1];exact⟨Z,o⟩
theorem iM.lt{H:Hp}{v:AV}{l:List Int}{lo:Nat}(h:iM H v l lo){k:Nat}(j:zbv v k):lo<=k/\k<H.next:=by
 rcases h with⟨rfl,_⟩|h
 .obtain⟨n,e⟩:=j;simp at e
 .exact h.lt j
theorem hY.keep{H H':Hp}{v:AV}{l:List Int}{lo:Nat}(h:hY H v l lo)(U:H.next<=H'.next)(C:∀k,zbv v k->H'.get k=H.get k):hY H' v l lo:=by
 obtain⟨r,L,rfl,g,m,Z,o⟩:=h;exact⟨r,L,rfl,yz,m,Z,ac⟩
theorem iM.keep{H H':Hp}{v:AV}{l:List Int}{lo:Nat}(h:iM H v l lo)(U:H.next<=H'.next)(C:∀k,zbv v k->H'.get k=H.get k):iM H' v l lo:=h.imp id fun h=>h.keep U C
theorem yE(l:List Int):(l.map (AV.int .i64)).all AV.one=true:=by simp[AV.one]
theorem tL{H:Hp}{r imm:Nat}{m:List Int}(h:H.get r=some (.cells (m.map (.int .i64)) imm true)):zcM H 1 (.sl r 0 m.length 1)=some (m.length,m.map (.int .i64)):=by
 have:=sf (H:=H) (r:=r) (o:=0) (n:=m.length) (z:=1) (s:=1) h aw;rw[this,fT,eI aw]
theorem GN{H:Hp}{v x:AV}{l m:List Int}{lo:Nat}(M:iM H v l lo)(Z:lo<=H.next)(I:zcM H 1 x=some (m.length,m.map (.int .i64)))(O:m≠[])(o:l.length+m.length<2^40):
 ∃z H',zcg Try.prog false H 23 23 v x=some (z,H')/\hY H' z (l++m) lo/\H'.next=H.next+1/\(∀k,k<lo->H'.get k=H.get k)/\qT v z H H':=by
 obtain⟨n,hn⟩:∃n,m.length=n+1:=⟨m.length-1,Ci⟩;have L:zcw=70368744177664:=rfl;rw[hn]at I;rcases M with⟨rfl,rfl⟩|⟨r,Y,rfl,g,J,C,i⟩
 .refine⟨.sl H.next 0 (n+1) 1,H.alloc (.cells (m.map (.int .i64)) 0 true),append_nil Try.underlying23 jK nU nV ah I (yE m) rfl iD iD,⟨H.next,0,qS,gK,ac,Z,cJ _⟩,rfl,fun k j=>fS,fun k j _=>fS,fun k j=>.inr ?_⟩;obtain⟨K,e⟩:=j;simp only[AV.sl.injEq]at e;omega
 .have U:gR false H 1 (.sl r 0 l.length 1)=H:=by
   unfold gR;simp only[g,b4,cD,nN];have:Nat.blt l.length l.length=false:=by
    cases o:Nat.blt l.length l.length with
    |false=>rfl
    |true=>rw[i4]at o;omega
   simp[this]
  refine⟨.sl H.next 0 (l.length+(n+1)) 1,(H.kill r).alloc (.cells (l.map (.int .i64)++m.map (.int .i64)) (Y-0) true),?_,⟨H.next,Y,qS,?_,cc,Z,cJ _⟩,rfl,fun k j=>?_,fun k j V=>?_,fun k j=>.inr ?_⟩
  .simp only[zcg,Try.underlying23,jK,nU,nV,show jp Try.prog 23=true by kernel_rfl,I,yE,U,oK,cZ,cS,ed,zdB,g,cD,b4,nN,fT];rw[aj ⟨iD,iD,trivial,trivial,J⟩];simp
  .show((H.kill r).alloc _).get (H.kill r).next=_
   rw[zaY,aj rfl];simp
  .rw[zaY,af lC,zcW,af ac]
  .rw[zaY,af lC,zcW,af (fun e=>V ⟨_,m0⟩)]
  .obtain⟨K,e⟩:=j;simp only[AV.sl.injEq]at e;omega
theorem GO{H:Hp}{v:AV}{l:List Int}{lo r imm:Nat}(s:Int)(M:iM H v l lo)(Z:lo<=H.next)(J:H.get r=some (.cells [.int .i64 s] imm true))(o:l.length<2^39):
 ∃z H',zcg Try.prog false H 23 23 v (.sl r 0 1 1)=some (z,H')/\hY H' z (l++[s]) lo/\H'.next=H.next+1/\(∀k,k<lo->H'.get k=H.get k)/\qT v z H H':=
 GN M Z (tL (m:=[s]) J) aw cc
theorem GP{H:Hp}{v w:AV}{l m:List Int}{lo lo':Nat}(M:hY H v l lo)(Y:lo<=H.next)(U:iM H w m lo')(o:l.length+m.length<2^40):
 ∃z H',zcg Try.prog false H 23 23 v w=some (z,H')/\hY H' z (l++m) lo/\H.next<=H'.next/\(∀k,k<lo->H'.get k=H.get k)/\qT v z H H':=by
 by_cases V:m=[]
 .subst V;refine⟨v,H,?_,by rw[aR];exact M,aA _,fun _ _=>rfl,fun _ _ _=>rfl,fun _ h=>.inl h⟩;obtain⟨r,K,rfl,g,_⟩:=M;rcases U with⟨rfl,_⟩|⟨I,Z,rfl,O,_⟩
  .simp only[zcg,Try.underlying23,jK,nU,nV,show jp Try.prog 23=true by kernel_rfl,zcM]
  .have L:=tL O;simp only[ed]at L;simp only[zcg,Try.underlying23,jK,nU,nV,show jp Try.prog 23=true by kernel_rfl,ed,L]
 .rcases U with⟨_,h⟩|⟨I,Z,rfl,O,_⟩
  .exact(V h).elim
  .obtain⟨z,H',i,g,C,J⟩:=GN (.inr M) Y (tL O) V o;exact⟨z,H',i,g,ac,J⟩
theorem hY.len{H H':Hp}{v:AV}{l:List Int}{lo:Nat}(h:hY H v l lo):zbO Try.prog H' 23 v=some (.int .i64 l.length):=by
 obtain⟨r,L,rfl,_⟩:=h;exact zdk Try.underlying23 _ _ _ _
theorem hY.at{H:Hp}{v:AV}{l:List Int}{lo:Nat}(h:hY H v l lo){i:Nat}(z:i<l.length):
 ∃r,zb1 Try.prog 23 v (.int .i64 (i:Int))=some (.ptr r i)/\ip Try.prog H 3 (.ptr r i)=some (.int .i64 l[i]):=by
 obtain⟨r,L,rfl,g,_⟩:=h;refine⟨r,?_,?_⟩
 .rw[x4 Try.underlying23 jK z];simp
 .rw[BK Try.underlying3 rfl g,gl,aY z];rfl
def ss(H:Hp)(v:AV)(l:List Int)(lo:Nat):Prop:=∃r,v=.sl r 0 l.length 1/\H.get r=some (.cells (l.map (.int .i64)) 0 true)/\lo<=r/\r<H.next
def hZ(H:Hp)(v:AV)(l:List Int)(lo:Nat):Prop:=(v=.nilS/\l=[])\/ss H v l lo
theorem ss.b{H:Hp}{v:AV}{l:List Int}{lo:Nat}(h:ss H v l lo):hY H v l lo:=by
 obtain⟨r,i,g,m,L⟩:=h;exact⟨r,0,i,g,dg _,m,L⟩
theorem hZ.n{H:Hp}{v:AV}{l:List Int}{lo:Nat}(h:hZ H v l lo):iM H v l lo:=h.imp id fun h=>h.b
theorem ss.keep{H H':Hp}{v:AV}{l:List Int}{lo:Nat}(h:ss H v l lo)(U:H.next<=H'.next)(C:∀k,zbv v k->H'.get k=H.get k):ss H' v l lo:=by
 obtain⟨r,rfl,g,L,o⟩:=h;exact⟨r,rfl,yz,L,ac⟩
theorem hZ.keep{H H':Hp}{v:AV}{l:List Int}{lo:Nat}(h:hZ H v l lo)(U:H.next<=H'.next)(C:∀k,zbv v k->H'.get k=H.get k):hZ H' v l lo:=h.imp id fun h=>h.keep U C
theorem GQ{H:Hp}{v x:AV}{l m:List Int}{lo:Nat}(M:hZ H v l lo)(Z:lo<=H.next)(I:zcM H 1 x=some (m.length,m.map (.int .i64)))(U:m≠[])(o:l.length+m.length<2^40):
 ∃z H',zcg Try.prog false H 23 23 v x=some (z,H')/\ss H' z (l++m) lo/\H'.next=H.next+1/\(∀k,k<lo->H'.get k=H.get k)/\qT v z H H':=by
 obtain⟨n,hn⟩:∃n,m.length=n+1:=⟨m.length-1,by have:=tH.2 U;omega⟩;have L:zcw=70368744177664:=rfl;rw[hn]at I;rcases M with⟨rfl,rfl⟩|⟨r,rfl,g,K,J⟩
 .refine⟨.sl H.next 0 (n+1) 1,H.alloc (.cells (m.map (.int .i64)) 0 true),append_nil Try.underlying23 jK nU nV ah I (yE m) rfl iD iD,⟨H.next,qS,gK,Z,cJ _⟩,rfl,fun k j=>fS,fun k j _=>fS,fun k j=>.inr ?_⟩;obtain⟨O,e⟩:=j;simp only[AV.sl.injEq]at e;omega
 .have V:gR false H 1 (.sl r 0 l.length 1)=H:=by
   unfold gR;simp only[g,b4,cD,nN];have:Nat.blt l.length l.length=false:=by
    cases o:Nat.blt l.length l.length with
    |false=>rfl
    |true=>rw[i4]at o;omega
   simp[this]
  refine⟨.sl H.next 0 (l.length+(n+1)) 1,(H.kill r).alloc (.cells (l.map (.int .i64)++m.map (.int .i64)) (0-0) true),?_,⟨H.next,qS,?_,Z,cJ _⟩,rfl,fun k j=>?_,fun k j Y=>?_,fun k j=>.inr ?_⟩
  .simp only[zcg,Try.underlying23,jK,nU,nV,show jp Try.prog 23=true by kernel_rfl,I,yE,V,oK,cZ,cS,ed,zdB,g,cD,b4,nN,fT];rw[aj ⟨iD,iD,trivial,trivial,dg _⟩];simp
  .show((H.kill r).alloc _).get (H.kill r).next=_
   rw[zaY,aj rfl];simp
  .rw[zaY,af lC,zcW,af ac]
  .rw[zaY,af lC,zcW,af (fun e=>Y ⟨_,m0⟩)]
  .obtain⟨O,e⟩:=j;simp only[AV.sl.injEq]at e;omega
theorem Vi(n:Nat):mK [.bool false] n=(List.replicate n false).map .bool:=by
 induction n with
 |zero=>rfl
 |succ n ih=>simp only[mK,ih];simp[List.replicate_succ]
theorem Vj{H:Hp}(n:Nat)(Z:n<2^40):zdC Try.prog H 107 (.int .i64 n) (.int .i64 n)=some (.sl H.next 0 n 1,H.alloc (.cells ((List.replicate n false).map .bool) 0 true)):=by
 have V:zcw=70368744177664:=rfl;show zdC Try.prog H 107 (.int .i64 (Int.ofNat n)) (.int .i64 (Int.ofNat n))=_;simp only[zdC,Try.underlying107,yb,FG,FH];rw[aj ⟨aA _,by rw[V];omega,by rw[V];omega,rfl⟩,Vi]
theorem splice_one(cs:List AV){o:Nat}(Y:o<cs.length)(x:AV):splice cs o [x]=cs.set o x:=by
 rw[Fx,List.set_eq_take_append_cons_drop,aj Y];simp
theorem Vk{H:Hp}{r o:Nat}{cs:List AV}(C:H.get r=some (.cells cs 0 true))(Y:o<cs.length)(n:Int):lV Try.prog H 3 (.ptr r o) (.int .i64 n)=some (H.set r (.cells (cs.set o (.int .i64 n)) 0 true)):=by
 rw[BM,C,jK,BL,cells_int,splice_one cs Y,aj ⟨rfl,dg _,Y,rfl⟩]
theorem Vl{H:Hp}{r o:Nat}{cs:List AV}(C:H.get r=some (.cells cs 0 true))(Y:o<cs.length)(b:Bool):lV Try.prog H 4 (.ptr r o) (.bool b)=some (H.set r (.cells (cs.set o (.bool b)) 0 true)):=by
 rw[BM,C,yb,BL,Fy,splice_one cs Y,aj ⟨rfl,dg _,Y,rfl⟩]
def ki(H:Hp)(v:AV)(l:List Int)(lo:Nat):Prop:=∃r L,v=.sl r 0 l.length 1/\H.get r=some (.cells (l.map (.int .u8)) L true)/\L<=l.length/\lo<=r/\r<H.next
def Cl(H:Hp)(v:AV)(l:List Int)(lo:Nat):Prop:=(v=.nilS/\l=[])\/ki H v l lo
theorem ki.low{H H':Hp}{v:AV}{l:List Int}{lo:Nat}(h:ki H v l lo)(U:H.next<=H'.next)(C:∀k,lo<=k->k<H.next->H'.get k=H.get k):ki H' v l lo:=by
 obtain⟨r,L,i,g,m,Z,o⟩:=h;exact⟨r,L,i,by rw[C r Z o];exact g,m,Z,ac⟩
theorem ki.lt{H:Hp}{v:AV}{l:List Int}{lo:Nat}(h:ki H v l lo){k:Nat}(j:zbv v k):lo<=k/\k<H.next:=by
 obtain⟨r,L,rfl,_,_,Z,o⟩:=h;obtain⟨n,e⟩:=j;simp only[AV.sl.injEq]at e;rw[<-e.1];exact⟨Z,o⟩
theorem ki.keep{H H':Hp}{v:AV}{l:List Int}{lo:Nat}(h:ki H v l lo)(U:H.next<=H'.next)(C:∀k,zbv v k->H'.get k=H.get k):ki H' v l lo:=by
 obtain⟨r,L,rfl,g,m,Z,o⟩:=h;exact⟨r,L,rfl,yz,m,Z,ac⟩
theorem GR(l:List Int):(l.map (AV.int .u8)).all AV.one=true:=by simp[AV.one]
theorem Vm{H:Hp}{r imm:Nat}{m:List Int}(h:H.get r=some (.cells (m.map (.int .u8)) imm true)):zcM H 1 (.sl r 0 m.length 1)=some (m.length,m.map (.int .u8)):=by
 have:=sf (H:=H) (r:=r) (o:=0) (n:=m.length) (z:=1) (s:=1) h aw;rw[this,fT,eI aw]
theorem Vn{H:Hp}{v x:AV}{l m:List Int}{lo:Nat}(M:Cl H v l lo)(Z:lo<=H.next)(I:zcM H 1 x=some (m.length,m.map (.int .u8)))(O:m≠[])(o:l.length+m.length<2^40):
 ∃z H',zcg Try.prog false H 61 61 v x=some (z,H')/\ki H' z (l++m) lo/\H'.next=H.next+1/\(∀k,k<lo->H'.get k=H.get k)/\qT v z H H':=by
 obtain⟨n,hn⟩:∃n,m.length=n+1:=⟨m.length-1,Ci⟩;have L:zcw=70368744177664:=rfl;rw[hn]at I;rcases M with⟨rfl,rfl⟩|⟨r,Y,rfl,g,J,C,i⟩
 .refine⟨.sl H.next 0 (n+1) 1,H.alloc (.cells (m.map (.int .u8)) 0 true),append_nil Try.underlying61 BS BT BU ah I (GR m) rfl iD iD,⟨H.next,0,qS,gK,ac,Z,cJ _⟩,rfl,fun k j=>fS,fun k j _=>fS,fun k j=>.inr ?_⟩;obtain⟨K,e⟩:=j;simp only[AV.sl.injEq]at e;omega
 .have U:gR false H 1 (.sl r 0 l.length 1)=H:=by
   unfold gR;simp only[g,b4,cD,nN];have:Nat.blt l.length l.length=false:=by
    cases o:Nat.blt l.length l.length with
    |false=>rfl
    |true=>rw[i4]at o;omega
   simp[this]
  refine⟨.sl H.next 0 (l.length+(n+1)) 1,(H.kill r).alloc (.cells (l.map (.int .u8)++m.map (.int .u8)) (Y-0) true),?_,⟨H.next,Y,qS,?_,cc,Z,cJ _⟩,rfl,fun k j=>?_,fun k j V=>?_,fun k j=>.inr ?_⟩
  .simp only[zcg,Try.underlying61,BS,BT,BU,show jp Try.prog 61=true by kernel_rfl,I,GR,U,oK,cZ,cS,ed,zdB,g,cD,b4,nN,fT];rw[aj ⟨iD,iD,trivial,trivial,J⟩];simp
  .show((H.kill r).alloc _).get (H.kill r).next=_
   rw[zaY,aj rfl];simp
  .rw[zaY,af lC,zcW,af ac]
  .rw[zaY,af lC,zcW,af (fun e=>V ⟨_,m0⟩)]
  .obtain⟨K,e⟩:=j;simp only[AV.sl.injEq]at e;omega
theorem Vo{H:Hp}{v:AV}{l:List Int}{lo r imm:Nat}(s:Int)(M:Cl H v l lo)(Z:lo<=H.next)(J:H.get r=some (.cells [.int .u8 s] imm true))(o:l.length<2^39):
 ∃z H',zcg Try.prog false H 61 61 v (.sl r 0 1 1)=some (z,H')/\ki H' z (l++[s]) lo/\H'.next=H.next+1/\(∀k,k<lo->H'.get k=H.get k)/\qT v z H H':=
 Vn M Z (Vm (m:=[s]) J) aw cc
theorem GS(H:Hp)(n:Int):zcv Try.prog H 61 1 [(0,.int .u8 n)]=some (.sl H.next 0 1 1,H.alloc (.cells [.int .u8 n] 0 true)):=ah
theorem bin_shr{D:BinOp->Sx->Sx->Option Bool}{t:TypeId}{k z:IntKind}{a:Int}{m:Nat}(h:m<64)(j:k=.u64):zcq Try.prog D .shr t (.int k a) (.int z (m:Int))=some (.int k (a.fdiv (2^ m))):=by
 subst j;have e:zcq Try.prog D .shr t (.int .u64 a) (.int z (Int.ofNat m))=some (.int .u64 (a.fdiv (2^ min m 64))):=rfl;rw[show min m 64=m by omega]at e;exact e
def kV(n:Int)(i:Nat):Int:=IntKind.wrap .u8 (n.fdiv (2^ (8*i)))
def jV(n:Int)(i:Nat):List Int:=(List.range i).map (kV n)
theorem pZ(n:Int)(i:Nat):(jV n i).length=i:=by simp[jV]
theorem Vp(n:Int)(i:Nat):jV n (i+1)=jV n i++[kV n i]:=by simp[jV,List.range_succ]
def qV(l:List Int):List UInt8:=l.map fun n=>UInt8.ofNat n.toNat
end Go.Proofs.Ytpbcimfiofmoeaa
namespace Go.Ab
set_option maxRecDepth 20000
open Go
instance:DecidableEq Nd:=fun x y=>decidable_of_iff (x.op=y.op/\x.imm=y.imm/\x.kids=y.kids) (by cases x;cases y;simp)
def ig(op:Int):Int×Bool:=
 if op=1\/op=2\/op=3\/op=26 then (0,true)
 else if op=20\/op=21\/op=24\/op=25 then (1,true)
 else if op=23\/op=27\/op=29 then (2,true)
 else if op=22\/op=28 then (3,true)
 else if op=30\/op=31 then (-1,true)
 else if 4<=op/\op<=19 then (2,true)
 else (0,false)
def oV(n:Int):Int:=(n-1).tdiv 2
def yF(l:List Nd)(k:Int):Int:=match l[k.toNat]? with
 |some n=>n.kids.length
 |none=>0
def jM(l:List Nd)(n:Nd):Int:=
 if n.op=2 then 5 else if n.op=3 then 255 else if n.op=23\/n.op=28 then 3 else if n.op=30 then 7 else if n.op=31 then 15
 else if n.op=25 then oV (yF l (n.kids.headD 0))-1 else 0
def eS(l:List Nd)(n:Nd):Bool:=
 if n.op=1 then true
 else if n.op=27 then decide (1<=n.imm)&&decide (n.imm<=1000016)
 else decide (0<=n.imm)&&decide (n.imm<=jM l n)
def lE(op:Int):List Int:=
 if op=22 then [1,1,1]else if op=23\/op=27\/op=29 then [2,1]else if op=28 then [2,1,1]else if op=24 then [2]else if op=25 then [3]else [1,1]
def zcV:List Int->List Int->Bool
 |[],_=>true
 |a::s,w=>decide (a=w.headD 0)&&zcV s w.tail
def yG(n:Nat):List Int:=((List.replicate n (1:Int)).set 0 2).set (oV n+1).toNat 2
def zcH(op:Int)(s:List Int):Bool:=
 if (ig op).2=false then false
 else if 0<=(ig op).1/\(ig op).1≠s.length then false
 else if op=31 then decide (3<=s.length)&&decide (s.length%2=1)&&decide (oV s.length<=16)&&zcV s (yG s.length)
 else if op=30 then decide (1<=s.length)&&decide (s.length<=7)&&decide (s.headD 0=2)&&s.tail.all fun x=>decide (x=1)
 else if op=22/\s.getD 1 0=2 then decide (s.headD 0=1)&&decide (s.getD 2 0=2)
 else zcV s (lE op)
def jN(i:Nat)(C:List Int):List Int->Option (List Int)
 |[]=>some []
 |k::ks=>if k<0\/(i:Int)<=k\/C.getD k.toNat 0=0 then none else (jN i C ks).map fun s=>C.getD k.toNat 0::s
def jy(n:Nd)(s:List Int):Int:=
 if n.op=31 then 3
 else if n.op=26\/n.op=27\/n.op=28\/n.op=29\/n.op=30 then 2
 else if n.op=22 then s.getD 1 0
 else if n.op=3/\n.imm.tmod 16=0 then 2
 else if n.op=25/\n.imm=0 then 2
 else 1
def oW(l:List Nd)(i:Nat)(C:List Int):Int:=match l[i]? with
 |none=>0
 |some n=>match jN i C n.kids with
  |none=>0
  |some s=>if zcH n.op s&&eS l n then jy n s else 0
def zc1(l:List Nd):Nat->List Int
 |0=>[]
 |i+1=>zc1 l i++[oW l i (zc1 l i)]
def jf(l:List Nd)(i:Int):Int:=if i<0\/(l.length:Int)<=i then 0 else (zc1 (l.take (i.toNat+1)) (i.toNat+1)).getD i.toNat 0
theorem yH(l:List Nd):∀i,(zc1 l i).length=i
 |0=>rfl
 |i+1=>by rw[zc1,fy,yH l i];rfl
theorem Cm(l:List Nd):∀{i j:Nat},j<i->(zc1 l i).getD j 0=oW l j (zc1 l j)
 |0,j,h=>by omega
 |i+1,j,h=>by
  rw[zc1];by_cases e:j<i
  .rw[eR,lZ (by rw[yH];exact e),<-eR];exact Cm l e
  .obtain rfl:j=i:=by omega
   rw[eR,mS (by rw[yH];omega),yH,qI];rfl
theorem yI{i:Nat}{C:List Int}:∀{L s:List Int},jN i C L=some s->∀k∈L,0<=k/\k<i/\C.getD k.toNat 0≠0
 |[],s,_,k,h=>by simp at h
 |a::L,s,h,k,j=>by
  rw[jN]at h;split at h
  .cases h
  .rename_i c;obtain⟨t,M,_⟩:=oE.1 h;rcases fz.1 j with rfl|j
   .omega
   .exact yI M k j
theorem Cn{i:Nat}{C:List Int}:∀{L s:List Int},jN i C L=some s->s.length=L.length
 |[],s,h=>by cases h;rfl
 |a::L,s,h=>by
  rw[jN]at h;split at h
  .cases h
  .obtain⟨t,M,rfl⟩:=oE.1 h;rw[cS,cS,Cn M]
theorem Vq{l:List Nd}{i:Nat}{C:List Int}{n:Nd}(U:l[i]?=some n)(h:oW l i C≠0):∃s,jN i C n.kids=some s/\zcH n.op s=true/\eS l n=true:=by
 unfold oW at h;rw[U]at h;simp only at h;split at h
 .exact absurd rfl h
 .rename_i s J;split at h
  .rename_i c;rw[bT]at c;exact⟨s,J,c.1,c.2⟩
  .exact absurd rfl h
theorem GT{l:List Nd}{m:Nat}{n:Nd}(h:n.op=25->∃k L,n.kids=k::L/\k.toNat<m):eS (l.take m) n=eS l n:=by
 have e:jM (l.take m) n=jM l n:=by
  unfold jM;by_cases c:n.op=25
  .obtain⟨k,L,i,g⟩:=h c;rw[c];simp only[i,vI,yF,oC,g,cZ]
  .simp only[c,de]
 unfold eS;rw[e]
theorem Vr{l:List Nd}{i m:Nat}(V:i<m)(C:List Int):oW (l.take m) i C=oW l i C:=by
 unfold oW;rw[oC,aj V];cases hn:l[i]? with
 |none=>rfl
 |some n=>
  simp only;cases j:jN i C n.kids with
  |none=>rfl
  |some s=>
   simp only;by_cases c:zcH n.op s=true
   .have e:eS (l.take m) n=eS l n:=GT fun J=>by
     have K:=Cn j;have Y:s.length=1:=by
      have Z:=c;unfold zcH at Z;rw[J]at Z;have:ig 25=(1,true):=aS;rw[this]at Z;simp only at Z;split at Z
      .cases Z
      .split at Z
       .cases Z
       .omega
     cases I:n.kids with
     |nil=>rw[I,Y]at K;simp at K
     |cons k L=>
      refine⟨k,L,rfl,?_⟩;have:=yI j k (by rw[I];exact eQ);omega
    rw[e]
   .have c':zcH n.op s=false:=by simpa using c
    rw[c',gX,gX]
theorem Co{l:List Nd}{m:Nat}:∀{i:Nat},i<=m->zc1 (l.take m) i=zc1 l i
 |0,_=>rfl
 |i+1,h=>by rw[zc1,zc1,Co (by omega:i<=m),Vr ac]
theorem yJ{l:List Nd}{i:Nat}(h:i<l.length):jf l i=oW l i (zc1 l i):=by
 unfold jf;rw[af ac,pQ,Co (aA _),Cm l (cJ i)]
theorem Cp{l:List Nd}{i j:Nat}(g:j<i)(z:i<=l.length):(zc1 l i).getD j 0=jf l j:=by
 rw[Cm l g,yJ ac]
theorem GU{l m:List Nd}{i:Nat}(h:i<l.length):jf (l++m) i=jf l i:=by
 unfold jf;rw[af cc,af ac,pQ,AB ac]
def su(k:List Int):Bool:=k.all fun x=>decide (x=1)
theorem Cq:∀(s w:List Int),s.length<=w.length->(∀x∈w,x=1)->zcV s w=su s
 |[],w,_,_=>by simp[zcV,su]
 |a::s,[],h,_=>by simp at h
 |a::s,b::w,h,hw=>by
  have o:=hw b eQ;subst o;rw[zcV,vI,List.tail_cons,Cq s w j5 (fun x I=>hw x (fH _ I))];simp[su]
theorem yK(a b:Int)(s w:List Int):zcV (a::s) (b::w)=(decide (a=b)&&zcV s w):=rfl
theorem Vs(n m:Nat)(h:m<n):(List.replicate n (1:Int)).set m 2=List.replicate m 1++2::List.replicate (n-m-1) 1:=by
 apply List.ext_getElem?;intro i;rw[nM,List.getElem?_append];simp only[pX];by_cases c:i<m
 .rw[af ac,aj c,vJ,vJ,aj ac,aj c]
 .rw[af c];by_cases e:m=i
  .subst e;simp[h]
  .rw[af e];obtain⟨j,rfl⟩:∃j,i=m+1+j:=⟨i-m-1,ac⟩;rw[show m+1+j-m=j+1 by omega,pR,vJ,vJ];by_cases g:m+1+j<n
   .rw[aj g,aj ac]
   .rw[af g,af ac]
theorem GV:∀(a s w v:List Int),a.length=w.length->zcV (a++s) (w++v)=(zcV a w&&zcV s v)
 |[],s,[],v,_=>by simp[zcV]
 |x::a,s,y::w,v,h=>by
  rw[nX,nX,yK,yK,GV a s w v j5,vK]
 |[],_,_::_,_,h=>by simp at h
 |_::_,_,[],_,h=>j6
theorem Vt(n:Nat)(h:1<=n):oV n=((n-1)/2:Nat):=by
 unfold oV;rw[show(n:Int)-1=((n-1:Nat):Int) by omega];rfl
theorem Vu(s:List Int)(h:3<=s.length)(M:s.length%2=1):zcV s (yG s.length)=(decide (s.headD 0=2)&&su ((s.drop 1).take (s.length/2))&&decide (s.getD (s.length/2+1) 0=2)&&su (s.drop (s.length/2+2))):=by
 obtain⟨m,V⟩:∃m,s.length=2*m+1:=⟨s.length/2,ac⟩;have O:1<=m:=ac;have Z:s.length/2=m:=ac;have C:(oV s.length+1).toNat=m+1:=Cj;have Y:yG s.length=2::(List.replicate m 1++2::List.replicate (m-1) 1):=by
  unfold yG;rw[C,V];have J:List.replicate (2*m+1) (1:Int)=1::List.replicate (2*m) 1:=rfl;rw[J,List.set_cons_zero,List.set_cons_succ,Vs _ _ ac]
  congr 4;omega
 rw[Y,Z]
 match s,V with
 |a::t,V=>
  have L:t.length=2*m:=by simpa using V
  rw[yK,vI,yn,fT];have hd:t=t.take m++t.drop m:=(AR m t).symm;have i:(t.take m).length=m:=tq
  conv=>lhs;rw[hd]
  rw[GV _ _ _ _ (by rw[i];simp),Cq (t.take m) _ (by rw[i];simp) (fun x I=>yA I)];have U:(a::t).getD (m+1) 0=t.getD m 0:=rfl;have z:(a::t).drop (m+2)=t.drop (m+1):=rfl;rw[U,z];have K:t.drop m=t.getD m 0::t.drop (m+1):=by
   rw[hP ac,eR,aY ac];rfl
  rw[K,yK,Cq (t.drop (m+1)) _ cc (fun x I=>yA I),vK,vK]
end Go.Ab
namespace Go.Proofs.Ytpbcimfiofmoeaa
set_option maxRecDepth 20000
open Go Go.Ab
section
def tyR3b.tyF:=ad @cQ (ad @cW (ad @eK (ad @eA (ad @dX (ad @fj (@eJ))))))
open tyR3b
mutual
def dJ:Ex->Nat
 | .mk _ _ _ _ L=>jO L
def jO:List Ex->Nat
 |[]=>0
 |e::es=>max (1+dJ e) (jO es)
end
def vL(x:Ex):List AV:=[.agg x.cells]
theorem Vv(x y:Ex)(h:vL x=vL y):x=y:=by simp only[vL,ez,AV.agg.injEq,br]at h;exact Ex.inj h
mutual
def zbT:St->Nat
 | .mk _ _ _ _ _ _ _ Y Z=>1+zbX Y+zbX Z
def zbX:List St->Nat
 |[]=>0
 |x::l=>zbT x+zbX l
end
mutual
def zbM:St->Nat
 | .mk k _ _ _ _ _ _ Y Z=>(if k=4 then 1 else 0)+zb7 Y+zb7 Z
def zb7:List St->Nat
 |[]=>0
 |x::l=>zbM x+zb7 l
end
mutual
def zbL:St->Nat->Nat
 | .mk _ _ _ _ _ _ _ Y Z,d=>max d (max (zcI Y (d+1)) (zcI Z (d+1)))
def zcI:List St->Nat->Nat
 |[],_=>0
 |x::l,d=>max (zbL x d) (zcI l d)
end
theorem GW(x:St):zbM x=(if x.kind=4 then 1 else 0)+zb7 x.thn+zb7 x.els:=by cases x;rw[zbM];rfl
theorem mr{z:Int}(h1:-9223372036854775808<=z)(h2:z<9223372036854775808):IntKind.wrap .i64 z=z:=rW _ ac
theorem Vw(a b c:AV):Ab.extract (.tup [a,b,c]) 0=some a:=rfl
theorem Vx(a b c:AV):Ab.extract (.tup [a,b,c]) 1=some b:=rfl
theorem Vy(a b c:AV):Ab.extract (.tup [a,b,c]) 2=some c:=rfl
end
section
def tyI2.tyF:=ad @eJ (ad @cQ (ad @gU (ad @qN (ad @lx (@vm)))))
open tyI2
abbrev oX(l:List Nd):AV:=.lst (l.map Nd.cells)
theorem GX(l:List Nd):eL (oX l):=.map fun x _=>x.pure
theorem Vz{a b:List Nd}(h:oX a=oX b):a=b:=by
 simp only[oX,AV.lst.injEq]at h;exact nh (fun _ _ _=>Nd.inj) h
theorem VA(a b:AV):Ab.extract (.tup [a,b]) 0=some a:=rfl
theorem VB(a b:AV):Ab.extract (.tup [a,b]) 1=some b:=rfl
end
section
def tyV1.tyF:=ad @eJ (ad @cQ (ad @vu (ad @cW (ad @gU (ad @qN (ad @FS (ad @FX (ad @Ge (ad @Gf (ad @Gg (ad @FZ (ad @Gi (ad @Gj (@GS))))))))))))))
open tyV1
def sw(n:Nd):List Int:=IntKind.wrap .u8 n.op::(jV (IntKind.wrap .u64 n.imm) 8++n.kids.flatMap fun k=>jV (IntKind.wrap .u64 k) 8)
theorem VC(n:Nd):sw n=[IntKind.wrap .u8 n.op]++jV (IntKind.wrap .u64 n.imm) 8++n.kids.flatMap fun k=>jV (IntKind.wrap .u64 k) 8:=by
 rw[sw];simp
theorem GY:∀l:List Int,rI (l.map (.int .u8))=some (qV l)
 |[]=>rfl
 |a::l=>by
  have:=GY l;simp only[dN,rI,this];rfl
theorem VD{H:Hp}{v:AV}{l:List Int}{lo:Nat}(M:ki H v l lo):zdg Try.prog H 61 9 v=some (.str (qV l)):=by
 obtain⟨r,Z,rfl,C,_⟩:=M;have I:zcM H 1 (.sl r 0 l.length 1)=some (l.length,l.map (.int .u8)):=by
  have:=sf (H:=H) (r:=r) (o:=0) (n:=l.length) (z:=1) (s:=1) C aw;rw[this,fT,eI aw]
 simp only[zdg,Try.underlying61,Try.underlying9,Try.underlying5,I];rw[GY]
end
section
theorem Cr{P:Program}{cfg:Cfg}{f N:Nat}{a:SC}{E:au}{H:Hp}{Q:AX->au->Hp->Prop}(F:au->Hp->Prop)(h1:zbu P cfg f N a E H fun x E' H'=>x=.normal/\F E' H')(h2:∀E' H',F E' H'->Q .normal E' H'):zbu P cfg f N a E H Q:=
 zbu.mono (fun x E' H' h=>by obtain⟨rfl,h⟩:=h;exact h2 E' H' h) h1
namespace tyI3
end tyI3
open tyI3
def vM(l:List Nd):Prop:=l.length<2^30/\∀n∈l,n.kids.length<2^30
end
section
def tyR3c.tyF:=ad @eJ (ad @cQ (ad @cW (ad @kQ (ad @ly (ad @gI (ad @gJ (ad @eK (ad @eA (ad @dX (ad @lA (ad @fj (ad @oM (ad @Vw (ad @Vx (@Vy)))))))))))))))
open tyR3c
mutual
def ku:St->Bool
 | .mk _ _ _ _ a v Y Z V=>decide ((20:Int)<dJ a)||decide ((20:Int)<dJ v)||iN Z||iN V||Y.any fun e=>decide ((20:Int)<dJ e)
def iN:List St->Bool
 |[]=>false
 |x::l=>ku x||iN l
end
def fc(p:Pr):List AV:=[.agg p.cells]
theorem p6(x y:Pr)(h:fc x=fc y):x=y:=by simp only[fc,ez,AV.agg.injEq,br]at h;exact Pr.inj h
def mw(f:Fu):Bool:=decide ((6:Int)<f.params.length)||decide ((8:Int)<f.locals.length)||decide ((200:Int)<zbX f.body)||decide ((16:Int)<zb7 f.body)||decide ((20:Int)<zcI f.body 0)||iN f.body||decide ((20:Int)<dJ f.value)
def qW(a:Ar):Bool:=decide (a.len<1)||decide (16<a.len)
def jP(p:Pr):Bool:=decide ((4:Int)<p.arrays.length)||decide ((8:Int)<p.funcs.length)||p.arrays.any qW||p.funcs.any mw
end
section
theorem yL(d:Nat)(h:d<2^60):b9 ((d:Int)+1)=((d+1:Nat):Int):=by unfold b9;rw[mr ac ac];omega
mutual
theorem GZ:∀(x:Ex) (d:Nat),d<=21->kU pU x d=decide (d+dJ x<=20)
 | .mk k n s o L,d,hd=>by
   rw[kU,pU,dJ];by_cases h:d<=20
   .rw[yL d ac,G3 L d h];simp only[show decide ((d:Int)<=20)=true by simpa using (by omega:(d:Int)<=20),fI]
   .have i:decide ((d:Int)<=20)=false:=by simp;omega
    rw[i,gX];symm;simp;omega
theorem G3:∀(l:List Ex) (d:Nat),d<=20->zc0 pU l ((d+1:Nat):Int)=decide (d+jO l<=20)
 |[],d,hd=>by rw[zc0,jO];symm;simpa using hd
 |e::es,d,hd=>by
  rw[zc0,GZ e (d+1) ac,G3 es d hd,jO];by_cases i:d+1+dJ e<=20<;>by_cases g:d+jO es<=20;all_goals simp only[i,g,mT,iZ,gm,oS,]
  all_goals (symm;simp;omega)
end
theorem Cs(x:Ex):kU pU x 0=!decide ((20:Int)<dJ x):=by
 have:=GZ x 0 ac;rw[show((0:Nat):Int)=0 from rfl]at this;rw[this];by_cases h:dJ x<=20
 .have:¬(20:Int)<dJ x:=by omega
  simp[h,this]
 .have:(20:Int)<dJ x:=by omega
  simp[h,this]
theorem G4:∀(l:List Ex),zc0 pU l 0=!(l.any fun e=>decide ((20:Int)<dJ e))
 |[]=>rfl
 |e::es=>by rw[zc0,Cs,G4 es,pY,tI]
mutual
theorem VE:∀(x:St) (d:Int),jx (nf pU) x d ()=(!ku x,())
 | .mk k M U n a v Y Z V,d=>by
   rw[jx,nf,ku];simp only[St.at_,St.value,St.args,Cs,G4];cases i:decide ((20:Int)<dJ a)
   .cases g:decide ((20:Int)<dJ v)
    .cases m:Y.any fun e=>decide ((20:Int)<dJ e)
     .simp only[lw,gm,yM Z];cases L:iN Z
      .simp only[lw,yM V,kS,jv]
      .simp
     .simp
    .simp
   .simp
theorem yM:∀(l:List St) (d:Int),zcn (nf pU) l d ()=(!iN l,())
 |[],_=>rfl
 |x::l,d=>by
  rw[zcn,VE x,iN];cases h:ku x
  .simp only[lw,yM l,jv]
  .simp
end
def qX(k:Int):Nat:=if k=4 then 1 else 0
theorem VF(x:St)(d n l:Nat)(U:n<2^60)(K:l<2^60):mo x d ((n:Int),(l:Int))=(decide ((d:Int)<=20)&&decide (((n+1:Nat):Int)<=200)&&decide (((l+qX x.kind:Nat):Int)<=16),(((n+1:Nat):Int),((l+qX x.kind:Nat):Int))):=by
 have O:(if x.kind=4 then b9 ((l:Int)+1)else (l:Int))=((l+qX x.kind:Nat):Int):=by
  unfold qX;split
  .rw[yL l ac]
  .rfl
 unfold mo;simp only[yL n ac,O]
mutual
theorem VG:∀(x:St) (d n l:Nat),d<=21->n<=200->l<=16 ->
 ((zbL x d<=20/\n+zbT x<=200/\l+zbM x<=16)->jx mo x d ((n:Int),(l:Int))=(true,(((n+zbT x:Nat):Int),((l+zbM x:Nat):Int)))) /\
 (¬(zbL x d<=20/\n+zbT x<=200/\l+zbM x<=16)->(jx mo x d ((n:Int),(l:Int))).1=false)
 | .mk k M U O a v Z Y V,d,n,l,hd,hn,hl=>by
   have K:qX (St.mk k M U O a v Z Y V).kind<=1:=by unfold qX;split<;>omega
   have o:zbM (.mk k M U O a v Z Y V)=qX (St.mk k M U O a v Z Y V).kind+zb7 Y+zb7 V:=by rw[zbM];rfl
   rw[jx,VF _ _ _ _ ac ac,o];obtain⟨z,j⟩:∃z,qX (St.mk k M U O a v Z Y V).kind=z:=⟨_,rfl⟩;rw[j]at K⊢;clear j o;simp only[yL d ac,zbL,zbT];by_cases m:d<=20/\n+1<=200/\l+z<=16
   .have g:(decide ((d:Int)<=20)&&decide (((n+1:Nat):Int)<=200)&&decide (((l+z:Nat):Int)<=16))=true:=by
     rw[bT,bT];refine⟨⟨?_,?_⟩,?_⟩<;>apply lD<;>omega
    rw[g];simp only[];have t:=yN Y (d+1) (n+1) (l+z) ac ac ac;by_cases i:zcI Y (d+1)<=20/\n+1+zbX Y<=200/\l+z+zb7 Y<=16
    .rw[t.1 i];simp only[];have u:=yN V (d+1) (n+1+zbX Y) (l+z+zb7 Y) ac ac ac;by_cases L:zcI V (d+1)<=20/\n+1+zbX Y+zbX V<=200/\l+z+zb7 Y+zb7 V<=16
     .rw[u.1 L];refine⟨fun _=>?_,fun h=>(h ⟨ac,ac,ac⟩).elim⟩;rw[show n+1+zbX Y+zbX V=n+(1+zbX Y+zbX V) by omega,show l+z+zb7 Y+zb7 V=l+(z+zb7 Y+zb7 V) by omega]
     .refine⟨fun h=>(L ⟨ac,ac,ac⟩).elim,fun _=>u.2 L⟩
    .refine⟨fun h=>(i ⟨ac,ac,ac⟩).elim,fun _=>?_⟩;have:=t.2 i;generalize zcn mo Y _ _=r at this⊢;obtain⟨b,s⟩:=r;simp only at this;subst this;rfl
   .have g:(decide ((d:Int)<=20)&&decide (((n+1:Nat):Int)<=200)&&decide (((l+z:Nat):Int)<=16))=false:=by
     rw[<-Bool.not_eq_true,bT,bT];rintro⟨⟨C,J⟩,I⟩;have C:=oT C;have J:=oT J;have I:=oT I;exact m ⟨ac,ac,ac⟩
    rw[g];exact⟨fun h=>(m ⟨ac,ac,ac⟩).elim,fun _=>rfl⟩
theorem yN:∀(x:List St) (d n l:Nat),d<=21->n<=200->l<=16 ->
 ((zcI x d<=20/\n+zbX x<=200/\l+zb7 x<=16)->zcn mo x d ((n:Int),(l:Int))=(true,(((n+zbX x:Nat):Int),((l+zb7 x:Nat):Int)))) /\
 (¬(zcI x d<=20/\n+zbX x<=200/\l+zb7 x<=16)->(zcn mo x d ((n:Int),(l:Int))).1=false)
 |[],d,n,l,hd,hn,hl=>by
  rw[zcn,zcI,zbX,zb7];exact⟨fun _=>rfl,fun h=>(h ⟨ac,ac,ac⟩).elim⟩
 |x::r,d,n,l,hd,hn,hl=>by
  rw[zcn,zcI,zbX,zb7];have t:=VG x d n l hd hn hl;by_cases i:zbL x d<=20/\n+zbT x<=200/\l+zbM x<=16
  .rw[t.1 i];simp only[];have u:=yN r d (n+zbT x) (l+zbM x) hd ac ac;by_cases g:zcI r d<=20/\n+zbT x+zbX r<=200/\l+zbM x+zb7 r<=16
   .rw[u.1 g];refine⟨fun _=>?_,fun h=>(h ⟨ac,ac,ac⟩).elim⟩;rw[show n+zbT x+zbX r=n+(zbT x+zbX r) by omega,show l+zbM x+zb7 r=l+(zbM x+zb7 r) by omega]
   .exact⟨fun h=>(g ⟨ac,ac,ac⟩).elim,fun _=>u.2 g⟩
  .refine⟨fun h=>(i ⟨ac,ac,ac⟩).elim,fun _=>?_⟩;have:=t.2 i;generalize jx mo x _ _=r at this⊢;obtain⟨b,s⟩:=r;simp only at this;subst this;rfl
end
theorem VH(x:List St):(zcn mo x 0 (0,0)).1=(!decide ((200:Int)<zbX x) && !decide ((16:Int)<zb7 x) && !decide ((20:Int)<zcI x 0)):=by
 have t:=yN x 0 0 0 ac ac ac;rw[show((0:Nat):Int)=0 from rfl]at t;simp only[b4]at t;by_cases h:zcI x 0<=20/\zbX x<=200/\zb7 x<=16
 .rw[t.1 h];have i:¬(200:Int)<zbX x:=ac;have g:¬(16:Int)<zb7 x:=ac;have m:¬(20:Int)<zcI x 0:=ac;simp[i,g,m]
 .rw[t.2 h]
  symm
  rw[<-Bool.not_eq_true,bT,bT];rintro⟨⟨C,z⟩,Z⟩;simp only[r8,kR]at C z Z;exact h ⟨ac,ac,ac⟩
theorem VI(f:Fu):iK f=!mw f:=by
 rw[iK,mw,ng,VH,Cs,yM];have i:decide ((f.params.length:Int)<=6)=!decide ((6:Int)<f.params.length):=by
  by_cases h:(6:Int)<f.params.length
  .have:¬(f.params.length:Int)<=6:=by omega
   simp[h,this]
  .have:(f.params.length:Int)<=6:=by omega
   simp[h,this]
 have Z:decide ((f.locals.length:Int)<=8)=!decide ((8:Int)<f.locals.length):=by
  by_cases h:(8:Int)<f.locals.length
  .have:¬(f.locals.length:Int)<=8:=by omega
   simp[h,this]
  .have:(f.locals.length:Int)<=8:=by omega
   simp[h,this]
 rw[i,Z];simp only[tI];generalize (!decide ((6:Int)<f.params.length))=a;generalize (!decide ((8:Int)<f.locals.length))=b;generalize (!decide ((200:Int)<zbX f.body))=c;generalize (!decide ((16:Int)<zb7 f.body))=d;generalize (!decide ((20:Int)<zcI f.body 0))=e;generalize (!iN f.body)=g;generalize (!decide ((20:Int)<dJ f.value))=h;cases a<;>cases b<;>cases c<;>cases d<;>cases e<;>cases g<;>cases h<;>rfl
theorem G5{z:Type}(l:List z)(p q:z->Bool)(h:∀x,p x=!q x):l.all p=!l.any q:=by
 induction l with
 |nil=>rfl
 |cons a l ih=>rw[pV,pY,tI,h,ih]
theorem VJ(p:Pr):jL p=!jP p:=by
 rw[jL,jP,G5 p.funcs iK mw VI,G5 p.arrays _ qW (fun a=>by rw[qW,tI])];simp only[tI]
def tyR3d.tyF:=ad @eJ (ad @cQ (ad @cW (ad @eA (ad @dX (ad @eK (@fj))))))
open tyR3d
def kw(x:Ex):Bool:=
 if x.kind=1 then decide ((x.kids.length:Int)=0)&&decide (x.name=[])&&decide (x.op=0)
 else if x.kind=2 then decide ((x.kids.length:Int)=0)&&decide (x.n=0)&&decide (x.op=0)&&zb6 x.name
 else if x.kind=3 then decide ((x.kids.length:Int)=1)&&decide (x.n=0)&&decide (x.op=0)&&zb6 x.name
 else if x.kind=4 then decide (x.n=0)&&decide (x.name=[])&&((decide ((x.kids.length:Int)=2)&&tJ x.op)||(decide ((x.kids.length:Int)=1)&&(decide (x.op=20)||decide (x.op=21))))
 else if x.kind=5 then decide ((x.kids.length:Int)=3)&&decide (x.n=0)&&decide (x.name=[])&&decide (x.op=0)
 else false
mutual
def eM:Ex->Bool
 | .mk k n s o L=>dZ L&&kw (.mk k n s o L)
def dZ:List Ex->Bool
 |[]=>true
 |e::es=>eM e&&dZ es
end
theorem G6(x:Ex):eM x=(dZ x.kids&&kw x):=by cases x;rw[eM];rfl
theorem G7(x y:Int)(h:([.int .i64 x]:List AV)=[.int .i64 y]):x=y:=j5
end
section
namespace tyR3e
end tyR3e
open tyR3e
def oY(x:St):Bool:=decide (x.name=[])&&decide (x.to=[])&&decide (x.n=0)&&zeroE x.at_&&decide ((x.args.length:Int)=0)
def lF(x:St):Bool:=decide ((x.thn.length:Int)=0)&&decide ((x.els.length:Int)=0)
def jz(x:St):Bool:=
 if x.kind=1 then lF x&&zb6 x.name&&decide (x.to=[])&&decide (x.n=0)&&zeroE x.at_&&decide ((x.args.length:Int)=0)&&eM x.value
 else if x.kind=2 then lF x&&zb6 x.name&&decide (x.to=[])&&decide (x.n=0)&&eM x.at_&&decide ((x.args.length:Int)=0)&&eM x.value
 else if x.kind=3 then oY x&&eM x.value
 else if x.kind=4 then oY x&&eM x.value&&decide ((x.els.length:Int)=0)
 else if x.kind=5 then lF x&&oY x&&eM x.value
 else if x.kind=6 then lF x&&zb6 x.name&&zb6 x.to&&decide (x.n=0)&&zeroE x.at_&&zeroE x.value
 else if x.kind=7 then lF x&&decide (x.name=[])&&decide (x.to=[])&&decide (0<=x.n)&&decide (x.n<=1000000)&&zeroE x.at_&&zeroE x.value&&decide ((x.args.length:Int)=0)
 else false
def iO(x:St):Bool:=dZ x.args&&jz x
end
section
def tyR3f.tyF:=ad @eJ (ad @cQ (ad @cW (ad @kQ (ad @ly (ad @gI (ad @gJ (ad @eK (ad @eA (ad @dX (ad @lA (ad @fj (@oM))))))))))))
open tyR3f
mutual
def jg:St->Bool
 | .mk k M U n a v Y Z V=>iO (.mk k M U n a v Y Z V)&&fY Z&&fY V
def fY:List St->Bool
 |[]=>true
 |x::l=>jg x&&fY l
end
theorem tM(x:St):jg x=(iO x&&fY x.thn&&fY x.els):=by cases x;rw[jg];rfl
theorem Ct:∀{l:List Ar}{a:Ar},a∈l->a.name.length<zcU l
 |[],_,h=>by simp at h
 |e::es,x,h=>by
  rcases fz.1 h with rfl|h
  .simp only[zcU];omega
  .have:=Ct h;simp only[zcU];omega
def fnNames(f:Fu):List (List UInt8):=[f.name]++f.params++f.locals
def lH(f:Fu):Bool:=(fnNames f).all zb6&&fY f.body&&eM f.value
def iP(p:Pr):Bool:=p.arrays.all (fun a=>zb6 a.name)&&p.funcs.all lH
theorem VK(H:Hp)(s:List UInt8):zcv Try.prog H 47 1 [(0,.str s)]=some (.sl H.next 0 1 1,H.alloc (.cells [.str s] 0 true)):=ah
end
section
namespace tyR3g
end tyR3g
open tyR3g
def zb0:List (List UInt8)->List (List UInt8)->Bool
 |_,[]=>false
 |seen,s::l=>zbx seen s||zb0 (seen++[s]) l
def yO(an:List (List UInt8)):List (List UInt8)->List Fu->Bool
 |_,[]=>false
 |seen,f::fs=>zbx seen f.name||zb0 an (f.params++f.locals)||yO an (seen++[f.name]) fs
def zbF(p:Pr):List (List UInt8):=p.arrays.map (·.name)
def n1(p:Pr):Bool:=zb0 [] (zbF p)||yO (zbF p) [] p.funcs
end
section
namespace tyR3h
end tyR3h
open tyR3h
structure Sc where
 vars:List (List UInt8)
 arrays:Option (List (List UInt8))
 p:Pr
def Sc.an(x:Sc):List (List UInt8):=x.arrays.getD []
def VL:Option (List (List UInt8))->AV
 |none=>.nilS
 |some l=>zbP l
def Sc.cells(x:Sc):List AV:=[zbP x.vars,VL x.arrays,.lst (x.p.arrays.map Ar.cells),.lst (x.p.funcs.map Fu.cells)]
theorem Sc.whole(x:Sc):zbJ 4 x.cells=some (.agg x.cells):=rfl
theorem VM(x:Sc):zbJ 2 (x.cells.drop 2)=some (.agg x.p.cells):=rfl
section
variable (vs an:List (List UInt8))
def fD(x:Ex):Bool:=(!decide (x.kind=2)||zbx vs x.name)&&(!decide (x.kind=3)||zbx an x.name)
mutual
def dQ:Ex->Bool
 | .mk k n s o L=>zcs L&&fD vs an (.mk k n s o L)
def zcs:List Ex->Bool
 |[]=>true
 |e::es=>dQ e&&zcs es
end
theorem G8(x:Ex):dQ vs an x=(zcs vs an x.kids&&fD vs an x):=by cases x;rw[dQ];rfl
end
def zc8(c:Sc)(x:St):Bool:=
 if x.kind=1 then zbx c.vars x.name
 else if x.kind=6 then zbx c.vars x.name&&decide (0<=zbY c.p.funcs x.to 0)
 else if x.kind=2 then zbx c.an x.name
 else true
def jQ(c:Sc)(x:St):Bool:=zcs c.vars c.an x.args&&dQ c.vars c.an x.at_&&dQ c.vars c.an x.value&&zc8 c x
end
section
def tyR3i.tyF:=ad @cQ (ad @cW (ad @kQ (ad @ly (ad @gI (ad @gJ (ad @eK (ad @eA (ad @dX (ad @lA (ad @fj (ad @Uf (ad @VM (@Sc.whole)))))))))))))
open tyR3i
def oc(p:Pr)(s:List UInt8):Nat:=((p.funcs[(zbY p.funcs s 0).toNat]?).map fun f=>f.params.length).getD 0
def jA(p:Pr)(x:St):Bool:=!(decide (x.kind=6) && !decide ((x.args.length:Int)=oc p x.to))
section
variable (c:Sc)
mutual
def ev(b:Bool):St->Bool
 | .mk k M U n a v Y Z V=>(bif b then jA c.p (.mk k M U n a v Y Z V)else jQ c (.mk k M U n a v Y Z V))&&zca b Z&&zca b V
def zca(b:Bool):List St->Bool
 |[]=>true
 |x::l=>ev b x&&zca b l
end
theorem Cu(b:Bool)(x:St):ev c b x=((bif b then jA c.p x else jQ c x)&&zca c b x.thn&&zca c b x.els):=by cases x;rw[ev];rfl
end
section
variable (p:Pr)
end
theorem G9:∀(l:List Fu) (s:List UInt8) (i:Nat),0<=zbY l s i->∃k,k<l.length/\zbY l s i=((i+k:Nat):Int)
 |[],s,i,h=>by simp[zbY]at h
 |f::l,s,i,h=>by
  simp only[zbY]at h⊢;split
  .exact⟨0,aw,aw⟩
  .rename_i hn;rw[af hn]at h;obtain⟨k,Z,g⟩:=G9 l s (i+1) (by exact h);exact⟨k+1,by simpa using Z,by rw[show((i:Int)+1)=((i+1:Nat):Int) by omega,g];omega⟩
end
section
namespace tyR3j
end tyR3j
open tyR3j
def ey(p:Pr)(f:Fu):Sc:=⟨f.params++f.locals,some (zbF p),p⟩
def ky(p:Pr)(f:Fu):Bool:=!(zca (ey p f) false f.body&&dQ (ey p f).vars (ey p f).an f.value)
def my(p:Pr)(f:Fu):Bool:=!zca (ey p f) true f.body
def zc2(p:Pr):Int:=if jP p=true then 6 else if iP p=false then 2 else if n1 p=true then 4 else if p.funcs.any (ky p)=true then 3 else if p.funcs.any (my p)=true then 5 else 0
end
end Go.Proofs.Ytpbcimfiofmoeaa
namespace Go.Ab
set_option maxRecDepth 20000
open Go
def He(k:IntKind)(a b:Int):Int:=a.fdiv (2^ min b.toNat k.bits)
theorem bin_shr{P:Program}{D:BinOp->Sx->Sx->Option Bool}{t:TypeId}{k z:IntKind}{a b:Int}(o:0<=b):zcq P D .shr t (.int k a) (.int z b)=some (.int k (He k a b)):=by
 obtain⟨m,rfl⟩:=sc o;simp only[zcq,qx];show td .shr k a (Int.ofNat m)=_;simp[td,He]
abbrev za5:=List UInt8
def dK:List (za5×Int)->za5->Int
 |[],_=>0
 |p::l,nm=>if nm=p.1 then p.2 else dK l nm
def setV:List (za5×Int)->za5->Int->List (za5×Int)
 |[],nm,x=>[(nm,x)]
 |p::l,nm,x=>if nm=p.1 then (nm,x)::l else p::setV l nm x
section
variable (p:Pr) (fi:List (za5 × Int))
end
def cE(vs:List (za5×Int)):List (AV×AV):=vs.map fun p=>(.str p.1,.int .i64 p.2)
def cEs:List (za5×List Int)->List Nat->List (AV×AV)
 |p::l,r::rs=>(.str p.1,.sl r 0 p.2.length 1)::cEs l rs
 |_,_=>[]
theorem Cv(nm:za5):∀(vs:List (za5×Int)) (i:Nat),(zcx .string (.str nm) (cE vs) i=some none/\dK vs nm=0/\∀x,cE (setV vs nm x)=cE vs++[(.str nm,.int .i64 x)]) \/
 ∃j,j<vs.length/\zcx .string (.str nm) (cE vs) i=some (some (i+j,.int .i64 (dK vs nm)))/\∀x,cE (setV vs nm x)=(cE vs).set j (.str nm,.int .i64 x)
 |[],i=>.inl ⟨rfl,rfl,fun _=>rfl⟩
 |p::l,i=>by
  by_cases h:nm=p.1
  .refine .inr ⟨0,aw,?_,fun x=>?_⟩
   .simp[cE,zcx,mL,dK,h]
   .simp[cE,setV,h]
  .have hf:zcx .string (.str nm) (cE (p::l)) i=zcx .string (.str nm) (cE l) (i+1):=by
    show zcx .string (.str nm) ((.str p.1,.int .i64 p.2)::cE l) i=_;have:(nm == p.1)=false:=j5;simp[zcx,mL,this]
   have K:dK (p::l) nm=dK l nm:=by simp[dK,h]
   have J:∀x,cE (setV (p::l) nm x)=(.str p.1,.int .i64 p.2)::cE (setV l nm x):=fun x=>by simp[setV,h,cE]
   rw[hf,K];rcases Cv nm l (i+1)with⟨Z,g,m⟩|⟨j,Y,Z,m⟩
   .refine .inl ⟨Z,g,fun x=>?_⟩;rw[J,m];simp[cE]
   .refine .inr ⟨j+1,cc,?_,fun x=>?_⟩
    .rw[Z,show i+1+j=i+(j+1) by omega]
    .rw[J,m];simp[cE]
theorem Hf{P:Program}{H:Hp}{t g e r:Nat}{j:List (AV×AV)}{nm:za5}{z:AV}(M:P.underlying t=some (.map g e))(Z:lc P g=some .string)(Y:pz P e=some z)(C:H.get r=some (.map j)):
 (zcx .string (.str nm) j 0=some none->jd P H t (.map r) (.str nm) false=some z)/\∀i v,zcx .string (.str nm) j 0=some (some (i,v))->jd P H t (.map r) (.str nm) false=some v:=by
 refine⟨fun h=>?_,fun i v h=>?_⟩<;>simp only[jd,M,Z,Y,rF,C,h,uo]
theorem Cw{P:Program}{H:Hp}{t g e r:Nat}{j:List (AV×AV)}{nm:za5}{x:AV}(M:P.underlying t=some (.map g e))(Z:lc P g=some .string)(C:H.get r=some (.map j)):
 (zcx .string (.str nm) j 0=some none->zdu P H t (.map r) (.str nm) x=some (H.set r (.map (j++[(.str nm,x)]))))/\∀i v,zcx .string (.str nm) j 0=some (some (i,v))->zdu P H t (.map r) (.str nm) x=some (H.set r (.map (j.set i (.str nm,x)))):=by
 refine⟨fun h=>?_,fun i v h=>?_⟩<;>simp only[zdu,M,Z,C,h]
theorem Cy{P:Program}{H:Hp}{t g e r:Nat}(M:P.underlying t=some (.map g e))(Z:lc P g=some .string)(Y:pz P e=some (.int .i64 0)){vs:List (za5×Int)}(C:H.get r=some (.map (cE vs)))(nm:za5):
 jd P H t (.map r) (.str nm) false=some (.int .i64 (dK vs nm)):=by
 obtain⟨l1,V⟩:=Hf (nm:=nm) M Z Y C;rcases Cv nm vs 0 with⟨i,U,m⟩|⟨j,O,i,m⟩
 .rw[l1 i,U]
 .rw[V _ _ i]
theorem vN{P:Program}{H:Hp}{t g e r:Nat}(M:P.underlying t=some (.map g e))(Z:lc P g=some .string){vs:List (za5×Int)}(C:H.get r=some (.map (cE vs)))(nm:za5)(x:Int):
 zdu P H t (.map r) (.str nm) (.int .i64 x)=some (H.set r (.map (cE (setV vs nm x)))):=by
 obtain⟨l1,Y⟩:=Cw (nm:=nm) (x:=.int .i64 x) M Z C;rcases Cv nm vs 0 with⟨i,V,m⟩|⟨j,U,i,m⟩
 .rw[l1 i,m]
 .rw[Y _ _ i,m,b4]
def jh:List Fu->Nat->List (za5×Int)->List (za5×Int)
 |[],_,m=>m
 |f::l,i,m=>jh l (i+1) (setV m f.name i)
def fZ:List (za5×Int)->za5->Bool
 |[],_=>false
 |p::l,nm=>if nm=p.1 then true else fZ l nm
theorem Cz(nm:za5):∀(vs:List (za5×Int)) (i:Nat),(fZ vs nm=false->zcx .string (.str nm) (cE vs) i=some none/\dK vs nm=0)/\(fZ vs nm=true->∃j,zcx .string (.str nm) (cE vs) i=some (some (j,.int .i64 (dK vs nm))))
 |[],i=>⟨fun _=>⟨rfl,rfl⟩,fun h=>by simp[fZ]at h⟩
 |p::l,i=>by
  by_cases h:nm=p.1
  .refine⟨fun g=>by simp[fZ,h]at g,fun _=>⟨i,?_⟩⟩;simp[cE,zcx,mL,dK,h]
  .have hf:zcx .string (.str nm) (cE (p::l)) i=zcx .string (.str nm) (cE l) (i+1):=by
    show zcx .string (.str nm) ((.str p.1,.int .i64 p.2)::cE l) i=_;have:(nm == p.1)=false:=j5;simp[zcx,mL,this]
   have K:dK (p::l) nm=dK l nm:=by simp[dK,h]
   have O:fZ (p::l) nm=fZ l nm:=by simp[fZ,h]
   rw[hf,K,O];exact Cz nm l (i+1)
theorem Hg{P:Program}{H:Hp}{t g e r:Nat}(M:P.underlying t=some (.map g e))(Z:lc P g=some .string)(Y:pz P e=some (.int .i64 0)){vs:List (za5×Int)}(C:H.get r=some (.map (cE vs)))(nm:za5):
 jd P H t (.map r) (.str nm) true=some (.tup [.int .i64 (dK vs nm),.bool (fZ vs nm)]):=by
 obtain⟨V,U⟩:=Cz nm vs 0;cases O:fZ vs nm with
 |false=>
  obtain⟨i,L⟩:=V O;simp only[jd,M,Z,Y,rF,C,i,uo,L]
 |true=>
  obtain⟨j,i⟩:=U O;simp only[jd,M,Z,rF,C,i,uo]
end Go.Ab
namespace Go.Proofs.Ytpbcimfiofmoeaa
set_option maxRecDepth 20000
open Go Go.Ab
def zcC(p:Pr):List (List UInt8):=p.funcs.map (·.name)
def nr(p:Pr):Bool:=zb0 [] (zbF p)||zb0 [] (zcC p)||p.funcs.any fun f=>zb0 [] (zbF p++(f.params++f.locals))
theorem Hh:∀(a b seen:List (List UInt8)),zb0 seen (a++b)=(zb0 seen a||zb0 (seen++a) b)
 |[],b,seen=>by simp[zb0]
 |x::a,b,seen=>by rw[nX,zb0,zb0,Hh a b,mU,List.singleton_append,Bool.or_assoc]
theorem yP(an:List (List UInt8)):∀(U:List Fu) (seen:List (List UInt8)),yO an seen U=(zb0 seen (U.map (·.name))||U.any fun f=>zb0 an (f.params++f.locals))
 |[],seen=>rfl
 |f::U,seen=>by
  rw[yO,dN,zb0,pY,yP an U];cases zbx seen f.name<;>cases zb0 an (f.params++f.locals)<;>cases zb0 (seen++[f.name]) (U.map (·.name))<;>rfl
theorem Hk(p:Pr):nr p=n1 p:=by
 rw[nr,n1,yP];cases h:zb0 [] (zbF p)
 .have e:(fun f:Fu=>zb0 [] (zbF p++(f.params++f.locals)))=fun f=>zb0 (zbF p) (f.params++f.locals):=by
   funext f;rw[Hh,h];rfl
  rw[e];rfl
 .rfl
def zcF:List Fu->List (za5×Int)->List (za5×Int)
 |[],m=>m
 |f::l,m=>zcF l (setV m f.name f.params.length)
theorem sy(s a:za5)(x:Int):∀m:List (za5×Int),dK (setV m a x) s=if s=a then x else dK m s
 |[]=>by simp[setV,dK]
 |q::l=>by
  by_cases h:a=q.1
  .simp only[setV,h,cZ,dK];split<;>rfl
  .simp only[setV,h,de,dK,sy s a x l];by_cases g:s=q.1
   .rw[aj g,aj g,af (fun e=>h (by rw[<-e,g]))]
   .rw[af g,af g]
theorem Hl(s a:za5)(x:Int):∀m:List (za5×Int),fZ (setV m a x) s=(decide (s=a)||fZ m s)
 |[]=>by
  by_cases h:s=a<;>simp[setV,fZ,h]
 |q::l=>by
  by_cases h:a=q.1
  .by_cases g:s=q.1<;>simp[setV,fZ,h,g]
  .have e:=Hl s a x l;by_cases g:s=q.1
   .simp[setV,fZ,h,g]
   .simp[setV,fZ,h,g,e]
theorem zdE(a b:List (List UInt8))(s:List UInt8):zbx (a++b) s=(zbx a s||zbx b s):=by unfold zbx;rw[List.any_append]
theorem p7(a s:List UInt8):zbx [a] s=decide (s=a):=by
 unfold zbx;simp only[pY,List.any_nil,kS];by_cases h:s=a
 .simp[h]
 .have:¬a=s:=fun e=>h e.symm;simp[h,this]
theorem Hm(s:za5):∀(l:List Fu) (m:List (za5×Int)),fZ (zcF l m) s=(fZ m s||zbx (l.map (·.name)) s)
 |[],m=>by simp[zcF,zbx]
 |f::l,m=>by
  rw[zcF,Hm s l,Hl,dN,show f.name::l.map (·.name)=[f.name]++l.map (·.name)from rfl,zdE,p7];cases decide (s=f.name)<;>cases fZ m s<;>simp
theorem Hn(s:za5):∀(l:List Fu) (m:List (za5×Int)),zbx (l.map (·.name)) s=false->dK (zcF l m) s=dK m s
 |[],m,_=>rfl
 |f::l,m,h=>by
  rw[dN,show f.name::l.map (·.name)=[f.name]++l.map (·.name)from rfl,zdE,p7,iC,kR]at h;rw[zcF,Hn s l _ h.2,sy,af h.1]
theorem yQ:∀(l seen:List (List UInt8)),zb0 seen l=false->∀s,zbx seen s=true->zbx l s=false
 |[],_,_,_,_=>rfl
 |a::l,seen,h,s,hs=>by
  rw[zb0,iC]at h;rw[show a::l=[a]++l from rfl,zdE,p7,yQ l _ h.2 s (by rw[zdE,hs];rfl),kS,kR];intro e;rw[<-e]at h;rw[hs]at h;simp at h
theorem Ho:∀(l:List Fu) (s:List UInt8) (i:Int),0<=i->(zbx (l.map (·.name)) s=decide (0<=zbY l s i))
 |[],s,i,_=>by simp[zbx,zbY]
 |f::l,s,i,hi=>by
  rw[dN,show f.name::l.map (·.name)=[f.name]++l.map (·.name)from rfl,zdE,p7,zbY];by_cases h:f.name=s
  .rw[aj h,lD h.symm,nQ];simpa using hi
  .rw[af h,mp (fun e=>h e.symm),jv,Ho l s (i+1) ac]
theorem Hr(p:Pr)(s:za5):∀(l:List Fu) (seen:List (List UInt8)) (m:List (za5×Int)) (i:Nat),p.funcs.drop i=l->zb0 seen (l.map (·.name))=false->0<=zbY l s i ->
 ∃f,p.funcs[(zbY l s i).toNat]?=some f/\dK (zcF l m) s=f.params.length
 |[],_,_,i,_,_,h=>by simp[zbY]at h
 |f::l,seen,m,i,hd,hn,h=>by
  have K:i<p.funcs.length:=by
   have:=ju List.length hd;simp at this;omega
  rw[hP K,ez]at hd;rw[dN,zb0,iC]at hn;rw[zbY]at h⊢;by_cases e:f.name=s
  .rw[aj e];refine⟨f,?_,?_⟩
   .rw[pQ,aY K,hd.1]
   .have Z:zbx (l.map (·.name)) s=false:=yQ _ _ hn.2 s GF;rw[zcF,Hn s l _ Z,sy,aj e.symm]
  .rw[af e]at h⊢;exact Hr p s l (seen++[f.name]) _ (i+1) hd.2 hn.2 h
theorem VN(p:Pr)(s:za5):fZ (zcF p.funcs []) s=decide (0<=zbY p.funcs s 0):=by
 rw[Hm,Ho _ _ 0 ac];rfl
theorem VO{p:Pr}(hd:zb0 [] (zcC p)=false){s:za5}(h:0<=zbY p.funcs s 0):dK (zcF p.funcs []) s=oc p s:=by
 obtain⟨f,i,g⟩:=Hr p s p.funcs [] [] 0 rfl hd h;have V:p.funcs[(zbY p.funcs s 0).toNat]?=some f:=i;rw[g,oc,V];rfl
def lI(I:List (za5×Int))(vs an:List (List UInt8))(x:St)(_:Int)(w:Bool):Bool×Bool:=
 if x.kind=1 then (zbx vs x.name,w)
 else if x.kind=2 then (zbx an x.name,w)
 else if x.kind=6 then (fZ I x.to&&zbx vs x.name,w||(fZ I x.to && !decide (dK I x.to=(x.args.length:Int))))
 else (true,w)
def p8(I:List (za5×Int))(an:List (List UInt8)):List Fu->Bool->Int
 |[],w=>if w=true then 5 else 0
 |f::fs,w=>if ng (fun x _=>fD (f.params++f.locals) an x) f=true/\(zcn (lI I (f.params++f.locals) an) f.body 0 w).1=true then p8 I an fs (zcn (lI I (f.params++f.locals) an) f.body 0 w).2 else 3
def sA(p:Pr):Int:=p8 (zcF p.funcs []) (zbF p) p.funcs false
def CA(p:Pr):Int:=if jL p=false then 6 else if iP p=false then 2 else if nr p=true then 4 else sA p
mutual
theorem CB(vs an:List (List UInt8)):∀(x:Ex) (d:Int),kU (fun x _=>fD vs an x) x d=dQ vs an x
 | .mk k n s o L,d=>by rw[kU,dQ,CC vs an L,Bool.and_comm]
theorem CC(vs an:List (List UInt8)):∀(l:List Ex) (d:Int),zc0 (fun x _=>fD vs an x) l d=zcs vs an l
 |[],_=>rfl
 |x::l,d=>by rw[zc0,zcs,CB vs an x,CC vs an l]
end
section
variable (c:Sc)
mutual
def sB:St->Bool
 | .mk _ _ _ _ a v Y Z V=>dQ c.vars c.an a&&dQ c.vars c.an v&&zcs c.vars c.an Y&&mz Z&&mz V
def mz:List St->Bool
 |[]=>true
 |x::l=>sB x&&mz l
end
mutual
def qY:St->Bool
 | .mk k M U n a v Y Z V=>zc8 c (.mk k M U n a v Y Z V)&&jB Z&&jB V
def jB:List St->Bool
 |[]=>true
 |x::l=>qY x&&jB l
end
mutual
theorem VP:∀(x:St) (d:Int),jx (nf fun x _=>fD c.vars c.an x) x d ()=(sB c x,())
 | .mk k M U n a v Y Z V,d=>by
   rw[jx,nf,sB];simp only[St.at_,St.value,St.args,CB,CC];cases h:dQ c.vars c.an a&&dQ c.vars c.an v&&zcs c.vars c.an Y
   .simp
   .simp only[yR Z,fI];cases g:mz c Z
    .simp
    .simp only[yR V,fI]
theorem yR:∀(l:List St) (d:Int),zcn (nf fun x _=>fD c.vars c.an x) l d ()=(mz c l,())
 |[],_=>rfl
 |x::l,d=>by
  rw[zcn,VP x,mz];cases h:sB c x
  .simp
  .simp only[yR l,fI]
end
mutual
theorem VQ:∀x:St,ev c false x=(sB c x&&qY c x)
 | .mk k M U n a v Y Z V=>by
   rw[ev,sB,qY,yS Z,yS V,nS,jQ];simp only[St.at_,St.value,St.args];cases dQ c.vars c.an a<;>cases dQ c.vars c.an v<;>cases zcs c.vars c.an Y<;>cases zc8 c (.mk k M U n a v Y Z V)<;>cases mz c Z<;>cases jB c Z<;>cases mz c V<;>cases jB c V<;>rfl
theorem yS:∀l:List St,zca c false l=(mz c l&&jB c l)
 |[]=>rfl
 |x::l=>by
  rw[zca,mz,jB,VQ x,yS l];cases sB c x<;>cases qY c x<;>cases mz c l<;>cases jB c l<;>rfl
end
end
theorem VS{p:Pr}(hd:zb0 [] (zcC p)=false)(c:Sc)(V:c.p=p)(x:St)(d:Int)(w:Bool):
 (zc8 c x=true->lI (zcF p.funcs []) c.vars c.an x d w=(true,w || !jA p x))/\(zc8 c x=false->(lI (zcF p.funcs []) c.vars c.an x d w).1=false):=by
 unfold lI zc8 jA;rw[V];by_cases i:x.kind=1
 .have U:¬x.kind=6:=by omega
  simp only[i,cZ,Int.reduceEq,iZ,gX,lw,mc,kS];exact⟨fun h=>by rw[h],fun h=>h⟩
 .by_cases U:x.kind=6
  .simp only[U,Int.reduceEq,de,cZ,mT,fI,Bool.not_not,VN];cases h:decide (0<=zbY p.funcs x.to 0)
   .simp
   .rw[VO hd (oT h),gm,fI,fI];refine⟨fun h=>?_,fun h=>h⟩;rw[h];have e:decide ((oc p x.to:Int)=(x.args.length:Int))=decide ((x.args.length:Int)=(oc p x.to:Int)):=by
     by_cases q:(oc p x.to:Int)=(x.args.length:Int)
     .rw[lD q,lD q.symm]
     .rw[mp q,mp (fun e=>q e.symm)]
    rw[e]
  .by_cases g:x.kind=2
   .simp only[g,Int.reduceEq,de,cZ,iZ,gX,lw,mc,kS];exact⟨fun h=>by rw[h],fun h=>h⟩
   .simp only[i,g,U,de,iZ,gX,lw,mc,kS];exact⟨fun _=>aw,fun h=>j6⟩
section
variable {p:Pr} (hd:zb0 [] (zcC p)=false) (c:Sc) (hc:c.p=p)
include hd hc
mutual
theorem VT:∀(x:St) (d:Int) (w:Bool),(qY c x=true->jx (lI (zcF p.funcs []) c.vars c.an) x d w=(true,w || !ev c true x))/\(qY c x=false->(jx (lI (zcF p.funcs []) c.vars c.an) x d w).1=false)
 | .mk k M U n a v Y Z V,d,w=>by
   have J:=VS hd c hc (.mk k M U n a v Y Z V) d w;rw[jx,qY,ev,gy,hc];cases g:zc8 c (.mk k M U n a v Y Z V)
   .have:=J.2 g;generalize lI _ _ _ _ _ _=r at this⊢;obtain⟨b,s⟩:=r;simp only at this;subst this;simp
   .rw[J.1 g];simp only[fI];have i:=yT Z (b9 (d+1)) (w || !jA p (.mk k M U n a v Y Z V));cases O:jB c Z
    .have:=i.2 O;generalize zcn _ Z _ _=r at this⊢;obtain⟨b,s⟩:=r;simp only at this;subst this;simp
    .rw[i.1 O];simp only[fI];have L:=yT V (b9 (d+1)) ((w || !jA p (.mk k M U n a v Y Z V)) || !zca c true Z);cases C:jB c V
     .exact⟨fun h=>j6,fun _=>L.2 C⟩
     .refine⟨fun _=>?_,fun h=>j6⟩;rw[L.1 C]
      congr 1
      cases w<;>cases jA p (.mk k M U n a v Y Z V)<;>cases zca c true Z<;>cases zca c true V<;>rfl
theorem yT:∀(l:List St) (d:Int) (w:Bool),(jB c l=true->zcn (lI (zcF p.funcs []) c.vars c.an) l d w=(true,w || !zca c true l))/\(jB c l=false->(zcn (lI (zcF p.funcs []) c.vars c.an) l d w).1=false)
 |[],d,w=>by
  rw[zcn,jB,zca];exact⟨fun _=>aw,fun h=>j6⟩
 |x::l,d,w=>by
  have J:=VT x d w;rw[zcn,jB,zca];cases g:qY c x
  .have:=J.2 g;generalize jx _ x _ _=r at this⊢;obtain⟨b,s⟩:=r;simp only at this;subst this;simp
  .rw[J.1 g];simp only[fI];have Z:=yT l d (w || !ev c true x);cases C:jB c l
   .exact⟨fun h=>j6,fun _=>Z.2 C⟩
   .refine⟨fun _=>?_,fun h=>j6⟩;rw[Z.1 C]
    congr 1
    cases w<;>cases ev c true x<;>cases zca c true l<;>rfl
end
end
theorem Ht{p:Pr}(hd:zb0 [] (zcC p)=false):∀(l:List Fu) (w:Bool),p8 (zcF p.funcs []) (zbF p) l w=if l.any (ky p)=true then 3 else if (w||l.any (my p))=true then 5 else 0
 |[],w=>by simp[p8]
 |f::fs,w=>by
  have j:=yT hd (ey p f) rfl f.body 0 w;have M:(ey p f).vars=f.params++f.locals:=rfl;have ha:(ey p f).an=zbF p:=rfl;rw[M,ha]at j;have U:ng (fun x _=>fD (f.params++f.locals) (zbF p) x) f=(dQ (f.params++f.locals) (zbF p) f.value&&mz (ey p f) f.body):=by
   rw[ng,CB];have:=yR (ey p f) f.body 0;rw[M,ha]at this;rw[this]
  have J:ky p f=!(ng (fun x _=>fD (f.params++f.locals) (zbF p) x) f&&jB (ey p f) f.body):=by
   rw[ky,U,yS,M,ha];cases dQ (f.params++f.locals) (zbF p) f.value<;>cases mz (ey p f) f.body<;>cases jB (ey p f) f.body<;>rfl
  rw[p8,pY,pY,J];cases i:ng (fun x _=>fD (f.params++f.locals) (zbF p) x) f
  .simp
  .cases g:jB (ey p f) f.body
   .simp[j.2 g]
   .rw[j.1 g];simp only[oK,cZ,xH,mc,jv];rw[Ht hd fs]
    congr 2
    rw[my];cases w<;>simp
theorem VU(p:Pr):CA p=zc2 p:=by
 unfold CA zc2;rw[VJ,Hk];cases i:jP p
 .simp only[lw,qH,cK,de];cases g:iP p
  .rfl
  .simp only[qH,de];cases m:n1 p
   .simp only[cK,de];have hd:zb0 [] (zcC p)=false:=by
     rw[<-Hk,nr,iC,iC]at m;exact m.1.2
    rw[sA,Ht hd];simp
   .rfl
 .rfl
end Go.Proofs.Ytpbcimfiofmoeaa
