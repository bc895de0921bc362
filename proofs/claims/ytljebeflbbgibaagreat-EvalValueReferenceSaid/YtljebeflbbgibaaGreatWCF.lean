/- Parts: AbPure, AbWk, AbFor, AbIc, AbArg, TreeP, Pls, Seeds, Facts. -/
import Derived.Deep.Slices
import Derived.KernelRfl
import Derived.Test.YtljebeflbbgibaaGreatRows
import Derived.Test.YtljebeflbbgibaaGreatWCE
import Derived.WideKeyArgs
import Derived.WideShapes
set_option linter.unusedSimpArgs false
set_option linter.unusedVariables false
set_option linter.unusedSectionVars false
set_option linter.defProp false
set_option maxHeartbeats 32000000
namespace Go.Ab
set_option maxRecDepth 20000
open Go
theorem ad{P:Prop}(h:P:=by kernel_rfl):P:=h
theorem mp{P:Prop}(h:P:=by cases k<;>kernel_rfl):P:=h
def uJ:=@Classical.choose_spec
def cS:=@List.length_map
def rW:=@Nat.ble_eq
def pK:=@List.getElem?_cons_zero
def a7:=@and_true
def pL:=@Nat.lt_of_le_of_lt
def ac:=@And.intro
def f6:=@Bool.not_false
def ev:=@Bool.true_and
end Go.Ab
namespace Go.Ab
set_option maxRecDepth 20000
open Go
def Ri(v:AV):Prop:=∃k,∀m,k<=m->∀H,iceV H m v=some v
def RB(l:List AV):Prop:=∀v∈l,Ri v
theorem RB.nil:RB []:=fun _ h=>ko
theorem RB.cons{v:AV}{l:List AV}(h:Ri v)(I:RB l):RB (v::l):=fun w L=>by
 rcases gJ.1 L with rfl|L
 .exact h
 .exact I _ L
theorem RB.bound:∀{l:List AV},RB l->∃k,∀m,k<=m->∀H,iceL (iceV H m) l=some l
 |[],_=>⟨0,fun _ _ _=>rfl⟩
 |v::l,h=>by
  obtain⟨k1,i⟩:=h v et;obtain⟨k2,g⟩:=RB.bound (l:=l) fun w L=>h w (ft _ L)
  exact⟨max k1 k2,fun m V H=>by simp only[iceL,i m aa H,g m aa H]⟩
theorem yf:∀{l:List (List AV)},(∀O∈l,RB O)->∃k,∀m,k<=m->∀H,kT (iceV H m) l=some l
 |[],_=>⟨0,fun _ _ _=>rfl⟩
 |v::l,h=>by
  obtain⟨k1,i⟩:=(h v et).bound;obtain⟨k2,g⟩:=yf (l:=l) fun w L=>h w (ft _ L)
  exact⟨max k1 k2,fun m V H=>by simp only[kT,i m aa H,g m aa H]⟩
theorem Ri.one{v:AV}(h:∀m H,iceV H (m+1) v=some v):Ri v:=⟨1,fun m V H=>by
 obtain⟨m,rfl⟩:∃k,m=k+1:=⟨m-1,aa⟩;exact h m H⟩
theorem Ri.int(k:IntKind)(n:Int):Ri (.int k n):=.one fun _ _=>rfl
theorem Ri.bool(b:Bool):Ri (.bool b):=.one fun _ _=>rfl
theorem Ri.str(s:List UInt8):Ri (.str s):=.one fun _ _=>rfl
theorem Ri.nilS:Ri .nilS:=.one fun _ _=>rfl
theorem Ri.lst{l:List (List AV)}(h:∀O∈l,RB O):Ri (.lst l):=by
 obtain⟨k,j⟩:=yf h;refine⟨k+1,fun m V H=>?_⟩;obtain⟨m,rfl⟩:∃k,m=k+1:=⟨m-1,aa⟩;simp only[iceV,j m aa H]
theorem Ri.agg{l:List AV}(h:RB l):Ri (.agg l):=by
 obtain⟨k,j⟩:=h.bound;refine⟨k+1,fun m V H=>?_⟩;obtain⟨m,rfl⟩:∃k,m=k+1:=⟨m-1,aa⟩;simp only[iceV,j m aa H]
theorem Ri.tup{l:List AV}(h:RB l):Ri (.tup l):=by
 obtain⟨k,j⟩:=h.bound;refine⟨k+1,fun m V H=>?_⟩;obtain⟨m,rfl⟩:∃k,m=k+1:=⟨m-1,aa⟩;simp only[iceV,j m aa H]
theorem Ri.map{O:Type}{l:List O}{f:O->List AV}(h:∀x∈l,RB (f x)):Ri (.lst (l.map f)):=.lst fun Z hr=>by
 obtain⟨x,C,rfl⟩:=jA.1 hr;exact h x C
theorem yg{Y:List AV}(h:RB Y):∃k,SQ k Y=true:=by
 obtain⟨k,j⟩:=h.bound;exact⟨k,by unfold SQ;rw[j k (aC _) Qv];exact SW Y⟩
theorem yh{P:Program}{cfg:Cfg}(fit:Fit P){ρ:Nat->Int}(F:hM cfg.dec ρ)(V:∀f Y r,cfg.call f Y=some r->aX P ρ f Y r){g:FuncId}{Y:List AV}{r:AV}
 (Z:RB Y) (hr:Ri r) (h:P2 P cfg g Y Qv fun v _=>v=r):aX P ρ g Y r:=by
 obtain⟨k,j⟩:=yg Z;obtain⟨m,U⟩:=hr;exact xJ (m:=m) fit F V j (b3 (fun v H' e=>by rw[e];exact U m (aC _) H') h)
theorem SY{P:Program}{cfg:Cfg}(fit:Fit P){ρ:Nat->Int}(F:hM cfg.dec ρ)(V:∀f Y r,cfg.call f Y=some r->aX P ρ f Y r){g:FuncId}{Y:List AV}{r:AV}{m:Nat}
 (Z:RB Y) (h:P2 P cfg g Y Qv fun v H'=>iceV H' m v=some r):aX P ρ g Y r:=by
 obtain⟨k,j⟩:=yg Z;exact xJ (m:=m) fit F V j h
structure En where
 f:FuncId
 ice:Bool
 sp:List AV->Option AV
def QT:List En->FuncId->List AV->Option AV
 |[],_,_=>none
 |e::l,f,args=>match Nat.beq e.f f with
  |true=>e.sp args
  |false=>QT l f args
def iI:List En->FuncId->Bool
 |[],_=>false
 |e::l,f=>match Nat.beq e.f f with
  |true=>e.ice
  |false=>iI l f
noncomputable def PU(pls:List (Nat×Nat×Plan))(l:List En):Cfg:={keep:=fun _=>false,call:=QT l,ice:=iI l,plan:=pu pls}
def QM(P:Program)(ρ:Nat->Int)(e:En):Prop:=∀Y r,e.sp Y=some r->aX P ρ e.f Y r
def dG(P:Program)(ρ:Nat->Int):List En->Prop
 |[]=>True
 |e::l=>QM P ρ e/\dG P ρ l
theorem dG.look{P:Program}{ρ:Nat->Int}:∀{l:List En},dG P ρ l->∀f Y r,QT l f Y=some r->aX P ρ f Y r
 |[],_,_,_,_,h=>by simp[QT]at h
 |e::l,hl,f,Y,r,h=>by
  simp only[QT]at h;split at h
  .rename_i g;rw[<-eY g];exact hl.1 Y r h
  .exact dG.look hl.2 f Y r h
noncomputable def bG{O:Type}(ok:O->Prop)(enc:O->List AV)(out:O->AV)(Y:List AV):Option AV:=open Classical in
 if h:∃x,ok x/\enc x=Y then some (out (Classical.choose h))else none
theorem pM{O:Type}{ok:O->Prop}{enc:O->List AV}{out:O->AV}(F:∀x y,enc x=enc y->x=y){x:O}(C:ok x):bG ok enc out (enc x)=some (out x):=by
 unfold bG;have h:∃y,ok y/\enc y=enc x:=⟨x,C,rfl⟩;rw[dif_pos h];rw[F _ _ (uJ h).2]
theorem yi{O:Type}{ok:O->Prop}{enc:O->List AV}{out:O->AV}{Y:List AV}(h:∀x,ok x->enc x≠Y):bG ok enc out Y=none:=by
 unfold bG;rw[dif_neg];rintro⟨x,C,e⟩;exact h x C e
theorem QP{P:Program}{ρ:Nat->Int}{O:Type}{ok:O->Prop}{f:FuncId}{ice:Bool}{enc:O->List AV}{out:O->AV}(h:∀x,ok x->aX P ρ f (enc x) (out x)):QM P ρ ⟨f,ice,bG ok enc out⟩:=fun Y r hr=>by
 change bG ok enc out Y=some r at hr;unfold bG at hr;split at hr
 .rename_i C;simp only[au]at hr;subst hr;have:=h (Classical.choose C) (uJ C).1;rw[(uJ C).2]at this;exact this
 .simp at hr
attribute [irreducible] bG
theorem pN{P:Program}{cfg:Cfg}{g:FuncId}{Y:List AV}{r:AV}{H:Hp}(h:cfg.call g Y=some r):P2 P cfg g Y H fun v H'=>v=r/\H'=H:=DG h ⟨rfl,rfl⟩
theorem Q0{P:Program}{pls:List (Nat×Nat×Plan)}{l:List En}{O:Type}{ok:O->Prop}{enc:O->List AV}{out:O->AV}(F:∀x y,enc x=enc y->x=y){g:FuncId}{x:O}(I:QT l g (enc x)=bG ok enc out (enc x))(C:ok x){H:Hp}:
 P2 P (PU pls l) g (enc x) H fun v H'=>v=out x/\H'=H:=pN (by show QT l g (enc x)=_;rw[I];exact pM F C)
theorem EY{P:Program}{ρ:Nat->Int}(fit:Fit P){pls:List (Nat×Nat×Plan)}{l:List En}(I:dG P ρ l){O:Type}(sz:O->Nat){f:FuncId}{ok:O->Prop}{enc:O->List AV}{out:O->AV}
 (m:∀x,ok x->RB (enc x)) (hr:∀x,ok x->Ri (out x))
 (h:∀x,ok x->P2 P (PU pls (⟨f,false,bG (fun y=>ok y/\sz y<sz x) enc out⟩::l)) f (enc x) Qv fun v _=>v=out x):∀x,ok x->aX P ρ f (enc x) (out x):=by
 have z:∀n x,sz x<n->ok x->aX P ρ f (enc x) (out x):=by
  intro n;induction n with
  |zero=>intro x C;omega
  |succ n ih=>
   intro x C Z;exact yh (cfg:=PU pls (⟨f,false,bG (fun y=>ok y/\sz y<sz x) enc out⟩::l)) fit (gL ρ) (fun g Y r A=>dG.look (l:=⟨f,false,bG (fun y=>ok y/\sz y<sz x) enc out⟩::l) ⟨QP fun y V=>ih y aa V.1,I⟩ g Y r A) (m x Z) (hr x Z) (h x Z)
 exact fun x=>z (sz x+1) x (dh _)
theorem Q7{P:Program}{ρ:Nat->Int}(fit:Fit P){pls:List (Nat×Nat×Plan)}{l:List En}(I:dG P ρ l){f:FuncId}{Y:List AV}{r:AV}(m:RB Y)(hr:Ri r)(h:P2 P (PU pls l) f Y Qv fun v _=>v=r):aX P ρ f Y r:=
 yh fit (gL ρ) (fun g i r A=>dG.look I g i r A) m hr h
def bg:Nat->AV->AV
 |0,v=>v
 |n+1,v=>match v with
  | .nilS=>.lst []
  | .lst K=>.lst (K.map fun O=>O.map (bg n))
  | .agg M=>.agg (M.map (bg n))
  | .tup M=>.tup (M.map (bg n))
  |v=>v
theorem VR.wk{G:Gh}:∀(n:Nat) {v:AV}{x:Value},VR G v x->VR G (bg n v) x
 |0,_,_,h=>h
 |n+1,v,x,h=>by
  cases h with
  |nilS=>exact .lst0 _ _
  |lst vs U L J hc=>
   rename_i xs b o cap z;have:=VR.lst (G:=G) (xs:=xs.map fun O=>O.map (bg n)) (b:=b) (o:=o) (cap:=cap) (z:=z) vs ?_ ?_ ?_ ?_
   .rw[cS]at this;exact this
   .intro i O hr;rw[dY]at hr;cases C:xs[i]? with
    |none=>rw[C]at hr;simp at hr
    |some Qa=>rw[C]at hr;simp only[fW,au]at hr;rw[<-hr,cS];exact U i Qa C
   .intro i j F V;rw[cS]at F;exact L i j F V
   .intro i j O c hr M;rw[dY]at hr;cases C:xs[i]? with
    |none=>rw[C]at hr;simp at hr
    |some Qa=>
     rw[C]at hr;simp only[fW,au]at hr;rw[<-hr,dY]at M;cases A:Qa[j]? with
     |none=>rw[A]at M;simp at M
     |some c0=>rw[A]at M;simp only[fW,au]at M;rw[<-M];exact VR.wk n (J i j Qa c0 C A)
   .rw[cS];exact hc
  |lst0 a cap=>exact .lst0 a cap
  |agg Z J=>
   refine .agg (by rw[cS];exact Z) fun i c v hc I=>?_;rw[dY]at hc;rename_i Y vs;cases A:Y[i]? with
   |none=>rw[A]at hc;simp at hc
   |some c0=>rw[A]at hc;simp only[fW,au]at hc;rw[<-hc];exact VR.wk n (J i c0 v A I)
  |tup Z J=>
   refine .tup (by rw[cS];exact Z) fun i c v hc I=>?_;rw[dY]at hc;rename_i Y vs;cases A:Y[i]? with
   |none=>rw[A]at hc;simp at hc
   |some c0=>rw[A]at hc;simp only[fW,au]at hc;rw[<-hc];exact VR.wk n (J i c0 v A I)
  |int k m=>exact .int k m
  |sx k e=>exact .sx k e
  |bool b=>exact .bool b
  |str s l h=>exact .str s l h
  |nilP=>exact .nilP
  |nilM=>exact .nilM
  |nilF=>exact .nilF
  |ptr h=>exact .ptr h
  |iptr vs L J=>exact .iptr vs L J
  |sl h Z hc=>exact .sl h Z hc
  |map h=>exact .map h
  |clo Z J=>exact .clo Z J
theorem aX.wk{P:Program}{ρ:Nat->Int}{f:FuncId}{Y:List AV}{r:AV}(n:Nat)(h:aX P ρ f Y r):aX P ρ f Y (bg n r):=
 ⟨h.1,fun G w vs i g o=>(h.2 G w vs i g o).mono fun _ _ ⟨v,I,U,A,Z⟩=>⟨v,I,U,A.wk n,Z⟩⟩
theorem rX{P:Program}{ρ:Nat->Int}{f:FuncId}{Y:List AV}{r i:AV}(n:Nat)(h:aX P ρ f Y r)(e:bg n r=i):aX P ρ f Y i:=e▸h.wk n
variable {P:Program} {cfg:Cfg} {f N:Nat}
theorem Rk{a:SC}{E:ai}{H:Hp}{Q:AX->ai->Hp->Prop}(cs rs:List Nat)(C n:Nat)(J:Nat->ai->Hp->Prop)(z:E.at C=.int .i64 0)(Z:J 0 E H)
 (h:∀(i:Nat) (E':ai) (H':Hp),i<=n->(∀k∈cs,E'.at k=E.at k)->(∀r∈rs,H'.get r=H.get r)->H.next<=H'.next->E'.at C=.int .i64 i->J i E' H' ->
   Wp P cfg f N a E' H' (Sg Q fun M m=>i<n/\(∀k∈cs,M.at k=E.at k)/\(∀r∈rs,m.get r=H.get r)/\H.next<=m.next/\M.at C=.int .i64 ((i+1:Nat):Int)/\J (i+1) M m)):Wp P cfg f N (.loop a) E H Q:=
 DF (fun i E' H'=>(∀k∈cs,E'.at k=E.at k)/\(∀r∈rs,H'.get r=H.get r)/\H.next<=H'.next/\E'.at C=.int .i64 i/\J i E' H') n (fun i E' H' F ⟨Y,g,o,U,A⟩=>h i E' H' F Y g o U A) ⟨fun _ _=>rfl,fun _ _=>rfl,aC _,z,Z⟩
theorem uK{a:SC}{E:ai}{H:Hp}{Q:AX->ai->Hp->Prop}(cs rs:List Nat)(J:Nat->ai->Hp->Prop)(n:Nat)(Y:J n E H)
 (h:∀(i:Nat) (E':ai) (H':Hp),(∀k∈cs,E'.at k=E.at k)->(∀r∈rs,H'.get r=H.get r)->H.next<=H'.next->J i E' H' ->
   Wp P cfg f N a E' H' (Sg Q fun M Z=>(∀k∈cs,M.at k=E.at k)/\(∀r∈rs,Z.get r=H.get r)/\H.next<=Z.next/\∃m,m<i/\J m M Z)):Wp P cfg f N (.loop a) E H Q:=
 Wp.loop (fun i E' H'=>(∀k∈cs,E'.at k=E.at k)/\(∀r∈rs,H'.get r=H.get r)/\H.next<=H'.next/\J i E' H') (fun i E' H' ⟨V,g,o,U⟩=>Wp.mono (fun x M Z I=>by
  cases x with
  |normal=>obtain⟨O,L,K,m,F,A⟩:=I;exact⟨m,F,O,L,K,A⟩
  |exit id=>exact I
  |ret=>exact I) (h i E' H' V g o U)) (n:=n) ⟨fun _ _=>rfl,fun _ _=>rfl,aC _,Y⟩
theorem QK{p:Nat->Prop}{a:Nat}{l:List Nat}:(∀k∈a::l,p k)↔p a/\∀k∈l,p k:=List.forall_mem_cons
theorem Qs{p:Nat->Prop}:(∀k∈([]:List Nat),p k)↔True:=⟨fun _=>trivial,fun _ _ h=>ko⟩
theorem Rw{a b:Nat}(h:a≠b):(a == b)=false:=iE
theorem Su{i n:Nat}(h:i<n)(m:n<2^62):AV.int .i64 (IntKind.wrap .i64 ((i:Int)+1))=.int .i64 ((i+1:Nat):Int):=by rw[D3 aa]
def QB{O β:Type}(p:O->β->Prop):List O->List β->Prop
 |[],[]=>True
 |a::l,b::m=>p a b/\QB p l m
 |_,_=>False
theorem QB.len{O β:Type}{p:O->β->Prop}:∀{l:List O}{m:List β},QB p l m->l.length=m.length
 |[],[],_=>rfl
 |_::_,_::_,h=>by simp only[em,QB.len h.2]
theorem QB.mono{O β:Type}{p q:O->β->Prop}(h:∀a b,p a b->q a b):∀{l:List O}{m:List β},QB p l m->QB q l m
 |[],[],_=>trivial
 |_::_,_::_,k=>⟨h _ _ k.1,QB.mono h k.2⟩
theorem QB.append{O β:Type}{p:O->β->Prop}:∀{l:List O}{m:List β}{g:List O}{i:List β},QB p l m->QB p g i->QB p (l++g) (m++i)
 |[],[],_,_,_,h=>h
 |_::_,_::_,_,_,h,k=>⟨h.1,QB.append h.2 k⟩
theorem QB.set{O β:Type}{p:O->β->Prop}:∀{l:List O}{m:List β},QB p l m->∀{i:Nat}{a:O}{b:β},p a b->QB p (l.set i a) (m.set i b)
 |[],[],_,i,_,_,_=>by simp[QB]
 |_::_,_::_,h,0,_,_,k=>⟨k,h.2⟩
 |_::_,_::_,h,i+1,_,_,k=>⟨h.1,QB.set h.2 k⟩
def yj(v:AV):Prop:=Ri v/\match v with
 | .sl _ _ _ _|.agg _=>False
 |_=>True
def QG(S:Nat->Prop):Nat->Hp->AV->AV->Prop
 |0,_,_,_=>False
 |n+1,H,v,u=>match v with
  | .sl r Y Z z=>S r/\r<H.next/\∃M j g l,H.get r=some (.cells M j g)/\j<=M.length/\Y+Z*z<=M.length/\QB (QG S n H) ((M.drop Y).take (Z*z)) l/\u=.lst (Rv z Z l)
  | .agg M=>∃V,QB (QG S n H) M V/\u=.agg V
  |v=>Ri v/\u=v
theorem QG.flat{S:Nat->Prop}{n:Nat}{H:Hp}{v:AV}(h:yj v):QG S (n+1) H v v:=by
 cases v<;>first|exact h.2.elim|exact⟨h.1,rfl⟩
def i8:=@QG.flat
theorem uL{S:Nat->Prop}{H:Hp}:∀{n m:Nat}{v u:AV},QG S n H v u->n<=m->QG S m H v u
 |0,_,_,_,h,_=>h.elim
 |n+1,0,_,_,_,hm=>by omega
 |n+1,m+1,v,u,h,hm=>by
  cases v with
  |sl r L K z=>
   obtain⟨i,Y,M,j,g,l,Z,o,U,A,V⟩:=h;exact⟨i,Y,M,j,g,l,Z,o,U,A.mono fun a b k=>uL k aa,V⟩
  |agg M=>
   obtain⟨O,i,Z⟩:=h;exact⟨O,i.mono fun a b k=>uL k aa,Z⟩
  |_=>exact h
def RN(a b:Option HB):Prop:=a=b\/∃M i j g,a=some (.cells M i g)/\b=some (.cells M j g)/\(i<=M.length->j<=M.length)
theorem RN.refl(a:Option HB):RN a a:=.inl rfl
theorem RN.trans{a b c:Option HB}(h:RN a b)(k:RN b c):RN a c:=by
 rcases h with rfl|⟨M,i,j,g,rfl,rfl,h⟩
 .exact k
 .rcases k with rfl|⟨Y,F,V,Z,e,rfl,k⟩
  .exact .inr ⟨M,i,j,g,rfl,rfl,h⟩
  .simp only[au,HB.cells.injEq]at e;obtain⟨rfl,rfl,rfl⟩:=e;exact .inr ⟨M,i,V,g,rfl,rfl,fun q=>k (h q)⟩
theorem QG.frame2{S S':Nat->Prop}{H H':Hp}(hS:∀k,k<H.next->S k->S' k)(m:H.next<=H'.next)(U:∀k,S k->k<H.next->RN (H.get k) (H'.get k)):∀{n:Nat}{v u:AV},QG S n H v u->QG S' n H' v u
 |0,_,_,h=>h.elim
 |n+1,v,u,h=>by
  cases v with
  |sl r off len z=>
   obtain⟨Z,O,M,L,g,l,Y,o,J,A,I⟩:=h;have V:=A.mono fun a b k=>QG.frame2 hS m U k;rcases U r Z O with e|⟨cs',i,j,F,K,e2,e3⟩
   .exact⟨hS r O Z,aa,M,L,g,l,by rw[<-e];exact Y,o,J,V,I⟩
   .rw[Y]at K;simp only[au,HB.cells.injEq]at K;obtain⟨rfl,rfl,rfl⟩:=K;exact⟨hS r O Z,aa,M,j,g,l,e2,e3 o,J,V,I⟩
  |agg M=>
   obtain⟨C,Z,Y⟩:=h;exact⟨C,Z.mono fun a b k=>QG.frame2 hS m U k,Y⟩
  |_=>exact h
theorem QG.frame{S S':Nat->Prop}(hS:∀k,S k->S' k){H H':Hp}(m:H.next<=H'.next)(g:∀k,S k->k<H.next->RN (H.get k) (H'.get k)){n:Nat}{v u:AV}(h:QG S n H v u):QG S' n H' v u:=h.frame2 (fun k _ q=>hS k q) m g
structure Icy (S:Nat->Prop) (H H':Hp):Prop where
 next:H'.next=H.next
 out:∀k,¬S k->H'.get k=H.get k
 same:∀k,RN (H.get k) (H'.get k)
theorem Icy.refl(S:Nat->Prop)(H:Hp):Icy S H H:=⟨rfl,fun _ _=>rfl,fun _=>.inl rfl⟩
theorem Icy.trans{S:Nat->Prop}{a b c:Hp}(h:Icy S a b)(k:Icy S b c):Icy S a c:=⟨k.next.trans h.next,fun r hr=>(k.out r hr).trans (h.out r hr),fun r=>(h.same r).trans (k.same r)⟩
theorem Icy.ic{S S':Nat->Prop}{H H':Hp}(h:Icy S H H'){n:Nat}{v u:AV}(k:QG S' n H v u):QG S' n H' v u:=k.frame (fun _ q=>q) (Nat.le_of_eq h.next.symm) fun r _ _=>h.same r
theorem rY{S:Nat->Prop}{n:Nat}(ih:∀{v u:AV}{H:Hp},QG S n H v u->∃H',eg n v H=some (u,H')/\Icy S H H'):∀{l m:List AV}{H:Hp},QB (QG S n H) l m->∃H',fR (eg n) l H=some (m,H')/\Icy S H H'
 |[],[],H,_=>⟨H,rfl,Icy.refl S H⟩
 |a::l,b::m,H,h=>by
  obtain⟨H1,i,g⟩:=ih h.1;obtain⟨Z,o,U⟩:=rY ih (l:=l) (m:=m) (H:=H1) (h.2.mono fun a b k=>g.ic k);exact⟨Z,by simp only[fR,i,o],g.trans U⟩
theorem QG.ice{S:Nat->Prop}:∀{n:Nat}{v u:AV}{H:Hp},QG S n H v u->∃H',eg n v H=some (u,H')/\Icy S H H'
 |0,_,_,_,h=>h.elim
 |n+1,v,u,H,h=>by
  cases v with
  |sl r Y Z z=>
   obtain⟨i,h0,M,j,g,l,U,O,K,A,rfl⟩:=h;have m:Icy S H (H.set r (.cells M (max j (Y+Z*z)) g)):=by
    refine⟨rfl,fun k V=>by rw[a9,af (fun e=>V (by rw[e];exact i))],fun k=>?_⟩;rw[a9];split
    .rename_i e;subst e;exact .inr ⟨M,j,max j (Y+Z*z),g,U,rfl,fun _=>aa⟩
    .exact .inl rfl
   obtain⟨H',J,I⟩:=rY (fun k=>QG.ice k) (A.mono fun a b k=>m.ic k);refine⟨H',?_,m.trans I⟩;have e:eg (n+1) (.sl r Y Z z) H=match H.get r with
    |some (.cells M j g)=>match Nat.ble (Y+Z*z) M.length&&Nat.ble j M.length with
     |true=>match fR (eg n) ((M.drop Y).take (Z*z)) (H.set r (.cells M (max j (Y+Z*z)) g))with
      |some (l',H)=>some (.lst (Rv z Z l'),H)
      |none=>none
     |false=>none
    |_=>none:=rfl
   rw[e,U];have F:Nat.ble (Y+Z*z) M.length=true:=by rw[rW];exact K
   have C:Nat.ble j M.length=true:=by rw[rW];exact O
   simp only[F,C,t4,J]
  |agg M=>
   obtain⟨L,i,rfl⟩:=h;obtain⟨H',U,O⟩:=rY (fun k=>QG.ice k) i;refine⟨H',?_,O⟩;have e:eg (n+1) (.agg M) H=match fR (eg n) M H with
    |some (L,H)=>some (.agg L,H)
    |none=>none:=rfl
   rw[e,U]
  |ptr r o=>
   obtain⟨k,V⟩:=h.1;exact absurd (V (k+1) aa H) (by simp[iceV])
  |map r=>
   obtain⟨k,V⟩:=h.1;exact absurd (V (k+1) aa H) (by simp[iceV])
  |_=>exact⟨H,by rw[show u=_ from h.2];rfl,Icy.refl S H⟩
theorem QG.iceL{S:Nat->Prop}{n:Nat}{l m:List AV}{H:Hp}(h:QB (QG S n H) l m):∃H',fR (eg n) l H=some (m,H')/\Icy S H H':=rY (fun k=>QG.ice k) h
theorem uM{S:Nat->Prop}{n:Nat}{H:Hp}(ih:∀{v u:AV},QG S n H v u->∃Y,∀m,Y<=m->iceV H m v=some u):∀{l k:List AV},QB (QG S n H) l k->∃Y,∀m,Y<=m->iceL (iceV H m) l=some k
 |[],[],_=>⟨0,fun _ _=>rfl⟩
 |a::l,b::k,h=>by
  obtain⟨Sk,i⟩:=ih h.1;obtain⟨V,g⟩:=uM ih (l:=l) (k:=k) h.2;exact⟨max Sk V,fun m Z=>by simp only[iceL,i m aa,g m aa]⟩
theorem QG.iceV{S:Nat->Prop}{H:Hp}:∀{n:Nat}{v u:AV},QG S n H v u->∃V,∀m,V<=m->iceV H m v=some u
 |0,_,_,h=>h.elim
 |n+1,v,u,h=>by
  cases v with
  |sl r U Z z=>
   obtain⟨i,C,M,L,K,l,J,o,h4,A,rfl⟩:=h;obtain⟨V,Y⟩:=uM (fun k=>QG.iceV k) A;refine⟨V+1,fun m O=>?_⟩;obtain⟨m,rfl⟩:∃k,m=k+1:=⟨m-1,aa⟩;have e:Ab.iceV H (m+1) (.sl r U Z z)=match H.get r with
    |some (.cells M _ _)=>match Ab.iceL (Ab.iceV H m) ((M.drop U).take (Z*z))with
     |some g=>if g.length=Z*z then some (.lst (Rv z Z g))else none
     |none=>none
    |_=>none:=rfl
   have F:l.length=Z*z:=by rw[<-A.len,kU,hI];omega
   rw[e,J];simp only[Y m aa,F,cr]
  |agg M=>
   obtain⟨j,i,rfl⟩:=h;obtain⟨V,Y⟩:=uM (fun k=>QG.iceV k) i;refine⟨V+1,fun m O=>?_⟩;obtain⟨m,rfl⟩:∃k,m=k+1:=⟨m-1,aa⟩;have e:Ab.iceV H (m+1) (.agg M)=match Ab.iceL (Ab.iceV H m) M with
    |some j=>some (.agg j)
    |none=>none:=rfl
   rw[e,Y m aa]
  |_=>
   obtain⟨k,I⟩:=h.1;exact⟨k,fun m O=>by rw[I m O H,h.2]⟩
theorem chunk_rows(z:Nat):∀(rows:List (List AV)),(∀r∈rows,r.length=z)->Rv z rows.length rows.flatten=rows
 |[],_=>rfl
 |r::rows,h=>by
  have i:=h r et;rw[ju,em];show(r++rows.flatten).take z::Rv z rows.length ((r++rows.flatten).drop z)=_;rw[qL aa,fF aa,qV aa,tq aa,e6,chunk_rows z rows fun q I=>h q (ft _ I)]
theorem nE{z:Nat}:∀{rows:List (List AV)},(∀r∈rows,r.length=z)->rows.flatten.length=rows.length*z
 |[],_=>by simp
 |r::rows,h=>by
  rw[ju,eh,h r et,nE fun q I=>h q (ft _ I),em,kZ];omega
theorem QB.flat{p:AV->AV->Prop}:∀{a b:List (List AV)},QB (QB p) a b->QB p a.flatten b.flatten
 |[],[],_=>trivial
 |_::_,_::_,h=>by rw[ju,ju];exact h.1.append (QB.flat h.2)
theorem QB.rowlen{p:AV->AV->Prop}{z:Nat}:∀{a b:List (List AV)},QB (QB p) a b->(∀r∈a,r.length=z)->∀r∈b,r.length=z
 |[],[],_,_,r,hr=>by simp at hr
 |x::a,y::b,h,hz,r,hr=>by
  rcases gJ.1 hr with rfl|hr
  .rw[<-h.1.len];exact hz x et
  .exact QB.rowlen h.2 (fun q I=>hz q (ft _ I)) r hr
theorem QG.rows{S:Nat->Prop}{n:Nat}{H:Hp}{r z imm:Nat}{tip:Bool}{a b:List (List AV)}(hS:S r)(hr:r<H.next)(A:H.get r=some (.cells a.flatten imm tip))(F:imm<=a.flatten.length)(C:∀x∈a,x.length=z)(h:QB (QB (QG S n H)) a b):QG S (n+1) H (.sl r 0 a.length z) (.lst b):=by
 have I:=nE C;refine⟨hS,hr,a.flatten,imm,tip,b.flatten,A,F,aa,?_,?_⟩
 .rw[eN,fF aa];exact h.flat
 .rw[h.len,chunk_rows z b (h.rowlen C)]
theorem bl.wk{G:Gh}(n:Nat):∀{Y:List AV}{vs:List Value},bl G Y vs->bl G (Y.map (bg n)) vs
 |[],vs,h=>h
 |a::l,[],h=>by have:=h.1;simp at this
 |a::l,v::vs,h=>by
  obtain⟨i,g⟩:=h.of_cons;exact fq (i.wk n) (bl.wk n g)
theorem aX.wkA{P:Program}{ρ:Nat->Int}{f:FuncId}{Y:List AV}{r:AV}(n:Nat)(h:aX P ρ f (Y.map (bg n)) r):aX P ρ f Y r:=⟨h.1,fun G w vs i g o=>h.2 G w vs i g (o.wk n)⟩
def i9(e:En):En:=⟨e.f,e.ice,fun Y=>e.sp (Y.map (bg 60))⟩
theorem nF{P:Program}{ρ:Nat->Int}{e:En}(h:QM P ρ e):QM P ρ (i9 e):=fun Y r hr=>(h _ r hr).wkA 60
open Go Go.WideShapes Go.Deep Go.RowKit Go.ChangeShapes
def nG(W:World):Nat->Nat->Option Value:=fun b o=>W.cell? ⟨b,o,none⟩
theorem EZ(W:World):∀b o v,nG W b o=some v->W.cell? ⟨b,o,none⟩=some v:=fun _ _ _ h=>h
section
variable {H:Type} {enc:TypeId × Value -> H} {P:Program} {W:World}
theorem E7{r:Reach}{b0:Nat}{t e:TypeId}{k:IntKind}{v:Value}{d:DataW H}{ps:List MemPlace}{sp:Nat->Bool}{J:Bool}(ht:P.underlying t=some (.slice e))(he:P.underlying e=some (.int k))(hc:P.cellsOf e=1)(U:Value.okWide P W r b0 t v)(hd:DataW.Trod enc P W 0 sp J t v d ps)(β:Nat->Option (Nat×Nat×Nat))(ρ:Nat->Int):
 ∃l:List Int,VR ⟨β,nG W,ρ⟩ (.lst (l.map fun n=>[AV.int k n])) v/\l.length<=maxLen/\∀n∈l,(Lit.int k n).wf=true:=by
 obtain⟨a0,iT,Y,rfl⟩:=okWide_slice ht U;obtain⟨fuel,hf⟩:=hd;rcases open_slice1 ht hc hf with⟨h,_⟩|⟨a,len,cap,m,n,V,D,Pl,h,hb,hl,hm,hmm,hx,hV⟩
 .simp[Value.cells]at h;obtain⟨rfl,rfl,rfl⟩:=h;exact⟨[],.lst0 _ _,ca _,fun _ h=>absurd h aA⟩
 .simp[Value.cells]at h;obtain⟨rfl,rfl,rfl⟩:=h;have hlm:iT<=m:=by rw[hmm];split<;>omega
  have M:∀i,∃n:Int,i<iT->V i=.int k n/\(Lit.int k n).wf=true:=fun i=>by
   by_cases Z:i<iT
   .obtain⟨n',h1,_,h2⟩:=DataW.trod_int he (hV i aa).2;simp at h1;exact⟨n',fun _=>⟨h1,h2⟩⟩
   .exact⟨0,fun h=>absurd h Z⟩
  obtain⟨N,I⟩:=Classical.axiomOfChoice M;have hN:∀i,i<iT->V i=.int k (N i):=fun i h=>(I i h).1;refine⟨(List.range iT).map N,?_,cQ,fun n A=>by
   obtain⟨i,Z,rfl⟩:=jA.1 A;exact(I i (jy.1 Z)).2⟩
  by_cases h0:iT=0
  .subst h0;exact .lst0 _ _
  obtain⟨ab,ao,K⟩:=a;have O:K=none:=by
   have:=(hV 0 aa).1;simp only[Addr.add,cr,World.cell?]at this;split at this
   .split at this
    .cases this
    .rename_i A;cases K with
     |none=>rfl
     |some s=>simp at A
   .cases this
  subst O;have F:(((List.range iT).map N).map fun n=>[AV.int k n]).length=iT:=aA;have C:=VR.lst (G:=⟨β,nG W,ρ⟩) (xs:=((List.range iT).map N).map fun n=>[AV.int k n]) (b:=ab) (o:=ao) (cap:=Y) (z:=1) (fun i _=>V i) ?_ ?_ ?_ (by rw[F];omega)
  .rw[F]at C;exact C
  .intro i g hr;rw[dY]at hr;cases hq:((List.range iT).map N)[i]? with
   |none=>rw[hq]at hr;simp at hr
   |some q=>rw[hq]at hr;simp only[fW,au]at hr;rw[<-hr];rfl
  .intro i j Z hj;rw[F]at Z;have h2:=(hV i aa).1;show W.cell? ⟨ab,ao+i*1+j,none⟩=some (V i);have hj0:j=0:=aa;subst hj0;rw[<-h2]
   congr 1
   unfold Addr.add;split
   .rename_i h;subst h;rfl
   .simp
  .intro i j g c hr L;rw[dY,dY]at hr;by_cases Z:i<iT
   .rw[List.getElem?_range Z]at hr;simp only[fW,au]at hr;subst hr;cases j with
    |zero=>
     simp only[pK,au]at L;subst L;show VR _ _ (V i);rw[hN i Z];exact .int k _
    |succ j=>simp at L
   .rw[lf cQ]at hr;simp at hr
theorem yk{r:Reach}{Y:Nat}{t e:TypeId}{k:IntKind}{v:Value}{d:DataW H}{ps:List MemPlace}{g:Nat->Bool}{J:Bool}(o:P.underlying t=some (.slice e))(F:P.underlying e=some (.int k))(V:P.cellsOf e=1)(U:Value.okWide P W r Y t v)(hd:DataW.Trod enc P W 0 g J t v d ps)(β:Nat->Option (Nat×Nat×Nat))(ρ:Nat->Int):
 ∃l:List Int,VR ⟨β,nG W,ρ⟩ (.lst (l.map fun n=>[AV.int k n])) v/\l.length<=maxLen:=by
 obtain⟨l,i,Z,_⟩:=E7 o F V U hd β ρ;exact⟨l,i,Z⟩
theorem yl{t:TypeId}(I:laidOutB P=true)(hr:P.readableRec t=true)(C:t<P.types.size){g:World}{v:Value}{d:DataW H}{ps i:List MemPlace}
 (h:DataW.Trod enc P W 0 (fun _=>true) true t v d ps) (z:Below W.heap.size W g) (M:∀p∈i,p.block<W.heap.size) (J:∀p∈ps,p∈i) {Y:Nat->Bool} (j:∀p∈i,Y p.block=true) :
 DataW.Trod enc P g 0 Y true t v d ps:=
 WideElems.Trod_stays I hr C h (fun x Z=>z.same (M x (J x Z))) fun x Z=>j x (J x Z)
end
theorem Ex.pure(x:Ex):RB x.cells:=by
 have z:∀n (x:Ex),x.sz<n->RB x.cells:=by
  intro n;induction n with
  |zero=>intro x h;omega
  |succ n ih=>
   intro x h;rw[mj];refine .cons (.int _ _) (.cons (.int _ _) (.cons (.str _) (.cons (.int _ _) (.cons (.map fun y A=>ih y ?_) .nil))));have:=rQ A;have:=x.sz_eq;omega
 exact z _ x (dh _)
theorem uN(l:List Ex):Ri (.lst (l.map Ex.cells)):=.map fun x _=>x.pure
theorem St.pure(x:St):RB x.cells:=by
 have z:∀n (x:St),x.sz<n->RB x.cells:=by
  intro n;induction n with
  |zero=>intro x h;omega
  |succ n ih=>
   intro x h;rw[rM];have:=x.sz_eq;refine .cons (.int _ _) (.cons (.str _) (.cons (.str _) (.cons (.int _ _) (.cons (.int _ _) (.cons (.int _ _) (.cons (.str _) (.cons (.int _ _) (.cons (uN _) (.cons (.int _ _) (.cons (.int _ _) (.cons (.str _) (.cons (.int _ _) (.cons (uN _) (.cons (uN _) (.cons (.map fun y A=>ih y ?_) (.cons (.map fun y A=>ih y ?_) .nil))))))))))))))))
   .have:=uD A;omega
   .have:=uD A;omega
 exact z _ x (dh _)
theorem rZ{O β:Type}{f:O->β}:∀{a b:List O},(∀x∈a,∀y,f x=f y->x=y)->a.map f=b.map f->a=b
 |[],[],_,_=>rfl
 |[],_::_,_,h=>by simp at h
 |_::_,[],_,h=>by simp at h
 |x::a,y::b,hf,h=>by
  simp only[dS,dz]at h;rw[hf x et y h.1,rZ (fun z C=>hf z (ft _ C)) h.2]
theorem Ex.ext'{x y:Ex}(z:x.kind=y.kind)(i:x.n=y.n)(g:x.name=y.name)(o:x.op=y.op)(U:x.kids=y.kids):x=y:=by
 cases x;cases y;simp only[Ex.kind,Ex.n,Ex.name,Ex.op,Ex.kids]at *;simp[*]
theorem Ex.inj{x y:Ex}(h:x.cells=y.cells):x=y:=by
 have Z:∀n (x:Ex),x.sz<n->∀y,x.cells=y.cells->x=y:=by
  intro n;induction n with
  |zero=>intro x h;omega
  |succ n ih=>
   intro x h y e;rw[mj,mj]at e;simp only[dz,AV.int.injEq,AV.str.injEq,AV.lst.injEq,fJ,a7]at e;obtain⟨J,Y,V,I,A⟩:=e;refine Ex.ext' J Y V I (rZ (fun z C=>ih z ?_) A);have:=rQ C;have:=x.sz_eq;omega
 exact Z _ x (dh _) y h
theorem Sv(l:List Int):Ri (Qg l):=.map fun x _=>.cons (.int _ _) .nil
theorem Nd.pure(x:Nd):RB x.cells:=.cons (.int _ _) (.cons (.int _ _) (.cons (Sv _) .nil))
def nH:=@Nd.pure
theorem ym{a b:List Int}(h:(a.map fun n=>[AV.int .i64 n])=b.map fun n=>[AV.int .i64 n]):a=b:=rZ (fun x _ y e=>by simpa using e) h
theorem Nd.inj{x y:Nd}(h:x.cells=y.cells):x=y:=by
 obtain⟨n,p,k⟩:=x;obtain⟨C,o,k'⟩:=y;simp only[Nd.cells,dz,AV.int.injEq,AV.lst.injEq,fJ,a7]at h;rw[h.1,h.2.1,ym h.2.2]
def nI:=@Nd.inj
end Go.Ab
namespace Go.Proofs.YtljebeflbbgibaaGreat
set_option maxRecDepth 20000
open Go Go.Ab
theorem fit:Fit Tryz.prog:=Fit.of ad
def pls:List (Nat×Nat×Plan):=[(7,9,(.perm [0,1,2,4,5,8,10,3,6,7,9,11])),
 (7,10,(.perm [0,1,2,4,5,8,10,3,6,7,9,11])),
 (8,4,(.perm [0,1,2,4,5,6,7,11,12,3,8,9,10,13,14])),
 (14,22,(.perm [0,1,2,3,4,5,6,7,10,8,9,11])),
 (73,14,(.perm [0,1,2,4,5,7,9,3,6,8,10])),
 (116,23,(.perm [0,1,2,3,4,5,6,7,9,10,11,12,13,14,8,15,16,17,18,19])),
 (116,24,(.perm [0,1,2,3,4,5,6,8,9,10,11,12,13,7,14,15,16])),
 (152,13,(.perm [0,1,2,3,4,5,6,8,9,7,10,11,12])),
 (176,23,(.perm [0,2,3,4,5,6,7,1,8,9]))]
def nJ(l:List Int):AV:=.lst (l.map fun n=>[.int .i64 n])
theorem yn(l:List Int):Ri (nJ l):=.map fun n _=>.cons (.int _ _) .nil
theorem yo{n:Nat}(h:n<=maxLen):n<2^63:=pL h bA
theorem E8:Tryz.prog.cellsOf 3=1:=ad
set_option maxRecDepth 100000 in
theorem E9{H:Type}{enc:TypeId×Value->H}{W:World}{M:Value}{r:Reach}{Y:Nat}(k0:Value.okWide Tryz.prog W r Y 23 M){d:DataW H}{ps:List MemPlace}{g:Nat->Bool}{J:Bool}(z:DataW.Trod enc Tryz.prog W 0 g J 23 M d ps):∃l:List Int,VR ⟨fun _=>none,nG W,fun _=>0⟩ (nJ l) M/\l.length<2^63:=by
 obtain⟨l,Z,I⟩:=yk Tryz.underlying23 Tryz.underlying3 E8 k0 z (fun _=>none) (fun _=>0);exact⟨l,Z,yo I⟩
def P7:=ac @EM (ac @List.toList_toArray.{0} (ac @Re (ac @SR (ac @So (ac @gK (ac @f6 (ac @List.length_map.{0,0} (ac @Int.natCast_zero (ac @DI (ac @DJ (ac @DK (ac @DL (ac @DM (ac @uA (ac @cond_true.{1} (ac @cond_false.{1} (@bZ)))))))))))))))))
def Qy:=ac @Ex.clen (ac @Ex.c0 (ac @Ex.c1 (ac @Ex.c2 (ac @Ex.c3 (ac @Ex.c4 (ac @Ex.whole (ac @Ex.one (ac @St.clen (ac @St.c0 (ac @St.c1 (ac @St.c2 (ac @St.c3 (ac @St.c4 (ac @St.c5 (ac @St.c6 (ac @St.c7 (ac @St.c8 (ac @St.c9 (ac @St.c10 (ac @St.c11 (ac @St.c12 (ac @St.c13 (ac @St.c14 (ac @St.c15 (ac @St.c16 (ac @St.whole (ac @St.one (ac @ED (ac @St.part_value (ac @Fu.clen (ac @Fu.c0 (ac @Fu.c1 (ac @Fu.c2 (ac @Fu.c3 (ac @Fu.c4 (ac @Fu.c5 (ac @Fu.c6 (ac @Fu.c7 (ac @Fu.c8 (ac @Fu.whole (ac @Fu.one (ac @Fu.part_value (ac @Ar.clen (ac @Ar.c0 (ac @Ar.c1 (ac @Ar.whole (ac @Ar.one (ac @Pr.clen (ac @Pr.c0 (ac @Pr.c1 (ac @Pr.whole (ac @Pr.one (ac @Tk.clen (ac @Tk.c0 (ac @Tk.c1 (ac @Tk.c2 (ac @Tk.whole (ac @Tk.one (ac @Nd.clen (ac @Nd.c0 (ac @Nd.c1 (ac @Nd.c2 (ac @Nd.whole (ac @Nd.one (ac @Gr.clen (ac @Gr.c0 (ac @Gr.c1 (ac @Gr.c2 (ac @Gr.c3 (ac @Gr.c4 (ac @Gr.whole (ac @Gr.one (ac @Un.clen (ac @Un.c0 (ac @Un.c1 (ac @Un.whole (ac @Un.one (ac @Ev (ac @Ew (ac @Ey (ac @Ez (ac @List.getElem?_drop.{0} (ac @np (ac @if_true.{1} (ac @rK (ac @rJ (ac @xR (ac @Ec (ac @cells_int (ac @xS (ac @Ed (ac @Ee (ac @Ef (ac @Eg (ac @Eh (ac @Ei (ac @Ej (ac @Ek (ac @El (ac @Em (ac @Eo (ac @Ep (ac @Er (ac @Es (ac @Et (ac @Eu (ac @List.all_cons.{0} (ac @List.all_nil.{0} (ac @f0 (ac @ev (ac @a7 (ac @fJ (ac @ca (ac @aC (ac @List.nil_append.{0} (ac @List.append_nil.{0} (ac @List.cons_append.{0} (ac @QA (ac @QZ (ac @Re (ac @beq_self_eq_true.{0} (ac @EA (ac @EB (ac @EC (ac @fo (ac @List.getElem?_map.{0,0} (ac @Option.map_some.{0,0} (ac @D9 (ac @Ea (ac @D8 (ac @D5 (ac @D6 (ac @get_set (ac @Eb (ac @List.getElem?_cons_succ.{0} (ac @List.getElem?_cons_zero.{0} (ac @List.drop_succ_cons.{0} (ac @List.drop_zero.{0} (ac @List.take_succ_cons.{0} (ac @List.take_zero.{0} (ac @List.length_cons.{0} (ac @List.length_nil.{0} (ac @Int.natCast_nonneg (ac @cY (ac @DN (ac @DO (ac @DP (ac @DQ (ac @DR (ac @DS (ac @DT (ac @DU (ac @DV (ac @DW (ac @DX (ac @DY (ac @DZ (ac @D0 (ac @D1 (@D2))))))))))))))))))))))))))))))))))))))))))))))))))))))))))))))))))))))))))))))))))))))))))))))))))))))))))))))))))))))))))))))))))))))))))))))))))))))))))))))))
structure Plain (cfg:Cfg) (f:FuncId):Prop where
 call:∀args,cfg.call f args=none
 ice:cfg.ice f=false
 froz:cfg.froz f=false
theorem uO:P3 Tryz.prog 2=some 1:=ad
theorem yp:QI Tryz.prog 2=some 8:=ad
theorem Fa(cs:List AV)(o:Nat):PY Tryz.prog 2 cs o=cs[o]?:=Rp Tryz.underlying2 rfl cs o
theorem yq:Qx Tryz.prog 2=some [(.int .i64 0)]:=ad
def dr:=ac @uO (ac @Fa (ac @yp (@yq)))
theorem fy:P3 Tryz.prog 3=some 1:=ad
theorem mq:QI Tryz.prog 3=some 8:=ad
theorem Fb(cs:List AV)(o:Nat):PY Tryz.prog 3 cs o=cs[o]?:=Rp Tryz.underlying3 rfl cs o
theorem mr:Qx Tryz.prog 3=some [(.int .i64 0)]:=ad
def cZ:=ac @fy (ac @Fb (ac @mq (@mr)))
theorem r0:P3 Tryz.prog 4=some 1:=ad
theorem yr:QI Tryz.prog 4=some 1:=ad
theorem Fc(cs:List AV)(o:Nat):PY Tryz.prog 4 cs o=cs[o]?:=Rp Tryz.underlying4 rfl cs o
theorem yu:Qx Tryz.prog 4=some [(.bool false)]:=ad
def pO:=ac @r0 (ac @Fc (ac @yr (@yu)))
theorem uP:P3 Tryz.prog 5=some 1:=ad
theorem uQ:QI Tryz.prog 5=some 1:=ad
theorem Fe(cs:List AV)(o:Nat):PY Tryz.prog 5 cs o=cs[o]?:=Rp Tryz.underlying5 rfl cs o
theorem uR:Qx Tryz.prog 5=some [(.int .u8 0)]:=ad
def uS:=ac @uP (ac @Fe (ac @uQ (@uR)))
theorem Ff:P3 Tryz.prog 9=some 1:=ad
theorem Fg:QI Tryz.prog 9=some 16:=ad
theorem Fh(cs:List AV)(o:Nat):PY Tryz.prog 9 cs o=cs[o]?:=Rp Tryz.underlying9 rfl cs o
theorem Fi:Qx Tryz.prog 9=some [(.str [])]:=ad
theorem Fj(H:Hp)(s:List UInt8):Qr Tryz.prog H 9 (.str s)=some (.int .i64 s.length):=D4 Tryz.underlying9 s
theorem Fk(s:List UInt8){n:Int}(m:0<=n)(k:IntKind):jl Tryz.prog 9 (.str s) (.int k n)=rI (s[n.toNat]?):=D7 Tryz.underlying9 s m k
def jK:=ac @Ff (ac @Fh (ac @Fg (ac @Fi (ac @Fj (@Fk)))))
theorem Fl:P3 Tryz.prog 23=some 1:=ad
theorem Fm:QI Tryz.prog 23=some 24:=ad
theorem Fo(cs:List AV)(o:Nat):PY Tryz.prog 23 cs o=cs[o]?:=Rp Tryz.underlying23 rfl cs o
theorem Fp:Qx Tryz.prog 23=some [.nilS]:=ad
theorem Fq(xs:List (List AV)){n:Int}(m:0<=n)(k:IntKind):Qt Tryz.prog 23 (.lst xs) (.int k n)=fw 1 (xs[n.toNat]?):=Si Tryz.underlying23 (show P3 Tryz.prog 3=some 1 from by kernel_rfl) xs m k
theorem Fs(r o l z:Nat){n:Int}(m:0<=n)(k:IntKind):Qt Tryz.prog 23 (.sl r o l z) (.int k n)=bif decide (n.toNat<l)then some (.ptr r (o+n.toNat*1))else none:=Sj Tryz.underlying23 (show P3 Tryz.prog 3=some 1 from by kernel_rfl) r o l z m k
theorem Ft(H:Hp)(xs:List (List AV)):Qr Tryz.prog H 23 (.lst xs)=some (.int .i64 xs.length):=Sh Tryz.underlying23 xs
theorem Fv(H:Hp)(r o n z:Nat):Qr Tryz.prog H 23 (.sl r o n z)=some (.int .i64 n):=RY Tryz.underlying23 r o n z
theorem Fw(H:Hp):Qr Tryz.prog H 23 .nilS=some (.int .i64 0):=Sa Tryz.underlying23
def dK:=ac @Fl (ac @Fo (ac @Fm (ac @Fp (ac @Fq (ac @Fs (ac @Ft (ac @Fv (@Fw))))))))
theorem jL:P3 Tryz.prog 25=some 3:=ad
theorem nK:QI Tryz.prog 25=some 40:=ad
theorem Fx(cs:List AV)(o:Nat):PY Tryz.prog 25 cs o=QW 3 (cs.drop o):=jk Tryz.underlying25 rfl jL cs o
theorem nL:Qx Tryz.prog 25=some [(.int .i64 0),(.int .i64 0),.nilS]:=ad
theorem Fy(r o:Nat):PW Tryz.prog 25 (.ptr r o) 0=some (.ptr r (o+0)):=ad
theorem Fz(cs:List AV):PW Tryz.prog 25 (.iptr cs) 0=some (.iptr (cs.drop 0)):=ad
theorem FA(cs:List AV):Qu Tryz.prog 25 (.agg cs) 0=PY Tryz.prog 3 cs 0:=ad
theorem FB(r o:Nat):PW Tryz.prog 25 (.ptr r o) 1=some (.ptr r (o+1)):=ad
theorem FC(cs:List AV):PW Tryz.prog 25 (.iptr cs) 1=some (.iptr (cs.drop 1)):=ad
theorem FD(cs:List AV):Qu Tryz.prog 25 (.agg cs) 1=PY Tryz.prog 2 cs 1:=ad
theorem FE(r o:Nat):PW Tryz.prog 25 (.ptr r o) 2=some (.ptr r (o+2)):=ad
theorem FF(cs:List AV):PW Tryz.prog 25 (.iptr cs) 2=some (.iptr (cs.drop 2)):=ad
theorem FG(cs:List AV):Qu Tryz.prog 25 (.agg cs) 2=PY Tryz.prog 23 cs 2:=ad
def ey:=ac @jL (ac @Fx (ac @nK (ac @nL (ac @Fy (ac @Fz (ac @FA (ac @FB (ac @FC (ac @FD (ac @FE (ac @FF (@FG))))))))))))
theorem FH:P3 Tryz.prog 26=some 1:=ad
theorem FI:QI Tryz.prog 26=some 24:=ad
theorem FJ(cs:List AV)(o:Nat):PY Tryz.prog 26 cs o=cs[o]?:=Rp Tryz.underlying26 rfl cs o
theorem FK:Qx Tryz.prog 26=some [.nilS]:=ad
theorem FL(xs:List (List AV)){n:Int}(m:0<=n)(k:IntKind):Qt Tryz.prog 26 (.lst xs) (.int k n)=fw 3 (xs[n.toNat]?):=Si Tryz.underlying26 (show P3 Tryz.prog 25=some 3 from by kernel_rfl) xs m k
theorem FM(r o l z:Nat){n:Int}(m:0<=n)(k:IntKind):Qt Tryz.prog 26 (.sl r o l z) (.int k n)=bif decide (n.toNat<l)then some (.ptr r (o+n.toNat*3))else none:=Sj Tryz.underlying26 (show P3 Tryz.prog 25=some 3 from by kernel_rfl) r o l z m k
theorem FN(H:Hp)(xs:List (List AV)):Qr Tryz.prog H 26 (.lst xs)=some (.int .i64 xs.length):=Sh Tryz.underlying26 xs
theorem FO(H:Hp)(r o n z:Nat):Qr Tryz.prog H 26 (.sl r o n z)=some (.int .i64 n):=RY Tryz.underlying26 r o n z
theorem FP(H:Hp):Qr Tryz.prog H 26 .nilS=some (.int .i64 0):=Sa Tryz.underlying26
def ez:=ac @FH (ac @FJ (ac @FI (ac @FK (ac @FL (ac @FM (ac @FN (ac @FO (@FP))))))))
theorem FQ:P3 Tryz.prog 30=some 1:=ad
theorem FR:QI Tryz.prog 30=some 24:=ad
theorem FS(cs:List AV)(o:Nat):PY Tryz.prog 30 cs o=cs[o]?:=Rp Tryz.underlying30 rfl cs o
theorem FT:Qx Tryz.prog 30=some [.nilS]:=ad
theorem FU(xs:List (List AV)){n:Int}(m:0<=n)(k:IntKind):Qt Tryz.prog 30 (.lst xs) (.int k n)=fw 2 (xs[n.toNat]?):=Si Tryz.underlying30 (show P3 Tryz.prog 42=some 2 from by kernel_rfl) xs m k
theorem FV(r o l z:Nat){n:Int}(m:0<=n)(k:IntKind):Qt Tryz.prog 30 (.sl r o l z) (.int k n)=bif decide (n.toNat<l)then some (.ptr r (o+n.toNat*2))else none:=Sj Tryz.underlying30 (show P3 Tryz.prog 42=some 2 from by kernel_rfl) r o l z m k
theorem FW(H:Hp)(xs:List (List AV)):Qr Tryz.prog H 30 (.lst xs)=some (.int .i64 xs.length):=Sh Tryz.underlying30 xs
theorem FX(H:Hp)(r o n z:Nat):Qr Tryz.prog H 30 (.sl r o n z)=some (.int .i64 n):=RY Tryz.underlying30 r o n z
theorem FY(H:Hp):Qr Tryz.prog H 30 .nilS=some (.int .i64 0):=Sa Tryz.underlying30
def yw:=ac @FQ (ac @FS (ac @FR (ac @FT (ac @FU (ac @FV (ac @FW (ac @FX (@FY))))))))
theorem yx:P3 Tryz.prog 32=some 2:=ad
theorem FZ:QI Tryz.prog 32=some 48:=ad
theorem F0(cs:List AV)(o:Nat):PY Tryz.prog 32 cs o=QW 2 (cs.drop o):=jk Tryz.underlying32 rfl yx cs o
theorem F2:Qx Tryz.prog 32=some [.nilS,.nilS]:=ad
theorem F8(r o:Nat):PW Tryz.prog 32 (.ptr r o) 0=some (.ptr r (o+0)):=ad
theorem F9(cs:List AV):PW Tryz.prog 32 (.iptr cs) 0=some (.iptr (cs.drop 0)):=ad
theorem Ga(cs:List AV):Qu Tryz.prog 32 (.agg cs) 0=PY Tryz.prog 30 cs 0:=ad
theorem Gb(r o:Nat):PW Tryz.prog 32 (.ptr r o) 1=some (.ptr r (o+1)):=ad
theorem Gc(cs:List AV):PW Tryz.prog 32 (.iptr cs) 1=some (.iptr (cs.drop 1)):=ad
theorem Gd(cs:List AV):Qu Tryz.prog 32 (.agg cs) 1=PY Tryz.prog 29 cs 1:=ad
def Ge:=ac @yx (ac @F0 (ac @FZ (ac @F2 (ac @F8 (ac @F9 (ac @Ga (ac @Gb (ac @Gc (@Gd)))))))))
theorem Gf:P3 Tryz.prog 33=some 1:=ad
theorem Gg:QI Tryz.prog 33=some 24:=ad
theorem Gi(cs:List AV)(o:Nat):PY Tryz.prog 33 cs o=cs[o]?:=Rp Tryz.underlying33 rfl cs o
theorem Gj:Qx Tryz.prog 33=some [.nilS]:=ad
theorem Gk(xs:List (List AV)){n:Int}(m:0<=n)(k:IntKind):Qt Tryz.prog 33 (.lst xs) (.int k n)=fw 1 (xs[n.toNat]?):=Si Tryz.underlying33 (show P3 Tryz.prog 2=some 1 from by kernel_rfl) xs m k
theorem Gl(r o l z:Nat){n:Int}(m:0<=n)(k:IntKind):Qt Tryz.prog 33 (.sl r o l z) (.int k n)=bif decide (n.toNat<l)then some (.ptr r (o+n.toNat*1))else none:=Sj Tryz.underlying33 (show P3 Tryz.prog 2=some 1 from by kernel_rfl) r o l z m k
theorem Gm(H:Hp)(xs:List (List AV)):Qr Tryz.prog H 33 (.lst xs)=some (.int .i64 xs.length):=Sh Tryz.underlying33 xs
theorem Gn(H:Hp)(r o n z:Nat):Qr Tryz.prog H 33 (.sl r o n z)=some (.int .i64 n):=RY Tryz.underlying33 r o n z
theorem Gp(H:Hp):Qr Tryz.prog H 33 .nilS=some (.int .i64 0):=Sa Tryz.underlying33
def pP:=ac @Gf (ac @Gi (ac @Gg (ac @Gj (ac @Gk (ac @Gl (ac @Gm (ac @Gn (@Gp))))))))
theorem yy:P3 Tryz.prog 42=some 2:=ad
theorem Gq:QI Tryz.prog 42=some 24:=ad
theorem Gs(cs:List AV)(o:Nat):PY Tryz.prog 42 cs o=QW 2 (cs.drop o):=jk Tryz.underlying42 rfl yy cs o
theorem Gt:Qx Tryz.prog 42=some [(.str []),(.int .i64 0)]:=ad
theorem Gu(r o:Nat):PW Tryz.prog 42 (.ptr r o) 0=some (.ptr r (o+0)):=ad
theorem Gv(cs:List AV):PW Tryz.prog 42 (.iptr cs) 0=some (.iptr (cs.drop 0)):=ad
theorem Gw(cs:List AV):Qu Tryz.prog 42 (.agg cs) 0=PY Tryz.prog 9 cs 0:=ad
theorem Gx(r o:Nat):PW Tryz.prog 42 (.ptr r o) 1=some (.ptr r (o+1)):=ad
theorem Gy(cs:List AV):PW Tryz.prog 42 (.iptr cs) 1=some (.iptr (cs.drop 1)):=ad
theorem Gz(cs:List AV):Qu Tryz.prog 42 (.agg cs) 1=PY Tryz.prog 3 cs 1:=ad
def GA:=ac @yy (ac @Gs (ac @Gq (ac @Gt (ac @Gu (ac @Gv (ac @Gw (ac @Gx (ac @Gy (@Gz)))))))))
theorem GB:P3 Tryz.prog 57=some 1:=ad
theorem GC:QI Tryz.prog 57=some 24:=ad
theorem GD(cs:List AV)(o:Nat):PY Tryz.prog 57 cs o=cs[o]?:=Rp Tryz.underlying57 rfl cs o
theorem GE:Qx Tryz.prog 57=some [.nilS]:=ad
theorem GF(xs:List (List AV)){n:Int}(m:0<=n)(k:IntKind):Qt Tryz.prog 57 (.lst xs) (.int k n)=fw 1 (xs[n.toNat]?):=Si Tryz.underlying57 (show P3 Tryz.prog 26=some 1 from by kernel_rfl) xs m k
theorem GG(r o l z:Nat){n:Int}(m:0<=n)(k:IntKind):Qt Tryz.prog 57 (.sl r o l z) (.int k n)=bif decide (n.toNat<l)then some (.ptr r (o+n.toNat*1))else none:=Sj Tryz.underlying57 (show P3 Tryz.prog 26=some 1 from by kernel_rfl) r o l z m k
theorem GH(H:Hp)(xs:List (List AV)):Qr Tryz.prog H 57 (.lst xs)=some (.int .i64 xs.length):=Sh Tryz.underlying57 xs
theorem GI(H:Hp)(r o n z:Nat):Qr Tryz.prog H 57 (.sl r o n z)=some (.int .i64 n):=RY Tryz.underlying57 r o n z
theorem GJ(H:Hp):Qr Tryz.prog H 57 .nilS=some (.int .i64 0):=Sa Tryz.underlying57
def GK:=ac @GB (ac @GD (ac @GC (ac @GE (ac @GF (ac @GG (ac @GH (ac @GI (@GJ))))))))
theorem GL:P3 Tryz.prog 58=some 1:=ad
theorem GM:QI Tryz.prog 58=some 24:=ad
theorem GN(cs:List AV)(o:Nat):PY Tryz.prog 58 cs o=cs[o]?:=Rp Tryz.underlying58 rfl cs o
theorem GO:Qx Tryz.prog 58=some [.nilS]:=ad
theorem GP(xs:List (List AV)){n:Int}(m:0<=n)(k:IntKind):Qt Tryz.prog 58 (.lst xs) (.int k n)=fw 1 (xs[n.toNat]?):=Si Tryz.underlying58 (show P3 Tryz.prog 33=some 1 from by kernel_rfl) xs m k
theorem GQ(r o l z:Nat){n:Int}(m:0<=n)(k:IntKind):Qt Tryz.prog 58 (.sl r o l z) (.int k n)=bif decide (n.toNat<l)then some (.ptr r (o+n.toNat*1))else none:=Sj Tryz.underlying58 (show P3 Tryz.prog 33=some 1 from by kernel_rfl) r o l z m k
theorem GR(H:Hp)(xs:List (List AV)):Qr Tryz.prog H 58 (.lst xs)=some (.int .i64 xs.length):=Sh Tryz.underlying58 xs
theorem GS(H:Hp)(r o n z:Nat):Qr Tryz.prog H 58 (.sl r o n z)=some (.int .i64 n):=RY Tryz.underlying58 r o n z
theorem GT(H:Hp):Qr Tryz.prog H 58 .nilS=some (.int .i64 0):=Sa Tryz.underlying58
def yz:=ac @GL (ac @GN (ac @GM (ac @GO (ac @GP (ac @GQ (ac @GR (ac @GS (@GT))))))))
theorem GU:P3 Tryz.prog 62=some 1:=ad
theorem GV:QI Tryz.prog 62=some 24:=ad
theorem GW(cs:List AV)(o:Nat):PY Tryz.prog 62 cs o=cs[o]?:=Rp Tryz.underlying62 rfl cs o
theorem GX:Qx Tryz.prog 62=some [.nilS]:=ad
theorem GY(xs:List (List AV)){n:Int}(m:0<=n)(k:IntKind):Qt Tryz.prog 62 (.lst xs) (.int k n)=fw 9 (xs[n.toNat]?):=Si Tryz.underlying62 (show P3 Tryz.prog 106=some 9 from by kernel_rfl) xs m k
theorem GZ(r o l z:Nat){n:Int}(m:0<=n)(k:IntKind):Qt Tryz.prog 62 (.sl r o l z) (.int k n)=bif decide (n.toNat<l)then some (.ptr r (o+n.toNat*9))else none:=Sj Tryz.underlying62 (show P3 Tryz.prog 106=some 9 from by kernel_rfl) r o l z m k
theorem G3(H:Hp)(xs:List (List AV)):Qr Tryz.prog H 62 (.lst xs)=some (.int .i64 xs.length):=Sh Tryz.underlying62 xs
theorem G4(H:Hp)(r o n z:Nat):Qr Tryz.prog H 62 (.sl r o n z)=some (.int .i64 n):=RY Tryz.underlying62 r o n z
theorem G5(H:Hp):Qr Tryz.prog H 62 .nilS=some (.int .i64 0):=Sa Tryz.underlying62
def yA:=ac @GU (ac @GW (ac @GV (ac @GX (ac @GY (ac @GZ (ac @G3 (ac @G4 (@G5))))))))
theorem yB:P3 Tryz.prog 64=some 2:=ad
theorem G6:QI Tryz.prog 64=some 48:=ad
theorem G7(cs:List AV)(o:Nat):PY Tryz.prog 64 cs o=QW 2 (cs.drop o):=jk Tryz.underlying64 rfl yB cs o
theorem G8:Qx Tryz.prog 64=some [.nilS,.nilS]:=ad
theorem G9(r o:Nat):PW Tryz.prog 64 (.ptr r o) 0=some (.ptr r (o+0)):=ad
theorem Ha(cs:List AV):PW Tryz.prog 64 (.iptr cs) 0=some (.iptr (cs.drop 0)):=ad
theorem Hc(cs:List AV):Qu Tryz.prog 64 (.agg cs) 0=PY Tryz.prog 30 cs 0:=ad
theorem Hd(r o:Nat):PW Tryz.prog 64 (.ptr r o) 1=some (.ptr r (o+1)):=ad
theorem He(cs:List AV):PW Tryz.prog 64 (.iptr cs) 1=some (.iptr (cs.drop 1)):=ad
theorem Hf(cs:List AV):Qu Tryz.prog 64 (.agg cs) 1=PY Tryz.prog 62 cs 1:=ad
def pQ:=ac @yB (ac @G7 (ac @G6 (ac @G8 (ac @G9 (ac @Ha (ac @Hc (ac @Hd (ac @He (@Hf)))))))))
theorem Hg:P3 Tryz.prog 73=some 1:=ad
theorem Hh:QI Tryz.prog 73=some 24:=ad
theorem Hi(cs:List AV)(o:Nat):PY Tryz.prog 73 cs o=cs[o]?:=Rp Tryz.underlying73 rfl cs o
theorem Hj:Qx Tryz.prog 73=some [.nilS]:=ad
theorem Hk(xs:List (List AV)){n:Int}(m:0<=n)(k:IntKind):Qt Tryz.prog 73 (.lst xs) (.int k n)=fw 1 (xs[n.toNat]?):=Si Tryz.underlying73 (show P3 Tryz.prog 74=some 1 from by kernel_rfl) xs m k
theorem Hl(r o l z:Nat){n:Int}(m:0<=n)(k:IntKind):Qt Tryz.prog 73 (.sl r o l z) (.int k n)=bif decide (n.toNat<l)then some (.ptr r (o+n.toNat*1))else none:=Sj Tryz.underlying73 (show P3 Tryz.prog 74=some 1 from by kernel_rfl) r o l z m k
theorem Hm(H:Hp)(xs:List (List AV)):Qr Tryz.prog H 73 (.lst xs)=some (.int .i64 xs.length):=Sh Tryz.underlying73 xs
theorem Hn(H:Hp)(r o n z:Nat):Qr Tryz.prog H 73 (.sl r o n z)=some (.int .i64 n):=RY Tryz.underlying73 r o n z
theorem Ho(H:Hp):Qr Tryz.prog H 73 .nilS=some (.int .i64 0):=Sa Tryz.underlying73
def Hq:=ac @Hg (ac @Hi (ac @Hh (ac @Hj (ac @Hk (ac @Hl (ac @Hm (ac @Hn (@Ho))))))))
theorem Hr:P3 Tryz.prog 76=some 1:=ad
theorem Hs:QI Tryz.prog 76=some 8:=ad
theorem Ht(cs:List AV)(o:Nat):PY Tryz.prog 76 cs o=cs[o]?:=Rp Tryz.underlying76 rfl cs o
theorem Hu:Qx Tryz.prog 76=some [.nilP]:=ad
def Hv:=ac @Hr (ac @Ht (ac @Hs (@Hu)))
theorem Hw:P3 Tryz.prog 77=some 1:=ad
theorem Hy:QI Tryz.prog 77=some 8:=ad
theorem Hz(cs:List AV)(o:Nat):PY Tryz.prog 77 cs o=cs[o]?:=Rp Tryz.underlying77 rfl cs o
theorem HA:Qx Tryz.prog 77=some [.nilP]:=ad
def HC:=ac @Hw (ac @Hz (ac @Hy (@HA)))
theorem yC:P3 Tryz.prog 79=some 6:=ad
theorem HD:QI Tryz.prog 79=some 64:=ad
theorem HE(cs:List AV)(o:Nat):PY Tryz.prog 79 cs o=QW 6 (cs.drop o):=jk Tryz.underlying79 rfl yC cs o
theorem HF:Qx Tryz.prog 79=some [.nilS,.nilP,(.int .i64 0),(.int .i64 0),(.int .i64 0),(.int .i64 0)]:=ad
theorem HG(r o:Nat):PW Tryz.prog 79 (.ptr r o) 0=some (.ptr r (o+0)):=ad
theorem HH(cs:List AV):PW Tryz.prog 79 (.iptr cs) 0=some (.iptr (cs.drop 0)):=ad
theorem HI(cs:List AV):Qu Tryz.prog 79 (.agg cs) 0=PY Tryz.prog 58 cs 0:=ad
theorem HJ(r o:Nat):PW Tryz.prog 79 (.ptr r o) 1=some (.ptr r (o+1)):=ad
theorem HK(cs:List AV):PW Tryz.prog 79 (.iptr cs) 1=some (.iptr (cs.drop 1)):=ad
theorem HL(cs:List AV):Qu Tryz.prog 79 (.agg cs) 1=PY Tryz.prog 77 cs 1:=ad
theorem HM(r o:Nat):PW Tryz.prog 79 (.ptr r o) 2=some (.ptr r (o+2)):=ad
theorem HN(cs:List AV):PW Tryz.prog 79 (.iptr cs) 2=some (.iptr (cs.drop 2)):=ad
theorem HO(cs:List AV):Qu Tryz.prog 79 (.agg cs) 2=PY Tryz.prog 3 cs 2:=ad
theorem HP(r o:Nat):PW Tryz.prog 79 (.ptr r o) 3=some (.ptr r (o+3)):=ad
theorem HQ(cs:List AV):PW Tryz.prog 79 (.iptr cs) 3=some (.iptr (cs.drop 3)):=ad
theorem HR(cs:List AV):Qu Tryz.prog 79 (.agg cs) 3=PY Tryz.prog 3 cs 3:=ad
theorem HS(r o:Nat):PW Tryz.prog 79 (.ptr r o) 4=some (.ptr r (o+4)):=ad
theorem HT(cs:List AV):PW Tryz.prog 79 (.iptr cs) 4=some (.iptr (cs.drop 4)):=ad
theorem HU(cs:List AV):Qu Tryz.prog 79 (.agg cs) 4=PY Tryz.prog 3 cs 4:=ad
theorem HV(r o:Nat):PW Tryz.prog 79 (.ptr r o) 5=some (.ptr r (o+5)):=ad
theorem HW(cs:List AV):PW Tryz.prog 79 (.iptr cs) 5=some (.iptr (cs.drop 5)):=ad
theorem HX(cs:List AV):Qu Tryz.prog 79 (.agg cs) 5=PY Tryz.prog 2 cs 5:=ad
def HY:=ac @yC (ac @HE (ac @HD (ac @HF (ac @HG (ac @HH (ac @HI (ac @HJ (ac @HK (ac @HL (ac @HM (ac @HN (ac @HO (ac @HP (ac @HQ (ac @HR (ac @HS (ac @HT (ac @HU (ac @HV (ac @HW (@HX)))))))))))))))))))))
theorem yD:P3 Tryz.prog 93=some 2:=ad
theorem HZ:QI Tryz.prog 93=some 32:=ad
theorem H0(cs:List AV)(o:Nat):PY Tryz.prog 93 cs o=QW 2 (cs.drop o):=jk Tryz.underlying93 rfl yD cs o
theorem H9:Qx Tryz.prog 93=some [.nilS,(.int .i64 0)]:=ad
theorem Ia(r o:Nat):PW Tryz.prog 93 (.ptr r o) 0=some (.ptr r (o+0)):=ad
theorem Ib(cs:List AV):PW Tryz.prog 93 (.iptr cs) 0=some (.iptr (cs.drop 0)):=ad
theorem Ic(cs:List AV):Qu Tryz.prog 93 (.agg cs) 0=PY Tryz.prog 23 cs 0:=ad
theorem Ie(r o:Nat):PW Tryz.prog 93 (.ptr r o) 1=some (.ptr r (o+1)):=ad
theorem If(cs:List AV):PW Tryz.prog 93 (.iptr cs) 1=some (.iptr (cs.drop 1)):=ad
theorem Ig(cs:List AV):Qu Tryz.prog 93 (.agg cs) 1=PY Tryz.prog 3 cs 1:=ad
def uT:=ac @yD (ac @H0 (ac @HZ (ac @H9 (ac @Ia (ac @Ib (ac @Ic (ac @Ie (ac @If (@Ig)))))))))
theorem Ih:P3 Tryz.prog 100=some 1:=ad
theorem Ii:QI Tryz.prog 100=some 24:=ad
theorem Ij(cs:List AV)(o:Nat):PY Tryz.prog 100 cs o=cs[o]?:=Rp Tryz.underlying100 rfl cs o
theorem Ik:Qx Tryz.prog 100=some [.nilS]:=ad
theorem Il(xs:List (List AV)){n:Int}(m:0<=n)(k:IntKind):Qt Tryz.prog 100 (.lst xs) (.int k n)=fw 1 (xs[n.toNat]?):=Si Tryz.underlying100 (show P3 Tryz.prog 9=some 1 from by kernel_rfl) xs m k
theorem Im(r o l z:Nat){n:Int}(m:0<=n)(k:IntKind):Qt Tryz.prog 100 (.sl r o l z) (.int k n)=bif decide (n.toNat<l)then some (.ptr r (o+n.toNat*1))else none:=Sj Tryz.underlying100 (show P3 Tryz.prog 9=some 1 from by kernel_rfl) r o l z m k
theorem In(H:Hp)(xs:List (List AV)):Qr Tryz.prog H 100 (.lst xs)=some (.int .i64 xs.length):=Sh Tryz.underlying100 xs
theorem Io(H:Hp)(r o n z:Nat):Qr Tryz.prog H 100 (.sl r o n z)=some (.int .i64 n):=RY Tryz.underlying100 r o n z
theorem Ip(H:Hp):Qr Tryz.prog H 100 .nilS=some (.int .i64 0):=Sa Tryz.underlying100
def yE:=ac @Ih (ac @Ij (ac @Ii (ac @Ik (ac @Il (ac @Im (ac @In (ac @Io (@Ip))))))))
theorem Iq:P3 Tryz.prog 101=some 1:=ad
theorem Ir:QI Tryz.prog 101=some 24:=ad
theorem Is(cs:List AV)(o:Nat):PY Tryz.prog 101 cs o=cs[o]?:=Rp Tryz.underlying101 rfl cs o
theorem It:Qx Tryz.prog 101=some [.nilS]:=ad
theorem Iu(xs:List (List AV)){n:Int}(m:0<=n)(k:IntKind):Qt Tryz.prog 101 (.lst xs) (.int k n)=fw 17 (xs[n.toNat]?):=Si Tryz.underlying101 (show P3 Tryz.prog 157=some 17 from by kernel_rfl) xs m k
theorem Iv(r o l z:Nat){n:Int}(m:0<=n)(k:IntKind):Qt Tryz.prog 101 (.sl r o l z) (.int k n)=bif decide (n.toNat<l)then some (.ptr r (o+n.toNat*17))else none:=Sj Tryz.underlying101 (show P3 Tryz.prog 157=some 17 from by kernel_rfl) r o l z m k
theorem Iw(H:Hp)(xs:List (List AV)):Qr Tryz.prog H 101 (.lst xs)=some (.int .i64 xs.length):=Sh Tryz.underlying101 xs
theorem Ix(H:Hp)(r o n z:Nat):Qr Tryz.prog H 101 (.sl r o n z)=some (.int .i64 n):=RY Tryz.underlying101 r o n z
theorem Iy(H:Hp):Qr Tryz.prog H 101 .nilS=some (.int .i64 0):=Sa Tryz.underlying101
def pR:=ac @Iq (ac @Is (ac @Ir (ac @It (ac @Iu (ac @Iv (ac @Iw (ac @Ix (@Iy))))))))
theorem Iz:P3 Tryz.prog 102=some 1:=ad
theorem IA:QI Tryz.prog 102=some 24:=ad
theorem IB(cs:List AV)(o:Nat):PY Tryz.prog 102 cs o=cs[o]?:=Rp Tryz.underlying102 rfl cs o
theorem IC:Qx Tryz.prog 102=some [.nilS]:=ad
theorem ID(xs:List (List AV)){n:Int}(m:0<=n)(k:IntKind):Qt Tryz.prog 102 (.lst xs) (.int k n)=fw 5 (xs[n.toNat]?):=Si Tryz.underlying102 (show P3 Tryz.prog 104=some 5 from by kernel_rfl) xs m k
theorem IE(r o l z:Nat){n:Int}(m:0<=n)(k:IntKind):Qt Tryz.prog 102 (.sl r o l z) (.int k n)=bif decide (n.toNat<l)then some (.ptr r (o+n.toNat*5))else none:=Sj Tryz.underlying102 (show P3 Tryz.prog 104=some 5 from by kernel_rfl) r o l z m k
theorem IF(H:Hp)(xs:List (List AV)):Qr Tryz.prog H 102 (.lst xs)=some (.int .i64 xs.length):=Sh Tryz.underlying102 xs
theorem IG(H:Hp)(r o n z:Nat):Qr Tryz.prog H 102 (.sl r o n z)=some (.int .i64 n):=RY Tryz.underlying102 r o n z
theorem II(H:Hp):Qr Tryz.prog H 102 .nilS=some (.int .i64 0):=Sa Tryz.underlying102
def nM:=ac @Iz (ac @IB (ac @IA (ac @IC (ac @ID (ac @IE (ac @IF (ac @IG (@II))))))))
theorem yF:P3 Tryz.prog 104=some 5:=ad
theorem IJ:QI Tryz.prog 104=some 64:=ad
theorem IK(cs:List AV)(o:Nat):PY Tryz.prog 104 cs o=QW 5 (cs.drop o):=jk Tryz.underlying104 rfl yF cs o
theorem IL:Qx Tryz.prog 104=some [(.int .i64 0),(.int .i64 0),(.str []),(.int .i64 0),.nilS]:=ad
theorem IM(r o:Nat):PW Tryz.prog 104 (.ptr r o) 0=some (.ptr r (o+0)):=ad
theorem IN(cs:List AV):PW Tryz.prog 104 (.iptr cs) 0=some (.iptr (cs.drop 0)):=ad
theorem IP(cs:List AV):Qu Tryz.prog 104 (.agg cs) 0=PY Tryz.prog 3 cs 0:=ad
theorem IQ(r o:Nat):PW Tryz.prog 104 (.ptr r o) 1=some (.ptr r (o+1)):=ad
theorem IR(cs:List AV):PW Tryz.prog 104 (.iptr cs) 1=some (.iptr (cs.drop 1)):=ad
theorem IS(cs:List AV):Qu Tryz.prog 104 (.agg cs) 1=PY Tryz.prog 2 cs 1:=ad
theorem IT(r o:Nat):PW Tryz.prog 104 (.ptr r o) 2=some (.ptr r (o+2)):=ad
theorem IU(cs:List AV):PW Tryz.prog 104 (.iptr cs) 2=some (.iptr (cs.drop 2)):=ad
theorem IV(cs:List AV):Qu Tryz.prog 104 (.agg cs) 2=PY Tryz.prog 9 cs 2:=ad
theorem IW(r o:Nat):PW Tryz.prog 104 (.ptr r o) 3=some (.ptr r (o+3)):=ad
theorem IX(cs:List AV):PW Tryz.prog 104 (.iptr cs) 3=some (.iptr (cs.drop 3)):=ad
theorem IY(cs:List AV):Qu Tryz.prog 104 (.agg cs) 3=PY Tryz.prog 3 cs 3:=ad
theorem IZ(r o:Nat):PW Tryz.prog 104 (.ptr r o) 4=some (.ptr r (o+4)):=ad
theorem I0(cs:List AV):PW Tryz.prog 104 (.iptr cs) 4=some (.iptr (cs.drop 4)):=ad
theorem I1(cs:List AV):Qu Tryz.prog 104 (.agg cs) 4=PY Tryz.prog 102 cs 4:=ad
def nN:=ac @yF (ac @IK (ac @IJ (ac @IL (ac @IM (ac @IN (ac @IP (ac @IQ (ac @IR (ac @IS (ac @IT (ac @IU (ac @IV (ac @IW (ac @IX (ac @IY (ac @IZ (ac @I0 (@I1))))))))))))))))))
theorem yG:P3 Tryz.prog 106=some 9:=ad
theorem I2:QI Tryz.prog 106=some 152:=ad
theorem I3(cs:List AV)(o:Nat):PY Tryz.prog 106 cs o=QW 9 (cs.drop o):=jk Tryz.underlying106 rfl yG cs o
theorem I4:Qx Tryz.prog 106=some [(.str []),.nilS,.nilS,.nilS,(.int .i64 0),(.int .i64 0),(.str []),(.int .i64 0),.nilS]:=ad
theorem I5(r o:Nat):PW Tryz.prog 106 (.ptr r o) 0=some (.ptr r (o+0)):=ad
theorem I6(cs:List AV):PW Tryz.prog 106 (.iptr cs) 0=some (.iptr (cs.drop 0)):=ad
theorem I7(cs:List AV):Qu Tryz.prog 106 (.agg cs) 0=PY Tryz.prog 9 cs 0:=ad
theorem I8(r o:Nat):PW Tryz.prog 106 (.ptr r o) 1=some (.ptr r (o+1)):=ad
theorem I9(cs:List AV):PW Tryz.prog 106 (.iptr cs) 1=some (.iptr (cs.drop 1)):=ad
theorem Ja(cs:List AV):Qu Tryz.prog 106 (.agg cs) 1=PY Tryz.prog 100 cs 1:=ad
theorem Jb(r o:Nat):PW Tryz.prog 106 (.ptr r o) 2=some (.ptr r (o+2)):=ad
theorem Jc(cs:List AV):PW Tryz.prog 106 (.iptr cs) 2=some (.iptr (cs.drop 2)):=ad
theorem Jd(cs:List AV):Qu Tryz.prog 106 (.agg cs) 2=PY Tryz.prog 100 cs 2:=ad
theorem Je(r o:Nat):PW Tryz.prog 106 (.ptr r o) 3=some (.ptr r (o+3)):=ad
theorem Jf(cs:List AV):PW Tryz.prog 106 (.iptr cs) 3=some (.iptr (cs.drop 3)):=ad
theorem Jg(cs:List AV):Qu Tryz.prog 106 (.agg cs) 3=PY Tryz.prog 101 cs 3:=ad
theorem Jh(r o:Nat):PW Tryz.prog 106 (.ptr r o) 4=some (.ptr r (o+4)):=ad
theorem Ji(cs:List AV):PW Tryz.prog 106 (.iptr cs) 4=some (.iptr (cs.drop 4)):=ad
theorem Jj(cs:List AV):Qu Tryz.prog 106 (.agg cs) 4=PY Tryz.prog 104 cs 4:=ad
def Jk:=ac @yG (ac @I3 (ac @I2 (ac @I4 (ac @I5 (ac @I6 (ac @I7 (ac @I8 (ac @I9 (ac @Ja (ac @Jb (ac @Jc (ac @Jd (ac @Je (ac @Jf (ac @Jg (ac @Jh (ac @Ji (@Jj))))))))))))))))))
theorem Jl:P3 Tryz.prog 110=some 1:=ad
theorem Jm:QI Tryz.prog 110=some 8:=ad
theorem Jn(cs:List AV)(o:Nat):PY Tryz.prog 110 cs o=cs[o]?:=Rp Tryz.underlying110 rfl cs o
theorem Jo:Qx Tryz.prog 110=some [.nilM]:=ad
def r1:=ac @Jl (ac @Jn (ac @Jm (@Jo)))
theorem yH:P3 Tryz.prog 113=some 10:=ad
theorem Jp:QI Tryz.prog 113=some 144:=ad
theorem Jq(cs:List AV)(o:Nat):PY Tryz.prog 113 cs o=QW 10 (cs.drop o):=jk Tryz.underlying113 rfl yH cs o
theorem Jr:Qx Tryz.prog 113=some [.nilS,.nilS,.nilM,.nilM,.nilS,.nilM,.nilM,.nilS,(.int .i64 0),(.int .i64 0)]:=ad
theorem Js(r o:Nat):PW Tryz.prog 113 (.ptr r o) 0=some (.ptr r (o+0)):=ad
theorem Jt(cs:List AV):PW Tryz.prog 113 (.iptr cs) 0=some (.iptr (cs.drop 0)):=ad
theorem Ju(cs:List AV):Qu Tryz.prog 113 (.agg cs) 0=PY Tryz.prog 64 cs 0:=ad
theorem Jv(r o:Nat):PW Tryz.prog 113 (.ptr r o) 1=some (.ptr r (o+2)):=ad
theorem Jw(cs:List AV):PW Tryz.prog 113 (.iptr cs) 1=some (.iptr (cs.drop 2)):=ad
theorem Jx(cs:List AV):Qu Tryz.prog 113 (.agg cs) 1=PY Tryz.prog 110 cs 2:=ad
theorem Jy(r o:Nat):PW Tryz.prog 113 (.ptr r o) 2=some (.ptr r (o+3)):=ad
theorem Jz(cs:List AV):PW Tryz.prog 113 (.iptr cs) 2=some (.iptr (cs.drop 3)):=ad
theorem JA(cs:List AV):Qu Tryz.prog 113 (.agg cs) 2=PY Tryz.prog 110 cs 3:=ad
theorem JB(r o:Nat):PW Tryz.prog 113 (.ptr r o) 3=some (.ptr r (o+4)):=ad
theorem JC(cs:List AV):PW Tryz.prog 113 (.iptr cs) 3=some (.iptr (cs.drop 4)):=ad
theorem JD(cs:List AV):Qu Tryz.prog 113 (.agg cs) 3=PY Tryz.prog 26 cs 4:=ad
theorem JE(r o:Nat):PW Tryz.prog 113 (.ptr r o) 4=some (.ptr r (o+5)):=ad
theorem JF(cs:List AV):PW Tryz.prog 113 (.iptr cs) 4=some (.iptr (cs.drop 5)):=ad
theorem JG(cs:List AV):Qu Tryz.prog 113 (.agg cs) 4=PY Tryz.prog 110 cs 5:=ad
theorem JH(r o:Nat):PW Tryz.prog 113 (.ptr r o) 5=some (.ptr r (o+6)):=ad
theorem JI(cs:List AV):PW Tryz.prog 113 (.iptr cs) 5=some (.iptr (cs.drop 6)):=ad
theorem JJ(cs:List AV):Qu Tryz.prog 113 (.agg cs) 5=PY Tryz.prog 110 cs 6:=ad
theorem JK(r o:Nat):PW Tryz.prog 113 (.ptr r o) 6=some (.ptr r (o+7)):=ad
theorem JL(cs:List AV):PW Tryz.prog 113 (.iptr cs) 6=some (.iptr (cs.drop 7)):=ad
theorem JM(cs:List AV):Qu Tryz.prog 113 (.agg cs) 6=PY Tryz.prog 23 cs 7:=ad
theorem JN(r o:Nat):PW Tryz.prog 113 (.ptr r o) 7=some (.ptr r (o+8)):=ad
theorem JO(cs:List AV):PW Tryz.prog 113 (.iptr cs) 7=some (.iptr (cs.drop 8)):=ad
theorem JP(cs:List AV):Qu Tryz.prog 113 (.agg cs) 7=PY Tryz.prog 3 cs 8:=ad
theorem JQ(r o:Nat):PW Tryz.prog 113 (.ptr r o) 8=some (.ptr r (o+9)):=ad
theorem JR(cs:List AV):PW Tryz.prog 113 (.iptr cs) 8=some (.iptr (cs.drop 9)):=ad
theorem JS(cs:List AV):Qu Tryz.prog 113 (.agg cs) 8=PY Tryz.prog 3 cs 9:=ad
def r2:=ac @yH (ac @Jq (ac @Jp (ac @Jr (ac @Js (ac @Jt (ac @Ju (ac @Jv (ac @Jw (ac @Jx (ac @Jy (ac @Jz (ac @JA (ac @JB (ac @JC (ac @JD (ac @JE (ac @JF (ac @JG (ac @JH (ac @JI (ac @JJ (ac @JK (ac @JL (ac @JM (ac @JN (ac @JO (ac @JP (ac @JQ (ac @JR (@JS))))))))))))))))))))))))))))))
theorem JT:P3 Tryz.prog 121=some 1:=ad
theorem JU:QI Tryz.prog 121=some 24:=ad
theorem JV(cs:List AV)(o:Nat):PY Tryz.prog 121 cs o=cs[o]?:=Rp Tryz.underlying121 rfl cs o
theorem JW:Qx Tryz.prog 121=some [.nilS]:=ad
theorem JX(xs:List (List AV)){n:Int}(m:0<=n)(k:IntKind):Qt Tryz.prog 121 (.lst xs) (.int k n)=fw 1 (xs[n.toNat]?):=Si Tryz.underlying121 (show P3 Tryz.prog 4=some 1 from by kernel_rfl) xs m k
theorem JY(r o l z:Nat){n:Int}(m:0<=n)(k:IntKind):Qt Tryz.prog 121 (.sl r o l z) (.int k n)=bif decide (n.toNat<l)then some (.ptr r (o+n.toNat*1))else none:=Sj Tryz.underlying121 (show P3 Tryz.prog 4=some 1 from by kernel_rfl) r o l z m k
theorem JZ(H:Hp)(xs:List (List AV)):Qr Tryz.prog H 121 (.lst xs)=some (.int .i64 xs.length):=Sh Tryz.underlying121 xs
theorem J0(H:Hp)(r o n z:Nat):Qr Tryz.prog H 121 (.sl r o n z)=some (.int .i64 n):=RY Tryz.underlying121 r o n z
theorem J1(H:Hp):Qr Tryz.prog H 121 .nilS=some (.int .i64 0):=Sa Tryz.underlying121
def uU:=ac @JT (ac @JV (ac @JU (ac @JW (ac @JX (ac @JY (ac @JZ (ac @J0 (@J1))))))))
theorem J2:P3 Tryz.prog 123=some 1:=ad
theorem J3:QI Tryz.prog 123=some 24:=ad
theorem J4(cs:List AV)(o:Nat):PY Tryz.prog 123 cs o=cs[o]?:=Rp Tryz.underlying123 rfl cs o
theorem J5:Qx Tryz.prog 123=some [.nilS]:=ad
theorem J6(xs:List (List AV)){n:Int}(m:0<=n)(k:IntKind):Qt Tryz.prog 123 (.lst xs) (.int k n)=fw 1 (xs[n.toNat]?):=Si Tryz.underlying123 (show P3 Tryz.prog 121=some 1 from by kernel_rfl) xs m k
theorem J7(r o l z:Nat){n:Int}(m:0<=n)(k:IntKind):Qt Tryz.prog 123 (.sl r o l z) (.int k n)=bif decide (n.toNat<l)then some (.ptr r (o+n.toNat*1))else none:=Sj Tryz.underlying123 (show P3 Tryz.prog 121=some 1 from by kernel_rfl) r o l z m k
theorem J8(H:Hp)(xs:List (List AV)):Qr Tryz.prog H 123 (.lst xs)=some (.int .i64 xs.length):=Sh Tryz.underlying123 xs
theorem J9(H:Hp)(r o n z:Nat):Qr Tryz.prog H 123 (.sl r o n z)=some (.int .i64 n):=RY Tryz.underlying123 r o n z
theorem Ka(H:Hp):Qr Tryz.prog H 123 .nilS=some (.int .i64 0):=Sa Tryz.underlying123
def Kb:=ac @J2 (ac @J4 (ac @J3 (ac @J5 (ac @J6 (ac @J7 (ac @J8 (ac @J9 (@Ka))))))))
theorem Kc:P3 Tryz.prog 126=some 1:=ad
theorem Kd:QI Tryz.prog 126=some 8:=ad
theorem Ke(cs:List AV)(o:Nat):PY Tryz.prog 126 cs o=cs[o]?:=Rp Tryz.underlying126 rfl cs o
theorem Kf:Qx Tryz.prog 126=some [(.int .u64 0)]:=ad
def r4:=ac @Kc (ac @Ke (ac @Kd (@Kf)))
theorem Kg:P3 Tryz.prog 127=some 1:=ad
theorem Kh:QI Tryz.prog 127=some 24:=ad
theorem Ki(cs:List AV)(o:Nat):PY Tryz.prog 127 cs o=cs[o]?:=Rp Tryz.underlying127 rfl cs o
theorem Kj:Qx Tryz.prog 127=some [.nilS]:=ad
theorem Kk(xs:List (List AV)){n:Int}(m:0<=n)(k:IntKind):Qt Tryz.prog 127 (.lst xs) (.int k n)=fw 4 (xs[n.toNat]?):=Si Tryz.underlying127 (show P3 Tryz.prog 134=some 4 from by kernel_rfl) xs m k
theorem Kl(r o l z:Nat){n:Int}(m:0<=n)(k:IntKind):Qt Tryz.prog 127 (.sl r o l z) (.int k n)=bif decide (n.toNat<l)then some (.ptr r (o+n.toNat*4))else none:=Sj Tryz.underlying127 (show P3 Tryz.prog 134=some 4 from by kernel_rfl) r o l z m k
theorem Km(H:Hp)(xs:List (List AV)):Qr Tryz.prog H 127 (.lst xs)=some (.int .i64 xs.length):=Sh Tryz.underlying127 xs
theorem Kn(H:Hp)(r o n z:Nat):Qr Tryz.prog H 127 (.sl r o n z)=some (.int .i64 n):=RY Tryz.underlying127 r o n z
theorem Ko(H:Hp):Qr Tryz.prog H 127 .nilS=some (.int .i64 0):=Sa Tryz.underlying127
def Kp:=ac @Kg (ac @Ki (ac @Kh (ac @Kj (ac @Kk (ac @Kl (ac @Km (ac @Kn (@Ko))))))))
theorem Kq:P3 Tryz.prog 128=some 1:=ad
theorem Kr:QI Tryz.prog 128=some 8:=ad
theorem Ks(cs:List AV)(o:Nat):PY Tryz.prog 128 cs o=cs[o]?:=Rp Tryz.underlying128 rfl cs o
theorem Kt:Qx Tryz.prog 128=some [.nilP]:=ad
def Ku:=ac @Kq (ac @Ks (ac @Kr (@Kt)))
theorem yI:P3 Tryz.prog 129=some 16:=ad
theorem Kv:QI Tryz.prog 129=some 128:=ad
theorem Kw(cs:List AV)(o:Nat):PY Tryz.prog 129 cs o=QW 16 (cs.drop o):=jk Tryz.underlying129 rfl yI cs o
theorem Kx:Qx Tryz.prog 129=some [.nilP,.nilP,.nilP,.nilP,.nilP,.nilP,.nilP,.nilP,.nilP,.nilP,.nilP,.nilP,.nilP,.nilP,.nilP,.nilP]:=ad
def Ky:=ac @yI (ac @Kw (ac @Kv (@Kx)))
theorem yJ:P3 Tryz.prog 131=some 23:=ad
theorem Kz:QI Tryz.prog 131=some 264:=ad
theorem KA(cs:List AV)(o:Nat):PY Tryz.prog 131 cs o=QW 23 (cs.drop o):=jk Tryz.underlying131 rfl yJ cs o
theorem KB:Qx Tryz.prog 131=some [.nilS,.nilS,.nilS,(.int .i64 0),.nilP,.nilS,.nilS,.nilP,.nilP,.nilP,.nilP,.nilP,.nilP,.nilP,.nilP,.nilP,.nilP,.nilP,.nilP,.nilP,.nilP,.nilP,.nilP]:=ad
theorem KC(r o:Nat):PW Tryz.prog 131 (.ptr r o) 0=some (.ptr r (o+0)):=ad
theorem KD(cs:List AV):PW Tryz.prog 131 (.iptr cs) 0=some (.iptr (cs.drop 0)):=ad
theorem KE(cs:List AV):Qu Tryz.prog 131 (.agg cs) 0=PY Tryz.prog 32 cs 0:=ad
theorem KF(r o:Nat):PW Tryz.prog 131 (.ptr r o) 1=some (.ptr r (o+2)):=ad
theorem KG(cs:List AV):PW Tryz.prog 131 (.iptr cs) 1=some (.iptr (cs.drop 2)):=ad
theorem KH(cs:List AV):Qu Tryz.prog 131 (.agg cs) 1=PY Tryz.prog 73 cs 2:=ad
theorem KI(r o:Nat):PW Tryz.prog 131 (.ptr r o) 2=some (.ptr r (o+3)):=ad
theorem KJ(cs:List AV):PW Tryz.prog 131 (.iptr cs) 2=some (.iptr (cs.drop 3)):=ad
theorem KK(cs:List AV):Qu Tryz.prog 131 (.agg cs) 2=PY Tryz.prog 3 cs 3:=ad
theorem KL(r o:Nat):PW Tryz.prog 131 (.ptr r o) 3=some (.ptr r (o+4)):=ad
theorem KM(cs:List AV):PW Tryz.prog 131 (.iptr cs) 3=some (.iptr (cs.drop 4)):=ad
theorem KN(cs:List AV):Qu Tryz.prog 131 (.agg cs) 3=PY Tryz.prog 76 cs 4:=ad
theorem KO(r o:Nat):PW Tryz.prog 131 (.ptr r o) 4=some (.ptr r (o+5)):=ad
theorem KP(cs:List AV):PW Tryz.prog 131 (.iptr cs) 4=some (.iptr (cs.drop 5)):=ad
theorem KQ(cs:List AV):Qu Tryz.prog 131 (.agg cs) 4=PY Tryz.prog 33 cs 5:=ad
theorem KR(r o:Nat):PW Tryz.prog 131 (.ptr r o) 5=some (.ptr r (o+6)):=ad
theorem KS(cs:List AV):PW Tryz.prog 131 (.iptr cs) 5=some (.iptr (cs.drop 6)):=ad
theorem KT(cs:List AV):Qu Tryz.prog 131 (.agg cs) 5=PY Tryz.prog 127 cs 6:=ad
theorem KU(r o:Nat):PW Tryz.prog 131 (.ptr r o) 6=some (.ptr r (o+7)):=ad
theorem KV(cs:List AV):PW Tryz.prog 131 (.iptr cs) 6=some (.iptr (cs.drop 7)):=ad
theorem KW(cs:List AV):Qu Tryz.prog 131 (.agg cs) 6=PY Tryz.prog 129 cs 7:=ad
def KX:=ac @yJ (ac @KA (ac @Kz (ac @KB (ac @KC (ac @KD (ac @KE (ac @KF (ac @KG (ac @KH (ac @KI (ac @KJ (ac @KK (ac @KL (ac @KM (ac @KN (ac @KO (ac @KP (ac @KQ (ac @KR (ac @KS (ac @KT (ac @KU (ac @KV (@KW))))))))))))))))))))))))
theorem yK:P3 Tryz.prog 134=some 4:=ad
theorem KY:QI Tryz.prog 134=some 32:=ad
theorem KZ(cs:List AV)(o:Nat):PY Tryz.prog 134 cs o=QW 4 (cs.drop o):=jk Tryz.underlying134 rfl yK cs o
theorem K0:Qx Tryz.prog 134=some [(.bool false),(.int .i64 0),.nilP,.nilP]:=ad
theorem K1(r o:Nat):PW Tryz.prog 134 (.ptr r o) 0=some (.ptr r (o+0)):=ad
theorem K2(cs:List AV):PW Tryz.prog 134 (.iptr cs) 0=some (.iptr (cs.drop 0)):=ad
theorem K3(cs:List AV):Qu Tryz.prog 134 (.agg cs) 0=PY Tryz.prog 4 cs 0:=ad
theorem K4(r o:Nat):PW Tryz.prog 134 (.ptr r o) 1=some (.ptr r (o+1)):=ad
theorem K5(cs:List AV):PW Tryz.prog 134 (.iptr cs) 1=some (.iptr (cs.drop 1)):=ad
theorem K6(cs:List AV):Qu Tryz.prog 134 (.agg cs) 1=PY Tryz.prog 2 cs 1:=ad
theorem K7(r o:Nat):PW Tryz.prog 134 (.ptr r o) 2=some (.ptr r (o+2)):=ad
theorem K8(cs:List AV):PW Tryz.prog 134 (.iptr cs) 2=some (.iptr (cs.drop 2)):=ad
theorem K9(cs:List AV):Qu Tryz.prog 134 (.agg cs) 2=PY Tryz.prog 76 cs 2:=ad
theorem La(r o:Nat):PW Tryz.prog 134 (.ptr r o) 3=some (.ptr r (o+3)):=ad
theorem Lb(cs:List AV):PW Tryz.prog 134 (.iptr cs) 3=some (.iptr (cs.drop 3)):=ad
theorem Lc(cs:List AV):Qu Tryz.prog 134 (.agg cs) 3=PY Tryz.prog 128 cs 3:=ad
def Ld:=ac @yK (ac @KZ (ac @KY (ac @K0 (ac @K1 (ac @K2 (ac @K3 (ac @K4 (ac @K5 (ac @K6 (ac @K7 (ac @K8 (ac @K9 (ac @La (ac @Lb (@Lc)))))))))))))))
theorem Le:P3 Tryz.prog 154=some 1:=ad
theorem Lf:QI Tryz.prog 154=some 8:=ad
theorem Lg(cs:List AV)(o:Nat):PY Tryz.prog 154 cs o=cs[o]?:=Rp Tryz.underlying154 rfl cs o
theorem Lh:Qx Tryz.prog 154=some [(.int .u64 0)]:=ad
def r5:=ac @Le (ac @Lg (ac @Lf (@Lh)))
theorem yL:P3 Tryz.prog 157=some 17:=ad
theorem Li:QI Tryz.prog 157=some 248:=ad
theorem Lj(cs:List AV)(o:Nat):PY Tryz.prog 157 cs o=QW 17 (cs.drop o):=jk Tryz.underlying157 rfl yL cs o
theorem Lk:Qx Tryz.prog 157=some [(.int .i64 0),(.str []),(.str []),(.int .i64 0),(.int .i64 0),(.int .i64 0),(.str []),(.int .i64 0),.nilS,(.int .i64 0),(.int .i64 0),(.str []),(.int .i64 0),.nilS,.nilS,.nilS,.nilS]:=ad
theorem Ll(r o:Nat):PW Tryz.prog 157 (.ptr r o) 0=some (.ptr r (o+0)):=ad
theorem Lm(cs:List AV):PW Tryz.prog 157 (.iptr cs) 0=some (.iptr (cs.drop 0)):=ad
theorem Ln(cs:List AV):Qu Tryz.prog 157 (.agg cs) 0=PY Tryz.prog 3 cs 0:=ad
theorem Lo(r o:Nat):PW Tryz.prog 157 (.ptr r o) 1=some (.ptr r (o+1)):=ad
theorem Lp(cs:List AV):PW Tryz.prog 157 (.iptr cs) 1=some (.iptr (cs.drop 1)):=ad
theorem Lq(cs:List AV):Qu Tryz.prog 157 (.agg cs) 1=PY Tryz.prog 9 cs 1:=ad
theorem Lr(r o:Nat):PW Tryz.prog 157 (.ptr r o) 2=some (.ptr r (o+2)):=ad
theorem Ls(cs:List AV):PW Tryz.prog 157 (.iptr cs) 2=some (.iptr (cs.drop 2)):=ad
theorem Lt(cs:List AV):Qu Tryz.prog 157 (.agg cs) 2=PY Tryz.prog 9 cs 2:=ad
theorem Lu(r o:Nat):PW Tryz.prog 157 (.ptr r o) 3=some (.ptr r (o+3)):=ad
theorem Lw(cs:List AV):PW Tryz.prog 157 (.iptr cs) 3=some (.iptr (cs.drop 3)):=ad
theorem Ly(cs:List AV):Qu Tryz.prog 157 (.agg cs) 3=PY Tryz.prog 3 cs 3:=ad
theorem Lz(r o:Nat):PW Tryz.prog 157 (.ptr r o) 4=some (.ptr r (o+4)):=ad
theorem LA(cs:List AV):PW Tryz.prog 157 (.iptr cs) 4=some (.iptr (cs.drop 4)):=ad
theorem LB(cs:List AV):Qu Tryz.prog 157 (.agg cs) 4=PY Tryz.prog 104 cs 4:=ad
theorem LC(r o:Nat):PW Tryz.prog 157 (.ptr r o) 5=some (.ptr r (o+9)):=ad
theorem LD(cs:List AV):PW Tryz.prog 157 (.iptr cs) 5=some (.iptr (cs.drop 9)):=ad
theorem LF(cs:List AV):Qu Tryz.prog 157 (.agg cs) 5=PY Tryz.prog 104 cs 9:=ad
theorem LG(r o:Nat):PW Tryz.prog 157 (.ptr r o) 6=some (.ptr r (o+14)):=ad
theorem LH(cs:List AV):PW Tryz.prog 157 (.iptr cs) 6=some (.iptr (cs.drop 14)):=ad
theorem LI(cs:List AV):Qu Tryz.prog 157 (.agg cs) 6=PY Tryz.prog 102 cs 14:=ad
theorem LJ(r o:Nat):PW Tryz.prog 157 (.ptr r o) 7=some (.ptr r (o+15)):=ad
theorem LK(cs:List AV):PW Tryz.prog 157 (.iptr cs) 7=some (.iptr (cs.drop 15)):=ad
theorem LL(cs:List AV):Qu Tryz.prog 157 (.agg cs) 7=PY Tryz.prog 101 cs 15:=ad
theorem LM(r o:Nat):PW Tryz.prog 157 (.ptr r o) 8=some (.ptr r (o+16)):=ad
theorem LN(cs:List AV):PW Tryz.prog 157 (.iptr cs) 8=some (.iptr (cs.drop 16)):=ad
theorem LO(cs:List AV):Qu Tryz.prog 157 (.agg cs) 8=PY Tryz.prog 101 cs 16:=ad
def r6:=ac @yL (ac @Lj (ac @Li (ac @Lk (ac @Ll (ac @Lm (ac @Ln (ac @Lo (ac @Lp (ac @Lq (ac @Lr (ac @Ls (ac @Lt (ac @Lu (ac @Lw (ac @Ly (ac @Lz (ac @LA (ac @LB (ac @LC (ac @LD (ac @LF (ac @LG (ac @LH (ac @LI (ac @LJ (ac @LK (ac @LL (ac @LM (ac @LN (@LO))))))))))))))))))))))))))))))
theorem LP:P3 Tryz.prog 200=some 1:=ad
theorem LQ:QI Tryz.prog 200=some 24:=ad
theorem LR(cs:List AV)(o:Nat):PY Tryz.prog 200 cs o=cs[o]?:=Rp Tryz.underlying200 rfl cs o
theorem LS:Qx Tryz.prog 200=some [.nilS]:=ad
theorem LU(xs:List (List AV)){n:Int}(m:0<=n)(k:IntKind):Qt Tryz.prog 200 (.lst xs) (.int k n)=fw 1 (xs[n.toNat]?):=Si Tryz.underlying200 (show P3 Tryz.prog 5=some 1 from by kernel_rfl) xs m k
theorem LV(r o l z:Nat){n:Int}(m:0<=n)(k:IntKind):Qt Tryz.prog 200 (.sl r o l z) (.int k n)=bif decide (n.toNat<l)then some (.ptr r (o+n.toNat*1))else none:=Sj Tryz.underlying200 (show P3 Tryz.prog 5=some 1 from by kernel_rfl) r o l z m k
theorem LW(H:Hp)(xs:List (List AV)):Qr Tryz.prog H 200 (.lst xs)=some (.int .i64 xs.length):=Sh Tryz.underlying200 xs
theorem LX(H:Hp)(r o n z:Nat):Qr Tryz.prog H 200 (.sl r o n z)=some (.int .i64 n):=RY Tryz.underlying200 r o n z
theorem LY(H:Hp):Qr Tryz.prog H 200 .nilS=some (.int .i64 0):=Sa Tryz.underlying200
def yM:=ac @LP (ac @LR (ac @LQ (ac @LS (ac @LU (ac @LV (ac @LW (ac @LX (@LY))))))))
theorem yN(H:Hp)(k:IntKind)(n:Int):RU Tryz.prog H 2 126 (.int k n)=some (.int .u64 (IntKind.wrap .u64 n)):=mp
theorem r7(H:Hp)(k:IntKind)(n:Int):RU Tryz.prog H 2 154 (.int k n)=some (.int .u64 (IntKind.wrap .u64 n)):=mp
theorem yO(H:Hp)(k:IntKind)(n:Int):RU Tryz.prog H 3 5 (.int k n)=some (.int .u8 (IntKind.wrap .u8 n)):=mp
theorem yP(H:Hp)(k:IntKind)(n:Int):RU Tryz.prog H 3 126 (.int k n)=some (.int .u64 (IntKind.wrap .u64 n)):=mp
theorem yQ(H:Hp)(k:IntKind)(n:Int):RU Tryz.prog H 3 154 (.int k n)=some (.int .u64 (IntKind.wrap .u64 n)):=mp
theorem yR(H:Hp)(k:IntKind)(n:Int):RU Tryz.prog H 154 2 (.int k n)=some (.int .i64 (IntKind.wrap .i64 n)):=mp
theorem yS(H:Hp)(k:IntKind)(n:Int):RU Tryz.prog H 154 5 (.int k n)=some (.int .u8 (IntKind.wrap .u8 n)):=mp
end Go.Proofs.YtljebeflbbgibaaGreat
