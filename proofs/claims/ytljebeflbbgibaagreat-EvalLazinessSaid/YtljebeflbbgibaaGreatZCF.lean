/- Parts: AbWk, AbFor, AbCut, AbIc, TreeP, Pls, Seeds, Facts. -/
import Derived.KernelRfl
import Derived.Test.YtljebeflbbgibaaGreatRows
import Derived.Test.YtljebeflbbgibaaGreatZCE
set_option linter.unusedSimpArgs false
set_option linter.unusedVariables false
set_option linter.unusedSectionVars false
set_option linter.defProp false
set_option maxHeartbeats 32000000
namespace Go.Ab
set_option maxRecDepth 20000
open Go
theorem z7{P:Prop}(h:P:=by rw[List.length_map];exact I):P:=h
theorem ww{P:Prop}(h:P:=by simpa using e):P:=h
theorem af{P:Prop}(h:P:=by kernel_rfl):P:=h
theorem p6{P:Prop}(h:P:=by cases k<;>kernel_rfl):P:=h
def cR:=@List.length_map
def oE:=@List.getElem?_cons_zero
def wy:=@Nat.ble_eq
def cL:=@Nat.lt_succ_self
def aY:=@and_true
def ad:=@And.intro
def gL:=@Bool.not_false
def de:=@Bool.true_and
def dL:=@Int.toNat_natCast
end Go.Ab
namespace Go.Ab
set_option maxRecDepth 20000
open Go
def bE:Nat->AV->AV
 |0,v=>v
 |n+1,v=>match v with
  | .nilS=>.lst []
  | .lst C=>.lst (C.map fun z=>z.map (bE n))
  | .agg W=>.agg (W.map (bE n))
  | .tup W=>.tup (W.map (bE n))
  |v=>v
theorem VR.wk{G:Gh}:∀(n:Nat) {v:AV}{x:Value},VR G v x->VR G (bE n v) x
 |0,_,_,h=>h
 |n+1,v,x,h=>by
  cases h with
  |nilS=>exact .lst0 _ _
  |lst vs V g L hc=>
   rename_i xs b o cap z;have:=VR.lst (G:=G) (xs:=xs.map fun Y=>Y.map (bE n)) (b:=b) (o:=o) (cap:=cap) (z:=z) vs ?_ ?_ ?_ ?_
   .rw[cR]at this;exact this
   .intro i Y hr;rw[dX]at hr;cases F:xs[i]? with
    |none=>rw[F]at hr;simp at hr
    |some zcN=>rw[F]at hr;simp only[jp,az]at hr;rw[<-hr,cR];exact V i zcN F
   .intro i j C O;rw[cR]at C;exact g i j C O
   .intro i j Y c hr Z;rw[dX]at hr;cases F:xs[i]? with
    |none=>rw[F]at hr;simp at hr
    |some zcN=>
     rw[F]at hr;simp only[jp,az]at hr;rw[<-hr,dX]at Z;cases K:zcN[j]? with
     |none=>rw[K]at Z;simp at Z
     |some c0=>rw[K]at Z;simp only[jp,az]at Z;rw[<-Z];exact VR.wk n (L i j zcN c0 F K)
   .rw[cR];exact hc
  |lst0 a cap=>exact .lst0 a cap
  |agg I L=>
   refine .agg z7 fun i c v hc M=>?_;rw[dX]at hc;rename_i W vs;cases K:W[i]? with
   |none=>rw[K]at hc;simp at hc
   |some c0=>rw[K]at hc;simp only[jp,az]at hc;rw[<-hc];exact VR.wk n (L i c0 v K M)
  |tup I L=>
   refine .tup z7 fun i c v hc M=>?_;rw[dX]at hc;rename_i W vs;cases K:W[i]? with
   |none=>rw[K]at hc;simp at hc
   |some c0=>rw[K]at hc;simp only[jp,az]at hc;rw[<-hc];exact VR.wk n (L i c0 v K M)
  |int k m=>exact .int k m
  |sx k e=>exact .sx k e
  |bool b=>exact .bool b
  |str s l h=>exact .str s l h
  |nilP=>exact .nilP
  |nilM=>exact .nilM
  |nilF=>exact .nilF
  |ptr h=>exact .ptr h
  |iptr vs g L=>exact .iptr vs g L
  |sl h I hc=>exact .sl h I hc
  |map h=>exact .map h
  |clo I L=>exact .clo I L
theorem a9.wk{P:Program}{ρ:Nat->Int}{f:FuncId}{args:List AV}{r:AV}(n:Nat)(h:a9 P ρ f args r):a9 P ρ f args (bE n r):=
 ⟨h.1,fun G w vs i g o=>(h.2 G w vs i g o).mono fun _ _ ⟨v,J,U,j,A⟩=>⟨v,J,U,j.wk n,A⟩⟩
theorem z8{P:Program}{ρ:Nat->Int}{f:FuncId}{args:List AV}{r m:AV}(n:Nat)(h:a9 P ρ f args r)(e:bE n r=m):a9 P ρ f args m:=e▸h.wk n
variable {P:Program} {cfg:Cfg} {f N:Nat}
theorem zdl{a:SC}{E:ao}{H:Hp}{Q:AX->ao->Hp->Prop}(cs rs:List Nat)(m n:Nat)(J:Nat->ao->Hp->Prop)(o:E.at m=.int .i64 0)(g:J 0 E H)
 (h:∀(i:Nat) (E':ao) (H':Hp),i<=n->(∀k∈cs,E'.at k=E.at k)->(∀r∈rs,H'.get r=H.get r)->H.next<=H'.next->E'.at m=.int .i64 i->J i E' H' ->
   zcY P cfg f N a E' H' (kz Q fun M Z=>i<n/\(∀k∈cs,M.at k=E.at k)/\(∀r∈rs,Z.get r=H.get r)/\H.next<=Z.next/\M.at m=.int .i64 ((i+1:Nat):Int)/\J (i+1) M Z)):zcY P cfg f N (.loop a) E H Q:=
 lR (fun i E' H'=>(∀k∈cs,E'.at k=E.at k)/\(∀r∈rs,H'.get r=H.get r)/\H.next<=H'.next/\E'.at m=.int .i64 i/\J i E' H') n (fun i E' H' C ⟨Y,W,V,U,j⟩=>h i E' H' C Y W V U j) ⟨fun _ _=>rfl,fun _ _=>rfl,aM _,o,g⟩
theorem zcO{p:Nat->Prop}{a:Nat}{l:List Nat}:(∀k∈a::l,p k)↔p a/\∀k∈l,p k:=List.forall_mem_cons
theorem zcI{p:Nat->Prop}:(∀k∈([]:List Nat),p k)↔True:=⟨fun _=>trivial,fun _ _ h=>iR⟩
theorem zcD{a b:Nat}(h:a≠b):(a == b)=false:=iQ
theorem zeB{i n:Nat}(h:i<n)(m:n<2^62):AV.int .i64 (IntKind.wrap .i64 ((i:Int)+1))=.int .i64 ((i+1:Nat):Int):=by rw[zeL ac]
variable {P:Program} {cfg:Cfg} {f N:Nat}
theorem NA{c:SC}{E:ao}{H:Hp}{Q:AX->ao->Hp->Prop}(cs:List Nat)(h:∀E':ao,(∀k∈cs,E'.at k=E.at k)->zcY P cfg f N c E' H Q):zcY P cfg f N c E H Q:=h E fun _ _=>rfl
def zcW{M β:Type}(p:M->β->Prop):List M->List β->Prop
 |[],[]=>True
 |a::l,b::m=>p a b/\zcW p l m
 |_,_=>False
theorem zcW.len{M β:Type}{p:M->β->Prop}:∀{l:List M}{m:List β},zcW p l m->l.length=m.length
 |[],[],_=>rfl
 |_::_,_::_,h=>by simp only[dg,zcW.len h.2]
theorem zcW.mono{M β:Type}{p q:M->β->Prop}(h:∀a b,p a b->q a b):∀{l:List M}{m:List β},zcW p l m->zcW q l m
 |[],[],_=>trivial
 |_::_,_::_,k=>⟨h _ _ k.1,zcW.mono h k.2⟩
theorem zcW.append{M β:Type}{p:M->β->Prop}:∀{l:List M}{m:List β}{j:List M}{C:List β},zcW p l m->zcW p j C->zcW p (l++j) (m++C)
 |[],[],_,_,_,h=>h
 |_::_,_::_,_,_,h,k=>⟨h.1,zcW.append h.2 k⟩
theorem zcW.refl{M:Type}{p:M->M->Prop}:∀{l:List M},(∀a∈l,p a a)->zcW p l l
 |[],_=>trivial
 |a::l,h=>⟨h a eW,zcW.refl fun b z=>h b (e8 _ z)⟩
theorem zcW.get{M β:Type}{p:M->β->Prop}:∀{l:List M}{m:List β},zcW p l m->∀{i:Nat}{a:M}{b:β},l[i]?=some a->m[i]?=some b->p a b
 |[],[],_,i,_,_,h,_=>by simp at h
 |a::l,b::m,h,0,_,_,h1,h2=>by
  simp only[oE,az]at h1 h2;subst h1;subst h2;exact h.1
 |a::l,b::m,h,i+1,_,_,h1,h2=>zcW.get h.2 (by simpa using h1) (by simpa using h2)
theorem zcW.set{M β:Type}{p:M->β->Prop}:∀{l:List M}{m:List β},zcW p l m->∀{i:Nat}{a:M}{b:β},p a b->zcW p (l.set i a) (m.set i b)
 |[],[],_,i,_,_,_=>by simp[zcW]
 |_::_,_::_,h,0,_,_,k=>⟨k,h.2⟩
 |_::_,_::_,h,i+1,_,_,k=>⟨h.1,zcW.set h.2 k⟩
def Ea(v:AV):Prop:=zdU v/\match v with
 | .sl _ _ _ _|.agg _=>False
 |_=>True
def zdf(S:Nat->Prop):Nat->Hp->AV->AV->Prop
 |0,_,_,_=>False
 |n+1,H,v,u=>match v with
  | .sl r M W z=>S r/\r<H.next/\∃Z g O l,H.get r=some (.cells Z g O)/\g<=Z.length/\M+W*z<=Z.length/\zcW (zdf S n H) ((Z.drop M).take (W*z)) l/\u=.lst (zdP z W l)
  | .agg Z=>∃F,zcW (zdf S n H) Z F/\u=.agg F
  |v=>zdU v/\u=v
theorem zdf.flat{S:Nat->Prop}{n:Nat}{H:Hp}{v:AV}(h:Ea v):zdf S (n+1) H v v:=by
 cases v<;>first|exact h.2.elim|exact⟨h.1,rfl⟩
def lj:=@zdf.flat
theorem zdf.up{S:Nat->Prop}{H:Hp}:∀{n m:Nat}{v u:AV},zdf S n H v u->n<=m->zdf S m H v u
 |0,_,_,_,h,_=>h.elim
 |n+1,0,_,_,_,hm=>by omega
 |n+1,m+1,v,u,h,hm=>by
  cases v with
  |sl r M V z=>
   obtain⟨i,o,W,g,O,l,Z,Y,U,j,A⟩:=h;exact⟨i,o,W,g,O,l,Z,Y,U,j.mono fun a b k=>zdf.up k ac,A⟩
  |agg W=>
   obtain⟨F,i,Z⟩:=h;exact⟨F,i.mono fun a b k=>zdf.up k ac,Z⟩
  |_=>exact h
def oF(a b:Option HB):Prop:=a=b\/∃W i j O,a=some (.cells W i O)/\b=some (.cells W j O)/\(i<=W.length->j<=W.length)
theorem oF.trans{a b c:Option HB}(h:oF a b)(k:oF b c):oF a c:=by
 rcases h with rfl|⟨W,i,j,O,rfl,rfl,h⟩
 .exact k
 .rcases k with rfl|⟨m,Z,Y,A,e,rfl,k⟩
  .exact .inr ⟨W,i,j,O,rfl,rfl,h⟩
  .simp only[az,HB.cells.injEq]at e;obtain⟨rfl,rfl,rfl⟩:=e;exact .inr ⟨W,i,Y,O,rfl,rfl,fun q=>k (h q)⟩
theorem zdf.frame2{S S':Nat->Prop}{H H':Hp}(hS:∀k,k<H.next->S k->S' k)(m:H.next<=H'.next)(Y:∀k,S k->k<H.next->oF (H.get k) (H'.get k)):∀{n:Nat}{v u:AV},zdf S n H v u->zdf S' n H' v u
 |0,_,_,h=>h.elim
 |n+1,v,u,h=>by
  cases v with
  |sl r off len z=>
   obtain⟨Z,W,V,U,O,l,g,L,K,I,A⟩:=h;have o:=I.mono fun a b k=>zdf.frame2 hS m Y k;rcases Y r Z W with e|⟨C,i,j,J,M,e2,e3⟩
   .exact⟨hS r W Z,ac,V,U,O,l,by rw[<-e];exact g,L,K,o,A⟩
   .rw[g]at M;simp only[az,HB.cells.injEq]at M;obtain⟨rfl,rfl,rfl⟩:=M;exact⟨hS r W Z,ac,V,j,O,l,e2,e3 L,K,o,A⟩
  |agg V=>
   obtain⟨F,Z,g⟩:=h;exact⟨F,Z.mono fun a b k=>zdf.frame2 hS m Y k,g⟩
  |_=>exact h
theorem zdf.frame{S S':Nat->Prop}(hS:∀k,S k->S' k){H H':Hp}(m:H.next<=H'.next)(i:∀k,S k->k<H.next->oF (H.get k) (H'.get k)){n:Nat}{v u:AV}(h:zdf S n H v u):zdf S' n H' v u:=h.frame2 (fun k _ q=>hS k q) m i
structure Icy (S:Nat->Prop) (H H':Hp):Prop where
 next:H'.next=H.next
 out:∀k,¬S k->H'.get k=H.get k
 same:∀k,oF (H.get k) (H'.get k)
theorem Icy.refl(S:Nat->Prop)(H:Hp):Icy S H H:=⟨rfl,fun _ _=>rfl,fun _=>.inl rfl⟩
theorem Icy.trans{S:Nat->Prop}{a b c:Hp}(h:Icy S a b)(k:Icy S b c):Icy S a c:=⟨k.next.trans h.next,fun r hr=>(k.out r hr).trans (h.out r hr),fun r=>(h.same r).trans (k.same r)⟩
theorem Icy.ic{S S':Nat->Prop}{H H':Hp}(h:Icy S H H'){n:Nat}{v u:AV}(k:zdf S' n H v u):zdf S' n H' v u:=k.frame (fun _ q=>q) (Nat.le_of_eq h.next.symm) fun r _ _=>h.same r
theorem wz{S:Nat->Prop}{n:Nat}(ih:∀{v u:AV}{H:Hp},zdf S n H v u->∃H',fw n v H=some (u,H')/\Icy S H H'):∀{l m:List AV}{H:Hp},zcW (zdf S n H) l m->∃H',ii (fw n) l H=some (m,H')/\Icy S H H'
 |[],[],H,_=>⟨H,rfl,Icy.refl S H⟩
 |a::l,b::m,H,h=>by
  obtain⟨H1,i,g⟩:=ih h.1;obtain⟨Z,o,U⟩:=wz ih (l:=l) (m:=m) (H:=H1) (h.2.mono fun a b k=>g.ic k);exact⟨Z,by simp only[ii,i,o],g.trans U⟩
theorem zdf.ice{S:Nat->Prop}:∀{n:Nat}{v u:AV}{H:Hp},zdf S n H v u->∃H',fw n v H=some (u,H')/\Icy S H H'
 |0,_,_,_,h=>h.elim
 |n+1,v,u,H,h=>by
  cases v with
  |sl r M W z=>
   obtain⟨i,h0,Z,g,O,l,Y,V,U,L,rfl⟩:=h;have C:Icy S H (H.set r (.cells Z (max g (M+W*z)) O)):=by
    refine⟨rfl,fun k j=>by rw[aU,ah (fun e=>j (by rw[e];exact i))],fun k=>?_⟩;rw[aU];split
    .rename_i e;subst e;exact .inr ⟨Z,g,max g (M+W*z),O,Y,rfl,fun _=>ac⟩
    .exact .inl rfl
   obtain⟨H',A,K⟩:=wz (fun k=>zdf.ice k) (L.mono fun a b k=>C.ic k);refine⟨H',?_,C.trans K⟩;have e:fw (n+1) (.sl r M W z) H=match H.get r with
    |some (.cells Z g O)=>match Nat.ble (M+W*z) Z.length&&Nat.ble g Z.length with
     |true=>match ii (fw n) ((Z.drop M).take (W*z)) (H.set r (.cells Z (max g (M+W*z)) O))with
      |some (m,H)=>some (.lst (zdP z W m),H)
      |none=>none
     |false=>none
    |_=>none:=rfl
   rw[e,Y];have J:Nat.ble (M+W*z) Z.length=true:=by rw[wy];exact U
   have I:Nat.ble g Z.length=true:=by rw[wy];exact V
   simp only[J,I,pM,A]
  |agg Z=>
   obtain⟨F,i,rfl⟩:=h;obtain⟨H',Y,V⟩:=wz (fun k=>zdf.ice k) i;refine⟨H',?_,V⟩;have e:fw (n+1) (.agg Z) H=match ii (fw n) Z H with
    |some (F,H)=>some (.agg F,H)
    |none=>none:=rfl
   rw[e,Y]
  |ptr r o=>
   obtain⟨k,j⟩:=h.1;exact absurd (j (k+1) ac H) (by simp[iceV])
  |map r=>
   obtain⟨k,j⟩:=h.1;exact absurd (j (k+1) ac H) (by simp[iceV])
  |_=>exact⟨H,by rw[show u=_ from h.2];rfl,Icy.refl S H⟩
theorem zdf.iceL{S:Nat->Prop}{n:Nat}{l m:List AV}{H:Hp}(h:zcW (zdf S n H) l m):∃H',ii (fw n) l H=some (m,H')/\Icy S H H':=wz (fun k=>zdf.ice k) h
theorem z9{S:Nat->Prop}{n:Nat}{H:Hp}(ih:∀{v u:AV},zdf S n H v u->∃K,∀m,K<=m->iceV H m v=some u):∀{l k:List AV},zcW (zdf S n H) l k->∃K,∀m,K<=m->iceL (iceV H m) l=some k
 |[],[],_=>⟨0,fun _ _=>rfl⟩
 |a::l,b::k,h=>by
  obtain⟨zdY,i⟩:=ih h.1;obtain⟨A,g⟩:=z9 ih (l:=l) (k:=k) h.2;exact⟨max zdY A,fun m M=>by simp only[iceL,i m ac,g m ac]⟩
theorem zdf.iceV{S:Nat->Prop}{H:Hp}:∀{n:Nat}{v u:AV},zdf S n H v u->∃K,∀m,K<=m->iceV H m v=some u
 |0,_,_,h=>h.elim
 |n+1,v,u,h=>by
  cases v with
  |sl r M W z=>
   obtain⟨i,o,Y,g,O,l,L,C,A,j,rfl⟩:=h;obtain⟨K,Z⟩:=z9 (fun k=>zdf.iceV k) j;refine⟨K+1,fun m V=>?_⟩;obtain⟨m,rfl⟩:∃k,m=k+1:=⟨m-1,ac⟩;have e:Ab.iceV H (m+1) (.sl r M W z)=match H.get r with
    |some (.cells Y _ _)=>match Ab.iceL (Ab.iceV H m) ((Y.drop M).take (W*z))with
     |some U=>if U.length=W*z then some (.lst (zdP z W U))else none
     |none=>none
    |_=>none:=rfl
   have I:l.length=W*z:=by rw[<-j.len,iN,ik];omega
   rw[e,L];simp only[Z m ac,I,bT]
  |agg Y=>
   obtain⟨F,i,rfl⟩:=h;obtain⟨K,Z⟩:=z9 (fun k=>zdf.iceV k) i;refine⟨K+1,fun m V=>?_⟩;obtain⟨m,rfl⟩:∃k,m=k+1:=⟨m-1,ac⟩;have e:Ab.iceV H (m+1) (.agg Y)=match Ab.iceL (Ab.iceV H m) Y with
    |some F=>some (.agg F)
    |none=>none:=rfl
   rw[e,Z m ac]
  |_=>
   obtain⟨k,J⟩:=h.1;exact⟨k,fun m V=>by rw[J m V H,h.2]⟩
theorem chunk_rows(z:Nat):∀(rows:List (List AV)),(∀r∈rows,r.length=z)->zdP z rows.length rows.flatten=rows
 |[],_=>rfl
 |r::rows,h=>by
  have i:=h r eW;rw[lN,dg];show(r++rows.flatten).take z::zdP z rows.length ((r++rows.flatten).drop z)=_;rw[yB ac,ev ac,vM ac,yC ac,lK,chunk_rows z rows fun q K=>h q (e8 _ K)]
theorem wA{z:Nat}:∀{rows:List (List AV)},(∀r∈rows,r.length=z)->rows.flatten.length=rows.length*z
 |[],_=>by simp
 |r::rows,h=>by
  rw[lN,fj,h r eW,wA fun q K=>h q (e8 _ K),dg,pF];omega
theorem zcW.flat{p:AV->AV->Prop}:∀{a b:List (List AV)},zcW (zcW p) a b->zcW p a.flatten b.flatten
 |[],[],_=>trivial
 |_::_,_::_,h=>by rw[lN,lN];exact h.1.append (zcW.flat h.2)
theorem zcW.rowlen{p:AV->AV->Prop}{z:Nat}:∀{a b:List (List AV)},zcW (zcW p) a b->(∀r∈a,r.length=z)->∀r∈b,r.length=z
 |[],[],_,_,r,hr=>by simp at hr
 |x::a,y::b,h,hz,r,hr=>by
  rcases fk.1 hr with rfl|hr
  .rw[<-h.1.len];exact hz x eW
  .exact zcW.rowlen h.2 (fun q K=>hz q (e8 _ K)) r hr
theorem zdf.rows{S:Nat->Prop}{n:Nat}{H:Hp}{r z imm:Nat}{tip:Bool}{a b:List (List AV)}(hS:S r)(hr:r<H.next)(A:H.get r=some (.cells a.flatten imm tip))(C:imm<=a.flatten.length)(m:∀x∈a,x.length=z)(h:zcW (zcW (zdf S n H)) a b):zdf S (n+1) H (.sl r 0 a.length z) (.lst b):=by
 have I:=wA m;refine⟨hS,hr,a.flatten,imm,tip,b.flatten,A,C,ac,?_,?_⟩
 .rw[dQ,ev ac];exact h.flat
 .rw[h.len,chunk_rows z b (h.rowlen m)]
theorem bO.wk{G:Gh}(n:Nat):∀{args:List AV}{vs:List Value},bO G args vs->bO G (args.map (bE n)) vs
 |[],vs,h=>h
 |a::l,[],h=>by have:=h.1;simp at this
 |a::l,v::vs,h=>by
  obtain⟨i,g⟩:=h.of_cons;exact jJ (i.wk n) (bO.wk n g)
theorem a9.wkA{P:Program}{ρ:Nat->Int}{f:FuncId}{args:List AV}{r:AV}(n:Nat)(h:a9 P ρ f (args.map (bE n)) r):a9 P ρ f args r:=⟨h.1,fun G w vs i g o=>h.2 G w vs i g (o.wk n)⟩
def kD(e:En):En:=⟨e.f,e.ice,fun args=>e.sp (args.map (bE 60))⟩
theorem rQ{P:Program}{ρ:Nat->Int}{e:En}(h:zdd P ρ e):zdd P ρ (kD e):=fun args r hr=>(h _ r hr).wkA 60
theorem Ex.pure(x:Ex):zd7 x.cells:=by
 have o:∀n (x:Ex),x.sz<n->zd7 x.cells:=by
  intro n;induction n with
  |zero=>intro x h;omega
  |succ n ih=>
   intro x h;rw[pU];refine .cons (.int _ _) (.cons (.int _ _) (.cons (.str _) (.cons (.int _ _) (.cons (.map fun y K=>ih y ?_) .nil))));have:=rL K;have:=x.sz_eq;omega
 exact o _ x (cL _)
theorem wB(l:List Ex):zdU (.lst (l.map Ex.cells)):=.map fun x _=>x.pure
theorem St.pure(x:St):zd7 x.cells:=by
 have o:∀n (x:St),x.sz<n->zd7 x.cells:=by
  intro n;induction n with
  |zero=>intro x h;omega
  |succ n ih=>
   intro x h;rw[rH];have:=x.sz_eq;refine .cons (.int _ _) (.cons (.str _) (.cons (.str _) (.cons (.int _ _) (.cons (.int _ _) (.cons (.int _ _) (.cons (.str _) (.cons (.int _ _) (.cons (wB _) (.cons (.int _ _) (.cons (.int _ _) (.cons (.str _) (.cons (.int _ _) (.cons (wB _) (.cons (wB _) (.cons (.map fun y K=>ih y ?_) (.cons (.map fun y K=>ih y ?_) .nil))))))))))))))))
   .have:=rM K;omega
   .have:=rM K;omega
 exact o _ x (cL _)
theorem NB(l:List St):zdU (.lst (l.map St.cells)):=.map fun x _=>x.pure
theorem ua(l:List (List UInt8)):zdU (zdE l):=.map fun x _=>.cons (.str _) .nil
theorem Fu.pure(x:Fu):zd7 x.cells:=by
 rw[t4];exact .cons (.str _) (.cons (ua _) (.cons (ua _) (.cons (NB _) (.cons (.int _ _) (.cons (.int _ _) (.cons (.str _) (.cons (.int _ _) (.cons (wB _) .nil))))))))
theorem Ar.pure(x:Ar):zd7 x.cells:=.cons (.str _) (.cons (.int _ _) .nil)
theorem Pr.pure(x:Pr):zd7 x.cells:=.cons (.map fun x _=>x.pure) (.cons (.map fun x _=>x.pure) .nil)
theorem zeX{M β:Type}{f:M->β}:∀{a b:List M},(∀x∈a,∀y,f x=f y->x=y)->a.map f=b.map f->a=b
 |[],[],_,_=>rfl
 |[],_::_,_,h=>by simp at h
 |_::_,[],_,h=>by simp at h
 |x::a,y::b,hf,h=>by
  simp only[dJ,cM]at h;rw[hf x eW y h.1,zeX (fun z m=>hf z (e8 _ m)) h.2]
theorem Ex.ext'{x y:Ex}(o:x.kind=y.kind)(h1:x.n=y.n)(h2:x.name=y.name)(Z:x.op=y.op)(U:x.kids=y.kids):x=y:=by
 cases x;cases y;simp only[Ex.kind,Ex.n,Ex.name,Ex.op,Ex.kids]at *;simp[*]
theorem Ex.inj{x y:Ex}(h:x.cells=y.cells):x=y:=by
 have o:∀n (x:Ex),x.sz<n->∀y,x.cells=y.cells->x=y:=by
  intro n;induction n with
  |zero=>intro x h;omega
  |succ n ih=>
   intro x h y e;rw[pU,pU]at e;simp only[cM,AV.int.injEq,AV.str.injEq,AV.lst.injEq,fH,aY]at e;obtain⟨Z,Y,A,J,W⟩:=e;refine Ex.ext' Z Y A J (zeX (fun z m=>ih z ?_) W);have:=rL m;have:=x.sz_eq;omega
 exact o _ x (cL _) y h
theorem wC{a b:List Ex}(h:a.map Ex.cells=b.map Ex.cells):a=b:=zeX (fun _ _ _=>Ex.inj) h
theorem St.ext'{x y:St}(o:x.kind=y.kind)(h1:x.name=y.name)(h2:x.to=y.to)(Z:x.n=y.n)(U:x.at_=y.at_)(j:x.value=y.value)(A:x.args=y.args)(F:x.thn=y.thn)(I:x.els=y.els):x=y:=by
 cases x;cases y;simp only[St.kind,St.name,St.to,St.n,St.at_,St.value,St.args,St.thn,St.els]at *;simp[*]
theorem St.inj{x y:St}(h:x.cells=y.cells):x=y:=by
 have o:∀n (x:St),x.sz<n->∀y,x.cells=y.cells->x=y:=by
  intro n;induction n with
  |zero=>intro x h;omega
  |succ n ih=>
   intro x h y e;have L:=x.sz_eq;rw[rH,rH]at e;simp only[cM,AV.int.injEq,AV.str.injEq,AV.lst.injEq,fH,aY]at e;obtain⟨Z,Y,A,J,a0,a1,a2,zd9,zea,W,V,U,O,i,K,M,C⟩:=e;refine St.ext' Z Y A J (Ex.ext' a0 a1 a2 zd9 (wC zea)) (Ex.ext' W V U O (wC i)) (wC K) (zeX (fun z m=>ih z ?_) M) (zeX (fun z m=>ih z ?_) C)
   .have:=rM m;omega
   .have:=rM m;omega
 exact o _ x (cL _) y h
theorem NC{a b:List St}(h:a.map St.cells=b.map St.cells):a=b:=zeX (fun _ _ _=>St.inj) h
theorem wD{a b:List (List UInt8)}(h:(a.map fun s=>[AV.str s])=b.map fun s=>[AV.str s]):a=b:=zeX (fun x _ y e=>ww) h
theorem Fu.inj{x y:Fu}(h:x.cells=y.cells):x=y:=by
 obtain⟨n,p,l,b,v⟩:=x;obtain⟨o,L,j,O,M⟩:=y;rw[t4,t4]at h;simp only[cM,AV.int.injEq,AV.str.injEq,AV.lst.injEq,fH,aY]at h;obtain⟨z,Y,A,J,Z,W,V,U,i⟩:=h;rw[z,wD Y,wD A,NC J,Ex.ext' Z W V U (wC i)]
theorem Ar.inj{x y:Ar}(h:x.cells=y.cells):x=y:=by
 obtain⟨n,p⟩:=x;obtain⟨o,L⟩:=y;simp only[Ar.cells,cM,AV.int.injEq,AV.str.injEq,fH,aY]at h;rw[h.1,h.2]
theorem Pr.inj{x y:Pr}(h:x.cells=y.cells):x=y:=by
 obtain⟨n,p⟩:=x;obtain⟨o,L⟩:=y;simp only[Pr.cells,cM,AV.lst.injEq,fH,aY]at h;rw[zeX (fun _ _ _=>Ar.inj) h.1,zeX (fun _ _ _=>Fu.inj) h.2]
theorem oG(l:List Int):zdU (jk l):=.map fun x _=>.cons (.int _ _) .nil
theorem Nd.pure(x:Nd):zd7 x.cells:=.cons (.int _ _) (.cons (.int _ _) (.cons (oG _) .nil))
def rR:=@Nd.pure
theorem Gr.pure(x:Gr):zd7 x.cells:=.cons (.str _) (.cons (.int _ _) (.cons (.map fun y _=>y.pure) (.cons (.int _ _) (.cons (.int _ _) .nil))))
theorem Un.pure(x:Un):zd7 x.cells:=.cons (.map fun y _=>y.pure) (.cons (.map fun y _=>y.pure) .nil)
def rS:=@Un.pure
theorem Eb{a b:List Int}(h:(a.map fun n=>[AV.int .i64 n])=b.map fun n=>[AV.int .i64 n]):a=b:=zeX (fun x _ y e=>ww) h
theorem Nd.inj{x y:Nd}(h:x.cells=y.cells):x=y:=by
 obtain⟨n,p,k⟩:=x;obtain⟨o,L,k'⟩:=y;simp only[Nd.cells,cM,AV.int.injEq,AV.lst.injEq,fH,aY]at h;rw[h.1,h.2.1,Eb h.2.2]
def nS:=@Nd.inj
theorem Gr.inj{x y:Gr}(h:x.cells=y.cells):x=y:=by
 obtain⟨n,p,l,v,s⟩:=x;obtain⟨Z,L,Y,A,F⟩:=y;simp only[Gr.cells,cM,AV.int.injEq,AV.str.injEq,AV.lst.injEq,fH,aY]at h;obtain⟨i,g,o,U,j⟩:=h;rw[i,g,zeX (fun _ _ _=>nS) o,U,j]
theorem Un.inj{x y:Un}(h:x.cells=y.cells):x=y:=by
 obtain⟨n,p⟩:=x;obtain⟨o,L⟩:=y;simp only[Un.cells,cM,AV.lst.injEq,fH,aY]at h;rw[zeX (fun _ _ _=>Ar.inj) h.1,zeX (fun _ _ _=>Gr.inj) h.2]
end Go.Ab
namespace Go.Proofs.YtljebeflbbgibaaGreat
set_option maxRecDepth 20000
open Go Go.Ab
theorem fit:Fit Tryz.prog:=Fit.of af
def pls:List (Nat×Nat×Plan):=[(7,9,(.perm [0,1,2,4,5,8,10,3,6,7,9,11])),
 (7,10,(.perm [0,1,2,4,5,8,10,3,6,7,9,11])),
 (8,4,(.perm [0,1,2,4,5,6,7,11,12,3,8,9,10,13,14])),
 (14,22,(.perm [0,1,2,3,4,5,6,7,10,8,9,11])),
 (73,14,(.perm [0,1,2,4,5,7,9,3,6,8,10])),
 (116,23,(.perm [0,1,2,3,4,5,6,7,9,10,11,12,13,14,8,15,16,17,18,19])),
 (116,24,(.perm [0,1,2,3,4,5,6,8,9,10,11,12,13,7,14,15,16])),
 (152,13,(.perm [0,1,2,3,4,5,6,8,9,7,10,11,12])),
 (176,23,(.perm [0,2,3,4,5,6,7,1,8,9]))]
def jO(l:List Int):AV:=.lst (l.map fun n=>[.int .i64 n])
theorem Aa:∀{a b:List Int},(a.map fun n=>[AV.int .i64 n])=(b.map fun n=>[AV.int .i64 n])->a=b
 |[],[],_=>rfl
 |[],_::_,h=>by simp at h
 |_::_,[],h=>by simp at h
 |x::a,y::b,h=>by
  simp only[dJ,cM,AV.int.injEq,aY,fH]at h;rw[h.1,Aa h.2]
theorem Ac(l:List Int):zdU (jO l):=.map fun n _=>.cons (.int _ _) .nil
theorem cells_inu:Tryz.prog.cellsOf 3=1:=af
def zcz:=ad @Nn (ad @List.toList_toArray.{0} (ad @zdg (ad @nG (ad @ze1 (ad @k8 (ad @gL (ad @List.length_map.{0,0} (ad @Int.natCast_zero (ad @Mm (ad @Mn (ad @Mo (ad @Mp (ad @Mq (ad @gH (ad @cond_true.{1} (ad @cond_false.{1} (@bw)))))))))))))))))
def zcL:=ad @Ex.clen (ad @Ex.c0 (ad @Ex.c1 (ad @Ex.c2 (ad @Ex.c3 (ad @Ex.c4 (ad @Ex.whole (ad @Ex.one (ad @St.clen (ad @St.c0 (ad @St.c1 (ad @St.c2 (ad @St.c3 (ad @St.c4 (ad @St.c5 (ad @St.c6 (ad @St.c7 (ad @St.c8 (ad @St.c9 (ad @St.c10 (ad @St.c11 (ad @St.c12 (ad @St.c13 (ad @St.c14 (ad @St.c15 (ad @St.c16 (ad @St.whole (ad @St.one (ad @M9 (ad @St.part_value (ad @Fu.clen (ad @Fu.c0 (ad @Fu.c1 (ad @Fu.c2 (ad @Fu.c3 (ad @Fu.c4 (ad @Fu.c5 (ad @Fu.c6 (ad @Fu.c7 (ad @Fu.c8 (ad @Fu.whole (ad @Fu.one (ad @Fu.part_value (ad @Ar.clen (ad @Ar.c0 (ad @Ar.c1 (ad @Ar.whole (ad @Ar.one (ad @Pr.clen (ad @Pr.c0 (ad @Pr.c1 (ad @Pr.whole (ad @Pr.one (ad @Tk.clen (ad @Tk.c0 (ad @Tk.c1 (ad @Tk.c2 (ad @Tk.whole (ad @Tk.one (ad @Nd.clen (ad @Nd.c0 (ad @Nd.c1 (ad @Nd.c2 (ad @Nd.whole (ad @Nd.one (ad @Gr.clen (ad @Gr.c0 (ad @Gr.c1 (ad @Gr.c2 (ad @Gr.c3 (ad @Gr.c4 (ad @Gr.whole (ad @Gr.one (ad @Un.clen (ad @Un.c0 (ad @Un.c1 (ad @Un.whole (ad @Un.one (ad @M5 (ad @M6 (ad @M7 (ad @M8 (ad @List.getElem?_drop.{0} (ad @my (ad @if_true.{1} (ad @rG (ad @wm (ad @DR (ad @MO (ad @cells_int (ad @DS (ad @MP (ad @MQ (ad @MR (ad @MT (ad @MU (ad @MV (ad @MW (ad @DT (ad @MX (ad @MY (ad @MZ (ad @M0 (ad @M1 (ad @M2 (ad @M3 (ad @M4 (ad @List.all_cons.{0} (ad @List.all_nil.{0} (ad @jN (ad @de (ad @aY (ad @fH (ad @cK (ad @aM (ad @List.nil_append.{0} (ad @List.append_nil.{0} (ad @List.cons_append.{0} (ad @zcB (ad @zcS (ad @zdg (ad @beq_self_eq_true.{0} (ad @zN (ad @zO (ad @DU (ad @gG (ad @List.getElem?_map.{0,0} (ad @Option.map_some.{0,0} (ad @rF (ad @MN (ad @MM (ad @MJ (ad @MK (ad @get_set (ad @pT (ad @List.getElem?_cons_succ.{0} (ad @List.getElem?_cons_zero.{0} (ad @List.drop_succ_cons.{0} (ad @List.drop_zero.{0} (ad @List.take_succ_cons.{0} (ad @List.take_zero.{0} (ad @List.length_cons.{0} (ad @List.length_nil.{0} (ad @Int.natCast_nonneg (ad @dL (ad @Mr (ad @Ms (ad @Mt (ad @Mu (ad @Mv (ad @Mw (ad @My (ad @Mz (ad @MA (ad @MB (ad @MC (ad @MD (ad @ME (ad @MF (ad @MG (@MH))))))))))))))))))))))))))))))))))))))))))))))))))))))))))))))))))))))))))))))))))))))))))))))))))))))))))))))))))))))))))))))))))))))))))))))))))))))))))))))))
structure Plain (cfg:Cfg) (f:FuncId):Prop where
 call:∀args,cfg.call f args=none
 ice:cfg.ice f=false
 froz:cfg.froz f=false
theorem ub:zcC Tryz.prog 2=some 1:=af
theorem Ad:zc7 Tryz.prog 2=some 8:=af
theorem ND(cs:List AV)(o:Nat):zcw Tryz.prog 2 cs o=cs[o]?:=zdQ Tryz.underlying2 rfl cs o
theorem Ae:zcX Tryz.prog 2=some [(.int .i64 0)]:=af
def cI:=ad @ub (ad @ND (ad @Ad (@Ae)))
theorem jf:zcC Tryz.prog 3=some 1:=af
theorem p7:zc7 Tryz.prog 3=some 8:=af
theorem NE(cs:List AV)(o:Nat):zcw Tryz.prog 3 cs o=cs[o]?:=zdQ Tryz.underlying3 rfl cs o
theorem p8:zcX Tryz.prog 3=some [(.int .i64 0)]:=af
def bZ:=ad @jf (ad @NE (ad @p7 (@p8)))
theorem wE:zcC Tryz.prog 4=some 1:=af
theorem Ec:zc7 Tryz.prog 4=some 1:=af
theorem NF(cs:List AV)(o:Nat):zcw Tryz.prog 4 cs o=cs[o]?:=zdQ Tryz.underlying4 rfl cs o
theorem Ee:zcX Tryz.prog 4=some [(.bool false)]:=af
def lk:=ad @wE (ad @NF (ad @Ec (@Ee)))
theorem Af:zcC Tryz.prog 5=some 1:=af
theorem Ag:zc7 Tryz.prog 5=some 1:=af
theorem NG(cs:List AV)(o:Nat):zcw Tryz.prog 5 cs o=cs[o]?:=zdQ Tryz.underlying5 rfl cs o
theorem Ah:zcX Tryz.prog 5=some [(.int .u8 0)]:=af
def uc:=ad @Af (ad @NG (ad @Ag (@Ah)))
theorem Ai:zcC Tryz.prog 9=some 1:=af
theorem Aj:zc7 Tryz.prog 9=some 16:=af
theorem NH(cs:List AV)(o:Nat):zcw Tryz.prog 9 cs o=cs[o]?:=zdQ Tryz.underlying9 rfl cs o
theorem Ak:zcX Tryz.prog 9=some [(.str [])]:=af
theorem NI(H:Hp)(s:List UInt8):zc0 Tryz.prog H 9 (.str s)=some (.int .i64 s.length):=MI Tryz.underlying9 s
theorem NJ(s:List UInt8){n:Int}(m:0<=n)(k:IntKind):lJ Tryz.prog 9 (.str s) (.int k n)=wl (s[n.toNat]?):=ML Tryz.underlying9 s m k
def dl:=ad @Ai (ad @NH (ad @Aj (ad @Ak (ad @NI (@NJ)))))
theorem NK:zcC Tryz.prog 23=some 1:=af
theorem NL:zc7 Tryz.prog 23=some 24:=af
theorem NM(cs:List AV)(o:Nat):zcw Tryz.prog 23 cs o=cs[o]?:=zdQ Tryz.underlying23 rfl cs o
theorem NN:zcX Tryz.prog 23=some [.nilS]:=af
theorem NO(xs:List (List AV)){n:Int}(m:0<=n)(k:IntKind):zcU Tryz.prog 23 (.lst xs) (.int k n)=gh 1 (xs[n.toNat]?):=zeN Tryz.underlying23 (show zcC Tryz.prog 3=some 1 from by kernel_rfl) xs m k
theorem NP(r o l z:Nat){n:Int}(m:0<=n)(k:IntKind):zcU Tryz.prog 23 (.sl r o l z) (.int k n)=bif decide (n.toNat<l)then some (.ptr r (o+n.toNat*1))else none:=zeO Tryz.underlying23 (show zcC Tryz.prog 3=some 1 from by kernel_rfl) r o l z m k
theorem NQ(H:Hp)(xs:List (List AV)):zc0 Tryz.prog H 23 (.lst xs)=some (.int .i64 xs.length):=zeM Tryz.underlying23 xs
theorem NR(H:Hp)(r o n z:Nat):zc0 Tryz.prog H 23 (.sl r o n z)=some (.int .i64 n):=zez Tryz.underlying23 r o n z
theorem NS(H:Hp):zc0 Tryz.prog H 23 .nilS=some (.int .i64 0):=zeA Tryz.underlying23
def d8:=ad @NK (ad @NM (ad @NL (ad @NN (ad @NO (ad @NP (ad @NQ (ad @NR (@NS))))))))
theorem wF:zcC Tryz.prog 25=some 3:=af
theorem Eg:zc7 Tryz.prog 25=some 40:=af
theorem NT(cs:List AV)(o:Nat):zcw Tryz.prog 25 cs o=zc6 3 (cs.drop o):=zev Tryz.underlying25 rfl wF cs o
theorem Eh:zcX Tryz.prog 25=some [(.int .i64 0),(.int .i64 0),.nilS]:=af
theorem NU(r o:Nat):zcs Tryz.prog 25 (.ptr r o) 0=some (.ptr r (o+0)):=af
theorem NV(cs:List AV):zcs Tryz.prog 25 (.iptr cs) 0=some (.iptr (cs.drop 0)):=af
theorem NW(cs:List AV):zcM Tryz.prog 25 (.agg cs) 0=zcw Tryz.prog 3 cs 0:=af
theorem NX(r o:Nat):zcs Tryz.prog 25 (.ptr r o) 1=some (.ptr r (o+1)):=af
theorem NY(cs:List AV):zcs Tryz.prog 25 (.iptr cs) 1=some (.iptr (cs.drop 1)):=af
theorem NZ(cs:List AV):zcM Tryz.prog 25 (.agg cs) 1=zcw Tryz.prog 2 cs 1:=af
theorem N0(r o:Nat):zcs Tryz.prog 25 (.ptr r o) 2=some (.ptr r (o+2)):=af
theorem N1(cs:List AV):zcs Tryz.prog 25 (.iptr cs) 2=some (.iptr (cs.drop 2)):=af
theorem N2(cs:List AV):zcM Tryz.prog 25 (.agg cs) 2=zcw Tryz.prog 23 cs 2:=af
def eY:=ad @wF (ad @NT (ad @Eg (ad @Eh (ad @NU (ad @NV (ad @NW (ad @NX (ad @NY (ad @NZ (ad @N0 (ad @N1 (@N2))))))))))))
theorem N3:zcC Tryz.prog 26=some 1:=af
theorem N4:zc7 Tryz.prog 26=some 24:=af
theorem N5(cs:List AV)(o:Nat):zcw Tryz.prog 26 cs o=cs[o]?:=zdQ Tryz.underlying26 rfl cs o
theorem N6:zcX Tryz.prog 26=some [.nilS]:=af
theorem N7(xs:List (List AV)){n:Int}(m:0<=n)(k:IntKind):zcU Tryz.prog 26 (.lst xs) (.int k n)=gh 3 (xs[n.toNat]?):=zeN Tryz.underlying26 (show zcC Tryz.prog 25=some 3 from by kernel_rfl) xs m k
theorem N8(r o l z:Nat){n:Int}(m:0<=n)(k:IntKind):zcU Tryz.prog 26 (.sl r o l z) (.int k n)=bif decide (n.toNat<l)then some (.ptr r (o+n.toNat*3))else none:=zeO Tryz.underlying26 (show zcC Tryz.prog 25=some 3 from by kernel_rfl) r o l z m k
theorem N9(H:Hp)(xs:List (List AV)):zc0 Tryz.prog H 26 (.lst xs)=some (.int .i64 xs.length):=zeM Tryz.underlying26 xs
theorem Oa(H:Hp)(r o n z:Nat):zc0 Tryz.prog H 26 (.sl r o n z)=some (.int .i64 n):=zez Tryz.underlying26 r o n z
theorem Ob(H:Hp):zc0 Tryz.prog H 26 .nilS=some (.int .i64 0):=zeA Tryz.underlying26
def eL:=ad @N3 (ad @N5 (ad @N4 (ad @N6 (ad @N7 (ad @N8 (ad @N9 (ad @Oa (@Ob))))))))
theorem Ei:zcC Tryz.prog 28=some 5:=af
theorem Od:zc7 Tryz.prog 28=some 64:=af
theorem Oe(cs:List AV)(o:Nat):zcw Tryz.prog 28 cs o=zc6 5 (cs.drop o):=zev Tryz.underlying28 rfl Ei cs o
theorem Of:zcX Tryz.prog 28=some [(.str []),(.int .i64 0),.nilS,(.int .i64 0),(.int .i64 0)]:=af
theorem Og(r o:Nat):zcs Tryz.prog 28 (.ptr r o) 0=some (.ptr r (o+0)):=af
theorem Oh(cs:List AV):zcs Tryz.prog 28 (.iptr cs) 0=some (.iptr (cs.drop 0)):=af
theorem Oi(cs:List AV):zcM Tryz.prog 28 (.agg cs) 0=zcw Tryz.prog 9 cs 0:=af
theorem Oj(r o:Nat):zcs Tryz.prog 28 (.ptr r o) 1=some (.ptr r (o+1)):=af
theorem Ol(cs:List AV):zcs Tryz.prog 28 (.iptr cs) 1=some (.iptr (cs.drop 1)):=af
theorem Om(cs:List AV):zcM Tryz.prog 28 (.agg cs) 1=zcw Tryz.prog 3 cs 1:=af
theorem On(r o:Nat):zcs Tryz.prog 28 (.ptr r o) 2=some (.ptr r (o+2)):=af
theorem Oo(cs:List AV):zcs Tryz.prog 28 (.iptr cs) 2=some (.iptr (cs.drop 2)):=af
theorem Oq(cs:List AV):zcM Tryz.prog 28 (.agg cs) 2=zcw Tryz.prog 26 cs 2:=af
theorem Ot(r o:Nat):zcs Tryz.prog 28 (.ptr r o) 3=some (.ptr r (o+3)):=af
theorem Ou(cs:List AV):zcs Tryz.prog 28 (.iptr cs) 3=some (.iptr (cs.drop 3)):=af
theorem Ov(cs:List AV):zcM Tryz.prog 28 (.agg cs) 3=zcw Tryz.prog 3 cs 3:=af
theorem Ow(r o:Nat):zcs Tryz.prog 28 (.ptr r o) 4=some (.ptr r (o+4)):=af
theorem Oz(cs:List AV):zcs Tryz.prog 28 (.iptr cs) 4=some (.iptr (cs.drop 4)):=af
theorem OA(cs:List AV):zcM Tryz.prog 28 (.agg cs) 4=zcw Tryz.prog 3 cs 4:=af
def mK:=ad @Ei (ad @Oe (ad @Od (ad @Of (ad @Og (ad @Oh (ad @Oi (ad @Oj (ad @Ol (ad @Om (ad @On (ad @Oo (ad @Oq (ad @Ot (ad @Ou (ad @Ov (ad @Ow (ad @Oz (@OA))))))))))))))))))
theorem OB:zcC Tryz.prog 29=some 1:=af
theorem OC:zc7 Tryz.prog 29=some 24:=af
theorem OD(cs:List AV)(o:Nat):zcw Tryz.prog 29 cs o=cs[o]?:=zdQ Tryz.underlying29 rfl cs o
theorem OE:zcX Tryz.prog 29=some [.nilS]:=af
theorem OF(xs:List (List AV)){n:Int}(m:0<=n)(k:IntKind):zcU Tryz.prog 29 (.lst xs) (.int k n)=gh 5 (xs[n.toNat]?):=zeN Tryz.underlying29 (show zcC Tryz.prog 28=some 5 from by kernel_rfl) xs m k
theorem OG(r o l z:Nat){n:Int}(m:0<=n)(k:IntKind):zcU Tryz.prog 29 (.sl r o l z) (.int k n)=bif decide (n.toNat<l)then some (.ptr r (o+n.toNat*5))else none:=zeO Tryz.underlying29 (show zcC Tryz.prog 28=some 5 from by kernel_rfl) r o l z m k
theorem OH(H:Hp)(xs:List (List AV)):zc0 Tryz.prog H 29 (.lst xs)=some (.int .i64 xs.length):=zeM Tryz.underlying29 xs
theorem OI(H:Hp)(r o n z:Nat):zc0 Tryz.prog H 29 (.sl r o n z)=some (.int .i64 n):=zez Tryz.underlying29 r o n z
theorem OJ(H:Hp):zc0 Tryz.prog H 29 .nilS=some (.int .i64 0):=zeA Tryz.underlying29
def mL:=ad @OB (ad @OD (ad @OC (ad @OE (ad @OF (ad @OG (ad @OH (ad @OI (@OJ))))))))
theorem OK:zcC Tryz.prog 30=some 1:=af
theorem OL:zc7 Tryz.prog 30=some 24:=af
theorem OM(cs:List AV)(o:Nat):zcw Tryz.prog 30 cs o=cs[o]?:=zdQ Tryz.underlying30 rfl cs o
theorem ON:zcX Tryz.prog 30=some [.nilS]:=af
theorem OO(xs:List (List AV)){n:Int}(m:0<=n)(k:IntKind):zcU Tryz.prog 30 (.lst xs) (.int k n)=gh 2 (xs[n.toNat]?):=zeN Tryz.underlying30 (show zcC Tryz.prog 42=some 2 from by kernel_rfl) xs m k
theorem OP(r o l z:Nat){n:Int}(m:0<=n)(k:IntKind):zcU Tryz.prog 30 (.sl r o l z) (.int k n)=bif decide (n.toNat<l)then some (.ptr r (o+n.toNat*2))else none:=zeO Tryz.underlying30 (show zcC Tryz.prog 42=some 2 from by kernel_rfl) r o l z m k
theorem OQ(H:Hp)(xs:List (List AV)):zc0 Tryz.prog H 30 (.lst xs)=some (.int .i64 xs.length):=zeM Tryz.underlying30 xs
theorem OR(H:Hp)(r o n z:Nat):zc0 Tryz.prog H 30 (.sl r o n z)=some (.int .i64 n):=zez Tryz.underlying30 r o n z
theorem OS(H:Hp):zc0 Tryz.prog H 30 .nilS=some (.int .i64 0):=zeA Tryz.underlying30
def hM:=ad @OK (ad @OM (ad @OL (ad @ON (ad @OO (ad @OP (ad @OQ (ad @OR (@OS))))))))
theorem Ej:zcC Tryz.prog 32=some 2:=af
theorem OT:zc7 Tryz.prog 32=some 48:=af
theorem OU(cs:List AV)(o:Nat):zcw Tryz.prog 32 cs o=zc6 2 (cs.drop o):=zev Tryz.underlying32 rfl Ej cs o
theorem OV:zcX Tryz.prog 32=some [.nilS,.nilS]:=af
theorem OW(r o:Nat):zcs Tryz.prog 32 (.ptr r o) 0=some (.ptr r (o+0)):=af
theorem OX(cs:List AV):zcs Tryz.prog 32 (.iptr cs) 0=some (.iptr (cs.drop 0)):=af
theorem OY(cs:List AV):zcM Tryz.prog 32 (.agg cs) 0=zcw Tryz.prog 30 cs 0:=af
theorem OZ(r o:Nat):zcs Tryz.prog 32 (.ptr r o) 1=some (.ptr r (o+1)):=af
theorem O0(cs:List AV):zcs Tryz.prog 32 (.iptr cs) 1=some (.iptr (cs.drop 1)):=af
theorem O1(cs:List AV):zcM Tryz.prog 32 (.agg cs) 1=zcw Tryz.prog 29 cs 1:=af
def ju:=ad @Ej (ad @OU (ad @OT (ad @OV (ad @OW (ad @OX (ad @OY (ad @OZ (ad @O0 (@O1)))))))))
theorem ud:zcC Tryz.prog 33=some 1:=af
theorem Al:zc7 Tryz.prog 33=some 24:=af
theorem O2(cs:List AV)(o:Nat):zcw Tryz.prog 33 cs o=cs[o]?:=zdQ Tryz.underlying33 rfl cs o
theorem Am:zcX Tryz.prog 33=some [.nilS]:=af
theorem O3(xs:List (List AV)){n:Int}(m:0<=n)(k:IntKind):zcU Tryz.prog 33 (.lst xs) (.int k n)=gh 1 (xs[n.toNat]?):=zeN Tryz.underlying33 (show zcC Tryz.prog 2=some 1 from by kernel_rfl) xs m k
theorem O4(r o l z:Nat){n:Int}(m:0<=n)(k:IntKind):zcU Tryz.prog 33 (.sl r o l z) (.int k n)=bif decide (n.toNat<l)then some (.ptr r (o+n.toNat*1))else none:=zeO Tryz.underlying33 (show zcC Tryz.prog 2=some 1 from by kernel_rfl) r o l z m k
theorem O5(H:Hp)(xs:List (List AV)):zc0 Tryz.prog H 33 (.lst xs)=some (.int .i64 xs.length):=zeM Tryz.underlying33 xs
theorem O6(H:Hp)(r o n z:Nat):zc0 Tryz.prog H 33 (.sl r o n z)=some (.int .i64 n):=zez Tryz.underlying33 r o n z
theorem O7(H:Hp):zc0 Tryz.prog H 33 .nilS=some (.int .i64 0):=zeA Tryz.underlying33
def ll:=ad @ud (ad @O2 (ad @Al (ad @Am (ad @O3 (ad @O4 (ad @O5 (ad @O6 (@O7))))))))
theorem Ek:zcC Tryz.prog 35=some 4:=af
theorem O8:zc7 Tryz.prog 35=some 48:=af
theorem O9(cs:List AV)(o:Nat):zcw Tryz.prog 35 cs o=zc6 4 (cs.drop o):=zev Tryz.underlying35 rfl Ek cs o
theorem Pa:zcX Tryz.prog 35=some [(.int .i64 0),(.int .i64 0),.nilS,(.int .i64 0)]:=af
theorem Pb(r o:Nat):zcs Tryz.prog 35 (.ptr r o) 0=some (.ptr r (o+0)):=af
theorem Pc(cs:List AV):zcs Tryz.prog 35 (.iptr cs) 0=some (.iptr (cs.drop 0)):=af
theorem Pd(cs:List AV):zcM Tryz.prog 35 (.agg cs) 0=zcw Tryz.prog 3 cs 0:=af
theorem Pe(r o:Nat):zcs Tryz.prog 35 (.ptr r o) 1=some (.ptr r (o+1)):=af
theorem Pf(cs:List AV):zcs Tryz.prog 35 (.iptr cs) 1=some (.iptr (cs.drop 1)):=af
theorem Pg(cs:List AV):zcM Tryz.prog 35 (.agg cs) 1=zcw Tryz.prog 3 cs 1:=af
theorem Ph(r o:Nat):zcs Tryz.prog 35 (.ptr r o) 2=some (.ptr r (o+2)):=af
theorem Pi(cs:List AV):zcs Tryz.prog 35 (.iptr cs) 2=some (.iptr (cs.drop 2)):=af
theorem Pj(cs:List AV):zcM Tryz.prog 35 (.agg cs) 2=zcw Tryz.prog 33 cs 2:=af
theorem Pk(r o:Nat):zcs Tryz.prog 35 (.ptr r o) 3=some (.ptr r (o+3)):=af
theorem Pl(cs:List AV):zcs Tryz.prog 35 (.iptr cs) 3=some (.iptr (cs.drop 3)):=af
theorem Pm(cs:List AV):zcM Tryz.prog 35 (.agg cs) 3=zcw Tryz.prog 2 cs 3:=af
def An:=ad @Ek (ad @O9 (ad @O8 (ad @Pa (ad @Pb (ad @Pc (ad @Pd (ad @Pe (ad @Pf (ad @Pg (ad @Ph (ad @Pi (ad @Pj (ad @Pk (ad @Pl (@Pm)))))))))))))))
theorem El:zcC Tryz.prog 42=some 2:=af
theorem Pn:zc7 Tryz.prog 42=some 24:=af
theorem Po(cs:List AV)(o:Nat):zcw Tryz.prog 42 cs o=zc6 2 (cs.drop o):=zev Tryz.underlying42 rfl El cs o
theorem Pp:zcX Tryz.prog 42=some [(.str []),(.int .i64 0)]:=af
theorem Pq(r o:Nat):zcs Tryz.prog 42 (.ptr r o) 0=some (.ptr r (o+0)):=af
theorem Ps(cs:List AV):zcs Tryz.prog 42 (.iptr cs) 0=some (.iptr (cs.drop 0)):=af
theorem Pt(cs:List AV):zcM Tryz.prog 42 (.agg cs) 0=zcw Tryz.prog 9 cs 0:=af
theorem Pu(r o:Nat):zcs Tryz.prog 42 (.ptr r o) 1=some (.ptr r (o+1)):=af
theorem Pv(cs:List AV):zcs Tryz.prog 42 (.iptr cs) 1=some (.iptr (cs.drop 1)):=af
theorem Pw(cs:List AV):zcM Tryz.prog 42 (.agg cs) 1=zcw Tryz.prog 3 cs 1:=af
def lm:=ad @El (ad @Po (ad @Pn (ad @Pp (ad @Pq (ad @Ps (ad @Pt (ad @Pu (ad @Pv (@Pw)))))))))
theorem Px:zcC Tryz.prog 58=some 1:=af
theorem Py:zc7 Tryz.prog 58=some 24:=af
theorem Pz(cs:List AV)(o:Nat):zcw Tryz.prog 58 cs o=cs[o]?:=zdQ Tryz.underlying58 rfl cs o
theorem PA:zcX Tryz.prog 58=some [.nilS]:=af
theorem PB(xs:List (List AV)){n:Int}(m:0<=n)(k:IntKind):zcU Tryz.prog 58 (.lst xs) (.int k n)=gh 1 (xs[n.toNat]?):=zeN Tryz.underlying58 (show zcC Tryz.prog 33=some 1 from by kernel_rfl) xs m k
theorem PC(r o l z:Nat){n:Int}(m:0<=n)(k:IntKind):zcU Tryz.prog 58 (.sl r o l z) (.int k n)=bif decide (n.toNat<l)then some (.ptr r (o+n.toNat*1))else none:=zeO Tryz.underlying58 (show zcC Tryz.prog 33=some 1 from by kernel_rfl) r o l z m k
theorem PD(H:Hp)(xs:List (List AV)):zc0 Tryz.prog H 58 (.lst xs)=some (.int .i64 xs.length):=zeM Tryz.underlying58 xs
theorem PE(H:Hp)(r o n z:Nat):zc0 Tryz.prog H 58 (.sl r o n z)=some (.int .i64 n):=zez Tryz.underlying58 r o n z
theorem PF(H:Hp):zc0 Tryz.prog H 58 .nilS=some (.int .i64 0):=zeA Tryz.underlying58
def rT:=ad @Px (ad @Pz (ad @Py (ad @PA (ad @PB (ad @PC (ad @PD (ad @PE (@PF))))))))
theorem PG:zcC Tryz.prog 62=some 1:=af
theorem PH:zc7 Tryz.prog 62=some 24:=af
theorem PI(cs:List AV)(o:Nat):zcw Tryz.prog 62 cs o=cs[o]?:=zdQ Tryz.underlying62 rfl cs o
theorem PJ:zcX Tryz.prog 62=some [.nilS]:=af
theorem PK(xs:List (List AV)){n:Int}(m:0<=n)(k:IntKind):zcU Tryz.prog 62 (.lst xs) (.int k n)=gh 9 (xs[n.toNat]?):=zeN Tryz.underlying62 (show zcC Tryz.prog 106=some 9 from by kernel_rfl) xs m k
theorem PL(r o l z:Nat){n:Int}(m:0<=n)(k:IntKind):zcU Tryz.prog 62 (.sl r o l z) (.int k n)=bif decide (n.toNat<l)then some (.ptr r (o+n.toNat*9))else none:=zeO Tryz.underlying62 (show zcC Tryz.prog 106=some 9 from by kernel_rfl) r o l z m k
theorem PM(H:Hp)(xs:List (List AV)):zc0 Tryz.prog H 62 (.lst xs)=some (.int .i64 xs.length):=zeM Tryz.underlying62 xs
theorem PN(H:Hp)(r o n z:Nat):zc0 Tryz.prog H 62 (.sl r o n z)=some (.int .i64 n):=zez Tryz.underlying62 r o n z
theorem PO(H:Hp):zc0 Tryz.prog H 62 .nilS=some (.int .i64 0):=zeA Tryz.underlying62
def mM:=ad @PG (ad @PI (ad @PH (ad @PJ (ad @PK (ad @PL (ad @PM (ad @PN (@PO))))))))
theorem Em:zcC Tryz.prog 64=some 2:=af
theorem PP:zc7 Tryz.prog 64=some 48:=af
theorem PQ(cs:List AV)(o:Nat):zcw Tryz.prog 64 cs o=zc6 2 (cs.drop o):=zev Tryz.underlying64 rfl Em cs o
theorem PR:zcX Tryz.prog 64=some [.nilS,.nilS]:=af
theorem PS(r o:Nat):zcs Tryz.prog 64 (.ptr r o) 0=some (.ptr r (o+0)):=af
theorem PT(cs:List AV):zcs Tryz.prog 64 (.iptr cs) 0=some (.iptr (cs.drop 0)):=af
theorem PU(cs:List AV):zcM Tryz.prog 64 (.agg cs) 0=zcw Tryz.prog 30 cs 0:=af
theorem PV(r o:Nat):zcs Tryz.prog 64 (.ptr r o) 1=some (.ptr r (o+1)):=af
theorem PW(cs:List AV):zcs Tryz.prog 64 (.iptr cs) 1=some (.iptr (cs.drop 1)):=af
theorem PX(cs:List AV):zcM Tryz.prog 64 (.agg cs) 1=zcw Tryz.prog 62 cs 1:=af
def jP:=ad @Em (ad @PQ (ad @PP (ad @PR (ad @PS (ad @PT (ad @PU (ad @PV (ad @PW (@PX)))))))))
theorem PY:zcC Tryz.prog 66=some 1:=af
theorem PZ:zc7 Tryz.prog 66=some 8:=af
theorem P0(cs:List AV)(o:Nat):zcw Tryz.prog 66 cs o=cs[o]?:=zdQ Tryz.underlying66 rfl cs o
theorem P1:zcX Tryz.prog 66=some [(.int .i64 0)]:=af
def rU:=ad @PY (ad @P0 (ad @PZ (@P1)))
theorem P2:zcC Tryz.prog 73=some 1:=af
theorem P3:zc7 Tryz.prog 73=some 24:=af
theorem P4(cs:List AV)(o:Nat):zcw Tryz.prog 73 cs o=cs[o]?:=zdQ Tryz.underlying73 rfl cs o
theorem P5:zcX Tryz.prog 73=some [.nilS]:=af
theorem P6(xs:List (List AV)){n:Int}(m:0<=n)(k:IntKind):zcU Tryz.prog 73 (.lst xs) (.int k n)=gh 1 (xs[n.toNat]?):=zeN Tryz.underlying73 (show zcC Tryz.prog 74=some 1 from by kernel_rfl) xs m k
theorem P7(r o l z:Nat){n:Int}(m:0<=n)(k:IntKind):zcU Tryz.prog 73 (.sl r o l z) (.int k n)=bif decide (n.toNat<l)then some (.ptr r (o+n.toNat*1))else none:=zeO Tryz.underlying73 (show zcC Tryz.prog 74=some 1 from by kernel_rfl) r o l z m k
theorem P8(H:Hp)(xs:List (List AV)):zc0 Tryz.prog H 73 (.lst xs)=some (.int .i64 xs.length):=zeM Tryz.underlying73 xs
theorem P9(H:Hp)(r o n z:Nat):zc0 Tryz.prog H 73 (.sl r o n z)=some (.int .i64 n):=zez Tryz.underlying73 r o n z
theorem Qa(H:Hp):zc0 Tryz.prog H 73 .nilS=some (.int .i64 0):=zeA Tryz.underlying73
def oH:=ad @P2 (ad @P4 (ad @P3 (ad @P5 (ad @P6 (ad @P7 (ad @P8 (ad @P9 (@Qa))))))))
theorem Eo:zcC Tryz.prog 74=some 1:=af
theorem Ep:zc7 Tryz.prog 74=some 24:=af
theorem Qb(cs:List AV)(o:Nat):zcw Tryz.prog 74 cs o=cs[o]?:=zdQ Tryz.underlying74 rfl cs o
theorem Er:zcX Tryz.prog 74=some [.nilS]:=af
theorem Qc(xs:List (List AV)){n:Int}(m:0<=n)(k:IntKind):zcU Tryz.prog 74 (.lst xs) (.int k n)=gh 1 (xs[n.toNat]?):=zeN Tryz.underlying74 (show zcC Tryz.prog 125=some 1 from by kernel_rfl) xs m k
theorem Qd(r o l z:Nat){n:Int}(m:0<=n)(k:IntKind):zcU Tryz.prog 74 (.sl r o l z) (.int k n)=bif decide (n.toNat<l)then some (.ptr r (o+n.toNat*1))else none:=zeO Tryz.underlying74 (show zcC Tryz.prog 125=some 1 from by kernel_rfl) r o l z m k
theorem Qe(H:Hp)(xs:List (List AV)):zc0 Tryz.prog H 74 (.lst xs)=some (.int .i64 xs.length):=zeM Tryz.underlying74 xs
theorem Qf(H:Hp)(r o n z:Nat):zc0 Tryz.prog H 74 (.sl r o n z)=some (.int .i64 n):=zez Tryz.underlying74 r o n z
theorem Qg(H:Hp):zc0 Tryz.prog H 74 .nilS=some (.int .i64 0):=zeA Tryz.underlying74
def wG:=ad @Eo (ad @Qb (ad @Ep (ad @Er (ad @Qc (ad @Qd (ad @Qe (ad @Qf (@Qg))))))))
theorem Qh:zcC Tryz.prog 76=some 1:=af
theorem Qi:zc7 Tryz.prog 76=some 8:=af
theorem Qj(cs:List AV)(o:Nat):zcw Tryz.prog 76 cs o=cs[o]?:=zdQ Tryz.underlying76 rfl cs o
theorem Qk:zcX Tryz.prog 76=some [.nilP]:=af
def p9:=ad @Qh (ad @Qj (ad @Qi (@Qk)))
theorem Ql:zcC Tryz.prog 77=some 1:=af
theorem Qm:zc7 Tryz.prog 77=some 8:=af
theorem Qn(cs:List AV)(o:Nat):zcw Tryz.prog 77 cs o=cs[o]?:=zdQ Tryz.underlying77 rfl cs o
theorem Qo:zcX Tryz.prog 77=some [.nilP]:=af
def qa:=ad @Ql (ad @Qn (ad @Qm (@Qo)))
theorem Es:zcC Tryz.prog 79=some 6:=af
theorem Qp:zc7 Tryz.prog 79=some 64:=af
theorem Qq(cs:List AV)(o:Nat):zcw Tryz.prog 79 cs o=zc6 6 (cs.drop o):=zev Tryz.underlying79 rfl Es cs o
theorem Qr:zcX Tryz.prog 79=some [.nilS,.nilP,(.int .i64 0),(.int .i64 0),(.int .i64 0),(.int .i64 0)]:=af
theorem Qs(r o:Nat):zcs Tryz.prog 79 (.ptr r o) 0=some (.ptr r (o+0)):=af
theorem Qt(cs:List AV):zcs Tryz.prog 79 (.iptr cs) 0=some (.iptr (cs.drop 0)):=af
theorem Qu(cs:List AV):zcM Tryz.prog 79 (.agg cs) 0=zcw Tryz.prog 58 cs 0:=af
theorem Qv(r o:Nat):zcs Tryz.prog 79 (.ptr r o) 1=some (.ptr r (o+1)):=af
theorem Qw(cs:List AV):zcs Tryz.prog 79 (.iptr cs) 1=some (.iptr (cs.drop 1)):=af
theorem Qx(cs:List AV):zcM Tryz.prog 79 (.agg cs) 1=zcw Tryz.prog 77 cs 1:=af
theorem Qy(r o:Nat):zcs Tryz.prog 79 (.ptr r o) 2=some (.ptr r (o+2)):=af
theorem Qz(cs:List AV):zcs Tryz.prog 79 (.iptr cs) 2=some (.iptr (cs.drop 2)):=af
theorem QA(cs:List AV):zcM Tryz.prog 79 (.agg cs) 2=zcw Tryz.prog 3 cs 2:=af
theorem QB(r o:Nat):zcs Tryz.prog 79 (.ptr r o) 3=some (.ptr r (o+3)):=af
theorem QC(cs:List AV):zcs Tryz.prog 79 (.iptr cs) 3=some (.iptr (cs.drop 3)):=af
theorem QD(cs:List AV):zcM Tryz.prog 79 (.agg cs) 3=zcw Tryz.prog 3 cs 3:=af
theorem QE(r o:Nat):zcs Tryz.prog 79 (.ptr r o) 4=some (.ptr r (o+4)):=af
theorem QF(cs:List AV):zcs Tryz.prog 79 (.iptr cs) 4=some (.iptr (cs.drop 4)):=af
theorem QG(cs:List AV):zcM Tryz.prog 79 (.agg cs) 4=zcw Tryz.prog 3 cs 4:=af
theorem QH(r o:Nat):zcs Tryz.prog 79 (.ptr r o) 5=some (.ptr r (o+5)):=af
theorem QI(cs:List AV):zcs Tryz.prog 79 (.iptr cs) 5=some (.iptr (cs.drop 5)):=af
theorem QJ(cs:List AV):zcM Tryz.prog 79 (.agg cs) 5=zcw Tryz.prog 2 cs 5:=af
def rV:=ad @Es (ad @Qq (ad @Qp (ad @Qr (ad @Qs (ad @Qt (ad @Qu (ad @Qv (ad @Qw (ad @Qx (ad @Qy (ad @Qz (ad @QA (ad @QB (ad @QC (ad @QD (ad @QE (ad @QF (ad @QG (ad @QH (ad @QI (@QJ)))))))))))))))))))))
theorem Et:zcC Tryz.prog 86=some 2:=af
theorem QK:zc7 Tryz.prog 86=some 16:=af
theorem QL(cs:List AV)(o:Nat):zcw Tryz.prog 86 cs o=zc6 2 (cs.drop o):=zev Tryz.underlying86 rfl Et cs o
theorem QM:zcX Tryz.prog 86=some [(.int .i64 0),(.int .i64 0)]:=af
theorem QN(r o:Nat):zcs Tryz.prog 86 (.ptr r o) 0=some (.ptr r (o+0)):=af
theorem QO(cs:List AV):zcs Tryz.prog 86 (.iptr cs) 0=some (.iptr (cs.drop 0)):=af
theorem QP(cs:List AV):zcM Tryz.prog 86 (.agg cs) 0=zcw Tryz.prog 66 cs 0:=af
theorem QQ(r o:Nat):zcs Tryz.prog 86 (.ptr r o) 1=some (.ptr r (o+1)):=af
theorem QR(cs:List AV):zcs Tryz.prog 86 (.iptr cs) 1=some (.iptr (cs.drop 1)):=af
theorem QS(cs:List AV):zcM Tryz.prog 86 (.agg cs) 1=zcw Tryz.prog 3 cs 1:=af
def Ao:=ad @Et (ad @QL (ad @QK (ad @QM (ad @QN (ad @QO (ad @QP (ad @QQ (ad @QR (@QS)))))))))
theorem Eu:zcC Tryz.prog 93=some 2:=af
theorem QT:zc7 Tryz.prog 93=some 32:=af
theorem QU(cs:List AV)(o:Nat):zcw Tryz.prog 93 cs o=zc6 2 (cs.drop o):=zev Tryz.underlying93 rfl Eu cs o
theorem QV:zcX Tryz.prog 93=some [.nilS,(.int .i64 0)]:=af
theorem QW(r o:Nat):zcs Tryz.prog 93 (.ptr r o) 0=some (.ptr r (o+0)):=af
theorem QX(cs:List AV):zcs Tryz.prog 93 (.iptr cs) 0=some (.iptr (cs.drop 0)):=af
theorem QY(cs:List AV):zcM Tryz.prog 93 (.agg cs) 0=zcw Tryz.prog 23 cs 0:=af
theorem QZ(r o:Nat):zcs Tryz.prog 93 (.ptr r o) 1=some (.ptr r (o+1)):=af
theorem Q0(cs:List AV):zcs Tryz.prog 93 (.iptr cs) 1=some (.iptr (cs.drop 1)):=af
theorem Q1(cs:List AV):zcM Tryz.prog 93 (.agg cs) 1=zcw Tryz.prog 3 cs 1:=af
def Q3:=ad @Eu (ad @QU (ad @QT (ad @QV (ad @QW (ad @QX (ad @QY (ad @QZ (ad @Q0 (@Q1)))))))))
theorem Q4:zcC Tryz.prog 100=some 1:=af
theorem Q5:zc7 Tryz.prog 100=some 24:=af
theorem Q6(cs:List AV)(o:Nat):zcw Tryz.prog 100 cs o=cs[o]?:=zdQ Tryz.underlying100 rfl cs o
theorem Q7:zcX Tryz.prog 100=some [.nilS]:=af
theorem Q8(xs:List (List AV)){n:Int}(m:0<=n)(k:IntKind):zcU Tryz.prog 100 (.lst xs) (.int k n)=gh 1 (xs[n.toNat]?):=zeN Tryz.underlying100 (show zcC Tryz.prog 9=some 1 from by kernel_rfl) xs m k
theorem Q9(r o l z:Nat){n:Int}(m:0<=n)(k:IntKind):zcU Tryz.prog 100 (.sl r o l z) (.int k n)=bif decide (n.toNat<l)then some (.ptr r (o+n.toNat*1))else none:=zeO Tryz.underlying100 (show zcC Tryz.prog 9=some 1 from by kernel_rfl) r o l z m k
theorem Ra(H:Hp)(xs:List (List AV)):zc0 Tryz.prog H 100 (.lst xs)=some (.int .i64 xs.length):=zeM Tryz.underlying100 xs
theorem Rb(H:Hp)(r o n z:Nat):zc0 Tryz.prog H 100 (.sl r o n z)=some (.int .i64 n):=zez Tryz.underlying100 r o n z
theorem Rd(H:Hp):zc0 Tryz.prog H 100 .nilS=some (.int .i64 0):=zeA Tryz.underlying100
def jQ:=ad @Q4 (ad @Q6 (ad @Q5 (ad @Q7 (ad @Q8 (ad @Q9 (ad @Ra (ad @Rb (@Rd))))))))
theorem Re:zcC Tryz.prog 101=some 1:=af
theorem Rf:zc7 Tryz.prog 101=some 24:=af
theorem Rg(cs:List AV)(o:Nat):zcw Tryz.prog 101 cs o=cs[o]?:=zdQ Tryz.underlying101 rfl cs o
theorem Rh:zcX Tryz.prog 101=some [.nilS]:=af
theorem Ri(xs:List (List AV)){n:Int}(m:0<=n)(k:IntKind):zcU Tryz.prog 101 (.lst xs) (.int k n)=gh 17 (xs[n.toNat]?):=zeN Tryz.underlying101 (show zcC Tryz.prog 157=some 17 from by kernel_rfl) xs m k
theorem Rj(r o l z:Nat){n:Int}(m:0<=n)(k:IntKind):zcU Tryz.prog 101 (.sl r o l z) (.int k n)=bif decide (n.toNat<l)then some (.ptr r (o+n.toNat*17))else none:=zeO Tryz.underlying101 (show zcC Tryz.prog 157=some 17 from by kernel_rfl) r o l z m k
theorem Rk(H:Hp)(xs:List (List AV)):zc0 Tryz.prog H 101 (.lst xs)=some (.int .i64 xs.length):=zeM Tryz.underlying101 xs
theorem Rl(H:Hp)(r o n z:Nat):zc0 Tryz.prog H 101 (.sl r o n z)=some (.int .i64 n):=zez Tryz.underlying101 r o n z
theorem Rm(H:Hp):zc0 Tryz.prog H 101 .nilS=some (.int .i64 0):=zeA Tryz.underlying101
def iA:=ad @Re (ad @Rg (ad @Rf (ad @Rh (ad @Ri (ad @Rj (ad @Rk (ad @Rl (@Rm))))))))
theorem Rn:zcC Tryz.prog 102=some 1:=af
theorem Ro:zc7 Tryz.prog 102=some 24:=af
theorem Rp(cs:List AV)(o:Nat):zcw Tryz.prog 102 cs o=cs[o]?:=zdQ Tryz.underlying102 rfl cs o
theorem Rq:zcX Tryz.prog 102=some [.nilS]:=af
theorem Rr(xs:List (List AV)){n:Int}(m:0<=n)(k:IntKind):zcU Tryz.prog 102 (.lst xs) (.int k n)=gh 5 (xs[n.toNat]?):=zeN Tryz.underlying102 (show zcC Tryz.prog 104=some 5 from by kernel_rfl) xs m k
theorem Rt(r o l z:Nat){n:Int}(m:0<=n)(k:IntKind):zcU Tryz.prog 102 (.sl r o l z) (.int k n)=bif decide (n.toNat<l)then some (.ptr r (o+n.toNat*5))else none:=zeO Tryz.underlying102 (show zcC Tryz.prog 104=some 5 from by kernel_rfl) r o l z m k
theorem Ru(H:Hp)(xs:List (List AV)):zc0 Tryz.prog H 102 (.lst xs)=some (.int .i64 xs.length):=zeM Tryz.underlying102 xs
theorem Rv(H:Hp)(r o n z:Nat):zc0 Tryz.prog H 102 (.sl r o n z)=some (.int .i64 n):=zez Tryz.underlying102 r o n z
theorem Rw(H:Hp):zc0 Tryz.prog H 102 .nilS=some (.int .i64 0):=zeA Tryz.underlying102
def iB:=ad @Rn (ad @Rp (ad @Ro (ad @Rq (ad @Rr (ad @Rt (ad @Ru (ad @Rv (@Rw))))))))
theorem Ev:zcC Tryz.prog 104=some 5:=af
theorem Rz:zc7 Tryz.prog 104=some 64:=af
theorem RA(cs:List AV)(o:Nat):zcw Tryz.prog 104 cs o=zc6 5 (cs.drop o):=zev Tryz.underlying104 rfl Ev cs o
theorem RB:zcX Tryz.prog 104=some [(.int .i64 0),(.int .i64 0),(.str []),(.int .i64 0),.nilS]:=af
theorem RC(r o:Nat):zcs Tryz.prog 104 (.ptr r o) 0=some (.ptr r (o+0)):=af
theorem RD(cs:List AV):zcs Tryz.prog 104 (.iptr cs) 0=some (.iptr (cs.drop 0)):=af
theorem RE(cs:List AV):zcM Tryz.prog 104 (.agg cs) 0=zcw Tryz.prog 3 cs 0:=af
theorem RF(r o:Nat):zcs Tryz.prog 104 (.ptr r o) 1=some (.ptr r (o+1)):=af
theorem RG(cs:List AV):zcs Tryz.prog 104 (.iptr cs) 1=some (.iptr (cs.drop 1)):=af
theorem RH(cs:List AV):zcM Tryz.prog 104 (.agg cs) 1=zcw Tryz.prog 2 cs 1:=af
theorem RI(r o:Nat):zcs Tryz.prog 104 (.ptr r o) 2=some (.ptr r (o+2)):=af
theorem RJ(cs:List AV):zcs Tryz.prog 104 (.iptr cs) 2=some (.iptr (cs.drop 2)):=af
theorem RK(cs:List AV):zcM Tryz.prog 104 (.agg cs) 2=zcw Tryz.prog 9 cs 2:=af
theorem RL(r o:Nat):zcs Tryz.prog 104 (.ptr r o) 3=some (.ptr r (o+3)):=af
theorem RM(cs:List AV):zcs Tryz.prog 104 (.iptr cs) 3=some (.iptr (cs.drop 3)):=af
theorem RN(cs:List AV):zcM Tryz.prog 104 (.agg cs) 3=zcw Tryz.prog 3 cs 3:=af
theorem RO(r o:Nat):zcs Tryz.prog 104 (.ptr r o) 4=some (.ptr r (o+4)):=af
theorem RP(cs:List AV):zcs Tryz.prog 104 (.iptr cs) 4=some (.iptr (cs.drop 4)):=af
theorem RQ(cs:List AV):zcM Tryz.prog 104 (.agg cs) 4=zcw Tryz.prog 102 cs 4:=af
def gk:=ad @Ev (ad @RA (ad @Rz (ad @RB (ad @RC (ad @RD (ad @RE (ad @RF (ad @RG (ad @RH (ad @RI (ad @RJ (ad @RK (ad @RL (ad @RM (ad @RN (ad @RO (ad @RP (@RQ))))))))))))))))))
theorem Ap:zcC Tryz.prog 106=some 9:=af
theorem Ew:zc7 Tryz.prog 106=some 152:=af
theorem RR(cs:List AV)(o:Nat):zcw Tryz.prog 106 cs o=zc6 9 (cs.drop o):=zev Tryz.underlying106 rfl Ap cs o
theorem Ey:zcX Tryz.prog 106=some [(.str []),.nilS,.nilS,.nilS,(.int .i64 0),(.int .i64 0),(.str []),(.int .i64 0),.nilS]:=af
theorem RS(r o:Nat):zcs Tryz.prog 106 (.ptr r o) 0=some (.ptr r (o+0)):=af
theorem RT(cs:List AV):zcs Tryz.prog 106 (.iptr cs) 0=some (.iptr (cs.drop 0)):=af
theorem RU(cs:List AV):zcM Tryz.prog 106 (.agg cs) 0=zcw Tryz.prog 9 cs 0:=af
theorem RV(r o:Nat):zcs Tryz.prog 106 (.ptr r o) 1=some (.ptr r (o+1)):=af
theorem RW(cs:List AV):zcs Tryz.prog 106 (.iptr cs) 1=some (.iptr (cs.drop 1)):=af
theorem RX(cs:List AV):zcM Tryz.prog 106 (.agg cs) 1=zcw Tryz.prog 100 cs 1:=af
theorem RY(r o:Nat):zcs Tryz.prog 106 (.ptr r o) 2=some (.ptr r (o+2)):=af
theorem RZ(cs:List AV):zcs Tryz.prog 106 (.iptr cs) 2=some (.iptr (cs.drop 2)):=af
theorem R0(cs:List AV):zcM Tryz.prog 106 (.agg cs) 2=zcw Tryz.prog 100 cs 2:=af
theorem R1(r o:Nat):zcs Tryz.prog 106 (.ptr r o) 3=some (.ptr r (o+3)):=af
theorem R2(cs:List AV):zcs Tryz.prog 106 (.iptr cs) 3=some (.iptr (cs.drop 3)):=af
theorem R3(cs:List AV):zcM Tryz.prog 106 (.agg cs) 3=zcw Tryz.prog 101 cs 3:=af
theorem R8(r o:Nat):zcs Tryz.prog 106 (.ptr r o) 4=some (.ptr r (o+4)):=af
theorem Sa(cs:List AV):zcs Tryz.prog 106 (.iptr cs) 4=some (.iptr (cs.drop 4)):=af
theorem Sb(cs:List AV):zcM Tryz.prog 106 (.agg cs) 4=zcw Tryz.prog 104 cs 4:=af
def mN:=ad @Ap (ad @RR (ad @Ew (ad @Ey (ad @RS (ad @RT (ad @RU (ad @RV (ad @RW (ad @RX (ad @RY (ad @RZ (ad @R0 (ad @R1 (ad @R2 (ad @R3 (ad @R8 (ad @Sa (@Sb))))))))))))))))))
theorem Sd:zcC Tryz.prog 110=some 1:=af
theorem Se:zc7 Tryz.prog 110=some 8:=af
theorem Sf(cs:List AV)(o:Nat):zcw Tryz.prog 110 cs o=cs[o]?:=zdQ Tryz.underlying110 rfl cs o
theorem Sg:zcX Tryz.prog 110=some [.nilM]:=af
def qb:=ad @Sd (ad @Sf (ad @Se (@Sg)))
theorem Ez:zcC Tryz.prog 113=some 10:=af
theorem Sh:zc7 Tryz.prog 113=some 144:=af
theorem Si(cs:List AV)(o:Nat):zcw Tryz.prog 113 cs o=zc6 10 (cs.drop o):=zev Tryz.underlying113 rfl Ez cs o
theorem Sj:zcX Tryz.prog 113=some [.nilS,.nilS,.nilM,.nilM,.nilS,.nilM,.nilM,.nilS,(.int .i64 0),(.int .i64 0)]:=af
theorem Sk(r o:Nat):zcs Tryz.prog 113 (.ptr r o) 0=some (.ptr r (o+0)):=af
theorem Sl(cs:List AV):zcs Tryz.prog 113 (.iptr cs) 0=some (.iptr (cs.drop 0)):=af
theorem Sn(cs:List AV):zcM Tryz.prog 113 (.agg cs) 0=zcw Tryz.prog 64 cs 0:=af
theorem So(r o:Nat):zcs Tryz.prog 113 (.ptr r o) 1=some (.ptr r (o+2)):=af
theorem Sp(cs:List AV):zcs Tryz.prog 113 (.iptr cs) 1=some (.iptr (cs.drop 2)):=af
theorem Sq(cs:List AV):zcM Tryz.prog 113 (.agg cs) 1=zcw Tryz.prog 110 cs 2:=af
theorem Sr(r o:Nat):zcs Tryz.prog 113 (.ptr r o) 2=some (.ptr r (o+3)):=af
theorem Ss(cs:List AV):zcs Tryz.prog 113 (.iptr cs) 2=some (.iptr (cs.drop 3)):=af
theorem Su(cs:List AV):zcM Tryz.prog 113 (.agg cs) 2=zcw Tryz.prog 110 cs 3:=af
theorem Sv(r o:Nat):zcs Tryz.prog 113 (.ptr r o) 3=some (.ptr r (o+4)):=af
theorem Sw(cs:List AV):zcs Tryz.prog 113 (.iptr cs) 3=some (.iptr (cs.drop 4)):=af
theorem Sy(cs:List AV):zcM Tryz.prog 113 (.agg cs) 3=zcw Tryz.prog 26 cs 4:=af
theorem Sz(r o:Nat):zcs Tryz.prog 113 (.ptr r o) 4=some (.ptr r (o+5)):=af
theorem SA(cs:List AV):zcs Tryz.prog 113 (.iptr cs) 4=some (.iptr (cs.drop 5)):=af
theorem SB(cs:List AV):zcM Tryz.prog 113 (.agg cs) 4=zcw Tryz.prog 110 cs 5:=af
theorem SD(r o:Nat):zcs Tryz.prog 113 (.ptr r o) 5=some (.ptr r (o+6)):=af
theorem SE(cs:List AV):zcs Tryz.prog 113 (.iptr cs) 5=some (.iptr (cs.drop 6)):=af
theorem SF(cs:List AV):zcM Tryz.prog 113 (.agg cs) 5=zcw Tryz.prog 110 cs 6:=af
theorem SG(r o:Nat):zcs Tryz.prog 113 (.ptr r o) 6=some (.ptr r (o+7)):=af
theorem SH(cs:List AV):zcs Tryz.prog 113 (.iptr cs) 6=some (.iptr (cs.drop 7)):=af
theorem SI(cs:List AV):zcM Tryz.prog 113 (.agg cs) 6=zcw Tryz.prog 23 cs 7:=af
theorem SJ(r o:Nat):zcs Tryz.prog 113 (.ptr r o) 7=some (.ptr r (o+8)):=af
theorem SK(cs:List AV):zcs Tryz.prog 113 (.iptr cs) 7=some (.iptr (cs.drop 8)):=af
theorem SL(cs:List AV):zcM Tryz.prog 113 (.agg cs) 7=zcw Tryz.prog 3 cs 8:=af
theorem SM(r o:Nat):zcs Tryz.prog 113 (.ptr r o) 8=some (.ptr r (o+9)):=af
theorem SN(cs:List AV):zcs Tryz.prog 113 (.iptr cs) 8=some (.iptr (cs.drop 9)):=af
theorem SO(cs:List AV):zcM Tryz.prog 113 (.agg cs) 8=zcw Tryz.prog 3 cs 9:=af
def ue:=ad @Ez (ad @Si (ad @Sh (ad @Sj (ad @Sk (ad @Sl (ad @Sn (ad @So (ad @Sp (ad @Sq (ad @Sr (ad @Ss (ad @Su (ad @Sv (ad @Sw (ad @Sy (ad @Sz (ad @SA (ad @SB (ad @SD (ad @SE (ad @SF (ad @SG (ad @SH (ad @SI (ad @SJ (ad @SK (ad @SL (ad @SM (ad @SN (@SO))))))))))))))))))))))))))))))
theorem wH:zcC Tryz.prog 121=some 1:=af
theorem Aq:zc7 Tryz.prog 121=some 24:=af
theorem SP(cs:List AV)(o:Nat):zcw Tryz.prog 121 cs o=cs[o]?:=zdQ Tryz.underlying121 rfl cs o
theorem As:zcX Tryz.prog 121=some [.nilS]:=af
theorem SQ(xs:List (List AV)){n:Int}(m:0<=n)(k:IntKind):zcU Tryz.prog 121 (.lst xs) (.int k n)=gh 1 (xs[n.toNat]?):=zeN Tryz.underlying121 (show zcC Tryz.prog 4=some 1 from by kernel_rfl) xs m k
theorem SR(r o l z:Nat){n:Int}(m:0<=n)(k:IntKind):zcU Tryz.prog 121 (.sl r o l z) (.int k n)=bif decide (n.toNat<l)then some (.ptr r (o+n.toNat*1))else none:=zeO Tryz.underlying121 (show zcC Tryz.prog 4=some 1 from by kernel_rfl) r o l z m k
theorem SS(H:Hp)(xs:List (List AV)):zc0 Tryz.prog H 121 (.lst xs)=some (.int .i64 xs.length):=zeM Tryz.underlying121 xs
theorem SU(H:Hp)(r o n z:Nat):zc0 Tryz.prog H 121 (.sl r o n z)=some (.int .i64 n):=zez Tryz.underlying121 r o n z
theorem SV(H:Hp):zc0 Tryz.prog H 121 .nilS=some (.int .i64 0):=zeA Tryz.underlying121
def wI:=ad @wH (ad @SP (ad @Aq (ad @As (ad @SQ (ad @SR (ad @SS (ad @SU (@SV))))))))
theorem SW:zcC Tryz.prog 123=some 1:=af
theorem SX:zc7 Tryz.prog 123=some 24:=af
theorem SY(cs:List AV)(o:Nat):zcw Tryz.prog 123 cs o=cs[o]?:=zdQ Tryz.underlying123 rfl cs o
theorem SZ:zcX Tryz.prog 123=some [.nilS]:=af
theorem S0(xs:List (List AV)){n:Int}(m:0<=n)(k:IntKind):zcU Tryz.prog 123 (.lst xs) (.int k n)=gh 1 (xs[n.toNat]?):=zeN Tryz.underlying123 (show zcC Tryz.prog 121=some 1 from by kernel_rfl) xs m k
theorem S1(r o l z:Nat){n:Int}(m:0<=n)(k:IntKind):zcU Tryz.prog 123 (.sl r o l z) (.int k n)=bif decide (n.toNat<l)then some (.ptr r (o+n.toNat*1))else none:=zeO Tryz.underlying123 (show zcC Tryz.prog 121=some 1 from by kernel_rfl) r o l z m k
theorem S7(H:Hp)(xs:List (List AV)):zc0 Tryz.prog H 123 (.lst xs)=some (.int .i64 xs.length):=zeM Tryz.underlying123 xs
theorem S8(H:Hp)(r o n z:Nat):zc0 Tryz.prog H 123 (.sl r o n z)=some (.int .i64 n):=zez Tryz.underlying123 r o n z
theorem Ta(H:Hp):zc0 Tryz.prog H 123 .nilS=some (.int .i64 0):=zeA Tryz.underlying123
def EC:=ad @SW (ad @SY (ad @SX (ad @SZ (ad @S0 (ad @S1 (ad @S7 (ad @S8 (@Ta))))))))
theorem wJ:zcC Tryz.prog 125=some 1:=af
theorem ED:zc7 Tryz.prog 125=some 4:=af
theorem Tb(cs:List AV)(o:Nat):zcw Tryz.prog 125 cs o=cs[o]?:=zdQ Tryz.underlying125 rfl cs o
theorem EE:zcX Tryz.prog 125=some [(.int .u32 0)]:=af
def At:=ad @wJ (ad @Tb (ad @ED (@EE)))
theorem Tc:zcC Tryz.prog 126=some 1:=af
theorem Td:zc7 Tryz.prog 126=some 8:=af
theorem Te(cs:List AV)(o:Nat):zcw Tryz.prog 126 cs o=cs[o]?:=zdQ Tryz.underlying126 rfl cs o
theorem Tf:zcX Tryz.prog 126=some [(.int .u64 0)]:=af
def uf:=ad @Tc (ad @Te (ad @Td (@Tf)))
theorem Tg:zcC Tryz.prog 127=some 1:=af
theorem Th:zc7 Tryz.prog 127=some 24:=af
theorem Ti(cs:List AV)(o:Nat):zcw Tryz.prog 127 cs o=cs[o]?:=zdQ Tryz.underlying127 rfl cs o
theorem Tj:zcX Tryz.prog 127=some [.nilS]:=af
theorem Tl(xs:List (List AV)){n:Int}(m:0<=n)(k:IntKind):zcU Tryz.prog 127 (.lst xs) (.int k n)=gh 4 (xs[n.toNat]?):=zeN Tryz.underlying127 (show zcC Tryz.prog 134=some 4 from by kernel_rfl) xs m k
theorem Tm(r o l z:Nat){n:Int}(m:0<=n)(k:IntKind):zcU Tryz.prog 127 (.sl r o l z) (.int k n)=bif decide (n.toNat<l)then some (.ptr r (o+n.toNat*4))else none:=zeO Tryz.underlying127 (show zcC Tryz.prog 134=some 4 from by kernel_rfl) r o l z m k
theorem Tn(H:Hp)(xs:List (List AV)):zc0 Tryz.prog H 127 (.lst xs)=some (.int .i64 xs.length):=zeM Tryz.underlying127 xs
theorem To(H:Hp)(r o n z:Nat):zc0 Tryz.prog H 127 (.sl r o n z)=some (.int .i64 n):=zez Tryz.underlying127 r o n z
theorem Tp(H:Hp):zc0 Tryz.prog H 127 .nilS=some (.int .i64 0):=zeA Tryz.underlying127
def qc:=ad @Tg (ad @Ti (ad @Th (ad @Tj (ad @Tl (ad @Tm (ad @Tn (ad @To (@Tp))))))))
theorem Tq:zcC Tryz.prog 128=some 1:=af
theorem Tr:zc7 Tryz.prog 128=some 8:=af
theorem Ts(cs:List AV)(o:Nat):zcw Tryz.prog 128 cs o=cs[o]?:=zdQ Tryz.underlying128 rfl cs o
theorem Tt:zcX Tryz.prog 128=some [.nilP]:=af
def rW:=ad @Tq (ad @Ts (ad @Tr (@Tt)))
theorem EF:zcC Tryz.prog 129=some 16:=af
theorem Tu:zc7 Tryz.prog 129=some 128:=af
theorem Tv(cs:List AV)(o:Nat):zcw Tryz.prog 129 cs o=zc6 16 (cs.drop o):=zev Tryz.underlying129 rfl EF cs o
theorem Tw:zcX Tryz.prog 129=some [.nilP,.nilP,.nilP,.nilP,.nilP,.nilP,.nilP,.nilP,.nilP,.nilP,.nilP,.nilP,.nilP,.nilP,.nilP,.nilP]:=af
def qd:=ad @EF (ad @Tv (ad @Tu (@Tw)))
theorem EG:zcC Tryz.prog 131=some 23:=af
theorem Tx:zc7 Tryz.prog 131=some 264:=af
theorem Ty(cs:List AV)(o:Nat):zcw Tryz.prog 131 cs o=zc6 23 (cs.drop o):=zev Tryz.underlying131 rfl EG cs o
theorem Tz:zcX Tryz.prog 131=some [.nilS,.nilS,.nilS,(.int .i64 0),.nilP,.nilS,.nilS,.nilP,.nilP,.nilP,.nilP,.nilP,.nilP,.nilP,.nilP,.nilP,.nilP,.nilP,.nilP,.nilP,.nilP,.nilP,.nilP]:=af
theorem TA(r o:Nat):zcs Tryz.prog 131 (.ptr r o) 0=some (.ptr r (o+0)):=af
theorem TB(cs:List AV):zcs Tryz.prog 131 (.iptr cs) 0=some (.iptr (cs.drop 0)):=af
theorem TC(cs:List AV):zcM Tryz.prog 131 (.agg cs) 0=zcw Tryz.prog 32 cs 0:=af
theorem TD(r o:Nat):zcs Tryz.prog 131 (.ptr r o) 1=some (.ptr r (o+2)):=af
theorem TE(cs:List AV):zcs Tryz.prog 131 (.iptr cs) 1=some (.iptr (cs.drop 2)):=af
theorem TF(cs:List AV):zcM Tryz.prog 131 (.agg cs) 1=zcw Tryz.prog 73 cs 2:=af
theorem TG(r o:Nat):zcs Tryz.prog 131 (.ptr r o) 2=some (.ptr r (o+3)):=af
theorem TH(cs:List AV):zcs Tryz.prog 131 (.iptr cs) 2=some (.iptr (cs.drop 3)):=af
theorem TI(cs:List AV):zcM Tryz.prog 131 (.agg cs) 2=zcw Tryz.prog 3 cs 3:=af
theorem TJ(r o:Nat):zcs Tryz.prog 131 (.ptr r o) 3=some (.ptr r (o+4)):=af
theorem TK(cs:List AV):zcs Tryz.prog 131 (.iptr cs) 3=some (.iptr (cs.drop 4)):=af
theorem TL(cs:List AV):zcM Tryz.prog 131 (.agg cs) 3=zcw Tryz.prog 76 cs 4:=af
theorem TM(r o:Nat):zcs Tryz.prog 131 (.ptr r o) 4=some (.ptr r (o+5)):=af
theorem TN(cs:List AV):zcs Tryz.prog 131 (.iptr cs) 4=some (.iptr (cs.drop 5)):=af
theorem TO(cs:List AV):zcM Tryz.prog 131 (.agg cs) 4=zcw Tryz.prog 33 cs 5:=af
theorem TP(r o:Nat):zcs Tryz.prog 131 (.ptr r o) 5=some (.ptr r (o+6)):=af
theorem TQ(cs:List AV):zcs Tryz.prog 131 (.iptr cs) 5=some (.iptr (cs.drop 6)):=af
theorem TS(cs:List AV):zcM Tryz.prog 131 (.agg cs) 5=zcw Tryz.prog 127 cs 6:=af
theorem TT(r o:Nat):zcs Tryz.prog 131 (.ptr r o) 6=some (.ptr r (o+7)):=af
theorem TU(cs:List AV):zcs Tryz.prog 131 (.iptr cs) 6=some (.iptr (cs.drop 7)):=af
theorem TV(cs:List AV):zcM Tryz.prog 131 (.agg cs) 6=zcw Tryz.prog 129 cs 7:=af
def qe:=ad @EG (ad @Ty (ad @Tx (ad @Tz (ad @TA (ad @TB (ad @TC (ad @TD (ad @TE (ad @TF (ad @TG (ad @TH (ad @TI (ad @TJ (ad @TK (ad @TL (ad @TM (ad @TN (ad @TO (ad @TP (ad @TQ (ad @TS (ad @TT (ad @TU (@TV))))))))))))))))))))))))
theorem ug:zcC Tryz.prog 134=some 4:=af
theorem EH:zc7 Tryz.prog 134=some 32:=af
theorem TW(cs:List AV)(o:Nat):zcw Tryz.prog 134 cs o=zc6 4 (cs.drop o):=zev Tryz.underlying134 rfl ug cs o
theorem EI:zcX Tryz.prog 134=some [(.bool false),(.int .i64 0),.nilP,.nilP]:=af
theorem TX(r o:Nat):zcs Tryz.prog 134 (.ptr r o) 0=some (.ptr r (o+0)):=af
theorem TY(cs:List AV):zcs Tryz.prog 134 (.iptr cs) 0=some (.iptr (cs.drop 0)):=af
theorem TZ(cs:List AV):zcM Tryz.prog 134 (.agg cs) 0=zcw Tryz.prog 4 cs 0:=af
theorem T0(r o:Nat):zcs Tryz.prog 134 (.ptr r o) 1=some (.ptr r (o+1)):=af
theorem T1(cs:List AV):zcs Tryz.prog 134 (.iptr cs) 1=some (.iptr (cs.drop 1)):=af
theorem T2(cs:List AV):zcM Tryz.prog 134 (.agg cs) 1=zcw Tryz.prog 2 cs 1:=af
theorem T3(r o:Nat):zcs Tryz.prog 134 (.ptr r o) 2=some (.ptr r (o+2)):=af
theorem T4(cs:List AV):zcs Tryz.prog 134 (.iptr cs) 2=some (.iptr (cs.drop 2)):=af
theorem T5(cs:List AV):zcM Tryz.prog 134 (.agg cs) 2=zcw Tryz.prog 76 cs 2:=af
theorem T6(r o:Nat):zcs Tryz.prog 134 (.ptr r o) 3=some (.ptr r (o+3)):=af
theorem T7(cs:List AV):zcs Tryz.prog 134 (.iptr cs) 3=some (.iptr (cs.drop 3)):=af
theorem T8(cs:List AV):zcM Tryz.prog 134 (.agg cs) 3=zcw Tryz.prog 128 cs 3:=af
def qf:=ad @ug (ad @TW (ad @EH (ad @EI (ad @TX (ad @TY (ad @TZ (ad @T0 (ad @T1 (ad @T2 (ad @T3 (ad @T4 (ad @T5 (ad @T6 (ad @T7 (@T8)))))))))))))))
theorem EJ:zcC Tryz.prog 136=some 2:=af
theorem T9:zc7 Tryz.prog 136=some 16:=af
theorem Ua(cs:List AV)(o:Nat):zcw Tryz.prog 136 cs o=zc6 2 (cs.drop o):=zev Tryz.underlying136 rfl EJ cs o
theorem Ub:zcX Tryz.prog 136=some [(.int .i64 0),.nilP]:=af
theorem Uc(r o:Nat):zcs Tryz.prog 136 (.ptr r o) 0=some (.ptr r (o+0)):=af
theorem Ud(cs:List AV):zcs Tryz.prog 136 (.iptr cs) 0=some (.iptr (cs.drop 0)):=af
theorem Ue(cs:List AV):zcM Tryz.prog 136 (.agg cs) 0=zcw Tryz.prog 2 cs 0:=af
theorem Uf(r o:Nat):zcs Tryz.prog 136 (.ptr r o) 1=some (.ptr r (o+1)):=af
theorem Ug(cs:List AV):zcs Tryz.prog 136 (.iptr cs) 1=some (.iptr (cs.drop 1)):=af
theorem Uh(cs:List AV):zcM Tryz.prog 136 (.agg cs) 1=zcw Tryz.prog 77 cs 1:=af
def EK:=ad @EJ (ad @Ua (ad @T9 (ad @Ub (ad @Uc (ad @Ud (ad @Ue (ad @Uf (ad @Ug (@Uh)))))))))
theorem Ui:zcC Tryz.prog 137=some 1:=af
theorem Uj:zc7 Tryz.prog 137=some 24:=af
theorem Uk(cs:List AV)(o:Nat):zcw Tryz.prog 137 cs o=cs[o]?:=zdQ Tryz.underlying137 rfl cs o
theorem Ul:zcX Tryz.prog 137=some [.nilS]:=af
theorem Um(xs:List (List AV)){n:Int}(m:0<=n)(k:IntKind):zcU Tryz.prog 137 (.lst xs) (.int k n)=gh 3 (xs[n.toNat]?):=zeN Tryz.underlying137 (show zcC Tryz.prog 173=some 3 from by kernel_rfl) xs m k
theorem Uo(r o l z:Nat){n:Int}(m:0<=n)(k:IntKind):zcU Tryz.prog 137 (.sl r o l z) (.int k n)=bif decide (n.toNat<l)then some (.ptr r (o+n.toNat*3))else none:=zeO Tryz.underlying137 (show zcC Tryz.prog 173=some 3 from by kernel_rfl) r o l z m k
theorem Up(H:Hp)(xs:List (List AV)):zc0 Tryz.prog H 137 (.lst xs)=some (.int .i64 xs.length):=zeM Tryz.underlying137 xs
theorem Uq(H:Hp)(r o n z:Nat):zc0 Tryz.prog H 137 (.sl r o n z)=some (.int .i64 n):=zez Tryz.underlying137 r o n z
theorem Ur(H:Hp):zc0 Tryz.prog H 137 .nilS=some (.int .i64 0):=zeA Tryz.underlying137
def Au:=ad @Ui (ad @Uk (ad @Uj (ad @Ul (ad @Um (ad @Uo (ad @Up (ad @Uq (@Ur))))))))
theorem Us:zcC Tryz.prog 154=some 1:=af
theorem Ut:zc7 Tryz.prog 154=some 8:=af
theorem Uu(cs:List AV)(o:Nat):zcw Tryz.prog 154 cs o=cs[o]?:=zdQ Tryz.underlying154 rfl cs o
theorem Uv:zcX Tryz.prog 154=some [(.int .u64 0)]:=af
def Av:=ad @Us (ad @Uu (ad @Ut (@Uv)))
theorem EL:zcC Tryz.prog 157=some 17:=af
theorem Uw:zc7 Tryz.prog 157=some 248:=af
theorem Ux(cs:List AV)(o:Nat):zcw Tryz.prog 157 cs o=zc6 17 (cs.drop o):=zev Tryz.underlying157 rfl EL cs o
theorem Uy:zcX Tryz.prog 157=some [(.int .i64 0),(.str []),(.str []),(.int .i64 0),(.int .i64 0),(.int .i64 0),(.str []),(.int .i64 0),.nilS,(.int .i64 0),(.int .i64 0),(.str []),(.int .i64 0),.nilS,.nilS,.nilS,.nilS]:=af
theorem Uz(r o:Nat):zcs Tryz.prog 157 (.ptr r o) 0=some (.ptr r (o+0)):=af
theorem UA(cs:List AV):zcs Tryz.prog 157 (.iptr cs) 0=some (.iptr (cs.drop 0)):=af
theorem UB(cs:List AV):zcM Tryz.prog 157 (.agg cs) 0=zcw Tryz.prog 3 cs 0:=af
theorem UC(r o:Nat):zcs Tryz.prog 157 (.ptr r o) 1=some (.ptr r (o+1)):=af
theorem UD(cs:List AV):zcs Tryz.prog 157 (.iptr cs) 1=some (.iptr (cs.drop 1)):=af
theorem UE(cs:List AV):zcM Tryz.prog 157 (.agg cs) 1=zcw Tryz.prog 9 cs 1:=af
theorem UF(r o:Nat):zcs Tryz.prog 157 (.ptr r o) 2=some (.ptr r (o+2)):=af
theorem UG(cs:List AV):zcs Tryz.prog 157 (.iptr cs) 2=some (.iptr (cs.drop 2)):=af
theorem UH(cs:List AV):zcM Tryz.prog 157 (.agg cs) 2=zcw Tryz.prog 9 cs 2:=af
theorem UI(r o:Nat):zcs Tryz.prog 157 (.ptr r o) 3=some (.ptr r (o+3)):=af
theorem UJ(cs:List AV):zcs Tryz.prog 157 (.iptr cs) 3=some (.iptr (cs.drop 3)):=af
theorem UK(cs:List AV):zcM Tryz.prog 157 (.agg cs) 3=zcw Tryz.prog 3 cs 3:=af
theorem UL(r o:Nat):zcs Tryz.prog 157 (.ptr r o) 4=some (.ptr r (o+4)):=af
theorem UM(cs:List AV):zcs Tryz.prog 157 (.iptr cs) 4=some (.iptr (cs.drop 4)):=af
theorem UN(cs:List AV):zcM Tryz.prog 157 (.agg cs) 4=zcw Tryz.prog 104 cs 4:=af
theorem UO(r o:Nat):zcs Tryz.prog 157 (.ptr r o) 5=some (.ptr r (o+9)):=af
theorem UP(cs:List AV):zcs Tryz.prog 157 (.iptr cs) 5=some (.iptr (cs.drop 9)):=af
theorem UQ(cs:List AV):zcM Tryz.prog 157 (.agg cs) 5=zcw Tryz.prog 104 cs 9:=af
theorem UR(r o:Nat):zcs Tryz.prog 157 (.ptr r o) 6=some (.ptr r (o+14)):=af
theorem US(cs:List AV):zcs Tryz.prog 157 (.iptr cs) 6=some (.iptr (cs.drop 14)):=af
theorem UT(cs:List AV):zcM Tryz.prog 157 (.agg cs) 6=zcw Tryz.prog 102 cs 14:=af
theorem UU(r o:Nat):zcs Tryz.prog 157 (.ptr r o) 7=some (.ptr r (o+15)):=af
theorem UV(cs:List AV):zcs Tryz.prog 157 (.iptr cs) 7=some (.iptr (cs.drop 15)):=af
theorem UW(cs:List AV):zcM Tryz.prog 157 (.agg cs) 7=zcw Tryz.prog 101 cs 15:=af
theorem UX(r o:Nat):zcs Tryz.prog 157 (.ptr r o) 8=some (.ptr r (o+16)):=af
theorem UY(cs:List AV):zcs Tryz.prog 157 (.iptr cs) 8=some (.iptr (cs.drop 16)):=af
theorem UZ(cs:List AV):zcM Tryz.prog 157 (.agg cs) 8=zcw Tryz.prog 101 cs 16:=af
def jv:=ad @EL (ad @Ux (ad @Uw (ad @Uy (ad @Uz (ad @UA (ad @UB (ad @UC (ad @UD (ad @UE (ad @UF (ad @UG (ad @UH (ad @UI (ad @UJ (ad @UK (ad @UL (ad @UM (ad @UN (ad @UO (ad @UP (ad @UQ (ad @UR (ad @US (ad @UT (ad @UU (ad @UV (ad @UW (ad @UX (ad @UY (@UZ))))))))))))))))))))))))))))))
theorem wK:zcC Tryz.prog 173=some 3:=af
theorem Aw:zc7 Tryz.prog 173=some 32:=af
theorem U0(cs:List AV)(o:Nat):zcw Tryz.prog 173 cs o=zc6 3 (cs.drop o):=zev Tryz.underlying173 rfl wK cs o
theorem Ax:zcX Tryz.prog 173=some [(.int .i64 0),(.str []),(.int .i64 0)]:=af
theorem U1(r o:Nat):zcs Tryz.prog 173 (.ptr r o) 0=some (.ptr r (o+0)):=af
theorem U2(cs:List AV):zcs Tryz.prog 173 (.iptr cs) 0=some (.iptr (cs.drop 0)):=af
theorem U3(cs:List AV):zcM Tryz.prog 173 (.agg cs) 0=zcw Tryz.prog 3 cs 0:=af
theorem U4(r o:Nat):zcs Tryz.prog 173 (.ptr r o) 1=some (.ptr r (o+1)):=af
theorem U5(cs:List AV):zcs Tryz.prog 173 (.iptr cs) 1=some (.iptr (cs.drop 1)):=af
theorem U6(cs:List AV):zcM Tryz.prog 173 (.agg cs) 1=zcw Tryz.prog 9 cs 1:=af
theorem U7(r o:Nat):zcs Tryz.prog 173 (.ptr r o) 2=some (.ptr r (o+2)):=af
theorem U8(cs:List AV):zcs Tryz.prog 173 (.iptr cs) 2=some (.iptr (cs.drop 2)):=af
theorem U9(cs:List AV):zcM Tryz.prog 173 (.agg cs) 2=zcw Tryz.prog 3 cs 2:=af
def wL:=ad @wK (ad @U0 (ad @Aw (ad @Ax (ad @U1 (ad @U2 (ad @U3 (ad @U4 (ad @U5 (ad @U6 (ad @U7 (ad @U8 (@U9))))))))))))
theorem Va:zcC Tryz.prog 192=some 1:=af
theorem Vb:zc7 Tryz.prog 192=some 8:=af
theorem Vc(cs:List AV)(o:Nat):zcw Tryz.prog 192 cs o=cs[o]?:=zdQ Tryz.underlying192 rfl cs o
theorem Vd:zcX Tryz.prog 192=some [.nilF]:=af
def EM:=ad @Va (ad @Vc (ad @Vb (@Vd)))
theorem Ve:zcC Tryz.prog 198=some 1:=af
theorem Vf:zc7 Tryz.prog 198=some 8:=af
theorem Vg(cs:List AV)(o:Nat):zcw Tryz.prog 198 cs o=cs[o]?:=zdQ Tryz.underlying198 rfl cs o
theorem Vh:zcX Tryz.prog 198=some [.nilM]:=af
def wM:=ad @Ve (ad @Vg (ad @Vf (@Vh)))
theorem Vi:zcC Tryz.prog 200=some 1:=af
theorem Vj:zc7 Tryz.prog 200=some 24:=af
theorem Vk(cs:List AV)(o:Nat):zcw Tryz.prog 200 cs o=cs[o]?:=zdQ Tryz.underlying200 rfl cs o
theorem Vl:zcX Tryz.prog 200=some [.nilS]:=af
theorem Vm(xs:List (List AV)){n:Int}(m:0<=n)(k:IntKind):zcU Tryz.prog 200 (.lst xs) (.int k n)=gh 1 (xs[n.toNat]?):=zeN Tryz.underlying200 (show zcC Tryz.prog 5=some 1 from by kernel_rfl) xs m k
theorem Vn(r o l z:Nat){n:Int}(m:0<=n)(k:IntKind):zcU Tryz.prog 200 (.sl r o l z) (.int k n)=bif decide (n.toNat<l)then some (.ptr r (o+n.toNat*1))else none:=zeO Tryz.underlying200 (show zcC Tryz.prog 5=some 1 from by kernel_rfl) r o l z m k
theorem Vo(H:Hp)(xs:List (List AV)):zc0 Tryz.prog H 200 (.lst xs)=some (.int .i64 xs.length):=zeM Tryz.underlying200 xs
theorem Vp(H:Hp)(r o n z:Nat):zc0 Tryz.prog H 200 (.sl r o n z)=some (.int .i64 n):=zez Tryz.underlying200 r o n z
theorem Vq(H:Hp):zc0 Tryz.prog H 200 .nilS=some (.int .i64 0):=zeA Tryz.underlying200
def EN:=ad @Vi (ad @Vk (ad @Vj (ad @Vl (ad @Vm (ad @Vn (ad @Vo (ad @Vp (@Vq))))))))
theorem EO:zcC Tryz.prog 208=some 16:=af
theorem Vr:zc7 Tryz.prog 208=some 128:=af
theorem Vs(cs:List AV)(o:Nat):zcw Tryz.prog 208 cs o=zc6 16 (cs.drop o):=zev Tryz.underlying208 rfl EO cs o
theorem Vt:zcX Tryz.prog 208=some [(.int .i64 0),(.int .i64 0),(.int .i64 0),(.int .i64 0),(.int .i64 0),(.int .i64 0),(.int .i64 0),(.int .i64 0),(.int .i64 0),(.int .i64 0),(.int .i64 0),(.int .i64 0),(.int .i64 0),(.int .i64 0),(.int .i64 0),(.int .i64 0)]:=af
def Vu:=ad @EO (ad @Vs (ad @Vr (@Vt)))
theorem EP:zcC Tryz.prog 210=some 2:=af
theorem Vv:zc7 Tryz.prog 210=some 32:=af
theorem Vw(cs:List AV)(o:Nat):zcw Tryz.prog 210 cs o=zc6 2 (cs.drop o):=zev Tryz.underlying210 rfl EP cs o
theorem Vx:zcX Tryz.prog 210=some [.nilP,.nilS]:=af
theorem Vy(r o:Nat):zcs Tryz.prog 210 (.ptr r o) 0=some (.ptr r (o+0)):=af
theorem Vz(cs:List AV):zcs Tryz.prog 210 (.iptr cs) 0=some (.iptr (cs.drop 0)):=af
theorem VA(cs:List AV):zcM Tryz.prog 210 (.agg cs) 0=zcw Tryz.prog 76 cs 0:=af
theorem VB(r o:Nat):zcs Tryz.prog 210 (.ptr r o) 1=some (.ptr r (o+1)):=af
theorem VC(cs:List AV):zcs Tryz.prog 210 (.iptr cs) 1=some (.iptr (cs.drop 1)):=af
theorem VD(cs:List AV):zcM Tryz.prog 210 (.agg cs) 1=zcw Tryz.prog 33 cs 1:=af
def VE:=ad @EP (ad @Vw (ad @Vv (ad @Vx (ad @Vy (ad @Vz (ad @VA (ad @VB (ad @VC (@VD)))))))))
theorem EQ:zcC Tryz.prog 225=some 8:=af
theorem VF:zc7 Tryz.prog 225=some 8:=af
theorem VG(cs:List AV)(o:Nat):zcw Tryz.prog 225 cs o=zc6 8 (cs.drop o):=zev Tryz.underlying225 rfl EQ cs o
theorem VH:zcX Tryz.prog 225=some [(.bool false),(.bool false),(.bool false),(.bool false),(.bool false),(.bool false),(.bool false),(.bool false)]:=af
theorem VI(r o:Nat):zcs Tryz.prog 225 (.ptr r o) 0=some (.ptr r (o+0)):=af
theorem VJ(cs:List AV):zcs Tryz.prog 225 (.iptr cs) 0=some (.iptr (cs.drop 0)):=af
theorem VK(cs:List AV):zcM Tryz.prog 225 (.agg cs) 0=zcw Tryz.prog 4 cs 0:=af
theorem VL(r o:Nat):zcs Tryz.prog 225 (.ptr r o) 1=some (.ptr r (o+1)):=af
theorem VM(cs:List AV):zcs Tryz.prog 225 (.iptr cs) 1=some (.iptr (cs.drop 1)):=af
theorem VN(cs:List AV):zcM Tryz.prog 225 (.agg cs) 1=zcw Tryz.prog 4 cs 1:=af
theorem VO(r o:Nat):zcs Tryz.prog 225 (.ptr r o) 2=some (.ptr r (o+2)):=af
theorem VP(cs:List AV):zcs Tryz.prog 225 (.iptr cs) 2=some (.iptr (cs.drop 2)):=af
theorem VQ(cs:List AV):zcM Tryz.prog 225 (.agg cs) 2=zcw Tryz.prog 4 cs 2:=af
theorem VS(r o:Nat):zcs Tryz.prog 225 (.ptr r o) 3=some (.ptr r (o+3)):=af
theorem VT(cs:List AV):zcs Tryz.prog 225 (.iptr cs) 3=some (.iptr (cs.drop 3)):=af
theorem VU(cs:List AV):zcM Tryz.prog 225 (.agg cs) 3=zcw Tryz.prog 4 cs 3:=af
theorem VV(r o:Nat):zcs Tryz.prog 225 (.ptr r o) 4=some (.ptr r (o+4)):=af
theorem VW(cs:List AV):zcs Tryz.prog 225 (.iptr cs) 4=some (.iptr (cs.drop 4)):=af
theorem VX(cs:List AV):zcM Tryz.prog 225 (.agg cs) 4=zcw Tryz.prog 4 cs 4:=af
theorem VY(r o:Nat):zcs Tryz.prog 225 (.ptr r o) 5=some (.ptr r (o+5)):=af
theorem VZ(cs:List AV):zcs Tryz.prog 225 (.iptr cs) 5=some (.iptr (cs.drop 5)):=af
theorem V0(cs:List AV):zcM Tryz.prog 225 (.agg cs) 5=zcw Tryz.prog 4 cs 5:=af
theorem V1(r o:Nat):zcs Tryz.prog 225 (.ptr r o) 6=some (.ptr r (o+6)):=af
theorem V2(cs:List AV):zcs Tryz.prog 225 (.iptr cs) 6=some (.iptr (cs.drop 6)):=af
theorem V3(cs:List AV):zcM Tryz.prog 225 (.agg cs) 6=zcw Tryz.prog 4 cs 6:=af
theorem V4(r o:Nat):zcs Tryz.prog 225 (.ptr r o) 7=some (.ptr r (o+7)):=af
theorem V5(cs:List AV):zcs Tryz.prog 225 (.iptr cs) 7=some (.iptr (cs.drop 7)):=af
theorem V6(cs:List AV):zcM Tryz.prog 225 (.agg cs) 7=zcw Tryz.prog 4 cs 7:=af
def ER:=ad @EQ (ad @VG (ad @VF (ad @VH (ad @VI (ad @VJ (ad @VK (ad @VL (ad @VM (ad @VN (ad @VO (ad @VP (ad @VQ (ad @VS (ad @VT (ad @VU (ad @VV (ad @VW (ad @VX (ad @VY (ad @VZ (ad @V0 (ad @V1 (ad @V2 (ad @V3 (ad @V4 (ad @V5 (@V6)))))))))))))))))))))))))))
theorem V7:zcC Tryz.prog 230=some 1:=af
theorem V8:zc7 Tryz.prog 230=some 24:=af
theorem V9(cs:List AV)(o:Nat):zcw Tryz.prog 230 cs o=cs[o]?:=zdQ Tryz.underlying230 rfl cs o
theorem Wa:zcX Tryz.prog 230=some [.nilS]:=af
theorem Wb(xs:List (List AV)){n:Int}(m:0<=n)(k:IntKind):zcU Tryz.prog 230 (.lst xs) (.int k n)=gh 1 (xs[n.toNat]?):=zeN Tryz.underlying230 (show zcC Tryz.prog 100=some 1 from by kernel_rfl) xs m k
theorem Wc(r o l z:Nat){n:Int}(m:0<=n)(k:IntKind):zcU Tryz.prog 230 (.sl r o l z) (.int k n)=bif decide (n.toNat<l)then some (.ptr r (o+n.toNat*1))else none:=zeO Tryz.underlying230 (show zcC Tryz.prog 100=some 1 from by kernel_rfl) r o l z m k
theorem Wd(H:Hp)(xs:List (List AV)):zc0 Tryz.prog H 230 (.lst xs)=some (.int .i64 xs.length):=zeM Tryz.underlying230 xs
theorem We(H:Hp)(r o n z:Nat):zc0 Tryz.prog H 230 (.sl r o n z)=some (.int .i64 n):=zez Tryz.underlying230 r o n z
theorem Wf(H:Hp):zc0 Tryz.prog H 230 .nilS=some (.int .i64 0):=zeA Tryz.underlying230
def Ay:=ad @V7 (ad @V9 (ad @V8 (ad @Wa (ad @Wb (ad @Wc (ad @Wd (ad @We (@Wf))))))))
theorem ET:zcC Tryz.prog 245=some 7:=af
theorem Wg:zc7 Tryz.prog 245=some 112:=af
theorem Wh(cs:List AV)(o:Nat):zcw Tryz.prog 245 cs o=zc6 7 (cs.drop o):=zev Tryz.underlying245 rfl ET cs o
theorem Wi:zcX Tryz.prog 245=some [(.str []),(.str []),(.str []),(.str []),(.str []),(.str []),(.str [])]:=af
def Wj:=ad @ET (ad @Wh (ad @Wg (@Wi)))
theorem Az(H:Hp)(k:IntKind)(n:Int):zeI Tryz.prog H 2 126 (.int k n)=some (.int .u64 (IntKind.wrap .u64 n)):=p6
theorem AA(H:Hp)(k:IntKind)(n:Int):zeI Tryz.prog H 2 154 (.int k n)=some (.int .u64 (IntKind.wrap .u64 n)):=p6
theorem EU(H:Hp)(k:IntKind)(n:Int):zeI Tryz.prog H 3 5 (.int k n)=some (.int .u8 (IntKind.wrap .u8 n)):=p6
theorem EV(H:Hp)(k:IntKind)(n:Int):zeI Tryz.prog H 3 126 (.int k n)=some (.int .u64 (IntKind.wrap .u64 n)):=p6
theorem EW(H:Hp)(k:IntKind)(n:Int):zeI Tryz.prog H 3 154 (.int k n)=some (.int .u64 (IntKind.wrap .u64 n)):=p6
theorem Wk(H:Hp)(k:IntKind)(n:Int):zeI Tryz.prog H 154 2 (.int k n)=some (.int .i64 (IntKind.wrap .i64 n)):=p6
theorem EX(H:Hp)(k:IntKind)(n:Int):zeI Tryz.prog H 154 5 (.int k n)=some (.int .u8 (IntKind.wrap .u8 n)):=p6
end Go.Proofs.YtljebeflbbgibaaGreat
