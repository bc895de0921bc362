/- Parts: AbWk, AbFor, AbCut, AbIc, TreeP, Pls, Seeds, Facts. -/
import Derived.KernelRfl
import Derived.Test.YtljebeflbbgibaaGreatRows
import Derived.Test.YtljebeflbbgibaaGreatYCE
set_option linter.unusedSimpArgs false
set_option linter.unusedVariables false
set_option linter.unusedSectionVars false
set_option linter.defProp false
set_option maxHeartbeats 32000000
namespace Go.Ab
set_option maxRecDepth 20000
open Go
theorem AM{P:Prop}(h:P:=by rw[List.length_map];exact I):P:=h
theorem xc{P:Prop}(h:P:=by simpa using e):P:=h
theorem af{P:Prop}(h:P:=by kernel_rfl):P:=h
theorem qw{P:Prop}(h:P:=by cases k<;>kernel_rfl):P:=h
def cX:=@List.length_map
def oP:=@List.getElem?_cons_zero
def xd:=@Nat.ble_eq
def cQ:=@Nat.lt_succ_self
def a1:=@and_true
def ad:=@And.intro
def gR:=@Bool.not_false
def dq:=@Bool.true_and
def dQ:=@Int.toNat_natCast
end Go.Ab
namespace Go.Ab
set_option maxRecDepth 20000
open Go
def bF:Nat->AV->AV
 |0,v=>v
 |n+1,v=>match v with
  | .nilS=>.lst []
  | .lst C=>.lst (C.map fun A=>A.map (bF n))
  | .agg W=>.agg (W.map (bF n))
  | .tup W=>.tup (W.map (bF n))
  |v=>v
theorem VR.wk{G:Gh}:∀(n:Nat) {v:AV}{x:Value},VR G v x->VR G (bF n v) x
 |0,_,_,h=>h
 |n+1,v,x,h=>by
  cases h with
  |nilS=>exact .lst0 _ _
  |lst vs V g L hc=>
   rename_i xs b o cap z;have:=VR.lst (G:=G) (xs:=xs.map fun A=>A.map (bF n)) (b:=b) (o:=o) (cap:=cap) (z:=z) vs ?_ ?_ ?_ ?_
   .rw[cX]at this;exact this
   .intro i A hr;rw[ea]at hr;cases F:xs[i]? with
    |none=>rw[F]at hr;simp at hr
    |some zdg=>rw[F]at hr;simp only[jy,aA]at hr;rw[<-hr,cX];exact V i zdg F
   .intro i j Y O;rw[cX]at Y;exact g i j Y O
   .intro i j A c hr Z;rw[ea]at hr;cases F:xs[i]? with
    |none=>rw[F]at hr;simp at hr
    |some zdg=>
     rw[F]at hr;simp only[jy,aA]at hr;rw[<-hr,ea]at Z;cases C:zdg[j]? with
     |none=>rw[C]at Z;simp at Z
     |some c0=>rw[C]at Z;simp only[jy,aA]at Z;rw[<-Z];exact VR.wk n (L i j zdg c0 F C)
   .rw[cX];exact hc
  |lst0 a cap=>exact .lst0 a cap
  |agg I L=>
   refine .agg AM fun i c v hc M=>?_;rw[ea]at hc;rename_i W vs;cases C:W[i]? with
   |none=>rw[C]at hc;simp at hc
   |some c0=>rw[C]at hc;simp only[jy,aA]at hc;rw[<-hc];exact VR.wk n (L i c0 v C M)
  |tup I L=>
   refine .tup AM fun i c v hc M=>?_;rw[ea]at hc;rename_i W vs;cases C:W[i]? with
   |none=>rw[C]at hc;simp at hc
   |some c0=>rw[C]at hc;simp only[jy,aA]at hc;rw[<-hc];exact VR.wk n (L i c0 v C M)
  |int k m=>exact .int k m
  |sx k e=>exact .sx k e
  |bool b=>exact .bool b
  |str s l h=>exact .str s l h
  |nilP=>exact .nilP
  |nilM=>exact .nilM
  |nilF=>exact .nilF
  |ptr h=>exact .ptr h
  |iptr vs g L=>exact .iptr vs g L
  |sl h I hc=>exact .sl h I hc
  |map h=>exact .map h
  |clo I L=>exact .clo I L
theorem bh.wk{P:Program}{ρ:Nat->Int}{f:FuncId}{args:List AV}{r:AV}(n:Nat)(h:bh P ρ f args r):bh P ρ f args (bF n r):=
 ⟨h.1,fun G w vs i g m=>(h.2 G w vs i g m).mono fun _ _ ⟨v,K,U,Z,F⟩=>⟨v,K,U,Z.wk n,F⟩⟩
theorem AN{P:Program}{ρ:Nat->Int}{f:FuncId}{args:List AV}{r m:AV}(n:Nat)(h:bh P ρ f args r)(e:bF n r=m):bh P ρ f args m:=e▸h.wk n
variable {P:Program} {cfg:Cfg} {f N:Nat}
theorem zdN{a:SC}{E:aw}{H:Hp}{Q:AX->aw->Hp->Prop}(cs rs:List Nat)(F n:Nat)(J:Nat->aw->Hp->Prop)(o:E.at F=.int .i64 0)(g:J 0 E H)
 (h:∀(i:Nat) (E':aw) (H':Hp),i<=n->(∀k∈cs,E'.at k=E.at k)->(∀r∈rs,H'.get r=H.get r)->H.next<=H'.next->E'.at F=.int .i64 i->J i E' H' ->
   zdr P cfg f N a E' H' (kG Q fun M Z=>i<n/\(∀k∈cs,M.at k=E.at k)/\(∀r∈rs,Z.get r=H.get r)/\H.next<=Z.next/\M.at F=.int .i64 ((i+1:Nat):Int)/\J (i+1) M Z)):zdr P cfg f N (.loop a) E H Q:=
 lV (fun i E' H'=>(∀k∈cs,E'.at k=E.at k)/\(∀r∈rs,H'.get r=H.get r)/\H.next<=H'.next/\E'.at F=.int .i64 i/\J i E' H') n (fun i E' H' C ⟨Y,W,m,U,V⟩=>h i E' H' C Y W m U V) ⟨fun _ _=>rfl,fun _ _=>rfl,aM _,o,g⟩
theorem zdh{p:Nat->Prop}{a:Nat}{l:List Nat}:(∀k∈a::l,p k)↔p a/\∀k∈l,p k:=List.forall_mem_cons
theorem zdb{p:Nat->Prop}:(∀k∈([]:List Nat),p k)↔True:=⟨fun _=>trivial,fun _ _ h=>iX⟩
theorem zc7{a b:Nat}(h:a≠b):(a == b)=false:=iW
theorem zeX{i n:Nat}(h:i<n)(o:n<2^62):AV.int .i64 (IntKind.wrap .i64 ((i:Int)+1))=.int .i64 ((i+1:Nat):Int):=by rw[ze6 ac]
variable {P:Program} {cfg:Cfg} {f N:Nat}
theorem NZ{c:SC}{E:aw}{H:Hp}{Q:AX->aw->Hp->Prop}(cs:List Nat)(h:∀E':aw,(∀k∈cs,E'.at k=E.at k)->zdr P cfg f N c E' H Q):zdr P cfg f N c E H Q:=h E fun _ _=>rfl
def zdo{M β:Type}(p:M->β->Prop):List M->List β->Prop
 |[],[]=>True
 |a::l,b::m=>p a b/\zdo p l m
 |_,_=>False
theorem zdo.len{M β:Type}{p:M->β->Prop}:∀{l:List M}{m:List β},zdo p l m->l.length=m.length
 |[],[],_=>rfl
 |_::_,_::_,h=>by simp only[dl,zdo.len h.2]
theorem zdo.mono{M β:Type}{p q:M->β->Prop}(h:∀a b,p a b->q a b):∀{l:List M}{m:List β},zdo p l m->zdo q l m
 |[],[],_=>trivial
 |_::_,_::_,k=>⟨h _ _ k.1,zdo.mono h k.2⟩
theorem zdo.append{M β:Type}{p:M->β->Prop}:∀{l:List M}{m:List β}{Z:List M}{I:List β},zdo p l m->zdo p Z I->zdo p (l++Z) (m++I)
 |[],[],_,_,_,h=>h
 |_::_,_::_,_,_,h,k=>⟨h.1,zdo.append h.2 k⟩
theorem zdo.refl{M:Type}{p:M->M->Prop}:∀{l:List M},(∀a∈l,p a a)->zdo p l l
 |[],_=>trivial
 |a::l,h=>⟨h a e8,zdo.refl fun b z=>h b (fl _ z)⟩
theorem zdo.get{M β:Type}{p:M->β->Prop}:∀{l:List M}{m:List β},zdo p l m->∀{i:Nat}{a:M}{b:β},l[i]?=some a->m[i]?=some b->p a b
 |[],[],_,i,_,_,h,_=>by simp at h
 |a::l,b::m,h,0,_,_,h1,h2=>by
  simp only[oP,aA]at h1 h2;subst h1;subst h2;exact h.1
 |a::l,b::m,h,i+1,_,_,h1,h2=>zdo.get h.2 (by simpa using h1) (by simpa using h2)
theorem zdo.set{M β:Type}{p:M->β->Prop}:∀{l:List M}{m:List β},zdo p l m->∀{i:Nat}{a:M}{b:β},p a b->zdo p (l.set i a) (m.set i b)
 |[],[],_,i,_,_,_=>by simp[zdo]
 |_::_,_::_,h,0,_,_,k=>⟨k,h.2⟩
 |_::_,_::_,h,i+1,_,_,k=>⟨h.1,zdo.set h.2 k⟩
def EV(v:AV):Prop:=ee v/\match v with
 | .sl _ _ _ _|.agg _=>False
 |_=>True
def zdI(S:Nat->Prop):Nat->Hp->AV->AV->Prop
 |0,_,_,_=>False
 |n+1,H,v,u=>match v with
  | .sl r M W z=>S r/\r<H.next/\∃Z g O l,H.get r=some (.cells Z g O)/\g<=Z.length/\M+W*z<=Z.length/\zdo (zdI S n H) ((Z.drop M).take (W*z)) l/\u=.lst (zeg z W l)
  | .agg Z=>∃F,zdo (zdI S n H) Z F/\u=.agg F
  |v=>ee v/\u=v
theorem zdI.flat{S:Nat->Prop}{n:Nat}{H:Hp}{v:AV}(h:EV v):zdI S (n+1) H v v:=by
 cases v<;>first|exact h.2.elim|exact⟨h.1,rfl⟩
def ls:=@zdI.flat
theorem zdI.up{S:Nat->Prop}{H:Hp}:∀{n m:Nat}{v u:AV},zdI S n H v u->n<=m->zdI S m H v u
 |0,_,_,_,h,_=>h.elim
 |n+1,0,_,_,_,hm=>by omega
 |n+1,m+1,v,u,h,hm=>by
  cases v with
  |sl r L K z=>
   obtain⟨i,o,W,g,O,l,Z,Y,U,V,F⟩:=h;exact⟨i,o,W,g,O,l,Z,Y,U,V.mono fun a b k=>zdI.up k ac,F⟩
  |agg W=>
   obtain⟨M,i,Z⟩:=h;exact⟨M,i.mono fun a b k=>zdI.up k ac,Z⟩
  |_=>exact h
def oQ(a b:Option HB):Prop:=a=b\/∃W i j O,a=some (.cells W i O)/\b=some (.cells W j O)/\(i<=W.length->j<=W.length)
theorem oQ.trans{a b c:Option HB}(h:oQ a b)(k:oQ b c):oQ a c:=by
 rcases h with rfl|⟨W,i,j,O,rfl,rfl,h⟩
 .exact k
 .rcases k with rfl|⟨o,C,Z,A,e,rfl,k⟩
  .exact .inr ⟨W,i,j,O,rfl,rfl,h⟩
  .simp only[aA,HB.cells.injEq]at e;obtain⟨rfl,rfl,rfl⟩:=e;exact .inr ⟨W,i,Z,O,rfl,rfl,fun q=>k (h q)⟩
theorem zdI.frame2{S S':Nat->Prop}{H H':Hp}(hS:∀k,k<H.next->S k->S' k)(M:H.next<=H'.next)(Y:∀k,S k->k<H.next->oQ (H.get k) (H'.get k)):∀{n:Nat}{v u:AV},zdI S n H v u->zdI S' n H' v u
 |0,_,_,h=>h.elim
 |n+1,v,u,h=>by
  cases v with
  |sl r off len z=>
   obtain⟨Z,o,W,V,O,l,g,m,L,K,F⟩:=h;have I:=K.mono fun a b k=>zdI.frame2 hS M Y k;rcases Y r Z o with e|⟨C,i,j,A,U,e2,e3⟩
   .exact⟨hS r o Z,ac,W,V,O,l,by rw[<-e];exact g,m,L,I,F⟩
   .rw[g]at U;simp only[aA,HB.cells.injEq]at U;obtain⟨rfl,rfl,rfl⟩:=U;exact⟨hS r o Z,ac,W,j,O,l,e2,e3 m,L,I,F⟩
  |agg W=>
   obtain⟨J,Z,g⟩:=h;exact⟨J,Z.mono fun a b k=>zdI.frame2 hS M Y k,g⟩
  |_=>exact h
theorem zdI.frame{S S':Nat->Prop}(hS:∀k,S k->S' k){H H':Hp}(o:H.next<=H'.next)(j:∀k,S k->k<H.next->oQ (H.get k) (H'.get k)){n:Nat}{v u:AV}(h:zdI S n H v u):zdI S' n H' v u:=h.frame2 (fun k _ q=>hS k q) o j
structure Icy (S:Nat->Prop) (H H':Hp):Prop where
 next:H'.next=H.next
 out:∀k,¬S k->H'.get k=H.get k
 same:∀k,oQ (H.get k) (H'.get k)
theorem Icy.refl(S:Nat->Prop)(H:Hp):Icy S H H:=⟨rfl,fun _ _=>rfl,fun _=>.inl rfl⟩
theorem Icy.trans{S:Nat->Prop}{a b c:Hp}(h:Icy S a b)(k:Icy S b c):Icy S a c:=⟨k.next.trans h.next,fun r hr=>(k.out r hr).trans (h.out r hr),fun r=>(h.same r).trans (k.same r)⟩
theorem Icy.ic{S S':Nat->Prop}{H H':Hp}(h:Icy S H H'){n:Nat}{v u:AV}(k:zdI S' n H v u):zdI S' n H' v u:=k.frame (fun _ q=>q) (Nat.le_of_eq h.next.symm) fun r _ _=>h.same r
theorem xe{S:Nat->Prop}{n:Nat}(ih:∀{v u:AV}{H:Hp},zdI S n H v u->∃H',fB n v H=some (u,H')/\Icy S H H'):∀{l m:List AV}{H:Hp},zdo (zdI S n H) l m->∃H',ir (fB n) l H=some (m,H')/\Icy S H H'
 |[],[],H,_=>⟨H,rfl,Icy.refl S H⟩
 |a::l,b::m,H,h=>by
  obtain⟨H1,i,g⟩:=ih h.1;obtain⟨Z,Y,U⟩:=xe ih (l:=l) (m:=m) (H:=H1) (h.2.mono fun a b k=>g.ic k);exact⟨Z,by simp only[ir,i,Y],g.trans U⟩
theorem zdI.ice{S:Nat->Prop}:∀{n:Nat}{v u:AV}{H:Hp},zdI S n H v u->∃H',fB n v H=some (u,H')/\Icy S H H'
 |0,_,_,_,h=>h.elim
 |n+1,v,u,H,h=>by
  cases v with
  |sl r M W z=>
   obtain⟨i,h0,Z,g,O,l,Y,m,U,L,rfl⟩:=h;have F:Icy S H (H.set r (.cells Z (max g (M+W*z)) O)):=by
    refine⟨rfl,fun k j=>by rw[aX,ah (fun e=>j (by rw[e];exact i))],fun k=>?_⟩;rw[aX];split
    .rename_i e;subst e;exact .inr ⟨Z,g,max g (M+W*z),O,Y,rfl,fun _=>ac⟩
    .exact .inl rfl
   obtain⟨H',K,I⟩:=xe (fun k=>zdI.ice k) (L.mono fun a b k=>F.ic k);refine⟨H',?_,F.trans I⟩;have e:fB (n+1) (.sl r M W z) H=match H.get r with
    |some (.cells Z g O)=>match Nat.ble (M+W*z) Z.length&&Nat.ble g Z.length with
     |true=>match ir (fB n) ((Z.drop M).take (W*z)) (H.set r (.cells Z (max g (M+W*z)) O))with
      |some (C,H)=>some (.lst (zeg z W C),H)
      |none=>none
     |false=>none
    |_=>none:=rfl
   rw[e,Y];have J:Nat.ble (M+W*z) Z.length=true:=by rw[xd];exact U
   have A:Nat.ble g Z.length=true:=by rw[xd];exact m
   simp only[J,A,qj,K]
  |agg Z=>
   obtain⟨V,i,rfl⟩:=h;obtain⟨H',Y,m⟩:=xe (fun k=>zdI.ice k) i;refine⟨H',?_,m⟩;have e:fB (n+1) (.agg Z) H=match ir (fB n) Z H with
    |some (V,H)=>some (.agg V,H)
    |none=>none:=rfl
   rw[e,Y]
  |ptr r o=>
   obtain⟨k,j⟩:=h.1;exact absurd (j (k+1) ac H) (by simp[iceV])
  |map r=>
   obtain⟨k,j⟩:=h.1;exact absurd (j (k+1) ac H) (by simp[iceV])
  |_=>exact⟨H,by rw[show u=_ from h.2];rfl,Icy.refl S H⟩
theorem zdI.iceL{S:Nat->Prop}{n:Nat}{l m:List AV}{H:Hp}(h:zdo (zdI S n H) l m):∃H',ir (fB n) l H=some (m,H')/\Icy S H H':=xe (fun k=>zdI.ice k) h
theorem AO{S:Nat->Prop}{n:Nat}{H:Hp}(ih:∀{v u:AV},zdI S n H v u->∃L,∀m,L<=m->iceV H m v=some u):∀{l k:List AV},zdo (zdI S n H) l k->∃L,∀m,L<=m->iceL (iceV H m) l=some k
 |[],[],_=>⟨0,fun _ _=>rfl⟩
 |a::l,b::k,h=>by
  obtain⟨zeo,i⟩:=ih h.1;obtain⟨F,g⟩:=AO ih (l:=l) (k:=k) h.2;exact⟨max zeo F,fun m M=>by simp only[iceL,i m ac,g m ac]⟩
theorem zdI.iceV{S:Nat->Prop}{H:Hp}:∀{n:Nat}{v u:AV},zdI S n H v u->∃L,∀m,L<=m->iceV H m v=some u
 |0,_,_,h=>h.elim
 |n+1,v,u,h=>by
  cases v with
  |sl r M W z=>
   obtain⟨i,o,Z,g,O,l,K,C,A,V,rfl⟩:=h;obtain⟨L,J⟩:=AO (fun k=>zdI.iceV k) V;refine⟨L+1,fun m Y=>?_⟩;obtain⟨m,rfl⟩:∃k,m=k+1:=⟨m-1,ac⟩;have e:Ab.iceV H (m+1) (.sl r M W z)=match H.get r with
    |some (.cells Z _ _)=>match Ab.iceL (Ab.iceV H m) ((Z.drop M).take (W*z))with
     |some U=>if U.length=W*z then some (.lst (zeg z W U))else none
     |none=>none
    |_=>none:=rfl
   have I:l.length=W*z:=by rw[<-V.len,iS,iw];omega
   rw[e,K];simp only[J m ac,I,bS]
  |agg Z=>
   obtain⟨F,i,rfl⟩:=h;obtain⟨L,J⟩:=AO (fun k=>zdI.iceV k) i;refine⟨L+1,fun m Y=>?_⟩;obtain⟨m,rfl⟩:∃k,m=k+1:=⟨m-1,ac⟩;have e:Ab.iceV H (m+1) (.agg Z)=match Ab.iceL (Ab.iceV H m) Z with
    |some F=>some (.agg F)
    |none=>none:=rfl
   rw[e,J m ac]
  |_=>
   obtain⟨k,j⟩:=h.1;exact⟨k,fun m Y=>by rw[j m Y H,h.2]⟩
theorem chunk_rows(z:Nat):∀(rows:List (List AV)),(∀r∈rows,r.length=z)->zeg z rows.length rows.flatten=rows
 |[],_=>rfl
 |r::rows,h=>by
  have i:=h r e8;rw[lQ,dl];show(r++rows.flatten).take z::zeg z rows.length ((r++rows.flatten).drop z)=_;rw[zq ac,eF ac,ww ac,zr ac,lN,chunk_rows z rows fun q K=>h q (fl _ K)]
theorem xf{z:Nat}:∀{rows:List (List AV)},(∀r∈rows,r.length=z)->rows.flatten.length=rows.length*z
 |[],_=>by simp
 |r::rows,h=>by
  rw[lQ,fv,h r e8,xf fun q K=>h q (fl _ K),dl,qc];omega
theorem zdo.flat{p:AV->AV->Prop}:∀{a b:List (List AV)},zdo (zdo p) a b->zdo p a.flatten b.flatten
 |[],[],_=>trivial
 |_::_,_::_,h=>by rw[lQ,lQ];exact h.1.append (zdo.flat h.2)
theorem zdo.rowlen{p:AV->AV->Prop}{z:Nat}:∀{a b:List (List AV)},zdo (zdo p) a b->(∀r∈a,r.length=z)->∀r∈b,r.length=z
 |[],[],_,_,r,hr=>by simp at hr
 |x::a,y::b,h,hz,r,hr=>by
  rcases fk.1 hr with rfl|hr
  .rw[<-h.1.len];exact hz x e8
  .exact zdo.rowlen h.2 (fun q K=>hz q (fl _ K)) r hr
theorem zdI.rows{S:Nat->Prop}{n:Nat}{H:Hp}{r z imm:Nat}{tip:Bool}{a b:List (List AV)}(hS:S r)(hr:r<H.next)(A:H.get r=some (.cells a.flatten imm tip))(C:imm<=a.flatten.length)(m:∀x∈a,x.length=z)(h:zdo (zdo (zdI S n H)) a b):zdI S (n+1) H (.sl r 0 a.length z) (.lst b):=by
 have I:=xf m;refine⟨hS,hr,a.flatten,imm,tip,b.flatten,A,C,ac,?_,?_⟩
 .rw[dW,eF ac];exact h.flat
 .rw[h.len,chunk_rows z b (h.rowlen m)]
theorem bT.wk{G:Gh}(n:Nat):∀{args:List AV}{vs:List Value},bT G args vs->bT G (args.map (bF n)) vs
 |[],vs,h=>h
 |a::l,[],h=>by have:=h.1;simp at this
 |a::l,v::vs,h=>by
  obtain⟨i,g⟩:=h.of_cons;exact iT (i.wk n) (bT.wk n g)
theorem bh.wkA{P:Program}{ρ:Nat->Int}{f:FuncId}{args:List AV}{r:AV}(n:Nat)(h:bh P ρ f (args.map (bF n)) r):bh P ρ f args r:=⟨h.1,fun G w vs i g m=>h.2 G w vs i g (m.wk n)⟩
def kI(e:En):En:=⟨e.f,e.ice,fun args=>e.sp (args.map (bF 60))⟩
theorem sw{P:Program}{ρ:Nat->Int}{e:En}(h:zdF P ρ e):zdF P ρ (kI e):=fun args r hr=>(h _ r hr).wkA 60
theorem Ex.pure(x:Ex):eS x.cells:=by
 have F:∀n (x:Ex),x.sz<n->eS x.cells:=by
  intro n;induction n with
  |zero=>intro x h;omega
  |succ n ih=>
   intro x h;rw[qp];refine .cons (.int _ _) (.cons (.int _ _) (.cons (.str _) (.cons (.int _ _) (.cons (.map fun y C=>ih y ?_) .nil))));have:=sm C;have:=x.sz_eq;omega
 exact F _ x (cQ _)
theorem xg(l:List Ex):ee (.lst (l.map Ex.cells)):=.map fun x _=>x.pure
theorem St.pure(x:St):eS x.cells:=by
 have F:∀n (x:St),x.sz<n->eS x.cells:=by
  intro n;induction n with
  |zero=>intro x h;omega
  |succ n ih=>
   intro x h;rw[sh];have:=x.sz_eq;refine .cons (.int _ _) (.cons (.str _) (.cons (.str _) (.cons (.int _ _) (.cons (.int _ _) (.cons (.int _ _) (.cons (.str _) (.cons (.int _ _) (.cons (xg _) (.cons (.int _ _) (.cons (.int _ _) (.cons (.str _) (.cons (.int _ _) (.cons (xg _) (.cons (xg _) (.cons (.map fun y C=>ih y ?_) (.cons (.map fun y C=>ih y ?_) .nil))))))))))))))))
   .have:=sn C;omega
   .have:=sn C;omega
 exact F _ x (cQ _)
theorem N0(l:List St):ee (.lst (l.map St.cells)):=.map fun x _=>x.pure
theorem uG(l:List (List UInt8)):ee (zd7 l):=.map fun x _=>.cons (.str _) .nil
theorem Fu.pure(x:Fu):eS x.cells:=by
 rw[uB];exact .cons (.str _) (.cons (uG _) (.cons (uG _) (.cons (N0 _) (.cons (.int _ _) (.cons (.int _ _) (.cons (.str _) (.cons (.int _ _) (.cons (xg _) .nil))))))))
theorem Ar.pure(x:Ar):eS x.cells:=.cons (.str _) (.cons (.int _ _) .nil)
theorem Pr.pure(x:Pr):eS x.cells:=.cons (.map fun x _=>x.pure) (.cons (.map fun x _=>x.pure) .nil)
theorem zfg{M β:Type}{f:M->β}:∀{a b:List M},(∀x∈a,∀y,f x=f y->x=y)->a.map f=b.map f->a=b
 |[],[],_,_=>rfl
 |[],_::_,_,h=>by simp at h
 |_::_,[],_,h=>by simp at h
 |x::a,y::b,hf,h=>by
  simp only[dO,cS]at h;rw[hf x e8 y h.1,zfg (fun z m=>hf z (fl _ m)) h.2]
theorem Ex.ext'{x y:Ex}(o:x.kind=y.kind)(h1:x.n=y.n)(h2:x.name=y.name)(m:x.op=y.op)(U:x.kids=y.kids):x=y:=by
 cases x;cases y;simp only[Ex.kind,Ex.n,Ex.name,Ex.op,Ex.kids]at *;simp[*]
theorem Ex.inj{x y:Ex}(h:x.cells=y.cells):x=y:=by
 have F:∀n (x:Ex),x.sz<n->∀y,x.cells=y.cells->x=y:=by
  intro n;induction n with
  |zero=>intro x h;omega
  |succ n ih=>
   intro x h y e;rw[qp,qp]at e;simp only[cS,AV.int.injEq,AV.str.injEq,AV.lst.injEq,fM,a1]at e;obtain⟨Y,Z,A,W,o⟩:=e;refine Ex.ext' Y Z A W (zfg (fun z m=>ih z ?_) o);have:=sm m;have:=x.sz_eq;omega
 exact F _ x (cQ _) y h
theorem xh{a b:List Ex}(h:a.map Ex.cells=b.map Ex.cells):a=b:=zfg (fun _ _ _=>Ex.inj) h
theorem St.ext'{x y:St}(o:x.kind=y.kind)(h1:x.name=y.name)(h2:x.to=y.to)(m:x.n=y.n)(U:x.at_=y.at_)(i:x.value=y.value)(F:x.args=y.args)(I:x.thn=y.thn)(J:x.els=y.els):x=y:=by
 cases x;cases y;simp only[St.kind,St.name,St.to,St.n,St.at_,St.value,St.args,St.thn,St.els]at *;simp[*]
theorem St.inj{x y:St}(h:x.cells=y.cells):x=y:=by
 have F:∀n (x:St),x.sz<n->∀y,x.cells=y.cells->x=y:=by
  intro n;induction n with
  |zero=>intro x h;omega
  |succ n ih=>
   intro x h y e;have I:=x.sz_eq;rw[sh,sh]at e;simp only[cS,AV.int.injEq,AV.str.injEq,AV.lst.injEq,fM,a1]at e;obtain⟨Y,Z,A,W,a0,zd0,a2,a3,zeh,C,V,U,O,M,L,K,J⟩:=e;refine St.ext' Y Z A W (Ex.ext' a0 zd0 a2 a3 (xh zeh)) (Ex.ext' C V U O (xh M)) (xh L) (zfg (fun z m=>ih z ?_) K) (zfg (fun z m=>ih z ?_) J)
   .have:=sn m;omega
   .have:=sn m;omega
 exact F _ x (cQ _) y h
theorem N1{a b:List St}(h:a.map St.cells=b.map St.cells):a=b:=zfg (fun _ _ _=>St.inj) h
theorem xi{a b:List (List UInt8)}(h:(a.map fun s=>[AV.str s])=b.map fun s=>[AV.str s]):a=b:=zfg (fun x _ y e=>xc) h
theorem Fu.inj{x y:Fu}(h:x.cells=y.cells):x=y:=by
 obtain⟨n,p,l,b,v⟩:=x;obtain⟨L,M,m,i,o⟩:=y;rw[uB,uB]at h;simp only[cS,AV.int.injEq,AV.str.injEq,AV.lst.injEq,fM,a1]at h;obtain⟨Y,Z,A,W,C,V,U,O,z⟩:=h;rw[Y,xi Z,xi A,N1 W,Ex.ext' C V U O (xh z)]
theorem Ar.inj{x y:Ar}(h:x.cells=y.cells):x=y:=by
 obtain⟨n,p⟩:=x;obtain⟨L,Z⟩:=y;simp only[Ar.cells,cS,AV.int.injEq,AV.str.injEq,fM,a1]at h;rw[h.1,h.2]
theorem Pr.inj{x y:Pr}(h:x.cells=y.cells):x=y:=by
 obtain⟨n,p⟩:=x;obtain⟨L,Z⟩:=y;simp only[Pr.cells,cS,AV.lst.injEq,fM,a1]at h;rw[zfg (fun _ _ _=>Ar.inj) h.1,zfg (fun _ _ _=>Fu.inj) h.2]
theorem oR(l:List Int):ee (zdR l):=.map fun x _=>.cons (.int _ _) .nil
theorem Nd.pure(x:Nd):eS x.cells:=.cons (.int _ _) (.cons (.int _ _) (.cons (oR _) .nil))
def sy:=@Nd.pure
theorem Gr.pure(x:Gr):eS x.cells:=.cons (.str _) (.cons (.int _ _) (.cons (.map fun y _=>y.pure) (.cons (.int _ _) (.cons (.int _ _) .nil))))
theorem Un.pure(x:Un):eS x.cells:=.cons (.map fun y _=>y.pure) (.cons (.map fun y _=>y.pure) .nil)
def sA:=@Un.pure
theorem EW{a b:List Int}(h:(a.map fun n=>[AV.int .i64 n])=b.map fun n=>[AV.int .i64 n]):a=b:=zfg (fun x _ y e=>xc) h
theorem Nd.inj{x y:Nd}(h:x.cells=y.cells):x=y:=by
 obtain⟨n,p,k⟩:=x;obtain⟨L,Z,k'⟩:=y;simp only[Nd.cells,cS,AV.int.injEq,AV.lst.injEq,fM,a1]at h;rw[h.1,h.2.1,EW h.2.2]
def nX:=@Nd.inj
theorem Gr.inj{x y:Gr}(h:x.cells=y.cells):x=y:=by
 obtain⟨n,p,l,v,s⟩:=x;obtain⟨L,Y,W,o,M⟩:=y;simp only[Gr.cells,cS,AV.int.injEq,AV.str.injEq,AV.lst.injEq,fM,a1]at h;obtain⟨i,g,m,U,Z⟩:=h;rw[i,g,zfg (fun _ _ _=>nX) m,U,Z]
theorem Un.inj{x y:Un}(h:x.cells=y.cells):x=y:=by
 obtain⟨n,p⟩:=x;obtain⟨L,Z⟩:=y;simp only[Un.cells,cS,AV.lst.injEq,fM,a1]at h;rw[zfg (fun _ _ _=>Ar.inj) h.1,zfg (fun _ _ _=>Gr.inj) h.2]
end Go.Ab
namespace Go.Proofs.YtljebeflbbgibaaGreat
set_option maxRecDepth 20000
open Go Go.Ab
theorem fit:Fit Tryz.prog:=Fit.of af
def pls:List (Nat×Nat×Plan):=[(7,9,(.perm [0,1,2,4,5,8,10,3,6,7,9,11])),
 (7,10,(.perm [0,1,2,4,5,8,10,3,6,7,9,11])),
 (8,4,(.perm [0,1,2,4,5,6,7,11,12,3,8,9,10,13,14])),
 (14,22,(.perm [0,1,2,3,4,5,6,7,10,8,9,11])),
 (73,14,(.perm [0,1,2,4,5,7,9,3,6,8,10])),
 (116,23,(.perm [0,1,2,3,4,5,6,7,9,10,11,12,13,14,8,15,16,17,18,19])),
 (116,24,(.perm [0,1,2,3,4,5,6,8,9,10,11,12,13,7,14,15,16])),
 (152,13,(.perm [0,1,2,3,4,5,6,8,9,7,10,11,12])),
 (176,23,(.perm [0,2,3,4,5,6,7,1,8,9]))]
def zeT(l:List Int):AV:=.lst (l.map fun n=>[.int .i64 n])
theorem AP:∀{a b:List Int},(a.map fun n=>[AV.int .i64 n])=(b.map fun n=>[AV.int .i64 n])->a=b
 |[],[],_=>rfl
 |[],_::_,h=>by simp at h
 |_::_,[],h=>by simp at h
 |x::a,y::b,h=>by
  simp only[dO,cS,AV.int.injEq,a1,fM]at h;rw[h.1,AP h.2]
theorem AQ(l:List Int):ee (zeT l):=.map fun n _=>.cons (.int _ _) .nil
theorem zcN:Tryz.prog.cellsOf 3=1:=af
def zc3:=ad @NM (ad @List.toList_toArray.{0} (ad @zdK (ad @nL (ad @zfk (ad @lj (ad @gR (ad @List.length_map.{0,0} (ad @Int.natCast_zero (ad @MM (ad @MN (ad @MO (ad @MP (ad @MQ (ad @gN (ad @cond_true.{1} (ad @cond_false.{1} (@bz)))))))))))))))))
def zde:=ad @Ex.clen (ad @Ex.c0 (ad @Ex.c1 (ad @Ex.c2 (ad @Ex.c3 (ad @Ex.c4 (ad @Ex.whole (ad @Ex.one (ad @St.clen (ad @St.c0 (ad @St.c1 (ad @St.c2 (ad @St.c3 (ad @St.c4 (ad @St.c5 (ad @St.c6 (ad @St.c7 (ad @St.c8 (ad @St.c9 (ad @St.c10 (ad @St.c11 (ad @St.c12 (ad @St.c13 (ad @St.c14 (ad @St.c15 (ad @St.c16 (ad @St.whole (ad @St.one (ad @NA (ad @St.part_value (ad @Fu.clen (ad @Fu.c0 (ad @Fu.c1 (ad @Fu.c2 (ad @Fu.c3 (ad @Fu.c4 (ad @Fu.c5 (ad @Fu.c6 (ad @Fu.c7 (ad @Fu.c8 (ad @Fu.whole (ad @Fu.one (ad @Fu.part_value (ad @Ar.clen (ad @Ar.c0 (ad @Ar.c1 (ad @Ar.whole (ad @Ar.one (ad @Pr.clen (ad @Pr.c0 (ad @Pr.c1 (ad @Pr.whole (ad @Pr.one (ad @Tk.clen (ad @Tk.c0 (ad @Tk.c1 (ad @Tk.c2 (ad @Tk.whole (ad @Tk.one (ad @Nd.clen (ad @Nd.c0 (ad @Nd.c1 (ad @Nd.c2 (ad @Nd.whole (ad @Nd.one (ad @Gr.clen (ad @Gr.c0 (ad @Gr.c1 (ad @Gr.c2 (ad @Gr.c3 (ad @Gr.c4 (ad @Gr.whole (ad @Gr.one (ad @Un.clen (ad @Un.c0 (ad @Un.c1 (ad @Un.whole (ad @Un.one (ad @Nw (ad @Nx (ad @Ny (ad @Nz (ad @List.getElem?_drop.{0} (ad @mA (ad @if_true.{1} (ad @sg (ad @w1 (ad @Ez (ad @Ng (ad @cells_int (ad @EC (ad @Nh (ad @Ni (ad @Nj (ad @Nk (ad @Nl (ad @Nm (ad @Nn (ad @ED (ad @No (ad @Np (ad @Nq (ad @Nr (ad @Ns (ad @Nt (ad @Nu (ad @Nv (ad @List.all_cons.{0} (ad @List.all_nil.{0} (ad @jW (ad @dq (ad @a1 (ad @fM (ad @cN (ad @aM (ad @List.nil_append.{0} (ad @List.append_nil.{0} (ad @List.cons_append.{0} (ad @zc6 (ad @zdm (ad @zdK (ad @beq_self_eq_true.{0} (ad @Aw (ad @Ax (ad @EE (ad @hZ (ad @List.getElem?_map.{0,0} (ad @Option.map_some.{0,0} (ad @se (ad @Nf (ad @Nc (ad @M9 (ad @Na (ad @get_set (ad @sf (ad @List.getElem?_cons_succ.{0} (ad @List.getElem?_cons_zero.{0} (ad @List.drop_succ_cons.{0} (ad @List.drop_zero.{0} (ad @List.take_succ_cons.{0} (ad @List.take_zero.{0} (ad @List.length_cons.{0} (ad @List.length_nil.{0} (ad @Int.natCast_nonneg (ad @dQ (ad @MR (ad @MT (ad @MU (ad @MV (ad @MW (ad @MX (ad @MY (ad @MZ (ad @M0 (ad @M1 (ad @M2 (ad @M3 (ad @M4 (ad @M5 (ad @M6 (@M7))))))))))))))))))))))))))))))))))))))))))))))))))))))))))))))))))))))))))))))))))))))))))))))))))))))))))))))))))))))))))))))))))))))))))))))))))))))))))))))))
structure Plain (cfg:Cfg) (f:FuncId):Prop where
 call:∀args,cfg.call f args=none
 ice:cfg.ice f=false
 froz:cfg.froz f=false
theorem uH:zc8 Tryz.prog 2=some 1:=af
theorem AR:zdz Tryz.prog 2=some 8:=af
theorem N2(cs:List AV)(o:Nat):zc1 Tryz.prog 2 cs o=cs[o]?:=zei Tryz.underlying2 rfl cs o
theorem AS:zdq Tryz.prog 2=some [(.int .i64 0)]:=af
def cP:=ad @uH (ad @N2 (ad @AR (@AS)))
theorem jl:zc8 Tryz.prog 3=some 1:=af
theorem qx:zdz Tryz.prog 3=some 8:=af
theorem N3(cs:List AV)(o:Nat):zc1 Tryz.prog 3 cs o=cs[o]?:=zei Tryz.underlying3 rfl cs o
theorem qy:zdq Tryz.prog 3=some [(.int .i64 0)]:=af
def b7:=ad @jl (ad @N3 (ad @qx (@qy)))
theorem xj:zc8 Tryz.prog 4=some 1:=af
theorem EX:zdz Tryz.prog 4=some 1:=af
theorem N4(cs:List AV)(o:Nat):zc1 Tryz.prog 4 cs o=cs[o]?:=zei Tryz.underlying4 rfl cs o
theorem EY:zdq Tryz.prog 4=some [(.bool false)]:=af
def lw:=ad @xj (ad @N4 (ad @EX (@EY)))
theorem AT:zc8 Tryz.prog 5=some 1:=af
theorem AU:zdz Tryz.prog 5=some 1:=af
theorem N5(cs:List AV)(o:Nat):zc1 Tryz.prog 5 cs o=cs[o]?:=zei Tryz.underlying5 rfl cs o
theorem AW:zdq Tryz.prog 5=some [(.int .u8 0)]:=af
def uI:=ad @AT (ad @N5 (ad @AU (@AW)))
theorem AY:zc8 Tryz.prog 9=some 1:=af
theorem AZ:zdz Tryz.prog 9=some 16:=af
theorem N6(cs:List AV)(o:Nat):zc1 Tryz.prog 9 cs o=cs[o]?:=zei Tryz.underlying9 rfl cs o
theorem A0:zdq Tryz.prog 9=some [(.str [])]:=af
theorem N7(H:Hp)(s:List UInt8):zdu Tryz.prog H 9 (.str s)=some (.int .i64 s.length):=M8 Tryz.underlying9 s
theorem N8(s:List UInt8){n:Int}(o:0<=n)(k:IntKind):lM Tryz.prog 9 (.str s) (.int k n)=wZ (s[n.toNat]?):=Nb Tryz.underlying9 s o k
def dz:=ad @AY (ad @N6 (ad @AZ (ad @A0 (ad @N7 (@N8)))))
theorem N9:zc8 Tryz.prog 23=some 1:=af
theorem Oa:zdz Tryz.prog 23=some 24:=af
theorem Ob(cs:List AV)(o:Nat):zc1 Tryz.prog 23 cs o=cs[o]?:=zei Tryz.underlying23 rfl cs o
theorem Od:zdq Tryz.prog 23=some [.nilS]:=af
theorem Oe(xs:List (List AV)){n:Int}(o:0<=n)(k:IntKind):zdn Tryz.prog 23 (.lst xs) (.int k n)=gB 1 (xs[n.toNat]?):=ze8 Tryz.underlying23 (show zc8 Tryz.prog 3=some 1 from by kernel_rfl) xs o k
theorem Of(r o l z:Nat){n:Int}(Z:0<=n)(k:IntKind):zdn Tryz.prog 23 (.sl r o l z) (.int k n)=bif decide (n.toNat<l)then some (.ptr r (o+n.toNat*1))else none:=ze9 Tryz.underlying23 (show zc8 Tryz.prog 3=some 1 from by kernel_rfl) r o l z Z k
theorem Og(H:Hp)(xs:List (List AV)):zdu Tryz.prog H 23 (.lst xs)=some (.int .i64 xs.length):=ze7 Tryz.underlying23 xs
theorem Oh(H:Hp)(r o n z:Nat):zdu Tryz.prog H 23 (.sl r o n z)=some (.int .i64 n):=zeV Tryz.underlying23 r o n z
theorem Oi(H:Hp):zdu Tryz.prog H 23 .nilS=some (.int .i64 0):=zeW Tryz.underlying23
def ei:=ad @N9 (ad @Ob (ad @Oa (ad @Od (ad @Oe (ad @Of (ad @Og (ad @Oh (@Oi))))))))
theorem xl:zc8 Tryz.prog 25=some 3:=af
theorem EZ:zdz Tryz.prog 25=some 40:=af
theorem Oj(cs:List AV)(o:Nat):zc1 Tryz.prog 25 cs o=zdA 3 (cs.drop o):=zeR Tryz.underlying25 rfl xl cs o
theorem E6:zdq Tryz.prog 25=some [(.int .i64 0),(.int .i64 0),.nilS]:=af
theorem Ol(r o:Nat):zcZ Tryz.prog 25 (.ptr r o) 0=some (.ptr r (o+0)):=af
theorem Om(cs:List AV):zcZ Tryz.prog 25 (.iptr cs) 0=some (.iptr (cs.drop 0)):=af
theorem On(cs:List AV):zdf Tryz.prog 25 (.agg cs) 0=zc1 Tryz.prog 3 cs 0:=af
theorem Oo(r o:Nat):zcZ Tryz.prog 25 (.ptr r o) 1=some (.ptr r (o+1)):=af
theorem Oq(cs:List AV):zcZ Tryz.prog 25 (.iptr cs) 1=some (.iptr (cs.drop 1)):=af
theorem Ot(cs:List AV):zdf Tryz.prog 25 (.agg cs) 1=zc1 Tryz.prog 2 cs 1:=af
theorem Ou(r o:Nat):zcZ Tryz.prog 25 (.ptr r o) 2=some (.ptr r (o+2)):=af
theorem Ov(cs:List AV):zcZ Tryz.prog 25 (.iptr cs) 2=some (.iptr (cs.drop 2)):=af
theorem Ow(cs:List AV):zdf Tryz.prog 25 (.agg cs) 2=zc1 Tryz.prog 23 cs 2:=af
def fd:=ad @xl (ad @Oj (ad @EZ (ad @E6 (ad @Ol (ad @Om (ad @On (ad @Oo (ad @Oq (ad @Ot (ad @Ou (ad @Ov (@Ow))))))))))))
theorem Oz:zc8 Tryz.prog 26=some 1:=af
theorem OA:zdz Tryz.prog 26=some 24:=af
theorem OB(cs:List AV)(o:Nat):zc1 Tryz.prog 26 cs o=cs[o]?:=zei Tryz.underlying26 rfl cs o
theorem OC:zdq Tryz.prog 26=some [.nilS]:=af
theorem OD(xs:List (List AV)){n:Int}(o:0<=n)(k:IntKind):zdn Tryz.prog 26 (.lst xs) (.int k n)=gB 3 (xs[n.toNat]?):=ze8 Tryz.underlying26 (show zc8 Tryz.prog 25=some 3 from by kernel_rfl) xs o k
theorem OE(r o l z:Nat){n:Int}(Z:0<=n)(k:IntKind):zdn Tryz.prog 26 (.sl r o l z) (.int k n)=bif decide (n.toNat<l)then some (.ptr r (o+n.toNat*3))else none:=ze9 Tryz.underlying26 (show zc8 Tryz.prog 25=some 3 from by kernel_rfl) r o l z Z k
theorem OF(H:Hp)(xs:List (List AV)):zdu Tryz.prog H 26 (.lst xs)=some (.int .i64 xs.length):=ze7 Tryz.underlying26 xs
theorem OG(H:Hp)(r o n z:Nat):zdu Tryz.prog H 26 (.sl r o n z)=some (.int .i64 n):=zeV Tryz.underlying26 r o n z
theorem OH(H:Hp):zdu Tryz.prog H 26 .nilS=some (.int .i64 0):=zeW Tryz.underlying26
def eT:=ad @Oz (ad @OB (ad @OA (ad @OC (ad @OD (ad @OE (ad @OF (ad @OG (@OH))))))))
theorem E7:zc8 Tryz.prog 28=some 5:=af
theorem OI:zdz Tryz.prog 28=some 64:=af
theorem OJ(cs:List AV)(o:Nat):zc1 Tryz.prog 28 cs o=zdA 5 (cs.drop o):=zeR Tryz.underlying28 rfl E7 cs o
theorem OK:zdq Tryz.prog 28=some [(.str []),(.int .i64 0),.nilS,(.int .i64 0),(.int .i64 0)]:=af
theorem OL(r o:Nat):zcZ Tryz.prog 28 (.ptr r o) 0=some (.ptr r (o+0)):=af
theorem OM(cs:List AV):zcZ Tryz.prog 28 (.iptr cs) 0=some (.iptr (cs.drop 0)):=af
theorem ON(cs:List AV):zdf Tryz.prog 28 (.agg cs) 0=zc1 Tryz.prog 9 cs 0:=af
theorem OO(r o:Nat):zcZ Tryz.prog 28 (.ptr r o) 1=some (.ptr r (o+1)):=af
theorem OP(cs:List AV):zcZ Tryz.prog 28 (.iptr cs) 1=some (.iptr (cs.drop 1)):=af
theorem OQ(cs:List AV):zdf Tryz.prog 28 (.agg cs) 1=zc1 Tryz.prog 3 cs 1:=af
theorem OR(r o:Nat):zcZ Tryz.prog 28 (.ptr r o) 2=some (.ptr r (o+2)):=af
theorem OS(cs:List AV):zcZ Tryz.prog 28 (.iptr cs) 2=some (.iptr (cs.drop 2)):=af
theorem OT(cs:List AV):zdf Tryz.prog 28 (.agg cs) 2=zc1 Tryz.prog 26 cs 2:=af
theorem OU(r o:Nat):zcZ Tryz.prog 28 (.ptr r o) 3=some (.ptr r (o+3)):=af
theorem OV(cs:List AV):zcZ Tryz.prog 28 (.iptr cs) 3=some (.iptr (cs.drop 3)):=af
theorem OW(cs:List AV):zdf Tryz.prog 28 (.agg cs) 3=zc1 Tryz.prog 3 cs 3:=af
theorem OX(r o:Nat):zcZ Tryz.prog 28 (.ptr r o) 4=some (.ptr r (o+4)):=af
theorem OY(cs:List AV):zcZ Tryz.prog 28 (.iptr cs) 4=some (.iptr (cs.drop 4)):=af
theorem OZ(cs:List AV):zdf Tryz.prog 28 (.agg cs) 4=zc1 Tryz.prog 3 cs 4:=af
def mN:=ad @E7 (ad @OJ (ad @OI (ad @OK (ad @OL (ad @OM (ad @ON (ad @OO (ad @OP (ad @OQ (ad @OR (ad @OS (ad @OT (ad @OU (ad @OV (ad @OW (ad @OX (ad @OY (@OZ))))))))))))))))))
theorem O0:zc8 Tryz.prog 29=some 1:=af
theorem O1:zdz Tryz.prog 29=some 24:=af
theorem O2(cs:List AV)(o:Nat):zc1 Tryz.prog 29 cs o=cs[o]?:=zei Tryz.underlying29 rfl cs o
theorem O3:zdq Tryz.prog 29=some [.nilS]:=af
theorem O4(xs:List (List AV)){n:Int}(o:0<=n)(k:IntKind):zdn Tryz.prog 29 (.lst xs) (.int k n)=gB 5 (xs[n.toNat]?):=ze8 Tryz.underlying29 (show zc8 Tryz.prog 28=some 5 from by kernel_rfl) xs o k
theorem O5(r o l z:Nat){n:Int}(Z:0<=n)(k:IntKind):zdn Tryz.prog 29 (.sl r o l z) (.int k n)=bif decide (n.toNat<l)then some (.ptr r (o+n.toNat*5))else none:=ze9 Tryz.underlying29 (show zc8 Tryz.prog 28=some 5 from by kernel_rfl) r o l z Z k
theorem O6(H:Hp)(xs:List (List AV)):zdu Tryz.prog H 29 (.lst xs)=some (.int .i64 xs.length):=ze7 Tryz.underlying29 xs
theorem O7(H:Hp)(r o n z:Nat):zdu Tryz.prog H 29 (.sl r o n z)=some (.int .i64 n):=zeV Tryz.underlying29 r o n z
theorem O8(H:Hp):zdu Tryz.prog H 29 .nilS=some (.int .i64 0):=zeW Tryz.underlying29
def mO:=ad @O0 (ad @O2 (ad @O1 (ad @O3 (ad @O4 (ad @O5 (ad @O6 (ad @O7 (@O8))))))))
theorem O9:zc8 Tryz.prog 30=some 1:=af
theorem Pa:zdz Tryz.prog 30=some 24:=af
theorem Pb(cs:List AV)(o:Nat):zc1 Tryz.prog 30 cs o=cs[o]?:=zei Tryz.underlying30 rfl cs o
theorem Pc:zdq Tryz.prog 30=some [.nilS]:=af
theorem Pd(xs:List (List AV)){n:Int}(o:0<=n)(k:IntKind):zdn Tryz.prog 30 (.lst xs) (.int k n)=gB 2 (xs[n.toNat]?):=ze8 Tryz.underlying30 (show zc8 Tryz.prog 42=some 2 from by kernel_rfl) xs o k
theorem Pe(r o l z:Nat){n:Int}(Z:0<=n)(k:IntKind):zdn Tryz.prog 30 (.sl r o l z) (.int k n)=bif decide (n.toNat<l)then some (.ptr r (o+n.toNat*2))else none:=ze9 Tryz.underlying30 (show zc8 Tryz.prog 42=some 2 from by kernel_rfl) r o l z Z k
theorem Pf(H:Hp)(xs:List (List AV)):zdu Tryz.prog H 30 (.lst xs)=some (.int .i64 xs.length):=ze7 Tryz.underlying30 xs
theorem Pg(H:Hp)(r o n z:Nat):zdu Tryz.prog H 30 (.sl r o n z)=some (.int .i64 n):=zeV Tryz.underlying30 r o n z
theorem Ph(H:Hp):zdu Tryz.prog H 30 .nilS=some (.int .i64 0):=zeW Tryz.underlying30
def ii:=ad @O9 (ad @Pb (ad @Pa (ad @Pc (ad @Pd (ad @Pe (ad @Pf (ad @Pg (@Ph))))))))
theorem E8:zc8 Tryz.prog 32=some 2:=af
theorem Pi:zdz Tryz.prog 32=some 48:=af
theorem Pj(cs:List AV)(o:Nat):zc1 Tryz.prog 32 cs o=zdA 2 (cs.drop o):=zeR Tryz.underlying32 rfl E8 cs o
theorem Pk:zdq Tryz.prog 32=some [.nilS,.nilS]:=af
theorem Pl(r o:Nat):zcZ Tryz.prog 32 (.ptr r o) 0=some (.ptr r (o+0)):=af
theorem Pm(cs:List AV):zcZ Tryz.prog 32 (.iptr cs) 0=some (.iptr (cs.drop 0)):=af
theorem Pn(cs:List AV):zdf Tryz.prog 32 (.agg cs) 0=zc1 Tryz.prog 30 cs 0:=af
theorem Po(r o:Nat):zcZ Tryz.prog 32 (.ptr r o) 1=some (.ptr r (o+1)):=af
theorem Pp(cs:List AV):zcZ Tryz.prog 32 (.iptr cs) 1=some (.iptr (cs.drop 1)):=af
theorem Pq(cs:List AV):zdf Tryz.prog 32 (.agg cs) 1=zc1 Tryz.prog 29 cs 1:=af
def jE:=ad @E8 (ad @Pj (ad @Pi (ad @Pk (ad @Pl (ad @Pm (ad @Pn (ad @Po (ad @Pp (@Pq)))))))))
theorem uJ:zc8 Tryz.prog 33=some 1:=af
theorem A1:zdz Tryz.prog 33=some 24:=af
theorem Ps(cs:List AV)(o:Nat):zc1 Tryz.prog 33 cs o=cs[o]?:=zei Tryz.underlying33 rfl cs o
theorem A2:zdq Tryz.prog 33=some [.nilS]:=af
theorem Pt(xs:List (List AV)){n:Int}(o:0<=n)(k:IntKind):zdn Tryz.prog 33 (.lst xs) (.int k n)=gB 1 (xs[n.toNat]?):=ze8 Tryz.underlying33 (show zc8 Tryz.prog 2=some 1 from by kernel_rfl) xs o k
theorem Pu(r o l z:Nat){n:Int}(Z:0<=n)(k:IntKind):zdn Tryz.prog 33 (.sl r o l z) (.int k n)=bif decide (n.toNat<l)then some (.ptr r (o+n.toNat*1))else none:=ze9 Tryz.underlying33 (show zc8 Tryz.prog 2=some 1 from by kernel_rfl) r o l z Z k
theorem Pv(H:Hp)(xs:List (List AV)):zdu Tryz.prog H 33 (.lst xs)=some (.int .i64 xs.length):=ze7 Tryz.underlying33 xs
theorem Pw(H:Hp)(r o n z:Nat):zdu Tryz.prog H 33 (.sl r o n z)=some (.int .i64 n):=zeV Tryz.underlying33 r o n z
theorem Px(H:Hp):zdu Tryz.prog H 33 .nilS=some (.int .i64 0):=zeW Tryz.underlying33
def ly:=ad @uJ (ad @Ps (ad @A1 (ad @A2 (ad @Pt (ad @Pu (ad @Pv (ad @Pw (@Px))))))))
theorem E9:zc8 Tryz.prog 35=some 4:=af
theorem Py:zdz Tryz.prog 35=some 48:=af
theorem Pz(cs:List AV)(o:Nat):zc1 Tryz.prog 35 cs o=zdA 4 (cs.drop o):=zeR Tryz.underlying35 rfl E9 cs o
theorem PA:zdq Tryz.prog 35=some [(.int .i64 0),(.int .i64 0),.nilS,(.int .i64 0)]:=af
theorem PB(r o:Nat):zcZ Tryz.prog 35 (.ptr r o) 0=some (.ptr r (o+0)):=af
theorem PC(cs:List AV):zcZ Tryz.prog 35 (.iptr cs) 0=some (.iptr (cs.drop 0)):=af
theorem PD(cs:List AV):zdf Tryz.prog 35 (.agg cs) 0=zc1 Tryz.prog 3 cs 0:=af
theorem PE(r o:Nat):zcZ Tryz.prog 35 (.ptr r o) 1=some (.ptr r (o+1)):=af
theorem PF(cs:List AV):zcZ Tryz.prog 35 (.iptr cs) 1=some (.iptr (cs.drop 1)):=af
theorem PG(cs:List AV):zdf Tryz.prog 35 (.agg cs) 1=zc1 Tryz.prog 3 cs 1:=af
theorem PH(r o:Nat):zcZ Tryz.prog 35 (.ptr r o) 2=some (.ptr r (o+2)):=af
theorem PI(cs:List AV):zcZ Tryz.prog 35 (.iptr cs) 2=some (.iptr (cs.drop 2)):=af
theorem PJ(cs:List AV):zdf Tryz.prog 35 (.agg cs) 2=zc1 Tryz.prog 33 cs 2:=af
theorem PK(r o:Nat):zcZ Tryz.prog 35 (.ptr r o) 3=some (.ptr r (o+3)):=af
theorem PL(cs:List AV):zcZ Tryz.prog 35 (.iptr cs) 3=some (.iptr (cs.drop 3)):=af
theorem PM(cs:List AV):zdf Tryz.prog 35 (.agg cs) 3=zc1 Tryz.prog 2 cs 3:=af
def A3:=ad @E9 (ad @Pz (ad @Py (ad @PA (ad @PB (ad @PC (ad @PD (ad @PE (ad @PF (ad @PG (ad @PH (ad @PI (ad @PJ (ad @PK (ad @PL (@PM)))))))))))))))
theorem Fa:zc8 Tryz.prog 42=some 2:=af
theorem PN:zdz Tryz.prog 42=some 24:=af
theorem PO(cs:List AV)(o:Nat):zc1 Tryz.prog 42 cs o=zdA 2 (cs.drop o):=zeR Tryz.underlying42 rfl Fa cs o
theorem PP:zdq Tryz.prog 42=some [(.str []),(.int .i64 0)]:=af
theorem PQ(r o:Nat):zcZ Tryz.prog 42 (.ptr r o) 0=some (.ptr r (o+0)):=af
theorem PR(cs:List AV):zcZ Tryz.prog 42 (.iptr cs) 0=some (.iptr (cs.drop 0)):=af
theorem PS(cs:List AV):zdf Tryz.prog 42 (.agg cs) 0=zc1 Tryz.prog 9 cs 0:=af
theorem PT(r o:Nat):zcZ Tryz.prog 42 (.ptr r o) 1=some (.ptr r (o+1)):=af
theorem PU(cs:List AV):zcZ Tryz.prog 42 (.iptr cs) 1=some (.iptr (cs.drop 1)):=af
theorem PV(cs:List AV):zdf Tryz.prog 42 (.agg cs) 1=zc1 Tryz.prog 3 cs 1:=af
def kJ:=ad @Fa (ad @PO (ad @PN (ad @PP (ad @PQ (ad @PR (ad @PS (ad @PT (ad @PU (@PV)))))))))
theorem PW:zc8 Tryz.prog 58=some 1:=af
theorem PX:zdz Tryz.prog 58=some 24:=af
theorem PY(cs:List AV)(o:Nat):zc1 Tryz.prog 58 cs o=cs[o]?:=zei Tryz.underlying58 rfl cs o
theorem PZ:zdq Tryz.prog 58=some [.nilS]:=af
theorem P0(xs:List (List AV)){n:Int}(o:0<=n)(k:IntKind):zdn Tryz.prog 58 (.lst xs) (.int k n)=gB 1 (xs[n.toNat]?):=ze8 Tryz.underlying58 (show zc8 Tryz.prog 33=some 1 from by kernel_rfl) xs o k
theorem P1(r o l z:Nat){n:Int}(Z:0<=n)(k:IntKind):zdn Tryz.prog 58 (.sl r o l z) (.int k n)=bif decide (n.toNat<l)then some (.ptr r (o+n.toNat*1))else none:=ze9 Tryz.underlying58 (show zc8 Tryz.prog 33=some 1 from by kernel_rfl) r o l z Z k
theorem P2(H:Hp)(xs:List (List AV)):zdu Tryz.prog H 58 (.lst xs)=some (.int .i64 xs.length):=ze7 Tryz.underlying58 xs
theorem P3(H:Hp)(r o n z:Nat):zdu Tryz.prog H 58 (.sl r o n z)=some (.int .i64 n):=zeV Tryz.underlying58 r o n z
theorem P4(H:Hp):zdu Tryz.prog H 58 .nilS=some (.int .i64 0):=zeW Tryz.underlying58
def sB:=ad @PW (ad @PY (ad @PX (ad @PZ (ad @P0 (ad @P1 (ad @P2 (ad @P3 (@P4))))))))
theorem P5:zc8 Tryz.prog 62=some 1:=af
theorem P6:zdz Tryz.prog 62=some 24:=af
theorem P7(cs:List AV)(o:Nat):zc1 Tryz.prog 62 cs o=cs[o]?:=zei Tryz.underlying62 rfl cs o
theorem P8:zdq Tryz.prog 62=some [.nilS]:=af
theorem P9(xs:List (List AV)){n:Int}(o:0<=n)(k:IntKind):zdn Tryz.prog 62 (.lst xs) (.int k n)=gB 9 (xs[n.toNat]?):=ze8 Tryz.underlying62 (show zc8 Tryz.prog 106=some 9 from by kernel_rfl) xs o k
theorem Qa(r o l z:Nat){n:Int}(Z:0<=n)(k:IntKind):zdn Tryz.prog 62 (.sl r o l z) (.int k n)=bif decide (n.toNat<l)then some (.ptr r (o+n.toNat*9))else none:=ze9 Tryz.underlying62 (show zc8 Tryz.prog 106=some 9 from by kernel_rfl) r o l z Z k
theorem Qb(H:Hp)(xs:List (List AV)):zdu Tryz.prog H 62 (.lst xs)=some (.int .i64 xs.length):=ze7 Tryz.underlying62 xs
theorem Qc(H:Hp)(r o n z:Nat):zdu Tryz.prog H 62 (.sl r o n z)=some (.int .i64 n):=zeV Tryz.underlying62 r o n z
theorem Qd(H:Hp):zdu Tryz.prog H 62 .nilS=some (.int .i64 0):=zeW Tryz.underlying62
def mP:=ad @P5 (ad @P7 (ad @P6 (ad @P8 (ad @P9 (ad @Qa (ad @Qb (ad @Qc (@Qd))))))))
theorem Fb:zc8 Tryz.prog 64=some 2:=af
theorem Qe:zdz Tryz.prog 64=some 48:=af
theorem Qf(cs:List AV)(o:Nat):zc1 Tryz.prog 64 cs o=zdA 2 (cs.drop o):=zeR Tryz.underlying64 rfl Fb cs o
theorem Qg:zdq Tryz.prog 64=some [.nilS,.nilS]:=af
theorem Qh(r o:Nat):zcZ Tryz.prog 64 (.ptr r o) 0=some (.ptr r (o+0)):=af
theorem Qi(cs:List AV):zcZ Tryz.prog 64 (.iptr cs) 0=some (.iptr (cs.drop 0)):=af
theorem Qj(cs:List AV):zdf Tryz.prog 64 (.agg cs) 0=zc1 Tryz.prog 30 cs 0:=af
theorem Qk(r o:Nat):zcZ Tryz.prog 64 (.ptr r o) 1=some (.ptr r (o+1)):=af
theorem Ql(cs:List AV):zcZ Tryz.prog 64 (.iptr cs) 1=some (.iptr (cs.drop 1)):=af
theorem Qm(cs:List AV):zdf Tryz.prog 64 (.agg cs) 1=zc1 Tryz.prog 62 cs 1:=af
def jY:=ad @Fb (ad @Qf (ad @Qe (ad @Qg (ad @Qh (ad @Qi (ad @Qj (ad @Qk (ad @Ql (@Qm)))))))))
theorem Qn:zc8 Tryz.prog 66=some 1:=af
theorem Qo:zdz Tryz.prog 66=some 8:=af
theorem Qp(cs:List AV)(o:Nat):zc1 Tryz.prog 66 cs o=cs[o]?:=zei Tryz.underlying66 rfl cs o
theorem Qq:zdq Tryz.prog 66=some [(.int .i64 0)]:=af
def sC:=ad @Qn (ad @Qp (ad @Qo (@Qq)))
theorem Qr:zc8 Tryz.prog 73=some 1:=af
theorem Qs:zdz Tryz.prog 73=some 24:=af
theorem Qt(cs:List AV)(o:Nat):zc1 Tryz.prog 73 cs o=cs[o]?:=zei Tryz.underlying73 rfl cs o
theorem Qu:zdq Tryz.prog 73=some [.nilS]:=af
theorem Qv(xs:List (List AV)){n:Int}(o:0<=n)(k:IntKind):zdn Tryz.prog 73 (.lst xs) (.int k n)=gB 1 (xs[n.toNat]?):=ze8 Tryz.underlying73 (show zc8 Tryz.prog 74=some 1 from by kernel_rfl) xs o k
theorem Qw(r o l z:Nat){n:Int}(Z:0<=n)(k:IntKind):zdn Tryz.prog 73 (.sl r o l z) (.int k n)=bif decide (n.toNat<l)then some (.ptr r (o+n.toNat*1))else none:=ze9 Tryz.underlying73 (show zc8 Tryz.prog 74=some 1 from by kernel_rfl) r o l z Z k
theorem Qx(H:Hp)(xs:List (List AV)):zdu Tryz.prog H 73 (.lst xs)=some (.int .i64 xs.length):=ze7 Tryz.underlying73 xs
theorem Qy(H:Hp)(r o n z:Nat):zdu Tryz.prog H 73 (.sl r o n z)=some (.int .i64 n):=zeV Tryz.underlying73 r o n z
theorem Qz(H:Hp):zdu Tryz.prog H 73 .nilS=some (.int .i64 0):=zeW Tryz.underlying73
def oS:=ad @Qr (ad @Qt (ad @Qs (ad @Qu (ad @Qv (ad @Qw (ad @Qx (ad @Qy (@Qz))))))))
theorem Fc:zc8 Tryz.prog 74=some 1:=af
theorem Fe:zdz Tryz.prog 74=some 24:=af
theorem QA(cs:List AV)(o:Nat):zc1 Tryz.prog 74 cs o=cs[o]?:=zei Tryz.underlying74 rfl cs o
theorem Ff:zdq Tryz.prog 74=some [.nilS]:=af
theorem QB(xs:List (List AV)){n:Int}(o:0<=n)(k:IntKind):zdn Tryz.prog 74 (.lst xs) (.int k n)=gB 1 (xs[n.toNat]?):=ze8 Tryz.underlying74 (show zc8 Tryz.prog 125=some 1 from by kernel_rfl) xs o k
theorem QC(r o l z:Nat){n:Int}(Z:0<=n)(k:IntKind):zdn Tryz.prog 74 (.sl r o l z) (.int k n)=bif decide (n.toNat<l)then some (.ptr r (o+n.toNat*1))else none:=ze9 Tryz.underlying74 (show zc8 Tryz.prog 125=some 1 from by kernel_rfl) r o l z Z k
theorem QD(H:Hp)(xs:List (List AV)):zdu Tryz.prog H 74 (.lst xs)=some (.int .i64 xs.length):=ze7 Tryz.underlying74 xs
theorem QE(H:Hp)(r o n z:Nat):zdu Tryz.prog H 74 (.sl r o n z)=some (.int .i64 n):=zeV Tryz.underlying74 r o n z
theorem QF(H:Hp):zdu Tryz.prog H 74 .nilS=some (.int .i64 0):=zeW Tryz.underlying74
def xm:=ad @Fc (ad @QA (ad @Fe (ad @Ff (ad @QB (ad @QC (ad @QD (ad @QE (@QF))))))))
theorem QG:zc8 Tryz.prog 76=some 1:=af
theorem QH:zdz Tryz.prog 76=some 8:=af
theorem QI(cs:List AV)(o:Nat):zc1 Tryz.prog 76 cs o=cs[o]?:=zei Tryz.underlying76 rfl cs o
theorem QJ:zdq Tryz.prog 76=some [.nilP]:=af
def qz:=ad @QG (ad @QI (ad @QH (@QJ)))
theorem QK:zc8 Tryz.prog 77=some 1:=af
theorem QL:zdz Tryz.prog 77=some 8:=af
theorem QM(cs:List AV)(o:Nat):zc1 Tryz.prog 77 cs o=cs[o]?:=zei Tryz.underlying77 rfl cs o
theorem QN:zdq Tryz.prog 77=some [.nilP]:=af
def qA:=ad @QK (ad @QM (ad @QL (@QN)))
theorem Fg:zc8 Tryz.prog 79=some 6:=af
theorem QO:zdz Tryz.prog 79=some 64:=af
theorem QP(cs:List AV)(o:Nat):zc1 Tryz.prog 79 cs o=zdA 6 (cs.drop o):=zeR Tryz.underlying79 rfl Fg cs o
theorem QQ:zdq Tryz.prog 79=some [.nilS,.nilP,(.int .i64 0),(.int .i64 0),(.int .i64 0),(.int .i64 0)]:=af
theorem QR(r o:Nat):zcZ Tryz.prog 79 (.ptr r o) 0=some (.ptr r (o+0)):=af
theorem QS(cs:List AV):zcZ Tryz.prog 79 (.iptr cs) 0=some (.iptr (cs.drop 0)):=af
theorem QT(cs:List AV):zdf Tryz.prog 79 (.agg cs) 0=zc1 Tryz.prog 58 cs 0:=af
theorem QU(r o:Nat):zcZ Tryz.prog 79 (.ptr r o) 1=some (.ptr r (o+1)):=af
theorem QV(cs:List AV):zcZ Tryz.prog 79 (.iptr cs) 1=some (.iptr (cs.drop 1)):=af
theorem QW(cs:List AV):zdf Tryz.prog 79 (.agg cs) 1=zc1 Tryz.prog 77 cs 1:=af
theorem QX(r o:Nat):zcZ Tryz.prog 79 (.ptr r o) 2=some (.ptr r (o+2)):=af
theorem QY(cs:List AV):zcZ Tryz.prog 79 (.iptr cs) 2=some (.iptr (cs.drop 2)):=af
theorem QZ(cs:List AV):zdf Tryz.prog 79 (.agg cs) 2=zc1 Tryz.prog 3 cs 2:=af
theorem Q0(r o:Nat):zcZ Tryz.prog 79 (.ptr r o) 3=some (.ptr r (o+3)):=af
theorem Q1(cs:List AV):zcZ Tryz.prog 79 (.iptr cs) 3=some (.iptr (cs.drop 3)):=af
theorem Q3(cs:List AV):zdf Tryz.prog 79 (.agg cs) 3=zc1 Tryz.prog 3 cs 3:=af
theorem Q4(r o:Nat):zcZ Tryz.prog 79 (.ptr r o) 4=some (.ptr r (o+4)):=af
theorem Q5(cs:List AV):zcZ Tryz.prog 79 (.iptr cs) 4=some (.iptr (cs.drop 4)):=af
theorem Q6(cs:List AV):zdf Tryz.prog 79 (.agg cs) 4=zc1 Tryz.prog 3 cs 4:=af
theorem Q7(r o:Nat):zcZ Tryz.prog 79 (.ptr r o) 5=some (.ptr r (o+5)):=af
theorem Q8(cs:List AV):zcZ Tryz.prog 79 (.iptr cs) 5=some (.iptr (cs.drop 5)):=af
theorem Q9(cs:List AV):zdf Tryz.prog 79 (.agg cs) 5=zc1 Tryz.prog 2 cs 5:=af
def sD:=ad @Fg (ad @QP (ad @QO (ad @QQ (ad @QR (ad @QS (ad @QT (ad @QU (ad @QV (ad @QW (ad @QX (ad @QY (ad @QZ (ad @Q0 (ad @Q1 (ad @Q3 (ad @Q4 (ad @Q5 (ad @Q6 (ad @Q7 (ad @Q8 (@Q9)))))))))))))))))))))
theorem Fh:zc8 Tryz.prog 86=some 2:=af
theorem Ra:zdz Tryz.prog 86=some 16:=af
theorem Rb(cs:List AV)(o:Nat):zc1 Tryz.prog 86 cs o=zdA 2 (cs.drop o):=zeR Tryz.underlying86 rfl Fh cs o
theorem Rd:zdq Tryz.prog 86=some [(.int .i64 0),(.int .i64 0)]:=af
theorem Re(r o:Nat):zcZ Tryz.prog 86 (.ptr r o) 0=some (.ptr r (o+0)):=af
theorem Rf(cs:List AV):zcZ Tryz.prog 86 (.iptr cs) 0=some (.iptr (cs.drop 0)):=af
theorem Rg(cs:List AV):zdf Tryz.prog 86 (.agg cs) 0=zc1 Tryz.prog 66 cs 0:=af
theorem Rh(r o:Nat):zcZ Tryz.prog 86 (.ptr r o) 1=some (.ptr r (o+1)):=af
theorem Ri(cs:List AV):zcZ Tryz.prog 86 (.iptr cs) 1=some (.iptr (cs.drop 1)):=af
theorem Rj(cs:List AV):zdf Tryz.prog 86 (.agg cs) 1=zc1 Tryz.prog 3 cs 1:=af
def A4:=ad @Fh (ad @Rb (ad @Ra (ad @Rd (ad @Re (ad @Rf (ad @Rg (ad @Rh (ad @Ri (@Rj)))))))))
theorem Fi:zc8 Tryz.prog 93=some 2:=af
theorem Rk:zdz Tryz.prog 93=some 32:=af
theorem Rl(cs:List AV)(o:Nat):zc1 Tryz.prog 93 cs o=zdA 2 (cs.drop o):=zeR Tryz.underlying93 rfl Fi cs o
theorem Rm:zdq Tryz.prog 93=some [.nilS,(.int .i64 0)]:=af
theorem Rn(r o:Nat):zcZ Tryz.prog 93 (.ptr r o) 0=some (.ptr r (o+0)):=af
theorem Ro(cs:List AV):zcZ Tryz.prog 93 (.iptr cs) 0=some (.iptr (cs.drop 0)):=af
theorem Rp(cs:List AV):zdf Tryz.prog 93 (.agg cs) 0=zc1 Tryz.prog 23 cs 0:=af
theorem Rq(r o:Nat):zcZ Tryz.prog 93 (.ptr r o) 1=some (.ptr r (o+1)):=af
theorem Rr(cs:List AV):zcZ Tryz.prog 93 (.iptr cs) 1=some (.iptr (cs.drop 1)):=af
theorem Rt(cs:List AV):zdf Tryz.prog 93 (.agg cs) 1=zc1 Tryz.prog 3 cs 1:=af
def Ru:=ad @Fi (ad @Rl (ad @Rk (ad @Rm (ad @Rn (ad @Ro (ad @Rp (ad @Rq (ad @Rr (@Rt)))))))))
theorem Rv:zc8 Tryz.prog 100=some 1:=af
theorem Rw:zdz Tryz.prog 100=some 24:=af
theorem Rz(cs:List AV)(o:Nat):zc1 Tryz.prog 100 cs o=cs[o]?:=zei Tryz.underlying100 rfl cs o
theorem RA:zdq Tryz.prog 100=some [.nilS]:=af
theorem RB(xs:List (List AV)){n:Int}(o:0<=n)(k:IntKind):zdn Tryz.prog 100 (.lst xs) (.int k n)=gB 1 (xs[n.toNat]?):=ze8 Tryz.underlying100 (show zc8 Tryz.prog 9=some 1 from by kernel_rfl) xs o k
theorem RC(r o l z:Nat){n:Int}(Z:0<=n)(k:IntKind):zdn Tryz.prog 100 (.sl r o l z) (.int k n)=bif decide (n.toNat<l)then some (.ptr r (o+n.toNat*1))else none:=ze9 Tryz.underlying100 (show zc8 Tryz.prog 9=some 1 from by kernel_rfl) r o l z Z k
theorem RD(H:Hp)(xs:List (List AV)):zdu Tryz.prog H 100 (.lst xs)=some (.int .i64 xs.length):=ze7 Tryz.underlying100 xs
theorem RE(H:Hp)(r o n z:Nat):zdu Tryz.prog H 100 (.sl r o n z)=some (.int .i64 n):=zeV Tryz.underlying100 r o n z
theorem RF(H:Hp):zdu Tryz.prog H 100 .nilS=some (.int .i64 0):=zeW Tryz.underlying100
def jZ:=ad @Rv (ad @Rz (ad @Rw (ad @RA (ad @RB (ad @RC (ad @RD (ad @RE (@RF))))))))
theorem RG:zc8 Tryz.prog 101=some 1:=af
theorem RH:zdz Tryz.prog 101=some 24:=af
theorem RI(cs:List AV)(o:Nat):zc1 Tryz.prog 101 cs o=cs[o]?:=zei Tryz.underlying101 rfl cs o
theorem RJ:zdq Tryz.prog 101=some [.nilS]:=af
theorem RK(xs:List (List AV)){n:Int}(o:0<=n)(k:IntKind):zdn Tryz.prog 101 (.lst xs) (.int k n)=gB 17 (xs[n.toNat]?):=ze8 Tryz.underlying101 (show zc8 Tryz.prog 157=some 17 from by kernel_rfl) xs o k
theorem RL(r o l z:Nat){n:Int}(Z:0<=n)(k:IntKind):zdn Tryz.prog 101 (.sl r o l z) (.int k n)=bif decide (n.toNat<l)then some (.ptr r (o+n.toNat*17))else none:=ze9 Tryz.underlying101 (show zc8 Tryz.prog 157=some 17 from by kernel_rfl) r o l z Z k
theorem RM(H:Hp)(xs:List (List AV)):zdu Tryz.prog H 101 (.lst xs)=some (.int .i64 xs.length):=ze7 Tryz.underlying101 xs
theorem RN(H:Hp)(r o n z:Nat):zdu Tryz.prog H 101 (.sl r o n z)=some (.int .i64 n):=zeV Tryz.underlying101 r o n z
theorem RO(H:Hp):zdu Tryz.prog H 101 .nilS=some (.int .i64 0):=zeW Tryz.underlying101
def iG:=ad @RG (ad @RI (ad @RH (ad @RJ (ad @RK (ad @RL (ad @RM (ad @RN (@RO))))))))
theorem RP:zc8 Tryz.prog 102=some 1:=af
theorem RQ:zdz Tryz.prog 102=some 24:=af
theorem RR(cs:List AV)(o:Nat):zc1 Tryz.prog 102 cs o=cs[o]?:=zei Tryz.underlying102 rfl cs o
theorem RS:zdq Tryz.prog 102=some [.nilS]:=af
theorem RT(xs:List (List AV)){n:Int}(o:0<=n)(k:IntKind):zdn Tryz.prog 102 (.lst xs) (.int k n)=gB 5 (xs[n.toNat]?):=ze8 Tryz.underlying102 (show zc8 Tryz.prog 104=some 5 from by kernel_rfl) xs o k
theorem RU(r o l z:Nat){n:Int}(Z:0<=n)(k:IntKind):zdn Tryz.prog 102 (.sl r o l z) (.int k n)=bif decide (n.toNat<l)then some (.ptr r (o+n.toNat*5))else none:=ze9 Tryz.underlying102 (show zc8 Tryz.prog 104=some 5 from by kernel_rfl) r o l z Z k
theorem RV(H:Hp)(xs:List (List AV)):zdu Tryz.prog H 102 (.lst xs)=some (.int .i64 xs.length):=ze7 Tryz.underlying102 xs
theorem RW(H:Hp)(r o n z:Nat):zdu Tryz.prog H 102 (.sl r o n z)=some (.int .i64 n):=zeV Tryz.underlying102 r o n z
theorem RX(H:Hp):zdu Tryz.prog H 102 .nilS=some (.int .i64 0):=zeW Tryz.underlying102
def iH:=ad @RP (ad @RR (ad @RQ (ad @RS (ad @RT (ad @RU (ad @RV (ad @RW (@RX))))))))
theorem Fj:zc8 Tryz.prog 104=some 5:=af
theorem RY:zdz Tryz.prog 104=some 64:=af
theorem RZ(cs:List AV)(o:Nat):zc1 Tryz.prog 104 cs o=zdA 5 (cs.drop o):=zeR Tryz.underlying104 rfl Fj cs o
theorem R0:zdq Tryz.prog 104=some [(.int .i64 0),(.int .i64 0),(.str []),(.int .i64 0),.nilS]:=af
theorem R1(r o:Nat):zcZ Tryz.prog 104 (.ptr r o) 0=some (.ptr r (o+0)):=af
theorem R2(cs:List AV):zcZ Tryz.prog 104 (.iptr cs) 0=some (.iptr (cs.drop 0)):=af
theorem R3(cs:List AV):zdf Tryz.prog 104 (.agg cs) 0=zc1 Tryz.prog 3 cs 0:=af
theorem R8(r o:Nat):zcZ Tryz.prog 104 (.ptr r o) 1=some (.ptr r (o+1)):=af
theorem Sa(cs:List AV):zcZ Tryz.prog 104 (.iptr cs) 1=some (.iptr (cs.drop 1)):=af
theorem Sb(cs:List AV):zdf Tryz.prog 104 (.agg cs) 1=zc1 Tryz.prog 2 cs 1:=af
theorem Sd(r o:Nat):zcZ Tryz.prog 104 (.ptr r o) 2=some (.ptr r (o+2)):=af
theorem Se(cs:List AV):zcZ Tryz.prog 104 (.iptr cs) 2=some (.iptr (cs.drop 2)):=af
theorem Sf(cs:List AV):zdf Tryz.prog 104 (.agg cs) 2=zc1 Tryz.prog 9 cs 2:=af
theorem Sg(r o:Nat):zcZ Tryz.prog 104 (.ptr r o) 3=some (.ptr r (o+3)):=af
theorem Sh(cs:List AV):zcZ Tryz.prog 104 (.iptr cs) 3=some (.iptr (cs.drop 3)):=af
theorem Si(cs:List AV):zdf Tryz.prog 104 (.agg cs) 3=zc1 Tryz.prog 3 cs 3:=af
theorem Sj(r o:Nat):zcZ Tryz.prog 104 (.ptr r o) 4=some (.ptr r (o+4)):=af
theorem Sk(cs:List AV):zcZ Tryz.prog 104 (.iptr cs) 4=some (.iptr (cs.drop 4)):=af
theorem Sl(cs:List AV):zdf Tryz.prog 104 (.agg cs) 4=zc1 Tryz.prog 102 cs 4:=af
def gC:=ad @Fj (ad @RZ (ad @RY (ad @R0 (ad @R1 (ad @R2 (ad @R3 (ad @R8 (ad @Sa (ad @Sb (ad @Sd (ad @Se (ad @Sf (ad @Sg (ad @Sh (ad @Si (ad @Sj (ad @Sk (@Sl))))))))))))))))))
theorem A5:zc8 Tryz.prog 106=some 9:=af
theorem Fk:zdz Tryz.prog 106=some 152:=af
theorem Sn(cs:List AV)(o:Nat):zc1 Tryz.prog 106 cs o=zdA 9 (cs.drop o):=zeR Tryz.underlying106 rfl A5 cs o
theorem Fl:zdq Tryz.prog 106=some [(.str []),.nilS,.nilS,.nilS,(.int .i64 0),(.int .i64 0),(.str []),(.int .i64 0),.nilS]:=af
theorem So(r o:Nat):zcZ Tryz.prog 106 (.ptr r o) 0=some (.ptr r (o+0)):=af
theorem Sp(cs:List AV):zcZ Tryz.prog 106 (.iptr cs) 0=some (.iptr (cs.drop 0)):=af
theorem Sq(cs:List AV):zdf Tryz.prog 106 (.agg cs) 0=zc1 Tryz.prog 9 cs 0:=af
theorem Sr(r o:Nat):zcZ Tryz.prog 106 (.ptr r o) 1=some (.ptr r (o+1)):=af
theorem Ss(cs:List AV):zcZ Tryz.prog 106 (.iptr cs) 1=some (.iptr (cs.drop 1)):=af
theorem Su(cs:List AV):zdf Tryz.prog 106 (.agg cs) 1=zc1 Tryz.prog 100 cs 1:=af
theorem Sv(r o:Nat):zcZ Tryz.prog 106 (.ptr r o) 2=some (.ptr r (o+2)):=af
theorem Sw(cs:List AV):zcZ Tryz.prog 106 (.iptr cs) 2=some (.iptr (cs.drop 2)):=af
theorem Sy(cs:List AV):zdf Tryz.prog 106 (.agg cs) 2=zc1 Tryz.prog 100 cs 2:=af
theorem Sz(r o:Nat):zcZ Tryz.prog 106 (.ptr r o) 3=some (.ptr r (o+3)):=af
theorem SA(cs:List AV):zcZ Tryz.prog 106 (.iptr cs) 3=some (.iptr (cs.drop 3)):=af
theorem SB(cs:List AV):zdf Tryz.prog 106 (.agg cs) 3=zc1 Tryz.prog 101 cs 3:=af
theorem SD(r o:Nat):zcZ Tryz.prog 106 (.ptr r o) 4=some (.ptr r (o+4)):=af
theorem SE(cs:List AV):zcZ Tryz.prog 106 (.iptr cs) 4=some (.iptr (cs.drop 4)):=af
theorem SF(cs:List AV):zdf Tryz.prog 106 (.agg cs) 4=zc1 Tryz.prog 104 cs 4:=af
def mQ:=ad @A5 (ad @Sn (ad @Fk (ad @Fl (ad @So (ad @Sp (ad @Sq (ad @Sr (ad @Ss (ad @Su (ad @Sv (ad @Sw (ad @Sy (ad @Sz (ad @SA (ad @SB (ad @SD (ad @SE (@SF))))))))))))))))))
theorem SG:zc8 Tryz.prog 110=some 1:=af
theorem SH:zdz Tryz.prog 110=some 8:=af
theorem SI(cs:List AV)(o:Nat):zc1 Tryz.prog 110 cs o=cs[o]?:=zei Tryz.underlying110 rfl cs o
theorem SJ:zdq Tryz.prog 110=some [.nilM]:=af
def qB:=ad @SG (ad @SI (ad @SH (@SJ)))
theorem Fm:zc8 Tryz.prog 113=some 10:=af
theorem SK:zdz Tryz.prog 113=some 144:=af
theorem SL(cs:List AV)(o:Nat):zc1 Tryz.prog 113 cs o=zdA 10 (cs.drop o):=zeR Tryz.underlying113 rfl Fm cs o
theorem SM:zdq Tryz.prog 113=some [.nilS,.nilS,.nilM,.nilM,.nilS,.nilM,.nilM,.nilS,(.int .i64 0),(.int .i64 0)]:=af
theorem SN(r o:Nat):zcZ Tryz.prog 113 (.ptr r o) 0=some (.ptr r (o+0)):=af
theorem SO(cs:List AV):zcZ Tryz.prog 113 (.iptr cs) 0=some (.iptr (cs.drop 0)):=af
theorem SP(cs:List AV):zdf Tryz.prog 113 (.agg cs) 0=zc1 Tryz.prog 64 cs 0:=af
theorem SQ(r o:Nat):zcZ Tryz.prog 113 (.ptr r o) 1=some (.ptr r (o+2)):=af
theorem SR(cs:List AV):zcZ Tryz.prog 113 (.iptr cs) 1=some (.iptr (cs.drop 2)):=af
theorem SS(cs:List AV):zdf Tryz.prog 113 (.agg cs) 1=zc1 Tryz.prog 110 cs 2:=af
theorem SU(r o:Nat):zcZ Tryz.prog 113 (.ptr r o) 2=some (.ptr r (o+3)):=af
theorem SV(cs:List AV):zcZ Tryz.prog 113 (.iptr cs) 2=some (.iptr (cs.drop 3)):=af
theorem SW(cs:List AV):zdf Tryz.prog 113 (.agg cs) 2=zc1 Tryz.prog 110 cs 3:=af
theorem SX(r o:Nat):zcZ Tryz.prog 113 (.ptr r o) 3=some (.ptr r (o+4)):=af
theorem SY(cs:List AV):zcZ Tryz.prog 113 (.iptr cs) 3=some (.iptr (cs.drop 4)):=af
theorem SZ(cs:List AV):zdf Tryz.prog 113 (.agg cs) 3=zc1 Tryz.prog 26 cs 4:=af
theorem S0(r o:Nat):zcZ Tryz.prog 113 (.ptr r o) 4=some (.ptr r (o+5)):=af
theorem S1(cs:List AV):zcZ Tryz.prog 113 (.iptr cs) 4=some (.iptr (cs.drop 5)):=af
theorem S7(cs:List AV):zdf Tryz.prog 113 (.agg cs) 4=zc1 Tryz.prog 110 cs 5:=af
theorem S8(r o:Nat):zcZ Tryz.prog 113 (.ptr r o) 5=some (.ptr r (o+6)):=af
theorem Ta(cs:List AV):zcZ Tryz.prog 113 (.iptr cs) 5=some (.iptr (cs.drop 6)):=af
theorem Tb(cs:List AV):zdf Tryz.prog 113 (.agg cs) 5=zc1 Tryz.prog 110 cs 6:=af
theorem Tc(r o:Nat):zcZ Tryz.prog 113 (.ptr r o) 6=some (.ptr r (o+7)):=af
theorem Td(cs:List AV):zcZ Tryz.prog 113 (.iptr cs) 6=some (.iptr (cs.drop 7)):=af
theorem Te(cs:List AV):zdf Tryz.prog 113 (.agg cs) 6=zc1 Tryz.prog 23 cs 7:=af
theorem Tf(r o:Nat):zcZ Tryz.prog 113 (.ptr r o) 7=some (.ptr r (o+8)):=af
theorem Tg(cs:List AV):zcZ Tryz.prog 113 (.iptr cs) 7=some (.iptr (cs.drop 8)):=af
theorem Th(cs:List AV):zdf Tryz.prog 113 (.agg cs) 7=zc1 Tryz.prog 3 cs 8:=af
theorem Ti(r o:Nat):zcZ Tryz.prog 113 (.ptr r o) 8=some (.ptr r (o+9)):=af
theorem Tj(cs:List AV):zcZ Tryz.prog 113 (.iptr cs) 8=some (.iptr (cs.drop 9)):=af
theorem Tl(cs:List AV):zdf Tryz.prog 113 (.agg cs) 8=zc1 Tryz.prog 3 cs 9:=af
def uK:=ad @Fm (ad @SL (ad @SK (ad @SM (ad @SN (ad @SO (ad @SP (ad @SQ (ad @SR (ad @SS (ad @SU (ad @SV (ad @SW (ad @SX (ad @SY (ad @SZ (ad @S0 (ad @S1 (ad @S7 (ad @S8 (ad @Ta (ad @Tb (ad @Tc (ad @Td (ad @Te (ad @Tf (ad @Tg (ad @Th (ad @Ti (ad @Tj (@Tl))))))))))))))))))))))))))))))
theorem xn:zc8 Tryz.prog 121=some 1:=af
theorem A6:zdz Tryz.prog 121=some 24:=af
theorem Tm(cs:List AV)(o:Nat):zc1 Tryz.prog 121 cs o=cs[o]?:=zei Tryz.underlying121 rfl cs o
theorem A7:zdq Tryz.prog 121=some [.nilS]:=af
theorem Tn(xs:List (List AV)){n:Int}(o:0<=n)(k:IntKind):zdn Tryz.prog 121 (.lst xs) (.int k n)=gB 1 (xs[n.toNat]?):=ze8 Tryz.underlying121 (show zc8 Tryz.prog 4=some 1 from by kernel_rfl) xs o k
theorem To(r o l z:Nat){n:Int}(Z:0<=n)(k:IntKind):zdn Tryz.prog 121 (.sl r o l z) (.int k n)=bif decide (n.toNat<l)then some (.ptr r (o+n.toNat*1))else none:=ze9 Tryz.underlying121 (show zc8 Tryz.prog 4=some 1 from by kernel_rfl) r o l z Z k
theorem Tp(H:Hp)(xs:List (List AV)):zdu Tryz.prog H 121 (.lst xs)=some (.int .i64 xs.length):=ze7 Tryz.underlying121 xs
theorem Tq(H:Hp)(r o n z:Nat):zdu Tryz.prog H 121 (.sl r o n z)=some (.int .i64 n):=zeV Tryz.underlying121 r o n z
theorem Tr(H:Hp):zdu Tryz.prog H 121 .nilS=some (.int .i64 0):=zeW Tryz.underlying121
def xo:=ad @xn (ad @Tm (ad @A6 (ad @A7 (ad @Tn (ad @To (ad @Tp (ad @Tq (@Tr))))))))
theorem Ts:zc8 Tryz.prog 123=some 1:=af
theorem Tt:zdz Tryz.prog 123=some 24:=af
theorem Tu(cs:List AV)(o:Nat):zc1 Tryz.prog 123 cs o=cs[o]?:=zei Tryz.underlying123 rfl cs o
theorem Tv:zdq Tryz.prog 123=some [.nilS]:=af
theorem Tw(xs:List (List AV)){n:Int}(o:0<=n)(k:IntKind):zdn Tryz.prog 123 (.lst xs) (.int k n)=gB 1 (xs[n.toNat]?):=ze8 Tryz.underlying123 (show zc8 Tryz.prog 121=some 1 from by kernel_rfl) xs o k
theorem Tx(r o l z:Nat){n:Int}(Z:0<=n)(k:IntKind):zdn Tryz.prog 123 (.sl r o l z) (.int k n)=bif decide (n.toNat<l)then some (.ptr r (o+n.toNat*1))else none:=ze9 Tryz.underlying123 (show zc8 Tryz.prog 121=some 1 from by kernel_rfl) r o l z Z k
theorem Ty(H:Hp)(xs:List (List AV)):zdu Tryz.prog H 123 (.lst xs)=some (.int .i64 xs.length):=ze7 Tryz.underlying123 xs
theorem Tz(H:Hp)(r o n z:Nat):zdu Tryz.prog H 123 (.sl r o n z)=some (.int .i64 n):=zeV Tryz.underlying123 r o n z
theorem TA(H:Hp):zdu Tryz.prog H 123 .nilS=some (.int .i64 0):=zeW Tryz.underlying123
def Fo:=ad @Ts (ad @Tu (ad @Tt (ad @Tv (ad @Tw (ad @Tx (ad @Ty (ad @Tz (@TA))))))))
theorem xq:zc8 Tryz.prog 125=some 1:=af
theorem Fp:zdz Tryz.prog 125=some 4:=af
theorem TB(cs:List AV)(o:Nat):zc1 Tryz.prog 125 cs o=cs[o]?:=zei Tryz.underlying125 rfl cs o
theorem Fq:zdq Tryz.prog 125=some [(.int .u32 0)]:=af
def A8:=ad @xq (ad @TB (ad @Fp (@Fq)))
theorem TC:zc8 Tryz.prog 126=some 1:=af
theorem TD:zdz Tryz.prog 126=some 8:=af
theorem TE(cs:List AV)(o:Nat):zc1 Tryz.prog 126 cs o=cs[o]?:=zei Tryz.underlying126 rfl cs o
theorem TF:zdq Tryz.prog 126=some [(.int .u64 0)]:=af
def uL:=ad @TC (ad @TE (ad @TD (@TF)))
theorem TG:zc8 Tryz.prog 127=some 1:=af
theorem TH:zdz Tryz.prog 127=some 24:=af
theorem TI(cs:List AV)(o:Nat):zc1 Tryz.prog 127 cs o=cs[o]?:=zei Tryz.underlying127 rfl cs o
theorem TJ:zdq Tryz.prog 127=some [.nilS]:=af
theorem TK(xs:List (List AV)){n:Int}(o:0<=n)(k:IntKind):zdn Tryz.prog 127 (.lst xs) (.int k n)=gB 4 (xs[n.toNat]?):=ze8 Tryz.underlying127 (show zc8 Tryz.prog 134=some 4 from by kernel_rfl) xs o k
theorem TL(r o l z:Nat){n:Int}(Z:0<=n)(k:IntKind):zdn Tryz.prog 127 (.sl r o l z) (.int k n)=bif decide (n.toNat<l)then some (.ptr r (o+n.toNat*4))else none:=ze9 Tryz.underlying127 (show zc8 Tryz.prog 134=some 4 from by kernel_rfl) r o l z Z k
theorem TM(H:Hp)(xs:List (List AV)):zdu Tryz.prog H 127 (.lst xs)=some (.int .i64 xs.length):=ze7 Tryz.underlying127 xs
theorem TN(H:Hp)(r o n z:Nat):zdu Tryz.prog H 127 (.sl r o n z)=some (.int .i64 n):=zeV Tryz.underlying127 r o n z
theorem TO(H:Hp):zdu Tryz.prog H 127 .nilS=some (.int .i64 0):=zeW Tryz.underlying127
def qC:=ad @TG (ad @TI (ad @TH (ad @TJ (ad @TK (ad @TL (ad @TM (ad @TN (@TO))))))))
theorem TP:zc8 Tryz.prog 128=some 1:=af
theorem TQ:zdz Tryz.prog 128=some 8:=af
theorem TS(cs:List AV)(o:Nat):zc1 Tryz.prog 128 cs o=cs[o]?:=zei Tryz.underlying128 rfl cs o
theorem TT:zdq Tryz.prog 128=some [.nilP]:=af
def sE:=ad @TP (ad @TS (ad @TQ (@TT)))
theorem Fs:zc8 Tryz.prog 129=some 16:=af
theorem TU:zdz Tryz.prog 129=some 128:=af
theorem TV(cs:List AV)(o:Nat):zc1 Tryz.prog 129 cs o=zdA 16 (cs.drop o):=zeR Tryz.underlying129 rfl Fs cs o
theorem TW:zdq Tryz.prog 129=some [.nilP,.nilP,.nilP,.nilP,.nilP,.nilP,.nilP,.nilP,.nilP,.nilP,.nilP,.nilP,.nilP,.nilP,.nilP,.nilP]:=af
def qD:=ad @Fs (ad @TV (ad @TU (@TW)))
theorem Ft:zc8 Tryz.prog 131=some 23:=af
theorem TX:zdz Tryz.prog 131=some 264:=af
theorem TY(cs:List AV)(o:Nat):zc1 Tryz.prog 131 cs o=zdA 23 (cs.drop o):=zeR Tryz.underlying131 rfl Ft cs o
theorem TZ:zdq Tryz.prog 131=some [.nilS,.nilS,.nilS,(.int .i64 0),.nilP,.nilS,.nilS,.nilP,.nilP,.nilP,.nilP,.nilP,.nilP,.nilP,.nilP,.nilP,.nilP,.nilP,.nilP,.nilP,.nilP,.nilP,.nilP]:=af
theorem T0(r o:Nat):zcZ Tryz.prog 131 (.ptr r o) 0=some (.ptr r (o+0)):=af
theorem T1(cs:List AV):zcZ Tryz.prog 131 (.iptr cs) 0=some (.iptr (cs.drop 0)):=af
theorem T2(cs:List AV):zdf Tryz.prog 131 (.agg cs) 0=zc1 Tryz.prog 32 cs 0:=af
theorem T3(r o:Nat):zcZ Tryz.prog 131 (.ptr r o) 1=some (.ptr r (o+2)):=af
theorem T4(cs:List AV):zcZ Tryz.prog 131 (.iptr cs) 1=some (.iptr (cs.drop 2)):=af
theorem T5(cs:List AV):zdf Tryz.prog 131 (.agg cs) 1=zc1 Tryz.prog 73 cs 2:=af
theorem T6(r o:Nat):zcZ Tryz.prog 131 (.ptr r o) 2=some (.ptr r (o+3)):=af
theorem T7(cs:List AV):zcZ Tryz.prog 131 (.iptr cs) 2=some (.iptr (cs.drop 3)):=af
theorem T8(cs:List AV):zdf Tryz.prog 131 (.agg cs) 2=zc1 Tryz.prog 3 cs 3:=af
theorem T9(r o:Nat):zcZ Tryz.prog 131 (.ptr r o) 3=some (.ptr r (o+4)):=af
theorem Ua(cs:List AV):zcZ Tryz.prog 131 (.iptr cs) 3=some (.iptr (cs.drop 4)):=af
theorem Ub(cs:List AV):zdf Tryz.prog 131 (.agg cs) 3=zc1 Tryz.prog 76 cs 4:=af
theorem Uc(r o:Nat):zcZ Tryz.prog 131 (.ptr r o) 4=some (.ptr r (o+5)):=af
theorem Ud(cs:List AV):zcZ Tryz.prog 131 (.iptr cs) 4=some (.iptr (cs.drop 5)):=af
theorem Ue(cs:List AV):zdf Tryz.prog 131 (.agg cs) 4=zc1 Tryz.prog 33 cs 5:=af
theorem Uf(r o:Nat):zcZ Tryz.prog 131 (.ptr r o) 5=some (.ptr r (o+6)):=af
theorem Ug(cs:List AV):zcZ Tryz.prog 131 (.iptr cs) 5=some (.iptr (cs.drop 6)):=af
theorem Uh(cs:List AV):zdf Tryz.prog 131 (.agg cs) 5=zc1 Tryz.prog 127 cs 6:=af
theorem Ui(r o:Nat):zcZ Tryz.prog 131 (.ptr r o) 6=some (.ptr r (o+7)):=af
theorem Uj(cs:List AV):zcZ Tryz.prog 131 (.iptr cs) 6=some (.iptr (cs.drop 7)):=af
theorem Uk(cs:List AV):zdf Tryz.prog 131 (.agg cs) 6=zc1 Tryz.prog 129 cs 7:=af
def qE:=ad @Ft (ad @TY (ad @TX (ad @TZ (ad @T0 (ad @T1 (ad @T2 (ad @T3 (ad @T4 (ad @T5 (ad @T6 (ad @T7 (ad @T8 (ad @T9 (ad @Ua (ad @Ub (ad @Uc (ad @Ud (ad @Ue (ad @Uf (ad @Ug (ad @Uh (ad @Ui (ad @Uj (@Uk))))))))))))))))))))))))
theorem uM:zc8 Tryz.prog 134=some 4:=af
theorem Fv:zdz Tryz.prog 134=some 32:=af
theorem Ul(cs:List AV)(o:Nat):zc1 Tryz.prog 134 cs o=zdA 4 (cs.drop o):=zeR Tryz.underlying134 rfl uM cs o
theorem Fw:zdq Tryz.prog 134=some [(.bool false),(.int .i64 0),.nilP,.nilP]:=af
theorem Um(r o:Nat):zcZ Tryz.prog 134 (.ptr r o) 0=some (.ptr r (o+0)):=af
theorem Uo(cs:List AV):zcZ Tryz.prog 134 (.iptr cs) 0=some (.iptr (cs.drop 0)):=af
theorem Up(cs:List AV):zdf Tryz.prog 134 (.agg cs) 0=zc1 Tryz.prog 4 cs 0:=af
theorem Uq(r o:Nat):zcZ Tryz.prog 134 (.ptr r o) 1=some (.ptr r (o+1)):=af
theorem Ur(cs:List AV):zcZ Tryz.prog 134 (.iptr cs) 1=some (.iptr (cs.drop 1)):=af
theorem Us(cs:List AV):zdf Tryz.prog 134 (.agg cs) 1=zc1 Tryz.prog 2 cs 1:=af
theorem Ut(r o:Nat):zcZ Tryz.prog 134 (.ptr r o) 2=some (.ptr r (o+2)):=af
theorem Uu(cs:List AV):zcZ Tryz.prog 134 (.iptr cs) 2=some (.iptr (cs.drop 2)):=af
theorem Uv(cs:List AV):zdf Tryz.prog 134 (.agg cs) 2=zc1 Tryz.prog 76 cs 2:=af
theorem Uw(r o:Nat):zcZ Tryz.prog 134 (.ptr r o) 3=some (.ptr r (o+3)):=af
theorem Ux(cs:List AV):zcZ Tryz.prog 134 (.iptr cs) 3=some (.iptr (cs.drop 3)):=af
theorem Uy(cs:List AV):zdf Tryz.prog 134 (.agg cs) 3=zc1 Tryz.prog 128 cs 3:=af
def qF:=ad @uM (ad @Ul (ad @Fv (ad @Fw (ad @Um (ad @Uo (ad @Up (ad @Uq (ad @Ur (ad @Us (ad @Ut (ad @Uu (ad @Uv (ad @Uw (ad @Ux (@Uy)))))))))))))))
theorem Fx:zc8 Tryz.prog 136=some 2:=af
theorem Uz:zdz Tryz.prog 136=some 16:=af
theorem UA(cs:List AV)(o:Nat):zc1 Tryz.prog 136 cs o=zdA 2 (cs.drop o):=zeR Tryz.underlying136 rfl Fx cs o
theorem UB:zdq Tryz.prog 136=some [(.int .i64 0),.nilP]:=af
theorem UC(r o:Nat):zcZ Tryz.prog 136 (.ptr r o) 0=some (.ptr r (o+0)):=af
theorem UD(cs:List AV):zcZ Tryz.prog 136 (.iptr cs) 0=some (.iptr (cs.drop 0)):=af
theorem UE(cs:List AV):zdf Tryz.prog 136 (.agg cs) 0=zc1 Tryz.prog 2 cs 0:=af
theorem UF(r o:Nat):zcZ Tryz.prog 136 (.ptr r o) 1=some (.ptr r (o+1)):=af
theorem UG(cs:List AV):zcZ Tryz.prog 136 (.iptr cs) 1=some (.iptr (cs.drop 1)):=af
theorem UH(cs:List AV):zdf Tryz.prog 136 (.agg cs) 1=zc1 Tryz.prog 77 cs 1:=af
def Fy:=ad @Fx (ad @UA (ad @Uz (ad @UB (ad @UC (ad @UD (ad @UE (ad @UF (ad @UG (@UH)))))))))
theorem UI:zc8 Tryz.prog 137=some 1:=af
theorem UJ:zdz Tryz.prog 137=some 24:=af
theorem UK(cs:List AV)(o:Nat):zc1 Tryz.prog 137 cs o=cs[o]?:=zei Tryz.underlying137 rfl cs o
theorem UL:zdq Tryz.prog 137=some [.nilS]:=af
theorem UM(xs:List (List AV)){n:Int}(o:0<=n)(k:IntKind):zdn Tryz.prog 137 (.lst xs) (.int k n)=gB 3 (xs[n.toNat]?):=ze8 Tryz.underlying137 (show zc8 Tryz.prog 173=some 3 from by kernel_rfl) xs o k
theorem UN(r o l z:Nat){n:Int}(Z:0<=n)(k:IntKind):zdn Tryz.prog 137 (.sl r o l z) (.int k n)=bif decide (n.toNat<l)then some (.ptr r (o+n.toNat*3))else none:=ze9 Tryz.underlying137 (show zc8 Tryz.prog 173=some 3 from by kernel_rfl) r o l z Z k
theorem UO(H:Hp)(xs:List (List AV)):zdu Tryz.prog H 137 (.lst xs)=some (.int .i64 xs.length):=ze7 Tryz.underlying137 xs
theorem UP(H:Hp)(r o n z:Nat):zdu Tryz.prog H 137 (.sl r o n z)=some (.int .i64 n):=zeV Tryz.underlying137 r o n z
theorem UQ(H:Hp):zdu Tryz.prog H 137 .nilS=some (.int .i64 0):=zeW Tryz.underlying137
def A9:=ad @UI (ad @UK (ad @UJ (ad @UL (ad @UM (ad @UN (ad @UO (ad @UP (@UQ))))))))
theorem UR:zc8 Tryz.prog 154=some 1:=af
theorem US:zdz Tryz.prog 154=some 8:=af
theorem UT(cs:List AV)(o:Nat):zc1 Tryz.prog 154 cs o=cs[o]?:=zei Tryz.underlying154 rfl cs o
theorem UU:zdq Tryz.prog 154=some [(.int .u64 0)]:=af
def Ba:=ad @UR (ad @UT (ad @US (@UU)))
theorem Fz:zc8 Tryz.prog 157=some 17:=af
theorem UV:zdz Tryz.prog 157=some 248:=af
theorem UW(cs:List AV)(o:Nat):zc1 Tryz.prog 157 cs o=zdA 17 (cs.drop o):=zeR Tryz.underlying157 rfl Fz cs o
theorem UX:zdq Tryz.prog 157=some [(.int .i64 0),(.str []),(.str []),(.int .i64 0),(.int .i64 0),(.int .i64 0),(.str []),(.int .i64 0),.nilS,(.int .i64 0),(.int .i64 0),(.str []),(.int .i64 0),.nilS,.nilS,.nilS,.nilS]:=af
theorem UY(r o:Nat):zcZ Tryz.prog 157 (.ptr r o) 0=some (.ptr r (o+0)):=af
theorem UZ(cs:List AV):zcZ Tryz.prog 157 (.iptr cs) 0=some (.iptr (cs.drop 0)):=af
theorem U0(cs:List AV):zdf Tryz.prog 157 (.agg cs) 0=zc1 Tryz.prog 3 cs 0:=af
theorem U1(r o:Nat):zcZ Tryz.prog 157 (.ptr r o) 1=some (.ptr r (o+1)):=af
theorem U2(cs:List AV):zcZ Tryz.prog 157 (.iptr cs) 1=some (.iptr (cs.drop 1)):=af
theorem U3(cs:List AV):zdf Tryz.prog 157 (.agg cs) 1=zc1 Tryz.prog 9 cs 1:=af
theorem U4(r o:Nat):zcZ Tryz.prog 157 (.ptr r o) 2=some (.ptr r (o+2)):=af
theorem U5(cs:List AV):zcZ Tryz.prog 157 (.iptr cs) 2=some (.iptr (cs.drop 2)):=af
theorem U6(cs:List AV):zdf Tryz.prog 157 (.agg cs) 2=zc1 Tryz.prog 9 cs 2:=af
theorem U7(r o:Nat):zcZ Tryz.prog 157 (.ptr r o) 3=some (.ptr r (o+3)):=af
theorem U8(cs:List AV):zcZ Tryz.prog 157 (.iptr cs) 3=some (.iptr (cs.drop 3)):=af
theorem U9(cs:List AV):zdf Tryz.prog 157 (.agg cs) 3=zc1 Tryz.prog 3 cs 3:=af
theorem Va(r o:Nat):zcZ Tryz.prog 157 (.ptr r o) 4=some (.ptr r (o+4)):=af
theorem Vb(cs:List AV):zcZ Tryz.prog 157 (.iptr cs) 4=some (.iptr (cs.drop 4)):=af
theorem Vc(cs:List AV):zdf Tryz.prog 157 (.agg cs) 4=zc1 Tryz.prog 104 cs 4:=af
theorem Vd(r o:Nat):zcZ Tryz.prog 157 (.ptr r o) 5=some (.ptr r (o+9)):=af
theorem Ve(cs:List AV):zcZ Tryz.prog 157 (.iptr cs) 5=some (.iptr (cs.drop 9)):=af
theorem Vf(cs:List AV):zdf Tryz.prog 157 (.agg cs) 5=zc1 Tryz.prog 104 cs 9:=af
theorem Vg(r o:Nat):zcZ Tryz.prog 157 (.ptr r o) 6=some (.ptr r (o+14)):=af
theorem Vh(cs:List AV):zcZ Tryz.prog 157 (.iptr cs) 6=some (.iptr (cs.drop 14)):=af
theorem Vi(cs:List AV):zdf Tryz.prog 157 (.agg cs) 6=zc1 Tryz.prog 102 cs 14:=af
theorem Vj(r o:Nat):zcZ Tryz.prog 157 (.ptr r o) 7=some (.ptr r (o+15)):=af
theorem Vk(cs:List AV):zcZ Tryz.prog 157 (.iptr cs) 7=some (.iptr (cs.drop 15)):=af
theorem Vl(cs:List AV):zdf Tryz.prog 157 (.agg cs) 7=zc1 Tryz.prog 101 cs 15:=af
theorem Vm(r o:Nat):zcZ Tryz.prog 157 (.ptr r o) 8=some (.ptr r (o+16)):=af
theorem Vn(cs:List AV):zcZ Tryz.prog 157 (.iptr cs) 8=some (.iptr (cs.drop 16)):=af
theorem Vo(cs:List AV):zdf Tryz.prog 157 (.agg cs) 8=zc1 Tryz.prog 101 cs 16:=af
def jF:=ad @Fz (ad @UW (ad @UV (ad @UX (ad @UY (ad @UZ (ad @U0 (ad @U1 (ad @U2 (ad @U3 (ad @U4 (ad @U5 (ad @U6 (ad @U7 (ad @U8 (ad @U9 (ad @Va (ad @Vb (ad @Vc (ad @Vd (ad @Ve (ad @Vf (ad @Vg (ad @Vh (ad @Vi (ad @Vj (ad @Vk (ad @Vl (ad @Vm (ad @Vn (@Vo))))))))))))))))))))))))))))))
theorem xr:zc8 Tryz.prog 173=some 3:=af
theorem Bb:zdz Tryz.prog 173=some 32:=af
theorem Vp(cs:List AV)(o:Nat):zc1 Tryz.prog 173 cs o=zdA 3 (cs.drop o):=zeR Tryz.underlying173 rfl xr cs o
theorem Bc:zdq Tryz.prog 173=some [(.int .i64 0),(.str []),(.int .i64 0)]:=af
theorem Vq(r o:Nat):zcZ Tryz.prog 173 (.ptr r o) 0=some (.ptr r (o+0)):=af
theorem Vr(cs:List AV):zcZ Tryz.prog 173 (.iptr cs) 0=some (.iptr (cs.drop 0)):=af
theorem Vs(cs:List AV):zdf Tryz.prog 173 (.agg cs) 0=zc1 Tryz.prog 3 cs 0:=af
theorem Vt(r o:Nat):zcZ Tryz.prog 173 (.ptr r o) 1=some (.ptr r (o+1)):=af
theorem Vu(cs:List AV):zcZ Tryz.prog 173 (.iptr cs) 1=some (.iptr (cs.drop 1)):=af
theorem Vv(cs:List AV):zdf Tryz.prog 173 (.agg cs) 1=zc1 Tryz.prog 9 cs 1:=af
theorem Vw(r o:Nat):zcZ Tryz.prog 173 (.ptr r o) 2=some (.ptr r (o+2)):=af
theorem Vx(cs:List AV):zcZ Tryz.prog 173 (.iptr cs) 2=some (.iptr (cs.drop 2)):=af
theorem Vy(cs:List AV):zdf Tryz.prog 173 (.agg cs) 2=zc1 Tryz.prog 3 cs 2:=af
def xt:=ad @xr (ad @Vp (ad @Bb (ad @Bc (ad @Vq (ad @Vr (ad @Vs (ad @Vt (ad @Vu (ad @Vv (ad @Vw (ad @Vx (@Vy))))))))))))
theorem Vz:zc8 Tryz.prog 192=some 1:=af
theorem VA:zdz Tryz.prog 192=some 8:=af
theorem VB(cs:List AV)(o:Nat):zc1 Tryz.prog 192 cs o=cs[o]?:=zei Tryz.underlying192 rfl cs o
theorem VC:zdq Tryz.prog 192=some [.nilF]:=af
def FA:=ad @Vz (ad @VB (ad @VA (@VC)))
theorem VD:zc8 Tryz.prog 198=some 1:=af
theorem VE:zdz Tryz.prog 198=some 8:=af
theorem VF(cs:List AV)(o:Nat):zc1 Tryz.prog 198 cs o=cs[o]?:=zei Tryz.underlying198 rfl cs o
theorem VG:zdq Tryz.prog 198=some [.nilM]:=af
def xu:=ad @VD (ad @VF (ad @VE (@VG)))
theorem VH:zc8 Tryz.prog 200=some 1:=af
theorem VI:zdz Tryz.prog 200=some 24:=af
theorem VJ(cs:List AV)(o:Nat):zc1 Tryz.prog 200 cs o=cs[o]?:=zei Tryz.underlying200 rfl cs o
theorem VK:zdq Tryz.prog 200=some [.nilS]:=af
theorem VL(xs:List (List AV)){n:Int}(o:0<=n)(k:IntKind):zdn Tryz.prog 200 (.lst xs) (.int k n)=gB 1 (xs[n.toNat]?):=ze8 Tryz.underlying200 (show zc8 Tryz.prog 5=some 1 from by kernel_rfl) xs o k
theorem VM(r o l z:Nat){n:Int}(Z:0<=n)(k:IntKind):zdn Tryz.prog 200 (.sl r o l z) (.int k n)=bif decide (n.toNat<l)then some (.ptr r (o+n.toNat*1))else none:=ze9 Tryz.underlying200 (show zc8 Tryz.prog 5=some 1 from by kernel_rfl) r o l z Z k
theorem VN(H:Hp)(xs:List (List AV)):zdu Tryz.prog H 200 (.lst xs)=some (.int .i64 xs.length):=ze7 Tryz.underlying200 xs
theorem VO(H:Hp)(r o n z:Nat):zdu Tryz.prog H 200 (.sl r o n z)=some (.int .i64 n):=zeV Tryz.underlying200 r o n z
theorem VP(H:Hp):zdu Tryz.prog H 200 .nilS=some (.int .i64 0):=zeW Tryz.underlying200
def FB:=ad @VH (ad @VJ (ad @VI (ad @VK (ad @VL (ad @VM (ad @VN (ad @VO (@VP))))))))
theorem FC:zc8 Tryz.prog 208=some 16:=af
theorem VQ:zdz Tryz.prog 208=some 128:=af
theorem VS(cs:List AV)(o:Nat):zc1 Tryz.prog 208 cs o=zdA 16 (cs.drop o):=zeR Tryz.underlying208 rfl FC cs o
theorem VT:zdq Tryz.prog 208=some [(.int .i64 0),(.int .i64 0),(.int .i64 0),(.int .i64 0),(.int .i64 0),(.int .i64 0),(.int .i64 0),(.int .i64 0),(.int .i64 0),(.int .i64 0),(.int .i64 0),(.int .i64 0),(.int .i64 0),(.int .i64 0),(.int .i64 0),(.int .i64 0)]:=af
def VU:=ad @FC (ad @VS (ad @VQ (@VT)))
theorem FD:zc8 Tryz.prog 210=some 2:=af
theorem VV:zdz Tryz.prog 210=some 32:=af
theorem VW(cs:List AV)(o:Nat):zc1 Tryz.prog 210 cs o=zdA 2 (cs.drop o):=zeR Tryz.underlying210 rfl FD cs o
theorem VX:zdq Tryz.prog 210=some [.nilP,.nilS]:=af
theorem VY(r o:Nat):zcZ Tryz.prog 210 (.ptr r o) 0=some (.ptr r (o+0)):=af
theorem VZ(cs:List AV):zcZ Tryz.prog 210 (.iptr cs) 0=some (.iptr (cs.drop 0)):=af
theorem V0(cs:List AV):zdf Tryz.prog 210 (.agg cs) 0=zc1 Tryz.prog 76 cs 0:=af
theorem V1(r o:Nat):zcZ Tryz.prog 210 (.ptr r o) 1=some (.ptr r (o+1)):=af
theorem V2(cs:List AV):zcZ Tryz.prog 210 (.iptr cs) 1=some (.iptr (cs.drop 1)):=af
theorem V3(cs:List AV):zdf Tryz.prog 210 (.agg cs) 1=zc1 Tryz.prog 33 cs 1:=af
def V4:=ad @FD (ad @VW (ad @VV (ad @VX (ad @VY (ad @VZ (ad @V0 (ad @V1 (ad @V2 (@V3)))))))))
theorem FE:zc8 Tryz.prog 225=some 8:=af
theorem V5:zdz Tryz.prog 225=some 8:=af
theorem V6(cs:List AV)(o:Nat):zc1 Tryz.prog 225 cs o=zdA 8 (cs.drop o):=zeR Tryz.underlying225 rfl FE cs o
theorem V7:zdq Tryz.prog 225=some [(.bool false),(.bool false),(.bool false),(.bool false),(.bool false),(.bool false),(.bool false),(.bool false)]:=af
theorem V8(r o:Nat):zcZ Tryz.prog 225 (.ptr r o) 0=some (.ptr r (o+0)):=af
theorem V9(cs:List AV):zcZ Tryz.prog 225 (.iptr cs) 0=some (.iptr (cs.drop 0)):=af
theorem Wa(cs:List AV):zdf Tryz.prog 225 (.agg cs) 0=zc1 Tryz.prog 4 cs 0:=af
theorem Wb(r o:Nat):zcZ Tryz.prog 225 (.ptr r o) 1=some (.ptr r (o+1)):=af
theorem Wc(cs:List AV):zcZ Tryz.prog 225 (.iptr cs) 1=some (.iptr (cs.drop 1)):=af
theorem Wd(cs:List AV):zdf Tryz.prog 225 (.agg cs) 1=zc1 Tryz.prog 4 cs 1:=af
theorem We(r o:Nat):zcZ Tryz.prog 225 (.ptr r o) 2=some (.ptr r (o+2)):=af
theorem Wf(cs:List AV):zcZ Tryz.prog 225 (.iptr cs) 2=some (.iptr (cs.drop 2)):=af
theorem Wg(cs:List AV):zdf Tryz.prog 225 (.agg cs) 2=zc1 Tryz.prog 4 cs 2:=af
theorem Wh(r o:Nat):zcZ Tryz.prog 225 (.ptr r o) 3=some (.ptr r (o+3)):=af
theorem Wi(cs:List AV):zcZ Tryz.prog 225 (.iptr cs) 3=some (.iptr (cs.drop 3)):=af
theorem Wj(cs:List AV):zdf Tryz.prog 225 (.agg cs) 3=zc1 Tryz.prog 4 cs 3:=af
theorem Wk(r o:Nat):zcZ Tryz.prog 225 (.ptr r o) 4=some (.ptr r (o+4)):=af
theorem Wl(cs:List AV):zcZ Tryz.prog 225 (.iptr cs) 4=some (.iptr (cs.drop 4)):=af
theorem Wm(cs:List AV):zdf Tryz.prog 225 (.agg cs) 4=zc1 Tryz.prog 4 cs 4:=af
theorem Wn(r o:Nat):zcZ Tryz.prog 225 (.ptr r o) 5=some (.ptr r (o+5)):=af
theorem Wo(cs:List AV):zcZ Tryz.prog 225 (.iptr cs) 5=some (.iptr (cs.drop 5)):=af
theorem Wp(cs:List AV):zdf Tryz.prog 225 (.agg cs) 5=zc1 Tryz.prog 4 cs 5:=af
theorem Wq(r o:Nat):zcZ Tryz.prog 225 (.ptr r o) 6=some (.ptr r (o+6)):=af
theorem Wr(cs:List AV):zcZ Tryz.prog 225 (.iptr cs) 6=some (.iptr (cs.drop 6)):=af
theorem Ws(cs:List AV):zdf Tryz.prog 225 (.agg cs) 6=zc1 Tryz.prog 4 cs 6:=af
theorem Wt(r o:Nat):zcZ Tryz.prog 225 (.ptr r o) 7=some (.ptr r (o+7)):=af
theorem Wu(cs:List AV):zcZ Tryz.prog 225 (.iptr cs) 7=some (.iptr (cs.drop 7)):=af
theorem Wv(cs:List AV):zdf Tryz.prog 225 (.agg cs) 7=zc1 Tryz.prog 4 cs 7:=af
def FF:=ad @FE (ad @V6 (ad @V5 (ad @V7 (ad @V8 (ad @V9 (ad @Wa (ad @Wb (ad @Wc (ad @Wd (ad @We (ad @Wf (ad @Wg (ad @Wh (ad @Wi (ad @Wj (ad @Wk (ad @Wl (ad @Wm (ad @Wn (ad @Wo (ad @Wp (ad @Wq (ad @Wr (ad @Ws (ad @Wt (ad @Wu (@Wv)))))))))))))))))))))))))))
theorem Ww:zc8 Tryz.prog 230=some 1:=af
theorem Wx:zdz Tryz.prog 230=some 24:=af
theorem Wy(cs:List AV)(o:Nat):zc1 Tryz.prog 230 cs o=cs[o]?:=zei Tryz.underlying230 rfl cs o
theorem Wz:zdq Tryz.prog 230=some [.nilS]:=af
theorem WA(xs:List (List AV)){n:Int}(o:0<=n)(k:IntKind):zdn Tryz.prog 230 (.lst xs) (.int k n)=gB 1 (xs[n.toNat]?):=ze8 Tryz.underlying230 (show zc8 Tryz.prog 100=some 1 from by kernel_rfl) xs o k
theorem WB(r o l z:Nat){n:Int}(Z:0<=n)(k:IntKind):zdn Tryz.prog 230 (.sl r o l z) (.int k n)=bif decide (n.toNat<l)then some (.ptr r (o+n.toNat*1))else none:=ze9 Tryz.underlying230 (show zc8 Tryz.prog 100=some 1 from by kernel_rfl) r o l z Z k
theorem WC(H:Hp)(xs:List (List AV)):zdu Tryz.prog H 230 (.lst xs)=some (.int .i64 xs.length):=ze7 Tryz.underlying230 xs
theorem WD(H:Hp)(r o n z:Nat):zdu Tryz.prog H 230 (.sl r o n z)=some (.int .i64 n):=zeV Tryz.underlying230 r o n z
theorem WE(H:Hp):zdu Tryz.prog H 230 .nilS=some (.int .i64 0):=zeW Tryz.underlying230
def Be:=ad @Ww (ad @Wy (ad @Wx (ad @Wz (ad @WA (ad @WB (ad @WC (ad @WD (@WE))))))))
theorem FG:zc8 Tryz.prog 245=some 7:=af
theorem WF:zdz Tryz.prog 245=some 112:=af
theorem WG(cs:List AV)(o:Nat):zc1 Tryz.prog 245 cs o=zdA 7 (cs.drop o):=zeR Tryz.underlying245 rfl FG cs o
theorem WH:zdq Tryz.prog 245=some [(.str []),(.str []),(.str []),(.str []),(.str []),(.str []),(.str [])]:=af
def WI:=ad @FG (ad @WG (ad @WF (@WH)))
theorem Bf(H:Hp)(k:IntKind)(n:Int):ze3 Tryz.prog H 2 126 (.int k n)=some (.int .u64 (IntKind.wrap .u64 n)):=qw
theorem Bg(H:Hp)(k:IntKind)(n:Int):ze3 Tryz.prog H 2 154 (.int k n)=some (.int .u64 (IntKind.wrap .u64 n)):=qw
theorem FH(H:Hp)(k:IntKind)(n:Int):ze3 Tryz.prog H 3 5 (.int k n)=some (.int .u8 (IntKind.wrap .u8 n)):=qw
theorem FI(H:Hp)(k:IntKind)(n:Int):ze3 Tryz.prog H 3 126 (.int k n)=some (.int .u64 (IntKind.wrap .u64 n)):=qw
theorem FJ(H:Hp)(k:IntKind)(n:Int):ze3 Tryz.prog H 3 154 (.int k n)=some (.int .u64 (IntKind.wrap .u64 n)):=qw
theorem WJ(H:Hp)(k:IntKind)(n:Int):ze3 Tryz.prog H 154 2 (.int k n)=some (.int .i64 (IntKind.wrap .i64 n)):=qw
theorem FK(H:Hp)(k:IntKind)(n:Int):ze3 Tryz.prog H 154 5 (.int k n)=some (.int .u8 (IntKind.wrap .u8 n)):=qw
end Go.Proofs.YtljebeflbbgibaaGreat
