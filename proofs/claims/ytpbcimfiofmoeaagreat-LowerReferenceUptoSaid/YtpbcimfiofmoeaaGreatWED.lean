/- Lemmas for the last file. -/
import Derived.Below
import Derived.Orders
import Derived.Test.YtpbcimfiofmoeaaGreatWEC
set_option linter.all false
set_option maxHeartbeats 32000000
namespace Go.Ab
set_option maxRecDepth 20000
open Go
variable{qe:Prop}
def mR(h:qe:=by simpa using h):=h
def oO(h:qe:=by rw[e]):=h
def pP(h:qe:=by simp at h):=h
def G9(h:qe:=by unfold Ab.clash;simp_all):=h
def Ac(h:qe:=by simpa using U):=h
def rH:=@Nat.eq_of_beq_eq_true
def eK:=@List.map_cons
def gH:=@List.mem_cons
def nT:=@List.mem_append
def jX:=@List.all_eq_true
def rI:=@List.mem_range
def He:=@List.mem_filter
def tN:=@Array.getElem?_eq_getElem
def sF:=@Bool.not_eq_true'
def sG:=@Bool.or_eq_true
def li:=@List.mem_of_getElem?
def C0:=@Nat.lt_trichotomy
def Ad:=@List.eq_nil_iff_forall_not_mem
def Hf:=@List.singleton_append
def nU:=@Bool.true_or
def eg:=@List.mem_cons_self
def en:=@List.mem_cons_of_mem
def oP:=@List.map_append
def sH:=@List.getElem?_eq_none
def sI:=@Nat.blt_eq
def Hg:=@List.mem_iff_getElem?
def uZ:=@List.map_map
def C1:=@Nat.one_mul
def kN:=@true_and
def oQ:=And.intro @da @rG
end Go.Ab
namespace Go.Ab
set_option maxRecDepth 20000
open Go Go.RowKit
variable{ih:zd4->Res}{f N i j t z n q p:Nat}{m l:qB}{rs:List Rec}{E V E0 E' Y:aq}{D:BinOp->Sx->Sx->qJ}{v r:AV}{o:Oper}{ops:qQ}{C y:qL}{H' H:Hp}{G J G0:Gh}{a:Act}{w w' w0:World}{Q:Exit->Act->World->Prop}{x:AX}{P:Program}{L:qG}{vs:qH}{c:Code}
section
variable {P:Program} {B:Bs} {G:Gh} {H H':Hp} {w:World} {cfg:Cfg}
theorem Sx.bh:∀{a b:Sx},Sx.beq a b=true->a=b
 | .var i,b,h=>by
   cases b<;>simp only[Sx.beq,dM]at h;simp_all
 | .lit i,b,h=>by
   cases b<;>simp only[Sx.beq,dM,tM]at h;rw[h]
 | .dn o k x y,b,h=>by
   cases b<;>simp only[Sx.beq,dM,oQ]at h;obtain⟨⟨⟨rfl,rfl⟩,m⟩,j⟩:=h;rw[Sx.bh m,Sx.bh j]
 | .eO k x,b,h=>by
   cases b<;>simp only[Sx.beq,dM,oQ]at h;obtain⟨rfl,m⟩:=h;rw[Sx.bh m]
mutual
theorem AV.bh:∀{a b:AV},AV.beq a b=true->a=b
 | .int k a,b,h=>by
   cases b<;>simp only[AV.beq,oQ,tM,dM]at h;simp_all
 | .sx k a,b,h=>by
   cases b<;>simp only[AV.beq,oQ,dM]at h;obtain⟨rfl,m⟩:=h;rw[Sx.bh m]
 | .bool a,b,h=>by
   cases b<;>simp only[AV.beq,tM,dM]at h;subst h;rfl
 | .aj a,b,h=>by
   cases b<;>simp only[AV.beq,tM,dM]at h;subst h;rfl
 | .b0,b,h=>by cases b<;>simp only[AV.beq,dM]at h;rfl
 | .bD,b,h=>by cases b<;>simp only[AV.beq,dM]at h;rfl
 | .ch,b,h=>by cases b<;>simp only[AV.beq,dM]at h;rfl
 | .ag,b,h=>by cases b<;>simp only[AV.beq,dM]at h;rfl
 | .ptr r o,b,h=>by
   cases b<;>simp only[AV.beq,da,dM]at h;simp_all
 | .bI a,b,h=>by
   cases b<;>simp only[AV.beq,dM]at h;rw[rJ h]
 | .sl r o l z,b,h=>by
   cases b<;>simp only[AV.beq,da,dM]at h;simp_all
 | .az a,b,h=>by
   cases b<;>simp only[AV.beq,dM]at h;rw[LQ h]
 | .map r,b,h=>by
   cases b<;>simp only[AV.beq,dM]at h;simp_all
 | .bJ f a,b,h=>by
   cases b<;>simp only[AV.beq,da,dM]at h;rw[rH h.1,rJ h.2]
 | .agg a,b,h=>by
   cases b<;>simp only[AV.beq,dM]at h;rw[rJ h]
 | .a6 a,b,h=>by
   cases b<;>simp only[AV.beq,dM]at h;rw[rJ h]
theorem rJ:∀{a b:qu},lX a b=true->a=b
 |[],b,h=>by cases b<;>simp only[lX,dM]at h;rfl
 |a::x,b,h=>by
  cases b<;>simp only[lX,da,dM]at h;rw[AV.bh h.1,rJ h.2]
theorem LQ:∀{a b:List qu},wn a b=true->a=b
 |[],b,h=>by cases b<;>simp only[wn,dM]at h;rfl
 |a::x,b,h=>by
  cases b<;>simp only[wn,da,dM]at h;rw[rJ h.1,LQ h.2]
end
theorem LR{I β:Type}:∀{a b:List (I×β)},a.map (·.1)=b.map (·.1)->a.map (·.2)=b.map (·.2)->a=b
 |[],b,h,_=>by simp_all
 |(x,y)::a,b,h,U=>by
  cases b with
  |nil=>simp at h
  |cons c b=>
   obtain⟨u,v⟩:=c;simp only[eK,eJ]at h U;obtain⟨rfl,h⟩:=h;obtain⟨rfl,U⟩:=U;rw[LR h U]
def HB.bh{a b:HB}(h:HB.beq a b=true):a=b:=by
 cases a<;>cases b<;>simp only[HB.beq,da,dM,tM]at h
 .obtain⟨⟨m,j⟩,C⟩:=h;rw[rJ m,rH j,C]
 .rw[LR (rJ h.1) (rJ h.2)]
def oR(P:Program)(cfg:Cfg)(ih:zd4->Res)(f N:Nat)(m:qB):List Rec->qB->aq->Hp->aq->Hp->Prop
 |[],[],E,H,E',H'=>E=E'/\H=H'
 |r::rs,o::l,E,H,E',H'=>r.o=o/\r.E=E/\r.H=H/\jT m E o=r.did/\(r.did=true->eF P cfg ih f E H o.op=.val r.val r.H')/\(r.did=false->r.val=dH/\r.H'=H) /\
  ∃E1,fN N E o.dst r.val=some E1/\oR P cfg ih f N m rs l E1 r.H' E' H'
 |_,_,_,_,_,_=>False
theorem Ae{ih:zd4->Res}{f N:Nat}{m:qB}:∀{l:qB}{E E':aq}{H H':Hp}{rs:List Rec},jU P cfg ih f N m l E H=.done E' H' rs->oR P cfg ih f N m rs l E H E' H'
 |[],E,E',H,H',rs,h=>by
  simp only[jU,zik.done.injEq]at h;obtain⟨rfl,rfl,rfl⟩:=h;exact⟨rfl,rfl⟩
 |o::l,E,E',H,H',rs,h=>by
  simp only[jU]at h;cases M:jT m E o with
  |true=>
   rw[M]at h;simp only[]at h;cases Z:eF P cfg ih f E H o.op with
   |val v H1=>
    rw[Z]at h;simp only[]at h;cases hp:fN N E o.dst v with
    |none=>rw[hp]at h;simp[pK,pJ]at h
    |some E1=>
     rw[hp]at h;simp only[pK]at h;cases hr:jU P cfg ih f N m l E1 H1 with
     |aY=>rw[hr]at h;simp[pJ]at h
     |done C z Y=>
      rw[hr]at h;simp only[pJ,zik.done.injEq]at h;obtain⟨rfl,rfl,rfl⟩:=h;exact⟨rfl,rfl,rfl,M,fun _=>Z,aw,E1,hp,Ae hr⟩
   |done _ _ _=>simp_all
   |aY=>simp_all
  |false=>
   rw[M]at h;simp only[]at h;cases hp:fN N E o.dst dH with
   |none=>rw[hp]at h;simp[pK,pJ]at h
   |some E1=>
    rw[hp]at h;simp only[pK]at h;cases hr:jU P cfg ih f N m l E1 H with
    |aY=>rw[hr]at h;simp[pJ]at h
    |done C z Y=>
     rw[hr]at h;simp only[pJ,zik.done.injEq]at h;obtain⟨rfl,rfl,rfl⟩:=h;exact⟨rfl,rfl,rfl,M,aw,fun _=>⟨rfl,rfl⟩,E1,hp,Ae hr⟩
def hO(rs:List Rec)(V:aq)(e:Nat):aq:=match rs[e]? with
 |some r=>r.E
 |none=>V
theorem Hh{ih:zd4->Res}{f N:Nat}{m:qB}:∀{rs:List Rec}{l:qB}{E E':aq}{H H':Hp},oR P cfg ih f N m rs l E H E' H'->rs.length=l.length
 |[],[],_,_,_,_,_=>rfl
 |[],_::_,_,_,_,_,h=>by simp[oR]at h
 |_::_,[],_,_,_,_,h=>by simp[oR]at h
 |r::rs,o::l,E,E',H,H',h=>by
  obtain⟨_,_,_,_,_,_,E1,_,h⟩:=h;simp[Hh h]
def Hk{H H':Hp}(h:oR P cfg ih f N m rs l E H V H'):hO rs V 0=E/\cE rs H' 0=H:=by
 cases rs with
 |nil=>
  cases l with
  |nil=>obtain⟨rfl,rfl⟩:=h;exact⟨rfl,rfl⟩
  |cons o l=>simp[oR]at h
 |cons r rs=>
  cases l with
  |nil=>simp[oR]at h
  |cons o l=>
   obtain⟨_,Z,j,_⟩:=h;exact⟨by simp[hO,Z],by simp[cE,j]⟩
structure AtD (P:Program) (cfg:Cfg) (ih:zd4->Res) (f N:Nat) (all:qB) (o:Oper) (r:Rec) (E E1:aq) (H H1:Hp):Prop where
 eo:r.o=o
 eE:r.E=E
 eH:r.H=H
 f5:jT all E o=r.did
 f2:r.did=true->eF P cfg ih f E H o.op=.val r.val H1
 no:r.did=false->r.val=dH/\H1=H
 put:fN N E o.dst r.val=some E1
 eH':r.H'=H1
theorem wE{ih:zd4->Res}{f N:Nat}{m:qB}:∀{rs:List Rec}{l:qB}{E E':aq}{H H':Hp},oR P cfg ih f N m rs l E H E' H'->∀{i:Nat}{r:Rec},rs[i]?=some r ->
 ∃o,l[i]?=some o/\AtD P cfg ih f N m o r (hO rs E' i) (hO rs E' (i+1)) (cE rs H' i) (cE rs H' (i+1))
 |[],_,_,_,_,_,_,i,r,hr=>by simp at hr
 |r::rs,[],_,_,_,_,h,_,_,_=>by simp[oR]at h
 |r::rs,o::l,E,E',H,H',h,i,r',hr=>by
  obtain⟨U,j,C,O,I,Z,E1,z,Y⟩:=h;obtain⟨z1,z2⟩:=Hk Y;cases i with
  |zero=>
   simp at hr;subst hr;have V:hO (r::rs) E' 1=E1:=by rw[<-z1];simp[hO]
   have M:cE (r::rs) H' 1=r.H':=by rw[<-z2];simp[cE]
   have e3:hO (r::rs) E' 0=E:=by simp[hO,j]
   have e4:cE (r::rs) H' 0=H:=by simp[cE,C]
   refine⟨o,rfl,?_⟩;rw[V,M,e3,e4];exact⟨U,j,C,O,I,fun J=>⟨(Z J).1,(Z J).2⟩,z,rfl⟩
  |succ i=>
   obtain⟨o',g1,g2⟩:=wE Y (i:=i) (r:=r') (by simpa using hr);have V:∀k,hO (r::rs) E' (k+1)=hO rs E' k:=fun k=>by simp[hO]
   have M:∀k,cE (r::rs) H' (k+1)=cE rs H' k:=fun k=>by simp[cE]
   simp_all
def tO(op:Op):Bool:=match iu op with|.cW=>true |_=>false
def sJ(op:Op):Bool:=match iu op with|.read=>true |_=>false
def Wh{op:Op}(z:tO op=true):∃u,∀X,dK P D E X op=ret X u:=by
 cases op<;>simp only[tO,iu,dM]at z<;>simp only[dK]
 case move x=>exact⟨_,fun X=>rfl⟩
 case assign x=>exact⟨_,fun X=>rfl⟩
 case pick c a b=>
  unfold Cn;cases aT E c with
  |none=>exact⟨none,fun X=>rfl⟩
  |some v=>cases v with
   |bool t=>cases t<;>exact⟨_,fun X=>rfl⟩
   |_=>exact⟨none,fun X=>rfl⟩
 case build t parts=>
  unfold Co;cases lJ E parts.toList with
  |none=>exact⟨none,fun X=>rfl⟩
  |some Z=>exact⟨_,fun X=>rfl⟩
 case nilCheck x=>
  unfold Cq;cases aT E x with
  |none=>exact⟨none,fun X=>rfl⟩
  |some v=>cases v with
   |ptr r o=>exact⟨some (.ptr r o),fun X=>rfl⟩
   |bI I=>exact⟨some (.bI I),fun X=>rfl⟩
   |_=>exact⟨none,fun X=>rfl⟩
 case binOp op t x y yt=>
  unfold Cr;cases aT E x with
  |none=>exact⟨none,fun X=>rfl⟩
  |some v=>cases aT E y with
   |none=>exact⟨none,fun X=>rfl⟩
   |some u=>exact⟨_,fun X=>rfl⟩
 case unOp op t x=>
  unfold Ct;cases aT E x with
  |none=>exact⟨none,fun X=>rfl⟩
  |some v=>exact⟨_,fun X=>rfl⟩
 case makeFunc fn first captured=>
  unfold Cu;cases fn with
  |func f=>
   cases first.toList with
   |nil=>cases jj E captured.toList with
    |none=>exact⟨none,fun X=>rfl⟩
    |some vs=>exact⟨some (.bJ f vs),fun X=>rfl⟩
   |cons _ _=>exact⟨none,fun X=>rfl⟩
  |_=>exact⟨none,fun X=>rfl⟩
 case fieldAddr t x f=>
  unfold Cv;cases aT E x with
  |none=>exact⟨none,fun X=>rfl⟩
  |some v=>exact⟨_,fun X=>rfl⟩
 case field t x f=>
  unfold Cw;cases aT E x with
  |none=>exact⟨none,fun X=>rfl⟩
  |some v=>exact⟨_,fun X=>rfl⟩
 case indexAddr t x i=>
  unfold Cy;cases aT E x with
  |none=>exact⟨none,fun X=>rfl⟩
  |some v=>cases aT E i with
   |none=>exact⟨none,fun X=>rfl⟩
   |some u=>exact⟨_,fun X=>rfl⟩
 case index t x i=>
  unfold Cz;cases aT E x with
  |none=>exact⟨none,fun X=>rfl⟩
  |some v=>cases aT E i with
   |none=>exact⟨none,fun X=>rfl⟩
   |some u=>exact⟨_,fun X=>rfl⟩
 case extract x i=>
  unfold CB;cases aT E x with
  |none=>exact⟨none,fun X=>rfl⟩
  |some v=>exact⟨_,fun X=>rfl⟩
 all_goals exact⟨none,fun X=>rfl⟩
def Hl{op:Op}(z:tO op=true)(h:dK P D E H op=some (v,H')):H'=H/\∀X,dK P D E X op=some (v,X):=by
 obtain⟨u,U⟩:=Wh (P:=P) (D:=D) (E:=E) z;rw[U]at h;obtain⟨rfl,rfl⟩:=lM h;exact⟨rfl,fun X=>by rw[U];rfl⟩
def Hm{f:FuncId}{op:Op}(z:sJ op=true)(h:eF P cfg ih f E H op=.val v H'):H'=H:=by
 cases op<;>simp only[sJ,iu,dM]at z<;>simp only[eF,dK]at h
 case load t x=>
  unfold zA at h;split at h
  .cases hx:gX P H t ‹AV› <;>rw[hx]at h<;>simp[ret,iF]at h;exact h.2.symm
  .simp[iF]at h
 case slice t x lo hi mx=>
  unfold zE at h;split at h
  .rename_i V lv Z _ _ _;cases hx:pF P H t V lv Z<;>rw[hx]at h<;>simp[ret,iF]at h;exact h.2.symm
  .simp[iF]at h
 case convert s d x=>
  unfold zB at h;split at h
  .cases hx:kX P H s d ‹AV› <;>rw[hx]at h<;>simp[ret,iF]at h;exact h.2.symm
  .simp[iF]at h
 case lookup t m k ok=>
  unfold zF at h;split at h
  .rename_i mv M _ _;cases hx:jS P H t mv M ok<;>rw[hx]at h<;>simp[ret,iF]at h;exact h.2.symm
  .simp[iF]at h
 case call c=>
  unfold uQ at h;cases hc:c.callee with
  |value g=>simp_all
  |invoke g m=>simp_all
  |builtin b=>
   rw[hc]at z h;simp only[]at h;split at h
   .rename_i vs _;cases b<;>simp only[dM]at z<;>simp only[sB]at h;all_goals
     split at h
     .rename_i v1 H1 hb;simp only[Res.val.injEq]at h;obtain⟨rfl,rfl⟩:=h;split at hb
      .split at hb
       .simp only[dB]at hb;exact hb.2.symm
       .simp at hb
      .simp at hb
     .simp at h
   .simp at h
def Wi(z:uS o=true)(h:dK P D E H o.op=some (v,H')):∃M,H'=H.alloc M:=by
 obtain⟨U,Z,J,Y,O,guard⟩:=o;simp only[]at h;cases Z<;>simp only[uS,iu,dM]at z<;>simp only[dK,reduceCtorEq]at h
 case alloc t=>
  unfold zw at h
  grind
 case box t x=>
  unfold zx at h
  grind
 case buildSlice t len parts=>
  unfold zy at h;split at h
  .unfold de at h
   grind
  .simp at h
 case makeMap t r=>
  unfold zC at h
  grind
 case makeSlice t l c=>
  unfold zD at h;split at h
  .unfold pI at h;(repeat' split at h)<;>first|(simp only[dB]at h;exact⟨_,h.2.symm⟩)|simp at h
  .simp at h
def wF{f:FuncId}{op:Op}(J:∀c,op≠.call c):eF P cfg ih f E H op=.val v H'↔dK P cfg.dI E H op=some (v,H'):=by
 have:eF P cfg ih f E H op=iF (dK P cfg.dI E H op):=by
  unfold eF;simp_all
 rw[this];cases dK P cfg.dI E H op with
 |none=>simp[iF]
 |some p=>obtain⟨a,b⟩:=p;simp[iF]
def Wk{f:FuncId}(z:nN o=false)(h:eF P cfg ih f E H o.op=.val v H'):H'=H\/∃M,H'=H.alloc M:=by
 cases C:iu o.op with
 |eu=>simp[nN,C]at z
 |read=>exact .inl (Hm (by simp[sJ,C]) h)
 |cW=>
  have J:∀c,o.op≠.call c:=fun c e=>by
   rw[e]at C;simp only[iu]at C
   grind
  exact .inl (Hl (P:=P) (by simp[tO,C]) ((wF J).1 h)).1
 |make=>
  have J:∀c,o.op≠.call c:=fun c e=>by
   rw[e]at C;simp only[iu]at C
   grind
  exact .inr (Wi (by simp[uS,C]) ((wF J).1 h))
end
theorem Hn{i:Nat}:∀{l J:qG},i∈xO J l↔i∈J\/i∈l
 |[],J=>by simp[xO]
 |x::xs,J=>by
  simp only[xO];split
  .rename_i h;have hx:x∈J:=mR;rw[Hn,gH]
   grind
  .rw[Hn,gH,gH]
   grind
def Wl{l:qG}:i∈zG l↔i∈l:=by unfold zG;rw[Hn];simp
theorem Ho:∀(l:qB) (J:List qG) (i:Nat),i<J.length->(jk l J).getD i []=J.getD i []
 |[],J,i,_=>rfl
 |o::l,J,i,h=>by
  simp only[jk];rw[Ho l _ i cb]
  grind
theorem LS:∀(l:qB) (J:List qG) (j:Nat) (o:Oper),l[j]?=some o ->
 ∃O:List qG,O.length=J.length+j/\(∀i,i<O.length->(jk l J).getD i []=O.getD i [])/\(jk l J).getD (J.length+j) []=zG (preds o++(preds o).flatMap fun i=>O.getD i [])
 |[],_,_,_,h=>by simp at h
 |o::l,J,0,o',h=>by
  simp at h;subst h;refine⟨J,rfl,fun i I=>Ho _ _ i I,?_⟩;simp only[jk,tL];rw[Ho l _ J.length aw];simp[List.getD]
 |o::l,J,j+1,o',h=>by
  obtain⟨O,m,Z,C⟩:=LS l (J++[zG (preds o++(preds o).flatMap fun i=>J.getD i [])]) j o' mR;simp only[iR,l8]at m C;refine⟨O,ac,Z,?_⟩;simp only[jk]
  grind
def Wm(M:l[j]?=some o)(V:∀p∈preds o,p<j):
 i∈(jk l []).getD j []↔i∈preds o\/∃p∈preds o,i∈(jk l []).getD p []:=by
 obtain⟨O,m,Z,C⟩:=LS l [] j o M;simp only[fq,bR]at m C;rw[C,Wl,nT,List.mem_flatMap]
 grind
structure zin (l:qB):Prop where
 lt:∀j o,l[j]?=some o->∀p∈preds o,p<j
 guard:∀j o g b,l[j]?=some o->o.guard=some (g,b)->g∈(jk l []).getD j []
 clash:∀i j p q,i<j->l[i]?=some p->l[j]?=some q->Ab.clash l p q=true->i∈(jk l []).getD j []
def Wn(h:nO l=true):zin l:=by
 unfold nO at h;simp only[jX,rI]at h;have z:∀j o,l[j]?=some o->(∀p∈preds o,p<j)/\(∀g b,o.guard=some (g,b)->g∈(jk l []).getD j [])/\∀i p,i<j->l[i]?=some p->Ab.clash l p o=true->i∈(jk l []).getD j []:=fun j o M=>by
  grind
 exact⟨fun j o M=>(z j o M).1,fun j o g b M=>(z j o M).2.1 g b,fun i j p q U I Y=>(z j q Y).2.2 i p U I⟩
def Hr(Z:zin l){D:Nat->Prop}(Y:∀j,D j->∀o,l[j]?=some o->∀p∈preds o,D p):
 ∀(j:Nat) o,l[j]?=some o->(∀p∈preds o,D p)->∀i∈(jk l []).getD j [],D i:=by
 intro j;induction j using Nat.strongRecOn with
 |_ j ih=>
  intro o M hp i I;rcases(Wm M (Z.lt j o M)).1 I with h|⟨p,m,V⟩
  .exact hp i h
  .have J:=Z.lt j o M p m
   grind
def pQ:i∈kZ l↔∃o,l[i]?=some o/\nN o=true:=by
 unfold kZ
 grind
def mn:i∈Region.ready .any ops C↔∃o,ops.toList[i]?=some o/\C.getD i true=false/\∀p∈preds o,C.getD p false=true:=by
 unfold Region.ready preds;rw[He,rI,z6];constructor
 .rintro⟨m,j⟩;rw[tN m]at j;simp only[da,sF,sD,bN,Array.all_eq_true_iff_forall_mem,sG]at j;refine⟨_,tN m,j.1,fun p hp=>?_⟩;simp only[mh,He]at hp;obtain⟨e,⟨Y,Z⟩,rfl⟩:=hp;rcases j.2 e zL with h|h
  .rw[Z]at h;simp at h
  .exact h
 grind
theorem Ht{l:qB}:∀(k s:Nat),s+k=l.length->∃m,s<=m/\m<=l.length/\(m=l.length\/m∈kZ l)/\∀j,s<=j->j<m->j∉kZ l
 |0,s,hs=>⟨s,ay _,ac,.inl ac,fun j Z Y=>ac⟩
 |k+1,s,hs=>by
  by_cases h:s∈kZ l
  .grind
  .obtain⟨m,Z,Y,C,V⟩:=Ht (l:=l) k (s+1) ac
   grind
section
variable {P:Program} {B:Bs} {cfg:Cfg}
structure Ctx (P:Program) (cfg:Cfg) (ih:zd4->Res) (f N:Nat) (l:qB) (E0:aq) (bt:Hp) (E':aq) (H':Hp) (rs:List Rec):Prop where
 cW:zin l
 len:rs.length=l.length
 eY:∀(i:Nat) (r:Rec),rs[i]?=some r->∃o,l[i]?=some o/\AtD P cfg ih f N l o r (hO rs E' i) (hO rs E' (i+1)) (cE rs H' i) (cE rs H' (i+1))
 zeroE:hO rs E' 0=E0
 fF:cE rs H' 0=bt
 next:∀i,i<l.length->(cE rs H' i).next<=(cE rs H' (i+1)).next
 dW:∀(i:Nat) (r:Rec),rs[i]?=some r->r.did=true->∀m,(m∈kZ l\/m=l.length)->(∀e∈kZ l,e∈(jk l []).getD i []->e<m)->(∀e∈kZ l,i∈(jk l []).getD e []->m<=e) ->
  zee P cfg r (cE rs H' m)=true
def Wo{bt:Hp}(hc:nO l=true)(hr:jU P cfg ih f N l l E0 bt=.done E' H' rs)(Y:wo P cfg (lY l) rs H'=true):
 Ctx P cfg ih f N l E0 bt E' H' rs:=by
 have j:=Ae hr;obtain⟨z1,z2⟩:=Hk j;have z:=Hh j;unfold wo at Y;simp only[da,jX]at Y;refine⟨Wn hc,z,fun i r I=>wE j I,z1,z2,fun i I=>?_,fun i r I hd m hm h1 h2=>?_⟩
 .have M:i<rs.length:=by omega
  have Z:=bj M;obtain⟨o,_,O⟩:=wE j Z;have h3:=CR (Y.1 _ (li Z));rw[O.eH,O.eH']at h3;exact h3
 .obtain⟨o,ho,O⟩:=wE j I;have J:GH (jk l []) (kZ l) i m=true:=by
   unfold GH;simp_all
  have hin:∀k,iu o.op=k->(k=.read\/k=.make)->(i,m)∈lY l:=fun k V hor=>by
   unfold lY
   grind
  have C:(i,m)∈lY l->zee P cfg r (cE rs H' m)=true:=fun h=>by
   grind
  have U:r.o=o:=O.eo;cases V:iu o.op with
  |read=>simp_all
  |make=>simp_all
  |cW=>unfold zee;rw[U,V]
  |eu=>unfold zee;rw[U,V]
section
variable {ih:zd4 -> Res} {f N:Nat} {ops:qQ} {E0 E':aq} {bt H':Hp} {rs:List Rec} (cx:Ctx P cfg ih f N ops.toList E0 bt E' H' rs)
include cx
def Ctx.eb(M:ops.toList[i]?=some o):∃r,rs[i]?=some r/\AtD P cfg ih f N ops.toList o r (hO rs E' i) (hO rs E' (i+1)) (cE rs H' i) (cE rs H' (i+1)):=by
 have I:i<rs.length:=by rw[cx.len];exact(gZ.1 M).1
 obtain⟨V,m,j⟩:=cx.eY i _ (bj I);simp_all
theorem Ctx.gk:∀(d s:Nat),s+d<=ops.toList.length->(∀j,s<=j->j<s+d->j∉kZ ops.toList) ->
 (cE rs H' s).next<=(cE rs H' (s+d)).next/\∀r,r<(cE rs H' s).next->(cE rs H' (s+d)).get r=(cE rs H' s).get r
 |0,s,_,_=>⟨ay _,fun _ _=>rfl⟩
 |d+1,s,hs,hn=>by
  obtain⟨C,I⟩:=Ctx.gk d s ac (fun j V z=>hn j V ac);have Z:s+d<ops.toList.length:=ac;obtain⟨r,hr,O⟩:=cx.eb (bj Z);have Y:nN (ops.toList[s+d])=false:=by
   cases m:nN (ops.toList[s+d])with
   |false=>rfl
   |true=>exact(hn (s+d) ac ac (pQ.2 ⟨_,bj Z,m⟩)).elim
  have J:cE rs H' (s+d+1)=cE rs H' (s+d)\/∃M,cE rs H' (s+d+1)=(cE rs H' (s+d)).alloc M:=by
   cases hd:r.did with
   |true=>exact Wk Y (O.f2 hd)
   |false=>exact .inl (O.no hd).2
  rw[show s+(d+1)=s+d+1 by omega];rcases J with e|⟨M,e⟩
  .simp_all
  .rw[e];refine⟨cb,fun k U=>?_⟩;rw[aD,af ac];exact I k U
theorem Ctx.bN:∀(d s:Nat),s+d<=ops.toList.length->(cE rs H' s).next<=(cE rs H' (s+d)).next
 |0,_,_=>ay _
 |d+1,s,hs=>dw (Ctx.bN d s ac) (by rw[show s+(d+1)=s+d+1 by omega];exact cx.next _ ac)
theorem Ctx.ez(t:Nat):∀s,s<=ops.toList.length ->
 (∃(i:Nat) (r:Rec) (o:Oper),i<s/\rs[i]?=some r/\ops.toList[i]?=some o/\o.dst=some t/\(∀(j:Nat) (V:Oper),j<s->ops.toList[j]?=some V->V.dst=some t->j<=i)/\(hO rs E' s).at t=r.val) \/
 ((∀(j:Nat) (V:Oper),j<s->ops.toList[j]?=some V->V.dst≠some t)/\(hO rs E' s).at t=E0.at t)
 |0,_=>.inr ⟨fun j V U=>ac,by rw[cx.zeroE]⟩
 |s+1,hs=>by
  have Y:ops.toList[s]?=some (ops.toList[s]' ac):=bj ac;obtain⟨r,hr,O⟩:=cx.eb Y;have I:=O.put;have Z:=Ctx.ez t s ac;by_cases hd:(ops.toList[s]' ac).dst=some t
  .refine .inl ⟨s,r,_,ac,hr,Y,hd,fun j V U _ _=>ac,?_⟩;rw[hd]at I;simp only[fN]at I;split at I
   .simp only[aQ]at I;rw[<-I,xU,ai rfl]
   .simp at I
  .have M:(hO rs E' (s+1)).at t=(hO rs E' s).at t:=by
    cases C:(ops.toList[s]' ac).dst with
    |none=>
     rw[C]at I;simp only[fN,aQ]at I;rw[<-I]
    |some d=>
     rw[C]at I hd;simp only[fN]at I;split at I
     .simp only[aQ]at I;rw[<-I,xU,af (fun e=>hd oO)]
     .simp at I
   grind
end
def gR(C:qL)(j:Nat):Prop:=C.getD j false=true
def x5(rs:List Rec)(l:qB)(M:aq)(D:Nat->Prop)(G:Gh)(a:Act):Prop:=∀t,
 (∃(i:Nat) (r:Rec) (o:Oper),D i/\rs[i]?=some r/\l[i]?=some o/\o.dst=some t/\(∀(j:Nat) (V:Oper),D j->l[j]?=some V->V.dst=some t->j<=i)/\VR G r.val (a.tmps.getD t undef)) \/
 ((∀(j:Nat) (V:Oper),D j->l[j]?=some V->V.dst≠some t)/\VR G (M.at t) (a.tmps.getD t undef))
def x5.fj{m:aq}{bt:Hp}(cx:Ctx P cfg ih f N ops.toList m bt E' H' rs){D:Nat->Prop}(hs:x5 rs ops.toList m D G a){s:Nat}
 (O:s<=ops.toList.length) (Z:∀(j:Nat) (o:Oper),ops.toList[j]?=some o->o.dst=some t->(D j↔j<s)):VR G ((hO rs E' s).at t) (a.tmps.getD t undef):=by
 rcases cx.ez t s O with⟨i,r,o,h1,Y,h3,h4,h5,h6⟩|⟨h1,Y⟩
 .rw[h6];have C:=(Z i o h3 h4).2 h1;rcases hs t with⟨M,r',V,z,J,U,I,g5,g6⟩|⟨z,_⟩
  .have e1:=h5 M V ((Z M V U I).1 z) U I;have e2:=g5 i o C h3 h4;have:M=i:=ac;subst this;rw[Y]at J;simp only[aQ]at J;subst J;exact g6
  grind
 .rw[Y];rcases hs t with⟨M,r',V,z,J,U,I,g5,g6⟩|⟨_,J⟩
  .grind
  .exact J
structure InvD (rs:List Rec) (l:qB) (N:Nat) (B:Bs) (nx0:Nat) (E0:aq) (H':Hp) (G0:Gh) (w0:World) (listed:qL) (a:Act) (w:World) (m:Nat) (G:Gh):Prop where
 size:listed.size=l.length
 cV:∀j,gR listed j->∀o,l[j]?=some o->∀p∈preds o,gR listed p
 le:m<=l.length
 eu:m=l.length\/m∈kZ l
 cN:¬gR listed m
 fA:∀e∈kZ l,e<m->gR listed e
 step:Step B nx0 G0 w0 (cE rs H' m) w G
 cL:∀r p,G.β r=some p->r<nx0\/∃j,gR listed j/\j<l.length/\(cE rs H' j).next<=r/\r<(cE rs H' (j+1)).next
 b8:x5 rs l E0 (gR listed) G a
 frame:a.tmps.size=N
 defers:a.defers=[]
def gR.set(I:i<C.size)(j:Nat):gR (C.setIfInBounds i true) j↔j=i\/gR C j:=by
 unfold gR;rw[lK,lK,zN]
 grind
def mS:=@gR.set
theorem x5.put{rs:List Rec}{l:qB}{E0:aq}{C:qL}{G J:Gh}{a:Act}(hs:x5 rs l E0 (gR C) G a)(he:Ext G J){i:Nat}(I:i<C.size){o:Oper}(m:l[i]?=some o){r:Rec}(hr:rs[i]?=some r)
 {v:Value} (hv:VR J r.val v) (hd:∀d,o.dst=some d->d<a.tmps.size/\∀(j:Nat) (U:Oper),gR C j->l[j]?=some U->U.dst=some d->j<=i):x5 rs l E0 (gR (C.setIfInBounds i true)) J (a.put o.dst v):=by
 intro t;by_cases V:o.dst=some t
 .obtain⟨h1,h2⟩:=hd t V;refine .inl ⟨i,r,o,(mS I i).2 (.inl rfl),hr,m,V,fun j U Y Z z=>?_,?_⟩
  .rcases(mS I j).1 Y with e|Y
   .omega
   simp_all
  .rw[V];simp only[Act.put];simp_all
 .have M:(a.put o.dst v).tmps.getD t undef=a.tmps.getD t undef:=by
   cases O:o.dst with
   |none=>rfl
   |some d=>
    rw[O]at V;have hne:d≠t:=fun e=>V oO;simp only[Act.put,lK,zN];rw[af hne]
  rw[M];rcases hs t with⟨i',r',U,g1,g2,g3,g4,g5,g6⟩|⟨g1,g2⟩
  .refine .inl ⟨i',r',U,(mS I i').2 (.inr g1),g2,g3,g4,fun j o'' Y Z z=>?_,g6.mono he⟩;rcases(mS I j).1 Y with e|Y
   .subst e;rw[m]at Z;simp only[aQ]at Z;subst Z;exact(V z).elim
   simp_all
  .refine .inr ⟨fun j U Y Z z=>?_,g2.mono he⟩;rcases(mS I j).1 Y with e|Y
   .subst e;rw[m]at Z;simp only[aQ]at Z;subst Z;exact(V z).elim
   grind
def Hu:t∈uR m o↔o.dst=some t\/(Operand.tmp t)∈o.op.operands.toList\/∃g b V,o.guard=some (g,b)/\m[g]?=some V/\V.dst=some t:=by
 unfold uR K8
 grind
def LU{p q:Oper}{d:Nat}(h:(p.dst=some d/\d∈uR m q)\/(q.dst=some d/\d∈uR m p)):Ab.clash m p q=true:=by
 unfold Ab.clash;rcases h with⟨Z,j⟩|⟨Z,j⟩
 .rw[Z];simp[j]
 simp_all
def Step.ew{Z:Hp}{O:Gh}{U:World}(h:Step B z G w H' w' J)(k:Step B z J w' Z U O):Step B z G w Z U O:=
 ⟨k.r,h.ext.trans k.ext,h.fr.trans k.fr h.new,h.new.trans k.new h.fr.size,fun r p hr=>by
  rcases k.cL r p hr with m|m
  .exact h.cL r p m
  .exact .inr m,k.mono,fun b o v Y=>by
  rcases k.dj b o v Y with m|m
  .exact h.dj b o v m
  .exact .inr m⟩
def Step.dY(h:Step B z G w H' w' J)(Z:j<=z):Step B j G w H' w' J:=
 ⟨h.r,h.ext,h.fr,h.new,fun r p hr=>(h.cL r p hr).imp id (fun e=>dw Z e),dw Z h.mono,h.dj⟩
def Snd.aY(P:Program)(B:Bs):Snd P B 0 (fun _=>.aY):=
 ⟨fun _ _ _ _ _ h=>pP,fun _ _ _ _ _ _ _ _ h=>pP,fun _ _ _ _ _ _ _ _ h=>pP⟩
def Wp(fit:Fit P)(hih:Snd P B n ih){nx0:Nat}{bt:Hp}(cx:Ctx P B.cC ih f N ops.toList E0 bt E' H' rs)(hnx:bt.next=nx0)
 {m:Nat} (Y:InvD rs ops.toList N B nx0 E0 H' G0 w0 C a w m G)  (hi:i∈Region.ready .any ops C) {K:Act->World->Prop}
 (hK:∀a' w' m' G',InvD rs ops.toList N B nx0 E0 H' G0 w0 (C.setIfInBounds i true) a' w' m' G'->K a' w'):wpOp P ops Q i K a w:=by
 obtain⟨o,ho,hun,hpr⟩:=mn.1 hi;obtain⟨r,hr,ha⟩:=cx.eb ho;have hil:i<ops.toList.length:=(gZ.1 ho).1;have O:i<C.size:=aX;have hnot:¬gR C i:=fun hd=>by
  unfold gR at hd;simp_all
 -- what comes before i is done;what comes behind it is not
 have M:∀j∈(jk ops.toList []).getD i [],gR C j:=Hr cx.cW Y.cV i o ho hpr;have hbehind:∀j,gR C j->∀oj,ops.toList[j]?=some oj->i∉(jk ops.toList []).getD j []:=fun j hj oj I hm=>
  hnot (Hr cx.cW Y.cV j oj I (Y.cV j hj oj I) i hm)
 -- the writers of the slots that i names
 have hagree:∀t∈uR ops.toList o,∀(j:Nat) (oj:Oper),ops.toList[j]?=some oj->oj.dst=some t->(gR C j↔j<i):=fun t ht j oj I hjd=>by
  constructor
  .intro hj;rcases C0 j i with h|h|h
   .exact h
   .simp_all
   .exact(hbehind j hj oj I (cx.cW.clash i j o oj h ho I (LU (.inr ⟨hjd,ht⟩)))).elim
  .intro hj;exact M j (cx.cW.clash j i oj o hj I ho (LU (.inl ⟨hjd,ht⟩)))
 have hslot:∀t∈uR ops.toList o,VR G ((hO rs E' i).at t) (a.tmps.getD t undef):=fun t ht=>Y.b8.fj cx (Nat.le_of_lt hil) (hagree t ht);have z:wD G (hO rs E' i) a o.op.operands:=fun x hx c hc=>by
  cases x with
  |tmp t=>simp only[aT,aQ]at hc;subst hc;exact hslot t (Hu.2 (.inr (.inl (by simpa using hx))))
  |const v=>exact xV hc
  |global g=>simp[aT]at hc
  |func f=>simp only[aT,aQ]at hc;subst hc;exact .bJ (vs:=[]) rfl aw
 have hwant:=LO (G:=G) (E:=hO rs E' i) (a:=a) (ops:=ops) (o:=o) (fun g b d hg hd=>by
  simp only[gG]at hd;obtain⟨o',h1,h2⟩:=hd;exact hslot d (Hu.2 (.inr (.inr ⟨g,b,o',hg,bb,h2⟩))))
 have hdst:∀d,o.dst=some d->d<a.tmps.size/\∀(j:Nat) (o':Oper),gR C j->ops.toList[j]?=some o'->o'.dst=some d->j<=i:=fun d hd=>by
  refine⟨?_,fun j o' hj hjo hjd=>Nat.le_of_lt ((hagree d (Hu.2 (.inl hd)) j o' hjo hjd).1 hj)⟩;have hp:=ha.put;rw[hd]at hp;simp only[fN]at hp;split at hp
  .rename_i hb;rw[Y.frame];simp_all
  .simp at hp
 have hclosed':∀j,gR (C.setIfInBounds i true) j->∀oj,ops.toList[j]?=some oj->∀p∈preds oj,gR (C.setIfInBounds i true) p:=fun j hj oj I p hp=>by
  rcases(mS O j).1 hj with rfl|hj
  .rw[ho]at I;simp only[aQ]at I;subst I;exact(mS O p).2 (.inr (hpr p hp))
  .exact(mS O p).2 (.inr (Y.cV j hj oj I p hp))
 -- an act comes up in its turn
 have hturn:nN o=true->i=m:=fun hact=>by
  have J:i∈kZ ops.toList:=pQ.2 ⟨o,ho,hact⟩;rcases C0 i m with h|h|h
  .exact(hnot (Y.fA i J h)).elim
  .exact h
  .rcases Y.eu with e|e
   .omega
   .obtain⟨om,hom,hactm⟩:=pQ.1 e;exact(Y.cN (M m (cx.cW.clash m i om o h hom ho G9))).elim
 -- how the invariant goes on
 have hfin:∀(v:Value) (w':World) (G':Gh) (X:Hp),VR G' r.val v->Step B nx0 G w X w' G' ->
  (∀k p,G'.β k=some p->G.β k=some p\/((cE rs H' i).next<=k/\k<(cE rs H' (i+1)).next)) ->
  ((i≠m/\X=cE rs H' m)\/(i=m/\X=cE rs H' (i+1)))->K (a.put o.dst v) w':=fun v w' G' X hv U hlow hX=>by
  have hslots':=Y.b8.put U.ext O ho hr hv hdst;have hlow':∀k p,G'.β k=some p->k<nx0\/∃j,gR (C.setIfInBounds i true) j/\j<ops.toList.length/\(cE rs H' j).next<=k/\k<(cE rs H' (j+1)).next:=fun k p hk=>by
   rcases hlow k p hk with h|h
   .rcases Y.cL k p h with h|⟨j,h1,h2⟩
    .exact .inl h
    .exact .inr ⟨j,(mS O j).2 (.inr h1),h2⟩
   .exact .inr ⟨i,(mS O i).2 (.inl rfl),hil,h⟩
  have hframe':(a.put o.dst v).tmps.size=N:=by rw[<-Y.frame];cases o.dst<;>simp[Act.put]
  have hdef':(a.put o.dst v).defers=[]:=by have:=Y.defers;cases o.dst<;>exact this
  rcases hX with⟨hne,rfl⟩|⟨rfl,rfl⟩
  .refine hK _ _ m G' ⟨by simpa using Y.size,hclosed',Y.le,Y.eu,fun hd=>?_,fun e he hlt=>(mS O e).2 (.inr (Y.fA e he hlt)),Y.step.ew U,hlow',hslots',hframe',hdef'⟩;rcases(mS O m).1 hd with h|h
   .exact hne h.symm
   .exact Y.cN h
  ·-- the next act
   obtain⟨m',q1,q2,q3,q4⟩:=Ht (l:=ops.toList) (ops.toList.length-(i+1)) (i+1) ac;obtain⟨g1,g2⟩:=cx.gk (m'-(i+1)) (i+1) ac (fun j h1 h2=>q4 j h1 ac);rw[show i+1+(m'-(i+1))=m' by omega]at g1 g2;have hst2:Step B nx0 G0 w0 (cE rs H' m') w' G':=by
    have:=Y.step.ew U;exact⟨this.r.more g1 g2,this.ext,this.fr,this.new,this.cL,dw this.mono g1,this.dj⟩
   have hact:∀e∈kZ ops.toList,e<m'->gR (C.setIfInBounds i true) e:=fun e he hlt=>by
    by_cases h:e<i
    .exact(mS O e).2 (.inr (Y.fA e he h))
    .by_cases h2:e=i
     .exact(mS O e).2 (.inl h2)
     grind
   refine hK _ _ m' G' ⟨by simpa using Y.size,hclosed',q2,q3,fun hd=>?_,hact,hst2,hlow',hslots',hframe',hdef'⟩;rcases(mS O m').1 hd with h|h
   .omega
   ·-- m' is done though i,an act before it,was not
    have hm'l:m'<ops.toList.length:=by
     rcases Nat.lt_or_ge m' ops.toList.length with h3|h3
     .exact h3
     .unfold gR at h;rw[lK,Array.getElem?_eq_none (by rw[Y.size];exact h3)]at h;simp at h
    rcases q3 with e|e
    .omega
    .obtain⟨om,hom,hactm⟩:=pQ.1 e;rcases Y.eu with e2|e2
     .omega
     .obtain⟨oi,hoi,hacti⟩:=pQ.1 e2;rw[ho]at hoi;simp only[aQ]at hoi;subst hoi;exact hbehind m' h om hom (cx.cW.clash i m' o om ac ho hom G9)
 -- the range of m for the looks
 have hlo:∀e∈kZ ops.toList,e∈(jk ops.toList []).getD i []->e<m:=fun e he hA=>by
  have hd:=M e hA;rcases Nat.lt_or_ge e m with h|h
  .exact h
  .exfalso;rcases Y.eu with e2|e2
   .have:=(pQ.1 he);simp_all
   .by_cases e3:e=m
    .subst e3;exact Y.cN hd
    .obtain⟨om,hom,hactm⟩:=pQ.1 e2;obtain⟨oe,hoe,hacte⟩:=pQ.1 he;exact Y.cN (Hr cx.cW Y.cV e oe hoe (Y.cV e hd oe hoe) m (cx.cW.clash m e om oe ac hom hoe G9))
 have hhi:∀e∈kZ ops.toList,i∈(jk ops.toList []).getD e []->m<=e:=fun e he hA=>by
  rcases Nat.lt_or_ge e m with h|h
  .obtain⟨oe,hoe,_⟩:=pQ.1 he;exact(hbehind e (Y.fA e he h) oe hoe hA).elim
  .exact h
 unfold wpOp;rw[show ops[i]?=some o by simp_all];simp only[];have hnxm:nx0<=(cE rs H' m).next:=Y.step.mono
 have hsame:Step B nx0 G w (cE rs H' m) w G:=(md Y.step.r).dY hnxm;have hstill:∀(v:Value) (w':World) (G':Gh),i≠m->VR G' r.val v->Step B (cE rs H' m).next G w (cE rs H' m) w' G'->K (a.put o.dst v) w':=fun v w' G' J hv U=>
  hfin v w' G' _ hv (U.dY hnxm) (fun k p hk=>by
   rcases U.cL k p hk with h|h
   .exact .inl h
   .have:=U.r.dv k p hk;omega) (.inl ⟨J,rfl⟩)
 have hnotact:nN o=false->i≠m:=fun hna e=>by
  rcases Y.eu with e2|e2
  .omega
  .obtain⟨om,hom,hactm⟩:=pQ.1 e2;simp_all
 cases hd:r.did with
 |false=>
  have hw:Region.wanted o (yielded ops a.tmps)=false:=by rw[<-hwant,ha.f5];exact hd
  rw[hw];simp only[dM,fG];obtain⟨hval,hheap⟩:=ha.no hd;by_cases J:i=m
  .subst J;exact hfin undef w G (cE rs H' (i+1)) (by rw[hval];exact zR G) bb (fun k p hk=>.inl hk) (.inr ⟨rfl,rfl⟩)
  .exact hfin undef w G _ (by rw[hval];exact zR G) hsame (fun k p hk=>.inl hk) (.inl ⟨J,rfl⟩)
 |true=>
  have hw:Region.wanted o (yielded ops a.tmps)=true:=by rw[<-hwant,ha.f5];exact hd
  rw[hw];simp only[ft];have hop:=ha.f2 hd;refine .inl ?_;cases Z:iu o.op with
  |eu=>
   have J:=hturn (by simp[nN,Z]);subst J;refine CZ fit hih Y.step.r z hop fun v w' G' hv U=>?_;refine hfin v w' G' _ hv (U.dY hnxm) (fun k p hk=>?_) (.inr ⟨rfl,rfl⟩);rcases U.cL k p hk with h|h
   .exact .inl h
   .exact .inr ⟨h,U.r.dv k p hk⟩
  |cW=>
   have hnc:∀c,o.op≠.call c:=fun c e=>by
    rw[e]at Z;simp only[iu]at Z;grind
   have J:=hnotact (by simp[nN,Z]);have hX:=(Hl (P:=P) (by simp[tO,Z]) ((wF hnc).1 hop)).2 (cE rs H' m);have hop':eF P B.cC ih f (hO rs E' i) (cE rs H' m) o.op=.val r.val (cE rs H' m):=(wF hnc).2 hX;exact CZ fit hih Y.step.r z hop' fun v w' G' hv U=>hstill v w' G' J hv U
  |read=>
   have J:=hnotact (by simp[nN,Z]);have V:=cx.dW i r hr hd m Y.eu.symm hlo hhi;unfold zee at V;rw[ha.eo,Z,ha.eE]at V;simp only[]at V;split at V
   .rename_i v1 H1 hop';have hv1:=AV.bh V;subst hv1;have hH1:=Hm (by simp[sJ,Z]) hop';subst hH1;exact CZ fit (Snd.aY P B) Y.step.r z hop' fun v w' G' hv U=>hstill v w' G' J hv U
   .simp at V
  |make=>
   have J:=hnotact (by simp[nN,Z]);have hnc:∀c,o.op≠.call c:=fun c e=>by
    rw[e]at Z;simp only[iu]at Z;split at Z<;>simp at Z
   have hopA:=(wF hnc).1 hop;obtain⟨blk,obj,ext,v,hH1,hrun,hmade,hv⟩:=Wc (P:=P) (w:=w) (by simp[uS,Z]) z hopA;have V:=cx.dW i r hr hd m Y.eu.symm hlo hhi;unfold zee at V;rw[ha.eo,Z,ha.eH,ha.eH']at V;simp only[]at V;have hnext1:(cE rs H' (i+1)).next=(cE rs H' i).next+1:=by rw[hH1];rfl
   have hgetm:(cE rs H' m).get (cE rs H' i).next=some blk:=by
    split at V
    .rename_i b b' h1 h2;rw[HB.bh V]at h1;rw[hH1,aD,ai rfl]at h2;simp only[aQ]at h2;subst h2;exact h1
    .simp at V
   have hlt:i<m:=by
    rcases C0 i m with h|h|h
    .exact h
    .exact(J h).elim
    .exfalso;rcases Y.eu with e2|e2
     .omega
     .obtain⟨om,hom,hactm⟩:=pQ.1 e2;exact Y.cN (M m (cx.cW.clash m i om o h hom ho (by unfold Ab.clash;simp[hactm,uS,Z])))
   have hr0:(cE rs H' i).next<(cE rs H' m).next:=by
    have:=cx.bN (m-(i+1)) (i+1) (by have:=Y.le;omega);rw[show i+1+(m-(i+1))=m by omega]at this;omega
   have hnx0:nx0<=(cE rs H' i).next:=by
    have:=cx.bN i 0 ac;rw[bR,cx.fF,hnx]at this;exact this
   have hno:∀q,G.β (cE rs H' i).next=some q->False:=fun q hq=>by
    rcases Y.cL _ q hq with h|⟨j,h1,h2,h3,h4⟩
    .omega
    .rcases C0 j i with h|h|h
     .have:=cx.bN (i-(j+1)) (j+1) ac;rw[show j+1+(i-(j+1))=i by omega]at this;omega
     .subst h;exact hnot h1
     .have:=cx.bN (j-(i+1)) (i+1) ac;rw[show i+1+(j-(i+1))=j by omega]at this;omega
   have U:=Le Y.step.r hno hr0 hgetm hnx0 hmade;unfold Oper.wp;rw[hrun];refine hfin v _ _ _ (hv _ (tJ _ _ _)) U (fun k p hk=>?_) (.inl ⟨J,rfl⟩);simp only[Gh.add]at hk
   grind
def Hv(I:i<C.size)(j:C[i]=false):(C.setIfInBounds i true).toList.countP (·=false)+1=C.toList.countP (·=false):=by
 grind
def Wq(fit:Fit P)(hih:Snd P B n ih){O:Nat}{bt:Hp}(cx:Ctx P B.cC ih f N ops.toList E0 bt E' H' rs)(hnx:bt.next=O)
 (hE':hO rs E' ops.toList.length=E') (hH':cE rs H' ops.toList.length=H')  (hQ:∀e a w,lO B N O G0 w0 .normal E' H' e a w->Q e a w) :
 ∀(V:Nat) (C:qL) (a:Act) (w:World) (m:Nat) (G:Gh),InvD rs ops.toList N B O E0 H' G0 w0 C a w m G->C.toList.countP (·=false)<=V->wpAny P .any ops Q V C a w:=by
 -- at the end all is done
 have J:∀(C:qL) (a:Act) (w:World) (m:Nat) (G:Gh),InvD rs ops.toList N B O E0 H' G0 w0 C a w m G->Region.ready .any ops C=[]->Q .normal a w:=fun C a w m G Z M=>by
  have z:∀j,j<ops.toList.length->gR C j:=fun j=>by
   induction j using Nat.strongRecOn with
   |_ j ihj=>
    intro hj;have ho:=bj hj;have I:j<C.size:=by rw[Z.size];exact hj
    cases hl:C[j]with
    |true=>
     unfold gR;rw[lK,tN I,hl];rfl
    |false=>
     exfalso;have:j∈Region.ready .any ops C:=mn.2 ⟨_,ho,by rw[lK,tN I,hl];rfl,fun p hp=>by
      have hlt:=cx.cW.lt j _ ho p hp;exact ihj p hlt ac⟩
     rw[M]at this;simp at this
  have hm:m=ops.toList.length:=by
   rcases Z.eu with e|e
   .exact e
   .obtain⟨om,hom,_⟩:=pQ.1 e;exact(Z.cN (z m (gZ.1 hom).1)).elim
  subst hm;have hst:=Z.step;rw[hH']at hst;refine hQ _ _ _ ⟨rfl,G,⟨Z.frame,fun t=>?_⟩,hst,Z.defers⟩;have:=Z.b8.fj cx (t:=t) (ay _) (fun j oj hoj _=>⟨fun _=>(gZ.1 hoj).1,fun h=>z j h⟩);simp_all
 intro V;induction V with
 |zero=>
  intro C a w m G Z hc;have M:Region.ready .any ops C=[]:=by
   apply Ad.2;intro i hi;obtain⟨o,ho,U,_⟩:=mn.1 hi;have Y:i<C.size:=aX;rw[lK,tN Y]at U;have:=Hv Y Ac;omega
  exact⟨M,J C a w m G Z M⟩
 |succ V ihf=>
  intro C a w m G Z hc;refine⟨fun M=>J C a w m G Z M,fun i hi=>?_⟩;obtain⟨o,ho,U,_⟩:=mn.1 hi;have Y:i<C.size:=aX;rw[lK,tN Y]at U;have hcs:=Hv Y Ac;exact Wp fit hih cx hnx Z hi (fun a' w' m' G' hI'=>ihf _ a' w' m' G' hI' ac)
def LV(fit:Fit P)(J:Snd P B n ih)(hr:jV P B.cC ih f N ops.toList E H=.done x E' H')
 (h:R B H w G) (ht:TR N G E a) (hd:a.defers=[])  (hQ:∀e a' w',lO B N H.next G w x E' H' e a' w'->Q e a' w'):wpAny P .any ops Q ops.size (Array.replicate ops.size false) a {w with drawn:=w.drawn+1}:=by
 unfold jV at hr;split at hr
 .rename_i V;split at hr
  .rename_i E1 H1 rs O;split at hr
   .rename_i U;simp only[Res.done.injEq]at hr;obtain⟨rfl,rfl,rfl⟩:=hr;have cx:=Wo V O U;have hlen:=cx.len;have C:hO rs E1 ops.toList.length=E1:=by unfold hO;simp_all
    have hH':cE rs H1 ops.toList.length=H1:=by unfold cE;simp_all
    obtain⟨m,q1,q2,q3,q4⟩:=Ht (l:=ops.toList) ops.toList.length 0 ac;obtain⟨z,g2⟩:=cx.gk m 0 ac (fun j _ Y=>q4 j ac ac);rw[bR,cx.fF]at z g2;have hdr:R B H {w with drawn:=w.drawn+1} G:=h.heap rfl;have M:Step B H.next G w (cE rs H1 m) {w with drawn:=w.drawn+1} G:=
     ⟨hdr.more z g2,xT _,⟨rfl,rfl,rfl,ay _,fun _ _ _=>rfl⟩,ww _ _,fun _ _ h=>.inl h,z,fun _ _ _ h=>.inl h⟩
    have Z:∀j,¬gR (Array.replicate ops.size false) j:=fun j Y=>by
     unfold gR at Y;rw[lK,Array.getElem?_replicate]at Y
     grind
    refine Wq fit J cx rfl C hH' hQ ops.size _ a _ m G
     ⟨aw,fun j Y=>(Z j Y).elim,q2,q3,Z m,fun e he I=>(q4 e (cZ _) I he).elim,M,fun r p hr=>.inl (h.dv r p hr),fun t=>.inr ⟨fun j o' Y=>(Z j Y).elim,ht.b8 t⟩,ht.size,hd⟩ ?_
    exact dw List.countP_le_length aw
   .simp at hr
  .simp at hr
 .simp at hr
end
def mo(ops:qQ):qG->qL->Prop
 |[],listed=>Region.ready .any ops listed=[]
 |i::L,listed=>i∈Region.ready .any ops listed/\mo ops L (listed.setIfInBounds i true)
theorem LW{ops:qQ}:∀(V t:Nat) (C:qL),C.size=ops.size->C.toList.countP (·=false)<=V->mo ops (Region.linearise.go .any ops V t C []) C
 |0,t,C,hs,hc=>by
  show Region.ready .any ops C=[];apply Ad.2;intro i I;obtain⟨o,M,U,_⟩:=mn.1 I;have j:i<C.size:=aX;rw[lK,tN j]at U;have:=Hv j Ac;omega
 |V+1,t,C,hs,hc=>by
  simp only[Region.linearise.go];change mo ops (match (Region.ready .any ops C)[t%(Region.ready .any ops C).length]? with
   |some i=>Region.linearise.go .any ops V (t/(Region.ready .any ops C).length) (C.setIfInBounds i true) [i]
   |none=>[].reverse) C
  cases I:(Region.ready .any ops C)[t%(Region.ready .any ops C).length]? with
  |none=>
   show Region.ready .any ops C=[];cases hr:Region.ready .any ops C with
   |nil=>rfl
   |cons x z=>
    rw[hr]at I;have J:t%(x::z).length<(x::z).length:=Nat.mod_lt _ aw
    grind
  |some i=>
   simp only[];rw[linearise_go_acc,List.reverse_singleton,Hf];have Y:=li I;refine⟨Y,LW V _ _ (by simpa using hs) ?_⟩;obtain⟨o,M,U,_⟩:=mn.1 Y;have j:i<C.size:=by rw[hs];have:=(gZ.1 M).1;simpa using this
   rw[lK,tN j]at U
   grind
section
variable {P:Program} {Q:Exit -> Act -> World -> Prop}
theorem Hw{ops:qQ}:∀(L:qG) (V:Nat) (C:qL) (a:Act) (w:World),wpAny P .any ops Q V C a w->mo ops L C->wpOps P ops Q L a w
 |[],0,C,a,w,h,_=>h.2
 |[],V+1,C,a,w,h,hv=>h.1 hv
 |i::L,0,C,a,w,h,hv=>by
  have m:=hv.1;rw[h.1]at m;simp at m
 |i::L,V+1,C,a,w,h,hv=>by
  rw[wpOps_cons];exact wpOp_mono (fun a w O=>Hw L V _ a w O hv.2) (h.2 i hv.1)
def Wr{id:Nat}(Y:P.follows .mixedOrders=true)
 (h:∀L,mo ops L (Array.replicate ops.size false)->wpOps P ops Q L a {w with drawn:=w.drawn+1}):(Code.region id ops true).wp P Q a w:=
 wp_region_draw fun t=>by
  simp only[Region.schedule,Y,nU,ft];exact h _ (LW ops.size t _ aw (dw List.countP_le_length aw))
theorem Hx{ops ops':qQ}{φ:Nat->Nat}:∀(L:qG) (a:Act) (w:World),
 (∀i∈L,∃o V,ops[i]?=some o/\ops'[φ i]?=some V/\(∃M gd,V={o with after:=M,guard:=gd})/\∀a:Act,Region.wanted V (yielded ops' a.tmps)=Region.wanted o (yielded ops a.tmps)) ->
 wpOps P ops' Q (L.map φ) a w->wpOps P ops Q L a w
 |[],_,_,_,h=>h
 |i::L,a,w,hr,h=>by
  rw[eK,wpOps_cons]at h;rw[wpOps_cons];obtain⟨o,V,U,O,⟨M,gd,C⟩,J⟩:=hr i eg;have m:∀a w,wpOps P ops' Q (L.map φ) a w->wpOps P ops Q L a w:=fun a w=>Hx L a w (fun j Y=>hr j (en _ Y));have Z:=wpOp_mono m h;unfold wpOp at Z⊢;rw[O]at Z;rw[U];simp only[]at Z⊢;rw[J a]at Z;subst C;exact Z
end
def C2(q p:Nat)(l:qB):(eU q p l).length=l.length:=by
 unfold eU;split<;>simp
theorem Af(h:l[i]?=some o):
 ∃V,(eU q p l)[i]?=some V/\(∃M,V={o with after:=M})/\(i≠q->V=o)/\∀j,j∈preds V↔j∈preds o\/(i=q/\j=p):=by
 unfold eU;have I:=(gZ.1 h).1;by_cases e:i=q
 .subst e;rw[h];refine⟨_,List.getElem?_set_self I,⟨_,rfl⟩,fun Z=>(Z rfl).elim,fun j=>?_⟩;unfold preds;have:(o.after.push {on:=p,ground:=.data}).toList=o.after.toList++[{on:=p,ground:=.data}]:=aw;rw[this,List.filter_append,oP,nT];have Y:(List.filter (Region.binds .any) [({on:=p,ground:=.data}:Edge)])=[{on:=p,ground:=.data}]:=rfl;rw[Y];simp
 .have hx:∀J,(l.set q J)[i]?=some o:=fun J=>by grind
  split
  .exact⟨o,hx _,⟨o.after,rfl⟩,fun _=>rfl,fun j=>⟨.inl,fun h=>h.elim id (fun h=>(e h.1).elim)⟩⟩
  .exact⟨o,h,⟨o.after,rfl⟩,fun _=>rfl,fun j=>⟨.inl,fun h=>h.elim id (fun h=>(e h.1).elim)⟩⟩
def LX{V:Oper}(h:(eU q p l)[i]?=some V):∃o,l[i]?=some o:=by
 have:=(gZ.1 h).1;rw[C2]at this;simp_all
theorem Wt(j:Nat):((eU q p l)[j]?).bind (·.dst)=(l[j]?).bind (·.dst):=by
 cases h:l[j]? with
 |none=>
  rw[sH (by rw[C2];simp_all)]
 |some o=>
  obtain⟨V,m,⟨M,rfl⟩,_⟩:=Af (q:=q) (p:=p) h;rw[m];rfl
def LY(h:i∈Region.ready .any (eU q p l).toArray C):i∈Region.ready .any l.toArray C:=by
 obtain⟨O,m,Z,V⟩:=mn.1 h;simp only[]at m;obtain⟨o,M⟩:=LX m;obtain⟨J,z,_,_,U⟩:=Af (q:=q) (p:=p) M;rw[m]at z;simp only[aQ]at z;subst z;exact mn.2 ⟨o,M,Z,fun j Y=>V j ((U j).2 (.inl Y))⟩
def Ag(h:i∈Region.ready .any l.toArray C)(V:i=q->C.getD p false=true):i∈Region.ready .any (eU q p l).toArray C:=by
 obtain⟨o,m,Z,U⟩:=mn.1 h;simp only[]at m;obtain⟨J,z,_,_,O⟩:=Af (q:=q) (p:=p) m;refine mn.2 ⟨J,z,Z,fun j Y=>?_⟩
 grind
def Wu(h:C.getD p false=true):(C.setIfInBounds i true).getD p false=true:=by
 simp only[lK,zN]at *
 grind
theorem Hy{q p:Nat}{l:qB}:∀{L:qG}{C:qL},C.getD p false=true->mo l.toArray L C->mo (eU q p l).toArray L C
 |[],C,_,hv=>by
  show Region.ready .any (eU q p l).toArray C=[];apply Ad.2;intro i I;have:=LY I;rw[show Region.ready .any l.toArray C=[]from hv]at this;simp at this
 |i::L,C,hd,hv=>⟨Ag hv.1 (fun _=>hd),Hy (Wu hd) hv.2⟩
theorem LZ{p q:Nat}(z:p≠q){l:qB}:∀{L:qG}{C:qL},C.size=l.length->mo l.toArray L C->mo (eU q p l).toArray L C\/mo (eU p q l).toArray L C
 |[],C,_,hv=>.inl <|by
  show Region.ready .any (eU q p l).toArray C=[];apply Ad.2;intro i I;have:=LY I;rw[show Region.ready .any l.toArray C=[]from hv]at this;simp at this
 |i::L,C,hs,hv=>by
  have j:i<C.size:=by
   obtain⟨o,Z,_⟩:=mn.1 hv.1
   grind
  have Y:(C.setIfInBounds i true).getD i false=true:=by
   simp_all
  by_cases m:i=q
  .subst m;exact .inr ⟨Ag hv.1 (fun e=>(z e.symm).elim),Hy Y hv.2⟩
  .by_cases M:i=p
   .subst M;exact .inl ⟨Ag hv.1 (fun e=>(m e).elim),Hy Y hv.2⟩
   .rcases LZ z (by simpa using hs) hv.2 with h|h
    .exact .inl ⟨Ag hv.1 (fun e=>(m e).elim),h⟩
    .exact .inr ⟨Ag hv.1 (fun e=>(M e).elim),h⟩
theorem HA{ops:qQ}:∀{L:qG}{C:qL},mo ops L C->∀i∈L,∃o,ops.toList[i]?=some o
 |[],_,_,i,I=>by simp at I
 |j::L,C,hv,i,I=>by
  rcases gH.1 I with rfl|I
  .obtain⟨o,M,_⟩:=mn.1 hv.1;exact⟨o,M⟩
  .exact HA hv.2 i I
theorem L0(Z:mo l.toArray L C)
 (h:wpOps P (eU q p l).toArray Q L a w):wpOps P l.toArray Q L a w:=by
 refine Hx (ops':=(eU q p l).toArray) (φ:=id) L a w (fun i I=>?_) mR;obtain⟨o,M⟩:=HA Z i I;simp only[]at M;obtain⟨V,z,⟨Y,rfl⟩,_⟩:=Af (q:=q) (p:=p) M;refine⟨o,_,by simpa using M,by simpa using z,⟨Y,o.guard,rfl⟩,fun a=>?_⟩;have hy:yielded (eU q p l).toArray a.tmps=yielded l.toArray a.tmps:=funext fun j=>by
  unfold yielded;have:=Wt (q:=q) (p:=p) (l:=l) j;simp_all
 rw[hy];rfl
structure zf7 (ord:qG) (l:qB):Prop where
 len:ord.length=l.length
 bk:∀k:Nat,k<l.length->∃i,ord[k]?=some i/\i<l.length/\jt ord i=k
 lt:∀i:Nat,i<l.length->jt ord i<l.length/\ord[jt ord i]?=some i
 db:∀(i:Nat) o,l[i]?=some o->(∀p∈preds o,p<l.length)/\∀j b,o.guard=some (j,b)->j<l.length
def Wv{ord:qG}(h:wq ord l=true):zf7 ord l:=by
 unfold wq at h;simp only[da,jX,rI]at h;obtain⟨⟨m,Z⟩,C⟩:=h;refine⟨rH m,fun k z=>?_,fun i I=>?_,fun i o M=>?_⟩
 .simp_all
 .have V:=(Z i I).1.2;have Y:=(Z i I).2;simp_all
 .have:=C o (li M);refine⟨fun p hp=>by simpa [sI]using this.1 p hp,fun j b hg=>?_⟩;simp_all
theorem L2{I β:Type}{f:I->Option β}:∀{z:List I},(∀x∈z,(f x).isSome=true)->∀k:Nat,(z.filterMap f)[k]?=(z[k]?).bind f
 |[],_,k=>by simp
 |x::z,h,k=>by
  obtain⟨y,hy⟩:=Option.isSome_iff_exists.1 (h x eg);rw[List.filterMap_cons_some hy];cases k with
  |zero=>simp[hy]
  |succ k=>simp[L2 (fun x hx=>h x (en _ hx)) k]
section
variable {ord:qG} {l:qB} (hp:zf7 ord l)
include hp
def zf7.eY(h:l[i]?=some o):(fo ord l)[jt ord i]?=some (tD ord o):=by
 have I:=(gZ.1 h).1;unfold fo;rw[L2 (fun x hx=>?_)]
 .rw[(hp.lt i I).2];simp[h]
 .obtain⟨k,z⟩:=Hg.1 hx;have C:k<l.length:=by rw[<-hp.len];exact(gZ.1 z).1
  obtain⟨M,m,j,_⟩:=hp.bk k C;simp_all
def zf7.length:(fo ord l).length=l.length:=by
 have:∀k,k<l.length->((fo ord l)[k]?).isSome=true:=fun k z=>by
  obtain⟨i,m,j,C⟩:=hp.bk k z;have:=hp.eY (bj j);rw[C]at this;rw[this];rfl
 refine Nat.le_antisymm (dw (List.length_filterMap_le _ _) (by rw[hp.len];exact ay _)) ?_
 grind
def zf7.of{k:Nat}{V:Oper}(h:(fo ord l)[k]?=some V):∃i o,l[i]?=some o/\jt ord i=k/\V=tD ord o:=by
 have z:k<l.length:=by rw[<-hp.length];exact(gZ.1 h).1
 obtain⟨i,m,j,C⟩:=hp.bk k z;have:=hp.eY (bj j)
 grind
def zf7.inj(I:i<l.length)(Y:j<l.length)(h:jt ord i=jt ord j):i=j:=by
 have m:=(hp.lt i I).2;rw[h,(hp.lt j Y).2]at m;simp_all
theorem zf7.preds:Ab.preds (tD ord o)=(Ab.preds o).map (jt ord):=by
 unfold Ab.preds tD;simp only[uZ];rw[List.filter_map];have:(Region.binds .any ∘ fun e:Edge=>{e with on:=jt ord e.on})=Region.binds .any:=rfl;simp_all
def Ah(ord:qG)(l:qB)(x y:qL):Prop:=x.size=l.length/\y.size=l.length/\∀i,i<l.length->y[jt ord i]?=x[i]?
def Ah.set{x:qL}(h:Ah ord l x y)(I:i<l.length):Ah ord l (x.setIfInBounds i true) (y.setIfInBounds (jt ord i) true):=by
 refine⟨by simpa using h.1,by simpa using h.2.1,fun j Y=>?_⟩;simp only[zN];by_cases e:i=j
 .subst e;rw[ai rfl,ai rfl,ai (by rw[h.2.1];exact(hp.lt i I).1),ai (by rw[h.1];exact I)]
 .rw[af e,af (fun U=>e (hp.inj I Y U))];exact h.2.2 j Y
def L3{x:qL}(h:Ah ord l x y)(I:i<l.length):jt ord i∈Region.ready .any (fo ord l).toArray y↔i∈Region.ready .any l.toArray x:=by
 have M:=bj I;have Y:=hp.eY M;rw[mn,mn];simp only[];have hd:∀(j:Nat) (b:Bool),j<l.length->y.getD (jt ord j) b=x.getD j b:=fun j b O=>by
  simp only[lK,h.2.2 j O]
 constructor
 .rintro⟨J,Z,C,V⟩;rw[Y]at Z;simp only[aQ]at Z;subst Z;refine⟨_,M,bb,fun p z=>?_⟩;rw[<-hd p false ((hp.db i _ M).1 p z)];exact V _ (by rw[hp.preds];grind)
 .rintro⟨J,Z,C,V⟩;rw[M]at Z;simp only[aQ]at Z;subst Z;refine⟨_,Y,bb,fun p z=>?_⟩;rw[hp.preds]at z;obtain⟨U,m,rfl⟩:=mh.1 z;rw[hd U false ((hp.db i _ M).1 U m)];exact V U m
theorem L4:∀{L:qG}{x y:qL},Ah ord l x y->mo l.toArray L x->mo (fo ord l).toArray (L.map (jt ord)) y
 |[],x,y,hs,hv=>by
  show Region.ready .any (fo ord l).toArray y=[];apply Ad.2;intro k z;obtain⟨V,Z,_⟩:=mn.1 z;simp only[]at Z;obtain⟨i,o,m,j,_⟩:=hp.of Z;have I:=(gZ.1 m).1;rw[<-j]at z;have:=(L3 hp hs I).1 z;rw[show Region.ready .any l.toArray x=[]from hv]at this;simp at this
 |i::L,x,y,hs,hv=>by
  obtain⟨o,M,_⟩:=mn.1 hv.1;have I:i<l.length:=(gZ.1 M).1;exact⟨(L3 hp hs I).2 hv.1,L4 (hs.set hp I) hv.2⟩
theorem Ww(U:mo l.toArray L C)
 (h:wpOps P (fo ord l).toArray Q (L.map (jt ord)) a w):wpOps P l.toArray Q L a w:=by
 refine Hx (ops':=(fo ord l).toArray) (φ:=jt ord) L a w (fun i I=>?_) h;obtain⟨o,M⟩:=HA U i I;simp only[]at M;have Y:=hp.eY M;refine⟨o,tD ord o,by simpa using M,zL,⟨_,_,rfl⟩,fun a=>?_⟩;unfold Region.wanted tD;cases hg:o.guard with
 |none=>rfl
 |some z=>
  obtain⟨j,b⟩:=z;have V:=(hp.db i o M).2 j b hg;have Z:=hp.eY (bj V);simp only[];unfold yielded;simp only[List.getElem?_toArray,Z,bj V];rfl
end
theorem T.bh{I:Type}{j:I->I->Bool}(J:∀a b,j a b=true->a=b):∀{x y:T I},T.beq j x y=true->x=y
 | .e,.e,_=>rfl
 | .e,.n _ _ _,h=>by simp[T.beq]at h
 | .n _ _ _,.e,h=>by simp[T.beq]at h
 | .n v l r,.n Z O Y,h=>by
   simp only[T.beq,da]at h;rw[T.bh J h.1.2,T.bh J h.2]
   grind
def Wx{ops:qB}{C:aq}{U z:Hp}(h:zH ops Y C U z=true):(∀o∈ops,∀d,o.dst=some d->Y.at d=C.at d)/\U=z:=by
 unfold zH at h;simp only[da,jX]at h;refine⟨fun o M d hd=>?_,?_⟩
 .have:=h.1.1 o M;rw[hd]at this;exact AV.bh this
 .have m:=rH h.1.2;have j:=T.bh (fun a b=>HB.bh) h.2;cases U;simp_all
section
variable {P:Program} {B:Bs} {cfg:Cfg}
def Wy{U:Option Tmp}(h:fN N E U v=some Y)(j:U≠some t):Y.at t=E.at t:=by
 unfold fN at h;split at h
 .rename_i d;split at h
  .simp only[aQ]at h;rw[<-h,xU,af (fun e=>j oO)]
  .simp at h
 simp_all
theorem L5{ih:zd4->Res}{f N t:Nat}{m:qB}:∀{rs:List Rec}{l:qB}{E E':aq}{H H':Hp},oR P cfg ih f N m rs l E H E' H'->(∀o∈l,o.dst≠some t)->E'.at t=E.at t
 |[],[],_,_,_,_,h,_=>by rw[h.1]
 |[],_::_,_,_,_,_,h,_=>by simp[oR]at h
 |_::_,[],_,_,_,_,h,_=>by simp[oR]at h
 |r::rs,o::l,E,E',H,H',h,ht=>by
  obtain⟨_,_,_,_,_,_,E1,hp,Z⟩:=h;rw[L5 Z (fun o M=>ht o (en _ M)),Wy hp (ht o eg)]
def L6{ops:qB}(h:jV P cfg ih f N ops E H=.done x V H')(j:∀o∈ops,o.dst≠some t):x=.normal/\V.at t=E.at t:=by
 unfold jV at h;split at h
 .split at h
  .rename_i E1 H1 rs U;split at h
   .simp only[Res.done.injEq]at h;obtain⟨rfl,rfl,rfl⟩:=h;exact⟨rfl,L5 (Ae U) j⟩
   .simp at h
  .simp at h
 .simp at h
def Wz{ord:qG}(h:o∈fo ord l):∃V∈l,o.dst=V.dst:=by
 unfold fo at h;rw[List.mem_filterMap]at h;obtain⟨i,_,j⟩:=h;split at j
 .rename_i V M;simp only[aQ]at j;subst j;exact⟨V,li M,rfl⟩
 .simp at j
def L7(h:o∈eU q p l):∃V∈l,o.dst=V.dst:=by
 obtain⟨i,I⟩:=Hg.1 h;obtain⟨Z,m⟩:=LX I;obtain⟨J,z,⟨M,Y⟩,_⟩:=Af (q:=q) (p:=p) m
 grind
def L8{ops:qB}{I M:Res}(h:uT ops I M=.done x V H'):
 x=.normal/\I=.done .normal V H'/\∃C,M=.done .normal C H'/\∀o∈ops,∀d,o.dst=some d->V.at d=C.at d:=by
 unfold uT at h;split at h
 .split at h
  .rename_i U;simp only[Res.done.injEq]at h;obtain⟨rfl,rfl,rfl⟩:=h;obtain⟨m,j⟩:=Wx U;subst j
   grind
  .simp at h
 .simp at h
theorem HC{ih:zd4->Res}{f N t:Nat}{E V:aq}{H H':Hp}{x:AX}:∀{Z:zf4}{ops:qB},jW P cfg ih f N E H Z ops=.done x V H'->(∀o∈ops,o.dst≠some t)->V.at t=E.at t
 | .text,ops,h,ht=>(L6 h ht).2
 | .cn ord,ops,h,ht=>by
   simp only[jW]at h;split at h
   .exact(L6 h (fun o M=>by obtain⟨Y,m,j⟩:=Wz M;simp_all)).2
   .simp at h
 | .split p q a b,ops,h,ht=>by
   simp only[jW]at h;split at h
   .simp at h
   .obtain⟨_,m,_⟩:=L8 h;exact HC m (fun o M=>by obtain⟨Y,m,j⟩:=L7 M;simp_all)
def lO.same{C:aq}(j:∀t,Y.at t=C.at t){e:Exit}(h:lO B N z G w x C H' e a w'):lO B N z G w x Y H' e a w':=by
 obtain⟨m,J,Z,V,U⟩:=h;exact⟨m,J,⟨Z.size,fun t=>by rw[j];exact Z.b8 t⟩,V,U⟩
theorem HD(fit:Fit P){n:Nat}{ih:zd4->Res}(J:Snd P B n ih){f N:Nat}{E:aq}{H:Hp}{G:Gh}{w:World}{a:Act}(h:R B H w G)(j:TR N G E a)(hd:a.defers=[]){Q:Exit->Act->World->Prop}:
 ∀(pl:zf4) (l:qB) {E':aq}{H':Hp}{x:AX},jW P B.cC ih f N E H pl l=.done x E' H'->(∀e m Z,lO B N H.next G w x E' H' e m Z->Q e m Z)->∀L,mo l.toArray L (Array.replicate l.length false) ->
  wpOps P l.toArray Q L a {w with drawn:=w.drawn+1}
 | .text,l,E',H',x,hr,hQ,L,hv=>Hw L _ _ a _ (by
  have:=LV (ops:=l.toArray) fit J hr h j hd hQ;simpa using this) hv
 | .cn ord,l,E',H',x,hr,hQ,L,hv=>by
   simp only[jW]at hr;split at hr
   .rename_i hp;have hp:=Wv hp;refine Ww hp hv (Hw _ _ _ a _ (LV (ops:=(fo ord l).toArray) fit J hr h j hd hQ) ?_);refine L4 hp ⟨aw,by simp[hp.length],fun i U=>?_⟩ hv;have:=(hp.lt i U).1;simp[hp.length,U,this]
   .simp at hr
 | .split p q pa pb,l,E',H',x,hr,hQ,L,hv=>by
   simp only[jW]at hr;split at hr
   .simp at hr
   .rename_i z;have C:p≠q:=zM z;obtain⟨rfl,h1,E2,h2,h3⟩:=L8 hr;rcases LZ C aw hv with O|Y
    .exact L0 hv (HD fit J h j hd pa _ h1 hQ L (by rw[C2];exact O))
    .have V:∀t,E'.at t=E2.at t:=fun t=>by
      by_cases j:∃o∈l,o.dst=some t
      .grind
      .have hno:∀o∈l,o.dst≠some t:=fun o M hd=>j ⟨o,M,hd⟩;have I:∀q p,∀o∈eU q p l,o.dst≠some t:=fun q p o M=>by obtain⟨o',g1,g2⟩:=L7 M;simp_all
       rw[HC h1 (I _ _),HC h2 (I _ _)]
     exact L0 hv (HD fit J h j hd pb _ h2 (fun e m Z hp=>hQ _ _ _ (lO.same V hp)) L (by rw[C2];exact Y))
def WA(fit:Fit P)(J:Snd P B n ih){id:Nat}{pl:zf4}(hr:jW P B.cC ih f N E H pl ops.toList=.done x V H')
 (h:R B H w G) (j:TR N G E a) (hd:a.defers=[]):Code.wp P (.region id ops true) (lO B N H.next G w x V H') a w:=by
 refine Wr fit.mixed fun L Z=>?_;have:=HD fit J h j hd pl ops.toList hr (fun _ _ _ hp=>hp) L xR;simpa using this
end
structure Grow (w:World) (F:Nat->Nat->qS) (w':World) (F':Nat->Nat->qS):Prop where
 below:Below w.heap.size w w'
 more:∀b o v,F b o=some v->F' b o=some v
 dj:∀b o v,F' b o=some v->F b o=some v\/w.heap.size<=b
 dB:∀b o v,F' b o=some v->w'.cell? ⟨b,o,none⟩=some v
def bX(P:Program)(ρ:Nat->Int)(f:FuncId)(V:qu)(r:AV):Prop:=
 (∃Z,P.funcs[f]?=some Z/\Z.body.isSome=true)/\∀(G:Gh) (w:World) (vs:qH),G.ρ=ρ->(∀b o v,G.F b o=some v->w.cell? ⟨b,o,none⟩=some v)->cc G V vs ->
   Calls P f vs.toArray w (fun e I=>∃v Y,e=.returned v/\VR {G with F:=Y} r v/\Grow w G.F I Y)
def WB(P:Program)(B:Bs):Prop:=∀f V r,B.cC.call f V=some r->bX P B.ρ f V r
def HE(h:Below w.heap.size w w'){b o:Nat}(hb:b<w.heap.size):w'.cell? ⟨b,o,none⟩=w.cell? ⟨b,o,none⟩/\w'.frozen? ⟨b,o,none⟩=w.frozen? ⟨b,o,none⟩:=
 ⟨by simp only[World.cell?,h.block b hb],h.frozen (p:=⟨b,o,none⟩) hb⟩
theorem R.gj{B:Bs}{O:Nat->Nat->qS}(h:R B H w G)(g:Grow w G.F w' O):Step B H.next G w H w' {G with F:=O}:=by
 have Z:Ext G {G with F:=O}:=⟨fun _ _ h=>h,g.more,rfl⟩;have Y:∀{b o:Nat}{v:Value},w.cell? ⟨b,o,none⟩=some v->w'.cell? ⟨b,o,none⟩=some v:=fun hc=>by rw[(HE g.below (rE hc)).1];exact hc
 refine⟨?_,Z,⟨g.below.os,g.below.tape,g.below.output,g.below.size,fun k hk _=>g.below.block k hk⟩,fun r b o x hr=>.inl hr,fun _ _ h=>.inl h,ay _,fun b o v z=>(g.dj b o v z).imp id fun hb=>dw h.ci hb⟩;exact{
  ci:=dw h.ci g.below.size
  dv:=h.dv
  lt:=fun r b o x hr=>⟨(h.lt r b o x hr).1,lh (h.lt r b o x hr).2 g.below.size⟩
  cells:=fun r b o x I imm C hr hc j c M=>by
   obtain⟨v,m,J⟩:=h.cells r b o x I imm C hr hc j c M;exact⟨v,Y m,J.mono Z⟩
  aP:=fun r b o x I imm C hr hc j M V=>let ⟨v,z⟩:=h.aP r b o x I imm C hr hc j M V;⟨v,g.more _ _ _ z⟩
  ext:=h.ext
  b7:=h.b7
  bM:=fun r b o x I imm C hr hc j M V=>by
   obtain⟨⟨v,m⟩,J,h3⟩:=h.bM r b o x I imm C hr hc j M V;have hb:=(h.lt r b o x hr).2;refine⟨⟨v,Y m⟩,by rw[(HE g.below hb).2];exact J,?_⟩;show O b (o+j)=none;cases hF:O b (o+j)with
   |none=>rfl
   |some u=>rcases g.dj _ _ _ hF with h4|h4
            ·simp_all
            .omega
  apart:=h.apart
  map:=fun r b o x es hr hc=>by
   obtain⟨ms,U,m,J⟩:=h.map r b o x es hr hc;exact⟨ms,U,by rw[g.below.block b (h.lt r b o x hr).2];exact m,J.mono Z⟩
  aZ:=h.aZ
  dB:=g.dB
  val:=h.val
  ec:=h.ec}
theorem HF(z:Nat):∀(n:Nat) (l:qu),(jI z n l).length=n
 |0,_=>rfl
 |n+1,l=>by simp[jI,HF z n]
theorem Ai(z:Nat):∀(n:Nat) (l:qu) (i:Nat) (I:qu),l.length=n*z->(jI z n l)[i]?=some I->I.length=z/\∀(j:Nat) c,I[j]?=some c->l[i*z+j]?=some c
 |0,_,i,I,_,h=>by simp[jI]at h
 |n+1,l,i,I,hl,h=>by
  rw[wA,C1]at hl;simp only[jI]at h;cases i with
  |zero=>
   grind
  |succ i=>
   obtain⟨m,Z⟩:=Ai z n (l.drop z) i I (by rw[nQ];omega) mR
   grind
theorem C3{B:Bs}{w:World}{g:AV->Hp->Option (AV×Hp)}
 (hg:∀(v:AV) (H:Hp) (q:AV) (H':Hp) (G:Gh) (x:Value),R B H w G->VR G v x->g v H=some (q,H')->∃J,Step B H.next G w H' w J/\VR J q x) :
 ∀(I:qu) (vs:qH) (H:Hp) (Z:qu) (H':Hp) (G:Gh),R B H w G->cc G I vs->iG g I H=some (Z,H')->∃J,Step B H.next G w H' w J/\cc J Z vs
 |[],vs,H,Z,H',G,h,hv,hi=>by
  simp only[iG,dB]at hi;obtain⟨rfl,rfl⟩:=hi;exact⟨G,md h,hv⟩
 |c::I,[],H,Z,H',G,h,hv,hi=>by have:=hv.1;simp at this
 |c::I,v::vs,H,Z,H',G,h,hv,hi=>by
  simp only[iG]at hi;split at hi
  .rename_i d H1 m;split at hi
   .rename_i j z V;simp only[dB]at hi;obtain⟨rfl,rfl⟩:=hi;obtain⟨U,O⟩:=hv.bp;obtain⟨C,M,r1⟩:=hg c H d H1 G v h U m;obtain⟨G2,Y,r2⟩:=C3 hg I vs H1 j z C M.r (O.mono M.ext) V;exact⟨G2,M.trans Y,jJ (r1.mono Y.ext) r2⟩
   .simp at hi
  .simp at hi
theorem Da{B:Bs}{w:World}:∀(n:Nat) (v:AV) (H:Hp) (q:AV) (H':Hp) (G:Gh) (x:Value),R B H w G->VR G v x->fT n v H=some (q,H')->∃G',Step B H.next G w H' w G'/\VR G' q x
 |0,_,_,_,_,_,_,_,_,h=>by simp[fT]at h
 |n+1,v,H,q,H',G,x,h,hv,I=>by
  unfold fT at I;split at I
  .rename_i r Y Z z;split at I
   .rename_i cs imm tip M;split at I
    .rename_i hle;simp only[da]at hle;have hle1:=CR hle.1;have hle2:=CR hle.2;split at I
     .rename_i l H1 hil;simp only[dB]at I;obtain⟨rfl,rfl⟩:=I;cases hv with
      |sl hr hl hcx=>
       rename_i b o xx cap;have U:=h.cells r b o xx cs imm tip hr M;have s1:=zT h hr M (n:=max imm (Y+Z*z)) ac ac tip id;obtain⟨J,ho1,ho2⟩:=U.list;have hlen:((cs.drop Y).take (Z*z)).length=Z*z:=by rw[oL,nQ];omega
       obtain⟨G2,s2,r2⟩:=C3 (Da n) _ ((J.drop Y).take (Z*z)) _ l H1 _ s1.r (((ho1.drop Y).take (Z*z)).mono s1.ext) hil;refine⟨G2,s1.trans s2,?_⟩;have hll:l.length=Z*z:=by
        have e1:=r2.1;have e2:=((ho1.drop Y).take (Z*z)).1;rw[hlen]at e2;omega
       have hlc:=HF z Z l;have hovl:J.length=cs.length:=ho1.1.symm;have hat:∀m,m<Z*z->∃v,J[Y+m]?=some v/\G2.F b (o+Y+m)=some v/\∀c,l[m]?=some c->VR G2 c v:=fun m hm=>by
        have O:Y+m<J.length:=ac;refine⟨J[Y+m],bj O,?_,fun c hc=>?_⟩
        .refine s2.ext.F _ _ _ ?_;have C:=ho2 (Y+m) J[Y+m] (bj O);show(G.aG w b o (max imm (Y+Z*z))).F b (o+Y+m)=some J[Y+m];simp only[Gh.aG];rw[<-iH]at C;split
         .rename_i v' hv';have:=h.dB _ _ _ hv';rw[C]at this;exact this.symm
         .rw[ai ⟨by trivial,ac,ac⟩];exact C
        .refine r2.2 m c _ hc ?_;rw[uX,ai hm,zO];exact bj O
       have hin:∀i j,i<Z->j<z->i*z+j<Z*z:=fun i j I hj=>by
        calc i*z+j<i*z+z:=by omega
         _=(i+1)*z:=by rw[wA,C1]
         _<=Z*z:=zX _ I
       have key:VR G2 (.az (jI z Z l)) (.slice (some ⟨b,o+Y,none⟩) (jI z Z l).length cap):=by
        refine .az (fun i j=>(J[Y+(i*z+j)]?).getD undef) (z:=z) (fun i row V=>(Ai z Z l i row hll V).1) (fun i j I hj=>?_) (fun i j row c V hcj=>?_) (by rw[hlc];exact hl)
        .rw[hlc]at I;obtain⟨v,e1,e2,_⟩:=hat _ (hin i j I hj);rw[e1,iH (o+Y)];exact e2
        .have hm:=(Ai z Z l i row hll V).2 j c hcj;have O:=(gZ.1 hm).1;obtain⟨v,e1,_,e3⟩:=hat (i*z+j) ac;rw[e1];exact e3 c hm
       simp_all
     .simp at I
    .simp at I
   .simp at I
  .rename_i cs;split at I
   .rename_i ds H1 hil;simp only[dB]at I;obtain⟨rfl,rfl⟩:=I;cases hv with
    |agg hl hvs=>
     obtain⟨G',s,r⟩:=C3 (Da n) cs _ H ds H1 G h ⟨hl,hvs⟩ hil;exact⟨G',s,.agg r.1 r.2⟩
   .simp at I
  .simp at I
  .simp at I
  .simp only[dB]at I;obtain⟨rfl,rfl⟩:=I;exact⟨G,md h,hv⟩
section
variable {P:Program} {B:Bs} {G:Gh} {H H':Hp} {w:World}
theorem L9:∀(V:qu) (i:Nat) (E:aq) (t:Nat),(bm i V E).at t=if i<=t/\t<i+V.length then V.getD (t-i) dH else E.at t
 |[],i,E,t=>by
  simp only[bm,fq,tL]
  grind
 |v::vs,i,E,t=>by
  simp only[bm,L9 vs (i+1),gF];by_cases m:i+1<=t/\t<i+1+vs.length
  .grind
  .rw[af m,xU]
   grind
theorem HG:∀(d t:Nat),aq.at (zI d) t=dH
 |0,_=>rfl
 |d+1,t=>by
  unfold aq.at zI;rw[wy];cases h:Nat.beq t 0 with
  |true=>rfl
  |false=>
   rw[nR];cases j:Nat.beq (Nat.mod t 2) 1 with
   |true=>exact HG d _
   |false=>exact HG d _
def WC(N t:Nat):aq.at (wr N) t=dH:=HG _ _
def TR.start{V:qu}(h:cc G V vs)(Y:Nat):
 TR (max Y V.length) G (bm 0 V (wr (max Y V.length))) {tmps:=vs.toArray++Array.replicate (Y-vs.toArray.size) undef,defers:=[] }:=by
 have O:=h.1;refine⟨cb,fun t=>?_⟩;rw[L9];simp only[cZ,kN,bR,Nat.sub_zero];by_cases j:t<V.length
 .rw[ai j];have m:V.getD t dH=V[t]:=aX;rw[m];have:(vs.toArray++Array.replicate (Y-vs.toArray.size) undef).getD t undef=vs[t]' ac:=by
   rw[lK,Array.getElem?_append_left cb]
   grind
  rw[this];exact h.2 t _ _ (bj j) (bj ac)
 .rw[af j,WC];have:(vs.toArray++Array.replicate (Y-vs.toArray.size) undef).getD t undef=undef:=by
   rw[lK,Array.getElem?_append_right cb]
   grind
  rw[this];exact zR G
def WD(h:R B H w G)(j:TR N G E a){r:ResultVar}{c:AV}(hr:cR P E H r=some c):
 ∃v,(match r with
  | .tmp t=>pure (a.tmps.getD t undef)
  | .cell x t=>do loadVar t (<-asAddr (a.tmps.getD x undef)):Sem Value).run P w=.ok v w/\VR G c v:=by
 cases r with
 |tmp t=>
  simp only[cR,aQ]at hr;subst hr;exact⟨_,rfl,j.b8 t⟩
 |cell x t=>
  simp only[cR]at hr;have hx:=j.b8 x;obtain⟨v,m,Z⟩:=Ln (P:=P) h hx hr;refine⟨v,?_,Z⟩;show(do loadVar t (<-asAddr (a.tmps.getD x undef)):Sem Value).run P w=.ok v w;generalize a.tmps.getD x undef=Y at hx m⊢;generalize E.at x=O at hx hr;cases hx<;>simp[gX]at hr<;>simpa [Instr.loadAt,Instr.sureAddr,asAddr]using m
theorem Ma(h:R B H w G){N:Nat}{E:aq}{a:Act}(j:TR N G E a):∀{rs:List ResultVar}{I:qu},cF P E H rs=some I ->
 ∃vs,(rs.mapM (fun
  | .tmp t=>pure (a.tmps.getD t undef)
  | .cell x t=>do loadVar t (<-asAddr (a.tmps.getD x undef)):ResultVar->Sem Value)).run P w=.ok vs w/\cc G I vs
 |[],I,hr=>by
  simp only[cF,aQ]at hr;subst hr;exact⟨[],aw,mc G⟩
 |r::rs,I,hr=>by
  simp only[cF]at hr;split at hr
  .rename_i c V m Z;simp only[aQ]at hr;subst hr;obtain⟨v,z,J⟩:=WD (P:=P) h j m;obtain⟨vs,O,C⟩:=Ma h j Z;refine⟨v::vs,?_,jJ J C⟩;simp_all
  .simp at hr
def Mb(h:R B H w G)(O:TR N G E a){Z:Func}(hr:xP P Z.results.toList E H=.val r H'):
 H'=H/\∃v,(results Z a.tmps).run P w=.ok v w/\VR G r v:=by
 unfold xP at hr;split at hr
 .rename_i V Y;simp only[Res.val.injEq]at hr;obtain⟨rfl,rfl⟩:=hr;obtain⟨vs,m,j⟩:=Ma (P:=P) h O Y;refine⟨rfl,?_⟩;have U:(results Z a.tmps).run P w=.ok (if h:vs.toArray.size=1 then vs.toArray[0]else .tuple vs.toArray) w:=by
   unfold results;rw[Array.mapM_eq_mapM_toList];simp only[fU,Sem.run_map];exact lN (fun r:Result qH=>(r.andThen fun a I=>Result.ok a.toArray I).andThen fun a I=>Sem.run P (pure (if h:a.size=1 then a[0]else Value.tuple a)) I) m
  refine⟨_,U,?_⟩
  match V,vs,j with
  |[],[],j=>exact .a6 (vs:=[]) rfl aw
  |[c],[v],j=>exact j.bp.1
  |c::c'::V,v::v'::vs,j=>
   have:¬(v::v'::vs).toArray.size=1:=aw;rw[dif_neg this];exact .a6 j.1 j.2
  |[],_::_,j=>have:=j.1;simp at this
  |[_],[],j=>have:=j.1;simp at this
  |[_],_::_::_,j=>have:=j.1;simp at this
  |_::_::_,[],j=>have:=j.1;simp at this
  |_::_::_,[_],j=>have:=j.1;simp at this
 .simp at hr
def HH(_fit:Fit P)(M:Snd P B n ih){f:FuncId}{V:qu}(Y:pL P ih f V H=.val r H')(h:R B H w G)(hv:cc G V vs):
 (∃I,P.funcs[f]?=some I/\I.body.isSome=true)/\Calls P f vs.toArray w (fun e z=>∃v J,e=.returned v/\VR J r v/\Step B H.next G w H' z J):=by
 unfold pL at Y;split at Y
 .rename_i I C;split at Y
  .rename_i c hc;refine⟨⟨I,C,by rw[hc];rfl⟩,calls_of_wp C hc ?_⟩;have j:=TR.start hv I.ntmps;split at Y
   .rename_i E1 H1 Z;refine uY (fun e a' z m=>?_) (M.aS _ _ _ _ _ _ _ _ Z G w _ h j rfl);obtain⟨rfl,J,O,U,hd⟩:=m;obtain⟨rfl,v,h1,h2⟩:=Mb (P:=P) U.r O Y;exact⟨hd,v,h1,v,J,rfl,h2,U⟩
   .rename_i E1 H1 Z;refine uY (fun e a' z m=>?_) (M.aS _ _ _ _ _ _ _ _ Z G w _ h j rfl);obtain⟨rfl,J,O,U,hd⟩:=m;obtain⟨rfl,v,h1,h2⟩:=Mb (P:=P) U.r O Y;exact⟨hd,v,h1,v,J,rfl,h2,U⟩
   .simp at Y
  .simp at Y
 .simp at Y
def HI(j:Snd P B n ih){b:Code}{r:Res}(U:pM ih f N b r=.done x V H'):
 ∃Z E1 H1,r=.done Z E1 H1/\((Z=.normal/\ih (.aS f N b E1 H1)=.done x V H')\/(Z≠.normal/\x=Z/\V=E1/\H'=H1)):=by
 unfold pM at U
 grind
def WE(fit:Fit P)(J:Snd P B n ih)(U:step P B.cC ih (.aS f N c E H)=.done x E' H')
  (h:R B H w G) (j:TR N G E a) (hd:a.defers=[]):Code.wp P c (lO B N H.next G w x E' H') a w:=by
 cases c with
 |skip=>
  simp only[step,Res.done.injEq]at U;obtain⟨rfl,rfl,rfl⟩:=U;exact wp_skip ⟨rfl,G,j,md h,hd⟩
 |region id ops draw=>
  cases draw with
  |false=>
   exact wp_region_list (G8 fit J ops.toList U h j hd (fun _ _ _ hp=>hp))
  |true=>exact WA fit J U h j hd
 |seq p q=>
  obtain⟨x1,E1,H1,m,I⟩:=HI J U;refine wp_seq (uY (fun e C z M=>?_) (J.aS _ _ _ _ _ _ _ _ m G w a h j hd));obtain⟨rfl,O,V,Z,Y⟩:=M;rcases I with⟨rfl,I⟩|⟨hne,rfl,rfl,rfl⟩
  .exact uY (fun e a w M=>CY Z M) (J.aS _ _ _ _ _ _ _ _ I O z C Z.r V Y)
  .cases x with
   |normal=>simp_all
   |exit id=>exact⟨rfl,O,V,Z,Y⟩
   |ret=>exact⟨rfl,O,V,Z,Y⟩
 |cond y p q=>
  simp only[step,wt]at U;split at U
  .rename_i hy;have hb:=G7 j hy;have:a.eval y=.bool true:=by generalize a.eval y=v at hb;cases hb;rfl
   exact wp_cond_true this (J.aS _ _ _ _ _ _ _ _ U G w a h j hd)
  .rename_i hy;have hb:=G7 j hy;have:a.eval y=.bool false:=by generalize a.eval y=v at hb;cases hb;rfl
   exact wp_cond_false this (J.aS _ _ _ _ _ _ _ _ U G w a h j hd)
  .simp at U
 |block id p=>
  simp only[step]at U;cases m:ih (.aS f N p E H)with
  |done x1 E1 H1=>
   rw[m]at U;refine wp_block (uY (fun e C z M=>?_) (J.aS _ _ _ _ _ _ _ _ m G w a h j hd));obtain⟨rfl,O,V,Z,Y⟩:=M;cases x1 with
   |normal=>
    simp only[oK,Res.done.injEq]at U;obtain⟨rfl,rfl,rfl⟩:=U;exact⟨rfl,O,V,Z,Y⟩
   |ret=>
    simp only[oK,Res.done.injEq]at U;obtain⟨rfl,rfl,rfl⟩:=U;exact⟨rfl,O,V,Z,Y⟩
   |exit id'=>
    simp only[oK]at U;cases hb:Nat.beq id' id with
    |true=>
     rw[hb]at U;simp only[Res.done.injEq]at U;obtain⟨rfl,rfl,rfl⟩:=U;have:=rH hb;subst this;simp only[G5,Exit.inBlock,ft];exact⟨rfl,O,V,Z,Y⟩
    |false=>
     rw[hb]at U;simp only[Res.done.injEq]at U;obtain⟨rfl,rfl,rfl⟩:=U;have:=zM hb;simp only[G5,Exit.inBlock];rw[af this];exact⟨rfl,O,V,Z,Y⟩
  |val v H1=>rw[m]at U;simp[oK]at U
  |aY=>rw[m]at U;simp[oK]at U
 |loop p=>
  refine wp_loop_rounds (n+1) ?_;rw[rounds_succ];obtain⟨x1,E1,H1,m,I⟩:=HI J U;refine uY (fun e C z M=>?_) (J.aS _ _ _ _ _ _ _ _ m G w a h j hd);obtain⟨rfl,O,V,Z,Y⟩:=M;rcases I with⟨rfl,I⟩|⟨hne,rfl,rfl,rfl⟩
  .exact G6 (fun e a w M=>CY Z M) (J.loop _ _ _ _ _ _ _ _ I O z C Z.r V Y)
  .cases x with
   |normal=>simp_all
   |exit id=>exact⟨rfl,O,V,Z,Y⟩
   |ret=>exact⟨rfl,O,V,Z,Y⟩
 |exit id=>
  simp only[step,Res.done.injEq]at U;obtain⟨rfl,rfl,rfl⟩:=U;exact wp_exit ⟨rfl,G,j,md h,hd⟩
 |ret=>
  simp only[step,Res.done.injEq]at U;obtain⟨rfl,rfl,rfl⟩:=U;exact wp_ret ⟨rfl,G,j,md h,hd⟩
 |rangeFunc _ _ _ _=>simp[step]at U
 |scope _=>simp[step]at U
 |label _=>simp[step]at U
 |goto _=>simp[step]at U
 |refuse _=>simp[step]at U
def WF(M:Fit P)(J:Snd P B n ih){I:aq}(C:step P B.cC ih (.aS f N (.loop c) E H)=.done x I H')
  (h:R B H w G) (z:TR N G E a) (hd:a.defers=[]):Code.rounds P c (lO B N H.next G w x I H') (n+1) a w:=by
 rw[rounds_succ];obtain⟨x1,E1,H1,h1,j⟩:=HI J C;refine uY (fun e m w' Z=>?_) (J.aS _ _ _ _ _ _ _ _ h1 G w a h z hd);obtain⟨rfl,O,V,U,Y⟩:=Z;rcases j with⟨rfl,j⟩|⟨hne,rfl,rfl,rfl⟩
 .exact G6 (fun e a w Z=>CY U Z) (J.loop _ _ _ _ _ _ _ _ j O w' m U.r V Y)
 .cases x with
  |normal=>simp_all
  |exit id=>exact⟨rfl,O,V,U,Y⟩
  |ret=>exact⟨rfl,O,V,U,Y⟩
theorem Mc(fit:Fit P)(hc:WB P B):∀n,Snd P B n (dL P B.cC n)
 |0=>⟨fun _ _ _ _ _ h=>by simp[dL]at h,fun _ _ _ _ _ _ _ _ h=>by simp[dL]at h,fun _ _ _ _ _ _ _ _ h=>by simp[dL]at h⟩
 |n+1=>by
  have J:=Mc fit hc n;have he:dL P B.cC (n+1)=step P B.cC (dL P B.cC n):=rfl;rw[he];refine⟨fun f V H r H' U G w vs h O=>?_,fun f N c E H x E' H' U G w a h ht hd=>WE fit J U h ht hd,fun f N c E H x E' H' U G w a h ht hd=>WF fit J U h ht hd⟩;have m:∀{G:Gh}{V:qu}{vs:qH}{H:Hp}{j:AV},B.cC.call f V=some j->R B H w G->cc G V vs ->
   (∃C,P.funcs[f]?=some C/\C.body.isSome=true)/\Calls P f vs.toArray w (fun e M=>∃v Z,e=.returned v/\VR Z j v/\Step B H.next G w H M Z):=fun{G V vs H j} hr h O=>by
   obtain⟨h1,h2⟩:=hc f V j hr;refine⟨h1,(h2 G w vs h.val h.dB O).mono fun e M z=>?_⟩;obtain⟨v,F',rfl,I,hg⟩:=z;exact⟨v,_,rfl,I,h.gj hg⟩
  have hany:∀{G:Gh}{V:qu}{vs:qH}{H H':Hp}{r:AV},pN P B.cC (dL P B.cC n) f V H=.val r H'->R B H w G->cc G V vs ->
   (∃C,P.funcs[f]?=some C/\C.body.isSome=true)/\Calls P f vs.toArray w (fun e M=>∃v Z,e=.returned v/\VR Z r v/\Step B H.next G w H' M Z):=fun{G V vs H H' r} U h O=>by
   unfold pN at U;split at U
   .unfold zJ at U;split at U
    .rename_i asx H1 hice;split at U
     .rename_i j hr;simp only[Res.val.injEq]at U;obtain⟨rfl,rfl⟩:=U;obtain⟨G1,s1,r1⟩:=C3 (Da 100) V vs H asx H1 G h O hice;obtain⟨h1,h2⟩:=m hr s1.r r1;refine⟨h1,h2.mono fun e M z=>?_⟩;obtain⟨v,Z,rfl,I,Y⟩:=z;exact⟨v,Z,rfl,I,s1.trans Y⟩
     .exact HH fit J U h O
    .exact HH fit J U h O
   .exact HH fit J U h O
  simp only[step]at U;split at U
  .grind
  .unfold xQ at U;split at U
   .rename_i v1 H1 hz hv1;obtain⟨g1,g2⟩:=hany hv1 h O;refine⟨g1,g2.mono fun e M z=>?_⟩;obtain⟨v,Z,rfl,I,Y⟩:=z;cases hi:fT 100 v1 H1 with
    |none=>rw[hi]at U;simp[iF]at U
    |some p=>
     obtain⟨q,H2⟩:=p;rw[hi]at U;simp only[iF,Res.val.injEq]at U;obtain⟨rfl,rfl⟩:=U;obtain⟨G2,s2,r2⟩:=Da 100 v1 H1 _ _ Z v Y.r I hi;exact⟨v,G2,rfl,r2,Y.trans s2⟩
   grind
end
end Go.Ab
