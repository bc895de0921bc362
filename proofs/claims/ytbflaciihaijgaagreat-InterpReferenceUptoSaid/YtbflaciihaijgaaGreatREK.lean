/- Lemmas for the last file. -/
import Derived.Test.YtbflaciihaijgaaGreatREJ
set_option linter.all false
set_option maxHeartbeats 32000000
namespace Go.Ab
set_option maxRecDepth 20000
open Go
variable{qb:Prop}
def zj(h:qb:=by rw[Hp.get_set,if_pos rfl];rfl):=h
def ME(h:qb:=by rw[List.drop_zero,List.length_take];omega):=h
def MF(h:qb:=by rw[List.flatten_append,List.length_append];omega):=h
def zk(h:qb:=by rw[List.length_map]):=h
def Cv(h:qb:=by unfold tU;(repeat' split)<;>omega):=h
def xa(h:qb:=by rw[<- F,Hp.get_set,if_pos rfl]):=h
def zl(h:qb:=by rw[List.drop_eq_getElem_cons Z,List.all_cons]):=h
def zm(h:qb:=by rw[<- j];simp only[get_set,yG,br,bG,IN,IP,IQ,Nat.add_assoc,Nat.reduceAdd,beq_self_eq_true,cond_true,cond_false,Nat.reduceBEq]):=h
def MG:=@List.take_zero
def m9:=And.intro @el.{0,0} @wE.{0,0}
end Go.Ab
namespace Go.Proofs.YtbflaciihaijgaaGreat
set_option maxRecDepth 20000
open Go Go.Ab Proofs.Tryz
variable{S S':Nat->Prop}{H H':Hp}{v:AV}{w:qm}{m z b lo c q M:Nat}{a:List qm}{L:qp}{cfg:Cfg}{P:Program}{t e:TypeId}{g:FuncId}{I:Hp->Prop}{vs:qo}{V:List (aS×Int)}
section
def tyG2.tyF:=ac @cI (ac @pQ (@wt))
open tyG2
def eR(S:Nat->Prop)(n:Nat)(H:Hp)(v w:AV):Prop:=∃u,cV S n H v u/\∀m,n<=m->bW m u=w
def cJ(S:Nat->Prop)(n:Nat)(H:Hp)(cs ws:qm):Prop:=∃Z,cP (cV S n H) cs Z/\∀m,n<=m->Z.map (bW m)=ws
def cJ.frame(hS:∀k,S k->S' k){n:Nat}{v:qm}(h:cJ S n H v w)(I:H.next<=H'.next)(m:∀k,S k->k<H.next->sr (H.get k) (H'.get k)):cJ S' n H' v w:=by
 obtain⟨u,j,Z⟩:=h;exact⟨u,j.mono fun a b k=>k.frame hS I m,Z⟩
def cJ.aj(hS:∀k,S k->S' k){n:Nat}{v:qm}(h:cJ S n H v w)(I:H.next<=H'.next)(m:∀k,S k->k<H.next->H'.get k=H.get k):cJ S' n H' v w:=h.frame hS I fun k j Z=>.inl (m k j Z).symm
def eR.up{n:Nat}{w:AV}(h:eR S n H v w)(M:n<=m):eR S m H v w:=by
 obtain⟨u,j,Z⟩:=h;exact⟨u,j.up M,fun k o=>Z k aa⟩
def cJ.up{n:Nat}{v:qm}(h:cJ S n H v w)(M:n<=m):cJ S m H v w:=by
 obtain⟨u,j,Z⟩:=h;exact⟨u,j.mono fun a b k=>k.up M,fun k o=>Z k aa⟩
def cJ.nil{n:Nat}:cJ S n H [] []:=⟨[],trivial,fun _ _=>rfl⟩
def cJ.cons{n:Nat}{w:AV}{cs ws:qm}(h:eR S n H v w)(k:cJ S n H cs ws):cJ S n H (v::cs) (w::ws):=by
 obtain⟨u,j,Z⟩:=h;obtain⟨Y,A,O⟩:=k;exact⟨u::Y,⟨j,A⟩,fun m M=>by rw[el,Z m M,O m M]⟩
def cJ.append{S:Nat->Prop}{n:Nat}{H:Hp}:∀{a b c d:qm},cJ S n H a b->cJ S n H c d->cJ S n H (a++c) (b++d)
 |a,b,c,d,⟨u,j,Z⟩,⟨v,A,O⟩=>⟨u++v,j.append A,fun m M=>by rw[kT,Z m M,O m M]⟩
def eR.cc{n:Nat}(h:L3 v)(o:∀m,bW m v=v):eR S (n+1) H v v:=⟨v,vy h,fun m _=>o m⟩
theorem eR.int{n:Nat}(k:IntKind)(x:Int):eR S (n+1) H (.int k x) (.int k x):=.cc ⟨.int _ _,trivial⟩ fun m=>by cases m<;>rfl
theorem eR.ae{n:Nat}(s:qr):eR S (n+1) H (.ae s) (.ae s):=.cc ⟨.ae _,trivial⟩ fun m=>by cases m<;>rfl
def eR.ab{n:Nat}:eR S (n+1) H .ab (.ai []):=⟨.ab,vy ⟨.ab,trivial⟩,fun m M=>by
 obtain⟨m,rfl⟩:∃k,m=k+1:=⟨m-1,aa⟩;rfl⟩
def dT(S:Nat->Prop)(n:Nat)(H:Hp)(z:Nat):List qm->List qm->Prop:=cP fun a b=>a.length=z/\cJ S n H a b
theorem MH{S:Nat->Prop}{n z:Nat}{H:Hp}:∀{a b:List qm},dT S n H z a b->∃u,cP (cP (cV S n H)) a u/\(∀m,n<=m->u.map (List.map (bW m))=b)/\∀x∈a,x.length=z
 |[],[],_=>⟨[],trivial,fun _ _=>rfl,aI⟩
 |x::a,y::b,⟨⟨hz,v,h1,h2⟩,h⟩=>by
  obtain⟨u,A,O,J⟩:=MH (a:=a) (b:=b) h;exact⟨v::u,⟨h1,A⟩,fun m M=>by rw[el,h2 m M,O m M],fun q F=>by
   rcases fY.1 F with rfl|F
   .exact hz
   .exact J q F⟩
def eR.rows{n:Nat}{r imm:Nat}{tip:Bool}{b:List qm}(hS:S r)(hr:r<H.next)(C:H.get r=some (.cells a.flatten imm tip))(F:imm<=a.flatten.length)(h:dT S n H z a b):eR S (n+1) H (.sl r 0 a.length z) (.ai b):=by
 obtain⟨u,j,Y,A⟩:=MH h;refine⟨.ai u,cV.rows hS hr C F A j,fun m M=>?_⟩;obtain⟨m,rfl⟩:∃k,m=k+1:=⟨m-1,aa⟩;show AV.ai (u.map fun Z=>Z.map (bW m))=_;rw[<-Y m aa]
def rt:=@eR.rows
def dT.frame(hS:∀k,S k->S' k){n:Nat}{b:List qm}(h:dT S n H z a b)(I:H.next<=H'.next)(m:∀k,S k->k<H.next->H'.get k=H.get k):dT S' n H' z a b:=cP.mono (fun x y k=>⟨k.1,k.2.aj hS I m⟩) h
def dT.up{n:Nat}{b:List qm}(h:dT S n H z a b)(M:n<=m):dT S m H z a b:=cP.mono (fun x y k=>⟨k.1,k.2.up M⟩) h
def cJ.dJ{n:Nat}(s:qr):cJ S (n+1) H [.ae s] [.ae s]:=.cons (.ae s) .nil
theorem dT.dJ{S:Nat->Prop}{n:Nat}{H:Hp}:∀l:qo,dT S (n+1) H 1 (l.map fun s=>[AV.ae s]) (l.map fun s=>[AV.ae s])
 |[]=>trivial
 |a::l=>⟨⟨rfl,cJ.dJ a⟩,dT.dJ l⟩
def tT{n:Nat}(k C o:Int)(s:qr){kv:AV}{U:qz}(h:eR S (n+1) H kv (.ai (U.map Ex.cells))):cJ S (n+1) H [.int .i64 k,.int .i64 C,.ae s,.int .i64 o,kv] (Ex.mk k C s o U).cells:=by
 rw[jm];exact .cons (.int _ _) (.cons (.int _ _) (.cons (.ae _) (.cons (.int _ _) (.cons h .nil))))
def mr{n:Nat}(k C o:Int)(s:qr):cJ S (n+1) H [.int .i64 k,.int .i64 C,.ae s,.int .i64 o,.ab] (Ex.mk k C s o []).cells:=tT k C o s .ab
def bZ:qp->Int×qp
 |[]=>(0,[])
 |a::l=>(a,l)
def YG(lo:Nat)(H:Hp)(r:Nat)(v:AV)(L:qp):Prop:=(v=.ai []/\L=[])\/∃b F cs S,v=.sl b F L.length 1/\H.get b=some (.cells cs S true)/\cs.drop F=L.map (fun n=>AV.int .i64 n)/\b≠r/\b<lo
def hO(lo:Nat)(H:Hp)(r:Nat)(L:qp)(c:Int):Prop:=r<lo/\lo<=H.next/\∃v,H.get r=some (.cells [v,.int .i64 c] 0 true)/\YG lo H r v L
def hO.aj{r:Nat}{c:Int}(h:hO lo H r L c)(V:H.next<=H'.next)(C:∀k,k<lo->H'.get k=H.get k):hO lo H' r L c:=by
 obtain⟨I,Z,v,j,m⟩:=h;refine⟨I,aa,v,by rw[C _ I];exact j,?_⟩;rcases m with m|⟨b,F,cs,S,o,K,Y,O,M⟩
 .exact .inl m
 .exact .inr ⟨b,F,cs,S,o,by rw[C _ M];exact K,Y,O,M⟩
noncomputable def xb:{c:SC // aG 25 (f32.body.getD .skip)=c}:=by
 refine⟨?_,?_⟩;rotate_left
 .simp only[f32,bE,aG,bz,bq,bF,bB,Nat.blt,Nat.ble];rfl
def Cw(J:zc7 cfg 32){r:Nat}{c:Int}(h:hO lo H r L c)(hL:L.length<2^60):
 aU prog cfg 32 [.ptr r 0] H fun v H'=>v=.int .i64 (bZ L).1/\hO lo H' r (bZ L).2 c/\H'.next=H.next/\∀k,k≠r->H'.get k=H.get k:=by
 obtain⟨U,Z,v,j,h2⟩:=h;rcases h2 with⟨rfl,rfl⟩|⟨b,F,cs,S,rfl,e2,C,O,e5⟩
 .refine a5 (M:=25) (rs:=[.tmp 2]) (J.call _) J.ao J.am func32 rfl rfl xb.2 rfl ?_;dsimp only[xb,a3,Nat.reduceAdd];repeat' (first
   |(apply ai ?_;clear hK K)|apply Rx.o ?_|(apply aE (fun z V=>?_) (fun z V=>?_)<;>try(cases z;done))|apply ae ?_|(apply ah fun K hK=>?_)|apply ak ?_|apply am ?_)
  all_goals refine qq ?_
  exact⟨fT,⟨U,Z,_,j,.inl ⟨rfl,rfl⟩⟩,fT,fun _ _=>fT⟩
 .cases L with
  |nil=>
   refine a5 (M:=25) (rs:=[.tmp 2]) (J.call _) J.ao J.am func32 rfl rfl xb.2 rfl ?_;dsimp only[xb,a3,Nat.reduceAdd];repeat' (first
    |(apply ai ?_;clear hK K)|apply Rx.o ?_|(apply aE (fun z V=>?_) (fun z V=>?_)<;>try(cases z;done))|apply ae ?_|(apply ah fun K hK=>?_)|apply ak ?_|apply am ?_)
   all_goals refine qq ?_
   exact⟨fT,⟨U,Z,_,j,.inr ⟨b,F,cs,S,rfl,e2,C,O,e5⟩⟩,fT,fun _ _=>fT⟩
  |cons a L=>
   have hg:cs[F]?=some (.int .i64 a):=by
    have:=lB (fun l=>l[0]?) C;simpa using this
   have hd:cs.drop (F+1)=L.map (fun n=>AV.int .i64 n):=by
    have:=lB (List.drop 1) C;rw[Ap]at this;simpa using this
   have Y:0<L.length+1:=aa;have m:jx prog 26 (.sl b F (L.length+1) 1) (some (.int .i64 1)) none=if L=[]then some (.ai [])else some (.sl b (F+1) L.length 1):=by
    simp only[jx,underlying26,pP,gS];by_cases I:L=[]
    .subst I;rfl
    .have:0<L.length:=tx.2 I;rw[ad I,au ⟨aa,aT _,trivial⟩,ad aa];rfl
   have A:¬(((L.length+1:Nat):Int)=0):=aa;have hrb:(b == r)=false:=ay O;refine a5 (M:=25) (rs:=[.tmp 2]) (J.call _) J.ao J.am func32 rfl rfl xb.2 rfl ?_;dsimp only[xb,a3,Nat.reduceAdd];by_cases I:L=[]
   .subst I;have hsl':jx prog 26 (.sl b F 1 1) (some (.int .i64 1)) none=some (.ai []):=m;have hne':¬(((1:Nat):Int)=0):=cy;have hp':0<1:=cy;clear m A Y;repeat' (first
     |(apply ai ?_;clear hK K)|apply Ry.o ?_|apply bP ?_|(apply a2 (fun z V=>?_) (fun z V=>?_)<;>try(cases z;done))|apply ae ?_|(apply ah fun K hK=>?_)|apply ak ?_|apply am ?_)
    all_goals refine qq ?_
    refine⟨fT,⟨U,Z,_,iG,.inl ⟨rfl,rfl⟩⟩,fT,fun k o=>by rw[aO,ad o]⟩
   .rw[ad I]at m;repeat' (first
     |(apply ai ?_;clear hK K)|apply Ry.o ?_|apply bP ?_|(apply a2 (fun z V=>?_) (fun z V=>?_)<;>try(cases z;done))|apply ae ?_|(apply ah fun K hK=>?_)|apply ak ?_|apply am ?_)
    all_goals refine qq ?_
    refine⟨fT,⟨U,Z,_,zj,.inr ⟨b,F+1,cs,S,rfl,by rw[aO,ad O];exact e2,hd,O,e5⟩⟩,fT,fun k o=>by rw[aO,ad o]⟩
end
variable{rows:List qm}
section
def cJ.ax{n:Nat}{v:qm}(h:cJ S n H v w)(hS:∀k,k<H.next->S k->S' k)(I:H.next<=H'.next)(m:∀k,S k->k<H.next->H'.get k=H.get k):cJ S' n H' v w:=by
 obtain⟨u,j,Z⟩:=h;exact⟨u,j.mono fun a b k=>k.cE hS I fun q A O=>.inl (m q A O).symm,Z⟩
def eR.ax{n:Nat}{w:AV}(h:eR S n H v w)(hS:∀k,k<H.next->S k->S' k)(I:H.next<=H'.next)(m:∀k,S k->k<H.next->H'.get k=H.get k):eR S' n H' v w:=by
 obtain⟨u,j,Z⟩:=h;exact⟨u,j.cE hS I fun q A O=>.inl (m q A O).symm,Z⟩
def dT.ax{n:Nat}{b:List qm}(h:dT S n H z a b)(hS:∀k,k<H.next->S k->S' k)(I:H.next<=H'.next)(m:∀k,S k->k<H.next->H'.get k=H.get k):dT S' n H' z a b:=cP.mono (fun x y k=>⟨k.1,k.2.ax hS I m⟩) h
theorem dT.len{S:Nat->Prop}{n z:Nat}{H:Hp}:∀{a b:List qm},dT S n H z a b->∀x∈a,x.length=z
 |[],[],_,x,hx=>by simp at hx
 |y::a,w::b,h,x,hx=>by
  rcases fY.1 hx with rfl|hx
  .exact h.1.1
  .exact dT.len h.2 x hx
def dU(S:Nat->Prop)(n:Nat)(H:Hp)(z:Nat)(v:AV)(ws:List qm):Prop:=
 (v=.ab/\ws=[])\/∃q Z rows,v=.sl q 0 rows.length z/\S q/\q<H.next/\H.get q=some (.cells rows.flatten Z true)/\Z<=rows.flatten.length/\dT (fun k=>S k/\k≠q) n H z rows ws
theorem dU.rd{n:Nat}{ws:List qm}(h:dU S n H z v ws):eR S (n+1) H v (.ai ws):=by
 rcases h with⟨rfl,rfl⟩|⟨q,Z,rows,rfl,j,m,A,O,J⟩
 .exact .ab
 .exact .rows j m A O (J.frame (fun k o=>o.1) (aT _) fun _ _ _=>rfl)
def dU.up{n:Nat}{ws:List qm}(h:dU S n H z v ws)(M:n<=m):dU S m H z v ws:=by
 rcases h with h|⟨q,Z,rows,e,j,Y,A,O,J⟩
 .exact .inl h
 .exact .inr ⟨q,Z,rows,e,j,Y,A,O,dT.up J M⟩
def dU.aj{n:Nat}{ws:List qm}(h:dU S n H z v ws)(hS:∀k,k<H.next->S k->S' k)(I:H.next<=H'.next)(m:∀k,S k->k<H.next->H'.get k=H.get k):dU S' n H' z v ws:=by
 rcases h with h|⟨q,Z,rows,e,j,Y,A,O,J⟩
 .exact .inl h
 .exact .inr ⟨q,Z,rows,e,hS q Y j,aa,by rw[m q j Y];exact A,O,J.ax (fun k o F=>⟨hS k o F.1,F.2⟩) I fun k C V=>m k C.1 V⟩
def dU.one{S:Nat->Prop}{n:Nat}{H:Hp}{z:Nat}{v:AV}{ws:List qm}(h:dU S n H z v ws):AV.one v=true/\v.cells=[v]:=by
 rcases h with⟨rfl,rfl⟩|⟨q,Z,rows,rfl,_⟩<;>exact⟨rfl,rfl⟩
def dU.len(U:P.underlying t=some (.slice e)){n:Nat}{ws:List qm}(h:dU S n H z v ws):gj P H' t v=some (.int .i64 ws.length):=by
 rcases h with⟨rfl,rfl⟩|⟨q,Z,rows,rfl,j,m,A,O,J⟩
 .exact Ba U
 .rw[wo U,show rows.length=ws.length from cP.len J]
theorem dU.push{zz:qm}(ht:P.underlying t=some (.slice e))(hs:bD P e=some z)(j:cL P e=some b)(hz:cn P e=some zz)(F:zz.length=z)(C:ip P t=true)
 {n:Nat}{ws:List qm} (h:dU (fun k=>lo<=k) n H z v ws) (O:lo<=H.next) {r imm:Nat}{row:qm} (hg:H.get r=some (.cells row imm true)) (K:row.length=z) (Y:row.all AV.one=true)
 (hw:cJ (fun k=>lo<=k/\∀o m U,v≠.sl k o m U) n H row w) (J:(ws.length+1)*b<=dd) (I:ws.length+1<=dd) :
 ∃v' H',dh P false H t t v (.sl r 0 1 z)=some (v',H')/\dU (fun k=>lo<=k) n H' z v' (ws++[w])/\H'.next=H.next+1/\(∀k,k<H.next->(∀o m U,v≠.sl k o m U)->H'.get k=H.get k)/\∀k o m U,v'=.sl k o m U->k=H.next:=by
 have hx:fc H z (.sl r 0 1 z)=some (1,row):=by
  have:=pN (H:=H) (r:=r) (o:=0) (n:=1) (z:=z) (s:=z) hg ME;rw[this,gV,iR aa]
 rcases h with⟨rfl,rfl⟩|⟨q,M,rows,rfl,h1,h2,h3,h4,h5⟩
 .refine⟨.sl H.next 0 1 z,H.alloc (.cells row 0 true),append_nil ht hs j hz C hx Y F (by simpa using J) (by simpa using I),.inr ⟨H.next,0,[row],rfl,O,dq _,by rw[aP,au rfl];simp,aI,⟨⟨K,hw.ax (fun k h1 h2=>⟨h2.1,aa⟩) (eT _) fun k h1 h2=>fX⟩,trivial⟩⟩,rfl,fun k hk _=>fX,fun k o m U e=>?_⟩;simp only[AV.sl.injEq]at e;exact e.1.symm
 .have hrl:=vz (dT.len h5);have A:rows.length=ws.length:=cP.len h5;have htr:fV false H z (.sl q 0 rows.length z)=H:=by
   unfold fV;simp only[h3,bR];have:Nat.blt (rows.length*z) rows.flatten.length=false:=by
    cases j:Nat.blt (rows.length*z) rows.flatten.length with
    |false=>rfl
    |true=>rw[iH]at j;omega
   simp only[l4,iV,this,mc]
  refine⟨.sl H.next 0 (rows.length+1) z,(H.az q).alloc (.cells (rows.flatten++row) (M-0) true),?_,.inr ⟨H.next,M-0,rows++[row],aI,O,dq _,?_,MF,?_⟩,rfl,fun k hk hno=>?_,fun k o m U e=>?_⟩
  .simp only[dh,ht,hs,j,hz,C,hx,Y,htr,F,nT,bw,kL,h3,bR,gV,dg,bH];rw[au ⟨by rw[A];exact J,by rw[A];exact I,aa,trivial,h4⟩]
  .show((H.az q).alloc _).get (H.az q).next=_
   rw[aP,au rfl];simp
  .have V:∀k,k<H.next->k≠q->((H.az q).alloc (.cells (rows.flatten++row) (M-0) true)).get k=H.get k:=fun k S Z=>by rw[aP,ad kC,gm,ad Z]
   refine cP.append (h5.ax (fun k S Z=>⟨Z.1,aa⟩) (eT _) fun k S Z=>V k Z S.2) ⟨⟨K,hw.ax (fun k S Z=>⟨Z.1,aa⟩) (eT _) fun k S Z=>V k Z fun e=>S.2 0 rows.length z mK⟩,trivial⟩
  .rw[aP,ad kC,gm,ad (fun e=>hno 0 rows.length z mK)]
  .simp only[AV.sl.injEq]at e;exact e.1.symm
def xc:=@dU.push
def YH(h:∀r∈rows,r.length=z):fc H z (.ai rows)=some (rows.length,rows.flatten):=by
 simp only[fc];rw[au (by rw[kj];intro r hr;simp[h r hr])]
theorem Ex.wk:∀(m:Nat) (x:Ex),x.cells.map (bW m)=x.cells
 |0,x=>by rw[show bW 0=id from rfl,zb]
 |m+1,x=>by
  rw[jm];simp only[m9,bW,ti];have:(fun z=>List.map (bW m) z) ∘ Ex.cells=Ex.cells:=funext fun y=>Ex.wk m y;rw[this]
theorem YI(l:qz)(m:Nat):bW m (.ai (l.map Ex.cells))=.ai (l.map Ex.cells):=by
 cases m with
 |zero=>rfl
 |succ m=>
  simp only[bW,ti];have:(fun z=>List.map (bW m) z) ∘ Ex.cells=Ex.cells:=funext fun y=>Ex.wk m y;rw[this]
theorem St.wk:∀(m:Nat) (x:St),x.cells.map (bW m)=x.cells
 |0,x=>by rw[show bW 0=id from rfl,zb]
 |m+1,x=>by
  rw[l7];simp only[m9,bW,ti];have j:(fun z=>List.map (bW m) z) ∘ Ex.cells=Ex.cells:=funext fun y=>Ex.wk m y;have Z:(fun z=>List.map (bW m) z) ∘ St.cells=St.cells:=funext fun y=>St.wk m y;rw[j,Z]
theorem YJ(l:qt)(m:Nat):bW m (.ai (l.map St.cells))=.ai (l.map St.cells):=by
 cases m with
 |zero=>rfl
 |succ m=>
  simp only[bW,ti];have:(fun z=>List.map (bW m) z) ∘ St.cells=St.cells:=funext fun y=>St.wk m y;rw[this]
def eR.eN{n:Nat}(l:qz):eR S (n+1) H (.ai (l.map Ex.cells)) (.ai (l.map Ex.cells)):=.cc ⟨yM l,trivial⟩ (YI l)
def j6:=@eR.eN
def eR.eO{n:Nat}(l:qt):eR S (n+1) H (.ai (l.map St.cells)) (.ai (l.map St.cells)):=.cc ⟨wy l,trivial⟩ (YJ l)
def iD:=@eR.eO
def cJ.ex{n:Nat}(x:Ex):cJ S (n+1) H x.cells x.cells:=by
 rw[jm];exact .cons (.int _ _) (.cons (.int _ _) (.cons (.ae _) (.cons (.int _ _) (.cons (.eN _) .nil))))
def cJ.st{n:Nat}(x:St):cJ S (n+1) H x.cells x.cells:=by
 rw[l7];exact .cons (.int _ _) (.cons (.ae _) (.cons (.ae _) (.cons (.int _ _) (.cons (.int _ _) (.cons (.int _ _) (.cons (.ae _) (.cons (.int _ _) (.cons (.eN _) (.cons (.int _ _) (.cons (.int _ _) (.cons (.ae _) (.cons (.int _ _) (.cons (.eN _) (.cons (.eN _) (.cons (.eO _) (.cons (.eO _) .nil))))))))))))))))
def F9(fit:Fit prog){ρ:Nat->Int}(o:mH cfg.cj ρ)(K:∀f j r,cfg.call f j=some r->bJ prog ρ f j r){j:qm}{r:AV}{n:Nat}
 (J:gg j) (h:aU prog cfg g j bV fun v H'=>∃m u,iceV H' m v=some u/\bW n u=r):bJ prog ρ g j r:=by
 unfold aU at h;obtain⟨v,H',Z,m,u,Y,A⟩:=h;refine FY n (u5 (m:=m) fit o K J ?_) A;unfold aU;exact⟨v,H',Z,Y⟩
theorem YK{zz:qm}(ht:P.underlying t=some (.slice e))(hs:bD P e=some z)(V:cL P e=some b)(hz:cn P e=some zz)(F:zz.length=z)(Z:ip P t=true)
 {n:Nat}{ws:List qm} (h:dU S n H z v ws) (U:∀k,k<H.next->S k->S' k) (hN:S' H.next) {r imm:Nat}{row:qm} (hg:H.get r=some (.cells row imm true)) (hrow:row.length=z) (K:row.all AV.one=true)
 (O:(ws.length+1)*b<=dd) (Y:ws.length+1<=dd) :
 ∃H' rows M,dh P false H t t v (.sl r 0 1 z)=some (.sl H.next 0 (ws.length+1) z,H')/\rows.length=ws.length/\(∀x∈rows,x.length=z)/\H'.get H.next=some (.cells (rows.flatten++row) M true)/\M<=rows.flatten.length/\H'.next=H.next+1/\(∀k,k<H.next->(∀o m z',v≠.sl k o m z')->H'.get k=H.get k) /\
  dT (fun k=>S' k/\k≠H.next) n H' z rows ws:=by
 have hx:fc H z (.sl r 0 1 z)=some (1,row):=by
  have:=pN (H:=H) (r:=r) (o:=0) (n:=1) (z:=z) (s:=z) hg ME;rw[this,gV,iR aa]
 rcases h with⟨rfl,rfl⟩|⟨q,M,rows,rfl,h1,h2,h3,h4,J⟩
 .exact⟨H.alloc (.cells row 0 true),[],0,append_nil ht hs V hz Z hx K F (by simpa using O) An,rfl,aI,by rw[aP,au rfl];simp,dx _,rfl,fun k hk _=>fX,trivial⟩
 .have hrl:=vz (dT.len J);have C:rows.length=ws.length:=cP.len J;have j:fV false H z (.sl q 0 rows.length z)=H:=by
   unfold fV;simp only[h3,bR];have:Nat.blt (rows.length*z) rows.flatten.length=false:=by
    cases V:Nat.blt (rows.length*z) rows.flatten.length with
    |false=>rfl
    |true=>rw[iH]at V;omega
   simp only[l4,iV,this,mc]
  refine⟨(H.az q).alloc (.cells (rows.flatten++row) (M-0) true),rows,M-0,?_,C,dT.len J,?_,aa,rfl,fun k hk I=>?_,?_⟩
  .simp only[dh,ht,hs,V,hz,Z,hx,K,j,F,nT,bw,kL,h3,bR,gV,dg,bH];rw[au ⟨by rw[C];exact O,by rw[C];exact Y,aa,trivial,h4⟩,C]
  .show((H.az q).alloc _).get (H.az q).next=_
   rw[aP,au rfl]
  .rw[aP,ad kC,gm,ad (fun e=>I 0 rows.length z mK)]
  .exact J.ax (fun k A h7=>⟨U k A h7.1,aa⟩) (eT _) fun k A h7=>by rw[aP,ad kC,gm,ad A.2]
def dU.of{n imm:Nat}{ws:List qm}{row:qm}(hS:S q)(F:q<H.next)(Y:∀x∈rows,x.length=z)(K:row.length=z)(C:H.get q=some (.cells (rows.flatten++row) imm true))(V:imm<=rows.flatten.length)(hr:dT (fun k=>S k/\k≠q) n H z rows ws)(J:cJ (fun k=>S k/\k≠q) n H row w):dU S n H z (.sl q 0 (ws.length+1) z) (ws++[w]):=by
 have Z:rows.length=ws.length:=cP.len hr;exact .inr ⟨q,imm,rows++[row],by rw[lA,Z];rfl,hS,F,by rw[C];simp,MF,hr.append ⟨⟨K,J⟩,trivial⟩⟩
def Cy{n:Nat}{r:Nat}(l:qo)(hS:S r)(hr:r<H.next)(C:H.get r=some (.cells (l.map .ae) 0 true)):dU S (n+1) H 1 (.sl r 0 l.length 1) (l.map fun s=>[AV.ae s]):=
 .inr ⟨r,0,l.map fun s=>[AV.ae s],zk,hS,hr,by rw[BG];exact C,dx _,dT.dJ l⟩
structure FnL (pt:Nat->Nat) (b n:Nat) (H:Hp) (f:Fu) (p l bo:AV) (v:qm):Prop where
 len:v.length=5
 one:v.all AV.one=true
 ps:dU (fun q=>pt q=b) n H 1 p (f.params.map fun s=>[AV.ae s])
 ls:dU (fun q=>pt q=b+1) n H 1 l (f.ah.map fun s=>[AV.ae s])
 bo:dU (fun q=>pt q=b+2) n H 17 bo (f.body.map St.cells)
 vw:cJ (fun q=>pt q=b+3) n H v f.value.cells
def fU(nm:qr)(p l V:AV)(v:qm):qm:=[.ae nm,p,l,V]++v
structure zdx (pt:Nat->Nat) (n:Nat) (H:Hp) (ra rf:Nat) (x y:Int) (f g:Fu) (pf lf bf:AV) (vf:qm) (pg lg bg:AV) (vg:qm):Prop where
 ga:H.get ra=some (.cells [.ae [97],.int .i64 x,.ae [98],.int .i64 y] 0 true)
 gf:H.get rf=some (.cells (fU f.name pf lf bf vf++fU g.name pg lg bg vg) 0 true)
 cS:ra<H.next
 ca:rf<H.next
 cr:pt ra=1
 bF:pt rf=2
 F:FnL pt 3 n H f pf lf bf vf
 G:FnL pt 7 n H g pg lg bg vg
def tU(M a b c q:Nat):Nat:=if q<=M then 0 else if q=M+1 then 1 else if q=M+7 then 2 else if q=M+3 then 3 else if q=M+4 then 4 else if q=M+5 then 7 else if q=M+6 then 8 else if q<a then 5 else if q<b then 6 else if q<c then 9 else 10
def YL{a:Nat}(h:M+8<=q)(h1:q<a):tU M a b c q=5:=Cv
def YM{a:Nat}(h:M+8<=q)(h1:a<=q)(h2:q<b):tU M a b c q=6:=Cv
def YN{a:Nat}(h:M+8<=q)(I:a<=q)(h1:b<=q)(h2:q<c):tU M a b c q=9:=Cv
def YO{a:Nat}(h:M+8<=q)(I:a<=q)(h1:b<=q)(h2:c<=q):tU M a b c q=10:=Cv
structure mM (a b:Bd):Prop where
 l:a.l<+:b.l
 n:a.loops<=b.loops
structure Fin (s:Bd):Prop where
 r:∀x∈s.l,NdR x
 l:s.l.length<2^36
 n:s.loops<2^36
namespace tyLoC
end tyLoC
open tyLoC
def YP(H:Hp)(a:Int):dc prog H 26 1 [(0,.int .i64 a)]=some (.sl H.next 0 1 1,H.alloc (.cells [.int .i64 a] 0 true)):=aA
end
section
def tyW4a.tyF:=ac @cI (ac @cY (ac @dR (ac @dX (ac @dy (ac @eD (@dF))))))
open tyW4a
noncomputable def MI:{c:SC // aG 28 (f119.body.getD .skip)=c}:=by
 refine⟨?_,?_⟩;rotate_left
 .simp only[f119,bE,aG,bz,bq,bF,bB,Nat.blt,Nat.ble];rfl
noncomputable def MJ:{c:SC // aG 39 (f113.body.getD .skip)=c}:=by
 refine⟨?_,?_⟩;rotate_left
 .simp only[f113,bE,aG,bz,bq,bF,bB,Nat.blt,Nat.ble];rfl
def xd(cfg:Cfg)(base:Nat)(I:Hp->Prop)(g:FuncId)(cap:qm)(q:Ex->Int->Bool):Prop:=
 ∀(x:Ex) (d:Int) (H:Hp),x.sz<2^60->base<=H.next->I H->aU prog cfg g (.agg x.cells::.int .i64 d::cap) H fun v H'=>v=.bool (q x d)/\FrB base H H'/\I H'
def tV(base:Nat)(I:Hp->Prop):Prop:=∀H H',I H->ii base H H'->I H'
abbrev qe:HB:=.cells [.int .i64 0,.int .i64 0,.ae [],.int .i64 0,.ab] 0 true
theorem xe{cfg:Cfg}(hw:zc7 cfg 119){base:Nat}{I:Hp->Prop}(hI:tV base I){g:FuncId}{cap:qm}{q:Ex->Int->Bool}(hq:xd cfg base I g cap q):
 ∀(n:Nat) (x:Ex),x.sz<n->∀(d:Int) (H:Hp),x.sz<2^60->base<=H.next->I H->aU prog cfg 119 [.agg x.cells,.int .i64 d,.bl g cap] H fun v H'=>v=.bool (lF q x d)/\FrB base H H'/\I H'
 |0,x,hx,_,_,_,_,_=>by omega
 |n+1,x,hx,d,H,hz,hbase,hi=>by
  refine a5 (M:=28) (rs:=[.tmp 6]) (hw.call _) hw.ao hw.am func119 rfl rfl MI.2 rfl ?_;dsimp only[MI,a3,Nat.reduceAdd];repeat' (first
   |(apply ai ?_;clear hK K)|apply Rx.o ?_|apply aN ?_|(apply aE (fun z V=>?_) (fun z V=>?_)<;>try(cases z;done))|apply ae ?_|(apply ah fun K hK=>?_)|apply aj ?_|apply ak ?_|apply am ?_|apply ax ?_)
  refine qa ?_;have F:FrB base H (H.alloc (.cells x.cells 0 true)):=(iu _ _).alloc _;refine a4 ?_ (hq x d (H.alloc (.cells x.cells 0 true)) hz bY (hI _ _ hi ((oZ _ _).alloc hbase _)));rintro v H1 ⟨rfl,U,A⟩;have hg1:H1.get H.next=some (.cells x.cells 0 true):=by
   rw[U.get _ hbase (by simp[br]),aP,au rfl]
  have hn1:H.next<H1.next:=by have:=U.next;simp only[br]at this;omega
  dsimp only[a0];repeat' (first
   |(apply ai ?_;clear hK K)|apply Rx.o ?_|apply aN ?_|(apply aE (fun z V=>?_) (fun z V=>?_)<;>try(cases z;done))|apply ae ?_|(apply ah fun K hK=>?_)|apply aj ?_|apply ak ?_|apply am ?_|apply ax ?_)
  .all_goals refine qq ?_
   refine⟨?_,F.trans U,A⟩;rw[EV];simp_all
  have hl:x.ak.length<2^60:=by have:=lH x.ak;have:=x.aJ;omega
  refine jU (fun i E Y=>iK q x.ak (bA (d+1))=iK q (x.ak.drop i) (bA (d+1))/\E.at 1=.int .i64 d/\E.at 2=.bl g cap/\E.at 15=.ai (x.ak.map Ex.cells)/\E.at 16=.int .i64 x.ak.length/\E.at 17=.int .i64 i/\FrB base H Y/\I Y) x.ak.length ?_ ?_
  .rintro i E Y hi2 ⟨hc,h1,h2,h15,h16,h17,o,S⟩;repeat' (first
    |(apply ai ?_;clear hK K)|apply Rx.o ?_|apply aN ?_|(apply aE (fun z V=>?_) (fun z V=>?_)<;>try(cases z;done))|apply ae ?_|(apply ah fun K hK=>?_)|apply aj ?_|apply ak ?_|apply am ?_|apply ax ?_)
   .have Z:i<x.ak.length:=by simpa using z
    have hgx:x.ak[i]?=some x.ak[i]:=bt Z;repeat' (first
     |(apply ai ?_;clear hK K)|apply Rx.o ?_|apply aN ?_|(apply aE (fun z V=>?_) (fun z V=>?_)<;>try(cases z;done))|apply ae ?_|(apply ah fun K hK=>?_)|apply aj ?_|apply ak ?_|apply am ?_|apply ax ?_)
    have hxm:x.ak[i]∈x.ak:=ek Z;have hsm:=lK hxm;have hsx:=x.aJ;have C:FrB base Y ((Y.alloc qe).set Y.next (.cells x.ak[i].cells 0 true)):=((iu _ _).alloc _).set (.inl (aT _)) _;have m:base<=Y.next:=dC hbase (o.next)
    have j:ii base Y ((Y.alloc qe).set Y.next (.cells x.ak[i].cells 0 true)):=((oZ _ _).alloc m _).set m _;refine qa ?_;refine a4 ?_ (xe hw hI hq n x.ak[i] aa _ _ aa (by simp only[br,bG];omega) (hI _ _ S j));rintro v H3 ⟨rfl,O,J⟩;dsimp only[a0];repeat' (first
     |(apply ai ?_;clear hK K)|apply Rx.o ?_|apply aN ?_|(apply aE (fun z V=>?_) (fun z V=>?_)<;>try(cases z;done))|apply ae ?_|(apply ah fun K hK=>?_)|apply aj ?_|apply ak ?_|apply am ?_|apply ax ?_)
    .all_goals refine qq ?_
     refine⟨?_,(o.trans C).trans O,J⟩;rw[EV,hc,Bv q Z];simp_all
    .refine⟨Z,?_,eE,eE,eE,eE,?_,(o.trans C).trans O,J⟩
     .rw[hc,Bv q Z];simp_all
     .simp only[gc,Nat.reduceBEq,fF,ft (show i<2^62 by omega)]
   .have hi3:i=x.ak.length:=by simp at z;omega
    all_goals refine qq ?_
    refine⟨?_,o,S⟩;rw[EV,hc,hi3];simp_all[iK]
  .exact⟨rfl,eE,eE,eE,eE,eE,F.trans U,A⟩
end
section
def tyW4b.tyF:=ac @cI (ac @cY (ac @dR (ac @dX (ac @dy (@eD)))))
open tyW4b
def zn{Y:Type}(cfg:Cfg)(base:Nat)(I:Y->Hp->Prop)(g:FuncId)(cap:qm)(q:St->Int->Y->Bool×Y):Prop:=
 ∀(x:St) (d:Int) (s:Y) (H:Hp),x.sz<2^60->base<=H.next->I s H->aU prog cfg g (.agg x.cells::.int .i64 d::cap) H fun v H'=>v=.bool (q x d s).1/\FrB base H H'/\I (q x d s).2 H'
theorem xf{cfg:Cfg}(hw:zc7 cfg 113){σ:Type}{base:Nat}{I:σ->Hp->Prop}(hI:∀s,tV base (I s)){g:FuncId}{cap:qm}{q:St->Int->σ->Bool×σ}(hq:zn cfg base I g cap q):
 ∀(n:Nat) (l:qt),a6 l<n->∀(d:Int) (s:σ) (H:Hp),a6 l<2^60->base<=H.next->I s H->aU prog cfg 113 [.ai (l.map St.cells),.int .i64 d,.bl g cap] H fun v H'=>v=.bool (eO q l d s).1/\FrB base H H'/\I (eO q l d s).2 H'
 |0,l,hx,_,_,_,_,_,_=>by omega
 |n+1,l,hx,d,s,H,hz,hbase,hi=>by
  refine a5 (M:=39) (rs:=[.tmp 6]) (hw.call _) hw.ao hw.am func113 rfl rfl MJ.2 rfl ?_;dsimp only[MJ,a3,Nat.reduceAdd];repeat' (first
   |(apply ai ?_;clear hK K)|apply Rx.o ?_|apply aN ?_|(apply aX (fun C Y=>?_) (fun C Y=>?_)<;>try(cases C;done))|(apply aE (fun z V=>?_) (fun z V=>?_)<;>try(cases z;done))|apply ae ?_|(apply ah fun K hK=>?_)|apply aj ?_|apply ak ?_|apply am ?_|apply ax ?_)
  have hl:l.length<2^60:=by have:=mS l;omega
  refine jU (fun i E Z=>∃s2,eO q l d s=eO q (l.drop i) d s2/\E.at 1=.int .i64 d/\E.at 2=.bl g cap/\E.at 9=.ai (l.map St.cells)/\E.at 10=.int .i64 l.length/\E.at 11=.int .i64 i/\FrB base H Z/\I s2 Z) l.length ?_ ?_
  .rintro i E Z hi2 ⟨s2,hc,h1,h2,h9,h10,h11,o,hI2⟩;repeat' (first
    |(apply ai ?_;clear hK K)|apply Rx.o ?_|apply aN ?_|(apply aX (fun C Y=>?_) (fun C Y=>?_)<;>try(cases C;done))|(apply aE (fun z V=>?_) (fun z V=>?_)<;>try(cases z;done))|apply ae ?_|(apply ah fun K hK=>?_)|apply aj ?_|apply ak ?_|apply am ?_|apply ax ?_)
   .have S:i<l.length:=by simpa using z
    have hgx:l[i]?=some l[i]:=bt S;repeat' (first
     |(apply ai ?_;clear hK K)|apply Rx.o ?_|apply aN ?_|(apply aX (fun C Y=>?_) (fun C Y=>?_)<;>try(cases C;done))|(apply aE (fun z V=>?_) (fun z V=>?_)<;>try(cases z;done))|apply ae ?_|(apply ah fun K hK=>?_)|apply aj ?_|apply ak ?_|apply am ?_|apply ax ?_)
    have hxm:l[i]∈l:=ek S;have hsm:=l9 hxm;have hsx:=l[i].aJ;generalize hx0:l[i]=x at *;have J:base<=Z.next:=dC hbase o.next
    generalize F:(Z.alloc _).set Z.next _=H3
    have A:FrB base Z H3:=by rw[<-F];exact((iu _ _).alloc _).set (.inl (aT _)) _
    have hlow:ii base Z H3:=by rw[<-F];exact((oZ _ _).alloc J _).set J _
    have hn3:Z.next<H3.next:=by rw[<-F];simp only[br,bG];omega
    have hg3:H3.get Z.next=some (.cells x.cells 0 true):=xa
    have hI3:=hI _ _ _ hI2 hlow;have hwd:=VP q S d s2;rw[hx0,VO]at hwd;rw[hwd]at hc;refine qa ?_;refine a4 ?_ (hq x d s2 H3 aa aa hI3);rintro v H4 ⟨rfl,O,hI4⟩;generalize hq1:q x d s2=aw at *;obtain⟨ok1,s3⟩:=aw;have hg4:H4.get Z.next=some (.cells x.cells 0 true):=by rw[O.get _ J hn3];exact hg3
    have hn4:Z.next<H4.next:=fO hn3 O.next
    dsimp only[a0];cases ok1 with
    |false=>
     repeat' (first
      |(apply ai ?_;clear hK K)|apply Rx.o ?_|apply aN ?_|(apply aX (fun C Y=>?_) (fun C Y=>?_)<;>try(cases C;done))|(apply aE (fun z V=>?_) (fun z V=>?_)<;>try(cases z;done))|apply ae ?_|(apply ah fun K hK=>?_)|apply aj ?_|apply ak ?_|apply am ?_|apply ax ?_)
     all_goals refine qq ?_
     dsimp only at hc;rw[hc];exact⟨rfl,(o.trans A).trans O,hI4⟩
    |true=>
     repeat' (first
      |(apply ai ?_;clear hK K)|apply Rx.o ?_|apply aN ?_|(apply aX (fun C Y=>?_) (fun C Y=>?_)<;>try(cases C;done))|(apply aE (fun z V=>?_) (fun z V=>?_)<;>try(cases z;done))|apply ae ?_|(apply ah fun K hK=>?_)|apply aj ?_|apply ak ?_|apply am ?_|apply ax ?_)
     refine qa ?_;have hrec:=xf hw hI hq n x.a1 aa (bA (d+1)) s3 H4 aa aa hI4;refine a4 ?_ hrec;rintro v H5 ⟨rfl,U,hI5⟩;generalize m:eO q x.a1 (bA (d+1)) s3=a1 at *;obtain⟨ok2,s4⟩:=a1;have hg5:H5.get Z.next=some (.cells x.cells 0 true):=by rw[U.get _ J hn4];exact hg4
     have hn5:Z.next<H5.next:=fO hn4 U.next
     dsimp only[a0];cases ok2 with
     |false=>
      repeat' (first
       |(apply ai ?_;clear hK K)|apply Rx.o ?_|apply aN ?_|(apply aX (fun C Y=>?_) (fun C Y=>?_)<;>try(cases C;done))|(apply aE (fun z V=>?_) (fun z V=>?_)<;>try(cases z;done))|apply ae ?_|(apply ah fun K hK=>?_)|apply aj ?_|apply ak ?_|apply am ?_|apply ax ?_)
      all_goals refine qq ?_
      simp only[m]at hc;rw[hc];exact⟨rfl,((o.trans A).trans O).trans U,hI5⟩
     |true=>
      repeat' (first
       |(apply ai ?_;clear hK K)|apply Rx.o ?_|apply aN ?_|(apply aX (fun C Y=>?_) (fun C Y=>?_)<;>try(cases C;done))|(apply aE (fun z V=>?_) (fun z V=>?_)<;>try(cases z;done))|apply ae ?_|(apply ah fun K hK=>?_)|apply aj ?_|apply ak ?_|apply am ?_|apply ax ?_)
      refine qa ?_;have j:=xf hw hI hq n x.bh aa (bA (d+1)) s4 H5 aa aa hI5;refine a4 ?_ j;rintro v H6 ⟨rfl,hf6,hI6⟩;generalize hq3:eO q x.bh (bA (d+1)) s4=im at *;obtain⟨ok3,s5⟩:=im;dsimp only[a0];have hf7:FrB base H H6:=(((o.trans A).trans O).trans U).trans hf6;cases ok3 with
      |false=>
       repeat' (first
        |(apply ai ?_;clear hK K)|apply Rx.o ?_|apply aN ?_|(apply aX (fun C Y=>?_) (fun C Y=>?_)<;>try(cases C;done))|(apply aE (fun z V=>?_) (fun z V=>?_)<;>try(cases z;done))|apply ae ?_|(apply ah fun K hK=>?_)|apply aj ?_|apply ak ?_|apply am ?_|apply ax ?_)
       all_goals refine qq ?_
       simp only[m,hq3]at hc;rw[hc];exact⟨rfl,hf7,hI6⟩
      |true=>
       repeat' (first
        |(apply ai ?_;clear hK K)|apply Rx.o ?_|apply aN ?_|(apply aX (fun C Y=>?_) (fun C Y=>?_)<;>try(cases C;done))|(apply aE (fun z V=>?_) (fun z V=>?_)<;>try(cases z;done))|apply ae ?_|(apply ah fun K hK=>?_)|apply aj ?_|apply ak ?_|apply am ?_|apply ax ?_)
       refine⟨S,s5,?_,eE,eE,eE,eE,?_,hf7,hI6⟩
       .simp only[m,hq3]at hc;exact hc
       .simp only[gc,Nat.reduceBEq,fF,ft (show i<2^62 by omega)]
   .have hi3:i=l.length:=by simp at z;omega
    all_goals refine qq ?_
    rw[hc,hi3];simp only[gy,eO];exact⟨trivial,o,hI2⟩
  .exact⟨s,rfl,eE,eE,eE,eE,eE,iu _ _,hi⟩
end
section
def tyW4c.tyF:=ac @cI (ac @cY (ac @dR (ac @dX (ac @dy (ac @eD (ac @dF (ac @dW (ac @ge (@Jj)))))))))
open tyW4c
noncomputable def MK:{c:SC // aG 24 (f114.body.getD .skip)=c}:=by
 refine⟨?_,?_⟩;rotate_left
 .simp only[f114,bE,aG,bz,bq,bF,bB,Nat.blt,Nat.ble];rfl
noncomputable def ML:{c:SC // aG 7 (f116.body.getD .skip)=c}:=by
 refine⟨?_,?_⟩;rotate_left
 .simp only[f116,bE,aG,bz,bq,bF,bB,Nat.blt,Nat.ble];rfl
noncomputable def MM:{c:SC // aG 32 (f161.body.getD .skip)=c}:=by
 refine⟨?_,?_⟩;rotate_left
 .simp only[f161,bE,aG,bz,bq,bF,bB,Nat.blt,Nat.ble];rfl
noncomputable def MN:{c:SC // aG 15 (f115.body.getD .skip)=c}:=by
 refine⟨?_,?_⟩;rotate_left
 .simp only[f115,bE,aG,bz,bq,bF,bB,Nat.blt,Nat.ble];rfl
theorem YQ(J:zc7 cfg 114){base rn rl:Nat}(I:rn<base)(F:rl<base)(o:rn≠rl)(Hb:Hp):
 zn cfg base (fun(s:Int×Int) H=>H.get rn=some (.cells [.int .i64 s.1] 0 true)/\H.get rl=some (.cells [.int .i64 s.2] 0 true)/\∀r,r<base->r≠rn->r≠rl->H.get r=Hb.get r) 114 [.ptr rn 0,.ptr rl 0] mT:=by
 intro x d s H hz Z ⟨A,m,U⟩;have e1:(rn == H.next)=false:=ce;have e2:(rl == H.next)=false:=ce;have e3:(rl == rn)=false:=ce;have e4:(rn == rl)=false:=ce;have e5:(H.next == rn)=false:=ce;have e6:(H.next == rl)=false:=ce;refine a5 (M:=24) (rs:=[.tmp 6]) (J.call _) J.ao J.am func114 rfl rfl MK.2 rfl ?_;dsimp only[MK,a3,Nat.reduceAdd];repeat' (first
  |(apply ai ?_;clear hK K)|apply Rx.o ?_|apply aN ?_|(apply aX (fun C Y=>?_) (fun C Y=>?_)<;>try(cases C;done))|(apply aE (fun z V=>?_) (fun z V=>?_)<;>try(cases z;done))|apply ae ?_|(apply ah fun K hK=>?_)|apply ak ?_|apply am ?_)
 all_goals refine qq ?_
 all_goals (refine⟨?_,?_,?_,?_,?_⟩)
 all_goals first
  |(intro r j S O;simp only[aO,aP,S,O,show ¬r=H.next by omega,bH];exact U r j S O)
  |exact(((iu _ _).alloc _).set (.inr I) _).set (.inr F) _
  |exact((iu _ _).alloc _).set (.inr I) _
  |(simp only[get_set,yG,mT, *,fF,nS,beq_self_eq_true,JP,bw,bH];done)
  |(simp_all[mT,get_set,yG];done)
  |skip
def YR(J:zc7 cfg 116){base:Nat}(O:tV base I):xd cfg base I 116 [] r2:=by
 intro x d H Y Z F;refine a5 (M:=7) (rs:=[.tmp 4]) (J.call _) J.ao J.am func116 rfl rfl ML.2 rfl ?_;dsimp only[ML,a3,Nat.reduceAdd];repeat' (first
  |(apply ai ?_;clear hK K)|apply Rx.o ?_|apply ae ?_|(apply ah fun K hK=>?_)|apply am ?_)
 all_goals refine qq ?_
 exact⟨rfl,(iu _ _).alloc _,O _ _ F ((oZ _ _).alloc Z _)⟩
theorem YS(hw:zc7 cfg 161)(hwe:zc7 cfg 119){base Z:Nat}(F:base<=Z)(hI:tV base I){cap:qm}{q:Ex->Int->Bool}(hq:xd cfg base I g cap q)
 {im:Nat} (hr1:base<=im) (hr2:im<Z) (H1:Hp) :
 zn cfg Z (fun(_:Unit) H=>I H/\H.get im=some (.cells [.bl g cap] 0 true)/\∀r,base<=r->r<Z->H.get r=H1.get r) 161 [.ptr im 0] (nY q):=by
 intro x d s H hz hbase ⟨hi,hi3,hi1⟩;have hsz:=x.aJ;have e1:(im == H.next)=false:=ce;have e2:(H.next == im)=false:=ce;refine a5 (M:=32) (rs:=[.tmp 5]) (hw.call _) hw.ao hw.am func161 rfl rfl MM.2 rfl ?_;dsimp only[MM,a3,Nat.reduceAdd];repeat' (first
  |(apply ai ?_;clear hK K)|apply Rx.o ?_|apply aN ?_|(apply aX (fun C Y=>?_) (fun C Y=>?_)<;>try(cases C;done))|(apply aE (fun z V=>?_) (fun z V=>?_)<;>try(cases z;done))|apply ae ?_|(apply ah fun K hK=>?_)|apply aj ?_|apply ak ?_|apply am ?_|apply ax ?_)
 have hIa:=hI _ _ hi ((oZ base H).alloc (dC F hbase) (.cells x.cells 0 true));refine qa ?_;refine a4 ?_ (xe hwe hI hq (x.aL.sz+1) x.aL aa 0 _ aa bY hIa);rintro v o ⟨rfl,m,hi2⟩;have hn2:H.next<o.next:=by have:=m.next;simp only[br]at this;omega
 have hg2:o.get H.next=some (.cells x.cells 0 true):=by rw[m.get _ aa (by simp[br]),aP,au rfl]
 have hr3:o.get im=some (.cells [.bl g cap] 0 true):=by rw[m.get _ hr1 bY,aP,ad aa];exact hi3
 have hF2:FrB base H o:=((iu _ _).alloc _).trans m;have S:∀r,base<=r->r<Z->o.get r=H1.get r:=fun r h1 h2=>by rw[hF2.get r h1 aa];exact hi1 r h1 h2
 dsimp only[a0];repeat' (first
  |(apply ai ?_;clear hK K)|apply Rx.o ?_|apply aN ?_|(apply aX (fun C Y=>?_) (fun C Y=>?_)<;>try(cases C;done))|(apply aE (fun z V=>?_) (fun z V=>?_)<;>try(cases z;done))|apply ae ?_|(apply ah fun K hK=>?_)|apply aj ?_|apply ak ?_|apply am ?_|apply ax ?_)
 .refine qa ?_;refine a4 ?_ (xe hwe hI hq (x.value.sz+1) x.value aa 0 _ aa aa hi2);rintro v H3 ⟨rfl,O,hi3'⟩;have hn3:H.next<H3.next:=fO hn2 O.next
  have hg3:H3.get H.next=some (.cells x.cells 0 true):=by rw[O.get _ aa hn2];exact hg2
  have hr3b:H3.get im=some (.cells [.bl g cap] 0 true):=by rw[O.get _ hr1 aa];exact hr3
  have hF3:FrB base H H3:=hF2.trans O;have j:∀r,base<=r->r<Z->H3.get r=H1.get r:=fun r h1 h2=>by rw[O.get r h1 aa];exact S r h1 h2
  dsimp only[a0];repeat' (first
   |(apply ai ?_;clear hK K)|apply Rx.o ?_|apply aN ?_|(apply aX (fun C Y=>?_) (fun C Y=>?_)<;>try(cases C;done))|(apply aE (fun z V=>?_) (fun z V=>?_)<;>try(cases z;done))|apply ae ?_|(apply ah fun K hK=>?_)|apply aj ?_|apply ak ?_|apply am ?_|apply ax ?_)
  .all_goals refine qq ?_
   exact⟨by simp_all[nY],hF3.cw F,hi3',hr3b,j⟩
  have hl:x.args.length<2^60:=by have:=lH x.args;omega
  refine jU (fun i E o=>iK q x.args 0=iK q (x.args.drop i) 0/\E.at 2=.ptr im 0/\E.at 21=.ai (x.args.map Ex.cells)/\E.at 22=.int .i64 x.args.length/\E.at 23=.int .i64 i/\FrB base H o/\I o/\o.get im=some (.cells [.bl g cap] 0 true)/\(∀r,base<=r->r<Z->o.get r=H1.get r)) x.args.length ?_ ?_
  .rintro i E H4 hi2 ⟨hc,h2,h21,h22,h23,hf4,hI4,hr4,U⟩;have hn4:=hf4.next
   have e3:(im == H4.next)=false:=ce;repeat' (first
    |(apply ai ?_;clear hK K)|apply Rx.o ?_|apply aN ?_|(apply aX (fun C Y=>?_) (fun C Y=>?_)<;>try(cases C;done))|(apply aE (fun z V=>?_) (fun z V=>?_)<;>try(cases z;done))|apply ae ?_|(apply ah fun K hK=>?_)|apply aj ?_|apply ak ?_|apply am ?_|apply ax ?_)
   .have J:i<x.args.length:=by simpa using z
    have hgx:x.args[i]?=some x.args[i]:=bt J;repeat' (first
     |(apply ai ?_;clear hK K)|apply Rx.o ?_|apply aN ?_|(apply aX (fun C Y=>?_) (fun C Y=>?_)<;>try(cases C;done))|(apply aE (fun z V=>?_) (fun z V=>?_)<;>try(cases z;done))|apply ae ?_|(apply ah fun K hK=>?_)|apply aj ?_|apply ak ?_|apply am ?_|apply ax ?_)
    have hxm:x.args[i]∈x.args:=ek J;have hsm:=lK hxm;have hb4:base<=H4.next:=aa
    generalize hH5:(H4.alloc _).set H4.next _=H5
    have hf5:FrB base H4 H5:=by rw[<-hH5];exact((iu _ _).alloc _).set (.inl (aT _)) _
    have hlow5:ii base H4 H5:=by rw[<-hH5];exact((oZ _ _).alloc hb4 _).set hb4 _
    have hn5:H4.next<H5.next:=by rw[<-hH5];simp only[br,bG];omega
    refine qa ?_;refine a4 ?_ (xe hwe hI hq (x.args[i].sz+1) x.args[i] aa 0 _ aa aa (hI _ _ hI4 hlow5));rintro v H6 ⟨rfl,hf6,hi6⟩;have hF6:FrB base H4 H6:=hf5.trans hf6;have hr6:H6.get im=some (.cells [.bl g cap] 0 true):=by rw[hF6.get _ hr1 aa];exact hr4
    have A:∀r,base<=r->r<Z->H6.get r=H1.get r:=fun r h1 h2=>by rw[hF6.get r h1 aa];exact U r h1 h2
    dsimp only[a0];repeat' (first
     |(apply ai ?_;clear hK K)|apply Rx.o ?_|apply aN ?_|(apply aX (fun C Y=>?_) (fun C Y=>?_)<;>try(cases C;done))|(apply aE (fun z V=>?_) (fun z V=>?_)<;>try(cases z;done))|apply ae ?_|(apply ah fun K hK=>?_)|apply aj ?_|apply ak ?_|apply am ?_|apply ax ?_)
    .all_goals refine qq ?_
     refine⟨?_,(hf4.trans hF6).cw F,hi6,hr6,A⟩;have:=Bv q J 0;simp_all[nY]
    .refine⟨J,?_,eE,eE,eE,?_,hf4.trans hF6,hi6,hr6,A⟩
     .rw[hc,Bv q J];simp_all
     .simp only[gc,Nat.reduceBEq,fF,ft (show i<2^62 by omega)]
   .have hi3:i=x.args.length:=by simp at z;omega
    all_goals refine qq ?_
    refine⟨?_,hf4.cw F,hI4,hr4,U⟩;rw[hi3]at hc;simp_all[nY,iK]
  .exact⟨rfl,eE,eE,eE,eE,hF3,hi3',hr3b,j⟩
 .all_goals refine qq ?_
  exact⟨by simp_all[nY],hF2.cw F,hi2,hr3,S⟩
end
section
def tyW4d.tyF:=ac @dF (ac @cI (ac @cY (ac @dW (ac @dR (ac @dX (ac @dy (ac @ge (ac @eD (@Jj)))))))))
open tyW4d
structure zdp (cfg:Cfg):Prop where
 we:zc7 cfg 119
 ws:zc7 cfg 113
 wx:zc7 cfg 115
 wx1:zc7 cfg 161
theorem MO(J:zdp cfg){base:Nat}(j:tV base I){cap:qm}{q:Ex->Int->Bool}(hq:xd cfg base I g cap q)(x:Fu)(H:Hp)(hz:x.sz<2^60)(Z:base<=H.next)(hi:I H):
 aU prog cfg 115 [.agg x.cells,.bl g cap] H fun v H'=>v=.bool (nZ q x)/\FrB base H H'/\I H':=by
 have hw:=J.wx;have hsz:x.sz=1+x.name.length+db x.params+db x.ah+a6 x.body+x.value.sz:=rfl;refine a5 (M:=15) (rs:=[.tmp 4]) (hw.call _) hw.ao hw.am func115 rfl rfl MN.2 rfl ?_;dsimp only[MN,a3,Nat.reduceAdd];repeat' (first
  |(apply ai ?_;clear hK K)|apply Rx.o ?_|(apply aX (fun C Y=>?_) (fun C Y=>?_)<;>try(cases C;done))|apply ae ?_|(apply ah fun K hK=>?_)|apply am ?_)
 generalize U:(H.alloc (.cells x.cells 0 true)).alloc (.cells [.bl g cap] 0 true)=H1;have z:FrB base H H1:=by rw[<-U];exact((iu _ _).alloc _).alloc _
 have hl1:ii base H H1:=by rw[<-U];exact((oZ _ _).alloc Z _).alloc bY _
 have hn1:H1.next=H.next+2:=by rw[<-U];rfl
 have hga:H1.get H.next=some (.cells x.cells 0 true):=by rw[<-U,aP,ad (by simp[br]),aP,au rfl]
 have hgb:H1.get (H.next+1)=some (.cells [.bl g cap] 0 true):=by rw[<-U,aP,au (by simp[br])]
 refine qa ?_;refine a4 ?_ (xe J.we j hq (x.value.sz+1) x.value aa 0 H1 aa aa (j _ _ hi hl1));rintro v S ⟨rfl,o,O⟩;have hn2:=o.next
 have hga2:S.get H.next=some (.cells x.cells 0 true):=by rw[o.get _ Z aa];exact hga
 have m:S.get (H.next+1)=some (.cells [.bl g cap] 0 true):=by rw[o.get _ aa aa];exact hgb
 dsimp only[a0];repeat' (first
  |(apply ai ?_;clear hK K)|apply Rx.o ?_|(apply aX (fun C Y=>?_) (fun C Y=>?_)<;>try(cases C;done))|apply ae ?_|(apply ah fun K hK=>?_)|apply am ?_)
 .refine qa ?_;refine a4 ?_ (xf J.ws (base:=H.next+2) (I:=fun(_:Unit) H'=>I H'/\H'.get (H.next+1)=some (.cells [.bl g cap] 0 true)/\∀r,base<=r->r<H.next+2->H'.get r=S.get r) ?_ (YS J.wx1 J.we aa j hq aa aa S) (a6 x.body+1) x.body aa 0 () S aa aa ⟨O,m,fun _ _ _=>rfl⟩)
  .rintro v H3 ⟨rfl,F,hi3,hg3,A⟩;have hF3:FrB base S H3:=⟨F.next,fun r h1 h2=>by
    by_cases hr:r<H.next+2
    .exact A r h1 hr
    .exact F.get r aa h2⟩
   dsimp only[a0];repeat' (first
    |(apply ai ?_;clear hK K)|apply Rx.o ?_|(apply aX (fun C Y=>?_) (fun C Y=>?_)<;>try(cases C;done))|apply ae ?_|(apply ah fun K hK=>?_)|apply am ?_)
   all_goals refine qq ?_
   exact⟨by simp_all[nZ],(z.trans o).trans hF3,hi3⟩
  .intro _ Ha Hb ⟨h1,h2,h3⟩ V;exact⟨j _ _ h1 (V.cw aa),by rw[V _ aa];exact h2,fun r q1 q2=>by rw[V _ q2];exact h3 r q1 q2⟩
 .all_goals refine qq ?_
  exact⟨by simp_all[nZ],z.trans o,O⟩
end
section
def tyP4f.tyF:=ac @cI (ac @cY (ac @dW (ac @EK (ac @EL (ac @dF (ac @dX (ac @dy (ac @rZ (ac @dR (ac @eD (@pS)))))))))))
open tyP4f
noncomputable def MP:{c:SC // aG 26 (f124.body.getD .skip)=c}:=by
 refine⟨?_,?_⟩;rotate_left
 .simp only[f124,bE,aG,bz,bq,bF,bB,Nat.blt,Nat.ble];rfl
noncomputable def MQ:{c:SC // aG 27 (f125.body.getD .skip)=c}:=by
 refine⟨?_,?_⟩;rotate_left
 .simp only[f125,bE,aG,bz,bq,bF,bB,Nat.blt,Nat.ble];rfl
noncomputable def MR:{c:SC // aG 49 (f126.body.getD .skip)=c}:=by
 refine⟨?_,?_⟩;rotate_left
 .simp only[f126,bE,aG,bz,bq,bF,bB,Nat.blt,Nat.ble];rfl
def YT(l:qo)(a s:qr):bC (tP l a) s=(bC l s||bC [a] s):=by
 unfold tP;split
 .rename_i h;rw[rh];by_cases e:s=a
  .rw[e,h];rfl
  .rw[wJ e,nW]
 .rw[oy]
def MT(hw:zc7 cfg 124){r imm:Nat}{x:List qo}(hg:H.get r=some (.cells (x.map cD) imm true))(hr:r<H.next)(hx:Ct x):
 aU prog cfg 124 [.sl r 0 x.length 1] H fun v H'=>v=.map H.next/\(∃l,H'.get H.next=some (.map (gC l))/\∀s,bC l s=bC x.flatten s)/\(∀k,k<H.next->H'.get k=H.get k)/\H.next<H'.next:=by
 obtain⟨hx1,hx2⟩:=hx;have hnm:=IT;refine a5 (M:=26) (rs:=[.tmp 2]) (hw.call _) hw.ao hw.am func124 rfl rfl MP.2 rfl ?_;dsimp only[MP,a3,Nat.reduceAdd];repeat' (first
  |(apply ai ?_;clear hK K)|apply Rx.o ?_|apply aN ?_|(apply aE (fun Z V=>?_) (fun Z V=>?_)<;>try(cases Z;done))|apply ae ?_|(apply ah fun K hK=>?_)|apply aj ?_|apply ak ?_|apply am ?_|apply ax ?_)
 refine dG [2,3,9,10] [] 11 x.length (fun i E m=>(∃l,m.get H.next=some (.map (gC l))/\∀s,bC l s=bC (x.take i).flatten s)/\∀k,k<H.next->m.get k=H.get k) eE ⟨⟨[],wV,fun s=>rfl⟩,fun k hk=>fX⟩ ?_;rintro i E m hi U S O hsI ⟨⟨l,J,I⟩,Y⟩;(try simp only[bL,bK,bb,aK,aW,Nat.reduceBEq,Nat.reduceAdd,Nat.reduceLeDiff,tyF, *]at U);(try simp only[bL,bK,bb,aK,aW,Nat.reduceBEq,Nat.reduceAdd,Nat.reduceLeDiff,tyF, *]at S);(try simp only[br,bG,cR,bR,Nat.reduceAdd]at O);repeat' (first
  |(apply ai ?_;clear hK K)|apply Rx.o ?_|apply aN ?_|(apply aE (fun Z V=>?_) (fun Z V=>?_)<;>try(cases Z;done))|apply ae ?_|(apply ah fun K hK=>?_)|apply aj ?_|apply ak ?_|apply am ?_|apply ax ?_)
 .have F:i<x.length:=by simpa using Z
  have hgx:x[i]?=some x[i]:=bt F;have hsm:=hx2 _ (ek F);have hg2:m.get r=some (.cells (x.map cD) imm true):=by rw[Y r hr];exact hg
  have htk:(x.take (i+1)).flatten=(x.take i).flatten++x[i]:=by rw[pJ,hgx,List.flatten_append];simp
  generalize x[i]=z at *;repeat' (first
   |(apply ai ?_;clear hK K)|apply Ry.o ?_|apply ae ?_|(apply ah fun K hK=>?_)|apply aj ?_|apply ak ?_|apply am ?_|apply ax ?_)
  refine dG [2,3,9,10,11,15,16] [] 17 z.length (fun j E H3=>(∃l,H3.get H.next=some (.map (gC l))/\∀s,bC l s=bC ((x.take i).flatten++z.take j) s)/\∀k,k<H.next->H3.get k=H.get k) eE ⟨⟨l,J,fun s=>by rw[I,MG,iS]⟩,Y⟩ ?_;clear J I l Y hg2;rintro j E3 H3 hj U S O hsI ⟨⟨l,J,I⟩,Y⟩;(try simp only[bL,bK,bb,aK,aW,Nat.reduceBEq,Nat.reduceAdd,Nat.reduceLeDiff,tyF, *]at U);(try simp only[bL,bK,bb,aK,aW,Nat.reduceBEq,Nat.reduceAdd,Nat.reduceLeDiff,tyF, *]at S);(try simp only[br,bG,cR,bR,Nat.reduceAdd]at O);repeat' (first
   |(apply ai ?_;clear hK K)|apply Rx.o ?_|apply aN ?_|(apply aE (fun Z V=>?_) (fun Z V=>?_)<;>try(cases Z;done))|apply ae ?_|(apply ah fun K hK=>?_)|apply aj ?_|apply ak ?_|apply am ?_|apply ax ?_)
  .have C:j<z.length:=by simpa using Z
   have A:z[j]?=some z[j]:=bt C;have hup:=Ms J z[j];have o:z.take (j+1)=z.take j++[z[j]]:=by rw[pJ,A];rfl
   repeat' (first
    |(apply ai ?_;clear hK K)|apply Rx.o ?_|apply aN ?_|(apply aE (fun Z V=>?_) (fun Z V=>?_)<;>try(cases Z;done))|apply ae ?_|(apply ah fun K hK=>?_)|apply aj ?_|apply ak ?_|apply am ?_|apply ax ?_)
   refine⟨aa,bM,bM,dr,LV,?_⟩;refine⟨⟨tP l z[j],by rw[aO,au gB],fun s=>?_⟩,fun k hk=>by rw[aO,ad aa];exact Y k hk⟩;rw[YT,I,o,<-kP,oy ((x.take i).flatten++z.take j)]
  .have hje:j=z.length:=by simp at Z;omega
   repeat' (first
    |(apply ai ?_;clear hK K)|apply Rx.o ?_|apply aN ?_|(apply aE (fun Z V=>?_) (fun Z V=>?_)<;>try(cases Z;done))|apply ae ?_|(apply ah fun K hK=>?_)|apply aj ?_|apply ak ?_|apply am ?_|apply ax ?_)
   refine⟨aa,bM,bM,dr,tw,?_⟩;exact⟨⟨l,J,fun s=>by rw[I,htk,hje,yf]⟩,Y⟩
 .repeat' (first
   |(apply ai ?_;clear hK K)|apply Rx.o ?_|apply aN ?_|(apply aE (fun Z V=>?_) (fun Z V=>?_)<;>try(cases Z;done))|apply ae ?_|(apply ah fun K hK=>?_)|apply aj ?_|apply ak ?_|apply am ?_|apply ax ?_)
  all_goals refine qq ?_
  have hie:i=x.length:=by simp at Z;omega
  refine⟨trivial,⟨l,J,fun s=>by rw[I,hie,yf]⟩,Y,aa⟩
structure Rs where
 eg:Nat
 mv:Nat
 r5:Nat
 ma:Nat
 r6:Nat
 mf:Nat
 r9:Nat
structure zdo (X:Rs) (vs an:qo) (fm:List (aS×Int)) (H:Hp):Prop where
 b12:H.get X.eg=some (.cells [.map X.mv] 0 true)
 bv:∃l,H.get X.mv=some (.map (gC l))/\∀s,bC l s=bC vs s
 b5:H.get X.r5=some (.cells [.map X.ma] 0 true)
 ba:∃l,H.get X.ma=some (.map (gC l))/\∀s,bC l s=bC an s
 b6:H.get X.r6=some (.cells [.map X.mf] 0 true)
 bf:H.get X.mf=some (.map (dL fm))
structure RsLt (X:Rs) (n:Nat):Prop where
 f4:X.eg<n
 lv:X.mv<n
 l5:X.r5<n
 la:X.ma<n
 l6:X.r6<n
 lf:X.mf<n
structure RsNe (X:Rs):Prop where
 f4:X.eg≠X.r9
 lv:X.mv≠X.r9
 l5:X.r5≠X.r9
 la:X.ma≠X.r9
 l6:X.r6≠X.r9
 lf:X.mf≠X.r9
def zdo.aj{X:Rs}{S:qo}(h:zdo X vs S V H)(o:H'.get X.eg=H.get X.eg)(U:H'.get X.mv=H.get X.mv)(J:H'.get X.r5=H.get X.r5)(Z:H'.get X.ma=H.get X.ma)(C:H'.get X.r6=H.get X.r6)(m:H'.get X.mf=H.get X.mf):zdo X vs S V H' where
 b12:=by rw[o];exact h.b12
 bv:=by rw[U];exact h.bv
 b5:=by rw[J];exact h.b5
 ba:=by rw[Z];exact h.ba
 b6:=by rw[C];exact h.b6
 bf:=by rw[m];exact h.bf
def zdo.dn{X:Rs}{S:qo}{n:Nat}(h:zdo X vs S V H)(K:RsLt X n)(k:ii n H H'):zdo X vs S V H':=
 h.aj (k _ K.f4) (k _ K.lv) (k _ K.l5) (k _ K.la) (k _ K.l6) (k _ K.lf)
def YU(U:zc7 cfg 125){X:Rs}{F:qo}{fm:List (aS×Int)}{base:Nat}(V:RsLt X base)(hI:tV base I)(hR:∀H,I H->zdo X vs F fm H):
 xd cfg base I 125 [.ptr X.eg 0,.ptr X.r5 0] fun x _=>iA vs F x:=by
 intro x d H hz Z z;obtain⟨o,⟨lv,A,J⟩,m,⟨la,S,Y⟩,h6,hf⟩:=hR H z;have l12:=V.f4;have llv:=V.lv;have l5:=V.l5;have lla:=V.la;have g12:(H.alloc (.cells x.cells 0 true)).get X.eg=some (.cells [.map X.mv] 0 true):=by rw[aP,ad aa];exact o
 have g5:(H.alloc (.cells x.cells 0 true)).get X.r5=some (.cells [.map X.ma] 0 true):=by rw[aP,ad aa];exact m
 have j:(H.alloc (.cells x.cells 0 true)).get X.mv=some (.map (gC lv)):=by rw[aP,ad aa];exact A
 have ga:(H.alloc (.cells x.cells 0 true)).get X.ma=some (.map (gC la)):=by rw[aP,ad aa];exact S
 have kv:=wZ j x.name;have ka:=wZ ga x.name;rw[J]at kv;rw[Y]at ka;clear o m A S j ga J Y hf h6;have e12:(X.eg == H.next)=false:=ay aa;have e5:(X.r5 == H.next)=false:=ay aa;simp only[iS,Bq];refine a5 (M:=27) (rs:=[.tmp 6]) (U.call _) U.ao U.am func125 rfl rfl MQ.2 rfl ?_;dsimp only[MQ,a3,Nat.reduceAdd];repeat' (first
  |(apply ai ?_;clear hK K)|apply Rx.o ?_|apply cW ?_|(apply aX (fun C O=>?_) (fun C O=>?_)<;>try(cases C;done))|apply ae ?_|(apply ah fun K hK=>?_)|apply am ?_)
 all_goals
  all_goals refine qq ?_
  refine⟨?_,(iu _ _).alloc _,hI _ _ z ((oZ _ _).alloc Z _)⟩;rw[iA];(try simp only[cq]at *);simp only[ *,cr,bw,bH,Int.reduceEq]
def MU:lz prog 9=some .string:=aA
def pq(w:Bool):Int:=if w=true then 5 else 0
abbrev qh:HB:=.cells [.int .i64 5] 0 true
theorem YV(hw:zc7 cfg 126){X:Rs}{an:qo}{F:List (aS×Int)}{base:Nat}(Y:RsLt X base)(h9:X.r9<base)(Z:RsNe X):
 zn cfg base (fun(w:Bool) H=>zdo X vs an F H/\H.get X.r9=some (.cells [.int .i64 (pq w)] 0 true)) 126 [.ptr X.eg 0,.ptr X.r5 0,.ptr X.r6 0,.ptr X.r9 0] (mo F vs an):=by
 intro x d w H hz J hi;obtain⟨C,A⟩:=hi;have V:=C;obtain⟨z,⟨lv,m,j⟩,h5,⟨la,ha1,ha2⟩,h6,hf⟩:=C;have l12:=Y.f4;have llv:=Y.lv;have l5:=Y.l5;have lla:=Y.la;have l6:=Y.l6;have llf:=Y.lf;have o:ii base H (H.alloc (.cells x.cells 0 true)):=(oZ _ _).alloc J _;have g12:(H.alloc (.cells x.cells 0 true)).get X.eg=some (.cells [.map X.mv] 0 true):=by rw[o _ l12];exact z
 have g5:(H.alloc (.cells x.cells 0 true)).get X.r5=some (.cells [.map X.ma] 0 true):=by rw[o _ l5];exact h5
 have g6:(H.alloc (.cells x.cells 0 true)).get X.r6=some (.cells [.map X.mf] 0 true):=by rw[o _ l6];exact h6
 have g9:(H.alloc (.cells x.cells 0 true)).get X.r9=some (.cells [.int .i64 (pq w)] 0 true):=by rw[o _ h9];exact A
 have gv:(H.alloc (.cells x.cells 0 true)).get X.mv=some (.map (gC lv)):=by rw[o _ llv];exact m
 have ga:(H.alloc (.cells x.cells 0 true)).get X.ma=some (.map (gC la)):=by rw[o _ lla];exact ha1
 have gf:(H.alloc (.cells x.cells 0 true)).get X.mf=some (.map (dL F)):=by rw[o _ llf];exact hf
 have gb:(H.alloc (.cells x.cells 0 true)).get H.next=some (.cells x.cells 0 true):=po
 have kv:=wZ gv x.name;have ka:=wZ ga x.name;have kf:=Kg (P:=prog) (t:=98) underlying98 MU aA gf x.to;rw[j]at kv;rw[ha2]at ka;have hlen:=lH x.args;have hsz:=x.aJ;have O:zdo X vs an F (H.alloc (.cells x.cells 0 true)):=V.dn Y o;have hx0:∀a b,Ab.extract (.aW [a,b]) 0=some a:=fun _ _=>rfl;have hx1:∀a b,Ab.extract (.aW [a,b]) 1=some b:=fun _ _=>rfl;have I:FrB base H (H.alloc (.cells x.cells 0 true)):=(iu _ _).alloc _;have S:FrB base H ((H.alloc (.cells x.cells 0 true)).set X.r9 qh):=I.set (.inr h9) _;have U:zdo X vs an F ((H.alloc (.cells x.cells 0 true)).set X.r9 qh):=O.aj (by rw[aO,ad Z.f4]) (by rw[aO,ad Z.lv]) (by rw[aO,ad Z.l5]) (by rw[aO,ad Z.la]) (by rw[aO,ad Z.l6]) (by rw[aO,ad Z.lf]);have hw2:((H.alloc (.cells x.cells 0 true)).set X.r9 qh).get X.r9=some (.cells [.int .i64 (pq true)] 0 true):=zj;have s12:((H.alloc (.cells x.cells 0 true)).set X.r9 qh).get X.eg=some (.cells [.map X.mv] 0 true):=U.b12;have sb:((H.alloc (.cells x.cells 0 true)).set X.r9 qh).get H.next=some (.cells x.cells 0 true):=by rw[aO,ad aa];exact gb
 have sv:gT prog ((H.alloc (.cells x.cells 0 true)).set X.r9 qh) 200 (.map X.mv) (.ae x.name) false=some (.bool (bC vs x.name)):=by
  obtain⟨l,q1,q2⟩:=U.bv;rw[wZ q1,q2]
 clear z m j h5 ha1 ha2 h6 hf gv ga gf V A o;have e12:(X.eg == H.next)=false:=ay aa;have e5:(X.r5 == H.next)=false:=ay aa;have e6:(X.r6 == H.next)=false:=ay aa;have e9:(X.r9 == H.next)=false:=ay aa;have d12:(X.eg == X.r9)=false:=ay Z.f4;have dn:(H.next == X.r9)=false:=ay aa;simp only[iS,Bq];refine a5 (M:=49) (rs:=[.tmp 8]) (hw.call _) hw.ao hw.am func126 rfl rfl MR.2 rfl ?_;dsimp only[MR,a3,Nat.reduceAdd];repeat' (first
  |(apply ai ?_;clear hK K)|apply Rx.o ?_|apply aN ?_|(apply aX (fun hg hgp=>?_) (fun hg hgp=>?_)<;>try(cases hg;done))|(apply aE (fun hb hbp=>?_) (fun hb hbp=>?_)<;>try(cases hb;done))|apply ae ?_|(apply ah fun K hK=>?_)|apply aj ?_|apply ak ?_|apply am ?_)
 all_goals
  all_goals refine qq ?_
  first
  |refine⟨?_,I,O,?_⟩
  |refine⟨?_,S,U,?_⟩
  all_goals
   (try rw[g9]);(try rw[hw2]);clear g12 g5 g6 g9 kv ka kf hx0 hx1 gb s12 sb sv O U I S hw2 e12 e5 e6 e9 d12 dn Y Z hlen hsz;simp_all[mo,pq]
end
section
def tyP4g.tyF:=ac @cI (ac @cY (ac @fg (ac @fh (ac @eL (ac @rZ (ac @dW (ac @dR (ac @dy (ac @ge (ac @eD (ac @pS (ac @EK (ac @EL (ac @F6 (@Yx)))))))))))))))
open tyP4g
noncomputable def MV:{c:SC // aG 67 (f73.body.getD .skip)=c}:=by
 refine⟨?_,?_⟩;rotate_left
 .simp only[f73,bE,aG,bz,bq,bF,bB,Nat.blt,Nat.ble];rfl
noncomputable def Cz:qu:=[F3]
def YW(ρ:Nat->Int):eU prog ρ Cz:=⟨Mv ρ,trivial⟩
set_option maxRecDepth 100000 in
theorem YX(ρ:Nat->Int)(p:Pr)(hz:p.sz<2^36):bJ prog ρ 73 (fB p) (.int .i64 (vo p)):=eG fit (pls:=pls) (YW ρ) (.cons (.agg p.pure) .nil) (.int _ _) (by
 have hw:zc7 (aF pls Cz) 73:=dZ (fun _=>rfl) rfl;have kd:∀H,aU prog (aF pls Cz) 122 [.agg p.cells] H fun v H'=>v=.aW [cD (a7 p),cD (fG p)]/\H'=H:=fun H=>cp (enc:=fB) (out:=fun p=>.aW [cD (a7 p),cD (fG p)]) pi (x:=p) rfl hz;have hps:zdp (aF pls Cz):=⟨dZ (fun _=>rfl) rfl,dZ (fun _=>rfl) rfl,dZ (fun _=>rfl) rfl,dZ (fun _=>rfl) rfl⟩;have hpz:p.sz=1+ez p.af+dY p.funcs:=rfl;have hla:=lJ p.af;have hlf:=lI p.funcs;have hal:(a7 p).length=p.af.length:=tE;have hfl:(fG p).length=p.funcs.length:=by simp[fG]
 have hx0:∀a b,Ab.extract (.aW [a,b]) 0=some a:=fun _ _=>rfl;have hx1:∀a b,Ab.extract (.aW [a,b]) 1=some b:=fun _ _=>rfl;have hnm:=IT;rw[fB];refine a5 (M:=67) (rs:=[.tmp 2]) (hw.call _) hw.ao hw.am func73 rfl rfl MV.2 rfl ?_;dsimp only[MV,a3,Nat.reduceAdd];repeat' (first
  |(apply ai ?_;clear hK K)|apply Rx.o ?_|apply aN ?_|(apply dJ ?_;first|refine aY (kd _) ?_)|(apply aX (fun C Y=>?_) (fun C Y=>?_)<;>try(cases C;done))|(apply aE (fun z V=>?_) (fun z V=>?_)<;>try(cases z;done))|apply ae ?_|(apply ah fun K hK=>?_)|(apply dj 6 fun K hK=>?_)|apply aj ?_|apply ak ?_|apply am ?_|apply ax ?_)
 refine qa ?_;refine a4 ?_ (MT (x:=[a7 p]) (imm:=0) (dZ (fun _=>rfl) rfl) wV (dq _) ⟨aI,ce⟩);rintro v Z ⟨rfl,⟨la,hma,hla2⟩,hold,hlt2⟩;simp only[br,cR]at hma hold hlt2;rw[show([a7 p]:List qo).flatten=a7 p by simp]at hla2;have g20:Z.get 0=some (.cells p.cells 0 true):=by rw[hold 0 aa,aP,ad aI,aP,au gB]
 clear hold;dsimp only[a0];repeat' (first
  |(apply ai ?_;clear hK K)|apply Rx.o ?_|apply aN ?_|(apply aX (fun C Y=>?_) (fun C Y=>?_)<;>try(cases C;done))|(apply aE (fun z V=>?_) (fun z V=>?_)<;>try(cases z;done))|apply ae ?_|(apply ah fun K hK=>?_)|(apply dj 6 fun K hK=>?_)|apply aj ?_|apply ak ?_|apply am ?_|apply ax ?_)
 generalize O:Hp.set (Hp.set _ _ _) _ _=Hs;have ns:Z.next+3<=Hs.next:=by rw[<-O];exact aT _
 have gs0:Hs.get 0=some (.cells p.cells 0 true):=by rw[<-O,aO,ad aa,aO,ad aa,aP,ad bY,aP,ad bY,aP,ad aa];exact g20
 have gsa:Hs.get 2=some (.map (gC la)):=by rw[<-O,aO,ad aa,aO,ad aa,aP,ad bY,aP,ad bY,aP,ad aa];exact hma
 have gs5:Hs.get (Z.next+1)=some (.cells [.map 2] 0 true):=by rw[<-O,aO,ad aa,aO,au gB]
 have gs6:Hs.get (Z.next+2)=some (.cells [.map Z.next] 0 true):=by rw[<-O,aO,au gB]
 have gsf:Hs.get Z.next=some (.map (dL [])):=by rw[<-O,aO,ad aa,aO,ad aa,aP,ad bY,aP,ad bY,aP,au gB];rfl
 clear O hma;have hlt2':3<=Z.next:=aa
 clear hlt2;have hE0:(0 == Z.next)=false:=ay aa;have hE2:(2 == Z.next)=false:=ay aa;refine dG [1,2,5,6,23,24] [0,2,Z.next+1,Z.next+2] 25 p.funcs.length (fun i E H=>∃m,fL (p.funcs.drop i) m=fL p.funcs []/\H.get Z.next=some (.map (dL m))) eE ⟨[],aI,gsf⟩ ?_;rintro i E J hi hcE hrH hnH hsI ⟨m,hJ,hm⟩;(try simp only[bL,bK,bb,aK,aW,Nat.reduceBEq,Nat.reduceAdd,Nat.reduceLeDiff,tyF,gs0,gsa,gs5,gs6, *]at hcE);(try simp only[bL,bK,bb,aK,aW,Nat.reduceBEq,Nat.reduceAdd,Nat.reduceLeDiff,tyF,gs0,gsa,gs5,gs6, *]at hrH);(try simp only[br,bG,cR,bR,Nat.reduceAdd]at hnH);have hB0:(0 == J.next)=false:=ay aa;have hC0:(J.next == 0)=false:=ay aa;have hB1:(2 == J.next)=false:=ay aa;have hC1:(J.next == 2)=false:=ay aa;have hB2:(Z.next+1 == J.next)=false:=ay aa;have hC2:(J.next == Z.next+1)=false:=ay aa;have hB3:(Z.next+2 == J.next)=false:=ay aa;have hC3:(J.next == Z.next+2)=false:=ay aa;obtain⟨h30,h3a,h35,h36⟩:=hrH;repeat' (first
  |(apply ai ?_;clear hK K)|apply Rx.o ?_|apply aN ?_|(apply aX (fun C Y=>?_) (fun C Y=>?_)<;>try(cases C;done))|(apply aE (fun z V=>?_) (fun z V=>?_)<;>try(cases z;done))|apply ae ?_|(apply ah fun K hK=>?_)|(apply dj 6 fun K hK=>?_)|apply aj ?_|apply ak ?_|apply am ?_|apply ax ?_)
 .have hlt:i<p.funcs.length:=by simpa using z
  have hgx:p.funcs[i]?=some p.funcs[i]:=bt hlt;have hgn:(fG p)[i]?=some p.funcs[i].name:=by rw[fG,ev,hgx];rfl
  have hu:=yS (P:=prog) (t:=98) underlying98 MU hm p.funcs[i].name p.funcs[i].params.length;rw[fR hlt,fL]at hJ;repeat' (first
   |(apply ai ?_;clear hK K)|apply Rx.o ?_|apply aN ?_|(apply aX (fun C Y=>?_) (fun C Y=>?_)<;>try(cases C;done))|(apply aE (fun z V=>?_) (fun z V=>?_)<;>try(cases z;done))|apply ae ?_|(apply ah fun K hK=>?_)|(apply dj 6 fun K hK=>?_)|apply aj ?_|apply ak ?_|apply am ?_|apply ax ?_)
  refine⟨aa,bM,bM,dr,o0,?_⟩;exact⟨_,hJ,iG⟩
 .have hie:i=p.funcs.length:=by simp at z;omega
  rw[hie,gy,fL]at hJ;subst hJ;clear hie hsI hi z V;repeat' (first
   |(apply ai ?_;clear hK K)|apply Rx.o ?_|apply aN ?_|(apply aX (fun C Y=>?_) (fun C Y=>?_)<;>try(cases C;done))|(apply aE (fun z V=>?_) (fun z V=>?_)<;>try(cases z;done))|apply ae ?_|(apply ah fun K hK=>?_)|(apply dj 6 fun K hK=>?_)|apply aj ?_|apply ak ?_|apply am ?_|apply ax ?_)
  generalize hHq:Hp.set (Hp.alloc J _) _ _=Hq;have nq:J.next+1<=Hq.next:=by rw[<-hHq];exact aT _
  have S:∀k,k<J.next->Hq.get k=J.get k:=fun k hk=>by rw[<-hHq,aO,ad aa,aP,ad aa]
  have q9:Hq.get J.next=some (.cells [.int .i64 (pq false)] 0 true):=by rw[<-hHq,aO,au rfl];rfl
  clear hHq;refine dG [5,6,9,41,42] [] 43 p.funcs.length (fun i E H=>∃w,H.get J.next=some (.cells [.int .i64 (pq w)] 0 true)/\vo p=sk (fL p.funcs []) (a7 p) (p.funcs.drop i) w/\H.get (Z.next+1)=some (.cells [.map 2] 0 true)/\(∃l,H.get 2=some (.map (gC l))/\∀s,bC l s=bC (a7 p) s)/\H.get (Z.next+2)=some (.cells [.map Z.next] 0 true)/\H.get Z.next=some (.map (dL (fL p.funcs [])))) eE ⟨false,q9,rfl,by rw[S _ aa];exact h35,⟨la,by rw[S _ aa];exact h3a,hla2⟩,by rw[S _ aa];exact h36,by rw[S _ aa];exact hm⟩ ?_;clear hm hla2 la h30 h3a h35 h36 gs0 gsa gs5 gs6 gsf q9 S;rintro i E H4 hi hcE hrH hnH hsI ⟨w,g9,hJ,g5,⟨la,ga,hla⟩,g6,gf⟩;(try simp only[bL,bK,bb,aK,aW,Nat.reduceBEq,Nat.reduceAdd,Nat.reduceLeDiff,tyF, *]at hcE);(try simp only[bL,bK,bb,aK,aW,Nat.reduceBEq,Nat.reduceAdd,Nat.reduceLeDiff,tyF, *]at hrH);(try simp only[br,bG,cR,bR,Nat.reduceAdd]at hnH);repeat' (first
   |(apply ai ?_;clear hK K)|apply Rx.o ?_|apply aN ?_|(apply aX (fun C Y=>?_) (fun C Y=>?_)<;>try(cases C;done))|(apply aE (fun z V=>?_) (fun z V=>?_)<;>try(cases z;done))|apply ae ?_|(apply ah fun K hK=>?_)|(apply dj 6 fun K hK=>?_)|apply aj ?_|apply ak ?_|apply am ?_|apply ax ?_)
  .have hlt:i<p.funcs.length:=by simpa using z
   have hgx:p.funcs[i]?=some p.funcs[i]:=bt hlt;have hsm:=nX (ek hlt);have hsz:p.funcs[i].sz=1+p.funcs[i].name.length+db p.funcs[i].params+db p.funcs[i].ah+a6 p.funcs[i].body+p.funcs[i].value.sz:=rfl;have hpl:=ig p.funcs[i].params;have hll:=ig p.funcs[i].ah;have hdr:sk (fL p.funcs []) (a7 p) (p.funcs.drop i) w=if nZ (fun x _=>iA (p.funcs[i].params++p.funcs[i].ah) (a7 p) x) p.funcs[i]=true/\(eO (mo (fL p.funcs []) (p.funcs[i].params++p.funcs[i].ah) (a7 p)) p.funcs[i].body 0 w).1=true then sk (fL p.funcs []) (a7 p) (p.funcs.drop (i+1)) (eO (mo (fL p.funcs []) (p.funcs[i].params++p.funcs[i].ah) (a7 p)) p.funcs[i].body 0 w).2 else 3:=by rw[fR hlt];rfl
   rw[hdr]at hJ;clear hdr;have hfz:p.funcs[i].sz<2^60:=aa;generalize p.funcs[i]=g at *;repeat' (first
    |(apply ai ?_;clear hK K)|apply Rx.o ?_|apply aN ?_|(apply aX (fun C Y=>?_) (fun C Y=>?_)<;>try(cases C;done))|(apply aE (fun z V=>?_) (fun z V=>?_)<;>try(cases z;done))|apply ae ?_|(apply ah fun K hK=>?_)|(apply dj 6 fun K hK=>?_)|apply aj ?_|apply ak ?_|apply am ?_|apply ax ?_)
   generalize hHb:Hp.alloc (Hp.set _ _ _) _=Hb;have nb:Hb.next=H4.next+2:=by rw[<-hHb];rfl
   have oldb:∀k,k<H4.next->Hb.get k=H4.get k:=fun k hk=>by rw[<-hHb,aP,ad gA,aO,ad aa,aP,ad aa]
   have gbr:Hb.get (H4.next+1)=some (.cells [cD g.params,cD g.ah] 0 true):=by rw[<-hHb,aP,au gB]
   have gb11:Hb.get H4.next=some (.cells g.cells 0 true):=by rw[<-hHb,aP,ad gA,aO,au rfl]
   clear hHb;refine qa ?_;refine a4 ?_ (MT (x:=[g.params,g.ah]) (imm:=0) (dZ (fun _=>rfl) rfl) gbr aa ⟨aI,ce⟩);rintro v U ⟨rfl,⟨lv,hmv,hlv⟩,old5,n5⟩;rw[show([g.params,g.ah]:List qo).flatten=g.params++g.ah by simp]at hlv;have o5:∀k,k<H4.next->U.get k=H4.get k:=fun k hk=>by rw[old5 k aa,oldb k hk]
   have g511:U.get H4.next=some (.cells g.cells 0 true):=by rw[old5 _ aa];exact gb11
   have g59:U.get J.next=some (.cells [.int .i64 (pq w)] 0 true):=by rw[o5 _ aa];exact g9
   have g55:U.get (Z.next+1)=some (.cells [.map 2] 0 true):=by rw[o5 _ aa];exact g5
   have g5a:U.get 2=some (.map (gC la)):=by rw[o5 _ aa];exact ga
   have g56:U.get (Z.next+2)=some (.cells [.map Z.next] 0 true):=by rw[o5 _ aa];exact g6
   have g5f:U.get Z.next=some (.map (dL (fL p.funcs []))):=by rw[o5 _ aa];exact gf
   clear o5 old5 gbr gb11 oldb g9 g5 ga g6 gf;have e1:(H4.next == U.next)=false:=ay aa;dsimp only[a0];repeat' (first
    |(apply ai ?_;clear hK K)|apply Rx.o ?_|apply aN ?_|(apply aX (fun C Y=>?_) (fun C Y=>?_)<;>try(cases C;done))|(apply aE (fun z V=>?_) (fun z V=>?_)<;>try(cases z;done))|apply ae ?_|(apply ah fun K hK=>?_)|(apply dj 6 fun K hK=>?_)|apply aj ?_|apply ak ?_|apply am ?_|apply ax ?_)
   generalize hHd:Hp.set (Hp.alloc U _) _ _=F;have nd:F.next=U.next+1:=by rw[<-hHd];rfl
   have A:∀k,k<U.next->F.get k=U.get k:=fun k hk=>by rw[<-hHd,aO,ad aa,aP,ad aa]
   have d12:F.get U.next=some (.cells [.map Hb.next] 0 true):=by rw[<-hHd,aO,au rfl,nb]
   clear hHd;have hok:zdo ⟨U.next,Hb.next,Z.next+1,2,Z.next+2,Z.next,J.next⟩ (g.params++g.ah) (a7 p) (fL p.funcs []) F:={
    b12:=d12
    bv:=⟨lv,by show F.get Hb.next=_;rw[A _ n5];exact hmv,hlv⟩
    b5:=by show F.get (Z.next+1)=_;rw[A _ aa];exact g55
    ba:=⟨la,by show F.get 2=_;rw[A _ aa];exact g5a,hla⟩
    b6:=by show F.get (Z.next+2)=_;rw[A _ aa];exact g56
    bf:=by show F.get Z.next=_;rw[A _ aa];exact g5f}
   have hd9:F.get J.next=some (.cells [.int .i64 (pq w)] 0 true):=by rw[A _ aa];exact g59
   have hd11:F.get H4.next=some (.cells g.cells 0 true):=by rw[A _ aa];exact g511
   have hlX:∀n,F.next<=n->RsLt ⟨U.next,Hb.next,Z.next+1,2,Z.next+2,Z.next,J.next⟩ n:=fun n hn=>⟨by show U.next<n;omega,by show Hb.next<n;omega,by show Z.next+1<n;omega,by show 2<n;omega,by show Z.next+2<n;omega,by show Z.next<n;omega⟩
   have hnX:RsNe ⟨U.next,Hb.next,Z.next+1,2,Z.next+2,Z.next,J.next⟩:=⟨by show U.next≠J.next;omega,by show Hb.next≠J.next;omega,by show Z.next+1≠J.next;omega,by show 2≠J.next;omega,by show Z.next+2≠J.next;omega,by show Z.next≠J.next;omega⟩;clear g59 g55 g5a g56 g5f d12 A hmv hlv hla g511;refine qa ?_;refine a4 ?_ (MO hps (I:=fun H'=>ii F.next F H') (fun a b h1 h2=>h1.trans h2) (YU (dZ (fun _=>rfl) rfl) (hlX _ (aT _)) (fun a b h1 h2=>h1.trans h2) fun H' h=>hok.dn (hlX _ (aT _)) h) g F hfz (aT _) (oZ _ _));rintro v H6 ⟨rfl,hf6,j⟩;have n6:=hf6.next
   have hok6:=hok.dn (hlX _ (aT _)) j;have h69:H6.get J.next=some (.cells [.int .i64 (pq w)] 0 true):=by rw[j _ aa];exact hd9
   have h611:H6.get H4.next=some (.cells g.cells 0 true):=by rw[j _ aa];exact hd11
   clear j hf6 hok hd9 hd11;dsimp only[a0];cases hwf:nZ (fun x _=>iA (g.params++g.ah) (a7 p) x) g with
   |false=>
    repeat' (first
     |(apply ai ?_;clear hK K)|apply Rx.o ?_|apply aN ?_|(apply aX (fun C Y=>?_) (fun C Y=>?_)<;>try(cases C;done))|(apply aE (fun z V=>?_) (fun z V=>?_)<;>try(cases z;done))|apply ae ?_|(apply ah fun K hK=>?_)|(apply dj 6 fun K hK=>?_)|apply aj ?_|apply ak ?_|apply am ?_|apply ax ?_)
    all_goals refine qq ?_
    rw[hJ,hwf];simp
   |true=>
    rw[hwf]at hJ;repeat' (first
     |(apply ai ?_;clear hK K)|apply Rx.o ?_|apply aN ?_|(apply aX (fun C Y=>?_) (fun C Y=>?_)<;>try(cases C;done))|(apply aE (fun z V=>?_) (fun z V=>?_)<;>try(cases z;done))|apply ae ?_|(apply ah fun K hK=>?_)|(apply dj 6 fun K hK=>?_)|apply aj ?_|apply ak ?_|apply am ?_|apply ax ?_)
    refine qa ?_;refine a4 ?_ (xf (dZ (fun _=>rfl) rfl) (base:=H6.next) (I:=fun(w:Bool) H=>zdo ⟨U.next,Hb.next,Z.next+1,2,Z.next+2,Z.next,J.next⟩ (g.params++g.ah) (a7 p) (fL p.funcs []) H/\H.get J.next=some (.cells [.int .i64 (pq w)] 0 true)) (fun s a b h1 h2=>⟨h1.1.dn (hlX _ n6) h2,by rw[h2 _ aa];exact h1.2⟩) (YV (dZ (fun _=>rfl) rfl) (hlX _ n6) (by show J.next<_;omega) hnX) (a6 g.body+1) g.body aa 0 w H6 aa (aT _) ⟨hok6,h69⟩);rintro v H7 ⟨rfl,hf7,o,h79⟩;have n7:=hf7.next
    dsimp only[a0];repeat' (first
     |(apply ai ?_;clear hK K)|apply Rx.o ?_|apply aN ?_|(apply aX (fun C Y=>?_) (fun C Y=>?_)<;>try(cases C;done))|(apply aE (fun z V=>?_) (fun z V=>?_)<;>try(cases z;done))|apply ae ?_|(apply ah fun K hK=>?_)|(apply dj 6 fun K hK=>?_)|apply aj ?_|apply ak ?_|apply am ?_|apply ax ?_)
    .all_goals refine qq ?_
     rw[hJ];simp_all
    .refine⟨aa,bM,bM,dr,o0,?_⟩;refine⟨_,h79,?_,o.b5,o.ba,o.b6,o.bf⟩;rw[hJ,au ⟨rfl,by simp_all⟩]
  .repeat' (first
    |(apply ai ?_;clear hK K)|apply Rx.o ?_|apply aN ?_|(apply aX (fun C Y=>?_) (fun C Y=>?_)<;>try(cases C;done))|(apply aE (fun z V=>?_) (fun z V=>?_)<;>try(cases z;done))|apply ae ?_|(apply ah fun K hK=>?_)|(apply dj 6 fun K hK=>?_)|apply aj ?_|apply ak ?_|apply am ?_|apply ax ?_)
   all_goals refine qq ?_
   have hie:i=p.funcs.length:=r3;rw[hJ,hie,gy,sk,pq])
end
section
def tyW4e.tyF:=ac @cI (ac @cY (ac @fg (ac @fh (ac @eL (ac @dW (ac @dR (ac @dy (ac @ge (ac @iW (@eD))))))))))
open tyW4e
noncomputable def MW:{c:SC // aG 68 (f70.body.getD .skip)=c}:=by
 refine⟨?_,?_⟩;rotate_left
 .simp only[f70,bE,aG,bz,bq,bF,bB,Nat.blt,Nat.ble];rfl
theorem YY(hp:zdp cfg)(hw:zc7 cfg 70)(h1w:zc7 cfg 114)(h2w:zc7 cfg 116)(p:Pr)(hz:p.sz<2^60):
 aU prog cfg 70 [.agg p.cells] bV fun v _=>v=.bool (kA p):=by
 have hpz:p.sz=1+ez p.af+dY p.funcs:=rfl;have hla:=lJ p.af;have hlf:=lI p.funcs;have hla2:p.af.length<2^60:=aa;have hlf2:p.funcs.length<2^60:=aa;refine a5 (M:=68) (rs:=[.tmp 2]) (hw.call _) hw.ao hw.am func70 rfl rfl MW.2 rfl ?_;dsimp only[MW,a3,Nat.reduceAdd];repeat' (first
  |(apply ai ?_;clear hK K)|apply Rx.o ?_|apply aN ?_|(apply aX (fun C Y=>?_) (fun C Y=>?_)<;>try(cases C;done))|(apply aE (fun z V=>?_) (fun z V=>?_)<;>try(cases z;done))|apply ae ?_|(apply ah fun K hK=>?_)|apply aj ?_|apply ak ?_|apply am ?_|apply ax ?_)
 .all_goals refine qq ?_
  simp_all[kA];try(intros;omega)
 .refine jU (fun i E H=>p.af.all (fun a=>!decide (a.len<1) && !decide (16<a.len))=(p.af.drop i).all (fun a=>!decide (a.len<1) && !decide (16<a.len))/\E.at 1=.ptr 0 0/\E.at 21=.ai (p.af.map Ar.cells)/\E.at 22=.int .i64 p.af.length/\E.at 23=.int .i64 i/\0<H.next/\H.get 0=some (.cells p.cells 0 true)) p.af.length ?_ ?_
  .rintro i E H hi ⟨hc,h1,h21,h22,h23,hn,hg0⟩;have e0:(0 == H.next)=false:=ce;repeat' (first
    |(apply ai ?_;clear hK K)|apply Rx.o ?_|apply aN ?_|(apply aX (fun C Y=>?_) (fun C Y=>?_)<;>try(cases C;done))|(apply aE (fun z V=>?_) (fun z V=>?_)<;>try(cases z;done))|apply ae ?_|(apply ah fun K hK=>?_)|apply aj ?_|apply ak ?_|apply am ?_|apply ax ?_)
   .have Z:i<p.af.length:=by simpa using z
    have hgx:p.af[i]?=some p.af[i]:=bt Z;have hd:(p.af.drop i).all (fun a=>!decide (a.len<1) && !decide (16<a.len))=((!decide (p.af[i].len<1) && !decide (16<p.af[i].len))&&(p.af.drop (i+1)).all (fun a=>!decide (a.len<1) && !decide (16<a.len))):=zl;repeat' (first
     |(apply ai ?_;clear hK K)|apply Rx.o ?_|apply aN ?_|(apply aX (fun C Y=>?_) (fun C Y=>?_)<;>try(cases C;done))|(apply aE (fun z V=>?_) (fun z V=>?_)<;>try(cases z;done))|apply ae ?_|(apply ah fun K hK=>?_)|apply aj ?_|apply ak ?_|apply am ?_|apply ax ?_)
    .all_goals refine qq ?_
     have S:p.af.all (fun a=>!decide (a.len<1) && !decide (16<a.len))=false:=by rw[hc,hd];simp_all
     simp only[kA,S];simp
    .refine⟨Z,?_,eE,eE,eE,?_,gA,yL⟩
     .rw[hc,hd];simp_all
     .simp only[gc,Nat.reduceBEq,fF,ft (show i<2^62 by omega)]
    .all_goals refine qq ?_
     have S:p.af.all (fun a=>!decide (a.len<1) && !decide (16<a.len))=false:=by rw[hc,hd];simp_all
     simp only[kA,S];simp
   .have hia:i=p.af.length:=by simp at z;omega
    have hca:p.af.all (fun a=>!decide (a.len<1) && !decide (16<a.len))=true:=by rw[hc,hia];simp
    clear hc;repeat' (first
     |(apply ai ?_;clear hK K)|apply Rx.o ?_|apply aN ?_|(apply aX (fun C Y=>?_) (fun C Y=>?_)<;>try(cases C;done))|(apply aE (fun z V=>?_) (fun z V=>?_)<;>try(cases z;done))|apply ae ?_|(apply ah fun K hK=>?_)|apply aj ?_|apply ak ?_|apply am ?_|apply ax ?_)
    refine jU (fun i E H=>p.funcs.all jq=(p.funcs.drop i).all jq/\E.at 37=.ai (p.funcs.map Fu.cells)/\E.at 38=.int .i64 p.funcs.length/\E.at 39=.int .i64 i/\0<H.next) p.funcs.length ?_ ?_
    .rintro i E H hi ⟨hc,h37,h38,h39,hn⟩;repeat' (first
      |(apply ai ?_;clear hK K)|apply Rx.o ?_|apply aN ?_|(apply aX (fun C Y=>?_) (fun C Y=>?_)<;>try(cases C;done))|(apply aE (fun z V=>?_) (fun z V=>?_)<;>try(cases z;done))|apply ae ?_|(apply ah fun K hK=>?_)|apply aj ?_|apply ak ?_|apply am ?_|apply ax ?_)
     .have Z:i<p.funcs.length:=by simpa using z
      have hgx:p.funcs[i]?=some p.funcs[i]:=bt Z;have hd:(p.funcs.drop i).all jq=(jq p.funcs[i]&&(p.funcs.drop (i+1)).all jq):=zl;have hxm:=nX (ek Z);generalize hx0:p.funcs[i]=x at *;have hsx:x.sz=1+x.name.length+db x.params+db x.ah+a6 x.body+x.value.sz:=rfl;repeat' (first
       |(apply ai ?_;clear hK K)|apply Rx.o ?_|apply aN ?_|(apply aX (fun C Y=>?_) (fun C Y=>?_)<;>try(cases C;done))|(apply aE (fun z V=>?_) (fun z V=>?_)<;>try(cases z;done))|apply ae ?_|(apply ah fun K hK=>?_)|apply aj ?_|apply ak ?_|apply am ?_|apply ax ?_)
      .generalize j:Hp.set _ (H.next+2) _=m;have hn5:m.next=H.next+3:=by rw[<-j];rfl
       have J:m.get H.next=some (.cells x.cells 0 true):=zm
       have F:m.get (H.next+1)=some (.cells [.int .i64 0] 0 true):=zm;have A:m.get (H.next+2)=some (.cells [.int .i64 0] 0 true):=zm;refine qa ?_;refine a4 ?_ (xf hp.ws (base:=H.next+3) (fun s Ha Hb h o=>⟨by rw[o _ aa];exact h.1,by rw[o _ aa];exact h.2.1,fun r q1 q2 q3=>by rw[o r q1];exact h.2.2 r q1 q2 q3⟩) (YQ h1w (base:=H.next+3) (rn:=H.next+1) (rl:=H.next+2) aa aa aa m) (a6 x.body+1) x.body aa 0 (0,0) m aa aa ⟨F,A,fun _ _ _ _=>rfl⟩);rintro v H6 ⟨rfl,hf6,hi6⟩;have hn6:=hf6.next
       have hg6:H6.get H.next=some (.cells x.cells 0 true):=by rw[hi6.2.2 _ aa aa aa];exact J
       dsimp only[a0];repeat' (first
        |(apply ai ?_;clear hK K)|apply Rx.o ?_|apply aN ?_|(apply aX (fun C Y=>?_) (fun C Y=>?_)<;>try(cases C;done))|(apply aE (fun z V=>?_) (fun z V=>?_)<;>try(cases z;done))|apply ae ?_|(apply ah fun K hK=>?_)|apply aj ?_|apply ak ?_|apply am ?_|apply ax ?_)
       .refine qa ?_;refine a4 ?_ (MO hp (base:=0) (I:=fun _=>True) (fun _ _ _ _=>trivial) (YR h2w (fun _ _ _ _=>trivial)) x H6 aa aa trivial);rintro v H7 ⟨rfl,hf7,_⟩;have hn7:=hf7.next
        dsimp only[a0];repeat' (first
         |(apply ai ?_;clear hK K)|apply Rx.o ?_|apply aN ?_|(apply aX (fun C Y=>?_) (fun C Y=>?_)<;>try(cases C;done))|(apply aE (fun z V=>?_) (fun z V=>?_)<;>try(cases z;done))|apply ae ?_|(apply ah fun K hK=>?_)|apply aj ?_|apply ak ?_|apply am ?_|apply ax ?_)
        .all_goals refine qq ?_
         have U:p.funcs.all jq=false:=by rw[hc,hd];simp_all[jq]
         simp only[kA,U];simp
        .refine⟨Z,?_,eE,eE,?_,aa⟩
         .rw[hc,hd];simp_all[jq]
         .simp only[gc,Nat.reduceBEq,fF,ft (show i<2^62 by omega)]
       .all_goals refine qq ?_
        have U:p.funcs.all jq=false:=by rw[hc,hd];simp_all[jq]
        simp only[kA,U];simp
      .all_goals refine qq ?_
       have O:jq x=false:=by
        simp only[jq,wC,iX];first|exact .inl (.inl (.inl jh))|exact .inl (.inl (.inr jh))
       have U:p.funcs.all jq=false:=by rw[hc,hd,O,mc]
       simp only[kA,U];simp
      .all_goals refine qq ?_
       have O:jq x=false:=by
        simp only[jq,wC,iX];first|exact .inl (.inl (.inl jh))|exact .inl (.inl (.inr jh))
       have U:p.funcs.all jq=false:=by rw[hc,hd,O,mc]
       simp only[kA,U];simp
     .all_goals refine qq ?_
      have:i=p.funcs.length:=r3;simp_all[kA];try(intros;omega)
    .exact⟨rfl,eE,eE,eE,aa⟩
  .exact⟨rfl,eE,eE,eE,eE,by simp[br,cR],yL⟩
 .all_goals refine qq ?_
  simp_all[kA];try(intros;omega)
end
section
def tyW4f.tyF:=ac @cI (ac @oX (@cY))
open tyW4f
noncomputable def MX:{c:SC // aG 21 (f217.body.getD .skip)=c}:=by
 refine⟨?_,?_⟩;rotate_left
 .simp only[f217,bE,aG,bz,bq,bF,bB,Nat.blt,Nat.ble];rfl
noncomputable def MY:{c:SC // aG 9 (f214.body.getD .skip)=c}:=by
 refine⟨?_,?_⟩;rotate_left
 .simp only[f214,bE,aG,bz,bq,bF,bB,Nat.blt,Nat.ble];rfl
noncomputable def MZ:{c:SC // aG 23 (f212.body.getD .skip)=c}:=by
 refine⟨?_,?_⟩;rotate_left
 .simp only[f212,bE,aG,bz,bq,bF,bB,Nat.blt,Nat.ble];rfl
noncomputable def M0:{c:SC // aG 34 (f194.body.getD .skip)=c}:=by
 refine⟨?_,?_⟩;rotate_left
 .simp only[f194,bE,aG,bz,bq,bF,bB,Nat.blt,Nat.ble];rfl
noncomputable def M1:{c:SC // aG 37 (f215.body.getD .skip)=c}:=by
 refine⟨?_,?_⟩;rotate_left
 .simp only[f215,bE,aG,bz,bq,bF,bB,Nat.blt,Nat.ble];rfl
theorem YZ(J:zc7 cfg 217)(n:Int)(H:Hp):aU prog cfg 217 [.int .u8 n] H fun v H'=>v=.bool (n1 n)/\H'=H:=by
 refine a5 (M:=21) (rs:=[.tmp 2]) (J.call _) J.ao J.am func217 rfl rfl MX.2 rfl ?_;dsimp only[MX,a3,Nat.reduceAdd];repeat' (first
  |(apply ai ?_;clear hK K)|apply Rx.o ?_|apply cW ?_|(apply aX (fun C Y=>?_) (fun C Y=>?_)<;>try(cases C;done))|apply ae ?_|(apply ah fun K hK=>?_)|apply am ?_)
 all_goals refine qq ?_
 all_goals (refine⟨?_,fT⟩;simp_all[n1]<;>omega)
theorem Ga(J:zc7 cfg 214)(n:Int)(H:Hp):aU prog cfg 214 [.int .u8 n] H fun v H'=>v=.bool (mb n)/\H'=H:=by
 refine a5 (M:=9) (rs:=[.tmp 2]) (J.call _) J.ao J.am func214 rfl rfl MY.2 rfl ?_;dsimp only[MY,a3,Nat.reduceAdd];repeat' (first
  |(apply ai ?_;clear hK K)|apply Rx.o ?_|(apply aX (fun C Y=>?_) (fun C Y=>?_)<;>try(cases C;done))|apply ae ?_|(apply ah fun K hK=>?_)|apply am ?_)
 all_goals refine qq ?_
 all_goals (refine⟨?_,fT⟩;simp_all[mb]<;>omega)
theorem Y0(J:zc7 cfg 212)(S:zc7 cfg 217)(hd:zc7 cfg 214)(s:qr)(O:s.length<2^60)(H:Hp):
 aU prog cfg 212 [.ae s] H fun v H'=>v=.int .i64 (fk s)/\H'=H:=by
 refine a5 (M:=23) (rs:=[.tmp 2]) (J.call _) J.ao J.am func212 rfl rfl MZ.2 rfl ?_;dsimp only[MZ,a3,Nat.reduceAdd];repeat' (first
  |(apply ai ?_;clear hK K)|apply Rx.o ?_|apply cW ?_|(apply aX (fun C Y=>?_) (fun C Y=>?_)<;>try(cases C;done))|(apply aE (fun z V=>?_) (fun z V=>?_)<;>try(cases z;done))|apply ae ?_|(apply ah fun K hK=>?_)|apply aj ?_|apply ak ?_|apply am ?_|apply ax ?_)
 refine jU (fun i E H'=>fk s=i+fk (s.drop i)/\E.at 0=.ae s/\E.at 3=.int .i64 i/\H'=H) s.length ?_ ?_
 .rintro i E H' F ⟨hc,A,o,rfl⟩;repeat' (first
   |(apply ai ?_;clear hK K)|apply Rx.o ?_|apply cW ?_|(apply aX (fun C Y=>?_) (fun C Y=>?_)<;>try(cases C;done))|(apply aE (fun z V=>?_) (fun z V=>?_)<;>try(cases z;done))|apply ae ?_|(apply ah fun K hK=>?_)|apply aj ?_|apply ak ?_|apply am ?_|apply ax ?_)
  .have Z:i<s.length:=by omega
   have I:s[i]?=some s[i]:=bt Z;have j:fk (s.drop i)=if jY s[i]then fk (s.drop (i+1))+1 else 0:=by rw[fR Z,fk]
   repeat' (first
    |(apply ai ?_;clear hK K)|apply Rx.o ?_|apply cW ?_|(apply aX (fun C Y=>?_) (fun C Y=>?_)<;>try(cases C;done))|(apply aE (fun z V=>?_) (fun z V=>?_)<;>try(cases z;done))|apply ae ?_|(apply ah fun K hK=>?_)|apply aj ?_|apply ak ?_|apply am ?_|apply ax ?_)
   refine qa ?_;refine a4 ?_ (YZ S s[i].toNat H');rintro v _ ⟨rfl,rfl⟩;dsimp only[a0];repeat' (first
    |(apply ai ?_;clear hK K)|apply Rx.o ?_|apply cW ?_|(apply aX (fun C Y=>?_) (fun C Y=>?_)<;>try(cases C;done))|(apply aE (fun z V=>?_) (fun z V=>?_)<;>try(cases z;done))|apply ae ?_|(apply ah fun K hK=>?_)|apply aj ?_|apply ak ?_|apply am ?_|apply ax ?_)
   .refine qa ?_;refine a4 ?_ (Ga hd s[i].toNat _);rintro v _ ⟨rfl,rfl⟩;dsimp only[a0];repeat' (first
     |(apply ai ?_;clear hK K)|apply Rx.o ?_|apply cW ?_|(apply aX (fun C Y=>?_) (fun C Y=>?_)<;>try(cases C;done))|(apply aE (fun z V=>?_) (fun z V=>?_)<;>try(cases z;done))|apply ae ?_|(apply ah fun K hK=>?_)|apply aj ?_|apply ak ?_|apply am ?_|apply ax ?_)
    .have m:jY s[i]=true:=by simp_all[jY]
     refine⟨Z,?_,eE,?_,rfl⟩
     .rw[hc,j,m];simp;omega
     .simp only[gc,Nat.reduceBEq,fF,ft (show i<2^62 by omega)]
    .have m:jY s[i]=false:=by simp_all[jY]
     all_goals refine qq ?_
     exact⟨by rw[hc,j,m];simp,fT⟩
   .have m:jY s[i]=true:=by simp_all[jY]
    refine⟨Z,?_,eE,?_,rfl⟩
    .rw[hc,j,m];simp;omega
    .simp only[gc,Nat.reduceBEq,fF,ft (show i<2^62 by omega)]
  .all_goals refine qq ?_
   have U:i=s.length:=aa;refine⟨?_,fT⟩;rw[hc,U];simp[fk]
 .exact⟨aI,eE,eE,rfl⟩
theorem M2(o:zc7 cfg 194)(s:qr)(hs:s.length<2^60)(H:Hp):
 aU prog cfg 194 [.ae s] H fun v H'=>v=.int .i64 (fw false s)/\H'=H:=by
 refine a5 (M:=34) (rs:=[.tmp 2]) (o.call _) o.ao o.am func194 rfl rfl M0.2 rfl ?_;dsimp only[M0,a3,Nat.reduceAdd];repeat' (first
  |(apply ai ?_;clear hK K)|apply Rx.o ?_|(apply aX (fun C Y=>?_) (fun C Y=>?_)<;>try(cases C;done))|(apply aE (fun z V=>?_) (fun z V=>?_)<;>try(cases z;done))|apply ae ?_|(apply ah fun K hK=>?_)|apply aj ?_|apply ak ?_|apply am ?_|apply ax ?_)
 refine uN (fun n E H'=>∃i:Nat,n=s.length-i/\i<=s.length/\fw false s=i+fw false (s.drop i)/\E.at 0=.ae s/\E.at 3=.int .i64 i/\H'=H) ?_ (n:=s.length) ?_
 .rintro n E H' ⟨i,rfl,hi,hc,h0,h3,rfl⟩;repeat' (first
   |(apply ai ?_;clear hK K)|apply Rx.o ?_|(apply aX (fun C Y=>?_) (fun C Y=>?_)<;>try(cases C;done))|(apply aE (fun z V=>?_) (fun z V=>?_)<;>try(cases z;done))|apply ae ?_|(apply ah fun K hK=>?_)|apply aj ?_|apply ak ?_|apply am ?_|apply ax ?_)
  .have J:i<s.length:=by omega
   have hgx:s[i]?=some s[i]:=bt J;have U:fw false (s.drop i)=if jI s[i]then fw false (s.drop (i+1))+1 else if s[i].toNat=35 then fw true (s.drop (i+1))+1 else 0:=by rw[fR J,fw]
   repeat' (first
    |(apply ai ?_;clear hK K)|apply Rx.o ?_|(apply aX (fun C Y=>?_) (fun C Y=>?_)<;>try(cases C;done))|(apply aE (fun z V=>?_) (fun z V=>?_)<;>try(cases z;done))|apply ae ?_|(apply ah fun K hK=>?_)|apply aj ?_|apply ak ?_|apply am ?_|apply ax ?_)
   .have Z:jI s[i]=true:=by unfold jI;simp;omega
    refine⟨s.length-(i+1),aa,i+1,rfl,aa,?_,eE,?_,rfl⟩
    .rw[hc,U,au Z];omega
    .simp only[gc,Nat.reduceBEq,fF,ft (show i<2^62 by omega)]
   .have Z:jI s[i]=true:=by unfold jI;simp;omega
    refine⟨s.length-(i+1),aa,i+1,rfl,aa,?_,eE,?_,rfl⟩
    .rw[hc,U,au Z];omega
    .simp only[gc,Nat.reduceBEq,fF,ft (show i<2^62 by omega)]
   .have Z:jI s[i]=true:=by unfold jI;simp;omega
    refine⟨s.length-(i+1),aa,i+1,rfl,aa,?_,eE,?_,rfl⟩
    .rw[hc,U,au Z];omega
    .simp only[gc,Nat.reduceBEq,fF,ft (show i<2^62 by omega)]
   .have Z:jI s[i]=true:=by unfold jI;simp;omega
    refine⟨s.length-(i+1),aa,i+1,rfl,aa,?_,eE,?_,rfl⟩
    .rw[hc,U,au Z];omega
    .simp only[gc,Nat.reduceBEq,fF,ft (show i<2^62 by omega)]
   .have I:s[i].toNat=35:=by omega
    have Z:jI s[i]=false:=by unfold jI;simp;omega
    have hln:jr (s.drop i)=jr (s.drop (i+1))+1:=by rw[fR J,jr,ad aa]
    have F:fw false s=i+jr (s.drop i)+fw false (s.drop (i+jr (s.drop i))):=by
     rw[hc,U,Z,ad aI,au I,JI,Ap,hln,show i+1+jr (s.drop (i+1))=i+(jr (s.drop (i+1))+1) by omega];omega
    have hle:=JH (s.drop i);rw[jP]at hle;refine uN (fun n E m=>∃j:Nat,n=s.length-j/\i<=j/\j<=s.length/\i+jr (s.drop i)=j+jr (s.drop j)/\E.at 0=.ae s/\E.at 3=.int .i64 j/\m=H') ?_ (n:=s.length-i) ?_
    .rintro n E2 H2 ⟨j,rfl,hij,hj,S,k0,lT,rfl⟩;repeat' (first
      |(apply ai ?_;clear hK K)|apply Rx.o ?_|(apply aX (fun C Y=>?_) (fun C Y=>?_)<;>try(cases C;done))|(apply aE (fun z V=>?_) (fun z V=>?_)<;>try(cases z;done))|apply ae ?_|(apply ah fun K hK=>?_)|apply aj ?_|apply ak ?_|apply am ?_|apply ax ?_)
     .have O:j<s.length:=by omega
      have hgx2:s[j]?=some s[j]:=bt O;have A:jr (s.drop j)=if s[j].toNat=10 then 0 else jr (s.drop (j+1))+1:=by rw[fR O,jr]
      repeat' (first
       |(apply ai ?_;clear hK K)|apply Rx.o ?_|(apply aX (fun C Y=>?_) (fun C Y=>?_)<;>try(cases C;done))|(apply aE (fun z V=>?_) (fun z V=>?_)<;>try(cases z;done))|apply ae ?_|(apply ah fun K hK=>?_)|apply aj ?_|apply ak ?_|apply am ?_|apply ax ?_)
      .refine⟨s.length-(j+1),aa,j+1,rfl,aa,aa,?_,eE,?_,rfl⟩
       .rw[S,A,ad (by simp_all;omega)];omega
       .simp only[gc,Nat.reduceBEq,fF,ft (show j<2^62 by omega)]
      .have h10:s[j].toNat=10:=by simp_all;omega
       rw[A,au h10,sZ]at S;refine⟨s.length-j,aa,j,rfl,aa,?_,eE,eE,fT⟩;rw[F,S]
     .have hje:j=s.length:=by omega
      have h0j:jr (s.drop j)=0:=by rw[hje];simp[jr]
      rw[h0j,sZ]at S;refine⟨s.length-j,aa,j,rfl,aa,?_,eE,eE,fT⟩;rw[F,S]
    .exact⟨i,rfl,aa,aa,rfl,eE,eE,rfl⟩
   .have Z:jI s[i]=false:=by unfold jI;simp;omega
    all_goals refine qq ?_
    refine⟨?_,fT⟩;rw[hc,U,Z,ad aI,ad aa];simp
  .all_goals refine qq ?_
   have hie:i=s.length:=aa;refine⟨?_,fT⟩;rw[hc,hie];simp[fw]
 .exact⟨0,aI,aa,aI,eE,eE,rfl⟩
end
section
def tyW4g.tyF:=ac @cI (ac @cY (ac @rZ (ac @EF (ac @EG (ac @Bl (ac @oX (ac @VI (ac @Sp (ac @Ev (@underlying9))))))))))
open tyW4g
noncomputable def M3:{c:SC // aG 35 (f213.body.getD .skip)=c}:=by
 refine⟨?_,?_⟩;rotate_left
 .simp only[f213,bE,aG,bz,bq,bF,bB,Nat.blt,Nat.ble];rfl
noncomputable def M4:{c:SC // aG 41 (f195.body.getD .skip)=c}:=by
 refine⟨?_,?_⟩;rotate_left
 .simp only[f195,bE,aG,bz,bq,bF,bB,Nat.blt,Nat.ble];rfl
noncomputable def M5:{c:SC // aG 49 (f162.body.getD .skip)=c}:=by
 refine⟨?_,?_⟩;rotate_left
 .simp only[f162,bE,aG,bz,bq,bF,bB,Nat.blt,Nat.ble];rfl
def Y1(J:zc7 cfg 215)(hd:zc7 cfg 214)(s:qr)(I:s≠[])(O:s.length<2^60)(H:Hp):
 aU prog cfg 215 [.ae s] H fun v H'=>(∃b,v=.bool b)/\H'=H:=by
 have S:0<s.length:=tx.2 I;have o:s[0]?=some s[0]:=bt S;refine a5 (M:=37) (rs:=[.tmp 2]) (J.call _) J.ao J.am func215 rfl rfl M1.2 rfl ?_;dsimp only[M1,a3,Nat.reduceAdd];repeat' (first
  |(apply ai ?_;clear hK K)|apply Rx.o ?_|(apply aE (fun z V=>?_) (fun z V=>?_)<;>try(cases z;done))|apply ae ?_|(apply ah fun K hK=>?_)|apply aj ?_|apply ak ?_|apply am ?_|apply ax ?_)
 refine jU (fun i E H'=>E.at 0=.ae s/\E.at 3=.int .i64 i/\H'=H) s.length ?_ ?_
 .rintro i E H' F ⟨k0,lT,rfl⟩;repeat' (first
   |(apply ai ?_;clear hK K)|apply Rx.o ?_|(apply aE (fun z V=>?_) (fun z V=>?_)<;>try(cases z;done))|apply ae ?_|(apply ah fun K hK=>?_)|apply aj ?_|apply ak ?_|apply am ?_|apply ax ?_)
  .have Z:i<s.length:=by omega
   have U:s[i]?=some s[i]:=bt Z;repeat' (first
    |(apply ai ?_;clear hK K)|apply Rx.o ?_|(apply aE (fun z V=>?_) (fun z V=>?_)<;>try(cases z;done))|apply ae ?_|(apply ah fun K hK=>?_)|apply aj ?_|apply ak ?_|apply am ?_|apply ax ?_)
   refine qa ?_;refine a4 ?_ (Ga hd s[i].toNat H');rintro v _ ⟨rfl,rfl⟩;dsimp only[a0];repeat' (first
    |(apply ai ?_;clear hK K)|apply Rx.o ?_|(apply aE (fun z V=>?_) (fun z V=>?_)<;>try(cases z;done))|apply ae ?_|(apply ah fun K hK=>?_)|apply aj ?_|apply ak ?_|apply am ?_|apply ax ?_)
   .all_goals refine qq ?_
    exact⟨⟨_,rfl⟩,fT⟩
   .refine⟨Z,eE,?_,fT⟩;simp only[gc,Nat.reduceBEq,fF,ft (show i<2^62 by omega)]
  .repeat' (first
    |(apply ai ?_;clear hK K)|apply Ry.o ?_|apply kX ?_|(apply cE (fun C Y=>?_) (fun C Y=>?_)<;>try(cases C;done))|apply ae ?_|(apply ah fun K hK=>?_)|apply aj ?_|apply ak ?_|apply am ?_|apply ax ?_)
   all_goals refine qq ?_
   all_goals exact⟨⟨_,rfl⟩,fT⟩
 .exact⟨eE,eE,rfl⟩
def Y2:qo:=[[62,62,62],[60,60],[62,62],[60,61],[62,61],[61,61],[33,61]]
def Y3(J:zc7 cfg 213)(hplan:∀id,cfg.bI 213 id=.text)(s:qr)(o:s≠[])(hs:s.length<2^60)(H:Hp):
 aU prog cfg 213 [.ae s] H fun v H'=>(∃n:Nat,v=.int .i64 n/\n<=s.length)/\H'=H:=by
 have S:0<s.length:=tx.2 o;have hg0:s[0]?=some s[0]:=bt S;have A:cQ prog 255 [(0,.ae [62,62,62]),(1,.ae [60,60]),(2,.ae [62,62]),(3,.ae [60,61]),(4,.ae [62,61]),(5,.ae [61,61]),(6,.ae [33,61])]=some (.agg [.ae [62,62,62],.ae [60,60],.ae [62,62],.ae [60,61],.ae [62,61],.ae [61,61],.ae [33,61]]):=aA;refine a5 (M:=35) (rs:=[.tmp 2]) (J.call _) J.ao J.am func213 rfl rfl M3.2 rfl ?_;dsimp only[M3,a3,Nat.reduceAdd];repeat' (first
  |(apply ai ?_;clear hK K)|apply Rx.o ?_|(apply aX (fun C Y=>?_) (fun C Y=>?_)<;>try(cases C;done))|(apply aE (fun z V=>?_) (fun z V=>?_)<;>try(cases z;done))|apply ae ?_|(apply ah fun K hK=>?_)|(apply dj 10 fun K hK=>?_)|apply aj ?_|apply ak ?_|apply am ?_|apply ax ?_)
 refine jU (fun i E H'=>E.at 0=.ae s/\E.at 6=.agg [.ae [62,62,62],.ae [60,60],.ae [62,62],.ae [60,61],.ae [62,61],.ae [61,61],.ae [33,61]]/\E.at 7=.int .i64 i/\H'=H) 7 ?_ ?_
 .rintro i E H' hi ⟨k0,k6,k7,rfl⟩;repeat' (first
   |(apply ai ?_;clear hK K)|apply Rx.o ?_|(apply aX (fun C Y=>?_) (fun C Y=>?_)<;>try(cases C;done))|(apply aE (fun z V=>?_) (fun z V=>?_)<;>try(cases z;done))|apply ae ?_|(apply ah fun K hK=>?_)|(apply dj 10 fun K hK=>?_)|apply aj ?_|apply ak ?_|apply am ?_|apply ax ?_)
  .have Z:i<7:=by omega
   have I:∃w:qr,oK prog 255 (.agg [.ae [62,62,62],.ae [60,60],.ae [62,62],.ae [60,61],.ae [62,61],.ae [61,61],.ae [33,61]]) (.int .i64 i)=some (.ae w):=by
    refine⟨Y2.getD i [],?_⟩;rcases(show i=0\/i=1\/i=2\/i=3\/i=4\/i=5\/i=6 by omega)with rfl|rfl|rfl|rfl|rfl|rfl|rfl<;>kernel_rfl
   obtain⟨w,m⟩:=I;repeat' (first
    |(apply ai ?_;clear hK K)|apply Rx.o ?_|(apply aX (fun C Y=>?_) (fun C Y=>?_)<;>try(cases C;done))|(apply aE (fun z V=>?_) (fun z V=>?_)<;>try(cases z;done))|apply ae ?_|(apply ah fun K hK=>?_)|(apply dj 10 fun K hK=>?_)|apply aj ?_|apply ak ?_|apply am ?_|apply ax ?_)
   .have F:w.length<=s.length:=by omega
    repeat' (first
     |(apply ai ?_;clear hK K)|apply Rx.o ?_|(apply aX (fun C Y=>?_) (fun C Y=>?_)<;>try(cases C;done))|(apply aE (fun z V=>?_) (fun z V=>?_)<;>try(cases z;done))|apply ae ?_|(apply ah fun K hK=>?_)|(apply dj 10 fun K hK=>?_)|apply aj ?_|apply ak ?_|apply am ?_|apply ax ?_)
    .all_goals refine qq ?_
     exact⟨⟨w.length,rfl,F⟩,fT⟩
    .refine⟨Z,eE,eE,?_,fT⟩;simp only[gc,Nat.reduceBEq,fF,ft (show i<2^62 by omega)]
   .refine⟨Z,eE,eE,?_,fT⟩;simp only[gc,Nat.reduceBEq,fF,ft (show i<2^62 by omega)]
  .repeat' (first
    |(apply ai ?_;clear hK K)|apply Rx.o ?_|(apply aX (fun C Y=>?_) (fun C Y=>?_)<;>try(cases C;done))|(apply aE (fun z V=>?_) (fun z V=>?_)<;>try(cases z;done))|apply ae ?_|(apply ah fun K hK=>?_)|(apply dj 10 fun K hK=>?_)|apply aj ?_|apply ak ?_|apply am ?_|apply ax ?_)
   refine jU (fun i E U=>E.at 0=.ae s/\E.at 5=.int .i64 i/\U=H') 23 ?_ ?_
   .rintro j E U hj ⟨k0,sM,rfl⟩;repeat' (first
     |(apply ai ?_;clear hK K)|apply Rx.o ?_|(apply aX (fun C Y=>?_) (fun C Y=>?_)<;>try(cases C;done))|(apply aE (fun z V=>?_) (fun z V=>?_)<;>try(cases z;done))|apply ae ?_|(apply ah fun K hK=>?_)|(apply dj 10 fun K hK=>?_)|apply aj ?_|apply ak ?_|apply am ?_|apply ax ?_)
    .have Z:j<23:=by omega
     have O:∃b,([43,45,42,47,37,38,124,94,126,33,60,62,61,63,58,59,44,40,41,123,125,91,93]:qr)[j]?=some b:=by
      rw[bt rL];exact⟨_,rfl⟩
     obtain⟨b,O⟩:=O;repeat' (first
      |(apply ai ?_;clear hK K)|apply Ry.o ?_|(apply a2 (fun z V=>?_) (fun z V=>?_)<;>try(cases z;done))|apply ae ?_|(apply ah fun K hK=>?_)|(apply dj 10 fun K hK=>?_)|apply aj ?_|apply ak ?_|apply am ?_|apply ax ?_)
     .all_goals refine qq ?_
      exact⟨⟨1,rfl,S⟩,fT⟩
     .refine⟨Z,eE,?_,fT⟩;simp only[gc,Nat.reduceBEq,fF,ft (show j<2^62 by omega)]
    .all_goals refine qq ?_
     exact⟨⟨0,rfl,dx _⟩,fT⟩
   .exact⟨eE,eE,rfl⟩
 .exact⟨eE,eE,eE,rfl⟩
end
section
def tyW4h.tyF:=ac @cI (ac @cY (ac @Bl (ac @Ev (@underlying9))))
open tyW4h
structure zdf (cfg:Cfg):Prop where
 let_:zc7 cfg 217
 dig:zc7 cfg 214
 f5:zc7 cfg 212
 fL:zc7 cfg 194
 num:zc7 cfg 215
 eb:zc7 cfg 213
 e9:zc7 cfg 195
 scan:zc7 cfg 162
 bI:∀id,cfg.bI 213 id=.text
 aj:cfg.aj 162=false
def CA(a:Int)(x:qr):cQ prog 178 [(0,.int .i64 a),(1,.ae x)]=some (.agg [.int .i64 a,.ae x,.int .i64 0]):=aA
def CB:cQ prog 178 []=some (.agg [.int .i64 0,.ae [],.int .i64 0]):=aA
theorem xg(a b c:AV):cH 3 [a,b,c]=some (.agg [a,b,c]):=rfl
def vC(H:Hp)(a b:HB):FrB 0 H ((H.alloc a).set H.next b):=((iu _ _).alloc _).set (.inl (aT _)) _
theorem Y4(O:zdf cfg)(s:qr)(I:s≠[])(F:s.length<2^60)(H:Hp):
 aU prog cfg 195 [.ae s] H fun v H'=>(∃k e,v=.aW [.agg k.cells,.int .i64 e]/\JJ s k e)/\FrB 0 H H':=by
 have J:=O.e9
 have S:0<s.length:=tx.2 I;have o:s[0]?=some s[0]:=bt S;have C:=JG s;refine a5 (M:=41) (rs:=[.cell 2 178,.tmp 3]) (J.call _) J.ao J.am func195 rfl rfl M4.2 rfl ?_;dsimp only[M4,a3,Nat.reduceAdd];repeat' (first
  |(apply ai ?_;clear hK K)|apply Rx.o ?_|apply aN ?_|(apply aE (fun z V=>?_) (fun z V=>?_)<;>try(cases z;done))|apply ae ?_|(apply ah fun K hK=>?_)|apply aj ?_|apply ak ?_|apply am ?_)
 refine qa ?_;refine a4 ?_ (Y0 O.f5 O.let_ O.dig s F _);rintro v _ ⟨rfl,rfl⟩;dsimp only[a0];have Z:=@CA;have Y:=@CB;repeat' (first
  |(apply ai ?_;clear hK K)|apply Ry.o ?_|(apply a2 (fun z V=>?_) (fun z V=>?_)<;>try(cases z;done))|apply ae ?_|(apply ah fun K hK=>?_)|apply aj ?_|apply ak ?_|apply am ?_)
 .refine qa ?_;refine a4 ?_ (Y3 O.eb O.bI s I F _);rintro v _ ⟨⟨n,rfl,hn⟩,rfl⟩;dsimp only[a0];have Z:=@CA;have Y:=@CB;repeat' (first
   |(apply ai ?_;clear hK K)|apply Rx.o ?_|apply aN ?_|(apply aE (fun z V=>?_) (fun z V=>?_)<;>try(cases z;done))|apply ae ?_|(apply ah fun K hK=>?_)|apply aj ?_|apply ak ?_|apply am ?_)
  .refine⟨aC,_,(by(try simp only[aK,aW,Nat.reduceBEq,Nat.reduceAdd,Nat.reduceLeDiff,tyF,bU,cc,xg, *]);first|done|with_reducible rfl),?_⟩;try simp only[aB]
   exact⟨⟨⟨0,[],0⟩,2,rfl,rfl,aI,fun j=>aa⟩,vC _ _ _⟩
  .refine⟨aC,_,(by(try simp only[aK,aW,Nat.reduceBEq,Nat.reduceAdd,Nat.reduceLeDiff,tyF,bU,cc,xg, *]);first|done|with_reducible rfl),?_⟩;try simp only[aB]
   refine⟨⟨⟨3,s.take n,0⟩,0,rfl,rfl,fun _=>⟨n,aa,hn,rfl,aI⟩,fun j=>aa⟩,vC _ _ _⟩
 .refine qa ?_;refine a4 ?_ (Ga O.dig s[0].toNat _);rintro v _ ⟨rfl,rfl⟩;dsimp only[a0];have hsl:=Ev (P:=prog) (k:=.i64) (s:=s) underlying9 C;have Z:=@CA;have Y:=@CB;repeat' (first
   |(apply ai ?_;clear hK K)|apply Rx.o ?_|apply aN ?_|(apply aE (fun z V=>?_) (fun z V=>?_)<;>try(cases z;done))|apply ae ?_|(apply ah fun K hK=>?_)|apply aj ?_|apply ak ?_|apply am ?_)
  .have U:s.take (fk s)≠[]:=by
    intro h;have:=lB List.length h;rw[mF,As C,eg]at this;omega
   refine qa ?_;refine a4 ?_ (Y1 O.num O.dig (s.take (fk s)) U te _);rintro v _ ⟨⟨ok,rfl⟩,rfl⟩;dsimp only[a0];have Z:=@CA;have Y:=@CB;repeat' (first
    |(apply ai ?_;clear hK K)|apply Rx.o ?_|apply aN ?_|(apply aE (fun z V=>?_) (fun z V=>?_)<;>try(cases z;done))|apply ae ?_|(apply ah fun K hK=>?_)|apply aj ?_|apply ak ?_|apply am ?_)
   .refine⟨aC,_,(by(try simp only[aK,aW,Nat.reduceBEq,Nat.reduceAdd,Nat.reduceLeDiff,tyF,bU,cc,xg, *]);first|done|with_reducible rfl),?_⟩;try simp only[aB]
    refine⟨⟨⟨0,[],0⟩,2,rfl,rfl,aI,fun j m A=>?_⟩,vC _ _ _⟩;have:=A _ o;simp_all
   .refine⟨aC,_,(by(try simp only[aK,aW,Nat.reduceBEq,Nat.reduceAdd,Nat.reduceLeDiff,tyF,bU,cc,xg, *]);first|done|with_reducible rfl),?_⟩;try simp only[aB]
    refine⟨⟨⟨2,s.take (fk s),0⟩,0,rfl,rfl,fun _=>⟨fk s,aa,C,rfl,aI⟩,fun j m A=>?_⟩,vC _ _ _⟩;have:=A _ o;simp_all
  .refine⟨aC,_,(by(try simp only[aK,aW,Nat.reduceBEq,Nat.reduceAdd,Nat.reduceLeDiff,tyF,bU,cc,xg, *]);first|done|with_reducible rfl),?_⟩;try simp only[aB]
   exact⟨⟨⟨0,[],0⟩,6,rfl,rfl,aI,fun j m=>aa⟩,vC _ _ _⟩
  .refine⟨aC,_,(by(try simp only[aK,aW,Nat.reduceBEq,Nat.reduceAdd,Nat.reduceLeDiff,tyF,bU,cc,xg, *]);first|done|with_reducible rfl),?_⟩;try simp only[aB]
   refine⟨⟨⟨1,s.take (fk s),0⟩,0,rfl,rfl,fun _=>⟨fk s,aa,C,rfl,fun _=>⟨rfl,aa,fun b z=>?_⟩⟩,fun _ _ _=>⟨rfl,rfl⟩⟩,vC _ _ _⟩;rw[o]at z;simp only[aH]at z;subst z;assumption
end
end Go.Proofs.YtbflaciihaijgaaGreat
