/- Lemmas for the last file. -/
import Derived.Test.YtbflaciihaijgaaGreatREP
set_option linter.all false
set_option maxHeartbeats 32000000
namespace Go.Ab
set_option maxRecDepth 20000
open Go
variable{qb:Prop}
def CX(h:qb:=by show _ < 6;omega):=h
def xp(h:qb:=by rw[<- Z];simp[aP,br,cR]):=h
def jw(h:qb:=by simp[dd];omega):=h
def CY(h:qb:=by show _ < 5;omega):=h
def oF(h:qb:=by rw[<- J];simp[aP,br,cR]):=h
def xq(h:qb:=by rw[List.length_map,show dd=70368744177664 from rfl];omega):=h
def xr(h:qb:=by rw[o4 0 aa aa];exact g0):=h
def xt(h:qb:=by rw[o4 1 aa aa];exact g1):=h
def CZ(h:qb:=by rw[aP,if_neg aa];exact gq):=h
def C0(h:qb:=by rw[f5 0 bY (fun o m z' e=>BD),aP,if_neg aa];exact h0):=h
def C1(h:qb:=by rw[f5 1 bY (fun o m z' e=>BD),aP,if_neg aa];exact h1):=h
def OD(h:qb:=by rw[Hp.get_set,if_neg aa];exact gq):=h
def OE(h:qb:=by rw[Hp.get_set,if_neg aa,Hp.get_set,if_pos rfl,hks]):=h
def OF:=@List.drop_length_add_append
end Go.Ab
namespace Go.Proofs.YtbflaciihaijgaaGreat
set_option maxRecDepth 20000
open Go Go.Ab Proofs.Tryz
variable(ρ:Nat->Int)
variable{z i b q m r N:Nat}{rows:List qm}{P:Program}{H:Hp}{S:Nat->Prop}{n:Int}{M:AV}{s:qr}
section
theorem OG{z:Nat}:∀{rows:List qm}{i:Nat}{r:qm},(∀x∈rows,x.length=z)->rows[i]?=some r->rows.flatten.drop (i*z)=r++(rows.drop (i+1)).flatten
 |[],i,r,_,e=>by simp at e
 |a::rows,0,r,h,e=>by
  simp only[kW,aH]at e;subst e;simp
 |a::rows,i+1,r,h,e=>by
  have V:=h a gW;have ih:=OG (rows:=rows) (i:=i) (r:=r) (fun x hx=>h x (jE _ hx)) Bp;have o:(i+1)*z=a.length+i*z:=by rw[ta,V];omega
  rw[iI,o,OF,ih];rfl
theorem GD{z:Nat}{w:qm}(J:w.length=z):∀{rows:List qm}{i:Nat},(∀x∈rows,x.length=z)->i<rows.length->splice rows.flatten (i*z) w=(rows.set i w).flatten
 |[],i,_,e=>by simp at e
 |a::rows,0,h,e=>by
  have V:=h a gW;simp only[splice,tf,MG,jO,bR,iI,List.set_cons_zero];rw[AG aa,oN aa,jO]
 |a::rows,i+1,h,e=>by
  have V:=h a gW;have ih:=GD J (rows:=rows) (i:=i) (fun x hx=>h x (jE _ hx)) Bp;simp only[splice,iI,BF]at ih⊢;have o:(i+1)*z=a.length+i*z:=by rw[ta,V];omega
  rw[o,List.take_length_add_append,gU,OF,kP,kP];rw[kP]at ih;rw[ih]
def GE{r:qm}(h:∀x∈rows,x.length=z)(e:rows[i]?=some r):cH z (rows.flatten.drop (i*z))=some (.agg r):=by
 have hr:=h r (fq e);rw[OG h e];unfold cH;rw[Ds aa,iR aa,au hr]
def zI(l:qz):∀x∈l.map Ex.cells,x.length=5:=fun r hr=>by
 obtain⟨a,_,rfl⟩:=l3.1 hr;exact a.aN
theorem C2:∀l:qz,(l.map Ex.cells).flatten.all AV.one=true
 |[]=>rfl
 |a::l=>by rw[el,iI,wa,a.one,C2 l];rfl
theorem dT.eN{S:Nat->Prop}{n:Nat}{H:Hp}:∀l:qz,dT S (n+1) H 5 (l.map Ex.cells) (l.map Ex.cells)
 |[]=>trivial
 |a::l=>⟨⟨a.aN,cJ.ex a⟩,dT.eN l⟩
theorem xu{t e:TypeId}{J:qm}(I:P.underlying t=some (.slice e))(A:bD P e=some z)(Z:cL P e=some b)(o:cn P e=some J)(F:J.length=z)(C:ip P t=true)
  (U:H.get q=some qc) (hq:q<H.next)  (hr:∀x∈rows,x.length=z) (K:rows.flatten.all AV.one=true) (O:rows.length*b<=dd) (Y:rows.length<=dd) :
 ∃V H',dh P false H t t (.sl q 0 0 z) (.ai rows)=some (.sl V 0 rows.length z,H')/\H'.get V=some (.cells rows.flatten 0 true)/\(V=q\/V=H.next)/\V<H'.next/\H.next<=H'.next/\H'.next<=H.next+1/\∀k,k<H.next->k≠q->H'.get k=H.get k:=by
 have hx:fc H z (.ai rows)=some (rows.length,rows.flatten):=YH hr;by_cases h0:rows=[]
 .subst h0;refine⟨q,H,?_,U,.inl rfl,hq,aT _,eT _,fun _ _ _=>rfl⟩;simp only[eg]at hx;simp only[dh,I,A,Z,o,C,hx,eg]
 .obtain⟨m,j⟩:∃m,rows.length=m+1:=⟨rows.length-1,by have:=tx.2 h0;omega⟩;have M:fV false H z (.sl q 0 0 z)=H:=by
   unfold fV;simp only[U];have:Nat.blt (0+0*z) ([]:qm).length=false:=by
    cases Z:Nat.blt (0+0*z) ([]:qm).length with
    |false=>rfl
    |true=>rw[iH]at Z;simp at Z
   simp only[this,Fb,mc]
  refine⟨H.next,(H.az q).alloc (.cells rows.flatten 0 true),?_,?_,.inr rfl,dq _,eT _,aT _,fun k hk S=>?_⟩
  .rw[j]at hx O Y;simp only[dh,I,A,Z,o,C,hx,K,M,F,nT,bw,kL,U,bR,tf,List.drop_nil,dg,bH];rw[au ⟨by simpa using O,An,aI,trivial,aI⟩,j];simp
  .show((H.az q).alloc _).get (H.az q).next=_
   rw[aP,au rfl]
  .rw[aP,ad kC,gm,ad S]
def OH{t:Nat}{tip:Bool}{w:qm}(S:bD P t=some z)(C:H.get q=some (.cells rows.flatten 0 tip))(Y:∀x∈rows,x.length=z)(F:i<rows.length)(J:w.length=z)(h1:w.all AV.one=true):mD P H t (.ptr q (i*z)) (.agg w)=some (H.set q (.cells (rows.set i w).flatten 0 tip)):=by
 have K:=vz Y;have Z:i*z+z<=rows.flatten.length:=by
  rw[K];have:(i+1)*z<=rows.length*z:=vV z F;rw[ta]at this;exact this
 simp only[mD,C,S];show(if w.length=z/\0<=i*z/\i*z+z<=rows.flatten.length/\w.all AV.one=true then some (H.set q (.cells (splice rows.flatten (i*z) w) 0 tip))else none)=_;rw[au ⟨J,dx _,Z,h1⟩,GD J Y F]
def cJ.fT{n:Nat}{cs ws:qm}(h:cJ S n H cs ws)(I:n<=58):∃m u,iceV H m (.agg cs)=some u/\bW 60 u=.agg ws:=by
 obtain⟨Z,j,Y⟩:=h;have A:cV S 100 H (.agg cs) (.agg Z):=cV.up (n:=n+1) ⟨Z,j,rfl⟩ aa;obtain⟨U,M⟩:=cV.iceV A;refine⟨U,.agg Z,M U (aT _),?_⟩;show AV.agg (Z.map (bW 59))=_;rw[Y 59 aa]
def OI{ρ:Nat->Int}{l:qu}(K:eU prog ρ l){A:Type}(sz:A->Nat){f:FuncId}{ok:A->Prop}{enc:A->qm}{out:A->AV}(J:∀x,ok x->gg (enc x))
 (h:∀x,ok x->aU prog (aF pls (⟨f,false,bS (fun y=>ok y/\sz y<sz x) enc out⟩::l)) f (enc x) bV fun v H'=>∃m u,iceV H' m v=some u/\bW 60 u=out x):∀x,ok x->bJ prog ρ f (enc x) (out x):=by
 have F:∀n x,sz x<n->ok x->bJ prog ρ f (enc x) (out x):=by
  intro n;induction n with
  |zero=>intro x hx;omega
  |succ n ih=>
   intro x hx Z;exact F9 (cfg:=aF pls (⟨f,false,bS (fun y=>ok y/\sz y<sz x) enc out⟩::l)) fit (mL ρ) (fun g j r C=>eU.bS (l:=⟨f,false,bS (fun y=>ok y/\sz y<sz x) enc out⟩::l) ⟨cZ fun y hy=>ih y aa hy.1,K⟩ g j r C) (J x Z) (h x Z)
 exact fun x=>F (sz x+1) x (dq _)
def tyMu1.tyF:=ac @dF (ac @cI (ac @cY (ac @dW (ac @dX (ac @dy (@oV))))))
open tyMu1
noncomputable def OJ:{c:SC // aG 80 (f29.body.getD .skip)=c}:=by
 refine⟨?_,?_⟩;rotate_left
 .simp only[f29,bE,aG,bz,bq,bF,bB,Nat.blt,Nat.ble];rfl
def kg:Ex:=.mk 1 0 [] 0 []
def lR(l:qo)(n m:Int):qr:=l.getD (aZ n m).toNat []
def C3:qo:=[[120],[113],[97],[102],[],[105,102]]
mutual
def fH:Ex->Int->Int->Ex
 | .mk k n C o J,how,a=>
   if aZ how 9=0 then .mk (bA (aZ (bA (how.tdiv 9)) 8-1)) n C o J
   else if aZ how 9=1 then .mk k (aZ a 3) C o J
   else if aZ how 9=2 then .mk k n (lR C3 a 6) o J
   else if aZ how 9=3 then .mk k n C (aZ (bA (how.tdiv 9)) 40) J
   else if aZ how 9=4 then .mk k n C o (J++[kg])
   else if aZ how 9=5 then .mk k n C o []
   else if aZ how 9=6 then .mk k n C o (nn J (aZ a J.length).toNat (bA (how.tdiv 9)) (bA (a.tdiv 3)))
   else .mk k n C o J
def nn:qz->Nat->Int->Int->qz
 |[],_,_,_=>[]
 |x::l,0,how,a=>fH x how a::l
 |x::l,i+1,how,a=>x::nn l i how a
end
theorem OK:∀(l:qz) (i:Nat) (x:Ex) (V a:Int),l[i]?=some x->nn l i V a=l.set i (fH x V a)
 |[],i,x,_,_,h=>by simp at h
 |y::l,0,x,V,a,h=>by
  simp only[kW,aH]at h;subst h;rw[nn];rfl
 |y::l,i+1,x,V,a,h=>by
  rw[nn,OK l i x V a fQ];rfl
structure MuA where
 x:Ex
 how:Int
 a:Int
def py(y:MuA):qm:=[.agg y.x.cells,.int .i64 y.how,.int .i64 y.a]
def C4(x y:MuA)(h:py x=py y):x=y:=by
 obtain⟨a,b,c⟩:=x;obtain⟨z,b',Z⟩:=y;simp only[py,ew,AV.agg.injEq,AV.int.injEq,iw]at h;obtain⟨j,rfl,rfl⟩:=h;rw[Ex.inj j]
def OL(H:Hp):dc prog H 68 0 []=some (.sl H.next 0 0 5,H.alloc qc):=aA
def C5(H:Hp)(a b c d e f:qr):dc prog H 66 6 [(0,.ae a),(1,.ae b),(2,.ae c),(3,.ae d),(4,.ae e),(5,.ae f)]=some (.sl H.next 0 6 1,H.alloc (.cells ([a,b,c,d,e,f].map .ae) 0 true)):=aA
def xw:cQ prog 70 [(0,.int .i64 1)]=some (.agg [.int .i64 1,.int .i64 0,.ae [],.int .i64 0,.ab]):=aA
def GF(H:Hp)(a b c d e:AV):dc prog H 68 1 [(0,.agg [a,b,c,d,e])]=some (.sl H.next 0 1 5,H.alloc (.cells [a,b,c,d,e] 0 true)):=aA
def ug(r m:Nat)(I:0<=n)(h1:n.toNat<m):eS prog 66 (.sl r 0 m 1) (.int .i64 n)=some (.ptr r n.toNat):=by
 rw[EC _ _ _ _ I,mU h1];simp
def zbx(r m:Nat)(I:0<=n)(h1:n.toNat<m):eS prog 68 (.sl r 0 m 5) (.int .i64 n)=some (.ptr r (n.toNat*5)):=by
 rw[I5 _ _ _ _ I,mU h1];simp
theorem uh(l:qo)(h1:n.toNat<l.length):(l.map AV.ae)[n.toNat]?=some (.ae (l.getD n.toNat [])):=by
 rw[ev,iY,bt h1];rfl
theorem lS(a b c d e:AV):cH 5 [a,b,c,d,e]=some (.agg [a,b,c,d,e]):=rfl
def sF(k n op:Int)(nm:qr){kv:AV}{U:qz}(h:eR S (m+1) H kv (.ai (U.map Ex.cells)))(M:m<=57):∃Z u,iceV H Z (.agg [.int .i64 k,.int .i64 n,.ae nm,.int .i64 op,kv])=some u/\bW 60 u=.agg (Ex.mk k n nm op U).cells:=(tT k n op nm h).fT aa
noncomputable def GG:qu:=[pp]
def zby:eU prog ρ GG:=⟨w1 ρ,trivial⟩
abbrev ql:HB:=.cells [.int .i64 1,.int .i64 0,.ae [],.int .i64 0,.ab] 0 true
theorem zbz:∀y:MuA,y.x.sz<2^36->bJ prog ρ 29 (py y) (.agg (fH y.x y.how y.a).cells):=
 OI (zby ρ) (fun y=>y.x.sz) (ok:=fun y=>y.x.sz<2^36) (enc:=py) (out:=fun y=>.agg (fH y.x y.how y.a).cells) (fun y _=>.cons (.agg y.x.pure) (.cons (.int _ _) (.cons (.int _ _) .nil))) (fun y hx=>by
 have hw:=sa (sz:=fun y:MuA=>y.x.sz) (ok:=fun y=>y.x.sz<2^36) (out:=fun y=>.agg (fH y.x y.how y.a).cells) C4 (f:=29) (l:=GG) y;generalize hl:(⟨29,false,bS (fun z=>z.x.sz<2^36/\z.x.sz<y.x.sz) py fun y=>.agg (fH y.x y.how y.a).cells⟩:En)::GG=l at hw⊢;obtain⟨x,V,a⟩:=y;simp only at hx hl hw⊢;have kr:∀(y:Ex) (h b:Int),y.sz<x.sz->∀H,aU prog (aF pls l) 29 [.agg y.cells,.int .i64 h,.int .i64 b] H fun v H'=>v=.agg (fH y h b).cells/\H'=H:=fun y h b h2 H=>by
  subst hl;exact cp (enc:=py) (out:=fun y=>.agg (fH y.x y.how y.a).cells) C4 (x:=⟨y,h,b⟩) rfl ⟨show y.sz<2^36 by omega,h2⟩
 have kp:∀n m:Int,m≠0->∀H,aU prog (aF pls l) 25 [.int .i64 n,.int .i64 m] H fun v H'=>v=.int .i64 (aZ n m)/\H'=H:=fun n m h H=>by
  subst hl;exact cp (enc:=m7) (ok:=fun x=>x.2≠0) (out:=fun x=>.int .i64 (aZ x.1 x.2)) Cu (x:=(n,m)) rfl h
 have hkeep:(aF pls l).aj 29=false:=rfl;clear hl;have hsz:=x.aJ;have hlen:=lH x.ak;have hq:=fb (n:=V) (m:=9) aa aa;have h6:=fb (n:=a) (m:=6) aa aa;have h9:(9:Int)≠0:=cy;have h3:(3:Int)≠0:=cy;generalize j:fH x V a=R;obtain⟨k,n,C,U,J⟩:=x;rw[fH]at j;have e5:(Ex.mk k n C U J).cells=[.int .i64 k,.int .i64 n,.ae C,.int .i64 U,.ai (J.map Ex.cells)]:=rU;change aU _ _ _ [.agg (Ex.mk k n C U J).cells,.int .i64 V,.int .i64 a] _ _;change zds _ _ [.agg (Ex.mk k n C U J).cells,.int .i64 V,.int .i64 a]at hw;rw[e5]at hw⊢;clear e5;simp only[Ex.ak]at hsz hlen;have hn6:=uh C3 (n:=aZ a 6) CX;have hi6:=fun r=>ug r 6 h6.1 aa;have h60:=h6.1;have hb6:=fun H=>C5 H [120] [113] [97] [102] [] [105,102];change ∀H,dc _ H _ _ _=some (_,H.alloc (.cells (C3.map .ae) 0 true))at hb6;refine a5 (M:=80) (rs:=[.cell 6 70]) hw.call hw.ao hw.am func29 rfl rfl OJ.2 rfl ?_;dsimp only[OJ,a3,Nat.reduceAdd];have kpl:∀n:Int,(0:Int)<J.length->∀H,aU prog (aF pls l) 25 [.int .i64 n,.int .i64 (J.length:Int)] H fun v H'=>v=.int .i64 (aZ n J.length)/\H'=H:=fun n h H=>kp n _ aa H;have I:=@lS;have gh1:=@OL;have gh2:=@xw;have gh3:=@GF;repeat' (first
  |(apply ai ?_;clear hK K)|apply Ry.o ?_|apply bP ?_|(apply cU ?_;first|refine aY (kp _ _ cy _) ?_|refine aY (kpl _ aa _) ?_)|(apply a2 (fun hb hbp=>?_) (fun hb hbp=>?_)<;>try(cases hb;done))|apply ae ?_|(apply ah fun K hK=>?_)|(apply aq 18 [(1,12),(1,14),(4,12),(7,12)] fun K hK=>?_)|(apply aM ?_;try intro _)|(apply aR ?_ ?_<;>clear hK K)|apply aL ?_|apply bu rfl ?_|apply aj ?_|apply ak ?_|apply am ?_)
 .refine⟨aC,_,(by(try simp only[aK,aW,Nat.reduceBEq,Nat.reduceAdd,Nat.reduceLeDiff,tyF,bU,cc,lS, *]);first|done|with_reducible rfl),?_⟩;try simp only[aB]
  rw[au jh]at j;subst j;exact sF (S:=fun _=>True) (m:=0) _ _ _ _ (j6 J) aa
 .refine⟨aC,_,(by(try simp only[aK,aW,Nat.reduceBEq,Nat.reduceAdd,Nat.reduceLeDiff,tyF,bU,cc,lS, *]);first|done|with_reducible rfl),?_⟩;try simp only[aB]
  rw[ad aa,au aa]at j;subst j;exact sF (S:=fun _=>True) (m:=0) _ _ _ _ (j6 J) aa
 .refine⟨aC,_,(by(try simp only[aK,aW,Nat.reduceBEq,Nat.reduceAdd,Nat.reduceLeDiff,tyF,bU,cc,lS, *]);first|done|with_reducible rfl),?_⟩;try simp only[aB]
  rw[ad aa,ad aa,au aa]at j;subst j;exact sF (S:=fun _=>True) (m:=0) _ _ _ _ (j6 J) aa
 .refine⟨aC,_,(by(try simp only[aK,aW,Nat.reduceBEq,Nat.reduceAdd,Nat.reduceLeDiff,tyF,bU,cc,lS, *]);first|done|with_reducible rfl),?_⟩;try simp only[aB]
  rw[ad aa,ad aa,ad aa,au aa]at j;subst j;exact sF (S:=fun _=>True) (m:=0) _ _ _ _ (j6 J) aa
 .rw[ad aa,ad aa,ad aa,ad aa,au aa]at j;generalize Z:Hp.alloc (Hp.alloc (Hp.alloc bV _) _) _=F;have nb:F.next=3:=by rw[<-Z];rfl
  have g0:F.get 0=some (.cells [.int .i64 k,.int .i64 n,.ae C,.int .i64 U,.ai (J.map Ex.cells)] 0 true):=xp;have g1:F.get 1=some qe:=xp;have g2:F.get 2=some qc:=xp;clear Z;obtain⟨O,Y,bQ,gq,A,lq,n4,n4',o4⟩:=xu (P:=prog) (t:=68) underlying68 r0 uS uT rfl aA g2 aa (rows:=J.map Ex.cells) (zI J) (C2 J) jw jw;simp only[ec]at bQ;have h0:Y.get 0=some (.cells [.int .i64 k,.int .i64 n,.ae C,.int .i64 U,.ai (J.map Ex.cells)] 0 true):=xr;have h1:Y.get 1=some qe:=xt;have lo:2<=O:=aa;have n40:3<=Y.next:=aa
  clear nb g0 g1 g2 o4 n4 n4' A;have e2:(O == 0)=false:=ay aa;have e3:(0 == O)=false:=ay aa;have e4:(1 == O)=false:=ay aa;have e0:(0 == Y.next)=false:=ay aa;have e1:(1 == Y.next)=false:=ay aa;have I:=@xw;have gh1:=@GF;repeat' (first
   |(apply ai ?_;clear hK K)|apply Rx.o ?_|apply aN ?_|apply ae ?_|(apply ah fun K hK=>?_)|(apply aq 18 [(1,12),(1,14),(4,12),(7,12)] fun K hK=>?_)|(apply aM ?_;try intro _)|(apply aR ?_ ?_<;>clear hK K)|apply aL ?_|apply bu rfl ?_|apply aj ?_|apply ak ?_|apply am ?_)
  obtain⟨v5,H5,dt,s5,n5,f5,q5⟩:=xc (P:=prog) (t:=68) underlying68 r0 uS uT rfl aA (lo:=2) (n:=1) (H:=Y.alloc ql) (v:=.sl O 0 J.length 5) (ws:=J.map Ex.cells) (.inr ⟨O,0,J.map Ex.cells,zk,lo,bY,CZ,dx _,dT.eN J⟩) bY (r:=Y.next) (imm:=0) (row:=[.int .i64 1,.int .i64 0,.ae [],.int .i64 0,.ab]) (w:=kg.cells) fN rfl rfl (mr 1 0 0 []) jw jw;have h05:H5.get 0=some (.cells [.int .i64 k,.int .i64 n,.ae C,.int .i64 U,.ai (J.map Ex.cells)] 0 true):=C0;have h15:H5.get 1=some qe:=C1;obtain⟨t1,t2⟩:=s5.one;clear f5 q5 n5 h0 h1;have I:=@lS;repeat' (first
   |(apply ai ?_;clear hK K)|apply Rx.o ?_|apply aN ?_|apply ae ?_|(apply ah fun K hK=>?_)|(apply aq 18 [(1,12),(1,14),(4,12),(7,12)] fun K hK=>?_)|(apply aM ?_;try intro _)|(apply aR ?_ ?_<;>clear hK K)|apply aL ?_|apply bu rfl ?_|apply aj ?_|apply ak ?_|apply am ?_)
  refine⟨aC,_,(by(try simp only[aK,aW,Nat.reduceBEq,Nat.reduceAdd,Nat.reduceLeDiff,tyF,bU,cc,lS, *]);first|done|with_reducible rfl),?_⟩;try simp only[aB]
  subst j;refine sF (S:=fun k=>2<=k) (m:=1) _ _ _ _ ?_ aa;rw[kT];exact s5.rd.ax (fun _ _ h=>h) (aT _) fun k h1 h2=>tY
 .refine⟨aC,_,(by(try simp only[aK,aW,Nat.reduceBEq,Nat.reduceAdd,Nat.reduceLeDiff,tyF,bU,cc,lS, *]);first|done|with_reducible rfl),?_⟩;try simp only[aB]
  rw[ad aa,ad aa,ad aa,ad aa,ad aa,au aa]at j;subst j;exact sF (S:=fun _=>True) (m:=0) _ _ _ _ .ab aa
 .rw[ad aa,ad aa,ad aa,ad aa,ad aa,ad aa,au aa]at j;generalize Z:Hp.alloc (Hp.alloc (Hp.alloc bV _) _) _=F;have nb:F.next=3:=by rw[<-Z];rfl
  have g0:F.get 0=some (.cells [.int .i64 k,.int .i64 n,.ae C,.int .i64 U,.ai (J.map Ex.cells)] 0 true):=xp;have g1:F.get 1=some qe:=xp;have g2:F.get 2=some qc:=xp;clear Z;obtain⟨O,Y,bQ,gq,A,lq,n4,n4',o4⟩:=xu (P:=prog) (t:=68) underlying68 r0 uS uT rfl aA g2 aa (rows:=J.map Ex.cells) (zI J) (C2 J) jw jw;simp only[ec]at bQ;have h0:Y.get 0=some (.cells [.int .i64 k,.int .i64 n,.ae C,.int .i64 U,.ai (J.map Ex.cells)] 0 true):=xr;have h1:Y.get 1=some qe:=xt;have lo:2<=O:=aa;have n40:3<=Y.next:=aa
  clear nb g0 g1 g2 o4 n4 n4' A;have e2:(O == 0)=false:=ay aa;have e3:(0 == O)=false:=ay aa;have e4:(1 == O)=false:=ay aa;have e0:(0 == Y.next)=false:=ay aa;have e1:(1 == Y.next)=false:=ay aa;have hp:=fb (n:=a) (m:=J.length) aa aa;have hlt:(aZ a J.length).toNat<J.length:=aa;have hi5:eS prog 68 (.sl O 0 J.length 5) (.int .i64 (aZ a J.length))=some (.ptr O ((aZ a J.length).toNat*5)):=zbx O _ hp.1 hlt;obtain⟨y,hy⟩:∃y,J[(aZ a J.length).toNat]?=some y:=⟨_,bt hlt⟩;have hrow:(J.map Ex.cells)[(aZ a J.length).toNat]?=some y.cells:=by rw[ev,hy];rfl
  have hagg:=GE (zI J) hrow;have hsm:=lK (fq hy);have kr1:=fun H=>kr y (bA (V.tdiv 9)) (bA (a.tdiv 3)) (by show y.sz<1+C.length+cF J;omega) H;rw[OK _ _ _ _ _ hy]at j;have I:=@lS;repeat' (first
   |(apply ai ?_;clear hK K)|apply Rx.o ?_|apply aN ?_|(apply dJ ?_;first|refine aY (kr1 _) ?_)|apply ae ?_|(apply ah fun K hK=>?_)|(apply aq 18 [(1,12),(1,14),(4,12),(7,12)] fun K hK=>?_)|(apply aM ?_;try intro _)|(apply aR ?_ ?_<;>clear hK K)|apply aL ?_|apply bu rfl ?_|apply aj ?_|apply ak ?_|apply am ?_)
  refine wn dK dK (OH (rows:=J.map Ex.cells) r0 OD (zI J) (by rw[ec];exact hlt) (Ex.aN _) (Ex.one _)) ?_;have I:=@lS;repeat' (first
   |(apply ai ?_;clear hK K)|apply Rx.o ?_|apply aN ?_|apply ae ?_|(apply ah fun K hK=>?_)|(apply aq 18 [(1,12),(1,14),(4,12),(7,12)] fun K hK=>?_)|(apply aM ?_;try intro _)|(apply aR ?_ ?_<;>clear hK K)|apply aL ?_|apply bu rfl ?_|apply aj ?_|apply ak ?_|apply am ?_)
  .exact di
  refine⟨aC,_,(by(try simp only[aK,aW,Nat.reduceBEq,Nat.reduceAdd,Nat.reduceLeDiff,tyF,bU,cc,lS, *]);first|done|with_reducible rfl),?_⟩;try simp only[aB]
  subst j;refine sF (S:=fun k=>2<=k) (m:=1) _ _ _ _ ?_ aa;have hks:(J.map Ex.cells).set (aZ a J.length).toNat (fH y (bA (V.tdiv 9)) (bA (a.tdiv 3))).cells=(J.set (aZ a J.length).toNat (fH y (bA (V.tdiv 9)) (bA (a.tdiv 3)))).map Ex.cells:=uM.symm;have:=rt (S:=fun k=>2<=k) (n:=1) (z:=5) (tip:=true) (imm:=0) (r:=O) (H:=Hp.set (Hp.set (Hp.set Y 0 (.cells [.int .i64 k,.int .i64 n,.ae C,.int .i64 U,.sl O 0 J.length 5] 0 true)) O (.cells ((J.map Ex.cells).set (aZ a J.length).toNat (fH y (bA (V.tdiv 9)) (bA (a.tdiv 3))).cells).flatten 0 true)) 1 (.cells [.int .i64 k,.int .i64 n,.ae C,.int .i64 U,.sl O 0 J.length 5] 0 true)) (a:=(J.set (aZ a J.length).toNat (fH y (bA (V.tdiv 9)) (bA (a.tdiv 3)))).map Ex.cells) lo lq OE (dx _) (dT.eN _);rw[ec,Cm]at this;exact this
 .refine⟨aC,_,(by(try simp only[aK,aW,Nat.reduceBEq,Nat.reduceAdd,Nat.reduceLeDiff,tyF,bU,cc,lS, *]);first|done|with_reducible rfl),?_⟩;try simp only[aB]
  rw[ad aa,ad aa,ad aa,ad aa,ad aa,ad aa,au aa]at j;subst j;have hk0:J=[]:=AH aa;subst hk0;exact sF (S:=fun _=>True) (m:=0) _ _ _ _ (j6 []) aa
 .refine⟨aC,_,(by(try simp only[aK,aW,Nat.reduceBEq,Nat.reduceAdd,Nat.reduceLeDiff,tyF,bU,cc,lS, *]);first|done|with_reducible rfl),?_⟩;try simp only[aB]
  rw[ad aa,ad aa,ad aa,ad aa,ad aa,ad aa,ad aa]at j;subst j;exact sF (S:=fun _=>True) (m:=0) _ _ _ _ (j6 J) aa)
end
section
def tyMu2.tyF:=ac @dF (ac @cI (ac @cY (ac @pQ (ac @dW (ac @dR (ac @dX (ac @dy (ac @eD (ac @oV (ac @OL (ac @xw (@GF))))))))))))
open tyMu2
noncomputable def OM:{c:SC // aG 125 (f30.body.getD .skip)=c}:=by
 refine⟨?_,?_⟩;rotate_left
 .simp only[f30,bE,aG,bz,bq,bF,bB,Nat.blt,Nat.ble];rfl
def zJ(l:qt):∀x∈l.map St.cells,x.length=17:=fun r hr=>by
 obtain⟨a,_,rfl⟩:=l3.1 hr;exact a.aN
theorem C6:∀l:qt,(l.map St.cells).flatten.all AV.one=true
 |[]=>rfl
 |a::l=>by rw[el,iI,wa,a.one,C6 l];rfl
theorem dT.eO{S:Nat->Prop}{n:Nat}{H:Hp}:∀l:qt,dT S (n+1) H 17 (l.map St.cells) (l.map St.cells)
 |[]=>trivial
 |a::l=>⟨⟨a.aN,cJ.st a⟩,dT.eO l⟩
def C7:qo:=[[120],[113],[97],[102],[],[116,114,97,112]]
def C8:qo:=[[102],[103],[104],[],[97]]
def GH:qp:=[0,1,-1,1000000,1000001]
def kJ(n:Int):St:=.mk 7 [] [] n eI eI [] [] []
mutual
def iQ:St->Int->Int->St
 | .mk k C S n e v j z A,how,a=>
   if aZ how 13=0 then .mk (bA (aZ (bA (how.tdiv 13)) 10-1)) C S n e v j z A
   else if aZ how 13=1 then .mk k (lR C7 a 6) S n e v j z A
   else if aZ how 13=2 then .mk k C (lR C8 a 5) n e v j z A
   else if aZ how 13=3 then .mk k C S (GH.getD (aZ a 5).toNat 0) e v j z A
   else if aZ how 13=4 then .mk k C S n (fH e (bA (how.tdiv 13)) a) v j z A
   else if aZ how 13=5 then .mk k C S n e (fH v (bA (how.tdiv 13)) a) j z A
   else if aZ how 13=6 then .mk k C S n e v (j++[kg]) z A
   else if aZ how 13=7 then .mk k C S n e v [] z A
   else if aZ how 13=8 then .mk k C S n e v j z (A++[kJ 0])
   else if aZ how 13=9 then .mk k C S n e v j (z++[kJ (aZ a 3)]) A
   else if aZ how 13=10 then .mk k C S n e v j (nr z (aZ a z.length).toNat (bA (how.tdiv 13)) (bA (a.tdiv 3))) A
   else .mk k C S n e v j z A
def nr:qt->Nat->Int->Int->qt
 |[],_,_,_=>[]
 |x::l,0,how,a=>iQ x how a::l
 |x::l,i+1,how,a=>x::nr l i how a
end
theorem ON:∀(l:qt) (i:Nat) (x:St) (V a:Int),l[i]?=some x->nr l i V a=l.set i (iQ x V a)
 |[],i,x,_,_,h=>by simp at h
 |y::l,0,x,V,a,h=>by
  simp only[kW,aH]at h;subst h;rw[nr];rfl
 |y::l,i+1,x,V,a,h=>by
  rw[nr,ON l i x V a fQ];rfl
structure MuB where
 x:St
 how:Int
 a:Int
def rE(y:MuB):qm:=[.agg y.x.cells,.int .i64 y.how,.int .i64 y.a]
def GI(x y:MuB)(h:rE x=rE y):x=y:=by
 obtain⟨a,b,c⟩:=x;obtain⟨z,b',Z⟩:=y;simp only[rE,ew,AV.agg.injEq,AV.int.injEq,iw]at h;obtain⟨j,rfl,rfl⟩:=h;rw[St.inj j]
noncomputable def zK:En:=⟨29,true,bS (fun y=>y.x.sz<2^36) py fun y=>.agg (fH y.x y.how y.a).cells⟩
def OO:cS prog ρ zK:=cZ fun y hy=>zbz ρ y hy
noncomputable def GJ:qu:=[pp,zK]
def zbA:eU prog ρ GJ:=⟨w1 ρ,OO ρ,trivial⟩
def GK(H:Hp)(a b c d e:qr):dc prog H 66 5 [(0,.ae a),(1,.ae b),(2,.ae c),(3,.ae d),(4,.ae e)]=some (.sl H.next 0 5 1,H.alloc (.cells ([a,b,c,d,e].map .ae) 0 true)):=aA
def zbB(H:Hp)(a b c d e:Int):dc prog H 26 5 [(0,.int .i64 a),(1,.int .i64 b),(2,.int .i64 c),(3,.int .i64 d),(4,.int .i64 e)]=some (.sl H.next 0 5 1,H.alloc (.cells ([a,b,c,d,e].map (.int .i64)) 0 true)):=aA
def zbC(r m:Nat)(I:0<=n)(h1:n.toNat<m):eS prog 26 (.sl r 0 m 1) (.int .i64 n)=some (.ptr r n.toNat):=by
 rw[Ey _ _ _ _ I,mU h1];simp
def OP(r m:Nat)(I:0<=n)(h1:n.toNat<m):eS prog 67 (.sl r 0 m 17) (.int .i64 n)=some (.ptr r (n.toNat*17)):=by
 rw[I4 _ _ _ _ I,mU h1];simp
theorem zbD(l:qp)(h1:n.toNat<l.length):(l.map (AV.int .i64))[n.toNat]?=some (.int .i64 (l.getD n.toNat 0)):=by
 rw[ev,iY,bt h1];rfl
def OQ(H:Hp):dc prog H 67 0 []=some (.sl H.next 0 0 17,H.alloc qc):=aA
def OR:cQ prog 78 [(0,.int .i64 7)]=some (.agg [.int .i64 7,.ae [],.ae [],.int .i64 0,.int .i64 0,.int .i64 0,.ae [],.int .i64 0,.ab,.int .i64 0,.int .i64 0,.ae [],.int .i64 0,.ab,.ab,.ab,.ab]):=aA
def OS(n:Int):cQ prog 78 [(0,.int .i64 7),(3,.int .i64 n)]=some (.agg [.int .i64 7,.ae [],.ae [],.int .i64 n,.int .i64 0,.int .i64 0,.ae [],.int .i64 0,.ab,.int .i64 0,.int .i64 0,.ae [],.int .i64 0,.ab,.ab,.ab,.ab]):=aA
def zL(H:Hp)(c0 c1 c2 c3 c4 c5 c6 c7 U Z Y I J V S C O:AV):dc prog H 67 1 [(0,.agg [c0,c1,c2,c3,c4,c5,c6,c7,U,Z,Y,I,J,V,S,C,O])]=some (.sl H.next 0 1 17,H.alloc (.cells [c0,c1,c2,c3,c4,c5,c6,c7,U,Z,Y,I,J,V,S,C,O] 0 true)):=aA
theorem jK(c0 c1 c2 c3 c4 c5 c6 c7 U Z Y I J V S C O:AV):cH 17 [c0,c1,c2,c3,c4,c5,c6,c7,U,Z,Y,I,J,V,S,C,O]=some (.agg [c0,c1,c2,c3,c4,c5,c6,c7,U,Z,Y,I,J,V,S,C,O]):=rfl
theorem zbE(c0 c1 c2 c3 c4 c5 c6 c7 U Z Y I J V S C O:AV):cH 5 (List.drop 4 [c0,c1,c2,c3,c4,c5,c6,c7,U,Z,Y,I,J,V,S,C,O])=some (.agg [c4,c5,c6,c7,U]):=rfl
theorem zbF(c0 c1 c2 c3 c4 c5 c6 c7 U Z Y I J V S C O:AV):cH 5 (List.drop 9 [c0,c1,c2,c3,c4,c5,c6,c7,U,Z,Y,I,J,V,S,C,O])=some (.agg [Z,Y,I,J,V]):=rfl
theorem zbG(c4 c5 c6 c7 U Z Y I J V S C O:AV):cH 5 [c4,c5,c6,c7,U,Z,Y,I,J,V,S,C,O]=some (.agg [c4,c5,c6,c7,U]):=rfl
theorem zbH(Z Y I J V U C S:AV):cH 5 [Z,Y,I,J,V,U,C,S]=some (.agg [Z,Y,I,J,V]):=rfl
def GL{n:Nat}(e:Ex):cJ S (n+1) H [.int .i64 e.ag,.int .i64 e.n,.ae e.name,.int .i64 e.op,.ai (e.ak.map Ex.cells)] e.cells:=by
 cases e;exact tT _ _ _ _ (j6 _)
def nu(k n:Int)(nm Z:qr)(e v:Ex){Y K:AV}{j:qz}{z A:qt}(h1:eR S (m+1) H Y (.ai (j.map Ex.cells)))(h2:eR S (m+1) H K (.ai (z.map St.cells)))(V:eR S (m+1) H M (.ai (A.map St.cells)))(O:m<=57):
 ∃U u,iceV H U (.agg [.int .i64 k,.ae nm,.ae Z,.int .i64 n,.int .i64 e.ag,.int .i64 e.n,.ae e.name,.int .i64 e.op,.ai (e.ak.map Ex.cells),.int .i64 v.ag,.int .i64 v.n,.ae v.name,.int .i64 v.op,.ai (v.ak.map Ex.cells),Y,K,M])=some u/\bW 60 u=.agg (St.mk k nm Z n e v j z A).cells:=
 (ni k nm Z n (GL e) (GL v) h1 h2 V).fT aa
theorem zbI:∀y:MuB,y.x.sz<2^36->bJ prog ρ 30 (rE y) (.agg (iQ y.x y.how y.a).cells):=
 OI (zbA ρ) (fun y=>y.x.sz) (ok:=fun y=>y.x.sz<2^36) (enc:=rE) (out:=fun y=>.agg (iQ y.x y.how y.a).cells) (fun y _=>.cons (.agg y.x.pure) (.cons (.int _ _) (.cons (.int _ _) .nil))) (fun y hx=>by
 have hw:=sa (sz:=fun y:MuB=>y.x.sz) (ok:=fun y=>y.x.sz<2^36) (out:=fun y=>.agg (iQ y.x y.how y.a).cells) GI (f:=30) (l:=GJ) y;generalize hl:(⟨30,false,bS (fun z=>z.x.sz<2^36/\z.x.sz<y.x.sz) rE fun y=>.agg (iQ y.x y.how y.a).cells⟩:En)::GJ=l at hw⊢;obtain⟨x,U,a⟩:=y;simp only at hx hl hw⊢;have kr:∀(y:St) (h b:Int),y.sz<x.sz->∀H,aU prog (aF pls l) 30 [.agg y.cells,.int .i64 h,.int .i64 b] H fun v H'=>v=.agg (iQ y h b).cells/\H'=H:=fun y h b h2 H=>by
  subst hl;exact cp (enc:=rE) (out:=fun y=>.agg (iQ y.x y.how y.a).cells) GI (x:=⟨y,h,b⟩) rfl ⟨show y.sz<2^36 by omega,h2⟩
 have ke:∀(y:Ex) (h b:Int),y.sz<2^36->∀H,aU prog (aF pls l) 29 [.agg [.int .i64 y.ag,.int .i64 y.n,.ae y.name,.int .i64 y.op,.ai (y.ak.map Ex.cells)],.int .i64 h,.int .i64 b] H fun v H'=>v=.agg [.int .i64 (fH y h b).ag,.int .i64 (fH y h b).n,.ae (fH y h b).name,.int .i64 (fH y h b).op,.ai ((fH y h b).ak.map Ex.cells)]/\H'=H:=fun y h b h2 H=>by
  rw[<-jm,<-jm];subst hl;exact cp (enc:=py) (out:=fun y=>.agg (fH y.x y.how y.a).cells) C4 (x:=⟨y,h,b⟩) rfl h2
 have kp:∀n m:Int,m≠0->∀H,aU prog (aF pls l) 25 [.int .i64 n,.int .i64 m] H fun v H'=>v=.int .i64 (aZ n m)/\H'=H:=fun n m h H=>by
  subst hl;exact cp (enc:=m7) (ok:=fun x=>x.2≠0) (out:=fun x=>.int .i64 (aZ x.1 x.2)) Cu (x:=(n,m)) rfl h
 have hkeep:(aF pls l).aj 30=false:=rfl;clear hl;have hsz:=x.aJ;have hlen:=lH x.args;have hlen2:=mS x.a1;have hlen3:=mS x.bh;have hq:=fb (n:=U) (m:=13) aa aa;have h6:=fb (n:=a) (m:=6) aa aa;have h5:=fb (n:=a) (m:=5) aa aa;have h13:(13:Int)≠0:=cy;have h3:(3:Int)≠0:=cy;generalize V:iQ x U a=R;obtain⟨k,C,F,n,e,v,j,Z,A⟩:=x;rw[iQ]at V;have e17:(St.mk k C F n e v j Z A).cells=[.int .i64 k,.ae C,.ae F,.int .i64 n,.int .i64 e.ag,.int .i64 e.n,.ae e.name,.int .i64 e.op,.ai (e.ak.map Ex.cells),.int .i64 v.ag,.int .i64 v.n,.ae v.name,.int .i64 v.op,.ai (v.ak.map Ex.cells),.ai (j.map Ex.cells),.ai (Z.map St.cells),.ai (A.map St.cells)]:=jk;change aU _ _ _ [.agg (St.mk k C F n e v j Z A).cells,.int .i64 U,.int .i64 a] _ _;change zds _ _ [.agg (St.mk k C F n e v j Z A).cells,.int .i64 U,.int .i64 a]at hw;rw[e17]at hw⊢;clear e17;simp only[St.args,St.a1,St.bh]at hsz hlen hlen2 hlen3;have hse:e.sz<2^36:=by simp only[St.sz]at hx;omega
 have hsv:v.sz<2^36:=by simp only[St.sz]at hx;omega
 have hn1:=uh C7 (n:=aZ a 6) CX;have hn2:=uh C8 (n:=aZ a 5) CY;have hn3:=zbD GH (n:=aZ a 5) CY;have hi6:=fun r=>ug r 6 h6.1 aa;have hi5:=fun r=>ug r 5 h5.1 aa;have hi5':=fun r=>zbC r 5 h5.1 aa;have h60:=h6.1;have h50:=h5.1;have hb6:=fun H=>C5 H [120] [113] [97] [102] [] [116,114,97,112];change ∀H,dc _ H _ _ _=some (_,H.alloc (.cells (C7.map .ae) 0 true))at hb6;have hb5:=fun H=>GK H [102] [103] [104] [] [97];change ∀H,dc _ H _ _ _=some (_,H.alloc (.cells (C8.map .ae) 0 true))at hb5;have hb5':=fun H=>zbB H 0 1 (-1) 1000000 1000001;change ∀H,dc _ H _ _ _=some (_,H.alloc (.cells (GH.map (.int .i64)) 0 true))at hb5';have kpl:∀n:Int,(0:Int)<Z.length->∀H,aU prog (aF pls l) 25 [.int .i64 n,.int .i64 (Z.length:Int)] H fun v H'=>v=.int .i64 (aZ n Z.length)/\H'=H:=fun n h H=>kp n _ aa H;refine a5 (M:=125) (rs:=[.cell 6 78]) hw.call hw.ao hw.am func30 rfl rfl OM.2 rfl ?_;dsimp only[OM,a3,Nat.reduceAdd];have gh0:=@jK;have gh1:=@zbE;have gh2:=@zbF;have gh3:=@zbG;have gh4:=@zbH;have gh5:=@OQ;have gh6:=@OR;have gh7:=@OS;have gh8:=@zL;repeat' (first
  |(apply ai ?_;clear hK K)|apply Ry.o ?_|apply bP ?_|(apply cU ?_;first|refine aY (kp _ _ cy _) ?_|refine aY (kpl _ aa _) ?_|refine aY (ke e _ _ hse _) ?_|refine aY (ke v _ _ hsv _) ?_)|(apply a2 (fun hb hbp=>?_) (fun hb hbp=>?_)<;>try(cases hb;done))|apply ae ?_|(apply ah fun K hK=>?_)|(apply aq 26 [(1,12),(1,14),(4,12),(7,12)] fun K hK=>?_)|(apply aM ?_;try intro _)|(apply aR ?_ ?_<;>clear hK K)|apply aL ?_|apply bu rfl ?_|apply aj ?_|apply ak ?_|apply am ?_)
 .refine⟨aC,_,(by(try simp only[aK,aW,Nat.reduceBEq,Nat.reduceAdd,Nat.reduceLeDiff,tyF,bU,cc,jK, *]);first|done|with_reducible rfl),?_⟩;try simp only[aB]
  rw[au aa]at V;subst V;exact nu (S:=fun _=>True) (m:=0) _ _ _ _ e v (j6 j) (iD Z) (iD A) aa
 .refine⟨aC,_,(by(try simp only[aK,aW,Nat.reduceBEq,Nat.reduceAdd,Nat.reduceLeDiff,tyF,bU,cc,jK, *]);first|done|with_reducible rfl),?_⟩;try simp only[aB]
  rw[ad aa,au aa]at V;subst V;exact nu (S:=fun _=>True) (m:=0) _ _ _ _ e v (j6 j) (iD Z) (iD A) aa
 .refine⟨aC,_,(by(try simp only[aK,aW,Nat.reduceBEq,Nat.reduceAdd,Nat.reduceLeDiff,tyF,bU,cc,jK, *]);first|done|with_reducible rfl),?_⟩;try simp only[aB]
  rw[ad aa,ad aa,au aa]at V;subst V;exact nu (S:=fun _=>True) (m:=0) _ _ _ _ e v (j6 j) (iD Z) (iD A) aa
 .refine⟨aC,_,(by(try simp only[aK,aW,Nat.reduceBEq,Nat.reduceAdd,Nat.reduceLeDiff,tyF,bU,cc,jK, *]);first|done|with_reducible rfl),?_⟩;try simp only[aB]
  rw[ad aa,ad aa,ad aa,au aa]at V;subst V;exact nu (S:=fun _=>True) (m:=0) _ _ _ _ e v (j6 j) (iD Z) (iD A) aa
 .refine⟨aC,_,(by(try simp only[aK,aW,Nat.reduceBEq,Nat.reduceAdd,Nat.reduceLeDiff,tyF,bU,cc,jK, *]);first|done|with_reducible rfl),?_⟩;try simp only[aB]
  rw[ad aa,ad aa,ad aa,ad aa,au aa]at V;subst V;exact nu (S:=fun _=>True) (m:=0) _ _ _ _ (fH e (bA (U.tdiv 13)) a) v (j6 j) (iD Z) (iD A) aa
 .refine⟨aC,_,(by(try simp only[aK,aW,Nat.reduceBEq,Nat.reduceAdd,Nat.reduceLeDiff,tyF,bU,cc,jK, *]);first|done|with_reducible rfl),?_⟩;try simp only[aB]
  rw[ad aa,ad aa,ad aa,ad aa,ad aa,au aa]at V;subst V;exact nu (S:=fun _=>True) (m:=0) _ _ _ _ e (fH v (bA (U.tdiv 13)) a) (j6 j) (iD Z) (iD A) aa
 .rw[ad aa,ad aa,ad aa,ad aa,ad aa,ad aa,au aa]at V;generalize J:Hp.alloc (Hp.alloc (Hp.alloc bV _) _) _=I;have nb:I.next=3:=tM
  have g0:I.get 0=some (.cells [.int .i64 k,.ae C,.ae F,.int .i64 n,.int .i64 e.ag,.int .i64 e.n,.ae e.name,.int .i64 e.op,.ai (e.ak.map Ex.cells),.int .i64 v.ag,.int .i64 v.n,.ae v.name,.int .i64 v.op,.ai (v.ak.map Ex.cells),.ai (j.map Ex.cells),.ai (Z.map St.cells),.ai (A.map St.cells)] 0 true):=oF;have g1:I.get 1=some qd:=oF;have g2:I.get 2=some qc:=oF;clear J;obtain⟨O,Y,bQ,gq,hq',lq,n4,n4',o4⟩:=xu (P:=prog) (t:=68) underlying68 r0 uS uT rfl aA g2 aa (rows:=j.map Ex.cells) (zI j) (C2 j) jw jw;simp only[ec]at bQ;have h0:Y.get 0=some (.cells [.int .i64 k,.ae C,.ae F,.int .i64 n,.int .i64 e.ag,.int .i64 e.n,.ae e.name,.int .i64 e.op,.ai (e.ak.map Ex.cells),.int .i64 v.ag,.int .i64 v.n,.ae v.name,.int .i64 v.op,.ai (v.ak.map Ex.cells),.ai (j.map Ex.cells),.ai (Z.map St.cells),.ai (A.map St.cells)] 0 true):=xr;have h1:Y.get 1=some qd:=xt;have lo:2<=O:=aa;have n40:3<=Y.next:=aa
  clear nb g0 g1 g2 o4 n4 n4' hq';have e2:(O == 0)=false:=ay aa;have e3:(0 == O)=false:=ay aa;have e4:(1 == O)=false:=ay aa;have e0:(0 == Y.next)=false:=ay aa;have e1:(1 == Y.next)=false:=ay aa;repeat' (first
   |(apply ai ?_;clear hK K)|apply Rx.o ?_|apply aN ?_|apply ae ?_|(apply ah fun K hK=>?_)|(apply aq 26 [(1,12),(1,14),(4,12),(7,12)] fun K hK=>?_)|(apply aM ?_;try intro _)|(apply aR ?_ ?_<;>clear hK K)|apply aL ?_|apply bu rfl ?_|apply aj ?_|apply ak ?_|apply am ?_)
  obtain⟨v5,H5,dt,s5,n5,f5,q5⟩:=xc (P:=prog) (t:=68) underlying68 r0 uS uT rfl aA (lo:=2) (n:=1) (H:=Y.alloc ql) (v:=.sl O 0 j.length 5) (ws:=j.map Ex.cells) (.inr ⟨O,0,j.map Ex.cells,zk,lo,bY,CZ,dx _,dT.eN j⟩) bY (r:=Y.next) (imm:=0) (row:=[.int .i64 1,.int .i64 0,.ae [],.int .i64 0,.ab]) (w:=kg.cells) fN rfl rfl (mr 1 0 0 []) jw jw;have h05:H5.get 0=some (.cells [.int .i64 k,.ae C,.ae F,.int .i64 n,.int .i64 e.ag,.int .i64 e.n,.ae e.name,.int .i64 e.op,.ai (e.ak.map Ex.cells),.int .i64 v.ag,.int .i64 v.n,.ae v.name,.int .i64 v.op,.ai (v.ak.map Ex.cells),.ai (j.map Ex.cells),.ai (Z.map St.cells),.ai (A.map St.cells)] 0 true):=C0;have h15:H5.get 1=some qd:=C1;obtain⟨t1,t2⟩:=s5.one;clear f5 q5 n5 h0 h1;have gh0:=@jK;repeat' (first
   |(apply ai ?_;clear hK K)|apply Rx.o ?_|apply aN ?_|apply ae ?_|(apply ah fun K hK=>?_)|(apply aq 26 [(1,12),(1,14),(4,12),(7,12)] fun K hK=>?_)|(apply aM ?_;try intro _)|(apply aR ?_ ?_<;>clear hK K)|apply aL ?_|apply bu rfl ?_|apply aj ?_|apply ak ?_|apply am ?_)
  refine⟨aC,_,(by(try simp only[aK,aW,Nat.reduceBEq,Nat.reduceAdd,Nat.reduceLeDiff,tyF,bU,cc,jK, *]);first|done|with_reducible rfl),?_⟩;try simp only[aB]
  subst V;refine nu (S:=fun k=>2<=k) (m:=1) _ _ _ _ e v ?_ (iD Z) (iD A) aa;rw[kT];exact s5.rd.ax (fun _ _ h=>h) (aT _) fun k h1 h2=>tY
 .refine⟨aC,_,(by(try simp only[aK,aW,Nat.reduceBEq,Nat.reduceAdd,Nat.reduceLeDiff,tyF,bU,cc,jK, *]);first|done|with_reducible rfl),?_⟩;try simp only[aB]
  rw[ad aa,ad aa,ad aa,ad aa,ad aa,ad aa,ad aa,au aa]at V;subst V;exact nu (S:=fun _=>True) (m:=0) _ _ _ _ e v .ab (iD Z) (iD A) aa
 .rw[ad aa,ad aa,ad aa,ad aa,ad aa,ad aa,ad aa,ad aa,au aa]at V;generalize J:Hp.alloc (Hp.alloc (Hp.alloc bV _) _) _=I;have nb:I.next=3:=tM
  have g0:I.get 0=some (.cells [.int .i64 k,.ae C,.ae F,.int .i64 n,.int .i64 e.ag,.int .i64 e.n,.ae e.name,.int .i64 e.op,.ai (e.ak.map Ex.cells),.int .i64 v.ag,.int .i64 v.n,.ae v.name,.int .i64 v.op,.ai (v.ak.map Ex.cells),.ai (j.map Ex.cells),.ai (Z.map St.cells),.ai (A.map St.cells)] 0 true):=oF;have g1:I.get 1=some qd:=oF;have g2:I.get 2=some qc:=oF;clear J;obtain⟨O,Y,bQ,gq,hq',lq,n4,n4',o4⟩:=xu (P:=prog) (t:=67) underlying67 oY r1 uU rfl aA g2 aa (rows:=A.map St.cells) (zJ A) (C6 A) jw jw;simp only[ec]at bQ;have h0:Y.get 0=some (.cells [.int .i64 k,.ae C,.ae F,.int .i64 n,.int .i64 e.ag,.int .i64 e.n,.ae e.name,.int .i64 e.op,.ai (e.ak.map Ex.cells),.int .i64 v.ag,.int .i64 v.n,.ae v.name,.int .i64 v.op,.ai (v.ak.map Ex.cells),.ai (j.map Ex.cells),.ai (Z.map St.cells),.ai (A.map St.cells)] 0 true):=xr;have h1:Y.get 1=some qd:=xt;have lo:2<=O:=aa;have n40:3<=Y.next:=aa
  clear nb g0 g1 g2 o4 n4 n4' hq';have e2:(O == 0)=false:=ay aa;have e3:(0 == O)=false:=ay aa;have e4:(1 == O)=false:=ay aa;have e0:(0 == Y.next)=false:=ay aa;have e1:(1 == Y.next)=false:=ay aa;have gh0:=@OR;have gh1:=@zL;repeat' (first
   |(apply ai ?_;clear hK K)|apply Rx.o ?_|apply aN ?_|apply ae ?_|(apply ah fun K hK=>?_)|(apply aq 26 [(1,12),(1,14),(4,12),(7,12)] fun K hK=>?_)|(apply aM ?_;try intro _)|(apply aR ?_ ?_<;>clear hK K)|apply aL ?_|apply bu rfl ?_|apply aj ?_|apply ak ?_|apply am ?_)
  obtain⟨v5,H5,dt,s5,n5,f5,q5⟩:=xc (P:=prog) (t:=67) underlying67 oY r1 uU rfl aA (lo:=2) (n:=1) (H:=Y.alloc (.cells [.int .i64 7,.ae [],.ae [],.int .i64 0,.int .i64 0,.int .i64 0,.ae [],.int .i64 0,.ab,.int .i64 0,.int .i64 0,.ae [],.int .i64 0,.ab,.ab,.ab,.ab] 0 true)) (v:=.sl O 0 A.length 17) (ws:=A.map St.cells) (.inr ⟨O,0,A.map St.cells,zk,lo,bY,CZ,dx _,dT.eO A⟩) bY (r:=Y.next) (imm:=0) (row:=[.int .i64 7,.ae [],.ae [],.int .i64 0,.int .i64 0,.int .i64 0,.ae [],.int .i64 0,.ab,.int .i64 0,.int .i64 0,.ae [],.int .i64 0,.ab,.ab,.ab,.ab]) (w:=(kJ 0).cells) fN rfl rfl (ni 7 [] [] 0 lQ lQ .ab .ab .ab) jw jw;have h05:H5.get 0=some (.cells [.int .i64 k,.ae C,.ae F,.int .i64 n,.int .i64 e.ag,.int .i64 e.n,.ae e.name,.int .i64 e.op,.ai (e.ak.map Ex.cells),.int .i64 v.ag,.int .i64 v.n,.ae v.name,.int .i64 v.op,.ai (v.ak.map Ex.cells),.ai (j.map Ex.cells),.ai (Z.map St.cells),.ai (A.map St.cells)] 0 true):=C0;have h15:H5.get 1=some qd:=C1;obtain⟨t1,t2⟩:=s5.one;clear f5 q5 n5 h0 h1;have gh0:=@jK;repeat' (first
   |(apply ai ?_;clear hK K)|apply Rx.o ?_|apply aN ?_|apply ae ?_|(apply ah fun K hK=>?_)|(apply aq 26 [(1,12),(1,14),(4,12),(7,12)] fun K hK=>?_)|(apply aM ?_;try intro _)|(apply aR ?_ ?_<;>clear hK K)|apply aL ?_|apply bu rfl ?_|apply aj ?_|apply ak ?_|apply am ?_)
  refine⟨aC,_,(by(try simp only[aK,aW,Nat.reduceBEq,Nat.reduceAdd,Nat.reduceLeDiff,tyF,bU,cc,jK, *]);first|done|with_reducible rfl),?_⟩;try simp only[aB]
  subst V;refine nu (S:=fun k=>2<=k) (m:=1) _ _ _ _ e v ((j6 (n:=1) j)) (iD Z) ?_ aa;rw[kT];exact s5.rd.ax (fun _ _ h=>h) (aT _) fun k h1 h2=>tY
 .rw[ad aa,ad aa,ad aa,ad aa,ad aa,ad aa,ad aa,ad aa,ad aa,au aa]at V;generalize J:Hp.alloc (Hp.alloc (Hp.alloc bV _) _) _=I;have nb:I.next=3:=tM
  have g0:I.get 0=some (.cells [.int .i64 k,.ae C,.ae F,.int .i64 n,.int .i64 e.ag,.int .i64 e.n,.ae e.name,.int .i64 e.op,.ai (e.ak.map Ex.cells),.int .i64 v.ag,.int .i64 v.n,.ae v.name,.int .i64 v.op,.ai (v.ak.map Ex.cells),.ai (j.map Ex.cells),.ai (Z.map St.cells),.ai (A.map St.cells)] 0 true):=oF;have g1:I.get 1=some qd:=oF;have g2:I.get 2=some qc:=oF;clear J;obtain⟨O,Y,bQ,gq,hq',lq,n4,n4',o4⟩:=xu (P:=prog) (t:=67) underlying67 oY r1 uU rfl aA g2 aa (rows:=Z.map St.cells) (zJ Z) (C6 Z) jw jw;simp only[ec]at bQ;have h0:Y.get 0=some (.cells [.int .i64 k,.ae C,.ae F,.int .i64 n,.int .i64 e.ag,.int .i64 e.n,.ae e.name,.int .i64 e.op,.ai (e.ak.map Ex.cells),.int .i64 v.ag,.int .i64 v.n,.ae v.name,.int .i64 v.op,.ai (v.ak.map Ex.cells),.ai (j.map Ex.cells),.ai (Z.map St.cells),.ai (A.map St.cells)] 0 true):=xr;have h1:Y.get 1=some qd:=xt;have lo:2<=O:=aa;have n40:3<=Y.next:=aa
  clear nb g0 g1 g2 o4 n4 n4' hq';have e2:(O == 0)=false:=ay aa;have e3:(0 == O)=false:=ay aa;have e4:(1 == O)=false:=ay aa;have e0:(0 == Y.next)=false:=ay aa;have e1:(1 == Y.next)=false:=ay aa;have gh0:=@OS;have gh1:=@zL;repeat' (first
   |(apply ai ?_;clear hK K)|apply Rx.o ?_|apply aN ?_|(apply dJ ?_;first|refine aY (kp _ _ cy _) ?_)|apply ae ?_|(apply ah fun K hK=>?_)|(apply aq 26 [(1,12),(1,14),(4,12),(7,12)] fun K hK=>?_)|(apply aM ?_;try intro _)|(apply aR ?_ ?_<;>clear hK K)|apply aL ?_|apply bu rfl ?_|apply aj ?_|apply ak ?_|apply am ?_)
  obtain⟨v5,H5,dt,s5,n5,f5,q5⟩:=xc (P:=prog) (t:=67) underlying67 oY r1 uU rfl aA (lo:=2) (n:=1) (H:=Y.alloc (.cells [.int .i64 7,.ae [],.ae [],.int .i64 (aZ a 3),.int .i64 0,.int .i64 0,.ae [],.int .i64 0,.ab,.int .i64 0,.int .i64 0,.ae [],.int .i64 0,.ab,.ab,.ab,.ab] 0 true)) (v:=.sl O 0 Z.length 17) (ws:=Z.map St.cells) (.inr ⟨O,0,Z.map St.cells,zk,lo,bY,CZ,dx _,dT.eO Z⟩) bY (r:=Y.next) (imm:=0) (row:=[.int .i64 7,.ae [],.ae [],.int .i64 (aZ a 3),.int .i64 0,.int .i64 0,.ae [],.int .i64 0,.ab,.int .i64 0,.int .i64 0,.ae [],.int .i64 0,.ab,.ab,.ab,.ab]) (w:=(kJ (aZ a 3)).cells) fN rfl rfl (ni 7 [] [] (aZ a 3) lQ lQ .ab .ab .ab) jw jw;have h05:H5.get 0=some (.cells [.int .i64 k,.ae C,.ae F,.int .i64 n,.int .i64 e.ag,.int .i64 e.n,.ae e.name,.int .i64 e.op,.ai (e.ak.map Ex.cells),.int .i64 v.ag,.int .i64 v.n,.ae v.name,.int .i64 v.op,.ai (v.ak.map Ex.cells),.ai (j.map Ex.cells),.ai (Z.map St.cells),.ai (A.map St.cells)] 0 true):=C0;have h15:H5.get 1=some qd:=C1;obtain⟨t1,t2⟩:=s5.one;clear f5 q5 n5 h0 h1;have gh0:=@jK;repeat' (first
   |(apply ai ?_;clear hK K)|apply Rx.o ?_|apply aN ?_|apply ae ?_|(apply ah fun K hK=>?_)|(apply aq 26 [(1,12),(1,14),(4,12),(7,12)] fun K hK=>?_)|(apply aM ?_;try intro _)|(apply aR ?_ ?_<;>clear hK K)|apply aL ?_|apply bu rfl ?_|apply aj ?_|apply ak ?_|apply am ?_)
  refine⟨aC,_,(by(try simp only[aK,aW,Nat.reduceBEq,Nat.reduceAdd,Nat.reduceLeDiff,tyF,bU,cc,jK, *]);first|done|with_reducible rfl),?_⟩;try simp only[aB]
  subst V;refine nu (S:=fun k=>2<=k) (m:=1) _ _ _ _ e v ((j6 (n:=1) j)) ?_ (iD A) aa;rw[kT];exact s5.rd.ax (fun _ _ h=>h) (aT _) fun k h1 h2=>tY
 .rw[ad aa,ad aa,ad aa,ad aa,ad aa,ad aa,ad aa,ad aa,ad aa,ad aa,au aa]at V;generalize J:Hp.alloc (Hp.alloc (Hp.alloc bV _) _) _=I;have nb:I.next=3:=tM
  have g0:I.get 0=some (.cells [.int .i64 k,.ae C,.ae F,.int .i64 n,.int .i64 e.ag,.int .i64 e.n,.ae e.name,.int .i64 e.op,.ai (e.ak.map Ex.cells),.int .i64 v.ag,.int .i64 v.n,.ae v.name,.int .i64 v.op,.ai (v.ak.map Ex.cells),.ai (j.map Ex.cells),.ai (Z.map St.cells),.ai (A.map St.cells)] 0 true):=oF;have g1:I.get 1=some qd:=oF;have g2:I.get 2=some qc:=oF;clear J;obtain⟨O,Y,bQ,gq,hq',lq,n4,n4',o4⟩:=xu (P:=prog) (t:=67) underlying67 oY r1 uU rfl aA g2 aa (rows:=Z.map St.cells) (zJ Z) (C6 Z) jw jw;simp only[ec]at bQ;have h0:Y.get 0=some (.cells [.int .i64 k,.ae C,.ae F,.int .i64 n,.int .i64 e.ag,.int .i64 e.n,.ae e.name,.int .i64 e.op,.ai (e.ak.map Ex.cells),.int .i64 v.ag,.int .i64 v.n,.ae v.name,.int .i64 v.op,.ai (v.ak.map Ex.cells),.ai (j.map Ex.cells),.ai (Z.map St.cells),.ai (A.map St.cells)] 0 true):=xr;have h1:Y.get 1=some qd:=xt;have lo:2<=O:=aa;have n40:3<=Y.next:=aa
  clear nb g0 g1 g2 o4 n4 n4' hq';have e2:(O == 0)=false:=ay aa;have e3:(0 == O)=false:=ay aa;have e4:(1 == O)=false:=ay aa;have e0:(0 == Y.next)=false:=ay aa;have e1:(1 == Y.next)=false:=ay aa;have hp:=fb (n:=a) (m:=Z.length) aa aa;have hlt:(aZ a Z.length).toNat<Z.length:=aa;have hi17:eS prog 67 (.sl O 0 Z.length 17) (.int .i64 (aZ a Z.length))=some (.ptr O ((aZ a Z.length).toNat*17)):=OP O _ hp.1 hlt;obtain⟨y,hy⟩:∃y,Z[(aZ a Z.length).toNat]?=some y:=⟨_,bt hlt⟩;have hrow:(Z.map St.cells)[(aZ a Z.length).toNat]?=some y.cells:=by rw[ev,hy];rfl
  have hagg:=GE (zJ Z) hrow;have hsm:=l9 (fq hy);have kr1:=fun H=>kr y (bA (U.tdiv 13)) (bA (a.tdiv 3)) (by simp only[St.sz];omega) H;rw[ON _ _ _ _ _ hy]at V;have gh0:=@jK;repeat' (first
   |(apply ai ?_;clear hK K)|apply Rx.o ?_|apply aN ?_|(apply dJ ?_;first|refine aY (kr1 _) ?_)|apply ae ?_|(apply ah fun K hK=>?_)|(apply aq 26 [(1,12),(1,14),(4,12),(7,12)] fun K hK=>?_)|(apply aM ?_;try intro _)|(apply aR ?_ ?_<;>clear hK K)|apply aL ?_|apply bu rfl ?_|apply aj ?_|apply ak ?_|apply am ?_)
  refine wn dK dK (OH (rows:=Z.map St.cells) oY OD (zJ Z) (by rw[ec];exact hlt) (St.aN _) (St.one _)) ?_;have gh0:=@jK;repeat' (first
   |(apply ai ?_;clear hK K)|apply Rx.o ?_|apply aN ?_|apply ae ?_|(apply ah fun K hK=>?_)|(apply aq 26 [(1,12),(1,14),(4,12),(7,12)] fun K hK=>?_)|(apply aM ?_;try intro _)|(apply aR ?_ ?_<;>clear hK K)|apply aL ?_|apply bu rfl ?_|apply aj ?_|apply ak ?_|apply am ?_)
  .exact di
  refine⟨aC,_,(by(try simp only[aK,aW,Nat.reduceBEq,Nat.reduceAdd,Nat.reduceLeDiff,tyF,bU,cc,jK, *]);first|done|with_reducible rfl),?_⟩;try simp only[aB]
  subst V;refine nu (S:=fun k=>2<=k) (m:=1) _ _ _ _ e v (j6 j) ?_ (iD A) aa;have hks:(Z.map St.cells).set (aZ a Z.length).toNat (iQ y (bA (U.tdiv 13)) (bA (a.tdiv 3))).cells=(Z.set (aZ a Z.length).toNat (iQ y (bA (U.tdiv 13)) (bA (a.tdiv 3)))).map St.cells:=uM.symm;have:=rt (S:=fun k=>2<=k) (n:=1) (z:=17) (tip:=true) (imm:=0) (r:=O) (H:=Hp.set (Hp.set (Hp.set Y 0 (.cells [.int .i64 k,.ae C,.ae F,.int .i64 n,.int .i64 e.ag,.int .i64 e.n,.ae e.name,.int .i64 e.op,.ai (e.ak.map Ex.cells),.int .i64 v.ag,.int .i64 v.n,.ae v.name,.int .i64 v.op,.ai (v.ak.map Ex.cells),.ai (j.map Ex.cells),.sl O 0 Z.length 17,.ai (A.map St.cells)] 0 true)) O (.cells ((Z.map St.cells).set (aZ a Z.length).toNat (iQ y (bA (U.tdiv 13)) (bA (a.tdiv 3))).cells).flatten 0 true)) 1 (.cells [.int .i64 k,.ae C,.ae F,.int .i64 n,.int .i64 e.ag,.int .i64 e.n,.ae e.name,.int .i64 e.op,.ai (e.ak.map Ex.cells),.int .i64 v.ag,.int .i64 v.n,.ae v.name,.int .i64 v.op,.ai (v.ak.map Ex.cells),.ai (j.map Ex.cells),.sl O 0 Z.length 17,.ai (A.map St.cells)] 0 true)) (a:=(Z.set (aZ a Z.length).toNat (iQ y (bA (U.tdiv 13)) (bA (a.tdiv 3)))).map St.cells) lo lq OE (dx _) (dT.eO _);rw[ec,Cm]at this;exact this
 .refine⟨aC,_,(by(try simp only[aK,aW,Nat.reduceBEq,Nat.reduceAdd,Nat.reduceLeDiff,tyF,bU,cc,jK, *]);first|done|with_reducible rfl),?_⟩;try simp only[aB]
  rw[ad aa,ad aa,ad aa,ad aa,ad aa,ad aa,ad aa,ad aa,ad aa,ad aa,au aa]at V;subst V;have hk0:Z=[]:=AH aa;subst hk0;exact nu (S:=fun _=>True) (m:=0) _ _ _ _ e v (j6 j) (iD []) (iD A) aa
 .refine⟨aC,_,(by(try simp only[aK,aW,Nat.reduceBEq,Nat.reduceAdd,Nat.reduceLeDiff,tyF,bU,cc,jK, *]);first|done|with_reducible rfl),?_⟩;try simp only[aB]
  rw[ad aa,ad aa,ad aa,ad aa,ad aa,ad aa,ad aa,ad aa,ad aa,ad aa,ad aa]at V;subst V;exact nu (S:=fun _=>True) (m:=0) _ _ _ _ e v (j6 j) (iD Z) (iD A) aa)
end
section
section
variable {i:Nat} {pt:Nat -> Nat} {lo b b' n:Nat} {H:Hp} {ra rf:Nat} {x y:Int} {f g:Fu} {pf lf bf:AV} {vf:qm} {pg lg bg:AV} {vg:qm} (h:zc8 i pt lo b b' n H ra rf x y f g pf lf bf vf pg lg bg vg)
include h
def zc8.mv0{H':Hp}(I:H.next<=H'.next)(o:∀q,lo<=q->q<H.next->H'.get q=H.get q):zc8 i (fun q=>if H.next<=q then 0 else pt q) lo b b' n H' ra rf x y f g pf lf bf vf pg lg bg vg:=by
 obtain⟨V,z,U⟩:=h.hb;have M:=h.av (q:=ra) (by rw[h.cr];decide);have J:=h.av (q:=rf) (by rw[h.bF];decide);have j:=h.cS;have m:=h.ca;have A:=h.cU;have Y:=h.cr;have lf:=h.bF;exact⟨h.hb,aa,fun q F=>by show(if _ then _ else _)=0;rw[ad aa];exact h.f3 q F,by rw[o ra M j];exact h.ga,by rw[o rf J m];exact h.gf,aa,aa,by show(if _ then _ else _)=1;rw[ad aa];exact Y,Oa,
  h.F.mv (aT _) (fun q O _ _=>ad aa) I fun q O Z _=>o q (h.av aa) O,h.G.mv (aT _) (fun q O _ _=>ad aa) I fun q O Z _=>o q (h.av aa) O⟩
def zc8.fM{Hb:Hp}(I:H.next<=Hb.next)(o:∀q,lo<=q->q<H.next->Hb.get q=H.get q){imm:Nat}(C:Hb.get r=some (.cells [.ae s] imm true))(Y:f.params.length=N)(hl:N<2^30):
 ∃H',dh prog false Hb 66 66 pf (.sl r 0 1 1)=some (.sl Hb.next 0 (N+1) 1,H')/\H'.next=Hb.next+1/\(∀q,q<Hb.next->(H.next<=q\/pt q≠b)->H'.get q=Hb.get q) /\
  ∀U:Hp,U.next=H'.next->(∀q,q≠rf->U.get q=H'.get q)->U.get rf=some (.cells (oE i (fU f.name (.sl Hb.next 0 (N+1) 1) lf bf vf) (fU g.name pg lg bg vg)) 0 true) ->
   zc8 i (fun q=>if H.next<=q then b else pt q) lo b b' n U ra rf x y {f with params:=f.params++[s] } g (.sl Hb.next 0 (N+1) 1) lf bf vf pg lg bg vg:=by
 have hb:=h.hb;have lr:=h.bF;have h2:=h.ca;have h3:=h.cU;obtain⟨H',m,M,b7,b1,b2,b3,ci,bX,bQ⟩:=zH (P:=prog) (t:=66) underlying66 rY tk tl rfl aA h.F.ps I (fun q O J=>o q (h.av aa) O) C rfl rfl xq xq;rw[ec,Y]at b7 bQ b1 b2;refine⟨H',b7,ci,bX,fun U O J z=>?_⟩;refine h.gb (f.params++[s]) aa (aT _) (fun q V S z A=>?_) z ?_
 .rw[J q z,bX q aa (.inr A),o q V S]
 .have:=bQ U rf [.ae s] [.ae s] aa (fun q K _=>J q K) aa h2 (by rw[J _ aa];exact b3) rfl ((cJ.dJ (n:=0) s).up (Nat.le_of_not_lt fun F=>by
   have h0:n=0:=aa;subst h0;obtain⟨Z,j,_⟩:=h.F.vw;have hv:=h.F.len;cases vf with
   |nil=>simp at hv
   |cons v vf=>cases Z with
    |nil=>exact j.elim
    |cons u Z=>exact j.1.elim))
  rw[kT,el,wE];exact this
def zc8.e5{Hb:Hp}(I:H.next<=Hb.next)(o:∀q,lo<=q->q<H.next->Hb.get q=H.get q){imm:Nat}(C:Hb.get r=some (.cells [.ae s] imm true))(Y:f.ah.length=N)(hl:N<2^30):
 ∃H',dh prog false Hb 66 66 lf (.sl r 0 1 1)=some (.sl Hb.next 0 (N+1) 1,H')/\H'.next=Hb.next+1/\(∀q,q<Hb.next->(H.next<=q\/pt q≠b+1)->H'.get q=Hb.get q) /\
  ∀U:Hp,U.next=H'.next->(∀q,q≠rf->U.get q=H'.get q)->U.get rf=some (.cells (oE i (fU f.name pf (.sl Hb.next 0 (N+1) 1) bf vf) (fU g.name pg lg bg vg)) 0 true) ->
   zc8 i (fun q=>if H.next<=q then b+1 else pt q) lo b b' n U ra rf x y {f with ah:=f.ah++[s] } g pf (.sl Hb.next 0 (N+1) 1) bf vf pg lg bg vg:=by
 have hb:=h.hb;have lr:=h.bF;have h2:=h.ca;have h3:=h.cU;obtain⟨H',m,M,b7,b1,b2,b3,ci,bX,bQ⟩:=zH (P:=prog) (t:=66) underlying66 rY tk tl rfl aA h.F.ls I (fun q O J=>o q (h.av aa) O) C rfl rfl xq xq;rw[ec,Y]at b7 bQ b1 b2;refine⟨H',b7,ci,bX,fun U O J z=>?_⟩;refine h.gi (f.ah++[s]) aa (aT _) (fun q V S z A=>?_) z ?_
 .rw[J q z,bX q aa (.inr A),o q V S]
 .have:=bQ U rf [.ae s] [.ae s] aa (fun q K _=>J q K) aa h2 (by rw[J _ aa];exact b3) rfl ((cJ.dJ (n:=0) s).up (Nat.le_of_not_lt fun F=>by
   have h0:n=0:=aa;subst h0;obtain⟨Z,j,_⟩:=h.F.vw;have hv:=h.F.len;cases vf with
   |nil=>simp at hv
   |cons v vf=>cases Z with
    |nil=>exact j.elim
    |cons u Z=>exact j.1.elim))
  rw[kT,el,wE];exact this
def zc8.e6{Hb:Hp}(I:H.next<=Hb.next)(o:∀q,lo<=q->q<H.next->Hb.get q=H.get q){imm:Nat}{row:qm}(C:Hb.get r=some (.cells row imm true))(K:row.length=17)(Z:row.all AV.one=true)(hN:f.body.length=N)(hl:N<2^30):
 ∃H' m M,dh prog false Hb 67 67 bf (.sl r 0 1 17)=some (.sl Hb.next 0 (N+1) 17,H')/\H'.get Hb.next=some (.cells (m++row) M true)/\M<=N*17/\(m++row).length=N*17+17/\(m++row).take (N*17)=m/\(m++row).drop (N*17+17)=[]/\H'.next=Hb.next+1/\(∀q,q<Hb.next->(H.next<=q\/pt q≠b+2)->H'.get q=Hb.get q) /\
  ∀(U:Hp) (Y:qm) (w:St),U.next=H'.next->(∀q,q≠rf->q<Hb.next->U.get q=H'.get q)->U.get Hb.next=some (.cells (m++Y) M true)->Y.length=17->cJ (fun q=>H.next<=q/\q<Hb.next) n Hb Y w.cells->U.get rf=some (.cells (oE i (fU f.name pf lf (.sl Hb.next 0 (N+1) 17) vf) (fU g.name pg lg bg vg)) 0 true) ->
   zc8 i (fun q=>if H.next<=q then b+2 else pt q) lo b b' n U ra rf x y {f with body:=f.body++[w] } g pf lf (.sl Hb.next 0 (N+1) 17) vf pg lg bg vg:=by
 have hb:=h.hb;have lr:=h.bF;have h2:=h.ca;have h3:=h.cU;obtain⟨H',m,M,b7,F,S,b3,ci,bX,bQ⟩:=zH (P:=prog) (t:=67) underlying67 oY r1 NM gB aA h.F.bo I (fun q O J=>o q (h.av aa) O) C K Z xq xq;rw[ec,hN]at b7 bQ F S;refine⟨H',m,M,b7,b3,S,by rw[lA,F,K],by rw[<-F,List.take_left],List.drop_eq_nil_of_le FT,ci,bX,fun U Y w O J h6 V j z=>?_⟩;refine h.fk (f.body++[w]) aa (aT _) (fun q V j z A=>?_) z ?_
 .rw[J q z aa,bX q aa (.inr A),o q V j]
 .have:=bQ U rf Y w.cells aa J aa h2 h6 V j;rw[kT,el,wE];exact this
def zc8.eY:dU (fun q=>pt q≠0/\q≠ra) (n+1) H 9 (.sl rf 0 2 9) ((gH i x y f g).funcs.map Fu.cells):=by
 obtain⟨F,z,O⟩:=h.hb;have I:=h.bF;have V:=h.cr;have A:=h.F.row (S:=fun q=>(pt q≠0/\q≠ra)/\q≠rf) fun q j m Y=>⟨⟨aa,fun e=>oD⟩,fun e=>oD⟩;have C:=h.G.row (S:=fun q=>(pt q≠0/\q≠ra)/\q≠rf) fun q j m Y=>⟨⟨aa,fun e=>oD⟩,fun e=>oD⟩;have J:pt rf≠0/\rf≠ra:=⟨aa,fun e=>h.ne e.symm⟩;have Z:=h.gf;cases i with
 |zero=>exact .inr ⟨rf,0,[fU f.name pf lf bf vf,fU g.name pg lg bg vg],rfl,J,h.ca,by rw[Z];simp[oE],dx _,⟨h.F.aN _,A⟩,⟨h.G.aN _,C⟩,trivial⟩
 |succ i=>exact .inr ⟨rf,0,[fU g.name pg lg bg vg,fU f.name pf lf bf vf],rfl,J,h.ca,by rw[Z];simp[oE],dx _,⟨h.G.aN _,C⟩,⟨h.F.aN _,A⟩,trivial⟩
def zc8.eJ:dU (fun q=>q=ra) (n+1) H 2 (.sl ra 0 2 2) ((gH i x y f g).af.map Ar.cells):=by
 have e:(gH i x y f g).af.map Ar.cells=[[.ae [97],.int .i64 x],[.ae [98],.int .i64 y]]:=by cases i<;>rfl
 rw[e];exact .inr ⟨ra,0,[[.ae [97],.int .i64 x],[.ae [98],.int .i64 y]],rfl,rfl,h.cS,h.ga,dx _,⟨rfl,.cons (.ae _) (.cons (.int _ _) .nil)⟩,⟨rfl,.cons (.ae _) (.cons (.int _ _) .nil)⟩,trivial⟩
end
def nA:qr:=[122,122]
def oG(f:Fu):Prop:=f.name≠nA/\cK f.body/\dO f.value
structure zdz (p:Pr):Prop where
 sz:p.sz<2^30
 fn:∀f∈p.funcs,f.name≠nA
 ar:∀a∈p.af,a.name≠nA
 rg:∀f∈p.funcs,cK f.body/\dO f.value
structure MutR (lo P n:Nat) (H:Hp) (va vb:AV) (p:Pr) (R:Nat->Prop):Prop where
 ne:¬R P
 ars:dU (fun q=>lo<=q/\R q) n H 2 va (p.af.map Ar.cells)
 fns:dU (fun q=>lo<=q/\¬R q/\q≠P) n H 9 vb (p.funcs.map Fu.cells)
 gr:zdz p
def sG(lo P:Nat)(o H':Hp):Prop:=∃A vb p R,H'.get P=some (.cells [A,vb] 0 true)/\P<H'.next/\MutR lo P 50 H' A vb p R/\(∀q,q<lo->H'.get q=o.get q)
def sG.of{j:Nat->Nat}{lo S n:Nat}{Z rf:Nat}{x y:Int}{f g:Fu}{lf bf:AV}{m:qm}{J I C:AV}{vg:qm}{P:Nat}{o:Hp}(h:zc8 i j lo b S n H Z rf x y f g M lf bf m J I C vg)(hP:j P=0)(K:P<H.next)(gp:H.get P=some (.cells [.sl Z 0 2 2,.sl rf 0 2 9] 0 true))(V:∀q,q<lo->H.get q=o.get q)(hn:n<=48)
 (h1:f.sz<2^28) (h2:g.sz<2^28) (A:oG f) (O:oG g):sG lo P o H:=by
 have Y:P≠Z:=fun e=>by have:=h.cr;rw[<-e]at this;omega
 refine⟨_,_,gH i x y f g,fun q=>q=Z,gp,K,⟨Y,?_,?_,?_,?_,?_,?_⟩,V⟩
 .exact(h.eJ.aj (fun q _ F=>⟨h.av (by rw[F,h.cr];decide),F⟩) (aT _) fun _ _ _=>rfl).up aa
 .exact(h.eY.aj (fun q _ F=>⟨h.av F.1,F.2,fun e=>F.1 (by rw[e];exact hP)⟩) (aT _) fun _ _ _=>rfl).up aa
 .cases i<;>simp only[gH,rD,zG,Pr.sz,ez,dY,nL]<;>omega
 .intro f' z;cases i<;>simp only[gH,rD,fY,nj,pu]at z <;>rcases z with rfl|rfl<;>first|exact A.1|exact O.1
 .intro a U;cases i<;>simp only[gH,rD,zG,fY,nj,pu]at U<;>rcases U with rfl|rfl<;>(intro e;cases e)
 .intro f' z;cases i<;>simp only[gH,rD,fY,nj,pu]at z <;>rcases z with rfl|rfl<;>first|exact A.2|exact O.2
end
end Go.Proofs.YtbflaciihaijgaaGreat
