/- Lemmas for the last file. -/
import Derived.Test.YtbflaciihaijgaaGreatJEH
set_option linter.all false
set_option maxHeartbeats 32000000
namespace Go.Ab
set_option maxRecDepth 20000
open Go
variable{qf:Prop}
def PX(h:qf:=by rw[List.drop_eq_getElem_cons Y,List.all_cons]):=h
def iU(h:qf:=by simp only[br,aZ];omega):=h
def vT(h:qf:=by simp[bD]):=h
def uF(h:qf:=by simp only[];omega):=h
def PY(h:qf:=by show((pL a (bD p)).getD []).length < _;rw[J9 z];omega):=h
def PZ(h:qf:=by rw[List.drop_eq_getElem_cons hlt,List.any_cons]):=h
def Fh(h:qf:=by rw[<- hHb,Hp.get_set,if_neg ac,aD,if_neg ac]):=h
def Fk(h:qf:=by simp only[aG,Nat.reduceBEq, *];exact gX (n:=C.length) ac ac):=h
def P1(h:qf:=by rw[o5 _ (nw _ ac) (na _ ac)];exact g4s):=h
def P2(h:qf:=by rw[o5 _ (nw _ ac) (na _ ac)];exact g4b):=h
def P3(h:qf:=by rw[o5 _ (nw _ ac) (na _ ac)];exact g40):=h
def J4(h:qf:=by simp only[aG,Nat.reduceBEq, *];exact gX (n:=2) ac ac):=h
def P4(h:qf:=by simp only[aG,Nat.reduceBEq, *];exact gX (n:=L.length) ac ac):=h
def BE(h:qf:=by rw[Hp.get_set,if_pos eN]):=h
def P5(h:qf:=by rw[<- O,aD,if_neg iU,Hp.get_set,if_neg ac,aD,if_neg ac]):=h
def ji:=@cond_true
def BF:=@List.any_append
def BG:=@List.mem_singleton
end Go.Ab
namespace Go.Proofs.YtbflaciihaijgaaGreat
set_option maxRecDepth 20000
open Go Go.Ab Proofs.Tryz
variable(ρ:Nat->Int)
variable{H:Hp}{v w a:AV}{lo:Nat}{f:Fu}
section
def tyR3f.tyF:=ad @ec (ad @cA (ad @dw (ad @gQ (ad @jA (ad @iL (ad @fU (ad @fL (ad @fM (ad @fb (ad @nf (ad @lJ (@gF))))))))))))
open tyR3f
noncomputable def P6:{c:SC // aC 34 (f146.body.getD .skip)=c}:=by
 refine⟨?_,?_⟩;rotate_left
 .simp only[f146,bz,aC,bw,bt,bA,bB,Nat.blt,Nat.ble];rfl
noncomputable def P7:{c:SC // aC 66 (f94.body.getD .skip)=c}:=by
 refine⟨?_,?_⟩;rotate_left
 .simp only[f94,bz,aC,bw,bt,bA,bB,Nat.blt,Nat.ble];rfl
mutual
def nC:St->Bool
 | .mk k J Z n a v O j m=>jw (.mk k J Z n a v O j m)&&fQ j&&fQ m
def fQ:qE->Bool
 |[]=>true
 |x::l=>nC x&&fQ l
end
theorem xP(x:St):nC x=(jw x&&fQ x.a9&&fQ x.bl):=by cases x;rw[nC];rfl
noncomputable def Fl:En:=⟨186,false,bQ (fun x=>x.sz<2^60) xO fun x=>.bool (jw x)⟩
def zeu:co prog ρ Fl:=cz fun x z=>zet ρ x z
def zev:∀x:qE,bH x<2^60->bF prog ρ 146 (od x) (.bool (fQ x)):=
 xq fit (pls:=pls) (l:=[Fl]) ⟨zeu ρ,trivial⟩ (fun x=>bH x) (ok:=fun x=>bH x<2^60) (enc:=od) (out:=fun x=>.bool (fQ x)) (fun x _=>.cons (Bc _) .nil) (fun x _=>.bool _) (fun x hx=>by
 have L:=xz (sz:=fun x:qE=>bH x) (ok:=fun x=>bH x<2^60) (out:=fun x=>.bool (fQ x)) za (f:=146) (l:=[Fl]) x;generalize J:(⟨146,false,bQ (fun y=>bH y<2^60/\bH y<bH x) od fun x=>.bool (fQ x)⟩:En)::[Fl]=l at L⊢;have I:∀(y:qE),bH y<bH x->∀H,aM prog (ay pls l) 146 [.aE (y.map St.cells)] H fun v H'=>v=.bool (fQ y)/\H'=H:=fun y g H=>by
  subst J;exact bZ (enc:=od) (out:=fun x=>.bool (fQ x)) za (x:=y) rfl ⟨ac,g⟩
 have kd:∀y:St,y.sz<2^60->∀H,aM prog (ay pls l) 186 [.agg y.cells] H fun v H'=>v=.bool (jw y)/\H'=H:=fun y U H=>by
  subst J;exact bZ (enc:=xO) (out:=fun x=>.bool (jw x)) PU (x:=y) rfl U
 have C:=vA x;change aM _ _ _ [.aE (x.map St.cells)] _ _;refine a0 (M:=34) (rs:=[.tmp 2]) L.call L.aG L.az func146 rfl rfl P6.2 rfl ?_;dsimp only[P6,aW,Nat.reduceAdd];refine iX ?_;refine bY [0] [] 3 x.length (fun i E H=>fQ x=fQ (x.drop i)) eE au ?_;rintro i E H2 hi Y m z O V;(try simp only[bq,aT,aN,aG,aR,Nat.reduceBEq, *]at Y);(try simp only[aT, *]at m);(try simp only[bX,]at z);repeat' (first
  |(apply aj ?_;clear hK K)|apply aO ?_|(apply bp ?_ ?_<;>(intro hb hbp;try(cases hb;done)))|(apply ak fun K hK=>?_)|fail)
 .have j:i<x.length:=by simpa using hb
  have hgx:x[i]?=some x[i]:=aL j;have hsm:=rF (cB j);have hsz:=x[i].aT;have Z:fQ (x.drop i)=(nC x[i]&&fQ (x.drop (i+1))):=ng;rw[xP]at Z;repeat' (first
   |(apply aj ?_;clear hK K)|apply aO ?_|(apply ez ?_;first|refine Rx.k (kd _ ac _) ?_|refine Rx.k (I _ ac _) ?_)|(apply cD ?_ ?_<;>(intro hg hgp;try(cases hg;done)))|(apply bp ?_ ?_<;>(intro hb hbp;try(cases hb;done)))|(apply ak fun K hK=>?_)|fail)
  all_goals (first|(refine⟨aq,_,aF,?_⟩;(try simp only[am]);rw[V,Z];(try simp only[dH]at *);simp only[ *,oL,gW,];done)|skip)
  refine⟨ac,aK,aK,bG,vG,?_⟩;rw[V,Z];(try simp only[i8]at *);simp only[ *,tz,]
 .all_goals refine qq ?_
  rw[V,show i=x.length by simp at hb;omega];simp[fQ])
noncomputable def P8:En:=⟨146,false,bQ (fun x=>bH x<2^60) od fun x=>.bool (fQ x)⟩
def zew:co prog ρ P8:=cz fun x z=>zev ρ x z
noncomputable def zm:qB:=[zk,J3,P8]
def zex:eU prog ρ zm:=⟨BC ρ,PW ρ,zew ρ,trivial⟩
theorem Fm:∀{l:qR}{a:Ar},a∈l->a.name.length<eV l
 |[],_,h=>by simp at h
 |e::es,x,h=>by
  rcases gE.1 h with rfl|h
  .simp only[eV];omega
  .have:=Fm h;simp only[eV];omega
def rU(f:Fu):qw:=[f.name]++f.params++f.ao
def jY(f:Fu):Bool:=(rU f).all ci&&fQ f.body&&fk f.value
def iM(p:Pr):Bool:=p.aa.all (fun a=>ci a.name)&&p.funcs.all jY
def Fo(H:Hp)(s:qx):et prog H 66 1 [(0,.aq s)]=some (.sl H.next 0 1 1,H.alloc (.cells [.aq s] 0 true)):=aB
abbrev qh:HB:=.cells [] 0 true
def P9(H:Hp):et prog H 66 0 []=some (.sl H.next 0 0 1,H.alloc qh):=aB
theorem zey(p:Pr)(hz:p.sz<2^36):bF prog ρ 94 [.agg p.cells] (.bool (iM p)):=dE fit (pls:=pls) (zex ρ) (.cons (.agg p.pure) .nil) (.bool _) (by
 have hw:zd0 (ay pls zm) 94:=db (fun _=>rfl) rfl;have I:(ay pls zm).keep 94=false:=rfl;have kv:∀s:qx,s.length<2^60->∀H,aM prog (ay pls zm) 40 [.aq s] H fun v H'=>v=.bool (ci s)/\H'=H:=fun s h1 H=>bZ (enc:=nn) (out:=fun x=>.bool (ci x)) ux (x:=s) rfl h1;have kw:∀y:Ex,y.sz<2^60->∀H,aM prog (ay pls zm) 147 [.agg y.cells] H fun v H'=>v=.bool (fk y)/\H'=H:=fun y h1 H=>bZ (enc:=kF) (out:=fun x=>.bool (fk x)) sA (x:=y) rfl h1;have ks:∀y:qE,bH y<2^60->∀H,aM prog (ay pls zm) 146 [.aE (y.map St.cells)] H fun v H'=>v=.bool (fQ y)/\H'=H:=fun y h1 H=>bZ (enc:=od) (out:=fun x=>.bool (fQ x)) za (x:=y) rfl h1;have hpz:p.sz=1+eV p.aa+fg p.funcs:=rfl;have hla:=mC p.aa;have hlf:=nX p.funcs;refine a0 (M:=66) (rs:=[.tmp 2]) (hw.call _) hw.aG hw.az func94 rfl rfl P7.2 rfl ?_;dsimp only[P7,aW,Nat.reduceAdd];refine eP ?_;refine bY [1] [0] 3 p.aa.length (fun i E H=>p.aa.all (fun a=>ci a.name)=(p.aa.drop i).all (fun a=>ci a.name)) eE au ?_;rintro i E Z hi O m z hsI hJ;(try simp only[bq,aT,aN,aG,aR,Nat.reduceBEq, *]at O);(try simp only[bq,aT,aN,aG,aR, *]at m);(try simp only[aZ,bX,bK]at z);have hB0:(0 == Z.next)=false:=aX ac;have hC0:(Z.next == 0)=false:=aX ac;repeat' (first
  |(apply aj ?_;clear hK K)|apply aO ?_|(apply bp ?_ ?_<;>(intro hb hbp;try(cases hb;done)))|(apply ak fun K hK=>?_)|fail)
 .have Y:i<p.aa.length:=by simpa using hb
  have hgx:p.aa[i]?=some p.aa[i]:=aL Y;have V:(p.aa.drop i).all (fun a=>ci a.name)=(ci p.aa[i].name&&(p.aa.drop (i+1)).all (fun a=>ci a.name)):=PX;have hsm:p.aa[i].name.length<eV p.aa:=Fm (cB Y);repeat' (first
   |(apply aj ?_;clear hK K)|apply aO ?_|(apply ez ?_;first|refine Rx.k (kv _ ac _) ?_)|(apply bp ?_ ?_<;>(intro hb hbp;try(cases hb;done)))|(apply ak fun K hK=>?_)|fail)
  all_goals (first|(refine⟨aq,_,aF,?_⟩;(try simp only[am]);rw[iM,hJ,V];(try simp only[lH]at *);simp only[*,em,];done)|skip)
  refine⟨ac,aK,aK,bG,zf,?_⟩;rw[hJ,V];(try simp only[i8]at *);simp only[*,el,]
 .have hie:i=p.aa.length:=by simp at hb;omega
  rw[hie,gH,oK]at hJ;clear hb hie hsI hi;refine bY [1] [0] 4 p.funcs.length (fun i E H=>p.funcs.all jY=(p.funcs.drop i).all jY) eE au ?_;rintro i E Z hi O m z hsI J;(try simp only[bq,aT,aN,aG,Nat.reduceBEq, *]at O);(try simp only[bq,aT,aN, *]at m);(try simp only[aZ,br,bX,bK,Nat.reduceAdd]at z);have hB0:(0 == Z.next)=false:=aX ac;have hC0:(Z.next == 0)=false:=aX ac;repeat' (first
   |(apply aj ?_;clear hK K)|apply aO ?_|(apply bp ?_ ?_<;>(intro hb hbp;try(cases hb;done)))|(apply ak fun K hK=>?_)|fail)
  .have Y:i<p.funcs.length:=by simpa using hb
   have hgx:p.funcs[i]?=some p.funcs[i]:=aL Y;have V:(p.funcs.drop i).all jY=(jY p.funcs[i]&&(p.funcs.drop (i+1)).all jY):=PX;rw[jY]at V;have hsm:=nY (cB Y);have hsz:p.funcs[i].sz=1+p.funcs[i].name.length+dB p.funcs[i].params+dB p.funcs[i].ao+bH p.funcs[i].body+p.funcs[i].value.sz:=rfl;have gh0:=@Fo;repeat' (first
    |(apply aj ?_;clear hK K)|apply aO ?_|(apply da 10 [(1,5),(2,5),(4,5),(7,5),(7,8)] fun K hK=>?_)|(apply ce ?_;try intro _)|fail)
   generalize U:Hp.alloc _ (HB.cells [AV.aq p.funcs[i].name] 0 true)=H4;have n4:H4.next=Z.next+2:=by rw[<-U];rfl
   have g4:H4.get Z.next=some (.cells p.funcs[i].cells 0 true):=by rw[<-U];clear U;exact Ba
   have g40:H4.get 0=some (.cells p.cells 0 true):=by
    rw[<-U,aD,af iU,aA,af ac,aD,af ac];exact m
   have g41:H4.get (Z.next+1)=some (.cells [.aq p.funcs[i].name] 0 true):=by rw[<-U];clear U;exact Ba
   have s4:ed H4 (.sl (Z.next+1) 0 1 1) [p.funcs[i].name] (Z.next+1):=⟨Z.next+1,0,rfl,g41,au,aH _,ac⟩;have hpl:=jR p.funcs[i].params;have hll:=jR p.funcs[i].ao;obtain⟨v5,H5,a5,s5,n5,f5,_⟩:=y2 p.funcs[i].params s4 ac bW;have g5:H5.get Z.next=some (.cells p.funcs[i].cells 0 true):=by rw[f5 _ (cC _)];exact g4
   have g50:H5.get 0=some (.cells p.cells 0 true):=by rw[f5 _ ac];exact g40
   refine jP cV cV (by rw[I];exact a5) ?_;refine wH ?_;obtain⟨v6,H6,a6,s6,n6,f6,_⟩:=y2 p.funcs[i].ao s5 ac bW;have g6:H6.get Z.next=some (.cells p.funcs[i].cells 0 true):=by rw[f6 _ (cC _)];exact g5
   have g60:H6.get 0=some (.cells p.cells 0 true):=by rw[f6 _ ac];exact g50
   refine jP cV cV (by rw[I];exact a6) ?_;refine Hl ?_ ?_
   .exact bN
   .have s6':ed H6 v6 (rU p.funcs[i]) (Z.next+1):=s6;have hfl:(rU p.funcs[i]).length<2^61:=by simp[rU];omega
    have hfm:∀s∈rU p.funcs[i],s.length<2^60:=fun s g=>by
     rcases nR.1 g with g|g
     .rcases nR.1 g with g|g
      .simp at g;subst g;omega
      .have:=Eh g;omega
     .have:=Eh g;omega
    clear s6 a6 f6 a5 f5 s5 s4;generalize rU p.funcs[i]=ns at *;have hln:=fun H'=>s6'.len (H':=H');refine bY [1,4,5,6] [0,Z.next] 7 ns.length (fun j E H=>ns.all ci=(ns.drop j).all ci/\ed H v6 ns (Z.next+1)) eE ⟨au,s6'⟩ ?_;rintro j E3 H3 hj O m z hsI ⟨L,s7⟩;(try simp only[bq,aT,aN,aG,aR,Nat.reduceBEq, *]at O);(try simp only[bq,aT,aN, *]at m);(try simp only[aZ,br,bX,bK,Nat.reduceAdd]at z);have hB0:(0 == H3.next)=false:=aX ac;have hC0:(H3.next == 0)=false:=aX ac;have hB1:(Z.next == H3.next)=false:=aX ac;have hC1:(H3.next == Z.next)=false:=aX ac;repeat' (first
     |(apply aj ?_;clear hK K)|apply aO ?_|(apply ez ?_;first|refine Rx.k (kw _ ac _) ?_|refine Rx.k (ks _ ac _) ?_)|(apply cD ?_ ?_<;>(intro hg hgp;try(cases hg;done)))|(apply bp ?_ ?_<;>(intro hb hbp;try(cases hb;done)))|(apply ak fun K hK=>?_)|fail)
    .have C:j<ns.length:=by simpa using hb
     obtain⟨q,ia,ld⟩:=s7.at C;have hdr2:(ns.drop j).all ci=(ci ns[j]&&(ns.drop (j+1)).all ci):=by rw[ft C,oO]
     have hq:=hfm _ (cB C);repeat' (first
      |(apply aj ?_;clear hK K)|apply aO ?_|(apply ez ?_;first|refine Rx.k (kv _ hq _) ?_)|(apply bp ?_ ?_<;>(intro hb hbp;try(cases hb;done)))|(apply ak fun K hK=>?_)|fail)
     all_goals (first|(refine⟨aq,_,aF,?_⟩;(try simp only[am]);rw[iM,hJ,J,V,L,hdr2];(try simp only[lH]at *);simp only[ *,oL,];done)|skip)
     refine⟨ac,aK,aK,bG,(by simp only[aG,Nat.reduceBEq, *];exact gX (n:=ns.length) ac ac),?_⟩;exact⟨by rw[L,hdr2];(try simp only[i8]at *);simp only[*,el,],s7⟩
    all_goals
     have hje:j=ns.length:=ac;rw[hje,gH,oK]at L
    all_goals (first|(refine⟨aq,_,aF,?_⟩;(try simp only[am]);rw[iM,hJ,J,V,L];(try simp only[dH]at *);simp only[ *,oL,gW,];done)|skip)
    refine⟨ac,aK,aK,bG,pA,?_⟩;rw[J,V,L];(try simp only[i8]at *);simp only[ *,tz,]
  .all_goals refine qq ?_
   have hie:i=p.funcs.length:=sB;rw[hie,gH,oK]at J;rw[iM,hJ,J];(try simp only[dH]at *);simp only[*,gW,])
end
section
def tyR3g.tyF:=ad @cA (ad @dw (ad @gQ (ad @jA (ad @iL (ad @fU (ad @fL (ad @fb (ad @nf (ad @lJ (ad @Fo (@P9)))))))))))
open tyR3g
noncomputable def Qa:{c:SC // aC 85 (f95.body.getD .skip)=c}:=by
 refine⟨?_,?_⟩;rotate_left
 .simp only[f95,bz,aC,bw,bt,bA,bB,Nat.blt,Nat.ble];rfl
def bU:qw->qw->Bool
 |_,[]=>false
 |seen,s::l=>bu seen s||bU (seen++[s]) l
def md(U:qw):qw->qQ->Bool
 |_,[]=>false
 |seen,f::fs=>bu seen f.name||bU U (f.params++f.ao)||md U (seen++[f.name]) fs
def bD(p:Pr):qw:=p.aa.map (·.name)
def me(p:Pr):Bool:=bU [] (bD p)||md (bD p) [] p.funcs
def uG{I:Type}(l seen:List I)(i:Nat):Prop:=l=seen++l.drop i
def Qb{I:Type}{l seen:List I}{i:Nat}(h:i<l.length)(e:uG l seen i):uG l (seen++[l[i]]) (i+1):=by
 unfold uG at *;rw[lU,Ik,<-ft h];exact e
theorem zez(p:Pr)(hz:p.sz<2^36):bF prog ρ 95 [.agg p.cells] (.bool (me p)):=dE fit (pls:=pls) (l:=[tu]) ⟨Jr ρ,trivial⟩ (.cons (.agg p.pure) .nil) (.bool _) (by
 have hw:zd0 (ay pls [tu]) 95:=db (fun _=>rfl) rfl;have V:(ay pls [tu]).keep 95=false:=rfl;have hpz:p.sz=1+eV p.aa+fg p.funcs:=rfl;have hla:=mC p.aa;have hlf:=nX p.funcs;have hal:(bD p).length=p.aa.length:=vT;refine a0 (M:=85) (rs:=[.tmp 2]) (hw.call _) hw.aG hw.az func95 rfl rfl Qa.2 rfl ?_;dsimp only[Qa,aW,Nat.reduceAdd];refine eh ?_;refine bY [1] [0] 5 p.aa.length (fun i E H=>E.at 4=.ak/\∃v seen,E.at 3=v/\eI H v seen 1/\bU [] (bD p)=bU seen ((bD p).drop i)/\uG (bD p) seen i) eE ⟨eE,.ak,[],eE,.inl ⟨rfl,rfl⟩,au,by simp[uG]⟩ ?_;rintro i E H2 hi hcE m hnH hsI ⟨k4,v,seen,k3,s2,hJ,hsn⟩;(try simp only[bq,aT,aN,aG,aR,Nat.reduceBEq, *]at hcE);(try simp only[bq,aT,aN,aG,aR, *]at m);(try simp only[aZ,bX,bK]at hnH);have hB0:(0 == H2.next)=false:=aX ac;have hC0:(H2.next == 0)=false:=aX ac;have hsl:seen.length<=p.aa.length:=by have:bD p=seen++(bD p).drop i:=hsn;have:=kV List.length this;rw[fB]at this;omega
 repeat' (first
  |(apply aj ?_;clear hK K)|apply aO ?_|(apply bp ?_ ?_<;>(intro hb hbp;try(cases hb;done)))|(apply ak fun K hK=>?_)|fail)
 .have hlt:i<p.aa.length:=by simpa using hb
  have hgx:p.aa[i]?=some p.aa[i]:=aL hlt;have hgn:(bD p)[i]' ac=p.aa[i].name:=vT;have hdr:bU seen ((bD p).drop i)=(bu seen p.aa[i].name||bU (seen++[p.aa[i].name]) ((bD p).drop (i+1))):=by rw[ft ac,hgn];rfl
  have hsn2:=Qb ac hsn;rw[hgn]at hsn2;refine eh ?_;refine qd ?_;refine aY ?_ (Js (fun _=>rfl) rfl s2 ac p.aa[i].name);rintro w H3 ⟨rfl,s3,n3,f3,o3⟩;have m3:H2.next<=H3.next:=ac
  clear n3;dsimp only[aU];have g30:H3.get 0=some (.cells p.cells 0 true):=by rw[f3 0 ac];exact m
  have e1:(0 == H3.next)=false:=bW;have s4:eI (H3.alloc (.cells [.aq p.aa[i].name] 0 true)) v seen 1:=s3.keep (dA _) fun k Z=>by rw[aD,af (by have:=s3.lt Z;omega)]
  repeat' (first
   |(apply aj ?_;clear hK K)|apply aO ?_|(apply bp ?_ ?_<;>(intro hb hbp;try(cases hb;done)))|(apply ak fun K hK=>?_)|fail)
  .all_goals refine qq ?_
   rw[me,hJ,hdr];(try simp only[dH]at *);simp only[*,mU,]
  .obtain⟨v5,H5,a5,s5,n5,f5,o5⟩:=xB (r:=H3.next) (imm:=0) p.aa[i].name s4 dG fG ac;have g50:H5.get 0=some (.cells p.cells 0 true):=by rw[f5 0 ac,aD,af ac];exact g30
   simp only[aZ]at n5;have m5:H3.next+1<=H5.next:=ac
   clear n5;refine jP cV cV (by rw[V];exact a5) ?_;refine eh ?_;refine⟨ac,aK,aK,bG,zf,?_⟩;exact⟨eE,v5,seen++[p.aa[i].name],eE,.inr s5,by rw[hJ,hdr];(try simp only[dH]at *);simp only[*,il,],hsn2⟩
 .have hie:i=(bD p).length:=by simp at hb;omega
  unfold uG at hsn;rw[hie,gH]at hJ hsn;rw[bm]at hsn;have hJ':bU [] (bD p)=false:=hJ;rw[<-hsn]at s2;clear hJ hie hsI hi hsl hsn;clear seen;have c3:∀k,bc v k->k<H2.next:=fun k Z=>(s2.lt Z).2
  refine bY [1,3] [0] 6 p.funcs.length (fun i E H=>∃u seen,E.at 4=u/\eI H u seen H2.next/\eI H v (bD p) 1/\md (bD p) [] p.funcs=md (bD p) seen (p.funcs.drop i)/\seen.length=i) eE ⟨.ak,[],eE,.inl ⟨rfl,rfl⟩,s2,au,rfl⟩ ?_;rintro i E z hi hcE m hnH hsI ⟨u,seen,k4',s4,t4,hJ2,hsl⟩;(try simp only[bq,aT,aN,aG,Nat.reduceBEq, *]at hcE);(try simp only[bq,aT,aN, *]at m);(try simp only[aZ,br,bX,bK,Nat.reduceAdd]at hnH);have hB0:(0 == z.next)=false:=aX ac;have hC0:(z.next == 0)=false:=aX ac;repeat' (first
   |(apply aj ?_;clear hK K)|apply aO ?_|(apply bp ?_ ?_<;>(intro hb hbp;try(cases hb;done)))|(apply ak fun K hK=>?_)|fail)
  .have hlt:i<p.funcs.length:=by simpa using hb
   have hgx:p.funcs[i]?=some p.funcs[i]:=aL hlt;have hsm:=nY (cB hlt);have hsz:p.funcs[i].sz=1+p.funcs[i].name.length+dB p.funcs[i].params+dB p.funcs[i].ao+bH p.funcs[i].body+p.funcs[i].value.sz:=rfl;have hdr:md (bD p) seen (p.funcs.drop i)=(bu seen p.funcs[i].name||bU (bD p) (p.funcs[i].params++p.funcs[i].ao)||md (bD p) (seen++[p.funcs[i].name]) (p.funcs.drop (i+1))):=by rw[ft hlt];rfl
   refine Ht fun K hK=>?_;generalize hHb:Hp.set (Hp.alloc z _) z.next _=Hb
   have nb:z.next<Hb.next:=by rw[<-hHb];exact cC _
   have oldb:∀k,k<z.next->Hb.get k=z.get k:=fun k Z=>Fh
   have gb:Hb.get z.next=some (.cells p.funcs[i].cells 0 true):=Bn
   have gb0:Hb.get 0=some (.cells p.cells 0 true):=by rw[oldb 0 ac];exact m
   have s4b:eI Hb u seen H2.next:=s4.keep ac fun k Z=>oldb k (s4.lt Z).2
   have t4b:eI Hb v (bD p) 1:=t4.keep ac fun k Z=>oldb k (t4.lt Z).2;have nou:¬bc u z.next:=fun h=>by have:=(s4.lt h).2;omega
   clear hHb;refine qd ?_;refine aY ?_ (Js (fun _=>rfl) rfl s4b ac p.funcs[i].name);rintro w H5 ⟨rfl,s5,n5,f5,o5⟩;have m5:Hb.next<=H5.next:=ac
   clear n5;dsimp only[aU];have g5:H5.get z.next=some (.cells p.funcs[i].cells 0 true):=by rw[o5 _ nou];exact gb
   have g50:H5.get 0=some (.cells p.cells 0 true):=by rw[f5 0 ac];exact gb0
   have t5:eI H5 v (bD p) 1:=t4b.keep ac fun k Z=>f5 k (c3 k Z);have e5:(z.next == H5.next)=false:=bW;repeat' (first
    |(apply aj ?_;clear hK K)|apply aO ?_|(apply bp ?_ ?_<;>(intro hb hbp;try(cases hb;done)))|(apply ak fun K hK=>?_)|fail)
   .all_goals refine qq ?_
    rw[me,hJ',hJ2,hdr];(try simp only[dH]at *);simp only[ *,rM,]
   have old5:∀k,k<H5.next->(H5.alloc (.cells [.aq p.funcs[i].name] 0 true)).get k=H5.get k:=fun k Z=>fq
   have s5b:eI (H5.alloc (.cells [.aq p.funcs[i].name] 0 true)) u seen H2.next:=s5.keep (dA _) fun k Z=>old5 k (s5.lt Z).2
   obtain⟨u6,g,a6,s6,n6,f6,o6⟩:=xB (r:=H5.next) (imm:=0) p.funcs[i].name s5b dG fG ac;simp only[aZ]at n6;have m6:H5.next+2<=g.next:=ac
   clear n6;have g6:g.get z.next=some (.cells p.funcs[i].cells 0 true):=by rw[o6.1 _ dG nou,old5 _ ac];exact g5
   have g60:g.get 0=some (.cells p.cells 0 true):=by rw[f6 0 ac,old5 _ ac];exact g50
   have t6:eI g v (bD p) 1:=t5.keep ac fun k Z=>by rw[f6 k (c3 k Z),old5 _ (t5.lt Z).2]
   refine jP cV cV (by rw[V];exact a6) ?_;refine Ht fun K hK=>?_;have J:∀k,k<g.next->(g.alloc qh).get k=g.get k:=fun k Z=>fq
   have s7:ed (g.alloc qh) (.sl g.next 0 0 1) [] g.next:=⟨g.next,0,rfl,iq,au,aH _,cC _⟩
   have t7:eI (g.alloc qh) v (bD p) 1:=t6.keep (dA _) fun k Z=>J k (t6.lt Z).2;obtain⟨w8,L,a8,s8,n8,f8,o8⟩:=zcC s7 (dA _) t7 bW;simp only[aZ]at n8;have g8:L.get z.next=some (.cells p.funcs[i].cells 0 true):=by rw[f8 _ ac,J _ ac];exact g6
   have g80:L.get 0=some (.cells p.cells 0 true):=by rw[f8 0 ac,J _ ac];exact g60
   have t8:eI L v (bD p) 1:=t6.keep ac fun k Z=>by rw[f8 k (by have:=(t6.lt Z).2;omega),J _ (t6.lt Z).2]
   have u8:ed L u6 (seen++[p.funcs[i].name]) H2.next:=s6.keep ac fun k Z=>by rw[f8 k (s6.lt Z).2,J _ (s6.lt Z).2]
   refine jP cV cV (by rw[V];exact a8) ?_;have e8:(z.next == L.next)=false:=bW;refine Ht fun K hK=>?_;have old8:∀k,k<L.next->(L.alloc qh).get k=L.get k:=fun k Z=>fq
   have s9:ed (L.alloc qh) (.sl L.next 0 0 1) [] L.next:=⟨L.next,0,rfl,iq,au,aH _,cC _⟩
   have g9a:(L.alloc qh).get z.next=some (.cells p.funcs[i].cells 0 true):=by rw[old8 _ ac];exact g8
   have g9b:(L.alloc qh).get L.next=some qh:=fG
   have hpl:=jR p.funcs[i].params;have hll:=jR p.funcs[i].ao;obtain⟨w9,H9,a9,s10,n9,f9,_⟩:=y2 p.funcs[i].params s9 (dA _) bW;simp only[aZ]at n9;have g9:H9.get z.next=some (.cells p.funcs[i].cells 0 true):=by rw[f9 _ ac];exact g9a
   refine jP cV cV (by rw[V];exact a9) ?_;refine wH ?_;obtain⟨w11,H11,a11,s11,n11,f11,_⟩:=y2 p.funcs[i].ao s10 ac bW;have g11:H11.get z.next=some (.cells p.funcs[i].cells 0 true):=by rw[f11 _ ac];exact g9
   refine jP cV cV (by rw[V];exact a11) ?_;refine Hl ?_ ?_
   .exact bN
   .have O:∀k,k<L.next->H11.get k=L.get k:=fun k Z=>by rw[f11 k Z,f9 k Z,old8 k Z]
    have g110:H11.get 0=some (.cells p.cells 0 true):=by rw[O 0 ac];exact g80
    have u11:ed H11 u6 (seen++[p.funcs[i].name]) H2.next:=u8.keep ac fun k Z=>O k (u8.lt Z).2
    have v11:eI H11 v (bD p) 1:=t8.keep ac fun k Z=>O k (t8.lt Z).2;have q11:ed H11 w8 (bD p) g.next:=s8.keep ac fun k Z=>O k (s8.lt Z).2
    have c8:∀k,bc w8 k->k<L.next:=fun k Z=>(s8.lt Z).2
    have cu:∀k,bc u6 k->k<g.next:=fun k Z=>(s6.lt Z).2
    have s11':ed H11 w11 (p.funcs[i].params++p.funcs[i].ao) L.next:=s11
    have hfl:(p.funcs[i].params++p.funcs[i].ao).length<2^38:=bW;have m11:L.next+1<=H11.next:=ac
    have m8:g.next+1<=L.next:=ac
    clear s11 a11 f11 a9 f9 s10 s9 a8 f8 s8 a6 f6 s6 n9 n11 o8 o6 s7 t7 old8 J old5 s5b t8 u8 t6 t5 g9 g9a g9b g8 g6 g5 e8 e5;generalize p.funcs[i].params++p.funcs[i].ao=C at *;have hln:=fun H'=>s11'.len (H':=H');refine bY [1,3,4,6,7,9] [0] 10 C.length (fun j E H=>∃w Y,E.at 8=w/\ed H w Y g.next/\(∀k,bc w k->¬bc w11 k)/\ed H w11 C L.next/\eI H v (bD p) 1/\ed H u6 (seen++[p.funcs[i].name]) H2.next/\bU (bD p) C=bU Y (C.drop j)/\Y.length=(bD p).length+j) eE ⟨w8,bD p,eE,q11,fun k h1 h2=>by have:=c8 k h1;have:=(s11'.lt h2).1;omega,s11',v11,u11,au,rfl⟩ ?_;rintro j E3 H12 hj hcE m hnH hsI ⟨w,Y,k8,q12,hno,r12,v12,u12,hJ3,hsl2⟩;(try simp only[bq,aT,aN,aG,aR,Nat.reduceBEq, *]at hcE);(try simp only[bq,aT,aN, *]at m);(try simp only[aZ,br,bX,bK,Nat.reduceAdd]at hnH);have hB0:(0 == H12.next)=false:=aX ac;have hC0:(H12.next == 0)=false:=aX ac;repeat' (first
     |(apply aj ?_;clear hK K)|apply aO ?_|(apply bp ?_ ?_<;>(intro hb hbp;try(cases hb;done)))|(apply ak fun K hK=>?_)|fail)
    .have hlt2:j<C.length:=by simpa using hb
     obtain⟨q,ia,ld⟩:=r12.at hlt2;have hdr2:bU Y (C.drop j)=(bu Y C[j]||bU (Y++[C[j]]) (C.drop (j+1))):=by rw[ft hlt2];rfl
     refine eh ?_;refine qd ?_;refine aY ?_ (Js (fun _=>rfl) rfl (.inr q12) ac C[j]);rintro w0 I ⟨rfl,s13,n13,f13,o13⟩;have m13:H12.next<=I.next:=ac
     clear n13;dsimp only[aU];have g130:I.get 0=some (.cells p.cells 0 true):=by rw[f13 0 ac];exact m
     have r13:ed I w11 C L.next:=r12.keep m13 fun k Z=>o13 k fun h=>hno k h Z
     have v13:eI I v (bD p) 1:=v12.keep m13 fun k Z=>f13 k (by have:=c3 k Z;omega);have u13:ed I u6 (seen++[p.funcs[i].name]) H2.next:=u12.keep m13 fun k Z=>f13 k (cu k Z)
     clear ia ld;obtain⟨q2,ia2,ld2⟩:=r13.at hlt2;repeat' (first
      |(apply aj ?_;clear hK K)|apply aO ?_|(apply bp ?_ ?_<;>(intro hb hbp;try(cases hb;done)))|(apply ak fun K hK=>?_)|fail)
     .all_goals refine qq ?_
      rw[me,hJ',hJ2,hdr,hJ3,hdr2];(try simp only[dH]at *);simp only[ *,rM,]
     have U:∀k,k<I.next->(I.alloc (.cells [.aq C[j]] 0 true)).get k=I.get k:=fun k Z=>fq
     have s13b:eI (I.alloc (.cells [.aq C[j]] 0 true)) w Y g.next:=s13.keep (dA _) fun k Z=>U k (s13.lt Z).2
     obtain⟨w14,H14,a14,s14,n14,f14,o14⟩:=xB (r:=I.next) (imm:=0) C[j] s13b dG fG ac;simp only[aZ]at n14;have m14:I.next+2<=H14.next:=ac
     clear n14;have g140:H14.get 0=some (.cells p.cells 0 true):=by rw[f14 0 ac,U _ ac];exact g130
     refine jP cV cV (by rw[V];exact a14) ?_;refine eh ?_;refine⟨ac,aK,aK,bG,Fk,?_⟩;refine⟨w14,Y++[C[j]],eE,s14,fun k h1 h2=>?_,?_,?_,?_,by rw[hJ3,hdr2];(try simp only[dH]at *);simp only[*,il,],by simp[hsl2];omega⟩
     .have Z:=(r13.lt h2).2;rcases o14.2 k h1 with h3|h3
      .exact hno k h3 h2
      .simp only[aZ]at h3;omega
     .refine r13.keep ac fun k Z=>?_;have hl:=(r13.lt Z).2;rw[o14.1 k dG (fun h=>hno k h Z),U k hl]
     .exact v13.keep ac fun k Z=>by rw[f14 k (by have:=c3 k Z;omega),U k (v13.lt Z).2]
     .exact u13.keep ac fun k Z=>by rw[f14 k (cu k Z),U k (u13.lt Z).2]
    .have hje:j=C.length:=by simp at hb;omega
     rw[hje,gH]at hJ3;have hJ3':bU (bD p) C=false:=hJ3;refine⟨ac,aK,aK,bG,pA,?_⟩;exact⟨u6,seen++[p.funcs[i].name],eE,.inr u12,v12,by rw[hJ2,hdr,hJ3'];(try simp only[dH]at *);simp only[*,il,io,],by simp[hsl]⟩
  .all_goals refine qq ?_
   have hie:i=p.funcs.length:=sB;rw[hie,gH]at hJ2;have hJ2':md (bD p) [] p.funcs=false:=hJ2;rw[me,hJ',hJ2'];rfl)
end
section
def tyR3h.tyF:=ad @ec (ad @cA (ad @dw (ad @iL (ad @fU (ad @fM (ad @fb (ad @I7 (ad @gQ (ad @jA (ad @fL (@gF)))))))))))
open tyR3h
noncomputable def Qc:{c:SC // aC 43 (f97.body.getD .skip)=c}:=by
 refine⟨?_,?_⟩;rotate_left
 .simp only[f97,bz,aC,bw,bt,bA,bB,Nat.blt,Nat.ble];rfl
noncomputable def Qd:{c:SC // aC 64 (f149.body.getD .skip)=c}:=by
 refine⟨?_,?_⟩;rotate_left
 .simp only[f149,bz,aC,bw,bt,bA,bB,Nat.blt,Nat.ble];rfl
structure Sc where
 vars:qw
 aa:Option qw
 p:Pr
def Sc.an(x:Sc):qw:=x.aa.getD []
def tB:Option qw->AV
 |none=>.ak
 |some l=>cZ l
def Sc.cells(x:Sc):qt:=[cZ x.vars,tB x.aa,.aE (x.p.aa.map Ar.cells),.aE (x.p.funcs.map Fu.cells)]
def Sc.ok(x:Sc):Prop:=x.vars.length<2^60/\x.an.length<2^60/\x.p.sz<2^60
theorem Sc.c0(x:Sc):x.cells[0]?=some (cZ x.vars):=rfl
theorem Sc.c1(x:Sc):x.cells[1]?=some (tB x.aa):=rfl
theorem Sc.a8(x:Sc):cI 4 x.cells=some (.agg x.cells):=rfl
def BH:=@Sc.a8
theorem Qe(x:Sc):cI 2 (x.cells.drop 2)=some (.agg x.p.cells):=rfl
def zeA(a:Option qw):fY (tB a):=by
 cases a with
 |none=>exact .ak
 |some l=>exact vB l
def Sc.pure(x:Sc):ip x.cells:=.cons (vB _) (.cons (zeA _) x.p.pure)
def zeB{a b:Option qw}(h:tB a=tB b):a=b:=by
 cases a<;>cases b<;>simp only[tB,reduceCtorEq,AV.aE.injEq]at h
 .rfl
 .rw[xr h]
def Sc.inj{x y:Sc}(h:x.cells=y.cells):x=y:=by
 obtain⟨v,a,p⟩:=x;obtain⟨Z,Y,O⟩:=y;simp only[Sc.cells,dN,AV.aE.injEq,aN]at h;obtain⟨i,g,m,U⟩:=h;rw[xr i,zeB g,Pr.inj (x:=p) (y:=O) (by simp[Pr.cells,m,U])]
section
variable (vs an:qw)
def i9(x:Ex):Bool:=(!decide (x.aw=2)||bu vs x.name)&&(!decide (x.aw=3)||bu an x.name)
mutual
def en:Ex->Bool
 | .mk k n s o z=>fo z&&i9 vs an (.mk k n s o z)
def fo:qH->Bool
 |[]=>true
 |e::es=>en e&&fo es
end
theorem BI(x:Ex):en vs an x=(fo vs an x.aj&&i9 vs an x):=by cases x;rw[en];rfl
end
def rV(x:Sc×Ex):qt:=[.agg x.1.cells,.agg x.2.cells]
def Fp(x y:Sc×Ex)(h:rV x=rV y):x=y:=by
 simp only[rV,dN,AV.agg.injEq,aN]at h;exact n1 (Sc.inj h.1) (Ex.inj h.2)
def Fq{l:qB}(J:∀i,cM l 148 i=tu.sp i)(a:Option qw)(z:(a.getD []).length<2^60)(s:qx)(H:Hp):
 aM prog (ay pls l) 148 [tB a,.aq s] H fun v H'=>v=.bool (bu (a.getD []) s)/\H'=H:=by
 have:=bZ (P:=prog) (pls:=pls) (l:=l) (enc:=uy) (ok:=fun x=>(x.1.getD []).length<2^60) (out:=fun x=>.bool (bu (x.1.getD []) x.2)) Jq (g:=148) (x:=(a,s)) (J _) z (H:=H);cases a<;>exact this
def zeC:∀x:Sc×Ex,(x.1.ok/\x.2.sz<2^60)->bF prog ρ 97 (rV x) (.bool (en x.1.vars x.1.an x.2)):=
 xq fit (pls:=pls) (l:=[tu]) ⟨Jr ρ,trivial⟩ (fun x=>x.2.sz) (ok:=fun x=>x.1.ok/\x.2.sz<2^60) (enc:=rV) (out:=fun x=>.bool (en x.1.vars x.1.an x.2)) (fun x _=>.cons (.agg x.1.pure) (.cons (.agg x.2.pure) .nil)) (fun x _=>.bool _) (fun x z=>by
 have L:=xz (sz:=fun x:Sc×Ex=>x.2.sz) (ok:=fun x=>x.1.ok/\x.2.sz<2^60) (out:=fun x=>.bool (en x.1.vars x.1.an x.2)) Fp (f:=97) (l:=[tu]) x;generalize J:(⟨97,false,bQ (fun y=>(y.1.ok/\y.2.sz<2^60)/\y.2.sz<x.2.sz) rV fun x=>.bool (en x.1.vars x.1.an x.2)⟩:En)::[tu]=l at L⊢;obtain⟨c,x⟩:=x;obtain⟨hc,z⟩:=z;simp only[]at z hc;have kr:∀y:Ex,y.sz<x.sz->∀H,aM prog (ay pls l) 97 [.agg c.cells,.agg y.cells] H fun v H'=>v=.bool (en c.vars c.an y)/\H'=H:=fun y h2 H=>by
  subst J;exact bZ (enc:=rV) (out:=fun x=>.bool (en x.1.vars x.1.an x.2)) Fp (x:=(c,y)) rfl ⟨⟨hc,uF⟩,h2⟩
 have kv:∀s H,aM prog (ay pls l) 148 [cZ c.vars,.aq s] H fun v H'=>v=.bool (bu c.vars s)/\H'=H:=fun s H=>by
  subst J;exact Fq (fun _=>rfl) (some c.vars) hc.1 s H
 have ka:∀s H,aM prog (ay pls l) 148 [tB c.aa,.aq s] H fun v H'=>v=.bool (bu c.an s)/\H'=H:=fun s H=>by
  subst J;exact Fq (fun _=>rfl) c.aa hc.2.1 s H
 have hsz:=x.aT;have hlen:=rE x.aj;change aM _ _ _ [.agg c.cells,.agg x.cells] _ _;refine a0 (M:=43) (rs:=[.tmp 4]) L.call L.aG L.az func97 rfl rfl Qc.2 rfl ?_;dsimp only[Qc,aW,Nat.reduceAdd];refine iX ?_;refine bY [2,3] [0,1] 5 x.aj.length (fun i E H=>fo c.vars c.an x.aj=fo c.vars c.an (x.aj.drop i)) eE au ?_;rintro i E Y hi U m O hsI V;(try simp only[bq,aT,aN,aG,aR,Nat.reduceBEq, *]at U);(try simp only[bq,aT,aN,aG,aR,Nat.reduceBEq, *]at m);(try simp only[aZ,bX,bK,Nat.reduceAdd]at O);have hB0:(0 == Y.next)=false:=aX ac;have hC0:(Y.next == 0)=false:=aX ac;have hB1:(1 == Y.next)=false:=aX ac;have hC1:(Y.next == 1)=false:=aX ac;have I:=@Sc.c0;have gh1:=@Sc.c1;have gh2:=@BH;repeat' (first
  |(apply aj ?_;clear hK K)|apply aO ?_|(apply ez ?_;first|refine Rx.k (kv _ _) ?_|refine Rx.k (ka _ _) ?_)|(apply cD ?_ ?_<;>(intro hg hgp;try(cases hg;done)))|(apply bp ?_ ?_<;>(intro hb hbp;try(cases hb;done)))|(apply ak fun K hK=>?_)|(apply da 4 [(0,6),(2,6),(5,6)] fun K hK=>?_)|(apply ce ?_;try intro _)|fail)
 .have j:i<x.aj.length:=by simpa using hb
  have hgx:x.aj[i]?=some x.aj[i]:=aL j;have hm:=py (cB j);have Z:fo c.vars c.an (x.aj.drop i)=(en c.vars c.an x.aj[i]&&fo c.vars c.an (x.aj.drop (i+1))):=ng;have I:=@BH;repeat' (first
   |(apply aj ?_;clear hK K)|apply aO ?_|(apply ez ?_;first|refine Rx.k (kr _ ac _) ?_)|(apply bp ?_ ?_<;>(intro hb hbp;try(cases hb;done)))|(apply ak fun K hK=>?_)|(apply ce ?_;try intro _)|(apply di ?_ ?_<;>clear hK K)|fail)
  .exact bN
  all_goals (first|(refine⟨aq,_,aF,?_⟩;(try simp only[am]);rw[BI,V,Z];(try simp only[lH]at *);simp only[*,em,];done)|skip)
  refine⟨ac,aK,aK,bG,Jk,?_⟩;rw[V,Z];(try simp only[i8]at *);simp only[*,el,]
 all_goals
  have C:i=x.aj.length:=ac;rw[C,gH]at V;have g:fo c.vars c.an x.aj=true:=V;clear V;all_goals refine qq ?_
  rw[BI,g,i9];(try simp only[dH]at *);simp only[ *,il,io,rM,pG,lX,iC,])
def kG(c:Sc)(x:St):Bool:=
 if x.aw=1 then bu c.vars x.name
 else if x.aw=6 then bu c.vars x.name&&decide (0<=dr c.p.funcs x.to 0)
 else if x.aw=2 then bu c.an x.name
 else true
def kH(c:Sc)(x:St):Bool:=fo c.vars c.an x.args&&en c.vars c.an x.a6&&en c.vars c.an x.value&&kG c x
def BJ(x:Sc×St):qt:=[.agg x.1.cells,.agg x.2.cells]
def zeD(x y:Sc×St)(h:BJ x=BJ y):x=y:=by
 simp only[BJ,dN,AV.agg.injEq,aN]at h;exact n1 (Sc.inj h.1) (St.inj h.2)
noncomputable def J5:En:=⟨97,true,bQ (fun x=>x.1.ok/\x.2.sz<2^60) rV fun x=>.bool (en x.1.vars x.1.an x.2)⟩
def Qf:co prog ρ J5:=cz fun x z=>zeC ρ x z
def xQ(x:Pr×qx):qt:=[.agg x.1.cells,.aq x.2]
def J6(x y:Pr×qx)(h:xQ x=xQ y):x=y:=by
 simp only[xQ,dN,AV.agg.injEq,AV.aq.injEq,aN]at h;exact n1 (Pr.inj h.1) h.2
noncomputable def xR:En:=⟨55,false,bQ (fun x=>x.1.funcs.length<2^60) xQ fun x=>.int .i64 (dr x.1.funcs x.2 0)⟩
def Fs:co prog ρ xR:=cz fun x z=>zcv ρ x.1 x.2 z
noncomputable def zn:qB:=[tu,xR,J5]
def zeE:eU prog ρ zn:=⟨Jr ρ,Fs ρ,Qf ρ,trivial⟩
theorem zeF(c:Sc)(x:St)(g:c.ok)(hx:x.sz<2^60):bF prog ρ 149 [.agg c.cells,.agg x.cells] (.bool (kH c x)):=dE fit (pls:=pls) (zeE ρ) (.cons (.agg c.pure) (.cons (.agg x.pure) .nil)) (.bool _) (by
 have L:zd0 (ay pls zn) 149:=db (fun _=>rfl) rfl;have kr:∀y:Ex,y.sz<2^60->∀H,aM prog (ay pls zn) 97 [.agg c.cells,.agg y.cells] H fun v H'=>v=.bool (en c.vars c.an y)/\H'=H:=fun y h2 H=>bZ (enc:=rV) (out:=fun x=>.bool (en x.1.vars x.1.an x.2)) Fp (x:=(c,y)) rfl ⟨g,h2⟩;have kv:∀s H,aM prog (ay pls zn) 148 [cZ c.vars,.aq s] H fun v H'=>v=.bool (bu c.vars s)/\H'=H:=fun s H=>Fq (fun _=>rfl) (some c.vars) g.1 s H;have ka:∀s H,aM prog (ay pls zn) 148 [tB c.aa,.aq s] H fun v H'=>v=.bool (bu c.an s)/\H'=H:=fun s H=>Fq (fun _=>rfl) c.aa g.2.1 s H;have O:c.p.funcs.length<2^60:=by have h:=g.2.2;have h2:c.p.sz=1+eV c.p.aa+fg c.p.funcs:=rfl;have:=nX c.p.funcs;omega
 have kf:∀s H,aM prog (ay pls zn) 55 [.agg c.p.cells,.aq s] H fun v H'=>v=.int .i64 (dr c.p.funcs s 0)/\H'=H:=fun s H=>bZ (enc:=xQ) (out:=fun x=>.int .i64 (dr x.1.funcs x.2 0)) J6 (x:=(c.p,s)) rfl O;have hsz:=x.aT;have hlen:=rE x.args;refine a0 (M:=64) (rs:=[.tmp 4]) (L.call _) L.aG L.az func149 rfl rfl Qd.2 rfl ?_;dsimp only[Qd,aW,Nat.reduceAdd];refine iX ?_;refine bY [2,3] [0,1] 5 x.args.length (fun i E H=>fo c.vars c.an x.args=fo c.vars c.an (x.args.drop i)) eE au ?_;rintro i E Y hi U m z hsI V;(try simp only[bq,aT,aN,aG,aR,Nat.reduceBEq, *]at U);(try simp only[bq,aT,aN,aG,aR,Nat.reduceBEq, *]at m);(try simp only[aZ,bX,bK,Nat.reduceAdd]at z);have hB0:(0 == Y.next)=false:=aX ac;have hC0:(Y.next == 0)=false:=aX ac;have hB1:(1 == Y.next)=false:=aX ac;have hC1:(Y.next == 1)=false:=aX ac;have J:=@Sc.c0;have gh1:=@Sc.c1;have gh2:=@BH;have gh3:=@Qe;repeat' (first
  |(apply aj ?_;clear hK K)|apply aO ?_|(apply ez ?_;first|refine Rx.k (kr _ ac _) ?_|refine Rx.k (kf _ _) ?_|refine Rx.k (kv _ _) ?_|refine Rx.k (ka _ _) ?_)|(apply cD ?_ ?_<;>(intro hg hgp;try(cases hg;done)))|(apply bp ?_ ?_<;>(intro hb hbp;try(cases hb;done)))|(apply ak fun K hK=>?_)|(apply da 4 [(0,6),(2,6),(5,6)] fun K hK=>?_)|(apply ce ?_;try intro _)|fail)
 .have j:i<x.args.length:=by simpa using hb
  have hgx:x.args[i]?=some x.args[i]:=aL j;have hm:=py (cB j);have Z:fo c.vars c.an (x.args.drop i)=(en c.vars c.an x.args[i]&&fo c.vars c.an (x.args.drop (i+1))):=ng;have J:=@BH;repeat' (first
   |(apply aj ?_;clear hK K)|apply aO ?_|(apply ez ?_;first|refine Rx.k (kr _ ac _) ?_)|(apply bp ?_ ?_<;>(intro hb hbp;try(cases hb;done)))|(apply ak fun K hK=>?_)|(apply ce ?_;try intro _)|(apply di ?_ ?_<;>clear hK K)|fail)
  .exact bN
  all_goals (first|(refine⟨aq,_,aF,?_⟩;(try simp only[am]);rw[kH,V,Z];(try simp only[lH]at *);simp only[*,em,];done)|skip)
  refine⟨ac,aK,aK,bG,EO,?_⟩;rw[V,Z];(try simp only[i8]at *);simp only[*,el,]
 all_goals
  have I:i=x.args.length:=ac;rw[I,gH]at V;have C:fo c.vars c.an x.args=true:=V;clear V;all_goals refine qq ?_
  rw[kH,C,kG];(try simp only[dH]at *);simp only[ *,pG,dh,dD,Int.reduceEq])
end
variable{p:Pr}
section
def tyR3i.tyF:=ad @cA (ad @dw (ad @gQ (ad @jA (ad @iL (ad @fU (ad @fL (ad @fM (ad @fb (ad @nf (ad @gF (ad @I7 (ad @Qe (@BH)))))))))))))
open tyR3i
noncomputable def Qg:{c:SC // aC 59 (f96.body.getD .skip)=c}:=by
 refine⟨?_,?_⟩;rotate_left
 .simp only[f96,bz,aC,bw,bt,bA,bB,Nat.blt,Nat.ble];rfl
def pJ(p:Pr)(s:qx):Nat:=((p.funcs[(dr p.funcs s 0).toNat]?).map fun f=>f.params.length).getD 0
def lM(p:Pr)(x:St):Bool:=!(decide (x.aw=6) && !decide ((x.args.length:Int)=pJ p x.to))
section
variable (c:Sc)
mutual
def gR(b:Bool):St->Bool
 | .mk k J Z n a v O j m=>(bif b then lM c.p (.mk k J Z n a v O j m)else kH c (.mk k J Z n a v O j m))&&dq b j&&dq b m
def dq(b:Bool):qE->Bool
 |[]=>true
 |x::l=>gR b x&&dq b l
end
theorem BK(b:Bool)(x:St):gR c b x=((bif b then lM c.p x else kH c x)&&dq c b x.a9&&dq c b x.bl):=by cases x;rw[gR];rfl
end
section
variable (p:Pr)
mutual
def zo:St->Bool
 | .mk k Z J n a v O j m=>(!decide (k=6)||decide (0<=dr p.funcs J 0))&&pK j&&pK m
def pK:qE->Bool
 |[]=>true
 |x::l=>zo x&&pK l
end
theorem Qh(x:St):zo p x=((!decide (x.aw=6)||decide (0<=dr p.funcs x.to 0))&&pK p x.a9&&pK p x.bl):=by cases x;rw[zo];rfl
end
theorem Qi{p:Pr}:∀{l:qE}{x:St},pK p l=true->x∈l->zo p x=true
 |[],_,_,h=>by simp at h
 |e::es,x,hc,h=>by
  simp only[pK,cj]at hc;rcases gE.1 h with rfl|h
  .exact hc.1
  .exact Qi hc.2 h
theorem Ft:∀(l:qQ) (s:qx) (i:Nat),0<=dr l s i->∃k,k<l.length/\dr l s i=((i+k:Nat):Int)
 |[],s,i,h=>by simp[dr]at h
 |f::l,s,i,h=>by
  simp only[dr]at h⊢;split
  .exact⟨0,au,au⟩
  .rename_i I;rw[af I]at h;obtain⟨k,Z,g⟩:=Ft l s (i+1) (by exact h);exact⟨k+1,ub,by rw[show((i:Int)+1)=((i+1:Nat):Int) by omega,g];omega⟩
theorem zeG{s:qx}(h:0<=dr p.funcs s 0):∃g,p.funcs[(dr p.funcs s 0).toNat]?=some g/\pJ p s=g.params.length:=by
 obtain⟨k,i,Z⟩:=Ft p.funcs s 0 h;have e:(dr p.funcs s 0).toNat=k:=by
  have:dr p.funcs s ((0:Nat):Int)=dr p.funcs s 0:=rfl;rw[this]at Z;omega
 refine⟨p.funcs[k],?_,?_⟩
 .rw[e];exact aL i
 .unfold pJ;rw[e,aL i];rfl
theorem Sc.c3(x:Sc):x.cells[3]?=some (.aE (x.p.funcs.map Fu.cells)):=rfl
noncomputable def Qj:En:=⟨149,false,bQ (fun x=>x.1.ok/\x.2.sz<2^60) BJ fun x=>.bool (kH x.1 x.2)⟩
def zeH:co prog ρ Qj:=cz fun x z=>zeF ρ x.1 x.2 z.1 z.2
structure Cs where
 c:Sc
 l:qE
 b:Bool
def sG(x:Cs):qt:=[.agg x.c.cells,.aE (x.l.map St.cells),.bool x.b]
def J7(x y:Cs)(h:sG x=sG y):x=y:=by
 obtain⟨a,b,c⟩:=x;obtain⟨Z,U,Y⟩:=y;simp only[sG,dN,AV.agg.injEq,AV.aE.injEq,AV.bool.injEq,aN]at h;rw[Sc.inj h.1,Ek h.2.1,h.2.2]
def Cs.ok(x:Cs):Prop:=x.c.ok/\bH x.l<2^60/\(x.b=true->pK x.c.p x.l=true)
noncomputable def J8:qB:=[xR,Qj]
def zeI:eU prog ρ J8:=⟨Fs ρ,zeH ρ,trivial⟩
def vU(x:Cs):AV:=.bool (dq x.c x.b x.l)
set_option maxRecDepth 100000 in
theorem zeJ:∀x:Cs,x.ok->bF prog ρ 96 (sG x) (vU x):=
 xq fit (pls:=pls) (zeI ρ) (fun x=>bH x.l) (ok:=Cs.ok) (enc:=sG) (out:=vU) (fun x _=>.cons (.agg x.c.pure) (.cons (Bc _) (.cons (.bool _) .nil))) (fun x _=>.bool _) (fun x I=>by
 have J:=xz (sz:=fun x:Cs=>bH x.l) (ok:=Cs.ok) (out:=vU) J7 (f:=96) (l:=J8) x;generalize hl:(⟨96,false,bQ (fun y=>Cs.ok y/\bH y.l<bH x.l) sG vU⟩:En)::J8=l at J⊢;obtain⟨c,x,b⟩:=x;obtain⟨hc,I,Y⟩:=I;simp only[]at hc I Y;have L:∀y:qE,bH y<bH x->(b=true->pK c.p y=true)->∀H,aM prog (ay pls l) 96 [.agg c.cells,.aE (y.map St.cells),.bool b] H fun v H'=>v=.bool (dq c b y)/\H'=H:=fun y O h3 H=>by
  subst hl;exact bZ (enc:=sG) (out:=vU) J7 (x:=⟨c,y,b⟩) rfl ⟨⟨hc,uF,h3⟩,O⟩
 have kd:∀y:St,y.sz<2^60->∀H,aM prog (ay pls l) 149 [.agg c.cells,.agg y.cells] H fun v H'=>v=.bool (kH c y)/\H'=H:=fun y O H=>by
  subst hl;exact bZ (enc:=BJ) (out:=fun x=>.bool (kH x.1 x.2)) zeD (x:=(c,y)) rfl ⟨hc,O⟩
 have hpf:c.p.funcs.length<2^60:=by have h:=hc.2.2;have O:c.p.sz=1+eV c.p.aa+fg c.p.funcs:=rfl;have:=nX c.p.funcs;omega
 have kf:∀s H,aM prog (ay pls l) 55 [.agg c.p.cells,.aq s] H fun v H'=>v=.int .i64 (dr c.p.funcs s 0)/\H'=H:=fun s H=>by
  subst hl;exact bZ (enc:=xQ) (out:=fun x=>.int .i64 (dr x.1.funcs x.2 0)) J6 (x:=(c.p,s)) rfl hpf
 have hlen:=vA x;have hplan:∀id,(ay pls l).bU 96 id=.text:=fun _=>by first|rfl|(simp[ay,AS,pls])
 change aM _ _ _ [.agg c.cells,.aE (x.map St.cells),.bool b] _ _;refine a0 (M:=59) (rs:=[.tmp 6]) J.call J.aG J.az func96 rfl rfl Qg.2 rfl ?_;dsimp only[Qg,aW,Nat.reduceAdd];refine eP ?_;refine bY [1,2,3] [0] 7 x.length (fun i E H=>dq c b x=dq c b (x.drop i)) eE au ?_;rintro i E H2 hi hcE hrH hnH hsI V;(try simp only[bq,aT,aN,aG,aR,Nat.reduceBEq, *]at hcE);(try simp only[bq,aT,aN,aG,aR, *]at hrH);(try simp only[aZ,bX,bK]at hnH);have hB0:(0 == H2.next)=false:=aX ac;have hC0:(H2.next == 0)=false:=aX ac;repeat' (first
  |(apply aj ?_;clear hK K)|apply aO ?_|(apply bp ?_ ?_<;>(intro hb hbp;try(cases hb;done)))|(apply ak fun K hK=>?_)|fail)
 .have j:i<x.length:=by simpa using hb
  have hgx:x[i]?=some x[i]:=aL j;have hsm:=rF (cB j);have hsz:=x[i].aT;have hcl:b=true->zo c.p x[i]=true:=fun h=>Qi (Y h) (cB j);have Z:dq c b (x.drop i)=(gR c b x[i]&&dq c b (x.drop (i+1))):=ng;rw[BK]at Z;cases b with
  |false=>
   rw[rz]at Z;repeat' (first
    |(apply aj ?_;clear hK K)|apply aO ?_|(apply ez ?_;first|refine Rx.k (kd _ ac _) ?_|refine Rx.k (L _ ac (fun h=>mS) _) ?_)|(apply cD ?_ ?_<;>(intro hg hgp;try(cases hg;done)))|(apply bp ?_ ?_<;>(intro hb hbp;try(cases hb;done)))|(apply ak fun K hK=>?_)|fail)
   all_goals (first|(refine⟨aq,_,aF,?_⟩;(try simp only[am]);change _=AV.bool (dq c _ x);rw[V,Z];(try simp only[dH]at *);simp only[ *,oL,gW,];done)|skip)
   refine⟨ac,aK,aK,bG,vG,?_⟩;rw[V,Z];(try simp only[i8]at *);simp only[ *,tz,]
  |true=>
   rw[ji]at Z;have C:=hcl rfl;rw[Qh,cj,cj]at C;obtain⟨⟨hk6,U⟩,m⟩:=C;by_cases h6:x[i].aw=6
   .have hf0:0<=dr c.p.funcs x[i].to 0:=by simpa [h6]using hk6
    obtain⟨g,hg6,z⟩:=zeG hf0;have gh0:=@Sc.c3;repeat' (first
     |(apply aj ?_;clear hK K)|apply aQ ?_|(apply ch ?_;first|refine Rx.k (kf _ _) ?_|refine Rx.k (L _ ac (fun _=>U) _) ?_|refine Rx.k (L _ ac (fun _=>m) _) ?_)|(apply bT ?_ ?_<;>(intro hg hgp;try(cases hg;done)))|(apply aV ?_ ?_<;>(intro hb hbp;try(cases hb;done)))|(apply ak fun K hK=>?_)|(apply da 6 [(1,14),(5,14),(5,21),(6,14),(6,21),(9,14),(9,21),(11,14),(13,14),(17,21),(18,21)] fun K hK=>?_)|(apply ce ?_;try intro _)|(apply di ?_ ?_<;>clear hK K)|(apply rD ?_ ?_<;>(intro hg hgp;try(cases hg;done)))|fail)
    .exact bN
    all_goals (first|(refine⟨aq,_,aF,?_⟩;(try simp only[am]);change _=AV.bool (dq c _ x);rw[V,Z,lM,z];(try simp only[dH]at *);simp only[ *,i4,oL,gW,lX,iC,];done)|skip)
    refine⟨ac,aK,aK,bG,vG,?_⟩;rw[V,Z,lM,z];(try simp only[i8]at *);simp only[ *,i4,pC,tz,lX,iC,]
   .have gh0:=@Sc.c3;repeat' (first
     |(apply aj ?_;clear hK K)|apply aQ ?_|(apply ch ?_;first|refine Rx.k (L _ ac (fun _=>U) _) ?_|refine Rx.k (L _ ac (fun _=>m) _) ?_)|(apply bT ?_ ?_<;>(intro hg hgp;try(cases hg;done)))|(apply aV ?_ ?_<;>(intro hb hbp;try(cases hb;done)))|(apply ak fun K hK=>?_)|(apply da 6 [(1,14),(5,14),(5,21),(6,14),(6,21),(9,14),(9,21),(11,14),(13,14),(17,21),(18,21)] fun K hK=>?_)|(apply ce ?_;try intro _)|(apply di ?_ ?_<;>clear hK K)|(apply rD ?_ ?_<;>(intro hg hgp;try(cases hg;done)))|fail)
    .exact bN
    all_goals (first|(refine⟨aq,_,aF,?_⟩;(try simp only[am]);change _=AV.bool (dq c _ x);rw[V,Z,lM];(try simp only[dH]at *);simp only[ *,gD,oL,gW,iC,];done)|skip)
    refine⟨ac,aK,aK,bG,vG,?_⟩;rw[V,Z,lM];(try simp only[i8]at *);simp only[ *,gD,em,tz,iC,]
 .all_goals refine qq ?_
  rw[vU,V,show i=x.length by simp at hb;omega];simp[dq])
end
variable{l:qw}
section
def tyR3j.tyF:=ad @ec (ad @cA (ad @dw (ad @gQ (ad @jA (ad @iL (ad @fU (ad @fL (ad @fM (ad @fb (ad @nf (ad @lJ (ad @gF (ad @I7 (ad @P9 (@Fo)))))))))))))))
open tyR3j
noncomputable def Qk:{c:SC // aC 86 (f54.body.getD .skip)=c}:=by
 refine⟨?_,?_⟩;rotate_left
 .simp only[f54,bz,aC,bw,bt,bA,bB,Nat.blt,Nat.ble];rfl
def zeK{c c':Sc}(h1:c.vars=c'.vars)(h2:c.an=c'.an)(m:c.p=c'.p)(x:St):kH c x=kH c' x:=by
 unfold kH kG;rw[h1,h2,m]
mutual
theorem zeL{c c':Sc}(h1:c.vars=c'.vars)(h2:c.an=c'.an)(m:c.p=c'.p)(b:Bool):∀x:St,gR c b x=gR c' b x
 | .mk k J Y n a v O j Z=>by
   simp only[gR,Fv h1 h2 m b j,Fv h1 h2 m b Z,zeK h1 h2 m,m]
theorem Fv{c c':Sc}(h1:c.vars=c'.vars)(h2:c.an=c'.an)(m:c.p=c'.p)(b:Bool):∀l:qE,dq c b l=dq c' b l
 |[]=>rfl
 |x::l=>by simp only[dq,zeL h1 h2 m b x,Fv h1 h2 m b l]
end
def pL(v:AV)(l:qw):Option qw:=match v with
 | .ak=>none
 |_=>some l
theorem J9(h:eI H v l lo):(pL v l).getD []=l:=by
 rcases h with⟨rfl,rfl⟩|⟨r,V,rfl,_⟩<;>rfl
theorem eI.eB(h:eI H v l lo)(n:Nat):
 ∃H',fF (n+2) v H=some (tB (pL v l),H')/\eI H' v l lo/\H'.next=H.next/\∀k,¬bc v k->H'.get k=H.get k:=by
 rcases h with⟨rfl,rfl⟩|h
 .exact⟨H,rfl,.inl ⟨rfl,rfl⟩,rfl,fun _ _=>rfl⟩
 .obtain⟨H',i,g,m,_,M⟩:=h.aG n;refine⟨H',?_,.inr g,m,M⟩;rw[i];obtain⟨r,V,rfl,_⟩:=h;rfl
theorem Qm{vs U:qw}{lo':Nat}(L:ed H w vs lo)(Z:eI H a U lo')(hd:∀k,bc a k->¬bc w k)(p:Pr)(n:Nat):
 ∃H',fF (n+3) (.agg [w,a,.aE (p.aa.map Ar.cells),.aE (p.funcs.map Fu.cells)]) H=some (.agg (Sc.cells ⟨vs,pL a U,p⟩),H')/\ed H' w vs lo/\eI H' a U lo'/\H'.next=H.next/\∀k,¬bc w k->¬bc a k->H'.get k=H.get k:=by
 obtain⟨H1,i,g,m,_,M⟩:=L.aG n;have z:eI H1 a U lo':=Z.keep ac fun k j=>M k (hd k j);obtain⟨V,O,I,g3,J⟩:=z.eB n;refine⟨V,?_,g.keep ac fun k j=>J k fun h=>hd k h j,I,ac,fun k h Y=>by rw[J k Y,M k h]⟩;have e:fF (n+3) (.agg [w,a,.aE (p.aa.map Ar.cells),.aE (p.funcs.map Fu.cells)]) H=match iA (fF (n+2)) [w,a,.aE (p.aa.map Ar.cells),.aE (p.funcs.map Fu.cells)] H with
  |some (C,H)=>some (.agg C,H)
  |none=>none:=rfl
 rw[e];simp only[iA,i,O];rfl
noncomputable def Qn:En:=⟨96,true,bQ Cs.ok sG vU⟩
def zeM:co prog ρ Qn:=cz fun x z=>zeJ ρ x z
noncomputable def Qo:En:=⟨93,false,bQ (fun p=>p.sz<2^36) fD fun p=>.bool (jD p)⟩
def zeN:co prog ρ Qo:=cz fun p hp=>zef ρ p ac
noncomputable def Qp:En:=⟨94,false,bQ (fun p=>p.sz<2^36) fD fun p=>.bool (iM p)⟩
def zeO:co prog ρ Qp:=cz fun p hp=>zey ρ p hp
noncomputable def Qq:En:=⟨95,false,bQ (fun p=>p.sz<2^36) fD fun p=>.bool (me p)⟩
def zeP:co prog ρ Qq:=cz fun p hp=>zez ρ p hp
noncomputable def vV:qB:=[Qo,Qp,Qq,Qn,J5]
def zeQ:eU prog ρ vV:=⟨zeN ρ,zeO ρ,zeP ρ,zeM ρ,Qf ρ,trivial⟩
def iw(p:Pr)(f:Fu):Sc:=⟨f.params++f.ao,some (bD p),p⟩
def jj(p:Pr)(f:Fu):Bool:=!(dq (iw p f) false f.body&&en (iw p f).vars (iw p f).an f.value)
def li(p:Pr)(f:Fu):Bool:=!dq (iw p f) true f.body
def fx(p:Pr):Int:=if jD p=true then 6 else if iM p=false then 2 else if me p=true then 4 else if p.funcs.any (jj p)=true then 3 else if p.funcs.any (li p)=true then 5 else 0
theorem Qr{lo':Nat}(L:ed H w (f.params++f.ao) lo)(z:eI H a (bD p) lo')(hd:∀k,bc a k->¬bc w k)(I:p.sz<2^60)(hf:f.sz<2^60)(b:Bool)(hb:b=true->pK p f.body=true):
 aM prog (ay pls vV) 96 [.agg [w,a,.aE (p.aa.map Ar.cells),.aE (p.funcs.map Fu.cells)],.aE (f.body.map St.cells),.bool b] H fun v H'=>v=.bool (dq (iw p f) b f.body)/\ed H' w (f.params++f.ao) lo/\eI H' a (bD p) lo'/\H.next<=H'.next/\∀k,¬bc w k->¬bc a k->H'.get k=H.get k:=by
 obtain⟨H',i,Z,m,h4,M⟩:=Qm L z hd p 97;have Y:f.sz=1+f.name.length+dB f.params+dB f.ao+bH f.body+f.value.sz:=rfl;have U:=jR f.params;have O:=jR f.ao;have J:p.sz=1+eV p.aa+fg p.funcs:=rfl;have C:=mC p.aa;have j:(bD p).length=p.aa.length:=vT;have g:Cs.ok ⟨⟨f.params++f.ao,pL a (bD p),p⟩,f.body,b⟩:=⟨⟨bW,PY,I⟩,uF,hb⟩;refine aY ?_ (Ef (enc:=sG) (out:=vU) J7 (x:=⟨⟨f.params++f.ao,pL a (bD p),p⟩,f.body,b⟩) (fun _=>rfl) rfl g (H':=H') (fun y _ e=>?_) ?_)
 .rintro v _ ⟨rfl,rfl⟩;refine⟨?_,Z,m,ac,M⟩;show AV.bool (dq ⟨f.params++f.ao,pL a (bD p),p⟩ b f.body)=_;rw[Fv (c:=⟨f.params++f.ao,pL a (bD p),p⟩) (c':=iw p f) rfl (J9 z) rfl]
 .obtain⟨r,V,rfl,_⟩:=L;simp[sG,Sc.cells]at e
 .show iA (fF 100) [.agg [w,a,.aE (p.aa.map Ar.cells),.aE (p.funcs.map Fu.cells)],.aE (f.body.map St.cells),.bool b] H=some (sG ⟨⟨f.params++f.ao,pL a (bD p),p⟩,f.body,b⟩,H');simp only[iA,i];rfl
theorem zeR{lo':Nat}(L:ed H w (f.params++f.ao) lo)(z:eI H a (bD p) lo')(hd:∀k,bc a k->¬bc w k)(I:p.sz<2^60)(hf:f.sz<2^60):
 aM prog (ay pls vV) 97 [.agg [w,a,.aE (p.aa.map Ar.cells),.aE (p.funcs.map Fu.cells)],.agg f.value.cells] H fun v H'=>v=.bool (en (iw p f).vars (iw p f).an f.value)/\ed H' w (f.params++f.ao) lo/\eI H' a (bD p) lo'/\H.next<=H'.next/\∀k,¬bc w k->¬bc a k->H'.get k=H.get k:=by
 obtain⟨H',i,Z,m,h4,M⟩:=Qm L z hd p 97;have Y:f.sz=1+f.name.length+dB f.params+dB f.ao+bH f.body+f.value.sz:=rfl;have U:=jR f.params;have O:=jR f.ao;have J:p.sz=1+eV p.aa+fg p.funcs:=rfl;have C:=mC p.aa;have j:(bD p).length=p.aa.length:=vT;have g:Sc.ok ⟨f.params++f.ao,pL a (bD p),p⟩/\f.value.sz<2^60:=⟨⟨bW,PY,I⟩,ac⟩;refine aY ?_ (Ef (enc:=rV) (ok:=fun x=>x.1.ok/\x.2.sz<2^60) (out:=fun x=>.bool (en x.1.vars x.1.an x.2)) Fp (x:=(⟨f.params++f.ao,pL a (bD p),p⟩,f.value)) (fun _=>rfl) rfl g (H':=H') (fun y _ e=>?_) ?_)
 .rintro v _ ⟨rfl,rfl⟩;refine⟨?_,Z,m,ac,M⟩;show AV.bool (en (f.params++f.ao) ((pL a (bD p)).getD []) f.value)=_;rw[J9 z];rfl
 .obtain⟨r,V,rfl,_⟩:=L;simp[rV,Sc.cells]at e
 .show iA (fF 100) [.agg [w,a,.aE (p.aa.map Ar.cells),.aE (p.funcs.map Fu.cells)],.agg f.value.cells] H=some (rV (⟨f.params++f.ao,pL a (bD p),p⟩,f.value),H');have he:fF 100 (.agg f.value.cells) H'=some (.agg f.value.cells,H'):=by
   rw[so];rfl
  simp only[iA,i,he];rfl
def zeS(p:Pr)(r n:Nat):dU prog 169 [(0,.sl r 0 n 1),(2,.agg p.cells)]=some (.agg [.sl r 0 n 1,.ak,.aE (p.aa.map Ar.cells),.aE (p.funcs.map Fu.cells)]):=aB
theorem Fw(a b c d:AV):cI 4 [a,b,c,d]=some (.agg [a,b,c,d]):=rfl
mutual
theorem zeT{c:Sc}:∀x:St,gR c false x=true->zo c.p x=true
 | .mk k J Y n a v O j V,h=>by
   rw[BK,rz,cj,cj]at h;obtain⟨⟨i,g⟩,m⟩:=h;rw[Qh,Fx _ g,Fx _ m];simp only[kH,cj]at i;have U:=i.2;unfold kG at U;by_cases Z:(St.mk k J Y n a v O j V).aw=6
   .rw[af (by rw[Z];decide),ah Z,cj]at U;simp only[U.2,zg,gW]
   .simp only[Z,gD,iC,mU,gW]
theorem Fx{c:Sc}:∀l:qE,dq c false l=true->pK c.p l=true
 |[],_=>rfl
 |x::l,h=>by
  simp only[dq,cj]at h;simp only[pK,zeT x h.1,Fx l h.2,gW]
end
abbrev qp:HB:=.cells [.ak,.ak,.ak,.ak] 0 true
set_option maxRecDepth 100000 in
theorem zeU(p:Pr)(hz:p.sz<2^36):bF prog ρ 54 [.agg p.cells] (.int .i64 (fx p)):=dE fit (pls:=pls) (zeQ ρ) (.cons (.agg p.pure) .nil) (.int _ _) (by
 have hw:zd0 (ay pls vV) 54:=db (fun _=>rfl) rfl;have C:(ay pls vV).keep 54=false:=rfl;have ke:∀H,aM prog (ay pls vV) 93 [.agg p.cells] H fun v H'=>v=.bool (jD p)/\H'=H:=fun H=>bZ (enc:=fD) (out:=fun p=>.bool (jD p)) pH (x:=p) rfl hz;have kw:∀H,aM prog (ay pls vV) 94 [.agg p.cells] H fun v H'=>v=.bool (iM p)/\H'=H:=fun H=>bZ (enc:=fD) (out:=fun p=>.bool (iM p)) pH (x:=p) rfl hz;have kd:∀H,aM prog (ay pls vV) 95 [.agg p.cells] H fun v H'=>v=.bool (me p)/\H'=H:=fun H=>bZ (enc:=fD) (out:=fun p=>.bool (me p)) pH (x:=p) rfl hz;have hpz:p.sz=1+eV p.aa+fg p.funcs:=rfl;have hla:=mC p.aa;have hlf:=nX p.funcs;have hal:(bD p).length=p.aa.length:=vT;refine a0 (M:=86) (rs:=[.tmp 2]) (hw.call _) hw.aG hw.az func54 rfl rfl Qk.2 rfl ?_;dsimp only[Qk,aW,Nat.reduceAdd];repeat' (first
  |(apply aj ?_;clear hK K)|apply aO ?_|(apply ez ?_;first|refine Rx.k (ke _) ?_|refine Rx.k (kw _) ?_|refine Rx.k (kd _) ?_)|(apply bp ?_ ?_<;>(intro hb hbp;try(cases hb;done)))|(apply ak fun K hK=>?_)|fail)
 .all_goals refine qq ?_
  simp_all[fx]
 .all_goals refine qq ?_
  simp_all[fx]
 .all_goals refine qq ?_
  simp_all[fx]
 .refine bY [1] [0] 3 2 (fun r E H=>(1<=r->p.funcs.any (jj p)=false)/\(2<=r->p.funcs.any (li p)=false)) eE ⟨ac,ac⟩ ?_;rintro r E H2 hr2 hcE m hnH hsI ⟨hJ1,hJ2⟩;(try simp only[bq,aT,aN,aG,aR,Nat.reduceBEq, *]at hcE);(try simp only[bq,aT,aN,aG,aR, *]at m);(try simp only[aZ,bX,bK]at hnH);have hB0:(0 == H2.next)=false:=aX ac;have hC0:(H2.next == 0)=false:=aX ac;refine nM (fun hb hbp=>?_) (fun hb hbp=>?_)
  .have hrlt:r<2:=by omega
   refine bY [1,3] [0] 4 p.funcs.length (fun i E H=>(r=0->p.funcs.any (jj p)=(p.funcs.drop i).any (jj p))/\(r=1->p.funcs.any (li p)=(p.funcs.drop i).any (li p))) eE ⟨au,au⟩ ?_;rintro i E3 g hi hcE m hnH hsI ⟨hU,hB⟩;(try simp only[bq,aT,aN,aG,Nat.reduceBEq, *]at hcE);(try simp only[bq,aT,aN, *]at m);(try simp only[aZ,br,bX,bK,Nat.reduceAdd]at hnH);have hB0:(0 == g.next)=false:=aX ac;have hC0:(g.next == 0)=false:=aX ac;repeat' (first
    |(apply aj ?_;clear hK K)|apply aO ?_|(apply bp ?_ ?_<;>(intro hb hbp;try(cases hb;done)))|(apply ak fun K hK=>?_)|fail)
   .have hlt:i<p.funcs.length:=by simpa using hb
    have hgx:p.funcs[i]?=some p.funcs[i]:=aL hlt;have hsm:=nY (cB hlt);have hsz:p.funcs[i].sz=1+p.funcs[i].name.length+dB p.funcs[i].params+dB p.funcs[i].ao+bH p.funcs[i].body+p.funcs[i].value.sz:=rfl;have hpl:=jR p.funcs[i].params;have hll:=jR p.funcs[i].ao;refine eP ?_;generalize hHb:Hp.set (Hp.alloc g _) g.next _=Z
    have nb:g.next+1<=Z.next:=EL
    have gb:Z.get g.next=some (.cells p.funcs[i].cells 0 true):=Bn
    have gb0:Z.get 0=some (.cells p.cells 0 true):=by rw[<-hHb,aA,af ac,aD,af ac];exact m
    clear hHb;refine Nx (id:=14) (ord:=[0,1,2,4,5,7,9,3,6,8,10]) (need:=[(0,7),(2,7),(4,7),(4,8),(5,7),(5,8),(5,10),(6,7),(6,8),(6,10)]) aB aB aB Oe aB fun K hK=>?_;have ebB:(g.next == Z.next)=false:=bW;have eb0:(0 == Z.next)=false:=bW;have eb1:(0 == Z.next+1)=false:=au;have eb2:(g.next == Z.next+1)=false:=bW;refine wH ?_;generalize hHd:(Z.alloc qh).alloc qp=Hd;have nd:Z.next+2<=Hd.next:=by rw[<-hHd];exact aH _
    have ndx:Hd.next<=Z.next+2:=by rw[<-hHd];exact aH _
    have oldd:∀k,k<Z.next->Hd.get k=Z.get k:=fun k Y=>by rw[<-hHd,aD,af dG,aD,af ac]
    have gd1:Hd.get Z.next=some qh:=by rw[<-hHd,aD,af dG,aD,ah rfl]
    have gds:Hd.get (Z.next+1)=some qp:=by rw[<-hHd,aD,ah (show Z.next+1=(Z.alloc _).next from rfl)]
    have gdb:Hd.get g.next=some (.cells p.funcs[i].cells 0 true):=by rw[oldd _ ac];exact gb
    have gd0:Hd.get 0=some (.cells p.cells 0 true):=by rw[oldd _ ac];exact gb0
    clear hHd;have s8:ed Hd (.sl Z.next 0 0 1) [] Z.next:=⟨Z.next,0,rfl,gd1,au,aH _,ac⟩
    have ow8:∀k,bc (.sl Z.next 0 0 1) k->k=Z.next:=fun k ⟨n,e⟩=>by simp only[AV.sl.injEq]at e;exact e.1.symm
    obtain⟨w9,H9,a9,s9,n9,f9,o9⟩:=y2 p.funcs[i].params s8 ac bW;have ow9:∀k,bc w9 k->k=Z.next\/Z.next+2<=k:=fun k Y=>(o9.2 k Y).elim (fun h=>.inl (ow8 k h)) (fun h=>.inr ac)
    have g9s:H9.get (Z.next+1)=some qp:=by rw[o9.1 _ ac (fun h=>by have:=ow8 _ h;omega)];exact gds
    have g9b:H9.get g.next=some (.cells p.funcs[i].cells 0 true):=by rw[o9.1 _ ac (fun h=>by have:=ow8 _ h;omega)];exact gdb
    have g90:H9.get 0=some (.cells p.cells 0 true):=by rw[o9.1 _ ac (fun h=>by have:=ow8 _ h;omega)];exact gd0
    refine jP cV cV (by rw[C];exact a9) ?_;refine wH ?_;obtain⟨U,H11,a11,s11,n11,f11,o11⟩:=y2 p.funcs[i].ao s9 ac bW;have ow11:∀k,bc U k->k=Z.next\/Z.next+2<=k:=fun k Y=>(o11.2 k Y).elim (fun h=>ow9 k h) (fun h=>.inr ac)
    have g11s:H11.get (Z.next+1)=some qp:=by rw[o11.1 _ ac (fun h=>by have:=ow9 _ h;omega)];exact g9s
    have g11b:H11.get g.next=some (.cells p.funcs[i].cells 0 true):=by rw[o11.1 _ ac (fun h=>by have:=ow9 _ h;omega)];exact g9b
    have g110:H11.get 0=some (.cells p.cells 0 true):=by rw[o11.1 _ ac (fun h=>by have:=ow9 _ h;omega)];exact g90
    refine jP cV cV (by rw[C];exact a11) ?_;have hbs:dU prog 169 [(0,U),(2,.agg p.cells)]=some (.agg [U,.ak,.aE (p.aa.map Ar.cells),.aE (p.funcs.map Fu.cells)]):=by
     obtain⟨q,imm,hq,_⟩:=s11;rw[hq];exact zeS p _ _
    have hone:=s11.one;have h1o:=hone.1;repeat' (first
     |(apply aj ?_;clear hK K)|apply aO ?_|(apply ak fun K hK=>?_)|(apply ce ?_;try intro _)|(apply di ?_ ?_<;>clear hK K)|fail)
    .exact bN
    generalize z:Hp.set H11 (Z.next+1) _=V;have n12:H11.next<=V.next:=by rw[<-z];exact aH _
    have O:∀k,k≠Z.next+1->V.get k=H11.get k:=fun k Y=>by rw[<-z,aA,af Y]
    have g12s:V.get (Z.next+1)=some (.cells [U,.ak,.aE (p.aa.map Ar.cells),.aE (p.funcs.map Fu.cells)] 0 true):=by rw[<-z,aA,ah rfl]
    have g12b:V.get g.next=some (.cells p.funcs[i].cells 0 true):=by rw[O _ ac];exact g11b
    have g120:V.get 0=some (.cells p.cells 0 true):=by rw[O _ ac];exact g110
    have s12:ed V U (p.funcs[i].params++p.funcs[i].ao) Z.next:=s11.keep n12 fun k Y=>O k fun e=>by have:=ow11 k Y;omega
    have cw:∀k,bc U k->k<V.next:=fun k Y=>(s12.lt Y).2
    have m12:Z.next+2<=V.next:=ac
    have hfl:(p.funcs[i].params++p.funcs[i].ao).length<2^38:=bW;clear z O s11 a11 o11 f11 a9 o9 f9 s9 s8 gds gdb gd1 gd0 g9s g9b g90 g11s g11b g110 hbs n9 n11 oldd ow9 ow8 gb gb0 hone;have hnoS:∀k,bc U k->k≠Z.next+1/\g.next<k:=fun k Y=>by have:=ow11 k Y;omega
    clear ow11;refine bY [1,3,4,5,6] [0,g.next] 7 p.aa.length (fun j E H=>∃a seen,H.get (Z.next+1)=some (.cells [U,a,.aE (p.aa.map Ar.cells),.aE (p.funcs.map Fu.cells)] 0 true)/\eI H a seen V.next/\ed H U (p.funcs[i].params++p.funcs[i].ao) Z.next/\uG (bD p) seen j/\AV.one a=true) eE ⟨.ak,[],g12s,.inl ⟨rfl,rfl⟩,s12,by simp[uG],rfl⟩ ?_;rintro j E4 L hj hcE m hnH hsI ⟨a,seen,g4s,s4,t4,hsn,hoa⟩;(try simp only[bq,aT,aN,aG,aR,Nat.reduceBEq, *]at hcE);(try simp only[bq,aT,aN, *]at m);(try simp only[aZ,br,bX,bK,Nat.reduceAdd]at hnH);have hB0:(0 == L.next)=false:=aX ac;have hC0:(L.next == 0)=false:=aX ac;have hB1:(g.next == L.next)=false:=aX ac;have hC1:(L.next == g.next)=false:=aX ac;have hsl:seen.length<=p.aa.length:=by have:bD p=seen++(bD p).drop j:=hsn;have:=kV List.length this;rw[fB]at this;omega
    have hdU:(p.funcs.drop i).any (jj p)=(jj p p.funcs[i]||(p.funcs.drop (i+1)).any (jj p)):=PZ;have hdB:(p.funcs.drop i).any (li p)=(li p p.funcs[i]||(p.funcs.drop (i+1)).any (li p)):=PZ;have hend:j=(bD p).length->eI L a (bD p) V.next:=fun hje=>by
     unfold uG at hsn;rw[hje,gH,bm]at hsn;rw[<-hsn]at s4;exact s4
    have hd:∀k,bc a k->¬bc U k:=fun k h1 h2=>by have:=(s4.lt h1).1;have:=cw k h2;omega
    have hz60:p.sz<2^60:=ac;have hf60:p.funcs[i].sz<2^60:=ac;have nw:∀k,k<=g.next\/k=Z.next+1->¬bc U k:=fun k Y h=>by have:=hnoS k h;omega
    have na:∀k,k<=g.next\/k=Z.next+1->¬bc a k:=fun k Y h=>by have:=(s4.lt h).1;omega
    have g4b:L.get g.next=some (.cells p.funcs[i].cells 0 true):=m.2
    have g40:L.get 0=some (.cells p.cells 0 true):=m.1;have gh0:=@Fw;repeat' (first
     |(apply aj ?_;clear hK K)|apply aO ?_|(apply cD ?_ ?_<;>(intro hg hgp;try(cases hg;done)))|(apply bp ?_ ?_<;>(intro hb hbp;try(cases hb;done)))|(apply ak fun K hK=>?_)|(apply da 18 [(1,9),(3,9),(7,9),(8,9)] fun K hK=>?_)|(apply ce ?_;try intro _)|fail)
    .have hlt2:j<p.aa.length:=by simpa using hb
     have hgx2:p.aa[j]?=some p.aa[j]:=aL hlt2;have hgn:(bD p)[j]' ac=p.aa[j].name:=vT;have hsn2:=Qb ac hsn;rw[hgn]at hsn2;refine wH ?_;have J:∀k,k<L.next->(L.alloc (.cells [.aq p.aa[j].name] 0 true)).get k=L.get k:=fun k Y=>fq
     have g4e:(L.alloc (.cells [.aq p.aa[j].name] 0 true)).get (Z.next+1)=some (.cells [U,a,.aE (p.aa.map Ar.cells),.aE (p.funcs.map Fu.cells)] 0 true):=by rw[J _ ac];exact g4s
     have g40e:(L.alloc (.cells [.aq p.aa[j].name] 0 true)).get 0=some (.cells p.cells 0 true):=by rw[J _ ac];exact m.1
     have g4n:(L.alloc (.cells [.aq p.aa[j].name] 0 true)).get L.next=some (.cells [.aq p.aa[j].name] 0 true):=fG
     have s4b:eI (L.alloc (.cells [.aq p.aa[j].name] 0 true)) a seen V.next:=s4.keep (dA _) fun k Y=>J k (s4.lt Y).2
     obtain⟨a5,I,q5,s5,n5,f5,o5⟩:=xB (r:=L.next) (imm:=0) p.aa[j].name s4b dG g4n ac;simp only[aZ]at n5;have m5:L.next+2<=I.next:=ac
     clear n5;have g5s:I.get (Z.next+1)=some (.cells [U,a,.aE (p.aa.map Ar.cells),.aE (p.funcs.map Fu.cells)] 0 true):=by rw[f5 _ ac];exact g4e
     have g5b:I.get g.next=some (.cells p.funcs[i].cells 0 true):=by rw[f5 _ ac,J _ ac];exact g4b
     have g50:I.get 0=some (.cells p.cells 0 true):=by rw[f5 _ ac];exact g40e
     have t5:ed I U (p.funcs[i].params++p.funcs[i].ao) Z.next:=t4.keep ac fun k Y=>by rw[f5 k (cw k Y),J k (t4.lt Y).2]
     have h5:=s5.one;have h5o:=h5.1;have h5c:=h5.2;refine jP cV cV (by rw[C];exact q5) ?_;repeat' (first
      |(apply aj ?_;clear hK K)|apply aO ?_|(apply ak fun K hK=>?_)|(apply ce ?_;try intro _)|(apply di ?_ ?_<;>clear hK K)|fail)
     .exact bN
     generalize hH6:Hp.set I (Z.next+1) _=H6;have n6:I.next<=H6.next:=by rw[<-hH6];exact aH _
     have old6:∀k,k≠Z.next+1->H6.get k=I.get k:=fun k Y=>by rw[<-hH6,aA,af Y]
     have g6s:H6.get (Z.next+1)=some (.cells [U,a5,.aE (p.aa.map Ar.cells),.aE (p.funcs.map Fu.cells)] 0 true):=by rw[<-hH6,aA,ah rfl]
     have g60:H6.get 0=some (.cells p.cells 0 true):=by rw[old6 _ ac];exact g50
     have g6b:H6.get g.next=some (.cells p.funcs[i].cells 0 true):=by rw[old6 _ ac];exact g5b
     clear hH6;refine⟨ac,aK,aK,bG,zf,?_⟩;exact⟨a5,seen++[p.aa[j].name],g6s,.inr (s5.keep n6 fun k Y=>old6 k (by have:=(s5.lt Y).1;omega)),t5.keep n6 (fun k Y=>old6 k (hnoS k Y).1),hsn2,h5o⟩
    .have hr0:r=0:=by omega
     have s4':=hend ac;refine qd ?_;refine aY ?_ (Qr t4 s4' hd hz60 hf60 false au);rintro v0 I ⟨rfl,t5,s5,m5,o5⟩;dsimp only[aU];have g5s:I.get (Z.next+1)=some (.cells [U,a,.aE (p.aa.map Ar.cells),.aE (p.funcs.map Fu.cells)] 0 true):=P1;have g5b:I.get g.next=some (.cells p.funcs[i].cells 0 true):=P2
     have g50:I.get 0=some (.cells p.cells 0 true):=P3;have hd5:∀k,bc a k->¬bc U k:=hd;have gh0:=@Fw;repeat' (first
      |(apply aj ?_;clear hK K)|apply aO ?_|(apply cD ?_ ?_<;>(intro hg hgp;try(cases hg;done)))|(apply bp ?_ ?_<;>(intro hb hbp;try(cases hb;done)))|(apply ak fun K hK=>?_)|fail)
     .refine qd ?_;refine aY ?_ (zeR t5 s5 hd5 hz60 hf60);rintro v0 H6 ⟨rfl,t6,s6,m6,o6⟩;dsimp only[aU];have g6s:H6.get (Z.next+1)=some (.cells [U,a,.aE (p.aa.map Ar.cells),.aE (p.funcs.map Fu.cells)] 0 true):=by rw[o6 _ (nw _ ac) (na _ ac)];exact g5s
      have g6b:H6.get g.next=some (.cells p.funcs[i].cells 0 true):=by rw[o6 _ (nw _ ac) (na _ ac)];exact g5b
      have g60:H6.get 0=some (.cells p.cells 0 true):=by rw[o6 _ (nw _ ac) (na _ ac)];exact g50
      have gh0:=@Fw;repeat' (first
       |(apply aj ?_;clear hK K)|apply aO ?_|(apply cD ?_ ?_<;>(intro hg hgp;try(cases hg;done)))|(apply bp ?_ ?_<;>(intro hb hbp;try(cases hb;done)))|(apply ak fun K hK=>?_)|fail)
      .all_goals refine qq ?_
       have hu:p.funcs.any (jj p)=true:=by rw[hU hr0,hdU,jj];(try simp only[dH]at *);simp only[*,mU,pC,iC,]
       rw[fx,hu];(try simp only[dH]at *);simp only[reduceCtorEq,eq_self, *,dh,dD]
      .refine⟨ac,aK,aK,bG,pA,?_⟩;refine⟨fun _=>?_,fun h=>ac⟩;rw[hU hr0,hdU,jj];(try simp only[i8]at *);simp only[*,il,gW,lX,]
     .all_goals refine qq ?_
      have hu:p.funcs.any (jj p)=true:=by rw[hU hr0,hdU,jj];(try simp only[dH]at *);simp only[*,mU,em,iC,]
      rw[fx,hu];(try simp only[dH]at *);simp only[reduceCtorEq,eq_self, *,dh,dD]
    .have hr1:r=1:=by omega
     have s4':=hend ac;have hJ1':=hJ1 ac;have hcal:pK p p.funcs[i].body=true:=by
      have hu:jj p p.funcs[i]=false:=by
       have:=uk.1 hJ1' _ (cB hlt);simpa using this
      unfold jj at hu;rw[i8,cj]at hu;exact Fx _ hu.1
     refine qd ?_;refine aY ?_ (Qr t4 s4' hd hz60 hf60 true (fun _=>hcal));rintro v0 I ⟨rfl,t5,s5,m5,o5⟩;dsimp only[aU];have g5s:I.get (Z.next+1)=some (.cells [U,a,.aE (p.aa.map Ar.cells),.aE (p.funcs.map Fu.cells)] 0 true):=P1;have g5b:I.get g.next=some (.cells p.funcs[i].cells 0 true):=P2
     have g50:I.get 0=some (.cells p.cells 0 true):=P3;have gh0:=@Fw;repeat' (first
      |(apply aj ?_;clear hK K)|apply aO ?_|(apply cD ?_ ?_<;>(intro hg hgp;try(cases hg;done)))|(apply bp ?_ ?_<;>(intro hb hbp;try(cases hb;done)))|(apply ak fun K hK=>?_)|fail)
     .all_goals refine qq ?_
      have hu:p.funcs.any (li p)=true:=by rw[hB hr1,hdB,li];(try simp only[dH]at *);simp only[*,mU,iC,]
      rw[fx,hJ1',hu];(try simp only[dH]at *);simp only[reduceCtorEq,eq_self, *,dh,dD]
     .refine⟨ac,aK,aK,bG,pA,?_⟩;refine⟨fun h=>ac,fun _=>?_⟩;rw[hB hr1,hdB,li];(try simp only[i8]at *);simp only[*,il,lX,]
    .omega
   .have hie:i=p.funcs.length:=by simp at hb;omega
    rw[hie,gH]at hU hB;refine⟨ac,aK,aK,bG,J4,?_⟩;refine⟨fun h=>?_,fun h=>?_⟩
    .by_cases h0:r=0
     .rw[hU h0];rfl
     .exact hJ1 ac
    .rw[hB ac];rfl
  .all_goals refine qq ?_
   have hr:r=2:=ac;subst hr;have h1:=hJ1 ac;have h2:=hJ2 ac;rw[fx];(try simp only[i8]at *);simp only[reduceCtorEq,eq_self, *,dD])
end
end Go.Proofs.YtbflaciihaijgaaGreat
namespace Go.Ab
set_option maxRecDepth 20000
open Go
variable{P:Program}{H:Hp}{t Z e r:Nat}{V:qO}
def Qs(k:IntKind)(a b:Int):Int:=a.fdiv (2^ min b.toNat k.bits)
def bin_shr{D:BinOp->Sx->Sx->qG}{t:TypeId}{k Z:IntKind}{a b:Int}(hb:0<=b):eK P D .shr t (.int k a) (.int Z b)=some (.int k (Qs k a b)):=by
 obtain⟨m,rfl⟩:=gO hb;simp only[eK,uX];show yp .shr k a (Int.ofNat m)=_;simp[yp,Qs]
abbrev b8:=qx
variable{vs:List (b8×Int)}
def iV:List (b8×Int)->b8->Int
 |[],_=>0
 |p::l,nm=>if nm=p.1 then p.2 else iV l nm
def setV:List (b8×Int)->b8->Int->List (b8×Int)
 |[],nm,x=>[(nm,x)]
 |p::l,nm,x=>if nm=p.1 then (nm,x)::l else p::setV l nm x
section
variable (p:Pr) (fi:List (b8 × Int))
end
def hM(vs:List (b8×Int)):qO:=vs.map fun p=>(.aq p.1,.int .i64 p.2)
def cEs:List (b8×qu)->qD->qO
 |p::l,r::rs=>(.aq p.1,.sl r 0 p.2.length 1)::cEs l rs
 |_,_=>[]
theorem Qt(nm:b8):∀(vs:List (b8×Int)) (i:Nat),(gy .string (.aq nm) (hM vs) i=some none/\iV vs nm=0/\∀x,hM (setV vs nm x)=hM vs++[(.aq nm,.int .i64 x)]) \/
 ∃j,j<vs.length/\gy .string (.aq nm) (hM vs) i=some (some (i+j,.int .i64 (iV vs nm)))/\∀x,hM (setV vs nm x)=(hM vs).set j (.aq nm,.int .i64 x)
 |[],i=>.inl ⟨rfl,rfl,fun _=>rfl⟩
 |p::l,i=>by
  by_cases h:nm=p.1
  .refine .inr ⟨0,au,?_,fun x=>?_⟩
   .simp[hM,gy,p9,iV,h]
   .simp[hM,setV,h]
  .have C:gy .string (.aq nm) (hM (p::l)) i=gy .string (.aq nm) (hM l) (i+1):=by
    show gy .string (.aq nm) ((.aq p.1,.int .i64 p.2)::hM l) i=_;have:(nm == p.1)=false:=jf;simp[gy,p9,this]
   have J:iV (p::l) nm=iV l nm:=by simp[iV,h]
   have M:∀x,hM (setV (p::l) nm x)=(.aq p.1,.int .i64 p.2)::hM (setV l nm x):=fun x=>by simp[setV,h,hM]
   rw[C,J];rcases Qt nm l (i+1)with⟨Z,g,m⟩|⟨j,Y,Z,m⟩
   .refine .inl ⟨Z,g,fun x=>?_⟩;rw[M,m];simp[hM]
   .refine .inr ⟨j+1,bW,?_,fun x=>?_⟩
    .rw[Z,show i+1+j=i+(j+1) by omega]
    .rw[M,m];simp[hM]
def zeV{nm:b8}{z:AV}(J:P.underlying t=some (.map Z e))(j:rc P Z=some .string)(I:wJ P e=some z)(hg:H.get r=some (.map V)):
 (gy .string (.aq nm) V 0=some none->mL P H t (.map r) (.aq nm) false=some z)/\∀i v,gy .string (.aq nm) V 0=some (some (i,v))->mL P H t (.map r) (.aq nm) false=some v:=by
 refine⟨fun h=>?_,fun i v h=>?_⟩<;>simp only[mL,J,j,I,wL,hg,h,z5]
def Qu{nm:b8}{x:AV}(J:P.underlying t=some (.map Z e))(j:rc P Z=some .string)(hg:H.get r=some (.map V)):
 (gy .string (.aq nm) V 0=some none->re P H t (.map r) (.aq nm) x=some (H.set r (.map (V++[(.aq nm,x)]))))/\∀i v,gy .string (.aq nm) V 0=some (some (i,v))->re P H t (.map r) (.aq nm) x=some (H.set r (.map (V.set i (.aq nm,x)))):=by
 refine⟨fun h=>?_,fun i v h=>?_⟩<;>simp only[re,J,j,hg,h]
def zeW(J:P.underlying t=some (.map Z e))(Y:rc P Z=some .string)(hg:H.get r=some (.map (hM vs)))(nm:b8)(x:Int):
 re P H t (.map r) (.aq nm) (.int .i64 x)=some (H.set r (.map (hM (setV vs nm x)))):=by
 obtain⟨V,L⟩:=Qu (nm:=nm) (x:=.int .i64 x) J Y hg;rcases Qt nm vs 0 with⟨i,g,m⟩|⟨j,U,i,m⟩
 .rw[V i,m]
 .rw[L _ _ i,m,bK]
def jZ:List (b8×Int)->b8->Bool
 |[],_=>false
 |p::l,nm=>if nm=p.1 then true else jZ l nm
theorem Qv(nm:b8):∀(vs:List (b8×Int)) (i:Nat),(jZ vs nm=false->gy .string (.aq nm) (hM vs) i=some none/\iV vs nm=0)/\(jZ vs nm=true->∃j,gy .string (.aq nm) (hM vs) i=some (some (j,.int .i64 (iV vs nm))))
 |[],i=>⟨fun _=>⟨rfl,rfl⟩,fun h=>by simp[jZ]at h⟩
 |p::l,i=>by
  by_cases h:nm=p.1
  .refine⟨fun g=>by simp[jZ,h]at g,fun _=>⟨i,?_⟩⟩;simp[hM,gy,p9,iV,h]
  .have C:gy .string (.aq nm) (hM (p::l)) i=gy .string (.aq nm) (hM l) (i+1):=by
    show gy .string (.aq nm) ((.aq p.1,.int .i64 p.2)::hM l) i=_;have:(nm == p.1)=false:=jf;simp[gy,p9,this]
   have J:iV (p::l) nm=iV l nm:=by simp[iV,h]
   have U:jZ (p::l) nm=jZ l nm:=by simp[jZ,h]
   rw[C,J,U];exact Qv nm l (i+1)
def zeX(J:P.underlying t=some (.map Z e))(Y:rc P Z=some .string)(I:wJ P e=some (.int .i64 0))(hg:H.get r=some (.map (hM vs)))(nm:b8):
 mL P H t (.map r) (.aq nm) true=some (.aX [.int .i64 (iV vs nm),.bool (jZ vs nm)]):=by
 obtain⟨i,g⟩:=Qv nm vs 0;cases U:jZ vs nm with
 |false=>
  obtain⟨L,V⟩:=i U;simp only[mL,J,Y,I,wL,hg,L,z5,V]
 |true=>
  obtain⟨j,L⟩:=g U;simp only[mL,J,Y,wL,hg,L,z5]
end Go.Ab
namespace Go.Proofs.YtbflaciihaijgaaGreat
set_option maxRecDepth 20000
open Go Go.Ab Proofs.Tryz
variable{p:Pr}{H:Hp}{r lo:Nat}{l:qw}{v:AV}{x:List qw}
def hO(p:Pr):qw:=p.funcs.map (·.name)
def rW(p:Pr):Bool:=bU [] (bD p)||bU [] (hO p)||p.funcs.any fun f=>bU [] (bD p++(f.params++f.ao))
theorem Qw:∀(a b seen:qw),bU seen (a++b)=(bU seen a||bU (seen++a) b)
 |[],b,seen=>by simp[bU]
 |x::a,b,seen=>by rw[vz,bU,bU,Qw a b,lU,Ik,Jl]
theorem Qy(U:qw):∀(O:qQ) (seen:qw),md U seen O=(bU seen (O.map (·.name))||O.any fun f=>bU U (f.params++f.ao))
 |[],seen=>rfl
 |f::O,seen=>by
  rw[md,dZ,bU,sr,Qy U O];cases bu seen f.name<;>cases bU U (f.params++f.ao)<;>cases bU (seen++[f.name]) (O.map (·.name))<;>rfl
def Qz(p:Pr):rW p=me p:=by
 rw[rW,me,Qy];cases h:bU [] (bD p)
 .have e:(fun f:Fu=>bU [] (bD p++(f.params++f.ao)))=fun f=>bU (bD p) (f.params++f.ao):=by
   funext f;rw[Qw,h];rfl
  rw[e];rfl
 .rfl
def hY:qQ->List (b8×Int)->List (b8×Int)
 |[],m=>m
 |f::l,m=>hY l (setV m f.name f.params.length)
theorem Ka(s a:b8)(x:Int):∀m:List (b8×Int),iV (setV m a x) s=if s=a then x else iV m s
 |[]=>by simp[setV,iV]
 |q::l=>by
  by_cases h:a=q.1
  .simp only[setV,h,dh,iV];split<;>rfl
  .simp only[setV,h,dD,iV,Ka s a x l];by_cases g:s=q.1
   .rw[ah g,ah g,af (fun e=>h (by rw[<-e,g]))]
   .rw[af g,af g]
theorem QA(s a:b8)(x:Int):∀m:List (b8×Int),jZ (setV m a x) s=(decide (s=a)||jZ m s)
 |[]=>by
  by_cases h:s=a<;>simp[setV,jZ,h]
 |q::l=>by
  by_cases h:a=q.1
  .by_cases g:s=q.1<;>simp[setV,jZ,h,g]
  .have e:=QA s a x l;by_cases g:s=q.1
   .simp[setV,jZ,h,g]
   .simp[setV,jZ,h,g,e]
def uH(a b:qw)(s:qx):bu (a++b) s=(bu a s||bu b s):=by unfold bu;rw[BF]
def xS(a s:qx):bu [a] s=decide (s=a):=by
 unfold bu;simp only[sr,yZ,io];by_cases h:s=a
 .simp[h]
 .have:¬a=s:=fun e=>h e.symm;simp[h,this]
theorem QB(s:b8):∀(l:qQ) (m:List (b8×Int)),jZ (hY l m) s=(jZ m s||bu (l.map (·.name)) s)
 |[],m=>by simp[hY,bu]
 |f::l,m=>by
  rw[hY,QB s l,QA,dZ,show f.name::l.map (·.name)=[f.name]++l.map (·.name)from rfl,uH,xS];cases decide (s=f.name)<;>cases jZ m s<;>simp
theorem QC(s:b8):∀(l:qQ) (m:List (b8×Int)),bu (l.map (·.name)) s=false->iV (hY l m) s=iV m s
 |[],m,_=>rfl
 |f::l,m,h=>by
  rw[dZ,show f.name::l.map (·.name)=[f.name]++l.map (·.name)from rfl,uH,xS,kU,kB]at h;rw[hY,QC s l _ h.2,Ka,af h.1]
theorem QD:∀(l seen:qw),bU seen l=false->∀s,bu seen s=true->bu l s=false
 |[],_,_,_,_=>rfl
 |a::l,seen,h,s,hs=>by
  rw[bU,kU]at h;rw[show a::l=[a]++l from rfl,uH,xS,QD l _ h.2 s (by rw[uH,hs];rfl),io,kB];intro e;rw[<-e]at h;rw[hs]at h;simp at h
theorem QE:∀(l:qQ) (s:qx) (i:Int),0<=i->(bu (l.map (·.name)) s=decide (0<=dr l s i))
 |[],s,i,_=>by simp[bu,dr]
 |f::l,s,i,hi=>by
  rw[dZ,show f.name::l.map (·.name)=[f.name]++l.map (·.name)from rfl,uH,xS,dr];by_cases h:f.name=s
  .rw[ah h,dx h.symm,mU];simpa using hi
  .rw[af h,eA (fun e=>h e.symm),il,QE l s (i+1) ac]
theorem QF(p:Pr)(s:b8):∀(l:qQ) (seen:qw) (m:List (b8×Int)) (i:Nat),p.funcs.drop i=l->bU seen (l.map (·.name))=false->0<=dr l s i ->
 ∃f,p.funcs[(dr l s i).toNat]?=some f/\iV (hY l m) s=f.params.length
 |[],_,_,i,_,_,h=>by simp[dr]at h
 |f::l,seen,m,i,hd,hn,h=>by
  have j:i<p.funcs.length:=by
   have:=kV List.length hd;simp at this;omega
  rw[ft j,dN]at hd;rw[dZ,bU,kU]at hn;rw[dr]at h⊢;by_cases e:f.name=s
  .rw[ah e];refine⟨f,?_,?_⟩
   .rw[fK,aL j,hd.1]
   .have Z:bu (l.map (·.name)) s=false:=QD _ _ hn.2 s (by rw[uH,xS,dx e.symm,zg]);rw[hY,QC s l _ Z,Ka,ah e.symm]
  .rw[af e]at h⊢;exact QF p s l (seen++[f.name]) _ (i+1) hd.2 hn.2 h
theorem zeY(p:Pr)(s:b8):jZ (hY p.funcs []) s=decide (0<=dr p.funcs s 0):=by
 rw[QB,QE _ _ 0 ac];rfl
theorem zeZ(hd:bU [] (hO p)=false){s:b8}(h:0<=dr p.funcs s 0):iV (hY p.funcs []) s=pJ p s:=by
 obtain⟨f,i,g⟩:=QF p s p.funcs [] [] 0 rfl hd h;have O:p.funcs[(dr p.funcs s 0).toNat]?=some f:=i;rw[g,pJ,O];rfl
def oT(z:List (b8×Int))(vs U:qw)(x:St)(_:Int)(w:Bool):Bool×Bool:=
 if x.aw=1 then (bu vs x.name,w)
 else if x.aw=2 then (bu U x.name,w)
 else if x.aw=6 then (jZ z x.to&&bu vs x.name,w||(jZ z x.to && !decide (iV z x.to=(x.args.length:Int))))
 else (true,w)
def uI(z:List (b8×Int))(U:qw):qQ->Bool->Int
 |[],w=>if w=true then 5 else 0
 |f::fs,w=>if rH (fun x _=>i9 (f.params++f.ao) U x) f=true/\(fC (oT z (f.params++f.ao) U) f.body 0 w).1=true then uI z U fs (fC (oT z (f.params++f.ao) U) f.body 0 w).2 else 3
def xT(p:Pr):Int:=uI (hY p.funcs []) (bD p) p.funcs false
def Kb(p:Pr):Int:=if mD p=false then 6 else if iM p=false then 2 else if rW p=true then 4 else xT p
mutual
theorem Kc(vs U:qw):∀(x:Ex) (d:Int),nW (fun x _=>i9 vs U x) x d=en vs U x
 | .mk k n s o z,d=>by rw[nW,en,Kd vs U z,Bool.and_comm]
theorem Kd(vs U:qw):∀(l:qH) (d:Int),jQ (fun x _=>i9 vs U x) l d=fo vs U l
 |[],_=>rfl
 |x::l,d=>by rw[jQ,fo,Kc vs U x,Kd vs U l]
end
section
variable (c:Sc)
mutual
def xU:St->Bool
 | .mk _ _ _ _ a v O j m=>en c.vars c.an a&&en c.vars c.an v&&fo c.vars c.an O&&pM j&&pM m
def pM:qE->Bool
 |[]=>true
 |x::l=>xU x&&pM l
end
mutual
def vW:St->Bool
 | .mk k J Z n a v O j m=>kG c (.mk k J Z n a v O j m)&&mg j&&mg m
def mg:qE->Bool
 |[]=>true
 |x::l=>vW x&&mg l
end
mutual
theorem ze0:∀(x:St) (d:Int),lZ (rG fun x _=>i9 c.vars c.an x) x d ()=(xU c x,())
 | .mk k J Z n a v O j m,d=>by
   rw[lZ,rG,xU];simp only[St.a6,St.value,St.args,Kc,Kd];cases h:en c.vars c.an a&&en c.vars c.an v&&fo c.vars c.an O
   .simp
   .simp only[Fy j,el];cases g:pM c j
    .simp
    .simp only[Fy m,el]
theorem Fy:∀(l:qE) (d:Int),fC (rG fun x _=>i9 c.vars c.an x) l d ()=(pM c l,())
 |[],_=>rfl
 |x::l,d=>by
  rw[fC,ze0 x,pM];cases h:xU c x
  .simp
  .simp only[Fy l,el]
end
mutual
theorem ze1:∀x:St,gR c false x=(xU c x&&vW c x)
 | .mk k J Z n a v O j m=>by
   rw[gR,xU,vW,Fz j,Fz m,rz,kH];simp only[St.a6,St.value,St.args];cases en c.vars c.an a<;>cases en c.vars c.an v<;>cases fo c.vars c.an O<;>cases kG c (.mk k J Z n a v O j m)<;>cases pM c j<;>cases mg c j<;>cases pM c m<;>cases mg c m<;>rfl
theorem Fz:∀l:qE,dq c false l=(pM c l&&mg c l)
 |[]=>rfl
 |x::l=>by
  rw[dq,pM,mg,ze1 x,Fz l];cases xU c x<;>cases vW c x<;>cases pM c l<;>cases mg c l<;>rfl
end
end
def ze2(hd:bU [] (hO p)=false)(c:Sc)(Z:c.p=p)(x:St)(d:Int)(w:Bool):
 (kG c x=true->oT (hY p.funcs []) c.vars c.an x d w=(true,w || !lM p x))/\(kG c x=false->(oT (hY p.funcs []) c.vars c.an x d w).1=false):=by
 unfold oT kG lM;rw[Z];by_cases i:x.aw=1
 .have U:¬x.aw=6:=by omega
  simp only[i,dh,Int.reduceEq,gD,em,iC,lX,io];exact⟨fun h=>by rw[h],fun h=>h⟩
 .by_cases U:x.aw=6
  .simp only[U,Int.reduceEq,dD,dh,i4,el,Bool.not_not,zeY];cases h:decide (0<=dr p.funcs x.to 0)
   .simp
   .rw[zeZ hd (sE h),gW,el,el];refine⟨fun h=>?_,fun h=>h⟩;rw[h];have e:decide ((pJ p x.to:Int)=(x.args.length:Int))=decide ((x.args.length:Int)=(pJ p x.to:Int)):=by
     by_cases q:(pJ p x.to:Int)=(x.args.length:Int)
     .rw[dx q,dx q.symm]
     .rw[eA q,eA (fun e=>q e.symm)]
    rw[e]
  .by_cases g:x.aw=2
   .simp only[g,Int.reduceEq,dD,dh,gD,em,iC,lX,io];exact⟨fun h=>by rw[h],fun h=>h⟩
   .simp only[i,g,U,dD,gD,em,iC,lX,io];exact⟨fun _=>au,fun h=>mS⟩
section
variable {p:Pr} (hd:bU [] (hO p)=false) (c:Sc) (hc:c.p=p)
include hd hc
mutual
theorem ze3:∀(x:St) (d:Int) (w:Bool),(vW c x=true->lZ (oT (hY p.funcs []) c.vars c.an) x d w=(true,w || !gR c true x))/\(vW c x=false->(lZ (oT (hY p.funcs []) c.vars c.an) x d w).1=false)
 | .mk k J Z n a v O j m,d,w=>by
   have U:=ze2 hd c hc (.mk k J Z n a v O j m) d w;rw[lZ,vW,gR,ji,hc];cases I:kG c (.mk k J Z n a v O j m)
   .have:=U.2 I;generalize oT _ _ _ _ _ _=r at this⊢;obtain⟨b,s⟩:=r;simp only at this;subst this;simp
   .rw[U.1 I];simp only[el];have i:=FA j (bS (d+1)) (w || !lM p (.mk k J Z n a v O j m));cases Y:mg c j
    .have:=i.2 Y;generalize fC _ j _ _=r at this⊢;obtain⟨b,s⟩:=r;simp only at this;subst this;simp
    .rw[i.1 Y];simp only[el];have g:=FA m (bS (d+1)) ((w || !lM p (.mk k J Z n a v O j m)) || !dq c true j);cases V:mg c m
     .exact⟨fun h=>mS,fun _=>g.2 V⟩
     .refine⟨fun _=>?_,fun h=>mS⟩;rw[g.1 V]
      congr 1
      cases w<;>cases lM p (.mk k J Z n a v O j m)<;>cases dq c true j<;>cases dq c true m<;>rfl
theorem FA:∀(l:qE) (d:Int) (w:Bool),(mg c l=true->fC (oT (hY p.funcs []) c.vars c.an) l d w=(true,w || !dq c true l))/\(mg c l=false->(fC (oT (hY p.funcs []) c.vars c.an) l d w).1=false)
 |[],d,w=>by
  rw[fC,mg,dq];exact⟨fun _=>au,fun h=>mS⟩
 |x::l,d,w=>by
  have U:=ze3 x d w;rw[fC,mg,dq];cases I:vW c x
  .have:=U.2 I;generalize lZ _ x _ _=r at this⊢;obtain⟨b,s⟩:=r;simp only at this;subst this;simp
  .rw[U.1 I];simp only[el];have g:=FA l d (w || !gR c true x);cases m:mg c l
   .exact⟨fun h=>mS,fun _=>g.2 m⟩
   .refine⟨fun _=>?_,fun h=>mS⟩;rw[g.1 m]
    congr 1
    cases w<;>cases gR c true x<;>cases dq c true l<;>rfl
end
end
theorem QG{p:Pr}(hd:bU [] (hO p)=false):∀(l:qQ) (w:Bool),uI (hY p.funcs []) (bD p) l w=if l.any (jj p)=true then 3 else if (w||l.any (li p))=true then 5 else 0
 |[],w=>by simp[uI]
 |f::fs,w=>by
  have j:=FA hd (iw p f) rfl f.body 0 w;have V:(iw p f).vars=f.params++f.ao:=rfl;have z:(iw p f).an=bD p:=rfl;rw[V,z]at j;have J:rH (fun x _=>i9 (f.params++f.ao) (bD p) x) f=(en (f.params++f.ao) (bD p) f.value&&pM (iw p f) f.body):=by
   rw[rH,Kc];have:=Fy (iw p f) f.body 0;rw[V,z]at this;rw[this]
  have Z:jj p f=!(rH (fun x _=>i9 (f.params++f.ao) (bD p) x) f&&mg (iw p f) f.body):=by
   rw[jj,J,Fz,V,z];cases en (f.params++f.ao) (bD p) f.value<;>cases pM (iw p f) f.body<;>cases mg (iw p f) f.body<;>rfl
  rw[uI,sr,sr,Z];cases i:rH (fun x _=>i9 (f.params++f.ao) (bD p) x) f
  .simp
  .cases g:mg (iw p f) f.body
   .simp[j.2 g]
   .rw[j.1 g];simp only[po,dh,vn,lX,il];rw[QG hd fs]
    congr 2
    rw[li];cases w<;>simp
def ze4(p:Pr):Kb p=fx p:=by
 unfold Kb fx;rw[zel,Qz];cases i:jD p
 .simp only[iC,nO,dI,dD];cases g:iM p
  .rfl
  .simp only[nO,dD];cases m:me p
   .simp only[dI,dD];have hd:bU [] (hO p)=false:=by
     rw[<-Qz,rW,kU,kU]at m;exact m.1.2
    rw[xT,QG hd];simp
   .rfl
 .rfl
def tyP4e.tyF:=ad @cA (ad @dw (ad @gQ (ad @jA (ad @iL (ad @fU (ad @fL (ad @fb (ad @nf (ad @Ja (ad @lJ (ad @D9 (@Fo))))))))))))
open tyP4e
noncomputable def QH:{c:SC // aC 28 (f123.body.getD .skip)=c}:=by
 refine⟨?_,?_⟩;rotate_left
 .simp only[f123,bz,aC,bw,bt,bA,bB,Nat.blt,Nat.ble];rfl
noncomputable def QI:{c:SC // aC 38 (f122.body.getD .skip)=c}:=by
 refine⟨?_,?_⟩;rotate_left
 .simp only[f122,bz,aC,bw,bt,bA,bB,Nat.blt,Nat.ble];rfl
noncomputable def QJ:{c:SC // aC 35 (f72.body.getD .skip)=c}:=by
 refine⟨?_,?_⟩;rotate_left
 .simp only[f72,bz,aC,bw,bt,bA,bB,Nat.blt,Nat.ble];rfl
def iy(l:qw):qO:=l.map fun s=>(.aq s,.bool true)
def tC(l:qw)(s:qx):qw:=if bu l s=true then l else l++[s]
theorem BL(s:qx):∀(l:qw) (i:Nat),(bu l s=false->gy .string (.aq s) (iy l) i=some none)/\(bu l s=true->∃j,gy .string (.aq s) (iy l) i=some (some (i+j,.bool true))/\(iy l).set j (.aq s,.bool true)=iy l)
 |[],i=>⟨fun _=>rfl,fun h=>by simp[bu]at h⟩
 |a::l,i=>by
  have U:bu (a::l) s=(decide (s=a)||bu l s):=by rw[show a::l=[a]++l from rfl,uH,xS]
  by_cases h:s=a
  .subst h;rw[U,dx rfl,mU];refine⟨fun h=>mS,fun _=>⟨0,?_,?_⟩⟩
   .simp[iy,gy,p9]
   .simp[iy]
  .have C:gy .string (.aq s) (iy (a::l)) i=gy .string (.aq s) (iy l) (i+1):=by
    show gy .string (.aq s) ((.aq a,.bool true)::iy l) i=_;have:(s == a)=false:=jf;simp[gy,p9,this]
   rw[U,eA h,il,C];obtain⟨L,Z⟩:=BL s l (i+1);refine⟨L,fun q=>?_⟩;obtain⟨j,Y,I⟩:=Z q;exact⟨j+1,by rw[Y,show i+1+j=i+(j+1) by omega],by show(AV.aq a,AV.bool true)::(iy l).set j _=_;rw[I];rfl⟩
def xV(hg:H.get r=some (.map (iy l)))(s:qx):mL prog H 200 (.map r) (.aq s) false=some (.bool (bu l s)):=by
 obtain⟨Z,L⟩:=zeV (P:=prog) (H:=H) (t:=200) (nm:=s) (z:=.bool false) underlying200 aB aB hg;cases h:bu l s with
 |false=>rw[Z ((BL s l 0).1 h)]
 |true=>obtain⟨j,i,g⟩:=(BL s l 0).2 h;rw[L _ _ i]
def Ke(hg:H.get r=some (.map (iy l)))(s:qx):re prog H 200 (.map r) (.aq s) (.bool true)=some (H.set r (.map (iy (tC l s)))):=by
 obtain⟨Z,L⟩:=Qu (P:=prog) (H:=H) (t:=200) (nm:=s) (x:=.bool true) underlying200 aB hg;cases h:bu l s with
 |false=>rw[Z ((BL s l 0).1 h),tC,h];simp[iy]
 |true=>obtain⟨j,i,g⟩:=(BL s l 0).2 h;rw[L _ _ i,bK,g,tC,ah h]
def tD(x:List qw):qt:=[.aE (x.map fun l=>[cZ l])]
def ze5(x y:List qw)(h:tD x=tD y):x=y:=by
 simp only[tD,dN,AV.aE.injEq,aN]at h;exact nZ (fun a _ b e=>by simp only[dN,AV.aE.injEq,aN]at e;exact xr e) h
def FB(x:List qw):Prop:=x.length<2^60/\∀l∈x,l.length<2^60
def ze6(x:List qw):fY (.aE (x.map fun l=>[cZ l])):=.map fun l _=>.cons (vB l) .nil
variable(ρ:Nat->Int)
theorem ze7(x:List qw)(hx:FB x):bF prog ρ 123 (tD x) (.bool (bU [] x.flatten)):=dE fit (pls:=pls) (l:=[]) trivial (.cons (ze6 x) .nil) (.bool _) (by
 have g:=fh 123;obtain⟨hx1,I⟩:=hx;rw[tD];refine a0 (M:=28) (rs:=[.tmp 2]) (g.call _) g.aG g.az func123 rfl rfl QH.2 rfl ?_;dsimp only[QH,aW,Nat.reduceAdd];refine eh ?_;refine bY [3,9,10] [] 11 x.length (fun i E H=>∃seen,H.get 0=some (.map (iy seen))/\bU [] x.flatten=bU seen (x.drop i).flatten) eE ⟨[],sC,rfl⟩ ?_;rintro i E H2 hi U m z C ⟨seen,J,V⟩;(try simp only[bq,aT,aN,aG,aR,Nat.reduceBEq, *]at U);(try simp only[aT,aR, *]at m);(try simp only[aZ,bX,bK]at z);repeat' (first
  |(apply aj ?_;clear hK K)|apply aO ?_|(apply bp ?_ ?_<;>(intro hb hbp;try(cases hb;done)))|(apply ak fun K hK=>?_)|fail)
 .have O:i<x.length:=by simpa using hb
  have hgx:x[i]?=some x[i]:=aL O;have hsm:=I _ (cB O);have Z:(x.drop i).flatten=x[i]++(x.drop (i+1)).flatten:=by rw[ft O,jL]
  rw[Z]at V;clear Z;generalize x[i]=L at *;refine eh ?_;refine bY [3,9,10,11,15,16] [] 17 L.length (fun j E H=>∃seen,H.get 0=some (.map (iy seen))/\bU [] x.flatten=bU seen (L.drop j++(x.drop (i+1)).flatten)) eE ⟨seen,J,V⟩ ?_;clear J V seen;rintro j E3 H3 hj U m z C ⟨seen,J,V⟩;(try simp only[bq,aT,aN,aG,aR,Nat.reduceBEq, *]at U);(try simp only[aT, *]at m);(try simp only[aZ,br,bX,bK,Nat.reduceAdd]at z);repeat' (first
   |(apply aj ?_;clear hK K)|apply aO ?_|(apply bp ?_ ?_<;>(intro hb hbp;try(cases hb;done)))|(apply ak fun K hK=>?_)|fail)
  .have Y:j<L.length:=by simpa using hb
   have hgx2:L[j]?=some L[j]:=aL Y;have Z:bU seen (L.drop j++(x.drop (i+1)).flatten)=(bu seen L[j]||bU (seen++[L[j]]) (L.drop (j+1)++(x.drop (i+1)).flatten)):=by rw[ft Y];rfl
   have hlk:=xV J L[j];have hup:=Ke J L[j];refine Hm (fun hb hbp=>?_) (fun hb hbp=>?_)
   .all_goals refine qq ?_
    rw[V,Z];(try simp only[dH]at *);simp only[*,mU,]
   .refine⟨ac,aK,aK,bG,P4,?_⟩;refine⟨tC seen L[j],BE,?_⟩;rw[V,Z,tC];(try simp only[dH]at *);simp only[*,il,];rfl
  .have hje:j=L.length:=by simp at hb;omega
   refine eh ?_;refine⟨ac,aK,aK,bG,vG,?_⟩;exact⟨seen,J,by rw[V,hje,gH,nN]⟩
 .all_goals refine qq ?_
  have hie:i=x.length:=sB;rw[V,hie,gH];rfl)
def vX(l:qw):AV:=if l=[]then .ak else cZ l
def tE(H:Hp)(v:AV)(l:qw)(lo:Nat):Prop:=(v=.ak/\l=[])\/(l≠[]/\ed H v l lo)
def tE.n(h:tE H v l lo):eI H v l lo:=h.imp id fun h=>h.2
def tE.keep{H':Hp}(h:tE H v l lo)(I:H.next<=H'.next)(hg:∀k,bc v k->H'.get k=H.get k):tE H' v l lo:=h.imp id fun h=>⟨h.1,h.2.keep I hg⟩
theorem QK(H:Hp)(n:Nat):∀l:qw,iceL (iceV H (n+1)) (l.map .aq)=some (l.map .aq)
 |[]=>rfl
 |a::l=>by
  have:=QK H n l;have e:iceV H (n+1) (.aq a)=some (.aq a):=rfl;simp only[dZ,iceL,e,this]
theorem tE.iceV{H:Hp}{v:AV}{l:qw}{lo:Nat}(h:tE H v l lo)(n:Nat):iceV H (n+2) v=some (vX l):=by
 rcases h with⟨rfl,rfl⟩|⟨U,r,V,rfl,g,_⟩
 .rfl
 .have e:Ab.iceV H (n+2) (.sl r 0 l.length 1)=match H.get r with
   |some (.cells Z _ _)=>match iceL (Ab.iceV H (n+1)) ((Z.drop 0).take (l.length*1))with
    |some C=>if C.length=l.length*1 then some (.aE (fP 1 l.length C))else none
    |none=>none
   |_=>none:=rfl
  rw[e,g];simp only[eS,lE];rw[fI au,QK];simp only[cN,dh,OH];rw[vX,af U]
theorem QL(n:Nat)(l:qw):cp (n+2) (vX l)=cZ l:=by
 unfold vX;split
 .rename_i h;subst h;rfl
 .show AV.aE ((l.map fun s=>[AV.aq s]).map fun L=>L.map (cp (n+1)))=_;rw[vm];rfl
set_option maxRecDepth 100000 in
theorem ze8(p:Pr)(hz:p.sz<2^36):bF prog ρ 122 (fD p) (.aX [cZ (bD p),cZ (hO p)]):=Jt (n:=3) (ur (r:=.aX [vX (bD p),vX (hO p)]) (m:=3) (cfg:=ay pls []) fit (nU ρ) (fun f args r h=>by simp[ay,cM]at h) (.cons (.agg p.pure) .nil) (by
 have hw:=fh 122;have j:(ay pls []).keep 122=false:=rfl;have hpz:p.sz=1+eV p.aa+fg p.funcs:=rfl;have hla:=mC p.aa;have hlf:=nX p.funcs;rw[fD];refine a0 (M:=38) (rs:=[.tmp 2,.tmp 3]) (hw.call _) hw.aG hw.az func122 rfl rfl QI.2 rfl ?_;dsimp only[QI,aW,Nat.reduceAdd];refine eh ?_;refine bY [1,2,3,5,11,12] [0] 13 p.aa.length (fun i E H=>∃v,E.at 4=v/\tE H v ((bD p).take i) 1) eE ⟨.ak,eE,.inl ⟨rfl,rfl⟩⟩ ?_;rintro i E J hi C Y z hsI ⟨v,k4,hv⟩;(try simp only[bq,aT,aN,aG,aR,Nat.reduceBEq, *]at C);(try simp only[bq,aT,aN,aG,aR, *]at Y);(try simp only[aZ,bX,bK]at z);have hB0:(0 == J.next)=false:=aX ac;have hC0:(J.next == 0)=false:=aX ac;repeat' (first
  |(apply aj ?_;clear hK K)|apply aO ?_|(apply bp ?_ ?_<;>(intro hb hbp;try(cases hb;done)))|(apply ak fun K hK=>?_)|fail)
 .have hlt:i<p.aa.length:=by simpa using hb
  have hgx:p.aa[i]?=some p.aa[i]:=aL hlt;have V:(bD p).take (i+1)=(bD p).take i++[p.aa[i].name]:=by rw[bD,sd,eu,hgx];rfl
  refine dY fun K hK=>?_;generalize O:Hp.alloc (Hp.set _ _ _) _=U;have nb:U.next=J.next+2:=by rw[<-O];rfl
  have Z:∀k,k<J.next->U.get k=J.get k:=fun k L=>P5
  have gb:U.get (J.next+1)=some (.cells [.aq p.aa[i].name] 0 true):=by rw[<-O,aD,ah eN]
  clear O;have hvb:eI U v ((bD p).take i) 1:=hv.n.keep ac fun k L=>Z k (hv.n.lt L).2;obtain⟨v5,H5,a5,s5,n5,f5,o5⟩:=xB (r:=J.next+1) (imm:=0) p.aa[i].name hvb ac gb bW;have n5':U.next<=H5.next:=ac
  clear n5;have g50:H5.get 0=some (.cells p.cells 0 true):=by rw[f5 0 ac,Z 0 ac];exact Y
  refine jP cV cV Es ?_;refine eh ?_;refine⟨ac,aK,aK,bG,zf,?_⟩;exact⟨v5,eE,.inr ⟨by rw[V];simp,by rw[V];exact s5⟩⟩
 .have hie:i=p.aa.length:=by simp at hb;omega
  have I:(bD p).take i=bD p:=fI (by simp[bD];omega);rw[I]at hv;clear I hie hsI hi;refine eh ?_;have c3:∀k,bc v k->k<J.next:=fun k L=>(hv.n.lt L).2
  refine bY [2,3,4,24,25] [0] 26 p.funcs.length (fun i E H=>∃u,E.at 5=u/\tE H u ((hO p).take i) J.next/\tE H v (bD p) 1) eE ⟨.ak,eE,.inl ⟨rfl,rfl⟩,hv⟩ ?_;rintro i E g hi C Y z hsI ⟨u,k5,hu,hv3⟩;(try simp only[bq,aT,aN,aG,aR,Nat.reduceBEq, *]at C);(try simp only[bq,aT,aN, *]at Y);(try simp only[aZ,br,bX,bK,Nat.reduceAdd]at z);have hB0:(0 == g.next)=false:=aX ac;have hC0:(g.next == 0)=false:=aX ac;repeat' (first
   |(apply aj ?_;clear hK K)|apply aO ?_|(apply bp ?_ ?_<;>(intro hb hbp;try(cases hb;done)))|(apply ak fun K hK=>?_)|fail)
  .have hlt:i<p.funcs.length:=by simpa using hb
   have hgx:p.funcs[i]?=some p.funcs[i]:=aL hlt;have V:(hO p).take (i+1)=(hO p).take i++[p.funcs[i].name]:=by rw[hO,sd,eu,hgx];rfl
   refine dY fun K hK=>?_;generalize O:Hp.alloc (Hp.set _ _ _) _=U;have nb:U.next=g.next+2:=by rw[<-O];rfl
   have Z:∀k,k<g.next->U.get k=g.get k:=fun k L=>P5
   have gb:U.get (g.next+1)=some (.cells [.aq p.funcs[i].name] 0 true):=by rw[<-O,aD,ah eN]
   clear O;have hub:eI U u ((hO p).take i) J.next:=hu.n.keep ac fun k L=>Z k (hu.n.lt L).2
   obtain⟨v5,H5,a5,s5,n5,f5,o5⟩:=xB (r:=g.next+1) (imm:=0) p.funcs[i].name hub ac gb bW;have n5':U.next<=H5.next:=ac
   clear n5;have g50:H5.get 0=some (.cells p.cells 0 true):=by rw[f5 0 ac,Z 0 ac];exact Y
   refine jP cV cV Es ?_;refine eh ?_;refine⟨ac,aK,aK,bG,pA,?_⟩;exact⟨v5,eE,.inr ⟨by rw[V];simp,by rw[V];exact s5⟩,hv3.keep ac fun k L=>by rw[f5 k (c3 k L),Z k (by have:=c3 k L;omega)]⟩
  .have hie:i=p.funcs.length:=by simp at hb;omega
   have I:(hO p).take i=hO p:=fI (by simp[hO];omega);rw[I]at hu;refine eh ?_;all_goals refine qq ?_
   have e1:=hv3.iceV (n:=0);have e2:=hu.iceV (n:=0);show(match iceL (iceV g 2) [v,u]with|some ds=>some (AV.aX ds)|none=>none)=_;simp only[iceL,e1,e2])) (by
 show AV.aX [cp 2 (vX (bD p)),cp 2 (vX (hO p))]=_;rw[QL,QL])
noncomputable def Kf:En:=⟨122,false,bQ (fun p=>p.sz<2^36) fD fun p=>.aX [cZ (bD p),cZ (hO p)]⟩
def QM:co prog ρ Kf:=cz fun p hp=>ze8 ρ p hp
noncomputable def Kg:En:=⟨123,true,bQ FB tD fun x=>.bool (bU [] x.flatten)⟩
def ze9:co prog ρ Kg:=cz fun x z=>ze7 ρ x z
theorem QN(x:List qw):(x.map fun l=>[cZ l]).flatten=x.map cZ:=by
 induction x with
 |nil=>rfl
 |cons a l ih=>simp[ih]
def zfa{imm:Nat}(hg:H.get r=some (.cells (x.map cZ) imm true))(hr:r<H.next)(C:imm<=x.length):
 ∃H',iA (fF 100) [.sl r 0 x.length 1] H=some (tD x,H')/\Icy (fun k=>k=r) H H':=by
 refine dc.iceL (S:=fun k=>k=r) (n:=100) (m:=tD x) ⟨?_,trivial⟩;have h:=dc.rows (S:=fun k=>k=r) (n:=99) (H:=H) (r:=r) (z:=1) (imm:=imm) (tip:=true) (a:=x.map fun l=>[cZ l]) (b:=x.map fun l=>[cZ l]) rfl hr (by rw[QN];exact hg) (by rw[QN];simpa using C) au (cE.refl fun a Z=>cE.refl fun c hc=>by
  obtain⟨l,_,rfl⟩:=mT.1 Z;rw[BG]at hc;subst hc;exact pD ⟨vB l,trivial⟩)
 rw[cN]at h;exact h
def Kh{l:qB}(J:∀i,cM l 123 i=Kg.sp i)(C:jt l 123=true){imm:Nat}(hg:H.get r=some (.cells (x.map cZ) imm true))(hr:r<H.next)(V:imm<=x.length)(z:FB x):
 aM prog (ay pls l) 123 [.sl r 0 x.length 1] H fun v H'=>v=.bool (bU [] x.flatten)/\Icy (fun k=>k=r) H H':=by
 obtain⟨H',Z,g⟩:=zfa hg hr V;refine aY ?_ (Ef (enc:=tD) (out:=fun x=>.bool (bU [] x.flatten)) ze5 (x:=x) J C z (H':=H') (fun y _ e=>by simp[tD]at e) Z);rintro v _ ⟨rfl,rfl⟩;exact⟨rfl,g⟩
def Ki(H:Hp)(a:List qt):et prog H 228 1 [(0,.aE a)]=some (.sl H.next 0 1 1,H.alloc (.cells [.aE a] 0 true)):=aB
def zfb(H:Hp)(a b:List qt):et prog H 228 2 [(0,.aE a),(1,.aE b)]=some (.sl H.next 0 2 1,H.alloc (.cells [.aE a,.aE b] 0 true)):=aB
def zfc(H:Hp)(a b c:List qt):et prog H 228 3 [(0,.aE a),(1,.aE b),(2,.aE c)]=some (.sl H.next 0 3 1,H.alloc (.cells [.aE a,.aE b,.aE c] 0 true)):=aB
noncomputable def Kk:qB:=[Kf,Kg]
def zfd:eU prog ρ Kk:=⟨QM ρ,ze9 ρ,trivial⟩
set_option maxRecDepth 100000 in
theorem zfe(p:Pr)(hz:p.sz<2^36):bF prog ρ 72 (fD p) (.bool (rW p)):=dE fit (pls:=pls) (zfd ρ) (.cons (.agg p.pure) .nil) (.bool _) (by
 have J:zd0 (ay pls Kk) 72:=db (fun _=>rfl) rfl;have kd:∀H,aM prog (ay pls Kk) 122 [.agg p.cells] H fun v H'=>v=.aX [cZ (bD p),cZ (hO p)]/\H'=H:=fun H=>bZ (enc:=fD) (out:=fun p=>.aX [cZ (bD p),cZ (hO p)]) pH (x:=p) rfl hz;have hpz:p.sz=1+eV p.aa+fg p.funcs:=rfl;have hla:=mC p.aa;have hlf:=nX p.funcs;have hal:(bD p).length=p.aa.length:=vT;have hfl:(hO p).length=p.funcs.length:=by simp[hO]
 have hx0:∀a b,Ab.extract (.aX [a,b]) 0=some a:=fun _ _=>rfl;have hx1:∀a b,Ab.extract (.aX [a,b]) 1=some b:=fun _ _=>rfl;rw[fD];refine a0 (M:=35) (rs:=[.tmp 2]) (J.call _) J.aG J.az func72 rfl rfl QJ.2 rfl ?_;dsimp only[QJ,aW,Nat.reduceAdd];have Z:=@Ki;repeat' (first
  |(apply aj ?_;clear hK K)|apply aO ?_|(apply ez ?_;first|refine Rx.k (kd _) ?_)|(apply ak fun K hK=>?_)|fail)
 refine qd ?_;refine aY ?_ (Kh (x:=[bD p]) (imm:=0) (fun _=>rfl) rfl sC (cC _) au ⟨au,bW⟩);rintro v H2 ⟨rfl,Y⟩;have n2:=Y.next
 simp only[aZ,bX]at n2;have I:H2.get 0=some (.cells p.cells 0 true):=by rw[Y.out 0 au,aD,af au,aD,ah eN]
 have n2':2<=H2.next:=ac
 clear Y n2;rw[show([bD p]:List qw).flatten=bD p by simp];dsimp only[aU];have Z:=@Ki;repeat' (first
  |(apply aj ?_;clear hK K)|apply aO ?_|(apply cD ?_ ?_<;>(intro hg hgp;try(cases hg;done)))|(apply bp ?_ ?_<;>(intro hb hbp;try(cases hb;done)))|(apply ak fun K hK=>?_)|fail)
 .refine qd ?_;refine aY ?_ (Kh (x:=[hO p]) (imm:=0) (fun _=>rfl) rfl sC (cC _) au ⟨au,bW⟩);rintro v H3 ⟨rfl,Y⟩;have n3:=Y.next
  simp only[aZ]at n3;have g30:H3.get 0=some (.cells p.cells 0 true):=by rw[Y.out 0 ac,aD,af ac];exact I
  have n3':2<=H3.next:=ac
  clear Y n3;rw[show([hO p]:List qw).flatten=hO p by simp];dsimp only[aU];repeat' (first
   |(apply aj ?_;clear hK K)|apply aO ?_|(apply bp ?_ ?_<;>(intro hb hbp;try(cases hb;done)))|(apply ak fun K hK=>?_)|fail)
  .all_goals refine qq ?_
   rw[rW];(try simp only[dH]at *);simp only[ *,rM,]
  .refine bY [3,21,22] [0] 23 p.funcs.length (fun i E H=>(p.funcs.any fun f=>bU [] (bD p++(f.params++f.ao)))=((p.funcs.drop i).any fun f=>bU [] (bD p++(f.params++f.ao)))) eE au ?_;rintro i E O hi L m z hsI U;(try simp only[bq,aT,aN,aG,aR,Nat.reduceBEq, *]at L);(try simp only[bq,aT,aN, *]at m);(try simp only[aZ,br,bX,bK,Nat.reduceAdd]at z);have hB0:(0 == O.next)=false:=aX ac;have hC0:(O.next == 0)=false:=aX ac;repeat' (first
    |(apply aj ?_;clear hK K)|apply aO ?_|(apply bp ?_ ?_<;>(intro hb hbp;try(cases hb;done)))|(apply ak fun K hK=>?_)|fail)
   .have j:i<p.funcs.length:=by simpa using hb
    have hgx:p.funcs[i]?=some p.funcs[i]:=aL j;have hsm:=nY (cB j);have hsz:p.funcs[i].sz=1+p.funcs[i].name.length+dB p.funcs[i].params+dB p.funcs[i].ao+bH p.funcs[i].body+p.funcs[i].value.sz:=rfl;have hpl:=jR p.funcs[i].params;have hll:=jR p.funcs[i].ao;have V:((p.funcs.drop i).any fun f=>bU [] (bD p++(f.params++f.ao)))=(bU [] (bD p++(p.funcs[i].params++p.funcs[i].ao))||((p.funcs.drop (i+1)).any fun f=>bU [] (bD p++(f.params++f.ao)))):=JI;have Z:=@zfc;refine dY fun K hK=>?_;refine qd ?_;refine aY ?_ (Kh (x:=[bD p,p.funcs[i].params,p.funcs[i].ao]) (imm:=0) (fun _=>rfl) rfl sC (cC _) au ⟨au,bW⟩);rintro v H5 ⟨rfl,Y⟩;have n5:=Y.next
    simp only[aZ,br]at n5;have g50:H5.get 0=some (.cells p.cells 0 true):=by rw[Y.out 0 (by intro e;change (0:Nat)=_ at e;(try simp only[br,aZ]at e);omega),aD,af (by(try simp only[br,aZ]);omega),aA,af ac,aD,af ac];exact m
    have n5':O.next<=H5.next:=ac
    clear Y n5;rw[show([bD p,p.funcs[i].params,p.funcs[i].ao]:List qw).flatten=bD p++(p.funcs[i].params++p.funcs[i].ao) by simp];dsimp only[aU];refine nM (fun hb hbp=>?_) (fun hb hbp=>?_)
    .all_goals refine qq ?_
     rw[rW,U,V];(try simp only[dH]at *);simp only[ *,io,rM,]
    .refine⟨ac,aK,aK,bG,pA,?_⟩;rw[U,V];(try simp only[dH]at *);simp only[*,il,]
   .all_goals refine qq ?_
    have C:i=p.funcs.length:=sB;rw[C,gH]at U;have g:(p.funcs.any fun f=>bU [] (bD p++(f.params++f.ao)))=false:=U;rw[rW,g];(try simp only[dH]at *);simp only[*,io,]
 .refine eP ?_;all_goals refine qq ?_
  rw[rW];(try simp only[dH]at *);simp only[*,mU,])
end Go.Proofs.YtbflaciihaijgaaGreat
