/- Lemmas for the last file. -/
import Derived.Test.YtbflaciihaijgaaGEL
set_option linter.all false
set_option maxHeartbeats 32000000
namespace Go.Ab
set_option maxRecDepth 20000
open Go
variable{qd:Prop}
def Jv(h:qd:=by have:=h.2.1;have:=h.2.2.1;simp only[List.drop_zero];omega):=h
def CN(h:qd:=by simp only[dt,Y,Bool.false_and]):=h
end Go.Ab
namespace Go.Proofs.Ytbflaciihaijgaa
set_option maxRecDepth 20000
open Go Go.Ab Proofs.Try
variable{cfg:Cfg}{l:qs}
section
def tyW4h.tyF:=ad @cJ (ad @cM (ad @mI (ad @vA (@underlying9))))
open tyW4h
structure zae (cfg:Cfg):Prop where
 let_:zaa cfg 158
 dig:zaa cfg 155
 word:zaa cfg 153
 dG:zaa cfg 141
 num:zaa cfg 156
 cz:zaa cfg 154
 dp:zaa cfg 142
 scan:zaa cfg 122
 bM:∀id,cfg.bM 154 id=.text
 keep:cfg.keep 122=false
def zy(a:Int)(x:qn):dF prog 116 [(0,.int .i64 a),(1,.ag x)]=some (.agg [.int .i64 a,.ag x,.int .i64 0]):=aF
def zA:dF prog 116 []=some (.agg [.int .i64 0,.ag [],.int .i64 0]):=aF
theorem us(a b c:AV):cr 3 [a,b,c]=some (.agg [a,b,c]):=rfl
def sW(H:Hp)(a b:HB):FrB 0 H ((H.alloc a).set H.next b):=((fU _ _).alloc _).set (.inl (az _)) _
theorem Ue(O:zae cfg)(s:qn)(U:s≠[])(hs:s.length<2^60)(H:Hp):
 aX prog cfg 142 [.ag s] H fun v H'=>(∃k e,v=.aO [.agg k.cells,.int .i64 e]/\EJ s k e)/\FrB 0 H H':=by
 have V:=O.dp
 have I:0<s.length:=vT.2 U;have m:s[0]?=some s[0]:=bc I;have Z:=xS s;refine bA (M:=41) (rs:=[.cell 2 116,.tmp 3]) (V.call _) V.aF V.ak func142 rfl rfl Jt.2 rfl ?_;dsimp only[Jt,bt,Nat.reduceAdd];repeat' (first
  |(apply aj ?_;clear hK K)|apply Rx.o ?_|apply aD ?_|(apply aO (fun C L=>?_) (fun C L=>?_)<;>try(cases C;done))|apply ai ?_|(apply ah fun K hK=>?_)|apply aq ?_|apply am ?_|apply au ?_)
 refine qc ?_;refine aL ?_ (Ua O.word O.let_ O.dig s hs _);rintro v _ ⟨rfl,rfl⟩;dsimp only[aI];have Y:=@zy;have J:=@zA;repeat' (first
  |(apply aj ?_;clear hK K)|apply Ry.o ?_|(apply aY (fun C L=>?_) (fun C L=>?_)<;>try(cases C;done))|apply ai ?_|(apply ah fun K hK=>?_)|apply aq ?_|apply am ?_|apply au ?_)
 .refine qc ?_;refine aL ?_ (Ud O.cz O.bM s U hs _);rintro v _ ⟨⟨n,rfl,hn⟩,rfl⟩;dsimp only[aI];have Y:=@zy;have J:=@zA;repeat' (first
   |(apply aj ?_;clear hK K)|apply Rx.o ?_|apply aD ?_|(apply aO (fun C L=>?_) (fun C L=>?_)<;>try(cases C;done))|apply ai ?_|(apply ah fun K hK=>?_)|apply aq ?_|apply am ?_|apply au ?_)
  .refine⟨aP,_,(by(try simp only[aM,a0,Nat.reduceBEq,Nat.reduceAdd,Nat.reduceLeDiff,tyF,cU,da,us, *]);first|done|with_reducible rfl),?_⟩;try simp only[aN]
   exact⟨⟨⟨0,[],0⟩,2,rfl,rfl,aE,fun o=>ac⟩,sW _ _ _⟩
  .refine⟨aP,_,(by(try simp only[aM,a0,Nat.reduceBEq,Nat.reduceAdd,Nat.reduceLeDiff,tyF,cU,da,us, *]);first|done|with_reducible rfl),?_⟩;try simp only[aN]
   refine⟨⟨⟨3,s.take n,0⟩,0,rfl,rfl,fun _=>⟨n,ac,hn,rfl,aE⟩,fun o=>ac⟩,sW _ _ _⟩
 .refine qc ?_;refine aL ?_ (CM O.dig s[0].toNat _);rintro v _ ⟨rfl,rfl⟩;dsimp only[aI];have hsl:=vA (P:=prog) (k:=.i64) (s:=s) underlying9 Z;have Y:=@zy;have J:=@zA;repeat' (first
   |(apply aj ?_;clear hK K)|apply Rx.o ?_|apply aD ?_|(apply aO (fun C L=>?_) (fun C L=>?_)<;>try(cases C;done))|apply ai ?_|(apply ah fun K hK=>?_)|apply aq ?_|apply am ?_|apply au ?_)
  .have z:s.take (cq s)≠[]:=by
    intro h;have:=jY List.length h;rw[iD,th Z,fP]at this;omega
   refine qc ?_;refine aL ?_ (Ub O.num O.dig (s.take (cq s)) z u0 _);rintro v _ ⟨⟨ok,rfl⟩,rfl⟩;dsimp only[aI];have Y:=@zy;have J:=@zA;repeat' (first
    |(apply aj ?_;clear hK K)|apply Rx.o ?_|apply aD ?_|(apply aO (fun C L=>?_) (fun C L=>?_)<;>try(cases C;done))|apply ai ?_|(apply ah fun K hK=>?_)|apply aq ?_|apply am ?_|apply au ?_)
   .refine⟨aP,_,(by(try simp only[aM,a0,Nat.reduceBEq,Nat.reduceAdd,Nat.reduceLeDiff,tyF,cU,da,us, *]);first|done|with_reducible rfl),?_⟩;try simp only[aN]
    refine⟨⟨⟨0,[],0⟩,2,rfl,rfl,aE,fun o h2 W=>?_⟩,sW _ _ _⟩;have:=W _ m;simp_all
   .refine⟨aP,_,(by(try simp only[aM,a0,Nat.reduceBEq,Nat.reduceAdd,Nat.reduceLeDiff,tyF,cU,da,us, *]);first|done|with_reducible rfl),?_⟩;try simp only[aN]
    refine⟨⟨⟨2,s.take (cq s),0⟩,0,rfl,rfl,fun _=>⟨cq s,ac,Z,rfl,aE⟩,fun o h2 W=>?_⟩,sW _ _ _⟩;have:=W _ m;simp_all
  .refine⟨aP,_,(by(try simp only[aM,a0,Nat.reduceBEq,Nat.reduceAdd,Nat.reduceLeDiff,tyF,cU,da,us, *]);first|done|with_reducible rfl),?_⟩;try simp only[aN]
   exact⟨⟨⟨0,[],0⟩,6,rfl,rfl,aE,fun o h2=>ac⟩,sW _ _ _⟩
  .refine⟨aP,_,(by(try simp only[aM,a0,Nat.reduceBEq,Nat.reduceAdd,Nat.reduceLeDiff,tyF,cU,da,us, *]);first|done|with_reducible rfl),?_⟩;try simp only[aN]
   refine⟨⟨⟨1,s.take (cq s),0⟩,0,rfl,rfl,fun _=>⟨cq s,ac,Z,rfl,fun _=>⟨rfl,ac,fun b C=>?_⟩⟩,fun _ _ _=>⟨rfl,rfl⟩⟩,sW _ _ _⟩;rw[m]at C;simp only[aC]at C;subst C;assumption
end
section
def tyW4i.tyF:=ad @cJ (ad @cM (ad @lU (ad @kS (ad @lV (@mI)))))
open tyW4i
def Jw(a b:Int):dF prog 44 [(0,.int .i64 a),(1,.int .i64 b)]=some (.agg [.int .i64 a,.int .i64 b]):=aF
def Jx:dF prog 44 []=some (.agg [.int .i64 0,.int .i64 0]):=aF
theorem CO(a b:AV):cr 2 [a,b]=some (.agg [a,b]):=rfl
theorem Uf(k:Tk)(x:Int):List.take 2 k.cells++[.int .i64 x]++List.drop 3 k.cells=(Tk.mk k.ah k.text x).cells:=rfl
def Ug(H:Hp)(k:Tk):ec prog H 72 1 [(0,.agg k.cells)]=some (.sl H.next 0 1 3,H.alloc (.cells k.cells 0 true)):=aF
theorem Uh{bE H:Hp}{O:AV}{ts:qx}(Z:tE bE.next H O ts)(L:FrB 0 bE H)(W:bE.next<H.next)(k:Tk){Y:Nat}(I:H.get Y=some (.cells k.cells 0 true))(hb:ts.length<2^40):
 ∃M,cY prog false H 72 72 O (.sl Y 0 1 3)=some (.sl H.next 0 (ts.length+1) 3,M)/\M.next=H.next+1/\tE bE.next M (.sl H.next 0 (ts.length+1) 3) (ts++[k])/\FrB 0 bE M/\∀j,j<H.next->O≠.sl j 0 ts.length 3->M.get j=H.get j:=by
 have J:eF H 3 (.sl Y 0 1 3)=some (0+1,k.cells):=by
  have:=sk (H:=H) (r:=Y) (o:=0) (n:=1) (z:=3) (s:=3) I (by rw[ft,iD,Tk.a7];rfl);rw[this,ft,fk (by rw[Tk.a7];omega)]
 have m:cX=70368744177664:=rfl;rcases Z with⟨rfl,rfl⟩|⟨r,rfl,q2,q3,q4,q5⟩
 .refine⟨H.alloc (.cells k.cells 0 true),?_,rfl,.inr ⟨H.next,aE,?_,W,ct _,aE⟩,L.alloc _,fun j C _=>?_⟩
  .exact append_nil underlying72 tF yc yd aF J k.one rfl tZ tZ
  .rw[aJ,aB rfl];simp
  .rw[aJ,ao ac]
 .refine⟨(H.aU r).alloc (.cells (ts.flatMap Tk.cells++k.cells) 0 true),?_,rfl,.inr ⟨H.next,aE,?_,W,ct _,aE⟩,(L.aU ac).alloc _,fun j C V=>?_⟩
  .exact ND underlying72 tF yc yd aF J k.one rfl q2 (EK ts) tZ tZ
  .show((H.aU r).alloc _).get (H.aU r).next=_
   rw[aJ,aB rfl];simp
  .have U:¬j=r:=fun e=>V mC;rw[aJ,ao kU,fD,ao U]
def Ui(s:qn)(H:Hp)(v:AV)(H':Hp):Prop:=
 ∃(O U:Int) (lv:AV),v=.aO [lv,.agg [.int .i64 O,.int .i64 U]]/\FrB 0 H H'/\((O≠0/\¬pH s)\/(O=0/\∃ts,tE H.next H' lv ts/\xT s ts/\(pH s->ts=[⟨1,s,0⟩])))
theorem Uj(hx:zae cfg)(s:qn)(hs:s.length<2^60)(H:Hp):aX prog cfg 122 [.ag s] H (Ui s H):=by
 have hw:=hx.scan;refine bA (M:=49) (rs:=[.tmp 2,.cell 3 44]) (hw.call _) hw.aF hw.ak func122 rfl rfl Ju.2 rfl ?_;dsimp only[Ju,bt,Nat.reduceAdd];have gh0:=@Jw;have gh1:=@Jx;repeat' (first
  |(apply aj ?_;clear hK K)|apply Rx.o ?_|apply aD ?_|(apply aO (fun C L=>?_) (fun C L=>?_)<;>try(cases C;done))|apply ai ?_|(apply ah fun K hK=>?_)|apply aq ?_|apply am ?_|apply au ?_|apply aw ?_)
 .refine⟨aP,_,(by(try simp only[aM,a0,Nat.reduceBEq,Nat.reduceAdd,Nat.reduceLeDiff,tyF,cU,da,CO, *]);first|done|with_reducible rfl),?_⟩;try simp only[aN]
  refine⟨6,20000,.aa,rfl,sW _ _ _,.inl ⟨aE,fun h=>?_⟩⟩;have:=h.2.2.1;omega
 .refine qc ?_;refine aL ?_ (Jr hx.dG s hs _);rintro v _ ⟨rfl,rfl⟩;dsimp only[aI];repeat' (first
   |(apply aj ?_;clear hK K)|apply Rx.o ?_|apply aD ?_|(apply aO (fun C L=>?_) (fun C L=>?_)<;>try(cases C;done))|apply ai ?_|(apply ah fun K hK=>?_)|apply aq ?_|apply am ?_|apply au ?_|apply aw ?_)
  have hsp:=tD false s;refine vt (fun n E H2=>∃(U:Nat) (ts:qx) (lv:AV),n=s.length-U/\U<=s.length/\E.at 0=.ag s/\E.at 3=.ptr H.next 0/\E.at 4=lv/\E.at 5=.int .i64 U/\FrB 0 H H2/\H.next<H2.next /\
   H2.get H.next=some qe/\tE H.next H2 lv ts/\ts.length<=U/\xT s ts/\(ts=[]->U=dI false s)/\(pH s->(ts=[]/\U=0)\/(ts=[⟨1,s,0⟩]/\U=s.length))) ?_ (n:=s.length-dI false s) ?_
  .rintro n E H2 ⟨U,ts,lv,rfl,ha,h0,h3,h4,h5,hf2,hn2,hg2,W,htl,Z,I,hnm⟩;have e1:(H.next == H2.next)=false:=co;repeat' (first
    |(apply aj ?_;clear hK K)|apply Rx.o ?_|apply aD ?_|(apply aO (fun C L=>?_) (fun C L=>?_)<;>try(cases C;done))|apply ai ?_|(apply ah fun K hK=>?_)|apply aq ?_|apply am ?_|apply au ?_|apply aw ?_)
   .have hlt:U<s.length:=by omega
    have hslo:=Bo (P:=prog) (k:=.i64) (s:=s) (m:=U) underlying9 ha;repeat' (first
     |(apply aj ?_;clear hK K)|apply Rx.o ?_|apply aD ?_|(apply aO (fun C L=>?_) (fun C L=>?_)<;>try(cases C;done))|apply ai ?_|(apply ah fun K hK=>?_)|apply aq ?_|apply am ?_|apply au ?_|apply aw ?_)
    have hne:s.drop U≠[]:=by
     intro h;have:=jY List.length h;rw[ib,fP]at this;omega
    refine qc ?_;refine aL ?_ (Ue hx (s.drop U) hne AH H2);rintro v V ⟨⟨k,e,rfl,hk⟩,o⟩;have hn3:=o.next
    have hg3:V.get H.next=some qe:=by rw[o.get _ (db _) hn2];exact hg2
    have z:tE H.next V lv ts:=by
     rcases W with h|⟨r,q1,q2,q3,q4,q5⟩
     .exact .inl h
     .exact .inr ⟨r,q1,by rw[o.get _ (db _) q4];exact q2,q3,ac,q5⟩
    have e2:(H.next == V.next)=false:=co;dsimp only[aI];have hx1:Ab.extract (.aO [.agg k.cells,.int .i64 e]) 0=some (.agg k.cells):=rfl;have hx2:Ab.extract (.aO [.agg k.cells,.int .i64 e]) 1=some (.int .i64 e):=rfl;have gh0:=@Jw;repeat' (first
     |(apply aj ?_;clear hK K)|apply Rx.o ?_|apply aD ?_|(apply aO (fun C L=>?_) (fun C L=>?_)<;>try(cases C;done))|apply ai ?_|(apply ah fun K hK=>?_)|apply aq ?_|apply am ?_|apply au ?_|apply aw ?_)
    .have he:e≠0:=by simpa using C
     refine⟨aP,_,(by(try simp only[aM,a0,Nat.reduceBEq,Nat.reduceAdd,Nat.reduceLeDiff,tyF,cU,da,CO, *]);first|done|with_reducible rfl),?_⟩;try simp only[aN]
     refine⟨e,U,.aa,rfl,?_,.inl ⟨he,fun h=>?_⟩⟩
     .exact((((hf2.trans o).alloc _).set (.inl ac) _).set (.inl (az _)) _)
     .rcases hnm h with⟨_,q⟩|⟨_,q⟩
      .subst q;exact he (hk.2.2 h.1 Jv h.2.2.2).1
      .omega
    .have he:e=0:=by simpa using C
     have gh0:=@Uf;have gh1:=@Ug;repeat' (first
      |(apply aj ?_;clear hK K)|apply Rx.o ?_|apply aD ?_|(apply aO (fun C L=>?_) (fun C L=>?_)<;>try(cases C;done))|apply ai ?_|(apply ah fun K hK=>?_)|apply aq ?_|apply am ?_|apply au ?_|apply aw ?_)
     generalize O:Tk.mk k.ah k.text (U:Int)=k';generalize J:Hp.alloc _ (HB.cells (Tk.cells k') 0 true)=H5;have hn5:H5.next=V.next+2:=by rw[<-J];rfl
     have hg5:H5.get (V.next+1)=some (.cells k'.cells 0 true):=wh;have hg5a:H5.get V.next=some (.cells k'.cells 0 true):=wh
     have hf5:FrB 0 V H5:=by rw[<-J];exact(((fU _ _).alloc _).set (.inl (az _)) _).set (.inl (az _)) _ |>.alloc _
     have hF5:FrB 0 H H5:=(hf2.trans o).trans hf5;have hrep5:tE H.next H5 lv ts:=by
      rcases z with h|⟨r,q1,q2,q3,q4,q5⟩
      .exact .inl h
      .exact .inr ⟨r,q1,by rw[hf5.get _ (db _) q4];exact q2,q3,ac,q5⟩
     obtain⟨H6,p1,p2,p3,p4,p5⟩:=Uh hrep5 hF5 ac k' hg5 ac;have hkeep:=hx.keep;have hg6:H6.get H.next=some qe:=by
      rw[p5 _ ac (fun e=>by rcases z with⟨_,q⟩|⟨r,q1,_,q3,_⟩<;>simp_all),hf5.get _ (db _) ac];exact hg3
     have hg6a:H6.get V.next=some (.cells k'.cells 0 true):=by
      rw[p5 _ ac (fun e=>by rcases z with⟨_,q⟩|⟨r,q1,_,q3,q4,_⟩<;>simp_all)];exact hg5a
     obtain⟨n,hn1,hn2',hkt,hkk⟩:=hk.2.1 he;rw[ib]at hn2';have hktl:k'.text.length=n:=by rw[<-O];show k.text.length=n;rw[hkt,iD,ib];omega
     have hwr:IntKind.wrap .i64 ((U:Int)+(n:Int))=((U+n:Nat):Int):=by rw[rK _ ac];omega
     have hslo2:=Bo (P:=prog) (k:=.i64) (s:=s) (m:=U+n) underlying9 ac;refine rY iM iM (by rw[hkeep];exact p1) ?_;repeat' (first
      |(apply aj ?_;clear hK K)|apply Rx.o ?_|apply aD ?_|(apply aO (fun C L=>?_) (fun C L=>?_)<;>try(cases C;done))|apply ai ?_|(apply ah fun K hK=>?_)|apply aq ?_|apply am ?_|apply au ?_|apply aw ?_)
     refine qc ?_;refine aL ?_ (Jr hx.dG (s.drop (U+n)) AH _);rintro v _ ⟨rfl,rfl⟩;dsimp only[aI];have hsp2:=tD false (s.drop (U+n));rw[ib]at hsp2;have hwr2:IntKind.wrap .i64 (((U+n:Nat):Int)+(dI false (s.drop (U+n)):Int))=((U+n+dI false (s.drop (U+n)):Nat):Int):=by rw[rK _ ac];omega
     repeat' (first
      |(apply aj ?_;clear hK K)|apply Rx.o ?_|apply aD ?_|(apply aO (fun C L=>?_) (fun C L=>?_)<;>try(cases C;done))|apply ai ?_|(apply ah fun K hK=>?_)|apply aq ?_|apply am ?_|apply au ?_|apply aw ?_)
     refine⟨s.length-(U+n+dI false (s.drop (U+n))),ac,U+n+dI false (s.drop (U+n)),ts++[k'],.sl H5.next 0 (ts.length+1) 3,rfl,ac,eE,eE,eE,(by first|(simp only[aM,Nat.reduceBEq,iE, *];done)|rfl),p4,ac,hg6,p3,co,fun t rest hr=>?_,aE,fun h=>.inr ?_⟩
     .cases ts with
      |nil=>
       simp only[mZ,eU]at hr;obtain⟨rfl,_⟩:=hr;rw[<-I rfl];exact⟨k,by rw[<-he];exact hk,by rw[<-O],by rw[<-O]⟩
      |cons t0 ts=>
       simp only[mJ,eU]at hr;obtain⟨rfl,_⟩:=hr;exact Z _ _ rfl
     .rcases hnm h with⟨rfl,q⟩|⟨_,q⟩
      .subst q;have Y:=(hk.2.2 h.1 Jv h.2.2.2).2;simp only[ft]at Y hkt;have hwn:cq s=s.length:=h.2.1;rw[hwn,xf]at Y;have hns:n=s.length:=by
        have:=jY List.length hkt;rw[Y,iD]at this;have h3:s.length=min n s.length:=this;omega
       have hkk2:k'=⟨1,s,0⟩:=by rw[<-O,Y];rfl
       refine⟨by rw[hkk2];rfl,?_⟩;rw[hns];simp[dI]
      .omega
   .have hat:U=s.length:=by omega
    have gh0:=@Jx;repeat' (first
     |(apply aj ?_;clear hK K)|apply Rx.o ?_|apply aD ?_|(apply aO (fun C L=>?_) (fun C L=>?_)<;>try(cases C;done))|apply ai ?_|(apply ah fun K hK=>?_)|apply aq ?_|apply am ?_|apply au ?_|apply aw ?_)
    refine⟨aP,_,(by(try simp only[aM,a0,Nat.reduceBEq,Nat.reduceAdd,Nat.reduceLeDiff,tyF,cU,da,CO, *]);first|done|with_reducible rfl),?_⟩;try simp only[aN]
    refine⟨0,0,lv,rfl,hf2.set (.inl (az _)) _,.inr ⟨rfl,ts,?_,Z,fun h=>?_⟩⟩
    .rcases W with h|⟨r,q1,q2,q3,q4,q5⟩
     .exact .inl h
     .exact .inr ⟨r,q1,by rw[bi,ao ac];exact q2,q3,q4,q5⟩
    .rcases hnm h with⟨_,q⟩|⟨q,_⟩
     .have:=h.1;have:=h.2.1;omega
     .exact q
  .refine⟨dI false s,[],.aa,rfl,hsp,eE,eE,eE,eE,(fU _ _).alloc _,eh,BG,.inl ⟨rfl,rfl⟩,aE,by simp[xT],fun _=>rfl,fun h=>.inl ⟨rfl,Nx h⟩⟩
end
section
def tyW4j.tyF:=ad @cJ (ad @cM (ad @lU (ad @kS (ad @lV (ad @mI (ad @io (ad @List.flatMap_cons.{0,0} (ad @List.flatMap_nil.{0,0} (@xe)))))))))
open tyW4j
noncomputable def Jy:{c:SC // aG 44 (f85.body.getD .skip)=c}:=by
 refine⟨?_,?_⟩;rotate_left
 .simp only[f85,bK,aG,bF,bw,bH,bI,Nat.blt,Nat.ble];rfl
noncomputable def Jz:{c:SC // aG 15 (f86.body.getD .skip)=c}:=by
 refine⟨?_,?_⟩;rotate_left
 .simp only[f86,bK,aG,bF,bw,bH,bI,Nat.blt,Nat.ble];rfl
theorem CP(hx:zae cfg)(hw:zaa cfg 85)(s:qn)(hs:s.length<2^60)(H:Hp):
 aX prog cfg 85 [.ag s] H fun v H'=>v=.bool (dt s)/\FrB 0 H H':=by
 refine bA (M:=44) (rs:=[.tmp 2]) (hw.call _) hw.aF hw.ak func85 rfl rfl Jy.2 rfl ?_;dsimp only[Jy,bt,Nat.reduceAdd];repeat' (first
  |(apply aj ?_;clear hK K)|apply Rx.o ?_|apply aD ?_|(apply bz (fun W Z=>?_) (fun W Z=>?_)<;>try(cases W;done))|(apply aO (fun C L=>?_) (fun C L=>?_)<;>try(cases C;done))|apply ai ?_|(apply ah fun K hK=>?_)|apply aq ?_|apply am ?_|apply au ?_)
 refine qc ?_;refine aL ?_ (Uj hx s hs H);rintro v H2 ⟨O,V,lv,rfl,m,z⟩;have hx1:Ab.extract (.aO [lv,.agg [.int .i64 O,.int .i64 V]]) 0=some lv:=rfl;have hx2:Ab.extract (.aO [lv,.agg [.int .i64 O,.int .i64 V]]) 1=some (.agg [.int .i64 O,.int .i64 V]):=rfl;dsimp only[aI];have o:FrB 0 H ((H2.alloc qe).set H2.next (.cells [.int .i64 O,.int .i64 V] 0 true)):=(m.alloc _).set (.inl m.next) _;rcases z with⟨h1,h2⟩|⟨rfl,ts,hrep,U,J⟩
 .have Y:j7 s=false:=by
   cases C:j7 s with
   |false=>rfl
   |true=>exact(h2 ((xU s).1 C)).elim
  repeat' (first
   |(apply aj ?_;clear hK K)|apply Rx.o ?_|apply aD ?_|(apply bz (fun W Z=>?_) (fun W Z=>?_)<;>try(cases W;done))|(apply aO (fun C L=>?_) (fun C L=>?_)<;>try(cases C;done))|apply ai ?_|(apply ah fun K hK=>?_)|apply aq ?_|apply am ?_|apply au ?_)
  all_goals refine qq ?_
  exact⟨CN,o⟩
 .rcases hrep with⟨rfl,rfl⟩|⟨r,rfl,q2,q3,q4,q5⟩
  .have Y:j7 s=false:=by
    cases C:j7 s with
    |false=>rfl
    |true=>have:=J ((xU s).1 C);simp at this
   repeat' (first
    |(apply aj ?_;clear hK K)|apply Rx.o ?_|apply aD ?_|(apply bz (fun W Z=>?_) (fun W Z=>?_)<;>try(cases W;done))|(apply aO (fun C L=>?_) (fun C L=>?_)<;>try(cases C;done))|apply ai ?_|(apply ah fun K hK=>?_)|apply aq ?_|apply am ?_|apply au ?_)
   all_goals refine qq ?_
   exact⟨CN,o⟩
  .have e1:(r == H2.next)=false:=by simp;omega
   by_cases hl:ts.length=1
   .obtain⟨k,rfl⟩:=List.length_eq_one_iff.1 hl;simp only[rX,HX,ij]at q2;simp only[cy,fP,bX]at hx1 hx2⊢;have I:pH s↔(k.ah=1/\k.text=s):=⟨fun h=>by have:=J h;simp only[eU,bu]at this;rw[this];exact⟨rfl,rfl⟩,fun h=>Ny U h.1 h.2⟩;have Y:j7 s=(decide (k.ah=1)&&decide (k.text=s)):=by
     rw[Ac,xU,I];simp
    clear I J U;have hidx:dZ prog 72 (.sl r 0 1 3) (.int .i64 0)=some (.ptr r 0):=aF;repeat' (first
     |(apply aj ?_;clear hK K)|apply Ry.o ?_|apply bq ?_|(apply bS (fun W Z=>?_) (fun W Z=>?_)<;>try(cases W;done))|(apply aY (fun C L=>?_) (fun C L=>?_)<;>try(cases C;done))|apply ai ?_|(apply ah fun K hK=>?_)|apply aq ?_|apply am ?_|apply au ?_)
    all_goals refine qq ?_
    all_goals (refine⟨?_,o⟩;simp only[dt,Y,oB];simp_all)
   .have Y:j7 s=false:=by
     cases C:j7 s with
     |false=>rfl
     |true=>have:=J ((xU s).1 C);rw[this]at hl;simp at hl
    have hl2:decide ((ts.length:Int)=1)=false:=co;repeat' (first
     |(apply aj ?_;clear hK K)|apply Rx.o ?_|apply aD ?_|(apply bz (fun W Z=>?_) (fun W Z=>?_)<;>try(cases W;done))|(apply aO (fun C L=>?_) (fun C L=>?_)<;>try(cases C;done))|apply ai ?_|(apply ah fun K hK=>?_)|apply aq ?_|apply am ?_|apply au ?_)
    all_goals refine qq ?_
    exact⟨CN,o⟩
end
section
def tyW4k.tyF:=ad @cJ (ad @cM (ad @io (ad @ef (ad @eg (@dJ)))))
open tyW4k
noncomputable def JA:{c:SC // aG 23 (f123.body.getD .skip)=c}:=by
 refine⟨?_,?_⟩;rotate_left
 .simp only[f123,bK,aG,bF,bw,bH,bI,Nat.blt,Nat.ble];rfl
noncomputable def JB:{c:SC // aG 27 (f143.body.getD .skip)=c}:=by
 refine⟨?_,?_⟩;rotate_left
 .simp only[f143,bK,aG,bF,bw,bH,bI,Nat.blt,Nat.ble];rfl
noncomputable def zB:{c:SC // aG 10 (f125.body.getD .skip)=c}:=by
 refine⟨?_,?_⟩;rotate_left
 .simp only[f125,bK,aG,bF,bw,bH,bI,Nat.blt,Nat.ble];rfl
def rr(k o:Int):Bool:=if k=20\/k=21 then decide (o=1)else decide (4<=k)&&decide (k<=18)&&decide (o=2)
theorem Uk(V:zaa cfg 123)(k o:Int)(H:Hp):
 aX prog cfg 123 [.int .i64 k,.int .i64 o] H fun v H'=>v=.bool (rr k o)/\H'=H:=by
 refine bA (M:=23) (rs:=[.tmp 4]) (V.call _) V.aF V.ak func123 rfl rfl JA.2 rfl ?_;dsimp only[JA,bt,Nat.reduceAdd];repeat' (first
  |(apply aj ?_;clear hK K)|apply Rx.o ?_|(apply bz (fun Z C=>?_) (fun Z C=>?_)<;>try(cases Z;done))|(apply aO (fun Y L=>?_) (fun Y L=>?_)<;>try(cases Y;done))|apply ai ?_|(apply ah fun K hK=>?_)|apply am ?_|apply au ?_)
 all_goals
  all_goals refine qq ?_
 all_goals (refine⟨?_,iS⟩;simp_all[rr]<;>omega)
theorem Ul(V:zaa cfg 143)(x:Ex)(H:Hp):
 aX prog cfg 143 [.agg x.cells] H fun v H'=>v=.bool (zeroE x)/\FrB 0 H H':=by
 refine bA (M:=27) (rs:=[.tmp 2]) (V.call _) V.aF V.ak func143 rfl rfl JB.2 rfl ?_;dsimp only[JB,bt,Nat.reduceAdd];repeat' (first
  |(apply aj ?_;clear hK K)|apply Rx.o ?_|(apply bz (fun L C=>?_) (fun L C=>?_)<;>try(cases L;done))|apply ai ?_|(apply ah fun K hK=>?_)|apply au ?_)
 all_goals
  all_goals refine qq ?_
 all_goals (refine⟨?_,(fU _ _).alloc _⟩;simp_all[zeroE])
def kq(s:qn)(L:Bool):Bool:=if L then dt s else decide (s=[])
def Um(O:zae cfg)(Y:zaa cfg 85)(V:zaa cfg 125)(s:qn)(L:Bool)(U:s.length<2^60)(H:Hp):
 aX prog cfg 125 [.ag s,.bool L] H fun v H'=>v=.bool (kq s L)/\FrB 0 H H':=by
 cases L
 .refine bA (M:=10) (rs:=[.tmp 4]) (V.call _) V.aF V.ak func125 rfl rfl zB.2 rfl ?_;dsimp only[zB,bt,Nat.reduceAdd];repeat' (first
   |(apply aj ?_;clear hK K)|apply Rx.o ?_|(apply aO (fun C Z=>?_) (fun C Z=>?_)<;>try(cases C;done))|apply ai ?_|(apply ah fun K hK=>?_)|apply am ?_|apply au ?_)
  all_goals refine qq ?_
  exact⟨by simp[kq],fU _ _⟩
 .refine bA (M:=10) (rs:=[.tmp 4]) (V.call _) V.aF V.ak func125 rfl rfl zB.2 rfl ?_;dsimp only[zB,bt,Nat.reduceAdd];repeat' (first
   |(apply aj ?_;clear hK K)|apply Rx.o ?_|(apply aO (fun C Z=>?_) (fun C Z=>?_)<;>try(cases C;done))|apply ai ?_|(apply ah fun K hK=>?_)|apply am ?_|apply au ?_)
  refine qc ?_;refine aL ?_ (CP O Y s U H);rintro v W ⟨rfl,J⟩;dsimp only[aI];repeat' (first
   |(apply aj ?_;clear hK K)|apply Rx.o ?_|(apply aO (fun C Z=>?_) (fun C Z=>?_)<;>try(cases C;done))|apply ai ?_|(apply ah fun K hK=>?_)|apply am ?_|apply au ?_)
  all_goals refine qq ?_
  exact⟨by simp[kq],J⟩
theorem Uo(W:zae cfg)(I:zaa cfg 85)(V:zaa cfg 86)(l:qm)(hz:eN l<2^60)(H:Hp):
 aX prog cfg 86 [cW l] H fun v H'=>v=.bool (l.all dt)/\FrB 0 H H':=by
 have hl:l.length<2^60:=by have:=pF l;omega
 refine bA (M:=15) (rs:=[.tmp 2]) (V.call _) V.aF V.ak func86 rfl rfl Jz.2 rfl ?_;dsimp only[Jz,bt,Nat.reduceAdd];repeat' (first
  |(apply aj ?_;clear hK K)|apply Rx.o ?_|(apply aO (fun C L=>?_) (fun C L=>?_)<;>try(cases C;done))|apply ai ?_|(apply ah fun K hK=>?_)|apply aq ?_|apply am ?_|apply au ?_|apply aw ?_)
 refine kK (fun i E U=>l.all dt=(l.drop i).all dt/\E.at 5=.aq (l.map fun s=>[.ag s])/\E.at 6=.int .i64 l.length/\E.at 7=.int .i64 i/\FrB 0 H U) l.length ?_ ?_
 .rintro i E U z ⟨hc,h5,h6,h7,J⟩;repeat' (first
   |(apply aj ?_;clear hK K)|apply Rx.o ?_|(apply aO (fun C L=>?_) (fun C L=>?_)<;>try(cases C;done))|apply ai ?_|(apply ah fun K hK=>?_)|apply aq ?_|apply am ?_|apply au ?_|apply aw ?_)
  .have O:i<l.length:=by simpa using C
   have m:l[i]?=some l[i]:=bc O;have hsm:=EG (dU O);have Y:(l.drop i).all dt=(dt l[i]&&(l.drop (i+1)).all dt):=wg;repeat' (first
    |(apply aj ?_;clear hK K)|apply Rx.o ?_|(apply aO (fun C L=>?_) (fun C L=>?_)<;>try(cases C;done))|apply ai ?_|(apply ah fun K hK=>?_)|apply aq ?_|apply am ?_|apply au ?_|apply aw ?_)
   refine qc ?_;refine aL ?_ (CP W I l[i] ac U);rintro v H3 ⟨rfl,o⟩;dsimp only[aI];repeat' (first
    |(apply aj ?_;clear hK K)|apply Rx.o ?_|(apply aO (fun C L=>?_) (fun C L=>?_)<;>try(cases C;done))|apply ai ?_|(apply ah fun K hK=>?_)|apply aq ?_|apply am ?_|apply au ?_|apply aw ?_)
   .all_goals refine qq ?_
    exact⟨by rw[hc,Y];simp_all,J.trans o⟩
   .refine⟨O,by rw[hc,Y];simp_all,eE,eE,?_,J.trans o⟩;simp only[gO,Nat.reduceBEq,gy,gP (show i<2^62 by omega)]
  .all_goals refine qq ?_
   have Z:i=l.length:=by simp at C;omega
   exact⟨by rw[hc,Z];simp,J⟩
 .exact⟨aE,eE,eE,eE,fU _ _⟩
end
variable(ρ:Nat->Int)
section
def tyP4a.tyF:=ad @ef (ad @cJ (ad @cM (ad @eg (ad @dJ (ad @x7 (@Fq))))))
open tyP4a
noncomputable def JC:{c:SC // aG 27 (f124.body.getD .skip)=c}:=by
 refine⟨?_,?_⟩;rotate_left
 .simp only[f124,bK,aG,bF,bw,bH,bI,Nat.blt,Nat.ble];rfl
noncomputable def JD:{c:SC // aG 87 (f88.body.getD .skip)=c}:=by
 refine⟨?_,?_⟩;rotate_left
 .simp only[f88,bK,aG,bF,bw,bH,bI,Nat.blt,Nat.ble];rfl
noncomputable def zC:{c:SC // aG 10 (f126.body.getD .skip)=c}:=by
 refine⟨?_,?_⟩;rotate_left
 .simp only[f126,bK,aG,bF,bw,bH,bI,Nat.blt,Nat.ble];rfl
theorem Up(h:∀f,f∈[158,155,153,141,156,154,142,122]->(∀C,dR l f C=none)/\lW l f=false):zae (aK pls l) where
 let_:=dK (h _ aE).1 (h _ aE).2
 dig:=dK (h _ aE).1 (h _ aE).2
 word:=dK (h _ aE).1 (h _ aE).2
 dG:=dK (h _ aE).1 (h _ aE).2
 num:=dK (h _ aE).1 (h _ aE).2
 cz:=dK (h _ aE).1 (h _ aE).2
 dp:=dK (h _ aE).1 (h _ aE).2
 scan:=dK (h _ aE).1 (h _ aE).2
 bM _:=by first|rfl|kernel_rfl
 keep:=rfl
def CQ:zae (aK pls []):=Up fun f _=>⟨fun _=>rfl,rfl⟩
def Uq(s:qn)(U:s.length<2^60):cp prog ρ 85 [.ag s] (.bool (dt s)):=
 fI fit (pls:=pls) (l:=[]) trivial (.cons (.ag _) .nil) (.bool _) (aL (fun v H h=>h.1) (CP CQ (fy _) s U bE))
def Ur(x:Int×Nat):cp prog ρ 123 [.int .i64 x.1,.int .i64 x.2] (.bool (rr x.1 x.2)):=
 fI fit (pls:=pls) (l:=[]) trivial (.cons (.int _ _) (.cons (.int _ _) .nil)) (.bool _) (aL (fun v H h=>h.1) (Uk (fy _) x.1 x.2 bE))
def Us(x:Ex):cp prog ρ 143 [.agg x.cells] (.bool (zeroE x)):=
 fI fit (pls:=pls) (l:=[]) trivial (.cons (.agg x.pure) .nil) (.bool _) (aL (fun v H h=>h.1) (Ul (fy _) x bE))
def Ut(l:qm)(W:eN l<2^60):cp prog ρ 86 [cW l] (.bool (l.all dt)):=
 fI fit (pls:=pls) (l:=[]) trivial (.cons (vG _) .nil) (.bool _) (aL (fun v H h=>h.1) (Uo CQ (fy _) (fy _) l W bE))
def Uu(s:qn)(w:Bool)(U:s.length<2^60):cp prog ρ 125 [.ag s,.bool w] (.bool (kq s w)):=
 fI fit (pls:=pls) (l:=[]) trivial (.cons (.ag _) (.cons (.bool _) .nil)) (.bool _) (aL (fun v H h=>h.1) (Um CQ (fy _) (fy _) s w U bE))
def sX(k:Int):qF:=
 if k=1 then [true,false,false,false,true,false,false,false]
 else if k=2 then [true,false,false,true,true,false,false,false]
 else if k=3 then [false,false,false,false,true,false,true,true]
 else if k=4 then [false,false,false,false,true,false,true,false]
 else if k=5 then [false,false,false,false,true,false,false,false]
 else if k=6 then [true,true,false,false,false,true,false,false]
 else if k=7 then [false,false,true,false,false,false,false,false]
 else [false,false,false,false,false,false,false,false]
def iT(k:Int):Bool:=decide (1<=k)&&decide (k<=7)
def ut(k:Int):AV:=.aO [.agg ((sX k).map .bool),.bool (iT k)]
theorem Uv(a b c d e f g h:AV):cr 8 [a,b,c,d,e,f,g,h]=some (.agg [a,b,c,d,e,f,g,h]):=rfl
theorem Uw(k:Int):cp prog ρ 124 [.int .i64 k] (ut k):=fI fit (pls:=pls) (l:=[]) trivial (.cons (.int _ _) .nil) (.aO (.cons (.agg fun v Y=>by
 obtain⟨b,_,rfl⟩:=lJ.1 Y;exact .bool b) (.cons (.bool _) .nil))) (by
 have V:=fy 124;have U:dF prog 174 [(0,.bool true),(4,.bool true)]=some (.agg [.bool true,.bool false,.bool false,.bool false,.bool true,.bool false,.bool false,.bool false]):=aF;have Z:dF prog 174 [(0,.bool true),(3,.bool true),(4,.bool true)]=some (.agg [.bool true,.bool false,.bool false,.bool true,.bool true,.bool false,.bool false,.bool false]):=aF;have W:dF prog 174 [(4,.bool true),(6,.bool true),(7,.bool true)]=some (.agg [.bool false,.bool false,.bool false,.bool false,.bool true,.bool false,.bool true,.bool true]):=aF;have I:dF prog 174 [(4,.bool true),(6,.bool true)]=some (.agg [.bool false,.bool false,.bool false,.bool false,.bool true,.bool false,.bool true,.bool false]):=aF;have m:dF prog 174 [(4,.bool true)]=some (.agg [.bool false,.bool false,.bool false,.bool false,.bool true,.bool false,.bool false,.bool false]):=aF;have o:dF prog 174 [(0,.bool true),(1,.bool true),(5,.bool true)]=some (.agg [.bool true,.bool true,.bool false,.bool false,.bool false,.bool true,.bool false,.bool false]):=aF;have z:dF prog 174 [(2,.bool true)]=some (.agg [.bool false,.bool false,.bool true,.bool false,.bool false,.bool false,.bool false,.bool false]):=aF;have O:dF prog 174 []=some (.agg [.bool false,.bool false,.bool false,.bool false,.bool false,.bool false,.bool false,.bool false]):=aF;refine bA (M:=27) (rs:=[.cell 2 174,.tmp 3]) (V.call _) V.aF V.ak func124 rfl rfl JC.2 rfl ?_;dsimp only[JC,bt,Nat.reduceAdd];repeat' (first
  |(apply aj ?_;clear hK K)|apply Rx.o ?_|apply aD ?_|(apply aO (fun C L=>?_) (fun C L=>?_)<;>try(cases C;done))|apply ai ?_|(apply ah fun K hK=>?_)|apply aq ?_|apply am ?_|apply au ?_)
 all_goals
  refine⟨aP,_,(by(try simp only[aM,a0,Nat.reduceBEq,Nat.reduceAdd,Nat.reduceLeDiff,tyF,cU,da,Uv, *]);first|done|with_reducible rfl),?_⟩;try simp only[aN]
 all_goals
  first
  |(simp_all[ut,sX,iT];done)
  |(have J:iT k=false:=by
     simp only[iT,sr,iL];omega
    simp_all[ut,sX];done))
theorem Ux(k:Int)(n:Nat):rr k n=((decide ((n:Int)=2)&&yu k)||(decide ((n:Int)=1)&&(decide (k=20)||decide (k=21)))):=by
 unfold rr yu;by_cases h:k=20\/k=21
 .rw[aB h];rcases h with rfl|rfl<;>simp
 .rw[ao h];have o:¬k=20:=fun e=>h (.inl e);have m:¬k=21:=fun e=>h (.inr e);simp only[o,m,iC,lL,Hh];cases decide (4<=k)<;>cases decide (k<=18)<;>cases decide ((n:Int)=2)<;>rfl
noncomputable def wj:En:=⟨85,false,dA (fun s=>s.length<2^60) pL fun s=>.bool (dt s)⟩
def JE:eu prog ρ wj:=eY fun x O=>Uq ρ x O
def wl(x:Int×Nat):ql:=[.int .i64 x.1,.int .i64 x.2]
def Uy(x y:Int×Nat)(h:wl x=wl y):x=y:=by
 simp only[wl,eU,AV.int.injEq,bu,kI]at h;exact Prod.ext h.1 ac
noncomputable def wm:En:=⟨123,false,dA (fun _=>True) wl fun x=>.bool (rr x.1 x.2)⟩
def JF:eu prog ρ wm:=eY fun x _=>Ur ρ x
noncomputable def JG:En:=⟨143,false,dA (fun _=>True) vI fun x=>.bool (zeroE x)⟩
def Uz:eu prog ρ JG:=eY fun x _=>Us ρ x
def UA(U:∀m,dR l 85 m=wj.sp m)(O:∀m,dR l 123 m=wm.sp m)(Z:(∀m,dR l 88 m=none)/\lW l 88=false){base:Nat}{I:Hp->Prop}(J:rq base I):
 uo (aK pls l) base I 88 [] fun x _=>sw x:=by
 intro x d H hz z hi;have V:zaa (aK pls l) 88:=dK Z.1 Z.2;have kv:∀s:qn,s.length<2^60->∀H,aX prog (aK pls l) 85 [.ag s] H fun v H'=>v=.bool (dt s)/\H'=H:=fun s o H=>ev (enc:=pL) (out:=fun x=>.bool (dt x)) BP (x:=s) (U _) o;have ko:∀(k:Int) (n:Nat),∀H,aX prog (aK pls l) 123 [.int .i64 k,.int .i64 n] H fun v H'=>v=.bool (rr k n)/\H'=H:=fun k n H=>ev (enc:=wl) (out:=fun x=>.bool (rr x.1 x.2)) Uy (x:=(k,n)) (O _) trivial;have hsz:=x.aV;refine bA (M:=87) (rs:=[.tmp 4]) (V.call _) V.aF V.ak func88 rfl rfl JD.2 rfl ?_;dsimp only[JD,bt,Nat.reduceAdd];repeat' (first
  |(apply aj ?_;clear hK K)|apply Rx.o ?_|(apply mK ?_;first|refine Rx.k (kv _ ac _) ?_|refine Rx.k (ko _ _ _) ?_)|(apply bz (fun Y C=>?_) (fun Y C=>?_)<;>try(cases Y;done))|(apply aO (fun W L=>?_) (fun W L=>?_)<;>try(cases W;done))|apply ai ?_|(apply ah fun K hK=>?_)|apply aq ?_|apply am ?_|apply au ?_)
 all_goals
  all_goals refine qq ?_
  refine⟨?_,(fU _ _).alloc _,J _ _ hi ((mF _ _).alloc z _)⟩;rw[sw];(try rw[Ux]);(try simp only[ge]at *);simp only[ *,gg,cg,cm,Int.reduceEq]
end
end Go.Proofs.Ytbflaciihaijgaa
