/- Parts: W4i, W4j, W4k, P4a. -/
import Derived.Test.YtpbcimfiofmoeaaGreatPCL
set_option linter.unusedSimpArgs false
set_option linter.unusedVariables false
set_option linter.unusedSectionVars false
set_option linter.defProp false
set_option maxHeartbeats 32000000
namespace Go.Ab
set_option maxRecDepth 20000
open Go
theorem L5{P:Prop}(h:P:=by have:=h.2.1;have:=h.2.2.1;simp only[List.drop_zero];omega):P:=h
theorem Fa{P:Prop}(h:P:=by simp only[zf7,I,Bool.false_and]):P:=h
end Go.Ab
namespace Go.Proofs.YtpbcimfiofmoeaaGreat
set_option maxRecDepth 20000
open Go Go.Ab
section
def tyW4i.tyF:=ad @cN (ad @dH (ad @tK (ad @DK (ad @DL (@Ad)))))
open tyW4i
theorem L6(a b:Int):zgB Tryz.prog 111 [(0,.int .i64 a),(1,.int .i64 b)]=some (.agg [.int .i64 a,.int .i64 b]):=aj
theorem L7:zgB Tryz.prog 111 []=some (.agg [.int .i64 0,.int .i64 0]):=aj
theorem Fc(a b:AV):jo 2 [a,b]=some (.agg [a,b]):=rfl
theorem za8(k:Tk)(x:Int):List.take 2 k.cells++[.int .i64 x]++List.drop 3 k.cells=(Tk.mk k.kind k.text x).cells:=rfl
theorem za9(H:Hp)(k:Tk):zgW Tryz.prog H 142 1 [(0,.agg k.cells)]=some (.sl H.next 0 1 3,H.alloc (.cells k.cells 0 true)):=aj
theorem zo9{zfM H:Hp}{L:AV}{Z:List Tk}(O:vd zfM.next H L Z)(i:FrB 0 zfM H)(Y:zfM.next<H.next)(k:Tk){U:Nat}(C:H.get U=some (.cells k.cells 0 true))(hb:Z.length<2^40):
 ∃V,zgH Tryz.prog false H 142 142 L (.sl U 0 1 3)=some (.sl H.next 0 (Z.length+1) 3,V)/\V.next=H.next+1/\vd zfM.next V (.sl H.next 0 (Z.length+1) 3) (Z++[k])/\FrB 0 zfM V/\∀j,j<H.next->L≠.sl j 0 Z.length 3->V.get j=H.get j:=by
 have J:zhd H 3 (.sl U 0 1 3)=some (0+1,k.cells):=by
  have:=se (H:=H) (r:=U) (o:=0) (n:=1) (z:=3) (s:=3) C (by rw[fo,jR,Tk.clen];rfl);rw[this,fo,fN (by rw[Tk.clen];omega)]
 have M:zg1=70368744177664:=rfl;rcases O with⟨rfl,rfl⟩|⟨r,rfl,g,q3,q4,q5⟩
 .refine⟨H.alloc (.cells k.cells 0 true),?_,rfl,.inr ⟨H.next,au,?_,Y,cI _,au⟩,i.alloc _,fun j m _=>?_⟩
  .exact append_nil Tryz.underlying142 Ac DN DO aj J k.one rfl (by rw[M];omega) (by rw[M];omega)
  .rw[zfk,aq rfl];simp
  .rw[zfk,af ac]
 .refine⟨(H.kill r).alloc (.cells (Z.flatMap Tk.cells++k.cells) 0 true),?_,rfl,.inr ⟨H.next,au,?_,Y,cI _,au⟩,(i.kill ac).alloc _,fun j m K=>?_⟩
  .exact Ia Tryz.underlying142 Ac DN DO aj J k.one rfl g (Ja Z) (by rw[M];omega) (by rw[M];omega)
  .show((H.kill r).alloc _).get (H.kill r).next=_
   rw[zfk,aq rfl];simp
  .have I:¬j=r:=fun e=>K nD;rw[zfk,af mn,zhm,af I]
def zt2(s:List UInt8)(H:Hp)(v:AV)(H':Hp):Prop:=
 ∃(I J:Int) (lv:AV),v=.tup [lv,.agg [.int .i64 I,.int .i64 J]]/\FrB 0 H H'/\((I≠0/\¬sg s)\/(I=0/\∃ts,vd H.next H' lv ts/\An s ts/\(sg s->ts=[⟨1,s,0⟩])))
theorem zx6{cfg:Cfg}(hx:Lexers cfg)(s:List UInt8)(hs:s.length<2^60)(H:Hp):zfs Tryz.prog cfg 156 [.str s] H (zt2 s H):=by
 have hw:=hx.scan;refine zfz (M:=49) (rs:=[.tmp 2,.cell 3 111]) (hw.call _) hw.ice hw.froz Tryz.func156 rfl rfl L4.2 rfl ?_;dsimp only[L4,zft,Nat.reduceAdd];have gh0:=@L6;have gh1:=@L7;repeat' (first
  |(apply ah ?_;clear hK K)|apply Rx.o ?_|apply ct ?_|(apply bt (fun o z=>?_) (fun o z=>?_)<;>try(cases o;done))|apply ak ?_|(apply zff fun K hK=>?_)|apply zfh ?_|apply ax ?_|fail)
 .refine⟨zfj,_,(by(try simp only[zfo,zfv,Nat.reduceBEq,tyF,zgD,zgN,Fc, *]);first|done|with_reducible rfl),?_⟩;try simp only[zfi]
  refine⟨6,20000,.nilS,rfl,um _ _ _,.inl ⟨au,fun h=>?_⟩⟩;have:=h.2.2.1;omega
 .refine aU rfl aV aW ?_;simp only[bi];refine aS ?_ (LY hx.space s hs _);rintro v _ ⟨rfl,rfl⟩;dsimp only[zfp];repeat' (first
   |(apply ah ?_;clear hK K)|apply Rx.o ?_|apply ay ?_|fail)
  have hsp:=vc false s;refine xf (fun n E i=>∃(J:Nat) (ts:List Tk) (lv:AV),n=s.length-J/\J<=s.length/\E.at 0=.str s/\E.at 3=.ptr H.next 0/\E.at 4=lv/\E.at 5=.int .i64 J/\FrB 0 H i/\H.next<i.next /\
   i.get H.next=some (.cells [.int .i64 0,.int .i64 0] 0 true)/\vd H.next i lv ts/\ts.length<=J/\An s ts/\(ts=[]->J=zg2 false s)/\(sg s->(ts=[]/\J=0)\/(ts=[⟨1,s,0⟩]/\J=s.length))) ?_ (n:=s.length-zg2 false s) ?_
  .rintro n E i ⟨J,ts,lv,rfl,ha,h0,h3,h4,h5,g,hn2,hg2,C,htl,Y,L,hnm⟩;have e1:(H.next == i.next)=false:=cC;repeat' (first
    |(apply ah ?_;clear hK K)|apply Rx.o ?_|apply ct ?_|(apply bt (fun o z=>?_) (fun o z=>?_)<;>try(cases o;done))|apply ak ?_|(apply zff fun K hK=>?_)|apply ay ?_|apply zfh ?_|apply ax ?_|apply zfr ?_)
   .have hlt:J<s.length:=by omega
    have hslo:=H0 (P:=Tryz.prog) (k:=.i64) (s:=s) (m:=J) Tryz.underlying9 ha;repeat' (first
     |apply Rx.o ?_|fail)
    have hne:s.drop J≠[]:=by
     intro h;have:=kz List.length h;rw[ku,eM]at this;omega
    refine aU rfl aV aW ?_;simp only[bi];refine aS ?_ (zt1 hx (s.drop J) hne zB i);rintro v j ⟨⟨k,e,rfl,hk⟩,V⟩;have hn3:=V.next
    have hg3:j.get H.next=some (.cells [.int .i64 0,.int .i64 0] 0 true):=by rw[V.get _ (dZ _) hn2];exact hg2
    have Z:vd H.next j lv ts:=by
     rcases C with h|⟨r,q1,q2,q3,q4,q5⟩
     .exact .inl h
     .exact .inr ⟨r,q1,by rw[V.get _ (dZ _) q4];exact q2,q3,ac,q5⟩
    have e2:(H.next == j.next)=false:=cC;dsimp only[zfp];have hx1:Ab.extract (.tup [.agg k.cells,.int .i64 e]) 0=some (.agg k.cells):=rfl;have hx2:Ab.extract (.tup [.agg k.cells,.int .i64 e]) 1=some (.int .i64 e):=rfl;have gh0:=@L6;repeat' (first
     |(apply ah ?_;clear hK K)|apply Rx.o ?_|apply ct ?_|(apply bt (fun o z=>?_) (fun o z=>?_)<;>try(cases o;done))|apply ak ?_|(apply zff fun K hK=>?_)|apply zfh ?_|apply ax ?_|fail)
    .have he:e≠0:=by simpa using o
     refine⟨zfj,_,(by(try simp only[zfo,zfv,Nat.reduceBEq,tyF,zgD,zgN,Fc, *]);first|done|with_reducible rfl),?_⟩;try simp only[zfi]
     refine⟨e,J,.nilS,rfl,?_,.inl ⟨he,fun h=>?_⟩⟩
     .exact((((g.trans V).alloc _).set (.inl ac) _).set (.inl (aE _)) _)
     .rcases hnm h with⟨_,q⟩|⟨_,q⟩
      .subst q;exact he (hk.2.2 h.1 L5 h.2.2.2).1
      .omega
    .have he:e=0:=by simpa using o
     have gh0:=@za8;have gh1:=@za9;repeat' (first
      |apply Rx.o ?_|fail)
     generalize U:Tk.mk k.kind k.text (J:Int)=k';generalize O:Hp.alloc _ (HB.cells (Tk.cells k') 0 true)=H5;have hn5:H5.next=j.next+2:=by rw[<-O];rfl
     have hg5:H5.get (j.next+1)=some (.cells k'.cells 0 true):=by rw[<-O];simp only[get_set,tF,zfw,zfI,Dt,Bv,iJ,pQ]
     have hg5a:H5.get j.next=some (.cells k'.cells 0 true):=by rw[<-O];simp only[get_set,tF,zfw,zfI,Ds,Bv,iJ,pQ]
     have hf5:FrB 0 j H5:=by rw[<-O];exact(((i8 _ _).alloc _).set (.inl (aE _)) _).set (.inl (aE _)) _ |>.alloc _
     have hF5:FrB 0 H H5:=(g.trans V).trans hf5;have hrep5:vd H.next H5 lv ts:=by
      rcases Z with h|⟨r,q1,q2,q3,q4,q5⟩
      .exact .inl h
      .exact .inr ⟨r,q1,by rw[hf5.get _ (dZ _) q4];exact q2,q3,ac,q5⟩
     obtain⟨H6,p1,p2,p3,p4,p5⟩:=zo9 hrep5 hF5 ac k' hg5 ac;have hkeep:=hx.keep;have hg6:H6.get H.next=some (.cells [.int .i64 0,.int .i64 0] 0 true):=by
      rw[p5 _ ac (fun e=>by rcases Z with⟨_,q⟩|⟨r,q1,_,q3,_⟩<;>simp_all),hf5.get _ (dZ _) ac];exact hg3
     have hg6a:H6.get j.next=some (.cells k'.cells 0 true):=by
      rw[p5 _ ac (fun e=>by rcases Z with⟨_,q⟩|⟨r,q1,_,q3,q4,_⟩<;>simp_all)];exact hg5a
     obtain⟨n,hn1,hn2',hkt,hkk⟩:=hk.2.1 he;rw[ku]at hn2';have hktl:k'.text.length=n:=by rw[<-U];show k.text.length=n;rw[hkt,jR,ku];omega
     have hwr:IntKind.wrap .i64 ((J:Int)+(n:Int))=((J+n:Nat):Int):=by rw[tx _ ac];omega
     have hslo2:=H0 (P:=Tryz.prog) (k:=.i64) (s:=s) (m:=J+n) Tryz.underlying9 ac;refine sd zhx zhx (by rw[hkeep];exact p1) ?_;repeat' (first
      |(apply ah ?_;clear hK K)|apply Rx.o ?_|(apply zff fun K hK=>?_)|fail)
     refine aU rfl aV aW ?_;simp only[bi];refine aS ?_ (LY hx.space (s.drop (J+n)) zB _);rintro v _ ⟨rfl,rfl⟩;dsimp only[zfp];have hsp2:=vc false (s.drop (J+n));rw[ku]at hsp2;have hwr2:IntKind.wrap .i64 (((J+n:Nat):Int)+(zg2 false (s.drop (J+n)):Int))=((J+n+zg2 false (s.drop (J+n)):Nat):Int):=by rw[tx _ ac];omega
     repeat' (first
      |(apply ah ?_;clear hK K)|apply Rx.o ?_|fail)
     refine⟨s.length-(J+n+zg2 false (s.drop (J+n))),ac,J+n+zg2 false (s.drop (J+n)),ts++[k'],.sl H5.next 0 (ts.length+1) 3,rfl,ac,eE,eE,eE,(by first|(simp only[zfo,Nat.reduceBEq,jS, *];done)|rfl),p4,ac,hg6,p3,cC,fun t rest hr=>?_,au,fun h=>.inr ?_⟩
     .cases ts with
      |nil=>
       simp only[oo,eB]at hr;obtain⟨rfl,_⟩:=hr;rw[<-L rfl];exact⟨k,by rw[<-he];exact hk,by rw[<-U],by rw[<-U]⟩
      |cons t0 ts=>
       simp only[pj,eB]at hr;obtain⟨rfl,_⟩:=hr;exact Y _ _ rfl
     .rcases hnm h with⟨rfl,q⟩|⟨_,q⟩
      .subst q;have I:=(hk.2.2 h.1 L5 h.2.2.2).2;simp only[fo]at I hkt;have hwn:zgX s=s.length:=h.2.1;rw[hwn,zo]at I;have hns:n=s.length:=by
        have:=kz List.length hkt;rw[I,jR]at this;have h3:s.length=min n s.length:=this;omega
       have hkk2:k'=⟨1,s,0⟩:=by rw[<-U,I];rfl
       refine⟨by rw[hkk2];rfl,?_⟩;rw[hns];simp[zg2]
      .omega
   .have hat:J=s.length:=by omega
    have gh0:=@L7;repeat' (first
     |(apply ah ?_;clear hK K)|fail)
    refine⟨zfj,_,(by(try simp only[zfo,zfv,Nat.reduceBEq,tyF,zgD,zgN,Fc, *]);first|done|with_reducible rfl),?_⟩;try simp only[zfi]
    refine⟨0,0,lv,rfl,g.set (.inl (aE _)) _,.inr ⟨rfl,ts,?_,Y,fun h=>?_⟩⟩
    .rcases C with h|⟨r,q1,q2,q3,q4,q5⟩
     .exact .inl h
     .exact .inr ⟨r,q1,by rw[aQ,af ac];exact q2,q3,q4,q5⟩
    .rcases hnm h with⟨_,q⟩|⟨q,_⟩
     .have:=h.1;have:=h.2.1;omega
     .exact q
  .refine⟨zg2 false s,[],.nilS,rfl,hsp,eE,eE,eE,eE,(i8 _ _).alloc _,fx,eF,.inl ⟨rfl,rfl⟩,au,by simp[An],fun _=>rfl,fun h=>.inl ⟨rfl,YT h⟩⟩
end
section
def tyW4j.tyF:=ad @cN (ad @dH (ad @tK (ad @DK (ad @DL (ad @Ad (ad @iO (ad @List.flatMap_cons.{0,0} (ad @List.flatMap_nil.{0,0} (@wO)))))))))
open tyW4j
noncomputable def L8:{c:SC // aH 44 (Tryz.f120.body.getD .skip)=c}:=by
 refine⟨?_,?_⟩;rotate_left
 .simp only[Tryz.f120,bS,aH,zfO,zfL,zfR,zfS,Nat.blt,Nat.ble];rfl
noncomputable def L9:{c:SC // aH 15 (Tryz.f121.body.getD .skip)=c}:=by
 refine⟨?_,?_⟩;rotate_left
 .simp only[Tryz.f121,bS,aH,zfO,zfL,zfR,zfS,Nat.blt,Nat.ble];rfl
theorem Fe{cfg:Cfg}(hx:Lexers cfg)(g:Plain cfg 120)(s:List UInt8)(hs:s.length<2^60)(H:Hp):
 zfs Tryz.prog cfg 120 [.str s] H fun v H'=>v=.bool (zf7 s)/\FrB 0 H H':=by
 refine zfz (M:=44) (rs:=[.tmp 2]) (g.call _) g.ice g.froz Tryz.func120 rfl rfl L8.2 rfl ?_;dsimp only[L8,zft,Nat.reduceAdd];repeat' (first
  |(apply ah ?_;clear hK K)|apply Rx.o ?_|apply ak ?_|(apply zff fun K hK=>?_)|fail)
 refine aU rfl aV aW ?_;simp only[bi];refine aS ?_ (zx6 hx s hs H);rintro v H2 ⟨V,U,lv,rfl,m,C⟩;have hx1:Ab.extract (.tup [lv,.agg [.int .i64 V,.int .i64 U]]) 0=some lv:=rfl;have hx2:Ab.extract (.tup [lv,.agg [.int .i64 V,.int .i64 U]]) 1=some (.agg [.int .i64 V,.int .i64 U]):=rfl;dsimp only[zfp];have O:FrB 0 H ((H2.alloc (.cells [.int .i64 0,.int .i64 0] 0 true)).set H2.next (.cells [.int .i64 V,.int .i64 U] 0 true)):=(m.alloc _).set (.inl m.next) _;rcases C with⟨h1,h2⟩|⟨rfl,ts,i,Y,j⟩
 .have I:ll s=false:=by
   cases o:ll s with
   |false=>rfl
   |true=>exact(h2 ((Ao s).1 o)).elim
  repeat' (first
   |(apply ah ?_;clear hK K)|apply Rx.o ?_|apply ct ?_|(apply dr (fun J z=>?_) (fun J z=>?_)<;>try(cases J;done))|(apply bt (fun o Z=>?_) (fun o Z=>?_)<;>try(cases o;done))|apply ak ?_|(apply zff fun K hK=>?_)|apply ax ?_)
  all_goals (refine⟨zfj,_,zfq,?_⟩;try simp only[zfi])
  exact⟨Fa,O⟩
 .rcases i with⟨rfl,rfl⟩|⟨r,rfl,q2,q3,q4,q5⟩
  .have I:ll s=false:=by
    cases o:ll s with
    |false=>rfl
    |true=>have:=j ((Ao s).1 o);simp at this
   repeat' (first
    |(apply ah ?_;clear hK K)|apply Rx.o ?_|apply ct ?_|(apply dr (fun J z=>?_) (fun J z=>?_)<;>try(cases J;done))|(apply bt (fun o Z=>?_) (fun o Z=>?_)<;>try(cases o;done))|apply ak ?_|(apply zff fun K hK=>?_)|apply ax ?_)
   all_goals (refine⟨zfj,_,zfq,?_⟩;try simp only[zfi])
   exact⟨Fa,O⟩
  .have e1:(r == H2.next)=false:=by simp;omega
   by_cases hl:ts.length=1
   .obtain⟨k,rfl⟩:=List.length_eq_one_iff.1 hl;simp only[tL,Kz,bi]at q2;simp only[dg,eM,b9]at hx1 hx2⊢;have L:sg s↔(k.kind=1/\k.text=s):=⟨fun h=>by have:=j h;simp only[eB,a0]at this;rw[this];exact⟨rfl,rfl⟩,fun h=>YU Y h.1 h.2⟩;have I:ll s=(decide (k.kind=1)&&decide (k.text=s)):=by
     rw[wF,Ao,L];simp
    clear L j Y;have hidx:zgi Tryz.prog 142 (.sl r 0 1 3) (.int .i64 0)=some (.ptr r 0):=aj;repeat' (first
     |(apply ah ?_;clear hK K)|apply Ry.o ?_|apply bM ?_|(apply bC (fun J z=>?_) (fun J z=>?_)<;>try(cases J;done))|(apply aL (fun o Z=>?_) (fun o Z=>?_)<;>try(cases o;done))|apply ak ?_|(apply zff fun K hK=>?_)|apply ay ?_|apply zfh ?_|apply ax ?_)
    all_goals (refine⟨zfj,_,zfq,?_⟩;try simp only[zfi])
    all_goals (refine⟨?_,O⟩;simp only[zf7,I,sh];simp_all)
   .have I:ll s=false:=by
     cases o:ll s with
     |false=>rfl
     |true=>have:=j ((Ao s).1 o);rw[this]at hl;simp at hl
    have hl2:decide ((ts.length:Int)=1)=false:=cC;repeat' (first
     |(apply ah ?_;clear hK K)|apply Rx.o ?_|apply ct ?_|(apply dr (fun J z=>?_) (fun J z=>?_)<;>try(cases J;done))|(apply bt (fun o Z=>?_) (fun o Z=>?_)<;>try(cases o;done))|apply ak ?_|(apply zff fun K hK=>?_)|apply ax ?_)
    all_goals (refine⟨zfj,_,zfq,?_⟩;try simp only[zfi])
    exact⟨Fa,O⟩
end
section
def tyW4k.tyF:=ad @cN (ad @dH (ad @iO (ad @ej (ad @fP (@eR)))))
open tyW4k
noncomputable def Ma:{c:SC // aH 23 (Tryz.f157.body.getD .skip)=c}:=by
 refine⟨?_,?_⟩;rotate_left
 .simp only[Tryz.f157,bS,aH,zfO,zfL,zfR,zfS,Nat.blt,Nat.ble];rfl
noncomputable def Mb:{c:SC // aH 27 (Tryz.f184.body.getD .skip)=c}:=by
 refine⟨?_,?_⟩;rotate_left
 .simp only[Tryz.f184,bS,aH,zfO,zfL,zfR,zfS,Nat.blt,Nat.ble];rfl
noncomputable def BA:{c:SC // aH 10 (Tryz.f159.body.getD .skip)=c}:=by
 refine⟨?_,?_⟩;rotate_left
 .simp only[Tryz.f159,bS,aH,zfO,zfL,zfR,zfS,Nat.blt,Nat.ble];rfl
def sT(k kids:Int):Bool:=if k=20\/k=21 then decide (kids=1)else decide (4<=k)&&decide (k<=18)&&decide (kids=2)
theorem zpa{cfg:Cfg}(Z:Plain cfg 157)(k kids:Int)(H:Hp):
 zfs Tryz.prog cfg 157 [.int .i64 k,.int .i64 kids] H fun v H'=>v=.bool (sT k kids)/\H'=H:=by
 refine zfz (M:=23) (rs:=[.tmp 4]) (Z.call _) Z.ice Z.froz Tryz.func157 rfl rfl Ma.2 rfl ?_;dsimp only[Ma,zft,Nat.reduceAdd];repeat' (first
  |(apply ah ?_;clear hK K)|apply Rx.o ?_|(apply dr (fun J z=>?_) (fun J z=>?_)<;>try(cases J;done))|(apply bt (fun o Y=>?_) (fun o Y=>?_)<;>try(cases o;done))|apply ak ?_|(apply zff fun K hK=>?_)|apply zfh ?_|apply ax ?_)
 all_goals
  all_goals (refine⟨zfj,_,zfq,?_⟩;try simp only[zfi])
 all_goals (refine⟨?_,gm⟩;simp_all[sT]<;>omega)
theorem zry{cfg:Cfg}(Z:Plain cfg 184)(x:Ex)(H:Hp):
 zfs Tryz.prog cfg 184 [.agg x.cells] H fun v H'=>v=.bool (zeroE x)/\FrB 0 H H':=by
 refine zfz (M:=27) (rs:=[.tmp 2]) (Z.call _) Z.ice Z.froz Tryz.func184 rfl rfl Mb.2 rfl ?_;dsimp only[Mb,zft,Nat.reduceAdd];repeat' (first
  |(apply ah ?_;clear hK K)|apply Rx.o ?_|(apply dr (fun J z=>?_) (fun J z=>?_)<;>try(cases J;done))|apply ak ?_|(apply zff fun K hK=>?_)|apply ax ?_)
 all_goals
  all_goals (refine⟨zfj,_,zfq,?_⟩;try simp only[zfi])
 all_goals (refine⟨?_,(i8 _ _).alloc _⟩;simp_all[zeroE])
def mX(s:List UInt8)(U:Bool):Bool:=if U then zf7 s else decide (s=[])
theorem zlV{cfg:Cfg}(C:Lexers cfg)(Y:Plain cfg 120)(Z:Plain cfg 159)(s:List UInt8)(U:Bool)(V:s.length<2^60)(H:Hp):
 zfs Tryz.prog cfg 159 [.str s,.bool U] H fun v H'=>v=.bool (mX s U)/\FrB 0 H H':=by
 cases U
 .refine zfz (M:=10) (rs:=[.tmp 4]) (Z.call _) Z.ice Z.froz Tryz.func159 rfl rfl BA.2 rfl ?_;dsimp only[BA,zft,Nat.reduceAdd];repeat' (first
   |(apply ah ?_;clear hK K)|apply Rx.o ?_|(apply bt (fun o z=>?_) (fun o z=>?_)<;>try(cases o;done))|apply ak ?_|(apply zff fun K hK=>?_)|apply zfh ?_|apply ax ?_)
  all_goals (refine⟨zfj,_,zfq,?_⟩;try simp only[zfi])
  exact⟨by simp[mX],i8 _ _⟩
 .refine zfz (M:=10) (rs:=[.tmp 4]) (Z.call _) Z.ice Z.froz Tryz.func159 rfl rfl BA.2 rfl ?_;dsimp only[BA,zft,Nat.reduceAdd];repeat' (first
   |(apply ah ?_;clear hK K)|apply Rx.o ?_|(apply bt (fun o z=>?_) (fun o z=>?_)<;>try(cases o;done))|apply ak ?_|(apply zff fun K hK=>?_)|fail)
  refine aU rfl aV aW ?_;simp only[bi];refine aS ?_ (Fe C Y s V H);rintro v J ⟨rfl,m⟩;dsimp only[zfp];repeat' (first
   |(apply ah ?_;clear hK K)|apply Rx.o ?_|apply ax ?_)
  all_goals (refine⟨zfj,_,zfq,?_⟩;try simp only[zfi])
  exact⟨by simp[mX],m⟩
theorem zkh{cfg:Cfg}(C:Lexers cfg)(L:Plain cfg 120)(V:Plain cfg 121)(l:List (List UInt8))(hz:zgU l<2^60)(H:Hp):
 zfs Tryz.prog cfg 121 [jp l] H fun v H'=>v=.bool (l.all zf7)/\FrB 0 H H':=by
 have hl:l.length<2^60:=by have:=sf l;omega
 refine zfz (M:=15) (rs:=[.tmp 2]) (V.call _) V.ice V.froz Tryz.func121 rfl rfl L9.2 rfl ?_;dsimp only[L9,zft,Nat.reduceAdd];repeat' (first
  |(apply ah ?_;clear hK K)|apply Rx.o ?_|apply ak ?_|(apply zff fun K hK=>?_)|apply ay ?_|fail)
 refine pd (fun i E J=>l.all zf7=(l.drop i).all zf7/\E.at 5=.lst (l.map fun s=>[.str s])/\E.at 6=.int .i64 l.length/\E.at 7=.int .i64 i/\FrB 0 H J) l.length ?_ ?_
 .rintro i E J I ⟨hc,h5,h6,h7,m⟩;repeat' (first
   |(apply ah ?_;clear hK K)|apply Rx.o ?_|(apply bt (fun o z=>?_) (fun o z=>?_)<;>try(cases o;done))|apply ak ?_|(apply zff fun K hK=>?_)|apply ay ?_|apply zfh ?_|apply ax ?_|apply zfr ?_)
  .have O:i<l.length:=by simpa using o
   have j:l[i]?=some l[i]:=aR O;have g:=I0 (dI O);have Z:(l.drop i).all zf7=(zf7 l[i]&&(l.drop (i+1)).all zf7):=x6;repeat' (first
    |(apply ah ?_;clear hK K)|apply Rx.o ?_|apply ak ?_|(apply zff fun K hK=>?_)|fail)
   refine aU rfl aV aW ?_;simp only[bi];refine aS ?_ (Fe C L l[i] ac J);rintro v H3 ⟨rfl,Y⟩;dsimp only[zfp];repeat' (first
    |(apply ah ?_;clear hK K)|apply Rx.o ?_|(apply bt (fun o z=>?_) (fun o z=>?_)<;>try(cases o;done))|apply ak ?_|(apply zff fun K hK=>?_)|apply zfh ?_|apply ax ?_|fail)
   .all_goals (refine⟨zfj,_,zfq,?_⟩;try simp only[zfi])
    exact⟨by rw[hc,Z];simp_all,m.trans Y⟩
   .refine⟨O,by rw[hc,Z];simp_all,eE,eE,?_,m.trans Y⟩;simp only[jx,Nat.reduceBEq,iJ,zhe (show i<2^62 by omega)]
  .all_goals (refine⟨zfj,_,zfq,?_⟩;try simp only[zfi])
   have U:i=l.length:=t9;exact⟨by rw[hc,U];simp,m⟩
 .exact⟨au,eE,eE,eE,i8 _ _⟩
end
section
def tyP4a.tyF:=ad @ej (ad @cN (ad @dH (ad @fP (ad @eR (ad @tJ (@IF))))))
open tyP4a
noncomputable def Mc:{c:SC // aH 27 (Tryz.f158.body.getD .skip)=c}:=by
 refine⟨?_,?_⟩;rotate_left
 .simp only[Tryz.f158,bS,aH,zfO,zfL,zfR,zfS,Nat.blt,Nat.ble];rfl
noncomputable def Md:{c:SC // aH 87 (Tryz.f123.body.getD .skip)=c}:=by
 refine⟨?_,?_⟩;rotate_left
 .simp only[Tryz.f123,bS,aH,zfO,zfL,zfR,zfS,Nat.blt,Nat.ble];rfl
noncomputable def BB:{c:SC // aH 10 (Tryz.f160.body.getD .skip)=c}:=by
 refine⟨?_,?_⟩;rotate_left
 .simp only[Tryz.f160,bS,aH,zfO,zfL,zfR,zfS,Nat.blt,Nat.ble];rfl
theorem zyd{l:List En}(h:∀f,f∈[203,197,195,182,198,196,183,156]->(∀j,zgw l f j=none)/\lQ l f=false):Lexers (zfn pls l) where
 let_:=zgK (h _ au).1 (h _ au).2
 dig:=zgK (h _ au).1 (h _ au).2
 word:=zgK (h _ au).1 (h _ au).2
 space:=zgK (h _ au).1 (h _ au).2
 num:=zgK (h _ au).1 (h _ au).2
 sym:=zgK (h _ au).1 (h _ au).2
 first:=zgK (h _ au).1 (h _ au).2
 scan:=zgK (h _ au).1 (h _ au).2
 plan _:=by first|rfl|kernel_rfl
 keep:=rfl
theorem Fh:Lexers (zfn pls []):=zyd fun f _=>⟨fun _=>rfl,rfl⟩
theorem zpb(ρ:Nat->Int)(s:List UInt8)(K:s.length<2^60):ce Tryz.prog ρ 120 [.str s] (.bool (zf7 s)):=
 zg3 fit (pls:=pls) (l:=[]) trivial (.cons (.str _) .nil) (.bool _) (aS (fun v H h=>h.1) (Fe Fh (zha _) s K zfM))
theorem zye(ρ:Nat->Int)(x:Int×Nat):ce Tryz.prog ρ 157 [.int .i64 x.1,.int .i64 x.2] (.bool (sT x.1 x.2)):=
 zg3 fit (pls:=pls) (l:=[]) trivial (.cons (.int _ _) (.cons (.int _ _) .nil)) (.bool _) (aS (fun v H h=>h.1) (zpa (zha _) x.1 x.2 zfM))
theorem zrz(ρ:Nat->Int)(x:Ex):ce Tryz.prog ρ 184 [.agg x.cells] (.bool (zeroE x)):=
 zg3 fit (pls:=pls) (l:=[]) trivial (.cons (.agg x.pure) .nil) (.bool _) (aS (fun v H h=>h.1) (zry (zha _) x zfM))
theorem zpc(ρ:Nat->Int)(l:List (List UInt8))(L:zgU l<2^60):ce Tryz.prog ρ 121 [jp l] (.bool (l.all zf7)):=
 zg3 fit (pls:=pls) (l:=[]) trivial (.cons (xw _) .nil) (.bool _) (aS (fun v H h=>h.1) (zkh Fh (zha _) (zha _) l L zfM))
theorem zpd(ρ:Nat->Int)(s:List UInt8)(w:Bool)(K:s.length<2^60):ce Tryz.prog ρ 159 [.str s,.bool w] (.bool (mX s w)):=
 zg3 fit (pls:=pls) (l:=[]) trivial (.cons (.str _) (.cons (.bool _) .nil)) (.bool _) (aS (fun v H h=>h.1) (zlV Fh (zha _) (zha _) s w K zfM))
def uo(k:Int):List Bool:=
 if k=1 then [true,false,false,false,true,false,false,false]
 else if k=2 then [true,false,false,true,true,false,false,false]
 else if k=3 then [false,false,false,false,true,false,true,true]
 else if k=4 then [false,false,false,false,true,false,true,false]
 else if k=5 then [false,false,false,false,true,false,false,false]
 else if k=6 then [true,true,false,false,false,true,false,false]
 else if k=7 then [false,false,true,false,false,false,false,false]
 else [false,false,false,false,false,false,false,false]
def kS(k:Int):Bool:=decide (1<=k)&&decide (k<=7)
def vK(k:Int):AV:=.tup [.agg ((uo k).map .bool),.bool (kS k)]
theorem zbn(a b c d e f g h:AV):jo 8 [a,b,c,d,e,f,g,h]=some (.agg [a,b,c,d,e,f,g,h]):=rfl
theorem zpf(ρ:Nat->Int)(k:Int):ce Tryz.prog ρ 158 [.int .i64 k] (vK k):=zg3 fit (pls:=pls) (l:=[]) trivial (.cons (.int _ _) .nil) (.tup (.cons (.agg fun v U=>by
 obtain⟨b,_,rfl⟩:=lc.1 U;exact .bool b) (.cons (.bool _) .nil))) (by
 have Z:=zha 158;have J:zgB Tryz.prog 206 [(0,.bool true),(4,.bool true)]=some (.agg [.bool true,.bool false,.bool false,.bool false,.bool true,.bool false,.bool false,.bool false]):=aj;have I:zgB Tryz.prog 206 [(0,.bool true),(3,.bool true),(4,.bool true)]=some (.agg [.bool true,.bool false,.bool false,.bool true,.bool true,.bool false,.bool false,.bool false]):=aj;have Y:zgB Tryz.prog 206 [(4,.bool true),(6,.bool true),(7,.bool true)]=some (.agg [.bool false,.bool false,.bool false,.bool false,.bool true,.bool false,.bool true,.bool true]):=aj;have V:zgB Tryz.prog 206 [(4,.bool true),(6,.bool true)]=some (.agg [.bool false,.bool false,.bool false,.bool false,.bool true,.bool false,.bool true,.bool false]):=aj;have O:zgB Tryz.prog 206 [(4,.bool true)]=some (.agg [.bool false,.bool false,.bool false,.bool false,.bool true,.bool false,.bool false,.bool false]):=aj;have L:zgB Tryz.prog 206 [(0,.bool true),(1,.bool true),(5,.bool true)]=some (.agg [.bool true,.bool true,.bool false,.bool false,.bool false,.bool true,.bool false,.bool false]):=aj;have C:zgB Tryz.prog 206 [(2,.bool true)]=some (.agg [.bool false,.bool false,.bool true,.bool false,.bool false,.bool false,.bool false,.bool false]):=aj;have m:zgB Tryz.prog 206 []=some (.agg [.bool false,.bool false,.bool false,.bool false,.bool false,.bool false,.bool false,.bool false]):=aj;refine zfz (M:=27) (rs:=[.cell 2 206,.tmp 3]) (Z.call _) Z.ice Z.froz Tryz.func158 rfl rfl Mc.2 rfl ?_;dsimp only[Mc,zft,Nat.reduceAdd];repeat' (first
  |(apply ah ?_;clear hK K)|apply Rx.o ?_|apply ct ?_|(apply bt (fun o z=>?_) (fun o z=>?_)<;>try(cases o;done))|apply ak ?_|(apply zff fun K hK=>?_)|apply ay ?_|apply zfh ?_|apply ax ?_)
 all_goals
  refine⟨zfj,_,(by(try simp only[zfo,zfv,Nat.reduceBEq,tyF,zgD,zgN,zbn, *]);first|done|with_reducible rfl),?_⟩;try simp only[zfi]
 all_goals
  first
  |(simp_all[vK,uo,kS];done)
  |(have j:kS k=false:=by
     simp only[kS,sm,i4];omega
    simp_all[vK,uo];done))
theorem zbp(k:Int)(n:Nat):sT k n=((decide ((n:Int)=2)&&tX k)||(decide ((n:Int)=1)&&(decide (k=20)||decide (k=21)))):=by
 unfold sT tX;by_cases h:k=20\/k=21
 .rw[aq h];rcases h with rfl|rfl<;>simp
 .rw[af h];have i:¬k=20:=fun e=>h (.inl e);have g:¬k=21:=fun e=>h (.inr e);simp only[i,g,gE,gK,p7];cases decide (4<=k)<;>cases decide (k<=18)<;>cases decide ((n:Int)=2)<;>rfl
noncomputable def yb:En:=⟨120,false,dc (fun s=>s.length<2^60) nJ fun s=>.bool (zf7 s)⟩
theorem Me(ρ:Nat->Int):zgE Tryz.prog ρ yb:=zgO fun x C=>zpb ρ x C
def yc(x:Int×Nat):List AV:=[.int .i64 x.1,.int .i64 x.2]
theorem zyf(x y:Int×Nat)(h:yc x=yc y):x=y:=by
 simp only[yc,eB,AV.int.injEq,a0,kA]at h;exact sn h.1 ac
noncomputable def yd:En:=⟨157,false,dc (fun _=>True) yc fun x=>.bool (sT x.1 x.2)⟩
theorem Mf(ρ:Nat->Int):zgE Tryz.prog ρ yd:=zgO fun x _=>zye ρ x
noncomputable def Mg:En:=⟨184,false,dc (fun _=>True) xI fun x=>.bool (zeroE x)⟩
theorem zyg(ρ:Nat->Int):zgE Tryz.prog ρ Mg:=zgO fun x _=>zrz ρ x
theorem zt3{l:List En}(U:∀C,zgw l 120 C=yb.sp C)(j:∀C,zgw l 157 C=yd.sp C)(J:(∀C,zgw l 123 C=none)/\lQ l 123=false){base:Nat}{I:Hp->Prop}(m:sR base I):
 vG (zfn pls l) base I 123 [] fun x _=>lS x:=by
 intro x d H hz g O;have Y:Plain (zfn pls l) 123:=zgK J.1 J.2;have L:∀s:List UInt8,s.length<2^60->∀H,zfs Tryz.prog (zfn pls l) 120 [.str s] H fun v H'=>v=.bool (zf7 s)/\H'=H:=fun s i H=>zgL (enc:=nJ) (out:=fun x=>.bool (zf7 x)) vi (x:=s) (U _) i;have ko:∀(k:Int) (n:Nat),∀H,zfs Tryz.prog (zfn pls l) 157 [.int .i64 k,.int .i64 n] H fun v H'=>v=.bool (sT k n)/\H'=H:=fun k n H=>zgL (enc:=yc) (out:=fun x=>.bool (sT x.1 x.2)) zyf (x:=(k,n)) (j _) trivial;have hsz:=x.sz_eq;refine zfz (M:=87) (rs:=[.tmp 4]) (Y.call _) Y.ice Y.froz Tryz.func123 rfl rfl Md.2 rfl ?_;dsimp only[Md,zft,Nat.reduceAdd];repeat' (first
  |(apply ah ?_;clear hK K)|apply Rx.o ?_|(apply kF ?_;first|refine Rx.k (L _ ac _) ?_|refine Rx.k (ko _ _ _) ?_)|(apply dr (fun V z=>?_) (fun V z=>?_)<;>try(cases V;done))|(apply bt (fun o Z=>?_) (fun o Z=>?_)<;>try(cases o;done))|apply ak ?_|(apply zff fun K hK=>?_)|apply ay ?_|apply zfh ?_|apply ax ?_)
 all_goals
  all_goals (refine⟨zfj,_,zfq,?_⟩;try simp only[zfi])
  refine⟨?_,(i8 _ _).alloc _,m _ _ O ((pn _ _).alloc g _)⟩;rw[lS];(try rw[zbp]);(try simp only[iQ]at *);simp only[ *,gE,gK,oP,cV,cS,Int.reduceEq]
end
end Go.Proofs.YtpbcimfiofmoeaaGreat
