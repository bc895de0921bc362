/- Lemmas for the last file. -/
import Derived.Test.YtpbcimfiofmoeaaGreatWEL
set_option linter.all false
set_option maxHeartbeats 32000000
namespace Go.Ab
set_option maxRecDepth 20000
open Go
variable{qe:Prop}
def QE(h:qe:=by have:=hFr.n;rw[hlv.n]at this;exact this):=h
def QF(h:qe:=by rw[vM _ _ _ _ _ h2,List.length_replicate]):=h
def QG(h:qe:=by rw[aD,if_neg (by have:=(ha.lt z).2;omega)]):=h
def yK(h:qe:=by rw[<- hp];rfl):=h
def Fa(h:qe:=by rw[List.drop_zero]):=h
def QH(h:qe:=by simp only[List.length_cons,List.length_map,List.length_take];omega):=h
def QI(h:qe:=by rw[<- hJ];exact((ea.refl _).setV _).trans (sd _ _ _ _).1):=h
def QJ(h:qe:=by rw[List.map_append,List.map_cons,List.map_nil,hy];rfl):=h
def QK(h:qe:=by simp only[List.length_cons,List.length_map];omega):=h
def QL(h:qe:=by simp only[List.length_cons,List.length_nil]at hwlen ⊢;omega):=h
def QM(h:qe:=by rw[List.getD_eq_getElem?_getD,List.getElem?_eq_getElem J];grind):=h
def QN(h:qe:=by simp only[List.length_append,List.length_cons,List.length_map,List.length_take,List.length_nil];omega):=h
def QO(h:qe:=by rw[List.map_append,List.map_cons,List.map_nil,hy];simp):=h
def QP(h:qe:=by rw[<- hJ];exact((ea.refl _).setV _).trans (tc _ _ _ _ _ _).1):=h
def Fc(h:qe:=by have:=(h.sS k z).1;omega):=h
def QQ(h:qe:=by rw[aD,if_neg (by have:=(h.vS k z).2;omega)]):=h
def QR(h:qe:=by rw[aD,if_neg (by have:=R4.o5;grind)];exact m4):=h
def QS(h:qe:=by have:=N7.sub k z;simp only[aU]at this;omega):=h
def QT(h:qe:=by rw[q3 k ac ac,aD,if_neg ac]):=h
def Fe(h:qe:=by simp only[aG,Nat.reduceBEq, *];exact hZ (n:=r.2.vars.length) ac ac):=h
def QU(h:qe:=by rw[f5 k z,aD,if_neg ac];exact hsm.get k z):=h
def QV(h:qe:=by rw[eS,hbl,show i=r.2.vars.length by omega];rfl):=h
def Fh(h:qe:=by simp only[aG,Nat.reduceBEq, *];exact hZ (n:=Z.length) ac ac):=h
def QW(h:qe:=by simp only[aG,Nat.reduceBEq, *];exact hZ (n:=f.params.length) ac ac):=h
def QX(h:qe:=by simp only[aG,Nat.reduceBEq, *];exact hZ (n:=f.ak.length) ac ac):=h
def Fk:=@beq_self_eq_true
def QY:=@List.take_zero
def JP:=@List.nodup_append
end Go.Ab
namespace Go.Proofs.YtpbcimfiofmoeaaGreat
set_option maxRecDepth 20000
open Go Go.Ab Proofs.Tryz
variable{H H':Hp}{b:qM}{i lo n:Nat}{S:Nat->Prop}{Z O U M:AV}{l:qy}{X:Lx}{s r:Bd}{cfg:Cfg}{I:Hp->Prop}{g:FuncId}{q:Ex->Int->Bool}
section
def tyLoH.tyF:=ad @dQ (ad @cr (ad @yb (ad @cK (ad @jn (ad @fP (ad @eL (ad @dV (ad @dR (ad @dD (ad @DF (ad @eh (ad @oW (ad @rN (ad @vL (@uz)))))))))))))))
open tyLoH
noncomputable def QZ:{c:SC // aE 181 (f163.body.getD .skip)=c}:=by
 refine⟨?_,?_⟩;rotate_left
 .simp only[f163,bN,aE,bH,bw,bM,bJ,Nat.blt,Nat.ble];rfl
abbrev mJ(l:qG):qy:=l.map fun(i:Nat)=>(i:Int)
theorem Q0{r imm m:Nat}(hg:H.get r=some (.cells (b.map .bool) imm true))(Y:m<b.length):gX prog H 4 (.ptr r m)=some (.bool (b.getD m false)):=by
 rw[Au underlying4 rfl hg,eI,gU,bj Y];rfl
def vN(b:qM)(i:Nat):qG:=(List.range i).filter fun i=>b.getD i false
def Q1(b:qM)(i:Nat):vN b (i+1)=vN b i++(if b.getD i false=true then [i]else []):=by
 unfold vN;rw[AJ,List.filter_append]
 grind
def Fl(h:i∈eS b):i<b.length:=by
 unfold eS at h;simp_all
def Fm(b:qM)(i:Nat):(vN b i).length<=i:=by
 have:=List.length_filter_le (fun i=>b.getD i false) (List.range i);rw[List.length_range]at this;exact this
def zd5.other{vv:AV}(h:zd5 S vv lo H Z l)(J:H.next<=H'.next)(U:∀k,k<H.next->¬aN O k->H'.get k=H.get k)(hd:∀k,aN Z k->¬aN O k):zd5 S vv lo H' Z l:=⟨h.r.keep J fun k z=>U k (h.r.lt z).2 (hd k z),h.n⟩
def FrL.other{z:Nat->Prop}{vv:AV}{bt:Hp}(h:FrL X z U bt S vv H)(J:H.next<=H'.next)(Z:∀k,k<H.next->¬aN O k->H'.get k=H.get k)(M:∀k,aN O k->bt.next<=k):FrL X z U bt S vv H':=
 ⟨dw h.next J,fun k m j C V Y=>by rw[Z k (lh m h.next) fun e=>by have:=M k e;omega];exact h.get k m j C V Y,h.sub,h.own⟩
def zd5.eS{vv:AV}(h:zd5 S vv lo H O l)(I:zd1 X H S s M vv)(Z:lo<=H.next)(x:Int)(hb:X.b<lo)(V:l.length<2^39):
 ∃j H',cD prog false (H.alloc (.cells [.int .i64 x] 0 true)) 23 23 O (.sl H.next 0 1 1)=some (j,H')/\zd5 S vv lo H' j (l++[x])/\zd1 X H' S s M vv/\H.next<=H'.next/\(∀k,k<H.next->¬aN O k->H'.get k=H.get k)/\(∀k,aN j k->aN O k\/H.next<=k):=by
 obtain⟨j,H',J,C,m,_,a5,Y,a7,_⟩:=h.f1 (I.alloc (.cells [.int .i64 x] 0 true)) cB (cG _) (fun k z=>em) x (r:=H.next) (imm:=0) fc hb V;simp only[aU]at a5 Y a7;exact⟨j,H',J,C,m,ac,fun k h1 U=>by rw[Y k ac U,aD,af ac],fun k z=>by
  grind⟩
def zd5.at{vv:AV}(h:zd5 S vv lo H Z l){x:Int}(I:l[i]?=some x):∃r,el prog 23 Z (.int .i64 (i:Int))=some (.ptr r i)/\gX prog H 3 (.ptr r i)=some (.int .i64 x):=by
 have J:i<l.length:=by
  grind
 rcases h.r with⟨_,rfl⟩|j
 .simp at J
 .obtain⟨r,C,V⟩:=j.at J;simp_all
def Fo{L j:Nat}(Z:L<2^36)(Y:j<2^36):IntKind.wrap .i64 (16*(L:Int))=16*(L:Int)/\IntKind.wrap .i64 (16*(L:Int)+j)=16*(L:Int)+j/\IntKind.wrap .i64 (16*(L:Int)+j+1)=16*(L:Int)+1+j:=by
 refine⟨kR ac ac,kR ac ac,?_⟩;rw[kR ac ac];omega
theorem Q3(base:Int)(w:Nat)(ws:qG)(j:Nat)(s:Bd):ik base (w::ws) j s=ik base ws (j+1) { (ah ⟨3,base+j,[]⟩ s).2 with vars:=(ah ⟨3,base+j,[]⟩ s).2.vars.set w (ah ⟨3,base+j,[]⟩ s).1}:=rfl
theorem Fp(lp c:Int)(old:qy)(w:Nat)(ws:qG)(j:Nat)(s:Bd):fD lp c old (w::ws) j s=fD lp c old ws (j+1) { (bA c (ah ⟨25,j,[lp]⟩ s).1 (old.getD w 0) (ah ⟨25,j,[lp]⟩ s).2).2 with vars:=(bA c (ah ⟨25,j,[lp]⟩ s).1 (old.getD w 0) (ah ⟨25,j,[lp]⟩ s).2).2.vars.set w (bA c (ah ⟨25,j,[lp]⟩ s).1 (old.getD w 0) (ah ⟨25,j,[lp]⟩ s).2).1}:=rfl
theorem JQ(c a b:Int)(s:Bd)(v:qy):bA c a b {s with vars:=v}=((bA c a b s).1,{ (bA c a b s).2 with vars:=v}):=by
 unfold bA;split<;>rfl
theorem Q4(lp c:Int)(old:qy):∀(M:qG) (j:Nat) (s:Bd) (v w:qy),v.length=w.length->(∀i,i∉M->v[i]?=w[i]?)->fD lp c old M j {s with vars:=v}=fD lp c old M j {s with vars:=w}
 |[],j,s,v,w,hl,h=>by
  have:v=w:=HV fun i=>h i EG;rw[this]
 |a::M,j,s,v,w,hl,h=>by
  rw[Fp,Fp];have p:∀v,ah ⟨25,j,[lp]⟩ {s with vars:=v}=((ah ⟨25,j,[lp]⟩ s).1,{ (ah ⟨25,j,[lp]⟩ s).2 with vars:=v}):=fun v=>rfl;rw[p v,p w];simp only[];rw[JQ c _ _ (ah ⟨25,j,[lp]⟩ s).2 v,JQ c _ _ (ah ⟨25,j,[lp]⟩ s).2 w];refine Q4 lp c old M (j+1) (bA c (ah ⟨25,j,[lp]⟩ s).1 (old.getD a 0) (ah ⟨25,j,[lp]⟩ s).2).2 (v.set a (bA c (ah ⟨25,j,[lp]⟩ s).1 (old.getD a 0) (ah ⟨25,j,[lp]⟩ s).2).1) (w.set a (bA c (ah ⟨25,j,[lp]⟩ s).1 (old.getD a 0) (ah ⟨25,j,[lp]⟩ s).2).1) (by rw[jQ,jQ,hl]) fun i I=>?_
  grind
def Q5(b:qM):(eS b).Nodup:=List.nodup_range.filter _
section
variable {tb:qC} (hG:zd9 tb) {X:Lx} {c:Cx} (hX:zig X c) {x:St} {s:Bd} {H:Hp} {S:Nat -> Prop} {lv vv:AV}
set_option maxRecDepth 100000 in
include hG hX in
theorem zde(IH:E9 tb X c n){r:Int×Bd}{t:Bd}{d:Int×Bd}(h1:ec c n x.value {s with loops:=s.loops+1}=some r)(h2:fC c.aF n x.bl (List.replicate r.2.vars.length false)=some b)
 (h3:eY c n x.bl (ik (16*(s.loops:Int)+1) (eS b) 0 { (ah ⟨3,16*(s.loops:Int),[]⟩ r.2).2 with ab:=(ah ⟨3,16*(s.loops:Int),[]⟩ r.2).1})=some t) (h4:ec c n x.value t=some d)
 {k:Int×Bd} (z:ah ⟨31,s.loops,r.2.ab::((eS b).map fun i=>r.2.vars.getD i 0)++[d.1,d.2.ab]++((eS b).map fun i=>d.2.vars.getD i 0)⟩ d.2=k)
 {m:Int×Bd} (hm:bA r.1 (ah ⟨25,0,[k.1]⟩ {k.2 with vars:=r.2.vars}).1 r.2.ab (ah ⟨25,0,[k.1]⟩ {k.2 with vars:=r.2.vars}).2=m)
 (hF:Fin (fD k.1 r.1 r.2.vars (eS b) 1 {m.2 with ab:=m.1})) (hz:x.sz<2^36) (hvl:s.vars.length<2^36) (hout:∀i,i∉eS b->d.2.vars[i]?=r.2.vars[i]?) (hR:zd1 X H S s lv vv) :
 aR prog (au pls tb) 163 [.ptr X.b 0,.agg x.cells] H (pq X S vv H (fD k.1 r.1 r.2.vars (eS b) 1 {m.2 with ab:=m.1})):=by
 have hw:zd0 (au pls tb) 163:=hG.plain cM;have hkeep:(au pls tb).keep 163=false:=rfl;have R1:=hR.alloc (.cells x.cells 0 true);have F1:=(cX X S vv H).alloc (.cells x.cells 0 true);have hmm:m=((bA r.1 (ah ⟨25,0,[k.1]⟩ k.2).1 r.2.ab (ah ⟨25,0,[k.1]⟩ k.2).2).1,{ (bA r.1 (ah ⟨25,0,[k.1]⟩ k.2).1 r.2.ab (ah ⟨25,0,[k.1]⟩ k.2).2).2 with vars:=r.2.vars}):=by
  rw[<-hm];exact JQ _ _ _ (ah ⟨25,0,[k.1]⟩ k.2).2 r.2.vars
 have hdl0:d.2.vars.length=r.2.vars.length:=by
  rw[(dr c n _ _ _ h4).v,((jD c n).2.1 _ _ _ h3).2,(sd _ _ _ _).2.2.1];rfl
 generalize hm':bA r.1 (ah ⟨25,0,[k.1]⟩ k.2).1 r.2.ab (ah ⟨25,0,[k.1]⟩ k.2).2=m' at hmm;have hm'v:m'.2.vars=d.2.vars:=by rw[<-hm',(eZ _ _ _ _).v,<-z];rfl
 have hspec:fD k.1 r.1 r.2.vars (eS b) 1 {m.2 with ab:=m.1}=fD k.1 r.1 r.2.vars (eS b) 1 {m'.2 with ab:=m'.1}:=by
  have h:=Q4 k.1 r.1 r.2.vars (eS b) 1 {m'.2 with ab:=m'.1} r.2.vars d.2.vars hdl0.symm (fun i hi=>(hout i hi).symm);simp_all
 rw[hspec]at hF⊢;clear hspec hmm hm m hout;have hFm':Fin m'.2:=hF.le ⟨(tc _ _ _ _ _ {m'.2 with ab:=m'.1}).1.l,(tc _ _ _ _ _ {m'.2 with ab:=m'.1}).1.n⟩;have hFf':Fin (ah ⟨25,0,[k.1]⟩ k.2).2:=by rw[<-hm']at hFm';exact hFm'.le (eZ _ _ _ _).le
 have hFk:Fin k.2:=hFf'.le (cC _ _).le;have hFd:Fin d.2:=by rw[<-z]at hFk;exact hFk.le (cC _ _).le
 have hFt:Fin t:=hFd.le (dr c n _ _ _ h4).le;have e3:=(jD c n).2.1 _ _ _ h3;have hFl:=hFt.le e3.1;have hFp:Fin (ah ⟨3,16*(s.loops:Int),[]⟩ r.2).2:=hFl.le ⟨(sd _ _ _ { (ah ⟨3,16*(s.loops:Int),[]⟩ r.2).2 with ab:=(ah ⟨3,16*(s.loops:Int),[]⟩ r.2).1}).1.l,(sd _ _ _ { (ah ⟨3,16*(s.loops:Int),[]⟩ r.2).2 with ab:=(ah ⟨3,16*(s.loops:Int),[]⟩ r.2).1}).1.n⟩;have hFr:Fin r.2:=hFp.le (cC _ _).le;have hlv:=dr c n _ _ _ h1;have hrl:r.2.vars.length<2^36:=EW;have hln:s.loops<2^36:=ur (cG _) QE;have hbl:b.length=r.2.vars.length:=QF;have hdl:d.2.vars.length=r.2.vars.length:=by
  omega
 have hsz:=x.aV;have o3:=hR.o3;have o4:=hR.o4;have o5:=hR.o5;clear hlv e3;have bZ:=R1.m;obtain⟨R1s,F1s⟩:=R1.dP (s.loops+1);have m1s:=R1s.m;have g1s:=gc hR F1s;have eL1:IntKind.wrap .i64 ((s.loops:Int)+1)=((s.loops+1:Nat):Int):=gS ac;have F01:=F1.trans F1s;dsimp only[bU]at bZ m1s R1s F1s g1s F01;refine bp (M:=181) (rs:=[]) (hw.call _) hw.aG hw.aB func163 rfl rfl QZ.2 rfl ?_;dsimp only[QZ,bm,Nat.reduceAdd];refine Cf fun K hK=>?_;refine qc ?_;refine aF ?_ (tf hG hX n x.value _ r h1 hFr R1s (cX _ _ _ _));rintro w V ⟨rfl,S2,lv2,R2,F2⟩;have F02:=F1s.trans F2;have g2:=gc hR F02;have m2:=R2.m;have n2:H.next+1<=V.next:=F02.next
 have hl2:=R2.vars.n.len';have hmk:∀H:Hp,pI prog H 84 (.int .i64 r.2.vars.length) (.int .i64 r.2.vars.length)=some (.sl H.next 0 r.2.vars.length 1,H.alloc (.cells ((List.replicate r.2.vars.length false).map .bool) 0 true)):=fun H=>NP _ ac;have nw2:=R2.new (ay _);have R3:=R2.alloc (.cells ((List.replicate r.2.vars.length false).map .bool) 0 true);have g3:(V.alloc (.cells ((List.replicate r.2.vars.length false).map .bool) 0 true)).get H.next=some (.cells x.cells 0 true):=by rw[aD,af ac];exact g2
 clear R1 R1s bZ m1s g1s;dsimp only[bU]at m2;dsimp only[aC];refine Cf fun K hK=>?_;refine qc ?_;have hrep:(List.replicate r.2.vars.length false).length=r.2.vars.length:=xm;have hasg:=JN hG hX (n+1) n (bT _) x.bl _ b h2 ac R3 (q:=V.next) fc nw2.2.2 (bT _) nw2.1 nw2.2.1;rw[hrep]at hasg;refine aF ?_ hasg;clear hasg;rintro w H3 ⟨gb3,n3,q3⟩;simp only[aU]at n3 q3;have hq3:∀k,k<V.next->H3.get k=V.get k:=fun k z=>QT
 have R4:zd1 X H3 S2 r.2 lv2 vv:=R2.keep ac fun k z _=>hq3 k z;have F03:FrL X S vv (H.alloc (.cells x.cells 0 true)) S2 vv H3:=F02.trans ⟨ac,fun k z _ _ _ _=>hq3 k z,fun _ h=>.inl h,fun _ h=>.inl h⟩;clear q3 R3 g3;dsimp only[aC];refine dJ ?_;refine cl [0,3,4,5,6,46] [] 47 r.2.vars.length (fun i E Hi=>∃a,E.at 7=a/\fY Hi a (mJ (vN b i)) (V.next+1)/\Sm (V.next+1) H3 Hi) eE ⟨.ag,eE,.inl ⟨rfl,rfl⟩,⟨fun _ _=>rfl⟩⟩ ?_;rintro i E Hi hi hcE hrH hnH hsI ⟨a,k7,ha,hsm⟩;(try simp only[bC,aZ,aW,aG,aY,Nat.reduceBEq, *]at hcE);(try simp only[aZ, *]at hrH);(try simp only[aU,bq,ce,bR,Nat.reduceAdd]at hnH);by_cases J:i<r.2.vars.length
 .have hlt':(i:Int)<r.2.vars.length:=by omega
  have gbi:Hi.get V.next=some (.cells (b.map .bool) 0 true):=by rw[hsm.get _ ac];exact gb3
  have hix:=E8 (q:=V.next) J;have hld:=Q0 gbi (m:=i) ac;have hws:=Q1 b i;have hwl:=Fm b i;cases hbi:b.getD i false with
  |true=>
   rw[hbi]at hld;rw[hbi,ai rfl]at hws;obtain⟨v5,H5,a5,s5,n5,f5,o5'⟩:=D4 (H:=Hi.alloc (.cells [.int .i64 (i:Int)] 0 true)) (i:Int) (ha.keep (H':=Hi.alloc (.cells [.int .i64 (i:Int)] 0 true)) (cG _) fun k z=>QG) cB (r:=Hi.next) (imm:=0) fc aX;have n5':Hi.next<=H5.next:=Bn
   refine tA (fun hb hbp=>?_);refine⟨ac,a0,a0,ca,Fe,?_⟩;exact⟨v5,eE,.inr bb,⟨fun k z=>QU⟩⟩
  |false=>
   rw[hbi]at hld;rw[hbi,af aw,aS]at hws;refine tA (fun hb hbp=>?_);refine⟨ac,a0,a0,ca,Fe,?_⟩;exact⟨a,eE,by rw[hws];exact ha,hsm⟩
 .have hlt':¬(i:Int)<r.2.vars.length:=by omega
  have hie:vN b i=eS b:=QV;rw[hie]at ha;have hwm:∀j∈eS b,j<r.2.vars.length:=fun j hj=>by have:=Fl hj;omega
  have hwl:(eS b).length<2^36:=by have:=Fm b b.length;grind
  have hnd:=Q5 b;generalize eS b=Z at *;clear hie gb3 h2 hbl;have hi3:∀k,k<V.next+1->Hi.get k=H3.get k:=hsm.get
  have Ri:zd1 X Hi S2 r.2 lv2 vv:=R4.keep hnH fun k z h=>by
   refine hi3 k ?_;rcases h with h|h|h
   .have:=nw2.2.2;omega
   .have:=(R2.sS k h).2.1;omega
   .have:=(R2.vS k h).2;omega
  have W:zd5 S2 vv (V.next+1) Hi a (mJ Z):=⟨ha,fun k z=>by
   have:=R2.new (r:=k) (by have:=(ha.lt z).1;omega);simp_all⟩
  have Fi:FrL X S vv (H.alloc (.cells x.cells 0 true)) S2 vv Hi:=F02.trans ⟨ac,fun k z _ _ _ _=>aX,fun _ h=>.inl h,fun _ h=>.inl h⟩;have gi:=gc hR Fi;have mi:=Ri.m;have ni:H.next+1<=Hi.next:=Fi.next
  clear hsm R4 F03 F02 hi3 ha nw2 hq3 R2 m2 g2;have ew:=(Fo hln (j:=0) ac).1;have Rb:=Ri.alloc (.cells [.int .i64 r.2.ab] 0 true);have Fb:=Fi.alloc (.cells [.int .i64 r.2.ab] 0 true);have gb:=gc hR Fb;dsimp only[bU]at mi;repeat' (first
   |(apply aj ?_;clear hK K)|apply bQ ?_|(apply bu ?_ ?_<;>(intro hb hbp;try(cases hb;done)))|(apply am fun K hK=>?_)|fail)
  refine qc ?_;refine aF ?_ (Bq hG Rb (cX _ _ _ _) 3 (16*(s.loops:Int)) hFp);generalize hp:ah ⟨3,16*(s.loops:Int),[]⟩ r.2=p at *;have hpv:p.2.vars=r.2.vars:=yK;rintro w H5 ⟨rfl,S5,lv5,R5,F5⟩;have W5:zd5 S5 vv (V.next+1) H5 a (mJ Z):=zd5.fr (X:=X) (H:=Hi.alloc (.cells [.int .i64 r.2.ab] 0 true)) ⟨W.r.keep (cG _) fun k z=>by rw[aD,af (by have:=(W.r.lt z).2;omega)],W.n⟩ ac ac F5;have V5:zd5 S5 vv (V.next+1) H5 (.sl Hi.next 0 1 1) [r.2.ab]:=zd5.fr (X:=X) (H:=Hi.alloc (.cells [.int .i64 r.2.ab] 0 true)) (S:=S2) (vv:=vv) ⟨.inr ⟨Hi.next,0,rfl,dZ,cZ _,ac,bT _⟩,fun k z=>by
   have:=Ri.new (r:=k) (by rw[uy z];exact ay _)
   grind⟩ ac ac F5
  have d5:∀k,aN a k->¬aN (.sl Hi.next 0 1 1) k:=fun k h1 h2=>by
   have:=(W.r.lt h1).2;rw[uy h2]at this;omega
  have m5:=R5.m;obtain⟨R6,F6⟩:=R5.setS p.1;have F06:=Fb.trans (F5.trans F6);have W6:=W5.fr (X:=X) ac ac F6;have V6:=V5.fr (X:=X) ac ac F6;have l6:=fun H'=>W5.r.len' (H':=H');have g6:=gc hR F06;have n6:V.next+1<=H5.next:=by have:=F5.next;simp only[aU]at this;omega
  clear R5 F5 Rb gb W5 V5 Ri W gi mi Fi Fb;dsimp only[bU]at m5 R6 F06 W6 V6 g6;rw[dx]at l6;dsimp only[aC];refine dJ ?_;have hdl1:∀j,j<Z.length->r.2.vars[Z.getD j 0]?=some (r.2.vars.getD (Z.getD j 0) 0):=fun j hj=>by
   simp_all
  have haw:∀j,j<Z.length->(mJ Z)[j]?=some ((Z.getD j 0:Nat):Int):=fun j hj=>by
   simp_all
  have hdr:∀j,j<Z.length->Z.drop j=Z.getD j 0::Z.drop (j+1):=fun j hj=>bb;have htk:∀j,j<Z.length->Z.take (j+1)=Z.take j++[Z.getD j 0]:=fun j hj=>bb;have hnt:∀j,j<Z.length->Z.getD j 0∉Z.take j:=fun j hj hm=>by
   have h:=hnd;rw[<-zY j Z,hdr j hj,JP]at h
   grind
  refine cl [0,3,4,5,7,71,72] [] 73 Z.length (fun j E Hj=>∃wv O Sj lvj,E.at 9=wv/\ik (16*(s.loops:Int)+1) (Z.drop j) j O=ik (16*(s.loops:Int)+1) Z 0 {p.2 with ab:=p.1} /\ O.loops=r.2.loops/\O.vars.length=r.2.vars.length/\(∀i,i∉Z.take j->O.vars[i]?=r.2.vars[i]?)/\zd1 X Hj Sj O lvj vv/\FrL X S vv (H.alloc (.cells x.cells 0 true)) Sj vv Hj/\zd5 Sj vv (V.next+1) Hj a (mJ Z)/\zd5 Sj vv (V.next+1) Hj wv (r.2.ab::(Z.take j).map fun i=>r.2.vars.getD i 0)/\∀k,aN a k->¬aN wv k) eE ⟨_,_,S5,lv5,eE,Fa,yK,yK,fun i _=>yK,R6,F06,W6,V6,d5⟩ ?_;clear R6 F06 W6 V6 d5 m5 g6;rintro j E Hj hj hcE hrH hnH hsI ⟨wv,O,Sj,lvj,k9,hJ,hjl,hjv,hjo,Rj,Fj,C,U,dj⟩;(try simp only[bC,aZ,aW,aG,aY,Nat.reduceBEq, *]at hcE);(try simp only[aZ,aY, *]at hrH);(try simp only[bq,]at hnH);have mj:=Rj.m;dsimp only[bU]at mj;have nj:V.next+1<=Hj.next:=dw n6 hnH
  by_cases J:j<Z.length
  .have hlt':(j:Int)<Z.length:=by omega
   have hwj:=haw j J;have hvj:=hdl1 j J;have hnj:=hnt j J;have htj:=htk j J;have hwl1:Z.getD j 0<O.vars.length:=bb;rw[hdr j J]at hJ;rw[Q3]at hJ;rw[<-hjo _ hnj]at hvj;rw[htj];generalize Z.getD j 0=w at *;generalize hy:r.2.vars.getD w 0=y at *;obtain⟨qa,ixa,lda⟩:=C.at hwj;obtain⟨qv,ixv,ldv⟩:=Rj.atV hvj;obtain⟨e1,e2,e3⟩:=Fo hln (j:=j) ac;obtain⟨v',H',a1,W',R',n',q',own'⟩:=U.eS Rj nj y ac QH;have A':=C.other n' q' dj;have F':=Fj.other n' q' (fun k z=>by have:=(U.r.lt z).1;simp only[aU];omega);have d':∀k,aN a k->¬aN v' k:=fun k h1 h2=>by
    rcases own' k h2 with e|e
    .exact dj k h1 e
    .have:=(C.r.lt h1).2;omega
   have m':=R'.m;have hFx:Fin (ah ⟨3,16*(s.loops:Int)+1+j,[]⟩ O).2:=hFl.le QI;have I:=Bq hG R' (cX _ _ _ _) 3 (16*(s.loops:Int)+1+j) hFx;dsimp only[bU]at m';clear dj C U q' own' Rj hvj;repeat' (first
    |(apply aj ?_;clear hK K)|apply bQ ?_|(apply bu ?_ ?_<;>(intro hb hbp;try(cases hb;done)))|(apply am fun K hK=>?_)|(apply ci 19 [(3,11),(3,13)] fun K hK=>?_)|(apply bD ?_;try intro _)|fail)
   refine qd ?_;refine aF ?_ I;generalize hpu:ah ⟨3,16*(s.loops:Int)+1+j,[]⟩ O=pu at *;have hpuv:pu.2.vars=O.vars:=by rw[<-hpu];rfl
   have hpul:pu.2.loops=O.loops:=by rw[<-hpu];rfl
   have hwl2:w<pu.2.vars.length:=by rw[hpuv];exact hwl1
   rintro u H7 ⟨rfl,S7,lv7,R7,F7⟩;obtain⟨q',hix',hld',H8,hst,hq1,hq2,hq3,R8,F8,o8,n8⟩:=R7.setV hwl2 pu.1;have hqq:q'=qv:=by
    rw[ixv]at hix';simp only[aQ,AV.ptr.injEq]at hix';exact hix'.1.symm
   subst hqq;have A8:=(A'.fr (X:=X) ac ac F7).fr (X:=X) ac ac F8;have W8:=(W'.fr (X:=X) ac ac F7).fr (X:=X) ac ac F8;have F08:=F'.trans (F7.trans F8);have m7:=R7.m;have m8:=R8.m;have n7:=F7.next
   have nj8:Hj.next<=H8.next:=ac
   have hjv':(pu.2.vars.set w pu.1).length=r.2.vars.length:=by rw[jQ,hpuv];exact hjv
   have hjo':∀i,i∉Z.take j++[w]->(pu.2.vars.set w pu.1)[i]?=r.2.vars[i]?:=fun i hi=>by
    rw[nT,not_or,Ep]at hi;rw[sE,af (fun e=>hi.2 e.symm),hpuv];exact hjo i hi.1
   have hjl':pu.2.loops=r.2.loops:=by rw[hpul];exact hjl
   have hmap:(r.2.ab::(Z.take j).map fun i=>r.2.vars.getD i 0)++[y]=r.2.ab::(Z.take j++[w]).map fun i=>r.2.vars.getD i 0:=QJ;rw[hmap]at W8;clear hpuv hpul hmap hjo hjv hjl hix' A' W' F' hpu hld';dsimp only[bU]at m7 m8;dsimp only[aC];repeat' (first
    |(apply aj ?_;clear hK K)|apply aV ?_|(apply am fun K hK=>?_)|(apply bD ?_;try intro _)|(apply ch ?_ ?_<;>clear hK K)|fail)
   .exact cn
   .refine⟨ac,a0,a0,ca,Fh,?_⟩;exact⟨v',_,S7,lv7,eE,hJ,hjl',hjv',hjo',R8,F08,A8,W8,d'⟩
  .have hlt':¬(j:Int)<Z.length:=by omega
   have hd:Z.drop j=[]:=mH ac;have ht:Z.take j=Z:=gQ ac;rw[hd]at hJ;rw[ht]at U;have hJ:O=ik (16*(s.loops:Int)+1) Z 0 {p.2 with ab:=p.1}:=hJ;rw[<-hJ]at hFl h3;have gj:=gc hR Fj;have nj2:H.next+1<=Hj.next:=Fj.next
   clear hJ hd ht hjo;repeat' (first
    |(apply aj ?_;clear hK K)|apply bQ ?_|(apply bu ?_ ?_<;>(intro hb hbp;try(cases hb;done)))|(apply am fun K hK=>?_)|fail)
   refine qc ?_;refine aF ?_ (IH x.bl O t h3 hFt ac ac Rj);rintro u H6 ⟨S6,lv6,Y,R6,F6⟩;have A6:=C.fr (X:=X) ac ac F6;have W6:=U.fr (X:=X) ac ac F6;have F06:=Fj.trans F6;have nj6:V.next+1<=H6.next:=dw nj F6.next
   have g6:=gc hR F06;clear Rj Fj C U F6 gj mj;dsimp only[aC];refine Cf fun K hK=>?_;refine qc ?_;refine aF ?_ (tf hG hX n x.value t d h4 hFd R6 (cX _ _ _ _));rintro u H7 ⟨rfl,S7,lv7,R7,F7⟩;have A7:=A6.fr (X:=X) ac ac F7;have W7:=W6.fr (X:=X) ac ac F7;have F07:=F06.trans F7;have m7:=R7.m;have n7:H.next+1<=H7.next:=F07.next
   have nj7:V.next+1<=H7.next:=dw nj6 F7.next
   clear R6 F06 A6 W6 F7 g6;dsimp only[bU]at m7;dsimp only[aC];have Rs:=R7.alloc (.cells [.int .i64 d.1,.int .i64 d.2.ab] 0 true);have Ws:zd5 S7 Y (V.next+1) (H7.alloc (.cells [.int .i64 d.1,.int .i64 d.2.ab] 0 true)) wv (r.2.ab::Z.map fun i=>r.2.vars.getD i 0):=⟨W7.r.keep (cG _) fun k z=>by rw[aD,af (by have:=(W7.r.lt z).2;omega)],W7.n⟩;have hwlen:(r.2.ab::Z.map fun i=>r.2.vars.getD i 0).length<2^37:=QK;obtain⟨cv,H8,a8,c8,n8,q8⟩:=QD Ws.r ac;simp only[aU]at c8 n8 q8;have c8b:iV H8 cv (r.2.ab::Z.map fun i=>r.2.vars.getD i 0) (H7.next+1):=by
    rcases c8 with⟨_,h⟩|h
    .simp at h
    .exact h.b
   have g8s:H8.get H7.next=some (.cells [.int .i64 d.1,.int .i64 d.2.ab] 0 true):=by rw[q8 _ ac,aD,ai rfl]
   obtain⟨kv,H9,a9,c9,n9,l9,f9,o9⟩:=IP (m:=[d.1,d.2.ab]) (w:=.sl H7.next 0 2 1) (lo':=0) c8b n8 (.inr ⟨H7.next,0,rfl,g8s,aw,cZ _,ac⟩) QL;have hq9:∀k,k<H7.next->H9.get k=H7.get k:=fun k z=>by rw[l9 k ac,q8 k ac,aD,af ac]
   have n79:H7.next<=H9.next:=ac
   have R9:zd1 X H9 S7 d.2 lv7 Y:=R7.keep n79 fun k h _=>hq9 k h;have F9:FrL X S7 Y H7 S7 Y H9:=⟨n79,fun k h _ _ _ _=>hq9 k h,fun _ h=>.inl h,fun _ h=>.inl h⟩;have A9:=A7.fr (X:=X) ac ac F9;have W9:=W7.fr (X:=X) ac ac F9;have K9:zd5 S7 Y (V.next+1) H9 kv (r.2.ab::(Z.map fun i=>r.2.vars.getD i 0)++[d.1,d.2.ab]):=⟨.inr (by obtain⟨br,i0,z1,z2,z3,z4,z5⟩:=c9;exact⟨br,i0,z1,z2,z3,ac,z5⟩),fun k z=>by
    have:=R7.new (r:=k) (by have:=(c9.lt z).1;omega)
    grind⟩
   have dA9:∀k,aN a k->¬aN kv k:=fun k h1 h2=>by have:=(A7.r.lt h1).2;have:=(c9.lt h2).1;omega
   have dW9:∀k,aN wv k->¬aN kv k:=fun k h1 h2=>by have:=(W7.r.lt h1).2;have:=(c9.lt h2).1;omega
   have F09:=F07.trans F9;have m9:=R9.m;have l9a:=fun H'=>A9.r.len' (H':=H');rw[dx]at l9a;dsimp only[bU]at m9;have ms:=Rs.m;have m8x:=ms;rw[<-q8 _ (by have:=R7.o5;omega)]at m8x;dsimp only[bU]at ms m8x;clear R7 F07 A7 W7 F9 Rs Ws hq9;repeat' (first
    |(apply aj ?_;clear hK K)|apply aV ?_|(apply am fun K hK=>?_)|(apply Iu 23 [0,2,3,4,5,6,7,1,8,9] [(5,7),(5,8),(6,7),(6,8)] fun K hK=>?_)|(apply bD ?_;try intro _)|(apply ch ?_ ?_<;>clear hK K)|fail)
   .exact cn
   .clear a8 a9 c8 c8b g8s l9 f9 o9 q8 hwlen c9;have hdv:∀w,w<r.2.vars.length->d.2.vars[w]?=some (d.2.vars.getD w 0):=fun w hw=>by
     grind
    have hwj0:∀j,j<Z.length->Z.getD j 0<r.2.vars.length:=fun j J=>hwm _ QM;refine cl [0,4,5,7,9,119,120] [] 121 Z.length (fun j E Hj=>∃kj,E.at 13=kj/\zd1 X Hj S7 d.2 lv7 Y/\FrL X S vv (H.alloc (.cells x.cells 0 true)) S7 Y Hj/\zd5 S7 Y (V.next+1) Hj a (mJ Z)/\zd5 S7 Y (V.next+1) Hj wv (r.2.ab::Z.map fun i=>r.2.vars.getD i 0)/\zd5 S7 Y (V.next+1) Hj kj (r.2.ab::(Z.map fun i=>r.2.vars.getD i 0)++[d.1,d.2.ab]++((Z.take j).map fun i=>d.2.vars.getD i 0))/\(∀k,aN a k->¬aN kj k)/\∀k,aN wv k->¬aN kj k) eE ⟨kv,eE,R9,F09,A9,W9,aX,dA9,dW9⟩ ?_;clear R9 F09 A9 W9 K9 dA9 dW9 m9;rintro j E Hj hj hcE hrH hnH hsI ⟨kj,k13,Rj,Fj,C,U,Kj,dAj,dWj⟩;(try simp only[bC,aZ,aW,aG,aY,Nat.reduceBEq, *]at hcE);(try simp only[aZ, *]at hrH);(try simp only[aU,bq,ce,bR,Nat.reduceAdd]at hnH);have mj:=Rj.m;dsimp only[bU]at mj;have nj:V.next+1<=Hj.next:=ac
    by_cases J:j<Z.length
    .have hlt':(j:Int)<Z.length:=by omega
     have hwj:=haw j J;have hvj:=hdv _ (hwj0 j J);have htj:=htk j J;rw[htj];generalize Z.getD j 0=w at *;generalize hy:d.2.vars.getD w 0=y at *;obtain⟨qa,ixa,lda⟩:=C.at hwj;obtain⟨qv,ixv,ldv⟩:=Rj.atV hvj;obtain⟨v',H',a1,K',R',n',q',own'⟩:=Kj.eS Rj nj y ac QN;have A':=C.other n' q' dAj;have W':=U.other n' q' dWj;have F':=Fj.other n' q' (fun k z=>by have:=(Kj.r.lt z).1;simp only[aU];omega);have dA':∀k,aN a k->¬aN v' k:=fun k h1 h2=>by
      rcases own' k h2 with e|e
      .exact dAj k h1 e
      .have:=(C.r.lt h1).2;omega
     have dW':∀k,aN wv k->¬aN v' k:=fun k h1 h2=>by
      rcases own' k h2 with e|e
      .exact dWj k h1 e
      .have:=(U.r.lt h1).2;omega
     have hmap:(r.2.ab::(Z.map fun i=>r.2.vars.getD i 0)++[d.1,d.2.ab]++((Z.take j).map fun i=>d.2.vars.getD i 0))++[y]=r.2.ab::(Z.map fun i=>r.2.vars.getD i 0)++[d.1,d.2.ab]++((Z.take j++[w]).map fun i=>d.2.vars.getD i 0):=QO;rw[hmap]at K';clear hmap dAj dWj C U Kj q' own' Rj hvj;refine tA (fun hb hbp=>?_);refine⟨ac,a0,a0,ca,Fh,?_⟩;exact⟨v',eE,R',F',A',W',K',dA',dW'⟩
    .have hlt':¬(j:Int)<Z.length:=by omega
     have ht:Z.take j=Z:=gQ ac;rw[ht]at Kj;clear ht;have I:=Bp hG Rj ⟨31,s.loops,r.2.ab::(Z.map fun i=>r.2.vars.getD i 0)++[d.1,d.2.ab]++(Z.map fun i=>d.2.vars.getD i 0)⟩ (by rcases Kj.r with h|⟨br,i0,z1,z2,z3,z4,z5⟩;exact .inl h;exact .inr ⟨br,i0,z1,z2,z3,cZ _,z5⟩) (fun k z=>⟨by have:=(Kj.r.lt z).1;omega,Kj.n k z⟩) (by rw[<-z]at hFk;exact hFk.r) hFd.l;repeat' (first
      |(apply aj ?_;clear hK K)|apply bQ ?_|(apply bu ?_ ?_<;>(intro hb hbp;try(cases hb;done)))|(apply am fun K hK=>?_)|fail)
     refine qc ?_;refine aF ?_ I;rintro u H10 ⟨rfl,S10,lv10,R10,n10,q10,s10⟩;rw[z]at R10⊢;have F10:FrL X S vv (H.alloc (.cells x.cells 0 true)) S10 Y H10:=⟨dw Fj.next n10,fun k h1 h2 h3 h4 h5=>by
      rw[q10 k (lh h1 Fj.next) h2 h3 fun e=>by
       rcases Fj.sub k e with e|e
       .exact h4 e
       .omega]
      exact Fj.get k h1 h2 h3 h4 h5,fun k e=>by
      rcases s10 k e with e|e|e
      .exact Fj.sub k e
      .exact .inr (by have:=(Kj.r.lt e).1;simp only[aU];omega)
      .exact .inr (dw Fj.next e),Fj.own⟩
     have A10:zd5 S10 Y (V.next+1) H10 a (mJ Z):=⟨C.r.keep n10 fun k z=>q10 k (C.r.lt z).2 (by have:=(C.r.lt z).1;omega) (by have:=(C.r.lt z).1;omega) (C.n k z).1,fun k z=>⟨fun e=>by
      rcases s10 k e with e|e|e
      .exact(C.n k z).1 e
      .exact dAj k z e
      .have:=(C.r.lt z).2;omega,(C.n k z).2⟩⟩
     have W10:zd5 S10 Y (V.next+1) H10 wv (r.2.ab::Z.map fun i=>r.2.vars.getD i 0):=⟨U.r.keep n10 fun k z=>q10 k (U.r.lt z).2 (by have:=(U.r.lt z).1;omega) (by have:=(U.r.lt z).1;omega) (U.n k z).1,fun k z=>⟨fun e=>by
      rcases s10 k e with e|e|e
      .exact(U.n k z).1 e
      .exact dWj k z e
      .have:=(U.r.lt z).2;omega,(U.n k z).2⟩⟩
     clear Rj Fj C U Kj dAj dWj q10 s10 I mj;dsimp only[aC];have nw10:=R10.new (ay _);have R10a:=R10.alloc (.cells [.int .i64 k.1] 0 true);have I:=JO hG R10a ((cX _ _ _ _).alloc _) ⟨25,0,[k.1]⟩ rfl dZ (ay _) (bT _) nw10.2.2 nw10.1 nw10.2.1 hFf' rfl rfl;have hW0:(r.2.ab::Z.map fun i=>r.2.vars.getD i 0)[0]?=some r.2.ab:=rfl;have W10a:zd5 S10 Y (V.next+1) (H10.alloc (.cells [.int .i64 k.1] 0 true)) wv (r.2.ab::Z.map fun i=>r.2.vars.getD i 0):=⟨W10.r.keep (cG _) fun k z=>by rw[aD,af (by have:=(W10.r.lt z).2;omega)],W10.n⟩;have A10a:zd5 S10 Y (V.next+1) (H10.alloc (.cells [.int .i64 k.1] 0 true)) a (mJ Z):=⟨A10.r.keep (cG _) fun k z=>by rw[aD,af (by have:=(A10.r.lt z).2;omega)],A10.n⟩;obtain⟨q0,ix0,ld0⟩:=W10a.at hW0;rw[show((0:Nat):Int)=0 from rfl]at ix0;refine Cf fun K hK=>?_;refine qd ?_;refine aF ?_ I;rintro u H11 ⟨⟨rfl,S11,lv11,R11,F11⟩,n11⟩;simp only[aU]at n11;have W11:=W10.fr (X:=X) ac ac F11;have A11:=A10.fr (X:=X) ac ac F11;obtain⟨q0',ix0',ld0'⟩:=W11.at hW0;rw[show((0:Nat):Int)=0 from rfl,ix0]at ix0';simp only[aQ,AV.ptr.injEq,aW]at ix0';subst ix0';have hFm2:Fin (bA r.1 (ah ⟨25,0,[k.1]⟩ k.2).1 r.2.ab (ah ⟨25,0,[k.1]⟩ k.2).2).2:=by rw[hm'];exact hFm'
     dsimp only[aC];refine rB ?_;refine qd ?_;refine aF ?_ (yJ hG R11 (cX _ _ _ _) r.1 _ r.2.ab hFm2);rw[hm'];rintro u H12 ⟨rfl,S12,lv12,R12,F12⟩;have m12:=R12.m;obtain⟨R13,F13⟩:=R12.setS m'.1;have F0:=F10.trans (F11.trans (F12.trans F13));have A13:=(A11.fr (X:=X) ac ac F12).fr (X:=X) ac ac F13;have W13:=(W11.fr (X:=X) ac ac F12).fr (X:=X) ac ac F13;have n12:=F12.next
     have l13:=fun H'=>A13.r.len' (H':=H');rw[dx]at l13;dsimp only[bU]at m12 R13 F0 A13 W13;dsimp only[aC];have m13:=R13.m;dsimp only[bU]at m13;repeat' (first
      |(apply aj ?_;clear hK K)|apply aV ?_|(apply am fun K hK=>?_)|(apply bD ?_;try intro _)|(apply ch ?_ ?_<;>clear hK K)|fail)
     .exact cn
     .have hw13:m'.2.vars.length=r.2.vars.length:=by rw[hm'v,hdl]
      refine cl [0,5,9,16,153,154] [] 155 Z.length (fun j E Hj=>∃O Sj lvj,fD k.1 r.1 r.2.vars (Z.drop j) (j+1) O=fD k.1 r.1 r.2.vars Z 1 {m'.2 with ab:=m'.1} /\ O.vars.length=r.2.vars.length/\zd1 X Hj Sj O lvj Y/\FrL X S vv (H.alloc (.cells x.cells 0 true)) Sj Y Hj/\zd5 Sj Y (V.next+1) Hj a (mJ Z)/\zd5 Sj Y (V.next+1) Hj wv (r.2.ab::Z.map fun i=>r.2.vars.getD i 0)) eE ⟨{m'.2 with ab:=m'.1},S12,lv12,Fa,hw13,R13,F0,A13,W13⟩ ?_;clear R13 F0 A13 W13 m13 m12 hw13 R12 F12 F13 hdl hdl0 hm'v hdv;rintro i3 E3 Hi3 hi3 hcE hrH hnH hsI ⟨O,Sj,lvj,hJ,hjv,Rj,Fj,C,U⟩;(try simp only[bC,aZ,aW,aG,aY,Nat.reduceBEq, *]at hcE);(try simp only[aZ,aY, *]at hrH);(try simp only[bq,]at hnH);have mj:=Rj.m;dsimp only[bU]at mj;have nj:V.next+1<=Hi3.next:=ac
      by_cases J:i3<Z.length
      .have hlt':(i3:Int)<Z.length:=by omega
       have hwj:=haw i3 J;have hwl1:Z.getD i3 0<O.vars.length:=by rw[hjv];exact hwj0 i3 J
       have hold:(r.2.ab::Z.map fun i=>r.2.vars.getD i 0)[i3+1]?=some (r.2.vars.getD (Z.getD i3 0) 0):=by
        rw[AF,eI,gU (l:=Z),bj J];rfl
       rw[hdr i3 J,Fp]at hJ;generalize Z.getD i3 0=w at *;generalize r.2.vars.getD w 0=y at *;have hsx:IntKind.wrap .i64 ((i3:Int)+1)=((i3+1:Nat):Int):=gS ac;have hFq:Fin (bA r.1 (ah ⟨25,((i3+1:Nat):Int),[k.1]⟩ O).1 y (ah ⟨25,((i3+1:Nat):Int),[k.1]⟩ O).2).2:=hF.le QP;have hFq0:Fin (ah ⟨25,((i3+1:Nat):Int),[k.1]⟩ O).2:=hFq.le (eZ _ _ _ _).le;have nwj:=Rj.new (ay _);have Rja:=Rj.alloc (.cells [.int .i64 k.1] 0 true);have I:=JO hG Rja ((cX _ _ _ _).alloc _) ⟨25,((i3+1:Nat):Int),[k.1]⟩ rfl dZ (ay _) (bT _) nwj.2.2 nwj.1 nwj.2.1 hFq0 rfl rfl;obtain⟨qa,ixa,lda⟩:=C.at hwj;have Wja:zd5 Sj Y (V.next+1) (Hi3.alloc (.cells [.int .i64 k.1] 0 true)) wv (r.2.ab::Z.map fun i=>r.2.vars.getD i 0):=⟨U.r.keep (cG _) fun k z=>by rw[aD,af (by have:=(U.r.lt z).2;omega)],U.n⟩;obtain⟨qw,ixw,ldw⟩:=Wja.at hold;have hxv:∀v2,O.vars[w]?=some v2->True:=fun _ _=>trivial;clear hxv;obtain⟨qv,ixv,ldv,_⟩:=Rj.setV hwl1 0;have mja:=Rja.m;dsimp only[bU]at mja;repeat' (first
        |(apply aj ?_;clear hK K)|apply bQ ?_|(apply bu ?_ ?_<;>(intro hb hbp;try(cases hb;done)))|(apply am fun K hK=>?_)|(apply ci 34 [(3,12),(3,18),(3,20),(11,12),(17,12),(17,18)] fun K hK=>?_)|(apply bD ?_;try intro _)|fail)
       refine qd ?_;refine aF ?_ I;rintro u H14 ⟨⟨rfl,S14,lv14,R14,F14⟩,n14⟩;simp only[aU]at n14;have W14:=U.fr (X:=X) ac ac F14;have A14:=C.fr (X:=X) ac ac F14;obtain⟨qw',ixw',ldw'⟩:=W14.at hold;rw[ixw]at ixw';simp only[aQ,AV.ptr.injEq,aW]at ixw';subst ixw';have m14:=R14.m;dsimp only[bU]at m14;dsimp only[aC];refine rB ?_;refine qd ?_;refine aF ?_ (yJ hG R14 (cX _ _ _ _) r.1 _ y hFq);generalize hmq:bA r.1 (ah ⟨25,((i3+1:Nat):Int),[k.1]⟩ O).1 y (ah ⟨25,((i3+1:Nat):Int),[k.1]⟩ O).2=mq at *;have hmqv:mq.2.vars=O.vars:=by rw[<-hmq,(eZ _ _ _ _).v];rfl
       have hwl2:w<mq.2.vars.length:=by rw[hmqv];exact hwl1
       rintro u H15 ⟨rfl,S15,lv15,R15,F15⟩;obtain⟨q',hix',hld',H16,hst,hq1,hq2,hq3,R16,F16,o16,n16⟩:=R15.setV hwl2 mq.1;have hqq:q'=qv:=by
        grind
       subst hqq;have W16:=(W14.fr (X:=X) ac ac F15).fr (X:=X) ac ac F16;have A16:=(A14.fr (X:=X) ac ac F15).fr (X:=X) ac ac F16;have F016:=Fj.trans (F14.trans (F15.trans F16));have m15:=R15.m;have m16:=R16.m;have n15:=F15.next
       have nj16:Hi3.next<=H16.next:=ac
       have hjv':(mq.2.vars.set w mq.1).length=r.2.vars.length:=by rw[jQ,hmqv];exact hjv
       clear hmqv hjv hix' hld' hmq A14 W14 C U Fj Rj I R14;dsimp only[bU]at m15 m16;dsimp only[aC];repeat' (first
        |(apply aj ?_;clear hK K)|apply aV ?_|(apply am fun K hK=>?_)|(apply bD ?_;try intro _)|(apply ch ?_ ?_<;>clear hK K)|fail)
       .exact cn
       .refine⟨ac,a0,a0,ca,(by simp only[aG,Nat.reduceBEq, *]),?_⟩;exact⟨_,S15,lv15,hJ,hjv',R16,F016,A16,W16⟩
      .have hlt':¬(i3:Int)<Z.length:=by omega
       have hd:Z.drop i3=[]:=mH ac;rw[hd]at hJ;have hJ:O=fD k.1 r.1 r.2.vars Z 1 {m'.2 with ab:=m'.1}:=hJ;refine xJ ?_;all_goals refine qq ?_
       rw[<-hJ];exact⟨Sj,lvj,Y,Rj,F1.trans Fj⟩
end
end
section
def tyLoI.tyF:=ad @cr (ad @cK (ad @dV (ad @dR (ad @dD (ad @eh (ad @dQ (ad @jn (ad @fP (ad @eL (ad @oW (@rN)))))))))))
open tyLoI
noncomputable def Q6:{c:SC // aE 16 (f88.body.getD .skip)=c}:=by
 refine⟨?_,?_⟩;rotate_left
 .simp only[f88,bN,aE,bH,bw,bM,bJ,Nat.blt,Nat.ble];rfl
def pq.db{Y:Nat->Prop}{vv:AV}{bt:Hp}{v:AV}(h:pq X S vv H r v H')(j:FrL X Y U bt S vv H):pq X Y U bt r v H':=by
 obtain⟨m,z,Z,V,C⟩:=h;exact⟨m,z,Z,V,j.trans C⟩
section
variable {tb:qC} (hG:zd9 tb) {X:Lx} {c:Cx} (hX:zig X c)
set_option maxRecDepth 100000 in
include hG hX in
def zdf(IH:∀m,m<n->E9 tb X c m){x:St}(h:lU c n x s=some r)(O:Fin r)(hz:x.sz<2^36)(U:s.vars.length<2^36){lv vv:AV}(I:zd1 X H S s lv vv):
 aR prog (au pls tb) 135 [.ptr X.b 0,.agg x.cells] H (pq X S vv H r):=by
 cases n with
 |zero=>simp[lU]at h
 |succ n=>
 have V:zd0 (au pls tb) 135:=hG.plain cM;have R1:=I.alloc (.cells x.cells 0 true);have F1:=(cX X S vv H).alloc (.cells x.cells 0 true);unfold lU at h;by_cases J:x.am=1
 .rw[ai J]at h;simp only[gG]at h;obtain⟨v,Y,h⟩:=h;split at h
  .rename_i hl;cases h;exact zc8 hG hX J Y hl ⟨O.r,O.l,O.n⟩ I
  .cases h
 rw[af J]at h;by_cases z:x.am=2
 .rw[ai z]at h;simp only[iD]at h;obtain⟨i,Y,v,j,a,ha,rfl⟩:=h;exact zc9 hG hX z Y j ha ⟨O.r,O.l,O.n⟩ I
 rw[af z]at h;by_cases k3:x.am=3
 .rw[ai k3]at h;simp only[iD]at h;obtain⟨q,Y,a,j,b,C,m,h4,rfl⟩:=h;have Z:=zdd hG hX (IH n (bT n)) Y j C h4 ⟨O.r,O.l,O.n⟩ hz U R1;refine bp (M:=155) (rs:=[]) (V.call _) V.aG V.aB func135 rfl rfl mI.2 rfl ?_;dsimp only[mI,bm,Nat.reduceAdd];repeat' (first
   |(apply aj ?_;clear hK K)|apply bQ ?_|(apply bu ?_ ?_<;>(intro hb hbp;try(cases hb;done)))|(apply am fun K hK=>?_)|fail)
  refine qc ?_;refine aF ?_ Z;intro w H2 j;have C:=j.db F1;clear j Z;dsimp only[aC];refine dJ ?_;all_goals refine qq ?_
  exact C
 rw[af k3]at h;by_cases k4:x.am=4
 .rw[ai k4]at h;cases n with
  |zero=>simp[nD]at h
  |succ n=>
  unfold nD at h;simp only[iD]at h;obtain⟨q,Y,b,hb,t,j,d,C,rfl⟩:=h;have Z:=zde hG hX (IH n ac) Y hb j C rfl rfl O hz U (zcN (s:={ (ah ⟨3,16*(s.loops:Int),[]⟩ q.2).2 with ab:=(ah ⟨3,16*(s.loops:Int),[]⟩ q.2).1}) (v:=q.2.vars) rfl hb j C) R1;refine bp (M:=155) (rs:=[]) (V.call _) V.aG V.aB func135 rfl rfl mI.2 rfl ?_;dsimp only[mI,bm,Nat.reduceAdd];repeat' (first
   |(apply aj ?_;clear hK K)|apply bQ ?_|(apply bu ?_ ?_<;>(intro hb hbp;try(cases hb;done)))|(apply am fun K hK=>?_)|fail)
  refine qc ?_;refine aF ?_ Z;intro w H2 j;have C:=j.db F1;clear j Z;dsimp only[aC];refine dJ ?_;all_goals refine qq ?_
  exact C
 rw[af k4]at h;by_cases k5:x.am=5
 .rw[ai k5]at h;simp only[iD]at h;obtain⟨v,Y,rfl⟩:=h;exact zda hG hX k5 Y ⟨O.r,O.l,O.n⟩ I
 rw[af k5]at h;by_cases k6:x.am=6
 .rw[ai k6]at h;simp only[gG]at h;obtain⟨av,Y,h⟩:=h;split at h
  .rename_i hc;cases h;exact zdc hG hX k6 Y hc.1 hc.2 hz ⟨O.r,O.l,O.n⟩ I
  .cases h
 rw[af k6]at h;by_cases k7:x.am=7
 .rw[ai k7]at h;cases h;exact zdb hG k7 O I
 rw[af k7]at h;cases h;exact lst0 hG J z k3 k4 k5 k6 k7 I
set_option maxRecDepth 100000 in
include hG hX in
theorem Q7:∀(N n:Nat),n<N->E9 tb X c n
 |0,n,hn=>by omega
 |N+1,n,hn=>fun l s r h hF hz hvl H S lv vv hR=>by
  have hw:zd0 (au pls tb) 88:=hG.plain cM;have hll:=mZ l;refine bp (M:=16) (rs:=[]) (hw.call _) hw.aG hw.aB func88 rfl rfl Q6.2 rfl ?_;dsimp only[Q6,bm,Nat.reduceAdd];refine dJ ?_;refine cl [0,6,7] [] 8 l.length (fun i E I=>∃m V C Y Z,m<=n/\eY c m (l.drop i) V=some r/\V.vars.length=s.vars.length/\zd1 X I C V Y Z/\FrL X S vv H C Z I) eE ⟨n,s,S,lv,vv,ay _,h,rfl,hR,cX _ _ _ _⟩ ?_;rintro i E I hi hcE hrH hnH hsI ⟨m,V,C,Y,Z,hm,U,O,Ri,Fi⟩;(try simp only[bC,aZ,aW,aG,aY,Nat.reduceBEq, *]at hcE);(try simp only[aZ, *]at hrH);(try simp only[aU,bq,ce,bR,Nat.reduceAdd]at hnH);by_cases J:i<l.length
  .have z:(i:Int)<l.length:=by omega
   have hgx:l[i]?=some l[i]:=bj J;have hmem:=my (dm J);cases m with
   |zero=>simp[eY]at U
   |succ m=>
   rw[gI J]at U;unfold eY at U;simp only[gG]at U;obtain⟨q,h1,h2⟩:=U;generalize l[i]=x at *;have hFq:Fin q:=hF.le ((jD c m).2.1 _ _ _ h2).1;have hql:=((jD c m).1 _ _ _ h1).2;repeat' (first
    |(apply aj ?_;clear hK K)|apply bQ ?_|(apply bu ?_ ?_<;>(intro hb hbp;try(cases hb;done)))|(apply am fun K hK=>?_)|fail)
   refine qc ?_;refine aF ?_ (zdf hG hX (fun k hk=>Q7 N k ac) h1 hFq ac ac (Ri.cl _ _));rintro w H3 ⟨S3,lv3,vv3,R3,F3⟩;have F03:=((Fi.cl (.cells [AV.int .i64 0,.aj [],.aj [],.int .i64 0,.int .i64 0,.int .i64 0,.aj [],.int .i64 0,.ag,.int .i64 0,.int .i64 0,.aj [],.int .i64 0,.ag,.ag,.ag,.ag] 0 true) (.cells x.cells 0 true))).trans F3;have n3:I.next+1<=H3.next:=F3.next
   have j:q.vars.length=s.vars.length:=ac;clear hql O;dsimp only[aC];refine dJ ?_;refine⟨ac,a0,a0,ca,yl,?_⟩;exact⟨m,q,S3,lv3,vv3,ac,h2,j,R3,F03⟩
  .have z:¬(i:Int)<l.length:=by omega
   have hd:l.drop i=[]:=mH ac;rw[hd]at U;cases m with
   |zero=>simp[eY]at U
   |succ m=>
   have U:V=r:=by unfold eY at U;simpa using U
   subst U;clear O;refine xJ ?_;all_goals refine qq ?_
   exact⟨C,Y,Z,Ri,Fi⟩
end
end
section
def tyLoJ.tyF:=ad @dQ (ad @cr (ad @cK (ad @jn (ad @fP (ad @DE (ad @eL (ad @et (ad @dV (ad @dR (ad @dD (ad @jb (ad @sN (ad @eh (ad @oW (ad @rN (@vL))))))))))))))))
open tyLoJ
noncomputable def Q8:{c:SC // aE 94 (f52.body.getD .skip)=c}:=by
 refine⟨?_,?_⟩;rotate_left
 .simp only[f52,bN,aE,bH,bw,bM,bJ,Nat.blt,Nat.ble];rfl
def fu:List bG->Nat->List (bG×Int)->List (bG×Int)
 |[],_,m=>m
 |a::l,i,m=>fu l (i+1) (setV m a i)
theorem Fq:∀(l:List bG) (a:bG) (i:Nat) (m:List (bG×Int)),fu (l++[a]) i m=setV (fu l i m) a ((i+l.length:Nat):Int)
 |[],a,i,m=>rfl
 |b::l,a,i,m=>by
  rw[lw,fu,Fq l a (i+1),fu,gF,show i+1+l.length=i+(l.length+1) by omega]
theorem xp:∀(n k:Nat) (s:Bd),ea s (gC n k s)/\(gC n k s).vars.length=s.vars.length+n
 |0,k,s=>⟨ri s,rfl⟩
 |n+1,k,s=>by
  have e:=xp n (k+1) { (ah ⟨2,k,[]⟩ s).2 with vars:=(ah ⟨2,k,[]⟩ s).2.vars++[(ah ⟨2,k,[]⟩ s).1] };refine⟨(((cC ⟨2,k,[]⟩ s).le.setV _)).trans e.1,?_⟩;show(gC n (k+1) _).vars.length=_;rw[e.2,iR];show s.vars.length+1+n=_;omega
theorem xq:∀(n:Nat) (s:Bd),ea s (jq n s)/\(jq n s).vars.length=s.vars.length+n
 |0,s=>⟨ri s,rfl⟩
 |n+1,s=>by
  have e:=xq n { (ah ⟨1,0,[]⟩ s).2 with vars:=(ah ⟨1,0,[]⟩ s).2.vars++[(ah ⟨1,0,[]⟩ s).1] };refine⟨(((cC ⟨1,0,[]⟩ s).le.setV _)).trans e.1,?_⟩;show(jq n _).vars.length=_;rw[e.2,iR];show s.vars.length+1+n=_;omega
abbrev Lx.nx(X:Lx)(ne:List (bG×Int)):Lx:={X with ne:=ne}
def zd1.dJ{vv:AV}(h:zd1 X H S s M vv)(ne:List (bG×Int)):zd1 (X.nx ne) (H.set X.rn (.map (dz ne))) S s M vv:=by
 have I:=h.o1;have J:=h.o2;have Z:=h.o3;have O:=h.o4;have U:=h.o5;have hg:∀k,k≠X.rn->(H.set X.rn (.map (dz ne))).get k=H.get k:=fun k z=>ju;exact⟨by rw[hg _ (by show X.b≠_;omega)];exact h.m,by rw[hg _ (by show X.ra≠_;omega)];exact h.a,by rw[hg _ (by show X.rf≠_;omega)];exact h.f,by rw[hg _ (by show X.rt≠_;omega)];exact h.t,fO,h.aL.keep (fun _ _ h=>h) (ay _) fun k z _=>hg k Fc,h.vars.keep (ay _) fun k z=>hg k (by have:=(h.vS k z).1;omega),I,J,Z,O,U,h.sS,h.vS⟩
def zd1.dT{vv:AV}(h:zd1 X H S s M vv)(x:Int)(hl:s.vars.length<2^36):
 ∃j H',cD prog false (H.alloc (.cells [.int .i64 x] 0 true)) 23 23 vv (.sl H.next 0 1 1)=some (j,H')/\AV.one j=true/\j.cells=[j]/\H'.get X.b=some (.cells (bU X s M vv) 0 true)/\H'.next=H.next+2/\(∀k,k<H.next->¬aN vv k->H'.get k=H.get k) /\
  zd1 X (H'.set X.b (.cells (bU X {s with vars:=s.vars++[x] } M j) 0 true)) S {s with vars:=s.vars++[x] } M j /\
  FrL X S vv H S j (H'.set X.b (.cells (bU X {s with vars:=s.vars++[x] } M j) 0 true)):=by
 have o1:=h.o1;have o2:=h.o2;have o3:=h.o3;have o4:=h.o4;have o5:=h.o5;have hv:gK (H.alloc (.cells [.int .i64 x] 0 true)) vv s.vars 0:=h.vars.keep (cG _) fun k z=>QQ;have hx:fk (H.alloc (.cells [.int .i64 x] 0 true)) 1 (.sl H.next 0 1 1)=some ([x].length,[x].map (.int .i64)):=sU (m:=[x]) (imm:=0) dZ;obtain⟨j,H',a1,I,a3,a4,a5,Y⟩:=D5 hv (cZ _) hx aw cb;simp only[aU]at a3 a5 Y;have Z:∀k,k<H.next->¬aN vv k->H'.get k=H.get k:=fun k h1 V=>by rw[a5 k ac V,aD,af ac]
 have O:∀k,k<=X.b->¬aN vv k:=fun k z e=>by have:=(h.vS k e).1;omega
 have U:=gK.one (.inr I);have hg:∀k,k≠X.b->(H'.set X.b (.cells (bU X {s with vars:=s.vars++[x] } M j) 0 true)).get k=H'.get k:=fun k z=>ju;refine⟨j,H',a1,U.1,U.2,by rw[Z _ o5 (O _ (ay _))];exact h.m,ac,Z,⟨fO,by rw[hg _ ac,Z _ ac (O _ ac)];exact h.a,by rw[hg _ ac,Z _ ac (O _ ac)];exact h.f,by rw[hg _ ac,Z _ ac (O _ ac)];exact h.t,by rw[hg _ ac,Z _ ac (O _ ac)];exact h.n,h.aL.keep (fun _ _ h=>h) eC fun k z h6=>by rw[hg k Fc,Z k h6 (h.sS k z).2.2],?_,o1,o2,o3,o4,eC,fun k z=>⟨(h.sS k z).1,by have:=(h.sS k z).2.1;simp only[bq];omega,fun e=>?_⟩,fun k z=>?_⟩,⟨eC,fun k h1 V _ _ h5=>by rw[hg k V,Z k h1 h5],fun _ h=>.inl h,fun k z=>?_⟩⟩
 .have C:gK H' j (s.vars++[x]) 0:=.inr I;exact C.keep (ay _) fun k z=>hg k fun e=>by
   rcases Y k z with q|q
   .have:=(h.vS k q).1;omega
   .omega
 .rcases Y k e with q|q
  .exact(h.sS k z).2.2 q
  .have:=(h.sS k z).2.1;omega
 .have J:k<H'.next:=(gK.lt (.inr I) z).2
  rcases Y k z with q|q
  .exact⟨(h.vS k q).1,J⟩
  .exact⟨ac,J⟩
 grind
structure FrN (X:Lx) (bt:Hp) (S:Nat->Prop) (vv:AV) (H:Hp):Prop where
 next:bt.next<=H.next
 get:∀k,k<bt.next->k≠X.b->k≠X.rt->k≠X.rn->H.get k=bt.get k
 sub:∀k,S k->bt.next<=k
 own:∀k,aN vv k->bt.next<=k
def FrN.fr{ne:List (bG×Int)}{bt:Hp}{S':Nat->Prop}{vv:AV}(h:FrN X bt S vv H)(f:FrL (X.nx ne) S vv H S' Z H'):FrN X bt S' Z H' where
 next:=dw h.next f.next
 get k h1 h2 h3 h4:=by
  rw[f.get k (lh h1 h.next) h2 h3 (fun e=>by have:=h.sub k e;omega) (fun e=>by have:=h.own k e;omega)];exact h.get k h1 h2 h3 h4
 sub k e:=by
  rcases f.sub k e with e|e
  .exact h.sub k e
  .exact dw h.next e
 own k e:=by
  rcases f.own k e with e|e
  .exact h.own k e
  .exact dw h.next e
def FrN.dJ{bt:Hp}{vv:AV}(h:FrN X bt S vv H)(b:HB):FrN X bt S vv (H.set X.rn b):=⟨h.next,fun k m j C V=>by rw[aM,af V];exact h.get k m j C V,h.sub,h.own⟩
def Q9(X:Lx)(H:Hp)(g:Gr)(v:AV)(H':Hp):Prop:=∃S lv,v=.agg [.aj g.name,.int .i64 g.params,lv,.int .i64 g.value,.int .i64 g.ab]/\cU S 2 H' 3 lv (g.aL.map Nd.cells)/\H.next<=H'.next/\(∀k,S k->H.next<=k)/\∀k,k<H.next->k≠X.b->k≠X.rt->k≠X.rn->H'.get k=H.get k
abbrev qk:HB:=.cells [.aj [],.int .i64 0,.ag,.int .i64 0,.int .i64 0] 0 true
set_option maxRecDepth 100000 in
theorem zdg{tb:qC}(hG:zd9 tb){p:Pr}{f:Fu}(hX:zig (X.nx (fu (f.params++f.ak) 0 [])) (kE p f))(hX0:X.ne=[]){v:Int×Bd}(h1:eY (kE p f) n f.body (jg f)=some s)(h2:ec (kE p f) n f.value s=some v)(hF:Fin v.2)(hz:f.sz<2^34)(hR:zd1 X H (fun _=>False) ⟨[],[],0,0⟩ .ag .ag):
 aR prog (au pls tb) 52 [.ptr X.b 0,.agg f.cells] H (Q9 X H ⟨f.name,f.params.length,v.2.l,v.1,v.2.ab⟩):=by
 have hw:zd0 (au pls tb) 52:=hG.plain cM;have hkeep:(au pls tb).keep 52=false:=rfl;have hsz:f.sz=1+f.name.length+cP f.params+cP f.ak+bi f.body+f.value.sz:=rfl;have hpl:=iU f.params;have hll:=iU f.ak;have o1:=hR.o1;have o2:=hR.o2;have o3:=hR.o3;have o4:=hR.o4;have o5:=hR.o5;have hFs:Fin s:=hF.le (dr _ n _ _ _ h2).le;have O:Fin (jg f):=hFs.le ((jD _ n).2.1 _ _ _ h1).1;have hsv:s.vars.length=(jg f).vars.length:=((jD _ n).2.1 _ _ _ h1).2;have Y:jg f=jq f.ak.length (gC f.params.length 0 { (ah ⟨26,0,[]⟩ ⟨[],[],0,0⟩).2 with ab:=(ah ⟨26,0,[]⟩ ⟨[],[],0,0⟩).1}):=rfl;generalize hs0:({ (ah ⟨26,0,[]⟩ ⟨[],[],0,0⟩).2 with ab:=(ah ⟨26,0,[]⟩ ⟨[],[],0,0⟩).1}:Bd)=s0 at *;have hv0:s0.vars.length=0:=by rw[<-hs0];rfl
 have hF1:Fin (gC f.params.length 0 s0):=by rw[Y]at O;exact O.le (xq _ _).1
 have hv1:(gC f.params.length 0 s0).vars.length=f.params.length:=by rw[(xp _ _ _).2,hv0];omega
 have hF0:Fin s0:=hF1.le (xp _ _ _).1;have hFe:Fin (ah ⟨26,0,[]⟩ ⟨[],[],0,0⟩).2:=by rw[<-hs0]at hF0;exact⟨hF0.r,hF0.l,hF0.n⟩
 have hvst:(jg f).vars.length<2^36:=by rw[Y,(xq _ _).2,hv1];omega
 have R1:=(hR.alloc (.cells f.cells 0 true)).alloc qk;have N1:FrN X ((H.alloc (.cells f.cells 0 true)).alloc qk) (fun _=>False) .ag ((H.alloc (.cells f.cells 0 true)).alloc qk):=⟨ay _,fun _ _ _ _ _=>rfl,fun _ h=>h.elim,fun _ h=>(rk h).elim⟩;have eX:X.nx []=X:=by rw[<-hX0]
 have gA:∀{S:Nat->Prop}{vv:AV}{H':Hp},FrN X ((H.alloc (.cells f.cells 0 true)).alloc qk) S vv H'->H'.get H.next=some (.cells f.cells 0 true)/\H'.get (H.next+1)=some qk:=fun h=>by
  refine⟨?_,?_⟩
  .rw[h.get _ cB ac ac ac,aD,af bb,aD,ai rfl]
  .rw[h.get _ bb ac ac ac,aD,ai cM]
 refine bp (M:=94) (rs:=[.cell 4 32]) (hw.call _) hw.aG hw.aB func52 rfl rfl Q8.2 rfl ?_;dsimp only[Q8,bm,Nat.reduceAdd];refine cY fun K hK=>?_;refine qc ?_;refine aF ?_ (Bq hG R1 (cX _ _ _ _) 26 0 hFe);rintro w H2 ⟨rfl,S2,lv2,R2,F2⟩;have m2:=R2.m;obtain⟨R3,F3⟩:=R2.setS (ah ⟨26,0,[]⟩ ⟨[],[],0,0⟩).1;have N3:=N1.fr (ne:=X.ne) (F2.trans F3);have n2:=F2.next
 simp only[aU]at n2;clear R1 R2 F2 F3 hR;have g3:=(gA N3).1;dsimp only[bU]at m2 R3 N3 g3;dsimp only[aC];refine dJ ?_;refine cl [0,3,4,16,17] [] 18 f.params.length (fun i E Hi=>∃m Si lvi V,gC (f.params.length-i) i m=gC f.params.length 0 s0/\m.vars.length=i/\zd1 (X.nx (fu (f.params.take i) 0 [])) Hi Si m lvi V/\FrN X ((H.alloc (.cells f.cells 0 true)).alloc qk) Si V Hi) eE ⟨s0,S2,lv2,.ag,rfl,hv0,by rw[QY];show zd1 (X.nx []) _ _ _ _ _;simp_all,N3⟩ ?_;clear R3 N3 m2 g3;rintro i E Hi hi hcE hrH hnH hsI ⟨m,Si,lvi,V,U,hvi,Ri,Ni⟩;(try simp only[bC,aZ,aW,aG,aY,Nat.reduceBEq, *]at hcE);(try simp only[aZ,aY, *]at hrH);(try simp only[bq,]at hnH);have ni:H.next+2<=Hi.next:=Ni.next
 by_cases hlt:i<f.params.length
 .have I:(i:Int)<f.params.length:=by omega
  have hgx:f.params[i]?=some f.params[i]:=bj hlt;obtain⟨k,z⟩:∃k,f.params.length-i=k+1:=⟨f.params.length-i-1,ac⟩;have hk2:f.params.length-(i+1)=k:=ac;have hne:fu (f.params.take (i+1)) 0 []=setV (fu (f.params.take i) 0 []) f.params[i] (i:Int):=by
   rw[tK,hgx];show fu (f.params.take i++[f.params[i]]) 0 []=_;rw[Fq,oL,xZ ac,bR]
  rw[z]at U;rw[hk2,hne];have U:gC k (i+1) { (ah ⟨2,i,[]⟩ m).2 with vars:=(ah ⟨2,i,[]⟩ m).2.vars++[(ah ⟨2,i,[]⟩ m).1] }=gC f.params.length 0 s0:=U;have hFx:Fin (ah ⟨2,i,[]⟩ m).2:=hF1.le (by rw[<-U];exact((ri _).setV _).trans (xp _ _ _).1);generalize f.params[i]=nm at *;have hup:=Be (P:=prog) (t:=98) underlying98 ux Ri.n nm (i:Int);have mi:=Ri.m;have R':=Ri.dJ (setV (fu (f.params.take i) 0 []) nm (i:Int));have N':=Ni.dJ (.map (dz (setV (fu (f.params.take i) 0 []) nm (i:Int))));have m':=R'.m;dsimp only[bU,Lx.nx]at mi hup m';repeat' (first
   |(apply aj ?_;clear hK K)|apply bQ ?_|(apply bu ?_ ?_<;>(intro hb hbp;try(cases hb;done)))|(apply am fun K hK=>?_)|(apply ci 6 [(4,7),(4,9),(8,9)] fun K hK=>?_)|(apply bD ?_;try intro _)|fail)
  refine qd ?_;refine aF ?_ (Bq (X:=X.nx (setV (fu (f.params.take i) 0 []) nm (i:Int))) hG R' (cX _ _ _ _) 2 i hFx);generalize C:ah ⟨2,i,[]⟩ m=J at *;have hpv:J.2.vars.length=i:=by rw[<-C];exact hvi
  rintro w H4 ⟨rfl,S4,lv4,R4,F4⟩;have m4:=R4.m;have n4:=F4.next
  obtain⟨v5,H5,a5,hv51,hv52,m5,n5,q5,R5,F5⟩:=R4.dT J.1 ac;have N5:=(N'.fr F4).fr F5;have m4a:(H4.alloc (.cells [.int .i64 J.1] 0 true)).get X.b=some (.cells (bU X J.2 lv4 V) 0 true):=QR;have n5':Hi.next<=H5.next:=by simp only[bq]at n4;omega
  have hlen5:(J.2.vars++[J.1]).length=i+1:=aX;simp only[bq]at n4;clear hpv hvi R' N' R4 F4 C mi;dsimp only[bU,Lx.nx]at m4 m5 m4a R5 N5;dsimp only[aC];repeat' (first
   |(apply aj ?_;clear hK K)|apply aV ?_|(apply am fun K hK=>?_)|(apply bD ?_;try intro _)|(apply ch ?_ ?_<;>clear hK K)|fail)
  .exact cn
  .refine⟨ac,a0,a0,ca,QW,?_⟩
   grind
 .have I:¬(i:Int)<f.params.length:=by omega
  have z:f.params.length-i=0:=ac;have hti:f.params.take i=f.params:=gQ ac;rw[z]at U;rw[hti]at Ri;have U:m=gC f.params.length 0 s0:=U;rw[U]at Ri;have hii:i=f.params.length:=ac;rw[<-U]at Y;rw[U]at Y;have gi:=(gA Ni).1;clear z hti U hvi hii;refine pE (fun hb hbp=>?_);generalize hs1:gC f.params.length 0 s0=s1 at *;refine cl [0,3,4,43,44] [] 45 f.ak.length (fun j E Hj=>∃sj Sj lvj vvj,jq (f.ak.length-j) sj=jq f.ak.length s1/\sj.vars.length=f.params.length+j/\zd1 (X.nx (fu (f.params++f.ak.take j) 0 [])) Hj Sj sj lvj vvj/\FrN X ((H.alloc (.cells f.cells 0 true)).alloc qk) Sj vvj Hj) eE ⟨s1,Si,lvi,V,rfl,hv1,bb,Ni⟩ ?_;clear Ri Ni gi;rintro j E3 Hj hj hcE hrH hnH hsI ⟨sj,Sj,lvj,vvj,U,hvj,Rj,Nj⟩;(try simp only[bC,aZ,aW,aG,aY,Nat.reduceBEq, *]at hcE);(try simp only[aZ, *]at hrH);(try simp only[aU,bq,ce,bR,Nat.reduceAdd]at hnH);have nj:H.next+2<=Hj.next:=Nj.next
  by_cases hlt:j<f.ak.length
  .have I:(j:Int)<f.ak.length:=by omega
   have hgx:f.ak[j]?=some f.ak[j]:=bj hlt;obtain⟨k,z⟩:∃k,f.ak.length-j=k+1:=⟨f.ak.length-j-1,ac⟩;have hk2:f.ak.length-(j+1)=k:=ac;have hne:fu (f.params++f.ak.take (j+1)) 0 []=setV (fu (f.params++f.ak.take j) 0 []) f.ak[j] ((f.params.length+j:Nat):Int):=by
    rw[tK,hgx];show fu (f.params++(f.ak.take j++[f.ak[j]])) 0 []=_;rw[<-mV,Fq,iR,oL,xZ ac,bR]
   rw[z]at U;rw[hk2,hne];have U:jq k { (ah ⟨1,0,[]⟩ sj).2 with vars:=(ah ⟨1,0,[]⟩ sj).2.vars++[(ah ⟨1,0,[]⟩ sj).1] }=jq f.ak.length s1:=U;have hFx:Fin (ah ⟨1,0,[]⟩ sj).2:=O.le (by rw[Y,<-U];exact((ri _).setV _).trans (xq _ _).1);generalize f.ak[j]=nm at *;have hup:=Be (P:=prog) (t:=98) underlying98 ux Rj.n nm ((f.params.length+j:Nat):Int);have hlen:=Rj.vars.n.len';rw[hvj]at hlen;have mj:=Rj.m;have R':=Rj.dJ (setV (fu (f.params++f.ak.take j) 0 []) nm ((f.params.length+j:Nat):Int));have N':=Nj.dJ (.map (dz (setV (fu (f.params++f.ak.take j) 0 []) nm ((f.params.length+j:Nat):Int))));have m':=R'.m;dsimp only[bU,Lx.nx]at mj hup m';repeat' (first
    |(apply aj ?_;clear hK K)|apply bQ ?_|(apply bu ?_ ?_<;>(intro hb hbp;try(cases hb;done)))|(apply am fun K hK=>?_)|(apply wU 11 fun K hK=>?_)|(apply ci 12 [(4,6),(4,8),(7,8)] fun K hK=>?_)|(apply bD ?_;try intro _)|fail)
   .refine qd ?_;refine aF ?_ (yI (X:=X.nx (setV (fu (f.params++f.ak.take j) 0 []) nm ((f.params.length+j:Nat):Int))) hG R' (cX _ _ _ _) 0 hFx);generalize C:ah ⟨1,0,[]⟩ sj=J at *;have hpv:J.2.vars.length=f.params.length+j:=by rw[<-C];exact hvj
    rintro w H4 ⟨rfl,S4,lv4,R4,F4⟩;have m4:=R4.m;have n4:=F4.next
    obtain⟨v5,H5,a5,hv51,hv52,m5,n5,q5,R5,F5⟩:=R4.dT J.1 ac;have N5:=(N'.fr F4).fr F5;have m4a:(H4.alloc (.cells [.int .i64 J.1] 0 true)).get X.b=some (.cells (bU X J.2 lv4 vvj) 0 true):=QR;have n5':Hj.next<=H5.next:=by simp only[bq]at n4;omega
    have hlen5:(J.2.vars++[J.1]).length=f.params.length+(j+1):=aX;simp only[bq]at n4;clear hpv hvj R' N' R4 F4 C mj hlen;dsimp only[bU,Lx.nx]at m4 m5 m4a R5 N5;dsimp only[aC];repeat' (first
     |(apply aj ?_;clear hK K)|apply aV ?_|(apply am fun K hK=>?_)|(apply bD ?_;try intro _)|(apply ch ?_ ?_<;>clear hK K)|fail)
    .exact cn
    .refine⟨ac,a0,a0,ca,QX,?_⟩
     grind
  .have I:¬(j:Int)<f.ak.length:=by omega
   have z:f.ak.length-j=0:=ac;have htj:f.ak.take j=f.ak:=gQ ac;rw[z]at U;rw[htj]at Rj;have U:sj=jq f.ak.length s1:=U;rw[U,<-Y]at Rj;have gj:=(gA Nj).1;clear z htj U hvj;repeat' (first
    |(apply aj ?_;clear hK K)|apply bQ ?_|(apply bu ?_ ?_<;>(intro hb hbp;try(cases hb;done)))|(apply am fun K hK=>?_)|fail)
   refine qc ?_;refine aF ?_ (Q7 (X:=X.nx (fu (f.params++f.ak) 0 [])) hG hX (n+1) n (bT n) f.body (jg f) s h1 hFs ac hvst Rj);rintro w H6 ⟨S6,lv6,vv6,R6,F6⟩;have N6:=Nj.fr F6;have g6:=(gA N6).1;clear Rj Nj F6 gj;dsimp only[aC];refine cY fun K hK=>?_;refine qc ?_;refine aF ?_ (tf (X:=X.nx (fu (f.params++f.ak) 0 [])) hG hX n f.value s v h2 hF R6 (cX _ _ _ _));rintro w H7 ⟨rfl,S7,Z,R7,F7⟩;have N7:=N6.fr F7;obtain⟨g7,g7r⟩:=gA N7;have m7:=R7.m;have nd7:=R7.aL;obtain⟨ho1,ho2⟩:=nd7.one;have n7:H.next+2<=H7.next:=N7.next
   have bGr:dd prog 32 [(0,.aj f.name),(1,.int .i64 f.params.length),(2,Z),(3,.int .i64 v.1),(4,.int .i64 v.2.ab)]=some (.agg [.aj f.name,.int .i64 f.params.length,Z,.int .i64 v.1,.int .i64 v.2.ab]):=by
    rcases nd7 with⟨rfl,_⟩|⟨q,im,rows,rfl,_⟩<;>kernel_rfl
   have key:∀k,k<H.next->k≠X.b->k≠X.rt->k≠X.rn->(H7.set (H.next+1) (.cells [.aj f.name,.int .i64 f.params.length,Z,.int .i64 v.1,.int .i64 v.2.ab] 0 true)).get k=H.get k:=fun k a b c d=>by
    rw[aM,af ac,N7.get k cB b c d,aD,af cB,aD,af ac]
   have fin:Q9 X H ⟨f.name,f.params.length,v.2.l,v.1,v.2.ab⟩ (.agg [.aj f.name,.int .i64 f.params.length,Z,.int .i64 v.1,.int .i64 v.2.ab]) (H7.set (H.next+1) (.cells [.aj f.name,.int .i64 f.params.length,Z,.int .i64 v.1,.int .i64 v.2.ab] 0 true)):=
    ⟨S7,Z,rfl,nd7.keep (fun _ _ h=>h) (ay _) fun k z _=>by rw[aM,af QS],eC,fun k z=>QS,key⟩
   dsimp only[bU,Lx.nx]at m7;clear key nd7 R6 R7 N6 N7 F7 g6;dsimp only[aC];repeat' (first
    |(apply aj ?_;clear hK K)|apply aV ?_|(apply wU 16 fun K hK=>?_)|fail)
   have ag:cq 5 [.aj f.name,.int .i64 f.params.length,Z,.int .i64 v.1,.int .i64 v.2.ab]=some (.agg [.aj f.name,.int .i64 f.params.length,Z,.int .i64 v.1,.int .i64 v.2.ab]):=rfl;refine⟨aB,_,(by(try simp only[aG,aY,Nat.reduceBEq,tyF,cF,cR, *]);first|done|with_reducible rfl),?_⟩;try simp only[aA]
   exact fin
end
section
def tyW4a.tyF:=ad @cr (ad @cK (ad @dV (ad @dR (ad @dD (ad @eh (@dQ))))))
open tyW4a
noncomputable def Ra:{c:SC // aE 28 (f122.body.getD .skip)=c}:=by
 refine⟨?_,?_⟩;rotate_left
 .simp only[f122,bN,aE,bH,bw,bM,bJ,Nat.blt,Nat.ble];rfl
noncomputable def Rd:{c:SC // aE 39 (f116.body.getD .skip)=c}:=by
 refine⟨?_,?_⟩;rotate_left
 .simp only[f116,bN,aE,bH,bw,bM,bJ,Nat.blt,Nat.ble];rfl
def yL(cfg:Cfg)(base:Nat)(I:Hp->Prop)(g:FuncId)(cap:qu)(q:Ex->Int->Bool):Prop:=
 ∀(x:Ex) (d:Int) (H:Hp),x.sz<2^60->base<=H.next->I H->aR prog cfg g (.agg x.cells::.int .i64 d::cap) H fun v H'=>v=.bool (q x d)/\FrB base H H'/\I H'
def vO(base:Nat)(I:Hp->Prop):Prop:=∀H H',I H->jd base H H'->I H'
abbrev qj:HB:=.cells [.int .i64 0,.int .i64 0,.aj [],.int .i64 0,.ag] 0 true
theorem yM{cfg:Cfg}(hw:zd0 cfg 122){base:Nat}{I:Hp->Prop}(hI:vO base I){g:FuncId}{cap:qu}{q:Ex->Int->Bool}(hq:yL cfg base I g cap q):
 ∀(n:Nat) (x:Ex),x.sz<n->∀(d:Int) (H:Hp),x.sz<2^60->base<=H.next->I H->aR prog cfg 122 [.agg x.cells,.int .i64 d,.bJ g cap] H fun v H'=>v=.bool (mX q x d)/\FrB base H H'/\I H'
 |0,x,hx,_,_,_,_,_=>by omega
 |n+1,x,hx,d,H,hz,hbase,hi=>by
  refine bp (M:=28) (rs:=[.tmp 6]) (hw.call _) hw.aG hw.aB func122 rfl rfl Ra.2 rfl ?_;dsimp only[Ra,bm,Nat.reduceAdd];refine cY fun K hK=>?_;refine aJ rfl aK aL ?_;simp only[AG];have m:FrB base H (H.alloc (.cells x.cells 0 true)):=(jA _ _).alloc _;refine aF ?_ (hq x d (H.alloc (.cells x.cells 0 true)) hz cB (hI _ _ hi ((rO _ _).alloc hbase _)));rintro v H1 ⟨rfl,V,Z⟩;have hg1:H1.get H.next=some (.cells x.cells 0 true):=by
   rw[V.get _ hbase (by simp[aU]),aD,ai rfl]
  have hn1:H.next<H1.next:=by have:=V.next;simp only[aU]at this;omega
  dsimp only[aC];refine tz (fun hb hbp=>?_) (fun hb hbp=>?_)
  .all_goals refine qq ?_
   refine⟨?_,m.trans V,Z⟩;rw[Iy];simp_all
  have hl:x.ao.length<2^60:=by have:=mY x.ao;have:=x.aV;omega
  refine rK (fun i E z=>jz q x.ao (bB (d+1))=jz q (x.ao.drop i) (bB (d+1))/\E.at 1=.int .i64 d/\E.at 2=.bJ g cap/\E.at 15=.az (x.ao.map Ex.cells)/\E.at 16=.int .i64 x.ao.length/\E.at 17=.int .i64 i/\FrB base H z/\I z) x.ao.length ?_ ?_
  .rintro i E z hi2 ⟨hc,h1,h2,h15,h16,h17,U,Y⟩;repeat' (first
    |(apply aj ?_;clear hK K)|apply aV ?_|(apply bz ?_ ?_<;>(intro hb hbp;try(cases hb;done)))|(apply am fun K hK=>?_)|fail)
   .have J:i<x.ao.length:=by simpa using hb
    have hgx:x.ao[i]?=some x.ao[i]:=bj J;refine cY fun K hK=>?_;have hxm:x.ao[i]∈x.ao:=dm J;have hsm:=n1 hxm;have hsx:=x.aV;have j:FrB base z ((z.alloc qj).set z.next (.cells x.ao[i].cells 0 true)):=((jA _ _).alloc _).set (.inl (ay _)) _;have hb2:base<=z.next:=dw hbase (U.next)
    have hlow:jd base z ((z.alloc qj).set z.next (.cells x.ao[i].cells 0 true)):=((rO _ _).alloc hb2 _).set hb2 _;refine qc ?_;refine aF ?_ (yM hw hI hq n x.ao[i] ac _ _ ac mG (hI _ _ Y hlow));rintro v H3 ⟨rfl,O,C⟩;dsimp only[aC];refine tz (fun hb hbp=>?_) (fun hb hbp=>?_)
    .all_goals refine qq ?_
     refine⟨?_,(U.trans j).trans O,C⟩;rw[Iy,hc,DP q J];simp_all
    .refine⟨J,?_,eE,eE,eE,eE,?_,(U.trans j).trans O,C⟩
     .rw[hc,DP q J];simp_all
     .simp only[jY,Nat.reduceBEq,iY,gS (show i<2^62 by omega)]
   .have hi3:i=x.ao.length:=by simp at hb;omega
    all_goals refine qq ?_
    refine⟨?_,U,Y⟩;rw[Iy,hc,hi3];simp_all[jz]
  .exact⟨rfl,eE,eE,eE,eE,eE,m.trans V,Z⟩
end
section
def tyW4b.tyF:=ad @cr (ad @cK (ad @dV (ad @dR (ad @dD (@eh)))))
open tyW4b
def Br{M:Type}(cfg:Cfg)(base:Nat)(I:M->Hp->Prop)(g:FuncId)(cap:qu)(q:St->Int->M->Bool×M):Prop:=
 ∀(x:St) (d:Int) (s:M) (H:Hp),x.sz<2^60->base<=H.next->I s H->aR prog cfg g (.agg x.cells::.int .i64 d::cap) H fun v H'=>v=.bool (q x d s).1/\FrB base H H'/\I (q x d s).2 H'
theorem yN{cfg:Cfg}(hw:zd0 cfg 116){σ:Type}{base:Nat}{I:σ->Hp->Prop}(hI:∀s,vO base (I s)){g:FuncId}{cap:qu}{q:St->Int->σ->Bool×σ}(hq:Br cfg base I g cap q):
 ∀(n:Nat) (l:qD),bi l<n->∀(d:Int) (s:σ) (H:Hp),bi l<2^60->base<=H.next->I s H->aR prog cfg 116 [.az (l.map St.cells),.int .i64 d,.bJ g cap] H fun v H'=>v=.bool (fw q l d s).1/\FrB base H H'/\I (fw q l d s).2 H'
 |0,l,hx,_,_,_,_,_,_=>by omega
 |n+1,l,hx,d,s,H,hz,hbase,hi=>by
  refine bp (M:=39) (rs:=[.tmp 6]) (hw.call _) hw.aG hw.aB func116 rfl rfl Rd.2 rfl ?_;dsimp only[Rd,bm,Nat.reduceAdd];refine gW ?_;have hl:l.length<2^60:=by have:=mZ l;omega
  refine rK (fun i E z=>∃s2,fw q l d s=fw q (l.drop i) d s2/\E.at 1=.int .i64 d/\E.at 2=.bJ g cap/\E.at 9=.az (l.map St.cells)/\E.at 10=.int .i64 l.length/\E.at 11=.int .i64 i/\FrB base H z/\I s2 z) l.length ?_ ?_
  .rintro i E z hi2 ⟨s2,hc,h1,h2,h9,h10,h11,U,hI2⟩;repeat' (first
    |(apply aj ?_;clear hK K)|apply aV ?_|(apply bz ?_ ?_<;>(intro hb hbp;try(cases hb;done)))|(apply am fun K hK=>?_)|fail)
   .have J:i<l.length:=by simpa using hb
    have hgx:l[i]?=some l[i]:=bj J;refine cY fun K hK=>?_;have hxm:l[i]∈l:=dm J;have hsm:=my hxm;have hsx:=l[i].aV;generalize hx0:l[i]=x at *;have C:base<=z.next:=dw hbase U.next
    generalize Y:(z.alloc _).set z.next _=H3
    have O:FrB base z H3:=by rw[<-Y];exact((jA _ _).alloc _).set (.inl (ay _)) _
    have hlow:jd base z H3:=by rw[<-Y];exact((rO _ _).alloc C _).set C _
    have hn3:z.next<H3.next:=by rw[<-Y];simp only[aU,bq];omega
    have hg3:H3.get z.next=some (.cells x.cells 0 true):=JK
    have hI3:=hI _ _ _ hI2 hlow;have hwd:=zaS q J d s2;rw[hx0,zaR]at hwd;rw[hwd]at hc;refine aJ rfl aK aL ?_;simp only[AG];refine aF ?_ (hq x d s2 H3 ac ac hI3);rintro v H4 ⟨rfl,Z,hI4⟩;generalize hq1:q x d s2=r1 at *;obtain⟨ok1,s3⟩:=r1;have hg4:H4.get z.next=some (.cells x.cells 0 true):=by rw[Z.get _ C hn3];exact hg3
    have hn4:z.next<H4.next:=lh hn3 Z.next
    dsimp only[aC];cases ok1 with
    |false=>
     repeat' (first
      |(apply aj ?_;clear hK K)|apply aV ?_|(apply cL ?_ ?_<;>(intro hg hgp;try(cases hg;done)))|(apply bz ?_ ?_<;>(intro hb hbp;try(cases hb;done)))|(apply am fun K hK=>?_)|fail)
     all_goals refine qq ?_
     dsimp only at hc;rw[hc];exact⟨rfl,(U.trans O).trans Z,hI4⟩
    |true=>
     repeat' (first
      |apply Rx.o ?_|(apply cL ?_ ?_<;>(intro hg hgp;try(cases hg;done)))|fail)
     refine qc ?_;have hrec:=yN hw hI hq n x.bl ac (bB (d+1)) s3 H4 ac ac hI4;refine aF ?_ hrec;rintro v H5 ⟨rfl,V,hI5⟩;generalize m:fw q x.bl (bB (d+1)) s3=r2 at *;obtain⟨ok2,s4⟩:=r2;have hg5:H5.get z.next=some (.cells x.cells 0 true):=by rw[V.get _ C hn4];exact hg4
     have hn5:z.next<H5.next:=lh hn4 V.next
     dsimp only[aC];cases ok2 with
     |false=>
      repeat' (first
       |(apply aj ?_;clear hK K)|apply aV ?_|(apply cL ?_ ?_<;>(intro hg hgp;try(cases hg;done)))|(apply bz ?_ ?_<;>(intro hb hbp;try(cases hb;done)))|(apply am fun K hK=>?_)|fail)
      all_goals refine qq ?_
      simp only[m]at hc;rw[hc];exact⟨rfl,((U.trans O).trans Z).trans V,hI5⟩
     |true=>
      repeat' (first
       |apply Rx.o ?_|(apply cL ?_ ?_<;>(intro hg hgp;try(cases hg;done)))|fail)
      refine qc ?_;have j:=yN hw hI hq n x.bA ac (bB (d+1)) s4 H5 ac ac hI5;refine aF ?_ j;rintro v H6 ⟨rfl,hf6,hI6⟩;generalize hq3:fw q x.bA (bB (d+1)) s4=r3 at *;obtain⟨ok3,s5⟩:=r3;dsimp only[aC];have hf7:FrB base H H6:=(((U.trans O).trans Z).trans V).trans hf6;cases ok3 with
      |false=>
       repeat' (first
        |(apply aj ?_;clear hK K)|apply aV ?_|(apply cL ?_ ?_<;>(intro hg hgp;try(cases hg;done)))|(apply bz ?_ ?_<;>(intro hb hbp;try(cases hb;done)))|(apply am fun K hK=>?_)|fail)
       all_goals refine qq ?_
       simp only[m,hq3]at hc;rw[hc];exact⟨rfl,hf7,hI6⟩
      |true=>
       repeat' (first
        |(apply aj ?_;clear hK K)|apply aV ?_|(apply cL ?_ ?_<;>(intro hg hgp;try(cases hg;done)))|(apply bz ?_ ?_<;>(intro hb hbp;try(cases hb;done)))|(apply am fun K hK=>?_)|fail)
       refine⟨J,s5,?_,eE,eE,eE,eE,?_,hf7,hI6⟩
       .simp only[m,hq3]at hc;exact hc
       .simp only[jY,Nat.reduceBEq,iY,gS (show i<2^62 by omega)]
   .have hi3:i=l.length:=by simp at hb;omega
    all_goals refine qq ?_
    rw[hc,hi3];simp only[iJ,fw];exact⟨trivial,U,hI2⟩
  .exact⟨s,rfl,eE,eE,eE,eE,eE,jA _ _,hi⟩
end
section
def tyW4c.tyF:=ad @cr (ad @cK (ad @dV (ad @dR (ad @dD (ad @eh (ad @dQ (ad @et (ad @jb (@MZ)))))))))
open tyW4c
noncomputable def Re:{c:SC // aE 24 (f117.body.getD .skip)=c}:=by
 refine⟨?_,?_⟩;rotate_left
 .simp only[f117,bN,aE,bH,bw,bM,bJ,Nat.blt,Nat.ble];rfl
noncomputable def Rf:{c:SC // aE 7 (f119.body.getD .skip)=c}:=by
 refine⟨?_,?_⟩;rotate_left
 .simp only[f119,bN,aE,bH,bw,bM,bJ,Nat.blt,Nat.ble];rfl
noncomputable def Rg:{c:SC // aE 32 (f155.body.getD .skip)=c}:=by
 refine⟨?_,?_⟩;rotate_left
 .simp only[f155,bN,aE,bH,bw,bM,bJ,Nat.blt,Nat.ble];rfl
noncomputable def Rh:{c:SC // aE 15 (f118.body.getD .skip)=c}:=by
 refine⟨?_,?_⟩;rotate_left
 .simp only[f118,bN,aE,bH,bw,bM,bJ,Nat.blt,Nat.ble];rfl
def zdh(Z:zd0 cfg 117){base rn rl:Nat}(J:rn<base)(O:rl<base)(C:rn≠rl)(Hb:Hp):
 Br cfg base (fun(s:Int×Int) H=>H.get rn=some (.cells [.int .i64 s.1] 0 true)/\H.get rl=some (.cells [.int .i64 s.2] 0 true)/\∀r,r<base->r≠rn->r≠rl->H.get r=Hb.get r) 117 [.ptr rn 0,.ptr rl 0] pT:=by
 intro x d s H m Y ⟨I,z,V⟩;have j:(rn == H.next)=false:=cb;have e2:(rl == H.next)=false:=cb;have e3:(rl == rn)=false:=cb;have e4:(rn == rl)=false:=cb;have e5:(H.next == rn)=false:=cb;have e6:(H.next == rl)=false:=cb;refine bp (M:=24) (rs:=[.tmp 6]) (Z.call _) Z.aG Z.aB func117 rfl rfl Re.2 rfl ?_;dsimp only[Re,bm,Nat.reduceAdd];repeat' (first
  |(apply aj ?_;clear hK K)|apply aV ?_|(apply cL ?_ ?_<;>(intro hg hgp;try(cases hg;done)))|(apply bz ?_ ?_<;>(intro hb hbp;try(cases hb;done)))|(apply am fun K hK=>?_)|fail)
 all_goals refine qq ?_
 all_goals (refine⟨?_,?_,?_,?_,?_⟩)
 all_goals first
  |(intro r q1 q2 U;simp only[aM,aD,q2,U,show ¬r=H.next by omega,fG];exact V r q1 q2 U)
  |exact(((jA _ _).alloc _).set (.inr J) _).set (.inr O) _
  |exact((jA _ _).alloc _).set (.inr J) _
  |(simp only[get_set,wJ,pT, *,iY,ui,Fk,kT,p9,ft,fG];done)
  |(simp_all[pT,get_set,wJ];done)
  |skip
def zdi(Y:zd0 cfg 119){base:Nat}(j:vO base I):yL cfg base I 119 [] tZ:=by
 intro x d H C Z V;refine bp (M:=7) (rs:=[.tmp 4]) (Y.call _) Y.aG Y.aB func119 rfl rfl Rf.2 rfl ?_;dsimp only[Rf,bm,Nat.reduceAdd];refine GD ?_;all_goals refine qq ?_
 exact⟨rfl,(jA _ _).alloc _,j _ _ V ((rO _ _).alloc Z _)⟩
def zdj(hw:zd0 cfg 155)(hwe:zd0 cfg 122){base V:Nat}(j:base<=V)(hI:vO base I){cap:qu}(hq:yL cfg base I g cap q)
 {J:Nat} (hr1:base<=J) (hr2:J<V) (H1:Hp) :
 Br cfg V (fun(_:Unit) H=>I H/\H.get J=some (.cells [.bJ g cap] 0 true)/\∀r,base<=r->r<V->H.get r=H1.get r) 155 [.ptr J 0] (pU q):=by
 intro x d s H hz hbase ⟨hi,hi3,hi1⟩;have hsz:=x.aV;have e1:(J == H.next)=false:=cb;have e2:(H.next == J)=false:=cb;refine bp (M:=32) (rs:=[.tmp 5]) (hw.call _) hw.aG hw.aB func155 rfl rfl Rg.2 rfl ?_;dsimp only[Rg,bm,Nat.reduceAdd];refine cY fun K hK=>?_;have hIa:=hI _ _ hi ((rO base H).alloc (dw j hbase) (.cells x.cells 0 true));refine qc ?_;refine aF ?_ (yM hwe hI hq (x.a8.sz+1) x.a8 ac 0 _ ac cB hIa);rintro v m ⟨rfl,hf2,hi2⟩;have hn2:H.next<m.next:=by have:=hf2.next;simp only[aU]at this;omega
 have hg2:m.get H.next=some (.cells x.cells 0 true):=by rw[hf2.get _ ac (by simp[aU]),aD,ai rfl]
 have hr3:m.get J=some (.cells [.bJ g cap] 0 true):=by rw[hf2.get _ hr1 cB,aD,af ac];exact hi3
 have hF2:FrB base H m:=((jA _ _).alloc _).trans hf2;have Z:∀r,base<=r->r<V->m.get r=H1.get r:=fun r h1 h2=>by rw[hF2.get r h1 ac];exact hi1 r h1 h2
 dsimp only[aC];repeat' (first
  |(apply aj ?_;clear hK K)|apply aV ?_|(apply cL ?_ ?_<;>(intro hg hgp;try(cases hg;done)))|(apply bz ?_ ?_<;>(intro hb hbp;try(cases hb;done)))|(apply am fun K hK=>?_)|fail)
 .refine qc ?_;refine aF ?_ (yM hwe hI hq (x.value.sz+1) x.value ac 0 _ ac ac hi2);rintro v H3 ⟨rfl,O,hi3'⟩;have hn3:H.next<H3.next:=lh hn2 O.next
  have hg3:H3.get H.next=some (.cells x.cells 0 true):=by rw[O.get _ ac hn2];exact hg2
  have hr3b:H3.get J=some (.cells [.bJ g cap] 0 true):=by rw[O.get _ hr1 ac];exact hr3
  have hF3:FrB base H H3:=hF2.trans O;have z:∀r,base<=r->r<V->H3.get r=H1.get r:=fun r h1 h2=>by rw[O.get r h1 ac];exact Z r h1 h2
  dsimp only[aC];repeat' (first
   |(apply aj ?_;clear hK K)|apply aV ?_|(apply cL ?_ ?_<;>(intro hg hgp;try(cases hg;done)))|(apply bz ?_ ?_<;>(intro hb hbp;try(cases hb;done)))|(apply am fun K hK=>?_)|fail)
  .all_goals refine qq ?_
   exact⟨by simp_all[pU],hF3.ef j,hi3',hr3b,z⟩
  have hl:x.args.length<2^60:=by have:=mY x.args;omega
  refine rK (fun i E m=>jz q x.args 0=jz q (x.args.drop i) 0/\E.at 2=.ptr J 0/\E.at 21=.az (x.args.map Ex.cells)/\E.at 22=.int .i64 x.args.length/\E.at 23=.int .i64 i/\FrB base H m/\I m/\m.get J=some (.cells [.bJ g cap] 0 true)/\(∀r,base<=r->r<V->m.get r=H1.get r)) x.args.length ?_ ?_
  .rintro i E H4 hi2 ⟨hc,h2,h21,h22,h23,hf4,hI4,hr4,Y⟩;have hn4:=hf4.next
   have e3:(J == H4.next)=false:=cb;repeat' (first
    |(apply aj ?_;clear hK K)|apply aV ?_|(apply bz ?_ ?_<;>(intro hb hbp;try(cases hb;done)))|(apply am fun K hK=>?_)|fail)
   .have U:i<x.args.length:=by simpa using hb
    have hgx:x.args[i]?=some x.args[i]:=bj U;refine cY fun K hK=>?_;have hxm:x.args[i]∈x.args:=dm U;have hsm:=n1 hxm;have hb4:base<=H4.next:=ac
    generalize hH5:(H4.alloc _).set H4.next _=H5
    have hf5:FrB base H4 H5:=by rw[<-hH5];exact((jA _ _).alloc _).set (.inl (ay _)) _
    have hlow5:jd base H4 H5:=by rw[<-hH5];exact((rO _ _).alloc hb4 _).set hb4 _
    have hn5:H4.next<H5.next:=by rw[<-hH5];simp only[aU,bq];omega
    refine qc ?_;refine aF ?_ (yM hwe hI hq (x.args[i].sz+1) x.args[i] ac 0 _ ac ac (hI _ _ hI4 hlow5));rintro v H6 ⟨rfl,hf6,hi6⟩;have hF6:FrB base H4 H6:=hf5.trans hf6;have hr6:H6.get J=some (.cells [.bJ g cap] 0 true):=by rw[hF6.get _ hr1 ac];exact hr4
    have C:∀r,base<=r->r<V->H6.get r=H1.get r:=fun r h1 h2=>by rw[hF6.get r h1 ac];exact Y r h1 h2
    dsimp only[aC];refine tz (fun hb hbp=>?_) (fun hb hbp=>?_)
    .all_goals refine qq ?_
     refine⟨?_,(hf4.trans hF6).ef j,hi6,hr6,C⟩;have:=DP q U 0;simp_all[pU]
    .refine⟨U,?_,eE,eE,eE,?_,hf4.trans hF6,hi6,hr6,C⟩
     .rw[hc,DP q U];simp_all
     .simp only[jY,Nat.reduceBEq,iY,gS (show i<2^62 by omega)]
   .have hi3:i=x.args.length:=by simp at hb;omega
    all_goals refine qq ?_
    refine⟨?_,hf4.ef j,hI4,hr4,Y⟩;rw[hi3]at hc;simp_all[pU,jz]
  .exact⟨rfl,eE,eE,eE,eE,hF3,hi3',hr3b,z⟩
 .all_goals refine qq ?_
  exact⟨by simp_all[pU],hF2.ef j,hi2,hr3,Z⟩
end
section
def tyW4d.tyF:=ad @dQ (ad @cr (ad @cK (ad @et (ad @dV (ad @dR (ad @dD (ad @jb (ad @eh (@MZ)))))))))
open tyW4d
structure zih (cfg:Cfg):Prop where
 we:zd0 cfg 122
 ws:zd0 cfg 116
 wx:zd0 cfg 118
 wx1:zd0 cfg 155
theorem Rk(V:zih cfg){base:Nat}(hI:vO base I){cap:qu}(hq:yL cfg base I g cap q)(x:Fu)(H:Hp)(hz:x.sz<2^60)(Z:base<=H.next)(hi:I H):
 aR prog cfg 118 [.agg x.cells,.bJ g cap] H fun v H'=>v=.bool (pV q x)/\FrB base H H'/\I H':=by
 have hw:=V.wx;have hsz:x.sz=1+x.name.length+cP x.params+cP x.ak+bi x.body+x.value.sz:=rfl;refine bp (M:=15) (rs:=[.tmp 4]) (hw.call _) hw.aG hw.aB func118 rfl rfl Rh.2 rfl ?_;dsimp only[Rh,bm,Nat.reduceAdd];refine Ch fun K hK=>?_;generalize Y:(H.alloc (.cells x.cells 0 true)).alloc (.cells [.bJ g cap] 0 true)=H1;have j:FrB base H H1:=by rw[<-Y];exact((jA _ _).alloc _).alloc _
 have hl1:jd base H H1:=by rw[<-Y];exact((rO _ _).alloc Z _).alloc cB _
 have hn1:H1.next=H.next+2:=vC
 have hga:H1.get H.next=some (.cells x.cells 0 true):=by rw[<-Y,aD,af (by simp[aU]),aD,ai rfl]
 have hgb:H1.get (H.next+1)=some (.cells [.bJ g cap] 0 true):=by rw[<-Y,aD,ai (by simp[aU])]
 refine qc ?_;refine aF ?_ (yM V.we hI hq (x.value.sz+1) x.value ac 0 H1 ac ac (hI _ _ hi hl1));rintro v z ⟨rfl,U,J⟩;have hn2:=U.next
 have hga2:z.get H.next=some (.cells x.cells 0 true):=by rw[U.get _ Z ac];exact hga
 have hgb2:z.get (H.next+1)=some (.cells [.bJ g cap] 0 true):=by rw[U.get _ ac ac];exact hgb
 dsimp only[aC];repeat' (first
  |(apply aj ?_;clear hK K)|apply aV ?_|(apply cL ?_ ?_<;>(intro hg hgp;try(cases hg;done)))|fail)
 .refine qc ?_;refine aF ?_ (yN V.ws (base:=H.next+2) (I:=fun(_:Unit) H'=>I H'/\H'.get (H.next+1)=some (.cells [.bJ g cap] 0 true)/\∀r,base<=r->r<H.next+2->H'.get r=z.get r) ?_ (zdj V.wx1 V.we ac hI hq ac ac z) (bi x.body+1) x.body ac 0 () z ac ac ⟨J,hgb2,fun _ _ _=>rfl⟩)
  .rintro v H3 ⟨rfl,C,hi3,hg3,m⟩;have hF3:FrB base z H3:=⟨C.next,fun r h1 h2=>by
    by_cases hr:r<H.next+2
    .exact m r h1 hr
    .exact C.get r ac h2⟩
   dsimp only[aC];refine GD ?_;all_goals refine qq ?_
   exact⟨by simp_all[pV],(j.trans U).trans hF3,hi3⟩
  .intro _ Ha Hb ⟨h1,h2,h3⟩ O;exact⟨hI _ _ h1 (O.ef ac),by rw[O _ ac];exact h2,fun r q1 q2=>by rw[O _ q2];exact h3 r q1 q2⟩
 .all_goals refine qq ?_
  exact⟨by simp_all[pV],j.trans U,J⟩
end
end Go.Proofs.YtpbcimfiofmoeaaGreat
