/- Parts: LoH, LoI, LoJ, W4a, W4b, W4c, W4d. -/
import Derived.Test.YtpbcimfiofmoeaaGreatMCM
set_option linter.unusedSimpArgs false
set_option linter.unusedVariables false
set_option linter.unusedSectionVars false
set_option linter.defProp false
set_option maxHeartbeats 32000000
namespace Go.Ab
set_option maxRecDepth 20000
open Go
theorem Qh{P:Prop}(h:P:=by rw[List.getD_eq_getElem?_getD,List.getElem?_eq_getElem C];exact List.getElem_mem C):P:=h
theorem Qi{P:Prop}(h:P:=by have:=R4.o5;dsimp only[Lx.nx]at this;omega):P:=h
theorem Qj{P:Prop}(h:P:=by have:=N7.sub k o;simp only[zk9]at this;omega):P:=h
theorem Qk{P:Prop}(h:P:=by simp only[zk1,Nat.reduceBEq, *];exact zni (n:=r.2.vars.length) ac ac):P:=h
theorem Qm{P:Prop}(h:P:=by simp only[zk1,Nat.reduceBEq, *];exact zni (n:=U.length) ac ac):P:=h
def D5:=@beq_self_eq_true
end Go.Ab
namespace Go.Proofs.YtpbcimfiofmoeaaGreat
set_option maxRecDepth 20000
open Go Go.Ab
section
def tyLoH.tyF:=ad @ec (ad @cJ (ad @Cv (ad @dd (ad @kW (ad @gX (ad @fI (ad @em (ad @en (ad @zms (ad @LU (ad @eY (ad @oR (ad @qO (ad @D2 (@Ay)))))))))))))))
open tyLoH
noncomputable def Qn:{c:SC // aC 181 (Tryz.f163.body.getD .skip)=c}:=by
 refine⟨?_,?_⟩;rotate_left
 .simp only[Tryz.f163,bI,aC,zll,zle,zlp,zln,Nat.blt,Nat.ble];rfl
abbrev tC(l:List Nat):List Int:=l.map fun(i:Nat)=>(i:Int)
theorem zgG{H:Hp}{r imm m:Nat}{b:List Bool}(K:H.get r=some (.cells (b.map .bool) imm true))(V:m<b.length):iN Tryz.prog H 4 (.ptr r m)=some (.bool (b.getD m false)):=by
 rw[ub Tryz.underlying4 rfl K,eS,dx,aT V];rfl
def wr(b:List Bool)(i:Nat):List Nat:=(List.range i).filter fun i=>b.getD i false
theorem znl(b:List Bool)(i:Nat):wr b (i+1)=wr b i++(if b.getD i false=true then [i]else []):=by
 unfold wr;rw[zH,List.filter_append]
 congr 1
 by_cases h:b.getD i false=true
 .rw[am h];simp only[List.filter_cons,h,dB,List.filter_nil]
 .rw[af h];simp only[List.filter_cons,h,List.filter_nil];rfl
theorem I4{b:List Bool}{i:Nat}(h:i∈zmV b):i<b.length:=by
 unfold zmV at h;exact lZ.1 (ua.1 h).1
theorem Qo(b:List Bool)(i:Nat):(wr b i).length<=i:=by
 have:=List.length_filter_le (fun i=>b.getD i false) (List.range i);rw[List.length_range]at this;exact this
theorem RowL.other{S:Nat->Prop}{vv:AV}{lo:Nat}{H H':Hp}{j m:AV}{l:List Int}(h:RowL S vv lo H j l)(J:H.next<=H'.next)(V:∀k,k<H.next->¬zlk m k->H'.get k=H.get k)(hd:∀k,zlk j k->¬zlk m k):RowL S vv lo H' j l:=⟨h.r.keep J fun k o=>V k (h.r.lt o).2 (hd k o),h.n⟩
theorem FrL.other{X:Lx}{m S:Nat->Prop}{J vv Z:AV}{zlv H H':Hp}(h:FrL X m J zlv S vv H)(V:H.next<=H'.next)(U:∀k,k<H.next->¬zlk Z k->H'.get k=H.get k)(O:∀k,zlk Z k->zlv.next<=k):FrL X m J zlv S vv H':=
 ⟨dc h.next V,fun k Y j z M K=>by rw[U k (mB Y h.next) fun e=>by have:=O k e;omega];exact h.get k Y j z M K,h.sub,h.own⟩
theorem RowL.app1{X:Lx}{S:Nat->Prop}{s:Bd}{Z vv:AV}{lo:Nat}{H:Hp}{m:AV}{l:List Int}(h:RowL S vv lo H m l)(V:RepL X H S s Z vv)(K:lo<=H.next)(x:Int)(U:X.b<lo)(M:l.length<2^39):
 ∃o H',zmc Tryz.prog false (H.alloc (.cells [.int .i64 x] 0 true)) 23 23 m (.sl H.next 0 1 1)=some (o,H')/\RowL S vv lo H' o (l++[x])/\RepL X H' S s Z vv/\H.next<=H'.next/\(∀k,k<H.next->¬zlk m k->H'.get k=H.get k)/\(∀k,zlk o k->zlk m k\/H.next<=k):=by
 obtain⟨o,H',J,O,I,_,a5,C,z,_⟩:=h.app (V.alloc (.cells [.int .i64 x] 0 true)) cL (dQ _) (fun k Y=>gk) x (r:=H.next) (imm:=0) gH U M;simp only[zk9]at a5 C z;exact⟨o,H',J,O,I,ac,fun k h1 j=>by rw[C k ac j,zkZ,af ac],fun k Y=>by
  rcases z k Y with e|e
  .exact .inl e
  .exact .inr ac⟩
theorem RowL.at{S:Nat->Prop}{vv:AV}{lo:Nat}{H:Hp}{j:AV}{l:List Int}(h:RowL S vv lo H j l){i:Nat}{x:Int}(I:l[i]?=some x):∃r,zlO Tryz.prog 23 j (.int .i64 (i:Int))=some (.ptr r i)/\iN Tryz.prog H 3 (.ptr r i)=some (.int .i64 x):=by
 have C:i<l.length:=by
  by_cases c:i<l.length
  .exact c
  .rw[lD ac]at I;cases I
 rcases h.r with⟨_,rfl⟩|Z
 .simp at C
 .obtain⟨r,z,Y⟩:=Z.at C;rw[aT C]at I;simp only[aL]at I;rw[I]at Y;exact⟨r,z,Y⟩
theorem Qp{L j:Nat}(V:L<2^36)(o:j<2^36):IntKind.wrap .i64 (16*(L:Int))=16*(L:Int)/\IntKind.wrap .i64 (16*(L:Int)+j)=16*(L:Int)+j/\IntKind.wrap .i64 (16*(L:Int)+j+1)=16*(L:Int)+1+j:=by
 refine⟨znj ac ac,znj ac ac,?_⟩;rw[znj ac ac];omega
theorem zwn(base:Int)(w:Nat)(ws:List Nat)(j:Nat)(s:Bd):jh base (w::ws) j s=jh base ws (j+1) { (zkW ⟨3,base+j,[]⟩ s).2 with vars:=(zkW ⟨3,base+j,[]⟩ s).2.vars.set w (zkW ⟨3,base+j,[]⟩ s).1}:=rfl
theorem I5(lp c:Int)(old:List Int)(w:Nat)(ws:List Nat)(j:Nat)(s:Bd):gL lp c old (w::ws) j s=gL lp c old ws (j+1) { (zlr c (zkW ⟨25,j,[lp]⟩ s).1 (old.getD w 0) (zkW ⟨25,j,[lp]⟩ s).2).2 with vars:=(zlr c (zkW ⟨25,j,[lp]⟩ s).1 (old.getD w 0) (zkW ⟨25,j,[lp]⟩ s).2).2.vars.set w (zlr c (zkW ⟨25,j,[lp]⟩ s).1 (old.getD w 0) (zkW ⟨25,j,[lp]⟩ s).2).1}:=rfl
theorem I6(c a b:Int)(s:Bd)(v:List Int):zlr c a b {s with vars:=v}=((zlr c a b s).1,{ (zlr c a b s).2 with vars:=v}):=by
 unfold zlr;split<;>rfl
theorem Qq(lp c:Int)(old:List Int):∀(U:List Nat) (j:Nat) (s:Bd) (v w:List Int),v.length=w.length->(∀i,i∉U->v[i]?=w[i]?)->gL lp c old U j {s with vars:=v}=gL lp c old U j {s with vars:=w}
 |[],j,s,v,w,hl,h=>by
  have:v=w:=GD fun i=>h i DJ;rw[this]
 |a::U,j,s,v,w,hl,h=>by
  rw[I5,I5];have p:∀v,zkW ⟨25,j,[lp]⟩ {s with vars:=v}=((zkW ⟨25,j,[lp]⟩ s).1,{ (zkW ⟨25,j,[lp]⟩ s).2 with vars:=v}):=fun v=>rfl;rw[p v,p w];simp only[];rw[I6 c _ _ (zkW ⟨25,j,[lp]⟩ s).2 v,I6 c _ _ (zkW ⟨25,j,[lp]⟩ s).2 w];refine Qq lp c old U (j+1) (zlr c (zkW ⟨25,j,[lp]⟩ s).1 (old.getD a 0) (zkW ⟨25,j,[lp]⟩ s).2).2 (v.set a (zlr c (zkW ⟨25,j,[lp]⟩ s).1 (old.getD a 0) (zkW ⟨25,j,[lp]⟩ s).2).1) (w.set a (zlr c (zkW ⟨25,j,[lp]⟩ s).1 (old.getD a 0) (zkW ⟨25,j,[lp]⟩ s).2).1) (by rw[jd,jd,hl]) fun i I=>?_;rw[oJ,oJ,hl];by_cases e:a=i
  .rw[am e,am e]
  .rw[af e,af e];exact h i (by rw[fX,not_or];exact⟨fun q=>e q.symm,I⟩)
theorem znm(b:List Bool):(zmV b).Nodup:=List.nodup_range.filter _
section
variable {tb:List En} (hG:LowT tb) {X:Lx} {c:Cx} (hX:CxOk X c) {x:St} {s:Bd} {H:Hp} {S:Nat -> Prop} {lv vv:AV}
set_option maxRecDepth 100000 in
set_option maxHeartbeats 8000000 in
include hG hX in
theorem lwh{n:Nat}(IH:D4 tb X c n){r:Int×Bd}{b:List Bool}{t:Bd}{d:Int×Bd}(h1:fu c n x.value {s with loops:=s.loops+1}=some r)(h2:gU c.names n x.thn (List.replicate r.2.vars.length false)=some b)
 (h3:gE c n x.thn (jh (16*(s.loops:Int)+1) (zmV b) 0 { (zkW ⟨3,16*(s.loops:Int),[]⟩ r.2).2 with state:=(zkW ⟨3,16*(s.loops:Int),[]⟩ r.2).1})=some t) (h4:fu c n x.value t=some d)
 {k:Int×Bd} (o:zkW ⟨31,s.loops,r.2.state::((zmV b).map fun i=>r.2.vars.getD i 0)++[d.1,d.2.state]++((zmV b).map fun i=>d.2.vars.getD i 0)⟩ d.2=k)
 {m:Int×Bd} (hm:zlr r.1 (zkW ⟨25,0,[k.1]⟩ {k.2 with vars:=r.2.vars}).1 r.2.state (zkW ⟨25,0,[k.1]⟩ {k.2 with vars:=r.2.vars}).2=m)
 (hF:Fin (gL k.1 r.1 r.2.vars (zmV b) 1 {m.2 with state:=m.1})) (hz:x.sz<2^36) (hvl:s.vars.length<2^36) (hout:∀i,i∉zmV b->d.2.vars[i]?=r.2.vars[i]?) (hR:RepL X H S s lv vv) :
 zk5 Tryz.prog (zkY pls tb) 163 [.ptr X.b 0,.agg x.cells] H (pp X S vv H (gL k.1 r.1 r.2.vars (zmV b) 1 {m.2 with state:=m.1})):=by
 have hw:Plain (zkY pls tb) 163:=hG.plain dT;have hkeep:(zkY pls tb).keep 163=false:=rfl;have R1:=hR.alloc (.cells x.cells 0 true);have F1:=(cY X S vv H).alloc (.cells x.cells 0 true);have hmm:m=((zlr r.1 (zkW ⟨25,0,[k.1]⟩ k.2).1 r.2.state (zkW ⟨25,0,[k.1]⟩ k.2).2).1,{ (zlr r.1 (zkW ⟨25,0,[k.1]⟩ k.2).1 r.2.state (zkW ⟨25,0,[k.1]⟩ k.2).2).2 with vars:=r.2.vars}):=by
  rw[<-hm];exact I6 _ _ _ (zkW ⟨25,0,[k.1]⟩ k.2).2 r.2.vars
 have hdl0:d.2.vars.length=r.2.vars.length:=by
  rw[(zmp c n _ _ _ h4).v,((nA c n).2.1 _ _ _ h3).2,(tu _ _ _ _).2.2.1];rfl
 generalize hm':zlr r.1 (zkW ⟨25,0,[k.1]⟩ k.2).1 r.2.state (zkW ⟨25,0,[k.1]⟩ k.2).2=m' at hmm;have hm'v:m'.2.vars=d.2.vars:=by rw[<-hm',(zm0 _ _ _ _).v,<-o];rfl
 have hspec:gL k.1 r.1 r.2.vars (zmV b) 1 {m.2 with state:=m.1}=gL k.1 r.1 r.2.vars (zmV b) 1 {m'.2 with state:=m'.1}:=by
  have h:=Qq k.1 r.1 r.2.vars (zmV b) 1 {m'.2 with state:=m'.1} r.2.vars d.2.vars hdl0.symm (fun i hi=>(hout i hi).symm);rw[hmm];rw[<-hm'v]at h;exact h
 rw[hspec]at hF⊢;clear hspec hmm hm m hout;have hFm':Fin m'.2:=hF.le ⟨(uE _ _ _ _ _ {m'.2 with state:=m'.1}).1.l,(uE _ _ _ _ _ {m'.2 with state:=m'.1}).1.n⟩;have hFf':Fin (zkW ⟨25,0,[k.1]⟩ k.2).2:=by rw[<-hm']at hFm';exact hFm'.le (zm0 _ _ _ _).le
 have hFk:Fin k.2:=hFf'.le (zmh _ _).le;have hFd:Fin d.2:=by rw[<-o]at hFk;exact hFk.le (zmh _ _).le
 have hFt:Fin t:=hFd.le (zmp c n _ _ _ h4).le;have e3:=(nA c n).2.1 _ _ _ h3;have hFl:=hFt.le e3.1;have hFp:Fin (zkW ⟨3,16*(s.loops:Int),[]⟩ r.2).2:=hFl.le ⟨(tu _ _ _ { (zkW ⟨3,16*(s.loops:Int),[]⟩ r.2).2 with state:=(zkW ⟨3,16*(s.loops:Int),[]⟩ r.2).1}).1.l,(tu _ _ _ { (zkW ⟨3,16*(s.loops:Int),[]⟩ r.2).2 with state:=(zkW ⟨3,16*(s.loops:Int),[]⟩ r.2).1}).1.n⟩;have hFr:Fin r.2:=hFp.le (zmh _ _).le;have hlv:=zmp c n _ _ _ h1;have hrl:r.2.vars.length<2^36:=by rw[hlv.v];exact hvl
 have hln:s.loops<2^36:=wl (dQ _) (by have:=hFr.n;rw[hlv.n]at this;exact this);have hbl:b.length=r.2.vars.length:=by rw[xU _ _ _ _ _ h2,qU]
 have hdl:d.2.vars.length=r.2.vars.length:=by
  rw[(zmp c n _ _ _ h4).v,e3.2,(tu _ _ _ _).2.2.1];rfl
 have hsz:=x.sz_eq;have o3:=hR.o3;have o4:=hR.o4;have o5:=hR.o5;clear hlv e3;have zlH:=R1.m;obtain⟨R1s,F1s⟩:=R1.setN (s.loops+1);have m1s:=R1s.m;have g1s:=gg hR F1s;have eL1:IntKind.wrap .i64 ((s.loops:Int)+1)=((s.loops+1:Nat):Int):=zm3 ac;have F01:=F1.trans F1s;dsimp only[zlB]at zlH m1s R1s F1s g1s F01;refine zlf (M:=181) (rs:=[]) (hw.call _) hw.ice hw.froz Tryz.func163 rfl rfl Qn.2 rfl ?_;dsimp only[Qn,zD,Nat.reduceAdd];repeat' (first
  |(apply ah ?_;clear hK K)|apply Rx.o ?_|apply bS ?_|apply ak ?_|(apply zkU fun K hK=>?_)|fail)
 refine aZ rfl bc bi ?_;simp only[bj];refine aS ?_ (rZ hG hX n x.value _ r h1 hFr R1s (cY _ _ _ _));rintro w I ⟨rfl,S2,lv2,R2,F2⟩;have F02:=F1s.trans F2;have g2:=gg hR F02;have m2:=R2.m;have n2:H.next+1<=I.next:=F02.next
 have hl2:=R2.vars.n.len';have hmk:∀H:Hp,znz Tryz.prog H 84 (.int .i64 r.2.vars.length) (.int .i64 r.2.vars.length)=some (.sl H.next 0 r.2.vars.length 1,H.alloc (.cells ((List.replicate r.2.vars.length false).map .bool) 0 true)):=fun H=>zdA _ ac;have nw2:=R2.new (aB _);have R3:=R2.alloc (.cells ((List.replicate r.2.vars.length false).map .bool) 0 true);have g3:(I.alloc (.cells ((List.replicate r.2.vars.length false).map .bool) 0 true)).get H.next=some (.cells x.cells 0 true):=by rw[zkZ,af ac];exact g2
 clear R1 R1s zlH m1s g1s;dsimp only[zlB]at m2;dsimp only[zk6];repeat' (first
  |(apply ah ?_;clear hK K)|apply Rx.o ?_|apply ak ?_|(apply zkU fun K hK=>?_)|fail)
 refine aZ rfl bc bi ?_;simp only[bj];have hrep:(List.replicate r.2.vars.length false).length=r.2.vars.length:=qU;have hasg:=I2 hG hX (n+1) n (cE _) x.thn _ b h2 ac R3 (q:=I.next) gH nw2.2.2 (cE _) nw2.1 nw2.2.1;rw[hrep]at hasg;refine aS ?_ hasg;clear hasg;rintro w H3 ⟨gb3,n3,q3⟩;simp only[zk9]at n3 q3;have hq3:∀k,k<I.next->H3.get k=I.get k:=fun k o=>by rw[q3 k ac ac,zkZ,af ac]
 have R4:RepL X H3 S2 r.2 lv2 vv:=R2.keep ac fun k o _=>hq3 k o;have F03:FrL X S vv (H.alloc (.cells x.cells 0 true)) S2 vv H3:=F02.trans ⟨ac,fun k o _ _ _ _=>hq3 k o,fun _ h=>.inl h,fun _ h=>.inl h⟩;clear q3 R3 g3;dsimp only[zk6];repeat' (first
  |(apply ah ?_;clear hK K)|apply Rx.o ?_|apply ak ?_|(apply zkU fun K hK=>?_)|apply aG ?_|fail)
 refine zlL [0,3,4,5,6,46] [] 47 r.2.vars.length (fun i E Hi=>∃a,E.at 7=a/\gZ Hi a (tC (wr b i)) (I.next+1)/\Sm (I.next+1) H3 Hi) eE ⟨.nilS,eE,.inl ⟨rfl,rfl⟩,⟨fun _ _=>rfl⟩⟩ ?_;rintro i E Hi hi hcE hrH hnH hsI ⟨a,k7,ha,hsm⟩;(try simp only[zlm,zlb,aR,zk1,zk7,Nat.reduceBEq, *]at hcE);(try simp only[zlb, *]at hrH);(try simp only[zk9,zli,zlI,bL,Nat.reduceAdd]at hnH);by_cases C:i<r.2.vars.length
 .have hlt':(i:Int)<r.2.vars.length:=by omega
  have gbi:Hi.get I.next=some (.cells (b.map .bool) 0 true):=by rw[hsm.get _ ac];exact gb3
  have hix:=Qe (q:=I.next) C;have hld:=zgG gbi (m:=i) ac;have hws:=znl b i;have hwl:=Qo b i;cases hbi:b.getD i false with
  |true=>
   rw[hbi]at hld;rw[hbi,am rfl]at hws;obtain⟨v5,H5,a5,s5,n5,f5,o5'⟩:=Hu (H:=Hi.alloc (.cells [.int .i64 (i:Int)] 0 true)) (i:Int) (ha.keep (H':=Hi.alloc (.cells [.int .i64 (i:Int)] 0 true)) (dQ _) fun k o=>by rw[zkZ,af (by have:=(ha.lt o).2;omega)]) cL (r:=Hi.next) (imm:=0) gH (by simp only[cp];omega);have n5':Hi.next<=H5.next:=zR
   repeat' (first
    |(apply ah ?_;clear hK K)|apply Ry.o ?_|(apply bb (fun z Y=>?_) (fun z Y=>?_)<;>try(cases z;done))|apply ak ?_|(apply zkU fun K hK=>?_)|apply aG ?_|apply zk3 ?_|fail)
   refine⟨ac,zk8,zk8,zlF,Qk,?_⟩;exact⟨v5,eE,.inr (by rw[hws];simpa using s5),⟨fun k o=>by rw[f5 k o,zkZ,af ac];exact hsm.get k o⟩⟩
  |false=>
   rw[hbi]at hld;rw[hbi,af ax,bj]at hws;repeat' (first
    |(apply ah ?_;clear hK K)|apply Ry.o ?_|(apply bb (fun z Y=>?_) (fun z Y=>?_)<;>try(cases z;done))|apply ak ?_|(apply zkU fun K hK=>?_)|apply aG ?_|apply zk3 ?_|fail)
   refine⟨ac,zk8,zk8,zlF,Qk,?_⟩;exact⟨a,eE,by rw[hws];exact ha,hsm⟩
 .have hlt':¬(i:Int)<r.2.vars.length:=by omega
  have hie:wr b i=zmV b:=by rw[zmV,hbl,show i=r.2.vars.length by omega];rfl
  rw[hie]at ha;have hwm:∀j∈zmV b,j<r.2.vars.length:=fun j hj=>by have:=I4 hj;omega
  have hwl:(zmV b).length<2^36:=by have:=Qo b b.length;have e:wr b b.length=zmV b:=rfl;rw[e]at this;omega
  have hnd:=znm b;generalize zmV b=U at *;clear hie gb3 h2 hbl;have hi3:∀k,k<I.next+1->Hi.get k=H3.get k:=hsm.get
  have Ri:RepL X Hi S2 r.2 lv2 vv:=R4.keep hnH fun k o h=>by
   refine hi3 k ?_;rcases h with h|h|h
   .have:=nw2.2.2;omega
   .have:=(R2.sS k h).2.1;omega
   .have:=(R2.vS k h).2;omega
  have W:RowL S2 vv (I.next+1) Hi a (tC U):=⟨ha,fun k o=>by
   have:=R2.new (r:=k) (by have:=(ha.lt o).1;omega);exact⟨this.1,this.2.1⟩⟩
  have Fi:FrL X S vv (H.alloc (.cells x.cells 0 true)) S2 vv Hi:=F02.trans ⟨ac,fun k o _ _ _ _=>by rw[hi3 k ac];exact hq3 k o,fun _ h=>.inl h,fun _ h=>.inl h⟩;have gi:=gg hR Fi;have mi:=Ri.m;have ni:H.next+1<=Hi.next:=Fi.next
  clear hsm R4 F03 F02 hi3 ha nw2 hq3 R2 m2 g2;have ew:=(Qp hln (j:=0) ac).1;have Rb:=Ri.alloc (.cells [.int .i64 r.2.state] 0 true);have Fb:=Fi.alloc (.cells [.int .i64 r.2.state] 0 true);have gb:=gg hR Fb;dsimp only[zlB]at mi;repeat' (first
   |(apply ah ?_;clear hK K)|apply Ry.o ?_|(apply bb (fun z Y=>?_) (fun z Y=>?_)<;>try(cases z;done))|apply ak ?_|(apply zkU fun K hK=>?_)|apply zlu ?_)
  refine aZ rfl bc bi ?_;simp only[bj];refine aS ?_ (Ax hG Rb (cY _ _ _ _) 3 (16*(s.loops:Int)) hFp);generalize hp:zkW ⟨3,16*(s.loops:Int),[]⟩ r.2=p at *;have hpv:p.2.vars=r.2.vars:=by rw[<-hp];rfl
  rintro w H5 ⟨rfl,S5,lv5,R5,F5⟩;have W5:RowL S5 vv (I.next+1) H5 a (tC U):=RowL.fr (X:=X) (H:=Hi.alloc (.cells [.int .i64 r.2.state] 0 true)) ⟨W.r.keep (dQ _) fun k o=>by rw[zkZ,af (by have:=(W.r.lt o).2;omega)],W.n⟩ ac ac F5;have V5:RowL S5 vv (I.next+1) H5 (.sl Hi.next 0 1 1) [r.2.state]:=RowL.fr (X:=X) (H:=Hi.alloc (.cells [.int .i64 r.2.state] 0 true)) (S:=S2) (vv:=vv) ⟨.inr ⟨Hi.next,0,rfl,iT,dm _,ac,cE _⟩,fun k o=>by
   have:=Ri.new (r:=k) (by rw[xR o];exact aB _);exact⟨this.1,this.2.1⟩⟩ ac ac F5
  have d5:∀k,zlk a k->¬zlk (.sl Hi.next 0 1 1) k:=fun k h1 h2=>by
   have:=(W.r.lt h1).2;rw[xR h2]at this;omega
  have m5:=R5.m;obtain⟨R6,F6⟩:=R5.setS p.1;have F06:=Fb.trans (F5.trans F6);have W6:=W5.fr (X:=X) ac ac F6;have V6:=V5.fr (X:=X) ac ac F6;have l6:=fun H'=>W5.r.len' (H':=H');have g6:=gg hR F06;have n6:I.next+1<=H5.next:=by have:=F5.next;simp only[zk9]at this;omega
  clear R5 F5 Rb gb W5 V5 Ri W gi mi Fi Fb;dsimp only[zlB]at m5 R6 F06 W6 V6 g6;rw[cp]at l6;dsimp only[zk6];repeat' (first
   |(apply ah ?_;clear hK K)|apply Rx.o ?_|apply bS ?_|apply ak ?_|(apply zkU fun K hK=>?_)|apply aG ?_|fail)
  have hdl1:∀j,j<U.length->r.2.vars[U.getD j 0]?=some (r.2.vars.getD (U.getD j 0) 0):=fun j hj=>by
   have:U.getD j 0<r.2.vars.length:=hwm _ (by rw[dx,aT hj];exact cR hj);generalize U.getD j 0=q at *;rw[dx,aT this];rfl
  have haw:∀j,j<U.length->(tC U)[j]?=some ((U.getD j 0:Nat):Int):=fun j hj=>by
   rw[eS,dx,aT hj];rfl
  have hdr:∀j,j<U.length->U.drop j=U.getD j 0::U.drop (j+1):=fun j hj=>by rw[fS hj,dx,aT hj];rfl
  have htk:∀j,j<U.length->U.take (j+1)=U.take j++[U.getD j 0]:=fun j hj=>by rw[oI,dx,aT hj];rfl
  have hnt:∀j,j<U.length->U.getD j 0∉U.take j:=fun j hj hm=>by
   have h:=hnd;rw[<-FA j U,hdr j hj,List.nodup_append]at h;exact h.2.2 _ hm _ ee rfl
  refine zlL [0,3,4,5,7,71,72] [] 73 U.length (fun j E Hj=>∃wv J Sj lvj,E.at 9=wv/\jh (16*(s.loops:Int)+1) (U.drop j) j J=jh (16*(s.loops:Int)+1) U 0 {p.2 with state:=p.1} /\ J.loops=r.2.loops/\J.vars.length=r.2.vars.length/\(∀i,i∉U.take j->J.vars[i]?=r.2.vars[i]?)/\RepL X Hj Sj J lvj vv/\FrL X S vv (H.alloc (.cells x.cells 0 true)) Sj vv Hj/\RowL Sj vv (I.next+1) Hj a (tC U)/\RowL Sj vv (I.next+1) Hj wv (r.2.state::(U.take j).map fun i=>r.2.vars.getD i 0)/\∀k,zlk a k->¬zlk wv k) eE ⟨_,_,S5,lv5,eE,by rw[fH],by rw[<-hp];rfl,by rw[<-hp];rfl,fun i _=>by rw[<-hp];rfl,R6,F06,W6,V6,d5⟩ ?_;clear R6 F06 W6 V6 d5 m5 g6;rintro j E Hj hj hcE hrH hnH hsI ⟨wv,J,Sj,lvj,k9,hJ,hjl,hjv,hjo,Rj,Fj,Aj,Wj,dj⟩;(try simp only[zlm,zlb,aR,zk1,zk7,Nat.reduceBEq, *]at hcE);(try simp only[zlb,zk7, *]at hrH);(try simp only[zli,]at hnH);have mj:=Rj.m;dsimp only[zlB]at mj;have nj:I.next+1<=Hj.next:=dc n6 hnH
  by_cases C:j<U.length
  .have hlt':(j:Int)<U.length:=by omega
   have hwj:=haw j C;have hvj:=hdl1 j C;have hnj:=hnt j C;have htj:=htk j C;have hwl1:U.getD j 0<J.vars.length:=by rw[hjv];exact hwm _ Qh
   rw[hdr j C]at hJ;rw[zwn]at hJ;rw[<-hjo _ hnj]at hvj;rw[htj];generalize U.getD j 0=w at *;generalize hy:r.2.vars.getD w 0=y at *;obtain⟨qa,ixa,lda⟩:=Aj.at hwj;obtain⟨qv,ixv,ldv⟩:=Rj.atV hvj;obtain⟨e1,e2,e3⟩:=Qp hln (j:=j) ac;obtain⟨v',H',a1,W',R',n',q',own'⟩:=Wj.app1 Rj nj y ac (by simp only[eK,cp,j6];omega);have A':=Aj.other n' q' dj;have F':=Fj.other n' q' (fun k o=>by have:=(Wj.r.lt o).1;simp only[zk9];omega);have d':∀k,zlk a k->¬zlk v' k:=fun k h1 h2=>by
    rcases own' k h2 with e|e
    .exact dj k h1 e
    .have:=(Aj.r.lt h1).2;omega
   have m':=R'.m;have hFx:Fin (zkW ⟨3,16*(s.loops:Int)+1+j,[]⟩ J).2:=hFl.le (by rw[<-hJ];exact((qp _).setV _).trans (tu _ _ _ _).1);have O:=Ax hG R' (cY _ _ _ _) 3 (16*(s.loops:Int)+1+j) hFx;dsimp only[zlB]at m';clear dj Aj Wj q' own' Rj hvj;repeat' (first
    |(apply ah ?_;clear hK K)|apply Ry.o ?_|(apply bb (fun z Y=>?_) (fun z Y=>?_)<;>try(cases z;done))|apply ak ?_|(apply zkU fun K hK=>?_)|(apply zmm 19 [(3,11),(3,13)] fun K hK=>?_)|(apply zlC ?_;try intro _)|apply bZ ?_|apply aG ?_|apply zk3 ?_|fail)
   refine aZ rfl bc bi ?_;simp only[iw];refine aS ?_ O;generalize hpu:zkW ⟨3,16*(s.loops:Int)+1+j,[]⟩ J=pu at *;have hpuv:pu.2.vars=J.vars:=by rw[<-hpu];rfl
   have hpul:pu.2.loops=J.loops:=by rw[<-hpu];rfl
   have hwl2:w<pu.2.vars.length:=by rw[hpuv];exact hwl1
   rintro u H7 ⟨rfl,S7,lv7,R7,F7⟩;obtain⟨q',V,hld',H8,hst,hq1,hq2,hq3,R8,F8,o8,n8⟩:=R7.setV hwl2 pu.1;have hqq:q'=qv:=by
    rw[ixv]at V;simp only[aL,AV.ptr.injEq]at V;exact V.1.symm
   subst hqq;have A8:=(A'.fr (X:=X) ac ac F7).fr (X:=X) ac ac F8;have W8:=(W'.fr (X:=X) ac ac F7).fr (X:=X) ac ac F8;have F08:=F'.trans (F7.trans F8);have m7:=R7.m;have m8:=R8.m;have n7:=F7.next
   have nj8:Hj.next<=H8.next:=ac
   have hjv':(pu.2.vars.set w pu.1).length=r.2.vars.length:=by rw[jd,hpuv];exact hjv
   have hjo':∀i,i∉U.take j++[w]->(pu.2.vars.set w pu.1)[i]?=r.2.vars[i]?:=fun i hi=>by
    rw[mX,not_or,Iu]at hi;rw[oJ,af (fun e=>hi.2 e.symm),hpuv];exact hjo i hi.1
   have hjl':pu.2.loops=r.2.loops:=by rw[hpul];exact hjl
   have hmap:(r.2.state::(U.take j).map fun i=>r.2.vars.getD i 0)++[y]=r.2.state::(U.take j++[w]).map fun i=>r.2.vars.getD i 0:=by rw[l0,dM,mh,hy];rfl
   rw[hmap]at W8;clear hpuv hpul hmap hjo hjv hjl V A' W' F' hpu hld';dsimp only[zlB]at m7 m8;dsimp only[zk6];repeat' (first
    |(apply ah ?_;clear hK K)|apply Rx.o ?_|apply bS ?_|(apply zkU fun K hK=>?_)|(apply zlC ?_;try intro _)|(apply zmk ?_ ?_<;>clear hK K)|apply bZ ?_|apply zmK rfl ?_|fail)
   .exact zlU
   .refine⟨ac,zk8,zk8,zlF,Qm,?_⟩;exact⟨v',_,S7,lv7,eE,hJ,hjl',hjv',hjo',R8,F08,A8,W8,d'⟩
  .have hlt':¬(j:Int)<U.length:=by omega
   have hd:U.drop j=[]:=rb ac;have ht:U.take j=U:=gl ac;rw[hd]at hJ;rw[ht]at Wj;have hJ:J=jh (16*(s.loops:Int)+1) U 0 {p.2 with state:=p.1}:=hJ;rw[<-hJ]at hFl h3;have gj:=gg hR Fj;have nj2:H.next+1<=Hj.next:=Fj.next
   clear hJ hd ht hjo;repeat' (first
    |(apply ah ?_;clear hK K)|apply Ry.o ?_|(apply bb (fun z Y=>?_) (fun z Y=>?_)<;>try(cases z;done))|apply ak ?_|(apply zkU fun K hK=>?_)|apply zlu ?_)
   refine aZ rfl bc bi ?_;simp only[bj];refine aS ?_ (IH x.thn J t h3 hFt ac ac Rj);rintro u H6 ⟨S6,lv6,Z,R6,F6⟩;have A6:=Aj.fr (X:=X) ac ac F6;have W6:=Wj.fr (X:=X) ac ac F6;have F06:=Fj.trans F6;have nj6:I.next+1<=H6.next:=dc nj F6.next
   have g6:=gg hR F06;clear Rj Fj Aj Wj F6 gj mj;dsimp only[zk6];repeat' (first
    |(apply ah ?_;clear hK K)|apply Rx.o ?_|apply ak ?_|(apply zkU fun K hK=>?_)|fail)
   refine aZ rfl bc bi ?_;simp only[bj];refine aS ?_ (rZ hG hX n x.value t d h4 hFd R6 (cY _ _ _ _));rintro u H7 ⟨rfl,S7,lv7,R7,F7⟩;have A7:=A6.fr (X:=X) ac ac F7;have W7:=W6.fr (X:=X) ac ac F7;have F07:=F06.trans F7;have m7:=R7.m;have n7:H.next+1<=H7.next:=F07.next
   have nj7:I.next+1<=H7.next:=dc nj6 F7.next
   clear R6 F06 A6 W6 F7 g6;dsimp only[zlB]at m7;dsimp only[zk6];have Rs:=R7.alloc (.cells [.int .i64 d.1,.int .i64 d.2.state] 0 true);have Ws:RowL S7 Z (I.next+1) (H7.alloc (.cells [.int .i64 d.1,.int .i64 d.2.state] 0 true)) wv (r.2.state::U.map fun i=>r.2.vars.getD i 0):=⟨W7.r.keep (dQ _) fun k o=>by rw[zkZ,af (by have:=(W7.r.lt o).2;omega)],W7.n⟩;have hwlen:(r.2.state::U.map fun i=>r.2.vars.getD i 0).length<2^37:=by simp only[eK,cp];omega
   obtain⟨cv,H8,a8,c8,n8,q8⟩:=Qg Ws.r ac;simp only[zk9]at c8 n8 q8;have c8b:gC H8 cv (r.2.state::U.map fun i=>r.2.vars.getD i 0) (H7.next+1):=by
    rcases c8 with⟨_,h⟩|h
    .simp at h
    .exact h.b
   have g8s:H8.get H7.next=some (.cells [.int .i64 d.1,.int .i64 d.2.state] 0 true):=by rw[q8 _ ac,zkZ,am rfl]
   obtain⟨kv,H9,a9,c9,n9,l9,f9,o9⟩:=MP (m:=[d.1,d.2.state]) (w:=.sl H7.next 0 2 1) (lo':=0) c8b n8 (.inr ⟨H7.next,0,rfl,g8s,ax,dm _,ac⟩) (by simp only[mU]at hwlen⊢;omega);have hq9:∀k,k<H7.next->H9.get k=H7.get k:=fun k o=>by rw[l9 k ac,q8 k ac,zkZ,af ac]
   have n79:H7.next<=H9.next:=ac
   have R9:RepL X H9 S7 d.2 lv7 Z:=R7.keep n79 fun k h _=>hq9 k h;have F9:FrL X S7 Z H7 S7 Z H9:=⟨n79,fun k h _ _ _ _=>hq9 k h,fun _ h=>.inl h,fun _ h=>.inl h⟩;have A9:=A7.fr (X:=X) ac ac F9;have W9:=W7.fr (X:=X) ac ac F9;have K9:RowL S7 Z (I.next+1) H9 kv (r.2.state::(U.map fun i=>r.2.vars.getD i 0)++[d.1,d.2.state]):=⟨.inr (by obtain⟨zlE,i0,z1,z2,z3,z4,z5⟩:=c9;exact⟨zlE,i0,z1,z2,z3,ac,z5⟩),fun k o=>by
    have:=R7.new (r:=k) (by have:=(c9.lt o).1;omega);exact⟨this.1,this.2.1⟩⟩
   have dA9:∀k,zlk a k->¬zlk kv k:=fun k h1 h2=>by have:=(A7.r.lt h1).2;have:=(c9.lt h2).1;omega
   have dW9:∀k,zlk wv k->¬zlk kv k:=fun k h1 h2=>by have:=(W7.r.lt h1).2;have:=(c9.lt h2).1;omega
   have F09:=F07.trans F9;have m9:=R9.m;have l9a:=fun H'=>A9.r.len' (H':=H');rw[cp]at l9a;dsimp only[zlB]at m9;have ms:=Rs.m;have m8x:=ms;rw[<-q8 _ (by have:=R7.o5;omega)]at m8x;dsimp only[zlB]at ms m8x;clear R7 F07 A7 W7 F9 Rs Ws hq9;repeat' (first
    |(apply ah ?_;clear hK K)|apply Rx.o ?_|apply ak ?_|(apply zkU fun K hK=>?_)|(apply Rx.dP 23 [0,2,3,4,5,6,7,1,8,9] [(5,7),(5,8),(6,7),(6,8)] fun K hK=>?_)|(apply zlC ?_;try intro _)|(apply zmk ?_ ?_<;>clear hK K)|apply bZ ?_|apply aG ?_|fail)
   .exact zlU
   .clear a8 a9 c8 c8b g8s l9 f9 o9 q8 hwlen c9;have hdv:∀w,w<r.2.vars.length->d.2.vars[w]?=some (d.2.vars.getD w 0):=fun w hw=>by
     rw[dx,aT ac];rfl
    have hwj0:∀j,j<U.length->U.getD j 0<r.2.vars.length:=fun j C=>hwm _ Qh;refine zlL [0,4,5,7,9,119,120] [] 121 U.length (fun j E Hj=>∃kj,E.at 13=kj/\RepL X Hj S7 d.2 lv7 Z/\FrL X S vv (H.alloc (.cells x.cells 0 true)) S7 Z Hj/\RowL S7 Z (I.next+1) Hj a (tC U)/\RowL S7 Z (I.next+1) Hj wv (r.2.state::U.map fun i=>r.2.vars.getD i 0)/\RowL S7 Z (I.next+1) Hj kj (r.2.state::(U.map fun i=>r.2.vars.getD i 0)++[d.1,d.2.state]++((U.take j).map fun i=>d.2.vars.getD i 0))/\(∀k,zlk a k->¬zlk kj k)/\∀k,zlk wv k->¬zlk kj k) eE ⟨kv,eE,R9,F09,A9,W9,by rw[xF,mh,bj];exact K9,dA9,dW9⟩ ?_;clear R9 F09 A9 W9 K9 dA9 dW9 m9;rintro j E Hj hj hcE hrH hnH hsI ⟨kj,k13,Rj,Fj,Aj,Wj,Kj,dAj,dWj⟩;(try simp only[zlm,zlb,aR,zk1,zk7,Nat.reduceBEq, *]at hcE);(try simp only[zlb, *]at hrH);(try simp only[zk9,zli,zlI,bL,Nat.reduceAdd]at hnH);have mj:=Rj.m;dsimp only[zlB]at mj;have nj:I.next+1<=Hj.next:=ac
    by_cases C:j<U.length
    .have hlt':(j:Int)<U.length:=by omega
     have hwj:=haw j C;have hvj:=hdv _ (hwj0 j C);have htj:=htk j C;rw[htj];generalize U.getD j 0=w at *;generalize hy:d.2.vars.getD w 0=y at *;obtain⟨qa,ixa,lda⟩:=Aj.at hwj;obtain⟨qv,ixv,ldv⟩:=Rj.atV hvj;obtain⟨v',H',a1,K',R',n',q',own'⟩:=Kj.app1 Rj nj y ac (by simp only[fj,eK,cp,j6,eW];omega);have A':=Aj.other n' q' dAj;have W':=Wj.other n' q' dWj;have F':=Fj.other n' q' (fun k o=>by have:=(Kj.r.lt o).1;simp only[zk9];omega);have dA':∀k,zlk a k->¬zlk v' k:=fun k h1 h2=>by
      rcases own' k h2 with e|e
      .exact dAj k h1 e
      .have:=(Aj.r.lt h1).2;omega
     have dW':∀k,zlk wv k->¬zlk v' k:=fun k h1 h2=>by
      rcases own' k h2 with e|e
      .exact dWj k h1 e
      .have:=(Wj.r.lt h1).2;omega
     have hmap:(r.2.state::(U.map fun i=>r.2.vars.getD i 0)++[d.1,d.2.state]++((U.take j).map fun i=>d.2.vars.getD i 0))++[y]=r.2.state::(U.map fun i=>r.2.vars.getD i 0)++[d.1,d.2.state]++((U.take j++[w]).map fun i=>d.2.vars.getD i 0):=by rw[l0,dM,mh,hy];simp
     rw[hmap]at K';clear hmap dAj dWj Aj Wj Kj q' own' Rj hvj;repeat' (first
      |(apply ah ?_;clear hK K)|apply Ry.o ?_|(apply bb (fun z Y=>?_) (fun z Y=>?_)<;>try(cases z;done))|apply ak ?_|(apply zkU fun K hK=>?_)|apply aG ?_|apply zk3 ?_|fail)
     refine⟨ac,zk8,zk8,zlF,Qm,?_⟩;exact⟨v',eE,R',F',A',W',K',dA',dW'⟩
    .have hlt':¬(j:Int)<U.length:=by omega
     have ht:U.take j=U:=gl ac;rw[ht]at Kj;clear ht;have O:=Av hG Rj ⟨31,s.loops,r.2.state::(U.map fun i=>r.2.vars.getD i 0)++[d.1,d.2.state]++(U.map fun i=>d.2.vars.getD i 0)⟩ (by rcases Kj.r with h|⟨zlE,i0,z1,z2,z3,z4,z5⟩;exact .inl h;exact .inr ⟨zlE,i0,z1,z2,z3,dm _,z5⟩) (fun k o=>⟨by have:=(Kj.r.lt o).1;omega,Kj.n k o⟩) (by rw[<-o]at hFk;exact hFk.r) hFd.l;repeat' (first
      |(apply ah ?_;clear hK K)|apply Ry.o ?_|(apply bb (fun z Y=>?_) (fun z Y=>?_)<;>try(cases z;done))|apply ak ?_|(apply zkU fun K hK=>?_)|apply zlu ?_)
     refine aZ rfl bc bi ?_;simp only[bj];refine aS ?_ O;rintro u H10 ⟨rfl,S10,lv10,R10,n10,q10,s10⟩;rw[o]at R10⊢;have F10:FrL X S vv (H.alloc (.cells x.cells 0 true)) S10 Z H10:=⟨dc Fj.next n10,fun k h1 h2 h3 h4 h5=>by
      rw[q10 k (mB h1 Fj.next) h2 h3 fun e=>by
       rcases Fj.sub k e with e|e
       .exact h4 e
       .omega]
      exact Fj.get k h1 h2 h3 h4 h5,fun k e=>by
      rcases s10 k e with e|e|e
      .exact Fj.sub k e
      .exact .inr (by have:=(Kj.r.lt e).1;simp only[zk9];omega)
      .exact .inr (dc Fj.next e),Fj.own⟩
     have A10:RowL S10 Z (I.next+1) H10 a (tC U):=⟨Aj.r.keep n10 fun k o=>q10 k (Aj.r.lt o).2 (by have:=(Aj.r.lt o).1;omega) (by have:=(Aj.r.lt o).1;omega) (Aj.n k o).1,fun k o=>⟨fun e=>by
      rcases s10 k e with e|e|e
      .exact(Aj.n k o).1 e
      .exact dAj k o e
      .have:=(Aj.r.lt o).2;omega,(Aj.n k o).2⟩⟩
     have W10:RowL S10 Z (I.next+1) H10 wv (r.2.state::U.map fun i=>r.2.vars.getD i 0):=⟨Wj.r.keep n10 fun k o=>q10 k (Wj.r.lt o).2 (by have:=(Wj.r.lt o).1;omega) (by have:=(Wj.r.lt o).1;omega) (Wj.n k o).1,fun k o=>⟨fun e=>by
      rcases s10 k e with e|e|e
      .exact(Wj.n k o).1 e
      .exact dWj k o e
      .have:=(Wj.r.lt o).2;omega,(Wj.n k o).2⟩⟩
     clear Rj Fj Aj Wj Kj dAj dWj q10 s10 O mj;dsimp only[zk6];have nw10:=R10.new (aB _);have R10a:=R10.alloc (.cells [.int .i64 k.1] 0 true);have O:=I3 hG R10a ((cY _ _ _ _).alloc _) ⟨25,0,[k.1]⟩ rfl iT (aB _) (cE _) nw10.2.2 nw10.1 nw10.2.1 hFf' rfl rfl;have hW0:(r.2.state::U.map fun i=>r.2.vars.getD i 0)[0]?=some r.2.state:=rfl;have W10a:RowL S10 Z (I.next+1) (H10.alloc (.cells [.int .i64 k.1] 0 true)) wv (r.2.state::U.map fun i=>r.2.vars.getD i 0):=⟨W10.r.keep (dQ _) fun k o=>by rw[zkZ,af (by have:=(W10.r.lt o).2;omega)],W10.n⟩;have A10a:RowL S10 Z (I.next+1) (H10.alloc (.cells [.int .i64 k.1] 0 true)) a (tC U):=⟨A10.r.keep (dQ _) fun k o=>by rw[zkZ,af (by have:=(A10.r.lt o).2;omega)],A10.n⟩;obtain⟨q0,ix0,ld0⟩:=W10a.at hW0;rw[show((0:Nat):Int)=0 from rfl]at ix0;repeat' (first
      |(apply ah ?_;clear hK K)|apply Rx.o ?_|apply ak ?_|(apply zmm 30 [(5,6),(9,6),(9,10)] fun K hK=>?_)|(apply zlC ?_;try intro _)|apply bZ ?_|fail)
     refine aZ rfl bc bi ?_;simp only[iw];refine aS ?_ O;rintro u H11 ⟨⟨rfl,S11,lv11,R11,F11⟩,n11⟩;simp only[zk9]at n11;have W11:=W10.fr (X:=X) ac ac F11;have A11:=A10.fr (X:=X) ac ac F11;obtain⟨q0',ix0',ld0'⟩:=W11.at hW0;rw[show((0:Nat):Int)=0 from rfl,ix0]at ix0';simp only[aL,AV.ptr.injEq,aR]at ix0';subst ix0';have hFm2:Fin (zlr r.1 (zkW ⟨25,0,[k.1]⟩ k.2).1 r.2.state (zkW ⟨25,0,[k.1]⟩ k.2).2).2:=by rw[hm'];exact hFm'
     dsimp only[zk6];repeat' (first
      |apply Rx.o ?_|(apply zlC ?_;try intro _)|apply bZ ?_|fail)
     refine aZ rfl bc bi ?_;simp only[iw];refine aS ?_ (xT hG R11 (cY _ _ _ _) r.1 _ r.2.state hFm2);rw[hm'];rintro u H12 ⟨rfl,S12,lv12,R12,F12⟩;have m12:=R12.m;obtain⟨R13,F13⟩:=R12.setS m'.1;have F0:=F10.trans (F11.trans (F12.trans F13));have A13:=(A11.fr (X:=X) ac ac F12).fr (X:=X) ac ac F13;have W13:=(W11.fr (X:=X) ac ac F12).fr (X:=X) ac ac F13;have n12:=F12.next
     have l13:=fun H'=>A13.r.len' (H':=H');rw[cp]at l13;dsimp only[zlB]at m12 R13 F0 A13 W13;dsimp only[zk6];have m13:=R13.m;dsimp only[zlB]at m13;repeat' (first
      |(apply ah ?_;clear hK K)|apply Rx.o ?_|apply bS ?_|apply ak ?_|(apply zkU fun K hK=>?_)|(apply zlC ?_;try intro _)|(apply zmk ?_ ?_<;>clear hK K)|apply bZ ?_|apply zmK rfl ?_|apply aG ?_|fail)
     .exact zlU
     .have hw13:m'.2.vars.length=r.2.vars.length:=by rw[hm'v,hdl]
      refine zlL [0,5,9,16,153,154] [] 155 U.length (fun j E Hj=>∃J Sj lvj,gL k.1 r.1 r.2.vars (U.drop j) (j+1) J=gL k.1 r.1 r.2.vars U 1 {m'.2 with state:=m'.1} /\ J.vars.length=r.2.vars.length/\RepL X Hj Sj J lvj Z/\FrL X S vv (H.alloc (.cells x.cells 0 true)) Sj Z Hj/\RowL Sj Z (I.next+1) Hj a (tC U)/\RowL Sj Z (I.next+1) Hj wv (r.2.state::U.map fun i=>r.2.vars.getD i 0)) eE ⟨{m'.2 with state:=m'.1},S12,lv12,by rw[fH],hw13,R13,F0,A13,W13⟩ ?_;clear R13 F0 A13 W13 m13 m12 hw13 R12 F12 F13 hdl hdl0 hm'v hdv;rintro i3 E3 Hi3 hi3 hcE hrH hnH hsI ⟨J,Sj,lvj,hJ,hjv,Rj,Fj,Aj,Wj⟩;(try simp only[zlm,zlb,aR,zk1,zk7,Nat.reduceBEq, *]at hcE);(try simp only[zlb,zk7, *]at hrH);(try simp only[zli,]at hnH);have mj:=Rj.m;dsimp only[zlB]at mj;have nj:I.next+1<=Hi3.next:=ac
      by_cases C:i3<U.length
      .have hlt':(i3:Int)<U.length:=by omega
       have hwj:=haw i3 C;have hwl1:U.getD i3 0<J.vars.length:=by rw[hjv];exact hwj0 i3 C
       have hold:(r.2.state::U.map fun i=>r.2.vars.getD i 0)[i3+1]?=some (r.2.vars.getD (U.getD i3 0) 0):=by
        rw[xi,eS,dx (l:=U),aT C];rfl
       rw[hdr i3 C,I5]at hJ;generalize U.getD i3 0=w at *;generalize r.2.vars.getD w 0=y at *;have hsx:IntKind.wrap .i64 ((i3:Int)+1)=((i3+1:Nat):Int):=zm3 ac;have hFq:Fin (zlr r.1 (zkW ⟨25,((i3+1:Nat):Int),[k.1]⟩ J).1 y (zkW ⟨25,((i3+1:Nat):Int),[k.1]⟩ J).2).2:=hF.le (by rw[<-hJ];exact((qp _).setV _).trans (uE _ _ _ _ _ _).1);have hFq0:Fin (zkW ⟨25,((i3+1:Nat):Int),[k.1]⟩ J).2:=hFq.le (zm0 _ _ _ _).le;have nwj:=Rj.new (aB _);have Rja:=Rj.alloc (.cells [.int .i64 k.1] 0 true);have O:=I3 hG Rja ((cY _ _ _ _).alloc _) ⟨25,((i3+1:Nat):Int),[k.1]⟩ rfl iT (aB _) (cE _) nwj.2.2 nwj.1 nwj.2.1 hFq0 rfl rfl;obtain⟨qa,ixa,lda⟩:=Aj.at hwj;have Wja:RowL Sj Z (I.next+1) (Hi3.alloc (.cells [.int .i64 k.1] 0 true)) wv (r.2.state::U.map fun i=>r.2.vars.getD i 0):=⟨Wj.r.keep (dQ _) fun k o=>by rw[zkZ,af (by have:=(Wj.r.lt o).2;omega)],Wj.n⟩;obtain⟨qw,ixw,ldw⟩:=Wja.at hold;have hxv:∀v2,J.vars[w]?=some v2->True:=fun _ _=>trivial;clear hxv;obtain⟨qv,ixv,ldv,_⟩:=Rj.setV hwl1 0;have mja:=Rja.m;dsimp only[zlB]at mja;repeat' (first
        |(apply ah ?_;clear hK K)|apply Ry.o ?_|(apply bb (fun z Y=>?_) (fun z Y=>?_)<;>try(cases z;done))|apply ak ?_|(apply zkU fun K hK=>?_)|(apply zmm 34 [(3,12),(3,18),(3,20),(11,12),(17,12),(17,18)] fun K hK=>?_)|(apply zlC ?_;try intro _)|apply bZ ?_|apply aG ?_|apply zk3 ?_|fail)
       refine aZ rfl bc bi ?_;simp only[iw];refine aS ?_ O;rintro u H14 ⟨⟨rfl,S14,lv14,R14,F14⟩,n14⟩;simp only[zk9]at n14;have W14:=Wj.fr (X:=X) ac ac F14;have A14:=Aj.fr (X:=X) ac ac F14;obtain⟨qw',ixw',ldw'⟩:=W14.at hold;rw[ixw]at ixw';simp only[aL,AV.ptr.injEq,aR]at ixw';subst ixw';have m14:=R14.m;dsimp only[zlB]at m14;dsimp only[zk6];repeat' (first
        |apply Rx.o ?_|(apply zlC ?_;try intro _)|apply bZ ?_|fail)
       refine aZ rfl bc bi ?_;simp only[iw];refine aS ?_ (xT hG R14 (cY _ _ _ _) r.1 _ y hFq);generalize hmq:zlr r.1 (zkW ⟨25,((i3+1:Nat):Int),[k.1]⟩ J).1 y (zkW ⟨25,((i3+1:Nat):Int),[k.1]⟩ J).2=mq at *;have hmqv:mq.2.vars=J.vars:=by rw[<-hmq,(zm0 _ _ _ _).v];rfl
       have hwl2:w<mq.2.vars.length:=by rw[hmqv];exact hwl1
       rintro u H15 ⟨rfl,S15,lv15,R15,F15⟩;obtain⟨q',V,hld',H16,hst,hq1,hq2,hq3,R16,F16,o16,n16⟩:=R15.setV hwl2 mq.1;have hqq:q'=qv:=by
        rw[ixv]at V;simp only[aL,AV.ptr.injEq]at V;exact V.1.symm
       subst hqq;have W16:=(W14.fr (X:=X) ac ac F15).fr (X:=X) ac ac F16;have A16:=(A14.fr (X:=X) ac ac F15).fr (X:=X) ac ac F16;have F016:=Fj.trans (F14.trans (F15.trans F16));have m15:=R15.m;have m16:=R16.m;have n15:=F15.next
       have nj16:Hi3.next<=H16.next:=ac
       have hjv':(mq.2.vars.set w mq.1).length=r.2.vars.length:=by rw[jd,hmqv];exact hjv
       clear hmqv hjv V hld' hmq A14 W14 Aj Wj Fj Rj O R14;dsimp only[zlB]at m15 m16;dsimp only[zk6];repeat' (first
        |(apply ah ?_;clear hK K)|apply Rx.o ?_|apply bS ?_|(apply zkU fun K hK=>?_)|(apply zlC ?_;try intro _)|(apply zmk ?_ ?_<;>clear hK K)|apply bZ ?_|apply zmK rfl ?_|fail)
       .exact zlU
       .refine⟨ac,zk8,zk8,zlF,(by simp only[zk1,Nat.reduceBEq, *]),?_⟩;exact⟨_,S15,lv15,hJ,hjv',R16,F016,A16,W16⟩
      .have hlt':¬(i3:Int)<U.length:=by omega
       have hd:U.drop i3=[]:=rb ac;rw[hd]at hJ;have hJ:J=gL k.1 r.1 r.2.vars U 1 {m'.2 with state:=m'.1}:=hJ;repeat' (first
        |(apply ah ?_;clear hK K)|apply Ry.o ?_|(apply bb (fun z Y=>?_) (fun z Y=>?_)<;>try(cases z;done))|apply ak ?_|(apply zkU fun K hK=>?_)|apply zlu ?_)
       all_goals (refine⟨eI,_,eR,?_⟩;try simp only[zkX])
       rw[<-hJ];exact⟨Sj,lvj,Z,Rj,F1.trans Fj⟩
end
end
section
def tyLoI.tyF:=ad @cJ (ad @dd (ad @em (ad @en (ad @zms (ad @eY (ad @ec (ad @kW (ad @gX (ad @fI (ad @oR (@qO)))))))))))
open tyLoI
noncomputable def Qr:{c:SC // aC 16 (Tryz.f88.body.getD .skip)=c}:=by
 refine⟨?_,?_⟩;rotate_left
 .simp only[Tryz.f88,bI,aC,zll,zle,zlp,zln,Nat.blt,Nat.ble];rfl
theorem pp.pre{X:Lx}{S m:Nat->Prop}{J vv:AV}{H zlv:Hp}{r:Bd}{v:AV}{H':Hp}(h:pp X S vv H r v H')(K:FrL X m J zlv S vv H):pp X m J zlv r v H':=by
 obtain⟨o,z,Z,j,Y⟩:=h;exact⟨o,z,Z,j,K.trans Y⟩
section
variable {tb:List En} (hG:LowT tb) {X:Lx} {c:Cx} (hX:CxOk X c)
set_option maxRecDepth 100000 in
set_option maxHeartbeats 4000000 in
include hG hX in
theorem zgL{n:Nat}(IH:∀m,m<n->D4 tb X c m){x:St}{s r:Bd}(h:ol c n x s=some r)(Y:Fin r)(hz:x.sz<2^36)(I:s.vars.length<2^36){H:Hp}{S:Nat->Prop}{lv vv:AV}(U:RepL X H S s lv vv):
 zk5 Tryz.prog (zkY pls tb) 135 [.ptr X.b 0,.agg x.cells] H (pp X S vv H r):=by
 cases n with
 |zero=>simp[ol]at h
 |succ n=>
 have J:Plain (zkY pls tb) 135:=hG.plain dT;have R1:=U.alloc (.cells x.cells 0 true);have F1:=(cY X S vv H).alloc (.cells x.cells 0 true);unfold ol at h;by_cases k1:x.kind=1
 .rw[am k1]at h;simp only[jl]at h;obtain⟨v,Z,h⟩:=h;split at h
  .rename_i hl;cases h;exact zgA hG hX k1 Z hl ⟨Y.r,Y.l,Y.n⟩ U
  .cases h
 rw[af k1]at h;by_cases o:x.kind=2
 .rw[am o]at h;simp only[kL]at h;obtain⟨i,Z,v,j,a,ha,rfl⟩:=h;exact zgB hG hX o Z j ha ⟨Y.r,Y.l,Y.n⟩ U
 rw[af o]at h;by_cases k3:x.kind=3
 .rw[am k3]at h;simp only[kL]at h;obtain⟨q,Z,a,j,b,z,m,h4,rfl⟩:=h;have C:=lif hG hX (IH n (cE n)) Z j z h4 ⟨Y.r,Y.l,Y.n⟩ hz I R1;refine zlf (M:=155) (rs:=[]) (J.call _) J.ice J.froz Tryz.func135 rfl rfl mN.2 rfl ?_;dsimp only[mN,zD,Nat.reduceAdd];repeat' (first
   |(apply ah ?_;clear hK K)|apply Ry.o ?_|(apply bb (fun V O=>?_) (fun V O=>?_)<;>try(cases V;done))|apply ak ?_|(apply zkU fun K hK=>?_)|apply aG ?_|fail)
  refine aZ rfl bc bi ?_;simp only[bj];refine aS ?_ C;intro w H2 j;have z:=j.pre F1;clear j C;dsimp only[zk6];repeat' (first
   |(apply ah ?_;clear hK K)|fail)
  all_goals (refine⟨eI,_,eR,?_⟩;try simp only[zkX])
  exact z
 rw[af k3]at h;by_cases k4:x.kind=4
 .rw[am k4]at h;cases n with
  |zero=>simp[pn]at h
  |succ n=>
  unfold pn at h;simp only[kL]at h;obtain⟨q,Z,b,V,t,j,d,z,rfl⟩:=h;have C:=lwh hG hX (IH n ac) Z V j z rfl rfl Y hz I (zf8 (s:={ (zkW ⟨3,16*(s.loops:Int),[]⟩ q.2).2 with state:=(zkW ⟨3,16*(s.loops:Int),[]⟩ q.2).1}) (v:=q.2.vars) rfl V j z) R1;refine zlf (M:=155) (rs:=[]) (J.call _) J.ice J.froz Tryz.func135 rfl rfl mN.2 rfl ?_;dsimp only[mN,zD,Nat.reduceAdd];repeat' (first
   |(apply ah ?_;clear hK K)|apply Ry.o ?_|(apply bb (fun V O=>?_) (fun V O=>?_)<;>try(cases V;done))|apply ak ?_|(apply zkU fun K hK=>?_)|apply aG ?_|fail)
  refine aZ rfl bc bi ?_;simp only[bj];refine aS ?_ C;intro w H2 j;have z:=j.pre F1;clear j C;dsimp only[zk6];repeat' (first
   |(apply ah ?_;clear hK K)|fail)
  all_goals (refine⟨eI,_,eR,?_⟩;try simp only[zkX])
  exact z
 rw[af k4]at h;by_cases k5:x.kind=5
 .rw[am k5]at h;simp only[kL]at h;obtain⟨v,Z,rfl⟩:=h;exact zgC hG hX k5 Z ⟨Y.r,Y.l,Y.n⟩ U
 rw[af k5]at h;by_cases k6:x.kind=6
 .rw[am k6]at h;simp only[jl]at h;obtain⟨av,Z,h⟩:=h;split at h
  .rename_i hc;cases h;exact zgE hG hX k6 Z hc.1 hc.2 hz ⟨Y.r,Y.l,Y.n⟩ U
  .cases h
 rw[af k6]at h;by_cases k7:x.kind=7
 .rw[am k7]at h;cases h;exact zgD hG k7 Y U
 rw[af k7]at h;cases h;exact lst0 hG k1 o k3 k4 k5 k6 k7 U
set_option maxRecDepth 100000 in
set_option maxHeartbeats 4000000 in
include hG hX in
theorem Qs:∀(N n:Nat),n<N->D4 tb X c n
 |0,n,hn=>by omega
 |N+1,n,hn=>fun l s r h hF hz hvl H S lv vv hR=>by
  have hw:Plain (zkY pls tb) 88:=hG.plain dT;have hll:=znP l;refine zlf (M:=16) (rs:=[]) (hw.call _) hw.ice hw.froz Tryz.func88 rfl rfl Qr.2 rfl ?_;dsimp only[Qr,zD,Nat.reduceAdd];repeat' (first
   |(apply ah ?_;clear hK K)|apply Rx.o ?_|apply ak ?_|(apply zkU fun K hK=>?_)|apply aG ?_|fail)
  refine zlL [0,6,7] [] 8 l.length (fun i E o=>∃m I Si Y Z,m<=n/\gE c m (l.drop i) I=some r/\I.vars.length=s.vars.length/\RepL X o Si I Y Z/\FrL X S vv H Si Z o) eE ⟨n,s,S,lv,vv,aB _,h,rfl,hR,cY _ _ _ _⟩ ?_;rintro i E o hi hcE hrH hnH hsI ⟨m,I,Si,Y,Z,hm,z,O,Ri,Fi⟩;(try simp only[zlm,zlb,aR,zk1,zk7,Nat.reduceBEq, *]at hcE);(try simp only[zlb, *]at hrH);(try simp only[zk9,zli,zlI,bL,Nat.reduceAdd]at hnH);by_cases C:i<l.length
  .have U:(i:Int)<l.length:=by omega
   have hgx:l[i]?=some l[i]:=aT C;have hmem:=znL (cR C);cases m with
   |zero=>simp[gE]at z
   |succ m=>
   rw[fS C]at z;unfold gE at z;simp only[jl]at z;obtain⟨q,h1,h2⟩:=z;generalize l[i]=x at *;have hFq:Fin q:=hF.le ((nA c m).2.1 _ _ _ h2).1;have hql:=((nA c m).1 _ _ _ h1).2;repeat' (first
    |(apply ah ?_;clear hK K)|apply Ry.o ?_|apply dG ?_|(apply bb (fun V j=>?_) (fun V j=>?_)<;>try(cases V;done))|apply ak ?_|(apply zkU fun K hK=>?_)|apply aG ?_|apply zk3 ?_|fail)
   refine aZ rfl bc bi ?_;simp only[bj];refine aS ?_ (zgL hG hX (fun k hk=>Qs N k ac) h1 hFq ac ac (Ri.alloc2 _ _));rintro w H3 ⟨S3,lv3,vv3,R3,F3⟩;have F03:=((Fi.alloc2 (.cells [AV.int .i64 0,.str [],.str [],.int .i64 0,.int .i64 0,.int .i64 0,.str [],.int .i64 0,.nilS,.int .i64 0,.int .i64 0,.str [],.int .i64 0,.nilS,.nilS,.nilS,.nilS] 0 true) (.cells x.cells 0 true))).trans F3;have n3:o.next+1<=H3.next:=F3.next
   have J:q.vars.length=s.vars.length:=ac;clear hql O;dsimp only[zk6];repeat' (first
    |(apply ah ?_;clear hK K)|apply Rx.o ?_|(apply zkU fun K hK=>?_)|fail)
   refine⟨ac,zk8,zk8,zlF,rL,?_⟩;exact⟨m,q,S3,lv3,vv3,ac,h2,J,R3,F03⟩
  .have U:¬(i:Int)<l.length:=by omega
   have hd:l.drop i=[]:=rb ac;rw[hd]at z;cases m with
   |zero=>simp[gE]at z
   |succ m=>
   have z:I=r:=by unfold gE at z;simpa using z
   subst z;clear O;repeat' (first
    |(apply ah ?_;clear hK K)|apply Ry.o ?_|(apply bb (fun V j=>?_) (fun V j=>?_)<;>try(cases V;done))|apply ak ?_|(apply zkU fun K hK=>?_)|apply zlu ?_)
   all_goals (refine⟨eI,_,eR,?_⟩;try simp only[zkX])
   exact⟨Si,Y,Z,Ri,Fi⟩
end
end
section
def tyLoJ.tyF:=ad @ec (ad @cJ (ad @dd (ad @kW (ad @gX (ad @vC (ad @fI (ad @fx (ad @em (ad @en (ad @zms (ad @iR (ad @qM (ad @eY (ad @oR (ad @qO (@D2))))))))))))))))
open tyLoJ
noncomputable def Qt:{c:SC // aC 94 (Tryz.f52.body.getD .skip)=c}:=by
 refine⟨?_,?_⟩;rotate_left
 .simp only[Tryz.f52,bI,aC,zll,zle,zlp,zln,Nat.blt,Nat.ble];rfl
def ff:List zly->Nat->List (zly×Int)->List (zly×Int)
 |[],_,m=>m
 |a::l,i,m=>ff l (i+1) (setV m a i)
theorem D6:∀(l:List zly) (a:zly) (i:Nat) (m:List (zly×Int)),ff (l++[a]) i m=setV (ff l i m) a ((i+l.length:Nat):Int)
 |[],a,i,m=>rfl
 |b::l,a,i,m=>by
  rw[lI,ff,D6 l a (i+1),ff,eK,show i+1+l.length=i+(l.length+1) by omega]
theorem D7:∀(n k:Nat) (s:Bd),zmu s (jC n k s)/\(jC n k s).vars.length=s.vars.length+n
 |0,k,s=>⟨qp s,rfl⟩
 |n+1,k,s=>by
  have e:=D7 n (k+1) { (zkW ⟨2,k,[]⟩ s).2 with vars:=(zkW ⟨2,k,[]⟩ s).2.vars++[(zkW ⟨2,k,[]⟩ s).1] };refine⟨(((zmh ⟨2,k,[]⟩ s).le.setV _)).trans e.1,?_⟩;show(jC n (k+1) _).vars.length=_;rw[e.2,fj];show s.vars.length+1+n=_;omega
theorem D8:∀(n:Nat) (s:Bd),zmu s (mo n s)/\(mo n s).vars.length=s.vars.length+n
 |0,s=>⟨qp s,rfl⟩
 |n+1,s=>by
  have e:=D8 n { (zkW ⟨1,0,[]⟩ s).2 with vars:=(zkW ⟨1,0,[]⟩ s).2.vars++[(zkW ⟨1,0,[]⟩ s).1] };refine⟨(((zmh ⟨1,0,[]⟩ s).le.setV _)).trans e.1,?_⟩;show(mo n _).vars.length=_;rw[e.2,fj];show s.vars.length+1+n=_;omega
abbrev Lx.nx(X:Lx)(ne:List (zly×Int)):Lx:={X with ne:=ne}
theorem RepL.setNe{X:Lx}{H:Hp}{S:Nat->Prop}{s:Bd}{m vv:AV}(h:RepL X H S s m vv)(ne:List (zly×Int)):RepL (X.nx ne) (H.set X.rn (.map (dy ne))) S s m vv:=by
 have V:=h.o1;have I:=h.o2;have Z:=h.o3;have O:=h.o4;have z:=h.o5;have K:∀k,k≠X.rn->(H.set X.rn (.map (dy ne))).get k=H.get k:=fun k o=>wj;exact⟨by rw[K _ (by show X.b≠_;omega)];exact h.m,by rw[K _ (by show X.ra≠_;omega)];exact h.a,by rw[K _ (by show X.rf≠_;omega)];exact h.f,by rw[K _ (by show X.rt≠_;omega)];exact h.t,gQ,h.nodes.keep (fun _ _ h=>h) (aB _) fun k o _=>K k (by have:=(h.sS k o).1;omega),h.vars.keep (aB _) fun k o=>K k (by have:=(h.vS k o).1;omega),V,I,Z,O,z,h.sS,h.vS⟩
theorem RepL.pushV{X:Lx}{H:Hp}{S:Nat->Prop}{s:Bd}{Y vv:AV}(h:RepL X H S s Y vv)(x:Int)(hl:s.vars.length<2^36):
 ∃Z H',zmc Tryz.prog false (H.alloc (.cells [.int .i64 x] 0 true)) 23 23 vv (.sl H.next 0 1 1)=some (Z,H')/\AV.one Z=true/\Z.cells=[Z]/\H'.get X.b=some (.cells (zlB X s Y vv) 0 true)/\H'.next=H.next+2/\(∀k,k<H.next->¬zlk vv k->H'.get k=H.get k) /\
  RepL X (H'.set X.b (.cells (zlB X {s with vars:=s.vars++[x] } Y Z) 0 true)) S {s with vars:=s.vars++[x] } Y Z /\
  FrL X S vv H S Z (H'.set X.b (.cells (zlB X {s with vars:=s.vars++[x] } Y Z) 0 true)):=by
 have o1:=h.o1;have o2:=h.o2;have o3:=h.o3;have o4:=h.o4;have o5:=h.o5;have hv:je (H.alloc (.cells [.int .i64 x] 0 true)) vv s.vars 0:=h.vars.keep (dQ _) fun k o=>by rw[zkZ,af (by have:=(h.vS k o).2;omega)]
 have hx:zmM (H.alloc (.cells [.int .i64 x] 0 true)) 1 (.sl H.next 0 1 1)=some ([x].length,[x].map (.int .i64)):=vO (m:=[x]) (imm:=0) iT;obtain⟨Z,H',a1,M,a3,a4,a5,C⟩:=Hw hv (dm _) hx ax b9;simp only[zk9]at a3 a5 C;have I:∀k,k<H.next->¬zlk vv k->H'.get k=H.get k:=fun k z j=>by rw[a5 k ac j,zkZ,af ac]
 have O:∀k,k<=X.b->¬zlk vv k:=fun k o e=>by have:=(h.vS k e).1;omega
 have U:=je.one (.inr M);have K:∀k,k≠X.b->(H'.set X.b (.cells (zlB X {s with vars:=s.vars++[x] } Y Z) 0 true)).get k=H'.get k:=fun k o=>wj;refine⟨Z,H',a1,U.1,U.2,by rw[I _ o5 (O _ (aB _))];exact h.m,ac,I,⟨gQ,by rw[K _ ac,I _ ac (O _ ac)];exact h.a,by rw[K _ ac,I _ ac (O _ ac)];exact h.f,by rw[K _ ac,I _ ac (O _ ac)];exact h.t,by rw[K _ ac,I _ ac (O _ ac)];exact h.n,h.nodes.keep (fun _ _ h=>h) gc fun k o h6=>by rw[K k (by have:=(h.sS k o).1;omega),I k h6 (h.sS k o).2.2],?_,o1,o2,o3,o4,gc,fun k o=>⟨(h.sS k o).1,by have:=(h.sS k o).2.1;simp only[zli];omega,fun e=>?_⟩,fun k o=>?_⟩,⟨gc,fun k z j _ _ h5=>by rw[K k j,I k z h5],fun _ h=>.inl h,fun k o=>?_⟩⟩
 .have J:je H' Z (s.vars++[x]) 0:=.inr M;exact J.keep (aB _) fun k o=>K k fun e=>by
   rcases C k o with q|q
   .have:=(h.vS k q).1;omega
   .omega
 .rcases C k e with q|q
  .exact(h.sS k o).2.2 q
  .have:=(h.sS k o).2.1;omega
 .have V:k<H'.next:=(je.lt (.inr M) o).2
  rcases C k o with q|q
  .exact⟨(h.vS k q).1,V⟩
  .exact⟨ac,V⟩
 .rcases C k o with q|q
  .exact .inl q
  .exact .inr ac
structure FrN (X:Lx) (zlv:Hp) (S:Nat->Prop) (vv:AV) (H:Hp):Prop where
 next:zlv.next<=H.next
 get:∀k,k<zlv.next->k≠X.b->k≠X.rt->k≠X.rn->H.get k=zlv.get k
 sub:∀k,S k->zlv.next<=k
 own:∀k,zlk vv k->zlv.next<=k
theorem FrN.fr{X:Lx}{ne:List (zly×Int)}{zlv H H':Hp}{S S':Nat->Prop}{vv z:AV}(h:FrN X zlv S vv H)(f:FrL (X.nx ne) S vv H S' z H'):FrN X zlv S' z H' where
 next:=dc h.next f.next
 get k h1 h2 h3 h4:=by
  rw[f.get k (mB h1 h.next) h2 h3 (fun e=>by have:=h.sub k e;omega) (fun e=>by have:=h.own k e;omega)];exact h.get k h1 h2 h3 h4
 sub k e:=by
  rcases f.sub k e with e|e
  .exact h.sub k e
  .exact dc h.next e
 own k e:=by
  rcases f.own k e with e|e
  .exact h.own k e
  .exact dc h.next e
theorem FrN.setNe{X:Lx}{zlv H:Hp}{S:Nat->Prop}{vv:AV}(h:FrN X zlv S vv H)(b:HB):FrN X zlv S vv (H.set X.rn b):=⟨h.next,fun k m j z Y=>by rw[aJ,af Y];exact h.get k m j z Y,h.sub,h.own⟩
def Qu(X:Lx)(H:Hp)(g:Gr)(v:AV)(H':Hp):Prop:=∃S lv,v=.agg [.str g.name,.int .i64 g.params,lv,.int .i64 g.value,.int .i64 g.state]/\zmf S 2 H' 3 lv (g.nodes.map Nd.cells)/\H.next<=H'.next/\(∀k,S k->H.next<=k)/\∀k,k<H.next->k≠X.b->k≠X.rt->k≠X.rn->H'.get k=H.get k
set_option maxRecDepth 100000 in
theorem zgM{tb:List En}(hG:LowT tb){X:Lx}{p:Pr}{f:Fu}(hX:CxOk (X.nx (ff (f.params++f.locals) 0 [])) (ll p f))(hX0:X.ne=[]){n:Nat}{s:Bd}{v:Int×Bd}(h1:gE (ll p f) n f.body (kK f)=some s)(h2:fu (ll p f) n f.value s=some v)(hF:Fin v.2)(hz:f.sz<2^34){H:Hp}(hR:RepL X H (fun _=>False) ⟨[],[],0,0⟩ .nilS .nilS):
 zk5 Tryz.prog (zkY pls tb) 52 [.ptr X.b 0,.agg f.cells] H (Qu X H ⟨f.name,f.params.length,v.2.l,v.1,v.2.state⟩):=by
 have hw:Plain (zkY pls tb) 52:=hG.plain dT;have hkeep:(zkY pls tb).keep 52=false:=rfl;have hsz:f.sz=1+f.name.length+zmd f.params+zmd f.locals+zld f.body+f.value.sz:=rfl;have hpl:=zno f.params;have hll:=zno f.locals;have o1:=hR.o1;have o2:=hR.o2;have o3:=hR.o3;have o4:=hR.o4;have o5:=hR.o5;have hFs:Fin s:=hF.le (zmp _ n _ _ _ h2).le;have m:Fin (kK f):=hFs.le ((nA _ n).2.1 _ _ _ h1).1;have hsv:s.vars.length=(kK f).vars.length:=((nA _ n).2.1 _ _ _ h1).2;have Y:kK f=mo f.locals.length (jC f.params.length 0 { (zkW ⟨26,0,[]⟩ ⟨[],[],0,0⟩).2 with state:=(zkW ⟨26,0,[]⟩ ⟨[],[],0,0⟩).1}):=rfl;generalize hs0:({ (zkW ⟨26,0,[]⟩ ⟨[],[],0,0⟩).2 with state:=(zkW ⟨26,0,[]⟩ ⟨[],[],0,0⟩).1}:Bd)=s0 at *;have hv0:s0.vars.length=0:=by rw[<-hs0];rfl
 have hF1:Fin (jC f.params.length 0 s0):=by rw[Y]at m;exact m.le (D8 _ _).1
 have hv1:(jC f.params.length 0 s0).vars.length=f.params.length:=by rw[(D7 _ _ _).2,hv0];omega
 have hF0:Fin s0:=hF1.le (D7 _ _ _).1;have hFe:Fin (zkW ⟨26,0,[]⟩ ⟨[],[],0,0⟩).2:=by rw[<-hs0]at hF0;exact⟨hF0.r,hF0.l,hF0.n⟩
 have hvst:(kK f).vars.length<2^36:=by rw[Y,(D8 _ _).2,hv1];omega
 have R1:=(hR.alloc (.cells f.cells 0 true)).alloc (.cells [.str [],.int .i64 0,.nilS,.int .i64 0,.int .i64 0] 0 true);have N1:FrN X ((H.alloc (.cells f.cells 0 true)).alloc (.cells [.str [],.int .i64 0,.nilS,.int .i64 0,.int .i64 0] 0 true)) (fun _=>False) .nilS ((H.alloc (.cells f.cells 0 true)).alloc (.cells [.str [],.int .i64 0,.nilS,.int .i64 0,.int .i64 0] 0 true)):=⟨aB _,fun _ _ _ _ _=>rfl,fun _ h=>h.elim,fun _ h=>(Aw h).elim⟩;have eX:X.nx []=X:=by rw[<-hX0]
 have gA:∀{S:Nat->Prop}{vv:AV}{H':Hp},FrN X ((H.alloc (.cells f.cells 0 true)).alloc (.cells [.str [],.int .i64 0,.nilS,.int .i64 0,.int .i64 0] 0 true)) S vv H'->H'.get H.next=some (.cells f.cells 0 true)/\H'.get (H.next+1)=some (.cells [.str [],.int .i64 0,.nilS,.int .i64 0,.int .i64 0] 0 true):=fun h=>by
  refine⟨?_,?_⟩
  .rw[h.get _ cL ac ac ac,zkZ,af cL,zkZ,am rfl]
  .rw[h.get _ cL ac ac ac,zkZ,am dT]
 refine zlf (M:=94) (rs:=[.cell 4 32]) (hw.call _) hw.ice hw.froz Tryz.func52 rfl rfl Qt.2 rfl ?_;dsimp only[Qt,zD,Nat.reduceAdd];repeat' (first
  |(apply ah ?_;clear hK K)|apply Rx.o ?_|apply ak ?_|(apply zkU fun K hK=>?_)|fail)
 refine aZ rfl bc bi ?_;simp only[bj];refine aS ?_ (Ax hG R1 (cY _ _ _ _) 26 0 hFe);rintro w H2 ⟨rfl,S2,lv2,R2,F2⟩;have m2:=R2.m;obtain⟨R3,F3⟩:=R2.setS (zkW ⟨26,0,[]⟩ ⟨[],[],0,0⟩).1;have N3:=N1.fr (ne:=X.ne) (F2.trans F3);have n2:=F2.next
 simp only[zk9]at n2;clear R1 R2 F2 F3 hR;have g3:=(gA N3).1;dsimp only[zlB]at m2 R3 N3 g3;dsimp only[zk6];repeat' (first
  |(apply ah ?_;clear hK K)|apply Rx.o ?_|apply bS ?_|apply ak ?_|(apply zkU fun K hK=>?_)|apply aG ?_|fail)
 refine zlL [0,3,4,16,17] [] 18 f.params.length (fun i E Hi=>∃si Si lvi J,jC (f.params.length-i) i si=jC f.params.length 0 s0/\si.vars.length=i/\RepL (X.nx (ff (f.params.take i) 0 [])) Hi Si si lvi J/\FrN X ((H.alloc (.cells f.cells 0 true)).alloc (.cells [.str [],.int .i64 0,.nilS,.int .i64 0,.int .i64 0] 0 true)) Si J Hi) eE ⟨s0,S2,lv2,.nilS,rfl,hv0,by rw[xF];show RepL (X.nx []) _ _ _ _ _;rw[eX,<-hs0];exact R3,N3⟩ ?_;clear R3 N3 m2 g3;rintro i E Hi hi hcE hrH hnH hsI ⟨si,Si,lvi,J,z,hvi,Ri,Ni⟩;(try simp only[zlm,zlb,aR,zk1,zk7,Nat.reduceBEq, *]at hcE);(try simp only[zlb,zk7, *]at hrH);(try simp only[zli,]at hnH);have ni:H.next+2<=Hi.next:=Ni.next
 by_cases hlt:i<f.params.length
 .have hlt':(i:Int)<f.params.length:=by omega
  have hgx:f.params[i]?=some f.params[i]:=aT hlt;obtain⟨k,o⟩:∃k,f.params.length-i=k+1:=⟨f.params.length-i-1,ac⟩;have hk2:f.params.length-(i+1)=k:=ac;have hne:ff (f.params.take (i+1)) 0 []=setV (ff (f.params.take i) 0 []) f.params[i] (i:Int):=by
   rw[oI,hgx];show ff (f.params.take i++[f.params[i]]) 0 []=_;rw[D6,j6,wX ac,bL]
  rw[o]at z;rw[hk2,hne];have z:jC k (i+1) { (zkW ⟨2,i,[]⟩ si).2 with vars:=(zkW ⟨2,i,[]⟩ si).2.vars++[(zkW ⟨2,i,[]⟩ si).1] }=jC f.params.length 0 s0:=z;have hFx:Fin (zkW ⟨2,i,[]⟩ si).2:=hF1.le (by rw[<-z];exact((qp _).setV _).trans (D7 _ _ _).1);generalize f.params[i]=nm at *;have hup:=Ak (P:=Tryz.prog) (t:=98) Tryz.underlying98 kS Ri.n nm (i:Int);have mi:=Ri.m;have R':=Ri.setNe (setV (ff (f.params.take i) 0 []) nm (i:Int));have N':=Ni.setNe (.map (dy (setV (ff (f.params.take i) 0 []) nm (i:Int))));have m':=R'.m;dsimp only[zlB,Lx.nx]at mi hup m';repeat' (first
   |(apply ah ?_;clear hK K)|apply Ry.o ?_|apply dG ?_|(apply bb (fun C Z=>?_) (fun C Z=>?_)<;>try(cases C;done))|apply ak ?_|(apply zkU fun K hK=>?_)|(apply zmm 6 [(4,7),(4,9),(8,9)] fun K hK=>?_)|(apply zlC ?_;try intro _)|apply bZ ?_|apply aG ?_|apply zk3 ?_|fail)
  refine aZ rfl bc bi ?_;simp only[iw];refine aS ?_ (Ax (X:=X.nx (setV (ff (f.params.take i) 0 []) nm (i:Int))) hG R' (cY _ _ _ _) 2 i hFx);generalize hpu:zkW ⟨2,i,[]⟩ si=U at *;have hpv:U.2.vars.length=i:=by rw[<-hpu];exact hvi
  rintro w H4 ⟨rfl,S4,I,R4,F4⟩;have m4:=R4.m;have n4:=F4.next
  obtain⟨v5,H5,a5,hv51,hv52,m5,n5,q5,R5,F5⟩:=R4.pushV U.1 ac;have N5:=(N'.fr F4).fr F5;have m4a:(H4.alloc (.cells [.int .i64 U.1] 0 true)).get X.b=some (.cells (zlB X U.2 I J) 0 true):=by rw[zkZ,af Qi];exact m4
  have n5':Hi.next<=H5.next:=by simp only[zli]at n4;omega
  have O:(U.2.vars++[U.1]).length=i+1:=by rw[fj,hpv];rfl
  simp only[zli]at n4;clear hpv hvi R' N' R4 F4 hpu mi;dsimp only[zlB,Lx.nx]at m4 m5 m4a R5 N5;dsimp only[zk6];repeat' (first
   |(apply ah ?_;clear hK K)|apply Rx.o ?_|apply bS ?_|(apply zkU fun K hK=>?_)|(apply zlC ?_;try intro _)|(apply zmk ?_ ?_<;>clear hK K)|apply bZ ?_|apply zmK rfl ?_|fail)
  .exact zlU
  .refine⟨ac,zk8,zk8,zlF,(by simp only[zk1,Nat.reduceBEq, *];exact zni (n:=f.params.length) ac ac),?_⟩;exact⟨_,S4,I,v5,z,O,R5,N5⟩
 .have hlt':¬(i:Int)<f.params.length:=by omega
  have o:f.params.length-i=0:=ac;have hti:f.params.take i=f.params:=gl ac;rw[o]at z;rw[hti]at Ri;have z:si=jC f.params.length 0 s0:=z;rw[z]at Ri;have hii:i=f.params.length:=ac;rw[<-z]at Y;rw[z]at Y;have gi:=(gA Ni).1;clear o hti z hvi hii;repeat' (first
   |(apply ah ?_;clear hK K)|apply Ry.o ?_|(apply bb (fun C Z=>?_) (fun C Z=>?_)<;>try(cases C;done))|apply ak ?_|(apply zkU fun K hK=>?_)|apply aG ?_|apply zlu ?_)
  generalize hs1:jC f.params.length 0 s0=s1 at *;refine zlL [0,3,4,43,44] [] 45 f.locals.length (fun j E Hj=>∃sj Sj lvj vvj,mo (f.locals.length-j) sj=mo f.locals.length s1/\sj.vars.length=f.params.length+j/\RepL (X.nx (ff (f.params++f.locals.take j) 0 [])) Hj Sj sj lvj vvj/\FrN X ((H.alloc (.cells f.cells 0 true)).alloc (.cells [.str [],.int .i64 0,.nilS,.int .i64 0,.int .i64 0] 0 true)) Sj vvj Hj) eE ⟨s1,Si,lvi,J,rfl,hv1,by rw[xF,bj];exact Ri,Ni⟩ ?_;clear Ri Ni gi;rintro j E3 Hj hj hcE hrH hnH hsI ⟨sj,Sj,lvj,vvj,z,hvj,Rj,Nj⟩;(try simp only[zlm,zlb,aR,zk1,zk7,Nat.reduceBEq, *]at hcE);(try simp only[zlb, *]at hrH);(try simp only[zk9,zli,zlI,bL,Nat.reduceAdd]at hnH);have nj:H.next+2<=Hj.next:=Nj.next
  by_cases hlt:j<f.locals.length
  .have hlt':(j:Int)<f.locals.length:=by omega
   have hgx:f.locals[j]?=some f.locals[j]:=aT hlt;obtain⟨k,o⟩:∃k,f.locals.length-j=k+1:=⟨f.locals.length-j-1,ac⟩;have hk2:f.locals.length-(j+1)=k:=ac;have hne:ff (f.params++f.locals.take (j+1)) 0 []=setV (ff (f.params++f.locals.take j) 0 []) f.locals[j] ((f.params.length+j:Nat):Int):=by
    rw[oI,hgx];show ff (f.params++(f.locals.take j++[f.locals[j]])) 0 []=_;rw[<-i8,D6,fj,j6,wX ac,bL]
   rw[o]at z;rw[hk2,hne];have z:mo k { (zkW ⟨1,0,[]⟩ sj).2 with vars:=(zkW ⟨1,0,[]⟩ sj).2.vars++[(zkW ⟨1,0,[]⟩ sj).1] }=mo f.locals.length s1:=z;have hFx:Fin (zkW ⟨1,0,[]⟩ sj).2:=m.le (by rw[Y,<-z];exact((qp _).setV _).trans (D8 _ _).1);generalize f.locals[j]=nm at *;have hup:=Ak (P:=Tryz.prog) (t:=98) Tryz.underlying98 kS Rj.n nm ((f.params.length+j:Nat):Int);have hlen:=Rj.vars.n.len';rw[hvj]at hlen;have mj:=Rj.m;have R':=Rj.setNe (setV (ff (f.params++f.locals.take j) 0 []) nm ((f.params.length+j:Nat):Int));have N':=Nj.setNe (.map (dy (setV (ff (f.params++f.locals.take j) 0 []) nm ((f.params.length+j:Nat):Int))));have m':=R'.m;dsimp only[zlB,Lx.nx]at mj hup m';repeat' (first
    |(apply ah ?_;clear hK K)|apply Ry.o ?_|apply dG ?_|(apply bb (fun C Z=>?_) (fun C Z=>?_)<;>try(cases C;done))|apply ak ?_|(apply zkU fun K hK=>?_)|(apply rK 11 fun K hK=>?_)|(apply zmm 12 [(4,6),(4,8),(7,8)] fun K hK=>?_)|(apply zlC ?_;try intro _)|apply bZ ?_|apply aG ?_|apply zk3 ?_|fail)
   .refine aZ rfl bc bi ?_;simp only[iw];refine aS ?_ (xS (X:=X.nx (setV (ff (f.params++f.locals.take j) 0 []) nm ((f.params.length+j:Nat):Int))) hG R' (cY _ _ _ _) 0 hFx);generalize hpu:zkW ⟨1,0,[]⟩ sj=U at *;have hpv:U.2.vars.length=f.params.length+j:=by rw[<-hpu];exact hvj
    rintro w H4 ⟨rfl,S4,I,R4,F4⟩;have m4:=R4.m;have n4:=F4.next
    obtain⟨v5,H5,a5,hv51,hv52,m5,n5,q5,R5,F5⟩:=R4.pushV U.1 ac;have N5:=(N'.fr F4).fr F5;have m4a:(H4.alloc (.cells [.int .i64 U.1] 0 true)).get X.b=some (.cells (zlB X U.2 I vvj) 0 true):=by rw[zkZ,af Qi];exact m4
    have n5':Hj.next<=H5.next:=by simp only[zli]at n4;omega
    have O:(U.2.vars++[U.1]).length=f.params.length+(j+1):=by rw[fj,hpv];rfl
    simp only[zli]at n4;clear hpv hvj R' N' R4 F4 hpu mj hlen;dsimp only[zlB,Lx.nx]at m4 m5 m4a R5 N5;dsimp only[zk6];repeat' (first
     |(apply ah ?_;clear hK K)|apply Rx.o ?_|apply bS ?_|(apply zkU fun K hK=>?_)|(apply zlC ?_;try intro _)|(apply zmk ?_ ?_<;>clear hK K)|apply bZ ?_|apply zmK rfl ?_|fail)
    .exact zlU
    .refine⟨ac,zk8,zk8,zlF,(by simp only[zk1,Nat.reduceBEq, *];exact zni (n:=f.locals.length) ac ac),?_⟩;exact⟨_,S4,I,v5,z,O,R5,N5⟩
  .have hlt':¬(j:Int)<f.locals.length:=by omega
   have o:f.locals.length-j=0:=ac;have htj:f.locals.take j=f.locals:=gl ac;rw[o]at z;rw[htj]at Rj;have z:sj=mo f.locals.length s1:=z;rw[z,<-Y]at Rj;have gj:=(gA Nj).1;clear o htj z hvj;repeat' (first
    |(apply ah ?_;clear hK K)|apply Ry.o ?_|(apply bb (fun C Z=>?_) (fun C Z=>?_)<;>try(cases C;done))|apply ak ?_|(apply zkU fun K hK=>?_)|apply zlu ?_)
   refine aZ rfl bc bi ?_;simp only[bj];refine aS ?_ (Qs (X:=X.nx (ff (f.params++f.locals) 0 [])) hG hX (n+1) n (cE n) f.body (kK f) s h1 hFs ac hvst Rj);rintro w H6 ⟨S6,lv6,vv6,R6,F6⟩;have N6:=Nj.fr F6;have g6:=(gA N6).1;clear Rj Nj F6 gj;dsimp only[zk6];repeat' (first
    |(apply ah ?_;clear hK K)|apply Rx.o ?_|apply ak ?_|(apply zkU fun K hK=>?_)|fail)
   refine aZ rfl bc bi ?_;simp only[bj];refine aS ?_ (rZ (X:=X.nx (ff (f.params++f.locals) 0 [])) hG hX n f.value s v h2 hF R6 (cY _ _ _ _));rintro w H7 ⟨rfl,S7,V,R7,F7⟩;have N7:=N6.fr F7;obtain⟨g7,g7r⟩:=gA N7;have m7:=R7.m;have nd7:=R7.nodes;obtain⟨ho1,ho2⟩:=nd7.one;have n7:H.next+2<=H7.next:=N7.next
   have bGr:zma Tryz.prog 32 [(0,.str f.name),(1,.int .i64 f.params.length),(2,V),(3,.int .i64 v.1),(4,.int .i64 v.2.state)]=some (.agg [.str f.name,.int .i64 f.params.length,V,.int .i64 v.1,.int .i64 v.2.state]):=by
    rcases nd7 with⟨rfl,_⟩|⟨q,im,rows,rfl,_⟩<;>kernel_rfl
   have key:∀k,k<H.next->k≠X.b->k≠X.rt->k≠X.rn->(H7.set (H.next+1) (.cells [.str f.name,.int .i64 f.params.length,V,.int .i64 v.1,.int .i64 v.2.state] 0 true)).get k=H.get k:=fun k a b c d=>by
    rw[aJ,af ac,N7.get k cL b c d,zkZ,af cL,zkZ,af ac]
   have fin:Qu X H ⟨f.name,f.params.length,v.2.l,v.1,v.2.state⟩ (.agg [.str f.name,.int .i64 f.params.length,V,.int .i64 v.1,.int .i64 v.2.state]) (H7.set (H.next+1) (.cells [.str f.name,.int .i64 f.params.length,V,.int .i64 v.1,.int .i64 v.2.state] 0 true)):=
    ⟨S7,V,rfl,nd7.keep (fun _ _ h=>h) (aB _) fun k o _=>by rw[aJ,af Qj],gc,fun k o=>Qj,key⟩
   dsimp only[zlB,Lx.nx]at m7;clear key nd7 R6 R7 N6 N7 F7 g6;dsimp only[zk6];repeat' (first
    |(apply ah ?_;clear hK K)|apply Rx.o ?_|apply bS ?_|apply ak ?_|(apply rK 16 fun K hK=>?_)|apply aF ?_|fail)
   have ag:zlT 5 [.str f.name,.int .i64 f.params.length,V,.int .i64 v.1,.int .i64 v.2.state]=some (.agg [.str f.name,.int .i64 f.params.length,V,.int .i64 v.1,.int .i64 v.2.state]):=rfl;refine⟨eI,_,(by(try simp only[zk1,zk7,Nat.reduceBEq,tyF,zlX,zl1, *]);first|done|with_reducible rfl),?_⟩;try simp only[zkX]
   exact fin
end
section
def tyW4a.tyF:=ad @cJ (ad @dd (ad @em (ad @en (ad @zms (ad @eY (@ec))))))
open tyW4a
noncomputable def Qv:{c:SC // aC 28 (Tryz.f122.body.getD .skip)=c}:=by
 refine⟨?_,?_⟩;rotate_left
 .simp only[Tryz.f122,bI,aC,zll,zle,zlp,zln,Nat.blt,Nat.ble];rfl
noncomputable def Qw:{c:SC // aC 39 (Tryz.f116.body.getD .skip)=c}:=by
 refine⟨?_,?_⟩;rotate_left
 .simp only[Tryz.f116,bI,aC,zll,zle,zlp,zln,Nat.blt,Nat.ble];rfl
def xV(cfg:Cfg)(base:Nat)(I:Hp->Prop)(g:FuncId)(cap:List AV)(q:Ex->Int->Bool):Prop:=
 ∀(x:Ex) (d:Int) (H:Hp),x.sz<2^60->base<=H.next->I H->zk5 Tryz.prog cfg g (.agg x.cells::.int .i64 d::cap) H fun v H'=>v=.bool (q x d)/\FrB base H H'/\I H'
def uJ(base:Nat)(I:Hp->Prop):Prop:=∀H H',I H->jc base H H'->I H'
theorem xW{cfg:Cfg}(hw:Plain cfg 122){base:Nat}{I:Hp->Prop}(hI:uJ base I){g:FuncId}{cap:List AV}{q:Ex->Int->Bool}(hq:xV cfg base I g cap q):
 ∀(n:Nat) (x:Ex),x.sz<n->∀(d:Int) (H:Hp),x.sz<2^60->base<=H.next->I H->zk5 Tryz.prog cfg 122 [.agg x.cells,.int .i64 d,.clo g cap] H fun v H'=>v=.bool (m1 q x d)/\FrB base H H'/\I H'
 |0,x,hx,_,_,_,_,_=>by omega
 |n+1,x,hx,d,H,hz,hbase,hi=>by
  refine zlf (M:=28) (rs:=[.tmp 6]) (hw.call _) hw.ice hw.froz Tryz.func122 rfl rfl Qv.2 rfl ?_;dsimp only[Qv,zD,Nat.reduceAdd];repeat' (first
   |(apply ah ?_;clear hK K)|apply Rx.o ?_|apply ak ?_|(apply zkU fun K hK=>?_)|fail)
  refine aZ rfl bc bi ?_;simp only[CH];have o:FrB base H (H.alloc (.cells x.cells 0 true)):=(jy _ _).alloc _;refine aS ?_ (hq x d (H.alloc (.cells x.cells 0 true)) hz cL (hI _ _ hi ((qR _ _).alloc hbase _)));rintro v H1 ⟨rfl,J,U⟩;have hg1:H1.get H.next=some (.cells x.cells 0 true):=by
   rw[J.get _ hbase xD,zkZ,am rfl]
  have hn1:H.next<H1.next:=by have:=J.next;simp only[zk9]at this;omega
  dsimp only[zk6];repeat' (first
   |(apply ah ?_;clear hK K)|apply Rx.o ?_|(apply a0 (fun Z j=>?_) (fun Z j=>?_)<;>try(cases Z;done))|apply ak ?_|(apply zkU fun K hK=>?_)|apply aG ?_|apply zk3 ?_|apply aF ?_|fail)
  .all_goals (refine⟨eI,_,eR,?_⟩;try simp only[zkX])
   refine⟨?_,o.trans J,U⟩;rw[G6];simp_all
  have hl:x.kids.length<2^60:=by have:=znJ x.kids;have:=x.sz_eq;omega
  refine qJ (fun i E Y=>jx q x.kids (bE (d+1))=jx q (x.kids.drop i) (bE (d+1))/\E.at 1=.int .i64 d/\E.at 2=.clo g cap/\E.at 15=.lst (x.kids.map Ex.cells)/\E.at 16=.int .i64 x.kids.length/\E.at 17=.int .i64 i/\FrB base H Y/\I Y) x.kids.length ?_ ?_
  .rintro i E Y hi2 ⟨hc,h1,h2,h15,h16,h17,V,m⟩;repeat' (first
    |(apply ah ?_;clear hK K)|apply Rx.o ?_|(apply a0 (fun Z j=>?_) (fun Z j=>?_)<;>try(cases Z;done))|apply ak ?_|(apply zkU fun K hK=>?_)|apply aG ?_|apply zk3 ?_|apply aF ?_|apply zlu ?_)
   .have C:i<x.kids.length:=by simpa using Z
    have hgx:x.kids[i]?=some x.kids[i]:=aT C;repeat' (first
     |(apply ah ?_;clear hK K)|apply Rx.o ?_|apply bS ?_|apply ak ?_|(apply zkU fun K hK=>?_)|fail)
    have hxm:x.kids[i]∈x.kids:=cR C;have hsm:=znK hxm;have hsx:=x.sz_eq;have hf3:FrB base Y ((Y.alloc (.cells [.int .i64 0,.int .i64 0,.str [],.int .i64 0,.nilS] 0 true)).set Y.next (.cells x.kids[i].cells 0 true)):=((jy _ _).alloc _).set (.inl (aB _)) _;have hb2:base<=Y.next:=dc hbase (V.next)
    have hlow:jc base Y ((Y.alloc (.cells [.int .i64 0,.int .i64 0,.str [],.int .i64 0,.nilS] 0 true)).set Y.next (.cells x.kids[i].cells 0 true)):=((qR _ _).alloc hb2 _).set hb2 _;refine aZ rfl bc bi ?_;simp only[bj];refine aS ?_ (xW hw hI hq n x.kids[i] ac _ _ ac mM (hI _ _ m hlow));rintro v H3 ⟨rfl,O,z⟩;dsimp only[zk6];repeat' (first
     |(apply ah ?_;clear hK K)|apply Rx.o ?_|(apply a0 (fun Z j=>?_) (fun Z j=>?_)<;>try(cases Z;done))|apply ak ?_|(apply zkU fun K hK=>?_)|apply zk3 ?_|apply aF ?_|fail)
    .all_goals (refine⟨eI,_,eR,?_⟩;try simp only[zkX])
     refine⟨?_,(V.trans hf3).trans O,z⟩;rw[G6,hc,CL q C];simp_all
    .refine⟨C,?_,eE,eE,eE,eE,?_,(V.trans hf3).trans O,z⟩
     .rw[hc,CL q C];simp_all
     .simp only[kh,Nat.reduceBEq,iV,zm3 (show i<2^62 by omega)]
   .have hi3:i=x.kids.length:=by simp at Z;omega
    all_goals (refine⟨eI,_,eR,?_⟩;try simp only[zkX])
    refine⟨?_,V,m⟩;rw[G6,hc,hi3];simp_all[jx]
  .exact⟨rfl,eE,eE,eE,eE,eE,o.trans J,U⟩
end
section
def tyW4b.tyF:=ad @cJ (ad @dd (ad @em (ad @en (ad @zms (@eY)))))
open tyW4b
def Az{Y:Type}(cfg:Cfg)(base:Nat)(I:Y->Hp->Prop)(g:FuncId)(cap:List AV)(q:St->Int->Y->Bool×Y):Prop:=
 ∀(x:St) (d:Int) (s:Y) (H:Hp),x.sz<2^60->base<=H.next->I s H->zk5 Tryz.prog cfg g (.agg x.cells::.int .i64 d::cap) H fun v H'=>v=.bool (q x d s).1/\FrB base H H'/\I (q x d s).2 H'
theorem xX{cfg:Cfg}(hw:Plain cfg 116){σ:Type}{base:Nat}{I:σ->Hp->Prop}(hI:∀s,uJ base (I s)){g:FuncId}{cap:List AV}{q:St->Int->σ->Bool×σ}(hq:Az cfg base I g cap q):
 ∀(n:Nat) (l:List St),zld l<n->∀(d:Int) (s:σ) (H:Hp),zld l<2^60->base<=H.next->I s H->zk5 Tryz.prog cfg 116 [.lst (l.map St.cells),.int .i64 d,.clo g cap] H fun v H'=>v=.bool (zmG q l d s).1/\FrB base H H'/\I (zmG q l d s).2 H'
 |0,l,hx,_,_,_,_,_,_=>by omega
 |n+1,l,hx,d,s,H,hz,hbase,hi=>by
  refine zlf (M:=39) (rs:=[.tmp 6]) (hw.call _) hw.ice hw.froz Tryz.func116 rfl rfl Qw.2 rfl ?_;dsimp only[Qw,zD,Nat.reduceAdd];repeat' (first
   |(apply ah ?_;clear hK K)|apply Rx.o ?_|apply ak ?_|(apply zkU fun K hK=>?_)|apply aG ?_|fail)
  have hl:l.length<2^60:=by have:=znP l;omega
  refine qJ (fun i E V=>∃s2,zmG q l d s=zmG q (l.drop i) d s2/\E.at 1=.int .i64 d/\E.at 2=.clo g cap/\E.at 9=.lst (l.map St.cells)/\E.at 10=.int .i64 l.length/\E.at 11=.int .i64 i/\FrB base H V/\I s2 V) l.length ?_ ?_
  .rintro i E V hi2 ⟨s2,hc,h1,h2,h9,h10,h11,U,hI2⟩;repeat' (first
    |(apply ah ?_;clear hK K)|apply Rx.o ?_|(apply a0 (fun C j=>?_) (fun C j=>?_)<;>try(cases C;done))|apply ak ?_|(apply zkU fun K hK=>?_)|apply aG ?_|apply zk3 ?_|apply aF ?_|apply zlu ?_)
   .have O:i<l.length:=by simpa using C
    have hgx:l[i]?=some l[i]:=aT O;repeat' (first
     |(apply ah ?_;clear hK K)|apply Rx.o ?_|apply bS ?_|apply ak ?_|(apply zkU fun K hK=>?_)|fail)
    have hxm:l[i]∈l:=cR O;have hsm:=znL hxm;have hsx:=l[i].sz_eq;generalize hx0:l[i]=x at *;have J:base<=V.next:=dc hbase U.next
    generalize z:(V.alloc _).set V.next _=H3
    have hf3:FrB base V H3:=by rw[<-z];exact((jy _ _).alloc _).set (.inl (aB _)) _
    have hlow:jc base V H3:=by rw[<-z];exact((qR _ _).alloc J _).set J _
    have hn3:V.next<H3.next:=by rw[<-z];simp only[zk9,zli];omega
    have hg3:H3.get V.next=some (.cells x.cells 0 true):=by rw[<-z,aJ,am rfl]
    have hI3:=hI _ _ _ hI2 hlow;have hwd:=zqu q O d s2;rw[hx0,zvj]at hwd;rw[hwd]at hc;refine aZ rfl bc bi ?_;simp only[CH];refine aS ?_ (hq x d s2 H3 ac ac hI3);rintro v H4 ⟨rfl,m,hI4⟩;generalize hq1:q x d s2=r1 at *;obtain⟨ok1,s3⟩:=r1;have hg4:H4.get V.next=some (.cells x.cells 0 true):=by rw[m.get _ J hn3];exact hg3
    have hn4:V.next<H4.next:=mB hn3 m.next
    dsimp only[zk6];cases ok1 with
    |false=>
     repeat' (first
      |(apply ah ?_;clear hK K)|apply Rx.o ?_|(apply cz (fun Z Y=>?_) (fun Z Y=>?_)<;>try(cases Z;done))|(apply a0 (fun C j=>?_) (fun C j=>?_)<;>try(cases C;done))|apply ak ?_|(apply zkU fun K hK=>?_)|apply aF ?_|fail)
     all_goals (refine⟨eI,_,eR,?_⟩;try simp only[zkX])
     dsimp only at hc;rw[hc];exact⟨rfl,(U.trans hf3).trans m,hI4⟩
    |true=>
     repeat' (first
      |apply Rx.o ?_|(apply cz (fun Z Y=>?_) (fun Z Y=>?_)<;>try(cases Z;done))|fail)
     refine aZ rfl bc bi ?_;simp only[bj];have hrec:=xX hw hI hq n x.thn ac (bE (d+1)) s3 H4 ac ac hI4;refine aS ?_ hrec;rintro v H5 ⟨rfl,o,hI5⟩;generalize hq2:zmG q x.thn (bE (d+1)) s3=r2 at *;obtain⟨ok2,s4⟩:=r2;have hg5:H5.get V.next=some (.cells x.cells 0 true):=by rw[o.get _ J hn4];exact hg4
     have hn5:V.next<H5.next:=mB hn4 o.next
     dsimp only[zk6];cases ok2 with
     |false=>
      repeat' (first
       |(apply ah ?_;clear hK K)|apply Rx.o ?_|(apply cz (fun Z Y=>?_) (fun Z Y=>?_)<;>try(cases Z;done))|(apply a0 (fun C j=>?_) (fun C j=>?_)<;>try(cases C;done))|apply ak ?_|(apply zkU fun K hK=>?_)|apply aF ?_|fail)
      all_goals (refine⟨eI,_,eR,?_⟩;try simp only[zkX])
      simp only[hq2]at hc;rw[hc];exact⟨rfl,((U.trans hf3).trans m).trans o,hI5⟩
     |true=>
      repeat' (first
       |apply Rx.o ?_|(apply cz (fun Z Y=>?_) (fun Z Y=>?_)<;>try(cases Z;done))|fail)
      refine aZ rfl bc bi ?_;simp only[bj];have hrec2:=xX hw hI hq n x.els ac (bE (d+1)) s4 H5 ac ac hI5;refine aS ?_ hrec2;rintro v H6 ⟨rfl,hf6,hI6⟩;generalize hq3:zmG q x.els (bE (d+1)) s4=r3 at *;obtain⟨ok3,s5⟩:=r3;dsimp only[zk6];have hf7:FrB base H H6:=(((U.trans hf3).trans m).trans o).trans hf6;cases ok3 with
      |false=>
       repeat' (first
        |(apply ah ?_;clear hK K)|apply Rx.o ?_|(apply cz (fun Z Y=>?_) (fun Z Y=>?_)<;>try(cases Z;done))|(apply a0 (fun C j=>?_) (fun C j=>?_)<;>try(cases C;done))|apply ak ?_|(apply zkU fun K hK=>?_)|apply aF ?_|fail)
       all_goals (refine⟨eI,_,eR,?_⟩;try simp only[zkX])
       simp only[hq2,hq3]at hc;rw[hc];exact⟨rfl,hf7,hI6⟩
      |true=>
       repeat' (first
        |(apply ah ?_;clear hK K)|apply Rx.o ?_|(apply cz (fun Z Y=>?_) (fun Z Y=>?_)<;>try(cases Z;done))|(apply a0 (fun C j=>?_) (fun C j=>?_)<;>try(cases C;done))|(apply zkU fun K hK=>?_)|apply zk3 ?_|fail)
       refine⟨O,s5,?_,eE,eE,eE,eE,?_,hf7,hI6⟩
       .simp only[hq2,hq3]at hc;exact hc
       .simp only[kh,Nat.reduceBEq,iV,zm3 (show i<2^62 by omega)]
   .have hi3:i=l.length:=by simp at C;omega
    all_goals (refine⟨eI,_,eR,?_⟩;try simp only[zkX])
    rw[hc,hi3];simp only[gT,zmG];exact⟨trivial,U,hI2⟩
  .exact⟨s,rfl,eE,eE,eE,eE,eE,jy _ _,hi⟩
end
section
def tyW4c.tyF:=ad @cJ (ad @dd (ad @em (ad @en (ad @zms (ad @eY (ad @ec (ad @fx (ad @iR (@L3)))))))))
open tyW4c
noncomputable def Qx:{c:SC // aC 24 (Tryz.f117.body.getD .skip)=c}:=by
 refine⟨?_,?_⟩;rotate_left
 .simp only[Tryz.f117,bI,aC,zll,zle,zlp,zln,Nat.blt,Nat.ble];rfl
noncomputable def Qy:{c:SC // aC 7 (Tryz.f119.body.getD .skip)=c}:=by
 refine⟨?_,?_⟩;rotate_left
 .simp only[Tryz.f119,bI,aC,zll,zle,zlp,zln,Nat.blt,Nat.ble];rfl
noncomputable def Qz:{c:SC // aC 32 (Tryz.f155.body.getD .skip)=c}:=by
 refine⟨?_,?_⟩;rotate_left
 .simp only[Tryz.f155,bI,aC,zll,zle,zlp,zln,Nat.blt,Nat.ble];rfl
noncomputable def QA:{c:SC // aC 15 (Tryz.f118.body.getD .skip)=c}:=by
 refine⟨?_,?_⟩;rotate_left
 .simp only[Tryz.f118,bI,aC,zll,zle,zlp,zln,Nat.blt,Nat.ble];rfl
theorem zA3{cfg:Cfg}(O:Plain cfg 117){base rn rl:Nat}(J:rn<base)(z:rl<base)(m:rn≠rl)(Hb:Hp):
 Az cfg base (fun(s:Int×Int) H=>H.get rn=some (.cells [.int .i64 s.1] 0 true)/\H.get rl=some (.cells [.int .i64 s.2] 0 true)/\∀r,r<base->r≠rn->r≠rl->H.get r=Hb.get r) 117 [.ptr rn 0,.ptr rl 0] oW:=by
 intro x d s H hz Z ⟨hi1,hi2,V⟩;have e1:(rn == H.next)=false:=b9;have e2:(rl == H.next)=false:=b9;have e3:(rl == rn)=false:=b9;have e4:(rn == rl)=false:=b9;have e5:(H.next == rn)=false:=b9;have e6:(H.next == rl)=false:=b9;refine zlf (M:=24) (rs:=[.tmp 6]) (O.call _) O.ice O.froz Tryz.func117 rfl rfl Qx.2 rfl ?_;dsimp only[Qx,zD,Nat.reduceAdd];repeat' (first
  |(apply ah ?_;clear hK K)|apply Rx.o ?_|apply bS ?_|(apply cz (fun U Y=>?_) (fun U Y=>?_)<;>try(cases U;done))|(apply a0 (fun C j=>?_) (fun C j=>?_)<;>try(cases C;done))|apply ak ?_|(apply zkU fun K hK=>?_)|apply zk3 ?_|apply aF ?_)
 all_goals (refine⟨eI,_,eR,?_⟩;try simp only[zkX])
 all_goals (refine⟨?_,?_,?_,?_,?_⟩)
 all_goals first
  |(intro r q1 o I;simp only[aJ,zkZ,o,I,show ¬r=H.next by omega,dL];exact V r q1 o I)
  |exact(((jy _ _).alloc _).set (.inr J) _).set (.inr z) _
  |exact((jy _ _).alloc _).set (.inr J) _
  |(simp only[get_set,vz,oW, *,iV,pQ,D5,jO,kZ,dB,dL];done)
  |(simp_all[oW,get_set,vz];done)
  |skip
theorem zA4{cfg:Cfg}(Z:Plain cfg 119){base:Nat}{I:Hp->Prop}(o:uJ base I):xV cfg base I 119 [] sT:=by
 intro x d H J O Y;refine zlf (M:=7) (rs:=[.tmp 4]) (Z.call _) Z.ice Z.froz Tryz.func119 rfl rfl Qy.2 rfl ?_;dsimp only[Qy,zD,Nat.reduceAdd];repeat' (first
  |(apply ah ?_;clear hK K)|apply Rx.o ?_|apply ak ?_|(apply zkU fun K hK=>?_)|apply aF ?_)
 all_goals (refine⟨eI,_,eR,?_⟩;try simp only[zkX])
 exact⟨rfl,(jy _ _).alloc _,o _ _ Y ((qR _ _).alloc O _)⟩
theorem zA5{cfg:Cfg}(hw:Plain cfg 155)(hwe:Plain cfg 122){base Z:Nat}(V:base<=Z){I:Hp->Prop}(hI:uJ base I){g:FuncId}{cap:List AV}{q:Ex->Int->Bool}(hq:xV cfg base I g cap q)
 {Y:Nat} (hr1:base<=Y) (hr2:Y<Z) (H1:Hp) :
 Az cfg Z (fun(_:Unit) H=>I H/\H.get Y=some (.cells [.clo g cap] 0 true)/\∀r,base<=r->r<Z->H.get r=H1.get r) 155 [.ptr Y 0] (pW q):=by
 intro x d s H hz hbase ⟨hi,hi3,hi1⟩;have hsz:=x.sz_eq;have e1:(Y == H.next)=false:=b9;have e2:(H.next == Y)=false:=b9;refine zlf (M:=32) (rs:=[.tmp 5]) (hw.call _) hw.ice hw.froz Tryz.func155 rfl rfl Qz.2 rfl ?_;dsimp only[Qz,zD,Nat.reduceAdd];repeat' (first
  |(apply ah ?_;clear hK K)|apply Rx.o ?_|apply ak ?_|(apply zkU fun K hK=>?_)|fail)
 have hIa:=hI _ _ hi ((qR base H).alloc (dc V hbase) (.cells x.cells 0 true));refine aZ rfl bc bi ?_;simp only[bj];refine aS ?_ (xW hwe hI hq (x.at_.sz+1) x.at_ ac 0 _ ac cL hIa);rintro v H2 ⟨rfl,hf2,hi2⟩;have hn2:H.next<H2.next:=by have:=hf2.next;simp only[zk9]at this;omega
 have hg2:H2.get H.next=some (.cells x.cells 0 true):=by rw[hf2.get _ ac xD,zkZ,am rfl]
 have hr3:H2.get Y=some (.cells [.clo g cap] 0 true):=by rw[hf2.get _ hr1 cL,zkZ,af ac];exact hi3
 have hF2:FrB base H H2:=((jy _ _).alloc _).trans hf2;have m:∀r,base<=r->r<Z->H2.get r=H1.get r:=fun r h1 h2=>by rw[hF2.get r h1 ac];exact hi1 r h1 h2
 dsimp only[zk6];repeat' (first
  |(apply ah ?_;clear hK K)|apply Rx.o ?_|(apply cz (fun hg hgp=>?_) (fun hg hgp=>?_)<;>try(cases hg;done))|(apply a0 (fun C j=>?_) (fun C j=>?_)<;>try(cases C;done))|apply ak ?_|(apply zkU fun K hK=>?_)|apply aF ?_|fail)
 .refine aZ rfl bc bi ?_;simp only[bj];refine aS ?_ (xW hwe hI hq (x.value.sz+1) x.value ac 0 _ ac ac hi2);rintro v H3 ⟨rfl,U,hi3'⟩;have hn3:H.next<H3.next:=mB hn2 U.next
  have hg3:H3.get H.next=some (.cells x.cells 0 true):=by rw[U.get _ ac hn2];exact hg2
  have hr3b:H3.get Y=some (.cells [.clo g cap] 0 true):=by rw[U.get _ hr1 ac];exact hr3
  have hF3:FrB base H H3:=hF2.trans U;have z:∀r,base<=r->r<Z->H3.get r=H1.get r:=fun r h1 h2=>by rw[U.get r h1 ac];exact m r h1 h2
  dsimp only[zk6];repeat' (first
   |(apply ah ?_;clear hK K)|apply Rx.o ?_|(apply cz (fun hg hgp=>?_) (fun hg hgp=>?_)<;>try(cases hg;done))|(apply a0 (fun C j=>?_) (fun C j=>?_)<;>try(cases C;done))|apply ak ?_|(apply zkU fun K hK=>?_)|apply aG ?_|apply zk3 ?_|apply aF ?_|fail)
  .all_goals (refine⟨eI,_,eR,?_⟩;try simp only[zkX])
   exact⟨by simp_all[pW],hF3.weak V,hi3',hr3b,z⟩
  have hl:x.args.length<2^60:=by have:=znJ x.args;omega
  refine qJ (fun i E H2=>jx q x.args 0=jx q (x.args.drop i) 0/\E.at 2=.ptr Y 0/\E.at 21=.lst (x.args.map Ex.cells)/\E.at 22=.int .i64 x.args.length/\E.at 23=.int .i64 i/\FrB base H H2/\I H2/\H2.get Y=some (.cells [.clo g cap] 0 true)/\(∀r,base<=r->r<Z->H2.get r=H1.get r)) x.args.length ?_ ?_
  .rintro i E H4 hi2 ⟨hc,h2,h21,h22,h23,hf4,hI4,hr4,O⟩;have hn4:=hf4.next
   have e3:(Y == H4.next)=false:=b9;repeat' (first
    |(apply ah ?_;clear hK K)|apply Rx.o ?_|(apply a0 (fun C j=>?_) (fun C j=>?_)<;>try(cases C;done))|apply ak ?_|(apply zkU fun K hK=>?_)|apply aG ?_|apply zk3 ?_|apply aF ?_|apply zlu ?_)
   .have J:i<x.args.length:=by simpa using C
    have hgx:x.args[i]?=some x.args[i]:=aT J;repeat' (first
     |(apply ah ?_;clear hK K)|apply Rx.o ?_|apply bS ?_|apply ak ?_|(apply zkU fun K hK=>?_)|fail)
    have hxm:x.args[i]∈x.args:=cR J;have hsm:=znK hxm;have hb4:base<=H4.next:=ac
    generalize hH5:(H4.alloc _).set H4.next _=H5
    have hf5:FrB base H4 H5:=by rw[<-hH5];exact((jy _ _).alloc _).set (.inl (aB _)) _
    have hlow5:jc base H4 H5:=by rw[<-hH5];exact((qR _ _).alloc hb4 _).set hb4 _
    have hn5:H4.next<H5.next:=by rw[<-hH5];simp only[zk9,zli];omega
    refine aZ rfl bc bi ?_;simp only[bj];refine aS ?_ (xW hwe hI hq (x.args[i].sz+1) x.args[i] ac 0 _ ac ac (hI _ _ hI4 hlow5));rintro v H6 ⟨rfl,hf6,hi6⟩;have hF6:FrB base H4 H6:=hf5.trans hf6;have hr6:H6.get Y=some (.cells [.clo g cap] 0 true):=by rw[hF6.get _ hr1 ac];exact hr4
    have o:∀r,base<=r->r<Z->H6.get r=H1.get r:=fun r h1 h2=>by rw[hF6.get r h1 ac];exact O r h1 h2
    dsimp only[zk6];repeat' (first
     |(apply ah ?_;clear hK K)|apply Rx.o ?_|(apply a0 (fun C j=>?_) (fun C j=>?_)<;>try(cases C;done))|apply ak ?_|(apply zkU fun K hK=>?_)|apply zk3 ?_|apply aF ?_|fail)
    .all_goals (refine⟨eI,_,eR,?_⟩;try simp only[zkX])
     refine⟨?_,(hf4.trans hF6).weak V,hi6,hr6,o⟩;have:=CL q J 0;simp_all[pW]
    .refine⟨J,?_,eE,eE,eE,?_,hf4.trans hF6,hi6,hr6,o⟩
     .rw[hc,CL q J];simp_all
     .simp only[kh,Nat.reduceBEq,iV,zm3 (show i<2^62 by omega)]
   .have hi3:i=x.args.length:=by simp at C;omega
    all_goals (refine⟨eI,_,eR,?_⟩;try simp only[zkX])
    refine⟨?_,hf4.weak V,hI4,hr4,O⟩;rw[hi3]at hc;simp_all[pW,jx]
  .exact⟨rfl,eE,eE,eE,eE,hF3,hi3',hr3b,z⟩
 .all_goals (refine⟨eI,_,eR,?_⟩;try simp only[zkX])
  exact⟨by simp_all[pW],hF2.weak V,hi2,hr3,m⟩
end
section
def tyW4d.tyF:=ad @ec (ad @cJ (ad @dd (ad @fx (ad @em (ad @en (ad @zms (ad @iR (ad @eY (@L3)))))))))
open tyW4d
structure Plains (cfg:Cfg):Prop where
 we:Plain cfg 122
 ws:Plain cfg 116
 wx:Plain cfg 118
 wx1:Plain cfg 155
theorem QB{cfg:Cfg}(C:Plains cfg){base:Nat}{I:Hp->Prop}(hI:uJ base I){g:FuncId}{cap:List AV}{q:Ex->Int->Bool}(hq:xV cfg base I g cap q)(x:Fu)(H:Hp)(hz:x.sz<2^60)(O:base<=H.next)(hi:I H):
 zk5 Tryz.prog cfg 118 [.agg x.cells,.clo g cap] H fun v H'=>v=.bool (pX q x)/\FrB base H H'/\I H':=by
 have hw:=C.wx;have hsz:x.sz=1+x.name.length+zmd x.params+zmd x.locals+zld x.body+x.value.sz:=rfl;refine zlf (M:=15) (rs:=[.tmp 4]) (hw.call _) hw.ice hw.froz Tryz.func118 rfl rfl QA.2 rfl ?_;dsimp only[QA,zD,Nat.reduceAdd];repeat' (first
  |(apply ah ?_;clear hK K)|apply Rx.o ?_|apply ak ?_|(apply zkU fun K hK=>?_)|fail)
 generalize Z:(H.alloc (.cells x.cells 0 true)).alloc (.cells [.clo g cap] 0 true)=H1;have o:FrB base H H1:=by rw[<-Z];exact((jy _ _).alloc _).alloc _
 have hl1:jc base H H1:=by rw[<-Z];exact((qR _ _).alloc O _).alloc cL _
 have hn1:H1.next=H.next+2:=ti
 have hga:H1.get H.next=some (.cells x.cells 0 true):=by rw[<-Z,zkZ,af xD,zkZ,am rfl]
 have hgb:H1.get (H.next+1)=some (.cells [.clo g cap] 0 true):=by rw[<-Z,zkZ,am xD]
 refine aZ rfl bc bi ?_;simp only[bj];refine aS ?_ (xW C.we hI hq (x.value.sz+1) x.value ac 0 H1 ac ac (hI _ _ hi hl1));rintro v Y ⟨rfl,j,V⟩;have hn2:=j.next
 have hga2:Y.get H.next=some (.cells x.cells 0 true):=by rw[j.get _ O ac];exact hga
 have m:Y.get (H.next+1)=some (.cells [.clo g cap] 0 true):=by rw[j.get _ ac ac];exact hgb
 dsimp only[zk6];repeat' (first
  |(apply ah ?_;clear hK K)|apply Rx.o ?_|(apply cz (fun hg hgp=>?_) (fun hg hgp=>?_)<;>try(cases hg;done))|apply aF ?_)
 .refine aZ rfl bc bi ?_;simp only[bj];refine aS ?_ (xX C.ws (base:=H.next+2) (I:=fun(_:Unit) H'=>I H'/\H'.get (H.next+1)=some (.cells [.clo g cap] 0 true)/\∀r,base<=r->r<H.next+2->H'.get r=Y.get r) ?_ (zA5 C.wx1 C.we ac hI hq ac ac Y) (zld x.body+1) x.body ac 0 () Y ac ac ⟨V,m,fun _ _ _=>rfl⟩)
  .rintro v H3 ⟨rfl,U,hi3,hg3,z⟩;have hF3:FrB base Y H3:=⟨U.next,fun r h1 h2=>by
    by_cases hr:r<H.next+2
    .exact z r h1 hr
    .exact U.get r ac h2⟩
   dsimp only[zk6];repeat' (first
    |(apply ah ?_;clear hK K)|apply Rx.o ?_|apply aF ?_)
   all_goals (refine⟨eI,_,eR,?_⟩;try simp only[zkX])
   exact⟨by simp_all[pX],(o.trans j).trans hF3,hi3⟩
  .intro _ Ha Hb ⟨h1,h2,h3⟩ J;exact⟨hI _ _ h1 (J.weak ac),by rw[J _ ac];exact h2,fun r q1 q2=>by rw[J _ q2];exact h3 r q1 q2⟩
 .all_goals (refine⟨eI,_,eR,?_⟩;try simp only[zkX])
  exact⟨by simp_all[pX],o.trans j,V⟩
end
end Go.Proofs.YtpbcimfiofmoeaaGreat
