/- Parts: AbOps3, AbOps4, AbOps5, AbOps6, AbOp, AbRun, AbDraw1. -/
import Derived.Laws.Tables
import Derived.Lib.Strings
import Derived.Test.YtljebeflbbgibaaGreatYCB
set_option linter.unusedSimpArgs false
set_option linter.unusedVariables false
set_option linter.unusedSectionVars false
set_option linter.defProp false
set_option maxHeartbeats 32000000
namespace Go.Ab
set_option maxRecDepth 20000
open Go
theorem zA{P:Prop}(h:P:=by show J.data.toList.length=J.data.size;simp):P:=h
theorem zB{P:Prop}(h:P:=by rw[<- Nat.add_mul];congr 1;omega):P:=h
theorem wt{P:Prop}(h:P:=by simpa using K):P:=h
theorem qb{P:Prop}(h:P:=by simpa using Z):P:=h
theorem wu{P:Prop}(h:P:=by simp[Builtin.lenOf]):P:=h
theorem rZ{P:Prop}(h:P:=by rw[List.length_take];omega):P:=h
theorem t7{P:Prop}(h:P:=by simp[Builtin.len_,zd5 hd,goInt]):P:=h
theorem t8{P:Prop}(h:P:=by simpa using F):P:=h
theorem nN{P:Prop}(h:P:=by simp[Z]):P:=h
theorem dV{P:Prop}(h:P:=by simp[Op.operands]):P:=h
theorem zC{P:Prop}(h:P:=by simp only[Op.operands,List.mem_toArray,List.mem_map];exact⟨p,hp,rfl⟩):P:=h
theorem zD{P:Prop}(h:P:=by apply Array.ext';simp):P:=h
theorem r0{P:Prop}(h:P:=by rw[I];rfl):P:=h
def kC:=@Nat.sub_self
def jy:=@Option.map_some
def kD:=@congrArg
def cN:=@Nat.zero_le
def lh:=@Nat.add_mul
def zE:=@List.zipIdx_cons
def Ds:=@Array.toList_setIfInBounds
def mz:=@List.take_add_one
def zF:=@Decidable.byContradiction
def mA:=@Nat.add_zero
def r1:=@Array.toArray_toList
def qc:=@Nat.succ_mul
def zG:=@Array.toList_map
def ea:=@List.getElem?_map
def zH:=@List.getElem?_range
def bB:=@List.append_nil
def r4:=@Nat.mul_le_mul_right
def zI:=@List.map_take
def qd:=@Go.IntWalk.i64_in
def lQ:=@List.flatten_cons
def t9:=@Nat.zero_mul
def zJ:=@Go.run_firstCells_some
def jU:=@List.mem_of_getElem?
def dW:=@List.drop_zero
def wv:=@Nat.sub_zero
def ua:=@List.take_length
def dB:=@Bool.and_eq_true
def ub:=@Nat.le_of_ble_eq_true
def ct:=@Bool.false_eq_true
def ww:=@List.drop_append_of_le_length
def jz:=@decide_eq_true_eq
def a8:=@Option.getD_some
def mB:=@List.getElem?_set
def uc:=@Array.getElem?_toList
def cS:=@List.cons.injEq
def gA:=@Nat.mul_one
def oK:=@Go.Code.wp_mono
def dO:=@List.map_cons
def kE:=And.intro @dB @jz
end Go.Ab
namespace Go.Ab
set_option maxRecDepth 20000
open Go Go.RowKit
def qe(G:Gh):Option AV->Option Value->Prop
 |none,none=>True
 |some c,some v=>VR G c v
 |_,_=>False
section
variable {P:Program} {B:Bs} {G:Gh} {H H':Hp} {w:World}
theorem wy{c:AV}{v:Value}{k y:Nat}(code:BoundsCode)(h:VR G c v)(z:yL 0 (some c)=some k)(j:k<=y):(Instr.sliceBound v y code).run P w=.ok k w:=by
 unfold yL at z;split at z
 .simp at *
 .rename_i K n e;simp only[aA]at z e;subst z;subst e;cases h;simp[Instr.sliceBound,asIntOf,j]
 .simp at z
theorem LJ{d k:Nat}{c:AV}(h:yL d (some c)=some k):yL 0 (some c)=some k:=by
 unfold yL at *;split at h<;>simp_all
theorem zK{lo C:Option AV}{O U:Option Value}{l h len cap:Nat}(I:qe G lo O)(Y:qe G C U)(V:yL 0 lo=some l)(W:yL len C=some h)(h1:l<=h)(h2:h<=len)(m:len<=cap)(Z:Bool):
 (Instr.sliceBounds Z len cap O U none).run P w=.ok (l,h,cap) w:=by
 cases C with
 |none=>
  cases U with
  |some v=>exact Y.elim
  |none=>
   simp only[yL,aA]at W;subst W;cases lo with
   |none=>
    cases O with
    |some v=>exact I.elim
    |none=>
     simp only[yL,aA]at V;subst V;simp[Instr.sliceBounds]
   |some c=>
    cases O with
    |none=>exact I.elim
    |some v=>simp[Instr.sliceBounds,wy _ I V h1]
 |some K=>
  cases U with
  |none=>exact Y.elim
  |some L=>
   have J:=LJ W;cases lo with
   |none=>
    cases O with
    |some v=>exact I.elim
    |none=>
     simp only[yL,aA]at V;subst V;simp[Instr.sliceBounds,wy _ Y J (show h<=cap by omega)]
   |some c=>
    cases O with
    |none=>exact I.elim
    |some v=>simp[Instr.sliceBounds,wy _ I V h1,wy _ Y J (show h<=cap by omega)]
theorem LK{t:TypeId}{x c:AV}{xv:Value}{lo C:Option AV}{I F:Option Value}(hx:VR G x xv)(hl:qe G lo I)(hh:qe G C F)(h:zeF P t x lo C=some c):
 ∃v,(Instr.sliceAt t xv I F none).run P w=.ok v w/\VR G c v:=by
 unfold zeF at h;split at h
 .rename_i s hd;split at h
  .rename_i l hh' V U;split at h
   .rename_i hc;simp only[aA]at h;subst h;cases hx with
    |str J _ hs=>
     subst hs;have hb:=zK (P:=P) (w:=w) (cap:=J.size) hl hh V U hc.1 hc.2 (by show J.data.toList.length<=J.data.size;simp) false;have hsz:J.data.toList.length=J.size:=zA;rw[hsz]at hb;refine⟨.string (J.extract l hh'),?_,.str _ _ (Lib.extract_data _ _ _)⟩;simp only[Instr.sliceAt,dN,zd5 hd,dU,Instr.slice];simp[hb]
   .simp at h
  .simp at h
 .rename_i e y hd;split at h
  .rename_i z hz;have g:∀(a:Option Addr) (W cap l Y:Nat),xv=.slice a W cap->yL 0 lo=some l->yL W C=some Y->l<=Y->Y<=W->W<=cap ->
    (Instr.sliceAt t xv I F none).run P w=.ok (.slice (if cap=l then a else a.map (·.add (l*z))) (Y-l) (cap-l)) w:=fun a W cap l Y e1 V U A K h3=>by
    subst e1;simp only[Instr.sliceAt,dN,zd5 hd,dU,Instr.slice];simp[zK hl hh V U A K h3,zfe hz]
   split at h
   .rename_i r off W z';split at h
    .rename_i l Y V U;split at h
     .rename_i hc;obtain⟨A,K,rfl⟩:=hc;cases hx with
      |sl hr hlc hx'=>
       rename_i b o x cap;have:=g _ W cap l Y rfl V U A K hlc;split at h
       .rename_i e1;simp only[aA]at h;subst h;subst e1;rw[kC]at this;exact⟨_,this,.lst0 _ _⟩
       .rename_i hne;simp only[aA]at h;subst h;rw[ah ac]at this;refine⟨_,this,?_⟩;simp only[jy,zfn];rw[hZ];refine .sl hr ac ?_;have e3:(cap-l)*z'+l*z'=cap*z':=zB;omega
     .simp at h
    .simp at h
   .rename_i xs;split at h
    .rename_i l Y V U;split at h
     .rename_i hc;obtain⟨A,K⟩:=hc;split at h
      .rename_i he;simp only[aA]at h;subst h;have Z:Y-l=0:=by
        have:=kD List.length he;simp only[iS,iw,jx]at this;omega
       cases hx with
       |lst vs hzz hF hv L=>
        have:=g _ _ _ l Y rfl V U A K L;rw[Z]at this;exact⟨_,this,.lst0 _ _⟩
       |lst0 a cap=>
        have:=g _ _ _ l Y rfl V U A K (cN cap);rw[Z]at this;exact⟨_,this,.lst0 _ _⟩
      .rename_i m rows he;split at h
       .rename_i hrl;simp only[aA]at h;subst h;have hpos:0<Y-l:=by
         have:=kD List.length he;simp only[iS,iw,dl]at this;omega
        cases hx with
        |lst0 a cap=>simp at K;omega
        |lst vs hzz hF hv L=>
         rename_i b o cap z';have O:=g _ _ _ l Y rfl V U A K L;rw[ah ac]at O;have M:∀i:Nat,(m::rows)[i]?=if i<Y-l then xs[l+i]? else none:=fun i=>by
          rw[<-he,mw,nI]
         have hz':z'=z:=by
          have:=M 0;rw[ay hpos]at this;rw[<-hzz (l+0) m (by rw[<-this];rfl)];exact hrl
         subst hz';have Z:(m::rows).length=Y-l:=by
          rw[<-he];simp only[iS,iw];omega
         refine⟨_,O,?_⟩;simp only[jy,zfn];rw[<-Z];refine .lst (z:=z') (fun i j=>vs (l+i) j) (fun i rw' C=>?_) (fun i j C hj=>?_) (fun i j rw' d C hj=>?_) (by rw[Z];omega)
         .rw[M i]at C;split at C
          .exact hzz _ _ C
          .simp at C
         .have:=hF (l+i) j (by rw[Z]at C;omega) hj;rw[<-this]
          congr 1
          rw[lh];omega
         .rw[M i]at C;split at C
          .exact hv _ _ _ _ C hj
          .simp at C
       .simp at h
     .simp at h
    .simp at h
   .split at h
    .rename_i V U;simp only[aA]at h;subst h;cases hx;have:=g none 0 0 0 0 rfl V U (aM _) (aM _) (aM _);exact⟨_,this,.nilS⟩
    .simp at h
   .simp at h
  .simp at h
 .simp at h
theorem bT.splice{cs L:List AV}{vs m:List Value}(h:bT G cs vs)(o:bT G L m)(off:Nat):bT G (Ab.splice cs off L) (vs.take off++m++vs.drop (off+m.length)):=by
 unfold Ab.splice;rw[o.1];exact((h.take off).append o).append (h.drop _)
theorem Dt(off:Nat):∀(m:List Value) (k:Nat) (cells:Array Value),off+k+m.length<=cells.size ->
 ((m.zipIdx k).foldl (fun W (c,j)=>W.setIfInBounds (off+j) c) cells).toList=cells.toList.take (off+k)++m++cells.toList.drop (off+k+m.length)
 |[],k,cells,_=>by simp
 |v::m,k,cells,h=>by
  simp only[dl]at h;rw[zE,List.foldl_cons,Dt off m (k+1) _ cp];simp only[Ds,dl];have hp:off+k<cells.toList.length:=cp;have i:(cells.toList.set (off+k) v).take (off+(k+1))=cells.toList.take (off+k)++[v]:=by
   rw[<-hZ,mz,List.take_set_of_le (aM _),List.getElem?_set_self hp];rfl
  rw[i,List.drop_set_of_lt ac,show off+(k+1)+m.length=off+k+(m.length+1) by omega];simp
theorem wz{O:Nat->Option (Nat×Nat)}:∀{ps:List (Nat×AV)}{pv:List (Nat×Value)}{cs out:List AV}{vs:List Value},ps.length=pv.length ->
 (∀(i:Nat) p q,ps[i]?=some p->pv[i]?=some q->p.1=q.1/\VR G p.2 q.2)->bT G cs vs->mn O cs ps=some out ->
 ∃Z,Instr.fill O vs.toArray pv=some Z.toArray/\bT G out Z
 |[],[],cs,out,vs,_,_,hv,h=>by
  simp only[mn,aA]at h;subst h;exact⟨vs,rfl,hv⟩
 |[],q::pv,_,_,_,hl,_,_,_=>by simp at hl
 |p::ps,[],_,_,_,hl,_,_,_=>by simp at hl
 |(i,c)::ps,(i',v)::pv,cs,out,vs,hl,hp,hv,h=>by
  obtain⟨rfl,g⟩:=hp 0 (i,c) (i',v) rfl rfl;simp only[]at g;simp only[mn]at h;split at h
  .simp at h
  .rename_i M z W;split at h
   .simp at h
   .rename_i I;have J:=g.cells;have C:v.cells.size=c.cells.length:=by rw[J.1];simp
    have V:v.cells.size=z/\M+v.cells.size<=vs.length:=by
     rw[C,<-hv.1];constructor
     .apply zF;intro o;exact I (.inl o)
     .apply zF;intro o;exact I (.inr ac)
    obtain⟨Z,L,F⟩:=wz (ps:=ps) (pv:=pv) (cs:=Ab.splice cs M c.cells) (out:=out) (vs:=vs.take M++v.cells.toList++vs.drop (M+v.cells.toList.length))
     (by simpa using hl) (fun j p q U K=>hp (j+1) p q (by simpa using U) wt) (hv.splice J M) h
    refine⟨Z,?_,F⟩;simp only[Instr.fill,W];rw[ah cp];rw[<-L]
    congr 1
    apply k7;have Y:=Dt M v.cells.toList 0 vs.toArray cp;simp only[mA]at Y;rw[List.toList_toArray,<-Y];rw[<-Array.foldl_toList,Array.toList_zipIdx]
theorem wA{E:aw}{a:Act}:∀{ps:List (Nat×Operand)}{out:List (Nat×AV)},(∀p∈ps,∀c,zcV E p.2=some c->VR G c (a.eval p.2))->zfa E ps=some out ->
 out.length=(ps.map fun x=>(x.1,a.eval x.2)).length/\∀(i:Nat) p q,out[i]?=some p->(ps.map fun x=>(x.1,a.eval x.2))[i]?=some q->p.1=q.1/\VR G p.2 q.2
 |[],out,_,h=>by
  simp only[zfa,aA]at h;subst h;exact⟨rfl,aE⟩
 |(i,x)::ps,out,hE,h=>by
  simp only[zfa]at h;split at h
  .rename_i v vs L A;simp only[aA]at h;subst h;obtain⟨Z,g⟩:=wA (ps:=ps) (out:=vs) (fun p hp=>hE p (by simp[hp])) A;refine⟨qb,fun j p q O K=>?_⟩;cases j with
   |zero=>
    simp at O K;subst O K;exact⟨rfl,hE (i,x) aE v L⟩
   |succ j=>exact g j p q (by simpa using O) wt
  .simp at h
theorem LL{t:TypeId}{ps:List (Nat×AV)}{pv:List (Nat×Value)}{c:AV}(F:ps.length=pv.length)(C:∀(i:Nat) p q,ps[i]?=some p->pv[i]?=some q->p.1=q.1/\VR G p.2 q.2)(h:zeb P t ps=some c):
 ∃v,(Instr.build t pv.toArray).run P w=.ok v w/\VR G c v:=by
 unfold zeb at h;split at h
 .rename_i z M L hd;split at h
  .rename_i A W;split at h
   .rename_i K J;simp only[aA]at h;subst h;obtain⟨it,zv,zc,Y,j,g,rfl⟩:=zu L;have m:=(rW (G:=G) g).cells;obtain⟨Z,V,U⟩:=wz F C m J;refine⟨.agg Z.toArray,run_build w t _ _ ?_,.agg U.1 U.2⟩;simp only[Program.built,Y,hd,j];unfold C9 at W;rw[W];simp only[r1]at V;simpa using V
   .simp at h
  .simp at h
 .rename_i z n e L hd;split at h
  .rename_i s o;split at h
   .rename_i K J;simp only[aA]at h;subst h;obtain⟨it,zv,zc,Y,j,g,rfl⟩:=zu L;have m:=(rW (G:=G) g).cells;obtain⟨ie,I,O⟩:=Dj o;obtain⟨Z,V,U⟩:=wz F C m J;refine⟨.agg Z.toArray,run_build w t _ _ ?_,.agg U.1 U.2⟩;simp only[Program.built,Y,hd,j,I,O];simp only[r1]at V;simpa using V
   .simp at h
  .simp at h
 .simp at h
theorem rep_get(z:List AV):∀(n j:Nat),j<n*z.length->(gF z n)[j]?=z[j%z.length]?
 |0,j,h=>by simp at h
 |n+1,j,h=>by
  simp only[gF];by_cases O:j<z.length
  .rw[je O,Nat.mod_eq_of_lt O]
  .have Y:j<n*z.length+z.length:=by simpa [qc]using h
   rw[jS ac,rep_get z n (j-z.length) ac]
   congr 1
   exact(Nat.mod_eq_sub_mod ac).symm
theorem wB(z:List AV):∀n,(gF z n).length=n*z.length
 |0=>by simp[gF]
 |n+1=>by simp[gF,wB z n,lh];omega
theorem Du{z:List AV}{I:Array Value}(m:bT G z I.toList)(n:Nat):bT G (gF z n) (((Array.range (n*z.length)).map (I[·% I.size]!))).toList:=by
 have W:=m.1;refine⟨by simp[wB],fun j c v hc Y=>?_⟩;have O:j<n*z.length:=by
  have:=(dJ.1 hc).1;rw[wB]at this;exact this
 rw[rep_get z n j O]at hc;simp only[zG,Array.toList_range,ea,zH O,jy,aA]at Y;have Z:0<z.length:=by
  rcases Nat.eq_zero_or_pos z.length with e|e
  .rw[e]at O;omega
  .exact e
 have M:j%z.length<z.length:=Nat.mod_lt _ Z;have L:I.size=z.length:=by simpa using W.symm
 refine m.2 (j%z.length) c v hc ?_;rw[L]at Y;rw[<-Y];simp[L,M]
theorem Dv{O:Nat->Option (Nat×Nat)}:∀{M:List (Nat×AV)}{W Z:List AV},mn O W M=some Z->Z.length=W.length
 |[],W,Z,h=>by simp only[mn,aA]at h;rw[h]
 |(i,c)::M,W,Z,h=>by
  simp only[mn]at h;split at h
  .simp at h
  .split at h
   .simp at h
   .rename_i hc;rw[Dv h,Lk];apply zF;intro o;exact hc (.inr ac)
theorem Dw{t:TypeId}{len:Nat}{ps:List (Nat×AV)}{pv:List (Nat×Value)}{c:AV}(I:ps.length=pv.length)(F:∀(i:Nat) p q,ps[i]?=some p->pv[i]?=some q->p.1=q.1/\VR G p.2 q.2)
 (Y:zej P H t len ps=some (c,H')):lP P G w (Instr.buildSlice t len pv.toArray) id c H H':=by
 unfold zej at Y;split at Y
 .rename_i e hd;split at Y
  .rename_i s z K C;split at Y
   .rename_i hc;obtain⟨A,M⟩:=hc;split at Y
    .rename_i O L;simp only[ck]at Y;obtain⟨rfl,rfl⟩:=Y;obtain⟨zv,m,j⟩:=t6 C;have o:=Du (j G) len;obtain⟨Z,W,g⟩:=wz I F o L;have J:Z.length=len*s:=by
      rw[<-g.1,Dv L,wB,M]
     refine⟨.cells O 0 true,.cells (Z++[]).toArray e,Z.length+0,.slice (some ⟨w.heap.size,0,none⟩) len len,rfl,?_,.cells O Z [] e g,fun G' hG=>.sl hG (aM _) ac⟩;rw[bB];show _=Result.ok (Value.slice (some ⟨w.heap.size,0,none⟩) len len) _
     .have V:¬(len*s > 2^24):=by omega
      rw[M]at W;by_cases U:len*s=0
      .rw[U]at W;simp at W;simp[Instr.buildSlice,zd5 hd,zfe K,U,newRow];rw[show Array.map (fun _:Nat=>(default:Value)) (Array.range 0)=#[]from by simp,W];rfl
      .simp only[r1]at W;simp[Instr.buildSlice,zd5 hd,zfe K,V,U,m,W,newRow]
    .simp at Y
   .simp at Y
  .simp at Y
 .simp at Y
theorem Dx{t:TypeId}{l c r:AV}{O cv:Value}(hl:VR G l O)(hc:VR G c cv)(M:zeA P H t l c=some (r,H')):
 lP P G w (Instr.makeSlice t O cv) id r H H':=by
 unfold zeA at M;split at M
 .rename_i e k1 l zdp c hd;cases hl;cases hc;split at M
  .rename_i s b z U hb hz;split at M
   .rename_i Z;obtain⟨V,h2,h3,h4⟩:=Z;simp only[ck]at M;obtain⟨rfl,rfl⟩:=M;obtain⟨I,m,j⟩:=t6 hz;obtain⟨i,C,J⟩:∃i,P.info? e=some i/\i.bytes=b:=by simpa [zdz,my]using hb
    have M:zef=70368744177664:=rfl;rw[M]at h2 h3;have o:=Du (j G) l;have Y:((Array.range (c*s)).map (I.cells[·% I.cells.size]!)).toList=((Array.range (l*s)).map (I.cells[·% I.cells.size]!)).toList++(((Array.range (c*s)).map (I.cells[·% I.cells.size]!)).toList.drop (l*s)):=by
     have W:l*s<=c*s:=r4 _ V
     conv=>lhs;rw[<-List.take_append_drop (l*s) ((Array.range (c*s)).map (I.cells[·% I.cells.size]!)).toList]
     congr 1
     simp only[zG,Array.toList_range,<-zI];rw[List.take_range,Nat.min_eq_left W]
    rw[h4]at o;have K:Made G (.cells (gF z l) 0 true) _ _:=.cells _ _ (((Array.range (c*s)).map (I.cells[·% I.cells.size]!)).toList.drop (l*s)) e o;rw[<-Y,r1]at K;refine⟨_,_,_,.slice (some ⟨w.heap.size,0,none⟩) l c,rfl,?_,K,fun G' hG=>.sl hG V ?_⟩
    .show _=Result.ok (Value.slice (some ⟨w.heap.size,0,none⟩) l c) _;have zeU:IntKind.i64.wrap (l:Int)=l:=qd _ ac;have F:IntKind.i64.wrap (c:Int)=c:=qd _ ac;have L:¬((b:Int)*c > 2^48):=by
      have:(b:Int)*c=((c*b:Nat):Int):=by rw[Nat.mul_comm];simp
      rw[this];omega
     have A:¬((281474976710656:Int)<(b:Int)*c):=oI;have h6:¬(c<l):=ac;have p1:¬((c:Int)<0):=ac;have p2:¬((l:Int)<0):=ac;simp only[Instr.makeSlice,dN,zd5 hd,dU,asInt,asIntOf];by_cases h0:c*s=0
     .simp[rX C,J,zeU,F,A,h6,p1,p2,zfe U,h0,newRow];rw[show ∀f g:Nat->Value,Array.map f (Array.range 0)=Array.map g (Array.range 0)from fun f g=>aE]
     .simp[rX C,J,zeU,F,A,h6,p1,p2,zfe U,h0,m,newRow]
    .have W:l*s<=c*s:=r4 _ V;simp;omega
   .simp at M
  .simp at M
 .simp at M
end
section
variable {P:Program} {B:Bs} {G:Gh} {H H':Hp} {w:World}
theorem bT.oneCell{cs:List AV}{vs:List Value}(h:bT G cs vs)(J:cs.all AV.one=true):∀v∈vs,v.oneCell'=true:=fun v L=>by
 obtain⟨i,C,rfl⟩:=oJ L;have j:i<cs.length:=by rw[h.1];exact C
 rw[(h.2 i _ _ (aO j) (aO C)).oneCell];exact fT.1 J _ (dx j)
theorem LM{xs:List (List AV)}{s:Nat}(K:∀(i:Nat) (A:List AV),xs[i]?=some A->A.length=s):xs.flatten.length=xs.length*s /\
 ∀(i j:Nat) (c:AV),j<s->xs.flatten[i*s+j]?=some c->∃A,xs[i]?=some A/\A[j]?=some c:=by
 induction xs with
 |nil=>exact⟨aE,aE⟩
 |cons A xs ih=>
  have hr:=K 0 A rfl;obtain⟨Z,g⟩:=ih (fun i r C=>K (i+1) r (by simpa using C));refine⟨by simp[Z,hr,qc];omega,fun i j c O hc=>?_⟩;rw[lQ]at hc;cases i with
  |zero=>
   rw[t9,bz,je ac]at hc;exact⟨A,rfl,hc⟩
  |succ i=>
   rw[jS (by rw[hr,qc];omega)]at hc;rw[hr,show(i+1)*s+j-s=i*s+j by rw[qc];omega]at hc;obtain⟨r,W,Y⟩:=g i j c O hc;exact⟨r,by simpa using W,Y⟩
theorem LN{k n s:Nat}(h:k<n*s):k/s<n/\k%s<s/\k=k/s*s+k%s:=by
 have K:0<s:=by
  rcases Nat.eq_zero_or_pos s with e|e
  .subst e;omega
  .exact e
 refine⟨(Nat.div_lt_iff_lt_mul K).2 h,Nat.mod_lt _ K,?_⟩;have:=Nat.div_add_mod k s;rw[Nat.mul_comm]at this;omega
theorem LO(h:R B H w G){t:TypeId}{x c:AV}{Y:Value}{lo C:Option AV}{O U:Option Value}(F:VR G x Y)(I:qe G lo O)(Z:qe G C U)(K:kY P H t x lo C=some c):
 ∃v,(Instr.sliceAt t Y O U none).run P w=.ok v w/\VR G c v:=by
 unfold kY at K;split at K
 .rename_i r M;split at K
  .rename_i n e cs W V hd A;split at K
   .rename_i z l L m J j;split at K
    .rename_i hc;obtain⟨h1,h2,h3⟩:=hc;cases F with
     |ptr hr=>
      rename_i b o x;have hf:=h.fits _ _ _ _ _ _ _ hr A;have hb:=zK (P:=P) (w:=w) (cap:=n) I Z J j h1 h2 (aM _) false;have g:(Instr.sliceAt t (.pointer (some ⟨b,o+M,none⟩)) O U none).run P w=.ok (.slice (some (if n=l then ⟨b,o+M,none⟩else ⟨b,o+M+l*z,none⟩)) (L-l) (n-l)) w:=by
       simp only[Instr.sliceAt,dN,zd5 hd,dU];simp[Instr.sureAddr,hb,zfe m,zfn]
      split at K
      .rename_i i;simp only[aA]at K;subst K;subst i;rw[kC]at g;exact⟨_,g,.lst0 _ _⟩
      .rename_i hne;simp only[aA]at K;subst K;rw[ah ac]at g;refine⟨_,g,?_⟩;rw[hZ];refine .sl hr ac ?_;have e3:(n-l)*z+l*z=n*z:=zB;omega
    .simp at K
   .simp at K
  .simp at K
 .exact LK F I Z K
theorem zL(h:R B H w G){s n:Nat}{x:AV}{xv:Value}{l:List AV}(hx:VR G x xv)(K:zeN H s x=some (n,l)):
 ∃m,bT G l m/\m.length=n*s/\(∀W,(Builtin.lenOf xv).run P W=.ok n W)/\(∀W,(∀a,W.cell? a=w.cell? a)->(Builtin.firstCells s n xv).run P W=.ok m.toArray W):=by
 unfold zeN at K;split at K
 .rename_i r off Y z;cases hx with
  |sl hr hl hc=>
   rename_i b o x U;split at K
   .rename_i cs imm tip hg;simp only[]at K;split at K
    .rename_i I;simp only[ck]at K;obtain⟨rfl,rfl⟩:=K;obtain⟨vs,g,h2⟩:=(((h.cells _ _ _ _ _ _ _ hr hg).drop off).take (Y*s)).list;have Z:vs.length=Y*s:=by rw[<-g.1];exact I
     refine⟨vs,g,Z,fun W=>wu,fun W M=>?_⟩;exact zJ W s Y _ Y U vs Z (fun j v hj=>by rw[M,zfn];exact h2 j v hj)
    .simp at K
   .simp at K
 .rename_i C;split at K
  .rename_i F;simp only[ck]at K;obtain⟨rfl,rfl⟩:=K;have V:∀(i:Nat) (A:List AV),C[i]?=some A->A.length=s:=fun i A hi=>by
    have:=fT.1 F A (jU hi);simpa using this
   obtain⟨hfl,hfg⟩:=LM V;cases hx with
   |lst0 a U=>
    refine⟨[],lO G,aE,fun W=>wu,fun W M=>?_⟩;cases a with
    |none=>simp[Builtin.firstCells]
    |some a=>
     simp[Builtin.firstCells];rfl
   |lst vs hz hF L hcap=>
    rename_i b o U z;have hzs:C.length=0\/z=s:=by
     cases C with
     |nil=>exact .inl rfl
     |cons A C=>exact .inr (by rw[<-hz 0 A rfl,V 0 A rfl])
    have hh:gz G w b o C.flatten:=fun k c hk=>by
     have O:k<C.length*s:=by rw[<-hfl];exact(dJ.1 hk).1
     obtain⟨d1,d2,d3⟩:=LN O;have hz':z=s:=by
      rcases hzs with e|e
      .rw[e]at O;omega
      .exact e
     subst hz';obtain⟨A,g1,g2⟩:=hfg (k/z) (k%z) c d2 (by rw[<-d3];exact hk);refine⟨vs (k/z) (k%z),?_,L _ _ A c g1 g2⟩;have:=h.frz _ _ _ (hF (k/z) (k%z) d1 d2);rw[show o+k=o+k/z*z+k%z by omega];exact this
    obtain⟨m,g,h2⟩:=hh.list;have Z:m.length=C.length*s:=by rw[<-g.1];exact hfl
    refine⟨m,g,Z,fun W=>wu,fun W M=>?_⟩;exact zJ W s C.length _ C.length U m Z (fun j v hj=>by rw[M,zfn];exact h2 j v hj)
  .simp at K
 .simp only[ck]at K;obtain⟨rfl,rfl⟩:=K;cases hx;exact⟨[],lO G,aE,fun W=>wu,fun W M=>by simp[Builtin.firstCells]⟩
 .rename_i b;split at K
  .rename_i e;subst e;simp only[ck]at K;obtain⟨rfl,rfl⟩:=K;cases hx with
   |str J _ hb=>
    subst hb;have hsz:J.data.toList.length=J.size:=zA;refine⟨J.data.toList.map fun x=>.int .u8 x.toNat,⟨aE,fun i c v hc L=>?_⟩,aE,fun W=>by simp[Builtin.lenOf,hsz],fun W M=>?_⟩
    .rw[ea]at hc L;cases hi:J.data.toList[i]? with
     |none=>rw[hi]at hc;simp at hc
     |some u=>
      rw[hi]at hc L;simp only[jy,aA]at hc L;subst hc L;exact .int _ _
    .simp only[Builtin.firstCells,iy]
     congr 1
     apply k7;have:(J.extract 0 J.data.toList.length).data.toList=J.data.toList:=by
      rw[Lib.extract_data,dW,wv,ua]
     simp only[zG,this]
  .simp at K
 .simp at K
theorem Dy(z:Array Value)(n:Nat):(Builtin.zeroCells z n).toList.length=n*z.size:=by simp[Builtin.zeroCells]
theorem Dz{t u e ty:TypeId}{j:TypeDesc}(hd:P.underlying t=some (.slice e))(I:P.underlying u=some j)(m:∀k,j≠.int k){s:Nat}(K:zc8 P e=some s)
 {a:Option Addr}{len cap n:Nat} (C:len+n<=cap) {Y:Value}{Z:List Value} (W:(Builtin.lenOf Y).run P w=.ok n w) (V:(Builtin.firstCells s n Y).run P w=.ok Z.toArray w) :
 (Builtin.append_ #[t,u] ty #[.slice a len cap,Y]).run P w=(match a with
   |some a=>((storeCells (a.add (len*s)) Z).run P w).andThen fun _ U=>.ok (.slice (some a) (len+n) cap) U
   |none=>.ok (.slice none (len+n) cap) w):=by
 have O:(match j with|.int _=>true |_=>false)=false:=by cases j<;>first|rfl|exact(m _ rfl).elim
 simp only[Builtin.append_];simp[zd5 hd,zd5 I,zfe K,W];rw[ay C,V];cases a<;>simp
theorem DA{t u e ty:TypeId}{j:TypeDesc}(hd:P.underlying t=some (.slice e))(U:P.underlying u=some j)(m:∀k,j≠.int k){s:Nat}(K:zc8 P e=some s){b:Nat}(z:zdz P e=some b)
 {W:Value} (O:∀w,(zeroValue e).run P w=.ok W w)
 {a:Option Addr}{len cap n:Nat} (Z:cap<len+n) (M:(len+n)*b<=zef) (C:len+n<=zef) {Y:Value}{ov V:List Value} (L:(Builtin.lenOf Y).run P w=.ok n w) (A:(Builtin.firstCells s n Y).run P w.drew=.ok V.toArray w.drew)
 (o:(Builtin.firstCells s len (.slice a len cap)).run P w.drew=.ok ov.toArray w.drew) :
 (Builtin.append_ #[t,u] ty #[.slice a len cap,Y]).run P w=.ok (.slice (some ⟨w.heap.size,0,none⟩) (len+n) (grownCap w (len+n) cap e))
   (w.drew.alloc (.cells (ov++V++(Builtin.zeroCells W.cells (grownCap w (len+n) cap e-(len+n))).toList).toArray e)):=by
 have hz':(match j with|.int _=>true |_=>false)=false:=by cases j<;>first|rfl|exact(m _ rfl).elim
 obtain⟨i,g,J⟩:∃i,P.info? e=some i/\i.bytes=b:=by simpa [zdz,my]using z
 have hm:zef=70368744177664:=rfl;rw[hm]at M C;have F:¬(281474976710656<Builtin.nextslicecap (len+n) cap*b):=by
  have:=growslice_fits Z (bytes:=b) ac;omega
 have I:¬(9223372036854775807<((len:Int)+(n:Int))):=ac;have h1:¬(len+n<=cap):=ac;simp only[Builtin.append_];simp[zd5 hd,zd5 U,zfe K,L,h1,rX g,J,I,F,Question.forced,o,A,O,newRow,grownCap]
 congr 2
 apply k7;simp
theorem R.heap{w':World}(h:R B H w G)(e:w'.heap=w.heap):R B H w' G:=by
 have k:∀a,w'.cell? a=w.cell? a:=fun a=>by simp[World.cell?,e]
 have V:∀a,w'.frozen? a=w.frozen? a:=fun a=>by simp[World.frozen?,e]
 exact{
  base:=by rw[e];exact h.base
  dom:=h.dom
  lt:=fun r b o x hr=>by rw[e];exact h.lt r b o x hr
  cells:=fun r b o x W imm O hr hc j c Z=>by rw[k];exact h.cells r b o x W imm O hr hc j c Z
  imm:=h.imm
  ext:=h.ext
  fits:=h.fits
  room:=fun r b o x W imm O hr hc j Z I=>by rw[k,V];exact h.room r b o x W imm O hr hc j Z I
  apart:=h.apart
  map:=fun r b o x U hr hc=>by rw[e];exact h.map r b o x U hr hc
  mapApart:=h.mapApart
  frz:=fun b o v Y=>by rw[k];exact h.frz b o v Y
  val:=h.val
  sym:=h.sym}
theorem Step.of_drew{o:Nat}{w':World}{Z:Gh}(h:Step B o G w.drew H' w' Z):Step B o G w H' w' Z:=
 ⟨h.r,h.ext,⟨h.fr.os,h.fr.tape,h.fr.output,h.fr.size,h.fr.block⟩,h.new,h.low,h.mono,h.icy⟩
theorem gz.first{b o off s len:Nat}{cs:List AV}(Y:gz G w b o cs)(I:off+len*s=cs.length){cap:Nat}:
 ∃ov,bT G (cs.drop off) ov/\ov.length=len*s/\∀W,(∀a,W.cell? a=w.cell? a)->(Builtin.firstCells s len (.slice (some ⟨b,o+off,none⟩) len cap)).run P W=.ok ov.toArray W:=by
 obtain⟨vs,i,g⟩:=(Y.drop off).list;have z:vs.length=len*s:=by rw[<-i.1,iw];omega
 exact⟨vs,i,z,fun W J=>zJ W s len _ len cap vs z (fun j v O=>by rw[J,zfn];exact g j v O)⟩
theorem DB{u:TypeId}(h:kw P u=true):∃d,P.underlying u=some d/\∀k,d≠.int k:=by
 unfold kw at h;split at h
 .rename_i e hd;exact⟨_,hd,aE⟩
 .rename_i hd;exact⟨_,hd,aE⟩
 .simp at h
theorem LP(h:R B H w G)(keep:Bool)(s:Nat)(sv:AV):Step B H.next G w (gh keep H s sv) w G:=by
 unfold gh;split
 .rename_i r off len z;split
  .rename_i cs imm hg;split
   .rename_i hc;simp only[dB]at hc;have h1:off+len*s<cs.length:=by simpa [gL]using hc.1.2
    have h2:=ub hc.2;generalize off+len*s=m at h1 h2;have hgs:∀V b',(H.set r (.cells (cs.take m) imm true)).get V=some b'->(V=r/\b'=.cells (cs.take m) imm true)\/(V≠r/\H.get V=some b'):=fun V b' F=>by
     rw[aX]at F;split at F
     .rename_i e;simp only[aA]at F;exact .inl ⟨e,F.symm⟩
     .rename_i e;exact .inr ⟨e,F⟩
    have O:∀V Y Z A,(H.set r (.cells (cs.take m) imm true)).get V=some (.cells Y Z A)->∃W,H.get V=some (.cells W Z A)/\(∀(j:Nat) c,Y[j]?=some c->W[j]?=some c)/\Y.length<=W.length/\(∀x,zec x Y A=zec x W A):=fun V Y Z A F=>by
     rcases hgs V _ F with⟨rfl,e⟩|⟨_,e⟩
     .simp only[HB.cells.injEq]at e;obtain⟨rfl,rfl,rfl⟩:=e;refine⟨cs,hg,fun j c K=>?_,rZ,fun x=>rfl⟩;rw[mw]at K;split at K
      .exact K
      .simp at K
     .exact⟨Y,e,fun _ _ h=>h,aM _,fun _=>rfl⟩
    refine⟨?_,rU _,tY _ _,p8 _ _,fun _ _ h=>.inl h,aM _,fun _ _ _ h=>.inl h⟩;exact{
     base:=h.base
     dom:=h.dom
     lt:=h.lt
     cells:=fun V b o x Y Z A hr U j c K=>by
      obtain⟨W,L,e2,_⟩:=O V Y Z A U;exact h.cells V b o x W Z A hr L j c (e2 j c K)
     imm:=fun V b o x Y Z A hr U j K hjl=>by
      obtain⟨W,L,_,e3,_⟩:=O V Y Z A U;exact h.imm V b o x W Z A hr L j K ac
     ext:=fun V b o x Y Z A hr U=>by
      obtain⟨W,L,_,e3,e4⟩:=O V Y Z A U;have:=h.ext V b o x W Z A hr L;rw[e4];omega
     fits:=fun V b o x Y Z A hr U=>by
      obtain⟨W,L,_,e3,e4⟩:=O V Y Z A U;have:=h.fits V b o x W Z A hr L;omega
     room:=fun V b o x Y Z A hr U j K hjl=>by
      obtain⟨W,L,_,_,e4⟩:=O V Y Z A U;exact h.room V b o x W Z A hr L j K (by rw[<-e4];exact hjl)
     apart:=fun zc0 b1 o1 x1 cs1 J g r2 b2 o2 x2 cs2 I i C hc1 hr2 M hne j j' q1 q2 q3 q4=>by
      obtain⟨cs01,L,_,_,e14⟩:=O zc0 cs1 J g hc1;obtain⟨cs02,e2,_,_,e24⟩:=O r2 cs2 I i M;exact h.apart zc0 b1 o1 x1 cs01 J g r2 b2 o2 x2 cs02 I i C L hr2 e2 hne j j' q1 (by rw[<-e14];exact q2) q3 (by rw[<-e24];exact q4)
     map:=fun V b o x es hr U=>by
      rcases hgs V _ U with⟨_,e⟩|⟨_,e⟩
      .simp at e
      .exact h.map V b o x es hr e
     mapApart:=fun zc0 b1 o1 x1 es r2 b2 o2 x2 C hc1 hr2 M hne=>by
      rcases hgs zc0 _ hc1 with⟨_,e⟩|⟨_,e⟩
      .simp at e
      .refine h.mapApart zc0 b1 o1 x1 es r2 b2 o2 x2 C e hr2 ?_ hne;rw[aX]at M;split at M
       .rename_i e2;rw[e2,hg];rfl
       .exact M
     frz:=h.frz
     val:=h.val
     sym:=h.sym}
   .exact jf h
  .exact jf h
 .exact jf h
theorem LQ(h:R B H w G){keep:Bool}{t u ty:TypeId}{sv x c:AV}{U xv:Value}(Z:VR G sv U)(hx:VR G x xv)(F:zen P keep H t u sv x=some (c,H')):
 ∃v w' G',(Builtin.append_ #[t,u] ty #[U,xv]).run P w=.ok v w'/\VR G' c v/\Step B H.next G w H' w' G':=by
 unfold zen at F;split at F
 .rename_i e hd;split at F
  .rename_i s b z hs hb hz;split at F
   .rename_i l0 hst O;obtain⟨du,hu,m⟩:=DB hst;obtain⟨nv,h1,h2,h3,h4⟩:=zL (P:=P) h hx O;have hnv:nv=[]:=by rw[t9]at h2;exact List.length_eq_zero_iff.1 h2
    subst hnv;have key:∀a len cap,U=.slice a len cap->len<=cap->(Builtin.append_ #[t,u] ty #[U,xv]).run P w=.ok U w:=fun a len cap e hlc=>by
     subst e;rw[Dz hd hu m hs (n:=0) ac (h3 w) (h4 w (fun _=>rfl))];cases a<;>simp[storeCells]
    split at F
    .simp only[ck]at F;obtain⟨rfl,rfl⟩:=F;refine⟨U,w,G,?_,Z,jf h⟩;cases Z with
     |sl hr hl hc=>exact key _ _ _ rfl hl
    .simp only[ck]at F;obtain⟨rfl,rfl⟩:=F;refine⟨U,w,G,?_,Z,jf h⟩;cases Z with
     |lst vs hz hF hv hc=>exact key _ _ _ rfl hc
     |lst0 a cap=>exact key _ _ _ rfl (cN _)
    .simp only[ck]at F;obtain⟨rfl,rfl⟩:=F;refine⟨U,w,G,?_,Z,jf h⟩;cases Z with
     |nilS=>exact key _ _ _ rfl (aM _)
    .simp at F
   .rename_i n L hnz hst O;obtain⟨du,hu,m⟩:=DB hst;obtain⟨nv,h1,h2,h3,h4⟩:=zL (P:=P) h hx O;have hn0:n≠0:=fun e=>by subst e;exact hnz rfl
    have hnl:L.length=n*s:=by rw[h1.1,h2]
    obtain⟨zv,hzr,hzv⟩:=t6 hz;split at F
    .rename_i hcond;obtain⟨hone,hzl⟩:=hcond;have hzs:zv.cells.size=s:=by have:=(hzv G).1;rw[hzl]at this;simpa using this.symm
     have ht:=LP h keep s sv
     suffices hgoal:∃v w' G',(Builtin.append_ #[t,u] ty #[U,xv]).run P w=.ok v w'/\VR G' c v/\Step B (gh keep H s sv).next G w H' w' G' by
      obtain⟨v,w',G',g1,g2,g3⟩:=hgoal;exact⟨v,w',G',g1,g2,ht.trans g3⟩
     replace h:=ht.r;clear ht O;generalize gh keep H s sv=H at F h⊢;unfold zfz at F;split at F
     ·-- onto nil
      split at F
      .rename_i J;simp only[ck]at F;obtain⟨rfl,rfl⟩:=F;cases Z;have g:=DA (P:=P) (w:=w) (ty:=ty) hd hu m hs hb hzr (a:=none) (len:=0) (cap:=0) (n:=n) (ov:=[]) ac (by simpa using J.1) (by simpa using J.2) (h3 w) (h4 w.drew (fun _=>rfl)) (by simp[Builtin.firstCells]);have o:=wn (h.heap (w':=w.drew) rfl) h1 (Builtin.zeroCells zv.cells (grownCap w (0+n) 0 e-(0+n))).toList e;have I:=grownCap_ge w (0+n) 0 e;refine⟨_,_,_,g,?_,o.of_drew⟩;rw[bz]at I⊢;refine .sl (zfD _ _ _) I ?_;rw[Dy,hzs,h2];have:grownCap w n 0 e*s=n*s+(grownCap w n 0 e-n)*s:=zB;simp;omega
      .simp at F
     ·-- onto a row of its own
      rename_i r off len zz;split at F
      .rename_i cs imm hg;split at F
       .rename_i hcond2;obtain⟨hr1,hr2,hend,rfl,himm⟩:=hcond2;cases Z with
        |sl hr hlc hcx=>
         rename_i C Y x0 cap;have hHolds:=h.cells _ _ _ _ _ _ _ hr hg;have hex:=h.ext _ _ _ _ _ _ _ hr hg;simp only[zec]at hex;have hoff:off<=cs.length:=ac;obtain⟨ov,o1,o2,o3⟩:=hHolds.first (P:=P) (off:=off) (s:=zz) (len:=len) hend (cap:=cap)
         have W:r≠H.next:=fun e=>by have:=h.dom _ _ hr;omega
         by_cases A:len+n<=cap
         ·-- in its room
          have g:=Dz (P:=P) (w:=w) (ty:=ty) hd hu m hs (a:=some ⟨C,Y+off,none⟩) A (h3 w) (h4 w (fun _=>rfl));simp only[]at g;rw[zfn,hZ,hend]at g;have hcap:(len+n)*zz<=cap*zz:=r4 _ A;rw[lh]at hcap;cases keep with
          |false=>
           simp only[ct,cb,ck]at F;obtain⟨rfl,rfl⟩:=F;obtain⟨w',hw,i⟩:=zt P hr cs.length L nv cs 0 H w h hg h1 (h1.oneCell hone) ac ac tW aE;rw[hw]at g;simp only[dU]at g;rw[mA,Df]at i;have M:=Dg i.r (r:=r) (cs:=cs++L) (imm:=imm) hr hW (off:=off) cp;refine⟨_,w',_,g,?_,(i.trans M).congr rfl fun k _=>?_⟩
           .refine .sl (zfD _ _ _) A ?_;omega
           .rw[zcY,zcY,zeI,zeI,aX,ww hoff];simp only[zfq,zdm];by_cases e1:k=H.next
            .simp only[e1,bS]
            .by_cases e2:k=r
             .simp only[e2,bS]
             .simp only[e1,e2,cb]
          |true=>
           simp only[bS,ck]at F;obtain⟨rfl,rfl⟩:=F;have V:=t4 h hr hg (n:=cs.length) himm (aM _) true (fun _=>rfl);obtain⟨w',hw,i⟩:=zt P (G:=G.ice w C Y cs.length) (r:=r) (imm:=cs.length) (tip:=true) hr cs.length L nv cs 0 _ w V.r hW (h1.mono V.ext) (h1.oneCell hone) ac ac tW aE;rw[hw]at g;simp only[dU]at g;rw[mA,Df]at i;have hgr:((H.set r (.cells cs cs.length true)).set r (.cells (cs++L) cs.length true)).get r=some (.cells (cs++L) cs.length true):=hW;have M:=Dg i.r (r:=r) (cs:=cs++L) (imm:=cs.length) hr hgr (off:=off) cp;have hmid:=(V.trans i).trans M;have hrr:((G.ice w C Y cs.length).add H.next (C,Y+off,x0-off)).β r=some (C,Y,x0):=by
            simp only[Gh.add];rw[ah W];exact hr
           have hnoMap:∀zc0 b1 o1 x1 es,((G.ice w C Y cs.length).add H.next (C,Y+off,x0-off)).β zc0=some (b1,o1,x1) ->
            ((((H.set r (.cells cs cs.length true)).set r (.cells (cs++L) cs.length true)).kill r).alloc (.cells ((cs++L).drop off) (cs.length-off) true)).get zc0=some (.map es)->b1≠C:=fun zc0 b1 o1 x1 es g1 g2=>by
            rw[zcY,zeI,aX,aX]at g2;simp only[zfq,zdm]at g2;by_cases hne:zc0=H.next
            .simp[hne]at g2
            .by_cases hne2:zc0=r
             .simp[hne2]at g2
             .simp only[hne,hne2,cb]at g2;have g1':G.β zc0=some (b1,o1,x1):=by simp only[Gh.add]at g1;rw[ah hne]at g1;exact g1
              exact h.mapApart zc0 b1 o1 x1 es r C Y x0 g1' g2 hr (by rw[hg];rfl) hne2
           have hHolds':gz ((G.ice w C Y cs.length).add H.next (C,Y+off,x0-off)) w' C Y cs:=fun j c hj=>by
            have hjl:j<cs.length:=(dJ.1 hj).1;have h5:=i.r.cells r C Y x0 _ _ _ hr hgr j c (by rw[je hjl];exact hj);obtain⟨v,q1,q2⟩:=h5;exact⟨v,q1,q2.mono M.ext⟩
           have hFF:∀j,j<cs.length->∃v,((G.ice w C Y cs.length).add H.next (C,Y+off,x0-off)).F C (Y+j)=some v:=fun j hj=>
            V.r.imm r C Y x0 cs cs.length true hr hW j hj hj
           have hrev:=Ln hmid.r hrr (h.fits _ _ _ _ _ _ _ hr hg) hHolds' hFF hnoMap;refine⟨_,w',_,g,?_,(hmid.trans hrev).congr rfl fun k _=>?_⟩
           .refine .sl (zfD _ _ _) A ?_;omega
           .rw[aX,zcY,zcY,zeI,aX,aX,aX,ww hoff];simp only[zfq,zdm];have:cs.length-off=len*zz:=ac;rw[this];by_cases e1:k=r
            .subst e1;simp only[W,bS,cb]
            .simp only[e1,cb]
         ·-- a L row
          have hfit':cap<len+n:=ac;have g:=DA (P:=P) (w:=w) (ty:=ty) hd hu m hs hb hzr (a:=some ⟨C,Y+off,none⟩) hfit' hr1 hr2 (h3 w) (h4 w.drew (fun _=>rfl)) (o3 w.drew (fun _=>rfl));have I:=grownCap_ge w (len+n) cap e;have hlen2:(ov++nv).length=(len+n)*zz:=by rw[fv,o2,h2,lh]
          have hcapx:grownCap w (len+n) cap e*zz=(ov++nv).length+(Builtin.zeroCells zv.cells (grownCap w (len+n) cap e-(len+n))).toList.length:=by
           rw[Dy,hzs,hlen2,<-lh];congr 1;omega
          have o:=(wn (h.heap (w':=w.drew) rfl) (o1.append h1) (Builtin.zeroCells zv.cells (grownCap w (len+n) cap e-(len+n))).toList e).of_drew;have hnn:∀(X:HB) (k:Nat),k≠H.next->(H.alloc X).get k=H.get k:=fun X k hk=>by rw[zcY,ah hk]
          have K:∀p,(G.add H.next p).β H.next=some p:=fun p=>zfD _ _ _
          have hlenX:(cs.drop off++L).length=(len+n)*zz:=by rw[fv,iw,hnl,lh];omega
          cases keep with
          |false=>
           simp only[ct,cb,ck]at F;obtain⟨rfl,rfl⟩:=F;have hk:=o.r.kill r;have hgx:((H.alloc (.cells (cs.drop off++L) 0 true)).kill r).get H.next=some (.cells (cs.drop off++L) 0 true):=by
            rw[zeI,ah (Ne.symm W),zcY,ay rfl]
           have V:=t4 hk (K _) hgx (n:=imm-off) (cN _) (by rw[hlenX,lh];omega) true (fun _=>rfl);have hst2:Step B H.next G w _ _ _:=⟨hk,o.ext,o.fr,o.new,o.low,o.mono,o.icy⟩
           refine⟨_,_,_,g,?_,(hst2.trans V).congr rfl fun k _=>?_⟩
           .exact .sl (K _) I ac
           .rw[aX,zcY,zeI,zeI,zcY];simp only[zfq];by_cases e1:k=H.next
            .simp only[e1,bS]
            .simp only[e1,cb]
          |true=>
           simp only[bS,ck]at F;obtain⟨rfl,rfl⟩:=F;have hgx:(H.alloc (.cells (cs.drop off++L) 0 true)).get H.next=some (.cells (cs.drop off++L) 0 true):=iu
           have V:=t4 o.r (K _) hgx (n:=len*zz) (cN _) (by rw[hlenX,lh];omega) true (fun _=>rfl);have hgr:((H.alloc (.cells (cs.drop off++L) 0 true)).set H.next (.cells (cs.drop off++L) (len*zz) true)).get r=some (.cells cs imm true):=by
            rw[aX,ah W,hnn _ _ W];exact hg
           have hice2:=t4 V.r (r:=r) (by
            show(G.add H.next _).β r=_;simp only[Gh.add];rw[ah W];exact hr) hgr (n:=cs.length) himm (aM _) false aE
           refine⟨_,_,_,g,?_,((o.trans V).trans hice2).congr rfl fun k _=>?_⟩
           .exact .sl (K _) I ac
           .rw[aX,aX,zcY,zcY,aX];simp only[zdm];by_cases e1:k=H.next
            .have e3:¬H.next=r:=fun e=>W e.symm
             simp only[e1,e3,bS,cb]
            .simp only[e1,cb]
       .simp at F
      .simp at F
     .simp at F
    .simp at F
   .simp at F
  .simp at F
 .simp at F
end
section
variable {P:Program} {B:Bs} {G:Gh} {H H':Hp} {w:World}
theorem LR(J:ByteArray):J.data.toList.length=J.size:=zA
theorem DC(h:R B H w G){m:AV}{mv:Value}{Z:List (AV×AV)}(M:VR G m mv)(L:pS H m=some Z):
 (mv=.map none/\Z=[])\/∃r b o x ms U,m=.map r/\mv=.map (some b)/\G.β r=some (b,o,x)/\H.get r=some (.map Z)/\w.heap[b]?=some (.map ms U)/\nJ G Z ms.toList:=by
 unfold pS at L;split at L
 .simp only[aA]at L;subst L;cases M;exact .inl ⟨rfl,rfl⟩
 .rename_i r;split at L
  .rename_i Y A;simp only[aA]at L;subst L;cases M with
   |map hr=>
    rename_i b o x;obtain⟨ms,U,i,g⟩:=h.map r b o x _ hr A;exact .inr ⟨r,b,o,x,ms,U,rfl,rfl,hr,A,i,g⟩
  .simp at L
 .simp at L
theorem ud{b:Nat}{ms:Array MapEntry}{U:Nat}(h:w.heap[b]?=some (.map ms U)):(getObj b).run P w=.ok (.map ms U) w:=by
 simp[getObj,Sem.run,h]
theorem LS(h:R B H w G){t ty:TypeId}{x c:AV}{Y:Value}(F:VR G x Y)(I:zdu P H t x=some c):∃v,(Builtin.len_ #[t] ty #[Y]).run P w=.ok v w/\VR G c v:=by
 unfold zdu at I;split at I
 .rename_i hd;split at I
  .simp only[aA]at I;subst I;cases F with
   |str W _ K=>
    subst K;refine⟨_,?_,.int _ _⟩;rw[LR];simp[Builtin.len_,zd5 hd,goInt]
  .simp at I
 .rename_i e hd;split at I
  .simp only[aA]at I;subst I;cases F;exact⟨_,t7,.int _ _⟩
  .simp only[aA]at I;subst I;cases F
   .exact⟨_,t7,.int _ _⟩
   .exact⟨_,t7,.int _ _⟩
  .simp only[aA]at I;subst I;cases F;exact⟨_,t7,.int _ _⟩
  .simp at I
 .rename_i n e hd;simp only[aA]at I;subst I;refine⟨.int .i64 n,?_,.int _ _⟩;simp only[Builtin.len_];simp[zd5 hd,goInt]
 .rename_i M e hd;split at I
  .rename_i Z L;simp only[aA]at I;subst I;rcases DC h F L with⟨rfl,rfl⟩|⟨r,b,o,V,ms,U,rfl,rfl,hr,A,J,g⟩
   .exact⟨_,t7,.int _ _⟩
   .refine⟨.int .i64 Z.length,?_,.int _ _⟩;have:ms.size=Z.length:=by have:=g.1;simpa using this.symm
    simp[Builtin.len_,zd5 hd,ud J,goInt,this]
  .simp at I
 .simp at I
theorem LU{L:Bool}{x y c:AV}{Y I:Value}(F:VR G x Y)(C:VR G y I)(h:mm L x y=some c):∃v,((if L then Builtin.max2 else Builtin.min2) Y I).run P w=.ok v w/\VR G c v:=by
 unfold mm at h;split at h
 .simp only[aA]at h;subst h;cases F;cases C;cases L
  .refine⟨_,rfl,?_⟩;simp only[ct,cb,jz];exact .int _ _
  .refine⟨_,rfl,?_⟩;simp only[bS,jz];exact .int _ _
 .simp at h
theorem zM{L:Bool}:∀{C:List AV}{i:List Value}{x c:AV}{Y:Value},VR G x Y->bT G C i->oC L x C=some c ->
 ∃v,(i.foldlM (if L then Builtin.max2 else Builtin.min2) Y).run P w=.ok v w/\VR G c v
 |[],i,x,c,Y,hx,hxs,h=>by
  simp only[oC,aA]at h;subst h;have:i=[]:=by have:=hxs.1;simpa using this.symm
  subst this;exact⟨Y,rfl,hx⟩
 |y::ys,[],_,_,_,_,hxs,_=>by have:=hxs.1;simp at this
 |y::ys,yv::yvs,x,c,Y,hx,hxs,h=>by
  obtain⟨Z,g⟩:=hxs.of_cons;simp only[oC]at h;split at h
  .rename_i z m;obtain⟨I,W,V⟩:=LU (P:=P) (w:=w) hx Z m;obtain⟨v,k1,zdp⟩:=zM V g h;exact⟨v,by rw[List.foldlM_cons,dN,W];exact k1,zdp⟩
  .simp at h
theorem zN{t:TypeId}{d:TypeDesc}(h:zfi P t=some d):P.underlying t=some d/\((∃k,d=.int k)\/d=.string\/d=.bool):=by
 unfold zfi at h;split at h<;>simp only[aA,reduceCtorEq]at h<;>subst h
 .rename_i k hd;exact⟨hd,.inl ⟨k,rfl⟩⟩
 .rename_i hd;exact⟨hd,.inr (.inl rfl)⟩
 .rename_i hd;exact⟨hd,.inr (.inr rfl)⟩
theorem zO{d:TypeDesc}{x y:AV}{Y I:Value}{r:Bool}(F:VR G x Y)(C:VR G y I)(h:kZ d x y=some r):Instr.sameNow d Y I=some r:=by
 unfold kZ at h;split at h
 .split at h
  .cases F;cases C;exact h
  .simp at h
 .split at h
  .cases F with
   |str a _ Z=>cases C with
    |str b _ z=>
     subst Z z;simp only[aA]at h;subst h;simp only[Instr.sameNow,aA];show(a.data == b.data)=(a.data.toList == b.data.toList);rw[tX];simp only[k8,Array.toList_inj]
  .simp at h
 .split at h
  .cases F;cases C;exact h
  .simp at h
 .simp at h
theorem zP{d:TypeDesc}{k:AV}{kv:Value}(Y:VR G k kv):∀{U:List (AV×AV)}{ms:List MapEntry}{i:Nat},nJ G U ms ->
 (zek d k U i=some none->Instr.findNow d kv ms i=some none) /\
 (∀j v,zek d k U i=some (some (j,v))->∃k' m,U[j-i]?=some (k',v)/\ms[j-i]?=some m/\i<=j/\kZ d k k'=some true/\Instr.findNow d kv ms i=some (some (j,m.val)))
 |[],ms,i,he=>by
  have:ms=[]:=by have:=he.1;simpa using this.symm
  subst this;exact⟨fun _=>rfl,fun j v h=>by simp[zek]at h⟩
 |e::U,[],i,he=>by have:=he.1;simp at this
 |(k',o)::U,m::ms,i,he=>by
  obtain⟨W,g⟩:=he.2 0 (k',o) m rfl rfl;have V:nJ G U ms:=⟨by simpa using he.1,fun j a b F z=>he.2 (j+1) a b t8 (by simpa using z)⟩;obtain⟨zc0,r2⟩:=zP (d:=d) Y (i:=i+1) V;constructor
  .intro h;simp only[zek]at h;split at h
   .simp at h
   .rename_i Z;have:=zO Y W Z;simp only[Instr.findNow,this];exact zc0 h
   .simp at h
  .intro j v h;simp only[zek]at h;split at h
   .rename_i Z;simp only[ck]at h;obtain⟨rfl,rfl⟩:=h;have:=zO Y W Z;exact⟨k',m,aE,aE,aM _,Z,by simp only[Instr.findNow,this]⟩
   .rename_i Z;have:=zO Y W Z;obtain⟨zdp,M,L,K,C,J,I⟩:=r2 j v h;have O:j-i=(j-(i+1))+1:=ac;refine⟨zdp,M,by rw[O];simpa using L,by rw[O];simpa using K,ac,J,?_⟩;simp only[Instr.findNow,this];exact I
   .simp at h
theorem LV(n:Nat){M:TypeId}{d:TypeDesc}(hd:zfi P M=some d)(e:Bool)(kv:Value):(Instr.checkKey e (n+1) M kv).run P w=.ok () w:=by
 obtain⟨i,g⟩:=zN hd;simp only[Instr.checkKey,dN,zd5 i,dU];rcases g with⟨k,rfl⟩|rfl|rfl<;>rfl
theorem ue{M:TypeId}{d:TypeDesc}(hd:zfi P M=some d)(e:Bool)(kv:Value):(Instr.checkKey e 10000 M kv).run P w=.ok () w:=LV 9999 hd e kv
theorem uf{M:TypeId}{d:TypeDesc}(hd:P.underlying M=some d){kv:Value}{ms:List MapEntry}{r:Option (Nat×Value)}(h:Instr.findNow d kv ms 0=some r):(Instr.findKey M kv ms).run P w=.ok r w:=by
 simp[Instr.findKey,zd5 hd,h]
theorem LW{t M e:TypeId}{d:TypeDesc}(hd:P.underlying t=some (.map M e))(Y:zfi P M=some d){mv kv:Value}{ok:Bool}{ms:Array MapEntry}
 (W:(mv=.map none/\ms=#[])\/∃b U,mv=.map (some b)/\w.heap[b]?=some (.map ms U)) :
 (∀j v,Instr.findNow d kv ms.toList 0=some (some (j,v))->(Instr.lookup t mv kv ok).run P w=.ok (if ok then .tuple #[v,.bool true]else v) w) /\
 (∀I,(zeroValue e).run P w=.ok I w->Instr.findNow d kv ms.toList 0=some none->(Instr.lookup t mv kv ok).run P w=.ok (if ok then .tuple #[I,.bool false]else I) w):=by
 have K:=(zN Y).1;rcases W with⟨rfl,rfl⟩|⟨b,U,rfl,J⟩
 .refine⟨fun j v Z=>by simp[Instr.findNow]at Z,fun I m Z=>?_⟩;have i:=uf (P:=P) (w:=w) K Z;simp only[Instr.lookup,dN,zd5 hd,dU,iy,ue Y,i,m]
 .refine⟨fun j v Z=>?_,fun I m Z=>?_⟩
  .have i:=uf (P:=P) (w:=w) K Z;simp only[Instr.lookup,dN,zd5 hd,dU,ud J,iy,ue Y,i]
  .have i:=uf (P:=P) (w:=w) K Z;simp only[Instr.lookup,dN,zd5 hd,dU,ud J,iy,ue Y,i,m]
theorem LX(h:R B H w G){t:TypeId}{m k c:AV}{mv kv:Value}{ok:Bool}(M:VR G m mv)(J:VR G k kv)(I:zeY P H t m k ok=some c):
 ∃v,(Instr.lookup t mv kv ok).run P w=.ok v w/\VR G c v:=by
 unfold zeY at I;split at I
 .rename_i kt e hd;split at I
  .rename_i F K g L;obtain⟨ms,W,V⟩:∃ms:Array MapEntry,((mv=.map none/\ms=#[])\/∃b U,mv=.map (some b)/\w.heap[b]?=some (.map ms U))/\nJ G F ms.toList:=by
    rcases DC h M g with⟨rfl,rfl⟩|⟨r,b,o,xx,ms,U,rfl,rfl,hr,hg,hw,he⟩
    .exact⟨#[],.inl ⟨rfl,rfl⟩,rfl,aE⟩
    .exact⟨ms,.inr ⟨b,U,rfl,hw⟩,he⟩
   obtain⟨C,A⟩:=zP (d:=K) J (i:=0) V;obtain⟨zc0,r2⟩:=LW (kv:=kv) (ok:=ok) hd L W;split at I
   .rename_i j v Y;simp only[aA]at I;subst I;obtain⟨k',z,g1,g2,_,_,g5⟩:=A j v Y;have Z:=(V.2 _ _ _ g1 g2).2;refine⟨_,zc0 _ _ g5,?_⟩;cases ok
    .exact Z
    .exact .tup (vs:=[z.val,.bool true]) rfl (iT Z (iT (.bool true) (lO _))).2
   .rename_i Y;split at I
    .rename_i v Z;simp only[aA]at I;subst I;obtain⟨zv,z1,O⟩:=Lo Z;refine⟨_,r2 _ (z1 w) (C Y),?_⟩;cases ok
     .exact O G
     .exact .tup (vs:=[zv,.bool false]) rfl (iT (O G) (iT (.bool false) (lO _))).2
    .simp at I
   .simp at I
  .simp at I
 .simp at I
end
section
variable {P:Program} {B:Bs} {G:Gh} {H H':Hp} {w:World}
theorem DD(h:R B H w G){r b o x:Nat}{es V:List (AV×AV)}{ms':Array MapEntry}{clock':Nat}(hr:G.β r=some (b,o,x))(hg:H.get r=some (.map es))(he:nJ G V ms'.toList):
 Step B H.next G w (H.set r (.map V)) {w with heap:=w.heap.setIfInBounds b (.map ms' clock') } G:=by
 obtain⟨ms,clock,hw,_⟩:=h.map r b o x es hr hg;have hb:b<w.heap.size:=(h.lt r b o x hr).2
 let w':World:={w with heap:=w.heap.setIfInBounds b (.map ms' clock') }
 have M:∀k,k≠b->w'.heap[k]?=w.heap[k]?:=fun k Z=>by
  show(w.heap.setIfInBounds b _)[k]?=_;rw[p7,ah (Ne.symm Z)]
 have hheapb:w'.heap[b]?=some (.map ms' clock'):=by
  show(w.heap.setIfInBounds b _)[b]?=_;simp[hb]
 have A:∀i U v,w.cell? ⟨i,U,none⟩=some v->i≠b:=fun i U v hc e=>by
  subst e;unfold World.cell? at hc;rw[hw]at hc;simp at hc
 have F:∀i U v,w.cell? ⟨i,U,none⟩=some v->w'.cell? ⟨i,U,none⟩=some v:=fun i U v hc=>by
  rw[World.cell?_of_block (w:=w) (M i (A i U v hc))];exact hc
 have g:∀k,k≠r->(H.set r (.map V)).get k=H.get k:=fun k Z=>wi;have z:(H.set r (.map V)).get r=some (.map V):=hW;refine⟨?_,rU _,⟨rfl,rfl,rfl,aE,fun k Z hn=>M k (fun e=>hn r b o x hr e.symm)⟩,p8 _ _,fun _ _ h=>.inl h,aM _,fun _ _ _ h=>.inl h⟩;exact{
  base:=by have:=h.base;simpa using this
  dom:=h.dom
  lt:=fun r b o x hr=>by have:=h.lt r b o x hr;simpa using this
  cells:=fun k i U W L imm O Z hc=>by
   by_cases e:k=r
   .subst e;rw[z]at hc;simp at hc
   .rw[g k e]at hc;intro j c hj;obtain⟨v,h1,h2⟩:=h.cells k i U W L imm O Z hc j c hj;exact⟨v,F _ _ _ h1,h2⟩
  imm:=fun k i U W L imm O Z hc=>by
   by_cases e:k=r
   .subst e;rw[z]at hc;simp at hc
   .rw[g k e]at hc;exact h.imm k i U W L imm O Z hc
  ext:=fun k i U W L imm O Z hc=>by
   by_cases e:k=r
   .subst e;rw[z]at hc;simp at hc
   .rw[g k e]at hc;exact h.ext k i U W L imm O Z hc
  fits:=fun k i U W L imm O Z hc=>by
   by_cases e:k=r
   .subst e;rw[z]at hc;simp at hc
   .rw[g k e]at hc;exact h.fits k i U W L imm O Z hc
  room:=fun k i U W L imm O Z hc j hj hjl=>by
   by_cases e:k=r
   .subst e;rw[z]at hc;simp at hc
   .rw[g k e]at hc;obtain⟨⟨v,h1⟩,h2,h3⟩:=h.room k i U W L imm O Z hc j hj hjl;refine⟨⟨v,F _ _ _ h1⟩,?_,h3⟩;rw[World.frozen?_of_block (w:=w) (M i (A _ _ _ h1))];exact h2
  apart:=fun k1 b1 o1 x1 cs1 imm1 tip1 zdp b2 o2 x2 cs2 imm2 tip2 K Y J I=>by
   by_cases e1:k1=r
   .subst e1;rw[z]at Y;simp at Y
   .by_cases e2:zdp=r
    .subst e2;rw[z]at I;simp at I
    .rw[g k1 e1]at Y;rw[g zdp e2]at I;exact h.apart k1 b1 o1 x1 cs1 imm1 tip1 zdp b2 o2 x2 cs2 imm2 tip2 K Y J I
  map:=fun k i U W m Z hc=>by
   by_cases e:k=r
   .subst e;have hk':=Z;rw[hr]at hk';simp only[ck]at hk';obtain⟨rfl,rfl,rfl⟩:=hk';rw[z]at hc;simp only[aA,HB.map.injEq]at hc;subst hc;exact⟨ms',clock',hheapb,he⟩
   .rw[g k e]at hc;obtain⟨ms1,C,h1,h2⟩:=h.map k i U W m Z hc;refine⟨ms1,C,?_,h2⟩;rw[M i (fun eb=>h.mapApart k i U W m r b o x Z hc hr (by rw[hg];rfl) e eb)];exact h1
  mapApart:=fun k1 b1 o1 x1 m zdp b2 o2 x2 K Y J hs hne=>by
   have hs':(H.get zdp).isSome:=by
    by_cases e2:zdp=r
    .subst e2;rw[hg];rfl
    .rw[g zdp e2]at hs;exact hs
   by_cases e1:k1=r
   .subst e1;exact h.mapApart k1 b1 o1 x1 es zdp b2 o2 x2 K hg J hs' hne
   .rw[g k1 e1]at Y;exact h.mapApart k1 b1 o1 x1 m zdp b2 o2 x2 K Y J hs' hne
  frz:=fun i U v hf=>F _ _ _ (h.frz i U v hf)
  val:=h.val
  sym:=h.sym}
theorem DE{b:Nat}{ms ms':Array MapEntry}{U clock':Nat}(h:w.heap[b]?=some (.map ms U)):
 (setObj b (.map ms' clock')).run P w=.ok () {w with heap:=w.heap.setIfInBounds b (.map ms' clock') }:=by
 simp[setObj,Sem.run,h]
theorem LY(n:Nat){d:TypeDesc}{x y:AV}{Y I:Value}(F:VR G x Y)(C:VR G y I)(h:kZ d x y=some true):Instr.sameBits n I Y=true:=by
 unfold kZ at h;split at h
 .split at h
  .split at h
   .rename_i e;subst e;cases F;cases C;simp only[aA,k8]at h;subst h;cases n<;>simp[Instr.sameBits]
   .simp at h
  .simp at h
 .split at h
  .cases F with
   |str a _ Z=>cases C with
    |str b _ z=>
     subst Z z;simp only[aA,k8]at h;have m:(b == a)=true:=by
      show(b.data == a.data)=true;simp only[k8];exact(k7 h).symm
     cases n<;>simp[Instr.sameBits,m]
  .simp at h
 .split at h
  .cases F;cases C;simp only[aA,k8]at h;subst h;cases n<;>simp[Instr.sameBits]
  .simp at h
 .simp at h
theorem LZ{o L:Value}(h:Instr.sameBits 10000 o L=true):(Instr.keyThatStays o L).run P w=.ok L w:=by
 unfold Instr.keyThatStays;rw[ay h];rfl
theorem L0(h:R B H w G){t:TypeId}{m k v:AV}{mv kv O:Value}(hm:VR G m mv)(M:VR G k kv)(hv:VR G v O)(I:zfl P H t m k v=some H'):
 ∃w',(Instr.mapUpdate t mv kv O).run P w=.ok () w'/\Step B H.next G w H' w' G:=by
 unfold zfl at I;split at I
 .rename_i kt e hd;split at I
  .rename_i r K L;split at I
   .rename_i g hg;cases hm with
    |map hr=>
     rename_i b o x;obtain⟨ms,U,J,W⟩:=h.map r b o x g hr hg;obtain⟨f1,f2⟩:=zP (d:=K) M (i:=0) W;have V:=(zN L).1;split at I
     .rename_i j v0 hf;simp only[aA]at I;subst I;obtain⟨k',m',g1,A,_,g4,g5⟩:=f2 j v0 hf;simp only[wv]at g1 A;have hjl:j<ms.size:=by have:=(dJ.1 A).1;simpa using this
      have C:ms[j]?=some m':=by simpa using A
      have Z:=LY 10000 M (W.2 j _ _ g1 A).1 g4;have Y:=uf (P:=P) (w:=w) V g5;refine⟨_,?_,DD h hr hg (ms':=ms.modify j fun e=>{e with key:=kv,val:=O}) (clock':=U) ?_⟩
      .simp only[Instr.mapUpdate,dN,zd5 hd,dU,ud J,ue L,Y,C,jy,a8,LZ Z,DE J]
      .refine⟨by have:=W.1;simpa using this,fun i a c F hc=>?_⟩;rw[mB]at F;rw[uc,Array.getElem?_modify]at hc;by_cases e:j=i
       .subst e;rw[ay rfl]at hc;rw[ay rfl]at F;split at F
        .simp only[aA]at F;subst F;rw[C]at hc;simp only[jy,aA]at hc;subst hc;exact⟨M,hv⟩
        .simp at F
       .rw[ah e]at F hc;exact W.2 i a c F wh
     .rename_i hf;simp only[aA]at I;subst I;have Y:=uf (P:=P) (w:=w) V (f1 hf);refine⟨_,?_,DD h hr hg (ms':=ms.push {key:=kv,val:=O,born:=U}) (clock':=U+1) ?_⟩
      .simp only[Instr.mapUpdate,dN,zd5 hd,dU,ud J,ue L,Y,DE J]
      .refine⟨by have:=W.1;simpa using this,fun i a c F hc=>?_⟩;rw[Array.toList_push]at hc;have hl:=W.1;by_cases hi:i<g.length
       .rw[je hi]at F;rw[je ac]at hc;exact W.2 i a c F hc
       .rw[jS ac]at F;rw[jS ac]at hc;rw[<-hl]at hc;cases z:i-g.length with
        |zero=>
         rw[z]at F hc;simp at F hc;subst F hc;exact⟨M,hv⟩
        |succ n=>rw[z]at F;simp at F
     .simp at I
   .simp at I
  .simp at I
 .simp at I
theorem DF:∀{W:List AV}{bs:List UInt8}{vs:List Value},pU W=some bs->bT G W vs->∃Z:List Int,vs=Z.map (Value.int .u8)/\bs=Z.map fun n=>UInt8.ofNat n.toNat
 |[],bs,vs,h,hv=>by
  simp only[pU,aA]at h;subst h;have:vs=[]:=by have:=hv.1;simpa using this.symm
  subst this;exact⟨[],rfl,rfl⟩
 |c::W,bs,[],h,hv=>by have:=hv.1;simp at this
 |c::W,bs,v::vs,h,hv=>by
  obtain⟨i,g⟩:=hv.of_cons;unfold pU at h;split at h
  .rename_i e;simp at e
  .rename_i n o e;simp only[cS]at e;obtain⟨rfl,rfl⟩:=e;split at h
   .rename_i F z;simp only[aA]at h;subst h;obtain⟨Z,rfl,rfl⟩:=DF z g;cases i;exact⟨n::Z,rfl,rfl⟩
   .simp at h
  .simp at h
theorem L1(Z:List Int):∀s:ByteArray,(Z.foldl (fun r n=>r.push (UInt8.ofNat n.toNat)) s).data.toList=s.data.toList++Z.map fun n=>UInt8.ofNat n.toNat:=by
 induction Z with
 |nil=>intro s;simp
 |cons n Z ih=>intro s;rw[List.foldl_cons,ih];simp[ByteArray.push]
theorem L2(h:R B H w G){Z j:TypeId}{x c:AV}{J:Value}(F:VR G x J)(O:ze3 P H Z j x=some c):∃v,(convert Z j J).run P w=.ok v w/\VR G c v:=by
 unfold ze3 at O;split at O
 .rename_i e K hd;split at O
  .rename_i L;split at O
   .rename_i n cs Y;split at O
    .rename_i bs A;obtain⟨nv,i,g,m,h4⟩:=zL (P:=P) h F Y;obtain⟨V,W,rfl⟩:=DF A i;split at O
     .simp only[aA]at O;subst O;cases F with
      |sl hr hl hcx=>
       rename_i b o xx I;have C:=m w;simp[Builtin.lenOf]at C;subst C;have U:=h4 w (fun _=>rfl);simp only[Builtin.firstCells,gA]at U;rw[W]at U;refine⟨_,by rw[run_convert_bytes_string w Z j e _ _ _ K L hd,run_bytesToString w _ _ _ V U],.str _ _ ?_⟩;rw[L1];rfl
     .simp only[aA]at O;subst O;cases F;have C:=m w;simp[Builtin.lenOf]at C;have:V=[]:=by
       have e1:(V.map (Value.int .u8)).length=0:=by rw[<-W,g,<-C]
       simpa using e1
      subst this;refine⟨.string .empty,?_,.str _ _ rfl⟩;rw[run_convert_bytes_string w Z j e _ _ _ K L hd];rfl
     .simp at O
    .simp at O
   .simp at O
  .simp at O
 .rename_i ds k z K hd;split at O
  .simp only[aA]at O;subst O;cases F;refine⟨_,?_,.int _ _⟩;simp[convert,zd5 K,zd5 hd,Conv.intToInt]
  .simp only[aA]at O;subst O;cases F;rename_i zd3 e0;refine⟨_,?_,.sx _ _⟩;simp[convert,zd5 K,zd5 hd,Conv.intToInt,Sx.eval]
  .simp at O
 .rename_i z K hd;split at O
  .simp only[aA]at O;subst O;have M:=F;cases F with
   |str sv _ L=>
    refine⟨.string sv,?_,M⟩;simp[convert,zd5 K,zd5 hd]
  .simp at O
 .simp at O
end
section
variable {P:Program} {B:Bs} {G:Gh} {H H':Hp} {w:World}
def qf(G:Gh)(E:aw)(a:Act)(xs:Array Operand):Prop:=∀x∈xs,∀c,zcV E x=some c->VR G c (a.eval x)
theorem wC{E:aw}{a:Act}:∀{C:List Operand}{W:List AV},(∀x∈C,∀c,zcV E x=some c->VR G c (a.eval x))->zeM E C=some W->bT G W (C.map a.eval)
 |[],W,_,h=>by
  simp only[zeM,aA]at h;subst h;exact lO G
 |x::C,W,hk,h=>by
  simp only[zeM]at h;split at h
  .rename_i v vs L A;simp only[aA]at h;subst h;exact iT (hk x aE v L) (wC (fun y Z=>hk y nN) A)
  .simp at h
theorem zff{s:Sem Value}{c:AV}(h:R B H w G)(K:∃v,s.run P w=.ok v w/\VR G c v):qa P B H G w (do pure (.value (<-s))) c H:=by
 obtain⟨v,i,g⟩:=K;exact⟨.value v,w,G,v,by simp[i],.inl rfl,g,jf h⟩
theorem r7{s:Sem Value}{c:AV}(K:∃v W Z,s.run P w=.ok v W/\VR Z c v/\Step B H.next G w H' W Z):qa P B H G w (do pure (.value (<-s))) c H':=by
 obtain⟨v,W,Z,i,g,m⟩:=K;exact⟨.value v,W,Z,v,by simp[i],.inl rfl,g,m⟩
theorem DG{s:Sem Unit}(K:∃W,s.run P w=.ok () W/\Step B H.next G w H' W G):qa P B H G w (do s;pure .skip) zd1 H':=by
 obtain⟨W,i,g⟩:=K;exact⟨.skip,W,G,undef,by simp[i],.inr ⟨rfl,rfl⟩,tZ G,g⟩
theorem DH{E:aw}{a:Act}{x:Option Operand}{c:Option AV}(j:∀y∈x.toArray,∀c,zcV E y=some c->VR G c (a.eval y))(h:ze4 E x=some c):qe G c (x.map a.eval):=by
 unfold ze4 at h;split at h
 .simp only[aA]at h;subst h;exact trivial
 .rename_i y;split at h
  .rename_i v L;simp only[aA]at h;subst h;exact j y aE v L
  .simp at h
theorem L3{D:BinOp->Sx->Sx->Option Bool}{E:aw}{a:Act}{o:Oper}{c:AV}(j:oF o=true)(W:qf G E a o.op.operands)(g:cr P D E H o.op=some (c,H')):lP P G w (execOp a.eval o) Next.value c H H':=by
 obtain⟨U,M,ty,K,Z,guard⟩:=o;simp only[]at g W;cases M<;>simp only[oF,zeB,ct]at j
 case alloc t=>
  simp only[cr]at g;unfold tI at g;split at g
  .rename_i z m;simp only[ck]at g;obtain⟨rfl,rfl⟩:=g;obtain⟨I,F,J⟩:=t6 m;refine lP.next ⟨.cells z 0 true,.cells (I.cells.toList++[]).toArray t,I.cells.toList.length+0,.pointer (some ⟨w.heap.size,0,none⟩),rfl,?_,.cells z I.cells.toList [] t (J G),fun Y hG=>.ptr (off:=0) hG⟩
   simp[Instr.alloc,F,newVar,newRow]
  .simp at g
 case box t x=>
  simp only[cr]at g;unfold tJ at g;split at g
  .rename_i v L;simp only[ck]at g;obtain⟨rfl,rfl⟩:=g;have hx:=(W x dV _ L).cells;refine lP.next ⟨.cells v.cells 0 true,.cells ((a.eval x).cells.toList++[]).toArray t,(a.eval x).cells.toList.length+0,.pointer (some ⟨w.heap.size,0,none⟩),rfl,?_,.cells v.cells _ [] t hx,fun Y hG=>.ptr (off:=0) hG⟩
   simp[Instr.box,newVar,newRow]
  .simp at g
 case buildSlice t len parts=>
  simp only[cr]at g;unfold tK at g;split at g
  .rename_i ps O;obtain⟨C,A⟩:=wA (G:=G) (a:=a) (fun p hp=>W p.2 zC) O;have:=Dw (P:=P) (w:=w) C A g;have he:(parts.toList.map fun x=>(x.1,a.eval x.2)).toArray=parts.map fun(i,x)=>(i,a.eval x):=by
    apply k7;simp
   rw[he]at this;exact this.next
  .simp at g
 case makeMap t r=>
  simp only[cr]at g;unfold tN at g;split at g
  .simp only[ck]at g;obtain⟨rfl,rfl⟩:=g;refine lP.next ⟨.map [],.map #[] 0,0,.map (some w.heap.size),rfl,?_,.map,fun Y hG=>.map hG⟩
   simp[Instr.makeMap]
  .simp at g
 case makeSlice t l c'=>
  simp only[cr]at g;unfold tO at g;split at g
  .rename_i lv cv V hc;exact(Dx (W l dV _ V) (W c' dV _ hc) g).next
  .simp at g
 case call cl=>
  simp only[cr,reduceCtorEq]at g
theorem L4(h:R B H w G){E:aw}{a:Act}{o:Oper}{c:AV}(W:qf G E a o.op.operands)(g:cr P B.cfg.dec E H o.op=some (c,H')):qa P B H G w (execOp a.eval o) c H':=by
 obtain⟨dst,op,ty,pos,after,guard⟩:=o;simp only[]at g W;cases op<;>simp only[cr,reduceCtorEq]at g
 case move x=>
  obtain⟨Z,rfl⟩:=zfb g;exact rY h rfl (W x dV _ Z)
 case assign x=>
  obtain⟨Z,rfl⟩:=zfb g;exact rY h rfl (W x dV _ Z)
 case pick x y z=>
  unfold vX at g;split at g
  .rename_i hc;obtain⟨Z,rfl⟩:=zfb g;have U:=W x dV _ hc;have:a.eval x=.bool true:=by generalize a.eval x=v at U;cases U;rfl
   exact rY h (v:=a.eval y) (by simp[execOp,asBool,this]) (W y dV _ Z)
  .rename_i hc;obtain⟨Z,rfl⟩:=zfb g;have U:=W x dV _ hc;have:a.eval x=.bool false:=by generalize a.eval x=v at U;cases U;rfl
   exact rY h (v:=a.eval z) (by simp[execOp,asBool,this]) (W z dV _ Z)
  .simp at g
 case alloc t=>
  unfold tI at g;split at g
  .rename_i z hz;simp only[ck]at g;obtain⟨rfl,rfl⟩:=g;obtain⟨zv,z1,z2⟩:=t6 hz;have K:=wn h (z2 G) [] t;rw[bB,r1]at K;refine r7 ⟨.pointer (some ⟨w.heap.size,0,none⟩),_,_,?_,?_,K⟩
   .simp[Instr.alloc,z1,newVar,newRow]
   .exact .ptr (off:=0) (zfD _ _ _)
  .simp at g
 case box t x=>
  unfold tJ at g;split at g
  .rename_i v L;simp only[ck]at g;obtain⟨rfl,rfl⟩:=g;have K:=wn h (W x dV _ L).cells [] t;rw[bB,r1]at K;refine r7 ⟨.pointer (some ⟨w.heap.size,0,none⟩),_,_,?_,?_,K⟩
   .simp[Instr.box,newVar,newRow]
   .exact .ptr (off:=0) (zfD _ _ _)
  .simp at g
 case build t parts=>
  unfold vY at g;split at g
  .rename_i ps O;obtain⟨Z,rfl⟩:=zfb g;obtain⟨q1,q2⟩:=wA (G:=G) (a:=a) (fun p hp=>W p.2 zC) O;have:=LL (P:=P) (w:=w) q1 q2 Z;have M:(parts.toList.map fun x=>(x.1,a.eval x.2)).toArray=parts.map fun(i,x)=>(i,a.eval x):=by
    apply k7;simp
   rw[M]at this;exact zff h this
  .simp at g
 case buildSlice t len parts=>
  unfold tK at g;split at g
  .rename_i ps O;obtain⟨q1,q2⟩:=wA (G:=G) (a:=a) (fun p hp=>W p.2 zC) O;have:=(Dw (P:=P) (w:=w) q1 q2 g).sim h;have M:(parts.toList.map fun x=>(x.1,a.eval x.2)).toArray=parts.map fun(i,x)=>(i,a.eval x):=by
    apply k7;simp
   rw[M]at this;exact r7 this
  .simp at g
 case load t x=>
  unfold tL at g;split at g
  .rename_i v L;obtain⟨Z,rfl⟩:=zfb g;exact zff h (Dn h (W x dV _ L) Z)
  .simp at g
 case store t x y=>
  unfold vZ at g;split at g
  .rename_i av vv ha L;split at g
   .rename_i H1 I;simp only[ck]at g;obtain⟨rfl,rfl⟩:=g;exact DG (Lp h (W x dV _ ha) (W y dV _ L) I)
   .simp at g
  .simp at g
 case nilCheck x=>
  unfold v2 at g;split at g
  .rename_i r off L;simp only[ck]at g;obtain⟨rfl,rfl⟩:=g;have F:=W x dV _ L;refine rY h (v:=a.eval x) ?_ F;simp only[execOp];generalize a.eval x=v at F⊢;cases F;rfl
  .rename_i cs L;simp only[ck]at g;obtain⟨rfl,rfl⟩:=g;have F:=W x dV _ L;refine rY h (v:=a.eval x) ?_ F;simp only[execOp];generalize a.eval x=v at F⊢;cases F;rfl
  .simp at g
 case binOp op t x y yt=>
  unfold v3 at g;split at g
  .rename_i V yv F C;obtain⟨Z,rfl⟩:=zfb g;exact zff h (LH (by rw[h.val];exact h.sym) (W x dV _ F) (W y dV _ C) Z)
  .simp at g
 case unOp op t x=>
  unfold v4 at g;split at g
  .rename_i V F;obtain⟨Z,rfl⟩:=zfb g;exact zff h (LI (W x dV _ F) Z)
  .simp at g
 case convert s d x=>
  unfold tM at g;split at g
  .rename_i V F;obtain⟨Z,rfl⟩:=zfb g;exact zff h (L2 h (W x dV _ F) Z)
  .simp at g
 case makeFunc fn first captured=>
  unfold v6 at g;split at g
  .rename_i f vs Y A;simp only[ck]at g;obtain⟨rfl,rfl⟩:=g;have hf:first=#[]:=by apply k7;simpa using Y
   subst hf;have:=wC (G:=G) (a:=a) (fun x F=>W x (by simp[Op.operands];simpa using F)) A;refine zff h ⟨.func (.func f) #[] (captured.map a.eval),by simp[Instr.makeFunc],?_⟩;have M:captured.map a.eval=(captured.toList.map a.eval).toArray:=zD;rw[M];exact .clo this.1 this.2
  .simp at g
 case makeMap t r=>
  unfold tN at g;split at g
  .simp only[ck]at g;obtain⟨rfl,rfl⟩:=g;exact r7 ⟨.map (some w.heap.size),_,_,by simp[Instr.makeMap],.map (zfD _ _ _),Le h⟩
  .simp at g
 case makeSlice t l c'=>
  unfold tO at g;split at g
  .rename_i lv cv j hc;exact r7 ((Dx (W l dV _ j) (W c' dV _ hc) g).sim h)
  .simp at g
 case slice t x lo J mx=>
  unfold tP at g;split at g
  .rename_i V l hh F j hi';obtain⟨Z,rfl⟩:=zfb g;exact zff h (LO h (W x dV _ F) (DH (fun y C=>W y (by simp[Op.operands]at *;simp[C])) j) (DH (fun y C=>W y (by simp[Op.operands]at *;simp[C])) hi') Z)
  .simp at g
 case fieldAddr t x f=>
  unfold v7 at g;split at g
  .rename_i V F;obtain⟨Z,rfl⟩:=zfb g;exact zff h (Lq (W x dV _ F) Z)
  .simp at g
 case field t x f=>
  unfold v8 at g;split at g
  .rename_i V F;obtain⟨Z,rfl⟩:=zfb g;exact zff h (Lr (W x dV _ F) Z)
  .simp at g
 case indexAddr t x i=>
  unfold v9 at g;split at g
  .rename_i V iv F J;obtain⟨Z,rfl⟩:=zfb g;exact zff h (Ls (W x dV _ F) (W i dV _ J) Z)
  .simp at g
 case index t x i=>
  unfold wa at g;split at g
  .rename_i V iv F J;obtain⟨Z,rfl⟩:=zfb g;exact zff h (Lt (W x dV _ F) (W i dV _ J) Z)
  .simp at g
 case lookup t m k ok=>
  unfold tQ at g;split at g
  .rename_i mv kv hm hk;obtain⟨Z,rfl⟩:=zfb g;exact zff h (LX h (W m dV _ hm) (W k dV _ hk) Z)
  .simp at g
 case mapUpdate t m k v=>
  unfold wb at g;split at g
  .rename_i mv kv vv hm hk L;split at g
   .rename_i H1 I;simp only[ck]at g;obtain⟨rfl,rfl⟩:=g;exact DG (L0 h (W m dV _ hm) (W k dV _ hk) (W v dV _ L) I)
   .simp at g
  .simp at g
 case extract x i=>
  unfold wc at g;split at g
  .rename_i V F;obtain⟨Z,rfl⟩:=zfb g;exact zff h (Lu (W x dV _ F) Z)
  .simp at g
theorem L5(h:R B H w G){keep:Bool}{b:Builtin}{O:Array TypeId}{ty:TypeId}{consts:Array Bool}{cs:List AV}{vs:List Value}{c:AV}(L:bT G cs vs)(z:mp P keep H b O.toList cs=some (c,H')):
 qa P B H G w (builtin b O ty consts vs.toArray) c H':=by
 unfold mp at z;split at z
 .split at z
  .rename_i t u s x I;have J:O=#[t,u]:=by apply k7;simpa using I
   subst J
   match vs,L with
   |[W,Y],L=>
    obtain⟨i,g⟩:=L.of_cons;obtain⟨m,_⟩:=g.of_cons;exact r7 (LQ h i m z)
   |[],L=>have:=L.1;simp at this
   |[_],L=>have:=L.1;simp at this
   |_::_::_::_,L=>have:=L.1;simp at this
  .simp at z
 .split at z
  .rename_i t x I;have J:O=#[t]:=by apply k7;simpa using I
   subst J;split at z
   .rename_i v Z;simp only[ck]at z;obtain⟨rfl,rfl⟩:=z
    match vs,L with
    |[Y],L=>
     obtain⟨i,_⟩:=L.of_cons;exact zff h (LS h i Z)
    |[],L=>have:=L.1;simp at this
    |_::_::_,L=>have:=L.1;simp at this
   .simp at z
  .simp at z
 .split at z
  .rename_i x C;split at z
   .rename_i v M;simp only[ck]at z;obtain⟨rfl,rfl⟩:=z
    match vs,L with
    |[],L=>have:=L.1;simp at this
    |Y::xvs,L=>
     obtain⟨i,g⟩:=L.of_cons;have:=zM (P:=P) (w:=w) i g M;exact zff h (by simpa [Builtin.max_]using this)
   .simp at z
  .simp at z
 .split at z
  .rename_i x C;split at z
   .rename_i v M;simp only[ck]at z;obtain⟨rfl,rfl⟩:=z
    match vs,L with
    |[],L=>have:=L.1;simp at this
    |Y::xvs,L=>
     obtain⟨i,g⟩:=L.of_cons;have:=zM (P:=P) (w:=w) i g M;exact zff h (by simpa [Builtin.min_]using this)
   .simp at z
  .simp at z
 .simp at z
end
def zQ:AX->Exit
 | .normal=>.normal
 | .exit id=>.exit id
 | .ret=>.ret
def iV(B:Bs)(N o:Nat)(G:Gh)(w:World)(x:AX)(F:aw)(H':Hp):Exit->Act->World->Prop:=fun e O W=>
 e=zQ x/\∃Z,TR N Z F O/\Step B o G w H' W Z/\O.defers=[]
structure Fit (P:Program):Prop where
 name:∀(f:FuncId) (fn:Func),P.funcs[f]?=some fn->fn.body.isSome=true->(fn.name == "runtime.NumGoroutine")=false
 mixed:P.follows .mixedOrders=true
structure Snd (P:Program) (B:Bs) (n:Nat) (ih:Task->Res):Prop where
 call:∀f args H r H',ih (.call f args H)=.val r H'->∀G w vs,R B H w G->bT G args vs ->
  (∃fn,P.funcs[f]?=some fn/\fn.body.isSome=true)/\Calls P f vs.toArray w (fun e w'=>∃v G',e=.returned v/\VR G' r v/\Step B H.next G w H' w' G')
 code:∀f N c E H x E' H',ih (.code f N c E H)=.done x E' H'->∀G w a,R B H w G->TR N G E a->a.defers=[]->Code.wp P c (iV B N H.next G w x E' H') a w
 loop:∀f N c E H x E' H',ih (.code f N (.loop c) E H)=.done x E' H'->∀G w a,R B H w G->TR N G E a->a.defers=[]->Code.rounds P c (iV B N H.next G w x E' H') n a w
theorem zR{P:Program}{c:Code}{Q F:Exit->Act->World->Prop}(h:∀e a w,Q e a w->F e a w):∀{n:Nat}{a:Act}{w:World},Code.rounds P c Q n a w->Code.rounds P c F n a w
 |0,_,_,hr=>hr
 |n+1,_,_,hr=>by
  rw[rounds_succ]at *;exact oK (fun e a w L=>by
   cases e with
   |normal=>exact zR h L
   |_=>exact h _ _ _ L) hr
theorem iV.trans{B:Bs}{N o:Nat}{G Z:Gh}{w w':World}{H' U:Hp}{x:AX}{K:aw}(Y:Step B o G w H' w' Z){e:Exit}{a:Act}{W:World}(h:iV B N H'.next Z w' x K U e a W):iV B N o G w x K U e a W:=by
 obtain⟨L,V,i,g,m⟩:=h;exact⟨L,V,i,Y.trans g,m⟩
def wD:=@iV.trans
section
variable {P:Program} {B:Bs} {G:Gh} {H H':Hp} {w:World}
theorem zS{N:Nat}{E:aw}{a:Act}(h:TR N G E a){x:Operand}{c:AV}(O:zcV E x=some c):VR G c (a.eval x):=by
 cases x with
 |tmp t=>simp only[zcV,aA]at O;subst O;exact h.slots t
 |const v=>exact rW O
 |global g=>simp[zcV]at O
 |func f=>simp only[zcV,aA]at O;subst O;exact .clo (vs:=[]) rfl aE
theorem TR.knows{N:Nat}{E:aw}{a:Act}(h:TR N G E a)(xs:Array Operand):qf G E a xs:=fun _ _ _ hc=>zS h hc
theorem L6{E:aw}{a:Act}{d:Nat}(h:VR G (E.at d) (a.tmps.getD d undef)):(match E.at d with|.bool b=>some b |_=>none)=(match a.tmps[d]? with|some (.bool b)=>some b |_=>none):=by
 rw[gM]at h;cases hd:a.tmps[d]? with
 |none=>
  rw[hd]at h;simp only[Option.getD_none,undef]at h;generalize E.at d=c at h;cases h;rfl
 |some v=>
  rw[hd]at h;simp only[a8]at h;generalize E.at d=c at h;cases h<;>rfl
theorem L7{E:aw}{a:Act}{ops:Array Oper}{j:Nat}(h:∀d,(ops[j]?).bind (·.dst)=some d->VR G (E.at d) (a.tmps.getD d undef)):wd ops.toList E j=yielded ops a.tmps j:=by
 unfold wd yielded;rw[uc];cases hd:(ops[j]?).bind (·.dst)with
 |none=>rfl
 |some d=>exact L6 (h d hd)
theorem DI{E:aw}{a:Act}{ops:Array Oper}{o:Oper}(h:∀j b d,o.guard=some (j,b)->(ops[j]?).bind (·.dst)=some d->VR G (E.at d) (a.tmps.getD d undef)):jg ops.toList E o=Region.wanted o (yielded ops a.tmps):=by
 unfold jg Region.wanted;cases A:o.guard with
 |none=>rfl
 |some p=>
  obtain⟨j,b⟩:=p;simp only[];rw[L7 (fun d hd=>h j b d A hd)];cases yielded ops a.tmps j with
  |none=>rfl
  |some i=>cases b<;>cases i <;>rfl
theorem wE(fit:Fit P){n:Nat}{ih:Task->Res}(hih:Snd P B n ih){f:FuncId}{E:aw}{a:Act}{o:Oper}{c:AV}(h:R B H w G)(i:qf G E a o.op.operands)(Z:zd4 P B.cfg ih f E H o.op=.val c H')
 {K:Act->World->Prop}{Q:Exit->Act->World->Prop} (hK:∀v M L,VR L c v->Step B H.next G w H' M L->K (a.put o.dst v) M):o.wp P a w K Q:=by
 have O:∀s:Sem Next,qa P B H G w s c H'->execOp a.eval o=s->o.wp P a w K Q:=fun s hs he=>by
  obtain⟨m,M,L,v,h1,h2,h3,h4⟩:=hs;unfold Oper.wp;rw[he,h1];rcases h2 with rfl|⟨rfl,rfl⟩
  .exact hK v M L h3 h4
  .exact hK undef M L h3 h4
 unfold zd4 at Z;split at Z
 .rename_i V J;unfold oD at Z;split at Z
  .rename_i g j;split at Z
   .rename_i k cap vs hgv A;have I:qf G E a V.operands:=by rw[J]at i;exact i
    have hgr:=I g (by simp[Call.operands,j]) _ hgv;have W:=wC (G:=G) (a:=a) (fun x hx=>I x (by simp[Call.operands,j];exact .inr (by simpa using hx))) A;generalize hge:a.eval g=gv at hgr;cases hgr with
    |clo hl hv=>
     rename_i F;have hall:=W.append (G:=G) ⟨hl,hv⟩;obtain⟨⟨fn,hfn,C⟩,U⟩:=hih.call _ _ _ _ _ Z G w _ h hall;have z:=fit.name _ _ hfn C;unfold Oper.wp;have hrun:(execOp a.eval o).run P w=.ok (.enter k ((V.args.toList.map a.eval)++F).toArray) w:=by
      have Y:V.args.map a.eval=(V.args.toList.map a.eval).toArray:=zD;unfold execOp;rw[J];simp only[dN,resolve,j,hge,Deferred.ofValue,iy,dU,invoke,callFunc,run_program,hfn,z];simp only[ct,cb];have hb:fn.body.isNone=false:=by cases hb:fn.body<;>simp_all
      rw[hb];simp[Y]
     rw[hrun];show Calls P k _ w _;refine U.mono fun e M hr=>?_;obtain⟨v,L,rfl,h1,h2⟩:=hr;exact hK v M L h1 h2
   .simp at Z
  .rename_i b j;split at Z
   .rename_i vs A;split at Z
    .rename_i v H1 hb;simp only[Res.val.injEq]at Z;obtain⟨rfl,rfl⟩:=Z;have I:qf G E a V.operands:=by rw[J]at i;exact i
     have W:=wC (G:=G) (a:=a) (fun x hx=>I x (by simp[Call.operands,j];simpa using hx)) A;have hs:=L5 (ty:=o.type) (consts:=V.args.map fun|.const _=>true |_=>false) h W hb;refine O _ hs ?_;have Y:V.args.map a.eval=(V.args.toList.map a.eval).toArray:=zD;unfold execOp;rw[J];simp only[resolve,j,Y];rfl
    .simp at Z
   .simp at Z
  .simp at Z
 .rename_i op hne;unfold jR at Z;split at Z
  .rename_i v H1 ho;simp only[Res.val.injEq]at Z;obtain⟨rfl,rfl⟩:=Z;exact O _ (L4 h i ho) rfl
  .simp at Z
theorem zT(fit:Fit P){n:Nat}{ih:Task->Res}(J:Snd P B n ih){f N:Nat}{ops:Array Oper}:∀(l:List Oper) {E E':aw}{H:Hp}{x:AX}{a:Act}{w:World}{G:Gh}{Q:Exit->Act->World->Prop},ze1 P B.cfg ih f N ops.toList l E H=.done x E' H' ->
 R B H w G->TR N G E a->a.defers=[]->(∀e M W,iV B N H.next G w x E' H' e M W->Q e M W)->wpList P ops Q l a w
 |[],E,E',H,x,a,w,G,Q,hr,h,ht,hd,hQ=>by
  simp only[ze1,Res.done.injEq]at hr;obtain⟨rfl,rfl,rfl⟩:=hr;exact hQ _ _ _ ⟨rfl,G,ht,jf h,hd⟩
 |o::l,E,E',H,x,a,w,G,Q,hr,h,ht,hd,hQ=>by
  have L:∀E H,(List.rec (motive:=fun _=>aw->Hp->Res) (fun E H=>.done .normal E H)
   (fun o _ O E H=>match jg ops.toList E o with
     |true=>match zd4 P B.cfg ih f E H o.op with
      | .val v H=>ze5 O H (d9 N E o.dst v)
      |_=>.fail
     |false=>ze5 O H (d9 N E o.dst zd1)) l E H:Res)=ze1 P B.cfg ih f N ops.toList l E H:=fun _ _=>rfl
  have i:ze1 P B.cfg ih f N ops.toList (o::l) E H=match jg ops.toList E o with
   |true=>match zd4 P B.cfg ih f E H o.op with
    | .val v H=>ze5 (ze1 P B.cfg ih f N ops.toList l) H (d9 N E o.dst v)
    |_=>.fail
   |false=>ze5 (ze1 P B.cfg ih f N ops.toList l) H (d9 N E o.dst zd1):=rfl
  rw[i]at hr;have Y:=DI (G:=G) (E:=E) (a:=a) (ops:=ops) (o:=o) (fun _ _ d _ _=>ht.slots d);have Z:∀j v,(a.put j v).defers=[]:=fun j v=>by cases j<;>exact hd
  cases g:jg ops.toList E o with
  |true=>
   rw[g]at hr Y;simp only[]at hr;split at hr
   .rename_i v H1 V;cases hp:d9 N E o.dst v with
    |none=>rw[hp]at hr;simp[ze5]at hr
    |some E1=>
     rw[hp]at hr;simp only[ze5]at hr;unfold wpList;rw[ay Y.symm];refine .inl (wE fit J h (ht.knows _) V fun I W F C K=>?_);have U:TR N F E1 (a.put o.dst I):=(ht.mono K.ext).put C hp;exact zT fit J l hr K.r U (Z _ _) (fun e a w A=>hQ _ _ _ (wD K A))
   .simp at hr
  |false=>
   rw[g]at hr Y;simp only[]at hr;cases hp:d9 N E o.dst zd1 with
   |none=>rw[hp]at hr;simp[ze5]at hr
   |some E1=>
    rw[hp]at hr;simp only[ze5]at hr;unfold wpList;rw[ah (by rw[<-Y];simp)];exact zT fit J l hr h (ht.put (tZ G) hp) (Z _ _) hQ
end
section
variable {P:Program} {B:Bs} {G:Gh} {H H':Hp} {w:World} {cfg:Cfg}
theorem Sx.beq_eq:∀{a b:Sx},Sx.beq a b=true->a=b
 | .var i,b,h=>by
   cases b<;>simp only[Sx.beq,ct]at h;rw[gK h]
 | .lit i,b,h=>by
   cases b<;>simp only[Sx.beq,ct,k8]at h;rw[h]
 | .bin o k x y,b,h=>by
   cases b<;>simp only[Sx.beq,ct,kE]at h;obtain⟨⟨⟨rfl,rfl⟩,Z⟩,g⟩:=h;rw[Sx.beq_eq Z,Sx.beq_eq g]
 | .conv k x,b,h=>by
   cases b<;>simp only[Sx.beq,ct,kE]at h;obtain⟨rfl,Z⟩:=h;rw[Sx.beq_eq Z]
mutual
theorem AV.beq_eq:∀{a b:AV},AV.beq a b=true->a=b
 | .int k a,b,h=>by
   cases b<;>simp only[AV.beq,kE,k8,ct]at h;obtain⟨rfl,rfl⟩:=h;rfl
 | .sx k a,b,h=>by
   cases b<;>simp only[AV.beq,kE,ct]at h;obtain⟨rfl,i⟩:=h;rw[Sx.beq_eq i]
 | .bool a,b,h=>by
   cases b<;>simp only[AV.beq,k8,ct]at h;subst h;rfl
 | .str a,b,h=>by
   cases b<;>simp only[AV.beq,k8,ct]at h;subst h;rfl
 | .nilP,b,h=>by cases b<;>simp only[AV.beq,ct]at h;rfl
 | .nilM,b,h=>by cases b<;>simp only[AV.beq,ct]at h;rfl
 | .nilF,b,h=>by cases b<;>simp only[AV.beq,ct]at h;rfl
 | .nilS,b,h=>by cases b<;>simp only[AV.beq,ct]at h;rfl
 | .ptr r o,b,h=>by
   cases b<;>simp only[AV.beq,dB,ct]at h;obtain⟨i,g⟩:=h;rw[gK i,gK g]
 | .iptr a,b,h=>by
   cases b<;>simp only[AV.beq,ct]at h;rw[zfv h]
 | .sl r o l z,b,h=>by
   cases b<;>simp only[AV.beq,dB,ct]at h;obtain⟨⟨⟨i,g⟩,m⟩,U⟩:=h;rw[gK i,gK g,gK m,gK U]
 | .lst a,b,h=>by
   cases b<;>simp only[AV.beq,ct]at h;rw[DJ h]
 | .map r,b,h=>by
   cases b<;>simp only[AV.beq,ct]at h;rw[gK h]
 | .clo f a,b,h=>by
   cases b<;>simp only[AV.beq,dB,ct]at h;rw[gK h.1,zfv h.2]
 | .agg a,b,h=>by
   cases b<;>simp only[AV.beq,ct]at h;rw[zfv h]
 | .tup a,b,h=>by
   cases b<;>simp only[AV.beq,ct]at h;rw[zfv h]
theorem zfv:∀{a b:List AV},zfd a b=true->a=b
 |[],b,h=>by cases b<;>simp only[zfd,ct]at h;rfl
 |a::x,b,h=>by
  cases b<;>simp only[zfd,dB,ct]at h;rw[AV.beq_eq h.1,zfv h.2]
theorem DJ:∀{a b:List (List AV)},pV a b=true->a=b
 |[],b,h=>by cases b<;>simp only[pV,ct]at h;rfl
 |a::x,b,h=>by
  cases b<;>simp only[pV,dB,ct]at h;rw[zfv h.1,DJ h.2]
end
theorem DK{M β:Type}:∀{a b:List (M×β)},a.map (·.1)=b.map (·.1)->a.map (·.2)=b.map (·.2)->a=b
 |[],b,h,_=>by cases b<;>simp at h;rfl
 |(x,y)::a,b,h,Y=>by
  cases b with
  |nil=>simp at h
  |cons c b=>
   obtain⟨u,v⟩:=c;simp only[dO,cS]at h Y;obtain⟨rfl,h⟩:=h;obtain⟨rfl,Y⟩:=Y;rw[DK h Y]
theorem HB.beq_eq{a b:HB}(h:HB.beq a b=true):a=b:=by
 cases a<;>cases b<;>simp only[HB.beq,dB,ct,k8]at h
 .obtain⟨⟨i,g⟩,m⟩:=h;rw[zfv i,gK g,m]
 .rw[DK (zfv h.1) (zfv h.2)]
def kF(P:Program)(cfg:Cfg)(ih:Task->Res)(f N:Nat)(C:List Oper):List Rec->List Oper->aw->Hp->aw->Hp->Prop
 |[],[],E,H,E',H'=>E=E'/\H=H'
 |r::rs,o::l,E,H,E',H'=>r.o=o/\r.E=E/\r.H=H/\jg C E o=r.did/\(r.did=true->zd4 P cfg ih f E H o.op=.val r.val r.H')/\(r.did=false->r.val=zd1/\r.H'=H) /\
  ∃E1,d9 N E o.dst r.val=some E1/\kF P cfg ih f N C rs l E1 r.H' E' H'
 |_,_,_,_,_,_=>False
theorem ug{ih:Task->Res}{f N:Nat}{C:List Oper}:∀{l:List Oper}{E E':aw}{H H':Hp}{rs:List Rec},gH P cfg ih f N C l E H=.done E' H' rs->kF P cfg ih f N C rs l E H E' H'
 |[],E,E',H,H',rs,h=>by
  simp only[gH,ResD.done.injEq]at h;obtain⟨rfl,rfl,rfl⟩:=h;exact⟨rfl,rfl⟩
 |o::l,E,E',H,H',rs,h=>by
  simp only[gH]at h;cases J:jg C E o with
  |true=>
   rw[J]at h;simp only[]at h;cases g:zd4 P cfg ih f E H o.op with
   |val v H1=>
    rw[g]at h;simp only[]at h;cases hp:d9 N E o.dst v with
    |none=>rw[hp]at h;simp[zfo,k0]at h
    |some E1=>
     rw[hp]at h;simp only[zfo]at h;cases hr:gH P cfg ih f N C l E1 H1 with
     |fail=>rw[hr]at h;simp[k0]at h
     |done M Z i=>
      rw[hr]at h;simp only[k0,ResD.done.injEq]at h;obtain⟨rfl,rfl,rfl⟩:=h;exact⟨rfl,rfl,rfl,J,fun _=>g,aE,E1,hp,ug hr⟩
   |done _ _ _=>rw[g]at h;simp at h
   |fail=>rw[g]at h;simp at h
  |false=>
   rw[J]at h;simp only[]at h;cases hp:d9 N E o.dst zd1 with
   |none=>rw[hp]at h;simp[zfo,k0]at h
   |some E1=>
    rw[hp]at h;simp only[zfo]at h;cases hr:gH P cfg ih f N C l E1 H with
    |fail=>rw[hr]at h;simp[k0]at h
    |done M Z i=>
     rw[hr]at h;simp only[k0,ResD.done.injEq]at h;obtain⟨rfl,rfl,rfl⟩:=h;exact⟨rfl,rfl,rfl,J,aE,fun _=>⟨rfl,rfl⟩,E1,hp,ug hr⟩
def zex(rs:List Rec)(F:aw)(e:Nat):aw:=match rs[e]? with
 |some r=>r.E
 |none=>F
theorem zU{ih:Task->Res}{f N:Nat}{C:List Oper}:∀{rs:List Rec}{l:List Oper}{E E':aw}{H H':Hp},kF P cfg ih f N C rs l E H E' H'->rs.length=l.length
 |[],[],_,_,_,_,_=>rfl
 |[],_::_,_,_,_,_,h=>by simp[kF]at h
 |_::_,[],_,_,_,_,h=>by simp[kF]at h
 |r::rs,o::l,E,E',H,H',h=>by
  obtain⟨_,_,_,_,_,_,E1,_,h⟩:=h;simp[zU h]
theorem zV{ih:Task->Res}{f N:Nat}{C:List Oper}{rs:List Rec}{l:List Oper}{E F:aw}{H H':Hp}(h:kF P cfg ih f N C rs l E H F H'):zex rs F 0=E/\zdy rs H' 0=H:=by
 cases rs with
 |nil=>
  cases l with
  |nil=>obtain⟨rfl,rfl⟩:=h;exact⟨rfl,rfl⟩
  |cons o l=>simp[kF]at h
 |cons r rs=>
  cases l with
  |nil=>simp[kF]at h
  |cons o l=>
   obtain⟨_,i,g,_⟩:=h;exact⟨by simp[zex,i],by simp[zdy,g]⟩
structure AtD (P:Program) (cfg:Cfg) (ih:Task->Res) (f N:Nat) (all:List Oper) (o:Oper) (r:Rec) (E E1:aw) (H H1:Hp):Prop where
 eo:r.o=o
 eE:r.E=E
 eH:r.H=H
 want:jg all E o=r.did
 yes:r.did=true->zd4 P cfg ih f E H o.op=.val r.val H1
 no:r.did=false->r.val=zd1/\H1=H
 put:d9 N E o.dst r.val=some E1
 eH':r.H'=H1
theorem qg{ih:Task->Res}{f N:Nat}{C:List Oper}:∀{rs:List Rec}{l:List Oper}{E E':aw}{H H':Hp},kF P cfg ih f N C rs l E H E' H'->∀{i:Nat}{r:Rec},rs[i]?=some r ->
 ∃o,l[i]?=some o/\AtD P cfg ih f N C o r (zex rs E' i) (zex rs E' (i+1)) (zdy rs H' i) (zdy rs H' (i+1))
 |[],_,_,_,_,_,_,i,r,hr=>by simp at hr
 |r::rs,[],_,_,_,_,h,_,_,_=>by simp[kF]at h
 |r::rs,o::l,E,E',H,H',h,i,r',hr=>by
  obtain⟨W,g,m,U,V,F,E1,I,J⟩:=h;obtain⟨O,M⟩:=zV J;cases i with
  |zero=>
   simp at hr;subst hr;have Y:zex (r::rs) E' 1=E1:=by rw[<-O];simp[zex]
   have A:zdy (r::rs) H' 1=r.H':=by rw[<-M];simp[zdy]
   have j:zex (r::rs) E' 0=E:=by simp[zex,g]
   have e4:zdy (r::rs) H' 0=H:=by simp[zdy,m]
   refine⟨o,rfl,?_⟩;rw[Y,A,j,e4];exact⟨W,g,m,U,V,fun Z=>⟨(F Z).1,(F Z).2⟩,I,rfl⟩
  |succ i=>
   obtain⟨L,K,z⟩:=qg J (i:=i) (r:=r') (by simpa using hr);have Y:∀k,zex (r::rs) E' (k+1)=zex rs E' k:=fun k=>by simp[zex]
   have A:∀k,zdy (r::rs) H' (k+1)=zdy rs H' k:=fun k=>by simp[zdy]
   refine⟨L,wt,?_⟩;rw[Y,Y,A,A];exact z
def nO(op:Op):Bool:=match zeB op with|.calm=>true |_=>false
def mC(op:Op):Bool:=match zeB op with|.read=>true |_=>false
theorem L8{D:BinOp->Sx->Sx->Option Bool}{E:aw}{op:Op}(j:nO op=true):∃u,∀X,cr P D E X op=ret X u:=by
 cases op<;>simp only[nO,zeB,ct]at j<;>simp only[cr]
 case move x=>exact⟨_,fun X=>rfl⟩
 case assign x=>exact⟨_,fun X=>rfl⟩
 case pick c a b=>
  unfold vX;cases zcV E c with
  |none=>exact⟨none,fun X=>rfl⟩
  |some v=>cases v with
   |bool t=>cases t<;>exact⟨_,fun X=>rfl⟩
   |_=>exact⟨none,fun X=>rfl⟩
 case build t parts=>
  unfold vY;cases zfa E parts.toList with
  |none=>exact⟨none,fun X=>rfl⟩
  |some M=>exact⟨_,fun X=>rfl⟩
 case nilCheck x=>
  unfold v2;cases zcV E x with
  |none=>exact⟨none,fun X=>rfl⟩
  |some v=>cases v with
   |ptr r o=>exact⟨some (.ptr r o),fun X=>rfl⟩
   |iptr W=>exact⟨some (.iptr W),fun X=>rfl⟩
   |_=>exact⟨none,fun X=>rfl⟩
 case binOp op t x y yt=>
  unfold v3;cases zcV E x with
  |none=>exact⟨none,fun X=>rfl⟩
  |some v=>cases zcV E y with
   |none=>exact⟨none,fun X=>rfl⟩
   |some u=>exact⟨_,fun X=>rfl⟩
 case unOp op t x=>
  unfold v4;cases zcV E x with
  |none=>exact⟨none,fun X=>rfl⟩
  |some v=>exact⟨_,fun X=>rfl⟩
 case makeFunc fn first captured=>
  unfold v6;cases fn with
  |func f=>
   cases first.toList with
   |nil=>cases zeM E captured.toList with
    |none=>exact⟨none,fun X=>rfl⟩
    |some vs=>exact⟨some (.clo f vs),fun X=>rfl⟩
   |cons _ _=>exact⟨none,fun X=>rfl⟩
  |_=>exact⟨none,fun X=>rfl⟩
 case fieldAddr t x f=>
  unfold v7;cases zcV E x with
  |none=>exact⟨none,fun X=>rfl⟩
  |some v=>exact⟨_,fun X=>rfl⟩
 case field t x f=>
  unfold v8;cases zcV E x with
  |none=>exact⟨none,fun X=>rfl⟩
  |some v=>exact⟨_,fun X=>rfl⟩
 case indexAddr t x i=>
  unfold v9;cases zcV E x with
  |none=>exact⟨none,fun X=>rfl⟩
  |some v=>cases zcV E i with
   |none=>exact⟨none,fun X=>rfl⟩
   |some u=>exact⟨_,fun X=>rfl⟩
 case index t x i=>
  unfold wa;cases zcV E x with
  |none=>exact⟨none,fun X=>rfl⟩
  |some v=>cases zcV E i with
   |none=>exact⟨none,fun X=>rfl⟩
   |some u=>exact⟨_,fun X=>rfl⟩
 case extract x i=>
  unfold wc;cases zcV E x with
  |none=>exact⟨none,fun X=>rfl⟩
  |some v=>exact⟨_,fun X=>rfl⟩
 all_goals exact⟨none,fun X=>rfl⟩
theorem zW{D:BinOp->Sx->Sx->Option Bool}{E:aw}{op:Op}{v:AV}(j:nO op=true)(h:cr P D E H op=some (v,H')):H'=H/\∀X,cr P D E X op=some (v,X):=by
 obtain⟨u,I⟩:=L8 (P:=P) (D:=D) (E:=E) j;rw[I]at h;obtain⟨rfl,rfl⟩:=zfb h;exact⟨rfl,fun X=>r0⟩
theorem zX{ih:Task->Res}{f:FuncId}{E:aw}{op:Op}{v:AV}(j:mC op=true)(h:zd4 P cfg ih f E H op=.val v H'):H'=H:=by
 cases op<;>simp only[mC,zeB,ct]at j<;>simp only[zd4,cr]at h
 case load t x=>
  unfold tL at h;split at h
  .cases F:zep P H t ‹AV› <;>rw[F]at h<;>simp[ret,jR]at h;exact h.2.symm
  .simp[jR]at h
 case slice t x lo hi mx=>
  unfold tP at h;split at h
  .rename_i Y lv L _ _ _;cases F:kY P H t Y lv L<;>rw[F]at h<;>simp[ret,jR]at h;exact h.2.symm
  .simp[jR]at h
 case convert s d x=>
  unfold tM at h;split at h
  .cases F:ze3 P H s d ‹AV› <;>rw[F]at h<;>simp[ret,jR]at h;exact h.2.symm
  .simp[jR]at h
 case lookup t m k ok=>
  unfold tQ at h;split at h
  .rename_i mv I _ _;cases F:zeY P H t mv I ok<;>rw[F]at h<;>simp[ret,jR]at h;exact h.2.symm
  .simp[jR]at h
 case call c=>
  unfold oD at h;cases hc:c.callee with
  |value g=>rw[hc]at j;simp at j
  |invoke g m=>rw[hc]at j;simp at j
  |builtin b=>
   rw[hc]at j h;simp only[]at h;split at h
   .rename_i vs _;cases b<;>simp only[ct]at j<;>simp only[mp]at h;all_goals
     split at h
     .rename_i Z H1 z;simp only[Res.val.injEq]at h;obtain⟨rfl,rfl⟩:=h;split at z
      .split at z
       .simp only[ck]at z;exact z.2.symm
       .simp at z
      .simp at z
     .simp at h
   .simp at h
theorem L9{D:BinOp->Sx->Sx->Option Bool}{E:aw}{o:Oper}{v:AV}(j:oF o=true)(h:cr P D E H o.op=some (v,H')):∃g,H'=H.alloc g:=by
 obtain⟨Z,i,U,V,W,guard⟩:=o;simp only[]at h;cases i<;>simp only[oF,zeB,ct]at j<;>simp only[cr,reduceCtorEq]at h
 case alloc t=>
  unfold tI at h;split at h
  .simp only[ck]at h;exact⟨_,h.2.symm⟩
  .simp at h
 case box t x=>
  unfold tJ at h;split at h
  .simp only[ck]at h;exact⟨_,h.2.symm⟩
  .simp at h
 case buildSlice t len parts=>
  unfold tK at h;split at h
  .unfold zej at h;(repeat' split at h)<;>first|(simp only[ck]at h;exact⟨_,h.2.symm⟩)|simp at h
  .simp at h
 case makeMap t r=>
  unfold tN at h;split at h
  .simp only[ck]at h;exact⟨_,h.2.symm⟩
  .simp at h
 case makeSlice t l c=>
  unfold tO at h;split at h
  .unfold zeA at h;(repeat' split at h)<;>first|(simp only[ck]at h;exact⟨_,h.2.symm⟩)|simp at h
  .simp at h
theorem qh{ih:Task->Res}{f:FuncId}{E:aw}{op:Op}{v:AV}(o:∀c,op≠.call c):zd4 P cfg ih f E H op=.val v H'↔cr P cfg.dec E H op=some (v,H'):=by
 have:zd4 P cfg ih f E H op=jR (cr P cfg.dec E H op):=by
  unfold zd4;split
  .exact(o _ rfl).elim
  .rfl
 rw[this];cases cr P cfg.dec E H op with
 |none=>simp[jR]
 |some p=>obtain⟨a,b⟩:=p;simp[jR]
theorem Ma{ih:Task->Res}{f:FuncId}{E:aw}{o:Oper}{v:AV}(j:jQ o=false)(h:zd4 P cfg ih f E H o.op=.val v H'):H'=H\/∃g,H'=H.alloc g:=by
 cases L:zeB o.op with
 |act=>simp[jQ,L]at j
 |read=>exact .inl (zX (by simp[mC,L]) h)
 |calm=>
  have Z:∀c,o.op≠.call c:=fun c e=>by
   rw[e]at L;simp only[zeB]at L;split at L<;>simp at L
  exact .inl (zW (P:=P) (by simp[nO,L]) ((qh Z).1 h)).1
 |make=>
  have Z:∀c,o.op≠.call c:=fun c e=>by
   rw[e]at L;simp only[zeB]at L;split at L<;>simp at L
  exact .inr (L9 (by simp[oF,L]) ((qh Z).1 h))
end
end Go.Ab
