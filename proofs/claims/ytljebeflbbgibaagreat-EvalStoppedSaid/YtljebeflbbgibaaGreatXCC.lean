/- Parts: AbOps3, AbOps4, AbOps5, AbOps6, AbOp, AbRun, AbDraw1. -/
import Derived.Laws.Tables
import Derived.Lib.Strings
import Derived.Test.YtljebeflbbgibaaGreatXCB
set_option linter.unusedSimpArgs false
set_option linter.unusedVariables false
set_option linter.unusedSectionVars false
set_option linter.defProp false
set_option maxHeartbeats 32000000
namespace Go.Ab
set_option maxRecDepth 20000
open Go
theorem Dq{P:Prop}(h:P:=by show L.data.toList.length=L.data.size;simp):P:=h
theorem zB{P:Prop}(h:P:=by rw[<- Nat.add_mul];congr 1;omega):P:=h
theorem tX{P:Prop}(h:P:=by rw[g];omega):P:=h
theorem o7{P:Prop}(h:P:=by simpa using I):P:=h
theorem jH{P:Prop}(h:P:=by simpa using F.symm):P:=h
theorem wu{P:Prop}(h:P:=by simp[Builtin.lenOf]):P:=h
theorem rV{P:Prop}(h:P:=by rw[List.length_take];omega):P:=h
theorem tY{P:Prop}(h:P:=by simp[Builtin.len_,zeA hd,goInt]):P:=h
theorem dX{P:Prop}(h:P:=by simp[Op.operands]):P:=h
theorem zC{P:Prop}(h:P:=by simp only[Op.operands,List.mem_toArray,List.mem_map];exact⟨p,hp,rfl⟩):P:=h
theorem zD{P:Prop}(h:P:=by apply Array.ext';simp):P:=h
def gT:=@Nat.sub_self
def iZ:=@Option.map_some
def kL:=@congrArg
def cG:=@Nat.zero_le
def lz:=@Nat.add_mul
def zE:=@List.zipIdx_cons
def Dr:=@Array.toList_setIfInBounds
def mS:=@List.take_add_one
def zF:=@Decidable.byContradiction
def mT:=@Nat.add_zero
def rW:=@Array.toArray_toList
def p9:=@Nat.succ_mul
def zG:=@Array.toList_map
def dK:=@List.getElem?_map
def wv:=@List.getElem?_range
def bJ:=@List.append_nil
def rX:=@Nat.mul_le_mul_right
def zH:=@List.map_take
def qa:=@Go.IntWalk.i64_in
def lA:=@List.flatten_cons
def tZ:=@Nat.zero_mul
def zI:=@Go.run_firstCells_some
def i5:=@List.mem_of_getElem?
def dY:=@List.drop_zero
def ww:=@Nat.sub_zero
def t3:=@List.take_length
def dC:=@Bool.and_eq_true
def t4:=@Nat.le_of_ble_eq_true
def cC:=@Bool.false_eq_true
def wy:=@List.drop_append_of_le_length
def jI:=@decide_eq_true_eq
def a5:=@Option.getD_some
def o8:=@List.getElem?_set
def t6:=@Array.getElem?_toList
def cR:=@List.cons.injEq
def gD:=@Nat.mul_one
def o9:=@Go.Code.wp_mono
def dL:=@List.map_cons
def j4:=And.intro @dC @jI
end Go.Ab
namespace Go.Ab
set_option maxRecDepth 20000
open Go Go.RowKit
def qb(G:Gh):Option AV->Option Value->Prop
 |none,none=>True
 |some c,some v=>VR G c v
 |_,_=>False
section
variable {P:Program} {B:Bs} {G:Gh} {H H':Hp} {w:World}
theorem wz{c:AV}{v:Value}{k y:Nat}(code:BoundsCode)(h:VR G c v)(z:ze1 0 (some c)=some k)(j:k<=y):(Instr.sliceBound v y code).run P w=.ok k w:=by
 unfold ze1 at z;split at z
 .simp at *
 .rename_i F n e;simp only[aA]at z e;subst z;subst e;cases h;simp[Instr.sliceBound,asIntOf,j]
 .simp at z
theorem L0{d k:Nat}{c:AV}(h:ze1 d (some c)=some k):ze1 0 (some c)=some k:=by
 unfold ze1 at *;split at h<;>simp_all
theorem zJ{lo Y:Option AV}{A C:Option Value}{l h len cap:Nat}(F:qb G lo A)(o:qb G Y C)(Z:ze1 0 lo=some l)(I:ze1 len Y=some h)(h1:l<=h)(h2:h<=len)(V:len<=cap)(J:Bool):
 (Instr.sliceBounds J len cap A C none).run P w=.ok (l,h,cap) w:=by
 cases Y with
 |none=>
  cases C with
  |some v=>exact o.elim
  |none=>
   simp only[ze1,aA]at I;subst I;cases lo with
   |none=>
    cases A with
    |some v=>exact F.elim
    |none=>
     simp only[ze1,aA]at Z;subst Z;simp[Instr.sliceBounds]
   |some c=>
    cases A with
    |none=>exact F.elim
    |some v=>simp[Instr.sliceBounds,wz _ F Z h1]
 |some L=>
  cases C with
  |none=>exact o.elim
  |some M=>
   have K:=L0 I;cases lo with
   |none=>
    cases A with
    |some v=>exact F.elim
    |none=>
     simp only[ze1,aA]at Z;subst Z;simp[Instr.sliceBounds,wz _ o K (show h<=cap by omega)]
   |some c=>
    cases A with
    |none=>exact F.elim
    |some v=>simp[Instr.sliceBounds,wz _ F Z h1,wz _ o K (show h<=cap by omega)]
theorem L1{t:TypeId}{x c:AV}{xv:Value}{lo A:Option AV}{K C:Option Value}(hx:VR G x xv)(hl:qb G lo K)(hh:qb G A C)(h:jk P t x lo A=some c):
 ∃v,(Instr.sliceAt t xv K C none).run P w=.ok v w/\VR G c v:=by
 unfold jk at h;split at h
 .rename_i s hd;split at h
  .rename_i l hh' F Z;split at h
   .rename_i hc;simp only[aA]at h;subst h;cases hx with
    |str L _ hs=>
     subst hs;have hb:=zJ (P:=P) (w:=w) (cap:=L.size) hl hh F Z hc.1 hc.2 (by show L.data.toList.length<=L.data.size;simp) false;have hsz:L.data.toList.length=L.size:=Dq;rw[hsz]at hb;refine⟨.string (L.extract l hh'),?_,.str _ _ (Lib.extract_data _ _ _)⟩;simp only[Instr.sliceAt,dO,zeA hd,dW,Instr.slice];simp[hb]
   .simp at h
  .simp at h
 .rename_i e y hd;split at h
  .rename_i z hz;have O:∀(a:Option Addr) (Y cap l I:Nat),xv=.slice a Y cap->ze1 0 lo=some l->ze1 Y A=some I->l<=I->I<=Y->Y<=cap ->
    (Instr.sliceAt t xv K C none).run P w=.ok (.slice (if cap=l then a else a.map (·.add (l*z))) (I-l) (cap-l)) w:=fun a Y cap l I e1 F Z m M h3=>by
    subst e1;simp only[Instr.sliceAt,dO,zeA hd,dW,Instr.slice];simp[zJ hl hh F Z m M h3,jo hz]
   split at h
   .rename_i r off Y z';split at h
    .rename_i l I F Z;split at h
     .rename_i hc;obtain⟨m,M,rfl⟩:=hc;cases hx with
      |sl hr hlc hx'=>
       rename_i b o x cap;have:=O _ Y cap l I rfl F Z m M hlc;split at h
       .rename_i e1;simp only[aA]at h;subst h;subst e1;rw[gT]at this;exact⟨_,this,.lst0 _ _⟩
       .rename_i hne;simp only[aA]at h;subst h;rw[ai ac]at this;refine⟨_,this,?_⟩;simp only[iZ,zfU];rw[io];refine .sl hr ac ?_;have e3:(cap-l)*z'+l*z'=cap*z':=zB;omega
     .simp at h
    .simp at h
   .rename_i xs;split at h
    .rename_i l I F Z;split at h
     .rename_i hc;obtain⟨m,M⟩:=hc;split at h
      .rename_i he;simp only[aA]at h;subst h;have g:I-l=0:=by
        have:=kL List.length he;simp only[iX,iD,jF]at this;omega
       cases hx with
       |lst vs hzz hF hv J=>
        have:=O _ _ _ l I rfl F Z m M J;rw[g]at this;exact⟨_,this,.lst0 _ _⟩
       |lst0 a cap=>
        have:=O _ _ _ l I rfl F Z m M (cG cap);rw[g]at this;exact⟨_,this,.lst0 _ _⟩
      .rename_i row rows he;split at h
       .rename_i hrl;simp only[aA]at h;subst h;have hpos:0<I-l:=by
         have:=kL List.length he;simp only[iX,iD,dq]at this;omega
        cases hx with
        |lst0 a cap=>simp at M;omega
        |lst vs hzz hF hv J=>
         rename_i b o cap z';have V:=O _ _ _ l I rfl F Z m M J;rw[ai ac]at V;have U:∀i:Nat,(row::rows)[i]?=if i<I-l then xs[l+i]? else none:=fun i=>by
          rw[<-he,mQ,nW]
         have hz':z'=z:=by
          have:=U 0;rw[az hpos]at this;rw[<-hzz (l+0) row (by rw[<-this];rfl)];exact hrl
         subst hz';have g:(row::rows).length=I-l:=by
          rw[<-he];simp only[iX,iD];omega
         refine⟨_,V,?_⟩;simp only[iZ,zfU];rw[<-g];refine .lst (z:=z') (fun i j=>vs (l+i) j) (fun i rw' A=>?_) (fun i j A hj=>?_) (fun i j rw' d A hj=>?_) tX
         .rw[U i]at A;split at A
          .exact hzz _ _ A
          .simp at A
         .have:=hF (l+i) j (by rw[g]at A;omega) hj;rw[<-this]
          congr 1
          rw[lz];omega
         .rw[U i]at A;split at A
          .exact hv _ _ _ _ A hj
          .simp at A
       .simp at h
     .simp at h
    .simp at h
   .split at h
    .rename_i F Z;simp only[aA]at h;subst h;cases hx;have:=O none 0 0 0 0 rfl F Z (aM _) (aM _) (aM _);exact⟨_,this,.nilS⟩
    .simp at h
   .simp at h
  .simp at h
 .simp at h
theorem bW.splice{cs o:List AV}{vs j:List Value}(h:bW G cs vs)(m:bW G o j)(off:Nat):bW G (Ab.splice cs off o) (vs.take off++j++vs.drop (off+j.length)):=by
 unfold Ab.splice;rw[m.1];exact((h.take off).append m).append (h.drop _)
theorem Ds(off:Nat):∀(Z:List Value) (k:Nat) (cells:Array Value),off+k+Z.length<=cells.size ->
 ((Z.zipIdx k).foldl (fun Y (c,j)=>Y.setIfInBounds (off+j) c) cells).toList=cells.toList.take (off+k)++Z++cells.toList.drop (off+k+Z.length)
 |[],k,cells,_=>by simp
 |v::Z,k,cells,h=>by
  simp only[dq]at h;rw[zE,List.foldl_cons,Ds off Z (k+1) _ cf];simp only[Dr,dq];have hp:off+k<cells.toList.length:=cf;have i:(cells.toList.set (off+k) v).take (off+(k+1))=cells.toList.take (off+k)++[v]:=by
   rw[<-io,mS,List.take_set_of_le (aM _),List.getElem?_set_self hp];rfl
  rw[i,List.drop_set_of_lt ac,show off+(k+1)+Z.length=off+k+(Z.length+1) by omega];simp
theorem wA{o:Nat->Option (Nat×Nat)}:∀{ps:List (Nat×AV)}{pv:List (Nat×Value)}{cs out:List AV}{vs:List Value},ps.length=pv.length ->
 (∀(i:Nat) p q,ps[i]?=some p->pv[i]?=some q->p.1=q.1/\VR G p.2 q.2)->bW G cs vs->mL o cs ps=some out ->
 ∃K,Instr.fill o vs.toArray pv=some K.toArray/\bW G out K
 |[],[],cs,out,vs,_,_,hv,h=>by
  simp only[mL,aA]at h;subst h;exact⟨vs,rfl,hv⟩
 |[],q::pv,_,_,_,hl,_,_,_=>by simp at hl
 |p::ps,[],_,_,_,hl,_,_,_=>by simp at hl
 |(i,c)::ps,(i',v)::pv,cs,out,vs,hl,hp,hv,h=>by
  obtain⟨rfl,L⟩:=hp 0 (i,c) (i',v) rfl rfl;simp only[]at L;simp only[mL]at h;split at h
  .simp at h
  .rename_i V m F;split at h
   .simp at h
   .rename_i Y;have Z:=L.cells;have g:v.cells.size=c.cells.length:=by rw[Z.1];simp
    have U:v.cells.size=m/\V+v.cells.size<=vs.length:=by
     rw[g,<-hv.1];constructor
     .apply zF;intro O;exact Y (.inl O)
     .apply zF;intro O;exact Y (.inr ac)
    obtain⟨K,C,A⟩:=wA (ps:=ps) (pv:=pv) (cs:=Ab.splice cs V c.cells) (out:=out) (vs:=vs.take V++v.cells.toList++vs.drop (V+v.cells.toList.length))
     (by simpa using hl) (fun j p q J I=>hp (j+1) p q (by simpa using J) o7) (hv.splice Z V) h
    refine⟨K,?_,A⟩;simp only[Instr.fill,F];rw[ai cf];rw[<-C]
    congr 1
    apply lm;have M:=Ds V v.cells.toList 0 vs.toArray cf;simp only[mT]at M;rw[List.toList_toArray,<-M];rw[<-Array.foldl_toList,Array.toList_zipIdx]
theorem wB{E:ax}{a:Act}:∀{ps:List (Nat×Operand)}{out:List (Nat×AV)},(∀p∈ps,∀c,zdo E p.2=some c->VR G c (a.eval p.2))->zfH E ps=some out ->
 out.length=(ps.map fun x=>(x.1,a.eval x.2)).length/\∀(i:Nat) p q,out[i]?=some p->(ps.map fun x=>(x.1,a.eval x.2))[i]?=some q->p.1=q.1/\VR G p.2 q.2
 |[],out,_,h=>by
  simp only[zfH,aA]at h;subst h;exact⟨rfl,aB⟩
 |(i,x)::ps,out,hE,h=>by
  simp only[zfH]at h;split at h
  .rename_i v vs L Z;simp only[aA]at h;subst h;obtain⟨Y,g⟩:=wB (ps:=ps) (out:=vs) (fun p hp=>hE p (by simp[hp])) Z;refine⟨by simpa using Y,fun j p q O F=>?_⟩;cases j with
   |zero=>
    simp at O F;subst O F;exact⟨rfl,hE (i,x) aB v L⟩
   |succ j=>exact g j p q wj (by simpa using F)
  .simp at h
theorem L2{t:TypeId}{ps:List (Nat×AV)}{pv:List (Nat×Value)}{c:AV}(C:ps.length=pv.length)(A:∀(i:Nat) p q,ps[i]?=some p->pv[i]?=some q->p.1=q.1/\VR G p.2 q.2)(h:zeI P t ps=some c):
 ∃v,(Instr.build t pv.toArray).run P w=.ok v w/\VR G c v:=by
 unfold zeI at h;split at h
 .rename_i z U M hd;split at h
  .rename_i O F;split at h
   .rename_i J m;simp only[aA]at h;subst h;obtain⟨it,zv,zc,Z,Y,j,rfl⟩:=zw M;have L:=(rS (G:=G) j).cells;obtain⟨K,V,g⟩:=wA C A L m;refine⟨.agg K.toArray,run_build w t _ _ ?_,.agg g.1 g.2⟩;simp only[Program.built,Z,hd,Y];unfold C6 at F;rw[F];simp only[rW]at V;simpa using V
   .simp at h
  .simp at h
 .rename_i z n e M hd;split at h
  .rename_i s hs;split at h
   .rename_i J m;simp only[aA]at h;subst h;obtain⟨it,zv,zc,Z,Y,j,rfl⟩:=zw M;have L:=(rS (G:=G) j).cells;obtain⟨ie,I,o⟩:=Dh hs;obtain⟨K,V,g⟩:=wA C A L m;refine⟨.agg K.toArray,run_build w t _ _ ?_,.agg g.1 g.2⟩;simp only[Program.built,Z,hd,Y,I,o];simp only[rW]at V;simpa using V
   .simp at h
  .simp at h
 .simp at h
theorem rep_get(z:List AV):∀(n j:Nat),j<n*z.length->(gJ z n)[j]?=z[j%z.length]?
 |0,j,h=>by simp at h
 |n+1,j,h=>by
  simp only[gJ];by_cases O:j<z.length
  .rw[fz O,Nat.mod_eq_of_lt O]
  .have I:j<n*z.length+z.length:=by simpa [p9]using h
   rw[fZ ac,rep_get z n (j-z.length) ac]
   congr 1
   exact(Nat.mod_eq_sub_mod ac).symm
theorem wC(z:List AV):∀n,(gJ z n).length=n*z.length
 |0=>by simp[gJ]
 |n+1=>by simp[gJ,wC z n,lz];omega
theorem Dt{z:List AV}{Y:Array Value}(V:bW G z Y.toList)(n:Nat):bW G (gJ z n) (((Array.range (n*z.length)).map (Y[·% Y.size]!))).toList:=by
 have F:=V.1;refine⟨by simp[wC],fun j c v hc L=>?_⟩;have O:j<n*z.length:=by
  have:=(de.1 hc).1;rw[wC]at this;exact this
 rw[rep_get z n j O]at hc;simp only[zG,Array.toList_range,dK,wv O,iZ,aA]at L;have i:0<z.length:=by
  rcases Nat.eq_zero_or_pos z.length with e|e
  .rw[e]at O;omega
  .exact e
 have M:j%z.length<z.length:=Nat.mod_lt _ i;have Z:Y.size=z.length:=jH;refine V.2 (j%z.length) c v hc ?_;rw[Z]at L;rw[<-L];simp[Z,M]
theorem Du{o:Nat->Option (Nat×Nat)}:∀{F:List (Nat×AV)}{Y M:List AV},mL o Y F=some M->M.length=Y.length
 |[],Y,M,h=>by simp only[mL,aA]at h;rw[h]
 |(i,c)::F,Y,M,h=>by
  simp only[mL]at h;split at h
  .simp at h
  .split at h
   .simp at h
   .rename_i hc;rw[Du h,LC];apply zF;intro m;exact hc (.inr ac)
theorem Dv{t:TypeId}{len:Nat}{ps:List (Nat×AV)}{pv:List (Nat×Value)}{c:AV}(C:ps.length=pv.length)(o:∀(i:Nat) p q,ps[i]?=some p->pv[i]?=some q->p.1=q.1/\VR G p.2 q.2)
 (Z:zeP P H t len ps=some (c,H')):l3 P G w (Instr.buildSlice t len pv.toArray) id c H H':=by
 unfold zeP at Z;split at Z
 .rename_i e hd;split at Z
  .rename_i s z O j;split at Z
   .rename_i hc;obtain⟨h24,J⟩:=hc;split at Z
    .rename_i M I;simp only[cr]at Z;obtain⟨rfl,rfl⟩:=Z;obtain⟨zv,L,V⟩:=tW j;have m:=Dt (V G) len;obtain⟨K,Y,g⟩:=wA C o m I;have F:K.length=len*s:=by
      rw[<-g.1,Du I,wC,J]
     refine⟨.cells M 0 true,.cells (K++[]).toArray e,K.length+0,.slice (some ⟨w.heap.size,0,none⟩) len len,rfl,?_,.cells M K [] e g,fun G' hG=>.sl hG (aM _) ac⟩;rw[bJ];show _=Result.ok (Value.slice (some ⟨w.heap.size,0,none⟩) len len) _
     .have A:¬(len*s > 2^24):=by omega
      rw[J]at Y;by_cases U:len*s=0
      .rw[U]at Y;simp at Y;simp[Instr.buildSlice,zeA hd,jo O,U,newRow];rw[show Array.map (fun _:Nat=>(default:Value)) (Array.range 0)=#[]from by simp,Y];rfl
      .simp only[rW]at Y;simp[Instr.buildSlice,zeA hd,jo O,A,U,L,Y,newRow]
    .simp at Z
   .simp at Z
  .simp at Z
 .simp at Z
theorem Dw{t:TypeId}{l c r:AV}{O cv:Value}(hl:VR G l O)(hc:VR G c cv)(M:ze7 P H t l c=some (r,H')):
 l3 P G w (Instr.makeSlice t O cv) id r H H':=by
 unfold ze7 at M;split at M
 .rename_i e zeb l k2 c hd;cases hl;cases hc;split at M
  .rename_i s b z C hb hz;split at M
   .rename_i Y;obtain⟨U,h2,h3,h4⟩:=Y;simp only[cr]at M;obtain⟨rfl,rfl⟩:=M;obtain⟨j,L,K⟩:=tW hz;obtain⟨i,A,F⟩:∃i,P.info? e=some i/\i.bytes=b:=by simpa [zd6,mR]using hb
    have M:zeL=70368744177664:=rfl;rw[M]at h2 h3;have m:=Dt (K G) l;have V:((Array.range (c*s)).map (j.cells[·% j.cells.size]!)).toList=((Array.range (l*s)).map (j.cells[·% j.cells.size]!)).toList++(((Array.range (c*s)).map (j.cells[·% j.cells.size]!)).toList.drop (l*s)):=by
     have Z:l*s<=c*s:=rX _ U
     conv=>lhs;rw[<-List.take_append_drop (l*s) ((Array.range (c*s)).map (j.cells[·% j.cells.size]!)).toList]
     congr 1
     simp only[zG,Array.toList_range,<-zH];rw[List.take_range,Nat.min_eq_left Z]
    rw[h4]at m;have I:Made G (.cells (gJ z l) 0 true) _ _:=.cells _ _ (((Array.range (c*s)).map (j.cells[·% j.cells.size]!)).toList.drop (l*s)) e m;rw[<-V,rW]at I;refine⟨_,_,_,.slice (some ⟨w.heap.size,0,none⟩) l c,rfl,?_,I,fun G' hG=>.sl hG U ?_⟩
    .show _=Result.ok (Value.slice (some ⟨w.heap.size,0,none⟩) l c) _;have zft:IntKind.i64.wrap (l:Int)=l:=qa _ ac;have o:IntKind.i64.wrap (c:Int)=c:=qa _ ac;have J:¬((b:Int)*c > 2^48):=by
      have:(b:Int)*c=((c*b:Nat):Int):=by rw[Nat.mul_comm];simp
      rw[this];omega
     have h5:¬((281474976710656:Int)<(b:Int)*c):=by simpa using J
     have h6:¬(c<l):=ac;have p1:¬((c:Int)<0):=ac;have p2:¬((l:Int)<0):=ac;simp only[Instr.makeSlice,dO,zeA hd,dW,asInt,asIntOf];by_cases h0:c*s=0
     .simp[rT A,F,zft,o,h5,h6,p1,p2,jo C,h0,newRow];rw[show ∀f g:Nat->Value,Array.map f (Array.range 0)=Array.map g (Array.range 0)from fun f g=>aB]
     .simp[rT A,F,zft,o,h5,h6,p1,p2,jo C,h0,L,newRow]
    .have Z:l*s<=c*s:=rX _ U;simp;omega
   .simp at M
  .simp at M
 .simp at M
end
section
variable {P:Program} {B:Bs} {G:Gh} {H H':Hp} {w:World}
theorem bW.oneCell{cs:List AV}{vs:List Value}(h:bW G cs vs)(K:cs.all AV.one=true):∀v∈vs,v.oneCell'=true:=fun v L=>by
 obtain⟨i,A,rfl⟩:=o0 L;have Y:i<cs.length:=by rw[h.1];exact A
 rw[(h.2 i _ _ (aR Y) (aR A)).oneCell];exact gS.1 K _ (dr Y)
theorem L3{xs:List (List AV)}{s:Nat}(K:∀(i:Nat) (z:List AV),xs[i]?=some z->z.length=s):xs.flatten.length=xs.length*s /\
 ∀(i j:Nat) (c:AV),j<s->xs.flatten[i*s+j]?=some c->∃z,xs[i]?=some z/\z[j]?=some c:=by
 induction xs with
 |nil=>exact⟨aB,aB⟩
 |cons z xs ih=>
  have hr:=K 0 z rfl;obtain⟨Z,g⟩:=ih (fun i r A=>K (i+1) r oZ);refine⟨by simp[Z,hr,p9];omega,fun i j c O hc=>?_⟩;rw[lA]at hc;cases i with
  |zero=>
   rw[tZ,bC,fz ac]at hc;exact⟨z,rfl,hc⟩
  |succ i=>
   rw[fZ (by rw[hr,p9];omega)]at hc;rw[hr,show(i+1)*s+j-s=i*s+j by rw[p9];omega]at hc;obtain⟨r,V,Y⟩:=g i j c O hc;exact⟨r,by simpa using V,Y⟩
theorem L4{k n s:Nat}(h:k<n*s):k/s<n/\k%s<s/\k=k/s*s+k%s:=by
 have K:0<s:=by
  rcases Nat.eq_zero_or_pos s with e|e
  .subst e;omega
  .exact e
 refine⟨(Nat.div_lt_iff_lt_mul K).2 h,Nat.mod_lt _ K,?_⟩;have:=Nat.div_add_mod k s;rw[Nat.mul_comm]at this;omega
theorem L5(h:R B H w G){t:TypeId}{x c:AV}{i:Value}{lo Z:Option AV}{A C:Option Value}(I:VR G x i)(F:qb G lo A)(Y:qb G Z C)(K:k8 P H t x lo Z=some c):
 ∃v,(Instr.sliceAt t i A C none).run P w=.ok v w/\VR G c v:=by
 unfold k8 at K;split at K
 .rename_i r V;split at K
  .rename_i n e cs j U hd M;split at K
   .rename_i z l L J m g;split at K
    .rename_i hc;obtain⟨h1,h2,h3⟩:=hc;cases I with
     |ptr hr=>
      rename_i b o x;have hf:=h.fits _ _ _ _ _ _ _ hr M;have hb:=zJ (P:=P) (w:=w) (cap:=n) F Y m g h1 h2 (aM _) false;have O:(Instr.sliceAt t (.pointer (some ⟨b,o+V,none⟩)) A C none).run P w=.ok (.slice (some (if n=l then ⟨b,o+V,none⟩else ⟨b,o+V+l*z,none⟩)) (L-l) (n-l)) w:=by
       simp only[Instr.sliceAt,dO,zeA hd,dW];simp[Instr.sureAddr,hb,jo J,zfU]
      split at K
      .rename_i e1;simp only[aA]at K;subst K;subst e1;rw[gT]at O;exact⟨_,O,.lst0 _ _⟩
      .rename_i hne;simp only[aA]at K;subst K;rw[ai ac]at O;refine⟨_,O,?_⟩;rw[io];refine .sl hr ac ?_;have e3:(n-l)*z+l*z=n*z:=zB;omega
    .simp at K
   .simp at K
  .simp at K
 .exact L1 I F Y K
theorem zK(h:R B H w G){s n:Nat}{x:AV}{xv:Value}{l:List AV}(hx:VR G x xv)(K:zfk H s x=some (n,l)):
 ∃I,bW G l I/\I.length=n*s/\(∀Y,(Builtin.lenOf xv).run P Y=.ok n Y)/\(∀Y,(∀a,Y.cell? a=w.cell? a)->(Builtin.firstCells s n xv).run P Y=.ok I.toArray Y):=by
 unfold zfk at K;split at K
 .rename_i r off V z;cases hx with
  |sl hr hl hc=>
   rename_i b o x L;split at K
   .rename_i cs imm tip hg;simp only[]at K;split at K
    .rename_i g;simp only[cr]at K;obtain⟨rfl,rfl⟩:=K;obtain⟨vs,h1,h2⟩:=(((h.cells _ _ _ _ _ _ _ hr hg).drop off).take (V*s)).list;have O:vs.length=V*s:=by rw[<-h1.1];exact g
     refine⟨vs,h1,O,fun Y=>wu,fun Y C=>?_⟩;exact zI Y s V _ V L vs O (fun j v hj=>by rw[C,zfU];exact h2 j v hj)
    .simp at K
   .simp at K
 .rename_i U;split at K
  .rename_i m;simp only[cr]at K;obtain⟨rfl,rfl⟩:=K;have J:∀(i:Nat) (Z:List AV),U[i]?=some Z->Z.length=s:=fun i Z hi=>by
    have:=gS.1 m Z (i5 hi);simpa using this
   obtain⟨hfl,hfg⟩:=L3 J;cases hx with
   |lst0 a L=>
    refine⟨[],lY G,aB,fun Y=>wu,fun Y C=>?_⟩;cases a with
    |none=>simp[Builtin.firstCells]
    |some a=>
     simp[Builtin.firstCells];rfl
   |lst vs hz hF A hcap=>
    rename_i b o L z;have hzs:U.length=0\/z=s:=by
     cases U with
     |nil=>exact .inl rfl
     |cons Z U=>exact .inr (by rw[<-hz 0 Z rfl,J 0 Z rfl])
    have hh:gC G w b o U.flatten:=fun k c hk=>by
     have F:k<U.length*s:=by rw[<-hfl];exact(de.1 hk).1
     obtain⟨d1,d2,d3⟩:=L4 F;have hz':z=s:=by
      rcases hzs with e|e
      .rw[e]at F;omega
      .exact e
     subst hz';obtain⟨Z,g1,g2⟩:=hfg (k/z) (k%z) c d2 (by rw[<-d3];exact hk);refine⟨vs (k/z) (k%z),?_,A _ _ Z c g1 g2⟩;have:=h.frz _ _ _ (hF (k/z) (k%z) d1 d2);rw[show o+k=o+k/z*z+k%z by omega];exact this
    obtain⟨I,h1,h2⟩:=hh.list;have O:I.length=U.length*s:=by rw[<-h1.1];exact hfl
    refine⟨I,h1,O,fun Y=>wu,fun Y C=>?_⟩;exact zI Y s U.length _ U.length L I O (fun j v hj=>by rw[C,zfU];exact h2 j v hj)
  .simp at K
 .simp only[cr]at K;obtain⟨rfl,rfl⟩:=K;cases hx;exact⟨[],lY G,aB,fun Y=>wu,fun Y C=>by simp[Builtin.firstCells]⟩
 .rename_i b;split at K
  .rename_i e;subst e;simp only[cr]at K;obtain⟨rfl,rfl⟩:=K;cases hx with
   |str M _ hb=>
    subst hb;have hsz:M.data.toList.length=M.size:=by show M.data.toList.length=M.data.size;simp
    refine⟨M.data.toList.map fun x=>.int .u8 x.toNat,⟨aB,fun i c v hc A=>?_⟩,aB,fun Y=>by simp[Builtin.lenOf,hsz],fun Y C=>?_⟩
    .rw[dK]at hc A;cases hi:M.data.toList[i]? with
     |none=>rw[hi]at hc;simp at hc
     |some u=>
      rw[hi]at hc A;simp only[iZ,aA]at hc A;subst hc A;exact .int _ _
    .simp only[Builtin.firstCells,iE]
     congr 1
     apply lm;have:(M.extract 0 M.data.toList.length).data.toList=M.data.toList:=by
      rw[Lib.extract_data,dY,ww,t3]
     simp only[zG,this]
  .simp at K
 .simp at K
theorem Dx(z:Array Value)(n:Nat):(Builtin.zeroCells z n).toList.length=n*z.size:=by simp[Builtin.zeroCells]
theorem Dy{t u e ty:TypeId}{O:TypeDesc}(hd:P.underlying t=some (.slice e))(K:P.underlying u=some O)(U:∀k,O≠.int k){s:Nat}(Z:zdB P e=some s)
 {a:Option Addr}{len cap n:Nat} (g:len+n<=cap) {i:Value}{j:List Value} (F:(Builtin.lenOf i).run P w=.ok n w) (m:(Builtin.firstCells s n i).run P w=.ok j.toArray w) :
 (Builtin.append_ #[t,u] ty #[.slice a len cap,i]).run P w=(match a with
   |some a=>((storeCells (a.add (len*s)) j).run P w).andThen fun _ Y=>.ok (.slice (some a) (len+n) cap) Y
   |none=>.ok (.slice none (len+n) cap) w):=by
 have z:(match O with|.int _=>true |_=>false)=false:=by cases O<;>first|rfl|exact(U _ rfl).elim
 simp only[Builtin.append_];simp[zeA hd,zeA K,jo Z,F];rw[az g,m];cases a<;>simp
theorem Dz{t u e ty:TypeId}{O:TypeDesc}(hd:P.underlying t=some (.slice e))(M:P.underlying u=some O)(U:∀k,O≠.int k){s:Nat}(L:zdB P e=some s){b:Nat}(z:zd6 P e=some b)
 {j:Value} (C:∀w,(zeroValue e).run P w=.ok j w)
 {a:Option Addr}{len cap n:Nat} (g:cap<len+n) (K:(len+n)*b<=zeL) (I:len+n<=zeL) {Z:Value}{ov V:List Value} (A:(Builtin.lenOf Z).run P w=.ok n w) (m:(Builtin.firstCells s n Z).run P w.drew=.ok V.toArray w.drew)
 (o:(Builtin.firstCells s len (.slice a len cap)).run P w.drew=.ok ov.toArray w.drew) :
 (Builtin.append_ #[t,u] ty #[.slice a len cap,Z]).run P w=.ok (.slice (some ⟨w.heap.size,0,none⟩) (len+n) (grownCap w (len+n) cap e))
   (w.drew.alloc (.cells (ov++V++(Builtin.zeroCells j.cells (grownCap w (len+n) cap e-(len+n))).toList).toArray e)):=by
 have hz':(match O with|.int _=>true |_=>false)=false:=by cases O<;>first|rfl|exact(U _ rfl).elim
 obtain⟨i,hi,F⟩:∃i,P.info? e=some i/\i.bytes=b:=by simpa [zd6,mR]using z
 have hm:zeL=70368744177664:=rfl;rw[hm]at K I;have J:¬(281474976710656<Builtin.nextslicecap (len+n) cap*b):=by
  have:=growslice_fits g (bytes:=b) ac;omega
 have Y:¬(9223372036854775807<((len:Int)+(n:Int))):=ac;have h1:¬(len+n<=cap):=ac;simp only[Builtin.append_];simp[zeA hd,zeA M,jo L,A,h1,rT hi,F,Y,J,Question.forced,o,m,C,newRow,grownCap]
 congr 2
 apply lm;simp
theorem R.heap{w':World}(h:R B H w G)(e:w'.heap=w.heap):R B H w' G:=by
 have k:∀a,w'.cell? a=w.cell? a:=fun a=>by simp[World.cell?,e]
 have V:∀a,w'.frozen? a=w.frozen? a:=fun a=>by simp[World.frozen?,e]
 exact{
  base:=by rw[e];exact h.base
  dom:=h.dom
  lt:=fun r b o x hr=>by rw[e];exact h.lt r b o x hr
  cells:=fun r b o x Y imm K hr hc j c O=>by rw[k];exact h.cells r b o x Y imm K hr hc j c O
  imm:=h.imm
  ext:=h.ext
  fits:=h.fits
  room:=fun r b o x Y imm K hr hc j O L=>by rw[k,V];exact h.room r b o x Y imm K hr hc j O L
  apart:=h.apart
  map:=fun r b o x C hr hc=>by rw[e];exact h.map r b o x C hr hc
  mapApart:=h.mapApart
  frz:=fun b o v m=>by rw[k];exact h.frz b o v m
  val:=h.val
  sym:=h.sym}
theorem Step.of_drew{Y:Nat}{w':World}{i:Gh}(h:Step B Y G w.drew H' w' i):Step B Y G w H' w' i:=
 ⟨h.r,h.ext,⟨h.fr.os,h.fr.tape,h.fr.output,h.fr.size,h.fr.block⟩,h.new,h.low,h.mono,h.icy⟩
theorem gC.first{b o off s len:Nat}{cs:List AV}(Y:gC G w b o cs)(F:off+len*s=cs.length){cap:Nat}:
 ∃ov,bW G (cs.drop off) ov/\ov.length=len*s/\∀Z,(∀a,Z.cell? a=w.cell? a)->(Builtin.firstCells s len (.slice (some ⟨b,o+off,none⟩) len cap)).run P Z=.ok ov.toArray Z:=by
 obtain⟨vs,i,g⟩:=(Y.drop off).list;have O:vs.length=len*s:=by rw[<-i.1,iD];omega
 exact⟨vs,i,O,fun Z J=>zI Z s len _ len cap vs O (fun j v V=>by rw[J,zfU];exact g j v V)⟩
theorem DA{u:TypeId}(h:kG P u=true):∃d,P.underlying u=some d/\∀k,d≠.int k:=by
 unfold kG at h;split at h
 .rename_i e hd;exact⟨_,hd,aB⟩
 .rename_i hd;exact⟨_,hd,aB⟩
 .simp at h
theorem L6(h:R B H w G)(keep:Bool)(s:Nat)(sv:AV):Step B H.next G w (gw keep H s sv) w G:=by
 unfold gw;split
 .rename_i r off len z;split
  .rename_i cs imm hg;split
   .rename_i hc;simp only[dC]at hc;have h1:off+len*s<cs.length:=by simpa [gQ]using hc.1.2
    have h2:=t4 hc.2;generalize off+len*s=m at h1 h2;have hgs:∀A b',(H.set r (.cells (cs.take m) imm true)).get A=some b'->(A=r/\b'=.cells (cs.take m) imm true)\/(A≠r/\H.get A=some b'):=fun A b' i=>by
     rw[aW]at i;split at i
     .rename_i e;simp only[aA]at i;exact .inl ⟨e,i.symm⟩
     .rename_i e;exact .inr ⟨e,i⟩
    have Y:∀A L Z g,(H.set r (.cells (cs.take m) imm true)).get A=some (.cells L Z g)->∃U,H.get A=some (.cells U Z g)/\(∀(j:Nat) c,L[j]?=some c->U[j]?=some c)/\L.length<=U.length/\(∀x,zeJ x L g=zeJ x U g):=fun A L Z g i=>by
     rcases hgs A _ i with⟨rfl,e⟩|⟨_,e⟩
     .simp only[HB.cells.injEq]at e;obtain⟨rfl,rfl,rfl⟩:=e;refine⟨cs,hg,fun j c K=>?_,rV,fun x=>rfl⟩;rw[mQ]at K;split at K
      .exact K
      .simp at K
     .exact⟨L,e,fun _ _ h=>h,aM _,fun _=>rfl⟩
    refine⟨?_,rQ _,tS _ _,p6 _ _,fun _ _ h=>.inl h,aM _,fun _ _ _ h=>.inl h⟩;exact{
     base:=h.base
     dom:=h.dom
     lt:=h.lt
     cells:=fun A b o x L Z g hr V j c K=>by
      obtain⟨U,M,e2,_⟩:=Y A L Z g V;exact h.cells A b o x U Z g hr M j c (e2 j c K)
     imm:=fun A b o x L Z g hr V j K hjl=>by
      obtain⟨U,M,_,e3,_⟩:=Y A L Z g V;exact h.imm A b o x U Z g hr M j K ac
     ext:=fun A b o x L Z g hr V=>by
      obtain⟨U,M,_,e3,e4⟩:=Y A L Z g V;have:=h.ext A b o x U Z g hr M;rw[e4];omega
     fits:=fun A b o x L Z g hr V=>by
      obtain⟨U,M,_,e3,e4⟩:=Y A L Z g V;have:=h.fits A b o x U Z g hr M;omega
     room:=fun A b o x L Z g hr V j K hjl=>by
      obtain⟨U,M,_,_,e4⟩:=Y A L Z g V;exact h.room A b o x U Z g hr M j K (by rw[<-e4];exact hjl)
     apart:=fun zdu b1 o1 x1 cs1 J I r2 b2 o2 x2 cs2 F C hr1 hc1 hr2 O hne j j' q1 q2 q3 q4=>by
      obtain⟨cs01,M,_,_,e14⟩:=Y zdu cs1 J I hc1;obtain⟨cs02,e2,_,_,e24⟩:=Y r2 cs2 F C O;exact h.apart zdu b1 o1 x1 cs01 J I r2 b2 o2 x2 cs02 F C hr1 M hr2 e2 hne j j' q1 (by rw[<-e14];exact q2) q3 (by rw[<-e24];exact q4)
     map:=fun A b o x es hr V=>by
      rcases hgs A _ V with⟨_,e⟩|⟨_,e⟩
      .simp at e
      .exact h.map A b o x es hr e
     mapApart:=fun zdu b1 o1 x1 es r2 b2 o2 x2 hr1 hc1 hr2 O hne=>by
      rcases hgs zdu _ hc1 with⟨_,e⟩|⟨_,e⟩
      .simp at e
      .refine h.mapApart zdu b1 o1 x1 es r2 b2 o2 x2 hr1 e hr2 ?_ hne;rw[aW]at O;split at O
       .rename_i e2;rw[e2,hg];rfl
       .exact O
     frz:=h.frz
     val:=h.val
     sym:=h.sym}
   .exact jm h
  .exact jm h
 .exact jm h
theorem L7(h:R B H w G){keep:Bool}{t u ty:TypeId}{sv x c:AV}{Y xv:Value}(V:VR G sv Y)(hx:VR G x xv)(J:zeV P keep H t u sv x=some (c,H')):
 ∃v w' G',(Builtin.append_ #[t,u] ty #[Y,xv]).run P w=.ok v w'/\VR G' c v/\Step B H.next G w H' w' G':=by
 unfold zeV at J;split at J
 .rename_i e hd;split at J
  .rename_i s b z hs hb hz;split at J
   .rename_i l0 hst K;obtain⟨du,hu,g⟩:=DA hst;obtain⟨nv,h1,h2,h3,h4⟩:=zK (P:=P) h hx K;have hnv:nv=[]:=by rw[tZ]at h2;exact List.length_eq_zero_iff.1 h2
    subst hnv;have key:∀a len cap,Y=.slice a len cap->len<=cap->(Builtin.append_ #[t,u] ty #[Y,xv]).run P w=.ok Y w:=fun a len cap e hlc=>by
     subst e;rw[Dy hd hu g hs (n:=0) ac (h3 w) (h4 w (fun _=>rfl))];cases a<;>simp[storeCells]
    split at J
    .simp only[cr]at J;obtain⟨rfl,rfl⟩:=J;refine⟨Y,w,G,?_,V,jm h⟩;cases V with
     |sl hr hl hc=>exact key _ _ _ rfl hl
    .simp only[cr]at J;obtain⟨rfl,rfl⟩:=J;refine⟨Y,w,G,?_,V,jm h⟩;cases V with
     |lst vs hz hF hv hc=>exact key _ _ _ rfl hc
     |lst0 a cap=>exact key _ _ _ rfl (cG _)
    .simp only[cr]at J;obtain⟨rfl,rfl⟩:=J;refine⟨Y,w,G,?_,V,jm h⟩;cases V with
     |nilS=>exact key _ _ _ rfl (aM _)
    .simp at J
   .rename_i n o hnz hst K;obtain⟨du,hu,g⟩:=DA hst;obtain⟨nv,h1,h2,h3,h4⟩:=zK (P:=P) h hx K;have hn0:n≠0:=fun e=>by subst e;exact hnz rfl
    have hnl:o.length=n*s:=by rw[h1.1,h2]
    obtain⟨zv,hzr,hzv⟩:=tW hz;split at J
    .rename_i hcond;obtain⟨hone,hzl⟩:=hcond;have hzs:zv.cells.size=s:=by have:=(hzv G).1;rw[hzl]at this;simpa using this.symm
     have ht:=L6 h keep s sv
     suffices hgoal:∃v w' G',(Builtin.append_ #[t,u] ty #[Y,xv]).run P w=.ok v w'/\VR G' c v/\Step B (gw keep H s sv).next G w H' w' G' by
      obtain⟨v,w',G',g1,g2,g3⟩:=hgoal;exact⟨v,w',G',g1,g2,ht.trans g3⟩
     replace h:=ht.r;clear ht K;generalize gw keep H s sv=H at J h⊢;unfold zf5 at J;split at J
     ·-- onto nil
      split at J
      .rename_i i;simp only[cr]at J;obtain⟨rfl,rfl⟩:=J;cases V;have O:=Dz (P:=P) (w:=w) (ty:=ty) hd hu g hs hb hzr (a:=none) (len:=0) (cap:=0) (n:=n) (ov:=[]) ac (by simpa using i.1) (by simpa using i.2) (h3 w) (h4 w.drew (fun _=>rfl)) (by simp[Builtin.firstCells]);have A:=wo (h.heap (w':=w.drew) rfl) h1 (Builtin.zeroCells zv.cells (grownCap w (0+n) 0 e-(0+n))).toList e;have hge:=grownCap_ge w (0+n) 0 e;refine⟨_,_,_,O,?_,A.of_drew⟩;rw[bC]at hge⊢;refine .sl (zf9 _ _ _) hge ?_;rw[Dx,hzs,h2];have:grownCap w n 0 e*s=n*s+(grownCap w n 0 e-n)*s:=zB;simp;omega
      .simp at J
     ·-- onto a row of its own
      rename_i r off len zz;split at J
      .rename_i cs imm hg;split at J
       .rename_i hcond2;obtain⟨hr1,hr2,hend,rfl,himm⟩:=hcond2;cases V with
        |sl hr hlc hcx=>
         rename_i C M x0 cap;have hHolds:=h.cells _ _ _ _ _ _ _ hr hg;have hex:=h.ext _ _ _ _ _ _ _ hr hg;simp only[zeJ]at hex;have hoff:off<=cs.length:=ac;obtain⟨ov,o1,o2,o3⟩:=hHolds.first (P:=P) (off:=off) (s:=zz) (len:=len) hend (cap:=cap)
         have L:r≠H.next:=fun e=>by have:=h.dom _ _ hr;omega
         by_cases F:len+n<=cap
         ·-- in its room
          have O:=Dy (P:=P) (w:=w) (ty:=ty) hd hu g hs (a:=some ⟨C,M+off,none⟩) F (h3 w) (h4 w (fun _=>rfl));simp only[]at O;rw[zfU,io,hend]at O;have hcap:(len+n)*zz<=cap*zz:=rX _ F;rw[lz]at hcap;cases keep with
          |false=>
           simp only[cC,cn,cr]at J;obtain⟨rfl,rfl⟩:=J;obtain⟨w',hw,Z⟩:=zu P hr cs.length o nv cs 0 H w h hg h1 (h1.oneCell hone) ac ac tR aB;rw[hw]at O;simp only[dW]at O;rw[mT,Dd]at Z;have I:=De Z.r (r:=r) (cs:=cs++o) (imm:=imm) hr ik (off:=off) cf;refine⟨_,w',_,O,?_,(Z.trans I).congr rfl fun k _=>?_⟩
           .refine .sl (zf9 _ _ _) F ?_;omega
           .rw[zdq,zdq,zff,zff,aW,wy hoff];simp only[zfY,zdQ];by_cases e1:k=H.next
            .simp only[e1,bT]
            .by_cases e2:k=r
             .simp only[e2,bT]
             .simp only[e1,e2,cn]
          |true=>
           simp only[bT,cr]at J;obtain⟨rfl,rfl⟩:=J;have U:=tV h hr hg (n:=cs.length) himm (aM _) true (fun _=>rfl);obtain⟨w',hw,Z⟩:=zu P (G:=G.ice w C M cs.length) (r:=r) (imm:=cs.length) (tip:=true) hr cs.length o nv cs 0 _ w U.r ik (h1.mono U.ext) (h1.oneCell hone) ac ac tR aB;rw[hw]at O;simp only[dW]at O;rw[mT,Dd]at Z;have hgr:((H.set r (.cells cs cs.length true)).set r (.cells (cs++o) cs.length true)).get r=some (.cells (cs++o) cs.length true):=ik;have I:=De Z.r (r:=r) (cs:=cs++o) (imm:=cs.length) hr hgr (off:=off) cf;have hmid:=(U.trans Z).trans I;have hrr:((G.ice w C M cs.length).add H.next (C,M+off,x0-off)).β r=some (C,M,x0):=by
            simp only[Gh.add];rw[ai L];exact hr
           have hnoMap:∀zdu b1 o1 x1 es,((G.ice w C M cs.length).add H.next (C,M+off,x0-off)).β zdu=some (b1,o1,x1) ->
            ((((H.set r (.cells cs cs.length true)).set r (.cells (cs++o) cs.length true)).kill r).alloc (.cells ((cs++o).drop off) (cs.length-off) true)).get zdu=some (.map es)->b1≠C:=fun zdu b1 o1 x1 es g1 g2=>by
            rw[zdq,zff,aW,aW]at g2;simp only[zfY,zdQ]at g2;by_cases hne:zdu=H.next
            .simp[hne]at g2
            .by_cases hne2:zdu=r
             .simp[hne2]at g2
             .simp only[hne,hne2,cn]at g2;have g1':G.β zdu=some (b1,o1,x1):=by simp only[Gh.add]at g1;rw[ai hne]at g1;exact g1
              exact h.mapApart zdu b1 o1 x1 es r C M x0 g1' g2 hr (by rw[hg];rfl) hne2
           have hHolds':gC ((G.ice w C M cs.length).add H.next (C,M+off,x0-off)) w' C M cs:=fun j c hj=>by
            have hjl:j<cs.length:=(de.1 hj).1;have h5:=Z.r.cells r C M x0 _ _ _ hr hgr j c (by rw[fz hjl];exact hj);obtain⟨v,q1,q2⟩:=h5;exact⟨v,q1,q2.mono I.ext⟩
           have hFF:∀j,j<cs.length->∃v,((G.ice w C M cs.length).add H.next (C,M+off,x0-off)).F C (M+j)=some v:=fun j hj=>
            U.r.imm r C M x0 cs cs.length true hr ik j hj hj
           have hrev:=LG hmid.r hrr (h.fits _ _ _ _ _ _ _ hr hg) hHolds' hFF hnoMap;refine⟨_,w',_,O,?_,(hmid.trans hrev).congr rfl fun k _=>?_⟩
           .refine .sl (zf9 _ _ _) F ?_;omega
           .rw[aW,zdq,zdq,zff,aW,aW,aW,wy hoff];simp only[zfY,zdQ];have:cs.length-off=len*zz:=ac;rw[this];by_cases e1:k=r
            .subst e1;simp only[L,bT,cn]
            .simp only[e1,cn]
         ·-- a o row
          have hfit':cap<len+n:=ac;have O:=Dz (P:=P) (w:=w) (ty:=ty) hd hu g hs hb hzr (a:=some ⟨C,M+off,none⟩) hfit' hr1 hr2 (h3 w) (h4 w.drew (fun _=>rfl)) (o3 w.drew (fun _=>rfl));have hge:=grownCap_ge w (len+n) cap e;have hlen2:(ov++nv).length=(len+n)*zz:=by rw[ep,o2,h2,lz]
          have hcapx:grownCap w (len+n) cap e*zz=(ov++nv).length+(Builtin.zeroCells zv.cells (grownCap w (len+n) cap e-(len+n))).toList.length:=by
           rw[Dx,hzs,hlen2,<-lz];congr 1;omega
          have A:=(wo (h.heap (w':=w.drew) rfl) (o1.append h1) (Builtin.zeroCells zv.cells (grownCap w (len+n) cap e-(len+n))).toList e).of_drew;have hnn:∀(X:HB) (k:Nat),k≠H.next->(H.alloc X).get k=H.get k:=fun X k hk=>by rw[zdq,ai hk]
          have m:∀p,(G.add H.next p).β H.next=some p:=fun p=>zf9 _ _ _
          have hlenX:(cs.drop off++o).length=(len+n)*zz:=by rw[ep,iD,hnl,lz];omega
          cases keep with
          |false=>
           simp only[cC,cn,cr]at J;obtain⟨rfl,rfl⟩:=J;have hk:=A.r.kill r;have hgx:((H.alloc (.cells (cs.drop off++o) 0 true)).kill r).get H.next=some (.cells (cs.drop off++o) 0 true):=by
            rw[zff,ai (Ne.symm L),zdq,az rfl]
           have U:=tV hk (m _) hgx (n:=imm-off) (cG _) (by rw[hlenX,lz];omega) true (fun _=>rfl);have hst2:Step B H.next G w _ _ _:=⟨hk,A.ext,A.fr,A.new,A.low,A.mono,A.icy⟩
           refine⟨_,_,_,O,?_,(hst2.trans U).congr rfl fun k _=>?_⟩
           .exact .sl (m _) hge ac
           .rw[aW,zdq,zff,zff,zdq];simp only[zfY];by_cases e1:k=H.next
            .simp only[e1,bT]
            .simp only[e1,cn]
          |true=>
           simp only[bT,cr]at J;obtain⟨rfl,rfl⟩:=J;have hgx:(H.alloc (.cells (cs.drop off++o) 0 true)).get H.next=some (.cells (cs.drop off++o) 0 true):=gO
           have U:=tV A.r (m _) hgx (n:=len*zz) (cG _) (by rw[hlenX,lz];omega) true (fun _=>rfl);have hgr:((H.alloc (.cells (cs.drop off++o) 0 true)).set H.next (.cells (cs.drop off++o) (len*zz) true)).get r=some (.cells cs imm true):=by
            rw[aW,ai L,hnn _ _ L];exact hg
           have hice2:=tV U.r (r:=r) (by
            show(G.add H.next _).β r=_;simp only[Gh.add];rw[ai L];exact hr) hgr (n:=cs.length) himm (aM _) false aB
           refine⟨_,_,_,O,?_,((A.trans U).trans hice2).congr rfl fun k _=>?_⟩
           .exact .sl (m _) hge ac
           .rw[aW,aW,zdq,zdq,aW];simp only[zdQ];by_cases e1:k=H.next
            .have e3:¬H.next=r:=fun e=>L e.symm
             simp only[e1,e3,bT,cn]
            .simp only[e1,cn]
       .simp at J
      .simp at J
     .simp at J
    .simp at J
   .simp at J
  .simp at J
 .simp at J
end
section
variable {P:Program} {B:Bs} {G:Gh} {H H':Hp} {w:World}
theorem L8(L:ByteArray):L.data.toList.length=L.size:=Dq
theorem DB(h:R B H w G){m:AV}{mv:Value}{es:List (AV×AV)}(Z:VR G m mv)(M:pQ H m=some es):
 (mv=.map none/\es=[])\/∃r b o x ms C,m=.map r/\mv=.map (some b)/\G.β r=some (b,o,x)/\H.get r=some (.map es)/\w.heap[b]?=some (.map ms C)/\nX G es ms.toList:=by
 unfold pQ at M;split at M
 .simp only[aA]at M;subst M;cases Z;exact .inl ⟨rfl,rfl⟩
 .rename_i r;split at M
  .rename_i V Y;simp only[aA]at M;subst M;cases Z with
   |map hr=>
    rename_i b o x;obtain⟨ms,C,i,g⟩:=h.map r b o x _ hr Y;exact .inr ⟨r,b,o,x,ms,C,rfl,rfl,hr,Y,i,g⟩
  .simp at M
 .simp at M
theorem t7{b:Nat}{ms:Array MapEntry}{C:Nat}(h:w.heap[b]?=some (.map ms C)):(getObj b).run P w=.ok (.map ms C) w:=by
 simp[getObj,Sem.run,h]
theorem L9(h:R B H w G){t ty:TypeId}{x c:AV}{i:Value}(I:VR G x i)(F:zdY P H t x=some c):∃v,(Builtin.len_ #[t] ty #[i]).run P w=.ok v w/\VR G c v:=by
 unfold zdY at F;split at F
 .rename_i hd;split at F
  .simp only[aA]at F;subst F;cases I with
   |str L _ K=>
    subst K;refine⟨_,?_,.int _ _⟩;rw[L8];simp[Builtin.len_,zeA hd,goInt]
  .simp at F
 .rename_i e hd;split at F
  .simp only[aA]at F;subst F;cases I;exact⟨_,tY,.int _ _⟩
  .simp only[aA]at F;subst F;cases I
   .exact⟨_,tY,.int _ _⟩
   .exact⟨_,tY,.int _ _⟩
  .simp only[aA]at F;subst F;cases I;exact⟨_,tY,.int _ _⟩
  .simp at F
 .rename_i n e hd;simp only[aA]at F;subst F;refine⟨.int .i64 n,?_,.int _ _⟩;simp only[Builtin.len_];simp[zeA hd,goInt]
 .rename_i z e hd;split at F
  .rename_i Y M;simp only[aA]at F;subst F;rcases DB h I M with⟨rfl,rfl⟩|⟨r,b,o,U,ms,C,rfl,rfl,hr,V,J,Z⟩
   .exact⟨_,tY,.int _ _⟩
   .refine⟨.int .i64 Y.length,?_,.int _ _⟩;have:ms.size=Y.length:=by have:=Z.1;simpa using this.symm
    simp[Builtin.len_,zeA hd,t7 J,goInt,this]
  .simp at F
 .simp at F
theorem Ma{C:Bool}{x y c:AV}{i V:Value}(I:VR G x i)(O:VR G y V)(h:mm C x y=some c):∃v,((if C then Builtin.max2 else Builtin.min2) i V).run P w=.ok v w/\VR G c v:=by
 unfold mm at h;split at h
 .simp only[aA]at h;subst h;cases I;cases O;cases C
  .refine⟨_,rfl,?_⟩;simp only[cC,cn,jI];exact .int _ _
  .refine⟨_,rfl,?_⟩;simp only[bT,jI];exact .int _ _
 .simp at h
theorem zL{C:Bool}:∀{Y:List AV}{o:List Value}{x c:AV}{i:Value},VR G x i->bW G Y o->oT C x Y=some c ->
 ∃v,(o.foldlM (if C then Builtin.max2 else Builtin.min2) i).run P w=.ok v w/\VR G c v
 |[],o,x,c,i,hx,hxs,h=>by
  simp only[oT,aA]at h;subst h;have:o=[]:=by have:=hxs.1;simpa using this.symm
  subst this;exact⟨i,rfl,hx⟩
 |y::ys,[],_,_,_,_,hxs,_=>by have:=hxs.1;simp at this
 |y::ys,yv::yvs,x,c,i,hx,hxs,h=>by
  obtain⟨V,g⟩:=hxs.of_cons;simp only[oT]at h;split at h
  .rename_i z Z;obtain⟨j,U,O⟩:=Ma (P:=P) (w:=w) hx V Z;obtain⟨v,zeb,k2⟩:=zL O g h;exact⟨v,by rw[List.foldlM_cons,dO,U];exact zeb,k2⟩
  .simp at h
theorem zM{t:TypeId}{d:TypeDesc}(h:zfQ P t=some d):P.underlying t=some d/\((∃k,d=.int k)\/d=.string\/d=.bool):=by
 unfold zfQ at h;split at h<;>simp only[aA,reduceCtorEq]at h<;>subst h
 .rename_i k hd;exact⟨hd,.inl ⟨k,rfl⟩⟩
 .rename_i hd;exact⟨hd,.inr (.inl rfl)⟩
 .rename_i hd;exact⟨hd,.inr (.inr rfl)⟩
theorem zN{d:TypeDesc}{x y:AV}{i V:Value}{r:Bool}(I:VR G x i)(O:VR G y V)(h:lb d x y=some r):Instr.sameNow d i V=some r:=by
 unfold lb at h;split at h
 .split at h
  .cases I;cases O;exact h
  .simp at h
 .split at h
  .cases I with
   |str a _ J=>cases O with
    |str b _ z=>
     subst J z;simp only[aA]at h;subst h;simp only[Instr.sameNow,aA];show(a.data == b.data)=(a.data.toList == b.data.toList);rw[rP];simp only[lq,Array.toList_inj]
  .simp at h
 .split at h
  .cases I;cases O;exact h
  .simp at h
 .simp at h
theorem zO{d:TypeDesc}{k:AV}{kv:Value}(Y:VR G k kv):∀{C:List (AV×AV)}{ms:List MapEntry}{i:Nat},nX G C ms ->
 (jn d k C i=some none->Instr.findNow d kv ms i=some none) /\
 (∀j v,jn d k C i=some (some (j,v))->∃k' m,C[j-i]?=some (k',v)/\ms[j-i]?=some m/\i<=j/\lb d k k'=some true/\Instr.findNow d kv ms i=some (some (j,m.val)))
 |[],ms,i,he=>by
  have:ms=[]:=by have:=he.1;simpa using this.symm
  subst this;exact⟨fun _=>rfl,fun j v h=>by simp[jn]at h⟩
 |e::C,[],i,he=>by have:=he.1;simp at this
 |(k',F)::C,m::ms,i,he=>by
  obtain⟨V,A⟩:=he.2 0 (k',F) m rfl rfl;have z:nX G C ms:=⟨by simpa using he.1,fun j a b J O=>he.2 (j+1) a b (by simpa using J) wj⟩;obtain⟨zdu,r2⟩:=zO (d:=d) Y (i:=i+1) z;constructor
  .intro h;simp only[jn]at h;split at h
   .simp at h
   .rename_i Z;have:=zN Y V Z;simp only[Instr.findNow,this];exact zdu h
   .simp at h
  .intro j v h;simp only[jn]at h;split at h
   .rename_i Z;simp only[cr]at h;obtain⟨rfl,rfl⟩:=h;have:=zN Y V Z;exact⟨k',m,aB,aB,aM _,Z,by simp only[Instr.findNow,this]⟩
   .rename_i Z;have:=zN Y V Z;obtain⟨k2,M,L,g,o,K,I⟩:=r2 j v h;have U:j-i=(j-(i+1))+1:=ac;refine⟨k2,M,by rw[U];simpa using L,by rw[U];simpa using g,ac,K,?_⟩;simp only[Instr.findNow,this];exact I
   .simp at h
theorem Mb(n:Nat){z:TypeId}{d:TypeDesc}(hd:zfQ P z=some d)(e:Bool)(kv:Value):(Instr.checkKey e (n+1) z kv).run P w=.ok () w:=by
 obtain⟨i,g⟩:=zM hd;simp only[Instr.checkKey,dO,zeA i,dW];rcases g with⟨k,rfl⟩|rfl|rfl<;>rfl
theorem t8{z:TypeId}{d:TypeDesc}(hd:zfQ P z=some d)(e:Bool)(kv:Value):(Instr.checkKey e 10000 z kv).run P w=.ok () w:=Mb 9999 hd e kv
theorem t9{z:TypeId}{d:TypeDesc}(hd:P.underlying z=some d){kv:Value}{ms:List MapEntry}{r:Option (Nat×Value)}(h:Instr.findNow d kv ms 0=some r):(Instr.findKey z kv ms).run P w=.ok r w:=by
 simp[Instr.findKey,zeA hd,h]
theorem Mc{t U e:TypeId}{d:TypeDesc}(hd:P.underlying t=some (.map U e))(V:zfQ P U=some d){mv kv:Value}{ok:Bool}{ms:Array MapEntry}
 (M:(mv=.map none/\ms=#[])\/∃b C,mv=.map (some b)/\w.heap[b]?=some (.map ms C)) :
 (∀j v,Instr.findNow d kv ms.toList 0=some (some (j,v))->(Instr.lookup t mv kv ok).run P w=.ok (if ok then .tuple #[v,.bool true]else v) w) /\
 (∀Y,(zeroValue e).run P w=.ok Y w->Instr.findNow d kv ms.toList 0=some none->(Instr.lookup t mv kv ok).run P w=.ok (if ok then .tuple #[Y,.bool false]else Y) w):=by
 have Z:=(zM V).1;rcases M with⟨rfl,rfl⟩|⟨b,C,rfl,J⟩
 .refine⟨fun j v m=>by simp[Instr.findNow]at m,fun Y z m=>?_⟩;have g:=t9 (P:=P) (w:=w) Z m;simp only[Instr.lookup,dO,zeA hd,dW,iE,t8 V,g,z]
 .refine⟨fun j v m=>?_,fun Y z m=>?_⟩
  .have g:=t9 (P:=P) (w:=w) Z m;simp only[Instr.lookup,dO,zeA hd,dW,t7 J,iE,t8 V,g]
  .have g:=t9 (P:=P) (w:=w) Z m;simp only[Instr.lookup,dO,zeA hd,dW,t7 J,iE,t8 V,g,z]
theorem Md(h:R B H w G){t:TypeId}{m k c:AV}{mv kv:Value}{ok:Bool}(M:VR G m mv)(K:VR G k kv)(F:zfv P H t m k ok=some c):
 ∃v,(Instr.lookup t mv kv ok).run P w=.ok v w/\VR G c v:=by
 unfold zfv at F;split at F
 .rename_i kt e hd;split at F
  .rename_i J A Y Z;obtain⟨ms,U,O⟩:∃ms:Array MapEntry,((mv=.map none/\ms=#[])\/∃b C,mv=.map (some b)/\w.heap[b]?=some (.map ms C))/\nX G J ms.toList:=by
    rcases DB h M Y with⟨rfl,rfl⟩|⟨r,b,o,xx,ms,C,rfl,rfl,hr,hg,hw,he⟩
    .exact⟨#[],.inl ⟨rfl,rfl⟩,rfl,aB⟩
    .exact⟨ms,.inr ⟨b,C,rfl,hw⟩,he⟩
   obtain⟨I,z⟩:=zO (d:=A) K (i:=0) O;obtain⟨zdu,r2⟩:=Mc (kv:=kv) (ok:=ok) hd Z U;split at F
   .rename_i j v V;simp only[aA]at F;subst F;obtain⟨k',m',g1,g2,_,_,g5⟩:=z j v V;have L:=(O.2 _ _ _ g1 g2).2;refine⟨_,zdu _ _ g5,?_⟩;cases ok
    .exact L
    .exact .tup (vs:=[m'.val,.bool true]) rfl (jG L (jG (.bool true) (lY _))).2
   .rename_i V;split at F
    .rename_i v L;simp only[aA]at F;subst F;obtain⟨zv,z1,g⟩:=LH L;refine⟨_,r2 _ (z1 w) (I V),?_⟩;cases ok
     .exact g G
     .exact .tup (vs:=[zv,.bool false]) rfl (jG (g G) (jG (.bool false) (lY _))).2
    .simp at F
   .simp at F
  .simp at F
 .simp at F
end
section
variable {P:Program} {B:Bs} {G:Gh} {H H':Hp} {w:World}
theorem DC(h:R B H w G){r b o x:Nat}{es J:List (AV×AV)}{ms':Array MapEntry}{clock':Nat}(hr:G.β r=some (b,o,x))(hg:H.get r=some (.map es))(he:nX G J ms'.toList):
 Step B H.next G w (H.set r (.map J)) {w with heap:=w.heap.setIfInBounds b (.map ms' clock') } G:=by
 obtain⟨ms,clock,hw,_⟩:=h.map r b o x es hr hg;have hb:b<w.heap.size:=(h.lt r b o x hr).2
 let w':World:={w with heap:=w.heap.setIfInBounds b (.map ms' clock') }
 have V:∀k,k≠b->w'.heap[k]?=w.heap[k]?:=fun k U=>by
  show(w.heap.setIfInBounds b _)[k]?=_;rw[pZ,ai (Ne.symm U)]
 have hheapb:w'.heap[b]?=some (.map ms' clock'):=by
  show(w.heap.setIfInBounds b _)[b]?=_;simp[hb]
 have I:∀m Y v,w.cell? ⟨m,Y,none⟩=some v->m≠b:=fun m Y v hc e=>by
  subst e;unfold World.cell? at hc;rw[hw]at hc;simp at hc
 have M:∀m Y v,w.cell? ⟨m,Y,none⟩=some v->w'.cell? ⟨m,Y,none⟩=some v:=fun m Y v hc=>by
  rw[World.cell?_of_block (w:=w) (V m (I m Y v hc))];exact hc
 have Z:∀k,k≠r->(H.set r (.map J)).get k=H.get k:=fun k U=>by rw[aW,ai U]
 have L:(H.set r (.map J)).get r=some (.map J):=ik;refine⟨?_,rQ _,⟨rfl,rfl,rfl,aB,fun k U hn=>V k (fun e=>hn r b o x hr e.symm)⟩,p6 _ _,fun _ _ h=>.inl h,aM _,fun _ _ _ h=>.inl h⟩;exact{
  base:=by have:=h.base;simpa using this
  dom:=h.dom
  lt:=fun r b o x hr=>by have:=h.lt r b o x hr;simpa using this
  cells:=fun k m Y A F imm K U hc=>by
   by_cases e:k=r
   .subst e;rw[L]at hc;simp at hc
   .rw[Z k e]at hc;intro j c hj;obtain⟨v,h1,h2⟩:=h.cells k m Y A F imm K U hc j c hj;exact⟨v,M _ _ _ h1,h2⟩
  imm:=fun k m Y A F imm K U hc=>by
   by_cases e:k=r
   .subst e;rw[L]at hc;simp at hc
   .rw[Z k e]at hc;exact h.imm k m Y A F imm K U hc
  ext:=fun k m Y A F imm K U hc=>by
   by_cases e:k=r
   .subst e;rw[L]at hc;simp at hc
   .rw[Z k e]at hc;exact h.ext k m Y A F imm K U hc
  fits:=fun k m Y A F imm K U hc=>by
   by_cases e:k=r
   .subst e;rw[L]at hc;simp at hc
   .rw[Z k e]at hc;exact h.fits k m Y A F imm K U hc
  room:=fun k m Y A F imm K U hc j hj hjl=>by
   by_cases e:k=r
   .subst e;rw[L]at hc;simp at hc
   .rw[Z k e]at hc;obtain⟨⟨v,h1⟩,h2,h3⟩:=h.room k m Y A F imm K U hc j hj hjl;refine⟨⟨v,M _ _ _ h1⟩,?_,h3⟩;rw[World.frozen?_of_block (w:=w) (V m (I _ _ _ h1))];exact h2
  apart:=fun zeb b1 o1 x1 cs1 imm1 tip1 k2 b2 o2 x2 cs2 imm2 tip2 C O g z=>by
   by_cases e1:zeb=r
   .subst e1;rw[L]at O;simp at O
   .by_cases e2:k2=r
    .subst e2;rw[L]at z;simp at z
    .rw[Z zeb e1]at O;rw[Z k2 e2]at z;exact h.apart zeb b1 o1 x1 cs1 imm1 tip1 k2 b2 o2 x2 cs2 imm2 tip2 C O g z
  map:=fun k m Y A i U hc=>by
   by_cases e:k=r
   .subst e;have hk':=U;rw[hr]at hk';simp only[cr]at hk';obtain⟨rfl,rfl,rfl⟩:=hk';rw[L]at hc;simp only[aA,HB.map.injEq]at hc;subst hc;exact⟨ms',clock',hheapb,he⟩
   .rw[Z k e]at hc;obtain⟨ms1,clock1,h1,h2⟩:=h.map k m Y A i U hc;refine⟨ms1,clock1,?_,h2⟩;rw[V m (fun eb=>h.mapApart k m Y A i r b o x U hc hr (by rw[hg];rfl) e eb)];exact h1
  mapApart:=fun zeb b1 o1 x1 i k2 b2 o2 x2 C O g hs hne=>by
   have hs':(H.get k2).isSome:=by
    by_cases e2:k2=r
    .subst e2;rw[hg];rfl
    .rw[Z k2 e2]at hs;exact hs
   by_cases e1:zeb=r
   .subst e1;exact h.mapApart zeb b1 o1 x1 es k2 b2 o2 x2 C hg g hs' hne
   .rw[Z zeb e1]at O;exact h.mapApart zeb b1 o1 x1 i k2 b2 o2 x2 C O g hs' hne
  frz:=fun m Y v hf=>M _ _ _ (h.frz m Y v hf)
  val:=h.val
  sym:=h.sym}
theorem DD{b:Nat}{ms ms':Array MapEntry}{C clock':Nat}(h:w.heap[b]?=some (.map ms C)):
 (setObj b (.map ms' clock')).run P w=.ok () {w with heap:=w.heap.setIfInBounds b (.map ms' clock') }:=by
 simp[setObj,Sem.run,h]
theorem Me(n:Nat){d:TypeDesc}{x y:AV}{i V:Value}(I:VR G x i)(O:VR G y V)(h:lb d x y=some true):Instr.sameBits n V i=true:=by
 unfold lb at h;split at h
 .split at h
  .split at h
   .rename_i e;subst e;cases I;cases O;simp only[aA,lq]at h;subst h;cases n<;>simp[Instr.sameBits]
   .simp at h
  .simp at h
 .split at h
  .cases I with
   |str a _ J=>cases O with
    |str b _ z=>
     subst J z;simp only[aA,lq]at h;have j:(b == a)=true:=by
      show(b.data == a.data)=true;simp only[lq];exact(lm h).symm
     cases n<;>simp[Instr.sameBits,j]
  .simp at h
 .split at h
  .cases I;cases O;simp only[aA,lq]at h;subst h;cases n<;>simp[Instr.sameBits]
  .simp at h
 .simp at h
theorem Mf{m o:Value}(h:Instr.sameBits 10000 m o=true):(Instr.keyThatStays m o).run P w=.ok o w:=by
 unfold Instr.keyThatStays;rw[az h];rfl
theorem Mg(h:R B H w G){t:TypeId}{m k v:AV}{mv kv M:Value}(hm:VR G m mv)(L:VR G k kv)(hv:VR G v M)(K:zfS P H t m k v=some H'):
 ∃w',(Instr.mapUpdate t mv kv M).run P w=.ok () w'/\Step B H.next G w H' w' G:=by
 unfold zfS at K;split at K
 .rename_i kt e hd;split at K
  .rename_i r A Z;split at K
   .rename_i es hg;cases hm with
    |map hr=>
     rename_i b o x;obtain⟨ms,C,I,F⟩:=h.map r b o x es hr hg;obtain⟨f1,f2⟩:=zO (d:=A) L (i:=0) F;have V:=(zM Z).1;split at K
     .rename_i j v0 hf;simp only[aA]at K;subst K;obtain⟨k',m',g1,z,_,g4,g5⟩:=f2 j v0 hf;simp only[ww]at g1 z;have hjl:j<ms.size:=by have:=(de.1 z).1;simpa using this
      have U:ms[j]?=some m':=by simpa using z
      have Y:=Me 10000 L (F.2 j _ _ g1 z).1 g4;have g:=t9 (P:=P) (w:=w) V g5;refine⟨_,?_,DC h hr hg (ms':=ms.modify j fun e=>{e with key:=kv,val:=M}) (clock':=C) ?_⟩
      .simp only[Instr.mapUpdate,dO,zeA hd,dW,t7 I,t8 Z,g,U,iZ,a5,Mf Y,DD I]
      .refine⟨by have:=F.1;simpa using this,fun i a c J hc=>?_⟩;rw[o8]at J;rw[t6,Array.getElem?_modify]at hc;by_cases e:j=i
       .subst e;rw[az rfl]at hc;rw[az rfl]at J;split at J
        .simp only[aA]at J;subst J;rw[U]at hc;simp only[iZ,aA]at hc;subst hc;exact⟨L,hv⟩
        .simp at J
       .rw[ai e]at J hc;exact F.2 i a c J wi
     .rename_i hf;simp only[aA]at K;subst K;have g:=t9 (P:=P) (w:=w) V (f1 hf);refine⟨_,?_,DC h hr hg (ms':=ms.push {key:=kv,val:=M,born:=C}) (clock':=C+1) ?_⟩
      .simp only[Instr.mapUpdate,dO,zeA hd,dW,t7 I,t8 Z,g,DD I]
      .refine⟨by have:=F.1;simpa using this,fun i a c J hc=>?_⟩;rw[Array.toList_push]at hc;have hl:=F.1;by_cases hi:i<es.length
       .rw[fz hi]at J;rw[fz ac]at hc;exact F.2 i a c J hc
       .rw[fZ ac]at J;rw[fZ ac]at hc;rw[<-hl]at hc;cases O:i-es.length with
        |zero=>
         rw[O]at J hc;simp at J hc;subst J hc;exact⟨L,hv⟩
        |succ n=>rw[O]at J;simp at J
     .simp at K
   .simp at K
  .simp at K
 .simp at K
theorem DE:∀{Y:List AV}{bs:List UInt8}{vs:List Value},pS Y=some bs->bW G Y vs->∃Z:List Int,vs=Z.map (Value.int .u8)/\bs=Z.map fun n=>UInt8.ofNat n.toNat
 |[],bs,vs,h,hv=>by
  simp only[pS,aA]at h;subst h;have:vs=[]:=by have:=hv.1;simpa using this.symm
  subst this;exact⟨[],rfl,rfl⟩
 |c::Y,bs,[],h,hv=>by have:=hv.1;simp at this
 |c::Y,bs,v::vs,h,hv=>by
  obtain⟨i,g⟩:=hv.of_cons;unfold pS at h;split at h
  .rename_i e;simp at e
  .rename_i n L e;simp only[cR]at e;obtain⟨rfl,rfl⟩:=e;split at h
   .rename_i K z;simp only[aA]at h;subst h;obtain⟨Z,rfl,rfl⟩:=DE z g;cases i;exact⟨n::Z,rfl,rfl⟩
   .simp at h
  .simp at h
theorem Mh(Y:List Int):∀s:ByteArray,(Y.foldl (fun r n=>r.push (UInt8.ofNat n.toNat)) s).data.toList=s.data.toList++Y.map fun n=>UInt8.ofNat n.toNat:=by
 induction Y with
 |nil=>intro s;simp
 |cons n Y ih=>intro s;rw[List.foldl_cons,ih];simp[ByteArray.push]
theorem Mi(h:R B H w G){z U:TypeId}{x c:AV}{i:Value}(I:VR G x i)(O:zfA P H z U x=some c):∃v,(convert z U i).run P w=.ok v w/\VR G c v:=by
 unfold zfA at O;split at O
 .rename_i e K hd;split at O
  .rename_i M;split at O
   .rename_i n cs Z;split at O
    .rename_i bs Y;obtain⟨nv,j,h2,J,h4⟩:=zK (P:=P) h I Z;obtain⟨V,g,rfl⟩:=DE Y j;split at O
     .simp only[aA]at O;subst O;cases I with
      |sl hr hl hcx=>
       rename_i b o xx F;have A:=J w;simp[Builtin.lenOf]at A;subst A;have m:=h4 w (fun _=>rfl);simp only[Builtin.firstCells,gD]at m;rw[g]at m;refine⟨_,by rw[run_convert_bytes_string w z U e _ _ _ K M hd,run_bytesToString w _ _ _ V m],.str _ _ ?_⟩;rw[Mh];rfl
     .simp only[aA]at O;subst O;cases I;have A:=J w;simp[Builtin.lenOf]at A;have:V=[]:=by
       have e1:(V.map (Value.int .u8)).length=0:=by rw[<-g,h2,<-A]
       simpa using e1
      subst this;refine⟨.string .empty,?_,.str _ _ rfl⟩;rw[run_convert_bytes_string w z U e _ _ _ K M hd];rfl
     .simp at O
    .simp at O
   .simp at O
  .simp at O
 .rename_i ds k C K hd;split at O
  .simp only[aA]at O;subst O;cases I;refine⟨_,?_,.int _ _⟩;simp[convert,zeA K,zeA hd,Conv.intToInt]
  .simp only[aA]at O;subst O;cases I;rename_i zex e0;refine⟨_,?_,.sx _ _⟩;simp[convert,zeA K,zeA hd,Conv.intToInt,Sx.eval]
  .simp at O
 .rename_i C K hd;split at O
  .simp only[aA]at O;subst O;have L:=I;cases I with
   |str sv _ M=>
    refine⟨.string sv,?_,L⟩;simp[convert,zeA K,zeA hd]
  .simp at O
 .simp at O
end
section
variable {P:Program} {B:Bs} {G:Gh} {H H':Hp} {w:World}
def qc(G:Gh)(E:ax)(a:Act)(xs:Array Operand):Prop:=∀x∈xs,∀c,zdo E x=some c->VR G c (a.eval x)
theorem wD{E:ax}{a:Act}:∀{Y:List Operand}{Z:List AV},(∀x∈Y,∀c,zdo E x=some c->VR G c (a.eval x))->zfj E Y=some Z->bW G Z (Y.map a.eval)
 |[],Z,_,h=>by
  simp only[zfj,aA]at h;subst h;exact lY G
 |x::Y,Z,hk,h=>by
  simp only[zfj]at h;split at h
  .rename_i v vs L V;simp only[aA]at h;subst h;exact jG (hk x aB v L) (wD (fun y O=>hk y (by simp[O])) V)
  .simp at h
theorem zfL{s:Sem Value}{c:AV}(h:R B H w G)(K:∃v,s.run P w=.ok v w/\VR G c v):p8 P B H G w (do pure (.value (<-s))) c H:=by
 obtain⟨v,i,g⟩:=K;exact⟨.value v,w,G,v,by simp[i],.inl rfl,g,jm h⟩
theorem rY{s:Sem Value}{c:AV}(K:∃v Z i,s.run P w=.ok v Z/\VR i c v/\Step B H.next G w H' Z i):p8 P B H G w (do pure (.value (<-s))) c H':=by
 obtain⟨v,Z,i,Y,g,o⟩:=K;exact⟨.value v,Z,i,v,by simp[Y],.inl rfl,g,o⟩
theorem DF{s:Sem Unit}(K:∃Z,s.run P w=.ok () Z/\Step B H.next G w H' Z G):p8 P B H G w (do s;pure .skip) zev H':=by
 obtain⟨Z,i,g⟩:=K;exact⟨.skip,Z,G,undef,by simp[i],.inr ⟨rfl,rfl⟩,tT G,g⟩
theorem DG{E:ax}{a:Act}{x:Option Operand}{c:Option AV}(j:∀y∈x.toArray,∀c,zdo E y=some c->VR G c (a.eval y))(h:zfB E x=some c):qb G c (x.map a.eval):=by
 unfold zfB at h;split at h
 .simp only[aA]at h;subst h;exact trivial
 .rename_i y;split at h
  .rename_i v L;simp only[aA]at h;subst h;exact j y aB v L
  .simp at h
theorem Mj{D:BinOp->Sx->Sx->Option Bool}{E:ax}{a:Act}{o:Oper}{c:AV}(V:oW o=true)(F:qc G E a o.op.operands)(g:cB P D E H o.op=some (c,H')):l3 P G w (execOp a.eval o) Next.value c H H':=by
 obtain⟨M,K,ty,J,A,guard⟩:=o;simp only[]at g F;cases K<;>simp only[oW,ze9,cC]at V
 case alloc t=>
  simp only[cB]at g;unfold tD at g;split at g
  .rename_i z U;simp only[cr]at g;obtain⟨rfl,rfl⟩:=g;obtain⟨j,I,C⟩:=tW U;refine l3.next ⟨.cells z 0 true,.cells (j.cells.toList++[]).toArray t,j.cells.toList.length+0,.pointer (some ⟨w.heap.size,0,none⟩),rfl,?_,.cells z j.cells.toList [] t (C G),fun Y hG=>.ptr (off:=0) hG⟩
   simp[Instr.alloc,I,newVar,newRow]
  .simp at g
 case box t x=>
  simp only[cB]at g;unfold tE at g;split at g
  .rename_i v L;simp only[cr]at g;obtain⟨rfl,rfl⟩:=g;have hx:=(F x dX _ L).cells;refine l3.next ⟨.cells v.cells 0 true,.cells ((a.eval x).cells.toList++[]).toArray t,(a.eval x).cells.toList.length+0,.pointer (some ⟨w.heap.size,0,none⟩),rfl,?_,.cells v.cells _ [] t hx,fun Y hG=>.ptr (off:=0) hG⟩
   simp[Instr.box,newVar,newRow]
  .simp at g
 case buildSlice t len parts=>
  simp only[cB]at g;unfold tF at g;split at g
  .rename_i ps Z;obtain⟨m,q2⟩:=wB (G:=G) (a:=a) (fun p hp=>F p.2 zC) Z;have:=Dv (P:=P) (w:=w) m q2 g;have he:(parts.toList.map fun x=>(x.1,a.eval x.2)).toArray=parts.map fun(i,x)=>(i,a.eval x):=by
    apply lm;simp
   rw[he]at this;exact this.next
  .simp at g
 case makeMap t r=>
  simp only[cB]at g;unfold tI at g;split at g
  .simp only[cr]at g;obtain⟨rfl,rfl⟩:=g;refine l3.next ⟨.map [],.map #[] 0,0,.map (some w.heap.size),rfl,?_,.map,fun Y hG=>.map hG⟩
   simp[Instr.makeMap]
  .simp at g
 case makeSlice t l c'=>
  simp only[cB]at g;unfold tJ at g;split at g
  .rename_i lv cv O hc;exact(Dw (F l dX _ O) (F c' dX _ hc) g).next
  .simp at g
 case call cl=>
  simp only[cB,reduceCtorEq]at g
theorem Mk(h:R B H w G){E:ax}{a:Act}{o:Oper}{c:AV}(F:qc G E a o.op.operands)(g:cB P B.cfg.dec E H o.op=some (c,H')):p8 P B H G w (execOp a.eval o) c H':=by
 obtain⟨dst,op,ty,pos,after,guard⟩:=o;simp only[]at g F;cases op<;>simp only[cB,reduceCtorEq]at g
 case move x=>
  obtain⟨Z,rfl⟩:=zfI g;exact rU h rfl (F x dX _ Z)
 case assign x=>
  obtain⟨Z,rfl⟩:=zfI g;exact rU h rfl (F x dX _ Z)
 case pick x y z=>
  unfold vW at g;split at g
  .rename_i hc;obtain⟨Z,rfl⟩:=zfI g;have U:=F x dX _ hc;have:a.eval x=.bool true:=by generalize a.eval x=v at U;cases U;rfl
   exact rU h (v:=a.eval y) (by simp[execOp,asBool,this]) (F y dX _ Z)
  .rename_i hc;obtain⟨Z,rfl⟩:=zfI g;have U:=F x dX _ hc;have:a.eval x=.bool false:=by generalize a.eval x=v at U;cases U;rfl
   exact rU h (v:=a.eval z) (by simp[execOp,asBool,this]) (F z dX _ Z)
  .simp at g
 case alloc t=>
  unfold tD at g;split at g
  .rename_i z hz;simp only[cr]at g;obtain⟨rfl,rfl⟩:=g;obtain⟨zv,z1,z2⟩:=tW hz;have A:=wo h (z2 G) [] t;rw[bJ,rW]at A;refine rY ⟨.pointer (some ⟨w.heap.size,0,none⟩),_,_,?_,?_,A⟩
   .simp[Instr.alloc,z1,newVar,newRow]
   .exact .ptr (off:=0) (zf9 _ _ _)
  .simp at g
 case box t x=>
  unfold tE at g;split at g
  .rename_i v L;simp only[cr]at g;obtain⟨rfl,rfl⟩:=g;have A:=wo h (F x dX _ L).cells [] t;rw[bJ,rW]at A;refine rY ⟨.pointer (some ⟨w.heap.size,0,none⟩),_,_,?_,?_,A⟩
   .simp[Instr.box,newVar,newRow]
   .exact .ptr (off:=0) (zf9 _ _ _)
  .simp at g
 case build t parts=>
  unfold vX at g;split at g
  .rename_i ps V;obtain⟨Z,rfl⟩:=zfI g;obtain⟨q1,q2⟩:=wB (G:=G) (a:=a) (fun p hp=>F p.2 zC) V;have:=L2 (P:=P) (w:=w) q1 q2 Z;have M:(parts.toList.map fun x=>(x.1,a.eval x.2)).toArray=parts.map fun(i,x)=>(i,a.eval x):=by
    apply lm;simp
   rw[M]at this;exact zfL h this
  .simp at g
 case buildSlice t len parts=>
  unfold tF at g;split at g
  .rename_i ps V;obtain⟨q1,q2⟩:=wB (G:=G) (a:=a) (fun p hp=>F p.2 zC) V;have:=(Dv (P:=P) (w:=w) q1 q2 g).sim h;have M:(parts.toList.map fun x=>(x.1,a.eval x.2)).toArray=parts.map fun(i,x)=>(i,a.eval x):=by
    apply lm;simp
   rw[M]at this;exact rY this
  .simp at g
 case load t x=>
  unfold tG at g;split at g
  .rename_i v L;obtain⟨Z,rfl⟩:=zfI g;exact zfL h (Dl h (F x dX _ L) Z)
  .simp at g
 case store t x y=>
  unfold vY at g;split at g
  .rename_i av vv ha L;split at g
   .rename_i H1 J;simp only[cr]at g;obtain⟨rfl,rfl⟩:=g;exact DF (LI h (F x dX _ ha) (F y dX _ L) J)
   .simp at g
  .simp at g
 case nilCheck x=>
  unfold vZ at g;split at g
  .rename_i r off L;simp only[cr]at g;obtain⟨rfl,rfl⟩:=g;have I:=F x dX _ L;refine rU h (v:=a.eval x) ?_ I;simp only[execOp];generalize a.eval x=v at I⊢;cases I;rfl
  .rename_i cs L;simp only[cr]at g;obtain⟨rfl,rfl⟩:=g;have I:=F x dX _ L;refine rU h (v:=a.eval x) ?_ I;simp only[execOp];generalize a.eval x=v at I⊢;cases I;rfl
  .simp at g
 case binOp op t x y yt=>
  unfold v4 at g;split at g
  .rename_i Y yv I O;obtain⟨Z,rfl⟩:=zfI g;exact zfL h (LY (by rw[h.val];exact h.sym) (F x dX _ I) (F y dX _ O) Z)
  .simp at g
 case unOp op t x=>
  unfold v6 at g;split at g
  .rename_i Y I;obtain⟨Z,rfl⟩:=zfI g;exact zfL h (LZ (F x dX _ I) Z)
  .simp at g
 case convert s d x=>
  unfold tH at g;split at g
  .rename_i Y I;obtain⟨Z,rfl⟩:=zfI g;exact zfL h (Mi h (F x dX _ I) Z)
  .simp at g
 case makeFunc fn first captured=>
  unfold v7 at g;split at g
  .rename_i f vs C j;simp only[cr]at g;obtain⟨rfl,rfl⟩:=g;have hf:first=#[]:=by apply lm;simpa using C
   subst hf;have:=wD (G:=G) (a:=a) (fun x I=>F x (by simp[Op.operands];simpa using I)) j;refine zfL h ⟨.func (.func f) #[] (captured.map a.eval),by simp[Instr.makeFunc],?_⟩;have M:captured.map a.eval=(captured.toList.map a.eval).toArray:=zD;rw[M];exact .clo this.1 this.2
  .simp at g
 case makeMap t r=>
  unfold tI at g;split at g
  .simp only[cr]at g;obtain⟨rfl,rfl⟩:=g;exact rY ⟨.map (some w.heap.size),_,_,by simp[Instr.makeMap],.map (zf9 _ _ _),Lu h⟩
  .simp at g
 case makeSlice t l c'=>
  unfold tJ at g;split at g
  .rename_i lv cv hl hc;exact rY ((Dw (F l dX _ hl) (F c' dX _ hc) g).sim h)
  .simp at g
 case slice t x lo K mx=>
  unfold tK at g;split at g
  .rename_i Y l hh I hl hi';obtain⟨Z,rfl⟩:=zfI g;exact zfL h (L5 h (F x dX _ I) (DG (fun y O=>F y (by simp[Op.operands]at *;simp[O])) hl) (DG (fun y O=>F y (by simp[Op.operands]at *;simp[O])) hi') Z)
  .simp at g
 case fieldAddr t x f=>
  unfold v8 at g;split at g
  .rename_i Y I;obtain⟨Z,rfl⟩:=zfI g;exact zfL h (LJ (F x dX _ I) Z)
  .simp at g
 case field t x f=>
  unfold v9 at g;split at g
  .rename_i Y I;obtain⟨Z,rfl⟩:=zfI g;exact zfL h (LK (F x dX _ I) Z)
  .simp at g
 case indexAddr t x i=>
  unfold wa at g;split at g
  .rename_i Y iv I K;obtain⟨Z,rfl⟩:=zfI g;exact zfL h (LL (F x dX _ I) (F i dX _ K) Z)
  .simp at g
 case index t x i=>
  unfold wb at g;split at g
  .rename_i Y iv I K;obtain⟨Z,rfl⟩:=zfI g;exact zfL h (LM (F x dX _ I) (F i dX _ K) Z)
  .simp at g
 case lookup t m k ok=>
  unfold tL at g;split at g
  .rename_i mv kv hm hk;obtain⟨Z,rfl⟩:=zfI g;exact zfL h (Md h (F m dX _ hm) (F k dX _ hk) Z)
  .simp at g
 case mapUpdate t m k v=>
  unfold wc at g;split at g
  .rename_i mv kv vv hm hk L;split at g
   .rename_i H1 J;simp only[cr]at g;obtain⟨rfl,rfl⟩:=g;exact DF (Mg h (F m dX _ hm) (F k dX _ hk) (F v dX _ L) J)
   .simp at g
  .simp at g
 case extract x i=>
  unfold wd at g;split at g
  .rename_i Y I;obtain⟨Z,rfl⟩:=zfI g;exact zfL h (LN (F x dX _ I) Z)
  .simp at g
theorem Ml(h:R B H w G){keep:Bool}{b:Builtin}{K:Array TypeId}{ty:TypeId}{consts:Array Bool}{cs:List AV}{vs:List Value}{c:AV}(L:bW G cs vs)(z:mN P keep H b K.toList cs=some (c,H')):
 p8 P B H G w (builtin b K ty consts vs.toArray) c H':=by
 unfold mN at z;split at z
 .split at z
  .rename_i t u s x Z;have M:K=#[t,u]:=by apply lm;simpa using Z
   subst M
   match vs,L with
   |[O,V],L=>
    obtain⟨i,g⟩:=L.of_cons;obtain⟨o,_⟩:=g.of_cons;exact rY (L7 h i o z)
   |[],L=>have:=L.1;simp at this
   |[_],L=>have:=L.1;simp at this
   |_::_::_::_,L=>have:=L.1;simp at this
  .simp at z
 .split at z
  .rename_i t x Z;have M:K=#[t]:=by apply lm;simpa using Z
   subst M;split at z
   .rename_i v F;simp only[cr]at z;obtain⟨rfl,rfl⟩:=z
    match vs,L with
    |[V],L=>
     obtain⟨i,_⟩:=L.of_cons;exact zfL h (L9 h i F)
    |[],L=>have:=L.1;simp at this
    |_::_::_,L=>have:=L.1;simp at this
   .simp at z
  .simp at z
 .split at z
  .rename_i x U;split at z
   .rename_i v Y;simp only[cr]at z;obtain⟨rfl,rfl⟩:=z
    match vs,L with
    |[],L=>have:=L.1;simp at this
    |V::xvs,L=>
     obtain⟨i,g⟩:=L.of_cons;have:=zL (P:=P) (w:=w) i g Y;exact zfL h (by simpa [Builtin.max_]using this)
   .simp at z
  .simp at z
 .split at z
  .rename_i x U;split at z
   .rename_i v Y;simp only[cr]at z;obtain⟨rfl,rfl⟩:=z
    match vs,L with
    |[],L=>have:=L.1;simp at this
    |V::xvs,L=>
     obtain⟨i,g⟩:=L.of_cons;have:=zL (P:=P) (w:=w) i g Y;exact zfL h (by simpa [Builtin.min_]using this)
   .simp at z
  .simp at z
 .simp at z
end
def zP:AX->Exit
 | .normal=>.normal
 | .exit id=>.exit id
 | .ret=>.ret
def i9(B:Bs)(N Y:Nat)(G:Gh)(w:World)(x:AX)(Z:ax)(H':Hp):Exit->Act->World->Prop:=fun e A V=>
 e=zP x/\∃i,TR N i Z A/\Step B Y G w H' V i/\A.defers=[]
structure Fit (P:Program):Prop where
 name:∀(f:FuncId) (fn:Func),P.funcs[f]?=some fn->fn.body.isSome=true->(fn.name == "runtime.NumGoroutine")=false
 mixed:P.follows .mixedOrders=true
structure Snd (P:Program) (B:Bs) (n:Nat) (ih:Task->Res):Prop where
 call:∀f args H r H',ih (.call f args H)=.val r H'->∀G w vs,R B H w G->bW G args vs ->
  (∃fn,P.funcs[f]?=some fn/\fn.body.isSome=true)/\Calls P f vs.toArray w (fun e w'=>∃v G',e=.returned v/\VR G' r v/\Step B H.next G w H' w' G')
 code:∀f N c E H x E' H',ih (.code f N c E H)=.done x E' H'->∀G w a,R B H w G->TR N G E a->a.defers=[]->Code.wp P c (i9 B N H.next G w x E' H') a w
 loop:∀f N c E H x E' H',ih (.code f N (.loop c) E H)=.done x E' H'->∀G w a,R B H w G->TR N G E a->a.defers=[]->Code.rounds P c (i9 B N H.next G w x E' H') n a w
theorem zQ{P:Program}{c:Code}{Q i:Exit->Act->World->Prop}(h:∀e a w,Q e a w->i e a w):∀{n:Nat}{a:Act}{w:World},Code.rounds P c Q n a w->Code.rounds P c i n a w
 |0,_,_,hr=>hr
 |n+1,_,_,hr=>by
  rw[rounds_succ]at *;exact o9 (fun e a w M=>by
   cases e with
   |normal=>exact zQ h M
   |_=>exact h _ _ _ M) hr
theorem i9.trans{B:Bs}{N Y:Nat}{G i:Gh}{w w':World}{H' J:Hp}{x:AX}{O:ax}(K:Step B Y G w H' w' i){e:Exit}{a:Act}{C:World}(h:i9 B N H'.next i w' x O J e a C):i9 B N Y G w x O J e a C:=by
 obtain⟨M,Z,V,g,o⟩:=h;exact⟨M,Z,V,K.trans g,o⟩
def wE:=@i9.trans
section
variable {P:Program} {B:Bs} {G:Gh} {H H':Hp} {w:World}
theorem zR{N:Nat}{E:ax}{a:Act}(h:TR N G E a){x:Operand}{c:AV}(O:zdo E x=some c):VR G c (a.eval x):=by
 cases x with
 |tmp t=>simp only[zdo,aA]at O;subst O;exact h.slots t
 |const v=>exact rS O
 |global g=>simp[zdo]at O
 |func f=>simp only[zdo,aA]at O;subst O;exact .clo (vs:=[]) rfl aB
theorem TR.knows{N:Nat}{E:ax}{a:Act}(h:TR N G E a)(xs:Array Operand):qc G E a xs:=fun _ _ _ hc=>zR h hc
theorem Mm{E:ax}{a:Act}{d:Nat}(h:VR G (E.at d) (a.tmps.getD d undef)):(match E.at d with|.bool b=>some b |_=>none)=(match a.tmps[d]? with|some (.bool b)=>some b |_=>none):=by
 rw[gR]at h;cases hd:a.tmps[d]? with
 |none=>
  rw[hd]at h;simp only[Option.getD_none,undef]at h;generalize E.at d=c at h;cases h;rfl
 |some v=>
  rw[hd]at h;simp only[a5]at h;generalize E.at d=c at h;cases h<;>rfl
theorem Mn{E:ax}{a:Act}{ops:Array Oper}{j:Nat}(h:∀d,(ops[j]?).bind (·.dst)=some d->VR G (E.at d) (a.tmps.getD d undef)):wg ops.toList E j=yielded ops a.tmps j:=by
 unfold wg yielded;rw[t6];cases hd:(ops[j]?).bind (·.dst)with
 |none=>rfl
 |some d=>exact Mm (h d hd)
theorem DH{E:ax}{a:Act}{ops:Array Oper}{o:Oper}(h:∀j b d,o.guard=some (j,b)->(ops[j]?).bind (·.dst)=some d->VR G (E.at d) (a.tmps.getD d undef)):zfr ops.toList E o=Region.wanted o (yielded ops a.tmps):=by
 unfold zfr Region.wanted;cases C:o.guard with
 |none=>rfl
 |some p=>
  obtain⟨j,b⟩:=p;simp only[];rw[Mn (fun d hd=>h j b d C hd)];cases yielded ops a.tmps j with
  |none=>rfl
  |some m=>cases b<;>cases m <;>rfl
theorem wF(fit:Fit P){n:Nat}{ih:Task->Res}(hih:Snd P B n ih){f:FuncId}{E:ax}{a:Act}{o:Oper}{c:AV}(h:R B H w G)(hE:qc G E a o.op.operands)(Z:zez P B.cfg ih f E H o.op=.val c H')
 {K:Act->World->Prop}{Q:Exit->Act->World->Prop} (hK:∀v M i,VR i c v->Step B H.next G w H' M i->K (a.put o.dst v) M):o.wp P a w K Q:=by
 have O:∀s:Sem Next,p8 P B H G w s c H'->execOp a.eval o=s->o.wp P a w K Q:=fun s hs he=>by
  obtain⟨m,M,i,v,h1,h2,h3,h4⟩:=hs;unfold Oper.wp;rw[he,h1];rcases h2 with rfl|⟨rfl,rfl⟩
  .exact hK v M i h3 h4
  .exact hK undef M i h3 h4
 unfold zez at Z;split at Z
 .rename_i F Y;unfold oU at Z;split at Z
  .rename_i g z;split at Z
   .rename_i k cap vs hgv L;have U:qc G E a F.operands:=by rw[Y]at hE;exact hE
    have hgr:=U g (by simp[Call.operands,z]) _ hgv;have I:=wD (G:=G) (a:=a) (fun x hx=>U x (by simp[Call.operands,z];exact .inr (by simpa using hx))) L;generalize hge:a.eval g=gv at hgr;cases hgr with
    |clo hl hv=>
     rename_i J;have hall:=I.append (G:=G) ⟨hl,hv⟩;obtain⟨⟨fn,hfn,C⟩,V⟩:=hih.call _ _ _ _ _ Z G w _ h hall;have A:=fit.name _ _ hfn C;unfold Oper.wp;have hrun:(execOp a.eval o).run P w=.ok (.enter k ((F.args.toList.map a.eval)++J).toArray) w:=by
      have j:F.args.map a.eval=(F.args.toList.map a.eval).toArray:=zD;unfold execOp;rw[Y];simp only[dO,resolve,z,hge,Deferred.ofValue,iE,dW,invoke,callFunc,run_program,hfn,A];simp only[cC,cn];have hb:fn.body.isNone=false:=by cases hb:fn.body<;>simp_all
      rw[hb];simp[j]
     rw[hrun];show Calls P k _ w _;refine V.mono fun e M hr=>?_;obtain⟨v,i,rfl,h1,h2⟩:=hr;exact hK v M i h1 h2
   .simp at Z
  .rename_i b z;split at Z
   .rename_i vs L;split at Z
    .rename_i v H1 hb;simp only[Res.val.injEq]at Z;obtain⟨rfl,rfl⟩:=Z;have U:qc G E a F.operands:=by rw[Y]at hE;exact hE
     have I:=wD (G:=G) (a:=a) (fun x hx=>U x (by simp[Call.operands,z];simpa using hx)) L;have hs:=Ml (ty:=o.type) (consts:=F.args.map fun|.const _=>true |_=>false) h I hb;refine O _ hs ?_;have j:F.args.map a.eval=(F.args.toList.map a.eval).toArray:=zD;unfold execOp;rw[Y];simp only[resolve,z,j];rfl
    .simp at Z
   .simp at Z
  .simp at Z
 .rename_i op hne;unfold ze8 at Z;split at Z
  .rename_i v H1 ho;simp only[Res.val.injEq]at Z;obtain⟨rfl,rfl⟩:=Z;exact O _ (Mk h hE ho) rfl
  .simp at Z
theorem zS(fit:Fit P){n:Nat}{ih:Task->Res}(Z:Snd P B n ih){f N:Nat}{ops:Array Oper}:∀(l:List Oper) {E E':ax}{H:Hp}{x:AX}{a:Act}{w:World}{G:Gh}{Q:Exit->Act->World->Prop},zfy P B.cfg ih f N ops.toList l E H=.done x E' H' ->
 R B H w G->TR N G E a->a.defers=[]->(∀e M O,i9 B N H.next G w x E' H' e M O->Q e M O)->wpList P ops Q l a w
 |[],E,E',H,x,a,w,G,Q,hr,h,ht,hd,hQ=>by
  simp only[zfy,Res.done.injEq]at hr;obtain⟨rfl,rfl,rfl⟩:=hr;exact hQ _ _ _ ⟨rfl,G,ht,jm h,hd⟩
 |o::l,E,E',H,x,a,w,G,Q,hr,h,ht,hd,hQ=>by
  have I:∀E H,(List.rec (motive:=fun _=>ax->Hp->Res) (fun E H=>.done .normal E H)
   (fun o _ j E H=>match zfr ops.toList E o with
     |true=>match zez P B.cfg ih f E H o.op with
      | .val v H=>zfC j H (d9 N E o.dst v)
      |_=>.fail
     |false=>zfC j H (d9 N E o.dst zev)) l E H:Res)=zfy P B.cfg ih f N ops.toList l E H:=fun _ _=>rfl
  have J:zfy P B.cfg ih f N ops.toList (o::l) E H=match zfr ops.toList E o with
   |true=>match zez P B.cfg ih f E H o.op with
    | .val v H=>zfC (zfy P B.cfg ih f N ops.toList l) H (d9 N E o.dst v)
    |_=>.fail
   |false=>zfC (zfy P B.cfg ih f N ops.toList l) H (d9 N E o.dst zev):=rfl
  rw[J]at hr;have V:=DH (G:=G) (E:=E) (a:=a) (ops:=ops) (o:=o) (fun _ _ d _ _=>ht.slots d);have m:∀U v,(a.put U v).defers=[]:=fun U v=>by cases U<;>exact hd
  cases Y:zfr ops.toList E o with
  |true=>
   rw[Y]at hr V;simp only[]at hr;split at hr
   .rename_i v H1 g;cases hp:d9 N E o.dst v with
    |none=>rw[hp]at hr;simp[zfC]at hr
    |some E1=>
     rw[hp]at hr;simp only[zfC]at hr;unfold wpList;rw[az V.symm];refine .inl (wF fit Z h (ht.knows _) g fun F O i L A=>?_);have K:TR N i E1 (a.put o.dst F):=(ht.mono A.ext).put L hp;exact zS fit Z l hr A.r K (m _ _) (fun e a w C=>hQ _ _ _ (wE A C))
   .simp at hr
  |false=>
   rw[Y]at hr V;simp only[]at hr;cases hp:d9 N E o.dst zev with
   |none=>rw[hp]at hr;simp[zfC]at hr
   |some E1=>
    rw[hp]at hr;simp only[zfC]at hr;unfold wpList;rw[ai (by rw[<-V];simp)];exact zS fit Z l hr h (ht.put (tT G) hp) (m _ _) hQ
end
section
variable {P:Program} {B:Bs} {G:Gh} {H H':Hp} {w:World} {cfg:Cfg}
theorem Sx.beq_eq:∀{a b:Sx},Sx.beq a b=true->a=b
 | .var i,b,h=>by
   cases b<;>simp only[Sx.beq,cC]at h;rw[gP h]
 | .lit i,b,h=>by
   cases b<;>simp only[Sx.beq,cC,lq]at h;rw[h]
 | .bin o k x y,b,h=>by
   cases b<;>simp only[Sx.beq,cC,j4]at h;obtain⟨⟨⟨rfl,rfl⟩,Z⟩,g⟩:=h;rw[Sx.beq_eq Z,Sx.beq_eq g]
 | .conv k x,b,h=>by
   cases b<;>simp only[Sx.beq,cC,j4]at h;obtain⟨rfl,Z⟩:=h;rw[Sx.beq_eq Z]
mutual
theorem AV.beq_eq:∀{a b:AV},AV.beq a b=true->a=b
 | .int k a,b,h=>by
   cases b<;>simp only[AV.beq,j4,lq,cC]at h;obtain⟨rfl,rfl⟩:=h;rfl
 | .sx k a,b,h=>by
   cases b<;>simp only[AV.beq,j4,cC]at h;obtain⟨rfl,i⟩:=h;rw[Sx.beq_eq i]
 | .bool a,b,h=>by
   cases b<;>simp only[AV.beq,lq,cC]at h;subst h;rfl
 | .str a,b,h=>by
   cases b<;>simp only[AV.beq,lq,cC]at h;subst h;rfl
 | .nilP,b,h=>by cases b<;>simp only[AV.beq,cC]at h;rfl
 | .nilM,b,h=>by cases b<;>simp only[AV.beq,cC]at h;rfl
 | .nilF,b,h=>by cases b<;>simp only[AV.beq,cC]at h;rfl
 | .nilS,b,h=>by cases b<;>simp only[AV.beq,cC]at h;rfl
 | .ptr r o,b,h=>by
   cases b<;>simp only[AV.beq,dC,cC]at h;obtain⟨i,g⟩:=h;rw[gP i,gP g]
 | .iptr a,b,h=>by
   cases b<;>simp only[AV.beq,cC]at h;rw[zf1 h]
 | .sl r o l z,b,h=>by
   cases b<;>simp only[AV.beq,dC,cC]at h;obtain⟨⟨⟨i,g⟩,Z⟩,U⟩:=h;rw[gP i,gP g,gP Z,gP U]
 | .lst a,b,h=>by
   cases b<;>simp only[AV.beq,cC]at h;rw[DI h]
 | .map r,b,h=>by
   cases b<;>simp only[AV.beq,cC]at h;rw[gP h]
 | .clo f a,b,h=>by
   cases b<;>simp only[AV.beq,dC,cC]at h;rw[gP h.1,zf1 h.2]
 | .agg a,b,h=>by
   cases b<;>simp only[AV.beq,cC]at h;rw[zf1 h]
 | .tup a,b,h=>by
   cases b<;>simp only[AV.beq,cC]at h;rw[zf1 h]
theorem zf1:∀{a b:List AV},zfK a b=true->a=b
 |[],b,h=>by cases b<;>simp only[zfK,cC]at h;rfl
 |a::x,b,h=>by
  cases b<;>simp only[zfK,dC,cC]at h;rw[AV.beq_eq h.1,zf1 h.2]
theorem DI:∀{a b:List (List AV)},pT a b=true->a=b
 |[],b,h=>by cases b<;>simp only[pT,cC]at h;rfl
 |a::x,b,h=>by
  cases b<;>simp only[pT,dC,cC]at h;rw[zf1 h.1,DI h.2]
end
theorem DJ{U β:Type}:∀{a b:List (U×β)},a.map (·.1)=b.map (·.1)->a.map (·.2)=b.map (·.2)->a=b
 |[],b,h,_=>by cases b<;>simp at h;rfl
 |(x,y)::a,b,h,I=>by
  cases b with
  |nil=>simp at h
  |cons c b=>
   obtain⟨u,v⟩:=c;simp only[dL,cR]at h I;obtain⟨rfl,h⟩:=h;obtain⟨rfl,I⟩:=I;rw[DJ h I]
theorem HB.beq_eq{a b:HB}(h:HB.beq a b=true):a=b:=by
 cases a<;>cases b<;>simp only[HB.beq,dC,cC,lq]at h
 .obtain⟨⟨i,g⟩,o⟩:=h;rw[zf1 i,gP g,o]
 .rw[DJ (zf1 h.1) (zf1 h.2)]
def kM(P:Program)(cfg:Cfg)(ih:Task->Res)(f N:Nat)(J:List Oper):List Rec->List Oper->ax->Hp->ax->Hp->Prop
 |[],[],E,H,E',H'=>E=E'/\H=H'
 |r::rs,o::l,E,H,E',H'=>r.o=o/\r.E=E/\r.H=H/\zfr J E o=r.did/\(r.did=true->zez P cfg ih f E H o.op=.val r.val r.H')/\(r.did=false->r.val=zev/\r.H'=H) /\
  ∃E1,d9 N E o.dst r.val=some E1/\kM P cfg ih f N J rs l E1 r.H' E' H'
 |_,_,_,_,_,_=>False
theorem ua{ih:Task->Res}{f N:Nat}{J:List Oper}:∀{l:List Oper}{E E':ax}{H H':Hp}{rs:List Rec},gL P cfg ih f N J l E H=.done E' H' rs->kM P cfg ih f N J rs l E H E' H'
 |[],E,E',H,H',rs,h=>by
  simp only[gL,ResD.done.injEq]at h;obtain⟨rfl,rfl,rfl⟩:=h;exact⟨rfl,rfl⟩
 |o::l,E,E',H,H',rs,h=>by
  simp only[gL]at h;cases Z:zfr J E o with
  |true=>
   rw[Z]at h;simp only[]at h;cases g:zez P cfg ih f E H o.op with
   |val v H1=>
    rw[g]at h;simp only[]at h;cases hp:d9 N E o.dst v with
    |none=>rw[hp]at h;simp[zfW,lc]at h
    |some E1=>
     rw[hp]at h;simp only[zfW]at h;cases hr:gL P cfg ih f N J l E1 H1 with
     |fail=>rw[hr]at h;simp[lc]at h
     |done Y V z=>
      rw[hr]at h;simp only[lc,ResD.done.injEq]at h;obtain⟨rfl,rfl,rfl⟩:=h;exact⟨rfl,rfl,rfl,Z,fun _=>g,aB,E1,hp,ua hr⟩
   |done _ _ _=>rw[g]at h;simp at h
   |fail=>rw[g]at h;simp at h
  |false=>
   rw[Z]at h;simp only[]at h;cases hp:d9 N E o.dst zev with
   |none=>rw[hp]at h;simp[zfW,lc]at h
   |some E1=>
    rw[hp]at h;simp only[zfW]at h;cases hr:gL P cfg ih f N J l E1 H with
    |fail=>rw[hr]at h;simp[lc]at h
    |done Y V z=>
     rw[hr]at h;simp only[lc,ResD.done.injEq]at h;obtain⟨rfl,rfl,rfl⟩:=h;exact⟨rfl,rfl,rfl,Z,aB,fun _=>⟨rfl,rfl⟩,E1,hp,ua hr⟩
def jP(rs:List Rec)(Z:ax)(e:Nat):ax:=match rs[e]? with
 |some r=>r.E
 |none=>Z
theorem zT{ih:Task->Res}{f N:Nat}{J:List Oper}:∀{rs:List Rec}{l:List Oper}{E E':ax}{H H':Hp},kM P cfg ih f N J rs l E H E' H'->rs.length=l.length
 |[],[],_,_,_,_,_=>rfl
 |[],_::_,_,_,_,_,h=>by simp[kM]at h
 |_::_,[],_,_,_,_,h=>by simp[kM]at h
 |r::rs,o::l,E,E',H,H',h=>by
  obtain⟨_,_,_,_,_,_,E1,_,h⟩:=h;simp[zT h]
theorem zU{ih:Task->Res}{f N:Nat}{J:List Oper}{rs:List Rec}{l:List Oper}{E Z:ax}{H H':Hp}(h:kM P cfg ih f N J rs l E H Z H'):jP rs Z 0=E/\zd5 rs H' 0=H:=by
 cases rs with
 |nil=>
  cases l with
  |nil=>obtain⟨rfl,rfl⟩:=h;exact⟨rfl,rfl⟩
  |cons o l=>simp[kM]at h
 |cons r rs=>
  cases l with
  |nil=>simp[kM]at h
  |cons o l=>
   obtain⟨_,i,g,_⟩:=h;exact⟨by simp[jP,i],by simp[zd5,g]⟩
structure AtD (P:Program) (cfg:Cfg) (ih:Task->Res) (f N:Nat) (all:List Oper) (o:Oper) (r:Rec) (E E1:ax) (H H1:Hp):Prop where
 eo:r.o=o
 eE:r.E=E
 eH:r.H=H
 want:zfr all E o=r.did
 yes:r.did=true->zez P cfg ih f E H o.op=.val r.val H1
 no:r.did=false->r.val=zev/\H1=H
 put:d9 N E o.dst r.val=some E1
 eH':r.H'=H1
theorem qd{ih:Task->Res}{f N:Nat}{J:List Oper}:∀{rs:List Rec}{l:List Oper}{E E':ax}{H H':Hp},kM P cfg ih f N J rs l E H E' H'->∀{i:Nat}{r:Rec},rs[i]?=some r ->
 ∃o,l[i]?=some o/\AtD P cfg ih f N J o r (jP rs E' i) (jP rs E' (i+1)) (zd5 rs H' i) (zd5 rs H' (i+1))
 |[],_,_,_,_,_,_,i,r,hr=>by simp at hr
 |r::rs,[],_,_,_,_,h,_,_,_=>by simp[kM]at h
 |r::rs,o::l,E,E',H,H',h,i,r',hr=>by
  obtain⟨U,g,Y,O,M,F,E1,L,V⟩:=h;obtain⟨K,I⟩:=zU V;cases i with
  |zero=>
   simp at hr;subst hr;have Z:jP (r::rs) E' 1=E1:=by rw[<-K];simp[jP]
   have C:zd5 (r::rs) H' 1=r.H':=by rw[<-I];simp[zd5]
   have e3:jP (r::rs) E' 0=E:=by simp[jP,g]
   have e4:zd5 (r::rs) H' 0=H:=by simp[zd5,Y]
   refine⟨o,rfl,?_⟩;rw[Z,C,e3,e4];exact⟨U,g,Y,O,M,fun m=>⟨(F m).1,(F m).2⟩,L,rfl⟩
  |succ i=>
   obtain⟨A,z,j⟩:=qd V (i:=i) (r:=r') (by simpa using hr);have Z:∀k,jP (r::rs) E' (k+1)=jP rs E' k:=fun k=>by simp[jP]
   have C:∀k,zd5 (r::rs) H' (k+1)=zd5 rs H' k:=fun k=>by simp[zd5]
   refine⟨A,by simpa using z,?_⟩;rw[Z,Z,C,C];exact j
def n9(op:Op):Bool:=match ze9 op with|.calm=>true |_=>false
def mU(op:Op):Bool:=match ze9 op with|.read=>true |_=>false
theorem Mo{D:BinOp->Sx->Sx->Option Bool}{E:ax}{op:Op}(j:n9 op=true):∃u,∀X,cB P D E X op=ret X u:=by
 cases op<;>simp only[n9,ze9,cC]at j<;>simp only[cB]
 case move x=>exact⟨_,fun X=>rfl⟩
 case assign x=>exact⟨_,fun X=>rfl⟩
 case pick c a b=>
  unfold vW;cases zdo E c with
  |none=>exact⟨none,fun X=>rfl⟩
  |some v=>cases v with
   |bool t=>cases t<;>exact⟨_,fun X=>rfl⟩
   |_=>exact⟨none,fun X=>rfl⟩
 case build t parts=>
  unfold vX;cases zfH E parts.toList with
  |none=>exact⟨none,fun X=>rfl⟩
  |some F=>exact⟨_,fun X=>rfl⟩
 case nilCheck x=>
  unfold vZ;cases zdo E x with
  |none=>exact⟨none,fun X=>rfl⟩
  |some v=>cases v with
   |ptr r o=>exact⟨some (.ptr r o),fun X=>rfl⟩
   |iptr Y=>exact⟨some (.iptr Y),fun X=>rfl⟩
   |_=>exact⟨none,fun X=>rfl⟩
 case binOp op t x y yt=>
  unfold v4;cases zdo E x with
  |none=>exact⟨none,fun X=>rfl⟩
  |some v=>cases zdo E y with
   |none=>exact⟨none,fun X=>rfl⟩
   |some u=>exact⟨_,fun X=>rfl⟩
 case unOp op t x=>
  unfold v6;cases zdo E x with
  |none=>exact⟨none,fun X=>rfl⟩
  |some v=>exact⟨_,fun X=>rfl⟩
 case makeFunc fn first captured=>
  unfold v7;cases fn with
  |func f=>
   cases first.toList with
   |nil=>cases zfj E captured.toList with
    |none=>exact⟨none,fun X=>rfl⟩
    |some vs=>exact⟨some (.clo f vs),fun X=>rfl⟩
   |cons _ _=>exact⟨none,fun X=>rfl⟩
  |_=>exact⟨none,fun X=>rfl⟩
 case fieldAddr t x f=>
  unfold v8;cases zdo E x with
  |none=>exact⟨none,fun X=>rfl⟩
  |some v=>exact⟨_,fun X=>rfl⟩
 case field t x f=>
  unfold v9;cases zdo E x with
  |none=>exact⟨none,fun X=>rfl⟩
  |some v=>exact⟨_,fun X=>rfl⟩
 case indexAddr t x i=>
  unfold wa;cases zdo E x with
  |none=>exact⟨none,fun X=>rfl⟩
  |some v=>cases zdo E i with
   |none=>exact⟨none,fun X=>rfl⟩
   |some u=>exact⟨_,fun X=>rfl⟩
 case index t x i=>
  unfold wb;cases zdo E x with
  |none=>exact⟨none,fun X=>rfl⟩
  |some v=>cases zdo E i with
   |none=>exact⟨none,fun X=>rfl⟩
   |some u=>exact⟨_,fun X=>rfl⟩
 case extract x i=>
  unfold wd;cases zdo E x with
  |none=>exact⟨none,fun X=>rfl⟩
  |some v=>exact⟨_,fun X=>rfl⟩
 all_goals exact⟨none,fun X=>rfl⟩
theorem zV{D:BinOp->Sx->Sx->Option Bool}{E:ax}{op:Op}{v:AV}(j:n9 op=true)(h:cB P D E H op=some (v,H')):H'=H/\∀X,cB P D E X op=some (v,X):=by
 obtain⟨u,K⟩:=Mo (P:=P) (D:=D) (E:=E) j;rw[K]at h;obtain⟨rfl,rfl⟩:=zfI h;exact⟨rfl,fun X=>by rw[K];rfl⟩
theorem zW{ih:Task->Res}{f:FuncId}{E:ax}{op:Op}{v:AV}(j:mU op=true)(h:zez P cfg ih f E H op=.val v H'):H'=H:=by
 cases op<;>simp only[mU,ze9,cC]at j<;>simp only[zez,cB]at h
 case load t x=>
  unfold tG at h;split at h
  .cases I:zeX P H t ‹AV› <;>rw[I]at h<;>simp[ret,ze8]at h;exact h.2.symm
  .simp[ze8]at h
 case slice t x lo hi mx=>
  unfold tK at h;split at h
  .rename_i i lv L _ _ _;cases I:k8 P H t i lv L<;>rw[I]at h<;>simp[ret,ze8]at h;exact h.2.symm
  .simp[ze8]at h
 case convert s d x=>
  unfold tH at h;split at h
  .cases I:zfA P H s d ‹AV› <;>rw[I]at h<;>simp[ret,ze8]at h;exact h.2.symm
  .simp[ze8]at h
 case lookup t m k ok=>
  unfold tL at h;split at h
  .rename_i mv Z _ _;cases I:zfv P H t mv Z ok<;>rw[I]at h<;>simp[ret,ze8]at h;exact h.2.symm
  .simp[ze8]at h
 case call c=>
  unfold oU at h;cases hc:c.callee with
  |value g=>rw[hc]at j;simp at j
  |invoke g m=>rw[hc]at j;simp at j
  |builtin b=>
   rw[hc]at j h;simp only[]at h;split at h
   .rename_i vs _;cases b<;>simp only[cC]at j<;>simp only[mN]at h;all_goals
     split at h
     .rename_i o H1 z;simp only[Res.val.injEq]at h;obtain⟨rfl,rfl⟩:=h;split at z
      .split at z
       .simp only[cr]at z;exact z.2.symm
       .simp at z
      .simp at z
     .simp at h
   .simp at h
theorem Mp{D:BinOp->Sx->Sx->Option Bool}{E:ax}{o:Oper}{v:AV}(j:oW o=true)(h:cB P D E H o.op=some (v,H')):∃U,H'=H.alloc U:=by
 obtain⟨Z,K,Y,z,A,guard⟩:=o;simp only[]at h;cases K<;>simp only[oW,ze9,cC]at j<;>simp only[cB,reduceCtorEq]at h
 case alloc t=>
  unfold tD at h;split at h
  .simp only[cr]at h;exact⟨_,h.2.symm⟩
  .simp at h
 case box t x=>
  unfold tE at h;split at h
  .simp only[cr]at h;exact⟨_,h.2.symm⟩
  .simp at h
 case buildSlice t len parts=>
  unfold tF at h;split at h
  .unfold zeP at h;(repeat' split at h)<;>first|(simp only[cr]at h;exact⟨_,h.2.symm⟩)|simp at h
  .simp at h
 case makeMap t r=>
  unfold tI at h;split at h
  .simp only[cr]at h;exact⟨_,h.2.symm⟩
  .simp at h
 case makeSlice t l c=>
  unfold tJ at h;split at h
  .unfold ze7 at h;(repeat' split at h)<;>first|(simp only[cr]at h;exact⟨_,h.2.symm⟩)|simp at h
  .simp at h
theorem qe{ih:Task->Res}{f:FuncId}{E:ax}{op:Op}{v:AV}(m:∀c,op≠.call c):zez P cfg ih f E H op=.val v H'↔cB P cfg.dec E H op=some (v,H'):=by
 have:zez P cfg ih f E H op=ze8 (cB P cfg.dec E H op):=by
  unfold zez;split
  .exact(m _ rfl).elim
  .rfl
 rw[this];cases cB P cfg.dec E H op with
 |none=>simp[ze8]
 |some p=>obtain⟨a,b⟩:=p;simp[ze8]
theorem Mq{ih:Task->Res}{f:FuncId}{E:ax}{o:Oper}{v:AV}(j:jZ o=false)(h:zez P cfg ih f E H o.op=.val v H'):H'=H\/∃U,H'=H.alloc U:=by
 cases i:ze9 o.op with
 |act=>simp[jZ,i]at j
 |read=>exact .inl (zW (by simp[mU,i]) h)
 |calm=>
  have m:∀c,o.op≠.call c:=fun c e=>by
   rw[e]at i;simp only[ze9]at i;split at i<;>simp at i
  exact .inl (zV (P:=P) (by simp[n9,i]) ((qe m).1 h)).1
 |make=>
  have m:∀c,o.op≠.call c:=fun c e=>by
   rw[e]at i;simp only[ze9]at i;split at i<;>simp at i
  exact .inr (Mp (by simp[oW,i]) ((qe m).1 h))
end
end Go.Ab
