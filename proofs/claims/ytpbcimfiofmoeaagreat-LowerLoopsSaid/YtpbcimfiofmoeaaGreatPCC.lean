/- Parts: AbOps3, AbOps4, AbOps5, AbOps6, AbOp, AbRun, AbDraw1. -/
import Derived.Laws.Tables
import Derived.Lib.Strings
import Derived.Test.YtpbcimfiofmoeaaGreatPCB
set_option linter.unusedSimpArgs false
set_option linter.unusedVariables false
set_option linter.unusedSectionVars false
set_option linter.defProp false
set_option maxHeartbeats 32000000
namespace Go.Ab
set_option maxRecDepth 20000
open Go
theorem Cy{P:Prop}(h:P:=by rw[<- Nat.add_mul];congr 1;omega):P:=h
theorem zj{P:Prop}(h:P:=by simpa using I):P:=h
theorem zk{P:Prop}(h:P:=by simpa using o):P:=h
theorem l8{P:Prop}(h:P:=by simpa using L.symm):P:=h
theorem uS{P:Prop}(h:P:=by simpa using m):P:=h
theorem zl{P:Prop}(h:P:=by simp[Builtin.lenOf]):P:=h
theorem rY{P:Prop}(h:P:=by rw[List.length_take];omega):P:=h
theorem wL{P:Prop}(h:P:=by simp[Builtin.len_,zgJ hd,goInt]):P:=h
theorem Cz{P:Prop}(h:P:=by rw[Hp.get_set,if_neg V]):P:=h
theorem eO{P:Prop}(h:P:=by simp[Op.operands]):P:=h
theorem CA{P:Prop}(h:P:=by simp only[Op.operands,List.mem_toArray,List.mem_map];exact⟨p,hp,rfl⟩):P:=h
theorem CB{P:Prop}(h:P:=by apply Array.ext';simp):P:=h
def qS:=@Nat.sub_self
def jh:=@Option.map_some
def kz:=@congrArg
def dZ:=@Nat.zero_le
def oz:=@Nat.add_mul
def CC:=@List.zipIdx_cons
def GH:=@Array.toList_setIfInBounds
def oA:=@List.take_add_one
def CD:=@Decidable.byContradiction
def qT:=@Nat.add_zero
def uT:=@Array.toArray_toList
def wM:=@Nat.succ_mul
def CE:=@Array.toList_map
def fT:=@List.getElem?_map
def zm:=@List.getElem?_range
def bi:=@List.append_nil
def wN:=@Nat.mul_le_mul_right
def CF:=@List.take_append_drop
def zn:=@List.map_take
def uU:=@Nat.min_eq_left
def tx:=@Go.IntWalk.i64_in
def qU:=@List.flatten_cons
def wO:=@Nat.zero_mul
def CG:=@Go.run_firstCells_some
def lJ:=@List.mem_of_getElem?
def fo:=@List.drop_zero
def wP:=@Nat.sub_zero
def zo:=@List.take_length
def co:=@Bool.and_eq_true
def wQ:=@Nat.le_of_ble_eq_true
def zp:=@List.length_eq_zero_iff
def dm:=@Bool.false_eq_true
def CH:=@List.drop_append_of_le_length
def iB:=@decide_eq_true_eq
def bS:=@Option.getD_some
def mL:=@List.getElem?_set
def wR:=@Array.getElem?_toList
def eB:=@List.cons.injEq
def kX:=@Nat.mul_one
def rZ:=@Go.Code.wp_mono
def dE:=@List.map_cons
def iX:=And.intro @co @iB
end Go.Ab
namespace Go.Ab
set_option maxRecDepth 20000
open Go Go.RowKit
def tz(G:Gh):Option AV->Option Value->Prop
 |none,none=>True
 |some c,some v=>VR G c v
 |_,_=>False
section
variable {P:Program} {B:Bs} {G:Gh} {H H':Hp} {w:World}
theorem zq{c:AV}{v:Value}{k y:Nat}(code:BoundsCode)(h:VR G c v)(o:zg9 0 (some c)=some k)(j:k<=y):(Instr.sliceBound v y code).run P w=.ok k w:=by
 unfold zg9 at o;split at o
 .simp at *
 .rename_i Y n e;simp only[az]at o e;subst o;subst e;cases h;simp[Instr.sliceBound,asIntOf,j]
 .simp at o
theorem PG{d k:Nat}{c:AV}(h:zg9 d (some c)=some k):zg9 0 (some c)=some k:=by
 unfold zg9 at *;split at h<;>simp_all
theorem CI{lo I:Option AV}{m o:Option Value}{l h len cap:Nat}(L:tz G lo m)(Z:tz G I o)(z:zg9 0 lo=some l)(C:zg9 len I=some h)(h1:l<=h)(h2:h<=len)(Y:len<=cap)(J:Bool):
 (Instr.sliceBounds J len cap m o none).run P w=.ok (l,h,cap) w:=by
 cases I with
 |none=>
  cases o with
  |some v=>exact Z.elim
  |none=>
   simp only[zg9,az]at C;subst C;cases lo with
   |none=>
    cases m with
    |some v=>exact L.elim
    |none=>
     simp only[zg9,az]at z;subst z;simp[Instr.sliceBounds]
   |some c=>
    cases m with
    |none=>exact L.elim
    |some v=>simp[Instr.sliceBounds,zq _ L z h1]
 |some V=>
  cases o with
  |none=>exact Z.elim
  |some M=>
   have K:=PG C;cases lo with
   |none=>
    cases m with
    |some v=>exact L.elim
    |none=>
     simp only[zg9,az]at z;subst z;simp[Instr.sliceBounds,zq _ Z K (show h<=cap by omega)]
   |some c=>
    cases m with
    |none=>exact L.elim
    |some v=>simp[Instr.sliceBounds,zq _ L z h1,zq _ Z K (show h<=cap by omega)]
theorem PH{t:TypeId}{x c:AV}{xv:Value}{lo I:Option AV}{lov hiv:Option Value}(hx:VR G x xv)(hl:tz G lo lov)(hh:tz G I hiv)(h:zhg P t x lo I=some c):
 ∃v,(Instr.sliceAt t xv lov hiv none).run P w=.ok v w/\VR G c v:=by
 unfold zhg at h;split at h
 .rename_i s hd;split at h
  .rename_i l hh' U C;split at h
   .rename_i hc;simp only[az]at h;subst h;cases hx with
    |str m _ hs=>
     subst hs;have hb:=CI (P:=P) (w:=w) (cap:=m.size) hl hh U C hc.1 hc.2 (by show m.data.toList.length<=m.data.size;simp) false;have hsz:m.data.toList.length=m.size:=by show m.data.toList.length=m.data.size;simp
     rw[hsz]at hb;refine⟨.string (m.extract l hh'),?_,.str _ _ (Lib.extract_data _ _ _)⟩;simp only[Instr.sliceAt,eI,zgJ hd,eN,Instr.slice];simp[hb]
   .simp at h
  .simp at h
 .rename_i e y hd;split at h
  .rename_i z hz;have Z:∀(a:Option Addr) (Y cap l V:Nat),xv=.slice a Y cap->zg9 0 lo=some l->zg9 Y I=some V->l<=V->V<=Y->Y<=cap ->
    (Instr.sliceAt t xv lov hiv none).run P w=.ok (.slice (if cap=l then a else a.map (·.add (l*z))) (V-l) (cap-l)) w:=fun a Y cap l V e1 U C h1 g h3=>by
    subst e1;simp only[Instr.sliceAt,eI,zgJ hd,eN,Instr.slice];simp[CI hl hh U C h1 g h3,zhK hz]
   split at h
   .rename_i r off Y z';split at h
    .rename_i l V U C;split at h
     .rename_i hc;obtain⟨h1,g,rfl⟩:=hc;cases hx with
      |sl hr hlc hx'=>
       rename_i b o x cap;have:=Z _ Y cap l V rfl U C h1 g hlc;split at h
       .rename_i e1;simp only[az]at h;subst h;subst e1;rw[qS]at this;exact⟨_,this,.lst0 _ _⟩
       .rename_i hne;simp only[az]at h;subst h;rw[af ac]at this;refine⟨_,this,?_⟩;simp only[jh,nA];rw[jS];refine .sl hr ac ?_;have e3:(cap-l)*z'+l*z'=cap*z':=Cy;omega
     .simp at h
    .simp at h
   .rename_i xs;split at h
    .rename_i l V U C;split at h
     .rename_i hc;obtain⟨h1,g⟩:=hc;split at h
      .rename_i he;simp only[az]at h;subst h;have L:V-l=0:=by
        have:=kz List.length he;simp only[jR,ku,eM]at this;omega
       cases hx with
       |lst vs hzz hF hv K=>
        have:=Z _ _ _ l V rfl U C h1 g K;rw[L]at this;exact⟨_,this,.lst0 _ _⟩
       |lst0 a cap=>
        have:=Z _ _ _ l V rfl U C h1 g (dZ cap);rw[L]at this;exact⟨_,this,.lst0 _ _⟩
      .rename_i row J he;split at h
       .rename_i hrl;simp only[az]at h;subst h;have hpos:0<V-l:=by
         have:=kz List.length he;simp only[jR,ku,dg]at this;omega
        cases hx with
        |lst0 a cap=>simp at g;omega
        |lst vs hzz hF hv K=>
         rename_i b o cap z';have O:=Z _ _ _ l V rfl U C h1 g K;rw[af ac]at O;have M:∀i:Nat,(row::J)[i]?=if i<V-l then xs[l+i]? else none:=fun i=>by
          rw[<-he,pK,rX]
         have hz':z'=z:=by
          have:=M 0;rw[aq hpos]at this;rw[<-hzz (l+0) row (by rw[<-this];rfl)];exact hrl
         subst hz';have L:(row::J).length=V-l:=by
          rw[<-he];simp only[jR,ku];omega
         refine⟨_,O,?_⟩;simp only[jh,nA];rw[<-L];refine .lst (z:=z') (fun i j=>vs (l+i) j) (fun i rw' I=>?_) (fun i j I hj=>?_) (fun i j rw' d I hj=>?_) (by rw[L];omega)
         .rw[M i]at I;split at I
          .exact hzz _ _ I
          .simp at I
         .have:=hF (l+i) j (by rw[L]at I;omega) hj;rw[<-this]
          congr 1
          rw[oz];omega
         .rw[M i]at I;split at I
          .exact hv _ _ _ _ I hj
          .simp at I
       .simp at h
     .simp at h
    .simp at h
   .split at h
    .rename_i U C;simp only[az]at h;subst h;cases hx;have:=Z none 0 0 0 0 rfl U C (aE _) (aE _) (aE _);exact⟨_,this,.nilS⟩
    .simp at h
   .simp at h
  .simp at h
 .simp at h
theorem cn.splice{cs Z:List AV}{vs I:List Value}(h:cn G cs vs)(z:cn G Z I)(off:Nat):cn G (Ab.splice cs off Z) (vs.take off++I++vs.drop (off+I.length)):=by
 unfold Ab.splice;rw[z.1];exact((h.take off).append z).append (h.drop _)
theorem GI(off:Nat):∀(I:List Value) (k:Nat) (cells:Array Value),off+k+I.length<=cells.size ->
 ((I.zipIdx k).foldl (fun g (c,j)=>g.setIfInBounds (off+j) c) cells).toList=cells.toList.take (off+k)++I++cells.toList.drop (off+k+I.length)
 |[],k,cells,_=>by simp
 |v::I,k,cells,h=>by
  simp only[dg]at h;rw[CC,List.foldl_cons,GI off I (k+1) _ cC];simp only[GH,dg];have hp:off+k<cells.toList.length:=cC;have i:(cells.toList.set (off+k) v).take (off+(k+1))=cells.toList.take (off+k)++[v]:=by
   rw[<-jS,oA,List.take_set_of_le (aE _),List.getElem?_set_self hp];rfl
  rw[i,List.drop_set_of_lt ac,show off+(k+1)+I.length=off+k+(I.length+1) by omega];simp
theorem zr{O:Nat->Option (Nat×Nat)}:∀{ps:List (Nat×AV)}{pv:List (Nat×Value)}{cs out:List AV}{vs:List Value},ps.length=pv.length ->
 (∀(i:Nat) p q,ps[i]?=some p->pv[i]?=some q->p.1=q.1/\VR G p.2 q.2)->cn G cs vs->pH O cs ps=some out ->
 ∃J,Instr.fill O vs.toArray pv=some J.toArray/\cn G out J
 |[],[],cs,out,vs,_,_,hv,h=>by
  simp only[pH,az]at h;subst h;exact⟨vs,rfl,hv⟩
 |[],q::pv,_,_,_,hl,_,_,_=>by simp at hl
 |p::ps,[],_,_,_,hl,_,_,_=>by simp at hl
 |(i,c)::ps,(i',v)::pv,cs,out,vs,hl,hp,hv,h=>by
  obtain⟨rfl,Y⟩:=hp 0 (i,c) (i',v) rfl rfl;simp only[]at Y;simp only[pH]at h;split at h
  .simp at h
  .rename_i m Z M;split at h
   .simp at h
   .rename_i L;have U:=Y.cells;have C:v.cells.size=c.cells.length:=by rw[U.1];simp
    have V:v.cells.size=Z/\m+v.cells.size<=vs.length:=by
     rw[C,<-hv.1];constructor
     .apply CD;intro z;exact L (.inl z)
     .apply CD;intro z;exact L (.inr ac)
    obtain⟨J,g,h2⟩:=zr (ps:=ps) (pv:=pv) (cs:=Ab.splice cs m c.cells) (out:=out) (vs:=vs.take m++v.cells.toList++vs.drop (m+v.cells.toList.length))
     (by simpa using hl) (fun j p q I o=>hp (j+1) p q zj zk) (hv.splice U m) h
    refine⟨J,?_,h2⟩;simp only[Instr.fill,M];rw[af cC];rw[<-g]
    congr 1
    apply ou;have K:=GI m v.cells.toList 0 vs.toArray cC;simp only[qT]at K;rw[List.toList_toArray,<-K];rw[<-Array.foldl_toList,Array.toList_zipIdx]
theorem zt{E:aw}{a:Act}:∀{ps:List (Nat×Operand)}{out:List (Nat×AV)},(∀p∈ps,∀c,zfl E p.2=some c->VR G c (a.eval p.2))->zhF E ps=some out ->
 out.length=(ps.map fun x=>(x.1,a.eval x.2)).length/\∀(i:Nat) p q,out[i]?=some p->(ps.map fun x=>(x.1,a.eval x.2))[i]?=some q->p.1=q.1/\VR G p.2 q.2
 |[],out,_,h=>by
  simp only[zhF,az]at h;subst h;exact⟨rfl,au⟩
 |(i,x)::ps,out,hE,h=>by
  simp only[zhF]at h;split at h
  .rename_i v vs U C;simp only[az]at h;subst h;obtain⟨Z,g⟩:=zt (ps:=ps) (out:=vs) (fun p hp=>hE p (by simp[hp])) C;refine⟨uJ,fun j p q Y L=>?_⟩;cases j with
   |zero=>
    simp at Y L;subst Y L;exact⟨rfl,hE (i,x) au v U⟩
   |succ j=>exact g j p q (by simpa using Y) (by simpa using L)
  .simp at h
theorem PI{t:TypeId}{ps:List (Nat×AV)}{pv:List (Nat×Value)}{c:AV}(hl:ps.length=pv.length)(hp:∀(i:Nat) p q,ps[i]?=some p->pv[i]?=some q->p.1=q.1/\VR G p.2 q.2)(h:zgB P t ps=some c):
 ∃v,(Instr.build t pv.toArray).run P w=.ok v w/\VR G c v:=by
 unfold zgB at h;split at h
 .rename_i z M I hd;split at h
  .rename_i K V;split at h
   .rename_i L C;simp only[az]at h;subst h;obtain⟨it,zv,zc,Z,Y,j,rfl⟩:=Ct I;have g:=(uO (G:=G) j).cells;obtain⟨J,U,O⟩:=zr hl hp g C;refine⟨.agg J.toArray,run_build w t _ _ ?_,.agg O.1 O.2⟩;simp only[Program.built,Z,hd,Y];unfold Gm at V;rw[V];simp only[uT]at U;simpa using U
   .simp at h
  .simp at h
 .rename_i z n e I hd;split at h
  .rename_i s hs;split at h
   .rename_i L C;simp only[az]at h;subst h;obtain⟨it,zv,zc,Z,Y,j,rfl⟩:=Ct I;have g:=(uO (G:=G) j).cells;obtain⟨ie,m,o⟩:=Gy hs;obtain⟨J,U,O⟩:=zr hl hp g C;refine⟨.agg J.toArray,run_build w t _ _ ?_,.agg O.1 O.2⟩;simp only[Program.built,Z,hd,Y,m,o];simp only[uT]at U;simpa using U
   .simp at h
  .simp at h
 .simp at h
theorem rep_get(z:List AV):∀(n j:Nat),j<n*z.length->(nY z n)[j]?=z[j%z.length]?
 |0,j,h=>by simp at h
 |n+1,j,h=>by
  simp only[nY];by_cases Y:j<z.length
  .rw[je Y,Nat.mod_eq_of_lt Y]
  .have i:j<n*z.length+z.length:=by simpa [wM]using h
   rw[l0 ac,rep_get z n (j-z.length) ac]
   congr 1
   exact(Nat.mod_eq_sub_mod ac).symm
theorem zu(z:List AV):∀n,(nY z n).length=n*z.length
 |0=>by simp[nY]
 |n+1=>by simp[nY,zu z n,oz];omega
theorem GJ{z:List AV}{Y:Array Value}(V:cn G z Y.toList)(n:Nat):cn G (nY z n) (((Array.range (n*z.length)).map (Y[·% Y.size]!))).toList:=by
 have L:=V.1;refine⟨by simp[zu],fun j c v hc U=>?_⟩;have Z:j<n*z.length:=by
  have:=(eG.1 hc).1;rw[zu]at this;exact this
 rw[rep_get z n j Z]at hc;simp only[CE,Array.toList_range,fT,zm Z,jh,az]at U;have I:0<z.length:=by
  rcases Nat.eq_zero_or_pos z.length with e|e
  .rw[e]at Z;omega
  .exact e
 have O:j%z.length<z.length:=Nat.mod_lt _ I;have M:Y.size=z.length:=l8;refine V.2 (j%z.length) c v hc ?_;rw[M]at U;rw[<-U];simp[M,O]
theorem GK{O:Nat->Option (Nat×Nat)}:∀{J:List (Nat×AV)}{g M:List AV},pH O g J=some M->M.length=g.length
 |[],g,M,h=>by simp only[pH,az]at h;rw[h]
 |(i,c)::J,g,M,h=>by
  simp only[pH]at h;split at h
  .simp at h
  .split at h
   .simp at h
   .rename_i hc;rw[GK h,Pi];apply CD;intro z;exact hc (.inr ac)
theorem GL{t:TypeId}{len:Nat}{ps:List (Nat×AV)}{pv:List (Nat×Value)}{c:AV}(j:ps.length=pv.length)(hp:∀(i:Nat) p q,ps[i]?=some p->pv[i]?=some q->p.1=q.1/\VR G p.2 q.2)
 (o:zgW P H t len ps=some (c,H')):oV P G w (Instr.buildSlice t len pv.toArray) id c H H':=by
 unfold zgW at o;split at o
 .rename_i e hd;split at o
  .rename_i s z K hz;split at o
   .rename_i hc;obtain⟨h24,Y⟩:=hc;split at o
    .rename_i U L;simp only[cH]at o;obtain⟨rfl,rfl⟩:=o;obtain⟨zv,g,V⟩:=wK hz;have O:=GJ (V G) len;obtain⟨J,Z,I⟩:=zr j hp O L;have m:J.length=len*s:=by
      rw[<-I.1,GK L,zu,Y]
     refine⟨.cells U 0 true,.cells (J++[]).toArray e,J.length+0,.slice (some ⟨w.heap.size,0,none⟩) len len,rfl,?_,.cells U J [] e I,fun G' hG=>.sl hG (aE _) ac⟩;rw[bi];show _=Result.ok (Value.slice (some ⟨w.heap.size,0,none⟩) len len) _
     .have C:¬(len*s > 2^24):=by omega
      rw[Y]at Z;by_cases M:len*s=0
      .rw[M]at Z;simp at Z;simp[Instr.buildSlice,zgJ hd,zhK K,M,newRow];rw[show Array.map (fun _:Nat=>(default:Value)) (Array.range 0)=#[]from by simp,Z];rfl
      .simp only[uT]at Z;simp[Instr.buildSlice,zgJ hd,zhK K,C,M,g,Z,newRow]
    .simp at o
   .simp at o
  .simp at o
 .simp at o
theorem GM{t:TypeId}{l c r:AV}{m cv:Value}(hl:VR G l m)(hc:VR G c cv)(V:zhT P H t l c=some (r,H')):
 oV P G w (Instr.makeSlice t m cv) id r H H':=by
 unfold zhT at V;split at V
 .rename_i e k1 l k2 c hd;cases hl;cases hc;split at V
  .rename_i s b z j hb hz;split at V
   .rename_i L;obtain⟨K,h2,h3,h4⟩:=L;simp only[cH]at V;obtain⟨rfl,rfl⟩:=V;obtain⟨Y,J,I⟩:=wK hz;obtain⟨i,hi,Z⟩:∃i,P.info? e=some i/\i.bytes=b:=by simpa [zgo,oq]using hb
    have V:zg1=70368744177664:=rfl;rw[V]at h2 h3;have O:=GJ (I G) l;have M:((Array.range (c*s)).map (Y.cells[·% Y.cells.size]!)).toList=((Array.range (l*s)).map (Y.cells[·% Y.cells.size]!)).toList++(((Array.range (c*s)).map (Y.cells[·% Y.cells.size]!)).toList.drop (l*s)):=by
     have C:l*s<=c*s:=wN _ K
     conv=>lhs;rw[<-CF (l*s) ((Array.range (c*s)).map (Y.cells[·% Y.cells.size]!)).toList]
     congr 1
     simp only[CE,Array.toList_range,<-zn];rw[List.take_range,uU C]
    rw[h4]at O;have U:Made G (.cells (nY z l) 0 true) _ _:=.cells _ _ (((Array.range (c*s)).map (Y.cells[·% Y.cells.size]!)).toList.drop (l*s)) e O;rw[<-M,uT]at U;refine⟨_,_,_,.slice (some ⟨w.heap.size,0,none⟩) l c,rfl,?_,U,fun G' hG=>.sl hG K ?_⟩
    .show _=Result.ok (Value.slice (some ⟨w.heap.size,0,none⟩) l c) _;have zgc:IntKind.i64.wrap (l:Int)=l:=tx _ ac;have w2:IntKind.i64.wrap (c:Int)=c:=tx _ ac;have o:¬((b:Int)*c > 2^48):=by
      have:(b:Int)*c=((c*b:Nat):Int):=by rw[Nat.mul_comm];simp
      rw[this];omega
     have h5:¬((281474976710656:Int)<(b:Int)*c):=zk;have h6:¬(c<l):=ac;have p1:¬((c:Int)<0):=ac;have p2:¬((l:Int)<0):=ac;simp only[Instr.makeSlice,eI,zgJ hd,eN,asInt,asIntOf];by_cases h0:c*s=0
     .simp[uQ hi,Z,zgc,w2,h5,h6,p1,p2,zhK j,h0,newRow];rw[show ∀f g:Nat->Value,Array.map f (Array.range 0)=Array.map g (Array.range 0)from fun f g=>au]
     .simp[uQ hi,Z,zgc,w2,h5,h6,p1,p2,zhK j,h0,J,newRow]
    .have C:l*s<=c*s:=wN _ K;simp;omega
   .simp at V
  .simp at V
 .simp at V
end
section
variable {P:Program} {B:Bs} {G:Gh} {H H':Hp} {w:World}
theorem cn.oneCell{cs:List AV}{vs:List Value}(h:cn G cs vs)(j:cs.all AV.one=true):∀v∈vs,v.oneCell'=true:=fun v U=>by
 obtain⟨i,I,rfl⟩:=tp U;have Y:i<cs.length:=by rw[h.1];exact I
 rw[(h.2 i _ _ (aR Y) (aR I)).oneCell];exact gF.1 j _ (dI Y)
theorem PJ{xs:List (List AV)}{s:Nat}(K:∀(i:Nat) (J:List AV),xs[i]?=some J->J.length=s):xs.flatten.length=xs.length*s /\
 ∀(i j:Nat) (c:AV),j<s->xs.flatten[i*s+j]?=some c->∃J,xs[i]?=some J/\J[j]?=some c:=by
 induction xs with
 |nil=>exact⟨au,au⟩
 |cons J xs ih=>
  have hr:=K 0 J rfl;obtain⟨Z,g⟩:=ih (fun i r I=>K (i+1) r zj);refine⟨by simp[Z,hr,wM];omega,fun i j c Y hc=>?_⟩;rw[qU]at hc;cases i with
  |zero=>
   rw[wO,b9,je ac]at hc;exact⟨J,rfl,hc⟩
  |succ i=>
   rw[l0 (by rw[hr,wM];omega)]at hc;rw[hr,show(i+1)*s+j-s=i*s+j by rw[wM];omega]at hc;obtain⟨r,m,V⟩:=g i j c Y hc;exact⟨r,uS,V⟩
theorem PK{k n s:Nat}(h:k<n*s):k/s<n/\k%s<s/\k=k/s*s+k%s:=by
 have K:0<s:=by
  rcases Nat.eq_zero_or_pos s with e|e
  .subst e;omega
  .exact e
 refine⟨(Nat.div_lt_iff_lt_mul K).2 h,Nat.mod_lt _ K,?_⟩;have:=Nat.div_add_mod k s;rw[Nat.mul_comm]at this;omega
theorem PL(h:R B H w G){t:TypeId}{x c:AV}{M:Value}{lo I:Option AV}{m Y:Option Value}(C:VR G x M)(L:tz G lo m)(U:tz G I Y)(K:nX P H t x lo I=some c):
 ∃v,(Instr.sliceAt t M m Y none).run P w=.ok v w/\VR G c v:=by
 unfold nX at K;split at K
 .rename_i r V;split at K
  .rename_i n e cs O J hd j;split at K
   .rename_i z l i g bl bh;split at K
    .rename_i hc;obtain⟨h1,h2,h3⟩:=hc;cases C with
     |ptr hr=>
      rename_i b o x;have hf:=h.fits _ _ _ _ _ _ _ hr j;have hb:=CI (P:=P) (w:=w) (cap:=n) L U bl bh h1 h2 (aE _) false;have Z:(Instr.sliceAt t (.pointer (some ⟨b,o+V,none⟩)) m Y none).run P w=.ok (.slice (some (if n=l then ⟨b,o+V,none⟩else ⟨b,o+V+l*z,none⟩)) (i-l) (n-l)) w:=by
       simp only[Instr.sliceAt,eI,zgJ hd,eN];simp[Instr.sureAddr,hb,zhK g,nA]
      split at K
      .rename_i e1;simp only[az]at K;subst K;subst e1;rw[qS]at Z;exact⟨_,Z,.lst0 _ _⟩
      .rename_i hne;simp only[az]at K;subst K;rw[af ac]at Z;refine⟨_,Z,?_⟩;rw[jS];refine .sl hr ac ?_;have e3:(n-l)*z+l*z=n*z:=Cy;omega
    .simp at K
   .simp at K
  .simp at K
 .exact PH C L U K
theorem CJ(h:R B H w G){s n:Nat}{x:AV}{xv:Value}{l:List AV}(hx:VR G x xv)(K:zhd H s x=some (n,l)):
 ∃C,cn G l C/\C.length=n*s/\(∀Y,(Builtin.lenOf xv).run P Y=.ok n Y)/\(∀Y,(∀a,Y.cell? a=w.cell? a)->(Builtin.firstCells s n xv).run P Y=.ok C.toArray Y):=by
 unfold zhd at K;split at K
 .rename_i r off V z;cases hx with
  |sl hr hl hc=>
   rename_i b o x U;split at K
   .rename_i cs imm tip hg;simp only[]at K;split at K
    .rename_i hlen;simp only[cH]at K;obtain⟨rfl,rfl⟩:=K;obtain⟨vs,h1,h2⟩:=(((h.cells _ _ _ _ _ _ _ hr hg).drop off).take (V*s)).list;have Z:vs.length=V*s:=by rw[<-h1.1];exact hlen
     refine⟨vs,h1,Z,fun Y=>zl,fun Y m=>?_⟩;exact CG Y s V _ V U vs Z (fun j v hj=>by rw[m,nA];exact h2 j v hj)
    .simp at K
   .simp at K
 .rename_i O;split at K
  .rename_i hall;simp only[cH]at K;obtain⟨rfl,rfl⟩:=K;have L:∀(i:Nat) (J:List AV),O[i]?=some J->J.length=s:=fun i J hi=>by
    have:=gF.1 hall J (lJ hi);simpa using this
   obtain⟨hfl,hfg⟩:=PJ L;cases hx with
   |lst0 a U=>
    refine⟨[],oU G,au,fun Y=>zl,fun Y m=>?_⟩;cases a with
    |none=>simp[Builtin.firstCells]
    |some a=>
     simp[Builtin.firstCells];rfl
   |lst vs hz hF g hcap=>
    rename_i b o U z;have hzs:O.length=0\/z=s:=by
     cases O with
     |nil=>exact .inl rfl
     |cons J O=>exact .inr (by rw[<-hz 0 J rfl,L 0 J rfl])
    have hh:jg G w b o O.flatten:=fun k c hk=>by
     have I:k<O.length*s:=by rw[<-hfl];exact(eG.1 hk).1
     obtain⟨d1,d2,d3⟩:=PK I;have hz':z=s:=by
      rcases hzs with e|e
      .rw[e]at I;omega
      .exact e
     subst hz';obtain⟨J,g1,g2⟩:=hfg (k/z) (k%z) c d2 (by rw[<-d3];exact hk);refine⟨vs (k/z) (k%z),?_,g _ _ J c g1 g2⟩;have:=h.frz _ _ _ (hF (k/z) (k%z) d1 d2);rw[show o+k=o+k/z*z+k%z by omega];exact this
    obtain⟨C,h1,h2⟩:=hh.list;have Z:C.length=O.length*s:=by rw[<-h1.1];exact hfl
    refine⟨C,h1,Z,fun Y=>zl,fun Y m=>?_⟩;exact CG Y s O.length _ O.length U C Z (fun j v hj=>by rw[m,nA];exact h2 j v hj)
  .simp at K
 .simp only[cH]at K;obtain⟨rfl,rfl⟩:=K;cases hx;exact⟨[],oU G,au,fun Y=>zl,fun Y m=>by simp[Builtin.firstCells]⟩
 .rename_i b;split at K
  .rename_i e;subst e;simp only[cH]at K;obtain⟨rfl,rfl⟩:=K;cases hx with
   |str M _ hb=>
    subst hb;have hsz:M.data.toList.length=M.size:=by show M.data.toList.length=M.data.size;simp
    refine⟨M.data.toList.map fun x=>.int .u8 x.toNat,⟨au,fun i c v hc g=>?_⟩,au,fun Y=>by simp[Builtin.lenOf,hsz],fun Y m=>?_⟩
    .rw[fT]at hc g;cases hi:M.data.toList[i]? with
     |none=>rw[hi]at hc;simp at hc
     |some u=>
      rw[hi]at hc g;simp only[jh,az]at hc g;subst hc g;exact .int _ _
    .simp only[Builtin.firstCells,ky]
     congr 1
     apply ou;have:(M.extract 0 M.data.toList.length).data.toList=M.data.toList:=by
      rw[Lib.extract_data,fo,wP,zo]
     simp only[CE,this]
  .simp at K
 .simp at K
theorem GN(z:Array Value)(n:Nat):(Builtin.zeroCells z n).toList.length=n*z.size:=by simp[Builtin.zeroCells]
theorem GO{t u e ty:TypeId}{K:TypeDesc}(hd:P.underlying t=some (.slice e))(O:P.underlying u=some K)(L:∀k,K≠.int k){s:Nat}(Z:zfF P e=some s)
 {a:Option Addr}{len cap n:Nat} (C:len+n<=cap) {M:Value}{I:List Value} (Y:(Builtin.lenOf M).run P w=.ok n w) (i:(Builtin.firstCells s n M).run P w=.ok I.toArray w) :
 (Builtin.append_ #[t,u] ty #[.slice a len cap,M]).run P w=(match a with
   |some a=>((storeCells (a.add (len*s)) I).run P w).andThen fun _ V=>.ok (.slice (some a) (len+n) cap) V
   |none=>.ok (.slice none (len+n) cap) w):=by
 have U:(match K with|.int _=>true |_=>false)=false:=by cases K<;>first|rfl|exact(L _ rfl).elim
 simp only[Builtin.append_];simp[zgJ hd,zgJ O,zhK Z,Y];rw[aq C,i];cases a<;>simp
theorem GP{t u e ty:TypeId}{Z:TypeDesc}(hd:P.underlying t=some (.slice e))(z:P.underlying u=some Z)(L:∀k,Z≠.int k){s:Nat}(o:zfF P e=some s){b:Nat}(m:zgo P e=some b)
 {J:Value} (j:∀w,(zeroValue e).run P w=.ok J w)
 {a:Option Addr}{len cap n:Nat} (C:cap<len+n) (Y:(len+n)*b<=zg1) (K:len+n<=zg1) {M:Value}{ov I:List Value} (g:(Builtin.lenOf M).run P w=.ok n w) (hf:(Builtin.firstCells s n M).run P w.drew=.ok I.toArray w.drew)
 (ho:(Builtin.firstCells s len (.slice a len cap)).run P w.drew=.ok ov.toArray w.drew) :
 (Builtin.append_ #[t,u] ty #[.slice a len cap,M]).run P w=.ok (.slice (some ⟨w.heap.size,0,none⟩) (len+n) (grownCap w (len+n) cap e))
   (w.drew.alloc (.cells (ov++I++(Builtin.zeroCells J.cells (grownCap w (len+n) cap e-(len+n))).toList).toArray e)):=by
 have hz':(match Z with|.int _=>true |_=>false)=false:=by cases Z<;>first|rfl|exact(L _ rfl).elim
 obtain⟨i,hi,O⟩:∃i,P.info? e=some i/\i.bytes=b:=by simpa [zgo,oq]using m
 have hm:zg1=70368744177664:=rfl;rw[hm]at Y K;have V:¬(281474976710656<Builtin.nextslicecap (len+n) cap*b):=by
  have:=growslice_fits C (bytes:=b) ac;omega
 have U:¬(9223372036854775807<((len:Int)+(n:Int))):=ac;have h1:¬(len+n<=cap):=ac;simp only[Builtin.append_];simp[zgJ hd,zgJ z,zhK o,g,h1,uQ hi,O,U,V,Question.forced,ho,hf,j,newRow,grownCap]
 congr 2
 apply ou;simp
theorem R.heap{w':World}(h:R B H w G)(e:w'.heap=w.heap):R B H w' G:=by
 have k:∀a,w'.cell? a=w.cell? a:=fun a=>by simp[World.cell?,e]
 have m:∀a,w'.frozen? a=w.frozen? a:=fun a=>by simp[World.frozen?,e]
 exact{
  base:=by rw[e];exact h.base
  dom:=h.dom
  lt:=fun r b o x hr=>by rw[e];exact h.lt r b o x hr
  cells:=fun r b o x g imm I hr hc j c Y=>by rw[k];exact h.cells r b o x g imm I hr hc j c Y
  imm:=h.imm
  ext:=h.ext
  fits:=h.fits
  room:=fun r b o x g imm I hr hc j Y O=>by rw[k,m];exact h.room r b o x g imm I hr hc j Y O
  apart:=h.apart
  map:=fun r b o x V hr hc=>by rw[e];exact h.map r b o x V hr hc
  mapApart:=h.mapApart
  frz:=fun b o v i=>by rw[k];exact h.frz b o v i
  val:=h.val
  sym:=h.sym}
theorem Step.of_drew{L:Nat}{w':World}{g:Gh}(h:Step B L G w.drew H' w' g):Step B L G w H' w' g:=
 ⟨h.r,h.ext,⟨h.fr.os,h.fr.tape,h.fr.output,h.fr.size,h.fr.block⟩,h.new,h.low,h.mono,h.icy⟩
theorem jg.first{b o off s len:Nat}{cs:List AV}(m:jg G w b o cs)(L:off+len*s=cs.length){cap:Nat}:
 ∃ov,cn G (cs.drop off) ov/\ov.length=len*s/\∀Y,(∀a,Y.cell? a=w.cell? a)->(Builtin.firstCells s len (.slice (some ⟨b,o+off,none⟩) len cap)).run P Y=.ok ov.toArray Y:=by
 obtain⟨vs,Z,g⟩:=(m.drop off).list;have i:vs.length=len*s:=by rw[<-Z.1,ku];omega
 exact⟨vs,Z,i,fun Y M=>CG Y s len _ len cap vs i (fun j v V=>by rw[M,nA];exact g j v V)⟩
theorem GQ{u:TypeId}(h:zhz P u=true):∃d,P.underlying u=some d/\∀k,d≠.int k:=by
 unfold zhz at h;split at h
 .rename_i e hd;exact⟨_,hd,au⟩
 .rename_i hd;exact⟨_,hd,au⟩
 .simp at h
theorem PM(h:R B H w G)(keep:Bool)(s:Nat)(sv:AV):Step B H.next G w (iV keep H s sv) w G:=by
 unfold iV;split
 .rename_i r off len z;split
  .rename_i cs imm hg;split
   .rename_i hc;simp only[co]at hc;have h1:off+len*s<cs.length:=by simpa [jQ]using hc.1.2
    have h2:=wQ hc.2;generalize off+len*s=m at h1 h2;have hgs:∀O b',(H.set r (.cells (cs.take m) imm true)).get O=some b'->(O=r/\b'=.cells (cs.take m) imm true)\/(O≠r/\H.get O=some b'):=fun O b' he=>by
     rw[aQ]at he;split at he
     .rename_i e;simp only[az]at he;exact .inl ⟨e,he.symm⟩
     .rename_i e;exact .inr ⟨e,he⟩
    have Z:∀O i U M,(H.set r (.cells (cs.take m) imm true)).get O=some (.cells i U M)->∃K,H.get O=some (.cells K U M)/\(∀(j:Nat) c,i[j]?=some c->K[j]?=some c)/\i.length<=K.length/\(∀x,zgT x i M=zgT x K M):=fun O i U M he=>by
     rcases hgs O _ he with⟨rfl,e⟩|⟨_,e⟩
     .simp only[HB.cells.injEq]at e;obtain⟨rfl,rfl,rfl⟩:=e;refine⟨cs,hg,fun j c L=>?_,rY,fun x=>rfl⟩;rw[pK]at L;split at L
      .exact L
      .simp at L
     .exact⟨i,e,fun _ _ h=>h,aE _,fun _=>rfl⟩
    refine⟨?_,uM _,wG _ _,tq _ _,fun _ _ h=>.inl h,aE _,fun _ _ _ h=>.inl h⟩;exact{
     base:=h.base
     dom:=h.dom
     lt:=h.lt
     cells:=fun O b o x i U M hr g j c L=>by
      obtain⟨K,V,e2,_⟩:=Z O i U M g;exact h.cells O b o x K U M hr V j c (e2 j c L)
     imm:=fun O b o x i U M hr g j L hjl=>by
      obtain⟨K,V,_,e3,_⟩:=Z O i U M g;exact h.imm O b o x K U M hr V j L ac
     ext:=fun O b o x i U M hr g=>by
      obtain⟨K,V,_,e3,e4⟩:=Z O i U M g;have:=h.ext O b o x K U M hr V;rw[e4];omega
     fits:=fun O b o x i U M hr g=>by
      obtain⟨K,V,_,e3,e4⟩:=Z O i U M g;have:=h.fits O b o x K U M hr V;omega
     room:=fun O b o x i U M hr g j L hjl=>by
      obtain⟨K,V,_,_,e4⟩:=Z O i U M g;exact h.room O b o x K U M hr V j L (by rw[<-e4];exact hjl)
     apart:=fun r1 b1 o1 x1 cs1 J I r2 b2 o2 x2 cs2 C tip2 hr1 hc1 hr2 Y hne j j' q1 q2 q3 q4=>by
      obtain⟨cs01,V,_,_,e14⟩:=Z r1 cs1 J I hc1;obtain⟨cs02,e2,_,_,e24⟩:=Z r2 cs2 C tip2 Y;exact h.apart r1 b1 o1 x1 cs01 J I r2 b2 o2 x2 cs02 C tip2 hr1 V hr2 e2 hne j j' q1 (by rw[<-e14];exact q2) q3 (by rw[<-e24];exact q4)
     map:=fun O b o x es hr g=>by
      rcases hgs O _ g with⟨_,e⟩|⟨_,e⟩
      .simp at e
      .exact h.map O b o x es hr e
     mapApart:=fun r1 b1 o1 x1 es r2 b2 o2 x2 hr1 hc1 hr2 Y hne=>by
      rcases hgs r1 _ hc1 with⟨_,e⟩|⟨_,e⟩
      .simp at e
      .refine h.mapApart r1 b1 o1 x1 es r2 b2 o2 x2 hr1 e hr2 ?_ hne;rw[aQ]at Y;split at Y
       .rename_i e2;rw[e2,hg];rfl
       .exact Y
     frz:=h.frz
     val:=h.val
     sym:=h.sym}
   .exact lH h
  .exact lH h
 .exact lH h
theorem PN(h:R B H w G){keep:Bool}{t u ty:TypeId}{sv x c:AV}{U xv:Value}(i:VR G sv U)(hx:VR G x xv)(Z:zgH P keep H t u sv x=some (c,H')):
 ∃v w' G',(Builtin.append_ #[t,u] ty #[U,xv]).run P w=.ok v w'/\VR G' c v/\Step B H.next G w H' w' G':=by
 unfold zgH at Z;split at Z
 .rename_i e hd;split at Z
  .rename_i s b z hs hb hz;split at Z
   .rename_i zia hst L;obtain⟨du,hu,hni⟩:=GQ hst;obtain⟨nv,h1,h2,h3,h4⟩:=CJ (P:=P) h hx L;have hnv:nv=[]:=by rw[wO]at h2;exact zp.1 h2
    subst hnv;have key:∀a len cap,U=.slice a len cap->len<=cap->(Builtin.append_ #[t,u] ty #[U,xv]).run P w=.ok U w:=fun a len cap e hlc=>by
     subst e;rw[GO hd hu hni hs (n:=0) ac (h3 w) (h4 w (fun _=>rfl))];cases a<;>simp[storeCells]
    split at Z
    .simp only[cH]at Z;obtain⟨rfl,rfl⟩:=Z;refine⟨U,w,G,?_,i,lH h⟩;cases i with
     |sl hr hl hc=>exact key _ _ _ rfl hl
    .simp only[cH]at Z;obtain⟨rfl,rfl⟩:=Z;refine⟨U,w,G,?_,i,lH h⟩;cases i with
     |lst vs hz hF hv hc=>exact key _ _ _ rfl hc
     |lst0 a cap=>exact key _ _ _ rfl (dZ _)
    .simp only[cH]at Z;obtain⟨rfl,rfl⟩:=Z;refine⟨U,w,G,?_,i,lH h⟩;cases i with
     |nilS=>exact key _ _ _ rfl (aE _)
    .simp at Z
   .rename_i n Y hnz hst L;obtain⟨du,hu,hni⟩:=GQ hst;obtain⟨nv,h1,h2,h3,h4⟩:=CJ (P:=P) h hx L;have hn0:n≠0:=fun e=>by subst e;exact hnz rfl
    have hnl:Y.length=n*s:=by rw[h1.1,h2]
    obtain⟨zv,hzr,hzv⟩:=wK hz;split at Z
    .rename_i hcond;obtain⟨hone,hzl⟩:=hcond;have hzs:zv.cells.size=s:=by have:=(hzv G).1;rw[hzl]at this;simpa using this.symm
     have ht:=PM h keep s sv
     suffices hgoal:∃v w' G',(Builtin.append_ #[t,u] ty #[U,xv]).run P w=.ok v w'/\VR G' c v/\Step B (iV keep H s sv).next G w H' w' G' by
      obtain⟨v,w',G',g1,g2,g3⟩:=hgoal;exact⟨v,w',G',g1,g2,ht.trans g3⟩
     replace h:=ht.r;clear ht L;generalize iV keep H s sv=H at Z h⊢;unfold jM at Z;split at Z
     ·-- onto nil
      split at Z
      .rename_i hroom;simp only[cH]at Z;obtain⟨rfl,rfl⟩:=Z;cases i;have o:=GP (P:=P) (w:=w) (ty:=ty) hd hu hni hs hb hzr (a:=none) (len:=0) (cap:=0) (n:=n) (ov:=[]) ac (by simpa using hroom.1) (by simpa using hroom.2) (h3 w) (h4 w.drew (fun _=>rfl)) (by simp[Builtin.firstCells]);have C:=zf (h.heap (w':=w.drew) rfl) h1 (Builtin.zeroCells zv.cells (grownCap w (0+n) 0 e-(0+n))).toList e;have hge:=grownCap_ge w (0+n) 0 e;refine⟨_,_,_,o,?_,C.of_drew⟩;rw[b9]at hge⊢;refine .sl (zh1 _ _ _) hge ?_;rw[GN,hzs,h2];have:grownCap w n 0 e*s=n*s+(grownCap w n 0 e-n)*s:=Cy;simp;omega
      .simp at Z
     ·-- onto a row of its own
      rename_i r off len zz;split at Z
      .rename_i cs imm hg;split at Z
       .rename_i hcond2;obtain⟨hr1,hr2,hend,rfl,himm⟩:=hcond2;cases i with
        |sl hr hlc hcx=>
         rename_i J O x0 cap;have hHolds:=h.cells _ _ _ _ _ _ _ hr hg;have hex:=h.ext _ _ _ _ _ _ _ hr hg;simp only[zgT]at hex;have hoff:off<=cs.length:=ac;obtain⟨ov,o1,o2,o3⟩:=hHolds.first (P:=P) (off:=off) (s:=zz) (len:=len) hend (cap:=cap)
         have M:r≠H.next:=fun e=>by have:=h.dom _ _ hr;omega
         by_cases K:len+n<=cap
         ·-- in its room
          have o:=GO (P:=P) (w:=w) (ty:=ty) hd hu hni hs (a:=some ⟨J,O+off,none⟩) K (h3 w) (h4 w (fun _=>rfl));simp only[]at o;rw[nA,jS,hend]at o;have hcap:(len+n)*zz<=cap*zz:=wN _ K;rw[oz]at hcap;cases keep with
          |false=>
           simp only[dm,cS,cH]at Z;obtain⟨rfl,rfl⟩:=Z;obtain⟨w',hw,V⟩:=Cs P hr cs.length Y nv cs 0 H w h hg h1 (h1.oneCell hone) ac ac wB au;rw[hw]at o;simp only[eN]at o;rw[qT,Gu]at V;have I:=Gv V.r (r:=r) (cs:=cs++Y) (imm:=imm) hr iA (off:=off) cC;refine⟨_,w',_,o,?_,(V.trans I).congr rfl fun k _=>?_⟩
           .refine .sl (zh1 _ _ _) K ?_;omega
           .rw[zfk,zfk,zhm,zhm,aQ,CH hoff];simp only[zh5,zfI];by_cases e1:k=H.next
            .simp only[e1,cV]
            .by_cases e2:k=r
             .simp only[e2,cV]
             .simp only[e1,e2,cS]
          |true=>
           simp only[cV,cH]at Z;obtain⟨rfl,rfl⟩:=Z;have m:=wJ h hr hg (n:=cs.length) himm (aE _) true (fun _=>rfl);obtain⟨w',hw,V⟩:=Cs P (G:=G.ice w J O cs.length) (r:=r) (imm:=cs.length) (tip:=true) hr cs.length Y nv cs 0 _ w m.r iA (h1.mono m.ext) (h1.oneCell hone) ac ac wB au;rw[hw]at o;simp only[eN]at o;rw[qT,Gu]at V;have hgr:((H.set r (.cells cs cs.length true)).set r (.cells (cs++Y) cs.length true)).get r=some (.cells (cs++Y) cs.length true):=iA;have I:=Gv V.r (r:=r) (cs:=cs++Y) (imm:=cs.length) hr hgr (off:=off) cC;have hmid:=(m.trans V).trans I;have hrr:((G.ice w J O cs.length).add H.next (J,O+off,x0-off)).β r=some (J,O,x0):=by
            simp only[Gh.add];rw[af M];exact hr
           have hnoMap:∀r1 b1 o1 x1 es,((G.ice w J O cs.length).add H.next (J,O+off,x0-off)).β r1=some (b1,o1,x1) ->
            ((((H.set r (.cells cs cs.length true)).set r (.cells (cs++Y) cs.length true)).kill r).alloc (.cells ((cs++Y).drop off) (cs.length-off) true)).get r1=some (.map es)->b1≠J:=fun r1 b1 o1 x1 es g1 g2=>by
            rw[zfk,zhm,aQ,aQ]at g2;simp only[zh5,zfI]at g2;by_cases hne:r1=H.next
            .simp[hne]at g2
            .by_cases hne2:r1=r
             .simp[hne2]at g2
             .simp only[hne,hne2,cS]at g2;have g1':G.β r1=some (b1,o1,x1):=by simp only[Gh.add]at g1;rw[af hne]at g1;exact g1
              exact h.mapApart r1 b1 o1 x1 es r J O x0 g1' g2 hr (by rw[hg];rfl) hne2
           have hHolds':jg ((G.ice w J O cs.length).add H.next (J,O+off,x0-off)) w' J O cs:=fun j c hj=>by
            have hjl:j<cs.length:=(eG.1 hj).1;have h5:=V.r.cells r J O x0 _ _ _ hr hgr j c (by rw[je hjl];exact hj);obtain⟨v,q1,q2⟩:=h5;exact⟨v,q1,q2.mono I.ext⟩
           have hFF:∀j,j<cs.length->∃v,((G.ice w J O cs.length).add H.next (J,O+off,x0-off)).F J (O+j)=some v:=fun j hj=>
            m.r.imm r J O x0 cs cs.length true hr iA j hj hj
           have hrev:=Pm hmid.r hrr (h.fits _ _ _ _ _ _ _ hr hg) hHolds' hFF hnoMap;refine⟨_,w',_,o,?_,(hmid.trans hrev).congr rfl fun k _=>?_⟩
           .refine .sl (zh1 _ _ _) K ?_;omega
           .rw[aQ,zfk,zfk,zhm,aQ,aQ,aQ,CH hoff];simp only[zh5,zfI];have:cs.length-off=len*zz:=ac;rw[this];by_cases e1:k=r
            .subst e1;simp only[M,cV,cS]
            .simp only[e1,cS]
         ·-- a Y row
          have hfit':cap<len+n:=ac;have o:=GP (P:=P) (w:=w) (ty:=ty) hd hu hni hs hb hzr (a:=some ⟨J,O+off,none⟩) hfit' hr1 hr2 (h3 w) (h4 w.drew (fun _=>rfl)) (o3 w.drew (fun _=>rfl));have hge:=grownCap_ge w (len+n) cap e;have hlen2:(ov++nv).length=(len+n)*zz:=by rw[fG,o2,h2,oz]
          have hcapx:grownCap w (len+n) cap e*zz=(ov++nv).length+(Builtin.zeroCells zv.cells (grownCap w (len+n) cap e-(len+n))).toList.length:=by
           rw[GN,hzs,hlen2,<-oz];congr 1;omega
          have C:=(zf (h.heap (w':=w.drew) rfl) (o1.append h1) (Builtin.zeroCells zv.cells (grownCap w (len+n) cap e-(len+n))).toList e).of_drew;have hnn:∀(X:HB) (k:Nat),k≠H.next->(H.alloc X).get k=H.get k:=fun X k hk=>by rw[zfk,af hk]
          have g:∀p,(G.add H.next p).β H.next=some p:=fun p=>zh1 _ _ _
          have hlenX:(cs.drop off++Y).length=(len+n)*zz:=by rw[fG,ku,hnl,oz];omega
          cases keep with
          |false=>
           simp only[dm,cS,cH]at Z;obtain⟨rfl,rfl⟩:=Z;have hk:=C.r.kill r;have hgx:((H.alloc (.cells (cs.drop off++Y) 0 true)).kill r).get H.next=some (.cells (cs.drop off++Y) 0 true):=by
            rw[zhm,af (Ne.symm M),zfk,aq rfl]
           have m:=wJ hk (g _) hgx (n:=imm-off) (dZ _) (by rw[hlenX,oz];omega) true (fun _=>rfl);have hst2:Step B H.next G w _ _ _:=⟨hk,C.ext,C.fr,C.new,C.low,C.mono,C.icy⟩
           refine⟨_,_,_,o,?_,(hst2.trans m).congr rfl fun k _=>?_⟩
           .exact .sl (g _) hge ac
           .rw[aQ,zfk,zhm,zhm,zfk];simp only[zh5];by_cases e1:k=H.next
            .simp only[e1,cV]
            .simp only[e1,cS]
          |true=>
           simp only[cV,cH]at Z;obtain⟨rfl,rfl⟩:=Z;have hgx:(H.alloc (.cells (cs.drop off++Y) 0 true)).get H.next=some (.cells (cs.drop off++Y) 0 true):=kV
           have m:=wJ C.r (g _) hgx (n:=len*zz) (dZ _) (by rw[hlenX,oz];omega) true (fun _=>rfl);have hgr:((H.alloc (.cells (cs.drop off++Y) 0 true)).set H.next (.cells (cs.drop off++Y) (len*zz) true)).get r=some (.cells cs imm true):=by
            rw[aQ,af M,hnn _ _ M];exact hg
           have hice2:=wJ m.r (r:=r) (by
            show(G.add H.next _).β r=_;simp only[Gh.add];rw[af M];exact hr) hgr (n:=cs.length) himm (aE _) false au
           refine⟨_,_,_,o,?_,((C.trans m).trans hice2).congr rfl fun k _=>?_⟩
           .exact .sl (g _) hge ac
           .rw[aQ,aQ,zfk,zfk,aQ];simp only[zfI];by_cases e1:k=H.next
            .have e3:¬H.next=r:=fun e=>M e.symm
             simp only[e1,e3,cV,cS]
            .simp only[e1,cS]
       .simp at Z
      .simp at Z
     .simp at Z
    .simp at Z
   .simp at Z
  .simp at Z
 .simp at Z
end
section
variable {P:Program} {B:Bs} {G:Gh} {H H':Hp} {w:World}
theorem PO(K:ByteArray):K.data.toList.length=K.size:=by show K.data.toList.length=K.data.size;simp
theorem GR(h:R B H w G){m:AV}{mv:Value}{V:List (AV×AV)}(Z:VR G m mv)(g:te H m=some V):
 (mv=.map none/\V=[])\/∃r b o x ms j,m=.map r/\mv=.map (some b)/\G.β r=some (b,o,x)/\H.get r=some (.map V)/\w.heap[b]?=some (.map ms j)/\qO G V ms.toList:=by
 unfold te at g;split at g
 .simp only[az]at g;subst g;cases Z;exact .inl ⟨rfl,rfl⟩
 .rename_i r;split at g
  .rename_i I J;simp only[az]at g;subst g;cases Z with
   |map hr=>
    rename_i b o x;obtain⟨ms,j,i,Y⟩:=h.map r b o x _ hr J;exact .inr ⟨r,b,o,x,ms,j,rfl,rfl,hr,J,i,Y⟩
  .simp at g
 .simp at g
theorem wS{b:Nat}{ms:Array MapEntry}{j:Nat}(h:w.heap[b]?=some (.map ms j)):(getObj b).run P w=.ok (.map ms j) w:=by
 simp[getObj,Sem.run,h]
theorem PP(h:R B H w G){t ty:TypeId}{x c:AV}{M:Value}(C:VR G x M)(L:zf9 P H t x=some c):∃v,(Builtin.len_ #[t] ty #[M]).run P w=.ok v w/\VR G c v:=by
 unfold zf9 at L;split at L
 .rename_i hd;split at L
  .simp only[az]at L;subst L;cases C with
   |str I _ K=>
    subst K;refine⟨_,?_,.int _ _⟩;rw[PO];simp[Builtin.len_,zgJ hd,goInt]
  .simp at L
 .rename_i e hd;split at L
  .simp only[az]at L;subst L;cases C;exact⟨_,wL,.int _ _⟩
  .simp only[az]at L;subst L;cases C
   .exact⟨_,wL,.int _ _⟩
   .exact⟨_,wL,.int _ _⟩
  .simp only[az]at L;subst L;cases C;exact⟨_,wL,.int _ _⟩
  .simp at L
 .rename_i n e hd;simp only[az]at L;subst L;refine⟨.int .i64 n,?_,.int _ _⟩;simp only[Builtin.len_];simp[zgJ hd,goInt]
 .rename_i Y e hd;split at L
  .rename_i V g;simp only[az]at L;subst L;rcases GR h C g with⟨rfl,rfl⟩|⟨r,b,o,U,ms,j,rfl,rfl,hr,O,Z,J⟩
   .exact⟨_,wL,.int _ _⟩
   .refine⟨.int .i64 V.length,?_,.int _ _⟩;have:ms.size=V.length:=by have:=J.1;simpa using this.symm
    simp[Builtin.len_,zgJ hd,wS Z,goInt,this]
  .simp at L
 .simp at L
theorem PQ{I:Bool}{x y c:AV}{M g:Value}(C:VR G x M)(U:VR G y g)(h:mm I x y=some c):∃v,((if I then Builtin.max2 else Builtin.min2) M g).run P w=.ok v w/\VR G c v:=by
 unfold mm at h;split at h
 .simp only[az]at h;subst h;cases C;cases U;cases I
  .refine⟨_,rfl,?_⟩;simp only[dm,cS,iB];exact .int _ _
  .refine⟨_,rfl,?_⟩;simp only[cV,iB];exact .int _ _
 .simp at h
theorem CK{I:Bool}:∀{K:List AV}{C:List Value}{x c:AV}{M:Value},VR G x M->cn G K C->rR I x K=some c ->
 ∃v,(C.foldlM (if I then Builtin.max2 else Builtin.min2) M).run P w=.ok v w/\VR G c v
 |[],C,x,c,M,hx,hxs,h=>by
  simp only[rR,az]at h;subst h;have:C=[]:=by have:=hxs.1;simpa using this.symm
  subst this;exact⟨M,rfl,hx⟩
 |y::ys,[],_,_,_,_,hxs,_=>by have:=hxs.1;simp at this
 |y::ys,yv::yvs,x,c,M,hx,hxs,h=>by
  obtain⟨i,g⟩:=hxs.of_cons;simp only[rR]at h;split at h
  .rename_i z Z;obtain⟨U,m,Y⟩:=PQ (P:=P) (w:=w) hx i Z;obtain⟨v,k1,V⟩:=CK Y g h;exact⟨v,by rw[List.foldlM_cons,eI,m];exact k1,V⟩
  .simp at h
theorem CL{t:TypeId}{d:TypeDesc}(h:mH P t=some d):P.underlying t=some d/\((∃k,d=.int k)\/d=.string\/d=.bool):=by
 unfold mH at h;split at h<;>simp only[az,reduceCtorEq]at h<;>subst h
 .rename_i k hd;exact⟨hd,.inl ⟨k,rfl⟩⟩
 .rename_i hd;exact⟨hd,.inr (.inl rfl)⟩
 .rename_i hd;exact⟨hd,.inr (.inr rfl)⟩
theorem CM{d:TypeDesc}{x y:AV}{M g:Value}{r:Bool}(C:VR G x M)(U:VR G y g)(h:nZ d x y=some r):Instr.sameNow d M g=some r:=by
 unfold nZ at h;split at h
 .split at h
  .cases C;cases U;exact h
  .simp at h
 .split at h
  .cases C with
   |str a _ o=>cases U with
    |str b _ Z=>
     subst o Z;simp only[az]at h;subst h;simp only[Instr.sameNow,az];show(a.data == b.data)=(a.data.toList == b.data.toList);rw[wF];simp only[ow,Array.toList_inj]
  .simp at h
 .split at h
  .cases C;cases U;exact h
  .simp at h
 .simp at h
theorem CN{d:TypeDesc}{k:AV}{kv:Value}(Y:VR G k kv):∀{V:List (AV×AV)}{ms:List MapEntry}{i:Nat},qO G V ms ->
 (jB d k V i=some none->Instr.findNow d kv ms i=some none) /\
 (∀j v,jB d k V i=some (some (j,v))->∃k' m,V[j-i]?=some (k',v)/\ms[j-i]?=some m/\i<=j/\nZ d k k'=some true/\Instr.findNow d kv ms i=some (some (j,m.val)))
 |[],ms,i,he=>by
  have:ms=[]:=by have:=he.1;simpa using this.symm
  subst this;exact⟨fun _=>rfl,fun j v h=>by simp[jB]at h⟩
 |e::V,[],i,he=>by have:=he.1;simp at this
 |(k',v')::V,m::ms,i,he=>by
  obtain⟨U,h2⟩:=he.2 0 (k',v') m rfl rfl;have I:qO G V ms:=⟨by simpa using he.1,fun j a b o M=>he.2 (j+1) a b zk (by simpa using M)⟩;obtain⟨C,L⟩:=CN (d:=d) Y (i:=i+1) I;constructor
  .intro h;simp only[jB]at h;split at h
   .simp at h
   .rename_i Z;have:=CM Y U Z;simp only[Instr.findNow,this];exact C h
   .simp at h
  .intro j v h;simp only[jB]at h;split at h
   .rename_i Z;simp only[cH]at h;obtain⟨rfl,rfl⟩:=h;have:=CM Y U Z;exact⟨k',m,au,au,aE _,Z,by simp only[Instr.findNow,this]⟩
   .rename_i Z;have:=CM Y U Z;obtain⟨K,J,z,g,g3,g4,g5⟩:=L j v h;have O:j-i=(j-(i+1))+1:=ac;refine⟨K,J,by rw[O];simpa using z,by rw[O];simpa using g,ac,g4,?_⟩;simp only[Instr.findNow,this];exact g5
   .simp at h
theorem PR(n:Nat){g:TypeId}{d:TypeDesc}(hd:mH P g=some d)(e:Bool)(kv:Value):(Instr.checkKey e (n+1) g kv).run P w=.ok () w:=by
 obtain⟨i,Z⟩:=CL hd;simp only[Instr.checkKey,eI,zgJ i,eN];rcases Z with⟨k,rfl⟩|rfl|rfl<;>rfl
theorem wT{g:TypeId}{d:TypeDesc}(hd:mH P g=some d)(e:Bool)(kv:Value):(Instr.checkKey e 10000 g kv).run P w=.ok () w:=PR 9999 hd e kv
theorem wU{g:TypeId}{d:TypeDesc}(hd:P.underlying g=some d){kv:Value}{ms:List MapEntry}{r:Option (Nat×Value)}(h:Instr.findNow d kv ms 0=some r):(Instr.findKey g kv ms).run P w=.ok r w:=by
 simp[Instr.findKey,zgJ hd,h]
theorem PS{t g e:TypeId}{d:TypeDesc}(hd:P.underlying t=some (.map g e))(U:mH P g=some d){mv kv:Value}{ok:Bool}{ms:Array MapEntry}
 (O:(mv=.map none/\ms=#[])\/∃b Z,mv=.map (some b)/\w.heap[b]?=some (.map ms Z)) :
 (∀j v,Instr.findNow d kv ms.toList 0=some (some (j,v))->(Instr.lookup t mv kv ok).run P w=.ok (if ok then .tuple #[v,.bool true]else v) w) /\
 (∀V,(zeroValue e).run P w=.ok V w->Instr.findNow d kv ms.toList 0=some none->(Instr.lookup t mv kv ok).run P w=.ok (if ok then .tuple #[V,.bool false]else V) w):=by
 have Y:=(CL U).1;rcases O with⟨rfl,rfl⟩|⟨b,Z,rfl,M⟩
 .refine⟨fun j v i=>by simp[Instr.findNow]at i,fun V I i=>?_⟩;have K:=wU (P:=P) (w:=w) Y i;simp only[Instr.lookup,eI,zgJ hd,eN,ky,wT U,K,I]
 .refine⟨fun j v i=>?_,fun V I i=>?_⟩
  .have K:=wU (P:=P) (w:=w) Y i;simp only[Instr.lookup,eI,zgJ hd,eN,wS M,ky,wT U,K]
  .have K:=wU (P:=P) (w:=w) Y i;simp only[Instr.lookup,eI,zgJ hd,eN,wS M,ky,wT U,K,I]
theorem PT(h:R B H w G){t:TypeId}{m k c:AV}{mv kv:Value}{ok:Bool}(K:VR G m mv)(z:VR G k kv)(L:zhv P H t m k ok=some c):
 ∃v,(Instr.lookup t mv kv ok).run P w=.ok v w/\VR G c v:=by
 unfold zhv at L;split at L
 .rename_i kt e hd;split at L
  .rename_i g C J I;obtain⟨ms,V,O⟩:∃ms:Array MapEntry,((mv=.map none/\ms=#[])\/∃b Z,mv=.map (some b)/\w.heap[b]?=some (.map ms Z))/\qO G g ms.toList:=by
    rcases GR h K J with⟨rfl,rfl⟩|⟨r,b,o,xx,ms,Z,rfl,rfl,hr,hg,hw,he⟩
    .exact⟨#[],.inl ⟨rfl,rfl⟩,rfl,au⟩
    .exact⟨ms,.inr ⟨b,Z,rfl,hw⟩,he⟩
   obtain⟨f1,f2⟩:=CN (d:=C) z (i:=0) O;obtain⟨r1,r2⟩:=PS (kv:=kv) (ok:=ok) hd I V;split at L
   .rename_i j v Y;simp only[az]at L;subst L;obtain⟨k',m',g1,g2,_,_,g5⟩:=f2 j v Y;have U:=(O.2 _ _ _ g1 g2).2;refine⟨_,r1 _ _ g5,?_⟩;cases ok
    .exact U
    .exact .tup (vs:=[m'.val,.bool true]) rfl (ox U (ox (.bool true) (oU _))).2
   .rename_i Y;split at L
    .rename_i v U;simp only[az]at L;subst L;obtain⟨zv,z1,M⟩:=Pn U;refine⟨_,r2 _ (z1 w) (f1 Y),?_⟩;cases ok
     .exact M G
     .exact .tup (vs:=[zv,.bool false]) rfl (ox (M G) (ox (.bool false) (oU _))).2
    .simp at L
   .simp at L
  .simp at L
 .simp at L
end
section
variable {P:Program} {B:Bs} {G:Gh} {H H':Hp} {w:World}
theorem GS(h:R B H w G){r b o x:Nat}{es L:List (AV×AV)}{ms':Array MapEntry}{clock':Nat}(hr:G.β r=some (b,o,x))(hg:H.get r=some (.map es))(he:qO G L ms'.toList):
 Step B H.next G w (H.set r (.map L)) {w with heap:=w.heap.setIfInBounds b (.map ms' clock') } G:=by
 obtain⟨ms,clock,hw,_⟩:=h.map r b o x es hr hg;have hb:b<w.heap.size:=(h.lt r b o x hr).2
 let w':World:={w with heap:=w.heap.setIfInBounds b (.map ms' clock') }
 have J:∀k,k≠b->w'.heap[k]?=w.heap[k]?:=fun k V=>by
  show(w.heap.setIfInBounds b _)[k]?=_;rw[uL,af (Ne.symm V)]
 have hheapb:w'.heap[b]?=some (.map ms' clock'):=by
  show(w.heap.setIfInBounds b _)[b]?=_;simp[hb]
 have K:∀Y M v,w.cell? ⟨Y,M,none⟩=some v->Y≠b:=fun Y M v hc e=>by
  subst e;unfold World.cell? at hc;rw[hw]at hc;simp at hc
 have U:∀Y M v,w.cell? ⟨Y,M,none⟩=some v->w'.cell? ⟨Y,M,none⟩=some v:=fun Y M v hc=>by
  rw[World.cell?_of_block (w:=w) (J Y (K Y M v hc))];exact hc
 have Z:∀k,k≠r->(H.set r (.map L)).get k=H.get k:=fun k V=>Cz;have C:(H.set r (.map L)).get r=some (.map L):=iA;refine⟨?_,uM _,⟨rfl,rfl,rfl,au,fun k V hn=>J k (fun e=>hn r b o x hr e.symm)⟩,tq _ _,fun _ _ h=>.inl h,aE _,fun _ _ _ h=>.inl h⟩;exact{
  base:=by have:=h.base;simpa using this
  dom:=h.dom
  lt:=fun r b o x hr=>by have:=h.lt r b o x hr;simpa using this
  cells:=fun k Y M O z imm I V hc=>by
   by_cases e:k=r
   .subst e;rw[C]at hc;simp at hc
   .rw[Z k e]at hc;intro j c hj;obtain⟨v,h1,h2⟩:=h.cells k Y M O z imm I V hc j c hj;exact⟨v,U _ _ _ h1,h2⟩
  imm:=fun k Y M O z imm I V hc=>by
   by_cases e:k=r
   .subst e;rw[C]at hc;simp at hc
   .rw[Z k e]at hc;exact h.imm k Y M O z imm I V hc
  ext:=fun k Y M O z imm I V hc=>by
   by_cases e:k=r
   .subst e;rw[C]at hc;simp at hc
   .rw[Z k e]at hc;exact h.ext k Y M O z imm I V hc
  fits:=fun k Y M O z imm I V hc=>by
   by_cases e:k=r
   .subst e;rw[C]at hc;simp at hc
   .rw[Z k e]at hc;exact h.fits k Y M O z imm I V hc
  room:=fun k Y M O z imm I V hc j hj hjl=>by
   by_cases e:k=r
   .subst e;rw[C]at hc;simp at hc
   .rw[Z k e]at hc;obtain⟨⟨v,h1⟩,h2,h3⟩:=h.room k Y M O z imm I V hc j hj hjl;refine⟨⟨v,U _ _ _ h1⟩,?_,h3⟩;rw[World.frozen?_of_block (w:=w) (J Y (K _ _ _ h1))];exact h2
  apart:=fun k1 b1 o1 x1 cs1 imm1 tip1 m b2 o2 x2 cs2 imm2 tip2 i g hk2 hc2=>by
   by_cases e1:k1=r
   .subst e1;rw[C]at g;simp at g
   .by_cases e2:m=r
    .subst e2;rw[C]at hc2;simp at hc2
    .rw[Z k1 e1]at g;rw[Z m e2]at hc2;exact h.apart k1 b1 o1 x1 cs1 imm1 tip1 m b2 o2 x2 cs2 imm2 tip2 i g hk2 hc2
  map:=fun k Y M O es1 V hc=>by
   by_cases e:k=r
   .subst e;have hk':=V;rw[hr]at hk';simp only[cH]at hk';obtain⟨rfl,rfl,rfl⟩:=hk';rw[C]at hc;simp only[az,HB.map.injEq]at hc;subst hc;exact⟨ms',clock',hheapb,he⟩
   .rw[Z k e]at hc;obtain⟨ms1,clock1,h1,h2⟩:=h.map k Y M O es1 V hc;refine⟨ms1,clock1,?_,h2⟩;rw[J Y (fun eb=>h.mapApart k Y M O es1 r b o x V hc hr (by rw[hg];rfl) e eb)];exact h1
  mapApart:=fun k1 b1 o1 x1 es1 m b2 o2 x2 i g hk2 hs hne=>by
   have hs':(H.get m).isSome:=by
    by_cases e2:m=r
    .subst e2;rw[hg];rfl
    .rw[Z m e2]at hs;exact hs
   by_cases e1:k1=r
   .subst e1;exact h.mapApart k1 b1 o1 x1 es m b2 o2 x2 i hg hk2 hs' hne
   .rw[Z k1 e1]at g;exact h.mapApart k1 b1 o1 x1 es1 m b2 o2 x2 i g hk2 hs' hne
  frz:=fun Y M v hf=>U _ _ _ (h.frz Y M v hf)
  val:=h.val
  sym:=h.sym}
theorem GT{b:Nat}{ms ms':Array MapEntry}{j clock':Nat}(h:w.heap[b]?=some (.map ms j)):
 (setObj b (.map ms' clock')).run P w=.ok () {w with heap:=w.heap.setIfInBounds b (.map ms' clock') }:=by
 simp[setObj,Sem.run,h]
theorem PU(n:Nat){d:TypeDesc}{x y:AV}{M g:Value}(C:VR G x M)(U:VR G y g)(h:nZ d x y=some true):Instr.sameBits n g M=true:=by
 unfold nZ at h;split at h
 .split at h
  .split at h
   .rename_i e;subst e;cases C;cases U;simp only[az,ow]at h;subst h;cases n<;>simp[Instr.sameBits]
   .simp at h
  .simp at h
 .split at h
  .cases C with
   |str a _ o=>cases U with
    |str b _ Y=>
     subst o Y;simp only[az,ow]at h;have Z:(b == a)=true:=by
      show(b.data == a.data)=true;simp only[ow];exact(ou h).symm
     cases n<;>simp[Instr.sameBits,Z]
  .simp at h
 .split at h
  .cases C;cases U;simp only[az,ow]at h;subst h;cases n<;>simp[Instr.sameBits]
  .simp at h
 .simp at h
theorem PV{old Z:Value}(h:Instr.sameBits 10000 old Z=true):(Instr.keyThatStays old Z).run P w=.ok Z w:=by
 unfold Instr.keyThatStays;rw[aq h];rfl
theorem PW(h:R B H w G){t:TypeId}{m k v:AV}{mv kv vv:Value}(hm:VR G m mv)(J:VR G k kv)(hv:VR G v vv)(O:jj P H t m k v=some H'):
 ∃w',(Instr.mapUpdate t mv kv vv).run P w=.ok () w'/\Step B H.next G w H' w' G:=by
 unfold jj at O;split at O
 .rename_i kt e hd;split at O
  .rename_i r C I;split at O
   .rename_i es hg;cases hm with
    |map hr=>
     rename_i b o x;obtain⟨ms,Y,z,V⟩:=h.map r b o x es hr hg;obtain⟨f1,f2⟩:=CN (d:=C) J (i:=0) V;have U:=(CL I).1;split at O
     .rename_i j v0 hf;simp only[az]at O;subst O;obtain⟨k',m',g1,g2,_,g4,g5⟩:=f2 j v0 hf;simp only[wP]at g1 g2;have hjl:j<ms.size:=by have:=(eG.1 g2).1;simpa using this
      have M:ms[j]?=some m':=by simpa using g2
      have g:=PU 10000 J (V.2 j _ _ g1 g2).1 g4;have K:=wU (P:=P) (w:=w) U g5;refine⟨_,?_,GS h hr hg (ms':=ms.modify j fun e=>{e with key:=kv,val:=vv}) (clock':=Y) ?_⟩
      .simp only[Instr.mapUpdate,eI,zgJ hd,eN,wS z,wT I,K,M,jh,bS,PV g,GT z]
      .refine⟨by have:=V.1;simpa using this,fun i a c Z hc=>?_⟩;rw[mL]at Z;rw[wR,Array.getElem?_modify]at hc;by_cases e:j=i
       .subst e;rw[aq rfl]at hc;rw[aq rfl]at Z;split at Z
        .simp only[az]at Z;subst Z;rw[M]at hc;simp only[jh,az]at hc;subst hc;exact⟨J,hv⟩
        .simp at Z
       .rw[af e]at Z hc;exact V.2 i a c Z za
     .rename_i hf;simp only[az]at O;subst O;have K:=wU (P:=P) (w:=w) U (f1 hf);refine⟨_,?_,GS h hr hg (ms':=ms.push {key:=kv,val:=vv,born:=Y}) (clock':=Y+1) ?_⟩
      .simp only[Instr.mapUpdate,eI,zgJ hd,eN,wS z,wT I,K,GT z]
      .refine⟨by have:=V.1;simpa using this,fun i a c Z hc=>?_⟩;rw[Array.toList_push]at hc;have hl:=V.1;by_cases hi:i<es.length
       .rw[je hi]at Z;rw[je ac]at hc;exact V.2 i a c Z hc
       .rw[l0 ac]at Z;rw[l0 ac]at hc;rw[<-hl]at hc;cases L:i-es.length with
        |zero=>
         rw[L]at Z hc;simp at Z hc;subst Z hc;exact⟨J,hv⟩
        |succ n=>rw[L]at Z;simp at Z
     .simp at O
   .simp at O
  .simp at O
 .simp at O
theorem GU:∀{g:List AV}{bs:List UInt8}{vs:List Value},tg g=some bs->cn G g vs->∃K:List Int,vs=K.map (Value.int .u8)/\bs=K.map fun n=>UInt8.ofNat n.toNat
 |[],bs,vs,h,hv=>by
  simp only[tg,az]at h;subst h;have:vs=[]:=by have:=hv.1;simpa using this.symm
  subst this;exact⟨[],rfl,rfl⟩
 |c::g,bs,[],h,hv=>by have:=hv.1;simp at this
 |c::g,bs,v::vs,h,hv=>by
  obtain⟨Z,V⟩:=hv.of_cons;unfold tg at h;split at h
  .rename_i e;simp at e
  .rename_i n i e;simp only[eB]at e;obtain⟨rfl,rfl⟩:=e;split at h
   .rename_i Y o;simp only[az]at h;subst h;obtain⟨K,rfl,rfl⟩:=GU o V;cases Z;exact⟨n::K,rfl,rfl⟩
   .simp at h
  .simp at h
theorem PX(K:List Int):∀s:ByteArray,(K.foldl (fun r n=>r.push (UInt8.ofNat n.toNat)) s).data.toList=s.data.toList++K.map fun n=>UInt8.ofNat n.toNat:=by
 induction K with
 |nil=>intro s;simp
 |cons n K ih=>intro s;rw[List.foldl_cons,ih];simp[ByteArray.push]
theorem PY(h:R B H w G){L K:TypeId}{x c:AV}{z:Value}(C:VR G x z)(Z:zhJ P H L K x=some c):∃v,(convert L K z).run P w=.ok v w/\VR G c v:=by
 unfold zhJ at Z;split at Z
 .rename_i e Y hd;split at Z
  .rename_i g;split at Z
   .rename_i n cs J;split at Z
    .rename_i bs O;obtain⟨nv,h1,h2,m,h4⟩:=CJ (P:=P) h C J;obtain⟨M,V,rfl⟩:=GU O h1;split at Z
     .simp only[az]at Z;subst Z;cases C with
      |sl hr hl hcx=>
       rename_i b o xx j;have U:=m w;simp[Builtin.lenOf]at U;subst U;have i:=h4 w (fun _=>rfl);simp only[Builtin.firstCells,kX]at i;rw[V]at i;refine⟨_,by rw[run_convert_bytes_string w L K e _ _ _ Y g hd,run_bytesToString w _ _ _ M i],.str _ _ ?_⟩;rw[PX];rfl
     .simp only[az]at Z;subst Z;cases C;have U:=m w;simp[Builtin.lenOf]at U;have:M=[]:=by
       have e1:(M.map (Value.int .u8)).length=0:=by rw[<-V,h2,<-U]
       simpa using e1
      subst this;refine⟨.string .empty,?_,.str _ _ rfl⟩;rw[run_convert_bytes_string w L K e _ _ _ Y g hd];rfl
     .simp at Z
    .simp at Z
   .simp at Z
  .simp at Z
 .rename_i ds k hn Y hd;split at Z
  .simp only[az]at Z;subst Z;cases C;refine⟨_,?_,.int _ _⟩;simp[convert,zgJ Y,zgJ hd,Conv.intToInt]
  .simp only[az]at Z;subst Z;cases C;rename_i k0 e0;refine⟨_,?_,.sx _ _⟩;simp[convert,zgJ Y,zgJ hd,Conv.intToInt,Sx.eval]
  .simp at Z
 .rename_i hn Y hd;split at Z
  .simp only[az]at Z;subst Z;have I:=C;cases C with
   |str sv _ g=>
    refine⟨.string sv,?_,I⟩;simp[convert,zgJ Y,zgJ hd]
  .simp at Z
 .simp at Z
end
section
variable {P:Program} {B:Bs} {G:Gh} {H H':Hp} {w:World}
def tA(G:Gh)(E:aw)(a:Act)(xs:Array Operand):Prop:=∀x∈xs,∀c,zfl E x=some c->VR G c (a.eval x)
theorem zw{E:aw}{a:Act}:∀{K:List Operand}{g:List AV},(∀x∈K,∀c,zfl E x=some c->VR G c (a.eval x))->zhq E K=some g->cn G g (K.map a.eval)
 |[],g,_,h=>by
  simp only[zhq,az]at h;subst h;exact oU G
 |x::K,g,hk,h=>by
  simp only[zhq]at h;split at h
  .rename_i v vs Z C;simp only[az]at h;subst h;exact ox (hk x au v Z) (zw (fun y U=>hk y (by simp[U])) C)
  .simp at h
theorem zhL{s:Sem Value}{c:AV}(h:R B H w G)(K:∃v,s.run P w=.ok v w/\VR G c v):tw P B H G w (do pure (.value (<-s))) c H:=by
 obtain⟨v,i,g⟩:=K;exact⟨.value v,w,G,v,by simp[i],.inl rfl,g,lH h⟩
theorem uV{s:Sem Value}{c:AV}(K:∃v Y g,s.run P w=.ok v Y/\VR g c v/\Step B H.next G w H' Y g):tw P B H G w (do pure (.value (<-s))) c H':=by
 obtain⟨v,Y,g,i,Z,m⟩:=K;exact⟨.value v,Y,g,v,by simp[i],.inl rfl,Z,m⟩
theorem GV{s:Sem Unit}(K:∃Y,s.run P w=.ok () Y/\Step B H.next G w H' Y G):tw P B H G w (do s;pure .skip) zgA H':=by
 obtain⟨Y,i,g⟩:=K;exact⟨.skip,Y,G,undef,by simp[i],.inr ⟨rfl,rfl⟩,wH G,g⟩
theorem GW{E:aw}{a:Act}{x:Option Operand}{c:Option AV}(j:∀y∈x.toArray,∀c,zfl E y=some c->VR G c (a.eval y))(h:jW E x=some c):tz G c (x.map a.eval):=by
 unfold jW at h;split at h
 .simp only[az]at h;subst h;exact trivial
 .rename_i y;split at h
  .rename_i v U;simp only[az]at h;subst h;exact j y au v U
  .simp at h
theorem PZ{D:BinOp->Sx->Sx->Option Bool}{E:aw}{a:Act}{o:Oper}{c:AV}(j:rU o=true)(I:tA G E a o.op.operands)(m:de P D E H o.op=some (c,H')):oV P G w (execOp a.eval o) Next.value c H H':=by
 obtain⟨K,J,ty,M,U,guard⟩:=o;simp only[]at m I;cases J<;>simp only[rU,zhh,dm]at j
 case alloc t=>
  simp only[de]at m;unfold wi at m;split at m
  .rename_i z Z;simp only[cH]at m;obtain⟨rfl,rfl⟩:=m;obtain⟨Y,C,z2⟩:=wK Z;refine oV.next ⟨.cells z 0 true,.cells (Y.cells.toList++[]).toArray t,Y.cells.toList.length+0,.pointer (some ⟨w.heap.size,0,none⟩),rfl,?_,.cells z Y.cells.toList [] t (z2 G),fun g hG=>.ptr (off:=0) hG⟩
   simp[Instr.alloc,C,newVar,newRow]
  .simp at m
 case box t x=>
  simp only[de]at m;unfold wj at m;split at m
  .rename_i v V;simp only[cH]at m;obtain⟨rfl,rfl⟩:=m;have hx:=(I x eO _ V).cells;refine oV.next ⟨.cells v.cells 0 true,.cells ((a.eval x).cells.toList++[]).toArray t,(a.eval x).cells.toList.length+0,.pointer (some ⟨w.heap.size,0,none⟩),rfl,?_,.cells v.cells _ [] t hx,fun g hG=>.ptr (off:=0) hG⟩
   simp[Instr.box,newVar,newRow]
  .simp at m
 case buildSlice t len parts=>
  simp only[de]at m;unfold wl at m;split at m
  .rename_i ps L;obtain⟨q1,q2⟩:=zt (G:=G) (a:=a) (fun p hp=>I p.2 CA) L;have:=GL (P:=P) (w:=w) q1 q2 m;have he:(parts.toList.map fun x=>(x.1,a.eval x.2)).toArray=parts.map fun(i,x)=>(i,a.eval x):=by
    apply ou;simp
   rw[he]at this;exact this.next
  .simp at m
 case makeMap t r=>
  simp only[de]at m;unfold wo at m;split at m
  .simp only[cH]at m;obtain⟨rfl,rfl⟩:=m;refine oV.next ⟨.map [],.map #[] 0,0,.map (some w.heap.size),rfl,?_,.map,fun g hG=>.map hG⟩
   simp[Instr.makeMap]
  .simp at m
 case makeSlice t l c'=>
  simp only[de]at m;unfold wq at m;split at m
  .rename_i lv cv O hc;exact(GM (I l eO _ O) (I c' eO _ hc) m).next
  .simp at m
 case call cl=>
  simp only[de,reduceCtorEq]at m
theorem P1(h:R B H w G){E:aw}{a:Act}{o:Oper}{c:AV}(I:tA G E a o.op.operands)(Z:de P B.cfg.dec E H o.op=some (c,H')):tw P B H G w (execOp a.eval o) c H':=by
 obtain⟨dst,op,ty,pos,after,guard⟩:=o;simp only[]at Z I;cases op<;>simp only[de,reduceCtorEq]at Z
 case move x=>
  obtain⟨Y,rfl⟩:=zhG Z;exact uR h rfl (I x eO _ Y)
 case assign x=>
  obtain⟨Y,rfl⟩:=zhG Z;exact uR h rfl (I x eO _ Y)
 case pick x y z=>
  unfold yO at Z;split at Z
  .rename_i hc;obtain⟨Y,rfl⟩:=zhG Z;have K:=I x eO _ hc;have:a.eval x=.bool true:=by generalize a.eval x=v at K;cases K;rfl
   exact uR h (v:=a.eval y) (by simp[execOp,asBool,this]) (I y eO _ Y)
  .rename_i hc;obtain⟨Y,rfl⟩:=zhG Z;have K:=I x eO _ hc;have:a.eval x=.bool false:=by generalize a.eval x=v at K;cases K;rfl
   exact uR h (v:=a.eval z) (by simp[execOp,asBool,this]) (I z eO _ Y)
  .simp at Z
 case alloc t=>
  unfold wi at Z;split at Z
  .rename_i z hz;simp only[cH]at Z;obtain⟨rfl,rfl⟩:=Z;obtain⟨zv,z1,z2⟩:=wK hz;have g:=zf h (z2 G) [] t;rw[bi,uT]at g;refine uV ⟨.pointer (some ⟨w.heap.size,0,none⟩),_,_,?_,?_,g⟩
   .simp[Instr.alloc,z1,newVar,newRow]
   .exact .ptr (off:=0) (zh1 _ _ _)
  .simp at Z
 case box t x=>
  unfold wj at Z;split at Z
  .rename_i v U;simp only[cH]at Z;obtain⟨rfl,rfl⟩:=Z;have g:=zf h (I x eO _ U).cells [] t;rw[bi,uT]at g;refine uV ⟨.pointer (some ⟨w.heap.size,0,none⟩),_,_,?_,?_,g⟩
   .simp[Instr.box,newVar,newRow]
   .exact .ptr (off:=0) (zh1 _ _ _)
  .simp at Z
 case build t parts=>
  unfold yP at Z;split at Z
  .rename_i ps V;obtain⟨Y,rfl⟩:=zhG Z;obtain⟨q1,q2⟩:=zt (G:=G) (a:=a) (fun p hp=>I p.2 CA) V;have:=PI (P:=P) (w:=w) q1 q2 Y;have J:(parts.toList.map fun x=>(x.1,a.eval x.2)).toArray=parts.map fun(i,x)=>(i,a.eval x):=by
    apply ou;simp
   rw[J]at this;exact zhL h this
  .simp at Z
 case buildSlice t len parts=>
  unfold wl at Z;split at Z
  .rename_i ps V;obtain⟨q1,q2⟩:=zt (G:=G) (a:=a) (fun p hp=>I p.2 CA) V;have:=(GL (P:=P) (w:=w) q1 q2 Z).sim h;have J:(parts.toList.map fun x=>(x.1,a.eval x.2)).toArray=parts.map fun(i,x)=>(i,a.eval x):=by
    apply ou;simp
   rw[J]at this;exact uV this
  .simp at Z
 case load t x=>
  unfold wm at Z;split at Z
  .rename_i v U;obtain⟨Y,rfl⟩:=zhG Z;exact zhL h (GC h (I x eO _ U) Y)
  .simp at Z
 case store t x y=>
  unfold yQ at Z;split at Z
  .rename_i av vv ha U;split at Z
   .rename_i H1 hs;simp only[cH]at Z;obtain⟨rfl,rfl⟩:=Z;exact GV (Po h (I x eO _ ha) (I y eO _ U) hs)
   .simp at Z
  .simp at Z
 case nilCheck x=>
  unfold yR at Z;split at Z
  .rename_i r off U;simp only[cH]at Z;obtain⟨rfl,rfl⟩:=Z;have C:=I x eO _ U;refine uR h (v:=a.eval x) ?_ C;simp only[execOp];generalize a.eval x=v at C⊢;cases C;rfl
  .rename_i cs U;simp only[cH]at Z;obtain⟨rfl,rfl⟩:=Z;have C:=I x eO _ U;refine uR h (v:=a.eval x) ?_ C;simp only[execOp];generalize a.eval x=v at C⊢;cases C;rfl
  .simp at Z
 case binOp op t x y yt=>
  unfold yS at Z;split at Z
  .rename_i M yv C O;obtain⟨Y,rfl⟩:=zhG Z;exact zhL h (PE (by rw[h.val];exact h.sym) (I x eO _ C) (I y eO _ O) Y)
  .simp at Z
 case unOp op t x=>
  unfold yT at Z;split at Z
  .rename_i M C;obtain⟨Y,rfl⟩:=zhG Z;exact zhL h (PF (I x eO _ C) Y)
  .simp at Z
 case convert s d x=>
  unfold wn at Z;split at Z
  .rename_i M C;obtain⟨Y,rfl⟩:=zhG Z;exact zhL h (PY h (I x eO _ C) Y)
  .simp at Z
 case makeFunc fn first captured=>
  unfold yU at Z;split at Z
  .rename_i f vs L hvs;simp only[cH]at Z;obtain⟨rfl,rfl⟩:=Z;have hf:first=#[]:=by apply ou;simpa using L
   subst hf;have:=zw (G:=G) (a:=a) (fun x C=>I x (by simp[Op.operands];simpa using C)) hvs;refine zhL h ⟨.func (.func f) #[] (captured.map a.eval),by simp[Instr.makeFunc],?_⟩;have J:captured.map a.eval=(captured.toList.map a.eval).toArray:=CB;rw[J];exact .clo this.1 this.2
  .simp at Z
 case makeMap t r=>
  unfold wo at Z;split at Z
  .simp only[cH]at Z;obtain⟨rfl,rfl⟩:=Z;exact uV ⟨.map (some w.heap.size),_,_,by simp[Instr.makeMap],.map (zh1 _ _ _),Pc h⟩
  .simp at Z
 case makeSlice t l c'=>
  unfold wq at Z;split at Z
  .rename_i lv cv hl hc;exact uV ((GM (I l eO _ hl) (I c' eO _ hc) Z).sim h)
  .simp at Z
 case slice t x lo j mx=>
  unfold wr at Z;split at Z
  .rename_i M l hh C hl hi';obtain⟨Y,rfl⟩:=zhG Z;exact zhL h (PL h (I x eO _ C) (GW (fun y O=>I y (by simp[Op.operands]at *;simp[O])) hl) (GW (fun y O=>I y (by simp[Op.operands]at *;simp[O])) hi') Y)
  .simp at Z
 case fieldAddr t x f=>
  unfold yV at Z;split at Z
  .rename_i M C;obtain⟨Y,rfl⟩:=zhG Z;exact zhL h (Pp (I x eO _ C) Y)
  .simp at Z
 case field t x f=>
  unfold yW at Z;split at Z
  .rename_i M C;obtain⟨Y,rfl⟩:=zhG Z;exact zhL h (Pq (I x eO _ C) Y)
  .simp at Z
 case indexAddr t x i=>
  unfold yX at Z;split at Z
  .rename_i M iv C j;obtain⟨Y,rfl⟩:=zhG Z;exact zhL h (Ps (I x eO _ C) (I i eO _ j) Y)
  .simp at Z
 case index t x i=>
  unfold yY at Z;split at Z
  .rename_i M iv C j;obtain⟨Y,rfl⟩:=zhG Z;exact zhL h (Pt (I x eO _ C) (I i eO _ j) Y)
  .simp at Z
 case lookup t m k ok=>
  unfold wt at Z;split at Z
  .rename_i mv kv hm hk;obtain⟨Y,rfl⟩:=zhG Z;exact zhL h (PT h (I m eO _ hm) (I k eO _ hk) Y)
  .simp at Z
 case mapUpdate t m k v=>
  unfold yZ at Z;split at Z
  .rename_i mv kv vv hm hk U;split at Z
   .rename_i H1 hs;simp only[cH]at Z;obtain⟨rfl,rfl⟩:=Z;exact GV (PW h (I m eO _ hm) (I k eO _ hk) (I v eO _ U) hs)
   .simp at Z
  .simp at Z
 case extract x i=>
  unfold y0 at Z;split at Z
  .rename_i M C;obtain⟨Y,rfl⟩:=zhG Z;exact zhL h (Pu (I x eO _ C) Y)
  .simp at Z
theorem P2(h:R B H w G){keep:Bool}{b:Builtin}{V:Array TypeId}{ty:TypeId}{consts:Array Bool}{cs:List AV}{vs:List Value}{c:AV}(U:cn G cs vs)(o:pI P keep H b V.toList cs=some (c,H')):
 tw P B H G w (builtin b V ty consts vs.toArray) c H':=by
 unfold pI at o;split at o
 .split at o
  .rename_i t u s x Z;have g:V=#[t,u]:=by apply ou;simpa using Z
   subst g
   match vs,U with
   |[J,M],U=>
    obtain⟨i,Y⟩:=U.of_cons;obtain⟨m,_⟩:=Y.of_cons;exact uV (PN h i m o)
   |[],U=>have:=U.1;simp at this
   |[_],U=>have:=U.1;simp at this
   |_::_::_::_,U=>have:=U.1;simp at this
  .simp at o
 .split at o
  .rename_i t x Z;have g:V=#[t]:=by apply ou;simpa using Z
   subst g;split at o
   .rename_i v L;simp only[cH]at o;obtain⟨rfl,rfl⟩:=o
    match vs,U with
    |[M],U=>
     obtain⟨i,_⟩:=U.of_cons;exact zhL h (PP h i L)
    |[],U=>have:=U.1;simp at this
    |_::_::_,U=>have:=U.1;simp at this
   .simp at o
  .simp at o
 .split at o
  .rename_i x K;split at o
   .rename_i v O;simp only[cH]at o;obtain⟨rfl,rfl⟩:=o
    match vs,U with
    |[],U=>have:=U.1;simp at this
    |M::xvs,U=>
     obtain⟨i,Y⟩:=U.of_cons;have:=CK (P:=P) (w:=w) i Y O;exact zhL h (by simpa [Builtin.max_]using this)
   .simp at o
  .simp at o
 .split at o
  .rename_i x K;split at o
   .rename_i v O;simp only[cH]at o;obtain⟨rfl,rfl⟩:=o
    match vs,U with
    |[],U=>have:=U.1;simp at this
    |M::xvs,U=>
     obtain⟨i,Y⟩:=U.of_cons;have:=CK (P:=P) (w:=w) i Y O;exact zhL h (by simpa [Builtin.min_]using this)
   .simp at o
  .simp at o
 .simp at o
end
def CO:AX->Exit
 | .normal=>.normal
 | .exit id=>.exit id
 | .ret=>.ret
def kY(B:Bs)(N Z:Nat)(G:Gh)(w:World)(x:AX)(Y:aw)(H':Hp):Exit->Act->World->Prop:=fun e L V=>
 e=CO x/\∃g,TR N g Y L/\Step B Z G w H' V g/\L.defers=[]
structure Fit (P:Program):Prop where
 name:∀(f:FuncId) (fn:Func),P.funcs[f]?=some fn->fn.body.isSome=true->(fn.name == "runtime.NumGoroutine")=false
 mixed:P.follows .mixedOrders=true
structure Snd (P:Program) (B:Bs) (n:Nat) (ih:Task->Res):Prop where
 call:∀f args H r H',ih (.call f args H)=.val r H'->∀G w vs,R B H w G->cn G args vs ->
  (∃fn,P.funcs[f]?=some fn/\fn.body.isSome=true)/\Calls P f vs.toArray w (fun e w'=>∃v G',e=.returned v/\VR G' r v/\Step B H.next G w H' w' G')
 code:∀f N c E H x E' H',ih (.code f N c E H)=.done x E' H'->∀G w a,R B H w G->TR N G E a->a.defers=[]->Code.wp P c (kY B N H.next G w x E' H') a w
 loop:∀f N c E H x E' H',ih (.code f N (.loop c) E H)=.done x E' H'->∀G w a,R B H w G->TR N G E a->a.defers=[]->Code.rounds P c (kY B N H.next G w x E' H') n a w
theorem CP{P:Program}{c:Code}{Q V:Exit->Act->World->Prop}(h:∀e a w,Q e a w->V e a w):∀{n:Nat}{a:Act}{w:World},Code.rounds P c Q n a w->Code.rounds P c V n a w
 |0,_,_,hr=>hr
 |n+1,_,_,hr=>by
  rw[rounds_succ]at *;exact rZ (fun e a w g=>by
   cases e with
   |normal=>exact CP h g
   |_=>exact h _ _ _ g) hr
theorem kY.trans{B:Bs}{N L:Nat}{G g:Gh}{w w':World}{H' K:Hp}{x:AX}{i:aw}(Z:Step B L G w H' w' g){e:Exit}{a:Act}{Y:World}(h:kY B N H'.next g w' x i K e a Y):kY B N L G w x i K e a Y:=by
 obtain⟨V,U,O,M,m⟩:=h;exact⟨V,U,O,Z.trans M,m⟩
def zx:=@kY.trans
section
variable {P:Program} {B:Bs} {G:Gh} {H H':Hp} {w:World}
theorem CQ{N:Nat}{E:aw}{a:Act}(h:TR N G E a){x:Operand}{c:AV}(Z:zfl E x=some c):VR G c (a.eval x):=by
 cases x with
 |tmp t=>simp only[zfl,az]at Z;subst Z;exact h.slots t
 |const v=>exact uO Z
 |global g=>simp[zfl]at Z
 |func f=>simp only[zfl,az]at Z;subst Z;exact .clo (vs:=[]) rfl au
theorem TR.knows{N:Nat}{E:aw}{a:Act}(h:TR N G E a)(xs:Array Operand):tA G E a xs:=fun _ _ _ hc=>CQ h hc
theorem P3{E:aw}{a:Act}{d:Nat}(h:VR G (E.at d) (a.tmps.getD d undef)):(match E.at d with|.bool b=>some b |_=>none)=(match a.tmps[d]? with|some (.bool b)=>some b |_=>none):=by
 rw[ju]at h;cases hd:a.tmps[d]? with
 |none=>
  rw[hd]at h;simp only[Option.getD_none,undef]at h;generalize E.at d=c at h;cases h;rfl
 |some v=>
  rw[hd]at h;simp only[bS]at h;generalize E.at d=c at h;cases h<;>rfl
theorem P4{E:aw}{a:Act}{ops:Array Oper}{j:Nat}(h:∀d,(ops[j]?).bind (·.dst)=some d->VR G (E.at d) (a.tmps.getD d undef)):y4 ops.toList E j=yielded ops a.tmps j:=by
 unfold y4 yielded;rw[wR];cases hd:(ops[j]?).bind (·.dst)with
 |none=>rfl
 |some d=>exact P3 (h d hd)
theorem GX{E:aw}{a:Act}{ops:Array Oper}{o:Oper}(h:∀j b d,o.guard=some (j,b)->(ops[j]?).bind (·.dst)=some d->VR G (E.at d) (a.tmps.getD d undef)):zhw ops.toList E o=Region.wanted o (yielded ops a.tmps):=by
 unfold zhw Region.wanted;cases J:o.guard with
 |none=>rfl
 |some p=>
  obtain⟨j,b⟩:=p;simp only[];rw[P4 (fun d hd=>h j b d J hd)];cases yielded ops a.tmps j with
  |none=>rfl
  |some Z=>cases b<;>cases Z <;>rfl
theorem zy(fit:Fit P){n:Nat}{ih:Task->Res}(hih:Snd P B n ih){f:FuncId}{E:aw}{a:Act}{o:Oper}{c:AV}(h:R B H w G)(hE:tA G E a o.op.operands)(Z:zgI P B.cfg ih f E H o.op=.val c H')
 {K:Act->World->Prop}{Q:Exit->Act->World->Prop} (hK:∀v M L,VR L c v->Step B H.next G w H' M L->K (a.put o.dst v) M):o.wp P a w K Q:=by
 have I:∀s:Sem Next,tw P B H G w s c H'->execOp a.eval o=s->o.wp P a w K Q:=fun s hs he=>by
  obtain⟨m,M,L,v,h1,h2,h3,h4⟩:=hs;unfold Oper.wp;rw[he,h1];rcases h2 with rfl|⟨rfl,rfl⟩
  .exact hK v M L h3 h4
  .exact hK undef M L h3 h4
 unfold zgI at Z;split at Z
 .rename_i j U;unfold rS at Z;split at Z
  .rename_i g hg;split at Z
   .rename_i k cap vs hgv J;have O:tA G E a j.operands:=by rw[U]at hE;exact hE
    have hgr:=O g (by simp[Call.operands,hg]) _ hgv;have V:=zw (G:=G) (a:=a) (fun x hx=>O x (by simp[Call.operands,hg];exact .inr (by simpa using hx))) J;generalize hge:a.eval g=gv at hgr;cases hgr with
    |clo hl hv=>
     rename_i z;have hall:=V.append (G:=G) ⟨hl,hv⟩;obtain⟨⟨fn,hfn,i⟩,C⟩:=hih.call _ _ _ _ _ Z G w _ h hall;have hname:=fit.name _ _ hfn i;unfold Oper.wp;have hrun:(execOp a.eval o).run P w=.ok (.enter k ((j.args.toList.map a.eval)++z).toArray) w:=by
      have Y:j.args.map a.eval=(j.args.toList.map a.eval).toArray:=CB;unfold execOp;rw[U];simp only[eI,resolve,hg,hge,Deferred.ofValue,ky,eN,invoke,callFunc,run_program,hfn,hname];simp only[dm,cS];have hb:fn.body.isNone=false:=by cases hb:fn.body<;>simp_all
      rw[hb];simp[Y]
     rw[hrun];show Calls P k _ w _;refine C.mono fun e M hr=>?_;obtain⟨v,L,rfl,h1,h2⟩:=hr;exact hK v M L h1 h2
   .simp at Z
  .rename_i b hg;split at Z
   .rename_i vs J;split at Z
    .rename_i v H1 hb;simp only[Res.val.injEq]at Z;obtain⟨rfl,rfl⟩:=Z;have O:tA G E a j.operands:=by rw[U]at hE;exact hE
     have V:=zw (G:=G) (a:=a) (fun x hx=>O x (by simp[Call.operands,hg];simpa using hx)) J;have hs:=P2 (ty:=o.type) (consts:=j.args.map fun|.const _=>true |_=>false) h V hb;refine I _ hs ?_;have Y:j.args.map a.eval=(j.args.toList.map a.eval).toArray:=CB;unfold execOp;rw[U];simp only[resolve,hg,Y];rfl
    .simp at Z
   .simp at Z
  .simp at Z
 .rename_i op hne;unfold gT at Z;split at Z
  .rename_i v H1 ho;simp only[Res.val.injEq]at Z;obtain⟨rfl,rfl⟩:=Z;exact I _ (P1 h hE ho) rfl
  .simp at Z
theorem CR(fit:Fit P){n:Nat}{ih:Task->Res}(j:Snd P B n ih){f N:Nat}{ops:Array Oper}:∀(l:List Oper) {E E':aw}{H:Hp}{x:AX}{a:Act}{w:World}{G:Gh}{Q:Exit->Act->World->Prop},jP P B.cfg ih f N ops.toList l E H=.done x E' H' ->
 R B H w G->TR N G E a->a.defers=[]->(∀e O Y,kY B N H.next G w x E' H' e O Y->Q e O Y)->wpList P ops Q l a w
 |[],E,E',H,x,a,w,G,Q,hr,h,ht,hd,hQ=>by
  simp only[jP,Res.done.injEq]at hr;obtain⟨rfl,rfl,rfl⟩:=hr;exact hQ _ _ _ ⟨rfl,G,ht,lH h,hd⟩
 |o::l,E,E',H,x,a,w,G,Q,hr,h,ht,hd,hQ=>by
  have J:∀E H,(List.rec (motive:=fun _=>aw->Hp->Res) (fun E H=>.done .normal E H)
   (fun o _ U E H=>match zhw ops.toList E o with
     |true=>match zgI P B.cfg ih f E H o.op with
      | .val v H=>zhD U H (fk N E o.dst v)
      |_=>.fail
     |false=>zhD U H (fk N E o.dst zgA)) l E H:Res)=jP P B.cfg ih f N ops.toList l E H:=fun _ _=>rfl
  have i:jP P B.cfg ih f N ops.toList (o::l) E H=match zhw ops.toList E o with
   |true=>match zgI P B.cfg ih f E H o.op with
    | .val v H=>zhD (jP P B.cfg ih f N ops.toList l) H (fk N E o.dst v)
    |_=>.fail
   |false=>zhD (jP P B.cfg ih f N ops.toList l) H (fk N E o.dst zgA):=rfl
  rw[i]at hr;have Z:=GX (G:=G) (E:=E) (a:=a) (ops:=ops) (o:=o) (fun _ _ d _ _=>ht.slots d);have L:∀K v,(a.put K v).defers=[]:=fun K v=>by cases K<;>exact hd
  cases M:zhw ops.toList E o with
  |true=>
   rw[M]at hr Z;simp only[]at hr;split at hr
   .rename_i v H1 m;cases hp:fk N E o.dst v with
    |none=>rw[hp]at hr;simp[zhD]at hr
    |some E1=>
     rw[hp]at hr;simp only[zhD]at hr;unfold wpList;rw[aq Z.symm];refine .inl (zy fit j h (ht.knows _) m fun I Y C z g=>?_);have V:TR N C E1 (a.put o.dst I):=(ht.mono g.ext).put z hp;exact CR fit j l hr g.r V (L _ _) (fun e a w he=>hQ _ _ _ (zx g he))
   .simp at hr
  |false=>
   rw[M]at hr Z;simp only[]at hr;cases hp:fk N E o.dst zgA with
   |none=>rw[hp]at hr;simp[zhD]at hr
   |some E1=>
    rw[hp]at hr;simp only[zhD]at hr;unfold wpList;rw[af (by rw[<-Z];simp)];exact CR fit j l hr h (ht.put (wH G) hp) (L _ _) hQ
end
section
variable {P:Program} {B:Bs} {G:Gh} {H H':Hp} {w:World} {cfg:Cfg}
theorem Sx.beq_eq:∀{a b:Sx},Sx.beq a b=true->a=b
 | .var i,b,h=>by
   cases b<;>simp only[Sx.beq,dm]at h;rw[jf h]
 | .lit i,b,h=>by
   cases b<;>simp only[Sx.beq,dm,ow]at h;rw[h]
 | .bin o k x y,b,h=>by
   cases b<;>simp only[Sx.beq,dm,iX]at h;obtain⟨⟨⟨rfl,rfl⟩,Z⟩,g⟩:=h;rw[Sx.beq_eq Z,Sx.beq_eq g]
 | .conv k x,b,h=>by
   cases b<;>simp only[Sx.beq,dm,iX]at h;obtain⟨rfl,Z⟩:=h;rw[Sx.beq_eq Z]
mutual
theorem AV.beq_eq:∀{a b:AV},AV.beq a b=true->a=b
 | .int k a,b,h=>by
   cases b<;>simp only[AV.beq,iX,ow,dm]at h;obtain⟨rfl,rfl⟩:=h;rfl
 | .sx k a,b,h=>by
   cases b<;>simp only[AV.beq,iX,dm]at h;obtain⟨rfl,i⟩:=h;rw[Sx.beq_eq i]
 | .bool a,b,h=>by
   cases b<;>simp only[AV.beq,ow,dm]at h;subst h;rfl
 | .str a,b,h=>by
   cases b<;>simp only[AV.beq,ow,dm]at h;subst h;rfl
 | .nilP,b,h=>by cases b<;>simp only[AV.beq,dm]at h;rfl
 | .nilM,b,h=>by cases b<;>simp only[AV.beq,dm]at h;rfl
 | .nilF,b,h=>by cases b<;>simp only[AV.beq,dm]at h;rfl
 | .nilS,b,h=>by cases b<;>simp only[AV.beq,dm]at h;rfl
 | .ptr r o,b,h=>by
   cases b<;>simp only[AV.beq,co,dm]at h;obtain⟨i,g⟩:=h;rw[jf i,jf g]
 | .iptr a,b,h=>by
   cases b<;>simp only[AV.beq,dm]at h;rw[jO h]
 | .sl r o l z,b,h=>by
   cases b<;>simp only[AV.beq,co,dm]at h;obtain⟨⟨⟨i,g⟩,m⟩,O⟩:=h;rw[jf i,jf g,jf m,jf O]
 | .lst a,b,h=>by
   cases b<;>simp only[AV.beq,dm]at h;rw[GY h]
 | .map r,b,h=>by
   cases b<;>simp only[AV.beq,dm]at h;rw[jf h]
 | .clo f a,b,h=>by
   cases b<;>simp only[AV.beq,co,dm]at h;rw[jf h.1,jO h.2]
 | .agg a,b,h=>by
   cases b<;>simp only[AV.beq,dm]at h;rw[jO h]
 | .tup a,b,h=>by
   cases b<;>simp only[AV.beq,dm]at h;rw[jO h]
theorem jO:∀{a b:List AV},lE a b=true->a=b
 |[],b,h=>by cases b<;>simp only[lE,dm]at h;rfl
 |a::x,b,h=>by
  cases b<;>simp only[lE,co,dm]at h;rw[AV.beq_eq h.1,jO h.2]
theorem GY:∀{a b:List (List AV)},th a b=true->a=b
 |[],b,h=>by cases b<;>simp only[th,dm]at h;rfl
 |a::x,b,h=>by
  cases b<;>simp only[th,co,dm]at h;rw[jO h.1,GY h.2]
end
theorem GZ{Z β:Type}:∀{a b:List (Z×β)},a.map (·.1)=b.map (·.1)->a.map (·.2)=b.map (·.2)->a=b
 |[],b,h,_=>by cases b<;>simp at h;rfl
 |(x,y)::a,b,h,i=>by
  cases b with
  |nil=>simp at h
  |cons c b=>
   obtain⟨u,v⟩:=c;simp only[dE,eB]at h i;obtain⟨rfl,h⟩:=h;obtain⟨rfl,i⟩:=i;rw[GZ h i]
theorem HB.beq_eq{a b:HB}(h:HB.beq a b=true):a=b:=by
 cases a<;>cases b<;>simp only[HB.beq,co,dm,ow]at h
 .obtain⟨⟨i,g⟩,m⟩:=h;rw[jO i,jf g,m]
 .rw[GZ (jO h.1) (jO h.2)]
def nC(P:Program)(cfg:Cfg)(ih:Task->Res)(f N:Nat)(Z:List Oper):List Rec->List Oper->aw->Hp->aw->Hp->Prop
 |[],[],E,H,E',H'=>E=E'/\H=H'
 |r::rs,o::l,E,H,E',H'=>r.o=o/\r.E=E/\r.H=H/\zhw Z E o=r.did/\(r.did=true->zgI P cfg ih f E H o.op=.val r.val r.H')/\(r.did=false->r.val=zgA/\r.H'=H) /\
  ∃E1,fk N E o.dst r.val=some E1/\nC P cfg ih f N Z rs l E1 r.H' E' H'
 |_,_,_,_,_,_=>False
theorem wV{ih:Task->Res}{f N:Nat}{Z:List Oper}:∀{l:List Oper}{E E':aw}{H H':Hp}{rs:List Rec},jq P cfg ih f N Z l E H=.done E' H' rs->nC P cfg ih f N Z rs l E H E' H'
 |[],E,E',H,H',rs,h=>by
  simp only[jq,ResD.done.injEq]at h;obtain⟨rfl,rfl,rfl⟩:=h;exact⟨rfl,rfl⟩
 |o::l,E,E',H,H',rs,h=>by
  simp only[jq]at h;cases M:zhw Z E o with
  |true=>
   rw[M]at h;simp only[]at h;cases m:zgI P cfg ih f E H o.op with
   |val v H1=>
    rw[m]at h;simp only[]at h;cases hp:fk N E o.dst v with
    |none=>rw[hp]at h;simp[zhW,n1]at h
    |some E1=>
     rw[hp]at h;simp only[zhW]at h;cases hr:jq P cfg ih f N Z l E1 H1 with
     |fail=>rw[hr]at h;simp[n1]at h
     |done L J O=>
      rw[hr]at h;simp only[n1,ResD.done.injEq]at h;obtain⟨rfl,rfl,rfl⟩:=h;exact⟨rfl,rfl,rfl,M,fun _=>m,au,E1,hp,wV hr⟩
   |done _ _ _=>rw[m]at h;simp at h
   |fail=>rw[m]at h;simp at h
  |false=>
   rw[M]at h;simp only[]at h;cases hp:fk N E o.dst zgA with
   |none=>rw[hp]at h;simp[zhW,n1]at h
   |some E1=>
    rw[hp]at h;simp only[zhW]at h;cases hr:jq P cfg ih f N Z l E1 H with
    |fail=>rw[hr]at h;simp[n1]at h
    |done L J O=>
     rw[hr]at h;simp only[n1,ResD.done.injEq]at h;obtain⟨rfl,rfl,rfl⟩:=h;exact⟨rfl,rfl,rfl,M,au,fun _=>⟨rfl,rfl⟩,E1,hp,wV hr⟩
def f7(rs:List Rec)(L:aw)(e:Nat):aw:=match rs[e]? with
 |some r=>r.E
 |none=>L
theorem CS{ih:Task->Res}{f N:Nat}{Z:List Oper}:∀{rs:List Rec}{l:List Oper}{E E':aw}{H H':Hp},nC P cfg ih f N Z rs l E H E' H'->rs.length=l.length
 |[],[],_,_,_,_,_=>rfl
 |[],_::_,_,_,_,_,h=>by simp[nC]at h
 |_::_,[],_,_,_,_,h=>by simp[nC]at h
 |r::rs,o::l,E,E',H,H',h=>by
  obtain⟨_,_,_,_,_,_,E1,_,h⟩:=h;simp[CS h]
theorem CT{ih:Task->Res}{f N:Nat}{Z:List Oper}{rs:List Rec}{l:List Oper}{E L:aw}{H H':Hp}(h:nC P cfg ih f N Z rs l E H L H'):f7 rs L 0=E/\zf3 rs H' 0=H:=by
 cases rs with
 |nil=>
  cases l with
  |nil=>obtain⟨rfl,rfl⟩:=h;exact⟨rfl,rfl⟩
  |cons o l=>simp[nC]at h
 |cons r rs=>
  cases l with
  |nil=>simp[nC]at h
  |cons o l=>
   obtain⟨_,i,g,_⟩:=h;exact⟨by simp[f7,i],by simp[zf3,g]⟩
structure AtD (P:Program) (cfg:Cfg) (ih:Task->Res) (f N:Nat) (all:List Oper) (o:Oper) (r:Rec) (E E1:aw) (H H1:Hp):Prop where
 eo:r.o=o
 eE:r.E=E
 eH:r.H=H
 want:zhw all E o=r.did
 yes:r.did=true->zgI P cfg ih f E H o.op=.val r.val H1
 no:r.did=false->r.val=zgA/\H1=H
 put:fk N E o.dst r.val=some E1
 eH':r.H'=H1
theorem tB{ih:Task->Res}{f N:Nat}{Z:List Oper}:∀{rs:List Rec}{l:List Oper}{E E':aw}{H H':Hp},nC P cfg ih f N Z rs l E H E' H'->∀{i:Nat}{r:Rec},rs[i]?=some r ->
 ∃o,l[i]?=some o/\AtD P cfg ih f N Z o r (f7 rs E' i) (f7 rs E' (i+1)) (zf3 rs H' i) (zf3 rs H' (i+1))
 |[],_,_,_,_,_,_,i,r,hr=>by simp at hr
 |r::rs,[],_,_,_,_,h,_,_,_=>by simp[nC]at h
 |r::rs,o::l,E,E',H,H',h,i,r',hr=>by
  obtain⟨M,g,V,L,K,U,E1,I,O⟩:=h;obtain⟨j,C⟩:=CT O;cases i with
  |zero=>
   simp at hr;subst hr;have Y:f7 (r::rs) E' 1=E1:=by rw[<-j];simp[f7]
   have m:zf3 (r::rs) H' 1=r.H':=by rw[<-C];simp[zf3]
   have e3:f7 (r::rs) E' 0=E:=by simp[f7,g]
   have e4:zf3 (r::rs) H' 0=H:=by simp[zf3,V]
   refine⟨o,rfl,?_⟩;rw[Y,m,e3,e4];exact⟨M,g,V,L,K,fun z=>⟨(U z).1,(U z).2⟩,I,rfl⟩
  |succ i=>
   obtain⟨J,g1,g2⟩:=tB O (i:=i) (r:=r') (by simpa using hr);have Y:∀k,f7 (r::rs) E' (k+1)=f7 rs E' k:=fun k=>by simp[f7]
   have m:∀k,zf3 (r::rs) H' (k+1)=zf3 rs H' k:=fun k=>by simp[zf3]
   refine⟨J,by simpa using g1,?_⟩;rw[Y,Y,m,m];exact g2
def qV(op:Op):Bool:=match zhh op with|.calm=>true |_=>false
def pL(op:Op):Bool:=match zhh op with|.read=>true |_=>false
theorem P5{D:BinOp->Sx->Sx->Option Bool}{E:aw}{op:Op}(j:qV op=true):∃u,∀X,de P D E X op=ret X u:=by
 cases op<;>simp only[qV,zhh,dm]at j<;>simp only[de]
 case move x=>exact⟨_,fun X=>rfl⟩
 case assign x=>exact⟨_,fun X=>rfl⟩
 case pick c a b=>
  unfold yO;cases zfl E c with
  |none=>exact⟨none,fun X=>rfl⟩
  |some v=>cases v with
   |bool t=>cases t<;>exact⟨_,fun X=>rfl⟩
   |_=>exact⟨none,fun X=>rfl⟩
 case build t parts=>
  unfold yP;cases zhF E parts.toList with
  |none=>exact⟨none,fun X=>rfl⟩
  |some J=>exact⟨_,fun X=>rfl⟩
 case nilCheck x=>
  unfold yR;cases zfl E x with
  |none=>exact⟨none,fun X=>rfl⟩
  |some v=>cases v with
   |ptr r o=>exact⟨some (.ptr r o),fun X=>rfl⟩
   |iptr g=>exact⟨some (.iptr g),fun X=>rfl⟩
   |_=>exact⟨none,fun X=>rfl⟩
 case binOp op t x y yt=>
  unfold yS;cases zfl E x with
  |none=>exact⟨none,fun X=>rfl⟩
  |some v=>cases zfl E y with
   |none=>exact⟨none,fun X=>rfl⟩
   |some u=>exact⟨_,fun X=>rfl⟩
 case unOp op t x=>
  unfold yT;cases zfl E x with
  |none=>exact⟨none,fun X=>rfl⟩
  |some v=>exact⟨_,fun X=>rfl⟩
 case makeFunc fn first captured=>
  unfold yU;cases fn with
  |func f=>
   cases first.toList with
   |nil=>cases zhq E captured.toList with
    |none=>exact⟨none,fun X=>rfl⟩
    |some vs=>exact⟨some (.clo f vs),fun X=>rfl⟩
   |cons _ _=>exact⟨none,fun X=>rfl⟩
  |_=>exact⟨none,fun X=>rfl⟩
 case fieldAddr t x f=>
  unfold yV;cases zfl E x with
  |none=>exact⟨none,fun X=>rfl⟩
  |some v=>exact⟨_,fun X=>rfl⟩
 case field t x f=>
  unfold yW;cases zfl E x with
  |none=>exact⟨none,fun X=>rfl⟩
  |some v=>exact⟨_,fun X=>rfl⟩
 case indexAddr t x i=>
  unfold yX;cases zfl E x with
  |none=>exact⟨none,fun X=>rfl⟩
  |some v=>cases zfl E i with
   |none=>exact⟨none,fun X=>rfl⟩
   |some u=>exact⟨_,fun X=>rfl⟩
 case index t x i=>
  unfold yY;cases zfl E x with
  |none=>exact⟨none,fun X=>rfl⟩
  |some v=>cases zfl E i with
   |none=>exact⟨none,fun X=>rfl⟩
   |some u=>exact⟨_,fun X=>rfl⟩
 case extract x i=>
  unfold y0;cases zfl E x with
  |none=>exact⟨none,fun X=>rfl⟩
  |some v=>exact⟨_,fun X=>rfl⟩
 all_goals exact⟨none,fun X=>rfl⟩
theorem CU{D:BinOp->Sx->Sx->Option Bool}{E:aw}{op:Op}{v:AV}(j:qV op=true)(h:de P D E H op=some (v,H')):H'=H/\∀X,de P D E X op=some (v,X):=by
 obtain⟨u,O⟩:=P5 (P:=P) (D:=D) (E:=E) j;rw[O]at h;obtain⟨rfl,rfl⟩:=zhG h;exact⟨rfl,fun X=>by rw[O];rfl⟩
theorem CV{ih:Task->Res}{f:FuncId}{E:aw}{op:Op}{v:AV}(j:pL op=true)(h:zgI P cfg ih f E H op=.val v H'):H'=H:=by
 cases op<;>simp only[pL,zhh,dm]at j<;>simp only[zgI,de]at h
 case load t x=>
  unfold wm at h;split at h
  .cases C:iU P H t ‹AV› <;>rw[C]at h<;>simp[ret,gT]at h;exact h.2.symm
  .simp[gT]at h
 case slice t x lo hi mx=>
  unfold wr at h;split at h
  .rename_i M lv U _ _ _;cases C:nX P H t M lv U<;>rw[C]at h<;>simp[ret,gT]at h;exact h.2.symm
  .simp[gT]at h
 case convert s d x=>
  unfold wn at h;split at h
  .cases C:zhJ P H s d ‹AV› <;>rw[C]at h<;>simp[ret,gT]at h;exact h.2.symm
  .simp[gT]at h
 case lookup t m k ok=>
  unfold wt at h;split at h
  .rename_i mv Y _ _;cases C:zhv P H t mv Y ok<;>rw[C]at h<;>simp[ret,gT]at h;exact h.2.symm
  .simp[gT]at h
 case call c=>
  unfold rS at h;cases hc:c.callee with
  |value g=>rw[hc]at j;simp at j
  |invoke g m=>rw[hc]at j;simp at j
  |builtin b=>
   rw[hc]at j h;simp only[]at h;split at h
   .rename_i vs _;cases b<;>simp only[dm]at j<;>simp only[pI]at h;all_goals
     split at h
     .rename_i Z H1 o;simp only[Res.val.injEq]at h;obtain⟨rfl,rfl⟩:=h;split at o
      .split at o
       .simp only[cH]at o;exact o.2.symm
       .simp at o
      .simp at o
     .simp at h
   .simp at h
theorem P6{D:BinOp->Sx->Sx->Option Bool}{E:aw}{o:Oper}{v:AV}(j:rU o=true)(h:de P D E H o.op=some (v,H')):∃U,H'=H.alloc U:=by
 obtain⟨K,J,M,O,Z,guard⟩:=o;simp only[]at h;cases J<;>simp only[rU,zhh,dm]at j<;>simp only[de,reduceCtorEq]at h
 case alloc t=>
  unfold wi at h;split at h
  .simp only[cH]at h;exact⟨_,h.2.symm⟩
  .simp at h
 case box t x=>
  unfold wj at h;split at h
  .simp only[cH]at h;exact⟨_,h.2.symm⟩
  .simp at h
 case buildSlice t len parts=>
  unfold wl at h;split at h
  .unfold zgW at h;(repeat' split at h)<;>first|(simp only[cH]at h;exact⟨_,h.2.symm⟩)|simp at h
  .simp at h
 case makeMap t r=>
  unfold wo at h;split at h
  .simp only[cH]at h;exact⟨_,h.2.symm⟩
  .simp at h
 case makeSlice t l c=>
  unfold wq at h;split at h
  .unfold zhT at h;(repeat' split at h)<;>first|(simp only[cH]at h;exact⟨_,h.2.symm⟩)|simp at h
  .simp at h
theorem tC{ih:Task->Res}{f:FuncId}{E:aw}{op:Op}{v:AV}(z:∀c,op≠.call c):zgI P cfg ih f E H op=.val v H'↔de P cfg.dec E H op=some (v,H'):=by
 have:zgI P cfg ih f E H op=gT (de P cfg.dec E H op):=by
  unfold zgI;split
  .exact(z _ rfl).elim
  .rfl
 rw[this];cases de P cfg.dec E H op with
 |none=>simp[gT]
 |some p=>obtain⟨a,b⟩:=p;simp[gT]
theorem P7{ih:Task->Res}{f:FuncId}{E:aw}{o:Oper}{v:AV}(j:mI o=false)(h:zgI P cfg ih f E H o.op=.val v H'):H'=H\/∃U,H'=H.alloc U:=by
 cases I:zhh o.op with
 |act=>simp[mI,I]at j
 |read=>exact .inl (CV (by simp[pL,I]) h)
 |calm=>
  have z:∀c,o.op≠.call c:=fun c e=>by
   rw[e]at I;simp only[zhh]at I;split at I<;>simp at I
  exact .inl (CU (P:=P) (by simp[qV,I]) ((tC z).1 h)).1
 |make=>
  have z:∀c,o.op≠.call c:=fun c e=>by
   rw[e]at I;simp only[zhh]at I;split at I<;>simp at I
  exact .inr (P6 (by simp[rU,I]) ((tC z).1 h))
end
end Go.Ab
